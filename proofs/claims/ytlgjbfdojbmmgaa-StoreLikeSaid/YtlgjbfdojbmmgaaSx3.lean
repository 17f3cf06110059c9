/- Part 3 of a checked symbolic executor: what a function's code does is read off as a tree over plain data. No condition. -/
import Derived.Test.YtlgjbfdojbmmgaaSx2
import Derived.Laws.BytesString
import Derived.Laws.IdiomStrings
import Derived.Laws.Append
import Derived.Laws.AppendOwn
import Derived.Laws.CopyRow
import Derived.ChangeKeysEq
import Derived.MapKept
set_option linter.unusedSimpArgs false
set_option linter.unusedVariables false
namespace Go.SX
open Go.RowKit (Below)
def zkB:List (List Value)→List (Nat×Value)→List (List Value)
 | cs,[]=>cs
 | cs,(i,v)::r=>zkB (cs.set i v.cells.toList) r
theorem zi3:∀ {cs:List (List Value)}{j:Nat}{c new:List Value},cs[j]?=some c→new.length=c.length→patch cs.flatten ((cs.take j).flatten.length) new=(cs.set j new).flatten
 | [],j,_,_,h,_=>by simp at h
 | c0::cs,0,c,new,h,hl=>by
  simp at h
  subst h
  simp [patch,hl]
 | c0::cs,j + 1,c,new,h,hl=>by
  simp at h
  have ih:=zi3 h hl
  simp only [List.take_succ_cons,List.flatten_cons,List.set_cons_succ,wI0]
  rw [← ih]
  unfold patch
  rw [zhj,Nat.add_assoc,zdD]
  simp [List.append_assoc]
theorem zf3 {place:Nat→Option (Nat×Nat)}{ss:List Nat}:∀ {pv:List (Nat×Value)}{cs:List (List Value)}{cells:Array Value},cells.toList=cs.flatten→cs.map List.length=ss →
  (∀ p∈pv,∃ s,ss[p.1]?=some s∧place p.1=some ((ss.take p.1).sum,s)∧p.2.cells.toList.length=s)→Instr.fill place cells pv=some (zkB cs pv).flatten.toArray
 | [],cs,cells,hc,_,_=>by
  simp only [Instr.fill,zkB,wB0]
  rw [← hc]
 | (i,v)::pv,cs,cells,hc,hs,h=>by
  obtain ⟨s,h1,h2,h3⟩:=h (i,v) (by simp)
  simp only at h1 h2 h3
  have hcl:∃ c,cs[i]?=some c∧c.length=s:=by
   rw [← hs,List.getElem?_map] at h1
   cases hx:cs[i]? with
   | none=>simp [hx] at h1
   | some c=>simp only [hx,Option.map_some,wB0] at h1;exact ⟨c,rfl,h1⟩
  obtain ⟨c,hx,hcs⟩:=hcl
  have hoff:(ss.take i).sum=(cs.take i).flatten.length:=by rw [← hs,← List.map_take,List.length_flatten]
  have hfit:(ss.take i).sum + s≤cells.size:=by
   have e1:cells.size=cs.flatten.length:=by rw [← hc];simp
   have e2:cs.flatten.length=(cs.take i).flatten.length + (cs.drop i).flatten.length:=by rw [← wI0,← List.flatten_append,List.take_append_drop]
   have e3:cs.drop i=c::cs.drop (i + 1):=by
    obtain ⟨hlt,e⟩:=List.getElem?_eq_some_iff.1 hx
    rw [← e];exact List.drop_eq_getElem_cons hlt
   rw [e3] at e2
   simp only [List.flatten_cons,wI0] at e2
   omega
  rw [znl h2 h3 hfit]
  have hpc:=zi3 hx (new:=v.cells.toList) (by omega)
  rw [zkB]
  refine zf3 (ss:=ss) ?_ ?_ fun p hp=>h p (by simp [hp])
  ·rw [hc,hoff];exact hpc
  ·rw [List.map_set,hs]
   apply List.ext_getElem?
   intro j
   by_cases hj:j=i
   ·subst hj
    rw [List.getElem?_set_self (List.getElem?_eq_some_iff.1 h1).1,h1,h3]
   ·rw [List.getElem?_set_ne (Ne.symm hj)]
def zc1 (j:Nat):List (Nat×Value)→Option Value
 | []=>none
 | (i,v)::l=>if Nat.beq i j then some v else zc1 j l
def zdJ:List (Nat×Value)→Nat→Nat→Prop
 | [],_,_=>True
 | (i,_)::l,lo,n=>lo≤i∧i<n∧zdJ l (i + 1) n
theorem zhn:∀ {pv:List (Nat×Value)}{lo n j:Nat},zdJ pv lo n→j<lo→zc1 j pv=none
 | [],_,_,_,_,_=>rfl
 | (i,v)::pv,lo,n,j,h,hj=>by
  simp only [zdJ] at h
  simp only [zc1]
  rw [if_neg (by intro hb;have:=zad hb;omega)]
  exact zhn h.2.2 (by omega)
theorem zj5:∀ {pv:List (Nat×Value)}{cs:List (List Value)}{lo j:Nat},zdJ pv lo cs.length→(zkB cs pv)[j]?=match zc1 j pv with
  | some v=>some v.cells.toList
  | none=>cs[j]?
 | [],cs,lo,j,_=>rfl
 | (i,v)::pv,cs,lo,j,h=>by
  simp only [zdJ] at h
  obtain ⟨h1,h2,h3⟩:=h
  rw [zkB,zj5 (lo:=i + 1) (by simpa using h3)]
  by_cases hj:i=j
  ·subst hj
   rw [zhn h3 (by omega)]
   simp only [zc1,Nat.beq_refl,if_true]
   exact List.getElem?_set_self h2
  ·have:¬ (Nat.beq i j=true):=fun hb=>hj (zad hb)
   simp only [zc1,if_neg this]
   cases zc1 j pv with
   | some u=>rfl
   | none=>exact List.getElem?_set_ne hj
theorem zhV:∀ {pv:List (Nat×Value)}{cs:List (List Value)},(zkB cs pv).length=cs.length
 | [],_=>rfl
 | (i,v)::pv,cs=>by rw [zkB,zhV];simp
theorem DRepL.chunks {w:World}{M:Nat→Prop}:∀ {Ts:List Ty}{ds:List D}{cs:List Value},DRepL w M Ts ds cs →
  ∃ ch:List (List Value),cs=ch.flatten∧ch.map List.length=Ts.map Ty.size∧∀ (j:Nat) (T:Ty) (d:D) (c:List Value),Ts[j]?=some T→ds[j]?=some d→ch[j]?=some c→DRep w M T d c
 | [],[],cs,h=>by simp only [DRepL] at h;subst h;exact ⟨[],rfl,rfl,by simp⟩
 | T::Ts,d::ds,cs,h=>by
  simp only [DRepL] at h
  obtain ⟨c1,c2,e,h1,h2⟩:=h
  obtain ⟨ch,e2,hl,hch⟩:=DRepL.chunks h2
  refine ⟨c1::ch,by simp [e,e2],by simp [hl,h1.length],fun j T' d' c' g1 g2 g3=>?_⟩
  cases j with
  | zero=>simp at g1 g2 g3;subst g1 g2 g3;exact h1
  | succ j=>simp at g1 g2 g3;exact hch j T' d' c' g1 g2 g3
 | [],_::_,_,h=>by simp only [DRepL] at h
 | _::_,[],_,h=>by simp only [DRepL] at h
section
variable {C:FuncId→List D→Option (List D)} {k B0:Nat} {X:Ctx} {cx:Cx}
theorem CRepL.of:∀ {l:List SV}{Ts:List Ty}{ch:List (List Value)},l.length=Ts.length→ch.length=Ts.length→(∀ (j:Nat) (s:SV) (T:Ty) (c:List Value),l[j]?=some s→Ts[j]?=some T→ch[j]?=some c→s.hasTy T∧CRep X s c)→CRepL X l Ts ch.flatten
 | [],[],[],_,_,_=>by simp [CRepL]
 | s::l,T::Ts,c::ch,h1,h2,h=>by
  simp only [CRepL]
  obtain ⟨g1,g2⟩:=h 0 s T c rfl rfl rfl
  exact ⟨c,ch.flatten,rfl,g1,g2,CRepL.of (by simpa using h1) (by simpa using h2) fun j s T c e1 e2 e3=>h (j + 1) s T c (by simpa using e1) (by simpa using e2) (by simpa using e3)⟩
 | [],_::_,_,h,_,_|_::_,[],_,h,_,_|_,[],_::_,_,h,_|_,_::_,[],_,h,_=>by simp at h
theorem zhB:∀ {ps:List (Nat×SV)}{pv:List (Nat×Value)}{lo n:Nat},zaY X ps pv→sorted ps lo n=true→zdJ pv lo n
 | [],[],_,_,_,_=>trivial
 | (i,s)::ps,(j,v)::pv,lo,n,h,hs=>by
  simp only [zaY] at h
  obtain ⟨e,_,h⟩:=h
  subst e
  simp only [sorted,wD0] at hs
  obtain ⟨⟨h1,h2⟩,h3⟩:=hs
  exact ⟨Nat.le_of_ble_eq_true h1,Nat.lt_of_succ_le (Nat.le_of_ble_eq_true h2),zhB h h3⟩
 | [],_::_,_,_,h,_|_::_,[],_,_,h,_=>by simp only [zaY] at h
theorem zpa:∀ {ps:List (Nat×SV)}{pv:List (Nat×Value)}{j:Nat},zaY X ps pv→(partOf j ps=none∧zc1 j pv=none)∨∃ s v,partOf j ps=some s∧zc1 j pv=some v∧VRep X s v
 | [],[],_,_=>.inl ⟨rfl,rfl⟩
 | (i,s)::ps,(i',v)::pv,j,h=>by
  simp only [zaY] at h
  obtain ⟨e,hv,h⟩:=h
  subst e
  simp only [partOf,zc1]
  by_cases hb:Nat.beq i j=true
  ·rw [if_pos hb,if_pos hb]
   exact .inr ⟨s,v,rfl,rfl,hv⟩
  ·rw [if_neg hb,if_neg hb]
   exact zpa h
 | [],_::_,_,h|_::_,[],_,h=>by simp only [zaY] at h
theorem ziq {μ:Nat→Root}{ps:List (Nat×SV)}{pv:List (Nat×Value)}(hp:zaY X ps pv):∀ {Ts:List Ty}{j:Nat}{l:List SV}{σ σ':SS},Run (zjf Ts j ps) μ σ l σ' →
  σ'=σ∧l.length=Ts.length∧∀ (i:Nat) (s:SV) (T:Ty),l[i]?=some s→Ts[i]?=some T→s.hasTy T∧match zc1 (j + i) pv with
   | some v=>CRep X s v.cells.toList
   | none=>s=.d T (.c T.zero)
 | [],j,l,σ,σ',h=>by
  simp only [zjf] at h
  obtain ⟨e1,e2⟩:=Run.pure h
  subst e1 e2
  exact ⟨rfl,rfl,by simp⟩
 | T::Ts,j,l,σ,σ',h=>by
  unfold zjf at h
  have key:∀ {s:SV} {σ1:SS},(Run (zjf Ts (j + 1) ps >>= fun l=>SX.X.pure (s::l)) μ σ1 l σ')→σ1=σ→s.hasTy T→(match zc1 j pv with
   | some v=>CRep X s v.cells.toList
   | none=>s=.d T (.c T.zero))→σ'=σ∧l.length=(T::Ts).length∧∀ (i:Nat) (s:SV) (T':Ty),l[i]?=some s→(T::Ts)[i]?=some T'→s.hasTy T'∧match zc1 (j + i) pv with
   | some v=>CRep X s v.cells.toList
   | none=>s=.d T' (.c T'.zero):=by
   intro s σ1 h1 e1 ht hc
   obtain ⟨l',σ2,h2,h3⟩:=Run.bind h1
   obtain ⟨e2,e3⟩:=Run.pure h3
   obtain ⟨e4,hl,hall⟩:=ziq hp h2
   subst e2 e3 e4 e1
   refine ⟨rfl,by simp [hl],fun i s' T' g1 g2=>?_⟩
   cases i with
   | zero=>simp at g1 g2;subst g1 g2;exact ⟨ht,hc⟩
   | succ i =>
    simp at g1 g2
    have:=hall i s' T' g1 g2
    rw [show j + 1 + i=j + (i + 1) by omega] at this
    exact this
  rcases zpa (j:=j) hp with ⟨p1,p2⟩|⟨s,v,p1,p2,hv⟩
  ·rw [p1] at h
   dsimp only at h
   obtain ⟨s,σ1,h1,h2⟩:=Run.bind h
   obtain ⟨e1,e2⟩:=Run.pure h1
   subst e1
   exact key h2 e2 rfl (by rw [p2])
  ·rw [p1] at h
   dsimp only at h
   obtain ⟨s',σ1,h1,h2⟩:=Run.bind h
   obtain ⟨e1,ht,_,hc⟩:=zdk h1 hv
   exact key h2 e1 ht (by rw [p2];exact hc)
theorem zkU:∀ {l:List SV}{Ts:List Ty}{as:List At}{cs:List Value},zmT l=some as→CRepL X l Ts cs→∃ ds,gets X.E as=some ds∧DRepL X.w X.M Ts ds cs
 | [],[],as,cs,h,hc=>by
  simp only [zmT,wB0] at h
  subst h
  simp only [CRepL] at hc
  exact ⟨[],rfl,by simp only [DRepL];exact hc⟩
 | s::l,T::Ts,as,cs,h,hc=>by
  cases s<;>simp only [zmT,reduceCtorEq] at h
  split at h
  ·rename_i as' hd
   injection h with h
   subst h
   simp only [CRepL] at hc
   obtain ⟨c1,c2,e,ht,h1,h2⟩:=hc
   obtain ⟨ds,g1,g2⟩:=zkU hd h2
   simp only [SV.hasTy] at ht
   subst ht
   simp only [CRep] at h1
   obtain ⟨d,f1,f2⟩:=h1
   exact ⟨d::ds,by simp [gets,f1,g1],by simp only [DRepL];exact ⟨c1,c2,e,f2,g2⟩⟩
  ·cases h
 | [],_::_,_,_,_,h|_::_,[],_,_,_,h=>by simp only [CRepL] at h
end
end Go.SX
namespace Go.SX
open Go.RowKit (Below)
theorem zgG:∀ {pv:List (Nat×Value)}{lo n:Nat},zdJ pv lo n→∀ p∈pv,zc1 p.1 pv=some p.2∧p.1<n
 | [],_,_,_,p,hp=>by cases hp
 | (i,v)::pv,lo,n,h,p,hp=>by
  simp only [zdJ] at h
  obtain ⟨h1,h2,h3⟩:=h
  rcases List.mem_cons.1 hp with hp|hp
  ·subst hp;exact ⟨by simp [zc1],h2⟩
  ·obtain ⟨g1,g2⟩:=zgG h3 p hp
   refine ⟨?_,g2⟩
   have:¬ (Nat.beq i p.1=true):=fun hb=>by
    have e:=zad hb
    have:=zhn h3 (j:=p.1) (by omega)
    rw [this] at g1
    cases g1
   simp only [zc1,if_neg this]
   exact g1
theorem znK:∀ {Ts:List Ty}{j:Nat},(Ty.zeroL Ts)[j]?=Ts[j]?.map Ty.zero
 | [],j=>by simp [Ty.zeroL]
 | T::Ts,0=>by simp [Ty.zeroL]
 | T::Ts,j + 1=>by simp only [Ty.zeroL,List.getElem?_cons_succ];exact znK
theorem znW:∀ (Ts:List Ty),(Ts.map Ty.size).sum=Ty.sizeL Ts
 | []=>by simp [Ty.sizeL]
 | T::Ts=>by simp [Ty.sizeL,znW Ts]
section
variable {C:FuncId→List D→Option (List D)} {k B0:Nat} {X:Ctx} {cx:Cx}
theorem zkV (ty:TysOk cx):∀ {fs:List Field},(∀ f∈fs,cx.T f.type≠.no)→fs.mapM (fun f=>(cx.P.info? f.type).map fun i=>(f.offset,i.size))=some (fs.map fun f=>(f.offset,(cx.T f.type).size))
 | [],_=>by simp
 | f::fs,h=>by
  obtain ⟨i,tf⟩:=ty.get (t:=f.type) rfl (h f (by simp))
  have ih:=zkV ty (fs:=fs) fun g hg=>h g (by simp [hg])
  simp [List.mapM_cons,tf.info,tf.size,ih]
theorem buildStruct (ty:TysOk cx) {t:TypeId}{Ts:List Ty}{ps:List (Nat×SV)}{pv:List (Nat×Value)}{l:List SV}{μ:Nat→Root}{σ σ':SS}(hT:cx.T t=.st Ts) (hp:zaY X ps pv) (hso:sorted ps 0 Ts.length=true) (h:Run (zjf Ts 0 ps) μ σ l σ') :
  σ'=σ∧∃ cells:Array Value,cx.P.built t pv=some cells∧CRepL X l Ts cells.toList:=by
 obtain ⟨es,hll,hl⟩:=ziq hp h
 refine ⟨es,?_⟩
 obtain ⟨i,tf⟩:=ty.get hT (by simp)
 obtain ⟨fs,hu,hTs,ho⟩:=tf.desc
 have hk:=tf.known
 simp only [Ty.known] at hk
 obtain ⟨z,hz,hd⟩:=tf.zero
 have hzd:=hd X.w X.M
 unfold DVal at hzd
 simp only [Ty.isAgg,if_true,Ty.zero,DRep] at hzd
 obtain ⟨zc,ez,hzd⟩:=hzd
 obtain ⟨ch,e1,e2,e3⟩:=hzd.chunks
 have hchl:ch.length=Ts.length:=by have:=congrArg List.length e2;simpa using this
 have hsv:=zhB hp hso
 have hnk:∀ f∈fs.toList,cx.T f.type≠.no:=fun f hf=>by
  obtain ⟨j,hj⟩:=List.mem_iff_getElem?.1 hf
  have:Ts[j]?=some (cx.T f.type):=by rw [hTs];simp [hj]
  exact za7 (zeg hk this)
 have hplace:=zkV ty hnk
 have hfill:=zf3 (place:=((fs.toList.map fun f=>(f.offset,(cx.T f.type).size)).toArray[·]?)) (ss:=Ts.map Ty.size) (pv:=pv) (cs:=ch) (cells:=zc) e1 e2 fun p hp'=>by
  obtain ⟨g1,g2⟩:=zgG hsv p hp'
  obtain ⟨T,hTj⟩:∃ T,Ts[p.1]?=some T:=⟨Ts[p.1],wF0 g2⟩
  obtain ⟨s,hs⟩:∃ s,l[p.1]?=some s:=⟨l[p.1]'(by omega),wF0 _⟩
  obtain ⟨q1,q2⟩:=hl p.1 s T hs hTj
  rw [Nat.zero_add,g1] at q2
  refine ⟨T.size,by simp [hTj],?_,CRep.length q1 q2⟩
  have hTj2:=hTj
  rw [hTs] at hTj2
  simp only [List.getElem?_map] at hTj2
  cases hf:fs.toList[p.1]? with
  | none=>simp [hf] at hTj2
  | some f =>
   simp only [hf,Option.map_some,wB0] at hTj2
   have hoff:=zhP ho hf
   simp only [List.getElem?_toArray,List.getElem?_map,hf,Option.map_some,wB0,Prod.mk.injEq]
   rw [← List.map_take,znW]
   refine ⟨?_,by rw [hTj2]⟩
   rw [hTs]
   omega
 refine ⟨(zkB ch pv).flatten.toArray,?_,?_⟩
 ·simp only [Program.built,tf.info,hu,hz,hplace]
  rw [ez]
  exact hfill
 ·refine CRepL.of hll (by rw [zhV];exact hchl) fun j s T c g1 g2 g3=>?_
  obtain ⟨q1,q2⟩:=hl j s T g1 g2
  refine ⟨q1,?_⟩
  rw [zj5 (lo:=0) (by rw [hchl];exact hsv)] at g3
  rw [Nat.zero_add] at q2
  cases hvp:zc1 j pv with
  | some v =>
   rw [hvp] at q2 g3
   simp only [wB0] at g3
   subst g3
   exact q2
  | none =>
   rw [hvp] at q2 g3
   simp only at q2 g3
   subst q2
   simp only [CRep]
   exact ⟨_,rfl,e3 j T T.zero c g2 (by rw [znK,g2];rfl) g3⟩
end
end Go.SX
namespace Go.SX
open Go.RowKit (Below)
theorem DRepA.asL {w:World}{M:Nat→Prop}{e:Ty}:∀ {ds:List D}{cs:List Value},DRepA w M e ds cs→DRepL w M (List.replicate ds.length e) ds cs
 | [],cs,h=>by simpa only [DRepA,List.length_nil,List.replicate_zero,DRepL] using h
 | d::ds,cs,h=>by
  simp only [DRepA] at h
  obtain ⟨c1,c2,e',h1,h2⟩:=h
  simp only [List.length_cons,List.replicate_succ,DRepL]
  exact ⟨c1,c2,e',h1,DRepA.asL h2⟩
theorem zm7 {w:World}{M:Nat→Prop}{T:Ty}{d:D}{cs:List Value}(h:DRep w M T d cs) (_hn:T≠.no):∃ v,v.cells.toList=cs∧DVal w M T d v:=by
 unfold DVal
 cases ha:T.isAgg with
 | true=>exact ⟨.agg cs.toArray,by simp [Value.cells],by simp only [if_true];exact ⟨_,rfl,h⟩⟩
 | false =>
  have hl:=h.length
  rw [ziO ha] at hl
  match cs,hl with
  | [v],_ =>
   have ho:=DRep.one ha h
   exact ⟨v,by rw [ho.cells],by simp only [wA0,if_false];exact ⟨ho,h⟩⟩
section
variable {C:FuncId→List D→Option (List D)} {k B0:Nat} {X:Ctx} {cx:Cx}
theorem zoa {e:Ty}(hn:e≠.no) {ps:List (Nat×SV)}{pv:List (Nat×Value)}(hp:zaY X ps pv) {ch:List (List Value)}:∀ {n j:Nat},(∀ (i:Nat) (c:List Value),j≤i→ch[i]?=some c→DRep X.w X.M e e.zero c)→ch.length=j + n →
  ∃ vs,VRepL X (zfB e.zero e ps n j) vs∧vs.length=n∧∀ (i:Nat) (v:Value),vs[i]?=some v→some v.cells.toList=match zc1 (j + i) pv with
   | some u=>some u.cells.toList
   | none=>ch[j + i]?
 | 0,j,_,_=>⟨[],by simp only [zfB,VRepL],rfl,by simp⟩
 | n + 1,j,hc,hl=>by
  obtain ⟨vs,h1,h2,h3⟩:=zoa hn hp (n:=n) (j:=j + 1) (fun i c hi=>hc i c (by omega)) (by omega)
  have tail:∀ {v:Value},(some v.cells.toList=match zc1 j pv with
   | some u=>some u.cells.toList
   | none=>ch[j]?)→∀ (i:Nat) (u:Value),(v::vs)[i]?=some u→some u.cells.toList=match zc1 (j + i) pv with
   | some u=>some u.cells.toList
   | none=>ch[j + i]?:=by
   intro v hv i u hu
   cases i with
   | zero=>simp at hu;subst hu;exact hv
   | succ i =>
    simp at hu
    have:=h3 i u hu
    rw [show j + 1 + i=j + (i + 1) by omega] at this
    exact this
  rcases zpa (j:=j) hp with ⟨p1,p2⟩|⟨s,v,p1,p2,hv⟩
  ·obtain ⟨c,hcj⟩:∃ c,ch[j]?=some c:=⟨ch[j]'(by omega),wF0 _⟩
   obtain ⟨v,e1,e2⟩:=zm7 (hc j c (wG0 _) hcj) hn
   refine ⟨v::vs,?_,by simp [h2],tail (by rw [p2,e1,hcj])⟩
   simp only [zfB,p1,VRepL]
   exact ⟨v,vs,rfl,VRep.data.2 ⟨_,rfl,e2⟩,h1⟩
  ·refine ⟨v::vs,?_,by simp [h2],tail (by rw [p2])⟩
   simp only [zfB,p1,VRepL]
   exact ⟨v,vs,rfl,hv,h1⟩
theorem zq0 (ty:TysOk cx) (hB:B0≤X.w.heap.size) (m:Mem B0 X) {t:TypeId}{ps:List (Nat×SV)}{pv:List (Nat×Value)}{sv:SV}{s0 s':SS}(h0:s0.up=[]) (h:Run (zj2 cx t ps) X.μ s0 sv s') (hs:Sat C k X.E s'.bs s'.nv)
  (hp:zaY X ps pv):Acts cx.P B0 X (Instr.build t pv.toArray) s0 s' fun X' v=>VRep X' sv v:=by
 have hmv:X.mv s0.up=X:=by rw [h0];rfl
 unfold zj2 at h
 split at h
 ·rename_i Ts hT
  obtain ⟨_,s1,h1,h2⟩:=Run.bind h
  obtain ⟨hso,es⟩:=Run.guard h1
  subst es
  obtain ⟨l,s2,h3,h4⟩:=Run.bind h2
  obtain ⟨es,cells,hb,hc⟩:=buildStruct ty hT hp hso h3
  subst es
  have hrun:=run_build (P:=cx.P) X.w t pv.toArray cells hb
  have nx:∀ {sx:SS},sx.up=s2.up→sx.ab=s2.ab→Nx B0 X X sx.up s2.ab sx.ab X.w:=fun e1 e2=>by
   rw [e1,e2,h0]
   exact Nx.same (up:=[]) (Ext.refl X) m
  split at h4
  ·rename_i as hda
   obtain ⟨a,s3,h5,h6⟩:=Run.bind h4
   obtain ⟨e1,e2⟩:=Run.pure h6
   subst e1 e2
   obtain ⟨⟨vals,d,q1,q2,q3⟩,q5,q6⟩:=Run.op h5 hs
   obtain ⟨ds,g1,g2⟩:=zkU hda hc
   rw [g1] at q1
   injection q1 with q1
   subst q1
   simp only [Prim.run,wB0] at q2
   subst q2
   refine ⟨_,_,X,hrun,nx q5 q6,VRep.data.2 ⟨_,q3,?_⟩⟩
   unfold DVal
   simp only [Ty.isAgg,if_true,DRep]
   exact ⟨cells,rfl,g2⟩
  ·obtain ⟨e1,e2⟩:=Run.pure h4
   subst e1 e2
   exact ⟨_,_,X,hrun,nx rfl rfl,by simp only [VRep];exact ⟨cells,rfl,hc⟩⟩
 ·rename_i n e hT
  obtain ⟨_,s1,h1,h2⟩:=Run.bind h
  obtain ⟨hg,es⟩:=Run.guard h1
  subst es
  simp only [wD0] at hg
  obtain ⟨hso,_⟩:=hg
  obtain ⟨as,s2,h3,h4⟩:=Run.bind h2
  obtain ⟨a,s3,h5,h6⟩:=Run.bind h4
  obtain ⟨e1,e2⟩:=Run.pure h6
  subst e1 e2
  obtain ⟨i,tf⟩:=ty.get hT (by simp)
  obtain ⟨E,ie,hu,tfe⟩:=zhc ty hT
  obtain ⟨z,hz,hd⟩:=tf.zero
  have hzd:=hd X.w X.M
  unfold DVal at hzd
  simp only [Ty.isAgg,if_true,Ty.zero,DRep] at hzd
  obtain ⟨zc,ez,_,hzd⟩:=hzd
  have hzl:=hzd.asL
  rw [List.length_replicate] at hzl
  obtain ⟨ch,e1,e2,e3⟩:=hzl.chunks
  have hchl:ch.length=n:=by have:=congrArg List.length e2;simpa using this
  have hen:=za7 tfe.known
  have hch:∀ (i:Nat) (c:List Value),0≤i→ch[i]?=some c→DRep X.w X.M e e.zero c:=fun i c _ hc=>by
   have hlt:i<n:=by rw [← hchl];exact (List.getElem?_eq_some_iff.1 hc).1
   exact e3 i e e.zero c (by simp [hlt]) (by simp [hlt]) hc
  obtain ⟨vs,hv1,hv2,hv3⟩:=zoa hen hp (n:=n) (j:=0) hch (by omega)
  obtain ⟨x1,m1,hab,_,ds,hds,hda,hdl,hcl⟩:=zep hB h3 (h5.sat hs) (by rw [hmv];exact m) (by rw [hmv];exact hv1)
  rw [hmv] at x1
  obtain ⟨⟨vals,d,q1,q2,q3⟩,q5,q6⟩:=Run.op h5 hs
  rw [hds] at q1
  injection q1 with q1
  subst q1
  simp only [Prim.run,wB0] at q2
  subst q2
  have hsv:=zhB hp hso
  have hsize:∀ p∈pv,p.2.cells.toList.length=e.size:=fun p hp'=>by
   obtain ⟨g1,g2⟩:=zgG hsv p hp'
   obtain ⟨v,hv⟩:∃ v,vs[p.1]?=some v:=⟨vs[p.1]'(by omega),wF0 _⟩
   have:=hv3 p.1 v hv
   rw [Nat.zero_add,g1] at this
   simp only [wB0] at this
   rw [← this]
   exact hcl v (List.mem_of_getElem? hv)
  have hfill:=zf3 (place:=fun i=>some (i * e.size,e.size)) (ss:=(List.replicate n e).map Ty.size) (pv:=pv) (cs:=ch) (cells:=zc) e1 e2 fun p hp'=>by
   obtain ⟨g1,g2⟩:=zgG hsv p hp'
   refine ⟨e.size,by simp [g2],?_,hsize p hp'⟩
   simp only [List.map_replicate,List.take_replicate,Nat.min_eq_left (Nat.le_of_lt g2),List.sum_replicate_nat]
  have hflat:(zkB ch pv).flatten=flat vs:=by
   unfold flat
   congr 1
   apply List.ext_getElem?
   intro j
   rw [zj5 (lo:=0) (by rw [hchl];exact hsv),List.getElem?_map]
   by_cases hj:j<n
   ·obtain ⟨v,hv⟩:∃ v,vs[j]?=some v:=⟨vs[j]'(by omega),wF0 _⟩
    have:=hv3 j v hv
    rw [Nat.zero_add] at this
    rw [hv,Option.map_some,this]
    all_goals (cases zc1 j pv<;>rfl)
   ·rw [List.getElem?_eq_none (by omega:vs.length≤j)]
    cases hvp:zc1 j pv with
    | none=>simp only [Option.map_none];exact List.getElem?_eq_none (by omega)
    | some u =>
     exfalso
     have key:∀ {l:List (Nat×Value)} {lo:Nat},zdJ l lo n→zc1 j l=some u→j<n:=by
      intro l
      induction l with
      | nil=>intro lo _ h;cases h
      | cons p l ih =>
       intro lo hs2 h
       obtain ⟨i2,v2⟩:=p
       simp only [zdJ] at hs2
       simp only [zc1] at h
       split at h
       ·rename_i hb
        have:=zad hb
        omega
       ·exact ih hs2.2.2 h
     exact hj (key hsv hvp)
  have hbuilt:cx.P.built t pv=some (flat vs).toArray:=by
   simp only [Program.built,tf.info,hu,hz,tfe.info,tfe.size]
   rw [ez,← hflat]
   exact hfill
  have hrun:=run_build (P:=cx.P) X.w t pv.toArray _ hbuilt
  refine ⟨_,_,X.mv s'.up,hrun,?_,VRep.data.2 ⟨_,q3,?_⟩⟩
  ·rw [q5,q6,hab]
   exact Nx.same x1 m1
  ·unfold DVal
   simp only [Ty.isAgg,if_true,DRep]
   rw [q5]
   exact ⟨_,rfl,by rw [hdl];exact hv2,hda⟩
 ·exact (Run.fail h).elim
end
end Go.SX
namespace Go.SX
open Go.RowKit (Below)
section
variable {C:FuncId→List D→Option (List D)} {k B0:Nat} {X:Ctx} {cx:Cx}
theorem zr5 {P:Program}{w:World}{op:UnOp}{T:Ty}{d d':D}{v:Value}{M:Nat→Prop}(hT:(match T with|.int _=>true|.bool=>true|_=>false)=true) (h:unD op d=some d') (hv:DVal w M T d v) :
  ∃ v',(Op.unary op v).run P w=.ok v' w∧DVal w M T d' v':=by
 cases T<;>simp at hT
 ·obtain ⟨n,e1,e2⟩:=hv.int
  subst e1 e2
  cases op<;>simp only [unD,wB0,reduceCtorEq] at h<;>subst h
  ·exact ⟨_,rfl,DVal.of_int _ _⟩
  ·exact ⟨_,rfl,DVal.of_int _ _⟩
 ·obtain ⟨b,e1,e2⟩:=hv.bool
  subst e1 e2
  cases op<;>simp only [unD,wB0,reduceCtorEq] at h<;>subst h
  exact ⟨_,rfl,DVal.of_bool _⟩
theorem Acts.of_pure {sem:Sem Value}{sv:SV}{s0 s':SS}{P:Program}(m:Mem B0 X) (h0:s0.up=[]) (h:zbd P X sem sv s0 s'):Acts P B0 X sem s0 s' fun X' v=>VRep X' sv v:=by
 obtain ⟨v,hr,hv⟩:=h.run
 refine ⟨v,X.w,X,hr,?_,hv⟩
 rw [h.up,h.ab,h0]
 exact Nx.same (up:=[]) (Ext.refl X) m
theorem zrt {op:UnOp}{x sv:SV}{s0 s':SS}(h:Run (atD x >>= fun (p:Ty×At)=>SX.X.guard 147 (match p.1 with|.int _=>true|.bool=>true|_=>false) >>= fun _=>SX.X.op (.un op) [p.2] >>= fun v=>SX.X.pure (.d p.1 v)) X.μ s0 sv s') (hs:Sat C k X.E s'.bs s'.nv)
  {vx:Value} (hx:VRep X x vx):zbd cx.P X (Op.unary op vx) sv s0 s':=by
 obtain ⟨⟨T,a⟩,s1,h1,h2⟩:=Run.bind h
 obtain ⟨es,d,hd,hdv⟩:=zsQ h1 hx
 subst es
 obtain ⟨_,s2,h3,h4⟩:=Run.bind h2
 obtain ⟨hT,es⟩:=Run.guard h3
 subst es
 obtain ⟨v,s3,h5,h6⟩:=Run.bind h4
 obtain ⟨e1,e2⟩:=Run.pure h6
 subst e1 e2
 obtain ⟨⟨d0,d',q1,q3,q4⟩,q5,q6⟩:=Run.op1 h5 hs
 simp only at hd q1
 rw [hd] at q1
 injection q1 with q1
 subst q1
 simp only [Prim.run] at q3
 obtain ⟨v',hr,hv'⟩:=zr5 (P:=cx.P) hT q3 hdv
 exact ⟨q5,q6,v',hr,VRep.data.2 ⟨d',q4,hv'⟩⟩
theorem Mem.world (m:Mem B0 X) (hB:B0≤X.w.heap.size) {w':World}(hb:Below X.w.heap.size X.w w'):Ext X { X with w:=w' }∧Mem B0 { X with w:=w' }:=by
 refine Mem.change m hB (fun _=>False) (fun _ _ h=>h) (fun _ h=>h) (fun q h=>.inl h) (fun q _=>⟨rfl,rfl⟩) (fun b hlt _=>hb.block b hlt) (fun b n hs=>(zax (hb.block b (zck hs))).trans hs) ?_ ?_ ?_ ?_ ?_ ?_
 ·intro _ _ h;exact h.elim
 ·intro _ _ _ h;exact h.elim
 ·intro _ h;exact h.elim
 ·intro _ h;exact h.elim
 ·intro _ h;exact h.elim
 ·intro _ _ h;exact h.elim
theorem zkd {w:World}{M:Nat→Prop}:∀ (l:List UInt8),DRepA w M (.int .u8) (l.map fun b=>.int .u8 b.toNat) (l.map fun b=>Value.int .u8 (b.toNat:Int))
 | []=>by simp [DRepA]
 | b::l=>by
  simp only [List.map_cons,DRepA]
  exact ⟨[_],_,rfl,⟨rfl,rfl⟩,zkd l⟩
theorem zqy {w:World}{M:Nat→Prop}:∀ {ds:List D}{cs:List Value}{bs:List UInt8},DRepA w M (.int .u8) ds cs→zcO ds=some bs→∃ ns:List Int,cs=ns.map (Value.int .u8)∧ns.length=ds.length∧bs=ns.map (fun n=>UInt8.ofNat n.toNat)
 | [],cs,bs,h,hb=>by
  simp only [zcO,wB0] at hb
  simp only [DRepA] at h
  subst h hb
  exact ⟨[],rfl,rfl,rfl⟩
 | d::ds,cs,bs,h,hb=>by
  simp only [DRepA] at h
  obtain ⟨c1,c2,e,h1,h2⟩:=h
  cases d<;>simp only [DRep] at h1
  rename_i kk n
  obtain ⟨e1,e2⟩:=h1
  subst e1 e2
  simp only [zcO] at hb
  split at hb
  ·rename_i r hr
   injection hb with hb
   obtain ⟨ns,g1,g2,g3⟩:=zqy h2 hr
   exact ⟨n::ns,by simp [e,g1],by simp [g2],by rw [← hb,g3];rfl⟩
  ·cases hb
theorem zod:∀ (ns:List Int) (r:ByteArray),ns.foldl (fun r n=>r.push (UInt8.ofNat n.toNat)) r=⟨r.data++(ns.map fun n=>UInt8.ofNat n.toNat).toArray⟩
 | [],r=>by simp
 | n::ns,r=>by
  simp only [List.foldl_cons]
  rw [zod ns]
  simp [ByteArray.push]
end
end Go.SX
namespace Go.SX
open Go.RowKit (Below)
section
variable {C:FuncId→List D→Option (List D)} {k B0:Nat} {X:Ctx} {cx:Cx}
theorem znP (ty:TysOk cx) (hB:B0≤X.w.heap.size) (m:Mem B0 X) {src dst:TypeId}{x sv:SV}{s0 s':SS}(h0:s0.up=[]) (h:Run (zfW cx src dst x) X.μ s0 sv s') (hs:Sat C k X.E s'.bs s'.nv) {vx:Value}(hx:VRep X x vx) :
  Acts cx.P B0 X (convert src dst vx) s0 s' fun X' v=>VRep X' sv v:=by
 have hx':=zaI hx
 unfold zfW at h
 split at h
 ·rename_i k1 k2 k3 a hT1 hT2 e1
  rw [e1] at hx'
  obtain ⟨d,hd,hdv⟩:=VRep.data.1 hx'
  obtain ⟨n,e2,e3⟩:=hdv.int
  subst e2 e3
  obtain ⟨i1,tf1⟩:=ty.get hT1 (by simp)
  obtain ⟨i2,tf2⟩:=ty.get hT2 (by simp)
  have hu1:cx.P.underlying src=some (.int k1):=tf1.desc
  have hu2:cx.P.underlying dst=some (.int k2):=tf2.desc
  obtain ⟨v,s1,h1,h2⟩:=Run.bind h
  obtain ⟨e1,e2⟩:=Run.pure h2
  subst e1 e2
  obtain ⟨⟨d0,d',q1,q3,q4⟩,q5,q6⟩:=Run.op1 h1 hs
  rw [hd] at q1
  injection q1 with q1
  subst q1
  simp only [Prim.run,wB0] at q3
  subst q3
  exact Acts.of_pure m h0 ⟨q5,q6,_,by simp [convert,run_underlying hu1,run_underlying hu2,Conv.intToInt],VRep.data.2 ⟨_,q4,DVal.of_int _ _⟩⟩
 ·rename_i s hT1 hT2
  obtain ⟨E,i,hu,tf⟩:=zak ty hT1
  obtain ⟨i2,tf2⟩:=ty.get hT2 (by simp)
  have hu2:cx.P.underlying dst=some .string:=tf2.desc
  have hue:cx.P.underlying E=some (.int .u8):=tf.desc
  obtain ⟨a,s1,h1,h2⟩:=Run.bind h
  obtain ⟨v,s2,h3,h4⟩:=Run.bind h2
  obtain ⟨e1,e2⟩:=Run.pure h4
  subst e1 e2
  obtain ⟨u1,u2,d,hd,hdv⟩:=zgb hB m h0 h1 (h3.sat hs) hx'
  obtain ⟨⟨d0,d',q1,q3,q4⟩,q5,q6⟩:=Run.op1 h3 hs
  rw [hd] at q1
  injection q1 with q1
  subst q1
  simp only [Prim.run] at q3
  refine Acts.of_pure m h0 ⟨by rw [q5,u1,h0],q6.trans u2,?_⟩
  unfold DVal at hdv
  simp only [Ty.isAgg,wA0,if_false] at hdv
  obtain ⟨_,hdv⟩:=hdv
  cases d<;>simp only [DRep] at hdv
  ·rename_i l
   obtain ⟨ad,cap,xs,g1,g2,g3,g4,_⟩:=hdv
   injection g1 with g1
   subst g1
   simp only [D.els] at q3
   cases hb:zcO l with
   | none=>simp [hb] at q3
   | some bs =>
    simp only [hb,Option.map_some,wB0] at q3
    subst q3
    obtain ⟨ns,r1,r2,r3⟩:=zqy g3 hb
    have hl:=run_loadCells_list (P:=cx.P) X.w ad xs g4
    have hlen:xs.length=l.length:=by rw [r1];simp [r2]
    rw [hlen,r1] at hl
    refine ⟨.string ⟨bs.toArray⟩,?_,VRep.data.2 ⟨_,q4,DVal.of_str _⟩⟩
    rw [run_convert_bytes_string X.w src dst E (some ad) l.length cap hu hue hu2,run_bytesToString X.w ad l.length cap ns hl,zod,r3]
    congr 2
    simp
  ·injection hdv with hdv
   subst hdv
   simp only [D.els,zcO,Option.map_some,wB0] at q3
   subst q3
   refine ⟨.string .empty,?_,VRep.data.2 ⟨_,q4,DVal.of_str _⟩⟩
   rw [run_convert_bytes_string X.w src dst E none 0 0 hu hue hu2]
   rfl
 ·rename_i a hT1 hT2 e1
  rw [e1] at hx'
  obtain ⟨E,i,hu,tf⟩:=zak ty hT2
  have hue:cx.P.underlying E=some (.int .u8):=tf.desc
  obtain ⟨i1,tf1⟩:=ty.get hT1 (by simp)
  have hu1:cx.P.underlying src=some .string:=tf1.desc
  obtain ⟨d,hd,hdv⟩:=VRep.data.1 hx'
  obtain ⟨s,e2,e3⟩:=hdv.str
  subst e2 e3
  obtain ⟨v,s1,h1,h2⟩:=Run.bind h
  obtain ⟨f1,f2⟩:=Run.pure h2
  subst f1 f2
  obtain ⟨⟨d0,d',q1,q3,q4⟩,q5,q6⟩:=Run.op1 h1 hs
  rw [hd] at q1
  injection q1 with q1
  subst q1
  simp only [Prim.run,wB0] at q3
  subst q3
  have hbel:Below X.w.heap.size X.w (X.w.drew.alloc (.cells (bytesRow s (grownCap X.w s.size 0 E)) E ((bytesRow s (grownCap X.w s.size 0 E)).size,(bytesRow s (grownCap X.w s.size 0 E)).size + 1))):=((Below.refl _ _).drew).alloc (wG0 _) _
  obtain ⟨x2,m2⟩:=m.world hB hbel
  refine ⟨_,_,{ X with w:=X.w.drew.alloc (.cells (bytesRow s (grownCap X.w s.size 0 E)) E ((bytesRow s (grownCap X.w s.size 0 E)).size,(bytesRow s (grownCap X.w s.size 0 E)).size + 1)) },run_bytes_of_string X.w src dst E s hu1 hu hue,⟨rfl,rfl,?_,fun q=>⟨fun h=>.inl h,fun h=>h.elim id fun h=>by omega⟩,x2,m2,hbel.mono hB⟩,?_⟩
  ·rw [q5,h0];rfl
  ·refine VRep.data.2 ⟨_,q4,?_⟩
   unfold DVal
   simp only [Ty.isAgg,wA0,if_false,DRep]
   have e0:(s.data.toList.map fun b=>D.int .u8 (b.toNat:Int)).length=s.size:=by rw [List.length_map,Array.length_toList];rfl
   refine ⟨zaf _ _ _,⟨X.w.heap.size,0,none⟩,grownCap X.w s.size 0 E,s.data.toList.map (fun b=>Value.int .u8 (b.toNat:Int)),?_,?_,zkd _,fun j v hj=>?_,fun _ hM=>?_⟩
   ·rw [e0]
   ·rw [e0];exact grownCap_ge X.w s.size 0 E
   ·rw [Addr.add_mid,Nat.zero_add]
    have hnew:(X.w.drew.alloc (.cells (bytesRow s (grownCap X.w s.size 0 E)) E ((bytesRow s (grownCap X.w s.size 0 E)).size,(bytesRow s (grownCap X.w s.size 0 E)).size + 1))).heap[X.w.heap.size]?=some (.cells (bytesRow s (grownCap X.w s.size 0 E)) E ((bytesRow s (grownCap X.w s.size 0 E)).size,(bytesRow s (grownCap X.w s.size 0 E)).size + 1)):=heap_alloc_new X.w.drew _
    show World.cell? _ _=_
    rw [cell_of_row _ _ j _ _ _ hnew,bytesRow]
    have hlt:=(List.getElem?_eq_some_iff.1 hj).1
    simp only [List.length_map,Array.length_toList] at hlt
    rw [Array.getElem?_append_left (by simpa using hlt)]
    simpa using hj
   ·have:=m.lt' hB (b:=X.w.heap.size) hM
    omega
 ·rename_i e r hT1 hT2 e1
  rw [e1] at hx'
  obtain ⟨_,s1,h1,h2⟩:=Run.bind h
  obtain ⟨hg,es⟩:=Run.guard h1
  subst es
  simp only [wD0] at hg
  have hsd:=zad hg.1
  have he:=Ty.beq_eq hg.2
  subst hsd he
  obtain ⟨RR,s2,h3,h4⟩:=Run.bind h2
  obtain ⟨hR,es⟩:=Run.root h3
  subst es
  split at h4
  ·rename_i e' d0 l0
   obtain ⟨_,s3,h5,h6⟩:=Run.bind h4
   obtain ⟨hg,es⟩:=Run.guard h5
   subst es
   have he:=Ty.beq_eq hg
   subst he
   obtain ⟨_,s4,h7,h8⟩:=Run.bind h6
   have es:=Run.put h7
   obtain ⟨e1,e2⟩:=Run.pure h8
   subst es
   subst e1 e2
   rw [h0,zar] at hR
   have hR:=hR.symm
   simp only [VRep] at hx'
   have hx0:Ref X (.h (.int .u8) r none) vx:=hx'
   simp only [Ref] at hx'
   obtain ⟨_,hA,hx'⟩:=hx'
   have hrep:=m.rep r hA
   rw [hR] at hrep
   obtain ⟨d,g1,g2⟩:=hrep
   simp only [At.get,wB0] at g1
   subst g1
   obtain ⟨a1,d1,f1,f2,f3⟩:=hx' (by rw [hR];rfl)
   rw [hR] at f1
   simp only [Root.row?,wB0,Prod.mk.injEq,true_and] at f1
   subst f1
   simp only [At.get,wB0] at f2
   subst f2
   rcases f3 with ⟨_,c2,_⟩|⟨b,l,c1,c2,cap,bs,c3,c4,c5,c6⟩
   ·rcases c2.em with h|h<;>cases h
   ·injection c2 with c2
    subst c2
    rcases g2 with ⟨t1,_⟩|⟨b',c,te,fr,l',xs,t1,t2,t3,t4,t5,t6⟩
    ·rw [c1] at t1;cases t1
    ·rw [c1] at t1
     injection t1 with t1
     injection t2 with t2
     subst t1 t2
     rw [t4 trivial] at t3
     obtain ⟨E,i,hu,tf⟩:=zak ty hT1
     have hue:cx.P.underlying E=some (.int .u8):=tf.desc
     have hblt:b<X.w.heap.size:=lt_of_heap t3
     let w':World:=X.w.freeze ⟨b,c.size,none⟩ 1
     have hw'b:w'.heap[b]?=some (.cells c te (c.size,c.size + 1)):=by
      simp [w',World.freeze,Array.getElem?_modify,t3]
     have hw'n:∀ q,q≠b→w'.heap[q]?=X.w.heap[q]?:=fun q hq=>by
      simp [w',World.freeze,Array.getElem?_modify,Ne.symm hq]
     have hw's:w'.heap.size=X.w.heap.size:=by simp [w',World.freeze]
     have hmem:b∈(X.μ r).own (X.β r):=by rw [hR];simp [Root.own,c1]
     have hrun:(convert src src (.slice (some ⟨b,0,none⟩) (d0::l0).length cap)).run cx.P X.w=.ok (.slice (some ⟨b,0,none⟩) (d0::l0).length cap) w':=by
      simp [convert,run_underlying hu,run_underlying hue,markStringish,shape,Sem.run,World.shape?,t3,freeze,w']
     let X':Ctx:={ X with w:=w',μ:=upd X.μ r (.fz (.int .u8) (.c (.sl (d0::l0)))) }
     have hxm:Ext X X'∧Mem B0 X':=by
      refine Mem.change m hB (fun q=>q=r) (fun _ _ h=>h) (fun _ h=>h) (fun q h=>.inl h) (fun q hq=>⟨upd_ne _ _ hq,rfl⟩) (fun q hq hno=>?_) (fun q n hn=>?_) ?_ ?_ ?_ (fun _ _ _=>rfl) ?_ ?_ rfl (zpb hR rfl)
      ·refine hw'n q fun e=>?_
       subst e
       exact hno r rfl hA hmem
      ·by_cases hqb:q=b
       ·subst hqb
        simp only [bsize,t3] at hn
        show bsize w' q=_
        simpa only [bsize,hw'b] using hn
       ·exact (zax (hw'n q hqb)).trans hn
      ·intro q b' hq _ hb'
       subst hq
       simp [X',upd_same,Root.own] at hb'
      ·intro q q' b' hq hq' _ _ _ _
       rw [hq,hq']
      ·intro q hq _
       subst hq
       simp [X',upd_same,Root.own]
      ·intro q hq _ _
       subst hq
       refine ⟨by rw [hR];rfl,fun e1 a1 d1 hr hd1=>?_,fun e1 a1 g1 hr=>?_⟩
       ·rw [hR] at hr
        simp only [Root.row?,wB0,Prod.mk.injEq] at hr
        obtain ⟨r1,r2⟩:=hr
        subst r1 r2
        exact ⟨_,_,by simp [X',upd_same,Root.row?],hd1,sameLen.refl _⟩
       ·simp only [X',upd_same] at hr
        cases hr
      ·intro x q hq _
       subst hq
       simp only [X',upd_same]
       refine ⟨⟨_,rfl,.inr ⟨b,c,te,(c.size,c.size + 1),d0::l0,xs,c1,rfl,hw'b,fun h=>h.elim,t5.keep x.K,t6⟩⟩,fun b' hb' hMb=>?_⟩
       rw [c1] at hb'
       injection hb' with hb'
       subst hb'
       rcases hMb with hf|⟨q',ha',hq'⟩
       ·have h1:=m.frame b hf
        have h2:=m.low q b hA hmem
        omega
       ·by_cases hqq:q'=q
        ·subst hqq
         simp [X',upd_same,Root.own] at hq'
        ·simp only [X',upd_ne _ _ hqq] at hq'
         exact hqq (m.apart q' q b ha' hA hq' hmem)
     have hbel:Below B0 X.w w':=⟨rfl,rfl,rfl,Nat.le_of_eq hw's.symm,fun q hq=>hw'n q fun e=>by
      subst e
      have:=m.low r q hA hmem
      omega⟩
     subst c3
     refine ⟨_,w',X',hrun,⟨rfl,rfl,?_,fun q=>⟨fun h=>.inl h,fun h=>h.elim id fun h=>?_⟩,hxm.1,hxm.2,hbel⟩,?_⟩
     ·show _=now X.μ ((r,Root.fz (.int .u8) (.c (.sl (d0::l0))))::s3.up)
      rw [h0,zaF,zar]
     ·dsimp only at h
      omega
     ·simp only [VRep]
      exact hx0.ext hxm.1
  ·exact (Run.fail h4).elim
 ·exact (Run.fail h).elim
end
end Go.SX
namespace Go.SX
open Go.RowKit (Below)
section
variable {C:FuncId→List D→Option (List D)} {k B0:Nat} {X:Ctx} {cx:Cx}
theorem VRepL.get:∀ {l:List SV}{vs:List Value}{j:Nat}{s:SV},VRepL X l vs→l[j]?=some s→∃ v,vs[j]?=some v∧VRep X s v
 | [],_,j,_,_,h=>by simp at h
 | u::l,vs,0,s,hv,h=>by
  simp only [VRepL] at hv
  obtain ⟨v,r,e,h1,_⟩:=hv
  simp at h
  subst h e
  exact ⟨v,rfl,h1⟩
 | u::l,vs,j + 1,s,hv,h=>by
  simp only [VRepL] at hv
  obtain ⟨v,r,e,_,h2⟩:=hv
  simp at h
  subst e
  simpa using VRepL.get h2 h
theorem znU {P:Program}{l:List SV}{j:Nat}{sv:SV}{v:Value}{s0 s':SS}(h:Run (SX.X.of 150 (l[j]?)) X.μ s0 sv s') (hv:VRep X (.tu l) v):zbd P X (Instr.extract v j) sv s0 s':=by
 obtain ⟨hl,es⟩:=Run.of h
 subst es
 simp only [VRep] at hv
 obtain ⟨vs,e,hv⟩:=hv
 subst e
 obtain ⟨u,h1,h2⟩:=VRepL.get hv hl
 exact ⟨rfl,rfl,u,by simp only [Instr.extract];rw [← Array.getElem?_toList,h1];rfl,h2⟩
theorem zfP (z:Array Value) (n:Nat):(Builtin.zeroCells z n).toList=(List.replicate n z.toList).flatten:=by
 have:=zgB (z:=z) rfl n
 simpa [Builtin.zeroCells,madeCells] using this
theorem znb {P:Program}{w:World}{t e:TypeId}{T:TypeId}{A:Option Addr}(hu:P.underlying t=some (.slice e)):(Builtin.clear_ #[t] T #[.slice A 0 0]).run P w=.ok (.tuple #[]) w:=by
 cases A<;>simp [Builtin.clear_,zab hu]
theorem zi2 {P:Program}{w:World}{t E T:TypeId}{z:Value}{b o n cap:Nat}{c:Array Value}{te:TypeId}(hu:P.underlying t=some (.slice E)) (hz:(zeroValue E).run P w=.ok z w) (hh:w.heap[b]?=some (.cells c te (0,0)))
  (hfit:o + n * z.cells.size≤c.size) (h1:∀ u∈z.cells.toList,One u) :
  (Builtin.clear_ #[t] T #[.slice (some ⟨b,o,none⟩) n cap]).run P w=.ok (.tuple #[]) (w.setRow b (patch c.toList o (List.replicate n z.cells.toList).flatten).toArray):=by
 have hst:=run_storeCells_at P b o te (List.replicate n z.cells.toList).flatten 0 c w hh (by rw [zeu];simpa using hfit) (fun u hu=>by
  rw [List.mem_flatten] at hu
  obtain ⟨l,hl,hu⟩:=hu
  rw [List.eq_of_mem_replicate hl] at hu
  exact (h1 u hu).one)
 simp only [Nat.add_zero] at hst
 cases n with
 | zero =>
  have:patch c.toList o (List.replicate 0 z.cells.toList).flatten=c.toList:=by simp [zjx]
  rw [this,Array.toArray_toList,setRow_self w b c te (0,0) hh]
  simp [Builtin.clear_,zab hu]
 | succ n =>
  have hzf:(Builtin.zeroCells z.cells (n + 1)).toList=(List.replicate (n + 1) z.cells.toList).flatten:=zfP _ _
  generalize hL:(List.replicate (n + 1) z.cells.toList).flatten=L at hst hzf ⊢
  simp [Builtin.clear_,zab hu,hz,hzf,hst,patch]
end
end Go.SX
namespace Go.SX
open Go.RowKit (Below)
section
variable {C:FuncId→List D→Option (List D)} {k B0:Nat} {X:Ctx} {cx:Cx}
theorem Mem.rewrite {e:Ty}{r b:Nat}{a a':At}{l l':List D}{xs':List Value}{c c':Array Value}{te:TypeId}(m:Mem B0 X) (hB:B0≤X.w.heap.size) (hA:X.A r) (hR:X.μ r=.row e a) (hm:(X.β r).main=some b)
  (ha:a.get X.E=some (.sl l)) (ha':a'.get X.E=some (.sl l')) (hl:l'.length=l.length) (hh:X.w.heap[b]?=some (.cells c te (0,0))) (hsz:c'.size=c.size) (hx:DRepA X.w X.M e l' xs') (hc:c'.toList.take xs'.length=xs') :
  b∈(X.μ r).own (X.β r)∧Ext X (X.wrote b c' r (.row e a'))∧Mem B0 (X.wrote b c' r (.row e a')):=by
 have hmem:b∈(X.μ r).own (X.β r):=by rw [hR];simp [Root.own,hm]
 refine ⟨hmem,m.write hB hA hmem hh hsz (by rw [hR];rfl) (fun _=>⟨by rw [hR];rfl,fun e1 a1 d hr hd=>?_,fun e1 a1 g hr=>?_⟩) fun x=>?_⟩
 ·rw [hR] at hr
  simp only [Root.row?,wB0,Prod.mk.injEq] at hr
  obtain ⟨r1,r2⟩:=hr
  subst r1 r2
  rw [ha] at hd
  injection hd with hd
  subst hd
  exact ⟨a',_,by simp [Ctx.wrote,upd_same,Root.row?],ha',fun h=>(by cases h),fun l0 hl0=>(by injection hl0 with hl0;subst hl0;exact ⟨_,rfl,hl⟩)⟩
 ·simp only [Ctx.wrote,upd_same] at hr
  cases hr
 ·exact ⟨_,ha',.inr ⟨b,c',te,(0,0),l',xs',hm,rfl,setRow_heap _ _ _ _ _ _ hh,fun _=>rfl,hx.keep x.K,hc⟩⟩
theorem zkq (ty:TysOk cx) (hB:B0≤X.w.heap.size) (m:Mem B0 X) {t T:TypeId}{e:Ty}{r:Nat}{a a':At}{s0 s':SS}(hT:cx.T t=.sl e) (hR:X.μ r=.row e a) (h:Run (SX.X.op (.clr e.zero) [a]) X.μ s0 a' s') (hs:Sat C k X.E s'.bs s'.nv) {v:Value}(hv:Ref X (.h e r none) v)
  {s2:SS} (h0:s0.up=[]) (hup:s2.up=(r,Root.row e a')::s'.up) (hab:s2.ab=s'.ab):Acts cx.P B0 X (Builtin.clear_ #[t] T #[v]) s0 s2 fun _ _=>True:=by
 obtain ⟨E,i,hu,tf⟩:=zak ty hT
 obtain ⟨z,hz,_,hd⟩:=zfz tf (w:=X.w)
 have hA:X.A r:=by simp only [Ref] at hv;exact hv.2.1
 have hrep:=m.rep r hA
 rw [hR] at hrep
 obtain ⟨d,h1,h2⟩:=hrep
 have hc:=zg4 m hA hR h1 hv
 obtain ⟨⟨d0,d',q1,q3,q4⟩,q5,q6⟩:=Run.op1 h hs
 rw [h1] at q1
 injection q1 with q1
 subst q1
 rcases hc with ⟨c1,c2⟩|⟨b,l,c,te,xs,cap,c1,c2,c3,c4,c5,c6,c7,c8⟩
 ·obtain ⟨A,c3⟩:=c2.val
  subst c3
  have q3':d'=d:=by rcases c2.em with h|h<;>subst h<;>simp [Prim.run] at q3<;>exact q3.symm
  subst q3'
  have hup2:s2.up=[(r,Root.row e a')]:=by rw [hup,q5,h0]
  have hx:Ext X { X with μ:=upd X.μ r (.row e a') }∧Mem B0 { X with μ:=upd X.μ r (.row e a') }:=by
   refine Mem.change m hB (fun q=>q=r) (fun _ _ h=>h) (fun _ h=>h) (fun q h=>.inl h) (fun q hq=>⟨upd_ne _ _ hq,rfl⟩) (fun _ _ _=>rfl) (fun _ _ h=>h) ?_ ?_ ?_ (fun _ _ _=>rfl) ?_ ?_
   ·intro q b hq _ hb
    subst hq
    simp only [upd_same] at hb
    simp [Root.own,c1] at hb
   ·intro q q' x hq hq' _ _ _ _
    rw [hq,hq']
   ·intro q hq _
    subst hq
    simp [upd_same,Root.own,c1]
   ·intro q hq _ _
    subst hq
    refine ⟨by rw [hR];rfl,fun e1 a1 d hr hd=>?_,fun e1 a1 g hr=>?_⟩
    ·rw [hR] at hr
     simp only [Root.row?,wB0,Prod.mk.injEq] at hr
     obtain ⟨r1,r2⟩:=hr
     subst r1 r2
     rw [h1] at hd
     injection hd with hd
     subst hd
     exact ⟨a',_,by simp [upd_same,Root.row?],q4,sameLen.refl _⟩
    ·simp only [upd_same] at hr
     cases hr
   ·intro x q hq _
    subst hq
    simp only [upd_same]
    exact ⟨_,q4,.inl ⟨c1,c2.em⟩⟩
  refine ⟨_,X.w,{ X with μ:=upd X.μ r (.row e a') },znb hu,⟨rfl,rfl,?_,fun q=>⟨fun h=>.inl h,fun h=>h.elim id fun h=>by omega⟩,hx.1,hx.2,Below.refl _ _⟩,trivial⟩
  rw [hup2,zaF,zar]
 ·subst c2 c6
  simp only [Prim.run,wB0] at q3
  subst q3
  have hzl:=(hd X.w X.M).cells.length
  have hzl':z.cells.size=e.size:=by simpa using hzl
  have hfl:=zeu z.cells.toList l.length
  have hfit:0 + (List.replicate l.length z.cells.toList).flatten.length≤c.toList.length:=by
   rw [Nat.zero_add,hfl,hzl,Array.length_toList]
   exact Nat.le_trans (Nat.mul_le_mul_right _ c7) c8
  have hrun:=zi2 (P:=cx.P) (w:=X.w) (T:=T) (o:=0) (n:=l.length) (cap:=cap) hu hz c3 (by rw [hzl',Nat.zero_add];exact Nat.le_trans (Nat.mul_le_mul_right _ c7) c8) (hd X.w X.M).cells.ones
  obtain ⟨hmem,hw⟩:=m.rewrite hB hA hR c1 h1 q4 (by simp) c3 (c':=(patch c.toList 0 (List.replicate l.length z.cells.toList).flatten).toArray) (by simpa using zaj hfit) (zd5 (hd X.w X.M).cells l.length) (by
   show (patch c.toList 0 _).take _=_
   rw [zc6 (by omega) (by omega),zcw]
   rw [wE0]
   omega)
  exact ⟨_,_,_,hrun,Nx.wrote (up:=[]) (Ext.refl X) m hA hmem hw (by rw [hup,q5,h0]) (by rw [hab,q6]),trivial⟩
end
end Go.SX
namespace Go.SX
open Go.RowKit (Below)
section
variable {C:FuncId→List D→Option (List D)} {k B0:Nat} {X:Ctx} {cx:Cx}
theorem Mem.renamed {e:Ty}{r g:Nat}{a a':At}{d:D}(m:Mem B0 X) (hB:B0≤X.w.heap.size) (hA:X.A r) (hR:X.μ r=.mat e a g) (ha:a.get X.E=some d) (ha':a'.get X.E=some d) :
  Ext X { X with μ:=upd X.μ r (.mat e a' g) }∧Mem B0 { X with μ:=upd X.μ r (.mat e a' g) }:=by
 refine Mem.change m hB (fun q=>q=r) (fun _ _ h=>h) (fun _ h=>h) (fun q h=>.inl h) (fun q hq=>⟨upd_ne _ _ hq,rfl⟩) (fun _ _ _=>rfl) (fun _ _ h=>h) ?_ ?_ ?_ (fun _ _ _=>rfl) ?_ ?_
 ·intro q b hq _ hb
  subst hq
  simp only [upd_same] at hb
  exact .inr ⟨q,rfl,hA,by rw [hR];exact hb⟩
 ·intro q q' x hq hq' _ _ _ _
  rw [hq,hq']
 ·intro q hq _
  subst hq
  have:=m.once q hA
  rw [hR] at this
  simp only [upd_same]
  exact this
 ·intro q hq _ _
  subst hq
  refine ⟨by rw [hR];rfl,fun e1 a1 d1 hr hd=>?_,fun e1 a1 g1 hr=>?_⟩
  ·rw [hR] at hr
   simp only [Root.row?,wB0,Prod.mk.injEq] at hr
   obtain ⟨r1,r2⟩:=hr
   subst r1 r2
   rw [ha] at hd
   injection hd with hd
   subst hd
   exact ⟨a',d,by simp [upd_same,Root.row?],ha',sameLen.refl _⟩
  ·simp only [upd_same] at hr
   injection hr with r1 r2 r3
   subst r1 r2 r3
   refine ⟨a,g,hR,wG0 _,fun _=>⟨rfl,fun d1 hd=>?_⟩⟩
   rw [ha] at hd
   injection hd with hd
   subst hd
   exact ⟨d,ha',sameRows.refl _⟩
 ·intro x q hq _
  subst hq
  simp only [upd_same]
  have hrep:=m.rep q hA
  have hnd:=m.once q hA
  rw [hR] at hrep hnd
  obtain ⟨d1,h1,h2⟩:=hrep
  rw [ha] at h1
  injection h1 with h1
  subst h1
  refine ⟨d,ha',?_⟩
  rcases h2 with h2|⟨b,c,te,l,xs,p1,p2,p3,p4,p5⟩
  ·exact .inl h2
  ·exact .inr ⟨b,c,te,l,xs,p1,p2,p3,RowCells.keep x.K (fun _ _=>rfl) p4,p5⟩
theorem zkJ (ty:TysOk cx) (hB:B0≤X.w.heap.size) (m:Mem B0 X) {t T:TypeId}{e:Ty}{r g:Nat}{a ix y y' a':At}{s0 s1 s2 s' sf:SS}(hT:cx.T t=.sl e) (hR:X.μ r=.mat e a g) (h1:Run (SX.X.op .get [a,ix]) X.μ s0 y s1)
  (h2:Run (SX.X.op (.clr e.zero) [y]) X.μ s1 y' s2) (h3:Run (SX.X.op .set [a,ix,y']) X.μ s2 a' s') (hs:Sat C k X.E s'.bs s'.nv) {v:Value} (hv:Ref X (.hr e r ix g) v) (h0:s0.up=[]) (hup:sf.up=(r,Root.mat e a' g)::s'.up) (hab:sf.ab=s'.ab) :
  Acts cx.P B0 X (Builtin.clear_ #[t] T #[v]) s0 sf fun _ _=>True:=by
 obtain ⟨E,i,hu,tf⟩:=zak ty hT
 obtain ⟨z,hz,_,hd⟩:=zfz tf (w:=X.w)
 simp only [Ref] at hv
 obtain ⟨_,hA,hv⟩:=hv
 obtain ⟨_,hv⟩:=hv _ _ _ hR
 obtain ⟨_,kk,j,ds,d,o,v1,v2,v3,v4,v5⟩:=hv rfl
 obtain ⟨⟨d0,di,yd,q1,q2,q3,q4⟩,q5,q6⟩:=Run.op2 h1 (h2.sat (h3.sat hs))
 rw [v1] at q1
 rw [v2] at q2
 injection q1 with q1
 injection q2 with q2
 subst q1 q2
 simp [Prim.run] at q3
 rw [v3] at q3
 injection q3 with q3
 subst q3
 obtain ⟨⟨e0,yd',p1,p3,p4⟩,p5,p6⟩:=Run.op1 h2 (h3.sat hs)
 rw [q4] at p1
 injection p1 with p1
 subst p1
 obtain ⟨⟨z0,z1,z2,z3,o1,o2,o3,o4,o5⟩,o6,o7⟩:=Run.op3 h3 hs
 rw [v1] at o1
 rw [v2] at o2
 rw [p4] at o3
 injection o1 with o1
 injection o2 with o2
 injection o3 with o3
 subst o1 o2 o3
 simp only [Prim.run] at o4
 split at o4
 ·injection o4 with o4
  subst o4
  have hrep:=m.rep r hA
  rw [hR] at hrep
  obtain ⟨dm,g1,g2⟩:=hrep
  rw [v1] at g1
  injection g1 with g1
  subst g1
  rcases g2 with ⟨_,w1,_⟩|⟨bm,c,te,l2,xs,w1,w2,w3,w4,w5⟩
  ·rw [w1] at v4;simp at v4
  ·injection w2 with w2
   subst w2
   obtain ⟨u,hu2,hrc⟩:=w4.get v3 v4
   rcases hrc with ⟨c1,c2⟩|⟨b,l,cc,te',xs',cap,c1,c2,c3,c4,c5,c6,c7,c8⟩
   ·rcases v5 with ⟨_,x3⟩|⟨b',l',cap',bs,x1,x2,_⟩
    ·obtain ⟨A,x4⟩:=x3.val
     subst x4
     have p3':yd'=d:=by rcases x3.em with h|h<;>subst h<;>simp [Prim.run] at p3<;>exact p3.symm
     subst p3'
     have same:(ds.set (Int.ofNat j).toNat yd')=ds:=by
      apply List.ext_getElem?
      intro q
      by_cases hq:q=j
      ·subst hq
       obtain ⟨hlt,_⟩:=List.getElem?_eq_some_iff.1 v3
       rw [show (Int.ofNat q).toNat=q from rfl,List.getElem?_set_self hlt,v3]
      ·rw [show (Int.ofNat j).toNat=j from rfl,List.getElem?_set_ne (Ne.symm hq)]
     rw [same] at o5
     obtain ⟨x2,m2⟩:=m.renamed hB hA hR v1 o5
     refine ⟨_,X.w,{ X with μ:=upd X.μ r (.mat e a' g) },znb hu,⟨rfl,rfl,?_,fun q=>⟨fun h=>.inl h,fun h=>h.elim id fun h=>by rw [hab,o7,p6,q6] at h;omega⟩,x2,m2,Below.refl _ _⟩,trivial⟩
     rw [hup,o6,p5,q5,h0,zaF,zar]
    ·rw [x1] at c1;cases c1
   ·subst c1 c2
    rcases v5 with ⟨x1,_⟩|⟨b',l',cap',bs,x1,x2,x3,x4,x5,x6⟩
    ·cases x1
    ·injection x1 with x1
     injection x2 with x2
     subst x1 x2 x3
     simp only [Prim.run,wB0] at p3
     subst p3
     have hzl:=(hd X.w X.M).cells.length
     have hzl':z.cells.size=e.size:=by simpa using hzl
     have hfl:=zeu z.cells.toList l.length
     have hxl:=c4.length
     have hxs:xs'.length≤cc.toList.length:=by rw [← c5,wE0];omega
     have hrun:=zi2 (P:=cx.P) (w:=X.w) (T:=T) (o:=0) (n:=l.length) (cap:=cap') hu hz c3 (by rw [hzl',Nat.zero_add,← hxl];simpa using hxs) (hd X.w X.M).cells.ones
     obtain ⟨hmem,hw⟩:=m.inRow hB hA hR v1 v4 v3 (ll':=List.replicate l.length e.zero) (off:=0) (cv:=(List.replicate l.length z.cells.toList).flatten) (by simpa using o5) (by simp) c3 c5 (by rw [Nat.zero_add,hfl,hzl,hxl];exact wG0 _) (by
      rw [zcw (by rw [hfl,hzl,hxl])]
      exact zd5 (hd X.w X.M).cells l.length)
     exact ⟨_,_,_,hrun,Nx.wrote (up:=[]) (Ext.refl X) m hA hmem hw (by rw [hup,o6,p5,q5,h0]) (by rw [hab,o7,p6,q6]),trivial⟩
 ·cases o4
end
end Go.SX
namespace Go.SX
open Go.RowKit (Below)
section
variable {P:Program} {w:World}
theorem zcD {t xt e e2 ty:TypeId}(hx:P.underlying xt=some (.slice e2)) (ht:P.underlying t=some (.slice e)) (A:Option Addr) (n c:Nat) (x:Value) {i:TypeInfo}(hi:P.info? e=some i) :
  (Builtin.append_ #[t,xt] ty #[.slice A n c,x]).run P w=(Builtin.append_ #[t,t] ty #[.slice A n c,x]).run P w:=by
 simp [Builtin.append_,zab hx,zab ht,sizeOf,typeInfo,hi]
theorem zgf {t e ty te:TypeId}{i:TypeInfo}(ht:P.underlying t=some (.slice e)) (hi:P.info? e=some i) {g sLen sCap:Nat}{cur:Array Value}(hg:w.heap[g]?=some (.cells cur te (0,0)))
  {a:Addr} {m c:Nat} {news:List Value} (hl:news.length=m * i.size) (hnews:∀ j u,news[j]?=some u→w.cell? (a.add j)=some u) (h1:∀ u∈news,One u) (hroom:sLen + m≤sCap) (hfit:sLen * i.size + news.length≤cur.size) :
  (Builtin.append_ #[t,t] ty #[.slice (some ⟨g,0,none⟩) sLen sCap,.slice (some a) m c]).run P w=.ok (.slice (some ⟨g,0,none⟩) (sLen + m) sCap) (w.setRow g (patch cur.toList (sLen * i.size) news).toArray):=by
 have hf:=run_firstCells_some (P:=P) w i.size m a m c news hl hnews
 have hst:=run_storeCells_at P g (sLen * i.size) te news 0 cur w hg (by simpa using hfit) (fun u hu=>(h1 u hu).one)
 have hadd:(⟨g,0,none⟩:Addr).add (sLen * i.size)=⟨g,sLen * i.size,none⟩:=by rw [Addr.add_mid,Nat.zero_add]
 simp only [Nat.add_zero] at hst
 simp [Builtin.append_,zab ht,sizeOf,typeInfo,hi,Builtin.lenOf,hroom,hf,hadd,hst,patch]
end
end Go.SX
namespace Go.SX
open Go.RowKit (Below)
section
variable {P:Program} {w:World}
theorem zem {t e ty:TypeId}{i:TypeInfo}(ht:P.underlying t=some (.slice e)) (hi:P.info? e=some i) {A:Option Addr}{n c:Nat}(hn:n≤c) :
  (Builtin.append_ #[t,t] ty #[.slice A n c,.slice none 0 0]).run P w=.ok (.slice A n c) w:=by
 cases A<;>simp [Builtin.append_,zab ht,sizeOf,typeInfo,hi,Builtin.lenOf,hn,Builtin.firstCells,storeCells]
theorem zet {t e ty:TypeId}{i:TypeInfo}(ht:P.underlying t=some (.slice e)) (hi:P.info? e=some i) {A:Option Addr}{n c c':Nat}(hn:n≤c) {a:Addr} :
  (Builtin.append_ #[t,t] ty #[.slice A n c,.slice (some a) 0 c']).run P w=.ok (.slice A n c) w:=by
 have hl:(loadCells a 0).run P w=.ok #[] w:=run_loadCells_list (P:=P) w a [] (by simp)
 cases A<;>simp [Builtin.append_,zab ht,sizeOf,typeInfo,hi,Builtin.lenOf,hn,Builtin.firstCells,storeCells,hl]
theorem zsJ {need old bytes:Nat}(h:old<need) (hr:zaO need bytes=true):Builtin.nextslicecap need old * bytes≤281474976710656:=by
 simp only [zaO,wD0,decide_eq_true_eq] at hr
 exact growslice_fits h (by omega)
theorem zc5 {need bytes:Nat}(hr:zaO need bytes=true):(need:Int)≤9223372036854775807:=by
 simp only [zaO,wD0,decide_eq_true_eq] at hr
 omega
theorem zd3 {t e ty:TypeId}{i:TypeInfo}{z:Value}(ht:P.underlying t=some (.slice e)) (hi:P.info? e=some i) (hz:i.zero=some z) (hzs:z.cells.size=i.size) {A:Option Addr}{n c:Nat}{olds:List Value}
  (hA:(A=none∧n=0∧c=0∧olds=[])∨∃ b,A=some b∧olds.length=n * i.size∧∀ j v,olds[j]?=some v→w.cell? (b.add j)=some v)
  {a:Addr} {m c':Nat} {news:List Value} (hl:news.length=m * i.size) (hnews:∀ j u,news[j]?=some u→w.cell? (a.add j)=some u) (hg:c<n + m) (hr:zaO (n + m) i.bytes=true) :
  ∃ cap cells,(Builtin.append_ #[t,t] ty #[.slice A n c,.slice (some a) m c']).run P w=.ok (.slice (some ⟨w.heap.size,0,none⟩) (n + m) cap) (w.drew.alloc (.cells cells e))∧n + m≤cap∧cap * i.size≤cells.size∧cells.toList.take (olds++news).length=olds++news:=by
 rcases hA with ⟨e1,e2,e3,e4⟩|⟨b,e1,e2,e3⟩
 ·subst e1 e2 e3 e4
  rw [Nat.zero_add] at hg hr ⊢
  have hr2:=hr
  simp only [zaO,wD0,decide_eq_true_eq] at hr2
  have hcap:=grownCap_ge w m 0 e
  refine ⟨_,_,run_append_nil w t ty e i z ht hi hz a m c' news hl hnews hg (zc5 hr) (by omega),hcap,?_,?_⟩
  ·rw [Array.size_append,size_zeroCells,hzs,List.size_toArray,hl,← Nat.add_mul]
   exact Nat.mul_le_mul_right _ (by omega)
  ·simp
 ·subst e1
  have hcap:=grownCap_ge w (n + m) c e
  refine ⟨_,_,run_append_grow w t ty e i z ht hi hz b n c olds e2 e3 a m c' news hl hnews hg (zc5 hr) (zsJ hg hr),hcap,?_,?_⟩
  ·rw [Array.size_append,Array.size_append,size_zeroCells,hzs,List.size_toArray,List.size_toArray,hl,e2,← Nat.add_mul,← Nat.add_mul]
   exact Nat.mul_le_mul_right _ (by omega)
  ·simp only [Array.toList_append]
   exact List.take_left' rfl
end
end Go.SX
namespace Go.SX
open Go.RowKit (Below)
mutual
theorem DRep.flat {w w':World}{M M':Nat→Prop}:∀ {T:Ty}{d:D}{cs:List Value},T.flat=true→DRep w M T d cs→DRep w' M' T d cs
 | T,.int k n,cs,_,h=>by cases T<;>simp only [DRep] at h ⊢<;>exact h
 | T,.bool b,cs,_,h=>by cases T<;>simp only [DRep] at h ⊢<;>exact h
 | T,.str s,cs,_,h=>by cases T<;>simp only [DRep] at h ⊢<;>exact h
 | T,.nil,cs,_,h=>by cases T<;>simp only [DRep] at h ⊢<;>exact h
 | T,.agg ds,cs,hf,h=>by
  cases T<;>simp only [DRep] at h ⊢
  ·exact DRepL.flat (by simpa only [Ty.flat] using hf) h
  ·exact ⟨h.1,DRepA.flat (by simpa only [Ty.flat] using hf) h.2⟩
 | T,.sl ds,cs,hf,h=>by
  cases T<;>simp only [DRep] at h
  simp [Ty.flat] at hf
theorem DRepL.flat {w w':World}{M M':Nat→Prop}:∀ {Ts:List Ty}{ds:List D}{cs:List Value},Ty.flatL Ts=true→DRepL w M Ts ds cs→DRepL w' M' Ts ds cs
 | [],[],cs,_,h=>by simpa only [DRepL] using h
 | T::Ts,d::ds,cs,hf,h=>by
  simp only [Ty.flatL,wD0] at hf
  simp only [DRepL] at h ⊢
  obtain ⟨c1,c2,e,h1,h2⟩:=h
  exact ⟨c1,c2,e,DRep.flat hf.1 h1,DRepL.flat hf.2 h2⟩
 | [],_::_,_,_,h=>by simp only [DRepL] at h
 | _::_,[],_,_,h=>by simp only [DRepL] at h
theorem DRepA.flat {w w':World}{M M':Nat→Prop}:∀ {e:Ty}{ds:List D}{cs:List Value},e.flat=true→DRepA w M e ds cs→DRepA w' M' e ds cs
 | e,[],cs,_,h=>by simpa only [DRepA] using h
 | e,d::ds,cs,hf,h=>by
  simp only [DRepA] at h ⊢
  obtain ⟨c1,c2,he,h1,h2⟩:=h
  exact ⟨c1,c2,he,DRep.flat hf h1,DRepA.flat hf h2⟩
end
end Go.SX
namespace Go.SX
open Go.RowKit (Below)
def Src (w:World) (M:Nat→Prop) (e:Ty) (d:D) (v:Value):Prop :=
 (d=.nil∧v=.slice none 0 0)∨∃ l xs ad cap,d=.sl l∧v=.slice (some ad) l.length cap∧DRepA w M e l xs∧∀ j u,xs[j]?=some u→w.cell? (ad.add j)=some u
theorem Src.of {w:World}{M M':Nat→Prop}{e:Ty}{d:D}{v:Value}(hv:DVal w M (.sl e) d v) (hM:∀ l xs,DRepA w M e l xs→DRepA w M' e l xs):Src w M' e d v:=by
 unfold DVal at hv
 simp only [Ty.isAgg,wA0,if_false] at hv
 obtain ⟨_,hv⟩:=hv
 cases d<;>simp only [DRep] at hv
 ·obtain ⟨a,cap,xs,h1,h2,h3,h4,h5⟩:=hv
  injection h1 with h1
  exact .inr ⟨_,xs,a,cap,rfl,h1,hM _ _ h3,h4⟩
 ·injection hv with hv
  exact .inl ⟨rfl,hv⟩
theorem Src.keep {w:World}{M M':Nat→Prop}{e:Ty}{d:D}{v:Value}(K:Keeps w w M M') (h:Src w M e d v):Src w M' e d v:=by
 rcases h with h|⟨l,xs,ad,cap,h1,h2,h3,h4⟩
 ·exact .inl h
 ·exact .inr ⟨l,xs,ad,cap,h1,h2,h3.keep K,h4⟩
section
variable {C:FuncId→List D→Option (List D)} {k B0:Nat} {X:Ctx} {cx:Cx}
theorem zsb {e:Ty}{r:Nat}{vw:Option (At×At)}{v:Value}{a:At}(m:Mem B0 X) (hA:X.A r) (hh:HRep X e r vw v) (hR:X.μ r=.row e a) {d:D}
  (hd:match vw with|none=>a.get X.E=some d|some (lo,hi)=>∃ u l h,a.get X.E=some u∧lo.get X.E=some l∧hi.get X.E=some h∧Prim.run .sub [u,l,h]=some d):Src X.w X.M e d v:=by
 obtain ⟨a1,d1,h1,h2,h3⟩:=hh
 rw [hR] at h1
 injection h1 with h1
 injection h1 with _ h1
 subst h1
 have hrep:=m.rep r hA
 rw [hR] at hrep
 obtain ⟨d2,g1,g2⟩:=hrep
 rw [h2] at g1
 injection g1 with g1
 subst g1
 have emp:∀ {d:D} {v:Value},Empt d v→Src X.w X.M e d v:=fun h=>by
  rcases h with ⟨h,h'⟩|⟨h,ad,h'⟩
  ·exact .inl ⟨h,h'⟩
  ·exact .inr ⟨[],[],ad,0,h,h',by simp [DRepA],fun j u hj=>by simp at hj⟩
 cases vw with
 | none =>
  simp only at hd
  rw [h2] at hd
  injection hd with hd
  subst hd
  rcases h3 with ⟨p1,p2,_⟩|⟨bb,l,p1,p2,cap,bs,p3,p4,p5,p6⟩
  ·exact emp p2
  ·rcases g2 with ⟨q1,q2⟩|⟨b',c,te,fr,l',xs,q1,q2,q3,q4,q5,q6⟩
   ·rw [p1] at q1;cases q1
   ·rw [p1] at q1
    injection q1 with q1
    subst q1
    rw [p2] at q2
    injection q2 with q2
    subst q2 p2
    exact .inr ⟨l,xs,_,cap,rfl,p3,q5,fun j u hj=>by rw [addr_add,Nat.zero_add];exact za3 q3 q6 hj⟩
 | some p =>
  obtain ⟨lo,hi⟩:=p
  obtain ⟨u,l0,h0,f1,f2,f3,f4⟩:=hd
  rw [h2] at f1
  injection f1 with f1
  subst f1
  rcases h3 with ⟨p1,p2,k,k',p4,p5⟩|⟨bb,l,p1,p2,ad,cap,bs,k,k',i,j,p3,p4,p5,p6,p7,p8,p9,p10,p11⟩
  ·rw [p4] at f2
   rw [p5] at f3
   injection f2 with f2
   injection f3 with f3
   subst f2 f3
   have e0:d=d1:=by
    rcases p2.em with h|h<;>subst h<;>simp [Prim.run] at f4<;>exact f4.symm
   subst e0
   exact emp p2
  ·rw [p3] at f2
   rw [p4] at f3
   injection f2 with f2
   injection f3 with f3
   subst f2 f3 p2
   have hc:(0:Int)≤Int.ofNat i∧Int.ofNat i≤Int.ofNat j∧Int.ofNat j≤(l.length:Int):=⟨by simp,by simpa using p5,by simpa using p6⟩
   simp only [Prim.run,if_pos hc] at f4
   injection f4 with f4
   subst f4
   rcases g2 with ⟨q1,q2⟩|⟨b',c,te,fr,l',xs,q1,q2,q3,q4,q5,q6⟩
   ·rw [p1] at q1;cases q1
   ·rw [p1] at q1
    injection q1 with q1
    subst q1
    injection q2 with q2
    subst q2
    have hlen:((l.take (Int.ofNat j).toNat).drop (Int.ofNat i).toNat).length=j - i:=by
     simp only [List.length_drop,wE0,Int.ofNat_eq_natCast,Int.toNat_natCast]
     omega
    refine .inr ⟨_,(xs.take (j * e.size)).drop (i * e.size),ad,cap,rfl,by rw [hlen,p7],?_,fun n u hn=>?_⟩
    ·simp only [Int.ofNat_eq_natCast,Int.toNat_natCast]
     exact (q5.take j).drop i
    ·have hn':n<((xs.take (j * e.size)).drop (i * e.size)).length:=by
      rcases Nat.lt_or_ge n ((xs.take (j * e.size)).drop (i * e.size)).length with h|h
      ·exact h
      ·rw [List.getElem?_eq_none h] at hn;cases hn
     simp only [List.length_drop,wE0] at hn'
     have hij:i<j:=by
      rcases Nat.lt_or_ge i j with h|h
      ·exact h
      ·have:=Nat.mul_le_mul_right e.size h
       omega
     rw [p11 (.inl (by omega)),addr_add]
     rw [List.getElem?_drop,List.getElem?_take] at hn
     split at hn
     ·exact za3 q3 q6 hn
     ·cases hn
theorem zdg {e:Ty}{x:SV}{σ σ':SS}{y:At}{v:Value}(hB:B0≤X.w.heap.size) (h:Run (zqT e x) X.μ σ y σ') (hs:Sat C k X.E σ'.bs σ'.nv) (m:Mem B0 (X.mv σ.up)) (hv:VRep (X.mv σ.up) x v) :
  Ext (X.mv σ.up) (X.mv σ'.up)∧Mem B0 (X.mv σ'.up)∧σ'.ab=σ.ab∧∃ d,y.get X.E=some d∧Src X.w (X.mv σ'.up).M e d v:=by
 have row:∀ {e':Ty} {r:Nat} {vw:Option (At×At)} {σ:SS} {a:At},Mem B0 (X.mv σ.up)→VRep (X.mv σ.up) (.h e' r vw) v→(X.mv σ.up).μ r=.row e a→Run (SV.view false (.sl e) (.h e' r vw)) X.μ σ y σ' →
   Ext (X.mv σ.up) (X.mv σ'.up)∧Mem B0 (X.mv σ'.up)∧σ'.ab=σ.ab∧∃ d,y.get X.E=some d∧Src X.w (X.mv σ'.up).M e d v:=by
  intro e' r vw σ a m hv hR h
  simp only [SV.view] at h
  obtain ⟨_,s1,h1,h2⟩:=Run.bind h
  obtain ⟨hT,e1⟩:=Run.guard h1
  subst e1
  have hT:=Ty.beq_eq hT
  injection hT with hT
  subst hT
  obtain ⟨a0,s2,h3,h4⟩:=Run.bind h2
  simp only [VRep,Ref] at hv
  obtain ⟨hone,hA,hh⟩:=hv
  have hA':X.A r:=hA
  obtain ⟨r1,x,m',hf,r2,ho⟩:=zbU h3 m hB hA'
  have es:=hf rfl
  subst es
  rw [hR] at r1
  simp only [Root.row?,wB0,Prod.mk.injEq,true_and] at r1
  subst r1
  have hh':=hh (by rw [hR];rfl)
  cases vw with
  | none =>
   obtain ⟨e1,e2⟩:=Run.pure h4
   subst e1 e2
   obtain ⟨a1,d1,g1,g2,_⟩:=id hh'
   rw [hR] at g1
   simp only [Root.row?,wB0,Prod.mk.injEq,true_and] at g1
   subst g1
   exact ⟨Ext.refl _,m,rfl,d1,g2,zsb m hA hh' hR g2⟩
  | some p =>
   obtain ⟨lo,hi⟩:=p
   obtain ⟨⟨u,l,hh0,d,f1,f2,f3,f4,f5⟩,e1,e2⟩:=Run.op3 h4 hs
   rw [e1,e2]
   exact ⟨Ext.refl _,m,rfl,d,f5,zsb m hA hh' hR ⟨u,l,hh0,f1,f2,f3,f4⟩⟩
 have any:∀ {T:SV},T=x→Run (SV.view true (.sl e) T) X.μ σ y σ'→Ext (X.mv σ.up) (X.mv σ'.up)∧Mem B0 (X.mv σ'.up)∧σ'.ab=σ.ab∧∃ d,y.get X.E=some d∧Src X.w (X.mv σ'.up).M e d v:=by
  intro T hT hh
  rw [hT] at hh
  obtain ⟨x1,m1,_,hab,d,hd,hdv⟩:=zej hB hh hs m hv
  exact ⟨x1,m1,hab,d,hd,Src.of hdv fun _ _ h=>h⟩
 unfold zqT at h
 rcases Run.ite h with ⟨hf,h⟩|⟨_,h⟩
 ·obtain ⟨x1,m1,_,hab,d,hd,hdv⟩:=zej hB h hs m hv
  exact ⟨x1,m1,hab,d,hd,Src.of hdv fun _ _ h=>h.flat hf⟩
 ·split at h
  ·rename_i e' r vw _
   obtain ⟨RR,s1,h1,h2⟩:=Run.bind h
   obtain ⟨e1,e2⟩:=Run.root h1
   subst e2
   split at h2
   ·rename_i e2 a2
    have hR:(X.mv s1.up).μ r=.row e2 a2:=e1.symm
    have hee:e2=e:=by
     have h:=h2
     simp only [SV.view] at h
     obtain ⟨_,s2,h3,h4⟩:=Run.bind h
     obtain ⟨hT,e3⟩:=Run.guard h3
     subst e3
     have hT:=Ty.beq_eq hT
     injection hT with hT
     subst hT
     obtain ⟨a0,s3,h5,_⟩:=Run.bind h4
     simp only [VRep,Ref] at hv
     obtain ⟨r1,_⟩:=zbU h5 m hB hv.2.1
     rw [hR] at r1
     simp only [Root.row?,wB0,Prod.mk.injEq] at r1
     exact r1.1
    subst hee
    exact row m hv hR h2
   ·rename_i e'' a g
    obtain ⟨_,s2,h3,h4⟩:=Run.bind h2
    obtain ⟨hb,es⟩:=Run.guard h3
    subst es
    have hb:=Ty.beq_eq hb
    subst hb
    obtain ⟨_,s3,h5,h6⟩:=Run.bind h4
    have es:=Run.put h5
    subst es
    have hA:X.A r:=by simp only [VRep,Ref] at hv;exact hv.2.1
    have hR:(X.mv s2.up).μ r=.mat e'' a g:=e1.symm
    obtain ⟨x1,m1⟩:=m.lower (hB:=hB) (r:=r) hA (e:=.sl e'') (a:=a) (.inr ⟨e'',g,rfl,hR⟩) (R:=.row (.sl e'') a) (.inr rfl)
    rw [← Ctx.mv_cons] at x1 m1
    obtain ⟨x2,m2,hab,hd⟩:=row (σ:={ s2 with up:=(r,Root.row (.sl e'') a)::s2.up }) (a:=a) m1 (VRep.ext x1 hv) (by rw [Ctx.mv_cons];simp [upd_same]) h6
    exact ⟨x1.trans x2,m2,hab,hd⟩
   ·exact any rfl h2
  ·exact any rfl h
theorem Mem.newEmpt (m:Mem B0 X) (hB:B0≤X.w.heap.size) {r:Nat}(hn:¬ X.A r) {e:Ty}{a:At}{d:D}{v:Value}(ha:a.get X.E=some d) (hv:Empt d v) :
  let X':=X.grown X.w r (.row e a) ⟨none,[]⟩
  (Ext X X'∧Mem B0 X')∧VRep X' (.h e r none) v:=by
 intro X'
 have hr:X'.μ r=.row e a:=by simp [X',Ctx.grown,upd_same]
 have hβ:X'.β r=⟨none,[]⟩:=by simp [X',Ctx.grown,upd_same]
 refine ⟨m.grow hB hn (Below.refl _ _) (fun b hb=>by simp [Root.own] at hb) (by simp [Root.own]) fun x=>⟨_,ha,.inl ⟨by rw [hβ],hv.em⟩⟩,?_⟩
 simp only [VRep,Ref]
 obtain ⟨A,e0⟩:=hv.val
 exact ⟨by rw [e0];exact zaf _ _ _,.inr rfl,fun _=>⟨a,d,by rw [hr];rfl,ha,.inl ⟨by rw [hβ],hv,trivial⟩⟩⟩
theorem zdq (_ty:TysOk cx) (hB:B0≤X.w.heap.size) (m:Mem B0 X) {t E tt:TypeId}{e:Ty}{i:TypeInfo}(hu:cx.P.underlying t=some (.slice E)) (tf:TyFact cx E e i) {xt E2:TypeId}(hx:cx.P.underlying xt=some (.slice E2)) {r:Nat}(hn:¬ X.A r)
  {o d dn:D} {vs vx:Value} (hs:Empt o vs) (hd:Src X.w X.M e d vx) (happ:appD (cx.by_ E) o d=some dn) {a:At} (ha:a.get X.E=some dn) :
  ∃ v w' p,(Builtin.append_ #[t,xt] tt #[vs,vx]).run cx.P X.w=.ok v w'∧Below X.w.heap.size X.w w' ∧
   (Ext X (X.grown w' r (.row e a) p)∧Mem B0 (X.grown w' r (.row e a) p))∧VRep (X.grown w' r (.row e a) p) (.h e r none) v:=by
 obtain ⟨A,eA⟩:=hs.val
 subst eA
 rw [zcD hx hu A 0 0 vx tf.info]
 simp only [appD,hs.em.els] at happ
 rcases hd with ⟨h1,h2⟩|⟨l,xs,ad,cap,h1,h2,h3,h4⟩
 ·subst h1 h2
  simp only [D.els,List.length_nil,Nat.zero_add,List.append_nil] at happ
  split at happ
  ·injection happ with happ
   have he:dn=o:=by
    rcases hs.em with h|h<;>subst h<;>simp at happ<;>exact happ.symm
   subst he
   obtain ⟨h5,h6⟩:=m.newEmpt hB hn ha hs (e:=e)
   exact ⟨_,X.w,⟨none,[]⟩,zem hu tf.info (wG0 _),Below.refl _ _,h5,h6⟩
  ·cases happ
 ·subst h1 h2
  simp only [D.els,List.nil_append,List.length_nil,Nat.zero_add] at happ
  split at happ
  ·rename_i hroom
   injection happ with happ
   cases l with
   | nil =>
    have he:dn=o:=by
     rcases hs.em with h|h<;>subst h<;>simp at happ<;>exact happ.symm
    subst he
    obtain ⟨h5,h6⟩:=m.newEmpt hB hn ha hs (e:=e)
    exact ⟨_,X.w,⟨none,[]⟩,zet hu tf.info (wG0 _),Below.refl _ _,h5,h6⟩
   | cons d0 l =>
    have he:dn=.sl (d0::l):=by
     rcases hs.em with h|h<;>subst h<;>simp at happ<;>exact happ.symm
    subst he
    obtain ⟨z,hz,hzd⟩:=tf.zero
    have hzs:z.cells.size=i.size:=by have:=(hzd X.w X.M).cells.length;rw [tf.size,← this];simp
    have hxl:xs.length=(d0::l).length * i.size:=by rw [tf.size];exact h3.length
    simp only [Cx.by_,Program.bytesOf,tf.info,Option.map_some,Option.getD_some] at hroom
    obtain ⟨cap',cells,hrun,hc1,hc2,hc3⟩:=zd3 (P:=cx.P) (w:=X.w) (ty:=tt) hu tf.info hz hzs (A:=A) (n:=0) (c:=0) (olds:=[])
     (by cases A with|none=>exact .inl ⟨rfl,rfl,rfl,rfl⟩|some b=>exact .inr ⟨b,rfl,by simp,fun j v hj=>by simp at hj⟩) (a:=ad) (m:=(d0::l).length) (c':=cap) hxl h4 (by simp) (by rw [Nat.zero_add];exact hroom)
    have hbel:Below X.w.heap.size X.w (X.w.drew.alloc (.cells cells E)):=((Below.refl _ _).drew).alloc (wG0 _) _
    have hnr:=m.newRow hB hn hbel (e:=e) (a:=a) (l:=d0::l) (xs:=xs) (c:=cells) (te:=E) (cap:=cap') ha (heap_alloc_new X.w.drew _) h3 (by simpa using hc3) (by omega) (by rw [← tf.size];exact hc2)
    rw [Nat.zero_add] at hrun
    exact ⟨_,_,_,hrun,hbel,hnr.1,hnr.2⟩
  ·cases happ
end
end Go.SX
namespace Go.SX
open Go.RowKit (Below)
section
variable {C:FuncId→List D→Option (List D)} {k B0:Nat} {X:Ctx} {cx:Cx}
def Ctx.swapped (X:Ctx) (w':World) (r r':Nat) (R:Root) (p:Pl):Ctx:={ E:=X.E,w:=w',μ:=upd (upd X.μ r .dead) r' R,β:=upd X.β r' p,A:=fun q=>X.A q∨q=r',F:=X.F }
theorem Mem.swap (m:Mem B0 X) (hB:B0≤X.w.heap.size) {r r':Nat}(hA:X.A r) (hn:¬ X.A r') {w':World}{R:Root}{p:Pl}
  (hw:∀ b,b<X.w.heap.size→b∉(X.μ r).own (X.β r)→w'.heap[b]?=X.w.heap[b]?) (hs:∀ b n,bsize X.w b=some n→bsize w' b=some n)
  (hown:∀ b,b∈R.own p→X.w.heap.size≤b∨b∈(X.μ r).own (X.β r)) (hnd:(R.own p).Nodup) (hrep:Ext X (X.swapped w' r r' R p)→RootRep (X.swapped w' r r' R p) r' R) (hnl:(X.μ r).noLt=true:=by simp [*,Root.noLt]) :
  Ext X (X.swapped w' r r' R p)∧Mem B0 (X.swapped w' r r' R p):=by
 have hne:r≠r':=fun e=>hn (e▸hA)
 have hneq:∀ q,X.A q→q≠r':=fun q hq e=>hn (e▸hq)
 have hd:(X.swapped w' r r' R p).μ r=.dead:=by simp [Ctx.swapped,upd_ne _ _ hne,upd_same]
 have hr':(X.swapped w' r r' R p).μ r'=R:=by simp [Ctx.swapped,upd_same]
 have hβ':(X.swapped w' r r' R p).β r'=p:=by simp [Ctx.swapped,upd_same]
 refine Mem.change m hB (fun q=>q=r∨q=r') (fun _ _ h=>h) (fun _ h=>.inl h) (fun q h=>h.elim .inl fun h=>.inr (.inr h)) (fun q hq=>?_) (fun b hlt hb=>hw b hlt (hb r (.inl rfl) hA)) hs ?_ ?_ ?_ ?_ ?_ ?_ rfl (fun q hq ha e1 a1 q' h=>by
  rcases hq with hq|hq
  ·rw [hq] at h;rw [h] at hnl;cases hnl
  ·exact absurd ha (hq▸hn))
 ·exact ⟨by simp [Ctx.swapped,upd_ne _ _ (fun h=>hq (.inr h)),upd_ne _ _ (fun h=>hq (.inl h))],by simp [Ctx.swapped,upd_ne _ _ (fun h=>hq (.inr h))]⟩
 ·intro q b hq _ hb
  rcases hq with hq|hq
  ·subst hq;rw [hd] at hb;simp [Root.own] at hb
  ·subst hq
   rw [hr',hβ'] at hb
   rcases hown b hb with h|h
   ·exact .inl h
   ·exact .inr ⟨r,.inl rfl,hA,h⟩
 ·intro q q' b hq hq' _ _ hb hb'
  rcases hq with hq|hq
  ·subst hq;rw [hd] at hb;simp [Root.own] at hb
  ·rcases hq' with hq'|hq'
   ·subst hq';rw [hd] at hb';simp [Root.own] at hb'
   ·rw [hq,hq']
 ·intro q hq _
  rcases hq with hq|hq
  ·subst hq;rw [hd];simp [Root.own]
  ·subst hq;rw [hr',hβ'];exact hnd
 ·intro q hq ha
  simp [Ctx.swapped,upd_ne _ _ (hneq q ha)]
 ·intro q hq ha ht
  rcases hq with hq|hq
  ·subst hq;rw [hd] at ht;cases ht
  ·exact absurd hq (hneq q ha)
 ·intro x q hq ha
  rcases hq with hq|hq
  ·subst hq;rw [hd];trivial
  ·subst hq;rw [hr'];exact hrep x
theorem Nx.swapped {up up':List (Nat×Root)}{ab ab' ab0 r r':Nat}{R:Root}{p:Pl}{w':World}(x:Ext X (X.mv up)) (hb:Below B0 X.w w')
  (h:Ext (X.mv up) ((X.mv up).swapped w' r r' R p)∧Mem B0 ((X.mv up).swapped w' r r' R p)) (hup:up'=(r',R)::(r,.dead)::up) (hr:r'=ab) (ha:ab'=ab + 1) (h0:ab=ab0):Nx B0 X ((X.mv up).swapped w' r r' R p) up' ab0 ab' w' where
 E:=rfl
 w:=rfl
 μ:=by rw [hup,zaF,zaF];rfl
 A:=fun q=>by
  show (X.A q∨q=r')↔X.A q∨ab0≤q∧q<ab'
  constructor
  ·rintro (h|h)
   ·exact .inl h
   ·exact .inr (by omega)
  ·rintro (h|h)
   ·exact .inl h
   ·exact .inr (by omega)
 ext:=x.trans h.1
 mem:=h.2
 below:=hb
theorem zhN (hB:B0≤X.w.heap.size) (m:Mem B0 X) {t E tt:TypeId}{e:Ty}{i:TypeInfo}(hu:cx.P.underlying t=some (.slice E)) (tf:TyFact cx E e i) {xt E2:TypeId}(hx:cx.P.underlying xt=some (.slice E2)) {r r':Nat}(hA:X.A r) (hn:¬ X.A r')
  {a0:At} (hR:X.μ r=.row e a0) {b te:Nat} {c:Array Value} {l:List D} {xs:List Value} (hm:(X.β r).main=some b) (hh:X.w.heap[b]?=some (.cells c te (0,0))) (hx0:DRepA X.w X.M e l xs) (hc:c.toList.take xs.length=xs)
  {n cap:Nat} (h1:n≤l.length) (h2:n≤cap) (h3:cap * e.size≤c.size) {d:D} {vx:Value} (hd:Src X.w X.M e d vx) {l2:List D} (hl2:d.els=some l2) (hroom:zaO (n + l2.length) (cx.by_ E)=true)
  {tail:List D} (htail:tail=[]∨(tail=l.drop (n + l2.length)∧l.length≤cap)) {a:At} (ha:a.get X.E=some (.sl (l.take n++(l2++tail)))) :
  ∃ w' g cap' bs,(Builtin.append_ #[t,xt] tt #[.slice (some ⟨b,0,none⟩) n cap,vx]).run cx.P X.w=.ok (.slice (some ⟨g,0,none⟩) (n + l2.length) cap') w'∧Below B0 X.w w' ∧
   (Ext X (X.swapped w' r r' (.row e a) ⟨some g,[]⟩)∧Mem B0 (X.swapped w' r r' (.row e a) ⟨some g,[]⟩))∧n + l2.length + tail.length≤cap'∧bsize w' g=some bs∧cap' * e.size≤bs:=by
 have hmem:b∈(X.μ r).own (X.β r):=by rw [hR];simp [Root.own,hm]
 have hlen:=hx0.length
 have hxc:xs.length≤c.toList.length:=by rw [← hc,wE0];omega
 have hmul:n * e.size≤xs.length:=by rw [hlen];exact Nat.mul_le_mul_right _ h1
 have fin:∀ {w':World} {g te':Nat} {c':Array Value} {xs':List Value},(∀ q,q<X.w.heap.size→q≠b→w'.heap[q]?=X.w.heap[q]?)→(∀ q n,bsize X.w q=some n→bsize w' q=some n)→(g=b∨g=X.w.heap.size) →
   w'.heap[g]?=some (.cells c' te' (0,0))→DRepA X.w X.M e (l.take n++(l2++tail)) xs'→c'.toList.take xs'.length=xs' →
   Ext X (X.swapped w' r r' (.row e a) ⟨some g,[]⟩)∧Mem B0 (X.swapped w' r r' (.row e a) ⟨some g,[]⟩):=by
  intro w' g te' c' xs' f1 f2 f3 f4 f5 f6
  refine m.swap hB hA hn (fun q hq hb=>f1 q hq fun e=>hb (e▸hmem)) f2 (fun q hq=>?_) (by simp [Root.own]) fun x=>⟨_,ha,.inr ⟨g,c',te',(0,0),_,xs',by simp [Ctx.swapped,upd_same],rfl,f4,fun _=>rfl,f5.keep x.K,f6⟩⟩
  simp only [Root.own,Option.toList,List.mem_singleton] at hq
  subst hq
  rcases f3 with f3|f3
  ·exact .inr (f3▸hmem)
  ·exact .inl (by omega)
 have hlow:=m.low r b hA hmem
 have none:∀ {vx:Value},l2=[]→(Builtin.append_ #[t,t] tt #[.slice (some ⟨b,0,none⟩) n cap,vx]).run cx.P X.w=.ok (.slice (some ⟨b,0,none⟩) n cap) X.w→∃ w' g cap' bs,(Builtin.append_ #[t,t] tt #[.slice (some ⟨b,0,none⟩) n cap,vx]).run cx.P X.w=.ok (.slice (some ⟨g,0,none⟩) (n + l2.length) cap') w'∧Below B0 X.w w' ∧
   (Ext X (X.swapped w' r r' (.row e a) ⟨some g,[]⟩)∧Mem B0 (X.swapped w' r r' (.row e a) ⟨some g,[]⟩))∧n + l2.length + tail.length≤cap'∧bsize w' g=some bs∧cap' * e.size≤bs:=by
  intro vx h0 hrun
  subst h0
  refine ⟨X.w,b,cap,c.size,hrun,Below.refl _ _,?_,?_,by simp [bsize,hh],h3⟩
  ·rcases htail with ht|⟨ht,_⟩
   ·subst ht
    simp only [List.append_nil] at fin
    refine fin (fun _ _ _=>rfl) (fun _ _ h=>h) (.inl rfl) hh (hx0.take n) ?_
    rw [wE0,Nat.min_eq_left hmul]
    rw [← hc,List.take_take,Nat.min_eq_left hmul]
   ·subst ht
    simp only [List.length_nil,Nat.add_zero,List.nil_append,List.take_append_drop] at fin
    exact fin (fun _ _ _=>rfl) (fun _ _ h=>h) (.inl rfl) hh hx0 hc
  ·rcases htail with ht|⟨ht,ht2⟩
   ·subst ht;simpa using h2
   ·subst ht;simp only [List.length_nil,Nat.add_zero,List.length_drop];omega
 rw [zcD hx hu (some ⟨b,0,.none⟩) n cap vx tf.info]
 rcases hd with ⟨h4,h5⟩|⟨l3,ys,ad,cap2,h4,h5,h6,h7⟩
 ·subst h4 h5
  simp only [D.els,wB0] at hl2
  exact none hl2.symm (zem hu tf.info h2)
 ·subst h4 h5
  simp only [D.els,wB0] at hl2
  subst hl2
  cases hl3:l3 with
  | nil=>exact hl3▸none hl3 (by rw [hl3];exact zet hu tf.info h2)
  | cons d0 l4 =>
  rw [← hl3]
  have hpos:0<l3.length:=by rw [hl3];simp
  clear hl3
  have hyl:ys.length=l3.length * i.size:=by rw [tf.size];exact h6.length
  by_cases hfit:n + l3.length≤cap
  ·have hf2:n * i.size + ys.length≤c.size:=by
    rw [hyl,← Nat.add_mul,tf.size]
    exact Nat.le_trans (Nat.mul_le_mul_right _ hfit) h3
   have hrun:=zgf (P:=cx.P) (w:=X.w) (ty:=tt) hu tf.info hh hyl h7 h6.ones hfit hf2 (c:=cap2)
   have hsz:(patch c.toList (n * i.size) ys).toArray.size=c.size:=by
    have:=zaj (cs:=c.toList) (cv:=ys) (o:=n * i.size) (by simpa using hf2)
    simpa using this
   refine ⟨_,b,cap,c.size,hrun,below_setRow (Below.refl _ _) hlow _,?_,?_,by simp [bsize,setRow_heap _ _ _ _ _ _ hh,hsz],h3⟩
   ·have hcells:=setRow_heap _ _ _ (patch c.toList (n * i.size) ys).toArray _ _ hh
    have hoth:∀ q,q<X.w.heap.size→q≠b→(X.w.setRow b (patch c.toList (n * i.size) ys).toArray).heap[q]?=X.w.heap[q]?:=fun q _ hq=>setRow_other _ _ _ _ hq
    have hbs:∀ q n',bsize X.w q=some n'→bsize (X.w.setRow b (patch c.toList (n * i.size) ys).toArray) q=some n':=fun q n' h=>zcy hh hsz h
    have e1:(patch c.toList (n * i.size) ys)=xs.take (n * e.size)++(ys++c.toList.drop (n * i.size + ys.length)):=by
     simp only [patch,List.append_assoc]
     congr 1
     rw [tf.size,← hc,List.take_take,Nat.min_eq_left hmul]
    have hl1:(xs.take (n * e.size)).length=n * e.size:=by rw [wE0,Nat.min_eq_left hmul]
    rcases htail with ht|⟨ht,_⟩
    ·subst ht
     simp only [List.append_nil] at fin
     refine fin hoth hbs (.inl rfl) hcells ((hx0.take n).append h6) ?_
     show (patch c.toList (n * i.size) ys).take _=_
     rw [e1,← List.append_assoc]
     exact List.take_left' rfl
    ·subst ht
     refine fin hoth hbs (.inl rfl) hcells ((hx0.take n).append (h6.append (hx0.drop (n + l3.length)))) ?_
     show (patch c.toList (n * i.size) ys).take _=_
     have e2:n * i.size + ys.length=(n + l3.length) * e.size:=by rw [hyl,← Nat.add_mul,tf.size]
     rw [e1,e2]
     have e3:xs.drop ((n + l3.length) * e.size)=(c.toList.drop ((n + l3.length) * e.size)).take (xs.length - (n + l3.length) * e.size):=by
      conv=>lhs;rw [← hc,List.drop_take]
     rw [e3]
     simp only [wI0]
     rw [← List.append_assoc,← List.append_assoc,← Nat.add_assoc,List.take_append,List.take_of_length_le (by simp only [wI0];omega)]
     congr 1
     simp only [wI0,Nat.add_sub_cancel_left]
     rw [wE0,List.take_eq_take_iff]
     simp only [List.length_drop]
     omega
   ·rcases htail with ht|⟨ht,ht2⟩
    ·subst ht;simpa using hfit
    ·subst ht;simp only [List.length_drop];omega
  ·have htl:tail=[]:=by
    rcases htail with ht|⟨ht,ht2⟩
    ·exact ht
    ·rw [ht];exact List.drop_eq_nil_of_le (by omega)
   subst htl
   obtain ⟨z,hz,hzd⟩:=tf.zero
   have hzs:z.cells.size=i.size:=by have:=(hzd X.w X.M).cells.length;rw [tf.size,← this];simp
   simp only [Cx.by_,Program.bytesOf,tf.info,Option.map_some,Option.getD_some] at hroom
   have hl1:(xs.take (n * e.size)).length=n * i.size:=by rw [wE0,Nat.min_eq_left hmul,tf.size]
   obtain ⟨cap',cells,hrun,hc1,hc2,hc3⟩:=zd3 (P:=cx.P) (w:=X.w) (ty:=tt) hu tf.info hz hzs (A:=some ⟨b,0,.none⟩) (n:=n) (c:=cap) (olds:=xs.take (n * e.size))
    (.inr ⟨_,rfl,hl1,fun j v hj=>by
     rw [addr_add,Nat.zero_add]
     rw [List.getElem?_take] at hj
     split at hj
     ·exact za3 hh hc hj
     ·cases hj⟩) (a:=ad) (m:=l3.length) (c':=cap2) hyl h7 (by omega) hroom
   have hbel:Below X.w.heap.size X.w (X.w.drew.alloc (.cells cells E)):=((Below.refl _ _).drew).alloc (wG0 _) _
   refine ⟨_,X.w.heap.size,cap',cells.size,hrun,hbel.mono hB,?_,by simpa using hc1,?_,by rw [← tf.size];exact hc2⟩
   ·simp only [List.append_nil] at fin
    refine fin (fun q hq _=>hbel.block q hq) (fun q n' h=>(zax (hbel.block q (zck h))).trans h) (.inr rfl) (heap_alloc_new X.w.drew _) ((hx0.take n).append h6) hc3
   ·have:=heap_alloc_new X.w.drew (.cells cells E)
    have h':(X.w.drew.alloc (.cells cells E)).heap[X.w.heap.size]?=some (.cells cells E):=this
    unfold bsize
    rw [h']
end
end Go.SX
namespace Go.SX
open Go.RowKit (Below)
section
variable {C:FuncId→List D→Option (List D)} {k B0:Nat} {X:Ctx} {cx:Cx}
def Ctx.lent (X:Ctx) (w':World) (r r':Nat) (e:Ty) (a0 a:At) (g:Nat):Ctx:={ E:=X.E,w:=w',μ:=upd (upd X.μ r' (.bo e a)) r (.lt e a0 r'),β:=upd X.β r' ⟨some g,[]⟩,A:=fun q=>X.A q∨q=r',F:=X.F }
theorem Mem.lend (m:Mem B0 X) (hB:B0≤X.w.heap.size) {r r' b g:Nat}(hA:X.A r) (hn:¬ X.A r') {w':World}{e:Ty}{a0 a:At}(hR:X.μ r=.row e a0) (hm:(X.β r).main=some b)
  (hw:∀ q,q<X.w.heap.size→q≠b→w'.heap[q]?=X.w.heap[q]?) (hs:∀ q n,bsize X.w q=some n→bsize w' q=some n) (hg:g=b∨X.w.heap.size≤g)
  (h1:Ext X (X.lent w' r r' e a0 a g)→RowRep (X.lent w' r r' e a0 a g) r e a0 True) (h2:Ext X (X.lent w' r r' e a0 a g)→RowRep (X.lent w' r r' e a0 a g) r' e a False) :
  Ext X (X.lent w' r r' e a0 a g)∧Mem B0 (X.lent w' r r' e a0 a g):=by
 have hne:r≠r':=fun e=>hn (e▸hA)
 have hr:(X.lent w' r r' e a0 a g).μ r=.lt e a0 r':=by simp [Ctx.lent,upd_same]
 have hr':(X.lent w' r r' e a0 a g).μ r'=.bo e a:=by simp [Ctx.lent,upd_ne _ _ (Ne.symm hne),upd_same]
 have hβ:(X.lent w' r r' e a0 a g).β r=X.β r:=by simp [Ctx.lent,upd_ne _ _ hne]
 have hβ':(X.lent w' r r' e a0 a g).β r'=⟨some g,[]⟩:=by simp [Ctx.lent,upd_same]
 have hmem:b∈(X.μ r).own (X.β r):=by rw [hR];simp [Root.own,hm]
 have hneq:∀ q,X.A q→q≠r':=fun q hq e=>hn (e▸hq)
 have hout:∀ q,¬ (q=r∨q=r')→(X.lent w' r r' e a0 a g).μ q=X.μ q∧(X.lent w' r r' e a0 a g).β q=X.β q:=fun q hq =>
  ⟨by simp [Ctx.lent,upd_ne _ _ (fun h=>hq (.inl h)),upd_ne _ _ (fun h=>hq (.inr h))],by simp [Ctx.lent,upd_ne _ _ (fun h=>hq (.inr h))]⟩
 refine Mem.change m hB (fun q=>q=r∨q=r') (fun _ _ h=>h) (fun _ h=>.inl h) (fun q h=>h.elim .inl fun h=>.inr (.inr h)) hout (fun q hlt hq=>hw q hlt fun e=>hq r (.inl rfl) hA (e▸hmem)) hs ?_ ?_ ?_ ?_ ?_ ?_ rfl ?_
 ·intro q x hq _ hx
  rcases hq with hq|hq
  ·subst hq
   rw [hr,hβ] at hx
   exact .inr ⟨q,.inl rfl,hA,by rw [hR];exact hx⟩
  ·subst hq
   rw [hr'] at hx
   simp [Root.own] at hx
 ·intro q q' x hq hq' _ _ hx hx'
  rcases hq with hq|hq
  ·rcases hq' with hq'|hq'
   ·rw [hq,hq']
   ·subst hq';rw [hr'] at hx';simp [Root.own] at hx'
  ·subst hq;rw [hr'] at hx;simp [Root.own] at hx
 ·intro q hq _
  rcases hq with hq|hq
  ·subst hq
   rw [hr,hβ]
   have:=m.once q hA
   rw [hR] at this
   exact this
  ·subst hq;rw [hr'];simp [Root.own]
 ·intro q hq ha
  rcases hq with hq|hq
  ·rw [hq,hβ]
  ·exact absurd hq (hneq q ha)
 ·intro q hq ha _
  rcases hq with hq|hq
  ·subst hq
   refine ⟨by rw [hR];rfl,fun e1 a1 d h1 hd=>⟨a1,d,?_,hd,sameLen.refl d⟩,fun e1 a1 g h1=>?_⟩
   ·rw [hR] at h1
    rw [hr]
    exact h1
   ·rw [hr] at h1
    cases h1
  ·exact absurd hq (hneq q ha)
 ·intro x q hq _
  rcases hq with hq|hq
  ·subst hq;rw [hr];exact h1 x
  ·subst hq
   rw [hr']
   refine ⟨h2 x,fun b' hb'=>?_⟩
   rw [hβ'] at hb'
   injection hb' with hb'
   subst hb'
   rcases hg with hg|hg
   ·exact .inr ⟨r,e,a0,.inl hA,hr,by rw [hβ,hg];exact hm⟩
   ·refine .inl fun hM=>?_
    rcases hM with hf|⟨s,hs1,hs2⟩
    ·have:=m.frame _ hf
     omega
    ·by_cases hsS:s=r∨s=q
     ·rcases hsS with hs3|hs3
      ·subst hs3
       rw [hr,hβ] at hs2
       have:=m.lt hA (by rw [hR];exact hs2)
       omega
      ·subst hs3;rw [hr'] at hs2;simp [Root.own] at hs2
     ·obtain ⟨e1,e2⟩:=hout s hsS
      rw [e1,e2] at hs2
      have:=m.lt (hs1.resolve_right fun h=>hsS (.inr h)) hs2
      omega
 ·intro q hq ha e1 a1 q' h
  rcases hq with hq|hq
  ·rw [hq,hR] at h;cases h
  ·exact absurd hq (hneq q ha)
theorem Nx.lent {up up':List (Nat×Root)}{ab ab' ab0 r r' g:Nat}{e:Ty}{a0 a:At}{w':World}(x:Ext X (X.mv up)) (hb:Below B0 X.w w')
  (h:Ext (X.mv up) ((X.mv up).lent w' r r' e a0 a g)∧Mem B0 ((X.mv up).lent w' r r' e a0 a g)) (hup:up'=(r,.lt e a0 r')::(r',.bo e a)::up) (hr:r'=ab) (ha:ab'=ab + 1) (h0:ab=ab0):Nx B0 X ((X.mv up).lent w' r r' e a0 a g) up' ab0 ab' w' where
 E:=rfl
 w:=rfl
 μ:=by rw [hup,zaF,zaF];rfl
 A:=fun q=>by
  show (X.A q∨q=r')↔X.A q∨ab0≤q∧q<ab'
  constructor
  ·rintro (h|h)
   ·exact .inl h
   ·exact .inr (by omega)
  ·rintro (h|h)
   ·exact .inl h
   ·exact .inr (by omega)
 ext:=x.trans h.1
 mem:=h.2
 below:=hb
theorem zpr (hB:B0≤X.w.heap.size) (m:Mem B0 X) {t E tt:TypeId}{e:Ty}{i:TypeInfo}(hu:cx.P.underlying t=some (.slice E)) (tf:TyFact cx E e i) {xt E2:TypeId}(hx:cx.P.underlying xt=some (.slice E2)) {r r':Nat}(hA:X.A r) (hn:¬ X.A r')
  {a0:At} (hR:X.μ r=.row e a0) {b te:Nat} {c:Array Value} {l:List D} {xs:List Value} (ha0:a0.get X.E=some (.sl l)) (hm:(X.β r).main=some b) (hh:X.w.heap[b]?=some (.cells c te (0,0))) (hx0:DRepA X.w X.M e l xs) (hc:c.toList.take xs.length=xs)
  {cap:Nat} (h2:l.length≤cap) (h3:cap * e.size≤c.size) {d:D} {vx:Value} (hd:Src X.w X.M e d vx) {l2:List D} (hl2:d.els=some l2) (hroom:zaO (l.length + l2.length) (cx.by_ E)=true)
  {a:At} (ha:a.get X.E=some (.sl (l++l2))) :
  ∃ w' g cap' bs,(Builtin.append_ #[t,xt] tt #[.slice (some ⟨b,0,none⟩) l.length cap,vx]).run cx.P X.w=.ok (.slice (some ⟨g,0,none⟩) (l.length + l2.length) cap') w'∧Below B0 X.w w' ∧
   (Ext X (X.lent w' r r' e a0 a g)∧Mem B0 (X.lent w' r r' e a0 a g))∧l.length + l2.length≤cap'∧bsize w' g=some bs∧cap' * e.size≤bs:=by
 have hmem:b∈(X.μ r).own (X.β r):=by rw [hR];simp [Root.own,hm]
 have hne:r≠r':=fun e=>hn (e▸hA)
 have hlen:=hx0.length
 have hxc:xs.length≤c.toList.length:=by rw [← hc,wE0];omega
 have hblt:b<X.w.heap.size:=lt_of_heap hh
 have fin:∀ {w':World} {g te' te2:Nat} {c' c2:Array Value} {xs':List Value},(∀ q,q<X.w.heap.size→q≠b→w'.heap[q]?=X.w.heap[q]?)→(∀ q n,bsize X.w q=some n→bsize w' q=some n)→(g=b∨X.w.heap.size≤g) →
   w'.heap[b]?=some (.cells c2 te2 (0,0))→c2.toList.take xs.length=xs→w'.heap[g]?=some (.cells c' te' (0,0))→DRepA X.w X.M e (l++l2) xs'→c'.toList.take xs'.length=xs' →
   Ext X (X.lent w' r r' e a0 a g)∧Mem B0 (X.lent w' r r' e a0 a g):=by
  intro w' g te' te2 c' c2 xs' f1 f2 f3 f4 f5 f6 f7 f8
  refine m.lend hB hA hn hR hm f1 f2 f3 (fun x=>?_) fun x=>?_
  ·exact ⟨_,ha0,.inr ⟨b,c2,te2,(0,0),l,xs,by simp [Ctx.lent,upd_ne _ _ hne,hm],rfl,f4,fun _=>rfl,hx0.keep x.K,f5⟩⟩
  ·exact ⟨_,ha,.inr ⟨g,c',te',(0,0),_,xs',by simp [Ctx.lent,upd_same],rfl,f6,fun _=>rfl,f7.keep x.K,f8⟩⟩
 have hlow:=m.low r b hA hmem
 have none:∀ {vx:Value},l2=[]→(Builtin.append_ #[t,t] tt #[.slice (some ⟨b,0,none⟩) l.length cap,vx]).run cx.P X.w=.ok (.slice (some ⟨b,0,none⟩) l.length cap) X.w→∃ w' g cap' bs,(Builtin.append_ #[t,t] tt #[.slice (some ⟨b,0,none⟩) l.length cap,vx]).run cx.P X.w=.ok (.slice (some ⟨g,0,none⟩) (l.length + l2.length) cap') w'∧Below B0 X.w w' ∧
   (Ext X (X.lent w' r r' e a0 a g)∧Mem B0 (X.lent w' r r' e a0 a g))∧l.length + l2.length≤cap'∧bsize w' g=some bs∧cap' * e.size≤bs:=by
  intro vx h0 hrun
  subst h0
  simp only [List.append_nil] at fin
  exact ⟨X.w,b,cap,c.size,hrun,Below.refl _ _,fin (fun _ _ _=>rfl) (fun _ _ h=>h) (.inl rfl) hh hc hh hx0 hc,by simpa using h2,by simp [bsize,hh],h3⟩
 rw [zcD hx hu (some ⟨b,0,.none⟩) l.length cap vx tf.info]
 rcases hd with ⟨h4,h5⟩|⟨l3,ys,ad,cap2,h4,h5,h6,h7⟩
 ·subst h4 h5
  simp only [D.els,wB0] at hl2
  exact none hl2.symm (zem hu tf.info h2)
 ·subst h4 h5
  simp only [D.els,wB0] at hl2
  subst hl2
  cases hl3:l3 with
  | nil=>exact hl3▸none hl3 (by rw [hl3];exact zet hu tf.info h2)
  | cons d0 l4 =>
  rw [← hl3]
  have hpos:0<l3.length:=by rw [hl3];simp
  clear hl3
  have hyl:ys.length=l3.length * i.size:=by rw [tf.size];exact h6.length
  have hxl:l.length * i.size=xs.length:=by rw [tf.size];exact hlen.symm
  by_cases hfit:l.length + l3.length≤cap
  ·have hf2:l.length * i.size + ys.length≤c.size:=by
    rw [hyl,← Nat.add_mul,tf.size]
    exact Nat.le_trans (Nat.mul_le_mul_right _ hfit) h3
   have hrun:=zgf (P:=cx.P) (w:=X.w) (ty:=tt) hu tf.info hh hyl h7 h6.ones hfit hf2 (c:=cap2)
   have hsz:(patch c.toList (l.length * i.size) ys).toArray.size=c.size:=by
    have:=zaj (cs:=c.toList) (cv:=ys) (o:=l.length * i.size) (by simpa using hf2)
    simpa using this
   have hcells:=setRow_heap _ _ _ (patch c.toList (l.length * i.size) ys).toArray _ _ hh
   have e1:(patch c.toList (l.length * i.size) ys)=xs++(ys++c.toList.drop (l.length * i.size + ys.length)):=by
    simp only [patch,List.append_assoc]
    rw [hxl,hc]
   refine ⟨_,b,cap,c.size,hrun,below_setRow (Below.refl _ _) hlow _,fin (fun q _ hq=>setRow_other _ _ _ _ hq) (fun q n' h=>zcy hh hsz h) (.inl rfl) hcells ?_ hcells (hx0.append h6) ?_,hfit,by simp [bsize,setRow_heap _ _ _ _ _ _ hh,hsz],h3⟩
   ·show (patch c.toList (l.length * i.size) ys).take _=_
    rw [e1]
    exact List.take_left' rfl
   ·show (patch c.toList (l.length * i.size) ys).take _=_
    rw [e1,← List.append_assoc]
    exact List.take_left' rfl
  ·obtain ⟨z,hz,hzd⟩:=tf.zero
   have hzs:z.cells.size=i.size:=by have:=(hzd X.w X.M).cells.length;rw [tf.size,← this];simp
   simp only [Cx.by_,Program.bytesOf,tf.info,Option.map_some,Option.getD_some] at hroom
   obtain ⟨cap',cells,hrun,hc1,hc2,hc3⟩:=zd3 (P:=cx.P) (w:=X.w) (ty:=tt) hu tf.info hz hzs (A:=some ⟨b,0,.none⟩) (n:=l.length) (c:=cap) (olds:=xs)
    (.inr ⟨_,rfl,hxl.symm,fun j v hj=>by
     rw [addr_add,Nat.zero_add]
     exact za3 hh hc hj⟩) (a:=ad) (m:=l3.length) (c':=cap2) hyl h7 (by omega) hroom
   have hbel:Below X.w.heap.size X.w (X.w.drew.alloc (.cells cells E)):=((Below.refl _ _).drew).alloc (wG0 _) _
   refine ⟨_,X.w.heap.size,cap',cells.size,hrun,hbel.mono hB,fin (fun q hq _=>hbel.block q hq) (fun q n' h=>(zax (hbel.block q (zck h))).trans h) (.inr (wG0 _)) ((hbel.block b hblt).trans hh) hc (heap_alloc_new X.w.drew _) (hx0.append h6) hc3,by simpa using hc1,?_,by rw [← tf.size];exact hc2⟩
   have:=heap_alloc_new X.w.drew (.cells cells E)
   have h':(X.w.drew.alloc (.cells cells E)).heap[X.w.heap.size]?=some (.cells cells E):=this
   unfold bsize
   rw [h']
theorem zis (hB:B0≤X.w.heap.size) {t E tt:TypeId}{e:Ty}{i:TypeInfo}(hu:cx.P.underlying t=some (.slice E)) (tf:TyFact cx E e i) {xt E2:TypeId}(hx:cx.P.underlying xt=some (.slice E2))
  {σ s':SS} {x sv:SV} {r:Nat} (x0:Ext X (X.mv σ.up)) (m0:Mem B0 (X.mv σ.up)) (h:Run (zl4 e (cx.by_ E) r x) X.μ σ sv s') (hs:Sat C k X.E s'.bs s'.nv) (hfr:∀ q,σ.ab≤q→q<s'.ab→¬ X.A q)
  {vs vx:Value} (hvs:Ref (X.mv σ.up) (.h e r none) vs) (hvx:VRep (X.mv σ.up) x vx):Acts cx.P B0 X (Builtin.append_ #[t,xt] tt #[vs,vx]) σ s' fun X' v=>VRep X' sv v:=by
 unfold zl4 at h
 obtain ⟨y,s1,h1,h2⟩:=Run.bind h
 obtain ⟨a0,s2,h3,h4⟩:=Run.bind h2
 obtain ⟨g0,s3,h5,h6⟩:=Run.bind h4
 obtain ⟨a,s4,h7,h8⟩:=Run.bind h6
 obtain ⟨r',s5,h9,h10⟩:=Run.bind h8
 obtain ⟨_,s6,h11,h12⟩:=Run.bind h10
 obtain ⟨es,hR⟩:=zcl h3
 subst es
 obtain ⟨er,es⟩:=Run.new h9
 have ep:=Run.put h11
 obtain ⟨e1,e2⟩:=Run.pure h12
 have hA:X.A r:=by simp only [Ref] at hvs;exact hvs.2.1
 have hs6:Sat C k X.E s6.bs s6.nv:=by rw [← e2];exact hs
 have hs4:Sat C k X.E s4.bs s4.nv:=by rw [ep,es] at hs6;exact hs6
 obtain ⟨⟨u,v,dn,q1,q2,q3,q4⟩,q5,q6⟩:=Run.op2 h7 hs4
 have hs3:Sat C k X.E s3.bs s3.nv:=h7.sat hs4
 obtain ⟨⟨u',v',d0,p1,p2,p3,p4⟩,p5,p6⟩:=Run.op2 h5 hs3
 obtain ⟨x1,m1,hab,dy,hy,hsrc⟩:=zdg hB h1 (h5.sat hs3) m0 hvx
 rw [hy] at q2
 injection q2 with q2
 subst q2
 rw [q1] at p1
 injection p1 with p1
 subst p1
 simp only [i64c,At.get,wB0] at p2
 subst p2
 have hab4:s4.ab=σ.ab:=by rw [q6,p6,hab]
 have hnA:¬ X.A s4.ab:=hfr s4.ab (by rw [hab4];exact wG0 _) (by rw [e2,ep,es];exact Nat.lt_succ_self _)
 have hvs':=hvs.ext x1
 have hR':(X.mv s2.up).μ r=.row e a0:=hR
 rcases zg4 m1 hA hR' q1 hvs' with ⟨c1,c2⟩|⟨b,l,c,te,xs,cap,c1,c2,c3,c4,c5,c6,c7,c8⟩
 ·rcases c2.em with h|h<;>subst h<;>simp [Prim.run] at p3
 ·subst c2 c6
  cases hl2:dy.els with
  | none =>
   have q3:appD (cx.by_ E) (.sl l) dy=some dn:=q3
   unfold appD at q3
   rw [hl2] at q3
   simp [D.els] at q3
  | some l2 =>
   have q3:(if zaO (l.length + l2.length) (cx.by_ E)=true then some (D.sl (l++l2)) else none)=some dn:=by
    have q3:appD (cx.by_ E) (.sl l) dy=some dn:=q3
    unfold appD at q3
    rw [hl2] at q3
    exact q3
   split at q3
   ·rename_i hroom
    injection q3 with q3
    subst q3
    obtain ⟨w',g,cap',bs,hrun,hbel,hxm,g1,g2,g3⟩:=zpr (X:=X.mv s2.up) (tt:=tt) hB m1 hu tf hx hA hnA hR' q1 c1 c3 c4 c5 c7 c8 hsrc hl2 hroom q4
    have hne:r≠s4.ab:=fun h=>hnA (h▸hA)
    refine ⟨_,w',_,hrun,Nx.lent (x0.trans x1) hbel hxm ?_ rfl ?_ hab4,?_⟩
    ·rw [e2,ep,es]
     simp only
     rw [er,q5,p5]
    ·rw [e2,ep,es]
    ·rw [e1,er]
     simp only [VRep,Ref]
     exact ⟨zaf _ _ _,.inr rfl,fun _=>⟨a,_,by simp [Ctx.lent,upd_ne _ _ (Ne.symm hne),upd_same,Root.row?],q4,.inr ⟨g,_,by simp [Ctx.lent,upd_same],rfl,cap',bs,by simp,by simpa using g1,g2,g3⟩⟩⟩
   ·cases q3
theorem zjy (hB:B0≤X.w.heap.size) {t E tt:TypeId}{e:Ty}{i:TypeInfo}(hu:cx.P.underlying t=some (.slice E)) (tf:TyFact cx E e i) {xt E2:TypeId}(hx:cx.P.underlying xt=some (.slice E2))
  {σ s':SS} {x sv:SV} {r:Nat} (x0:Ext X (X.mv σ.up)) (m0:Mem B0 (X.mv σ.up)) (h:Run (zho e (cx.by_ E) r x) X.μ σ sv s') (hs:Sat C k X.E s'.bs s'.nv) (hfr:∀ q,σ.ab≤q→q<s'.ab→¬ X.A q)
  {vs vx:Value} (hvs:Ref (X.mv σ.up) (.h e r none) vs) (hvx:VRep (X.mv σ.up) x vx):Acts cx.P B0 X (Builtin.append_ #[t,xt] tt #[vs,vx]) σ s' fun X' v=>VRep X' sv v:=by
 unfold zho at h
 obtain ⟨RR,s1,h1,h2⟩:=Run.bind h
 obtain ⟨e1,es⟩:=Run.root h1
 subst es
 split at h2
 ·rename_i e'' a g
  obtain ⟨_,s2,h3,h4⟩:=Run.bind h2
  obtain ⟨hb,es⟩:=Run.guard h3
  subst es
  have hb:=Ty.beq_eq hb
  subst hb
  have hA:X.A r:=by simp only [Ref] at hvs;exact hvs.2.1
  have hR:(X.mv s2.up).μ r=.mat e'' a g:=e1.symm
  obtain ⟨_,s3,h5,h6⟩:=Run.bind h4
  have es:=Run.put h5
  subst es
  obtain ⟨x1,m1⟩:=m0.lower (hB:=hB) (r:=r) hA (e:=.sl e'') (a:=a) (.inr ⟨e'',g,rfl,hR⟩) (R:=.row (.sl e'') a) (.inr rfl)
  rw [← Ctx.mv_cons] at x1 m1
  exact zis hB hu tf hx (σ:={ s2 with up:=(r,Root.row (.sl e'') a)::s2.up }) (x0.trans x1) m1 h6 hs hfr (hvs.ext x1) (VRep.ext x1 hvx)
 ·exact zis hB hu tf hx x0 m0 h2 hs hfr hvs hvx
end
end Go.SX
namespace Go.SX
open Go.RowKit (Below)
theorem zdb:∀ (l m:List (Option Nat)),opts (l++m)=opts l++opts m
 | [],_=>rfl
 | some b::l,m=>by simp only [List.cons_append,opts,zdb l m]
 | none::l,m=>by simp only [List.cons_append,opts,zdb l m]
theorem RowCells.append {w:World}{M:Nat→Prop}{e:Ty}:∀ {os os':List (Option Nat)}{ds ds':List D}{vs vs':List Value},RowCells w M e os ds vs→RowCells w M e os' ds' vs'→RowCells w M e (os++os') (ds++ds') (vs++vs')
 | [],_,[],_,[],_,_,h=>h
 | _::_,_,_::_,_,_::_,_,h,h'=>⟨h.1,RowCells.append h.2 h'⟩
 | [],_,_::_,_,_,_,h,_|_::_,_,[],_,_,_,h,_|[],_,[],_,_::_,_,h,_|_::_,_,_::_,_,[],_,h,_=>by simp only [RowCells] at h
theorem RowCells.ones {w:World}{M:Nat→Prop}{e:Ty}:∀ {os:List (Option Nat)}{ds:List D}{vs:List Value},RowCells w M e os ds vs→∀ v∈vs,One v
 | [],[],[],_,v,hv=>by cases hv
 | _::os,_::ds,_::vs,h,v,hv=>by
  rcases List.mem_cons.1 hv with hv|hv
  ·subst hv;exact h.1.one
  ·exact RowCells.ones h.2 v hv
 | [],_::_,_,h,_,_|_::_,[],_,h,_,_|[],[],_::_,h,_,_|_::_,_::_,[],h,_,_=>by simp only [RowCells] at h
section
variable {k B0:Nat} {X:Ctx} {cx:Cx}
theorem Mem.fuse {e:Ty}{r' g:Nat}{a:At}{rs:List Nat}{rows:List (Option Nat)}{ds:List D}{vs:List Value}{w':World}{c:Array Value}{te:TypeId}(m:Mem B0 X) (hB:B0≤X.w.heap.size) (hrs0:∀ q∈rs,X.A q∧(X.μ q).noLt=true) (hn:¬ X.A r')
  (hw:∀ b,b<X.w.heap.size→(∀ s∈rs,b∉(X.μ s).own (X.β s))→w'.heap[b]?=X.w.heap[b]?) (hs:∀ b n,bsize X.w b=some n→bsize w' b=some n)
  (hrows:∀ b∈opts rows,(∃ s∈rs,b∈(X.μ s).own (X.β s))∧w'.heap[b]?=X.w.heap[b]?) (hg:X.w.heap.size≤g∨∃ s∈rs,g∈(X.μ s).own (X.β s)) (hgn:g∉opts rows) (hnd:(opts rows).Nodup)
  (ha:a.get X.E=some (.sl ds)) (hh:w'.heap[g]?=some (.cells c te (0,0))) (hcells:RowCells X.w X.M e rows ds vs) (hc:c.toList.take vs.length=vs) :
  Ext X (X.joined w' rs r' (.mat e a 0) ⟨some g,rows⟩)∧Mem B0 (X.joined w' rs r' (.mat e a 0) ⟨some g,rows⟩):=by
 have hrs:=fun q h=>(hrs0 q h).1
 have hrn:r'∉rs:=fun h=>hn (hrs r' h)
 have hr:(X.joined w' rs r' (.mat e a 0) ⟨some g,rows⟩).μ r'=.mat e a 0:=by simp [Ctx.joined,upd_same]
 have hβ:(X.joined w' rs r' (.mat e a 0) ⟨some g,rows⟩).β r'=⟨some g,rows⟩:=by simp [Ctx.joined,upd_same]
 have hdead:∀ q∈rs,(X.joined w' rs r' (.mat e a 0) ⟨some g,rows⟩).μ q=.dead:=fun q hq=>by
  have:q≠r':=fun h=>hrn (h▸hq)
  simp only [Ctx.joined,upd_ne _ _ this]
  rw [if_pos hq]
 refine Mem.change m hB (fun q=>q=r'∨q∈rs) (fun _ _ h=>h) (fun _ h=>.inl h) (fun q h=>h.imp id .inl) (fun q hq=>?_) (fun b hlt hb=>hw b hlt fun s h=>hb s (.inr h) (hrs s h)) hs ?_ ?_ ?_ ?_ ?_ ?_ rfl (fun q hq ha e1 a1 q' h=>by
  rcases hq with hq|hq
  ·exact absurd (hq▸ha) hn
  ·have:=(hrs0 q hq).2;rw [h] at this;cases this)
 ·have h1:q≠r':=fun h=>hq (.inl h)
  have h2:q∉rs:=fun h=>hq (.inr h)
  refine ⟨?_,by simp [Ctx.joined,upd_ne _ _ h1]⟩
  simp only [Ctx.joined,upd_ne _ _ h1]
  rw [if_neg h2]
 ·intro q b hq _ hm
  rcases hq with hq|hq
  ·subst hq
   rw [hr,hβ] at hm
   simp only [Root.own,Option.toList,List.singleton_append,List.mem_cons] at hm
   rcases hm with hm|hm
   ·subst hm
    rcases hg with hg|⟨s,h1,h2⟩
    ·exact .inl hg
    ·exact .inr ⟨s,.inr h1,hrs s h1,h2⟩
   ·obtain ⟨⟨s,h1,h2⟩,_⟩:=hrows b hm
    exact .inr ⟨s,.inr h1,hrs s h1,h2⟩
  ·rw [hdead q hq] at hm
   simp [Root.own] at hm
 ·intro q q' b hq hq' _ _ hm hm'
  have no:∀ {q},q∈rs→b∈((X.joined w' rs r' (.mat e a 0) ⟨some g,rows⟩).μ q).own ((X.joined w' rs r' (.mat e a 0) ⟨some g,rows⟩).β q)→False:=fun h hm=>by
   rw [hdead _ h] at hm
   simp [Root.own] at hm
  rcases hq with hq|hq
  ·rcases hq' with hq'|hq'
   ·rw [hq,hq']
   ·exact (no hq' hm').elim
  ·exact (no hq hm).elim
 ·intro q hq _
  rcases hq with hq|hq
  ·subst hq
   rw [hr,hβ]
   simp only [Root.own,Option.toList,List.singleton_append,List.nodup_cons]
   exact ⟨hgn,hnd⟩
  ·rw [hdead q hq]
   simp [Root.own]
 ·intro q hq hA
  rcases hq with hq|hq
  ·exact absurd (hq▸hA) hn
  ·have:q≠r':=fun h=>hrn (h▸hq)
   simp [Ctx.joined,upd_ne _ _ this]
 ·intro q hq hA ht
  rcases hq with hq|hq
  ·exact absurd (hq▸hA) hn
  ·rw [hdead q hq] at ht
   cases ht
 ·intro x q hq _
  rcases hq with hq|hq
  ·subst hq
   rw [hr]
   refine ⟨_,ha,.inr ⟨g,c,te,ds,vs,by rw [hβ],rfl,hh,?_,hc⟩⟩
   rw [hβ]
   exact RowCells.keep x.K (fun b hb'=>(hrows b (zaW.2 hb')).2) hcells
  ·rw [hdead q hq]
   trivial
theorem Mem.fuseNil {e:Ty}{r':Nat}{a:At}{rs:List Nat}(m:Mem B0 X) (hB:B0≤X.w.heap.size) (hrs0:∀ q∈rs,X.A q∧(X.μ q).noLt=true) (hn:¬ X.A r') (ha:a.get X.E=some .nil) :
  Ext X (X.joined X.w rs r' (.mat e a 0) ⟨none,[]⟩)∧Mem B0 (X.joined X.w rs r' (.mat e a 0) ⟨none,[]⟩):=by
 have hrs:=fun q h=>(hrs0 q h).1
 have hrn:r'∉rs:=fun h=>hn (hrs r' h)
 have hr:(X.joined X.w rs r' (.mat e a 0) ⟨none,[]⟩).μ r'=.mat e a 0:=by simp [Ctx.joined,upd_same]
 have hβ:(X.joined X.w rs r' (.mat e a 0) ⟨none,[]⟩).β r'=⟨none,[]⟩:=by simp [Ctx.joined,upd_same]
 have hdead:∀ q∈rs,(X.joined X.w rs r' (.mat e a 0) ⟨none,[]⟩).μ q=.dead:=fun q hq=>by
  have:q≠r':=fun h=>hrn (h▸hq)
  simp only [Ctx.joined,upd_ne _ _ this]
  rw [if_pos hq]
 have none:∀ {q b},(q=r'∨q∈rs)→b∈((X.joined X.w rs r' (.mat e a 0) ⟨none,[]⟩).μ q).own ((X.joined X.w rs r' (.mat e a 0) ⟨none,[]⟩).β q)→False:=fun {q b} hq hm=>by
  rcases hq with hq|hq
  ·subst hq
   rw [hr,hβ] at hm
   simp [Root.own,opts] at hm
  ·rw [hdead q hq] at hm
   simp [Root.own] at hm
 refine Mem.change m hB (fun q=>q=r'∨q∈rs) (fun _ _ h=>h) (fun _ h=>.inl h) (fun q h=>h.imp id .inl) (fun q hq=>?_) (fun b hlt hb=>rfl) (fun _ _ h=>h) ?_ ?_ ?_ ?_ ?_ ?_ rfl (fun q hq ha e1 a1 q' h=>by
  rcases hq with hq|hq
  ·exact absurd (hq▸ha) hn
  ·have:=(hrs0 q hq).2;rw [h] at this;cases this)
 ·have h1:q≠r':=fun h=>hq (.inl h)
  have h2:q∉rs:=fun h=>hq (.inr h)
  refine ⟨?_,by simp [Ctx.joined,upd_ne _ _ h1]⟩
  simp only [Ctx.joined,upd_ne _ _ h1]
  rw [if_neg h2]
 ·intro q b hq _ hm
  exact (none hq hm).elim
 ·intro q q' b hq hq' _ _ hm hm'
  exact (none hq hm).elim
 ·intro q hq _
  rcases hq with hq|hq
  ·subst hq
   rw [hr,hβ]
   simp [Root.own,opts]
  ·rw [hdead q hq]
   simp [Root.own]
 ·intro q hq hA
  rcases hq with hq|hq
  ·exact absurd (hq▸hA) hn
  ·have:q≠r':=fun h=>hrn (h▸hq)
   simp [Ctx.joined,upd_ne _ _ this]
 ·intro q hq hA ht
  rcases hq with hq|hq
  ·exact absurd (hq▸hA) hn
  ·rw [hdead q hq] at ht
   cases ht
 ·intro x q hq _
  rcases hq with hq|hq
  ·subst hq
   rw [hr]
   exact ⟨_,ha,.inl ⟨by rw [hβ],by rw [hβ],rfl⟩⟩
  ·rw [hdead q hq]
   trivial
def zpR (X:Ctx) (e:Ty) (rs:List Nat) (d:D) (v:Value):Prop :=
 (d=.nil∧v=.slice none 0 0)∨∃ rows l xs b c te cap s,d=.sl l∧RowCells X.w X.M e rows l xs∧(∀ b∈opts rows,∃ s∈rs,b∈(X.μ s).own (X.β s))∧(opts rows).Nodup ∧
  v=.slice (some ⟨b,0,none⟩) l.length cap∧l.length≤cap∧X.w.heap[b]?=some (.cells c te (0,0))∧cap≤c.size∧c.toList.take xs.length=xs∧s∈rs∧b∈(X.μ s).own (X.β s)∧b∉opts rows
theorem zrN (m:Mem B0 X) {e:Ty}{r g:Nat}{a:At}{d:D}{v:Value}(hv:Ref X (.h (.sl e) r none) v) (hR:X.μ r=.mat e a g) (ha:a.get X.E=some d):zpR X e [r] d v:=by
 simp only [Ref] at hv
 obtain ⟨_,hA,hh⟩:=hv
 have hrep:=m.rep r hA
 have hnd:=m.once r hA
 rw [hR] at hrep hnd
 obtain ⟨a',d',h1,h2,h3⟩:=hh (by rw [hR];rfl)
 rw [hR] at h1
 simp only [Root.row?,wB0,Prod.mk.injEq,true_and] at h1
 subst h1
 rw [ha] at h2
 injection h2 with h2
 subst h2
 obtain ⟨d2,g1,g2⟩:=hrep
 rw [ha] at g1
 injection g1 with g1
 subst g1
 rcases g2 with ⟨p1,_,p3⟩|⟨b,c,te,l,xs,p1,p2,p3,p4,p5⟩
 ·rcases h3 with ⟨_,q2,_⟩|⟨b,l,q1,_⟩
  ·rcases q2 with q2|⟨q2,_⟩
   ·exact .inl q2
   ·rw [p3] at q2;cases q2
  ·rw [p1] at q1;cases q1
 ·subst p2
  rcases h3 with ⟨q1,_⟩|⟨b',l',q1,q2,cap,bs,q3,q4,q5,q6⟩
  ·rw [p1] at q1;cases q1
  ·rw [p1] at q1
   injection q1 with q1
   injection q2 with q2
   subst q1 q2
   simp only [Root.own,p1,Option.toList,List.singleton_append,List.nodup_cons] at hnd
   simp only [bsize,p3,wB0] at q5
   refine .inr ⟨_,l,xs,b,c,te,cap,r,rfl,p4,fun b' hb'=>⟨r,by simp,?_⟩,hnd.2,q3,q4,p3,?_,p5,by simp,?_,hnd.1⟩
   ·rw [hR];simp only [Root.own,p1,Option.toList,List.singleton_append,List.mem_cons];exact .inr hb'
   ·rw [q5]
    simpa [Ty.size] using q6
   ·rw [hR];simp [Root.own,p1]
theorem ziT {X':Ctx}{e:Ty}{r' g:Nat}{a:At}{rows:List (Option Nat)}{l:List D}{c:Array Value}{te cap:Nat}(hA:X'.A r') (hμ:X'.μ r'=.mat e a 0) (hβ:X'.β r'=⟨some g,rows⟩) (ha:a.get X'.E=some (.sl l))
  (hh:X'.w.heap[g]?=some (.cells c te (0,0))) (h1:l.length≤cap) (h2:cap≤c.size):VRep X' (.h (.sl e) r' none) (.slice (some ⟨g,0,none⟩) l.length cap):=by
 simp only [VRep,Ref]
 refine ⟨zaf _ _ _,hA,fun _=>⟨a,_,by rw [hμ];rfl,ha,.inr ⟨g,l,by rw [hβ],rfl,cap,c.size,rfl,h1,by simp [bsize,hh],?_⟩⟩⟩
 simpa [Ty.size] using h2
theorem zqJ (hB:B0≤X.w.heap.size) (m:Mem B0 X) {t E tt:TypeId}{e:Ty}{i:TypeInfo}(hu:cx.P.underlying t=some (.slice E)) (tf:TyFact cx E (.sl e) i) {xt E2:TypeId}(hx:cx.P.underlying xt=some (.slice E2)) {rs1 rs2:List Nat}{r':Nat}
  (hrs0:∀ q∈rs1++rs2,X.A q∧(X.μ q).noLt=true) (hdis:∀ q∈rs1,q∉rs2) (hn:¬ X.A r') {d1 d2 dn:D} {v1 v2:Value} (h1:zpR X e rs1 d1 v1) (h2:zpR X e rs2 d2 v2) (happ:appD (cx.by_ E) d1 d2=some dn) {a:At} (ha:a.get X.E=some dn) :
  ∃ v w' p,(Builtin.append_ #[t,xt] tt #[v1,v2]).run cx.P X.w=.ok v w'∧Below B0 X.w w' ∧
   (Ext X (X.joined w' (rs1++rs2) r' (.mat e a 0) p)∧Mem B0 (X.joined w' (rs1++rs2) r' (.mat e a 0) p))∧VRep (X.joined w' (rs1++rs2) r' (.mat e a 0) p) (.h (.sl e) r' none) v:=by
 have hrs:=fun q h=>(hrs0 q h).1
 have hsz:i.size=1:=by rw [tf.size];rfl
 have hjμ:∀ {w'} {p},(X.joined w' (rs1++rs2) r' (.mat e a 0) p).μ r'=.mat e a 0:=by intro w' p;simp [Ctx.joined,upd_same]
 have hjβ:∀ {w'} {p},(X.joined w' (rs1++rs2) r' (.mat e a 0) p).β r'=p:=by intro w' p;simp [Ctx.joined,upd_same]
 have hjA:∀ {w'} {p},(X.joined w' (rs1++rs2) r' (.mat e a 0) p).A r':=by intro w' p;exact .inr rfl
 have stay:∀ {v2:Value},dn=d1→(∀ A n c,v1=.slice A n c→n≤c→(Builtin.append_ #[t,t] tt #[.slice A n c,v2]).run cx.P X.w=.ok (.slice A n c) X.w)→∃ v w' p,(Builtin.append_ #[t,xt] tt #[v1,v2]).run cx.P X.w=.ok v w'∧Below B0 X.w w' ∧
   (Ext X (X.joined w' (rs1++rs2) r' (.mat e a 0) p)∧Mem B0 (X.joined w' (rs1++rs2) r' (.mat e a 0) p))∧VRep (X.joined w' (rs1++rs2) r' (.mat e a 0) p) (.h (.sl e) r' none) v:=by
  intro v2 hdn hrun
  rcases h1 with ⟨p1,p2⟩|⟨rows,l,xs,b,c,te,cap,s,q1,q2,q3,q4,q5,q6,q7,q8,q9,q10,q11,q12⟩
  ·subst p2
   rw [hdn,p1] at ha
   refine ⟨_,X.w,⟨none,[]⟩,by rw [zcD hx hu _ _ _ _ tf.info];exact hrun _ _ _ rfl (wG0 _),Below.refl _ _,m.fuseNil hB hrs0 hn ha,?_⟩
   simp only [VRep,Ref]
   exact ⟨zaf _ _ _,hjA,fun _=>⟨a,_,by rw [hjμ];rfl,ha,.inl ⟨by rw [hjβ],.inl ⟨rfl,rfl⟩,trivial⟩⟩⟩
  ·subst q5
   rw [hdn,q1] at ha
   refine ⟨_,X.w,⟨some b,rows⟩,by rw [zcD hx hu _ _ _ _ tf.info];exact hrun _ _ _ rfl q6,Below.refl _ _,m.fuse hB hrs0 hn (fun _ _ _=>rfl) (fun _ _ h=>h) (fun b hb=>⟨?_,rfl⟩) (.inr ⟨s,List.mem_append_left _ q10,q11⟩) q12 q4 ha q7 q2 q9,?_⟩
   ·obtain ⟨s,g1,g2⟩:=q3 b hb
    exact ⟨s,List.mem_append_left _ g1,g2⟩
   ·exact ziT hjA hjμ hjβ ha q7 q6 q8
 rcases h2 with ⟨p1,p2⟩|⟨rows2,l2,xs2,b2,c2,te2,cap2,s2,q1,q2,q3,q4,q5,q6,q7,q8,q9,q10,q11,q12⟩
 ·subst p1 p2
  refine stay ?_ fun A n c _ hnc=>zem hu tf.info hnc
  unfold appD at happ
  simp only [D.els] at happ
  cases d1<;>simp [D.els] at happ
  ·exact happ.2.symm
  ·exact happ.2.symm
 ·subst q1 q5
  cases hl2:l2 with
  | nil =>
   subst hl2
   refine stay ?_ fun A n c _ hnc=>zet hu tf.info hnc
   unfold appD at happ
   simp only [D.els] at happ
   cases d1<;>simp [D.els] at happ
   ·exact happ.2.symm
   ·exact happ.2.symm
  | cons d0 l20 =>
  have hpos:0<l2.length:=by rw [hl2];simp
  have hne:l2≠[]:=by rw [hl2];simp
  rw [← hl2]
  clear hl2
  have hlen2:=RowCells.lens q2
  have hyl:xs2.length=l2.length * i.size:=by rw [hsz,hlen2.2];omega
  have hnews:∀ j u,xs2[j]?=some u→X.w.cell? ((⟨b2,0,none⟩:Addr).add j)=some u:=fun j u hj=>by
   rw [addr_add,Nat.zero_add]
   exact za3 q7 q9 hj
  have own2:∀ b∈opts rows2,(∃ s∈rs1++rs2,b∈(X.μ s).own (X.β s)):=fun b hb=>by
   obtain ⟨s,g1,g2⟩:=q3 b hb
   exact ⟨s,List.mem_append_right _ g1,g2⟩
  obtain ⟨z,hz,hzd⟩:=tf.zero
  have hzs:z.cells.size=i.size:=by have:=(hzd X.w X.M).cells.length;rw [tf.size,← this];simp
  rcases h1 with ⟨p1,p2⟩|⟨rows,l,xs,b,c,te,cap,s,f1,f2,f3,f4,f5,f6,f7,f8,f9,f10,f11,f12⟩
  ·subst p1 p2
   have happ':zaO l2.length (cx.by_ E)=true∧dn=.sl l2:=by
    unfold appD at happ
    simp only [D.els,List.length_nil,Nat.zero_add,List.nil_append] at happ
    split at happ
    ·rename_i hr
     injection happ with happ
     refine ⟨hr,?_⟩
     rw [← happ]
     cases l2 with
     | nil=>exact absurd rfl hne
     | cons _ _=>rfl
    ·cases happ
   obtain ⟨hroom,hdn⟩:=happ'
   subst hdn
   simp only [Cx.by_,Program.bytesOf,tf.info,Option.map_some,Option.getD_some] at hroom
   obtain ⟨cap',cells,hrun,hc1,hc2,hc3⟩:=zd3 (P:=cx.P) (w:=X.w) (ty:=tt) hu tf.info hz hzs (A:=none) (n:=0) (c:=0) (olds:=[]) (.inl ⟨rfl,rfl,rfl,rfl⟩) (a:=⟨b2,0,none⟩) (m:=l2.length) (c':=cap2) hyl hnews (by omega) (by rw [Nat.zero_add];exact hroom)
   have hbel:Below X.w.heap.size X.w (X.w.drew.alloc (.cells cells E)):=((Below.refl _ _).drew).alloc (wG0 _) _
   rw [Nat.zero_add] at hrun hc1
   rw [List.nil_append] at hc3
   refine ⟨_,_,⟨some X.w.heap.size,rows2⟩,by rw [zcD hx hu _ _ _ _ tf.info];exact hrun,hbel.mono hB,m.fuse hB hrs0 hn (fun b hb _=>hbel.block b hb) (fun b n h=>(zax (hbel.block b (zck h))).trans h) (fun b hb=>⟨own2 b hb,hbel.block b ?_⟩) (.inl (wG0 _)) (fun hb=>?_) q4 ha (heap_alloc_new X.w.drew _) q2 hc3,?_⟩
   ·obtain ⟨s,g1,g2⟩:=own2 b hb
    exact m.lt (hrs s g1) g2
   ·obtain ⟨s,g1,g2⟩:=own2 _ hb
    have:=m.lt (hrs s g1) g2
    omega
   ·exact ziT hjA hjμ hjβ ha (heap_alloc_new X.w.drew _) hc1 (by rw [hsz] at hc2;omega)
  ·subst f1 f5
   have happ':zaO (l.length + l2.length) (cx.by_ E)=true∧dn=.sl (l++l2):=by
    unfold appD at happ
    simp only [D.els] at happ
    split at happ
    ·rename_i hr
     injection happ with happ
     exact ⟨hr,happ.symm⟩
    ·cases happ
   obtain ⟨hroom,hdn⟩:=happ'
   subst hdn
   have hlen1:=RowCells.lens f2
   have sdis:∀ b,(∃ s∈rs1,b∈(X.μ s).own (X.β s))→(∃ s∈rs2,b∈(X.μ s).own (X.β s))→False:=fun b ⟨s,g1,g2⟩ ⟨s',g3,g4⟩=>by
    have:=m.apart s s' b (hrs s (List.mem_append_left _ g1)) (hrs s' (List.mem_append_right _ g3)) g2 g4
    subst this
    exact hdis s g1 g3
   have hnd:(opts (rows++rows2)).Nodup:=by
    rw [zdb]
    exact List.nodup_append.2 ⟨f4,q4,fun b hb b' hb' e=>by subst e;exact sdis b (f3 b hb) (q3 b hb')⟩
   have hownall:∀ b'∈opts (rows++rows2),(∃ s∈rs1++rs2,b'∈(X.μ s).own (X.β s)):=fun b' hb'=>by
    rw [zdb] at hb'
    rcases List.mem_append.1 hb' with hb'|hb'
    ·obtain ⟨s,g1,g2⟩:=f3 b' hb'
     exact ⟨s,List.mem_append_left _ g1,g2⟩
    ·exact own2 b' hb'
   have hbn:b∉opts (rows++rows2):=by
    rw [zdb]
    intro hb
    rcases List.mem_append.1 hb with hb|hb
    ·exact f12 hb
    ·exact sdis b ⟨s,f10,f11⟩ (q3 b hb)
   have hcells:=RowCells.append f2 q2
   have hxl:xs.length=l.length:=hlen1.2
   have hxc:xs.length≤c.toList.length:=by rw [← f9,wE0];omega
   by_cases hfit:l.length + l2.length≤cap
   ·have hf2:l.length * i.size + xs2.length≤c.size:=by rw [hyl,hsz];omega
    have hrun:=zgf (P:=cx.P) (w:=X.w) (ty:=tt) hu tf.info f7 hyl hnews q2.ones hfit hf2 (c:=cap2)
    have hsz2:(patch c.toList (l.length * i.size) xs2).toArray.size=c.size:=by
     have:=zaj (cs:=c.toList) (cv:=xs2) (o:=l.length * i.size) (by simpa using hf2)
     simpa using this
    have hlow:=m.low s b (hrs s (List.mem_append_left _ f10)) f11
    have hc':(patch c.toList (l.length * i.size) xs2).toArray.toList.take (xs++xs2).length=xs++xs2:=by
     show (patch c.toList (l.length * i.size) xs2).take _=_
     simp only [patch,hsz,Nat.mul_one]
     rw [← hxl,f9]
     exact List.take_left' rfl
    refine ⟨_,_,⟨some b,rows++rows2⟩,by rw [zcD hx hu _ _ _ _ tf.info];exact hrun,below_setRow (Below.refl _ _) hlow _,m.fuse hB hrs0 hn (fun q hq hb=>setRow_other _ _ _ _ fun e=>hb s (List.mem_append_left _ f10) (e▸f11)) (fun q n' h=>zcy f7 hsz2 h) (fun b' hb'=>⟨hownall b' hb',setRow_other _ _ _ _ fun e=>hbn (e▸hb')⟩) (.inr ⟨s,List.mem_append_left _ f10,f11⟩) hbn hnd ha (setRow_heap _ _ _ _ _ _ f7) hcells hc',?_⟩
    have:=ziT (X':=X.joined (X.w.setRow b (patch c.toList (l.length * i.size) xs2).toArray) (rs1++rs2) r' (.mat e a 0) ⟨some b,rows++rows2⟩) (cap:=cap) hjA hjμ hjβ ha (setRow_heap _ _ _ _ _ _ f7) (by rw [wI0];exact hfit) (by rw [hsz2];exact f8)
    rw [wI0] at this
    exact this
   ·simp only [Cx.by_,Program.bytesOf,tf.info,Option.map_some,Option.getD_some] at hroom
    obtain ⟨cap',cells,hrun,hc1,hc2,hc3⟩:=zd3 (P:=cx.P) (w:=X.w) (ty:=tt) hu tf.info hz hzs (A:=some ⟨b,0,.none⟩) (n:=l.length) (c:=cap) (olds:=xs)
     (.inr ⟨_,rfl,by rw [hsz,hxl];omega,fun j v hj=>by
      rw [addr_add,Nat.zero_add]
      exact za3 f7 f9 hj⟩) (a:=⟨b2,0,none⟩) (m:=l2.length) (c':=cap2) hyl hnews (by omega) hroom
    have hbel:Below X.w.heap.size X.w (X.w.drew.alloc (.cells cells E)):=((Below.refl _ _).drew).alloc (wG0 _) _
    refine ⟨_,_,⟨some X.w.heap.size,rows++rows2⟩,by rw [zcD hx hu _ _ _ _ tf.info];exact hrun,hbel.mono hB,m.fuse hB hrs0 hn (fun b hb _=>hbel.block b hb) (fun b n h=>(zax (hbel.block b (zck h))).trans h) (fun b hb=>⟨hownall b hb,hbel.block b ?_⟩) (.inl (wG0 _)) (fun hb=>?_) hnd ha (heap_alloc_new X.w.drew _) hcells hc3,?_⟩
    ·obtain ⟨s,g1,g2⟩:=hownall b hb
     exact m.lt (hrs s g1) g2
    ·obtain ⟨s,g1,g2⟩:=hownall _ hb
     have:=m.lt (hrs s g1) g2
     omega
    ·have:=ziT (X':=X.joined (X.w.drew.alloc (.cells cells E)) (rs1++rs2) r' (.mat e a 0) ⟨some X.w.heap.size,rows++rows2⟩) (cap:=cap') hjA hjμ hjβ ha (heap_alloc_new X.w.drew _) (by rw [wI0];exact hc1) (by rw [hsz] at hc2;omega)
     rw [wI0] at this
     exact this
theorem zlr {e:Ty}{x:SV}{μ:Nat→Root}{σ σ':SS}{o:Option (Nat×At)}(h:Run (zp5 e x) μ σ o σ'):σ'=σ∧∀ r a,o=some (r,a)→∃ e' g,e=.sl e'∧x=.h (.sl e') r none∧now μ σ.up r=.mat e' a g:=by
 unfold zp5 at h
 split at h
 ·rename_i e' e'' r
  obtain ⟨RR,s1,h1,h2⟩:=Run.bind h
  obtain ⟨e1,es⟩:=Run.root h1
  subst es
  split at h2
  ·rename_i e3 a g
   rcases Run.ite h2 with ⟨hb,h3⟩|⟨_,h3⟩
   ·obtain ⟨e2,e4⟩:=Run.pure h3
    subst e2 e4
    simp only [wD0] at hb
    have hb1:=Ty.beq_eq hb.1
    have hb2:=Ty.beq_eq hb.2
    subst hb1 hb2
    refine ⟨rfl,fun r' a' he=>?_⟩
    injection he with he
    injection he with he1 he2
    subst he1 he2
    exact ⟨_,g,rfl,rfl,e1.symm⟩
   ·obtain ⟨e2,e4⟩:=Run.pure h3
    subst e2 e4
    exact ⟨rfl,fun _ _ he=>by cases he⟩
  ·obtain ⟨e2,e4⟩:=Run.pure h2
   subst e2 e4
   exact ⟨rfl,fun _ _ he=>by cases he⟩
 ·obtain ⟨e2,e4⟩:=Run.pure h
  subst e2 e4
  exact ⟨rfl,fun _ _ he=>by cases he⟩
theorem zjn {μ:Nat→Root}:∀ {l:List Nat}{σ σ':SS}{u:Unit},Run (zjH l) μ σ u σ'→σ'={ σ with up:=(l.map fun r=>(r,Root.dead)).reverse++σ.up }
 | [],σ,σ',u,h=>by
  simp only [zjH] at h
  obtain ⟨_,e⟩:=Run.pure h
  subst e
  rfl
 | r::l,σ,σ',u,h=>by
  simp only [zjH] at h
  obtain ⟨_,s1,h1,h2⟩:=Run.bind h
  have es:=Run.put h1
  subst es
  have:=zjn h2
  rw [this]
  simp
theorem zid {C:FuncId→List D→Option (List D)}(hB:B0≤X.w.heap.size) (m:Mem B0 X) {t E tt:TypeId}{e:Ty}{i:TypeInfo}(hu:cx.P.underlying t=some (.slice E)) (tf:TyFact cx E (.sl e) i) {xt E2:TypeId}(hx:cx.P.underlying xt=some (.slice E2))
  {σ s':SS} {o a2:At} {rs:List Nat} {r2:Nat} {sv:SV} (h0:σ.up=[]) (h:Run (zmw (.sl e) (cx.by_ E) o (rs++[r2]) a2) X.μ σ sv s') (hs:Sat C k X.E s'.bs s'.nv) (hfr:∀ q,σ.ab≤q→q<s'.ab→¬ X.A q)
  {d1:D} {v1 v2:Value} (hrs0:∀ q∈rs,X.A q∧(X.μ q).noLt=true) (hne:r2∉rs) (ho:o.get X.E=some d1) (h1:zpR X e rs d1 v1) {g:Nat} (hR:X.μ r2=.mat e a2 g) (hv:VRep X (.h (.sl e) r2 none) v2) :
  Acts cx.P B0 X (Builtin.append_ #[t,xt] tt #[v1,v2]) σ s' fun X' v=>VRep X' sv v:=by
 unfold zmw at h
 obtain ⟨v,s1,h2,h3⟩:=Run.bind h
 obtain ⟨_,s2,h4,h5⟩:=Run.bind h3
 obtain ⟨r,s3,h6,h7⟩:=Run.bind h5
 have es:=zjn h4
 subst es
 obtain ⟨er,es⟩:=Run.new h6
 subst es
 obtain ⟨e1,e2⟩:=Run.pure h7
 subst e1 e2
 obtain ⟨⟨u1,u2,dn,q1,q2,q3,q4⟩,q5,q6⟩:=Run.op2 h2 hs
 rw [ho] at q1
 injection q1 with q1
 subst q1
 have hv':Ref X (.h (.sl e) r2 none) v2:=by simpa only [VRep] using hv
 have hA2:X.A r2:=by simp only [Ref] at hv';exact hv'.2.1
 have h2v:=zrN m hv' hR q2
 dsimp only at hfr er
 have hnA:¬ X.A r:=hfr r (by rw [er,q6];exact wG0 _) (by rw [er];exact Nat.lt_succ_self _)
 obtain ⟨v,w',p,hrun,hbel,hxm,hvr⟩:=zqJ (tt:=tt) (rs1:=rs) (rs2:=[r2]) hB m hu tf hx (fun q hq=>by
  rcases List.mem_append.1 hq with hq|hq
  ·exact hrs0 q hq
  ·rw [List.mem_singleton.1 hq];exact ⟨hA2,by rw [hR];rfl⟩) (fun q hq hq2=>hne (List.mem_singleton.1 hq2▸hq)) hnA h1 h2v q3 q4
 refine ⟨v,w',X.joined w' (rs++[r2]) r (.mat e _ 0) p,hrun,⟨rfl,rfl,?_,fun q=>?_,hxm.1,hxm.2,hbel⟩,hvr⟩
 ·show upd _ _ _=_
  dsimp only
  rw [q5,h0,zaF,er]
  congr 1
  funext q
  rw [zmt X.μ [] _ (fun p hp=>?_),zar]
  ·simp only [List.map_reverse,List.mem_reverse,List.map_map]
   congr 1
   simp
  ·simp only [List.mem_reverse,List.mem_map] at hp
   obtain ⟨q,_,e⟩:=hp
   rw [← e]
 ·show (X.A q∨q=r)↔X.A q∨σ.ab≤q∧q<s1.ab + 1
  rw [er,q6]
  constructor
  ·rintro (h|h)
   ·exact .inl h
   ·exact .inr (by omega)
  ·rintro (h|h)
   ·exact .inl h
   ·exact .inr (by omega)
end
end Go.SX
namespace Go.SX
open Go.RowKit (Below)
section
variable {C:FuncId→List D→Option (List D)} {k B0:Nat} {X:Ctx} {cx:Cx}
theorem zcn {e:Ty}{a:At}{sv:SV}{μ:Nat→Root}{σ σ':SS}(h:Run (newRow e a) μ σ sv σ'):sv=.h e σ.ab none∧σ'={ σ with up:=(σ.ab,Root.row e a)::σ.up,ab:=σ.ab + 1 }:=by
 unfold newRow at h
 obtain ⟨r,s1,h1,h2⟩:=Run.bind h
 obtain ⟨er,es⟩:=Run.new h1
 obtain ⟨e1,e2⟩:=Run.pure h2
 subst er es
 exact ⟨e1,e2⟩
theorem Mem.kill (m:Mem B0 X) (hB:B0≤X.w.heap.size) (r:Nat) (hnl:(X.μ r).noLt=true):Ext X { X with μ:=upd X.μ r .dead }∧Mem B0 { X with μ:=upd X.μ r .dead }:=by
 refine Mem.change m hB (fun q=>q=r) (fun _ _ h=>h) (fun _ h=>h) (fun q h=>.inl h) (fun q hq=>⟨upd_ne _ _ hq,rfl⟩) (fun _ _ _=>rfl) (fun _ _ h=>h) ?_ ?_ ?_ (fun _ _ _=>rfl) ?_ ?_ rfl (zpb rfl hnl)
 ·intro q b hq _ hb
  subst hq
  simp only [upd_same] at hb
  simp [Root.own] at hb
 ·intro q q' b hq hq' _ _ _ _
  rw [hq,hq']
 ·intro q hq _
  subst hq
  simp [upd_same,Root.own]
 ·intro q hq _ ht
  subst hq
  simp [upd_same,Root.there] at ht
 ·intro x q hq _
  subst hq
  simp only [upd_same]
  trivial
theorem ztd (ty:TysOk cx) {t:TypeId}{e:Ty}(h:cx.T t=.sl e):∃ E,cx.P.underlying t=some (.slice E):=by
 obtain ⟨E,i,hu,_⟩:=zak ty h
 exact ⟨E,hu⟩
theorem zfQ (ty:TysOk cx) (hB:B0≤X.w.heap.size) {t E tt:TypeId}{e:Ty}{i:TypeInfo}(hu:cx.P.underlying t=some (.slice E)) (tf:TyFact cx E e i) {xt E2:TypeId}(hx:cx.P.underlying xt=some (.slice E2))
  {σ s':SS} {o:At} {x sv:SV} (x0:Ext X (X.mv σ.up)) (m0:Mem B0 (X.mv σ.up)) (h:Run (zgI e (cx.by_ E) o x) X.μ σ sv s') (hs:Sat C k X.E s'.bs s'.nv) (hfr:∀ q,σ.ab≤q→q<s'.ab→¬ X.A q)
  {d:D} {vs vx:Value} (ho:o.get X.E=some d) (he:Empt d vs) (hvx:VRep (X.mv σ.up) x vx):Acts cx.P B0 X (Builtin.append_ #[t,xt] tt #[vs,vx]) σ s' fun X' v=>VRep X' sv v:=by
 unfold zgI at h
 obtain ⟨y,s1,h1,h2⟩:=Run.bind h
 obtain ⟨a,s2,h3,h4⟩:=Run.bind h2
 obtain ⟨e1,e2⟩:=zcn h4
 subst e1 e2
 obtain ⟨x1,m1,hab,dy,hy,hsrc⟩:=zdg hB h1 (h3.sat hs) m0 hvx
 obtain ⟨⟨u,v,dn,q1,q2,q3,q4⟩,q5,q6⟩:=Run.op2 h3 hs
 rw [ho] at q1
 rw [hy] at q2
 injection q1 with q1
 injection q2 with q2
 subst q1 q2
 have hnA:¬ (X.mv s1.up).A s2.ab:=hfr s2.ab (by rw [q6,hab];exact wG0 _) (by dsimp only;omega)
 obtain ⟨v,w',p,hrun,hbel,hxm,hv⟩:=zdq (X:=X.mv s1.up) (tt:=tt) ty hB m1 hu tf hx hnA he hsrc q3 q4
 exact ⟨v,w',_,hrun,Nx.grown (x0.trans x1) hbel hB hxm (by rw [q5]) rfl rfl (by rw [q6,hab]),hv⟩
theorem zfN (ty:TysOk cx) (hB:B0≤X.w.heap.size) {t E tt:TypeId}{e:Ty}{i:TypeInfo}(hu:cx.P.underlying t=some (.slice E)) (tf:TyFact cx E e i) {xt E2:TypeId}(hx:cx.P.underlying xt=some (.slice E2))
  {σ s':SS} {r:Nat} {vw:Option (At×At)} {x sv:SV} (x0:Ext X (X.mv σ.up)) (m0:Mem B0 (X.mv σ.up)) (h:Run (zd2 e (cx.by_ E) r vw x) X.μ σ sv s') (hs:Sat C k X.E s'.bs s'.nv) (hfr:∀ q,σ.ab≤q→q<s'.ab→¬ X.A q)
  {vs vx:Value} (hvs:Ref (X.mv σ.up) (.h e r vw) vs) (hvx:VRep (X.mv σ.up) x vx):Acts cx.P B0 X (Builtin.append_ #[t,xt] tt #[vs,vx]) σ s' fun X' v=>VRep X' sv v:=by
 unfold zd2 at h
 obtain ⟨y,s1,h1,h2⟩:=Run.bind h
 obtain ⟨a,s2,h3,h4⟩:=Run.bind h2
 obtain ⟨es,hR⟩:=zcl h3
 subst es
 have hA:X.A r:=by simp only [Ref] at hvs;exact hvs.2.1
 cases vw with
 | none =>
  obtain ⟨av,s3,h5,h6⟩:=Run.bind h4
  obtain ⟨_,s4,h7,h8⟩:=Run.bind h6
  have es:=Run.put h7
  subst es
  obtain ⟨e1,e2⟩:=zcn h8
  subst e1 e2
  obtain ⟨x1,m1,hab,dy,hy,hsrc⟩:=zdg hB h1 (h5.sat hs) m0 hvx
  obtain ⟨⟨u,v,dn,q1,q2,q3,q4⟩,q5,q6⟩:=Run.op2 h5 hs
  rw [hy] at q2
  injection q2 with q2
  subst q2
  have hnA:¬ X.A s3.ab:=hfr s3.ab (by rw [q6,hab];exact wG0 _) (by dsimp only;omega)
  have hvs':=hvs.ext x1
  have hR':(X.mv s2.up).μ r=.row e a:=hR
  rcases zg4 m1 hA hR' q1 hvs' with ⟨c1,c2⟩|⟨b,l,c,te,xs,cap,c1,c2,c3,c4,c5,c6,c7,c8⟩
  ·obtain ⟨x2,m2⟩:=m1.kill hB r (by rw [hR'];rfl)
   rw [← Ctx.mv_cons] at x2 m2
   obtain ⟨v,w',p,hrun,hbel,hxm,hv⟩:=zdq (X:=X.mv ((r,.dead)::s2.up)) (tt:=tt) ty hB m2 hu tf hx hnA c2 (hsrc.keep x2.K) q3 q4
   exact ⟨v,w',_,hrun,Nx.grown ((x0.trans x1).trans x2) hbel hB hxm (by rw [q5]) rfl rfl (by rw [q6,hab]),hv⟩
  ·subst c2 c6
   cases hl2:dy.els with
   | none =>
    have q3:appD (cx.by_ E) (.sl l) dy=some dn:=q3
    unfold appD at q3
    rw [hl2] at q3
    simp [D.els] at q3
   | some l2 =>
    have q3:(if zaO (l.length + l2.length) (cx.by_ E)=true then some (D.sl (l++l2)) else none)=some dn:=by
     have q3:appD (cx.by_ E) (.sl l) dy=some dn:=q3
     unfold appD at q3
     rw [hl2] at q3
     exact q3
    split at q3
    ·rename_i hroom
     injection q3 with q3
     have e1:dn=.sl (l.take l.length++(l2++[])):=by rw [← q3];simp
     subst e1
     obtain ⟨w',g,cap',bs,hrun,hbel,hxm,g1,g2,g3⟩:=zhN (X:=X.mv s2.up) (tt:=tt) hB m1 hu tf hx hA hnA hR' c1 c3 c4 c5 (wG0 _) c7 c8 hsrc hl2 hroom (tail:=[]) (.inl rfl) q4
     refine ⟨_,w',_,hrun,Nx.swapped (x0.trans x1) hbel hxm (by rw [q5]) rfl rfl (by rw [q6,hab]),?_⟩
     simp only [VRep,Ref]
     refine ⟨zaf _ _ _,.inr rfl,fun _=>⟨av,_,by simp [Ctx.swapped,upd_same,Root.row?],q4,.inr ⟨g,_,by simp [Ctx.swapped,upd_same],rfl,cap',bs,?_,?_,g2,g3⟩⟩⟩
     ·simp
     ·simpa using g1
    ·cases q3
 | some p =>
  obtain ⟨lo,hi⟩:=p
  obtain ⟨_,s3,h5,h6⟩:=Run.bind h4
  obtain ⟨hz,es⟩:=Run.guard h5
  subst es
  obtain ⟨av,s4,h7,h8⟩:=Run.bind h6
  obtain ⟨am,s5,h9,h10⟩:=Run.bind h8
  obtain ⟨an,s6,h11,h12⟩:=Run.bind h10
  obtain ⟨_,s7,h13,h14⟩:=Run.bind h12
  have es:=Run.put h13
  subst es
  obtain ⟨r',s8,h15,h16⟩:=Run.bind h14
  obtain ⟨er,es⟩:=Run.new h15
  obtain ⟨e1,e2⟩:=Run.pure h16
  subst er es
  subst e1 e2
  have hlo:lo=.c (.int .i64 0):=by
   unfold isZ at hz
   split at hz
   ·rfl
   ·cases hz
  subst hlo
  have hs11:Sat C k X.E s6.bs s6.nv:=hs
  obtain ⟨x1,m1,hab,dy,hy,hsrc⟩:=zdg hB h1 (h7.sat (h9.sat (h11.sat hs11))) m0 hvx
  obtain ⟨⟨u,vh,v,dn,q1,q2,q3,q4,q5⟩,q6,q7⟩:=Run.op3 h7 (h9.sat (h11.sat hs11))
  obtain ⟨⟨y1,dm,w1,w2,w3⟩,w4,w5⟩:=Run.op1 h9 (h11.sat hs11)
  obtain ⟨⟨z1,z2,dn2,z3,z4,z5,z6⟩,z7,z8⟩:=Run.op2 h11 hs11
  rw [hy] at q3 w1
  injection q3 with q3
  injection w1 with w1
  subst q3 w1
  rw [q2] at z3
  rw [w3] at z4
  injection z3 with z3
  injection z4 with z4
  subst z3 z4
  have hnA:¬ X.A s6.ab:=hfr s6.ab (by rw [z8,w5,q7,hab];exact wG0 _) (by dsimp only;omega)
  have hup:s6.up=s3.up:=by rw [z7,w4,q6]
  have habs:s6.ab=σ.ab:=by rw [z8,w5,q7,hab]
  have hvs':=hvs.ext x1
  have hR':(X.mv s3.up).μ r=.row e a:=hR
  have hrep:=m1.rep r hA
  rw [hR'] at hrep
  obtain ⟨dr,p1,p2⟩:=hrep
  have p1':a.get X.E=some dr:=p1
  rw [q1] at p1'
  injection p1' with p1'
  subst p1'
  cases hl2:dy.els with
  | none =>
   cases vh<;>first
    | (simp only [Prim.run,hl2] at q4
       cases hu:u.els<;>simp [hu] at q4)
    | simp [Prim.run] at q4
  | some l2 =>
   have hdm:dm=.int .i64 l2.length:=by
    cases dy<;>simp [D.els] at hl2<;>subst hl2<;>simp [Prim.run] at w2<;>exact w2.symm
   subst hdm
   simp only [Ref] at hvs'
   obtain ⟨a1,d1,g1,g2,g3⟩:=hvs'.2.2 (by rw [hR'];rfl)
   rw [hR'] at g1
   simp only [Root.row?,wB0,Prod.mk.injEq,true_and] at g1
   subst g1
   have g2':a.get X.E=some d1:=g2
   rw [q1] at g2'
   injection g2' with g2'
   subst g2'
   rcases g3 with ⟨r1,r2,k1,k2,r3,r4⟩|⟨b,l,r1,r2,ad,cap,bs,k1,k2,i',j',r3,r4,r5,r6,r7,r8,r9,r10,r11⟩
   ·have r4':hi.get X.E=some (.int k2 0):=r4
    rw [q2] at r4'
    injection r4' with r4'
    subst r4'
    simp only [Prim.run,wB0,Int.zero_add] at z5
    subst z5
    obtain ⟨x2,m2⟩:=m1.kill hB r (by rw [hR'];rfl)
    rw [← Ctx.mv_cons] at x2 m2
    have happ:appD (cx.by_ E) u dy=some dn:=by
     simp only [Prim.run,r2.em.els,hl2] at q4
     simp only [appD,r2.em.els,hl2,List.nil_append,List.length_nil,Nat.zero_add]
     split at q4
     ·rename_i hc
      rw [if_pos (by simpa using hc.2.2)]
      rw [← q4]
      rcases r2.em with h|h<;>subst h<;>cases l2<;>simp
     ·cases q4
    obtain ⟨v,w',p,hrun,hbel,hxm,hv⟩:=zdq (X:=X.mv ((r,.dead)::s3.up)) (tt:=tt) ty hB m2 hu tf hx hnA r2 (hsrc.keep x2.K) happ q5
    refine ⟨v,w',_,hrun,Nx.grown ((x0.trans x1).trans x2) hbel hB hxm (by rw [hup]) rfl rfl (by rw [habs]),?_⟩
    simp only [VRep,Ref] at hv ⊢
    obtain ⟨hv1,hv2,hv3⟩:=hv
    refine ⟨hv1,hv2,fun ht=>?_⟩
    obtain ⟨a9,d9,f1,f2,f3⟩:=hv3 ht
    have f2':a9.get X.E=some d9:=f2
    have f1':a9=av:=by
     simp only [Ctx.grown,upd_same,Root.row?,wB0,Prod.mk.injEq,true_and] at f1
     exact f1.symm
    subst f1'
    rw [q5] at f2'
    injection f2' with f2'
    subst f2'
    refine ⟨a9,dn,f1,f2,?_⟩
    have hdn:dn.els=some l2:=by
     simp only [appD,r2.em.els,hl2,List.nil_append] at happ
     split at happ
     ·injection happ with happ
      rw [← happ]
      rcases r2.em with h|h<;>subst h<;>cases l2<;>simp [D.els]
     ·cases happ
    rcases f3 with ⟨f4,f5,_⟩|⟨b,l,f4,f5,cap,bs,f6,f7,f8,f9⟩
    ·refine .inl ⟨f4,f5,.i64,.i64,rfl,?_⟩
     have:l2=[]:=by rw [f5.em.els] at hdn;injection hdn with hdn;exact hdn.symm
     subst this
     exact z6
    ·subst f5
     simp only [D.els,wB0] at hdn
     subst hdn
     refine .inr ⟨b,l,f4,rfl,⟨b,0,none⟩,cap,bs,.i64,.i64,0,l.length,rfl,z6,Nat.zero_le _,wG0 _,by rw [f6];rfl,by omega,f8,by rw [Nat.zero_add];exact f9,fun _=>by simp⟩
   ·have r3':(At.c (.int .i64 0)).get X.E=some (.int k1 (Int.ofNat i')):=r3
    have r4':hi.get X.E=some (.int k2 (Int.ofNat j')):=r4
    simp only [At.get,wB0,D.int.injEq] at r3'
    obtain ⟨_,r3'⟩:=r3'
    have hi0:i'=0:=by simp only [Int.ofNat_eq_natCast] at r3';omega
    subst hi0
    rw [q2] at r4'
    injection r4' with r4'
    subst r4' r2
    simp only [Prim.run,wB0,Int.ofNat_eq_natCast] at z5
    subst z5
    have had:=r11 (.inr rfl)
    simp only [Nat.zero_mul] at had
    subst had
    simp only [Nat.sub_zero,Nat.zero_add] at r7 r8 r10
    subst r7
    have hbd:∃ c te xs,(X.mv s3.up).w.heap[b]?=some (.cells c te (0,0))∧DRepA (X.mv s3.up).w (X.mv s3.up).M e l xs∧c.toList.take xs.length=xs:=by
     rcases p2 with ⟨t1,_⟩|⟨b',c,te,fr,l',xs,t1,t2,t3,t4,t5,t6⟩
     ·rw [r1] at t1;cases t1
     ·rw [r1] at t1
      injection t1 with t1
      injection t2 with t2
      subst t1 t2
      rw [t4 trivial] at t3
      exact ⟨c,te,xs,t3,t5,t6⟩
    obtain ⟨c,te,xs,t3,t5,t6⟩:=hbd
    have hbs:bs=c.size:=by
     have r9':=r9
     simp only [bsize,t3,wB0] at r9'
     exact r9'.symm
    subst hbs
    have q4:(if 0≤Int.ofNat j'∧Int.ofNat j'≤(l.length:Int)∧zaO ((Int.ofNat j').toNat + l2.length) (cx.by_ E)=true then some (D.sl (l.take (Int.ofNat j').toNat++(l2++l.drop ((Int.ofNat j').toNat + l2.length)))) else none)=some dn:=by
     simp only [Prim.run,hl2] at q4
     exact q4
    split at q4
    ·rename_i hc
     injection q4 with q4
     have e1:dn=.sl (l.take j'++(l2++l.drop (j' + l2.length))):=by rw [← q4];simp
     subst e1
     obtain ⟨w',g,cap',bs,hrun,hbel,hxm,g1,g2,g3⟩:=zhN (X:=X.mv s3.up) (tt:=tt) hB m1 hu tf hx hA hnA hR' r1 t3 t5 t6 r6 (Nat.le_trans r6 r8) r10 hsrc hl2 (by simpa using hc.2.2) (tail:=l.drop (j' + l2.length)) (.inr ⟨rfl,r8⟩) q5
     refine ⟨_,w',_,hrun,Nx.swapped (x0.trans x1) hbel hxm (by rw [hup]) rfl rfl (by rw [habs]),?_⟩
     simp only [VRep,Ref]
     refine ⟨zaf _ _ _,.inr rfl,fun _=>⟨av,_,by simp [Ctx.swapped,upd_same,Root.row?],q5,.inr ⟨g,_,by simp [Ctx.swapped,upd_same],rfl,⟨g,0,none⟩,cap',bs,.i64,.i64,0,j' + l2.length,rfl,?_,Nat.zero_le _,?_,?_,?_,g2,by simpa using g3,fun _=>by simp⟩⟩⟩
     ·rw [show an.get ((X.mv s3.up).swapped w' r s6.ab (.row e av) ⟨some g,[]⟩).E=an.get X.E from rfl,z6]
      simp
     ·simp only [wI0,wE0,List.length_drop];omega
     ·simp
     ·simp only [wI0,wE0,List.length_drop] at g1 ⊢;omega
    ·cases q4
theorem zmm (ty:TysOk cx) (hB:B0≤X.w.heap.size) {t E tt:TypeId}{e:Ty}{i:TypeInfo}(hu:cx.P.underlying t=some (.slice E)) (tf:TyFact cx E e i) {xt E2:TypeId}(hx:cx.P.underlying xt=some (.slice E2))
  {σ s':SS} {r:Nat} {hi:At} {x sv:SV} (x0:Ext X (X.mv σ.up)) (m0:Mem B0 (X.mv σ.up)) (h:Run (zmi e (cx.by_ E) r hi x) X.μ σ sv s') (hs:Sat C k X.E s'.bs s'.nv) (hfr:∀ q,σ.ab≤q→q<s'.ab→¬ X.A q)
  {vs vx:Value} (hvs:Ref (X.mv σ.up) (.hc e r hi) vs) (hvx:VRep (X.mv σ.up) x vx):Acts cx.P B0 X (Builtin.append_ #[t,xt] tt #[vs,vx]) σ s' fun X' v=>VRep X' sv v:=by
 unfold zmi at h
 obtain ⟨y,s1,h1,h2⟩:=Run.bind h
 obtain ⟨a,s2,h3,h4⟩:=Run.bind h2
 obtain ⟨es,hR⟩:=zcl h3
 subst es
 have hA:X.A r:=by simp only [Ref] at hvs;exact hvs.2.1
 obtain ⟨ao,s3,h5,h6⟩:=Run.bind h4
 obtain ⟨av,s4,h7,h8⟩:=Run.bind h6
 obtain ⟨_,s5,h9,h10⟩:=Run.bind h8
 have es:=Run.put h9
 subst es
 obtain ⟨e1,e2⟩:=zcn h10
 subst e1 e2
 have hs7:Sat C k X.E s4.bs s4.nv:=hs
 obtain ⟨x1,m1,hab,dy,hy,hsrc⟩:=zdg hB h1 (h5.sat (h7.sat hs7)) m0 hvx
 obtain ⟨⟨u,z0,vh,o,q1,q2,q3,q4,q5⟩,q6,q7⟩:=Run.op3 h5 (h7.sat hs7)
 obtain ⟨⟨o',v,dn,w1,w2,w3,w4⟩,w5,w6⟩:=Run.op2 h7 hs7
 rw [q5] at w1
 rw [hy] at w2
 injection w1 with w1
 injection w2 with w2
 subst w1 w2
 simp only [i64c,At.get,wB0] at q2
 subst q2
 have hnA:¬ X.A s4.ab:=hfr s4.ab (by rw [w6,q7,hab];exact wG0 _) (by dsimp only;omega)
 have hup:s4.up=s2.up:=by rw [w5,q6]
 have habs:s4.ab=σ.ab:=by rw [w6,q7,hab]
 have hR':(X.mv s2.up).μ r=.row e a:=hR
 have hvs':=hvs.ext x1
 simp only [Ref] at hvs'
 obtain ⟨a1,d1,g1,g2,g3⟩:=hvs'.2.2 (by rw [hR'];rfl)
 rw [hR'] at g1
 simp only [Root.row?,wB0,Prod.mk.injEq,true_and] at g1
 subst g1
 have g2':a.get X.E=some d1:=g2
 rw [q1] at g2'
 injection g2' with g2'
 subst g2'
 have w3:appD (cx.by_ E) o dy=some dn:=w3
 rcases g3 with ⟨r1,r2,k1,r3⟩|⟨b,l,k1,j,bs,r1,r2,r3,r4,r5,r6,r7⟩
 ·have r3':hi.get X.E=some (.int k1 0):=r3
  rw [q3] at r3'
  injection r3' with r3'
  subst r3'
  have ho:o=u:=by rcases r2.em with h|h<;>subst h<;>simp [Prim.run] at q4<;>exact q4.symm
  subst ho
  obtain ⟨x2,m2⟩:=m1.kill hB r (by rw [hR'];rfl)
  rw [← Ctx.mv_cons] at x2 m2
  obtain ⟨v,w',p,hrun,hbel,hxm,hv⟩:=zdq (X:=X.mv ((r,.dead)::s2.up)) (tt:=tt) ty hB m2 hu tf hx hnA r2 (hsrc.keep x2.K) w3 w4
  exact ⟨v,w',_,hrun,Nx.grown ((x0.trans x1).trans x2) hbel hB hxm (by rw [hup]) rfl rfl (by rw [habs]),hv⟩
 ·have r3':hi.get X.E=some (.int k1 (Int.ofNat j)):=r3
  rw [q3] at r3'
  injection r3' with r3'
  subst r3' r2 r5
  have ho:o=.sl (l.take j):=by
   simp only [Prim.run] at q4
   rw [if_pos ⟨Int.le_refl _,by simp,by simpa using r4⟩] at q4
   injection q4 with q4
   rw [← q4]
   simp
  subst ho
  have hrep:=m1.rep r hA
  rw [hR'] at hrep
  obtain ⟨dr,p1,p2⟩:=hrep
  have p1':a.get X.E=some dr:=p1
  rw [q1] at p1'
  injection p1' with p1'
  subst p1'
  rcases p2 with ⟨t1,_⟩|⟨b',c,te,fr,l',xs,t1,t2,t3,t4,t5,t6⟩
  ·rw [r1] at t1;cases t1
  ·rw [r1] at t1
   injection t1 with t1
   injection t2 with t2
   subst t1 t2
   rw [t4 trivial] at t3
   have hbs:bs=c.size:=by
    have r6':=r6
    simp only [bsize,t3,wB0] at r6'
    exact r6'.symm
   subst hbs
   cases hl2:dy.els with
   | none =>
    unfold appD at w3
    rw [hl2] at w3
    simp [D.els] at w3
   | some l2 =>
    have w3:(if zaO ((l.take j).length + l2.length) (cx.by_ E)=true then some (D.sl (l.take j++l2)) else none)=some dn:=by
     unfold appD at w3
     rw [hl2] at w3
     exact w3
    have hlj:(l.take j).length=j:=by rw [wE0];omega
    rw [hlj] at w3
    split at w3
    ·rename_i hroom
     injection w3 with w3
     have e1:dn=.sl (l.take j++(l2++[])):=by rw [← w3];simp
     subst e1
     obtain ⟨w',g,cap',bs,hrun,hbel,hxm,g1,g2,g3⟩:=zhN (X:=X.mv s2.up) (tt:=tt) hB m1 hu tf hx hA hnA hR' r1 t3 t5 t6 r4 (wG0 _) r7 hsrc hl2 hroom (tail:=[]) (.inl rfl) w4
     refine ⟨_,w',_,hrun,Nx.swapped (x0.trans x1) hbel hxm (by rw [hup]) rfl rfl (by rw [habs]),?_⟩
     simp only [VRep,Ref]
     refine ⟨zaf _ _ _,.inr rfl,fun _=>⟨av,_,by simp [Ctx.swapped,upd_same,Root.row?],w4,.inr ⟨g,_,by simp [Ctx.swapped,upd_same],rfl,cap',bs,?_,?_,g2,g3⟩⟩⟩
     ·simp [hlj]
     ·simpa [hlj] using g1
    ·cases w3
theorem zsG {e:Ty}{s:SV}{v:Value}(h:isNil e s=true) (hv:VRep X s v):v=.slice none 0 0:=by
 unfold isNil at h
 split at h
 ·simp only [VRep] at hv
  exact hv
 ·have:=Ty.beq_eq h
  subst this
  obtain ⟨d,h1,h2⟩:=VRep.data.1 hv
  simp only [At.get,wB0] at h1
  subst h1
  rcases h2.slice with ⟨_,h⟩|⟨_,_,_,h,_⟩
  ·exact h
  ·cases h
 ·cases h
theorem zpm {P:Program}{w:World}{t xt e ty:TypeId}{i:TypeInfo}{z:Value}{kk k:IntKind}{n:Nat}(ht:P.underlying t=some (.slice e)) (hx:P.underlying xt=some (.int kk)) (hi:P.info? e=some i) (hz:i.zero=some z) (hzs:z.cells.size=i.size) (h0:0<n) (hr:zaO n i.bytes=true) :
  (Builtin.append_ #[t,xt] ty #[.slice none 0 0,.int k (n:Int)]).run P w=.ok (.slice (some ⟨w.heap.size,0,none⟩) n (grownCap w n 0 e)) (w.drew.alloc (.cells (Builtin.zeroCells z.cells n++Builtin.zeroCells z.cells (grownCap w n 0 e - n)) e)):=by
 simp only [zaO,wD0,decide_eq_true_eq] at hr
 have hn:n≠0:=by omega
 have h63':¬ (9223372036854775807<(n:Int)):=by omega
 have hm:(n:Int) * (i.bytes:Int)=((n * i.bytes:Nat):Int):=by rw [Int.natCast_mul]
 have h48:¬ (281474976710656<(n:Int) * (i.bytes:Int)):=by rw [hm];omega
 have h48':¬ (281474976710656<Builtin.nextslicecap n 0 * i.bytes):=by rw [nextslicecap_zero h0];omega
 have hw:IntKind.i64.wrap (n:Int)=n:=by
  unfold IntKind.wrap
  simp only [IntKind.signed,IntKind.bits,Bool.true_and,decide_eq_true_eq,Nat.reduceSub,Int.reducePow,ge_iff_le]
  split<;>omega
 have hneg:¬ ((n:Int)<0):=by omega
 by_cases hs:i.size=0
 ·have he:Builtin.zeroCells z.cells n=#[]:=by unfold Builtin.zeroCells;rw [hzs,hs];simp
  rw [he]
  simp [Builtin.append_,run_underlying ht,run_underlying hx,sizeOf,typeInfo,zeroValue,hi,hz,asInt,asIntOf,hw,hneg,h48,hn,h63',h48',Question.forced,run_firstCells_none,Go.newRow,grownCap,hs]
 ·have hns:¬ (n=0∨i.size=0):=by omega
  simp [Builtin.append_,run_underlying ht,run_underlying hx,sizeOf,typeInfo,zeroValue,hi,hz,asInt,asIntOf,hw,hneg,h48,hn,h63',h48',Question.forced,run_firstCells_none,Go.newRow,grownCap]
  intro h
  rcases Nat.mul_eq_zero.1 h with h|h<;>omega
theorem zog {P:Program}{w:World}{t xt e ty:TypeId}{i:TypeInfo}{kk k:IntKind}(ht:P.underlying t=some (.slice e)) (hx:P.underlying xt=some (.int kk)) (hi:P.info? e=some i) :
  (Builtin.append_ #[t,xt] ty #[.slice none 0 0,.int k 0]).run P w=.ok (.slice none 0 0) w:=by
 have hw:IntKind.i64.wrap 0=0:=by decide
 simp [Builtin.append_,run_underlying ht,run_underlying hx,sizeOf,typeInfo,hi,asInt,asIntOf,hw]
theorem zjJ (ty:TysOk cx) (hB:B0≤X.w.heap.size) (m:Mem B0 X) {t xt tt:TypeId}{e:Ty}{kk:IntKind}{s x sv:SV}{s0 s':SS}{E:TypeId}{i:TypeInfo}(hu:cx.P.underlying t=some (.slice E)) (tf:TyFact cx E e i) (h0:s0.up=[]) (hT:cx.T t=.sl e) (hT2:cx.T xt=.int kk) (hn:isNil e s=true)
  (h:Run (zeH x >>= fun (p:IntKind×At)=>SX.X.op (.zext e.zero (cx.by_ E)) [.c .nil,p.2] >>= fun v=>newRow e v) X.μ s0 sv s') (hs:Sat C k X.E s'.bs s'.nv) (hfr:∀ q,s0.ab≤q→q<s'.ab→¬ X.A q)
  {vs vx:Value} (hvs:VRep X s vs) (hvx:VRep X x vx):Acts cx.P B0 X (Builtin.append_ #[t,xt] tt #[vs,vx]) s0 s' fun X' v=>VRep X' sv v:=by
 obtain ⟨i2,tf2⟩:=ty.get hT2 (by simp)
 have hux:cx.P.underlying xt=some (.int kk):=tf2.desc
 obtain ⟨⟨k1,n⟩,s1,h1,h2⟩:=Run.bind h
 obtain ⟨es,z,hz,ez⟩:=za8 h1 hvx
 subst es ez
 obtain ⟨v,s2,h3,h4⟩:=Run.bind h2
 obtain ⟨e1,e2⟩:=zcn h4
 subst e1 e2
 obtain ⟨⟨dn,dz,dv,q1,q2,q3,q4⟩,q5,q6⟩:=Run.op2 h3 hs
 simp only [At.get,wB0] at q1
 subst q1
 simp only at hz
 rw [hz] at q2
 injection q2 with q2
 subst q2
 have hvs0:vs=.slice none 0 0:=by
  unfold isNil at hn
  split at hn
  ·simp only [VRep] at hvs;exact hvs
  ·have:=Ty.beq_eq hn
   subst this
   obtain ⟨d,hd,hdv⟩:=VRep.data.1 hvs
   simp only [At.get,wB0] at hd
   subst hd
   rcases hdv.slice with ⟨_,h⟩|⟨l,a,c,h,_⟩
   ·exact h
   ·cases h
  ·cases hn
 subst hvs0
 have hnA:¬ X.A s2.ab:=hfr s2.ab (by rw [q6];exact wG0 _) (by dsimp only;omega)
 simp only [Prim.run] at q3
 split at q3
 ·rename_i hz0
  obtain ⟨nn,rfl⟩:∃ nn:Nat,z=(nn:Int):=⟨z.toNat,by omega⟩
  simp only [Int.toNat_natCast,appD,D.els,List.length_nil,Nat.zero_add,List.length_replicate,List.nil_append] at q3
  split at q3
  ·rename_i hroom
   cases nn with
   | zero =>
    simp only [List.replicate_zero,wB0] at q3
    subst q3
    obtain ⟨h5,h6⟩:=m.newEmpt hB hnA q4 (e:=e) (v:=.slice none 0 0) (.inl ⟨rfl,rfl⟩)
    exact ⟨_,X.w,_,zog hu hux tf.info,Nx.grown (up:=[]) (Ext.refl X) (Below.refl _ _) hB h5 (by rw [q5,h0]) rfl rfl (by rw [q6]),h6⟩
   | succ nn =>
    have q3:D.sl (List.replicate (nn + 1) e.zero)=dv:=by simpa [List.replicate_succ] using q3
    subst q3
    obtain ⟨zv,hzv,hd⟩:=tf.zero
    have hzl:=(hd X.w X.M).cells.length
    have hzs:zv.cells.size=i.size:=by rw [tf.size,← hzl];simp
    simp only [Cx.by_,Program.bytesOf,tf.info,Option.map_some,Option.getD_some] at hroom
    have hrun:=zpm (P:=cx.P) (w:=X.w) (ty:=tt) (k:=k1) hu hux tf.info hzv hzs (Nat.succ_pos nn) hroom
    have hcap:=grownCap_ge X.w (nn + 1) 0 E
    have hbel:Below X.w.heap.size X.w (X.w.drew.alloc (.cells (Builtin.zeroCells zv.cells (nn + 1)++Builtin.zeroCells zv.cells (grownCap X.w (nn + 1) 0 E - (nn + 1))) E)):=((Below.refl _ _).drew).alloc (wG0 _) _
    have hxs:=zd5 (hd X.w X.M).cells (nn + 1)
    have hnr:=m.newRow hB hnA hbel (e:=e) (a:=v) (l:=List.replicate (nn + 1) e.zero) (xs:=(List.replicate (nn + 1) zv.cells.toList).flatten) (c:=Builtin.zeroCells zv.cells (nn + 1)++Builtin.zeroCells zv.cells (grownCap X.w (nn + 1) 0 E - (nn + 1))) (te:=E) (cap:=grownCap X.w (nn + 1) 0 E) q4 (heap_alloc_new X.w.drew _) hxs (by
     rw [Array.toList_append,zfP]
     exact List.take_left' rfl) (by simpa using hcap) (by
     rw [Array.size_append,size_zeroCells,size_zeroCells,hzs,← tf.size,← Nat.add_mul]
     exact Nat.mul_le_mul_right _ (by omega))
    rw [List.length_replicate] at hnr
    exact ⟨_,_,_,hrun,Nx.grown (up:=[]) (Ext.refl X) hbel hB hnr.1 (by rw [q5,h0]) rfl rfl (by rw [q6]),hnr.2⟩
  ·cases q3
 ·cases q3
theorem zj1 (ty:TysOk cx) (hB:B0≤X.w.heap.size) (m:Mem B0 X) {t xt tt:TypeId}{s x sv:SV}{s0 s':SS}(h0:s0.up=[]) (h:Run (zhy cx t xt s x) X.μ s0 sv s') (hs:Sat C k X.E s'.bs s'.nv) (hfr:∀ q,s0.ab≤q→q<s'.ab→¬ X.A q)
  {vs vx:Value} (hvs:VRep X s vs) (hvx:VRep X x vx):Acts cx.P B0 X (Builtin.append_ #[t,xt] tt #[vs,vx]) s0 s' fun X' v=>VRep X' sv v:=by
 have hX:X.mv s0.up=X:=by rw [h0];rfl
 unfold zhy at h
 split at h
 ·rename_i e e2 hT hT2
  obtain ⟨E,i,hu,tf⟩:=zak ty hT
  obtain ⟨E2,hx⟩:=ztd ty hT2
  simp only [hu] at h
  obtain ⟨E',s1,h1,h2⟩:=Run.bind h
  obtain ⟨e1,e2⟩:=Run.pure h1
  subst e1 e2
  obtain ⟨_,s2,h3,h4⟩:=Run.bind h2
  obtain ⟨hg,es⟩:=Run.guard h3
  subst es
  have m0:Mem B0 (X.mv s2.up):=by rw [hX];exact m
  have x0:Ext X (X.mv s2.up):=by rw [hX];exact Ext.refl _
  have hvs0:VRep (X.mv s2.up) s vs:=by rw [hX];exact hvs
  have hvx0:VRep (X.mv s2.up) x vx:=by rw [hX];exact hvx
  rcases Run.ite h4 with ⟨hn,h5⟩|⟨_,h5⟩
  ·have:=zsG hn hvs
   subst this
   obtain ⟨o,s3,h6,h7⟩:=Run.bind h5
   obtain ⟨es,ho⟩:=zlr h6
   subst es
   split at h7
   ·rename_i r2 a2
    obtain ⟨e',g,e1,e2,e3⟩:=ho r2 a2 rfl
    subst e1 e2
    rw [h0,zar] at e3
    exact zid (rs:=[]) (d1:=.nil) hB m hu tf hx h0 h7 hs hfr (by simp) (by simp) rfl (.inl ⟨rfl,rfl⟩) e3 hvx
   ·exact zfQ ty hB hu tf hx x0 m0 h7 hs hfr (d:=.nil) rfl (.inl ⟨rfl,rfl⟩) hvx0
  ·split at h5
   ·rename_i e' a _
    obtain ⟨_,s3,h6,h7⟩:=Run.bind h5
    obtain ⟨hb,es⟩:=Run.guard h6
    subst es
    have hb:=Ty.beq_eq hb
    subst hb
    simp only [VRep,Ref] at hvs
    obtain ⟨dz,lz,xz,z1,z2,z3,z4⟩:=hvs
    subst z3
    rcases Run.ite h7 with ⟨hsm,h8⟩|⟨_,h8⟩
    ·obtain ⟨av,s4,h9,h10⟩:=Run.bind h8
     obtain ⟨e1,e2⟩:=zcn h10
     subst e1 e2
     obtain ⟨⟨u,dn,q1,q2,q3⟩,q4,q5⟩:=Run.op1 h9 hs
     rw [z1] at q1
     injection q1 with q1
     subst q1
     have hxd:x=.d (.sl e') a:=by
      unfold sameAt at hsm
      split at hsm
      ·rename_i T a' b'
       simp only [wD0] at hsm
       rw [Ty.beq_eq hsm.1,At.beq_eq hsm.2]
      ·cases hsm
     subst hxd
     obtain ⟨dx,hdx,hdv⟩:=VRep.data.1 hvx
     rw [z1] at hdx
     injection hdx with hdx
     subst hdx
     have hsrc:Src X.w X.M e' dz vx:=Src.of hdv fun _ _ h=>h
     simp only [Prim.run,z2] at q2
     split at q2
     ·rename_i hroom
      injection q2 with q2
      subst q2
      have hbase:∃ o,Empt o (.slice xz 0 0)∧appD (cx.by_ E') o dz=some dz:=by
       cases dz<;>simp [D.els] at z2
       ·subst z2
        refine ⟨.sl [],?_,?_⟩
        ·cases xz with
         | none=>have:=z4.1 rfl;cases this
         | some ad=>exact .inr ⟨rfl,ad,rfl⟩
        ·simp [appD,D.els,hroom]
       ·subst z2
        refine ⟨.nil,?_,?_⟩
        ·rw [z4.2 rfl]
         exact .inl ⟨rfl,rfl⟩
        ·simp at hroom
         simp [appD,D.els,hroom]
      obtain ⟨o,hE,happ⟩:=hbase
      have hnA:¬ X.A s4.ab:=hfr s4.ab (by rw [q5];exact wG0 _) (by dsimp only;omega)
      obtain ⟨v,w',p,hrun,hbel,hxm,hv⟩:=zdq (X:=X) (tt:=tt) ty hB m hu tf hx hnA hE hsrc happ q3
      exact ⟨v,w',_,hrun,Nx.grown (up:=[]) (Ext.refl X) hbel hB hxm (by rw [q4,h0]) rfl rfl q5,hv⟩
     ·cases q2
    ·obtain ⟨ao,s4,h9,h10⟩:=Run.bind h8
     have hs4:Sat C k X.E s4.bs s4.nv:=h10.sat hs
     obtain ⟨⟨u,c1,c2,dn,q1,q2,q3,q4,q5⟩,q6,q7⟩:=Run.op3 h9 hs4
     rw [z1] at q1
     injection q1 with q1
     subst q1
     simp only [i64c,At.get,wB0] at q2 q3
     subst q2 q3
     have hE:Empt dn (.slice xz 0 0):=by
      cases dz<;>simp [D.els] at z2
      ·simp [Prim.run] at q4
       subst q4
       cases xz with
       | none=>have:=z4.1 rfl;cases this
       | some ad=>exact .inr ⟨rfl,ad,rfl⟩
      ·simp [Prim.run] at q4
       subst q4
       rw [z4.2 rfl]
       exact .inl ⟨rfl,rfl⟩
     have:=zfQ ty hB hu tf hx (tt:=tt) (σ:=s4) (by rw [q6];exact x0) (by rw [q6];exact m0) h10 hs (fun q hq1 hq2=>hfr q (by rw [← q7];exact hq1) hq2) q5 hE (by rw [q6];exact hvx0)
     unfold Acts at this ⊢
     rw [q7] at this
     exact this
   ·rename_i e' r hi _
    obtain ⟨_,s3,h6,h7⟩:=Run.bind h5
    obtain ⟨hb,es⟩:=Run.guard h6
    subst es
    have hb:=Ty.beq_eq hb
    subst hb
    simp only [VRep] at hvs0
    exact zmm ty hB hu tf hx x0 m0 h7 hs hfr hvs0 hvx0
   ·rename_i e' r vw _
    obtain ⟨_,s3,h6,h7⟩:=Run.bind h5
    obtain ⟨hb,es⟩:=Run.guard h6
    subst es
    have hb:=Ty.beq_eq hb
    subst hb
    simp only [VRep] at hvs0
    rcases Run.ite h7 with ⟨hc0,h70⟩|⟨_,h70⟩
    ·simp only [wD0,Option.isNone_iff_eq_none] at hc0
     obtain ⟨_,hvw⟩:=hc0
     subst hvw
     exact zjy hB hu tf hx x0 m0 h70 hs hfr hvs0 hvx0
    obtain ⟨RR,s4,h8,h9⟩:=Run.bind h70
    obtain ⟨e1,es⟩:=Run.root h8
    subst es
    split at h9
    ·rename_i e'' a g
     obtain ⟨_,s5,h10,h11⟩:=Run.bind h9
     obtain ⟨hb,es⟩:=Run.guard h10
     subst es
     have hb:=Ty.beq_eq hb
     subst hb
     have hA:X.A r:=by simp only [Ref] at hvs0;exact hvs0.2.1
     have hR:(X.mv s5.up).μ r=.mat e'' a g:=e1.symm
     have low:Run (SX.X.putRoot r (.row (.sl e'') a) >>= fun _=>zd2 (.sl e'') (cx.by_ E') r vw x) X.μ s5 sv s'→Acts cx.P B0 X (Builtin.append_ #[t,xt] tt #[vs,vx]) s5 s' fun X' v=>VRep X' sv v:=by
      intro h11
      obtain ⟨_,s6,h12,h13⟩:=Run.bind h11
      have es:=Run.put h12
      subst es
      obtain ⟨x1,m1⟩:=m0.lower (hB:=hB) (r:=r) hA (e:=.sl e'') (a:=a) (.inr ⟨e'',g,rfl,hR⟩) (R:=.row (.sl e'') a) (.inr rfl)
      rw [← Ctx.mv_cons] at x1 m1
      exact zfN ty hB hu tf hx (σ:={ s5 with up:=(r,Root.row (.sl e'') a)::s5.up }) (x0.trans x1) m1 h13 hs hfr (hvs0.ext x1) (VRep.ext x1 hvx0)
     obtain ⟨o,s6,h12,h13⟩:=Run.bind h11
     obtain ⟨es,ho⟩:=zlr h12
     subst es
     split at h13
     ·rename_i r2 a2
      obtain ⟨e',g2,e3,e4,e5⟩:=ho r2 a2 rfl
      injection e3 with e3
      subst e3 e4
      rw [h0,zar] at e5
      rcases Run.ite h13 with ⟨hc,h14⟩|⟨_,h14⟩
      ·simp only [wD0,Option.isNone_iff_eq_none,Bool.not_eq_true'] at hc
       obtain ⟨hc1,hc2⟩:=hc
       subst hc1
       have hr2:r2≠r:=fun e=>by
        subst e
        simp at hc2
       have hR':X.μ r=.mat e'' a g:=by rw [hX] at hR;exact hR
       have hvs1:Ref X (.h (.sl e'') r none) vs:=by rw [hX] at hvs0;exact hvs0
       have hrep:=m.rep r hA
       rw [hR'] at hrep
       obtain ⟨d0,hd0,_⟩:=hrep
       exact zid (rs:=[r]) (d1:=d0) hB m hu tf hx h0 h14 hs hfr (fun q hq=>by rw [List.mem_singleton.1 hq];exact ⟨hA,by rw [hR'];rfl⟩) (by simpa using hr2) hd0 (zrN m hvs1 hR' hd0) e5 hvx
      ·exact low h14
     ·exact low h13
    ·exact zfN ty hB hu tf hx x0 m0 h9 hs hfr hvs0 hvx0
   ·exact (Run.fail h5).elim
 ·rename_i e kk hT hT2
  obtain ⟨E,i,hu,tf⟩:=zak ty hT
  simp only [hu] at h
  obtain ⟨E',s1,h1,h2⟩:=Run.bind h
  obtain ⟨e1,e2⟩:=Run.pure h1
  subst e1 e2
  obtain ⟨_,s2,h3,h4⟩:=Run.bind h2
  obtain ⟨hg,es⟩:=Run.guard h3
  subst es
  simp only [wD0] at hg
  exact zjJ ty hB m hu tf h0 hT hT2 hg.2 h4 hs hfr hvs hvx
 ·exact (Run.fail h).elim
end
end Go.SX
namespace Go.SX
open Go.RowKit (Below)
section
variable {C:FuncId→List D→Option (List D)} {k B0:Nat} {X:Ctx} {cx:Cx}
theorem Mem.rerow {e:Ty}{r:Nat}{a a':At}{d:D}(m:Mem B0 X) (hB:B0≤X.w.heap.size) (hA:X.A r) (hR:X.μ r=.row e a) (ha:a.get X.E=some d) (ha':a'.get X.E=some d) :
  Ext X { X with μ:=upd X.μ r (.row e a') }∧Mem B0 { X with μ:=upd X.μ r (.row e a') }:=by
 refine Mem.change m hB (fun q=>q=r) (fun _ _ h=>h) (fun _ h=>h) (fun q h=>.inl h) (fun q hq=>⟨upd_ne _ _ hq,rfl⟩) (fun _ _ _=>rfl) (fun _ _ h=>h) ?_ ?_ ?_ (fun _ _ _=>rfl) ?_ ?_
 ·intro q b hq _ hb
  subst hq
  simp only [upd_same] at hb
  exact .inr ⟨q,rfl,hA,by rw [hR];exact hb⟩
 ·intro q q' b hq hq' _ _ _ _
  rw [hq,hq']
 ·intro q hq _
  subst hq
  have:=m.once q hA
  rw [hR] at this
  simp only [upd_same]
  exact this
 ·intro q hq _ _
  subst hq
  refine ⟨by rw [hR];rfl,fun e1 a1 d1 hr hd=>?_,fun e1 a1 g1 hr=>?_⟩
  ·rw [hR] at hr
   simp only [Root.row?,wB0,Prod.mk.injEq] at hr
   obtain ⟨r1,r2⟩:=hr
   subst r1 r2
   rw [ha] at hd
   injection hd with hd
   subst hd
   exact ⟨a',d,by simp [upd_same,Root.row?],ha',sameLen.refl _⟩
  ·simp only [upd_same] at hr
   cases hr
 ·intro x q hq _
  subst hq
  simp only [upd_same]
  have hrep:=m.rep q hA
  rw [hR] at hrep
  obtain ⟨d1,h1,h2⟩:=hrep
  rw [ha] at h1
  injection h1 with h1
  subst h1
  refine ⟨d,ha',?_⟩
  rcases h2 with h2|⟨b,c,te,fr,l,xs,p1,p2,p3,p4,p5,p6⟩
  ·exact .inl h2
  ·exact .inr ⟨b,c,te,fr,l,xs,p1,p2,p3,p4,p5.keep x.K,p6⟩
theorem zqK {P:Program}{w:World}{t e:TypeId}{T:TypeId}{A:Option Addr}{cap:Nat}(hu:P.underlying t=some (.slice e)):(Builtin.clear_ #[t] T #[.slice A 0 cap]).run P w=.ok (.tuple #[]) w:=by
 cases A<;>simp [Builtin.clear_,zab hu]
theorem zi1 (ty:TysOk cx) (hB:B0≤X.w.heap.size) (m:Mem B0 X) {t T:TypeId}{e:Ty}{r:Nat}{a lo hi y z a':At}{s0 s1 s2 s' sf:SS}(hT:cx.T t=.sl e) (hR:X.μ r=.row e a) (h1:Run (SX.X.op .sub [a,lo,hi]) X.μ s0 y s1)
  (h2:Run (SX.X.op (.clr e.zero) [y]) X.μ s1 z s2) (h3:Run (SX.X.op .cpyv [a,lo,hi,z]) X.μ s2 a' s') (hs:Sat C k X.E s'.bs s'.nv) {v:Value} (hv:Ref X (.h e r (some (lo,hi))) v) (h0:s0.up=[]) (hup:sf.up=(r,Root.row e a')::s'.up) (hab:sf.ab=s'.ab) :
  Acts cx.P B0 X (Builtin.clear_ #[t] T #[v]) s0 sf fun _ _=>True:=by
 obtain ⟨E,i,hu,tf⟩:=zak ty hT
 obtain ⟨zv,hz,_,hd⟩:=zfz tf (w:=X.w)
 simp only [Ref] at hv
 obtain ⟨_,hA,hv⟩:=hv
 have hrep:=m.rep r hA
 rw [hR] at hrep
 obtain ⟨d,g1,g2⟩:=hrep
 obtain ⟨a1,d1,f1,f2,f3⟩:=hv (by rw [hR];rfl)
 rw [hR] at f1
 simp only [Root.row?,wB0,Prod.mk.injEq,true_and] at f1
 subst f1
 rw [g1] at f2
 injection f2 with f2
 subst f2
 obtain ⟨⟨u,vl,vh,yd,q1,q2,q3,q4,q5⟩,q6,q7⟩:=Run.op3 h1 (h2.sat (h3.sat hs))
 obtain ⟨⟨y',zd,p1,p2,p3⟩,p4,p5⟩:=Run.op1 h2 (h3.sat hs)
 obtain ⟨⟨u',vl',vh',zd',od,o1,o2,o3,o4,o5,o6⟩,o7,o8⟩:=Run.op4 h3 hs
 rw [g1] at q1 o1
 rw [q5] at p1
 rw [q2] at o2
 rw [q3] at o3
 rw [p3] at o4
 injection q1 with q1
 injection o1 with o1
 injection p1 with p1
 injection o2 with o2
 injection o3 with o3
 injection o4 with o4
 subst q1 o1 p1 o2 o3 o4
 have hup':sf.up=[(r,Root.row e a')]:=by rw [hup,o7,p4,q6,h0]
 have habf:sf.ab=s0.ab:=by rw [hab,o8,p5,q7]
 have same:od=d→∀ {A:Option Addr} {cap:Nat},v=.slice A 0 cap→Acts cx.P B0 X (Builtin.clear_ #[t] T #[v]) s0 sf fun _ _=>True:=by
  intro he A cap hve
  subst he hve
  obtain ⟨x2,m2⟩:=m.rerow hB hA hR g1 o6
  exact ⟨_,X.w,{ X with μ:=upd X.μ r (.row e a') },zqK hu,⟨rfl,rfl,by rw [hup',zaF,zar],fun q=>⟨fun h=>.inl h,fun h=>h.elim id fun h=>by omega⟩,x2,m2,Below.refl _ _⟩,trivial⟩
 rcases f3 with ⟨c1,c2,k1,k2,c3,c4⟩|⟨b,l,c1,c2,ad,cap,bs,k1,k2,i',j',c3,c4,c5,c6,c7,c8,c9,c10,c11⟩
 ·rw [q2] at c3
  rw [q3] at c4
  injection c3 with c3
  injection c4 with c4
  subst c3 c4
  obtain ⟨A,hve⟩:=c2.val
  refine same ?_ hve
  rcases c2.em with h|h<;>subst h
  ·simp [Prim.run] at q4
   subst q4
   simp [Prim.run] at p2
   subst p2
   simp [Prim.run,D.els] at o5
   exact o5.symm
  ·simp [Prim.run] at q4
   subst q4
   simp [Prim.run] at p2
   subst p2
   simp [Prim.run,D.els] at o5
   exact o5.symm
 ·rw [q2] at c3
  rw [q3] at c4
  injection c3 with c3
  injection c4 with c4
  subst c3 c4 c2
  have hc:(0:Int)≤Int.ofNat i'∧Int.ofNat i'≤Int.ofNat j'∧Int.ofNat j'≤(l.length:Int):=⟨by simp,by simpa using c5,by simpa using c6⟩
  simp only [Prim.run,if_pos hc] at q4
  injection q4 with q4
  have hyl:((l.take (Int.ofNat j').toNat).drop (Int.ofNat i').toNat).length=j' - i':=by
   simp only [List.length_drop,wE0,Int.ofNat_eq_natCast,Int.toNat_natCast]
   omega
  have hyd:zd=.sl (List.replicate (j' - i') e.zero):=by
   rw [← q4] at p2
   simp only [Prim.run,hyl,wB0] at p2
   exact p2.symm
  subst hyd
  have hod:od=.sl (l.take i'++(List.replicate (j' - i') e.zero++l.drop j')):=by
   have e1:(Int.ofNat j' - Int.ofNat i').toNat=j' - i':=by simp only [Int.ofNat_eq_natCast];omega
   simp only [Prim.run,D.els,if_pos hc,e1] at o5
   injection o5 with o5
   rw [← o5]
   have e2:(List.replicate (j' - i') e.zero).take (j' - i')=List.replicate (j' - i') e.zero:=List.take_of_length_le (by simp)
   rw [e2]
   simp only [Int.ofNat_eq_natCast,Int.toNat_natCast,List.length_replicate]
   rw [show i' + (j' - i')=j' by omega]
  by_cases hij:i'=j'
  ·subst hij
   refine same ?_ (A:=some ad) (cap:=cap) (by rw [c7];simp)
   rw [hod]
   simp
  ·rcases g2 with ⟨t1,_⟩|⟨b',c,te,fr,l',xs,t1,t2,t3,t4,t5,t6⟩
   ·rw [c1] at t1;cases t1
   ·rw [c1] at t1
    injection t1 with t1
    injection t2 with t2
    subst t1 t2
    rw [t4 trivial] at t3
    have hbs:bs=c.size:=by
     have c9':=c9
     simp only [bsize,t3,wB0] at c9'
     exact c9'.symm
    subst hbs
    have had:=c11 (.inl (by omega))
    subst had c7
    have hzl:=(hd X.w X.M).cells.length
    have hzl':zv.cells.size=e.size:=by simpa using hzl
    have hfl:=zeu zv.cells.toList (j' - i')
    have hxl:=t5.length
    have hxs:xs.length≤c.toList.length:=by rw [← t6,wE0];omega
    have hjx:j' * e.size≤xs.length:=by rw [hxl];exact Nat.mul_le_mul_right _ c6
    have hsum:i' * e.size + (j' - i') * e.size=j' * e.size:=by rw [← Nat.add_mul];congr 1;omega
    have hfit:i' * e.size + (List.replicate (j' - i') zv.cells.toList).flatten.length≤xs.length:=by
     rw [hfl,hzl,hsum];exact hjx
    have hrun:=zi2 (P:=cx.P) (w:=X.w) (T:=T) (o:=i' * e.size) (n:=j' - i') (cap:=cap) hu hz t3 (by rw [hzl',hsum];simp at hxs;omega) (hd X.w X.M).cells.ones
    have hpx:patch xs (i' * e.size) (List.replicate (j' - i') zv.cells.toList).flatten=xs.take (i' * e.size)++((List.replicate (j' - i') zv.cells.toList).flatten++xs.drop (j' * e.size)):=by
     unfold patch
     rw [hfl,hzl,hsum,List.append_assoc]
    have hnew:DRepA X.w X.M e (l.take i'++(List.replicate (j' - i') e.zero++l.drop j')) (patch xs (i' * e.size) (List.replicate (j' - i') zv.cells.toList).flatten):=by
     rw [hpx]
     exact (t5.take i').append ((zd5 (hd X.w X.M).cells (j' - i')).append (t5.drop j'))
    obtain ⟨hmem,hw⟩:=m.rewrite hB hA hR c1 g1 (hod▸o6) (by simp;omega) t3 (c':=(patch c.toList (i' * e.size) (List.replicate (j' - i') zv.cells.toList).flatten).toArray) (by simpa using zaj (Nat.le_trans hfit hxs)) hnew (by
     show (patch c.toList _ _).take _=_
     rw [zaj hfit,zc6 hxs hfit,t6])
    exact ⟨_,_,_,hrun,Nx.wrote (up:=[]) (Ext.refl X) m hA hmem hw hup' habf,trivial⟩
theorem zks (ty:TysOk cx) (hB:B0≤X.w.heap.size) (m:Mem B0 X) {t T:TypeId}{s sv:SV}{s0 s':SS}(h0:s0.up=[]) (h:Run (zjB cx t s) X.μ s0 sv s') (hs:Sat C k X.E s'.bs s'.nv) {v:Value}(hv:VRep X s v) :
  Acts cx.P B0 X (Builtin.clear_ #[t] T #[v]) s0 s' fun X' u=>VRep X' sv u:=by
 have fin:∀ {sf:SS},sv=.un 1→Acts cx.P B0 X (Builtin.clear_ #[t] T #[v]) s0 sf (fun _ _=>True)→Acts cx.P B0 X (Builtin.clear_ #[t] T #[v]) s0 sf fun X' u=>VRep X' sv u:=fun h ⟨u,w',X',h1,h2,_⟩=>⟨u,w',X',h1,h2,by subst h;simp only [VRep]⟩
 unfold zjB at h
 split at h
 ·rename_i e e' r hT
  obtain ⟨_,s1,h1,h2⟩:=Run.bind h
  obtain ⟨hg,es⟩:=Run.guard h1
  subst es
  simp only [wD0] at hg
  have he:=Ty.beq_eq hg.1
  subst he
  obtain ⟨RR,s2,h3,h4⟩:=Run.bind h2
  obtain ⟨hR,es⟩:=Run.root h3
  subst es
  rw [h0,zar] at hR
  split at h4
  ·rename_i e'' a
   obtain ⟨_,s3,h5,h6⟩:=Run.bind h4
   obtain ⟨hg2,es⟩:=Run.guard h5
   subst es
   have he:=Ty.beq_eq hg2
   subst he
   obtain ⟨a',s4,h7,h8⟩:=Run.bind h6
   obtain ⟨_,s5,h9,h10⟩:=Run.bind h8
   have es:=Run.put h9
   obtain ⟨e1,e2⟩:=Run.pure h10
   subst es
   subst e1 e2
   simp only [VRep] at hv
   exact fin rfl (zkq ty hB m hT hR.symm h7 hs hv h0 rfl rfl)
  ·exact (Run.fail h4).elim
 ·rename_i e e' r ix g hT
  obtain ⟨_,s1,h1,h2⟩:=Run.bind h
  obtain ⟨hg,es⟩:=Run.guard h1
  subst es
  simp only [wD0] at hg
  have he:=Ty.beq_eq hg.1
  subst he
  obtain ⟨RR,s2,h3,h4⟩:=Run.bind h2
  obtain ⟨hR,es⟩:=Run.root h3
  subst es
  rw [h0,zar] at hR
  split at h4
  ·rename_i e'' a g'
   obtain ⟨_,s3,h5,h6⟩:=Run.bind h4
   obtain ⟨hg2,es⟩:=Run.guard h5
   subst es
   simp only [wD0] at hg2
   have he:=Ty.beq_eq hg2.1
   have hgg:=zad hg2.2
   subst he hgg
   obtain ⟨y,s4,h7,h8⟩:=Run.bind h6
   obtain ⟨y',s5,h9,h10⟩:=Run.bind h8
   obtain ⟨a',s6,h11,h12⟩:=Run.bind h10
   obtain ⟨_,s7,h13,h14⟩:=Run.bind h12
   have es:=Run.put h13
   obtain ⟨e1,e2⟩:=Run.pure h14
   subst es
   subst e1 e2
   simp only [VRep] at hv
   exact fin rfl (zkJ ty hB m hT hR.symm h7 h9 h11 hs hv h0 rfl rfl)
  ·exact (Run.fail h4).elim
 ·rename_i e e' r lo hi hT
  obtain ⟨_,s1,h1,h2⟩:=Run.bind h
  obtain ⟨hg,es⟩:=Run.guard h1
  subst es
  simp only [wD0] at hg
  have he:=Ty.beq_eq hg.1
  subst he
  obtain ⟨RR,s2,h3,h4⟩:=Run.bind h2
  obtain ⟨hR,es⟩:=Run.root h3
  subst es
  rw [h0,zar] at hR
  split at h4
  ·rename_i e'' a
   obtain ⟨_,s3,h5,h6⟩:=Run.bind h4
   obtain ⟨hg2,es⟩:=Run.guard h5
   subst es
   have he:=Ty.beq_eq hg2
   subst he
   obtain ⟨y,s4,h7,h8⟩:=Run.bind h6
   obtain ⟨z,s5,h9,h10⟩:=Run.bind h8
   obtain ⟨a',s6,h11,h12⟩:=Run.bind h10
   obtain ⟨_,s7,h13,h14⟩:=Run.bind h12
   have es:=Run.put h13
   obtain ⟨e1,e2⟩:=Run.pure h14
   subst es
   subst e1 e2
   simp only [VRep] at hv
   exact fin rfl (zi1 ty hB m hT hR.symm h7 h9 h11 hs hv h0 rfl rfl)
  ·exact (Run.fail h4).elim
 ·exact (Run.fail h).elim
theorem zoD {P:Program}(w:World) (dT sT ty elem:TypeId) (g o dLen dCap:Nat) (a:Addr) (sLen sCap:Nat) (cur:Array Value) (t:TypeId) (cs:List Value) {i:TypeInfo}
  (hu:P.underlying dT=some (.slice elem)) (hq:P.info? elem=some i)
  (hg:w.heap[g]?=some (.cells cur t (0,0))) (hn:cs.length=Nat.min sLen dLen * i.size)
  (hsrc:∀ j v,cs[j]?=some v→w.cell? (a.add j)=some v) (hfit:o + cs.length≤cur.size) (h1:∀ v∈cs,v.oneCell'=true) :
  (Builtin.copy_ #[dT,sT] ty #[.slice (some ⟨g,o,none⟩) dLen dCap,.slice (some a) sLen sCap]).run P w =
   .ok (goInt (Nat.min sLen dLen)) (w.setRow g (patch cur.toList o cs).toArray):=by
 have hl:=run_loadCells_list (P:=P) w a cs hsrc
 have hst:=run_storeCells_at P g o t cs 0 cur w hg (by simpa using hfit) h1
 simp [Builtin.copy_,run_underlying hu,Builtin.lenOf,Builtin.firstCells,sizeOf,typeInfo,hq,← hn,hl,hst,patch]
theorem zgS {P:Program}(w:World) (dT sT ty elem:TypeId) (A:Option Addr) (dLen dCap:Nat) (a:Addr) (sLen sCap:Nat) {i:TypeInfo}(hu:P.underlying dT=some (.slice elem)) (hq:P.info? elem=some i) (h0:Nat.min sLen dLen=0) :
  (Builtin.copy_ #[dT,sT] ty #[.slice A dLen dCap,.slice (some a) sLen sCap]).run P w=.ok (goInt 0) w:=by
 have hl:=run_loadCells_list (P:=P) w a [] (by simp)
 cases A<;>simp [Builtin.copy_,run_underlying hu,Builtin.lenOf,Builtin.firstCells,sizeOf,typeInfo,hq,h0,hl,storeCells] at hl ⊢<;>simp [hl]
theorem run_copy_nil' {P:Program}(w:World) (dT sT ty elem:TypeId) (A:Option Addr) (dLen dCap:Nat) {i:TypeInfo}(hu:P.underlying dT=some (.slice elem)) (hq:P.info? elem=some i) :
  (Builtin.copy_ #[dT,sT] ty #[.slice A dLen dCap,.slice none 0 0]).run P w=.ok (goInt 0) w:=by
 cases A<;>simp [Builtin.copy_,run_underlying hu,Builtin.lenOf,Builtin.firstCells,sizeOf,typeInfo,hq,storeCells]
theorem zim (ty:TysOk cx) (hB:B0≤X.w.heap.size) (m:Mem B0 X) {t xt T:TypeId}{e:Ty}{r:Nat}{a lo hi y:At}{s0 s':SS}{sv:SV}(hT:cx.T t=.sl e) (hR:X.μ r=.row e a)
  (h:Run (zlY e r a lo hi y) X.μ s0 sv s') (hs:Sat C k X.E s'.bs s'.nv) {v vx:Value} (hv:Ref X (.h e r (some (lo,hi))) v) {sd:D} (hy:y.get X.E=some sd) (hsrc:Src X.w X.M e sd vx) (h0:s0.up=[]) :
  Acts cx.P B0 X (Builtin.copy_ #[t,xt] T #[v,vx]) s0 s' fun X' u=>VRep X' sv u:=by
 unfold zlY at h
 obtain ⟨a',s1,h1,h2⟩:=Run.bind h
 obtain ⟨_,s2,h3,h4⟩:=Run.bind h2
 have es:=Run.put h3
 subst es
 obtain ⟨n,s3,h5,h6⟩:=Run.bind h4
 obtain ⟨kk,s4,h7,h8⟩:=Run.bind h6
 obtain ⟨j,s5,h9,h10⟩:=Run.bind h8
 obtain ⟨e1,e2⟩:=Run.pure h10
 subst e1 e2
 obtain ⟨E,i,hu,tf⟩:=zak ty hT
 simp only [Ref] at hv
 obtain ⟨_,hA,hv⟩:=hv
 have hrep:=m.rep r hA
 rw [hR] at hrep
 obtain ⟨d,g1,g2⟩:=hrep
 obtain ⟨a1,d1,f1,f2,f3⟩:=hv (by rw [hR];rfl)
 rw [hR] at f1
 simp only [Root.row?,wB0,Prod.mk.injEq,true_and] at f1
 subst f1
 rw [g1] at f2
 injection f2 with f2
 subst f2
 have hs1:Sat C k X.E s1.bs s1.nv:=h5.sat (h7.sat (h9.sat hs))
 obtain ⟨⟨u',vl',vh',zd',od,o1,o2,o3,o4,o5,o6⟩,o7,o8⟩:=Run.op4 h1 hs1
 obtain ⟨⟨nl,nh,nd,n1,n2,n3,n4⟩,n5,n6⟩:=Run.op2 h5 (h7.sat (h9.sat hs))
 obtain ⟨⟨kl,kd,k1,k2,k3⟩,k4,k5⟩:=Run.op1 h7 (h9.sat hs)
 obtain ⟨⟨jl,jh,jd,j1,j2,j3,j4⟩,j5,j6⟩:=Run.op2 h9 hs
 rw [g1] at o1
 rw [hy] at o4 k1
 rw [o2] at n1
 rw [o3] at n2
 rw [k3] at j1
 rw [n4] at j2
 injection o1 with o1
 injection o4 with o4
 injection n1 with n1
 injection n2 with n2
 injection k1 with k1
 injection j1 with j1
 injection j2 with j2
 subst o1 o4 n1 n2 k1 j1 j2
 have hup':s'.up=[(r,Root.row e a')]:=by rw [j5,k4,n5];show (r,Root.row e a')::s1.up=_;rw [o7,h0]
 have habf:s'.ab=s0.ab:=by rw [j6,k5,n6];exact o8
 have same:od=d→∀ {A:Option Addr} {len cap:Nat} {mn:Nat},v=.slice A len cap→(Builtin.copy_ #[t,xt] T #[.slice A len cap,vx]).run cx.P X.w=.ok (goInt mn) X.w→jd=.int .i64 (Int.ofNat mn)→Acts cx.P B0 X (Builtin.copy_ #[t,xt] T #[v,vx]) s0 s' fun X' u=>VRep X' (.d (.int .i64) j) u:=by
  intro he A len cap mn hve hrun hjd
  subst he hve hjd
  obtain ⟨x2,m2⟩:=m.rerow hB hA hR g1 o6
  exact ⟨_,X.w,{ X with μ:=upd X.μ r (.row e a') },hrun,⟨rfl,rfl,by rw [hup',zaF,zar],fun q=>⟨fun h=>.inl h,fun h=>h.elim id fun h=>by omega⟩,x2,m2,Below.refl _ _⟩,VRep.data.2 ⟨_,j4,DVal.of_int _ _⟩⟩
 have hslen:∃ sl,sd.els=some sl∧kd=.int .i64 sl.length:=by
  rcases hsrc with ⟨c1,_⟩|⟨l2,ys,ad,cap,c1,_⟩<;>subst c1
  ·exact ⟨[],rfl,by simpa [Prim.run] using k2.symm⟩
  ·exact ⟨l2,rfl,by simpa [Prim.run] using k2.symm⟩
 obtain ⟨sl,hsl,hkd⟩:=hslen
 subst hkd
 rcases f3 with ⟨c1,c2,q1,q2,c3,c4⟩|⟨b,l,c1,c2,ad,cap,bs,q1,q2,i',j',c3,c4,c5,c6,c7,c8,c9,c10,c11⟩
 ·rw [o2] at c3
  rw [o3] at c4
  injection c3 with c3
  injection c4 with c4
  subst c3 c4
  obtain ⟨A,hve⟩:=c2.val
  have hnd:nd=.int .i64 0:=by simpa [Prim.run] using n3.symm
  subst hnd
  have hjd:jd=.int .i64 (Int.ofNat 0):=by
   simp only [Prim.run] at j3
   rw [if_pos trivial] at j3
   injection j3 with j3
   rw [← j3]
   congr 1
   split
   ·rfl
   ·show (sl.length:Int)=0;omega
  have hod:od=d:=by
   simp only [Prim.run,hsl] at o5
   rcases c2.em with h|h<;>subst h<;>simp [D.els] at o5<;>exact o5.symm
  refine same hod (mn:=0) hve ?_ hjd
  rcases hsrc with ⟨_,w2⟩|⟨l2,ys,ad2,cap2,_,w2,_⟩
  ·subst w2
   exact run_copy_nil' X.w t xt T E A 0 0 hu tf.info
  ·subst w2
   exact zgS X.w t xt T E A 0 0 ad2 _ _ hu tf.info (Nat.min_zero _)
 ·rw [o2] at c3
  rw [o3] at c4
  injection c3 with c3
  injection c4 with c4
  subst c3 c4 c2
  have hc:(0:Int)≤Int.ofNat i'∧Int.ofNat i'≤Int.ofNat j'∧Int.ofNat j'≤(l.length:Int):=⟨by simp,by simpa using c5,by simpa using c6⟩
  have e1:(Int.ofNat j' - Int.ofNat i').toNat=j' - i':=by simp only [Int.ofNat_eq_natCast];omega
  have hnd:nd=.int .i64 (Int.ofNat (j' - i')):=by
   simp only [Prim.run] at n3
   injection n3 with n3
   rw [← n3]
   congr 1
   simp only [Int.ofNat_eq_natCast]
   omega
  subst hnd
  have hjd:jd=.int .i64 (Int.ofNat (Nat.min sl.length (j' - i'))):=by
   simp only [Prim.run] at j3
   rw [if_pos trivial] at j3
   injection j3 with j3
   rw [← j3]
   congr 1
   simp only [Int.ofNat_eq_natCast]
   have:Nat.min sl.length (j' - i')=min sl.length (j' - i'):=rfl
   rw [this]
   split<;>omega
  have hod:od=.sl (l.take i'++(sl.take (j' - i')++l.drop (i' + (sl.take (j' - i')).length))):=by
   have hsd:sd=.nil∧sl=[]∨sd=.sl sl:=by
    rcases hsrc with ⟨w1,_⟩|⟨l2,ys,ad,cap,w1,_⟩
    ·subst w1;simp only [D.els,wB0] at hsl;exact .inl ⟨rfl,hsl.symm⟩
    ·subst w1;simp only [D.els,wB0] at hsl;exact .inr (by rw [hsl])
   rcases hsd with ⟨w1,w2⟩|w1<;>subst w1<;>try subst w2
   all_goals
    simp only [Prim.run,D.els,if_pos hc,e1] at o5
    injection o5 with o5
    rw [← o5]
    simp only [Int.ofNat_eq_natCast,Int.toNat_natCast]
  have hml:(sl.take (j' - i')).length=Nat.min sl.length (j' - i'):=by rw [wE0,Nat.min_comm]
  by_cases hz:Nat.min sl.length (j' - i')=0
  ·have hno:sl.take (j' - i')=[]:=List.eq_nil_of_length_eq_zero (by rw [hml,hz])
   refine same ?_ (A:=some ad) (mn:=0) c7 ?_ (by rw [hjd,hz])
   ·rw [hod,hno]
    simp
   ·rcases hsrc with ⟨_,w2⟩|⟨l2,ys,ad2,cap2,w1,w2,_⟩
    ·subst w2
     exact run_copy_nil' X.w t xt T E _ _ _ hu tf.info
    ·subst w1 w2
     simp only [D.els,wB0] at hsl
     subst hsl
     exact zgS X.w t xt T E _ _ _ ad2 _ _ hu tf.info hz
  ·rcases hsrc with ⟨w1,_⟩|⟨l2,ys,ad2,cap2,w1,w2,w3,w4⟩
   ·subst w1
    simp only [D.els,wB0] at hsl
    subst hsl
    exact absurd (Nat.zero_min _) hz
   ·subst w1 w2
    simp only [D.els,wB0] at hsl
    subst hsl
    have hij:i'<j':=by
     rcases Nat.lt_or_ge i' j' with h|h
     ·exact h
     ·exfalso
      apply hz
      rw [show j' - i'=0 by omega]
      exact Nat.min_zero _
    rcases g2 with ⟨t1,_⟩|⟨b',c,te,fr,l',xs,t1,t2,t3,t4,t5,t6⟩
    ·rw [c1] at t1;cases t1
    ·rw [c1] at t1
     injection t1 with t1
     injection t2 with t2
     subst t1 t2
     rw [t4 trivial] at t3
     have hbs:bs=c.size:=by
      have c9':=c9
      simp only [bsize,t3,wB0] at c9'
      exact c9'.symm
     subst hbs
     have had:=c11 (.inl (by omega))
     subst had c7
     have hsize:i.size=e.size:=tf.size
     generalize hmn:Nat.min l2.length (j' - i')=mn at *
     have hmn1:mn≤l2.length:=by rw [← hmn];exact Nat.min_le_left _ _
     have hmn2:mn≤j' - i':=by rw [← hmn];exact Nat.min_le_right _ _
     have htk:l2.take (j' - i')=l2.take mn:=by
      rw [← hmn]
      rcases Nat.le_total l2.length (j' - i') with h|h
      ·rw [show Nat.min l2.length (j' - i')=l2.length from Nat.min_eq_left h,List.take_of_length_le h,List.take_length]
      ·rw [show Nat.min l2.length (j' - i')=j' - i' from Nat.min_eq_right h]
     have hxl:=t5.length
     have hyl:=w3.length
     have hcl:(ys.take (mn * e.size)).length=mn * e.size:=by
      rw [wE0,hyl,Nat.min_eq_left (Nat.mul_le_mul_right _ hmn1)]
     have hxs:xs.length≤c.toList.length:=by rw [← t6,wE0];omega
     have hsum:i' * e.size + mn * e.size=(i' + mn) * e.size:=by rw [← Nat.add_mul]
     have hfit:i' * e.size + (ys.take (mn * e.size)).length≤xs.length:=by
      rw [hcl,hsum,hxl]
      exact Nat.mul_le_mul_right _ (by omega)
     have hrun:=zoD (P:=cx.P) X.w t xt T E b (i' * e.size) (j' - i') cap ad2 l2.length cap2 c te (ys.take (mn * e.size)) hu tf.info t3 (by rw [hcl,hmn,hsize]) (fun q u hq=>by
      rw [List.getElem?_take] at hq
      split at hq
      ·exact w4 q u hq
      ·cases hq) (by simp at hxs;omega) (fun u hu=>(w3.ones u (List.mem_of_mem_take hu)).one)
     rw [hmn] at hrun
     have hpx:patch xs (i' * e.size) (ys.take (mn * e.size))=xs.take (i' * e.size)++(ys.take (mn * e.size)++xs.drop ((i' + mn) * e.size)):=by
      unfold patch
      rw [hcl,hsum,List.append_assoc]
     have hnew:DRepA X.w X.M e (l.take i'++(l2.take mn++l.drop (i' + mn))) (patch xs (i' * e.size) (ys.take (mn * e.size))):=by
      rw [hpx]
      exact (t5.take i').append ((w3.take mn).append (t5.drop (i' + mn)))
     have hod':od=.sl (l.take i'++(l2.take mn++l.drop (i' + mn))):=by
      rw [hod,htk,wE0,Nat.min_eq_left hmn1]
     obtain ⟨hmem,hw⟩:=m.rewrite hB hA hR c1 g1 (hod'▸o6) (by simp;omega) t3 (c':=(patch c.toList (i' * e.size) (ys.take (mn * e.size))).toArray) (by simpa using zaj (Nat.le_trans hfit hxs)) hnew (by
      show (patch c.toList _ _).take _=_
      rw [zaj hfit,zc6 hxs hfit,t6])
     refine ⟨_,_,_,hrun,Nx.wrote (up:=[]) (Ext.refl X) m hA hmem hw hup' habf,VRep.data.2 ⟨_,j4,?_⟩⟩
     rw [hjd]
     exact DVal.of_int _ _
theorem zta (ty:TysOk cx) (hB:B0≤X.w.heap.size) (m:Mem B0 X) {t xt T:TypeId}{s x sv:SV}{s0 s':SS}(h0:s0.up=[]) (h:Run (zmf cx t s x) X.μ s0 sv s') (hs:Sat C k X.E s'.bs s'.nv) {vs vx:Value}(hvs:VRep X s vs) (hvx:VRep X x vx) :
  Acts cx.P B0 X (Builtin.copy_ #[t,xt] T #[vs,vx]) s0 s' fun X' u=>VRep X' sv u:=by
 unfold zmf at h
 split at h
 ·rename_i e R e' n r hT
  obtain ⟨E,i,hu,tf⟩:=zak ty hT
  obtain ⟨_,s1,h1,h2⟩:=Run.bind h
  obtain ⟨hg,es⟩:=Run.guard h1
  subst es
  simp only [wD0] at hg
  have he:=Ty.beq_eq hg.1.1.1
  have heR:=Ty.beq_eq hg.1.1.2
  have h1s:=zad hg.1.2
  have hfl:=hg.2
  subst he heR
  obtain ⟨y,s2,h3,h4⟩:=Run.bind h2
  obtain ⟨RR,s3,h5,h6⟩:=Run.bind h4
  obtain ⟨hR,es⟩:=Run.root h5
  subst es
  split at h6
  ·rename_i R' T' a
   obtain ⟨_,s4,h7,h8⟩:=Run.bind h6
   obtain ⟨hg2,es⟩:=Run.guard h7
   subst es
   simp only [wD0] at hg2
   have e1:=Ty.beq_eq hg2.1
   have e2:=Ty.beq_eq hg2.2
   subst e1 e2
   obtain ⟨v,s5,h9,h10⟩:=Run.bind h8
   obtain ⟨_,s6,h11,h12⟩:=Run.bind h10
   have es:=Run.put h11
   obtain ⟨e1,e2⟩:=Run.pure h12
   subst es
   subst e1 e2
   have hs9:Sat C k X.E s5.bs s5.nv:=hs
   obtain ⟨u1,u2,d,hd,hdv⟩:=zgb hB m h0 h3 (h9.sat hs9) hvx
   obtain ⟨⟨da,dy,dn,q1,q2,q3,q4⟩,q5,q6⟩:=Run.op2 h9 hs9
   rw [hd] at q2
   injection q2 with q2
   subst q2
   simp only [VRep,Ref] at hvs
   obtain ⟨hA,_,_,b,hb,hve⟩:=hvs
   subst hve
   rw [u1,zar] at hR
   have hR:=hR.symm
   have hrep:=m.rep r hA
   rw [hR] at hrep
   obtain ⟨b',c,te,w1,w2,_,w4⟩:=hrep
   rw [hb] at w1
   injection w1 with w1
   subst w1
   simp only [CRep] at w4
   obtain ⟨dd,y1,y2⟩:=w4
   rw [q1] at y1
   injection y1 with y1
   subst y1
   cases da<;>simp only [DRep] at y2
   rename_i l
   obtain ⟨hln,y2⟩:=y2
   have hsrc:Src X.w X.M e' d vx:=Src.of hdv fun _ _ h=>h.flat hfl
   have hcl:c.toList.length=n:=by rw [y2.length,h1s,hln,Nat.mul_one]
   have hmem:b∈(X.μ r).own (X.β r):=by rw [hR];simp [Root.own,hb]
   have size1:(cx.P.info? E).map (·.size)=some 1:=by rw [tf.info];simp [tf.size,h1s]
   have fin:∀ {c':Array Value} {u:Value},c'.size=c.size→DRep X.w X.M (.arr n e') dn c'.toList→(Builtin.copy_ #[t,xt] T #[.slice (some ⟨b,0,none⟩) n n,vx]).run cx.P X.w=.ok u (X.w.setRow b c') →
     Acts cx.P B0 X (Builtin.copy_ #[t,xt] T #[.slice (some ⟨b,0,none⟩) n n,vx]) s1 { s5 with up:=(r,Root.box (.arr n e') (.d (.arr n e') v))::s5.up } fun X' u=>VRep X' (.un 1) u:=by
    intro c' u f1 f2 f3
    have hw:=m.write (hnl:=by intro _ _ _ h;rw [hR] at h;cases h) hB (c':=c') (R:=.box (.arr n e') (.d (.arr n e') v)) hA hmem w2 f1 (by rw [hR];rfl) (fun _=>⟨by rw [hR];rfl,fun e a d hr=>(by rw [hR] at hr;cases hr),fun e a g hr=>(by simp only [Ctx.wrote,upd_same] at hr;cases hr)⟩)
     (fun x=>⟨b,_,te,hb,setRow_heap _ _ _ _ _ _ w2,rfl,by simp only [CRep];exact ⟨dn,q4,f2.keep x.K⟩⟩)
    exact ⟨_,_,_,f3,Nx.wrote (up:=[]) (Ext.refl X) m hA hmem hw (by rw [q5,u1]) (q6.trans u2),by simp only [VRep]⟩
   rcases hsrc with ⟨g1,g2⟩|⟨l2,ys,ad,cap,g1,g2,g3,g4⟩
   ·subst g1 g2
    simp only [Prim.run,D.els,List.take_nil,List.nil_append,List.length_nil,List.drop_zero,wB0] at q3
    subst q3
    refine fin (c':=c) (u:=goInt 0) rfl (by simp only [DRep];exact ⟨hln,y2⟩) ?_
    rw [setRow_self X.w b c te (0,0) w2]
    exact run_copy_nil cx.P X.w t xt T E _ n n hu (by rw [tf.info];rfl)
   ·subst g1 g2
    simp only [Prim.run,D.els,wB0] at q3
    subst q3
    have hyl:ys.length=l2.length:=by rw [g3.length,h1s,Nat.mul_one]
    have hmin:(ys.take n).length=Nat.min l2.length n:=by rw [wE0,hyl,Nat.min_comm]
    have hrun:=run_copy_row cx.P X.w t xt T E b 0 n n ad l2.length cap c te (ys.take n) hu size1 w2 hmin (fun j v hj=>by
     rw [List.getElem?_take] at hj
     split at hj
     ·exact g4 j v hj
     ·cases hj) (by rw [Nat.zero_add,wE0];simp at hcl;omega) (fun v hv=>(g3.ones v (List.mem_of_mem_take hv)).one)
    refine fin ?_ ?_ hrun
    ·simp only [List.take_zero,List.nil_append,Nat.zero_add]
     simp only [List.size_toArray,wI0,List.length_drop,wE0]
     simp at hcl ⊢
     omega
    ·simp only [DRep,List.take_zero,List.nil_append,Nat.zero_add,hln]
     refine ⟨by simp;omega,?_⟩
     have t1:=g3.take n
     rw [h1s,Nat.mul_one] at t1
     refine t1.append ?_
     by_cases hle:l2.length≤n
     ·rw [show (ys.take n).length=l2.length by rw [wE0];omega]
      have t2:=y2.drop l2.length
      rw [h1s,Nat.mul_one] at t2
      exact t2
     ·rw [List.drop_eq_nil_of_le (by omega),List.drop_eq_nil_of_le (by rw [wE0];omega)]
      simp [DRepA]
  ·exact (Run.fail h6).elim
 ·rename_i e e' r lo hi hT
  obtain ⟨_,s1,h1,h2⟩:=Run.bind h
  obtain ⟨hg,es⟩:=Run.guard h1
  subst es
  simp only [wD0] at hg
  have he:=Ty.beq_eq hg.1
  subst he
  obtain ⟨y,s2,h3,h4⟩:=Run.bind h2
  obtain ⟨a,s3,h5,h6⟩:=Run.bind h4
  obtain ⟨es,hR⟩:=zcl h5
  subst es
  have hs3:Sat C k X.E s3.bs s3.nv:=h6.sat hs
  obtain ⟨u1,u2,d,hd,hdv⟩:=zgb hB m h0 h3 hs3 hvx
  rw [u1,zar] at hR
  simp only [VRep] at hvs
  have:=zim (xt:=xt) (T:=T) ty hB m hT hR h6 hs hvs hd (Src.of hdv fun _ _ h=>h.flat hg.2) u1
  obtain ⟨v,w',X',p1,p2,p3⟩:=this
  exact ⟨v,w',X',p1,u2▸p2,p3⟩
 ·rename_i e e' r hT
  obtain ⟨_,s1,h1,h2⟩:=Run.bind h
  obtain ⟨hg,es⟩:=Run.guard h1
  subst es
  simp only [wD0] at hg
  have he:=Ty.beq_eq hg.1
  subst he
  obtain ⟨y,s2,h3,h4⟩:=Run.bind h2
  obtain ⟨a,s3,h5,h6⟩:=Run.bind h4
  obtain ⟨es,hR⟩:=zcl h5
  subst es
  obtain ⟨n,s4,h7,h8⟩:=Run.bind h6
  have hs4:Sat C k X.E s4.bs s4.nv:=h8.sat hs
  have hs3:Sat C k X.E s3.bs s3.nv:=h7.sat hs4
  obtain ⟨u1,u2,d,hd,hdv⟩:=zgb hB m h0 h3 hs3 hvx
  rw [u1,zar] at hR
  obtain ⟨⟨ad,nd,q1,q2,q3⟩,q4,q5⟩:=Run.op1 h7 hs4
  have hvs':Ref X (.h e' r (some (i64c 0,n))) vs:=by
   simp only [VRep,Ref] at hvs ⊢
   refine ⟨hvs.1,hvs.2.1,fun ht=>?_⟩
   obtain ⟨a1,d1,f1,f2,f3⟩:=hvs.2.2 ht
   refine ⟨a1,d1,f1,f2,?_⟩
   have f1':=f1
   rw [hR] at f1'
   simp only [Root.row?,wB0,Prod.mk.injEq,true_and] at f1'
   subst f1'
   rw [q1] at f2
   injection f2 with f2
   subst f2
   rcases f3 with ⟨c1,c2,_⟩|⟨b,l,c1,c2,cap,bs,c3,c4,c5,c6⟩
   ·refine .inl ⟨c1,c2,.i64,.i64,rfl,?_⟩
    rw [c2.em.len] at q2
    injection q2 with q2
    rw [q3,← q2]
   ·subst c2
    simp only [Prim.run,wB0] at q2
    exact .inr ⟨b,l,c1,rfl,⟨b,0,none⟩,cap,bs,.i64,.i64,0,l.length,rfl,by rw [q3,← q2];rfl,Nat.zero_le _,wG0 _,by rw [c3];rfl,by simpa using c4,c5,by simpa using c6,fun _=>by simp⟩
  have:=zim (xt:=xt) (T:=T) ty hB m hT hR h8 hs hvs' hd (Src.of hdv fun _ _ h=>h.flat hg.2) (q4.trans u1)
  obtain ⟨v,w',X',p1,p2,p3⟩:=this
  exact ⟨v,w',X',p1,(q5.trans u2)▸p2,p3⟩
 ·exact (Run.fail h).elim
end
end Go.SX
namespace Go.SX
open Go.RowKit (Below)
def DVals (w:World) (M:Nat→Prop):List Ty→List D→List Value→Prop
 | [],[],[]=>True
 | T::Ts,d::ds,v::vs=>DVal w M T d v∧DVals w M Ts ds vs
 | _,_,_=>False
theorem DVal.keep {w w':World}{M M':Nat→Prop}(K:Keeps w w' M M') {T:Ty}{d:D}{v:Value}(h:DVal w M T d v):DVal w' M' T d v:=by
 unfold DVal at h ⊢
 split
 ·rename_i c;rw [if_pos c] at h;obtain ⟨cs,h3,h4⟩:=h;exact ⟨cs,h3,h4.keep K⟩
 ·rename_i c;rw [if_neg c] at h;exact ⟨h.1,h.2.keep K⟩
theorem DVals.keep {w w':World}{M M':Nat→Prop}(K:Keeps w w' M M'):∀ {Ts:List Ty}{ds:List D}{vs:List Value},DVals w M Ts ds vs→DVals w' M' Ts ds vs
 | [],[],[],h=>h
 | _::_,_::_,_::_,h=>⟨h.1.keep K,DVals.keep K h.2⟩
 | [],[],_::_,h|[],_::_,_,h|_::_,[],_,h|_::_,_::_,[],h=>h
theorem DVal.flat {w w':World}{M M':Nat→Prop}{T:Ty}{d:D}{v:Value}(hf:T.flat=true) (h:DVal w M T d v):DVal w' M' T d v:=by
 unfold DVal at h ⊢
 split
 ·rename_i c;rw [if_pos c] at h;obtain ⟨cs,h3,h4⟩:=h;exact ⟨cs,h3,h4.flat hf⟩
 ·rename_i c;rw [if_neg c] at h;exact ⟨h.1,h.2.flat hf⟩
theorem DVals.flat {w w':World}{M M':Nat→Prop}:∀ {Ts:List Ty}{ds:List D}{vs:List Value},Ty.flatL Ts=true→DVals w M Ts ds vs→DVals w' M' Ts ds vs
 | [],[],[],_,h=>h
 | T::Ts,d::ds,v::vs,hf,h=>by
  simp only [Ty.flatL,wD0] at hf
  exact ⟨h.1.flat hf.1,DVals.flat hf.2 h.2⟩
 | [],[],_::_,_,h|[],_::_,_,_,h|_::_,[],_,_,h|_::_,_::_,[],_,h=>h
def zh6:List Value→Value
 | [u]=>u
 | us=>.tuple us.toArray
def zuB (w:World) (M:Nat→Prop) (Ts:List Ty) (ds:List D) (v:Value):Prop :=
 ∃ vs,DVals w M Ts ds vs∧v=zh6 vs
def CallsOk (cx:Cx) (C:FuncId→List D→Option (List D)):Prop :=
 ∀ (f:FuncId) (fn:Func) (ds rs:List D),cx.P.funcs[f]?=some fn→ze0 fn=true→zlg cx f fn=true→C f ds=some rs →
  ∀ (w:World) (args:Array Value) (M:Nat→Prop),(∀ b,M b→b<w.heap.size)→DVals w M (zaH cx fn) ds args.toList →
   Calls cx.P f args w fun e w'=>∃ v,e=.returned v∧Below w.heap.size w w'∧zuB w' M (zdc cx fn) rs v
section
variable {C:FuncId→List D→Option (List D)} {k B0:Nat} {X:Ctx} {cx:Cx}
theorem zht (hB:B0≤X.w.heap.size) {fz:Bool}:∀ {l:List SV}{Ts:List Ty}{σ σ':SS}{as:List At}{vs:List Value},Run (SV.viewL fz Ts l) X.μ σ as σ'→Sat C k X.E σ'.bs σ'.nv→Mem B0 (X.mv σ.up)→VRepL (X.mv σ.up) l vs →
  Ext (X.mv σ.up) (X.mv σ'.up)∧Mem B0 (X.mv σ'.up)∧(fz=false→σ'.up=σ.up)∧σ'.ab=σ.ab∧∃ ds,gets X.E as=some ds∧DVals X.w (seen fz (X.mv σ'.up)) Ts ds vs
 | [],[],σ,σ',as,vs,h,hs,m,hv=>by
  simp only [SV.viewL] at h
  obtain ⟨e1,e2⟩:=Run.pure h
  subst e1 e2
  simp only [VRepL] at hv
  subst hv
  exact ⟨Ext.refl _,m,fun _=>rfl,rfl,[],rfl,trivial⟩
 | s::l,T::Ts,σ,σ',as,vs,h,hs,m,hv=>by
  simp only [SV.viewL] at h
  obtain ⟨a,s1,h1,h2⟩:=Run.bind h
  obtain ⟨as',s2,h3,h4⟩:=Run.bind h2
  obtain ⟨e1,e2⟩:=Run.pure h4
  subst e1 e2
  simp only [VRepL] at hv
  obtain ⟨v,r,ev,hv1,hv2⟩:=hv
  subst ev
  obtain ⟨x1,m1,f1,b1,d,g1,r1⟩:=zej hB h1 (h3.sat hs) m hv1
  obtain ⟨x2,m2,f2,b2,ds,g2,r2⟩:=zht hB h3 hs m1 (SX.VRepL.ext x1 hv2)
  exact ⟨x1.trans x2,m2,fun e=>by rw [f2 e,f1 e],by rw [b2,b1],d::ds,zeV g1 g2,r1.keep (seen_keeps x2 rfl),r2⟩
 | [],_::_,σ,σ',as,vs,h,hs,m,hv=>by simp only [SV.viewL] at h;exact (Run.fail h).elim
 | _::_,[],σ,σ',as,vs,h,hs,m,hv=>by simp only [SV.viewL] at h;exact (Run.fail h).elim
theorem zhv {X:Ctx}:∀ {Ts:List Ty}{rs:List D}{vs:List Value}{n:Nat},DVals X.w X.M Ts rs vs→(∀ (j:Nat) (d:D),rs[j]?=some d→X.E[n + j]?=some d)→VRepL X (frozen Ts n) vs
 | [],[],[],n,_,_=>by simp only [frozen,VRepL]
 | T::Ts,d::ds,v::vs,n,h,hE=>by
  simp only [frozen,VRepL]
  refine ⟨v,vs,rfl,VRep.data.2 ⟨d,hE 0 d rfl,h.1⟩,zhv h.2 fun j d' hj=>?_⟩
  have:=hE (j + 1) d' (by simpa using hj)
  rw [← this]
  congr 1
  omega
 | [],[],_::_,_,h,_|[],_::_,_,_,h,_|_::_,[],_,_,h,_|_::_,_::_,[],_,h,_=>h.elim
theorem DVals.len {w:World}{M:Nat→Prop}:∀ {Ts:List Ty}{ds:List D}{vs:List Value},DVals w M Ts ds vs→vs.length=Ts.length
 | [],[],[],_=>rfl
 | T::Ts,d::ds,v::vs,h=>by simp [DVals.len h.2]
 | [],[],_::_,h|[],_::_,_,h|_::_,[],_,h|_::_,_::_,[],h=>h.elim
theorem VRepL.length {X:Ctx}:∀ {l:List SV}{vs:List Value},VRepL X l vs→vs.length=l.length
 | [],vs,h=>by simp only [VRepL] at h;simp [h]
 | s::l,vs,h=>by
  simp only [VRepL] at h
  obtain ⟨v,r,e,_,h2⟩:=h
  simp [e,VRepL.length h2]
theorem znC {X:Ctx}{l:List SV}{vs:List Value}(h:VRepL X l vs):VRep X (zrV l) (zh6 vs):=by
 have hl:=VRepL.length h
 unfold zrV zh6
 split
 ·rename_i s
  simp only [VRepL] at h
  obtain ⟨v,r,e,h1,h2⟩:=h
  subst e h2
  exact h1
 ·rename_i l' hne
  split
  ·rename_i u
   match l,hl with
   | [s],_=>exact absurd rfl (hne s)
  ·simp only [VRep]
   exact ⟨vs.toArray,rfl,by simpa using h⟩
theorem zku (hC:CallsOk cx C) (hB:B0≤X.w.heap.size) (m:Mem B0 X) {f:FuncId}{fn:Func}{args:List SV}{sv:SV}{s0 s':SS}(h0:s0.up=[]) (h:Run (zl0 cx f fn args) X.μ s0 sv s') (hs:Sat C k X.E s'.bs s'.nv)
  (hf:cx.P.funcs[f]?=some fn) (hcan:ze0 fn=true) (hdat:zlg cx f fn=true) {vs:Array Value} (hv:VRepL X args vs.toList) :
  Calls cx.P f vs X.w fun e w'=>∃ v,e=.returned v∧∃ X',Nx B0 X X' s'.up s0.ab s'.ab w'∧VRep X' sv v:=by
 unfold zl0 at h
 obtain ⟨as,s1,h1,h2⟩:=Run.bind h
 obtain ⟨x,s2,h3,h4⟩:=Run.bind h2
 obtain ⟨e1,e2⟩:=Run.pure h4
 subst e1 e2
 obtain ⟨ex,es⟩:=Run.call h3
 have hs1:Sat C k X.E s1.bs s1.nv:=h3.sat hs
 rw [es] at hs
 obtain ⟨n,en,⟨vs',rs,c1,c2,c3,c4⟩,_⟩:=hs
 have:n=s1.nv:=by simp only [Bd.outs] at en;omega
 subst this
 subst ex es
 obtain ⟨x1,m1,hup,hab,ds,hds,hdv⟩:=zht hB h1 hs1 (by rw [h0];exact m) (by rw [h0];exact hv)
 have hX:X.mv s0.up=X:=by rw [h0];rfl
 rw [hX] at x1
 rw [hds] at c1
 injection c1 with c1
 subst c1
 have fin:∀ (M:Nat→Prop),(∀ b,M b→b<X.w.heap.size)→DVals X.w M (zaH cx fn) ds vs.toList→(∀ w' rs' us,DVals w' M (zdc cx fn) rs' us→Keeps X.w w' (X.mv s1.up).M (X.mv s1.up).M→DVals w' (X.mv s1.up).M (zdc cx fn) rs' us) →
   Calls cx.P f vs X.w fun e w'=>∃ v,e=.returned v∧∃ X',Nx B0 X X' s1.up s0.ab s1.ab w'∧VRep X' (zrV (frozen (zdc cx fn) s1.nv)) v:=by
  intro M hM hdM hres
  refine (hC f fn ds rs hf hcan hdat c2 X.w vs M hM hdM).mono fun e w' ⟨v,he,hb,us,hus,hvu⟩=>?_
  refine ⟨v,he,?_⟩
  obtain ⟨x2,m2⟩:=m1.world (X:=X.mv s1.up) hB hb
  refine ⟨{ X.mv s1.up with w:=w' },⟨rfl,rfl,rfl,fun q=>⟨fun h=>.inl h,fun h=>h.elim id fun h=>by omega⟩,x1.trans x2,m2,hb.mono hB⟩,?_⟩
  rw [hvu]
  exact znC (zhv (X:={ X.mv s1.up with w:=w' }) (hres w' rs us hus x2.K) c4)
 cases hfl:Ty.flatL (zdc cx fn) with
 | true =>
  rw [hfl] at hdv
  exact fin (fun _=>False) (fun _ h=>h.elim) hdv fun w' rs' us h _=>h.flat hfl
 | false =>
  rw [hfl] at hdv
  exact fin (X.mv s1.up).M (fun b hb=>m1.lt' (X:=X.mv s1.up) hB hb) hdv fun w' rs' us h _=>h
end
end Go.SX
namespace Go.SX
section
variable {cx:Cx} {w:World} {M:Nat→Prop}
def EqD (cx:Cx) (w:World) (M:Nat→Prop) (dd:Nat) (t:TypeId):Prop :=
 ∀ d d' v v',DVal w M (cx.T t) d v→DVal w M (cx.T t) d' v'→(Op.equalIn dd t v v').run cx.P w=.ok (d.beq d') w
theorem zfC {l c1 c2:List Value}{n m:Nat}(h:l.drop n=c1++c2) (hm:c1.length=m):(l.drop n).take m=c1∧l.drop (n + m)=c2:=by
 constructor
 ·rw [h,← hm];simp
 ·rw [← List.drop_drop,h,← hm];simp
theorem zjl (ty:TysOk cx) {dd:Nat}{xs ys:Array Value}:∀ {fs:List Field}{n:Nat}{ds ds':List D},zeb cx.T fs n=true→(∀ f∈fs,f.name ≠ "_" ∧ (cx.T f.type).known=true∧EqD cx w M dd f.type) →
  DRepL w M (fs.map fun f=>cx.T f.type) ds (xs.toList.drop n)→DRepL w M (fs.map fun f=>cx.T f.type) ds' (ys.toList.drop n)→(Op.eqFields dd xs ys fs).run cx.P w=.ok (D.beqL ds ds') w
 | [],n,ds,ds',_,_,h,h'=>by
  cases ds<;>cases ds'<;>simp [DRepL] at h h'
  simp [Op.eqFields,D.beqL]
 | f::fs,n,ds,ds',ho,hf,h,h'=>by
  cases ds with
  | nil=>simp [DRepL] at h
  | cons d ds =>
   cases ds' with
   | nil=>simp [DRepL] at h'
   | cons d' ds' =>
    obtain ⟨c1,c2,e1,g1,g2⟩:=h
    obtain ⟨c1',c2',e1',g1',g2'⟩:=h'
    obtain ⟨hn,hk,hE⟩:=hf f (by simp)
    obtain ⟨i,tf⟩:=ty.get (T:=cx.T f.type) rfl (za7 hk)
    simp only [zeb,wD0] at ho
    have hoff:=zad ho.1
    obtain ⟨a1,a2⟩:=zfC e1 g1.length
    obtain ⟨b1,b2⟩:=zfC e1' g1'.length
    obtain ⟨v,r1,v1⟩:=zcX (w:=w) (M:=M) tf (cs:=xs) (off:=n) (d:=d) (by rw [a1];exact g1)
    obtain ⟨v',r2,v2⟩:=zcX (w:=w) (M:=M) tf (cs:=ys) (off:=n) (d:=d') (by rw [b1];exact g1')
    have r3:=hE d d' v v' v1 v2
    have ih:=zjl ty (dd:=dd) (fs:=fs) ho.2 (fun g hg=>hf g (by simp [hg])) (by rw [a2];exact g2) (by rw [b2];exact g2')
    simp only [Op.eqFields,hn,ne_eq,not_false_eq_true,if_true,Sem.run_bind,hoff,r1,r2,r3,Result.andThen_ok]
    simp only [D.beqL]
    cases d.beq d'
    ·simp
    ·simpa using ih
theorem zld (ty:TysOk cx) {dd:Nat}{t:TypeId}{i:TypeInfo}(tf:TyFact cx t (cx.T t) i) (hE:EqD cx w M dd t) {xs ys:Array Value}:∀ {m n:Nat}{ds ds':List D},ds.length=m→ds'.length=m →
  DRepA w M (cx.T t) ds (xs.toList.drop (n * (cx.T t).size))→DRepA w M (cx.T t) ds' (ys.toList.drop (n * (cx.T t).size))→(Op.eqItems dd t (cx.T t).size xs ys (List.range' n m)).run cx.P w=.ok (D.beqL ds ds') w
 | 0,n,ds,ds',hl,hl',h,h'=>by
  cases ds<;>cases ds'<;>simp at hl hl'
  simp [Op.eqItems,D.beqL]
 | m + 1,n,ds,ds',hl,hl',h,h'=>by
  cases ds with
  | nil=>simp at hl
  | cons d ds =>
   cases ds' with
   | nil=>simp at hl'
   | cons d' ds' =>
    obtain ⟨c1,c2,e1,g1,g2⟩:=h
    obtain ⟨c1',c2',e1',g1',g2'⟩:=h'
    obtain ⟨a1,a2⟩:=zfC e1 g1.length
    obtain ⟨b1,b2⟩:=zfC e1' g1'.length
    obtain ⟨v,r1,v1⟩:=zcX (w:=w) (M:=M) tf (cs:=xs) (off:=n * (cx.T t).size) (d:=d) (by rw [a1];exact g1)
    obtain ⟨v',r2,v2⟩:=zcX (w:=w) (M:=M) tf (cs:=ys) (off:=n * (cx.T t).size) (d:=d') (by rw [b1];exact g1')
    have r3:=hE d d' v v' v1 v2
    have en:(n + 1) * (cx.T t).size=n * (cx.T t).size + (cx.T t).size:=by rw [Nat.succ_mul]
    have ih:=zld ty tf hE (m:=m) (n:=n + 1) (ds:=ds) (ds':=ds') (by simpa using hl) (by simpa using hl') (by rw [en,a2];exact g2) (by rw [en,b2];exact g2')
    rw [List.range'_succ]
    simp only [Op.eqItems,Sem.run_bind,r1,r2,r3,Result.andThen_ok]
    simp only [D.beqL]
    cases d.beq d'
    ·simp
    ·simpa using ih
theorem zpZ (ty:TysOk cx) (d:Nat):∀ (m:Nat) (t:TypeId),eqOk cx m t=true→(cx.T t).known=true→EqD cx w M (d + m) t
 | 0,_,h,_=>by simp [eqOk] at h
 | m + 1,t,h,hk=>by
  intro x y v v' hv hv'
  obtain ⟨i,tf⟩:=ty.get (T:=cx.T t) rfl (za7 hk)
  have hdesc:=tf.desc
  rw [show d + (m + 1)=(d + m) + 1 from rfl]
  cases hT:cx.T t with
  | no=>rw [hT] at hk;simp [Ty.known] at hk
  | int k =>
   rw [hT] at hv hv' hdesc
   have hu:cx.P.underlying t=some (.int k):=hdesc
   obtain ⟨n1,rfl,rfl⟩:=hv.int
   obtain ⟨n2,rfl,rfl⟩:=hv'.int
   rw [run_equalIn_int w (d + m) t k k n1 n2 hu]
   simp only [D.beq,decide_true,Bool.true_and]
   rfl
  | bool =>
   rw [hT] at hv hv' hdesc
   have hu:cx.P.underlying t=some .bool:=hdesc
   obtain ⟨n1,rfl,rfl⟩:=hv.bool
   obtain ⟨n2,rfl,rfl⟩:=hv'.bool
   rw [run_equalIn_bool' w (d + m) t n1 n2 hu]
   rfl
  | str =>
   rw [hT] at hv hv' hdesc
   have hu:cx.P.underlying t=some .string:=hdesc
   obtain ⟨n1,rfl,rfl⟩:=hv.str
   obtain ⟨n2,rfl,rfl⟩:=hv'.str
   rw [run_equalIn_string w (d + m) t n1 n2 hu]
   simp only [D.beq,ByteArray.toList_eq]
   congr 1
   rw [Bool.eq_iff_iff]
   simp
  | sl e =>
   rw [hT] at hdesc
   obtain ⟨E,hu,_⟩:=hdesc
   simp [eqOk,hu] at h
  | st Ts =>
   rw [hT] at hv hv' hdesc
   obtain ⟨fs,hu,hTs,ho⟩:=hdesc
   simp only [eqOk,hu,wD0,Bool.not_eq_true'] at h
   unfold DVal at hv hv'
   simp only [Ty.isAgg,if_true] at hv hv'
   obtain ⟨cs,rfl,hv⟩:=hv
   obtain ⟨cs',rfl,hv'⟩:=hv'
   have hfs:cx.P.fieldsOf t=fs:=by simp [Program.fieldsOf,hu]
   rw [run_equalIn_struct w (d + m) t cs cs' (by rw [hfs];exact hu) h.1,hfs]
   cases x<;>simp only [DRep] at hv
   cases y<;>simp only [DRep] at hv'
   rename_i ds ds'
   simp only [D.beq]
   rw [hT] at hk
   simp only [Ty.known] at hk
   have hall:=h.2
   refine zjl ty (M:=M) (n:=0) ho (fun f hf=>?_) (by rw [← hTs];simpa using hv) (by rw [← hTs];simpa using hv')
   have hf':=List.all_eq_true.1 hall f hf
   simp only [wD0,Bool.not_eq_true',beq_eq_false_iff_ne] at hf'
   have hkf:(cx.T f.type).known=true:=by
    obtain ⟨j,hj,hj'⟩:=List.getElem_of_mem hf
    refine zeg (j:=j) hk ?_
    rw [hTs,List.getElem?_map,wF0 hj,hj']
    rfl
   exact ⟨hf'.1,hkf,zpZ ty d m f.type hf'.2 hkf⟩
  | arr n e =>
   rw [hT] at hv hv' hdesc
   obtain ⟨E,hu,hE⟩:=hdesc
   simp only [eqOk,hu] at h
   unfold DVal at hv hv'
   simp only [Ty.isAgg,if_true] at hv hv'
   obtain ⟨cs,rfl,hv⟩:=hv
   obtain ⟨cs',rfl,hv'⟩:=hv'
   rw [hT] at hk
   simp only [Ty.known] at hk
   rw [← hE] at hk
   obtain ⟨j,tfE⟩:=ty.get (T:=cx.T E) rfl (za7 hk)
   rw [run_equalIn_array w (d + m) cs cs' hu tfE.info]
   have hcell:cx.P.cellsOf E=(cx.T E).size:=by
    have:=tfE.size
    simp [Program.cellsOf,tfE.info,this]
   rw [hcell,List.range_eq_range']
   cases x<;>simp only [DRep] at hv
   cases y<;>simp only [DRep] at hv'
   rename_i ds ds'
   simp only [D.beq]
   rw [← hE] at hv hv'
   exact zld ty tfE (zpZ ty d m E h hk) hv.1 hv'.1 (by simpa using hv.2) (by simpa using hv'.2)
theorem zsE (ty:TysOk cx) {xt:TypeId}{T:Ty}{d d':D}{vx vy:Value}(ox oy:Operand) (hT:cx.T xt=T) (ha:T.isAgg=true) (hkn:T.known=true) (hg:cx.P.eqGuardType cx.P.depth xt=false) (he:eqOk cx 20 xt=true)
  (hx:DVal w M T d vx) (hy:DVal w M T d' vy) :
  (do eqGuard .eql xt ox oy vx vy;binOp .eql xt vx vy:Sem Value).run cx.P w=.ok (.bool (d.beq d')) w∧(do eqGuard .neq xt ox oy vx vy;binOp .neq xt vx vy:Sem Value).run cx.P w=.ok (.bool (!(d.beq d'))) w:=by
 subst hT
 have main:=zpZ (w:=w) (M:=M) ty 9980 20 xt he hkn d d' vx vy hx hy
 unfold DVal at hx hy
 simp only [ha,if_true] at hx hy
 obtain ⟨cs,rfl,_⟩:=hx
 obtain ⟨cs',rfl,_⟩:=hy
 have main:(Op.equalIn 10000 xt (.agg cs) (.agg cs')).run cx.P w=.ok (d.beq d') w:=main
 constructor
 ·simp only [Sem.run_bind,run_eqGuard_agg w .eql xt ox oy cs cs' hg,Result.andThen_ok,run_eql_struct,main]
 ·simp only [Sem.run_bind,run_eqGuard_agg w .neq xt ox oy cs cs' hg,Result.andThen_ok,run_neq_struct,main]
end
end Go.SX
namespace Go.SX
open Go.MapKept
open Go.RowKit (Below)
mutual
theorem D.beq_to:∀ {a b:D},a.beq b=true→a=b
 | .int k n,b,h=>by
  cases b<;>simp only [D.beq,wA0,wD0,decide_eq_true_eq] at h
  rw [h.1,h.2]
 | .bool x,b,h=>by
  cases b<;>simp only [D.beq,wA0,beq_iff_eq] at h
  rw [h]
 | .str s,b,h=>by
  cases b<;>simp only [D.beq,wA0,decide_eq_true_eq] at h
  rename_i t
  obtain ⟨⟨s⟩⟩:=s
  obtain ⟨⟨t⟩⟩:=t
  simp only at h
  rw [h]
 | .agg l,b,h=>by
  cases b<;>simp only [D.beq,wA0] at h
  rw [D.beqL_to h]
 | .sl l,b,h=>by
  cases b<;>simp only [D.beq,wA0] at h
  rw [D.beqL_to h]
 | .nil,b,h=>by
  cases b<;>simp only [D.beq,wA0] at h
  rfl
theorem D.beqL_to:∀ {a b:List D},D.beqL a b=true→a=b
 | [],b,h=>by
  cases b<;>simp only [D.beqL,wA0] at h
  rfl
 | x::l,b,h=>by
  cases b<;>simp only [D.beqL,wA0,wD0] at h
  rw [D.beq_to h.1,D.beqL_to h.2]
end
def Plain (v:Value):Prop:=(∃ k n,v=.int k n)∨(∃ b,v=.bool b)∨∃ s,v=.string s
mutual
theorem ziG {w:World}{M:Nat→Prop}:∀ {T:Ty}{d:D}{cs cs':List Value},T.flat=true→DRep w M T d cs→DRep w M T d cs'→cs=cs'∧∀ v∈cs,Plain v
 | T,.int k n,cs,cs',hf,h,h'=>by
  cases T<;>simp only [DRep] at h h'
  obtain ⟨_,h⟩:=h
  obtain ⟨_,h'⟩:=h'
  subst h h'
  exact ⟨rfl,fun v hv=>.inl ⟨_,n,by simpa using hv⟩⟩
 | T,.bool b,cs,cs',hf,h,h'=>by
  cases T<;>simp only [DRep] at h h'
  subst h h'
  exact ⟨rfl,fun v hv=>.inr (.inl ⟨b,by simpa using hv⟩)⟩
 | T,.str s,cs,cs',hf,h,h'=>by
  cases T<;>simp only [DRep] at h h'
  subst h h'
  exact ⟨rfl,fun v hv=>.inr (.inr ⟨s,by simpa using hv⟩)⟩
 | T,.nil,cs,cs',hf,h,h'=>by
  cases T<;>simp only [DRep] at h h'
  simp [Ty.flat] at hf
 | T,.sl ds,cs,cs',hf,h,h'=>by
  cases T<;>simp only [DRep] at h h'
  simp [Ty.flat] at hf
 | T,.agg ds,cs,cs',hf,h,h'=>by
  cases T<;>simp only [DRep] at h h'
  ·simp only [Ty.flat] at hf
   exact znG hf h h'
  ·simp only [Ty.flat] at hf
   exact zmK hf h.2 h'.2
theorem znG {w:World}{M:Nat→Prop}:∀ {Ts:List Ty}{ds:List D}{cs cs':List Value},Ty.flatL Ts=true→DRepL w M Ts ds cs→DRepL w M Ts ds cs'→cs=cs'∧∀ v∈cs,Plain v
 | [],[],cs,cs',_,h,h'=>by
  simp only [DRepL] at h h'
  subst h h'
  exact ⟨rfl,by simp⟩
 | T::Ts,d::ds,cs,cs',hf,h,h'=>by
  simp only [Ty.flatL,wD0] at hf
  simp only [DRepL] at h h'
  obtain ⟨c1,c2,rfl,h1,h2⟩:=h
  obtain ⟨c1',c2',rfl,h1',h2'⟩:=h'
  obtain ⟨e1,p1⟩:=ziG hf.1 h1 h1'
  obtain ⟨e2,p2⟩:=znG hf.2 h2 h2'
  exact ⟨by rw [e1,e2],fun v hv=>(List.mem_append.1 hv).elim (p1 v) (p2 v)⟩
 | [],_::_,_,_,_,h,_=>by simp only [DRepL] at h
 | _::_,[],_,_,_,h,_=>by simp only [DRepL] at h
theorem zmK {w:World}{M:Nat→Prop}:∀ {e:Ty}{ds:List D}{cs cs':List Value},e.flat=true→DRepA w M e ds cs→DRepA w M e ds cs'→cs=cs'∧∀ v∈cs,Plain v
 | e,[],cs,cs',_,h,h'=>by
  simp only [DRepA] at h h'
  subst h h'
  exact ⟨rfl,by simp⟩
 | e,d::ds,cs,cs',hf,h,h'=>by
  simp only [DRepA] at h h'
  obtain ⟨c1,c2,rfl,h1,h2⟩:=h
  obtain ⟨c1',c2',rfl,h1',h2'⟩:=h'
  obtain ⟨e1,p1⟩:=ziG hf h1 h1'
  obtain ⟨e2,p2⟩:=zmK hf h2 h2'
  exact ⟨by rw [e1,e2],fun v hv=>(List.mem_append.1 hv).elim (p1 v) (p2 v)⟩
end
theorem Plain.same {v:Value}(h:Plain v) (n:Nat):Instr.sameBits n v v=true:=by
 rcases h with ⟨k,m,rfl⟩|⟨b,rfl⟩|⟨s,rfl⟩<;>cases n<;>simp [Instr.sameBits,bytes_beq]
theorem ztg {w:World}{M:Nat→Prop}{T:Ty}{d:D}{v v':Value}(hf:T.flat=true) (h:DVal w M T d v) (h':DVal w M T d v'):v=v'∧Instr.sameBits 10000 v' v=true:=by
 unfold DVal at h h'
 split at h
 ·rename_i ha
  rw [if_pos ha] at h'
  obtain ⟨cs,rfl,h⟩:=h
  obtain ⟨cs',rfl,h'⟩:=h'
  obtain ⟨e,p⟩:=ziG hf h h'
  have e:cs=cs':=by
   apply Array.ext'
   exact e
  subst e
  refine ⟨rfl,?_⟩
  have hall:∀ l:List Value,(∀ v∈l,Plain v)→((l.zip l).all fun (x,y)=>Instr.sameBits 9999 x y)=true:=by
   intro l
   induction l with
   | nil=>intro _;rfl
   | cons a l ih =>
    intro hp
    simp only [List.zip_cons_cons,List.all_cons,(hp a (by simp)).same,Bool.true_and]
    exact ih fun v hv=>hp v (by simp [hv])
  show (cs.size==cs.size&&_)=true
  rw [hall cs.toList p]
  simp
 ·rename_i ha
  rw [if_neg ha] at h'
  obtain ⟨e,p⟩:=ziG hf h.2 h'.2
  injection e with e
  subst e
  exact ⟨rfl,(p v (by simp)).same _⟩
section
variable {cx:Cx} {w:World} {M:Nat→Prop}
theorem zge (ty:TysOk cx) (em:Bool) (d:Nat):∀ (m:Nat) (t:TypeId),eqOk cx m t=true→(cx.T t).known=true→∀ (x:D) (v:Value),DVal w M (cx.T t) x v→(Instr.checkKey em (d + m) t v).run cx.P w=.ok () w
 | 0,_,h,_,_,_,_=>by simp [eqOk] at h
 | m + 1,t,h,hk,x,v,hv=>by
  obtain ⟨i,tf⟩:=ty.get (T:=cx.T t) rfl (za7 hk)
  have hdesc:=tf.desc
  rw [show d + (m + 1)=(d + m) + 1 from rfl]
  cases hT:cx.T t with
  | no=>rw [hT] at hk;simp [Ty.known] at hk
  | int k =>
   rw [hT] at hv hdesc
   have hu:cx.P.underlying t=some (.int k):=hdesc
   obtain ⟨n1,rfl,rfl⟩:=hv.int
   unfold Instr.checkKey
   simp [zab hu]
  | bool =>
   rw [hT] at hv hdesc
   have hu:cx.P.underlying t=some .bool:=hdesc
   obtain ⟨n1,rfl,rfl⟩:=hv.bool
   unfold Instr.checkKey
   simp [zab hu]
  | str =>
   rw [hT] at hv hdesc
   have hu:cx.P.underlying t=some .string:=hdesc
   obtain ⟨n1,rfl,rfl⟩:=hv.str
   unfold Instr.checkKey
   simp [zab hu]
  | sl e =>
   rw [hT] at hdesc
   obtain ⟨E,hu,_⟩:=hdesc
   simp [eqOk,hu] at h
  | st Ts =>
   rw [hT] at hv hdesc
   obtain ⟨fs,hu,hTs,ho⟩:=hdesc
   simp only [eqOk,hu,wD0,Bool.not_eq_true'] at h
   unfold DVal at hv
   simp only [Ty.isAgg,if_true] at hv
   obtain ⟨cs,rfl,hv⟩:=hv
   cases x<;>simp only [DRep] at hv
   rename_i ds
   rw [hT] at hk
   simp only [Ty.known] at hk
   have hall:=h.2
   unfold Instr.checkKey
   simp only [Sem.run_bind,zab hu,Result.andThen_ok]
   rw [← Array.forIn_toList]
   have deep:∀ f∈fs.toList,f.name ≠ "_" ∧ (cx.T f.type).known=true∧eqOk cx m f.type=true:=fun f hf=>by
    have hf':=List.all_eq_true.1 hall f hf
    simp only [wD0,Bool.not_eq_true',beq_eq_false_iff_ne] at hf'
    have hkf:(cx.T f.type).known=true:=by
     obtain ⟨j,hj,hj'⟩:=List.getElem_of_mem hf
     refine zeg (j:=j) hk ?_
     rw [hTs,List.getElem?_map,wF0 hj,hj']
     rfl
    exact ⟨hf'.1,hkf,hf'.2⟩
   have main:∀ (L:List Field) (n:Nat) (ds:List D),zeb cx.T L n=true→(∀ f∈L,f.name ≠ "_" ∧ (cx.T f.type).known=true∧eqOk cx m f.type=true)→DRepL w M (L.map fun f=>cx.T f.type) ds (cs.toList.drop n) →
     (forIn L PUnit.unit (fun f _=>(do
      if f.name ≠ "_" then Instr.checkKey em (d + m) f.type (← part f.type cs f.offset)
      pure (ForInStep.yield PUnit.unit):Sem (ForInStep PUnit)))).run cx.P w=.ok PUnit.unit w:=by
    intro L
    induction L with
    | nil=>intro n ds _ _ _;simp
    | cons f L ih =>
     intro n ds ho hd hr
     cases ds with
     | nil=>simp [DRepL] at hr
     | cons d0 ds =>
      obtain ⟨c1,c2,e1,g1,g2⟩:=hr
      obtain ⟨hn,hkf,hef⟩:=hd f (by simp)
      obtain ⟨i,tf⟩:=ty.get (T:=cx.T f.type) rfl (za7 hkf)
      simp only [zeb,wD0] at ho
      have hoff:=zad ho.1
      obtain ⟨a1,a2⟩:=zfC e1 g1.length
      obtain ⟨v,r1,v1⟩:=zcX (w:=w) (M:=M) tf (cs:=cs) (off:=n) (d:=d0) (by rw [a1];exact g1)
      have r2:=zge ty em d m f.type hef hkf d0 v v1
      have:=ih _ ds ho.2 (fun g hg=>hd g (by simp [hg])) (by rw [a2];exact g2)
      simp only [List.forIn_cons,Sem.run_bind,hn,ne_eq,not_false_eq_true,if_true,Result.andThen_ok,hoff,r1,r2,Sem.run_pure]
      simpa using this
   exact congrArg (fun (r:Result PUnit)=>r.andThen fun _ w'=>(pure ():Sem Unit).run cx.P w') (main fs.toList 0 ds ho deep (by rw [← hTs];simpa using hv))
  | arr n e =>
   rw [hT] at hv hdesc
   obtain ⟨E,hu,hE⟩:=hdesc
   simp only [eqOk,hu] at h
   unfold DVal at hv
   simp only [Ty.isAgg,if_true] at hv
   obtain ⟨cs,rfl,hv⟩:=hv
   rw [hT] at hk
   simp only [Ty.known] at hk
   rw [← hE] at hk
   obtain ⟨j,tfE⟩:=ty.get (T:=cx.T E) rfl (za7 hk)
   cases x<;>simp only [DRep] at hv
   rename_i ds
   rw [← hE] at hv
   unfold Instr.checkKey
   simp only [Sem.run_bind,zab hu,Result.andThen_ok]
   simp only [Std.Legacy.Range.forIn_eq_forIn_range',Std.Legacy.Range.size,Nat.sub_zero,Nat.add_one_sub_one,Nat.div_one]
   have main:∀ (m' n':Nat) (ds:List D),ds.length=m'→DRepA w M (cx.T E) ds (cs.toList.drop (n' * (cx.T E).size)) →
     (forIn (List.range' n' m') PUnit.unit (fun i _=>(do
      Instr.checkKey em (d + m) E (← part E cs (i * (← sizeOf E)))
      pure (ForInStep.yield PUnit.unit):Sem (ForInStep PUnit)))).run cx.P w=.ok PUnit.unit w:=by
    intro m'
    induction m' with
    | zero=>intro n' ds _ _;simp
    | succ m' ih =>
     intro n' ds hl hr
     cases ds with
     | nil=>simp at hl
     | cons d0 ds =>
      obtain ⟨c1,c2,e1,g1,g2⟩:=hr
      obtain ⟨a1,a2⟩:=zfC e1 g1.length
      obtain ⟨v,r1,v1⟩:=zcX (w:=w) (M:=M) tfE (cs:=cs) (off:=n' * (cx.T E).size) (d:=d0) (by rw [a1];exact g1)
      have r2:=zge ty em d m E h hk d0 v v1
      have en:(n' + 1) * (cx.T E).size=n' * (cx.T E).size + (cx.T E).size:=by rw [Nat.succ_mul]
      have:=ih (n' + 1) ds (by simpa using hl) (by rw [en,a2];exact g2)
      have hsz:j.size=(cx.T E).size:=tfE.size
      simp only [List.range'_succ,List.forIn_cons,Sem.run_bind,zbf tfE.info,Result.andThen_ok,hsz,r1,r2,Sem.run_pure]
      simpa using this
   exact congrArg (fun (r:Result PUnit)=>r.andThen fun _ w'=>(pure ():Sem Unit).run cx.P w') (main n 0 ds hv.1 (by simpa using hv.2))
def Found (w:World) (M:Nat→Prop) (K V:Ty) (k:D) (l:List D) (es:List MapEntry) (i:Nat) (o:Option D) (r:Option (Nat×Value)):Prop :=
 zoq k l=some o∧((o=none∧r=none∧∀ (d:D) (vk vd:Value) (c:Nat),MVal w M K k vk→MVal w M V d vd→∃ l',zkD k d l=some l'∧MapEnts w M K V l' (es++[⟨vk,vd,c⟩])) ∨
  ∃ j e d0,o=some d0∧r=some (i + j,e)∧MVal w M V d0 e∧(∃ x,es[j]?=some x∧MVal w M K k x.key) ∧
   ∀ (d:D) (vk vd:Value) (f:MapEntry→MapEntry),MVal w M K k vk→MVal w M V d vd→(∀ x,(f x).key=vk∧(f x).val=vd)→∃ l',zkD k d l=some l'∧MapEnts w M K V l' (es.modify j f))
theorem Found.nil {K V:Ty}{k:D}{i:Nat}:Found w M K V k [] [] i none none :=
 ⟨rfl,.inl ⟨rfl,rfl,fun d vk vd c h1 h2=>⟨_,rfl,⟨k,d,rfl,h1,h2⟩,trivial⟩⟩⟩
theorem Found.hit {K V:Ty}{k k' v':D}{l:List D}{e:MapEntry}{es:List MapEntry}{i:Nat}(hb:k.beq k'=true) (h1:MVal w M K k' e.key) (h2:MVal w M V v' e.val) (h3:MapEnts w M K V l es):Found w M K V k (.agg [k',v']::l) (e::es) i (some v') (some (i,e.val)):=by
 have:=D.beq_to hb
 subst this
 refine ⟨by simp only [zoq,hb,if_true],.inr ⟨0,e.val,v',rfl,rfl,h2,⟨e,rfl,h1⟩,fun d vk vd f g1 g2 g3=>⟨.agg [k,d]::l,by simp only [zkD,hb,if_true],?_⟩⟩⟩
 simp only [List.modify_zero_cons]
 exact ⟨⟨k,d,rfl,(g3 e).1▸g1,(g3 e).2▸g2⟩,h3⟩
theorem Found.step {K V:Ty}{k k' v':D}{l:List D}{e:MapEntry}{es:List MapEntry}{i:Nat}{o:Option D}{r:Option (Nat×Value)}(hb:k.beq k'=false) (h1:MVal w M K k' e.key) (h2:MVal w M V v' e.val) (h:Found w M K V k l es (i + 1) o r):Found w M K V k (.agg [k',v']::l) (e::es) i o r:=by
 obtain ⟨h0,h⟩:=h
 refine ⟨by simpa only [zoq,hb,wA0,if_false] using h0,?_⟩
 rcases h with ⟨p1,p2,p3⟩|⟨j,e',d0,p1,p2,p3,⟨x,p4,p5⟩,p6⟩
 ·refine .inl ⟨p1,p2,fun d vk vd c g1 g2=>?_⟩
  obtain ⟨l',q1,q2⟩:=p3 d vk vd c g1 g2
  exact ⟨.agg [k',v']::l',by simp only [zkD,hb,wA0,if_false,q1],⟨k',v',rfl,h1,h2⟩,q2⟩
 ·refine .inr ⟨j + 1,e',d0,p1,by rw [p2,show i + 1 + j=i + (j + 1) by omega],p3,⟨x,by simpa using p4,p5⟩,fun d vk vd f g1 g2 g3=>?_⟩
  obtain ⟨l',q1,q2⟩:=p6 d vk vd f g1 g2 g3
  refine ⟨.agg [k',v']::l',by simp only [zkD,hb,wA0,if_false,q1],?_⟩
  simp only [List.modify_succ_cons]
  exact ⟨⟨k',v',rfl,h1,h2⟩,q2⟩
def qOk:TypeDesc→Bool|.int _=>true|.bool=>true|.string=>true|_=>false
def qTy:TypeDesc→Ty|.int k=>.int k|.bool=>.bool|.string=>.str|_=>.no
theorem zls {q:TypeDesc}(hq:qOk q=true) {K V:Ty}(hK:K=qTy q) {k:D}{v:Value}(hk:DVal w M K k v) :
  ∀ {l:List D} {es:List MapEntry} (i:Nat),MapEnts w M K V l es→∃ o r,Found w M K V k l es i o r∧Instr.findNow q v es i=some r
 | [],[],i,_=>⟨none,none,Found.nil,rfl⟩
 | d::l,e::es,i,h=>by
  obtain ⟨⟨k',v',rfl,h1,h2⟩,h3⟩:=h
  have hsame:Instr.sameNow q v e.key=some (k.beq k'):=by
   cases q<;>simp only [qOk,wA0] at hq
   ·subst hK
    obtain ⟨n1,rfl,rfl⟩:=hk.bool
    obtain ⟨n2,rfl,e2⟩:=DVal.bool (M:=M) (w:=w) h1
    rw [e2]
    rfl
   ·subst hK
    obtain ⟨n1,rfl,rfl⟩:=hk.int
    obtain ⟨n2,rfl,e2⟩:=DVal.int (M:=M) (w:=w) h1
    rw [e2]
    simp only [Instr.sameNow,if_true,D.beq,decide_true,Bool.true_and]
    rfl
   ·subst hK
    obtain ⟨n1,rfl,rfl⟩:=hk.str
    obtain ⟨n2,rfl,e2⟩:=DVal.str (M:=M) (w:=w) h1
    rw [e2]
    simp only [Instr.sameNow,D.beq]
    congr 1
    rw [Bool.eq_iff_iff,bytes_beq,decide_eq_true_eq]
    constructor
    ·intro h;rw [h]
    ·intro h
     obtain ⟨⟨a⟩⟩:=n1
     obtain ⟨⟨b⟩⟩:=n2
     simp only at h
     rw [h]
  simp only [Instr.findNow,hsame]
  cases hb:k.beq k' with
  | true=>exact ⟨_,_,Found.hit hb h1 h2 h3,rfl⟩
  | false =>
   obtain ⟨o,r,o1,o2⟩:=zls hq hK hk (i + 1) h3
   exact ⟨o,r,Found.step hb h1 h2 o1,o2⟩
 | [],_::_,_,h=>h.elim
 | _::_,[],_,h=>h.elim
theorem zgR {kt:TypeId}{K V:Ty}{k:D}{v:Value}(heq:∀ k' v',DVal w M K k' v'→(Op.equal kt v v').run cx.P w=.ok (k.beq k') w) :
  ∀ {l:List D} {es:List MapEntry} (i:Nat),MapEnts w M K V l es→∃ o r,Found w M K V k l es i o r∧(Instr.findAsking kt v es i).run cx.P w=.ok r w
 | [],[],i,_=>⟨none,none,Found.nil,by simp [Instr.findAsking]⟩
 | d::l,e::es,i,h=>by
  obtain ⟨⟨k',v',rfl,h1,h2⟩,h3⟩:=h
  have hsame:=heq k' e.key h1
  simp only [Instr.findAsking,Sem.run_bind,hsame,Result.andThen_ok]
  cases hb:k.beq k' with
  | true=>exact ⟨_,_,Found.hit hb h1 h2 h3,by simp⟩
  | false =>
   obtain ⟨o,r,o1,o2⟩:=zgR heq (i + 1) h3
   exact ⟨o,r,Found.step hb h1 h2 o1,by simpa using o2⟩
 | [],_::_,_,h=>h.elim
 | _::_,[],_,h=>h.elim
theorem zro (ty:TysOk cx) {kt:TypeId}{V:Ty}(he:eqOk cx 20 kt=true) (hkn:(cx.T kt).known=true) {k:D}{v:Value}(hk:DVal w M (cx.T kt) k v) {l:List D}{es:List MapEntry}(h:MapEnts w M (cx.T kt) V l es) :
  ∃ o r,Found w M (cx.T kt) V k l es 0 o r∧(Instr.findKey kt v es).run cx.P w=.ok r w:=by
 obtain ⟨i,tf⟩:=ty.get (T:=cx.T kt) rfl (za7 hkn)
 have hdesc:=tf.desc
 have plain:∀ {q:TypeDesc},cx.P.underlying kt=some q→qOk q=true→cx.T kt=qTy q →
   ∃ o r,Found w M (cx.T kt) V k l es 0 o r∧(Instr.findKey kt v es).run cx.P w=.ok r w:=fun {q} hu hq hK=>by
  obtain ⟨o,r,o1,o2⟩:=zls (w:=w) (M:=M) (V:=V) hq hK hk 0 h
  exact ⟨o,r,o1,by simp [Instr.findKey,zab hu,o2]⟩
 have deep:(∀ q,cx.P.underlying kt=some q→∀ a b,Instr.sameNow q a b=none)→(∃ q,cx.P.underlying kt=some q)→∃ o r,Found w M (cx.T kt) V k l es 0 o r∧(Instr.findKey kt v es).run cx.P w=.ok r w:=fun hno ⟨q,hu⟩=>by
  cases es with
  | nil =>
   cases l with
   | cons _ _=>exact h.elim
   | nil=>exact ⟨none,none,Found.nil,by simp [Instr.findKey,zab hu,Instr.findNow]⟩
  | cons e es =>
   obtain ⟨o,r,o1,o2⟩:=zgR (cx:=cx) (w:=w) (M:=M) (kt:=kt) (K:=cx.T kt) (V:=V) (k:=k) (v:=v) (fun k' v' hk'=>zpZ (w:=w) (M:=M) ty 9980 20 kt he hkn k k' v v' hk hk') 0 h
   have hn:Instr.findNow q v (e::es) 0=none:=by simp [Instr.findNow,hno q hu]
   exact ⟨o,r,o1,by simpa [Instr.findKey,zab hu,hn] using o2⟩
 cases hT:cx.T kt with
 | no=>rw [hT] at hkn;simp [Ty.known] at hkn
 | int kk =>
  rw [hT] at hdesc
  have hu:cx.P.underlying kt=some (.int kk):=hdesc
  rw [← hT]
  exact plain hu rfl hT
 | bool =>
  rw [hT] at hdesc
  have hu:cx.P.underlying kt=some .bool:=hdesc
  rw [← hT]
  exact plain hu rfl hT
 | str =>
  rw [hT] at hdesc
  have hu:cx.P.underlying kt=some .string:=hdesc
  rw [← hT]
  exact plain hu rfl hT
 | sl e =>
  rw [hT] at hdesc
  obtain ⟨E,hu,_⟩:=hdesc
  simp [eqOk,hu] at he
 | st Ts =>
  rw [hT] at hdesc
  obtain ⟨fs,hu,_⟩:=hdesc
  rw [← hT]
  exact deep (fun q hq a b=>by rw [hu] at hq;injection hq with hq;subst hq;rfl) ⟨_,hu⟩
 | arr n e =>
  rw [hT] at hdesc
  obtain ⟨E,hu,_⟩:=hdesc
  rw [← hT]
  exact deep (fun q hq a b=>by rw [hu] at hq;injection hq with hq;subst hq;rfl) ⟨_,hu⟩
end
section
variable {C:FuncId→List D→Option (List D)} {k B0:Nat} {X:Ctx} {cx:Cx}
structure zsV (cx:Cx) (k e:TypeId) (K V:Ty):Prop where
 eK:K=cx.T k
 eV:V=cx.T e
 fK:K.flat=true
 kK:K.known=true
 fV:V.flat=true
 kV:V.known=true
 eq:eqOk cx 20 k=true
theorem zkY {k e:TypeId}{K V:Ty}(h:zsP cx k e K V=true):zsV cx k e K V:=by
 unfold zsP at h
 simp only [wD0] at h
 obtain ⟨⟨⟨⟨⟨⟨h1,h2⟩,h3⟩,h4⟩,h5⟩,h6⟩,h7⟩:=h
 exact ⟨Ty.beq_eq h1,Ty.beq_eq h2,h3,h4,h5,h6,h7⟩
theorem zjO {K V:Ty}{r:Nat}{a:At}{μ:Nat→Root}{σ σ':SS}(h:Run (ztf K V r) μ σ a σ'):σ'=σ∧now μ σ.up r=.mp K V a:=by
 unfold ztf at h
 obtain ⟨RR,s1,h1,h2⟩:=Run.bind h
 obtain ⟨e1,e2⟩:=Run.root h1
 subst e2
 split at h2
 ·rename_i K' V' a'
  obtain ⟨_,s2,h3,h4⟩:=Run.bind h2
  obtain ⟨hg,es⟩:=Run.guard h3
  subst es
  simp only [wD0] at hg
  obtain ⟨e3,e4⟩:=Run.pure h4
  subst e3 e4
  have:=Ty.beq_eq hg.1
  have:=Ty.beq_eq hg.2
  subst_vars
  exact ⟨rfl,e1.symm⟩
 ·exact (Run.fail h2).elim
theorem zop (hB:B0≤X.w.heap.size) (m:Mem B0 X) {t:TypeId}{n:Bool}{sv:SV}{s0 s':SS}(hfr:∀ r,s0.ab≤r→r<s'.ab→¬ X.A r) (h0:s0.up=[]) (h:Run (zgm cx t n) X.μ s0 sv s') {r0:Option Value}(hn:n=r0.isNone) :
  Acts cx.P B0 X (Instr.makeMap t r0) s0 s' fun X' v=>VRep X' sv v:=by
 unfold zgm at h
 obtain ⟨_,s1,h1,h2⟩:=Run.bind h
 obtain ⟨hg,es⟩:=Run.guard h1
 subst es
 rw [hg] at hn
 cases r0 with
 | some _=>cases hn
 | none =>
  split at h2
  ·rename_i kt et hu
   obtain ⟨_,s2,h3,h4⟩:=Run.bind h2
   obtain ⟨hk,es⟩:=Run.guard h3
   subst es
   obtain ⟨r,s3,h5,h6⟩:=Run.bind h4
   obtain ⟨er,es⟩:=Run.new h5
   obtain ⟨e1,e2⟩:=Run.pure h6
   subst es
   subst e1 e2
   have hnA:¬ X.A r:=hfr r (by dsimp only at *;omega) (by dsimp only at *;omega)
   have hb:Below X.w.heap.size X.w (X.w.alloc (.map #[] 0)):=(Below.refl _ _).alloc (wG0 _) _
   have hnew:=m.grow hB hnA hb (R:=.mp (cx.T kt) (cx.T et) (.c (.sl []))) (p:=⟨some X.w.heap.size,[]⟩) (fun b hb=>by simp [Root.own] at hb;omega) (by simp [Root.own])
    (fun x=>⟨[],X.w.heap.size,#[],0,rfl,by simp [Ctx.grown,upd_same],heap_alloc_new X.w _,trivial⟩)
   refine ⟨.map (some X.w.heap.size),X.w.alloc (.map #[] 0),_,rfl,Nx.grown (up:=[]) (Ext.refl X) hb hB hnew (by rw [h0,er]) er rfl rfl,?_⟩
   simp only [VRep,Ref]
   exact ⟨.inr rfl,X.w.heap.size,rfl,by simp [Ctx.grown,upd_same]⟩
  ·exact (Run.fail h2).elim
theorem zqz (ty:TysOk cx) (m:Mem B0 X) {kt et:TypeId}{K V:Ty}(kf:zsV cx kt et K V) {r:Nat}{a ai:At}(hA:X.A r) (hR:X.μ r=.mp K V a) {b:Nat}(hb:(X.β r).main=some b) {d:D}{vi:Value}(hv:DVal X.w (fun _=>False) K d vi) :
  ∃ l es clk,a.get X.E=some (.sl l)∧X.w.heap[b]?=some (.map es clk)∧MapEnts X.w X.M K V l es.toList∧DVal X.w X.M K d vi∧(∀ em,(Instr.checkKey em 10000 kt vi).run cx.P X.w=.ok () X.w) ∧
   ∃ o q,Found X.w X.M K V d l es.toList 0 o q∧(Instr.findKey kt vi es.toList).run cx.P X.w=.ok q X.w:=by
 have hrep:=m.rep r hA
 rw [hR] at hrep
 obtain ⟨l,b',es,clk,h1,h2,h3,h4⟩:=hrep
 rw [hb] at h2
 injection h2 with h2
 subst h2
 have hv':DVal X.w X.M K d vi:=hv.flat kf.fK
 have hK:=kf.eK
 subst hK
 exact ⟨l,es,clk,h1,h3,h4,hv',fun em=>zge ty em 9980 20 kt kf.eq kf.kK d vi hv',zro ty kf.eq kf.kK hv' h4⟩
theorem zow (ty:TysOk cx) (hB:B0≤X.w.heap.size) (m:Mem B0 X) {t:TypeId}{x ix sv:SV}{ok:Bool}{s0 s':SS}(h0:s0.up=[]) (h:Run (zhL cx t x ix ok) X.μ s0 sv s') (hs:Sat C k X.E s'.bs s'.nv) {vx vi:Value}(hvx:VRep X x vx) (hvi:VRep X ix vi) :
  Acts cx.P B0 X (Instr.lookup t vx vi ok) s0 s' fun X' v=>VRep X' sv v:=by
 unfold zhL at h
 split at h
 ·rename_i kt et K V r hu
  obtain ⟨_,s1,h1,h2⟩:=Run.bind h
  obtain ⟨hg,es⟩:=Run.guard h1
  subst es
  have kf:=zkY hg
  obtain ⟨a,s2,h3,h4⟩:=Run.bind h2
  obtain ⟨es,hR⟩:=zjO h3
  subst es
  rw [h0,zar] at hR
  obtain ⟨ai,s3,h5,h6⟩:=Run.bind h4
  obtain ⟨vv,s4,h7,h8⟩:=Run.bind h6
  simp only [VRep,Ref] at hvx
  obtain ⟨hA,b,hve,hb⟩:=hvx
  subst hve
  have hs4:Sat C k X.E s4.bs s4.nv:=by
   cases ok with
   | true =>
    obtain ⟨bb,s5,h9,h10⟩:=Run.bind h8
    obtain ⟨e1,e2⟩:=Run.pure h10
    subst e1 e2
    exact h9.sat hs
   | false =>
    obtain ⟨e1,e2⟩:=Run.pure h8
    subst e1 e2
    exact hs
  obtain ⟨u1,u2,d,hd,hdv⟩:=zgb hB m h0 h5 (h7.sat hs4) hvi
  obtain ⟨⟨ml,mk,mv,q1,q2,q3,q4⟩,q5,q6⟩:=Run.op2 h7 hs4
  obtain ⟨l,es,clk,g1,g2,g3,g4,g5,o,q,g6,g7⟩:=zqz ty m kf (ai:=ai) hA hR hb hdv
  rw [g1] at q1
  rw [hd] at q2
  injection q1 with q1
  injection q2 with q2
  subst q1 q2
  simp only [Prim.run,D.els,g6.1,wB0] at q3
  obtain ⟨i,tf⟩:=ty.get (T:=cx.T et) rfl (by rw [← kf.eV];exact za7 kf.kV)
  obtain ⟨z,hz,_,hzd⟩:=zfz tf (w:=X.w)
  have hval:∃ v,DVal X.w X.M V mv v∧(Instr.lookup t (.map (some b)) vi ok).run cx.P X.w=.ok (if ok then .tuple #[v,.bool o.isSome] else v) X.w:=by
   rcases g6.2 with ⟨p1,p2,_⟩|⟨j,e,d0,p1,p2,p3,_⟩
   ·subst p1 p2
    refine ⟨z,?_,?_⟩
    ·rw [← q3,kf.eV];exact hzd _ _
    ·simp only [Instr.lookup,Sem.run_bind,zab hu,Result.andThen_ok,MapKept.run_getObj_map g2,g5,g7,hz,Sem.run_pure]
     cases ok<;>rfl
   ·subst p1 p2
    refine ⟨e,?_,?_⟩
    ·rw [← q3];exact p3
    ·simp only [Instr.lookup,Sem.run_bind,zab hu,Result.andThen_ok,MapKept.run_getObj_map g2,g5,g7,Sem.run_pure]
     cases ok<;>rfl
  obtain ⟨v,hv1,hv2⟩:=hval
  cases ok with
  | true =>
   obtain ⟨bb,s5,h9,h10⟩:=Run.bind h8
   obtain ⟨e1,e2⟩:=Run.pure h10
   subst e1 e2
   obtain ⟨⟨ml',mk',bv,w1,w2,w3,w4⟩,w5,w6⟩:=Run.op2 h9 hs
   rw [g1] at w1
   rw [hd] at w2
   injection w1 with w1
   injection w2 with w2
   subst w1 w2
   simp only [Prim.run,D.els,g6.1,wB0] at w3
   refine ⟨_,X.w,X,hv2,?_,?_⟩
   ·rw [w5,w6,q5,q6,u1,u2]
    exact Nx.same (up:=[]) (Ext.refl X) m
   ·simp only [if_true,VRep]
    refine ⟨_,rfl,?_⟩
    simp only [VRepL]
    exact ⟨v,[.bool o.isSome],rfl,VRep.data.2 ⟨_,q4,hv1⟩,.bool o.isSome,[],rfl,VRep.data.2 ⟨_,w4,by rw [← w3];exact DVal.of_bool _⟩,rfl⟩
  | false =>
   obtain ⟨e1,e2⟩:=Run.pure h8
   subst e1 e2
   refine ⟨_,X.w,X,hv2,?_,?_⟩
   ·rw [q5,q6,u1,u2]
    exact Nx.same (up:=[]) (Ext.refl X) m
   ·exact VRep.data.2 ⟨_,q4,hv1⟩
 ·exact (Run.fail h).elim
theorem zkA (ty:TysOk cx) (hB:B0≤X.w.heap.size) (m:Mem B0 X) {t:TypeId}{x ix y sv:SV}{s0 s':SS}(h0:s0.up=[]) (h:Run (zeq cx t x ix y) X.μ s0 sv s') (hs:Sat C k X.E s'.bs s'.nv) {vx vi vy:Value}(hvx:VRep X x vx) (hvi:VRep X ix vi) (hvy:VRep X y vy) :
  Acts cx.P B0 X (Instr.mapUpdate t vx vi vy) s0 s' fun _ _=>sv=.un 1:=by
 unfold zeq at h
 split at h
 ·rename_i kt et K V r hu
  obtain ⟨_,s1,h1,h2⟩:=Run.bind h
  obtain ⟨hg,es⟩:=Run.guard h1
  subst es
  have kf:=zkY hg
  obtain ⟨ai,s2,h3,h4⟩:=Run.bind h2
  obtain ⟨ay,s3,h5,h6⟩:=Run.bind h4
  obtain ⟨a,s4,h7,h8⟩:=Run.bind h6
  obtain ⟨es,hR⟩:=zjO h7
  subst es
  obtain ⟨am,s5,h9,h10⟩:=Run.bind h8
  obtain ⟨_,s6,h11,h12⟩:=Run.bind h10
  have es:=Run.put h11
  obtain ⟨e1,e2⟩:=Run.pure h12
  subst es
  subst e1 e2
  have hs5:Sat C k X.E s5.bs s5.nv:=hs
  have hs4:=h9.sat hs5
  obtain ⟨u1,u2,d,hd,hdv⟩:=zgb hB m h0 h3 (h5.sat hs4) hvi
  obtain ⟨u3,u4,dy,hdy,hdyv⟩:=zgb hB m u1 h5 hs4 hvy
  rw [u3,zar] at hR
  simp only [VRep,Ref] at hvx
  obtain ⟨hA,b,hve,hb⟩:=hvx
  subst hve
  obtain ⟨⟨ml,mk,mv,md,q1,q2,q3,q4,q5⟩,q6,q7⟩:=Run.op3 h9 hs5
  obtain ⟨l,es,clk,g1,g2,g3,g4,g5,o,q,g6,g7⟩:=zqz ty m kf (ai:=ai) hA hR hb hdv
  rw [g1] at q1
  rw [hd] at q2
  rw [hdy] at q3
  injection q1 with q1
  injection q2 with q2
  injection q3 with q3
  subst q1 q2 q3
  have hy':DVal X.w X.M V dy vy:=hdyv.flat kf.fV
  have hobj:∃ es' clk' l',zkD d dy l=some l'∧MapEnts X.w X.M K V l' es'.toList∧(Instr.mapUpdate t (.map (some b)) vi vy).run cx.P X.w=.ok () { X.w with heap:=X.w.heap.setIfInBounds b (.map es' clk') }:=by
   rcases g6.2 with ⟨p1,p2,p3⟩|⟨j,e,d0,p1,p2,p3,⟨z,p4,p5⟩,p6⟩
   ·subst p1 p2
    obtain ⟨l',c1,c2⟩:=p3 dy vi vy clk g4 hy'
    refine ⟨es.push ⟨vi,vy,clk⟩,clk + 1,l',c1,by simpa using c2,?_⟩
    simp only [Instr.mapUpdate,Sem.run_bind,zab hu,Result.andThen_ok,MapKept.run_getObj_map g2,g5,g7,MapKept.run_setObj_map _ g2]
   ·subst p1 p2
    obtain ⟨hke,hsb⟩:=ztg kf.fK g4 (show DVal X.w X.M K d z.key from p5)
    obtain ⟨l',c1,c2⟩:=p6 dy vi vy (fun e=>{ e with key:=vi,val:=vy }) g4 hy' (fun _=>⟨rfl,rfl⟩)
    have hz:es[0 + j]?=some z:=by rw [Nat.zero_add];simpa using p4
    refine ⟨es.modify (0 + j) fun e=>{ e with key:=vi,val:=vy },clk,l',c1,by simpa using c2,?_⟩
    simp only [Instr.mapUpdate,Sem.run_bind,zab hu,Result.andThen_ok,MapKept.run_getObj_map g2,g5,g7,hz,Option.map_some,Option.getD_some,Instr.keyThatStays,hsb,if_true,Sem.run_pure,MapKept.run_setObj_map _ g2]
  obtain ⟨es',clk',l',c1,c2,c3⟩:=hobj
  simp only [Prim.run,D.els,c1,wB0] at q4
  subst q4
  have hblt:b<X.w.heap.size:=lt_of_heap g2
  let w':World:={ X.w with heap:=X.w.heap.setIfInBounds b (.map es' clk') }
  have hw'b:w'.heap[b]?=some (.map es' clk'):=by simp [w',hblt]
  have hw'n:∀ q,q≠b→w'.heap[q]?=X.w.heap[q]?:=fun q hq=>by simp [w',Ne.symm hq]
  have hmem:b∈(X.μ r).own (X.β r):=by rw [hR];simp [Root.own,hb]
  have hbs:bsize X.w b=none:=by simp [bsize,g2]
  have hx:Ext X { X with w:=w',μ:=upd X.μ r (.mp K V am) }∧Mem B0 { X with w:=w',μ:=upd X.μ r (.mp K V am) }:=by
   refine Mem.change m hB (fun q=>q=r) (fun _ _ h=>h) (fun _ h=>h) (fun q h=>.inl h) (fun q hq=>⟨upd_ne _ _ hq,rfl⟩) (fun q hq hno=>?_) (fun q n hn=>?_) ?_ ?_ ?_ (fun _ _ _=>rfl) ?_ ?_
   ·refine hw'n q fun e=>?_
    subst e
    exact hno r rfl hA hmem
   ·have hqb:q≠b:=by intro e;subst e;rw [hbs] at hn;cases hn
    rw [zax (hw'n q hqb)]
    exact hn
   ·intro q b' hq _ hb'
    subst hq
    simp only [upd_same,Root.own] at hb'
    exact .inr ⟨q,rfl,hA,by rw [hR];exact hb'⟩
   ·intro q q' b' hq hq' _ _ _ _
    rw [hq,hq']
   ·intro q hq _
    subst hq
    simp [upd_same,Root.own,hb]
   ·intro q hq _ _
    subst hq
    refine ⟨by rw [hR];rfl,fun e1 a1 d1 hr hd1=>?_,fun e1 a1 g1 hr=>?_⟩
    ·rw [hR] at hr
     cases hr
    ·simp only [upd_same] at hr
     cases hr
   ·intro x q hq _
    subst hq
    simp only [upd_same]
    exact ⟨l',b,es',clk',q5,hb,hw'b,c2.keep x.K⟩
  refine ⟨(),w',{ X with w:=w',μ:=upd X.μ r (.mp K V am) },c3,⟨rfl,rfl,?_,fun q=>⟨fun h=>.inl h,fun h=>h.elim id fun h=>?_⟩,hx.1,hx.2,?_⟩,rfl⟩
  ·show _=now X.μ ((r,Root.mp K V am)::s5.up)
   rw [q6,u3,zaF,zar]
  ·have:s5.ab=s1.ab:=by rw [q7,u4,u2]
   dsimp only at h
   omega
  ·refine ⟨rfl,rfl,rfl,by simp [w'],fun q hq=>hw'n q fun e=>?_⟩
   subst e
   have:=m.low r q hA hmem
   omega
 ·exact (Run.fail h).elim
theorem ztr {t T:TypeId}{x sv:SV}{s0 s':SS}(hu:(match cx.P.underlying t with|some (.slice _)=>true|_=>false)=true) (h:Run (capOf x) X.μ s0 sv s') {v:Value}(hv:VRep X x v):zbd cx.P X (Builtin.cap_ #[t] T #[v]) sv s0 s':=by
 unfold capOf at h
 split at h
 ·obtain ⟨e1,e2⟩:=Run.pure h
  subst e1 e2
  simp only [VRep] at hv
  subst hv
  cases hq:cx.P.underlying t with
  | none=>simp [hq] at hu
  | some q =>
   cases q<;>simp [hq] at hu
   exact ⟨rfl,rfl,.int .i64 0,by simp [Builtin.cap_,zab hq,goInt],VRep.data.2 ⟨_,rfl,DVal.of_int _ _⟩⟩
 ·obtain ⟨e1,e2⟩:=Run.pure h
  subst e1 e2
  obtain ⟨d,hd,hdv⟩:=VRep.data.1 hv
  simp only [At.get,wB0] at hd
  subst hd
  have hv2:v=.slice none 0 0:=by
   rcases hdv.slice with ⟨_,h⟩|⟨l,a,c,h,_⟩
   ·exact h
   ·cases h
  subst hv2
  cases hq:cx.P.underlying t with
  | none=>simp [hq] at hu
  | some q =>
   cases q<;>simp [hq] at hu
   exact ⟨rfl,rfl,.int .i64 0,by simp [Builtin.cap_,zab hq,goInt],VRep.data.2 ⟨_,rfl,DVal.of_int _ _⟩⟩
 ·exact (Run.fail h).elim
end
end Go.SX
