/- Part 2 of a checked symbolic executor: what a function's code does is read off as a tree over plain data. No condition. -/
import Derived.Test.YtlgjbfdojbmmgaaSx1
import Derived.Deep.MidRow
import Derived.Laws.CopyOwn
import Derived.Laws.MakeOwn
set_option linter.unusedSimpArgs false
set_option linter.unusedVariables false
namespace Go.SX
open Go.RowKit (Below)
structure zbd (P:Program) (X:Ctx) (sem:Sem Value) (sv:SV) (s0 s':SS):Prop where
 up:s'.up=s0.up
 ab:s'.ab=s0.ab
 run:∃ v,sem.run P X.w=.ok v X.w∧VRep X sv v
section
variable {C:FuncId→List D→Option (List D)} {k B0:Nat} {X:Ctx} {cx:Cx}
theorem zgb {T:Ty}{s:SV}{σ σ':SS}{a:At}{v:Value}(hB:B0≤X.w.heap.size) (m:Mem B0 X) (h0:σ.up=[]) (h:Run (SV.view false T s) X.μ σ a σ') (hs:Sat C k X.E σ'.bs σ'.nv) (hv:VRep X s v) :
  σ'.up=[]∧σ'.ab=σ.ab∧∃ d,a.get X.E=some d∧DVal X.w (fun _=>False) T d v:=by
 obtain ⟨_,_,hf,hab,hd⟩:=zej (X:=X) hB h hs (by rw [h0];exact m) (by rw [h0];exact hv)
 exact ⟨by rw [hf rfl,h0],hab,hd⟩
theorem zab {P:Program}{w:World}{t:TypeId}{d:TypeDesc}(h:P.underlying t=some d):(underlying t).run P w=.ok d w:=run_underlying h w
theorem zlv {P:Program}{w:World}{t:TypeId}(ht:P.underlying t=some .bool) (a b:Bool):(Op.equal t (.bool a) (.bool b)).run P w=.ok (a==b) w:=by
 have key:∀ n,(Op.equalIn (n + 1) t (.bool a) (.bool b)).run P w=.ok (a==b) w:=fun n=>by simp [Op.equalIn,zab ht]
 exact key 9999
theorem zoc {P:Program}{w:World}{t e:TypeId}(ht:P.underlying t=some (.slice e)) (A:Option Addr) (n c:Nat):(Op.equal t (.slice A n c) (.slice none 0 0)).run P w=.ok A.isNone w:=by
 have key:∀ m,(Op.equalIn (m + 1) t (.slice A n c) (.slice none 0 0)).run P w=.ok A.isNone w:=fun m=>by cases A<;>simp [Op.equalIn,zab ht]
 exact key 9999
theorem DVal.slice {w:World}{M:Nat→Prop}{e:Ty}{d:D}{v:Value}(h:DVal w M (.sl e) d v):(d=.nil∧v=.slice none 0 0)∨∃ l a cap,d=.sl l∧v=.slice (some a) l.length cap:=by
 unfold DVal at h
 simp only [Ty.isAgg,wA0,if_false] at h
 obtain ⟨_,h⟩:=h
 cases d<;>simp only [DRep] at h
 ·obtain ⟨a,cap,xs,h1,_⟩:=h
  injection h1 with h1
  exact .inr ⟨_,a,cap,rfl,h1⟩
 ·injection h with h
  exact .inl ⟨rfl,h⟩
theorem znQ {s:SV}{v:Value}(h:zmD s=true) (hv:VRep X s v):v=.slice none 0 0:=by
 unfold zmD at h
 split at h
 ·simpa only [VRep] using hv
 ·cases h
theorem zno (ty:TysOk cx) (hB:B0≤X.w.heap.size) (m:Mem B0 X) {op:BinOp}{xt:TypeId}{x y sv:SV}{s0 s':SS}(h0:s0.up=[]) (h:Run (zoT cx op xt x y) X.μ s0 sv s') (hs:Sat C k X.E s'.bs s'.nv)
  {vx vy:Value} (hx:VRep X x vx) (hy:VRep X y vy) (ox oy:Operand)
  (hagg:∀ {T:Ty} {d d':D},cx.T xt=T→T.isAgg=true→T.known=true→cx.P.eqGuardType cx.P.depth xt=false→eqOk cx 20 xt=true→DVal X.w (fun _=>False) T d vx→DVal X.w (fun _=>False) T d' vy →
   (do eqGuard .eql xt ox oy vx vy;binOp .eql xt vx vy:Sem Value).run cx.P X.w=.ok (.bool (d.beq d')) X.w∧(do eqGuard .neq xt ox oy vx vy;binOp .neq xt vx vy:Sem Value).run cx.P X.w=.ok (.bool (!(d.beq d'))) X.w) :
  zbd cx.P X (do eqGuard op xt ox oy vx vy;binOp op xt vx vy) sv s0 s':=by
 unfold zoT at h
 have hx':=zaI hx
 have hy':=zaI hy
 split at h
 ·rename_i k1 a k2 b e1 e2
  rw [e1] at hx'
  rw [e2] at hy'
  obtain ⟨d1,f1,g1⟩:=VRep.data.1 hx'
  obtain ⟨d2,f2,g2⟩:=VRep.data.1 hy'
  obtain ⟨n1,i1,j1⟩:=g1.int
  obtain ⟨n2,i2,j2⟩:=g2.int
  subst i1 i2 j1 j2
  obtain ⟨_,s1,hg,h2⟩:=Run.bind h
  obtain ⟨hk,es⟩:=Run.guard hg
  subst es
  obtain ⟨r,s2,h3,h4⟩:=Run.bind h2
  obtain ⟨e3,e4⟩:=Run.pure h4
  subst e3 e4
  obtain ⟨⟨u1,u2,d,q1,q2,q3,q4⟩,q5,q6⟩:=Run.op2 h3 hs
  rw [f1] at q1
  rw [f2] at q2
  injection q1 with q1
  injection q2 with q2
  subst q1 q2
  refine ⟨q5,q6,?_⟩
  simp only [Prim.run] at q3
  have hgd:=zs1 (P:=cx.P) (w:=X.w) (op:=op) (t:=xt) (x:=ox) (y:=oy) (k:=k1) (k':=k2) (a:=n1) (b:=n2)
  cases hsh:zey op with
  | true =>
   have hb:shI op k1 n1 n2=some d:=by
    cases op<;>simp only [zey,wA0] at hsh<;>exact q3
   obtain ⟨v,hr,hd⟩:=zuU (P:=cx.P) (w:=X.w) (k':=k2) xt hsh hb
   refine ⟨v,by simp [hgd,hr],VRep.data.2 ⟨d,q4,?_⟩⟩
   have hc:zra op=false:=by cases op<;>simp_all [zey,zra]
   rw [hc]
   exact hd _
  | false =>
   rw [hsh] at hk
   simp only [Bool.false_or,decide_eq_true_eq] at hk
   subst hk
   have hb:binI op k1 n1 n2=some d:=by
    cases op<;>simp only [zey,Bool.true_eq_false] at hsh<;>simpa only [binD,if_true] using q3
   obtain ⟨v,hr,hd⟩:=ztO (P:=cx.P) (w:=X.w) xt hsh hb
   exact ⟨v,by simp [hgd,hr],VRep.data.2 ⟨d,q4,hd _⟩⟩
 ·rename_i a b e1 e2
  rw [e1] at hx'
  rw [e2] at hy'
  obtain ⟨d1,f1,g1⟩:=VRep.data.1 hx'
  obtain ⟨d2,f2,g2⟩:=VRep.data.1 hy'
  obtain ⟨n1,i1,j1⟩:=g1.bool
  obtain ⟨n2,i2,j2⟩:=g2.bool
  subst i1 i2 j1 j2
  obtain ⟨_,s1,hg,h2⟩:=Run.bind h
  obtain ⟨hk,es⟩:=Run.guard hg
  subst es
  simp only [wD0] at hk
  obtain ⟨hop,hT⟩:=hk
  have hT:=Ty.beq_eq hT
  obtain ⟨i,tf⟩:=ty.get hT (by simp)
  have hu:cx.P.underlying xt=some .bool:=tf.desc
  obtain ⟨r,s2,h3,h4⟩:=Run.bind h2
  obtain ⟨e3,e4⟩:=Run.pure h4
  subst e3 e4
  obtain ⟨⟨u1,u2,d,q1,q2,q3,q4⟩,q5,q6⟩:=Run.op2 h3 hs
  rw [f1] at q1
  rw [f2] at q2
  injection q1 with q1
  injection q2 with q2
  subst q1 q2
  refine ⟨q5,q6,?_⟩
  have hgd:=zqX (P:=cx.P) (w:=X.w) (op:=op) (t:=xt) (x:=ox) (y:=oy) (a:=n1) (b:=n2)
  simp only [Prim.run,binD,binB] at q3
  cases op<;>simp only [wA0] at hop<;>simp only [wB0] at q3<;>subst q3
  ·exact ⟨.bool (n1==n2),by simp [hgd,binOp,zlv hu],VRep.data.2 ⟨_,q4,DVal.of_bool _⟩⟩
  ·exact ⟨.bool (!(n1==n2)),by simp [hgd,binOp,zlv hu],VRep.data.2 ⟨_,q4,DVal.of_bool _⟩⟩
 ·rename_i a b e1 e2
  rw [e1] at hx'
  rw [e2] at hy'
  obtain ⟨d1,f1,g1⟩:=VRep.data.1 hx'
  obtain ⟨d2,f2,g2⟩:=VRep.data.1 hy'
  obtain ⟨n1,i1,j1⟩:=g1.str
  obtain ⟨n2,i2,j2⟩:=g2.str
  subst i1 i2 j1 j2
  obtain ⟨r,s2,h3,h4⟩:=Run.bind h
  obtain ⟨e3,e4⟩:=Run.pure h4
  subst e3 e4
  obtain ⟨⟨u1,u2,d,q1,q2,q3,q4⟩,q5,q6⟩:=Run.op2 h3 hs
  rw [f1] at q1
  rw [f2] at q2
  injection q1 with q1
  injection q2 with q2
  subst q1 q2
  refine ⟨q5,q6,?_⟩
  have hgd:=zrM (P:=cx.P) (w:=X.w) (op:=op) (t:=xt) (x:=ox) (y:=oy) (a:=n1) (b:=n2)
  simp only [Prim.run,binD] at q3
  obtain ⟨v,hr,hd⟩:=zty (P:=cx.P) (w:=X.w) xt q3
  exact ⟨v,by simp [hgd,hr],VRep.data.2 ⟨d,q4,hd _⟩⟩
 ·split at h
  ·rename_i hn
   have hvy:=znQ hn hy'
   subst hvy
   split at h
   ·rename_i e hT
    obtain ⟨i,tf⟩:=ty.get hT (by simp)
    obtain ⟨E,hu,_⟩:=tf.desc
    obtain ⟨a,s1,h1,h2⟩:=Run.bind h
    obtain ⟨v,s2,h3,h4⟩:=Run.bind h2
    have hs2:=h4.sat hs
    obtain ⟨u1,u2,d,f1,f2⟩:=zgb hB m h0 h1 (h3.sat hs2) hx'
    obtain ⟨⟨d',r,q1,q2,q3⟩,q5,q6⟩:=Run.op1 h3 hs2
    rw [f1] at q1
    injection q1 with q1
    subst q1
    have key:∃ A n c,vx=.slice A n c∧r=.bool A.isNone:=by
     rcases f2.slice with ⟨e1,e2⟩|⟨l,a',cap,e1,e2⟩
     ·subst e1;simp [Prim.run] at q2;exact ⟨none,0,0,e2,q2.symm⟩
     ·subst e1;simp [Prim.run] at q2;exact ⟨some a',l.length,cap,e2,q2.symm⟩
    obtain ⟨A,n,c,e1,e2⟩:=key
    subst e1 e2
    have hgd:∀ op,(eqGuard op xt ox oy (.slice A n c) (.slice none 0 0)).run cx.P X.w=.ok () X.w:=fun op=>by
     unfold eqGuard
     cases op<;>rfl
    split at h4
    ·obtain ⟨e3,e4⟩:=Run.pure h4
     subst e3 e4
     exact ⟨by rw [q5,u1,h0],by rw [q6,u2],.bool A.isNone,by simp [hgd,binOp,zoc hu],VRep.data.2 ⟨_,q3,DVal.of_bool _⟩⟩
    ·obtain ⟨v',s3,h5,h6⟩:=Run.bind h4
     obtain ⟨e3,e4⟩:=Run.pure h6
     subst e3 e4
     obtain ⟨⟨d',r',p1,p2,p3⟩,p5,p6⟩:=Run.op1 h5 hs
     rw [q3] at p1
     injection p1 with p1
     subst p1
     simp only [Prim.run,unD,wB0] at p2
     subst p2
     exact ⟨by rw [p5,q5,u1,h0],by rw [p6,q6,u2],.bool (!A.isNone),by simp [hgd,binOp,zoc hu],VRep.data.2 ⟨_,p3,DVal.of_bool _⟩⟩
    ·exact (Run.fail h4).elim
   ·exact (Run.fail h).elim
  ·obtain ⟨_,s1,hg,h2⟩:=Run.bind h
   obtain ⟨hk,es⟩:=Run.guard hg
   subst es
   simp only [wD0,Bool.not_eq_true'] at hk
   obtain ⟨⟨⟨⟨k1,k2⟩,k3⟩,k4⟩,k5⟩:=hk
   obtain ⟨a,s1,h3,h4⟩:=Run.bind h2
   obtain ⟨b,s2,h5,h6⟩:=Run.bind h4
   obtain ⟨v,s3,h7,h8⟩:=Run.bind h6
   have hs3:=h8.sat hs
   have hs2:=h7.sat hs3
   obtain ⟨u1,u2,d1,f1,f2⟩:=zgb hB m h0 h3 (h5.sat hs2) hx'
   obtain ⟨w1,w2,d2,g1,g2⟩:=zgb hB m u1 h5 hs2 hy'
   obtain ⟨⟨x1,x2,r,q1,q2,q3,q4⟩,q5,q6⟩:=Run.op2 h7 hs3
   rw [f1] at q1
   rw [g1] at q2
   injection q1 with q1
   injection q2 with q2
   subst q1 q2
   simp only [Prim.run,wB0] at q3
   subst q3
   have hrun:=hagg rfl k1 k3 k4 k5 f2 g2
   split at h8
   ·obtain ⟨e3,e4⟩:=Run.pure h8
    subst e3 e4
    exact ⟨by rw [q5,w1,h0],by rw [q6,w2,u2],_,hrun.1,VRep.data.2 ⟨_,q4,DVal.of_bool _⟩⟩
   ·obtain ⟨v',s4,h9,h10⟩:=Run.bind h8
    obtain ⟨e3,e4⟩:=Run.pure h10
    subst e3 e4
    obtain ⟨⟨d',r',p1,p2,p3⟩,p5,p6⟩:=Run.op1 h9 hs
    rw [q4] at p1
    injection p1 with p1
    subst p1
    simp only [Prim.run,unD,wB0] at p2
    subst p2
    exact ⟨by rw [p5,q5,w1,h0],by rw [p6,q6,w2,u2],_,hrun.2,VRep.data.2 ⟨_,p3,DVal.of_bool _⟩⟩
   ·exact (Run.fail h8).elim
end
end Go.SX
namespace Go.SX
open Go.RowKit (Below)
theorem za7 {T:Ty}(h:T.known=true):T≠.no:=by intro e;subst e;simp [Ty.known] at h
theorem zeg:∀ {Ts:List Ty}{j:Nat}{T:Ty},Ty.knownL Ts=true→Ts[j]?=some T→T.known=true
 | [],j,T,_,h=>by simp at h
 | U::Ts,0,T,hk,h=>by
  simp only [Ty.knownL,wD0] at hk
  simp at h
  subst h
  exact hk.1
 | U::Ts,j + 1,T,hk,h=>by
  simp only [Ty.knownL,wD0] at hk
  simp at h
  exact zeg hk.2 h
theorem zhP {tys:TypeId→Ty}:∀ {fs:List Field}{n j:Nat}{f:Field},zeb tys fs n=true→fs[j]?=some f→f.offset=n + Ty.sizeL ((fs.map fun f=>tys f.type).take j)
 | [],n,j,f,_,h=>by simp at h
 | g::fs,n,0,f,hk,h=>by
  simp only [zeb,wD0] at hk
  simp at h
  subst h
  simp [zad hk.1,Ty.sizeL]
 | g::fs,n,j + 1,f,hk,h=>by
  simp only [zeb,wD0] at hk
  simp at h
  have:=zhP hk.2 h
  simp only [List.map_cons,List.take_succ_cons,Ty.sizeL]
  omega
section
variable {cx:Cx} {w:World} {M:Nat→Prop}
theorem zbf {t:TypeId}{i:TypeInfo}(h:cx.P.info? t=some i):(sizeOf t).run cx.P w=.ok i.size w:=by simp [sizeOf,typeInfo,h]
theorem zgv {t:TypeId}{T:Ty}(h:zlh cx t T):(isAgg t).run cx.P w=.ok T.isAgg w:=by
 cases T<;>simp only [zlh] at h
 ·simp [isAgg,zab h,Ty.isAgg]
 ·simp [isAgg,zab h,Ty.isAgg]
 ·simp [isAgg,zab h,Ty.isAgg]
 ·obtain ⟨E,h,_⟩:=h;simp [isAgg,zab h,Ty.isAgg]
 ·obtain ⟨fs,h,_⟩:=h;simp [isAgg,zab h,Ty.isAgg]
 ·obtain ⟨E,h,_⟩:=h;simp [isAgg,zab h,Ty.isAgg]
theorem ziO {T:Ty}(h:T.isAgg=false):T.size=1:=by
 cases T<;>simp [Ty.isAgg] at h<;>simp [Ty.size]
theorem zcX {t:TypeId}{T:Ty}{i:TypeInfo}(tf:TyFact cx t T i) {cs:Array Value}{off:Nat}{d:D}(h:DRep w M T d ((cs.toList.drop off).take T.size)) :
  ∃ v,(part t cs off).run cx.P w=.ok v w∧DVal w M T d v:=by
 unfold part DVal
 cases hT:T.isAgg with
 | true =>
  refine ⟨.agg (cs.extract off (off + i.size)),by simp [zgv tf.desc,hT,zbf tf.info],?_⟩
  simp only [if_true]
  refine ⟨_,rfl,?_⟩
  rw [tf.size]
  simpa [List.take_drop] using h
 | false =>
  have h1:=ziO hT
  rw [h1] at h
  cases hc:cs.toList.drop off with
  | nil =>
   have:=h.length
   rw [hc,h1] at this
   simp at this
  | cons v l =>
   rw [hc] at h
   simp only [List.take_succ_cons,List.take_zero] at h
   have hv:cs[off]?=some v:=by
    have:=congrArg (fun l=>l[0]?) hc
    simpa using this
   refine ⟨v,by simp [zgv tf.desc,hT,hv],?_⟩
   simp only [wA0,if_false]
   exact ⟨DRep.one hT h,h⟩
theorem add_add (a:Addr) (m n:Nat):(a.add m).add n=a.add (m + n):=by
 unfold Addr.add
 by_cases h1:m=0
 ·subst h1;simp
 ·by_cases h2:n=0
  ·subst h2;simp [h1]
  ·rw [if_neg h2,if_neg h1,if_neg (by omega)];simp [Nat.add_assoc]
theorem add_block (a:Addr) (m:Nat):(a.add m).block=a.block:=by unfold Addr.add;split<;>rfl
end
section
variable {E:List D}
theorem zgs {j:Nat}:∀ {q:List Stp}{R:Ty}{n:Nat}{Ts:List Ty}{F:Ty},tOff E q R=some n→tyAt q R=some (.st Ts)→Ts[j]?=some F→tOff E (q++[.f j]) R=some (n + Ty.sizeL (Ts.take j))∧tyAt (q++[.f j]) R=some F
 | [],R,n,Ts,F,h,ht,hF=>by
  simp only [tyAt,wB0] at ht
  subst ht
  simp only [tOff,wB0] at h
  subst h
  simp [tOff,tyAt,hF]
 | .f i::q,R,n,Ts,F,h,ht,hF=>by
  cases R<;>simp only [tOff,tyAt,reduceCtorEq] at h ht
  rename_i Us
  simp only [List.cons_append,tOff,tyAt]
  cases hU:Us[i]? with
  | none=>simp [hU] at h
  | some U =>
   simp only [hU] at h ht ⊢
   cases ho:tOff E q U with
   | none=>simp [ho] at h
   | some m =>
    simp only [ho,wB0] at h
    obtain ⟨e1,e2⟩:=zgs ho ht hF
    rw [e1]
    exact ⟨by simp only [wB0];omega,e2⟩
 | .i a::q,R,n,Ts,F,h,ht,hF=>by
  cases R<;>simp only [tOff,tyAt,reduceCtorEq] at h ht
  rename_i m e
  simp only [List.cons_append,tOff,tyAt]
  split at h<;>try cases h
  rename_i k z hz
  split at h<;>try cases h
  rename_i h0
  simp only [if_pos h0]
  cases ho:tOff E q e with
  | none=>simp [ho] at h
  | some m =>
   simp only [ho,wB0] at h
   obtain ⟨e1,e2⟩:=zgs ho ht hF
   rw [e1]
   exact ⟨by simp only [wB0];omega,e2⟩
theorem zga {a:At}{kk:IntKind}{z:Int}(ha:a.get E=some (.int kk z)) (h0:0≤z):∀ {q:List Stp}{R:Ty}{n m:Nat}{e:Ty},tOff E q R=some n→tyAt q R=some (.arr m e)→tOff E (q++[.i a]) R=some (n + z.toNat * e.size)∧tyAt (q++[.i a]) R=some e
 | [],R,n,m,e,h,ht=>by
  simp only [tyAt,wB0] at ht
  subst ht
  simp only [tOff,wB0] at h
  subst h
  simp [tOff,tyAt,ha,h0]
 | .f i::q,R,n,m,e,h,ht=>by
  cases R<;>simp only [tOff,tyAt,reduceCtorEq] at h ht
  rename_i Us
  simp only [List.cons_append,tOff,tyAt]
  cases hU:Us[i]? with
  | none=>simp [hU] at h
  | some U =>
   simp only [hU] at h ht ⊢
   cases ho:tOff E q U with
   | none=>simp [ho] at h
   | some m' =>
    simp only [ho,wB0] at h
    obtain ⟨e1,e2⟩:=zga ha h0 ho ht
    rw [e1]
    exact ⟨by simp only [wB0];omega,e2⟩
 | .i b::q,R,n,m,e,h,ht=>by
  cases R<;>simp only [tOff,tyAt,reduceCtorEq] at h ht
  rename_i m' e'
  simp only [List.cons_append,tOff,tyAt]
  split at h<;>try cases h
  rename_i k z' hz
  split at h<;>try cases h
  rename_i h0'
  simp only [if_pos h0']
  cases ho:tOff E q e' with
  | none=>simp [ho] at h
  | some m'' =>
   simp only [ho,wB0] at h
   obtain ⟨e1,e2⟩:=zga ha h0 ho ht
   rw [e1]
   exact ⟨by simp only [wB0];omega,e2⟩
end
section
variable {C:FuncId→List D→Option (List D)} {k B0:Nat} {X:Ctx} {cx:Cx}
theorem zov {T F:Ty}{j:Nat}(h:zi9 T j=some F):∃ Ts,T=.st Ts∧Ts[j]?=some F:=by
 unfold zi9 at h
 split at h
 ·exact ⟨_,rfl,h⟩
 ·cases h
theorem zkX (ty:TysOk cx) {t:TypeId}{F:Ty}{j:Nat}(h:zi9 (cx.T t) j=some F) :
  ∃ Ts i fs f i',cx.T t=.st Ts∧Ts[j]?=some F∧TyFact cx t (.st Ts) i∧cx.P.underlying t=some (.struct fs)∧fs[j]?=some f∧cx.T f.type=F∧f.offset=Ty.sizeL (Ts.take j)∧TyFact cx f.type F i':=by
 obtain ⟨Ts,hT,hF⟩:=zov h
 obtain ⟨i,tf⟩:=ty.get hT (by simp)
 obtain ⟨fs,hu,hTs,ho⟩:=tf.desc
 have hk:=tf.known
 simp only [Ty.known] at hk
 have hFk:=zeg hk hF
 rw [hTs] at hF
 simp only [List.getElem?_map] at hF
 cases hf:fs.toList[j]? with
 | none=>simp [hf] at hF
 | some f =>
  simp only [hf,Option.map_some,wB0] at hF
  obtain ⟨i',tf'⟩:=ty.get hF (za7 hFk)
  refine ⟨Ts,i,fs,f,i',hT,?_,tf,hu,by simpa using hf,hF,?_,tf'⟩
  ·rw [hTs];simp [hf,hF]
  ·have:=zhP ho hf
   rw [hTs]
   omega
theorem DVal.field {w:World}{M:Nat→Prop}{Ts:List Ty}{d d':D}{v:Value}{j:Nat}{F:Ty}(h:DVal w M (.st Ts) d v) (hF:Ts[j]?=some F) (hd:Prim.run (.fld j) [d]=some d') :
  ∃ cs,v=.agg cs∧DRep w M F d' ((cs.toList.drop (Ty.sizeL (Ts.take j))).take F.size):=by
 unfold DVal at h
 simp only [Ty.isAgg,if_true] at h
 obtain ⟨cs,h1,h2⟩:=h
 cases d<;>simp only [DRep] at h2
 simp only [Prim.run] at hd
 exact ⟨cs,h1,h2.part hF hd⟩
theorem DVal.elem {w:World}{M:Nat→Prop}{n:Nat}{e:Ty}{d d':D}{v:Value}{kk:IntKind}{z:Int}(h:DVal w M (.arr n e) d v) (hd:Prim.run .get [d,.int kk z]=some d') :
  0≤z∧z<n∧∃ cs,v=.agg cs∧DRep w M e d' ((cs.toList.drop (z.toNat * e.size)).take e.size):=by
 unfold DVal at h
 simp only [Ty.isAgg,if_true] at h
 obtain ⟨cs,h1,h2⟩:=h
 cases d<;>simp only [DRep] at h2
 simp only [Prim.run] at hd
 split at hd
 ·rename_i h0
  have hlt:z.toNat<n:=by
   rw [← h2.1]
   rcases Nat.lt_or_ge z.toNat _ with h|h
   ·exact h
   ·rw [List.getElem?_eq_none h] at hd;cases hd
  exact ⟨h0,by omega,cs,h1,h2.2.part hd⟩
 ·cases hd
mutual
theorem CRep.length:∀ {s:SV}{T:Ty}{cs:List Value},s.hasTy T→CRep X s cs→cs.length=T.size
 | .un n,T,cs,ht,h=>by simp only [SV.hasTy] at ht;simp only [CRep] at h;rw [← ht];exact h.1
 | .cv v,T,cs,ht,h=>by simp only [SV.hasTy] at ht;subst ht;simp only [CRep] at h;simp [h.1,Ty.size]
 | .d T' a,T,cs,ht,h=>by simp only [SV.hasTy] at ht;subst ht;simp only [CRep] at h;obtain ⟨d,_,h⟩:=h;exact h.length
 | .ag T' l,T,cs,ht,h=>by
  simp only [SV.hasTy] at ht
  subst ht
  cases T'<;>simp only [CRep] at h
  simp only [Ty.size]
  exact CRepL.length h
 | .fn f a l,T,cs,ht,h=>by simp only [SV.hasTy] at ht;subst ht;simp only [CRep] at h;obtain ⟨us,vs,h,_⟩:=h;simp [h,Ty.size]
 | .tu _,T,cs,ht,h=>by simp only [CRep] at h
 | .h _ _ _,T,cs,ht,h=>by simp only [SV.hasTy] at ht;subst ht;simp only [CRep] at h;obtain ⟨v,h,_⟩:=h;simp [h,Ty.size]
 | .hc _ _ _,T,cs,ht,h=>by simp only [SV.hasTy] at ht;subst ht;simp only [CRep] at h;obtain ⟨v,h,_⟩:=h;simp [h,Ty.size]
 | .mr _ _ _,T,cs,ht,h=>by simp only [SV.hasTy] at ht;subst ht;simp only [CRep] at h;obtain ⟨v,h,_⟩:=h;simp [h,Ty.size]
 | .z _ _,T,cs,ht,h=>by simp only [SV.hasTy] at ht;subst ht;simp only [CRep] at h;obtain ⟨v,h,_⟩:=h;simp [h,Ty.size]
 | .hb _ _ _ _ _,T,cs,ht,h=>by simp only [SV.hasTy] at ht;subst ht;simp only [CRep] at h;obtain ⟨v,h,_⟩:=h;simp [h,Ty.size]
 | .hr _ _ _ _,T,cs,ht,h=>by simp only [SV.hasTy] at ht;subst ht;simp only [CRep] at h;obtain ⟨v,h,_⟩:=h;simp [h,Ty.size]
 | .p _ _ _ _,T,cs,ht,h=>by simp only [SV.hasTy] at ht;subst ht;simp only [CRep] at h;obtain ⟨v,h,_⟩:=h;simp [h,Ty.size]
 | .pm _ _ _ _ _ _,T,cs,ht,h=>by simp only [SV.hasTy] at ht;subst ht;simp only [CRep] at h;obtain ⟨v,h,_⟩:=h;simp [h,Ty.size]
 | .pd _ _,T,cs,ht,h=>by simp only [SV.hasTy] at ht;subst ht;simp only [CRep] at h;obtain ⟨v,h,_⟩:=h;simp [h,Ty.size]
theorem CRepL.length:∀ {l:List SV}{Ts:List Ty}{cs:List Value},CRepL X l Ts cs→cs.length=Ty.sizeL Ts
 | [],[],cs,h=>by simp only [CRepL] at h;simp [h,Ty.sizeL]
 | s::l,T::Ts,cs,h=>by
  simp only [CRepL] at h
  obtain ⟨c1,c2,e,ht,h1,h2⟩:=h
  simp [e,Ty.sizeL,CRep.length ht h1,CRepL.length h2]
 | [],_::_,_,h=>by simp only [CRepL] at h
 | _::_,[],_,h=>by simp only [CRepL] at h
end
theorem CRepL.part:∀ {l:List SV}{Ts:List Ty}{cs:List Value}{j:Nat}{s:SV}{T:Ty},CRepL X l Ts cs→l[j]?=some s→Ts[j]?=some T →
  s.hasTy T∧CRep X s ((cs.drop (Ty.sizeL (Ts.take j))).take T.size)
 | [],_,_,j,_,_,_,hl,_=>by simp at hl
 | _::_,[],_,j,_,_,_,_,hT=>by simp at hT
 | u::l,U::Ts,cs,0,s,T,h,hl,hT=>by
  simp only [CRepL] at h
  obtain ⟨c1,c2,e,ht,h1,h2⟩:=h
  simp at hl hT
  subst hl hT e
  have hlen:=CRep.length ht h1
  exact ⟨ht,by simpa [Ty.sizeL,← hlen] using h1⟩
 | u::l,U::Ts,cs,j + 1,s,T,h,hl,hT=>by
  simp only [CRepL] at h
  obtain ⟨c1,c2,e,ht,h1,h2⟩:=h
  simp at hl hT
  subst e
  have hlen:=CRep.length ht h1
  have:=CRepL.part h2 hl hT
  simpa only [List.take_succ_cons,Ty.sizeL,← hlen,zdD] using this
theorem ztW {t:TypeId}{T:Ty}{i:TypeInfo}(tf:TyFact cx t T i) {s:SV}(ht:s.hasTy T) {cs:Array Value}{off:Nat}(h:CRep X s ((cs.toList.drop off).take T.size)) :
  ∃ v,(part t cs off).run cx.P X.w=.ok v X.w∧VRep X s v:=by
 have hn:=za7 tf.known
 have single:T.isAgg=false→∃ v,(part t cs off).run cx.P X.w=.ok v X.w∧(cs.toList.drop off).take T.size=[v]:=fun hT=>by
  have h1:=ziO hT
  have hlen:=CRep.length ht h
  rw [h1] at hlen
  rw [h1]
  cases hc:cs.toList.drop off with
  | nil=>rw [hc] at hlen;simp at hlen
  | cons v l =>
   have hv:cs[off]?=some v:=by
    have:=congrArg (fun l=>l[0]?) hc
    simpa using this
   exact ⟨v,by simp [part,zgv tf.desc,hT,hv],by simp⟩
 cases s with
 | d T' a =>
  simp only [SV.hasTy] at ht
  subst ht
  simp only [CRep] at h
  obtain ⟨d,h1,h2⟩:=h
  obtain ⟨v,hr,hv⟩:=zcX tf h2
  exact ⟨v,hr,VRep.data.2 ⟨d,h1,hv⟩⟩
 | ag T' l =>
  simp only [SV.hasTy] at ht
  subst ht
  cases T'<;>simp only [CRep] at h
  refine ⟨.agg (cs.extract off (off + i.size)),by simp [part,zgv tf.desc,Ty.isAgg,zbf tf.info],?_⟩
  simp only [VRep]
  refine ⟨_,rfl,?_⟩
  rw [tf.size]
  simpa [List.take_drop] using h
 | un n =>
  cases hT:T.isAgg with
  | true=>exact ⟨.agg (cs.extract off (off + i.size)),by simp [part,zgv tf.desc,hT,zbf tf.info],by simp only [VRep]⟩
  | false =>
   obtain ⟨v,hr,_⟩:=single hT
   exact ⟨v,hr,by simp only [VRep]⟩
 | tu l=>simp only [SV.hasTy] at ht
 | cv v=>exact absurd ht hn
 | p _ _ _ _=>exact absurd ht hn
 | pm _ _ _ _ _ _=>exact absurd ht hn
 | mr _ _ _=>exact absurd ht hn
 | pd _ _=>exact absurd ht hn
 | fn _ _ _=>exact absurd ht hn
 | h e r vw =>
  simp only [SV.hasTy] at ht;subst ht
  obtain ⟨v,hr,e⟩:=single rfl
  rw [e] at h
  simp only [CRep] at h
  obtain ⟨v',e',h⟩:=h
  injection e' with e'
  subst e'
  exact ⟨v,hr,by simp only [VRep];exact h⟩
 | hc e r i =>
  simp only [SV.hasTy] at ht;subst ht
  obtain ⟨v,hr,e⟩:=single rfl
  rw [e] at h
  simp only [CRep] at h
  obtain ⟨v',e',h⟩:=h
  injection e' with e'
  subst e'
  exact ⟨v,hr,by simp only [VRep];exact h⟩
 | z e a =>
  simp only [SV.hasTy] at ht;subst ht
  obtain ⟨v,hr,e⟩:=single rfl
  rw [e] at h
  simp only [CRep] at h
  obtain ⟨v',e',h⟩:=h
  injection e' with e'
  subst e'
  exact ⟨v,hr,by simp only [VRep];exact h⟩
 | hb R e n r q =>
  simp only [SV.hasTy] at ht;subst ht
  obtain ⟨v,hr,e⟩:=single rfl
  rw [e] at h
  simp only [CRep] at h
  obtain ⟨v',e',h⟩:=h
  injection e' with e'
  subst e'
  exact ⟨v,hr,by simp only [VRep];exact h⟩
 | hr e r i g =>
  simp only [SV.hasTy] at ht;subst ht
  obtain ⟨v,hr,e⟩:=single rfl
  rw [e] at h
  simp only [CRep] at h
  obtain ⟨v',e',h⟩:=h
  injection e' with e'
  subst e'
  exact ⟨v,hr,by simp only [VRep];exact h⟩
theorem zkL (ty:TysOk cx) {t:TypeId}{x sv:SV}{j:Nat}{s0 s':SS}(h:Run (zjs cx t x j) X.μ s0 sv s') (hs:Sat C k X.E s'.bs s'.nv) {vx:Value}(hx:VRep X x vx) :
  zbd cx.P X (Instr.field t vx j) sv s0 s':=by
 unfold zjs at h
 obtain ⟨F,s1,h1,h2⟩:=Run.bind h
 obtain ⟨hF,es⟩:=Run.of h1
 subst es
 obtain ⟨Ts,i,fs,f,i',hT,hFj,tf,hu,hf,hfT,hoff,tf'⟩:=zkX ty hF
 split at h2
 ·rename_i T' a
  obtain ⟨_,s2,h3,h4⟩:=Run.bind h2
  obtain ⟨hb,es⟩:=Run.guard h3
  subst es
  have hT':=Ty.beq_eq hb
  rw [hT] at hT'
  subst hT'
  obtain ⟨v,s3,h5,h6⟩:=Run.bind h4
  obtain ⟨e1,e2⟩:=Run.pure h6
  subst e1 e2
  obtain ⟨⟨d,d',q1,q2,q3⟩,q4,q5⟩:=Run.op1 h5 hs
  obtain ⟨d0,f1,f2⟩:=VRep.data.1 hx
  rw [f1] at q1
  injection q1 with q1
  subst q1
  obtain ⟨cs,e1,e2⟩:=f2.field hFj q2
  subst e1
  rw [← hoff] at e2
  obtain ⟨v',hr,hv'⟩:=zcX tf' e2
  exact ⟨q4,q5,v',by simp [Instr.field,zab hu,hf,asAgg,hr],VRep.data.2 ⟨d',q3,hv'⟩⟩
 ·rename_i T' l
  obtain ⟨_,s2,h3,h4⟩:=Run.bind h2
  obtain ⟨hb,es⟩:=Run.guard h3
  subst es
  have hT':=Ty.beq_eq hb
  rw [hT] at hT'
  subst hT'
  obtain ⟨hl,es⟩:=Run.of h4
  subst es
  simp only [VRep] at hx
  obtain ⟨cs,e1,e2⟩:=hx
  subst e1
  obtain ⟨hty,hc⟩:=CRepL.part e2 hl hFj
  rw [← hoff] at hc
  obtain ⟨v',hr,hv'⟩:=ztW tf' hty hc
  exact ⟨rfl,rfl,v',by simp [Instr.field,zab hu,hf,asAgg,hr],hv'⟩
 ·exact (Run.fail h2).elim
end
end Go.SX
namespace Go.SX
open Go.RowKit (Below)
section
variable {C:FuncId→List D→Option (List D)} {k B0:Nat} {X:Ctx} {cx:Cx}
theorem zoU (a:Option Addr):One (.pointer a):=⟨by simp,by simp⟩
theorem zaf (a:Option Addr) (n c:Nat):One (.slice a n c):=⟨by simp,by simp⟩
theorem zkg {t:TypeId}{fs:Array Field}{j:Nat}{f:Field}{w:World}{a:Addr}{F:Ty}{i':TypeInfo}(hu:cx.P.underlying t=some (.struct fs)) (hf:fs[j]?=some f) (tf:TyFact cx f.type F i') (h0:F.size≠0) :
  (Instr.fieldAt t (.pointer (some a)) j).run cx.P w=.ok (.pointer (some (a.add f.offset))) w:=by
 have hs:i'.size≠0:=by rw [tf.size];exact h0
 simp [Instr.fieldAt,zab hu,hf,Instr.sureAddr,fieldPlace,zbf tf.info,hs]
theorem zg2 (ty:TysOk cx) {t:TypeId}{x sv:SV}{j:Nat}{s0 s':SS}(h:Run (zeD cx t x j) X.μ s0 sv s') (hs:Sat C k X.E s'.bs s'.nv) {vx:Value}(hx:VRep X x vx) :
  zbd cx.P X (Instr.fieldAt t vx j) sv s0 s':=by
 unfold zeD at h
 obtain ⟨F,s1,h1,h2⟩:=Run.bind h
 obtain ⟨hF,es⟩:=Run.of h1
 subst es
 obtain ⟨Ts,i,fs,f,i',hT,hFj,tf,hu,hf,hfT,hoff,tf'⟩:=zkX ty hF
 obtain ⟨_,s2,h3,h4⟩:=Run.bind h2
 obtain ⟨hz,es⟩:=Run.guard h3
 subst es
 have hz:F.size≠0:=by
  intro e;rw [e] at hz;simp at hz
 split at h4
 ·rename_i R T' r q
  obtain ⟨_,s3,h5,h6⟩:=Run.bind h4
  obtain ⟨hb,es⟩:=Run.guard h5
  subst es
  have hT':=Ty.beq_eq hb
  rw [hT] at hT'
  subst hT'
  obtain ⟨e1,e2⟩:=Run.pure h6
  subst e1 e2
  simp only [VRep,Ref] at hx
  obtain ⟨hA,b,off,e1,e2,e3,e4⟩:=hx
  subst e1
  obtain ⟨g1,g2⟩:=zgs e3 e4 hFj
  refine ⟨rfl,rfl,_,zkg hu hf tf' hz,?_⟩
  simp only [VRep,Ref]
  exact ⟨hA,b,_,by rw [addr_add,hoff],e2,g1,g2⟩
 ·rename_i T' a
  obtain ⟨_,s3,h5,h6⟩:=Run.bind h4
  obtain ⟨hb,es⟩:=Run.guard h5
  subst es
  have hT':=Ty.beq_eq hb
  rw [hT] at hT'
  subst hT'
  obtain ⟨v,s4,h7,h8⟩:=Run.bind h6
  obtain ⟨e1,e2⟩:=Run.pure h8
  subst e1 e2
  obtain ⟨⟨d,d',q1,q2,q3⟩,q4,q5⟩:=Run.op1 h7 hs
  simp only [VRep,Ref] at hx
  obtain ⟨ad,d0,xs,e1,e2,e3,e4,e5⟩:=hx
  rw [e2] at q1
  injection q1 with q1
  subst q1 e1
  refine ⟨q4,q5,_,zkg hu hf tf' hz,?_⟩
  cases d0<;>simp only [DRep] at e3
  simp only [Prim.run] at q2
  have hp:=e3.part hFj q2
  have hlen:=hp.length
  simp only [VRep,Ref]
  refine ⟨_,d',_,rfl,q3,hp,fun n u hn=>?_,fun hne=>?_⟩
  ·rw [List.getElem?_take] at hn
   split at hn
   ·rw [List.getElem?_drop] at hn
    rw [add_add,hoff]
    exact e4 _ u hn
   ·cases hn
  ·rw [add_block]
   exact e5 (by intro e;subst e;simp at hne)
 ·exact (Run.fail h4).elim
theorem zcg {w:World}{P:Program}(kk:IntKind) (n:Int):(asIntOf (.int kk n)).run P w=.ok (kk,n) w:=rfl
theorem zcs {t E:TypeId}{w:World}{i:TypeInfo}{a:Addr}{len cap:Nat}{kk:IntKind}{z:Int}(hu:cx.P.underlying t=some (.slice E)) (hi:cx.P.info? E=some i) (h0:0≤z) (h1:z<len) :
  (Instr.indexAt t (.slice (some a) len cap) (.int kk z)).run cx.P w=.ok (.pointer (some (a.add (z.toNat * i.size)))) w:=by
 simp [Instr.indexAt,zab hu,zcg,h0,h1,zbf hi]
theorem zhU {t E:TypeId}{w:World}{i:TypeInfo}{a:Addr}{n:Nat}{kk:IntKind}{z:Int}(hu:cx.P.underlying t=some (.array n E)) (hi:cx.P.info? E=some i) (h0:0≤z) (h1:z<n) :
  (Instr.indexAt t (.pointer (some a)) (.int kk z)).run cx.P w=.ok (.pointer (some (a.add (z.toNat * i.size)))) w:=by
 simp [Instr.indexAt,zab hu,zcg,Instr.sureAddr,h0,h1,zbf hi]
theorem zak (ty:TysOk cx) {t:TypeId}{e:Ty}(h:cx.T t=.sl e):∃ E i,cx.P.underlying t=some (.slice E)∧TyFact cx E e i:=by
 obtain ⟨i,tf⟩:=ty.get h (by simp)
 obtain ⟨E,hu,hE⟩:=tf.desc
 have hk:=tf.known
 simp only [Ty.known] at hk
 obtain ⟨i',tf'⟩:=ty.get hE (za7 hk)
 exact ⟨E,i',hu,tf'⟩
theorem zhc (ty:TysOk cx) {t:TypeId}{n:Nat}{e:Ty}(h:cx.T t=.arr n e):∃ E i,cx.P.underlying t=some (.array n E)∧TyFact cx E e i:=by
 obtain ⟨i,tf⟩:=ty.get h (by simp)
 obtain ⟨E,hu,hE⟩:=tf.desc
 have hk:=tf.known
 simp only [Ty.known] at hk
 obtain ⟨i',tf'⟩:=ty.get hE (za7 hk)
 exact ⟨E,i',hu,tf'⟩
theorem zpv {e:Ty}{ad:Addr}{xs:List Value}{d:D}{o:Nat}{M:Nat→Prop}{w:World}(hp:DRep w M e d ((xs.drop o).take e.size)) (hc:∀ j u,xs[j]?=some u→w.cell? (ad.add j)=some u) (hm:xs≠[]→¬ M ad.block) :
  (∀ (j:Nat) (u:Value),((xs.drop o).take e.size)[j]?=some u→w.cell? ((ad.add o).add j)=some u)∧((xs.drop o).take e.size≠[]→¬ M (ad.add o).block):=by
 refine ⟨fun n u hn=>?_,fun hne=>?_⟩
 ·rw [List.getElem?_take] at hn
  split at hn
  ·rw [List.getElem?_drop] at hn
   rw [add_add]
   exact hc _ u hn
  ·cases hn
 ·rw [add_block]
  exact hm (by intro e;subst e;simp at hne)
theorem HRep.val {e:Ty}{r:Nat}{vw:Option (At×At)}{v:Value}(h:HRep X e r vw v) {a:At}(hR:(X.μ r).row?=some (e,a)) {d:D}(hd:a.get X.E=some d) :
  ((X.β r).main=none∧Empt d v∧zhs X.E vw)∨(∃ b l,(X.β r).main=some b∧d=.sl l∧zeK X.E X.w e b l.length vw v):=by
 obtain ⟨a',d',h1,h2,h3⟩:=h
 rw [hR] at h1
 injection h1 with h1
 injection h1 with _ h1
 subst h1
 rw [hd] at h2
 injection h2 with h2
 subst h2
 exact h3
theorem zh0 {e:Ty}{r:Nat}{σ σ':SS}{a:At}{v:Value}{vw:Option (At×At)}(hB:B0≤X.w.heap.size) (m:Mem B0 X) (h0:σ.up=[]) (h:Run (SV.view false (.sl e) (.h e r none)) X.μ σ a σ') (hv:Ref X (.h e r vw) v) :
  σ'=σ∧(X.μ r).row?=some (e,a)∧HRep X e r vw v:=by
 simp only [SV.view] at h
 obtain ⟨_,s1,h1,h2⟩:=Run.bind h
 obtain ⟨_,es⟩:=Run.guard h1
 subst es
 obtain ⟨a0,s2,h3,h4⟩:=Run.bind h2
 obtain ⟨e1,e2⟩:=Run.pure h4
 subst e1 e2
 simp only [Ref] at hv
 obtain ⟨_,hA,hh⟩:=hv
 obtain ⟨r1,_,_,hf,r2,_⟩:=zbU h3 (X:=X) (by rw [h0];exact m) hB hA
 rw [h0] at r1
 refine ⟨hf rfl,r1,hh ?_⟩
 have r1':(X.μ r).row?=some (e,a):=r1
 cases hk:X.μ r with
 | dead=>rw [hk] at r1';simp [Root.row?] at r1'
 | _=>rfl
theorem zu4 {e:Ty}{r:Nat}{σ σ':SS}{a:At}{v:Value}{vw:Option (At×At)}(hB:B0≤X.w.heap.size) (m:Mem B0 X) (h0:σ.up=[]) (h:Run (zuT e r) X.μ σ a σ') (hv:Ref X (.h e r vw) v) :
  σ'=σ∧(X.μ r).row?=some (e,a)∧HRep X e r vw v:=by
 unfold zuT at h
 obtain ⟨R,s1,h1,h2⟩:=Run.bind h
 obtain ⟨eR,es⟩:=Run.root h1
 subst es
 rw [h0,zar] at eR
 split at h2
 ·obtain ⟨_,s2,h3,h4⟩:=Run.bind h2
  obtain ⟨hb,es⟩:=Run.guard h3
  subst es
  obtain ⟨e1,e2⟩:=Run.pure h4
  subst e1 e2
  have he:=Ty.beq_eq hb
  simp only [Ref] at hv
  refine ⟨rfl,by rw [← eR,he];rfl,hv.2.2 (by rw [← eR];rfl)⟩
 ·exact zh0 hB m h0 h2 hv
theorem zgT (ty:TysOk cx) (hB:B0≤X.w.heap.size) (m:Mem B0 X) {t:TypeId}{x ix sv:SV}{s0 s':SS}(h0:s0.up=[]) (h:Run (zev cx t x ix) X.μ s0 sv s') (hs:Sat C k X.E s'.bs s'.nv)
  {vx vi:Value} (hx:VRep X x vx) (hi:VRep X ix vi):zbd cx.P X (Instr.indexAt t vx vi) sv s0 s':=by
 unfold zev at h
 obtain ⟨⟨kk,ai⟩,s1,h1,h2⟩:=Run.bind h
 obtain ⟨es,z,hz,hvi⟩:=za8 h1 hi
 subst es hvi
 simp only at hz h2
 split at h2
 ·
  rename_i e T a hT
  obtain ⟨E,i,hu,tf⟩:=zak ty hT
  obtain ⟨_,s2,h3,h4⟩:=Run.bind h2
  obtain ⟨hb,es⟩:=Run.guard h3
  subst es
  have hT':=Ty.beq_eq hb
  subst hT'
  obtain ⟨v,s3,h5,h6⟩:=Run.bind h4
  obtain ⟨e1,e2⟩:=Run.pure h6
  subst e1 e2
  obtain ⟨⟨d1,d2,d,q1,q2,q3,q4⟩,q5,q6⟩:=Run.op2 h5 hs
  obtain ⟨d0,f1,f2⟩:=VRep.data.1 hx
  rw [f1] at q1
  rw [hz] at q2
  injection q1 with q1
  injection q2 with q2
  subst q1 q2
  unfold DVal at f2
  simp only [Ty.isAgg,wA0,if_false] at f2
  obtain ⟨_,f2⟩:=f2
  cases d0<;>simp only [DRep] at f2<;>try (simp [Prim.run] at q3)
  rename_i l
  obtain ⟨ad,cap,xs,g1,g2,g3,g4,g5⟩:=f2
  injection g1 with g1
  subst g1
  obtain ⟨hz0,q3⟩:=q3
  have hlt:z.toNat<l.length:=by
   rcases Nat.lt_or_ge z.toNat l.length with h|h
   ·exact h
   ·rw [List.getElem?_eq_none h] at q3;cases q3
  refine ⟨q5,q6,_,zcs hu tf.info hz0 (by omega),?_⟩
  have hp:=g3.part q3
  rw [tf.size]
  obtain ⟨c1,c2⟩:=zpv hp g4 g5
  simp only [VRep,Ref]
  exact ⟨_,d,_,rfl,q4,hp,c1,c2⟩
 ·
  rename_i e e' r vw hT
  obtain ⟨E,i,hu,tf⟩:=zak ty hT
  obtain ⟨_,s2,h3,h4⟩:=Run.bind h2
  obtain ⟨hb,es⟩:=Run.guard h3
  subst es
  have he:=Ty.beq_eq hb
  subst he
  simp only [VRep] at hx
  have hA:X.A r:=by simp only [Ref] at hx;exact hx.2.1
  cases vw with
  | none =>
   obtain ⟨a,s3,h5,h6⟩:=Run.bind h4
   obtain ⟨j,s4,h7,h8⟩:=Run.bind h6
   obtain ⟨e1,e2⟩:=Run.pure h8
   subst e1 e2
   obtain ⟨es,hrow,hh⟩:=zu4 hB m h0 h5 hx
   subst es
   obtain ⟨⟨d1,d2,d,q1,q2,q3,q4⟩,q5,q6⟩:=Run.op2 h7 hs
   rw [hz] at q2
   injection q2 with q2
   subst q2
   rcases hh.val hrow q1 with ⟨_,e1,_⟩|⟨b,l,p1,p2,cap,bs,p3,p4,p5,p6⟩
   ·rcases e1.em with h|h<;>subst h<;>simp [Prim.run] at q3
    omega
   ·subst p2 p3
    simp [Prim.run] at q3
    obtain ⟨⟨c1,c2⟩,c3⟩:=q3
    subst c3
    refine ⟨q5,q6,_,zcs hu tf.info c1 c2,?_⟩
    simp only [VRep,Ref]
    exact ⟨hA,b,z.toNat * e'.size,by rw [addr_add,Nat.zero_add,tf.size],p1,by simp [tOff,q4,c1],by simp [tyAt]⟩
  | some p =>
   obtain ⟨lo,hi'⟩:=p
   obtain ⟨a,s3,h5,h6⟩:=Run.bind h4
   obtain ⟨j,s4,h7,h8⟩:=Run.bind h6
   obtain ⟨e1,e2⟩:=Run.pure h8
   subst e1 e2
   obtain ⟨es,hrow,hh⟩:=zh0 hB m h0 h5 hx
   subst es
   obtain ⟨⟨d1,d2,d3,d,q1,q2,q3,q4,q5⟩,q6,q7⟩:=Run.op3 h7 hs
   rw [hz] at q3
   injection q3 with q3
   subst q3
   obtain ⟨a',dd,g1,g2,g3⟩:=hh
   rcases g3 with ⟨_,_,k1,k2,w1,w2⟩|⟨b,l,p1,p2,ad,cap,bs,k1,k2,i',j',p3,p4,p5,p6,p7,p8,p9,p10,p11⟩
   ·rw [w1] at q1
    rw [w2] at q2
    injection q1 with q1
    injection q2 with q2
    subst q1 q2
    simp [Prim.run] at q4
    omega
   ·rw [p3] at q1
    rw [p4] at q2
    injection q1 with q1
    injection q2 with q2
    subst q1 q2 p2 p7
    simp only [Prim.run,Int.ofNat_eq_natCast] at q4
    split at q4
    ·rename_i hc
     injection q4 with q4
     subst q4
     refine ⟨q6,q7,_,zcs hu tf.info hc.1 (by omega),?_⟩
     have had:=p11 (.inl (by omega))
     simp only [VRep,Ref]
     refine ⟨hA,b,((i':Int) + z).toNat * e'.size,?_,p1,by simp only [tOff,q5];rw [if_pos (by omega)];simp,by simp [tyAt]⟩
     rw [had,addr_add,tf.size,← Nat.add_mul]
     congr 4
     omega
    ·cases q4
 ·
  rename_i e e' r aix g hT
  obtain ⟨E,i,hu,tf⟩:=zak ty hT
  obtain ⟨_,s2,h3,h4⟩:=Run.bind h2
  obtain ⟨hb,es⟩:=Run.guard h3
  subst es
  have he:=Ty.beq_eq hb
  subst he
  obtain ⟨a,s3,h5,h6⟩:=Run.bind h4
  obtain ⟨j,s4,h7,h8⟩:=Run.bind h6
  obtain ⟨e1,e2⟩:=Run.pure h8
  subst e1 e2
  simp only [VRep] at hx
  have hx2:=hx
  simp only [Ref] at hx2
  obtain ⟨hone,hA,hh⟩:=hx2
  simp only [SV.view] at h5
  obtain ⟨_,t1,g1,g2⟩:=Run.bind h5
  obtain ⟨_,es⟩:=Run.guard g1
  subst es
  obtain ⟨a0,t2,g3,g4⟩:=Run.bind g2
  obtain ⟨r1,_,_,hf,_,_⟩:=zhl g3 (X:=X) (by rw [h0];exact m) hB hA
  have et:=hf rfl
  subst et
  rw [h0] at r1
  have r1':X.μ r=.mat e' a0 g:=r1
  obtain ⟨_,hh'⟩:=hh e' a0 g r1'
  obtain ⟨_,k0,n,ds,d0,o,c1,c2,c3,c4,c5⟩:=hh' rfl
  have hs3:=h7.sat hs
  obtain ⟨⟨u1,u2,u,f1,f2,f3,f4⟩,f5,f6⟩:=Run.op2 g4 hs3
  rw [c1] at f1
  rw [c2] at f2
  injection f1 with f1
  injection f2 with f2
  subst f1 f2
  simp only [Prim.run,Int.ofNat_eq_natCast,Int.toNat_natCast] at f3
  rw [if_pos (by omega),c3] at f3
  injection f3 with f3
  subst f3
  obtain ⟨⟨d1,d2,d,q1,q2,q3,q4⟩,q5,q6⟩:=Run.op2 h7 hs
  rw [f4] at q1
  rw [hz] at q2
  injection q1 with q1
  injection q2 with q2
  subst q1 q2
  rcases c5 with ⟨p1,p2⟩|⟨b,l,cap,bs,p1,p2,p3,p4,p5,p6⟩
  ·rcases p2.em with h|h<;>subst h<;>simp [Prim.run] at q3
   omega
  ·subst p2 p3 p1
   simp [Prim.run] at q3
   obtain ⟨⟨w1,w2⟩,w3⟩:=q3
   subst w3
   refine ⟨by rw [q5,f5],by rw [q6,f6],_,zcs hu tf.info w1 w2,?_⟩
   simp only [VRep,Ref]
   refine ⟨zoU _,hA,fun e2 a2 g2 hm=>?_⟩
   rw [r1'] at hm
   injection hm with m1 m2 m3
   subst m1 m2 m3
   refine ⟨wG0 _,fun _=>⟨rfl,k0,n,b,z.toNat * e'.size,c2,c4,by rw [addr_add,Nat.zero_add,tf.size],by simp [tOff,q4,w1],by simp [tyAt]⟩⟩
 ·
  rename_i n e R T r q hT
  obtain ⟨E,i,hu,tf⟩:=zhc ty hT
  obtain ⟨_,s2,h3,h4⟩:=Run.bind h2
  obtain ⟨hb,es⟩:=Run.guard h3
  subst es
  have he:=Ty.beq_eq hb
  subst he
  obtain ⟨j,s4,h7,h8⟩:=Run.bind h4
  obtain ⟨e1,e2⟩:=Run.pure h8
  subst e1 e2
  obtain ⟨⟨d1,d,q1,q2,q3⟩,q4,q5⟩:=Run.op1 h7 hs
  rw [hz] at q1
  injection q1 with q1
  subst q1
  simp [Prim.run] at q2
  obtain ⟨⟨w1,w2⟩,w3⟩:=q2
  subst w3
  simp only [VRep,Ref] at hx
  obtain ⟨hA,b,off,e1,e2,e3,e4⟩:=hx
  subst e1
  obtain ⟨g1,g2⟩:=zga q3 w1 e3 e4
  refine ⟨q4,q5,_,zhU hu tf.info w1 w2,?_⟩
  simp only [VRep,Ref]
  exact ⟨hA,b,_,by rw [addr_add,tf.size],e2,g1,g2⟩
 ·
  rename_i n e T a hT
  obtain ⟨E,i,hu,tf⟩:=zhc ty hT
  obtain ⟨_,s2,h3,h4⟩:=Run.bind h2
  obtain ⟨hb,es⟩:=Run.guard h3
  subst es
  have he:=Ty.beq_eq hb
  subst he
  obtain ⟨v,s3,h5,h6⟩:=Run.bind h4
  obtain ⟨e1,e2⟩:=Run.pure h6
  subst e1 e2
  obtain ⟨⟨d1,d2,d,q1,q2,q3,q4⟩,q5,q6⟩:=Run.op2 h5 hs
  simp only [VRep,Ref] at hx
  obtain ⟨ad,d0,xs,e1,e2,e3,e4,e5⟩:=hx
  rw [e2] at q1
  rw [hz] at q2
  injection q1 with q1
  injection q2 with q2
  subst q1 q2 e1
  cases d0<;>simp only [DRep] at e3
  rename_i l
  simp only [Prim.run] at q3
  split at q3
  ·rename_i hz0
   have hlt:z.toNat<n:=by
    rw [← e3.1]
    rcases Nat.lt_or_ge z.toNat l.length with h|h
    ·exact h
    ·rw [List.getElem?_eq_none h] at q3;cases q3
   refine ⟨q5,q6,_,zhU hu tf.info hz0 (by omega),?_⟩
   have hp:=e3.2.part q3
   rw [tf.size]
   obtain ⟨c1,c2⟩:=zpv hp e4 e5
   simp only [VRep,Ref]
   exact ⟨_,d,_,rfl,q4,hp,c1,c2⟩
  ·cases q3
 ·exact (Run.fail h2).elim
theorem zkw (ty:TysOk cx) {t:TypeId}{x ix sv:SV}{s0 s':SS}(h:Run (zjb cx t x ix) X.μ s0 sv s') (hs:Sat C k X.E s'.bs s'.nv)
  {vx vi:Value} (hx:VRep X x vx) (hi:VRep X ix vi):zbd cx.P X (Instr.index t vx vi) sv s0 s':=by
 unfold zjb at h
 obtain ⟨⟨kk,ai⟩,s1,h1,h2⟩:=Run.bind h
 obtain ⟨es,z,hz,hvi⟩:=za8 h1 hi
 subst es hvi
 simp only at hz h2
 have hx':=zaI hx
 split at h2
 ·rename_i n e T a hT hsx
  rw [hsx] at hx'
  obtain ⟨E,i,hu,tf⟩:=zhc ty hT
  obtain ⟨_,s2,h3,h4⟩:=Run.bind h2
  obtain ⟨hb,es⟩:=Run.guard h3
  subst es
  have he:=Ty.beq_eq hb
  subst he
  obtain ⟨v,s3,h5,h6⟩:=Run.bind h4
  obtain ⟨e1,e2⟩:=Run.pure h6
  subst e1 e2
  obtain ⟨⟨d1,d2,d,q1,q2,q3,q4⟩,q5,q6⟩:=Run.op2 h5 hs
  obtain ⟨d0,f1,f2⟩:=VRep.data.1 hx'
  rw [f1] at q1
  rw [hz] at q2
  injection q1 with q1
  injection q2 with q2
  subst q1 q2
  obtain ⟨z0,z1,cs,e1,e2⟩:=f2.elem q3
  subst e1
  rw [← tf.size] at e2
  have e2':DRep X.w X.M e d ((cs.toList.drop (z.toNat * i.size)).take e.size):=by rw [← tf.size];exact e2
  obtain ⟨v',hr,hv'⟩:=zcX tf e2'
  exact ⟨q5,q6,v',by simp [Instr.index,zab hu,zcg,z0,z1,zbf tf.info,hr],VRep.data.2 ⟨d,q4,hv'⟩⟩
 ·rename_i a hT hsx
  rw [hsx] at hx'
  obtain ⟨i,tf⟩:=ty.get hT (by simp)
  have hu:cx.P.underlying t=some .string:=tf.desc
  obtain ⟨v,s3,h5,h6⟩:=Run.bind h2
  obtain ⟨e1,e2⟩:=Run.pure h6
  subst e1 e2
  obtain ⟨⟨d1,d2,d,q1,q2,q3,q4⟩,q5,q6⟩:=Run.op2 h5 hs
  obtain ⟨d0,f1,f2⟩:=VRep.data.1 hx'
  obtain ⟨s,e1,e2⟩:=f2.str
  subst e1 e2
  rw [f1] at q1
  rw [hz] at q2
  injection q1 with q1
  injection q2 with q2
  subst q1 q2
  simp only [Prim.run] at q3
  split at q3
  ·rename_i z0
   cases hb:s[z.toNat]? with
   | none=>simp [hb] at q3
   | some b =>
    simp only [hb,Option.map_some,wB0] at q3
    subst q3
    exact ⟨q5,q6,.int .u8 b.toNat,by simp [Instr.index,zab hu,zcg,z0,hb],VRep.data.2 ⟨_,q4,DVal.of_int _ _⟩⟩
  ·cases q3
 ·exact (Run.fail h2).elim
end
end Go.SX
namespace Go.SX
open Go.RowKit (Below)
section
variable {C:FuncId→List D→Option (List D)} {k B0:Nat} {X:Ctx} {cx:Cx}
theorem zmH {t E ty:TypeId}{w:World}{A:Option Addr}{n c:Nat}(hu:cx.P.underlying t=some (.slice E)):(Builtin.len_ #[t] ty #[.slice A n c]).run cx.P w=.ok (.int .i64 n) w:=by
 simp [Builtin.len_,zab hu,goInt]
theorem zmE {t ty:TypeId}{w:World}{s:ByteArray}(hu:cx.P.underlying t=some .string):(Builtin.len_ #[t] ty #[.string s]).run cx.P w=.ok (.int .i64 s.size) w:=by
 simp [Builtin.len_,zab hu,goInt]
theorem zrh (hB:B0≤X.w.heap.size) (m:Mem B0 X) {x sv:SV}{s0 s':SS}(h0:s0.up=[]) (h:Run (lenOf x) X.μ s0 sv s') (hs:Sat C k X.E s'.bs s'.nv) {vx:Value}(hx:VRep X x vx) :
  s'.up=s0.up∧s'.ab=s0.ab∧((∃ A n c,vx=.slice A n c∧VRep X sv (.int .i64 n))∨(∃ b,vx=.string b∧(∃ a,simple x=.d .str a)∧VRep X sv (.int .i64 b.size))):=by
 unfold lenOf at h
 have hx':=zaI hx
 split at h
 ·rename_i e a hsx
  rw [hsx] at hx'
  obtain ⟨v,s3,h5,h6⟩:=Run.bind h
  obtain ⟨e1,e2⟩:=Run.pure h6
  subst e1 e2
  obtain ⟨⟨d1,d,q1,q2,q3⟩,q4,q5⟩:=Run.op1 h5 hs
  obtain ⟨d0,f1,f2⟩:=VRep.data.1 hx'
  rw [f1] at q1
  injection q1 with q1
  subst q1
  refine ⟨q4,q5,.inl ?_⟩
  rcases f2.slice with ⟨e1,e2⟩|⟨l,a',cap,e1,e2⟩
  ·subst e1 e2
   simp only [Prim.run,wB0] at q2
   subst q2
   exact ⟨none,0,0,rfl,VRep.data.2 ⟨_,q3,DVal.of_int _ _⟩⟩
  ·subst e1 e2
   simp only [Prim.run,wB0] at q2
   subst q2
   exact ⟨_,_,_,rfl,VRep.data.2 ⟨_,q3,DVal.of_int _ _⟩⟩
 ·rename_i a hsx
  rw [hsx] at hx'
  obtain ⟨v,s3,h5,h6⟩:=Run.bind h
  obtain ⟨e1,e2⟩:=Run.pure h6
  subst e1 e2
  obtain ⟨⟨d1,d,q1,q2,q3⟩,q4,q5⟩:=Run.op1 h5 hs
  obtain ⟨d0,f1,f2⟩:=VRep.data.1 hx'
  rw [f1] at q1
  injection q1 with q1
  subst q1
  obtain ⟨b,e1,e2⟩:=f2.str
  subst e1 e2
  simp only [Prim.run,wB0] at q2
  subst q2
  exact ⟨q4,q5,.inr ⟨b,rfl,⟨a,hsx⟩,VRep.data.2 ⟨_,q3,DVal.of_int _ _⟩⟩⟩
 ·rename_i e r hsx
  rw [hsx] at hx'
  obtain ⟨a,s2,h3,h4⟩:=Run.bind h
  obtain ⟨v,s3,h5,h6⟩:=Run.bind h4
  obtain ⟨e1,e2⟩:=Run.pure h6
  subst e1 e2
  simp only [VRep] at hx'
  obtain ⟨es,hrow,hh⟩:=zh0 hB m h0 h3 hx'
  subst es
  obtain ⟨⟨d1,d,q1,q2,q3⟩,q4,q5⟩:=Run.op1 h5 hs
  refine ⟨q4,q5,.inl ?_⟩
  rcases hh.val hrow q1 with ⟨_,he,_⟩|⟨b,l,p1,p2,cap,bs,p3,p4,p5,p6⟩
  ·obtain ⟨A,e2⟩:=he.val
   subst e2
   rw [he.em.len] at q2
   injection q2 with q2
   subst q2
   exact ⟨A,0,0,rfl,VRep.data.2 ⟨_,q3,DVal.of_int _ _⟩⟩
  ·subst p2 p3
   simp only [Prim.run,wB0] at q2
   subst q2
   exact ⟨_,_,_,rfl,VRep.data.2 ⟨_,q3,DVal.of_int _ _⟩⟩
 ·rename_i e r lo hi hsx
  rw [hsx] at hx'
  obtain ⟨a,s2,h3,h4⟩:=Run.bind h
  obtain ⟨v,s3,h5,h6⟩:=Run.bind h4
  obtain ⟨e1,e2⟩:=Run.pure h6
  subst e1 e2
  simp only [VRep] at hx'
  obtain ⟨es,hrow,hh⟩:=zh0 hB m h0 h3 hx'
  subst es
  obtain ⟨⟨d1,d2,d,q1,q2,q3,q4⟩,q5,q6⟩:=Run.op2 h5 hs
  refine ⟨q5,q6,.inl ?_⟩
  obtain ⟨a',dd,g1,g2,g3⟩:=hh
  rcases g3 with ⟨_,he,k1,k2,w1,w2⟩|⟨b,l,p1,p2,ad,cap,bs,k1,k2,i',j',p3,p4,p5,p6,p7,p8,p9,p10,p11⟩
  ·rw [w1] at q1
   rw [w2] at q2
   injection q1 with q1
   injection q2 with q2
   obtain ⟨A,e2⟩:=he.val
   subst q1 q2 e2
   simp only [Prim.run,wB0] at q3
   subst q3
   exact ⟨A,0,0,rfl,VRep.data.2 ⟨_,q4,DVal.of_int _ _⟩⟩
  ·rw [p3] at q1
   rw [p4] at q2
   injection q1 with q1
   injection q2 with q2
   subst q1 q2 p7
   simp only [Prim.run,wB0] at q3
   subst q3
   refine ⟨_,_,_,rfl,VRep.data.2 ⟨_,q4,?_⟩⟩
   have:(Int.ofNat j' - Int.ofNat i')=((j' - i':Nat):Int):=by simp only [Int.ofNat_eq_natCast];omega
   rw [this]
   exact DVal.of_int _ _
 ·rename_i e r ix g hsx
  rw [hsx] at hx'
  obtain ⟨a,s2,h3,h4⟩:=Run.bind h
  obtain ⟨v,s3,h5,h6⟩:=Run.bind h4
  obtain ⟨e1,e2⟩:=Run.pure h6
  subst e1 e2
  obtain ⟨u1,u2,d0,f1,f2⟩:=zgb hB m h0 h3 (h5.sat hs) hx'
  obtain ⟨⟨d1,d,q1,q2,q3⟩,q4,q5⟩:=Run.op1 h5 hs
  rw [f1] at q1
  injection q1 with q1
  subst q1
  refine ⟨by rw [q4,u1,h0],by rw [q5,u2],.inl ?_⟩
  rcases f2.slice with ⟨e1,e2⟩|⟨l,a',cap,e1,e2⟩
  ·subst e1 e2
   simp only [Prim.run,wB0] at q2
   subst q2
   exact ⟨none,0,0,rfl,VRep.data.2 ⟨_,q3,DVal.of_int _ _⟩⟩
  ·subst e1 e2
   simp only [Prim.run,wB0] at q2
   subst q2
   exact ⟨_,_,_,rfl,VRep.data.2 ⟨_,q3,DVal.of_int _ _⟩⟩
 ·rename_i e a hsx
  rw [hsx] at hx'
  obtain ⟨e1,e2⟩:=Run.pure h
  subst e1 e2
  simp only [VRep,Ref] at hx'
  obtain ⟨d,l,y,_,_,e3,_⟩:=hx'
  exact ⟨rfl,rfl,.inl ⟨y,0,0,e3,VRep.data.2 ⟨_,rfl,DVal.of_int _ _⟩⟩⟩
 ·rename_i R e n r q hsx
  rw [hsx] at hx'
  obtain ⟨e1,e2⟩:=Run.pure h
  subst e1 e2
  simp only [VRep,Ref] at hx'
  obtain ⟨_,_,_,b,_,e3⟩:=hx'
  exact ⟨rfl,rfl,.inl ⟨_,_,_,e3,VRep.data.2 ⟨_,rfl,DVal.of_int _ _⟩⟩⟩
 ·rename_i hsx
  rw [hsx] at hx'
  obtain ⟨e1,e2⟩:=Run.pure h
  subst e1 e2
  simp only [VRep] at hx'
  exact ⟨rfl,rfl,.inl ⟨none,0,0,hx',VRep.data.2 ⟨_,rfl,DVal.of_int _ _⟩⟩⟩
 ·exact (Run.fail h).elim
theorem zmk {kn:List (At×Bool)}(hk:∀ a b,(a,b)∈kn→a.get X.E=some (.bool b)) {c x y sv:SV}{s0 s':SS}(h:Run (zme kn c x y) X.μ s0 sv s') (hs:Sat C k X.E s'.bs s'.nv)
  {vc vx vy:Value} (hc:VRep X c vc) (hx:VRep X x vx) (hy:VRep X y vy) :
  s'.up=s0.up∧s'.ab=s0.ab∧∃ b,vc=.bool b∧VRep X sv (if b then vx else vy):=by
 have known:∀ (l:List (At×Bool)) (a:At) (b:Bool),(∀ a b,(a,b)∈l→a.get X.E=some (.bool b))→zeJ l a=some b→a.get X.E=some (.bool b):=by
  intro l
  induction l with
  | nil=>intro a b _ h;cases h
  | cons p l ih =>
   intro a b hl h
   obtain ⟨a',b'⟩:=p
   simp only [zeJ] at h
   split at h
   ·rename_i hb
    have:=At.beq_eq hb
    subst this
    injection h with h
    subst h
    exact hl a' b' (by simp)
   ·exact ih a b (fun a b hm=>hl a b (List.mem_cons_of_mem _ hm)) h
 unfold zme at h
 have hc':=zaI hc
 have hx':=zaI hx
 have hy':=zaI hy
 split at h
 ·rename_i hsc
  rw [hsc] at hc'
  obtain ⟨d,f1,f2⟩:=VRep.data.1 hc'
  obtain ⟨b,e1,e2⟩:=f2.bool
  simp only [At.get,wB0] at f1
  rw [← f1] at e1
  injection e1 with e1
  subst e1
  obtain ⟨e1,e3⟩:=Run.pure h
  subst e1 e3
  exact ⟨rfl,rfl,true,e2,hx'⟩
 ·rename_i hsc
  rw [hsc] at hc'
  obtain ⟨d,f1,f2⟩:=VRep.data.1 hc'
  obtain ⟨b,e1,e2⟩:=f2.bool
  simp only [At.get,wB0] at f1
  rw [← f1] at e1
  injection e1 with e1
  subst e1
  obtain ⟨e1,e3⟩:=Run.pure h
  subst e1 e3
  exact ⟨rfl,rfl,false,e2,by simpa using hy'⟩
 ·rename_i a _ _ hsc
  rw [hsc] at hc'
  obtain ⟨d,f1,f2⟩:=VRep.data.1 hc'
  obtain ⟨b,e1,e2⟩:=f2.bool
  subst e1
  split at h
  ·rename_i hkn
   have:=known kn a true hk hkn
   rw [f1] at this
   injection this with this
   injection this with this
   subst this
   obtain ⟨e1,e3⟩:=Run.pure h
   subst e1 e3
   exact ⟨rfl,rfl,true,e2,hx'⟩
  ·rename_i hkn
   have:=known kn a false hk hkn
   rw [f1] at this
   injection this with this
   injection this with this
   subst this
   obtain ⟨e1,e3⟩:=Run.pure h
   subst e1 e3
   exact ⟨rfl,rfl,false,e2,by simpa using hy'⟩
  ·split at h
   ·rename_i T u T' u' hsx hsy
    rw [hsx] at hx'
    rw [hsy] at hy'
    obtain ⟨_,s1,h1,h2⟩:=Run.bind h
    obtain ⟨hT,es⟩:=Run.guard h1
    subst es
    have hT:=Ty.beq_eq hT
    subst hT
    obtain ⟨v,s3,h5,h6⟩:=Run.bind h2
    obtain ⟨e1,e3⟩:=Run.pure h6
    subst e1 e3
    obtain ⟨⟨d1,d2,d3,d,q1,q2,q3,q4,q5⟩,q6,q7⟩:=Run.op3 h5 hs
    obtain ⟨x1,g1,g2⟩:=VRep.data.1 hx'
    obtain ⟨y1,i1,i2⟩:=VRep.data.1 hy'
    rw [f1] at q1
    rw [g1] at q2
    rw [i1] at q3
    injection q1 with q1
    injection q2 with q2
    injection q3 with q3
    subst q1 q2 q3
    simp only [Prim.run,wB0] at q4
    subst q4
    refine ⟨q6,q7,b,e2,VRep.data.2 ⟨_,q5,?_⟩⟩
    cases b
    ·exact i2
    ·exact g2
   ·exact (Run.fail h).elim
 ·exact (Run.fail h).elim
theorem zjE {p:Prim}{x y sv:SV}{s0 s':SS}(h:Run (zp1 p [x,y]) X.μ s0 sv s') (hs:Sat C k X.E s'.bs s'.nv) {vx vy:Value}(hx:VRep X x vx) (hy:VRep X y vy) :
  s'.up=s0.up∧s'.ab=s0.ab∧∃ kk a b d ad,vx=.int kk a∧vy=.int kk b∧p.run [.int kk a,.int kk b]=some d∧ad.get X.E=some d∧sv=.d (.int kk) ad:=by
 unfold zp1 at h
 obtain ⟨⟨kk,a⟩,s1,h1,h2⟩:=Run.bind h
 obtain ⟨es,n,f1,f2⟩:=za8 h1 hx
 subst es f2
 obtain ⟨⟨kk',a'⟩,s2,h3,h4⟩:=Run.bind h2
 obtain ⟨es,n',g1,g2⟩:=za8 h3 hy
 subst es g2
 obtain ⟨_,s3,h5,h6⟩:=Run.bind h4
 obtain ⟨hk,es⟩:=Run.guard h5
 subst es
 simp only [decide_eq_true_eq] at hk
 subst hk
 obtain ⟨v,s4,h7,h8⟩:=Run.bind h6
 obtain ⟨e1,e2⟩:=Run.pure h8
 subst e1 e2
 obtain ⟨⟨d1,d2,d,q1,q2,q3,q4⟩,q5,q6⟩:=Run.op2 h7 hs
 simp only at f1 g1
 rw [f1] at q1
 rw [g1] at q2
 injection q1 with q1
 injection q2 with q2
 subst q1 q2
 exact ⟨q5,q6,kk,n,n',d,_,rfl,rfl,q3,q4,rfl⟩
end
end Go.SX
namespace Go.SX
open Go.RowKit (Below)
theorem add_zero (a:Addr):a.add 0=a:=by simp [Addr.add]
section
variable {cx:Cx}
def zhz (o:Option Value) (dflt n:Nat):Prop:=(o=none∧n=dflt)∨∃ k,o=some (.int k (n:Int))
theorem zdp {w:World}{P:Program}{k:IntKind}{n y:Nat}{code:BoundsCode}(h:n≤y):(Instr.sliceBound (.int k (n:Int)) y code).run P w=.ok n w:=by
 simp only [Instr.sliceBound,Sem.run_bind,zcg,Result.andThen_ok]
 rw [if_pos ⟨by simp,by simpa using h⟩]
 simp
theorem zca {t E:TypeId}{w:World}{i:TypeInfo}(hu:cx.P.underlying t=some (.slice E)) (hi:cx.P.info? E=some i) {A:Option Addr}{n c l h:Nat}{lo hi':Option Value}
  (hlo:zhz lo 0 l) (hhi:zhz hi' n h) (h1:l≤h) (h2:h≤c) :
  (Instr.sliceAt t (.slice A n c) lo hi' none).run cx.P w=.ok (.slice (if c=l then A else A.map (·.add (l * i.size))) (h - l) (c - l)) w:=by
 rcases hlo with ⟨e1,e2⟩|⟨k1,e1⟩<;>rcases hhi with ⟨e3,e4⟩|⟨k2,e3⟩<;>subst e1 e3<;>(try subst e2)<;>(try subst e4) <;>
  simp [Instr.sliceAt,zab hu,Instr.slice,Instr.sliceBounds,zdp h1,zdp h2,zbf hi]
theorem zce {t E:TypeId}{w:World}{i:TypeInfo}(hu:cx.P.underlying t=some (.slice E)) (hi:cx.P.info? E=some i) {A:Option Addr}{n c l h m:Nat}{lo hi':Option Value}{k3 k2:IntKind}
  (hlo:zhz lo 0 l) (hhi:hi'=some (.int k2 (h:Int))) (h1:l≤h) (h2:h≤m) (h3:m≤c) :
  (Instr.sliceAt t (.slice A n c) lo hi' (some (.int k3 (m:Int)))).run cx.P w=.ok (.slice (if m=l then A else A.map (·.add (l * i.size))) (h - l) (m - l)) w:=by
 subst hhi
 rcases hlo with ⟨e1,e2⟩|⟨k1,e1⟩<;>subst e1<;>(try subst e2) <;>
  simp [Instr.sliceAt,zab hu,Instr.slice,Instr.sliceBounds,zdp h1,zdp h2,zdp h3,zbf hi]
theorem zng {t:TypeId}{w:World}(hu:cx.P.underlying t=some .string) {s:ByteArray}{l h:Nat}{lo hi':Option Value}
  (hlo:zhz lo 0 l) (hhi:zhz hi' s.size h) (h1:l≤h) (h2:h≤s.size) :
  (Instr.sliceAt t (.string s) lo hi' none).run cx.P w=.ok (.string (s.extract l h)) w:=by
 rcases hlo with ⟨e1,e2⟩|⟨k1,e1⟩<;>rcases hhi with ⟨e3,e4⟩|⟨k2,e3⟩<;>subst e1 e3<;>(try subst e2)<;>(try subst e4) <;>
  simp [Instr.sliceAt,zab hu,Instr.slice,Instr.sliceBounds,zdp h1,zdp h2]
theorem zm8 {t E:TypeId}{w:World}{i:TypeInfo}{n:Nat}(hu:cx.P.underlying t=some (.array n E)) (hi:cx.P.info? E=some i) {a:Addr} :
  (Instr.sliceAt t (.pointer (some a)) none none none).run cx.P w=.ok (.slice (some a) n n) w:=by
 simp [Instr.sliceAt,zab hu,Instr.sureAddr,Instr.sliceBounds,zbf hi,add_zero]
end
section
variable {C:FuncId→List D→Option (List D)} {k B0:Nat} {X:Ctx} {cx:Cx}
def zbu (X:Ctx):Option SV→Option Value→Prop
 | none,none=>True
 | some s,some v=>VRep X s v
 | _,_=>False
theorem zoy {dflt a:At}{o:Option SV}{vo:Option Value}{s0 s':SS}(h:Run (bound dflt o) X.μ s0 a s') (ho:zbu X o vo) :
  s'=s0∧((o=none∧vo=none∧a=dflt)∨∃ kk z,o.isSome∧vo=some (.int kk z)∧a.get X.E=some (.int kk z)):=by
 cases o with
 | none =>
  cases vo with
  | none=>obtain ⟨e1,e2⟩:=Run.pure h;subst e1 e2;exact ⟨rfl,.inl ⟨rfl,rfl,rfl⟩⟩
  | some v=>exact ho.elim
 | some s =>
  cases vo with
  | none=>exact ho.elim
  | some v =>
   obtain ⟨⟨kk,a'⟩,s1,h1,h2⟩:=Run.bind h
   obtain ⟨es,z,hz,hv⟩:=za8 h1 ho
   subst es hv
   obtain ⟨e1,e2⟩:=Run.pure h2
   subst e1 e2
   exact ⟨rfl,.inr ⟨kk,z,rfl,rfl,hz⟩⟩
theorem zhG {o:Option SV}{vo:Option Value}(h:isZero o=true) (ho:zbu X o vo):∃ kk,vo=some (.int kk 0):=by
 unfold isZero at h
 split at h
 ·cases vo with
  | none=>exact ho.elim
  | some v=>simp only [zbu,VRep] at ho;exact ⟨_,by rw [ho]⟩
 ·cases vo with
  | none=>exact ho.elim
  | some v =>
   obtain ⟨d,f1,f2⟩:=(by simpa only [zbu,VRep] using ho:∃ d,_∧_)
   rename_i T kk
   simp only [At.get,wB0] at f1
   subst f1
   cases T<;>simp only [Ty.isAgg,wA0,if_false,if_true,DRep] at f2<;>try (exact f2.2.elim)
   ·obtain ⟨_,e,f2⟩:=f2
    subst e
    injection f2 with f2
    exact ⟨_,by rw [f2]⟩
   ·obtain ⟨cs,_,f2⟩:=f2;exact f2.elim
   ·obtain ⟨cs,_,f2⟩:=f2;exact f2.elim
 ·cases h
theorem At.nat {a:At}{kk:IntKind}{z:Int}(h:0≤z) (ha:a.get X.E=some (.int kk z)):a.get X.E=some (.int kk (Int.ofNat z.toNat)):=by
 rw [ha];simp only [Int.ofNat_eq_natCast,Int.toNat_of_nonneg h]
theorem DVal.sub {w:World}{M:Nat→Prop}{e:Ty}{l:List D}{v:Value}(h:DVal w M (.sl e) (.sl l) v) {i j:Nat}(h1:i≤j) (h2:j≤l.length) :
  ∃ a cap,v=.slice (some a) l.length cap∧l.length≤cap∧∀ m,j≤m→m≤cap→DVal w M (.sl e) (.sl ((l.take j).drop i)) (.slice (if m=i then some a else some (a.add (i * e.size))) (j - i) (m - i)):=by
 unfold DVal at h
 simp only [Ty.isAgg,wA0,if_false,DRep] at h
 obtain ⟨_,a,cap,xs,g1,g2,g3,g4,g5⟩:=h
 injection g1 with g1
 subst g1
 refine ⟨a,cap,rfl,g2,fun m hm1 hm2=>?_⟩
 unfold DVal
 simp only [Ty.isAgg,wA0,if_false,DRep]
 have hlen:((l.take j).drop i).length=j - i:=by simp only [List.length_drop,wE0];omega
 have hxl:=g3.length
 refine ⟨zaf _ _ _,if m=i then a else a.add (i * e.size),m - i,(xs.take (j * e.size)).drop (i * e.size),by rw [hlen];split<;>rfl,by rw [hlen];omega,(g3.take j).drop i,fun n u hn=>?_,fun hne=>?_⟩
 ·have hn':n<((xs.take (j * e.size)).drop (i * e.size)).length:=by
   rcases Nat.lt_or_ge n ((xs.take (j * e.size)).drop (i * e.size)).length with h|h
   ·exact h
   ·rw [List.getElem?_eq_none h] at hn;cases hn
  simp only [List.length_drop,wE0] at hn'
  have hij:i<j:=by
   rcases Nat.lt_or_ge i j with h|h
   ·exact h
   ·have:=Nat.mul_le_mul_right e.size h
    omega
  rw [if_neg (by omega),add_add]
  rw [List.getElem?_drop,List.getElem?_take] at hn
  split at hn
  ·exact g4 _ u hn
  ·cases hn
 ·have hne':((xs.take (j * e.size)).drop (i * e.size)).length≠0:=fun h=>hne (List.eq_nil_of_length_eq_zero h)
  simp only [List.length_drop,wE0] at hne'
  have hx:xs≠[]:=by intro h;subst h;simp at hne'
  split
  ·exact g5 hx
  ·rw [add_block];exact g5 hx
theorem zlf {cx:Cx}{t E:TypeId}{w:World}{i:TypeInfo}(hu:cx.P.underlying t=some (.slice E)) (hi:cx.P.info? E=some i) {A:Option Addr}{n c:Nat}(h:n≤c) :
  (Instr.sliceAt t (.slice A n c) none none none).run cx.P w=.ok (.slice A n c) w:=by
 rw [zca hu hi (.inl ⟨rfl,rfl⟩) (.inl ⟨rfl,rfl⟩) (Nat.zero_le _) h]
 have:(if c=0 then A else A.map fun x=>x.add (0 * i.size))=A:=by
  split
  ·rfl
  ·cases A with
   | none=>rfl
   | some a=>simp [add_zero]
 rw [this]
 rfl
theorem zlc {E:List D}{w:World}{e:Ty}{b n:Nat}{A:Option Addr}{nn cap:Nat}(h:zeK E w e b n none (.slice A nn cap)) {lo hi:At}{k1 k2:IntKind}{i j m:Nat}
  (hlo:lo.get E=some (.int k1 (Int.ofNat i))) (hhi:hi.get E=some (.int k2 (Int.ofNat j))) (h1:i≤j) (h2:j≤n) (hm:n≤m) (hc:m≤cap) :
  zeK E w e b n (some (lo,hi)) (.slice (if m=i then A else A.map (·.add (i * e.size))) (j - i) (m - i)):=by
 obtain ⟨cap',bs,g1,g2,g3,g4⟩:=h
 injection g1 with g1 g5 g6
 subst g1 g5 g6
 refine ⟨if m=i then ⟨b,0,none⟩ else ⟨b,i * e.size,none⟩,m - i,bs,k1,k2,i,j,hlo,hhi,h1,h2,?_,by omega,g3,?_,fun h=>?_⟩
 ·split
  ·rfl
  ·simp [addr_add]
 ·have:=Nat.mul_le_mul_right e.size (show i + (m - i)≤cap by omega)
  omega
 ·split
  ·rename_i hmi
   rcases h with h|h
   ·omega
   ·subst h;simp
  ·rfl
theorem za1 {dflt a:At}{o:Option SV}{vo:Option Value}{s0 s':SS}(h:Run (bound dflt o) X.μ s0 a s') (ho:zbu X o vo) {kd:IntKind}{nd:Nat}(hd:dflt.get X.E=some (.int kd (Int.ofNat nd))) :
  s'=s0∧∃ kk z,a.get X.E=some (.int kk z)∧(0≤z→zhz vo nd z.toNat∧a.get X.E=some (.int kk (Int.ofNat z.toNat))):=by
 obtain ⟨es,hb⟩:=zoy h ho
 refine ⟨es,?_⟩
 rcases hb with ⟨_,e2,e3⟩|⟨kk,z,_,e2,e3⟩
 ·subst e3
  exact ⟨kd,Int.ofNat nd,hd,fun _=>⟨.inl ⟨e2,by simp⟩,by simpa using hd⟩⟩
 ·exact ⟨kk,z,e3,fun h0=>⟨.inr ⟨kk,by rw [e2];simp [Int.toNat_of_nonneg h0]⟩,At.nat h0 e3⟩⟩
theorem zpg {kk:IntKind}{z:Int}(h:0≤z):(D.int kk z)=.int kk (Int.ofNat z.toNat):=by simp [Int.toNat_of_nonneg h]
theorem zjI {t E:TypeId}{e:Ty}{i:TypeInfo}(hu:cx.P.underlying t=some (.slice E)) (tf:TyFact cx E e i) {a:At}{sv:SV}{lo hi:Option SV}{s0 s':SS}(h:Run (zqB e a lo hi) X.μ s0 sv s') (hs:Sat C k X.E s'.bs s'.nv)
  {vx:Value} {vlo vhi:Option Value} {d0:D} (ha:a.get X.E=some d0) (hx:DVal X.w X.M (.sl e) d0 vx) (hlo:zbu X lo vlo) (hhi:zbu X hi vhi):zbd cx.P X (Instr.sliceAt t vx vlo vhi none) sv s0 s':=by
 unfold zqB at h
 obtain ⟨al,s1,h1,h2⟩:=Run.bind h
 obtain ⟨an,s2,h3,h4⟩:=Run.bind h2
 obtain ⟨ah,s3,h5,h6⟩:=Run.bind h4
 obtain ⟨av,s4,h7,h8⟩:=Run.bind h6
 obtain ⟨e1,e2⟩:=Run.pure h8
 subst e1 e2
 have hs3:=h7.sat hs
 have hs2:=h5.sat hs3
 obtain ⟨es,kl,zl,gl,gl'⟩:=za1 h1 hlo (kd:=.i64) (nd:=0) rfl
 subst es
 obtain ⟨⟨d1,dn,q1,q2,q3⟩,q4,q5⟩:=Run.op1 h3 hs2
 rw [ha] at q1
 injection q1 with q1
 subst q1
 obtain ⟨⟨y1,y2,y3,y,w1,w2,w3,w4,w5⟩,w6,w7⟩:=Run.op3 h7 hs
 rw [ha] at w1
 injection w1 with w1
 subst w1
 rcases hx.slice with ⟨e1,e2⟩|⟨l,a',cap,e1,e2⟩
 ·subst e1 e2
  simp only [Prim.run,wB0] at q2
  subst q2
  obtain ⟨es,kh,zh,gh,gh'⟩:=za1 h5 hhi (kd:=.i64) (nd:=0) q3
  subst es
  rw [gl] at w2
  rw [gh] at w3
  injection w2 with w2
  injection w3 with w3
  subst w2 w3
  simp only [Prim.run] at w4
  split at w4
  ·rename_i hc
   obtain ⟨c1,c2⟩:=hc
   subst c1 c2
   injection w4 with w4
   subst w4
   obtain ⟨b1,_⟩:=gl' (Int.le_refl 0)
   obtain ⟨b2,_⟩:=gh' (Int.le_refl 0)
   refine ⟨by rw [w6,q4],by rw [w7,q5],_,zca hu tf.info b1 b2 (wG0 _) (wG0 _),VRep.data.2 ⟨.nil,w5,?_⟩⟩
   simp [DVal,Ty.isAgg,DRep,zaf]
  ·cases w4
 ·subst e1
  simp only [Prim.run,wB0] at q2
  subst q2
  obtain ⟨es,kh,zh,gh,gh'⟩:=za1 h5 hhi (kd:=.i64) (nd:=l.length) q3
  subst es
  rw [gl] at w2
  rw [gh] at w3
  injection w2 with w2
  injection w3 with w3
  subst w2 w3
  simp only [Prim.run] at w4
  split at w4
  ·rename_i hc
   obtain ⟨c1,c2,c3⟩:=hc
   injection w4 with w4
   subst w4
   obtain ⟨b1,_⟩:=gl' c1
   obtain ⟨b2,_⟩:=gh' (Int.le_trans c1 c2)
   obtain ⟨a2,cap2,e3,e4,e5⟩:=hx.sub (i:=zl.toNat) (j:=zh.toNat) (by omega) (by omega)
   rw [e3]
   refine ⟨by rw [w6,q4],by rw [w7,q5],_,zca hu tf.info b1 b2 (by omega) (by omega),VRep.data.2 ⟨_,w5,?_⟩⟩
   rw [tf.size]
   exact e5 cap2 (by omega) (wG0 _)
  ·cases w4
theorem zo6 (hB:B0≤X.w.heap.size) (m:Mem B0 X) {t E:TypeId}{e:Ty}{i:TypeInfo}(hu:cx.P.underlying t=some (.slice E)) (tf:TyFact cx E e i) {r:Nat}{sv:SV}{lo hi:Option SV}{s0 s':SS}(h0:s0.up=[])
  (h:Run (zrv e r lo hi) X.μ s0 sv s') (hs:Sat C k X.E s'.bs s'.nv)
  {vx:Value} {vlo vhi:Option Value} (hx:Ref X (.h e r none) vx) (hlo:zbu X lo vlo) (hhi:zbu X hi vhi):zbd cx.P X (Instr.sliceAt t vx vlo vhi none) sv s0 s':=by
 unfold zrv at h
 obtain ⟨a,s1,h1,h2⟩:=Run.bind h
 obtain ⟨al,s2,h3,h4⟩:=Run.bind h2
 obtain ⟨an,s3,h5,h6⟩:=Run.bind h4
 obtain ⟨ah,s4,h7,h8⟩:=Run.bind h6
 obtain ⟨av,s5,h9,h10⟩:=Run.bind h8
 obtain ⟨e1,e2⟩:=Run.pure h10
 subst e1 e2
 obtain ⟨es,hrow,hh⟩:=zh0 hB m h0 h1 hx
 subst es
 have hs4:=h9.sat hs
 have hs3:=h7.sat hs4
 obtain ⟨es,kl,zl,gl,gl'⟩:=za1 h3 hlo (kd:=.i64) (nd:=0) rfl
 subst es
 obtain ⟨⟨d1,dn,q1,q2,q3⟩,q4,q5⟩:=Run.op1 h5 hs3
 obtain ⟨⟨y1,y2,y3,y,w1,w2,w3,w4,w5⟩,w6,w7⟩:=Run.op3 h9 hs
 rw [q1] at w1
 injection w1 with w1
 subst w1
 have hA:X.A r:=by simp only [Ref] at hx;exact hx.2.1
 have fin:∀ {v':Value},One v'→((X.β r).main=none∧Empt d1 v'∧zhs X.E (some (al,av))∨∃ b l,(X.β r).main=some b∧d1=.sl l∧zeK X.E X.w e b l.length (some (al,av)) v')→VRep X (.h e r (some (al,av))) v':=fun ho hv=>by
  simp only [VRep,Ref]
  exact ⟨ho,hA,fun _=>⟨a,d1,hrow,q1,hv⟩⟩
 rcases hh.val hrow q1 with ⟨p1,he,_⟩|⟨b,l,p1,p2,hv⟩
 ·obtain ⟨A,e2⟩:=he.val
  subst e2
  rw [he.em.len] at q2
  injection q2 with q2
  subst q2
  obtain ⟨es,kh,zh,gh,gh'⟩:=za1 h7 hhi (kd:=.i64) (nd:=0) q3
  subst es
  rw [gl] at w2
  rw [gh] at w3
  injection w2 with w2
  injection w3 with w3
  subst w2 w3
  simp only [Prim.run,he.em.els] at w4
  split at w4
  ·rename_i hc
   obtain ⟨c1,c2,c3⟩:=hc
   injection w4 with w4
   subst w4
   simp at c3
   have e1:zl=0:=by omega
   have e2:zh=0:=by omega
   subst e1 e2
   obtain ⟨b1,_⟩:=gl' (Int.le_refl 0)
   obtain ⟨b2,_⟩:=gh' (Int.le_refl 0)
   refine ⟨by rw [w6,q4],by rw [w7,q5],_,zca hu tf.info b1 b2 (wG0 _) (wG0 _),?_⟩
   exact fin (zaf _ _ _) (.inl ⟨p1,he.re (by cases A<;>simp),_,_,gl,w5⟩)
  ·cases w4
 ·subst p2
  simp only [Prim.run,wB0] at q2
  subst q2
  obtain ⟨es,kh,zh,gh,gh'⟩:=za1 h7 hhi (kd:=.i64) (nd:=l.length) q3
  subst es
  rw [gl] at w2
  rw [gh] at w3
  injection w2 with w2
  injection w3 with w3
  subst w2 w3
  simp only [Prim.run,D.els] at w4
  split at w4
  ·rename_i hc
   obtain ⟨c1,c2,c3⟩:=hc
   injection w4 with w4
   subst w4
   obtain ⟨b1,b1'⟩:=gl' c1
   obtain ⟨b2,_⟩:=gh' (Int.le_trans c1 c2)
   have hv':=hv
   obtain ⟨cap,bs,p3,p4,p5,p6⟩:=hv
   subst p3
   refine ⟨by rw [w6,q4],by rw [w7,q5],_,zca hu tf.info b1 b2 (by omega) (by omega),?_⟩
   refine fin (zaf _ _ _) (.inr ⟨b,l,p1,rfl,?_⟩)
   rw [tf.size]
   exact zlc hv' b1' (by rw [w5];exact congrArg some (zpg (Int.le_trans c1 c2))) (by omega) (by omega) p4 (wG0 _)
  ·cases w4
theorem zmz {t:TypeId}(hu:cx.P.underlying t=some .string) {a:At}{sv:SV}{lo hi:Option SV}{s0 s':SS}(h:Run (zlP a lo hi) X.μ s0 sv s') (hs:Sat C k X.E s'.bs s'.nv)
  {b:ByteArray} {vlo vhi:Option Value} (ha:a.get X.E=some (.str b)) (hlo:zbu X lo vlo) (hhi:zbu X hi vhi):zbd cx.P X (Instr.sliceAt t (.string b) vlo vhi none) sv s0 s':=by
 unfold zlP at h
 obtain ⟨al,s1,h1,h2⟩:=Run.bind h
 obtain ⟨an,s2,h3,h4⟩:=Run.bind h2
 obtain ⟨ah,s3,h5,h6⟩:=Run.bind h4
 obtain ⟨av,s4,h7,h8⟩:=Run.bind h6
 obtain ⟨e1,e2⟩:=Run.pure h8
 subst e1 e2
 have hs3:=h7.sat hs
 have hs2:=h5.sat hs3
 obtain ⟨es,kl,zl,gl,gl'⟩:=za1 h1 hlo (kd:=.i64) (nd:=0) rfl
 subst es
 obtain ⟨⟨d1,dn,q1,q2,q3⟩,q4,q5⟩:=Run.op1 h3 hs2
 rw [ha] at q1
 injection q1 with q1
 subst q1
 simp only [Prim.run,wB0] at q2
 subst q2
 obtain ⟨es,kh,zh,gh,gh'⟩:=za1 h5 hhi (kd:=.i64) (nd:=b.size) q3
 subst es
 obtain ⟨⟨y1,y2,y3,y,w1,w2,w3,w4,w5⟩,w6,w7⟩:=Run.op3 h7 hs
 rw [ha] at w1
 rw [gl] at w2
 rw [gh] at w3
 injection w1 with w1
 injection w2 with w2
 injection w3 with w3
 subst w1 w2 w3
 simp only [Prim.run] at w4
 split at w4
 ·rename_i hc
  obtain ⟨c1,c2,c3⟩:=hc
  injection w4 with w4
  subst w4
  obtain ⟨b1,_⟩:=gl' c1
  obtain ⟨b2,_⟩:=gh' (Int.le_trans c1 c2)
  exact ⟨by rw [w6,q4],by rw [w7,q5],_,zng hu b1 b2 (by omega) (by omega),VRep.data.2 ⟨_,w5,DVal.of_str _⟩⟩
 ·cases w4
end
end Go.SX
namespace Go.SX
open Go.RowKit (Below)
section
variable {C:FuncId→List D→Option (List D)} {k B0:Nat} {X:Ctx} {cx:Cx}
theorem zoX {E:List D}{w:World}{e:Ty}{b n:Nat}{A:Option Addr}{nn cap:Nat}{lo0 hi0:At}(h:zeK E w e b n (some (lo0,hi0)) (.slice A nn cap)) {i0:Nat}{k0:IntKind}(hl0:lo0.get E=some (.int k0 (Int.ofNat i0)))
  {lo hi:At} {k1 k2:IntKind} {i j:Nat} (hlo:lo.get E=some (.int k1 (Int.ofNat (i0 + i)))) (hhi:hi.get E=some (.int k2 (Int.ofNat (i0 + j)))) (h1:i≤j) (h2:i0 + j≤n) :
  i≤j∧j≤cap∧zeK E w e b n (some (lo,hi)) (.slice (if cap=i then A else A.map (·.add (i * e.size))) (j - i) (cap - i)):=by
 obtain ⟨ad,cap',bs,c1,c2,i',j',g1,g2,g3,g4,g5,g6,g7,g8,g9⟩:=h
 rw [hl0] at g1
 injection g1 with g1
 injection g1 with _ g1
 have:i0=i':=Int.ofNat.inj g1
 subst this
 injection g5 with g5 g51 g52
 subst g5 g52
 refine ⟨h1,by omega,if cap=i then ad else ad.add (i * e.size),cap - i,bs,k1,k2,i0 + i,i0 + j,hlo,hhi,by omega,h2,?_,by omega,g7,?_,fun h=>?_⟩
 ·have e1:i0 + j - (i0 + i)=j - i:=by omega
  rw [e1]
  split<;>simp
 ·have:i0 + i + (cap - i)≤i0 + cap∨cap<i:=by omega
  rcases this with h|h
  ·have:=Nat.mul_le_mul_right e.size h
   omega
  ·have e1:cap - i=0:=by omega
   rw [e1,Nat.add_zero]
   have:=Nat.mul_le_mul_right e.size (show i0 + i≤i0 + cap by omega)
   omega
 ·split
  ·rename_i hci
   rcases h with h|h
   ·omega
   ·have h00:i0=0:=by omega
    have hi0':i=0:=by omega
    subst h00 hi0'
    have:=g9 (.inr rfl)
    simpa using this
  ·rename_i hci
   have had:ad=⟨b,i0 * e.size,none⟩:=g9 (by
    rcases h with h|h
    ·exact .inl (by omega)
    ·exact .inr (by omega))
   rw [had,addr_add,Nat.add_mul]
theorem zm5 (hB:B0≤X.w.heap.size) (m:Mem B0 X) {t E:TypeId}{e:Ty}{i:TypeInfo}(hu:cx.P.underlying t=some (.slice E)) (tf:TyFact cx E e i) {r:Nat}{lo0 hi0:At}{sv:SV}{lo hi:Option SV}{s0 s':SS}(h0:s0.up=[])
  (h:Run (zps e r lo0 hi0 lo hi) X.μ s0 sv s') (hs:Sat C k X.E s'.bs s'.nv)
  {vx:Value} {vlo vhi:Option Value} (hx:Ref X (.h e r (some (lo0,hi0))) vx) (hlo:zbu X lo vlo) (hhi:zbu X hi vhi):zbd cx.P X (Instr.sliceAt t vx vlo vhi none) sv s0 s':=by
 unfold zps at h
 obtain ⟨a,s1,h1,h2⟩:=Run.bind h
 obtain ⟨al,s2,h3,h4⟩:=Run.bind h2
 obtain ⟨an,s3,h5,h6⟩:=Run.bind h4
 obtain ⟨ah,s4,h7,h8⟩:=Run.bind h6
 obtain ⟨av,s5,h9,h10⟩:=Run.bind h8
 obtain ⟨al2,s6,h11,h12⟩:=Run.bind h10
 obtain ⟨e1,e2⟩:=Run.pure h12
 subst e1 e2
 obtain ⟨es,hrow,hh⟩:=zh0 hB m h0 h1 hx
 subst es
 have hs5:=h11.sat hs
 have hs4:=h9.sat hs5
 have hs3:=h7.sat hs4
 obtain ⟨es,kl,zl,gl,gl'⟩:=za1 h3 hlo (kd:=.i64) (nd:=0) rfl
 subst es
 obtain ⟨⟨d1,d2,dn,q1,q2,q3,q4⟩,q5,q6⟩:=Run.op2 h5 hs3
 obtain ⟨⟨y1,y2,y3,y4,y,w1,w2,w3,w4,w5,w6⟩,w7,w8⟩:=Run.op4 h9 hs5
 obtain ⟨⟨z1,z2,z,u1,u2,u3,u4⟩,u5,u6⟩:=Run.op2 h11 hs
 have hA:X.A r:=by simp only [Ref] at hx;exact hx.2.1
 rw [q1] at w2
 injection w2 with w2
 subst w2
 rw [q1] at u1
 injection u1 with u1
 subst u1
 have fin:∀ {v':Value},One v'→((X.β r).main=none∧Empt y1 v'∧zhs X.E (some (al2,av))∨∃ b l,(X.β r).main=some b∧y1=.sl l∧zeK X.E X.w e b l.length (some (al2,av)) v')→VRep X (.h e r (some (al2,av))) v':=fun ho hv=>by
  simp only [VRep,Ref]
  exact ⟨ho,hA,fun _=>⟨a,y1,hrow,w1,hv⟩⟩
 rcases hh.val hrow w1 with ⟨p1,he,k1,k2,x1,x2⟩|⟨b,l,p1,p2,hv⟩
 ·obtain ⟨A,e2⟩:=he.val
  subst e2
  rw [x1] at q1
  rw [x2] at q2
  injection q1 with q1
  injection q2 with q2
  subst q1 q2
  simp only [Prim.run,wB0,Int.sub_zero] at q3
  subst q3
  obtain ⟨es,kh,zh,gh,gh'⟩:=za1 h7 hhi (kd:=.i64) (nd:=0) q4
  subst es
  rw [gl] at w3 u2
  rw [gh] at w4
  injection w3 with w3
  injection w4 with w4
  injection u2 with u2
  subst w3 w4 u2
  simp only [Prim.run,he.em.els] at w5
  split at w5
  ·rename_i hc
   obtain ⟨c1,c2,c3,c4⟩:=hc
   injection w5 with w5
   subst w5
   simp at c4
   have e1:zl=0:=by omega
   have e2:zh=0:=by omega
   subst e1 e2
   simp only [Prim.run,wB0] at u3
   subst u3
   obtain ⟨b1,_⟩:=gl' (Int.le_refl 0)
   obtain ⟨b2,_⟩:=gh' (Int.le_refl 0)
   refine ⟨by rw [u5,w7,q5],by rw [u6,w8,q6],_,zca hu tf.info b1 b2 (wG0 _) (wG0 _),?_⟩
   exact fin (zaf _ _ _) (.inl ⟨p1,he.re (by cases A<;>simp),_,_,u4,w6⟩)
  ·cases w5
 ·subst p2
  have hv':=hv
  obtain ⟨ad,cap,bs,k1,k2,i',j',p3,p4,p5,p6,p7,p8,p9,p10,p11⟩:=hv
  rw [p3] at q1
  rw [p4] at q2
  injection q1 with q1
  injection q2 with q2
  subst q1 q2
  simp only [Prim.run,wB0] at q3
  have e3:dn=.int .i64 (Int.ofNat (j' - i')):=by rw [← q3];simp only [Int.ofNat_eq_natCast];congr 1;omega
  subst e3
  obtain ⟨es,kh,zh,gh,gh'⟩:=za1 h7 hhi (kd:=.i64) (nd:=j' - i') q4
  subst es
  rw [gl] at w3 u2
  rw [gh] at w4
  injection w3 with w3
  injection w4 with w4
  injection u2 with u2
  subst w3 w4 u2
  simp only [Prim.run,D.els] at w5
  split at w5
  ·rename_i hc
   obtain ⟨c1,c2,c3,c4⟩:=hc
   injection w5 with w5
   subst w5
   simp only [Prim.run,wB0] at u3
   subst u3
   obtain ⟨b1,b1'⟩:=gl' c2
   obtain ⟨b2,b2'⟩:=gh' (Int.le_trans c2 c3)
   subst p7
   simp only [Int.ofNat_eq_natCast] at c4
   have g1:al2.get X.E=some (.int .i64 (Int.ofNat (i' + zl.toNat))):=by rw [u4];simp only [Int.ofNat_eq_natCast];congr 2;omega
   have g2:av.get X.E=some (.int .i64 (Int.ofNat (i' + zh.toNat))):=by rw [w6];simp only [Int.ofNat_eq_natCast];congr 2;omega
   obtain ⟨f1,f2,f3⟩:=zoX hv' p3 g1 g2 (by omega) (by omega)
   refine ⟨by rw [u5,w7,q5],by rw [u6,w8,q6],_,zca hu tf.info b1 b2 f1 f2,?_⟩
   refine fin (zaf _ _ _) (.inr ⟨b,l,p1,rfl,?_⟩)
   rw [tf.size]
   exact f3
  ·cases w5
theorem zef {s:SV}{v:Value}{σ σ':SS}{q:IntKind×At}(h:Run (zeH s) X.μ σ q σ') (hv:VRep X s v):σ'=σ∧∃ z,q.2.get X.E=some (.int q.1 z)∧v=.int q.1 z:=by
 obtain ⟨e,n,h1,h2⟩:=za8 h hv
 exact ⟨e,n,h1,h2⟩
theorem znq (hB:B0≤X.w.heap.size) (m:Mem B0 X) {t E:TypeId}{e:Ty}{i:TypeInfo}(hu:cx.P.underlying t=some (.slice E)) (tf:TyFact cx E e i) {r:Nat}{sv hi mx:SV}{s0 s':SS}(h0:s0.up=[])
  (h:Run (zpf e r hi mx) X.μ s0 sv s') (hs:Sat C k X.E s'.bs s'.nv)
  {vx vhi vmx:Value} (hx:Ref X (.h e r none) vx) (hhi:VRep X hi vhi) (hmx:VRep X mx vmx):zbd cx.P X (Instr.sliceAt t vx none (some vhi) (some vmx)) sv s0 s':=by
 unfold zpf at h
 obtain ⟨a,s1,h1,h2⟩:=Run.bind h
 obtain ⟨⟨kh,ah⟩,s2,h3,h4⟩:=Run.bind h2
 obtain ⟨ar,s3,h5,h6⟩:=Run.bind h4
 obtain ⟨⟨km,am⟩,s4,h7,h8⟩:=Run.bind h6
 obtain ⟨ae,s5,h9,h10⟩:=Run.bind h8
 obtain ⟨e1,e2⟩:=Run.pure h10
 subst e1 e2
 obtain ⟨es,hrow,hh⟩:=zh0 hB m h0 h1 hx
 subst es
 obtain ⟨es,zh,gh,e3⟩:=zef h3 hhi
 subst es e3
 obtain ⟨es,zm,gm,e3⟩:=zef h7 hmx
 subst es e3
 have hs4:=h9.sat hs
 obtain ⟨⟨y1,y2,y3,y,w1,w2,w3,w4,w5⟩,w6,w7⟩:=Run.op3 h5 hs4
 obtain ⟨⟨z1,z2,z,u1,u2,u3,u4⟩,u5,u6⟩:=Run.op2 h9 hs
 have hA:X.A r:=by simp only [Ref] at hx;exact hx.2.1
 have w2':y2=.int .i64 0:=by injection w2 with w2;exact w2.symm
 subst w2'
 simp only at gh gm w3 u1
 rw [gh] at w3
 rw [gm] at u1
 injection w3 with w3
 injection u1 with u1
 subst w3 u1
 rw [w5] at u2
 injection u2 with u2
 subst u2
 rcases hh.val hrow w1 with ⟨p1,he,_⟩|⟨b,l,p1,p2,cap,bs,p3,p4,p5,p6⟩
 ·obtain ⟨A,e2⟩:=he.val
  subst e2
  simp only [Prim.run,he.em.els] at w4
  split at w4
  ·rename_i hc
   obtain ⟨_,c2,c3⟩:=hc
   injection w4 with w4
   subst w4
   simp at c3
   have e1:zh=0:=by omega
   subst e1
   simp only [Prim.run] at u3
   split at u3
   ·rename_i hz
    injection u3 with u3
    subst u3 hz
    refine ⟨by rw [u5,w6],by rw [u6,w7],_,zce (l:=0) (h:=0) (m:=0) hu tf.info (.inl ⟨rfl,rfl⟩) rfl (wG0 _) (wG0 _) (wG0 _),?_⟩
    simp only [VRep,Ref]
    exact ⟨zaf _ _ _,hA,fun _=>⟨a,_,hrow,w1,.inl ⟨p1,he.re (by cases A<;>simp),_,u4⟩⟩⟩
   ·cases u3
  ·cases w4
 ·subst p2 p3
  simp only [Prim.run,D.els] at w4
  split at w4
  ·rename_i hc
   obtain ⟨_,c2,c3⟩:=hc
   injection w4 with w4
   subst w4
   simp only [Prim.run] at u3
   split at u3
   ·rename_i hz
    injection u3 with u3
    subst u3 hz
    have hzn:zm=((zm.toNat:Nat):Int):=by omega
    have hr:=zce (w:=X.w) (A:=some ⟨b,0,none⟩) (n:=l.length) (c:=cap) (l:=0) (h:=zm.toNat) (m:=zm.toNat) (k2:=kh) (k3:=km) hu tf.info (.inl ⟨rfl,rfl⟩) rfl (Nat.zero_le _) (wG0 _) (by omega)
    rw [← hzn] at hr
    refine ⟨by rw [u5,w6],by rw [u6,w7],_,hr,?_⟩
    simp only [VRep,Ref]
    refine ⟨zaf _ _ _,hA,fun _=>⟨a,.sl l,hrow,w1,.inr ⟨b,l,_,zm.toNat,bs,p1,rfl,by rw [u4];exact congrArg some (zpg c2),by omega,?_,p5,?_⟩⟩⟩
    ·simp only [Nat.sub_zero,Nat.zero_mul,Option.map_some,add_zero,ite_self]
    ·have:=Nat.mul_le_mul_right e.size (show zm.toNat≤cap by omega)
     omega
   ·cases u3
  ·cases w4
theorem zns (hB:B0≤X.w.heap.size) (m:Mem B0 X) {t E:TypeId}{e:Ty}{i:TypeInfo}(hu:cx.P.underlying t=some (.slice E)) (tf:TyFact cx E e i) {r:Nat}{lo:Option SV}{sv hi mx:SV}{s0 s':SS}(h0:s0.up=[])
  (h:Run (zoY e r lo hi mx) X.μ s0 sv s') (hs:Sat C k X.E s'.bs s'.nv)
  {vx vhi vmx:Value} {vlo:Option Value} (hx:Ref X (.h e r none) vx) (hlo:zbu X lo vlo) (hhi:VRep X hi vhi) (hmx:VRep X mx vmx):zbd cx.P X (Instr.sliceAt t vx vlo (some vhi) (some vmx)) sv s0 s':=by
 unfold zoY at h
 obtain ⟨a,s1,h1,h2⟩:=Run.bind h
 obtain ⟨al,s2,h3,h4⟩:=Run.bind h2
 obtain ⟨⟨kh,ah⟩,s3,h5,h6⟩:=Run.bind h4
 obtain ⟨⟨km,am⟩,s4,h7,h8⟩:=Run.bind h6
 obtain ⟨av,s5,h9,h10⟩:=Run.bind h8
 obtain ⟨e1,e2⟩:=Run.pure h10
 subst e1 e2
 obtain ⟨es,hrow,hh⟩:=zh0 hB m h0 h1 hx
 subst es
 obtain ⟨es,kl,zl,gl,gl'⟩:=za1 h3 hlo (kd:=.i64) (nd:=0) rfl
 subst es
 obtain ⟨es,zh,gh,e3⟩:=zef h5 hhi
 subst es e3
 obtain ⟨es,zm,gm,e3⟩:=zef h7 hmx
 subst es e3
 obtain ⟨⟨y1,y2,y3,y4,y,w1,w2,w3,w4,w5,w6⟩,w7,w8⟩:=Run.op4 h9 hs
 have hA:X.A r:=by simp only [Ref] at hx;exact hx.2.1
 simp only at gh gm w3 w4
 rw [gl] at w2
 rw [gh] at w3
 rw [gm] at w4
 injection w2 with w2
 injection w3 with w3
 injection w4 with w4
 subst w2 w3 w4
 have fin:∀ {v':Value},One v'→((X.β r).main=none∧Empt y1 v'∧zhs X.E (some (al,av))∨∃ b l,(X.β r).main=some b∧y1=.sl l∧zeK X.E X.w e b l.length (some (al,av)) v')→VRep X (.h e r (some (al,av))) v':=fun ho hv=>by
  simp only [VRep,Ref]
  exact ⟨ho,hA,fun _=>⟨a,y1,hrow,w1,hv⟩⟩
 rcases hh.val hrow w1 with ⟨p1,he,_⟩|⟨b,l,p1,p2,hv⟩
 ·obtain ⟨A,e2⟩:=he.val
  subst e2
  simp only [Prim.run,he.em.els] at w5
  split at w5
  ·rename_i hc
   obtain ⟨c1,c2,c3,c4⟩:=hc
   injection w5 with w5
   subst w5
   simp at c4
   have e1:zl=0:=by omega
   have e2:zh=0:=by omega
   subst e1 e2 c4
   obtain ⟨b1,_⟩:=gl' (Int.le_refl 0)
   refine ⟨w7,w8,_,zce (l:=0) (h:=0) (m:=0) hu tf.info b1 rfl (wG0 _) (wG0 _) (wG0 _),?_⟩
   exact fin (zaf _ _ _) (.inl ⟨p1,he.re (by cases A<;>simp),_,_,gl,w6⟩)
  ·cases w5
 ·subst p2
  have hv':=hv
  obtain ⟨cap,bs,p3,p4,p5,p6⟩:=hv
  subst p3
  simp only [Prim.run,D.els] at w5
  split at w5
  ·rename_i hc
   obtain ⟨c1,c2,c3,c4⟩:=hc
   injection w5 with w5
   subst w5
   obtain ⟨b1,b1'⟩:=gl' c1
   have hr:=zce (w:=X.w) (A:=some ⟨b,0,none⟩) (n:=l.length) (c:=cap) (l:=zl.toNat) (h:=zh.toNat) (m:=zm.toNat) (k2:=kh) (k3:=km) hu tf.info b1 rfl (by omega) (by omega) (by omega)
   rw [Int.toNat_of_nonneg (show 0≤zh by omega),Int.toNat_of_nonneg (show 0≤zm by omega)] at hr
   refine ⟨w7,w8,_,hr,?_⟩
   refine fin (zaf _ _ _) (.inr ⟨b,l,p1,rfl,?_⟩)
   rw [tf.size]
   exact zlc hv' b1' (by rw [w6];exact congrArg some (zpg (Int.le_trans c1 c2))) (by omega) (by omega) (by omega) (by omega)
  ·cases w5
theorem znz {t E:TypeId}{e:Ty}{i:TypeInfo}(hu:cx.P.underlying t=some (.slice E)) (tf:TyFact cx E e i) {a:At}{lo:Option SV}{sv hi mx:SV}{s0 s':SS}
  (h:Run (zpo e a lo hi mx) X.μ s0 sv s') (hs:Sat C k X.E s'.bs s'.nv)
  {vx vhi vmx:Value} {vlo:Option Value} {d0:D} (ha:a.get X.E=some d0) (hx:DVal X.w X.M (.sl e) d0 vx) (hlo:zbu X lo vlo) (hhi:VRep X hi vhi) (hmx:VRep X mx vmx):zbd cx.P X (Instr.sliceAt t vx vlo (some vhi) (some vmx)) sv s0 s':=by
 unfold zpo at h
 obtain ⟨al,s2,h3,h4⟩:=Run.bind h
 obtain ⟨⟨kh,ah⟩,s3,h5,h6⟩:=Run.bind h4
 obtain ⟨⟨km,am⟩,s4,h7,h8⟩:=Run.bind h6
 obtain ⟨ar,s5,h9,h10⟩:=Run.bind h8
 obtain ⟨av,s6,h11,h12⟩:=Run.bind h10
 obtain ⟨e1,e2⟩:=Run.pure h12
 subst e1 e2
 obtain ⟨es,kl,zl,gl,gl'⟩:=za1 h3 hlo (kd:=.i64) (nd:=0) rfl
 subst es
 obtain ⟨es,zh,gh,e3⟩:=zef h5 hhi
 subst es e3
 obtain ⟨es,zm,gm,e3⟩:=zef h7 hmx
 subst es e3
 have hs5:=h11.sat hs
 obtain ⟨⟨y1,y2,y3,y4,y,w1,w2,w3,w4,w5,w6⟩,w7,w8⟩:=Run.op4 h9 hs5
 obtain ⟨⟨z1,z2,z3,z,u1,u2,u3,u4,u5⟩,u6,u7⟩:=Run.op3 h11 hs
 simp only at gh gm w3 w4
 rw [ha] at w1 u1
 rw [gl] at w2 u2
 rw [gh] at w3
 rw [gm] at w4
 rw [w6] at u3
 injection w1 with w1
 injection w2 with w2
 injection w3 with w3
 injection w4 with w4
 injection u1 with u1
 injection u2 with u2
 injection u3 with u3
 subst w1 w2 w3 w4 u1 u2 u3
 rcases hx.slice with ⟨e1,e2⟩|⟨l,a',cap,e1,e2⟩
 ·subst e1 e2
  simp only [Prim.run,D.els] at w5
  split at w5
  ·rename_i hc
   obtain ⟨c1,c2,c3,c4⟩:=hc
   injection w5 with w5
   subst w5
   simp at c4
   have e1:zl=0:=by omega
   have e2:zh=0:=by omega
   subst e1 e2 c4
   obtain ⟨b1,_⟩:=gl' (Int.le_refl 0)
   simp [Prim.run] at u4
   subst u4
   refine ⟨by rw [u6,w7],by rw [u7,w8],_,zce (l:=0) (h:=0) (m:=0) hu tf.info b1 rfl (wG0 _) (wG0 _) (wG0 _),VRep.data.2 ⟨.nil,u5,?_⟩⟩
   simp [DVal,Ty.isAgg,DRep,zaf]
  ·cases w5
 ·subst e1
  simp only [Prim.run,D.els] at w5
  split at w5
  ·rename_i hc
   obtain ⟨c1,c2,c3,c4⟩:=hc
   injection w5 with w5
   subst w5
   obtain ⟨b1,b1'⟩:=gl' c1
   simp only [Prim.run] at u4
   split at u4
   ·injection u4 with u4
    subst u4
    obtain ⟨a2,cap2,e3,e4,e5⟩:=hx.sub (i:=zl.toNat) (j:=zh.toNat) (by omega) (by omega)
    rw [e3]
    have hr:=zce (w:=X.w) (A:=some a2) (n:=l.length) (c:=cap2) (l:=zl.toNat) (h:=zh.toNat) (m:=zm.toNat) (k2:=kh) (k3:=km) hu tf.info b1 rfl (by omega) (by omega) (by omega)
    rw [Int.toNat_of_nonneg (show 0≤zh by omega),Int.toNat_of_nonneg (show 0≤zm by omega)] at hr
    refine ⟨by rw [u6,w7],by rw [u7,w8],_,hr,VRep.data.2 ⟨_,u5,?_⟩⟩
    rw [tf.size]
    exact e5 zm.toNat (by omega) (by omega)
   ·cases u4
  ·cases w5
theorem zhu {o:Option SV}{vo:Option Value}(h:o.isNone=true) (ho:zbu X o vo):vo=none:=by
 cases o with
 | none=>cases vo with
  | none=>rfl
  | some _=>exact ho.elim
 | some _=>simp at h
theorem zkP (ty:TysOk cx) (hB:B0≤X.w.heap.size) (m:Mem B0 X) {t:TypeId}{x sv:SV}{lo hi mx:Option SV}{s0 s':SS}(h0:s0.up=[]) (h:Run (zjF cx t x lo hi mx) X.μ s0 sv s') (hs:Sat C k X.E s'.bs s'.nv)
  {vx:Value} {vlo vhi vmx:Option Value} (hx:VRep X x vx) (hlo:zbu X lo vlo) (hhi:zbu X hi vhi) (hmx:zbu X mx vmx):zbd cx.P X (Instr.sliceAt t vx vlo vhi vmx) sv s0 s':=by
 unfold zjF at h
 have hx':=zaI hx
 split at h
 ·rename_i ms hs'
  cases vmx with
  | none=>exact hmx.elim
  | some vm =>
  cases vhi with
  | none=>exact hhi.elim
  | some vh =>
   split at h
   ·rename_i hz
    simp only [wD0] at hz
    obtain ⟨k1,e1⟩:=zhG hz.1.1 hlo
    obtain ⟨k2,e2⟩:=zhG (vo:=some vh) hz.1.2 hhi
    obtain ⟨k3,e3⟩:=zhG (vo:=some vm) hz.2 hmx
    injection e2 with e2
    injection e3 with e3
    subst e1 e2 e3
    split at h
    ·rename_i e hT
     obtain ⟨E,i,hu,tf⟩:=zak ty hT
     obtain ⟨a,s1,h1,h2⟩:=Run.bind h
     obtain ⟨e1,e2⟩:=Run.pure h2
     subst e1 e2
     obtain ⟨u1,u2,d,f1,f2⟩:=zgb hB m h0 h1 hs hx
     refine ⟨by rw [u1,h0],u2,?_⟩
     have hr:=fun (A:Option Addr) (n c:Nat)=>zce (w:=X.w) hu tf.info (A:=A) (n:=n) (c:=c) (l:=0) (h:=0) (m:=0) (k3:=k3) (k2:=k2) (lo:=some (.int k1 0)) (hi':=some (.int k2 0)) (.inr ⟨k1,rfl⟩) rfl (wG0 _) (wG0 _) (Nat.zero_le _)
     rcases f2.slice with ⟨e1,e2⟩|⟨l,a',cap,e1,e2⟩
     ·subst e1 e2
      refine ⟨.slice none 0 0,hr none 0 0,?_⟩
      simp only [VRep,Ref]
      exact ⟨.nil,[],none,f1,rfl,rfl,by simp⟩
     ·subst e1 e2
      refine ⟨.slice (some a') 0 0,hr (some a') l.length cap,?_⟩
      simp only [VRep,Ref]
      exact ⟨.sl l,l,some a',f1,rfl,rfl,by simp⟩
    ·exact (Run.fail h).elim
   ·split at h
    ·rename_i e e' r hT hsx
     rw [hsx] at hx'
     simp only [VRep] at hx'
     obtain ⟨E,i,hu,tf⟩:=zak ty hT
     obtain ⟨_,s1,h1,h2⟩:=Run.bind h
     obtain ⟨hb,es⟩:=Run.guard h1
     subst es
     have he:=Ty.beq_eq hb
     subst he
     split at h2
     ·rename_i hln
      have:=zhu hln hlo
      subst this
      exact znq hB m hu tf h0 h2 hs hx' hhi hmx
     ·exact zns hB m hu tf h0 h2 hs hx' hlo hhi hmx
    ·rename_i e T a hT hsx
     rw [hsx] at hx'
     obtain ⟨E,i,hu,tf⟩:=zak ty hT
     obtain ⟨_,s1,h1,h2⟩:=Run.bind h
     obtain ⟨hb,es⟩:=Run.guard h1
     subst es
     have he:=Ty.beq_eq hb
     subst he
     obtain ⟨d0,f1,f2⟩:=VRep.data.1 hx'
     exact znz hu tf h2 hs f1 f2 hlo hhi hmx
    ·exact (Run.fail h).elim
 ·exact (Run.fail h).elim
 ·have hvm:=zhu (o:=none) rfl hmx
  subst hvm
  split at h
  ·rename_i e T a hT hsx
   rw [hsx] at hx'
   obtain ⟨E,i,hu,tf⟩:=zak ty hT
   obtain ⟨_,s1,h1,h2⟩:=Run.bind h
   obtain ⟨hb,es⟩:=Run.guard h1
   subst es
   have he:=Ty.beq_eq hb
   subst he
   obtain ⟨d0,f1,f2⟩:=VRep.data.1 hx'
   split at h2
   ·rename_i hn
    simp only [wD0] at hn
    have e1:=zhu hn.1 hlo
    have e2:=zhu hn.2 hhi
    subst e1 e2
    obtain ⟨e1,e2⟩:=Run.pure h2
    subst e1 e2
    refine ⟨rfl,rfl,vx,?_,hx'⟩
    unfold DVal at f2
    simp only [Ty.isAgg,wA0,if_false] at f2
    obtain ⟨_,f2⟩:=f2
    cases d0<;>simp only [DRep] at f2
    ·obtain ⟨a',cap,xs,g1,g2,_⟩:=f2
     injection g1 with g1
     subst g1
     exact zlf hu tf.info g2
    ·injection f2 with f2
     subst f2
     exact zlf hu tf.info (wG0 _)
   ·exact zjI hu tf h2 hs f1 f2 hlo hhi
  ·rename_i e e' r vw hT hsx
   rw [hsx] at hx'
   simp only [VRep] at hx'
   obtain ⟨E,i,hu,tf⟩:=zak ty hT
   obtain ⟨_,s1,h1,h2⟩:=Run.bind h
   obtain ⟨hb,es⟩:=Run.guard h1
   subst es
   have he:=Ty.beq_eq hb
   subst he
   split at h2
   ·exact (Run.fail h2).elim
   ·cases vw with
    | none=>exact zo6 hB m hu tf h0 h2 hs hx' hlo hhi
    | some p =>
     obtain ⟨lo0,hi0⟩:=p
     exact zm5 hB m hu tf h0 h2 hs hx' hlo hhi
  ·rename_i e hT hsx
   rw [hsx] at hx'
   simp only [VRep] at hx'
   subst hx'
   obtain ⟨E,i,hu,tf⟩:=zak ty hT
   exact zjI hu tf h hs (d0:=.nil) rfl (by simp [DVal,Ty.isAgg,DRep,zaf]) hlo hhi
  ·rename_i a hT hsx
   rw [hsx] at hx'
   obtain ⟨i,tf⟩:=ty.get hT (by simp)
   obtain ⟨d0,f1,f2⟩:=VRep.data.1 hx'
   obtain ⟨b,e1,e2⟩:=f2.str
   subst e1 e2
   exact zmz tf.desc h hs f1 hlo hhi
  ·rename_i n e R T r hT hsx
   rw [hsx] at hx'
   obtain ⟨E,i,hu,tf⟩:=zhc ty hT
   obtain ⟨_,s1,h1,h2⟩:=Run.bind h
   obtain ⟨hb,es⟩:=Run.guard h1
   subst es
   simp only [wD0] at hb
   have e1:=Ty.beq_eq hb.1.1.1
   have e2:=Ty.beq_eq hb.1.1.2
   have e3:=zhu hb.1.2 hlo
   have e4:=zhu hb.2 hhi
   subst e1 e2 e3 e4
   obtain ⟨e1,e2⟩:=Run.pure h2
   subst e1 e2
   simp only [VRep,Ref] at hx'
   obtain ⟨hA,b,off,g1,g2,g3,_⟩:=hx'
   simp only [tOff,wB0] at g3
   subst g1 g3
   refine ⟨rfl,rfl,_,zm8 hu tf.info,?_⟩
   simp only [VRep,Ref]
   exact ⟨hA,trivial,trivial,b,g2,rfl⟩
  ·exact (Run.fail h).elim
end
end Go.SX
namespace Go.SX
open Go.RowKit (Below)
mutual
theorem DRep.ones {w:World}{M:Nat→Prop}:∀ {T:Ty}{d:D}{cs:List Value},DRep w M T d cs→∀ v∈cs,One v
 | T,.int k n,cs,h=>by cases T<;>simp only [DRep] at h;intro v hv;rw [h.2] at hv;simp at hv;subst hv;exact ⟨by simp,by simp⟩
 | T,.bool b,cs,h=>by cases T<;>simp only [DRep] at h;intro v hv;rw [h] at hv;simp at hv;subst hv;exact ⟨by simp,by simp⟩
 | T,.str s,cs,h=>by cases T<;>simp only [DRep] at h;intro v hv;rw [h] at hv;simp at hv;subst hv;exact ⟨by simp,by simp⟩
 | T,.nil,cs,h=>by cases T<;>simp only [DRep] at h;intro v hv;rw [h] at hv;simp at hv;subst hv;exact ⟨by simp,by simp⟩
 | T,.agg ds,cs,h=>by
  cases T<;>simp only [DRep] at h
  ·exact DRepL.ones h
  ·exact DRepA.ones h.2
 | T,.sl ds,cs,h=>by
  cases T<;>simp only [DRep] at h
  obtain ⟨a,cap,xs,h1,_⟩:=h
  intro v hv
  rw [h1] at hv
  simp at hv
  subst hv
  exact ⟨by simp,by simp⟩
theorem DRepL.ones {w:World}{M:Nat→Prop}:∀ {Ts:List Ty}{ds:List D}{cs:List Value},DRepL w M Ts ds cs→∀ v∈cs,One v
 | [],[],cs,h=>by simp only [DRepL] at h;subst h;intro v hv;simp at hv
 | T::Ts,d::ds,cs,h=>by
  simp only [DRepL] at h
  obtain ⟨c1,c2,e,h1,h2⟩:=h
  subst e
  intro v hv
  rcases List.mem_append.1 hv with hv|hv
  ·exact DRep.ones h1 v hv
  ·exact DRepL.ones h2 v hv
 | [],_::_,_,h=>by simp only [DRepL] at h
 | _::_,[],_,h=>by simp only [DRepL] at h
theorem DRepA.ones {w:World}{M:Nat→Prop}:∀ {e:Ty}{ds:List D}{cs:List Value},DRepA w M e ds cs→∀ v∈cs,One v
 | e,[],cs,h=>by simp only [DRepA] at h;subst h;intro v hv;simp at hv
 | e,d::ds,cs,h=>by
  simp only [DRepA] at h
  obtain ⟨c1,c2,he,h1,h2⟩:=h
  subst he
  intro v hv
  rcases List.mem_append.1 hv with hv|hv
  ·exact DRep.ones h1 v hv
  ·exact DRepA.ones h2 v hv
end
section
variable {X:Ctx}
theorem Ref.one {s:SV}{v:Value}(h:Ref X s v):One v:=by
 cases s<;>simp only [Ref] at h
 ·exact h.1
 ·obtain ⟨d,l,x,_,_,h,_⟩:=h;subst h;exact zaf _ _ _
 ·obtain ⟨_,b,off,h,_⟩:=h;subst h;exact zoU _
 ·obtain ⟨ad,d,xs,h,_⟩:=h;subst h;exact zoU _
 ·obtain ⟨_,_,_,b,_,h⟩:=h;subst h;exact zaf _ _ _
 ·exact h.1
 ·exact h.1
 ·exact h.1
 ·obtain ⟨_,b,h,_⟩:=h;subst h;exact ⟨fun l=>(by simp),fun l=>(by simp)⟩
mutual
theorem CRep.ones:∀ {s:SV}{cs:List Value},CRep X s cs→∀ v∈cs,One v
 | .un n,cs,h=>by simp only [CRep] at h;exact h.2
 | .cv v,cs,h=>by simp only [CRep] at h;intro u hu;rw [h.1] at hu;simp at hu;subst hu;exact h.2
 | .d T a,cs,h=>by simp only [CRep] at h;obtain ⟨d,_,h⟩:=h;exact h.ones
 | .ag T l,cs,h=>by
  cases T<;>simp only [CRep] at h
  exact CRepL.ones h
 | .fn f a l,cs,h=>by simp only [CRep] at h;obtain ⟨us,vs,h,_⟩:=h;intro u hu;rw [h] at hu;simp at hu;subst hu;exact ⟨by simp,by simp⟩
 | .tu _,cs,h=>by simp only [CRep] at h
 | .h _ _ _,cs,h=>by simp only [CRep] at h;obtain ⟨v,h,hr⟩:=h;intro u hu;rw [h] at hu;simp at hu;subst hu;exact hr.one
 | .hc _ _ _,cs,h=>by simp only [CRep] at h;obtain ⟨v,h,hr⟩:=h;intro u hu;rw [h] at hu;simp at hu;subst hu;exact hr.one
 | .mr _ _ _,cs,h=>by simp only [CRep] at h;obtain ⟨v,h,hr⟩:=h;intro u hu;rw [h] at hu;simp at hu;subst hu;exact hr.one
 | .z _ _,cs,h=>by simp only [CRep] at h;obtain ⟨v,h,hr⟩:=h;intro u hu;rw [h] at hu;simp at hu;subst hu;exact hr.one
 | .hb _ _ _ _ _,cs,h=>by simp only [CRep] at h;obtain ⟨v,h,hr⟩:=h;intro u hu;rw [h] at hu;simp at hu;subst hu;exact hr.one
 | .hr _ _ _ _,cs,h=>by simp only [CRep] at h;obtain ⟨v,h,hr⟩:=h;intro u hu;rw [h] at hu;simp at hu;subst hu;exact hr.one
 | .p _ _ _ _,cs,h=>by simp only [CRep] at h;obtain ⟨v,h,hr⟩:=h;intro u hu;rw [h] at hu;simp at hu;subst hu;exact hr.one
 | .pm _ _ _ _ _ _,cs,h=>by simp only [CRep] at h;obtain ⟨v,h,hr⟩:=h;intro u hu;rw [h] at hu;simp at hu;subst hu;exact hr.one
 | .pd _ _,cs,h=>by simp only [CRep] at h;obtain ⟨v,h,hr⟩:=h;intro u hu;rw [h] at hu;simp at hu;subst hu;exact hr.one
theorem CRepL.ones:∀ {l:List SV}{Ts:List Ty}{cs:List Value},CRepL X l Ts cs→∀ v∈cs,One v
 | [],[],cs,h=>by simp only [CRepL] at h;subst h;intro v hv;simp at hv
 | s::l,T::Ts,cs,h=>by
  simp only [CRepL] at h
  obtain ⟨c1,c2,e,ht,h1,h2⟩:=h
  subst e
  intro v hv
  rcases List.mem_append.1 hv with hv|hv
  ·exact CRep.ones h1 v hv
  ·exact CRepL.ones h2 v hv
 | [],_::_,_,h=>by simp only [CRepL] at h
 | _::_,[],_,h=>by simp only [CRepL] at h
end
theorem DVal.cells {w:World}{M:Nat→Prop}{T:Ty}{d:D}{v:Value}(h:DVal w M T d v):DRep w M T d v.cells.toList:=by
 unfold DVal at h
 split at h
 ·obtain ⟨cs,e,h⟩:=h;subst e;exact h
 ·rw [h.1.cells];exact h.2
theorem Run.ite {α:Type}{c:Bool}{a b:SX.X α}{μ:Nat→Root}{σ σ':SS}{x:α}(h:Run (if c=true then a else b) μ σ x σ'):(c=true∧Run a μ σ x σ')∨(c=false∧Run b μ σ x σ'):=by
 cases c
 ·exact .inr ⟨rfl,h⟩
 ·exact .inl ⟨rfl,h⟩
theorem zdk {T:Ty}{s s':SV}{μ:Nat→Root}{σ σ':SS}{v:Value}(h:Run (SV.typed T s) μ σ s' σ') (hv:VRep X s v) :
  σ'=σ∧s'.hasTy T∧VRep X s' v∧CRep X s' v.cells.toList:=by
 have single:∀ {s:SV} {v:Value},Ref X s v→v.cells.toList=[v]:=fun h=>by rw [h.one.cells]
 unfold SV.typed at h
 split at h
 ·rename_i v'
  simp only [VRep] at hv
  subst hv
  split at h
  ·rename_i x hx
   obtain ⟨e1,e2⟩:=Run.pure h
   subst e1 e2
   have hd:=zeh (w:=X.w) (M:=X.M) hx
   refine ⟨rfl,rfl,VRep.data.2 ⟨x,rfl,hd⟩,?_⟩
   simp only [CRep]
   exact ⟨x,rfl,hd.cells⟩
  ·rcases Run.ite h with ⟨hb,h⟩|⟨_,h⟩
   rotate_left
   ·exact (Run.fail h).elim
   ·obtain ⟨e1,e2⟩:=Run.pure h
    subst e1 e2
    simp only [wD0] at hb
    have hT:=Ty.beq_eq hb.1.1
    have ho:One v:=by
     cases v<;>first|exact absurd hb.2 Bool.false_ne_true|exact ⟨by simp,by simp⟩
    refine ⟨rfl,hT,by simp only [VRep],?_⟩
    simp only [CRep]
    exact ⟨by rw [ho.cells],ho⟩
 ·rename_i T' a
  split at h
  ·rename_i hb
   have hT:=Ty.beq_eq hb
   subst hT
   obtain ⟨e1,e2⟩:=Run.pure h
   subst e1 e2
   obtain ⟨d,f1,f2⟩:=VRep.data.1 hv
   refine ⟨rfl,rfl,hv,?_⟩
   simp only [CRep]
   exact ⟨d,f1,f2.cells⟩
  ·exact (Run.fail h).elim
 ·rename_i T' l
  split at h
  ·rename_i hb
   have hT:=Ty.beq_eq hb
   subst hT
   obtain ⟨e1,e2⟩:=Run.pure h
   subst e1 e2
   refine ⟨rfl,rfl,hv,?_⟩
   cases T'<;>simp only [VRep] at hv
   obtain ⟨cs,e,hv⟩:=hv
   subst e
   simp only [CRep]
   exact hv
  ·exact (Run.fail h).elim
 all_goals first
  | (split at h
     ·rename_i hb
      have hT:=Ty.beq_eq hb
      obtain ⟨e1,e2⟩:=Run.pure h
      subst e1 e2
      simp only [VRep] at hv
      refine ⟨rfl,hT,by simp only [VRep];exact hv,?_⟩
      simp only [CRep]
      first
       | exact ⟨v,single hv,hv⟩
       | (obtain ⟨us,vs,e,h1,h2⟩:=hv;subst e;exact ⟨us,vs,rfl,h1,h2⟩)
     ·exact (Run.fail h).elim)
  | exact (Run.fail h).elim
end
theorem zck {w:World}{b n:Nat}(h:bsize w b=some n):b<w.heap.size:=by
 unfold bsize at h
 split at h
 ·rename_i hb;exact lt_of_heap hb
 ·cases h
def Ctx.grown (X:Ctx) (w':World) (r:Nat) (R:Root) (p:Pl):Ctx:={ E:=X.E,w:=w',μ:=upd X.μ r R,β:=upd X.β r p,A:=fun q=>X.A q∨q=r,F:=X.F }
theorem Mem.grow {B0:Nat}{X:Ctx}(m:Mem B0 X) (hB:B0≤X.w.heap.size) {r:Nat}(hn:¬ X.A r) {w':World}(hb:Below X.w.heap.size X.w w') {R:Root}{p:Pl}
  (hown:∀ b,b∈R.own p→X.w.heap.size≤b) (hnd:(R.own p).Nodup) (hrep:Ext X (X.grown w' r R p)→RootRep (X.grown w' r R p) r R):Ext X (X.grown w' r R p)∧Mem B0 (X.grown w' r R p):=by
 have hne:∀ q,X.A q→q≠r:=fun q hq e=>hn (e▸hq)
 refine Mem.change m hB (fun q=>q=r) (fun _ _ h=>h) (fun _ h=>.inl h) (fun q h=>h) (fun q hq=>⟨upd_ne _ _ hq,upd_ne _ _ hq⟩) (fun b hlt _=>hb.block b hlt) (fun b n hs=>?_) ?_ ?_ ?_ (fun q hq ha=>absurd hq (hne q ha)) (fun q hq ha=>absurd hq (hne q ha)) ?_
 ·exact (zax (hb.block b (zck hs))).trans hs
 ·intro q b hq _ hm
  subst hq
  simp only [Ctx.grown,upd_same] at hm
  exact .inl (hown b hm)
 ·intro q q' b hq hq' _ _ _ _
  rw [hq,hq']
 ·intro q hq _
  subst hq
  simp only [Ctx.grown,upd_same]
  exact hnd
 ·intro x q hq _
  subst hq
  have:(X.grown w' q R p).μ q=R:=by simp [Ctx.grown,upd_same]
  rw [this]
  exact hrep x
theorem Mem.newBox {B0:Nat}{X:Ctx}(m:Mem B0 X) (hB:B0≤X.w.heap.size) {r:Nat}(hn:¬ X.A r) {T:Ty}{s:SV}{v:Value}(ht:s.hasTy T) (hc:CRep X s v.cells.toList) (te:TypeId) :
  Ext X (X.grown (X.w.alloc (.cells v.cells te)) r (.box T s) ⟨some X.w.heap.size,[]⟩)∧Mem B0 (X.grown (X.w.alloc (.cells v.cells te)) r (.box T s) ⟨some X.w.heap.size,[]⟩):=by
 refine m.grow hB hn ((Below.refl _ _).alloc (wG0 _) _) ?_ ?_ ?_
 ·intro b hb
  simp [Root.own] at hb
  omega
 ·simp [Root.own]
 ·intro x
  exact ⟨X.w.heap.size,v.cells,te,by simp [Ctx.grown,upd_same],heap_alloc_new X.w _,ht,CRep.ext x hc⟩
theorem zlz {P:Program}{w:World}(t:TypeId) (v:Value):(newVar t v).run P w=.ok ⟨w.heap.size,0,none⟩ (w.alloc (.cells v.cells t)):=by
 rfl
end Go.SX
namespace Go.SX
open Go.RowKit (Below)
theorem zml {cs:List Value}{o s n t:Nat}(h:((((cs.drop o).take s).drop n).take t).length=t):(((cs.drop o).take s).drop n).take t=(cs.drop (o + n)).take t:=by
 rw [List.drop_take,List.take_take,List.drop_drop] at *
 simp only [wE0] at h
 have:t≤s - n:=by omega
 rw [Nat.min_eq_left this]
theorem RowCells.lens {w:World}{M:Nat→Prop}{e:Ty}:∀ {os:List (Option Nat)}{ds:List D}{vs:List Value},RowCells w M e os ds vs→os.length=ds.length∧vs.length=ds.length
 | [],[],[],_=>⟨rfl,rfl⟩
 | _::os,_::ds,_::vs,h=>by
  simp only [RowCells] at h
  obtain ⟨e1,e2⟩:=RowCells.lens h.2
  exact ⟨by simp [e1],by simp [e2]⟩
 | [],_::_,_,h|_::_,[],_,h|[],[],_::_,h|_::_,_::_,[],h=>by simp only [RowCells] at h
theorem RowCell.one {w:World}{M:Nat→Prop}{e:Ty}{o:Option Nat}{d:D}{v:Value}(h:RowCell w M e o d v):One v:=by
 rcases h with ⟨_,h⟩|⟨b,l,c,te,xs,cap,_,_,_,_,_,h,_⟩
 ·obtain ⟨A,h⟩:=h.val
  subst h
  exact zaf _ _ _
 ·subst h
  exact zaf _ _ _
theorem RowCell.val {w:World}{M:Nat→Prop}{e:Ty}{o:Option Nat}{d:D}{v:Value}(h:RowCell w M e o d v):zul w e o d v:=by
 rcases h with h|⟨b,l,c,te,xs,cap,h1,h2,h3,h4,h5,h6,h7,h8⟩
 ·exact .inl h
 ·exact .inr ⟨b,l,cap,c.size,h1,h2,h6,h7,by simp [bsize,h3],h8⟩
section
variable {C:FuncId→List D→Option (List D)} {k:Nat} {X:Ctx}
theorem zeI {μ:Nat→Root}:∀ {q:List Stp}{s s':SV}{σ σ':SS}{R T:Ty}{off:Nat}{cs:List Value},Run (nav q s) μ σ s' σ'→Sat C k X.E σ'.bs σ'.nv→tOff X.E q R=some off→tyAt q R=some T →
  s.hasTy R→CRep X s cs→σ'.up=σ.up∧σ'.ab=σ.ab∧s'.hasTy T∧CRep X s' ((cs.drop off).take T.size)
 | [],s,s',σ,σ',R,T,off,cs,h,hs,ho,hT,ht,hc=>by
  simp only [nav] at h
  obtain ⟨e1,e2⟩:=Run.pure h
  subst e1 e2
  simp only [tOff,wB0] at ho
  simp only [tyAt,wB0] at hT
  subst ho hT
  refine ⟨rfl,rfl,ht,?_⟩
  have:=CRep.length ht hc
  simpa [← this] using hc
 | .f j::q,s,s',σ,σ',R,T,off,cs,h,hs,ho,hT,ht,hc=>by
  cases R<;>simp only [tOff,tyAt] at ho hT<;>try (cases ho)
  rename_i Ts
  cases hF:Ts[j]? with
  | none=>simp [hF] at hT
  | some F =>
   simp only [hF] at ho hT
   cases hof:tOff X.E q F with
   | none=>simp [hof] at ho
   | some n =>
    simp only [hof,wB0] at ho
    subst ho
    have fin:∀ {s1:SV} {σ1:SS},Run (nav q s1) μ σ1 s' σ'→σ1.up=σ.up→σ1.ab=σ.ab→s1.hasTy F→CRep X s1 ((cs.drop (Ty.sizeL (Ts.take j))).take F.size) →
      σ'.up=σ.up∧σ'.ab=σ.ab∧s'.hasTy T∧CRep X s' ((cs.drop (Ty.sizeL (Ts.take j) + n)).take T.size):=fun h1 u1 u2 ht1 hc1=>by
     obtain ⟨g1,g2,g3,g4⟩:=zeI h1 hs hof hT ht1 hc1
     refine ⟨g1.trans u1,g2.trans u2,g3,?_⟩
     rwa [zml (CRep.length g3 g4)] at g4
    cases s with
    | ag T' l =>
     simp only [nav] at h
     simp only [SV.hasTy] at ht
     subst ht
     simp only [CRep] at hc
     split at h
     ·rename_i s1 hl
      obtain ⟨p1,p2⟩:=CRepL.part hc hl hF
      exact fin h rfl rfl p1 p2
     ·exact (Run.fail h).elim
    | d T' a =>
     simp only [SV.hasTy] at ht
     subst ht
     simp only [nav,hF] at h
     obtain ⟨x,σ1,h1,h2⟩:=Run.bind h
     obtain ⟨⟨d0,d,q1,q3,q4⟩,q5,q6⟩:=Run.op1 h1 (h2.sat hs)
     simp only [CRep] at hc
     obtain ⟨d1,f1,f2⟩:=hc
     rw [f1] at q1
     injection q1 with q1
     subst q1
     cases d1<;>simp only [DRep] at f2<;>try (cases q3)
     simp only [Prim.run] at q3
     exact fin h2 q5 q6 rfl (by simp only [CRep];exact ⟨d,q4,DRepL.part f2 hF q3⟩)
    | _=>simp only [nav] at h;exact (Run.fail h).elim
 | .i ix::q,s,s',σ,σ',R,T,off,cs,h,hs,ho,hT,ht,hc=>by
  cases R<;>simp only [tOff,tyAt] at ho hT<;>try (cases ho)
  rename_i m e
  cases ha:ix.get X.E with
  | none=>simp [ha] at ho
  | some di =>
   simp only [ha] at ho
   cases di<;>simp only at ho<;>try (cases ho)
   rename_i kk z
   split at ho
   ·rename_i h0
    cases hof:tOff X.E q e with
    | none=>simp [hof] at ho
    | some n =>
     simp only [hof,wB0] at ho
     subst ho
     cases s with
     | d T' a =>
      simp only [SV.hasTy] at ht
      subst ht
      simp only [nav] at h
      obtain ⟨x,σ1,h1,h2⟩:=Run.bind h
      obtain ⟨⟨d0,dI,d,q1,q2,q3,q4⟩,q5,q6⟩:=Run.op2 h1 (h2.sat hs)
      simp only [CRep] at hc
      obtain ⟨d1,f1,f2⟩:=hc
      rw [f1] at q1
      rw [ha] at q2
      injection q1 with q1
      injection q2 with q2
      subst q1 q2
      cases d1<;>simp only [DRep] at f2<;>try (cases q3)
      simp only [Prim.run,if_pos h0] at q3
      have hp:=f2.2.part q3
      obtain ⟨g1,g2,g3,g4⟩:=zeI h2 hs hof hT rfl (by simp only [CRep];exact ⟨d,q4,hp⟩)
      refine ⟨g1.trans q5,g2.trans q6,g3,?_⟩
      rwa [zml (CRep.length g3 g4)] at g4
     | _=>simp only [nav] at h;exact (Run.fail h).elim
   ·cases ho
variable {cx:Cx} {B0:Nat}
theorem zuN {s:SV}{T:Ty}{v:Value}(ht:s.hasTy T) (hT:T.isAgg=false) (h:CRep X s [v]):VRep X s v:=by
 cases s with
 | un n=>simp only [VRep]
 | cv v'=>simp only [CRep] at h;simp only [VRep];simpa using h.1
 | d T' a =>
  simp only [SV.hasTy] at ht
  subst ht
  simp only [CRep] at h
  obtain ⟨d,h1,h2⟩:=h
  refine VRep.data.2 ⟨d,h1,?_⟩
  unfold DVal
  rw [hT]
  simp only [wA0,if_false]
  exact ⟨DRep.one hT h2,h2⟩
 | ag T' l =>
  simp only [SV.hasTy] at ht
  subst ht
  cases T'<;>simp only [CRep] at h
  simp [Ty.isAgg] at hT
 | fn f a l=>simp only [CRep] at h;obtain ⟨us,vs,e,h⟩:=h;simp only [VRep];injection e with e;exact ⟨us,vs,e,h⟩
 | tu l=>simp only [CRep] at h
 | _=>simp only [CRep] at h;obtain ⟨v',e,h⟩:=h;injection e with e;subst e;simp only [VRep];exact h
theorem zn8 {t:TypeId}{w:World}(h:cx.cell1 t=true) (hT:cx.T t=.no):(isAgg t).run cx.P w=.ok false w∧cx.P.cellsOf t=1:=by
 unfold Cx.cell1 at h
 rw [hT] at h
 simp only [wD0] at h
 refine ⟨?_,zad h.1⟩
 have h2:=h.2
 cases hu:cx.P.underlying t with
 | none=>rw [hu] at h2;cases h2
 | some d =>
  rw [hu] at h2
  cases d<;>first|(exact absurd h2 Bool.false_ne_true)|simp [isAgg,zab hu]
theorem zc7 (ty:TysOk cx) {t:TypeId}{T:Ty}(hT:cx.T t=T) (h1:cx.cell1 t=true) {s:SV}(ht:s.hasTy T) {cs:List Value}(hc:CRep X s cs) {a:Addr}
  (hcell:∀ j v,cs[j]?=some v→X.w.cell? (a.add j)=some v):∃ v,(loadVar t a).run cx.P X.w=.ok v X.w∧VRep X s v:=by
 have hlen:=CRep.length ht hc
 have single:T.isAgg=false→(isAgg t).run cx.P X.w=.ok false X.w→∃ v,(loadVar t a).run cx.P X.w=.ok v X.w∧VRep X s v:=fun ha hr=>by
  have hs1:=ziO ha
  rw [hs1] at hlen
  match cs,hlen with
  | [v],_ =>
   have hv:=hcell 0 v rfl
   have e0:a.add 0=a:=by simp [Addr.add]
   rw [e0] at hv
   exact ⟨v,by simp [loadVar,hr,hv],zuN ht ha hc⟩
 by_cases hn:T=.no
 ·subst hn
  exact single rfl (zn8 h1 hT).1
 ·obtain ⟨i,tf⟩:=ty.get hT hn
  cases ha:T.isAgg with
  | false=>exact single ha (by rw [zgv tf.desc,ha])
  | true =>
   have hl:=run_loadCells_list (P:=cx.P) X.w a cs hcell
   rw [hlen] at hl
   refine ⟨.agg cs.toArray,by simp [loadVar,zgv tf.desc,ha,zbf tf.info,tf.size,hl],?_⟩
   cases s with
   | un n=>simp only [VRep]
   | d T' a =>
    simp only [SV.hasTy] at ht
    subst ht
    simp only [CRep] at hc
    obtain ⟨d,h1,h2⟩:=hc
    refine VRep.data.2 ⟨d,h1,?_⟩
    unfold DVal
    rw [if_pos ha]
    exact ⟨_,rfl,h2⟩
   | ag T' l =>
    simp only [SV.hasTy] at ht
    subst ht
    cases T'<;>simp only [CRep] at hc
    simp only [VRep]
    exact ⟨_,rfl,hc⟩
   | tu l=>simp only [CRep] at hc
   | cv v=>simp only [SV.hasTy] at ht;exact absurd ht hn
   | fn f a l=>simp only [SV.hasTy] at ht;exact absurd ht hn
   | _=>simp only [SV.hasTy] at ht;subst ht;simp [Ty.isAgg] at ha
theorem zjM {σ σ':SS}{R T:Ty}{r b off:Nat}{q:List Stp}{s':SV}(m:Mem B0 X) (h0:σ.up=[]) (h:Run (ztP R r q) X.μ σ s' σ') (hs:Sat C k X.E σ'.bs σ'.nv)
  (hA:X.A r) (hb:(X.β r).main=some b) (ho:tOff X.E q R=some off) (hT:tyAt q R=some T) :
  σ'.up=[]∧σ'.ab=σ.ab∧s'.hasTy T∧∃ cs,CRep X s' cs∧∀ j v,cs[j]?=some v→X.w.cell? ((⟨b,off,none⟩:Addr).add j)=some v:=by
 unfold ztP at h
 obtain ⟨RR,s1,h1,h2⟩:=Run.bind h
 obtain ⟨e1,e2⟩:=Run.root h1
 rw [h0,zar] at e1
 subst e1 e2
 have hrep:=m.rep r hA
 have piece:∀ {c:List Value} {o s:Nat} {te:TypeId} {fr:Nat×Nat} {cc:Array Value},X.w.heap[b]?=some (.cells cc te fr)→(∃ n,c=cc.toList.take n)→∀ (j:Nat) (v:Value),((c.drop o).take s)[j]?=some v→X.w.cell? ((⟨b,o,none⟩:Addr).add j)=some v:=by
  intro c o s te fr cc hh ⟨n,hc⟩ j v hj
  rw [Addr.add_mid]
  rw [List.getElem?_take] at hj
  split at hj
  ·rw [List.getElem?_drop,hc,List.getElem?_take] at hj
   split at hj
   ·simp only [World.cell?,hh]
    simpa using hj
   ·cases hj
  ·cases hj
 have rowCase:∀ {e:Ty} {a:At} {z:Prop},RowRep X r e a z→Run (match q with
   | .i ix::q'=>do
    let x←SX.X.op .get [a,ix]
    nav q' (.d e x)
   | _=>SX.X.fail 75) X.μ s1 s' σ'→R=.arr 0 e→σ'.up=[]∧σ'.ab=s1.ab∧s'.hasTy T∧∃ cs,CRep X s' cs∧∀ j v,cs[j]?=some v→X.w.cell? ((⟨b,off,none⟩:Addr).add j)=some v:=by
  intro e a z hr hrun hR
  subst hR
  split at hrun
  ·rename_i ix q'
   obtain ⟨x,s3,h5,h6⟩:=Run.bind hrun
   obtain ⟨⟨d0,di,d,q1,q2,q3,q4⟩,q5,q6⟩:=Run.op2 h5 (h6.sat hs)
   obtain ⟨d1,f1,f2⟩:=hr
   rw [f1] at q1
   injection q1 with q1
   subst q1
   rcases f2 with ⟨p1,p2⟩|⟨b',c,te,fr,l,xs,p1,p2,p3,p4,p5,p6⟩
   ·rw [p1] at hb;cases hb
   ·rw [p1] at hb
    injection hb with hb
    subst hb p2
    cases di<;>simp only [Prim.run,reduceCtorEq] at q3
    rename_i kk z
    split at q3
    ·rename_i hz
     simp only [tOff,q2,if_pos hz] at ho
     simp only [tyAt] at hT
     cases hof:tOff X.E q' e with
     | none=>simp [hof] at ho
     | some n =>
      simp only [hof,wB0] at ho
      subst ho
      have hp:=p5.part q3
      obtain ⟨g1,g2,g3,g4⟩:=zeI h6 hs hof hT rfl (by simp only [CRep];exact ⟨d,q4,hp⟩)
      refine ⟨by rw [g1,q5,h0],g2.trans q6,g3,_,g4,?_⟩
      rw [zml (CRep.length g3 g4)]
      exact piece p3 ⟨_,p6.symm⟩
    ·cases q3
  ·exact (Run.fail hrun).elim
 split at h2
 ·
  rename_i R' v hR
  obtain ⟨_,s2,h3,h4⟩:=Run.bind h2
  obtain ⟨hb2,es⟩:=Run.guard h3
  subst es
  have he:=Ty.beq_eq hb2
  subst he
  rw [hR] at hrep
  obtain ⟨b',c,te,p1,p2,p3,p4⟩:=hrep
  rw [p1] at hb
  injection hb with hb
  subst hb
  obtain ⟨g1,g2,g3,g4⟩:=zeI h4 hs ho hT p3 p4
  exact ⟨g1.trans h0,g2,g3,_,g4,piece p2 ⟨c.toList.length,(List.take_of_length_le (wG0 _)).symm⟩⟩
 ·
  rename_i e a hR
  obtain ⟨_,s2,h3,h4⟩:=Run.bind h2
  obtain ⟨hb2,es⟩:=Run.guard h3
  subst es
  rw [hR] at hrep
  exact rowCase hrep h4 (Ty.beq_eq hb2)
 ·rename_i e a hR
  obtain ⟨_,s2,h3,h4⟩:=Run.bind h2
  obtain ⟨hb2,es⟩:=Run.guard h3
  subst es
  rw [hR] at hrep
  exact rowCase hrep.1 h4 (Ty.beq_eq hb2)
 ·
  rename_i e a g hR
  obtain ⟨_,s2,h3,h4⟩:=Run.bind h2
  obtain ⟨hb2,es⟩:=Run.guard h3
  subst es
  have he:=Ty.beq_eq hb2
  subst he
  rw [hR] at hrep
  split at h4
  ·rename_i ix
   obtain ⟨x,s3,h5,h6⟩:=Run.bind h4
   obtain ⟨e1,e2⟩:=Run.pure h6
   subst e1 e2
   obtain ⟨⟨d0,di,d,q1,q2,q3,q4⟩,q5,q6⟩:=Run.op2 h5 hs
   obtain ⟨d1,f1,f2⟩:=hrep
   rw [f1] at q1
   injection q1 with q1
   subst q1
   rcases f2 with ⟨p1,_,p2⟩|⟨b',c,te,l,xs,p1,p2,p3,p4,p5⟩
   ·rw [p1] at hb;cases hb
   ·rw [p1] at hb
    injection hb with hb
    subst hb p2
    cases di<;>simp only [Prim.run,reduceCtorEq] at q3
    rename_i kk z
    split at q3
    ·rename_i hz
     injection q3 with q3
     subst q3
     simp only [tOff,q2,if_pos hz.1,wB0] at ho
     simp only [tyAt,wB0] at hT
     subst ho hT
     obtain ⟨dd,hdd⟩:∃ dd,l[z.toNat]?=some dd:=⟨l[z.toNat]'(by omega),wF0 _⟩
     have hlens:=RowCells.lens p4
     obtain ⟨o,hoo⟩:∃ o,(X.β r).rows[z.toNat]?=some o:=⟨(X.β r).rows[z.toNat]'(by omega),wF0 _⟩
     obtain ⟨v,hv,hrc⟩:=p4.get hdd hoo
     refine ⟨q5.trans h0,q6,rfl,[v],?_,?_⟩
     ·simp only [CRep,Ref]
      refine ⟨v,rfl,hrc.one,hA,fun e' a' g' hm=>?_⟩
      rw [hR] at hm
      injection hm with m1 m2 m3
      subst m1 m2 m3
      refine ⟨wG0 _,fun _=>⟨rfl,kk,z.toNat,l,dd,o,f1,?_,hdd,hoo,hrc.val⟩⟩
      rw [q4]
      simp [Int.toNat_of_nonneg hz.1]
     ·intro j u hj
      cases j with
      | succ j=>simp at hj
      | zero =>
       simp at hj
       subst hj
       rw [Addr.add_mid]
       have hx:=hv
       rw [← p5,List.getElem?_take] at hx
       split at hx
       ·simp only [World.cell?,p3,Ty.size,Nat.mul_one,Nat.add_zero]
        simpa using hx
       ·cases hx
    ·cases q3
  ·exact (Run.fail h4).elim
 ·
  rename_i e a ix r2 hR
  obtain ⟨_,s2,h3,h4⟩:=Run.bind h2
  obtain ⟨hb2,es⟩:=Run.guard h3
  subst es
  have he:=Ty.beq_eq hb2
  subst he
  rw [hR] at hrep
  split at h4
  ·rename_i ix'
   obtain ⟨x,s3,h5,h6⟩:=Run.bind h4
   obtain ⟨e1,e2⟩:=Run.pure h6
   subst e1 e2
   obtain ⟨⟨d0,di,d,q1,q2,q3,q4⟩,q5,q6⟩:=Run.op2 h5 hs
   obtain ⟨l,b',c,te,xs,k,i,v2,p1,p2,p3,p4,p5,p6,p7,p8⟩:=hrep
   rw [p2] at hb
   injection hb with hb
   subst hb
   rw [p5] at q2
   injection q2 with q2
   subst q2
   cases d0<;>simp only [Prim.run,reduceCtorEq] at q3
   rename_i kk z
   split at q3
   ·rename_i hz
    subst hz
    simp only [tOff,q1,if_pos (Int.natCast_nonneg i:(0:Int)≤Int.ofNat i),wB0,Int.ofNat_eq_natCast,Int.toNat_natCast] at ho
    simp only [tyAt,wB0] at hT
    subst ho hT
    have hxl:=p4.length
    simp only [Ty.size,Nat.mul_one] at hxl
    refine ⟨q5.trans h0,q6,rfl,[v2],by simp only [CRep];exact ⟨v2,rfl,p8⟩,?_⟩
    intro j u hj
    cases j with
    | succ j=>simp at hj
    | zero =>
     simp at hj
     subst hj
     rw [Addr.add_mid]
     have hx:(xs.set i v2)[i]?=some v2:=List.getElem?_set_self (by omega)
     rw [← p7,List.getElem?_take] at hx
     split at hx
     ·simp only [World.cell?,p3,Ty.size,Nat.mul_one,Nat.add_zero]
      simpa using hx
     ·cases hx
   ·cases q3
  ·exact (Run.fail h4).elim
 ·exact (Run.fail h2).elim
theorem zmQ {σ σ':SS}{e T:Ty}{r g:Nat}{ix:At}{q:List Stp}{s':SV}{v:Value}(m:Mem B0 X) (h0:σ.up=[]) (h:Run (zso e r ix q g) X.μ σ s' σ') (hs:Sat C k X.E σ'.bs σ'.nv)
  (hv:Ref X (.pm e T r ix q g) v) :
  σ'.up=[]∧σ'.ab=σ.ab∧s'.hasTy T∧∃ b off cs,v=.pointer (some ⟨b,off,none⟩)∧CRep X s' cs∧∀ j v,cs[j]?=some v→X.w.cell? ((⟨b,off,none⟩:Addr).add j)=some v:=by
 unfold zso at h
 obtain ⟨RR,s2,h3,h1⟩:=Run.bind h
 obtain ⟨e1,e2⟩:=Run.root h3
 rw [h0,zar] at e1
 subst e1 e2
 dsimp only at h1
 simp only [Ref] at hv
 obtain ⟨hone,hA,hv⟩:=hv
 have hrep:=m.rep r hA
 split at h1
 ·rename_i e' a' g' hR
  obtain ⟨_,s3,h5,h6⟩:=Run.bind h1
  obtain ⟨hb,es⟩:=Run.guard h5
  subst es
  obtain ⟨a,s5,h7,h2⟩:=Run.bind h6
  obtain ⟨e1,e2⟩:=Run.pure h7
  subst e1 e2
  simp only [wD0] at hb
  have he:=Ty.beq_eq hb.1
  have hg:=zad hb.2
  subst he hg
  obtain ⟨_,hv⟩:=hv _ _ _ hR
  obtain ⟨_,kk,i,b,off,v1,v2,v3,v4,v5⟩:=hv rfl
  rw [hR] at hrep
  obtain ⟨y,s4,h7,h8⟩:=Run.bind h2
  split at h8
  ·rename_i j q' _
   obtain ⟨x,s5,h9,h10⟩:=Run.bind h8
   obtain ⟨⟨x0,xi,x1,w1,w2,w3,w4⟩,w5,w6⟩:=Run.op2 h9 (h10.sat hs)
   obtain ⟨⟨d0,di,d,q1,q2,q3,q4⟩,q5,q6⟩:=Run.op2 h7 (h9.sat (h10.sat hs))
   rw [q4] at w1
   injection w1 with w1
   subst w1
   rw [v1] at q2
   injection q2 with q2
   subst q2
   obtain ⟨d1,f1,f2⟩:=hrep
   rw [f1] at q1
   injection q1 with q1
   subst q1
   rcases f2 with ⟨_,p1,p2⟩|⟨b',c,te,l,xs,p1,p2,p3,p4,p5⟩
   ·rw [p1] at v2;simp at v2
   ·subst p2
    simp [Prim.run] at q3
    obtain ⟨u,hu,hrc⟩:=p4.get q3 v2
    rcases hrc with ⟨c1,_⟩|⟨bb,ll,cc,te',xs',cap,c1,c2,c3,c4,c5,c6,c7,c8⟩
    ·cases c1
    ·injection c1 with c1
     subst c1 c2
     cases xi<;>simp only [Prim.run,reduceCtorEq] at w3
     rename_i k' z
     split at w3
     ·rename_i hz
      simp only [tOff,w2,if_pos hz] at v4
      simp only [tyAt] at v5
      cases hof:tOff X.E q' e' with
      | none=>simp [hof] at v4
      | some n =>
       simp only [hof,wB0] at v4
       subst v4
       have hp:=c4.part w3
       obtain ⟨g1,g2,g3,g4⟩:=zeI h10 hs hof v5 rfl (by simp only [CRep];exact ⟨x1,w4,hp⟩)
       refine ⟨by rw [g1,w5,q5,h0],by rw [g2,w6,q6],g3,b,_,_,v3,g4,?_⟩
       rw [zml (CRep.length g3 g4)]
       intro j v hj
       rw [Addr.add_mid]
       rw [List.getElem?_take] at hj
       split at hj
       ·rw [List.getElem?_drop,← c5,List.getElem?_take] at hj
        split at hj
        ·simp only [World.cell?,c3]
         simpa using hj
        ·cases hj
       ·cases hj
     ·cases w3
  ·exact (Run.fail h8).elim
 ·obtain ⟨_,_,h5,_⟩:=Run.bind h1
  exact (Run.fail h5).elim
theorem zlI (ty:TysOk cx) (m:Mem B0 X) {t:TypeId}{x sv:SV}{s0 s':SS}(h0:s0.up=[]) (h:Run (zmA cx t x) X.μ s0 sv s') (hs:Sat C k X.E s'.bs s'.nv) {vx:Value}(hx:VRep X x vx) :
  zbd cx.P X (Instr.loadAt t vx) sv s0 s':=by
 unfold zmA at h
 obtain ⟨_,s1,h1,h2⟩:=Run.bind h
 obtain ⟨hc1,es⟩:=Run.guard h1
 subst es
 split at h2
 ·rename_i T' a
  obtain ⟨_,s2,h3,h4⟩:=Run.bind h2
  obtain ⟨hb,es⟩:=Run.guard h3
  subst es
  have hT:=Ty.beq_eq hb
  obtain ⟨e1,e2⟩:=Run.pure h4
  subst e1 e2
  simp only [VRep,Ref] at hx
  obtain ⟨ad,d,xs,p1,p2,p3,p4,p5⟩:=hx
  subst hT
  obtain ⟨v,hr,hv⟩:=zc7 ty rfl hc1 (s:=.d (cx.T t) a) rfl (by simp only [CRep];exact ⟨d,p2,p3⟩) p4
  exact ⟨rfl,rfl,v,by subst p1;simp [Instr.loadAt,Instr.sureAddr,hr],hv⟩
 ·rename_i R T' r q
  obtain ⟨_,s2,h3,h4⟩:=Run.bind h2
  obtain ⟨hb,es⟩:=Run.guard h3
  subst es
  have hT:=Ty.beq_eq hb
  subst hT
  obtain ⟨s,s3,h5,h6⟩:=Run.bind h4
  simp only [VRep,Ref] at hx
  obtain ⟨hA,b,off,p1,p2,p3,p4⟩:=hx
  obtain ⟨g1,g2,g3,cs,g4,g5⟩:=zjM m h0 h5 (h6.sat hs) hA p2 p3 p4
  obtain ⟨v,hr,hv⟩:=zc7 ty rfl hc1 g3 g4 g5
  obtain ⟨es,_,hv',_⟩:=zdk h6 hv
  subst es
  exact ⟨g1.trans h0.symm,g2,v,by subst p1;simp [Instr.loadAt,Instr.sureAddr,hr],hv'⟩
 ·rename_i e T' r ix q g
  obtain ⟨_,s2,h3,h4⟩:=Run.bind h2
  obtain ⟨hb,es⟩:=Run.guard h3
  subst es
  have hT:=Ty.beq_eq hb
  subst hT
  obtain ⟨s,s3,h5,h6⟩:=Run.bind h4
  obtain ⟨g1,g2,g3,b,off,cs,p1,g4,g5⟩:=zmQ m h0 h5 (h6.sat hs) (by simpa only [VRep] using hx)
  obtain ⟨v,hr,hv⟩:=zc7 ty rfl hc1 g3 g4 g5
  obtain ⟨es,_,hv',_⟩:=zdk h6 hv
  subst es
  exact ⟨g1.trans h0.symm,g2,v,by subst p1;simp [Instr.loadAt,Instr.sureAddr,hr],hv'⟩
 ·exact (Run.fail h2).elim
end
end Go.SX
namespace Go.SX
open Go.RowKit (Below)
def patch (cs:List Value) (o:Nat) (cv:List Value):List Value:=cs.take o++cv++cs.drop (o + cv.length)
theorem zaj {cs cv:List Value}{o:Nat}(h:o + cv.length≤cs.length):(patch cs o cv).length=cs.length:=by
 simp only [patch,wI0,wE0,List.length_drop]
 omega
theorem zcw {cs cv:List Value}(h:cv.length=cs.length):patch cs 0 cv=cv:=by
 simp only [patch,List.take_zero,List.nil_append,Nat.zero_add,h,List.drop_length,List.append_nil]
theorem zf7 {cs cv:List Value}{o s n:Nat}(_h1:o + s≤cs.length) (h2:n + cv.length≤s):cs.take o++patch ((cs.drop o).take s) n cv++cs.drop (o + s)=patch cs (o + n) cv:=by
 have e1:((cs.drop o).take s).take n=(cs.drop o).take n:=by rw [List.take_take,Nat.min_eq_left (by omega)]
 have e2:cs.take (o + n)=cs.take o++(cs.drop o).take n:=List.take_add
 have e3:((cs.drop o).take s).drop (n + cv.length)++cs.drop (o + s)=cs.drop (o + (n + cv.length)):=by
  rw [List.drop_take,List.drop_drop]
  have:cs.drop (o + s)=(cs.drop (o + (n + cv.length))).drop (s - (n + cv.length)):=by rw [List.drop_drop];congr 1;omega
  rw [this,List.take_append_drop]
 simp only [patch,e1,e2,List.append_assoc,e3,Nat.add_assoc]
theorem DRepL.patch {w:World}{M:Nat→Prop}{Ts:List Ty}{ds:List D}{cs cv:List Value}{j n:Nat}{F:Ty}{d:D}(h:DRepL w M Ts ds cs) (hF:Ts[j]?=some F)
  (hd:DRep w M F d (SX.patch ((cs.drop (Ty.sizeL (Ts.take j))).take F.size) n cv)) (hn:n + cv.length≤F.size) (hle:Ty.sizeL (Ts.take j) + F.size≤cs.length) :
  DRepL w M Ts (ds.set j d) (SX.patch cs (Ty.sizeL (Ts.take j) + n) cv):=by
 rw [← zf7 hle hn]
 exact DRepL.set h hF hd
theorem DRepA.patch {w:World}{M:Nat→Prop}{e:Ty}{ds:List D}{cs cv:List Value}{j n:Nat}{d:D}(h:DRepA w M e ds cs) (hj:j<ds.length)
  (hd:DRep w M e d (SX.patch ((cs.drop (j * e.size)).take e.size) n cv)) (hn:n + cv.length≤e.size) (hle:j * e.size + e.size≤cs.length) :
  DRepA w M e (ds.set j d) (SX.patch cs (j * e.size + n) cv):=by
 rw [← zf7 hle hn]
 exact DRepA.set h hj hd
theorem zly {Ts:List Ty}{j:Nat}{F:Ty}(h:Ts[j]?=some F):Ty.sizeL (Ts.take j) + F.size≤Ty.sizeL Ts:=by
 induction Ts generalizing j with
 | nil=>simp at h
 | cons U l ih =>
  cases j with
  | zero=>simp at h;subst h;simp [Ty.sizeL]
  | succ j=>simp at h;have:=ih h;simp only [List.take_succ_cons,Ty.sizeL];omega
section
variable {C:FuncId→List D→Option (List D)} {k:Nat} {X:Ctx} {w:World} {M:Nat→Prop}
theorem zdT {μ:Nat→Root}:∀ {q:List Stp}{T U:Ty}{a b x:At}{σ σ':SS}{off:Nat}{d dv:D}{cs cv:List Value},Run (setD q T a b) μ σ x σ'→Sat C k X.E σ'.bs σ'.nv→tOff X.E q T=some off→tyAt q T=some U →
  a.get X.E=some d→DRep w M T d cs→b.get X.E=some dv→DRep w M U dv cv →
  σ'.up=σ.up∧σ'.ab=σ.ab∧off + cv.length≤cs.length∧∃ dx,x.get X.E=some dx∧DRep w M T dx (patch cs off cv)
 | [],T,U,a,b,x,σ,σ',off,d,dv,cs,cv,h,hs,ho,hT,ha,hd,hb,hv=>by
  simp only [setD] at h
  obtain ⟨e1,e2⟩:=Run.pure h
  subst e1 e2
  simp only [tOff,wB0] at ho
  simp only [tyAt,wB0] at hT
  subst ho hT
  have h1:=hd.length
  have h2:=hv.length
  exact ⟨rfl,rfl,by omega,dv,hb,by rw [zcw (by omega)];exact hv⟩
 | .f j::q,T,U,a,b,x,σ,σ',off,d,dv,cs,cv,h,hs,ho,hT,ha,hd,hb,hv=>by
  cases T<;>simp only [tOff,tyAt] at ho hT<;>try (cases ho)
  rename_i Ts
  cases hF:Ts[j]? with
  | none=>simp [hF] at hT
  | some F =>
   simp only [hF] at ho hT
   cases hof:tOff X.E q F with
   | none=>simp [hof] at ho
   | some n =>
    simp only [hof,wB0] at ho
    subst ho
    cases d<;>simp only [DRep] at hd
    rename_i ds
    have hlen:=hd.length
    have hle:=zly hF
    have fin:∀ {y:At} {σ1:SS} {dy:D},Run (SX.X.op (.setf j) [a,y]) μ σ1 x σ'→σ1.up=σ.up→σ1.ab=σ.ab→y.get X.E=some dy→n + cv.length≤F.size→DRep w M F dy (patch ((cs.drop (Ty.sizeL (Ts.take j))).take F.size) n cv) →
      σ'.up=σ.up∧σ'.ab=σ.ab∧Ty.sizeL (Ts.take j) + n + cv.length≤cs.length∧∃ dx,x.get X.E=some dx∧DRep w M (.st Ts) dx (patch cs (Ty.sizeL (Ts.take j) + n) cv):=by
     intro y σ1 dy h1 u1 u2 hy hn hp
     obtain ⟨⟨d0,d2,d3,q1,q2,q3,q4⟩,q5,q6⟩:=Run.op2 h1 hs
     rw [ha] at q1
     rw [hy] at q2
     injection q1 with q1
     injection q2 with q2
     subst q1 q2
     simp only [Prim.run] at q3
     split at q3
     ·injection q3 with q3
      subst q3
      refine ⟨q5.trans u1,q6.trans u2,by omega,_,q4,?_⟩
      simp only [DRep]
      exact hd.patch hF hp hn (by omega)
     ·cases q3
    have hplen:((cs.drop (Ty.sizeL (Ts.take j))).take F.size).length=F.size:=by
     rw [wE0,List.length_drop];omega
    cases q with
    | nil =>
     simp only [setD,hF] at h
     simp only [tOff,wB0] at hof
     simp only [tyAt,wB0] at hT
     subst hof hT
     have h2:=hv.length
     exact fin h rfl rfl hb (by omega) (by rw [zcw (by omega)];exact hv)
    | cons s q' =>
     simp only [setD,hF] at h
     obtain ⟨y,σ1,h1,h2⟩:=Run.bind h
     obtain ⟨x1,σ2,h3,h4⟩:=Run.bind h2
     obtain ⟨⟨d0,dy,q1,q3,q4⟩,q5,q6⟩:=Run.op1 h1 (h3.sat (h4.sat hs))
     rw [ha] at q1
     injection q1 with q1
     subst q1
     simp only [Prim.run] at q3
     obtain ⟨g1,g2,g3,dx,g4,g5⟩:=zdT h3 (h4.sat hs) hof hT q4 (hd.part hF q3) hb hv
     exact fin h4 (g1.trans q5) (g2.trans q6) g4 (by rw [hplen] at g3;exact g3) g5
 | .i ix::q,T,U,a,b,x,σ,σ',off,d,dv,cs,cv,h,hs,ho,hT,ha,hd,hb,hv=>by
  cases T<;>simp only [tOff,tyAt] at ho hT<;>try (cases ho)
  rename_i m e
  cases hi:ix.get X.E with
  | none=>simp [hi] at ho
  | some di =>
   simp only [hi] at ho
   cases di<;>simp only at ho<;>try (cases ho)
   rename_i kk z
   split at ho
   ·rename_i h0
    cases hof:tOff X.E q e with
    | none=>simp [hof] at ho
    | some n =>
     simp only [hof,wB0] at ho
     subst ho
     cases d<;>simp only [DRep] at hd
     rename_i ds
     obtain ⟨hm,hd⟩:=hd
     have hlen:=hd.length
     have inside:z.toNat<ds.length→z.toNat * e.size + e.size≤cs.length:=fun hz=>by
      rw [hlen,← Nat.succ_mul]
      exact Nat.mul_le_mul_right _ hz
     have fin:∀ {y:At} {σ1:SS} {dy:D},Run (SX.X.op .set [a,ix,y]) μ σ1 x σ'→σ1.up=σ.up→σ1.ab=σ.ab→y.get X.E=some dy→(z.toNat<ds.length→n + cv.length≤e.size∧DRep w M e dy (patch ((cs.drop (z.toNat * e.size)).take e.size) n cv)) →
       σ'.up=σ.up∧σ'.ab=σ.ab∧z.toNat * e.size + n + cv.length≤cs.length∧∃ dx,x.get X.E=some dx∧DRep w M (.arr m e) dx (patch cs (z.toNat * e.size + n) cv):=by
      intro y σ1 dy h1 u1 u2 hy hp
      obtain ⟨⟨d0,d1,d2,d3,q1,q2,q2',q3,q4⟩,q5,q6⟩:=Run.op3 h1 hs
      rw [ha] at q1
      rw [hi] at q2
      rw [hy] at q2'
      injection q1 with q1
      injection q2 with q2
      injection q2' with q2'
      subst q1 q2 q2'
      simp only [Prim.run] at q3
      split at q3
      ·rename_i hz
       injection q3 with q3
       subst q3
       have hz2:z.toNat<ds.length:=by omega
       obtain ⟨hn,hp⟩:=hp hz2
       have:=inside hz2
       refine ⟨q5.trans u1,q6.trans u2,by omega,_,q4,?_⟩
       simp only [DRep]
       exact ⟨by simpa using hm,hd.patch hz2 hp hn this⟩
      ·cases q3
     have hplen:z.toNat<ds.length→((cs.drop (z.toNat * e.size)).take e.size).length=e.size:=fun hz=>by
      have:=inside hz
      rw [wE0,List.length_drop];omega
     cases q with
     | nil =>
      simp only [setD] at h
      simp only [tOff,wB0] at hof
      simp only [tyAt,wB0] at hT
      subst hof hT
      have h2:=hv.length
      exact fin h rfl rfl hb fun hz=>⟨by omega,by rw [zcw (by rw [hplen hz];exact h2)];exact hv⟩
     | cons s q' =>
      simp only [setD] at h
      obtain ⟨y,σ1,h1,h2⟩:=Run.bind h
      obtain ⟨x1,σ2,h3,h4⟩:=Run.bind h2
      obtain ⟨⟨d0,d1,dy,q1,q2,q3,q4⟩,q5,q6⟩:=Run.op2 h1 (h3.sat (h4.sat hs))
      rw [ha] at q1
      rw [hi] at q2
      injection q1 with q1
      injection q2 with q2
      subst q1 q2
      simp only [Prim.run,if_pos h0] at q3
      obtain ⟨g1,g2,g3,dx,g4,g5⟩:=zdT h3 (h4.sat hs) hof hT q4 (hd.part q3) hb hv
      exact fin h4 (g1.trans q5) (g2.trans q6) g4 fun hz=>⟨by rw [hplen hz] at g3;exact g3,g5⟩
   ·cases ho
theorem zh2 {μ:Nat→Root}{q:List Stp}{e U:Ty}{a b x:At}{σ σ':SS}{off:Nat}{d dv:D}{cv:List Value}(h:Run (setRow q e a b) μ σ x σ') (hs:Sat C k X.E σ'.bs σ'.nv) (ho:tOff X.E q (.arr 0 e)=some off)
  (hT:tyAt q (.arr 0 e)=some U) (ha:a.get X.E=some d) (hb:b.get X.E=some dv) (hv:DRep w M U dv cv) (hd:d=.nil∨∃ l xs,d=.sl l∧DRepA w M e l xs) :
  σ'.up=σ.up∧σ'.ab=σ.ab∧∃ l l',d=.sl l∧x.get X.E=some (.sl l')∧l'.length=l.length∧(∃ i,i<l.length∧i * e.size≤off∧off + cv.length≤(i + 1) * e.size∧∀ j,j≠i→l'[j]?=l[j]?)∧∀ xs,DRepA w M e l xs→off + cv.length≤xs.length∧DRepA w M e l' (patch xs off cv):=by
 have fin:∀ {ix y:At} {σ1:SS} {dy:D} {n:Nat} {kk:IntKind} {z:Int},Run (SX.X.op .set [a,ix,y]) μ σ1 x σ'→σ1.up=σ.up→σ1.ab=σ.ab→ix.get X.E=some (.int kk z)→0≤z→off=z.toNat * e.size + n→y.get X.E=some dy→n + cv.length≤e.size →
   (∀ l xs,d=.sl l→z.toNat<l.length→DRepA w M e l xs→DRep w M e dy (patch ((xs.drop (z.toNat * e.size)).take e.size) n cv)) →
   σ'.up=σ.up∧σ'.ab=σ.ab∧∃ l l',d=.sl l∧x.get X.E=some (.sl l')∧l'.length=l.length∧(∃ i,i<l.length∧i * e.size≤off∧off + cv.length≤(i + 1) * e.size∧∀ j,j≠i→l'[j]?=l[j]?)∧∀ xs,DRepA w M e l xs→off + cv.length≤xs.length∧DRepA w M e l' (patch xs off cv):=by
  intro ix y σ1 dy n kk z h1 u1 u2 hi h0 hoff hy hn hp
  obtain ⟨⟨d0,d1,d2,d3,q1,q2,q2',q3,q4⟩,q5,q6⟩:=Run.op3 h1 hs
  rw [ha] at q1
  rw [hi] at q2
  rw [hy] at q2'
  injection q1 with q1
  injection q2 with q2
  injection q2' with q2'
  subst q1 q2 q2'
  rcases hd with hd|⟨l,xs0,hd,_⟩
  ·subst hd;simp [Prim.run] at q3
  ·subst hd
   simp only [Prim.run] at q3
   split at q3
   ·rename_i hz
    injection q3 with q3
    subst q3
    have hz2:z.toNat<l.length:=by omega
    refine ⟨q5.trans u1,q6.trans u2,l,_,rfl,q4,by simp,⟨z.toNat,hz2,by omega,by rw [Nat.add_mul,Nat.one_mul];omega,fun j hj=>by rw [List.getElem?_set_ne (Ne.symm hj)]⟩,fun xs hx=>?_⟩
    have hlen:=hx.length
    have:z.toNat * e.size + e.size≤xs.length:=by
     rw [hlen,← Nat.succ_mul]
     exact Nat.mul_le_mul_right _ hz2
    rw [hoff]
    exact ⟨by omega,hx.patch hz2 (hp l xs rfl hz2 hx) hn this⟩
   ·cases q3
 cases q with
 | nil=>simp only [setRow] at h;exact (Run.fail h).elim
 | cons s q =>
  cases s with
  | f j=>simp only [setRow] at h;exact (Run.fail h).elim
  | i ix =>
   simp only [tOff,tyAt] at ho hT
   cases hi:ix.get X.E with
   | none=>simp [hi] at ho
   | some di =>
    simp only [hi] at ho
    cases di<;>simp only at ho<;>try (cases ho)
    rename_i kk z
    split at ho
    ·rename_i h0
     cases hof:tOff X.E q e with
     | none=>simp [hof] at ho
     | some n =>
      simp only [hof,wB0] at ho
      cases q with
      | nil =>
       simp only [setRow] at h
       simp only [tOff,wB0] at hof
       simp only [tyAt,wB0] at hT
       subst hof hT
       have h2:=hv.length
       refine fin h rfl rfl hi h0 ho.symm hb (by omega) fun l xs _ hz hx=>?_
       rw [zcw]
       ·exact hv
       ·have hlen:=hx.length
        have:z.toNat * e.size + e.size≤xs.length:=by
         rw [hlen,← Nat.succ_mul]
         exact Nat.mul_le_mul_right _ hz
        rw [wE0,List.length_drop];omega
      | cons s q' =>
       simp only [setRow] at h
       obtain ⟨y,σ1,h1,h2⟩:=Run.bind h
       obtain ⟨x1,σ2,h3,h4⟩:=Run.bind h2
       obtain ⟨⟨d0,d1,dy,q1,q2,q3,q4⟩,q5,q6⟩:=Run.op2 h1 (h3.sat (h4.sat hs))
       rw [ha] at q1
       rw [hi] at q2
       injection q1 with q1
       injection q2 with q2
       subst q1 q2
       rcases hd with hd|⟨l0,xs0,hd,hx0⟩
       ·subst hd;simp [Prim.run] at q3
       ·subst hd
        simp only [Prim.run,if_pos h0] at q3
        have key:=fun xs (hx:DRepA w M e l0 xs)=>zdT h3 (h4.sat hs) hof hT q4 (hx.part q3) hb hv
        obtain ⟨g1,g2,g3,dx,g4,g5⟩:=key xs0 hx0
        have hpl:=(hx0.part q3).length
        refine fin h4 (g1.trans q5) (g2.trans q6) hi h0 ho.symm g4 (by rw [hpl] at g3;exact g3) fun l xs el _ hx=>?_
        injection el with el
        subst el
        obtain ⟨_,_,_,dx',g4',g5'⟩:=key xs hx
        rw [g4] at g4'
        injection g4' with g4'
        subst g4'
        exact g5'
    ·cases ho
end
end Go.SX
namespace Go.SX
open Go.RowKit (Below)
section
variable {C:FuncId→List D→Option (List D)} {k B0:Nat} {X:Ctx} {cx:Cx}
theorem CRepL.set:∀ {l:List SV}{Ts:List Ty}{cs c':List Value}{j:Nat}{s':SV}{F:Ty},CRepL X l Ts cs→Ts[j]?=some F→s'.hasTy F→CRep X s' c' →
  CRepL X (l.set j s') Ts (cs.take (Ty.sizeL (Ts.take j))++c'++cs.drop (Ty.sizeL (Ts.take j) + F.size))
 | [],[],_,_,j,_,_,_,hF,_,_=>by simp at hF
 | u::l,[],_,_,_,_,_,h,_,_,_=>by simp only [CRepL] at h
 | [],_::_,_,_,_,_,_,h,_,_,_=>by simp only [CRepL] at h
 | u::l,U::Ts,cs,c',0,s',F,h,hF,ht,hc=>by
  simp only [CRepL] at h
  obtain ⟨c1,c2,he,h0,h1,h2⟩:=h
  simp at hF
  subst he hF
  have hl:=CRep.length h0 h1
  simp only [List.set_cons_zero,CRepL,List.take_zero,Ty.sizeL,List.nil_append,Nat.zero_add]
  exact ⟨c',c2,by rw [← hl];simp,ht,hc,h2⟩
 | u::l,U::Ts,cs,c',j + 1,s',F,h,hF,ht,hc=>by
  simp only [CRepL] at h
  obtain ⟨c1,c2,he,h0,h1,h2⟩:=h
  simp at hF
  subst he
  have hl:=CRep.length h0 h1
  simp only [List.set_cons_succ,CRepL]
  refine ⟨c1,_,?_,h0,h1,CRepL.set h2 hF ht hc⟩
  simp only [List.take_succ_cons,Ty.sizeL]
  rw [Nat.add_assoc,← hl,zhj,zdD]
  simp [List.append_assoc]
theorem ziu {μ:Nat→Root}{a:At}{ds:List D}(ha:a.get X.E=some (.agg ds)):∀ {Ts:List Ty}{j:Nat}{l:List SV}{σ σ':SS}{cs:List Value},Run (zlb a Ts j) μ σ l σ'→Sat C k X.E σ'.bs σ'.nv→DRepL X.w X.M Ts (ds.drop j) cs →
  σ'.up=σ.up∧σ'.ab=σ.ab∧CRepL X l Ts cs
 | [],j,l,σ,σ',cs,h,_,hd=>by
  simp only [zlb] at h
  obtain ⟨e1,e2⟩:=Run.pure h
  subst e1 e2
  refine ⟨rfl,rfl,?_⟩
  cases hdr:ds.drop j with
  | nil=>rw [hdr] at hd;simp only [DRepL] at hd;simp only [CRepL];exact hd
  | cons _ _=>rw [hdr] at hd;simp only [DRepL] at hd
 | T::Ts,j,l,σ,σ',cs,h,hs,hd=>by
  simp only [zlb] at h
  obtain ⟨x,σ1,h1,h2⟩:=Run.bind h
  obtain ⟨l',σ2,h3,h4⟩:=Run.bind h2
  obtain ⟨e1,e2⟩:=Run.pure h4
  subst e1 e2
  obtain ⟨⟨d0,d,q1,q3,q4⟩,q5,q6⟩:=Run.op1 h1 (h3.sat hs)
  rw [ha] at q1
  injection q1 with q1
  subst q1
  simp only [Prim.run] at q3
  have hdr:ds.drop j=d::ds.drop (j + 1):=by
   rw [List.getElem?_eq_some_iff] at q3
   obtain ⟨hj,e⟩:=q3
   rw [← e]
   exact List.drop_eq_getElem_cons hj
  rw [hdr] at hd
  simp only [DRepL] at hd
  obtain ⟨c1,c2,e,r1,r2⟩:=hd
  obtain ⟨g1,g2,g3⟩:=ziu ha h3 hs r2
  refine ⟨g1.trans q5,g2.trans q6,?_⟩
  simp only [CRepL]
  exact ⟨c1,c2,e,rfl,by simp only [CRep];exact ⟨d,q4,r1⟩,g3⟩
theorem zil {μ:Nat→Root}:∀ {q:List Stp}{s v s':SV}{σ σ':SS}{R U:Ty}{off:Nat}{cs cv:List Value},Run (zdU q s v) μ σ s' σ'→Sat C k X.E σ'.bs σ'.nv→tOff X.E q R=some off→tyAt q R=some U →
  s.hasTy R→CRep X s cs→v.hasTy U→CRep X v cv→σ'.up=σ.up∧σ'.ab=σ.ab∧off + cv.length≤cs.length∧s'.hasTy R∧CRep X s' (patch cs off cv)
 | [],s,v,s',σ,σ',R,U,off,cs,cv,h,hs,ho,hT,ht,hc,hvt,hv=>by
  simp only [zdU] at h
  obtain ⟨e1,e2⟩:=Run.pure h
  subst e1 e2
  simp only [tOff,wB0] at ho
  simp only [tyAt,wB0] at hT
  subst ho hT
  have h1:=CRep.length ht hc
  have h2:=CRep.length hvt hv
  exact ⟨rfl,rfl,by omega,hvt,by rw [zcw (by omega)];exact hv⟩
 | .f j::q,s,v,s',σ,σ',R,U,off,cs,cv,h,hs,ho,hT,ht,hc,hvt,hv=>by
  have ho0:=ho
  have hT0:=hT
  cases R<;>simp only [tOff,tyAt] at ho hT<;>try (cases ho)
  rename_i Ts
  cases hF:Ts[j]? with
  | none=>simp [hF] at hT
  | some F =>
   simp only [hF] at ho hT
   cases hof:tOff X.E q F with
   | none=>simp [hof] at ho
   | some n =>
    simp only [hof,wB0] at ho
    subst ho
    have hle:=zly hF
    have hlen:=CRep.length ht hc
    simp only [Ty.size] at hlen
    have fin:∀ {l:List SV} {s0 s1:SV} {σ1:SS},l[j]?=some s0→CRepL X l Ts cs→Run (zdU q s0 v) μ σ1 s1 σ'→σ1.up=σ.up→σ1.ab=σ.ab →
      σ'.up=σ.up∧σ'.ab=σ.ab∧Ty.sizeL (Ts.take j) + n + cv.length≤cs.length∧(SV.ag (.st Ts) (l.set j s1)).hasTy (.st Ts)∧CRep X (.ag (.st Ts) (l.set j s1)) (patch cs (Ty.sizeL (Ts.take j) + n) cv):=by
     intro l s0 s1 σ1 hl hcl h1 u1 u2
     obtain ⟨p1,p2⟩:=CRepL.part hcl hl hF
     obtain ⟨g1,g2,g3,g4,g5⟩:=zil h1 hs hof hT p1 p2 hvt hv
     have hpl:((cs.drop (Ty.sizeL (Ts.take j))).take F.size).length=F.size:=CRep.length p1 p2
     rw [hpl] at g3
     refine ⟨g1.trans u1,g2.trans u2,by omega,rfl,?_⟩
     simp only [CRep]
     rw [← zf7 (by omega) g3]
     exact CRepL.set hcl hF g4 g5
    cases s with
    | ag T' l =>
     simp only [SV.hasTy] at ht
     subst ht
     simp only [zdU] at h
     simp only [CRep] at hc
     split at h
     ·rename_i s0 hl
      obtain ⟨s1,σ1,h1,h2⟩:=Run.bind h
      obtain ⟨e1,e2⟩:=Run.pure h2
      subst e1 e2
      exact fin hl hc h1 rfl rfl
     ·exact (Run.fail h).elim
    | d T' a =>
     simp only [SV.hasTy] at ht
     subst ht
     have whole:∀ {U':Ty} {b:At},v=.d U' b→Run (setD (.f j::q) (.st Ts) a b >>= fun x=>SX.X.pure (.d (.st Ts) x)) μ σ s' σ' →
       σ'.up=σ.up∧σ'.ab=σ.ab∧Ty.sizeL (Ts.take j) + n + cv.length≤cs.length∧s'.hasTy (.st Ts)∧CRep X s' (patch cs (Ty.sizeL (Ts.take j) + n) cv):=by
      intro U' b ev h
      subst ev
      obtain ⟨x,σ1,h1,h2⟩:=Run.bind h
      obtain ⟨e1,e2⟩:=Run.pure h2
      subst e1 e2
      simp only [SV.hasTy] at hvt
      subst hvt
      simp only [CRep] at hc hv
      obtain ⟨d0,a1,a2⟩:=hc
      obtain ⟨dv,b1,b2⟩:=hv
      obtain ⟨g1,g2,g3,dx,g4,g5⟩:=zdT h1 hs ho0 hT0 a1 a2 b1 b2
      exact ⟨g1,g2,g3,rfl,by simp only [CRep];exact ⟨dx,g4,g5⟩⟩
     have parts:Run (zlb a Ts 0 >>= fun l=>match l[j]? with
       | some s=>zdU q s v >>= fun s'=>SX.X.pure (.ag (.st Ts) (l.set j s'))
       | none=>SX.X.fail 25) μ σ s' σ' →
       σ'.up=σ.up∧σ'.ab=σ.ab∧Ty.sizeL (Ts.take j) + n + cv.length≤cs.length∧s'.hasTy (.st Ts)∧CRep X s' (patch cs (Ty.sizeL (Ts.take j) + n) cv):=by
      intro h
      obtain ⟨l,σ1,h1,h2⟩:=Run.bind h
      simp only [CRep] at hc
      obtain ⟨d0,a1,a2⟩:=hc
      cases d0<;>simp only [DRep] at a2
      split at h2
      ·rename_i s0 hl
       obtain ⟨s1,σ2,h3,h4⟩:=Run.bind h2
       obtain ⟨e1,e2⟩:=Run.pure h4
       subst e1 e2
       obtain ⟨u1,u2,u3⟩:=ziu a1 h1 (h3.sat hs) (by simpa using a2)
       exact fin hl u3 h3 u1 u2
      ·exact (Run.fail h2).elim
     cases v with
     | d U' b=>simp only [zdU] at h;exact whole rfl h
     | _=>simp only [zdU] at h;exact parts h
    | _=>simp only [zdU] at h;exact (Run.fail h).elim
 | .i ix::q,s,v,s',σ,σ',R,U,off,cs,cv,h,hs,ho,hT,ht,hc,hvt,hv=>by
  cases s with
  | d T' a =>
   simp only [SV.hasTy] at ht
   subst ht
   cases T'<;>simp only [zdU] at h<;>try exact (Run.fail h).elim
   cases v<;>simp only at h<;>try exact (Run.fail h).elim
   obtain ⟨x,σ1,h1,h2⟩:=Run.bind h
   obtain ⟨e1,e2⟩:=Run.pure h2
   subst e1 e2
   simp only [SV.hasTy] at hvt
   subst hvt
   simp only [CRep] at hc hv
   obtain ⟨d0,a1,a2⟩:=hc
   obtain ⟨dv,b1,b2⟩:=hv
   obtain ⟨g1,g2,g3,dx,g4,g5⟩:=zdT h1 hs ho hT a1 a2 b1 b2
   exact ⟨g1,g2,g3,rfl,by simp only [CRep];exact ⟨dx,g4,g5⟩⟩
  | _=>simp only [zdU] at h;exact (Run.fail h).elim
def Ctx.wrote (X:Ctx) (b:Nat) (c:Array Value) (r:Nat) (R:Root):Ctx:={ E:=X.E,w:=X.w.setRow b c,μ:=upd X.μ r R,β:=X.β,A:=X.A,F:=X.F }
theorem zcy {w:World}{b n:Nat}{c c':Array Value}{te:TypeId}{fr:Nat×Nat}(hh:w.heap[b]?=some (.cells c te fr)) (hsz:c'.size=c.size) {q:Nat}(h:bsize w q=some n):bsize (w.setRow b c') q=some n:=by
 by_cases e:q=b
 ·subst e
  simp only [bsize,hh] at h
  simp only [bsize,setRow_heap w q c c' te fr hh,hsz]
  exact h
 ·rw [zax (setRow_other w b q c' e)]
  exact h
theorem Mem.write (m:Mem B0 X) (hB:B0≤X.w.heap.size) {r b:Nat}{c c':Array Value}{te:TypeId}{R:Root}(hA:X.A r) (hb:b∈(X.μ r).own (X.β r)) (hh:X.w.heap[b]?=some (.cells c te (0,0))) (hsz:c'.size=c.size)
  (hown:R.own (X.β r)=(X.μ r).own (X.β r)) (hsame:R.there=true→RootSame X (X.wrote b c' r R) r) (hrep:Ext X (X.wrote b c' r R)→RootRep (X.wrote b c' r R) r R)
  (hnl:∀ e a q,X.μ r≠.lt e a q:=by intro e a q h;simp_all;done):Ext X (X.wrote b c' r R)∧Mem B0 (X.wrote b c' r R):=by
 refine Mem.change m hB (fun q=>q=r) (fun _ _ h=>h) (fun _ h=>h) (fun q h=>.inl h) (fun q hq=>⟨upd_ne _ _ hq,rfl⟩) (fun q _ hq=>setRow_other _ _ _ _ fun e=>hq r rfl hA (e▸hb)) (fun q n h=>zcy hh hsz h) ?_ ?_ ?_ (fun _ _ _=>rfl) ?_ ?_ rfl (fun q hq _ e a r' h=>absurd (hq▸h) (hnl e a r'))
 ·intro q x hq _ hm
  subst hq
  simp only [Ctx.wrote,upd_same,hown] at hm
  exact .inr ⟨q,rfl,hA,hm⟩
 ·intro q q' x hq hq' _ _ _ _
  rw [hq,hq']
 ·intro q hq _
  subst hq
  simp only [Ctx.wrote,upd_same,hown]
  exact m.once q hA
 ·intro q hq _ ht
  subst hq
  simp only [Ctx.wrote,upd_same] at ht
  exact hsame ht
 ·intro x q hq _
  subst hq
  have:(X.wrote b c' q R).μ q=R:=by simp [Ctx.wrote,upd_same]
  rw [this]
  exact hrep x
theorem zbn {P:Program}{w:World}{b o:Nat}{t:TypeId}{c:Array Value}{te:TypeId}{v:Value}(hh:w.heap[b]?=some (.cells c te (0,0))) (hs:P.cellsOf t=v.cells.size) (hi:(P.info? t).isSome=true)
  (hfit:o + v.cells.toList.length≤c.size) (h1:∀ u∈v.cells.toList,One u):(storeVar t ⟨b,o,none⟩ v).run P w=.ok () (w.setRow b (patch c.toList o v.cells.toList).toArray):=by
 have:=run_storeCells_at P b o te v.cells.toList 0 c w hh (by simpa using hfit) (fun u hu=>(h1 u hu).one)
 simp only [Nat.add_zero] at this
 cases hq:P.info? t with
 | none=>rw [hq] at hi;cases hi
 | some i =>
  have e:i.size=v.cells.size:=by simpa [Program.cellsOf,hq] using hs
  simp only [storeVar,sizeOf,typeInfo,Sem.run_bind]
  simp [hq,e,this,patch]
end
end Go.SX
namespace Go.SX
open Go.RowKit (Below)
def Acts {α:Type}(P:Program) (B0:Nat) (X:Ctx) (sem:Sem α) (s0 s':SS) (Q:Ctx→α→Prop):Prop :=
 ∃ v w' X',sem.run P X.w=.ok v w'∧Nx B0 X X' s'.up s0.ab s'.ab w'∧Q X' v
theorem zc6 {cs cv:List Value}{o n:Nat}(hn:n≤cs.length) (h:o + cv.length≤n):(patch cs o cv).take n=patch (cs.take n) o cv:=by
 have e1:(cs.take n).take o=cs.take o:=by rw [List.take_take,Nat.min_eq_left (by omega)]
 simp only [patch,e1]
 rw [List.take_append,List.take_of_length_le (by simp only [wI0,wE0];omega),List.drop_take]
 congr 1
 simp only [wI0,wE0]
 congr 1
 omega
section
variable {C:FuncId→List D→Option (List D)} {k B0:Nat} {X:Ctx} {cx:Cx}
theorem zhb (ty:TysOk cx) {t:TypeId}{T:Ty}(hT:cx.T t=T) (h1:cx.cell1 t=true):cx.P.cellsOf t=T.size∧(cx.P.info? t).isSome=true:=by
 by_cases hn:T=.no
 ·subst hn
  have h:=(zn8 (w:=default) h1 hT).2
  refine ⟨h,?_⟩
  cases hq:cx.P.info? t with
  | none=>simp [Program.cellsOf,hq] at h
  | some i=>rfl
 ·obtain ⟨i,tf⟩:=ty.get hT hn
  exact ⟨by simp [Program.cellsOf,tf.info,tf.size],by rw [tf.info];rfl⟩
theorem Nx.wrote {up up':List (Nat×Root)}{ab ab' b r:Nat}{c:Array Value}{R:Root}(x:Ext X (X.mv up)) (m:Mem B0 (X.mv up)) (hA:X.A r) (hb:b∈((X.mv up).μ r).own (X.β r))
  (h:Ext (X.mv up) ((X.mv up).wrote b c r R)∧Mem B0 ((X.mv up).wrote b c r R)) (hup:up'=(r,R)::up) (hab:ab'=ab):Nx B0 X ((X.mv up).wrote b c r R) up' ab ab' (X.w.setRow b c) where
 E:=rfl
 w:=rfl
 μ:=by rw [hup,zaF];rfl
 A:=fun q=>⟨fun h=>.inl h,fun h=>h.elim id fun h=>by omega⟩
 ext:=x.trans h.1
 mem:=h.2
 below:=below_setRow (Below.refl _ _) (m.low r b hA hb) _
theorem zdG (ty:TysOk cx) (hB:B0≤X.w.heap.size) {t:TypeId}{R T:Ty}{r b off:Nat}{q:List Stp}{old v sv:SV}{s0 s':SS}(x0:Ext X (X.mv s0.up)) (m:Mem B0 (X.mv s0.up)) (h:Run (zgY R T r q old v) X.μ s0 sv s') (hs:Sat C k X.E s'.bs s'.nv)
  (hT:cx.T t=T) (h1:cx.cell1 t=true) (hA:X.A r) (hR:(X.mv s0.up).μ r=.box R old) (hb:(X.β r).main=some b) (ho:tOff X.E q R=some off) (hq:tyAt q R=some T) {vv:Value} (hv:VRep (X.mv s0.up) v vv) :
  Acts cx.P B0 X (storeVar t ⟨b,off,none⟩ vv) s0 s' fun _ _=>sv=.un 1:=by
 unfold zgY at h
 obtain ⟨v',s1,h2,h3⟩:=Run.bind h
 obtain ⟨es,ht',hv',hc'⟩:=zdk h2 hv
 subst es
 obtain ⟨new,s2,h4,h5⟩:=Run.bind h3
 obtain ⟨_,s3,h6,h7⟩:=Run.bind h5
 have es:=Run.put h6
 obtain ⟨e1,e2⟩:=Run.pure h7
 subst es
 subst e1 e2
 have hrep:=m.rep r hA
 rw [hR] at hrep
 obtain ⟨b',c,te,p1,p2,p3,p4⟩:=hrep
 have p1:(X.β r).main=some b':=p1
 rw [hb] at p1
 injection p1 with p1
 subst p1
 obtain ⟨g1,g2,g3,g4,g5⟩:=zil (X:=X.mv s1.up) h4 hs ho hq p3 p4 ht' hc'
 have hlen:=CRep.length ht' hc'
 obtain ⟨hcells,hinfo⟩:=zhb ty hT h1
 have hrun:=zbn (P:=cx.P) (o:=off) (t:=t) (v:=vv) p2 (by rw [hcells,← hlen];simp) hinfo (by simpa using g3) hc'.ones
 have hmem:b∈((X.mv s1.up).μ r).own ((X.mv s1.up).β r):=by rw [hR];simp [Root.own,Ctx.mv,hb]
 have hw:=m.write (hnl:=by intro _ _ _ h;rw [hR] at h;cases h) hB (c':=(patch c.toList off vv.cells.toList).toArray) (R:=.box R new) hA hmem p2 (by simpa using zaj g3) (by rw [hR];rfl) (fun _=>⟨by rw [hR];rfl,fun e a d hr=>(by rw [hR] at hr;cases hr),fun e a g hr=>(by simp only [Ctx.wrote,upd_same] at hr;cases hr)⟩)
  (fun x=>⟨b,_,te,hb,setRow_heap _ _ _ _ _ _ p2,g4,CRep.ext x g5⟩)
 exact ⟨(),_,_,hrun,Nx.wrote x0 m hA hmem hw (by rw [g1]) g2,rfl⟩
theorem zdN (ty:TysOk cx) (hB:B0≤X.w.heap.size) {t:TypeId}{e T:Ty}{r b off:Nat}{q:List Stp}{v sv:SV}{s0 s':SS}(x:Ext X (X.mv s0.up)) (m:Mem B0 (X.mv s0.up)) (h:Run (zfx e T r q v) X.μ s0 sv s') (hs:Sat C k X.E s'.bs s'.nv)
  (hT:cx.T t=T) (h1:cx.cell1 t=true) (hA:X.A r) (hb:(X.β r).main=some b) (ho:tOff X.E q (.arr 0 e)=some off) (hq:tyAt q (.arr 0 e)=some T) {vv:Value} (hv:VRep (X.mv s0.up) v vv) :
  Acts cx.P B0 X (storeVar t ⟨b,off,none⟩ vv) s0 s' fun _ _=>sv=.un 1:=by
 unfold zfx at h
 obtain ⟨bd,s1,h2,h3⟩:=Run.bind h
 obtain ⟨a,s2,h4,h5⟩:=Run.bind h3
 obtain ⟨a',s3,h6,h7⟩:=Run.bind h5
 obtain ⟨_,s4,h8,h9⟩:=Run.bind h7
 have es:=Run.put h8
 obtain ⟨e1,e2⟩:=Run.pure h9
 subst es
 subst e1 e2
 obtain ⟨x1,m1,_,hab,d,hd,hdv⟩:=zej hB h2 (h4.sat (h6.sat hs)) m hv
 unfold rowAt at h4
 obtain ⟨RR,s5,h10,h11⟩:=Run.bind h4
 obtain ⟨e1,e2⟩:=Run.root h10
 subst e2
 split at h11
 ·rename_i e' a2
  obtain ⟨_,s6,h12,h13⟩:=Run.bind h11
  obtain ⟨hbe,es⟩:=Run.guard h12
  subst es
  obtain ⟨f1,f2⟩:=Run.pure h13
  subst f1 f2
  have he:=Ty.beq_eq hbe
  subst he
  have hR':(X.mv s2.up).μ r=.row e' a:=e1.symm
  have hrep:=m1.rep r hA
  rw [hR'] at hrep
  obtain ⟨d1,a1,a2⟩:=hrep
  have hm:seen true (X.mv s2.up)=(X.mv s2.up).M:=rfl
  rw [hm] at hdv
  have hdc:=hdv.cells
  obtain ⟨g1,g2,l,l',g3,g4,g5,_,g6⟩:=zh2 (w:=X.w) (M:=(X.mv s2.up).M) h6 hs ho hq a1 hd hdc (by
   rcases a2 with ⟨p,_⟩|⟨_,_,_,_,l,xs,_,p,_,_,p5,_⟩
   ·rw [show ((X.mv s2.up).β r).main=(X.β r).main from rfl,hb] at p;cases p
   ·exact .inr ⟨l,xs,p,p5⟩)
  rcases a2 with ⟨p,_⟩|⟨b',c,te,fr,l2,xs,p1,p2,p3,p4,p5,p6⟩
  ·rw [show ((X.mv s2.up).β r).main=(X.β r).main from rfl,hb] at p;cases p
  ·rw [show ((X.mv s2.up).β r).main=(X.β r).main from rfl,hb] at p1
   injection p1 with p1
   rw [p2] at g3
   injection g3 with g3
   subst p1 g3
   have hfr:=p4 trivial
   subst hfr
   obtain ⟨hfit,hnew⟩:=g6 xs p5
   have hxs:xs.length≤c.toList.length:=by rw [← p6,wE0];omega
   have hlen:=hdc.length
   obtain ⟨hcells,hinfo⟩:=zhb ty hT h1
   have hrun:=zbn (P:=cx.P) (o:=off) (t:=t) (v:=vv) p3 (by rw [hcells,← hlen];simp) hinfo (by simp at hxs ⊢;simp at hfit;omega) hdc.ones
   have hmem:b∈((X.mv s2.up).μ r).own ((X.mv s2.up).β r):=by rw [hR'];simp [Root.own,Ctx.mv,hb]
   have hw:=m1.write (hnl:=by intro _ _ _ h;rw [hR'] at h;cases h) hB (c':=(patch c.toList off vv.cells.toList).toArray) (R:=.row e' a') hA hmem p3 (by simpa using zaj (Nat.le_trans hfit hxs)) (by rw [hR'];rfl)
    (fun _=>⟨by rw [hR'];rfl,fun e a d hr hda=>(by
     rw [hR'] at hr
     simp only [Root.row?,wB0,Prod.mk.injEq] at hr
     obtain ⟨r1,r2⟩:=hr
     subst r1 r2
     refine ⟨a',.sl l',by simp [Ctx.wrote,upd_same,Root.row?],g4,?_⟩
     rw [a1] at hda
     injection hda with hda
     subst hda
     rw [p2]
     exact ⟨fun h=>(by cases h),fun l0 hl=>(by injection hl with hl;subst hl;exact ⟨l',rfl,g5⟩)⟩),
     fun e a g hr=>(by simp only [Ctx.wrote,upd_same] at hr;cases hr)⟩)
    (fun x2=>⟨.sl l',g4,.inr ⟨b,_,te,(0,0),l',patch xs off vv.cells.toList,hb,rfl,setRow_heap _ _ _ _ _ _ p3,fun _=>rfl,hnew.keep x2.K,by
     show (patch c.toList off vv.cells.toList).take _=_
     rw [zaj hfit,zc6 hxs hfit,p6]⟩⟩)
   exact ⟨(),_,_,hrun,Nx.wrote (x.trans x1) m1 hA hmem hw (by rw [g1]) (g2.trans hab),rfl⟩
 ·exact (Run.fail h11).elim
end
end Go.SX
namespace Go.SX
open Go.RowKit (Below)
theorem zlt:∀ {l:List (Option Nat)}{i j b b':Nat},(opts l).Nodup→l[i]?=some (some b)→l[j]?=some (some b')→j≠i→b'≠b
 | [],i,_,_,_,_,h,_,_=>by simp at h
 | o::l,0,0,_,_,_,_,_,h=>absurd rfl h
 | o::l,0,j + 1,b,b',hn,h1,h2,_=>by
  simp at h1 h2
  subst h1
  simp only [opts,List.nodup_cons,zaW] at hn
  intro e
  subst e
  exact hn.1 (List.mem_of_getElem? h2)
 | o::l,i + 1,0,b,b',hn,h1,h2,_=>by
  simp at h1 h2
  subst h2
  simp only [opts,List.nodup_cons,zaW] at hn
  intro e
  subst e
  exact hn.1 (List.mem_of_getElem? h1)
 | o::l,i + 1,j + 1,b,b',hn,h1,h2,hne=>by
  simp at h1 h2
  refine zlt (l:=l) ?_ h1 h2 (by omega)
  cases o with
  | none=>simpa only [opts] using hn
  | some x=>simp only [opts,List.nodup_cons] at hn;exact hn.2
theorem RowCells.set {w w':World}{M M':Nat→Prop}(K:Keeps w w' M M') {e:Ty}:∀ {os:List (Option Nat)}{ds:List D}{vs:List Value}{i:Nat}{o':Option Nat}{y':D}{v':Value},
  RowCells w M e os ds vs→(∀ j b',j≠i→os[j]?=some (some b')→w'.heap[b']?=w.heap[b']?)→(i<ds.length→RowCell w' M' e o' y' v')→RowCells w' M' e (os.set i o') (ds.set i y') (vs.set i v')
 | [],[],[],i,o',y',v',h,_,_=>by simp only [List.set_nil,RowCells]
 | o::os,d::ds,v::vs,0,o',y',v',h,hb,hc=>by
  simp only [RowCells] at h
  simp only [List.set_cons_zero,RowCells]
  refine ⟨hc (by simp),RowCells.keep K (fun b hb'=>?_) h.2⟩
  obtain ⟨j,hj⟩:=List.mem_iff_getElem?.1 hb'
  exact hb (j + 1) b (by omega) (by simpa using hj)
 | o::os,d::ds,v::vs,i + 1,o',y',v',h,hb,hc=>by
  simp only [RowCells] at h
  simp only [List.set_cons_succ,RowCells]
  refine ⟨RowCell.keep K (fun b hb'=>hb 0 b (by omega) (by simp [hb'])) h.1,RowCells.set K h.2 (fun j b' hj hb'=>hb (j + 1) b' (by omega) (by simpa using hb')) fun hi=>hc (by simpa using hi)⟩
 | [],_::_,_,_,_,_,_,h,_,_|_::_,[],_,_,_,_,_,h,_,_|[],[],_::_,_,_,_,_,h,_,_|_::_,_::_,[],_,_,_,_,h,_,_=>by simp only [RowCells] at h
section
variable {C:FuncId→List D→Option (List D)} {k B0:Nat} {X:Ctx} {cx:Cx}
theorem zkf {e:Ty}{r g:Nat}{a:At}{μ:Nat→Root}{σ σ':SS}(h:Run (ztB e r g) μ σ a σ'):σ'=σ∧now μ σ.up r=.mat e a g:=by
 unfold ztB at h
 obtain ⟨RR,s1,h1,h2⟩:=Run.bind h
 obtain ⟨e1,e2⟩:=Run.root h1
 subst e2
 split at h2
 ·rename_i e' a2 g'
  obtain ⟨_,s2,h3,h4⟩:=Run.bind h2
  obtain ⟨hb,es⟩:=Run.guard h3
  subst es
  obtain ⟨f1,f2⟩:=Run.pure h4
  subst f1 f2
  simp only [wD0] at hb
  have he:=Ty.beq_eq hb.1
  have hg:=zad hb.2
  subst he hg
  exact ⟨rfl,e1.symm⟩
 ·exact (Run.fail h2).elim
theorem zcl {e:Ty}{r:Nat}{a:At}{μ:Nat→Root}{σ σ':SS}(h:Run (rowAt e r) μ σ a σ'):σ'=σ∧now μ σ.up r=.row e a:=by
 unfold rowAt at h
 obtain ⟨RR,s1,h1,h2⟩:=Run.bind h
 obtain ⟨e1,e2⟩:=Run.root h1
 subst e2
 split at h2
 ·rename_i e' a2
  obtain ⟨_,s2,h3,h4⟩:=Run.bind h2
  obtain ⟨hb,es⟩:=Run.guard h3
  subst es
  obtain ⟨f1,f2⟩:=Run.pure h4
  subst f1 f2
  have he:=Ty.beq_eq hb
  subst he
  exact ⟨rfl,e1.symm⟩
 ·exact (Run.fail h2).elim
theorem zmI {l:List D}{i:Nat}{y y':D}(hy:l[i]?=some y) (hs:sameLen y y'):sameRows (.sl l) (.sl (l.set i y')):=fun ds hd=>by
 injection hd with hd
 subst hd
 refine ⟨_,rfl,fun j x hx=>?_⟩
 by_cases hj:j=i
 ·subst hj
  rw [hy] at hx
  injection hx with hx
  subst hx
  obtain ⟨hlt,_⟩:=List.getElem?_eq_some_iff.1 hy
  exact ⟨y',by rw [List.getElem?_set_self hlt],hs⟩
 ·exact ⟨x,by rw [List.getElem?_set_ne (Ne.symm hj)];exact hx,sameLen.refl x⟩
theorem Mem.inRow {e:Ty}{r g i b:Nat}{a a':At}{l ll ll':List D}{xs':List Value}{cc:Array Value}{te:TypeId}{off:Nat}{cv:List Value}(m:Mem B0 X) (hB:B0≤X.w.heap.size) (hA:X.A r) (hR:X.μ r=.mat e a g) (ha:a.get X.E=some (.sl l))
  (hi:(X.β r).rows[i]?=some (some b)) (hl:l[i]?=some (.sl ll)) (ha':a'.get X.E=some (.sl (l.set i (.sl ll')))) (hll:ll'.length=ll.length) (hh:X.w.heap[b]?=some (.cells cc te (0,0)))
  (hc:cc.toList.take xs'.length=xs') (hfit:off + cv.length≤xs'.length) (hnew:DRepA X.w X.M e ll' (patch xs' off cv)) :
  b∈(X.μ r).own (X.β r)∧Ext X (X.wrote b (patch cc.toList off cv).toArray r (.mat e a' g))∧Mem B0 (X.wrote b (patch cc.toList off cv).toArray r (.mat e a' g)):=by
 have hxs:xs'.length≤cc.toList.length:=by rw [← hc,wE0];omega
 have hmem:b∈(X.μ r).own (X.β r):=by rw [hR];simp [Root.own,zaW,List.mem_of_getElem? hi]
 refine ⟨hmem,m.write hB hA hmem hh (by simpa using zaj (Nat.le_trans hfit hxs)) (by rw [hR];rfl) (fun _=>⟨by rw [hR];rfl,fun e1 a1 d hr hd=>?_,fun e1 a1 g1 hr=>?_⟩) fun x=>?_⟩
 ·rw [hR] at hr
  simp only [Root.row?,wB0,Prod.mk.injEq] at hr
  obtain ⟨r1,r2⟩:=hr
  subst r1 r2
  rw [ha] at hd
  injection hd with hd
  subst hd
  exact ⟨a',_,by simp [Ctx.wrote,upd_same,Root.row?],ha',fun h=>(by cases h),fun l0 hl0=>(by injection hl0 with hl0;subst hl0;exact ⟨_,rfl,by simp⟩)⟩
 ·simp only [Ctx.wrote,upd_same] at hr
  injection hr with r1 r2 r3
  subst r1 r2 r3
  refine ⟨a,g,hR,wG0 _,fun _=>⟨rfl,fun d hd=>?_⟩⟩
  rw [ha] at hd
  injection hd with hd
  subst hd
  exact ⟨_,ha',zmI hl ⟨fun h=>(by cases h),fun l0 hl0=>(by injection hl0 with hl0;subst hl0;exact ⟨_,rfl,hll⟩)⟩⟩
 ·have hrep:=m.rep r hA
  have hnd:=m.once r hA
  rw [hR] at hrep hnd
  obtain ⟨d,g1,g2⟩:=hrep
  rw [ha] at g1
  injection g1 with g1
  subst g1
  rcases g2 with ⟨_,p,_⟩|⟨bm,c,te',l2,xs,p1,p2,p3,p4,p5⟩
  ·rw [p] at hi;simp at hi
  ·injection p2 with p2
   subst p2
   simp only [Root.own,p1,Option.toList,List.singleton_append,List.nodup_cons,zaW] at hnd
   have hne:bm≠b:=fun h=>hnd.1 (h▸List.mem_of_getElem? hi)
   obtain ⟨v,hv,hrc⟩:=p4.get hl hi
   have hset:RowCells (X.w.setRow b (patch cc.toList off cv).toArray) (X.wrote b (patch cc.toList off cv).toArray r (.mat e a' g)).M e ((X.β r).rows.set i (some b)) (l.set i (.sl ll')) (xs.set i v):=by
    refine RowCells.set x.K p4 (fun j b' hj hb'=>setRow_other _ _ _ _ (zlt hnd.2 hi hb' hj)) fun _=>?_
    rcases hrc with ⟨c1,_⟩|⟨bb,l3,c3,te3,xs3,cap,c1,c2,c3',c4,c5,c6,c7,c8⟩
    ·cases c1
    ·injection c1 with c1
     injection c2 with c2
     subst c1 c2
     rw [hh] at c3'
     injection c3' with c3'
     injection c3' with c3' _ _
     subst c3'
     refine .inr ⟨b,ll',(patch cc.toList off cv).toArray,te,patch xs' off cv,cap,rfl,rfl,setRow_heap _ _ _ _ _ _ hh,hnew.keep x.K,?_,by rw [hll];exact c6,by rw [hll];exact c7,?_⟩
     ·show (patch cc.toList off cv).take _=_
      rw [zaj hfit,zc6 hxs hfit,hc]
     ·have:=zaj (Nat.le_trans hfit hxs)
      simp only [List.size_toArray,this,Array.length_toList]
      exact c8
   have e1:(X.β r).rows.set i (some b)=(X.β r).rows:=by
    apply List.ext_getElem?
    intro j
    by_cases hj:j=i
    ·subst hj
     obtain ⟨hlt,_⟩:=List.getElem?_eq_some_iff.1 hi
     rw [List.getElem?_set_self hlt,hi]
    ·rw [List.getElem?_set_ne (Ne.symm hj)]
   have e2:xs.set i v=xs:=by
    apply List.ext_getElem?
    intro j
    by_cases hj:j=i
    ·subst hj
     obtain ⟨hlt,_⟩:=List.getElem?_eq_some_iff.1 hv
     rw [List.getElem?_set_self hlt,hv]
    ·rw [List.getElem?_set_ne (Ne.symm hj)]
   rw [e1,e2] at hset
   exact ⟨_,ha',.inr ⟨bm,c,te',_,xs,p1,rfl,(setRow_other _ _ _ _ hne).trans p3,hset,p5⟩⟩
theorem zlZ (ty:TysOk cx) (hB:B0≤X.w.heap.size) {t:TypeId}{e T:Ty}{r g:Nat}{ix:At}{q:List Stp}{v sv:SV}{s0 s':SS}(m:Mem B0 X) (h0:s0.up=[]) (h:Run (zo0 e T r ix q g v) X.μ s0 sv s') (hs:Sat C k X.E s'.bs s'.nv)
  (hT:cx.T t=T) (h1:cx.cell1 t=true) {vx vv:Value} (hx:Ref X (.pm e T r ix q g) vx) (hv:VRep X v vv) :
  Acts cx.P B0 X (Instr.storeAt t vx vv) s0 s' fun _ _=>sv=.un 1:=by
 unfold zo0 at h
 obtain ⟨_,s1,h2,h3⟩:=Run.bind h
 obtain ⟨_,es⟩:=Run.guard h2
 subst es
 obtain ⟨bd,s2,h4,h5⟩:=Run.bind h3
 obtain ⟨a,s3,h6,h7⟩:=Run.bind h5
 obtain ⟨y,s4,h8,h9⟩:=Run.bind h7
 obtain ⟨y',s5,h10,h11⟩:=Run.bind h9
 obtain ⟨a',s6,h12,h13⟩:=Run.bind h11
 obtain ⟨_,s7,h14,h15⟩:=Run.bind h13
 have es:=Run.put h14
 obtain ⟨e1,e2⟩:=Run.pure h15
 subst es
 subst e1 e2
 have hmv:X.mv s1.up=X:=by rw [h0];rfl
 obtain ⟨x1,m1,_,hab,d,hd,hdv⟩:=zej hB h4 (h6.sat (h8.sat (h10.sat (h12.sat hs)))) (by rw [hmv];exact m) (by rw [hmv];exact hv)
 rw [hmv] at x1
 have hdc:DRep X.w (X.mv s2.up).M T d vv.cells.toList:=hdv.cells
 obtain ⟨es,hR⟩:=zkf h6
 subst es
 have hR:(X.mv s3.up).μ r=.mat e a g:=hR
 have hx2:=hx.ext x1
 simp only [Ref] at hx2
 obtain ⟨_,hA,hx2⟩:=hx2
 obtain ⟨_,hx2⟩:=hx2 _ _ _ hR
 obtain ⟨_,kk,i,b,off,v1,v2,v3,v4,v5⟩:=hx2 rfl
 have hrep:=m1.rep r hA
 rw [hR] at hrep
 obtain ⟨d1,f1,f2⟩:=hrep
 obtain ⟨⟨w0,wi,yd,q1,q2,q3,q4⟩,q5,q6⟩:=Run.op2 h8 (h10.sat (h12.sat hs))
 have f1':a.get X.E=some d1:=f1
 have v1':ix.get X.E=some (.int kk (Int.ofNat i)):=v1
 rw [f1'] at q1
 rw [v1'] at q2
 injection q1 with q1
 injection q2 with q2
 subst q1 q2
 rcases f2 with ⟨_,p1,p2⟩|⟨bm,c,te,l,xs,p1,p2,p3,p4,p5⟩
 ·rw [p1] at v2;simp at v2
 ·subst p2
  simp [Prim.run] at q3
  obtain ⟨u,hu,hrc⟩:=p4.get q3 v2
  rcases hrc with ⟨c1,_⟩|⟨bb,ll,cc,te',xs',cap,c1,c2,c3,c4,c5,c6,c7,c8⟩
  ·cases c1
  ·injection c1 with c1
   subst c1 c2
   obtain ⟨g1,g2,l1,l',g3,g4,g5,_,g6⟩:=zh2 (w:=X.w) (M:=(X.mv s3.up).M) h10 (h12.sat hs) v4 v5 q4 hd hdc (.inr ⟨ll,xs',rfl,c4⟩)
   injection g3 with g3
   subst g3
   obtain ⟨hfit,hnew⟩:=g6 xs' c4
   obtain ⟨⟨z0,z1,z2,z3,o1,o2,o3,o4,o5⟩,o6,o7⟩:=Run.op3 h12 hs
   rw [f1'] at o1
   rw [v1'] at o2
   rw [g4] at o3
   injection o1 with o1
   injection o2 with o2
   injection o3 with o3
   subst o1 o2 o3
   simp only [Prim.run] at o4
   split at o4
   ·injection o4 with o4
    subst o4
    obtain ⟨hmem,hw⟩:=m1.inRow hB hA hR f1 v2 q3 o5 g5 c3 c5 hfit hnew
    have hlen:=hdc.length
    have hxs:xs'.length≤cc.toList.length:=by rw [← c5,wE0];omega
    obtain ⟨hcells,hinfo⟩:=zhb ty hT h1
    have hrun:=zbn (P:=cx.P) (w:=X.w) (o:=off) (t:=t) (v:=vv) c3 (by rw [hcells,← hlen];simp) hinfo (by simp at hxs ⊢;simp at hfit;omega) hdc.ones
    refine ⟨(),_,_,?_,Nx.wrote x1 m1 (by simp only [Ref] at hx;exact hx.2.1) hmem hw (by rw [o6,g1,q5]) (by rw [o7,g2,q6,hab]),rfl⟩
    subst v3
    simp only [Instr.storeAt,Instr.sureAddr,Sem.run_bind,Sem.run_pure,Result.andThen_ok,hrun]
   ·cases o4
end
end Go.SX
namespace Go.SX
open Go.RowKit (Below)
theorem zeU {l:List (Option Nat)}{i b:Nat}{o:Option Nat}(h:b∈opts (l.set i o)):o=some b∨b∈opts l:=by
 rw [zaW] at h
 rcases List.mem_or_eq_of_mem_set h with h|h
 ·exact .inr (zaW.2 h)
 ·exact .inl h.symm
theorem zdL:∀ {l:List (Option Nat)}{i:Nat}{o:Option Nat},(opts l).Nodup→(∀ b,o=some b→b∉opts l)→(opts (l.set i o)).Nodup
 | [],_,_,_,_=>by simp [opts]
 | x::l,0,o,h,ho=>by
  have hl:(opts l).Nodup:=by
   cases x with
   | none=>simpa only [opts] using h
   | some b=>simp only [opts,List.nodup_cons] at h;exact h.2
  cases o with
  | none=>simpa only [List.set_cons_zero,opts] using hl
  | some b =>
   simp only [List.set_cons_zero,opts,List.nodup_cons]
   refine ⟨fun hb=>ho b rfl ?_,hl⟩
   cases x with
   | none=>simpa only [opts] using hb
   | some b'=>simp only [opts,List.mem_cons];exact .inr hb
 | x::l,i + 1,o,h,ho=>by
  cases x with
  | none =>
   simp only [List.set_cons_succ,opts] at h ho ⊢
   exact zdL h ho
  | some b' =>
   simp only [List.set_cons_succ,opts,List.nodup_cons,List.mem_cons] at h ho ⊢
   refine ⟨fun hb=>?_,zdL h.2 fun b hb hm=>ho b hb (.inr hm)⟩
   rcases zeU hb with hb|hb
   ·exact ho b' hb (.inl rfl)
   ·exact h.1 hb
section
variable {C:FuncId→List D→Option (List D)} {k B0:Nat} {X:Ctx} {cx:Cx}
theorem zhC {e:Ty}{μ:Nat→Root}:∀ {l:List SV}{as:List At}{σ σ':SS},Run (zjG e l) μ σ as σ' →
  ∃ ps:List (Nat×At),l=ps.map (fun p=>.h e p.1 none)∧as=ps.map (·.2)∧(ps.map (·.1)).Nodup∧(∀ p∈ps,now μ σ.up p.1=.row e p.2) ∧
   σ'.up=(ps.map fun p=>(p.1,Root.dead)).reverse++σ.up∧σ'.ab=σ.ab
 | [],as,σ,σ',h=>by
  simp only [zjG] at h
  obtain ⟨e1,e2⟩:=Run.pure h
  subst e1 e2
  exact ⟨[],rfl,rfl,by simp,by simp,rfl,rfl⟩
 | s::l,as,σ,σ',h=>by
  unfold zjG at h
  split at h
  ·rename_i heq;cases heq
  ·rename_i e' r l' heq
   injection heq with h1 h2
   subst h1 h2
   obtain ⟨RR,s1,h3,h4⟩:=Run.bind h
   obtain ⟨e1,e2⟩:=Run.root h3
   subst e2
   split at h4
   ·rename_i e'' a
    obtain ⟨_,s2,h5,h6⟩:=Run.bind h4
    obtain ⟨hb,es⟩:=Run.guard h5
    subst es
    simp only [wD0] at hb
    have he:=Ty.beq_eq hb.1
    have he2:=Ty.beq_eq hb.2
    subst he he2
    obtain ⟨_,s3,h7,h8⟩:=Run.bind h6
    have es:=Run.put h7
    subst es
    obtain ⟨as',s4,h9,h10⟩:=Run.bind h8
    obtain ⟨f1,f2⟩:=Run.pure h10
    subst f1 f2
    obtain ⟨ps,p1,p2,p3,p4,p5,p6⟩:=zhC h9
    have hne:∀ p∈ps,p.1≠r∧now μ s2.up p.1=.row e'' p.2:=fun p hp=>by
     have:=p4 p hp
     rw [zaF] at this
     by_cases hq:p.1=r
     ·rw [hq,upd_same] at this;cases this
     ·rw [upd_ne _ _ hq] at this;exact ⟨hq,this⟩
    refine ⟨(r,a)::ps,by simp [p1],by simp [p2],?_,?_,by simp [p5],p6⟩
    ·simp only [List.map_cons,List.nodup_cons,List.mem_map]
     exact ⟨fun ⟨p,hp,hq⟩=>(hne p hp).1 hq,p3⟩
    ·intro p hp
     rcases List.mem_cons.1 hp with hp|hp
     ·subst hp;exact e1.symm
     ·exact (hne p hp).2
   ·exact (Run.fail h4).elim
  ·exact (Run.fail h).elim
theorem zg4 (m:Mem B0 X) {e:Ty}{r:Nat}{a:At}{d:D}{v:Value}(hA:X.A r) (hR:X.μ r=.row e a) (ha:a.get X.E=some d) (hv:Ref X (.h e r none) v):RowCell X.w X.M e (X.β r).main d v:=by
 have hrep:=m.rep r hA
 rw [hR] at hrep
 simp only [Ref] at hv
 obtain ⟨a',d',g1,g2,g3⟩:=hv.2.2 (by rw [hR];rfl)
 rw [hR] at g1
 simp only [Root.row?,wB0,Prod.mk.injEq] at g1
 obtain ⟨_,g1⟩:=g1
 subst g1
 rw [ha] at g2
 injection g2 with g2
 subst g2
 obtain ⟨d2,h1,h2⟩:=hrep
 rw [ha] at h1
 injection h1 with h1
 subst h1
 rcases g3 with ⟨p1,p2,_⟩|⟨b,l,p1,p2,cap,bs,p3,p4,p5,p6⟩
 ·exact .inl ⟨p1,p2⟩
 ·rcases h2 with ⟨q1,_⟩|⟨b',c,te,fr,l',xs,q1,q2,q3,q4,q5,q6⟩
  ·rw [p1] at q1;cases q1
  ·rw [p1] at q1
   injection q1 with q1
   rw [p2] at q2
   injection q2 with q2
   subst q1 q2
   have hf:=q4 trivial
   subst hf
   refine .inr ⟨b,l,c,te,xs,cap,p1,p2,q3,q5,q6,p3,p4,?_⟩
   simp only [bsize,q3,wB0] at p5
   rw [p5]
   exact p6
def Ctx.gave (X:Ctx) (bm:Nat) (c:Array Value) (r rv i:Nat) (R:Root):Ctx :=
 { E:=X.E,w:=X.w.setRow bm c,μ:=upd (upd X.μ rv .dead) r R,β:=upd X.β r ⟨(X.β r).main,(X.β r).rows.set i (X.β rv).main⟩,A:=X.A,F:=X.F }
theorem Mem.give {e:Ty}{r g i rv bm:Nat}{a a' av:At}{l:List D}{dv:D}{vv:Value}{c:Array Value}{te:TypeId}(m:Mem B0 X) (hB:B0≤X.w.heap.size) (hA:X.A r) (hR:X.μ r=.mat e a g) (hAv:X.A rv) (hRv:X.μ rv=.row e av)
  (ha:a.get X.E=some (.sl l)) (hav:av.get X.E=some dv) (ha':a'.get X.E=some (.sl (l.set i dv))) (hi:i<l.length) (hm:(X.β r).main=some bm) (hh:X.w.heap[bm]?=some (.cells c te (0,0))) (hv:Ref X (.h e rv none) vv) :
  Ext X (X.gave bm (patch c.toList i [vv]).toArray r rv i (.mat e a' (g + 1)))∧Mem B0 (X.gave bm (patch c.toList i [vv]).toArray r rv i (.mat e a' (g + 1))):=by
 have hne:rv≠r:=fun h=>by rw [h,hR] at hRv;cases hRv
 have hrep:=m.rep r hA
 have hnd:=m.once r hA
 rw [hR] at hrep hnd
 simp only [Root.own,hm,Option.toList,List.singleton_append,List.nodup_cons] at hnd
 have hcell:=zg4 m hAv hRv hav hv
 obtain ⟨d,g1,g2⟩:=hrep
 rw [ha] at g1
 injection g1 with g1
 subst g1
 rcases g2 with ⟨p,_,_⟩|⟨bm',c',te',l2,xs,p1,p2,p3,p4,p5⟩
 ·rw [hm] at p;cases p
 ·rw [hm] at p1
  injection p1 with p1
  injection p2 with p2
  subst p1 p2
  rw [hh] at p3
  injection p3 with p3
  injection p3 with p3 p3' _
  subst p3 p3'
  have hlens:=RowCells.lens p4
  have hxs:xs.length≤c.toList.length:=by rw [← p5,wE0];omega
  have hfit:i + [vv].length≤c.toList.length:=by simp at hxs ⊢;omega
  have rvown:∀ b,(X.β rv).main=some b→b∈(X.μ rv).own (X.β rv):=fun b hb=>by rw [hRv];simp [Root.own,hb]
  have rown:∀ b,b=bm∨b∈opts (X.β r).rows→b∈(X.μ r).own (X.β r):=fun b hb=>by
   rw [hR]
   simp only [Root.own,hm,Option.toList,List.singleton_append,List.mem_cons]
   exact hb
  have hd:(X.gave bm (patch c.toList i [vv]).toArray r rv i (.mat e a' (g + 1))).μ rv=.dead:=by simp [Ctx.gave,upd_same,upd_ne _ _ hne]
  have hr:(X.gave bm (patch c.toList i [vv]).toArray r rv i (.mat e a' (g + 1))).μ r=.mat e a' (g + 1):=by simp [Ctx.gave,upd_same]
  have hβr:(X.gave bm (patch c.toList i [vv]).toArray r rv i (.mat e a' (g + 1))).β r=⟨some bm,(X.β r).rows.set i (X.β rv).main⟩:=by simp [Ctx.gave,upd_same,hm]
  have hβv:(X.gave bm (patch c.toList i [vv]).toArray r rv i (.mat e a' (g + 1))).β rv=X.β rv:=by simp [Ctx.gave,upd_ne _ _ hne]
  have hsz:(patch c.toList i [vv]).toArray.size=c.size:=by simpa using zaj hfit
  refine Mem.change m hB (fun q=>q=r∨q=rv) (fun _ _ h=>h) (fun _ h=>h) (fun q h=>.inl h) (fun q hq=>?_) (fun q _ hq=>setRow_other _ _ _ _ fun e=>hq r (.inl rfl) hA (e▸rown bm (.inl rfl))) (fun q n h=>zcy hh hsz h) ?_ ?_ ?_ ?_ ?_ ?_
  ·have h1:q≠r:=fun h=>hq (.inl h)
   have h2:q≠rv:=fun h=>hq (.inr h)
   exact ⟨by simp [Ctx.gave,upd_ne _ _ h1,upd_ne _ _ h2],by simp [Ctx.gave,upd_ne _ _ h1]⟩
  ·intro q b hq _ hb
   rcases hq with hq|hq
   ·subst hq
    rw [hr,hβr] at hb
    simp only [Root.own,Option.toList,List.singleton_append,List.mem_cons] at hb
    rcases hb with hb|hb
    ·exact .inr ⟨q,.inl rfl,hA,rown b (.inl hb)⟩
    ·rcases zeU hb with hb|hb
     ·exact .inr ⟨rv,.inr rfl,hAv,rvown b hb⟩
     ·exact .inr ⟨q,.inl rfl,hA,rown b (.inr hb)⟩
   ·subst hq
    rw [hd] at hb
    simp [Root.own] at hb
  ·intro q q' b hq hq' _ _ hb hb'
   have no:∀ {q},q=rv→b∈((X.gave bm (patch c.toList i [vv]).toArray r rv i (.mat e a' (g + 1))).μ q).own ((X.gave bm (patch c.toList i [vv]).toArray r rv i (.mat e a' (g + 1))).β q)→False:=fun h hb=>by
    subst h
    rw [hd] at hb
    simp [Root.own] at hb
   rcases hq with hq|hq
   ·rcases hq' with hq'|hq'
    ·rw [hq,hq']
    ·exact (no hq' hb').elim
   ·exact (no hq hb).elim
  ·intro q hq _
   rcases hq with hq|hq
   ·subst hq
    rw [hr,hβr]
    simp only [Root.own,Option.toList,List.singleton_append,List.nodup_cons]
    refine ⟨fun hb=>?_,zdL hnd.2 fun b hb hb'=>hne (m.apart rv q b hAv hA (rvown b hb) (rown b (.inr hb')))⟩
    rcases zeU hb with hb|hb
    ·exact hne (m.apart rv q bm hAv hA (rvown bm hb) (rown bm (.inl rfl)))
    ·exact hnd.1 hb
   ·subst hq
    rw [hd]
    simp [Root.own]
  ·intro q hq _
   rcases hq with hq|hq
   ·subst hq;rw [hβr,hm]
   ·subst hq;rw [hβv]
  ·intro q hq _ ht
   rcases hq with hq|hq
   ·subst hq
    refine ⟨by rw [hR];rfl,fun e1 a1 d1 h1 h2=>?_,fun e1 a1 g1 h1=>?_⟩
    ·rw [hR] at h1
     simp only [Root.row?,wB0,Prod.mk.injEq] at h1
     obtain ⟨r1,r2⟩:=h1
     subst r1 r2
     rw [ha] at h2
     injection h2 with h2
     subst h2
     exact ⟨a',_,by rw [hr];rfl,ha',fun h=>(by cases h),fun l0 hl0=>(by injection hl0 with hl0;subst hl0;exact ⟨_,rfl,by simp⟩)⟩
    ·rw [hr] at h1
     injection h1 with r1 r2 r3
     subst r1 r2 r3
     exact ⟨a,g,hR,by omega,fun h=>(by omega)⟩
   ·subst hq
    rw [hd] at ht
    cases ht
  ·intro x q hq _
   rcases hq with hq|hq
   ·subst hq
    rw [hr]
    refine ⟨_,ha',.inr ⟨bm,_,te,_,xs.set i vv,by rw [hβr],rfl,setRow_heap _ _ _ _ _ _ hh,?_,?_⟩⟩
    ·rw [hβr]
     refine RowCells.set x.K p4 (fun j b' _ hb'=>setRow_other _ _ _ _ fun e=>hnd.1 (e▸zaW.2 (List.mem_of_getElem? hb'))) fun _=>RowCell.keep x.K (fun b hb=>setRow_other _ _ _ _ fun e=>?_) hcell
     exact hne (m.apart rv q bm hAv hA (rvown bm (e▸hb)) (rown bm (.inl rfl)))
    ·show (patch c.toList i [vv]).take _=_
     rw [List.length_set,zc6 hxs (by simp;omega),p5]
     simp only [patch,List.length_singleton]
     rw [List.set_eq_take_append_cons_drop,if_pos (by omega)]
     simp
   ·subst hq
    rw [hd]
    trivial
end
end Go.SX
namespace Go.SX
open Go.RowKit (Below)
section
variable {C:FuncId→List D→Option (List D)} {k B0:Nat} {X:Ctx} {cx:Cx}
theorem zf0 {e:Ty}{μ:Nat→Root}:∀ {l:List SV}{b:Bool}{σ σ':SS},Run (allRows e l) μ σ b σ'→σ'=σ
 | [],b,σ,σ',h=>by simp only [allRows] at h;exact (Run.pure h).2
 | s::l,b,σ,σ',h=>by
  unfold allRows at h
  split at h
  ·rename_i heq;cases heq
  ·rename_i heq
   injection heq with h1 h2
   subst h1 h2
   obtain ⟨RR,s1,h3,h4⟩:=Run.bind h
   obtain ⟨_,e2⟩:=Run.root h3
   subst e2
   split at h4
   ·split at h4
    ·exact zf0 h4
    ·exact (Run.pure h4).2
   ·exact (Run.pure h4).2
  ·exact (Run.pure h).2
theorem zkp (ty:TysOk cx) (hB:B0≤X.w.heap.size) {t:TypeId}{e:Ty}{r b off:Nat}{q:List Stp}{v sv:SV}{s0 s':SS}(m:Mem B0 X) (h0:s0.up=[]) (h:Run (zl9 e r q v) X.μ s0 sv s') (hs:Sat C k X.E s'.bs s'.nv)
  (hq:tyAt q (.arr 0 (.sl e))=some (cx.T t)) (h1:cx.cell1 t=true) (hA:X.A r) (hb:(X.β r).main=some b) (ho:tOff X.E q (.arr 0 (.sl e))=some off) {vv:Value} (hv:VRep X v vv) :
  Acts cx.P B0 X (storeVar t ⟨b,off,none⟩ vv) s0 s' fun _ _=>sv=.un 1:=by
 unfold zl9 at h
 obtain ⟨as,s1,h2,h3⟩:=Run.bind h
 obtain ⟨ps,p1,p2,p3,p4,p5,p6⟩:=zhC h2
 split at h3
 ·rename_i bd ix
  simp only [tyAt,wB0] at hq
  have hT:=hq.symm
  obtain ⟨RR,s2,h4,h5⟩:=Run.bind h3
  obtain ⟨e1,e2⟩:=Run.root h4
  subst e2
  split at h5
  ·rename_i e' a g
   obtain ⟨_,s3,h6,h7⟩:=Run.bind h5
   obtain ⟨hbe,es⟩:=Run.guard h6
   subst es
   have he:=Ty.beq_eq hbe
   subst he
   obtain ⟨a',s4,h8,h9⟩:=Run.bind h7
   obtain ⟨_,s5,h10,h11⟩:=Run.bind h9
   have es:=Run.put h10
   obtain ⟨f1,f2⟩:=Run.pure h11
   subst es
   subst f1 f2
   match ps,p1,p2 with
   | [(rv,av)],p1,p2 =>
    simp at p1 p2
    subst p1 p2
    have hRv:X.μ rv=.row e' bd:=by
     have:=p4 (rv,bd) (by simp)
     rw [h0,zar] at this
     exact this
    simp only [List.map_cons,List.map_nil,List.reverse_singleton,h0] at p5
    have p5:s3.up=[(rv,Root.dead)]:=p5
    rw [p5,zaF,zar] at e1
    have hne:r≠rv:=fun h=>by rw [h,upd_same] at e1;cases e1
    rw [upd_ne _ _ hne] at e1
    have hR:X.μ r=.mat e' a g:=e1.symm
    simp only [VRep] at hv
    have hAv:X.A rv:=by simp only [Ref] at hv;exact hv.2.1
    have hrep:=m.rep r hA
    rw [hR] at hrep
    obtain ⟨d1,a1,a2⟩:=hrep
    obtain ⟨⟨z0,z1,z2,z3,o1,o2,o3,o4,o5⟩,o6,o7⟩:=Run.op3 h8 hs
    rw [a1] at o1
    injection o1 with o1
    subst o1
    rcases a2 with ⟨p,_,_⟩|⟨bm,c,te,l,xs,q1,q2,q3,q4,q5⟩
    ·rw [hb] at p;cases p
    ·rw [hb] at q1
     injection q1 with q1
     subst q1 q2
     cases z1<;>simp only [Prim.run,reduceCtorEq] at o4
     rename_i kk z
     split at o4
     ·rename_i hz
      injection o4 with o4
      subst o4
      simp only [tOff,o2,if_pos hz.1,wB0,Ty.size,Nat.mul_one,Nat.add_zero] at ho
      subst ho
      have hlt:z.toNat<l.length:=by omega
      have hlens:=RowCells.lens q4
      have hxs:xs.length≤c.toList.length:=by rw [← q5,wE0];omega
      have hone:=Ref.one hv
      have hcs:vv.cells.toList=[vv]:=by rw [hone.cells]
      obtain ⟨hcells,hinfo⟩:=zhb ty hT h1
      have hrun:=zbn (P:=cx.P) (w:=X.w) (o:=z.toNat) (t:=t) (v:=vv) q3 (by rw [hcells,hone.cells];rfl) hinfo (by rw [hcs];simp at hxs ⊢;omega) (by rw [hcs];intro u hu;simp at hu;subst hu;exact hone)
      rw [hcs] at hrun
      obtain ⟨x2,m2⟩:=m.give hB hA hR hAv hRv a1 o3 o5 hlt hb q3 hv
      refine ⟨(),_,X.gave b (patch c.toList z.toNat [vv]).toArray r rv z.toNat (Root.mat e' a' (g + 1)),hrun,⟨rfl,rfl,?_,fun q=>⟨fun h=>.inl h,fun h=>h.elim id fun h=>?_⟩,x2,m2,below_setRow (Below.refl _ _) (m.low r b hA (by rw [hR];simp [Root.own,hb])) _⟩,rfl⟩
      ·show _=now X.μ ((r,Root.mat e' a' (g + 1))::s4.up)
       rw [o6,p5,zaF,zaF,zar]
       rfl
      ·have:s4.ab=s0.ab:=by rw [o7,p6]
       simp only [this] at h
       omega
     ·cases o4
   | [],p1,_=>simp at p1
   | _::_::_,p1,_=>simp at p1
  ·exact (Run.fail h5).elim
 ·exact (Run.fail h3).elim
theorem Mem.unlend (m:Mem B0 X) (hB:B0≤X.w.heap.size) {r r':Nat}(hA:X.A r) {e:Ty}{a:At}(hR:X.μ r=.lt e a r') (hn:(X.μ r').noLt=true) :
  Ext X { X with μ:=upd (upd X.μ r' .dead) r (.row e a) }∧Mem B0 { X with μ:=upd (upd X.μ r' .dead) r (.row e a) }:=by
 have hne:r'≠r:=fun h=>by rw [h,hR] at hn;cases hn
 have h1:(upd (upd X.μ r' .dead) r (.row e a)) r=.row e a:=by simp [upd_same]
 have h2:(upd (upd X.μ r' .dead) r (.row e a)) r'=.dead:=by rw [upd_ne _ _ hne,upd_same]
 refine Mem.change m hB (fun q=>q=r∨q=r') (fun _ _ h=>h) (fun _ h=>h) (fun q h=>.inl h) (fun q hq=>⟨?_,rfl⟩) (fun _ _ _=>rfl) (fun _ _ h=>h) ?_ ?_ ?_ (fun _ _ _=>rfl) ?_ ?_ rfl ?_
 ·show upd (upd X.μ r' .dead) r (.row e a) q=X.μ q
  rw [upd_ne _ _ (fun h=>hq (.inl h)),upd_ne _ _ (fun h=>hq (.inr h))]
 ·intro q b hq _ hb
  simp only at hb
  rcases hq with hq|hq
  ·subst hq
   rw [h1] at hb
   exact .inr ⟨q,.inl rfl,hA,by rw [hR];exact hb⟩
  ·subst hq
   rw [h2] at hb
   simp [Root.own] at hb
 ·intro q q' b hq hq' _ _ hb hb'
  simp only at hb hb'
  rcases hq with hq|hq
  ·rcases hq' with hq'|hq'
   ·rw [hq,hq']
   ·subst hq';rw [h2] at hb';simp [Root.own] at hb'
  ·subst hq;rw [h2] at hb;simp [Root.own] at hb
 ·intro q hq _
  simp only
  rcases hq with hq|hq
  ·subst hq
   rw [h1]
   have:=m.once q hA
   rw [hR] at this
   exact this
  ·subst hq;rw [h2];simp [Root.own]
 ·intro q hq ha ht
  simp only at ht
  rcases hq with hq|hq
  ·subst hq
   refine ⟨by rw [hR];rfl,fun e1 a1 d hr hd=>⟨a1,d,?_,hd,sameLen.refl d⟩,fun e1 a1 g hr=>?_⟩
   ·rw [hR] at hr
    show (upd (upd X.μ r' .dead) q (.row e a) q).row?=_
    rw [h1]
    exact hr
   ·have hr:upd (upd X.μ r' .dead) q (.row e a) q=_:=hr
    rw [h1] at hr
    cases hr
  ·subst hq;rw [h2] at ht;cases ht
 ·intro x q hq _
  show RootRep _ q (upd (upd X.μ r' .dead) r (.row e a) q)
  rcases hq with hq|hq
  ·subst hq
   rw [h1]
   have:=m.rep q hA
   rw [hR] at this
   exact RowRep.keep x rfl (fun _ _=>rfl) this
  ·subst hq;rw [h2];trivial
 ·intro q hq _ e1 a1 q' h
  rcases hq with hq|hq
  ·subst hq
   rw [hR] at h
   injection h with _ _ h
   exact .inr h.symm
  ·subst hq;rw [h] at hn;cases hn
theorem zn3 {e:Ty}{r:Nat}{σ σ':SS}{a:At}(h:Run (SV.view true (.sl e) (.h e r none)) X.μ σ a σ') {q:Nat}{T:Ty}{v:SV}(hq:(X.mv σ.up).μ q=.box T v):(X.mv σ'.up).μ q=.box T v:=by
 simp only [SV.view] at h
 obtain ⟨_,s1,h1,h2⟩:=Run.bind h
 obtain ⟨_,es⟩:=Run.guard h1
 subst es
 obtain ⟨a0,s2,h3,h4⟩:=Run.bind h2
 obtain ⟨_,e2⟩:=Run.pure h4
 subst e2
 unfold zdI at h3
 obtain ⟨R,s3,h5,h6⟩:=Run.bind h3
 obtain ⟨hR,es⟩:=Run.root h5
 subst es
 have put:∀ {e1:Ty} {a1:At} {s4 s5:SS},R≠.box T v→s4.up=s3.up→Run (SX.X.putRoot r (.fz e1 a1) >>= fun _=>SX.X.pure a0) X.μ s4 a0 s5→(X.mv s5.up).μ q=.box T v:=by
  intro e1 a1 s4 s5 hne hup hrun
  obtain ⟨_,s6,g1,g2⟩:=Run.bind hrun
  have es:=Run.put g1
  obtain ⟨_,e3⟩:=Run.pure g2
  subst es e3
  rw [Ctx.mv_cons]
  show upd _ r _ q=_
  rw [upd_ne,hup]
  ·exact hq
  ·intro h
   subst h
   exact hne (hR.trans hq)
 cases R with
 | row e1 a1 =>
  obtain ⟨_,s4,g1,g2⟩:=Run.bind h6
  obtain ⟨_,es⟩:=Run.guard g1
  subst es
  obtain ⟨_,s6,g3,g4⟩:=Run.bind g2
  have es:=Run.put g3
  obtain ⟨_,e3⟩:=Run.pure g4
  subst es e3
  rw [Ctx.mv_cons]
  show upd _ r _ q=_
  rw [upd_ne]
  ·exact hq
  ·intro h
   subst h
   have:=hR.trans hq
   cases this
 | mat e1 a1 g =>
  obtain ⟨_,s4,g1,g2⟩:=Run.bind h6
  obtain ⟨_,es⟩:=Run.guard g1
  subst es
  obtain ⟨_,s6,g3,g4⟩:=Run.bind g2
  have es:=Run.put g3
  obtain ⟨_,e3⟩:=Run.pure g4
  subst es e3
  rw [Ctx.mv_cons]
  show upd _ r _ q=_
  rw [upd_ne]
  ·exact hq
  ·intro h
   subst h
   have:=hR.trans hq
   cases this
 | fz e1 a1 =>
  obtain ⟨_,s4,g1,g2⟩:=Run.bind h6
  obtain ⟨_,es⟩:=Run.guard g1
  subst es
  obtain ⟨_,e3⟩:=Run.pure g2
  subst e3
  exact hq
 | lt e1 a1 q1 =>
  obtain ⟨_,s4,g1,g2⟩:=Run.bind h6
  obtain ⟨_,es⟩:=Run.guard g1
  subst es
  obtain ⟨_,e3⟩:=Run.pure g2
  subst e3
  exact hq
 | _=>exact (Run.fail h6).elim
theorem zgj (hB:B0≤X.w.heap.size):∀ {l l':List SV}{Ts:List Ty}{σ σ':SS}{cs:List Value},Run (znN l) X.μ σ l' σ'→Sat C k X.E σ'.bs σ'.nv→Mem B0 (X.mv σ.up)→CRepL (X.mv σ.up) l Ts cs →
  Ext (X.mv σ.up) (X.mv σ'.up)∧Mem B0 (X.mv σ'.up)∧σ'.ab=σ.ab∧CRepL (X.mv σ'.up) l' Ts cs∧∀ q T v,(X.mv σ.up).μ q=.box T v→(X.mv σ'.up).μ q=.box T v
 | [],l',Ts,σ,σ',cs,h,hs,m,hc=>by
  simp only [znN] at h
  obtain ⟨e1,e2⟩:=Run.pure h
  subst e1 e2
  exact ⟨Ext.refl _,m,rfl,hc,fun _ _ _ h=>h⟩
 | s::l,l',[],σ,σ',cs,h,hs,m,hc=>by simp only [CRepL] at hc
 | s::l,l',T::Ts,σ,σ',cs,h,hs,m,hc=>by
  simp only [CRepL] at hc
  obtain ⟨c1,c2,ec,ht,hc1,hc2⟩:=hc
  have keep:∀ {σ':SS},Run (znN l >>= fun l'=>SX.X.pure (s::l')) X.μ σ l' σ'→Sat C k X.E σ'.bs σ'.nv→Ext (X.mv σ.up) (X.mv σ'.up)∧Mem B0 (X.mv σ'.up)∧σ'.ab=σ.ab∧CRepL (X.mv σ'.up) l' (T::Ts) cs∧∀ q T v,(X.mv σ.up).μ q=.box T v→(X.mv σ'.up).μ q=.box T v:=by
   intro σ' h hs
   obtain ⟨l2,s1,h1,h2⟩:=Run.bind h
   obtain ⟨e1,e2⟩:=Run.pure h2
   subst e1 e2
   obtain ⟨x,m',hab,hr,hb⟩:=zgj hB h1 hs m hc2
   simp only [CRepL]
   exact ⟨x,m',hab,⟨c1,c2,ec,ht,CRep.ext x hc1,hr⟩,hb⟩
  unfold znN at h
  split at h
  ·rename_i heq;cases heq
  ·rename_i e r l0 heq
   injection heq with e1 e2
   subst e1 e2
   rcases Run.ite h with ⟨hf,h⟩|⟨_,h⟩
   ·obtain ⟨a,s1,h1,h2⟩:=Run.bind h
    obtain ⟨l2,s2,h3,h4⟩:=Run.bind h2
    obtain ⟨e1,e2⟩:=Run.pure h4
    subst e1 e2
    obtain ⟨x1,m1,_,hab,d,g1,g2⟩:=zfD hB h1 (h3.sat hs) m hc1
    obtain ⟨x2,m2,hab2,hr,hb⟩:=zgj hB h3 hs m1 (CRepL.ext x1 hc2)
    refine ⟨x1.trans x2,m2,hab2.trans hab,?_,fun q T v hq=>hb q T v (zn3 h1 hq)⟩
    simp only [CRepL]
    refine ⟨c1,c2,ec,?_,?_,hr⟩
    ·simp only [SV.hasTy] at ht ⊢;exact ht.symm
    ·have g3:CRep (X.mv s1.up) (.d (.sl e) a) c1:=by simp only [CRep];exact ⟨d,g1,g2⟩
     exact CRep.ext x2 g3
   ·exact keep h hs
  ·rename_i s0 l0 _ heq
   injection heq with e1 e2
   subst e1 e2
   exact keep h hs
theorem zrn (hB:B0≤X.w.heap.size) {s s':SV}{σ σ':SS}{v:Value}(h:Run (calm s) X.μ σ s' σ') (hs:Sat C k X.E σ'.bs σ'.nv) (m:Mem B0 (X.mv σ.up)) (hv:VRep (X.mv σ.up) s v) :
  Ext (X.mv σ.up) (X.mv σ'.up)∧Mem B0 (X.mv σ'.up)∧σ'.ab=σ.ab∧VRep (X.mv σ'.up) s' v∧∀ q T v,(X.mv σ.up).μ q=.box T v→(X.mv σ'.up).μ q=.box T v:=by
 unfold calm at h
 split at h
 ·rename_i T l
  obtain ⟨l',s1,h1,h2⟩:=Run.bind h
  obtain ⟨e1,e2⟩:=Run.pure h2
  subst e1 e2
  cases T<;>simp only [VRep] at hv
  rename_i Ts
  obtain ⟨cs,e,hc⟩:=hv
  obtain ⟨x,m',hab,hr,hb⟩:=zgj hB h1 hs m hc
  refine ⟨x,m',hab,?_,hb⟩
  simp only [VRep]
  exact ⟨cs,e,hr⟩
 ·obtain ⟨e1,e2⟩:=Run.pure h
  subst e1 e2
  exact ⟨Ext.refl _,m,rfl,hv,fun _ _ _ h=>h⟩
theorem zic {fz:Bool}{e:Ty}{r:Nat}{σ σ':SS}{a:At}(h:Run (zdI fz e r) X.μ σ a σ') {q:Nat}(hq:q≠r):(X.mv σ'.up).μ q=(X.mv σ.up).μ q:=by
 unfold zdI at h
 obtain ⟨R,s1,h1,h2⟩:=Run.bind h
 obtain ⟨hR,e1⟩:=Run.root h1
 subst e1
 cases R with
 | row e' a' =>
  obtain ⟨_,s2,h3,h4⟩:=Run.bind h2
  obtain ⟨_,e2⟩:=Run.guard h3
  subst e2
  cases fz with
  | false=>rw [(Run.pure h4).2]
  | true =>
   obtain ⟨_,s3,h5,h6⟩:=Run.bind h4
   rw [(Run.pure h6).2,Run.put h5,Ctx.mv_cons]
   exact upd_ne _ _ hq
 | mat e' a' g =>
  obtain ⟨_,s2,h3,h4⟩:=Run.bind h2
  obtain ⟨_,e2⟩:=Run.guard h3
  subst e2
  cases fz with
  | false=>rw [(Run.pure h4).2]
  | true =>
   obtain ⟨_,s3,h5,h6⟩:=Run.bind h4
   rw [(Run.pure h6).2,Run.put h5,Ctx.mv_cons]
   exact upd_ne _ _ hq
 | fz e' a' =>
  obtain ⟨_,s2,h3,h4⟩:=Run.bind h2
  obtain ⟨_,e2⟩:=Run.guard h3
  subst e2
  rw [(Run.pure h4).2]
 | lt e' a' q' =>
  obtain ⟨_,s2,h3,h4⟩:=Run.bind h2
  obtain ⟨_,e2⟩:=Run.guard h3
  subst e2
  rw [(Run.pure h4).2]
 | _=>exact (Run.fail h2).elim
theorem zq8 {cs:List Value}{i:Nat}{v:Value}(h:i<cs.length):patch cs i [v]=cs.set i v:=by
 rw [List.set_eq_take_append_cons_drop,if_pos h]
 simp [patch]
theorem zmB (ty:TysOk cx) (hB:B0≤X.w.heap.size) (m:Mem B0 X) {t:TypeId}{e:Ty}{r b off r2:Nat}{a ix:At}{sv:SV}{s0 s':SS}(h0:s0.up=[]) (h:Run (zpz e r a ix r2) X.μ s0 sv s') (hs:Sat C k X.E s'.bs s'.nv)
  (hT:cx.T t=.sl e) (h1:cx.cell1 t=true) (hA:X.A r) (hR:X.μ r=.row (.sl e) a) (hb:(X.β r).main=some b) (ho:tOff X.E [.i ix] (.arr 0 (.sl e))=some off) {vv:Value} (hv:VRep X (.h e r2 none) vv) :
  Acts cx.P B0 X (storeVar t ⟨b,off,none⟩ vv) s0 s' fun _ _=>sv=.un 1:=by
 unfold zpz at h
 obtain ⟨_,s1,g1,g2⟩:=Run.bind h
 obtain ⟨es,_⟩:=zcl g1
 subst es
 obtain ⟨_,s2,g3,g4⟩:=Run.bind g2
 obtain ⟨_,es⟩:=Run.guard g3
 subst es
 obtain ⟨_,s3,g5,g6⟩:=Run.bind g4
 obtain ⟨_,s4,g7,g8⟩:=Run.bind g6
 have es:=Run.put g7
 obtain ⟨e1,e2⟩:=Run.pure g8
 subst e1 e2
 have hs3:Sat C k X.E s3.bs s3.nv:=by rw [es] at hs;exact hs
 obtain ⟨⟨d0,di,d,q1,q2,q3,q4⟩,q5,q6⟩:=Run.op2 g5 hs3
 have hrep:=m.rep r hA
 rw [hR] at hrep
 obtain ⟨d1,f1,f2⟩:=hrep
 rw [f1] at q1
 injection q1 with q1
 subst q1
 rcases f2 with ⟨p1,p2⟩|⟨b',c,te,fr,l,xs,p1,p2,p3,p4,p5,p6⟩
 ·rw [p1] at hb;cases hb
 rw [p1] at hb
 injection hb with hb
 subst hb p2
 rw [p4 trivial] at p3
 cases di<;>simp only [Prim.run,reduceCtorEq] at q3
 rename_i kk z
 split at q3
 ·rename_i hz
  obtain ⟨i,rfl⟩:∃ i:Nat,z=(i:Int):=⟨z.toNat,(Int.toNat_of_nonneg hz).symm⟩
  rw [Int.toNat_natCast] at q3
  have hil:i<l.length:=(List.getElem?_eq_some_iff.1 q3).1
  simp only [tOff,q2,if_pos hz,wB0,Int.toNat_natCast,Ty.size,Nat.mul_one,Nat.add_zero] at ho
  subst ho
  have hone:One vv:=by simp only [VRep,Ref] at hv;exact hv.1
  have hcv:vv.cells.toList=[vv]:=by rw [hone.cells]
  have hxl:=p5.length
  simp only [Ty.size,Nat.mul_one] at hxl
  have hcl:xs.length≤c.toList.length:=by rw [← p6,wE0];omega
  have hic:i<c.toList.length:=by omega
  obtain ⟨hcells,hinfo⟩:=zhb ty hT h1
  have hrun:=zbn (P:=cx.P) (o:=i) (t:=t) (v:=vv) p3 (by rw [hcells,hone.cells];rfl) hinfo (by rw [hcv];simp at hic ⊢;omega) (by rw [hcv];intro u hu;rw [List.mem_singleton.1 hu];exact hone)
  rw [hcv,zq8 hic] at hrun
  have hmem:b'∈(X.μ r).own (X.β r):=by rw [hR];simp [Root.own,p1]
  have hw:=m.write (hnl:=by intro _ _ _ h;rw [hR] at h;cases h) hB (c':=(c.toList.set i vv).toArray) (R:=.ow e a ix r2) hA hmem p3 (by simp) (by rw [hR];rfl)
   (fun _=>⟨by rw [hR];rfl,fun e1 a1 d hr hd=>⟨a,d,by rw [hR] at hr;simp only [Root.row?,wB0,Prod.mk.injEq] at hr;simp [Ctx.wrote,upd_same,Root.row?,hr.1],by rw [hR] at hr;simp only [Root.row?,wB0,Prod.mk.injEq] at hr;rw [hr.2];exact hd,sameLen.refl d⟩,fun e1 a1 g hr=>(by simp only [Ctx.wrote,upd_same] at hr;cases hr)⟩)
   (fun x=>⟨l,b',_,te,xs,kk,i,vv,f1,p1,setRow_heap _ _ _ _ _ _ p3,p5.keep x.K,q2,hil,by show (c.toList.set i vv).take _=_;rw [List.take_set,p6],Ref.ext x (by simpa only [VRep] using hv)⟩)
  exact ⟨(),_,_,hrun,Nx.wrote (up:=[]) (Ext.refl X) m hA hmem hw (by rw [es];simp only;rw [q5,h0]) (by rw [es];exact q6),rfl⟩
 ·cases q3
theorem zmN (hB:B0≤X.w.heap.size) (m:Mem B0 X) {v:SV}{u:Unit}{s0 s':SS}(h0:s0.up=[]) (h:Run (settle v) X.μ s0 u s') (hs:Sat C k X.E s'.bs s'.nv) {vv:Value}(hv:VRep X v vv) :
  Ext X (X.mv s'.up)∧Mem B0 (X.mv s'.up)∧s'.ab=s0.ab∧∀ q T v,X.μ q=.box T v→(X.mv s'.up).μ q=.box T v:=by
 have hX:X.mv s0.up=X:=by rw [h0];rfl
 have triv:Ext X (X.mv s0.up)∧Mem B0 (X.mv s0.up)∧s0.ab=s0.ab∧∀ q T v,X.μ q=.box T v→(X.mv s0.up).μ q=.box T v:=by
  rw [hX]
  exact ⟨Ext.refl X,m,rfl,fun _ _ _ h=>h⟩
 unfold settle at h
 split at h
 ·rename_i e0 r
  obtain ⟨R,s1,h1,h2⟩:=Run.bind h
  obtain ⟨eR,es⟩:=Run.root h1
  subst es
  rw [h0,zar] at eR
  split at h2
  ·rename_i e a ix r2
   unfold zql at h2
   obtain ⟨b2,s2,h3,h4⟩:=Run.bind h2
   obtain ⟨a',s3,h5,h6⟩:=Run.bind h4
   have es:=Run.put h6
   have hs3:Sat C k X.E s3.bs s3.nv:=by rw [es] at hs;exact hs
   obtain ⟨⟨d0,di,dv,d,q1,q2,q3,q4,q5⟩,q6,q7⟩:=Run.op3 h5 hs3
   simp only [VRep,Ref] at hv
   have hA:X.A r:=hv.2.1
   have hne:r≠r2:=by
    intro e1
    subst e1
    unfold zdI at h3
    obtain ⟨R,s4,g1,g2⟩:=Run.bind h3
    obtain ⟨hR,e1⟩:=Run.root g1
    rw [h0,zar,← eR] at hR
    subst hR
    exact (Run.fail g2).elim
   have hrep0:=m.rep r hA
   rw [← eR] at hrep0
   obtain ⟨_,_,_,_,_,_,_,v20,_,_,_,_,_,_,_,hr20⟩:=hrep0
   have hA2:X.A r2:=by simp only [Ref] at hr20;exact hr20.2.1
   obtain ⟨r1,x2,m2,_,rv,hown⟩:=zbU h3 (by rw [hX];exact m) hB hA2
   rw [hX] at x2
   have hμ2:(X.mv s2.up).μ r=.ow e a ix r2:=(zic h3 hne).trans (by rw [hX];exact eR.symm)
   have hrep:=m2.rep r hA
   rw [hμ2] at hrep
   obtain ⟨l,b,c,te,xs,kk,i,v2,p1,p2,p3,p4,p5,p6,p7,p8⟩:=hrep
   have p1':a.get X.E=some (.sl l):=p1
   have p5':ix.get X.E=some (.int kk (Int.ofNat i)):=p5
   rw [p1'] at q1
   injection q1 with q1
   subst q1
   rw [p5'] at q2
   injection q2 with q2
   subst q2
   simp only [Prim.run] at q4
   split at q4
   ·rename_i hz
    injection q4 with q4
    subst q4
    rw [show (Int.ofNat i).toNat=i from rfl] at q5
    simp only [Ref] at p8
    obtain ⟨hone,_,hh⟩:=p8
    have ht2:((X.mv s2.up).μ r2).there=true:=by
     have:=Root.rowv_row rv
     cases hk:(X.mv s2.up).μ r2 with
     | dead=>rw [hk] at this;cases this
     | _=>rfl
    have hdr:DRep (X.mv s2.up).w (X.mv s2.up).M (.sl e) dv [v2]:=zdo (X:=X.mv s2.up) m2 hA2 (hh ht2) rv ⟨fun _ _ _=>rfl,fun _ _ h=>h⟩ hown q3
    have hset:=p4.set (j:=i) p6 hdr
    have hcs:xs.take (i * (Ty.sl e).size)++[v2]++xs.drop (i * (Ty.sl e).size + (Ty.sl e).size)=xs.set i v2:=by
     have hxl:=p4.length
     simp only [Ty.size,Nat.mul_one] at hxl ⊢
     rw [List.set_eq_take_append_cons_drop,if_pos (by omega)]
     simp
    rw [hcs] at hset
    have hmv:X.mv s'.up={ X.mv s2.up with μ:=upd (X.mv s2.up).μ r (.row (.sl e) a') }:=by
     rw [es]
     simp only
     rw [q6,Ctx.mv_cons]
    have key:Ext (X.mv s2.up) { X.mv s2.up with μ:=upd (X.mv s2.up).μ r (.row (.sl e) a') }∧Mem B0 { X.mv s2.up with μ:=upd (X.mv s2.up).μ r (.row (.sl e) a') }:=by
     refine Mem.change (X:=X.mv s2.up) m2 hB (fun q=>q=r) (fun _ _ h=>h) (fun _ h=>h) (fun q h=>.inl h) (fun q hq=>⟨upd_ne _ _ hq,rfl⟩) (fun _ _ _=>rfl) (fun _ _ h=>h) ?_ ?_ ?_ (fun _ _ _=>rfl) ?_ ?_ rfl (zpb hμ2 rfl)
     ·intro q bb hq _ hb
      subst hq
      simp only [upd_same] at hb
      exact .inr ⟨q,rfl,hA,by rw [hμ2];exact hb⟩
     ·intro q q' bb hq hq' _ _ _ _
      rw [hq,hq']
     ·intro q hq _
      subst hq
      simp only [upd_same]
      have:=m2.once q hA
      rw [hμ2] at this
      exact this
     ·intro q hq _ ht
      subst hq
      refine ⟨by rw [hμ2];rfl,fun e1 a1 d1 hr hd=>?_,fun e1 a1 g hr=>?_⟩
      ·rw [hμ2] at hr
       simp only [Root.row?,wB0,Prod.mk.injEq] at hr
       obtain ⟨r3,r4⟩:=hr
       subst r3 r4
       have hd':a.get X.E=some d1:=hd
       rw [p1'] at hd'
       injection hd' with hd'
       subst hd'
       exact ⟨a',.sl (l.set i dv),by simp [upd_same,Root.row?],q5,fun h=>(by cases h),fun l0 hl0=>(by injection hl0 with hl0;subst hl0;exact ⟨_,rfl,by simp⟩)⟩
      ·simp only [upd_same] at hr
       cases hr
     ·intro x q hq _
      subst hq
      show RootRep _ q (upd (X.mv s2.up).μ q (.row (.sl e) a') q)
      rw [upd_same]
      refine ⟨.sl (l.set i dv),q5,.inr ⟨b,c,te,(0,0),l.set i dv,xs.set i v2,p2,rfl,p3,fun _=>rfl,hset.keep x.K,?_⟩⟩
      rw [List.length_set]
      exact p7
    refine ⟨by rw [hmv];exact x2.trans key.1,by rw [hmv];exact key.2,by rw [es];simp only;rw [q7,zhT h3],fun q T v hq=>?_⟩
    have hq2:q≠r2:=by
     intro e1
     subst e1
     rw [hX,hq] at r1
     cases r1
    have hqr:q≠r:=by
     intro e1
     subst e1
     rw [hq] at eR
     cases eR
    rw [hmv]
    show upd (X.mv s2.up).μ r _ q=_
    rw [upd_ne _ _ hqr,zic h3 hq2,hX]
    exact hq
   ·cases q4
  ·obtain ⟨_,e2⟩:=Run.pure h2
   subst e2
   exact triv
 ·obtain ⟨_,e2⟩:=Run.pure h
  subst e2
  exact triv
theorem zkv (ty:TysOk cx) (hB:B0≤X.w.heap.size) (m:Mem B0 X) {t:TypeId}{x v sv:SV}{s0 s':SS}(h0:s0.up=[]) (h:Run (ziV cx t x v) X.μ s0 sv s') (hs:Sat C k X.E s'.bs s'.nv) {vx vv:Value}(hx:VRep X x vx) (hv:VRep X v vv) :
  Acts cx.P B0 X (Instr.storeAt t vx vv) s0 s' fun _ _=>sv=.un 1:=by
 have lift:∀ {b off:Nat},vx=.pointer (some ⟨b,off,none⟩)→Acts cx.P B0 X (storeVar t ⟨b,off,none⟩ vv) s0 s' (fun _ _=>sv=.un 1)→Acts cx.P B0 X (Instr.storeAt t vx vv) s0 s' fun _ _=>sv=.un 1:=by
  intro b off e ⟨u,w',X',h1,h2,h3⟩
  subst e
  exact ⟨u,w',X',by simp only [Instr.storeAt,Instr.sureAddr,Sem.run_bind,Sem.run_pure,Result.andThen_ok,h1],h2,h3⟩
 unfold ziV at h
 obtain ⟨_,s1,h1,h2⟩:=Run.bind h
 obtain ⟨hc1,es⟩:=Run.guard h1
 subst es
 split at h2
 ·rename_i R T' r q
  obtain ⟨_,s2,h3,h4⟩:=Run.bind h2
  obtain ⟨hb,es⟩:=Run.guard h3
  subst es
  have hT:=Ty.beq_eq hb
  subst hT
  simp only [VRep,Ref] at hx
  obtain ⟨hA,b,off,p1,p2,p3,p4⟩:=hx
  refine lift p1 ?_
  obtain ⟨RR,s3,h5,h6⟩:=Run.bind h4
  obtain ⟨e1,e2⟩:=Run.root h5
  subst e2
  rw [h0,zar] at e1
  have hmv:X.mv s3.up=X:=by rw [h0];rfl
  split at h6
  ·rename_i R' old
   obtain ⟨_,s4,h7,h8⟩:=Run.bind h6
   obtain ⟨hb2,es⟩:=Run.guard h7
   subst es
   have he:=Ty.beq_eq hb2
   subst he
   rcases Run.ite h8 with ⟨_,h9⟩|⟨_,h9⟩
   ·obtain ⟨v',s5,h10,h11⟩:=Run.bind h9
    have hsat:Sat C k X.E s5.bs s5.nv:=Run.sat h11 hs
    obtain ⟨x5,m5,hab5,hv5,hb5⟩:=zrn hB h10 hsat (by rw [hmv];exact m) (by rw [hmv];exact hv)
    have hR5:=hb5 r _ old (by rw [hmv];exact e1.symm)
    obtain ⟨u,w',X',r1,r2,r3⟩:=zdG ty hB (by rw [hmv] at x5;exact x5) m5 h11 hs rfl hc1 hA hR5 p2 p3 p4 hv5
    exact ⟨u,w',X',r1,by rw [← hab5];exact r2,r3⟩
   ·rcases Run.ite h9 with ⟨_,h10⟩|⟨_,h10⟩
    ·obtain ⟨_,s5,h11,h12⟩:=Run.bind h10
     obtain ⟨x5,m5,hab5,hb5⟩:=zmN hB m h0 h11 (Run.sat h12 hs) hv
     obtain ⟨u,w',X',r1,r2,r3⟩:=zdG ty hB x5 m5 h12 hs rfl hc1 hA (hb5 r _ old e1.symm) p2 p3 p4 (VRep.ext x5 hv)
     exact ⟨u,w',X',r1,by rw [← hab5];exact r2,r3⟩
    ·exact zdG ty hB (by rw [hmv];exact Ext.refl X) (by rw [hmv];exact m) h10 hs rfl hc1 hA (by rw [hmv];exact e1.symm) p2 p3 p4 (by rw [hmv];exact hv)
  ·rename_i e a
   obtain ⟨_,s4,h7,h8⟩:=Run.bind h6
   obtain ⟨hb2,es⟩:=Run.guard h7
   subst es
   have he:=Ty.beq_eq hb2
   subst he
   split at h8
   ·rename_i e' ix r2 how
    unfold zuj at how
    split at how
    ·rename_i e3 ix3 e4 r3
     split at how
     ·rename_i hc
      simp only [wD0] at hc
      have hee:=Ty.beq_eq hc.1
      subst hee
      simp only [wB0,Prod.mk.injEq] at how
      obtain ⟨w1,w2,w3⟩:=how
      subst w1 w2 w3
      simp only [tyAt,wB0] at p4
      exact zmB ty hB m h0 h8 hs p4.symm hc1 hA e1.symm p2 p3 hv
     ·cases how
    ·cases how
   ·exact zdN ty hB (by rw [hmv];exact Ext.refl X) (by rw [hmv];exact m) h8 hs rfl hc1 hA p2 p3 p4 (by rw [hmv];exact hv)
  ·rename_i e a g
   obtain ⟨_,s4,h7,h8⟩:=Run.bind h6
   obtain ⟨hb2,es⟩:=Run.guard h7
   subst es
   have he:=Ty.beq_eq hb2
   subst he
   have demote:∀ {s5:SS},Run (zfx (.sl e) (cx.T t) r q v) X.μ s5 sv s'→s5.up=(r,Root.row (.sl e) a)::s4.up→s5.ab=s4.ab→Acts cx.P B0 X (storeVar t ⟨b,off,none⟩ vv) s4 s' fun _ _=>sv=.un 1:=by
    intro s5 hrun hu ha
    have hmv5:X.mv s5.up={ X with μ:=upd X.μ r (.row (.sl e) a) }:=by rw [hu,h0,Ctx.mv_cons];rfl
    obtain ⟨x5,m5⟩:=m.lower hB hA (e:=.sl e) (a:=a) (.inr ⟨e,g,rfl,e1.symm⟩) (R:=.row (.sl e) a) (.inr rfl)
    obtain ⟨u,w',X',r1,r2,r3⟩:=zdN ty hB (by rw [hmv5];exact x5) (by rw [hmv5];exact m5) hrun hs rfl hc1 hA p2 p3 p4 (by rw [hmv5];exact VRep.ext x5 hv)
    exact ⟨u,w',X',r1,by rw [← ha];exact r2,r3⟩
   obtain ⟨bb,s5,h9,h10⟩:=Run.bind h8
   have es:=zf0 h9
   subst es
   rcases Run.ite h10 with ⟨_,h11⟩|⟨_,h11⟩
   ·exact zkp ty hB m h0 h11 hs p4 hc1 hA p2 p3 hv
   ·obtain ⟨_,s6,h12,h13⟩:=Run.bind h11
    have es:=Run.put h12
    subst es
    exact demote h13 rfl rfl
  ·rename_i e a r'
   obtain ⟨_,s4,h7,h8⟩:=Run.bind h6
   obtain ⟨hb2,es⟩:=Run.guard h7
   subst es
   have he:=Ty.beq_eq hb2
   subst he
   obtain ⟨R',s5,h9,h10⟩:=Run.bind h8
   obtain ⟨eR,es⟩:=Run.root h9
   subst es
   rw [h0,zar] at eR
   obtain ⟨_,s6,h11,h12⟩:=Run.bind h10
   obtain ⟨hn,es⟩:=Run.guard h11
   subst es
   obtain ⟨_,s7,h13,h14⟩:=Run.bind h12
   have es:=Run.put h13
   obtain ⟨_,s8,h15,h16⟩:=Run.bind h14
   have es2:=Run.put h15
   have hmv8:X.mv s8.up={ X with μ:=upd (upd X.μ r' .dead) r (.row e a) }:=by
    rw [es2]
    simp only
    rw [es]
    simp only
    rw [h0,Ctx.mv_cons,Ctx.mv_cons]
    rfl
   obtain ⟨x8,m8⟩:=m.unlend hB hA e1.symm (by rw [← eR];exact hn)
   obtain ⟨u,w',X',r1,r2,r3⟩:=zdN ty hB (by rw [hmv8];exact x8) (by rw [hmv8];exact m8) h16 hs rfl hc1 hA p2 p3 p4 (by rw [hmv8];exact VRep.ext x8 hv)
   have hab:s8.ab=s6.ab:=by rw [es2,es]
   exact ⟨u,w',X',r1,by rw [← hab];exact r2,r3⟩
  ·exact (Run.fail h6).elim
 ·rename_i e T' r ix q g
  obtain ⟨_,s2,h3,h4⟩:=Run.bind h2
  obtain ⟨hb,es⟩:=Run.guard h3
  subst es
  have hT:=Ty.beq_eq hb
  subst hT
  exact zlZ ty hB m h0 h4 hs rfl hc1 (by simpa only [VRep] using hx) hv
 ·exact (Run.fail h2).elim
end
end Go.SX
namespace Go.SX
open Go.RowKit (Below)
section
variable {C:FuncId→List D→Option (List D)} {k B0:Nat} {X:Ctx} {cx:Cx}
theorem Nx.grown {up up':List (Nat×Root)}{ab ab' ab0 r:Nat}{R:Root}{p:Pl}{w':World}(x:Ext X (X.mv up)) (hb:Below X.w.heap.size X.w w') (hB:B0≤X.w.heap.size)
  (h:Ext (X.mv up) ((X.mv up).grown w' r R p)∧Mem B0 ((X.mv up).grown w' r R p)) (hup:up'=(r,R)::up) (hr:r=ab) (ha:ab'=ab + 1) (h0:ab=ab0):Nx B0 X ((X.mv up).grown w' r R p) up' ab0 ab' w' where
 E:=rfl
 w:=rfl
 μ:=by rw [hup,zaF];rfl
 A:=fun q=>by
  show (X.A q∨q=r)↔X.A q∨ab0≤q∧q<ab'
  constructor
  ·rintro (h|h)
   ·exact .inl h
   ·exact .inr (by omega)
  ·rintro (h|h)
   ·exact .inl h
   ·exact .inr (by omega)
 ext:=x.trans h.1
 mem:=h.2
 below:=hb.mono hB
theorem zfz {t:TypeId}{T:Ty}{i:TypeInfo}(tf:TyFact cx t T i) {w:World}:∃ z,(zeroValue t).run cx.P w=.ok z w∧i.zero=some z∧∀ w M,DVal w M T T.zero z:=by
 obtain ⟨z,hz,hd⟩:=tf.zero
 exact ⟨z,by simp [zeroValue,typeInfo,tf.info,hz],hz,hd⟩
theorem zqZ (ty:TysOk cx) (hB:B0≤X.w.heap.size) (m:Mem B0 X) {t:TypeId}{sv:SV}{s0 s':SS}(hfr:∀ r,s0.ab≤r→r<s'.ab→¬ X.A r) (h0:s0.up=[])
  (h:Run (SX.X.guard 145 (cx.T t).known >>= fun _=>SX.X.newRoot (.box (cx.T t) (.d (cx.T t) (.c (cx.T t).zero))) >>= fun r=>SX.X.pure (.p (cx.T t) (cx.T t) r [])) X.μ s0 sv s') :
  Acts cx.P B0 X (Instr.alloc t true (.tuple #[])) s0 s' fun X' v=>VRep X' sv v:=by
 obtain ⟨_,s1,h1,h2⟩:=Run.bind h
 obtain ⟨hk,es⟩:=Run.guard h1
 subst es
 obtain ⟨r,s2,h3,h4⟩:=Run.bind h2
 obtain ⟨er,es⟩:=Run.new h3
 obtain ⟨e1,e2⟩:=Run.pure h4
 subst es
 subst e1 e2
 have hn:=za7 hk
 obtain ⟨i,tf⟩:=ty.get rfl hn
 obtain ⟨z,hz,_,hd⟩:=zfz tf (w:=X.w)
 have hnA:¬ X.A r:=hfr r (by dsimp only at *;omega) (by dsimp only at *;omega)
 have hmv:X.mv s1.up=X:=by rw [h0];rfl
 have hnew:=m.newBox hB hnA (T:=cx.T t) (s:=.d (cx.T t) (.c (cx.T t).zero)) (v:=z) rfl (by simp only [CRep];exact ⟨_,rfl,(hd _ _).cells⟩) t
 refine ⟨.pointer (some ⟨X.w.heap.size,0,none⟩),X.w.alloc (.cells z.cells t),X.grown (X.w.alloc (.cells z.cells t)) r (.box (cx.T t) (.d (cx.T t) (.c (cx.T t).zero))) ⟨some X.w.heap.size,[]⟩,?_,?_,?_⟩
 ·simp only [Instr.alloc,Sem.run_bind,hz,Result.andThen_ok,zlz,Sem.run_pure]
 ·exact Nx.grown (up:=[]) (Ext.refl X) ((Below.refl _ _).alloc (wG0 _) _) hB hnew (by rw [h0,er]) er rfl rfl
 ·simp only [VRep,Ref]
  exact ⟨.inr rfl,X.w.heap.size,0,rfl,by simp [Ctx.grown,upd_same],rfl,rfl⟩
theorem ztC (hB:B0≤X.w.heap.size) (m:Mem B0 X) {t:TypeId}{x sv:SV}{s0 s':SS}(hfr:∀ r,s0.ab≤r→r<s'.ab→¬ X.A r) (h0:s0.up=[])
  (h:Run (SX.X.guard 154 (cx.cell1 t) >>= fun _=>SV.typed (cx.T t) x >>= fun s=>SX.X.newRoot (.box (cx.T t) s) >>= fun r=>SX.X.pure (.p (cx.T t) (cx.T t) r [])) X.μ s0 sv s') {vx:Value} (hx:VRep X x vx) :
  Acts cx.P B0 X (Instr.box t vx) s0 s' fun X' v=>VRep X' sv v:=by
 obtain ⟨_,s1,h1,h2⟩:=Run.bind h
 obtain ⟨_,es⟩:=Run.guard h1
 subst es
 obtain ⟨s,s2,h3,h4⟩:=Run.bind h2
 obtain ⟨es,ht,_,hc⟩:=zdk h3 hx
 subst es
 obtain ⟨r,s3,h5,h6⟩:=Run.bind h4
 obtain ⟨er,es⟩:=Run.new h5
 obtain ⟨e1,e2⟩:=Run.pure h6
 subst es
 subst e1 e2
 have hnA:¬ X.A r:=hfr r (by dsimp only at *;omega) (by dsimp only at *;omega)
 have hnew:=m.newBox hB hnA ht hc t
 refine ⟨.pointer (some ⟨X.w.heap.size,0,none⟩),X.w.alloc (.cells vx.cells t),X.grown (X.w.alloc (.cells vx.cells t)) r (.box (cx.T t) s) ⟨some X.w.heap.size,[]⟩,?_,?_,?_⟩
 ·simp only [Instr.box,Sem.run_bind,zlz,Result.andThen_ok,Sem.run_pure]
 ·exact Nx.grown (up:=[]) (Ext.refl X) ((Below.refl _ _).alloc (wG0 _) _) hB hnew (by rw [h0,er]) er rfl rfl
 ·simp only [VRep,Ref]
  exact ⟨.inr rfl,X.w.heap.size,0,rfl,by simp [Ctx.grown,upd_same],rfl,rfl⟩
theorem Mem.newRow (m:Mem B0 X) (hB:B0≤X.w.heap.size) {r:Nat}(hn:¬ X.A r) {w':World}(hb:Below X.w.heap.size X.w w') {e:Ty}{a:At}{l:List D}{xs:List Value}{c:Array Value}{te:TypeId}{cap:Nat}
  (ha:a.get X.E=some (.sl l)) (hh:w'.heap[X.w.heap.size]?=some (.cells c te (0,0))) (hx:DRepA X.w X.M e l xs) (hc:c.toList.take xs.length=xs) (hl:l.length≤cap) (hcap:cap * e.size≤c.size) :
  let X':=X.grown w' r (.row e a) ⟨some X.w.heap.size,[]⟩
  (Ext X X'∧Mem B0 X')∧VRep X' (.h e r none) (.slice (some ⟨X.w.heap.size,0,none⟩) l.length cap):=by
 intro X'
 have hr:X'.μ r=.row e a:=by simp [X',Ctx.grown,upd_same]
 have hβ:X'.β r=⟨some X.w.heap.size,[]⟩:=by simp [X',Ctx.grown,upd_same]
 refine ⟨m.grow hB hn hb (fun b hb=>by simp [Root.own] at hb;omega) (by simp [Root.own]) fun x=>⟨_,ha,.inr ⟨X.w.heap.size,c,te,(0,0),l,xs,by rw [hβ],rfl,hh,fun _=>rfl,hx.keep x.K,hc⟩⟩,?_⟩
 simp only [VRep,Ref]
 exact ⟨zaf _ _ _,.inr rfl,fun _=>⟨a,.sl l,by rw [hr];rfl,ha,.inr ⟨X.w.heap.size,l,by rw [hβ],rfl,cap,c.size,rfl,hl,by show bsize w' _=_;simp [bsize,hh],hcap⟩⟩⟩
end
end Go.SX
namespace Go.SX
open Go.RowKit (Below)
theorem zd5 {w:World}{M:Nat→Prop}{e:Ty}{d:D}{zs:List Value}(h:DRep w M e d zs):∀ n,DRepA w M e (List.replicate n d) (List.replicate n zs).flatten
 | 0=>by simp [DRepA]
 | n + 1=>by
  simp only [List.replicate_succ,List.flatten_cons,DRepA]
  exact ⟨zs,_,rfl,h,zd5 h n⟩
theorem zeu (zs:List Value) (n:Nat):(List.replicate n zs).flatten.length=n * zs.length:=by
 induction n with
 | zero=>simp
 | succ n ih=>simp only [List.replicate_succ,List.flatten_cons,wI0,ih,Nat.add_mul,Nat.one_mul];omega
theorem zrD {zs:List Value}{n c:Nat}(h:n≤c):((List.replicate c zs).flatten).take (List.replicate n zs).flatten.length=(List.replicate n zs).flatten:=by
 obtain ⟨k,rfl⟩:∃ k,c=n + k:=⟨c - n,by omega⟩
 rw [← List.replicate_append_replicate,List.flatten_append]
 exact List.take_left' rfl
theorem zgB {z:Array Value}{s:Nat}(hs:z.size=s):∀ c,(madeCells z (c * s)).toList=(List.replicate c z.toList).flatten
 | 0=>by simp [madeCells]
 | c + 1=>by
  have ih:=zgB hs c
  simp only [madeCells,Array.toList_map,Array.toList_range] at ih ⊢
  rw [Nat.add_mul,Nat.one_mul,List.range_add,List.map_append,ih]
  rw [show List.replicate (c + 1) z.toList=List.replicate c z.toList++[z.toList] from List.replicate_succ',List.flatten_append]
  congr 1
  simp only [List.flatten_cons,List.flatten_nil,List.append_nil,List.map_map]
  apply List.ext_getElem?
  intro j
  simp only [List.getElem?_map]
  by_cases hj:j<s
  ·rw [List.getElem?_range hj]
   simp only [Option.map_some,Function.comp_apply,hs]
   have:(c * s + j) % s=j:=by rw [Nat.mul_comm,Nat.mul_add_mod,Nat.mod_eq_of_lt hj]
   rw [this]
   simp [hs,hj]
  ·rw [List.getElem?_eq_none (by simp;omega),List.getElem?_eq_none (by simp [hs];omega)]
   rfl
theorem zqv {w:World}{M:Nat→Prop}{e:Ty}:∀ n,RowCells w M e (List.replicate n none) (List.replicate n .nil) (List.replicate n (.slice none 0 0))
 | 0=>by simp only [List.replicate_zero,RowCells]
 | n + 1=>by
  simp only [List.replicate_succ,RowCells]
  exact ⟨.inl ⟨rfl,.inl ⟨rfl,rfl⟩⟩,zqv n⟩
theorem zjv:∀ n,opts (List.replicate n none)=[]
 | 0=>rfl
 | n + 1=>by simp only [List.replicate_succ,opts];exact zjv n
section
variable {C:FuncId→List D→Option (List D)} {k B0:Nat} {X:Ctx} {cx:Cx}
theorem Mem.newMat (m:Mem B0 X) (hB:B0≤X.w.heap.size) {r:Nat}(hn:¬ X.A r) {w':World}(hb:Below X.w.heap.size X.w w') {e:Ty}{a:At}{l:List D}{xs:List Value}{c:Array Value}{te:TypeId}{cap n:Nat}
  (ha:a.get X.E=some (.sl l)) (hl':l=List.replicate n .nil) (hxs:xs=List.replicate n (.slice none 0 0)) (hh:w'.heap[X.w.heap.size]?=some (.cells c te (0,0))) (hc:c.toList.take xs.length=xs) (hl:l.length≤cap) (hcap:cap≤c.size) :
  let X':=X.grown w' r (.mat e a 0) ⟨some X.w.heap.size,List.replicate n none⟩
  (Ext X X'∧Mem B0 X')∧VRep X' (.h (.sl e) r none) (.slice (some ⟨X.w.heap.size,0,none⟩) l.length cap):=by
 intro X'
 have hr:X'.μ r=.mat e a 0:=by simp [X',Ctx.grown,upd_same]
 have hβ:X'.β r=⟨some X.w.heap.size,List.replicate n none⟩:=by simp [X',Ctx.grown,upd_same]
 refine ⟨m.grow hB hn hb (fun b hb=>by simp [Root.own,zjv] at hb;omega) (by simp [Root.own,zjv]) fun x=>⟨_,ha,.inr ⟨X.w.heap.size,c,te,l,xs,by rw [hβ],rfl,hh,?_,hc⟩⟩,?_⟩
 ·rw [hβ,hl',hxs]
  exact zqv n
 simp only [VRep,Ref]
 exact ⟨zaf _ _ _,.inr rfl,fun _=>⟨a,.sl l,by rw [hr];rfl,ha,.inr ⟨X.w.heap.size,l,by rw [hβ],rfl,cap,c.size,rfl,hl,by show bsize w' _=_;simp [bsize,hh],by simpa [Ty.size] using hcap⟩⟩⟩
theorem zkC (ty:TysOk cx) (hB:B0≤X.w.heap.size) (m:Mem B0 X) {t:TypeId}{l c sv:SV}{s0 s':SS}(hfr:∀ r,s0.ab≤r→r<s'.ab→¬ X.A r) (h0:s0.up=[]) (h:Run (zes cx t l c) X.μ s0 sv s') (hs:Sat C k X.E s'.bs s'.nv) {vl vc:Value}(hl:VRep X l vl) (hc:VRep X c vc) :
  Acts cx.P B0 X (Instr.makeSlice t vl vc) s0 s' fun X' v=>VRep X' sv v:=by
 unfold zes at h
 split at h
 ·rename_i e hT
  obtain ⟨E,i,hu,tf⟩:=zak ty hT
  simp only [hu] at h
  obtain ⟨E',s1,h1,h2⟩:=Run.bind h
  obtain ⟨e1,e2⟩:=Run.pure h1
  subst e1 e2
  obtain ⟨⟨kn,an⟩,s2,h3,h4⟩:=Run.bind h2
  obtain ⟨es,n,hn,en⟩:=za8 h3 hl
  subst es en
  obtain ⟨⟨kc,ac⟩,s3,h5,h6⟩:=Run.bind h4
  obtain ⟨es,cc,hcc,ec⟩:=za8 h5 hc
  subst es ec
  obtain ⟨a,s4,h7,h8⟩:=Run.bind h6
  simp only at hn hcc h7
  have core:Sat C k X.E s4.bs s4.nv→∃ z:Nat,n=(z:Int)∧∃ cz:Nat,cc=(cz:Int)∧z≤cz∧a.get X.E=some (.sl (List.replicate z e.zero))∧s4.up=[]∧s4.ab=s3.ab ∧
    ∃ zv,i.zero=some zv∧(∀ w M,DVal w M e e.zero zv)∧(Instr.makeSlice t (.int kn n) (.int kc cc)).run cx.P X.w=.ok (.slice (some ⟨X.w.heap.size,0,none⟩) z cz) (X.w.alloc (.cells (madeCells zv.cells (cz * e.size)) E')):=by
   intro hs
   obtain ⟨⟨d1,d2,d,q1,q2,q3,q4⟩,q5,q6⟩:=Run.op2 h7 hs
   rw [hn] at q1
   rw [hcc] at q2
   injection q1 with q1
   injection q2 with q2
   subst q1 q2
   simp only [Prim.run] at q3
   split at q3
   ·rename_i hb
    injection q3 with q3
    subst q3
    obtain ⟨b1,b2,b3⟩:=hb
    simp only [zaO,wD0,decide_eq_true_eq,Cx.by_,Program.bytesOf,tf.info,Option.map_some,Option.getD_some] at b3
    obtain ⟨zv,hz,hd⟩:=tf.zero
    refine ⟨n.toNat,by omega,cc.toNat,by omega,by omega,q4,by rw [q5,h0],q6,zv,hz,hd,?_⟩
    have hm:(i.bytes:Int) * cc≤281474976710656:=by
     have:((cc.toNat * i.bytes:Nat):Int)≤(17592186044416:Nat):=Int.ofNat_le.2 b3.1
     rw [Int.natCast_mul,Int.toNat_of_nonneg (by omega),Int.mul_comm] at this
     omega
    have:=run_make (P:=cx.P) X.w t E' i zv hu tf.info hz kn kc n cc b1 b2 hm (by omega)
    rw [tf.size] at this
    exact this
   ·cases q3
  have rowCase:∀ {r:Nat} {s5:SS},Run (SX.X.newRoot (.row e a)) X.μ s4 r s5→Run (SX.X.pure (.h e r none)) X.μ s5 sv s'→Acts cx.P B0 X (Instr.makeSlice t (.int kn n) (.int kc cc)) s3 s' fun X' v=>VRep X' sv v:=by
   intro r s5 h9 h10
   obtain ⟨er,es⟩:=Run.new h9
   obtain ⟨e1,e2⟩:=Run.pure h10
   subst es
   subst e1 e2
   obtain ⟨z,_,cz,_,hle,ha,hup,hab,zv,hz,hd,hrun⟩:=core hs
   have hnA:¬ X.A r:=hfr r (by dsimp only at *;omega) (by dsimp only at *;omega)
   have hzl:=(hd X.w X.M).cells.length
   have hf:=zgB (z:=zv.cells) (s:=e.size) (by simpa using hzl) cz
   obtain ⟨hnew,hv⟩:=m.newRow hB hnA ((Below.refl _ _).alloc (wG0 _) (.cells (madeCells zv.cells (cz * e.size)) E')) ha (heap_alloc_new X.w _) (zd5 (hd X.w X.M).cells z) (cap:=cz) (by rw [hf];exact zrD hle) (by simpa using hle) (by rw [size_madeCells];exact wG0 _)
   refine ⟨_,_,_,hrun,Nx.grown (up:=[]) (Ext.refl X) ((Below.refl _ _).alloc (wG0 _) _) hB hnew (by rw [hup,er]) er rfl hab,?_⟩
   rw [List.length_replicate] at hv
   exact hv
  cases e with
  | sl e' =>
   simp only at h8
   obtain ⟨r,s5,h9,h10⟩:=Run.bind h8
   cases hab:cx.abs with
   | false =>
    rw [hab] at h9
    simp only [wA0,if_false] at h9
    exact rowCase h9 h10
   | true =>
    rw [hab] at h9
    simp only [if_true] at h9
    obtain ⟨er,es⟩:=Run.new h9
    obtain ⟨e1,e2⟩:=Run.pure h10
    subst es
    subst e1 e2
    obtain ⟨z,_,cz,_,hle,ha,hup,hab,zv,hz,hd,hrun⟩:=core hs
    have hnA:¬ X.A r:=hfr r (by dsimp only at *;omega) (by dsimp only at *;omega)
    have hzc:=(hd X.w X.M).cells
    simp only [Ty.zero,DRep] at hzc
    have hf:=zgB (z:=zv.cells) (s:=(Ty.sl e').size) (by have:=congrArg List.length hzc;simpa [Ty.size] using this) cz
    rw [hzc] at hf
    have hfl:∀ n,(List.replicate n [Value.slice none 0 0]).flatten=List.replicate n (Value.slice none 0 0):=fun n=>by
     induction n with
     | zero=>rfl
     | succ n ih=>simp only [List.replicate_succ,List.flatten_cons,ih];rfl
    rw [hfl] at hf
    obtain ⟨hnew,hv⟩:=m.newMat hB hnA ((Below.refl _ _).alloc (wG0 _) (.cells (madeCells zv.cells (cz * (Ty.sl e').size)) E')) (e:=e') ha (by simp [Ty.zero]) rfl (heap_alloc_new X.w _) (cap:=cz) (n:=z) (by rw [hf];simp [Nat.min_eq_left hle]) (by simpa using hle) (by rw [size_madeCells];simp [Ty.size])
    refine ⟨_,_,_,hrun,Nx.grown (up:=[]) (Ext.refl X) ((Below.refl _ _).alloc (wG0 _) _) hB hnew (by rw [hup,er]) er rfl hab,?_⟩
    rw [List.length_replicate] at hv
    exact hv
  | _=>obtain ⟨r,s5,h9,h10⟩:=Run.bind h8;exact rowCase h9 h10
 ·exact (Run.fail h).elim
end
end Go.SX
namespace Go.SX
open Go.RowKit (Below)
theorem zjx (cs:List Value) (o:Nat):patch cs o []=cs:=by simp [patch]
theorem zii {cs a b:List Value}{o:Nat}(h:o≤cs.length):patch (patch cs o a) (o + a.length) b=patch cs o (a++b):=by
 have h1:(cs.take o++a).length=o + a.length:=by rw [wI0,wE0,Nat.min_eq_left h]
 unfold patch
 rw [List.take_left' h1,show cs.take o++a++cs.drop (o + a.length)=(cs.take o++a)++cs.drop (o + a.length) from rfl]
 rw [← List.drop_drop,List.drop_left' h1,List.drop_drop]
 simp only [List.append_assoc,wI0,Nat.add_assoc]
theorem zs9 {cs:List Value}{o:Nat}{v:Value}(h:o<cs.length):patch cs o [v]=cs.set o v:=by
 rw [List.set_eq_take_append_cons_drop,if_pos h]
 simp [patch]
theorem zle {off:Nat}:∀ (l:List Value) (k:Nat) (cells:Array Value),off + k + l.length≤cells.size →
  (l.zipIdx k).foldl (fun cs (cj:Value×Nat)=>cs.setIfInBounds (off + cj.2) cj.1) cells=(patch cells.toList (off + k) l).toArray
 | [],k,cells,_=>by simp [zjx]
 | v::l,k,cells,h=>by
  simp only [List.length_cons] at h
  simp only [List.zipIdx_cons,List.foldl_cons]
  rw [zle l (k + 1) _ (by simp;omega)]
  congr 1
  rw [Array.toList_setIfInBounds,← zs9 (by simp;omega)]
  have:=zii (cs:=cells.toList) (a:=[v]) (b:=l) (o:=off + k) (by simp;omega)
  simpa [Nat.add_assoc] using this
theorem znl {place:Nat→Option (Nat×Nat)}{cells:Array Value}{i off size:Nat}{v:Value}{rest:List (Nat×Value)}(hp:place i=some (off,size)) (hv:v.cells.toList.length=size) (hfit:off + size≤cells.size) :
  Instr.fill place cells ((i,v)::rest)=Instr.fill place (patch cells.toList off v.cells.toList).toArray rest:=by
 have hv':v.cells.size=size:=by simpa using hv
 have hf:=zle (off:=off) v.cells.toList 0 cells (by simp;omega)
 rw [Nat.add_zero] at hf
 rw [Instr.fill,hp]
 simp only [hv',ne_eq,not_true_eq_false,decide_false,Bool.false_or]
 rw [if_neg (by simp;omega)]
 congr 1
 rw [← hf,← Array.foldl_toList,Array.toList_zipIdx]
section
variable {C:FuncId→List D→Option (List D)} {k B0:Nat} {X:Ctx} {cx:Cx}
def zaY (X:Ctx):List (Nat×SV)→List (Nat×Value)→Prop
 | [],[]=>True
 | (i,s)::l,(j,v)::l'=>i=j∧VRep X s v∧zaY X l l'
 | _,_=>False
def numbered:Nat→List Value→List (Nat×Value)
 | _,[]=>[]
 | n,v::l=>(n,v)::numbered (n + 1) l
theorem zh1:∀ {ps:List (Nat×SV)}{pv:List (Nat×Value)}{n:Nat}{l:List SV},zgA n ps=some l→zaY X ps pv→∃ vs,pv=numbered n vs∧VRepL X l vs
 | [],[],n,l,h,_=>by
  simp only [zgA,wB0] at h
  subst h
  exact ⟨[],rfl,by simp only [VRepL]⟩
 | (i,s)::ps,(j,v)::pv,n,l,h,hr=>by
  simp only [zgA] at h
  simp only [zaY] at hr
  obtain ⟨e,hv,hr⟩:=hr
  subst e
  split at h
  ·rename_i hb
   have e:=zad hb
   subst e
   split at h
   ·rename_i r hr2
    injection h with h
    subst h
    obtain ⟨vs,h1,h2⟩:=zh1 hr2 hr
    exact ⟨v::vs,by simp [numbered,h1],by simp only [VRepL];exact ⟨v,vs,rfl,hv,h2⟩⟩
   ·cases h
  ·cases h
 | [],_::_,_,_,_,h|_::_,[],_,_,_,h=>by simp only [zaY] at h
def flat (vs:List Value):List Value:=(vs.map fun v=>v.cells.toList).flatten
theorem zg0 {size:Nat}:∀ {vs:List Value}{n:Nat}{cells:Array Value},(∀ v∈vs,v.cells.toList.length=size)→(n + vs.length) * size≤cells.size →
  Instr.fill (fun i=>some (i * size,size)) cells (numbered n vs)=some (patch cells.toList (n * size) (flat vs)).toArray∧(flat vs).length=vs.length * size
 | [],n,cells,_,_=>by simp [numbered,Instr.fill,flat,zjx]
 | v::vs,n,cells,hv,hfit=>by
  have hv0:=hv v (by simp)
  simp only [List.length_cons] at hfit
  have e1:(n + (vs.length + 1)) * size=n * size + size + vs.length * size:=by rw [Nat.add_mul,Nat.add_mul,Nat.one_mul];omega
  have hp:(patch cells.toList (n * size) v.cells.toList).length=cells.toList.length:=zaj (by rw [hv0];simp;omega)
  obtain ⟨ih,hl⟩:=zg0 (vs:=vs) (n:=n + 1) (cells:=(patch cells.toList (n * size) v.cells.toList).toArray) (fun u hu=>hv u (by simp [hu])) (by
   simp only [List.size_toArray,hp,Array.length_toList]
   rw [Nat.add_right_comm,← Nat.add_assoc] at *
   omega)
  refine ⟨?_,?_⟩
  ·simp only [numbered]
   rw [znl rfl hv0 (by omega),ih]
   congr 2
   have:=zii (cs:=cells.toList) (a:=v.cells.toList) (b:=flat vs) (o:=n * size) (by simp;omega)
   rw [hv0] at this
   rw [Nat.add_mul,Nat.one_mul]
   simpa [flat] using this
  ·simp only [flat,List.map_cons,List.flatten_cons,wI0,List.length_cons]
   rw [hv0]
   have:(vs.map fun v=>v.cells.toList).flatten.length=vs.length * size:=hl
   rw [this,Nat.add_mul,Nat.one_mul]
   omega
theorem run_buildSlice {t E:TypeId}{e:Ty}{i:TypeInfo}{n:Nat}{vs:List Value}{w:World}(hu:cx.P.underlying t=some (.slice E)) (tf:TyFact cx E e i) (hn:vs.length=n) (hsz:n * e.size≤16777216) (hv:∀ v∈vs,v.cells.toList.length=e.size) :
  (Instr.buildSlice t n (numbered 0 vs).toArray).run cx.P w=.ok (.slice (some ⟨w.heap.size,0,none⟩) n n) (w.alloc (.cells (flat vs).toArray E)):=by
 obtain ⟨z,hz,_,_⟩:=zfz tf (w:=w)
 have key:∀ (c:Array Value),c.size=n * e.size→Instr.fill (fun i=>some (i * e.size,e.size)) c (numbered 0 vs)=some (flat vs).toArray:=fun c hc=>by
  obtain ⟨h1,h2⟩:=zg0 (size:=e.size) (vs:=vs) (n:=0) (cells:=c) hv (by rw [hc,hn];simp)
  rw [h1,Nat.zero_mul,zcw (by rw [h2,hn];simp [hc])]
 have hnr:∀ (c:Array Value),(Go.newRow E c).run cx.P w=.ok ⟨w.heap.size,0,none⟩ (w.alloc (.cells c E)):=fun c=>rfl
 have hnot:¬ (n * e.size>2 ^ 24):=by simp;omega
 by_cases h0:n * e.size=0
 ·have hk:=key ((Array.range (n * e.size)).map fun x=>(#[]:Array Value)[x % (#[]:Array Value).size]!) (by simp)
  simp only [Instr.buildSlice,Sem.run_bind,zab hu,Result.andThen_ok,zbf tf.info,tf.size]
  rw [if_neg hnot]
  simp only [Sem.run_bind,Sem.run_pure,Result.andThen_ok,if_pos h0,hk,hnr]
 ·have hk:=key ((Array.range (n * e.size)).map fun x=>z.cells[x % z.cells.size]!) (by simp)
  simp only [Instr.buildSlice,Sem.run_bind,zab hu,Result.andThen_ok,zbf tf.info,tf.size]
  rw [if_neg hnot]
  simp only [Sem.run_bind,Sem.run_pure,Result.andThen_ok,if_neg h0,hz,hk,hnr]
theorem zep (hB:B0≤X.w.heap.size) {fz:Bool}{T:Ty}:∀ {l:List SV}{vs:List Value}{as:List At}{σ σ':SS},Run (zhQ fz T l) X.μ σ as σ'→Sat C k X.E σ'.bs σ'.nv→Mem B0 (X.mv σ.up)→VRepL (X.mv σ.up) l vs →
  Ext (X.mv σ.up) (X.mv σ'.up)∧Mem B0 (X.mv σ'.up)∧σ'.ab=σ.ab∧vs.length=l.length∧∃ ds,gets X.E as=some ds∧DRepA X.w (seen fz (X.mv σ'.up)) T ds (flat vs)∧ds.length=vs.length∧∀ v∈vs,v.cells.toList.length=T.size
 | [],vs,as,σ,σ',h,hs,m,hv=>by
  simp only [zhQ] at h
  obtain ⟨e1,e2⟩:=Run.pure h
  subst e1 e2
  simp only [VRepL] at hv
  subst hv
  exact ⟨Ext.refl _,m,rfl,rfl,[],rfl,by simp [flat,DRepA],rfl,by simp⟩
 | s::l,vs,as,σ,σ',h,hs,m,hv=>by
  simp only [zhQ] at h
  obtain ⟨a,s1,h1,h2⟩:=Run.bind h
  obtain ⟨as',s2,h3,h4⟩:=Run.bind h2
  obtain ⟨e1,e2⟩:=Run.pure h4
  subst e1 e2
  simp only [VRepL] at hv
  obtain ⟨v,vs',e,hv,hvs⟩:=hv
  subst e
  obtain ⟨x1,m1,_,hab,d,hd,hdv⟩:=zej hB h1 (h3.sat hs) m hv
  obtain ⟨x2,m2,hab2,hlen,ds,hds,hda,hdl,hsz⟩:=zep hB h3 hs m1 (VRepL.ext x1 hvs)
  have hdc:=hdv.cells.keep (seen_keeps x2 rfl)
  refine ⟨x1.trans x2,m2,hab2.trans hab,by simp [hlen],d::ds,by simp [gets,hd,hds],?_,by simp [hdl],?_⟩
  ·simp only [flat,List.map_cons,List.flatten_cons,DRepA]
   exact ⟨_,_,rfl,hdc,hda⟩
  ·intro u hu
   rcases List.mem_cons.1 hu with hu|hu
   ·subst hu;exact hdc.length
   ·exact hsz u hu
end
end Go.SX
namespace Go.SX
open Go.RowKit (Below)
theorem zmt (μ:Nat→Root) (up:List (Nat×Root)):∀ (l:List (Nat×Root)),(∀ p∈l,p.2=Root.dead)→∀ q,now μ (l++up) q=if q∈l.map (·.1) then .dead else now μ up q
 | [],_,q=>by simp
 | (r,R)::l,h,q=>by
  have hR:R=.dead:=h (r,R) (by simp)
  subst hR
  rw [List.cons_append,zaF]
  by_cases e:q=r
  ·subst e;rw [upd_same];simp
  ·rw [upd_ne _ _ e,zmt μ up l (fun p hp=>h p (by simp [hp])) q]
   simp only [List.map_cons,List.mem_cons,e,false_or]
section
variable {C:FuncId→List D→Option (List D)} {k B0:Nat} {X:Ctx} {cx:Cx}
def Ctx.joined (X:Ctx) (w':World) (rs:List Nat) (r:Nat) (R:Root) (p:Pl):Ctx :=
 { E:=X.E,w:=w',μ:=upd (fun q=>if q∈rs then .dead else X.μ q) r R,β:=upd X.β r p,A:=fun q=>X.A q∨q=r,F:=X.F }
theorem zfV {X:Ctx}(m:Mem B0 X) {e:Ty}:∀ {ps:List (Nat×At)},(ps.map (·.1)).Nodup→(∀ p∈ps,X.A p.1∧X.μ p.1=.row e p.2)→(opts (ps.map fun p=>(X.β p.1).main)).Nodup
 | [],_,_=>by simp [opts]
 | p::ps,hn,h=>by
  simp only [List.map_cons,List.nodup_cons] at hn
  have ih:=zfV m hn.2 fun q hq=>h q (by simp [hq])
  obtain ⟨hA,hR⟩:=h p (by simp)
  cases hb:(X.β p.1).main with
  | none=>simpa only [List.map_cons,hb,opts] using ih
  | some b =>
   simp only [List.map_cons,hb,opts,List.nodup_cons]
   refine ⟨fun hm=>?_,ih⟩
   rw [zaW,List.mem_map] at hm
   obtain ⟨q,hq,hqb⟩:=hm
   obtain ⟨hA2,hR2⟩:=h q (by simp [hq])
   have:=m.apart p.1 q.1 b hA hA2 (by rw [hR];simp [Root.own,hb]) (by rw [hR2];simp [Root.own,hqb])
   exact hn.1 (this▸List.mem_map_of_mem hq)
theorem zhI (m:Mem B0 X) {e:Ty}:∀ {ps:List (Nat×At)}{ds:List D}{vs:List Value},(∀ p∈ps,X.A p.1∧X.μ p.1=.row e p.2)→gets X.E (ps.map (·.2))=some ds→VRepL X (ps.map fun p=>.h e p.1 none) vs →
  RowCells X.w X.M e (ps.map fun p=>(X.β p.1).main) ds vs∧flat vs=vs
 | [],ds,vs,_,hd,hv=>by
  simp only [List.map_nil,gets,wB0] at hd
  simp only [List.map_nil,VRepL] at hv
  subst hd hv
  simp [RowCells,flat]
 | p::ps,ds,vs,h,hd,hv=>by
  simp only [List.map_cons] at hd hv
  obtain ⟨d,ds',h1,h2,h3⟩:=zbx hd
  subst h3
  simp only [VRepL] at hv
  obtain ⟨v,vs',e',hv,hvs⟩:=hv
  subst e'
  obtain ⟨ih,hf⟩:=zhI m (fun q hq=>h q (by simp [hq])) h2 hvs
  obtain ⟨hA,hR⟩:=h p (by simp)
  simp only [VRep] at hv
  have hc:=zg4 m hA hR h1 hv
  refine ⟨by simp only [List.map_cons,RowCells];exact ⟨hc,ih⟩,?_⟩
  simp only [flat,List.map_cons,List.flatten_cons,hc.one.cells]
  have:(vs'.map fun v=>v.cells.toList).flatten=vs':=hf
  rw [this]
  rfl
theorem Mem.joined {e:Ty}{r:Nat}{a:At}{ps:List (Nat×At)}{ds:List D}{vs:List Value}{w':World}{te:TypeId}(m:Mem B0 X) (hB:B0≤X.w.heap.size) (hn:¬ X.A r) (hb:Below X.w.heap.size X.w w')
  (hnd:(ps.map (·.1)).Nodup) (hps:∀ p∈ps,X.A p.1∧X.μ p.1=.row e p.2) (hd:gets X.E (ps.map (·.2))=some ds) (hv:VRepL X (ps.map fun p=>.h e p.1 none) vs) (ha:a.get X.E=some (.sl ds)) (hh:w'.heap[X.w.heap.size]?=some (.cells vs.toArray te (0,0)))
  (hl:ds.length=vs.length) :
  let X':=X.joined w' (ps.map (·.1)) r (.mat e a 0) ⟨some X.w.heap.size,ps.map fun p=>(X.β p.1).main⟩
  (Ext X X'∧Mem B0 X')∧VRep X' (.h (.sl e) r none) (.slice (some ⟨X.w.heap.size,0,none⟩) ds.length ds.length):=by
 intro X'
 obtain ⟨hcells,_⟩:=zhI m hps hd hv
 have hrn:r∉ps.map (·.1):=fun h=>by
  obtain ⟨p,hp,e⟩:=List.mem_map.1 h
  exact hn (e▸(hps p hp).1)
 have hr:X'.μ r=.mat e a 0:=by simp [X',Ctx.joined,upd_same]
 have hβ:X'.β r=⟨some X.w.heap.size,ps.map fun p=>(X.β p.1).main⟩:=by simp [X',Ctx.joined,upd_same]
 have hdead:∀ q∈ps.map (·.1),X'.μ q=.dead:=fun q hq=>by
  have:q≠r:=fun h=>hrn (h▸hq)
  simp only [X',Ctx.joined,upd_ne _ _ this]
  rw [if_pos hq]
 have hown:∀ b,b∈opts (ps.map fun p=>(X.β p.1).main)→∃ s,(s∈ps.map (·.1))∧X.A s∧b∈(X.μ s).own (X.β s):=fun b hb=>by
  rw [zaW,List.mem_map] at hb
  obtain ⟨p,hp,e⟩:=hb
  obtain ⟨hA,hR⟩:=hps p hp
  exact ⟨p.1,List.mem_map_of_mem hp,hA,by rw [hR];simp [Root.own,e]⟩
 refine ⟨?_,?_⟩
 ·refine Mem.change m hB (fun q=>q=r∨q∈ps.map (·.1)) (fun _ _ h=>h) (fun _ h=>.inl h) (fun q h=>h.imp id .inl) (fun q hq=>?_) (fun b hlt _=>hb.block b hlt) (fun b n hs=>(zax (hb.block b (zck hs))).trans hs) ?_ ?_ ?_ ?_ ?_ ?_ rfl (fun q hq hA e1 a1 q' h=>by
   rcases hq with hq|hq
   ·exact absurd (hq▸hA) hn
   ·obtain ⟨p,hp,e⟩:=List.mem_map.1 hq
    rw [← e,(hps p hp).2] at h
    cases h)
  ·have h1:q≠r:=fun h=>hq (.inl h)
   have h2:q∉ps.map (·.1):=fun h=>hq (.inr h)
   refine ⟨?_,by simp [X',Ctx.joined,upd_ne _ _ h1]⟩
   simp only [X',Ctx.joined,upd_ne _ _ h1]
   rw [if_neg h2]
  ·intro q b hq _ hm
   rcases hq with hq|hq
   ·subst hq
    rw [hr,hβ] at hm
    simp only [Root.own,Option.toList,List.singleton_append,List.mem_cons] at hm
    rcases hm with hm|hm
    ·exact .inl (by omega)
    ·obtain ⟨s,h1,h2,h3⟩:=hown b hm
     exact .inr ⟨s,.inr h1,h2,h3⟩
   ·rw [hdead q hq] at hm
    simp [Root.own] at hm
  ·intro q q' b hq hq' _ _ hm hm'
   have no:∀ {q},q∈ps.map (·.1)→b∈(X'.μ q).own (X'.β q)→False:=fun h hm=>by
    rw [hdead _ h] at hm
    simp [Root.own] at hm
   rcases hq with hq|hq
   ·rcases hq' with hq'|hq'
    ·rw [hq,hq']
    ·exact (no hq' hm').elim
   ·exact (no hq hm).elim
  ·intro q hq _
   rcases hq with hq|hq
   ·subst hq
    rw [hr,hβ]
    simp only [Root.own,Option.toList,List.singleton_append,List.nodup_cons]
    refine ⟨fun hm=>?_,zfV m hnd hps⟩
    obtain ⟨s,_,h2,h3⟩:=hown _ hm
    have:=m.lt h2 h3
    omega
   ·rw [hdead q hq]
    simp [Root.own]
  ·intro q hq hA
   rcases hq with hq|hq
   ·exact absurd (hq▸hA) hn
   ·have:q≠r:=fun h=>hrn (h▸hq)
    simp [X',Ctx.joined,upd_ne _ _ this]
  ·intro q hq hA ht
   rcases hq with hq|hq
   ·exact absurd (hq▸hA) hn
   ·rw [hdead q hq] at ht
    cases ht
  ·intro x q hq _
   rcases hq with hq|hq
   ·subst hq
    rw [hr]
    refine ⟨_,ha,.inr ⟨X.w.heap.size,vs.toArray,te,ds,vs,by rw [hβ],rfl,hh,?_,by simp⟩⟩
    rw [hβ]
    exact RowCells.keep x.K (fun b hb'=>hb.block b (by
     obtain ⟨s,_,h2,h3⟩:=hown b (zaW.2 hb')
     exact m.lt h2 h3)) hcells
   ·rw [hdead q hq]
    trivial
 ·simp only [VRep,Ref]
  exact ⟨zaf _ _ _,.inr rfl,fun _=>⟨a,.sl ds,by rw [hr];rfl,ha,.inr ⟨X.w.heap.size,ds,by rw [hβ],rfl,ds.length,vs.length,rfl,wG0 _,by show bsize w' _=_;simp [bsize,hh],by simp [Ty.size,hl]⟩⟩⟩
theorem zjz (ty:TysOk cx) (hB:B0≤X.w.heap.size) (m:Mem B0 X) {t:TypeId}{n:Nat}{ps:List (Nat×SV)}{pv:List (Nat×Value)}{sv:SV}{s0 s':SS}(hfr:∀ r,s0.ab≤r→r<s'.ab→¬ X.A r) (h0:s0.up=[]) (h:Run (zbE cx t n ps) X.μ s0 sv s') (hs:Sat C k X.E s'.bs s'.nv)
  (hp:zaY X ps pv):Acts cx.P B0 X (Instr.buildSlice t n pv.toArray) s0 s' fun X' v=>VRep X' sv v:=by
 unfold zbE at h
 split at h
 ·rename_i e hT
  obtain ⟨E,i,hu,tf⟩:=zak ty hT
  obtain ⟨l,s1,h1,h2⟩:=Run.bind h
  obtain ⟨hl,es⟩:=Run.of h1
  subst es
  obtain ⟨_,s2,h3,h4⟩:=Run.bind h2
  obtain ⟨hg,es⟩:=Run.guard h3
  subst es
  simp only [wD0,decide_eq_true_eq] at hg
  obtain ⟨⟨hn,hsz⟩,_⟩:=hg
  have hn:=zad hn
  obtain ⟨vs,ev,hv⟩:=zh1 hl hp
  subst ev
  have hmv:X.mv s2.up=X:=by rw [h0];rfl
  have rowCase:∀ {sx:SS},sx=s2→Run (zbE.buildRow e l) X.μ sx sv s'→Acts cx.P B0 X (Instr.buildSlice t n (numbered 0 vs).toArray) s2 s' fun X' v=>VRep X' sv v:=by
   intro sx esx h5
   subst esx
   unfold zbE.buildRow at h5
   obtain ⟨as,s3,h6,h7⟩:=Run.bind h5
   obtain ⟨a,s4,h8,h9⟩:=Run.bind h7
   obtain ⟨r,s5,h10,h11⟩:=Run.bind h9
   obtain ⟨er,es⟩:=Run.new h10
   obtain ⟨e1,e2⟩:=Run.pure h11
   subst es
   subst e1 e2
   obtain ⟨x1,m1,hab,hlen,ds,hds,hda,hdl,hcl⟩:=zep hB h6 (h8.sat hs) (by rw [hmv];exact m) (by rw [hmv];exact hv)
   rw [hmv] at x1
   obtain ⟨⟨vals,d,q1,q2,q3⟩,q5,q6⟩:=Run.op h8 hs
   rw [hds] at q1
   injection q1 with q1
   subst q1
   simp only [Prim.run,wB0] at q2
   subst q2
   have hvn:vs.length=n:=by omega
   have hrun:=run_buildSlice (w:=X.w) hu tf hvn hsz hcl
   have hnA:¬ X.A r:=hfr r (by dsimp only at *;omega) (by dsimp only at *;omega)
   have hfl:=hda.length
   obtain ⟨hnew,hvr⟩:=m1.newRow hB hnA ((Below.refl _ _).alloc (wG0 _) (.cells (flat vs).toArray E)) q3 (heap_alloc_new X.w _) hda (cap:=n) (by simp) (by omega) (by rw [List.size_toArray,hfl,hdl,hvn];exact wG0 _)
   refine ⟨_,_,_,hrun,Nx.grown x1 ((Below.refl _ _).alloc (wG0 _) _) hB hnew (by rw [q5,er]) er rfl (by rw [q6,hab]),?_⟩
   rw [hdl,hvn] at hvr
   exact hvr
  split at h4
  ·rename_i e' _
   have matCase:Run (zjG e' l >>= fun as=>SX.X.op .mks as >>= fun a=>SX.X.newRoot (.mat e' a 0) >>= fun r=>SX.X.pure (.h (.sl e') r none)) X.μ s2 sv s'→Acts cx.P B0 X (Instr.buildSlice t n (numbered 0 vs).toArray) s2 s' fun X' v=>VRep X' sv v:=by
    intro h5
    obtain ⟨as,s3,h6,h7⟩:=Run.bind h5
    obtain ⟨a,s4,h8,h9⟩:=Run.bind h7
    obtain ⟨r,s5,h10,h11⟩:=Run.bind h9
    obtain ⟨er,es⟩:=Run.new h10
    obtain ⟨e1,e2⟩:=Run.pure h11
    subst es
    subst e1 e2
    obtain ⟨qs,p1,p2,p3,p4,p5,p6⟩:=zhC h6
    subst p1 p2
    rw [h0,zar] at p4
    obtain ⟨⟨vals,d,q1,q2,q3⟩,q5,q6⟩:=Run.op h8 hs
    simp only [Prim.run,wB0] at q2
    subst q2
    have hps:∀ p∈qs,X.A p.1∧X.μ p.1=.row e' p.2:=fun p hp=>by
     refine ⟨?_,p4 p hp⟩
     have key:∀ {l:List (Nat×At)} {vs:List Value},VRepL X (l.map fun p=>.h e' p.1 none) vs→∀ p∈l,X.A p.1:=by
      intro l
      induction l with
      | nil=>intro _ _ p hp;cases hp
      | cons q l ih =>
       intro vs hv p hp
       simp only [List.map_cons,VRepL] at hv
       obtain ⟨v,vs',_,h1,h2⟩:=hv
       rcases List.mem_cons.1 hp with hp|hp
       ·subst hp;simp only [VRep,Ref] at h1;exact h1.2.1
       ·exact ih h2 p hp
     exact key hv p hp
    obtain ⟨hcells,hfl⟩:=zhI m hps q1 hv
    have hlens:=RowCells.lens hcells
    simp only [List.length_map] at hlens hn
    have hvn:vs.length=n:=by omega
    have hones:∀ v∈vs,v.cells.toList.length=(Ty.sl e').size:=by
     have key:∀ {os:List (Option Nat)} {ds:List D} {vs:List Value},RowCells X.w X.M e' os ds vs→∀ v∈vs,One v:=by
      intro os
      induction os with
      | nil=>intro ds vs h v hv;cases ds<;>cases vs<;>simp only [RowCells] at h;cases hv
      | cons o os ih =>
       intro ds vs h v hv
       cases ds<;>cases vs<;>simp only [RowCells] at h
       rcases List.mem_cons.1 hv with hv|hv
       ·subst hv;exact h.1.one
       ·exact ih h.2 v hv
     intro v hv
     rw [(key hcells v hv).cells]
     rfl
    have hrun:=run_buildSlice (w:=X.w) hu tf hvn hsz hones
    rw [hfl] at hrun
    have hnA:¬ X.A r:=hfr r (by dsimp only at *;omega) (by dsimp only at *;omega)
    obtain ⟨⟨x2,m2⟩,hvr⟩:=m.joined hB hnA ((Below.refl _ _).alloc (wG0 _) (.cells vs.toArray E)) p3 hps q1 hv q3 (heap_alloc_new X.w _) (by omega)
    refine ⟨_,_,X.joined (X.w.alloc (.cells vs.toArray E)) (qs.map (·.1)) r (.mat e' a 0) ⟨some X.w.heap.size,qs.map fun p=>(X.β p.1).main⟩,hrun,⟨rfl,rfl,?_,fun q=>?_,x2,m2,((Below.refl _ _).alloc (wG0 _) _).mono hB⟩,?_⟩
    ·show upd _ _ _=now X.μ ((s4.ab,Root.mat e' a 0)::s4.up)
     rw [q5,p5,h0,zaF,er]
     congr 1
     funext q
     rw [zmt X.μ [] _ (fun p hp=>?_),zar]
     ·simp only [List.map_reverse,List.mem_reverse,List.map_map]
      rfl
     ·simp only [List.mem_reverse,List.mem_map] at hp
      obtain ⟨q,_,e⟩:=hp
      rw [← e]
    ·show (X.A q∨q=r)↔X.A q∨s2.ab≤q∧q<s4.ab + 1
     rw [er,q6,p6]
     constructor
     ·rintro (h|h)
      ·exact .inl h
      ·exact .inr (by omega)
     ·rintro (h|h)
      ·exact .inl h
      ·exact .inr (by omega)
    ·have:vals.length=n:=by omega
     rw [this] at hvr
     exact hvr
   obtain ⟨bb,s3,h9,h10⟩:=Run.bind h4
   have es:=zf0 h9
   rcases Run.ite h10 with ⟨_,h11⟩|⟨_,h11⟩
   ·subst es;exact matCase h11
   ·exact rowCase es h11
  ·exact rowCase rfl h4
 ·exact (Run.fail h).elim
end
end Go.SX
