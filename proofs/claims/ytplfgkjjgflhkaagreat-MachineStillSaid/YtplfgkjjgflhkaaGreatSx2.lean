/- Part 2 of a checked symbolic executor: what a function's code does is read off as a tree over plain data. No condition. -/
import Derived.Test.YtplfgkjjgflhkaaGreatSx1
import Derived.Deep.MidRow
import Derived.Laws.CopyOwn
import Derived.Laws.MakeOwn
import Derived.Laws.BytesString
import Derived.Laws.IdiomStrings
import Derived.Laws.Append
import Derived.Laws.AppendOwn
set_option linter.unusedSimpArgs false
set_option linter.unusedVariables false
namespace Go.SX
open Go.RowKit (Below)
section
variable {C:FuncId→List D→Option (List D)} {k B0:Nat} {X:Ctx} {cx:Cx}
theorem zB0 (a):One (.pointer a):=⟨by simp,by simp⟩
theorem zbr (a) (n c):One (.slice a n c):=⟨by simp,by simp⟩
theorem zuq {t b j f w a F e}(g:cx.P.underlying t=some (.struct b)) (h:b[j]?=some f) (d:TyFact cx f.type F e) (h0:F.size≠0) :
  (Instr.fieldAt t (.pointer (some a)) j).run cx.P w=.ok (.pointer (some (a.add f.offset))) w:=by
 have i:e.size≠0:=by rw [d.size];omega
 simp [Instr.fieldAt,za7 g,h,Instr.sureAddr,fieldPlace,zds d.info,i]
theorem zor (ty:TysOk cx) {t x H j B m}(h:Run (zpe cx t x j) X.μ B H m) (P:Sat C k X.E m.bs m.nv) {K}(I:VRep X x K) :
  zdm cx.P X (Instr.fieldAt t K j) H B m:=by
 obtain ⟨F,s1,h1,h2⟩:=Run.bind h
 obtain ⟨hF,a⟩:=Run.of h1
 subst a
 obtain ⟨Ts,i,fs,f,i',N,A,tf,z,G,hfT,hoff,J⟩:=zwp ty hF
 obtain ⟨_,s2,h3,r⟩:=Run.bind h2
 obtain ⟨s,a⟩:=Run.guard h3
 subst a
 have s:F.size≠0:=by
  intro e;simp_all
 split at r
 ·obtain ⟨_,s3,w,y⟩:=Run.bind r
  obtain ⟨q,a⟩:=Run.guard w
  subst a
  have l:=Ty.beq_eq q
  rw [N] at l
  subst l
  obtain ⟨c,g⟩:=Run.pure y
  subst c g
  obtain ⟨hA,b,off,c,g,p,L⟩:=I
  subst c
  obtain ⟨g1,g2⟩:=znG p L A
  refine ⟨rfl,rfl,_,zuq z G J s,?_⟩
  grind [VRep,Ref,addr_add]
 ·obtain ⟨_,s3,w,y⟩:=Run.bind r
  obtain ⟨q,a⟩:=Run.guard w
  subst a
  have l:=Ty.beq_eq q
  rw [N] at l
  subst l
  obtain ⟨v,s4,h7,h8⟩:=Run.bind y
  obtain ⟨c,g⟩:=Run.pure h8
  subst c g
  obtain ⟨⟨d,d',o,q2,q3⟩,q4,q5⟩:=Run.op1 h7 P
  obtain ⟨ad,O,xs,c,g,p,L,e5⟩:=I
  rw [g] at o
  injection o with o
  subst o c
  refine ⟨q4,q5,_,zuq z G J s,?_⟩
  cases O<;>simp only [DRep] at p
  refine ⟨_,d',_,rfl,q3,(p.part A q2),fun n u hn=>?_,fun hne=>?_⟩
  all_goals grind [add_add,add_block]
 grind [Run.fail]
theorem ze8 {w P}(a) (n):(asIntOf (.int a n)).run P w=.ok (a,n) w:=rfl
theorem zfK {t E w i a}{len cap:Nat}{kk}{z:Int}(hu:cx.P.underlying t=some (.slice E)) (hi:cx.P.info? E=some i) (h0:0≤z) (h1:z<len) :
  (Instr.indexAt t (.slice (some a) len cap) (.int kk z)).run cx.P w=.ok (.pointer (some (a.add (z.toNat * i.size)))) w:=by simp_all [Instr.indexAt,za7,ze8,zds]
theorem zrF {t E w i a n e}{z:Int}(d:cx.P.underlying t=some (.array n E)) (f:cx.P.info? E=some i) (g:0≤z) (c:z<n) :
  (Instr.indexAt t (.pointer (some a)) (.int e z)).run cx.P w=.ok (.pointer (some (a.add (z.toNat * i.size)))) w:=by
 simp [Instr.indexAt,za7 d,ze8,Instr.sureAddr,g,c,zds f]
theorem zbC (b:TysOk cx) {t e}(h:cx.T t=.sl e):∃ E i,cx.P.underlying t=some (.slice E)∧TyFact cx E e i:=by
 obtain ⟨i,c⟩:=b.get h (by simp)
 obtain ⟨E,hu,d⟩:=c.desc
 obtain ⟨i',tf'⟩:=b.get d (zdd c.known)
 grind
theorem zo9 (b:TysOk cx) {t n e}(h:cx.T t=.arr n e):∃ E i,cx.P.underlying t=some (.array n E)∧TyFact cx E e i:=by
 obtain ⟨i,c⟩:=b.get h (by simp)
 obtain ⟨E,hu,d⟩:=c.desc
 obtain ⟨i',tf'⟩:=b.get d (zdd c.known)
 grind
theorem zBo {e}{b:Addr}{a d o M w}(hp:DRep w M e d ((a.drop o).take e.size)) (hc:∀ j u,a[j]?=some u→w.cell? (b.add j)=some u) (hm:a≠[]→¬ M b.block) :
  (∀ (j) (u),((a.drop o).take e.size)[j]?=some u→w.cell? ((b.add o).add j)=some u)∧((a.drop o).take e.size≠[]→¬ M (b.add o).block):=by grind [add_add,add_block]
theorem HRep.val {e r c v}(h:HRep X e r c v) {a}(hR:(X.μ r).row?=some (e,a)) {d}(hd:a.get X.E=some d) :
  ((X.β r).main=none∧Empt d v∧zpT X.E c)∨(∃ b l,(X.β r).main=some b∧d=.sl l∧zlv X.E X.w e b l.length c v):=by
 obtain ⟨a',d',h1,h2,h3⟩:=h
 grind
theorem zrh {e r c d a v f}(j:B0≤X.w.heap.size) (m:Mem B0 X) (g:c.up=[]) (h:Run (SV.view false (.sl e) (.h e r none)) X.μ c a d) (k:Ref X (.h e r f) v) :
  d=c∧(X.μ r).row?=some (e,a)∧HRep X e r f v:=by
 obtain ⟨_,s1,l,n⟩:=Run.bind h
 obtain ⟨_,o⟩:=Run.guard l
 subst o
 obtain ⟨a0,s2,p,q⟩:=Run.bind n
 obtain ⟨s,t⟩:=Run.pure q
 subst s t
 obtain ⟨_,u,w⟩:=k
 obtain ⟨b,_,_,i,r2,_⟩:=zeL p (X:=X) (by rw [g];exact m) j u
 rw [g] at b
 refine ⟨i rfl,b,w ?_⟩
 have r1':(X.μ r).row?=some (e,a):=b
 cases hk:X.μ r with
 | dead=>grind [Root.row?]
 | _=>rfl
theorem zJL {e r b f a v g}(hB:B0≤X.w.heap.size) (m:Mem B0 X) (o:b.up=[]) (h:Run (zJn e r) X.μ b a f) (k:Ref X (.h e r g) v) :
  f=b∧(X.μ r).row?=some (e,a)∧HRep X e r g v:=by
 obtain ⟨R,s1,l,i⟩:=Run.bind h
 obtain ⟨d,c⟩:=Run.root l
 subst c
 rw [o,zbI] at d
 split at i
 ·obtain ⟨_,s2,p,q⟩:=Run.bind i
  obtain ⟨s,c⟩:=Run.guard p
  subst c
  obtain ⟨t,j⟩:=Run.pure q
  subst t j
  refine ⟨rfl,by rw [← d,(Ty.beq_eq s)];rfl,k.2.2 (by rw [← d];rfl)⟩
 grind [zrh]
theorem zou (ty:TysOk cx) (hB:B0≤X.w.heap.size) (m:Mem B0 X) {t x ix sv s0 s'}(h0:s0.up=[]) (h:Run (zi2 cx t x ix) X.μ s0 sv s') (Y:Sat C k X.E s'.bs s'.nv)
  {vx vi} (L:VRep X x vx) (hi:VRep X ix vi):zdm cx.P X (Instr.indexAt t vx vi) sv s0 s':=by
 unfold zi2 at h
 obtain ⟨⟨kk,ai⟩,s1,h1,W⟩:=Run.bind h
 obtain ⟨y,z,Z,hvi⟩:=zdb h1 hi
 subst y hvi
 simp only at Z W
 split at W
 ·
  rename_i e T a O
  obtain ⟨E,i,J,B⟩:=zbC ty O
  obtain ⟨_,s2,N,K⟩:=Run.bind W
  obtain ⟨P,y⟩:=Run.guard N
  subst y
  have hT':=Ty.beq_eq P
  subst hT'
  obtain ⟨v,s3,I,M⟩:=Run.bind K
  obtain ⟨w,A⟩:=Run.pure M
  subst w A
  obtain ⟨⟨d1,d2,d,s,f,c,F⟩,G,Q⟩:=Run.op2 I Y
  obtain ⟨d0,f1,H⟩:=VRep.data.1 L
  rw [f1] at s
  rw [Z] at f
  injection s with s
  injection f with f
  subst s f
  unfold DVal at H
  simp [Ty.isAgg] at H
  obtain ⟨_,H⟩:=H
  cases d0<;>simp only [DRep] at H<;>try (simp [Prim.run] at c)
  rename_i l
  obtain ⟨ad,cap,xs,S,g2,g3,g4,g5⟩:=H
  injection S with S
  subst S
  obtain ⟨hz0,c⟩:=c
  have hlt:z.toNat<l.length:=by grind
  refine ⟨G,Q,_,zfK J B.info hz0 (by omega),?_⟩
  have hp:=g3.part c
  rw [B.size]
  grind [zBo,VRep,Ref]
 ·
  rename_i e e' r vw O
  obtain ⟨E,i,J,B⟩:=zbC ty O
  obtain ⟨_,s2,N,K⟩:=Run.bind W
  obtain ⟨P,y⟩:=Run.guard N
  subst y
  have V:=Ty.beq_eq P
  subst V
  simp only [VRep] at L
  cases vw with
  | none =>
   obtain ⟨a,s3,I,M⟩:=Run.bind K
   obtain ⟨j,s4,U,h8⟩:=Run.bind M
   obtain ⟨w,A⟩:=Run.pure h8
   subst w A
   obtain ⟨y,hrow,hh⟩:=zJL hB m h0 I L
   subst y
   obtain ⟨⟨d1,d2,d,s,f,c,F⟩,G,Q⟩:=Run.op2 U Y
   rw [Z] at f
   injection f with f
   subst f
   rcases hh.val hrow s with ⟨_,w,_⟩|⟨b,l,p1,p2,cap,bs,p3,p4,p5,p6⟩
   ·rcases w.em with h|h<;>subst h<;>simp [Prim.run] at c
    omega
   ·subst p2 p3
    simp [Prim.run] at c
    obtain ⟨⟨c1,c2⟩,c3⟩:=c
    subst c3
    refine ⟨G,Q,_,zfK J B.info c1 c2,?_⟩
    simp only [VRep,Ref]
    exact ⟨(by grind [Ref]),b,z.toNat * e'.size,by rw [addr_add,vA0,B.size],p1,by grind [tOff],by rfl⟩
  | some p =>
   obtain ⟨lo,hi'⟩:=p
   obtain ⟨a,s3,I,M⟩:=Run.bind K
   obtain ⟨j,s4,U,h8⟩:=Run.bind M
   obtain ⟨w,A⟩:=Run.pure h8
   subst w A
   obtain ⟨y,hrow,hh⟩:=zrh hB m h0 I L
   subst y
   obtain ⟨⟨d1,d2,d3,d,s,f,c,F,G⟩,Q,q7⟩:=Run.op3 U Y
   rw [Z] at c
   injection c with c
   subst c
   obtain ⟨a',dd,S,g2,g3⟩:=hh
   rcases g3 with ⟨_,_,k1,k2,w1,w2⟩|⟨b,l,p1,p2,ad,cap,bs,k1,k2,i',j',p3,p4,p5,p6,p7,p8,p9,p10,p11⟩
   ·grind [Prim.run]
   ·rw [p3] at s
    rw [p4] at f
    injection s with s
    injection f with f
    subst s f p2 p7
    simp only [Prim.run,Int.ofNat_eq_natCast] at F
    split at F
    ·rename_i hc
     injection F with F
     subst F
     refine ⟨Q,q7,_,zfK J B.info hc.1 (by omega),?_⟩
     simp only [VRep,Ref]
     refine ⟨(by grind [Ref]),b,((i':Int) + z).toNat * e'.size,?_,p1,by simp only [tOff,G];grind,by rfl⟩
     rw [(p11 (.inl (by omega))),addr_add,B.size,← Nat.add_mul]
     grind
    grind
 ·
  rename_i e e' r aix g O
  obtain ⟨E,i,J,B⟩:=zbC ty O
  obtain ⟨_,s2,N,K⟩:=Run.bind W
  obtain ⟨P,y⟩:=Run.guard N
  subst y
  have V:=Ty.beq_eq P
  subst V
  obtain ⟨a,s3,I,M⟩:=Run.bind K
  obtain ⟨j,s4,U,h8⟩:=Run.bind M
  obtain ⟨w,A⟩:=Run.pure h8
  subst w A
  simp only [VRep] at L
  simp only [Ref] at L
  obtain ⟨hone,hA,hh⟩:=L
  simp only [SV.view] at I
  obtain ⟨_,t1,S,g2⟩:=Run.bind I
  obtain ⟨_,y⟩:=Run.guard S
  subst y
  obtain ⟨a0,t2,g3,g4⟩:=Run.bind g2
  obtain ⟨r1,_,_,hf,_,_⟩:=zoX g3 (X:=X) (by rw [h0];exact m) hB hA
  have et:=hf rfl
  subst et
  rw [h0] at r1
  have r1':X.μ r=.mat e' a0 g:=r1
  obtain ⟨_,hh'⟩:=hh e' a0 g r1'
  obtain ⟨_,k0,n,ds,d0,o,c1,c2,c3,c4,c5⟩:=hh' rfl
  obtain ⟨⟨u1,u2,u,f1,H,f3,f4⟩,f5,f6⟩:=Run.op2 g4 (U.sat Y)
  rw [c1] at f1
  rw [c2] at H
  injection f1 with f1
  injection H with H
  subst f1 H
  simp only [Prim.run,Int.ofNat_eq_natCast,Int.toNat_natCast] at f3
  rw [if_pos (by omega),c3] at f3
  injection f3 with f3
  subst f3
  obtain ⟨⟨d1,d2,d,s,f,c,F⟩,G,Q⟩:=Run.op2 U Y
  rw [f4] at s
  rw [Z] at f
  injection s with s
  injection f with f
  subst s f
  rcases c5 with ⟨p1,p2⟩|⟨b,l,cap,bs,p1,p2,p3,p4,p5,p6⟩
  ·rcases p2.em with h|h<;>subst h<;>simp [Prim.run] at c
   omega
  ·subst p2 p3 p1
   simp [Prim.run] at c
   obtain ⟨⟨w1,w2⟩,w3⟩:=c
   subst w3
   refine ⟨by rw [G,f5],by rw [Q,f6],_,zfK J B.info w1 w2,?_⟩
   simp only [VRep,Ref]
   refine ⟨zB0 _,hA,fun A a2 g2 hm=>?_⟩
   rw [r1'] at hm
   injection hm with m1 m2 m3
   subst m1 m2 m3
   refine ⟨wG0 _,fun _=>⟨rfl,k0,n,b,z.toNat * e'.size,c2,c4,by rw [addr_add,vA0,B.size],by simp [tOff,F,w1],by simp [tyAt]⟩⟩
 ·
  rename_i n e R T r q O
  obtain ⟨E,i,J,B⟩:=zo9 ty O
  obtain ⟨_,s2,N,K⟩:=Run.bind W
  obtain ⟨P,y⟩:=Run.guard N
  subst y
  have V:=Ty.beq_eq P
  subst V
  obtain ⟨j,s4,U,h8⟩:=Run.bind K
  obtain ⟨w,A⟩:=Run.pure h8
  subst w A
  obtain ⟨⟨d1,d,s,f,c⟩,F,G⟩:=Run.op1 U Y
  rw [Z] at s
  injection s with s
  subst s
  simp [Prim.run] at f
  obtain ⟨⟨w1,w2⟩,w3⟩:=f
  subst w3
  simp only [VRep,Ref] at L
  obtain ⟨hA,b,off,w,A,e3,e4⟩:=L
  subst w
  obtain ⟨S,g2⟩:=zm8 c w1 e3 e4
  refine ⟨F,G,_,zrF J B.info w1 w2,?_⟩
  exact ⟨hA,b,_,by rw [addr_add,B.size],A,S,g2⟩
 ·
  rename_i n e T a O
  obtain ⟨E,i,J,B⟩:=zo9 ty O
  obtain ⟨_,s2,N,K⟩:=Run.bind W
  obtain ⟨P,y⟩:=Run.guard N
  subst y
  have V:=Ty.beq_eq P
  subst V
  obtain ⟨v,s3,I,M⟩:=Run.bind K
  obtain ⟨w,A⟩:=Run.pure M
  subst w A
  obtain ⟨⟨d1,d2,d,s,f,c,F⟩,G,Q⟩:=Run.op2 I Y
  obtain ⟨ad,d0,xs,w,A,e3,e4,e5⟩:=L
  rw [A] at s
  rw [Z] at f
  injection s with s
  injection f with f
  subst s f w
  cases d0<;>simp only [DRep] at e3
  rename_i l
  simp only [Prim.run] at c
  split at c
  ·rename_i hz0
   have hlt:z.toNat<n:=by
    rw [← e3.1]
    rcases vS0 z.toNat l.length with h|h
    ·exact h
    ·rw [vO0 h] at c;cases c
   refine ⟨G,Q,_,zrF J B.info hz0 (by omega),?_⟩
   rw [B.size]
   obtain ⟨c1,c2⟩:=zBo (e3.2.part c) e4 e5
   exact ⟨_,d,_,rfl,F,(e3.2.part c),c1,c2⟩
  ·cases c
 grind [Run.fail]
theorem zvT (M:TysOk cx) {t x ix sv s0 o}(h:Run (zzH cx t x ix) X.μ s0 sv o) (N:Sat C k X.E o.bs o.nv)
  {vx O} (hx:VRep X x vx) (hi:VRep X ix O):zdm cx.P X (Instr.index t vx O) sv s0 o:=by
 obtain ⟨⟨kk,ai⟩,s1,h1,p⟩:=Run.bind h
 obtain ⟨F,z,G,hvi⟩:=zdb h1 hi
 subst F hvi
 simp only at G p
 have q:=zch hx
 split at p
 ·rename_i n e T a y u
  rw [u] at q
  obtain ⟨E,i,hu,l⟩:=zo9 M y
  obtain ⟨_,s2,h3,h4⟩:=Run.bind p
  obtain ⟨w,F⟩:=Run.guard h3
  subst F
  have he:=Ty.beq_eq w
  subst he
  obtain ⟨v,s3,r,A⟩:=Run.bind h4
  obtain ⟨g,j⟩:=Run.pure A
  subst g j
  obtain ⟨⟨d1,d2,d,f,c,m,I⟩,J,H⟩:=Run.op2 r N
  obtain ⟨d0,K,L⟩:=VRep.data.1 q
  rw [K] at f
  rw [G] at c
  injection f with f
  injection c with c
  subst f c
  obtain ⟨z0,z1,cs,g,j⟩:=L.elem m
  subst g
  rw [← l.size] at j
  obtain ⟨v',hr,hv'⟩:=zgD l (by rw [← l.size];omega)
  exact ⟨J,H,v',by simp [Instr.index,za7 hu,ze8,z0,z1,zds l.info,hr],VRep.data.2 ⟨d,I,hv'⟩⟩
 ·rename_i a y u
  rw [u] at q
  obtain ⟨i,l⟩:=M.get y (by simp)
  have hu:cx.P.underlying t=some .string:=l.desc
  obtain ⟨v,s3,r,A⟩:=Run.bind p
  obtain ⟨g,j⟩:=Run.pure A
  subst g j
  obtain ⟨⟨d1,d2,d,f,c,m,I⟩,J,H⟩:=Run.op2 r N
  obtain ⟨d0,K,L⟩:=VRep.data.1 q
  obtain ⟨s,g,j⟩:=L.str
  subst g j
  rw [K] at f
  rw [G] at c
  injection f with f
  injection c with c
  subst f c
  simp only [Prim.run] at m
  split at m
  ·cases w:s[z.toNat]? with
   | none=>grind
   | some b =>
    simp [w] at m
    subst m
    exact ⟨J,H,.int .u8 b.toNat,by simp_all [Instr.index,za7,ze8],VRep.data.2 ⟨_,I,DVal.of_int _ _⟩⟩
  grind
 grind [Run.fail]
end
end Go.SX
namespace Go.SX
open Go.RowKit (Below)
section
variable {C:FuncId→List D→Option (List D)} {k B0:Nat} {X:Ctx} {cx:Cx}
theorem zyy {t E b w A n c}(d:cx.P.underlying t=some (.slice E)):(Builtin.len_ #[t] b #[.slice A n c]).run cx.P w=.ok (.int .i64 n) w:=by
 simp [Builtin.len_,za7 d,goInt]
theorem zxB {t b w s}(c:cx.P.underlying t=some .string):(Builtin.len_ #[t] b #[.string s]).run cx.P w=.ok (.int .i64 s.size) w:=by
 simp [Builtin.len_,za7 c,goInt]
theorem zEg (S:B0≤X.w.heap.size) (m:Mem B0 X) {x Y N H}(U:N.up=[]) (h:Run (lenOf x) X.μ N Y H) (F:Sat C k X.E H.bs H.nv) {Q}(hx:VRep X x Q) :
  H.up=N.up∧H.ab=N.ab∧((∃ A n c,Q=.slice A n c∧VRep X Y (.int .i64 n))∨(∃ b,Q=.string b∧(∃ a,simple x=.d .str a)∧VRep X Y (.int .i64 b.size))):=by
 unfold lenOf at h
 have s:=zch hx
 split at h
 ·rename_i e a p
  rw [p] at s
  obtain ⟨v,L,u,w⟩:=Run.bind h
  obtain ⟨j,f⟩:=Run.pure w
  subst j f
  obtain ⟨⟨M,d,o,i,t⟩,z,B⟩:=Run.op1 u F
  obtain ⟨d0,G,J⟩:=VRep.data.1 s
  rw [G] at o
  injection o with o
  subst o
  refine ⟨z,B,.inl ?_⟩
  rcases J.slice with ⟨j,f⟩|⟨l,a',V,j,f⟩
  ·subst j f
   simp [Prim.run] at i
   subst i
   exact ⟨none,0,0,rfl,VRep.data.2 ⟨_,t,DVal.of_int _ _⟩⟩
  ·subst j f
   simp [Prim.run] at i
   subst i
   exact ⟨_,_,_,rfl,VRep.data.2 ⟨_,t,DVal.of_int _ _⟩⟩
 ·rename_i a p
  rw [p] at s
  obtain ⟨v,L,u,w⟩:=Run.bind h
  obtain ⟨j,f⟩:=Run.pure w
  subst j f
  obtain ⟨⟨M,d,o,i,t⟩,z,B⟩:=Run.op1 u F
  obtain ⟨d0,G,J⟩:=VRep.data.1 s
  rw [G] at o
  injection o with o
  subst o
  obtain ⟨b,j,f⟩:=J.str
  subst j f
  simp [Prim.run] at i
  subst i
  exact ⟨z,B,.inr ⟨b,rfl,⟨a,p⟩,VRep.data.2 ⟨_,t,DVal.of_int _ _⟩⟩⟩
 ·rename_i e r p
  rw [p] at s
  obtain ⟨a,s2,I,K⟩:=Run.bind h
  obtain ⟨v,L,u,w⟩:=Run.bind K
  obtain ⟨j,f⟩:=Run.pure w
  subst j f
  obtain ⟨W,hrow,Z⟩:=zrh S m U I s
  subst W
  obtain ⟨⟨M,d,o,i,t⟩,z,B⟩:=Run.op1 u F
  refine ⟨z,B,.inl ?_⟩
  rcases Z.val hrow o with ⟨_,O,_⟩|⟨b,l,p1,p2,V,bs,p3,p4,p5,p6⟩
  ·obtain ⟨A,f⟩:=O.val
   subst f
   rw [O.em.len] at i
   injection i with i
   subst i
   exact ⟨A,0,0,rfl,VRep.data.2 ⟨_,t,DVal.of_int _ _⟩⟩
  ·subst p2 p3
   simp [Prim.run] at i
   subst i
   exact ⟨_,_,_,rfl,VRep.data.2 ⟨_,t,DVal.of_int _ _⟩⟩
 ·rename_i e r lo hi p
  rw [p] at s
  obtain ⟨a,s2,I,K⟩:=Run.bind h
  obtain ⟨v,L,u,w⟩:=Run.bind K
  obtain ⟨j,f⟩:=Run.pure w
  subst j f
  obtain ⟨W,hrow,Z⟩:=zrh S m U I s
  subst W
  obtain ⟨⟨M,d2,d,o,i,t,z⟩,B,q6⟩:=Run.op2 u F
  refine ⟨B,q6,.inl ?_⟩
  obtain ⟨a',dd,g1,g2,g3⟩:=Z
  rcases g3 with ⟨_,O,k1,k2,w1,w2⟩|⟨b,l,p1,p2,ad,V,bs,k1,k2,i',j',p3,p4,p5,p6,p7,p8,p9,p10,p11⟩
  ·rw [w1] at o
   rw [w2] at i
   injection o with o
   injection i with i
   obtain ⟨A,f⟩:=O.val
   subst o i f
   simp [Prim.run] at t
   subst t
   exact ⟨A,0,0,rfl,VRep.data.2 ⟨_,z,DVal.of_int _ _⟩⟩
  ·rw [p3] at o
   rw [p4] at i
   injection o with o
   injection i with i
   subst o i p7
   simp [Prim.run] at t
   refine ⟨_,_,_,rfl,VRep.data.2 ⟨_,z,?_⟩⟩
   grind [DVal.of_int]
 ·rename_i e r ix g p
  rw [p] at s
  obtain ⟨a,s2,I,K⟩:=Run.bind h
  obtain ⟨v,L,u,w⟩:=Run.bind K
  obtain ⟨j,f⟩:=Run.pure w
  subst j f
  obtain ⟨u1,u2,d0,G,J⟩:=zna S m U I (u.sat F) s
  obtain ⟨⟨M,d,o,i,t⟩,z,B⟩:=Run.op1 u F
  rw [G] at o
  injection o with o
  subst o
  refine ⟨by grind,by omega,.inl ?_⟩
  rcases J.slice with ⟨j,f⟩|⟨l,a',V,j,f⟩
  ·subst j f
   simp [Prim.run] at i
   subst i
   exact ⟨none,0,0,rfl,VRep.data.2 ⟨_,t,DVal.of_int _ _⟩⟩
  ·subst j f
   simp [Prim.run] at i
   subst i
   exact ⟨_,_,_,rfl,VRep.data.2 ⟨_,t,DVal.of_int _ _⟩⟩
 ·rename_i e a p
  rw [p] at s
  obtain ⟨j,f⟩:=Run.pure h
  subst j f
  obtain ⟨d,l,y,_,_,P,_⟩:=s
  exact ⟨rfl,rfl,.inl ⟨y,0,0,P,VRep.data.2 ⟨_,rfl,DVal.of_int _ _⟩⟩⟩
 ·rename_i R e n r q p
  rw [p] at s
  obtain ⟨j,f⟩:=Run.pure h
  subst j f
  obtain ⟨_,_,_,b,_,P⟩:=s
  exact ⟨rfl,rfl,.inl ⟨_,_,_,P,VRep.data.2 ⟨_,rfl,DVal.of_int _ _⟩⟩⟩
 ·rename_i p
  rw [p] at s
  obtain ⟨j,f⟩:=Run.pure h
  subst j f
  exact ⟨rfl,rfl,.inl ⟨none,0,0,s,VRep.data.2 ⟨_,rfl,DVal.of_int _ _⟩⟩⟩
 grind [Run.fail]
theorem zxG {r}(hk:∀ a b,(a,b)∈r→a.get X.E=some (.bool b)) {c x y t j f}(h:Run (zxS r c x y) X.μ j t f) (hs:Sat C k X.E f.bs f.nv)
  {n o q} (B:VRep X c n) (A:VRep X x o) (z:VRep X y q) :
  f.up=j.up∧f.ab=j.ab∧∃ b,n=.bool b∧VRep X t (if b then o else q):=by
 have known:∀ (l:List (At×Bool)) (a:At) (b:Bool),(∀ a b,(a,b)∈l→a.get X.E=some (.bool b))→zkM l a=some b→a.get X.E=some (.bool b):=by
  intro l
  induction l with
  | nil=>intro a b _ h;cases h
  | cons p l ih =>
   grind [zkM,At.beq_eq]
 unfold zxS at h
 have e:=zch B
 have hx':=zch A
 have hy':=zch z
 split at h
 ·rename_i g
  rw [g] at e
  obtain ⟨d,s,i⟩:=VRep.data.1 e
  obtain ⟨b,u,w⟩:=i.bool
  grind [At.get,Run.pure]
 ·rename_i g
  rw [g] at e
  obtain ⟨d,s,i⟩:=VRep.data.1 e
  obtain ⟨b,u,w⟩:=i.bool
  grind [At.get,Run.pure]
 ·rename_i a _ _ g
  rw [g] at e
  obtain ⟨d,s,i⟩:=VRep.data.1 e
  obtain ⟨b,u,w⟩:=i.bool
  split at h
  ·grind [Run.pure]
  ·grind [Run.pure]
  ·split at h
   ·obtain ⟨_,s1,F,G⟩:=Run.bind h
    obtain ⟨m,es⟩:=Run.guard F
    have m:=Ty.beq_eq m
    obtain ⟨v,s3,h5,h6⟩:=Run.bind G
    grind [Run.pure,Run.op3,VRep.data,Prim.run]
   grind [Run.fail]
 grind [Run.fail]
theorem zt5 {p x y l f e}(h:Run (zFK p [x,y]) X.μ f l e) (hs:Sat C k X.E e.bs e.nv) {g i}(q:VRep X x g) (o:VRep X y i) :
  e.up=f.up∧e.ab=f.ab∧∃ c a b d j,g=.int c a∧i=.int c b∧p.run [.int c a,.int c b]=some d∧j.get X.E=some d∧l=.d (.int c) j:=by
 obtain ⟨⟨c,a⟩,s1,r,s⟩:=Run.bind h
 obtain ⟨m,n,f1,f2⟩:=zdb r q
 obtain ⟨⟨kk',a'⟩,s2,u,w⟩:=Run.bind s
 obtain ⟨m,n',g1,g2⟩:=zdb u o
 obtain ⟨_,s3,z,t⟩:=Run.bind w
 obtain ⟨hk,m⟩:=Run.guard z
 obtain ⟨v,s4,h7,h8⟩:=Run.bind t
 grind [Run.pure,Run.op2]
end
end Go.SX
namespace Go.SX
open Go.RowKit (Below)
theorem add_zero (a:Addr):a.add 0=a:=by rfl
section
variable {cx:Cx}
def zpP (o:Option Value) (dflt n:Nat):Prop:=(o=none∧n=dflt)∨∃ k,o=some (.int k (n:Int))
theorem zg7 {w P k}{n y:Nat}{a}(h:n≤y):(Instr.sliceBound (.int k (n:Int)) y a).run P w=.ok n w:=by simp_all [Instr.sliceBound,ze8]
theorem zfa {t E w i}(r:cx.P.underlying t=some (.slice E)) (g:cx.P.info? E=some i) {A n c l h e a}
  (j:zpP e 0 l) (k:zpP a n h) (m:l≤h) (o:h≤c) :
  (Instr.sliceAt t (.slice A n c) e a none).run cx.P w=.ok (.slice (if c=l then A else A.map (·.add (l * i.size))) (h - l) (c - l)) w:=by
 rcases j with ⟨d,q⟩|⟨k1,d⟩<;>rcases k with ⟨f,p⟩|⟨k2,f⟩<;>subst d f<;>(try subst q)<;>(try subst p) <;>
  simp [Instr.sliceAt,za7 r,Instr.slice,Instr.sliceBounds,zg7 m,zg7 o,zds g]
theorem zfq {t E w i}(p:cx.P.underlying t=some (.slice E)) (e:cx.P.info? E=some i) {A}{n c l h m:Nat}{lo hi' k3 k2}
  (f:zpP lo 0 l) (g:hi'=some (.int k2 (h:Int))) (j:l≤h) (k:h≤m) (o:m≤c) :
  (Instr.sliceAt t (.slice A n c) lo hi' (some (.int k3 (m:Int)))).run cx.P w=.ok (.slice (if m=l then A else A.map (·.add (l * i.size))) (h - l) (m - l)) w:=by
 subst g
 rcases f with ⟨b,d⟩|⟨k1,b⟩<;>subst b<;>(try subst d) <;>
  simp [Instr.sliceAt,za7 p,Instr.slice,Instr.sliceBounds,zg7 j,zg7 k,zg7 o,zds e]
theorem zAn {t w}(k:cx.P.underlying t=some .string) {s l h b a}
  (f:zpP b 0 l) (g:zpP a s.size h) (i:l≤h) (j:h≤s.size) :
  (Instr.sliceAt t (.string s) b a none).run cx.P w=.ok (.string (s.extract l h)) w:=by
 rcases f with ⟨c,m⟩|⟨k1,c⟩<;>rcases g with ⟨d,n⟩|⟨k2,d⟩<;>subst c d<;>(try subst m)<;>(try subst n) <;>
  simp [Instr.sliceAt,za7 k,Instr.slice,Instr.sliceBounds,zg7 i,zg7 j]
theorem zzm {t E w i n}(hu:cx.P.underlying t=some (.array n E)) (hi:cx.P.info? E=some i) {a} :
  (Instr.sliceAt t (.pointer (some a)) none none none).run cx.P w=.ok (.slice (some a) n n) w:=by simp_all [Instr.sliceAt,za7,Instr.sureAddr,Instr.sliceBounds,zds,add_zero]
end
section
variable {C:FuncId→List D→Option (List D)} {k B0:Nat} {X:Ctx} {cx:Cx}
def zd5 (X:Ctx):Option SV→Option Value→Prop
 | none,none=>True
 | some s,some v=>VRep X s v
 | _,_=>False
theorem zAW {f a o b g e}(h:Run (bound f o) X.μ g a e) (c:zd5 X o b) :
  e=g∧((o=none∧b=none∧a=f)∨∃ d z,o.isSome∧b=some (.int d z)∧a.get X.E=some (.int d z)):=by
 cases o with
 | none =>
  cases b with
  | none=>obtain ⟨e1,e2⟩:=Run.pure h;grind
  | some v=>exact c.elim
 | some s =>
  cases b with
  | none=>exact c.elim
  | some v =>
   obtain ⟨⟨d,a'⟩,s1,i,h2⟩:=Run.bind h
   obtain ⟨es,z,hz,hv⟩:=zdb i c
   grind [Run.pure]
theorem zp3 {o vo}(h:isZero o=true) (a:zd5 X o vo):∃ b,vo=some (.int b 0):=by
 unfold isZero at h
 split at h
 ·cases vo with
  | none=>exact a.elim
  | some v=>grind [zd5,VRep]
 ·cases vo with
  | none=>exact a.elim
  | some v =>
   obtain ⟨d,c,e⟩:=(by simpa only [zd5,VRep] using a:∃ d,_∧_)
   rename_i T b
   simp [At.get] at c
   subst c
   cases T<;>simp [Ty.isAgg,DRep] at e<;>try grind
 grind
theorem At.nat {a:At}{b z}(h:0≤z) (ha:a.get X.E=some (.int b z)):a.get X.E=some (.int b (Int.ofNat z.toNat)):=by grind
theorem DVal.sub {w M e l v}(h:DVal w M (.sl e) (.sl l) v) {i j}(h1:i≤j) (h2:j≤l.length) :
  ∃ a b,v=.slice (some a) l.length b∧l.length≤b∧∀ m,j≤m→m≤b→DVal w M (.sl e) (.sl ((l.take j).drop i)) (.slice (if m=i then some a else some (a.add (i * e.size))) (j - i) (m - i)):=by
 obtain ⟨_,a,b,f,c,g,d,g4,g5⟩:=h
 injection c with c
 subst c
 refine ⟨a,b,rfl,g,fun m hm1 hm2=>?_⟩
 have hlen:((l.take j).drop i).length=j - i:=by grind
 refine ⟨zbr _ _ _,if m=i then a else a.add (i * e.size),m - i,(f.take (j * e.size)).drop (i * e.size),by grind,by omega,(d.take j).drop i,fun n u hn=>?_,fun hne=>?_⟩
 ·have hij:i<j:=by grind
  rw [if_neg (by omega),add_add]
  grind
 grind [add_block]
theorem zwn {a:Cx}{t E w i}(b:a.P.underlying t=some (.slice E)) (d:a.P.info? E=some i) {A n c}(h:n≤c) :
  (Instr.sliceAt t (.slice A n c) none none none).run a.P w=.ok (.slice A n c) w:=by
 rw [zfa b d (.inl ⟨rfl,rfl⟩) (.inl ⟨rfl,rfl⟩) (Nat.zero_le _) h]
 simp [add_zero]
theorem zwL {E w e b n A t a}(h:zlv E w e b n none (.slice A t a)) {k f g d i j m}
  (o:k.get E=some (.int g (Int.ofNat i))) (p:f.get E=some (.int d (Int.ofNat j))) (q:i≤j) (r:j≤n) (hm:n≤m) (hc:m≤a) :
  zlv E w e b n (some (k,f)) (.slice (if m=i then A else A.map (·.add (i * e.size))) (j - i) (m - i)):=by
 obtain ⟨cap',s,c,g2,u,g4⟩:=h
 injection c with c v l
 subst c v l
 refine ⟨if m=i then ⟨b,0,none⟩ else ⟨b,i * e.size,none⟩,m - i,s,g,d,i,j,o,p,q,r,?_,by omega,u,?_,fun h=>?_⟩
 ·grind [addr_add]
 ·have:=vK0 e.size (show i + (m - i)≤a by omega)
  omega
 grind
theorem zcV {f a o i e d}(h:Run (bound f o) X.μ e a d) (k:zd5 X o i) {kd nd}(n:f.get X.E=some (.int kd (Int.ofNat nd))) :
  d=e∧∃ b z,a.get X.E=some (.int b z)∧(0≤z→zpP i nd z.toNat∧a.get X.E=some (.int b (Int.ofNat z.toNat))):=by
 obtain ⟨l,m⟩:=zAW h k
 refine ⟨l,?_⟩
 rcases m with ⟨_,g,c⟩|⟨b,z,_,g,c⟩
 ·subst c
  exact ⟨kd,Int.ofNat nd,n,fun _=>⟨.inl ⟨g,by simp⟩,by grind⟩⟩
 ·exact ⟨b,z,c,fun j=>⟨.inr ⟨b,by grind⟩,At.nat j c⟩⟩
theorem zBH {a z}(h:0≤z):(D.int a z)=.int a (Int.ofNat z.toNat):=by grind
theorem ztB {t E e i}(G:cx.P.underlying t=some (.slice E)) (u:TyFact cx E e i) {a J K hi s0 o}(h:Run (zEJ e a K hi) X.μ s0 J o) (hs:Sat C k X.E o.bs o.nv)
  {vx vlo vhi d0} (ha:a.get X.E=some d0) (hx:DVal X.w X.M (.sl e) d0 vx) (hlo:zd5 X K vlo) (hhi:zd5 X hi vhi):zdm cx.P X (Instr.sliceAt t vx vlo vhi none) J s0 o:=by
 obtain ⟨al,s1,h1,h2⟩:=Run.bind h
 obtain ⟨an,s2,h3,h4⟩:=Run.bind h2
 obtain ⟨ah,s3,s,h6⟩:=Run.bind h4
 obtain ⟨av,s4,F,h8⟩:=Run.bind h6
 obtain ⟨f,n⟩:=Run.pure h8
 subst f n
 obtain ⟨g,kl,zl,H,I⟩:=zcV h1 hlo (kd:=.i64) (nd:=0) rfl
 subst g
 obtain ⟨⟨d1,dn,m,q,q3⟩,q4,q5⟩:=Run.op1 h3 (s.sat (F.sat hs))
 rw [ha] at m
 injection m with m
 subst m
 obtain ⟨⟨y1,y2,y3,y,p,c,b,d,w5⟩,w6,w7⟩:=Run.op3 F hs
 rw [ha] at p
 injection p with p
 subst p
 rcases hx.slice with ⟨f,n⟩|⟨l,a',cap,f,n⟩
 ·subst f n
  simp [Prim.run] at q
  subst q
  obtain ⟨g,kh,zh,v,w⟩:=zcV s hhi (kd:=.i64) (nd:=0) q3
  subst g
  rw [H] at c
  rw [v] at b
  injection c with c
  injection b with b
  subst c b
  simp only [Prim.run] at d
  split at d
  ·rename_i x
   obtain ⟨r,A⟩:=x
   subst r A
   injection d with d
   subst d
   obtain ⟨z,_⟩:=I (Int.le_refl 0)
   obtain ⟨B,_⟩:=w (Int.le_refl 0)
   refine ⟨by grind,by omega,_,zfa G u.info z B (wG0 _) (wG0 _),VRep.data.2 ⟨.nil,w5,?_⟩⟩
   grind
  grind
 ·subst f
  simp [Prim.run] at q
  subst q
  obtain ⟨g,kh,zh,v,w⟩:=zcV s hhi (kd:=.i64) (nd:=l.length) q3
  subst g
  rw [H] at c
  rw [v] at b
  injection c with c
  injection b with b
  subst c b
  simp only [Prim.run] at d
  split at d
  ·rename_i x
   obtain ⟨r,A,c3⟩:=x
   obtain ⟨z,_⟩:=I r
   obtain ⟨B,_⟩:=w (Int.le_trans r A)
   obtain ⟨a2,cap2,e3,e4,e5⟩:=hx.sub (i:=zl.toNat) (j:=zh.toNat) (by omega) (by omega)
   rw [e3]
   refine ⟨by grind,by omega,_,zfa G u.info z B (by omega) (by omega),VRep.data.2 ⟨_,w5,?_⟩⟩
   rw [u.size]
   grind
  grind
theorem zBj (hB:B0≤X.w.heap.size) (m:Mem B0 X) {t E e i}(hu:cx.P.underlying t=some (.slice E)) (F:TyFact cx E e i) {r Y lo hi B o}(h0:B.up=[])
  (h:Run (zIu e r lo hi) X.μ B Y o) (hs:Sat C k X.E o.bs o.nv)
  {vx vlo S} (hx:Ref X (.h e r none) vx) (hlo:zd5 X lo vlo) (U:zd5 X hi S):zdm cx.P X (Instr.sliceAt t vx vlo S none) Y B o:=by
 obtain ⟨a,s1,h1,h2⟩:=Run.bind h
 obtain ⟨x,s2,h3,h4⟩:=Run.bind h2
 obtain ⟨an,s3,h5,h6⟩:=Run.bind h4
 obtain ⟨ah,s4,K,h8⟩:=Run.bind h6
 obtain ⟨z,s5,Z,h10⟩:=Run.bind h8
 obtain ⟨w,n⟩:=Run.pure h10
 subst w n
 obtain ⟨g,hrow,hh⟩:=zrh hB m h0 h1 hx
 subst g
 obtain ⟨g,kl,zl,G,R⟩:=zcV h3 hlo (kd:=.i64) (nd:=0) rfl
 subst g
 obtain ⟨⟨H,dn,I,j,q3⟩,q4,q5⟩:=Run.op1 h5 (K.sat (Z.sat hs))
 obtain ⟨⟨y1,y2,y3,y,p,f,d,c,V⟩,w6,w7⟩:=Run.op3 Z hs
 rw [I] at p
 injection p with p
 subst p
 have W:∀ {q:Value},One q→((X.β r).main=none∧Empt H q∧zpT X.E (some (x,z))∨∃ b l,(X.β r).main=some b∧H=.sl l∧zlv X.E X.w e b l.length (some (x,z)) q)→VRep X (.h e r (some (x,z))) q:=fun ho u=>by
  exact ⟨ho,(by grind [Ref]),fun _=>⟨a,H,hrow,I,u⟩⟩
 rcases hh.val hrow I with ⟨J,s,_⟩|⟨b,l,J,p2,u⟩
 ·obtain ⟨A,n⟩:=s.val
  subst n
  rw [s.em.len] at j
  injection j with j
  subst j
  obtain ⟨g,kh,zh,L,M⟩:=zcV K U (kd:=.i64) (nd:=0) q3
  subst g
  rw [G] at f
  rw [L] at d
  injection f with f
  injection d with d
  subst f d
  simp only [Prim.run,s.em.els] at c
  split at c
  ·rename_i N
   obtain ⟨v,P,c3⟩:=N
   injection c with c
   subst c
   simp at c3
   have w:zl=0:=by omega
   have n:zh=0:=by omega
   subst w n
   obtain ⟨O,_⟩:=R (Int.le_refl 0)
   obtain ⟨Q,_⟩:=M (Int.le_refl 0)
   refine ⟨by grind,by omega,_,zfa hu F.info O Q (wG0 _) (wG0 _),?_⟩
   exact W (zbr _ _ _) (.inl ⟨J,s.re (by rfl),_,_,G,V⟩)
  grind
 ·subst p2
  simp [Prim.run] at j
  subst j
  obtain ⟨g,kh,zh,L,M⟩:=zcV K U (kd:=.i64) (nd:=l.length) q3
  subst g
  rw [G] at f
  rw [L] at d
  injection f with f
  injection d with d
  subst f d
  simp only [Prim.run,D.els] at c
  split at c
  ·rename_i N
   obtain ⟨v,P,c3⟩:=N
   injection c with c
   subst c
   obtain ⟨O,b1'⟩:=R v
   obtain ⟨Q,_⟩:=M (Int.le_trans v P)
   have hv':=u
   obtain ⟨cap,bs,p3,p4,p5,p6⟩:=u
   subst p3
   refine ⟨by grind,by omega,_,zfa hu F.info O Q (by omega) (by omega),?_⟩
   refine W (zbr _ _ _) (.inr ⟨b,l,J,rfl,?_⟩)
   rw [F.size]
   exact zwL hv' b1' (by rw [V];exact congrArg some (zBH (Int.le_trans v P))) (by omega) (by omega) p4 (wG0 _)
  grind
theorem zx3 {t}(B:cx.P.underlying t=some .string) {a r s u v i}(h:Run (zCt a s u) X.μ v r i) (w:Sat C k X.E i.bs i.nv)
  {b m n} (l:a.get X.E=some (.str b)) (hlo:zd5 X s m) (hhi:zd5 X u n):zdm cx.P X (Instr.sliceAt t (.string b) m n none) r v i:=by
 obtain ⟨al,s1,h1,h2⟩:=Run.bind h
 obtain ⟨an,s2,h3,h4⟩:=Run.bind h2
 obtain ⟨ah,s3,p,A⟩:=Run.bind h4
 obtain ⟨av,s4,q,F⟩:=Run.bind A
 obtain ⟨G,H⟩:=Run.pure F
 subst G H
 obtain ⟨j,kl,zl,gl,gl'⟩:=zcV h1 hlo (kd:=.i64) (nd:=0) rfl
 subst j
 obtain ⟨⟨d1,dn,g,o,q3⟩,q4,q5⟩:=Run.op1 h3 (p.sat (q.sat w))
 rw [l] at g
 injection g with g
 subst g
 simp [Prim.run] at o
 subst o
 obtain ⟨j,kh,zh,gh,gh'⟩:=zcV p hhi (kd:=.i64) (nd:=b.size) q3
 subst j
 obtain ⟨⟨y1,y2,y3,y,d,f,e,c,w5⟩,w6,w7⟩:=Run.op3 q w
 rw [l] at d
 rw [gl] at f
 rw [gh] at e
 injection d with d
 injection f with f
 injection e with e
 subst d f e
 simp only [Prim.run] at c
 split at c
 ·rename_i hc
  obtain ⟨x,c2,c3⟩:=hc
  injection c with c
  subst c
  obtain ⟨b1,_⟩:=gl' x
  obtain ⟨z,_⟩:=gh' (Int.le_trans x c2)
  exact ⟨by grind,by omega,_,zAn B b1 z (by omega) (by omega),VRep.data.2 ⟨_,w5,DVal.of_str _⟩⟩
 grind
end
end Go.SX
namespace Go.SX
open Go.RowKit (Below)
section
variable {C:FuncId→List D→Option (List D)} {k B0:Nat} {X:Ctx} {cx:Cx}
theorem zBc {E w e b n A B a m r}(h:zlv E w e b n (some (m,r)) (.slice A B a)) {d q}(z:m.get E=some (.int q (Int.ofNat d)))
  {f k l g i j} (s:f.get E=some (.int l (Int.ofNat (d + i)))) (t:k.get E=some (.int g (Int.ofNat (d + j)))) (u:i≤j) (v:d + j≤n) :
  i≤j∧j≤a∧zlv E w e b n (some (f,k)) (.slice (if a=i then A else A.map (·.add (i * e.size))) (j - i) (a - i)):=by
 obtain ⟨o,cap',y,c1,c2,i',j',c,g2,g3,g4,p,g6,x,g8,g9⟩:=h
 rw [z] at c
 injection c with c
 injection c with _ c
 have  := Int.ofNat.inj c
 injection p with p g51 g52
 refine ⟨u,by omega,if a=i then o else o.add (i * e.size),a - i,y,l,g,d + i,d + j,s,t,by omega,v,?_,by omega,x,?_,fun h=>?_⟩
 all_goals grind [addr_add]
theorem zyT (hB:B0≤X.w.heap.size) (m:Mem B0 X) {t E e i}(hu:cx.P.underlying t=some (.slice E)) (H:TyFact cx E e i) {r lo0 hi0 sv lo hi I w}(h0:I.up=[])
  (h:Run (zF9 e r lo0 hi0 lo hi) X.μ I sv w) (J:Sat C k X.E w.bs w.nv)
  {vx vlo vhi} (hx:Ref X (.h e r (some (lo0,hi0))) vx) (hlo:zd5 X lo vlo) (hhi:zd5 X hi vhi):zdm cx.P X (Instr.sliceAt t vx vlo vhi none) sv I w:=by
 obtain ⟨a,s1,h1,h2⟩:=Run.bind h
 obtain ⟨al,s2,h3,h4⟩:=Run.bind h2
 obtain ⟨an,s3,h5,h6⟩:=Run.bind h4
 obtain ⟨ah,s4,G,h8⟩:=Run.bind h6
 obtain ⟨s,s5,h9,h10⟩:=Run.bind h8
 obtain ⟨u,s6,N,h12⟩:=Run.bind h10
 obtain ⟨O,p⟩:=Run.pure h12
 subst O p
 obtain ⟨o,hrow,hh⟩:=zrh hB m h0 h1 hx
 subst o
 obtain ⟨o,kl,zl,gl,gl'⟩:=zcV h3 hlo (kd:=.i64) (nd:=0) rfl
 subst o
 obtain ⟨⟨d1,d2,dn,c,g,L,q4⟩,q5,q6⟩:=Run.op2 h5 (G.sat (h9.sat (N.sat J)))
 obtain ⟨⟨M,y2,y3,y4,y,w1,v,f,d,n,w6⟩,w7,w8⟩:=Run.op4 h9 (N.sat J)
 obtain ⟨⟨z1,z2,z,q,j,K,u4⟩,u5,u6⟩:=Run.op2 N J
 rw [c] at v
 injection v with v
 subst v
 rw [c] at q
 injection q with q
 subst q
 have fin:∀ {x:Value},One x→((X.β r).main=none∧Empt M x∧zpT X.E (some (u,s))∨∃ b l,(X.β r).main=some b∧M=.sl l∧zlv X.E X.w e b l.length (some (u,s)) x)→VRep X (.h e r (some (u,s))) x:=fun ho B=>by
  exact ⟨ho,(by grind [Ref]),fun _=>⟨a,M,hrow,w1,B⟩⟩
 rcases hh.val hrow w1 with ⟨P,Q,k1,k2,x1,x2⟩|⟨b,l,P,p2,B⟩
 ·obtain ⟨A,p⟩:=Q.val
  subst p
  rw [x1] at c
  rw [x2] at g
  injection c with c
  injection g with g
  subst c g
  simp [Prim.run] at L
  subst L
  obtain ⟨o,kh,R,S,U⟩:=zcV G hhi (kd:=.i64) (nd:=0) q4
  subst o
  rw [gl] at f j
  rw [S] at d
  injection f with f
  injection d with d
  injection j with j
  subst f d j
  simp only [Prim.run,Q.em.els] at n
  split at n
  ·rename_i V
   obtain ⟨c1,W,c3,Y⟩:=V
   injection n with n
   subst n
   simp at Y
   have O:zl=0:=by omega
   have p:R=0:=by omega
   subst O p
   simp [Prim.run] at K
   subst K
   obtain ⟨Z,_⟩:=gl' (Int.le_refl 0)
   obtain ⟨b2,_⟩:=U (Int.le_refl 0)
   refine ⟨by grind,by omega,_,zfa hu H.info Z b2 (wG0 _) (wG0 _),?_⟩
   exact fin (zbr _ _ _) (.inl ⟨P,Q.re (by rfl),_,_,u4,w6⟩)
  grind
 ·subst p2
  have hv':=B
  obtain ⟨ad,cap,bs,k1,k2,F,j',p3,p4,p5,p6,p7,p8,p9,p10,p11⟩:=B
  rw [p3] at c
  rw [p4] at g
  injection c with c
  injection g with g
  subst c g
  simp [Prim.run] at L
  have e3:dn=.int .i64 (Int.ofNat (j' - F)):=by grind
  subst e3
  obtain ⟨o,kh,R,S,U⟩:=zcV G hhi (kd:=.i64) (nd:=j' - F) q4
  subst o
  rw [gl] at f j
  rw [S] at d
  injection f with f
  injection d with d
  injection j with j
  subst f d j
  simp only [Prim.run,D.els] at n
  split at n
  ·rename_i V
   obtain ⟨c1,W,c3,Y⟩:=V
   simp [Prim.run] at K
   obtain ⟨Z,b1'⟩:=gl' W
   obtain ⟨b2,b2'⟩:=U (Int.le_trans W c3)
   subst p7
   simp  at Y
   have g1:u.get X.E=some (.int .i64 (Int.ofNat (F + zl.toNat))):=by grind
   have g2:s.get X.E=some (.int .i64 (Int.ofNat (F + R.toNat))):=by grind
   obtain ⟨f1,f2,f3⟩:=zBc hv' p3 g1 g2 (by omega) (by omega)
   refine ⟨by grind,by omega,_,zfa hu H.info Z b2 f1 f2,?_⟩
   refine fin (zbr _ _ _) (.inr ⟨b,l,P,rfl,?_⟩)
   rw [H.size]
   omega
  grind
theorem zio {s v a b q}(h:Run (zj9 s) X.μ a q b) (hv:VRep X s v):b=a∧∃ z,q.2.get X.E=some (.int q.1 z)∧v=.int q.1 z:=by grind [zdb]
theorem zy6 (hB:B0≤X.w.heap.size) (m:Mem B0 X) {t E e i}(P:cx.P.underlying t=some (.slice E)) (tf:TyFact cx E e i) {r sv hi mx u q}(h0:u.up=[])
  (h:Run (zFp e r hi mx) X.μ u sv q) (J:Sat C k X.E q.bs q.nv)
  {K L M} (hx:Ref X (.h e r none) K) (hhi:VRep X hi L) (hmx:VRep X mx M):zdm cx.P X (Instr.sliceAt t K none (some L) (some M)) sv u q:=by
 obtain ⟨a,s1,h1,h2⟩:=Run.bind h
 obtain ⟨⟨kh,ah⟩,s2,h3,h4⟩:=Run.bind h2
 obtain ⟨ar,s3,h5,h6⟩:=Run.bind h4
 obtain ⟨⟨km,am⟩,s4,h7,h8⟩:=Run.bind h6
 obtain ⟨ae,s5,N,h10⟩:=Run.bind h8
 obtain ⟨B,v⟩:=Run.pure h10
 subst B v
 obtain ⟨j,O,hh⟩:=zrh hB m h0 h1 hx
 subst j
 obtain ⟨j,zh,gh,x⟩:=zio h3 hhi
 subst j x
 obtain ⟨j,g,gm,x⟩:=zio h7 hmx
 subst j x
 obtain ⟨⟨y1,y2,y3,y,Q,R,o,f,w5⟩,w6,w7⟩:=Run.op3 h5 (N.sat J)
 obtain ⟨⟨z1,z2,z,p,s,d,u4⟩,u5,u6⟩:=Run.op2 N J
 have w2':y2=.int .i64 0:=by injection R with R;grind
 subst w2'
 rw [gh] at o
 rw [gm] at p
 injection o with o
 injection p with p
 subst o p
 rw [w5] at s
 injection s with s
 subst s
 rcases hh.val O Q with ⟨p1,he,_⟩|⟨b,l,p1,p2,cap,bs,p3,p4,p5,p6⟩
 ·obtain ⟨A,v⟩:=he.val
  subst v
  simp only [Prim.run,he.em.els] at f
  split at f
  ·rename_i F
   obtain ⟨_,c2,c3⟩:=F
   injection f with f
   subst f
   simp at c3
   have B:zh=0:=by omega
   subst B
   simp only [Prim.run] at d
   split at d
   ·rename_i G
    injection d with d
    subst d G
    refine ⟨by grind,by omega,_,zfq (l:=0) (h:=0) (m:=0) P tf.info (.inl ⟨rfl,rfl⟩) rfl (wG0 _) (wG0 _) (wG0 _),?_⟩
    grind [VRep,Ref]
   grind
  grind
 ·subst p2 p3
  simp only [Prim.run,D.els] at f
  split at f
  ·rename_i F
   obtain ⟨_,c2,c3⟩:=F
   injection f with f
   subst f
   simp only [Prim.run] at d
   split at d
   ·rename_i G
    injection d with d
    subst d G
    have hzn:g=((g.toNat:Nat):Int):=by omega
    have H:=zfq (w:=X.w) (A:=some ⟨b,0,none⟩) (n:=l.length) (c:=cap) (l:=0) (h:=g.toNat) (m:=g.toNat) (k2:=kh) (k3:=km) P tf.info (.inl ⟨rfl,rfl⟩) rfl (Nat.zero_le _) (wG0 _) (by omega)
    rw [← hzn] at H
    refine ⟨by grind,by omega,_,H,?_⟩
    refine ⟨zbr _ _ _,(by grind [Ref]),fun _=>⟨a,.sl l,O,Q,.inr ⟨b,l,_,g.toNat,bs,p1,rfl,by rw [u4];exact congrArg some (zBH c2),by omega,?_,p5,?_⟩⟩⟩
    ·simp [add_zero]
    ·have:=vK0 e.size (show g.toNat≤cap by omega)
     omega
   grind
  grind
theorem zzU (hB:B0≤X.w.heap.size) (m:Mem B0 X) {t E e i}(W:cx.P.underlying t=some (.slice E)) (G:TyFact cx E e i) {r lo sv Q R z s}(h0:z.up=[])
  (h:Run (zGy e r lo Q R) X.μ z sv s) (hs:Sat C k X.E s.bs s.nv)
  {Y Z vmx vlo} (hx:Ref X (.h e r none) Y) (hlo:zd5 X lo vlo) (hhi:VRep X Q Z) (hmx:VRep X R vmx):zdm cx.P X (Instr.sliceAt t Y vlo (some Z) (some vmx)) sv z s:=by
 obtain ⟨a,s1,h1,h2⟩:=Run.bind h
 obtain ⟨H,s2,h3,h4⟩:=Run.bind h2
 obtain ⟨⟨kh,ah⟩,s3,h5,h6⟩:=Run.bind h4
 obtain ⟨⟨km,am⟩,s4,h7,h8⟩:=Run.bind h6
 obtain ⟨I,s5,h9,h10⟩:=Run.bind h8
 obtain ⟨v,g⟩:=Run.pure h10
 subst v g
 obtain ⟨f,hrow,hh⟩:=zrh hB m h0 h1 hx
 subst f
 obtain ⟨f,kl,zl,P,gl'⟩:=zcV h3 hlo (kd:=.i64) (nd:=0) rfl
 subst f
 obtain ⟨f,B,gh,F⟩:=zio h5 hhi
 subst f F
 obtain ⟨f,S,gm,F⟩:=zio h7 hmx
 subst f F
 obtain ⟨⟨x,y2,y3,y4,y,V,j,q,o,d,w6⟩,w7,w8⟩:=Run.op4 h9 hs
 rw [P] at j
 rw [gh] at q
 rw [gm] at o
 injection j with j
 injection q with q
 injection o with o
 subst j q o
 have fin:∀ {p:Value},One p→((X.β r).main=none∧Empt x p∧zpT X.E (some (H,I))∨∃ b l,(X.β r).main=some b∧x=.sl l∧zlv X.E X.w e b l.length (some (H,I)) p)→VRep X (.h e r (some (H,I))) p:=fun ho u=>by
  exact ⟨ho,(by grind [Ref]),fun _=>⟨a,x,hrow,V,u⟩⟩
 rcases hh.val hrow V with ⟨K,L,_⟩|⟨b,l,K,p2,u⟩
 ·obtain ⟨A,g⟩:=L.val
  subst g
  simp only [Prim.run,L.em.els] at d
  split at d
  ·rename_i J
   obtain ⟨N,c2,c3,M⟩:=J
   injection d with d
   subst d
   simp at M
   have v:zl=0:=by omega
   have g:B=0:=by omega
   subst v g M
   obtain ⟨O,_⟩:=gl' (Int.le_refl 0)
   refine ⟨w7,w8,_,zfq (l:=0) (h:=0) (m:=0) W G.info O rfl (wG0 _) (wG0 _) (wG0 _),?_⟩
   exact fin (zbr _ _ _) (.inl ⟨K,L.re (by rfl),_,_,P,w6⟩)
  grind
 ·subst p2
  have hv':=u
  obtain ⟨cap,bs,p3,p4,p5,p6⟩:=u
  subst p3
  simp only [Prim.run,D.els] at d
  split at d
  ·rename_i J
   obtain ⟨N,c2,c3,M⟩:=J
   injection d with d
   subst d
   obtain ⟨O,b1'⟩:=gl' N
   have U:=zfq (w:=X.w) (A:=some ⟨b,0,none⟩) (n:=l.length) (c:=cap) (l:=zl.toNat) (h:=B.toNat) (m:=S.toNat) (k2:=kh) (k3:=km) W G.info O rfl (by omega) (by omega) (by omega)
   rw [vR0 (show 0≤B by omega),vR0 (show 0≤S by omega)] at U
   refine ⟨w7,w8,_,U,?_⟩
   refine fin (zbr _ _ _) (.inr ⟨b,l,K,rfl,?_⟩)
   rw [G.size]
   exact zwL hv' b1' (by rw [w6];exact congrArg some (zBH (Int.le_trans N c2))) (by omega) (by omega) (by omega) (by omega)
  grind
theorem zzZ {t E e i}(Q:cx.P.underlying t=some (.slice E)) (H:TyFact cx E e i) {a lo sv hi N s0 r}
  (h:Run (zEm e a lo hi N) X.μ s0 sv r) (hs:Sat C k X.E r.bs r.nv)
  {vx vhi vmx vlo d0} (ha:a.get X.E=some d0) (O:DVal X.w X.M (.sl e) d0 vx) (hlo:zd5 X lo vlo) (hhi:VRep X hi vhi) (hmx:VRep X N vmx):zdm cx.P X (Instr.sliceAt t vx vlo (some vhi) (some vmx)) sv s0 r:=by
 obtain ⟨al,s2,h3,h4⟩:=Run.bind h
 obtain ⟨⟨kh,ah⟩,s3,h5,h6⟩:=Run.bind h4
 obtain ⟨⟨km,am⟩,s4,h7,h8⟩:=Run.bind h6
 obtain ⟨ar,s5,h9,h10⟩:=Run.bind h8
 obtain ⟨av,s6,P,h12⟩:=Run.bind h10
 obtain ⟨d,f⟩:=Run.pure h12
 subst d f
 obtain ⟨g,kl,J,gl,gl'⟩:=zcV h3 hlo (kd:=.i64) (nd:=0) rfl
 subst g
 obtain ⟨g,q,gh,o⟩:=zio h5 hhi
 subst g o
 obtain ⟨g,zm,gm,o⟩:=zio h7 hmx
 subst g o
 obtain ⟨⟨y1,y2,y3,y4,y,p,x,u,v,b,w6⟩,w7,w8⟩:=Run.op4 h9 (P.sat hs)
 obtain ⟨⟨z1,z2,z3,z,s,F,B,G,u5⟩,u6,u7⟩:=Run.op3 P hs
 rw [ha] at p s
 rw [gl] at x F
 rw [gh] at u
 rw [gm] at v
 rw [w6] at B
 injection p with p
 injection x with x
 injection u with u
 injection v with v
 injection s with s
 injection F with F
 injection B with B
 subst p x u v s F B
 rcases O.slice with ⟨d,f⟩|⟨l,a',cap,d,f⟩
 ·subst d f
  simp only [Prim.run,D.els] at b
  split at b
  ·rename_i I
   obtain ⟨c1,c2,c3,K⟩:=I
   injection b with b
   subst b
   simp at K
   have d:J=0:=by omega
   have f:q=0:=by omega
   subst d f K
   obtain ⟨L,_⟩:=gl' (Int.le_refl 0)
   simp [Prim.run] at G
   subst G
   refine ⟨by grind,by omega,_,zfq (l:=0) (h:=0) (m:=0) Q H.info L rfl (wG0 _) (wG0 _) (wG0 _),VRep.data.2 ⟨.nil,u5,?_⟩⟩
   grind
  grind
 ·subst d
  simp only [Prim.run,D.els] at b
  split at b
  ·rename_i I
   obtain ⟨c1,c2,c3,K⟩:=I
   injection b with b
   subst b
   obtain ⟨L,b1'⟩:=gl' c1
   simp only [Prim.run] at G
   split at G
   ·obtain ⟨a2,cap2,o,e4,e5⟩:=O.sub (i:=J.toNat) (j:=q.toNat) (by omega) (by omega)
    rw [o]
    have M:=zfq (w:=X.w) (A:=some a2) (n:=l.length) (c:=cap2) (l:=J.toNat) (h:=q.toNat) (m:=zm.toNat) (k2:=kh) (k3:=km) Q H.info L rfl (by omega) (by omega) (by omega)
    rw [vR0 (show 0≤q by omega),vR0 (show 0≤zm by omega)] at M
    refine ⟨by grind,by omega,_,M,VRep.data.2 ⟨_,u5,?_⟩⟩
    rw [H.size]
    grind
   omega
  grind
theorem zqn {o a}(h:o.isNone=true) (b:zd5 X o a):a=none:=by
 cases o with
 | none=>cases a with
  | none=>rfl
  | some _=>exact b.elim
 | some _=>grind
theorem zvR (G:TysOk cx) (Y:B0≤X.w.heap.size) (m:Mem B0 X) {t x sv lo hi mx s0 Q}(W:s0.up=[]) (h:Run (zta cx t x lo hi mx) X.μ s0 sv Q) (L:Sat C k X.E Q.bs Q.nv)
  {vx vlo V Z} (hx:VRep X x vx) (H:zd5 X lo vlo) (F:zd5 X hi V) (K:zd5 X mx Z):zdm cx.P X (Instr.sliceAt t vx vlo V Z) sv s0 Q:=by
 unfold zta at h
 have j:=zch hx
 split at h
 ·rename_i ms hs'
  cases Z with
  | none=>exact K.elim
  | some vm =>
  cases V with
  | none=>exact F.elim
  | some vh =>
   split at h
   ·rename_i S
    simp  at S
    obtain ⟨k1,g⟩:=zp3 S.1.1 H
    obtain ⟨k2,f⟩:=zp3 (vo:=some vh) S.1.2 F
    obtain ⟨k3,O⟩:=zp3 (vo:=some vm) S.2 K
    injection f with f
    injection O with O
    subst g f O
    split at h
    ·rename_i e q
     obtain ⟨E,i,s,p⟩:=zbC G q
     obtain ⟨a,M,B,u⟩:=Run.bind h
     obtain ⟨g,f⟩:=Run.pure u
     subst g f
     obtain ⟨u1,u2,d,I,y⟩:=zna Y m W B L hx
     refine ⟨by grind,u2,?_⟩
     have hr:=fun (A:Option Addr) (n c:Nat)=>zfq (w:=X.w) s p.info (A:=A) (n:=n) (c:=c) (l:=0) (h:=0) (m:=0) (k3:=k3) (k2:=k2) (lo:=some (.int k1 0)) (hi':=some (.int k2 0)) (.inr ⟨k1,rfl⟩) rfl (wG0 _) (wG0 _) (Nat.zero_le _)
     rcases y.slice with ⟨g,f⟩|⟨l,U,cap,g,f⟩
     ·subst g f
      refine ⟨.slice none 0 0,hr none 0 0,?_⟩
      exact ⟨.nil,[],none,I,rfl,rfl,by simp⟩
     ·subst g f
      refine ⟨.slice (some U) 0 0,hr (some U) l.length cap,?_⟩
      exact ⟨.sl l,l,some U,I,rfl,rfl,by simp⟩
    grind [Run.fail]
   ·split at h
    ·rename_i e e' r q v
     rw [v] at j
     obtain ⟨E,i,s,p⟩:=zbC G q
     obtain ⟨_,M,B,u⟩:=Run.bind h
     obtain ⟨z,J⟩:=Run.guard B
     subst J
     have N:=Ty.beq_eq z
     subst N
     split at u
     ·rename_i hln
      have:=zqn hln H
      subst this
      exact zy6 Y m s p W u L j F K
     ·exact zzU Y m s p W u L j H F K
    ·rename_i e T a q v
     rw [v] at j
     obtain ⟨E,i,s,p⟩:=zbC G q
     obtain ⟨_,M,B,u⟩:=Run.bind h
     obtain ⟨z,J⟩:=Run.guard B
     subst J
     have N:=Ty.beq_eq z
     subst N
     obtain ⟨d0,I,y⟩:=VRep.data.1 j
     exact zzZ s p u L I y H F K
    grind [Run.fail]
 ·grind [Run.fail]
 ·have hvm:=zqn (o:=none) rfl K
  subst hvm
  split at h
  ·rename_i e T a q v
   rw [v] at j
   obtain ⟨E,i,s,p⟩:=zbC G q
   obtain ⟨_,M,B,u⟩:=Run.bind h
   obtain ⟨z,J⟩:=Run.guard B
   subst J
   have N:=Ty.beq_eq z
   subst N
   obtain ⟨d0,I,y⟩:=VRep.data.1 j
   split at u
   ·rename_i hn
    simp only [wD0] at hn
    have g:=zqn hn.1 H
    have f:=zqn hn.2 F
    subst g f
    obtain ⟨g,f⟩:=Run.pure u
    subst g f
    refine ⟨rfl,rfl,vx,?_,j⟩
    obtain ⟨_,y⟩:=y
    cases d0<;>simp only [DRep] at y
    ·obtain ⟨U,cap,xs,P,g2,_⟩:=y
     injection P with P
     subst P
     exact zwn s p.info g2
    ·injection y with y
     subst y
     exact zwn s p.info (wG0 _)
   grind [ztB]
  ·rename_i e e' r vw q v
   rw [v] at j
   simp only [VRep] at j
   obtain ⟨E,i,s,p⟩:=zbC G q
   obtain ⟨_,M,B,u⟩:=Run.bind h
   grind [Run.guard,Ty.beq_eq,Run.fail,zBj,zyT]
  ·rename_i e q v
   rw [v] at j
   subst j
   obtain ⟨E,i,s,p⟩:=zbC G q
   exact ztB s p h L (d0:=.nil) rfl (by simp [DVal,Ty.isAgg,DRep,zbr]) H F
  ·rename_i a q v
   rw [v] at j
   obtain ⟨i,p⟩:=G.get q (by simp)
   obtain ⟨d0,I,y⟩:=VRep.data.1 j
   obtain ⟨b,g,f⟩:=y.str
   subst g f
   exact zx3 p.desc h L I H F
  ·rename_i n e R T r q v
   rw [v] at j
   obtain ⟨E,i,s,p⟩:=zo9 G q
   obtain ⟨_,M,B,u⟩:=Run.bind h
   obtain ⟨z,J⟩:=Run.guard B
   subst J
   simp only [wD0] at z
   have g:=Ty.beq_eq z.1.1.1
   have f:=Ty.beq_eq z.1.1.2
   have O:=zqn z.1.2 H
   have e4:=zqn z.2 F
   subst g f O e4
   obtain ⟨g,f⟩:=Run.pure u
   subst g f
   obtain ⟨hA,b,off,P,g2,g3,_⟩:=j
   simp [tOff] at g3
   subst P g3
   refine ⟨rfl,rfl,_,zzm s p.info,?_⟩
   grind [VRep,Ref]
  grind [Run.fail]
end
end Go.SX
namespace Go.SX
open Go.RowKit (Below)
mutual
theorem DRep.ones {w:World}{M:Nat→Prop}:∀ {T:Ty}{d:D}{f:List Value},DRep w M T d f→∀ v∈f,One v
 | T,.int k n,f,h=>by cases T<;>simp only [DRep] at h;intro v c;rw [h.2] at c;simp at c;subst c;exact ⟨by simp,by simp⟩
 | T,.bool b,f,h=>by cases T<;>simp only [DRep] at h;intro v c;rw [h] at c;simp at c;subst c;exact ⟨by simp,by simp⟩
 | T,.str s,f,h=>by cases T<;>simp only [DRep] at h;intro v c;rw [h] at c;simp at c;subst c;exact ⟨by simp,by simp⟩
 | T,.nil,f,h=>by cases T<;>simp only [DRep] at h;intro v c;rw [h] at c;simp at c;subst c;exact ⟨by simp,by simp⟩
 | T,.agg g,f,h=>by
  cases T<;>simp only [DRep] at h
  ·exact DRepL.ones h
  ·exact DRepA.ones h.2
 | T,.sl g,f,h=>by
  cases T<;>simp only [DRep] at h
  obtain ⟨a,cap,xs,i,_⟩:=h
  intro v c
  rw [i] at c
  simp at c
  subst c
  exact ⟨by simp,by simp⟩
theorem DRepL.ones {w:World}{M:Nat→Prop}:∀ {l:List Ty}{g:List D}{f:List Value},DRepL w M l g f→∀ v∈f,One v
 | [],[],f,h=>by grind [DRepL]
 | T::l,d::g,f,h=>by
  obtain ⟨o,p,e,i,j⟩:=h
  subst e
  intro v c
  rcases List.mem_append.1 c with c|c
  ·exact DRep.ones i v c
  ·exact DRepL.ones j v c
 | [],_::_,_,h=>by grind [DRepL]
 | _::_,[],_,h=>by grind [DRepL]
theorem DRepA.ones {w:World}{M:Nat→Prop}:∀ {e:Ty}{g:List D}{f:List Value},DRepA w M e g f→∀ v∈f,One v
 | e,[],f,h=>by grind [DRepA]
 | e,d::g,f,h=>by
  obtain ⟨o,p,m,i,j⟩:=h
  subst m
  intro v c
  rcases List.mem_append.1 c with c|c
  ·exact DRep.ones i v c
  ·exact DRepA.ones j v c
end
section
variable {X:Ctx}
theorem Ref.one {s v}(h:Ref X s v):One v:=by
 cases s<;>simp only [Ref] at h
 ·grind
 ·grind [zbr]
 ·grind [zB0]
 ·grind [zB0]
 ·grind [zbr]
 ·grind
 ·grind
 ·grind
 ·obtain ⟨_,b,h,_⟩:=h;subst h;exact ⟨fun l=>(by simp),fun l=>(by simp)⟩
mutual
theorem CRep.ones:∀ {s:SV}{c:List Value},CRep X s c→∀ v∈c,One v
 | .un n,c,h=>by grind [CRep]
 | .cv v,c,h=>by grind [CRep]
 | .d T a,c,h=>by obtain ⟨d,_,h⟩:=h;exact h.ones
 | .ag T l,c,h=>by
  cases T<;>simp only [CRep] at h
  exact CRepL.ones h
 | .fn f a l,c,h=>by obtain ⟨us,vs,h,_⟩:=h;intro u b;rw [h] at b;simp at b;subst b;exact ⟨by simp,by simp⟩
 | .tu _,c,h=>by grind [CRep]
 | .h _ _ _,c,h=>by obtain ⟨v,h,g⟩:=h;intro u b;rw [h] at b;simp at b;subst b;exact g.one
 | .hc _ _ _,c,h=>by obtain ⟨v,h,g⟩:=h;intro u b;rw [h] at b;simp at b;subst b;exact g.one
 | .mr _ _ _,c,h=>by obtain ⟨v,h,g⟩:=h;intro u b;rw [h] at b;simp at b;subst b;exact g.one
 | .z _ _,c,h=>by obtain ⟨v,h,g⟩:=h;intro u b;rw [h] at b;simp at b;subst b;exact g.one
 | .hb _ _ _ _ _,c,h=>by obtain ⟨v,h,g⟩:=h;intro u b;rw [h] at b;simp at b;subst b;exact g.one
 | .hr _ _ _ _,c,h=>by obtain ⟨v,h,g⟩:=h;intro u b;rw [h] at b;simp at b;subst b;exact g.one
 | .p _ _ _ _,c,h=>by obtain ⟨v,h,g⟩:=h;intro u b;rw [h] at b;simp at b;subst b;exact g.one
 | .pm _ _ _ _ _ _,c,h=>by obtain ⟨v,h,g⟩:=h;intro u b;rw [h] at b;simp at b;subst b;exact g.one
 | .pd _ _,c,h=>by obtain ⟨v,h,g⟩:=h;intro u b;rw [h] at b;simp at b;subst b;exact g.one
theorem CRepL.ones:∀ {l:List SV}{j:List Ty}{c:List Value},CRepL X l j c→∀ v∈c,One v
 | [],[],c,h=>by grind [CRepL]
 | s::l,T::j,c,h=>by
  obtain ⟨c1,c2,e,ht,k,m⟩:=h
  subst e
  intro v i
  rcases List.mem_append.1 i with i|i
  ·exact CRep.ones k v i
  ·exact CRepL.ones m v i
 | [],_::_,_,h=>by grind [CRepL]
 | _::_,[],_,h=>by grind [CRepL]
end
theorem DVal.cells {w M T d v}(h:DVal w M T d v):DRep w M T d v.cells.toList:=by
 unfold DVal at h
 split at h
 ·obtain ⟨cs,e,h⟩:=h;subst e;exact h
 ·rw [h.1.cells];grind
theorem Run.ite {g c a b d e f}{x:g}(h:Run (if c=true then a else b) d e x f):(c=true∧Run a d e x f)∨(c=false∧Run b d e x f):=by grind
theorem zhd {T s g p n j v}(h:Run (SV.typed T s) p n g j) (a:VRep X s v) :
  j=n∧g.hasTy T∧VRep X g v∧CRep X g v.cells.toList:=by
 unfold SV.typed at h
 split at h
 ·subst a
  split at h
  ·rename_i x o
   obtain ⟨c,b⟩:=Run.pure h
   subst c b
   have k:=zi1 (w:=X.w) (M:=X.M) o
   refine ⟨rfl,rfl,VRep.data.2 ⟨x,rfl,k⟩,?_⟩
   exact ⟨x,rfl,k.cells⟩
  ·rcases Run.ite h with ⟨f,h⟩|⟨_,h⟩
   rotate_left
   ·grind [Run.fail]
   ·obtain ⟨c,b⟩:=Run.pure h
    subst c b
    simp  at f
    have m:One v:=by
     cases v<;>first|exact absurd f.2 Bool.false_ne_true|exact ⟨by simp,by simp⟩
    refine ⟨rfl,(Ty.beq_eq f.1.1),by rfl,?_⟩
    exact ⟨by rw [m.cells],m⟩
 ·split at h
  ·rename_i f
   have i:=Ty.beq_eq f
   subst i
   obtain ⟨c,b⟩:=Run.pure h
   subst c b
   obtain ⟨d,q,r⟩:=VRep.data.1 a
   refine ⟨rfl,rfl,a,?_⟩
   exact ⟨d,q,r.cells⟩
  grind [Run.fail]
 ·rename_i t l
  split at h
  ·rename_i f
   have i:=Ty.beq_eq f
   subst i
   obtain ⟨c,b⟩:=Run.pure h
   subst c b
   refine ⟨rfl,rfl,a,?_⟩
   cases t<;>simp only [VRep] at a
   obtain ⟨cs,e,a⟩:=a
   subst e
   exact a
  grind [Run.fail]
 all_goals first
  | (split at h
     ·rename_i f
      obtain ⟨c,b⟩:=Run.pure h
      subst c b
      simp only [VRep] at a
      refine ⟨rfl,(Ty.beq_eq f),by grind [VRep],?_⟩
      first
       | exact ⟨v,(fun h=>by rw [h.one.cells]) a,a⟩
       | (obtain ⟨y,z,e,A,u⟩:=a;subst e;exact ⟨y,z,rfl,A,u⟩)
     grind [Run.fail])
  | grind [Run.fail]
end
theorem zfi {w b n}(h:bsize w b=some n):b<w.heap.size:=by grind [bsize]
def Ctx.grown (X:Ctx) (w':World) (r:Nat) (R:Root) (p:Pl):Ctx:={ E:=X.E,w:=w',μ:=upd X.μ r R,β:=upd X.β r p,A:=fun q=>X.A q∨q=r,F:=X.F }
theorem Mem.grow {f X}(m:Mem f X) (k:f≤X.w.heap.size) {r}(o:¬ X.A r) {c}(g:Below X.w.heap.size X.w c) {R p}
  (hown:∀ b,b∈R.own p→X.w.heap.size≤b) (hnd:(R.own p).Nodup) (hrep:Ext X (X.grown c r R p)→RootRep (X.grown c r R p) r R):Ext X (X.grown c r R p)∧Mem f (X.grown c r R p):=by
 have j:∀ q,X.A q→q≠r:=fun q a e=>o (e▸a)
 refine Mem.change m k (fun q=>q=r) (fun _ _ h=>h) (fun _ h=>.inl h) (fun q h=>h) (fun q a=>⟨upd_ne _ _ a,upd_ne _ _ a⟩) (fun b l _=>g.block b l) (fun b n i=>?_) ?_ ?_ ?_ (fun q a d=>absurd a (j q d)) (fun q a d=>absurd a (j q d)) ?_
 ·exact (zcd (g.block b (zfi i))).trans i
 all_goals simp_all [Ctx.grown,upd_same]
theorem Mem.newBox {a X}(m:Mem a X) (f:a≤X.w.heap.size) {r}(c:¬ X.A r) {T s}{v:Value}(d:s.hasTy T) (e:CRep X s v.cells.toList) (b) :
  Ext X (X.grown (X.w.alloc (.cells v.cells b)) r (.box T s) ⟨some X.w.heap.size,[]⟩)∧Mem a (X.grown (X.w.alloc (.cells v.cells b)) r (.box T s) ⟨some X.w.heap.size,[]⟩):=by
 refine m.grow f c ((Below.refl _ _).alloc (wG0 _) _) ?_ ?_ ?_
 ·simp [Root.own]
 ·simp [Root.own]
 ·intro x
  exact ⟨X.w.heap.size,v.cells,b,by simp [Ctx.grown,upd_same],heap_alloc_new X.w _,d,CRep.ext x e⟩
theorem zDR {P w}(t) (v):(newVar t v).run P w=.ok ⟨w.heap.size,0,none⟩ (w.alloc (.cells v.cells t)):=by
 rfl
end Go.SX
namespace Go.SX
open Go.RowKit (Below)
theorem zBY {a:List Value}{o s n t}(h:((((a.drop o).take s).drop n).take t).length=t):(((a.drop o).take s).drop n).take t=(a.drop (o + n)).take t:=by grind [List.drop_take,List.drop_drop]
theorem RowCells.lens {w M e}:∀ {b}{a}{c},RowCells w M e b a c→b.length=a.length∧c.length=a.length
 | [],[],[],_=>⟨rfl,rfl⟩
 | _::b,_::a,_::c,h=>by
  obtain ⟨e1,e2⟩:=RowCells.lens h.2
  grind
 | [],_::_,_,h|_::_,[],_,h|[],[],_::_,h|_::_,_::_,[],h=>by grind [RowCells]
theorem RowCell.one {w M e o d v}(h:RowCell w M e o d v):One v:=by
 rcases h with ⟨_,h⟩|⟨b,l,c,te,xs,cap,_,_,_,_,_,h,_⟩
 ·obtain ⟨A,h⟩:=h.val
  grind [zbr]
 grind [zbr]
theorem RowCell.val {w M e o d v}(h:RowCell w M e o d v):zIt w e o d v:=by
 rcases h with h|⟨b,l,c,te,xs,f,g,i,h3,h4,h5,j,k,a⟩
 ·exact .inl h
 ·exact .inr ⟨b,l,f,c.size,g,i,j,k,by grind [bsize],a⟩
section
variable {C:FuncId→List D→Option (List D)} {k:Nat} {X:Ctx}
theorem zkb {V}:∀ {q}{s o}{g c}{R T}{G}{v},Run (nav q s) V g o c→Sat C k X.E c.bs c.nv→tOff X.E q R=some G→tyAt q R=some T →
  s.hasTy R→CRep X s v→c.up=g.up∧c.ab=g.ab∧o.hasTy T∧CRep X o ((v.drop G).take T.size)
 | [],s,o,g,c,R,T,G,v,h,w,b,r,p,u=>by
  simp only [nav] at h
  obtain ⟨Y,Z⟩:=Run.pure h
  subst Y Z
  simp [tOff] at b
  simp [tyAt] at r
  subst b r
  refine ⟨rfl,rfl,p,?_⟩
  have:=CRep.length p u
  grind
 | .f j::q,s,o,g,c,R,T,G,v,h,w,b,r,p,u=>by
  cases R<;>simp only [tOff,tyAt] at b r<;>try grind
  rename_i M
  cases L:M[j]? with
  | none=>grind
  | some F =>
   simp only [L] at b r
   cases I:tOff X.E q F with
   | none=>grind
   | some n =>
    simp [I] at b
    subst b
    have fin:∀ {J:SV} {A:SS},Run (nav q J) V A o c→A.up=g.up→A.ab=g.ab→J.hasTy F→CRep X J ((v.drop (Ty.sizeL (M.take j))).take F.size) →
      c.up=g.up∧c.ab=g.ab∧o.hasTy T∧CRep X o ((v.drop (Ty.sizeL (M.take j) + n)).take T.size):=fun z u1 u2 ht1 hc1=>by
     obtain ⟨g1,g2,g3,g4⟩:=zkb z w I r ht1 hc1
     grind [zBY,CRep.length]
    cases s with
    | ag Q l =>
     simp only [nav] at h
     simp only [SV.hasTy] at p
     subst p
     simp only [CRep] at u
     split at h
     ·rename_i J hl
      obtain ⟨p1,p2⟩:=CRepL.part u hl L
      grind
     grind [Run.fail]
    | d Q a =>
     simp only [SV.hasTy] at p
     subst p
     simp only [nav,L] at h
     obtain ⟨x,A,z,B⟩:=Run.bind h
     obtain ⟨⟨d0,d,t,y,P⟩,S,U⟩:=Run.op1 z (B.sat w)
     simp only [CRep] at u
     obtain ⟨N,O,K⟩:=u
     rw [O] at t
     injection t with t
     subst t
     cases N<;>simp only [DRep] at K<;>try (cases y)
     simp only [Prim.run] at y
     exact fin B S U rfl (by grind [CRep,DRepL.part])
    | _=>exact (Run.fail h).elim
 | .i ix::q,s,o,g,c,R,T,G,v,h,w,b,r,p,u=>by
  cases R<;>simp only [tOff,tyAt] at b r<;>try grind
  rename_i m e
  cases W:ix.get X.E with
  | none=>grind
  | some di =>
   simp only [W] at b
   cases di<;>simp only at b<;>try (cases b)
   split at b
   ·rename_i h0
    cases I:tOff X.E q e with
    | none=>grind
    | some n =>
     cases s with
     | d Q a =>
      subst p
      obtain ⟨x,A,z,B⟩:=Run.bind h
      obtain ⟨⟨d0,dI,d,t,H,y,P⟩,S,U⟩:=Run.op2 z (B.sat w)
      obtain ⟨N,O,K⟩:=u
      rw [O] at t
      rw [W] at H
      injection t with t
      injection H with H
      subst t H
      cases N<;>simp only [DRep] at K<;>try (cases y)
      simp only [Prim.run,if_pos h0] at y
      obtain ⟨g1,g2,g3,g4⟩:=zkb B w I r rfl (by exact ⟨d,P,(K.2.part y)⟩)
      grind [zBY,CRep.length]
     | _=>grind [nav,Run.fail]
   grind
variable {cx:Cx} {B0:Nat}
theorem zI2 {s T v}(b:s.hasTy T) (hT:T.isAgg=false) (h:CRep X s [v]):VRep X s v:=by
 cases s with
 | un n=>simp [VRep]
 | cv v'=>grind [CRep,VRep]
 | d c a =>
  simp only [SV.hasTy] at b
  obtain ⟨d,e,h2⟩:=h
  refine VRep.data.2 ⟨d,e,?_⟩
  unfold DVal
  grind [DRep.one]
 | ag c l =>
  simp only [SV.hasTy] at b
  cases c<;>simp only [CRep] at h
  grind [Ty.isAgg]
 | fn f a l=>grind [CRep,VRep]
 | tu l=>grind [CRep]
 | _=>grind [CRep,VRep]
theorem zzp {t w}(h:cx.cell1 t=true) (e:cx.T t=.no):(isAgg t).run cx.P w=.ok false w∧cx.P.cellsOf t=1:=by
 unfold Cx.cell1 at h
 rw [e] at h
 simp only [wD0] at h
 refine ⟨?_,zbv h.1⟩
 have c:=h.2
 cases b:cx.P.underlying t with
 | none=>grind
 | some d =>
  rw [b] at c
  cases d<;>first|(exact absurd c Bool.false_ne_true)|simp [isAgg,za7 b]
theorem zgS (x:TysOk cx) {t T}(r:cx.T t=T) (y:cx.cell1 t=true) {s}(p:s.hasTy T) {e}(h:CRep X s e) {a}
  (m:∀ j v,e[j]?=some v→X.w.cell? (a.add j)=some v):∃ v,(loadVar t a).run cx.P X.w=.ok v X.w∧VRep X s v:=by
 have k:=CRep.length p h
 have q:T.isAgg=false→(isAgg t).run cx.P X.w=.ok false X.w→∃ v,(loadVar t a).run cx.P X.w=.ok v X.w∧VRep X s v:=fun c hr=>by
  rw [(zsn c)] at k
  match e,k with
  | [v],_ =>
   have hv:=m 0 v rfl
   have e0:a.add 0=a:=by rfl
   exact ⟨v,by simp_all [loadVar],zI2 p c h⟩
 by_cases o:T=.no
 ·subst o
  exact q rfl (zzp y r).1
 ·obtain ⟨i,g⟩:=x.get r o
  cases c:T.isAgg with
  | false=>exact q c (by rw [znu g.desc,c])
  | true =>
   have w:=run_loadCells_list (P:=cx.P) X.w a e m
   rw [k] at w
   refine ⟨.agg e.toArray,by simp [loadVar,znu g.desc,c,zds g.info,g.size,w],?_⟩
   cases s with
   | un n=>simp [VRep]
   | d u a =>
    grind [SV.hasTy,CRep,VRep.data,DVal]
   | ag u l =>
    cases u<;>simp only [CRep] at h
    grind [VRep]
   | tu l=>grind [CRep]
   | cv v=>grind [SV.hasTy]
   | fn f a l=>grind [SV.hasTy]
   | _=>grind [SV.hasTy,Ty.isAgg]
theorem zuf {σ K R T r b off q U}(m:Mem B0 X) (h0:σ.up=[]) (h:Run (zHp R r q) X.μ σ U K) (hs:Sat C k X.E K.bs K.nv)
  (hA:X.A r) (f:(X.β r).main=some b) (M:tOff X.E q R=some off) (O:tyAt q R=some T) :
  K.up=[]∧K.ab=σ.ab∧U.hasTy T∧∃ cs,CRep X U cs∧∀ j v,cs[j]?=some v→X.w.cell? ((⟨b,off,none⟩:Addr).add j)=some v:=by
 unfold zHp at h
 obtain ⟨RR,s1,h1,W⟩:=Run.bind h
 obtain ⟨V,e2⟩:=Run.root h1
 rw [h0,zbI] at V
 subst V e2
 have A:=m.rep r hA
 have piece:∀ {c:List Value} {o s:Nat} {te:TypeId} {fr:Nat×Nat} {cc:Array Value},X.w.heap[b]?=some (.cells cc te fr)→(∃ n,c=cc.toList.take n)→∀ (j:Nat) (v:Value),((c.drop o).take s)[j]?=some v→X.w.cell? ((⟨b,o,none⟩:Addr).add j)=some v:=by grind [Addr.add_mid,World.cell?]
 have rowCase:∀ {e:Ty} {a:At} {z:Prop},RowRep X r e a z→Run (match q with
   | .i ix::q'=>do
    let x←SX.X.op .get [a,ix]
    nav q' (.d e x)
   | _=>SX.X.fail 75) X.μ s1 U K→R=.arr 0 e→K.up=[]∧K.ab=s1.ab∧U.hasTy T∧∃ cs,CRep X U cs∧∀ j v,cs[j]?=some v→X.w.cell? ((⟨b,off,none⟩:Addr).add j)=some v:=by
  intro e a z hr hrun w
  subst w
  split at hrun
  ·rename_i ix q'
   obtain ⟨x,s3,h5,S⟩:=Run.bind hrun
   obtain ⟨⟨d0,di,d,y,L,p,q4⟩,q5,q6⟩:=Run.op2 h5 (S.sat hs)
   obtain ⟨d1,f1,f2⟩:=hr
   rw [f1] at y
   injection y with y
   subst y
   rcases f2 with ⟨B,F⟩|⟨b',c,te,fr,l,xs,B,F,Q,N,Z,p6⟩
   ·grind
   ·rw [B] at f
    injection f with f
    subst f F
    cases di<;>simp only [Prim.run,reduceCtorEq] at p
    rename_i kk z
    split at p
    ·rename_i Y
     simp only [tOff,L,if_pos Y] at M
     simp only [tyAt] at O
     cases hof:tOff X.E q' e with
     | none=>grind
     | some n =>
      simp [hof] at M
      subst M
      obtain ⟨g1,g2,g3,g4⟩:=zkb S hs hof O rfl (by simp only [CRep];exact ⟨d,q4,(Z.part p)⟩)
      refine ⟨by rw [g1,q5,h0],g2.trans q6,g3,_,g4,?_⟩
      rw [zBY (CRep.length g3 g4)]
      exact piece Q ⟨_,p6.symm⟩
    grind
  grind [Run.fail]
 split at W
 ·
  rename_i R' v w
  obtain ⟨_,s2,G,t⟩:=Run.bind W
  obtain ⟨I,H⟩:=Run.guard G
  subst H
  have he:=Ty.beq_eq I
  subst he
  rw [w] at A
  obtain ⟨b',c,te,B,F,Q,N⟩:=A
  rw [B] at f
  injection f with f
  subst f
  obtain ⟨g1,g2,g3,g4⟩:=zkb t hs M O Q N
  exact ⟨g1.trans h0,g2,g3,_,g4,piece F ⟨c.toList.length,(List.take_of_length_le (wG0 _)).symm⟩⟩
 ·
  rename_i e a w
  obtain ⟨_,s2,G,t⟩:=Run.bind W
  obtain ⟨I,H⟩:=Run.guard G
  subst H
  rw [w] at A
  exact rowCase A t (Ty.beq_eq I)
 ·rename_i e a w
  obtain ⟨_,s2,G,t⟩:=Run.bind W
  obtain ⟨I,H⟩:=Run.guard G
  subst H
  rw [w] at A
  exact rowCase A.1 t (Ty.beq_eq I)
 ·
  rename_i e a g w
  obtain ⟨_,s2,G,t⟩:=Run.bind W
  obtain ⟨I,H⟩:=Run.guard G
  subst H
  have he:=Ty.beq_eq I
  subst he
  rw [w] at A
  split at t
  ·rename_i ix
   obtain ⟨x,s3,h5,S⟩:=Run.bind t
   obtain ⟨V,e2⟩:=Run.pure S
   subst V e2
   obtain ⟨⟨d0,di,d,y,L,p,q4⟩,q5,q6⟩:=Run.op2 h5 hs
   obtain ⟨d1,f1,f2⟩:=A
   rw [f1] at y
   injection y with y
   subst y
   rcases f2 with ⟨B,_,F⟩|⟨b',c,te,l,xs,B,F,Q,N,Z⟩
   ·rw [B] at f;cases f
   ·rw [B] at f
    injection f with f
    subst f F
    cases di<;>simp only [Prim.run,reduceCtorEq] at p
    rename_i kk z
    split at p
    ·rename_i Y
     injection p with p
     subst p
     simp [tOff,L,if_pos Y.1] at M
     simp [tyAt] at O
     subst M O
     obtain ⟨dd,hdd⟩:∃ dd,l[z.toNat]?=some dd:=⟨l[z.toNat]'(by omega),wF0 _⟩
     have hlens:=RowCells.lens N
     obtain ⟨o,hoo⟩:∃ o,(X.β r).rows[z.toNat]?=some o:=⟨(X.β r).rows[z.toNat]'(by omega),wF0 _⟩
     obtain ⟨v,hv,hrc⟩:=N.get hdd hoo
     refine ⟨q5.trans h0,q6,rfl,[v],?_,?_⟩
     ·simp only [CRep,Ref]
      refine ⟨v,rfl,hrc.one,hA,fun e' a' g' hm=>?_⟩
      rw [w] at hm
      injection hm with m1 m2 m3
      subst m1 m2 m3
      refine ⟨wG0 _,fun _=>⟨rfl,kk,z.toNat,l,dd,o,f1,?_,hdd,hoo,hrc.val⟩⟩
      rw [q4]
      simp [vR0 Y.1]
     ·intro j u P
      cases j with
      | succ j=>simp at P
      | zero =>
       simp at P
       subst P
       rw [Addr.add_mid]
       have J:=hv
       rw [← Z,List.getElem?_take] at J
       split at J
       ·simp [World.cell?,Q,Ty.size]
        simpa using J
       ·cases J
    ·cases p
  ·exact (Run.fail t).elim
 ·
  rename_i e a ix r2 w
  obtain ⟨_,s2,G,t⟩:=Run.bind W
  obtain ⟨I,H⟩:=Run.guard G
  subst H
  have he:=Ty.beq_eq I
  subst he
  rw [w] at A
  split at t
  ·obtain ⟨x,s3,h5,S⟩:=Run.bind t
   obtain ⟨V,e2⟩:=Run.pure S
   subst V e2
   obtain ⟨⟨d0,di,d,y,L,p,q4⟩,q5,q6⟩:=Run.op2 h5 hs
   obtain ⟨l,b',c,te,xs,k,i,v2,B,F,Q,N,Z,p6,p7,p8⟩:=A
   rw [F] at f
   injection f with f
   subst f
   rw [Z] at L
   injection L with L
   subst L
   cases d0<;>simp only [Prim.run,reduceCtorEq] at p
   split at p
   ·rename_i Y
    subst Y
    simp [tOff,y,if_pos (Int.natCast_nonneg i:(0:Int)≤Int.ofNat i)] at M
    simp [tyAt] at O
    subst M O
    have hxl:=N.length
    simp [Ty.size] at hxl
    refine ⟨q5.trans h0,q6,rfl,[v2],by exact ⟨v2,rfl,p8⟩,?_⟩
    intro j u P
    cases j with
    | succ j=>simp at P
    | zero =>
     simp at P
     subst P
     rw [Addr.add_mid]
     have J:(xs.set i v2)[i]?=some v2:=List.getElem?_set_self (by omega)
     rw [← p7,List.getElem?_take] at J
     split at J
     ·simp [World.cell?,Q,Ty.size]
      simpa using J
     ·cases J
   ·cases p
  ·exact (Run.fail t).elim
 grind [Run.fail]
theorem zyw {G f e T r g V q N v}(m:Mem B0 X) (h0:G.up=[]) (h:Run (zIb e r V q g) X.μ G N f) (H:Sat C k X.E f.bs f.nv)
  (o:Ref X (.pm e T r V q g) v) :
  f.up=[]∧f.ab=G.ab∧N.hasTy T∧∃ b I Q,v=.pointer (some ⟨b,I,none⟩)∧CRep X N Q∧∀ j v,Q[j]?=some v→X.w.cell? ((⟨b,I,none⟩:Addr).add j)=some v:=by
 obtain ⟨RR,s2,h3,s⟩:=Run.bind h
 obtain ⟨p,F⟩:=Run.root h3
 rw [h0,zbI] at p
 subst p F
 dsimp only at s
 obtain ⟨hone,hA,o⟩:=o
 have U:=m.rep r hA
 split at s
 ·rename_i e' a' g' Y
  obtain ⟨_,s3,O,h6⟩:=Run.bind s
  obtain ⟨K,es⟩:=Run.guard O
  obtain ⟨a,s5,B,h2⟩:=Run.bind h6
  obtain ⟨p,F⟩:=Run.pure B
  subst p F
  simp only [wD0] at K
  have he:=Ty.beq_eq K.1
  have hg:=zbv K.2
  subst he hg
  obtain ⟨_,o⟩:=o _ _ _ Y
  obtain ⟨_,kk,i,b,I,Z,v2,v3,L,v5⟩:=o rfl
  rw [Y] at U
  obtain ⟨y,s4,B,R⟩:=Run.bind h2
  split at R
  ·rename_i j q' _
   obtain ⟨x,s5,S,J⟩:=Run.bind R
   obtain ⟨⟨x0,xi,x1,w,w2,M,w4⟩,w5,w6⟩:=Run.op2 S (J.sat H)
   obtain ⟨⟨d0,di,d,t,z,q3,q4⟩,q5,q6⟩:=Run.op2 B (S.sat (J.sat H))
   rw [q4] at w
   injection w with w
   subst w
   rw [Z] at z
   injection z with z
   subst z
   obtain ⟨d1,f1,f2⟩:=U
   rw [f1] at t
   injection t with t
   subst t
   rcases f2 with ⟨_,p1,W⟩|⟨b',c,te,l,xs,p1,W,p3,p4,p5⟩
   ·grind
   ·subst W
    obtain ⟨u,hu,hrc⟩:=p4.get q3 v2
    rcases hrc with ⟨A,_⟩|⟨bb,ll,cc,te',xs',cap,A,c2,c3,c4,c5,c6,c7,c8⟩
    ·grind
    ·injection A with A
     subst A c2
     cases xi<;>simp only [Prim.run,reduceCtorEq] at M
     split at M
     ·rename_i hz
      simp only [tOff,w2,if_pos hz] at L
      cases P:tOff X.E q' e' with
      | none=>grind
      | some n =>
       simp [P] at L
       subst L
       obtain ⟨g1,g2,g3,g4⟩:=zkb J H P v5 rfl (by exact ⟨x1,w4,(c4.part M)⟩)
       grind [Addr.add_mid,World.cell?]
     grind
  grind [Run.fail]
 ·obtain ⟨_,_,O,_⟩:=Run.bind s
  grind [Run.fail]
theorem zxo (B:TysOk cx) (m:Mem B0 X) {t x sv z o}(p:z.up=[]) (h:Run (zCB cx t x) X.μ z sv o) (hs:Sat C k X.E o.bs o.nv) {vx}(w:VRep X x vx) :
  zdm cx.P X (Instr.loadAt t vx) sv z o:=by
 obtain ⟨_,s1,h1,n⟩:=Run.bind h
 obtain ⟨y,c⟩:=Run.guard h1
 subst c
 split at n
 ·rename_i T' a
  obtain ⟨_,s2,f,g⟩:=Run.bind n
  obtain ⟨e,c⟩:=Run.guard f
  subst c
  have l:=Ty.beq_eq e
  obtain ⟨e1,e2⟩:=Run.pure g
  subst e1 e2
  obtain ⟨ad,d,xs,K,L,p3,r,p5⟩:=w
  obtain ⟨v,hr,i⟩:=zgS B rfl y (s:=.d (cx.T t) a) rfl (by grind [CRep]) r
  exact ⟨rfl,rfl,v,by grind [Instr.loadAt,Instr.sureAddr],i⟩
 ·obtain ⟨_,s2,f,g⟩:=Run.bind n
  obtain ⟨e,c⟩:=Run.guard f
  subst c
  have l:=Ty.beq_eq e
  subst l
  obtain ⟨s,s3,u,j⟩:=Run.bind g
  obtain ⟨hA,b,off,K,L,p3,r⟩:=w
  obtain ⟨G,H,F,cs,I,J⟩:=zuf m p u (j.sat hs) hA L p3 r
  obtain ⟨v,hr,i⟩:=zgS B rfl y F I J
  obtain ⟨c,_,q,_⟩:=zhd j i
  subst c
  exact ⟨G.trans p.symm,H,v,by grind [Instr.loadAt,Instr.sureAddr],q⟩
 ·obtain ⟨_,s2,f,g⟩:=Run.bind n
  obtain ⟨e,c⟩:=Run.guard f
  subst c
  have l:=Ty.beq_eq e
  subst l
  obtain ⟨s,s3,u,j⟩:=Run.bind g
  obtain ⟨G,H,F,b,off,cs,K,I,J⟩:=zyw m p u (j.sat hs) (by simpa only [VRep] using w)
  obtain ⟨v,hr,i⟩:=zgS B rfl y F I J
  obtain ⟨c,_,q,_⟩:=zhd j i
  subst c
  exact ⟨G.trans p.symm,H,v,by grind [Instr.loadAt,Instr.sureAddr],q⟩
 grind [Run.fail]
end
end Go.SX
namespace Go.SX
open Go.RowKit (Below)
def patch (cs:List Value) (o:Nat) (cv:List Value):List Value:=cs.take o++cv++cs.drop (o + cv.length)
theorem zbB {cs cv o}(h:o + cv.length≤cs.length):(patch cs o cv).length=cs.length:=by grind [patch]
theorem zg1 {b a}(h:a.length=b.length):patch b 0 a=a:=by grind [patch]
theorem znb {a b o s n}(_h1:o + s≤a.length) (h2:n + b.length≤s):a.take o++patch ((a.drop o).take s) n b++a.drop (o + s)=patch a (o + n) b:=by
 have d:((a.drop o).take s).take n=(a.drop o).take n:=by grind
 have c:((a.drop o).take s).drop (n + b.length)++a.drop (o + s)=a.drop (o + (n + b.length)):=by
  rw [List.drop_take,List.drop_drop]
  have:a.drop (o + s)=(a.drop (o + (n + b.length))).drop (s - (n + b.length)):=by rw [List.drop_drop];congr 1;omega
  rw [this,List.take_append_drop]
 simp [patch,d,List.take_add,c,Nat.add_assoc]
theorem DRepL.patch {w M a e b c j n F d}(h:DRepL w M a e b) (hF:a[j]?=some F)
  (hd:DRep w M F d (SX.patch ((b.drop (Ty.sizeL (a.take j))).take F.size) n c)) (g:n + c.length≤F.size) (f:Ty.sizeL (a.take j) + F.size≤b.length) :
  DRepL w M a (e.set j d) (SX.patch b (Ty.sizeL (a.take j) + n) c):=by
 rw [← znb f g]
 grind [DRepL.set]
theorem DRepA.patch {w M e c a b j n d}(h:DRepA w M e c a) (hj:j<c.length)
  (hd:DRep w M e d (SX.patch ((a.drop (j * e.size)).take e.size) n b)) (g:n + b.length≤e.size) (f:j * e.size + e.size≤a.length) :
  DRepA w M e (c.set j d) (SX.patch a (j * e.size + n) b):=by
 rw [← znb f g]
 grind [DRepA.set]
theorem zwO {a j F}(h:a[j]?=some F):Ty.sizeL (a.take j) + F.size≤Ty.sizeL a:=by
 induction a generalizing j with
 | nil=>grind
 | cons U l ih =>
  cases j with
  | zero=>grind [Ty.sizeL]
  | succ j=>grind [Ty.sizeL]
section
variable {C:FuncId→List D→Option (List D)} {k:Nat} {X:Ctx} {w:World} {M:Nat→Prop}
theorem ziK {μ}:∀ {q}{T U}{a b x}{σ σ'}{off}{d dv}{cs cv},Run (setD q T a b) μ σ x σ'→Sat C k X.E σ'.bs σ'.nv→tOff X.E q T=some off→tyAt q T=some U →
  a.get X.E=some d→DRep w M T d cs→b.get X.E=some dv→DRep w M U dv cv →
  σ'.up=σ.up∧σ'.ab=σ.ab∧off + cv.length≤cs.length∧∃ dx,x.get X.E=some dx∧DRep w M T dx (patch cs off cv)
 | [],T,U,a,b,x,σ,σ',off,d,dv,cs,cv,h,hs,ho,hT,ha,hd,hb,hv=>by
  simp only [setD] at h
  obtain ⟨e1,e2⟩:=Run.pure h
  subst e1 e2
  simp [tOff] at ho
  simp [tyAt] at hT
  subst ho hT
  have h1:=hd.length
  have h2:=hv.length
  exact ⟨rfl,rfl,by omega,dv,hb,by grind [zg1]⟩
 | .f j::q,T,U,a,b,x,σ,σ',off,d,dv,cs,cv,h,hs,ho,hT,ha,hd,hb,hv=>by
  cases T<;>simp only [tOff,tyAt] at ho hT<;>try grind
  rename_i Ts
  cases hF:Ts[j]? with
  | none=>grind
  | some F =>
   simp only [hF] at ho hT
   cases hof:tOff X.E q F with
   | none=>grind
   | some n =>
    simp [hof] at ho
    subst ho
    cases d<;>simp only [DRep] at hd
    rename_i ds
    have hlen:=hd.length
    have hle:=zwO hF
    have fin:∀ {y:At} {σ1:SS} {dy:D},Run (SX.X.op (.setf j) [a,y]) μ σ1 x σ'→σ1.up=σ.up→σ1.ab=σ.ab→y.get X.E=some dy→n + cv.length≤F.size→DRep w M F dy (patch ((cs.drop (Ty.sizeL (Ts.take j))).take F.size) n cv) →
      σ'.up=σ.up∧σ'.ab=σ.ab∧Ty.sizeL (Ts.take j) + n + cv.length≤cs.length∧∃ dx,x.get X.E=some dx∧DRep w M (.st Ts) dx (patch cs (Ty.sizeL (Ts.take j) + n) cv):=by
     intro y σ1 dy h1 u1 u2 hy hn hp
     obtain ⟨⟨d0,d2,d3,q1,q2,q3,q4⟩,q5,q6⟩:=Run.op2 h1 hs
     rw [ha] at q1
     rw [hy] at q2
     injection q1 with q1
     injection q2 with q2
     subst q1 q2
     simp only [Prim.run] at q3
     split at q3
     ·injection q3 with q3
      subst q3
      refine ⟨q5.trans u1,q6.trans u2,by omega,_,q4,?_⟩
      simp only [DRep]
      exact hd.patch hF hp hn (by omega)
     grind
    have hplen:((cs.drop (Ty.sizeL (Ts.take j))).take F.size).length=F.size:=by grind
    cases q with
    | nil =>
     simp only [setD,hF] at h
     simp [tOff] at hof
     simp only [tyAt,wB0] at hT
     subst hof hT
     have h2:=hv.length
     exact fin h rfl rfl hb (by omega) (by grind [zg1])
    | cons s q' =>
     simp only [setD,hF] at h
     obtain ⟨y,σ1,h1,h2⟩:=Run.bind h
     obtain ⟨x1,σ2,h3,h4⟩:=Run.bind h2
     obtain ⟨⟨d0,dy,q1,q3,q4⟩,q5,q6⟩:=Run.op1 h1 (h3.sat (h4.sat hs))
     rw [ha] at q1
     injection q1 with q1
     subst q1
     simp only [Prim.run] at q3
     obtain ⟨g1,g2,g3,dx,g4,g5⟩:=ziK h3 (h4.sat hs) hof hT q4 (hd.part hF q3) hb hv
     grind
 | .i ix::q,T,U,a,b,x,σ,σ',off,d,dv,cs,cv,h,hs,ho,hT,ha,hd,hb,hv=>by
  cases T<;>simp only [tOff,tyAt] at ho hT<;>try grind
  rename_i m e
  cases hi:ix.get X.E with
  | none=>grind
  | some di =>
   simp only [hi] at ho
   cases di<;>simp only at ho<;>try (cases ho)
   rename_i kk z
   split at ho
   ·rename_i h0
    cases hof:tOff X.E q e with
    | none=>grind
    | some n =>
     simp [hof] at ho
     subst ho
     cases d<;>simp only [DRep] at hd
     rename_i ds
     obtain ⟨hm,hd⟩:=hd
     have inside:z.toNat<ds.length→z.toNat * e.size + e.size≤cs.length:=fun hz=>by
      rw [hd.length,← Nat.succ_mul]
      exact vK0 _ hz
     have fin:∀ {y:At} {σ1:SS} {dy:D},Run (SX.X.op .set [a,ix,y]) μ σ1 x σ'→σ1.up=σ.up→σ1.ab=σ.ab→y.get X.E=some dy→(z.toNat<ds.length→n + cv.length≤e.size∧DRep w M e dy (patch ((cs.drop (z.toNat * e.size)).take e.size) n cv)) →
       σ'.up=σ.up∧σ'.ab=σ.ab∧z.toNat * e.size + n + cv.length≤cs.length∧∃ dx,x.get X.E=some dx∧DRep w M (.arr m e) dx (patch cs (z.toNat * e.size + n) cv):=by
      intro y σ1 dy h1 u1 u2 hy hp
      obtain ⟨⟨d0,d1,d2,d3,q1,q2,q2',q3,q4⟩,q5,q6⟩:=Run.op3 h1 hs
      rw [ha] at q1
      rw [hi] at q2
      rw [hy] at q2'
      injection q1 with q1
      injection q2 with q2
      injection q2' with q2'
      subst q1 q2 q2'
      simp only [Prim.run] at q3
      split at q3
      ·rename_i hz
       injection q3 with q3
       subst q3
       obtain ⟨hn,hp⟩:=hp (by omega)
       have:=inside (by omega)
       refine ⟨q5.trans u1,q6.trans u2,by omega,_,q4,?_⟩
       exact ⟨by grind,hd.patch (by omega) hp hn this⟩
      grind
     have hplen:z.toNat<ds.length→((cs.drop (z.toNat * e.size)).take e.size).length=e.size:=fun hz=>by grind
     cases q with
     | nil =>
      simp [tOff] at hof
      simp [tyAt] at hT
      subst hof hT
      have h2:=hv.length
      exact fin h rfl rfl hb fun hz=>⟨by omega,by grind [zg1]⟩
     | cons s q' =>
      obtain ⟨y,σ1,h1,h2⟩:=Run.bind h
      obtain ⟨x1,σ2,h3,h4⟩:=Run.bind h2
      obtain ⟨⟨d0,d1,dy,q1,q2,q3,q4⟩,q5,q6⟩:=Run.op2 h1 (h3.sat (h4.sat hs))
      rw [ha] at q1
      rw [hi] at q2
      injection q1 with q1
      injection q2 with q2
      subst q1 q2
      simp only [Prim.run,if_pos h0] at q3
      obtain ⟨g1,g2,g3,dx,g4,g5⟩:=ziK h3 (h4.sat hs) hof hT q4 (hd.part q3) hb hv
      exact fin h4 (g1.trans q5) (g2.trans q6) g4 fun hz=>⟨by rw [hplen hz] at g3;exact g3,g5⟩
   grind
theorem zrp {μ q e U a b x F B g d dv u}(h:Run (setRow q e a b) μ F x B) (Z:Sat C k X.E B.bs B.nv) (A:tOff X.E q (.arr 0 e)=some g)
  (L:tyAt q (.arr 0 e)=some U) (ha:a.get X.E=some d) (hb:b.get X.E=some dv) (hv:DRep w M U dv u) (t:d=.nil∨∃ l c,d=.sl l∧DRepA w M e l c) :
  B.up=F.up∧B.ab=F.ab∧∃ l o,d=.sl l∧x.get X.E=some (.sl o)∧o.length=l.length∧(∃ i,i<l.length∧i * e.size≤g∧g + u.length≤(i + 1) * e.size∧∀ j,j≠i→o[j]?=l[j]?)∧∀ c,DRepA w M e l c→g + u.length≤c.length∧DRepA w M e o (patch c g u):=by
 have fin:∀ {I y:At} {H:SS} {J:D} {n:Nat} {R:IntKind} {z:Int},Run (SX.X.op .set [a,I,y]) μ H x B→H.up=F.up→H.ab=F.ab→I.get X.E=some (.int R z)→0≤z→g=z.toNat * e.size + n→y.get X.E=some J→n + u.length≤e.size →
   (∀ l c,d=.sl l→z.toNat<l.length→DRepA w M e l c→DRep w M e J (patch ((c.drop (z.toNat * e.size)).take e.size) n u)) →
   B.up=F.up∧B.ab=F.ab∧∃ l o,d=.sl l∧x.get X.E=some (.sl o)∧o.length=l.length∧(∃ i,i<l.length∧i * e.size≤g∧g + u.length≤(i + 1) * e.size∧∀ j,j≠i→o[j]?=l[j]?)∧∀ c,DRepA w M e l c→g + u.length≤c.length∧DRepA w M e o (patch c g u):=by
  intro I y H J n R z Y u1 u2 G N hoff hy hn hp
  obtain ⟨⟨d0,d1,d2,d3,p,r,K,m,S⟩,V,W⟩:=Run.op3 Y Z
  rw [ha] at p
  rw [G] at r
  rw [hy] at K
  injection p with p
  injection r with r
  injection K with K
  subst p r K
  rcases t with t|⟨l,xs0,t,_⟩
  ·grind [Prim.run]
  ·subst t
   simp only [Prim.run] at m
   split at m
   ·rename_i hz
    injection m with m
    subst m
    have P:z.toNat<l.length:=by omega
    refine ⟨V.trans u1,W.trans u2,l,_,rfl,S,by simp,⟨z.toNat,P,by omega,by grind,fun j hj=>by grind⟩,fun c v=>?_⟩
    have:z.toNat * e.size + e.size≤c.length:=by
     rw [v.length,← Nat.succ_mul]
     exact vK0 _ P
    rw [hoff]
    exact ⟨by omega,v.patch P (hp l c rfl P v) hn this⟩
   grind
 cases q with
 | nil=>grind [setRow,Run.fail]
 | cons s q =>
  cases s with
  | f j=>grind [setRow,Run.fail]
  | i I =>
   simp only [tOff,tyAt] at A L
   cases G:I.get X.E with
   | none=>grind
   | some di =>
    simp only [G] at A
    cases di<;>simp only at A<;>try (cases A)
    rename_i R z
    split at A
    ·rename_i N
     cases O:tOff X.E q e with
     | none=>grind
     | some n =>
      simp [O] at A
      cases q with
      | nil =>
       simp only [setRow] at h
       simp [tOff] at O
       simp [tyAt] at L
       subst O L
       have h2:=hv.length
       refine fin h rfl rfl G N A.symm hb (by omega) fun l c _ hz v=>?_
       rw [zg1]
       ·omega
       ·have hlen:=v.length
        have:z.toNat * e.size + e.size≤c.length:=by
         rw [hlen,← Nat.succ_mul]
         exact vK0 _ hz
        grind
      | cons s q' =>
       simp only [setRow] at h
       obtain ⟨y,H,Y,h2⟩:=Run.bind h
       obtain ⟨x1,σ2,h3,h4⟩:=Run.bind h2
       obtain ⟨⟨d0,d1,J,p,r,m,S⟩,V,W⟩:=Run.op2 Y (h3.sat (h4.sat Z))
       rw [ha] at p
       rw [G] at r
       injection p with p
       injection r with r
       subst p r
       rcases t with t|⟨l0,xs0,t,hx0⟩
       ·subst t;simp [Prim.run] at m
       ·subst t
        simp only [Prim.run,if_pos N] at m
        have key:=fun c (v:DRepA w M e l0 c)=>ziK h3 (h4.sat Z) O L S (v.part m) hb hv
        obtain ⟨g1,g2,g3,dx,g4,g5⟩:=key xs0 hx0
        refine fin h4 (g1.trans V) (g2.trans W) G N A.symm g4 (by rw [((hx0.part m).length)] at g3;exact g3) fun l c el _ v=>?_
        injection el with el
        subst el
        obtain ⟨_,_,_,dx',Q,g5'⟩:=key c v
        rw [g4] at Q
        injection Q with Q
        subst Q
        exact g5'
    grind
end
end Go.SX
namespace Go.SX
open Go.RowKit (Below)
section
variable {C:FuncId→List D→Option (List D)} {k B0:Nat} {X:Ctx} {cx:Cx}
theorem CRepL.set:∀ {l}{a}{c d}{j}{b}{F},CRepL X l a c→a[j]?=some F→b.hasTy F→CRep X b d →
  CRepL X (l.set j b) a (c.take (Ty.sizeL (a.take j))++d++c.drop (Ty.sizeL (a.take j) + F.size))
 | [],[],_,_,j,_,_,_,g,_,_=>by grind
 | u::l,[],_,_,_,_,_,h,_,_,_=>by grind
 | [],_::_,_,_,_,_,_,h,_,_,_=>by grind [CRepL]
 | u::l,U::a,c,d,0,b,F,h,g,i,k=>by
  obtain ⟨m,p,o,f,e,n⟩:=h
  have hl:=CRep.length f e
  simp [CRepL,Ty.sizeL]
  grind
 | u::l,U::a,c,d,j + 1,b,F,h,g,i,k=>by
  obtain ⟨m,p,o,f,e,n⟩:=h
  subst o
  refine ⟨m,_,?_,f,e,CRepL.set n g i k⟩
  simp [Ty.sizeL]
  rw [Nat.add_assoc,← (CRep.length f e),zsC,zjo]
  simp
theorem zrI {v a g}(s:a.get X.E=some (.agg g)):∀ {i}{j}{l}{c b}{f},Run (zDg a i j) v c l b→Sat C k X.E b.bs b.nv→DRepL X.w X.M i (g.drop j) f →
  b.up=c.up∧b.ab=c.ab∧CRepL X l i f
 | [],j,l,c,b,f,h,_,n=>by
  obtain ⟨p,q⟩:=Run.pure h
  grind [DRepL,CRepL]
 | T::i,j,l,c,b,f,h,o,n=>by
  obtain ⟨x,σ1,y,u⟩:=Run.bind h
  obtain ⟨l',σ2,r,w⟩:=Run.bind u
  obtain ⟨p,q⟩:=Run.pure w
  subst p q
  obtain ⟨⟨d0,d,m,z,q4⟩,A,B⟩:=Run.op1 y (r.sat o)
  rw [s] at m
  injection m with m
  subst m
  simp only [Prim.run] at z
  have F:g.drop j=d::g.drop (j + 1):=by grind [List.drop_eq_getElem_cons]
  rw [F] at n
  obtain ⟨G,H,e,r1,I⟩:=n
  obtain ⟨J,K,t⟩:=zrI s r o I
  refine ⟨J.trans A,K.trans B,?_⟩
  exact ⟨G,H,e,rfl,by grind [CRep],t⟩
theorem zqM {S}:∀ {q}{s v m}{g c}{R U}{I}{o p},Run (zmw q s v) S g m c→Sat C k X.E c.bs c.nv→tOff X.E q R=some I→tyAt q R=some U →
  s.hasTy R→CRep X s o→v.hasTy U→CRep X v p→c.up=g.up∧c.ab=g.ab∧I + p.length≤o.length∧m.hasTy R∧CRep X m (patch o I p)
 | [],s,v,m,g,c,R,U,I,o,p,h,L,r,t,w,y,z,K=>by
  simp only [zmw] at h
  obtain ⟨G,H⟩:=Run.pure h
  subst G H
  simp [tOff] at r
  simp [tyAt] at t
  subst r t
  have u:=CRep.length w y
  have B:=CRep.length z K
  exact ⟨rfl,rfl,by omega,z,by grind [zg1]⟩
 | .f j::q,s,v,m,g,c,R,U,I,o,p,h,L,r,t,w,y,z,K=>by
  have ho0:=r
  have hT0:=t
  cases R<;>simp only [tOff,tyAt] at r t<;>try grind
  rename_i e
  cases W:e[j]? with
  | none=>grind
  | some F =>
   simp only [W] at r t
   cases hof:tOff X.E q F with
   | none=>grind
   | some n =>
    simp [hof] at r
    subst r
    have hle:=zwO W
    have hlen:=CRep.length w y
    simp only [Ty.size] at hlen
    have fin:∀ {l:List SV} {V J:SV} {A:SS},l[j]?=some V→CRepL X l e o→Run (zmw q V v) S A J c→A.up=g.up→A.ab=g.ab →
      c.up=g.up∧c.ab=g.ab∧Ty.sizeL (e.take j) + n + p.length≤o.length∧(SV.ag (.st e) (l.set j J)).hasTy (.st e)∧CRep X (.ag (.st e) (l.set j J)) (patch o (Ty.sizeL (e.take j) + n) p):=by
     intro l V J A hl hcl u u1 u2
     obtain ⟨p1,p2⟩:=CRepL.part hcl hl W
     obtain ⟨Q,O,M,g4,g5⟩:=zqM u L hof t p1 p2 z K
     rw [(CRep.length p1 p2)] at M
     refine ⟨Q.trans u1,O.trans u2,by omega,rfl,?_⟩
     simp only [CRep]
     rw [← znb (by omega) M]
     grind [CRepL.set]
    cases s with
    | ag Y l =>
     simp only [SV.hasTy] at w
     subst w
     simp only [zmw] at h
     simp only [CRep] at y
     split at h
     ·rename_i V hl
      obtain ⟨J,A,u,B⟩:=Run.bind h
      grind [Run.pure]
     grind [Run.fail]
    | d Y a =>
     simp only [SV.hasTy] at w
     subst w
     have whole:∀ {Z:Ty} {b:At},v=.d Z b→Run (setD (.f j::q) (.st e) a b >>= fun x=>SX.X.pure (.d (.st e) x)) S g m c →
       c.up=g.up∧c.ab=g.ab∧Ty.sizeL (e.take j) + n + p.length≤o.length∧m.hasTy (.st e)∧CRep X m (patch o (Ty.sizeL (e.take j) + n) p):=by
      intro Z b ev h
      subst ev
      obtain ⟨x,A,u,B⟩:=Run.bind h
      obtain ⟨G,H⟩:=Run.pure B
      subst G H
      simp only [SV.hasTy] at z
      subst z
      obtain ⟨d0,P,N⟩:=y
      obtain ⟨dv,b1,b2⟩:=K
      obtain ⟨Q,O,M,dx,g4,g5⟩:=ziK u L ho0 hT0 P N b1 b2
      exact ⟨Q,O,M,rfl,by grind [CRep]⟩
     have parts:Run (zDg a e 0 >>= fun l=>match l[j]? with
       | some s=>zmw q s v >>= fun m=>SX.X.pure (.ag (.st e) (l.set j m))
       | none=>SX.X.fail 25) S g m c →
       c.up=g.up∧c.ab=g.ab∧Ty.sizeL (e.take j) + n + p.length≤o.length∧m.hasTy (.st e)∧CRep X m (patch o (Ty.sizeL (e.take j) + n) p):=by
      intro h
      obtain ⟨l,A,u,B⟩:=Run.bind h
      obtain ⟨d0,P,N⟩:=y
      cases d0<;>simp only [DRep] at N
      split at B
      ·obtain ⟨J,σ2,h3,h4⟩:=Run.bind B
       obtain ⟨G,H⟩:=Run.pure h4
       subst G H
       obtain ⟨u1,u2,u3⟩:=zrI P u (h3.sat L) (by simpa using N)
       grind
      grind [Run.fail]
     cases v with
     | d Z b=>grind [zmw]
     | _=>exact parts h
    | _=>exact (Run.fail h).elim
 | .i ix::q,s,v,m,g,c,R,U,I,o,p,h,L,r,t,w,y,z,K=>by
  cases s with
  | d Y a =>
   subst w
   cases Y<;>simp only [zmw] at h<;>try grind [Run.fail]
   cases v<;>simp only at h<;>try grind [Run.fail]
   obtain ⟨x,A,u,B⟩:=Run.bind h
   obtain ⟨G,H⟩:=Run.pure B
   subst G H
   subst z
   obtain ⟨d0,P,N⟩:=y
   obtain ⟨dv,b1,b2⟩:=K
   obtain ⟨Q,O,M,dx,g4,g5⟩:=ziK u L r t P N b1 b2
   exact ⟨Q,O,M,rfl,by grind [CRep]⟩
  | _=>exact (Run.fail h).elim
def Ctx.wrote (X:Ctx) (b:Nat) (c:Array Value) (r:Nat) (R:Root):Ctx:={ E:=X.E,w:=X.w.setRow b c,μ:=upd X.μ r R,β:=X.β,A:=X.A,F:=X.F }
theorem zev {w b n c a d g}(f:w.heap[b]?=some (.cells c d g)) (i:a.size=c.size) {q}(h:bsize w q=some n):bsize (w.setRow b a) q=some n:=by
 by_cases e:q=b
 ·subst e
  simp only [bsize,f] at h
  simp only [bsize,setRow_heap w q c a d g f,i]
  omega
 grind [zcd,setRow_other]
theorem Mem.write (m:Mem B0 X) (l:B0≤X.w.heap.size) {r b c c' k R}(f:X.A r) (o:b∈(X.μ r).own (X.β r)) (p:X.w.heap[b]?=some (.cells c k (0,0))) (s:c'.size=c.size)
  (j:R.own (X.β r)=(X.μ r).own (X.β r)) (hsame:R.there=true→RootSame X (X.wrote b c' r R) r) (hrep:Ext X (X.wrote b c' r R)→RootRep (X.wrote b c' r R) r R)
  (hnl:∀ e a q,X.μ r≠.lt e a q:=by intro e a q h;simp_all;done):Ext X (X.wrote b c' r R)∧Mem B0 (X.wrote b c' r R):=by
 refine Mem.change m l (fun q=>q=r) (fun _ _ h=>h) (fun _ h=>h) (fun q h=>.inl h) (fun q d=>⟨upd_ne _ _ d,rfl⟩) (fun q _ d=>setRow_other _ _ _ _ fun e=>d r rfl f (e▸o)) (fun q n h=>zev p s h) ?_ ?_ ?_ (fun _ _ _=>rfl) ?_ ?_ rfl (fun q d _ e a i h=>absurd (d▸h) (hnl e a i))
 ·simp_all [Ctx.wrote,upd_same]
 ·omega
 ·intro q d _
  subst d
  simp only [Ctx.wrote,upd_same,j]
  exact m.once q f
 all_goals simp_all [Ctx.wrote,upd_same]
theorem zdI {P w b o t c a v}(f:w.heap[b]?=some (.cells c a (0,0))) (hs:P.cellsOf t=v.cells.size) (hi:(P.info? t).isSome=true)
  (hfit:o + v.cells.toList.length≤c.size) (e:∀ u∈v.cells.toList,One u):(storeVar t ⟨b,o,none⟩ v).run P w=.ok () (w.setRow b (patch c.toList o v.cells.toList).toArray):=by
 have:=run_storeCells_at P b o a v.cells.toList 0 c w f (by omega) (fun u d=>(e u d).one)
 cases hq:P.info? t with
 | none=>grind
 | some i =>
  simp_all [Program.cellsOf,storeVar,sizeOf,typeInfo,patch]
end
end Go.SX
namespace Go.SX
open Go.RowKit (Below)
def Acts {α:Type}(P:Program) (B0:Nat) (X:Ctx) (sem:Sem α) (s0 s':SS) (Q:Ctx→α→Prop):Prop :=
 ∃ v w' X',sem.run P X.w=.ok v w'∧Nx B0 X X' s'.up s0.ab s'.ab w'∧Q X' v
theorem ziL {a b o n}(hn:n≤a.length) (h:o + b.length≤n):(patch a o b).take n=patch (a.take n) o b:=by
 have c:(a.take n).take o=a.take o:=by grind
 simp only [patch,c]
 rw [List.take_append,List.take_of_length_le (by grind),List.drop_take]
 grind
section
variable {C:FuncId→List D→Option (List D)} {k B0:Nat} {X:Ctx} {cx:Cx}
theorem zod (e:TysOk cx) {t T}(c:cx.T t=T) (f:cx.cell1 t=true):cx.P.cellsOf t=T.size∧(cx.P.info? t).isSome=true:=by
 by_cases d:T=.no
 ·subst d
  have h:=(zzp (w:=default) f c).2
  refine ⟨h,?_⟩
  cases hq:cx.P.info? t with
  | none=>grind [Program.cellsOf]
  | some i=>rfl
 ·obtain ⟨i,b⟩:=e.get c d
  exact ⟨by simp [Program.cellsOf,b.info,b.size],by rw [b.info];rfl⟩
theorem Nx.wrote {up a d e b r c R}(x:Ext X (X.mv up)) (m:Mem B0 (X.mv up)) (i:X.A r) (j:b∈((X.mv up).μ r).own (X.β r))
  (h:Ext (X.mv up) ((X.mv up).wrote b c r R)∧Mem B0 ((X.mv up).wrote b c r R)) (g:a=(r,R)::up) (hab:e=d):Nx B0 X ((X.mv up).wrote b c r R) a d e (X.w.setRow b c) where
 E:=rfl
 w:=rfl
 μ:=by rw [g,zca];rfl
 A:=fun q=>⟨fun h=>.inl h,fun h=>h.elim id fun h=>by omega⟩
 ext:=x.trans h.1
 mem:=h.2
 below:=below_setRow (Below.refl _ _) (m.low r b i j) _
theorem zie (ty:TysOk cx) (hB:B0≤X.w.heap.size) {t R T r b n q G v J f j}(x0:Ext X (X.mv f.up)) (m:Mem B0 (X.mv f.up)) (h:Run (zsx R T r q G v) X.μ f J j) (Q:Sat C k X.E j.bs j.nv)
  (S:cx.T t=T) (h1:cx.cell1 t=true) (w:X.A r) (l:(X.mv f.up).μ r=.box R G) (I:(X.β r).main=some b) (ho:tOff X.E q R=some n) (K:tyAt q R=some T) {p} (L:VRep (X.mv f.up) v p) :
  Acts cx.P B0 X (storeVar t ⟨b,n,none⟩ p) f j fun _ _=>J=.un 1:=by
 obtain ⟨v',M,N,O⟩:=Run.bind h
 obtain ⟨u,F,hv',z⟩:=zhd N L
 subst u
 obtain ⟨new,s2,h4,h5⟩:=Run.bind O
 obtain ⟨_,s3,h6,h7⟩:=Run.bind h5
 have u:=Run.put h6
 obtain ⟨e1,e2⟩:=Run.pure h7
 subst u
 subst e1 e2
 have H:=m.rep r w
 rw [l] at H
 obtain ⟨b',c,te,i,y,p3,p4⟩:=H
 have i:(X.β r).main=some b':=i
 rw [I] at i
 injection i with i
 subst i
 obtain ⟨g1,g2,g3,g4,g5⟩:=zqM (X:=X.mv M.up) h4 Q ho K p3 p4 F z
 have hlen:=CRep.length F z
 obtain ⟨hcells,hinfo⟩:=zod ty S h1
 have hw:=m.write (hnl:=by grind) hB (c':=(patch c.toList n p.cells.toList).toArray) (R:=.box R new) w (by grind [Root.own]) y (by grind [zbB]) (by rw [l];rfl) (fun _=>⟨by rw [l];rfl,fun e a d A=>(by rw [l] at A;cases A),fun e a g A=>(by simp_all [Ctx.wrote,upd_same])⟩)
  (fun x=>⟨b,_,te,I,setRow_heap _ _ _ _ _ _ y,g4,CRep.ext x g5⟩)
 exact ⟨(),_,_,(zdI (P:=cx.P) (o:=n) (t:=t) (v:=p) y (by grind) hinfo (by omega) z.ones),Nx.wrote x0 m w (by grind [Root.own]) hw (by grind) g2,rfl⟩
theorem zid (ty:TysOk cx) (hB:B0≤X.w.heap.size) {t e T r b f q v sv n y}(x:Ext X (X.mv n.up)) (m:Mem B0 (X.mv n.up)) (h:Run (zoR e T r q v) X.μ n sv y) (hs:Sat C k X.E y.bs y.nv)
  (hT:cx.T t=T) (h1:cx.cell1 t=true) (O:X.A r) (u:(X.β r).main=some b) (ho:tOff X.E q (.arr 0 e)=some f) (hq:tyAt q (.arr 0 e)=some T) {i} (hv:VRep (X.mv n.up) v i) :
  Acts cx.P B0 X (storeVar t ⟨b,f,none⟩ i) n y fun _ _=>sv=.un 1:=by
 obtain ⟨bd,s1,h2,h3⟩:=Run.bind h
 obtain ⟨a,j,Y,h5⟩:=Run.bind h3
 obtain ⟨V,s3,h6,h7⟩:=Run.bind h5
 obtain ⟨_,s4,h8,h9⟩:=Run.bind h7
 have H:=Run.put h8
 obtain ⟨I,J⟩:=Run.pure h9
 subst H
 subst I J
 obtain ⟨x1,K,_,hab,d,hd,L⟩:=zjd hB h2 (Y.sat (h6.sat hs)) m hv
 obtain ⟨RR,s5,h10,h11⟩:=Run.bind Y
 obtain ⟨I,J⟩:=Run.root h10
 subst J
 split at h11
 ·rename_i W N
  obtain ⟨_,s6,h12,h13⟩:=Run.bind h11
  obtain ⟨hbe,H⟩:=Run.guard h12
  subst H
  obtain ⟨f1,f2⟩:=Run.pure h13
  subst f1 f2
  have he:=Ty.beq_eq hbe
  subst he
  have z:(X.mv j.up).μ r=.row W a:=I.symm
  have hrep:=K.rep r O
  rw [z] at hrep
  obtain ⟨d1,a1,N⟩:=hrep
  obtain ⟨g1,g2,l,Q,A,g4,g5,_,g6⟩:=zrp (w:=X.w) (M:=(X.mv j.up).M) h6 hs ho hq a1 hd L.cells (by
   rcases N with ⟨p,_⟩|⟨_,_,_,_,l,F,_,p,_,_,S,_⟩
   ·rw [show ((X.mv j.up).β r).main=(X.β r).main from rfl,u] at p;grind
   ·exact .inr ⟨l,F,p,S⟩)
  rcases N with ⟨p,_⟩|⟨b',c,te,fr,l2,F,B,p2,U,p4,S,p6⟩
  ·rw [show ((X.mv j.up).β r).main=(X.β r).main from rfl,u] at p;grind
  ·rw [show ((X.mv j.up).β r).main=(X.β r).main from rfl,u] at B
   injection B with B
   rw [p2] at A
   injection A with A
   subst B A
   have hfr:=p4 trivial
   subst hfr
   obtain ⟨hfit,hnew⟩:=g6 F S
   have hlen:=L.cells.length
   obtain ⟨hcells,hinfo⟩:=zod ty hT h1
   have hw:=K.write (hnl:=by grind) hB (c':=(patch c.toList f i.cells.toList).toArray) (R:=.row W V) O (by grind [Root.own,Ctx.mv]) U (by grind [zbB]) (by rw [z];rfl)
    (fun _=>⟨by rw [z];rfl,fun e a d G hda=>(by
     rw [z] at G
     simp [Root.row?] at G
     obtain ⟨r1,r2⟩:=G
     subst r1 r2
     refine ⟨V,.sl Q,by simp [Ctx.wrote,upd_same,Root.row?],g4,?_⟩
     exact ⟨fun h=>(by grind),fun l0 hl=>(by grind)⟩),
     fun e a g G=>(by simp_all [Ctx.wrote,upd_same])⟩)
    (fun x2=>⟨.sl Q,g4,.inr ⟨b,_,te,(0,0),Q,patch F f i.cells.toList,u,rfl,setRow_heap _ _ _ _ _ _ U,fun _=>rfl,hnew.keep x2.K,by grind [zbB,ziL]⟩⟩)
   exact ⟨(),_,_,(zdI (P:=cx.P) (o:=f) (t:=t) (v:=i) U (by grind) hinfo (by grind) L.cells.ones),Nx.wrote (x.trans x1) K O (by grind [Root.own,Ctx.mv]) hw (by grind) (g2.trans hab),rfl⟩
 grind [Run.fail]
end
end Go.SX
namespace Go.SX
open Go.RowKit (Below)
theorem zwD:∀ {l}{i j b a:Nat},(opts l).Nodup→l[i]?=some (some b)→l[j]?=some (some a)→j≠i→a≠b
 | [],i,_,_,_,_,h,_,_=>by grind
 | o::l,0,0,_,_,_,_,_,h=>absurd rfl h
 | o::l,0,j + 1,b,a,e,d,c,_=>by grind [opts,zcB]
 | o::l,i + 1,0,b,a,e,d,c,_=>by grind [opts,zcB]
 | o::l,i + 1,j + 1,b,a,e,d,c,hne=>by
  refine zwD (l:=l) ?_ d c (by omega)
  cases o with
  | none=>grind [opts]
  | some x=>grind [opts]
theorem RowCells.set {w p M r}(K:Keeps w p M r) {e}:∀ {c}{f}{m}{i}{l}{a}{g},
  RowCells w M e c f m→(∀ j k,j≠i→c[j]?=some (some k)→p.heap[k]?=w.heap[k]?)→(i<f.length→RowCell p r e l a g)→RowCells p r e (c.set i l) (f.set i a) (m.set i g)
 | [],[],[],i,l,a,g,h,_,_=>by simp [RowCells]
 | o::c,d::f,v::m,0,l,a,g,h,n,q=>by
  refine ⟨q (by simp),RowCells.keep K (fun b s=>?_) h.2⟩
  obtain ⟨j,t⟩:=List.mem_iff_getElem?.1 s
  exact n (j + 1) b (by omega) (by grind)
 | o::c,d::f,v::m,i + 1,l,a,g,h,n,q=>by
  refine ⟨RowCell.keep K (fun b s=>n 0 b (by omega) (by grind)) h.1,RowCells.set K h.2 (fun j k t s=>n (j + 1) k (by omega) (by grind)) fun hi=>q (by grind)⟩
 | [],_::_,_,_,_,_,_,h,_,_|_::_,[],_,_,_,_,_,h,_,_|[],[],_::_,_,_,_,_,h,_,_|_::_,_::_,[],_,_,_,_,h,_,_=>by grind [RowCells]
section
variable {C:FuncId→List D→Option (List D)} {k B0:Nat} {X:Ctx} {cx:Cx}
theorem zsW {e r g a d b f}(h:Run (zI1 e r g) d b a f):f=b∧now d b.up r=.mat e a g:=by
 obtain ⟨RR,s1,j,i⟩:=Run.bind h
 obtain ⟨e1,e2⟩:=Run.root j
 split at i
 ·obtain ⟨_,s2,k,l⟩:=Run.bind i
  obtain ⟨c,es⟩:=Run.guard k
  obtain ⟨f1,f2⟩:=Run.pure l
  simp  at c
  have he:=Ty.beq_eq c.1
  simp_all
 grind [Run.fail]
theorem zfn {e r a d b f}(h:Run (rowAt e r) d b a f):f=b∧now d b.up r=.row e a:=by
 obtain ⟨RR,s1,g,c⟩:=Run.bind h
 obtain ⟨e1,e2⟩:=Run.root g
 split at c
 ·obtain ⟨_,s2,h3,h4⟩:=Run.bind c
  grind [Run.guard,Run.pure,Ty.beq_eq]
 grind [Run.fail]
theorem zzk {l i y a}(hy:l[i]?=some y) (hs:sameLen y a):sameRows (.sl l) (.sl (l.set i a)):=fun ds hd=>by
 refine ⟨_,rfl,fun j x hx=>?_⟩
 by_cases hj:j=i
 ·grind
 simp_all [Ne.symm,sameLen.refl]
theorem Mem.inRow {e r g i b a o l P ll' q f L off cv}(m:Mem B0 X) (hB:B0≤X.w.heap.size) (G:X.A r) (s:X.μ r=.mat e a g) (N:a.get X.E=some (.sl l))
  (H:(X.β r).rows[i]?=some (some b)) (O:l[i]?=some (.sl P)) (A:o.get X.E=some (.sl (l.set i (.sl ll')))) (hll:ll'.length=P.length) (R:X.w.heap[b]?=some (.cells f L (0,0)))
  (hc:f.toList.take q.length=q) (hfit:off + cv.length≤q.length) (hnew:DRepA X.w X.M e ll' (patch q off cv)) :
  b∈(X.μ r).own (X.β r)∧Ext X (X.wrote b (patch f.toList off cv).toArray r (.mat e o g))∧Mem B0 (X.wrote b (patch f.toList off cv).toArray r (.mat e o g)):=by
 refine ⟨(by grind [Root.own,zcB]),m.write hB G (by grind [Root.own,zcB]) R (by grind [zbB]) (by rw [s];rfl) (fun _=>⟨by rw [s];rfl,fun B a1 d k t=>?_,fun B a1 n k=>?_⟩) fun x=>?_⟩
 ·rw [s] at k
  simp [Root.row?] at k
  obtain ⟨F,z⟩:=k
  subst F z
  exact ⟨o,_,by simp [Ctx.wrote,upd_same,Root.row?],A,fun h=>(by grind),fun l0 hl0=>(by grind)⟩
 ·simp only [Ctx.wrote,upd_same] at k
  injection k with F z r3
  subst F z r3
  refine ⟨a,g,s,wG0 _,fun _=>⟨rfl,fun d t=>?_⟩⟩
  rw [N] at t
  injection t with t
  subst t
  exact ⟨_,A,zzk O ⟨fun h=>(by grind),fun l0 hl0=>(by grind)⟩⟩
 ·have hrep:=m.rep r G
  have w:=m.once r G
  rw [s] at hrep w
  obtain ⟨d,n,g2⟩:=hrep
  rw [N] at n
  injection n with n
  subst n
  rcases g2 with ⟨_,p,_⟩|⟨bm,c,te',l2,u,p1,I,p3,Q,p5⟩
  ·grind
  ·injection I with I
   subst I
   simp [Root.own,p1,Option.toList,zcB] at w
   have hne:bm≠b:=fun h=>w.1 (h▸List.mem_of_getElem? H)
   obtain ⟨v,hv,hrc⟩:=Q.get O H
   have hset:RowCells (X.w.setRow b (patch f.toList off cv).toArray) (X.wrote b (patch f.toList off cv).toArray r (.mat e o g)).M e ((X.β r).rows.set i (some b)) (l.set i (.sl ll')) (u.set i v):=by
    refine RowCells.set x.K Q (fun j b' hj hb'=>setRow_other _ _ _ _ (zwD w.2 H hb' hj)) fun _=>?_
    rcases hrc with ⟨y,_⟩|⟨bb,l3,c3,te3,xs3,cap,y,J,c3',c4,c5,c6,c7,c8⟩
    ·grind
    ·injection y with y
     injection J with J
     subst y J
     refine .inr ⟨b,ll',(patch f.toList off cv).toArray,L,patch q off cv,cap,rfl,rfl,setRow_heap _ _ _ _ _ _ R,hnew.keep x.K,?_,by grind,by omega,?_⟩
     all_goals grind [zbB,ziL]
   have B:(X.β r).rows.set i (some b)=(X.β r).rows:=by
    apply List.ext_getElem?
    grind
   have e2:u.set i v=u:=by
    apply List.ext_getElem?
    grind
   rw [B,e2] at hset
   exact ⟨_,A,.inr ⟨bm,c,te',_,u,p1,rfl,(setRow_other _ _ _ _ hne).trans p3,hset,p5⟩⟩
theorem zxU (ty:TysOk cx) (hB:B0≤X.w.heap.size) {t e T r g N q v sv S z}(m:Mem B0 X) (h0:S.up=[]) (h:Run (zFv e T r N q g v) X.μ S sv z) (A:Sat C k X.E z.bs z.nv)
  (hT:cx.T t=T) (h1:cx.cell1 t=true) {V L} (hx:Ref X (.pm e T r N q g) V) (hv:VRep X v L) :
  Acts cx.P B0 X (Instr.storeAt t V L) S z fun _ _=>sv=.un 1:=by
 obtain ⟨_,s1,h2,h3⟩:=Run.bind h
 obtain ⟨_,n⟩:=Run.guard h2
 subst n
 obtain ⟨bd,s2,h4,h5⟩:=Run.bind h3
 obtain ⟨a,s3,W,h7⟩:=Run.bind h5
 obtain ⟨y,s4,Y,h9⟩:=Run.bind h7
 obtain ⟨y',s5,O,h11⟩:=Run.bind h9
 obtain ⟨a',s6,s,h13⟩:=Run.bind h11
 obtain ⟨_,s7,h14,h15⟩:=Run.bind h13
 have n:=Run.put h14
 obtain ⟨e1,e2⟩:=Run.pure h15
 subst n
 subst e1 e2
 have hmv:X.mv s1.up=X:=by rw [h0];rfl
 obtain ⟨Q,R,_,hab,d,hd,K⟩:=zjd hB h4 (W.sat (Y.sat (O.sat (s.sat A)))) (by grind) (by rw [hmv];exact hv)
 rw [hmv] at Q
 obtain ⟨n,j⟩:=zsW W
 subst n
 have j:(X.mv s3.up).μ r=.mat e a g:=j
 have f:=hx.ext Q
 obtain ⟨_,hA,f⟩:=f
 obtain ⟨_,f⟩:=f _ _ _ j
 obtain ⟨_,kk,i,b,off,v1,v2,v3,v4,v5⟩:=f rfl
 have hrep:=R.rep r hA
 rw [j] at hrep
 obtain ⟨d1,f1,f2⟩:=hrep
 obtain ⟨⟨w0,wi,yd,x,G,q3,q4⟩,q5,q6⟩:=Run.op2 Y (O.sat (s.sat A))
 have f1':a.get X.E=some d1:=f1
 have v1':N.get X.E=some (.int kk (Int.ofNat i)):=v1
 rw [f1'] at x
 rw [v1'] at G
 injection x with x
 injection G with G
 subst x G
 rcases f2 with ⟨_,p1,p2⟩|⟨bm,c,te,l,xs,p1,p2,p3,p4,p5⟩
 ·grind
 ·subst p2
  obtain ⟨u,hu,hrc⟩:=p4.get q3 v2
  rcases hrc with ⟨H,_⟩|⟨bb,ll,cc,te',xs',cap,H,c2,c3,c4,c5,c6,c7,c8⟩
  ·grind
  ·injection H with H
   subst H c2
   obtain ⟨g1,g2,l1,l',U,g4,g5,_,g6⟩:=zrp (w:=X.w) (M:=(X.mv s3.up).M) O (s.sat A) v4 v5 q4 hd K.cells (.inr ⟨ll,xs',rfl,c4⟩)
   injection U with U
   subst U
   obtain ⟨hfit,hnew⟩:=g6 xs' c4
   obtain ⟨⟨z0,z1,z2,z3,F,I,J,p,o5⟩,o6,o7⟩:=Run.op3 s A
   rw [f1'] at F
   rw [v1'] at I
   rw [g4] at J
   injection F with F
   injection I with I
   injection J with J
   subst F I J
   simp only [Prim.run] at p
   split at p
   ·injection p with p
    subst p
    obtain ⟨hmem,hw⟩:=R.inRow hB hA j f1 v2 q3 o5 g5 c3 c5 hfit hnew
    have hlen:=K.cells.length
    obtain ⟨hcells,hinfo⟩:=zod ty hT h1
    have hrun:=zdI (P:=cx.P) (w:=X.w) (o:=off) (t:=t) (v:=L) c3 (by grind) hinfo (by grind) K.cells.ones
    refine ⟨(),_,_,?_,Nx.wrote Q R (by grind [Ref]) hmem hw (by rw [o6,g1,q5]) (by rw [o7,g2,q6,hab]),rfl⟩
    grind [Instr.storeAt,Instr.sureAddr]
   grind
end
end Go.SX
namespace Go.SX
open Go.RowKit (Below)
theorem zk4 {l i b o}(h:b∈opts (l.set i o)):o=some b∨b∈opts l:=by grind [zcB]
theorem zh5:∀ {l}{i}{o},(opts l).Nodup→(∀ b,o=some b→b∉opts l)→(opts (l.set i o)).Nodup
 | [],_,_,_,_=>by grind
 | x::l,0,o,h,a=>by
  have hl:(opts l).Nodup:=by
   cases x with
   | none=>grind [opts]
   | some b=>grind [opts]
  cases o with
  | none=>grind [opts]
  | some b =>
   cases x with
   | none=>grind [opts]
   | some e=>grind [opts]
 | x::l,i + 1,o,h,a=>by
  cases x with
  | none =>
   simp  at h a ⊢
   exact zh5 h a
  | some e =>
   simp only [List.set_cons_succ,opts,List.nodup_cons,List.mem_cons] at h a ⊢
   refine ⟨fun c=>?_,zh5 h.2 fun b c d=>a b c (.inr d)⟩
   grind [zk4]
section
variable {C:FuncId→List D→Option (List D)} {k B0:Nat} {X:Ctx} {cx:Cx}
theorem zpG {e g}:∀ {l}{f}{c d},Run (zwd e l) g c f d →
  ∃ b:List (Nat×At),l=b.map (fun p=>.h e p.1 none)∧f=b.map (·.2)∧(b.map (·.1)).Nodup∧(∀ p∈b,now g c.up p.1=.row e p.2) ∧
   d.up=(b.map fun p=>(p.1,Root.dead)).reverse++c.up∧d.ab=c.ab
 | [],f,c,d,h=>by
  obtain ⟨y,m⟩:=Run.pure h
  simp_all
 | s::l,f,c,d,h=>by
  unfold zwd at h
  split at h
  ·grind
  ·rename_i e' r l' n
   injection n with z o
   subst z o
   obtain ⟨RR,s1,q,k⟩:=Run.bind h
   obtain ⟨y,m⟩:=Run.root q
   subst m
   split at k
   ·rename_i u a
    obtain ⟨_,v,w,x⟩:=Run.bind k
    obtain ⟨i,j⟩:=Run.guard w
    subst j
    simp  at i
    have he:=Ty.beq_eq i.1
    have he2:=Ty.beq_eq i.2
    obtain ⟨_,s3,A,B⟩:=Run.bind x
    have j:=Run.put A
    subst j
    obtain ⟨as',s4,F,G⟩:=Run.bind B
    obtain ⟨H,I⟩:=Run.pure G
    subst H I
    obtain ⟨b,p1,p2,p3,J,p5,K⟩:=zpG F
    have hne:∀ p∈b,p.1≠r∧now g v.up p.1=.row u p.2:=fun p t=>by
     have:=J p t
     rw [zca] at this
     grind [upd_same,upd_ne]
    refine ⟨(r,a)::b,by grind,by grind,?_,?_,by grind,K⟩
    all_goals grind
   grind [Run.fail]
  grind [Run.fail]
theorem zpw (m:Mem B0 X) {e r a d v}(w:X.A r) (p:X.μ r=.row e a) (q:a.get X.E=some d) (G:Ref X (.h e r none) v):RowCell X.w X.M e (X.β r).main d v:=by
 have s:=m.rep r w
 rw [p] at s
 obtain ⟨a',d',f,i,A⟩:=G.2.2 (by rw [p];rfl)
 rw [p] at f
 simp only [Root.row?,wB0,Prod.mk.injEq] at f
 obtain ⟨_,f⟩:=f
 subst f
 rw [q] at i
 injection i with i
 subst i
 obtain ⟨d2,n,u⟩:=s
 rw [q] at n
 injection n with n
 subst n
 rcases A with ⟨j,k,_⟩|⟨b,l,j,k,x,bs,y,z,p5,p6⟩
 ·exact .inl ⟨j,k⟩
 ·rcases u with ⟨g,_⟩|⟨b',c,B,fr,l',F,g,o,H,I,J,K⟩
  ·grind
  ·rw [j] at g
   injection g with g
   rw [k] at o
   injection o with o
   subst g o
   have t:=I trivial
   subst t
   refine .inr ⟨b,l,c,B,F,x,j,k,H,J,K,y,z,?_⟩
   grind [bsize]
def Ctx.gave (X:Ctx) (bm:Nat) (c:Array Value) (r rv i:Nat) (R:Root):Ctx :=
 { E:=X.E,w:=X.w.setRow bm c,μ:=upd (upd X.μ rv .dead) r R,β:=upd X.β r ⟨(X.β r).main,(X.β r).rows.set i (X.β rv).main⟩,A:=X.A,F:=X.F }
theorem Mem.give {e r g i f o a u av l dv t c te}(m:Mem B0 X) (hB:B0≤X.w.heap.size) (v:X.A r) (G:X.μ r=.mat e a g) (H:X.A f) (hRv:X.μ f=.row e av)
  (ha:a.get X.E=some (.sl l)) (hav:av.get X.E=some dv) (ha':u.get X.E=some (.sl (l.set i dv))) (hi:i<l.length) (L:(X.β r).main=some o) (N:X.w.heap[o]?=some (.cells c te (0,0))) (hv:Ref X (.h e f none) t) :
  Ext X (X.gave o (patch c.toList i [t]).toArray r f i (.mat e u (g + 1)))∧Mem B0 (X.gave o (patch c.toList i [t]).toArray r f i (.mat e u (g + 1))):=by
 have O:f≠r:=fun h=>by grind
 have hrep:=m.rep r v
 have A:=m.once r v
 rw [G] at hrep A
 simp [Root.own,L,Option.toList] at A
 obtain ⟨d,z,g2⟩:=hrep
 rw [ha] at z
 injection z with z
 subst z
 rcases g2 with ⟨p,_,_⟩|⟨bm',c',te',l2,xs,F,R,y,p4,p5⟩
 ·grind
 ·rw [L] at F
  injection F with F
  injection R with R
  subst F R
  rw [N] at y
  injection y with y
  injection y with y p3' _
  subst y p3'
  have hlens:=RowCells.lens p4
  have hfit:i + [t].length≤c.toList.length:=by grind
  have M:∀ b,(X.β f).main=some b→b∈(X.μ f).own (X.β f):=fun b s=>by grind [Root.own]
  have B:∀ b,b=o∨b∈opts (X.β r).rows→b∈(X.μ r).own (X.β r):=fun b s=>by grind [Root.own]
  have hd:(X.gave o (patch c.toList i [t]).toArray r f i (.mat e u (g + 1))).μ f=.dead:=by simp_all [Ctx.gave,upd_same,upd_ne]
  have I:(X.gave o (patch c.toList i [t]).toArray r f i (.mat e u (g + 1))).μ r=.mat e u (g + 1):=by simp [Ctx.gave,upd_same]
  have K:(X.gave o (patch c.toList i [t]).toArray r f i (.mat e u (g + 1))).β r=⟨some o,(X.β r).rows.set i (X.β f).main⟩:=by simp [Ctx.gave,upd_same,L]
  have hβv:(X.gave o (patch c.toList i [t]).toArray r f i (.mat e u (g + 1))).β f=X.β f:=by simp_all [Ctx.gave,upd_ne]
  refine Mem.change m hB (fun q=>q=r∨q=f) (fun _ _ h=>h) (fun _ h=>h) (fun q h=>.inl h) (fun q k=>?_) (fun q _ k=>setRow_other _ _ _ _ fun e=>k r (.inl rfl) v (e▸B o (.inl rfl))) (fun q n h=>zev N (by grind [zbB]) h) ?_ ?_ ?_ ?_ ?_ ?_
  ·simp_all [Ctx.gave,upd_ne]
  ·grind [Root.own,zk4]
  ·grind [Root.own]
  ·intro q k _
   rcases k with k|k
   ·subst k
    rw [I,K]
    simp [Root.own,Option.toList]
    refine ⟨fun s=>?_,zh5 A.2 fun b s P=>O (m.apart f q b H v (M b s) (B b (.inr P)))⟩
    rcases zk4 s with s|s
    ·exact O (m.apart f q o H v (M o s) (B o (.inl rfl)))
    grind
   grind [Root.own]
  ·grind
  ·intro q k _ ht
   rcases k with k|k
   ·subst k
    refine ⟨by rw [G];rfl,fun e1 a1 d1 w J=>?_,fun e1 a1 z w=>?_⟩
    ·rw [G] at w
     simp [Root.row?] at w
     obtain ⟨Q,r2⟩:=w
     subst Q r2
     rw [ha] at J
     injection J with J
     subst J
     exact ⟨u,_,by rw [I];rfl,ha',fun h=>(by grind),fun l0 hl0=>(by injection hl0 with hl0;subst hl0;exact ⟨_,rfl,by simp⟩)⟩
    ·rw [I] at w
     injection w with Q r2 r3
     subst Q r2 r3
     exact ⟨a,g,G,by omega,fun h=>(by omega)⟩
   ·subst k
    rw [hd] at ht
    cases ht
  ·intro x q k _
   rcases k with k|k
   ·subst k
    rw [I]
    refine ⟨_,ha',.inr ⟨o,_,te,_,xs.set i t,by rw [K],rfl,setRow_heap _ _ _ _ _ _ N,?_,?_⟩⟩
    ·rw [K]
     refine RowCells.set x.K p4 (fun j b' _ P=>setRow_other _ _ _ _ fun e=>A.1 (e▸zcB.2 (List.mem_of_getElem? P))) fun _=>RowCell.keep x.K (fun b s=>setRow_other _ _ _ _ fun e=>?_) (zpw m H hRv hav hv)
     exact O (m.apart f q o H v (M o (e▸s)) (B o (.inl rfl)))
    ·rw [vN0,ziL (by grind) (by simp;omega),p5]
     simp only [patch,List.length_singleton]
     rw [List.set_eq_take_append_cons_drop,if_pos (by omega)]
     simp
   ·subst k
    rw [hd]
    trivial
end
end Go.SX
namespace Go.SX
open Go.RowKit (Below)
section
variable {C:FuncId→List D→Option (List D)} {k B0:Nat} {X:Ctx} {cx:Cx}
theorem zns {e g}:∀ {l}{b}{a c},Run (allRows e l) g a b c→c=a
 | [],b,a,c,h=>by grind [allRows,Run.pure]
 | s::l,b,a,c,h=>by
  unfold allRows at h
  split at h
  ·grind
  ·rename_i i
   injection i with h1 h2
   obtain ⟨RR,s1,j,d⟩:=Run.bind h
   obtain ⟨_,f⟩:=Run.root j
   subst f
   split at d
   ·split at d
    ·exact zns d
    grind [Run.pure]
   grind [Run.pure]
  grind [Run.pure]
theorem zvA (ty:TysOk cx) (hB:B0≤X.w.heap.size) {t e r b J q v I G s}(m:Mem B0 X) (h0:G.up=[]) (h:Run (zCv e r q v) X.μ G I s) (hs:Sat C k X.E s.bs s.nv)
  (S:tyAt q (.arr 0 (.sl e))=some (cx.T t)) (h1:cx.cell1 t=true) (B:X.A r) (K:(X.β r).main=some b) (L:tOff X.E q (.arr 0 (.sl e))=some J) {d} (F:VRep X v d) :
  Acts cx.P B0 X (storeVar t ⟨b,J,none⟩ d) G s fun _ _=>I=.un 1:=by
 obtain ⟨as,s1,h2,U⟩:=Run.bind h
 obtain ⟨ps,f,n,p3,p4,A,p6⟩:=zpG h2
 split at U
 ·rename_i bd ix
  simp [tyAt] at S
  obtain ⟨RR,s2,h4,M⟩:=Run.bind U
  obtain ⟨x,e2⟩:=Run.root h4
  subst e2
  split at M
  ·rename_i e' a g
   obtain ⟨_,s3,h6,h7⟩:=Run.bind M
   obtain ⟨hbe,H⟩:=Run.guard h6
   subst H
   have he:=Ty.beq_eq hbe
   subst he
   obtain ⟨a',s4,h8,h9⟩:=Run.bind h7
   obtain ⟨_,s5,h10,h11⟩:=Run.bind h9
   have H:=Run.put h10
   obtain ⟨f1,f2⟩:=Run.pure h11
   subst H
   subst f1 f2
   match ps,f,n with
   | [(O,av)],f,n =>
    simp at f n
    subst f n
    have hRv  := by
     have:=p4 (O,bd) (by simp)
     rw [h0,zbI] at this
     omega
    simp [List.reverse_singleton,h0] at A
    rw [A,zca,zbI] at x
    rw [upd_ne _ _ (fun h=>by grind [upd_same])] at x
    simp only [VRep] at F
    have Q:=m.rep r B
    rw [x.symm] at Q
    obtain ⟨d1,R,a2⟩:=Q
    obtain ⟨⟨z0,z1,z2,z3,u,o2,o3,i,o5⟩,o6,o7⟩:=Run.op3 h8 hs
    rw [R] at u
    injection u with u
    subst u
    rcases a2 with ⟨p,_,_⟩|⟨bm,c,te,l,xs,y,q2,q3,q4,q5⟩
    ·grind
    ·rw [K] at y
     injection y with y
     subst y q2
     cases z1<;>simp only [Prim.run,reduceCtorEq] at i
     rename_i kk z
     split at i
     ·rename_i hz
      injection i with i
      subst i
      simp [tOff,o2,if_pos hz.1,Ty.size] at L
      subst L
      have hlens:=RowCells.lens q4
      have hone:=Ref.one F
      have hcs:d.cells.toList=[d]:=by rw [hone.cells]
      obtain ⟨hcells,hinfo⟩:=zod ty S.symm h1
      have hrun:=zdI (P:=cx.P) (w:=X.w) (o:=z.toNat) (t:=t) (v:=d) q3 (by rw [hcells,hone.cells];rfl) hinfo (by grind) (by grind)
      rw [hcs] at hrun
      obtain ⟨x2,m2⟩:=m.give hB B x.symm (by grind [Ref]) hRv R o3 o5 (by omega) K q3 F
      refine ⟨(),_,X.gave b (patch c.toList z.toNat [d]).toArray r O z.toNat (Root.mat e' a' (g + 1)),hrun,⟨rfl,rfl,?_,fun q=>⟨fun h=>.inl h,fun h=>h.elim id fun h=>?_⟩,x2,m2,below_setRow (Below.refl _ _) (m.low r b B (by grind [Root.own])) _⟩,rfl⟩
      ·rw [o6,A,zca,zca,zbI]
       rfl
      grind
     grind
   | [],f,_=>grind
   | _::_::_,f,_=>grind
  grind [Run.fail]
 grind [Run.fail]
theorem Mem.unlend (m:Mem B0 X) (w:B0≤X.w.heap.size) {r f}(v:X.A r) {e a}(i:X.μ r=.lt e a f) (j:(X.μ f).noLt=true) :
  Ext X { X with μ:=upd (upd X.μ f .dead) r (.row e a) }∧Mem B0 { X with μ:=upd (upd X.μ f .dead) r (.row e a) }:=by
 have hne:f≠r:=fun h=>by rw [h,i] at j;cases j
 have k:(upd (upd X.μ f .dead) r (.row e a)) r=.row e a:=by simp [upd_same]
 have t:(upd (upd X.μ f .dead) r (.row e a)) f=.dead:=by grind [upd_ne,upd_same]
 refine Mem.change m w (fun q=>q=r∨q=f) (fun _ _ h=>h) (fun _ h=>h) (fun q h=>.inl h) (fun q c=>⟨?_,rfl⟩) (fun _ _ _=>rfl) (fun _ _ h=>h) ?_ ?_ ?_ (fun _ _ _=>rfl) ?_ ?_ rfl ?_
 ·grind [upd_ne]
 ·intro q b c _ n
  simp only at n
  rcases c with c|c
  ·subst c
   rw [k] at n
   exact .inr ⟨q,.inl rfl,v,by rw [i];exact n⟩
  grind [Root.own]
 ·grind [Root.own]
 ·grind [Root.own]
 ·intro q c ha o
  simp only at o
  rcases c with c|c
  ·subst c
   refine ⟨by rw [i];rfl,fun u l d p y=>⟨l,d,?_,y,sameLen.refl d⟩,fun u l g p=>?_⟩
   ·rw [i] at p
    show (upd (upd X.μ f .dead) q (.row e a) q).row?=_
    rw [k]
    exact p
   grind
  ·subst c;rw [t] at o;cases o
 ·intro x q c _
  show RootRep _ q (upd (upd X.μ f .dead) r (.row e a) q)
  rcases c with c|c
  ·subst c
   rw [k]
   have:=m.rep q v
   rw [i] at this
   exact RowRep.keep x rfl (fun _ _=>rfl) this
  ·subst c;rw [t];trivial
 ·intro q c _ u l q' h
  rcases c with c|c
  ·grind
  ·subst c;rw [h] at j;cases j
theorem zyZ {e r s p a}(h:Run (SV.view true (.sl e) (.h e r none)) X.μ s a p) {q T v}(u:(X.mv s.up).μ q=.box T v):(X.mv p.up).μ q=.box T v:=by
 simp only [SV.view] at h
 obtain ⟨_,s1,z,B⟩:=Run.bind h
 obtain ⟨_,b⟩:=Run.guard z
 subst b
 obtain ⟨a0,s2,o,x⟩:=Run.bind B
 obtain ⟨_,w⟩:=Run.pure x
 subst w
 unfold znz at o
 obtain ⟨R,s3,y,f⟩:=Run.bind o
 obtain ⟨t,b⟩:=Run.root y
 subst b
 cases R with
 | row i j =>
  obtain ⟨_,k,c,d⟩:=Run.bind f
  obtain ⟨_,b⟩:=Run.guard c
  subst b
  obtain ⟨_,A,m,n⟩:=Run.bind d
  have b:=Run.put m
  obtain ⟨_,l⟩:=Run.pure n
  subst b l
  rw [Ctx.mv_cons]
  show upd _ r _ q=_
  rw [upd_ne]
  ·omega
  ·intro h
   subst h
   have:=t.trans u
   grind
 | mat i j g =>
  obtain ⟨_,k,c,d⟩:=Run.bind f
  obtain ⟨_,b⟩:=Run.guard c
  subst b
  obtain ⟨_,A,m,n⟩:=Run.bind d
  have b:=Run.put m
  obtain ⟨_,l⟩:=Run.pure n
  subst b l
  rw [Ctx.mv_cons]
  show upd _ r _ q=_
  rw [upd_ne]
  ·omega
  ·intro h
   subst h
   have:=t.trans u
   grind
 | fz i j =>
  obtain ⟨_,k,c,d⟩:=Run.bind f
  grind [Run.guard,Run.pure]
 | lt i j q1 =>
  obtain ⟨_,k,c,d⟩:=Run.bind f
  grind [Run.guard]
 | _=>grind [Run.fail]
theorem znx (u:B0≤X.w.heap.size):∀ {l f}{o}{c b}{n},Run (zA0 l) X.μ c f b→Sat C k X.E b.bs b.nv→Mem B0 (X.mv c.up)→CRepL (X.mv c.up) l o n →
  Ext (X.mv c.up) (X.mv b.up)∧Mem B0 (X.mv b.up)∧b.ab=c.ab∧CRepL (X.mv b.up) f o n∧∀ q T v,(X.mv c.up).μ q=.box T v→(X.mv b.up).μ q=.box T v
 | [],f,o,c,b,n,h,j,m,p=>by
  obtain ⟨g,i⟩:=Run.pure h
  subst g i
  exact ⟨Ext.refl _,m,rfl,p,fun _ _ _ h=>h⟩
 | s::l,f,[],c,b,n,h,j,m,p=>by grind [CRepL]
 | s::l,f,T::o,c,b,n,h,j,m,p=>by
  obtain ⟨B,c2,L,ht,M,z⟩:=p
  have keep:∀ {b:SS},Run (zA0 l >>= fun f=>SX.X.pure (s::f)) X.μ c f b→Sat C k X.E b.bs b.nv→Ext (X.mv c.up) (X.mv b.up)∧Mem B0 (X.mv b.up)∧b.ab=c.ab∧CRepL (X.mv b.up) f (T::o) n∧∀ q T v,(X.mv c.up).μ q=.box T v→(X.mv b.up).μ q=.box T v:=by
   intro b h j
   obtain ⟨N,A,t,y⟩:=Run.bind h
   obtain ⟨g,i⟩:=Run.pure y
   subst g i
   obtain ⟨x,m',G,H,F⟩:=znx u t j m z
   grind [CRepL,CRep.ext]
  unfold zA0 at h
  split at h
  ·grind
  ·rename_i e r l0 heq
   injection heq with g i
   subst g i
   rcases Run.ite h with ⟨hf,h⟩|⟨_,h⟩
   ·obtain ⟨a,A,t,y⟩:=Run.bind h
    obtain ⟨N,s2,I,h4⟩:=Run.bind y
    obtain ⟨g,i⟩:=Run.pure h4
    subst g i
    obtain ⟨J,m1,_,G,d,g1,g2⟩:=zlM u t (I.sat j) m M
    obtain ⟨x2,m2,hab2,H,F⟩:=znx u I j m1 (CRepL.ext J z)
    refine ⟨J.trans x2,m2,hab2.trans G,?_,fun q T v K=>F q T v (zyZ t K)⟩
    refine ⟨B,c2,L,?_,?_,H⟩
    ·grind [SV.hasTy]
    ·have g3:CRep (X.mv A.up) (.d (.sl e) a) B:=by exact ⟨d,g1,g2⟩
     grind [CRep.ext]
   grind
  grind
theorem zDX (hB:B0≤X.w.heap.size) {s e b a v}(h:Run (calm s) X.μ b e a) (hs:Sat C k X.E a.bs a.nv) (m:Mem B0 (X.mv b.up)) (f:VRep (X.mv b.up) s v) :
  Ext (X.mv b.up) (X.mv a.up)∧Mem B0 (X.mv a.up)∧a.ab=b.ab∧VRep (X.mv a.up) e v∧∀ q T v,(X.mv b.up).μ q=.box T v→(X.mv a.up).μ q=.box T v:=by
 unfold calm at h
 split at h
 ·rename_i T l
  obtain ⟨l',s1,h1,i⟩:=Run.bind h
  obtain ⟨g,c⟩:=Run.pure i
  cases T<;>simp only [VRep] at f
  grind [znx,VRep]
 ·obtain ⟨g,c⟩:=Run.pure h
  subst g c
  exact ⟨Ext.refl _,m,rfl,f,fun _ _ _ h=>h⟩
theorem zqO {fz e r o n a}(h:Run (znz fz e r) X.μ o a n) {q}(hq:q≠r):(X.mv n.up).μ q=(X.mv o.up).μ q:=by
 obtain ⟨R,s1,t,f⟩:=Run.bind h
 obtain ⟨hR,e1⟩:=Run.root t
 cases R with
 | row j k =>
  obtain ⟨_,l,c,b⟩:=Run.bind f
  obtain ⟨_,p⟩:=Run.guard c
  cases fz with
  | false=>grind [Run.pure]
  | true =>
   obtain ⟨_,s,m,i⟩:=Run.bind b
   rw [(Run.pure i).2,Run.put m,Ctx.mv_cons]
   grind [upd_ne]
 | mat j k g =>
  obtain ⟨_,l,c,b⟩:=Run.bind f
  obtain ⟨_,p⟩:=Run.guard c
  cases fz with
  | false=>grind [Run.pure]
  | true =>
   obtain ⟨_,s,m,i⟩:=Run.bind b
   rw [(Run.pure i).2,Run.put m,Ctx.mv_cons]
   grind [upd_ne]
 | fz j k =>
  obtain ⟨_,l,c,b⟩:=Run.bind f
  grind [Run.guard,Run.pure]
 | lt j k q' =>
  obtain ⟨_,l,c,b⟩:=Run.bind f
  grind [Run.guard,Run.pure]
 | _=>grind [Run.fail]
theorem zDo {a i v}(h:i<a.length):patch a i [v]=a.set i v:=by grind [List.set_eq_take_append_cons_drop,patch]
theorem zxb (ty:TysOk cx) (hB:B0≤X.w.heap.size) (m:Mem B0 X) {t e r b L I a A J B n}(h0:B.up=[]) (h:Run (zEP e r a A I) X.μ B J n) (hs:Sat C k X.E n.bs n.nv)
  (hT:cx.T t=.sl e) (h1:cx.cell1 t=true) (y:X.A r) (j:X.μ r=.row (.sl e) a) (q:(X.β r).main=some b) (K:tOff X.E [.i A] (.arr 0 (.sl e))=some L) {f} (hv:VRep X (.h e I none) f) :
  Acts cx.P B0 X (storeVar t ⟨b,L,none⟩ f) B n fun _ _=>J=.un 1:=by
 obtain ⟨_,s1,g1,g2⟩:=Run.bind h
 obtain ⟨O,_⟩:=zfn g1
 obtain ⟨_,s2,g3,g4⟩:=Run.bind g2
 obtain ⟨_,O⟩:=Run.guard g3
 obtain ⟨_,Q,g5,g6⟩:=Run.bind g4
 obtain ⟨_,s4,g7,g8⟩:=Run.bind g6
 have O:=Run.put g7
 obtain ⟨H,e2⟩:=Run.pure g8
 subst H e2
 have hs3:Sat C k X.E Q.bs Q.nv:=by grind
 obtain ⟨⟨d0,di,d,p,S,F,q4⟩,q5,q6⟩:=Run.op2 g5 hs3
 have U:=m.rep r y
 rw [j] at U
 obtain ⟨d1,V,f2⟩:=U
 rw [V] at p
 injection p with p
 subst p
 rcases f2 with ⟨G,p2⟩|⟨M,c,te,fr,l,xs,G,p2,u,p4,N,p6⟩
 ·grind
 rw [G] at q
 injection q with q
 subst q p2
 rw [p4 trivial] at u
 cases di<;>simp only [Prim.run,reduceCtorEq] at F
 rename_i kk z
 split at F
 ·rename_i hz
  obtain ⟨i,rfl⟩:∃ i:Nat,z=(i:Int):=⟨z.toNat,(vR0 hz).symm⟩
  have hil  := (List.getElem?_eq_some_iff.1 F).1
  simp [tOff,S,if_pos hz,Ty.size] at K
  subst K
  have hone:One f:=by grind [VRep,Ref]
  have hcv:f.cells.toList=[f]:=by rw [hone.cells]
  have hxl:=N.length
  simp [Ty.size] at hxl
  have hcl:xs.length≤c.toList.length:=by grind
  obtain ⟨hcells,hinfo⟩:=zod ty hT h1
  have hrun:=zdI (P:=cx.P) (o:=i) (t:=t) (v:=f) u (by rw [hcells,hone.cells];rfl) hinfo (by grind) (by grind)
  rw [hcv,zDo (by omega)] at hrun
  have hmem:M∈(X.μ r).own (X.β r):=by grind [Root.own]
  have hw:=m.write (hnl:=by grind) hB (c':=(c.toList.set i f).toArray) (R:=.ow e a A I) y hmem u (by simp) (by rw [j];rfl)
   (fun _=>⟨by rw [j];rfl,fun H a1 d w hd=>⟨a,d,by simp_all [Root.row?,Ctx.wrote,upd_same],by rw [j] at w;simp [Root.row?] at w;rw [w.2];exact hd,sameLen.refl d⟩,fun H a1 g w=>(by simp_all [Ctx.wrote,upd_same])⟩)
   (fun x=>⟨l,M,_,te,xs,kk,i,f,V,G,setRow_heap _ _ _ _ _ _ u,N.keep x.K,S,hil,by grind [List.take_set],Ref.ext x (by grind [VRep])⟩)
  exact ⟨(),_,_,hrun,Nx.wrote (up:=[]) (Ext.refl X) m y hmem hw (by grind) (by grind),rfl⟩
 grind
theorem zyW (hB:B0≤X.w.heap.size) (m:Mem B0 X) {v u s0 s'}(h0:s0.up=[]) (h:Run (settle v) X.μ s0 u s') (hs:Sat C k X.E s'.bs s'.nv) {vv}(hv:VRep X v vv) :
  Ext X (X.mv s'.up)∧Mem B0 (X.mv s'.up)∧s'.ab=s0.ab∧∀ q T v,X.μ q=.box T v→(X.mv s'.up).μ q=.box T v:=by
 have hX:X.mv s0.up=X:=by rw [h0];rfl
 have triv:Ext X (X.mv s0.up)∧Mem B0 (X.mv s0.up)∧s0.ab=s0.ab∧∀ q T v,X.μ q=.box T v→(X.mv s0.up).μ q=.box T v:=by
  rw [hX]
  exact ⟨Ext.refl X,m,rfl,fun _ _ _ h=>h⟩
 unfold settle at h
 split at h
 ·rename_i e0 r
  obtain ⟨R,s1,h1,h2⟩:=Run.bind h
  obtain ⟨eR,es⟩:=Run.root h1
  subst es
  rw [h0,zbI] at eR
  split at h2
  ·rename_i e a ix r2
   unfold zCC at h2
   obtain ⟨b2,s2,h3,h4⟩:=Run.bind h2
   obtain ⟨a',s3,h5,h6⟩:=Run.bind h4
   have es:=Run.put h6
   have hs3:Sat C k X.E s3.bs s3.nv:=by grind
   obtain ⟨⟨d0,di,dv,d,q1,q2,q3,q4,q5⟩,q6,q7⟩:=Run.op3 h5 hs3
   simp only [VRep,Ref] at hv
   have hA  := hv.2.1
   have hne:r≠r2:=by
    intro e1
    subst e1
    unfold znz at h3
    obtain ⟨R,s4,g1,g2⟩:=Run.bind h3
    obtain ⟨hR,e1⟩:=Run.root g1
    rw [h0,zbI,← eR] at hR
    grind [Run.fail]
   have hrep0:=m.rep r hA
   rw [← eR] at hrep0
   obtain ⟨_,_,_,_,_,_,_,v20,_,_,_,_,_,_,_,hr20⟩:=hrep0
   obtain ⟨r1,x2,m2,_,rv,hown⟩:=zeL h3 (by grind) hB (by grind [Ref])
   rw [hX] at x2
   have hμ2:(X.mv s2.up).μ r=.ow e a ix r2:=(zqO h3 hne).trans (by grind)
   have hrep:=m2.rep r hA
   rw [hμ2] at hrep
   obtain ⟨l,b,c,te,xs,kk,i,v2,p1,p2,p3,p4,p5,p6,p7,p8⟩:=hrep
   have p1':a.get X.E=some (.sl l):=p1
   have p5':ix.get X.E=some (.int kk (Int.ofNat i)):=p5
   rw [p1'] at q1
   injection q1 with q1
   subst q1
   rw [p5'] at q2
   injection q2 with q2
   subst q2
   simp only [Prim.run] at q4
   split at q4
   ·rename_i hz
    injection q4 with q4
    subst q4
    obtain ⟨hone,_,hh⟩:=p8
    have ht2:((X.mv s2.up).μ r2).there=true:=by
     have:=Root.rowv_row rv
     cases hk:(X.mv s2.up).μ r2 with
     | dead=>rw [hk] at this;cases this
     | _=>rfl
    have hset:=p4.set (j:=i) p6 (zhl (X:=X.mv s2.up) m2 (by grind [Ref]) (hh ht2) rv ⟨fun _ _ _=>rfl,fun _ _ h=>h⟩ hown q3)
    have hcs:xs.take (i * (Ty.sl e).size)++[v2]++xs.drop (i * (Ty.sl e).size + (Ty.sl e).size)=xs.set i v2:=by
     have hxl:=p4.length
     simp_all [Ty.size,List.set_eq_take_append_cons_drop]
    rw [hcs] at hset
    have hmv:X.mv s'.up={ X.mv s2.up with μ:=upd (X.mv s2.up).μ r (.row (.sl e) a') }:=by grind [Ctx.mv_cons]
    have key:Ext (X.mv s2.up) { X.mv s2.up with μ:=upd (X.mv s2.up).μ r (.row (.sl e) a') }∧Mem B0 { X.mv s2.up with μ:=upd (X.mv s2.up).μ r (.row (.sl e) a') }:=by
     refine Mem.change (X:=X.mv s2.up) m2 hB (fun q=>q=r) (fun _ _ h=>h) (fun _ h=>h) (fun q h=>.inl h) (fun q hq=>⟨upd_ne _ _ hq,rfl⟩) (fun _ _ _=>rfl) (fun _ _ h=>h) ?_ ?_ ?_ (fun _ _ _=>rfl) ?_ ?_ rfl (zB2 hμ2 rfl)
     ·intro q bb hq _ hb
      subst hq
      simp only [upd_same] at hb
      exact .inr ⟨q,rfl,hA,by rw [hμ2];exact hb⟩
     ·omega
     ·intro q hq _
      subst hq
      simp only [upd_same]
      have:=m2.once q hA
      rw [hμ2] at this
      exact this
     ·intro q hq _ ht
      subst hq
      refine ⟨by rw [hμ2];rfl,fun e1 a1 d1 hr hd=>?_,fun e1 a1 g hr=>?_⟩
      ·rw [hμ2] at hr
       simp [Root.row?] at hr
       obtain ⟨r3,r4⟩:=hr
       subst r3 r4
       exact ⟨a',.sl (l.set i dv),by simp [upd_same,Root.row?],q5,fun h=>(by grind),fun l0 hl0=>(by grind)⟩
      grind [upd_same]
     ·intro x q hq _
      subst hq
      show RootRep _ q (upd (X.mv s2.up).μ q (.row (.sl e) a') q)
      rw [upd_same]
      refine ⟨.sl (l.set i dv),q5,.inr ⟨b,c,te,(0,0),l.set i dv,xs.set i v2,p2,rfl,p3,fun _=>rfl,hset.keep x.K,?_⟩⟩
      grind
    refine ⟨by rw [hmv];exact x2.trans key.1,by grind,by grind [zqa],fun q T v hq=>?_⟩
    have hq2:q≠r2:=by
     intro e1
     subst e1
     rw [hX,hq] at r1
     cases r1
    rw [hmv]
    grind [upd_ne,zqO]
   grind
  grind [Run.pure]
 grind [Run.pure]
theorem zvE (B:TysOk cx) (d:B0≤X.w.heap.size) (m:Mem B0 X) {t x v K s0 s}(h0:s0.up=[]) (h:Run (ztW cx t x v) X.μ s0 K s) (i:Sat C k X.E s.bs s.nv) {vx vv}(hx:VRep X x vx) (hv:VRep X v vv) :
  Acts cx.P B0 X (Instr.storeAt t vx vv) s0 s fun _ _=>K=.un 1:=by
 have lift:∀ {b off:Nat},vx=.pointer (some ⟨b,off,none⟩)→Acts cx.P B0 X (storeVar t ⟨b,off,none⟩ vv) s0 s (fun _ _=>K=.un 1)→Acts cx.P B0 X (Instr.storeAt t vx vv) s0 s fun _ _=>K=.un 1:=by grind [Instr.storeAt,Instr.sureAddr]
 unfold ztW at h
 obtain ⟨_,s1,h1,h2⟩:=Run.bind h
 obtain ⟨hc1,c⟩:=Run.guard h1
 subst c
 split at h2
 ·rename_i R T' r q
  obtain ⟨_,s2,h3,h4⟩:=Run.bind h2
  obtain ⟨hb,c⟩:=Run.guard h3
  subst c
  have hT:=Ty.beq_eq hb
  subst hT
  simp only [VRep,Ref] at hx
  obtain ⟨hA,b,off,p1,J,p3,M⟩:=hx
  refine lift p1 ?_
  obtain ⟨RR,s3,h5,h6⟩:=Run.bind h4
  obtain ⟨e1,e2⟩:=Run.root h5
  subst e2
  rw [h0,zbI] at e1
  have hmv:X.mv s3.up=X:=by rw [h0];rfl
  split at h6
  ·rename_i R' old
   obtain ⟨_,s4,A,n⟩:=Run.bind h6
   obtain ⟨G,c⟩:=Run.guard A
   subst c
   have I:=Ty.beq_eq G
   subst I
   rcases Run.ite n with ⟨_,h9⟩|⟨_,h9⟩
   ·obtain ⟨v',f,l,j⟩:=Run.bind h9
    obtain ⟨x5,m5,hab5,hv5,hb5⟩:=zDX d l (Run.sat j i) (by grind) (by rw [hmv];exact hv)
    have hR5:=hb5 r _ old (by rw [hmv];exact e1.symm)
    obtain ⟨u,F,X',H,r2,r3⟩:=zie B d (by grind) m5 j i rfl hc1 hA hR5 J p3 M hv5
    exact ⟨u,F,X',H,by grind,r3⟩
   ·rcases Run.ite h9 with ⟨_,l⟩|⟨_,l⟩
    ·obtain ⟨_,f,j,h12⟩:=Run.bind l
     obtain ⟨x5,m5,hab5,hb5⟩:=zyW d m h0 j (Run.sat h12 i) hv
     obtain ⟨u,F,X',H,r2,r3⟩:=zie B d x5 m5 h12 i rfl hc1 hA (hb5 r _ old e1.symm) J p3 M (VRep.ext x5 hv)
     exact ⟨u,F,X',H,by grind,r3⟩
    ·exact zie B d (by grind [Ext.refl]) (by grind) l i rfl hc1 hA (by grind) J p3 M (by grind)
  ·rename_i e a
   obtain ⟨_,s4,A,n⟩:=Run.bind h6
   obtain ⟨G,c⟩:=Run.guard A
   subst c
   have I:=Ty.beq_eq G
   subst I
   split at n
   ·rename_i e' ix r2 how
    unfold zH7 at how
    split at how
    ·rename_i e3 ix3 e4 r3
     split at how
     ·rename_i hc
      simp  at hc
      grind [Ty.beq_eq,tyAt,zxb]
     grind
    grind
   ·exact zid B d (by grind [Ext.refl]) (by grind) n i rfl hc1 hA J p3 M (by grind)
  ·rename_i e a g
   obtain ⟨_,s4,A,n⟩:=Run.bind h6
   obtain ⟨G,c⟩:=Run.guard A
   subst c
   have I:=Ty.beq_eq G
   subst I
   have demote:∀ {f:SS},Run (zoR (.sl e) (cx.T t) r q v) X.μ f K s→f.up=(r,Root.row (.sl e) a)::s4.up→f.ab=s4.ab→Acts cx.P B0 X (storeVar t ⟨b,off,none⟩ vv) s4 s fun _ _=>K=.un 1:=by
    intro f hrun hu ha
    have hmv5:X.mv f.up={ X with μ:=upd X.μ r (.row (.sl e) a) }:=by grind [Ctx.mv_cons]
    obtain ⟨x5,m5⟩:=m.lower d hA (e:=.sl e) (a:=a) (.inr ⟨e,g,rfl,e1.symm⟩) (R:=.row (.sl e) a) (.inr rfl)
    obtain ⟨u,F,X',H,r2,r3⟩:=zid B d (by grind) (by grind) hrun i rfl hc1 hA J p3 M (by rw [hmv5];exact VRep.ext x5 hv)
    exact ⟨u,F,X',H,by grind,r3⟩
   obtain ⟨bb,f,h9,l⟩:=Run.bind n
   have c:=zns h9
   rcases Run.ite l with ⟨_,j⟩|⟨_,j⟩
   ·grind [zvA]
   ·obtain ⟨_,s6,h12,h13⟩:=Run.bind j
    have c:=Run.put h12
    grind
  ·rename_i e a r'
   obtain ⟨_,s4,A,n⟩:=Run.bind h6
   obtain ⟨G,c⟩:=Run.guard A
   subst c
   have I:=Ty.beq_eq G
   subst I
   obtain ⟨R',f,h9,l⟩:=Run.bind n
   obtain ⟨eR,c⟩:=Run.root h9
   rw [h0,zbI] at eR
   obtain ⟨_,s6,j,h12⟩:=Run.bind l
   obtain ⟨hn,c⟩:=Run.guard j
   obtain ⟨_,s7,h13,h14⟩:=Run.bind h12
   have c:=Run.put h13
   obtain ⟨_,s8,h15,h16⟩:=Run.bind h14
   have es2:=Run.put h15
   have hmv8:X.mv s8.up={ X with μ:=upd (upd X.μ r' .dead) r (.row e a) }:=by grind [Ctx.mv_cons]
   obtain ⟨x8,m8⟩:=m.unlend d hA e1.symm (by grind)
   obtain ⟨u,F,X',H,r2,r3⟩:=zid B d (by grind) (by grind) h16 i rfl hc1 hA J p3 M (by rw [hmv8];exact VRep.ext x8 hv)
   exact ⟨u,F,X',H,by grind,r3⟩
  grind [Run.fail]
 ·obtain ⟨_,s2,h3,h4⟩:=Run.bind h2
  obtain ⟨hb,c⟩:=Run.guard h3
  subst c
  have hT:=Ty.beq_eq hb
  subst hT
  exact zxU B d m h0 h4 i rfl hc1 (by simpa only [VRep] using hx) hv
 grind [Run.fail]
end
end Go.SX
namespace Go.SX
open Go.RowKit (Below)
section
variable {C:FuncId→List D→Option (List D)} {k B0:Nat} {X:Ctx} {cx:Cx}
theorem Nx.grown {up e b c d r R p a}(x:Ext X (X.mv up)) (g:Below X.w.heap.size X.w a) (i:B0≤X.w.heap.size)
  (h:Ext (X.mv up) ((X.mv up).grown a r R p)∧Mem B0 ((X.mv up).grown a r R p)) (j:e=(r,R)::up) (hr:r=b) (ha:c=b + 1) (h0:b=d):Nx B0 X ((X.mv up).grown a r R p) e d c a where
 E:=rfl
 w:=rfl
 μ:=by rw [j,zca];rfl
 A:=fun q=>by
  show (X.A q∨q=r)↔X.A q∨d≤q∧q<c
  grind
 ext:=x.trans h.1
 mem:=h.2
 below:=g.mono i
theorem zl8 {t T i}(a:TyFact cx t T i) {w}:∃ z,(zeroValue t).run cx.P w=.ok z w∧i.zero=some z∧∀ w M,DVal w M T T.zero z:=by
 obtain ⟨z,b,c⟩:=a.zero
 exact ⟨z,by simp [zeroValue,typeInfo,a.info,b],b,c⟩
theorem zDG (n:TysOk cx) (g:B0≤X.w.heap.size) (m:Mem B0 X) {t k b f}(I:∀ r,b.ab≤r→r<f.ab→¬ X.A r) (h0:b.up=[])
  (h:Run (SX.X.guard 145 (cx.T t).known >>= fun _=>SX.X.newRoot (.box (cx.T t) (.d (cx.T t) (.c (cx.T t).zero))) >>= fun r=>SX.X.pure (.p (cx.T t) (cx.T t) r [])) X.μ b k f) :
  Acts cx.P B0 X (Instr.alloc t true (.tuple #[])) b f fun o v=>VRep o k v:=by
 obtain ⟨_,s1,q,u⟩:=Run.bind h
 obtain ⟨x,e⟩:=Run.guard q
 subst e
 obtain ⟨r,s2,y,A⟩:=Run.bind u
 obtain ⟨B,e⟩:=Run.new y
 obtain ⟨F,G⟩:=Run.pure A
 subst e
 subst F G
 obtain ⟨i,H⟩:=n.get rfl (zdd x)
 obtain ⟨z,hz,_,l⟩:=zl8 H (w:=X.w)
 refine ⟨.pointer (some ⟨X.w.heap.size,0,none⟩),X.w.alloc (.cells z.cells t),X.grown (X.w.alloc (.cells z.cells t)) r (.box (cx.T t) (.d (cx.T t) (.c (cx.T t).zero))) ⟨some X.w.heap.size,[]⟩,?_,?_,?_⟩
 ·simp_all [Instr.alloc,zDR]
 ·exact Nx.grown (up:=[]) (Ext.refl X) ((Below.refl _ _).alloc (wG0 _) _) g (m.newBox g (I r (by omega) (by grind)) (T:=cx.T t) (s:=.d (cx.T t) (.c (cx.T t).zero)) (v:=z) rfl (by exact ⟨_,rfl,(l _ _).cells⟩) t) (by grind) B rfl rfl
 ·exact ⟨.inr rfl,X.w.heap.size,0,rfl,by simp [Ctx.grown,upd_same],rfl,rfl⟩
theorem zHm (f:B0≤X.w.heap.size) (m:Mem B0 X) {t x g c e}(q:∀ r,c.ab≤r→r<e.ab→¬ X.A r) (h0:c.up=[])
  (h:Run (SX.X.guard 154 (cx.cell1 t) >>= fun _=>SV.typed (cx.T t) x >>= fun s=>SX.X.newRoot (.box (cx.T t) s) >>= fun r=>SX.X.pure (.p (cx.T t) (cx.T t) r [])) X.μ c g e) {d} (k:VRep X x d) :
  Acts cx.P B0 X (Instr.box t d) c e fun l v=>VRep l g v:=by
 obtain ⟨_,s1,n,o⟩:=Run.bind h
 obtain ⟨_,b⟩:=Run.guard n
 subst b
 obtain ⟨s,s2,u,w⟩:=Run.bind o
 obtain ⟨b,y,_,z⟩:=zhd u k
 subst b
 obtain ⟨r,s3,A,B⟩:=Run.bind w
 obtain ⟨F,b⟩:=Run.new A
 obtain ⟨G,j⟩:=Run.pure B
 subst b
 subst G j
 refine ⟨.pointer (some ⟨X.w.heap.size,0,none⟩),X.w.alloc (.cells d.cells t),X.grown (X.w.alloc (.cells d.cells t)) r (.box (cx.T t) s) ⟨some X.w.heap.size,[]⟩,?_,?_,?_⟩
 ·rfl
 ·exact Nx.grown (up:=[]) (Ext.refl X) ((Below.refl _ _).alloc (wG0 _) _) f (m.newBox f (q r (by omega) (by grind)) y z t) (by grind) F rfl rfl
 ·exact ⟨.inr rfl,X.w.heap.size,0,rfl,by simp [Ctx.grown,upd_same],rfl,rfl⟩
theorem Mem.newRow (m:Mem B0 X) (t:B0≤X.w.heap.size) {r}(k:¬ X.A r) {f}(j:Below X.w.heap.size X.w f) {e a l xs c te cap}
  (g:a.get X.E=some (.sl l)) (n:f.heap[X.w.heap.size]?=some (.cells c te (0,0))) (o:DRepA X.w X.M e l xs) (p:c.toList.take xs.length=xs) (q:l.length≤cap) (s:cap * e.size≤c.size) :
  let d:=X.grown f r (.row e a) ⟨some X.w.heap.size,[]⟩
  (Ext X d∧Mem B0 d)∧VRep d (.h e r none) (.slice (some ⟨X.w.heap.size,0,none⟩) l.length cap):=by
 intro d
 have u:d.μ r=.row e a:=by simp [d,Ctx.grown,upd_same]
 have hβ:d.β r=⟨some X.w.heap.size,[]⟩:=by simp [d,Ctx.grown,upd_same]
 refine ⟨m.grow t k j (fun b j=>by grind [Root.own]) (by simp [Root.own]) fun x=>⟨_,g,.inr ⟨X.w.heap.size,c,te,(0,0),l,xs,by grind,rfl,n,fun _=>rfl,o.keep x.K,p⟩⟩,?_⟩
 exact ⟨zbr _ _ _,.inr rfl,fun _=>⟨a,.sl l,by rw [u];rfl,g,.inr ⟨X.w.heap.size,l,by grind,rfl,cap,c.size,rfl,q,by show bsize f _=_;grind [bsize],s⟩⟩⟩
end
end Go.SX
namespace Go.SX
open Go.RowKit (Below)
theorem ziF {w M e d a}(h:DRep w M e d a):∀ n,DRepA w M e (List.replicate n d) (List.replicate n a).flatten
 | 0=>by rfl
 | n + 1=>by
  exact ⟨a,_,rfl,h,ziF h n⟩
theorem znm (a:List Value) (n):(List.replicate n a).flatten.length=n * a.length:=by simp
theorem zFd {a:List Value}{n c}(h:n≤c):((List.replicate c a).flatten).take (List.replicate n a).flatten.length=(List.replicate n a).flatten:=by
 obtain ⟨k,rfl⟩:∃ k,c=n + k:=⟨c - n,by omega⟩
 rw [← List.replicate_append_replicate,List.flatten_append]
 simp
theorem zoQ {z s}(b:z.size=s):∀ c,(madeCells z (c * s)).toList=(List.replicate c z.toList).flatten
 | 0=>by simp [madeCells]
 | c + 1=>by
  have a:=zoQ b c
  simp [madeCells] at a ⊢
  rw [Nat.add_mul,Nat.one_mul,List.range_add,List.map_append,a]
  rw [show List.replicate (c + 1) z.toList=List.replicate c z.toList++[z.toList] from List.replicate_succ',List.flatten_append]
  congr 1
  apply List.ext_getElem?
  intro j
  by_cases hj:j<s
  all_goals simp_all [vT0]
theorem zCj {w M e}:∀ n,RowCells w M e (List.replicate n none) (List.replicate n .nil) (List.replicate n (.slice none 0 0))
 | 0=>by simp [RowCells]
 | n + 1=>by
  exact ⟨.inl ⟨rfl,.inl ⟨rfl,rfl⟩⟩,zCj n⟩
theorem zu6:∀ n,opts (List.replicate n none)=[]
 | 0=>rfl
 | n + 1=>by exact zu6 n
section
variable {C:FuncId→List D→Option (List D)} {k B0:Nat} {X:Ctx} {cx:Cx}
theorem Mem.newMat (m:Mem B0 X) (v:B0≤X.w.heap.size) {r}(q:¬ X.A r) {f}(i:Below X.w.heap.size X.w f) {e a l g c o cap n}
  (k:a.get X.E=some (.sl l)) (hl':l=List.replicate n .nil) (hxs:g=List.replicate n (.slice none 0 0)) (s:f.heap[X.w.heap.size]?=some (.cells c o (0,0))) (t:c.toList.take g.length=g) (u:l.length≤cap) (hcap:cap≤c.size) :
  let d:=X.grown f r (.mat e a 0) ⟨some X.w.heap.size,List.replicate n none⟩
  (Ext X d∧Mem B0 d)∧VRep d (.h (.sl e) r none) (.slice (some ⟨X.w.heap.size,0,none⟩) l.length cap):=by
 intro d
 have p:d.μ r=.mat e a 0:=by simp [d,Ctx.grown,upd_same]
 have hβ:d.β r=⟨some X.w.heap.size,List.replicate n none⟩:=by simp [d,Ctx.grown,upd_same]
 refine ⟨m.grow v q i (fun b i=>by grind [Root.own,zu6]) (by simp [Root.own,zu6]) fun x=>⟨_,k,.inr ⟨X.w.heap.size,c,o,l,g,by grind,rfl,s,?_,t⟩⟩,?_⟩
 ·grind [zCj]
 exact ⟨zbr _ _ _,.inr rfl,fun _=>⟨a,.sl l,by rw [p];rfl,k,.inr ⟨X.w.heap.size,l,by grind,rfl,cap,c.size,rfl,u,by show bsize f _=_;grind [bsize],by grind [Ty.size]⟩⟩⟩
theorem zvW (ty:TysOk cx) (hB:B0≤X.w.heap.size) (m:Mem B0 X) {t l c sv s0 s'}(hfr:∀ r,s0.ab≤r→r<s'.ab→¬ X.A r) (h0:s0.up=[]) (h:Run (zjl cx t l c) X.μ s0 sv s') (hs:Sat C k X.E s'.bs s'.nv) {vl vc}(hl:VRep X l vl) (hc:VRep X c vc) :
  Acts cx.P B0 X (Instr.makeSlice t vl vc) s0 s' fun X' v=>VRep X' sv v:=by
 unfold zjl at h
 split at h
 ·rename_i e hT
  obtain ⟨E,i,hu,tf⟩:=zbC ty hT
  simp only [hu] at h
  obtain ⟨E',s1,h1,h2⟩:=Run.bind h
  obtain ⟨e1,e2⟩:=Run.pure h1
  subst e1 e2
  obtain ⟨⟨kn,an⟩,s2,h3,h4⟩:=Run.bind h2
  obtain ⟨es,n,hn,en⟩:=zdb h3 hl
  subst es en
  obtain ⟨⟨kc,ac⟩,s3,h5,h6⟩:=Run.bind h4
  obtain ⟨es,cc,hcc,ec⟩:=zdb h5 hc
  subst es ec
  obtain ⟨a,s4,h7,h8⟩:=Run.bind h6
  simp only at hn hcc h7
  have core:Sat C k X.E s4.bs s4.nv→∃ z:Nat,n=(z:Int)∧∃ cz:Nat,cc=(cz:Int)∧z≤cz∧a.get X.E=some (.sl (List.replicate z e.zero))∧s4.up=[]∧s4.ab=s3.ab ∧
    ∃ zv,i.zero=some zv∧(∀ w M,DVal w M e e.zero zv)∧(Instr.makeSlice t (.int kn n) (.int kc cc)).run cx.P X.w=.ok (.slice (some ⟨X.w.heap.size,0,none⟩) z cz) (X.w.alloc (.cells (madeCells zv.cells (cz * e.size)) E')):=by
   intro hs
   obtain ⟨⟨d1,d2,d,q1,q2,q3,q4⟩,q5,q6⟩:=Run.op2 h7 hs
   rw [hn] at q1
   rw [hcc] at q2
   injection q1 with q1
   injection q2 with q2
   subst q1 q2
   simp only [Prim.run] at q3
   split at q3
   ·rename_i hb
    injection q3 with q3
    subst q3
    obtain ⟨b1,b2,b3⟩:=hb
    simp [zcm,Cx.by_,Program.bytesOf,tf.info] at b3
    obtain ⟨zv,hz,hd⟩:=tf.zero
    refine ⟨n.toNat,by omega,cc.toNat,by omega,by omega,q4,by grind,q6,zv,hz,hd,?_⟩
    have:=run_make (P:=cx.P) X.w t E' i zv hu tf.info hz kn kc n cc b1 b2 (by grind) (by omega)
    rw [tf.size] at this
    omega
   grind
  have rowCase:∀ {r:Nat} {s5:SS},Run (SX.X.newRoot (.row e a)) X.μ s4 r s5→Run (SX.X.pure (.h e r none)) X.μ s5 sv s'→Acts cx.P B0 X (Instr.makeSlice t (.int kn n) (.int kc cc)) s3 s' fun X' v=>VRep X' sv v:=by
   intro r s5 h9 h10
   obtain ⟨er,es⟩:=Run.new h9
   obtain ⟨e1,e2⟩:=Run.pure h10
   subst es
   subst e1 e2
   obtain ⟨z,_,cz,_,hle,ha,hup,hab,zv,hz,hd,hrun⟩:=core hs
   have hzl:=(hd X.w X.M).cells.length
   have hf:=zoQ (z:=zv.cells) (s:=e.size) (by omega) cz
   obtain ⟨hnew,hv⟩:=m.newRow hB (hfr r (by omega) (by grind)) ((Below.refl _ _).alloc (wG0 _) (.cells (madeCells zv.cells (cz * e.size)) E')) ha (heap_alloc_new X.w _) (ziF (hd X.w X.M).cells z) (cap:=cz) (by grind [zFd]) (by grind) (by simp [size_madeCells])
   refine ⟨_,_,_,hrun,Nx.grown (up:=[]) (Ext.refl X) ((Below.refl _ _).alloc (wG0 _) _) hB hnew (by grind) er rfl hab,?_⟩
   rw [List.length_replicate] at hv
   exact hv
  cases e with
  | sl e' =>
   obtain ⟨r,s5,h9,h10⟩:=Run.bind h8
   cases hab:cx.abs with
   | false =>
    grind
   | true =>
    obtain ⟨er,es⟩:=Run.new h9
    obtain ⟨e1,e2⟩:=Run.pure h10
    subst es
    subst e1 e2
    obtain ⟨z,_,cz,_,hle,ha,hup,hab,zv,hz,hd,hrun⟩:=core hs
    have hnA  := hfr r (by omega) (by grind)
    have hzc:=(hd X.w X.M).cells
    simp only [Ty.zero,DRep] at hzc
    have hf:=zoQ (z:=zv.cells) (s:=(Ty.sl e').size) (by have:=congrArg List.length hzc;grind [Ty.size]) cz
    have hfl:∀ n,(List.replicate n [Value.slice none 0 0]).flatten=List.replicate n (Value.slice none 0 0):=fun n=>by simp
    obtain ⟨hnew,hv⟩:=m.newMat hB hnA ((Below.refl _ _).alloc (wG0 _) (.cells (madeCells zv.cells (cz * (Ty.sl e').size)) E')) (e:=e') ha (by rfl) rfl (heap_alloc_new X.w _) (cap:=cz) (n:=z) (by grind) (by grind) (by simp [size_madeCells,Ty.size])
    refine ⟨_,_,_,hrun,Nx.grown (up:=[]) (Ext.refl X) ((Below.refl _ _).alloc (wG0 _) _) hB hnew (by grind) er rfl hab,?_⟩
    rw [List.length_replicate] at hv
    exact hv
  | _=>grind [Run.bind]
 grind [Run.fail]
end
end Go.SX
namespace Go.SX
open Go.RowKit (Below)
theorem zu1 (a) (o):patch a o []=a:=by simp [patch]
theorem zrs {cs a b o}(h:o≤cs.length):patch (patch cs o a) (o + a.length) b=patch cs o (a++b):=by
 unfold patch
 rw [List.take_left' (by grind),show cs.take o++a++cs.drop (o + a.length)=(cs.take o++a)++cs.drop (o + a.length) from rfl]
 rw [← List.drop_drop,List.drop_left' (by grind),List.drop_drop]
 grind
theorem zEp {a o v}(h:o<a.length):patch a o [v]=a.set o v:=by grind [List.set_eq_take_append_cons_drop,patch]
theorem zwt {off}:∀ (l) (k) (c),off + k + l.length≤c.size →
  (l.zipIdx k).foldl (fun e (d:Value×Nat)=>e.setIfInBounds (off + d.2) d.1) c=(patch c.toList (off + k) l).toArray
 | [],k,c,_=>by simp [zu1]
 | v::l,k,c,h=>by
  simp
  rw [zwt l (k + 1) _ (by grind)]
  rw [Array.toList_setIfInBounds,← zEp (by grind)]
  have:=zrs (cs:=c.toList) (a:=[v]) (b:=l) (o:=off + k) (by grind)
  grind
theorem zy2 {c a i b d v e}(f:c i=some (b,d)) (hv:v.cells.toList.length=d) (hfit:b + d≤a.size) :
  Instr.fill c a ((i,v)::e)=Instr.fill c (patch a.toList b v.cells.toList).toArray e:=by
 have hf:=zwt (off:=b) v.cells.toList 0 a (by omega)
 rw [Instr.fill,f]
 grind [Array.toList_zipIdx]
section
variable {C:FuncId→List D→Option (List D)} {k B0:Nat} {X:Ctx} {cx:Cx}
def zdP (X:Ctx):List (Nat×SV)→List (Nat×Value)→Prop
 | [],[]=>True
 | (i,s)::l,(j,v)::l'=>i=j∧VRep X s v∧zdP X l l'
 | _,_=>False
def numbered:Nat→List Value→List (Nat×Value)
 | _,[]=>[]
 | n,v::l=>(n,v)::numbered (n + 1) l
theorem zqS:∀ {b}{c}{n}{l},zpv n b=some l→zdP X b c→∃ a,c=numbered n a∧VRepL X l a
 | [],[],n,l,h,_=>by
  simp [zpv] at h
  subst h
  exact ⟨[],rfl,by rfl⟩
 | (i,s)::b,(j,v)::c,n,l,h,d=>by
  simp only [zpv] at h
  obtain ⟨e,hv,d⟩:=d
  split at h
  ·rename_i g
   have e:=zbv g
   split at h
   ·rename_i r f
    obtain ⟨a,h1,h2⟩:=zqS f d
    exact ⟨v::a,by grind [numbered],by grind [VRepL]⟩
   grind
  grind
 | [],_::_,_,_,_,h|_::_,[],_,_,_,h=>by grind [zdP]
def flat (vs:List Value):List Value:=(vs.map fun v=>v.cells.toList).flatten
theorem znZ {size}:∀ {vs}{n}{cells},(∀ v∈vs,v.cells.toList.length=size)→(n + vs.length) * size≤cells.size →
  Instr.fill (fun i=>some (i * size,size)) cells (numbered n vs)=some (patch cells.toList (n * size) (flat vs)).toArray∧(flat vs).length=vs.length * size
 | [],n,cells,_,_=>by simp [numbered,Instr.fill,flat,zu1]
 | v::vs,n,cells,c,d=>by
  simp  at d
  have e1:(n + (vs.length + 1)) * size=n * size + size + vs.length * size:=by grind
  have hp:(patch cells.toList (n * size) v.cells.toList).length=cells.toList.length:=zbB (by grind)
  obtain ⟨e,hl⟩:=znZ (vs:=vs) (n:=n + 1) (cells:=(patch cells.toList (n * size) v.cells.toList).toArray) (fun u hu=>c u (by grind)) (by grind)
  refine ⟨?_,?_⟩
  ·simp only [numbered]
   rw [zy2 rfl (c v (by simp)) (by omega),e]
   have:=zrs (cs:=cells.toList) (a:=v.cells.toList) (b:=flat vs) (o:=n * size) (by grind)
   grind [flat]
  grind [flat]
theorem run_buildSlice {t E e i n a w}(f:cx.P.underlying t=some (.slice E)) (b:TyFact cx E e i) (hn:a.length=n) (hsz:n * e.size≤16777216) (h:∀ v∈a,v.cells.toList.length=e.size) :
  (Instr.buildSlice t n (numbered 0 a).toArray).run cx.P w=.ok (.slice (some ⟨w.heap.size,0,none⟩) n n) (w.alloc (.cells (flat a).toArray E)):=by
 obtain ⟨z,hz,_,_⟩:=zl8 b (w:=w)
 have g:∀ (c:Array Value),c.size=n * e.size→Instr.fill (fun i=>some (i * e.size,e.size)) c (numbered 0 a)=some (flat a).toArray:=fun c hc=>by
  obtain ⟨h1,h2⟩:=znZ (size:=e.size) (vs:=a) (n:=0) (cells:=c) h (by grind)
  grind [zg1]
 have hnr:∀ (c:Array Value),(Go.newRow E c).run cx.P w=.ok ⟨w.heap.size,0,none⟩ (w.alloc (.cells c E)):=fun c=>rfl
 by_cases h0:n * e.size=0
 ·have hk:=g ((Array.range (n * e.size)).map fun x=>(#[]:Array Value)[x % (#[]:Array Value).size]!) (by simp)
  simp [Instr.buildSlice,za7 f,zds b.info,b.size]
  simp_all
 ·simp [Instr.buildSlice,za7 f,zds b.info,b.size]
  simp_all
theorem zjx (x:B0≤X.w.heap.size) {r T}:∀ {l}{f}{n}{c b},Run (zxw r T l) X.μ c n b→Sat C k X.E b.bs b.nv→Mem B0 (X.mv c.up)→VRepL (X.mv c.up) l f →
  Ext (X.mv c.up) (X.mv b.up)∧Mem B0 (X.mv b.up)∧b.ab=c.ab∧f.length=l.length∧∃ g,gets X.E n=some g∧DRepA X.w (seen r (X.mv b.up)) T g (flat f)∧g.length=f.length∧∀ v∈f,v.cells.toList.length=T.size
 | [],f,n,c,b,h,p,m,i=>by
  obtain ⟨q,o⟩:=Run.pure h
  subst q o
  subst i
  exact ⟨Ext.refl _,m,rfl,rfl,[],rfl,by rfl,rfl,by simp⟩
 | s::l,f,n,c,b,h,p,m,i=>by
  obtain ⟨a,s1,B,G⟩:=Run.bind h
  obtain ⟨as',s2,y,K⟩:=Run.bind G
  obtain ⟨q,o⟩:=Run.pure K
  subst q o
  obtain ⟨v,vs',e,i,F⟩:=i
  subst e
  obtain ⟨w,H,_,I,d,hd,J⟩:=zjd x B (y.sat p) m i
  obtain ⟨z,L,hab2,hlen,g,hds,hda,hdl,hsz⟩:=zjx x y p H (VRepL.ext w F)
  have A:=J.cells.keep (seen_keeps z rfl)
  refine ⟨w.trans z,L,hab2.trans I,by grind,d::g,by grind [gets],?_,by grind,?_⟩
  ·exact ⟨_,_,rfl,A,hda⟩
  ·intro u j
   rcases List.mem_cons.1 j with j|j
   ·subst j;exact A.length
   grind
end
end Go.SX
namespace Go.SX
open Go.RowKit (Below)
theorem zx1 (a) (b):∀ (l),(∀ p∈l,p.2=Root.dead)→∀ q,now a (l++b) q=if q∈l.map (·.1) then .dead else now a b q
 | [],_,q=>by simp
 | (r,R)::l,h,q=>by
  have hR  := h (r,R) (by simp)
  rw [List.cons_append,zca]
  by_cases e:q=r
  ·grind [upd_same]
  ·rw [upd_ne _ _ e,zx1 a b l (fun p hp=>h p (by grind)) q]
   grind
section
variable {C:FuncId→List D→Option (List D)} {k B0:Nat} {X:Ctx} {cx:Cx}
def Ctx.joined (X:Ctx) (w':World) (rs:List Nat) (r:Nat) (R:Root) (p:Pl):Ctx :=
 { E:=X.E,w:=w',μ:=upd (fun q=>if q∈rs then .dead else X.μ q) r R,β:=upd X.β r p,A:=fun q=>X.A q∨q=r,F:=X.F }
theorem zmW {X}(m:Mem B0 X) {e}:∀ {a:List (Nat×At)},(a.map (·.1)).Nodup→(∀ p∈a,X.A p.1∧X.μ p.1=.row e p.2)→(opts (a.map fun p=>(X.β p.1).main)).Nodup
 | [],_,_=>by simp [opts]
 | p::a,c,h=>by
  simp  at c
  have k:=zmW m c.2 fun q g=>h q (by grind)
  obtain ⟨i,hR⟩:=h p (by simp)
  cases j:(X.β p.1).main with
  | none=>grind [opts]
  | some b =>
   simp [j,opts]
   refine ⟨fun d=>?_,k⟩
   rw [zcB,List.mem_map] at d
   obtain ⟨q,g,hqb⟩:=d
   obtain ⟨f,hR2⟩:=h q (by grind)
   have:=m.apart p.1 q.1 b i f (by grind [Root.own]) (by grind [Root.own])
   grind
theorem zpH (m:Mem B0 X) {e}:∀ {b:List (Nat×At)}{c}{a},(∀ p∈b,X.A p.1∧X.μ p.1=.row e p.2)→gets X.E (b.map (·.2))=some c→VRepL X (b.map fun p=>.h e p.1 none) a →
  RowCells X.w X.M e (b.map fun p=>(X.β p.1).main) c a∧flat a=a
 | [],c,a,_,g,f=>by grind [gets,VRepL,RowCells,flat]
 | p::b,c,a,h,g,f=>by
  obtain ⟨d,ds',k,l,h3⟩:=zeR g
  obtain ⟨v,i,n,f,o⟩:=f
  subst n
  obtain ⟨ih,r⟩:=zpH m (fun q hq=>h q (by grind)) l o
  obtain ⟨s,t⟩:=h p (by simp)
  have j:=zpw m s t k f
  refine ⟨by grind [RowCells],?_⟩
  simp [flat,j.one.cells]
  have:(i.map fun v=>v.cells.toList).flatten=i:=r
  grind
theorem Mem.joined {e r a}{ps:List (Nat×At)}{g vs w' B}(m:Mem B0 X) (K:B0≤X.w.heap.size) (hn:¬ X.A r) (hb:Below X.w.heap.size X.w w')
  (hnd:(ps.map (·.1)).Nodup) (hps:∀ p∈ps,X.A p.1∧X.μ p.1=.row e p.2) (hd:gets X.E (ps.map (·.2))=some g) (hv:VRepL X (ps.map fun p=>.h e p.1 none) vs) (H:a.get X.E=some (.sl g)) (hh:w'.heap[X.w.heap.size]?=some (.cells vs.toArray B (0,0)))
  (hl:g.length=vs.length) :
  let X':=X.joined w' (ps.map (·.1)) r (.mat e a 0) ⟨some X.w.heap.size,ps.map fun p=>(X.β p.1).main⟩
  (Ext X X'∧Mem B0 X')∧VRep X' (.h (.sl e) r none) (.slice (some ⟨X.w.heap.size,0,none⟩) g.length g.length):=by
 intro X'
 obtain ⟨hcells,_⟩:=zpH m hps hd hv
 have hrn:r∉ps.map (·.1):=fun h=>by grind
 have hr:X'.μ r=.mat e a 0:=by simp [X',Ctx.joined,upd_same]
 have A:X'.β r=⟨some X.w.heap.size,ps.map fun p=>(X.β p.1).main⟩:=by simp [X',Ctx.joined,upd_same]
 have hdead:∀ q∈ps.map (·.1),X'.μ q=.dead:=fun q hq=>by
  have:q≠r:=fun h=>hrn (h▸hq)
  simp only [X',Ctx.joined,upd_ne _ _ this]
  grind
 have hown:∀ b,b∈opts (ps.map fun p=>(X.β p.1).main)→∃ s,(s∈ps.map (·.1))∧X.A s∧b∈(X.μ s).own (X.β s):=fun b hb=>by grind [zcB,Root.own]
 refine ⟨?_,?_⟩
 ·refine Mem.change m K (fun q=>q=r∨q∈ps.map (·.1)) (fun _ _ h=>h) (fun _ h=>.inl h) (fun q h=>h.imp id .inl) (fun q hq=>?_) (fun b L _=>hb.block b L) (fun b n G=>(zcd (hb.block b (zfi G))).trans G) ?_ ?_ ?_ ?_ ?_ ?_ rfl (fun q hq F e1 a1 q' h=>by grind)
  ·simp only [X',Ctx.joined,upd_ne _ _ (fun h=>hq (.inl h))]
   grind
  ·grind [Root.own]
  ·grind [Root.own]
  ·intro q hq _
   rcases hq with hq|hq
   ·subst hq
    rw [hr,A]
    simp [Root.own,Option.toList]
    refine ⟨fun hm=>?_,zmW m hnd hps⟩
    obtain ⟨s,_,h2,o⟩:=hown _ hm
    have:=m.lt h2 o
    omega
   grind [Root.own]
  ·intro q hq F
   rcases hq with hq|hq
   ·grind
   ·have:q≠r:=fun h=>hrn (h▸hq)
    simp [X',Ctx.joined,upd_ne _ _ this]
  ·intro q hq F ht
   rcases hq with hq|hq
   ·grind
   ·rw [hdead q hq] at ht
    cases ht
  ·intro x q hq _
   rcases hq with hq|hq
   ·subst hq
    rw [hr]
    refine ⟨_,H,.inr ⟨X.w.heap.size,vs.toArray,B,g,vs,by grind,rfl,hh,?_,by simp⟩⟩
    rw [A]
    exact RowCells.keep x.K (fun b J=>hb.block b (by
     obtain ⟨s,_,h2,o⟩:=hown b (zcB.2 J)
     exact m.lt h2 o)) hcells
   ·rw [hdead q hq]
    trivial
 ·exact ⟨zbr _ _ _,.inr rfl,fun _=>⟨a,.sl g,by rw [hr];rfl,H,.inr ⟨X.w.heap.size,g,by grind,rfl,g.length,vs.length,rfl,wG0 _,by show bsize w' _=_;grind [bsize],by grind [Ty.size]⟩⟩⟩
theorem ztf (ty:TysOk cx) (hB:B0≤X.w.heap.size) (m:Mem B0 X) {t n ps pv sv s0 s'}(hfr:∀ r,s0.ab≤r→r<s'.ab→¬ X.A r) (h0:s0.up=[]) (h:Run (zd7 cx t n ps) X.μ s0 sv s') (hs:Sat C k X.E s'.bs s'.nv)
  (hp:zdP X ps pv):Acts cx.P B0 X (Instr.buildSlice t n pv.toArray) s0 s' fun X' v=>VRep X' sv v:=by
 unfold zd7 at h
 split at h
 ·rename_i e hT
  obtain ⟨E,i,hu,tf⟩:=zbC ty hT
  obtain ⟨l,s1,h1,h2⟩:=Run.bind h
  obtain ⟨hl,es⟩:=Run.of h1
  subst es
  obtain ⟨_,s2,h3,h4⟩:=Run.bind h2
  obtain ⟨hg,es⟩:=Run.guard h3
  subst es
  simp only [wD0,vG0] at hg
  obtain ⟨⟨hn,hsz⟩,_⟩:=hg
  have hn:=zbv hn
  obtain ⟨vs,ev,hv⟩:=zqS hl hp
  subst ev
  have hmv:X.mv s2.up=X:=by rw [h0];rfl
  have rowCase:∀ {sx:SS},sx=s2→Run (zd7.buildRow e l) X.μ sx sv s'→Acts cx.P B0 X (Instr.buildSlice t n (numbered 0 vs).toArray) s2 s' fun X' v=>VRep X' sv v:=by
   intro sx esx h5
   subst esx
   unfold zd7.buildRow at h5
   obtain ⟨as,s3,h6,h7⟩:=Run.bind h5
   obtain ⟨a,s4,h8,h9⟩:=Run.bind h7
   obtain ⟨r,s5,h10,h11⟩:=Run.bind h9
   obtain ⟨er,es⟩:=Run.new h10
   obtain ⟨e1,e2⟩:=Run.pure h11
   subst es
   subst e1 e2
   obtain ⟨x1,m1,hab,hlen,ds,hds,hda,hdl,hcl⟩:=zjx hB h6 (h8.sat hs) (by grind) (by rw [hmv];exact hv)
   rw [hmv] at x1
   obtain ⟨⟨vals,d,q1,q2,q3⟩,q5,q6⟩:=Run.op h8 hs
   rw [hds] at q1
   injection q1 with q1
   subst q1
   simp [Prim.run] at q2
   subst q2
   have hvn:vs.length=n:=by omega
   have hrun:=run_buildSlice (w:=X.w) hu tf hvn hsz hcl
   have hnA:¬ X.A r:=hfr r (by omega) (by grind)
   have hfl:=hda.length
   obtain ⟨hnew,hvr⟩:=m1.newRow hB hnA ((Below.refl _ _).alloc (wG0 _) (.cells (flat vs).toArray E)) q3 (heap_alloc_new X.w _) hda (cap:=n) (by simp) (by omega) (by grind)
   refine ⟨_,_,_,hrun,Nx.grown x1 ((Below.refl _ _).alloc (wG0 _) _) hB hnew (by grind) er rfl (by omega),?_⟩
   rw [hdl,hvn] at hvr
   exact hvr
  split at h4
  ·rename_i e' _
   have matCase:Run (zwd e' l >>= fun as=>SX.X.op .mks as >>= fun a=>SX.X.newRoot (.mat e' a 0) >>= fun r=>SX.X.pure (.h (.sl e') r none)) X.μ s2 sv s'→Acts cx.P B0 X (Instr.buildSlice t n (numbered 0 vs).toArray) s2 s' fun X' v=>VRep X' sv v:=by
    intro h5
    obtain ⟨as,s3,h6,h7⟩:=Run.bind h5
    obtain ⟨a,s4,h8,h9⟩:=Run.bind h7
    obtain ⟨r,s5,h10,h11⟩:=Run.bind h9
    obtain ⟨er,es⟩:=Run.new h10
    obtain ⟨e1,e2⟩:=Run.pure h11
    subst es
    subst e1 e2
    obtain ⟨qs,p1,p2,p3,p4,p5,p6⟩:=zpG h6
    subst p1 p2
    rw [h0,zbI] at p4
    obtain ⟨⟨vals,d,q1,q2,q3⟩,q5,q6⟩:=Run.op h8 hs
    simp only [Prim.run,wB0] at q2
    subst q2
    have hps:∀ p∈qs,X.A p.1∧X.μ p.1=.row e' p.2:=fun p hp=>by
     refine ⟨?_,p4 p hp⟩
     have key:∀ {l:List (Nat×At)} {vs:List Value},VRepL X (l.map fun p=>.h e' p.1 none) vs→∀ p∈l,X.A p.1:=by
      intro l
      induction l with
      | nil=>simp
      | cons q l ih =>
       grind [VRepL,VRep,Ref]
     grind
    obtain ⟨hcells,hfl⟩:=zpH m hps q1 hv
    have hlens:=RowCells.lens hcells
    simp only [List.length_map] at hlens hn
    have hvn:vs.length=n:=by omega
    have hones:∀ v∈vs,v.cells.toList.length=(Ty.sl e').size:=by
     have key:∀ {os:List (Option Nat)} {ds:List D} {vs:List Value},RowCells X.w X.M e' os ds vs→∀ v∈vs,One v:=by
      intro os
      induction os with
      | nil=>grind [RowCells]
      | cons o os ih =>
       intro ds vs h v hv
       cases ds<;>cases vs<;>simp only [RowCells] at h
       rcases List.mem_cons.1 hv with hv|hv
       ·subst hv;exact h.1.one
       grind
     intro v hv
     rw [(key hcells v hv).cells]
     rfl
    have hrun:=run_buildSlice (w:=X.w) hu tf hvn hsz hones
    rw [hfl] at hrun
    have hnA:¬ X.A r:=hfr r (by omega) (by grind)
    obtain ⟨⟨x2,m2⟩,hvr⟩:=m.joined hB hnA ((Below.refl _ _).alloc (wG0 _) (.cells vs.toArray E)) p3 hps q1 hv q3 (heap_alloc_new X.w _) (by omega)
    refine ⟨_,_,X.joined (X.w.alloc (.cells vs.toArray E)) (qs.map (·.1)) r (.mat e' a 0) ⟨some X.w.heap.size,qs.map fun p=>(X.β p.1).main⟩,hrun,⟨rfl,rfl,?_,fun q=>?_,x2,m2,((Below.refl _ _).alloc (wG0 _) _).mono hB⟩,?_⟩
    ·show upd _ _ _=now X.μ ((s4.ab,Root.mat e' a 0)::s4.up)
     rw [q5,p5,h0,zca,er]
     congr 1
     funext q
     rw [zx1 X.μ [] _ (fun p hp=>?_),zbI]
     all_goals grind [List.map_reverse]
    ·show (X.A q∨q=r)↔X.A q∨s2.ab≤q∧q<s4.ab + 1
     grind
    grind
   obtain ⟨bb,s3,h9,h10⟩:=Run.bind h4
   grind [zns]
  grind
 grind [Run.fail]
end
end Go.SX
namespace Go.SX
open Go.RowKit (Below)
def zyc:List (List Value)→List (Nat×Value)→List (List Value)
 | cs,[]=>cs
 | cs,(i,v)::r=>zyc (cs.set i v.cells.toList) r
theorem zsH:∀ {a:List (List Value)}{j}{c new},a[j]?=some c→new.length=c.length→patch a.flatten ((a.take j).flatten.length) new=(a.set j new).flatten
 | [],j,_,_,h,_=>by grind
 | d::a,0,c,new,h,b=>by grind [patch]
 | d::a,j + 1,c,new,h,b=>by
  simp at h
  have ih:=zsH h b
  simp_all [patch,zsC,Nat.add_assoc]
theorem znE {place ss}:∀ {pv}{cs}{cells},cells.toList=cs.flatten→cs.map List.length=ss →
  (∀ p∈pv,∃ s,ss[p.1]?=some s∧place p.1=some ((ss.take p.1).sum,s)∧p.2.cells.toList.length=s)→Instr.fill place cells pv=some (zyc cs pv).flatten.toArray
 | [],cs,cells,g,_,_=>by grind [Instr.fill,zyc,wB0]
 | (i,v)::pv,cs,cells,g,hs,h=>by
  obtain ⟨s,d,a,b⟩:=h (i,v) (by simp)
  simp only at d a b
  have f:∃ c,cs[i]?=some c∧c.length=s:=by grind
  obtain ⟨c,e,hcs⟩:=f
  have hoff:(ss.take i).sum=(cs.take i).flatten.length:=by simp_all
  rw [zy2 a b (by grind [wI0,List.take_append_drop,List.drop_eq_getElem_cons])]
  have hpc:=zsH e (new:=v.cells.toList) (by omega)
  refine znE (ss:=ss) ?_ ?_ fun p hp=>h p (by grind)
  ·grind
  ·apply List.ext_getElem?
   grind
def zhz (j:Nat):List (Nat×Value)→Option Value
 | []=>none
 | (i,v)::l=>if Nat.beq i j then some v else zhz j l
def zkS:List (Nat×Value)→Nat→Nat→Prop
 | [],_,_=>True
 | (i,_)::l,lo,n=>lo≤i∧i<n∧zkS l (i + 1) n
theorem zpO:∀ {b}{a n j},zkS b a n→j<a→zhz j b=none
 | [],_,_,_,_,_=>rfl
 | (i,v)::b,a,n,j,h,hj=>by
  simp only [zkS] at h
  simp only [zhz]
  rw [if_neg (by grind [zbv])]
  exact zpO h.2.2 (by omega)
theorem zur:∀ {b}{a}{lo j},zkS b lo a.length→(zyc a b)[j]?=match zhz j b with
  | some v=>some v.cells.toList
  | none=>a[j]?
 | [],a,lo,j,_=>rfl
 | (i,v)::b,a,lo,j,h=>by
  obtain ⟨h1,h2,c⟩:=h
  rw [zyc,zur (lo:=i + 1) (by grind)]
  by_cases hj:i=j
  ·rw [zpO c (by omega)]
   simp_all [zhz]
  simp_all [zhz]
theorem zrK:∀ {b}{a},(zyc a b).length=a.length
 | [],_=>rfl
 | (i,v)::b,a=>by rw [zyc,zrK];simp
theorem DRepL.chunks {w M}:∀ {f}{g}{b},DRepL w M f g b →
  ∃ a:List (List Value),b=a.flatten∧a.map List.length=f.map Ty.size∧∀ (j:Nat) (T) (d) (c),f[j]?=some T→g[j]?=some d→a[j]?=some c→DRep w M T d c
 | [],[],b,h=>by simp_all [DRepL]
 | T::f,d::g,b,h=>by
  obtain ⟨k,c2,e,l,m⟩:=h
  obtain ⟨a,e2,i,hch⟩:=DRepL.chunks m
  refine ⟨k::a,by grind,by simp [i,l.length],fun j T' d' c' g1 g2 g3=>?_⟩
  grind
 | [],_::_,_,h=>by grind [DRepL]
 | _::_,[],_,h=>by grind [DRepL]
section
variable {C:FuncId→List D→Option (List D)} {k B0:Nat} {X:Ctx} {cx:Cx}
theorem CRepL.of:∀ {l}{a}{b:List (List Value)},l.length=a.length→b.length=a.length→(∀ (j:Nat) (s) (T) (c),l[j]?=some s→a[j]?=some T→b[j]?=some c→s.hasTy T∧CRep X s c)→CRepL X l a b.flatten
 | [],[],[],_,_,_=>by rfl
 | s::l,T::a,c::b,h1,h2,h=>by
  obtain ⟨e,d⟩:=h 0 s T c rfl rfl rfl
  exact ⟨c,b.flatten,rfl,e,d,CRepL.of (by grind) (by grind) fun j s T c e1 e2 e3=>h (j + 1) s T c (by grind) (by grind) (by grind)⟩
 | [],_::_,_,h,_,_|_::_,[],_,h,_,_|_,[],_::_,_,h,_|_,_::_,[],_,h,_=>by grind
theorem zp1:∀ {a}{b}{c n},zdP X a b→sorted a c n=true→zkS b c n
 | [],[],_,_,_,_=>trivial
 | (i,s)::a,(j,v)::b,c,n,h,d=>by
  obtain ⟨e,_,h⟩:=h
  subst e
  simp only [sorted,wD0] at d
  obtain ⟨⟨g,k⟩,f⟩:=d
  exact ⟨Nat.le_of_ble_eq_true g,Nat.lt_of_succ_le (Nat.le_of_ble_eq_true k),zp1 h f⟩
 | [],_::_,_,_,h,_|_::_,[],_,_,h,_=>by grind [zdP]
theorem zBN:∀ {b}{a}{j},zdP X b a→(partOf j b=none∧zhz j a=none)∨∃ s v,partOf j b=some s∧zhz j a=some v∧VRep X s v
 | [],[],_,_=>.inl ⟨rfl,rfl⟩
 | (i,s)::b,(i',v)::a,j,h=>by
  obtain ⟨e,hv,h⟩:=h
  subst e
  simp only [partOf,zhz]
  by_cases c:Nat.beq i j=true
  ·grind
  ·rw [if_neg c,if_neg c]
   exact zBN h
 | [],_::_,_,h|_::_,[],_,h=>by grind [zdP]
theorem zqE {t p m}(u:zdP X p m):∀ {a}{j}{l}{e b},Run (zt6 a j p) t e l b →
  b=e∧l.length=a.length∧∀ (i) (s) (T),l[i]?=some s→a[i]?=some T→s.hasTy T∧match zhz (j + i) m with
   | some v=>CRep X s v.cells.toList
   | none=>s=.d T (.c T.zero)
 | [],j,l,e,b,h=>by grind [zt6,Run.pure]
 | T::a,j,l,e,b,h=>by
  unfold zt6 at h
  have x:∀ {s:SV} {f:SS},(Run (zt6 a (j + 1) p >>= fun l=>SX.X.pure (s::l)) t f l b)→f=e→s.hasTy T→(match zhz j m with
   | some v=>CRep X s v.cells.toList
   | none=>s=.d T (.c T.zero))→b=e∧l.length=(T::a).length∧∀ (i:Nat) (s:SV) (k:Ty),l[i]?=some s→(T::a)[i]?=some k→s.hasTy k∧match zhz (j + i) m with
   | some v=>CRep X s v.cells.toList
   | none=>s=.d k (.c k.zero):=by
   intro s f g n z G
   obtain ⟨l',σ2,o,y⟩:=Run.bind g
   obtain ⟨r,A⟩:=Run.pure y
   obtain ⟨B,hl,hall⟩:=zqE u o
   subst r A B n
   refine ⟨rfl,by grind,fun i F k g1 g2=>?_⟩
   cases i with
   | zero=>grind
   | succ i =>
    grind
  rcases zBN (j:=j) u with ⟨q,H⟩|⟨s,v,q,H,w⟩
  ·rw [q] at h
   obtain ⟨s,f,g,o⟩:=Run.bind h
   obtain ⟨n,r⟩:=Run.pure g
   subst n
   exact x o r rfl (by grind)
  ·rw [q] at h
   obtain ⟨F,f,g,o⟩:=Run.bind h
   obtain ⟨n,z,_,G⟩:=zhd g w
   grind
theorem zwE:∀ {l}{d}{b}{a},zAo l=some b→CRepL X l d a→∃ c,gets X.E b=some c∧DRepL X.w X.M d c a
 | [],[],b,a,h,f=>by
  simp [zAo] at h
  subst h
  simp only [CRepL] at f
  exact ⟨[],rfl,by grind [DRepL]⟩
 | s::l,T::d,b,a,h,f=>by
  cases s<;>simp only [zAo,reduceCtorEq] at h
  split at h
  ·rename_i as' i
   obtain ⟨c1,c2,e,ht,h1,g⟩:=f
   obtain ⟨c,g1,g2⟩:=zwE i g
   grind [SV.hasTy,CRep,gets,DRepL]
  grind
 | [],_::_,_,_,_,h|_::_,[],_,_,_,h=>by grind [CRepL]
end
end Go.SX
namespace Go.SX
open Go.RowKit (Below)
theorem zvq:∀ {b}{c n},zkS b c n→∀ p∈b,zhz p.1 b=some p.2∧p.1<n
 | [],_,_,_,p,a=>by grind
 | (i,v)::b,c,n,h,p,a=>by
  obtain ⟨h1,h2,d⟩:=h
  rcases List.mem_cons.1 a with a|a
  ·simp_all [zhz]
  ·obtain ⟨g1,g2⟩:=zvq d p a
   grind [zbv,zpO,zhz]
theorem zAa:∀ {a}{j:Nat},(Ty.zeroL a)[j]?=a[j]?.map Ty.zero
 | [],j=>by rfl
 | T::a,0=>by rfl
 | T::a,j + 1=>by simp [Ty.zeroL];exact zAa
theorem zz1:∀ (a),(a.map Ty.size).sum=Ty.sizeL a
 | []=>by rfl
 | T::a=>by simp [Ty.sizeL,zz1 a]
section
variable {C:FuncId→List D→Option (List D)} {k B0:Nat} {X:Ctx} {cx:Cx}
theorem zv6 (b:TysOk cx):∀ {fs:List Field},(∀ f∈fs,cx.T f.type≠.no)→fs.mapM (fun f=>(cx.P.info? f.type).map fun i=>(f.offset,i.size))=some (fs.map fun f=>(f.offset,(cx.T f.type).size))
 | [],_=>by simp
 | f::fs,h=>by
  obtain ⟨i,c⟩:=b.get (t:=f.type) rfl (h f (by simp))
  simp [List.mapM_cons,c.info,c.size,(zv6 b (fs:=fs) fun g hg=>h g (by grind))]
theorem buildStruct (y:TysOk cx) {t a ps g l μ B G}(hT:cx.T t=.st a) (H:zdP X ps g) (hso:sorted ps 0 a.length=true) (h:Run (zt6 a 0 ps) μ B l G) :
  G=B∧∃ cells:Array Value,cx.P.built t g=some cells∧CRepL X l a cells.toList:=by
 obtain ⟨es,hll,I⟩:=zqE H h
 refine ⟨es,?_⟩
 obtain ⟨i,k⟩:=y.get hT (by simp)
 obtain ⟨n,K,hTs,M⟩:=k.desc
 obtain ⟨z,hz,hd⟩:=k.zero
 have u:=hd X.w X.M
 obtain ⟨zc,ez,u⟩:=u
 obtain ⟨q,L,F,e3⟩:=u.chunks
 have hchl:q.length=a.length:=by have:=congrArg List.length F;grind
 have hsv:=zp1 H hso
 have hnk:∀ f∈n.toList,cx.T f.type≠.no:=fun f m=>by
  obtain ⟨j,hj⟩:=List.mem_iff_getElem?.1 m
  have:a[j]?=some (cx.T f.type):=by grind
  exact zdd (zit k.known this)
 have hfill:=znE (place:=((n.toList.map fun f=>(f.offset,(cx.T f.type).size)).toArray[·]?)) (ss:=a.map Ty.size) (pv:=g) (cs:=q) (cells:=zc) L F fun p hp'=>by
  obtain ⟨o,d⟩:=zvq hsv p hp'
  obtain ⟨T,J⟩:∃ T,a[p.1]?=some T:=⟨a[p.1],wF0 d⟩
  obtain ⟨s,hs⟩:∃ s,l[p.1]?=some s:=⟨l[p.1]'(by omega),wF0 _⟩
  obtain ⟨w,b⟩:=I p.1 s T hs J
  rw [vA0,o] at b
  refine ⟨T.size,by grind,?_,CRep.length w b⟩
  rw [hTs] at J
  cases m:n.toList[p.1]? with
  | none=>grind
  | some f =>
   have hoff:=zql M m
   rw [← List.map_take,zz1]
   grind
 refine ⟨(zyc q g).flatten.toArray,?_,?_⟩
 ·simp only [Program.built,k.info,K,hz,(zv6 y hnk)]
  rw [ez]
  exact hfill
 ·refine CRepL.of hll (by grind [zrK]) fun j s T c o d x=>?_
  obtain ⟨w,b⟩:=I j s T o d
  refine ⟨w,?_⟩
  rw [zur (lo:=0) (by grind)] at x
  rw [vA0] at b
  cases hvp:zhz j g with
  | some v =>
   grind
  | none =>
   rw [hvp] at b x
   subst b
   simp only [CRep]
   exact ⟨_,rfl,e3 j T T.zero c d (by rw [zAa,d];rfl) x⟩
end
end Go.SX
namespace Go.SX
open Go.RowKit (Below)
theorem DRepA.asL {w M e}:∀ {b}{a},DRepA w M e b a→DRepL w M (List.replicate b.length e) b a
 | [],a,h=>by grind [DRepA,DRepL]
 | d::b,a,h=>by
  obtain ⟨f,g,i,j,c⟩:=h
  exact ⟨f,g,i,j,DRepA.asL c⟩
theorem zym {w M T d a}(h:DRep w M T d a) (_hn:T≠.no):∃ v,v.cells.toList=a∧DVal w M T d v:=by
 unfold DVal
 cases b:T.isAgg with
 | true=>exact ⟨.agg a.toArray,by rfl,by grind⟩
 | false =>
  have c:=h.length
  rw [zsn b] at c
  match a,c with
  | [v],_ =>
   have e:=DRep.one b h
   exact ⟨v,by rw [e.cells],by grind⟩
section
variable {C:FuncId→List D→Option (List D)} {k B0:Nat} {X:Ctx} {cx:Cx}
theorem zyr {e}(p:e≠.no) {h d}(k:zdP X h d) {b:List (List Value)}:∀ {n j},(∀ (i) (c),j≤i→b[i]?=some c→DRep X.w X.M e e.zero c)→b.length=j + n →
  ∃ a,VRepL X (zn1 e.zero e h n j) a∧a.length=n∧∀ (i) (v),a[i]?=some v→some v.cells.toList=match zhz (j + i) d with
   | some u=>some u.cells.toList
   | none=>b[j + i]?
 | 0,j,_,_=>⟨[],by rfl,rfl,by simp⟩
 | n + 1,j,l,hl=>by
  obtain ⟨a,m,o,h3⟩:=zyr p k (n:=n) (j:=j + 1) (fun i c hi=>l i c (by omega)) (by omega)
  have q:∀ {v:Value},(some v.cells.toList=match zhz j d with
   | some u=>some u.cells.toList
   | none=>b[j]?)→∀ (i:Nat) (u:Value),(v::a)[i]?=some u→some u.cells.toList=match zhz (j + i) d with
   | some u=>some u.cells.toList
   | none=>b[j + i]?:=by grind
  rcases zBN (j:=j) k with ⟨f,g⟩|⟨s,v,f,g,w⟩
  ·obtain ⟨c,r⟩:∃ c,b[j]?=some c:=⟨b[j]'(by omega),wF0 _⟩
   obtain ⟨v,x,t⟩:=zym (l j c (wG0 _) r) p
   refine ⟨v::a,?_,by simp [o],q (by rw [g,x,r])⟩
   simp only [zn1,f,VRepL]
   exact ⟨v,a,rfl,VRep.data.2 ⟨_,rfl,t⟩,m⟩
  ·refine ⟨v::a,?_,by simp [o],q (by rw [g])⟩
   simp only [zn1,f,VRepL]
   exact ⟨v,a,rfl,w,m⟩
theorem zDH (I:TysOk cx) (hB:B0≤X.w.heap.size) (m:Mem B0 X) {t ps g sv G s}(h0:G.up=[]) (h:Run (zti cx t ps) X.μ G sv s) (M:Sat C k X.E s.bs s.nv)
  (N:zdP X ps g):Acts cx.P B0 X (Instr.build t g.toArray) G s fun X' v=>VRep X' sv v:=by
 have hmv:X.mv G.up=X:=by rw [h0];rfl
 unfold zti at h
 split at h
 ·rename_i Ts B
  obtain ⟨_,s1,h1,h2⟩:=Run.bind h
  obtain ⟨hso,x⟩:=Run.guard h1
  subst x
  obtain ⟨l,A,K,q⟩:=Run.bind h2
  obtain ⟨x,cells,hb,hc⟩:=buildStruct I B N hso K
  subst x
  have hrun:=run_build (P:=cx.P) X.w t g.toArray cells hb
  have nx:∀ {F:SS},F.up=A.up→F.ab=A.ab→Nx B0 X X F.up A.ab F.ab X.w:=fun f b=>by grind [Nx.same,Ext.refl]
  split at q
  ·rename_i as O
   obtain ⟨a,s3,y,Q⟩:=Run.bind q
   obtain ⟨f,b⟩:=Run.pure Q
   subst f b
   obtain ⟨⟨vals,d,o,w,q3⟩,J,q6⟩:=Run.op y M
   obtain ⟨ds,g1,g2⟩:=zwE O hc
   rw [g1] at o
   injection o with o
   simp [Prim.run] at w
   subst w
   refine ⟨_,_,X,hrun,nx J q6,VRep.data.2 ⟨_,q3,?_⟩⟩
   simp_all [DVal,Ty.isAgg,DRep]
  ·obtain ⟨f,b⟩:=Run.pure q
   subst f b
   exact ⟨_,_,X,hrun,nx rfl rfl,by grind [VRep]⟩
 ·rename_i n e B
  obtain ⟨_,s1,h1,h2⟩:=Run.bind h
  obtain ⟨hg,x⟩:=Run.guard h1
  subst x
  simp  at hg
  obtain ⟨hso,_⟩:=hg
  obtain ⟨as,A,K,q⟩:=Run.bind h2
  obtain ⟨a,s3,y,Q⟩:=Run.bind q
  obtain ⟨f,b⟩:=Run.pure Q
  subst f b
  obtain ⟨i,tf⟩:=I.get B (by simp)
  obtain ⟨E,ie,hu,tfe⟩:=zo9 I B
  obtain ⟨z,hz,hd⟩:=tf.zero
  have S:=hd X.w X.M
  obtain ⟨zc,ez,_,S⟩:=S
  have hzl:=S.asL
  rw [List.length_replicate] at hzl
  obtain ⟨H,f,b,e3⟩:=hzl.chunks
  have hchl:H.length=n:=by have:=congrArg List.length b;grind
  have hch:∀ (i:Nat) (c:List Value),0≤i→H[i]?=some c→DRep X.w X.M e e.zero c:=fun i c _ hc=>by grind
  obtain ⟨vs,hv1,hv2,hv3⟩:=zyr (zdd tfe.known) N (n:=n) (j:=0) hch (by omega)
  obtain ⟨x1,m1,hab,_,ds,hds,O,hdl,hcl⟩:=zjx hB K (y.sat M) (by grind) (by rw [hmv];exact hv1)
  obtain ⟨⟨vals,d,o,w,q3⟩,J,q6⟩:=Run.op y M
  rw [hds] at o
  injection o with o
  subst o
  simp [Prim.run] at w
  subst w
  have hsv:=zp1 N hso
  have hfill:=znE (place:=fun i=>some (i * e.size,e.size)) (ss:=(List.replicate n e).map Ty.size) (pv:=g) (cs:=H) (cells:=zc) f b fun p hp'=>by
   obtain ⟨g1,g2⟩:=zvq hsv p hp'
   grind [List.map_replicate,List.sum_replicate_nat]
  have hflat:(zyc H g).flatten=flat vs:=by
   congr 1
   apply List.ext_getElem?
   intro j
   rw [zur (lo:=0) (by grind),List.getElem?_map]
   by_cases hj:j<n
   ·grind
   ·cases hvp:zhz j g with
    | none=>grind
    | some u =>
     have key:∀ {l:List (Nat×Value)} {lo:Nat},zkS l lo n→zhz j l=some u→j<n:=by
      intro l
      induction l with
      | nil=>intro lo _ h;cases h
      | cons p l ih =>
       grind [zkS,zhz,zbv]
     grind
  have hbuilt:cx.P.built t g=some (flat vs).toArray:=by
   simp only [Program.built,tf.info,hu,hz,tfe.info,tfe.size]
   rw [ez,← hflat]
   exact hfill
  refine ⟨_,_,X.mv s.up,(run_build (P:=cx.P) X.w t g.toArray _ hbuilt),?_,VRep.data.2 ⟨_,q3,?_⟩⟩
  ·grind [Nx.same]
  ·rw [J]
   exact ⟨_,rfl,by omega,O⟩
 grind [Run.fail]
end
end Go.SX
namespace Go.SX
open Go.RowKit (Below)
section
variable {C:FuncId→List D→Option (List D)} {k B0:Nat} {X:Ctx} {cx:Cx}
theorem zE8 {P w a T d f v M}(j:(match T with|.int _=>true|.bool=>true|_=>false)=true) (h:unD a d=some f) (g:DVal w M T d v) :
  ∃ i,(Op.unary a v).run P w=.ok i w∧DVal w M T f i:=by
 cases T<;>simp at j
 ·obtain ⟨n,e,c⟩:=g.int
  subst e c
  cases a<;>simp only [unD,wB0,reduceCtorEq] at h<;>subst h
  ·exact ⟨_,rfl,DVal.of_int _ _⟩
  ·exact ⟨_,rfl,DVal.of_int _ _⟩
 ·obtain ⟨b,e,c⟩:=g.bool
  subst e c
  cases a<;>simp [unD,reduceCtorEq] at h<;>subst h
  exact ⟨_,rfl,DVal.of_bool _⟩
theorem Acts.of_pure {d c a b P}(m:Mem B0 X) (f:a.up=[]) (h:zdm P X d c a b):Acts P B0 X d a b fun g v=>VRep g c v:=by
 obtain ⟨v,j,e⟩:=h.run
 refine ⟨v,X.w,X,j,?_,e⟩
 rw [h.up,h.ab,f]
 exact Nx.same (up:=[]) (Ext.refl X) m
theorem zE1 {f x i j c}(h:Run (atD x >>= fun (p:Ty×At)=>SX.X.guard 147 (match p.1 with|.int _=>true|.bool=>true|_=>false) >>= fun _=>SX.X.op (.un f) [p.2] >>= fun v=>SX.X.pure (.d p.1 v)) X.μ j i c) (r:Sat C k X.E c.bs c.nv)
  {g} (m:VRep X x g):zdm cx.P X (Op.unary f g) i j c:=by
 obtain ⟨⟨T,a⟩,s1,o,q⟩:=Run.bind h
 obtain ⟨e,d,s,t⟩:=zF5 o m
 subst e
 obtain ⟨_,s2,u,w⟩:=Run.bind q
 obtain ⟨y,e⟩:=Run.guard u
 subst e
 obtain ⟨v,s3,z,A⟩:=Run.bind w
 obtain ⟨B,F⟩:=Run.pure A
 subst B F
 obtain ⟨⟨d0,G,b,H,I⟩,q5,q6⟩:=Run.op1 z r
 rw [s] at b
 injection b with b
 subst b
 obtain ⟨v',hr,l⟩:=zE8 (P:=cx.P) y H t
 exact ⟨q5,q6,v',hr,VRep.data.2 ⟨G,I,l⟩⟩
theorem Mem.world (m:Mem B0 X) (e:B0≤X.w.heap.size) {w'}(d:Below X.w.heap.size X.w w'):Ext X { X with w:=w' }∧Mem B0 { X with w:=w' }:=by
 refine Mem.change m e (fun _=>False) (fun _ _ h=>h) (fun _ h=>h) (fun q h=>.inl h) (fun q _=>⟨rfl,rfl⟩) (fun b f _=>d.block b f) (fun b n a=>(zcd (d.block b (zfi a))).trans a) ?_ ?_ ?_ ?_ ?_ ?_
 all_goals simp
theorem zuI {w M}:∀ (l:List UInt8),DRepA w M (.int .u8) (l.map fun b=>.int .u8 b.toNat) (l.map fun b=>Value.int .u8 (b.toNat:Int))
 | []=>by rfl
 | b::l=>by
  exact ⟨[_],_,rfl,⟨rfl,rfl⟩,zuI l⟩
theorem zDa {w M}:∀ {c}{f}{b},DRepA w M (.int .u8) c f→zgq c=some b→∃ a:List Int,f=a.map (Value.int .u8)∧a.length=c.length∧b=a.map (fun n=>UInt8.ofNat n.toNat)
 | [],f,b,h,g=>by simp_all [zgq,DRepA]
 | d::c,f,b,h,g=>by
  obtain ⟨c1,c2,e,i,k⟩:=h
  cases d<;>simp only [DRep] at i
  rename_i kk n
  obtain ⟨l,m⟩:=i
  subst l m
  simp only [zgq] at g
  split at g
  ·rename_i r j
   obtain ⟨a,g1,g2,g3⟩:=zDa k j
   exact ⟨n::a,by grind,by grind,by grind⟩
  grind
theorem zz9:∀ (a:List Int) (r:ByteArray),a.foldl (fun r n=>r.push (UInt8.ofNat n.toNat)) r=⟨r.data++(a.map fun n=>UInt8.ofNat n.toNat).toArray⟩
 | [],r=>by simp
 | n::a,r=>by
  simp
  rw [zz9 a]
  simp
end
end Go.SX
namespace Go.SX
open Go.RowKit (Below)
section
variable {C:FuncId→List D→Option (List D)} {k B0:Nat} {X:Ctx} {cx:Cx}
theorem zAh (L:TysOk cx) (hB:B0≤X.w.heap.size) (m:Mem B0 X) {A O x sv s0 s'}(h0:s0.up=[]) (h:Run (znc cx A O x) X.μ s0 sv s') (hs:Sat C k X.E s'.bs s'.nv) {vx}(hx:VRep X x vx) :
  Acts cx.P B0 X (convert A O vx) s0 s' fun J v=>VRep J sv v:=by
 have t:=zch hx
 unfold znc at h
 split at h
 ·rename_i k1 k2 k3 a I U o
  rw [o] at t
  obtain ⟨d,hd,g⟩:=VRep.data.1 t
  obtain ⟨n,y,e3⟩:=g.int
  subst y e3
  obtain ⟨i1,tf1⟩:=L.get I (by simp)
  obtain ⟨i2,tf2⟩:=L.get U (by simp)
  have hu1:cx.P.underlying A=some (.int k1):=tf1.desc
  have hu2:cx.P.underlying O=some (.int k2):=tf2.desc
  obtain ⟨v,s1,B,G⟩:=Run.bind h
  obtain ⟨o,y⟩:=Run.pure G
  subst o y
  obtain ⟨⟨H,d',f,p,Q⟩,q5,q6⟩:=Run.op1 B hs
  rw [hd] at f
  injection f with f
  subst f
  simp [Prim.run] at p
  subst p
  exact Acts.of_pure m h0 ⟨q5,q6,_,by simp_all [convert,run_underlying,Conv.intToInt],VRep.data.2 ⟨_,Q,DVal.of_int _ _⟩⟩
 ·rename_i s I U
  obtain ⟨E,i,N,S⟩:=zbC L I
  obtain ⟨i2,tf2⟩:=L.get U (by simp)
  obtain ⟨a,s1,B,G⟩:=Run.bind h
  obtain ⟨v,s2,h3,h4⟩:=Run.bind G
  obtain ⟨o,y⟩:=Run.pure h4
  subst o y
  obtain ⟨u1,u2,d,hd,g⟩:=zna hB m h0 B (h3.sat hs) t
  obtain ⟨⟨H,d',f,p,Q⟩,q5,q6⟩:=Run.op1 h3 hs
  rw [hd] at f
  injection f with f
  subst f
  simp only [Prim.run] at p
  refine Acts.of_pure m h0 ⟨by grind,q6.trans u2,?_⟩
  unfold DVal at g
  simp [Ty.isAgg] at g
  obtain ⟨_,g⟩:=g
  cases d<;>simp only [DRep] at g
  ·rename_i l
   obtain ⟨ad,V,xs,M,g2,g3,g4,_⟩:=g
   injection M with M
   subst M
   simp only [D.els] at p
   cases hb:zgq l with
   | none=>grind
   | some bs =>
    simp [hb] at p
    subst p
    obtain ⟨ns,r1,r2,r3⟩:=zDa g3 hb
    have hl:=run_loadCells_list (P:=cx.P) X.w ad xs g4
    have hlen:xs.length=l.length:=by grind
    rw [hlen,r1] at hl
    refine ⟨.string ⟨bs.toArray⟩,?_,VRep.data.2 ⟨_,Q,DVal.of_str _⟩⟩
    rw [run_convert_bytes_string X.w A O E (some ad) l.length V N S.desc tf2.desc,run_bytesToString X.w ad l.length V ns hl,zz9,r3]
    simp
  ·injection g with g
   subst g
   simp [D.els,zgq] at p
   subst p
   refine ⟨.string .empty,?_,VRep.data.2 ⟨_,Q,DVal.of_str _⟩⟩
   rw [run_convert_bytes_string X.w A O E none 0 0 N S.desc tf2.desc]
   rfl
 ·rename_i a I U o
  rw [o] at t
  obtain ⟨E,i,N,S⟩:=zbC L U
  obtain ⟨i1,tf1⟩:=L.get I (by simp)
  obtain ⟨d,hd,g⟩:=VRep.data.1 t
  obtain ⟨s,y,e3⟩:=g.str
  subst y e3
  obtain ⟨v,s1,B,G⟩:=Run.bind h
  obtain ⟨f1,f2⟩:=Run.pure G
  subst f1 f2
  obtain ⟨⟨H,d',f,p,Q⟩,q5,q6⟩:=Run.op1 B hs
  rw [hd] at f
  injection f with f
  subst f
  simp [Prim.run] at p
  subst p
  obtain ⟨x2,m2⟩:=m.world hB (((Below.refl _ _).drew).alloc (wG0 _) _)
  refine ⟨_,_,{ X with w:=X.w.drew.alloc (.cells (bytesRow s (grownCap X.w s.size 0 E)) E ((bytesRow s (grownCap X.w s.size 0 E)).size,(bytesRow s (grownCap X.w s.size 0 E)).size + 1)) },run_bytes_of_string X.w A O E s tf1.desc N S.desc,⟨rfl,rfl,?_,fun q=>⟨fun h=>.inl h,fun h=>h.elim id fun h=>by omega⟩,x2,m2,(((Below.refl _ _).drew).alloc (wG0 _) _).mono hB⟩,?_⟩
  ·rw [q5,h0];rfl
  ·refine VRep.data.2 ⟨_,Q,?_⟩
   unfold DVal
   simp only [Ty.isAgg,wA0,if_false,DRep]
   have e0:(s.data.toList.map fun b=>D.int .u8 (b.toNat:Int)).length=s.size:=by simp
   refine ⟨zbr _ _ _,⟨X.w.heap.size,0,none⟩,grownCap X.w s.size 0 E,s.data.toList.map (fun b=>Value.int .u8 (b.toNat:Int)),?_,?_,zuI _,fun j v hj=>?_,fun _ hM=>?_⟩
   ·simp
   ·simp [grownCap_ge]
   ·rw [Addr.add_mid,vA0]
    have hnew:(X.w.drew.alloc (.cells (bytesRow s (grownCap X.w s.size 0 E)) E ((bytesRow s (grownCap X.w s.size 0 E)).size,(bytesRow s (grownCap X.w s.size 0 E)).size + 1))).heap[X.w.heap.size]?=some (.cells (bytesRow s (grownCap X.w s.size 0 E)) E ((bytesRow s (grownCap X.w s.size 0 E)).size,(bytesRow s (grownCap X.w s.size 0 E)).size + 1)):=heap_alloc_new X.w.drew _
    grind [World.cell?,bytesRow]
   ·have:=m.lt' hB (b:=X.w.heap.size) hM
    omega
 ·rename_i e r I U o
  rw [o] at t
  obtain ⟨_,s1,B,G⟩:=Run.bind h
  obtain ⟨hg,K⟩:=Run.guard B
  subst K
  simp only [wD0] at hg
  have hsd:=zbv hg.1
  have he:=Ty.beq_eq hg.2
  subst hsd he
  obtain ⟨RR,s2,h3,h4⟩:=Run.bind G
  obtain ⟨F,K⟩:=Run.root h3
  subst K
  split at h4
  ·rename_i e' H l0
   obtain ⟨_,s3,h5,h6⟩:=Run.bind h4
   obtain ⟨hg,K⟩:=Run.guard h5
   subst K
   have he:=Ty.beq_eq hg
   subst he
   obtain ⟨_,s4,h7,h8⟩:=Run.bind h6
   have K:=Run.put h7
   obtain ⟨o,y⟩:=Run.pure h8
   subst K
   subst o y
   rw [h0,zbI] at F
   have F:=F.symm
   simp only [VRep] at t
   have hx0  := t
   simp only [Ref] at t
   obtain ⟨_,hA,t⟩:=t
   have hrep:=m.rep r hA
   rw [F] at hrep
   obtain ⟨d,M,g2⟩:=hrep
   simp [At.get] at M
   subst M
   obtain ⟨a1,d1,f1,f2,f3⟩:=t (by rw [F];rfl)
   rw [F] at f1
   simp [Root.row?] at f1
   subst f1
   simp [At.get] at f2
   subst f2
   rcases f3 with ⟨_,c2,_⟩|⟨b,l,c1,c2,V,bs,c3,c4,c5,c6⟩
   ·rcases c2.em with h|h<;>cases h
   ·injection c2 with c2
    subst c2
    rcases g2 with ⟨t1,_⟩|⟨b',c,te,fr,l',xs,t1,t2,t3,t4,t5,t6⟩
    ·grind
    ·rw [c1] at t1
     injection t1 with t1
     injection t2 with t2
     subst t1 t2
     rw [t4 trivial] at t3
     obtain ⟨E,i,N,S⟩:=zbC L I
     have hblt  := lt_of_heap t3
     let u:World:=X.w.freeze ⟨b,c.size,none⟩ 1
     have hw'b:u.heap[b]?=some (.cells c te (c.size,c.size + 1)):=by grind [World.freeze]
     have hw'n:∀ q,q≠b→u.heap[q]?=X.w.heap[q]?:=fun q z=>by
      simp [u,World.freeze,Array.getElem?_modify,Ne.symm z]
     have hw's:u.heap.size=X.w.heap.size:=by grind [World.freeze]
     have hmem:b∈(X.μ r).own (X.β r):=by grind [Root.own]
     have hrun:(convert A A (.slice (some ⟨b,0,none⟩) (H::l0).length V)).run cx.P X.w=.ok (.slice (some ⟨b,0,none⟩) (H::l0).length V) u:=by
      simp [convert,run_underlying N,run_underlying S.desc,markStringish,shape,Sem.run,World.shape?,t3,freeze,u]
     let J:Ctx:={ X with w:=u,μ:=upd X.μ r (.fz (.int .u8) (.c (.sl (H::l0)))) }
     have hxm:Ext X J∧Mem B0 J:=by
      refine Mem.change m hB (fun q=>q=r) (fun _ _ h=>h) (fun _ h=>h) (fun q h=>.inl h) (fun q z=>⟨upd_ne _ _ z,rfl⟩) (fun q z hno=>?_) (fun q n hn=>?_) ?_ ?_ ?_ (fun _ _ _=>rfl) ?_ ?_ rfl (zB2 F rfl)
      ·grind
      ·grind [bsize]
      ·grind [upd_same,Root.own]
      ·omega
      ·grind [upd_same,Root.own]
      ·intro q z _ _
       subst z
       refine ⟨by rw [F];rfl,fun o a1 d1 hr hd1=>?_,fun o a1 M hr=>?_⟩
       all_goals grind [Root.row?,upd_same,sameLen.refl]
      ·intro x q z _
       subst z
       simp only [J,upd_same]
       refine ⟨⟨_,rfl,.inr ⟨b,c,te,(c.size,c.size + 1),H::l0,xs,c1,rfl,hw'b,fun h=>h.elim,t5.keep x.K,t6⟩⟩,fun b' hb' hMb=>?_⟩
       rw [c1] at hb'
       injection hb' with hb'
       subst hb'
       rcases hMb with hf|⟨q',ha',hq'⟩
       ·have B:=m.frame b hf
        have G:=m.low q b hA hmem
        omega
       ·by_cases hqq:q'=q
        ·grind [upd_same,Root.own]
        ·simp only [J,upd_ne _ _ hqq] at hq'
         exact hqq (m.apart q' q b ha' hA hq' hmem)
     have hbel:Below B0 X.w u:=⟨rfl,rfl,rfl,Nat.le_of_eq hw's.symm,fun q z=>hw'n q fun e=>by
      subst e
      have:=m.low r q hA hmem
      omega⟩
     subst c3
     refine ⟨_,u,J,hrun,⟨rfl,rfl,?_,fun q=>⟨fun h=>.inl h,fun h=>h.elim id fun h=>?_⟩,hxm.1,hxm.2,hbel⟩,?_⟩
     ·grind [zca,zbI]
     ·grind
     ·exact hx0.ext hxm.1
  grind [Run.fail]
 grind [Run.fail]
end
end Go.SX
namespace Go.SX
open Go.RowKit (Below)
section
variable {C:FuncId→List D→Option (List D)} {k B0:Nat} {X:Ctx} {cx:Cx}
theorem VRepL.get:∀ {l}{a}{j:Nat}{s},VRepL X l a→l[j]?=some s→∃ v,a[j]?=some v∧VRep X s v
 | [],_,j,_,_,h=>by grind
 | u::l,a,0,s,b,h=>by grind [VRepL]
 | u::l,a,j + 1,s,b,h=>by
  obtain ⟨v,r,e,_,c⟩:=b
  subst e
  simpa using VRepL.get c h
theorem zzY {P l j b v c d}(h:Run (SX.X.of 150 (l[j]?)) X.μ c b d) (a:VRep X (.tu l) v):zdm P X (Instr.extract v j) b c d:=by
 obtain ⟨g,i⟩:=Run.of h
 subst i
 obtain ⟨vs,e,a⟩:=a
 obtain ⟨u,h1,f⟩:=VRepL.get a g
 exact ⟨rfl,rfl,u,by simp_all [Instr.extract],f⟩
theorem zmB (z) (n):(Builtin.zeroCells z n).toList=(List.replicate n z.toList).flatten:=by
 have:=zoQ (z:=z) rfl n
 grind [Builtin.zeroCells,madeCells]
theorem zzX {P w t e T A}(a:P.underlying t=some (.slice e)):(Builtin.clear_ #[t] T #[.slice A 0 0]).run P w=.ok (.tuple #[]) w:=by
 cases A<;>simp [Builtin.clear_,za7 a]
theorem zvo {P w t E T z b o n cap c d}(a:P.underlying t=some (.slice E)) (hz:(zeroValue E).run P w=.ok z w) (e:w.heap[b]?=some (.cells c d (0,0)))
  (hfit:o + n * z.cells.size≤c.size) (f:∀ u∈z.cells.toList,One u) :
  (Builtin.clear_ #[t] T #[.slice (some ⟨b,o,none⟩) n cap]).run P w=.ok (.tuple #[]) (w.setRow b (patch c.toList o (List.replicate n z.cells.toList).flatten).toArray):=by
 have hst:=run_storeCells_at P b o d (List.replicate n z.cells.toList).flatten 0 c w e (by simp_all) (fun u a=>by
  rw [List.mem_flatten] at a
  obtain ⟨l,g,a⟩:=a
  rw [List.eq_of_mem_replicate g] at a
  exact (f u a).one)
 cases n with
 | zero =>
  have:patch c.toList o (List.replicate 0 z.cells.toList).flatten=c.toList:=by simp [zu1]
  rw [this,Array.toArray_toList,setRow_self w b c d (0,0) e]
  simp [Builtin.clear_,za7 a]
 | succ n =>
  have hzf:(Builtin.zeroCells z.cells (n + 1)).toList=(List.replicate (n + 1) z.cells.toList).flatten:=zmB _ _
  simp_all [Builtin.clear_,za7,patch]
end
end Go.SX
namespace Go.SX
open Go.RowKit (Below)
section
variable {C:FuncId→List D→Option (List D)} {k B0:Nat} {X:Ctx} {cx:Cx}
theorem Mem.rewrite {e r b a k l i f c c' o}(m:Mem B0 X) (v:B0≤X.w.heap.size) (w:X.A r) (n:X.μ r=.row e a) (u:(X.β r).main=some b)
  (ha:a.get X.E=some (.sl l)) (q:k.get X.E=some (.sl i)) (hl:i.length=l.length) (s:X.w.heap[b]?=some (.cells c o (0,0))) (y:c'.size=c.size) (z:DRepA X.w X.M e i f) (A:c'.toList.take f.length=f) :
  b∈(X.μ r).own (X.β r)∧Ext X (X.wrote b c' r (.row e k))∧Mem B0 (X.wrote b c' r (.row e k)):=by
 refine ⟨(by grind [Root.own]),m.write v w (by grind [Root.own]) s y (by rw [n];rfl) (fun _=>⟨by rw [n];rfl,fun B F d j hd=>?_,fun B F g j=>?_⟩) fun x=>?_⟩
 ·rw [n] at j
  simp [Root.row?] at j
  obtain ⟨G,t⟩:=j
  subst G t
  exact ⟨k,_,by simp [Ctx.wrote,upd_same,Root.row?],q,fun h=>(by grind),fun l0 hl0=>(by grind)⟩
 ·simp_all [Ctx.wrote,upd_same]
 ·exact ⟨_,q,.inr ⟨b,c',o,(0,0),i,f,u,rfl,setRow_heap _ _ _ _ _ _ s,fun _=>rfl,z.keep x.K,A⟩⟩
theorem zvX (ty:TysOk cx) (Q:B0≤X.w.heap.size) (m:Mem B0 X) {t T e r a p J f}(hT:cx.T t=.sl e) (B:X.μ r=.row e a) (h:Run (SX.X.op (.clr e.zero) [a]) X.μ J p f) (hs:Sat C k X.E f.bs f.nv) {v}(Y:Ref X (.h e r none) v)
  {I} (h0:J.up=[]) (hup:I.up=(r,Root.row e p)::f.up) (hab:I.ab=f.ab):Acts cx.P B0 X (Builtin.clear_ #[t] T #[v]) J I fun _ _=>True:=by
 obtain ⟨E,i,O,W⟩:=zbC ty hT
 obtain ⟨z,hz,_,u⟩:=zl8 W (w:=X.w)
 have F:X.A r:=by grind [Ref]
 have S:=m.rep r F
 rw [B] at S
 obtain ⟨d,M,h2⟩:=S
 obtain ⟨⟨d0,Z,H,y,R⟩,q5,q6⟩:=Run.op1 h hs
 rw [M] at H
 injection H with H
 subst H
 rcases (zpw m F B M Y) with ⟨K,j⟩|⟨b,l,c,te,xs,cap,K,j,G,c4,c5,c6,c7,c8⟩
 ·obtain ⟨A,G⟩:=j.val
  subst G
  have q3':Z=d:=by rcases j.em with h|h<;>subst h<;>simp [Prim.run] at y<;>exact y.symm
  subst q3'
  have U:Ext X { X with μ:=upd X.μ r (.row e p) }∧Mem B0 { X with μ:=upd X.μ r (.row e p) }:=by
   refine Mem.change m Q (fun q=>q=r) (fun _ _ h=>h) (fun _ h=>h) (fun q h=>.inl h) (fun q s=>⟨upd_ne _ _ s,rfl⟩) (fun _ _ _=>rfl) (fun _ _ h=>h) ?_ ?_ ?_ (fun _ _ _=>rfl) ?_ ?_
   ·grind [upd_same,Root.own]
   ·omega
   ·grind [upd_same,Root.own]
   ·intro q s _ _
    subst s
    refine ⟨by rw [B];rfl,fun e1 a1 d hr u=>?_,fun e1 a1 g hr=>?_⟩
    all_goals grind [Root.row?,upd_same,sameLen.refl]
   ·intro x q s _
    subst s
    simp only [upd_same]
    exact ⟨_,R,.inl ⟨K,j.em⟩⟩
  refine ⟨_,X.w,{ X with μ:=upd X.μ r (.row e p) },zzX O,⟨rfl,rfl,?_,fun q=>⟨fun h=>.inl h,fun h=>h.elim id fun h=>by omega⟩,U.1,U.2,Below.refl _ _⟩,trivial⟩
  grind [zca,zbI]
 ·subst j c6
  simp [Prim.run] at y
  subst y
  have hfl:=znm z.cells.toList l.length
  have hfit:0 + (List.replicate l.length z.cells.toList).flatten.length≤c.toList.length:=by
   rw [vA0,hfl,((u X.w X.M).cells.length),Array.length_toList]
   exact Nat.le_trans (vK0 _ c7) c8
  obtain ⟨hmem,V⟩:=m.rewrite Q F B K M R (by simp) G (c':=(patch c.toList 0 (List.replicate l.length z.cells.toList).flatten).toArray) (by grind [zbB]) (ziF (u X.w X.M).cells l.length) (by simp [patch])
  exact ⟨_,_,_,(zvo (P:=cx.P) (w:=X.w) (T:=T) (o:=0) (n:=l.length) (cap:=cap) O hz G (by grind) (u X.w X.M).cells.ones),Nx.wrote (up:=[]) (Ext.refl X) m F hmem V (by grind) (by omega),trivial⟩
end
end Go.SX
namespace Go.SX
open Go.RowKit (Below)
section
variable {C:FuncId→List D→Option (List D)} {k B0:Nat} {X:Ctx} {cx:Cx}
theorem Mem.renamed {e r g a n d}(m:Mem B0 X) (z:B0≤X.w.heap.size) (i:X.A r) (j:X.μ r=.mat e a g) (F:a.get X.E=some d) (v:n.get X.E=some d) :
  Ext X { X with μ:=upd X.μ r (.mat e n g) }∧Mem B0 { X with μ:=upd X.μ r (.mat e n g) }:=by
 refine Mem.change m z (fun q=>q=r) (fun _ _ h=>h) (fun _ h=>h) (fun q h=>.inl h) (fun q f=>⟨upd_ne _ _ f,rfl⟩) (fun _ _ _=>rfl) (fun _ _ h=>h) ?_ ?_ ?_ (fun _ _ _=>rfl) ?_ ?_
 ·intro q b f _ o
  subst f
  simp only [upd_same] at o
  exact .inr ⟨q,rfl,i,by rw [j];exact o⟩
 ·omega
 ·intro q f _
  subst f
  have:=m.once q i
  rw [j] at this
  simp only [upd_same]
  exact this
 ·intro q f _ _
  subst f
  refine ⟨by rw [j];rfl,fun G w y p hd=>?_,fun G w g1 p=>?_⟩
  ·grind [Root.row?,upd_same,sameLen.refl]
  ·simp only [upd_same] at p
   grind [sameRows.refl]
 ·intro x q f _
  subst f
  simp only [upd_same]
  have t:=m.rep q i
  have B:=m.once q i
  rw [j] at t B
  obtain ⟨y,k,u⟩:=t
  rw [F] at k
  injection k with k
  subst k
  refine ⟨d,v,?_⟩
  rcases u with u|⟨b,c,H,l,I,J,K,L,M,A⟩
  ·grind
  ·exact .inr ⟨b,c,H,l,I,J,K,L,RowCells.keep x.K (fun _ _=>rfl) M,A⟩
theorem zvU (ty:TysOk cx) (hB:B0≤X.w.heap.size) (m:Mem B0 X) {t T e r g a U y y' a' Z s1 s2 s V}(hT:cx.T t=.sl e) (K:X.μ r=.mat e a g) (h1:Run (SX.X.op .get [a,U]) X.μ Z y s1)
  (h2:Run (SX.X.op (.clr e.zero) [y]) X.μ s1 y' s2) (W:Run (SX.X.op .set [a,U,y']) X.μ s2 a' s) (Y:Sat C k X.E s.bs s.nv) {v} (x:Ref X (.hr e r U g) v) (h0:Z.up=[]) (hup:V.up=(r,Root.mat e a' g)::s.up) (hab:V.ab=s.ab) :
  Acts cx.P B0 X (Builtin.clear_ #[t] T #[v]) Z V fun _ _=>True:=by
 obtain ⟨E,i,hu,tf⟩:=zbC ty hT
 obtain ⟨z,hz,_,hd⟩:=zl8 tf (w:=X.w)
 obtain ⟨_,L,x⟩:=x
 obtain ⟨_,x⟩:=x _ _ _ K
 obtain ⟨_,kk,j,ds,d,o,G,v2,v3,v4,v5⟩:=x rfl
 obtain ⟨⟨d0,di,yd,H,M,p,q4⟩,q5,q6⟩:=Run.op2 h1 (h2.sat (W.sat Y))
 rw [G] at H
 rw [v2] at M
 injection H with H
 injection M with M
 subst H M
 simp [Prim.run] at p
 rw [v3] at p
 injection p with p
 subst p
 obtain ⟨⟨e0,yd',J,N,p4⟩,p5,p6⟩:=Run.op1 h2 (W.sat Y)
 rw [q4] at J
 injection J with J
 subst J
 obtain ⟨⟨z0,z1,z2,z3,I,Q,R,F,o5⟩,o6,o7⟩:=Run.op3 W Y
 rw [G] at I
 rw [v2] at Q
 rw [p4] at R
 injection I with I
 injection Q with Q
 injection R with R
 subst I Q R
 simp only [Prim.run] at F
 split at F
 ·injection F with F
  subst F
  have hrep:=m.rep r L
  rw [K] at hrep
  obtain ⟨dm,O,g2⟩:=hrep
  rw [G] at O
  injection O with O
  subst O
  rcases g2 with ⟨_,w1,_⟩|⟨bm,c,te,l2,xs,w1,w2,w3,w4,w5⟩
  ·grind
  ·injection w2 with w2
   subst w2
   obtain ⟨u,hu2,hrc⟩:=w4.get v3 v4
   rcases hrc with ⟨c1,c2⟩|⟨b,l,cc,te',xs',cap,c1,c2,c3,c4,c5,c6,c7,c8⟩
   ·rcases v5 with ⟨_,S⟩|⟨b',l',cap',bs,B,f,_⟩
    ·obtain ⟨A,x4⟩:=S.val
     subst x4
     have p3':yd'=d:=by rcases S.em with h|h<;>subst h<;>simp [Prim.run] at N<;>exact N.symm
     subst p3'
     have same:(ds.set (Int.ofNat j).toNat yd')=ds:=by
      apply List.ext_getElem?
      grind
     rw [same] at o5
     obtain ⟨f,m2⟩:=m.renamed hB L K G o5
     refine ⟨_,X.w,{ X with μ:=upd X.μ r (.mat e a' g) },zzX hu,⟨rfl,rfl,?_,fun q=>⟨fun h=>.inl h,fun h=>h.elim id fun h=>by omega⟩,f,m2,Below.refl _ _⟩,trivial⟩
     grind [zca,zbI]
    grind
   ·subst c1 c2
    rcases v5 with ⟨B,_⟩|⟨b',l',cap',bs,B,f,S,x4,x5,x6⟩
    ·grind
    ·injection B with B
     injection f with f
     subst B f S
     simp [Prim.run] at N
     subst N
     have hzl:=(hd X.w X.M).cells.length
     have hfl:=znm z.cells.toList l.length
     have hxl:=c4.length
     obtain ⟨hmem,hw⟩:=m.inRow hB L K G v4 v3 (ll':=List.replicate l.length e.zero) (off:=0) (cv:=(List.replicate l.length z.cells.toList).flatten) (by simpa using o5) (by simp) c3 c5 (by rw [vA0,hfl,hzl,hxl];exact wG0 _) (by
      rw [zg1 (by rw [hfl,hzl,hxl])]
      exact ziF (hd X.w X.M).cells l.length)
     exact ⟨_,_,_,(zvo (P:=cx.P) (w:=X.w) (T:=T) (o:=0) (n:=l.length) (cap:=cap') hu hz c3 (by grind) (hd X.w X.M).cells.ones),Nx.wrote (up:=[]) (Ext.refl X) m L hmem hw (by grind) (by omega),trivial⟩
 grind
end
end Go.SX
namespace Go.SX
open Go.RowKit (Below)
section
variable {P:Program} {w:World}
theorem zfU {t a e d b}(g:P.underlying a=some (.slice d)) (f:P.underlying t=some (.slice e)) (A) (n c) (x) {i}(h:P.info? e=some i) :
  (Builtin.append_ #[t,a] b #[.slice A n c,x]).run P w=(Builtin.append_ #[t,t] b #[.slice A n c,x]).run P w:=by
 simp [Builtin.append_,za7 g,za7 f,sizeOf,typeInfo,h]
theorem znN {t e ty k i}(q:P.underlying t=some (.slice e)) (r:P.info? e=some i) {g b h f}(n:w.heap[g]?=some (.cells f k (0,0)))
  {a m c d} (o:d.length=m * i.size) (p:∀ j u,d[j]?=some u→w.cell? (a.add j)=some u) (s:∀ u∈d,One u) (v:b + m≤h) (hfit:b * i.size + d.length≤f.size) :
  (Builtin.append_ #[t,t] ty #[.slice (some ⟨g,0,none⟩) b h,.slice (some a) m c]).run P w=.ok (.slice (some ⟨g,0,none⟩) (b + m) h) (w.setRow g (patch f.toList (b * i.size) d).toArray):=by
 have x:(⟨g,0,none⟩:Addr).add (b * i.size)=⟨g,b * i.size,none⟩:=by simp [Addr.add_mid]
 simp [Builtin.append_,za7 q,sizeOf,typeInfo,r,Builtin.lenOf,v,(run_firstCells_some (P:=P) w i.size m a m c d o p),x,(run_storeCells_at P g (b * i.size) k d 0 f w n (by omega) (fun u l=>(s u l).one)),patch]
end
end Go.SX
namespace Go.SX
open Go.RowKit (Below)
section
variable {P:Program} {w:World}
theorem zjh {t e d i}(a:P.underlying t=some (.slice e)) (b:P.info? e=some i) {A n c}(f:n≤c) :
  (Builtin.append_ #[t,t] d #[.slice A n c,.slice none 0 0]).run P w=.ok (.slice A n c) w:=by
 cases A<;>simp [Builtin.append_,za7 a,sizeOf,typeInfo,b,Builtin.lenOf,f,Builtin.firstCells,storeCells]
theorem zi5 {t e b i}(d:P.underlying t=some (.slice e)) (h:P.info? e=some i) {A n c f}(g:n≤c) {a} :
  (Builtin.append_ #[t,t] b #[.slice A n c,.slice (some a) 0 f]).run P w=.ok (.slice A n c) w:=by
 have j:(loadCells a 0).run P w=.ok #[] w:=run_loadCells_list (P:=P) w a [] (by simp)
 cases A<;>simp [Builtin.append_,za7 d,sizeOf,typeInfo,h,Builtin.lenOf,g,Builtin.firstCells,storeCells,j]
theorem zGk {a b bytes}(h:b<a) (c:zcm a bytes=true):Builtin.nextslicecap a b * bytes≤281474976710656:=by
 simp [zcm] at c
 exact growslice_fits h (by omega)
theorem zfo {a bytes}(hr:zcm a bytes=true):(a:Int)≤9223372036854775807:=by grind [zcm]
theorem ziO {t e ty i z}(s:P.underlying t=some (.slice e)) (x:P.info? e=some i) (y:i.zero=some z) (B:z.cells.size=i.size) {A n c olds}
  (G:(A=none∧n=0∧c=0∧olds=[])∨∃ b,A=some b∧olds.length=n * i.size∧∀ j v,olds[j]?=some v→w.cell? (b.add j)=some v)
  {a m c' d} (h:d.length=m * i.size) (F:∀ j u,d[j]?=some u→w.cell? (a.add j)=some u) (g:c<n + m) (f:zcm (n + m) i.bytes=true) :
  ∃ o p,(Builtin.append_ #[t,t] ty #[.slice A n c,.slice (some a) m c']).run P w=.ok (.slice (some ⟨w.heap.size,0,none⟩) (n + m) o) (w.drew.alloc (.cells p e))∧n + m≤o∧o * i.size≤p.size∧p.toList.take (olds++d).length=olds++d:=by
 rcases G with ⟨q,k,r,H⟩|⟨b,q,k,r⟩
 ·subst q k r H
  rw [vA0] at g f ⊢
  have I:=f
  simp [zcm] at I
  have l:=grownCap_ge w m 0 e
  refine ⟨_,_,run_append_nil w t ty e i z s x y a m c' d h F g (zfo f) (by omega),l,?_,?_⟩
  ·rw [Array.size_append,size_zeroCells,B,List.size_toArray,h,← Nat.add_mul]
   grind
  simp
 ·subst q
  have l:=grownCap_ge w (n + m) c e
  refine ⟨_,_,run_append_grow w t ty e i z s x y b n c olds k r a m c' d h F g (zfo f) (zGk g f),l,?_,?_⟩
  ·rw [Array.size_append,Array.size_append,size_zeroCells,B,List.size_toArray,List.size_toArray,h,k,← Nat.add_mul,← Nat.add_mul]
   grind
  grind
end
end Go.SX
namespace Go.SX
open Go.RowKit (Below)
mutual
theorem DRep.flat {w w':World}{M M':Nat→Prop}:∀ {T:Ty}{d:D}{a:List Value},T.flat=true→DRep w M T d a→DRep w' M' T d a
 | T,.int k n,a,_,h=>by cases T<;>simp only [DRep] at h ⊢<;>exact h
 | T,.bool b,a,_,h=>by cases T<;>simp only [DRep] at h ⊢<;>exact h
 | T,.str s,a,_,h=>by cases T<;>simp only [DRep] at h ⊢<;>exact h
 | T,.nil,a,_,h=>by cases T<;>simp only [DRep] at h ⊢<;>exact h
 | T,.agg f,a,c,h=>by
  cases T<;>simp only [DRep] at h ⊢
  ·exact DRepL.flat (by simpa only [Ty.flat] using c) h
  ·exact ⟨h.1,DRepA.flat (by simpa only [Ty.flat] using c) h.2⟩
 | T,.sl f,a,c,h=>by
  cases T<;>simp only [DRep] at h
  grind [Ty.flat]
theorem DRepL.flat {w w':World}{M M':Nat→Prop}:∀ {g:List Ty}{f:List D}{a:List Value},Ty.flatL g=true→DRepL w M g f a→DRepL w' M' g f a
 | [],[],a,_,h=>by grind [DRepL]
 | T::g,d::f,a,c,h=>by
  simp [Ty.flatL] at c
  obtain ⟨l,i,e,j,m⟩:=h
  exact ⟨l,i,e,DRep.flat c.1 j,DRepL.flat c.2 m⟩
 | [],_::_,_,_,h=>by grind [DRepL]
 | _::_,[],_,_,h=>by grind [DRepL]
theorem DRepA.flat {w w':World}{M M':Nat→Prop}:∀ {e:Ty}{f:List D}{a:List Value},e.flat=true→DRepA w M e f a→DRepA w' M' e f a
 | e,[],a,_,h=>by grind [DRepA]
 | e,d::f,a,c,h=>by
  obtain ⟨l,i,o,j,m⟩:=h
  exact ⟨l,i,o,DRep.flat c j,DRepA.flat c m⟩
end
end Go.SX
namespace Go.SX
open Go.RowKit (Below)
def Src (w:World) (M:Nat→Prop) (e:Ty) (d:D) (v:Value):Prop :=
 (d=.nil∧v=.slice none 0 0)∨∃ l xs ad cap,d=.sl l∧v=.slice (some ad) l.length cap∧DRepA w M e l xs∧∀ j u,xs[j]?=some u→w.cell? (ad.add j)=some u
theorem Src.of {w M g e d v}(b:DVal w M (.sl e) d v) (j:∀ l c,DRepA w M e l c→DRepA w g e l c):Src w g e d v:=by
 obtain ⟨_,b⟩:=b
 cases d<;>simp only [DRep] at b
 ·obtain ⟨a,i,c,f,h2,k,h,h5⟩:=b
  injection f with f
  exact .inr ⟨_,c,a,i,rfl,f,j _ _ k,h⟩
 ·injection b with b
  exact .inl ⟨rfl,b⟩
theorem Src.keep {w M a e d v}(K:Keeps w w M a) (h:Src w M e d v):Src w a e d v:=by
 rcases h with h|⟨l,c,f,g,i,j,k,b⟩
 ·exact .inl h
 ·exact .inr ⟨l,c,f,g,i,j,k.keep K,b⟩
section
variable {C:FuncId→List D→Option (List D)} {k B0:Nat} {X:Ctx} {cx:Cx}
theorem zE3 {e r I v a}(m:Mem B0 X) (R:X.A r) (hh:HRep X e r I v) (N:X.μ r=.row e a) {d:D}
  (t:match I with|none=>a.get X.E=some d|some (V,hi)=>∃ u l h,a.get X.E=some u∧V.get X.E=some l∧hi.get X.E=some h∧Prim.run .sub [u,l,h]=some d):Src X.w X.M e d v:=by
 obtain ⟨a1,d1,q,L,O⟩:=hh
 rw [N] at q
 injection q with q
 injection q with _ q
 subst q
 have P:=m.rep r R
 rw [N] at P
 obtain ⟨d2,y,Q⟩:=P
 rw [L] at y
 injection y with y
 subst y
 have emp:∀ {d:D} {v:Value},Empt d v→Src X.w X.M e d v:=fun h=>by
  rcases h with ⟨h,F⟩|⟨h,H,F⟩
  ·exact .inl ⟨h,F⟩
  ·exact .inr ⟨[],[],H,0,h,F,by rfl,fun j u hj=>by grind⟩
 cases I with
 | none =>
  simp only at t
  rw [L] at t
  injection t with t
  subst t
  rcases O with ⟨x,o,_⟩|⟨U,l,x,o,B,bs,J,z,K,S⟩
  ·grind
  ·rcases Q with ⟨s,b⟩|⟨W,c,Y,Z,l',G,s,b,q3,q4,M,q6⟩
   ·grind
   ·rw [o] at b
    injection b with b
    subst b o
    exact .inr ⟨l,G,_,B,rfl,J,M,fun j u hj=>by rw [addr_add,vA0];grind [zc4]⟩
 | some p =>
  obtain ⟨u,l0,h0,A,f,g,w⟩:=t
  rw [L] at A
  injection A with A
  subst A
  rcases O with ⟨x,o,k,k',z,K⟩|⟨U,l,x,o,H,B,bs,k,k',i,j,J,z,K,S,p7,p8,p9,p10,p11⟩
  ·rw [z] at f
   rw [K] at g
   injection f with f
   injection g with g
   subst f g
   have e0:d=d1:=by
    rcases o.em with h|h<;>subst h<;>simp [Prim.run] at w<;>exact w.symm
   grind
  ·rw [J] at f
   rw [z] at g
   injection f with f
   injection g with g
   subst f g o
   have hc:(0:Int)≤Int.ofNat i∧Int.ofNat i≤Int.ofNat j∧Int.ofNat j≤(l.length:Int):=⟨by simp,by grind,by grind⟩
   simp only [Prim.run,if_pos hc] at w
   injection w with w
   subst w
   rcases Q with ⟨s,b⟩|⟨W,c,Y,Z,l',G,s,b,q3,q4,M,q6⟩
   ·grind
   ·rw [x] at s
    injection s with s
    injection b with b
    subst b
    refine .inr ⟨_,(G.take (j * e.size)).drop (i * e.size),H,B,rfl,by grind,?_,fun n u hn=>?_⟩
    ·simp
     exact (M.take j).drop i
    grind [addr_add,zc4]
theorem zhv {e x σ b y v}(w:B0≤X.w.heap.size) (h:Run (zGh e x) X.μ σ y b) (hs:Sat C k X.E b.bs b.nv) (m:Mem B0 (X.mv σ.up)) (o:VRep (X.mv σ.up) x v) :
  Ext (X.mv σ.up) (X.mv b.up)∧Mem B0 (X.mv b.up)∧b.ab=σ.ab∧∃ d,y.get X.E=some d∧Src X.w (X.mv b.up).M e d v:=by
 have row:∀ {K:Ty} {r:Nat} {H:Option (At×At)} {σ:SS} {a:At},Mem B0 (X.mv σ.up)→VRep (X.mv σ.up) (.h K r H) v→(X.mv σ.up).μ r=.row e a→Run (SV.view false (.sl e) (.h K r H)) X.μ σ y b →
   Ext (X.mv σ.up) (X.mv b.up)∧Mem B0 (X.mv b.up)∧b.ab=σ.ab∧∃ d,y.get X.E=some d∧Src X.w (X.mv b.up).M e d v:=by
  intro K r H σ a m o q h
  obtain ⟨_,s1,h1,A⟩:=Run.bind h
  obtain ⟨f,i⟩:=Run.guard h1
  subst i
  have f:=Ty.beq_eq f
  injection f with f
  subst f
  obtain ⟨a0,N,z,s⟩:=Run.bind A
  obtain ⟨hone,hA,L⟩:=o
  obtain ⟨J,x,m',hf,r2,ho⟩:=zeL z m w hA
  have B:=hf rfl
  subst B
  rw [q] at J
  simp [Root.row?] at J
  subst J
  have Q:=L (by rw [q];rfl)
  cases H with
  | none =>
   obtain ⟨i,j⟩:=Run.pure s
   subst i j
   obtain ⟨a1,d1,P,g2,_⟩:=id Q
   rw [q] at P
   simp [Root.row?] at P
   subst P
   exact ⟨Ext.refl _,m,rfl,d1,g2,zE3 m hA Q q g2⟩
  | some p =>
   obtain ⟨⟨u,l,hh0,d,f1,f2,f3,f4,f5⟩,i,j⟩:=Run.op3 s hs
   rw [i,j]
   exact ⟨Ext.refl _,m,rfl,d,f5,zE3 m hA Q q ⟨u,l,hh0,f1,f2,f3,f4⟩⟩
 have any:∀ {T:SV},T=x→Run (SV.view true (.sl e) T) X.μ σ y b→Ext (X.mv σ.up) (X.mv b.up)∧Mem B0 (X.mv b.up)∧b.ab=σ.ab∧∃ d,y.get X.E=some d∧Src X.w (X.mv b.up).M e d v:=by
  intro T f L
  rw [f] at L
  obtain ⟨n,t,_,G,d,I,hdv⟩:=zjd w L hs m o
  exact ⟨n,t,G,d,I,Src.of hdv fun _ _ h=>h⟩
 rcases Run.ite h with ⟨hf,h⟩|⟨_,h⟩
 ·obtain ⟨n,t,_,G,d,I,hdv⟩:=zjd w h hs m o
  exact ⟨n,t,G,d,I,Src.of hdv fun _ _ h=>h.flat hf⟩
 ·split at h
  ·rename_i K r H _
   obtain ⟨RR,s1,h1,A⟩:=Run.bind h
   obtain ⟨i,j⟩:=Run.root h1
   subst j
   split at A
   ·rename_i j a2
    have q:(X.mv s1.up).μ r=.row j a2:=i.symm
    have hee:j=e:=by
     obtain ⟨_,N,z,s⟩:=Run.bind A
     obtain ⟨f,e3⟩:=Run.guard z
     subst e3
     have f:=Ty.beq_eq f
     obtain ⟨a0,s3,h5,_⟩:=Run.bind s
     obtain ⟨J,_⟩:=zeL h5 m w o.2.1
     grind [Root.row?]
    grind
   ·rename_i O a g
    obtain ⟨_,N,z,s⟩:=Run.bind A
    obtain ⟨hb,B⟩:=Run.guard z
    subst B
    have hb:=Ty.beq_eq hb
    subst hb
    obtain ⟨_,s3,h5,h6⟩:=Run.bind s
    have B:=Run.put h5
    subst B
    obtain ⟨n,t⟩:=m.lower (hB:=w) (r:=r) (by exact o.2.1) (e:=.sl O) (a:=a) (.inr ⟨O,g,rfl,i.symm⟩) (R:=.row (.sl O) a) (.inr rfl)
    rw [← Ctx.mv_cons] at n t
    obtain ⟨x2,m2,G,I⟩:=row (σ:={ N with up:=(r,Root.row (.sl O) a)::N.up }) (a:=a) t (VRep.ext n o) (by simp [Ctx.mv_cons,upd_same]) h6
    exact ⟨n.trans x2,m2,G,I⟩
   grind
  grind
theorem Mem.newEmpt (m:Mem B0 X) (l:B0≤X.w.heap.size) {r}(k:¬ X.A r) {e a d v}(g:a.get X.E=some d) (f:Empt d v) :
  let c:=X.grown X.w r (.row e a) ⟨none,[]⟩
  (Ext X c∧Mem B0 c)∧VRep c (.h e r none) v:=by
 intro c
 have j:c.μ r=.row e a:=by simp [c,Ctx.grown,upd_same]
 have hβ:c.β r=⟨none,[]⟩:=by simp [c,Ctx.grown,upd_same]
 refine ⟨m.grow l k (Below.refl _ _) (fun b hb=>by grind [Root.own]) (by simp [Root.own]) fun x=>⟨_,g,.inl ⟨by grind,f.em⟩⟩,?_⟩
 obtain ⟨A,e0⟩:=f.val
 exact ⟨by grind [zbr],.inr rfl,fun _=>⟨a,d,by rw [j];rfl,g,.inl ⟨by grind,f,trivial⟩⟩⟩
theorem zhw (_ty:TysOk cx) (I:B0≤X.w.heap.size) (m:Mem B0 X) {t E tt e i}(x:cx.P.underlying t=some (.slice E)) (f:TyFact cx E e i) {O E2}(V:cx.P.underlying O=some (.slice E2)) {r}(J:¬ X.A r)
  {o d q N F} (k:Empt o N) (S:Src X.w X.M e d F) (g:appD (cx.by_ E) o d=some q) {a} (y:a.get X.E=some q) :
  ∃ v s p,(Builtin.append_ #[t,O] tt #[N,F]).run cx.P X.w=.ok v s∧Below X.w.heap.size X.w s ∧
   (Ext X (X.grown s r (.row e a) p)∧Mem B0 (X.grown s r (.row e a) p))∧VRep (X.grown s r (.row e a) p) (.h e r none) v:=by
 obtain ⟨A,eA⟩:=k.val
 subst eA
 rw [zfU V x A 0 0 F f.info]
 simp only [appD,k.em.els] at g
 rcases S with ⟨G,B⟩|⟨l,xs,ad,U,G,B,Q,h4⟩
 ·subst G B
  simp only [D.els,List.length_nil,vA0,vL0] at g
  split at g
  ·have u:q=o:=by
    rcases k.em with h|h<;>subst h<;>simp at g<;>exact g.symm
   subst u
   obtain ⟨H,K⟩:=m.newEmpt I J y k (e:=e)
   exact ⟨_,X.w,⟨none,[]⟩,zjh x f.info (wG0 _),Below.refl _ _,H,K⟩
  grind
 ·subst G B
  simp only [D.els,List.nil_append,List.length_nil,vA0] at g
  split at g
  ·rename_i hroom
   cases l with
   | nil =>
    have u:q=o:=by
     rcases k.em with h|h<;>subst h<;>simp at g<;>exact g.symm
    subst u
    obtain ⟨H,K⟩:=m.newEmpt I J y k (e:=e)
    exact ⟨_,X.w,⟨none,[]⟩,zi5 x f.info (wG0 _),Below.refl _ _,H,K⟩
   | cons L l =>
    have u:q=.sl (L::l):=by grind
    subst u
    obtain ⟨z,hz,hzd⟩:=f.zero
    simp [Cx.by_,Program.bytesOf,f.info] at hroom
    obtain ⟨cap',R,hrun,hc1,hc2,hc3⟩:=ziO (P:=cx.P) (w:=X.w) (ty:=tt) x f.info hz (by have:=(hzd X.w X.M).cells.length;rw [f.size,← this];simp) (A:=A) (n:=0) (c:=0) (olds:=[])
     (by cases A with|none=>simp|some b=>simp) (a:=ad) (m:=(L::l).length) (c':=U) (by rw [f.size];exact Q.length) h4 (by simp) (by grind)
    have hbel:Below X.w.heap.size X.w (X.w.drew.alloc (.cells R E)):=((Below.refl _ _).drew).alloc (wG0 _) _
    have hnr:=m.newRow I J hbel (e:=e) (a:=a) (l:=L::l) (xs:=xs) (c:=R) (te:=E) (cap:=cap') y (heap_alloc_new X.w.drew _) Q (by grind) (by omega) (by rw [← f.size];omega)
    grind
  grind
end
end Go.SX
namespace Go.SX
open Go.RowKit (Below)
section
variable {C:FuncId→List D→Option (List D)} {k B0:Nat} {X:Ctx} {cx:Cx}
def Ctx.swapped (X:Ctx) (w':World) (r r':Nat) (R:Root) (p:Pl):Ctx:={ E:=X.E,w:=w',μ:=upd (upd X.μ r .dead) r' R,β:=upd X.β r' p,A:=fun q=>X.A q∨q=r',F:=X.F }
theorem Mem.swap (m:Mem k X) (u:k≤X.w.heap.size) {r c}(g:X.A r) (s:¬ X.A c) {d R p}
  (o:∀ b,b<X.w.heap.size→b∉(X.μ r).own (X.β r)→d.heap[b]?=X.w.heap[b]?) (t:∀ b n,bsize X.w b=some n→bsize d b=some n)
  (hown:∀ b,b∈R.own p→X.w.heap.size≤b∨b∈(X.μ r).own (X.β r)) (hnd:(R.own p).Nodup) (hrep:Ext X (X.swapped d r c R p)→RootRep (X.swapped d r c R p) c R) (i:(X.μ r).noLt=true:=by simp [*,Root.noLt]) :
  Ext X (X.swapped d r c R p)∧Mem k (X.swapped d r c R p):=by
 have hne:r≠c:=fun e=>s (e▸g)
 have j:(X.swapped d r c R p).μ r=.dead:=by simp_all [Ctx.swapped,upd_ne,upd_same]
 have hr':(X.swapped d r c R p).μ c=R:=by simp [Ctx.swapped,upd_same]
 have hβ':(X.swapped d r c R p).β c=p:=by simp [Ctx.swapped,upd_same]
 refine Mem.change m u (fun q=>q=r∨q=c) (fun _ _ h=>h) (fun _ h=>.inl h) (fun q h=>h.elim .inl fun h=>.inr (.inr h)) (fun q a=>?_) (fun b v w=>o b v (w r (.inl rfl) g)) t ?_ ?_ ?_ ?_ ?_ ?_ rfl (fun q a l e1 a1 q' h=>by
  rcases a with a|a
  ·rw [a] at h;rw [h] at i;cases i
  grind)
 ·simp_all [Ctx.swapped,upd_ne]
 ·grind [Root.own]
 ·grind [Root.own]
 ·grind [Root.own]
 ·simp_all [Ctx.swapped,upd_ne]
 ·intro q a l f
  rcases a with a|a
  ·subst a;rw [j] at f;cases f
  grind
 ·intro x q a l
  rcases a with a|a
  ·subst a;rw [j];trivial
  grind
theorem Nx.swapped {b g d f e r a R p c}(x:Ext X (X.mv b)) (j:Below B0 X.w c)
  (h:Ext (X.mv b) ((X.mv b).swapped c r a R p)∧Mem B0 ((X.mv b).swapped c r a R p)) (k:g=(a,R)::(r,.dead)::b) (hr:a=d) (ha:f=d + 1) (h0:d=e):Nx B0 X ((X.mv b).swapped c r a R p) g e f c where
 E:=rfl
 w:=rfl
 μ:=by rw [k,zca,zca];rfl
 A:=fun q=>by
  show (X.A q∨q=a)↔X.A q∨e≤q∧q<f
  grind
 ext:=x.trans h.1
 mem:=h.2
 below:=j
theorem zp6 (hB:B0≤X.w.heap.size) (m:Mem B0 X) {t E tt e i}(Q:cx.P.underlying t=some (.slice E)) (k:TyFact cx E e i) {xt E2}(hx:cx.P.underlying xt=some (.slice E2)) {r r'}(hA:X.A r) (hn:¬ X.A r')
  {a0} (hR:X.μ r=.row e a0) {b te:Nat} {c l u} (hm:(X.β r).main=some b) (K:X.w.heap[b]?=some (.cells c te (0,0))) (N:DRepA X.w X.M e l u) (hc:c.toList.take u.length=u)
  {n p} (h1:n≤l.length) (h2:n≤p) (h3:p * e.size≤c.size) {d L} (hd:Src X.w X.M e d L) {y} (Z:d.els=some y) (hroom:zcm (n + y.length) (cx.by_ E)=true)
  {tail} (htail:tail=[]∨(tail=l.drop (n + y.length)∧l.length≤p)) {a} (ha:a.get X.E=some (.sl (l.take n++(y++tail)))) :
  ∃ f g F R,(Builtin.append_ #[t,xt] tt #[.slice (some ⟨b,0,none⟩) n p,L]).run cx.P X.w=.ok (.slice (some ⟨g,0,none⟩) (n + y.length) F) f∧Below B0 X.w f ∧
   (Ext X (X.swapped f r r' (.row e a) ⟨some g,[]⟩)∧Mem B0 (X.swapped f r r' (.row e a) ⟨some g,[]⟩))∧n + y.length + tail.length≤F∧bsize f g=some R∧F * e.size≤R:=by
 have hlen:=N.length
 have hxc:u.length≤c.toList.length:=by grind
 have hmul:n * e.size≤u.length:=by simp_all [vK0]
 have H:∀ {f:World} {g te':Nat} {Y:Array Value} {U:List Value},(∀ q,q<X.w.heap.size→q≠b→f.heap[q]?=X.w.heap[q]?)→(∀ q n,bsize X.w q=some n→bsize f q=some n)→(g=b∨g=X.w.heap.size) →
   f.heap[g]?=some (.cells Y te' (0,0))→DRepA X.w X.M e (l.take n++(y++tail)) U→Y.toList.take U.length=U →
   Ext X (X.swapped f r r' (.row e a) ⟨some g,[]⟩)∧Mem B0 (X.swapped f r r' (.row e a) ⟨some g,[]⟩):=by
  intro f g te' Y U f1 f2 f3 f4 f5 f6
  refine m.swap hB hA hn (fun q J hb=>f1 q J fun e=>hb (e▸(by grind [Root.own]))) f2 (fun q J=>?_) (by simp [Root.own]) fun x=>⟨_,ha,.inr ⟨g,Y,te',(0,0),_,U,by simp [Ctx.swapped,upd_same],rfl,f4,fun _=>rfl,f5.keep x.K,f6⟩⟩
  grind [Root.own]
 have none:∀ {L:Value},y=[]→(Builtin.append_ #[t,t] tt #[.slice (some ⟨b,0,none⟩) n p,L]).run cx.P X.w=.ok (.slice (some ⟨b,0,none⟩) n p) X.w→∃ f g F R,(Builtin.append_ #[t,t] tt #[.slice (some ⟨b,0,none⟩) n p,L]).run cx.P X.w=.ok (.slice (some ⟨g,0,none⟩) (n + y.length) F) f∧Below B0 X.w f ∧
   (Ext X (X.swapped f r r' (.row e a) ⟨some g,[]⟩)∧Mem B0 (X.swapped f r r' (.row e a) ⟨some g,[]⟩))∧n + y.length + tail.length≤F∧bsize f g=some R∧F * e.size≤R:=by
  intro L h0 hrun
  subst h0
  refine ⟨X.w,b,p,c.size,hrun,Below.refl _ _,?_,?_,by grind [bsize],h3⟩
  ·rcases htail with s|⟨s,_⟩
   ·subst s
    simp  at H
    refine H (fun _ _ _=>rfl) (fun _ _ h=>h) (.inl rfl) K (N.take n) ?_
    grind
   ·subst s
    simp  at H
    grind
  grind
 rw [zfU hx Q (some ⟨b,0,.none⟩) n p L k.info]
 rcases hd with ⟨h4,h5⟩|⟨B,G,ad,cap2,h4,h5,S,h7⟩
 ·subst h4 h5
  simp only [D.els,wB0] at Z
  exact none Z.symm (zjh Q k.info h2)
 ·subst h4 h5
  simp [D.els] at Z
  subst Z
  cases V:B with
  | nil=>exact V▸none V (by rw [V];exact zi5 Q k.info h2)
  | cons d0 l4 =>
  rw [← V]
  have hpos:0<B.length:=by grind
  clear V
  have hyl:G.length=B.length * i.size:=by rw [k.size];exact S.length
  by_cases hfit:n + B.length≤p
  ·have hf2:n * i.size + G.length≤c.size:=by
    rw [hyl,← Nat.add_mul,k.size]
    exact Nat.le_trans (vK0 _ hfit) h3
   have hsz  := by
    have:=zbB (cs:=c.toList) (cv:=G) (o:=n * i.size) (by simpa using hf2)
    simpa using this
   refine ⟨_,b,p,c.size,(znN (P:=cx.P) (w:=X.w) (ty:=tt) Q k.info K hyl h7 S.ones hfit hf2 (c:=cap2)),below_setRow (Below.refl _ _) (m.low r b hA (by grind [Root.own])) _,?_,?_,by simp [bsize,setRow_heap _ _ _ _ _ _ K,hsz],h3⟩
   ·have hcells:=setRow_heap _ _ _ (patch c.toList (n * i.size) G).toArray _ _ K
    have e1:(patch c.toList (n * i.size) G)=u.take (n * e.size)++(G++c.toList.drop (n * i.size + G.length)):=by
     simp only [patch,vB0]
     congr 1
     rw [k.size,← hc,List.take_take,vV0 hmul]
    have hl1:(u.take (n * e.size)).length=n * e.size:=by rw [wE0,vV0 hmul]
    rcases htail with s|⟨s,_⟩
    ·subst s
     simp  at H
     refine H (fun q _ J=>setRow_other _ _ _ _ J) (fun q n' h=>zev K hsz h) (.inl rfl) hcells ((N.take n).append S) ?_
     show (patch c.toList (n * i.size) G).take _=_
     rw [e1,← vB0]
     exact List.take_left' rfl
    ·subst s
     refine H (fun q _ J=>setRow_other _ _ _ _ J) (fun q n' h=>zev K hsz h) (.inl rfl) hcells ((N.take n).append (S.append (N.drop (n + B.length)))) ?_
     have e2:n * i.size + G.length=(n + B.length) * e.size:=by rw [hyl,← Nat.add_mul,k.size]
     rw [e1,e2]
     have e3:u.drop ((n + B.length) * e.size)=(c.toList.drop ((n + B.length) * e.size)).take (u.length - (n + B.length) * e.size):=by
      conv=>lhs;rw [← hc,List.drop_take]
     rw [e3]
     simp only [wI0]
     rw [← vB0,← vB0,← Nat.add_assoc,List.take_append,List.take_of_length_le (by simp only [wI0];omega)]
     congr 1
     simp only [wI0,Nat.add_sub_cancel_left]
     rw [wE0,List.take_eq_take_iff]
     omega
   grind
  ·have htl:tail=[]:=by
    rcases htail with s|⟨s,ht2⟩
    ·exact s
    ·rw [s];exact List.drop_eq_nil_of_le (by omega)
   subst htl
   obtain ⟨z,hz,hzd⟩:=k.zero
   simp [Cx.by_,Program.bytesOf,k.info] at hroom
   obtain ⟨F,W,hrun,hc1,hc2,hc3⟩:=ziO (P:=cx.P) (w:=X.w) (ty:=tt) Q k.info hz (by have:=(hzd X.w X.M).cells.length;rw [k.size,← this];simp) (A:=some ⟨b,0,.none⟩) (n:=n) (c:=p) (olds:=u.take (n * e.size))
    (.inr ⟨_,rfl,(by rw [wE0,vV0 hmul,k.size]),fun j v hj=>by
     rw [addr_add,vA0]
     rw [List.getElem?_take] at hj
     split at hj
     ·exact zc4 K hc hj
     ·cases hj⟩) (a:=ad) (m:=B.length) (c':=cap2) hyl h7 (by omega) hroom
   have hbel:Below X.w.heap.size X.w (X.w.drew.alloc (.cells W E)):=((Below.refl _ _).drew).alloc (wG0 _) _
   refine ⟨_,X.w.heap.size,F,W.size,hrun,hbel.mono hB,?_,by simpa using hc1,?_,by rw [← k.size];exact hc2⟩
   ·simp  at H
    refine H (fun q J _=>hbel.block q J) (fun q n' h=>(zcd (hbel.block q (zfi h))).trans h) (.inr rfl) (heap_alloc_new X.w.drew _) ((N.take n).append S) hc3
   ·have:=heap_alloc_new X.w.drew (.cells W E)
    have h':(X.w.drew.alloc (.cells W E)).heap[X.w.heap.size]?=some (.cells W E):=this
    unfold bsize
    rw [h']
end
end Go.SX
namespace Go.SX
open Go.RowKit (Below)
section
variable {C:FuncId→List D→Option (List D)} {k B0:Nat} {X:Ctx} {cx:Cx}
def Ctx.lent (X:Ctx) (w':World) (r r':Nat) (e:Ty) (a0 a:At) (g:Nat):Ctx:={ E:=X.E,w:=w',μ:=upd (upd X.μ r' (.bo e a)) r (.lt e a0 r'),β:=upd X.β r' ⟨some g,[]⟩,A:=fun q=>X.A q∨q=r',F:=X.F }
theorem Mem.lend (m:Mem B0 X) (N:B0≤X.w.heap.size) {r c b g}(o:X.A r) (hn:¬ X.A c) {j e i a}(t:X.μ r=.row e i) (hm:(X.β r).main=some b)
  (I:∀ q,q<X.w.heap.size→q≠b→j.heap[q]?=X.w.heap[q]?) (J:∀ q n,bsize X.w q=some n→bsize j q=some n) (v:g=b∨X.w.heap.size≤g)
  (l:Ext X (X.lent j r c e i a g)→RowRep (X.lent j r c e i a g) r e i True) (L:Ext X (X.lent j r c e i a g)→RowRep (X.lent j r c e i a g) c e a False) :
  Ext X (X.lent j r c e i a g)∧Mem B0 (X.lent j r c e i a g):=by
 have hne:r≠c:=fun e=>hn (e▸o)
 have k:(X.lent j r c e i a g).μ r=.lt e i c:=by simp [Ctx.lent,upd_same]
 have hr':(X.lent j r c e i a g).μ c=.bo e a:=by simp_all [Ctx.lent,upd_ne,Ne.symm,upd_same]
 have F:(X.lent j r c e i a g).β r=X.β r:=by simp_all [Ctx.lent,upd_ne]
 have K:(X.lent j r c e i a g).β c=⟨some g,[]⟩:=by simp [Ctx.lent,upd_same]
 have G:∀ q,¬ (q=r∨q=c)→(X.lent j r c e i a g).μ q=X.μ q∧(X.lent j r c e i a g).β q=X.β q:=fun q f =>
  ⟨by simp_all [Ctx.lent,upd_ne],by simp_all [Ctx.lent,upd_ne]⟩
 refine Mem.change m N (fun q=>q=r∨q=c) (fun _ _ h=>h) (fun _ h=>.inl h) (fun q h=>h.elim .inl fun h=>.inr (.inr h)) G (fun q hlt f=>I q hlt fun e=>f r (.inl rfl) o (e▸(by grind [Root.own]))) J ?_ ?_ ?_ ?_ ?_ ?_ rfl ?_
 ·intro q x f _ z
  rcases f with f|f
  ·subst f
   rw [k,F] at z
   exact .inr ⟨q,.inl rfl,o,by rw [t];exact z⟩
  grind [Root.own]
 ·grind [Root.own]
 ·grind [Root.own]
 ·grind
 ·intro q f ha _
  rcases f with f|f
  ·subst f
   refine ⟨by rw [t];rfl,fun u B d l M=>⟨B,d,?_,M,sameLen.refl d⟩,fun u B g l=>?_⟩
   ·rw [t] at l
    rw [k]
    exact l
   grind
  grind
 ·intro x q f _
  rcases f with f|f
  ·subst f;rw [k];exact l x
  ·subst f
   rw [hr']
   refine ⟨L x,fun b' w=>?_⟩
   rw [K] at w
   injection w with w
   rcases v with v|v
   ·exact .inr ⟨r,e,i,.inl o,k,by grind⟩
   ·refine .inl fun hM=>?_
    rcases hM with hf|⟨s,hs1,p⟩
    ·have:=m.frame _ hf
     omega
    ·by_cases y:s=r∨s=q
     ·rcases y with H|H
      ·subst H
       rw [k,F] at p
       have:=m.lt o (by rw [t];exact p)
       omega
      grind [Root.own]
     ·obtain ⟨u,e2⟩:=G s y
      rw [u,e2] at p
      have:=m.lt (hs1.resolve_right fun h=>y (.inr h)) p
      omega
 grind
theorem Nx.lent {c l i j k r b g e f a d}(x:Ext X (X.mv c)) (n:Below B0 X.w d)
  (h:Ext (X.mv c) ((X.mv c).lent d r b e f a g)∧Mem B0 ((X.mv c).lent d r b e f a g)) (o:l=(r,.lt e f b)::(b,.bo e a)::c) (hr:b=i) (ha:j=i + 1) (h0:i=k):Nx B0 X ((X.mv c).lent d r b e f a g) l k j d where
 E:=rfl
 w:=rfl
 μ:=by rw [o,zca,zca];rfl
 A:=fun q=>by
  show (X.A q∨q=b)↔X.A q∨k≤q∧q<j
  grind
 ext:=x.trans h.1
 mem:=h.2
 below:=n
theorem zBL (hB:B0≤X.w.heap.size) (m:Mem B0 X) {t E tt e i}(M:cx.P.underlying t=some (.slice E)) (k:TyFact cx E e i) {xt E2}(hx:cx.P.underlying xt=some (.slice E2)) {r r'}(hA:X.A r) (hn:¬ X.A r')
  {F} (hR:X.μ r=.row e F) {b te:Nat} {c l xs} (ha0:F.get X.E=some (.sl l)) (hm:(X.β r).main=some b) (u:X.w.heap[b]?=some (.cells c te (0,0))) (K:DRepA X.w X.M e l xs) (V:c.toList.take xs.length=xs)
  {o} (h2:l.length≤o) (h3:o * e.size≤c.size) {d H} (hd:Src X.w X.M e d H) {s} (Y:d.els=some s) (hroom:zcm (l.length + s.length) (cx.by_ E)=true)
  {a} (ha:a.get X.E=some (.sl (l++s))) :
  ∃ f g y bs,(Builtin.append_ #[t,xt] tt #[.slice (some ⟨b,0,none⟩) l.length o,H]).run cx.P X.w=.ok (.slice (some ⟨g,0,none⟩) (l.length + s.length) y) f∧Below B0 X.w f ∧
   (Ext X (X.lent f r r' e F a g)∧Mem B0 (X.lent f r r' e F a g))∧l.length + s.length≤y∧bsize f g=some bs∧y * e.size≤bs:=by
 have hne:r≠r':=fun e=>hn (e▸hA)
 have hlen:=K.length
 have hxc:xs.length≤c.toList.length:=by grind
 have Q:∀ {f:World} {g te' te2:Nat} {S U:Array Value} {L:List Value},(∀ q,q<X.w.heap.size→q≠b→f.heap[q]?=X.w.heap[q]?)→(∀ q n,bsize X.w q=some n→bsize f q=some n)→(g=b∨X.w.heap.size≤g) →
   f.heap[b]?=some (.cells U te2 (0,0))→U.toList.take xs.length=xs→f.heap[g]?=some (.cells S te' (0,0))→DRepA X.w X.M e (l++s) L→S.toList.take L.length=L →
   Ext X (X.lent f r r' e F a g)∧Mem B0 (X.lent f r r' e F a g):=by
  intro f g te' te2 S U L f1 f2 f3 f4 f5 f6 f7 f8
  refine m.lend hB hA hn hR hm f1 f2 f3 (fun x=>?_) fun x=>?_
  ·exact ⟨_,ha0,.inr ⟨b,U,te2,(0,0),l,xs,by simp_all [Ctx.lent,upd_ne],rfl,f4,fun _=>rfl,K.keep x.K,f5⟩⟩
  ·exact ⟨_,ha,.inr ⟨g,S,te',(0,0),_,L,by simp [Ctx.lent,upd_same],rfl,f6,fun _=>rfl,f7.keep x.K,f8⟩⟩
 have none:∀ {H:Value},s=[]→(Builtin.append_ #[t,t] tt #[.slice (some ⟨b,0,none⟩) l.length o,H]).run cx.P X.w=.ok (.slice (some ⟨b,0,none⟩) l.length o) X.w→∃ f g y bs,(Builtin.append_ #[t,t] tt #[.slice (some ⟨b,0,none⟩) l.length o,H]).run cx.P X.w=.ok (.slice (some ⟨g,0,none⟩) (l.length + s.length) y) f∧Below B0 X.w f ∧
   (Ext X (X.lent f r r' e F a g)∧Mem B0 (X.lent f r r' e F a g))∧l.length + s.length≤y∧bsize f g=some bs∧y * e.size≤bs:=by
  intro H h0 hrun
  subst h0
  simp  at Q
  exact ⟨X.w,b,o,c.size,hrun,Below.refl _ _,Q (fun _ _ _=>rfl) (fun _ _ h=>h) (.inl rfl) u V u K V,by omega,by grind [bsize],h3⟩
 rw [zfU hx M (some ⟨b,0,.none⟩) l.length o H k.info]
 rcases hd with ⟨h4,h5⟩|⟨l3,ys,ad,cap2,h4,h5,R,h7⟩
 ·subst h4 h5
  simp only [D.els,wB0] at Y
  exact none Y.symm (zjh M k.info h2)
 ·subst h4 h5
  simp [D.els] at Y
  subst Y
  cases hl3:l3 with
  | nil=>exact hl3▸none hl3 (by rw [hl3];exact zi5 M k.info h2)
  | cons d0 l4 =>
  rw [← hl3]
  have hyl:ys.length=l3.length * i.size:=by rw [k.size];exact R.length
  have hxl:l.length * i.size=xs.length:=by rw [k.size];omega
  by_cases hfit:l.length + l3.length≤o
  ·have hf2:l.length * i.size + ys.length≤c.size:=by
    rw [hyl,← Nat.add_mul,k.size]
    exact Nat.le_trans (vK0 _ hfit) h3
   have hsz:(patch c.toList (l.length * i.size) ys).toArray.size=c.size:=by grind [zbB]
   have hcells:=setRow_heap _ _ _ (patch c.toList (l.length * i.size) ys).toArray _ _ u
   have e1:(patch c.toList (l.length * i.size) ys)=xs++(ys++c.toList.drop (l.length * i.size + ys.length)):=by grind [patch]
   refine ⟨_,b,o,c.size,(znN (P:=cx.P) (w:=X.w) (ty:=tt) M k.info u hyl h7 R.ones hfit hf2 (c:=cap2)),below_setRow (Below.refl _ _) (m.low r b hA (by grind [Root.own])) _,Q (fun q _ hq=>setRow_other _ _ _ _ hq) (fun q n' h=>zev u hsz h) (.inl rfl) hcells ?_ hcells (K.append R) ?_,hfit,by simp [bsize,setRow_heap _ _ _ _ _ _ u,hsz],h3⟩
   all_goals grind
  ·obtain ⟨z,hz,hzd⟩:=k.zero
   simp [Cx.by_,Program.bytesOf,k.info] at hroom
   obtain ⟨y,cells,hrun,hc1,hc2,hc3⟩:=ziO (P:=cx.P) (w:=X.w) (ty:=tt) M k.info hz (by have:=(hzd X.w X.M).cells.length;rw [k.size,← this];simp) (A:=some ⟨b,0,.none⟩) (n:=l.length) (c:=o) (olds:=xs)
    (.inr ⟨_,rfl,hxl.symm,fun j v hj=>by
     rw [addr_add,vA0]
     exact zc4 u V hj⟩) (a:=ad) (m:=l3.length) (c':=cap2) hyl h7 (by omega) hroom
   have hbel:Below X.w.heap.size X.w (X.w.drew.alloc (.cells cells E)):=((Below.refl _ _).drew).alloc (wG0 _) _
   refine ⟨_,X.w.heap.size,y,cells.size,hrun,hbel.mono hB,Q (fun q hq _=>hbel.block q hq) (fun q n' h=>(zcd (hbel.block q (zfi h))).trans h) (.inr (wG0 _)) ((hbel.block b (lt_of_heap u)).trans u) V (heap_alloc_new X.w.drew _) (K.append R) hc3,by simpa using hc1,?_,by rw [← k.size];exact hc2⟩
   have:=heap_alloc_new X.w.drew (.cells cells E)
   have h':(X.w.drew.alloc (.cells cells E)).heap[X.w.heap.size]?=some (.cells cells E):=this
   unfold bsize
   rw [h']
theorem zrB (G:B0≤X.w.heap.size) {t E J e i}(hu:cx.P.underlying t=some (.slice E)) (tf:TyFact cx E e i) {P E2}(hx:cx.P.underlying P=some (.slice E2))
  {σ m x M r} (x0:Ext X (X.mv σ.up)) (m0:Mem B0 (X.mv σ.up)) (h:Run (zBs e (cx.by_ E) r x) X.μ σ M m) (hs:Sat C k X.E m.bs m.nv) (O:∀ q,σ.ab≤q→q<m.ab→¬ X.A q)
  {R Q} (hvs:Ref (X.mv σ.up) (.h e r none) R) (hvx:VRep (X.mv σ.up) x Q):Acts cx.P B0 X (Builtin.append_ #[t,P] J #[R,Q]) σ m fun X' v=>VRep X' M v:=by
 obtain ⟨y,s1,h1,h2⟩:=Run.bind h
 obtain ⟨a0,s2,h3,h4⟩:=Run.bind h2
 obtain ⟨g0,s3,H,h6⟩:=Run.bind h4
 obtain ⟨a,j,F,h8⟩:=Run.bind h6
 obtain ⟨r',s5,h9,h10⟩:=Run.bind h8
 obtain ⟨_,s6,h11,h12⟩:=Run.bind h10
 obtain ⟨K,L⟩:=zfn h3
 subst K
 obtain ⟨er,K⟩:=Run.new h9
 have ep:=Run.put h11
 obtain ⟨e1,e2⟩:=Run.pure h12
 have p  := by exact hvs.2.1
 have s:Sat C k X.E j.bs j.nv:=by grind
 obtain ⟨⟨u,v,w,z,o,d,I⟩,q5,q6⟩:=Run.op2 F s
 obtain ⟨⟨u',v',d0,n,p2,p3,p4⟩,p5,p6⟩:=Run.op2 H (F.sat s)
 obtain ⟨x1,m1,hab,A,hy,hsrc⟩:=zhv G h1 (H.sat (F.sat s)) m0 hvx
 rw [hy] at o
 injection o with o
 subst o
 rw [z] at n
 injection n with n
 subst n
 simp [i64c,At.get] at p2
 subst p2
 rcases zpw m1 p L z (hvs.ext x1) with ⟨c1,B⟩|⟨b,l,c,te,xs,cap,c1,B,c3,c4,c5,c6,c7,c8⟩
 ·rcases B.em with h|h<;>subst h<;>simp [Prim.run] at p3
 ·subst B c6
  cases hl2:A.els with
  | none =>
   have d:appD (cx.by_ E) (.sl l) A=some w:=d
   grind [appD]
  | some l2 =>
   have d:(if zcm (l.length + l2.length) (cx.by_ E)=true then some (D.sl (l++l2)) else none)=some w:=by
    have d:appD (cx.by_ E) (.sl l) A=some w:=d
    unfold appD at d
    rw [hl2] at d
    exact d
   split at d
   ·rename_i hroom
    injection d with d
    subst d
    obtain ⟨w',g,cap',bs,hrun,hbel,hxm,g1,g2,g3⟩:=zBL (X:=X.mv s2.up) (tt:=J) G m1 hu tf hx p (O j.ab (by omega) (by grind)) L z c1 c3 c4 c5 c7 c8 hsrc hl2 hroom I
    have hne:r≠j.ab:=fun h=>(O j.ab (by omega) (by grind)) (h▸p)
    refine ⟨_,w',_,hrun,Nx.lent (x0.trans x1) hbel hxm ?_ rfl ?_ (by omega),?_⟩
    ·grind
    ·grind
    ·rw [e1,er]
     exact ⟨zbr _ _ _,.inr rfl,fun _=>⟨a,_,by simp_all [Ctx.lent,upd_ne,Ne.symm,upd_same,Root.row?],I,.inr ⟨g,_,by simp [Ctx.lent,upd_same],rfl,cap',bs,by simp,by grind,g2,g3⟩⟩⟩
   grind
theorem ztc (p:B0≤X.w.heap.size) {t E G e i}(hu:cx.P.underlying t=some (.slice E)) (tf:TyFact cx E e i) {B E2}(F:cx.P.underlying B=some (.slice E2))
  {b c x s r} (H:Ext X (X.mv b.up)) (I:Mem B0 (X.mv b.up)) (h:Run (zwq e (cx.by_ E) r x) X.μ b s c) (hs:Sat C k X.E c.bs c.nv) (hfr:∀ q,b.ab≤q→q<c.ab→¬ X.A q)
  {w o} (y:Ref (X.mv b.up) (.h e r none) w) (J:VRep (X.mv b.up) x o):Acts cx.P B0 X (Builtin.append_ #[t,B] G #[w,o]) b c fun K v=>VRep K s v:=by
 obtain ⟨RR,s1,L,z⟩:=Run.bind h
 obtain ⟨M,d⟩:=Run.root L
 subst d
 split at z
 ·rename_i f a g
  obtain ⟨_,A,h3,h4⟩:=Run.bind z
  obtain ⟨m,d⟩:=Run.guard h3
  subst d
  have m:=Ty.beq_eq m
  subst m
  obtain ⟨_,s3,h5,h6⟩:=Run.bind h4
  have d:=Run.put h5
  subst d
  obtain ⟨l,n⟩:=I.lower (hB:=p) (r:=r) (by exact y.2.1) (e:=.sl f) (a:=a) (.inr ⟨f,g,rfl,M.symm⟩) (R:=.row (.sl f) a) (.inr rfl)
  rw [← Ctx.mv_cons] at l n
  exact zrB p hu tf F (σ:={ A with up:=(r,Root.row (.sl f) a)::A.up }) (H.trans l) n h6 hs hfr (y.ext l) (VRep.ext l J)
 grind [zrB]
end
end Go.SX
