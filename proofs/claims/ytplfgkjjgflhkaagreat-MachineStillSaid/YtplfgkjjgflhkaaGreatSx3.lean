/- Part 3 of a checked symbolic executor: what a function's code does is read off as a tree over plain data. No condition. -/
import Derived.Test.YtplfgkjjgflhkaaGreatSx2
import Derived.Laws.CopyRow
import Derived.ChangeKeysEq
import Derived.MapKept
import Derived.Orders
set_option linter.unusedSimpArgs false
set_option linter.unusedVariables false
namespace Go.SX
open Go.RowKit (Below)
theorem zg6:∀ (l m),opts (l++m)=opts l++opts m
 | [],_=>rfl
 | some b::l,m=>by simp [opts,zg6 l m]
 | none::l,m=>by simp [opts,zg6 l m]
theorem RowCells.append {w M e}:∀ {g b}{a d}{c f},RowCells w M e g a c→RowCells w M e b d f→RowCells w M e (g++b) (a++d) (c++f)
 | [],_,[],_,[],_,_,h=>h
 | _::_,_,_::_,_,_::_,_,h,i=>⟨h.1,RowCells.append h.2 i⟩
 | [],_,_::_,_,_,_,h,_|_::_,_,[],_,_,_,h,_|[],_,[],_,_::_,_,h,_|_::_,_,_::_,_,[],_,h,_=>by grind [RowCells]
theorem RowCells.ones {w M e}:∀ {d}{c}{b},RowCells w M e d c b→∀ v∈b,One v
 | [],[],[],_,v,a=>by grind
 | _::d,_::c,_::b,h,v,a=>by
  rcases List.mem_cons.1 a with a|a
  ·subst a;exact h.1.one
  ·exact RowCells.ones h.2 v a
 | [],_::_,_,h,_,_|_::_,[],_,h,_,_|[],[],_::_,h,_,_|_::_,_::_,[],h,_,_=>by grind [RowCells]
section
variable {k B0:Nat} {X:Ctx} {cx:Cx}
theorem Mem.fuse {e f g a i j p l k c v}(m:Mem B0 X) (L:B0≤X.w.heap.size) (A:∀ q∈i,X.A q∧(X.μ q).noLt=true) (r:¬ X.A f)
  (J:∀ b,b<X.w.heap.size→(∀ s∈i,b∉(X.μ s).own (X.β s))→k.heap[b]?=X.w.heap[b]?) (H:∀ b n,bsize X.w b=some n→bsize k b=some n)
  (K:∀ b∈opts j,(∃ s∈i,b∈(X.μ s).own (X.β s))∧k.heap[b]?=X.w.heap[b]?) (hg:X.w.heap.size≤g∨∃ s∈i,g∈(X.μ s).own (X.β s)) (hgn:g∉opts j) (hnd:(opts j).Nodup)
  (t:a.get X.E=some (.sl p)) (hh:k.heap[g]?=some (.cells c v (0,0))) (hcells:RowCells X.w X.M e j p l) (F:c.toList.take l.length=l) :
  Ext X (X.joined k i f (.mat e a 0) ⟨some g,j⟩)∧Mem B0 (X.joined k i f (.mat e a 0) ⟨some g,j⟩):=by
 have o:=fun q h=>(A q h).1
 have I:(X.joined k i f (.mat e a 0) ⟨some g,j⟩).μ f=.mat e a 0:=by simp [Ctx.joined,upd_same]
 have y:(X.joined k i f (.mat e a 0) ⟨some g,j⟩).β f=⟨some g,j⟩:=by simp [Ctx.joined,upd_same]
 have u:∀ q∈i,(X.joined k i f (.mat e a 0) ⟨some g,j⟩).μ q=.dead:=fun q d=>by
  have:q≠f:=fun h=>(fun h=>r (o f h)) (h▸d)
  simp_all [Ctx.joined,upd_ne]
 refine Mem.change m L (fun q=>q=f∨q∈i) (fun _ _ h=>h) (fun _ h=>.inl h) (fun q h=>h.imp id .inl) (fun q d=>?_) (fun b M hb=>J b M fun s h=>hb s (.inr h) (o s h)) H ?_ ?_ ?_ ?_ ?_ ?_ rfl (fun q d t e1 a1 q' h=>by
  rcases d with d|d
  ·grind
  ·have:=(A q d).2;rw [h] at this;cases this)
 ·simp_all [Ctx.joined,upd_ne]
 ·grind [Root.own]
 ·grind [Root.own]
 ·grind [Root.own]
 ·intro q d z
  rcases d with d|d
  ·grind
  ·have:q≠f:=fun h=>(fun h=>r (o f h)) (h▸d)
   simp_all [Ctx.joined,upd_ne]
 ·intro q d z B
  rcases d with d|d
  ·exact absurd (d▸z) r
  ·rw [u q d] at B
   cases B
 ·intro x q d _
  rcases d with d|d
  ·subst d
   rw [I]
   refine ⟨_,t,.inr ⟨g,c,v,p,l,by rw [y],rfl,hh,?_,F⟩⟩
   rw [y]
   exact RowCells.keep x.K (fun b G=>(K b (zcB.2 G)).2) hcells
  ·rw [u q d]
   trivial
theorem Mem.fuseNil {e d a f}(m:Mem B0 X) (p:B0≤X.w.heap.size) (o:∀ q∈f,X.A q∧(X.μ q).noLt=true) (j:¬ X.A d) (k:a.get X.E=some .nil) :
  Ext X (X.joined X.w f d (.mat e a 0) ⟨none,[]⟩)∧Mem B0 (X.joined X.w f d (.mat e a 0) ⟨none,[]⟩):=by
 have l:=fun q h=>(o q h).1
 have r:(X.joined X.w f d (.mat e a 0) ⟨none,[]⟩).μ d=.mat e a 0:=by simp [Ctx.joined,upd_same]
 have hβ:(X.joined X.w f d (.mat e a 0) ⟨none,[]⟩).β d=⟨none,[]⟩:=by simp [Ctx.joined,upd_same]
 have n:∀ q∈f,(X.joined X.w f d (.mat e a 0) ⟨none,[]⟩).μ q=.dead:=fun q c=>by
  have:q≠d:=fun h=>(fun h=>j (l d h)) (h▸c)
  simp_all [Ctx.joined,upd_ne]
 have none:∀ {q b},(q=d∨q∈f)→b∈((X.joined X.w f d (.mat e a 0) ⟨none,[]⟩).μ q).own ((X.joined X.w f d (.mat e a 0) ⟨none,[]⟩).β q)→False:=fun {q b} c hm=>by grind [Root.own,opts]
 refine Mem.change m p (fun q=>q=d∨q∈f) (fun _ _ h=>h) (fun _ h=>.inl h) (fun q h=>h.imp id .inl) (fun q c=>?_) (fun b hlt hb=>rfl) (fun _ _ h=>h) ?_ ?_ ?_ ?_ ?_ ?_ rfl (fun q c k e1 a1 q' h=>by
  rcases c with c|c
  ·grind
  ·have:=(o q c).2;rw [h] at this;cases this)
 ·simp_all [Ctx.joined,upd_ne]
 ·grind
 ·grind
 ·grind
 ·intro q c s
  rcases c with c|c
  ·grind
  ·have:q≠d:=fun h=>(fun h=>j (l d h)) (h▸c)
   simp_all [Ctx.joined,upd_ne]
 ·intro q c s g
  rcases c with c|c
  ·grind
  ·rw [n q c] at g
   cases g
 ·intro x q c _
  rcases c with c|c
  ·subst c
   rw [r]
   exact ⟨_,k,.inl ⟨by grind,by grind,rfl⟩⟩
  ·rw [n q c]
   trivial
def zC1 (X:Ctx) (e:Ty) (rs:List Nat) (d:D) (v:Value):Prop :=
 (d=.nil∧v=.slice none 0 0)∨∃ rows l xs b c te cap s,d=.sl l∧RowCells X.w X.M e rows l xs∧(∀ b∈opts rows,∃ s∈rs,b∈(X.μ s).own (X.β s))∧(opts rows).Nodup ∧
  v=.slice (some ⟨b,0,none⟩) l.length cap∧l.length≤cap∧X.w.heap[b]?=some (.cells c te (0,0))∧cap≤c.size∧c.toList.take xs.length=xs∧s∈rs∧b∈(X.μ s).own (X.β s)∧b∉opts rows
theorem zEA (m:Mem B0 X) {e r g a d v}(J:Ref X (.h (.sl e) r none) v) (p:X.μ r=.mat e a g) (w:a.get X.E=some d):zC1 X e [r] d v:=by
 obtain ⟨_,x,y⟩:=J
 have u:=m.rep r x
 have k:=m.once r x
 rw [p] at u k
 obtain ⟨a',d',o,j,t⟩:=y (by rw [p];rfl)
 rw [p] at o
 simp [Root.row?] at o
 subst o
 rw [w] at j
 injection j with j
 subst j
 obtain ⟨d2,n,B⟩:=u
 rw [w] at n
 injection n with n
 subst n
 rcases B with ⟨q,_,s⟩|⟨b,c,A,l,F,q,G,s,H,I⟩
 ·rcases t with ⟨_,f,_⟩|⟨b,l,i,_⟩
  ·rcases f with f|⟨f,_⟩
   ·exact .inl f
   grind
  grind
 ·subst G
  rcases t with ⟨i,_⟩|⟨K,l',i,f,L,bs,M,N,z,q6⟩
  ·grind
  ·rw [q] at i
   injection i with i
   injection f with f
   subst i f
   simp [Root.own,q,Option.toList] at k
   simp [bsize,s] at z
   refine .inr ⟨_,l,F,b,c,A,L,r,rfl,H,fun K hb'=>⟨r,by simp,?_⟩,k.2,M,N,s,?_,I,by simp,?_,k.1⟩
   all_goals grind [Root.own,Ty.size]
theorem zsB {X' e b g a f l c}{i cap:Nat}(j:X'.A b) (k:X'.μ b=.mat e a 0) (hβ:X'.β b=⟨some g,f⟩) (m:a.get X'.E=some (.sl l))
  (hh:X'.w.heap[g]?=some (.cells c i (0,0))) (d:l.length≤cap) (h2:cap≤c.size):VRep X' (.h (.sl e) b none) (.slice (some ⟨g,0,none⟩) l.length cap):=by
 refine ⟨zbr _ _ _,j,fun _=>⟨a,_,by rw [k];rfl,m,.inr ⟨g,l,by grind,rfl,cap,c.size,rfl,d,by grind [bsize],?_⟩⟩⟩
 grind [Ty.size]
theorem zEh (hB:B0≤X.w.heap.size) (m:Mem B0 X) {t E tt e i}(hu:cx.P.underlying t=some (.slice E)) (tf:TyFact cx E (.sl e) i) {xt E2}(hx:cx.P.underlying xt=some (.slice E2)) {rs1 rs2 r'}
  (hrs0:∀ q∈rs1++rs2,X.A q∧(X.μ q).noLt=true) (hdis:∀ q∈rs1,q∉rs2) (hn:¬ X.A r') {d1 d2 dn v1 v2} (h1:zC1 X e rs1 d1 v1) (h2:zC1 X e rs2 d2 v2) (happ:appD (cx.by_ E) d1 d2=some dn) {a} (ha:a.get X.E=some dn) :
  ∃ v w' p,(Builtin.append_ #[t,xt] tt #[v1,v2]).run cx.P X.w=.ok v w'∧Below B0 X.w w' ∧
   (Ext X (X.joined w' (rs1++rs2) r' (.mat e a 0) p)∧Mem B0 (X.joined w' (rs1++rs2) r' (.mat e a 0) p))∧VRep (X.joined w' (rs1++rs2) r' (.mat e a 0) p) (.h (.sl e) r' none) v:=by
 have hrs:=fun q h=>(hrs0 q h).1
 have hsz:i.size=1:=by rw [tf.size];rfl
 have hjμ:∀ {w'} {p},(X.joined w' (rs1++rs2) r' (.mat e a 0) p).μ r'=.mat e a 0:=by simp [Ctx.joined,upd_same]
 have hjβ:∀ {w'} {p},(X.joined w' (rs1++rs2) r' (.mat e a 0) p).β r'=p:=by simp [Ctx.joined,upd_same]
 have hjA:∀ {w'} {p},(X.joined w' (rs1++rs2) r' (.mat e a 0) p).A r':=by intro w' p;exact .inr rfl
 have stay:∀ {v2:Value},dn=d1→(∀ A n c,v1=.slice A n c→n≤c→(Builtin.append_ #[t,t] tt #[.slice A n c,v2]).run cx.P X.w=.ok (.slice A n c) X.w)→∃ v w' p,(Builtin.append_ #[t,xt] tt #[v1,v2]).run cx.P X.w=.ok v w'∧Below B0 X.w w' ∧
   (Ext X (X.joined w' (rs1++rs2) r' (.mat e a 0) p)∧Mem B0 (X.joined w' (rs1++rs2) r' (.mat e a 0) p))∧VRep (X.joined w' (rs1++rs2) r' (.mat e a 0) p) (.h (.sl e) r' none) v:=by
  intro v2 hdn hrun
  rcases h1 with ⟨p1,p2⟩|⟨rows,l,xs,b,c,te,cap,s,q1,q2,q3,q4,q5,q6,q7,q8,q9,q10,q11,q12⟩
  ·subst p2
   rw [hdn,p1] at ha
   refine ⟨_,X.w,⟨none,[]⟩,by rw [zfU hx hu _ _ _ _ tf.info];exact hrun _ _ _ rfl (wG0 _),Below.refl _ _,m.fuseNil hB hrs0 hn ha,?_⟩
   simp only [VRep,Ref]
   exact ⟨zbr _ _ _,hjA,fun _=>⟨a,_,by rw [hjμ];rfl,ha,.inl ⟨by grind,.inl ⟨rfl,rfl⟩,trivial⟩⟩⟩
  ·subst q5
   rw [hdn,q1] at ha
   refine ⟨_,X.w,⟨some b,rows⟩,by rw [zfU hx hu _ _ _ _ tf.info];exact hrun _ _ _ rfl q6,Below.refl _ _,m.fuse hB hrs0 hn (fun _ _ _=>rfl) (fun _ _ h=>h) (fun b hb=>⟨?_,rfl⟩) (.inr ⟨s,vQ0 _ q10,q11⟩) q12 q4 ha q7 q2 q9,?_⟩
   ·grind
   ·exact zsB hjA hjμ hjβ ha q7 q6 q8
 rcases h2 with ⟨p1,p2⟩|⟨rows2,l2,xs2,b2,c2,te2,cap2,s2,q1,q2,q3,q4,q5,q6,q7,q8,q9,q10,q11,q12⟩
 ·subst p1 p2
  refine stay ?_ fun A n c _ hnc=>zjh hu tf.info hnc
  unfold appD at happ
  simp only [D.els] at happ
  grind
 ·subst q1 q5
  cases hl2:l2 with
  | nil =>
   subst hl2
   refine stay ?_ fun A n c _ hnc=>zi5 hu tf.info hnc
   unfold appD at happ
   simp only [D.els] at happ
   grind
  | cons d0 l20 =>
  have hpos:0<l2.length:=by grind
  have hne:l2≠[]:=by grind
  rw [← hl2]
  clear hl2
  have hlen2:=RowCells.lens q2
  have hyl:xs2.length=l2.length * i.size:=by grind
  have hnews:∀ j u,xs2[j]?=some u→X.w.cell? ((⟨b2,0,none⟩:Addr).add j)=some u:=fun j u hj=>by
   rw [addr_add,vA0]
   grind [zc4]
  have own2:∀ b∈opts rows2,(∃ s∈rs1++rs2,b∈(X.μ s).own (X.β s)):=fun b hb=>by grind
  obtain ⟨z,hz,hzd⟩:=tf.zero
  have hzs:z.cells.size=i.size:=by have:=(hzd X.w X.M).cells.length;rw [tf.size,← this];simp
  rcases h1 with ⟨p1,p2⟩|⟨rows,l,xs,b,c,te,cap,s,f1,f2,f3,f4,f5,f6,f7,f8,f9,f10,f11,f12⟩
  ·subst p1 p2
   have happ':zcm l2.length (cx.by_ E)=true∧dn=.sl l2:=by
    unfold appD at happ
    simp [D.els] at happ
    grind
   obtain ⟨hroom,hdn⟩:=happ'
   subst hdn
   simp only [Cx.by_,Program.bytesOf,tf.info,Option.map_some,Option.getD_some] at hroom
   obtain ⟨cap',cells,hrun,hc1,hc2,hc3⟩:=ziO (P:=cx.P) (w:=X.w) (ty:=tt) hu tf.info hz hzs (A:=none) (n:=0) (c:=0) (olds:=[]) (.inl ⟨rfl,rfl,rfl,rfl⟩) (a:=⟨b2,0,none⟩) (m:=l2.length) (c':=cap2) hyl hnews (by omega) (by grind)
   have hbel:Below X.w.heap.size X.w (X.w.drew.alloc (.cells cells E)):=((Below.refl _ _).drew).alloc (wG0 _) _
   rw [vA0] at hrun hc1
   rw [List.nil_append] at hc3
   refine ⟨_,_,⟨some X.w.heap.size,rows2⟩,by rw [zfU hx hu _ _ _ _ tf.info];exact hrun,hbel.mono hB,m.fuse hB hrs0 hn (fun b hb _=>hbel.block b hb) (fun b n h=>(zcd (hbel.block b (zfi h))).trans h) (fun b hb=>⟨own2 b hb,hbel.block b ?_⟩) (.inl (wG0 _)) (fun hb=>?_) q4 ha (heap_alloc_new X.w.drew _) q2 hc3,?_⟩
   ·obtain ⟨s,g1,g2⟩:=own2 b hb
    exact m.lt (hrs s g1) g2
   ·obtain ⟨s,g1,g2⟩:=own2 _ hb
    have:=m.lt (hrs s g1) g2
    omega
   ·exact zsB hjA hjμ hjβ ha (heap_alloc_new X.w.drew _) hc1 (by grind)
  ·subst f1 f5
   have happ':zcm (l.length + l2.length) (cx.by_ E)=true∧dn=.sl (l++l2):=by grind [appD,D.els]
   obtain ⟨hroom,hdn⟩:=happ'
   subst hdn
   have hlen1:=RowCells.lens f2
   have sdis:∀ b,(∃ s∈rs1,b∈(X.μ s).own (X.β s))→(∃ s∈rs2,b∈(X.μ s).own (X.β s))→False:=fun b ⟨s,g1,g2⟩ ⟨s',g3,g4⟩=>by
    have:=m.apart s s' b (hrs s (vQ0 _ g1)) (hrs s' (List.mem_append_right _ g3)) g2 g4
    grind
   have hnd:(opts (rows++rows2)).Nodup:=by
    rw [zg6]
    exact List.nodup_append.2 ⟨f4,q4,fun b hb b' hb' e=>by subst e;exact sdis b (f3 b hb) (q3 b hb')⟩
   have hownall:∀ b'∈opts (rows++rows2),(∃ s∈rs1++rs2,b'∈(X.μ s).own (X.β s)):=fun b' hb'=>by grind [zg6]
   have hbn:b∉opts (rows++rows2):=by
    rw [zg6]
    intro hb
    rcases List.mem_append.1 hb with hb|hb
    ·exact f12 hb
    ·exact sdis b ⟨s,f10,f11⟩ (q3 b hb)
   have hcells:=RowCells.append f2 q2
   have hxl:xs.length=l.length:=hlen1.2
   have hxc:xs.length≤c.toList.length:=by rw [← f9,wE0];omega
   by_cases hfit:l.length + l2.length≤cap
   ·have hf2:l.length * i.size + xs2.length≤c.size:=by rw [hyl,hsz];omega
    have hrun:=znN (P:=cx.P) (w:=X.w) (ty:=tt) hu tf.info f7 hyl hnews q2.ones hfit hf2 (c:=cap2)
    have hsz2:(patch c.toList (l.length * i.size) xs2).toArray.size=c.size:=by
     have:=zbB (cs:=c.toList) (cv:=xs2) (o:=l.length * i.size) (by simpa using hf2)
     simpa using this
    have hc':(patch c.toList (l.length * i.size) xs2).toArray.toList.take (xs++xs2).length=xs++xs2:=by
     show (patch c.toList (l.length * i.size) xs2).take _=_
     simp only [patch,hsz,Nat.mul_one]
     rw [← hxl,f9]
     exact List.take_left' rfl
    refine ⟨_,_,⟨some b,rows++rows2⟩,by rw [zfU hx hu _ _ _ _ tf.info];exact hrun,below_setRow (Below.refl _ _) (m.low s b (hrs s (vQ0 _ f10)) f11) _,m.fuse hB hrs0 hn (fun q hq hb=>setRow_other _ _ _ _ fun e=>hb s (vQ0 _ f10) (e▸f11)) (fun q n' h=>zev f7 hsz2 h) (fun b' hb'=>⟨hownall b' hb',setRow_other _ _ _ _ fun e=>hbn (e▸hb')⟩) (.inr ⟨s,vQ0 _ f10,f11⟩) hbn hnd ha (setRow_heap _ _ _ _ _ _ f7) hcells hc',?_⟩
    have:=zsB (X':=X.joined (X.w.setRow b (patch c.toList (l.length * i.size) xs2).toArray) (rs1++rs2) r' (.mat e a 0) ⟨some b,rows++rows2⟩) (cap:=cap) hjA hjμ hjβ ha (setRow_heap _ _ _ _ _ _ f7) (by rw [wI0];exact hfit) (by rw [hsz2];exact f8)
    grind
   ·simp [Cx.by_,Program.bytesOf,tf.info] at hroom
    obtain ⟨cap',cells,hrun,hc1,hc2,hc3⟩:=ziO (P:=cx.P) (w:=X.w) (ty:=tt) hu tf.info hz hzs (A:=some ⟨b,0,.none⟩) (n:=l.length) (c:=cap) (olds:=xs)
     (.inr ⟨_,rfl,by rw [hsz,hxl];omega,fun j v hj=>by
      rw [addr_add,vA0]
      exact zc4 f7 f9 hj⟩) (a:=⟨b2,0,none⟩) (m:=l2.length) (c':=cap2) hyl hnews (by omega) hroom
    have hbel:Below X.w.heap.size X.w (X.w.drew.alloc (.cells cells E)):=((Below.refl _ _).drew).alloc (wG0 _) _
    refine ⟨_,_,⟨some X.w.heap.size,rows++rows2⟩,by rw [zfU hx hu _ _ _ _ tf.info];exact hrun,hbel.mono hB,m.fuse hB hrs0 hn (fun b hb _=>hbel.block b hb) (fun b n h=>(zcd (hbel.block b (zfi h))).trans h) (fun b hb=>⟨hownall b hb,hbel.block b ?_⟩) (.inl (wG0 _)) (fun hb=>?_) hnd ha (heap_alloc_new X.w.drew _) hcells hc3,?_⟩
    ·obtain ⟨s,g1,g2⟩:=hownall b hb
     exact m.lt (hrs s g1) g2
    ·obtain ⟨s,g1,g2⟩:=hownall _ hb
     have:=m.lt (hrs s g1) g2
     omega
    ·have:=zsB (X':=X.joined (X.w.drew.alloc (.cells cells E)) (rs1++rs2) r' (.mat e a 0) ⟨some X.w.heap.size,rows++rows2⟩) (cap:=cap') hjA hjμ hjβ ha (heap_alloc_new X.w.drew _) (by rw [wI0];exact hc1) (by rw [hsz] at hc2;omega)
     rw [wI0] at this
     exact this
theorem zwN {e x i b f o}(h:Run (zDd e x) i b o f):f=b∧∀ r a,o=some (r,a)→∃ c g,e=.sl c∧x=.h (.sl c) r none∧now i b.up r=.mat c a g:=by
 unfold zDd at h
 split at h
 ·obtain ⟨RR,s1,k,j⟩:=Run.bind h
  obtain ⟨e1,es⟩:=Run.root k
  split at j
  ·rcases Run.ite j with ⟨hb,d⟩|⟨_,d⟩
   ·obtain ⟨e2,e4⟩:=Run.pure d
    grind [Ty.beq_eq]
   grind [Run.pure]
  grind [Run.pure]
 grind [Run.pure]
theorem zsN {d}:∀ {l}{a b}{u},Run (zBF l) d a u b→b={ a with up:=(l.map fun r=>(r,Root.dead)).reverse++a.up }
 | [],a,b,u,h=>by
  obtain ⟨_,e⟩:=Run.pure h
  simp_all
 | r::l,a,b,u,h=>by
  obtain ⟨_,s1,f,c⟩:=Run.bind h
  have es:=Run.put f
  have:=zsN c
  grind
theorem zr4 {C}(hB:B0≤X.w.heap.size) (m:Mem B0 X) {t E u e i}(hu:cx.P.underlying t=some (.slice E)) (tf:TyFact cx E (.sl e) i) {A L}(N:cx.P.underlying A=some (.slice L))
  {d c o I rs a s} (h0:d.up=[]) (h:Run (zBq (.sl e) (cx.by_ E) o (rs++[a]) I) X.μ d s c) (hs:Sat C k X.E c.bs c.nv) (w:∀ q,d.ab≤q→q<c.ab→¬ X.A q)
  {d1 y n} (hrs0:∀ q∈rs,X.A q∧(X.μ q).noLt=true) (hne:a∉rs) (J:o.get X.E=some d1) (K:zC1 X e rs d1 y) {g} (z:X.μ a=.mat e I g) (hv:VRep X (.h (.sl e) a none) n) :
  Acts cx.P B0 X (Builtin.append_ #[t,A] u #[y,n]) d c fun M v=>VRep M s v:=by
 obtain ⟨v,s1,h2,h3⟩:=Run.bind h
 obtain ⟨_,s2,h4,h5⟩:=Run.bind h3
 obtain ⟨r,s3,h6,h7⟩:=Run.bind h5
 have l:=zsN h4
 subst l
 obtain ⟨G,l⟩:=Run.new h6
 subst l
 obtain ⟨e1,e2⟩:=Run.pure h7
 subst e1 e2
 obtain ⟨⟨u1,u2,dn,f,q2,q3,q4⟩,q5,q6⟩:=Run.op2 h2 hs
 rw [J] at f
 injection f with f
 subst f
 have hv':Ref X (.h (.sl e) a none) n:=by grind [VRep]
 dsimp only at w G
 obtain ⟨v,B,p,hrun,hbel,H,hvr⟩:=zEh (tt:=u) (rs1:=rs) (rs2:=[a]) hB m hu tf N (fun q b=>by
  rcases List.mem_append.1 b with b|b
  ·grind
  ·rw [List.mem_singleton.1 b];exact ⟨(by grind [Ref]),by rw [z];rfl⟩) (fun q b hq2=>hne (List.mem_singleton.1 hq2▸b)) (w r (by omega) (by omega)) K (zEA m hv' z q2) q3 q4
 refine ⟨v,B,X.joined B (rs++[a]) r (.mat e _ 0) p,hrun,⟨rfl,rfl,?_,fun q=>?_,H.1,H.2,hbel⟩,hvr⟩
 ·show upd _ _ _=_
  rw [q5,h0,zca,G]
  congr 1
  funext q
  rw [zx1 X.μ [] _ (fun p F=>?_),zbI]
  ·simp only [List.map_reverse,List.mem_reverse,List.map_map]
   simp
  ·simp only [List.mem_reverse,List.mem_map] at F
   obtain ⟨q,_,e⟩:=F
   rw [← e]
 ·show (X.A q∨q=r)↔X.A q∨d.ab≤q∧q<s1.ab + 1
  grind
end
end Go.SX
namespace Go.SX
open Go.RowKit (Below)
section
variable {C:FuncId→List D→Option (List D)} {k B0:Nat} {X:Ctx} {cx:Cx}
theorem zfc {e a c f b d}(h:Run (newRow e a) f b c d):c=.h e b.ab none∧d={ b with up:=(b.ab,Root.row e a)::b.up,ab:=b.ab + 1 }:=by
 obtain ⟨r,s1,h1,h2⟩:=Run.bind h
 grind [Run.new,Run.pure]
theorem Mem.kill (m:Mem B0 X) (d:B0≤X.w.heap.size) (r) (c:(X.μ r).noLt=true):Ext X { X with μ:=upd X.μ r .dead }∧Mem B0 { X with μ:=upd X.μ r .dead }:=by
 refine Mem.change m d (fun q=>q=r) (fun _ _ h=>h) (fun _ h=>h) (fun q h=>.inl h) (fun q a=>⟨upd_ne _ _ a,rfl⟩) (fun _ _ _=>rfl) (fun _ _ h=>h) ?_ ?_ ?_ (fun _ _ _=>rfl) ?_ ?_ rfl (zB2 rfl c)
 ·grind [upd_same,Root.own]
 ·omega
 ·simp [upd_same,Root.own]
 ·simp [upd_same,Root.there]
 ·intro x q a _
  subst a
  simp only [upd_same]
  trivial
theorem zGr (ty:TysOk cx) {t e}(h:cx.T t=.sl e):∃ E,cx.P.underlying t=some (.slice E):=by grind [zbC]
theorem zmD (ty:TysOk cx) (j:B0≤X.w.heap.size) {t E tt e i}(H:cx.P.underlying t=some (.slice E)) (M:TyFact cx E e i) {z B}(G:cx.P.underlying z=some (.slice B))
  {σ b o x m} (x0:Ext X (X.mv σ.up)) (m0:Mem B0 (X.mv σ.up)) (h:Run (zsQ e (cx.by_ E) o x) X.μ σ m b) (n:Sat C k X.E b.bs b.nv) (F:∀ q,σ.ab≤q→q<b.ab→¬ X.A q)
  {d s l} (I:o.get X.E=some d) (J:Empt d s) (K:VRep (X.mv σ.up) x l):Acts cx.P B0 X (Builtin.append_ #[t,z] tt #[s,l]) σ b fun L v=>VRep L m v:=by
 obtain ⟨y,N,O,P⟩:=Run.bind h
 obtain ⟨a,s2,w,h4⟩:=Run.bind P
 obtain ⟨e1,e2⟩:=zfc h4
 subst e1 e2
 obtain ⟨x1,m1,hab,dy,hy,hsrc⟩:=zhv j O (w.sat n) m0 K
 obtain ⟨⟨u,v,dn,g,f,q3,q4⟩,q5,q6⟩:=Run.op2 w n
 rw [I] at g
 rw [hy] at f
 injection g with g
 injection f with f
 subst g f
 obtain ⟨v,w',p,hrun,hbel,hxm,A⟩:=zhw (X:=X.mv N.up) (tt:=tt) ty j m1 H M G (F s2.ab (by omega) (by simp)) J hsrc q3 q4
 exact ⟨v,w',_,hrun,Nx.grown (x0.trans x1) hbel j hxm (by grind) rfl rfl (by omega),A⟩
theorem zmF (ty:TysOk cx) (s:B0≤X.w.heap.size) {t E tt e i}(U:cx.P.underlying t=some (.slice E)) (tf:TyFact cx E e i) {xt E2}(hx:cx.P.underlying xt=some (.slice E2))
  {σ s' r vw x sv} (x0:Ext X (X.mv σ.up)) (m0:Mem B0 (X.mv σ.up)) (h:Run (ziy e (cx.by_ E) r vw x) X.μ σ sv s') (hs:Sat C k X.E s'.bs s'.nv) (hfr:∀ q,σ.ab≤q→q<s'.ab→¬ X.A q)
  {vs vx} (hvs:Ref (X.mv σ.up) (.h e r vw) vs) (hvx:VRep (X.mv σ.up) x vx):Acts cx.P B0 X (Builtin.append_ #[t,xt] tt #[vs,vx]) σ s' fun X' v=>VRep X' sv v:=by
 unfold ziy at h
 obtain ⟨y,s1,h1,h2⟩:=Run.bind h
 obtain ⟨a,s2,h3,h4⟩:=Run.bind h2
 obtain ⟨G,hR⟩:=zfn h3
 subst G
 have hA  := by simp only [Ref] at hvs;exact hvs.2.1
 cases vw with
 | none =>
  obtain ⟨av,m,h5,h6⟩:=Run.bind h4
  obtain ⟨_,s4,h7,h8⟩:=Run.bind h6
  have G:=Run.put h7
  subst G
  obtain ⟨K,e2⟩:=zfc h8
  subst K e2
  obtain ⟨R,P,hab,S,hy,hsrc⟩:=zhv s h1 (h5.sat hs) m0 hvx
  obtain ⟨⟨u,v,o,q1,H,d,f⟩,q5,q6⟩:=Run.op2 h5 hs
  rw [hy] at H
  injection H with H
  subst H
  have B:(X.mv s2.up).μ r=.row e a:=hR
  rcases zpw P hA B q1 (hvs.ext R) with ⟨c1,c2⟩|⟨b,l,c,te,xs,cap,c1,c2,c3,c4,c5,c6,c7,c8⟩
  ·obtain ⟨L,m2⟩:=P.kill s r (by rw [B];rfl)
   rw [← Ctx.mv_cons] at L m2
   obtain ⟨v,I,p,N,J,Q,hv⟩:=zhw (X:=X.mv ((r,.dead)::s2.up)) (tt:=tt) ty s m2 U tf hx (hfr m.ab (by omega) (by simp)) c2 (hsrc.keep L.K) d f
   exact ⟨v,I,_,N,Nx.grown ((x0.trans R).trans L) J s Q (by grind) rfl rfl (by omega),hv⟩
  ·subst c2 c6
   cases n:S.els with
   | none =>
    have d:appD (cx.by_ E) (.sl l) S=some o:=d
    grind [appD]
   | some j =>
    have d:(if zcm (l.length + j.length) (cx.by_ E)=true then some (D.sl (l++j)) else none)=some o:=by
     have d:appD (cx.by_ E) (.sl l) S=some o:=d
     unfold appD at d
     rw [n] at d
     exact d
    split at d
    ·rename_i hroom
     injection d with d
     have K:o=.sl (l.take l.length++(j++[])):=by grind
     subst K
     obtain ⟨I,g,cap',O,N,J,Q,g1,g2,g3⟩:=zp6 (X:=X.mv s2.up) (tt:=tt) s P U tf hx hA (hfr m.ab (by omega) (by simp)) B c1 c3 c4 c5 (wG0 _) c7 c8 hsrc n hroom (tail:=[]) (.inl rfl) f
     refine ⟨_,I,_,N,Nx.swapped (x0.trans R) J Q (by grind) rfl rfl (by omega),?_⟩
     simp
     refine ⟨zbr _ _ _,.inr rfl,fun _=>⟨av,_,by simp [Ctx.swapped,upd_same,Root.row?],f,.inr ⟨g,_,by simp [Ctx.swapped,upd_same],rfl,cap',O,?_,?_,g2,g3⟩⟩⟩
     all_goals grind
    grind
 | some p =>
  obtain ⟨lo,hi⟩:=p
  obtain ⟨_,m,h5,h6⟩:=Run.bind h4
  obtain ⟨hz,G⟩:=Run.guard h5
  subst G
  obtain ⟨av,s4,h7,h8⟩:=Run.bind h6
  obtain ⟨am,s5,h9,h10⟩:=Run.bind h8
  obtain ⟨an,s6,h11,h12⟩:=Run.bind h10
  obtain ⟨_,s7,h13,h14⟩:=Run.bind h12
  have G:=Run.put h13
  subst G
  obtain ⟨r',s8,h15,h16⟩:=Run.bind h14
  obtain ⟨er,G⟩:=Run.new h15
  obtain ⟨K,e2⟩:=Run.pure h16
  subst er G
  subst K e2
  have hlo:lo=.c (.int .i64 0):=by grind [isZ]
  subst hlo
  have hs11  := hs
  obtain ⟨R,P,hab,S,hy,hsrc⟩:=zhv s h1 (h7.sat (h9.sat (h11.sat hs11))) m0 hvx
  obtain ⟨⟨u,vh,v,o,q1,H,d,f,q5⟩,q6,q7⟩:=Run.op3 h7 (h9.sat (h11.sat hs11))
  obtain ⟨⟨y1,dm,w1,w2,w3⟩,w4,w5⟩:=Run.op1 h9 (h11.sat hs11)
  obtain ⟨⟨z1,z2,dn2,z3,z4,z5,z6⟩,z7,z8⟩:=Run.op2 h11 hs11
  rw [hy] at d w1
  injection d with d
  injection w1 with w1
  subst d w1
  rw [H] at z3
  rw [w3] at z4
  injection z3 with z3
  injection z4 with z4
  subst z3 z4
  have hup:s6.up=m.up:=by grind
  have habs  := by omega
  have hvs':=hvs.ext R
  have B:(X.mv m.up).μ r=.row e a:=hR
  have hrep:=P.rep r hA
  rw [B] at hrep
  obtain ⟨dr,p1,p2⟩:=hrep
  have p1':a.get X.E=some dr:=p1
  rw [q1] at p1'
  injection p1' with p1'
  subst p1'
  cases n:S.els with
  | none =>
   cases vh<;>first
    | (simp only [Prim.run,n] at f
       cases U:u.els<;>simp [U] at f)
    | simp [Prim.run] at f
  | some j =>
   have hdm  := by
    cases S<;>simp [D.els] at n<;>subst n<;>simp [Prim.run] at w2<;>exact w2.symm
   subst hdm
   simp only [Ref] at hvs'
   obtain ⟨a1,d1,g1,g2,g3⟩:=hvs'.2.2 (by rw [B];rfl)
   rw [B] at g1
   simp [Root.row?] at g1
   subst g1
   have g2':a.get X.E=some d1:=g2
   rw [q1] at g2'
   injection g2' with g2'
   subst g2'
   rcases g3 with ⟨r1,V,k1,k2,r3,r4⟩|⟨b,l,r1,V,ad,cap,O,k1,k2,i',A,r3,r4,r5,r6,r7,r8,r9,r10,r11⟩
   ·have F:hi.get X.E=some (.int k2 0):=r4
    rw [H] at F
    injection F with F
    subst F
    simp [Prim.run] at z5
    subst z5
    obtain ⟨L,m2⟩:=P.kill s r (by rw [B];rfl)
    rw [← Ctx.mv_cons] at L m2
    have happ:appD (cx.by_ E) u S=some o:=by
     simp only [Prim.run,V.em.els,n] at f
     simp [appD,V.em.els,n]
     grind
    obtain ⟨v,I,p,N,J,Q,hv⟩:=zhw (X:=X.mv ((r,.dead)::m.up)) (tt:=tt) ty s m2 U tf hx (hfr s6.ab (by omega) (by simp)) V (hsrc.keep L.K) happ q5
    refine ⟨v,I,_,N,Nx.grown ((x0.trans R).trans L) J s Q (by grind) rfl rfl (by omega),?_⟩
    simp  at hv ⊢
    obtain ⟨hv1,hv2,hv3⟩:=hv
    refine ⟨hv1,hv2,fun ht=>?_⟩
    obtain ⟨a9,d9,f1,f2,f3⟩:=hv3 ht
    have f2':a9.get X.E=some d9:=f2
    have f1':a9=av:=by simp_all [Ctx.grown,upd_same,Root.row?]
    subst f1'
    rw [q5] at f2'
    injection f2' with f2'
    subst f2'
    refine ⟨a9,o,f1,f2,?_⟩
    have hdn:o.els=some j:=by
     simp [appD,V.em.els,n] at happ
     grind [D.els]
    rcases f3 with ⟨f4,f5,_⟩|⟨b,l,f4,f5,cap,O,f6,f7,f8,f9⟩
    ·refine .inl ⟨f4,f5,.i64,.i64,rfl,?_⟩
     have:j=[]:=by rw [f5.em.els] at hdn;grind
     subst this
     exact z6
    ·subst f5
     simp [D.els] at hdn
     subst hdn
     refine .inr ⟨b,l,f4,rfl,⟨b,0,none⟩,cap,O,.i64,.i64,0,l.length,rfl,z6,Nat.zero_le _,wG0 _,by omega,by omega,f8,by grind,fun _=>by simp⟩
   ·have F:hi.get X.E=some (.int k2 (Int.ofNat A)):=r4
    simp [At.get] at r3
    obtain ⟨_,r3⟩:=r3
    have hi0:i'=0:=by grind
    subst hi0
    rw [H] at F
    injection F with F
    subst F V
    simp [Prim.run] at z5
    subst z5
    have had:=r11 (.inr rfl)
    simp  at had
    subst had
    simp  at r7 r8 r10
    subst r7
    have hbd:∃ c te xs,(X.mv m.up).w.heap[b]?=some (.cells c te (0,0))∧DRepA (X.mv m.up).w (X.mv m.up).M e l xs∧c.toList.take xs.length=xs:=by grind
    obtain ⟨c,te,xs,t3,t5,t6⟩:=hbd
    have hbs:O=c.size:=by grind [bsize]
    subst hbs
    have f:(if 0≤Int.ofNat A∧Int.ofNat A≤(l.length:Int)∧zcm ((Int.ofNat A).toNat + j.length) (cx.by_ E)=true then some (D.sl (l.take (Int.ofNat A).toNat++(j++l.drop ((Int.ofNat A).toNat + j.length)))) else none)=some o:=by
     simp only [Prim.run,n] at f
     exact f
    split at f
    ·rename_i hc
     injection f with f
     have K:o=.sl (l.take A++(j++l.drop (A + j.length))):=by rw [← f];simp
     subst K
     obtain ⟨I,g,cap',O,N,J,Q,g1,g2,g3⟩:=zp6 (X:=X.mv m.up) (tt:=tt) s P U tf hx hA (hfr s6.ab (by omega) (by simp)) B r1 t3 t5 t6 r6 (Nat.le_trans r6 r8) r10 hsrc n (by simpa using hc.2.2) (tail:=l.drop (A + j.length)) (.inr ⟨rfl,r8⟩) q5
     refine ⟨_,I,_,N,Nx.swapped (x0.trans R) J Q (by grind) rfl rfl (by omega),?_⟩
     refine ⟨zbr _ _ _,.inr rfl,fun _=>⟨av,_,by simp [Ctx.swapped,upd_same,Root.row?],q5,.inr ⟨g,_,by simp [Ctx.swapped,upd_same],rfl,⟨g,0,none⟩,cap',O,.i64,.i64,0,A + j.length,rfl,?_,Nat.zero_le _,?_,?_,?_,g2,by simpa using g3,fun _=>by simp⟩⟩⟩
     ·rw [show an.get ((X.mv m.up).swapped I r s6.ab (.row e av) ⟨some g,[]⟩).E=an.get X.E from rfl,z6]
      simp
     all_goals grind
    grind
theorem zyf (ty:TysOk cx) (z:B0≤X.w.heap.size) {t E V e i}(hu:cx.P.underlying t=some (.slice E)) (tf:TyFact cx E e i) {xt E2}(hx:cx.P.underlying xt=some (.slice E2))
  {n s r F x sv} (x0:Ext X (X.mv n.up)) (m0:Mem B0 (X.mv n.up)) (h:Run (zCW e (cx.by_ E) r F x) X.μ n sv s) (hs:Sat C k X.E s.bs s.nv) (hfr:∀ q,n.ab≤q→q<s.ab→¬ X.A q)
  {vs vx} (M:Ref (X.mv n.up) (.hc e r F) vs) (hvx:VRep (X.mv n.up) x vx):Acts cx.P B0 X (Builtin.append_ #[t,xt] V #[vs,vx]) n s fun X' v=>VRep X' sv v:=by
 obtain ⟨y,s1,h1,h2⟩:=Run.bind h
 obtain ⟨a,N,h3,h4⟩:=Run.bind h2
 obtain ⟨O,hR⟩:=zfn h3
 subst O
 obtain ⟨ao,s3,h5,h6⟩:=Run.bind h4
 obtain ⟨av,s4,P,h8⟩:=Run.bind h6
 obtain ⟨_,s5,h9,h10⟩:=Run.bind h8
 have O:=Run.put h9
 subst O
 obtain ⟨Q,e2⟩:=zfc h10
 subst Q e2
 obtain ⟨R,S,hab,dy,hy,hsrc⟩:=zhv z h1 (h5.sat (P.sat hs)) m0 hvx
 obtain ⟨⟨u,z0,vh,o,q1,q2,q3,q4,q5⟩,q6,q7⟩:=Run.op3 h5 (P.sat hs)
 obtain ⟨⟨o',v,U,J,B,f,w4⟩,w5,w6⟩:=Run.op2 P hs
 rw [q5] at J
 rw [hy] at B
 injection J with J
 injection B with B
 subst J B
 simp [i64c,At.get] at q2
 subst q2
 have w:(X.mv N.up).μ r=.row e a:=hR
 obtain ⟨a1,d1,G,g2,g3⟩:=(M.ext R).2.2 (by rw [w];rfl)
 rw [w] at G
 simp [Root.row?] at G
 subst G
 have H:a.get X.E=some d1:=g2
 rw [q1] at H
 injection H with H
 subst H
 have f:appD (cx.by_ E) o dy=some U:=f
 rcases g3 with ⟨L,I,k1,r3⟩|⟨b,l,k1,j,bs,L,I,r3,r4,r5,r6,r7⟩
 ·have d:F.get X.E=some (.int k1 0):=r3
  rw [q3] at d
  injection d with d
  subst d
  have ho:o=u:=by rcases I.em with h|h<;>subst h<;>simp [Prim.run] at q4<;>exact q4.symm
  subst ho
  obtain ⟨x2,m2⟩:=S.kill z r (by rw [w];rfl)
  rw [← Ctx.mv_cons] at x2 m2
  obtain ⟨v,w',p,hrun,hbel,hxm,hv⟩:=zhw (X:=X.mv ((r,.dead)::N.up)) (tt:=V) ty z m2 hu tf hx (hfr s4.ab (by omega) (by simp)) I (hsrc.keep x2.K) f w4
  exact ⟨v,w',_,hrun,Nx.grown ((x0.trans R).trans x2) hbel z hxm (by grind) rfl rfl (by omega),hv⟩
 ·have d:F.get X.E=some (.int k1 (Int.ofNat j)):=r3
  rw [q3] at d
  injection d with d
  subst d I r5
  have ho:o=.sl (l.take j):=by simp_all [Prim.run]
  subst ho
  have hrep:=S.rep r (by exact M.2.1)
  rw [w] at hrep
  obtain ⟨dr,p1,p2⟩:=hrep
  have K:a.get X.E=some dr:=p1
  rw [q1] at K
  injection K with K
  subst K
  rcases p2 with ⟨A,_⟩|⟨b',c,te,fr,l',xs,A,t2,t3,t4,t5,t6⟩
  ·grind
  ·rw [L] at A
   injection A with A
   injection t2 with t2
   subst A t2
   rw [t4 trivial] at t3
   have hbs:bs=c.size:=by grind [bsize]
   subst hbs
   cases hl2:dy.els with
   | none =>
    grind [appD]
   | some l2 =>
    have f:(if zcm ((l.take j).length + l2.length) (cx.by_ E)=true then some (D.sl (l.take j++l2)) else none)=some U:=by
     unfold appD at f
     rw [hl2] at f
     exact f
    have hlj:(l.take j).length=j:=by grind
    rw [hlj] at f
    split at f
    ·rename_i hroom
     have Q:U=.sl (l.take j++(l2++[])):=by grind
     subst Q
     obtain ⟨w',g,cap',bs,hrun,hbel,hxm,G,g2,g3⟩:=zp6 (X:=X.mv N.up) (tt:=V) z S hu tf hx (by exact M.2.1) (hfr s4.ab (by omega) (by simp)) w L t3 t5 t6 r4 (wG0 _) r7 hsrc hl2 hroom (tail:=[]) (.inl rfl) w4
     refine ⟨_,w',_,hrun,Nx.swapped (x0.trans R) hbel hxm (by grind) rfl rfl (by omega),?_⟩
     refine ⟨zbr _ _ _,.inr rfl,fun _=>⟨av,_,by simp [Ctx.swapped,upd_same,Root.row?],w4,.inr ⟨g,_,by simp [Ctx.swapped,upd_same],rfl,cap',bs,?_,?_,g2,g3⟩⟩⟩
     all_goals grind
    grind
theorem zF6 {e s v}(h:isNil e s=true) (b:VRep X s v):v=.slice none 0 0:=by
 unfold isNil at h
 split at h
 ·grind [VRep]
 ·have:=Ty.beq_eq h
  subst this
  obtain ⟨d,c,a⟩:=VRep.data.1 b
  simp [At.get] at c
  rcases a.slice with ⟨_,h⟩|⟨_,_,_,h,_⟩
  all_goals grind
 grind
theorem zAT {P w t c e ty i z p k n}(d:P.underlying t=some (.slice e)) (f:P.underlying c=some (.int p)) (a:P.info? e=some i) (h:i.zero=some z) (hzs:z.cells.size=i.size) (h0:0<n) (r:zcm n i.bytes=true) :
  (Builtin.append_ #[t,c] ty #[.slice none 0 0,.int k (n:Int)]).run P w=.ok (.slice (some ⟨w.heap.size,0,none⟩) n (grownCap w n 0 e)) (w.drew.alloc (.cells (Builtin.zeroCells z.cells n++Builtin.zeroCells z.cells (grownCap w n 0 e - n)) e)):=by
 simp [zcm] at r
 have b:n≠0:=by omega
 have m:¬ (9223372036854775807<(n:Int)):=by omega
 have g:¬ (281474976710656<(n:Int) * (i.bytes:Int)):=by omega
 have l:¬ (281474976710656<Builtin.nextslicecap n 0 * i.bytes):=by grind [nextslicecap_zero]
 have j:IntKind.i64.wrap (n:Int)=n:=by
  unfold IntKind.wrap
  simp [IntKind.signed,IntKind.bits,Nat.reduceSub,Int.reducePow]
  omega
 have o:¬ ((n:Int)<0):=by omega
 by_cases s:i.size=0
 ·have q:Builtin.zeroCells z.cells n=#[]:=by grind [Builtin.zeroCells]
  rw [q]
  simp [Builtin.append_,run_underlying d,run_underlying f,sizeOf,typeInfo,zeroValue,a,h,asInt,asIntOf,j,o,g,b,m,l,Question.forced,run_firstCells_none,Go.newRow,grownCap,s]
 ·simp [Builtin.append_,run_underlying d,run_underlying f,sizeOf,typeInfo,zeroValue,a,h,asInt,asIntOf,j,o,g,b,m,l,Question.forced,run_firstCells_none,Go.newRow,grownCap]
  grind [Nat.mul_eq_zero]
theorem zAj {P w t a e c i d k}(f:P.underlying t=some (.slice e)) (g:P.underlying a=some (.int d)) (h:P.info? e=some i) :
  (Builtin.append_ #[t,a] c #[.slice none 0 0,.int k 0]).run P w=.ok (.slice none 0 0) w:=by
 have b:IntKind.i64.wrap 0=0:=by decide
 simp [Builtin.append_,run_underlying f,run_underlying g,sizeOf,typeInfo,h,asInt,asIntOf,b]
theorem zuJ (ty:TysOk cx) (r:B0≤X.w.heap.size) (m:Mem B0 X) {t L I e kk s x R y o E i}(K:cx.P.underlying t=some (.slice E)) (j:TyFact cx E e i) (h0:y.up=[]) (hT:cx.T t=.sl e) (hT2:cx.T L=.int kk) (F:isNil e s=true)
  (h:Run (zj9 x >>= fun (p:IntKind×At)=>SX.X.op (.zext e.zero (cx.by_ E)) [.c .nil,p.2] >>= fun v=>newRow e v) X.μ y R o) (hs:Sat C k X.E o.bs o.nv) (J:∀ q,y.ab≤q→q<o.ab→¬ X.A q)
  {G M} (hvs:VRep X s G) (hvx:VRep X x M):Acts cx.P B0 X (Builtin.append_ #[t,L] I #[G,M]) y o fun X' v=>VRep X' R v:=by
 obtain ⟨i2,N⟩:=ty.get hT2 (by simp)
 obtain ⟨⟨k1,n⟩,s1,h1,h2⟩:=Run.bind h
 obtain ⟨es,z,hz,ez⟩:=zdb h1 hvx
 subst es ez
 obtain ⟨v,O,h3,h4⟩:=Run.bind h2
 obtain ⟨e1,e2⟩:=zfc h4
 subst e1 e2
 obtain ⟨⟨dn,dz,dv,Q,u,f,S⟩,q5,q6⟩:=Run.op2 h3 hs
 simp [At.get] at Q
 subst Q
 rw [hz] at u
 injection u with u
 subst u
 have hvs0:G=.slice none 0 0:=by
  unfold isNil at F
  split at F
  ·grind [VRep]
  ·have:=Ty.beq_eq F
   subst this
   obtain ⟨d,A,hdv⟩:=VRep.data.1 hvs
   simp [At.get] at A
   rcases hdv.slice with ⟨_,h⟩|⟨l,a,c,h,_⟩
   all_goals grind
  grind
 subst hvs0
 simp only [Prim.run] at f
 split at f
 ·obtain ⟨b,rfl⟩:∃ b:Nat,z=(b:Int):=⟨z.toNat,by omega⟩
  simp only [Int.toNat_natCast,appD,D.els,List.length_nil,vA0,List.length_replicate,List.nil_append] at f
  split at f
  ·rename_i V
   cases b with
   | zero =>
    simp  at f
    subst f
    obtain ⟨h5,h6⟩:=m.newEmpt r (J O.ab (by omega) (by simp)) S (e:=e) (v:=.slice none 0 0) (.inl ⟨rfl,rfl⟩)
    exact ⟨_,X.w,_,zAj K N.desc j.info,Nx.grown (up:=[]) (Ext.refl X) (Below.refl _ _) r h5 (by grind) rfl rfl (by omega),h6⟩
   | succ b =>
    have f:D.sl (List.replicate (b + 1) e.zero)=dv:=by grind
    subst f
    obtain ⟨B,hzv,A⟩:=j.zero
    have hzs:B.cells.size=i.size:=by rw [j.size,← ((A X.w X.M).cells.length)];simp
    simp [Cx.by_,Program.bytesOf,j.info] at V
    have hcap:=grownCap_ge X.w (b + 1) 0 E
    have H:=m.newRow r (J O.ab (by omega) (by simp)) (((Below.refl _ _).drew).alloc (wG0 _) _) (e:=e) (a:=v) (l:=List.replicate (b + 1) e.zero) (xs:=(List.replicate (b + 1) B.cells.toList).flatten) (c:=Builtin.zeroCells B.cells (b + 1)++Builtin.zeroCells B.cells (grownCap X.w (b + 1) 0 E - (b + 1))) (te:=E) (cap:=grownCap X.w (b + 1) 0 E) S (heap_alloc_new X.w.drew _) (ziF (A X.w X.M).cells (b + 1)) (by simp [zmB]) (by grind) (by
     rw [Array.size_append,size_zeroCells,size_zeroCells,hzs,← j.size,← Nat.add_mul]
     grind)
    rw [List.length_replicate] at H
    exact ⟨_,_,_,(zAT (P:=cx.P) (w:=X.w) (ty:=I) (k:=k1) K N.desc j.info hzv hzs (Nat.succ_pos b) V),Nx.grown (up:=[]) (Ext.refl X) (((Below.refl _ _).drew).alloc (wG0 _) _) r H.1 (by grind) rfl rfl (by omega),H.2⟩
  grind
 grind
theorem zs7 (z:TysOk cx) (j:B0≤X.w.heap.size) (m:Mem B0 X) {t xt tt s x sv V J}(S:V.up=[]) (h:Run (zqc cx t xt s x) X.μ V sv J) (n:Sat C k X.E J.bs J.nv) (A:∀ q,V.ab≤q→q<J.ab→¬ X.A q)
  {vs vx} (hvs:VRep X s vs) (hvx:VRep X x vx):Acts cx.P B0 X (Builtin.append_ #[t,xt] tt #[vs,vx]) V J fun X' v=>VRep X' sv v:=by
 have hX:X.mv V.up=X:=by rw [S];rfl
 unfold zqc at h
 split at h
 ·rename_i e B hT hT2
  obtain ⟨E,i,c,w⟩:=zbC z hT
  obtain ⟨E2,K⟩:=zGr z hT2
  simp only [c] at h
  obtain ⟨E',s1,h1,h2⟩:=Run.bind h
  obtain ⟨l,B⟩:=Run.pure h1
  subst l B
  obtain ⟨_,W,h3,h4⟩:=Run.bind h2
  obtain ⟨hg,b⟩:=Run.guard h3
  subst b
  have m0:Mem B0 (X.mv W.up):=by grind
  have x0:Ext X (X.mv W.up):=by grind [Ext.refl]
  have I:VRep (X.mv W.up) s vs:=by grind
  have hvx0:VRep (X.mv W.up) x vx:=by grind
  rcases Run.ite h4 with ⟨hn,L⟩|⟨_,L⟩
  ·have:=zF6 hn hvs
   subst this
   obtain ⟨o,s3,M,G⟩:=Run.bind L
   obtain ⟨b,ho⟩:=zwN M
   subst b
   split at G
   ·rename_i r2 a2
    obtain ⟨Z,g,l,B,N⟩:=ho r2 a2 rfl
    subst l B
    rw [S,zbI] at N
    exact zr4 (rs:=[]) (d1:=.nil) j m c w K S G n A (by simp) (by simp) rfl (.inl ⟨rfl,rfl⟩) N hvx
   ·exact zmD z j c w K x0 m0 G n A (d:=.nil) rfl (.inl ⟨rfl,rfl⟩) hvx0
  ·split at L
   ·rename_i Z a _
    obtain ⟨_,s3,M,G⟩:=Run.bind L
    obtain ⟨f,b⟩:=Run.guard M
    subst b
    have f:=Ty.beq_eq f
    subst f
    simp only [VRep,Ref] at hvs
    obtain ⟨dz,lz,xz,z1,Y,z3,z4⟩:=hvs
    subst z3
    rcases Run.ite G with ⟨hsm,U⟩|⟨_,U⟩
    ·obtain ⟨av,O,P,Q⟩:=Run.bind U
     obtain ⟨l,B⟩:=zfc Q
     subst l B
     obtain ⟨⟨u,dn,y,F,q3⟩,q4,q5⟩:=Run.op1 P n
     rw [z1] at y
     injection y with y
     subst y
     have hxd:x=.d (.sl Z) a:=by
      unfold sameAt at hsm
      split at hsm
      ·rename_i T a' b'
       simp  at hsm
       grind [Ty.beq_eq,At.beq_eq]
      grind
     subst hxd
     obtain ⟨dx,hdx,hdv⟩:=VRep.data.1 hvx
     rw [z1] at hdx
     injection hdx with hdx
     subst hdx
     simp only [Prim.run,Y] at F
     split at F
     ·rename_i hroom
      injection F with F
      subst F
      have hbase:∃ o,Empt o (.slice xz 0 0)∧appD (cx.by_ E') o dz=some dz:=by
       cases dz<;>simp [D.els] at Y
       ·subst Y
        refine ⟨.sl [],?_,?_⟩
        ·cases xz with
         | none=>grind
         | some ad=>exact .inr ⟨rfl,ad,rfl⟩
        grind [appD,D.els]
       ·subst Y
        refine ⟨.nil,?_,?_⟩
        ·rw [z4.2 rfl]
         exact .inl ⟨rfl,rfl⟩
        grind [appD,D.els]
      obtain ⟨o,hE,happ⟩:=hbase
      obtain ⟨v,w',p,hrun,hbel,hxm,hv⟩:=zhw (X:=X) (tt:=tt) z j m c w K (A O.ab (by omega) (by simp)) hE (Src.of hdv fun _ _ h=>h) happ q3
      exact ⟨v,w',_,hrun,Nx.grown (up:=[]) (Ext.refl X) hbel j hxm (by grind) rfl rfl q5,hv⟩
     grind
    ·obtain ⟨ao,O,P,Q⟩:=Run.bind U
     have hs4:Sat C k X.E O.bs O.nv:=Q.sat n
     obtain ⟨⟨u,c1,c2,dn,y,F,q3,q4,q5⟩,q6,q7⟩:=Run.op3 P hs4
     rw [z1] at y
     injection y with y
     subst y
     simp [i64c,At.get] at F q3
     subst F q3
     have hE:Empt dn (.slice xz 0 0):=by
      cases dz<;>simp [D.els] at Y
      ·simp [Prim.run] at q4
       subst q4
       cases xz with
       | none=>grind
       | some ad=>exact .inr ⟨rfl,ad,rfl⟩
      ·simp [Prim.run] at q4
       subst q4
       rw [z4.2 rfl]
       exact .inl ⟨rfl,rfl⟩
     have:=zmD z j c w K (tt:=tt) (σ:=O) (by grind) (by grind) Q n (fun q hq1 hq2=>A q (by omega) hq2) q5 hE (by rw [q6];exact hvx0)
     grind [Acts]
   ·rename_i Z r hi _
    obtain ⟨_,s3,M,G⟩:=Run.bind L
    grind [Run.guard,Ty.beq_eq,VRep,zyf]
   ·rename_i Z r vw _
    obtain ⟨_,s3,M,G⟩:=Run.bind L
    obtain ⟨f,b⟩:=Run.guard M
    subst b
    have f:=Ty.beq_eq f
    subst f
    simp only [VRep] at I
    rcases Run.ite G with ⟨hc0,h70⟩|⟨_,h70⟩
    ·simp  at hc0
     obtain ⟨_,hvw⟩:=hc0
     subst hvw
     exact ztc j c w K x0 m0 h70 n A I hvx0
    obtain ⟨RR,O,U,P⟩:=Run.bind h70
    obtain ⟨l,b⟩:=Run.root U
    subst b
    split at P
    ·rename_i H a g
     obtain ⟨_,s5,Q,h11⟩:=Run.bind P
     obtain ⟨f,b⟩:=Run.guard Q
     subst b
     have f:=Ty.beq_eq f
     subst f
     have hA  := by simp only [Ref] at I;exact I.2.1
     have hR:(X.mv s5.up).μ r=.mat H a g:=l.symm
     have low:Run (SX.X.putRoot r (.row (.sl H) a) >>= fun _=>ziy (.sl H) (cx.by_ E') r vw x) X.μ s5 sv J→Acts cx.P B0 X (Builtin.append_ #[t,xt] tt #[vs,vx]) s5 J fun X' v=>VRep X' sv v:=by
      intro h11
      obtain ⟨_,s6,h12,h13⟩:=Run.bind h11
      have b:=Run.put h12
      subst b
      obtain ⟨x1,m1⟩:=m0.lower (hB:=j) (r:=r) hA (e:=.sl H) (a:=a) (.inr ⟨H,g,rfl,hR⟩) (R:=.row (.sl H) a) (.inr rfl)
      rw [← Ctx.mv_cons] at x1 m1
      exact zmF z j c w K (σ:={ s5 with up:=(r,Root.row (.sl H) a)::s5.up }) (x0.trans x1) m1 h13 n A (I.ext x1) (VRep.ext x1 hvx0)
     obtain ⟨o,s6,h12,h13⟩:=Run.bind h11
     obtain ⟨b,ho⟩:=zwN h12
     subst b
     split at h13
     ·rename_i r2 a2
      obtain ⟨Z,g2,N,e4,e5⟩:=ho r2 a2 rfl
      injection N with N
      subst N e4
      rw [S,zbI] at e5
      rcases Run.ite h13 with ⟨hc,h14⟩|⟨_,h14⟩
      ·simp  at hc
       obtain ⟨hc1,hc2⟩:=hc
       subst hc1
       have hr2:r2≠r:=fun e=>by
        subst e
        simp at hc2
       have hR':X.μ r=.mat H a g:=by rw [hX] at hR;exact hR
       have hrep:=m.rep r hA
       rw [hR'] at hrep
       obtain ⟨d0,hd0,_⟩:=hrep
       exact zr4 (rs:=[r]) (d1:=d0) j m c w K S h14 n A (fun q hq=>by rw [List.mem_singleton.1 hq];exact ⟨hA,by rw [hR'];rfl⟩) (by simpa using hr2) hd0 (zEA m (by rw [hX] at I;exact I) hR' hd0) e5 hvx
      ·exact low h14
     ·exact low h13
    grind [zmF]
   grind [Run.fail]
 ·rename_i e kk hT hT2
  obtain ⟨E,i,c,w⟩:=zbC z hT
  simp only [c] at h
  obtain ⟨E',s1,h1,h2⟩:=Run.bind h
  obtain ⟨l,B⟩:=Run.pure h1
  subst l B
  obtain ⟨_,W,h3,h4⟩:=Run.bind h2
  obtain ⟨hg,b⟩:=Run.guard h3
  subst b
  simp  at hg
  exact zuJ z j m c w S hT hT2 hg.2 h4 n A hvs hvx
 grind [Run.fail]
end
end Go.SX
namespace Go.SX
open Go.RowKit (Below)
section
variable {C:FuncId→List D→Option (List D)} {k B0:Nat} {X:Ctx} {cx:Cx}
theorem Mem.rerow {e r a k d}(m:Mem B0 X) (A:B0≤X.w.heap.size) (j:X.A r) (g:X.μ r=.row e a) (B:a.get X.E=some d) (z:k.get X.E=some d) :
  Ext X { X with μ:=upd X.μ r (.row e k) }∧Mem B0 { X with μ:=upd X.μ r (.row e k) }:=by
 refine Mem.change m A (fun q=>q=r) (fun _ _ h=>h) (fun _ h=>h) (fun q h=>.inl h) (fun q f=>⟨upd_ne _ _ f,rfl⟩) (fun _ _ _=>rfl) (fun _ _ h=>h) ?_ ?_ ?_ (fun _ _ _=>rfl) ?_ ?_
 ·intro q b f _ o
  subst f
  simp only [upd_same] at o
  exact .inr ⟨q,rfl,j,by rw [g];exact o⟩
 ·omega
 ·intro q f _
  subst f
  have:=m.once q j
  rw [g] at this
  simp only [upd_same]
  exact this
 ·intro q f _ _
  subst f
  refine ⟨by rw [g];rfl,fun u v w y hd=>?_,fun u v g1 y=>?_⟩
  all_goals grind [Root.row?,upd_same,sameLen.refl]
 ·intro x q f _
  subst f
  simp only [upd_same]
  have p:=m.rep q j
  rw [g] at p
  obtain ⟨w,i,s⟩:=p
  rw [B] at i
  injection i with i
  subst i
  refine ⟨d,z,?_⟩
  rcases s with s|⟨b,c,F,G,l,H,I,J,K,L,M,t⟩
  ·grind
  ·exact .inr ⟨b,c,F,G,l,H,I,J,K,L,M.keep x.K,t⟩
theorem zDD {P w t e T A b}(a:P.underlying t=some (.slice e)):(Builtin.clear_ #[t] T #[.slice A 0 b]).run P w=.ok (.tuple #[]) w:=by
 cases A<;>simp [Builtin.clear_,za7 a]
theorem zuD (ty:TysOk cx) (hB:B0≤X.w.heap.size) (m:Mem B0 X) {t T e r a lo hi y z a' F s1 s2 J I}(hT:cx.T t=.sl e) (G:X.μ r=.row e a) (h1:Run (SX.X.op .sub [a,lo,hi]) X.μ F y s1)
  (h2:Run (SX.X.op (.clr e.zero) [y]) X.μ s1 z s2) (h3:Run (SX.X.op .cpyv [a,lo,hi,z]) X.μ s2 a' J) (hs:Sat C k X.E J.bs J.nv) {v} (U:Ref X (.h e r (some (lo,hi))) v) (h0:F.up=[]) (hup:I.up=(r,Root.row e a')::J.up) (hab:I.ab=J.ab) :
  Acts cx.P B0 X (Builtin.clear_ #[t] T #[v]) F I fun _ _=>True:=by
 obtain ⟨E,i,hu,tf⟩:=zbC ty hT
 obtain ⟨x,hz,_,hd⟩:=zl8 tf (w:=X.w)
 simp only [Ref] at U
 obtain ⟨_,W,U⟩:=U
 have hrep:=m.rep r W
 rw [G] at hrep
 obtain ⟨d,S,g2⟩:=hrep
 obtain ⟨a1,d1,f1,Z,f3⟩:=U (by rw [G];rfl)
 rw [G] at f1
 simp [Root.row?] at f1
 subst f1
 rw [S] at Z
 injection Z with Z
 subst Z
 obtain ⟨⟨u,vl,vh,yd,Y,q2,q3,q4,q5⟩,q6,q7⟩:=Run.op3 h1 (h2.sat (h3.sat hs))
 obtain ⟨⟨y',zd,K,p2,p3⟩,p4,p5⟩:=Run.op1 h2 (h3.sat hs)
 obtain ⟨⟨u',vl',vh',zd',od,L,M,V,N,O,o6⟩,o7,o8⟩:=Run.op4 h3 hs
 rw [S] at Y L
 rw [q5] at K
 rw [q2] at M
 rw [q3] at V
 rw [p3] at N
 injection Y with Y
 injection L with L
 injection K with K
 injection M with M
 injection V with V
 injection N with N
 subst Y L K M V N
 have habf:I.ab=F.ab:=by omega
 have same:od=d→∀ {A:Option Addr} {cap:Nat},v=.slice A 0 cap→Acts cx.P B0 X (Builtin.clear_ #[t] T #[v]) F I fun _ _=>True:=by
  intro he A cap hve
  subst he hve
  obtain ⟨x2,m2⟩:=m.rerow hB W G S o6
  exact ⟨_,X.w,{ X with μ:=upd X.μ r (.row e a') },zDD hu,⟨rfl,rfl,by grind [zca,zbI],fun q=>⟨fun h=>.inl h,fun h=>h.elim id fun h=>by omega⟩,x2,m2,Below.refl _ _⟩,trivial⟩
 rcases f3 with ⟨c1,c2,k1,k2,p,j⟩|⟨b,l,c1,c2,ad,cap,bs,k1,k2,f,g,p,j,c5,c6,c7,c8,c9,c10,c11⟩
 ·rw [q2] at p
  rw [q3] at j
  injection p with p
  injection j with j
  subst p j
  obtain ⟨A,hve⟩:=c2.val
  refine same ?_ hve
  rcases c2.em with h|h<;>subst h
  all_goals grind [Prim.run,D.els]
 ·rw [q2] at p
  rw [q3] at j
  injection p with p
  injection j with j
  subst p j c2
  have hc:(0:Int)≤Int.ofNat f∧Int.ofNat f≤Int.ofNat g∧Int.ofNat g≤(l.length:Int):=⟨by simp,by simpa using c5,by grind⟩
  simp only [Prim.run,if_pos hc] at q4
  injection q4 with q4
  have hyl:((l.take (Int.ofNat g).toNat).drop (Int.ofNat f).toNat).length=g - f:=by grind
  have hyd:zd=.sl (List.replicate (g - f) e.zero):=by grind [Prim.run]
  subst hyd
  have hod:od=.sl (l.take f++(List.replicate (g - f) e.zero++l.drop g)):=by
   have e1:(Int.ofNat g - Int.ofNat f).toNat=g - f:=by simp only [Int.ofNat_eq_natCast];omega
   simp only [Prim.run,D.els,if_pos hc,e1] at O
   injection O with O
   rw [← O]
   have e2:(List.replicate (g - f) e.zero).take (g - f)=List.replicate (g - f) e.zero:=List.take_of_length_le (by simp)
   rw [e2]
   simp
   rw [show f + (g - f)=g by omega]
  by_cases hij:f=g
  ·subst hij
   refine same ?_ (A:=some ad) (cap:=cap) (by rw [c7];simp)
   rw [hod]
   simp
  ·rcases g2 with ⟨H,_⟩|⟨b',c,te,fr,l',s,H,t2,t3,t4,t5,t6⟩
   ·grind
   ·rw [c1] at H
    injection H with H
    injection t2 with t2
    subst H t2
    rw [t4 trivial] at t3
    have hbs  := by
     simp [bsize,t3] at c9
     exact c9.symm
    have had:=c11 (.inl (by omega))
    subst had c7
    have hzl:=(hd X.w X.M).cells.length
    have hzl'  := by simpa using hzl
    have hfl:=znm x.cells.toList (g - f)
    have hxs:s.length≤c.toList.length:=by rw [← t6,wE0];omega
    have hjx:g * e.size≤s.length:=by rw [t5.length];exact vK0 _ c6
    have hsum:f * e.size + (g - f) * e.size=g * e.size:=by rw [← Nat.add_mul];congr 1;omega
    have hfit:f * e.size + (List.replicate (g - f) x.cells.toList).flatten.length≤s.length:=by
     rw [hfl,hzl,hsum];exact hjx
    have hpx:patch s (f * e.size) (List.replicate (g - f) x.cells.toList).flatten=s.take (f * e.size)++((List.replicate (g - f) x.cells.toList).flatten++s.drop (g * e.size)):=by
     unfold patch
     rw [hfl,hzl,hsum,vB0]
    have hnew:DRepA X.w X.M e (l.take f++(List.replicate (g - f) e.zero++l.drop g)) (patch s (f * e.size) (List.replicate (g - f) x.cells.toList).flatten):=by
     rw [hpx]
     exact (t5.take f).append ((ziF (hd X.w X.M).cells (g - f)).append (t5.drop g))
    obtain ⟨hmem,hw⟩:=m.rewrite hB W G c1 S (hod▸o6) (by simp;omega) t3 (c':=(patch c.toList (f * e.size) (List.replicate (g - f) x.cells.toList).flatten).toArray) (by simpa using zbB (Nat.le_trans hfit hxs)) hnew (by
     rw [zbB hfit,ziL hxs hfit,t6])
    exact ⟨_,_,_,(zvo (P:=cx.P) (w:=X.w) (T:=T) (o:=f * e.size) (n:=g - f) (cap:=cap) hu hz t3 (by rw [hzl',hsum];simp at hxs;omega) (hd X.w X.M).cells.ones),Nx.wrote (up:=[]) (Ext.refl X) m W hmem hw (by grind) habf,trivial⟩
theorem zvz (ty:TysOk cx) (hB:B0≤X.w.heap.size) (m:Mem B0 X) {t T s K A L}(n:A.up=[]) (h:Run (zuU cx t s) X.μ A K L) (hs:Sat C k X.E L.bs L.nv) {v}(hv:VRep X s v) :
  Acts cx.P B0 X (Builtin.clear_ #[t] T #[v]) A L fun p u=>VRep p K u:=by
 have fin:∀ {sf:SS},K=.un 1→Acts cx.P B0 X (Builtin.clear_ #[t] T #[v]) A sf (fun _ _=>True)→Acts cx.P B0 X (Builtin.clear_ #[t] T #[v]) A sf fun p u=>VRep p K u:=fun h ⟨u,w',p,i,l,_⟩=>⟨u,w',p,i,l,by grind [VRep]⟩
 unfold zuU at h
 split at h
 ·rename_i e e' r o
  obtain ⟨_,s1,i,l⟩:=Run.bind h
  obtain ⟨c,a⟩:=Run.guard i
  subst a
  simp  at c
  have b:=Ty.beq_eq c.1
  subst b
  obtain ⟨RR,s2,B,f⟩:=Run.bind l
  obtain ⟨d,a⟩:=Run.root B
  subst a
  rw [n,zbI] at d
  split at f
  ·obtain ⟨_,s3,q,x⟩:=Run.bind f
   obtain ⟨j,a⟩:=Run.guard q
   subst a
   have b:=Ty.beq_eq j
   subst b
   obtain ⟨a',s4,F,w⟩:=Run.bind x
   obtain ⟨_,s5,H,G⟩:=Run.bind w
   have a:=Run.put H
   obtain ⟨I,J⟩:=Run.pure G
   subst a
   subst I J
   exact fin rfl (zvX ty hB m o d.symm F hs hv n rfl rfl)
  grind [Run.fail]
 ·rename_i e e' r ix g o
  obtain ⟨_,s1,i,l⟩:=Run.bind h
  obtain ⟨c,a⟩:=Run.guard i
  subst a
  simp  at c
  have b:=Ty.beq_eq c.1
  subst b
  obtain ⟨RR,s2,B,f⟩:=Run.bind l
  obtain ⟨d,a⟩:=Run.root B
  subst a
  rw [n,zbI] at d
  split at f
  ·obtain ⟨_,s3,q,x⟩:=Run.bind f
   obtain ⟨j,a⟩:=Run.guard q
   subst a
   simp only [wD0] at j
   have b:=Ty.beq_eq j.1
   have hgg:=zbv j.2
   subst b hgg
   obtain ⟨y,s4,F,w⟩:=Run.bind x
   obtain ⟨y',s5,H,G⟩:=Run.bind w
   obtain ⟨a',s6,h11,h12⟩:=Run.bind G
   obtain ⟨_,s7,h13,h14⟩:=Run.bind h12
   have a:=Run.put h13
   obtain ⟨I,J⟩:=Run.pure h14
   subst a
   subst I J
   exact fin rfl (zvU ty hB m o d.symm F H h11 hs hv n rfl rfl)
  grind [Run.fail]
 ·rename_i e e' r lo hi o
  obtain ⟨_,s1,i,l⟩:=Run.bind h
  obtain ⟨c,a⟩:=Run.guard i
  subst a
  simp  at c
  have b:=Ty.beq_eq c.1
  subst b
  obtain ⟨RR,s2,B,f⟩:=Run.bind l
  obtain ⟨d,a⟩:=Run.root B
  subst a
  rw [n,zbI] at d
  split at f
  ·obtain ⟨_,s3,q,x⟩:=Run.bind f
   obtain ⟨j,a⟩:=Run.guard q
   subst a
   have b:=Ty.beq_eq j
   subst b
   obtain ⟨y,s4,F,w⟩:=Run.bind x
   obtain ⟨z,s5,H,G⟩:=Run.bind w
   obtain ⟨a',s6,h11,h12⟩:=Run.bind G
   obtain ⟨_,s7,h13,h14⟩:=Run.bind h12
   have a:=Run.put h13
   obtain ⟨I,J⟩:=Run.pure h14
   subst a
   subst I J
   exact fin rfl (zuD ty hB m o d.symm F H h11 hs hv n rfl rfl)
  grind [Run.fail]
 grind [Run.fail]
theorem zBB {P}(w) (h r q f) (g o e k) (a) (d l) (c) (t) (b) {i}
  (hu:P.underlying h=some (.slice f)) (hq:P.info? f=some i)
  (n:w.heap[g]?=some (.cells c t (0,0))) (hn:b.length=Nat.min d e * i.size)
  (p:∀ j v,b[j]?=some v→w.cell? (a.add j)=some v) (hfit:o + b.length≤c.size) (m:∀ v∈b,v.oneCell'=true) :
  (Builtin.copy_ #[h,r] q #[.slice (some ⟨g,o,none⟩) e k,.slice (some a) d l]).run P w =
   .ok (goInt (Nat.min d e)) (w.setRow g (patch c.toList o b).toArray):=by
 have hl:=run_loadCells_list (P:=P) w a b p
 have hst:=run_storeCells_at P g o t b 0 c w n (by omega) m
 simp_all [Builtin.copy_,run_underlying,Builtin.lenOf,Builtin.firstCells,sizeOf,typeInfo,patch]
theorem zow {P}(w) (c g j e) (A) (f h) (a) (d k) {i}(l:P.underlying c=some (.slice e)) (m:P.info? e=some i) (n:Nat.min d f=0) :
  (Builtin.copy_ #[c,g] j #[.slice A f h,.slice (some a) d k]).run P w=.ok (goInt 0) w:=by
 have b:=run_loadCells_list (P:=P) w a [] (by simp)
 cases A<;>simp [Builtin.copy_,run_underlying l,Builtin.lenOf,Builtin.firstCells,sizeOf,typeInfo,m,n,b,storeCells] at b ⊢<;>simp [b]
theorem run_copy_nil' {P}(w) (b c e a) (A) (f g) {i}(h:P.underlying b=some (.slice a)) (d:P.info? a=some i) :
  (Builtin.copy_ #[b,c] e #[.slice A f g,.slice none 0 0]).run P w=.ok (goInt 0) w:=by
 cases A<;>simp [Builtin.copy_,run_underlying h,Builtin.lenOf,Builtin.firstCells,sizeOf,typeInfo,d,storeCells]
theorem zrT (ty:TysOk cx) (hB:B0≤X.w.heap.size) (m:Mem B0 X) {t xt T e r a lo hi y s0 s' sv}(hT:cx.T t=.sl e) (hR:X.μ r=.row e a)
  (h:Run (zw9 e r a lo hi y) X.μ s0 sv s') (hs:Sat C k X.E s'.bs s'.nv) {v vx} (hv:Ref X (.h e r (some (lo,hi))) v) {sd} (hy:y.get X.E=some sd) (hsrc:Src X.w X.M e sd vx) (h0:s0.up=[]) :
  Acts cx.P B0 X (Builtin.copy_ #[t,xt] T #[v,vx]) s0 s' fun X' u=>VRep X' sv u:=by
 unfold zw9 at h
 obtain ⟨a',s1,h1,h2⟩:=Run.bind h
 obtain ⟨_,s2,h3,h4⟩:=Run.bind h2
 have es:=Run.put h3
 subst es
 obtain ⟨n,s3,h5,h6⟩:=Run.bind h4
 obtain ⟨kk,s4,h7,h8⟩:=Run.bind h6
 obtain ⟨j,s5,h9,h10⟩:=Run.bind h8
 obtain ⟨e1,e2⟩:=Run.pure h10
 subst e1 e2
 obtain ⟨E,i,hu,tf⟩:=zbC ty hT
 simp only [Ref] at hv
 obtain ⟨_,hA,hv⟩:=hv
 have hrep:=m.rep r hA
 rw [hR] at hrep
 obtain ⟨d,g1,g2⟩:=hrep
 obtain ⟨a1,d1,f1,f2,f3⟩:=hv (by rw [hR];rfl)
 rw [hR] at f1
 simp [Root.row?] at f1
 subst f1
 rw [g1] at f2
 injection f2 with f2
 subst f2
 obtain ⟨⟨u',vl',vh',zd',od,o1,o2,o3,o4,o5,o6⟩,o7,o8⟩:=Run.op4 h1 (h5.sat (h7.sat (h9.sat hs)))
 obtain ⟨⟨nl,nh,nd,n1,n2,n3,n4⟩,n5,n6⟩:=Run.op2 h5 (h7.sat (h9.sat hs))
 obtain ⟨⟨kl,kd,k1,k2,k3⟩,k4,k5⟩:=Run.op1 h7 (h9.sat hs)
 obtain ⟨⟨jl,jh,jd,j1,j2,j3,j4⟩,j5,j6⟩:=Run.op2 h9 hs
 rw [g1] at o1
 rw [hy] at o4 k1
 rw [o2] at n1
 rw [o3] at n2
 rw [k3] at j1
 rw [n4] at j2
 injection o1 with o1
 injection o4 with o4
 injection n1 with n1
 injection n2 with n2
 injection k1 with k1
 injection j1 with j1
 injection j2 with j2
 subst o1 o4 n1 n2 k1 j1 j2
 have habf:s'.ab=s0.ab:=by grind
 have same:od=d→∀ {A:Option Addr} {len cap:Nat} {mn:Nat},v=.slice A len cap→(Builtin.copy_ #[t,xt] T #[.slice A len cap,vx]).run cx.P X.w=.ok (goInt mn) X.w→jd=.int .i64 (Int.ofNat mn)→Acts cx.P B0 X (Builtin.copy_ #[t,xt] T #[v,vx]) s0 s' fun X' u=>VRep X' (.d (.int .i64) j) u:=by
  intro he A len cap mn hve hrun hjd
  subst he hve hjd
  obtain ⟨x2,m2⟩:=m.rerow hB hA hR g1 o6
  exact ⟨_,X.w,{ X with μ:=upd X.μ r (.row e a') },hrun,⟨rfl,rfl,by grind [zca,zbI],fun q=>⟨fun h=>.inl h,fun h=>h.elim id fun h=>by omega⟩,x2,m2,Below.refl _ _⟩,VRep.data.2 ⟨_,j4,DVal.of_int _ _⟩⟩
 have hslen:∃ sl,sd.els=some sl∧kd=.int .i64 sl.length:=by
  rcases hsrc with ⟨c1,_⟩|⟨l2,ys,ad,cap,c1,_⟩<;>subst c1
  ·exact ⟨[],rfl,by grind [Prim.run]⟩
  ·exact ⟨l2,rfl,by grind [Prim.run]⟩
 obtain ⟨sl,hsl,hkd⟩:=hslen
 subst hkd
 rcases f3 with ⟨c1,c2,q1,q2,c3,c4⟩|⟨b,l,c1,c2,ad,cap,bs,q1,q2,i',j',c3,c4,c5,c6,c7,c8,c9,c10,c11⟩
 ·rw [o2] at c3
  rw [o3] at c4
  injection c3 with c3
  injection c4 with c4
  subst c3 c4
  obtain ⟨A,hve⟩:=c2.val
  have hnd:nd=.int .i64 0:=by grind [Prim.run]
  subst hnd
  have hjd:jd=.int .i64 (Int.ofNat 0):=by
   simp only [Prim.run] at j3
   grind
  have hod:od=d:=by
   simp only [Prim.run,hsl] at o5
   rcases c2.em with h|h<;>subst h<;>simp [D.els] at o5<;>exact o5.symm
  refine same hod (mn:=0) hve ?_ hjd
  rcases hsrc with ⟨_,w2⟩|⟨l2,ys,ad2,cap2,_,w2,_⟩
  ·subst w2
   exact run_copy_nil' X.w t xt T E A 0 0 hu tf.info
  ·subst w2
   exact zow X.w t xt T E A 0 0 ad2 _ _ hu tf.info (Nat.min_zero _)
 ·rw [o2] at c3
  rw [o3] at c4
  injection c3 with c3
  injection c4 with c4
  subst c3 c4 c2
  have hc:(0:Int)≤Int.ofNat i'∧Int.ofNat i'≤Int.ofNat j'∧Int.ofNat j'≤(l.length:Int):=⟨by simp,by grind,by grind⟩
  have e1:(Int.ofNat j' - Int.ofNat i').toNat=j' - i':=by simp
  have hnd:nd=.int .i64 (Int.ofNat (j' - i')):=by grind [Prim.run]
  subst hnd
  have hjd:jd=.int .i64 (Int.ofNat (Nat.min sl.length (j' - i'))):=by grind [Prim.run]
  have hod:od=.sl (l.take i'++(sl.take (j' - i')++l.drop (i' + (sl.take (j' - i')).length))):=by
   have hsd:sd=.nil∧sl=[]∨sd=.sl sl:=by
    rcases hsrc with ⟨w1,_⟩|⟨l2,ys,ad,cap,w1,_⟩
    ·subst w1;simp [D.els] at hsl;grind
    grind [D.els]
   rcases hsd with ⟨w1,w2⟩|w1<;>subst w1<;>try subst w2
   all_goals
    simp only [Prim.run,D.els,if_pos hc,e1] at o5
    injection o5 with o5
    rw [← o5]
    simp
  have hml:(sl.take (j' - i')).length=Nat.min sl.length (j' - i'):=by grind
  by_cases hz:Nat.min sl.length (j' - i')=0
  ·have hno:sl.take (j' - i')=[]:=List.eq_nil_of_length_eq_zero (by omega)
   refine same ?_ (A:=some ad) (mn:=0) c7 ?_ (by grind)
   ·simp_all
   ·rcases hsrc with ⟨_,w2⟩|⟨l2,ys,ad2,cap2,w1,w2,_⟩
    ·subst w2
     exact run_copy_nil' X.w t xt T E _ _ _ hu tf.info
    ·subst w1 w2
     simp only [D.els,wB0] at hsl
     subst hsl
     exact zow X.w t xt T E _ _ _ ad2 _ _ hu tf.info hz
  ·rcases hsrc with ⟨w1,_⟩|⟨l2,ys,ad2,cap2,w1,w2,w3,w4⟩
   ·subst w1
    simp only [D.els,wB0] at hsl
    subst hsl
    exact absurd (Nat.zero_min _) hz
   ·subst w1 w2
    simp only [D.els,wB0] at hsl
    subst hsl
    have hij:i'<j':=by
     rcases vS0 i' j' with h|h
     ·exact h
     ·exfalso
      apply hz
      rw [show j' - i'=0 by omega]
      exact Nat.min_zero _
    rcases g2 with ⟨t1,_⟩|⟨b',c,te,fr,l',xs,t1,t2,t3,t4,t5,t6⟩
    ·rw [c1] at t1;cases t1
    ·rw [c1] at t1
     injection t1 with t1
     injection t2 with t2
     subst t1 t2
     rw [t4 trivial] at t3
     have hbs  := by
      simp only [bsize,t3,wB0] at c9
      exact c9.symm
     subst hbs
     have had:=c11 (.inl (by omega))
     subst had c7
     generalize hmn:Nat.min l2.length (j' - i')=mn at *
     have hmn1:mn≤l2.length:=by rw [← hmn];exact Nat.min_le_left _ _
     have hmn2:mn≤j' - i':=by rw [← hmn];exact Nat.min_le_right _ _
     have htk:l2.take (j' - i')=l2.take mn:=by
      rw [← hmn]
      rcases Nat.le_total l2.length (j' - i') with h|h
      ·rw [show Nat.min l2.length (j' - i')=l2.length from vV0 h,List.take_of_length_le h,List.take_length]
      ·rw [show Nat.min l2.length (j' - i')=j' - i' from Nat.min_eq_right h]
     have hxl:=t5.length
     have hyl:=w3.length
     have hcl:(ys.take (mn * e.size)).length=mn * e.size:=by
      rw [wE0,hyl,vV0 (vK0 _ hmn1)]
     have hxs:xs.length≤c.toList.length:=by rw [← t6,wE0];omega
     have hsum:i' * e.size + mn * e.size=(i' + mn) * e.size:=by rw [← Nat.add_mul]
     have hfit:i' * e.size + (ys.take (mn * e.size)).length≤xs.length:=by
      rw [hcl,hsum,hxl]
      exact vK0 _ (by omega)
     have hrun:=zBB (P:=cx.P) X.w t xt T E b (i' * e.size) (j' - i') cap ad2 l2.length cap2 c te (ys.take (mn * e.size)) hu tf.info t3 (by rw [hcl,hmn,tf.size]) (fun q u hq=>by
      rw [List.getElem?_take] at hq
      split at hq
      ·exact w4 q u hq
      ·cases hq) (by simp at hxs;omega) (fun u hu=>(w3.ones u (List.mem_of_mem_take hu)).one)
     rw [hmn] at hrun
     have hpx:patch xs (i' * e.size) (ys.take (mn * e.size))=xs.take (i' * e.size)++(ys.take (mn * e.size)++xs.drop ((i' + mn) * e.size)):=by
      unfold patch
      rw [hcl,hsum,vB0]
     have hnew:DRepA X.w X.M e (l.take i'++(l2.take mn++l.drop (i' + mn))) (patch xs (i' * e.size) (ys.take (mn * e.size))):=by
      rw [hpx]
      exact (t5.take i').append ((w3.take mn).append (t5.drop (i' + mn)))
     have hod':od=.sl (l.take i'++(l2.take mn++l.drop (i' + mn))):=by
      rw [hod,htk,wE0,vV0 hmn1]
     obtain ⟨hmem,hw⟩:=m.rewrite hB hA hR c1 g1 (hod'▸o6) (by simp;omega) t3 (c':=(patch c.toList (i' * e.size) (ys.take (mn * e.size))).toArray) (by simpa using zbB (Nat.le_trans hfit hxs)) hnew (by
      rw [zbB hfit,ziL hxs hfit,t6])
     refine ⟨_,_,_,hrun,Nx.wrote (up:=[]) (Ext.refl X) m hA hmem hw (by grind) habf,VRep.data.2 ⟨_,j4,?_⟩⟩
     rw [hjd]
     exact DVal.of_int _ _
theorem zEx (ty:TysOk cx) (K:B0≤X.w.heap.size) (m:Mem B0 X) {t L T s x sv s0 s'}(h0:s0.up=[]) (h:Run (zx4 cx t s x) X.μ s0 sv s') (A:Sat C k X.E s'.bs s'.nv) {vs vx}(B:VRep X s vs) (hvx:VRep X x vx) :
  Acts cx.P B0 X (Builtin.copy_ #[t,L] T #[vs,vx]) s0 s' fun w u=>VRep w sv u:=by
 unfold zx4 at h
 split at h
 ·rename_i e R q n r hT
  obtain ⟨E,i,hu,tf⟩:=zbC ty hT
  obtain ⟨_,s1,Q,W⟩:=Run.bind h
  obtain ⟨p,f⟩:=Run.guard Q
  subst f
  simp only [wD0] at p
  have he:=Ty.beq_eq p.1.1.1
  have heR:=Ty.beq_eq p.1.1.2
  have O:=zbv p.1.2
  subst he heR
  obtain ⟨y,s2,P,N⟩:=Run.bind W
  obtain ⟨RR,s3,U,h6⟩:=Run.bind N
  obtain ⟨o,f⟩:=Run.root U
  subst f
  split at h6
  ·rename_i R' T' a
   obtain ⟨_,s4,h7,Y⟩:=Run.bind h6
   obtain ⟨hg2,f⟩:=Run.guard h7
   subst f
   simp  at hg2
   have e1:=Ty.beq_eq hg2.1
   have e2:=Ty.beq_eq hg2.2
   subst e1 e2
   obtain ⟨v,s5,h9,h10⟩:=Run.bind Y
   obtain ⟨_,s6,h11,h12⟩:=Run.bind h10
   have f:=Run.put h11
   obtain ⟨e1,e2⟩:=Run.pure h12
   subst f
   subst e1 e2
   obtain ⟨F,u2,d,V,hdv⟩:=zna K m h0 P (h9.sat A) hvx
   obtain ⟨⟨da,dy,dn,q1,G,S,q4⟩,q5,q6⟩:=Run.op2 h9 A
   rw [V] at G
   injection G with G
   subst G
   simp only [VRep,Ref] at B
   obtain ⟨hA,_,_,b,hb,hve⟩:=B
   subst hve
   rw [F,zbI] at o
   have o:=o.symm
   have hrep:=m.rep r hA
   rw [o] at hrep
   obtain ⟨b',c,te,w1,w2,_,w4⟩:=hrep
   rw [hb] at w1
   injection w1 with w1
   subst w1
   simp only [CRep] at w4
   obtain ⟨dd,y1,y2⟩:=w4
   rw [q1] at y1
   injection y1 with y1
   subst y1
   cases da<;>simp only [DRep] at y2
   rename_i l
   obtain ⟨hln,y2⟩:=y2
   have hcl:c.toList.length=n:=by rw [y2.length,O,hln,Nat.mul_one]
   have hmem:b∈(X.μ r).own (X.β r):=by grind [Root.own]
   have size1:(cx.P.info? E).map (·.size)=some 1:=by rw [tf.info];simp [tf.size,O]
   have fin:∀ {c':Array Value} {u:Value},c'.size=c.size→DRep X.w X.M (.arr n q) dn c'.toList→(Builtin.copy_ #[t,L] T #[.slice (some ⟨b,0,none⟩) n n,vx]).run cx.P X.w=.ok u (X.w.setRow b c') →
     Acts cx.P B0 X (Builtin.copy_ #[t,L] T #[.slice (some ⟨b,0,none⟩) n n,vx]) s1 { s5 with up:=(r,Root.box (.arr n q) (.d (.arr n q) v))::s5.up } fun w u=>VRep w (.un 1) u:=by
    intro c' u f1 H f3
    have hw:=m.write (hnl:=by grind) K (c':=c') (R:=.box (.arr n q) (.d (.arr n q) v)) hA hmem w2 f1 (by rw [o];rfl) (fun _=>⟨by rw [o];rfl,fun e a d hr=>(by rw [o] at hr;cases hr),fun e a g hr=>(by simp only [Ctx.wrote,upd_same] at hr;grind)⟩)
     (fun x=>⟨b,_,te,hb,setRow_heap _ _ _ _ _ _ w2,rfl,by simp only [CRep];exact ⟨dn,q4,H.keep x.K⟩⟩)
    exact ⟨_,_,_,f3,Nx.wrote (up:=[]) (Ext.refl X) m hA hmem hw (by grind) (q6.trans u2),by simp [VRep]⟩
   rcases (Src.of hdv fun _ _ h=>h.flat (p.2)) with ⟨g1,g2⟩|⟨M,ys,ad,cap,g1,g2,g3,g4⟩
   ·subst g1 g2
    simp [Prim.run,D.els] at S
    subst S
    refine fin (c':=c) (u:=goInt 0) rfl (by grind [DRep]) ?_
    grind [setRow_self,run_copy_nil]
   ·subst g1 g2
    simp [Prim.run,D.els] at S
    subst S
    have hyl:ys.length=M.length:=by rw [g3.length,O,Nat.mul_one]
    have hmin:(ys.take n).length=Nat.min M.length n:=by grind
    have hrun:=run_copy_row cx.P X.w t L T E b 0 n n ad M.length cap c te (ys.take n) hu size1 w2 hmin (fun j v hj=>by grind) (by grind) (fun v hv=>(g3.ones v (List.mem_of_mem_take hv)).one)
    refine fin ?_ ?_ hrun
    ·grind
    ·simp only [DRep,List.take_zero,List.nil_append,vA0,hln]
     refine ⟨by grind,?_⟩
     have t1:=g3.take n
     rw [O,Nat.mul_one] at t1
     refine t1.append ?_
     by_cases hle:M.length≤n
     ·rw [show (ys.take n).length=M.length by grind]
      have t2:=y2.drop M.length
      rw [O,Nat.mul_one] at t2
      omega
     grind [List.drop_eq_nil_of_le,DRepA]
  grind [Run.fail]
 ·rename_i e q r lo hi hT
  obtain ⟨_,s1,Q,W⟩:=Run.bind h
  obtain ⟨p,f⟩:=Run.guard Q
  subst f
  simp  at p
  have he:=Ty.beq_eq p.1
  subst he
  obtain ⟨y,s2,P,N⟩:=Run.bind W
  obtain ⟨a,s3,U,h6⟩:=Run.bind N
  obtain ⟨f,o⟩:=zfn U
  subst f
  have hs3:Sat C k X.E s3.bs s3.nv:=h6.sat A
  obtain ⟨F,u2,d,V,hdv⟩:=zna K m h0 P hs3 hvx
  rw [F,zbI] at o
  simp only [VRep] at B
  have:=zrT (xt:=L) (T:=T) ty K m hT o h6 A B V (Src.of hdv fun _ _ h=>h.flat p.2) F
  obtain ⟨v,w',w,p1,p2,p3⟩:=this
  exact ⟨v,w',w,p1,u2▸p2,p3⟩
 ·rename_i e q r hT
  obtain ⟨_,s1,Q,W⟩:=Run.bind h
  obtain ⟨p,f⟩:=Run.guard Q
  subst f
  simp  at p
  have he:=Ty.beq_eq p.1
  subst he
  obtain ⟨y,s2,P,N⟩:=Run.bind W
  obtain ⟨a,s3,U,h6⟩:=Run.bind N
  obtain ⟨f,o⟩:=zfn U
  subst f
  obtain ⟨n,s4,h7,Y⟩:=Run.bind h6
  obtain ⟨F,u2,d,V,hdv⟩:=zna K m h0 P (h7.sat (Y.sat A)) hvx
  rw [F,zbI] at o
  obtain ⟨⟨ad,nd,q1,G,S⟩,q4,q5⟩:=Run.op1 h7 (Y.sat A)
  have hvs':Ref X (.h q r (some (i64c 0,n))) vs:=by
   refine ⟨B.1,B.2.1,fun ht=>?_⟩
   obtain ⟨a1,d1,f1,H,f3⟩:=B.2.2 ht
   refine ⟨a1,d1,f1,H,?_⟩
   rw [o] at f1
   simp [Root.row?] at f1
   subst f1
   rw [q1] at H
   injection H with H
   subst H
   rcases f3 with ⟨c1,c2,_⟩|⟨b,l,c1,c2,cap,bs,c3,c4,c5,c6⟩
   ·refine .inl ⟨c1,c2,.i64,.i64,rfl,?_⟩
    rw [c2.em.len] at G
    grind
   ·subst c2
    simp [Prim.run] at G
    exact .inr ⟨b,l,c1,rfl,⟨b,0,none⟩,cap,bs,.i64,.i64,0,l.length,rfl,by grind,Nat.zero_le _,wG0 _,by omega,by omega,c5,by grind,fun _=>by simp⟩
  have:=zrT (xt:=L) (T:=T) ty K m hT o Y A hvs' V (Src.of hdv fun _ _ h=>h.flat p.2) (q4.trans F)
  obtain ⟨v,w',w,p1,p2,p3⟩:=this
  exact ⟨v,w',w,p1,(q5.trans u2)▸p2,p3⟩
 grind [Run.fail]
end
end Go.SX
namespace Go.SX
open Go.RowKit (Below)
def DVals (w:World) (M:Nat→Prop):List Ty→List D→List Value→Prop
 | [],[],[]=>True
 | T::Ts,d::ds,v::vs=>DVal w M T d v∧DVals w M Ts ds vs
 | _,_,_=>False
theorem DVal.keep {w b M a}(K:Keeps w b M a) {T d v}(h:DVal w M T d v):DVal b a T d v:=by
 unfold DVal at h ⊢
 split
 ·rename_i c;rw [if_pos c] at h;obtain ⟨f,g,e⟩:=h;exact ⟨f,g,e.keep K⟩
 ·rename_i c;rw [if_neg c] at h;exact ⟨h.1,h.2.keep K⟩
theorem DVals.keep {w a M b}(K:Keeps w a M b):∀ {c}{d}{e},DVals w M c d e→DVals a b c d e
 | [],[],[],h=>h
 | _::_,_::_,_::_,h=>⟨h.1.keep K,DVals.keep K h.2⟩
 | [],[],_::_,h|[],_::_,_,h|_::_,[],_,h|_::_,_::_,[],h=>h
theorem DVal.flat {w w' M M' T d v}(a:T.flat=true) (h:DVal w M T d v):DVal w' M' T d v:=by
 unfold DVal at h ⊢
 split
 ·rename_i c;rw [if_pos c] at h;obtain ⟨e,f,b⟩:=h;exact ⟨e,f,b.flat a⟩
 ·rename_i c;rw [if_neg c] at h;exact ⟨h.1,h.2.flat a⟩
theorem DVals.flat {w w' M M'}:∀ {a}{c}{e},Ty.flatL a=true→DVals w M a c e→DVals w' M' a c e
 | [],[],[],_,h=>h
 | T::a,d::c,v::e,b,h=>by
  simp [Ty.flatL] at b
  exact ⟨h.1.flat b.1,DVals.flat b.2 h.2⟩
 | [],[],_::_,_,h|[],_::_,_,_,h|_::_,[],_,_,h|_::_,_::_,[],_,h=>h
def zqF:List Value→Value
 | [u]=>u
 | us=>.tuple us.toArray
def zIC (w:World) (M:Nat→Prop) (Ts:List Ty) (ds:List D) (v:Value):Prop :=
 ∃ vs,DVals w M Ts ds vs∧v=zqF vs
def CallsOk (cx:Cx) (C:FuncId→List D→Option (List D)):Prop :=
 ∀ (f:FuncId) (fn:Func) (ds rs:List D),cx.P.funcs[f]?=some fn→zlu fn=true→zv3 cx f fn=true→C f ds=some rs →
  ∀ (w:World) (args:Array Value) (M:Nat→Prop),(∀ b,M b→b<w.heap.size)→DVals w M (zcM cx fn) ds args.toList →
   Calls cx.P f args w fun e w'=>∃ v,e=.returned v∧Below w.heap.size w w'∧zIC w' M (zhA cx fn) rs v
section
variable {C:FuncId→List D→Option (List D)} {k B0:Nat} {X:Ctx} {cx:Cx}
theorem zpM (t:B0≤X.w.heap.size) {o}:∀ {l}{n}{σ b}{f}{c},Run (SV.viewL o n l) X.μ σ f b→Sat C k X.E b.bs b.nv→Mem B0 (X.mv σ.up)→VRepL (X.mv σ.up) l c →
  Ext (X.mv σ.up) (X.mv b.up)∧Mem B0 (X.mv b.up)∧(o=false→b.up=σ.up)∧b.ab=σ.ab∧∃ j,gets X.E f=some j∧DVals X.w (seen o (X.mv b.up)) n j c
 | [],[],σ,b,f,c,h,i,m,g=>by
  obtain ⟨p,q⟩:=Run.pure h
  subst p q
  subst g
  exact ⟨Ext.refl _,m,fun _=>rfl,rfl,[],rfl,trivial⟩
 | s::l,T::n,σ,b,f,c,h,i,m,g=>by
  obtain ⟨a,s1,J,F⟩:=Run.bind h
  obtain ⟨as',s2,w,z⟩:=Run.bind F
  obtain ⟨p,q⟩:=Run.pure z
  subst p q
  obtain ⟨v,r,ev,A,B⟩:=g
  subst ev
  obtain ⟨u,G,f1,b1,d,H,I⟩:=zjd t J (w.sat i) m A
  obtain ⟨x,K,f2,b2,j,L,y⟩:=zpM t w i G (SX.VRepL.ext u B)
  exact ⟨u.trans x,K,fun e=>by grind,by omega,d::j,zk3 H L,I.keep (seen_keeps x rfl),y⟩
 | [],_::_,σ,b,f,c,h,i,m,g=>by grind [SV.viewL,Run.fail]
 | _::_,[],σ,b,f,c,h,i,m,g=>by grind [SV.viewL,Run.fail]
theorem zpX {X}:∀ {b}{e}{a}{n},DVals X.w X.M b e a→(∀ (j) (d),e[j]?=some d→X.E[n + j]?=some d)→VRepL X (frozen b n) a
 | [],[],[],n,_,_=>by rfl
 | T::b,d::ds,v::a,n,h,c=>by
  refine ⟨v,a,rfl,VRep.data.2 ⟨d,c 0 d rfl,h.1⟩,zpX h.2 fun j f hj=>?_⟩
  have:=c (j + 1) f (by grind)
  grind
 | [],[],_::_,_,h,_|[],_::_,_,_,h,_|_::_,[],_,_,h,_|_::_,_::_,[],_,h,_=>h.elim
theorem DVals.len {w M}:∀ {a}{c}{b},DVals w M a c b→b.length=a.length
 | [],[],[],_=>rfl
 | T::a,d::c,v::b,h=>by simp [DVals.len h.2]
 | [],[],_::_,h|[],_::_,_,h|_::_,[],_,h|_::_,_::_,[],h=>h.elim
theorem VRepL.length {X}:∀ {l}{vs},VRepL X l vs→vs.length=l.length
 | [],vs,h=>by grind [VRepL]
 | s::l,vs,h=>by
  obtain ⟨v,r,e,_,a⟩:=h
  simp [e,VRepL.length a]
theorem zzK {X l a}(h:VRepL X l a):VRep X (zGf l) (zqF a):=by
 unfold zGf zqF
 split
 ·grind [VRepL]
 ·split
  ·match l,(VRepL.length h) with
   | [s],_=>grind
  grind [VRep]
theorem zvN (hC:CallsOk cx C) (t:B0≤X.w.heap.size) (m:Mem B0 X) {f d J sv l o}(B:l.up=[]) (h:Run (zCw cx f d J) X.μ l sv o) (F:Sat C k X.E o.bs o.nv)
  (hf:cx.P.funcs[f]?=some d) (hcan:zlu d=true) (hdat:zv3 cx f d=true) {p} (hv:VRepL X J p.toList) :
  Calls cx.P f p X.w fun e a=>∃ v,e=.returned v∧∃ j,Nx B0 X j o.up l.ab o.ab a∧VRep j sv v:=by
 obtain ⟨as,c,h1,h2⟩:=Run.bind h
 obtain ⟨x,s2,G,h4⟩:=Run.bind h2
 obtain ⟨e1,e2⟩:=Run.pure h4
 subst e1 e2
 obtain ⟨ex,N⟩:=Run.call G
 have hs1  := G.sat F
 rw [N] at F
 obtain ⟨n,en,⟨vs',L,r,c2,c3,c4⟩,_⟩:=F
 have:n=c.nv:=by grind [Bd.outs]
 subst this
 subst ex N
 obtain ⟨x1,H,hup,hab,I,hds,s⟩:=zpM t h1 hs1 (by rw [B];exact m) (by rw [B];exact hv)
 have hX:X.mv l.up=X:=by rw [B];rfl
 rw [hX] at x1
 rw [hds] at r
 injection r with r
 subst r
 have K:∀ (M:Nat→Prop),(∀ b,M b→b<X.w.heap.size)→DVals X.w M (zcM cx d) I p.toList→(∀ a u i,DVals a M (zhA cx d) u i→Keeps X.w a (X.mv c.up).M (X.mv c.up).M→DVals a (X.mv c.up).M (zhA cx d) u i) →
   Calls cx.P f p X.w fun e a=>∃ v,e=.returned v∧∃ j,Nx B0 X j c.up l.ab c.ab a∧VRep j (zGf (frozen (zhA cx d) c.nv)) v:=by
  intro M hM hdM hres
  refine (hC f d I L hf hcan hdat c2 X.w p M hM hdM).mono fun e a ⟨v,he,y,i,hus,hvu⟩=>?_
  refine ⟨v,he,?_⟩
  obtain ⟨x2,m2⟩:=H.world (X:=X.mv c.up) t y
  refine ⟨{ X.mv c.up with w:=a },⟨rfl,rfl,rfl,fun q=>⟨fun h=>.inl h,fun h=>h.elim id fun h=>by omega⟩,x1.trans x2,m2,y.mono t⟩,?_⟩
  rw [hvu]
  exact zzK (zpX (X:={ X.mv c.up with w:=a }) (hres a L i hus x2.K) c4)
 cases z:Ty.flatL (zhA cx d) with
 | true =>
  rw [z] at s
  exact K (fun _=>False) (fun _ h=>h.elim) s fun a u i h _=>h.flat z
 | false =>
  rw [z] at s
  exact K (X.mv c.up).M (fun b y=>H.lt' (X:=X.mv c.up) t y) s fun a u i h _=>h
end
end Go.SX
namespace Go.SX
section
variable {cx:Cx} {w:World} {M:Nat→Prop}
def EqD (cx:Cx) (w:World) (M:Nat→Prop) (dd:Nat) (t:TypeId):Prop :=
 ∀ d d' v v',DVal w M (cx.T t) d v→DVal w M (cx.T t) d' v'→(Op.equalIn dd t v v').run cx.P w=.ok (d.beq d') w
theorem zlW {l a b:List Value}{n m}(h:l.drop n=a++b) (c:a.length=m):(l.drop n).take m=a∧l.drop (n + m)=b:=by
 constructor
 ·grind
 ·rw [← List.drop_drop,h,← c];simp
theorem ztj (o:TysOk cx) {dd e j}:∀ {fs}{n}{a c},ziM cx.T fs n=true→(∀ f∈fs,f.name ≠ "_" ∧ (cx.T f.type).known=true∧EqD cx w M dd f.type) →
  DRepL w M (fs.map fun f=>cx.T f.type) a (e.toList.drop n)→DRepL w M (fs.map fun f=>cx.T f.type) c (j.toList.drop n)→(Op.eqFields dd e j fs).run cx.P w=.ok (D.beqL a c) w
 | [],n,a,c,_,_,h,l=>by
  cases a<;>cases c<;>simp [DRepL] at h l
  rfl
 | f::fs,n,a,c,k,q,h,l=>by
  cases a with
  | nil=>grind [DRepL]
  | cons d a =>
   cases c with
   | nil=>grind [DRepL]
   | cons m c =>
    obtain ⟨c1,c2,s,t,u⟩:=h
    obtain ⟨c1',c2',x,y,z⟩:=l
    obtain ⟨A,B,F⟩:=q f (by simp)
    obtain ⟨i,p⟩:=o.get (T:=cx.T f.type) rfl (zdd B)
    simp only [ziM,wD0] at k
    obtain ⟨a1,H⟩:=zlW s t.length
    obtain ⟨b1,I⟩:=zlW x y.length
    obtain ⟨v,J,v1⟩:=zgD (w:=w) (M:=M) p (cs:=e) (off:=n) (d:=d) (by grind)
    obtain ⟨v',r2,v2⟩:=zgD (w:=w) (M:=M) p (cs:=j) (off:=n) (d:=m) (by grind)
    have ih:=ztj o (dd:=dd) (fs:=fs) k.2 (fun g hg=>q g (by grind)) (by rw [H];exact u) (by rw [I];exact z)
    simp [Op.eqFields,A,(zbv k.1),J,r2,(F d m v v' v1 v2)]
    simp only [D.beqL]
    cases d.beq m
    all_goals simp_all
theorem zwJ (o:TysOk cx) {j t i}(b:TyFact cx t (cx.T t) i) (l:EqD cx w M j t) {e c}:∀ {m n}{ds ds'},ds.length=m→ds'.length=m →
  DRepA w M (cx.T t) ds (e.toList.drop (n * (cx.T t).size))→DRepA w M (cx.T t) ds' (c.toList.drop (n * (cx.T t).size))→(Op.eqItems j t (cx.T t).size e c (List.range' n m)).run cx.P w=.ok (D.beqL ds ds') w
 | 0,n,ds,ds',p,s,h,k=>by simp_all [Op.eqItems,D.beqL]
 | m + 1,n,ds,ds',p,s,h,k=>by
  cases ds with
  | nil=>grind
  | cons d ds =>
   cases ds' with
   | nil=>grind
   | cons f ds' =>
    obtain ⟨c1,c2,u,x,g2⟩:=h
    obtain ⟨c1',c2',y,z,g2'⟩:=k
    obtain ⟨a1,A⟩:=zlW u x.length
    obtain ⟨b1,B⟩:=zlW y z.length
    obtain ⟨v,F,G⟩:=zgD (w:=w) (M:=M) b (cs:=e) (off:=n * (cx.T t).size) (d:=d) (by grind)
    obtain ⟨H,I,J⟩:=zgD (w:=w) (M:=M) b (cs:=c) (off:=n * (cx.T t).size) (d:=f) (by grind)
    have g:(n + 1) * (cx.T t).size=n * (cx.T t).size + (cx.T t).size:=by grind
    have ih:=zwJ o b l (m:=m) (n:=n + 1) (ds:=ds) (ds':=ds') (by grind) (by grind) (by rw [g,A];omega) (by rw [g,B];omega)
    rw [List.range'_succ]
    simp [Op.eqItems,F,I,(l d f v H G J)]
    simp only [D.beqL]
    cases d.beq f
    all_goals simp_all
theorem zCR (p:TysOk cx) (d):∀ (m) (t),eqOk cx m t=true→(cx.T t).known=true→EqD cx w M (d + m) t
 | 0,_,h,_=>by grind [eqOk]
 | m + 1,t,h,o=>by
  intro x y v v' b a
  obtain ⟨i,N⟩:=p.get (T:=cx.T t) rfl (zdd o)
  have c:=N.desc
  rw [show d + (m + 1)=(d + m) + 1 from rfl]
  cases l:cx.T t with
  | no=>grind [Ty.known]
  | int k =>
   rw [l] at b a c
   obtain ⟨u,rfl,rfl⟩:=b.int
   obtain ⟨r,rfl,rfl⟩:=a.int
   rw [run_equalIn_int w (d + m) t k k u r c]
   simp [D.beq]
   rfl
  | bool =>
   rw [l] at b a c
   obtain ⟨u,rfl,rfl⟩:=b.bool
   obtain ⟨r,rfl,rfl⟩:=a.bool
   rw [run_equalIn_bool' w (d + m) t u r c]
   rfl
  | str =>
   rw [l] at b a c
   have q:cx.P.underlying t=some .string:=c
   obtain ⟨u,rfl,rfl⟩:=b.str
   obtain ⟨r,rfl,rfl⟩:=a.str
   grind [run_equalIn_string,D.beq,ByteArray.toList_eq]
  | sl e =>
   rw [l] at c
   obtain ⟨E,q,_⟩:=c
   grind [eqOk]
  | st Ts =>
   rw [l] at b a c
   obtain ⟨H,q,hTs,I⟩:=c
   simp only [eqOk,q,wD0,Bool.not_eq_true'] at h
   obtain ⟨z,rfl,b⟩:=b
   obtain ⟨B,rfl,a⟩:=a
   have K:cx.P.fieldsOf t=H:=by grind [Program.fieldsOf]
   rw [run_equalIn_struct w (d + m) t z B (by grind) h.1,K]
   cases x<;>simp only [DRep] at b
   cases y<;>simp only [DRep] at a
   rw [l] at o
   refine ztj p (M:=M) (n:=0) I (fun f G=>?_) (by grind) (by grind)
   have A:=List.all_eq_true.1 (h.2) f G
   simp  at A
   have F:(cx.T f.type).known=true:=by
    obtain ⟨j,hj,hj'⟩:=List.getElem_of_mem G
    refine zit (j:=j) o ?_
    grind
   exact ⟨A.1,F,zCR p d m f.type A.2 F⟩
  | arr n e =>
   rw [l] at b a c
   obtain ⟨E,q,L⟩:=c
   simp only [eqOk,q] at h
   obtain ⟨z,rfl,b⟩:=b
   obtain ⟨B,rfl,a⟩:=a
   rw [l] at o
   rw [← L] at o
   obtain ⟨j,s⟩:=p.get (T:=cx.T E) rfl (zdd o)
   rw [run_equalIn_array w (d + m) z B q s.info]
   have J:cx.P.cellsOf E=(cx.T E).size:=by
    have:=s.size
    simp [Program.cellsOf,s.info,this]
   rw [J,List.range_eq_range']
   cases x<;>simp only [DRep] at b
   cases y<;>simp only [DRep] at a
   exact zwJ p s (zCR p d m E h o) b.1 a.1 (by grind) (by grind)
theorem zGo (m:TysOk cx) {a T d f b e}(i j) (k:cx.T a=T) (n:T.isAgg=true) (o:T.known=true) (hg:cx.P.eqGuardType cx.P.depth a=false) (l:eqOk cx 20 a=true)
  (h:DVal w M T d b) (g:DVal w M T f e) :
  (do eqGuard .eql a i j b e;binOp .eql a b e:Sem Value).run cx.P w=.ok (.bool (d.beq f)) w∧(do eqGuard .neq a i j b e;binOp .neq a b e:Sem Value).run cx.P w=.ok (.bool (!(d.beq f))) w:=by
 subst k
 have main:=zCR (w:=w) (M:=M) m 9980 20 a l o d f b e h g
 unfold DVal at h g
 simp [n] at h g
 obtain ⟨cs,rfl,_⟩:=h
 obtain ⟨cs',rfl,_⟩:=g
 simp_all [run_eqGuard_agg,run_eql_struct,run_neq_struct]
end
end Go.SX
namespace Go.SX
open Go.MapKept
open Go.RowKit (Below)
mutual
theorem D.beq_to:∀ {a b:D},a.beq b=true→a=b
 | .int k n,b,h=>by
  cases b<;>simp [D.beq] at h
  grind
 | .bool x,b,h=>by
  cases b<;>simp [D.beq] at h
  rw [h]
 | .str s,b,h=>by
  cases b<;>simp [D.beq] at h
  obtain ⟨⟨s⟩⟩:=s
  simp_all
 | .agg l,b,h=>by
  cases b<;>simp [D.beq] at h
  rw [D.beqL_to h]
 | .sl l,b,h=>by
  cases b<;>simp [D.beq] at h
  rw [D.beqL_to h]
 | .nil,b,h=>by grind [D.beq]
theorem D.beqL_to:∀ {a b:List D},D.beqL a b=true→a=b
 | [],b,h=>by grind [D.beqL]
 | x::l,b,h=>by
  cases b<;>simp [D.beqL] at h
  rw [D.beq_to h.1,D.beqL_to h.2]
end
def Plain (v:Value):Prop:=(∃ k n,v=.int k n)∨(∃ b,v=.bool b)∨∃ s,v=.string s
mutual
theorem zst {w:World}{M:Nat→Prop}:∀ {T:Ty}{d:D}{c f:List Value},T.flat=true→DRep w M T d c→DRep w M T d f→c=f∧∀ v∈c,Plain v
 | T,.int k n,c,f,g,h,a=>by
  cases T<;>simp only [DRep] at h a
  obtain ⟨_,h⟩:=h
  obtain ⟨_,a⟩:=a
  subst h a
  exact ⟨rfl,fun v j=>.inl ⟨_,n,by simpa using j⟩⟩
 | T,.bool b,c,f,g,h,a=>by
  cases T<;>simp only [DRep] at h a
  subst h a
  exact ⟨rfl,fun v j=>.inr (.inl ⟨b,by grind⟩)⟩
 | T,.str s,c,f,g,h,a=>by
  cases T<;>simp only [DRep] at h a
  subst h a
  exact ⟨rfl,fun v j=>.inr (.inr ⟨s,by grind⟩)⟩
 | T,.nil,c,f,g,h,a=>by
  cases T<;>simp only [DRep] at h a
  grind [Ty.flat]
 | T,.sl i,c,f,g,h,a=>by
  cases T<;>simp only [DRep] at h a
  grind [Ty.flat]
 | T,.agg i,c,f,g,h,a=>by
  cases T<;>simp only [DRep] at h a
  ·exact zzD g h a
  ·simp only [Ty.flat] at g
   exact zyB g h.2 a.2
theorem zzD {w:World}{M:Nat→Prop}:∀ {l:List Ty}{i:List D}{c f:List Value},Ty.flatL l=true→DRepL w M l i c→DRepL w M l i f→c=f∧∀ v∈c,Plain v
 | [],[],c,f,_,h,a=>by grind [DRepL]
 | T::l,d::i,c,f,g,h,a=>by
  simp [Ty.flatL] at g
  obtain ⟨y,z,rfl,o,p⟩:=h
  obtain ⟨A,B,rfl,q,m⟩:=a
  obtain ⟨t,r⟩:=zst g.1 o q
  obtain ⟨u,x⟩:=zzD g.2 p m
  exact ⟨by rw [t,u],fun v j=>(List.mem_append.1 j).elim (r v) (x v)⟩
 | [],_::_,_,_,_,h,_=>by grind [DRepL]
 | _::_,[],_,_,_,h,_=>by grind [DRepL]
theorem zyB {w:World}{M:Nat→Prop}:∀ {e:Ty}{i:List D}{c f:List Value},e.flat=true→DRepA w M e i c→DRepA w M e i f→c=f∧∀ v∈c,Plain v
 | e,[],c,f,_,h,a=>by grind [DRepA]
 | e,d::i,c,f,g,h,a=>by
  obtain ⟨y,z,rfl,o,p⟩:=h
  obtain ⟨A,B,rfl,q,m⟩:=a
  obtain ⟨t,r⟩:=zst g o q
  obtain ⟨u,x⟩:=zyB g p m
  exact ⟨by rw [t,u],fun v j=>(List.mem_append.1 j).elim (r v) (x v)⟩
end
theorem Plain.same {v}(h:Plain v) (n):Instr.sameBits n v v=true:=by
 rcases h with ⟨k,m,rfl⟩|⟨b,rfl⟩|⟨s,rfl⟩<;>cases n<;>simp [Instr.sameBits,bytes_beq]
theorem zGQ {w M T d v g}(i:T.flat=true) (h:DVal w M T d v) (b:DVal w M T d g):v=g∧Instr.sameBits 10000 g v=true:=by
 unfold DVal at h b
 split at h
 ·rename_i c
  rw [if_pos c] at b
  obtain ⟨f,rfl,h⟩:=h
  obtain ⟨j,rfl,b⟩:=b
  obtain ⟨e,p⟩:=zst i h b
  have e:f=j:=by simp_all
  subst e
  refine ⟨rfl,?_⟩
  have hall:∀ l:List Value,(∀ v∈l,Plain v)→((l.zip l).all fun (x,y)=>Instr.sameBits 9999 x y)=true:=by
   intro l
   induction l with
   | nil=>simp
   | cons a l ih =>
    intro k
    simp [(k a (by simp)).same]
    grind
  show (f.size==f.size&&_)=true
  grind
 ·rename_i c
  rw [if_neg c] at b
  obtain ⟨e,p⟩:=zst i h.2 b.2
  injection e with e
  subst e
  exact ⟨rfl,(p v (by simp)).same _⟩
section
variable {cx:Cx} {w:World} {M:Nat→Prop}
theorem znk (y:TysOk cx) (A) (d):∀ (m) (t),eqOk cx m t=true→(cx.T t).known=true→∀ (x) (v),DVal w M (cx.T t) x v→(Instr.checkKey A (d + m) t v).run cx.P w=.ok () w
 | 0,_,h,_,_,_,_=>by grind [eqOk]
 | m + 1,t,h,p,x,v,b=>by
  obtain ⟨i,J⟩:=y.get (T:=cx.T t) rfl (zdd p)
  have l:=J.desc
  rw [show d + (m + 1)=(d + m) + 1 from rfl]
  cases q:cx.T t with
  | no=>grind [Ty.known]
  | int k =>
   rw [q] at b l
   have o:cx.P.underlying t=some (.int k):=l
   obtain ⟨n1,rfl,rfl⟩:=b.int
   simp_all [Instr.checkKey,za7]
  | bool =>
   rw [q] at b l
   have o:cx.P.underlying t=some .bool:=l
   obtain ⟨n1,rfl,rfl⟩:=b.bool
   simp_all [Instr.checkKey,za7]
  | str =>
   rw [q] at b l
   have o:cx.P.underlying t=some .string:=l
   obtain ⟨n1,rfl,rfl⟩:=b.str
   simp_all [Instr.checkKey,za7]
  | sl e =>
   rw [q] at l
   obtain ⟨E,o,_⟩:=l
   grind [eqOk]
  | st Ts =>
   rw [q] at b l
   obtain ⟨fs,o,hTs,F⟩:=l
   simp only [eqOk,o,wD0,Bool.not_eq_true'] at h
   unfold DVal at b
   simp [Ty.isAgg] at b
   obtain ⟨s,rfl,b⟩:=b
   cases x<;>simp only [DRep] at b
   rename_i c
   rw [q] at p
   simp only [Ty.known] at p
   unfold Instr.checkKey
   simp only [Sem.run_bind,za7 o,Result.andThen_ok]
   rw [← Array.forIn_toList]
   have deep:∀ f∈fs.toList,f.name ≠ "_" ∧ (cx.T f.type).known=true∧eqOk cx m f.type=true:=fun f S=>by
    have hf':=List.all_eq_true.1 (h.2) f S
    simp  at hf'
    have K:(cx.T f.type).known=true:=by
     obtain ⟨j,hj,hj'⟩:=List.getElem_of_mem S
     refine zit (j:=j) p ?_
     grind
    grind
   have N:∀ (L:List Field) (n:Nat) (c:List D),ziM cx.T L n=true→(∀ f∈L,f.name ≠ "_" ∧ (cx.T f.type).known=true∧eqOk cx m f.type=true)→DRepL w M (L.map fun f=>cx.T f.type) c (s.toList.drop n) →
     (forIn L PUnit.unit (fun f _=>(do
      if f.name ≠ "_" then Instr.checkKey A (d + m) f.type (← part f.type s f.offset)
      pure (ForInStep.yield PUnit.unit):Sem (ForInStep PUnit)))).run cx.P w=.ok PUnit.unit w:=by
    intro L
    induction L with
    | nil=>simp
    | cons f L G =>
     intro n c F hd H
     cases c with
     | nil=>grind [DRepL]
     | cons z c =>
      obtain ⟨c1,c2,O,P,g2⟩:=H
      obtain ⟨hn,K,hef⟩:=hd f (by simp)
      obtain ⟨i,J⟩:=y.get (T:=cx.T f.type) rfl (zdd K)
      simp [ziM] at F
      obtain ⟨a1,a2⟩:=zlW O P.length
      obtain ⟨v,r1,I⟩:=zgD (w:=w) (M:=M) J (cs:=s) (off:=n) (d:=z) (by grind)
      have r2:=znk y A d m f.type hef K z v I
      have:=G _ c F.2 (fun g hg=>hd g (by grind)) (by grind)
      simp_all
   exact congrArg (fun (r:Result PUnit)=>r.andThen fun _ Q=>(pure ():Sem Unit).run cx.P Q) (N fs.toList 0 c F deep (by grind))
  | arr n e =>
   rw [q] at b l
   obtain ⟨E,o,hE⟩:=l
   simp only [eqOk,o] at h
   obtain ⟨s,rfl,b⟩:=b
   rw [q] at p
   rw [← hE] at p
   obtain ⟨j,R⟩:=y.get (T:=cx.T E) rfl (zdd p)
   cases x<;>simp only [DRep] at b
   rename_i c
   unfold Instr.checkKey
   simp only [Sem.run_bind,za7 o,Result.andThen_ok]
   simp
   have N:∀ (B u:Nat) (c:List D),c.length=B→DRepA w M (cx.T E) c (s.toList.drop (u * (cx.T E).size)) →
     (forIn (List.range' u B) PUnit.unit (fun i _=>(do
      Instr.checkKey A (d + m) E (← part E s (i * (← sizeOf E)))
      pure (ForInStep.yield PUnit.unit):Sem (ForInStep PUnit)))).run cx.P w=.ok PUnit.unit w:=by
    intro B
    induction B with
    | zero=>simp
    | succ B G =>
     intro u c hl H
     cases c with
     | nil=>grind
     | cons z c =>
      obtain ⟨c1,c2,O,P,g2⟩:=H
      obtain ⟨a1,a2⟩:=zlW O P.length
      obtain ⟨v,r1,I⟩:=zgD (w:=w) (M:=M) R (cs:=s) (off:=u * (cx.T E).size) (d:=z) (by grind)
      have:=G (u + 1) c (by grind) (by grind)
      simp only [List.range'_succ,List.forIn_cons,Sem.run_bind,zds R.info,Result.andThen_ok,R.size,r1,(znk y A d m E h p z v I),Sem.run_pure]
      omega
   exact congrArg (fun (r:Result PUnit)=>r.andThen fun _ Q=>(pure ():Sem Unit).run cx.P Q) (N n 0 c b.1 (by grind))
def Found (w:World) (M:Nat→Prop) (K V:Ty) (k:D) (l:List D) (es:List MapEntry) (i:Nat) (o:Option D) (r:Option (Nat×Value)):Prop :=
 zz6 k l=some o∧((o=none∧r=none∧∀ (d:D) (vk vd:Value) (c:Nat),MVal w M K k vk→MVal w M V d vd→∃ l',zvy k d l=some l'∧MapEnts w M K V l' (es++[⟨vk,vd,c⟩])) ∨
  ∃ j e d0,o=some d0∧r=some (i + j,e)∧MVal w M V d0 e∧(∃ x,es[j]?=some x∧MVal w M K k x.key) ∧
   ∀ (d:D) (vk vd:Value) (f:MapEntry→MapEntry),MVal w M K k vk→MVal w M V d vd→(∀ x,(f x).key=vk∧(f x).val=vd)→∃ l',zvy k d l=some l'∧MapEnts w M K V l' (es.modify j f))
theorem Found.nil {K V k i}:Found w M K V k [] [] i none none :=
 ⟨rfl,.inl ⟨rfl,rfl,fun d vk vd c b a=>⟨_,rfl,⟨k,d,rfl,b,a⟩,trivial⟩⟩⟩
theorem Found.hit {K V k b a l e g i}(h:k.beq b=true) (n:MVal w M K b e.key) (j:MVal w M V a e.val) (m:MapEnts w M K V l g):Found w M K V k (.agg [b,a]::l) (e::g) i (some a) (some (i,e.val)):=by
 have:=D.beq_to h
 subst this
 refine ⟨by grind [zz6],.inr ⟨0,e.val,a,rfl,rfl,j,⟨e,rfl,n⟩,fun d vk vd f o p c=>⟨.agg [k,d]::l,by grind [zvy],?_⟩⟩⟩
 exact ⟨⟨k,d,rfl,(c e).1▸o,(c e).2▸p⟩,m⟩
theorem Found.step {K V k a b l e z i o r}(hb:k.beq a=false) (A:MVal w M K a e.key) (y:MVal w M V b e.val) (h:Found w M K V k l z (i + 1) o r):Found w M K V k (.agg [a,b]::l) (e::z) i o r:=by
 obtain ⟨h0,h⟩:=h
 refine ⟨by grind [zz6],?_⟩
 rcases h with ⟨g,v,n⟩|⟨j,B,H,g,v,n,⟨x,p4,F⟩,G⟩
 ·refine .inl ⟨g,v,fun d p m c s q=>?_⟩
  obtain ⟨t,I,u⟩:=n d p m c s q
  exact ⟨.agg [a,b]::t,by grind [zvy],⟨a,b,rfl,A,y⟩,u⟩
 ·refine .inr ⟨j + 1,B,H,g,by grind,n,⟨x,by grind,F⟩,fun d p m f s q J=>?_⟩
  obtain ⟨t,I,u⟩:=G d p m f s q J
  refine ⟨.agg [a,b]::t,by grind [zvy],?_⟩
  exact ⟨⟨a,b,rfl,A,y⟩,u⟩
def qOk:TypeDesc→Bool|.int _=>true|.bool=>true|.string=>true|_=>false
def qTy:TypeDesc→Ty|.int k=>.int k|.bool=>.bool|.string=>.str|_=>.no
theorem zwX {q}(n:qOk q=true) {K V}(g:K=qTy q) {k v}(j:DVal w M K k v) :
  ∀ {l} {f} (i),MapEnts w M K V l f→∃ o r,Found w M K V k l f i o r∧Instr.findNow q v f i=some r
 | [],[],i,_=>⟨none,none,Found.nil,rfl⟩
 | d::l,e::f,i,h=>by
  obtain ⟨⟨t,v',rfl,b,p⟩,s⟩:=h
  have z:Instr.sameNow q v e.key=some (k.beq t):=by
   cases q<;>simp [qOk] at n
   ·subst g
    obtain ⟨m,rfl,rfl⟩:=j.bool
    obtain ⟨u,rfl,c⟩:=DVal.bool (M:=M) (w:=w) b
    rw [c]
    rfl
   ·subst g
    obtain ⟨m,rfl,rfl⟩:=j.int
    obtain ⟨u,rfl,c⟩:=DVal.int (M:=M) (w:=w) b
    rw [c]
    simp [Instr.sameNow,D.beq]
    rfl
   ·subst g
    obtain ⟨m,rfl,rfl⟩:=j.str
    obtain ⟨u,rfl,c⟩:=DVal.str (M:=M) (w:=w) b
    rw [c]
    simp only [Instr.sameNow,D.beq]
    congr 1
    rw [Bool.eq_iff_iff,bytes_beq,vG0]
    constructor
    ·grind
    ·obtain ⟨⟨a⟩⟩:=m
     simp_all
  simp only [Instr.findNow,z]
  cases x:k.beq t with
  | true=>exact ⟨_,_,Found.hit x b p s,rfl⟩
  | false =>
   obtain ⟨o,r,A,y⟩:=zwX n g j (i + 1) s
   exact ⟨o,r,Found.step x b p A,y⟩
 | [],_::_,_,h=>h.elim
 | _::_,[],_,h=>h.elim
theorem zpB {kt K V k v}(g:∀ a c,DVal w M K a c→(Op.equal kt v c).run cx.P w=.ok (k.beq a) w) :
  ∀ {l} {b} (i),MapEnts w M K V l b→∃ o r,Found w M K V k l b i o r∧(Instr.findAsking kt v b i).run cx.P w=.ok r w
 | [],[],i,_=>⟨none,none,Found.nil,by rfl⟩
 | d::l,e::b,i,h=>by
  obtain ⟨⟨a,c,rfl,f,j⟩,m⟩:=h
  simp [Instr.findAsking,(g a e.key f)]
  cases n:k.beq a with
  | true=>exact ⟨_,_,Found.hit n f j m,by simp⟩
  | false =>
   obtain ⟨o,r,p,o2⟩:=zpB g (i + 1) m
   exact ⟨o,r,Found.step n f j p,by grind⟩
 | [],_::_,_,h=>h.elim
 | _::_,[],_,h=>h.elim
theorem zEf (u:TysOk cx) {c V}(H:eqOk cx 20 c=true) (x:(cx.T c).known=true) {k v}(z:DVal w M (cx.T c) k v) {l m}(h:MapEnts w M (cx.T c) V l m) :
  ∃ o r,Found w M (cx.T c) V k l m 0 o r∧(Instr.findKey c v m).run cx.P w=.ok r w:=by
 obtain ⟨i,N⟩:=u.get (T:=cx.T c) rfl (zdd x)
 have g:=N.desc
 have s:∀ {q:TypeDesc},cx.P.underlying c=some q→qOk q=true→cx.T c=qTy q →
   ∃ o r,Found w M (cx.T c) V k l m 0 o r∧(Instr.findKey c v m).run cx.P w=.ok r w:=fun {q} p j A=>by
  obtain ⟨o,r,t,B⟩:=zwX (w:=w) (M:=M) (V:=V) j A z 0 h
  exact ⟨o,r,t,by simp_all [Instr.findKey,za7]⟩
 have y:(∀ q,cx.P.underlying c=some q→∀ a b,Instr.sameNow q a b=none)→(∃ q,cx.P.underlying c=some q)→∃ o r,Found w M (cx.T c) V k l m 0 o r∧(Instr.findKey c v m).run cx.P w=.ok r w:=fun hno ⟨q,p⟩=>by
  cases m with
  | nil =>
   cases l with
   | cons _ _=>exact h.elim
   | nil=>exact ⟨none,none,Found.nil,by simp [Instr.findKey,za7 p,Instr.findNow]⟩
  | cons e m =>
   obtain ⟨o,r,t,B⟩:=zpB (cx:=cx) (w:=w) (M:=M) (kt:=c) (K:=cx.T c) (V:=V) (k:=k) (v:=v) (fun I J L=>zCR (w:=w) (M:=M) u 9980 20 c H x k I v J z L) 0 h
   have hn:Instr.findNow q v (e::m) 0=none:=by grind [Instr.findNow]
   exact ⟨o,r,t,by simp_all [Instr.findKey,za7]⟩
 cases f:cx.T c with
 | no=>grind [Ty.known]
 | int kk =>
  rw [f] at g
  rw [← f]
  exact s g rfl f
 | bool =>
  rw [f] at g
  rw [← f]
  exact s g rfl f
 | str =>
  rw [f] at g
  rw [← f]
  exact s g rfl f
 | sl e =>
  rw [f] at g
  obtain ⟨E,p,_⟩:=g
  grind [eqOk]
 | st Ts =>
  rw [f] at g
  obtain ⟨fs,p,_⟩:=g
  rw [← f]
  exact y (fun q j a b=>by rw [p] at j;injection j with j;subst j;rfl) ⟨_,p⟩
 | arr n e =>
  rw [f] at g
  obtain ⟨E,p,_⟩:=g
  rw [← f]
  exact y (fun q j a b=>by rw [p] at j;injection j with j;subst j;rfl) ⟨_,p⟩
end
section
variable {C:FuncId→List D→Option (List D)} {k B0:Nat} {X:Ctx} {cx:Cx}
structure zEQ (cx:Cx) (k e:TypeId) (K V:Ty):Prop where
 eK:K=cx.T k
 eV:V=cx.T e
 fK:K.flat=true
 kK:K.known=true
 fV:V.flat=true
 kV:V.known=true
 eq:eqOk cx 20 k=true
theorem zwB {k e K V}(h:zGw cx k e K V=true):zEQ cx k e K V:=by
 unfold zGw at h
 simp  at h
 obtain ⟨⟨⟨⟨⟨⟨c,d⟩,f⟩,g⟩,i⟩,j⟩,a⟩:=h
 exact ⟨Ty.beq_eq c,Ty.beq_eq d,f,g,i,j,a⟩
theorem zuR {K V r a d b c}(h:Run (zIO K V r) d b a c):c=b∧now d b.up r=.mp K V a:=by
 obtain ⟨RR,s1,g,e⟩:=Run.bind h
 obtain ⟨e1,e2⟩:=Run.root g
 split at e
 ·obtain ⟨_,s2,f,h4⟩:=Run.bind e
  obtain ⟨hg,es⟩:=Run.guard f
  grind [Run.pure,Ty.beq_eq]
 grind [Run.fail]
theorem zAx (j:B0≤X.w.heap.size) (m:Mem B0 X) {t n k d f}(w:∀ r,d.ab≤r→r<f.ab→¬ X.A r) (h0:d.up=[]) (h:Run (ztk cx t n) X.μ d k f) {g}(hn:n=g.isNone) :
  Acts cx.P B0 X (Instr.makeMap t g) d f fun s v=>VRep s k v:=by
 obtain ⟨_,s1,u,l⟩:=Run.bind h
 obtain ⟨hg,a⟩:=Run.guard u
 subst a
 cases g with
 | some _=>grind
 | none =>
  split at l
  ·rename_i y z hu
   obtain ⟨_,s2,A,B⟩:=Run.bind l
   obtain ⟨hk,a⟩:=Run.guard A
   subst a
   obtain ⟨r,s3,F,G⟩:=Run.bind B
   obtain ⟨H,a⟩:=Run.new F
   obtain ⟨I,J⟩:=Run.pure G
   subst a
   subst I J
   have i:Below X.w.heap.size X.w (X.w.alloc (.map #[] 0)):=(Below.refl _ _).alloc (wG0 _) _
   have q:=m.grow j (w r (by omega) (by grind)) i (R:=.mp (cx.T y) (cx.T z) (.c (.sl []))) (p:=⟨some X.w.heap.size,[]⟩) (fun b i=>by grind [Root.own]) (by simp [Root.own])
    (fun x=>⟨[],X.w.heap.size,#[],0,rfl,by simp [Ctx.grown,upd_same],heap_alloc_new X.w _,trivial⟩)
   refine ⟨.map (some X.w.heap.size),X.w.alloc (.map #[] 0),_,rfl,Nx.grown (up:=[]) (Ext.refl X) i j q (by grind) H rfl rfl,?_⟩
   exact ⟨.inr rfl,X.w.heap.size,rfl,by simp [Ctx.grown,upd_same]⟩
  grind [Run.fail]
theorem zB6 (p:TysOk cx) (m:Mem B0 X) {g w K V}(c:zEQ cx g w K V) {r}{a ai:At}(A:X.A r) (v:X.μ r=.mp K V a) {b}(B:(X.β r).main=some b) {d e}(y:DVal X.w (fun _=>False) K d e) :
  ∃ l f i,a.get X.E=some (.sl l)∧X.w.heap[b]?=some (.map f i)∧MapEnts X.w X.M K V l f.toList∧DVal X.w X.M K d e∧(∀ k,(Instr.checkKey k 10000 g e).run cx.P X.w=.ok () X.w) ∧
   ∃ o q,Found X.w X.M K V d l f.toList 0 o q∧(Instr.findKey g e f.toList).run cx.P X.w=.ok q X.w:=by
 have s:=m.rep r A
 rw [v] at s
 obtain ⟨l,b',f,i,x,h,z,t⟩:=s
 rw [B] at h
 injection h with h
 subst h
 have n:DVal X.w X.M K d e:=y.flat c.fK
 have u:=c.eK
 subst u
 exact ⟨l,f,i,x,z,t,n,fun k=>znk p k 9980 20 g c.eq c.kK d e n,zEf p c.eq c.kK n t⟩
theorem zBf (ty:TysOk cx) (hB:B0≤X.w.heap.size) (m:Mem B0 X) {t x R W c J y}(h0:J.up=[]) (h:Run (zp2 cx t x R c) X.μ J W y) (S:Sat C k X.E y.bs y.nv) {U I}(hvx:VRep X x U) (hvi:VRep X R I) :
  Acts cx.P B0 X (Instr.lookup t U I c) J y fun X' v=>VRep X' W v:=by
 unfold zp2 at h
 split at h
 ·rename_i kt et K V r hu
  obtain ⟨_,s1,h1,h2⟩:=Run.bind h
  obtain ⟨hg,p⟩:=Run.guard h1
  subst p
  have n:=zwB hg
  obtain ⟨a,s2,h3,h4⟩:=Run.bind h2
  obtain ⟨p,hR⟩:=zuR h3
  subst p
  rw [h0,zbI] at hR
  obtain ⟨ai,s3,h5,h6⟩:=Run.bind h4
  obtain ⟨vv,s4,h7,P⟩:=Run.bind h6
  obtain ⟨hA,b,hve,hb⟩:=hvx
  subst hve
  have Q:Sat C k X.E s4.bs s4.nv:=by
   cases c with
   | true =>
    obtain ⟨bb,s5,G,H⟩:=Run.bind P
    obtain ⟨f,g⟩:=Run.pure H
    subst f g
    exact G.sat S
   | false =>
    grind [Run.pure]
  obtain ⟨u1,u2,d,hd,hdv⟩:=zna hB m h0 h5 (h7.sat Q) hvi
  obtain ⟨⟨ml,mk,mv,s,B,L,q4⟩,q5,q6⟩:=Run.op2 h7 Q
  obtain ⟨l,p,clk,g1,g2,g3,g4,g5,o,q,M,g7⟩:=zB6 ty m n (ai:=ai) hA hR hb hdv
  rw [g1] at s
  rw [hd] at B
  injection s with s
  injection B with B
  subst s B
  simp [Prim.run,D.els,M.1] at L
  obtain ⟨i,tf⟩:=ty.get (T:=cx.T et) rfl (by rw [← n.eV];exact zdd n.kV)
  obtain ⟨z,hz,_,hzd⟩:=zl8 tf (w:=X.w)
  have hval:∃ v,DVal X.w X.M V mv v∧(Instr.lookup t (.map (some b)) I c).run cx.P X.w=.ok (if c then .tuple #[v,.bool o.isSome] else v) X.w:=by
   rcases M.2 with ⟨N,O,_⟩|⟨j,e,d0,N,O,p3,_⟩
   ·subst N O
    refine ⟨z,?_,?_⟩
    ·rw [← L,n.eV];grind
    ·simp only [Instr.lookup,Sem.run_bind,za7 hu,Result.andThen_ok,MapKept.run_getObj_map g2,g5,g7,hz,Sem.run_pure]
     rfl
   ·subst N O
    refine ⟨e,?_,?_⟩
    ·rw [← L];exact p3
    ·simp only [Instr.lookup,Sem.run_bind,za7 hu,Result.andThen_ok,MapKept.run_getObj_map g2,g5,g7,Sem.run_pure]
     rfl
  obtain ⟨v,hv1,hv2⟩:=hval
  cases c with
  | true =>
   obtain ⟨bb,s5,G,H⟩:=Run.bind P
   obtain ⟨f,g⟩:=Run.pure H
   subst f g
   obtain ⟨⟨ml',mk',bv,A,F,w3,w4⟩,w5,w6⟩:=Run.op2 G S
   rw [g1] at A
   rw [hd] at F
   injection A with A
   injection F with F
   subst A F
   simp [Prim.run,D.els,M.1] at w3
   refine ⟨_,X.w,X,hv2,?_,?_⟩
   ·rw [w5,w6,q5,q6,u1,u2]
    exact Nx.same (up:=[]) (Ext.refl X) m
   ·refine ⟨_,rfl,?_⟩
    exact ⟨v,[.bool o.isSome],rfl,VRep.data.2 ⟨_,q4,hv1⟩,.bool o.isSome,[],rfl,VRep.data.2 ⟨_,w4,by grind [DVal.of_bool]⟩,rfl⟩
  | false =>
   obtain ⟨f,g⟩:=Run.pure P
   subst f g
   refine ⟨_,X.w,X,hv2,?_,?_⟩
   ·rw [q5,q6,u1,u2]
    exact Nx.same (up:=[]) (Ext.refl X) m
   grind [VRep.data]
 grind [Run.fail]
theorem zvH (ty:TysOk cx) (hB:B0≤X.w.heap.size) (m:Mem B0 X) {t x ix y sv s0 H}(h0:s0.up=[]) (h:Run (zjk cx t x ix y) X.μ s0 sv H) (S:Sat C k X.E H.bs H.nv) {vx i f}(hvx:VRep X x vx) (hvi:VRep X ix i) (hvy:VRep X y f) :
  Acts cx.P B0 X (Instr.mapUpdate t vx i f) s0 H fun _ _=>sv=.un 1:=by
 unfold zjk at h
 split at h
 ·rename_i kt et K V r hu
  obtain ⟨_,s1,h1,h2⟩:=Run.bind h
  obtain ⟨hg,c⟩:=Run.guard h1
  subst c
  have J:=zwB hg
  obtain ⟨ai,s2,h3,h4⟩:=Run.bind h2
  obtain ⟨ay,s3,h5,h6⟩:=Run.bind h4
  obtain ⟨a,s4,h7,h8⟩:=Run.bind h6
  obtain ⟨c,L⟩:=zuR h7
  subst c
  obtain ⟨am,s5,O,h10⟩:=Run.bind h8
  obtain ⟨_,s6,h11,h12⟩:=Run.bind h10
  have c:=Run.put h11
  obtain ⟨Q,e2⟩:=Run.pure h12
  subst c
  subst Q e2
  obtain ⟨u1,u2,d,hd,hdv⟩:=zna hB m h0 h3 (h5.sat (O.sat S)) hvi
  obtain ⟨u3,u4,N,hdy,hdyv⟩:=zna hB m u1 h5 (O.sat S) hvy
  rw [u3,zbI] at L
  obtain ⟨hA,b,hve,hb⟩:=hvx
  subst hve
  obtain ⟨⟨ml,mk,mv,md,A,M,B,q4,q5⟩,q6,q7⟩:=Run.op3 O S
  obtain ⟨l,c,F,g1,G,g3,P,g5,o,q,g6,g7⟩:=zB6 ty m J (ai:=ai) hA L hb hdv
  rw [g1] at A
  rw [hd] at M
  rw [hdy] at B
  injection A with A
  injection M with M
  injection B with B
  subst A M B
  have hobj:∃ v I g,zvy d N l=some g∧MapEnts X.w X.M K V g v.toList∧(Instr.mapUpdate t (.map (some b)) i f).run cx.P X.w=.ok () { X.w with heap:=X.w.heap.setIfInBounds b (.map v I) }:=by
   rcases g6.2 with ⟨p1,p2,p3⟩|⟨j,e,d0,p1,p2,p3,⟨z,p4,p5⟩,p6⟩
   ·subst p1 p2
    obtain ⟨g,u,c2⟩:=p3 N i f F P (hdyv.flat J.fV)
    refine ⟨c.push ⟨i,f,F⟩,F + 1,g,u,by grind,?_⟩
    simp only [Instr.mapUpdate,Sem.run_bind,za7 hu,Result.andThen_ok,MapKept.run_getObj_map G,g5,g7,MapKept.run_setObj_map _ G]
   ·subst p1 p2
    obtain ⟨hke,hsb⟩:=zGQ J.fK P (show DVal X.w X.M K d z.key from p5)
    obtain ⟨g,u,c2⟩:=p6 N i f (fun e=>{ e with key:=i,val:=f }) P (hdyv.flat J.fV) (fun _=>⟨rfl,rfl⟩)
    have hz:c[0 + j]?=some z:=by grind
    refine ⟨c.modify (0 + j) fun e=>{ e with key:=i,val:=f },F,g,u,by grind,?_⟩
    simp only [Instr.mapUpdate,Sem.run_bind,za7 hu,Result.andThen_ok,MapKept.run_getObj_map G,g5,g7,hz,Option.map_some,Option.getD_some,Instr.keyThatStays,hsb,if_true,Sem.run_pure,MapKept.run_setObj_map _ G]
  obtain ⟨v,I,g,u,c2,c3⟩:=hobj
  simp only [Prim.run,D.els,u,wB0] at q4
  subst q4
  let s:World:={ X.w with heap:=X.w.heap.setIfInBounds b (.map v I) }
  have hw'n:∀ q,q≠b→s.heap[q]?=X.w.heap[q]?:=fun q p=>by grind
  have hmem:b∈(X.μ r).own (X.β r):=by grind [Root.own]
  have hbs:bsize X.w b=none:=by grind [bsize]
  have hx:Ext X { X with w:=s,μ:=upd X.μ r (.mp K V am) }∧Mem B0 { X with w:=s,μ:=upd X.μ r (.mp K V am) }:=by
   refine Mem.change m hB (fun q=>q=r) (fun _ _ h=>h) (fun _ h=>h) (fun q h=>.inl h) (fun q p=>⟨upd_ne _ _ p,rfl⟩) (fun q p hno=>?_) (fun q n hn=>?_) ?_ ?_ ?_ (fun _ _ _=>rfl) ?_ ?_
   ·grind
   ·grind [zcd]
   ·grind [upd_same,Root.own]
   ·omega
   ·grind [upd_same,Root.own]
   ·intro q p _ _
    subst p
    refine ⟨by rw [L];rfl,fun Q a1 d1 U hd1=>?_,fun Q a1 g1 U=>?_⟩
    ·rw [L] at U
     cases U
    grind [upd_same]
   ·intro x q p _
    subst p
    simp only [upd_same]
    exact ⟨g,b,v,I,q5,hb,(by grind),c2.keep x.K⟩
  refine ⟨(),s,{ X with w:=s,μ:=upd X.μ r (.mp K V am) },c3,⟨rfl,rfl,?_,fun q=>⟨fun h=>.inl h,fun h=>h.elim id fun h=>?_⟩,hx.1,hx.2,?_⟩,rfl⟩
  ·grind [zca,zbI]
  ·grind
  ·refine ⟨rfl,rfl,rfl,by grind,fun q p=>hw'n q fun e=>?_⟩
   subst e
   have:=m.low r q hA hmem
   omega
 grind [Run.fail]
theorem zGS {t T x n j i}(m:(match cx.P.underlying t with|some (.slice _)=>true|_=>false)=true) (h:Run (capOf x) X.μ j n i) {v}(k:VRep X x v):zdm cx.P X (Builtin.cap_ #[t] T #[v]) n j i:=by
 unfold capOf at h
 split at h
 ·obtain ⟨e,g⟩:=Run.pure h
  subst e g
  subst k
  cases b:cx.P.underlying t with
  | none=>grind
  | some q =>
   cases q<;>simp [b] at m
   exact ⟨rfl,rfl,.int .i64 0,by simp [Builtin.cap_,za7 b,goInt],VRep.data.2 ⟨_,rfl,DVal.of_int _ _⟩⟩
 ·obtain ⟨e,g⟩:=Run.pure h
  subst e g
  obtain ⟨d,p,r⟩:=VRep.data.1 k
  simp [At.get] at p
  have o:v=.slice none 0 0:=by
   rcases r.slice with ⟨_,h⟩|⟨l,a,c,h,_⟩
   all_goals grind
  subst o
  cases b:cx.P.underlying t with
  | none=>grind
  | some q =>
   cases q<;>simp [b] at m
   exact ⟨rfl,rfl,.int .i64 0,by simp [Builtin.cap_,za7 b,goInt],VRep.data.2 ⟨_,rfl,DVal.of_int _ _⟩⟩
 grind [Run.fail]
end
end Go.SX
namespace Go.SX
open Go.RowKit (Below)
structure Tr (n n0:Nat) (sg:List At) (X X':Ctx):Prop where
 at_:∀ a:At,a.okAt n=true→(a.inst n0 sg).get X.E=a.get X'.E
 w:X'.w=X.w
 A:∀ r,X'.A r↔X.A r
 β:X'.β=X.β
 F:X'.F=X.F
 μ:∀ r,X.A r→X.μ r=(X'.μ r).inst n0 sg
 ok:∀ r,X.A r→(X'.μ r).okAt n=true
section
variable {n n0:Nat} {sg:List At} {X X':Ctx}
theorem Root.inst_own (R:Root) (p):(R.inst n0 sg).own p=R.own p:=by cases R<;>rfl
theorem Root.inst_there (R:Root):(R.inst n0 sg).there=R.there:=by cases R<;>rfl
theorem Root.inst_row {R:Root}{e a}(h:(R.inst n0 sg).row?=some (e,a)):∃ b,R.row?=some (e,b)∧a=b.inst n0 sg:=by
 cases R<;>simp [Root.inst,Root.row?,reduceCtorEq] at h
 all_goals (obtain ⟨g,c⟩:=h;subst g c;exact ⟨_,rfl,rfl⟩)
theorem Root.row_ok {R:Root}{e a}(h:R.row?=some (e,a)) (ho:R.okAt n=true):a.okAt n=true:=by
 cases R<;>simp [Root.row?,reduceCtorEq] at h
 all_goals grind [Root.okAt]
theorem znS:∀ {q}{T},tyAt (q.map (Stp.inst n0 sg)) T=tyAt q T
 | [],_=>rfl
 | .f j::q,T=>by
  cases T<;>simp [Stp.inst,tyAt]
  split
  ·exact znS
  ·rfl
 | .i a::q,T=>by
  cases T<;>simp [Stp.inst,tyAt]
  exact znS
theorem zoc {E c}(b:∀ a:At,a.okAt n=true→(a.inst n0 sg).get E=a.get c):∀ {q}{T},zfI n q=true→tOff E (q.map (Stp.inst n0 sg)) T=tOff c q T
 | [],_,_=>rfl
 | .f j::q,T,h=>by
  simp [zfI,Stp.okAt] at h
  cases T<;>simp [Stp.inst,tOff]
  split
  ·rw [zoc b h]
  ·rfl
 | .i a::q,T,h=>by
  simp [zfI,Stp.okAt] at h
  cases T<;>simp [Stp.inst,tOff]
  rw [b a h.1]
  split
  ·rw [zoc b h.2]
  ·rfl
theorem Tr.M (t:Tr n n0 sg X X') (b):X'.M b↔X.M b:=by
 unfold Ctx.M
 rw [t.F,t.β]
 constructor
 ·rintro (h|⟨r,a,c⟩)
  ·grind
  ·exact .inr ⟨r,(t.A r).1 a,by rw [t.μ r ((t.A r).1 a),Root.inst_own];omega⟩
 ·rintro (h|⟨r,a,c⟩)
  ·grind
  ·exact .inr ⟨r,(t.A r).2 a,by rw [t.μ r a,Root.inst_own] at c;omega⟩
theorem Tr.K (t:Tr n n0 sg X X'):Keeps X.w X'.w X.M X'.M:=by
 rw [t.w]
 exact ⟨fun _ _ _=>rfl,fun _ _ h b=>h ((t.M _).1 b)⟩
theorem Tr.h (t:Tr n n0 sg X X') {e r f v}(w:X.A r) (c:zzh n f=true) (h:HRep X e r (zGg n0 sg f) v):HRep X' e r f v:=by
 obtain ⟨a,d,A,h2,H⟩:=h
 rw [t.μ r w] at A
 obtain ⟨y,z,K⟩:=Root.inst_row A
 subst K
 refine ⟨y,d,z,by rw [← t.at_ y (Root.row_ok z (t.ok r w))];omega,?_⟩
 rw [t.β,t.w]
 rcases H with ⟨g,o,F⟩|⟨b,l,g,o,x⟩
 ·refine .inl ⟨g,o,?_⟩
  cases f with
  | none=>trivial
  | some p =>
   obtain ⟨m,q⟩:=p
   simp [zzh] at c
   obtain ⟨k,s,u,u'⟩:=F
   exact ⟨k,s,by rw [← t.at_ m c.1];omega,by rw [← t.at_ q c.2];omega⟩
 ·refine .inr ⟨b,l,g,o,?_⟩
  cases f with
  | none=>exact x
  | some p =>
   obtain ⟨m,q⟩:=p
   simp [zzh] at c
   obtain ⟨L,M,N,k,s,i,j,g1,g2,B⟩:=x
   exact ⟨L,M,N,k,s,i,j,by rw [← t.at_ m c.1];omega,by rw [← t.at_ q c.2];omega,B⟩
theorem Tr.ref (t:Tr n n0 sg X X') {s v}(f:s.okAt n=true) (h:Ref X (s.inst n0 sg) v):Ref X' s v:=by
 cases s<;>simp only [SV.inst,Ref] at h ⊢<;>try exact h
 case h e r vw =>
  refine ⟨h.1,(t.A r).2 h.2.1,fun ht=>t.h h.2.1 f (h.2.2 ?_)⟩
  rw [t.μ r h.2.1,Root.inst_there]
  omega
 case hc e r Z =>
  refine ⟨h.1,(t.A r).2 h.2.1,fun ht=>?_⟩
  obtain ⟨a,d,c,j,m⟩:=h.2.2 (by rw [t.μ r h.2.1,Root.inst_there];omega)
  rw [t.μ r h.2.1] at c
  obtain ⟨u,O,Q⟩:=Root.inst_row c
  subst Q
  refine ⟨u,d,O,by rw [← t.at_ u (Root.row_ok O (t.ok r h.2.1))];omega,?_⟩
  rw [t.β,t.w,← t.at_ Z f]
  omega
 case z e a =>
  obtain ⟨d,l,y,c,j⟩:=h
  exact ⟨d,l,y,by rw [← t.at_ a f];omega,j⟩
 case mr K V r =>
  obtain ⟨x,b,c,j⟩:=h
  exact ⟨(t.A r).2 x,b,c,by rw [t.β];omega⟩
 case p R T r q =>
  obtain ⟨x,b,B,c,j,m,w⟩:=h
  exact ⟨(t.A r).2 x,b,B,c,by rw [t.β];omega,by rw [← zoc t.at_ f];omega,by grind [znS]⟩
 case pd T a =>
  obtain ⟨ad,d,P,c,j,m,w,G⟩:=h
  exact ⟨ad,d,P,c,by rw [← t.at_ a f];omega,m.keep t.K,by rw [t.w];omega,fun S U=>G S ((t.M _).1 U)⟩
 case hb R e n' r q =>
  obtain ⟨x,c,j,b,m,w⟩:=h
  exact ⟨(t.A r).2 x,(by simp_all),j,b,by rw [t.β];omega,w⟩
 case hr e r H g =>
  refine ⟨h.1,(t.A r).2 h.2.1,fun W u Y I=>?_⟩
  have A:=t.μ r h.2.1
  have N:=t.ok r h.2.1
  rw [I] at A N
  obtain ⟨J,F⟩:=h.2.2 _ _ _ A
  refine ⟨J,fun M=>?_⟩
  obtain ⟨L,k,i,ds,d,o,c,j,m,w,G⟩:=F M
  exact ⟨L,k,i,ds,d,o,by rw [← t.at_ u N];omega,by rw [← t.at_ H f];omega,m,by rw [t.β];omega,by rw [t.w];omega⟩
 case pm e T r H q g =>
  simp [SV.okAt] at f
  refine ⟨h.1,(t.A r).2 h.2.1,fun W u Y I=>?_⟩
  have A:=t.μ r h.2.1
  rw [I] at A
  obtain ⟨J,F⟩:=h.2.2 _ _ _ A
  refine ⟨J,fun M=>?_⟩
  obtain ⟨L,k,i,b,B,c,j,m,w,G⟩:=F M
  exact ⟨L,k,i,b,B,by rw [← t.at_ H f.1];omega,by rw [t.β];omega,m,by rw [← zoc t.at_ f.2];omega,by grind [znS]⟩
theorem SV.inst_hasTy {s:SV}{T}(h:(s.inst n0 sg).hasTy T):s.hasTy T:=by cases s<;>exact h
mutual
theorem Tr.crep (t:Tr n n0 sg X X'):∀ {s:SV}{j:List Value},s.okAt n=true→CRep X (s.inst n0 sg) j→CRep X' s j
 | .un _,j,_,h=>by grind [SV.inst,CRep]
 | .cv _,j,_,h=>by grind [SV.inst,CRep]
 | .d T a,j,b,h=>by
  obtain ⟨d,k,c⟩:=h
  exact ⟨d,by rw [← t.at_ a b];omega,c.keep t.K⟩
 | .ag T l,j,b,h=>by
  cases T<;>simp only [SV.inst,CRep] at h ⊢
  exact Tr.crepL t b h
 | .fn f x G,j,b,h=>by
  simp [SV.okAt] at b
  obtain ⟨x,m,k,c,y⟩:=h
  exact ⟨x,m,k,Tr.vrepL t b.1 c,Tr.vrepL t b.2 y⟩
 | .tu _,_,_,h=>by grind [SV.inst,CRep]
 | .h e r F,j,b,h=>by obtain ⟨v,k,c⟩:=h;exact ⟨v,k,t.ref b c⟩
 | .hc e r i,j,b,h=>by obtain ⟨v,k,c⟩:=h;exact ⟨v,k,t.ref b c⟩
 | .mr K V r,j,b,h=>by obtain ⟨v,k,c⟩:=h;exact ⟨v,k,t.ref b c⟩
 | .z e a,j,b,h=>by obtain ⟨v,k,c⟩:=h;exact ⟨v,k,t.ref b c⟩
 | .p R T r q,j,b,h=>by obtain ⟨v,k,c⟩:=h;exact ⟨v,k,t.ref b c⟩
 | .pd T a,j,b,h=>by obtain ⟨v,k,c⟩:=h;exact ⟨v,k,t.ref b c⟩
 | .hb R e n r q,j,b,h=>by obtain ⟨v,k,c⟩:=h;exact ⟨v,k,t.ref b c⟩
 | .hr e r i g,j,b,h=>by obtain ⟨v,k,c⟩:=h;exact ⟨v,k,t.ref b c⟩
 | .pm e T r i q g,j,b,h=>by obtain ⟨v,k,c⟩:=h;exact ⟨v,k,t.ref b c⟩
theorem Tr.crepL (t:Tr n n0 sg X X'):∀ {l:List SV}{A:List Ty}{j:List Value},SV.okAtL n l=true→CRepL X (SV.instL n0 sg l) A j→CRepL X' l A j
 | [],[],j,_,h=>by grind [CRepL]
 | s::l,T::A,j,b,h=>by
  simp [SV.okAtL] at b
  obtain ⟨H,I,e,B,k,c⟩:=h
  exact ⟨H,I,e,SV.inst_hasTy B,Tr.crep t b.1 k,Tr.crepL t b.2 c⟩
 | [],_::_,_,_,h=>by grind [SV.instL,CRepL]
 | _::_,[],_,_,h=>by grind [SV.instL,CRepL]
theorem Tr.vrep (t:Tr n n0 sg X X'):∀ {s:SV}{v:Value},s.okAt n=true→VRep X (s.inst n0 sg) v→VRep X' s v
 | .un _,v,_,h=>by simp [VRep]
 | .cv v',v,_,h=>by grind [SV.inst,VRep]
 | .d T a,v,b,h=>by
  obtain ⟨d,k,c⟩:=VRep.data.1 h
  exact VRep.data.2 ⟨d,by rw [← t.at_ a b];omega,c.keep t.K⟩
 | .ag T l,v,b,h=>by
  cases T<;>simp only [SV.inst,VRep] at h ⊢
  obtain ⟨j,k,c⟩:=h
  exact ⟨j,k,Tr.crepL t b c⟩
 | .fn f x G,v,b,h=>by
  simp [SV.okAt] at b
  obtain ⟨x,m,k,c,y⟩:=h
  exact ⟨x,m,k,Tr.vrepL t b.1 c,Tr.vrepL t b.2 y⟩
 | .tu l,v,b,h=>by
  obtain ⟨m,k,c⟩:=h
  exact ⟨m,k,Tr.vrepL t b c⟩
 | .h e r F,j,b,h=>by exact t.ref b h
 | .hc e r i,j,b,h=>by exact t.ref b h
 | .mr K V r,j,b,h=>by exact t.ref b h
 | .z e a,j,b,h=>by exact t.ref b h
 | .p R T r q,j,b,h=>by exact t.ref b h
 | .pd T a,j,b,h=>by exact t.ref b h
 | .hb R e n r q,j,b,h=>by exact t.ref b h
 | .hr e r i g,j,b,h=>by exact t.ref b h
 | .pm e T r i q g,j,b,h=>by exact t.ref b h
theorem Tr.vrepL (t:Tr n n0 sg X X'):∀ {l:List SV}{m:List Value},SV.okAtL n l=true→VRepL X (SV.instL n0 sg l) m→VRepL X' l m
 | [],m,_,h=>by grind [SV.instL,VRepL]
 | s::l,m,b,h=>by
  simp [SV.okAtL] at b
  obtain ⟨v,r,e,k,c⟩:=h
  exact ⟨v,r,e,Tr.vrep t b.1 k,Tr.vrepL t b.2 c⟩
end
theorem Tr.row (t:Tr n n0 sg X X') {r e a z}(j:a.okAt n=true) (h:RowRep X r e (a.inst n0 sg) z):RowRep X' r e a z:=by
 obtain ⟨d,h1,f⟩:=h
 refine ⟨d,by rw [← t.at_ a j];omega,?_⟩
 rw [t.β,t.w]
 rcases f with f|⟨b,c,m,o,l,p,q,s,u,v,w,x⟩
 ·grind
 ·have K:=t.K
  rw [t.w] at K
  exact .inr ⟨b,c,m,o,l,p,q,s,u,v,w.keep K,x⟩
theorem Tr.mem {I}(t:Tr n n0 sg X X') (m:Mem I X):Mem I X' where
 rep:=fun r O=>by
  have F:=(t.A r).1 O
  have h:=m.rep r F
  have f:=t.ok r F
  rw [t.μ r F] at h
  cases p:X'.μ r with
  | dead=>trivial
  | box T v =>
   rw [p] at h f
   obtain ⟨b,c,w,j,o,z,u⟩:=h
   exact ⟨b,c,w,by rw [t.β];omega,by rw [t.w];omega,SV.inst_hasTy z,t.crep f u⟩
  | row e a=>rw [p] at h f;exact t.row f h
  | fz e a =>
   rw [p] at h f
   exact ⟨t.row f h.1,fun b B H=>h.2 b (by rw [t.β] at B;omega) ((t.M b).1 H)⟩
  | lt e a q=>rw [p] at h f;exact t.row f h
  | ow e a J U =>
   rw [p] at h f
   obtain ⟨l,b,c,w,G,k,i,S,j,o,z,u,h5,h6,P,Q⟩:=h
   have L:a.okAt n=true∧J.okAt n=true:=by grind [Root.okAt]
   have K:=t.K
   rw [t.w] at K
   exact ⟨l,b,c,w,G,k,i,S,by rw [← t.at_ a L.1];omega,by rw [t.β];omega,by rw [t.w];omega,by rw [t.w];exact u.keep K,by rw [← t.at_ J L.2];omega,h6,P,(t.vrep (s:=.h e U none) rfl (by exact Q))⟩
  | bo e a =>
   rw [p] at h f
   refine ⟨t.row f h.1,fun b B=>?_⟩
   rcases h.2 b (by rw [t.β] at B;omega) with R|⟨q,e',a',M,y,q3⟩
   ·exact .inl fun H=>R ((t.M b).1 H)
   ·rw [t.μ q M] at y
    cases N:X'.μ q<;>rw [N] at y<;>simp [Root.inst,reduceCtorEq] at y
    obtain ⟨_,_,q4⟩:=y
    subst q4
    exact .inr ⟨q,_,_,(t.A q).2 M,N,by rw [t.β];omega⟩
  | mat e a g =>
   rw [p] at h f
   obtain ⟨d,j,o⟩:=h
   refine ⟨d,by rw [← t.at_ a f];omega,?_⟩
   have K:=t.K
   rw [t.w] at K
   rw [t.β,t.w]
   rcases o with o|⟨b,c,w,l,G,p1,p2,p3,p4,p5⟩
   ·grind
   ·exact .inr ⟨b,c,w,l,G,p1,p2,p3,p4.keep K (fun _ _=>rfl),p5⟩
  | mp kt vt a =>
   rw [p] at h f
   obtain ⟨l,b,es,clk,j,o,z,u⟩:=h
   have K:=t.K
   rw [t.w] at K
   exact ⟨l,b,es,clk,by rw [← t.at_ a f];omega,by rw [t.β];omega,by rw [t.w];omega,by rw [t.w];exact u.keep K⟩
 apart:=fun r x b j o z u=>m.apart r x b ((t.A r).1 j) ((t.A x).1 o) (by rw [t.μ r ((t.A r).1 j),Root.inst_own,← t.β];omega) (by rw [t.μ x ((t.A x).1 o),Root.inst_own,← t.β];omega)
 once:=fun r j=>by
  have:=m.once r ((t.A r).1 j)
  rw [t.μ r ((t.A r).1 j),Root.inst_own,← t.β] at this
  omega
 low:=fun r b j o=>m.low r b ((t.A r).1 j) (by rw [t.μ r ((t.A r).1 j),Root.inst_own,← t.β];omega)
 frame:=fun b h=>m.frame b (t.F▸h)
theorem Tr.ext {l}(t:Tr n n0 sg X X') (x:Ext l X) (H:∀ (i:Nat) (d:D),l.E[i]?=some d→X'.E[i]?=some d):Ext l X' where
 E:=H
 K:=x.K.trans t.K
 A:=fun r h=>(t.A r).2 (x.A r h)
 F:=t.F.trans x.F
 β:=fun r h=>⟨fun s=>(x.β r h).1 (by rw [t.μ r (x.A r h),Root.inst_there];omega),by rw [t.β];exact (x.β r h).2⟩
 row:=fun r e a d h s y u=>by
  obtain ⟨m,w,f,r2,z⟩:=x.row r e a d h (by rw [t.μ r (x.A r h),Root.inst_there];omega) y u
  rw [t.μ r (x.A r h)] at f
  obtain ⟨p,j,o⟩:=Root.inst_row f
  subst o
  exact ⟨p,w,j,by rw [← t.at_ p (Root.row_ok j (t.ok r (x.A r h)))];omega,z⟩
 mat:=fun r e m g h B=>by
  have c:=t.μ r (x.A r h)
  have v:=t.ok r (x.A r h)
  rw [B] at c v
  obtain ⟨a,I,f,q⟩:=x.mat r e _ g h c
  refine ⟨a,I,f,fun J=>?_⟩
  obtain ⟨j,o,q3⟩:=q J
  rw [t.β,t.w]
  exact ⟨j,o,fun d u=>by rw [← t.at_ m v];grind⟩
 gen:=fun r e a g L m M h N O=>by
  have c:=t.μ r (x.A r h)
  rw [O] at c
  exact x.gen r e a g L _ M h N c
 size:=fun r b k h s P G=>by
  rw [t.w]
  exact x.size r b k h (by rw [t.μ r (x.A r h),Root.inst_there];omega) P G
end
theorem At.inst_nil {n}{a:At}(h:a.okAt n=true):a.inst n []=a:=by
 cases a with
 | c d=>rfl
 | v i =>
  simp_all [At.okAt,At.inst]
theorem zeG {n}:∀ {q},zfI n q=true→q.map (Stp.inst n [])=q
 | [],_=>rfl
 | .f j::q,h=>by
  simp [zfI,Stp.okAt] at h
  simp [Stp.inst,zeG h]
 | .i a::q,h=>by
  simp [zfI,Stp.okAt] at h
  simp [Stp.inst,At.inst_nil h.1,zeG h.2]
mutual
theorem SV.inst_nil {n:Nat}:∀ {s:SV},s.okAt n=true→s.inst n []=s
 | .un _,_=>rfl
 | .cv _,_=>rfl
 | .d T a,c=>by grind [SV.okAt,SV.inst,At.inst_nil]
 | .pd T a,c=>by grind [SV.okAt,SV.inst,At.inst_nil]
 | .z e a,c=>by grind [SV.okAt,SV.inst,At.inst_nil]
 | .hc e r a,c=>by grind [SV.okAt,SV.inst,At.inst_nil]
 | .mr _ _ _,_=>rfl
 | .h e r none,_=>rfl
 | .h e r (some (a,b)),c=>by grind [SV.okAt,zzh,SV.inst,zGg,At.inst_nil]
 | .p R T r q,c=>by grind [SV.okAt,SV.inst,zeG]
 | .hb R e k r q,c=>by grind [SV.okAt,SV.inst,zeG]
 | .hr e r i g,c=>by grind [SV.okAt,SV.inst,At.inst_nil]
 | .pm e T r i q g,c=>by grind [SV.okAt,SV.inst,At.inst_nil,zeG]
 | .ag T l,c=>by simp only [SV.inst,SV.instL_nil c]
 | .tu l,c=>by simp only [SV.inst,SV.instL_nil c]
 | .fn f a l,c=>by simp_all [SV.okAt,SV.inst,SV.instL_nil]
theorem SV.instL_nil {n:Nat}:∀ {l:List SV},SV.okAtL n l=true→SV.instL n [] l=l
 | [],_=>rfl
 | s::l,c=>by
  simp [SV.okAtL] at c
  simp only [SV.instL,SV.inst_nil c.1,SV.instL_nil c.2]
end
theorem Root.inst_nil {n}{R:Root}(h:R.okAt n=true):R.inst n []=R:=by
 cases R<;>simp [Root.okAt] at h<;>simp only [Root.inst,At.inst_nil,SV.inst_nil,h]
theorem zdc {n}:∀ {l}{r},ziQ n l=true→(zbg l r).okAt n=true
 | [],r,_=>by rfl
 | R::l,0,h=>by simp [ziQ] at h;exact h.1
 | R::l,r + 1,h=>by
  simp [ziQ] at h
  exact zdc (l:=l) (r:=r) h.2
end Go.SX
namespace Go.SX
open Go.RowKit (Below)
theorem zlx:∀ {q c},zk2 q c=true→q=c
 | [],[],_=>rfl
 | a::l,b::l',h=>by
  simp [zk2] at h
  have d:a=b:=by
   cases a<;>cases b<;>simp [Stp.beq] at h
   all_goals grind [zbv,At.beq_eq]
  rw [d,zlx h.2]
 | [],_::_,h=>by grind [zk2]
 | _::_,[],h=>by grind [zk2]
theorem zHC:∀ {a b},zGc a b=true→a=b
 | none,none,_=>rfl
 | some (a,b),some (c,d),h=>by grind [zGc,At.beq_eq]
 | none,some _,h=>by grind [zGc]
 | some _,none,h=>by grind [zGc]
theorem zEL {a b}(h:zFr a b=true):a=b:=by
 unfold zFr at h
 grind
section
variable {X:Ctx}
mutual
theorem CRep.csize:∀ {s:SV}{b:List Value},CRep X s b→b.length=s.csize
 | .un n,b,h=>by exact h.1
 | .cv v,b,h=>by
  rw [h.1,SV.csize,h.2.cells]
  rfl
 | .d f a,b,h=>by obtain ⟨d,_,h⟩:=h;exact h.length
 | .ag f l,b,h=>by
  cases f<;>simp only [CRep] at h
  exact CRepL.csize h
 | .fn _ _ _,b,h=>by grind [CRep,SV.csize]
 | .tu _,b,h=>by grind [CRep]
 | .h _ _ _,b,h=>by grind [CRep,SV.csize]
 | .hc _ _ _,b,h=>by grind [CRep,SV.csize]
 | .mr _ _ _,b,h=>by grind [CRep,SV.csize]
 | .z _ _,b,h=>by grind [CRep,SV.csize]
 | .hb _ _ _ _ _,b,h=>by grind [CRep,SV.csize]
 | .hr _ _ _ _,b,h=>by grind [CRep,SV.csize]
 | .p _ _ _ _,b,h=>by grind [CRep,SV.csize]
 | .pm _ _ _ _ _ _,b,h=>by grind [CRep,SV.csize]
 | .pd _ _,b,h=>by grind [CRep,SV.csize]
theorem CRepL.csize:∀ {l:List SV}{c:List Ty}{b:List Value},CRepL X l c b→b.length=SV.csizeL l
 | [],[],b,h=>by grind [CRepL,SV.csizeL]
 | s::l,T::c,b,h=>by
  obtain ⟨c1,c2,e,ht,i,g⟩:=h
  simp [e,SV.csizeL,CRep.csize i,CRepL.csize g]
 | [],_::_,_,h=>by grind [CRepL]
 | _::_,[],_,h=>by grind [CRepL]
end
theorem zfD {a b:SV}(c:a.le b=true):(∃ n,b=.un n∧a.csize=n)∨(∃ T l j,a=.ag T l∧b=.ag T j∧SV.leL l j=true)∨(∃ l j,a=.tu l∧b=.tu j∧SV.leL l j=true) ∨
  (∃ f u k l j,a=.fn f u l∧b=.fn f k j∧SV.leL u k=true∧SV.leL l j=true)∨a=b:=by
 cases b with
 | un n=>exact .inl ⟨n,rfl,zbv (by cases a<;>exact c)⟩
 | cv v=>cases a<;>simp [SV.le] at c;grind [zEL]
 | d T x=>cases a<;>simp [SV.le] at c;grind [Ty.beq_eq,At.beq_eq]
 | ag T l =>
  cases a<;>simp [SV.le] at c
  exact .inr (.inl ⟨_,_,_,by grind [Ty.beq_eq],rfl,c.2⟩)
 | h e r vw=>cases a<;>simp [SV.le] at c;grind [Ty.beq_eq,zbv,zHC]
 | mr K V r=>cases a<;>simp [SV.le] at c;grind [Ty.beq_eq,zbv]
 | z e x=>cases a<;>simp [SV.le] at c;grind [Ty.beq_eq,At.beq_eq]
 | p R T r q=>cases a<;>simp [SV.le] at c;grind [Ty.beq_eq,zbv,zlx]
 | pd T x=>cases a<;>simp [SV.le] at c;grind [Ty.beq_eq,At.beq_eq]
 | hb R e n r q=>cases a<;>simp [SV.le] at c;grind [Ty.beq_eq,zbv,zlx]
 | hr e r i g=>cases a<;>simp [SV.le] at c;grind [Ty.beq_eq,zbv,At.beq_eq]
 | hc e r i=>cases a<;>simp [SV.le] at c;grind [Ty.beq_eq,zbv,At.beq_eq]
 | pm e T r i q g=>cases a<;>simp [SV.le] at c;grind [Ty.beq_eq,zbv,At.beq_eq,zlx]
 | fn f u l =>
  cases a<;>simp [SV.le] at c
  exact .inr (.inr (.inr (.inl ⟨f,_,_,_,_,by simp_all,rfl,c.1.2,c.2⟩)))
 | tu l =>
  cases a<;>simp [SV.le] at c
  grind
theorem zCo {a b T k}(m:a.le b=true) (g:a.hasTy T) (i:CRep X a k):b.hasTy T:=by
 rcases zfD m with ⟨n,e,h⟩|⟨T',l,j,c,d,_⟩|⟨l,j,c,d,_⟩|⟨f,u,u',l,j,c,d,_⟩|e
 ·subst e
  simp only [SV.hasTy]
  rw [← h,← CRep.csize i,CRep.length g i]
 ·subst c d;exact g
 ·subst c d;exact g
 ·subst c d;exact g
 grind
mutual
theorem zFJ:∀ {b a:SV}{m:List Value},a.le b=true→CRep X a m→CRep X b m
 | b,a,m,g,w=>by
  cases t:b with
  | ag G j =>
   subst t
   rcases zfD g with ⟨n,e,h⟩|⟨T,l,i,d,c,h⟩|⟨l,i,d,c,_⟩|⟨f,u,A,l,i,d,c,_⟩|e
   ·grind
   ·injection c with c q
    subst d c q
    cases G<;>simp only [CRep] at w ⊢
    exact zxf h w
   all_goals grind
  | fn f' A j =>
   subst t
   rcases zfD g with ⟨n,e,h⟩|⟨T,l,i,d,c,h⟩|⟨l,i,d,c,_⟩|⟨f,u,I,l,i,d,c,k,o⟩|e
   ·cases e
   ·cases c
   ·cases c
   ·injection c with c q B
    subst d c q B
    simp only [CRep] at w ⊢
    obtain ⟨z,p,y,x,F⟩:=w
    exact ⟨z,p,y,zlN k x,zlN o F⟩
   ·subst e;exact w
  | un n =>
   grind [zfD,CRep,CRep.csize,CRep.ones]
  | tu j =>
   grind [zfD,CRep]
  | _ =>
   grind [zfD]
theorem zxf:∀ {j l:List SV}{H:List Ty}{m:List Value},SV.leL l j=true→CRepL X l H m→CRepL X j H m
 | [],[],_,m,_,h=>h
 | b::j,a::l,T::H,m,g,h=>by
  simp [SV.leL] at g
  simp only [CRepL] at h ⊢
  obtain ⟨c1,c2,e,h0,k,o⟩:=h
  exact ⟨c1,c2,e,zCo g.1 h0 k,zFJ g.1 k,zxf g.2 o⟩
 | _::_,[],_,_,h,_=>by grind [SV.leL]
 | [],_::_,_,_,h,_=>by grind [SV.leL]
 | _::_,_::_,[],_,_,h=>by grind [CRepL]
theorem zGi:∀ {b a:SV}{v:Value},a.le b=true→VRep X a v→VRep X b v
 | b,a,v,g,s=>by
  cases t:b with
  | ag G j =>
   subst t
   rcases zfD g with ⟨n,e,h⟩|⟨T,l,i,d,c,h⟩|⟨l,i,d,c,_⟩|⟨f,u,A,l,i,d,c,_⟩|e
   ·grind
   ·injection c with c q
    subst d c q
    cases G<;>simp only [VRep] at s ⊢
    obtain ⟨m,k,o⟩:=s
    exact ⟨m,k,zxf h o⟩
   all_goals grind
  | fn f' A j =>
   subst t
   rcases zfD g with ⟨n,e,h⟩|⟨T,l,i,d,c,h⟩|⟨l,i,d,c,_⟩|⟨f,u,I,l,i,d,c,k,o⟩|e
   ·cases e
   ·cases c
   ·cases c
   ·injection c with c q B
    subst d c q B
    simp only [VRep] at s ⊢
    obtain ⟨z,p,y,x,F⟩:=s
    exact ⟨z,p,y,zlN k x,zlN o F⟩
   ·subst e;exact s
  | tu j =>
   subst t
   rcases zfD g with ⟨n',e,h⟩|⟨T,l,i,d,c,h⟩|⟨l,i,d,c,h⟩|⟨f,u,I,l,i,d,c,k,o⟩|e
   ·cases e
   ·cases c
   ·injection c with c
    subst d c
    obtain ⟨p,y,x⟩:=s
    exact ⟨p,y,zlN h x⟩
   ·cases c
   ·subst e;exact s
  | un n=>simp [VRep]
  | _ =>
   grind [zfD]
theorem zlN:∀ {j l:List SV}{p:List Value},SV.leL l j=true→VRepL X l p→VRepL X j p
 | [],[],_,_,h=>h
 | b::j,a::l,p,g,h=>by
  simp [SV.leL] at g
  obtain ⟨v,r,e,k,o⟩:=h
  exact ⟨v,r,e,zGi g.1 k,zlN g.2 o⟩
 | _::_,[],_,h,_=>by grind [SV.leL]
 | [],_::_,_,h,_=>by grind [SV.leL]
end
theorem zBx {a b v}(d:a.leSlot b=true) (c:VRep X a v):VRep X b v:=by
 cases b with
 | un n=>simp [VRep]
 | _=>exact zGi d c
variable {B0:Nat}
theorem Mem.rebox (m:Mem B0 X) (o:B0≤X.w.heap.size) {r T v e}(f:X.A r) (d:X.μ r=.box T v) (l:v.le e=true):Ext X { X with μ:=upd X.μ r (.box T e) }∧Mem B0 { X with μ:=upd X.μ r (.box T e) }:=by
 refine Mem.change m o (fun q=>q=r) (fun _ _ h=>h) (fun _ h=>h) (fun q h=>.inl h) (fun q a=>⟨upd_ne _ _ a,rfl⟩) (fun _ _ _=>rfl) (fun _ _ h=>h) ?_ ?_ ?_ (fun _ _ _=>rfl) ?_ ?_
 ·intro q b a _ i
  subst a
  simp only [upd_same] at i
  exact .inr ⟨q,rfl,f,by rw [d];exact i⟩
 ·omega
 ·intro q a _
  subst a
  have:=m.once q f
  rw [d] at this
  simp only [upd_same]
  exact this
 ·intro q a _ _
  subst a
  refine ⟨by rw [d];rfl,fun p s d1 g hd=>?_,fun p s g1 g=>?_⟩
  ·rw [d] at g
   cases g
  grind [upd_same]
 ·intro x q a _
  subst a
  simp only [upd_same]
  have n:=m.rep q f
  rw [d] at n
  obtain ⟨b,c,t,u,w,y,k⟩:=n
  exact ⟨b,c,t,u,w,zCo l y k,CRep.ext x (zFJ l k)⟩
theorem Mem.same_root (m:Mem B0 X) {r}:Ext X { X with μ:=upd X.μ r (X.μ r) }∧Mem B0 { X with μ:=upd X.μ r (X.μ r) }:=by
 have:upd X.μ r (X.μ r)=X.μ:=by grind [upd_same,upd_ne]
 simp_all [Ext.refl]
theorem Mem.weaken (m:Mem B0 X) (d:B0≤X.w.heap.size) {r R}(l:X.A r) (b:(X.μ r).le R=true):Ext X { X with μ:=upd X.μ r R }∧Mem B0 { X with μ:=upd X.μ r R }:=by
 cases c:X.μ r with
 | dead =>
  rw [c] at b
  cases R<;>simp [Root.le] at b
  exact m.kill d r (by rw [c];rfl)
 | box T v =>
  rw [c] at b
  cases R with
  | dead=>exact m.kill d r (by rw [c];rfl)
  | box T' v' =>
   simp [Root.le] at b
   have:=Ty.beq_eq b.1
   subst this
   exact m.rebox d l c b.2
  | _=>grind [Root.le]
 | row e a =>
  rw [c] at b
  cases R with
  | dead=>exact m.kill d r (by rw [c];rfl)
  | row k j =>
   simp [Root.le] at b
   have h:=Ty.beq_eq b.1
   have f:=At.beq_eq b.2
   subst h f
   exact m.lower d l (.inl c) (.inr rfl)
  | fz k j =>
   simp [Root.le] at b
   have h:=Ty.beq_eq b.1
   have f:=At.beq_eq b.2
   subst h f
   exact m.lower d l (.inl c) (.inl rfl)
  | _=>grind [Root.le]
 | mat e a g =>
  rw [c] at b
  cases R with
  | dead=>exact m.kill d r (by rw [c];rfl)
  | row k j =>
   simp [Root.le] at b
   have h:=Ty.beq_eq b.1
   have f:=At.beq_eq b.2
   subst h f
   exact m.lower d l (.inr ⟨e,g,rfl,c⟩) (.inr rfl)
  | fz k j =>
   simp [Root.le] at b
   have h:=Ty.beq_eq b.1
   have f:=At.beq_eq b.2
   subst h f
   exact m.lower d l (.inr ⟨e,g,rfl,c⟩) (.inl rfl)
  | mat k j g' =>
   simp only [Root.le,wD0] at b
   have h:=Ty.beq_eq b.1.1
   have f:=At.beq_eq b.1.2
   have o:=zbv b.2
   subst h f o
   rw [← c]
   exact m.same_root
  | _=>grind [Root.le]
 | mp K V a =>
  rw [c] at b
  cases R with
  | dead=>exact m.kill d r (by rw [c];rfl)
  | mp K' V' j =>
   simp [Root.le] at b
   have h:=Ty.beq_eq b.1.1
   have f:=Ty.beq_eq b.1.2
   have o:=At.beq_eq b.2
   subst h f o
   rw [← c]
   exact m.same_root
  | _=>grind [Root.le]
 | fz e a =>
  rw [c] at b
  cases R with
  | dead=>exact m.kill d r (by rw [c];rfl)
  | fz k j =>
   simp [Root.le] at b
   have h:=Ty.beq_eq b.1
   have f:=At.beq_eq b.2
   subst h f
   rw [← c]
   exact m.same_root
  | _=>grind [Root.le]
 | lt e a q =>
  grind [Root.le]
 | ow e a ix q =>
  cases R with
  | dead=>exact m.kill d r (by rw [c];rfl)
  | _=>grind [Root.le]
 | bo e a =>
  cases R with
  | dead=>exact m.kill d r (by rw [c];rfl)
  | _=>grind [Root.le]
theorem Mem.outside (m:Mem B0 X) {μ'}(h:∀ r,X.A r→μ' r=X.μ r):Ext X { X with μ:=μ' }∧Mem B0 { X with μ:=μ' }:=by
 have n:∀ b,Ctx.M { X with μ:=μ' } b→X.M b:=fun b i=>by
  rcases i with i|⟨r,c,k⟩
  ·exact .inl i
  ·exact .inr ⟨r,c,by grind⟩
 have x:Ext X { X with μ:=μ' } :=
  {E:=fun _ _ h=>h
   K:=⟨fun _ _ _=>rfl,fun _ _ h p=>h (n _ p)⟩
   F:=rfl
   A:=fun _ h=>h
   β:=fun r f=>⟨fun ht=>by grind,rfl⟩
   row:=fun r e a d f _ j l=>⟨a,d,by grind,l,sameLen.refl d⟩
   mat:=fun r e a g f j=>⟨a,g,by grind,fun _=>⟨rfl,fun _ _ _ h=>h,fun d l=>⟨d,l,sameRows.refl d⟩⟩⟩
   gen:=fun r e a g t u g' f c k=>by grind
   size:=fun _ _ _ _ _ _ h=>h }
 refine ⟨x,Mem.of x m (fun r f=>.inl ⟨f,h r f,rfl,fun _ _=>rfl,fun e a b j i=>⟨rfl,fun v=>?_⟩,fun e a b j i=>⟨rfl,?_⟩⟩) (fun r o b c k h3 h4=>m.apart r o b c k (by grind) (by grind)) (fun r c=>?_) (fun r b c k=>m.low r b c (by grind))⟩
 ·have:=m.rep r f
  rw [j] at this
  exact this.2 b i (n _ v)
 ·have:=m.rep r f
  rw [j] at this
  rcases this.2 b i with hn|⟨q,t,u,q1,q2,q3⟩
  all_goals grind
 ·have:=m.once r c
  grind
theorem Mem.weakenAll (m:Mem B0 X) (l:B0≤X.w.heap.size) {μ' N}(s:∀ r,X.A r→r<N) (u:∀ r,X.A r→μ' r=X.μ r∨(X.μ r).le (μ' r)=true):Ext X { X with μ:=μ' }∧Mem B0 { X with μ:=μ' }:=by
 have o:∀ n,Ext X { X with μ:=fun r=>if r<n then (if X.w.heap.size=X.w.heap.size then (match (Classical.propDecidable (X.A r)) with|.isTrue _=>μ' r|.isFalse _=>X.μ r) else X.μ r) else X.μ r }∧Mem B0 { X with μ:=fun r=>if r<n then (if X.w.heap.size=X.w.heap.size then (match (Classical.propDecidable (X.A r)) with|.isTrue _=>μ' r|.isFalse _=>X.μ r) else X.μ r) else X.μ r }:=by
  intro n
  induction n with
  | zero =>
   simp_all [Ext.refl]
  | succ n j =>
   generalize hμ1:(fun r=>if r<n then (if X.w.heap.size=X.w.heap.size then (match (Classical.propDecidable (X.A r)) with|.isTrue _=>μ' r|.isFalse _=>X.μ r) else X.μ r) else X.μ r)=e at j
   obtain ⟨a,c⟩:=j
   have i:e n=X.μ n:=by grind
   have w:(fun r=>if r<n + 1 then (if X.w.heap.size=X.w.heap.size then (match (Classical.propDecidable (X.A r)) with|.isTrue _=>μ' r|.isFalse _=>X.μ r) else X.μ r) else X.μ r)=upd e n (match (Classical.propDecidable (X.A n)) with|.isTrue _=>μ' n|.isFalse _=>X.μ n):=by
    funext r
    by_cases h:r=n
    ·subst h;simp [upd_same]
    grind [upd_ne]
   rw [w]
   cases p:Classical.propDecidable (X.A n) with
   | isFalse q =>
    rw [← i]
    obtain ⟨b,d⟩:=c.same_root (r:=n)
    exact ⟨a.trans b,d⟩
   | isTrue g =>
    rcases u n g with h|h
    ·rw [h,← i]
     obtain ⟨b,d⟩:=c.same_root (r:=n)
     exact ⟨a.trans b,d⟩
    ·have v:(({ X with μ:=e }:Ctx).μ n).le (μ' n)=true:=by grind
     obtain ⟨b,d⟩:=c.weaken (X:={ X with μ:=e }) l g v
     exact ⟨a.trans b,d⟩
 obtain ⟨a,c⟩:=o N
 have k:=c.outside (X:={ X with μ:=fun r=>if r<N then (if X.w.heap.size=X.w.heap.size then (match (Classical.propDecidable (X.A r)) with|.isTrue _=>μ' r|.isFalse _=>X.μ r) else X.μ r) else X.μ r }) (μ':=μ') (fun r t=>by
  show μ' r=if r<N then _ else _
  rw [if_pos (s r t),if_pos rfl]
  cases p:Classical.propDecidable (X.A r) with
  | isTrue _=>rfl
  | isFalse q=>grind)
 exact ⟨a.trans k.1,k.2⟩
end
end Go.SX
namespace Go.SX
open Go.RowKit (Below)
def InlOk (cx:Cx) (C:FuncId→List D→Option (List D)) (k:Nat) (inl:FuncId→List SV→Nat→List Root→Option Inl):Prop :=
 ∀ (f:FuncId) (args:List SV) (nv:Nat) (mem:List Root) (i:Inl),inl f args nv mem=some i→mem.length≤i.mem.length →
  ∀ (B0:Nat) (X:Ctx) (vals:Array Value),X.E.length=nv→(∀ r,X.A r↔r<mem.length)→X.μ=zbg mem→Mem B0 X→B0≤X.w.heap.size→VRepL X args vals.toList →
   ∀ bk vs,ev C k i.t X.E=some (.jmp 0 bk vs)→vs.length=i.m →
    Calls cx.P f vals X.w fun e w'=>∃ v,e=.returned v∧∃ X':Ctx,X'.E=X.E++vs∧X'.w=w'∧(∀ r,X'.A r↔r<i.mem.length)∧X'.μ=zbg i.mem∧Ext X X'∧Mem B0 X'∧Below B0 X.w w'∧VRep X' i.res v
section
variable {C:FuncId→List D→Option (List D)} {k B0:Nat} {X:Ctx} {cx:Cx}
theorem zpF {c}:∀ {n r}{l}{a b},Run (zC3 n r) c a l b→b=a∧l.length=n∧∀ j,j<n→l[j]?=some (now c a.up (r + j))
 | 0,r,l,a,b,h=>by grind [zC3,Run.pure]
 | n + 1,r,l,a,b,h=>by
  obtain ⟨R,s1,e,f⟩:=Run.bind h
  obtain ⟨eR,g⟩:=Run.root e
  obtain ⟨l',s2,i,d⟩:=Run.bind f
  obtain ⟨e1,e2⟩:=Run.pure d
  obtain ⟨g,hl,hg⟩:=zpF i
  grind
theorem zif (b) (a) (r q) (R):now b ((r,R)::a) q=if q=r then R else now b a q:=by rw [zca];rfl
theorem ziN {c}:∀ {l o}{r}{u}{a b},Run (zv2 r o l) c a u b→(o≠[]→r + o.length=a.ab)→(o=[]→r=a.ab)→o.length≤l.length→(∀ j O,o[j]?=some O→now c a.up (r + j)=O) →
  b.bs=a.bs∧b.nv=a.nv∧b.ab=r + l.length∧(∀ q,q<r→now c b.up q=now c a.up q)∧(∀ q,r + l.length≤q→now c b.up q=now c a.up q) ∧
   ∀ j R,l[j]?=some R→now c b.up (r + j)=R∨(j<o.length∧R.le (now c b.up (r + j))=true)
 | [],o,r,u,a,b,h,s,w,y,p=>by
  have ho:o=[]:=List.eq_nil_of_length_eq_zero (by grind)
  grind [zv2,Run.pure]
 | R::l,[],r,u,a,b,h,s,w,y,p=>by
  obtain ⟨n,F,f,t⟩:=Run.bind h
  obtain ⟨J,v⟩:=Run.new f
  subst J v
  have hr:=w rfl
  obtain ⟨k,i,A,e,m,z⟩:=ziN t (fun h=>absurd rfl h) (fun _=>by grind) (by simp) (fun j O d=>by grind)
  refine ⟨k,i,by grind,fun q g=>?_,fun q g=>?_,fun j G d=>?_⟩
  ·rw [e q (by omega),zif,if_neg (by omega)]
  ·simp  at g
   rw [m q (by omega),zif,if_neg (by omega)]
  grind [zif]
 | R::l,O::o,r,u,a,b,h,s,w,y,p=>by
  have H:=s (by simp)
  simp  at H
  rcases Run.ite h with ⟨hle,f⟩|⟨_,f⟩
  ·obtain ⟨k,i,A,e,m,z⟩:=ziN f (fun _=>by omega) (fun I=>by grind) (by grind) (fun j x d=>by
    have:=p (j + 1) x (by grind)
    grind)
   grind
  ·obtain ⟨_,F,t,B⟩:=Run.bind f
   have v:=Run.put t
   subst v
   obtain ⟨k,i,A,e,m,z⟩:=ziN B (fun _=>by grind) (fun I=>by grind) (by grind) (fun j x d=>by
    have:=p (j + 1) x (by grind)
    rw [zif,if_neg (by omega),← this];grind)
   refine ⟨k,i,by grind,fun q g=>?_,fun q g=>?_,fun j G d=>?_⟩
   ·rw [e q (by omega),zif,if_neg (by omega)]
   ·simp  at g
    rw [m q (by omega),zif,if_neg (by omega)]
   ·cases j with
    | zero =>
     simp at d
     subst d
     left
     rw [Nat.add_zero,e r (by omega),zif,if_pos rfl]
    | succ j =>
     grind
theorem Mem.moreE (m:Mem B0 X) (b:B0≤X.w.heap.size) {E'}(c:∀ (i:Nat) (d:D),X.E[i]?=some d→E'[i]?=some d):Ext X { X with E:=E' }∧Mem B0 { X with E:=E' }:=by
 refine Mem.change m b (fun _=>False) c (fun _ h=>h) (fun q h=>.inl h) (fun q _=>⟨rfl,rfl⟩) (fun _ _ _=>rfl) (fun _ _ h=>h) ?_ ?_ ?_ ?_ ?_ ?_
 all_goals simp
theorem zg3 {l r R}(h:l[r]?=some R):zbg l r=R:=by grind [zbg]
theorem ztw {l r}(h:l.length≤r):zbg l r=.dead:=by grind [zbg]
theorem zzJ {inl}(hI:InlOk cx C k inl) (hB:B0≤X.w.heap.size) (m:Mem B0 X) {f args sv s0 s'}(h0:s0.up=[])
  (h:Run (zlU inl f args) X.μ s0 sv s')
  (hs:Sat C k X.E s'.bs s'.nv) (hA:∀ r,X.A r↔r<s0.ab) {vs} (hv:VRepL X args vs.toList) :
  Calls cx.P f vs X.w fun e w'=>∃ v,e=.returned v∧∃ X',Nx B0 X X' s'.up s0.ab s'.ab w'∧VRep X' sv v:=by
 unfold zlU at h
 obtain ⟨⟨nv,ab⟩,s1,h1,h2⟩:=Run.bind h
 obtain ⟨e1,es⟩:=Run.nvab h1
 subst es
 simp only [Prod.mk.injEq] at e1
 obtain ⟨e1,e2⟩:=e1
 subst e1 e2
 obtain ⟨mem,s2,h3,h4⟩:=Run.bind h2
 obtain ⟨es,hlen,hget⟩:=zpF h3
 subst es
 obtain ⟨_,s3,h5,h6⟩:=Run.bind h4
 obtain ⟨hg,es⟩:=Run.guard h5
 subst es
 simp only [wD0] at hg
 simp only at h6
 cases hi:inl f args s3.nv mem with
 | none =>
  grind [zAe,Run.fail]
 | some i =>
  simp only [hi,zAe] at h6
  obtain ⟨_,s4,h7,h8⟩:=Run.bind h6
  obtain ⟨hg2,es⟩:=Run.guard h7
  subst es
  rw [Nat.ble_eq] at hg2
  obtain ⟨_,s5,h9,h10⟩:=Run.bind h8
  have es:=Run.sub h9
  subst es
  obtain ⟨_,s6,h11,h12⟩:=Run.bind h10
  obtain ⟨e1,e2⟩:=Run.pure h12
  subst e1 e2
  have hmem:∀ r,X.A r→zbg mem r=X.μ r:=fun r hr=>by
   rw [zg3 (hget r ((hA r).1 hr)),h0,vA0]
   rfl
  obtain ⟨g1,g2,g3,g4,g5,g6⟩:=ziN h11 (fun _=>by grind) (fun he=>by grind) hg2 (fun j O hj=>by grind)
  rw [g1,g2] at hs
  obtain ⟨n,en,⟨bk,rs,hn,c1,c2,c3⟩,_⟩:=hs
  have:n=s4.nv:=by grind [Bd.outs]
  subst this
  have tr:Tr s4.nv s4.nv [] X { X with E:=X.E.take s4.nv,μ:=zbg mem } :=
   {at_:=fun a ha=>by
     rw [At.inst_nil ha]
     cases a with
     | c d=>rfl
     | v j =>
      grind [At.okAt,Nat.blt_eq,At.get]
    w:=rfl
    A:=fun _=>Iff.rfl
    β:=rfl
    F:=rfl
    μ:=fun r hr=>by grind [Root.inst_nil,zdc]
    ok:=fun r _=>zdc hg.2 }
  refine (hI f args s4.nv mem i hi hg2 B0 _ vs (by grind) (fun r=>by grind) rfl (tr.mem m) hB (tr.vrepL hg.1 (by grind [SV.instL_nil])) bk rs c1 c2).mono fun e w' ⟨v,he,X',k1,k2,k3,k4,k5,k6,k7,k8⟩=>?_
  refine ⟨v,he,?_⟩
  have hE':∀ (j:Nat) (d:D),X'.E[j]?=some d→X.E[j]?=some d:=fun j d hj=>by grind
  obtain ⟨x1,m1⟩:=k6.moreE (by rw [k2];exact Nat.le_trans hB k7.size) hE'
  have hab  := by omega
  have hwk:=m1.weakenAll (X:={ X' with E:=X.E }) (by rw [k2];exact Nat.le_trans hB k7.size) (μ':=now X.μ s'.up) (N:=i.mem.length) (fun r hr=>(k3 r).1 hr) (fun r hr=>by
   have hr':=(k3 r).1 hr
   have hir:i.mem[r]?=some i.mem[r]:=wF0 hr'
   have hμr:X'.μ r=i.mem[r]:=by rw [k4,zg3 hir]
   grind)
  have xx:Ext X { X' with E:=X.E,μ:=now X.μ s'.up }:=by
   have x2:Ext { X with E:=X.E.take s4.nv,μ:=zbg mem } { X' with E:=X.E,μ:=now X.μ s'.up }:=(k5.trans x1).trans hwk.1
   exact
    {E:=fun _ _ h=>h
     K:=⟨fun b h hm=>x2.K.heap b h (fun hM=>hm ((tr.M _).1 hM)),fun b h hm=>x2.K.less b h (fun hM=>hm ((tr.M _).1 hM))⟩
     F:=x2.F
     A:=x2.A
     β:=fun r hr=>⟨fun ht=>by rw [← hmem r hr];exact (x2.β r hr).1 ht,(x2.β r hr).2⟩
     row:=fun r e a d hr ht h1 h2=>by
      have h1':(zbg mem r).row?=some (e,a):=by grind
      exact x2.row r e a d hr ht h1' (by have:=tr.at_ a (Root.row_ok h1' (zdc hg.2));rw [At.inst_nil (Root.row_ok h1' (zdc hg.2))] at this;exact this.symm.trans h2)
     mat:=fun r e a' g hr h1=>by
      obtain ⟨a,g0,q1,q2⟩:=x2.mat r e a' g hr h1
      have q1':zbg mem r=.mat e a g0:=q1
      have hok:a.okAt s4.nv=true:=by
       have:=zdc (r:=r) hg.2
       rw [q1'] at this
       exact this
      refine ⟨a,g0,by grind,fun eg=>?_⟩
      obtain ⟨p1,p2,p3⟩:=q2 eg
      exact ⟨p1,p2,fun d hd=>p3 d (by have:=tr.at_ a hok;rw [At.inst_nil hok] at this;exact this.symm.trans hd)⟩
     gen:=fun r e a g e' a' g' hr h1 h2=>x2.gen r e a g e' a' g' hr (by show zbg mem r=_;rw [hmem r hr];exact h1) h2
     size:=fun r b n hr ht hb hn=>x2.size r b n hr ht hb hn }
  refine ⟨{ X' with E:=X.E,μ:=now X.μ s'.up },⟨rfl,k2,rfl,fun r=>?_,xx,hwk.2,k7⟩,VRep.ext (x1.trans hwk.1) k8⟩
  grind
end
end Go.SX
namespace Go.SX
open Go.RowKit (Below)
section
variable {C:FuncId→List D→Option (List D)} {k B0:Nat} {X:Ctx} {cx:Cx}
theorem Holds.value {P o a sem d e c}(he:execOp a.eval o=(do let v←sem;pure (.value v))) (h:Acts P B0 X sem e c fun b v=>VRep b d v):Holds P B0 o a X d e.ab c:=by
 obtain ⟨v,w',b,h1,i,f⟩:=h
 exact Out.value (by simp_all) ⟨b,i,f⟩
theorem Holds.skip {P o a sem c d b}(he:execOp a.eval o=(do sem;pure .skip)) (h:Acts P B0 X sem d b fun _ _=>c=.un 1):Holds P B0 o a X c d.ab b:=by
 obtain ⟨v,w',g,h1,i,e⟩:=h
 subst e
 exact Out.skip (w':=w') (by simp_all) ⟨g,i,by simp [VRep]⟩
theorem Holds.same {P o a d}{b c:SS}{v}(m:Mem B0 X) (g:b.up=[]) (h:c.up=b.up) (i:c.ab=b.ab) (j:(execOp a.eval o).run P X.w=.ok (.value v) X.w) (e:VRep X d v):Holds P B0 o a X d b.ab c:=by
 refine Out.value j ⟨X,?_,e⟩
 rw [h,i,g]
 exact Nx.same (up:=[]) (Ext.refl X) m
theorem zvj {b:Tmp→SV}{a:Act}(c:∀ t,VRep X (b t) (a.tmps.getD t undef)):∀ (l:List (Nat×Operand)),zdP X (l.map fun (i,x)=>(i,opnd b x)) (l.map fun (i,x)=>(i,a.eval x))
 | []=>trivial
 | (_,x)::l=>⟨rfl,zaW c x,zvj c l⟩
theorem zoh {c:Tmp→SV}{a:Act}(b:∀ t,VRep X (c t) (a.tmps.getD t undef)):∀ (l:List Operand),VRepL X (l.map (opnd c)) (l.map a.eval)
 | []=>by rfl
 | x::l=>by
  exact ⟨_,_,rfl,zaW b x,zoh b l⟩
theorem VRepL.append:∀ {l d}{b a},VRepL X l b→VRepL X d a→VRepL X (l++d) (b++a)
 | [],_,b,_,h,c=>by grind [VRepL]
 | s::l,_,b,a,h,c=>by
  obtain ⟨v,r,e,g,f⟩:=h
  subst e
  exact ⟨v,r++a,rfl,g,VRepL.append f c⟩
theorem zHa {P o}{a:Act}{w c g f h e b}(m:o.op=.call c) (j:c.callee=.value g) (k:a.eval g=.func (.func f) h e) (l:P.funcs[f]?=some b) (d:zlu b=true) :
  (execOp a.eval o).run P w=.ok (.enter f (h++c.args.map a.eval++e)) w:=by
 unfold zlu at d
 simp only [wD0,Bool.not_eq_true'] at d
 have i:b.body.isNone=false:=by simp_all
 unfold execOp
 rw [m]
 simp only [resolve,j,k,Deferred.ofValue,Sem.run_bind,Sem.run_pure,Result.andThen_ok,invoke,callFunc,run_program,l,d.2,i,wA0,if_false]
theorem zAC {inl}(hI:InlOk cx C k inl) (L:B0≤X.w.heap.size) (m:Mem B0 X) {f fn e b s sv G z}(h0:G.up=[])
  (h:Run (zte e b s) X.μ G sv z) (hs:Sat C k X.E z.bs z.nv) (hfr:∀ r,G.ab≤r→r<z.ab→¬ X.A r) (q:zAK cx inl f fn=some (e,b)) {F} (hv:VRepL X [s] F.toList) :
  Calls cx.P f F X.w fun x o=>∃ v,x=.returned v∧∃ y,Nx B0 X y z.up G.ab z.ab o∧VRep y sv v:=by
 unfold zte at h
 obtain ⟨a,s1,h1,h2⟩:=Run.bind h
 obtain ⟨t,j,h3,h4⟩:=Run.bind h2
 obtain ⟨e1,e2⟩:=zfc h4
 subst e1 e2
 simp only [VRepL] at hv
 obtain ⟨v0,r0,ev0,hv0,er0⟩:=hv
 subst er0
 obtain ⟨u1,u2,d,f1,f2⟩:=zna L m h0 h1 (h3.sat hs) hv0
 obtain ⟨⟨d',w,B,g,q3⟩,q5,q6⟩:=Run.op1 h3 hs
 rw [f1] at B
 injection B with B
 subst B
 unfold zAK at q
 split at q
 ·rename_i e' hp
  rcases hfl:e'.flat with _|_
  ·grind
  ·rw [hfl] at q
   simp  at q
   split at q
   ·rename_i i hi
    split at q
    ·rename_i b' u
     injection q with q
     injection q with hc1 hc2
     subst hc1 hc2
     unfold zCL at u
     split at u
     ·rename_i b2 e2 n ht hres hmem
      split at u
      ·rename_i H
       simp only [wD0] at H
       injection u with u
       subst u
       have he2:=Ty.beq_eq H.1.2
       have he3:=Ty.beq_eq H.2
       subst he2 he3
       let J:Ctx:=⟨[d],X.w,zbg [],fun _=>⟨none,[]⟩,fun _=>False,fun _=>False⟩
       have hX0:∀ b,¬ J.M b:=fun b=>by
        rintro (h|⟨r,h,_⟩)
        all_goals omega
       have hvl:VRepL J [.d (.sl n) (.v 0)] F.toList:=by
        simp only [VRepL]
        refine ⟨v0,[],ev0,VRep.data.2 ⟨d,rfl,f2.keep ⟨fun _ _ _=>rfl,fun _ _ _ hM=>hX0 _ hM⟩⟩,rfl⟩
       have K:∃ l,d.els=some l∧w=d∧ev C k i.t [d]=some (.jmp 0 false [d]):=by
        rw [ht]
        simp only [Prim.run] at g
        cases d with
        | sl l =>
         simp only [D.els] at g
         split at g
         ·rename_i hroom
          injection g with g
          refine ⟨l,rfl,g.symm,?_⟩
          simp [ev,gets,At.get,Prim.run,appD,D.els,hroom]
         grind
        | nil =>
         simp only [D.els] at g
         split at g
         ·injection g with g
          refine ⟨[],rfl,g.symm,?_⟩
          rfl
         grind
        | _=>grind [D.els]
       obtain ⟨l,hl,hdn,K⟩:=K
       subst hdn
       refine (hI f _ 1 [] i hi (Nat.zero_le _) X.w.heap.size J F rfl (fun r=>by grind) rfl (⟨fun _ h=>h.elim,fun _ _ _ h=>h.elim,fun _ h=>h.elim,fun _ _ h=>h.elim,fun _ h=>h.elim⟩) (wG0 _) hvl false [w] K (zbv H.1.1).symm).mono fun x o ⟨v,hx,y,x1,x2,x3,x4,x5,x6,x7,x8⟩=>?_
       refine ⟨v,hx,?_⟩
       have N:y.μ 0=.row n (.v 1):=by rw [x4,hmem];rfl
       have hE':y.E=[w,w]:=by grind
       have hrep:=x6.rep 0 (by grind)
       rw [N] at hrep
       obtain ⟨d2,O,g2⟩:=hrep
       rw [hE'] at O
       simp [At.get,List.getElem?_cons_zero] at O
       subst O
       rw [hres] at x8
       obtain ⟨hone,_,hh⟩:=x8
       obtain ⟨a9,d9,P,Q,k3⟩:=hh (by rw [N];rfl)
       rw [N] at P
       simp [Root.row?] at P
       subst P
       rw [hE'] at Q
       simp [At.get,List.getElem?_cons_zero] at Q
       subst Q
       have hlow:=x6.low 0
       have main:∀ p:Pl,p=⟨(y.β 0).main,[]⟩→(Ext X (X.grown o j.ab (.row n t) p)∧Mem B0 (X.grown o j.ab (.row n t) p))∧VRep (X.grown o j.ab (.row n t) p) (.h n j.ab none) v:=by
        intro p hp
        have hμg:(X.grown o j.ab (.row n t) p).μ j.ab=.row n t:=by simp [Ctx.grown,upd_same]
        have hβg:(X.grown o j.ab (.row n t) p).β j.ab=p:=by simp [Ctx.grown,upd_same]
        refine ⟨m.grow L (hfr j.ab (by omega) (by simp)) x7 (fun b u=>?_) ?_ fun x=>?_,?_⟩
        ·grind [Root.own]
        ·grind [Root.own]
        ·refine ⟨w,q3,?_⟩
         rcases g2 with ⟨S,A⟩|⟨b,c,te,fr,l',xs,S,A,I,p4,p5,p6⟩
         ·grind
         ·refine .inr ⟨b,c,te,fr,l',xs,by grind,A,by rw [← x2];exact I,p4,?_,p6⟩
          have:=p5.flat (w':=o) (M':=(X.grown o j.ab (.row n t) p).M) hfl
          exact this
        ·refine ⟨hone,.inr rfl,fun _=>⟨t,w,by rw [hμg];rfl,q3,?_⟩⟩
         rcases k3 with ⟨S,A,I⟩|⟨b,l',S,A,cap,bs,I,p4,p5,p6⟩
         ·exact .inl ⟨by grind,A,trivial⟩
         ·exact .inr ⟨b,l',by grind,A,cap,bs,I,p4,by rw [← x2] at *;exact p5,p6⟩
       obtain ⟨hxm,hvv⟩:=main _ rfl
       exact ⟨_,Nx.grown (up:=[]) (Ext.refl X) x7 L hxm (by grind) rfl rfl (by omega),hvv⟩
      grind
     grind
    grind
   grind
 grind
theorem zvS {T s t f a v}(hB:B0≤X.w.heap.size) (m:Mem B0 X) (y:t.up=[]) (h:Run (zxg T s) X.μ t a f) (hs:Sat C k X.E f.bs f.nv) (O:VRep X s v) :
  f.up=[]∧f.ab=t.ab∧∃ d,a.get X.E=some d∧DVal X.w (fun _=>False) T d v:=by
 unfold zxg at h
 split at h
 ·rename_i e r
  obtain ⟨R,s1,M,x⟩:=Run.bind h
  obtain ⟨i,p⟩:=Run.root M
  subst p
  rw [y,zbI] at i
  split at x
  ·obtain ⟨_,s2,h3,h4⟩:=Run.bind x
   obtain ⟨w,p⟩:=Run.guard h3
   subst p
   obtain ⟨F,G⟩:=Run.pure h4
   subst F G
   simp  at w
   have H:=Ty.beq_eq w.1
   have I:=Ty.beq_eq w.2
   subst H I
   obtain ⟨J,K,L⟩:=O
   obtain ⟨a1,d,q,z,N⟩:=L (by rw [← i];rfl)
   rw [← i] at q
   simp [Root.row?] at q
   subst q
   refine ⟨y,rfl,d,z,?_⟩
   have A:=m.rep r K
   rw [← i] at A
   obtain ⟨⟨d2,o,g2⟩,_⟩:=A
   rw [z] at o
   injection o with o
   subst o
   refine ⟨J,?_⟩
   rcases N with ⟨p1,n,_⟩|⟨b,l,p1,n,cap,bs,p3,p4,p5,p6⟩
   ·exact n.rep
   ·rcases g2 with ⟨q1,g⟩|⟨b',c,te,fr,l',xs,q1,g,q3,q4,B,q6⟩
    ·grind
    ·rw [n] at g
     injection g with g
     subst g n
     exact ⟨_,cap,xs,by rw [p3],p4,B.keep ⟨fun _ _ _=>rfl,fun _ _ _ h=>h⟩,fun j u hj=>by rw [addr_add,vA0];grind [zc4],fun _ h=>h⟩
  grind [zna]
 grind [zna]
theorem zks (t:B0≤X.w.heap.size) (m:Mem B0 X):∀ {l}{p}{c b}{f}{e},c.up=[]→Run (zkZ p l) X.μ c f b→Sat C k X.E b.bs b.nv→VRepL X l e →
  b.up=[]∧b.ab=c.ab∧∃ n,gets X.E f=some n∧DVals X.w (fun _=>False) p n e
 | [],[],c,b,f,e,g,h,i,j=>by
  obtain ⟨o,q⟩:=Run.pure h
  subst o q
  subst j
  exact ⟨g,rfl,[],rfl,trivial⟩
 | s::l,T::p,c,b,f,e,g,h,i,j=>by
  obtain ⟨a,s1,x,y⟩:=Run.bind h
  obtain ⟨as',s2,u,A⟩:=Run.bind y
  obtain ⟨o,q⟩:=Run.pure A
  subst o q
  obtain ⟨v,r,ev,B,F⟩:=j
  subst ev
  obtain ⟨G,H,d,u3,I⟩:=zvS t m g x (u.sat i) B
  obtain ⟨J,K,n,w3,z⟩:=zks t m G u i F
  exact ⟨J,K.trans H,d::n,by grind [gets],I,z⟩
 | [],_::_,c,b,f,e,g,h,i,j=>by grind [zkZ,Run.fail]
 | _::_,[],c,b,f,e,g,h,i,j=>by grind [zkZ,Run.fail]
theorem zCl {X0 nv}(r:X0.E=X.E.take nv) (m:X0.w=X.w) (n:∀ b,¬ X0.M b):∀ {l}{k}{i}{f},SV.okAtL nv (zipA l k)=true→gets X.E k=some i→DVals X.w (fun _=>False) l i f→VRepL X0 (zipA l k) f
 | [],[],i,f,_,e,g=>by
  simp [gets] at e
  subst e
  cases f with
  | nil=>rfl
  | cons _ _=>exact g.elim
 | T::l,a::k,i,f,o,e,g=>by
  simp only [gets] at e
  simp [zipA,SV.okAtL,SV.okAt] at o
  split at e
  ·grind
  ·rename_i d s
   split at e
   ·grind
   ·rename_i ds' t
    injection e with e
    subst e
    cases f with
    | nil=>exact g.elim
    | cons v f =>
     obtain ⟨u,w⟩:=g
     refine ⟨v,f,rfl,VRep.data.2 ⟨d,?_,by rw [m];exact u.keep ⟨fun _ _ _=>rfl,fun _ _ _ h=>n _ h⟩⟩,zCl r m n o.2 t w⟩
     cases a with
     | c x=>exact s
     | v j =>
      simp_all [At.okAt,At.get]
 | [],_::_,i,f,_,e,g=>by
  simp only [gets] at e
  split at e
  ·grind
  ·split at e
   ·grind
   ·injection e with e
    subst e
    exact g.elim
 | _::_,[],i,f,_,e,g=>by
  simp [gets] at e
  subst e
  exact g.elim
theorem zBE {inl}(hI:InlOk cx C k inl) (O:B0≤X.w.heap.size) (m:Mem B0 X) {f fn args sv B t}(h0:B.up=[])
  (h:Run (zyF cx inl f fn args) X.μ B sv t) (hs:Sat C k X.E t.bs t.nv) (hfr:∀ r,B.ab≤r→r<t.ab→¬ X.A r) {P} (hv:VRepL X args P.toList) :
  Calls cx.P f P X.w fun x l=>∃ v,x=.returned v∧∃ u,Nx B0 X u t.up B.ab t.ab l∧VRep u sv v:=by
 obtain ⟨as,s1,h1,h2⟩:=Run.bind h
 obtain ⟨⟨nv,ab⟩,s2,h3,h4⟩:=Run.bind h2
 obtain ⟨s,q⟩:=Run.nvab h3
 subst q
 simp  at s
 obtain ⟨s,H⟩:=s
 subst s H
 obtain ⟨_,s3,h5,y⟩:=Run.bind h4
 obtain ⟨hg,q⟩:=Run.guard h5
 subst q
 split at y
 ·rename_i i hi
  unfold zCp at y
  split at y
  ·rename_i e r hres
   split at y
   ·rename_i o a hmr
    obtain ⟨_,g,h7,h8⟩:=Run.bind y
    obtain ⟨z,q⟩:=Run.guard h7
    subst q
    simp  at z
    have he:=Ty.beq_eq z.1
    subst he
    obtain ⟨_,s5,h9,h10⟩:=Run.bind h8
    have q:=Run.sub h9
    subst q
    obtain ⟨s,H⟩:=zfc h10
    subst s H
    obtain ⟨u1,u2,ds,u3,u4⟩:=zks O m h0 h1 (h9.sat hs) hv
    obtain ⟨n,en,⟨bk,rs,hn,c1,c2,c3⟩,_⟩:=hs
    have:n=g.nv:=by grind [Bd.outs]
    subst this
    let I:Ctx:=⟨X.E.take g.nv,X.w,zbg [],fun _=>⟨none,[]⟩,fun _=>False,fun _=>False⟩
    have hX0:∀ b,¬ I.M b:=fun b=>by
     rintro (h|⟨r,h,_⟩)
     all_goals omega
    refine (hI f _ g.nv [] i hi (Nat.zero_le _) X.w.heap.size I P (by grind) (fun r=>by grind) rfl (⟨fun _ h=>h.elim,fun _ _ _ h=>h.elim,fun _ h=>h.elim,fun _ _ h=>h.elim,fun _ h=>h.elim⟩) (wG0 _) (zCl (X:=X) (X0:=I) (nv:=g.nv) rfl rfl hX0 hg u3 u4) bk rs c1 c2).mono fun x l ⟨v,hx,u,x1,x2,x3,x4,x5,x6,x7,x8⟩=>?_
    refine ⟨v,hx,?_⟩
    have hE':∀ (j:Nat) (d:D),u.E[j]?=some d→X.E[j]?=some d:=fun j d hj=>by grind
    have K:u.μ r=.row o a:=by rw [x4];omega
    have hrep:=x6.rep r (by grind [ztw])
    rw [K] at hrep
    obtain ⟨dn,L,g2⟩:=hrep
    rw [hres] at x8
    obtain ⟨hone,_,hh⟩:=x8
    obtain ⟨a9,d9,N,F,k3⟩:=hh (by rw [K];rfl)
    rw [K] at N
    simp [Root.row?] at N
    subst N
    rw [L] at F
    injection F with F
    subst F
    have hlow:=x6.low r
    have main:∀ p:Pl,p=⟨(u.β r).main,[]⟩→(Ext X (X.grown l g.ab (.row o a) p)∧Mem B0 (X.grown l g.ab (.row o a) p))∧VRep (X.grown l g.ab (.row o a) p) (.h o g.ab none) v:=by
     intro p hp
     have hμg:(X.grown l g.ab (.row o a) p).μ g.ab=.row o a:=by simp [Ctx.grown,upd_same]
     have hβg:(X.grown l g.ab (.row o a) p).β g.ab=p:=by simp [Ctx.grown,upd_same]
     refine ⟨m.grow O (hfr g.ab (by omega) (by simp)) x7 (fun b z=>?_) ?_ fun x=>?_,?_⟩
     ·grind [Root.own]
     ·grind [Root.own]
     ·refine ⟨dn,(At.get_ext hE' L),?_⟩
      rcases g2 with ⟨A,w⟩|⟨b,c,te,fr,Q,xs,A,w,G,S,R,p6⟩
      ·grind
      ·refine .inr ⟨b,c,te,fr,Q,xs,by grind,w,by rw [← x2];exact G,S,?_,p6⟩
       have:=R.flat (w':=l) (M':=(X.grown l g.ab (.row o a) p).M) (z.2)
       exact this
     ·refine ⟨hone,.inr rfl,fun _=>⟨a,dn,by rw [hμg];rfl,(At.get_ext hE' L),?_⟩⟩
      rcases k3 with ⟨A,w,G⟩|⟨b,Q,A,w,cap,bs,G,S,R,p6⟩
      ·exact .inl ⟨by rw [hβg,hp];exact A,w,trivial⟩
      ·exact .inr ⟨b,Q,by grind,w,cap,bs,G,S,by rw [← x2] at *;exact R,p6⟩
    obtain ⟨hxm,hvv⟩:=main _ rfl
    exact ⟨_,Nx.grown (up:=[]) (Ext.refl X) x7 O hxm (by rw [u1]) rfl rfl (by omega),hvv⟩
   grind [Run.fail]
  grind [Run.fail]
 grind [Run.fail]
theorem zvF (hC:CallsOk cx C) {I}(N:InlOk cx C k I) (B:B0≤X.w.heap.size) (m:Mem B0 X) {callee z J u l}(K:u.up=[])
  (h:Run (zw5 cx I callee z) X.μ u J l) (A:Sat C k X.E l.bs l.nv) (hfr:∀ r,u.ab≤r→r<l.ab→¬ X.A r) (hA:zof l.bs=true→∀ r,X.A r↔r<u.ab) {o a c g} (ho:o.op=.call c) (hc:c.callee=.value g)
  (hg:VRep X callee (a.eval g)) (Q:VRepL X z (c.args.map a.eval).toList):Holds cx.P B0 o a X J u.ab l:=by
 unfold zw5 at h
 split at h
 ·rename_i f M S
  obtain ⟨us,vs,e,F,G⟩:=hg
  split at h
  ·grind [Run.fail]
  ·rename_i fn hf
   obtain ⟨_,s1,h1,h2⟩:=Run.bind h
   obtain ⟨hcan,H⟩:=Run.guard h1
   subst H
   have n:=zHa (P:=cx.P) (w:=X.w) ho hc e hf hcan
   rcases Run.ite h2 with ⟨v,d⟩|⟨_,h20⟩
   ·simp  at v
    obtain ⟨_,t,x⟩:=v
    subst t x
    simp only [VRepL] at F G
    have y:us=#[]:=by grind
    have ev:vs=#[]:=by grind
    subst y ev
    simp  at n
    exact Out.enter n (zBE N B m K d A hfr Q)
   rcases Run.ite h20 with ⟨v,d⟩|⟨_,d⟩
   ·simp  at v
    obtain ⟨⟨hdat,t⟩,x⟩:=v
    subst t x
    simp only [VRepL] at F G
    have y:us=#[]:=by grind
    have ev:vs=#[]:=by grind
    subst y ev
    simp  at n
    exact Out.enter n (zvN hC B m K d A hf hcan hdat Q)
   ·have inl_:Run (zlU I f (M++z++S)) X.μ s1 J l→Holds cx.P B0 o a X J s1.ab l:=by
     intro d
     have hsub:zof l.bs=true:=by
      obtain ⟨p,s2,h4,h5⟩:=Run.bind d
      obtain ⟨mem,s3,h6,h7⟩:=Run.bind h5
      obtain ⟨_,s4,h8,h9⟩:=Run.bind h7
      cases hi:I f (M++z++S) p.1 mem with
      | none=>grind [zAe,Run.fail]
      | some i =>
       simp only [hi,zAe] at h9
       obtain ⟨_,s5,h10,h11⟩:=Run.bind h9
       obtain ⟨hg2,H⟩:=Run.guard h10
       rw [Nat.ble_eq] at hg2
       obtain ⟨_,s6,h12,h13⟩:=Run.bind h11
       have H:=Run.sub h12
       obtain ⟨_,s7,h14,h15⟩:=Run.bind h13
       obtain ⟨_,e2⟩:=Run.pure h15
       obtain ⟨e3,hlen,hget⟩:=zpF h6
       obtain ⟨e4,e5⟩:=Run.nvab h4
       obtain ⟨_,e6⟩:=Run.guard h8
       subst e2 e5
       have hab:p.2=s6.ab:=by grind
       obtain ⟨g1,_⟩:=ziN h14 (fun _=>by omega) (fun he=>by grind) hg2 (fun j O hj=>by grind)
       rw [g1,H]
       rfl
     refine Out.enter n (zzJ N B m K d A (hA hsub) ?_)
     grind [VRepL.append]
    split at d
    ·rename_i e b s U
     rcases R:(M.isEmpty&&S.isEmpty) with _|_
     ·rw [R] at U;simp at U
     ·simp  at R
      obtain ⟨x,t⟩:=R
      subst t x
      simp only [VRepL] at F G
      have y  := by simpa using F
      have ev  := by simpa using G
      subst y ev
      simp  at n
      exact Out.enter n (zAC N B m K d A hfr U Q)
    grind
 grind [Run.fail]
theorem zGj {t x v}(h:zI4 cx t x=true) (j:VRep X x v):((∃ A n c,v=.slice A n c)→∃ E,cx.P.underlying t=some (.slice E))∧((∃ b,v=.string b)→(∃ a,simple x=.d .str a)→cx.P.underlying t=some .string):=by
 have g:=zch j
 unfold zI4 at h
 split at h
 ·rename_i a k hu
  rw [k] at g
  obtain ⟨d,_,i⟩:=VRep.data.1 g
  obtain ⟨s,_,e⟩:=i.str
  grind
 all_goals grind
theorem zys (I:TysOk cx) (hC:CallsOk cx C) {inl}(hI:InlOk cx C k inl) (hB:B0≤X.w.heap.size) (m:Mem B0 X) {kn}(hk:∀ a b,(a,b)∈kn→a.get X.E=some (.bool b))
  {Y:Tmp→SV} {a} (z:∀ t,VRep X (Y t) (a.tmps.getD t undef)) {o sv s0 W} (F:s0.up=[]) (h:Run (zcf cx inl kn Y o) X.μ s0 sv W) (hs:Sat C k X.E W.bs W.nv)
  (hfr:∀ r,s0.ab≤r→r<W.ab→¬ X.A r) (hA:zof W.bs=true→∀ r,X.A r↔r<s0.ab):Holds cx.P B0 o a X sv s0.ab W:=by
 unfold zcf at h
 split at h
 ·rename_i x B
  obtain ⟨U,e2⟩:=Run.pure h
  subst U e2
  exact Holds.same m F rfl rfl (by simp_all [execOp]) (zFD (zaW z x))
 ·rename_i x B
  obtain ⟨U,e2⟩:=Run.pure h
  subst U e2
  exact Holds.same m F rfl rfl (by simp_all [execOp]) (zFD (zaW z x))
 ·rename_i c x y B
  obtain ⟨h1,h2,b,h3,h4⟩:=zxG hk h hs (zaW z c) (zaW z x) (zaW z y)
  refine Holds.same m F h1 h2 ?_ h4
  simp only [execOp,B,h3]
  rfl
 ·rename_i t B
  exact Holds.value (by grind [execOp]) (zDG I hB m hfr F h)
 ·rename_i t x B
  exact Holds.value (by grind [execOp]) (zHm hB m hfr F h (zaW z x))
 ·rename_i t parts B
  refine Holds.value (sem:=Instr.build t (parts.map fun (i,x)=>(i,a.eval x))) (by grind [execOp]) ?_
  have:=zDH I hB m F h hs (zvj z parts.toList)
  rwa [← Array.toList_map,Array.toArray_toList] at this
 ·rename_i t n parts B
  refine Holds.value (sem:=Instr.buildSlice t n (parts.map fun (i,x)=>(i,a.eval x))) (by grind [execOp]) ?_
  have:=ztf I hB m hfr F h hs (zvj z parts.toList)
  rwa [← Array.toList_map,Array.toArray_toList] at this
 ·rename_i t x B
  exact Holds.value (by grind [execOp]) (Acts.of_pure m F (zxo I m F h hs (zaW z x)))
 ·rename_i t x v B
  exact Holds.skip (by grind [execOp]) (zvE I hB m F h hs (zaW z x) (zaW z v))
 ·rename_i x B
  have hx:=zaW z x
  have key:∀ {s:SV},opnd Y x=s→(∃ v,a.eval x=v∧(execOp a.eval o).run cx.P X.w=.ok (.value v) X.w)→Run (SX.X.pure s) X.μ s0 sv W→Holds cx.P B0 o a X sv s0.ab W:=fun he ⟨v,hv,hr⟩ hh=>by
   obtain ⟨U,e2⟩:=Run.pure hh
   subst U e2
   exact Holds.same m F rfl rfl hr (by grind)
  split at h
  ·rename_i R T r q Z
   rw [Z] at hx
   simp only [VRep,Ref] at hx
   obtain ⟨_,b,off,hv,_⟩:=hx
   simp_all [execOp]
  ·rename_i T at_ Z
   rw [Z] at hx
   simp only [VRep,Ref] at hx
   obtain ⟨ad,d,xs,hv,_⟩:=hx
   simp_all [execOp]
  ·rename_i f u l Z
   rw [Z] at hx
   simp only [VRep] at hx
   obtain ⟨us,vs,hv,_⟩:=hx
   simp_all [execOp]
  ·rename_i e T r ix q g Z
   obtain ⟨ma,s1,hm1,hm2⟩:=Run.bind h
   obtain ⟨es,hR⟩:=zsW hm1
   subst es
   rw [F,zbI] at hR
   rw [Z] at hx
   simp only [VRep,Ref] at hx
   obtain ⟨_,_,hx⟩:=hx
   obtain ⟨_,hx⟩:=hx _ _ _ hR
   obtain ⟨_,kk,i,b,off,_,_,hv,_⟩:=hx rfl
   simp_all [execOp]
  grind [Run.fail]
 ·rename_i op xt x y yt B
  exact Holds.value (by grind [execOp]) (Acts.of_pure m F (zzT I hB m F h hs (zaW z x) (zaW z y) x y (fun hT ha hk hg he hx hy=>zGo I x y hT ha hk hg he hx hy)))
 ·rename_i op xt x B
  exact Holds.value (by grind [execOp]) (Acts.of_pure m F (zE1 h hs (zaW z x)))
 ·rename_i src dst x B
  exact Holds.value (by grind [execOp]) (zAh I hB m F h hs (zaW z x))
 ·rename_i f first captured B
  obtain ⟨U,e2⟩:=Run.pure h
  subst U e2
  refine Holds.same m F rfl rfl (v:=.func (.func f) (first.map a.eval) (captured.map a.eval)) (by simp only [execOp,B,Instr.makeFunc];rfl) ?_
  simp only [VRep]
  exact ⟨_,_,rfl,by grind [Array.toList_map,zoh],by rw [Array.toList_map];exact zoh z _⟩
 ·rename_i t l c B
  exact Holds.value (by simp only [execOp,B]) (zvW I hB m hfr F h hs (zaW z l) (zaW z c))
 ·rename_i t x lo hi mx B
  have opt:∀ (y:Option Operand),zd5 X (zla Y y) (y.map a.eval):=fun y=>by
   cases y with
   | none=>simp [zla,zd5]
   | some y=>simp ;exact zaW z y
  exact Holds.value (by simp only [execOp,B]) (Acts.of_pure m F (zvR I hB m F h hs (zaW z x) (opt lo) (opt hi) (opt mx)))
 ·rename_i t x j B
  exact Holds.value (by simp only [execOp,B]) (Acts.of_pure m F (zor I h hs (zaW z x)))
 ·rename_i t x j B
  exact Holds.value (by simp only [execOp,B]) (Acts.of_pure m F (zvC I h hs (zaW z x)))
 ·rename_i t x i B
  exact Holds.value (by simp only [execOp,B]) (Acts.of_pure m F (zou I hB m F h hs (zaW z x) (zaW z i)))
 ·rename_i t x i B
  exact Holds.value (by simp only [execOp,B]) (Acts.of_pure m F (zvT I h hs (zaW z x) (zaW z i)))
 ·rename_i t r B
  exact Holds.value (sem:=Instr.makeMap t (r.map a.eval)) (by simp only [execOp,B]) (zAx hB m hfr F h (by cases r<;>rfl))
 ·rename_i t x i ok B
  exact Holds.value (sem:=Instr.lookup t (a.eval x) (a.eval i) ok) (by simp only [execOp,B]) (zBf I hB m F h hs (zaW z x) (zaW z i))
 ·rename_i t x i v B
  exact Holds.skip (sem:=Instr.mapUpdate t (a.eval x) (a.eval i) (a.eval v)) (by simp only [execOp,B]) (zvH I hB m F h hs (zaW z x) (zaW z i) (zaW z v))
 ·rename_i x j B
  have hx:=zaW z x
  split at h
  ·rename_i l Z
   rw [Z] at hx
   exact Holds.value (by simp only [execOp,B]) (Acts.of_pure m F (zzY h hx))
  ·exact (Run.fail h).elim
 ·rename_i b V argTypes B
  have run:∃ S,∀ w,(execOp a.eval o).run cx.P w=(builtin b argTypes o.type S (V.map a.eval)).run cx.P w:=by
   unfold execOp
   rw [B]
   simp
   exact ⟨_,fun _=>rfl⟩
  have bi:∀ {sem:Sem Value},(∀ S w,(builtin b argTypes o.type S (V.map a.eval)).run cx.P w=(do let v←sem;pure (.value v):Sem Next).run cx.P w)→Acts cx.P B0 X sem s0 W (fun X' v=>VRep X' sv v)→Holds cx.P B0 o a X sv s0.ab W:=fun hb hA=>by
   obtain ⟨v,w',X',h1,h2,h3⟩:=hA
   obtain ⟨S,hrun⟩:=run
   refine Out.value ?_ ⟨X',h2,h3⟩
   rw [hrun,hb]
   simp [h1]
  have one:∀ {x:SV},V.toList.map (opnd Y)=[x]→∃ y,V=#[y]∧x=opnd Y y:=fun h=>by
   match hl:V.toList,h with
   | [y],h=>simp at h;exact ⟨y,by rw [← Array.toArray_toList (xs:=V),hl],h.symm⟩
  have two:∀ {x y:SV},V.toList.map (opnd Y)=[x,y]→∃ K y',V=#[K,y']∧x=opnd Y K∧y=opnd Y y':=fun h=>by
   match hl:V.toList,h with
   | [K,y'],h=>simp at h;exact ⟨K,y',by rw [← Array.toArray_toList (xs:=V),hl],h.1.symm,h.2.symm⟩
  have ty1:∀ {t:TypeId},argTypes.toList=[t]→argTypes=#[t]:=fun h=>by rw [← Array.toArray_toList (xs:=argTypes),h]
  have ty2:∀ {t u:TypeId},argTypes.toList=[t,u]→argTypes=#[t,u]:=fun h=>by rw [← Array.toArray_toList (xs:=argTypes),h]
  split at h
  ·rename_i x t hx ht
   obtain ⟨y,ey,ex⟩:=one hx
   have et:=ty1 ht
   subst ey ex et
   obtain ⟨_,s1,h1,h2⟩:=Run.bind h
   obtain ⟨hg,es⟩:=Run.guard h1
   subst es
   have hy:=zaW z y
   obtain ⟨l1,l2⟩:=zGj hg hy
   obtain ⟨u1,u2,u3⟩:=zEg hB m F h2 hs hy
   refine bi (sem:=Builtin.len_ #[t] o.type #[a.eval y]) (fun S w=>by simp [builtin]) (Acts.of_pure m F ⟨u1,u2,?_⟩)
   rcases u3 with ⟨A,n,c,e,hv⟩|⟨b,e,hst,hv⟩
   ·obtain ⟨E,hu⟩:=l1 ⟨A,n,c,e⟩
    exact ⟨_,by rw [e];exact zyy hu,hv⟩
   ·exact ⟨_,by rw [e];exact zxB (l2 ⟨b,e⟩ hst),hv⟩
  ·rename_i x t hx ht
   obtain ⟨y,ey,ex⟩:=one hx
   have et:=ty1 ht
   subst ey ex et
   obtain ⟨_,s1,h1,h2⟩:=Run.bind h
   obtain ⟨hg,es⟩:=Run.guard h1
   subst es
   exact bi (sem:=Builtin.cap_ #[t] o.type #[a.eval y]) (fun S w=>by simp [builtin]) (Acts.of_pure m F (zGS hg h2 (zaW z y)))
  ·rename_i x y t xt hx ht
   obtain ⟨K,y',ey,ex,ex2⟩:=two hx
   have et:=ty2 ht
   subst ey ex ex2 et
   exact bi (sem:=Builtin.append_ #[t,xt] o.type #[a.eval K,a.eval y']) (fun S w=>by simp [builtin]) (zs7 I hB m F h hs hfr (zaW z K) (zaW z y'))
  ·rename_i x t hx ht
   obtain ⟨y,ey,ex⟩:=one hx
   have et:=ty1 ht
   subst ey ex et
   exact bi (sem:=Builtin.clear_ #[t] o.type #[a.eval y]) (fun S w=>by simp [builtin]) (zvz I hB m F h hs (zaW z y))
  ·rename_i x y t u hx ht
   obtain ⟨K,y',ey,ex,ex2⟩:=two hx
   have et:=ty2 ht
   subst ey ex ex2 et
   exact bi (sem:=Builtin.copy_ #[t,u] o.type #[a.eval K,a.eval y']) (fun S w=>by simp [builtin]) (zEx I hB m F h hs (zaW z K) (zaW z y'))
  ·rename_i x y hx
   obtain ⟨K,y',ey,ex,ex2⟩:=two hx
   subst ey ex ex2
   obtain ⟨u1,u2,kk,p,q,d,ad,U,e2,e3,e4,e5⟩:=zt5 h hs (zaW z K) (zaW z y')
   subst e5
   refine bi (sem:=Builtin.min_ argTypes o.type #[a.eval K,a.eval y']) (fun S w=>by simp [builtin]) (Acts.of_pure m F ⟨u1,u2,?_⟩)
   simp [Prim.run] at e3
   subst e3
   exact ⟨_,by simp [Builtin.min_,U,e2,Builtin.min2],VRep.data.2 ⟨_,e4,DVal.of_int _ _⟩⟩
  ·rename_i x y hx
   obtain ⟨K,y',ey,ex,ex2⟩:=two hx
   subst ey ex ex2
   obtain ⟨u1,u2,kk,p,q,d,ad,U,e2,e3,e4,e5⟩:=zt5 h hs (zaW z K) (zaW z y')
   subst e5
   refine bi (sem:=Builtin.max_ argTypes o.type #[a.eval K,a.eval y']) (fun S w=>by simp [builtin]) (Acts.of_pure m F ⟨u1,u2,?_⟩)
   simp [Prim.run] at e3
   subst e3
   exact ⟨_,by simp [Builtin.max_,U,e2,Builtin.max2],VRep.data.2 ⟨_,e4,DVal.of_int _ _⟩⟩
  ·exact (Run.fail h).elim
 ·rename_i f V argTypes B
  exact zvF hC hI hB m F h hs hfr hA B rfl (zaW z f) (by rw [Array.toList_map];exact zoh z _)
 grind [Run.fail]
end
end Go.SX
namespace Go.SX
open Go.RowKit (Below)
theorem X.run_outs {e}(d):∀ (x:X e) (s) {a}{c}{l},x.run d s=some (a,c,l)→c.nv + zuC s.bs=s.nv + zuC c.bs
 | .pure a,s,_,c,l,h=>by grind [X.run]
 | .fail n,s,_,c,l,h=>by grind [X.run]
 | .root r k,s,a,c,l,h=>by
  simp only [X.run] at h
  cases f:zmP r s.up with
  | some R=>simp only [f] at h;exact X.run_outs d (k R) s h
  | none =>
   simp only [f] at h
   cases g:(k (d r)).run d s with
   | none=>grind
   | some p =>
    simp [g] at h
    obtain ⟨_,h,_⟩:=h
    subst h
    exact X.run_outs d (k (d r)) s g
 | .put r R k,s,a,c,l,h=>by
  exact X.run_outs d k { s with up:=(r,R)::s.up } h
 | .new R k,s,a,c,l,h=>by
  exact X.run_outs d (k s.ab) { s with up:=(s.ab,R)::s.up,ab:=s.ab + 1 } h
 | .bd b k,s,a,c,l,h=>by
  have:=X.run_outs d (k s.nv) { s with bs:=b::s.bs,nv:=s.nv + b.outs } h
  grind [zuC]
 | .at_ k,s,a,c,l,h=>by
  exact X.run_outs d (k s.nv s.ab) s h
section
variable {C:FuncId→List D→Option (List D)} {k:Nat}
theorem get_app {E F:List D}{i:Nat}{d}(h:E[i]?=some d):(E++F)[i]?=some d:=by grind
theorem At.get_app {E F}{a:At}{d}(h:a.get E=some d):a.get (E++F)=some d:=by grind [At.get_ext,SX.get_app]
theorem zl6 {E F}:∀ {c}{b},gets E c=some b→gets (E++F) c=some b
 | [],b,h=>h
 | a::l,b,h=>by
  obtain ⟨d,ds',f,g,e⟩:=zeR h
  subst e
  exact zk3 (At.get_app f) (zl6 g)
theorem SatB.app {E F n b}(h:SatB C k E n b):SatB C k (E++F) n b:=by
 cases b with
 | prim p r =>
  obtain ⟨c,d,g,a,e⟩:=h
  exact ⟨c,d,zl6 g,a,get_app e⟩
 | call f r m =>
  obtain ⟨c,o,g,a,e,q⟩:=h
  exact ⟨c,o,zl6 g,a,e,fun j d i=>get_app (q j d i)⟩
 | sub t m =>
  obtain ⟨l,c,h0,g,a,e⟩:=h
  refine ⟨l,c,by grind,?_,a,fun j d i=>get_app (e j d i)⟩
  grind
theorem Sat.app {E F}:∀ {a}{n},Sat C k E a n→Sat C k (E++F) a n
 | [],_,_=>trivial
 | _::_,_,⟨m,c,d,b⟩=>⟨m,c,d.app,Sat.app b⟩
theorem zzg {f n}(d:∀ a r,f a=some r→∃ l b c,r=.jmp l b c∧l<n + 1):∀ (j) (a) (r),iter f j a=some r→∃ l b c,r=.jmp l b c∧l<n + 1
 | 0,a,r,h=>by grind [iter]
 | j + 1,a,r,h=>by
  simp only [iter] at h
  split at h
  ·exact zzg d j _ r h
  grind
theorem zkF:∀ {t}{n}{E}{r},t.only n=true→ev C k t E=some r→∃ l b i,r=.jmp l b i∧l<n
 | .prim p q t,n,E,r,g,h=>by
  simp only [Tree.only] at g
  simp only [ev] at h
  cases j:gets E q with
  | none=>grind
  | some i =>
   simp only [j] at h
   cases o:p.run i with
   | none=>grind
   | some d=>simp only [o] at h;exact zkF g h
 | .call f q m t,n,E,r,g,h=>by
  simp only [Tree.only] at g
  simp only [ev] at h
  cases j:gets E q with
  | none=>grind
  | some i =>
   simp only [j] at h
   cases o:C f i with
   | none=>grind
   | some ds =>
    simp only [o] at h
    split at h
    ·exact zkF g h
    grind
 | .sub t m u,n,E,r,g,h=>by
  simp [Tree.only] at g
  simp only [ev] at h
  cases j:ev C k t E with
  | none=>grind
  | some s =>
   obtain ⟨l,b,i,e,w⟩:=zkF g.1 j
   subst e
   simp only [j] at h
   cases l with
   | zero =>
    simp only at h
    split at h
    ·exact zkF g.2 h
    grind
   | succ l =>
    grind [Res.up]
 | .loop A t,n,E,r,g,h=>by
  simp only [ev] at h
  cases j:gets E A with
  | none=>grind
  | some i =>
   cases o:iter (fun i=>ev C k t (E++i)) k i with
   | none=>grind
   | some s =>
    obtain ⟨l,b,ws,e,w⟩:=zzg (fun i r v=>zkF g v) k i s o
    cases l with
    | zero=>grind [Res.up]
    | succ l =>
     grind [Res.up]
 | .ite c a b,n,E,r,g,h=>by
  simp [Tree.only] at g
  simp only [ev] at h
  split at h
  ·exact zkF g.1 h
  ·exact zkF g.2 h
  grind
 | .jmp l b q,n,E,r,g,h=>by grind [Tree.only,Nat.blt_eq,ev]
 | .fin x st,n,E,r,g,h=>by grind [Tree.only]
 | .fail _,n,E,r,g,h=>by grind [ev]
theorem zJP {E b t r}(s:znr [b]=true) (h:ev C k (b.on t) E=some r):∃ F,F.length=b.outs∧SatB C k (E++F) E.length b∧ev C k t (E++F)=some r:=by
 cases b with
 | prim p i =>
  simp only [Bd.on,ev] at h
  cases c:gets E i with
  | none=>grind
  | some a =>
   simp only [c] at h
   cases g:p.run a with
   | none=>grind
   | some d =>
    simp only [g] at h
    exact ⟨[d],rfl,⟨a,d,zl6 c,g,by simp⟩,h⟩
 | call f i m =>
  simp only [Bd.on,ev] at h
  cases c:gets E i with
  | none=>grind
  | some a =>
   simp only [c] at h
   cases g:C f a with
   | none=>grind
   | some o =>
    simp only [g] at h
    split at h
    ·rename_i n
     exact ⟨o,n,⟨a,o,zl6 c,g,n,fun j d u=>by grind⟩,h⟩
    grind
 | sub v m =>
  simp [znr] at s
  simp only [Bd.on,ev] at h
  cases c:ev C k v E with
  | none=>grind
  | some r' =>
   obtain ⟨l,w,a,e,n⟩:=zkF s c
   have:l=0:=by omega
   subst this e
   simp only [c] at h
   split at h
   ·rename_i q
    refine ⟨a,q,⟨w,a,by simp,?_,q,fun j d u=>by grind⟩,h⟩
    grind
   grind
theorem zwx {b l}(h:znr (b::l)=true):znr [b]=true∧znr l=true:=by
 cases b<;>simp_all [znr]
theorem zH2:∀ {a}{E}{t}{r},znr a=true→ev C k (zpW a t) E=some r→∃ F,F.length=zuC a∧Sat C k (E++F) a (E++F).length∧ev C k t (E++F)=some r
 | [],E,t,r,_,h=>⟨[],rfl,trivial,by grind [zpW]⟩
 | b::l,E,t,r,c,h=>by
  obtain ⟨d,e⟩:=zwx c
  obtain ⟨F,h1,f,g⟩:=zH2 e h
  obtain ⟨G,g1,g2,g3⟩:=zJP d g
  refine ⟨F++G,by grind [zuC],⟨(E++F).length,by grind,?_,?_⟩,by grind⟩
  ·grind
  ·rw [← vB0];exact f.app
end
def GuardIs (E:List D) (st:St) (ops:List Oper) (o:Oper) (run:Bool):Prop :=
 match o.guard with
 | none=>run=true
 | some (j,want)=>∃ s,guardOf st ops j=some s∧((∃ a b,s=.d .bool a∧a.get E=some (.bool b)∧run=(b==want))∨(s=.tu []∧run=false))
def KnOk (E:List D) (kn:List (At×Bool)):Prop:=∀ a b,(a,b)∈kn→a.get E=some (.bool b)
theorem KnOk.known {E}:∀ {e}{a}{b},KnOk E e→zkM e a=some b→a.get E=some (.bool b)
 | [],a,b,_,h=>by grind [zkM]
 | (c,v)::l,a,b,d,h=>by
  simp only [zkM] at h
  split at h
  ·rename_i g
   injection h with h
   subst h
   rw [← At.beq_eq g]
   exact d c v (by simp)
  ·exact KnOk.known (fun a b f=>d a b (vI0 _ f)) h
def Steps (cx:Cx) (inl:FuncId→List SV→Nat→List Root→Option Inl) (C:FuncId→List D→Option (List D)) (k:Nat) (E:List D) (ops:List Oper):List Oper→Nat→St→List Eff→St→Prop
 | [],_,st,[],stf=>stf=st
 | o::rest,i,st,e::es,stf=>GuardIs E st ops o e.run ∧
   ((e.run=true∧∃ kn,KnOk E kn∧znf cx inl kn st.slot st.root st.nv st.mem.length i o=some e∧Sat C k E e.bs e.nv')∨e=znH i o st)∧Steps cx inl C k E ops rest (i + 1) (st.after e) es stf
 | _,_,_,_,_=>False
section
variable {cx:Cx} {inl:FuncId→List SV→Nat→List Root→Option Inl} {C:FuncId→List D→Option (List D)} {k:Nat}
theorem zkn {c d f b a i o e}(h:znf cx inl c d f b a i o=some e) :
  ∃ s,(zcf cx inl c d o).run f ⟨[],b,[],a⟩=some (e.sv,s,e.foot)∧e.i=i∧e.run=true∧e.dst=o.dst∧e.bs=s.bs∧e.up=s.up∧e.nv=b∧e.ab=a∧e.nv'=s.nv∧e.ab'=s.ab∧upOk e.ab' e.up=true∧znr e.bs=true:=by grind [znf]
theorem zEn {E st ops d o}(g:KnOk E d) :
  (zzf st ops d o=.go→GuardIs E st ops o true)∧(zzf st ops d o=.skip→GuardIs E st ops o false) ∧
  (∀ a c b,zzf st ops d o=.ask a c→a.get E=some (.bool b)→GuardIs E st ops o (b==c)):=by
 unfold zzf GuardIs
 cases hg:o.guard with
 | none=>simp
 | some p =>
  obtain ⟨j,c⟩:=p
  simp only
  cases hs:guardOf st ops j with
  | none=>simp
  | some s =>
   split
   ·rename_i b e
    injection e with e
    subst e
    cases f:(b==c) with
    | true=>simp only [if_true,reduceCtorEq,false_implies,forall_const,implies_true,and_true,and_self];exact ⟨_,rfl,.inl ⟨_,b,rfl,rfl,f.symm⟩⟩
    | false=>simp only [wA0,if_false,reduceCtorEq,false_implies,forall_const,implies_true,and_true,true_and];exact ⟨_,rfl,.inl ⟨_,b,rfl,rfl,f.symm⟩⟩
   ·split
    ·rename_i b h
     have ha:=g.known h
     grind
    grind
   all_goals grind
theorem GuardIs.app {E F c b o a}(h:GuardIs E c b o a):GuardIs (E++F) c b o a:=by grind [GuardIs,At.get_app]
theorem KnOk.app {E F c}(h:KnOk E c):KnOk (E++F) c:=fun a b d=>At.get_app (h a b d)
theorem zG5 (a:St) (e):(a.after e).nv=e.nv':=rfl
theorem zgX {n f p}:∀ {m}{i}{a}{c}{g}{E}{r},
  ev C k (zfb cx inl n f p m i a c g) E=some r→E.length=a.nv→KnOk E c →
  ∃ b F d,r=.fin .normal b (E++F)∧(E++F).length=b.nv∧Steps cx inl C k (E++F) f m i a d b∧(n=true→zi6 p ((g.reverse++d).map (zez f))=true)
 | [],i,a,c,g,E,r,h,x,q=>by
  simp only [zfb] at h
  split at h
  ·simp [ev] at h
   refine ⟨a,[],[],by grind,by grind,rfl,fun y=>?_⟩
   simp_all
  grind [ev]
 | o::m,i,a,c,g,E,r,h,x,q=>by
  have go:∀ {c:List (At×Bool)},KnOk E c→GuardIs E a f o true→ev C k (match znf cx inl c a.slot a.root a.nv a.mem.length i o with
    | none=>.fail (zA1 cx inl c a.slot a.root a.nv a.mem.length o)
    | some e=>zpW e.bs (zfb cx inl n f p m (i + 1) (a.after e) c (e::g))) E=some r →
    ∃ b F d,r=.fin .normal b (E++F)∧(E++F).length=b.nv∧Steps cx inl C k (E++F) f (o::m) i a d b∧(n=true→zi6 p ((g.reverse++d).map (zez f))=true):=by
   intro c q w h
   split at h
   ·grind [ev]
   ·rename_i e A
    obtain ⟨s,B,p1,z,p3,p4,p5,p6,p7,p8,p9,p10,p11⟩:=zkn A
    have J:=X.run_outs _ _ _ B
    simp [zuC] at J
    obtain ⟨G,g1,H,I⟩:=zH2 p11 h
    obtain ⟨b,F,d,t,v,u,f4⟩:=zgX I (by grind [zG5]) q.app
    rw [vB0] at t v u
    refine ⟨b,G++F,e::d,t,v,⟨by rw [z];exact w.app,.inl ⟨z,c,q.app,A,?_⟩,u⟩,fun y=>by grind⟩
    rw [← vB0]
    have K:(E++G).length=e.nv':=by grind
    rw [← K]
    exact H.app
  have skip:∀ {c:List (At×Bool)},KnOk E c→GuardIs E a f o false→ev C k (zfb cx inl n f p m (i + 1) (a.after (znH i o a)) c (znH i o a::g)) E=some r →
    ∃ b F d,r=.fin .normal b (E++F)∧(E++F).length=b.nv∧Steps cx inl C k (E++F) f (o::m) i a d b∧(n=true→zi6 p ((g.reverse++d).map (zez f))=true):=by
   intro c q w h
   obtain ⟨b,F,d,t,v,u,f4⟩:=zgX h (by exact x) q
   exact ⟨b,F,znH i o a::d,t,v,⟨w.app,.inr rfl,u⟩,fun y=>by grind⟩
  grind [zEn,zfb,ev,KnOk]
end
end Go.SX
namespace Go.SX
open Go.RowKit (Below)
theorem zno {a b}:∀ {l:List (Nat×Operand)},(∀ x∈l.map (·.2),opnd a x=opnd b x)→l.map (fun (i,x)=>(i,opnd a x))=l.map fun (i,x)=>(i,opnd b x)
 | [],_=>rfl
 | (i,x)::l,h=>by
  simp only [vM0]
  rw [h x (by simp),zno fun y hy=>h y (by grind)]
theorem zyS {q w u e g o}(h:∀ x∈o.op.operands,opnd e x=opnd g x):zcf q w u e o=zcf q w u g o:=by
 obtain ⟨dst,p,type,pos,after,guard⟩:=o
 have opts:∀ {x:Option Operand},(∀ y,x=some y→opnd e y=opnd g y)→zla e x=zla g x:=fun a=>by
  rename_i x
  cases x with
  | none=>rfl
  | some y=>simp [zla,a y rfl]
 cases p<;>simp only [Op.operands] at h<;>(try rfl)
 case move x=>simp only [zcf];rw [h x (by simp)]
 case assign x=>simp only [zcf];rw [h x (by simp)]
 case pick c x y=>simp only [zcf];rw [h c (by simp),h x (by simp),h y (by simp)]
 case box t x=>simp only [zcf];rw [h x (by simp)]
 case build t B=>simp only [zcf];rw [zno fun x a=>h x (by simpa using a)]
 case buildSlice t n B=>simp only [zcf];rw [zno fun x a=>h x (by simpa using a)]
 case load t x=>simp only [zcf];rw [h x (by simp)]
 case store t x v=>simp only [zcf];rw [h x (by simp),h v (by simp)]
 case nilCheck x=>simp only [zcf];rw [h x (by simp)]
 case binOp p I x y yt=>simp only [zcf];rw [h x (by simp),h y (by simp)]
 case unOp p I x=>simp only [zcf];rw [h x (by simp)]
 case convert s d x=>simp only [zcf];rw [h x (by simp)]
 case makeFunc J L M =>
  cases J<;>simp only [zcf]
  rw [List.map_congr_left (l:=L.toList) fun x a=>h x (by simp at a ⊢;exact .inl a),List.map_congr_left (l:=M.toList) fun x a=>h x (by simp at a ⊢;exact .inr a)]
 case makeSlice t l c=>simp only [zcf];rw [h l (by simp),h c (by simp)]
 case slice t x F G H =>
  simp only [zcf]
  rw [h x (by simp),opts (x:=F) fun y k=>h y (by subst k;simp),opts (x:=G) fun y k=>h y (by subst k;simp),opts (x:=H) fun y k=>h y (by subst k;simp)]
 case fieldAddr t x j=>simp only [zcf];rw [h x (by simp)]
 case field t x j=>simp only [zcf];rw [h x (by simp)]
 case indexAddr t x i=>simp only [zcf];rw [h x (by simp),h i (by simp)]
 case index t x i=>simp only [zcf];rw [h x (by simp),h i (by simp)]
 case extract x j=>simp only [zcf];rw [h x (by simp)]
 case lookup t x i ok=>simp only [zcf];rw [h x (by simp),h i (by simp)]
 case mapUpdate t x i v=>simp only [zcf];rw [h x (by simp),h i (by simp),h v (by simp)]
 case call c =>
  obtain ⟨K,z,argTypes⟩:=c
  have A:z.toList.map (opnd e)=z.toList.map (opnd g):=List.map_congr_left fun x a=>h x (by simp [Call.operands];exact .inr (by simpa using a))
  cases K with
  | value f=>simp only [zcf];rw [A,h f (by simp [Call.operands])]
  | builtin b=>simp only [zcf];rw [A]
  | invoke r m=>rfl
def putL (l:List SV) (t:Option Tmp) (s:SV):List SV:=match t with|none=>l|some t=>l.set t s
def zbh (S:Nat→Bool):List Eff→List SV→List SV
 | [],l=>l
 | e::es,l=>zbh S es (if S e.i then putL l e.dst e.sv else l)
def zbp (S:Nat→Bool):List Eff→(Nat→Root)→(Nat→Root)
 | [],μ=>μ
 | e::es,μ=>zbp S es (if S e.i then now μ e.up else μ)
def zfF (S:Nat→Bool) (es:List Eff) (ab r:Nat):Prop:=r<ab∨∃ e∈es,S e.i=true∧e.ab≤r∧r<e.ab'
theorem zBU (l) (t) (s):(putL l t s).length=l.length:=by cases t<;>simp [putL]
theorem zEV {l t s q}(h:t≠some q):(putL l t s)[q]?=l[q]?:=by
 cases t with
 | none=>rfl
 | some t=>grind [putL]
theorem zEO {l t u s v}(h:∀ q,t=some q→u≠some q):putL (putL l t s) u v=putL (putL l u v) t s:=by
 cases t with
 | none=>rfl
 | some t=>cases u with
  | none=>rfl
  | some u=>exact List.set_comm _ _ (fun e=>h t rfl (by rw [e]))
theorem zhP (S):∀ (a b) (l),zbh S (a++b) l=zbh S b (zbh S a l)
 | [],_,_=>rfl
 | e::a,b,l=>by exact zhP S a b _
theorem zhV (S):∀ (a b) (c),zbp S (a++b) c=zbp S b (zbp S a c)
 | [],_,_=>rfl
 | e::a,b,c=>by exact zhV S a b _
theorem zxV {μ a r}(h:r∉a.map (·.1)):now μ a r=μ r:=by
 induction a with
 | nil=>rfl
 | cons p l ih =>
  grind [zif]
theorem zJd {b c a r}(h:r∈a.map (·.1)):now b a r=now c a r:=by
 induction a with
 | nil=>grind
 | cons p l ih =>
  grind [zif]
theorem zEM {a b c r}(h:a r=b r):now a c r=now b c r:=by grind [zJd,zxV]
theorem zHl {c b a}(h:∀ r,r∈b.map (·.1)→r∉a.map (·.1)):now (now c b) a=now (now c a) b:=by grind [zxV,zEM]
section
variable {S:Nat→Bool}
theorem zFj {t}:∀ {b}{l a},(∀ e∈b,S e.i=false→e.dst≠some t)→l[t]?=a[t]?→l.length=a.length→(zbh S b l)[t]?=(zbh (fun _=>true) b a)[t]?
 | [],l,a,_,h,_=>h
 | e::b,l,a,d,h,hl=>by
  simp [zbh]
  refine zFj (fun f c=>d f (vI0 _ c)) ?_ ?_
  ·cases hS:S e.i with
   | true =>
    cases hdst:e.dst with
    | none=>exact h
    | some q =>
     grind [putL]
   | false =>
    grind [zEV]
  grind [zBU]
theorem zCh {t}:∀ {a}{l},(∀ e∈a,S e.i=true→e.dst≠some t)→(zbh S a l)[t]?=l[t]?
 | [],_,_=>rfl
 | e::a,l,c=>by
  simp only [zbh]
  rw [zCh fun d b=>c d (vI0 _ b)]
  grind [zEV]
theorem zC9 {r}:∀ {a}{b c},(∀ e∈a,S e.i=false→r∉e.up.map (·.1))→b r=c r→zbp S a b r=zbp (fun _=>true) a c r
 | [],_,_,_,h=>h
 | e::a,b,c,f,h=>by
  simp [zbp]
  refine zC9 (fun g d=>f g (vI0 _ d)) ?_
  cases hS:S e.i with
  | true=>exact zEM h
  | false =>
   grind [zxV]
theorem zzQ {r}:∀ {a}{b},(∀ e∈a,S e.i=true→r∉e.up.map (·.1))→zbp S a b r=b r
 | [],_,_=>rfl
 | e::a,b,d=>by
  simp only [zbp]
  rw [zzQ fun f c=>d f (vI0 _ c)]
  grind [zxV]
theorem zBT {t v}:∀ {a}{l},(∀ e∈a,S e.i=true→∀ q,t=some q→e.dst≠some q)→zbh S a (putL l t v)=putL (zbh S a l) t v
 | [],_,_=>rfl
 | e::a,l,c=>by
  simp only [zbh]
  cases g:S e.i with
  | true =>
   rw [zEO fun q f=>c e (by simp) g q f]
   exact zBT fun d b=>c d (vI0 _ b)
  | false =>
   exact zBT fun d b=>c d (vI0 _ b)
theorem zxj {d}:∀ {a}{c},(∀ e∈a,S e.i=true→∀ r,r∈d.map (·.1)→r∉e.up.map (·.1))→zbp S a (now c d)=now (zbp S a c) d
 | [],_,_=>rfl
 | e::a,c,f=>by
  simp only [zbp]
  cases h:S e.i with
  | true =>
   rw [zHl (f e (by simp) h)]
   exact zxj fun g b=>f g (vI0 _ b)
  | false =>
   exact zxj fun g b=>f g (vI0 _ b)
theorem zn9 {S S'}:∀ {es}{l},(∀ e∈es,S e.i=S' e.i)→zbh S es l=zbh S' es l
 | [],_,_=>rfl
 | e::es,l,h=>by
  simp only [zbh]
  rw [h e (by simp)]
  exact zn9 fun b a=>h b (vI0 _ a)
theorem zlF {S S'}:∀ {es}{a},(∀ e∈es,S e.i=S' e.i)→zbp S es a=zbp S' es a
 | [],_,_=>rfl
 | e::es,a,h=>by
  simp only [zbp]
  rw [h e (by simp)]
  exact zlF fun c b=>h c (vI0 _ b)
end
theorem zlm:∀ (n) (l),(ztC n l).length=max n l.length
 | 0,l=>by rfl
 | n + 1,R::l=>by simp [ztC,zlm n l]<;>omega
 | n + 1,[]=>by simp [ztC,zlm n []]
theorem zt0:∀ (n) (l) (r),zbg (ztC n l) r=zbg l r
 | 0,l,r=>by rfl
 | n + 1,R::l,0=>rfl
 | n + 1,R::l,r + 1=>zt0 n l r
 | n + 1,[],0=>rfl
 | n + 1,[],r + 1=>by
  have:=zt0 n [] r
  grind [ztC,zbg]
theorem zjr:∀ (a) (m),(zrn a m).length=m.length
 | [],_=>rfl
 | (r,R)::l,m=>by simp [zrn,zjr l m]
theorem zv9:∀ {a}{m}(r),upOk m.length a=true→zbg (zrn a m) r=now (zbg m) a r
 | [],m,r,_=>rfl
 | (q,R)::l,m,r,h=>by
  simp [upOk] at h
  rw [zif,← zv9 r h.2]
  simp only [zrn,zbg]
  by_cases b:r=q
  ·subst b
   rw [if_pos rfl,List.getElem?_set_self (by grind [zjr])]
   rfl
  grind
theorem zEF (st:St):st.root=zbg st.mem:=rfl
theorem zDu {a:St}{e}(h:upOk e.ab' e.up=true) (hl:a.mem.length≤e.ab'):(a.after e).root=now a.root e.up∧(a.after e).mem.length=e.ab':=by
 have hlen:(ztC e.ab' a.mem).length=e.ab':=by grind [zlm]
 refine ⟨?_,?_⟩
 ·funext r
  rw [zEF,zEF]
  show zbg (zrn e.up (ztC e.ab' a.mem)) r=_
  grind [zv9,zEM,zt0]
 ·show (zrn e.up (ztC e.ab' a.mem)).length=_
  grind [zjr]
section
variable {cx:Cx} {inl:FuncId→List SV→Nat→List Root→Option Inl} {C:FuncId→List D→Option (List D)} {k:Nat} {E:List D} {ops:List Oper}
structure EffOk (cx:Cx) (inl:FuncId→List SV→Nat→List Root→Option Inl) (C:FuncId→List D→Option (List D)) (k:Nat) (E:List D) (ops:List Oper) (o:Oper) (i:Nat) (st:St) (e:Eff):Prop where
 guard:GuardIs E st ops o e.run
 i:e.i=i
 dst:e.dst=o.dst
 ab:e.ab=st.mem.length
 ab':e.ab≤e.ab'
 up:upOk e.ab' e.up=true
 eff:(e.run=true∧∃ kn s,KnOk E kn∧(zcf cx inl kn st.slot o).run st.root ⟨[],st.nv,[],st.mem.length⟩=some (e.sv,s,e.foot)∧e.bs=s.bs∧e.up=s.up∧e.ab'=s.ab∧Sat C k E s.bs s.nv)∨(e.run=false∧e.sv=.tu []∧e.up=[]∧e.ab'=e.ab∧e.bs=[])
theorem EffOk.of {o i a e}(c:GuardIs E a ops o e.run)
  (h:(e.run=true∧∃ b,KnOk E b∧znf cx inl b a.slot a.root a.nv a.mem.length i o=some e∧Sat C k E e.bs e.nv')∨e=znH i o a):EffOk cx inl C k E ops o i a e:=by
 rcases h with ⟨l,b,m,n,h4⟩|h
 ·obtain ⟨s,d,q,p2,r,t,u,p6,v,p8,w,x,p11⟩:=zkn n
  have f:=(X.run_mono _ _ _ d).2.1
  simp only at f
  exact ⟨c,q,r,v,by omega,x,.inl ⟨l,b,s,m,d,t,u,w,by grind⟩⟩
 ·subst h
  exact ⟨c,rfl,rfl,rfl,wG0 _,rfl,.inr ⟨rfl,rfl,rfl,rfl,rfl⟩⟩
theorem EffOk.after {o i a e}(h:EffOk cx inl C k E ops o i a e):(a.after e).root=now a.root e.up∧(a.after e).mem.length=e.ab'∧(a.after e).slots=putL a.slots e.dst e.sv:=by
 obtain ⟨c,b⟩:=zDu h.up (by rw [← h.ab];exact h.ab')
 exact ⟨c,b,by rfl⟩
theorem Steps.len:∀ {a}{i}{d c}{b},Steps cx inl C k E ops a i d b c→b.length=a.length
 | [],_,_,_,[],_=>rfl
 | o::a,i,d,c,e::b,h=>by simp [Steps.len h.2.2]
 | [],_,_,_,_::_,h=>h.elim
 | _::_,_,_,_,[],h=>h.elim
theorem Steps.all:∀ {f}{i}{b a}{d},Steps cx inl C k E ops f i b d a →
  a.slots=zbh (fun _=>true) d b.slots∧a.root=zbp (fun _=>true) d b.root∧b.mem.length≤a.mem.length∧(∀ e∈d,b.mem.length≤e.ab∧e.ab≤e.ab'∧e.ab'≤a.mem.length∧i≤e.i∧e.i<i + f.length) ∧
  (∀ r,b.mem.length≤r→r<a.mem.length→∃ e∈d,e.ab≤r∧r<e.ab')∧a.base=b.base
 | [],i,b,a,[],h=>by
  have  := h
  subst this
  exact ⟨rfl,rfl,wG0 _,by simp,fun r g j=>by omega,rfl⟩
 | o::f,i,b,a,e::d,h=>by
  have c:=EffOk.of (i:=i) h.1 h.2.1
  obtain ⟨a1,a2,a3⟩:=c.after
  obtain ⟨b1,b2,b3,b4,b5,m⟩:=Steps.all h.2.2
  refine ⟨by grind [zbh],by grind [zbp],?_,fun e' n=>?_,fun r g j=>?_,m⟩
  ·have:=c.ab;have:=c.ab';omega
  ·rcases List.mem_cons.1 n with g|g
   ·have:=c.ab;have:=c.ab';have:=c.i
    grind
   ·have:=c.ab;have:=c.ab'
    grind
  ·by_cases l:r<e.ab'
   ·exact ⟨e,by simp,by rw [c.ab];omega,l⟩
   grind
 | [],_,_,_,_::_,h=>h.elim
 | _::_,_,_,_,[],h=>h.elim
theorem Steps.split:∀ {a}{o}{j}{i}{d g}{b},Steps cx inl C k E ops (a++o::j) i d b g →
  ∃ c e l f,b=c++e::l∧c.length=a.length∧Steps cx inl C k E ops a i d c f∧EffOk cx inl C k E ops o (i + a.length) f e∧Steps cx inl C k E ops j (i + a.length + 1) (f.after e) l g
 | [],o,j,i,d,g,e::b,h=>⟨[],e,b,d,rfl,rfl,rfl,EffOk.of h.1 h.2.1,h.2.2⟩
 | o1::a,o,j,i,d,g,q::b,h=>by
  obtain ⟨c,e,l,f,h1,h2,p,h4,h5⟩:=Steps.split h.2.2
  refine ⟨q::c,e,l,f,by grind,by grind,⟨h.1,h.2.1,p⟩,?_,?_⟩
  all_goals grind
 | [],_,_,_,_,_,[],h=>h.elim
 | _::_,_,_,_,_,_,[],h=>h.elim
end
end Go.SX
namespace Go.SX
open Go.RowKit (Below)
def mkD (r:Nat):Deferred:={ target:=.collected r,args:=#[] }
def Marks (B0:Nat) (w0 w:World) (ds:List Deferred):Prop:=∃ rs:List Nat,ds=rs.map mkD∧rs.Nodup∧∀ r∈rs,B0≤r∧w0.heap.size≤r∧w.heap[r]?=some (.deferred (some []))
theorem Marks.none {a b w}:Marks a b w []:=⟨[],rfl,.nil,fun _ h=>by grind⟩
theorem Mem.not_own {a X}(m:Mem a X) {r o}(hr:a≤r) (h:X.w.heap[r]?=some o) (ho:¬ Held o):¬ X.M r:=by
 rintro (c|⟨q,d,b⟩)
 ·exact absurd (m.frame r c) (by omega)
 ·obtain ⟨o',h',ho'⟩:=m.held d b
  grind
theorem zxT {a}:¬ Held (.deferred a):=by rintro (⟨_,_,_,h⟩|⟨_,_,h⟩)<;>cases h
theorem Marks.ext {b c X X' d}(m:Mem b X) (x:Ext X X') (h:Marks b c X.w d):Marks b c X'.w d:=by
 obtain ⟨f,g,i,j⟩:=h
 refine ⟨f,g,i,fun r k=>?_⟩
 obtain ⟨e,l,a⟩:=j r k
 exact ⟨e,l,(x.K.heap r (lt_of_heap a) (m.not_own e a zxT)).trans a⟩
def Inv (B0:Nat) (w0:World) (Xe:Ctx) (E:List D) (sl:List SV) (μ:Nat→Root) (A:Nat→Prop) (a:Act) (w:World):Prop :=
 ∃ X:Ctx,X.E=E∧X.w=w∧X.μ=μ∧(∀ r,X.A r↔A r)∧Mem B0 X∧Ext Xe X∧Below B0 w0 w∧a.tmps.size=sl.length∧Marks B0 w0 w a.defers∧∀ t,VRep X ((sl[t]?).getD (.un 1)) (a.tmps.getD t undef)
theorem zyd {X c}{a:Act}(e:a.tmps.size=c.length) (h:∀ t,VRep X ((c[t]?).getD (.un 1)) (a.tmps.getD t undef)) (b) {s v}(hv:VRep X s v) :
  (a.put b v).tmps.size=(putL c b s).length∧(a.put b v).defers=a.defers∧∀ t,VRep X (((putL c b s)[t]?).getD (.un 1)) ((a.put b v).tmps.getD t undef):=by
 cases b with
 | none=>exact ⟨e,rfl,h⟩
 | some d =>
  refine ⟨by grind [Act.put,putL],rfl,fun t=>?_⟩
  simp only [Act.put,putL]
  by_cases ht:d=t
  ·rcases vS0 d c.length with hlt|hge
   all_goals simp_all [VRep]
  simp_all
theorem zhM {a b}(h:disj a b=true) {x}(ha:x∈a) (hb:x∈b):False:=by grind [disj]
structure zEv (ops:List Oper) (a b:Eff):Prop where
 wr:∀ r,r∈a.up.map (·.1)→r∉b.foot
 ww:∀ r,r∈a.up.map (·.1)→r∉b.up.map (·.1)
 rw_:∀ r,r∈b.up.map (·.1)→r∉a.foot
 twr:∀ o t,ops[b.i]?=some o→a.dst=some t→t∉zn4 o++zkN ops o
 tww:∀ t,a.dst=some t→b.dst≠some t
 trw:∀ o t,ops[a.i]?=some o→b.dst=some t→t∉zn4 o++zkN ops o
 subA:zof a.bs=true→¬ b.ab<b.ab'
 subB:zof b.bs=true→¬ a.ab<a.ab'
theorem zCf {d a b p k}(l:d[a.i]?=some p) (n:d[b.i]?=some k) (hda:a.dst=p.dst) (hdb:b.dst=k.dst) (h:zy5 (zez d a) (zez d b)=true):zEv d a b:=by
 simp only [zy5,zez,l,n,wD0] at h
 obtain ⟨⟨⟨⟨⟨q,z⟩,i⟩,v⟩,w⟩,y⟩:=h
 have j:∀ r,r∈a.up.map (·.1)→r∈(if zof a.bs=true then zma::a.up.map (·.1) else a.up.map (·.1)):=fun r f=>by grind
 have m:∀ r,r∈b.up.map (·.1)→r∈(if zof b.bs=true then zma::b.up.map (·.1) else b.up.map (·.1)):=fun r f=>by grind
 exact
  {wr:=fun r h e=>zhM q (j r h) ((fun r f=>by grind) r e)
   ww:=fun r h e=>zhM z (j r h) (m r e)
   rw_:=fun r h e=>zhM i (m r h) ((fun r f=>by grind) r e)
   twr:=fun o t c s g=>by
    rw [n] at c
    injection c with c
    subst c
    exact zhM v (x:=t) (by grind) g
   tww:=fun t s ht'=>zhM w (x:=t) (by grind) (by grind)
   trw:=fun o t c s g=>by
    rw [l] at c
    injection c with c
    subst c
    exact zhM y (x:=t) (by grind) g
   subA:=fun h u=>zhM q (x:=zma) (by grind) (by simp_all)
   subB:=fun h u=>zhM i (x:=zma) (by grind) (by simp_all) }
section
variable {cx:Cx} {inl:FuncId→List SV→Nat→List Root→Option Inl} {C:FuncId→List D→Option (List D)} {k B0:Nat} {E:List D}
def addS (S:Nat→Bool) (i:Nat):Nat→Bool:=fun j=>S j||j==i
theorem zCc {ro}(ty:TysOk cx) (hC:CallsOk cx C) (hI:InlOk cx C k inl) {A w0 Xe}(hB0:B0≤w0.heap.size) {m u stf i l e o r1 r2 Q}
  (h1:Steps cx inl C k E A.toList r1 0 m i u) (I:EffOk cx inl C k E A.toList o r1.length u e) (h2:Steps cx inl C k E A.toList r2 (r1.length + 1) (u.after e) l stf) (ho:A[r1.length]?=some o)
  {S} (L:S e.i=false) (hpre:∀ c∈i,S c.i=false→zEv A.toList c e) (N:∀ c∈l,S c.i=true→zEv A.toList e c)
  {a w} (hinv:Inv B0 w0 Xe E (zbh S (i++e::l) m.slots) (zbp S (i++e::l) m.root) (zfF S (i++e::l) m.mem.length) a w) :
  wpOpIn (FR ro) 0 cx.P A Q r1.length (fun O w'=>Inv B0 w0 Xe E (zbh (addS S e.i) (i++e::l) m.slots) (zbp (addS S e.i) (i++e::l) m.root) (zfF (addS S e.i) (i++e::l) m.mem.length) O w') a w:=by
 have ei:=I.i
 obtain ⟨s1,s2,s3,s4,s5,s6⟩:=h1.all
 obtain ⟨p1,p2,p3,p4,p5,p6⟩:=h2.all
 obtain ⟨a1,a2,a3⟩:=I.after
 have slotAt:∀ t,t∈zn4 o++zkN A.toList o→(zbh S (i++e::l) m.slots)[t]?=u.slots[t]?:=fun t ht=>by
  rw [zhP]
  simp [zbh,L]
  rw [zCh fun c n g=>fun y=>(N c n g).trw o t (by grind) y ht,s1]
  exact zFj (fun c n g=>fun y=>(hpre c n g).twr o t (by grind) y ht) rfl rfl
 have rootAt:∀ r,r∈e.foot→zbp S (i++e::l) m.root r=u.root r:=fun r z=>by
  rw [zhV]
  simp [zbp,L]
  rw [zzQ fun c n g=>fun y=>(N c n g).rw_ r y z,s2]
  exact zC9 (fun c n g=>fun y=>(hpre c n g).wr r y z) rfl
 have hnot:∀ c∈i++l,c.i≠e.i:=fun c n h=>by grind
 have slots':zbh (addS S e.i) (i++e::l) m.slots=putL (zbh S (i++e::l) m.slots) e.dst e.sv:=by
  rw [zhP,zhP]
  have J:(addS S e.i) e.i=true:=by simp [addS]
  simp [zbh,L,J]
  rw [zn9 (S:=addS S e.i) (S':=S) (es:=i) fun c n=>by grind [addS],zn9 (S:=addS S e.i) (S':=S) (es:=l) fun c n=>by grind [addS]]
  exact zBT fun c n g q hq=>(N c n g).tww q hq
 have roots':zbp (addS S e.i) (i++e::l) m.root=now (zbp S (i++e::l) m.root) e.up:=by
  rw [zhV,zhV]
  have J:(addS S e.i) e.i=true:=by simp [addS]
  simp [zbp,L,J]
  rw [zlF (S:=addS S e.i) (S':=S) (es:=i) fun c n=>by grind [addS],zlF (S:=addS S e.i) (S':=S) (es:=l) fun c n=>by grind [addS]]
  exact zxj fun c n g q hq=>(N c n g).ww q hq
 have names':∀ r,zfF (addS S e.i) (i++e::l) m.mem.length r↔zfF S (i++e::l) m.mem.length r∨(e.ab≤r∧r<e.ab'):=fun r=>by
  unfold zfF
  constructor
  ·rintro (h|⟨c,f,g,h⟩)
   ·exact .inl (.inl h)
   ·simp [addS] at g
    rcases g with g|g
    ·exact .inl (.inr ⟨c,f,g,h⟩)
    ·have:c=e:=by
      rcases List.mem_append.1 f with f|f
      ·exact absurd g (hnot c (vQ0 _ f))
      ·rcases List.mem_cons.1 f with f|f
       ·exact f
       ·exact absurd g (hnot c (List.mem_append_right _ f))
     subst this
     exact .inr h
  ·rintro ((h|⟨c,f,g,h⟩)|h)
   ·exact .inl h
   ·exact .inr ⟨c,f,by simp [addS,g],h⟩
   ·exact .inr ⟨e,by simp,by simp [addS],h⟩
 rw [slots',roots']
 obtain ⟨X,P,M,x3,x4,x5,x6,x7,x8,x9,x10⟩:=hinv
 have hwant:Region.wanted o (yielded A a.tmps)=e.run:=by
  have R:=I.guard
  unfold GuardIs at R
  unfold Region.wanted
  cases hgd:o.guard with
  | none=>simp only [hgd] at R;rw [R]
  | some p =>
   obtain ⟨j,want⟩:=p
   simp only [hgd] at R ⊢
   obtain ⟨s,H,hs2⟩:=R
   unfold guardOf at H
   cases hoj:A.toList[j]? with
   | none=>simp [hoj] at H
   | some oj =>
    simp only [hoj] at H
    cases hdj:oj.dst with
    | none=>simp [hdj] at H
    | some t =>
     simp [hdj] at H
     have hst:u.slot t=((zbh S (i++e::l) m.slots)[t]?).getD (.un 1):=by rw [(slotAt t (List.mem_append_right _ (by simp [zkN,hgd,hoj,hdj])))];rfl
     have F:=zch (x10 t)
     rw [← hst,H] at F
     have hoj':A[j]?=some oj:=by rw [← Array.getElem?_toList];exact hoj
     have hy:yielded A a.tmps j=(match a.tmps[t]? with|some (.bool b)=>some b|_=>none):=by
      simp [yielded,hoj',hdj]
      rfl
     have hin:t<a.tmps.size:=by
      rcases vS0 t a.tmps.size with h|h
      ·exact h
      ·have:u.slot t=.un 1:=by rw [hst,vO0 (by omega)];rfl
       rw [this] at H
       subst H
       rcases hs2 with ⟨O,b,h,_⟩|⟨h,_⟩<;>cases h
     have hget:a.tmps.getD t undef=a.tmps[t]:=by simp [vJ0,hin]
     rw [hget] at F
     rw [hy,Array.getElem?_eq_getElem hin]
     rcases hs2 with ⟨O,b,h,ha',z⟩|⟨h,z⟩
     ·subst h
      obtain ⟨d,y,hdv⟩:=VRep.data.1 F
      rw [P,ha'] at y
      injection y with y
      subst y
      obtain ⟨b',J,e2⟩:=hdv.bool
      injection J with J
      subst J
      rw [e2,z]
      simp
     ·subst h
      simp only [VRep,VRepL] at F
      obtain ⟨vs,F,_⟩:=F
      rw [F,z]
      rfl
 unfold wpOpIn
 rw [ho]
 simp only
 rw [hwant]
 rcases I.eff with ⟨hrun,kn,s,hkn,z,hbs,hup,hab',hsat⟩|⟨hrun,hsv,hup,hab,hbs⟩
 ·rw [hrun]
  simp
  have hcong:zcf cx inl kn u.slot o=zcf cx inl kn (fun t=>((zbh S (i++e::l) m.slots)[t]?).getD (.un 1)) o:=zyS fun x hx=>by
   cases x with
   | tmp t =>
    simp only [opnd]
    have:=slotAt t (vQ0 _ (by
     simp [zn4]
     exact ⟨.tmp t,by simpa using hx,rfl⟩))
    rw [this]
    rfl
   | _=>rfl
  have hr2:Run (zcf cx inl kn (fun t=>((zbh S (i++e::l) m.slots)[t]?).getD (.un 1)) o) X.μ ⟨[],u.nv,[],u.mem.length⟩ e.sv s:=by
   rw [← hcong]
   exact ⟨e.foot,SX.X.run_local u.root X.μ _ _ z fun r z=>by rw [x3,rootAt r z]⟩
  have hfr:∀ r,u.mem.length≤r→r<s.ab→¬ X.A r:=fun r h1 h2 hA=>by
   rw [x4 r] at hA
   have hae:=I.ab
   rcases hA with h|⟨c,f,g,U,h4⟩
   ·omega
   ·rcases List.mem_append.1 f with f|f
    ·have:=(s4 c f).2.2.1;omega
    ·rcases List.mem_cons.1 f with f|f
     ·subst f;rw [L] at g;cases g
     ·have:=(p4 c f).1
      rw [a2] at this
      omega
  have hA:zof s.bs=true→∀ r,X.A r↔r<u.mem.length:=fun hsub r=>by
   rw [← hbs] at hsub
   rw [x4 r]
   constructor
   ·rintro (h|⟨c,f,g,U,h4⟩)
    ·omega
    ·rcases List.mem_append.1 f with f|f
     ·have:=(s4 c f).2.2.1;omega
     ·rcases List.mem_cons.1 f with f|f
      ·subst f;rw [L] at g;cases g
      ·exact absurd (Nat.lt_of_le_of_lt U h4) ((N c f g).subA hsub)
   ·intro h
    by_cases z:r<m.mem.length
    ·exact .inl z
    ·obtain ⟨c,f,U,h4⟩:=s5 r (by omega) h
     refine .inr ⟨c,vQ0 _ f,?_,U,h4⟩
     cases g:S c.i with
     | true=>rfl
     | false=>exact absurd (Nat.lt_of_le_of_lt U h4) ((hpre c f g).subB hsub)
  have hold':=(zys ty hC hI (by rw [M];exact Nat.le_trans hB0 x7.size) x5 (kn:=kn) (fun a b f=>by rw [P];exact hkn a b f) x10 rfl hr2 (by rw [P];exact hsat) hfr hA) ro (fun O w'=>Inv B0 w0 Xe E (putL (zbh S (i++e::l) m.slots) e.dst e.sv) (now (zbp S (i++e::l) m.root) e.up) (zfF (addS S e.i) (i++e::l) m.mem.length) O w') Q (fun v w' ⟨X',B,F⟩=>by
   rw [← I.dst]
   obtain ⟨g1,g2,g3⟩:=zyd (X:=X') (s:=e.sv) (v:=v) x8 (fun t=>VRep.ext B.ext (x10 t)) e.dst F
   refine ⟨X',by rw [B.E,P],B.w,by rw [B.μ,x3,hup],fun r=>?_,B.mem,x6.trans B.ext,x7.trans (by rw [← M];exact B.below),g1,by rw [g2,← B.w];exact Marks.ext x5 B.ext (by rw [M];exact x9),g3⟩
   rw [B.A r,x4 r,names' r,I.ab,hab'])
  rw [M] at hold'
  exact hold'
 ·rw [hrun]
  obtain ⟨g1,g2,g3⟩:=zyd (X:=X) (s:=e.sv) (v:=undef) x8 x10 e.dst (by rw [hsv];exact ⟨#[],rfl,rfl⟩)
  rw [← I.dst]
  refine ⟨fun _ _=>trivial,X,P,M,by rw [x3,hup];rfl,fun r=>?_,x5,x6,x7,g1,by rw [g2];exact x9,g3⟩
  rw [x4 r,names' r]
  constructor
  ·exact .inl
  ·rintro (h|h)
   ·exact h
   ·omega
end
end Go.SX
namespace Go.SX
open Go.RowKit (Below)
section
variable {cx:Cx} {inl:FuncId→List SV→Nat→List Root→Option Inl} {C:FuncId→List D→Option (List D)} {k B0:Nat} {E:List D}
theorem zAB {l m j c f d S}(h:Steps cx inl C k E j j 0 c d f) (g:∀ e∈d,S e.i=true) {a w}
  (i:Inv B0 l m E (zbh S d c.slots) (zbp S d c.root) (zfF S d c.mem.length) a w):Inv B0 l m E f.slots f.root (fun r=>r<f.mem.length) a w:=by
 obtain ⟨z,A,s3,s4,q,_⟩:=h.all
 rw [zn9 (S':=fun _=>true) (fun e b=>g e b),zlF (S':=fun _=>true) (fun e b=>g e b),← z,← A] at i
 obtain ⟨X,t,u,v,x,y⟩:=i
 refine ⟨X,t,u,v,fun r=>?_,y⟩
 rw [x r]
 constructor
 ·rintro (h|⟨e,b,_,n,o⟩)
  all_goals grind
 ·intro p
  by_cases h:r<c.mem.length
  ·exact .inl h
  ·obtain ⟨e,b,n,o⟩:=q r (by omega) p
   exact .inr ⟨e,b,g e b,n,o⟩
theorem zC5 {d f}{c:St}{b S}(g:∀ e∈b,S e.i=false) {a w}(j:Inv B0 d f E c.slots c.root (fun r=>r<c.mem.length) a w) :
  Inv B0 d f E (zbh S b c.slots) (zbp S b c.root) (zfF S b c.mem.length) a w:=by
 have m:∀ (b:List Eff) (l:List SV),(∀ e∈b,S e.i=false)→zbh S b l=l:=by
  intro b
  induction b with
  | nil=>intro l _;rfl
  | cons e b q=>grind [zbh]
 have s:∀ (b:List Eff) (i:Nat→Root),(∀ e∈b,S e.i=false)→zbp S b i=i:=by
  intro b
  induction b with
  | nil=>intro l _;rfl
  | cons e b q=>grind [zbp]
 rw [m b _ g,s b _ g]
 obtain ⟨X,t,u,v,x,k⟩:=j
 refine ⟨X,t,u,v,fun r=>?_,k⟩
 rw [x r]
 constructor
 ·exact .inl
 ·rintro (h|⟨e,he,hS',_⟩)
  all_goals grind
theorem zg0 {a i}{o:Oper}(h:a[i]?=some o):a=a.take i++o::a.drop (i + 1):=by grind [List.getElem_cons_drop,List.take_append_drop]
theorem zBr {s}(ty:TysOk cx) (hC:CallsOk cx C) (G:InlOk cx C k inl) {b g u}(J:B0≤g.heap.size) {c n f}(h:Steps cx inl C k E b.toList b.toList 0 c f n) {Q}
  (I:∀ a w,Inv B0 g u E n.slots n.root (fun r=>r<n.mem.length) a w→Q .normal a w) {a w} (l:Inv B0 g u E c.slots c.root (fun r=>r<c.mem.length) a w):wpOpsIn (FR s) 0 cx.P b Q (List.range b.size) a w:=by
 have hall:=h.all.2.2.2.1
 have main:∀ (m i:Nat) (a:Act) (w:World),i + m=b.size→Inv B0 g u E (zbh (fun j=>decide (j<i)) f c.slots) (zbp (fun j=>decide (j<i)) f c.root) (zfF (fun j=>decide (j<i)) f c.mem.length) a w →
   wpOpsIn (FR s) 0 cx.P b Q (List.range' i m) a w:=by
  intro m
  induction m with
  | zero =>
   intro i a w hi l
   refine I a w (zAB h (fun e p=>?_) l)
   grind
  | succ m H =>
   intro i a w hi l
   have A:b.toList[i]?=some b[i]:=by simp
   rw [zg0 A] at h
   have t:(b.toList.take i).length=i:=by grind
   obtain ⟨pre,e,post,stn,K,e2,y,p,q⟩:=Steps.split (ops:=b.toList.take i++b[i]::b.toList.drop (i + 1)) h
   rw [← zg0 A] at y p q
   rw [vA0,t] at p q
   have ei:=p.i
   subst K
   have B:=zCc (ro:=s) (Q:=Q) ty hC G J (r1:=b.toList.take i) (o:=b[i]) y (by grind) (by rw [t];exact q) (by grind) (S:=fun j=>decide (j<i)) (by grind) (fun x z hS=>by
     have:=(y.all.2.2.2.1 x z).2.2.2.2
     grind) (fun x z hS=>by
     have:=(q.all.2.2.2.1 x z).2.2.2.1
     grind) l
   rw [t] at B
   refine wpOpIn_mono (fun a' L hinv'=>H (i + 1) a' L (by omega) ?_) B
   have:addS (fun j=>decide (j<i)) e.i=fun j=>decide (j<i + 1):=by grind [addS]
   grind
 grind [List.range_eq_range',zC5]
def cnt (p:Nat→Bool):Nat→Nat
 | 0=>0
 | n + 1=>cnt p n + (if p n then 1 else 0)
theorem zIr {p q}(h:∀ j,p j=true→q j=true):∀ n,cnt p n≤cnt q n
 | 0=>wG0 _
 | n + 1=>by
  have:=zIr h n
  grind [cnt]
theorem cnt_lt {p q i}(h:∀ j,p j=true→q j=true) (c:p i=false) (b:q i=true):∀ n,i<n→cnt p n<cnt q n
 | 0,a=>by omega
 | n + 1,a=>by
  simp only [cnt]
  by_cases he:i=n
  ·have:=zIr h i
   grind
  ·have:=cnt_lt h c b n (by omega)
   grind
theorem zCX {p}:∀ {n},cnt p n=0→∀ i,i<n→p i=false
 | 0,_,i,a=>by omega
 | n + 1,h,i,a=>by
  simp only [cnt] at h
  by_cases he:i=n
  ·grind
  ·exact zCX (n:=n) (by omega) i (by omega)
def bitsOf (acc:List Nat) (o:Oper):Nat:=o.after.toList.foldl (fun s e=>if Region.binds .any e then Nat.lor (Nat.lor s (2 ^ e.on)) ((acc[e.on]?).getD 0) else s) 0
theorem zAg {b:List Nat}{m}:∀ (a:List Edge) (s),(a.foldl (fun s e=>if Region.binds .any e then Nat.lor (Nat.lor s (2 ^ e.on)) ((b[e.on]?).getD 0) else s) s).testBit m=true →
  s.testBit m=true∨∃ e∈a,Region.binds .any e=true∧(m=e.on∨((b[e.on]?).getD 0).testBit m=true)
 | [],s,h=>.inl h
 | e::a,s,h=>by
  simp  at h
  rcases zAg a _ h with h|⟨e',h1,h2⟩
  ·by_cases c:Region.binds .any e=true
   ·rw [if_pos c] at h
    have h'  := h
    grind
   grind
  grind
theorem zG0 {a:Type}{E F:List a}{i:Nat}{d}(h:E[i]?=some d):(E++F)[i]?=some d:=by grind
theorem zp4:∀ (l) (a) (j:Nat) (x),a[j]?=some x→(beforeL.go l a)[j]?=some x
 | [],a,j,x,h=>h
 | o::l,a,j,x,h=>by
  exact zp4 l _ j x (zG0 h)
theorem zs6:∀ (l) (a) (i) (o) (m),l[i]?=some o→(((beforeL.go l a)[a.length + i]?).getD 0).testBit m=true →
  ∃ e∈o.after.toList,Region.binds .any e=true∧(m=e.on∨(((beforeL.go l a)[e.on]?).getD 0).testBit m=true)
 | [],a,i,o,m,h,_=>by grind
 | o::l,a,0,c,m,h,b=>by
  simp only [beforeL.go,Nat.add_zero] at b ⊢
  have d:(a++[bitsOf a o])[a.length]?=some (bitsOf a o):=by simp
  have:=zp4 l _ _ _ d
  unfold bitsOf at this
  rw [this] at b
  rcases zAg _ _ b with h|⟨e,h1,h2,h3⟩
  all_goals grind [zp4]
 | o::l,a,i + 1,c,m,h,b=>by
  simp only [beforeL.go] at b ⊢
  refine zs6 l _ i c m h ?_
  grind
theorem zwS:∀ (l) (n i) (o),ztp.go l n=true→l[i]?=some o→∀ e∈o.after.toList,Region.binds .any e=true→e.on<n + i
 | [],n,i,o,_,h=>by grind
 | o::l,n,0,b,h,a=>by
  simp only [ztp.go,wD0,List.all_eq_true,Bool.or_eq_true,Bool.not_eq_true',Nat.blt_eq] at h
  grind
 | o::l,n,i + 1,b,h,a=>by
  simp [ztp.go] at h
  intro e d c
  have:=zwS l (n + 1) i b h.2 a e d c
  omega
theorem zuw {f a}:∀ {d}{e}{c},zi6 f ((d++e::c).map (zez a))=true →
  (∀ b∈d,((f[(zez a e).i]?).getD 0).testBit (zez a b).i=true∨zy5 (zez a b) (zez a e)=true) ∧
  (∀ b∈c,((f[(zez a b).i]?).getD 0).testBit (zez a e).i=true∨zy5 (zez a e) (zez a b)=true)
 | [],e,c,h=>by grind [zi6]
 | e1::d,e,c,h=>by
  simp only [List.cons_append,vM0,zi6,wD0,List.all_eq_true,Bool.or_eq_true] at h
  obtain ⟨i1,i2⟩:=zuw h.2
  grind
theorem zCg {a}(e):(zez a e).i=e.i:=by grind [zez]
theorem zEd {V}(ty:TysOk cx) (hC:CallsOk cx C) (hI:InlOk cx C k inl) {opsA M Xe}(hB0:B0≤M.heap.size) {z O es}(h:Steps cx inl C k E opsA.toList opsA.toList 0 z es O) {Q}
  (hord:zi6 (beforeL opsA.toList []) (es.map (zez opsA.toList))=true) (hedge:ztp opsA.toList 0=true)
  (hQ:∀ a w,Inv B0 M Xe E O.slots O.root (fun r=>r<O.mem.length) a w→Q .normal a w) {a w} (G:Inv B0 M Xe E z.slots z.root (fun r=>r<z.mem.length) a w) :
  wpAnyIn (FR V) 0 cx.P .any opsA Q opsA.size (Array.replicate opsA.size false) a w:=by
 have hall:=h.all.2.2.2.1
 have hall':∀ e∈es,e.i<opsA.size:=fun e he=>by grind
 have main:∀ (fuel:Nat) (listed:Array Bool) (a:Act) (w:World),listed.size=opsA.size→cnt (fun j=>!listed.getD j false) opsA.size≤fuel →
   (∀ j m,listed.getD j false=true→(((beforeL opsA.toList [])[j]?).getD 0).testBit m=true→listed.getD m false=true) →
   Inv B0 M Xe E (zbh (fun j=>listed.getD j false) es z.slots) (zbp (fun j=>listed.getD j false) es z.root) (zfF (fun j=>listed.getD j false) es z.mem.length) a w→wpAnyIn (FR V) 0 cx.P .any opsA Q fuel listed a w:=by
  intro fuel
  induction fuel with
  | zero =>
   intro listed a w hsz hc N G
   have hdone:∀ j,j<opsA.size→listed.getD j false=true:=fun j hj=>by
    have:=zCX (Nat.le_zero.1 hc) j hj
    grind
   refine ⟨?_,hQ a w (zAB h (fun e he=>hdone e.i (hall' e he)) G)⟩
   refine List.eq_nil_iff_forall_not_mem.2 fun j hj=>?_
   grind [mem_ready]
  | succ fuel ih =>
   intro listed a w hsz hc N G
   refine ⟨fun hr=>?_,fun i hi=>?_⟩
   ·
    have hdone:∀ j,j<opsA.size→listed.getD j false=true:=fun j=>by
     induction j using Nat.strongRecOn with
     | ind j ihj =>
      intro hj
      cases hl:listed.getD j false with
      | true=>rfl
      | false =>
       exfalso
       have hm:j∈Region.ready .any opsA listed:=by
        refine mem_ready.2 ⟨?_,opsA[j],Array.getElem?_eq_getElem hj,fun e he hb=>?_⟩
        ·grind
        ·have:=zwS opsA.toList 0 j opsA[j] hedge (by simp) e (by simpa using he) hb
         grind
       grind
    grind [zAB]
   ·obtain ⟨h1,o,ho,hdeps⟩:=mem_ready.1 hi
    have hlt:=(Array.getElem?_eq_some_iff.1 ho).1
    have hls:i<listed.size:=by omega
    have hun:listed.getD i false=false:=by grind
    have hoL:opsA.toList[i]?=some o:=by rw [Array.getElem?_toList];exact ho
    have hsp:=h
    rw [zg0 hoL] at hsp
    have H:(opsA.toList.take i).length=i:=by rw [wE0];simp;omega
    obtain ⟨pre,e,post,stn,e1,e2,g1,he,g2⟩:=Steps.split (ops:=opsA.toList.take i++o::opsA.toList.drop (i + 1)) hsp
    rw [← zg0 hoL] at g1 he g2
    rw [vA0,H] at he g2
    have I:=he.i
    subst e1
    have hbefore:∀ m,(((beforeL opsA.toList [])[i]?).getD 0).testBit m=true→listed.getD m false=true:=fun m hm=>by
     have hm':(((beforeL.go opsA.toList [])[([]:List Nat).length + i]?).getD 0).testBit m=true:=by rw [List.length_nil,vA0];exact hm
     obtain ⟨ed,h2,h3,F⟩:=zs6 _ _ i o m hoL hm'
     have hl:=hdeps ed (by simpa using h2) h3
     rcases F with F|F
     ·rw [F];exact hl
     ·exact N ed.on m hl F
    obtain ⟨o1,o2⟩:=zuw hord
    have getO:∀ e'∈pre++e::post,∃ L,opsA.toList[e'.i]?=some L∧e'.dst=L.dst:=fun e' v=>by
     have hlt':=hall' e' v
     have hoL':opsA.toList[e'.i]?=some opsA[e'.i]:=by rw [Array.getElem?_toList];exact Array.getElem?_eq_getElem hlt'
     refine ⟨_,hoL',?_⟩
     have hsp':=h
     rw [zg0 hoL'] at hsp'
     obtain ⟨pre',e3,post',stn',q1,q2,_,q4,_⟩:=Steps.split (ops:=opsA.toList.take e'.i++opsA[e'.i]::opsA.toList.drop (e'.i + 1)) hsp'
     have hlen':(opsA.toList.take e'.i).length=e'.i:=by rw [wE0];simp;omega
     have place:∀ (es:List Eff) (l:List Oper) (i0:Nat) (s s':St),Steps cx inl C k E opsA.toList l i0 s es s'→∀ (j:Nat) (x:Eff),es[j]?=some x→x.i=i0 + j:=by
      intro es
      induction es with
      | nil=>intro l i0 s s' _ j x K;simp at K
      | cons y es ih2 =>
       intro l i0 s s' P j x K
       cases l with
       | nil=>exact P.elim
       | cons o4 l =>
        cases j with
        | zero =>
         simp at K
         subst K
         exact (EffOk.of (i:=i0) P.1 P.2.1).i
        | succ j =>
         have:=ih2 l (i0 + 1) _ _ P.2.2 j x (by simpa using K)
         omega
     obtain ⟨j,hj⟩:=List.getElem?_of_mem v
     have hj':=place _ _ _ _ _ h j e' hj
     have R:(pre++e::post)[e'.i]?=some e3:=by
      rw [q1,List.getElem?_append_right (by rw [q2,hlen'];exact wG0 _),q2,hlen',Nat.sub_self]
      rfl
     have:e3=e':=by
      rw [show e'.i=j by omega,hj] at R
      injection R with R
      exact R.symm
     have q5:=q4.dst
     rw [this] at q5
     exact q5
    obtain ⟨oe,hoe,hde⟩:=getO e (by simp)
    have hst:=zCc (ro:=V) (Q:=Q) ty hC hI hB0 (r1:=opsA.toList.take i) (o:=o) g1 (by rw [H];exact he) (by rw [H];exact g2) (by rw [H];exact ho) (S:=fun j=>listed.getD j false) (by rw [I];exact hun)
     (fun e' v U=>by
      obtain ⟨L,ho',hd'⟩:=getO e' (vQ0 _ v)
      rcases o1 e' v with hb|hb
      ·rw [zCg,zCg,I] at hb
       rw [hbefore _ hb] at U
       cases U
      ·exact zCf ho' hoe hd' hde hb)
     (fun e' v U=>by
      obtain ⟨L,ho',hd'⟩:=getO e' (List.mem_append_right _ (vI0 _ v))
      rcases o2 e' v with hb|hb
      ·rw [zCg,zCg] at hb
       have:=N _ _ U hb
       rw [I,hun] at this
       cases this
      ·exact zCf hoe ho' hde hd' hb) G
    rw [H] at hst
    refine wpOpIn_mono (fun a' w' hinv'=>?_) hst
    have hS':addS (fun j=>listed.getD j false) e.i=fun j=>(listed.setIfInBounds i true).getD j false:=by
     funext j
     simp only [addS,I]
     by_cases hj:j=i
     ·subst hj
      simp [vJ0,hls]
     ·simp [vJ0,Array.getElem?_setIfInBounds_ne (Ne.symm hj),hj]
    rw [hS'] at hinv'
    have gi  := fun j=>by
     have:=congrFun hS' j
     simp only [addS,I] at this
     exact this.symm
    refine ih _ a' w' (by simpa using hsz) ?_ (fun j m hj hb=>?_) hinv'
    ·have:=cnt_lt (p:=fun j=>!(listed.setIfInBounds i true).getD j false) (q:=fun j=>!listed.getD j false) (i:=i) (fun j hj=>by rw [gi j] at hj;simp at hj ⊢;exact hj.1) (by rw [gi i];simp) (by rw [hun];rfl) opsA.size hlt
     omega
    ·rw [gi] at hj ⊢
     simp only [Bool.or_eq_true,beq_iff_eq] at hj ⊢
     rcases hj with hj|hj
     ·exact .inl (N j m hj hb)
     ·subst hj
      exact .inl (hbefore m hb)
 refine main opsA.size _ a w (by simp) ?_ (fun j m hj=>?_) (zC5 (fun e he=>?_) G)
 ·have:∀ n,cnt (fun j=>!(Array.replicate opsA.size false).getD j false) n≤n:=fun n=>by
   induction n with
   | zero=>exact wG0 _
   | succ n ih=>simp only [cnt];split<;>omega
  exact this _
 ·simp only [vJ0,Array.getElem?_replicate] at hj
  split at hj<;>simp at hj
 simp_all
end
end Go.SX
namespace Go.SX
open Go.RowKit (Below)
structure CoOk (B0:Nat) (C:FuncId→List D→Option (List D)) (k:Nat) (X:Ctx) (s:CoS):Prop where
 μ:X.μ=zbg s.m
 A:∀ r,X.A r↔r<s.m.length
 mem:Mem B0 X
 B:B0≤X.w.heap.size
structure CoTo (X X':Ctx) (s s':CoS):Prop where
 E:X'.E=X.E
 w:X'.w=X.w
 ext:Ext X X'
 box:∀ r T v,zbg s.m r=.box T v→zbg s'.m r=.box T v
theorem CoTo.refl (X) (s):CoTo X X s s:=⟨rfl,rfl,Ext.refl X,fun _ _ _ h=>h⟩
theorem CoTo.trans {X Y Z s t u}(h:CoTo X Y s t) (g:CoTo Y Z t u):CoTo X Z s u:=⟨g.E.trans h.E,g.w.trans h.w,h.ext.trans g.ext,fun r T v e=>g.box r T v (h.box r T v e)⟩
theorem zuL {m r q R}(h:r<m.length):zbg (m.set r R) q=upd (zbg m) r R q:=by grind [zbg,upd]
theorem zwk {m q R}:zbg (m++[R]) q=upd (zbg m) m.length R q:=by grind [zbg,upd]
theorem zgu {m r}(h:zbg m r≠.dead):r<m.length:=by grind [ztw]
section
variable {C:FuncId→List D→Option (List D)} {k B0:Nat}
def Rp (X:Ctx) (cell:Bool) (s:SV) (cs:List Value):Prop:=if cell then CRep X s cs else ∃ v,cs=[v]∧VRep X s v
theorem Rp.ref {X b e r a c}(h:Rp X b (.h e r a) c):∃ v,c=[v]∧Ref X (.h e r a) v:=by grind [Rp,CRep,VRep]
theorem Rp.of_ref {X b e r a v}(h:Ref X (.h e r a) v):Rp X b (.h e r a) [v]:=by grind [Rp,CRep,VRep]
theorem Rp.ext {X X'}(x:Ext X X') {b s a}(h:Rp X b s a):Rp X' b s a:=by grind [Rp,CRep.ext,VRep.ext]
theorem Rp.sl {X b e a d v}(c:a.get X.E=some d) (h:DRep X.w X.M (.sl e) d [v]):Rp X b (.d (.sl e) a) [v]:=by
 cases b with
 | true=>grind [Rp,CRep]
 | false =>
  refine ⟨v,rfl,VRep.data.2 ⟨d,c,?_⟩⟩
  exact ⟨DRep.one rfl h,h⟩
theorem zze {X e s b c}(h:zDM e s=true) (a:Rp X b s c):c=[.slice none 0 0]:=by
 unfold zDM at h
 split at h
 ·have:=Ty.beq_eq h
  subst this
  cases b with
  | true =>
   grind [Rp,CRep,At.get,DRep]
  | false =>
   obtain ⟨v,e1,a⟩:=a
   obtain ⟨d,g,f⟩:=VRep.data.1 a
   simp [At.get] at g
   rcases f.slice with ⟨_,h⟩|⟨_,_,_,h,_⟩
   all_goals grind
 all_goals grind [Rp,CRep,VRep]
theorem zIi {X s}(c:CoOk B0 C k X s) {e R}(g:R=.row e (.c .nil)∨∃ a,e=.sl a∧R=.mat a (.c .nil) 0) {vw}(q:zpT X.E vw) :
  ∃ i,CoTo X i s { s with m:=s.m++[R] }∧CoOk B0 C k i { s with m:=s.m++[R] }∧Ref i (.h e s.m.length vw) (.slice none 0 0):=by
 have o:¬ X.A s.m.length:=fun h=>by have:=(c.A _).1 h;omega
 have hrow:R.row?=some (e,.c .nil):=by
  rcases g with h|⟨a,f,d⟩
  ·rw [h];rfl
  ·rw [d,f];rfl
 have hown:∀ (p:Pl),p=⟨none,[]⟩→R.own p=[]:=fun p j=>by
  rcases g with h|⟨a,f,d⟩
  ·rw [h,j];rfl
  ·rw [d,j];rfl
 have l:=c.mem.grow c.B o (Below.refl _ _) (R:=R) (p:=⟨none,[]⟩) (fun b hb=>by grind) (by grind) (fun x=>by
  have hβ:(X.grown X.w s.m.length R ⟨none,[]⟩).β s.m.length=⟨none,[]⟩:=by simp [Ctx.grown,upd_same]
  rcases g with h|⟨a,f,d⟩
  ·rw [h];exact ⟨.nil,rfl,.inl ⟨by grind,.inl rfl⟩⟩
  ·rw [d];exact ⟨.nil,rfl,.inl ⟨by grind,by grind,rfl⟩⟩)
 refine ⟨X.grown X.w s.m.length R ⟨none,[]⟩,⟨rfl,rfl,l.1,fun r T v h=>?_⟩,⟨?_,fun r=>?_,l.2,c.B⟩,?_⟩
 ·have hlt:=zgu (m:=s.m) (r:=r) (by grind)
  grind [zwk,upd_ne]
 ·funext r
  show upd X.μ s.m.length R r=_
  rw [zwk,c.μ]
 ·show (X.A r∨r=s.m.length)↔_
  rw [c.A r]
  grind
 ·refine ⟨zbr _ _ _,.inr rfl,fun _=>⟨.c .nil,.nil,?_,rfl,.inl ⟨by simp [Ctx.grown,upd_same],.inl ⟨rfl,rfl⟩,q⟩⟩⟩
  simp_all [Ctx.grown,upd_same]
theorem zD1 {X s s' e r x}(c:CoOk B0 C k X s) (h:coFz e r s=some (x,s')) {b cs}(hv:Rp X b (.h e r none) cs) :
  s'.bs=s.bs∧s'.nv=s.nv∧∃ X',CoTo X X' s s'∧CoOk B0 C k X' s'∧Rp X' b x cs:=by
 obtain ⟨v,ecs,hr⟩:=hv.ref
 subst ecs
 have hA:X.A r:=by grind [Ref]
 have hlt:=(c.A r).1 hA
 have fin:∀ {a:At},(X.μ r=.row e a∨∃ e' g,e=.sl e'∧X.μ r=.mat e' a g)→s'={ s with m:=s.m.set r (.fz e a) }→x=.d (.sl e) a→s'.bs=s.bs∧s'.nv=s.nv∧∃ X',CoTo X X' s s'∧CoOk B0 C k X' s'∧Rp X' b x [v]:=by
  intro a hR es ex
  subst es ex
  obtain ⟨x1,m1⟩:=c.mem.lower c.B hA hR (R:=.fz e a) (.inl rfl)
  have hR1:({ X with μ:=upd X.μ r (.fz e a) }:Ctx).μ r=.fz e a:=by simp [upd_same]
  have hrep:=m1.rep r hA
  rw [hR1] at hrep
  obtain ⟨⟨d,g1,g2⟩,g3⟩:=hrep
  refine ⟨rfl,rfl,{ X with μ:=upd X.μ r (.fz e a) },⟨rfl,rfl,x1,fun q T u hq=>?_⟩,⟨?_,fun q=>?_,m1,c.B⟩,Rp.sl (d:=d) g1 ?_⟩
  ·have hne:q≠r:=fun e1=>by
    rw [← c.μ] at hq
    grind
   grind [zuL,upd_ne]
  ·funext q
   rw [zuL hlt,c.μ]
  ·rw [c.A q]
   simp
  ·exact zhl (vw:=none) m1 hA ((hr.ext x1).2.2 (by grind [Root.there])) (by rw [hR1];rfl) ⟨fun _ _ _=>rfl,fun _ _ h=>h⟩ (fun q hq=>by grind [Root.own]) g1
 unfold coFz at h
 split at h
 ·split at h
  ·rename_i hb
   have:=Ty.beq_eq hb
   subst this
   injection h with h
   injection h with h1 h2
   exact fin (.inl (by rw [c.μ];omega)) h2.symm h1.symm
  grind
 ·rename_i e' a g hm
  split at h
  ·rename_i hb
   have:=Ty.beq_eq hb
   subst this
   injection h with h
   injection h with h1 h2
   exact fin (.inr ⟨e',g,rfl,by rw [c.μ];omega⟩) h2.symm h1.symm
  grind
 ·rename_i e' a hm
  split at h
  ·rename_i hb
   have:=Ty.beq_eq hb
   subst this
   injection h with h
   injection h with h1 h2
   subst h1 h2
   have hR1:X.μ r=.fz e' a:=by rw [c.μ];omega
   have hrep:=c.mem.rep r hA
   rw [hR1] at hrep
   obtain ⟨⟨d,g1,g2⟩,g3⟩:=hrep
   exact ⟨rfl,rfl,X,CoTo.refl X s,c,Rp.sl (d:=d) g1 (zhl (vw:=none) c.mem hA (hr.2.2 (by rw [hR1];rfl)) (by rw [hR1];rfl) ⟨fun _ _ _=>rfl,fun _ _ h=>h⟩ (fun q hq=>by grind [Root.own]) g1)⟩
  grind
 grind
theorem zDZ {X s g e r x}(c:CoOk B0 C k X s) (h:coVw e r s=some (x,g)) (K:Sat C k X.E g.bs g.nv) {b y}(F:Rp X b (.h e r none) y) :
  ∃ m,CoTo X m s g∧CoOk B0 C k m g∧Rp m b x y:=by
 obtain ⟨v,H,p⟩:=F.ref
 subst H
 unfold coVw at h
 split at h
 ·rename_i e' a M
  split at h
  ·rename_i N
   have:=Ty.beq_eq N
   subst this
   injection h with h
   injection h with O P
   subst O P
   obtain ⟨n,en,⟨vs,d,B,f,t⟩,_⟩:=K
   have:n=s.nv:=by grind [Bd.outs]
   subst this
   obtain ⟨u,w,I⟩:=zDn B
   subst I
   refine ⟨X,⟨rfl,rfl,Ext.refl X,fun _ _ _ h=>h⟩,⟨c.μ,c.A,c.mem,c.B⟩,Rp.of_ref ?_⟩
   refine ⟨p.1,p.2.1,fun J=>?_⟩
   obtain ⟨a1,d1,o,j,L⟩:=p.2.2 J
   rw [c.μ,M] at o
   simp  at o
   subst o
   rw [w] at j
   injection j with j
   subst j
   refine ⟨a,u,by rw [c.μ];omega,w,?_⟩
   rcases L with ⟨q,i,_⟩|⟨z,l,q,i,cap,bs,p3,p4,A,p6⟩
   ·refine .inl ⟨q,i,.i64,.i64,rfl,?_⟩
    rw [i.em.len] at f
    injection f with f
    subst f
    exact t
   ·subst i
    simp [Prim.run] at f
    subst f
    refine .inr ⟨z,l,q,rfl,⟨z,0,none⟩,cap,bs,.i64,.i64,0,l.length,rfl,t,Nat.zero_le _,wG0 _,by omega,by omega,A,by grind,fun _=>by simp⟩
  grind
 grind
theorem zqK {o X s g h l x}(c:CoOk B0 C k X s) (a:zj2 o h l s=some (x,g)) (hs:Sat C k X.E g.bs g.nv) {b m}(f:Rp X b l m) :
  ∃ i,CoTo X i s g∧CoOk B0 C k i g∧Rp i b x m:=by
 unfold zj2 at a
 split at a
 ·split at a
  ·split at a
   ·rename_i d q
    injection a with a
    injection a with t F
    subst t F
    refine ⟨X,CoTo.refl X s,c,?_⟩
    cases b with
    | true =>
     obtain ⟨n,u⟩:=f
     refine ⟨d,rfl,?_⟩
     have:=zi1 (w:=X.w) (M:=X.M) q
     unfold DVal at this
     split at this
     ·obtain ⟨v,e,_⟩:=this
      exact absurd e (u.1 v)
     grind
    | false =>
     obtain ⟨z,n,A⟩:=f
     subst A
     exact ⟨z,n,VRep.data.2 ⟨d,rfl,zi1 q⟩⟩
   grind
  ·split at a
   ·obtain ⟨_,_,h⟩:=zD1 c a f
    omega
   grind
  grind
 ·rename_i e B
  split at a
  ·rename_i j
   have G:=zze j f
   obtain ⟨i,H,I,r⟩:=zIi c (e:=e) (R:=zBv o B e) (by
    unfold zBv
    grind) (vw:=none) trivial
   grind [Rp.of_ref]
  grind
 ·rename_i e _ p
  split at a
  ·rename_i j
   have G:=zze j f
   obtain ⟨i,H,I,r⟩:=zIi c (e:=e) (R:=.row e (.c .nil)) (.inl rfl) (vw:=some (zI,zI)) ⟨.i64,.i64,rfl,rfl⟩
   grind [Rp.of_ref]
  grind [Ty.beq_eq,zDZ]
 grind
theorem zwv {a b T}(h:zDf a b=true) (ht:a.hasTy T):b.hasTy T:=by
 unfold zDf at h
 have key:∀ {s:SV} {U:Ty},s.ty1=some U→(s.hasTy T↔T=U):=fun c=>by
  rename_i s U
  cases s<;>simp [SV.ty1,reduceCtorEq] at c<;>subst c<;>simp only [SV.hasTy]<;>first|grind|grind
 grind [Ty.beq_eq]
theorem zCF {X}:∀ {b}{c}{a},DRepL X.w X.M b c a→CRepL X (zipD b c) b a
 | [],[],a,h=>by grind [DRepL,zipD,CRepL]
 | T::b,d::c,a,h=>by
  obtain ⟨g,i,e,j,f⟩:=h
  exact ⟨g,i,e,rfl,by exact ⟨d,rfl,j⟩,zCF f⟩
 | [],_::_,_,h=>by grind [DRepL]
 | _::_,[],_,h=>by grind [DRepL]
theorem znY {X a c}(m:a.get X.E=some (.agg c)):∀ {e}{j}{s b}{l}{f},zeT a e j s=(l,b)→Sat C k X.E b.bs b.nv →
  DRepL X.w X.M e (c.drop j) f→b.m=s.m∧Sat C k X.E s.bs s.nv∧CRepL X l e f
 | [],j,s,b,l,f,h,o,i=>by grind [zeT,DRepL,CRepL]
 | T::e,j,s,b,l,f,h,o,i=>by
  simp only [zeT] at h
  generalize w:zeT a e (j + 1) { s with nv:=s.nv + 1,bs:=.prim (.fld j) [a]::s.bs }=p at h
  simp  at h
  obtain ⟨L,v⟩:=h
  subst L v
  cases q:c.drop j with
  | nil=>grind [DRepL]
  | cons d r =>
   rw [q] at i
   obtain ⟨y,z,A,B,F⟩:=i
   have G:c.drop (j + 1)=r:=by rw [← List.drop_drop,q];rfl
   obtain ⟨H,I,J⟩:=znY m w o (by rw [G];exact F)
   obtain ⟨n,en,⟨vs,d',K,t,M⟩,N⟩:=I
   have:n=s.nv:=by grind [Bd.outs]
   subst this
   obtain ⟨u,g,O⟩:=zDn K
   rw [m] at g
   injection g with g
   subst g O
   have x:c[j]?=some d:=by
    have:(c.drop j)[0]?=some d:=by grind
    grind
   simp [Prim.run,x] at t
   subst t
   refine ⟨H,N,?_⟩
   exact ⟨y,z,A,rfl,by exact ⟨d,M,B⟩,J⟩
theorem zHL {X:Ctx}{s a e r x}(h:coVw e r s=some (x,a)) (c:Sat C k X.E a.bs a.nv):Sat C k X.E s.bs s.nv:=by
 unfold coVw at h
 split at h
 ·split at h
  ·injection h with h
   injection h with h1 b
   subst b
   obtain ⟨n,en,_,q⟩:=c
   grind [Bd.outs]
  grind
 grind
theorem zIN {s a e r x}(h:coFz e r s=some (x,a)):a.bs=s.bs∧a.nv=s.nv:=by grind [coFz]
theorem zww {b}{X:Ctx}{s a h l x}(c:zj2 b h l s=some (x,a)) (hs:Sat C k X.E a.bs a.nv):Sat C k X.E s.bs s.nv:=by
 unfold zj2 at c
 grind [zIN,zHL]
theorem zsF {X:Ctx}{a}:∀ {c}{j}{s b}{l},zeT a c j s=(l,b)→Sat C k X.E b.bs b.nv→Sat C k X.E s.bs s.nv
 | [],j,s,b,l,h,d=>by grind [zeT]
 | T::c,j,s,b,l,h,d=>by
  simp only [zeT] at h
  generalize f:zeT a c (j + 1) { s with nv:=s.nv + 1,bs:=.prim (.fld j) [a]::s.bs }=p at h
  simp  at h
  obtain ⟨g,e⟩:=h
  subst g e
  obtain ⟨n,en,_,q4⟩:=zsF f d
  grind [Bd.outs]
end
end Go.SX
