/- Part 4 of a checked symbolic executor: what a function's code does is read off as a tree over plain data. No condition. -/
import Derived.Test.YtplfgkjjgflhkaaGreatSx3
import Derived.RangeFuncRecord
import Derived.WalkKit
import Derived.Tactics
import Derived.ChangeArms
import Derived.ProofKit
set_option linter.unusedSimpArgs false
set_option linter.unusedVariables false
namespace Go.SX
open Go.RowKit (Below)
def zCY:SV→Bool
 | .ag ..=>false
 | .tu _=>false
 | .fn ..=>false
 | _=>true
theorem zwC {a h l s}(b:zCY h=true):coSV a h l s=match zj2 a h l s with|some p=>p|none=>(l,s):=by
 cases h<;>simp [zCY] at b<;>(rfl)
section
variable {C:FuncId→List D→Option (List D)} {k B0:Nat} {Hm:List Root}
theorem zcp {c d:Type}{a x:c}{b y:d}(h:(a,b)=(x,y)):a=x∧b=y:=by grind
mutual
theorem zsm {X:Ctx}:∀ (h l:SV) (s:CoS) {x:SV}{j:CoS},coSV Hm h l s=(x,j)→Sat C k X.E j.bs j.nv→Sat C k X.E s.bs s.nv
 | .ag T o,l,s,x,j,b,c=>by
  cases B:zj2 Hm (.ag T o) l s with
  | some p =>
   unfold coSV at b
   rw [B] at b
   exact zww (B.trans (congrArg some b)) c
  | none =>
   unfold coSV at b
   rw [B] at b
   simp only at b
   split at b
   ·rename_i O P N w y
    injection y with G H
    subst G H
    split at b
    ·generalize A:coLC Hm o w s=p at b
     obtain ⟨r,F⟩:=p
     obtain ⟨_,m⟩:=zcp b
     subst m
     exact zlG o _ _ A c
    ·obtain ⟨_,m⟩:=zcp b
     subst m
     exact c
   ·rename_i O P N Q y
    injection y with G H
    subst G H
    split at b
    ·rename_i I
     split at b
     ·generalize A:coLC Hm o (zipD I Q) s=p at b
      obtain ⟨r,F⟩:=p
      obtain ⟨_,m⟩:=zcp b
      subst m
      exact zlG o _ _ A c
     ·obtain ⟨_,m⟩:=zcp b
      subst m
      exact c
    ·obtain ⟨_,m⟩:=zcp b
     subst m
     exact c
   ·rename_i O P N i y
    injection y with G H
    subst G H
    split at b
    ·rename_i I
     split at b
     ·generalize W:zeT (.v i) I 0 s=p0 at b
      obtain ⟨l0,s0⟩:=p0
      simp only at b
      generalize A:coLC Hm o l0 s0=p at b
      obtain ⟨r,F⟩:=p
      obtain ⟨_,m⟩:=zcp b
      subst m
      exact zsF W (zlG o _ _ A c)
     ·obtain ⟨_,m⟩:=zcp b
      subst m
      exact c
    ·obtain ⟨_,m⟩:=zcp b
     subst m
     exact c
   ·rename_i y
    cases y
   ·rename_i y
    cases y
   ·obtain ⟨_,m⟩:=zcp b
    subst m
    exact c
 | .tu o,l,s,x,j,b,c=>by
  have B:zj2 Hm (.tu o) l s=none:=rfl
  unfold coSV at b
  rw [B] at b
  simp only at b
  cases l with
  | tu w =>
   simp only at b
   generalize A:coL Hm o w s=p at b
   obtain ⟨r,F⟩:=p
   obtain ⟨_,m⟩:=zcp b
   subst m
   exact zp5 o _ _ A c
  | _ =>
   simp only at b
   obtain ⟨_,m⟩:=zcp b
   subst m
   exact c
 | .fn f L o,l,s,x,j,b,c=>by
  have B:zj2 Hm (.fn f L o) l s=none:=rfl
  unfold coSV at b
  rw [B] at b
  simp only at b
  cases l with
  | fn g Y w =>
   simp only at b
   generalize A:coL Hm L Y s=p at b
   obtain ⟨u,F⟩:=p
   generalize S:coL Hm o w F=p at b
   obtain ⟨_,m⟩:=zcp b
   subst m
   exact zp5 L _ _ A (zp5 o _ _ S c)
  | _ =>
   obtain ⟨_,m⟩:=zcp b
   subst m
   exact c
 | .un n,l,s,x,j,b,c=>zdh (h:=.un n) rfl b c
 | .cv n,l,s,x,j,b,c=>zdh (h:=.cv n) rfl b c
 | .d T a,l,s,x,j,b,c=>zdh (h:=.d T a) rfl b c
 | .h e r vw,l,s,x,j,b,c=>zdh (h:=.h e r vw) rfl b c
 | .hc e r i,l,s,x,j,b,c=>zdh (h:=.hc e r i) rfl b c
 | .mr K V r,l,s,x,j,b,c=>zdh (h:=.mr K V r) rfl b c
 | .z e a,l,s,x,j,b,c=>zdh (h:=.z e a) rfl b c
 | .p R T r q,l,s,x,j,b,c=>zdh (h:=.p R T r q) rfl b c
 | .pd T a,l,s,x,j,b,c=>zdh (h:=.pd T a) rfl b c
 | .hb R e n r q,l,s,x,j,b,c=>zdh (h:=.hb R e n r q) rfl b c
 | .hr e r i g,l,s,x,j,b,c=>zdh (h:=.hr e r i g) rfl b c
 | .pm e T r i q g,l,s,x,j,b,c=>zdh (h:=.pm e T r i q g) rfl b c
theorem zp5 {X:Ctx}:∀ (o w:List SV) (s:CoS) {r:List SV}{j:CoS},coL Hm o w s=(r,j)→Sat C k X.E j.bs j.nv→Sat C k X.E s.bs s.nv
 | h::o,l::w,s,r,j,b,c=>by
  simp only [coL] at b
  generalize J:coSV Hm h l s=p at b
  obtain ⟨x,F⟩:=p
  generalize M:coL Hm o w F=p at b
  obtain ⟨_,m⟩:=zcp b
  subst m
  exact zsm h _ _ J (zp5 o _ _ M c)
 | [],w,s,r,j,b,c=>by grind [coL]
 | _::_,[],s,r,j,b,c=>by grind [coL]
theorem zlG {X:Ctx}:∀ (o w:List SV) (s:CoS) {r:List SV}{j:CoS},coLC Hm o w s=(r,j)→Sat C k X.E j.bs j.nv→Sat C k X.E s.bs s.nv
 | h::o,l::w,s,r,j,b,c=>by
  simp only [coLC] at b
  generalize J:coSV Hm h l s=p at b
  obtain ⟨x,F⟩:=p
  generalize M:coLC Hm o w F=p at b
  obtain ⟨_,m⟩:=zcp b
  subst m
  exact zsm h _ _ J (zlG o _ _ M c)
 | [],w,s,r,j,b,c=>by grind [coLC]
 | _::_,[],s,r,j,b,c=>by grind [coLC]
theorem zdh {X:Ctx}{h l:SV}{s:CoS}{x:SV}{j:CoS}(U:zCY h=true) (b:coSV Hm h l s=(x,j)) (o:Sat C k X.E j.bs j.nv):Sat C k X.E s.bs s.nv:=by
 rw [zwC U] at b
 split at b
 ·rename_i p B
  exact zww (B.trans (congrArg some b)) o
 grind
end
theorem zck {X h l s x a}(m:zCY h=true) (d:coSV Hm h l s=(x,a)) (c:CoOk B0 C k X s) (i:Sat C k X.E a.bs a.nv) {b f}(n:Rp X b l f) :
  ∃ e,CoTo X e s a∧CoOk B0 C k e a∧Rp e b x f:=by
 rw [zwC m] at d
 split at d
 ·rename_i p g
  exact zqK c (g.trans (congrArg some d)) i n
 grind [CoTo.refl]
theorem Rp.parts {X b f a j l c}(k:a.get X.E=some (.agg j)) (h:Rp X b (.d (.st f) a) c) (hl:∀ c,DRepL X.w X.M f j c→CRepL X l f c):Rp X b (.ag (.st f) l) c:=by
 cases b with
 | true =>
  grind [Rp,CRep,DRep]
 | false =>
  simp [Rp] at h ⊢
  obtain ⟨v,e,h⟩:=h
  obtain ⟨d,g,i⟩:=VRep.data.1 h
  rw [k] at g
  injection g with g
  subst g
  unfold DVal at i
  simp [Ty.isAgg,DRep] at i
  grind [VRep]
theorem Rp.aggv {X b f a i}(h:Rp X b (.d (.st f) a) i):∃ g,a.get X.E=some (.agg g):=by
 cases b with
 | true =>
  obtain ⟨d,j,c⟩:=h
  cases d<;>simp only [DRep] at c
  grind
 | false =>
  obtain ⟨v,e,h⟩:=h
  obtain ⟨d,j,c⟩:=VRep.data.1 h
  obtain ⟨arr,e1,c⟩:=c
  cases d<;>simp only [DRep] at c
  grind
theorem Rp.agSt {X b T l c}(h:Rp X b (.ag T l) c):∃ a,T=.st a:=by
 cases T with
 | st a=>simp
 | _ =>
  grind [Rp,VRep,CRep]
mutual
theorem zlP:∀ (h l:SV) (s:CoS) {X:Ctx}{x:SV}{w:CoS},coSV Hm h l s=(x,w)→CoOk B0 C k X s→Sat C k X.E w.bs w.nv→∀ {b:Bool}{cs:List Value},Rp X b l cs →
  ∃ A,CoTo X A s w∧CoOk B0 C k A w∧Rp A b x cs
 | .ag T B,l,s,X,x,w,o,c,y,b,cs,t=>by
  cases Z:zj2 Hm (.ag T B) l s with
  | some p =>
   unfold coSV at o
   rw [Z] at o
   exact zqK c (Z.trans (congrArg some o)) y t
  | none =>
   unfold coSV at o
   rw [Z] at o
   simp only at o
   have same:(l,s)=(x,w)→∃ A,CoTo X A s w∧CoOk B0 C k A w∧Rp A b x cs:=fun o=>by grind [CoTo.refl]
   split at o
   ·rename_i T1 hs1 T2 F heq
    injection heq with N e2
    subst N e2
    split at o
    ·generalize O:coLC Hm B F s=p at o
     obtain ⟨r,Y⟩:=p
     obtain ⟨H,I⟩:=zcp o
     subst H I
     obtain ⟨G,eT⟩:=t.agSt
     subst eT
     cases b with
     | true =>
      simp only [Rp,if_true,CRep] at t ⊢
      exact zfm B _ _ O c y t
     | false =>
      simp only [Rp,wA0,if_false,VRep] at t ⊢
      obtain ⟨v,e,arr,N,t⟩:=t
      obtain ⟨A,P,L,U⟩:=zfm B _ _ O c y t
      exact ⟨A,P,L,v,e,arr,N,U⟩
    grind
   ·rename_i T1 hs1 T2 ds heq
    injection heq with N e2
    subst N e2
    split at o
    ·rename_i G
     split at o
     ·rename_i hb
      simp only [wD0] at hb
      have:=Ty.beq_eq hb.1
      subst this
      generalize O:coLC Hm B (zipD G ds) s=p at o
      obtain ⟨r,Y⟩:=p
      obtain ⟨H,I⟩:=zcp o
      subst H I
      have J:=Rp.parts (l:=zipD G ds) rfl t fun cs h=>zCF h
      cases b with
      | true =>
       simp only [Rp,if_true,CRep] at J ⊢
       exact zfm B _ _ O c y J
      | false =>
       simp only [Rp,wA0,if_false,VRep] at J ⊢
       obtain ⟨v,e,arr,N,J⟩:=J
       obtain ⟨A,P,L,U⟩:=zfm B _ _ O c y J
       exact ⟨A,P,L,v,e,arr,N,U⟩
     grind
    grind
   ·rename_i T1 hs1 T2 i heq
    injection heq with N e2
    subst N e2
    split at o
    ·rename_i G
     split at o
     ·rename_i hb
      have:=Ty.beq_eq hb
      subst this
      generalize hx:zeT (.v i) G 0 s=p0 at o
      obtain ⟨l0,s0⟩:=p0
      simp only at o
      generalize O:coLC Hm B l0 s0=p at o
      obtain ⟨r,Y⟩:=p
      obtain ⟨H,I⟩:=zcp o
      subst H I
      obtain ⟨ds,hds⟩:=t.aggv
      have hs0:=zlG (X:=X) B _ _ O y
      have hm:s0.m=s.m:=by
       have:∀ (G:List Ty) (j:Nat) (s:CoS),(zeT (.v i) G j s).2.m=s.m:=by
        intro G
        induction G with
        | nil=>intro j s;rfl
        | cons T G ih=>grind [zeT]
       grind
      have J:=Rp.parts (l:=l0) hds t fun cs h=>(znY hds hx hs0 (by grind)).2.2
      have c0:CoOk B0 C k X s0:=⟨by rw [hm];exact c.μ,by rw [hm];exact c.A,c.mem,c.B⟩
      have t0:CoTo X X s s0:=⟨rfl,rfl,Ext.refl X,fun _ _ _ h=>by grind⟩
      cases b with
      | true =>
       simp only [Rp,if_true,CRep] at J ⊢
       obtain ⟨A,P,L,U⟩:=zfm B _ _ O c0 y J
       exact ⟨A,t0.trans P,L,U⟩
      | false =>
       simp only [Rp,wA0,if_false,VRep] at J ⊢
       obtain ⟨v,e,arr,N,J⟩:=J
       obtain ⟨A,P,L,U⟩:=zfm B _ _ O c0 y J
       exact ⟨A,t0.trans P,L,v,e,arr,N,U⟩
     grind
    grind
   all_goals grind
 | .tu B,l,s,X,x,w,o,c,y,b,cs,t=>by
  have Z:zj2 Hm (.tu B) l s=none:=rfl
  unfold coSV at o
  rw [Z] at o
  simp only at o
  have same:(l,s)=(x,w)→∃ A,CoTo X A s w∧CoOk B0 C k A w∧Rp A b x cs:=fun o=>by grind [CoTo.refl]
  cases l with
  | tu F =>
   simp only at o
   generalize O:coL Hm B F s=p at o
   obtain ⟨r,Y⟩:=p
   obtain ⟨H,I⟩:=zcp o
   subst H I
   cases b with
   | true=>grind [Rp,CRep]
   | false =>
    simp only [Rp,wA0,if_false,VRep] at t ⊢
    obtain ⟨v,e,arr,N,t⟩:=t
    obtain ⟨A,P,L,U⟩:=zkl B _ _ O c y t
    exact ⟨A,P,L,v,e,arr,N,U⟩
  | _=>grind
 | .fn f us B,l,s,X,x,w,o,c,y,b,cs,t=>by
  have Z:zj2 Hm (.fn f us B) l s=none:=rfl
  unfold coSV at o
  rw [Z] at o
  simp only at o
  have same:(l,s)=(x,w)→∃ A,CoTo X A s w∧CoOk B0 C k A w∧Rp A b x cs:=fun o=>by grind [CoTo.refl]
  cases l with
  | fn g ks F =>
   simp only at o
   generalize O:coL Hm us ks s=p at o
   obtain ⟨u,Y⟩:=p
   simp only at o
   generalize hc2:coL Hm B F Y=p at o
   obtain ⟨r,s2⟩:=p
   obtain ⟨H,I⟩:=zcp o
   subst H I
   have hs1:=zp5 (X:=X) B _ _ hc2 y
   have go:∀ {kv lv:List Value},VRepL X ks kv→VRepL X F lv→∃ A,CoTo X A s s2∧CoOk B0 C k A s2∧VRepL A u kv∧VRepL A r lv:=fun hk Z=>by
    obtain ⟨X1,Q,g2,W⟩:=zkl us _ _ O c hs1 hk
    obtain ⟨X2,g4,g5,g6⟩:=zkl B _ _ hc2 g2 (by rw [Q.E];omega) (VRepL.ext Q.ext Z)
    exact ⟨X2,Q.trans g4,g5,VRepL.ext g4.ext W,g6⟩
   cases b with
   | true =>
    simp only [Rp,if_true,CRep] at t ⊢
    grind
   | false =>
    simp only [Rp,wA0,if_false,VRep] at t ⊢
    grind
  | _=>grind
 | .un n,l,s,X,x,w,o,c,y,b,cs,t=>zck (h:=.un n) rfl o c y t
 | .cv n,l,s,X,x,w,o,c,y,b,cs,t=>zck (h:=.cv n) rfl o c y t
 | .d T a,l,s,X,x,w,o,c,y,b,cs,t=>zck (h:=.d T a) rfl o c y t
 | .h e r vw,l,s,X,x,w,o,c,y,b,cs,t=>zck (h:=.h e r vw) rfl o c y t
 | .hc e r i,l,s,X,x,w,o,c,y,b,cs,t=>zck (h:=.hc e r i) rfl o c y t
 | .mr K V r,l,s,X,x,w,o,c,y,b,cs,t=>zck (h:=.mr K V r) rfl o c y t
 | .z e a,l,s,X,x,w,o,c,y,b,cs,t=>zck (h:=.z e a) rfl o c y t
 | .p R T r q,l,s,X,x,w,o,c,y,b,cs,t=>zck (h:=.p R T r q) rfl o c y t
 | .pd T a,l,s,X,x,w,o,c,y,b,cs,t=>zck (h:=.pd T a) rfl o c y t
 | .hb R e n r q,l,s,X,x,w,o,c,y,b,cs,t=>zck (h:=.hb R e n r q) rfl o c y t
 | .hr e r i g,l,s,X,x,w,o,c,y,b,cs,t=>zck (h:=.hr e r i g) rfl o c y t
 | .pm e T r i q g,l,s,X,x,w,o,c,y,b,cs,t=>zck (h:=.pm e T r i q g) rfl o c y t
theorem zkl:∀ (B F:List SV) (s:CoS) {X:Ctx}{r:List SV}{w:CoS},coL Hm B F s=(r,w)→CoOk B0 C k X s→Sat C k X.E w.bs w.nv→∀ {vs:List Value},VRepL X F vs →
  ∃ A,CoTo X A s w∧CoOk B0 C k A w∧VRepL A r vs
 | h::B,l::F,s,X,r,w,o,c,y,vs,t=>by
  simp only [coL] at o
  generalize P:coSV Hm h l s=p at o
  obtain ⟨x,Y⟩:=p
  simp only at o
  generalize L:coL Hm B F Y=p at o
  obtain ⟨r',s2⟩:=p
  obtain ⟨H,I⟩:=zcp o
  subst H I
  simp  at t ⊢
  obtain ⟨v,vs',ev,hv1,J⟩:=t
  obtain ⟨X1,Q,g2,W⟩:=zlP h _ _ P c (zp5 (X:=X) B _ _ L y) (b:=false) (cs:=[v]) (by simp [Rp];grind)
  obtain ⟨X2,g4,g5,g6⟩:=zkl B _ _ L g2 (by rw [Q.E];omega) (VRepL.ext Q.ext J)
  simp only [Rp,wA0,if_false] at W
  obtain ⟨v',ev',W⟩:=W
  injection ev' with ev'
  subst ev'
  exact ⟨X2,Q.trans g4,g5,v,vs',ev,VRep.ext g4.ext W,g6⟩
 | [],F,s,X,r,w,o,c,y,vs,t=>by grind [coL,CoTo.refl]
 | _::_,[],s,X,r,w,o,c,y,vs,t=>by grind [coL,CoTo.refl]
theorem zfm:∀ (B F:List SV) (s:CoS) {X:Ctx}{r:List SV}{w:CoS},coLC Hm B F s=(r,w)→CoOk B0 C k X s→Sat C k X.E w.bs w.nv→∀ {G:List Ty}{cs:List Value},CRepL X F G cs →
  ∃ A,CoTo X A s w∧CoOk B0 C k A w∧CRepL A r G cs
 | h::B,l::F,s,X,r,w,o,c,y,G,cs,t=>by
  simp only [coLC] at o
  generalize P:coSV Hm h l s=p at o
  obtain ⟨x,Y⟩:=p
  simp only at o
  generalize L:coLC Hm B F Y=p at o
  obtain ⟨r',s2⟩:=p
  obtain ⟨H,I⟩:=zcp o
  subst H I
  cases G with
  | nil=>simp only [CRepL] at t
  | cons T G =>
   simp  at t ⊢
   obtain ⟨c1,c2,ec,hT,hv1,J⟩:=t
   obtain ⟨X1,Q,g2,W⟩:=zlP h _ _ P c (zlG (X:=X) B _ _ L y) (b:=true) (cs:=c1) (by simp [Rp];exact hv1)
   obtain ⟨X2,g4,g5,g6⟩:=zfm B _ _ L g2 (by rw [Q.E];exact y) (CRepL.ext Q.ext J)
   simp [Rp] at W
   refine ⟨X2,Q.trans g4,g5,c1,c2,ec,?_,?_,g6⟩
   ·split
    ·rename_i hsm;exact zwv hsm hT
    ·exact hT
   ·split
    ·exact CRep.ext g4.ext W
    ·exact CRep.ext (Q.trans g4).ext hv1
 | [],F,s,X,r,w,o,c,y,G,cs,t=>by
  obtain ⟨H,I⟩:=zcp o
  subst H I
  exact ⟨X,CoTo.refl X s,c,t⟩
 | _::_,[],s,X,r,w,o,c,y,G,cs,t=>by
  obtain ⟨H,I⟩:=zcp o
  subst H I
  exact ⟨X,CoTo.refl X s,c,t⟩
end
theorem zdK {X:Ctx}{H}:∀ {j}{s b},zfs H j s=b→Sat C k X.E b.bs b.nv→Sat C k X.E s.bs s.nv
 | [],s,b,a,c=>by grind [zfs]
 | (l,h)::r,s,b,a,c=>by
  simp only [zfs] at a
  split at a
  ·split at a
   ·rename_i T f g i _ _ _
    generalize e:coSV H.mem f i s=p at a
    obtain ⟨x,d⟩:=p
    split at a
    ·exact zsm (X:=X) _ _ _ e (zdK (s:={ d with m:=d.m.set l (.box g x) }) a c)
    ·exact zsm (X:=X) _ _ _ e (zdK a c)
   ·exact zdK a c
  ·exact zdK a c
theorem Mem.rebox' {X}(m:Mem k X) (s:k≤X.w.heap.size) {r T v v'}(i:X.A r) (e:X.μ r=.box T v) (u:∀ d,v.hasTy T→CRep X v d→v'.hasTy T) (t:∀ d c f b,(X.β r).main=some b→X.w.heap[b]?=some (.cells d f c)→CRep X v d.toList→CRep X v' d.toList) :
  Ext X { X with μ:=upd X.μ r (.box T v') }∧Mem k { X with μ:=upd X.μ r (.box T v') }:=by
 refine Mem.change m s (fun q=>q=r) (fun _ _ h=>h) (fun _ h=>h) (fun q h=>.inl h) (fun q a=>⟨upd_ne _ _ a,rfl⟩) (fun _ _ _=>rfl) (fun _ _ h=>h) ?_ ?_ ?_ (fun _ _ _=>rfl) ?_ ?_
 ·intro q b a _ l
  subst a
  simp only [upd_same] at l
  exact .inr ⟨q,rfl,i,by rw [e];exact l⟩
 ·omega
 ·intro q a _
  subst a
  have:=m.once q i
  rw [e] at this
  simp only [upd_same]
  exact this
 ·intro q a _ _
  subst a
  refine ⟨by rw [e];rfl,fun w y d1 g hd=>?_,fun w y g1 g=>?_⟩
  ·rw [e] at g
   cases g
  grind [upd_same]
 ·intro x q a _
  subst a
  simp only [upd_same]
  have o:=m.rep q i
  rw [e] at o
  obtain ⟨b,c,f,n,p,z,j⟩:=o
  exact ⟨b,c,f,n,p,u _ z j,CRep.ext x (t c _ f b n p j)⟩
theorem zdO {H}:∀ {L}{s g}{X},zfs H L s=g→CoOk B0 C k X s→Sat C k X.E g.bs g.nv→∃ f,f.E=X.E∧f.w=X.w∧Ext X f∧CoOk B0 C k f g
 | [],s,g,X,a,c,n=>by subst a;exact ⟨X,rfl,rfl,Ext.refl X,c⟩
 | (l,h)::r,s,g,X,a,c,n=>by
  simp only [zfs] at a
  split at a
  ·rename_i T K j v hh hm
   split at a
   ·generalize I:coSV H.mem K v s=p at a
    obtain ⟨x,i⟩:=p
    have A:=zgu (m:=s.m) (r:=l) (by grind)
    have N:X.μ l=.box j v:=by rw [c.μ];omega
    have F:=c.mem.rep l ((c.A l).2 A)
    rw [N] at F
    obtain ⟨b,G,te,J,q2,q3,q4⟩:=F
    split at a
    ·rename_i hsm
     obtain ⟨t,d,e,M⟩:=zlP _ _ _ I c (zdK (s:={ i with m:=i.m.set l (.box j x) }) a n) (b:=true) (cs:=G.toList) (by grind [Rp])
     simp [Rp] at M
     have hbx:=d.box l j v hm
     have B:=zgu (m:=i.m) (r:=l) (by grind)
     obtain ⟨x2,m2⟩:=e.mem.rebox' e.B ((e.A l).2 B) (by rw [e.μ];omega) (v':=x) (fun cs ht _=>zwv hsm ht) (fun cs fr te' b' o hh' _=>by
      rw [((d.ext.β l ((c.A l).2 A)).2),J] at o
      injection o with o
      subst o
      rw [d.w,q2] at hh'
      grind)
     obtain ⟨f,w,u,y,z⟩:=zdO (s:={ i with m:=i.m.set l (.box j x) }) (X:={ t with μ:=upd t.μ l (.box j x) }) a ⟨by
      funext q
      rw [zuL B,e.μ],fun q=>by
      rw [e.A q]
      simp,m2,e.B⟩ (by rw [d.E];omega)
     exact ⟨f,w.trans d.E,u.trans d.w,(d.ext.trans x2).trans y,z⟩
    ·obtain ⟨t,d,e,_⟩:=zlP _ _ _ I c (zdK a n) (b:=true) (cs:=G.toList) (by grind [Rp])
     obtain ⟨f,w,u,y,z⟩:=zdO a e (by rw [d.E];omega)
     exact ⟨f,w.trans d.E,u.trans d.w,d.ext.trans y,z⟩
   ·exact zdO a c n
  ·exact zdO a c n
end
end Go.SX
namespace Go.SX
open Go.RowKit (Below)
theorem zi8 {a l h}(e:look a l=some h):(l,h)∈a:=by
 induction a with
 | nil=>grind [look]
 | cons p r ih =>
  grind [look,zbv]
theorem zlf {a l h}(e:zeS a h=some l):(l,h)∈a:=by
 induction a with
 | nil=>grind [zeS]
 | cons p r ih =>
  grind [zeS,zbv]
theorem zso {b n}:∀ {a},rhOk b n a=true→(∀ l h d,(l,h)∈a→(l,d)∈a→h=d)∧(∀ l c h,(l,h)∈a→(c,h)∈a→l=c)∧(∀ l h,(l,h)∈a→(l=h∨b≤h)∧h<n)
 | [],_=>by simp
 | (l0,h0)::r,e=>by
  simp [rhOk,Bool.not_eq_true'] at e
  obtain ⟨⟨⟨h1,h2⟩,h3⟩,f⟩:=e
  obtain ⟨i1,i2,i3⟩:=zso f
  grind [Nat.beq_refl,zbv]
theorem zAU {c l h}(hm:(l,h)∈c):∃ d,zeS c h=some d:=by
 induction c with
 | nil=>grind
 | cons p r ih =>
  obtain ⟨a,b⟩:=p
  simp only [zeS]
  by_cases hb:Nat.beq b h=true
  ·simp_all
  ·grind [Nat.beq_refl]
theorem zgO {b a m}:∀ (n h j),j<n→(zk5 b a m n h)[j]?=some (match zeS a (h + j) with|some l=>(zbg m l).ren b m a (h + j)|none=>.dead)
 | 0,_,_,c=>by omega
 | n + 1,h,0,_=>by rfl
 | n + 1,h,j + 1,c=>by
  simp [zk5]
  rw [zgO n (h + 1) j (by omega),show h + 1 + j=h + (j + 1) by omega]
theorem zpu {a b m}:∀ (n h),(zk5 a b m n h).length=n
 | 0,_=>rfl
 | n + 1,h=>by simp [zk5,zpu n]
section
variable {base n:Nat} {m:List Root} {rh:List (Nat×Nat)}
theorem Root.ren_own (h) (R:Root) (p):(R.ren base m rh h).own p=R.own p:=by cases R<;>rfl
theorem Root.ren_there (h) (R:Root):(R.ren base m rh h).there=R.there:=by cases R<;>rfl
theorem Root.ren_row (h) (R:Root):(R.ren base m rh h).row?=R.row?:=by cases R<;>rfl
theorem Root.ren_mat {h}{R:Root}{e a g}(c:R.ren base m rh h=.mat e a g):∃ b,R=.mat e a b∧g=gen0 base h b:=by
 cases R<;>simp [Root.ren,reduceCtorEq] at c
 grind
def Ctx.ren (X:Ctx) (base n:Nat) (m:List Root) (rh:List (Nat×Nat)):Ctx :=
 { E:=X.E,w:=X.w,μ:=zbg (zk5 base rh m n 0),β:=fun h=>match zeS rh h with|some l=>X.β l|none=>X.β h,A:=fun r=>r<n,F:=X.F }
variable {X:Ctx}
theorem zsZ (e:rhOk base n rh=true) {l h}(c:(l,h)∈rh):(X.ren base n m rh).μ h=(zbg m l).ren base m rh h∧(X.ren base n m rh).β h=X.β l∧h<n:=by
 obtain ⟨i1,f,g⟩:=zso e
 obtain ⟨l',d⟩:=zAU c
 have  := f _ _ _ (zlf d) c
 have hlt:=(g _ _ c).2
 simp_all [zg3,zgO,Ctx.ren]
theorem ziG (r):(∃ l,(l,r)∈rh∧r<n∧(X.ren base n m rh).μ r=(zbg m l).ren base m rh r∧(X.ren base n m rh).β r=X.β l)∨(X.ren base n m rh).μ r=.dead:=by
 by_cases b:r<n
 ·cases a:zeS rh r with
  | none =>
   right
   show zbg (zk5 base rh m n 0) r=_
   simp_all [zg3,zgO]
  | some l =>
   refine .inl ⟨l,zlf a,b,?_,by grind [Ctx.ren]⟩
   show zbg (zk5 base rh m n 0) r=_
   simp_all [zg3,zgO]
 ·right
  exact ztw (by grind [zpu])
theorem zIA (_hk:rhOk base n rh=true) (g:X.μ=zbg m) (e:∀ r,X.A r↔r<m.length) {b}(h:(X.ren base n m rh).M b):X.M b:=by
 rcases h with h|⟨r,h1,d⟩
 ·exact .inl h
 ·rcases ziG (X:=X) (base:=base) (n:=n) (m:=m) (rh:=rh) r with ⟨l,q1,q2,i,f⟩|q
  ·rw [i,f,Root.ren_own,← g] at d
   refine .inr ⟨l,(e l).2 (zgu fun hd=>?_),d⟩
   simp_all [Root.own]
  grind [Root.own]
theorem zFO (d:rhOk base n rh=true) (f:X.μ=zbg m) (e:∀ r,X.A r↔r<m.length):Keeps X.w (X.ren base n m rh).w X.M (X.ren base n m rh).M:=⟨fun _ _ _=>rfl,fun _ _ h c=>h (zIA d f e c)⟩
theorem zza {r g}(h:zzz m r=some g):∃ e a,zbg m r=.mat e a g:=by grind [zzz]
theorem ziW (y:rhOk base n rh=true) (H:X.μ=zbg m) (hA:∀ r,X.A r↔r<m.length) {s v}(h:Ref X s v):s.ren base m rh=.un 1∨Ref (X.ren base n m rh) (s.ren base m rh) v:=by
 cases s<;>simp only [SV.ren]<;>try grind [Ref]
 case h e r vw =>
  cases c:look rh r with
  | none=>simp
  | some B =>
   right
   obtain ⟨w,u,j⟩:=zsZ (X:=X) y (zi8 c)
   simp  at h ⊢
   refine ⟨h.1,j,fun F=>?_⟩
   rw [w,Root.ren_there,← H] at F
   obtain ⟨a,d,f,l,t⟩:=h.2.2 F
   refine ⟨a,d,by simp_all [Root.ren_row],l,?_⟩
   rw [u]
   exact t
 case hc e r hi =>
  cases c:look rh r with
  | none=>simp
  | some B =>
   right
   obtain ⟨w,u,j⟩:=zsZ (X:=X) y (zi8 c)
   simp  at h ⊢
   refine ⟨h.1,j,fun F=>?_⟩
   rw [w,Root.ren_there,← H] at F
   obtain ⟨a,d,f,l,t⟩:=h.2.2 F
   refine ⟨a,d,by simp_all [Root.ren_row],l,?_⟩
   rw [u]
   exact t
 case z e a=>right;simp only [Ref] at h ⊢;exact h
 case pd T a =>
  right
  simp only [Ref] at h ⊢
  obtain ⟨ad,d,xs,f,l,t,G,J⟩:=h
  exact ⟨ad,d,xs,f,l,t.keep (zFO y H hA),G,fun hx hM=>J hx (zIA y H hA hM)⟩
 case mr K V r =>
  cases c:look rh r with
  | none=>simp
  | some B =>
   right
   obtain ⟨w,u,j⟩:=zsZ (X:=X) y (zi8 c)
   simp  at h ⊢
   obtain ⟨_,b,f,l⟩:=h
   exact ⟨j,b,f,by rw [u];omega⟩
 case p R T r q =>
  cases c:look rh r with
  | none=>simp
  | some B =>
   right
   obtain ⟨w,u,j⟩:=zsZ (X:=X) y (zi8 c)
   obtain ⟨_,b,N,f,l,t⟩:=h
   exact ⟨j,b,N,f,by rw [u];omega,t⟩
 case hb R e k r q =>
  cases c:look rh r with
  | none=>simp
  | some B =>
   right
   obtain ⟨w,u,j⟩:=zsZ (X:=X) y (zi8 c)
   obtain ⟨_,f,l,b,t,G⟩:=h
   exact ⟨j,f,l,b,by rw [u];omega,G⟩
 case hr e r ix g =>
  cases c:look rh r with
  | none=>simp
  | some B =>
   cases P:zzz m r with
   | none=>simp
   | some g' =>
    simp only
    split
    ·rename_i hb
     have:=zbv hb
     subst this
     right
     obtain ⟨w,u,j⟩:=zsZ (X:=X) y (zi8 c)
     obtain ⟨M,Q,L⟩:=zza P
     refine ⟨h.1,j,fun e' a' g2 A=>?_⟩
     rw [w,L] at A
     simp [Root.ren] at A
     obtain ⟨U,W,S⟩:=A
     subst U W S
     refine ⟨wG0 _,fun _=>?_⟩
     obtain ⟨_,hh⟩:=h.2.2 M Q g (by simp_all)
     obtain ⟨he,k,i,ds,d,o,f,l,t,G,J⟩:=hh rfl
     exact ⟨he,k,i,ds,d,o,f,l,t,by grind,J⟩
    simp
 case pm e T r ix q g =>
  cases c:look rh r with
  | none=>simp
  | some B =>
   cases P:zzz m r with
   | none=>simp
   | some g' =>
    simp only
    split
    ·rename_i hb
     have:=zbv hb
     subst this
     right
     obtain ⟨w,u,j⟩:=zsZ (X:=X) y (zi8 c)
     obtain ⟨M,Q,L⟩:=zza P
     refine ⟨h.1,j,fun e' a' g2 A=>?_⟩
     rw [w,L] at A
     simp [Root.ren] at A
     obtain ⟨U,W,S⟩:=A
     subst U W S
     refine ⟨wG0 _,fun _=>?_⟩
     obtain ⟨_,hh⟩:=h.2.2 M Q g (by simp_all)
     obtain ⟨he,k,i,b,N,f,l,t⟩:=hh rfl
     exact ⟨he,k,i,b,N,f,by grind,t⟩
    simp
theorem zhE (p:rhOk base n rh=true) (q:X.μ=zbg m) (o:∀ r,X.A r↔r<m.length) {s b}(h:∃ v,b=[v]∧Ref X s v) (l:∀ d:SV,d=s.ren base m rh→(∃ n,d=.un n)∨(∀ b,(∃ v,b=[v]∧Ref (X.ren base n m rh) d v)→CRep (X.ren base n m rh) d b)):CRep (X.ren base n m rh) (s.ren base m rh) b:=by
 obtain ⟨v,e,g⟩:=h
 subst e
 rcases ziW (n:=n) p q o g with f|f
 ·rw [f]
  exact ⟨rfl,fun u i=>by simp at i;subst i;exact g.one⟩
 ·rcases l _ rfl with ⟨k,j⟩|j
  all_goals grind [Ref]
theorem zAc {s T b}(a:s.hasTy T) (hc:CRep X s b):(s.ren base m rh).hasTy T:=by
 cases s<;>simp only [SV.ren]<;>simp only [SV.hasTy] at a<;>try (subst a)
 all_goals grind [SV.hasTy,Ty.size]
mutual
theorem zB5 (c:rhOk base n rh=true) (j:X.μ=zbg m) (o:∀ r,X.A r↔r<m.length):∀ {s:SV}{b:List Value},CRep X s b→CRep (X.ren base n m rh) (s.ren base m rh) b
 | .un _,b,h=>by grind [SV.ren,CRep]
 | .cv _,b,h=>by grind [SV.ren,CRep]
 | .d T a,b,h=>by
  obtain ⟨d,t,w⟩:=h
  exact ⟨d,t,w.keep (zFO c j o)⟩
 | .ag T l,b,h=>by
  cases T<;>simp only [SV.ren,CRep] at h ⊢
  exact zsI c j o h
 | .fn f u l,b,h=>by
  obtain ⟨F,A,t,w,B⟩:=h
  exact ⟨F,A,t,zhc c j o w,zhc c j o B⟩
 | .tu _,_,h=>by grind [CRep]
 | .z e a,b,h=>by
  exact h
 | .pd T a,b,h=>by grind [CRep,zhE,SV.ren]
 | .h e r H,b,h=>by grind [CRep,zhE,SV.ren]
 | .hc e r i,b,h=>by grind [CRep,zhE,SV.ren]
 | .mr K V r,b,h=>by grind [CRep,zhE,SV.ren]
 | .p R T r q,b,h=>by grind [CRep,zhE,SV.ren]
 | .hb R e k r q,b,h=>by grind [CRep,zhE,SV.ren]
 | .hr e r i g,b,h=>by grind [CRep,zhE,SV.ren]
 | .pm e T r i q g,b,h=>by grind [CRep,zhE,SV.ren]
theorem zsI (c:rhOk base n rh=true) (j:X.μ=zbg m) (o:∀ r,X.A r↔r<m.length):∀ {l:List SV}{G:List Ty}{b:List Value},CRepL X l G b→CRepL (X.ren base n m rh) (SV.renL base m rh l) G b
 | [],[],b,h=>by grind [SV.renL,CRepL]
 | s::l,T::G,b,h=>by
  obtain ⟨I,J,e,L,t,w⟩:=h
  exact ⟨I,J,e,zAc L t,zB5 c j o t,zsI c j o w⟩
 | [],_::_,_,h=>by grind [CRepL]
 | _::_,[],_,h=>by grind [CRepL]
theorem zHe (c:rhOk base n rh=true) (j:X.μ=zbg m) (o:∀ r,X.A r↔r<m.length):∀ {s:SV}{v:Value},VRep X s v→VRep (X.ren base n m rh) (s.ren base m rh) v
 | .un _,v,h=>by simp [SV.ren,VRep]
 | .cv v',v,h=>by grind [SV.ren,VRep]
 | .d T a,v,h=>by
  obtain ⟨d,t,w⟩:=VRep.data.1 h
  exact VRep.data.2 ⟨d,t,w.keep (zFO c j o)⟩
 | .ag T l,v,h=>by
  cases T<;>simp only [SV.ren,VRep] at h ⊢
  obtain ⟨b,t,w⟩:=h
  exact ⟨b,t,zsI c j o w⟩
 | .fn f u l,v,h=>by
  obtain ⟨F,A,t,w,B⟩:=h
  exact ⟨F,A,t,zhc c j o w,zhc c j o B⟩
 | .tu l,v,h=>by
  obtain ⟨A,t,w⟩:=h
  exact ⟨A,t,zhc c j o w⟩
 | .z e a,b,h=>by
  exact h
 | .pd T a,v,h=>by grind [VRep,ziW,SV.ren]
 | .h e r H,v,h=>by grind [VRep,ziW,SV.ren]
 | .hc e r i,v,h=>by grind [VRep,ziW,SV.ren]
 | .mr K V r,v,h=>by grind [VRep,ziW,SV.ren]
 | .p R T r q,v,h=>by grind [VRep,ziW,SV.ren]
 | .hb R e k r q,v,h=>by grind [VRep,ziW,SV.ren]
 | .hr e r i g,v,h=>by grind [VRep,ziW,SV.ren]
 | .pm e T r i q g,v,h=>by grind [VRep,ziW,SV.ren]
theorem zhc (c:rhOk base n rh=true) (j:X.μ=zbg m) (o:∀ r,X.A r↔r<m.length):∀ {l:List SV}{A:List Value},VRepL X l A→VRepL (X.ren base n m rh) (SV.renL base m rh l) A
 | [],A,h=>by grind [SV.renL,VRepL]
 | s::l,A,h=>by
  obtain ⟨v,r,e,t,w⟩:=h
  exact ⟨v,r,e,zHe c j o t,zhc c j o w⟩
end
theorem zC6:∀ {m}{l}{e}{a},noBo m=true→zbg m l≠.bo e a
 | [],l,e,a,_,h=>by grind [zbg]
 | R::m,0,e,a,h,b=>by grind [zbg,noBo]
 | R::m,l + 1,e,a,h,b=>by
  refine zC6 (by cases R<;>simp [noBo] at h<;>exact h) (l:=l) (e:=e) (a:=a) ?_
  grind [zbg]
theorem zCE:∀ {m}{l}{e}{a ix}{q},noBo m=true→zbg m l≠.ow e a ix q
 | [],l,e,a,ix,q,_,h=>by grind [zbg]
 | R::m,0,e,a,ix,q,h,b=>by grind [zbg,noBo]
 | R::m,l + 1,e,a,ix,q,h,b=>by
  refine zCE (by cases R<;>simp [noBo] at h<;>exact h) (l:=l) (e:=e) (a:=a) (ix:=ix) (q:=q) ?_
  grind [zbg]
theorem zIP {B0}(hbo:noBo m=true) (hk:rhOk base n rh=true) (z:X.μ=zbg m) (x:∀ r,X.A r↔r<m.length) (N:Mem B0 X):Mem B0 (X.ren base n m rh) where
 rep:=fun r _=>by
  rcases ziG (X:=X) (base:=base) (n:=n) (m:=m) (rh:=rh) r with ⟨l,Q,P,A,k⟩|q
  ·rw [A]
   have K:=zFO (X:=X) hk z x
   by_cases G:zbg m l=.dead
   ·rw [G];trivial
   ·have h:=N.rep l ((x l).2 (zgu G))
    rw [z] at h
    cases I:zbg m l with
    | dead=>grind
    | box T v =>
     rw [I] at h
     obtain ⟨b,c,s,j,f,w,F⟩:=h
     exact ⟨b,c,s,by grind,f,zAc w F,zB5 hk z x F⟩
    | row e a =>
     rw [I] at h
     obtain ⟨d,j,f⟩:=h
     refine ⟨d,j,?_⟩
     rw [k]
     rcases f with f|⟨b,c,s,M,i,B,u,y,o,t,H,O⟩
     ·grind
     ·exact .inr ⟨b,c,s,M,i,B,u,y,o,t,H.keep K,O⟩
    | bo e a=>grind [zC6]
    | ow e a ix q=>grind [zCE]
    | lt e a q =>
     rw [I] at h
     obtain ⟨d,j,f⟩:=h
     refine ⟨d,j,?_⟩
     rw [k]
     rcases f with f|⟨b,c,s,M,i,B,u,y,o,t,H,O⟩
     ·grind
     ·exact .inr ⟨b,c,s,M,i,B,u,y,o,t,H.keep K,O⟩
    | fz e a =>
     rw [I] at h
     obtain ⟨⟨d,j,f⟩,w⟩:=h
     refine ⟨⟨d,j,?_⟩,fun b hb hM=>w b (by grind) (zIA hk z x hM)⟩
     rw [k]
     rcases f with f|⟨b,c,s,M,i,B,u,y,o,t,H,O⟩
     ·grind
     ·exact .inr ⟨b,c,s,M,i,B,u,y,o,t,H.keep K,O⟩
    | mat e a g =>
     rw [I] at h
     obtain ⟨d,j,f⟩:=h
     refine ⟨d,j,?_⟩
     rw [k]
     rcases f with f|⟨b,c,s,i,B,u,y,o,t,H⟩
     ·grind
     ·exact .inr ⟨b,c,s,i,B,u,y,o,t.keep K (fun _ _=>rfl),H⟩
    | mp kt vt a =>
     rw [I] at h
     obtain ⟨i,b,es,clk,j,f,w,F⟩:=h
     exact ⟨i,b,es,clk,j,by grind,w,F.keep K⟩
  ·rw [q];trivial
 apart:=fun r r' b j f w F=>by
  rcases ziG (X:=X) (base:=base) (n:=n) (m:=m) (rh:=rh) r with ⟨l,Q,P,A,k⟩|q
  ·rcases ziG (X:=X) (base:=base) (n:=n) (m:=m) (rh:=rh) r' with ⟨i,u,y,o,t⟩|p
   ·rw [A,k,Root.ren_own,← z] at w
    rw [o,t,Root.ren_own,← z] at F
    have:=N.apart l i b ((x l).2 (zgu fun G=>by simp_all [Root.own])) ((x i).2 (zgu fun G=>by simp_all [Root.own])) w F
    grind [zso]
   grind [Root.own]
  grind [Root.own]
 once:=fun r _=>by
  rcases ziG (X:=X) (base:=base) (n:=n) (m:=m) (rh:=rh) r with ⟨l,Q,P,A,k⟩|q
  ·rw [A,k,Root.ren_own,← z]
   by_cases G:zbg m l=.dead
   ·simp_all [Root.own]
   ·exact N.once l ((x l).2 (zgu G))
  grind [Root.own]
 low:=fun r b _ f=>by
  rcases ziG (X:=X) (base:=base) (n:=n) (m:=m) (rh:=rh) r with ⟨l,Q,P,A,k⟩|q
  ·rw [A,k,Root.ren_own,← z] at f
   exact N.low l b ((x l).2 (zgu fun G=>by simp_all [Root.own])) f
  grind [Root.own]
 frame:=N.frame
theorem zI9 {s}(N:rhOk base n rh=true) (G:X.μ=zbg m) (M:∀ r,X.A r↔r<m.length) (J:base≤n) (B:∀ r,s.A r→r<base) (x:Ext s X):Ext s (X.ren base n m rh):=by
 have K:=zFO (X:=X) N G M
 have t:∀ r,s.A r→((X.ren base n m rh).μ r=(X.μ r).ren base m rh r∧(X.ren base n m rh).β r=X.β r)∨((X.ren base n m rh).μ r=.dead∧(X.ren base n m rh).β r=X.β r):=fun r c=>by
  have H:=B r c
  cases I:zeS rh r with
  | none =>
   refine .inr ⟨?_,by grind [Ctx.ren]⟩
   show zbg (zk5 base rh m n 0) r=_
   rw [zg3 (zgO n 0 r (by omega))]
   grind
  | some l =>
   have hm:=zlf I
   have:l=r:=by grind [zso]
   subst this
   refine .inl ⟨?_,by grind [Ctx.ren]⟩
   show zbg (zk5 base rh m n 0) l=_
   rw [zg3 (zgO n 0 l (by omega)),G]
   grind
 have z:∀ r g,s.A r→gen0 base r g=g:=fun r g c=>by simp_all [gen0]
 exact
  {E:=x.E
   K:=x.K.trans K
   F:=x.F
   A:=fun r c=>Nat.lt_of_lt_of_le (B r c) J
   β:=fun r c=>by
    rcases t r c with ⟨j,p⟩|⟨j,p⟩
    ·exact ⟨fun i=>(x.β r c).1 (by grind [Root.ren_there]),by rw [p];exact (x.β r c).2⟩
    ·exact ⟨fun i=>(by rw [j] at i;cases i),by rw [p];exact (x.β r c).2⟩
   row:=fun r e a d c i j p=>by
    rcases t r c with ⟨f,q⟩|⟨f,q⟩
    ·rw [f,Root.ren_there] at i
     rw [f,Root.ren_row]
     exact x.row r e a d c i j p
    ·rw [f] at i;cases i
   mat:=fun r e v g c j=>by
    rcases t r c with ⟨f,q⟩|⟨f,q⟩
    ·rw [f] at j
     obtain ⟨w,y,u⟩:=Root.ren_mat j
     rw [z r w c] at u
     subst u
     rw [q]
     exact x.mat r e v g c y
    grind
   gen:=fun r e a g O v w c j p=>by
    rcases t r c with ⟨f,q⟩|⟨f,q⟩
    ·rw [f] at p
     obtain ⟨P,y,u⟩:=Root.ren_mat p
     rw [z r P c] at u
     subst u
     exact x.gen r e a g O v w c j y
    grind
   size:=fun r b k c i H L=>by
    rcases t r c with ⟨f,q⟩|⟨f,q⟩
    ·exact x.size r b k c (by grind [Root.ren_there]) H L
    ·rw [f] at i;cases i }
end
end Go.SX
namespace Go.SX
open Go.RowKit (Below)
def zdn:List Bd→List D→Option (List D)
 | [],E=>some E
 | .prim p as::l,E=>match zdn l E with
  | none=>none
  | some E1=>match gets E1 as with
   | none=>none
   | some vs=>match p.run vs with
    | none=>none
    | some d=>some (E1++[d])
 | _::_,_=>none
section
variable {C:FuncId→List D→Option (List D)} {k:Nat}
theorem zfx:∀ {a}{t}{E},zc0 a=true→ev C k (zpW a t) E=match zdn a E with|some b=>ev C k t b|none=>none
 | [],t,E,_=>rfl
 | .prim p as::l,t,E,h=>by
  simp only [zc0] at h
  simp only [zpW,Bd.on]
  rw [zfx h]
  grind [zdn,ev]
 | .call .. :: _,_,_,h=>by grind [zc0]
 | .sub .. :: _,_,_,h=>by grind [zc0]
theorem zne:∀ {b}{E a},zdn b E=some a→∃ G,a=E++G∧G.length=zuC b∧Sat C k a b a.length
 | [],E,a,h=>by
  simp [zdn] at h
  subst h
  exact ⟨[],by simp,rfl,trivial⟩
 | .prim p m::l,E,a,h=>by
  simp only [zdn] at h
  cases c:zdn l E with
  | none=>grind
  | some f =>
   simp only [c] at h
   cases g:gets f m with
   | none=>grind
   | some e =>
    simp only [g] at h
    cases i:p.run e with
    | none=>grind
    | some d =>
     simp [i] at h
     subst h
     obtain ⟨G,g1,g2,j⟩:=zne c
     refine ⟨G++[d],by grind,by grind [zuC,Bd.outs],f.length,by simp [Bd.outs],⟨e,d,zl6 g,i,by simp⟩,j.app⟩
 | .call .. :: _,_,_,h=>by grind [zdn]
 | .sub .. :: _,_,_,h=>by grind [zdn]
end
theorem zpS {X}:∀ {b}{a},a.length=b.length→(∀ t:Nat,VRep X ((b[t]?).getD (.un 1)) ((a[t]?).getD undef))→VRepL X b a
 | [],a,c,_=>by grind [VRepL]
 | s::b,[],c,_=>by grind
 | s::b,v::a,c,h=>by
  exact ⟨v,a,rfl,h 0,zpS (by grind) fun t=>h (t + 1)⟩
theorem zCu {X}:∀ {b}{a},VRepL X b a→∀ t:Nat,VRep X ((b[t]?).getD (.un 1)) ((a[t]?).getD undef)
 | [],a,_,t=>by simp [VRep]
 | s::b,a,h,t=>by
  obtain ⟨v,r,e,h1,c⟩:=h
  subst e
  cases t with
  | zero=>grind
  | succ t=>exact zCu c t
theorem zEW {X}:∀ {a b}{d},zlp a b=true→VRepL X a d→VRepL X b d
 | [],[],_,_,h=>h
 | x::a,y::b,d,c,h=>by
  simp [zlp] at c
  obtain ⟨v,r,e,g,f⟩:=h
  exact ⟨v,r,e,zBx c.1 g,zEW c.2 f⟩
 | [],_::_,_,c,_=>by grind [zlp]
 | _::_,[],_,c,_=>by grind [zlp]
theorem zy7:∀ {a b},zAv a b=true→a.length=b.length∧∀ r,(zbg a r).le (zbg b r)=true
 | [],[],_=>⟨rfl,fun r=>by rfl⟩
 | x::a,y::b,h=>by
  simp [zAv] at h
  obtain ⟨h1,c⟩:=zy7 h.2
  refine ⟨by grind,fun r=>?_⟩
  cases r with
  | zero=>exact h.1
  | succ r=>exact c r
 | [],_::_,h=>by grind [zAv]
 | _::_,[],h=>by grind [zAv]
theorem zFY {a b}(l) (r):zbg (l.map (Root.inst a b)) r=(zbg l r).inst a b:=by
 unfold zbg
 rw [List.getElem?_map]
 cases l[r]?<;>rfl
theorem znD (a):∀ (n j),(sgOf a n j).length=n
 | 0,_=>rfl
 | n + 1,j=>by simp [sgOf,znD a n]
theorem zfp {E}:∀ {c}{b},gets E c=some b→b.length=c.length
 | [],b,h=>by grind [zHw]
 | a::l,b,h=>by
  obtain ⟨d,ds,_,f,e⟩:=zeR h
  subst e
  simp [zfp f]
theorem zCy {E}:∀ {e}{c}{j:Nat}{a},gets E e=some c→e[j]?=some a→a.get E=c[j]?
 | [],_,_,_,_,h=>by grind
 | b::l,c,j,a,h,hj=>by
  obtain ⟨d,ds,h1,g,f⟩:=zeR h
  subst f
  cases j with
  | zero=>grind
  | succ j=>simpa using zCy g (by grind)
theorem zEb {m K z}(hB0:m≤K.heap.size) {b H L sg Z}(h:fit0 b H L=some (sg,Z)) (u:H.okAt=true) (hn:b≤H.nv) {e F}(hE0:e.length=b) (hEl:(e++F).length=L.nv)
  (hXe:∀ (i:Nat) (d:D),z.E[i]?=some d→e[i]?=some d) (hXA:∀ r,z.A r→r<L.base) {l} (hev:zdn Z (e++F)=some l) {o} (hg:gets l sg=some o) {a w}
  (hinv:Inv m K z (e++F) L.slots L.root (fun r=>r<L.mem.length) a w):o.length=H.nv - b∧H.base=L.base∧Inv m K z (e++o) H.slots H.root (fun r=>r<H.mem.length) a w:=by
 unfold fit0 at h
 generalize h1:coL H.mem H.slots L.slots ⟨L.mem,L.nv,[]⟩=p1 at h
 obtain ⟨q,B⟩:=p1
 simp only at h
 generalize hc2:zfs H (zAw b H q B.m).rh B=Q at h
 generalize P:zfs H ((zAw b H q Q.m).rh.drop (zAw b H q B.m).rh.length) Q=f at h
 generalize (zAw b H q f.m).rh=y at h
 generalize hsg:sgOf (zAw b H q f.m).sg (H.nv - b) 0=p at h
 split at h
 ·rename_i hc
  injection h with h
  injection h with e1 x
  subst e1 x
  simp only [wD0] at hc
  obtain ⟨⟨⟨⟨⟨⟨⟨k0,I⟩,k2⟩,k3⟩,k4⟩,R⟩,k6⟩,k7⟩:=hc
  have hsl:p.length=H.nv - b:=by grind [znD]
  rw [Nat.ble_eq] at R
  refine ⟨(by grind [zfp]),(zbv k4),?_⟩
  obtain ⟨X,x1,x2,x3,x4,x5,x6,S,x8,x9,x10⟩:=hinv
  have U:m≤X.w.heap.size:=by rw [x2];exact Nat.le_trans hB0 S.size
  obtain ⟨G,g1,g2,V⟩:=zne (C:=fun _ _=>none) (k:=0) hev
  have hnv:f.nv=l.length:=by grind [zbv]
  rw [← hnv] at V
  obtain ⟨W,m1⟩:=x5.moreE U (E':=l) (fun i d J=>by grind)
  have c0:CoOk m (fun _ _=>none) 0 { X with E:=l } ⟨L.mem,L.nv,[]⟩:=⟨by rw [x3];rfl,x4,m1,U⟩
  have g3':Sat (fun _ _=>none) 0 ({ X with E:=l }:Ctx).E f.bs f.nv:=V
  have s2:=zdK P g3'
  have s1':=zdK hc2 s2
  obtain ⟨X1,s,ok1,hv1⟩:=zkl _ _ _ h1 c0 s1' (VRepL.ext W (zpS (by omega) fun t=>by simp_all))
  obtain ⟨X2,x,f2,y2,ok2⟩:=zdO hc2 ok1 (by rw [s.E];omega)
  obtain ⟨g,e3,f3,Y,j⟩:=zdO P ok2 (by rw [x,s.E];omega)
  have hE3:g.E=l:=by rw [e3,x,s.E]
  have hw3:g.w=w:=by rw [f3,f2,s.w];omega
  obtain ⟨hlen,hle⟩:=zy7 k7
  obtain ⟨y5,m5⟩:=(zIP k0 I j.μ j.A j.mem).weakenAll (X:=g.ren L.base H.mem.length f.m y) (by show m≤g.w.heap.size;grind) (μ':=zbg (H.mem.map (Root.inst b p))) (N:=H.mem.length) (fun r hr=>hr) (fun r _=>.inr (hle r))
  have hv5:=zEW k6 (VRepL.ext y5 (zhc (n:=H.mem.length) I j.μ j.A (VRepL.ext (y2.trans Y) hv1)))
  unfold St.okAt at u
  simp  at u
  have M:Tr H.nv b p { g.ren L.base H.mem.length f.m y with μ:=zbg (H.mem.map (Root.inst b p)) } { g.ren L.base H.mem.length f.m y with E:=e++o,μ:=H.root } :=
   {at_:=fun O ha=>by
     show (O.inst b p).get g.E=O.get (e++o)
     cases O with
     | c d=>rfl
     | v i =>
      simp [At.okAt] at ha
      simp only [At.inst]
      by_cases J:b≤i
      ·rw [if_pos (by simp_all)]
       grind [zCy,At.get]
      ·rw [if_neg (by simp_all)]
       grind [At.get]
    w:=rfl
    A:=fun _=>Iff.rfl
    β:=rfl
    F:=rfl
    μ:=fun r _=>zFY _ _
    ok:=fun r _=>zdc u.2 }
  have hv6:=M.vrepL u.1 hv5
  refine ⟨{ g.ren L.base H.mem.length f.m y with E:=e++o,μ:=H.root },rfl,hw3,rfl,fun r=>Iff.rfl,M.mem m5,M.ext ((zI9 I j.μ j.A R hXA ((((x6.trans W).trans s.ext).trans y2).trans Y)).trans y5) (fun i d J=>get_app (hXe i d J)),S,?_,x9,fun t=>?_⟩
  ·have:=VRepL.length hv6
   omega
  ·rw [vJ0,← Array.getElem?_toList]
   grind [zCu]
 grind
def zA8:List SV→List Value→List Value
 | [],_=>[]
 | h::hs,ls=>match ls with
  | []=>[]
  | l::ls=>match h with
   | .un _=>zA8 hs ls
   | _=>l::zA8 hs ls
theorem zzd:∀ {hs ls},zEC hs ls=true→ls.length=hs.length
 | [],ls,h=>by grind [zEC]
 | _::hs,[],h=>by grind [zEC]
 | _::hs,_::ls,h=>by simpa using zzd (hs:=hs) (ls:=ls) h
theorem zCU {X}:∀ {hs b}{a},VRepL X b a→b.length=hs.length→VRepL X (zzo hs b) (zA8 hs a)
 | [],b,a,h,d=>by rfl
 | c::hs,[],a,h,d=>by grind
 | c::hs,l::b,a,h,d=>by
  obtain ⟨v,r,e,h1,f⟩:=h
  have ih:=zCU (hs:=hs) f (by grind)
  cases c<;>simp only [zzo,zA8]<;>first|omega|grind [VRepL]
theorem zpL {X}:∀ {b}{a},VRepL X (zxn b) (zA8 b a)→a.length=b.length→VRepL X b a
 | [],a,h,d=>by grind [VRepL]
 | c::b,[],h,d=>by grind
 | c::b,v::a,h,d=>by
  cases c<;>simp only [zxn,zA8,VRepL] at h<;>first
   | exact ⟨v,a,rfl,by simp [VRep],zpL h (by grind)⟩
   | (obtain ⟨v',r,e,g,i⟩:=h
      injection e with j f
      subst j f
      exact ⟨_,a,rfl,g,zpL i (by grind)⟩)
theorem zsy {b d h E c g A a w} :
  Inv b d h E c g A a w↔Marks b d w a.defers∧∃ X:Ctx,X.E=E∧X.w=w∧X.μ=g∧(∀ r,X.A r↔A r)∧Mem b X∧Ext h X∧Below b d w∧VRepL X c a.tmps.toList:=by
 constructor
 ·rintro ⟨X,f,j,k,l,m,i,o,x8,n,x10⟩
  grind [zpS,vJ0]
 ·rintro ⟨n,X,f,j,k,l,m,i,o,p⟩
  refine ⟨X,f,j,k,l,m,i,o,by simpa using VRepL.length p,n,fun t=>?_⟩
  rw [vJ0,← Array.getElem?_toList]
  cases q:c[t]? with
  | none=>simp [VRep]
  | some s =>
   obtain ⟨v,e,hv'⟩:=p.get q
   grind
theorem zGE {g e c}(P:g≤e.heap.size) {f H L p k}(h:fit f H L=some (p,k)) (hok:H.okAt=true) (x:f≤H.nv) {b F}(q:b.length=f) (Q:(b++F).length=L.nv)
  (u:∀ (i:Nat) (d:D),c.E[i]?=some d→b[i]?=some d) (B:∀ r,c.A r→r<L.base) {m} (t:zdn k (b++F)=some m) {j} (v:gets m p=some j) {a w}
  (z:Inv g e c (b++F) L.slots L.root (fun r=>r<L.mem.length) a w):j.length=H.nv - f∧H.base=L.base∧Inv g e c (b++j) H.slots H.root (fun r=>r<H.mem.length) a w:=by
 unfold fit at h
 split at h
 ·rename_i A
  have hlen:=zzd A
  obtain ⟨o,X,G,I,J,K,M,N,O,hv⟩:=zsy.1 z
  have hokA:∀ {n:Nat} {l:List SV},SV.okAtL n l=true→SV.okAtL n (zxn l)=true:=by
   intro n l
   induction l with
   | nil=>intro h;rfl
   | cons s l ih =>
    cases s<;>simp only [zxn]<;>first|omega|grind [SV.okAtL]
  have R:Inv g e c (b++F) (zzo H.slots L.slots) L.root (fun r=>r<L.mem.length) { a with tmps:=(zA8 H.slots a.tmps.toList).toArray } w :=
   zsy.2 ⟨o,X,G,I,J,K,M,N,O,by grind [zCU]⟩
  obtain ⟨S,U,V⟩:=zEb (H:={ H with slots:=zxn H.slots }) (L:={ L with slots:=zzo H.slots L.slots }) P h (by grind [St.okAt]) x q Q u B t v R
  refine ⟨S,U,?_⟩
  obtain ⟨_,Y,W,Z,y3,y4,y5,y6,y,hw⟩:=zsy.1 V
  exact zsy.2 ⟨o,Y,W,Z,y3,y4,y5,y6,y,zpL (by omega) (by grind [VRepL.length])⟩
 grind
end Go.SX
namespace Go.SX
open Go.RowKit (Below)
section
variable {C:FuncId→List D→Option (List D)} {k:Nat}
def Res.isFin:Res→Prop
 | .fin ..=>True
 | .jmp ..=>False
def Rel (f:St→List D→Option Res) (r0 r:Res):Prop :=
 match r0 with
 | .fin .normal st E=>f st E=some r
 | r0=>r=r0
theorem Rel.jmp {f l b a r}(h:Rel f (.jmp l b a) r):r=.jmp l b a:=h
def RelO (f:Ex→St→List D→Option Res) (r0 r:Res):Prop :=
 match r0 with
 | .fin x st E=>f x st E=some r
 | r0=>r=r0
theorem zCN {f g k}(m:∀ x i E r,f x i E=some r→r.isFin) (j:∀ c r,k c=some r→∃ a,g c=some a∧RelO f a r):∀ (n) (c) (r),iter k n c=some r→∃ a,iter g n c=some a∧RelO f a r
 | 0,c,r,h=>by grind [iter]
 | n + 1,c,r,h=>by
  simp only [iter] at h
  split at h
  ·rename_i p q
   obtain ⟨a,o,d⟩:=j c _ q
   cases a with
   | jmp l b ws =>
    injection d with e1 e2 e3
    obtain ⟨r1,h3,h4⟩:=zCN m j n _ r h
    grind [iter]
   | fin x i E=>exact (m x i E _ d).elim
  ·obtain ⟨a,o,d⟩:=j c r h
   refine ⟨a,?_,d⟩
   simp only [iter,o]
   split
   ·rename_i p e
    injection e with e
    subst e
    have d:r=_:=d
    grind
   ·rfl
theorem zea {f}(o:∀ x j E r,ev C k (f x j) E=some r→r.isFin):∀ {t}{E}{r},ev C k (t.onFin f) E=some r→∃ v,ev C k t E=some v∧RelO (fun x j E=>ev C k (f x j) E) v r
 | .prim p A t,E,r,h=>by
  simp only [Tree.onFin,ev] at h ⊢
  cases q:gets E A with
  | none=>grind
  | some e =>
   simp only [q] at h ⊢
   cases s:p.run e with
   | none=>grind
   | some d=>simp only [s] at h ⊢;exact zea o h
 | .call g A m t,E,r,h=>by
  simp only [Tree.onFin,ev] at h ⊢
  cases q:gets E A with
  | none=>grind
  | some e =>
   simp only [q] at h ⊢
   cases s:C g e with
   | none=>grind
   | some ds =>
    simp only [s] at h ⊢
    split at h
    ·rename_i G;rw [if_pos G];exact zea o h
    grind
 | .sub t m u,E,r,h=>by
  simp only [Tree.onFin,ev] at h ⊢
  cases q:ev C k (t.onFin f) E with
  | none=>grind
  | some w =>
   simp only [q] at h
   obtain ⟨v,B,z⟩:=zea o q
   rw [B]
   cases v with
   | jmp l b e =>
    subst z
    cases l with
    | zero =>
     simp only at h ⊢
     split at h
     ·rename_i G;rw [if_pos G];exact zea o h
     grind
    | succ l =>
     simp only [Res.up,wB0] at h ⊢
     exact ⟨_,rfl,h.symm⟩
   | fin x j H =>
    have J:=o x j H w z
    cases w with
    | jmp _ _ _=>exact J.elim
    | fin y N O =>
     grind [Res.up]
 | .loop i b,E,r,h=>by
  simp only [Tree.onFin,ev] at h ⊢
  cases q:gets E i with
  | none=>grind
  | some e =>
   simp only [q] at h ⊢
   cases s:iter (fun e=>ev C k (b.onFin f) (E++e)) k e with
   | none=>grind
   | some w =>
    simp only [s] at h
    obtain ⟨v,B,z⟩:=zCN (f:=fun x j E=>ev C k (f x j) E) (g:=fun e=>ev C k b (E++e)) o (fun e r K=>zea o K) k e w s
    rw [B]
    cases v with
    | jmp l b' ws =>
     subst z
     cases l with
     | zero=>grind [Res.up]
     | succ l =>
      simp only [Res.up,wB0] at h ⊢
      exact ⟨_,rfl,h.symm⟩
    | fin x j H =>
     have J:=o x j H w z
     cases w with
     | jmp _ _ _=>exact J.elim
     | fin y N O =>
      grind [Res.up]
 | .ite c a b,E,r,h=>by
  simp only [Tree.onFin,ev] at h ⊢
  split at h
  ·exact zea o h
  ·exact zea o h
  grind
 | .jmp l b A,E,r,h=>by
  simp only [Tree.onFin,ev] at h ⊢
  split at h
  ·grind
  ·injection h with h
   exact ⟨_,rfl,h.symm⟩
 | .fin x j,E,r,h=>⟨_,rfl,h⟩
 | .fail n,E,r,h=>by grind [Tree.onFin,ev]
theorem zlL {f}(i:∀ a E r,ev C k (f a) E=some r→r.isFin) {t E r}(h:ev C k (t.andThen f) E=some r):∃ c,ev C k t E=some c∧Rel (fun a E=>ev C k (f a) E) c r:=by
 have e:∀ (x:Ex) (a:St) (E:List D) (r:Res),ev C k (.fin x a) E=some r→r=.fin x a E:=fun x a E r h=>by grind [ev]
 obtain ⟨c,m,d⟩:=zea (fun x a E r g=>by
  cases x with
  | normal=>exact i a E r g
  | _=>rw [e _ _ _ _ g];exact True.intro) h
 refine ⟨c,m,?_⟩
 cases c with
 | jmp l b vs=>exact d
 | fin x a E' =>
  cases x with
  | normal=>exact d
  | _=>exact e _ _ _ _ d
def Shifts (C:FuncId→List D→Option (List D)) (k:Nat) (f:Nat→St→Tree):Prop :=
 ∀ st E,(∀ d,ev C k (f d st) E=none)∨∃ b vs,∀ d,ev C k (f d st) E=some (.jmp d b vs)
theorem Rel.conv {f}(g:Shifts C k f) {d c r}(h:Rel (fun a E=>ev C k (f (d + 1) a) E) c r) :
  (∃ a E b e,c=.fin .normal a E∧r=.jmp (d + 1) b e∧ev C k (f d a) E=some (.jmp d b e))∨(r=c∧∀ a E,c≠.fin .normal a E):=by
 cases c with
 | jmp l b e=>exact .inr ⟨h,fun _ _ h=>by grind⟩
 | fin x a E =>
  cases x with
  | normal =>
   have h:ev C k (f (d + 1) a) E=some r:=h
   rcases g a E with i|⟨b,e,i⟩
   all_goals grind
  | exit id=>exact .inr ⟨h,fun _ _ h=>by grind⟩
  | ret=>exact .inr ⟨h,fun _ _ h=>by grind⟩
theorem Rel.of_ne {f a}(h:∀ c E,a≠.fin .normal c E):Rel f a a:=by
 cases a with
 | jmp l b vs=>rfl
 | fin x c E =>
  cases x with
  | normal=>grind
  | exit id=>rfl
  | ret=>rfl
theorem zyL {f}(o:Shifts C k f) {d g m}(l:∀ a r,m a=some r→∃ c,g a=some c∧Rel (fun e E=>ev C k (f (d + 1) e) E) c r):∀ (n) (a) (r),iter m n a=some r→∃ c,iter g n a=some c∧Rel (fun e E=>ev C k (f (d + 1) e) E) c r
 | 0,a,r,h=>by grind [iter]
 | n + 1,a,r,h=>by
  simp only [iter] at h
  split at h
  ·rename_i s q
   obtain ⟨c,p,i⟩:=l a _ q
   rcases i.conv o with ⟨e,E,b,ws,t,u,_⟩|⟨t,u⟩
   ·grind
   ·obtain ⟨r1,h3,h4⟩:=zyL o l n _ r h
    grind [iter]
  ·obtain ⟨c,p,i⟩:=l a r h
   refine ⟨c,?_,i⟩
   simp only [iter,p]
   split
   ·rename_i s j
    injection j with j
    subst j
    have:=i.jmp
    grind
   ·rfl
theorem zek {f}(j:Shifts C k f):∀ {t}{d}{E}{r},ev C k (t.conv f d) E=some r→∃ z,ev C k t E=some z∧Rel (fun o E=>ev C k (f d o) E) z r
 | .prim p y t,d,E,r,h=>by
  simp only [Tree.conv,ev] at h ⊢
  cases q:gets E y with
  | none=>grind
  | some e =>
   simp only [q] at h ⊢
   cases w:p.run e with
   | none=>grind
   | some d=>simp only [w] at h ⊢;exact zek j h
 | .call g y m t,d,E,r,h=>by
  simp only [Tree.conv,ev] at h ⊢
  cases q:gets E y with
  | none=>grind
  | some e =>
   simp only [q] at h ⊢
   cases w:C g e with
   | none=>grind
   | some ds =>
    simp only [w] at h ⊢
    split at h
    ·rename_i B;rw [if_pos B];exact zek j h
    grind
 | .sub t m u,d,E,r,h=>by
  simp only [Tree.conv,ev] at h ⊢
  cases q:ev C k (t.conv f (d + 1)) E with
  | none=>grind
  | some A =>
   simp only [q] at h
   obtain ⟨z,F,G⟩:=zek j q
   rw [F]
   rcases G.conv j with ⟨o,I,b,e,v,s,H⟩|⟨v,s⟩
   ·subst v s
    simp only [Res.up,wB0] at h ⊢
    subst h
    exact ⟨_,rfl,H⟩
   ·subst v
    cases A with
    | jmp l b e =>
     cases l with
     | zero =>
      simp only at h ⊢
      split at h
      ·rename_i B;rw [if_pos B];exact zek j h
      grind
     | succ l =>
      simp only [Res.up,wB0] at h ⊢
      exact ⟨_,rfl,h.symm⟩
    | fin x o I =>
     simp only [Res.up,wB0] at h ⊢
     subst h
     exact ⟨_,rfl,Rel.of_ne s⟩
 | .loop i b,d,E,r,h=>by
  simp only [Tree.conv,ev] at h ⊢
  cases q:gets E i with
  | none=>grind
  | some e =>
   simp only [q] at h ⊢
   cases w:iter (fun e=>ev C k (b.conv f (d + 1)) (E++e)) k e with
   | none=>grind
   | some A =>
    simp only [w] at h
    obtain ⟨z,F,G⟩:=zyL j (d:=d) (g:=fun e=>ev C k b (E++e)) (fun e r O=>zek j O) k e A w
    rw [F]
    rcases G.conv j with ⟨o,I,P,J,v,s,H⟩|⟨v,s⟩
    ·subst v s
     simp only [Res.up,wB0] at h ⊢
     subst h
     exact ⟨_,rfl,H⟩
    ·subst v
     cases A with
     | jmp l P J =>
      cases l with
      | zero=>grind [Res.up]
      | succ l =>
       simp only [Res.up,wB0] at h ⊢
       exact ⟨_,rfl,h.symm⟩
     | fin x o I =>
      simp only [Res.up,wB0] at h ⊢
      subst h
      exact ⟨_,rfl,Rel.of_ne s⟩
 | .ite c a b,d,E,r,h=>by
  simp only [Tree.conv,ev] at h ⊢
  split at h
  ·exact zek j h
  ·exact zek j h
  grind
 | .jmp l b y,d,E,r,h=>by
  simp only [Tree.conv,ev] at h ⊢
  split at h
  ·grind
  ·injection h with h
   exact ⟨_,rfl,h.symm⟩
 | .fin .normal o,d,E,r,h=>by
  exact ⟨_,rfl,h⟩
 | .fin (.exit id) o,d,E,r,h=>by
  simp [Tree.conv,ev] at h
  exact ⟨_,rfl,h.symm⟩
 | .fin .ret o,d,E,r,h=>by
  simp [Tree.conv,ev] at h
  exact ⟨_,rfl,h.symm⟩
 | .fail n,d,E,r,h=>by grind [Tree.conv,ev]
def Res.ends (f:Ex→Ex):Res→Res
 | .fin x st E=>.fin (f x) st E
 | r=>r
theorem zxM {f t E r}(h:ev C k (t.ends f) E=some r):∃ a,ev C k t E=some a∧r=a.ends f:=by
 obtain ⟨a,e,c⟩:=zea (fun x g E r d=>by
  simp [ev] at d
  subst d
  exact True.intro) h
 refine ⟨a,e,?_⟩
 cases a with
 | jmp l b vs=>exact c
 | fin x g E' =>
  simp [RelO,ev] at c
  exact c.symm
def Tree.shut:Nat→Tree→Bool
 | n,.prim _ _ k=>k.shut n
 | n,.call _ _ _ k=>k.shut n
 | n,.sub t _ k=>t.shut (n + 1)&&k.shut n
 | n,.loop _ b=>b.shut (n + 1)
 | n,.ite _ a b=>a.shut n&&b.shut n
 | n,.jmp l _ _=>Nat.blt l n
 | _,.fin _ _=>true
 | _,.fail _=>true
theorem zzL {f n}(d:∀ a r,f a=some r→r.isFin∨∃ l b c,r=.jmp l b c∧l<n + 1):∀ (j) (a) (r),iter f j a=some r→r.isFin∨∃ l b c,r=.jmp l b c∧l<n + 1
 | 0,a,r,h=>by grind [iter]
 | j + 1,a,r,h=>by
  simp only [iter] at h
  split at h
  ·exact zzL d j _ r h
  grind
theorem zkv:∀ {t}{n}{E}{r},t.shut n=true→ev C k t E=some r→r.isFin∨∃ l b i,r=.jmp l b i∧l<n
 | .prim p s t,n,E,r,g,h=>by
  simp only [Tree.shut] at g
  simp only [ev] at h
  cases j:gets E s with
  | none=>grind
  | some i =>
   simp only [j] at h
   cases o:p.run i with
   | none=>grind
   | some d=>simp only [o] at h;exact zkv g h
 | .call f s m t,n,E,r,g,h=>by
  simp only [Tree.shut] at g
  simp only [ev] at h
  cases j:gets E s with
  | none=>grind
  | some i =>
   simp only [j] at h
   cases o:C f i with
   | none=>grind
   | some ds =>
    simp only [o] at h
    split at h
    ·exact zkv g h
    grind
 | .sub t m u,n,E,r,g,h=>by
  simp [Tree.shut] at g
  simp only [ev] at h
  cases j:ev C k t E with
  | none=>grind
  | some q =>
   simp only [j] at h
   rcases zkv g.1 j with v|⟨l,b,i,e,y⟩
   ·cases q with
    | jmp _ _ _=>exact v.elim
    | fin x w F =>
     grind [Res.up]
   ·subst e
    cases l with
    | zero =>
     simp only at h
     split at h
     ·exact zkv g.2 h
     grind
    | succ l =>
     grind [Res.up]
 | .loop I t,n,E,r,g,h=>by
  simp only [ev] at h
  cases j:gets E I with
  | none=>grind
  | some i =>
   cases o:iter (fun i=>ev C k t (E++i)) k i with
   | none=>grind
   | some q =>
    rcases zzL (n:=n) (fun i r B=>zkv g B) k i q o with v|⟨l,b,ws,e,y⟩
    ·cases q with
     | jmp _ _ _=>exact v.elim
     | fin x w F =>
      grind [Res.up]
    ·cases l with
     | zero=>grind [Res.up]
     | succ l =>
      grind [Res.up]
 | .ite c a b,n,E,r,g,h=>by
  simp [Tree.shut] at g
  simp only [ev] at h
  split at h
  ·exact zkv g.1 h
  ·exact zkv g.2 h
  grind
 | .jmp l b s,n,E,r,g,h=>by grind [Tree.shut,Nat.blt_eq,ev]
 | .fin x w,n,E,r,g,h=>by
  simp [ev] at h
  subst h
  exact .inl trivial
 | .fail _,n,E,r,g,h=>by grind [ev]
theorem zxc {t E r}(hs:t.shut 0=true) (h:ev C k t E=some r):r.isFin:=by grind [zkv]
theorem zct {f}(d:∀ x e n,(f x e).shut n=true):∀ {t:Tree}{n},t.shut n=true→(t.onFin f).shut n=true
 | .prim p j t,n,h=>by simp only [Tree.onFin,Tree.shut] at h ⊢;exact zct d h
 | .call g j m t,n,h=>by simp only [Tree.onFin,Tree.shut] at h ⊢;exact zct d h
 | .sub t m u,n,h=>by
  simp [Tree.onFin,Tree.shut] at h ⊢
  exact ⟨zct d h.1,zct d h.2⟩
 | .loop i b,n,h=>by simp only [Tree.onFin,Tree.shut] at h ⊢;exact zct d h
 | .ite c a b,n,h=>by
  simp [Tree.onFin,Tree.shut] at h ⊢
  exact ⟨zct d h.1,zct d h.2⟩
 | .jmp l b j,n,h=>h
 | .fin x e,n,_=>d x e n
 | .fail n,_,_=>rfl
theorem zrz {f}(b:∀ a n,(f a).shut n=true) {t:Tree}{n}(h:t.shut n=true):(t.andThen f).shut n=true:=zct (fun x a n=>by
 cases x with
 | normal=>exact b a n
 | _=>rfl) h
theorem zGd {f}{t:Tree}{n}(h:t.shut n=true):(t.ends f).shut n=true:=zct (fun _ _ _=>rfl) h
theorem ze7 {f}(e:∀ d j,(f d j).shut (d + 1)=true):∀ {t:Tree}{d},t.shut d=true→(t.conv f d).shut (d + 1)=true
 | .prim p k t,n,h=>by simp only [Tree.conv,Tree.shut] at h ⊢;exact ze7 e h
 | .call g k m t,n,h=>by simp only [Tree.conv,Tree.shut] at h ⊢;exact ze7 e h
 | .sub t m u,n,h=>by
  simp [Tree.conv,Tree.shut] at h ⊢
  exact ⟨ze7 e h.1,ze7 e h.2⟩
 | .loop i b,n,h=>by simp only [Tree.conv,Tree.shut] at h ⊢;exact ze7 e h
 | .ite c a b,n,h=>by
  simp [Tree.conv,Tree.shut] at h ⊢
  exact ⟨ze7 e h.1,ze7 e h.2⟩
 | .jmp l b k,n,h=>by grind [Tree.conv,Tree.shut,Nat.blt_eq]
 | .fin .normal j,n,_=>e n j
 | .fin (.exit id) j,n,_=>rfl
 | .fin .ret j,n,_=>rfl
 | .fail n,_,_=>rfl
theorem zd4:∀ {t:Tree}{n m},n≤m→t.shut n=true→t.shut m=true
 | .prim p e t,n,m,d,h=>by simp only [Tree.shut] at h ⊢;exact zd4 d h
 | .call g e q t,n,m,d,h=>by simp only [Tree.shut] at h ⊢;exact zd4 d h
 | .sub t q u,n,m,d,h=>by
  simp [Tree.shut] at h ⊢
  exact ⟨zd4 (by omega) h.1,zd4 d h.2⟩
 | .loop i b,n,m,d,h=>by simp only [Tree.shut] at h ⊢;exact zd4 (by omega) h
 | .ite c a b,n,m,d,h=>by
  simp [Tree.shut] at h ⊢
  exact ⟨zd4 d h.1,zd4 d h.2⟩
 | .jmp l b e,n,m,d,h=>by grind [Tree.shut,Nat.blt_eq]
 | .fin x st,_,_,_,_=>rfl
 | .fail n,_,_,_,_=>rfl
theorem zfZ:∀ {t:Tree}{n},t.only n=true→t.shut n=true
 | .prim p d t,n,h=>by simp only [Tree.only,Tree.shut] at h ⊢;exact zfZ h
 | .call g d q t,n,h=>by simp only [Tree.only,Tree.shut] at h ⊢;exact zfZ h
 | .sub t q u,n,h=>by
  simp [Tree.only,Tree.shut] at h ⊢
  exact ⟨zfZ h.1,zfZ h.2⟩
 | .loop i b,n,h=>by simp only [Tree.only,Tree.shut] at h ⊢;exact zfZ h
 | .ite c a b,n,h=>by
  simp [Tree.only,Tree.shut] at h ⊢
  exact ⟨zfZ h.1,zfZ h.2⟩
 | .jmp l b d,n,h=>h
 | .fin x st,_,_=>rfl
 | .fail n,_,_=>rfl
theorem zsp:∀ {a}{t}{n},znr a=true→t.shut n=true→(zpW a t).shut n=true
 | [],t,n,_,h=>h
 | b::l,t,n,d,h=>by
  obtain ⟨c,e⟩:=zwx d
  simp only [zpW]
  refine zsp e ?_
  cases b with
  | prim p g=>exact h
  | call f g m=>exact h
  | sub t' m =>
   simp [znr] at c
   simp [Bd.on,Tree.shut]
   exact ⟨zd4 (by omega) (zfZ c),h⟩
theorem zw6:∀ {a},zc0 a=true→znr a=true
 | [],_=>rfl
 | .prim p as::l,h=>by simp only [znr];exact zw6 h
 | .call .. :: _,h=>by grind [zc0]
 | .sub .. :: _,h=>by grind [zc0]
end
end Go.SX
namespace Go.SX
open Go.RowKit (Below)
def exOf:Ex→Exit
 | .normal=>.normal
 | .exit id=>.exit id
 | .ret=>.ret
structure Piece where
 go:(Exit→Act→World→Prop)→Act→World→Prop
 mono:∀ {Q Q':Exit→Act→World→Prop} {a:Act} {w:World},go Q a w→(∀ e a w,Q e a w→Q' e a w)→go Q' a w
structure zwH (b l:Piece):Prop where
 round:∀ {Q:Exit→Act→World→Prop} {a:Act} {w:World},b.go (Exit.then (l.go Q) Q) a w→l.go Q a w
def cpc (ro:Option Nat) (P:Program) (c:Code):Piece:=⟨fun Q a w=>c.wpIn (FR ro) 0 P Q a w,fun h k=>wpIn_mono h k⟩
def zmC (ro:Option Nat) (P:Program) (c:Code) (Q:Exit→Act→World→Prop) (a:Act) (w:World):Prop :=
 ∀ (b:Frame) (k:List Item) (cs:List Frame),b.roundOf=ro→∃ e a' w',Q e a' w'∧ArrivesIn (Machine.fenced P (FR ro)) P (lone (b.atR a (.code c::.inLoop c::k)) cs w) b k cs e a' w'
def lpc (ro:Option Nat) (P:Program) (c:Code):Piece:=⟨zmC ro P c,fun h k b i cs hb=>let ⟨e,a',w',q,r⟩:=h b i cs hb;⟨e,a',w',k _ _ _ q,r⟩⟩
theorem zwP {j P c Q a w}(h:c.wpIn (FR j) 0 P (Exit.then (zmC j P c Q) Q) a w):zmC j P c Q a w:=by
 intro b k o m
 obtain ⟨e,i,g,d,f⟩:=h b (.inLoop c::k) o m trivial zEH
 cases e with
 | normal =>
  obtain ⟨q,r,s,t,p⟩:=d b k o m
  exact ⟨q,r,s,t,.of_steps (StepsIn.trans f (.one (fenced_calm (F:=FR j) (n:=0) trivial zEH rfl) stepR_inLoop)) p⟩
 | exit id=>exact ⟨_,i,g,d,.pass (x:=.inLoop c) rfl (fun _ _=>.inl (by simp)) f⟩
 | goto l=>exact ⟨_,i,g,d,.pass (x:=.inLoop c) rfl (fun _ _=>.inl (by simp)) f⟩
 | ret=>exact ⟨_,i,g,d,.pass (x:=.inLoop c) rfl (fun _ _=>.inl (by simp)) f⟩
 | panic ch=>exact ⟨_,i,g,d,.pass (x:=.inLoop c) rfl (fun _ _=>.inl (by simp)) f⟩
 | outgrown=>exact ⟨_,i,g,d,.pass (x:=.inLoop c) rfl (fun _ _=>.inl (by simp)) f⟩
theorem zDY (a) (P) (c):zwH (cpc a P c) (lpc a P c):=⟨fun h=>zwP h⟩
theorem zF1 {d P c Q a w}(h:zmC d P c Q a w):(Code.loop c).wpIn (FR d) 0 P Q a w:=fun b k g i _ _ =>
 let ⟨e,j,l,m,f⟩:=h b k g i
 ⟨e,j,l,m,.of_steps (.one (fenced_calm (F:=FR d) (n:=0) trivial zEH rfl) stepR_loop) f⟩
section
variable {C:FuncId→List D→Option (List D)} {k B0:Nat} {w0:World} {Xe:Ctx} {cx:Cx} {inl:FuncId→List SV→Nat→List Root→Option Inl}
def InvS (B0:Nat) (w0:World) (Xe:Ctx) (st:St) (E:List D) (a:Act) (w:World):Prop:=Inv B0 w0 Xe E st.slots st.root (fun r=>r<st.mem.length) a w
theorem InvS.pre {e E a w}(h:InvS B0 w0 Xe e E a w):∀ (i:Nat) (d),Xe.E[i]?=some d→E[i]?=some d:=by
 obtain ⟨X,f,_,_,_,_,g,_⟩:=h
 intro i d b
 rw [← f]
 exact g.E i d b
theorem InvS.more {c E F a w}(j:B0≤w0.heap.size) (h:InvS B0 w0 Xe c E a w):InvS B0 w0 Xe c (E++F) a w:=by
 obtain ⟨X,x1,b,k,l,n,o,g,p,q,r⟩:=h
 obtain ⟨y,m⟩:=n.moreE (by rw [b];exact Nat.le_trans j g.size) (E':=E++F) (fun i d hi=>by grind)
 exact ⟨{ X with E:=E++F },rfl,b,k,l,m,o.trans y,g,p,q,fun t=>VRep.ext y (r t)⟩
theorem InvS.drew {c E a w}(o:B0≤w0.heap.size) (h:InvS B0 w0 Xe c E a w):InvS B0 w0 Xe c E a { w with drawn:=w.drawn + 1 }:=by
 obtain ⟨X,g,i,j,k,l,n,d,p,q,r⟩:=h
 subst i
 obtain ⟨y,m⟩:=l.world (Nat.le_trans o d.size) (w':=X.w.drew) (Below.refl _ _).drew
 exact ⟨{ X with w:=X.w.drew },g,rfl,j,k,m,n.trans y,d.drew,p,q,fun t=>VRep.ext y (r t)⟩
theorem zEa {c H L b a}(h:fit0 c H L=some (b,a)):zc0 a=true∧b.length=H.nv - c∧H.base=L.base:=by
 unfold fit0 at h
 simp only at h
 split at h
 ·injection h with h
  injection h with e d
  subst e d
  simp_all [znD]
 grind
theorem zd6 {a H L b c}(h:fit a H L=some (b,c)):zc0 c=true∧b.length=H.nv - a∧H.base=L.base:=by
 unfold fit at h
 split at h
 ·exact zEa (H:={ H with slots:=zxn H.slots }) (L:={ L with slots:=zzo H.slots L.slots }) h
 grind
theorem zen (a) (H) (c):Shifts C k (fitJ a H c):=by
 intro d E
 unfold fitJ
 cases e:fit a H d with
 | none=>simp [ev]
 | some p =>
  obtain ⟨f,g⟩:=p
  obtain ⟨h1,_,_⟩:=zd6 e
  cases he:zdn g E with
  | none=>grind [zfx]
  | some b =>
   cases hg:gets b f with
   | none=>grind [zfx,ev]
   | some vs=>simp_all [zfx,ev]
theorem zzM (a) (H) (e) (d) (b):(fitJ a H e d b).shut (d + 1)=true:=by
 unfold fitJ
 cases f:fit a H b with
 | none=>rfl
 | some p =>
  obtain ⟨c,_,_⟩:=zd6 f
  refine zsp (zw6 c) ?_
  simp [Tree.shut]
theorem znw {f H i d g E r}(h:ev C k (fitJ f H i d g) E=some r):∃ b a c e,fit f H g=some (b,a)∧zdn a E=some c∧gets c b=some e∧r=.jmp d i e∧e.length=H.nv - f∧H.base=g.base:=by
 unfold fitJ at h
 cases m:fit f H g with
 | none=>grind [ev]
 | some p =>
  obtain ⟨b,a⟩:=p
  obtain ⟨o,h2,n⟩:=zd6 m
  simp only [m] at h
  rw [zfx o] at h
  cases l:zdn a E with
  | none=>grind
  | some c =>
   simp only [l,ev] at h
   cases j:gets c b with
   | none=>grind
   | some e =>
    simp [j] at h
    exact ⟨b,a,c,e,rfl,l,j,h.symm,by grind [zfp],n⟩
theorem zEj {a t}(h:t.shut 0=true):(zAF a t).shut 0=true:=by grind [zAF,Tree.shut,ze7,zzM]
theorem zuy {b}(hb:∀ a,(b a).shut 0=true) (a H) (c):(zmn b a H c).shut 0=true:=by grind [zmn,Tree.shut,ze7,zzM]
theorem zDS {d m b}(e:∀ a,(b a).shut 0=true) (a):(zBl d m b a).shut 0=true:=by
 unfold zBl
 simp only
 split
 ·split
  ·grind [zuy]
  ·rename_i sg bs f
   obtain ⟨c,_,_⟩:=zd6 f
   split
   ·split
    ·simp [Tree.shut]
     exact ⟨zsp (zw6 c) (by rfl),zuy e _ _ _⟩
    ·rfl
   ·rfl
  ·rfl
 ·rfl
theorem zf6 {j k l}:∀ {f}{i}{b}{c}{d},(zfb cx inl j k l f i b c d).shut 0=true
 | [],i,b,c,d=>by
  simp only [zfb]
  split<;>rfl
 | o::f,i,b,c,d=>by
  have m:∀ c,(match znf cx inl c b.slot b.root b.nv b.mem.length i o with
    | none=>Tree.fail (zA1 cx inl c b.slot b.root b.nv b.mem.length o)
    | some e=>zpW e.bs (zfb cx inl j k l f (i + 1) (b.after e) c (e::d))).shut 0=true:=fun c=>by
   split
   ·rfl
   ·rename_i e p
    obtain ⟨s,_,_,_,_,_,_,_,_,_,_,_,q⟩:=zkn p
    exact zsp q zf6
  simp only [zfb]
  split
  ·grind
  ·exact zf6
  ·rename_i a n _
   simp [Tree.shut]
   cases n with
   | true=>exact ⟨m _,zf6⟩
   | false=>exact ⟨zf6,m _⟩
  ·rfl
theorem zCe {m}{t:Tree}(h:t.shut 0=true):(t.fgt m).shut 0=true:=zrz (fun _ _=>rfl) h
theorem zqj {m a t}(h:t.shut 0=true):(joinL m a t).shut 0=true:=zEj (zCe h)
theorem zv1 {c m b}(d:∀ a,(b a).shut 0=true) (a):(zDW c m b a).shut 0=true:=zDS (fun s=>zCe (d s)) _
theorem zBh {b c}(f:∀ a,(b a).shut 0=true) (d:∀ a,(c a).shut 0=true) {g e}(a):(zkQ cx b c g e a).shut 0=true:=by
 unfold zkQ
 simp only
 split
 ·refine zct (fun x s n=>?_) (f _)
  cases x with
  | normal =>
   refine zct (fun y s' n=>?_) (zd4 (Nat.zero_le n) (d _))
   cases y<;>rfl
  | _=>rfl
 ·rfl
theorem zAR {b c}(h1:∀ a,(b a).shut 0=true) (h2:∀ a,(c a).shut 0=true) {m g d}(a):(ztG cx b c m g d a).shut 0=true:=by
 unfold ztG
 grind [Tree.shut,zct,zv1,zBh]
theorem zcH:∀ (c) (m) (d),(exec cx inl m c d).shut 0=true
 | .skip,_,d=>rfl
 | .label _,_,d=>rfl
 | .region _ ops draw,m,d=>by
  simp only [exec]
  split
  ·rfl
  simp [zqj,zf6]
 | .seq a b,m,d=>by
  exact zrz (fun d n=>zd4 (Nat.zero_le n) (zcH b _ d)) (zcH a _ d)
 | .cond c x y,m,d=>by
  simp only [exec]
  split
  ·exact zcH x _ d
  ·exact zcH y _ d
  ·refine zqj ?_
   simp [Tree.shut]
   exact ⟨zcH x _ d,zcH y _ d⟩
  ·rfl
 | .block id b,m,d=>by
  exact zqj (zGd (zcH b _ d))
 | .loop b,m,d=>by
  exact zv1 (zcH b _) d
 | .exit _,_,d=>rfl
 | .ret,_,d=>rfl
 | .rangeFunc g ps x y,_,d=>by
  simp only [exec]
  split
  ·exact zAR (fun d=>zcH x _ d) (fun d=>zcH y _ d) d
  ·rfl
 | .scope _,_,d=>rfl
 | .goto _,_,d=>rfl
 | .refuse _,_,d=>rfl
def Shape (E:List D) (base:Nat) (r:Res):Prop:=∃ x st' F,r=.fin x st' (E++F)∧(E++F).length=st'.nv∧st'.base=base
theorem zBw {i t E l}(hE:E.length=i) (g:∀ r,ev C k t E=some r→Shape E l r) {r}(h:ev C k (zAF i t) E=some r):Shape E l r:=by
 unfold zAF at h
 split at h
 ·grind
 ·grind
 ·split at h
  ·simp only at h
   split at h
   ·rename_i m
    simp  at m
    simp only [ev] at h
    split at h
    ·grind
    ·rename_i n b
     split at h
     ·injection h with h
      subst h
      obtain ⟨d,c,a⟩:=zek (zen _ _ _) b
      obtain ⟨x,j,F,e,o,p⟩:=g d c
      subst e
      cases x with
      | normal =>
       obtain ⟨sg,bs,E1,vs',f1,f2,f3,f4,f5,f6⟩:=znw a
       exact ⟨.normal,_,n,rfl,by grind,by omega⟩
      | exit id=>cases a
      | ret=>cases a
     grind
    ·rename_i f hne b
     obtain ⟨d,c,a⟩:=zek (zen _ _ _) b
     obtain ⟨x,j,F,e,o,p⟩:=g d c
     subst e
     cases x with
     | normal =>
      have a:ev C k (fitJ _ _ _ _ j) (E++F)=some _:=a
      grind [znw]
     | exit id =>
      have a:f=_:=a
      grind [Res.up]
     | ret =>
      have a:f=_:=a
      grind [Res.up]
   grind
  grind
theorem zqI {g}(s:∀ a E r,ev C k (g a) E=some r→E.length=a.nv→Shape E a.base r) {a H m E}(hE:E.length=a.nv) (hn:a.nv≤H.nv) (hsg:m.length=H.nv - a.nv) {r}(h:ev C k (zmn g a H m) E=some r):Shape E H.base r:=by
 unfold zmn at h
 simp only [ev] at h
 split at h
 ·grind
 ·split at h
  ·grind
  ·have main:∀ (n:Nat) (b:List D) (j:Res),b.length=H.nv - a.nv→iter (fun b=>ev C k ((g H).conv (fitJ a.nv H true) 0) (E++b)) n b=some j→j.up=some r→Shape E H.base r:=by
    intro n
    induction n with
    | zero=>simp [iter]
    | succ n ih =>
     intro b j hvl i l
     simp only [iter] at i
     have step:∀ q,ev C k ((g H).conv (fitJ a.nv H true) 0) (E++b)=some q→(∃ o,q=.jmp 0 true o∧o.length=H.nv - a.nv)∨∃ x c F,q=.fin x c (E++F)∧(E++F).length=c.nv∧c.base=H.base:=fun q t=>by
      obtain ⟨u,v,f⟩:=zek (zen _ _ _) t
      obtain ⟨x,c,F,e,p,d⟩:=s H _ u v (by grind)
      subst e
      cases x with
      | normal =>
       have f:ev C k (fitJ _ _ _ _ c) (E++b++F)=some _:=f
       grind [znw]
      | exit id=>exact .inr ⟨_,c,b++F,by rw [← vB0];exact f,by grind,d⟩
      | ret=>exact .inr ⟨_,c,b++F,by rw [← vB0];exact f,by grind,d⟩
     split at i
     ·grind
     ·rcases step _ i with ⟨vs2,e,hl⟩|⟨x,c,F,e,p,d⟩
      ·simp_all
      ·subst e
       simp [Res.up] at l
       exact ⟨x,c,F,l.symm,p,d⟩
   grind [zfp]
theorem zAO {l m f}(j:∀ st E r,ev C k (f st) E=some r→E.length=st.nv→Shape E st.base r) {st E}(hE:E.length=st.nv) {r}(h:ev C k (zBl l m f st) E=some r):Shape E st.base r:=by
 unfold zBl at h
 simp only at h
 split at h
 ·rename_i i
  simp  at i
  split at h
  ·rename_i d a
   obtain ⟨b,n,o⟩:=zd6 a
   grind [zqI]
  ·rename_i d p _ a
   obtain ⟨b,n,o⟩:=zd6 a
   split at h
   ·rename_i c
    simp  at c
    split at h
    ·rename_i sg' q
     obtain ⟨g1,s,g3⟩:=zd6 q
     simp only [ev] at h
     rw [zfx b] at h
     cases t:zdn p E with
     | none=>grind
     | some u =>
      simp only [t] at h
      cases v:gets u d with
      | none=>grind [ev]
      | some g =>
       simp only [ev,v] at h
       split at h
       ·obtain ⟨x,w,F,e,e2,e3⟩:=zqI j (E:=E++g) (by grind) c.2 s h
        exact ⟨x,w,g++F,by grind,by grind,by omega⟩
       grind
    grind [ev]
   grind [ev]
  grind [ev]
 grind [ev]
theorem zIg {m t E r}(h:ev C k (t.fgt m) E=some r):∃ c,ev C k t E=some c∧((∃ a d,c=.fin .normal a d∧r=.fin .normal (a.forget m) d)∨((∀ a d,c≠.fin .normal a d)∧r=c)):=by
 obtain ⟨c,i,f⟩:=zlL (fun a E r g=>by
  simp [ev] at g
  subst g
  exact True.intro) h
 refine ⟨c,i,?_⟩
 cases c with
 | jmp l b vs=>exact .inr ⟨(fun _ _ e=>by grind),f⟩
 | fin x a d =>
  cases x with
  | normal =>
   have f:ev C k (.fin .normal (a.forget m)) d=some r:=f
   grind [ev]
  | exit id=>exact .inr ⟨(fun _ _ e=>by grind),f⟩
  | ret=>exact .inr ⟨(fun _ _ e=>by grind),f⟩
theorem zpj {m t E a}(n:∀ r,ev C k t E=some r→Shape E a r) {r}(h:ev C k (t.fgt m) E=some r):Shape E a r:=by
 obtain ⟨d,f,g⟩:=zIg h
 obtain ⟨x,st',F,e,i,j⟩:=n d f
 subst e
 rcases g with ⟨st,E',l,b⟩|⟨_,b⟩
 ·injection l with o p c
  subst o p c
  exact ⟨.normal,_,F,b,i,j⟩
 grind
theorem znl {m a t E b}(d:E.length=a) (e:∀ r,ev C k t E=some r→Shape E b r) {r}(h:ev C k (joinL m a t) E=some r):Shape E b r:=zBw d (fun _ c=>zpj e c) h
theorem zuS {e m c}(g:∀ a E r,ev C k (c a) E=some r→E.length=a.nv→Shape E a.base r) {a E}(f:E.length=a.nv) {r}(h:ev C k (zDW e m c a) E=some r):Shape E a.base r :=
 zAO (st:=a.forget m) (fun s E r b d=>zpj (fun r b=>g s E r b d) b) f h
def St.start (st:St) (i:At) (e:Ty) (p q:Tmp):St:=⟨st.nv + 2,st.mem.length,((st.slots.take (st.slots.length - 1)).set p (.d (.int .i64) i)).set q (.d e (.v (st.nv + 1))),st.mem⟩
def zhh (C:FuncId→List D→Option (List D)) (k:Nat) (f:St→Tree):Prop:=∀ st E r,ev C k (f st) E=some r→E.length=st.nv→Shape E st.base r
theorem Shape.of {E c F b r x a}(e:r=.fin x a c) (f:c=E++F) (g:c.length=a.nv) (d:a.base=b):Shape E b r:=by
 subst f
 exact ⟨_,_,_,e,g,d⟩
theorem Shape.fin {E b r}(h:Shape E b r):r.isFin:=by
 obtain ⟨_,_,_,e,_⟩:=h
 subst e
 exact True.intro
theorem zyv {K I}(s2:∀ st,(I st).shut 0=true) (B:zhh C k K) (L:zhh C k I) {g ps st E r}(h:ev C k (zkQ cx K I g ps st) E=some r) (hE:E.length=st.nv) :
  ∃ i e a p q z,st.slot (st.slots.length - 1)=.d (.int .i64) i∧zv0 cx st g=some (e,a)∧ps=[p,q]∧i.get (E++[.bool (decide (z<0))])=some (.int .i64 z) ∧
   ((z<0∧r=.fin .ret { st with nv:=st.nv + 1 } (E++[.bool true])) ∨
    (0≤z∧∃ F l s m y f t,a.get (E++[.bool false])=some F∧Prim.run .get [F,.int .i64 z]=some l ∧
     ev C k (K (st.start i e p q)) (E++[.bool false,l])=some (.fin .normal s (E++[.bool false,l]++m))∧(E++[.bool false,l]++m).length=s.nv ∧
     ev C k (I { s with base:=s.mem.length }) (E++[.bool false,l]++m)=some (.fin y f (E++[.bool false,l]++m++t))∧(E++[.bool false,l]++m++t).length=f.nv ∧
     ((y=.normal∧r=.fin .normal ⟨f.nv + 1,st.base,st.slots.take (st.slots.length - 1)++[.d (.int .i64) (.v f.nv)],f.mem⟩ (E++[.bool false,l]++m++t++[.int .i64 (IntKind.i64.wrap (z - 1))])) ∨
     ∃ id,y=.exit id∧r=.fin (.exit id) ⟨f.nv,st.base,st.slots,f.mem⟩ (E++[.bool false,l]++m++t)))):=by
 have two:∀ {E:List D} {a:At} {c x:D} {S:BinOp} {A:List D},gets E [a,.c c]=some A→(Prim.bin S).run A=some x→∃ d,a.get E=some d∧binD S d c=some x:=fun {E a c x S A} B L=>by
  simp only [gets] at B
  have hc:(At.c c).get E=some c:=rfl
  cases N:a.get E with
  | none=>grind
  | some d =>
   simp [N,hc] at B
   subst B
   exact ⟨d,rfl,L⟩
 unfold zkQ at h
 simp only at h
 split at h
 ·rename_i i e a p q hsl hb
  simp only [ev] at h
  cases G:gets E [i,.c (.int .i64 0)] with
  | none=>grind
  | some A =>
   simp only [G] at h
   cases O:(Prim.bin .lss).run A with
   | none=>simp [O] at h
   | some x =>
    simp only [O] at h
    obtain ⟨d,P,H⟩:=two G O
    have w:∃ z,d=.int .i64 z∧x=.bool (decide (z<0)):=by
     cases d<;>simp only [binD] at H<;>try cases H
     rename_i kk z
     split at H
     ·rename_i hk
      subst hk
      simp [binI] at H
      grind
     grind
    obtain ⟨z,R,J⟩:=w
    subst R J
    have hx2:(At.v st.nv).get (E++[.bool (decide (z<0))])=some (.bool (decide (z<0))):=by grind [At.get]
    refine ⟨i,e,a,p,q,z,hsl,hb,rfl,At.get_app P,?_⟩
    rw [hx2] at h
    by_cases w:z<0
    ·simp [w] at h
     exact .inl ⟨w,h.symm⟩
    ·simp only [w,vF0] at h
     refine .inr ⟨by omega,?_⟩
     simp only [gets] at h
     cases N:a.get (E++[.bool false]) with
     | none=>grind
     | some F =>
      simp only [N,At.get_app P] at h
      cases M:Prim.run .get [F,.int .i64 z] with
      | none=>simp [M] at h
      | some l =>
       simp only [M] at h
       rw [vB0,show ([D.bool false]++[l])=[.bool false,l] from rfl] at h
       have fin2:∀ (f:St) (y:Ex) (E:List D) (r:Res),ev C k (match y with
         | .normal=>.prim (.bin .sub) [i,.c (.int .i64 1)] (.fin .normal ⟨f.nv + 1,st.base,st.slots.take (st.slots.length - 1)++[.d (.int .i64) (.v f.nv)],f.mem⟩)
         | .exit id=>.fin (.exit id) ⟨f.nv,st.base,st.slots,f.mem⟩
         | .ret=>.fail 926) E=some r→r.isFin:=fun f y E r j=>by
        cases y with
        | normal =>
         simp only [ev] at j
         split at j
         ·cases j
         ·split at j
          ·grind
          ·injection j with j;subst j;exact True.intro
        | exit id=>simp only [ev] at j;injection j with j;subst j;exact True.intro
        | ret=>grind [ev]
       obtain ⟨r1,q1,u⟩:=zea (fun x s E r j=>by
        cases x with
        | normal=>exact zxc (zct (fun y f n=>by cases y<;>rfl) (s2 _)) j
        | _=>simp [ev] at j) h
       obtain ⟨x1,s,m,R,J,e3⟩:=B _ _ _ q1 (by grind [St.start])
       subst R
       cases x1 with
       | normal =>
        obtain ⟨r2,q3,o⟩:=zea (fun y f E r j=>fin2 f y E r j) u
        obtain ⟨y,f,t,f1,f2,f3⟩:=L { s with base:=s.mem.length } _ _ q3 J
        subst f1
        refine ⟨F,l,s,m,y,f,t,rfl,M,q1,J,q3,f2,?_⟩
        cases y with
        | normal =>
         left
         have o:ev C k (.prim (.bin .sub) [i,.c (.int .i64 1)] _) _=some r:=o
         have G:gets (E++[.bool false,l]++m++t) [i,.c (.int .i64 1)]=some [.int .i64 z,.int .i64 1]:=by simp only [gets,(At.get_app (At.get_app (At.get_app P)))];rfl
         simp only [ev,G,Prim.run,binD,binI,if_true,wB0] at o
         exact ⟨rfl,o.symm⟩
        | exit id =>
         have o:ev C k (.fin _ _) _=some r:=o
         simp only [ev,wB0] at o
         exact .inr ⟨id,rfl,o.symm⟩
        | ret =>
         have o:ev C k (.fail _) _=some r:=o
         grind [ev]
       | exit id =>
        have u:ev C k (.fail _) _=some r:=u
        simp [ev] at u
       | ret =>
        have u:ev C k (.fail _) _=some r:=u
        simp [ev] at u
 grind [ev]
theorem zqZ {f c}(t:∀ st,(c st).shut 0=true) (u:zhh C k f) (v:zhh C k c) {g n}:zhh C k (zkQ cx f c g n):=by
 intro st E r h o
 obtain ⟨i,e,a,p,q,z,_,_,_,_,⟨_,b⟩|⟨_,ds,d,s,j,y,s',l,_,_,_,_,_,m,⟨_,b⟩|⟨id,_,b⟩⟩⟩:=zyv t u v h o
 ·exact Shape.of b rfl (by grind) rfl
 ·exact Shape.of b (F:=[.bool false,d]++j++l++[.int .i64 (IntKind.i64.wrap (z - 1))]) (by simp) (by grind) rfl
 ·exact Shape.of b (F:=[.bool false,d]++j++l) (by simp) m rfl
theorem zAi {o j}(I:∀ b,(j b).shut 0=true) (h1:zhh C k o) (h2:zhh C k j) {m g w b E r}(h:ev C k (ztG cx o j m g w b) E=some r) (hE:E.length=b.nv) :
  ∃ e a f n x s,∃ F:List D,zv0 cx b g=some (e,a)∧a.get E=some f∧Prim.run .len [f]=some (.int .i64 n) ∧
   ev C k (zDW cx.hd (Nat.lor (zB1 b.slots.length) m) (zkQ cx o j g w) ⟨b.nv + 2,b.base,b.slots++[.d (.int .i64) (.v (b.nv + 1))],b.mem⟩) (E++[D.int .i64 n,.int .i64 (IntKind.i64.wrap (n - 1))])=some (.fin x s (E++[D.int .i64 n,.int .i64 (IntKind.i64.wrap (n - 1))]++F)) ∧
   (E++[D.int .i64 n,.int .i64 (IntKind.i64.wrap (n - 1))]++F).length=s.nv∧s.base=b.base ∧
   ((x=.ret∧r=.fin .normal (zB8 s) (E++[D.int .i64 n,.int .i64 (IntKind.i64.wrap (n - 1))]++F))∨∃ id,x=.exit id∧r=.fin (.exit id) (zB8 s) (E++[D.int .i64 n,.int .i64 (IntKind.i64.wrap (n - 1))]++F)):=by
 unfold ztG at h
 split at h
 ·rename_i e a A
  simp only [ev,gets] at h
  cases t:a.get E with
  | none=>grind
  | some f =>
   simp only [t] at h
   cases l:Prim.run .len [f] with
   | none=>simp [l] at h
   | some x =>
    have z:∃ n,x=.int .i64 n:=by
     cases f<;>simp only [Prim.run] at l<;>first|grind|grind
    obtain ⟨n,p⟩:=z
    subst p
    have B:(At.v b.nv).get (E++[.int .i64 n])=some (.int .i64 n):=by grind [At.get]
    have G:(At.c (.int .i64 1)).get (E++[.int .i64 n])=some (.int .i64 1):=rfl
    have H:(Prim.bin .sub).run [.int .i64 n,.int .i64 1]=some (.int .i64 (IntKind.i64.wrap (n - 1))):=rfl
    simp only [l,B,G,H] at h
    rw [vB0,show ([D.int .i64 n]++[.int .i64 (IntKind.i64.wrap (n - 1))])=[.int .i64 n,.int .i64 (IntKind.i64.wrap (n - 1))] from rfl] at h
    obtain ⟨r0,u,q2⟩:=zea (fun x s E r i=>by
     cases x with
     | normal=>grind [ev]
     | _=>injection i with i;subst i;exact True.intro) h
    obtain ⟨x,s,F,p,M,N⟩:=zuS (fun b E r i y=>zqZ I h1 h2 b E r i y) (by grind) u
    subst p
    refine ⟨e,a,f,n,x,s,F,A,t,l,u,M,N,?_⟩
    cases x with
    | normal =>
     have q2:ev C k (.fail _) _=some r:=q2
     grind [ev]
    | exit id =>
     have q2:ev C k (.fin _ _) _=some r:=q2
     simp only [ev,wB0] at q2
     grind
    | ret =>
     have q2:ev C k (.fin _ _) _=some r:=q2
     grind [ev]
 grind [ev]
theorem zzc {d b}(q:∀ f,(b f).shut 0=true) (j:zhh C k d) (t:zhh C k b) {m g o}:zhh C k (ztG cx d b m g o):=by
 intro f E r h p
 obtain ⟨e,a,ds,n,x,s,F,_,_,_,_,l,i,⟨_,c⟩|⟨id,_,c⟩⟩:=zAi q j t h p
 ·exact Shape.of c (F:=[.int .i64 n,.int .i64 (IntKind.i64.wrap (n - 1))]++F) (by simp) l i
 ·exact Shape.of c (F:=[.int .i64 n,.int .i64 (IntKind.i64.wrap (n - 1))]++F) (by simp) l i
theorem zbt:∀ (c) (m) (d) (E) (r),ev C k (exec cx inl m c d) E=some r→E.length=d.nv→Shape E d.base r
 | .skip,m,d,E,r,h,f=>by simp [exec,ev] at h;exact ⟨.normal,d,[],by grind,by grind,rfl⟩
 | .label _,m,d,E,r,h,f=>by simp [exec,ev] at h;exact ⟨.normal,d,[],by grind,by grind,rfl⟩
 | .exit id,m,d,E,r,h,f=>by simp [exec,ev] at h;exact ⟨.exit id,d,[],by grind,by grind,rfl⟩
 | .ret,m,d,E,r,h,f=>by simp [exec,ev] at h;exact ⟨.ret,d,[],by grind,by grind,rfl⟩
 | .region _ ops draw,m,d,E,r,h,f=>by
  simp only [exec] at h
  split at h
  ·grind [ev]
  ·refine znl f (fun r i=>?_) h
   obtain ⟨t,F,es,s,j,l,_⟩:=zgX i f (fun a b hm=>by grind)
   exact ⟨.normal,t,F,s,j,l.all.2.2.2.2.2⟩
 | .seq a b,m,d,E,r,h,f=>by
  obtain ⟨q,p,o⟩:=zlL (fun d E r i=>zxc (zcH b _ d) i) h
  obtain ⟨x,n,F,e,j,l⟩:=zbt a _ d E q p f
  subst e
  cases x with
  | normal =>
   obtain ⟨y,v,u,f1,f2,f3⟩:=zbt b _ n _ r o j
   exact ⟨y,v,F++u,by grind,by grind,by omega⟩
  | exit id=>exact ⟨_,n,F,o,j,l⟩
  | ret=>exact ⟨_,n,F,o,j,l⟩
 | .cond c x y,m,d,E,r,h,f=>by
  simp only [exec] at h
  split at h
  ·exact zbt x _ d E r h f
  ·exact zbt y _ d E r h f
  ·refine znl f (fun r i=>?_) h
   simp only [ev] at i
   split at i
   ·exact zbt x _ d E r i f
   ·exact zbt y _ d E r i f
   grind
  grind [ev]
 | .block id b,m,d,E,r,h,f=>by
  refine znl f (fun r i=>?_) h
  obtain ⟨q,p,o⟩:=zxM i
  obtain ⟨x,n,F,e,j,l⟩:=zbt b _ d E q p f
  subst e
  exact ⟨_,n,F,o,j,l⟩
 | .loop b,m,d,E,r,h,f=>by
  exact zuS (fun d E r=>zbt b _ d E r) f h
 | .rangeFunc g ps x y,m,d,E,r,h,f=>by
  simp only [exec] at h
  split at h
  ·exact zzc (fun d=>zcH y _ d) (fun d E r=>zbt x _ d E r) (fun d E r=>zbt y _ d E r) d E r h f
  grind [ev]
 | .scope _,m,d,E,r,h,f=>by grind [exec,ev]
 | .goto _,m,d,E,r,h,f=>by grind [exec,ev]
 | .refuse _,m,d,E,r,h,f=>by grind [exec,ev]
end
end Go.SX
namespace Go.SX
open Go.RowKit (Below)
theorem zeJ {w l o o'}(h:w.heap[l]?=some o) (b:¬ Held o) (c:¬ Held o'):Turned w (w.putObj l o') l :=
 ⟨⟨o,h,b⟩,⟨o',World.putObj_heap_same (lt_of_heap h),c⟩,fun _ a=>World.putObj_heap_other a,World.putObj_size⟩
theorem zfR {a l b w o}(h:Below a b w) (hl:a≤l):Below a b (w.putObj l o) :=
 h.trans ⟨rfl,rfl,rfl,by simp,fun k hk=>World.putObj_heap_other (by omega)⟩
section
variable {P:Program}
theorem zbz {a:Act}{d:Tmp}{v}(h:d<a.tmps.size):(a.put (some d) v).eval (.tmp d)=v:=by simp_all [Act.put,Act.eval]
theorem eval_put_ne {a:Act}{d t v}(h:d≠t):(a.put (some d) v).eval (.tmp t)=a.eval (.tmp t):=by simp_all [Act.put,Act.eval]
theorem size_put {a:Act}{d v}:(a.put d v).tmps.size=a.tmps.size:=by
 cases d<;>simp [Act.put]
theorem zix {a:Act}{d v}:(a.put d v).defers=a.defers:=by
 cases d<;>rfl
theorem zIo {a:Array Oper}{i:Nat}{d b}(h:(a.toList.map ess)[i]?=some (d,b,none)):∃ o,a[i]?=some o∧o.dst=d∧o.op=b∧o.guard=none:=by grind [ess]
theorem zcT {b Q i f a w c d e v}(j:(b.toList.map ess)[i]?=some (d,e,none))
  (h:∀ o:Oper,o.op=e→(execOp a.eval o).run P w=.ok (.value v) c) (hn:wpOpsIn (FR none) 0 P b Q f (a.put d v) c):wpOpsIn (FR none) 0 P b Q (i::f) a w:=by
 obtain ⟨o,k,h1,h2,h3⟩:=zIo j
 have g:Region.wanted o (yielded b a.tmps)=true:=by grind [Region.wanted]
 simp [wpOpsIn,k,g]
 refine ⟨fun _ _=>trivial,?_⟩
 show o.uponIn _ _ P a _ Q ((execOp a.eval o).run P w)
 grind [Oper.uponIn_value]
theorem zE0 {b Q i c a w d g l f tmps assign body}(j:(b.toList.map ess)[i]?=some (d,g,none))
  (h:∀ o:Oper,o.op=g→(execOp a.eval o).run P w=.ok (.round l f tmps assign body) w) (k:RoundIn (FR none) 0 P l f tmps assign body w fun e m=>∃ v,e=.returned v∧wpOpsIn (FR none) 0 P b Q c (a.put d v) m):wpOpsIn (FR none) 0 P b Q (i::c) a w:=by
 obtain ⟨o,p,q,r,h3⟩:=zIo j
 have s:Region.wanted o (yielded b a.tmps)=true:=by grind [Region.wanted]
 simp [wpOpsIn,p,s]
 refine ⟨fun _ _=>trivial,?_⟩
 show o.uponIn _ _ P a _ Q ((execOp a.eval o).run P w)
 rw [h o r,Oper.uponIn_round,q]
 refine ⟨(fun n=>by cases n),k.mono ?_⟩
 grind
theorem run_move {a o x w}(h:o.op=.move x∨o.op=.assign x):(execOp a o).run P w=.ok (.value (a x)) w:=by
 rcases h with h|h<;>simp [execOp,h]
theorem zB4 {c o a t g x y w k m n v}(h:o.op=.binOp a t x y g) (e:c x=.int k m) (f:c y=.int k n) (b:a=.sub∨a=.geq) (d:v=if a=.sub then .int k (k.wrap (m - n)) else .bool (m≥n)) :
  (execOp c o).run P w=.ok (.value v) w:=by
 subst d
 rcases b with b|b<;>subst b<;>simp [execOp,h,e,f,go_sem]
theorem zIR {a o t x w b}(h:o.op=.unOp .not t x) (hx:a x=.bool b):(execOp a o).run P w=.ok (.value (.bool !b)) w:=by simp_all [execOp,Op.unary]
theorem zqk {a o t x w p v}(h:o.op=.load t x) (hx:a x=.pointer (some p)) (hv:(loadVar t p).run P w=.ok v w):(execOp a o).run P w=.ok (.value v) w:=by simp_all [execOp,Instr.loadAt,Instr.sureAddr]
theorem zFI {a o t E x w A}{n c:Nat}(h:o.op=.call ⟨.builtin .len,#[x],#[t]⟩) (hx:a x=.slice A n c) (hu:P.underlying t=some (.slice E)):(execOp a o).run P w=.ok (.value (.int .i64 n)) w:=by simp_all [execOp,resolve,invoke,builtin,Builtin.len_,za7,goInt]
theorem zBM {a o t E x y w i A}{n c:Nat}{g}{z:Int}(h:o.op=.indexAddr t x y) (d:a x=.slice (some A) n c) (e:a y=.int g z) (f:P.underlying t=some (.slice E)) (j:P.info? E=some i) (k:0≤z) (b:z<n) :
  (execOp a o).run P w=.ok (.value (.pointer (some (A.add (z.toNat * i.size))))) w:=by
 simp [execOp,h,d,e,Instr.indexAt,za7 f,ze8,k,b,sizeOf,typeInfo,j]
theorem zBK {a o g b d w c l n}(h:o.op=.call ⟨.value g,b,d⟩) (hg:a g=.func (.yield l) #[] #[]) (hy:(Instr.yield l (b.map a)).run P w=.ok n c):(execOp a o).run P w=.ok n c:=by grind [execOp,resolve,Deferred.ofValue,invoke]
structure RC where
 P:Program
 fn:FuncId
 t0:Array Value
 dfs:List Deferred
 ps:Array Tmp
 assign:Code
 body:Code
 D:Nat
 l:Nat
 pB:Addr
 tS:TypeId
 tE:TypeId
 sz:Nat
def RC.obj (c:RC) (s:LoopState) (p:Option Code):Obj:=.loop { state:=s,pending:=p,fn:=c.fn,tmps:=c.t0,params:=c.ps,assign:=c.assign,body:=c.body,defers:=c.D }
def RC.act (c:RC) (i:Int):Act:=⟨c.t0.push (.int .i64 i),c.dfs⟩
def RC.start (c:RC) (i:Int) (u:Value):Act:=⟨(c.ps.zip #[.int .i64 i,u]).foldl (fun tmps (t,a)=>tmps.setIfInBounds t a) c.t0,[]⟩
def RC.behind (c:RC) (i:Int) (Q:Exit→Act→World→Prop) (e:Exit) (w:World):Prop :=
 w.heap[c.l]?=some (c.obj .busy none)∧match e with
  | .normal=>Q .normal (c.act (IntKind.i64.wrap (i - 1))) (w.putObj c.l (c.obj .ready none))
  | .exit id=>Q (.exit id) (c.act i) (w.putObj c.l (c.obj .done (some (.exit id))))
  | _=>False
def RC.round (c:RC) (i:Int) (u:Value) (Q:Exit→Act→World→Prop) (w:World):Prop :=
 c.assign.wpIn (FR (some c.l)) 0 c.P (Exit.then (fun a1 w1=>w1.heap[c.l]?=some (c.obj .ready none)∧c.body.wpIn (FR (some c.l)) 0 c.P (fun e _ w2=>c.behind i Q e w2) a1 (w1.putObj c.l (c.obj .busy none))) (fun _ _ _=>False)) (c.start i u) w
def RC.bgo (c:RC) (Q:Exit→Act→World→Prop) (a:Act) (w:World):Prop:=∀ i,a=c.act i→w.heap[c.l]?=some (c.obj .ready none) →
 (i<0∧Q .ret a w)∨(0≤i∧∃ A n k u,(loadVar c.tS c.pB).run c.P w=.ok (.slice (some A) n k) w∧i<(n:Int)∧(loadVar c.tE (A.add (i.toNat * c.sz))).run c.P w=.ok u w∧c.round i u Q w)
theorem RC.behind_mono {c:RC}{i Q b e w}(h:c.behind i Q e w) (k:∀ e a w,Q e a w→b e a w):c.behind i b e w:=by
 obtain ⟨d,h2⟩:=h
 refine ⟨d,?_⟩
 grind
def RC.b (c:RC):Piece:=⟨c.bgo,fun h k i e hr=>(h i e hr).imp (fun h=>⟨h.1,k _ _ _ h.2⟩) fun ⟨h0,A,n,kk,u,h1,h2,h3,h4⟩=>⟨h0,A,n,kk,u,h1,h2,h3,wpIn_mono h4 fun e a w q=>by
 cases e with
 | normal=>exact ⟨q.1,wpIn_mono q.2 fun e a w q=>RC.behind_mono q k⟩
 | _=>exact q⟩⟩
structure zJT (l:Nat) (pB:Addr) (i:Int) (it:Act):Prop where
 size:it.tmps.size=19
 s0:it.eval (.tmp 0)=.func (.yield l) #[] #[]
 s1:it.eval (.tmp 1)=.pointer (some pB)
 s3:it.eval (.tmp 3)=.int .i64 i
 df:it.defers=[]
def RC.post (c:RC) (b0:Nat) (Q:Exit→Act→World→Prop) (e:Exit) (it:Act) (w:World):Prop :=
 it.defers=[]∧((e=.exit b0∧w.heap[c.l]?=some (c.obj .ready none)∧∃ i,Q .ret (c.act i) w)∨(e=.ret∧∃ id i,w.heap[c.l]?=some (c.obj .done (some (.exit id)))∧Q (.exit id) (c.act i) w))
theorem RC.post_mono {c:RC}{j Q l e m w}(h:c.post j Q e m w) (k:∀ e a w,Q e a w→l e a w):c.post j l e m w:=by
 obtain ⟨g,⟨b,f,i,d⟩|⟨b,id,i,f,d⟩⟩:=h
 ·exact ⟨g,.inl ⟨b,f,i,k _ _ _ d⟩⟩
 ·exact ⟨g,.inr ⟨b,id,i,f,k _ _ _ d⟩⟩
def RC.l_ (c:RC) (b0:Nat) (lc:Code):Piece:=⟨fun Q a w=>∀ i it,a=c.act i→w.heap[c.l]?=some (c.obj .ready none)→zJT c.l c.pB i it→zmC none c.P lc (c.post b0 Q) it w,
 fun h k i it e hr ha b kk cs hb=>let ⟨e,a',w',q,r⟩:=h i it e hr ha b kk cs hb;⟨e,a',w',RC.post_mono q k,r⟩⟩
theorem zBD {c:RC}{f fn r0 r1 r2 r3 b0 b1 o0 o1 o2 o3 ti tb ts E inf}(hf:zFL c.P f c.tS c.tE fn r0 r1 r2 r3 b0 b1 o0 o1 o2 o3 ti tb ts)
  (hu:c.P.underlying c.tS=some (.slice E)) (hi:c.P.info? E=some inf) (hsz:inf.size=c.sz) (hps:c.ps.size=2):zwH c.b (c.l_ b0 (zgo r1 r2 r3 b0 b1 o1 o2 o3)):=⟨by
 intro Q a w h i it ea hr ha
 refine zwP ?_
 obtain ⟨s1,s2,s3,s4,s5⟩:=ha
 have z1:o1.size=2:=by have:=congrArg List.length hf.e1;grind
 have z2:o2.size=3:=by have:=congrArg List.length hf.e2;grind
 have z3:o3.size=8:=by have:=congrArg List.length hf.e3;simp_all
 refine wpIn_seq (wpIn_seq (wpIn_region ?_))
 rw [z1]
 refine zcT (by rw [hf.e1];rfl) (fun o ho=>run_move (.inl ho)) ?_
 rw [s4]
 refine zcT (by rw [hf.e1];rfl) (fun o ho=>zB4 ho (zbz (by grind)) rfl (.inr rfl) rfl) ?_
 rw [if_neg (by simp)]
 show Exit.then _ _ .normal _ _
 have c8:((it.put (some 7) (.int .i64 i)).put (some 8) (.bool (i≥0))).eval (.tmp 8)=.bool (i≥0):=zbz (by grind [size_put])
 rcases h i ea hr with ⟨hi0,hq⟩|⟨hi0,A,n,kk,u,h1,h2,h3,h4⟩
 ·refine wpIn_cond_false (by grind) (wpIn_exit ?_)
  refine ⟨by grind [zix],.inl ⟨rfl,hr,i,?_⟩⟩
  rw [← ea]
  exact hq
 refine wpIn_cond_true (by grind) (wpIn_skip ?_)
 show Code.wpIn _ _ _ _ _ _ _
 obtain ⟨it1,e1⟩:∃ it1,(it.put (some 7) (.int .i64 i)).put (some 8) (.bool (i≥0))=it1:=⟨_,rfl⟩
 have q1:it1.tmps.size=19:=by grind [size_put]
 have q2:it1.eval (.tmp 0)=.func (.yield c.l) #[] #[]:=by grind [eval_put_ne]
 have q3:it1.eval (.tmp 1)=.pointer (some c.pB):=by grind [eval_put_ne]
 have q4:it1.eval (.tmp 3)=.int .i64 i:=by grind [eval_put_ne]
 have q5:it1.defers=[]:=by grind [zix]
 rw [e1]
 clear e1 c8
 refine wpIn_seq (wpIn_block (wpIn_seq (wpIn_region ?_)))
 rw [z3]
 refine zcT (by rw [hf.e3];rfl) (fun o ho=>run_move (.inl ho)) ?_
 rw [q2]
 refine zcT (by rw [hf.e3];rfl) (fun o ho=>run_move (.inl ho)) ?_
 rw [eval_put_ne (by decide),q4]
 refine zcT (by rw [hf.e3];rfl) (fun o ho=>zqk ho (by grind [eval_put_ne]) h1) ?_
 refine zcT (by rw [hf.e3];rfl) (fun o ho=>run_move (.inl ho)) ?_
 rw [eval_put_ne (by decide),eval_put_ne (by decide),eval_put_ne (by decide),q4]
 refine zcT (by rw [hf.e3];rfl) (fun o ho=>zBM ho (by rw [eval_put_ne (by decide),zbz (by grind [size_put])]) (zbz (by grind [size_put])) hu hi hi0 h2) ?_
 rw [hsz]
 refine zcT (by rw [hf.e3];rfl) (fun o ho=>zqk ho (zbz (by grind [size_put])) h3) ?_
 obtain ⟨it2,e2⟩:∃ it2,(((((it1.put (some 11) (.func (.yield c.l) #[] #[])).put (some 12) (.int .i64 i)).put (some 13) (.slice (some A) n kk)).put (some 14) (.int .i64 i)).put (some 15) (.pointer (some (A.add (i.toNat * c.sz))))).put (some 16) u=it2:=⟨_,rfl⟩
 have k1:it2.tmps.size=19:=by grind [size_put]
 have k2:it2.eval (.tmp 0)=.func (.yield c.l) #[] #[]:=by grind [eval_put_ne]
 have k3:it2.eval (.tmp 1)=.pointer (some c.pB):=by grind [eval_put_ne]
 have k4:it2.eval (.tmp 3)=.int .i64 i:=by grind [eval_put_ne]
 have k5:it2.defers=[]:=by grind [zix]
 have k11:it2.eval (.tmp 11)=.func (.yield c.l) #[] #[]:=by grind [eval_put_ne,zbz]
 have k12:it2.eval (.tmp 12)=.int .i64 i:=by grind [eval_put_ne,zbz,size_put]
 have k16:it2.eval (.tmp 16)=u:=by rw [← e2,zbz (by simp only [size_put,q1];decide)]
 rw [e2]
 clear e2
 refine zE0 (l:=c.l) (f:=c.fn) (tmps:=(c.start i u).tmps) (assign:=c.assign) (body:=c.body) (by rw [hf.e3];rfl) (fun o ho=>zBK ho k11 ?_) ?_
 ·have:=run_yield (P:=c.P) (args:=#[.int .i64 i,u]) hr (by rw [hps];rfl)
  simp [k12,k16]
  exact this
 have go:∀ (t:Bool) (w':World),(if t then c.l_ b0 (zgo r1 r2 r3 b0 b1 o1 o2 o3) |>.go Q (c.act (IntKind.i64.wrap (i - 1))) w' else ∃ id,w'.heap[c.l]?=some (c.obj .done (some (.exit id)))∧Q (.exit id) (c.act i) w') →
   (t=true→w'.heap[c.l]?=some (c.obj .ready none))→wpOpsIn (FR none) 0 c.P o3 (Exit.then (fun a w=>(Code.cond (.tmp 18) .ret .skip).wpIn (FR none) 0 c.P (Exit.inBlock b1 (Exit.then (fun a w=>(Code.region r2 o2 false).wpIn (FR none) 0 c.P (Exit.then (zmC none c.P (zgo r1 r2 r3 b0 b1 o1 o2 o3) (c.post b0 Q)) (c.post b0 Q)) a w) (Exit.then (zmC none c.P (zgo r1 r2 r3 b0 b1 o1 o2 o3) (c.post b0 Q)) (c.post b0 Q)))) a w)
    (Exit.inBlock b1 (Exit.then (fun a w=>(Code.region r2 o2 false).wpIn (FR none) 0 c.P (Exit.then (zmC none c.P (zgo r1 r2 r3 b0 b1 o1 o2 o3) (c.post b0 Q)) (c.post b0 Q)) a w) (Exit.then (zmC none c.P (zgo r1 r2 r3 b0 b1 o1 o2 o3) (c.post b0 Q)) (c.post b0 Q))))) [7] (it2.put (some 17) (.bool t)) w':=by
  intro t w' hq hrd
  refine zcT (by rw [hf.e3];rfl) (fun o ho=>zIR ho (zbz (by rw [k1];decide))) ?_
  have c18:((it2.put (some 17) (.bool t)).put (some 18) (.bool !t)).eval (.tmp 18)=.bool !t:=zbz (by rw [size_put,k1];decide)
  cases t with
  | false =>
   obtain ⟨id,g1,g2⟩:=hq
   refine wpIn_cond_true c18 (wpIn_ret ?_)
   exact ⟨by exact k5,.inr ⟨rfl,id,i,g1,g2⟩⟩
  | true =>
   refine wpIn_cond_false c18 (wpIn_skip ?_)
   show Code.wpIn _ _ _ _ _ _ _
   obtain ⟨it3,e3⟩:∃ it3,(it2.put (some 17) (.bool true)).put (some 18) (.bool !true)=it3:=⟨_,rfl⟩
   have m1:it3.tmps.size=19:=by rw [← e3];simp only [size_put,k1]
   have m2:it3.eval (.tmp 0)=.func (.yield c.l) #[] #[]:=by rw [← e3,eval_put_ne (by decide),eval_put_ne (by decide),k2]
   have m3:it3.eval (.tmp 1)=.pointer (some c.pB):=by rw [← e3,eval_put_ne (by decide),eval_put_ne (by decide),k3]
   have m4:it3.eval (.tmp 3)=.int .i64 i:=by rw [← e3,eval_put_ne (by decide),eval_put_ne (by decide),k4]
   have m5:it3.defers=[]:=by rw [← e3];simp ;exact k5
   rw [e3]
   refine wpIn_region ?_
   rw [z2]
   refine zcT (by rw [hf.e2];rfl) (fun o ho=>run_move (.inl ho)) ?_
   rw [m4]
   refine zcT (by rw [hf.e2];rfl) (fun o ho=>zB4 ho (zbz (by rw [m1];decide)) rfl (.inl rfl) rfl) ?_
   refine zcT (by rw [hf.e2];rfl) (fun o ho=>run_move (.inr ho)) ?_
   rw [zbz (by rw [size_put,m1];decide)]
   show zmC _ _ _ _ _ _
   refine hq _ _ rfl (hrd rfl) ⟨by simp only [size_put,m1],?_,?_,zbz (by simp only [size_put,m1];decide),by grind [zix]⟩
   ·simp [eval_put_ne,m2]
   ·simp [eval_put_ne,m3]
 refine roundIn_of_wpIn (F:=FR none) trivial (wpIn_mono h4 fun e a1 w1 q=>?_)
 cases e with
 | normal =>
  obtain ⟨q1,q2⟩:=q
  refine ⟨_,run_beginRound q1 rfl,wpIn_mono q2 fun e a2 w2 q=>?_⟩
  obtain ⟨g1,g2⟩:=q
  cases e with
  | normal =>
   refine ⟨_,_,run_endRound none g1,_,rfl,go true _ g2 fun _=>World.putObj_heap_same (Array.getElem?_eq_some_iff.1 g1).1⟩
  | exit id =>
   refine ⟨_,_,run_endRound (some (.exit id)) g1,_,rfl,go false _ ⟨id,World.putObj_heap_same (Array.getElem?_eq_some_iff.1 g1).1,g2⟩ (by simp)⟩
  | _=>exact g2.elim
 | _=>exact q.elim⟩
theorem zIQ {P f q v Y r0 Z N V B b1 o0 L M o3 ti tb ts E}(a:zFL P f q v Y r0 Z N V B b1 o0 L M o3 ti tb ts) (hu:P.underlying q=some (.slice E))
  {g x y z p r w pB sz} (hg:(⟨p,r⟩:Act).eval g=.func (.func f) #[] #[.pointer (some pB)]) {Q}
  (h:∀ i,∃ (A:Option Addr) (n k:Nat) (R:Exit→Act→World→Prop),let c:RC:=⟨P,i,p,mkD w.heap.size::r,x,y,z,w.heap.size,w.heap.size + 1,pB,q,v,sz⟩
   let d:=(w.alloc (.deferred (some []))).alloc (c.obj .ready none)
   (loadVar q pB).run P d=.ok (.slice A n k) d∧(c.l_ B (zgo Z N V B b1 L M o3)).go R (c.act (IntKind.i64.wrap (n - 1))) d ∧
   (∀ j b,R .ret (c.act j) b→b.heap[c.l]?=some (c.obj .ready none)→Q .normal ⟨p,c.dfs⟩ (b.putObj c.l (c.obj .exhausted none))) ∧
   (∀ id j b,R (.exit id) (c.act j) b→b.heap[c.l]?=some (c.obj .done (some (.exit id)))→Q (.exit id) ⟨p,c.dfs⟩ (b.putObj c.l (c.obj .exhausted (some (.exit id)))))) :
  (Code.rangeFunc g x y z).wpIn (FR none) 0 P Q ⟨p,r⟩ w:=by
 refine wpIn_rangeFunc fun i _=>?_
 obtain ⟨A,n,k,R,F,u,hR1,O⟩:=h i
 obtain ⟨c,S⟩:∃ c:RC,c=⟨P,i,p,mkD w.heap.size::r,x,y,z,w.heap.size,w.heap.size + 1,pB,q,v,sz⟩:=⟨_,rfl⟩
 rw [← S] at F u hR1 O
 have hP:c.P=P:=by grind
 have G:c.l=w.heap.size + 1:=by grind
 have hpc:c.pB=pB:=by grind
 have H:c.dfs=mkD w.heap.size::r:=by grind
 obtain ⟨d,X⟩:∃ d,(w.alloc (.deferred (some []))).alloc (c.obj .ready none)=d:=⟨_,rfl⟩
 rw [X] at F u
 have hbi:∀ (I:Array Value) (W:World),(callFunc f I).run P W=.ok (.enter f I) W:=fun I W=>by
  have J:=a.can
  unfold zlu at J
  simp only [wD0,Bool.not_eq_true'] at J
  simp only [callFunc,Sem.run_bind,run_program,Result.andThen_ok,a.get,J.2,a.body,Option.isNone_some,wA0,if_false,Sem.run_pure]
 refine ⟨w.heap.size + 1,[mkD w.heap.size],d,{ target:=.fn (.func f) #[.pointer (some pB)],args:=#[.func (.yield (w.heap.size + 1)) #[] #[]] },d,f,#[.func (.yield (w.heap.size + 1)) #[] #[]]++#[.pointer (some pB)],d,?_,?_,fun _ _=>trivial,?_,(fun H=>by cases H),?_⟩
 ·rw [← X,S]
  exact run_enterLoop_outer _ _ _ _ _
 ·simp only [resolve,hg]
  simp [go_sem]
 ·grind [invoke]
 ·refine callsIn_of_wp a.get a.body trivial ?_
  have z0:o0.size=4:=by have:=congrArg List.length a.e0;grind
  obtain ⟨m,s⟩:∃ m:Act,({ tmps:=#[Value.func (.yield (w.heap.size + 1)) #[] #[]]++#[Value.pointer (some pB)]++Array.replicate (Y.ntmps - (#[Value.func (.yield (w.heap.size + 1)) #[] #[]]++#[Value.pointer (some pB)]).size) undef,defers:=[] }:Act)=m:=⟨_,rfl⟩
  have q1:m.tmps.size=19:=by rw [← s,a.ntmps];simp
  have q2:m.eval (.tmp 0)=.func (.yield c.l) #[] #[]:=by rw [← s,G];simp [Act.eval,Array.getElem?_append]
  have q3:m.eval (.tmp 1)=.pointer (some c.pB):=by rw [← s,hpc];simp [Act.eval,Array.getElem?_append]
  have q5:m.defers=[]:=by grind
  rw [s]
  clear s
  refine wpIn_seq (wpIn_region ?_)
  rw [z0]
  refine zcT (by rw [a.e0];rfl) (fun o l=>zqk l (by grind) F) ?_
  refine zcT (by rw [a.e0];rfl) (fun o l=>zFI l (zbz (by grind)) hu) ?_
  refine zcT (by rw [a.e0];rfl) (fun o l=>zB4 l (zbz (by grind [size_put])) rfl (.inl rfl) rfl) ?_
  refine zcT (by rw [a.e0];rfl) (fun o l=>run_move (.inr l)) ?_
  rw [zbz (by grind [size_put])]
  refine wpIn_block (zF1 ?_)
  have:=u _ ((((m.put (some 4) (.slice A n k)).put (some 5) (.int .i64 n)).put (some 6) (.int .i64 (IntKind.i64.wrap (n - 1)))).put (some 3) (.int .i64 (IntKind.i64.wrap (n - 1)))) rfl (by grind [World.alloc_heap_new,World.size_alloc])
   ⟨by grind [size_put],by grind [eval_put_ne],by simp [eval_put_ne,q3],zbz (by simp only [size_put,q1];decide),by simp only [zix];exact q5⟩
  rw [hP] at this
  refine (lpc none P _).mono this fun e a' b hp=>?_
  obtain ⟨hdf,⟨K,t,j,U⟩|⟨K,id,j,t,U⟩⟩:=hp
  ·subst K
   simp [Exit.inBlock]
   refine ⟨hdf,_,results_none a.res _ _ _,none,b.putObj c.l (c.obj .exhausted none),?_,?_⟩
   ·rw [← G];exact run_endLoop t (by simp)
   grind
  ·subst K
   refine ⟨hdf,_,results_none a.res _ _ _,some (.exit id),b.putObj c.l (c.obj .exhausted (some (.exit id))),?_,wpIn_exit ?_⟩
   ·rw [← G];exact run_endLoop t (by simp)
   ·have:=O id j b U t
    rw [H] at this
    exact this
end
end Go.SX
namespace Go.SX
open Go.RowKit (Below)
section
variable {C:FuncId→List D→Option (List D)} {k B0:Nat} {w0:World} {Xe:Ctx} {cx:Cx} {inl:FuncId→List SV→Nat→List Root→Option Inl}
def zdW (B0:Nat) (w0:World) (Xe:Ctx) (x:Ex) (st:St) (E:List D):Exit→Act→World→Prop:=fun e a w=>e=exOf x∧InvS B0 w0 Xe st E a w
theorem zqm (q:B0≤w0.heap.size) {c H L g j}(h:fit c H L=some (g,j)) (n:H.okAt=true) (o:c≤H.nv) {b F}(t:b.length=c) (v:(b++F).length=L.nv)
  (x:∀ (i:Nat) (d:D),Xe.E[i]?=some d→b[i]?=some d) (p:∀ r,Xe.A r→r<L.base) {E1} (s:zdn j (b++F)=some E1) {l} (u:gets E1 g=some l) {a w}
  (m:InvS B0 w0 Xe L (b++F) a w):InvS B0 w0 Xe H (b++l) a w :=
 (zGE q h n o t v x p s u m).2.2
theorem zAH (hB0:B0≤w0.heap.size) {c:Piece}{p q t E}(hE:E.length=p) (hXe:∀ (i:Nat) (d:D),Xe.E[i]?=some d→E[i]?=some d) (hXA:∀ r,Xe.A r→r<q) {a w}
  (A:∀ r,ev C k t E=some r→Shape E q r) (H:∀ x f F,ev C k t E=some (.fin x f (E++F))→c.go (zdW B0 w0 Xe x f (E++F)) a w)
  {x f F} (h:ev C k (zAF p t) E=some (.fin x f (E++F))):c.go (zdW B0 w0 Xe x f (E++F)) a w:=by
 unfold zAF at h
 split at h
 ·grind
 ·grind
 ·split at h
  ·simp only at h
   split at h
   ·rename_i M
    simp  at M
    simp only [ev] at h
    split at h
    ·grind
    ·rename_i vs l
     split at h
     ·injection h with h
      injection h with G m z
      subst G m
      obtain ⟨n,g,b⟩:=zek (zen _ _ _) l
      obtain ⟨x,u,v,e,m,z⟩:=A n g
      subst e
      cases x with
      | normal =>
       obtain ⟨sg,bs,E1,vs',f1,f2,f3,f4,f5,f6⟩:=znw b
       refine c.mono (H _ _ _ g) fun e a' w' ⟨J,hinv⟩=>⟨J,?_⟩
       grind [zqm]
      | exit id=>cases b
      | ret=>cases b
     grind
    ·rename_i B hne l
     obtain ⟨n,g,b⟩:=zek (zen _ _ _) l
     obtain ⟨y,u,v,e,m,z⟩:=A n g
     subst e
     cases y with
     | normal =>
      have b:ev C k (fitJ _ _ _ _ u) (E++v)=some _:=b
      grind [znw]
     | exit id =>
      have b:B=_:=b
      grind [Res.up]
     | ret =>
      have b:B=_:=b
      grind [Res.up]
   grind
  grind
theorem zrv (hB0:B0≤w0.heap.size) {b l}(hR:zwH b l) {A K}(hXA:∀ r,Xe.A r→r<K) (hb:∀ c E r,ev C k (A c) E=some r→E.length=c.nv→Shape E c.base r)
  (hbs:∀ c E a w x o m,ev C k (A c) E=some (.fin x o m)→E.length=c.nv→c.base=K→InvS B0 w0 Xe c E a w→b.go (zdW B0 w0 Xe x o m) a w)
  {c H Q E} (hE:E.length=c.nv) (hXe:∀ (i:Nat) (d:D),Xe.E[i]?=some d→E[i]?=some d) (hn:c.nv≤H.nv) (hok:H.okAt=true) (hbase:H.base=K) {J} (hg:gets E Q=some J) (hl0:J.length=H.nv - c.nv)
  {x o m} (h:ev C k (zmn A c H Q) E=some (.fin x o m)) {a w} (hinv:InvS B0 w0 Xe H (E++J) a w):l.go (zdW B0 w0 Xe x o m) a w:=by
 unfold zmn at h
 simp only [ev,hg] at h
 split at h
 ·grind
 ·have main:∀ (n:Nat) (p:List D) (N:Res) (a:Act) (w:World),p.length=H.nv - c.nv→iter (fun p=>ev C k ((A H).conv (fitJ c.nv H true) 0) (E++p)) n p=some N→N.up=some (.fin x o m)→InvS B0 w0 Xe H (E++p) a w →
    l.go (zdW B0 w0 Xe x o m) a w:=by
   intro n
   induction n with
   | zero=>simp [iter]
   | succ n ih =>
    intro p N a w hvl M hup hinv
    simp only [iter] at M
    have step:∀ q,ev C k ((A H).conv (fitJ c.nv H true) 0) (E++p)=some q →
      (∃ t,q=.jmp 0 true t∧t.length=H.nv - c.nv∧((∀ u v,InvS B0 w0 Xe H (E++t) u v→l.go (zdW B0 w0 Xe x o m) u v)→l.go (zdW B0 w0 Xe x o m) a w)) ∨
      ∃ y s G,y≠.normal∧q=.fin y s G∧b.go (zdW B0 w0 Xe y s G) a w:=fun q hq=>by
     obtain ⟨r0,P,L⟩:=zek (zen _ _ _) hq
     obtain ⟨y,s,F,e,I,e3⟩:=hb H _ r0 P (by grind)
     subst e
     have z:=hbs H _ a w y s _ P (by grind) hbase hinv
     cases y with
     | normal =>
      obtain ⟨sg',bs',G,t,f1,R,f3,f4,f5,f6⟩:=znw L
      refine .inl ⟨t,f4,f5,fun hnext=>hR.round (b.mono z fun e u v ⟨O,B⟩=>?_)⟩
      subst O
      refine hnext u v ?_
      rw [vB0] at R B I
      exact zqm hB0 f1 hok hn hE I hXe (fun r hr=>by grind) R f3 B
     | exit id=>exact .inr ⟨_,s,_,by simp,L,z⟩
     | ret=>exact .inr ⟨_,s,_,by simp,L,z⟩
    split at M
    ·grind
    ·rcases step _ M with ⟨vs2,e,hl,hgo⟩|⟨y,s,G,hy,e,z⟩
     ·simp_all
     ·subst e
      simp only [Res.up,wB0] at hup
      injection hup with e1 I e3
      subst e1 I e3
      refine hR.round (b.mono z fun e u v ⟨O,B⟩=>?_)
      subst O
      cases y with
      | normal=>grind
      | exit id=>exact ⟨rfl,B⟩
      | ret=>exact ⟨rfl,B⟩
  grind
theorem zA4 {hd m}(i:B0≤w0.heap.size) {b l}(L:zwH b l) {v u}(K:∀ r,Xe.A r→r<u) (hb:∀ st E r,ev C k (v st) E=some r→E.length=st.nv→Shape E st.base r)
  (H:∀ st E a w x g e,ev C k (v st) E=some (.fin x g e)→E.length=st.nv→st.base=u→InvS B0 w0 Xe st E a w→b.go (zdW B0 w0 Xe x g e) a w)
  {st E} (y:E.length=st.nv) (hbase:st.base=u) {x g e} (h:ev C k (zBl hd m v st) E=some (.fin x g e)) {a w} (f:InvS B0 w0 Xe st E a w):l.go (zdW B0 w0 Xe x g e) a w:=by
 unfold zBl at h
 simp only at h
 split at h
 ·rename_i d
  simp  at d
  split at h
  ·rename_i z n
   obtain ⟨J,h2,h3⟩:=zd6 n
   have hg:∃ j,gets E z=some j:=by grind [zmn,ev]
   obtain ⟨j,hg⟩:=hg
   exact zrv i L K hb H y f.pre d.2 d.1 (by omega) hg (by grind [zfp]) h (zqm i (F:=[]) n d.1 d.2 y (by grind) f.pre (fun r G=>by grind) (E1:=E) (by rw [vL0];rfl) hg (by rw [vL0];exact f))
  ·rename_i z bs _ n
   obtain ⟨J,h2,h3⟩:=zd6 n
   split at h
   ·rename_i o
    simp  at o
    split at h
    ·rename_i sg' I
     obtain ⟨g1,g2,g3⟩:=zd6 I
     simp only [ev] at h
     rw [zfx J] at h
     cases he:zdn bs E with
     | none=>grind
     | some E1 =>
      simp only [he] at h
      cases hg:gets E1 z with
      | none=>grind [ev]
      | some j =>
       simp only [ev,hg] at h
       split at h
       ·have A:=zqm i (F:=[]) n d.1 d.2 y (by grind) f.pre (fun r G=>by grind) (E1:=E1) (by grind) hg (by rw [vL0];exact f)
        have t:∃ B,gets (E++j) sg'=some B:=by grind [zmn,ev]
        obtain ⟨B,t⟩:=t
        exact zrv i L K hb H (by grind) A.pre o.2 o.1 (by omega) t (by grind [zfp]) h (zqm i (F:=[]) I o.1 o.2 (by grind) (by grind) A.pre (fun r G=>by grind) (E1:=E++j) (by rw [vL0];rfl) t (by rw [vL0];exact A))
       grind
    grind [ev]
   grind [ev]
  grind [ev]
 grind [ev]
theorem zv8 (m):∀ (l) (i t:Nat),((forget m i l)[t]?).getD (.un 1)=(l[t]?).getD (.un 1)∨((forget m i l)[t]?).getD (.un 1)=.un 1
 | [],i,t=>.inl rfl
 | s::l,i,0=>by grind [forget]
 | s::l,i,t + 1=>by
  simp only [forget]
  simpa using zv8 m l (i + 1) t
theorem zwu (m):∀ (l) (i),(forget m i l).length=l.length
 | [],_=>rfl
 | s::l,i=>by simp [forget,zwu m l]
theorem InvS.forget {b E a w}(h:InvS B0 w0 Xe b E a w) (m):InvS B0 w0 Xe (b.forget m) E a w:=by
 obtain ⟨X,f,g,i,j,k,l,n,o,p,x10⟩:=h
 refine ⟨X,f,g,i,j,k,l,n,by rw [o];exact (zwu m _ _).symm,p,fun t=>?_⟩
 rcases zv8 m b.slots 0 t with h|h
 ·show VRep X (((Go.SX.forget m 0 b.slots)[t]?).getD (.un 1)) _
  grind
 ·show VRep X (((Go.SX.forget m 0 b.slots)[t]?).getD (.un 1)) _
  grind [VRep]
theorem zH8 {c:Piece}{m t E a w}(q:∀ x b d,ev C k t E=some (.fin x b d)→c.go (zdW B0 w0 Xe x b d) a w)
  {x b d} (h:ev C k (t.fgt m) E=some (.fin x b d)):c.go (zdW B0 w0 Xe x b d) a w:=by
 obtain ⟨r0,n,o⟩:=zIg h
 rcases o with ⟨st,E2,p,f⟩|⟨_,f⟩
 ·subst p
  injection f with r s u
  subst r s u
  exact c.mono (q _ _ _ n) fun e a' w' ⟨v,g⟩=>⟨v,g.forget m⟩
 grind
theorem znF (u:B0≤w0.heap.size) {c:Piece}{m o base t E}(q:E.length=o) (s:∀ (i:Nat) (d:D),Xe.E[i]?=some d→E[i]?=some d) (p:∀ r,Xe.A r→r<base) {a w}
  (l:∀ r,ev C k t E=some r→Shape E base r) (ht:∀ x b F,ev C k t E=some (.fin x b (E++F))→c.go (zdW B0 w0 Xe x b (E++F)) a w)
  {x b F} (h:ev C k (joinL m o t) E=some (.fin x b (E++F))):c.go (zdW B0 w0 Xe x b (E++F)) a w :=
 zAH u q s p (fun _ f=>zpj l f) (fun x b F f=>zH8 (fun y st1 E1 f=>by
  obtain ⟨y',st2,F2,e,_,_⟩:=l _ f
  grind) f) h
theorem ztL {hd}(z:B0≤w0.heap.size) {b l}(v:zwH b l) {m body j}(A:∀ r,Xe.A r→r<j) (p:∀ st E r,ev C k (body st) E=some r→E.length=st.nv→Shape E st.base r)
  (q:∀ st E a w x d e,ev C k (body st) E=some (.fin x d e)→E.length=st.nv→st.base=j→InvS B0 w0 Xe st E a w→b.go (zdW B0 w0 Xe x d e) a w)
  {st E} (t:E.length=st.nv) (u:st.base=j) {x d e} (h:ev C k (zDW hd m body st) E=some (.fin x d e)) {a w} (hinv:InvS B0 w0 Xe st E a w):l.go (zdW B0 w0 Xe x d e) a w :=
 zA4 z v (st:=st.forget m) A (fun s E r c n=>zpj (fun r c=>p s E r c n) c) (fun s E a w x d e c n B F=>zH8 (fun y G o c=>q s E a w y G o c n B F) c) t u h (hinv.forget m)
end
end Go.SX
namespace Go.SX
open Go.RowKit (Below)
section
variable {C:FuncId→List D→Option (List D)} {k B0:Nat} {w0:World} {Xe:Ctx} {cx:Cx}
theorem zwa:∀ {l}{f}{p},zsP l f=some p→(f,p)∈l
 | [],_,_,h=>by grind [zsP]
 | (g,q)::l,f,p,h=>by
  simp only [zsP] at h
  split at h
  ·simp_all
  ·exact vI0 _ (zwa h)
theorem zp9 (J:TysOk cx) {X st}(m:Mem B0 X) (hμ:X.μ=st.root) {g v}(q:VRep X (opnd st.slot g) v) {e a}(h:zv0 cx st g=some (e,a)) :
  ∃ f i n G,zsP cx.bk f=some (i,n)∧v=.func (.func f) #[] #[.pointer (some G)]∧cx.T i=.sl e∧∃ d u,a.get X.E=some d∧(loadVar i G).run cx.P X.w=.ok u X.w ∧
   ((d=.nil∧u=.slice none 0 0)∨∃ l A t,d=.sl l∧u=.slice (some A) l.length t∧∀ (j) (x),l[j]?=some x→∃ z,(loadVar n (A.add (j * e.size))).run cx.P X.w=.ok z X.w∧VRep X (.d e (.c x)) z):=by
 unfold zv0 at h
 split at h
 ·rename_i f R T r hs
  split at h
  ·rename_i i n hb
   split at h
   ·rename_i T' I a' V
    split at h
    ·rename_i F
     injection h with h
     injection h with w o
     subst w o
     simp  at F
     obtain ⟨⟨⟨⟨_,K⟩,c3⟩,P⟩,Q⟩:=F
     rw [hs] at q
     simp only [VRep,VRepL,Ref] at q
     obtain ⟨S,U,w,o,p,l,H,⟨W,b,off,q1,q2,M,q4⟩,e4⟩:=q
     have o:S=#[]:=by grind
     have H:U=#[p]:=by grind
     simp [tOff] at M
     subst w o H q1 M
     have L:=m.rep r W
     rw [hμ,V] at L
     obtain ⟨b',c,te,h1,h2,_,h3⟩:=L
     obtain ⟨u,hu,hru⟩:=zgS J (Ty.beq_eq K) c3 (s:=.d (.sl I) a') rfl h3 (a:=⟨b,0,none⟩) (fun j v y=>by
      rw [Addr.add_mid,vA0]
      grind [zc4])
     refine ⟨f,i,n,⟨b,0,none⟩,hb,rfl,(Ty.beq_eq K),?_⟩
     obtain ⟨d,hd,hdv⟩:=VRep.data.1 hru
     refine ⟨d,u,hd,hu,?_⟩
     have N:=hdv.2
     cases d<;>simp only [DRep] at N
     ·rename_i ds
      obtain ⟨A,t,xs,B,g2,O,g4,g5⟩:=N
      injection B with B
      refine .inr ⟨ds,A,t,rfl,B,fun j x y=>?_⟩
      obtain ⟨k1,k2⟩:=zBo (DRepA.part O y) g4 g5
      exact zgS J (Ty.beq_eq P) Q (s:=.d I (.c x)) rfl (by exact ⟨x,rfl,(DRepA.part O y)⟩) k1
     grind
    grind
   grind
  grind
 grind
theorem carry {X a l o o' E'}(hB:B0≤a.w.heap.size) (x:ExtC X a) (j:Mem B0 a) (e:a.w.heap[l]?=some o) (f:¬ Held o) (g:¬ Held o') (h:∀ (i:Nat) (d:D),a.E[i]?=some d→E'[i]?=some d) :
  ExtC X { a with w:=a.w.putObj l o',E:=E' }∧Mem B0 { a with w:=a.w.putObj l o',E:=E' }:=by
 obtain ⟨k,m⟩:=j.turn (zeJ e f g)
 obtain ⟨n,c⟩:=m.moreE (E':=E') (by simp_all) h
 exact ⟨x.trans (k.trans n.c),c⟩
theorem Ext.carry {b a l o o' E'}(x:Ext b a) (hB:B0≤a.w.heap.size) (c:Mem B0 a) (n:a.w.heap[l]?=some o) (g:¬ Held o) (h:¬ Held o') (j:b.w.heap.size≤l) (k:∀ (i:Nat) (d:D),a.E[i]?=some d→E'[i]?=some d) :
  Ext b { a with w:=a.w.putObj l o',E:=E' }:=by
 have e:=zeJ (o':=o') n g h
 obtain ⟨t1,p⟩:=c.turn e
 obtain ⟨f,y2⟩:=p.moreE (E':=E') (by simp_all) k
 exact (x.turned c e j).trans f
theorem Marks.turn {w l o c a}(h:Marks B0 w0 w a) (ho:w.heap[l]?=some o) (hn:o≠.deferred (some [])):Marks B0 w0 (w.putObj l c) a:=by
 obtain ⟨f,g,b,h3⟩:=h
 refine ⟨f,g,b,fun r hr=>?_⟩
 grind [World.putObj_heap_other]
theorem zcC {c:RC}{s p}:¬ Held (c.obj s p):=by rintro (⟨_,_,_,h⟩|⟨_,_,h⟩)<;>cases h
theorem zyE {c:RC}{s p}:c.obj s p≠.deferred (some []):=fun h=>by cases h
def Does (cx:Cx) (C:FuncId→List D→Option (List D)) (k:Nat) (c:Code) (ex:St→Tree):Prop :=
 ∀ {ro:Option Nat} {B0:Nat} {w0:World} {Xe:Ctx} {base:Nat},B0≤w0.heap.size→(∀ r,Xe.A r→r<base)→∀ (st:St) (E:List D) (a:Act) (w:World) (x:Ex) (st':St) (E':List D),ev C k (ex st) E=some (.fin x st' E')→E.length=st.nv→st.base=base→InvS B0 w0 Xe st E a w →
  c.wpIn (FR ro) 0 cx.P (zdW B0 w0 Xe x st' E') a w
theorem zJD {a}{p q:Tmp}(h:a.toList=[p,q]):a=#[p,q]:=by grind
theorem zEz {a d b g v i}(h:(⟨a,d⟩:Act).eval g=v) (c:v≠undef):(⟨a.push i,b⟩:Act).eval g=v:=by
 subst h
 cases g with
 | tmp t =>
  simp [Act.eval] at c ⊢
  grind
 | _=>rfl
theorem zoI {b:List SV}{n}{a:Array Value}{X i ds}(hl:b.length=a.size + 1) (d:n=a.size) (h:∀ t,VRep X ((b[t]?).getD (.un 1)) ((⟨a.push i,ds⟩:Act).tmps.getD t undef)) :
  a.size=(b.take n).length∧∀ t,VRep X (((b.take n)[t]?).getD (.un 1)) (a.getD t undef):=by
 subst d
 refine ⟨by grind,fun t=>?_⟩
 rcases vS0 t a.size with c|c
 ·have:=h t
  rw [List.getElem?_take_of_lt c]
  simp_all [Array.getElem?_push_lt]
 grind [VRep]
theorem zz3 {a s}{b:Array Value}{X i}(hl:b.size=a.length) (h:∀ t,VRep X ((a[t]?).getD (.un 1)) (b.getD t undef)) (hs:VRep X s i) :
  (b.push i).size=(a++[s]).length∧∀ t,VRep X (((a++[s])[t]?).getD (.un 1)) ((b.push i).getD t undef):=by
 simp
 grind [vJ0]
theorem zBS (ty:TysOk cx) (hB0:B0≤w0.heap.size) {x y ex1 ex2}(s2:∀ st,(ex2 st).shut 0=true) (sh1:zhh C k ex1) (sh2:zhh C k ex2) (g1:Does cx C k x ex1) (g2:Does cx C k y ex2)
  {c:RC} (hP:c.P=cx.P) (hx:c.assign=x) (hy:c.body=y) {g f e0} (hg:(⟨c.t0,c.dfs⟩:Act).eval g=.func (.func f) #[] #[.pointer (some c.pB)]) (hbk:zsP cx.bk f=some (c.tS,c.tE)) (he0:cx.T c.tS=.sl e0) (hsz:c.sz=e0.size) (hl:Xe.w.heap.size≤c.l) (hlB:B0≤c.l) (hl0:w0.heap.size≤c.l) :
  ∀ (st) (E) (a) (w) (z) (st') (E'),ev C k (zkQ cx ex1 ex2 g c.ps.toList st) E=some (.fin z st' E')→E.length=st.nv→InvS B0 w0 Xe st E a w→c.b.go (zdW B0 w0 Xe z st' E') a w:=by
 intro st E a w z st' E' hev hE hinv
 intro i ea hr
 obtain ⟨ia,e,at_,p,q,zi,t1,t2,t3,t4,hcase⟩:=zyv s2 sh1 sh2 hev hE
 obtain ⟨X,x1,x2,x3,x4,x5,x6,x7,x8,x9,Z⟩:=id hinv
 subst x2
 have hlen:st.slots.length=c.t0.size + 1:=by grind [RC.act]
 have hn:st.slots.length - 1=c.t0.size:=by omega
 have hidx:ia.get E=some (.int .i64 i):=by
  have hv:=Z (st.slots.length - 1)
  have:((st.slots[st.slots.length - 1]?).getD (.un 1))=.d (.int .i64) ia:=t1
  rw [this,hn,ea] at hv
  have hv':a.tmps.getD c.t0.size undef=.int .i64 i:=by simp_all [RC.act]
  obtain ⟨d,hd,hdv⟩:=VRep.data.1 hv
  obtain ⟨n,e1,e2⟩:=hdv.int
  grind
 have hz:zi=i:=by grind [At.get_app]
 subst hz
 have hB:B0≤X.w.heap.size:=Nat.le_trans hB0 x7.size
 rcases hcase with ⟨hneg,hr0⟩|⟨hpos,ds,el,s,F1,y',s',F2,u1,u2,u3,u4,u5,u6,hend⟩
 ·injection hr0 with e1 e2 e3
  subst e1 e2 e3
  exact .inl ⟨hneg,rfl,hinv.more hB0⟩
 right
 obtain ⟨f',tS',tE',pB',b1,M,b3,d,u,b4,b5,b6⟩:=zp9 ty x5 x3 (zaW (ρ:=st.slot) Z g) t2
 have hev0:a.eval g=.func (.func f) #[] #[.pointer (some c.pB)]:=by rw [ea];exact zEz hg (by simp [undef])
 rw [hev0] at M
 injection M with M _ b7
 injection M with M
 subst M
 have b7:c.pB=pB':=by grind
 subst b7
 rw [hbk] at b1
 injection b1 with b1
 injection b1 with b1 b8
 subst b1 b8
 rw [he0] at b3
 injection b3 with b3
 subst b3
 have b4':=At.get_app (F:=[.bool false]) b4
 rw [x1,u1] at b4'
 injection b4' with b4'
 subst b4'
 rcases b6 with ⟨e1,_⟩|⟨l,A,cap,e1,e2,b6⟩
 ·grind [Prim.run]
 subst e1 e2
 simp only [Prim.run,if_pos hpos] at u2
 obtain ⟨v,v1,v2⟩:=b6 _ _ u2
 refine ⟨hpos,A,l.length,cap,v,by grind,?_,by grind,?_⟩
 ·have:=(List.getElem?_eq_some_iff.1 u2).1
  omega
 obtain ⟨y1,y2⟩:=x5.moreE hB (E':=E++[.bool false,el]) (fun j d hj=>by rw [x1] at hj;exact get_app hj)
 obtain ⟨X2,N⟩:∃ X2:Ctx,{ X with E:=E++[D.bool false,el] }=X2:=⟨_,rfl⟩
 rw [N] at y1 y2
 have X2E:X2.E=E++[.bool false,el]:=by rw [← N]
 have X2w:X2.w=X.w:=by rw [← N]
 obtain ⟨p1,p2⟩:=zoI (n:=st.slots.length - 1) (X:=X2) (i:=.int .i64 zi) (ds:=c.dfs) hlen hn (fun t=>by have:=VRep.ext y1 (Z t);rw [ea] at this;exact this)
 have hzE:(At.v (st.nv + 1)).get X2.E=some el:=by rw [X2E];simp [At.get,← hE]
 obtain ⟨p3,p4,p5⟩:=zyd (X:=X2) (a:=⟨c.t0,[]⟩) p1 p2 (some p) (s:=.d (.int .i64) ia) (v:=.int .i64 zi) (VRep.data.2 ⟨_,by grind [At.get_app],DVal.of_int _ _⟩)
 obtain ⟨p6,p7,p8⟩:=zyd (X:=X2) p3 p5 (some q) (s:=.d e0 (.v (st.nv + 1))) (v:=v) (by
  obtain ⟨d,hd,hdv⟩:=VRep.data.1 (VRep.ext y1 v2)
  injection hd with hd
  subst hd
  exact VRep.data.2 ⟨_,hzE,hdv⟩)
 have hst:c.start zi v=((⟨c.t0,[]⟩:Act).put (some p) (.int .i64 zi)).put (some q) v:=by
  unfold RC.start
  rw [zJD t3]
  simp [Act.put]
 have i1:InvS B0 X2.w X2 (st.start ia e0 p q) (E++[.bool false,el]) (c.start zi v) X2.w:=by
  refine ⟨X2,X2E,rfl,by rw [← N];exact x3,fun r=>by rw [← N];exact x4 r,y2,Ext.refl _,Below.refl _ _,?_,?_,?_⟩
  ·rw [hst];exact p6
  ·rw [hst,p7,p4];exact Marks.none
  ·rw [hst];exact p8
 have hA2:∀ r,X2.A r→r<st.mem.length:=fun r hr=>by rw [← N] at hr;exact (x4 r).1 hr
 have w1:=g1 (ro:=some c.l) (by rw [X2w];exact hB) hA2 (st.start ia e0 p q) _ _ _ _ _ _ u3 (by simp [St.start,hE]) rfl i1
 have hlt:c.l<X2.w.heap.size:=by rw [X2w];exact lt_of_heap hr
 have hr2:X2.w.heap[c.l]?=some (c.obj .ready none):=by rw [X2w];exact hr
 unfold RC.round
 rw [hP,hx,hy,← X2w]
 refine wpIn_mono w1 fun ex a1 w1 hq=>?_
 obtain ⟨hex,hi1⟩:=hq
 subst hex
 obtain ⟨X3,k1,k2,k3,k4,k5,k6,k7,k8,k9,k10⟩:=hi1
 subst k2
 have hr3:X3.w.heap[c.l]?=some (c.obj .ready none):=(k6.K.heap _ hlt (y2.not_own hlB hr2 zcC)).trans hr2
 refine ⟨hr3,?_⟩
 have hB3:B0≤X3.w.heap.size:=Nat.le_trans (by rw [X2w];exact hB) k7.size
 obtain ⟨m1,m2⟩:=k5.turn (zeJ (o':=c.obj .busy none) hr3 zcC zcC)
 obtain ⟨X4,eX4⟩:∃ X4,{ X3 with w:=X3.w.putObj c.l (c.obj .busy none) }=X4:=⟨_,rfl⟩
 rw [eX4] at m1 m2
 have X4w:X4.w=X3.w.putObj c.l (c.obj .busy none):=by rw [← eX4]
 have hr4:X4.w.heap[c.l]?=some (c.obj .busy none):=by rw [X4w];exact World.putObj_heap_same (lt_of_heap hr3)
 have i2:InvS B0 X2.w X4 { s with base:=s.mem.length } (E++[.bool false,el]++F1) a1 X4.w:=by
  refine ⟨X4,by rw [← eX4];exact k1,rfl,by rw [← eX4];exact k3,fun r=>by rw [← eX4];exact k4 r,m2,Ext.refl _,?_,k8,?_,fun t=>VRep.extC m1 (k10 t)⟩
  ·rw [X4w];exact zfR k7 hlB
  ·rw [X4w];exact k9.turn hr3 zyE
 have hA4:∀ r,X4.A r→r<s.mem.length:=fun r hr=>by rw [← eX4] at hr;exact (k4 r).1 hr
 have w2:=g2 (ro:=some c.l) (by omega) hA4 { s with base:=s.mem.length } _ _ _ _ _ _ u5 u4 rfl i2
 rw [← X4w]
 refine wpIn_mono w2 fun ex2 a2 w2 hq=>?_
 obtain ⟨hex2,hi2⟩:=hq
 obtain ⟨X5,n1,n2,n3,n4,n5,n6,n7,n8,n9,n10⟩:=hi2
 subst n2
 have hlt4:c.l<X4.w.heap.size:=lt_of_heap hr4
 have hr5  := (n6.K.heap _ hlt4 (m2.not_own hlB hr4 zcC)).trans hr4
 have hB5:B0≤X5.w.heap.size:=Nat.le_trans (by rw [X2w];exact hB) n7.size
 refine ⟨hr5,?_⟩
 have z3:Ext Xe X3:=(x6.trans y1).trans k6
 have z4:Ext Xe X4:=by rw [← eX4];exact z3.turned k5 (zeJ hr3 zcC zcC) hl
 have last:∀ (o':Obj) (U:List D) (sl:List SV) (j:Int),¬ Held o'→(∀ (i:Nat) (d:D),X5.E[i]?=some d→U[i]?=some d) →
   (∀ W:Ctx,ExtC X W→W.E=U→(c.t0.push (.int .i64 j)).size=sl.length∧∀ t,VRep W ((sl[t]?).getD (.un 1)) ((c.t0.push (.int .i64 j)).getD t undef))→∀ nv,InvS B0 w0 Xe ⟨nv,st.base,sl,s'.mem⟩ U (c.act j) (X5.w.putObj c.l o'):=by
  intro o' U sl j ho hE2 hsl nv
  obtain ⟨r1,r2⟩:=carry (E':=U) hB5 (((y1.trans k6).c.trans m1).trans n6.c) n5 hr5 zcC ho hE2
  obtain ⟨r3,r4⟩:=hsl _ r1 rfl
  exact ⟨{ X5 with w:=X5.w.putObj c.l o',E:=U },rfl,rfl,n3,n4,r2,(z4.trans n6).carry hB5 n5 hr5 zcC ho hl hE2,zfR (x7.trans (by rw [← X2w];exact n7)) hlB,r3,(Marks.ext m2 n6 (by rw [X4w];exact (Marks.ext y2 k6 (by rw [X2w];have:=x9;rw [ea] at this;exact this)).turn hr3 zyE)).turn hr5 zyE,r4⟩
 rcases hend with ⟨e1,hr0⟩|⟨id,e1,hr0⟩
 ·subst e1
  subst hex2
  injection hr0 with e1 e2 e3
  subst e1 e2 e3
  refine ⟨rfl,last _ _ _ _ zcC (fun j d hj=>by rw [n1] at hj;exact get_app hj) (fun W hx6 hE6=>?_) _⟩
  obtain ⟨p1,p2⟩:=zoI (n:=st.slots.length - 1) (X:=W) (i:=.int .i64 zi) (ds:=c.dfs) hlen hn (fun t=>by have:=VRep.extC hx6 (Z t);rw [ea] at this;exact this)
  refine zz3 p1 p2 (VRep.data.2 ⟨.int .i64 (IntKind.i64.wrap (zi - 1)),?_,DVal.of_int _ _⟩)
  rw [hE6]
  simp only [At.get,← u6]
  rw [List.getElem?_append_right (wG0 _)]
  simp
 ·subst e1
  subst hex2
  injection hr0 with e1 e2 e3
  subst e1 e2 e3
  refine ⟨rfl,last _ _ _ _ zcC (fun j d hj=>by rw [n1] at hj;exact hj) (fun W hx6 _=>⟨?_,fun t=>?_⟩) _⟩
  ·simp [hlen]
  ·have:=VRep.extC hx6 (Z t);rw [ea] at this;exact this
theorem ztD:∀ {l c:List Nat},l.map mkD=c.map mkD→l=c
 | [],[],_=>rfl
 | a::l,b::c,h=>by
  simp  at h
  have e:a=b:=by grind [mkD]
  rw [e,ztD h.2]
 | [],_::_,h=>by grind
 | _::_,[],h=>by grind
theorem zBG (ty:TysOk cx) (hB0:B0≤w0.heap.size) (hsz:Xe.w.heap.size≤w0.heap.size) {base}(hXA:∀ r,Xe.A r→r<base) {x y ex1 ex2}(s2:∀ st,(ex2 st).shut 0=true) (sh1:zhh C k ex1) (sh2:zhh C k ex2) (g1:Does cx C k x ex1) (g2:Does cx C k y ex2)
  {m g ps st E a w z st' E'} (hps:ps.size=2) (h:ev C k (ztG cx ex1 ex2 m g ps.toList st) E=some (.fin z st' E')) (hE:E.length=st.nv) (hb:st.base=base) (hinv:InvS B0 w0 Xe st E a w) :
  (Code.rangeFunc g ps x y).wpIn (FR none) 0 cx.P (zdW B0 w0 Xe z st' E') a w:=by
 obtain ⟨e,at_,d0,n0,zx,s,F,t1,t2,t3,t4,t5,t6,hend⟩:=zAi s2 sh1 sh2 h hE
 obtain ⟨X,x1,x2,x3,x4,x5,x6,x7,x8,x9,x10⟩:=id hinv
 subst x2
 obtain ⟨t0,ds⟩:=a
 have hB:B0≤X.w.heap.size:=Nat.le_trans hB0 x7.size
 obtain ⟨f,tS,tE,pB,b1,b2,b3,_⟩:=zp9 ty x5 x3 (zaW (ρ:=st.slot) x10 g) t1
 obtain ⟨fn,r0,r1,r2,r3,c0,c1,o0,o1,o2,o3,ti,tb,ts,hf⟩:=ty.bk _ (zwa b1)
 simp only at hf
 obtain ⟨Et,inf,hu,tf⟩:=zbC ty b3
 refine zIQ (pB:=pB) (sz:=e.size) hf hu b2 fun i=>?_
 obtain ⟨c,ec⟩:∃ c:RC,c=⟨cx.P,i,t0,mkD X.w.heap.size::ds,ps,x,y,X.w.heap.size,X.w.heap.size + 1,pB,tS,tE,e.size⟩:=⟨_,rfl⟩
 rw [← ec]
 have hct:c.t0=t0:=by grind
 have hcd:c.dfs=mkD X.w.heap.size::ds:=by grind
 have hcl:c.l=X.w.heap.size + 1:=by grind
 have hcP:c.P=cx.P:=by grind
 have hcp:c.ps=ps:=by grind
 have hbe:Below X.w.heap.size X.w ((X.w.alloc (.deferred (some []))).alloc (c.obj .ready none)):=((Below.refl _ X.w).alloc (wG0 _) _).alloc (by simp) _
 obtain ⟨y1,y2⟩:=x5.world hB hbe
 obtain ⟨w1,ew1⟩:∃ w1,(X.w.alloc (.deferred (some []))).alloc (c.obj .ready none)=w1:=⟨_,rfl⟩
 simp only
 rw [ew1] at y1 y2 hbe ⊢
 have hD1:w1.heap[X.w.heap.size]?=some (.deferred (some [])):=by grind [Below.heap_alloc,World.alloc_heap_new]
 have hl0:w0.heap.size≤c.l:=by rw [hcl];exact Nat.le_succ_of_le x7.size
 have hlX:Xe.w.heap.size≤c.l:=Nat.le_trans hsz hl0
 have hlB:B0≤c.l:=Nat.le_trans hB0 hl0
 obtain ⟨f',tS',tE',pB',b1',b2',_,d,u,b4,b5,b6⟩:=zp9 ty y2 (st:=st) x3 (VRep.ext y1 (zaW (ρ:=st.slot) x10 g)) t1
 rw [b2] at b2'
 injection b2' with b2' _ b7
 injection b2' with b2'
 subst b2'
 have b7:pB=pB':=by grind
 subst b7
 rw [b1] at b1'
 injection b1' with b1'
 injection b1' with b1' b8
 subst b1' b8
 have b4:at_.get E=some d:=by grind
 rw [t2] at b4
 injection b4 with b4
 subst b4
 have hlen:∃ (A:Option Addr) (n kk:Nat),u=.slice A n kk∧n0=n:=by grind [Prim.run]
 obtain ⟨A,n,kk,eu,en⟩:=hlen
 subst eu en
 refine ⟨A,n,kk,zdW B0 w0 Xe zx s (E++[D.int .i64 n,.int .i64 (IntKind.i64.wrap (n - 1))]++F),b5,?_,?_,?_⟩
 ·
  obtain ⟨v1,v2⟩:=y2.moreE (E':=E++[D.int .i64 n,.int .i64 (IntKind.i64.wrap (n - 1))]) (Nat.le_trans hB hbe.size) (fun j d hj=>by simp_all [get_app])
  have hE2:(E++[D.int .i64 n,.int .i64 (IntKind.i64.wrap (n - 1))]).length=st.nv + 2:=by simp [hE]
  have hR:zwH c.b (c.l_ c0 (zgo r1 r2 r3 c0 c1 o1 o2 o3)):=zBD (by rw [hcP,ec];exact hf) (by rw [hcP,ec];exact hu) (by rw [hcP];exact tf.info) (by rw [ec];exact tf.size) (by rw [hcp];exact hps)
  have hgc:(⟨c.t0,c.dfs⟩:Act).eval g=.func (.func f) #[] #[.pointer (some c.pB)]:=by
   rw [hct,show c.pB=pB by rw [ec],← b2]
   rfl
  have hbs:∀ st E a w z st' E',ev C k (zkQ cx ex1 ex2 g ps.toList st) E=some (.fin z st' E')→E.length=st.nv→st.base=base→InvS B0 w0 Xe st E a w→c.b.go (zdW B0 w0 Xe z st' E') a w:=fun st E a w z st' E' h1 h2 _ h4 =>
   zBS ty hB0 s2 sh1 sh2 g1 g2 hcP (by grind) (by rw [ec]) hgc (by rw [ec];exact b1) (by rw [ec];exact b3) (by rw [ec]) hlX hlB hl0 st E a w z st' E' (by rw [hcp];exact h1) h2 h4
  have hsh:zhh C k (zkQ cx ex1 ex2 g ps.toList):=zqZ s2 sh1 sh2
  refine ztL (C:=C) (k:=k) (hd:=cx.hd) (m:=Nat.lor (zB1 st.slots.length) m) (body:=zkQ cx ex1 ex2 g ps.toList) (st:=⟨st.nv + 2,st.base,st.slots++[.d (.int .i64) (.v (st.nv + 1))],st.mem⟩) (E:=E++[D.int .i64 n,.int .i64 (IntKind.i64.wrap (n - 1))]) hB0 hR hXA hsh hbs hE2 hb (h:=?hh) (hinv:=?_)
  case hh=>exact t4
  ·have hi:(At.v (st.nv + 1)).get (E++[D.int .i64 n,.int .i64 (IntKind.i64.wrap (n - 1))])=some (.int .i64 (IntKind.i64.wrap (n - 1))):=by simp [At.get,← hE]
   obtain ⟨p1,p2⟩:=zz3 (X:={ X with w:=w1,E:=E++[D.int .i64 n,.int .i64 (IntKind.i64.wrap (n - 1))] }) (s:=.d (.int .i64) (.v (st.nv + 1))) (i:=.int .i64 (IntKind.i64.wrap (n - 1))) x8 (fun t=>VRep.ext (y1.trans v1) (x10 t))
    (VRep.data.2 ⟨_,hi,DVal.of_int _ _⟩)
   refine ⟨{ X with w:=w1,E:=E++[D.int .i64 n,.int .i64 (IntKind.i64.wrap (n - 1))] },rfl,rfl,x3,x4,v2,(x6.trans y1).trans v1,x7.trans (hbe.mono hB),by rw [← hct] at p1;exact p1,?_,by rw [← hct] at p2;exact p2⟩
   obtain ⟨rs,g1,g2,g3⟩:=Marks.ext (X':={ X with w:=w1 }) x5 y1 x9
   have:(c.act (IntKind.i64.wrap (n - 1))).defers=mkD X.w.heap.size::ds:=hcd
   rw [this]
   refine ⟨X.w.heap.size::rs,by rw [vM0,← g1],List.nodup_cons.2 ⟨fun hm=>?_,g2⟩,fun r hr=>?_⟩
   ·obtain ⟨rs',h1,_,h3⟩:=x9
    have:=ztD (h1.symm.trans g1)
    subst this
    have:=lt_of_heap (h3 _ hm).2.2
    omega
   ·rcases List.mem_cons.1 hr with hr|hr
    ·subst hr
     exact ⟨hB,x7.size,hD1⟩
    ·exact g3 r hr
 ·
  intro j w' hR hr
  obtain ⟨hx,hi⟩:=hR
  rcases hend with ⟨e1,hr0⟩|⟨id,e1,_⟩
  ·subst e1
   injection hr0 with e1 e2 e3
   subst e1 e2 e3
   refine ⟨rfl,?_⟩
   obtain ⟨Y,k1,k2,k3,k4,k5,k6,k7,k8,k9,k10⟩:=hi
   subst k2
   have hBY:B0≤Y.w.heap.size:=Nat.le_trans hB0 k7.size
   obtain ⟨q1,q2⟩:=carry (o':=c.obj .exhausted none) (E':=Y.E) hBY (Ext.refl Y).c k5 hr zcC zcC (fun _ _ h=>h)
   have hsl:s.slots.length=c.t0.size + 1:=by rw [← k8];simp [RC.act]
   obtain ⟨p1,p2⟩:=zoI (n:=s.slots.length - 1) (i:=.int .i64 j) (ds:=c.dfs) hsl (by omega) (fun t=>VRep.extC q1 (k10 t))
   exact ⟨{ Y with w:=Y.w.putObj c.l (c.obj .exhausted none),E:=Y.E },k1,rfl,k3,k4,q2,k6.carry hBY k5 hr zcC zcC hlX (fun _ _ h=>h),zfR k7 hlB,by rw [← hct];exact p1,k9.turn hr zyE,by rw [← hct];exact p2⟩
  ·subst e1
   cases hx
 ·
  intro id j w' hR hr
  obtain ⟨hx,hi⟩:=hR
  rcases hend with ⟨e1,_⟩|⟨id',e1,hr0⟩
  ·subst e1
   cases hx
  ·subst e1
   injection hr0 with e1 e2 e3
   subst e1 e2 e3
   refine ⟨hx,?_⟩
   obtain ⟨Y,k1,k2,k3,k4,k5,k6,k7,k8,k9,k10⟩:=hi
   subst k2
   have hBY:B0≤Y.w.heap.size:=Nat.le_trans hB0 k7.size
   obtain ⟨q1,q2⟩:=carry (o':=c.obj .exhausted (some (.exit id))) (E':=Y.E) hBY (Ext.refl Y).c k5 hr zcC zcC (fun _ _ h=>h)
   have hsl:s.slots.length=c.t0.size + 1:=by rw [← k8];simp [RC.act]
   obtain ⟨p1,p2⟩:=zoI (n:=s.slots.length - 1) (i:=.int .i64 j) (ds:=c.dfs) hsl (by omega) (fun t=>VRep.extC q1 (k10 t))
   exact ⟨{ Y with w:=Y.w.putObj c.l (c.obj .exhausted (some (.exit id))),E:=Y.E },k1,rfl,k3,k4,q2,k6.carry hBY k5 hr zcC zcC hlX (fun _ _ h=>h),zfR k7 hlB,by rw [← hct];exact p1,k9.turn hr zyE,by rw [← hct];exact p2⟩
end
end Go.SX
namespace Go.SX
open Go.RowKit (Below)
section
variable {C:FuncId→List D→Option (List D)} {k B0:Nat} {w0:World} {Xe:Ctx} {cx:Cx} {inl:FuncId→List SV→Nat→List Root→Option Inl}
def Framed (ro:Option Nat) (w0:World) (Xe:Ctx) (c:Code):Prop:=(ro=none∧Xe.w.heap.size≤w0.heap.size)∨zfk c=true
theorem Framed.l {c d e a b}(h:(c=none∧e.w.heap.size≤d.heap.size)∨(zfk a&&zfk b)=true):Framed c d e a:=h.imp id fun h=>(Bool.and_eq_true_iff.1 h).1
theorem Framed.r {c d e a b}(h:(c=none∧e.w.heap.size≤d.heap.size)∨(zfk a&&zfk b)=true):Framed c d e b:=h.imp id fun h=>(Bool.and_eq_true_iff.1 h).2
theorem zcY (H:TysOk cx) (L:CallsOk cx C) (M:InlOk cx C k inl) (hmix:cx.P.follows .mixedOrders=true) :
  ∀ (c) {ro} {K} {B} {A} {base} (_:Framed ro B A c) (_:K≤B.heap.size) (_:∀ r,A.A r→r<base) (m) (f) (E) (a) (w) (x) (n) (o),ev C k (exec cx inl m c f) E=some (.fin x n o)→E.length=f.nv→f.base=base→InvS K B A f E a w→c.wpIn (FR ro) 0 cx.P (zdW K B A x n o) a w
 | .skip,ro,K,B,A,base,u,l,q,m,f,E,a,w,x,n,o,h,i,p,j=>by
  simp only [exec,ev,wB0] at h
  injection h with P t s
  subst P t s
  exact wpIn_skip ⟨rfl,j⟩
 | .label _,ro,K,B,A,base,u,l,q,m,f,E,a,w,x,n,o,h,i,p,j=>by
  simp only [exec,ev,wB0] at h
  injection h with P t s
  subst P t s
  exact wpIn_label ⟨rfl,j⟩
 | .exit id,ro,K,B,A,base,u,l,q,m,f,E,a,w,x,n,o,h,i,p,j=>by
  simp only [exec,ev,wB0] at h
  injection h with P t s
  subst P t s
  exact wpIn_exit ⟨rfl,j⟩
 | .ret,ro,K,B,A,base,u,l,q,m,f,E,a,w,x,n,o,h,i,p,j=>by
  simp only [exec,ev,wB0] at h
  injection h with P t s
  subst P t s
  exact wpIn_ret ⟨rfl,j⟩
 | .region id ops draw,ro,K,B,A,base,u,l,q,m,f,E,a,w,x,n,o,h,i,p,j=>by
  obtain ⟨x',st1,F,e,t,s⟩:=zbt _ _ _ _ _ h i
  injection e with J I q3
  subst J I q3
  simp only [exec] at h
  split at h
  ·grind [ev]
  ·rename_i hed
   have hs:∀ r,ev C k (zfb cx inl draw ops.toList (if draw=true then beforeL ops.toList [] else []) ops.toList 0 f [] []) E=some r→Shape E f.base r:=fun r v=>by
    obtain ⟨stf,F,es,P,t,s,_⟩:=zgX v i (fun a b hm=>by grind)
    exact ⟨.normal,stf,F,P,t,s.all.2.2.2.2.2⟩
   refine znF (c:=cpc ro cx.P _) l (base:=f.base) i j.pre (fun r v=>by grind) hs (fun y st1 F1 v=>?_) h
   obtain ⟨stf,F2,es,P,t,s,e4⟩:=zgX v i (fun a b hm=>by grind)
   injection P with p1 p2 Q
   subst p1 p2
   have Q:=List.append_cancel_left Q
   subst Q
   cases draw with
   | false=>exact wpIn_region (zBr H L M l s (fun a w h=>⟨rfl,h⟩) (j.more l))
   | true =>
    simp  at e4
    refine wpIn_region_any hmix (zEd H L M l s e4 ?_ (fun a w h=>⟨rfl,h⟩) ((j.more l).drew l))
    grind
 | .seq c1 c2,ro,K,B,A,base,u,l,q,m,f,E,a,w,x,n,o,h,i,p,j=>by
  simp only [exec] at h
  obtain ⟨r0,J,I⟩:=zlL (fun f E r v=>zxc (zcH c2 _ f) v) h
  obtain ⟨y,st1,F,e,t,s⟩:=zbt c1 _ f E r0 J i
  subst e
  refine wpIn_seq (wpIn_mono (zcY H L M hmix c1 (Framed.l u) l q _ f E a w _ _ _ J i p j) fun e a' w' ⟨he,hinv'⟩=>?_)
  subst he
  cases y with
  | normal=>exact zcY H L M hmix c2 (Framed.r u) l q _ st1 _ a' w' _ _ _ I t (by omega) hinv'
  | exit id =>
   injection I with p1 p2 Q
   subst p1 p2 Q
   exact ⟨rfl,hinv'⟩
  | ret =>
   injection I with p1 p2 Q
   subst p1 p2 Q
   exact ⟨rfl,hinv'⟩
 | .cond c c1 c2,ro,K,B,A,base,u,l,q,m,f,E,a,w,x,n,o,h,i,p,j=>by
  obtain ⟨x',st1,F,e,t,s⟩:=zbt _ _ _ _ _ h i
  injection e with J I q3
  subst J I q3
  obtain ⟨X,x1,x2,x3,x4,x5,x6,x7,x8,x9,x10⟩:=id j
  have hv:=zch (zaW (ρ:=f.slot) x10 c)
  simp only [exec] at h
  split at h
  ·rename_i hc
   rw [hc] at hv
   obtain ⟨d,hd,hdv⟩:=VRep.data.1 hv
   simp [At.get] at hd
   subst hd
   obtain ⟨b',G,N⟩:=hdv.bool
   injection G with G
   subst G
   exact wpIn_cond_true N (zcY H L M hmix c1 (Framed.l u) l q _ f E a w _ _ _ h i p j)
  ·rename_i hc
   rw [hc] at hv
   obtain ⟨d,hd,hdv⟩:=VRep.data.1 hv
   simp [At.get] at hd
   subst hd
   obtain ⟨b',G,N⟩:=hdv.bool
   injection G with G
   subst G
   exact wpIn_cond_false N (zcY H L M hmix c2 (Framed.r u) l q _ f E a w _ _ _ h i p j)
  ·rename_i at_ _ _ hc
   rw [hc] at hv
   obtain ⟨d,hd,hdv⟩:=VRep.data.1 hv
   obtain ⟨b',G,N⟩:=hdv.bool
   subst G
   rw [x1] at hd
   refine znF (c:=cpc ro cx.P _) l (base:=f.base) i j.pre (fun r v=>by grind) (fun r v=>by grind [ev,zbt]) (fun y st1 F1 v=>?_) h
   simp only [ev,hd] at v
   cases b' with
   | true=>exact wpIn_cond_true N (zcY H L M hmix c1 (Framed.l u) l q _ f E a w _ _ _ v i p j)
   | false=>exact wpIn_cond_false N (zcY H L M hmix c2 (Framed.r u) l q _ f E a w _ _ _ v i p j)
  grind [ev]
 | .block id b,ro,K,B,A,base,u,l,q,m,f,E,a,w,x,n,o,h,i,p,j=>by
  obtain ⟨x',st1,F,e,t,s⟩:=zbt _ _ _ _ _ h i
  injection e with J I q3
  subst J I q3
  have hs:∀ r,ev C k ((exec cx inl m b f).ends fun|.exit id'=>if Nat.beq id id' then .normal else .exit id'|x=>x) E=some r→Shape E f.base r:=fun r v=>by
   obtain ⟨r0,J,I⟩:=zxM v
   obtain ⟨x,n,F,e,t,s⟩:=zbt b _ f E r0 J i
   subst e
   exact ⟨_,n,F,I,t,s⟩
  refine znF (c:=cpc ro cx.P _) l (base:=f.base) i j.pre (fun r v=>by grind) hs (fun y st1 F1 v=>?_) h
  obtain ⟨r0,J,I⟩:=zxM v
  obtain ⟨z,st2,F2,e,t,s⟩:=zbt b _ f E r0 J i
  subst e
  injection I with p1 p2 Q
  subst p1 p2
  have Q:=List.append_cancel_left Q
  subst Q
  refine wpIn_block (wpIn_mono (zcY H L M hmix b u l q _ f E a w _ _ _ J i p j) fun e a' w' ⟨he,hinv'⟩=>?_)
  subst he
  cases z with
  | normal=>exact ⟨rfl,hinv'⟩
  | ret=>exact ⟨rfl,hinv'⟩
  | exit id' =>
   simp only [exOf,Exit.inBlock]
   by_cases hid:id'=id
   ·subst hid
    rw [if_pos rfl,if_pos (Nat.beq_refl _)]
    exact ⟨rfl,hinv'⟩
   ·rw [if_neg hid,if_neg (fun hq=>hid (zbv hq).symm)]
    exact ⟨rfl,hinv'⟩
 | .loop b,ro,K,B,A,base,u,l,q,m,f,E,a,w,x,n,o,h,i,p,j=>by
  exact zF1 (ztL l (zDY ro cx.P b) q (fun f E r=>zbt b _ f E r) (fun f E a w x n o G N h3 h4=>zcY H L M hmix b u l q _ f E a w x n o G N h3 h4) i p h j)
 | .rangeFunc g ps x y,ro,K,B,A,base,u,l,q,m,f,E,a,w,z,n,o,h,i,p,j=>by
  simp only [exec] at h
  split at h
  ·rename_i hc
   simp only [wD0] at hc
   obtain ⟨⟨n1,n2⟩,n3⟩:=hc
   obtain ⟨rfl,hsz⟩:ro=none∧A.w.heap.size≤B.heap.size:=u.elim id fun h=>by cases h
   exact zBG H l hsz q (fun f=>zcH y _ f) (fun f E r=>zbt x _ f E r) (fun f E r=>zbt y _ f E r)
    (fun hB hA f E a w z n o G N h3 h4=>zcY H L M hmix x (.inr n1) hB hA _ f E a w z n o G N h3 h4) (fun hB hA f E a w z n o G N h3 h4=>zcY H L M hmix y (.inr n2) hB hA _ f E a w z n o G N h3 h4) (zbv n3) h i p j
  grind [ev]
 | .scope _,_,_,_,_,_,_,_,_,m,f,E,a,w,x,n,o,h,i,p,j=>by grind [exec,ev]
 | .goto _,_,_,_,_,_,_,_,_,m,f,E,a,w,x,n,o,h,i,p,j=>by grind [exec,ev]
 | .refuse _,_,_,_,_,_,_,_,_,m,f,E,a,w,x,n,o,h,i,p,j=>by grind [exec,ev]
end
end Go.SX
namespace Go.SX
open Go.RowKit (Below)
section
variable {C:FuncId→List D→Option (List D)} {k B0:Nat} {X:Ctx} {cx:Cx}
theorem zCm {X}:∀ {l}{a},a.length=l.length→(∀ t,t<l.length→VRep X ((l[t]?).getD (.un 1)) ((a[t]?).getD undef))→VRepL X l a
 | [],a,b,_=>by grind [VRepL]
 | s::l,[],b,_=>by grind
 | s::l,v::r,b,h=>by
  refine ⟨v,r,rfl,by simpa using h 0 (by simp),zCm (by grind) fun t ht=>?_⟩
  have:=h (t + 1) (by grind)
  grind
theorem zFW {X}{fn:Func}{a b}(h:VRepL X a b.toList) :
  (b++Array.replicate (fn.ntmps - b.size) undef).size=(a++List.replicate (fn.ntmps - a.length) (SV.un 1)).length ∧
   ∀ t,VRep X (((a++List.replicate (fn.ntmps - a.length) (SV.un 1))[t]?).getD (.un 1)) ((b++Array.replicate (fn.ntmps - b.size) undef).getD t undef):=by
 have hl  := by simpa using VRepL.length h
 refine ⟨by grind,fun t=>?_⟩
 rcases vS0 t a.length with c|hge
 ·rw [List.getElem?_append_left c,wF0 c]
  obtain ⟨v,e,hv⟩:=h.get (wF0 c)
  simp_all [Array.getElem?_append_left]
 grind [VRep]
def zAp (tmps:Array Value):ResultVar→Sem Value
 | .tmp t=>pure (tmps.getD t undef)
 | .cell a t=>do loadVar t (← asAddr (tmps.getD a undef))
theorem zEG (j:TysOk cx) {X}{a:St}{e}(m:Mem B0 X) (q:X.μ=a.root) (i:∀ t,VRep X (a.slot t) (e.getD t undef)) {r s}(h:zC4 cx a r=some s) :
  ∃ v,(zAp e r).run cx.P X.w=.ok v X.w∧VRep X s v:=by
 cases r with
 | tmp t =>
  simp [zC4] at h
  subst h
  simp_all [zAp]
 | cell t ty' =>
  simp only [zC4] at h
  split at h
  ·rename_i R T r l
   split at h
   ·rename_i c
    simp  at c
    have n:=Ty.beq_eq c.1
    subst n
    split at h
    ·rename_i v nv up ab o p
     have f:=i t
     rw [l] at f
     obtain ⟨w,b,off,p1,x,y,z⟩:=f
     obtain ⟨_,_,A,cs,B,g⟩:=zuf (C:=fun _ _=>none) (k:=0) m rfl (by rw [q];exact ⟨o,p⟩) (by simp [Sat]) w x y z
     obtain ⟨u,hr,hu⟩:=zgS j rfl c.2 A B g
     grind [zAp,asAddr]
    grind
   grind
  grind
theorem zy3 (i:TysOk cx) {X}{b:St}{f}(m:Mem B0 X) (d:X.μ=b.root) (e:∀ t,VRep X (b.slot t) (f.getD t undef)):∀ {c}{l},zzN cx b c=some l →
  ∃ a,(c.mapM (zAp f)).run cx.P X.w=.ok a X.w∧VRepL X l a
 | [],l,h=>by simp_all [zzN,VRepL]
 | r::c,l,h=>by
  simp only [zzN] at h
  split at h
  ·grind
  ·rename_i s j
   split at h
   ·grind
   ·rename_i l' k
    obtain ⟨v,h1,h2⟩:=zEG i m d e j
    obtain ⟨a,h3,h4⟩:=zy3 i m d e k
    refine ⟨v::a,by simp_all,?_⟩
    grind [VRepL]
theorem InvS.res (o:TysOk cx) {g j c d E a w}(h:InvS B0 g j d E a w) {l}(p:zeM cx c d=some l) :
  ∃ b:List Value,(results c a.tmps).run cx.P w=.ok (zqF b) w∧InvS B0 g j { d with slots:=l } E { tmps:=b.toArray,defers:=[] } w:=by
 obtain ⟨X,H,i,m,q,k,y,z,x8,x9,A⟩:=h
 obtain ⟨b,B,F⟩:=zy3 o k m A p
 refine ⟨b,?_,X,H,i,m,q,k,y,z,by grind [VRepL.length],Marks.none,fun t=>?_⟩
 ·have G:c.results=c.results.toList.toArray:=by simp
  rw [← i]
  have e:results c a.tmps=(do
    let b←c.results.mapM (zAp a.tmps)
    pure (if h:b.size=1 then b[0] else .tuple b)):=rfl
  rw [e,G]
  simp only [List.mapM_toArray]
  simp [B]
  match b with
  | []=>rfl
  | [u]=>rfl
  | u::v::r=>rfl
 ·cases n:l[t]? with
  | none =>
   simp [VRep]
  | some s =>
   obtain ⟨v,e,hv⟩:=F.get n
   simp_all
theorem InvS.vals {d b st E a w}(h:InvS B0 d b st E { tmps:=a.toArray,defers:=[] } w) :
  ∃ X:Ctx,X.E=E∧X.w=w∧X.μ=st.root∧(∀ r,X.A r↔r<st.mem.length)∧Mem B0 X∧Ext b X∧Below B0 d w∧VRepL X st.slots a:=by
 obtain ⟨X,e,f,g,i,j,k,l,x8,x9,m⟩:=h
 refine ⟨X,e,f,g,i,j,k,l,zCm (by omega) fun t ht=>?_⟩
 have:=m t
 simp_all
theorem zm7 {b a E r}(h:ev C k (ztF cx b a) E=some r):∃ l,zeM cx b a=some l∧r=.fin .normal { a with slots:=l } E:=by grind [ztF,ev]
theorem zzj {d f c st E}(l:E.length=st.nv) {b}(h:ev C k ((exec cx f d c st).ends retN) E=some b) :
  ∃ x a F,ev C k (exec cx f d c st) E=some (.fin x a (E++F))∧b=.fin (retN x) a (E++F)∧(E++F).length=a.nv∧a.base=st.base:=by
 obtain ⟨m,g,n⟩:=zxM h
 obtain ⟨x,a,F,e,o,i⟩:=zbt c _ st E m g l
 subst e
 exact ⟨x,a,F,g,n,o,i⟩
theorem ztv (i:TysOk cx) {c d}(n:d.w.heap.size≤c.heap.size) {j f E k}(o:zeM cx j f=some k) {t}:∀ (a:List Nat) {w},InvS B0 c d f E { tmps:=t,defers:=a.map mkD } w →
  LeavesInM (FR none) 0 cx.P j t (fun e v=>∃ m:List Value,e=.returned (zqF m)∧InvS B0 c d { f with slots:=k } E { tmps:=m.toArray,defers:=[] } v) (a.map mkD) .returning w
 | [],w,h=>by
  obtain ⟨B,r1,u⟩:=InvS.res i h o
  exact ⟨_,r1,B,rfl,u⟩
 | r::a,w,h=>by
  obtain ⟨X,x,y,z,A,g,F,G,H,x9,x10⟩:=h
  subst y
  obtain ⟨rs',e,nd,hr⟩:=x9
  have e:=ztD e
  subst e
  obtain ⟨g1,g2,p⟩:=hr r (List.mem_cons_self ..)
  have b:=zeJ (o':=.deferred none) p zxT zxT
  refine ⟨by simp,.inl ⟨r,_,rfl,run_takeDeferred p,ztv i n o a ?_⟩⟩
  refine ⟨{ X with w:=X.w.putObj r (.deferred none) },x,rfl,z,A,(g.turn b).2,F.turned g b (Nat.le_trans n g2),zfR G g1,H,⟨a,rfl,(List.nodup_cons.1 nd).2,fun q hq=>?_⟩,fun t=>VRep.extC (g.turn b).1 (x10 t)⟩
  grind [World.putObj_heap_other]
theorem zwg {y v}(L:TysOk cx) (J:CallsOk cx C) (hI:InlOk cx C k v) (I:cx.P.follows .mixedOrders=true) {f a c}(z:cx.P.funcs[f]?=some a) (B:a.body=some c)
  {s t j} (K:X.E.length=t) (u:∀ r,X.A r↔r<j.length) (hμ:X.μ=zbg j) (m:Mem B0 X) (A:B0≤X.w.heap.size) {w} (G:VRepL X s w.toList)
  {x} (H:retN x=.normal) {b i} (h:ev C k (exec cx v y c (zpR a s t j)) X.E=some (.fin x b i)) {o} (hts:zeM cx a b=some o) :
  Calls cx.P f w X.w fun e d=>∃ g:List Value,e=.returned (zqF g)∧InvS B0 X.w X { b with slots:=o } i { tmps:=g.toArray,defers:=[] } d:=by
 refine (callsIn_wide (n:=0)).1 (callsIn_of_wp_marks (F:=FR none) z B trivial ?_)
 obtain ⟨e1,e2⟩:=zFW (fn:=a) G
 refine wpIn_mono (F:=FR none) (zcY L J hI I c (ro:=none) (.inl ⟨rfl,wG0 _⟩) A (base:=j.length) (fun r hr=>(u r).1 hr) _ _ X.E _ X.w x b i h K rfl (⟨X,rfl,rfl,hμ,u,m,Ext.refl _,Below.refl _ _,e1,Marks.none,e2⟩)) fun e p d ⟨he,hi⟩=>?_
 have q:LeavesInM (FR none) 0 cx.P a p.tmps (fun e d=>∃ g:List Value,e=.returned (zqF g)∧InvS B0 X.w X { b with slots:=o } i { tmps:=g.toArray,defers:=[] } d) p.defers .returning d:=by
  obtain ⟨tm,df⟩:=p
  obtain ⟨rs,e,_⟩:=(id hi).choose_spec.2.2.2.2.2.2.2.2.1
  simp_all [ztv]
 subst he
 cases x with
 | normal=>exact q
 | ret=>exact q
 | exit id=>cases H
theorem zHn {j m n c st E}(t:E.length=st.nv) {r}(h:ev C k (((exec cx m j c st).ends retN).andThen (ztF cx n)) E=some r) :
  (∃ id a q,r=.fin (.exit id) a q)∨∃ x a F b,retN x=.normal∧ev C k (exec cx m j c st) E=some (.fin x a (E++F))∧zeM cx n a=some b ∧
   r=.fin .normal { a with slots:=b } (E++F)∧(E++F).length=a.nv∧a.base=st.base:=by
 obtain ⟨r0,v,g⟩:=zlL (fun st E r s=>by
  obtain ⟨b,_,e⟩:=zm7 s
  subst e
  exact True.intro) h
 obtain ⟨x,a,F,l,u,o,p⟩:=zzj t v
 subst u
 cases x with
 | exit id=>exact .inl ⟨id,a,E++F,g⟩
 | normal =>
  obtain ⟨b,i,d⟩:=zm7 g
  exact .inr ⟨.normal,a,F,b,rfl,l,i,d,o,p⟩
 | ret =>
  obtain ⟨b,i,d⟩:=zm7 g
  exact .inr ⟨.ret,a,F,b,rfl,l,i,d,o,p⟩
theorem zDq {a f t}:∀ {T},zwm a t T→zwm (zvB a f) t T
 | .int _,h=>h
 | .bool,h=>h
 | .str,h=>h
 | .sl _,h=>h
 | .arr _ _,h=>h
 | .st _,h=>h
 | .no,h=>h
theorem TysOk.for_ {a}(b:TysOk a) (f):TysOk (zvB a f):=⟨fun t c=>by
 obtain ⟨i,h⟩:=b.ty t c
 exact ⟨i,⟨h.info,h.size,h.zero,h.known,zDq h.desc⟩⟩,b.bk⟩
theorem CallsOk.for_ {a}(b:CallsOk a C) (f):CallsOk (zvB a f) C:=b
theorem InlOk.for_ {b a}(c:InlOk b C k a) (f):InlOk (zvB b f) C k a:=c
def ztK (cx:Cx) (C:FuncId→List D→Option (List D)) (k:Nat) (f:FuncId) (args:List SV) (nv:Nat) (mem:List Root) (t:Tree):Prop :=
 ∀ (B0:Nat) (X:Ctx) (vals:Array Value),X.E.length=nv→(∀ r,X.A r↔r<mem.length)→X.μ=zbg mem→Mem B0 X→B0≤X.w.heap.size→VRepL X args vals.toList →
  ∀ r,ev C k t X.E=some r→(∃ id st' E',r=.fin (.exit id) st' E')∨∃ st' F,r=.fin .normal st' (X.E++F)∧(X.E++F).length=st'.nv∧st'.base=mem.length ∧
   Calls cx.P f vals X.w fun e w'=>∃ us:List Value,e=.returned (zqF us)∧InvS B0 X.w X st' (X.E++F) { tmps:=us.toArray,defers:=[] } w'
theorem zDO {mk i}(t:TysOk cx) (q:CallsOk cx C) (l:InlOk cx C k i) (n:cx.P.follows .mixedOrders=true) {f a c}(o:cx.P.funcs[f]?=some a) (p:a.body=some c)
  (b) (g) (d):ztK cx C k f b g d (((exec cx i mk c (zpR a b g d)).ends retN).andThen (ztF cx a)):=by
 intro B0 X vals j u v m w y r z
 rcases zHn (st:=zpR a b g d) j z with h|⟨x,st',F,ts,A,B,G,e,H,s⟩
 ·grind
 ·exact .inr ⟨_,F,e,H,s,zwg t q l n o p j u v m w y A B G⟩
theorem zGL {f y l g t J}(G:ztK cx C k f y l g t) {i}(a:zIL l g t J=some i) :
  ∀ (c) (X) (d),X.E.length=l→(∀ r,X.A r↔r<g.length)→X.μ=zbg g→Mem c X→c≤X.w.heap.size→VRepL X y d.toList →
   ∀ H j,ev C k i.t X.E=some (.jmp 0 H j)→j.length=i.m →
    Calls cx.P f d X.w fun e n=>∃ v,e=.returned v∧∃ b:Ctx,b.E=X.E++j∧b.w=n∧(∀ r,b.A r↔r<i.mem.length)∧b.μ=zbg i.mem∧Ext X b∧Mem c b∧Below c X.w n∧VRep b i.res v:=by
 intro c X d p z w m q B H j A hvs
 unfold zIL at a
 split at a
 ·injection a with a
  subst a
  rcases G c X d p z w m q B _ A with ⟨id,o,K,e⟩|⟨o,F,e,_⟩
  all_goals grind
 ·revert a
  simp only
  intro a
  split at a
  ·rename_i s
   injection a with a
   subst a
   simp  at s
   obtain ⟨r0,L,x⟩:=zek (zen _ _ _) A
   rcases G c X d p z w m q B _ L with ⟨id,o,K,e⟩|⟨o,F,e,h3,h4,hcalls⟩
   ·subst e
    cases x
   ·subst e
    obtain ⟨sg,bs,E1,vs',f1,f2,f3,u,f5,f6⟩:=znw x
    injection u with _ _ u
    subst u
    refine hcalls.mono fun e n ⟨us,he,a⟩=>?_
    obtain ⟨b,x1,x2,x3,x4,x5,x6,x7,x8⟩:=(zqm q f1 s.1 s.2 p h3 (fun _ _ h=>h) (fun r hr=>by grind) f2 f3 a).vals
    exact ⟨_,he,b,x1,x2,x4,x3,x6,x5,x7,zzK x8⟩
  grind
theorem zFo (h:TysOk cx) (l:CallsOk cx C) (j:cx.P.follows .mixedOrders=true):∀ n,InlOk cx C k (inlF cx n)
 | 0=>fun f d g e i b=>by grind [inlF]
 | n + 1=>fun f d g e i b hlen=>by
  simp only [inlF] at b
  split at b
  ·grind
  rename_i o p
  split at b
  ·grind
  rename_i c m
  have hbody:ztK cx C k f d g e _:=zDO (mk:=zuz o.results.toList) (cx:=zvB cx f) (h.for_ f) (l.for_ f) ((zFo h l j n).for_ f) j p m d g e
  grind [zGL]
theorem zxX {c f d a E r}(h:ev C k (zAm cx c f d a) E=some r) :
  ∃ b g s l j i,zeM cx c a=some b∧(SV.viewL true f b).run a.root ⟨[],a.nv,[],a.mem.length⟩=some (g,s,l)∧zc0 s.bs=true∧zdn s.bs E=some j∧gets j g=some i∧r=.jmp d false i:=by
 unfold zAm at h
 cases m:zeM cx c a with
 | none=>grind [ev]
 | some b =>
  simp only [m] at h
  grind [ev,zfx]
theorem zyn (b) (a) (c):Shifts C k (zAm b a c):=by
 intro e E
 cases h:ev C k (zAm b a c 0 e) E with
 | none =>
  refine .inl fun d=>?_
  cases h':ev C k (zAm b a c d e) E with
  | none=>rfl
  | some r =>
   grind [zxX,zAm,zfx,ev]
 | some r =>
  obtain ⟨ts,as,s,foot,E1,rs,h1,h2,h3,h4,h5,h6⟩:=zxX h
  simp_all [zAm,zfx,ev]
def zgd (cx:Cx) (k n:Nat) (C0:FuncId→List D→Option (List D)):Nat→FuncId→List D→Option (List D)
 | 0,f,ds=>C0 f ds
 | d + 1,f,ds=>match C0 f ds with
  | some rs=>some rs
  | none=>match zaM cx n f with
   | none=>none
   | some t=>match ev (zgd cx k n C0 d) k t ds with
    | some (.jmp _ _ rs)=>some rs
    | _=>none
theorem DVals.dlen {w M}:∀ {a}{b}{c},DVals w M a b c→b.length=a.length
 | [],[],[],_=>rfl
 | T::a,d::b,v::c,h=>by simp [DVals.dlen h.2]
 | [],[],_::_,h|[],_::_,_,h|_::_,[],_,h|_::_,_::_,[],h=>h.elim
theorem zIW (J:TysOk cx) (P:CallsOk cx C) (S:cx.P.follows .mixedOrders=true) {n f m t}(K:cx.P.funcs[f]?=some m) (g:zaM cx n f=some t) {y p l b}(hev:ev C k t y=some (.jmp l b p))
  {w z M} (B:∀ b,M b→b<w.heap.size) (u:DVals w M (zcM cx m) y z.toList) :
  Calls cx.P f z w fun e o=>∃ v,e=.returned v∧Below w.heap.size w o∧zIC o M (zhA cx m) p v:=by
 unfold zaM at g
 simp only [K] at g
 split at g
 ·grind
 rename_i c L
 split at g
 ·injection g with g
  subst g
  obtain ⟨r0,q1,A⟩:=zek (zyn _ _ _) hev
  obtain ⟨x,N,F,e1,e2,e3,e4⟩:=zzj (st:=zpR m (frozen (zcM cx m) 0) (zcM cx m).length []) u.dlen q1
  subst e2
  let X:Ctx:=⟨y,w,zbg [],fun _=>⟨none,[]⟩,fun _=>False,M⟩
  have hXM:Keeps w w M X.M:=⟨fun _ _ _=>rfl,fun b _ O=>by
   rintro (h|⟨r,h,_⟩)
   all_goals grind⟩
  have Q:retN x=.normal→Calls cx.P f z w fun e o=>∃ v,e=.returned v∧Below w.heap.size w o∧zIC o M (zhA cx m) p v:=fun R=>by
   rw [R] at A
   obtain ⟨ts,as,s,foot,q,rs',h1,U,h3,h4,h5,h6⟩:=zxX A
   refine (zwg (cx:=zvB cx f) (X:=X) (J.for_ f) (P.for_ f) ((zFo J P S n).for_ f) S K L u.dlen (fun r=>by grind) rfl (⟨fun _ h=>h.elim,fun _ _ _ h=>h.elim,fun _ h=>h.elim,fun _ _ h=>h.elim,B⟩) (wG0 _) (zpX (u.keep hXM) fun j d hj=>by grind) R e1 h1).mono fun e o ⟨us,he,hi⟩=>?_
   obtain ⟨Y,x1,H,x3,x4,x5,x6,I,x8⟩:=hi.vals
   obtain ⟨G,g1,g2,V⟩:=zne (C:=C) (k:=k) h4
   obtain ⟨y1,y2⟩:=x5.moreE (by rw [H];exact I.size) (E':=q) (fun i d hj=>by grind)
   have hnv:q.length=s.nv:=by
    have:=_root_.Go.SX.X.run_outs _ _ _ U
    simp [zuC] at this
    grind
   rw [hnv] at V
   obtain ⟨z1,z2,_,_,rs2,z5,W⟩:=zpM (C:=C) (k:=k) (B0:=w.heap.size) (X:={ Y with E:=q }) (by rw [H];exact I.size) (σ:=⟨[],N.nv,[],N.mem.length⟩) (by rw [x3];exact ⟨foot,U⟩) V y2 (VRepL.ext y1 x8)
   have hrs:rs2=p:=by grind
   subst hrs
   refine ⟨_,he,I,us,?_,rfl⟩
   have hF:∀ b,M b→(({ Y with E:=q }:Ctx).mv s.up).M b:=fun b L=>.inl (by
    show Y.F b
    rw [x6.F]
    omega)
   rw [H] at W
   exact W.keep ⟨fun _ _ _=>rfl,fun _ _ O B=>O (hF _ B)⟩
  cases x with
  | exit id=>cases A
  | normal=>exact Q rfl
  | ret=>exact Q rfl
 grind
theorem zC7 (e:TysOk cx) (i:cx.P.follows .mixedOrders=true) {j}(b:CallsOk cx j) (k n):∀ d,CallsOk cx (zgd cx k n j d)
 | 0=>b
 | d + 1=>fun f p r rs c m o h w q M g l=>by
  simp only [zgd] at h
  split at h
  ·rename_i rs' u
   injection h with h
   subst h
   exact b f p r _ c m o u w q M g l
  ·split at h
   ·grind
   ·rename_i t v
    split at h
    ·rename_i s
     injection h with h
     subst h
     exact zIW e (zC7 e i b k n d) i c v s g l
    grind
end
end Go.SX
namespace Go.SX
open Go.RowKit (Below)
mutual
def Wt:Ty→D→Prop
 | .int k,.int k' n=>k'=k∧(Lit.int k n).wf=true
 | .bool,.bool _=>True
 | .str,.str s=>s.size≤maxLen
 | .sl _,.nil=>True
 | .sl e,.sl ds=>ds.length≤maxLen∧WtA e ds
 | .arr n e,.agg ds=>ds.length=n∧WtA e ds
 | .st Ts,.agg ds=>WtL Ts ds
 | _,_=>False
def WtA (e:Ty):List D→Prop
 | []=>True
 | d::ds=>Wt e d∧WtA e ds
def WtL:List Ty→List D→Prop
 | [],[]=>True
 | T::Ts,d::ds=>Wt T d∧WtL Ts ds
 | _,_=>False
end
section
variable {H:Type} {enc:TypeId×Value→H} {cx:Cx} {w:World} {sp:Nat→Bool} {held:Bool}
theorem trod_array {P t e n b a x}(j:P.underlying t=some (.array n e)) (h:DataW.trod enc P w 0 sp held b t a=some x) :
  ∃ m,b=m + 1∧a.length=P.cellsOf t∧∀ i,i<n→∃ y,DataW.trod enc P w 0 sp held m e ((a.drop (i * P.cellsOf e)).take (P.cellsOf e))=some y:=by
 cases b with
 | zero=>simp_all [DataW.trod]
 | succ m =>
  unfold DataW.trod at h
  rw [j] at h
  split at h<;>simp_all
  rename_i k
  obtain ⟨l,o⟩:=k
  subst l o
  obtain ⟨hl,xs,c,hd⟩:=h
  intro i hi
  have:=mapM_some_get c i i (by grind)
  have hlen  := by simpa using mapM_some_length c
  grind
theorem TyFact.cells {a t T i}(h:TyFact a t T i):a.P.cellsOf t=T.size:=by
 simp [Program.cellsOf,h.info,h.size]
theorem zAA {M e}:∀ (n) (a),a.length=n * e.size→(∀ i,i<n→∃ d,DRep w M e d ((a.drop (i * e.size)).take e.size)∧Wt e d)→∃ b:List D,b.length=n∧DRepA w M e b a∧WtA e b
 | 0,a,k,_=>⟨[],rfl,by grind [DRepA],trivial⟩
 | n + 1,a,k,h=>by
  obtain ⟨d,h1,g⟩:=h 0 (by omega)
  obtain ⟨b,g1,g2,j⟩:=zAA (e:=e) n (a.drop e.size) (by grind) fun i hi=>by
   obtain ⟨d,c,f⟩:=h (i + 1) (by omega)
   refine ⟨d,?_,f⟩
   rw [List.drop_drop]
   rw [Nat.succ_mul,Nat.add_comm] at c
   exact c
  refine ⟨d::b,by grind,?_,g,j⟩
  grind [DRepA,List.take_append_drop]
theorem zqo {a}:∀ {n}{b},w.cells? 0 a n=some b→b.length=n∧∀ j,j<n→w.cell? (a.add j)=b[j]?:=by
 intro n b h
 exact ⟨by simpa using mapM_some_length h,fun j hj=>mapM_some_get h j j (by grind)⟩
theorem flat_get {n s}(f:Nat→List Value) (c:∀ i,i<n→(f i).length=s):∀ (m),m≤n→((List.range m).flatMap f).length=m * s∧∀ i j,i<m→j<s→((List.range m).flatMap f)[i * s + j]?=(f i)[j]?
 | 0,_=>by simp
 | m + 1,hm=>by
  obtain ⟨a,d⟩:=flat_get f c m (by omega)
  have e:(List.range (m + 1)).flatMap f=(List.range m).flatMap f++f m:=by simp [List.range_succ,List.flatMap_append]
  rw [e]
  refine ⟨by rw [wI0,a,c m (by omega),Nat.succ_mul],fun i j hi g=>?_⟩
  rcases vS0 i m with b|hge
  ·have:i * s + j<m * s:=by
    have  := vK0 s b
    rw [Nat.succ_mul] at this
    omega
   rw [List.getElem?_append_left (by rw [a];exact this)]
   exact d i j b g
  ·have:i=m:=by omega
   subst this
   rw [List.getElem?_append_right (by omega),a]
   congr 1
   omega
theorem zoZ {T:Ty}(h:T.known=true):T≠.no:=by
 rintro rfl
 cases h
theorem znT (ty:TysOk cx):∀ (fuel) (t) (T) (cs) (x),cx.T t=T→T.known=true→DataW.trod enc cx.P w 0 sp held fuel t cs=some x→∃ d,DRep w (fun _=>False) T d cs∧Wt T d
 | 0,t,T,cs,x,_,_,h=>by simp_all [DataW.trod]
 | fuel + 1,t,T,cs,x,hT,hn,h=>by
  obtain ⟨i,tf⟩:=ty.get hT (zoZ hn)
  have hdesc:=tf.desc
  cases T with
  | no=>cases hn
  | int k =>
   obtain ⟨n,e1,_,e3⟩:=DataW.trod_int hdesc h
   exact ⟨.int k n,⟨rfl,e1⟩,rfl,e3⟩
  | bool =>
   obtain ⟨b,e1,_⟩:=DataW.trod_bool hdesc h
   exact ⟨.bool b,e1,trivial⟩
  | str =>
   obtain ⟨s,e1,_,e3⟩:=DataW.trod_string hdesc h
   exact ⟨.str s,e1,e3⟩
  | sl e =>
   obtain ⟨E,hu,hE⟩:=hdesc
   have hne:e.known=true:=by grind [Ty.known]
   obtain ⟨i',tf'⟩:=ty.get hE (zoZ hne)
   rcases DataW.trod_slice hu h with ⟨e1,_⟩|⟨a,len,cap,elems,rest,m,e1,e2,e3,e4,e5,e6,e7,e8,_⟩
   ·exact ⟨.nil,e1,trivial⟩
   ·injection e1 with e1
    subst e1
    rw [tf'.cells] at e8
    have one:∀ i,i<len→∃ cs',w.cells? 0 (a.add (i * e.size)) e.size=some cs'∧∃ d,DRep w (fun _=>False) e d cs'∧Wt e d:=fun i hi=>by
     have:=e8 i hi
     rw [wF0 (by omega),Option.bind_eq_some_iff] at this
     obtain ⟨cs',h1,h2⟩:=this
     obtain ⟨d,h3,h4⟩:=znT ty fuel E e cs' _ hE hne h2
     grind
    let f:Nat→List Value:=fun i=>(w.cells? 0 (a.add (i * e.size)) e.size).getD []
    have hf:∀ i,i<len→(f i).length=e.size:=fun i hi=>by grind [zqo]
    obtain ⟨g1,g2⟩:=flat_get f hf len (wG0 _)
    obtain ⟨ds,U,q2,q3⟩:=zAA (w:=w) (M:=fun _=>False) (e:=e) len ((List.range len).flatMap f) g1 fun i hi=>by
     obtain ⟨cs',h1,d,h3,h4⟩:=one i hi
     refine ⟨d,?_,h4⟩
     have:(((List.range len).flatMap f).drop (i * e.size)).take e.size=cs':=by
      have hl:=(zqo h1).1
      apply List.ext_getElem?
      grind
     grind
    refine ⟨.sl ds,⟨a,cap,(List.range len).flatMap f,by grind,by omega,q2,fun j v hj=>?_,fun _ h=>h⟩,by omega,q3⟩
    have hjl:j<len * e.size:=by grind
    have hpos:0<e.size:=by grind
    have hdiv:j / e.size<len:=by simp_all [Nat.div_lt_iff_lt_mul]
    have hmod:=Nat.mod_lt j hpos
    grind [Nat.div_add_mod,zqo,add_add]
  | arr n e =>
   obtain ⟨E,hu,hE⟩:=hdesc
   have hne:e.known=true:=by grind [Ty.known]
   obtain ⟨i',tf'⟩:=ty.get hE (zoZ hne)
   obtain ⟨m,e1,e2,e3⟩:=trod_array hu h
   injection e1 with e1
   subst e1
   rw [tf.cells] at e2
   rw [tf'.cells] at e3
   obtain ⟨ds,U,q2,q3⟩:=zAA (w:=w) (M:=fun _=>False) (e:=e) n cs (by grind [Ty.size]) fun i hi=>by
    obtain ⟨y,hy⟩:=e3 i hi
    exact znT ty fuel E e _ _ hE hne hy
   exact ⟨.agg ds,⟨U,q2⟩,U,q3⟩
  | st Ts =>
   obtain ⟨fs,hu,hTs,hoff⟩:=hdesc
   obtain ⟨xs,m,e1,_,e3,e4,e5⟩:=DataW.trod_struct hu h
   injection e1 with e1
   subst e1
   rw [tf.cells] at e3
   have hkn:Ty.knownL Ts=true:=by grind [Ty.known]
   have main:∀ (l:List Field) (n k:Nat),ziM cx.T l n=true→n≤cs.length→(cs.length=n + Ty.sizeL (l.map fun f=>cx.T f.type))→Ty.knownL (l.map fun f=>cx.T f.type)=true →
     (∀ i f,l[i]?=some f→fs[k + i]?=some f)→∃ ds,DRepL w (fun _=>False) (l.map fun f=>cx.T f.type) ds (cs.drop n)∧WtL (l.map fun f=>cx.T f.type) ds:=by
    intro l
    induction l with
    | nil =>
     intro n k _ _ hlen _ _
     refine ⟨[],?_,trivial⟩
     simp_all [DRepL,Ty.sizeL]
    | cons f l ih =>
     intro n k ho hle hlen hk hfs
     simp only [ziM,wD0] at ho
     simp only [vM0,Ty.sizeL] at hlen
     simp only [vM0,Ty.knownL,wD0] at hk
     have hoffs:=zbv ho.1
     obtain ⟨i'',tf''⟩:=ty.get (T:=cx.T f.type) rfl (zoZ hk.1)
     have hf0:=hfs 0 f rfl
     rw [Nat.add_zero] at hf0
     have hx:=e5 k f hf0
     rw [tf''.cells,hoffs] at hx
     have hkl:k<xs.length:=by grind
     rw [wF0 hkl] at hx
     obtain ⟨d,h1,h2⟩:=znT ty fuel f.type (cx.T f.type) _ _ rfl hk.1 hx
     obtain ⟨ds,h3,h4⟩:=ih (n + (cx.T f.type).size) (k + 1) ho.2 (by omega) (by omega) hk.2 fun i g hg=>by
      have:=hfs (i + 1) g (by grind)
      grind
     refine ⟨d::ds,?_,h2,h4⟩
     grind [DRepL,List.take_append_drop,List.drop_drop]
   rw [hTs] at hkn e3
   simp only [Ty.size] at e3
   obtain ⟨ds,h1,h2⟩:=main fs.toList 0 0 hoff (Nat.zero_le _) (by omega) hkn fun i f hf=>by grind
   rw [List.drop_zero,← hTs] at h1
   rw [← hTs] at h2
   exact ⟨.agg ds,h1,h2⟩
end
end Go.SX
namespace Go.SX
open Go.RowKit (Below okWide_bool_mk ok_one shut_bool)
section
variable {H:Type} {enc:TypeId×Value→H} {cx:Cx} {w:World} {sp:Nat→Bool} {held:Bool}
theorem zJe {t T i M r l v d}(m:TyFact cx t T i) (b:Value.okWide cx.P w r l t v) (h:DRep w M T d v.cells.toList):DVal w M T d v:=by
 have c:=m.desc
 cases T with
 | no=>cases c
 | int k =>
  have a:cx.P.underlying t=some (.int k):=c
  simp only [Value.okWide,a,Cell.okWide] at b
  cases v<;>simp only [Cell.ok,a] at b
  exact ⟨⟨nofun,nofun⟩,h⟩
 | bool =>
  have a:cx.P.underlying t=some .bool:=c
  simp only [Value.okWide,a,Cell.okWide] at b
  cases v<;>simp only [Cell.ok,a] at b
  exact ⟨⟨nofun,nofun⟩,h⟩
 | str =>
  have a:cx.P.underlying t=some .string:=c
  simp only [Value.okWide,a,Cell.okWide] at b
  cases v<;>simp only [Cell.ok,a] at b
  exact ⟨⟨nofun,nofun⟩,h⟩
 | sl e =>
  obtain ⟨E,a,_⟩:=c
  simp only [Value.okWide,a,Cell.okWide] at b
  cases v<;>simp only [Cell.ok,a] at b
  exact ⟨⟨nofun,nofun⟩,h⟩
 | arr n e =>
  obtain ⟨E,a,_⟩:=c
  simp only [Value.okWide,a] at b
  obtain ⟨j,g,_⟩:=b
  subst g
  exact ⟨j,rfl,h⟩
 | st Ts =>
  obtain ⟨fs,a,_⟩:=c
  simp only [Value.okWide,a] at b
  obtain ⟨j,g,_⟩:=b
  subst g
  exact ⟨j,rfl,h⟩
theorem zAl (g:TysOk cx) {r n}:∀ {b}{e}{l}{k},Ty.knownL (b.map cx.T)=true→(∀ (j:Nat) t v,b[j]?=some t→e[j]?=some v→Value.okWide cx.P w r n t v) →
  DataW.TrodAll enc cx.P w 0 sp held b e l k→∃ c,DVals w (fun _=>False) (b.map cx.T) c e∧WtL (b.map cx.T) c
 | [],[],[],k,_,_,h=>⟨[],trivial,trivial⟩
 | t::b,v::e,d::l,k,f,m,h=>by
  simp [Ty.knownL] at f
  obtain ⟨p,q,⟨s,u⟩,x,_⟩:=h
  obtain ⟨i,y⟩:=g.get (T:=cx.T t) rfl (zoZ f.1)
  obtain ⟨z,A,B⟩:=znT g s t (cx.T t) _ _ rfl f.1 u
  obtain ⟨c,F,G⟩:=zAl g f.2 (fun j I o hj hv=>m (j + 1) I o (by grind) (by grind)) x
  exact ⟨z::c,⟨zJe y (m 0 t v rfl rfl) A,F⟩,B,G⟩
 | [],_::_,_,_,_,_,h|[],[],_::_,_,_,_,h|_::_,[],_,_,_,_,h|_::_,_::_,[],_,_,_,h=>by grind [DataW.TrodAll]
theorem zyG {P}(k:laidOutB P=true) {m}:∀ {c}{f}{g}{a},c.all (fun t=>P.readableRec t&&Nat.blt t P.types.size)=true →
  DataW.TrodAll enc P w 0 (fun _=>true) true c f g a→Below w.heap.size w m→(∀ x∈a,x.block<w.heap.size)→DataW.TrodAll enc P m 0 (fun b=>decide (b<w.heap.size)) true c f g a
 | [],[],[],a,_,h,_,_=>h
 | t::c,v::f,d::g,a,j,h,l,n=>by
  simp only [List.all_cons,wD0,Nat.blt_eq] at j
  obtain ⟨p,q,r,s,e⟩:=h
  subst e
  exact ⟨p,q,Go.RowKit.Below.trod k j.1.1 j.1.2 r l (fun x i=>n x (List.mem_append.2 (.inl i))),zyG k (by grind) s l (fun x i=>n x (List.mem_append.2 (.inr i))),rfl⟩
 | [],_::_,_,_,_,h,_,_|[],[],_::_,_,_,h,_,_|_::_,[],_,_,_,h,_,_|_::_,_::_,[],_,_,h,_,_=>by grind [DataW.TrodAll]
theorem TrodAll.dlen {P g}:∀ {b}{e}{c}{a},DataW.TrodAll enc P w g sp held b e c a→c.length=b.length
 | [],[],[],a,_=>rfl
 | t::b,v::e,d::c,a,h=>by
  obtain ⟨p,q,_,f,_⟩:=h
  simp [TrodAll.dlen f]
 | [],_::_,_,_,h|[],[],_::_,_,h|_::_,[],_,_,h|_::_,_::_,[],_,h=>by grind [DataW.TrodAll]
end
theorem zFn {cx C}(y:cx.P=C.prog) (L:TysOk cx) (hmix:C.prog.follows .mixedOrders=true) {Q}(h0:CallsOk cx Q) (n)
  {B f a H} {A:TypeId×Value→H} {s:ChangeSpec} {I}
  (own:ownKnob C.prog.godebug=none) (hl:laidOutB C.prog=true) (started:B.Started) (noInit:C.prog.inits.idxOf? f=none) (hfn:C.prog.funcs[f]?=some a)
  (hcan:zlu a=true) (m:zv3 cx f a=true) (hread:a.params.toList.all (fun t=>C.prog.readableRec t&&Nat.blt t C.prog.types.size)=true)
  {tb} (hres:a.resultTypes=#[tb]) (htb:C.prog.underlying tb=some .bool) (hTb:cx.T tb=.bool) (N:s.vars=[])
  (hspec:∀ b:List (DataW H),b.length=a.params.toList.length→s.fn H b={ results:=[.lit (.bool true)],args:=b })
  (hlaw:∀ c,WtL (zcM cx a) c→∃ k d,zgd cx k n Q d f c=some [.bool true])
  (witness:∃ (w:World) (o:Tape) (i:Input),w.os=B∧(w.forCall o i).Shaped C.prog∧i.vars=[]∧Input.okWide C.prog (w.forCall o i) .any w.heap.size f i ∧
   s.pre6 A C.prog a I false (w.forCall o i).memory i.args∧({}:Assume).holds C.prog (lone (Frame.enter C.prog f i.args .normal) [] (w.forCall o i))) :
  ReturnsInHanded {} C B f .any (s.pre6 A C.prog a I false) (s.post A C.prog a false true false false):=by
 refine returnsInHanded_of_change own started noInit hfn witness ?_
 intro W base args b z U F J _ _
 have K:=J
 obtain ⟨p,q,l,M,e,hfz,hnd⟩:=J
 rw [N] at M
 have hgs:z=[]∧q=[]:=by
  cases z with
  | nil=>exact ⟨rfl,M⟩
  | cons g z=>grind [DataW.TrodVars]
 obtain ⟨hg,hq⟩:=hgs
 subst hg hq
 rw [vL0] at e
 subst e
 have hkn  := by
  unfold zv3 at m
  simp  at m
  exact m.1.2
 rw [← y] at l F
 obtain ⟨c,g1,g2⟩:=zAl L hkn (fun j t v hj r=>F j t v (by grind) (by grind)) l
 rw [y] at l F
 obtain ⟨k,d,hlaw'⟩:=hlaw c g2
 have S:=zC7 L (by grind) h0 k n d f a c _ (by grind) hcan m hlaw' W args (fun _=>False) (fun _ h=>h.elim) g1
 rw [y] at S
 refine S.mono fun e W' ⟨v,he,hb,vs,r,hr⟩=>⟨v,he,?_⟩
 have hrt:zhA cx a=[.bool]:=by grind [zhA]
 rw [hrt] at r
 have hvt:v=.bool true:=by
  cases vs with
  | nil=>exact r.elim
  | cons u us =>
   obtain ⟨hu,hus⟩:=r
   cases us with
   | cons _ _=>exact hus.elim
   | nil =>
    have:u=.bool true:=by grind [DVal,Ty.isAgg,DRep]
    rw [hr,this]
    rfl
 subst hvt
 have hlen:(b++([]:List (DataW H))).length=a.params.toList.length:=by grind [TrodAll.dlen]
 have G:=hspec _ hlen
 refine ⟨b,[],U,[],U,[],K,?_,?_,?_,hb.frame _,nofun⟩
 ·rw [G,hres]
  exact Go.ChangeShapes.trodAll_mk1 (shut_bool htb true)
 ·rw [G]
  simp
  exact zyG hl hread l hb (fun x hx=>K.lt x hx)
 ·rw [N,G]
  rfl
end Go.SX
namespace Go.SX
theorem zlc {f g}(h:∀ a r,f a=some r→g a=some r):∀ {k c}{a}{r},k≤c→iter f k a=some r→iter g c a=some r
 | 0,_,_,_,_,b=>by grind [iter]
 | k + 1,0,_,_,e,_=>by omega
 | k + 1,c + 1,a,r,e,b=>by
  simp only [iter] at b ⊢
  split at b
  ·rename_i vs' d
   rw [h _ _ d]
   exact zlc h (by omega) b
  grind
theorem zdf {C v}(e:∀ f i q,C f i=some q→v f i=some q) {k s}(d:k≤s):∀ {t}{E}{r},ev C k t E=some r→ev v s t E=some r
 | .prim p o t,E,r,h=>by
  simp only [ev] at h ⊢
  split at h
  ·omega
  ·split at h
   ·omega
   ·exact zdf e d h
 | .call f o m t,E,r,h=>by
  simp only [ev] at h ⊢
  split at h
  ·omega
  ·split at h
   ·grind
   ·rename_i j _ i g
    rw [e _ _ _ g]
    split at h
    ·rename_i n
     simp [n]
     exact zdf e d h
    grind
 | .sub t m u,E,r,h=>by
  simp only [ev] at h ⊢
  split at h
  ·grind
  ·rename_i b j g
   rw [zdf e d g]
   split at h
   ·rename_i n
    simp [n]
    exact zdf e d h
   grind
  ·rename_i y hne g
   rw [zdf e d g]
   grind
 | .loop init b,E,r,h=>by
  simp only [ev] at h ⊢
  split at h
  ·omega
  ·split at h
   ·grind
   ·rename_i j _ y g
    rw [zlc (fun j r w=>zdf e d w) d g]
    omega
 | .ite c a b,E,r,h=>by
  simp only [ev] at h ⊢
  split at h
  ·exact zdf e d h
  ·exact zdf e d h
  omega
 | .jmp l b o,E,r,h=>h
 | .fin x st,E,r,h=>h
 | .fail _,E,r,h=>h
section
variable (cx:Cx) (n:Nat) (C0:FuncId→List D→Option (List D))
theorem zcW {k g}(l:k≤g):∀ {d b}{f}{a c},d≤b→zgd cx k n C0 d f a=some c→zgd cx g n C0 b f a=some c
 | 0,b,f,a,c,_,h=>by
  cases b with
  | zero=>exact h
  | succ b=>grind [zgd]
 | d + 1,0,_,_,_,i,_=>by omega
 | d + 1,b + 1,f,a,c,i,h=>by
  simp only [zgd] at h ⊢
  cases o:C0 f a with
  | some rs' =>
   grind
  | none =>
   simp only [o] at h ⊢
   cases p:zaM cx n f with
   | none=>grind
   | some t =>
    simp only [p] at h ⊢
    split at h
    ·rename_i q
     rw [zdf (fun f a c m=>zcW l (Nat.le_of_succ_le_succ i) m) l q]
     omega
    grind
open Classical in
noncomputable def lim {α:Type}(f:Nat→Nat→Option α):Option α:=if h:∃ r,∃ k d,f k d=some r then some h.choose else none
def zJN {α:Type}(f:Nat→Nat→Option α):Prop:=∀ k k' d d' r,k≤k'→d≤d'→f k d=some r→f k' d'=some r
theorem zxi {a f}(c:zJN f) {r:a}:lim f=some r↔∃ k d,f k d=some r:=by
 unfold lim
 split
 ·rename_i h
  obtain ⟨k,d,i⟩:=h.choose_spec
  constructor
  ·grind
  ·rintro ⟨b,e,g⟩
   have h1:=c _ (max k b) _ (max d e) _ (by omega) (by omega) i
   have h2:=c _ (max k b) _ (max d e) _ (by omega) (by omega) g
   grind
 grind
noncomputable def zDB (f:FuncId) (ds:List D):Option (List D):=lim fun k d=>zgd cx k n C0 d f ds
noncomputable def evL (t:Tree) (E:List D):Option Res:=lim fun k d=>ev (zgd cx k n C0 d) k t E
noncomputable def zGp (b:Tree) (E vs:List D):Option Res:=lim fun k d=>iter (fun vs=>ev (zgd cx k n C0 d) k b (E++vs)) k vs
theorem zin {f b c}:zDB cx n C0 f b=some c↔∃ k d,zgd cx k n C0 d f b=some c:=zxi fun _ _ _ _ _ g i h=>zcW cx n C0 g i h
theorem zcg {t E r}:evL cx n C0 t E=some r↔∃ k d,ev (zgd cx k n C0 d) k t E=some r :=
 zxi (f:=fun k d=>ev (zgd cx k n C0 d) k t E) fun _ _ _ _ _ c e h=>zdf (fun _ _ _ h=>zcW cx n C0 c e h) c h
theorem ziC {b E a r}:zGp cx n C0 b E a=some r↔∃ k d,iter (fun a=>ev (zgd cx k n C0 d) k b (E++a)) k a=some r :=
 zxi (f:=fun k d=>iter (fun a=>ev (zgd cx k n C0 d) k b (E++a)) k a) fun _ _ _ _ _ g i h=>zlc (fun _ _ h=>zdf (fun _ _ _ h=>zcW cx n C0 g i h) g h) g h
theorem zHO {p a t E}:evL cx n C0 (.prim p a t) E=match gets E a with
  | some b=>match p.run b with
   | some d=>evL cx n C0 t (E++[d])
   | none=>none
  | none=>none:=by
 apply Option.ext
 intro r
 rw [zcg]
 simp only [ev]
 cases gets E a with
 | none=>simp
 | some b =>
  simp only
  cases p.run b with
  | none=>simp
  | some d=>simp [zcg]
theorem zHG {f g m t E}:evL cx n C0 (.call f g m t) E=match gets E g with
  | some i=>match zDB cx n C0 f i with
   | some e=>if e.length=m then evL cx n C0 t (E++e) else none
   | none=>none
  | none=>none:=by
 apply Option.ext
 intro r
 rw [zcg]
 simp only [ev]
 cases gets E g with
 | none=>simp
 | some i =>
  simp only
  constructor
  ·rintro ⟨k,d,h⟩
   split at h
   ·grind
   ·rename_i e c
    rw [(zin cx n C0).2 ⟨k,d,c⟩]
    split at h
    ·grind [zcg]
    grind
  ·intro h
   split at h
   ·rename_i e c
    obtain ⟨k,d,c⟩:=(zin cx n C0).1 c
    split at h
    ·rename_i l
     obtain ⟨o,j,h⟩:=(zcg cx n C0).1 h
     refine ⟨max k o,max d j,?_⟩
     rw [zcW cx n C0 (by omega) (by omega) c]
     simp [l]
     exact zdf (fun _ _ _=>zcW cx n C0 (by omega) (by omega)) (by omega) h
    grind
   grind
theorem zEl {t m u E}:evL cx n C0 (.sub t m u) E=match evL cx n C0 t E with
  | some (.jmp 0 _ e)=>if e.length=m then evL cx n C0 u (E++e) else none
  | some r=>r.up
  | none=>none:=by
 apply Option.ext
 intro r
 rw [zcg]
 simp only [ev]
 constructor
 ·rintro ⟨k,d,h⟩
  split at h
  ·grind
  ·split at h
   ·grind [zcg]
   grind
  grind [zcg]
 ·intro h
  split at h
  ·rename_i b e f
   obtain ⟨k,d,f⟩:=(zcg cx n C0).1 f
   split at h
   ·rename_i j
    obtain ⟨i,g,h⟩:=(zcg cx n C0).1 h
    refine ⟨max k i,max d g,?_⟩
    rw [zdf (fun _ _ _=>zcW cx n C0 (by omega:k≤max k i) (by omega:d≤max d g)) (by omega) f]
    simp [j]
    exact zdf (fun _ _ _=>zcW cx n C0 (by omega) (by omega)) (by omega) h
   grind
  all_goals grind [zcg]
theorem zHJ {c b E}:evL cx n C0 (.loop c b) E=match gets E c with
  | some g=>match zGp cx n C0 b E g with
   | some r=>r.up
   | none=>none
  | none=>none:=by
 apply Option.ext
 intro r
 rw [zcg]
 simp only [ev]
 cases gets E c with
 | none=>simp
 | some g =>
  simp only
  constructor
  ·rintro ⟨k,d,h⟩
   split at h
   ·grind
   ·rename_i i a
    rw [(ziC cx n C0).2 ⟨k,d,a⟩]
    omega
  ·intro h
   split at h
   ·rename_i i a
    obtain ⟨k,d,a⟩:=(ziC cx n C0).1 a
    exact ⟨k,d,by grind⟩
   grind
theorem zCs {b E j}:zGp cx n C0 b E j=match evL cx n C0 b (E++j) with
  | some (.jmp 0 true f)=>zGp cx n C0 b E f
  | r=>r:=by
 apply Option.ext
 intro r
 rw [ziC]
 constructor
 ·rintro ⟨k,d,h⟩
  cases k with
  | zero=>grind [iter]
  | succ k =>
   simp only [iter] at h
   split at h
   ·rename_i f e
    rw [(zcg cx n C0).2 ⟨_,_,e⟩]
    exact (ziC cx n C0).2 ⟨k + 1,d,zlc (fun _ _ h=>h) (by omega) h⟩
   grind [zcg]
 ·intro h
  split at h
  ·rename_i f e
   obtain ⟨k,d,e⟩:=(zcg cx n C0).1 e
   obtain ⟨g,i,h⟩:=(ziC cx n C0).1 h
   refine ⟨max k g + 1,max d i,?_⟩
   simp only [iter]
   rw [(zdf (fun _ _ _=>zcW cx n C0 (by omega:k≤max k g + 1) (by omega:d≤max d i)) (by omega:k≤max k g + 1) e)]
   exact zlc (fun _ _ h=>zdf (fun _ _ _=>zcW cx n C0 (by omega) (by omega)) (by omega) h) (by omega) h
  ·obtain ⟨k,d,h⟩:=(zcg cx n C0).1 h
   refine ⟨k + 1,d,?_⟩
   simp only [iter]
   rw [zdf (fun _ _ _=>zcW cx n C0 (by omega:k≤k + 1) (wG0 d)) (by omega:k≤k + 1) h]
   grind
theorem zx8 {c t u E}:evL cx n C0 (.ite c t u) E=match c.get E with
  | some (.bool true)=>evL cx n C0 t E
  | some (.bool false)=>evL cx n C0 u E
  | _=>none:=by
 apply Option.ext
 grind [zcg,ev]
theorem zxD {l b a E}:evL cx n C0 (.jmp l b a) E=match gets E a with
  | some c=>some (.jmp l b c)
  | none=>none:=by
 apply Option.ext
 intro r
 rw [zcg]
 simp only [ev]
 grind
theorem zDk {f t}(ht:zaM cx n f=some t) {b}(h0:C0 f b=none):zDB cx n C0 f b=match evL cx n C0 t b with
  | some (.jmp _ _ g)=>some g
  | _=>none:=by
 apply Option.ext
 intro r
 rw [zin]
 constructor
 ·rintro ⟨k,d,h⟩
  cases d with
  | zero =>
   have h:C0 f b=some r:=h
   grind
  | succ d =>
   grind [zgd,zcg]
 ·intro h
  split at h
  ·rename_i e
   obtain ⟨k,d,e⟩:=(zcg cx n C0).1 e
   refine ⟨k,d + 1,?_⟩
   grind [zgd]
  grind
end
end Go.SX
namespace Go.SX
theorem Wt.toInt {k d}(h:Wt (.int k) d):∃ n:Int,d=.int k n∧k.min≤n∧n≤k.max:=by
 cases d with
 | int k' n =>
  obtain ⟨h1,h2⟩:=h
  simp_all [Lit.wf]
 | _=>exact h.elim
theorem Wt.toBool {d}(h:Wt .bool d):∃ b:Bool,d=.bool b:=by
 cases d with
 | bool b=>simp
 | _=>exact h.elim
theorem Wt.toStr {d}(h:Wt .str d):∃ s:ByteArray,d=.str s∧s.size≤maxLen:=by
 cases d with
 | str s=>exact ⟨s,rfl,h⟩
 | _=>exact h.elim
theorem Wt.toSl {e d}(h:Wt (.sl e) d):d=.nil∨∃ a,d=.sl a∧a.length≤maxLen∧WtA e a:=by
 cases d with
 | nil=>simp
 | sl a=>exact .inr ⟨a,rfl,h.1,h.2⟩
 | _=>exact h.elim
theorem Wt.toArr {n e d}(h:Wt (.arr n e) d):∃ a,d=.agg a∧a.length=n∧WtA e a:=by
 cases d with
 | agg a=>exact ⟨a,rfl,h.1,h.2⟩
 | _=>exact h.elim
theorem Wt.toSt {b d}(h:Wt (.st b) d):∃ a,d=.agg a∧WtL b a:=by
 cases d with
 | agg a=>exact ⟨a,rfl,h⟩
 | _=>exact h.elim
theorem WtL.toCons {T c b}(h:WtL (T::c) b):∃ d a,b=d::a∧Wt T d∧WtL c a:=by
 cases b with
 | nil=>exact h.elim
 | cons d a=>exact ⟨d,a,rfl,h.1,h.2⟩
theorem WtL.toNil {a}(h:WtL [] a):a=[]:=by
 cases a with
 | nil=>rfl
 | cons d ds=>exact h.elim
theorem WtA.all {e}:∀ {b},WtA e b→∀ d∈b,Wt e d
 | [],_,d,a=>by grind
 | x::l,h,d,a=>by
  rcases List.mem_cons.1 a with a|a
  ·subst a;exact h.1
  ·exact WtA.all h.2 d a
theorem WtA.take {e}:∀ {a}(n),WtA e a→WtA e (a.take n)
 | [],_,_=>by grind
 | _::_,0,_=>trivial
 | _::_,n + 1,h=>⟨h.1,WtA.take n h.2⟩
end Go.SX
namespace Go.SX
mutual
def Ty.T:Ty→Type
 | .int _=>Int
 | .bool=>Bool
 | .str=>List Int
 | .sl e=>List e.T
 | .arr _ e=>List e.T
 | .st l=>Ty.Tup l
 | .no=>Unit
def Ty.Tup:List Ty→Type
 | []=>Unit
 | a::l=>match l with
  | []=>a.T
  | _::_=>a.T×Ty.Tup l
end
def zdq (s:ByteArray):List Int:=s.data.toList.map fun b=>(b.toNat:Int)
mutual
def Ty.rd:(τ:Ty)→D→τ.T
 | .int _,d=>match d with|.int _ n=>n|_=>(0:Int)
 | .bool,d=>match d with|.bool b=>b|_=>false
 | .str,d=>match d with|.str s=>zdq s|_=>([]:List Int)
 | .sl e,d=>match d with|.sl l=>(l.map (Ty.rd e):List e.T)|_=>([]:List e.T)
 | .arr _ e,d=>match d with|.agg l=>(l.map (Ty.rd e):List e.T)|_=>([]:List e.T)
 | .st ts,d=>match d with|.agg l=>Ty.rdL ts l|_=>Ty.rdL ts []
 | .no,_=>()
def Ty.rdL:(ts:List Ty)→List D→Ty.Tup ts
 | [],_=>()
 | a::ts,l=>match ts with
  | []=>Ty.rd a (l.headD .nil)
  | b::us=>(Ty.rd a (l.headD .nil),Ty.rdL (b::us) l.tail)
end
def All2 {α β:Type}(R:α→β→Prop):List α→List β→Prop
 | [],[]=>True
 | a::l,b::m=>R a b∧All2 R l m
 | _,_=>False
mutual
def Rl:(τ:Ty)→D→τ.T→Prop
 | .int k,d,x=>d=.int k x
 | .bool,d,x=>d=.bool x
 | .str,d,x=>∃ s,d=.str s∧x=zdq s
 | .sl e,d,x=>∃ l,d.els=some l∧All2 (Rl e) l x
 | .arr _ e,d,x=>∃ l,d=.agg l∧All2 (Rl e) l x
 | .st ts,d,x=>∃ l,d=.agg l∧RlL ts l x
 | .no,_,_=>True
def RlL:(ts:List Ty)→List D→Ty.Tup ts→Prop
 | [],l,_=>l=[]
 | a::ts,l,x=>match ts,x with
  | [],x=>∃ d,l=[d]∧Rl a d x
  | b::us,x=>∃ d m,l=d::m∧Rl a d x.1∧RlL (b::us) m x.2
end
mutual
def znB:Ty→D→Bool
 | .int k,d=>match d with|.int k' _=>decide (k=k')|_=>false
 | .bool,d=>match d with|.bool _=>true|_=>false
 | .str,d=>match d with|.str _=>true|_=>false
 | .sl e,d=>match d with|.sl l=>l.all (znB e)|.nil=>true|_=>false
 | .arr _ e,d=>match d with|.agg l=>l.all (znB e)|_=>false
 | .st ts,d=>match d with|.agg l=>zzw ts l|_=>false
 | .no,_=>false
def zzw:List Ty→List D→Bool
 | [],l=>l.isEmpty
 | a::ts,l=>match l with
  | []=>false
  | d::m=>znB a d&&zzw ts m
end
mutual
def Ty.dec:(τ:Ty)→DecidableEq τ.T
 | .int _=>fun a b=>Int.instDecidableEq a b
 | .bool=>fun a b=>instDecidableEqBool a b
 | .str=>fun a b=>@instDecidableEqList Int Int.instDecidableEq a b
 | .sl e=>fun a b=>@instDecidableEqList e.T (Ty.dec e) a b
 | .arr _ e=>fun a b=>@instDecidableEqList e.T (Ty.dec e) a b
 | .st ts=>Ty.decL ts
 | .no=>fun a b=>instDecidableEqPUnit a b
def Ty.decL:(ts:List Ty)→DecidableEq (Ty.Tup ts)
 | []=>fun a b=>instDecidableEqPUnit a b
 | a::ts=>match ts with
  | []=>Ty.dec a
  | b::us=>fun x y=>@instDecidableEqProd a.T (Ty.Tup (b::us)) (Ty.dec a) (Ty.decL (b::us)) x y
end
structure TV where
 τ:Ty
 x:τ.T
def zJX {a b:Ty}(h:a.beq b=true) (x:a.T):b.T:=Ty.beq_eq h▸x
def TV.as (v:TV) (τ:Ty):Option τ.T:=if h:v.τ.beq τ=true then some (zJX h v.x) else none
inductive TR where
 | tot (v:TV)
 | par (τ:Ty) (o:Option τ.T)
def bAnd (k:IntKind) (a b:Int):Int:=k.wrap (BitVec.ofInt k.bits a &&& BitVec.ofInt k.bits b).toNat
def bOr (k:IntKind) (a b:Int):Int:=k.wrap (BitVec.ofInt k.bits a ||| BitVec.ofInt k.bits b).toNat
def bXor (k:IntKind) (a b:Int):Int:=k.wrap (BitVec.ofInt k.bits a^^^BitVec.ofInt k.bits b).toNat
def zED (k:IntKind) (a b:Int):Int:=k.wrap (BitVec.ofInt k.bits a &&& ~~~(BitVec.ofInt k.bits b)).toNat
def bNot (k:IntKind) (n:Int):Int:=k.wrap (BitVec.ofInt k.bits (if k.signed then -1 else k.max)^^^BitVec.ofInt k.bits n).toNat
def bNeg (k:IntKind) (n:Int):Int:=k.wrap (0 - n)
def quoO (k:IntKind) (a b:Int):Option Int:=if b=0 then none else some (k.wrap (a.tdiv b))
def remO (a b:Int):Option Int:=if b=0 then none else some (a.tmod b)
def shlO (k:IntKind) (a b:Int):Option Int:=if b<0 then none else some (k.wrap (a * 2 ^ (min b.toNat k.bits)))
def shrO (k:IntKind) (a b:Int):Option Int:=if b<0 then none else some (a.fdiv (2 ^ (min b.toNat k.bits)))
def zA3:List Int→List Int→Bool
 | _,[]=>false
 | [],_::_=>true
 | a::x,b::y=>decide (a<b)||(decide (a=b)&&zA3 x y)
def catO (a b:List Int):Option (List Int):=if a.length + b.length≤17592186044416 then some (a++b) else none
def getO {α:Type}(l:List α) (i:Int):Option α:=if 0≤i then l[i.toNat]? else none
def setO {α:Type}(l:List α) (i:Int) (v:α):Option (List α):=if 0≤i∧i<l.length then some (l.set i.toNat v) else none
def subO {α:Type}(l:List α) (lo hi:Int):Option (List α):=if 0≤lo∧lo≤hi∧hi≤l.length then some ((l.take hi.toNat).drop lo.toNat) else none
def appO {α:Type}(by_:Nat) (s x:List α):Option (List α):=if zcm (s.length + x.length) by_=true then some (s++x) else none
def zDC {α:Type}(z:α) (by_:Nat) (s:List α) (n:Int):Option (List α):=if 0≤n then appO by_ s (List.replicate n.toNat z) else none
def repO {α:Type}(z:α) (by_:Nat) (n c:Int):Option (List α):=if 0≤n∧n≤c∧zcm c.toNat by_=true then some (List.replicate n.toNat z) else none
def zaS {α:Type}(by_:Nat) (s:List α):Option (List α):=if zcm s.length by_=true then some s else none
def idxO (n i:Int):Option Int:=if 0≤i∧i<n then some i else none
def zGx (lo hi i:Int):Option Int:=if 0≤i∧i<hi - lo then some (lo + i) else none
def rngO (n lo hi:Int):Option Int:=if 0≤lo∧lo≤hi∧hi≤n then some hi else none
def zGC (n lo hi mx:Int):Option Int:=if 0≤lo∧lo≤hi∧hi≤mx∧mx=n then some hi else none
def zzy (n lo l h:Int):Option Int:=if 0≤lo∧0≤l∧l≤h∧lo + h≤n then some (lo + h) else none
def eqiO (x y:Int):Option Int:=if x=y then some y else none
def cpyT {α:Type}(l m:List α):List α:=m.take l.length++l.drop m.length
def zx9 {α:Type}(l:List α) (lo hi:Int) (m:List α):Option (List α):=if 0≤lo∧lo≤hi∧hi≤l.length then some (l.take lo.toNat++(m.take (hi - lo).toNat++l.drop (lo.toNat + (m.take (hi - lo).toNat).length))) else none
def zxA {α:Type}(by_:Nat) (l:List α) (hi:Int) (m:List α):Option (List α):=if 0≤hi∧hi≤l.length∧zcm (hi.toNat + m.length) by_=true then some (l.take hi.toNat++(m++l.drop (hi.toNat + m.length))) else none
def zH0 {α:Type}(l:List α):Option Bool:=match l with|[]=>none|_::_=>some false
def nnO {α:Type}(l:List α):Option (List α):=match l with|[]=>none|a::m=>some (a::m)
def b2sO (l:List Int):Option (List Int):=if l.all (fun n=>decide (0≤n)&&decide (n<256))=true then some l else none
def zjU {α β:Type}(dec:DecidableEq α) (k:α):List (α×β)→Option β
 | []=>none
 | p::l=>bif @decide (k=p.1) (dec k p.1) then some p.2 else zjU dec k l
def zsg {α β:Type}(dec:DecidableEq α) (k:α) (v:β):List (α×β)→List (α×β)
 | []=>[(k,v)]
 | p::l=>bif @decide (k=p.1) (dec k p.1) then (k,v)::l else p::zsg dec k v l
def zJr {α β:Type}(dec:DecidableEq α) (l:List (α×β)) (k:α):Bool:=(zjU dec k l).isSome
def zya {α β:Type}(dec:DecidableEq α) (z:β) (l:List (α×β)) (k:α):β:=(zjU dec k l).getD z
def minT (x y:Int):Int:=if y<x then y else x
def maxT (x y:Int):Int:=if y>x then y else x
def zII (op:BinOp) (k:IntKind) (a b:Int):Option TR :=
 match op with
 | .add=>some (.tot ⟨.int k,k.wrap (a + b)⟩)
 | .sub=>some (.tot ⟨.int k,k.wrap (a - b)⟩)
 | .mul=>some (.tot ⟨.int k,k.wrap (a * b)⟩)
 | .quo=>some (.par (.int k) (quoO k a b))
 | .rem=>some (.par (.int k) (remO a b))
 | .and=>some (.tot ⟨.int k,bAnd k a b⟩)
 | .or=>some (.tot ⟨.int k,bOr k a b⟩)
 | .xor=>some (.tot ⟨.int k,bXor k a b⟩)
 | .andNot=>some (.tot ⟨.int k,zED k a b⟩)
 | .eql=>some (.tot ⟨.bool,decide (a=b)⟩)
 | .neq=>some (.tot ⟨.bool,!decide (a=b)⟩)
 | .lss=>some (.tot ⟨.bool,decide (a<b)⟩)
 | .leq=>some (.tot ⟨.bool,decide (a≤b)⟩)
 | .gtr=>some (.tot ⟨.bool,decide (b<a)⟩)
 | .geq=>some (.tot ⟨.bool,decide (b≤a)⟩)
 | _=>none
def zIG (op:BinOp) (a b:List Int):Option TR :=
 match op with
 | .add=>some (.par .str (catO a b))
 | .eql=>some (.tot ⟨.bool,decide (a=b)⟩)
 | .neq=>some (.tot ⟨.bool,!decide (a=b)⟩)
 | .lss=>some (.tot ⟨.bool,zA3 a b⟩)
 | .leq=>some (.tot ⟨.bool,zA3 a b||decide (a=b)⟩)
 | .gtr=>some (.tot ⟨.bool,!(zA3 a b||decide (a=b))⟩)
 | .geq=>some (.tot ⟨.bool,!zA3 a b⟩)
 | _=>none
def tBin (op:BinOp):List TV→Option TR
 | [⟨.int k,a⟩,⟨.int k',b⟩]=>match op with
  | .shl=>some (.par (.int k) (shlO k a b))
  | .shr=>some (.par (.int k) (shrO k a b))
  | _=>if k=k' then zII op k a b else none
 | [⟨.bool,a⟩,⟨.bool,b⟩]=>match op with
  | .eql=>some (.tot ⟨.bool,@decide (@Eq Bool a b) (instDecidableEqBool a b)⟩)
  | .neq=>some (.tot ⟨.bool,!@decide (@Eq Bool a b) (instDecidableEqBool a b)⟩)
  | _=>none
 | [⟨.str,a⟩,⟨.str,b⟩]=>zIG op a b
 | _=>none
def tUn (op:UnOp):List TV→Option TR
 | [⟨.int k,n⟩]=>match op with
  | .neg=>some (.tot ⟨.int k,bNeg k n⟩)
  | .xor=>some (.tot ⟨.int k,bNot k n⟩)
  | _=>none
 | [⟨.bool,b⟩]=>match op with
  | .not=>some (.tot ⟨.bool,!b⟩)
  | _=>none
 | _=>none
def zzW:(ts:List Ty)→Ty.Tup ts→Nat→Option TV
 | [],_,_=>none
 | a::ts,x,j=>match ts,x with
  | [],x=>match j with|0=>some ⟨a,x⟩|_ + 1=>none
  | b::us,x=>match j with|0=>some ⟨a,x.1⟩|j + 1=>zzW (b::us) x.2 j
def setT:(ts:List Ty)→Ty.Tup ts→Nat→TV→Option (Ty.Tup ts)
 | [],_,_,_=>none
 | a::ts,x,j,v=>match ts,x with
  | [],_=>match j with|0=>v.as a|_ + 1=>none
  | b::us,x=>match j with
   | 0=>match v.as a with|some y=>some (y,x.2)|none=>none
   | j + 1=>match setT (b::us) x.2 j v with|some y=>some (x.1,y)|none=>none
def zIV:(vs:List TV)→Ty.Tup (vs.map TV.τ)
 | []=>()
 | v::vs=>match vs with
  | []=>v.x
  | w::us=>(v.x,zIV (w::us))
def zyA (e:Ty):List TV→Option (List e.T)
 | []=>some []
 | v::vs=>match v.as e with
  | none=>none
  | some x=>match zyA e vs with
   | none=>none
   | some l=>some (x::l)
def tP (p:Prim) (h:Ty) (vs:List TV):Option TR :=
 match p with
 | .bin op=>tBin op vs
 | .un op=>tUn op vs
 | .conv k=>match vs with|[⟨.int _,n⟩]=>some (.tot ⟨.int k,k.wrap n⟩)|_=>none
 | .len=>match vs with|[⟨.sl _,l⟩]=>some (.tot ⟨.int .i64,(List.length l:Int)⟩)|_=>none
 | .get=>match vs with
  | [⟨.sl e,l⟩,⟨.int _,i⟩]=>some (.par e (getO l i))
  | [⟨.arr _ e,l⟩,⟨.int _,i⟩]=>some (.par e (getO l i))
  | _=>none
 | .set=>match vs with
  | [⟨.sl e,l⟩,⟨.int _,i⟩,v]=>match v.as e with|some x=>some (.par (.sl e) (setO l i x))|none=>none
  | [⟨.arr n e,l⟩,⟨.int _,i⟩,v]=>match v.as e with|some x=>some (.par (.arr n e) (setO l i x))|none=>none
  | _=>none
 | .fld j=>match vs with|[⟨.st ts,x⟩]=>(match zzW ts x j with|some v=>some (.tot v)|none=>none)|_=>none
 | .setf j=>match vs with|[⟨.st ts,x⟩,v]=>(match setT ts x j v with|some y=>some (.tot ⟨.st ts,y⟩)|none=>none)|_=>none
 | .mk=>match h with
  | .arr n e=>match zyA e vs with|some l=>some (.tot ⟨.arr n e,l⟩)|none=>none
  | _=>some (.tot ⟨.st (vs.map TV.τ),zIV vs⟩)
 | .mks=>match h with
  | .sl e=>match zyA e vs with|some l=>some (.tot ⟨.sl e,l⟩)|none=>none
  | _=>none
 | .sub=>match vs with|[⟨.sl e,l⟩,⟨.int _,lo⟩,⟨.int _,hi⟩]=>some (.par (.sl e) (subO l lo hi))|_=>none
 | .app b=>match vs with|[⟨.sl e,s⟩,v]=>(match v.as (.sl e) with|some x=>some (.par (.sl e) (appO b s x))|none=>none)|_=>none
 | .zext z b=>match vs with|[⟨.sl e,s⟩,⟨.int _,n⟩]=>if znB e z=true then some (.par (.sl e) (zDC (Ty.rd e z) b s n)) else none|_=>none
 | .rep z b=>match h,vs with|.sl e,[⟨.int _,n⟩,⟨.int _,c⟩]=>if znB e z=true then some (.par (.sl e) (repO (Ty.rd e z) b n c)) else none|_,_=>none
 | .clone b=>match vs with|[⟨.sl e,s⟩]=>some (.par (.sl e) (zaS b s))|_=>none
 | .idx=>match vs with|[⟨.sl _,l⟩,⟨.int k,i⟩]=>some (.par (.int k) (idxO (List.length l) i))|_=>none
 | .idxn n=>match vs with|[⟨.int k,i⟩]=>some (.par (.int k) (idxO n i))|_=>none
 | .idxv=>match vs with|[⟨.int _,lo⟩,⟨.int _,hi⟩,⟨.int _,i⟩]=>some (.par (.int .i64) (zGx lo hi i))|_=>none
 | .rng=>match vs with|[⟨.sl _,l⟩,⟨.int _,lo⟩,⟨.int _,hi⟩]=>some (.par (.int .i64) (rngO (List.length l) lo hi))|_=>none
 | .pick=>match vs with|[⟨.bool,c⟩,⟨τ,a⟩,v]=>(match v.as τ with|some b=>some (.tot ⟨τ,cond c a b⟩)|none=>none)|_=>none
 | .isnil=>match vs with|[⟨.sl _,l⟩]=>some (.par .bool (zH0 l))|_=>none
 | .eqv=>match vs with|[⟨τ,a⟩,v]=>if (τ.flat&&τ.known)=true then (match v.as τ with|some b=>some (.tot ⟨.bool,@decide (a=b) (Ty.dec τ a b)⟩)|none=>none) else none|_=>none
 | .slen=>match vs with|[⟨.str,l⟩]=>some (.tot ⟨.int .i64,(List.length (α:=Int) l:Int)⟩)|_=>none
 | .sget=>match vs with|[⟨.str,l⟩,⟨.int _,i⟩]=>some (.par (.int .u8) (getO (α:=Int) l i))|_=>none
 | .ssub=>match vs with|[⟨.str,l⟩,⟨.int _,lo⟩,⟨.int _,hi⟩]=>some (.par .str (subO (α:=Int) l lo hi))|_=>none
 | .tosl=>match vs with|[⟨.arr _ e,l⟩]=>some (.tot ⟨.sl e,l⟩)|_=>none
 | .clr z=>match vs with|[⟨.sl e,l⟩]=>if znB e z=true then some (.tot ⟨.sl e,(List.replicate (List.length l) (Ty.rd e z):List e.T)⟩) else none|_=>none
 | .cpy=>match vs with
  | [⟨.arr n e,l⟩,v]=>(match v.as (.sl e) with|some m=>some (.tot ⟨.arr n e,(cpyT l m:List e.T)⟩)|none=>none)
  | _=>none
 | .cpyv=>match vs with|[⟨.sl e,l⟩,⟨.int _,lo⟩,⟨.int _,hi⟩,v]=>(match v.as (.sl e) with|some m=>some (.par (.sl e) (zx9 l lo hi m))|none=>none)|_=>none
 | .appv b=>match vs with|[⟨.sl e,l⟩,⟨.int _,hi⟩,v]=>(match v.as (.sl e) with|some m=>some (.par (.sl e) (zxA b l hi m))|none=>none)|_=>none
 | .eqi=>match vs with|[⟨.int _,x⟩,⟨.int k,y⟩]=>some (.par (.int k) (eqiO x y))|_=>none
 | .vlen=>match vs with|[⟨.int _,lo⟩,⟨.int _,hi⟩]=>some (.tot ⟨.int .i64,(Int.sub hi lo:Int)⟩)|_=>none
 | .vadd=>match vs with|[⟨.int _,x⟩,⟨.int _,y⟩]=>some (.tot ⟨.int .i64,(Int.add x y:Int)⟩)|_=>none
 | .rng3=>match vs with|[⟨.sl _,l⟩,⟨.int _,lo⟩,⟨.int _,hi⟩,⟨.int _,mx⟩]=>some (.par (.int .i64) (zGC (List.length l) lo hi mx))|_=>none
 | .rngv=>match vs with|[⟨.sl _,l⟩,⟨.int _,lo⟩,⟨.int _,a⟩,⟨.int _,b⟩]=>some (.par (.int .i64) (zzy (List.length l) lo a b))|_=>none
 | .nn=>match vs with|[⟨.sl e,l⟩]=>some (.par (.sl e) (nnO l))|_=>none
 | .mhas=>match vs with|[⟨.sl (.st [K,V]),l⟩,v]=>if (K.flat&&K.known)=true then (match v.as K with|some k=>some (.tot ⟨.bool,@zJr K.T V.T (Ty.dec K) l k⟩)|none=>none) else none|_=>none
 | .mget z=>match vs with|[⟨.sl (.st [K,V]),l⟩,v]=>if (K.flat&&K.known&&znB V z)=true then (match v.as K with|some k=>some (.tot ⟨V,@zya K.T V.T (Ty.dec K) (Ty.rd V z) l k⟩)|none=>none) else none|_=>none
 | .mput=>match vs with|[⟨.sl (.st [K,V]),l⟩,v,u]=>if (K.flat&&K.known)=true then (match v.as K with|some k=>(match u.as V with|some x=>some (.tot ⟨.sl (.st [K,V]),(@zsg K.T V.T (Ty.dec K) k x l:List (K.T×V.T))⟩)|none=>none)|none=>none) else none|_=>none
 | .b2s=>match vs with|[⟨.sl (.int .u8),l⟩]=>some (.par .str (b2sO l))|_=>none
 | .s2b=>match vs with|[⟨.str,l⟩]=>some (.tot ⟨.sl (.int .u8),l⟩)|_=>none
 | .min2=>match vs with|[⟨.int k,x⟩,⟨.int k',y⟩]=>if k=k' then some (.tot ⟨.int k,minT x y⟩) else none|_=>none
 | .max2=>match vs with|[⟨.int k,x⟩,⟨.int k',y⟩]=>if k=k' then some (.tot ⟨.int k,maxT x y⟩) else none|_=>none
structure FnT where
 ps:List Ty
 rs:List Ty
 sem:Ty.Tup ps→Option (Ty.Tup rs)
structure PnT where
 ps:List Ty
 rs:List Ty
 sem:Ty.Tup ps→Ty.Tup rs
def PnT.fn (p:PnT):FnT:=⟨p.ps,p.rs,fun x=>some (p.sem x)⟩
inductive TA where
 | prim (p:Prim) (as:List At) (k:TA)
 | primH (p:Prim) (h:Ty) (as:List At) (k:TA)
 | mkS (ts:List Ty) (as:List At) (k:TA)
 | mkA (n:Nat) (e:Ty) (as:List At) (k:TA)
 | mkL (e:Ty) (as:List At) (k:TA)
 | call (f:FuncId) (fn:FnT) (as:List At) (m:Nat) (k:TA)
 | callp (f:FuncId) (fn:PnT) (as:List At) (m:Nat) (k:TA)
 | subp (τs:List Ty) (t:TA) (m:Nat) (k:TA)
 | sub0 (τs:List Ty) (t:TA) (m:Nat) (k:TA)
 | sub1 (τs:List Ty) (t:TA) (m:Nat) (k:TA)
 | loop (τs:List Ty) (init:List At) (b:TA)
 | ite (c:At) (t e:TA)
 | jmp (lvl:Nat) (back:Bool) (as:List At)
 | clone (n b:Nat) (e:Ty) (s:At) (k:TA)
 | fail (why:Nat)
def TA.erase:TA→Tree
 | .prim p as k=>.prim p as k.erase
 | .primH p _ as k=>.prim p as k.erase
 | .mkS _ as k=>.prim .mk as k.erase
 | .mkA _ _ as k=>.prim .mk as k.erase
 | .mkL _ as k=>.prim .mks as k.erase
 | .call f _ as m k=>.call f as m k.erase
 | .callp f _ as m k=>.call f as m k.erase
 | .subp _ t m k=>.sub t.erase m k.erase
 | .sub0 _ t m k=>.sub t.erase m k.erase
 | .sub1 _ t m k=>.sub t.erase m k.erase
 | .loop _ init b=>.loop init b.erase
 | .ite c t e=>.ite c t.erase e.erase
 | .jmp l b as=>.jmp l b as
 | .clone n b _ s k=>.sub (.prim .isnil [s] (.ite (.v n) (.jmp 0 false [.c .nil]) (.prim (.app b) [.c (.sl []),s] (.jmp 0 false [.v (n + 1)])))) 1 k.erase
 | .fail w=>.fail w
def live:List Ty→List Ty
 | []=>[]
 | t::l=>match t with|.no=>live l|t=>t::live l
def zvO {α:Type}:List Ty→List α→List α
 | [],_=>[]
 | t::l,as=>match as with
  | []=>[]
  | a::as=>match t with|.no=>zvO l as|_=>a::zvO l as
def vis (k:Nat) (τs:List Ty):List Ty:=match k with|0=>τs|_ + 1=>live τs
def visA {α:Type}(k:Nat) (τs:List Ty) (as:List α):List α:=match k with|0=>as|_ + 1=>zvO τs as
def zuu (k:Nat):Bool:=match k with|2=>true|_=>false
def J:List (Nat×List Ty)→Type
 | []=>Empty
 | (k,τs)::l=>match l with
  | []=>Ty.Tup (vis k τs)
  | _::_=>Sum (Ty.Tup (vis k τs)) (J l)
def nth {α:Type}:List α→Nat→Option α
 | [],_=>none
 | a::_,0=>some a
 | _::l,n + 1=>nth l n
def atV (E:List TV) (n:Nat) (h:Ty):At→Option TV
 | .v i=>if Nat.blt i n then nth E (n - 1 - i) else none
 | .c d=>match d with
  | .int k x=>some ⟨.int k,x⟩
  | .bool b=>some ⟨.bool,b⟩
  | .str s=>some ⟨.str,zdq s⟩
  | d=>if znB h d=true then some ⟨h,Ty.rd h d⟩ else none
def atT (E:List TV) (n:Nat) (τ:Ty):At→Option τ.T
 | .v i=>if Nat.blt i n then match nth E (n - 1 - i) with|some v=>v.as τ|none=>none else none
 | .c d=>if znB τ d=true then some (Ty.rd τ d) else none
def atsV (E:List TV) (n:Nat) (h:Ty):List At→Option (List TV)
 | []=>some []
 | a::l=>match atV E n h a with
  | none=>none
  | some v=>match atsV E n h l with
   | none=>none
   | some vs=>some (v::vs)
def atsT (E:List TV) (n:Nat):(τs:List Ty)→List At→Option (Ty.Tup τs)
 | [],as=>match as with|[]=>some ()|_::_=>none
 | τ::τs,as=>match as with
  | []=>none
  | a::l=>match τs with
   | []=>match l with|[]=>atT E n τ a|_::_=>none
   | b::us=>match atT E n τ a with
    | none=>none
    | some x=>match atsT E n (b::us) l with
     | none=>none
     | some xs=>some (x,xs)
def atsE (E:List TV) (n:Nat) (τ:Ty):List At→Option (List τ.T)
 | []=>some []
 | a::l=>match atT E n τ a with
  | none=>none
  | some x=>match atsE E n τ l with
   | none=>none
   | some xs=>some (x::xs)
def pushT:(τs:List Ty)→Ty.Tup τs→List TV→List TV
 | [],_,E=>E
 | τ::τs,x,E=>match τs,x with
  | [],x=>⟨τ,x⟩::E
  | b::us,x=>pushT (b::us) x.2 (⟨τ,x.1⟩::E)
def tvs:(τs:List Ty)→Ty.Tup τs→List TV
 | [],_=>[]
 | τ::τs,x=>match τs,x with
  | [],x=>[⟨τ,x⟩]
  | b::us,x=>⟨τ,x.1⟩::tvs (b::us) x.2
def zu4:List Ty→List TV→List TV→List TV
 | [],_,E=>E
 | t::ts,vs,E=>match t with
  | .no=>zu4 ts vs (⟨.no,()⟩::E)
  | _=>match vs with
   | []=>zu4 ts [] (⟨.no,()⟩::E)
   | v::vs=>zu4 ts vs (v::E)
def pushL (τs:List Ty) (x:Ty.Tup (live τs)) (E:List TV):List TV:=zu4 τs (tvs (live τs) x) E
def zHs:(τs:List Ty)→Bool→Ty.Tup τs→Ty.Tup τs→Ty.Tup τs
 | [],_,_,_=>()
 | τ::τs,c,x,y=>match τs,x,y with
  | [],x,y=>@cond τ.T c x y
  | b::us,x,y=>(@cond τ.T c x.1 y.1,zHs (b::us) c x.2 y.2)
def asBool (v:Option TV):Option Bool:=match v with|some ⟨.bool,b⟩=>some b|_=>none
def zoo (n:Nat):At→Bool|.v i=>Nat.blt i n|.c _=>true
def jmpJ (E:List TV) (n:Nat) (as:List At) (b:Bool):(lv:List (Nat×List Ty))→Nat→Option (J lv)
 | [],_=>none
 | (k,τs)::l,lvl=>match l with
  | []=>match lvl with
   | 0=>if zuu k=b∧as.length=τs.length∧as.all (zoo n)=true then atsT E n (vis k τs) (visA k τs as) else none
   | _ + 1=>none
  | q::us=>match lvl with
   | 0=>if zuu k=b∧as.length=τs.length∧as.all (zoo n)=true then (match atsT E n (vis k τs) (visA k τs as) with|some x=>some (Sum.inl x)|none=>none) else none
   | lvl + 1=>match jmpJ E n as b (q::us) lvl with|some j=>some (Sum.inr j)|none=>none
def zuM {S R:Type}(f:S→Option (Sum S R)):Nat→S→Option R
 | 0,_=>none
 | n + 1,s=>match f s with
  | none=>none
  | some (.inl s')=>zuM f n s'
  | some (.inr r)=>some r
open Classical in
noncomputable def zaQ {S R:Type}(f:S→Option (Sum S R)) (s:S):Option R :=
 if h:∃ r n,zuM f n s=some r then some (Classical.choose h) else none
def zbm {α β:Type}(o:Option (Sum α β)) (k:α→Option β):Option β:=o.bind fun r=>match r with
 | .inl x=>k x
 | .inr j=>some j
@[simp] theorem zaR {a b x} {k:a→Option b}:zbm (some (.inl x)) k=k x:=rfl
@[simp] theorem zb8 {b a j} {k:b→Option a}:zbm (some (.inr j)) k=some j:=rfl
@[simp] theorem orExit_none {a b} {k:a→Option b}:zbm none k=none:=rfl
def w64 (n:Int):Int:=IntKind.wrap .i64 n
def wu8 (n:Int):Int:=IntKind.wrap .u8 n
def wu32 (n:Int):Int:=IntKind.wrap .u32 n
def wu64 (n:Int):Int:=IntKind.wrap .u64 n
def TA.pden:TA→List TV→Nat→(τs:List Ty)→Option (Ty.Tup τs)
 | .prim p as k,E,n,τs=>match atsV E n .no as with
  | none=>none
  | some vs=>match tP p .no vs with
   | some (.tot v)=>k.pden (v::E) (n + 1) τs
   | _=>none
 | .primH p h as k,E,n,τs=>match atsV E n h as with
  | none=>none
  | some vs=>match tP p h vs with
   | some (.tot v)=>k.pden (v::E) (n + 1) τs
   | _=>none
 | .mkS ts as k,E,n,τs=>match atsT E n ts as with
  | none=>none
  | some x=>k.pden (⟨.st ts,x⟩::E) (n + 1) τs
 | .mkA c e as k,E,n,τs=>match atsE E n e as with
  | none=>none
  | some x=>k.pden (⟨.arr c e,x⟩::E) (n + 1) τs
 | .mkL e as k,E,n,τs=>match atsE E n e as with
  | none=>none
  | some x=>k.pden (⟨.sl e,x⟩::E) (n + 1) τs
 | .callp _ fn as m k,E,n,τs=>match atsT E n fn.ps as with
  | none=>none
  | some x=>if fn.rs.length=m then k.pden (pushT fn.rs (fn.sem x) E) (n + m) τs else none
 | .subp σs t m k,E,n,τs=>match t.pden E n σs with
  | none=>none
  | some x=>if σs.length=m then k.pden (pushT σs x E) (n + m) τs else none
 | .ite c t e,E,n,τs=>match asBool (atV E n .no c) with
  | none=>none
  | some b=>match t.pden E n τs with
   | none=>none
   | some x=>match e.pden E n τs with
    | none=>none
    | some y=>some (zHs τs b x y)
 | .jmp l b as,E,n,τs=>match l,b with
  | 0,false=>atsT E n τs as
  | _,_=>none
 | _,_,_,_=>none
noncomputable def TA.den:TA→List TV→Nat→(lv:List (Nat×List Ty))→Option (J lv)
 | .prim p as k,E,n,lv=>match atsV E n .no as with
  | none=>none
  | some vs=>match tP p .no vs with
   | some (.tot v)=>k.den (v::E) (n + 1) lv
   | some (.par τ o)=>o.bind fun x=>k.den (⟨τ,x⟩::E) (n + 1) lv
   | none=>none
 | .primH p h as k,E,n,lv=>match atsV E n h as with
  | none=>none
  | some vs=>match tP p h vs with
   | some (.tot v)=>k.den (v::E) (n + 1) lv
   | some (.par τ o)=>o.bind fun x=>k.den (⟨τ,x⟩::E) (n + 1) lv
   | none=>none
 | .mkS ts as k,E,n,lv=>match atsT E n ts as with
  | none=>none
  | some x=>k.den (⟨.st ts,x⟩::E) (n + 1) lv
 | .mkA c e as k,E,n,lv=>match atsE E n e as with
  | none=>none
  | some x=>k.den (⟨.arr c e,x⟩::E) (n + 1) lv
 | .mkL e as k,E,n,lv=>match atsE E n e as with
  | none=>none
  | some x=>k.den (⟨.sl e,x⟩::E) (n + 1) lv
 | .call _ fn as m k,E,n,lv=>match atsT E n fn.ps as with
  | none=>none
  | some x=>if fn.rs.length=m then (fn.sem x).bind fun y=>k.den (pushT fn.rs y E) (n + m) lv else none
 | .callp _ fn as m k,E,n,lv=>match atsT E n fn.ps as with
  | none=>none
  | some x=>if fn.rs.length=m then k.den (pushT fn.rs (fn.sem x) E) (n + m) lv else none
 | .subp σs t m k,E,n,lv=>match t.pden E n σs with
  | none=>none
  | some x=>if σs.length=m then k.den (pushT σs x E) (n + m) lv else none
 | .sub0 σs t m k,E,n,lv=>if σs.length=m then (TA.den t E n [(1,σs)]).bind fun x:Ty.Tup (live σs)=>k.den (pushL σs x E) (n + m) lv else none
 | .sub1 σs t m k,E,n,lv=>match lv with
  | []=>none
  | q::us=>if σs.length=m then (TA.den t E n ((1,σs)::q::us)).bind fun (r:Sum (Ty.Tup (live σs)) (J (q::us)))=>match r with
   | .inl x=>k.den (pushL σs x E) (n + m) (q::us)
   | .inr j=>some j
   else none
 | .loop σs init b,E,n,lv=>match lv with
  | []=>none
  | q::us=>if init.length=σs.length∧init.all (zoo n)=true then match atsT E n (live σs) (zvO σs init) with
   | none=>none
   | some x=>zaQ (fun s:Ty.Tup (live σs)=>(TA.den b (pushL σs s E) (n + σs.length) ((2,σs)::q::us):Option (Sum (Ty.Tup (live σs)) (J (q::us))))) x
   else none
 | .ite c t e,E,n,lv=>match asBool (atV E n .no c) with
  | none=>none
  | some b=>if b=true then t.den E n lv else e.den E n lv
 | .jmp l b as,E,n,lv=>jmpJ E n as b lv l
 | .clone c b e s k,E,n,lv=>match atT E n (.sl e) s with
  | none=>none
  | some x=>if Nat.beq c n=true then (zaS b x).bind fun y:List e.T=>k.den (⟨.sl e,y⟩::E) (n + 1) lv else none
 | .fail _,_,_,_=>none
end Go.SX
namespace Go.SX
section
variable {α β:Type} {R:α→β→Prop}
theorem All2.length_eq:∀ {l}{m},All2 R l m→l.length=m.length
 | [],[],_=>rfl
 | _::_,_::_,h=>by simp [All2.length_eq h.2]
 | [],_::_,h=>h.elim
 | _::_,[],h=>h.elim
theorem All2.append:∀ {l b}{m a},All2 R l m→All2 R b a→All2 R (l++b) (m++a)
 | [],_,[],_,_,h=>h
 | _::_,_,_::_,_,h,c=>⟨h.1,All2.append h.2 c⟩
 | [],_,_::_,_,h,_=>h.elim
 | _::_,_,[],_,h,_=>h.elim
theorem All2.take:∀ {l}{m}(n),All2 R l m→All2 R (l.take n) (m.take n)
 | [],[],_,_=>by grind
 | _::_,_::_,0,_=>trivial
 | _::_,_::_,n + 1,h=>⟨h.1,All2.take n h.2⟩
 | [],_::_,_,h=>h.elim
 | _::_,[],_,h=>h.elim
theorem All2.drop:∀ {l}{m}(n),All2 R l m→All2 R (l.drop n) (m.drop n)
 | [],[],_,_=>by grind
 | _::_,_::_,0,h=>h
 | _::_,_::_,n + 1,h=>All2.drop n h.2
 | [],_::_,_,h=>h.elim
 | _::_,[],_,h=>h.elim
theorem All2.get:∀ {l}{m}{n:Nat}{b},All2 R l m→m[n]?=some b→∃ a,l[n]?=some a∧R a b
 | [],[],_,_,_,h=>by grind
 | a::_,_::_,0,_,h,e=>⟨a,rfl,by simp at e;rw [← e];exact h.1⟩
 | _::_,_::_,n + 1,_,h,e=>by simpa using All2.get (n:=n) h.2 (by grind)
 | [],_::_,_,_,h,_=>h.elim
 | _::_,[],_,_,h,_=>h.elim
theorem All2.set:∀ {l}{m}(n) {a}{b},All2 R l m→R a b→All2 R (l.set n a) (m.set n b)
 | [],[],_,_,_,_,_=>by grind
 | _::_,_::_,0,_,_,h,e=>⟨e,h.2⟩
 | _::_,_::_,n + 1,_,_,h,e=>⟨h.1,All2.set n h.2 e⟩
 | [],_::_,_,_,_,h,_=>h.elim
 | _::_,[],_,_,_,h,_=>h.elim
theorem All2.rep {a b}(h:R a b):∀ n,All2 R (List.replicate n a) (List.replicate n b)
 | 0=>trivial
 | n + 1=>⟨h,All2.rep h n⟩
end
theorem zmb {v:TV}{a x d}(h:v.as a=some x) (b:Rl v.τ d v.x):Rl a d x:=by
 unfold TV.as at h
 split at h
 ·rename_i c
  injection h with h
  have e:=Ty.beq_eq c
  subst e
  rw [← h]
  exact b
 grind
mutual
theorem zxK:∀ {f:Ty}{d:D},znB f d=true→Rl f d (Ty.rd f d)
 | .int k,.int k' n,h=>by
  have e  := of_decide_eq_true h
  subst e
  rfl
 | .int k,.bool _,h|.int k,.str _,h|.int k,.agg _,h|.int k,.sl _,h|.int k,.nil,h=>by exact absurd h Bool.false_ne_true
 | .bool,.bool b,h=>rfl
 | .bool,.int _ _,h|.bool,.str _,h|.bool,.agg _,h|.bool,.sl _,h|.bool,.nil,h=>by exact absurd h Bool.false_ne_true
 | .str,.str s,h=>⟨s,rfl,rfl⟩
 | .str,.int _ _,h|.str,.bool _,h|.str,.agg _,h|.str,.sl _,h|.str,.nil,h=>by exact absurd h Bool.false_ne_true
 | .sl e,d,h=>by
  cases d<;>simp only [znB,wA0] at h
  ·exact ⟨_,rfl,zE5 h⟩
  ·exact ⟨[],rfl,trivial⟩
 | .arr n e,d,h=>by
  cases d<;>simp only [znB,wA0] at h
  exact ⟨_,rfl,zE5 h⟩
 | .st c,d,h=>by
  cases d<;>simp [znB] at h
  exact ⟨_,rfl,zIs h⟩
 | .no,d,h=>by grind [znB]
theorem zE5:∀ {e:Ty}{l:List D},l.all (znB e)=true→All2 (Rl e) l (l.map (Ty.rd e))
 | e,[],_=>trivial
 | e,d::l,h=>by
  simp only [List.all_cons,wD0] at h
  exact ⟨zxK h.1,zE5 h.2⟩
theorem zIs:∀ {c:List Ty}{l:List D},zzw c l=true→RlL c l (Ty.rdL c l)
 | [],l,h=>by grind [zzw,RlL]
 | [a],l,h=>by
  cases l with
  | nil=>grind [zzw]
  | cons d m =>
   simp [zzw] at h
   cases m with
   | nil=>exact ⟨d,rfl,zxK h.1⟩
   | cons _ _=>grind
 | a::b::c,l,h=>by
  cases l with
  | nil=>grind [zzw]
  | cons d m =>
   rw [zzw,wD0] at h
   exact ⟨d,m,rfl,zxK h.1,zIs h.2⟩
end
theorem zDz {s t}(h:zdq s=zdq t):s.data.toList=t.data.toList:=by
 unfold zdq at h
 have:∀ l m:List UInt8,l.map (fun b=>(b.toNat:Int))=m.map (fun b=>(b.toNat:Int))→l=m:=by
  intro l
  induction l with
  | nil=>simp
  | cons a l ih =>
   intro m h
   cases m with
   | nil=>grind
   | cons b m =>
    grind [UInt8.toNat_inj]
 grind
theorem zzA {s t}:(s.data.toList=t.data.toList)↔zdq s=zdq t:=by grind [zdq,zDz]
theorem zly {s}:(zdq s).length=s.size:=by simp [zdq]
mutual
theorem zxI:∀ {o:Ty}{d g:D}{x y:o.T},(o.flat&&o.known)=true→Rl o d x→Rl o g y→(d.beq g=true↔x=y)
 | .int k,d,g,x,y,_,h,c=>by
  subst h c
  simp [D.beq]
  grind
 | .bool,d,g,x,y,_,h,c=>by grind [Rl,D.beq]
 | .str,d,g,x,y,_,h,c=>by
  obtain ⟨s,rfl,rfl⟩:=h
  obtain ⟨t,rfl,rfl⟩:=c
  grind [D.beq,zzA]
 | .sl e,d,g,x,y,f,h,c=>by grind [Ty.flat]
 | .arr n e,d,g,x,y,f,h,c=>by
  obtain ⟨l,rfl,h⟩:=h
  obtain ⟨i,rfl,c⟩:=c
  exact zCa (by simpa [Ty.flat,Ty.known] using f) h c
 | .st j,d,g,x,y,f,h,c=>by
  obtain ⟨l,rfl,h⟩:=h
  obtain ⟨i,rfl,c⟩:=c
  exact zC0 (by simpa [Ty.flat,Ty.known] using f) h c
 | .no,d,g,x,y,f,h,c=>by grind [Ty.known]
theorem zCa:∀ {e:Ty}{l i:List D}{x y:List e.T},(e.flat&&e.known)=true→All2 (Rl e) l x→All2 (Rl e) i y→(D.beqL l i=true↔x=y)
 | e,[],[],[],[],_,_,_=>by simp [D.beqL]
 | e,[],_::_,[],_::_,_,_,_=>by simp [D.beqL]
 | e,_::_,[],_::_,[],_,_,_=>by simp [D.beqL]
 | e,a::l,b::i,x::xs,y::ys,f,h,c=>by
  simp [D.beqL]
  rw [zxI f h.1 c.1,zCa f h.2 c.2]
 | e,[],_,_::_,_,_,h,_=>h.elim
 | e,_::_,_,[],_,_,h,_=>h.elim
 | e,_,[],_,_::_,_,_,h=>h.elim
 | e,_,_::_,_,[],_,_,h=>h.elim
theorem zC0:∀ {j:List Ty}{l i:List D}{x y:Ty.Tup j},(Ty.flatL j&&Ty.knownL j)=true→RlL j l x→RlL j i y→(D.beqL l i=true↔x=y)
 | [],l,i,x,y,_,h,c=>by
  subst h c
  simp [D.beqL]
  rfl
 | [a],l,i,x,y,f,h,c=>by
  obtain ⟨d,rfl,h⟩:=h
  obtain ⟨g,rfl,c⟩:=c
  simp only [Ty.flatL,Ty.knownL,Bool.and_true] at f
  simp [D.beqL]
  exact zxI f h c
 | a::b::j,l,i,x,y,f,h,c=>by
  obtain ⟨d,m,rfl,q,r⟩:=h
  obtain ⟨g,m',rfl,u,p⟩:=c
  rw [Ty.flatL,Ty.knownL] at f
  rw [D.beqL,wD0,zxI (by grind) q u,zC0 (by grind) r p]
  grind [Prod.ext_iff]
end
theorem zFf {a d b x y}(e:(a.flat&&a.known)=true) (h:Rl a d x) (c:Rl a b y):d.beq b=@decide (x=y) (Ty.dec a x y):=by
 rw [Bool.eq_iff_iff,zxI e h c]
 simp
def RV (ds:List D) (vs:List TV):Prop:=All2 (fun d (v:TV)=>Rl v.τ d v.x) ds vs
def TROk (o:Option D):TR→Prop
 | .tot v=>∃ d,o=some d∧Rl v.τ d v.x
 | .par τ ox=>∀ x,ox=some x→∃ d,o=some d∧Rl τ d x
theorem RV.one {a v}(h:RV a [v]):∃ d,a=[d]∧Rl v.τ d v.x:=by
 match a,h with
 | [d],h=>exact ⟨d,rfl,h.1⟩
theorem RV.two {a v w}(h:RV a [v,w]):∃ d e,a=[d,e]∧Rl v.τ d v.x∧Rl w.τ e w.x:=by
 match a,h with
 | [d,e],h=>exact ⟨d,e,rfl,h.1,h.2.1⟩
theorem RV.three {a v w u}(h:RV a [v,w,u]):∃ d e f,a=[d,e,f]∧Rl v.τ d v.x∧Rl w.τ e w.x∧Rl u.τ f u.x:=by
 match a,h with
 | [d,e,f],h=>exact ⟨d,e,f,rfl,h.1,h.2.1,h.2.2.1⟩
theorem RV.four {a v w u t}(h:RV a [v,w,u,t]):∃ d e f g,a=[d,e,f,g]∧Rl v.τ d v.x∧Rl w.τ e w.x∧Rl u.τ f u.x∧Rl t.τ g t.x:=by
 match a,h with
 | [d,e,f,g],h=>exact ⟨d,e,f,g,rfl,h.1,h.2.1,h.2.2.1,h.2.2.2.1⟩
theorem zHy {e k a b r}(h:zII e k a b=some r):TROk (binI e k a b) r:=by
 cases e<;>simp only [zII] at h<;>first
  | (injection h with h;subst h;simp [TROk,binI,Rl,bAnd,bOr,bXor,zED];done)
  | skip
 case quo =>
  injection h with h;subst h
  intro x c
  simp only [quoO] at c
  simp only [binI]
  split at c
  ·grind
  ·rename_i d
   rw [if_neg d]
   exact ⟨_,rfl,by grind [Rl]⟩
 case rem =>
  injection h with h;subst h
  intro x c
  simp only [remO] at c
  simp only [binI]
  split at c
  ·grind
  ·rename_i d
   rw [if_neg d]
   exact ⟨_,rfl,by grind [Rl]⟩
 all_goals grind [TROk,binI,Rl]
theorem zvZ:∀ (x y),znA x y=zA3 (x.map fun b=>(b.toNat:Int)) (y.map fun b=>(b.toNat:Int))
 | [],[]=>by rfl
 | _::_,[]=>by rfl
 | [],_::_=>by rfl
 | a::x,b::y=>by
  simp [znA,zA3,zvZ x y]
  have h1:decide ((a.toNat:Int)<(b.toNat:Int))=decide (a<b):=decide_eq_decide.2 (by simp [UInt8.lt_iff_toNat_lt])
  have h2:decide ((a.toNat:Int)=(b.toNat:Int))=(a==b):=by
   grind [UInt8.toNat_inj]
  grind
theorem zGR {b s t r}(h:zIG b (zdq s) (zdq t)=some r):TROk (binS b s t) r:=by
 have c:(s.data.toList==t.data.toList)=decide (zdq s=zdq t):=by
  rw [Bool.eq_iff_iff]
  simp only [beq_iff_eq,vG0]
  exact zzA
 cases b<;>simp only [zIG] at h<;>first
  | (injection h with h;subst h;simp only [TROk,binS,Rl,c,(zvZ _ _)];exact ⟨_,rfl,rfl⟩)
  | skip
 case add =>
  injection h with h;subst h
  intro x a
  simp only [catO,zly] at a
  simp only [binS]
  split at a
  ·rename_i d
   injection a with a
   rw [if_pos d]
   refine ⟨_,rfl,_,rfl,?_⟩
   simp_all [zdq]
  grind
 all_goals grind
theorem zI6 {i j k r}(g:RV k j) (h:tBin i j=some r):TROk (Prim.run (.bin i) k) r:=by
 unfold tBin at h
 split at h
 ·obtain ⟨d,e,rfl,c,b⟩:=g.two
  subst c b
  split at h
  ·injection h with h;subst h
   intro x a
   simp only [shlO] at a
   simp only [Prim.run,binD,shI]
   split at a
   ·grind
   ·rename_i f
    rw [if_neg f]
    exact ⟨_,rfl,by grind [Rl]⟩
  ·injection h with h;subst h
   intro x a
   simp only [shrO] at a
   simp only [Prim.run,binD,shI]
   split at a
   ·grind
   ·rename_i f
    rw [if_neg f]
    exact ⟨_,rfl,by grind [Rl]⟩
  ·split at h
   ·have:=zHy h
    simp_all [Prim.run,binD]
   grind
 ·obtain ⟨d,e,rfl,c,b⟩:=g.two
  subst c b
  split at h
  ·injection h with h;subst h
   refine ⟨_,rfl,?_⟩
   rfl
  ·injection h with h;subst h
   refine ⟨_,rfl,?_⟩
   rfl
  grind
 ·obtain ⟨d,e,rfl,⟨s,c,e1⟩,⟨t,b,e2⟩⟩:=g.two
  grind [Prim.run,binD,zGR]
 grind
theorem zJc {a b c r}(e:RV c b) (h:tUn a b=some r):TROk (Prim.run (.un a) c) r:=by
 unfold tUn at h
 split at h
 ·obtain ⟨d,rfl,f⟩:=e.one
  grind [Rl,TROk,Prim.run,unD,bNeg,bNot]
 ·obtain ⟨d,rfl,f⟩:=e.one
  grind [Rl,TROk,Prim.run,unD]
 grind
theorem zCZ:∀ {c}{x}{j}{v}{l},zzW c x j=some v→RlL c l x→∃ d,l[j]?=some d∧Rl v.τ d v.x
 | [],x,j,v,l,h,_=>by grind [zzW]
 | [a],x,j,v,l,h,e=>by
  obtain ⟨d,rfl,hd⟩:=e
  cases j with
  | zero =>
   grind [zzW]
  | succ j=>grind [zzW]
 | a::b::c,x,j,v,l,h,e=>by
  obtain ⟨d,m,rfl,h1,f⟩:=e
  cases j with
  | zero =>
   grind [zzW]
  | succ j =>
   rw [zzW] at h
   simpa using zCZ h f
theorem zGA:∀ {c}{x y}{j}{v}{l}{d},setT c x j v=some y→RlL c l x→Rl v.τ d v.x→j<l.length∧RlL c (l.set j d) y
 | [],x,y,j,v,l,d,h,_,_=>by grind [setT]
 | [a],x,y,j,v,l,d,h,f,e=>by
  obtain ⟨k,rfl,hd'⟩:=f
  cases j with
  | zero =>
   exact ⟨by simp,d,rfl,zmb h e⟩
  | succ j=>grind [setT]
 | a::b::c,x,y,j,v,l,d,h,f,e=>by
  obtain ⟨k,m,rfl,o,i⟩:=f
  cases j with
  | zero =>
   simp only [setT] at h
   split at h
   ·rename_i z g
    injection h with h
    subst h
    exact ⟨by simp,d,m,rfl,zmb g e,i⟩
   grind
  | succ j =>
   rw [setT] at h
   split at h
   ·rename_i z g
    injection h with h
    subst h
    obtain ⟨g1,n⟩:=zGA g i e
    exact ⟨by grind,k,m.set j d,rfl,o,n⟩
   grind
theorem zCx:∀ {a}{b},RV b a→RlL (a.map TV.τ) b (zIV a)
 | [],[],_=>rfl
 | [v],[d],h=>⟨d,rfl,h.1⟩
 | v::w::a,d::b,h=>⟨d,b,rfl,h.1,zCx h.2⟩
 | [],_::_,h=>h.elim
 | _::_,[],h=>h.elim
 | [_],_::_::_,h=>h.2.elim
theorem zuZ {e}:∀ {a}{b}{l},RV b a→zyA e a=some l→All2 (Rl e) b l
 | [],[],l,_,h=>by
  injection h with h
  subst h
  trivial
 | v::a,d::b,l,c,h=>by
  simp only [zyA] at h
  split at h
  ·grind
  ·rename_i x g
   split at h
   ·grind
   ·rename_i m f
    injection h with h
    subst h
    exact ⟨zmb g c.1,zuZ c.2 f⟩
 | [],_::_,_,h,_=>h.elim
 | _::_,[],_,h,_=>h.elim
end Go.SX
