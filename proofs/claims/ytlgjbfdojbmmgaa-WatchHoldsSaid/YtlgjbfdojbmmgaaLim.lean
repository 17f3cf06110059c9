/- Part 5 of a checked symbolic executor: what a function's code does is read off as a tree over plain data. No condition. -/
import Derived.Test.YtlgjbfdojbmmgaaSx4
import Derived.Tactics
import Derived.ChangeArms
import Derived.ProofKit
set_option linter.unusedSimpArgs false
set_option linter.unusedVariables false
namespace Go.SX
open Go.RowKit (Below)
def zA8:Ex→Exit
 | .normal=>.normal
 | .exit id=>.exit id
 | .ret=>.ret
def zns (P:Program) (c:Code) (Q:Exit→Act→World→Prop) (a:Act) (w:World):Prop :=
 ∀ (b:Frame) (k:List Item) (cs:List Frame),∃ e a' w',Q e a' w'∧Arrives P (lone (b.at a (.code c::.inLoop c::k)) cs w) b k cs e a' w'
theorem znZ {P:Program}{c:Code}{Q:Exit→Act→World→Prop}{a:Act}{w:World}(h:c.wp P (Exit.then (zns P c Q) Q) a w):zns P c Q a w:=by
 intro b k cs
 obtain ⟨e,a₁,w₁,hq,harr⟩:=h b (.inLoop c::k) cs
 cases e with
 | normal =>
  obtain ⟨e₂,a₂,w₂,hq₂,harr₂⟩:=hq b k cs
  exact ⟨e₂,a₂,w₂,hq₂,.of_steps (Steps.trans harr (.one step_inLoop)) harr₂⟩
 | exit id=>exact ⟨_,a₁,w₁,hq,.pass (x:=.inLoop c) rfl (fun _ _=>.inl (by simp)) harr⟩
 | goto l=>exact ⟨_,a₁,w₁,hq,.pass (x:=.inLoop c) rfl (fun _ _=>.inl (by simp)) harr⟩
 | ret=>exact ⟨_,a₁,w₁,hq,.pass (x:=.inLoop c) rfl (fun _ _=>.inl (by simp)) harr⟩
 | panic ch=>exact ⟨_,a₁,w₁,hq,.pass (x:=.inLoop c) rfl (fun _ _=>.inl (by simp)) harr⟩
 | outgrown=>exact ⟨_,a₁,w₁,hq,.pass (x:=.inLoop c) rfl (fun _ _=>.inl (by simp)) harr⟩
theorem zyf {P:Program}{c:Code}{Q:Exit→Act→World→Prop}{a:Act}{w:World}(h:zns P c Q a w):(Code.loop c).wp P Q a w:=fun b k cs =>
 let ⟨e,a',w',hq,harr⟩:=h b k cs
 ⟨e,a',w',hq,.of_steps (.one step_loop) harr⟩
section
variable {C:FuncId→List D→Option (List D)} {k B0:Nat} {w0:World} {Xe:Ctx} {cx:Cx} {inl:FuncId→List SV→Nat→List Root→Option Inl}
def InvS (B0:Nat) (w0:World) (Xe:Ctx) (st:St) (E:List D) (a:Act) (w:World):Prop:=Inv B0 w0 Xe E st.slots st.root (fun r=>r<st.mem.length) a w
theorem InvS.pre {st:St}{E:List D}{a:Act}{w:World}(h:InvS B0 w0 Xe st E a w):∀ (i:Nat) (d:D),Xe.E[i]?=some d→E[i]?=some d:=by
 obtain ⟨X,x1,_,_,_,_,x6,_⟩:=h
 intro i d hi
 rw [← x1]
 exact x6.E i d hi
theorem InvS.more {st:St}{E F:List D}{a:Act}{w:World}(hB0:B0≤w0.heap.size) (h:InvS B0 w0 Xe st E a w):InvS B0 w0 Xe st (E++F) a w:=by
 obtain ⟨X,x1,x2,x3,x4,x5,x6,x7,x8,x9,x10⟩:=h
 obtain ⟨y,m⟩:=x5.moreE (by rw [x2];exact Nat.le_trans hB0 x7.size) (E':=E++F) (fun i d hi=>by rw [x1] at hi;exact get_app hi)
 exact ⟨{ X with E:=E++F },rfl,x2,x3,x4,m,x6.trans y,x7,x8,x9,fun t=>VRep.ext y (x10 t)⟩
theorem InvS.drew {st:St}{E:List D}{a:Act}{w:World}(hB0:B0≤w0.heap.size) (h:InvS B0 w0 Xe st E a w):InvS B0 w0 Xe st E a { w with drawn:=w.drawn + 1 }:=by
 obtain ⟨X,x1,x2,x3,x4,x5,x6,x7,x8,x9,x10⟩:=h
 subst x2
 obtain ⟨y,m⟩:=x5.world (Nat.le_trans hB0 x7.size) (w':=X.w.drew) (Below.refl _ _).drew
 exact ⟨{ X with w:=X.w.drew },x1,rfl,x3,x4,m,x6.trans y,x7.drew,x8,x9,fun t=>VRep.ext y (x10 t)⟩
theorem zs5 {n0:Nat}{H L:St}{sg:List At}{bs:List Bd}(h:zAW n0 H L=some (sg,bs)):za9 bs=true∧sg.length=H.nv - n0∧H.base=L.base:=by
 unfold zAW at h
 generalize coL H.mem H.slots L.slots ⟨L.mem,L.nv,[]⟩=p1 at h
 obtain ⟨s1,c1⟩:=p1
 simp only at h
 generalize zbU H (zmF n0 H s1 c1.m).rh c1=c2 at h
 generalize zbU H ((zmF n0 H s1 c2.m).rh.drop (zmF n0 H s1 c1.m).rh.length) c2=c3 at h
 split at h
 ·rename_i hc
  injection h with h
  injection h with e1 e2
  subst e1 e2
  simp only [wD0] at hc
  obtain ⟨⟨⟨⟨⟨⟨k1,k2⟩,k3⟩,k4⟩,k5⟩,k6⟩,k7⟩:=hc
  exact ⟨k2,zin _ _ _,zam k4⟩
 ·cases h
theorem zb0 {n0:Nat}{H L:St}{sg:List At}{bs:List Bd}(h:fit n0 H L=some (sg,bs)):za9 bs=true∧sg.length=H.nv - n0∧H.base=L.base:=by
 unfold fit at h
 split at h
 ·exact zs5 (H:={ H with slots:=zm3 H.slots }) (L:={ L with slots:=zoI H.slots L.slots }) h
 ·cases h
theorem zb7 (n0:Nat) (H:St) (back:Bool):Shifts C k (zzZ n0 H back):=by
 intro st E
 unfold zzZ
 cases hf:fit n0 H st with
 | none=>exact .inl fun d=>by simp [ev]
 | some p =>
  obtain ⟨sg,bs⟩:=p
  obtain ⟨h1,_,_⟩:=zb0 hf
  simp only
  cases he:zbi bs E with
  | none=>exact .inl fun d=>by rw [zcR h1,he]
  | some E1 =>
   cases hg:gets E1 sg with
   | none=>exact .inl fun d=>by rw [zcR h1,he];simp [ev,hg]
   | some vs=>exact .inr ⟨back,vs,fun d=>by rw [zcR h1,he];simp [ev,hg]⟩
theorem zps (n0:Nat) (H:St) (back:Bool) (d:Nat) (st:St):(zzZ n0 H back d st).shut (d + 1)=true:=by
 unfold zzZ
 cases hf:fit n0 H st with
 | none=>rfl
 | some p =>
  obtain ⟨sg,bs⟩:=p
  obtain ⟨h1,_,_⟩:=zb0 hf
  refine zkT (zoX h1) ?_
  simp [Tree.shut]
theorem zh9 {n0:Nat}{H:St}{back:Bool}{d:Nat}{st:St}{E:List D}{r:Res}(h:ev C k (zzZ n0 H back d st) E=some r):∃ sg bs E1 vs,fit n0 H st=some (sg,bs)∧zbi bs E=some E1∧gets E1 sg=some vs∧r=.jmp d back vs∧vs.length=H.nv - n0∧H.base=st.base:=by
 unfold zzZ at h
 cases hf:fit n0 H st with
 | none=>simp [hf,ev] at h
 | some p =>
  obtain ⟨sg,bs⟩:=p
  obtain ⟨h1,h2,h3⟩:=zb0 hf
  simp only [hf] at h
  rw [zcR h1] at h
  cases he:zbi bs E with
  | none=>simp [he] at h
  | some E1 =>
   simp only [he,ev] at h
   cases hg:gets E1 sg with
   | none=>simp [hg] at h
   | some vs =>
    simp only [hg,wB0] at h
    exact ⟨sg,bs,E1,vs,rfl,he,hg,h.symm,by rw [zcQ hg,h2],h3⟩
theorem ztk {n0:Nat}{t:Tree}(h:t.shut 0=true):(zqY n0 t).shut 0=true:=by
 unfold zqY
 split
 ·exact h
 ·exact h
 ·split
  ·simp only
   split
   ·simp only [Tree.shut,Bool.and_true]
    exact zcn (zps _ _ _) h
   ·exact h
  ·exact h
theorem zlb {body:St→Tree}(hb:∀ st,(body st).shut 0=true) (st H:St) (sg:List At):(zhr body st H sg).shut 0=true:=by
 unfold zhr
 simp only [Tree.shut]
 exact zcn (zps _ _ _) (hb H)
theorem zsX {hd:List (Nat×Nat×St)}{m:Nat}{body:St→Tree}(hb:∀ st,(body st).shut 0=true) (st:St):(zq0 hd m body st).shut 0=true:=by
 unfold zq0
 simp only
 split
 ·split
  ·exact zlb hb _ _ _
  ·rename_i sg bs hf
   obtain ⟨h1,_,_⟩:=zb0 hf
   split
   ·split
    ·simp only [Tree.shut,wD0]
     exact ⟨zkT (zoX h1) (by simp [Tree.shut]),zlb hb _ _ _⟩
    ·rfl
   ·rfl
  ·rfl
 ·rfl
theorem zcZ {draw:Bool}{ops:List Oper}{bf:List Nat}:∀ {rest:List Oper}{i:Nat}{st:St}{kn:List (At×Bool)}{log:List Eff},(zcI cx inl draw ops bf rest i st kn log).shut 0=true
 | [],i,st,kn,log=>by
  simp only [zcI]
  split<;>rfl
 | o::rest,i,st,kn,log=>by
  have go:∀ kn,(match ziz cx inl kn st.slot st.root st.nv st.mem.length i o with
    | none=>Tree.fail (zrw cx inl kn st.slot st.root st.nv st.mem.length o)
    | some e=>ziT e.bs (zcI cx inl draw ops bf rest (i + 1) (st.after e) kn (e::log))).shut 0=true:=fun kn=>by
   split
   ·rfl
   ·rename_i e he
    obtain ⟨s,_,_,_,_,_,_,_,_,_,_,_,hb⟩:=zf9 he
    exact zkT hb zcZ
  simp only [zcI]
  split
  ·exact go kn
  ·exact zcZ
  ·rename_i a want _
   simp only [Tree.shut,wD0]
   cases want with
   | true=>simp only [if_true];exact ⟨go _,zcZ⟩
   | false=>simp only [wA0,if_false];exact ⟨zcZ,go _⟩
  ·rfl
theorem zsr {m:Nat}{t:Tree}(h:t.shut 0=true):(t.fgt m).shut 0=true:=zbc (fun _ _=>rfl) h
theorem zjI {m n0:Nat}{t:Tree}(h:t.shut 0=true):(joinL m n0 t).shut 0=true:=ztk (zsr h)
theorem ztt {hd:List (Nat×Nat×St)}{m:Nat}{body:St→Tree}(hb:∀ st,(body st).shut 0=true) (st:St):(zwj hd m body st).shut 0=true:=zsX (fun s=>zsr (hb s)) _
theorem zb2:∀ (c:Code) (m:Nat) (st:St),(exec cx inl m c st).shut 0=true
 | .skip,_,st=>rfl
 | .label _,_,st=>rfl
 | .region _ ops draw,m,st=>by
  simp only [exec]
  split
  ·rfl
  ·exact zjI zcZ
 | .seq a b,m,st=>by
  simp only [exec]
  exact zbc (fun st n=>zcv (Nat.zero_le n) (zb2 b _ st)) (zb2 a _ st)
 | .cond c x y,m,st=>by
  simp only [exec]
  split
  ·exact zb2 x _ st
  ·exact zb2 y _ st
  ·refine zjI ?_
   simp only [Tree.shut,wD0]
   exact ⟨zb2 x _ st,zb2 y _ st⟩
  ·rfl
 | .block id b,m,st=>by
  simp only [exec]
  exact zjI (zde (zb2 b _ st))
 | .loop b,m,st=>by
  simp only [exec]
  exact ztt (zb2 b _) st
 | .exit _,_,st=>rfl
 | .ret,_,st=>rfl
 | .rangeFunc ..,_,st=>rfl
 | .scope _,_,st=>rfl
 | .goto _,_,st=>rfl
 | .refuse _,_,st=>rfl
def Shape (E:List D) (base:Nat) (r:Res):Prop:=∃ x st' F,r=.fin x st' (E++F)∧(E++F).length=st'.nv∧st'.base=base
theorem zrK {n0:Nat}{t:Tree}{E:List D}{base:Nat}(hE:E.length=n0) (ht:∀ r,ev C k t E=some r→Shape E base r) {r:Res}(h:ev C k (zqY n0 t) E=some r):Shape E base r:=by
 unfold zqY at h
 split at h
 ·exact ht r h
 ·exact ht r h
 ·split at h
  ·simp only at h
   split at h
   ·rename_i hc
    simp only [wD0,Nat.ble_eq] at hc
    simp only [ev] at h
    split at h
    ·cases h
    ·rename_i vs h1
     split at h
     ·rename_i hl
      injection h with h
      subst h
      obtain ⟨r0,q1,q2⟩:=zcd (zb7 _ _ _) h1
      obtain ⟨x,st',F,e,e2,e3⟩:=ht r0 q1
      subst e
      cases x with
      | normal =>
       have q2:ev C k (zzZ _ _ _ _ st') (E++F)=some _:=q2
       obtain ⟨sg,bs,E1,vs',f1,f2,f3,f4,f5,f6⟩:=zh9 q2
       exact ⟨.normal,_,vs,rfl,by rw [wI0,hE,hl];omega,by rw [f6,e3]⟩
      | exit id=>cases q2
      | ret=>cases q2
     ·cases h
    ·rename_i r1 hne h1
     obtain ⟨r0,q1,q2⟩:=zcd (zb7 _ _ _) h1
     obtain ⟨x,st',F,e,e2,e3⟩:=ht r0 q1
     subst e
     cases x with
     | normal =>
      have q2:ev C k (zzZ _ _ _ _ st') (E++F)=some _:=q2
      obtain ⟨sg,bs,E1,vs',f1,f2,f3,f4,f5,f6⟩:=zh9 q2
      exact absurd f4 (hne _ _)
     | exit id =>
      have q2:r1=_:=q2
      subst q2
      simp only [Res.up,wB0] at h
      exact ⟨_,st',F,h.symm,e2,e3⟩
     | ret =>
      have q2:r1=_:=q2
      subst q2
      simp only [Res.up,wB0] at h
      exact ⟨_,st',F,h.symm,e2,e3⟩
   ·exact ht r h
  ·exact ht r h
theorem zke {body:St→Tree}(hb:∀ st E r,ev C k (body st) E=some r→E.length=st.nv→Shape E st.base r) {st H:St}{sg:List At}{E:List D}(hE:E.length=st.nv) (hn:st.nv≤H.nv) (hsg:sg.length=H.nv - st.nv) {r:Res}(h:ev C k (zhr body st H sg) E=some r):Shape E H.base r:=by
 unfold zhr at h
 simp only [ev] at h
 split at h
 ·cases h
 ·rename_i vs0 hg
  split at h
  ·cases h
  ·rename_i r' hi
   have main:∀ (n:Nat) (vs:List D) (r':Res),vs.length=H.nv - st.nv→iter (fun vs=>ev C k ((body H).conv (zzZ st.nv H true) 0) (E++vs)) n vs=some r'→r'.up=some r→Shape E H.base r:=by
    intro n
    induction n with
    | zero=>intro vs r' _ h;simp [iter] at h
    | succ n ih =>
     intro vs r' hvl hi hup
     simp only [iter] at hi
     have step:∀ q,ev C k ((body H).conv (zzZ st.nv H true) 0) (E++vs)=some q→(∃ vs',q=.jmp 0 true vs'∧vs'.length=H.nv - st.nv)∨∃ x st' F,q=.fin x st' (E++F)∧(E++F).length=st'.nv∧st'.base=H.base:=fun q hq=>by
      obtain ⟨r0,q1,q2⟩:=zcd (zb7 _ _ _) hq
      obtain ⟨x,st',F,e,e2,e3⟩:=hb H _ r0 q1 (by rw [wI0,hE,hvl];omega)
      subst e
      cases x with
      | normal =>
       have q2:ev C k (zzZ _ _ _ _ st') (E++vs++F)=some _:=q2
       obtain ⟨sg,bs,E1,vs',f1,f2,f3,f4,f5,f6⟩:=zh9 q2
       exact .inl ⟨vs',f4,f5⟩
      | exit id=>exact .inr ⟨_,st',vs++F,by rw [← vB0];exact q2,by rw [← vB0];exact e2,e3⟩
      | ret=>exact .inr ⟨_,st',vs++F,by rw [← vB0];exact q2,by rw [← vB0];exact e2,e3⟩
     split at hi
     ·rename_i vs' hq
      rcases step _ hq with ⟨vs2,e,hl⟩|⟨x,st',F,e,_⟩
      ·injection e with _ _ e
       subst e
       exact ih _ _ hl hi hup
      ·cases e
     ·rename_i hne
      rcases step _ hi with ⟨vs2,e,hl⟩|⟨x,st',F,e,e2,e3⟩
      ·subst e
       exact absurd hi (hne vs2)
      ·subst e
       simp only [Res.up,wB0] at hup
       exact ⟨x,st',F,hup.symm,e2,e3⟩
   exact main k vs0 r' (by rw [zcQ hg,hsg]) hi h
theorem zrj {hd:List (Nat×Nat×St)}{m:Nat}{body:St→Tree}(hb:∀ st E r,ev C k (body st) E=some r→E.length=st.nv→Shape E st.base r) {st:St}{E:List D}(hE:E.length=st.nv) {r:Res}(h:ev C k (zq0 hd m body st) E=some r):Shape E st.base r:=by
 unfold zq0 at h
 simp only at h
 split at h
 ·rename_i hc
  simp only [wD0,Nat.ble_eq] at hc
  split at h
  ·rename_i sg hf
   obtain ⟨h1,h2,h3⟩:=zb0 hf
   rw [← h3]
   exact zke hb hE hc.2 h2 h
  ·rename_i sg bs _ hf
   obtain ⟨h1,h2,h3⟩:=zb0 hf
   split at h
   ·rename_i hc2
    simp only [wD0,Nat.ble_eq] at hc2
    split at h
    ·rename_i sg' hf2
     obtain ⟨g1,g2,g3⟩:=zb0 hf2
     simp only [ev] at h
     rw [zcR h1] at h
     cases he:zbi bs E with
     | none=>simp [he] at h
     | some E1 =>
      simp only [he] at h
      cases hg:gets E1 sg with
      | none=>simp [ev,hg] at h
      | some vs =>
       simp only [ev,hg] at h
       split at h
       ·rename_i hl
        obtain ⟨x,st',F,e,e2,e3⟩:=zke hb (E:=E++vs) (by rw [wI0,hE,hl];omega) hc2.2 g2 h
        exact ⟨x,st',vs++F,by rw [← vB0];exact e,by rw [← vB0];exact e2,by rw [e3,g3,h3]⟩
       ·cases h
    ·simp [ev] at h
   ·simp [ev] at h
  ·simp [ev] at h
 ·simp [ev] at h
theorem zwT {m:Nat}{t:Tree}{E:List D}{r:Res}(h:ev C k (t.fgt m) E=some r):∃ r0,ev C k t E=some r0∧((∃ st E',r0=.fin .normal st E'∧r=.fin .normal (st.forget m) E')∨((∀ st E',r0≠.fin .normal st E')∧r=r0)):=by
 obtain ⟨r0,h1,h2⟩:=zbn (fun st E r hr=>by
  simp only [ev,wB0] at hr
  subst hr
  exact True.intro) h
 refine ⟨r0,h1,?_⟩
 cases r0 with
 | jmp l b vs=>exact .inr ⟨(fun _ _ e=>by cases e),h2⟩
 | fin x st E' =>
  cases x with
  | normal =>
   have h2:ev C k (.fin .normal (st.forget m)) E'=some r:=h2
   simp only [ev,wB0] at h2
   exact .inl ⟨st,E',rfl,h2.symm⟩
  | exit id=>exact .inr ⟨(fun _ _ e=>by cases e),h2⟩
  | ret=>exact .inr ⟨(fun _ _ e=>by cases e),h2⟩
theorem ziU {m:Nat}{t:Tree}{E:List D}{base:Nat}(ht:∀ r,ev C k t E=some r→Shape E base r) {r:Res}(h:ev C k (t.fgt m) E=some r):Shape E base r:=by
 obtain ⟨r0,h1,h2⟩:=zwT h
 obtain ⟨x,st',F,e,e2,e3⟩:=ht r0 h1
 subst e
 rcases h2 with ⟨st,E',h3,h4⟩|⟨_,h4⟩
 ·injection h3 with q1 q2 q3
  subst q1 q2 q3
  exact ⟨.normal,_,F,h4,e2,e3⟩
 ·exact ⟨x,st',F,h4,e2,e3⟩
theorem ziy {m n0:Nat}{t:Tree}{E:List D}{base:Nat}(hE:E.length=n0) (ht:∀ r,ev C k t E=some r→Shape E base r) {r:Res}(h:ev C k (joinL m n0 t) E=some r):Shape E base r:=zrK hE (fun _ hr=>ziU ht hr) h
theorem zqM {hd:List (Nat×Nat×St)}{m:Nat}{body:St→Tree}(hb:∀ st E r,ev C k (body st) E=some r→E.length=st.nv→Shape E st.base r) {st:St}{E:List D}(hE:E.length=st.nv) {r:Res}(h:ev C k (zwj hd m body st) E=some r):Shape E st.base r :=
 zrj (st:=st.forget m) (fun s E r hr hs=>ziU (fun r hr=>hb s E r hr hs) hr) hE h
theorem zaA:∀ (c:Code) (m:Nat) (st:St) (E:List D) (r:Res),ev C k (exec cx inl m c st) E=some r→E.length=st.nv→Shape E st.base r
 | .skip,m,st,E,r,h,hE=>by simp only [exec,ev,wB0] at h;exact ⟨.normal,st,[],by rw [vN0];exact h.symm,by rw [vN0];exact hE,rfl⟩
 | .label _,m,st,E,r,h,hE=>by simp only [exec,ev,wB0] at h;exact ⟨.normal,st,[],by rw [vN0];exact h.symm,by rw [vN0];exact hE,rfl⟩
 | .exit id,m,st,E,r,h,hE=>by simp only [exec,ev,wB0] at h;exact ⟨.exit id,st,[],by rw [vN0];exact h.symm,by rw [vN0];exact hE,rfl⟩
 | .ret,m,st,E,r,h,hE=>by simp only [exec,ev,wB0] at h;exact ⟨.ret,st,[],by rw [vN0];exact h.symm,by rw [vN0];exact hE,rfl⟩
 | .region _ ops draw,m,st,E,r,h,hE=>by
  simp only [exec] at h
  split at h
  ·simp [ev] at h
  ·refine ziy hE (fun r hr=>?_) h
   obtain ⟨stf,F,es,e1,e2,e3,_⟩:=zdL hr hE (fun a b hm=>by simp at hm)
   exact ⟨.normal,stf,F,e1,e2,e3.all.2.2.2.2.2⟩
 | .seq a b,m,st,E,r,h,hE=>by
  simp only [exec] at h
  obtain ⟨r0,q1,q2⟩:=zbn (fun st E r hr=>zrX (zb2 b _ st) hr) h
  obtain ⟨x,st',F,e,e2,e3⟩:=zaA a _ st E r0 q1 hE
  subst e
  cases x with
  | normal =>
   obtain ⟨y,st2,F2,f1,f2,f3⟩:=zaA b _ st' _ r q2 e2
   exact ⟨y,st2,F++F2,by rw [← vB0];exact f1,by rw [← vB0];exact f2,by rw [f3,e3]⟩
  | exit id=>exact ⟨_,st',F,q2,e2,e3⟩
  | ret=>exact ⟨_,st',F,q2,e2,e3⟩
 | .cond c x y,m,st,E,r,h,hE=>by
  simp only [exec] at h
  split at h
  ·exact zaA x _ st E r h hE
  ·exact zaA y _ st E r h hE
  ·refine ziy hE (fun r hr=>?_) h
   simp only [ev] at hr
   split at hr
   ·exact zaA x _ st E r hr hE
   ·exact zaA y _ st E r hr hE
   ·cases hr
  ·simp [ev] at h
 | .block id b,m,st,E,r,h,hE=>by
  simp only [exec] at h
  refine ziy hE (fun r hr=>?_) h
  obtain ⟨r0,q1,q2⟩:=zdU hr
  obtain ⟨x,st',F,e,e2,e3⟩:=zaA b _ st E r0 q1 hE
  subst e
  exact ⟨_,st',F,q2,e2,e3⟩
 | .loop b,m,st,E,r,h,hE=>by
  simp only [exec] at h
  exact zqM (fun st E r=>zaA b _ st E r) hE h
 | .rangeFunc ..,m,st,E,r,h,hE=>by simp [exec,ev] at h
 | .scope _,m,st,E,r,h,hE=>by simp [exec,ev] at h
 | .goto _,m,st,E,r,h,hE=>by simp [exec,ev] at h
 | .refuse _,m,st,E,r,h,hE=>by simp [exec,ev] at h
end
end Go.SX
namespace Go.SX
open Go.RowKit (Below)
section
variable {C:FuncId→List D→Option (List D)} {k B0:Nat} {w0:World} {Xe:Ctx} {cx:Cx} {inl:FuncId→List SV→Nat→List Root→Option Inl}
def zda (B0:Nat) (w0:World) (Xe:Ctx) (x:Ex) (st:St) (E:List D):Exit→Act→World→Prop:=fun e a w=>e=zA8 x∧InvS B0 w0 Xe st E a w
theorem zjX (hB0:B0≤w0.heap.size) {n0:Nat}{H L:St}{sg:List At}{bs:List Bd}(h:fit n0 H L=some (sg,bs)) (hok:H.okAt=true) (hn:n0≤H.nv) {E0 F:List D}(hE0:E0.length=n0) (hEl:(E0++F).length=L.nv)
  (hXe:∀ (i:Nat) (d:D),Xe.E[i]?=some d→E0[i]?=some d) (hXA:∀ r,Xe.A r→r<L.base) {E1:List D} (hev:zbi bs (E0++F)=some E1) {vs:List D} (hg:gets E1 sg=some vs) {a:Act} {w:World}
  (hinv:InvS B0 w0 Xe L (E0++F) a w):InvS B0 w0 Xe H (E0++vs) a w :=
 (zt1 hB0 h hok hn hE0 hEl hXe hXA hev hg hinv).2.2
theorem zrp (hB0:B0≤w0.heap.size) {c:Code}{n0 base:Nat}{t:Tree}{E:List D}(hE:E.length=n0) (hXe:∀ (i:Nat) (d:D),Xe.E[i]?=some d→E[i]?=some d) (hXA:∀ r,Xe.A r→r<base) {a:Act}{w:World}
  (hs:∀ r,ev C k t E=some r→Shape E base r) (ht:∀ x st' F,ev C k t E=some (.fin x st' (E++F))→c.wp cx.P (zda B0 w0 Xe x st' (E++F)) a w)
  {x:Ex} {st':St} {F:List D} (h:ev C k (zqY n0 t) E=some (.fin x st' (E++F))):c.wp cx.P (zda B0 w0 Xe x st' (E++F)) a w:=by
 unfold zqY at h
 split at h
 ·exact ht _ _ _ h
 ·exact ht _ _ _ h
 ·split at h
  ·simp only at h
   split at h
   ·rename_i hc
    simp only [wD0,Nat.ble_eq] at hc
    simp only [ev] at h
    split at h
    ·cases h
    ·rename_i vs h1
     split at h
     ·rename_i hl
      injection h with h
      injection h with e1 e2 e3
      subst e1 e2
      have e3:=List.append_cancel_left e3
      subst e3
      obtain ⟨r0,q1,q2⟩:=zcd (zb7 _ _ _) h1
      obtain ⟨x,st1,F1,e,e2,e3⟩:=hs r0 q1
      subst e
      cases x with
      | normal =>
       have q2:ev C k (zzZ _ _ _ _ st1) (E++F1)=some _:=q2
       obtain ⟨sg,bs,E1,vs',f1,f2,f3,f4,f5,f6⟩:=zh9 q2
       injection f4 with _ _ f4
       subst f4
       refine wp_mono (ht _ _ _ q1) fun e a' w' ⟨he,hinv⟩=>⟨he,?_⟩
       exact zjX hB0 f1 hc.1.1 hc.1.2 hE e2 hXe (fun r hr=>by rw [e3];exact hXA r hr) f2 f3 hinv
      | exit id=>cases q2
      | ret=>cases q2
     ·cases h
    ·rename_i r1 hne h1
     obtain ⟨r0,q1,q2⟩:=zcd (zb7 _ _ _) h1
     obtain ⟨y,st1,F1,e,e2,e3⟩:=hs r0 q1
     subst e
     cases y with
     | normal =>
      have q2:ev C k (zzZ _ _ _ _ st1) (E++F1)=some _:=q2
      obtain ⟨sg,bs,E1,vs',f1,f2,f3,f4,f5,f6⟩:=zh9 q2
      exact absurd f4 (hne _ _)
     | exit id =>
      have q2:r1=_:=q2
      subst q2
      simp only [Res.up,wB0] at h
      rw [h] at q1
      exact ht _ _ _ q1
     | ret =>
      have q2:r1=_:=q2
      subst q2
      simp only [Res.up,wB0] at h
      rw [h] at q1
      exact ht _ _ _ q1
   ·exact ht _ _ _ h
  ·exact ht _ _ _ h
theorem zkx (hB0:B0≤w0.heap.size) {b:Code}{body:St→Tree}{base:Nat}(hXA:∀ r,Xe.A r→r<base) (hb:∀ st E r,ev C k (body st) E=some r→E.length=st.nv→Shape E st.base r)
  (hbs:∀ st E a w x st' E',ev C k (body st) E=some (.fin x st' E')→E.length=st.nv→st.base=base→InvS B0 w0 Xe st E a w→b.wp cx.P (zda B0 w0 Xe x st' E') a w)
  {st H:St} {sg:List At} {E:List D} (hE:E.length=st.nv) (hXe:∀ (i:Nat) (d:D),Xe.E[i]?=some d→E[i]?=some d) (hn:st.nv≤H.nv) (hok:H.okAt=true) (hbase:H.base=base) {vs0:List D} (hg:gets E sg=some vs0) (hl0:vs0.length=H.nv - st.nv)
  {x:Ex} {st':St} {E':List D} (h:ev C k (zhr body st H sg) E=some (.fin x st' E')) {a:Act} {w:World} (hinv:InvS B0 w0 Xe H (E++vs0) a w):(Code.loop b).wp cx.P (zda B0 w0 Xe x st' E') a w:=by
 unfold zhr at h
 simp only [ev,hg] at h
 split at h
 ·cases h
 ·rename_i r' hi
  refine zyf ?_
  have main:∀ (n:Nat) (vs:List D) (r':Res) (a:Act) (w:World),vs.length=H.nv - st.nv→iter (fun vs=>ev C k ((body H).conv (zzZ st.nv H true) 0) (E++vs)) n vs=some r'→r'.up=some (.fin x st' E')→InvS B0 w0 Xe H (E++vs) a w →
    zns cx.P b (zda B0 w0 Xe x st' E') a w:=by
   intro n
   induction n with
   | zero=>intro vs r' a w _ h;simp [iter] at h
   | succ n ih =>
    intro vs r' a w hvl hi hup hinv
    simp only [iter] at hi
    have hlen:(E++vs).length=H.nv:=by rw [wI0,hE,hvl];omega
    have step:∀ q,ev C k ((body H).conv (zzZ st.nv H true) 0) (E++vs)=some q →
      (∃ vs',q=.jmp 0 true vs'∧vs'.length=H.nv - st.nv∧((∀ a' w',InvS B0 w0 Xe H (E++vs') a' w'→zns cx.P b (zda B0 w0 Xe x st' E') a' w')→zns cx.P b (zda B0 w0 Xe x st' E') a w)) ∨
      ∃ y st1 E1,y≠.normal∧q=.fin y st1 E1∧b.wp cx.P (zda B0 w0 Xe y st1 E1) a w:=fun q hq=>by
     obtain ⟨r0,q1,q2⟩:=zcd (zb7 _ _ _) hq
     obtain ⟨y,st1,F,e,e2,e3⟩:=hb H _ r0 q1 hlen
     subst e
     have hwp:=hbs H _ a w y st1 _ q1 hlen hbase hinv
     cases y with
     | normal =>
      have q2:ev C k (zzZ _ _ _ _ st1) (E++vs++F)=some _:=q2
      obtain ⟨sg',bs',E1,vs',f1,f2,f3,f4,f5,f6⟩:=zh9 q2
      refine .inl ⟨vs',f4,f5,fun hnext=>znZ (wp_mono hwp fun e a' w' ⟨he,hinv'⟩=>?_)⟩
      subst he
      refine hnext a' w' ?_
      rw [vB0] at f2 hinv' e2
      exact zjX hB0 f1 hok hn hE e2 hXe (fun r hr=>by rw [e3,hbase];exact hXA r hr) f2 f3 hinv'
     | exit id=>exact .inr ⟨_,st1,_,by simp,q2,hwp⟩
     | ret=>exact .inr ⟨_,st1,_,by simp,q2,hwp⟩
    split at hi
    ·rename_i vs' hq
     rcases step _ hq with ⟨vs2,e,hl,hgo⟩|⟨y,st1,E1,_,e,_⟩
     ·injection e with _ _ e
      subst e
      exact hgo fun a' w' hinv'=>ih _ _ a' w' hl hi hup hinv'
     ·cases e
    ·rename_i hne
     rcases step _ hi with ⟨vs2,e,hl,hgo⟩|⟨y,st1,E1,hy,e,hwp⟩
     ·subst e
      exact absurd hi (hne vs2)
     ·subst e
      simp only [Res.up,wB0] at hup
      injection hup with e1 e2 e3
      subst e1 e2 e3
      refine znZ (wp_mono hwp fun e a' w' ⟨he,hinv'⟩=>?_)
      subst he
      cases y with
      | normal=>exact absurd rfl hy
      | exit id=>exact ⟨rfl,hinv'⟩
      | ret=>exact ⟨rfl,hinv'⟩
  exact main k vs0 r' a w hl0 hi h hinv
theorem zre {hd:List (Nat×Nat×St)}{m:Nat}(hB0:B0≤w0.heap.size) {b:Code}{body:St→Tree}{base:Nat}(hXA:∀ r,Xe.A r→r<base) (hb:∀ st E r,ev C k (body st) E=some r→E.length=st.nv→Shape E st.base r)
  (hbs:∀ st E a w x st' E',ev C k (body st) E=some (.fin x st' E')→E.length=st.nv→st.base=base→InvS B0 w0 Xe st E a w→b.wp cx.P (zda B0 w0 Xe x st' E') a w)
  {st:St} {E:List D} (hE:E.length=st.nv) (hbase:st.base=base) {x:Ex} {st':St} {E':List D} (h:ev C k (zq0 hd m body st) E=some (.fin x st' E')) {a:Act} {w:World} (hinv:InvS B0 w0 Xe st E a w):(Code.loop b).wp cx.P (zda B0 w0 Xe x st' E') a w:=by
 have hXe:=hinv.pre
 unfold zq0 at h
 simp only at h
 split at h
 ·rename_i hc
  simp only [wD0,Nat.ble_eq] at hc
  split at h
  ·rename_i sg hf
   obtain ⟨h1,h2,h3⟩:=zb0 hf
   have hg:∃ vs,gets E sg=some vs:=by
    unfold zhr at h
    simp only [ev] at h
    cases hg:gets E sg with
    | none=>simp [hg] at h
    | some vs=>exact ⟨vs,rfl⟩
   obtain ⟨vs,hg⟩:=hg
   have hinvH:=zjX hB0 (F:=[]) hf hc.1 hc.2 hE (by rw [vN0];exact hE) hXe (fun r hr=>by rw [hbase];exact hXA r hr) (E1:=E) (by rw [vN0];rfl) hg (by rw [vN0];exact hinv)
   exact zkx hB0 hXA hb hbs hE hXe hc.2 hc.1 (by rw [h3,hbase]) hg (by rw [zcQ hg,h2]) h hinvH
  ·rename_i sg bs _ hf
   obtain ⟨h1,h2,h3⟩:=zb0 hf
   split at h
   ·rename_i hc2
    simp only [wD0,Nat.ble_eq] at hc2
    split at h
    ·rename_i sg' hf2
     obtain ⟨g1,g2,g3⟩:=zb0 hf2
     simp only [ev] at h
     rw [zcR h1] at h
     cases he:zbi bs E with
     | none=>simp [he] at h
     | some E1 =>
      simp only [he] at h
      cases hg:gets E1 sg with
      | none=>simp [ev,hg] at h
      | some vs =>
       simp only [ev,hg] at h
       split at h
       ·rename_i hl
        have hinvH:=zjX hB0 (F:=[]) hf hc.1 hc.2 hE (by rw [vN0];exact hE) hXe (fun r hr=>by rw [hbase];exact hXA r hr) (E1:=E1) (by rw [vN0];exact he) hg (by rw [vN0];exact hinv)
        have hE':(E++vs).length=(zsf hd m body st).nv:=by rw [wI0,hE,hl];omega
        have hXe':=hinvH.pre
        have hb':(zsf hd m body st).base=base:=by rw [h3,hbase]
        have hg':∃ vs',gets (E++vs) sg'=some vs':=by
         unfold zhr at h
         simp only [ev] at h
         cases hg:gets (E++vs) sg' with
         | none=>simp [hg] at h
         | some vs=>exact ⟨vs,rfl⟩
        obtain ⟨vs',hg'⟩:=hg'
        have hinvH':=zjX hB0 (F:=[]) hf2 hc2.1 hc2.2 hE' (by rw [vN0];exact hE') hXe' (fun r hr=>by rw [hb'];exact hXA r hr) (E1:=E++vs) (by rw [vN0];rfl) hg' (by rw [vN0];exact hinvH)
        exact zkx hB0 hXA hb hbs hE' hXe' hc2.2 hc2.1 (by rw [g3,hb']) hg' (by rw [zcQ hg',g2]) h hinvH'
       ·cases h
    ·simp [ev] at h
   ·simp [ev] at h
  ·simp [ev] at h
 ·simp [ev] at h
theorem znN (m:Nat):∀ (l:List SV) (i t:Nat),((forget m i l)[t]?).getD (.un 1)=(l[t]?).getD (.un 1)∨((forget m i l)[t]?).getD (.un 1)=.un 1
 | [],i,t=>.inl rfl
 | s::l,i,0=>by
  simp only [forget]
  split
  ·exact .inl rfl
  ·exact .inr rfl
 | s::l,i,t + 1=>by
  simp only [forget]
  simpa using znN m l (i + 1) t
theorem znT (m:Nat):∀ (l:List SV) (i:Nat),(forget m i l).length=l.length
 | [],_=>rfl
 | s::l,i=>by simp [forget,znT m l]
theorem InvS.forget {st:St}{E:List D}{a:Act}{w:World}(h:InvS B0 w0 Xe st E a w) (m:Nat):InvS B0 w0 Xe (st.forget m) E a w:=by
 obtain ⟨X,x1,x2,x3,x4,x5,x6,x7,x8,x9,x10⟩:=h
 refine ⟨X,x1,x2,x3,x4,x5,x6,x7,by rw [x8];exact (znT m _ _).symm,x9,fun t=>?_⟩
 have:=x10 t
 rcases znN m st.slots 0 t with h|h
 ·show VRep X (((Go.SX.forget m 0 st.slots)[t]?).getD (.un 1)) _
  rw [h];exact this
 ·show VRep X (((Go.SX.forget m 0 st.slots)[t]?).getD (.un 1)) _
  rw [h];simp only [VRep]
theorem zwP {c:Code}{m:Nat}{t:Tree}{E:List D}{a:Act}{w:World}(ht:∀ x st' E',ev C k t E=some (.fin x st' E')→c.wp cx.P (zda B0 w0 Xe x st' E') a w)
  {x:Ex} {st':St} {E':List D} (h:ev C k (t.fgt m) E=some (.fin x st' E')):c.wp cx.P (zda B0 w0 Xe x st' E') a w:=by
 obtain ⟨r0,h1,h2⟩:=zwT h
 rcases h2 with ⟨st,E2,h3,h4⟩|⟨_,h4⟩
 ·subst h3
  injection h4 with q1 q2 q3
  subst q1 q2 q3
  exact wp_mono (ht _ _ _ h1) fun e a' w' ⟨he,hinv⟩=>⟨he,hinv.forget m⟩
 ·subst h4
  exact ht _ _ _ h1
theorem zhN (hB0:B0≤w0.heap.size) {c:Code}{m n0 base:Nat}{t:Tree}{E:List D}(hE:E.length=n0) (hXe:∀ (i:Nat) (d:D),Xe.E[i]?=some d→E[i]?=some d) (hXA:∀ r,Xe.A r→r<base) {a:Act}{w:World}
  (hs:∀ r,ev C k t E=some r→Shape E base r) (ht:∀ x st' F,ev C k t E=some (.fin x st' (E++F))→c.wp cx.P (zda B0 w0 Xe x st' (E++F)) a w)
  {x:Ex} {st':St} {F:List D} (h:ev C k (joinL m n0 t) E=some (.fin x st' (E++F))):c.wp cx.P (zda B0 w0 Xe x st' (E++F)) a w :=
 zrp hB0 hE hXe hXA (fun _ hr=>ziU hs hr) (fun x st' F hr=>zwP (fun y st1 E1 hr=>by
  obtain ⟨y',st2,F2,e,_,_⟩:=hs _ hr
  injection e with q1 q2 q3
  subst q1 q2 q3
  exact ht _ _ _ hr) hr) h
theorem zqX {hd:List (Nat×Nat×St)}(hB0:B0≤w0.heap.size) {b:Code}{m:Nat}{body:St→Tree}{base:Nat}(hXA:∀ r,Xe.A r→r<base) (hb:∀ st E r,ev C k (body st) E=some r→E.length=st.nv→Shape E st.base r)
  (hbs:∀ st E a w x st' E',ev C k (body st) E=some (.fin x st' E')→E.length=st.nv→st.base=base→InvS B0 w0 Xe st E a w→b.wp cx.P (zda B0 w0 Xe x st' E') a w)
  {st:St} {E:List D} (hE:E.length=st.nv) (hbase:st.base=base) {x:Ex} {st':St} {E':List D} (h:ev C k (zwj hd m body st) E=some (.fin x st' E')) {a:Act} {w:World} (hinv:InvS B0 w0 Xe st E a w):(Code.loop b).wp cx.P (zda B0 w0 Xe x st' E') a w :=
 zre hB0 (st:=st.forget m) hXA (fun s E r hr hs=>ziU (fun r hr=>hb s E r hr hs) hr) (fun s E a w x st' E' hr hs hbs2 hi=>zwP (fun y st1 E1 hr=>hbs s E a w y st1 E1 hr hs hbs2 hi) hr) hE hbase h (hinv.forget m)
theorem zbR (ty:TysOk cx) (hC:CallsOk cx C) (hI:InlOk cx C k inl) (hmix:cx.P.follows .mixedOrders=true) (hB0:B0≤w0.heap.size) {base:Nat}(hXA:∀ r,Xe.A r→r<base) :
  ∀ (c:Code) (m:Nat) (st:St) (E:List D) (a:Act) (w:World) (x:Ex) (st':St) (E':List D),ev C k (exec cx inl m c st) E=some (.fin x st' E')→E.length=st.nv→st.base=base→InvS B0 w0 Xe st E a w→c.wp cx.P (zda B0 w0 Xe x st' E') a w
 | .skip,m,st,E,a,w,x,st',E',h,hE,hb,hinv=>by
  simp only [exec,ev,wB0] at h
  injection h with e1 e2 e3
  subst e1 e2 e3
  exact wp_skip ⟨rfl,hinv⟩
 | .label _,m,st,E,a,w,x,st',E',h,hE,hb,hinv=>by
  simp only [exec,ev,wB0] at h
  injection h with e1 e2 e3
  subst e1 e2 e3
  exact wp_label ⟨rfl,hinv⟩
 | .exit id,m,st,E,a,w,x,st',E',h,hE,hb,hinv=>by
  simp only [exec,ev,wB0] at h
  injection h with e1 e2 e3
  subst e1 e2 e3
  exact wp_exit ⟨rfl,hinv⟩
 | .ret,m,st,E,a,w,x,st',E',h,hE,hb,hinv=>by
  simp only [exec,ev,wB0] at h
  injection h with e1 e2 e3
  subst e1 e2 e3
  exact wp_ret ⟨rfl,hinv⟩
 | .region id ops draw,m,st,E,a,w,x,st',E',h,hE,hb,hinv=>by
  obtain ⟨x',st1,F,e,e2,e3⟩:=zaA _ _ _ _ _ h hE
  injection e with q1 q2 q3
  subst q1 q2 q3
  simp only [exec] at h
  split at h
  ·simp [ev] at h
  ·rename_i hed
   have hs:∀ r,ev C k (zcI cx inl draw ops.toList (if draw=true then beforeL ops.toList [] else []) ops.toList 0 st [] []) E=some r→Shape E st.base r:=fun r hr=>by
    obtain ⟨stf,F,es,e1,e2,e3,_⟩:=zdL hr hE (fun a b hm=>by simp at hm)
    exact ⟨.normal,stf,F,e1,e2,e3.all.2.2.2.2.2⟩
   refine zhN hB0 (base:=st.base) hE hinv.pre (fun r hr=>by rw [hb];exact hXA r hr) hs (fun y st1 F1 hr=>?_) h
   obtain ⟨stf,F2,es,e1,e2,e3,e4⟩:=zdL hr hE (fun a b hm=>by simp at hm)
   injection e1 with p1 p2 p3
   subst p1 p2
   have p3:=List.append_cancel_left p3
   subst p3
   cases draw with
   | false=>exact wp_region (zrz ty hC hI hB0 e3 (fun a w h=>⟨rfl,h⟩) (hinv.more hB0))
   | true =>
    simp only [if_true,List.reverse_nil,vA1,true_implies] at e4
    refine wp_region_any hmix (zs8 ty hC hI hB0 e3 e4 ?_ (fun a w h=>⟨rfl,h⟩) ((hinv.more hB0).drew hB0))
    simpa using hed
 | .seq c1 c2,m,st,E,a,w,x,st',E',h,hE,hb,hinv=>by
  simp only [exec] at h
  obtain ⟨r0,q1,q2⟩:=zbn (fun st E r hr=>zrX (zb2 c2 _ st) hr) h
  obtain ⟨y,st1,F,e,e2,e3⟩:=zaA c1 _ st E r0 q1 hE
  subst e
  have h1:=zbR ty hC hI hmix hB0 hXA c1 _ st E a w _ _ _ q1 hE hb hinv
  refine wp_seq (wp_mono h1 fun e a' w' ⟨he,hinv'⟩=>?_)
  subst he
  cases y with
  | normal=>exact zbR ty hC hI hmix hB0 hXA c2 _ st1 _ a' w' _ _ _ q2 e2 (by rw [e3,hb]) hinv'
  | exit id =>
   have q2:(Res.fin x st' E')=_:=q2
   injection q2 with p1 p2 p3
   subst p1 p2 p3
   exact ⟨rfl,hinv'⟩
  | ret =>
   have q2:(Res.fin x st' E')=_:=q2
   injection q2 with p1 p2 p3
   subst p1 p2 p3
   exact ⟨rfl,hinv'⟩
 | .cond c c1 c2,m,st,E,a,w,x,st',E',h,hE,hb,hinv=>by
  obtain ⟨x',st1,F,e,e2,e3⟩:=zaA _ _ _ _ _ h hE
  injection e with q1 q2 q3
  subst q1 q2 q3
  obtain ⟨X,x1,x2,x3,x4,x5,x6,x7,x8,x9,x10⟩:=id hinv
  have hv:=zaV (zac (ρ:=st.slot) x10 c)
  simp only [exec] at h
  split at h
  ·rename_i hc
   rw [hc] at hv
   obtain ⟨d,hd,hdv⟩:=VRep.data.1 hv
   simp only [At.get,wB0] at hd
   subst hd
   obtain ⟨b',h1,h2⟩:=hdv.bool
   injection h1 with h1
   subst h1
   exact wp_cond_true h2 (zbR ty hC hI hmix hB0 hXA c1 _ st E a w _ _ _ h hE hb hinv)
  ·rename_i hc
   rw [hc] at hv
   obtain ⟨d,hd,hdv⟩:=VRep.data.1 hv
   simp only [At.get,wB0] at hd
   subst hd
   obtain ⟨b',h1,h2⟩:=hdv.bool
   injection h1 with h1
   subst h1
   exact wp_cond_false h2 (zbR ty hC hI hmix hB0 hXA c2 _ st E a w _ _ _ h hE hb hinv)
  ·rename_i at_ _ _ hc
   rw [hc] at hv
   obtain ⟨d,hd,hdv⟩:=VRep.data.1 hv
   obtain ⟨b',h1,h2⟩:=hdv.bool
   subst h1
   rw [x1] at hd
   have hs:∀ r,ev C k (.ite at_ (exec cx inl m c1 st) (exec cx inl m c2 st)) E=some r→Shape E st.base r:=fun r hr=>by
    simp only [ev] at hr
    split at hr
    ·exact zaA c1 _ st E r hr hE
    ·exact zaA c2 _ st E r hr hE
    ·cases hr
   refine zhN hB0 (base:=st.base) hE hinv.pre (fun r hr=>by rw [hb];exact hXA r hr) hs (fun y st1 F1 hr=>?_) h
   simp only [ev,hd] at hr
   cases b' with
   | true=>exact wp_cond_true h2 (zbR ty hC hI hmix hB0 hXA c1 _ st E a w _ _ _ hr hE hb hinv)
   | false=>exact wp_cond_false h2 (zbR ty hC hI hmix hB0 hXA c2 _ st E a w _ _ _ hr hE hb hinv)
  ·simp [ev] at h
 | .block id b,m,st,E,a,w,x,st',E',h,hE,hb,hinv=>by
  obtain ⟨x',st1,F,e,e2,e3⟩:=zaA _ _ _ _ _ h hE
  injection e with q1 q2 q3
  subst q1 q2 q3
  simp only [exec] at h
  have hs:∀ r,ev C k ((exec cx inl m b st).ends fun|.exit id'=>if Nat.beq id id' then .normal else .exit id'|x=>x) E=some r→Shape E st.base r:=fun r hr=>by
   obtain ⟨r0,q1,q2⟩:=zdU hr
   obtain ⟨x,st',F,e,e2,e3⟩:=zaA b _ st E r0 q1 hE
   subst e
   exact ⟨_,st',F,q2,e2,e3⟩
  refine zhN hB0 (base:=st.base) hE hinv.pre (fun r hr=>by rw [hb];exact hXA r hr) hs (fun y st1 F1 hr=>?_) h
  obtain ⟨r0,q1,q2⟩:=zdU hr
  obtain ⟨z,st2,F2,e,e2,e3⟩:=zaA b _ st E r0 q1 hE
  subst e
  simp only [Res.ends] at q2
  injection q2 with p1 p2 p3
  subst p1 p2
  have p3:=List.append_cancel_left p3
  subst p3
  have h1:=zbR ty hC hI hmix hB0 hXA b _ st E a w _ _ _ q1 hE hb hinv
  refine wp_block (wp_mono h1 fun e a' w' ⟨he,hinv'⟩=>?_)
  subst he
  cases z with
  | normal=>exact ⟨rfl,hinv'⟩
  | ret=>exact ⟨rfl,hinv'⟩
  | exit id' =>
   simp only [zA8,Exit.inBlock]
   by_cases hid:id'=id
   ·subst hid
    rw [if_pos rfl,if_pos (Nat.beq_refl _)]
    exact ⟨rfl,hinv'⟩
   ·rw [if_neg hid,if_neg (fun hq=>hid (zam hq).symm)]
    exact ⟨rfl,hinv'⟩
 | .loop b,m,st,E,a,w,x,st',E',h,hE,hb,hinv=>by
  simp only [exec] at h
  exact zqX hB0 hXA (fun st E r=>zaA b _ st E r) (fun st E a w x st' E' h1 h2 h3 h4=>zbR ty hC hI hmix hB0 hXA b _ st E a w x st' E' h1 h2 h3 h4) hE hb h hinv
 | .rangeFunc ..,m,st,E,a,w,x,st',E',h,hE,hb,hinv=>by simp [exec,ev] at h
 | .scope _,m,st,E,a,w,x,st',E',h,hE,hb,hinv=>by simp [exec,ev] at h
 | .goto _,m,st,E,a,w,x,st',E',h,hE,hb,hinv=>by simp [exec,ev] at h
 | .refuse _,m,st,E,a,w,x,st',E',h,hE,hb,hinv=>by simp [exec,ev] at h
end
end Go.SX
namespace Go.SX
open Go.RowKit (Below)
section
variable {C:FuncId→List D→Option (List D)} {k B0:Nat} {X:Ctx} {cx:Cx}
theorem zr0 {X:Ctx}:∀ {l:List SV}{vs:List Value},vs.length=l.length→(∀ t,t<l.length→VRep X ((l[t]?).getD (.un 1)) ((vs[t]?).getD undef))→VRepL X l vs
 | [],vs,hl,_=>by
  simp only [VRepL]
  exact vO0 hl
 | s::l,[],hl,_=>by simp at hl
 | s::l,v::r,hl,h=>by
  simp only [VRepL]
  refine ⟨v,r,rfl,by simpa using h 0 (by simp),zr0 (by simpa using hl) fun t ht=>?_⟩
  have:=h (t + 1) (by simpa using ht)
  simpa using this
theorem ztZ {X:Ctx}{fn:Func}{args:List SV}{vals:Array Value}(h:VRepL X args vals.toList) :
  (vals++Array.replicate (fn.ntmps - vals.size) undef).size=(args++List.replicate (fn.ntmps - args.length) (SV.un 1)).length ∧
   ∀ t,VRep X (((args++List.replicate (fn.ntmps - args.length) (SV.un 1))[t]?).getD (.un 1)) ((vals++Array.replicate (fn.ntmps - vals.size) undef).getD t undef):=by
 have hl:vals.size=args.length:=by simpa using VRepL.length h
 refine ⟨by simp [hl],fun t=>?_⟩
 rcases vU0 t args.length with hlt|hge
 ·rw [List.getElem?_append_left hlt,wF0 hlt]
  obtain ⟨v,e,hv⟩:=h.get (wF0 hlt)
  have e':vals[t]?=some v:=by simpa using e
  simp only [vJ0]
  rw [Array.getElem?_append_left (by omega),e']
  exact hv
 ·rw [List.getElem?_append_right hge,List.getElem?_replicate]
  have:((if t - args.length<fn.ntmps - args.length then some (SV.un 1) else none).getD (.un 1))=.un 1:=by split<;>rfl
  rw [this]
  simp only [VRep]
def zpF (tmps:Array Value):ResultVar→Sem Value
 | .tmp t=>pure (tmps.getD t undef)
 | .cell a t=>do loadVar t (← asAddr (tmps.getD a undef))
theorem zuP (ty:TysOk cx) {X:Ctx}{st:St}{tmps:Array Value}(m:Mem B0 X) (hμ:X.μ=st.root) (hv:∀ t,VRep X (st.slot t) (tmps.getD t undef)) {r:ResultVar}{s:SV}(h:zsn cx st r=some s) :
  ∃ v,(zpF tmps r).run cx.P X.w=.ok v X.w∧VRep X s v:=by
 cases r with
 | tmp t =>
  simp only [zsn,wB0] at h
  subst h
  exact ⟨_,by simp [zpF],hv t⟩
 | cell t ty' =>
  simp only [zsn] at h
  split at h
  ·rename_i R T r hs
   split at h
   ·rename_i hc
    simp only [wD0] at hc
    have hT:=Ty.beq_eq hc.1
    subst hT
    split at h
    ·rename_i v nv up ab foot hrun
     injection h with h
     subst h
     have hp:=hv t
     rw [hs] at hp
     simp only [VRep,Ref] at hp
     obtain ⟨hA,b,off,p1,p2,p3,p4⟩:=hp
     obtain ⟨_,_,g3,cs,g4,g5⟩:=zla (C:=fun _ _=>none) (k:=0) m rfl (by rw [hμ];exact ⟨foot,hrun⟩) (by simp only [Sat]) hA p2 p3 p4
     obtain ⟨u,hr,hu⟩:=zhe ty rfl hc.2 g3 g4 g5
     exact ⟨u,by rw [zpF,p1];simp [asAddr,hr],hu⟩
    ·cases h
   ·cases h
  ·cases h
theorem zpo (ty:TysOk cx) {X:Ctx}{st:St}{tmps:Array Value}(m:Mem B0 X) (hμ:X.μ=st.root) (hv:∀ t,VRep X (st.slot t) (tmps.getD t undef)):∀ {rs:List ResultVar}{l:List SV},zqt cx st rs=some l →
  ∃ vs,(rs.mapM (zpF tmps)).run cx.P X.w=.ok vs X.w∧VRepL X l vs
 | [],l,h=>by
  simp only [zqt,wB0] at h
  subst h
  exact ⟨[],by simp,by simp only [VRepL]⟩
 | r::rs,l,h=>by
  simp only [zqt] at h
  split at h
  ·cases h
  ·rename_i s hs
   split at h
   ·cases h
   ·rename_i l' hl'
    injection h with h
    subst h
    obtain ⟨v,h1,h2⟩:=zuP ty m hμ hv hs
    obtain ⟨vs,h3,h4⟩:=zpo ty m hμ hv hl'
    refine ⟨v::vs,by simp [List.mapM_cons,h1,h3],?_⟩
    simp only [VRepL]
    exact ⟨v,vs,rfl,h2,h4⟩
theorem InvS.res (ty:TysOk cx) {w0:World}{Xe:Ctx}{fn:Func}{st:St}{E:List D}{a:Act}{w:World}(h:InvS B0 w0 Xe st E a w) {l:List SV}(hl:zcq cx fn st=some l) :
  ∃ vs:List Value,(results fn a.tmps).run cx.P w=.ok (zmy vs) w∧InvS B0 w0 Xe { st with slots:=l } E { tmps:=vs.toArray,defers:=[] } w:=by
 obtain ⟨X,x1,x2,x3,x4,x5,x6,x7,x8,x9,x10⟩:=h
 obtain ⟨vs,h1,h2⟩:=zpo ty x5 x3 x10 hl
 refine ⟨vs,?_,X,x1,x2,x3,x4,x5,x6,x7,by simp [VRepL.length h2],rfl,fun t=>?_⟩
 ·have h':fn.results=fn.results.toList.toArray:=by simp
  rw [← x2]
  have e:results fn a.tmps=(do
    let vs←fn.results.mapM (zpF a.tmps)
    pure (if h:vs.size=1 then vs[0] else .tuple vs)):=rfl
  rw [e,h']
  simp only [List.mapM_toArray]
  simp [h1]
  match vs with
  | []=>rfl
  | [u]=>rfl
  | u::v::r=>rw [dif_neg (by simp)];rfl
 ·simp only
  cases ht:l[t]? with
  | none =>
   simp only [Option.getD_none,VRep]
  | some s =>
   obtain ⟨v,e,hv⟩:=h2.get ht
   simp only [Option.getD_some,vJ0]
   have e':vs.toArray[t]?=some v:=by simpa using e
   rw [e']
   exact hv
theorem InvS.vals {w0:World}{Xe:Ctx}{st:St}{E:List D}{vs:List Value}{w:World}(h:InvS B0 w0 Xe st E { tmps:=vs.toArray,defers:=[] } w) :
  ∃ X:Ctx,X.E=E∧X.w=w∧X.μ=st.root∧(∀ r,X.A r↔r<st.mem.length)∧Mem B0 X∧Ext Xe X∧Below B0 w0 w∧VRepL X st.slots vs:=by
 obtain ⟨X,x1,x2,x3,x4,x5,x6,x7,x8,x9,x10⟩:=h
 refine ⟨X,x1,x2,x3,x4,x5,x6,x7,zr0 (by simpa using x8) fun t ht=>?_⟩
 have:=x10 t
 simp only [vJ0] at this
 simpa using this
theorem zhZ {fn:Func}{st:St}{E:List D}{r:Res}(h:ev C k (zl9 cx fn st) E=some r):∃ l,zcq cx fn st=some l∧r=.fin .normal { st with slots:=l } E:=by
 unfold zl9 at h
 cases hr:zcq cx fn st with
 | none=>simp [hr,ev] at h
 | some ts =>
  simp only [hr,ev,wB0] at h
  exact ⟨ts,rfl,h.symm⟩
theorem zqg {mk:Nat}{inl:FuncId→List SV→Nat→List Root→Option Inl}{c:Code}{st:St}{E:List D}(hE:E.length=st.nv) {r0:Res}(h:ev C k ((exec cx inl mk c st).ends zAv) E=some r0) :
  ∃ x st' F,ev C k (exec cx inl mk c st) E=some (.fin x st' (E++F))∧r0=.fin (zAv x) st' (E++F)∧(E++F).length=st'.nv∧st'.base=st.base:=by
 obtain ⟨r2,q1,q2⟩:=zdU h
 obtain ⟨x,st',F,e,e2,e3⟩:=zaA c _ st E r2 q1 hE
 subst e
 exact ⟨x,st',F,q1,q2,e2,e3⟩
theorem znP {mk:Nat}{inl:FuncId→List SV→Nat→List Root→Option Inl}(ty:TysOk cx) (hC:CallsOk cx C) (hI:InlOk cx C k inl) (hmix:cx.P.follows .mixedOrders=true) {f:FuncId}{fn:Func}{c:Code}(hf:cx.P.funcs[f]?=some fn) (hb:fn.body=some c)
  {args:List SV} {nv:Nat} {mem:List Root} (hE:X.E.length=nv) (hA:∀ r,X.A r↔r<mem.length) (hμ:X.μ=zai mem) (m:Mem B0 X) (hB:B0≤X.w.heap.size) {vals:Array Value} (hv:VRepL X args vals.toList)
  {x:Ex} (hx:zAv x=.normal) {st':St} {E':List D} (h:ev C k (exec cx inl mk c (zhI fn args nv mem)) X.E=some (.fin x st' E')) {ts:List SV} (hts:zcq cx fn st'=some ts) :
  Calls cx.P f vals X.w fun e w'=>∃ vs:List Value,e=.returned (zmy vs)∧InvS B0 X.w X { st' with slots:=ts } E' { tmps:=vs.toArray,defers:=[] } w':=by
 refine calls_of_wp hf hb ?_
 obtain ⟨e1,e2⟩:=ztZ (fn:=fn) hv
 have hinv:InvS B0 X.w X (zhI fn args nv mem) X.E { tmps:=vals++Array.replicate (fn.ntmps - vals.size) undef,defers:=[] } X.w :=
  ⟨X,rfl,rfl,hμ,hA,m,Ext.refl _,Below.refl _ _,e1,rfl,e2⟩
 refine wp_mono (zbR ty hC hI hmix hB (base:=mem.length) (fun r hr=>(hA r).1 hr) c _ _ X.E _ X.w x st' E' h hE rfl hinv) fun e a' w' ⟨he,hi⟩=>?_
 have key:a'.defers=[]∧∃ v,(results fn a'.tmps).run cx.P w'=.ok v w'∧∃ vs:List Value,Ending.returned v=.returned (zmy vs)∧InvS B0 X.w X { st' with slots:=ts } E' { tmps:=vs.toArray,defers:=[] } w':=by
  have hd:a'.defers=[]:=by
   obtain ⟨X,x1,x2,x3,x4,x5,x6,x7,x8,x9,x10⟩:=hi
   exact x9
  obtain ⟨us,r1,r2⟩:=InvS.res ty hi hts
  exact ⟨hd,_,r1,us,rfl,r2⟩
 subst he
 cases x with
 | normal=>exact key
 | ret=>exact key
 | exit id=>cases hx
theorem zvD {mk:Nat}{inl:FuncId→List SV→Nat→List Root→Option Inl}{fn:Func}{c:Code}{st:St}{E:List D}(hE:E.length=st.nv) {r:Res}(h:ev C k (((exec cx inl mk c st).ends zAv).andThen (zl9 cx fn)) E=some r) :
  (∃ id st' E',r=.fin (.exit id) st' E')∨∃ x st' F ts,zAv x=.normal∧ev C k (exec cx inl mk c st) E=some (.fin x st' (E++F))∧zcq cx fn st'=some ts ∧
   r=.fin .normal { st' with slots:=ts } (E++F)∧(E++F).length=st'.nv∧st'.base=st.base:=by
 obtain ⟨r0,q1,q2⟩:=zbn (fun st E r hr=>by
  obtain ⟨ts,_,e⟩:=zhZ hr
  subst e
  exact True.intro) h
 obtain ⟨x,st',F,e1,e2,e3,e4⟩:=zqg hE q1
 subst e2
 cases x with
 | exit id=>exact .inl ⟨id,st',E++F,q2⟩
 | normal =>
  obtain ⟨ts,h1,h2⟩:=zhZ q2
  exact .inr ⟨.normal,st',F,ts,rfl,e1,h1,h2,e3,e4⟩
 | ret =>
  obtain ⟨ts,h1,h2⟩:=zhZ q2
  exact .inr ⟨.ret,st',F,ts,rfl,e1,h1,h2,e3,e4⟩
theorem ztm {cx:Cx}{f:FuncId}{t:TypeId}:∀ {T:Ty},zno cx t T→zno (zjY cx f) t T
 | .int _,h=>h
 | .bool,h=>h
 | .str,h=>h
 | .sl _,h=>h
 | .arr _ _,h=>h
 | .st _,h=>h
 | .no,h=>h
theorem TysOk.for_ {cx:Cx}(ty:TysOk cx) (f:FuncId):TysOk (zjY cx f):=fun t hn=>by
 obtain ⟨i,h⟩:=ty t hn
 exact ⟨i,⟨h.info,h.size,h.zero,h.known,ztm h.desc⟩⟩
theorem CallsOk.for_ {cx:Cx}(hC:CallsOk cx C) (f:FuncId):CallsOk (zjY cx f) C:=hC
theorem InlOk.for_ {cx:Cx}{inl:FuncId→List SV→Nat→List Root→Option Inl}(hI:InlOk cx C k inl) (f:FuncId):InlOk (zjY cx f) C k inl:=hI
def zls (cx:Cx) (C:FuncId→List D→Option (List D)) (k:Nat) (f:FuncId) (args:List SV) (nv:Nat) (mem:List Root) (t:Tree):Prop :=
 ∀ (B0:Nat) (X:Ctx) (vals:Array Value),X.E.length=nv→(∀ r,X.A r↔r<mem.length)→X.μ=zai mem→Mem B0 X→B0≤X.w.heap.size→VRepL X args vals.toList →
  ∀ r,ev C k t X.E=some r→(∃ id st' E',r=.fin (.exit id) st' E')∨∃ st' F,r=.fin .normal st' (X.E++F)∧(X.E++F).length=st'.nv∧st'.base=mem.length ∧
   Calls cx.P f vals X.w fun e w'=>∃ us:List Value,e=.returned (zmy us)∧InvS B0 X.w X st' (X.E++F) { tmps:=us.toArray,defers:=[] } w'
theorem zs2 {mk:Nat}{inl:FuncId→List SV→Nat→List Root→Option Inl}(ty:TysOk cx) (hC:CallsOk cx C) (hI:InlOk cx C k inl) (hmix:cx.P.follows .mixedOrders=true) {f:FuncId}{fn:Func}{c:Code}(hf:cx.P.funcs[f]?=some fn) (hb:fn.body=some c)
  (args:List SV) (nv:Nat) (mem:List Root):zls cx C k f args nv mem (((exec cx inl mk c (zhI fn args nv mem)).ends zAv).andThen (zl9 cx fn)):=by
 intro B0 X vals hE hA hμ m hB hv r hev
 rcases zvD (st:=zhI fn args nv mem) hE hev with h|⟨x,st',F,ts,hx,h1,h2,e,h3,h4⟩
 ·exact .inl h
 ·exact .inr ⟨_,F,e,h3,h4,znP ty hC hI hmix hf hb hE hA hμ m hB hv hx h1 h2⟩
theorem zvO {f:FuncId}{args:List SV}{nv:Nat}{mem:List Root}{t:Tree}{ls:List (St×Bool)}(hbody:zls cx C k f args nv mem t) {i:Inl}(hi:zxj nv mem t ls=some i) :
  ∀ (B0:Nat) (X:Ctx) (vals:Array Value),X.E.length=nv→(∀ r,X.A r↔r<mem.length)→X.μ=zai mem→Mem B0 X→B0≤X.w.heap.size→VRepL X args vals.toList →
   ∀ bk vs,ev C k i.t X.E=some (.jmp 0 bk vs)→vs.length=i.m →
    Calls cx.P f vals X.w fun e w'=>∃ v,e=.returned v∧∃ X':Ctx,X'.E=X.E++vs∧X'.w=w'∧(∀ r,X'.A r↔r<i.mem.length)∧X'.μ=zai i.mem∧Ext X X'∧Mem B0 X'∧Below B0 X.w w'∧VRep X' i.res v:=by
 intro B0 X vals hE hA hμ m hB hv bk vs hev hvs
 unfold zxj at hi
 split at hi
 ·injection hi with hi
  subst hi
  rcases hbody B0 X vals hE hA hμ m hB hv _ hev with ⟨id,st',E',e⟩|⟨st',F,e,_⟩
  ·cases e
  ·cases e
 ·revert hi
  simp only
  generalize zkO nv mem.length _=H
  intro hi
  split at hi
  ·rename_i hc
   injection hi with hi
   subst hi
   simp only [wD0,Nat.ble_eq] at hc
   have hev:ev C k (t.conv (zzZ nv H false) 0) X.E=some (.jmp 0 bk vs):=hev
   obtain ⟨r0,q1,q2⟩:=zcd (zb7 _ _ _) hev
   rcases hbody B0 X vals hE hA hμ m hB hv _ q1 with ⟨id,st',E',e⟩|⟨st',F,e,h3,h4,hcalls⟩
   ·subst e
    cases q2
   ·subst e
    have q2:ev C k (zzZ nv H false 0 st') (X.E++F)=some (.jmp 0 bk vs):=q2
    obtain ⟨sg,bs,E1,vs',f1,f2,f3,f4,f5,f6⟩:=zh9 q2
    injection f4 with _ _ f4
    subst f4
    refine hcalls.mono fun e w' ⟨us,he,hi⟩=>?_
    have hi2:=zjX hB f1 hc.1 hc.2 hE h3 (fun _ _ h=>h) (fun r hr=>by
     rw [h4]
     exact (hA r).1 hr) f2 f3 hi
    obtain ⟨X',x1,x2,x3,x4,x5,x6,x7,x8⟩:=hi2.vals
    exact ⟨_,he,X',x1,x2,x4,x3,x6,x5,x7,zpO x8⟩
  ·cases hi
theorem zuu (ty:TysOk cx) (hC:CallsOk cx C) (hmix:cx.P.follows .mixedOrders=true):∀ n,InlOk cx C k (zAK cx n)
 | 0=>fun f args nv mem i hi=>by simp [zAK] at hi
 | n + 1=>fun f args nv mem i hi hlen=>by
  simp only [zAK] at hi
  split at hi
  ·cases hi
  rename_i fn hf
  split at hi
  ·cases hi
  rename_i c hb
  have hIn:InlOk (zjY cx f) C k (zAK cx n):=(zuu ty hC hmix n).for_ f
  have hbody:zls cx C k f args nv mem _:=zs2 (mk:=zmv fn.results.toList) (cx:=zjY cx f) (ty.for_ f) (hC.for_ f) hIn hmix hf hb args nv mem
  exact zvO hbody hi
theorem zoy {fn:Func}{Ts:List Ty}{d:Nat}{st:St}{E:List D}{r:Res}(h:ev C k (zon cx fn Ts d st) E=some r) :
  ∃ ts as s foot E1 rs,zcq cx fn st=some ts∧(SV.viewL true Ts ts).run st.root ⟨[],st.nv,[],st.mem.length⟩=some (as,s,foot)∧za9 s.bs=true∧zbi s.bs E=some E1∧gets E1 as=some rs∧r=.jmp d false rs:=by
 unfold zon at h
 cases hr:zcq cx fn st with
 | none=>simp [hr,ev] at h
 | some ts =>
  simp only [hr] at h
  split at h
  ·simp [ev] at h
  ·rename_i as s foot hv
   split at h
   ·rename_i hp
    rw [zcR hp] at h
    cases he:zbi s.bs E with
    | none=>simp [he] at h
    | some E1 =>
     simp only [he,ev] at h
     cases hg:gets E1 as with
     | none=>simp [hg] at h
     | some rs =>
      simp only [hg,wB0] at h
      exact ⟨ts,as,s,foot,E1,rs,rfl,hv,hp,he,hg,h.symm⟩
   ·simp [ev] at h
theorem zqd (cx:Cx) (fn:Func) (Ts:List Ty):Shifts C k (zon cx fn Ts):=by
 intro st E
 cases h:ev C k (zon cx fn Ts 0 st) E with
 | none =>
  refine .inl fun d=>?_
  cases h':ev C k (zon cx fn Ts d st) E with
  | none=>rfl
  | some r =>
   obtain ⟨ts,as,s,foot,E1,rs,h1,h2,h3,h4,h5,h6⟩:=zoy h'
   exfalso
   unfold zon at h
   simp only [h1,h2,h3,if_true] at h
   rw [zcR h3,h4] at h
   simp [ev,h5] at h
 | some r =>
  obtain ⟨ts,as,s,foot,E1,rs,h1,h2,h3,h4,h5,h6⟩:=zoy h
  refine .inr ⟨false,rs,fun d=>?_⟩
  unfold zon
  simp only [h1,h2,h3,if_true]
  rw [zcR h3,h4]
  simp [ev,h5]
def zdq (cx:Cx) (k n:Nat) (C0:FuncId→List D→Option (List D)):Nat→FuncId→List D→Option (List D)
 | 0,f,ds=>C0 f ds
 | d + 1,f,ds=>match C0 f ds with
  | some rs=>some rs
  | none=>match zaj cx n f with
   | none=>none
   | some t=>match ev (zdq cx k n C0 d) k t ds with
    | some (.jmp _ _ rs)=>some rs
    | _=>none
theorem DVals.dlen {w:World}{M:Nat→Prop}:∀ {Ts:List Ty}{ds:List D}{vs:List Value},DVals w M Ts ds vs→ds.length=Ts.length
 | [],[],[],_=>rfl
 | T::Ts,d::ds,v::vs,h=>by simp [DVals.dlen h.2]
 | [],[],_::_,h|[],_::_,_,h|_::_,[],_,h|_::_,_::_,[],h=>h.elim
theorem zxo (ty:TysOk cx) (hC:CallsOk cx C) (hmix:cx.P.follows .mixedOrders=true) {n:Nat}{f:FuncId}{fn:Func}{t:Tree}(hf:cx.P.funcs[f]?=some fn) (ht:zaj cx n f=some t) {ds rs:List D}{l:Nat}{b:Bool}(hev:ev C k t ds=some (.jmp l b rs))
  {w:World} {args:Array Value} {M:Nat→Prop} (hM:∀ b,M b→b<w.heap.size) (hv:DVals w M (zaU cx fn) ds args.toList) :
  Calls cx.P f args w fun e w'=>∃ v,e=.returned v∧Below w.heap.size w w'∧zxy w' M (zd4 cx fn) rs v:=by
 unfold zaj at ht
 simp only [hf] at ht
 split at ht
 ·cases ht
 rename_i c hb
 split at ht
 ·rename_i hd
  injection ht with ht
  subst ht
  obtain ⟨r0,q1,q2⟩:=zcd (zqd _ _ _) hev
  have hIn:InlOk (zjY cx f) C k (zAK cx n):=(zuu ty hC hmix n).for_ f
  have hE:ds.length=(zaU cx fn).length:=hv.dlen
  obtain ⟨x,st',F,e1,e2,e3,e4⟩:=zqg (st:=zhI fn (frozen (zaU cx fn) 0) (zaU cx fn).length []) hE q1
  subst e2
  let X:Ctx:=⟨ds,w,zai [],fun _=>⟨none,[]⟩,fun _=>False,M⟩
  have m:Mem w.heap.size X:=⟨fun _ h=>h.elim,fun _ _ _ h=>h.elim,fun _ h=>h.elim,fun _ _ h=>h.elim,hM⟩
  have hXM:zd3 w w M X.M:=⟨fun _ _ h _=>h,fun a v _ hm=>by
   rintro (h|⟨r,h,_⟩)
   ·exact hm h
   ·exact h⟩
  have hv':VRepL X (frozen (zaU cx fn) 0) args.toList:=zjB (hv.keep hXM) fun j d hj=>by rw [vA0];exact hj
  have main:zAv x=.normal→Calls cx.P f args w fun e w'=>∃ v,e=.returned v∧Below w.heap.size w w'∧zxy w' M (zd4 cx fn) rs v:=fun hx=>by
   rw [hx] at q2
   have q2:ev C k (zon (zjY cx f) fn (zd4 cx fn) 0 st') (ds++F)=some _:=q2
   obtain ⟨ts,as,s,foot,E1,rs',h1,h2,h3,h4,h5,h6⟩:=zoy q2
   injection h6 with _ _ h6
   subst h6
   refine (znP (cx:=zjY cx f) (X:=X) (ty.for_ f) (hC.for_ f) hIn hmix hf hb hE (fun r=>by simp [X]) rfl m (wG0 _) hv' hx e1 h1).mono fun e w' ⟨us,he,hi⟩=>?_
   obtain ⟨Y,x1,x2,x3,x4,x5,x6,x7,x8⟩:=hi.vals
   have hBY:w.heap.size≤Y.w.heap.size:=by rw [x2];exact x7.size
   obtain ⟨G,g1,g2,g3⟩:=zij (C:=C) (k:=k) h4
   obtain ⟨y1,y2⟩:=x5.moreE hBY (E':=E1) (fun i d hj=>by rw [x1] at hj;rw [g1];exact get_app hj)
   have hnv:E1.length=s.nv:=by
    have:=_root_.Go.SX.X.run_outs _ _ _ h2
    simp only [zl3,Nat.add_zero] at this
    rw [g1,wI0,e3,g2,this]
   rw [hnv] at g3
   have hmv:({ Y with E:=E1 }:Ctx).mv []={ Y with E:=E1 }:=rfl
   have hμY:({ Y with E:=E1 }:Ctx).μ=st'.root:=x3
   obtain ⟨z1,z2,_,_,rs2,z5,z6⟩:=zjV (C:=C) (k:=k) (B0:=w.heap.size) (X:={ Y with E:=E1 }) hBY (σ:=⟨[],st'.nv,[],st'.mem.length⟩) (by rw [hμY];exact ⟨foot,h2⟩) g3 y2 (VRepL.ext y1 x8)
   have hrs:rs2=rs:=by
    have z5:gets E1 as=some rs2:=z5
    rw [h5] at z5
    injection z5 with z5
    exact z5.symm
   subst hrs
   refine ⟨_,he,x7,us,?_,rfl⟩
   have hF:∀ b,M b→(({ Y with E:=E1 }:Ctx).mv s.up).M b:=fun b hb=>.inl (by
    show Y.F b
    rw [x6.F]
    exact hb)
   have z6:DVals Y.w (({ Y with E:=E1 }:Ctx).mv s.up).M _ _ _:=z6
   rw [x2] at z6
   exact z6.keep ⟨fun _ _ h _=>h,fun a v _ hm hM=>hm (hF _ hM)⟩
  cases x with
  | exit id=>cases q2
  | normal=>exact main rfl
  | ret=>exact main rfl
 ·cases ht
theorem zrS (ty:TysOk cx) (hmix:cx.P.follows .mixedOrders=true) {C0:FuncId→List D→Option (List D)}(h0:CallsOk cx C0) (k n:Nat):∀ d,CallsOk cx (zdq cx k n C0 d)
 | 0=>h0
 | d + 1=>fun f fn ds rs hf hcan hdat h w args M hM hv=>by
  simp only [zdq] at h
  split at h
  ·rename_i rs' h'
   injection h with h
   subst h
   exact h0 f fn ds _ hf hcan hdat h' w args M hM hv
  ·split at h
   ·cases h
   ·rename_i t ht
    split at h
    ·rename_i hev
     injection h with h
     subst h
     exact zxo ty (zrS ty hmix h0 k n d) hmix hf ht hev hM hv
    ·cases h
end
end Go.SX
namespace Go.SX
open Go.RowKit (Below)
mutual
def Wt:Ty→D→Prop
 | .int k,.int k' n=>k'=k∧(Lit.int k n).wf=true
 | .bool,.bool _=>True
 | .str,.str s=>s.size≤maxLen
 | .sl _,.nil=>True
 | .sl e,.sl ds=>ds.length≤maxLen∧WtA e ds
 | .arr n e,.agg ds=>ds.length=n∧WtA e ds
 | .st Ts,.agg ds=>WtL Ts ds
 | _,_=>False
def WtA (e:Ty):List D→Prop
 | []=>True
 | d::ds=>Wt e d∧WtA e ds
def WtL:List Ty→List D→Prop
 | [],[]=>True
 | T::Ts,d::ds=>Wt T d∧WtL Ts ds
 | _,_=>False
end
section
variable {H:Type} {enc:TypeId×Value→H} {cx:Cx} {w:World} {sp:Nat→Bool} {held:Bool}
theorem trod_array {P:Program}{t e:TypeId}{n fuel:Nat}{cs:List Value}{x:DataW H×List MemPlace}(ht:P.underlying t=some (.array n e)) (h:DataW.trod enc P w 0 sp held fuel t cs=some x) :
  ∃ m,fuel=m + 1∧cs.length=P.cellsOf t∧∀ i,i<n→∃ y,DataW.trod enc P w 0 sp held m e ((cs.drop (i * P.cellsOf e)).take (P.cellsOf e))=some y:=by
 cases fuel with
 | zero=>simp [DataW.trod] at h
 | succ m =>
  unfold DataW.trod at h
  rw [ht] at h
  split at h<;>simp_all
  rename_i heq
  obtain ⟨e1,e2⟩:=heq
  subst e1 e2
  obtain ⟨hl,xs,hp,hd⟩:=h
  intro i hi
  have:=mapM_some_get hp i i (by simp [hi])
  have hlen:xs.length=n:=by simpa using mapM_some_length hp
  have hx:xs[i]?=some xs[i]:=wF0 (by omega)
  rw [hx] at this
  exact ⟨_,_,this⟩
theorem TyFact.cells {cx:Cx}{t:TypeId}{T:Ty}{i:TypeInfo}(h:TyFact cx t T i):cx.P.cellsOf t=T.size:=by
 simp [Program.cellsOf,h.info,h.size]
theorem zry {M:Nat→Prop}{e:Ty}:∀ (n:Nat) (cs:List Value),cs.length=n * e.size→(∀ i,i<n→∃ d,DRep w M e d ((cs.drop (i * e.size)).take e.size)∧Wt e d)→∃ ds:List D,ds.length=n∧DRepA w M e ds cs∧WtA e ds
 | 0,cs,hl,_=>⟨[],rfl,by simp only [DRepA];exact vO0 (by omega),trivial⟩
 | n + 1,cs,hl,h=>by
  have hl':cs.length=n * e.size + e.size:=by rw [hl,Nat.succ_mul]
  obtain ⟨d,h1,h2⟩:=h 0 (by omega)
  obtain ⟨ds,g1,g2,g3⟩:=zry (e:=e) n (cs.drop e.size) (by rw [vR0];omega) fun i hi=>by
   obtain ⟨d,q1,q2⟩:=h (i + 1) (by omega)
   refine ⟨d,?_,q2⟩
   rw [List.drop_drop]
   rw [Nat.succ_mul,Nat.add_comm] at q1
   exact q1
  refine ⟨d::ds,by simp [g1],?_,h2,g3⟩
  simp only [DRepA]
  refine ⟨cs.take e.size,cs.drop e.size,(List.take_append_drop _ _).symm,?_,g2⟩
  simpa using h1
theorem zjW {a:Addr}:∀ {n:Nat}{cs:List Value},w.cells? 0 a n=some cs→cs.length=n∧∀ j,j<n→w.cell? (a.add j)=cs[j]?:=by
 intro n cs h
 simp only [World.cells?,Nat.zero_le,if_true] at h
 exact ⟨by simpa using mapM_some_length h,fun j hj=>mapM_some_get h j j (by simp [hj])⟩
theorem flat_get {n s:Nat}(f:Nat→List Value) (hf:∀ i,i<n→(f i).length=s):∀ (m:Nat),m≤n→((List.range m).flatMap f).length=m * s∧∀ i j,i<m→j<s→((List.range m).flatMap f)[i * s + j]?=(f i)[j]?
 | 0,_=>⟨by simp,fun i j hi=>by omega⟩
 | m + 1,hm=>by
  obtain ⟨h1,h2⟩:=flat_get f hf m (by omega)
  have e:(List.range (m + 1)).flatMap f=(List.range m).flatMap f++f m:=by simp [List.range_succ,List.flatMap_append]
  rw [e]
  refine ⟨by rw [wI0,h1,hf m (by omega),Nat.succ_mul],fun i j hi hj=>?_⟩
  rcases vU0 i m with hlt|hge
  ·have:i * s + j<m * s:=by
    have:(i + 1) * s≤m * s:=vK0 s hlt
    rw [Nat.succ_mul] at this
    omega
   rw [List.getElem?_append_left (by rw [h1];exact this)]
   exact h2 i j hlt hj
  ·have:i=m:=by omega
   subst this
   rw [List.getElem?_append_right (by rw [h1];omega),h1]
   congr 1
   omega
theorem zi8 {T:Ty}(h:T.known=true):T≠.no:=by
 rintro rfl
 cases h
theorem ziS (ty:TysOk cx):∀ (fuel:Nat) (t:TypeId) (T:Ty) (cs:List Value) (x:DataW H×List MemPlace),cx.T t=T→T.known=true→DataW.trod enc cx.P w 0 sp held fuel t cs=some x→∃ d,DRep w (fun _=>False) T d cs∧Wt T d
 | 0,t,T,cs,x,_,_,h=>by simp [DataW.trod] at h
 | fuel + 1,t,T,cs,x,hT,hn,h=>by
  obtain ⟨i,tf⟩:=ty.get hT (zi8 hn)
  have hdesc:=tf.desc
  cases T with
  | no=>cases hn
  | int k =>
   obtain ⟨n,e1,_,e3⟩:=DataW.trod_int hdesc h
   exact ⟨.int k n,⟨rfl,e1⟩,rfl,e3⟩
  | bool =>
   obtain ⟨b,e1,_⟩:=DataW.trod_bool hdesc h
   exact ⟨.bool b,e1,trivial⟩
  | str =>
   obtain ⟨s,e1,_,e3⟩:=DataW.trod_string hdesc h
   exact ⟨.str s,e1,e3⟩
  | sl e =>
   obtain ⟨E,hu,hE⟩:=hdesc
   have hne:e.known=true:=by simpa [Ty.known] using hn
   obtain ⟨i',tf'⟩:=ty.get hE (zi8 hne)
   rcases DataW.trod_slice hu h with ⟨e1,_⟩|⟨a,len,cap,elems,rest,m,e1,e2,e3,e4,e5,e6,e7,e8,_⟩
   ·exact ⟨.nil,e1,trivial⟩
   ·injection e1 with e1
    subst e1
    rw [tf'.cells] at e8
    have one:∀ i,i<len→∃ cs',w.cells? 0 (a.add (i * e.size)) e.size=some cs'∧∃ d,DRep w (fun _=>False) e d cs'∧Wt e d:=fun i hi=>by
     have:=e8 i hi
     rw [wF0 (by omega),Option.bind_eq_some_iff] at this
     obtain ⟨cs',h1,h2⟩:=this
     obtain ⟨d,h3,h4⟩:=ziS ty fuel E e cs' _ hE hne h2
     exact ⟨cs',h1,d,h3,h4⟩
    let f:Nat→List Value:=fun i=>(w.cells? 0 (a.add (i * e.size)) e.size).getD []
    have hf:∀ i,i<len→(f i).length=e.size:=fun i hi=>by
     obtain ⟨cs',h1,_⟩:=one i hi
     simp only [f,h1,Option.getD_some]
     exact (zjW h1).1
    obtain ⟨g1,g2⟩:=flat_get f hf len (wG0 _)
    obtain ⟨ds,q1,q2,q3⟩:=zry (w:=w) (M:=fun _=>False) (e:=e) len ((List.range len).flatMap f) g1 fun i hi=>by
     obtain ⟨cs',h1,d,h3,h4⟩:=one i hi
     refine ⟨d,?_,h4⟩
     have:(((List.range len).flatMap f).drop (i * e.size)).take e.size=cs':=by
      have hl:=(zjW h1).1
      apply List.ext_getElem?
      intro j
      rw [List.getElem?_take]
      split
      ·rename_i hj
       rw [List.getElem?_drop,g2 i j hi hj]
       simp only [f,h1,Option.getD_some]
      ·rename_i hj
       rw [vQ0 (by omega)]
     rw [this]
     exact h3
    refine ⟨.sl ds,⟨a,cap,(List.range len).flatMap f,by rw [q1];exact e2,by rw [q1];exact e5,q2,fun j v hj=>?_,fun _ h=>h⟩,by omega,q3⟩
    have hjl:j<len * e.size:=by rw [← g1];exact (List.getElem?_eq_some_iff.1 hj).1
    have hpos:0<e.size:=by
     rcases Nat.eq_zero_or_pos e.size with h0|h0
     ·rw [h0,Nat.mul_zero] at hjl;omega
     ·exact h0
    have hdiv:j / e.size<len:=by
     rw [Nat.div_lt_iff_lt_mul hpos]
     exact hjl
    have hmod:=Nat.mod_lt j hpos
    have hjj:j / e.size * e.size + j % e.size=j:=by rw [Nat.mul_comm];exact Nat.div_add_mod j e.size
    have:=g2 _ _ hdiv hmod
    rw [hjj,hj] at this
    obtain ⟨cs',h1,_⟩:=one _ hdiv
    simp only [f,h1,Option.getD_some] at this
    have:=((zjW h1).2 _ hmod).trans this.symm
    rw [add_add,hjj] at this
    exact this
  | arr n e =>
   obtain ⟨E,hu,hE⟩:=hdesc
   have hne:e.known=true:=by simpa [Ty.known] using hn
   obtain ⟨i',tf'⟩:=ty.get hE (zi8 hne)
   obtain ⟨m,e1,e2,e3⟩:=trod_array hu h
   injection e1 with e1
   subst e1
   rw [tf.cells] at e2
   rw [tf'.cells] at e3
   obtain ⟨ds,q1,q2,q3⟩:=zry (w:=w) (M:=fun _=>False) (e:=e) n cs (by simpa [Ty.size] using e2) fun i hi=>by
    obtain ⟨y,hy⟩:=e3 i hi
    exact ziS ty fuel E e _ _ hE hne hy
   exact ⟨.agg ds,⟨q1,q2⟩,q1,q3⟩
  | st Ts =>
   obtain ⟨fs,hu,hTs,hoff⟩:=hdesc
   obtain ⟨xs,m,e1,_,e3,e4,e5⟩:=DataW.trod_struct hu h
   injection e1 with e1
   subst e1
   rw [tf.cells] at e3
   have hkn:Ty.knownL Ts=true:=by simpa [Ty.known] using hn
   have main:∀ (l:List Field) (n k:Nat),ze9 cx.T l n=true→n≤cs.length→(cs.length=n + Ty.sizeL (l.map fun f=>cx.T f.type))→Ty.knownL (l.map fun f=>cx.T f.type)=true →
     (∀ i f,l[i]?=some f→fs[k + i]?=some f)→∃ ds,DRepL w (fun _=>False) (l.map fun f=>cx.T f.type) ds (cs.drop n)∧WtL (l.map fun f=>cx.T f.type) ds:=by
    intro l
    induction l with
    | nil =>
     intro n k _ _ hlen _ _
     refine ⟨[],?_,trivial⟩
     simp only [List.map_nil,DRepL]
     simp only [List.map_nil,Ty.sizeL,Nat.add_zero] at hlen
     exact List.drop_eq_nil_of_le (by omega)
    | cons f l ih =>
     intro n k ho hle hlen hk hfs
     simp only [ze9,wD0] at ho
     simp only [vP0,Ty.sizeL] at hlen
     simp only [vP0,Ty.knownL,wD0] at hk
     have hoffs:=zam ho.1
     obtain ⟨i'',tf''⟩:=ty.get (T:=cx.T f.type) rfl (zi8 hk.1)
     have hf0:=hfs 0 f rfl
     rw [Nat.add_zero] at hf0
     have hx:=e5 k f hf0
     rw [tf''.cells,hoffs] at hx
     have hkl:k<xs.length:=by
      rw [e4]
      exact (Array.getElem?_eq_some_iff.1 hf0).1
     rw [wF0 hkl] at hx
     obtain ⟨d,h1,h2⟩:=ziS ty fuel f.type (cx.T f.type) _ _ rfl hk.1 hx
     obtain ⟨ds,h3,h4⟩:=ih (n + (cx.T f.type).size) (k + 1) ho.2 (by omega) (by omega) hk.2 fun i g hg=>by
      have:=hfs (i + 1) g (by simpa using hg)
      rw [← this]
      congr 1
      omega
     refine ⟨d::ds,?_,h2,h4⟩
     simp only [vP0,DRepL]
     refine ⟨_,_,(List.take_append_drop (cx.T f.type).size _).symm,h1,?_⟩
     rw [List.drop_drop]
     exact h3
   rw [hTs] at hkn e3
   simp only [Ty.size] at e3
   obtain ⟨ds,h1,h2⟩:=main fs.toList 0 0 hoff (Nat.zero_le _) (by rw [e3,vA0]) hkn fun i f hf=>by
    rw [vA0]
    simpa using hf
   rw [List.drop_zero,← hTs] at h1
   rw [← hTs] at h2
   exact ⟨.agg ds,h1,h2⟩
end
end Go.SX
namespace Go.SX
open Go.RowKit (Below okWide_bool_mk ok_one shut_bool)
section
variable {H:Type} {enc:TypeId×Value→H} {cx:Cx} {w:World} {sp:Nat→Bool} {held:Bool}
theorem zyP {t:TypeId}{T:Ty}{i:TypeInfo}{M:Nat→Prop}{r:Reach}{base:Nat}{v:Value}{d:D}(tf:TyFact cx t T i) (hval:Value.okWide cx.P w r base t v) (h:DRep w M T d v.cells.toList):DVal w M T d v:=by
 have hdesc:=tf.desc
 unfold DVal
 cases T with
 | no=>cases hdesc
 | int k =>
  have hu:cx.P.underlying t=some (.int k):=hdesc
  simp only [Value.okWide,hu,Cell.okWide] at hval
  cases v<;>simp only [Cell.ok,hu] at hval
  simp only [Ty.isAgg,wA0,if_false]
  exact ⟨⟨nofun,nofun⟩,h⟩
 | bool =>
  have hu:cx.P.underlying t=some .bool:=hdesc
  simp only [Value.okWide,hu,Cell.okWide] at hval
  cases v<;>simp only [Cell.ok,hu] at hval
  simp only [Ty.isAgg,wA0,if_false]
  exact ⟨⟨nofun,nofun⟩,h⟩
 | str =>
  have hu:cx.P.underlying t=some .string:=hdesc
  simp only [Value.okWide,hu,Cell.okWide] at hval
  cases v<;>simp only [Cell.ok,hu] at hval
  simp only [Ty.isAgg,wA0,if_false]
  exact ⟨⟨nofun,nofun⟩,h⟩
 | sl e =>
  obtain ⟨E,hu,_⟩:=hdesc
  simp only [Value.okWide,hu,Cell.okWide] at hval
  cases v<;>simp only [Cell.ok,hu] at hval
  simp only [Ty.isAgg,wA0,if_false]
  exact ⟨⟨nofun,nofun⟩,h⟩
 | arr n e =>
  obtain ⟨E,hu,_⟩:=hdesc
  simp only [Value.okWide,hu] at hval
  obtain ⟨cs,e1,_⟩:=hval
  subst e1
  simp only [Ty.isAgg,if_true]
  exact ⟨cs,rfl,h⟩
 | st Ts =>
  obtain ⟨fs,hu,_⟩:=hdesc
  simp only [Value.okWide,hu] at hval
  obtain ⟨cs,e1,_⟩:=hval
  subst e1
  simp only [Ty.isAgg,if_true]
  exact ⟨cs,rfl,h⟩
theorem zpw (ty:TysOk cx) {r:Reach}{base:Nat}:∀ {ts:List TypeId}{vs:List Value}{ds:List (DataW H)}{ps:List MemPlace},Ty.knownL (ts.map cx.T)=true→(∀ (j:Nat) t v,ts[j]?=some t→vs[j]?=some v→Value.okWide cx.P w r base t v) →
  DataW.TrodAll enc cx.P w 0 sp held ts vs ds ps→∃ Ds,DVals w (fun _=>False) (ts.map cx.T) Ds vs∧WtL (ts.map cx.T) Ds
 | [],[],[],ps,_,_,h=>⟨[],trivial,trivial⟩
 | t::ts,v::vs,d::ds,ps,hk,hval,h=>by
  simp only [vP0,Ty.knownL,wD0] at hk
  obtain ⟨p,q,⟨fuel,h1⟩,h2,_⟩:=h
  obtain ⟨i,tf⟩:=ty.get (T:=cx.T t) rfl (zi8 hk.1)
  obtain ⟨D1,g1,g2⟩:=ziS ty fuel t (cx.T t) _ _ rfl hk.1 h1
  obtain ⟨Ds,g3,g4⟩:=zpw ty hk.2 (fun j t' v' hj hv=>hval (j + 1) t' v' (by simpa using hj) (by simpa using hv)) h2
  exact ⟨D1::Ds,⟨zyP tf (hval 0 t v rfl rfl) g1,g3⟩,g2,g4⟩
 | [],_::_,_,_,_,_,h|[],[],_::_,_,_,_,h|_::_,[],_,_,_,_,h|_::_,_::_,[],_,_,_,h=>by simp [DataW.TrodAll] at h
theorem zp3 {P:Program}(hl:laidOutB P=true) {w':World}:∀ {ts:List TypeId}{vs:List Value}{ds:List (DataW H)}{ps:List MemPlace},ts.all (fun t=>P.readableRec t&&Nat.blt t P.types.size)=true →
  DataW.TrodAll enc P w 0 (fun _=>true) true ts vs ds ps→Below w.heap.size w w'→(∀ x∈ps,x.block<w.heap.size)→DataW.TrodAll enc P w' 0 (fun b=>decide (b<w.heap.size)) true ts vs ds ps
 | [],[],[],ps,_,h,_,_=>h
 | t::ts,v::vs,d::ds,ps,hk,h,hb,hlt=>by
  simp only [List.all_cons,wD0,Nat.blt_eq] at hk
  obtain ⟨p,q,h1,h2,e⟩:=h
  subst e
  exact ⟨p,q,Go.RowKit.Below.trod hl hk.1.1 hk.1.2 h1 hb (fun x hx=>hlt x (List.mem_append.2 (.inl hx))),zp3 hl (by simpa using hk.2) h2 hb (fun x hx=>hlt x (List.mem_append.2 (.inr hx))),rfl⟩
 | [],_::_,_,_,_,h,_,_|[],[],_::_,_,_,h,_,_|_::_,[],_,_,_,h,_,_|_::_,_::_,[],_,_,h,_,_=>by simp [DataW.TrodAll] at h
theorem TrodAll.dlen {P:Program}{base:Nat}:∀ {ts:List TypeId}{vs:List Value}{ds:List (DataW H)}{ps:List MemPlace},DataW.TrodAll enc P w base sp held ts vs ds ps→ds.length=ts.length
 | [],[],[],ps,_=>rfl
 | t::ts,v::vs,d::ds,ps,h=>by
  obtain ⟨p,q,_,h2,_⟩:=h
  simp [TrodAll.dlen h2]
 | [],_::_,_,_,h|[],[],_::_,_,h|_::_,[],_,_,h|_::_,_::_,[],_,h=>by simp [DataW.TrodAll] at h
end
theorem zuq {cx:Cx}{C:Checked}(hP:cx.P=C.prog) (ty:TysOk cx) (hmix:C.prog.follows .mixedOrders=true) {C0:FuncId→List D→Option (List D)}(h0:CallsOk cx C0) (n:Nat)
  {os:Os} {f:FuncId} {fn:Func} {H:Type} {enc:TypeId×Value→H} {s:ChangeSpec} {conds:List PathCond}
  (own:ownKnob C.prog.godebug=none) (hl:laidOutB C.prog=true) (started:os.Started) (noInit:C.prog.inits.idxOf? f=none) (hfn:C.prog.funcs[f]?=some fn)
  (hcan:zj2 fn=true) (hdat:zny cx f fn=true) (hread:fn.params.toList.all (fun t=>C.prog.readableRec t&&Nat.blt t C.prog.types.size)=true)
  {tb:TypeId} (hres:fn.resultTypes=#[tb]) (htb:C.prog.underlying tb=some .bool) (hTb:cx.T tb=.bool) (hvars:s.vars=[])
  (hspec:∀ ds:List (DataW H),ds.length=fn.params.toList.length→s.fn H ds={ results:=[.lit (.bool true)],args:=ds })
  (hlaw:∀ Ds,WtL (zaU cx fn) Ds→∃ k d,zdq cx k n C0 d f Ds=some [.bool true])
  (witness:∃ (w:World) (tape:Tape) (i:Input),w.os=os∧(w.forCall tape i).Shaped C.prog∧i.vars=[]∧Input.okWide C.prog (w.forCall tape i) .any w.heap.size f i ∧
   s.pre6 enc C.prog fn conds false (w.forCall tape i).memory i.args∧({}:Assume).holds C.prog (lone (Frame.enter C.prog f i.args .normal) [] (w.forCall tape i))) :
  ReturnsInHanded {} C os f .any (s.pre6 enc C.prog fn conds false) (s.post enc C.prog fn false true false false):=by
 refine returnsInHanded_of_change own started noInit hfn witness ?_
 intro W base args ds gs before hval hW _ _
 have hW':=hW
 obtain ⟨p,q,hA,hV,e,hfz,hnd⟩:=hW
 rw [hvars] at hV
 have hgs:gs=[]∧q=[]:=by
  cases gs with
  | nil=>exact ⟨rfl,hV⟩
  | cons g gs=>simp [DataW.TrodVars] at hV
 obtain ⟨hg,hq⟩:=hgs
 subst hg hq
 rw [vN0] at e
 subst e
 have hkn:Ty.knownL (fn.params.toList.map cx.T)=true:=by
  unfold zny at hdat
  simp only [wD0] at hdat
  exact hdat.1.2
 rw [← hP] at hA hval
 obtain ⟨Ds,g1,g2⟩:=zpw ty hkn (fun j t v hj hv=>hval j t v (by simpa using hj) (by simpa using hv)) hA
 rw [hP] at hA hval
 obtain ⟨k,d,hlaw'⟩:=hlaw Ds g2
 have hcalls:=zrS ty (by rw [hP];exact hmix) h0 k n d f fn Ds _ (by rw [hP];exact hfn) hcan hdat hlaw' W args (fun _=>False) (fun _ h=>h.elim) g1
 rw [hP] at hcalls
 refine hcalls.mono fun e W' ⟨v,he,hb,vs,hv,hr⟩=>⟨v,he,?_⟩
 have hrt:zd4 cx fn=[.bool]:=by
  unfold zd4
  rw [hres]
  simp [hTb]
 rw [hrt] at hv
 have hvt:v=.bool true:=by
  cases vs with
  | nil=>exact hv.elim
  | cons u us =>
   obtain ⟨hu,hus⟩:=hv
   cases us with
   | cons _ _=>exact hus.elim
   | nil =>
    have:u=.bool true:=by
     simp only [DVal,Ty.isAgg,wA0,if_false,DRep] at hu
     simpa using hu.2
    rw [hr,this]
    rfl
 subst hvt
 have hlen:(ds++([]:List (DataW H))).length=fn.params.toList.length:=by rw [vN0];exact TrodAll.dlen hA
 have hs:=hspec _ hlen
 refine ⟨ds,[],before,[],before,[],hW',?_,?_,?_,hb.frame _,nofun⟩
 ·rw [hs,hres]
  exact Go.ChangeShapes.trodAll_mk1 (shut_bool htb true)
 ·rw [hs]
  simp only [vN0]
  exact zp3 hl hread hA hb (fun x hx=>hW'.lt x hx)
 ·rw [hvars,hs]
  exact rfl
end Go.SX
namespace Go.SX
theorem zgL {f g:List D→Option Res}(h:∀ vs r,f vs=some r→g vs=some r):∀ {k k':Nat}{vs:List D}{r:Res},k≤k'→iter f k vs=some r→iter g k' vs=some r
 | 0,_,_,_,_,hi=>by simp [iter] at hi
 | k + 1,0,_,_,hk,_=>by omega
 | k + 1,k' + 1,vs,r,hk,hi=>by
  simp only [iter] at hi ⊢
  split at hi
  ·rename_i vs' hq
   rw [h _ _ hq]
   exact zgL h (by omega) hi
  ·rename_i hne
   have:=h _ _ hi
   rw [this]
   split
   ·rename_i vs' hq
    injection hq with hq
    subst hq
    exact absurd hi (hne vs')
   ·rfl
theorem zbs {C C':FuncId→List D→Option (List D)}(hC:∀ f ds rs,C f ds=some rs→C' f ds=some rs) {k k':Nat}(hk:k≤k'):∀ {t:Tree}{E:List D}{r:Res},ev C k t E=some r→ev C' k' t E=some r
 | .prim p as t,E,r,h=>by
  simp only [ev] at h ⊢
  split at h
  ·cases h
  ·split at h
   ·cases h
   ·exact zbs hC hk h
 | .call f as m t,E,r,h=>by
  simp only [ev] at h ⊢
  split at h
  ·cases h
  ·split at h
   ·cases h
   ·rename_i vs _ ds hq
    rw [hC _ _ _ hq]
    split at h
    ·rename_i hl
     simp only [hl,if_true]
     exact zbs hC hk h
    ·cases h
 | .sub t m u,E,r,h=>by
  simp only [ev] at h ⊢
  split at h
  ·cases h
  ·rename_i b vs hq
   rw [zbs hC hk hq]
   simp only
   split at h
   ·rename_i hl
    simp only [hl,if_true]
    exact zbs hC hk h
   ·cases h
  ·rename_i r0 hne hq
   rw [zbs hC hk hq]
   cases r0 with
   | jmp l b vs =>
    cases l with
    | zero=>exact absurd rfl (hne b vs)
    | succ l=>exact h
   | fin x st E'=>exact h
 | .loop init b,E,r,h=>by
  simp only [ev] at h ⊢
  split at h
  ·cases h
  ·split at h
   ·cases h
   ·rename_i vs _ r0 hq
    rw [zgL (fun vs r hv=>zbs hC hk hv) hk hq]
    exact h
 | .ite c a b,E,r,h=>by
  simp only [ev] at h ⊢
  split at h
  ·exact zbs hC hk h
  ·exact zbs hC hk h
  ·cases h
 | .jmp l b as,E,r,h=>h
 | .fin x st,E,r,h=>h
 | .fail _,E,r,h=>h
section
variable (cx:Cx) (n:Nat) (C0:FuncId→List D→Option (List D))
theorem zbm {k k':Nat}(hk:k≤k'):∀ {d d':Nat}{f:FuncId}{ds rs:List D},d≤d'→zdq cx k n C0 d f ds=some rs→zdq cx k' n C0 d' f ds=some rs
 | 0,d',f,ds,rs,_,h=>by
  have h:C0 f ds=some rs:=h
  cases d' with
  | zero=>exact h
  | succ d'=>simp only [zdq,h]
 | d + 1,0,_,_,_,hd,_=>by omega
 | d + 1,d' + 1,f,ds,rs,hd,h=>by
  simp only [zdq] at h ⊢
  cases h0:C0 f ds with
  | some rs' =>
   simp only [h0] at h ⊢
   exact h
  | none =>
   simp only [h0] at h ⊢
   cases ht:zaj cx n f with
   | none=>simp [ht] at h
   | some t =>
    simp only [ht] at h ⊢
    split at h
    ·rename_i hq
     rw [zbs (fun f ds rs hr=>zbm hk (Nat.le_of_succ_le_succ hd) hr) hk hq]
     exact h
    ·cases h
open Classical in
noncomputable def lim {α:Type}(f:Nat→Nat→Option α):Option α:=if h:∃ r,∃ k d,f k d=some r then some h.choose else none
def zzm {α:Type}(f:Nat→Nat→Option α):Prop:=∀ k k' d d' r,k≤k'→d≤d'→f k d=some r→f k' d'=some r
theorem zor {α:Type}{f:Nat→Nat→Option α}(hf:zzm f) {r:α}:lim f=some r↔∃ k d,f k d=some r:=by
 unfold lim
 split
 ·rename_i h
  obtain ⟨k,d,hr⟩:=h.choose_spec
  constructor
  ·intro e
   injection e with e
   exact ⟨k,d,by rw [← e];exact hr⟩
  ·rintro ⟨k',d',hr'⟩
   have h1:=hf _ (max k k') _ (max d d') _ (by omega) (by omega) hr
   have h2:=hf _ (max k k') _ (max d d') _ (by omega) (by omega) hr'
   rw [h1] at h2
   exact h2
 ·rename_i h
  constructor
  ·intro e;cases e
  ·rintro ⟨k,d,hr⟩
   exact absurd ⟨r,k,d,hr⟩ h
noncomputable def ztq (f:FuncId) (ds:List D):Option (List D):=lim fun k d=>zdq cx k n C0 d f ds
noncomputable def evL (t:Tree) (E:List D):Option Res:=lim fun k d=>ev (zdq cx k n C0 d) k t E
noncomputable def zt3 (b:Tree) (E vs:List D):Option Res:=lim fun k d=>iter (fun vs=>ev (zdq cx k n C0 d) k b (E++vs)) k vs
theorem ze4 {f:FuncId}{ds rs:List D}:ztq cx n C0 f ds=some rs↔∃ k d,zdq cx k n C0 d f ds=some rs:=zor fun _ _ _ _ _ hk hd h=>zbm cx n C0 hk hd h
theorem zaJ {t:Tree}{E:List D}{r:Res}:evL cx n C0 t E=some r↔∃ k d,ev (zdq cx k n C0 d) k t E=some r :=
 zor (f:=fun k d=>ev (zdq cx k n C0 d) k t E) fun _ _ _ _ _ hk hd h=>zbs (fun _ _ _ h=>zbm cx n C0 hk hd h) hk h
theorem zeM {b:Tree}{E vs:List D}{r:Res}:zt3 cx n C0 b E vs=some r↔∃ k d,iter (fun vs=>ev (zdq cx k n C0 d) k b (E++vs)) k vs=some r :=
 zor (f:=fun k d=>iter (fun vs=>ev (zdq cx k n C0 d) k b (E++vs)) k vs) fun _ _ _ _ _ hk hd h=>zgL (fun _ _ h=>zbs (fun _ _ _ h=>zbm cx n C0 hk hd h) hk h) hk h
theorem zvS {p:Prim}{as:List At}{t:Tree}{E:List D}:evL cx n C0 (.prim p as t) E=match gets E as with
  | some vs=>match p.run vs with
   | some d=>evL cx n C0 t (E++[d])
   | none=>none
  | none=>none:=by
 apply Option.ext
 intro r
 rw [zaJ]
 simp only [ev]
 cases gets E as with
 | none=>simp
 | some vs =>
  simp only
  cases p.run vs with
  | none=>simp
  | some d=>simp only;rw [zaJ]
theorem zvY {f:FuncId}{as:List At}{m:Nat}{t:Tree}{E:List D}:evL cx n C0 (.call f as m t) E=match gets E as with
  | some vs=>match ztq cx n C0 f vs with
   | some ds=>if ds.length=m then evL cx n C0 t (E++ds) else none
   | none=>none
  | none=>none:=by
 apply Option.ext
 intro r
 rw [zaJ]
 simp only [ev]
 cases gets E as with
 | none=>simp
 | some vs =>
  simp only
  constructor
  ·rintro ⟨k,d,h⟩
   split at h
   ·cases h
   ·rename_i ds hq
    rw [(ze4 cx n C0).2 ⟨k,d,hq⟩]
    simp only
    split at h
    ·rename_i hl
     simp only [hl,if_true]
     exact (zaJ cx n C0).2 ⟨k,d,h⟩
    ·cases h
  ·intro h
   split at h
   ·rename_i ds hq
    obtain ⟨k,d,hq⟩:=(ze4 cx n C0).1 hq
    split at h
    ·rename_i hl
     obtain ⟨k',d',h⟩:=(zaJ cx n C0).1 h
     refine ⟨max k k',max d d',?_⟩
     rw [zbm cx n C0 (by omega) (by omega) hq]
     simp only [hl,if_true]
     exact zbs (fun _ _ _=>zbm cx n C0 (by omega) (by omega)) (by omega) h
    ·cases h
   ·cases h
theorem zvw {t:Tree}{m:Nat}{u:Tree}{E:List D}:evL cx n C0 (.sub t m u) E=match evL cx n C0 t E with
  | some (.jmp 0 _ vs)=>if vs.length=m then evL cx n C0 u (E++vs) else none
  | some r=>r.up
  | none=>none:=by
 apply Option.ext
 intro r
 rw [zaJ]
 simp only [ev]
 constructor
 ·rintro ⟨k,d,h⟩
  split at h
  ·cases h
  ·rename_i b vs hq
   rw [(zaJ cx n C0).2 ⟨k,d,hq⟩]
   simp only
   split at h
   ·rename_i hl
    simp only [hl,if_true]
    exact (zaJ cx n C0).2 ⟨k,d,h⟩
   ·cases h
  ·rename_i r0 hne hq
   rw [(zaJ cx n C0).2 ⟨k,d,hq⟩]
   cases r0 with
   | jmp l b vs =>
    cases l with
    | zero=>exact absurd rfl (hne b vs)
    | succ l=>exact h
   | fin x st E'=>exact h
 ·intro h
  split at h
  ·rename_i b vs hq
   obtain ⟨k,d,hq⟩:=(zaJ cx n C0).1 hq
   split at h
   ·rename_i hl
    obtain ⟨k',d',h⟩:=(zaJ cx n C0).1 h
    refine ⟨max k k',max d d',?_⟩
    rw [zbs (fun _ _ _=>zbm cx n C0 (by omega:k≤max k k') (by omega:d≤max d d')) (by omega) hq]
    simp only [hl,if_true]
    exact zbs (fun _ _ _=>zbm cx n C0 (by omega) (by omega)) (by omega) h
   ·cases h
  ·rename_i r0 hne hq
   obtain ⟨k,d,hq⟩:=(zaJ cx n C0).1 hq
   refine ⟨k,d,?_⟩
   rw [hq]
   cases r0 with
   | jmp l b vs =>
    cases l with
    | zero=>exact absurd rfl (hne b vs)
    | succ l=>exact h
   | fin x st E'=>exact h
  ·cases h
theorem zv7 {init:List At}{b:Tree}{E:List D}:evL cx n C0 (.loop init b) E=match gets E init with
  | some vs=>match zt3 cx n C0 b E vs with
   | some r=>r.up
   | none=>none
  | none=>none:=by
 apply Option.ext
 intro r
 rw [zaJ]
 simp only [ev]
 cases gets E init with
 | none=>simp
 | some vs =>
  simp only
  constructor
  ·rintro ⟨k,d,h⟩
   split at h
   ·cases h
   ·rename_i r0 hq
    rw [(zeM cx n C0).2 ⟨k,d,hq⟩]
    exact h
  ·intro h
   split at h
   ·rename_i r0 hq
    obtain ⟨k,d,hq⟩:=(zeM cx n C0).1 hq
    exact ⟨k,d,by rw [hq];exact h⟩
   ·cases h
theorem zsq {b:Tree}{E vs:List D}:zt3 cx n C0 b E vs=match evL cx n C0 b (E++vs) with
  | some (.jmp 0 true vs')=>zt3 cx n C0 b E vs'
  | r=>r:=by
 apply Option.ext
 intro r
 rw [zeM]
 constructor
 ·rintro ⟨k,d,h⟩
  cases k with
  | zero=>simp [iter] at h
  | succ k =>
   simp only [iter] at h
   split at h
   ·rename_i vs' hq
    rw [(zaJ cx n C0).2 ⟨_,_,hq⟩]
    exact (zeM cx n C0).2 ⟨k + 1,d,zgL (fun _ _ h=>h) (by omega) h⟩
   ·rename_i hne
    rw [(zaJ cx n C0).2 ⟨_,_,h⟩]
    split
    ·rename_i vs' hq
     injection hq with hq
     subst hq
     exact absurd h (hne vs')
    ·rfl
 ·intro h
  split at h
  ·rename_i vs' hq
   obtain ⟨k,d,hq⟩:=(zaJ cx n C0).1 hq
   obtain ⟨k',d',h⟩:=(zeM cx n C0).1 h
   have hq':=zbs (fun _ _ _=>zbm cx n C0 (by omega:k≤max k k' + 1) (by omega:d≤max d d')) (by omega:k≤max k k' + 1) hq
   refine ⟨max k k' + 1,max d d',?_⟩
   simp only [iter]
   rw [hq']
   simp only
   exact zgL (fun _ _ h=>zbs (fun _ _ _=>zbm cx n C0 (by omega) (by omega)) (by omega) h) (by omega) h
  ·rename_i hne
   obtain ⟨k,d,h⟩:=(zaJ cx n C0).1 h
   refine ⟨k + 1,d,?_⟩
   simp only [iter]
   rw [zbs (fun _ _ _=>zbm cx n C0 (by omega:k≤k + 1) (wG0 d)) (by omega:k≤k + 1) h]
   split
   ·rename_i vs' hq
    injection hq with hq
    subst hq
    exact absurd ((zaJ cx n C0).2 ⟨k,d,h⟩) (hne vs')
   ·rfl
theorem zoF {c:At}{t u:Tree}{E:List D}:evL cx n C0 (.ite c t u) E=match c.get E with
  | some (.bool true)=>evL cx n C0 t E
  | some (.bool false)=>evL cx n C0 u E
  | _=>none:=by
 apply Option.ext
 intro r
 rw [zaJ]
 simp only [ev]
 cases c.get E with
 | none=>simp
 | some x =>
  cases x with
  | bool b=>cases b<;>(simp only;rw [zaJ])
  | _=>simp
theorem zoN {l:Nat}{b:Bool}{as:List At}{E:List D}:evL cx n C0 (.jmp l b as) E=match gets E as with
  | some vs=>some (.jmp l b vs)
  | none=>none:=by
 apply Option.ext
 intro r
 rw [zaJ]
 simp only [ev]
 cases gets E as<;>simp
theorem zsM {f:FuncId}{t:Tree}(ht:zaj cx n f=some t) {ds:List D}(h0:C0 f ds=none):ztq cx n C0 f ds=match evL cx n C0 t ds with
  | some (.jmp _ _ rs)=>some rs
  | _=>none:=by
 apply Option.ext
 intro r
 rw [ze4]
 constructor
 ·rintro ⟨k,d,h⟩
  cases d with
  | zero =>
   have h:C0 f ds=some r:=h
   rw [h0] at h
   cases h
  | succ d =>
   simp only [zdq,h0,ht] at h
   split at h
   ·rename_i hq
    rw [(zaJ cx n C0).2 ⟨k,d,hq⟩]
    exact h
   ·cases h
 ·intro h
  split at h
  ·rename_i hq
   obtain ⟨k,d,hq⟩:=(zaJ cx n C0).1 hq
   refine ⟨k,d + 1,?_⟩
   simp only [zdq,h0,ht,hq]
   exact h
  ·cases h
end
end Go.SX
namespace Go.SX
theorem Wt.toInt {k:IntKind}{d:D}(h:Wt (.int k) d):∃ n:Int,d=.int k n∧k.min≤n∧n≤k.max:=by
 cases d with
 | int k' n =>
  obtain ⟨h1,h2⟩:=h
  subst h1
  simp only [Lit.wf,wD0,vG0] at h2
  exact ⟨n,rfl,h2.1,h2.2⟩
 | _=>exact h.elim
theorem Wt.toBool {d:D}(h:Wt .bool d):∃ b:Bool,d=.bool b:=by
 cases d with
 | bool b=>exact ⟨b,rfl⟩
 | _=>exact h.elim
theorem Wt.toStr {d:D}(h:Wt .str d):∃ s:ByteArray,d=.str s∧s.size≤maxLen:=by
 cases d with
 | str s=>exact ⟨s,rfl,h⟩
 | _=>exact h.elim
theorem Wt.toSl {e:Ty}{d:D}(h:Wt (.sl e) d):d=.nil∨∃ ds,d=.sl ds∧ds.length≤maxLen∧WtA e ds:=by
 cases d with
 | nil=>exact .inl rfl
 | sl ds=>exact .inr ⟨ds,rfl,h.1,h.2⟩
 | _=>exact h.elim
theorem Wt.toArr {n:Nat}{e:Ty}{d:D}(h:Wt (.arr n e) d):∃ ds,d=.agg ds∧ds.length=n∧WtA e ds:=by
 cases d with
 | agg ds=>exact ⟨ds,rfl,h.1,h.2⟩
 | _=>exact h.elim
theorem Wt.toSt {Ts:List Ty}{d:D}(h:Wt (.st Ts) d):∃ ds,d=.agg ds∧WtL Ts ds:=by
 cases d with
 | agg ds=>exact ⟨ds,rfl,h⟩
 | _=>exact h.elim
theorem WtL.toCons {T:Ty}{Ts:List Ty}{Ds:List D}(h:WtL (T::Ts) Ds):∃ d ds,Ds=d::ds∧Wt T d∧WtL Ts ds:=by
 cases Ds with
 | nil=>exact h.elim
 | cons d ds=>exact ⟨d,ds,rfl,h.1,h.2⟩
theorem WtL.toNil {Ds:List D}(h:WtL [] Ds):Ds=[]:=by
 cases Ds with
 | nil=>rfl
 | cons d ds=>exact h.elim
theorem WtA.all {e:Ty}:∀ {ds:List D},WtA e ds→∀ d∈ds,Wt e d
 | [],_,d,hd=>by cases hd
 | x::l,h,d,hd=>by
  rcases List.mem_cons.1 hd with hd|hd
  ·subst hd;exact h.1
  ·exact WtA.all h.2 d hd
theorem WtA.take {e:Ty}:∀ {ds:List D}(n:Nat),WtA e ds→WtA e (ds.take n)
 | [],_,_=>by simp [WtA]
 | _::_,0,_=>trivial
 | _::_,n + 1,h=>⟨h.1,WtA.take n h.2⟩
end Go.SX
namespace Go.SX
mutual
def Ty.T:Ty→Type
 | .int _=>Int
 | .bool=>Bool
 | .str=>List Int
 | .sl e=>List e.T
 | .arr _ e=>List e.T
 | .st l=>Ty.Tup l
 | .no=>Unit
def Ty.Tup:List Ty→Type
 | []=>Unit
 | a::l=>match l with
  | []=>a.T
  | _::_=>a.T×Ty.Tup l
end
def zbh (s:ByteArray):List Int:=s.data.toList.map fun b=>(b.toNat:Int)
mutual
def Ty.rd:(τ:Ty)→D→τ.T
 | .int _,d=>match d with|.int _ n=>n|_=>(0:Int)
 | .bool,d=>match d with|.bool b=>b|_=>false
 | .str,d=>match d with|.str s=>zbh s|_=>([]:List Int)
 | .sl e,d=>match d with|.sl l=>(l.map (Ty.rd e):List e.T)|_=>([]:List e.T)
 | .arr _ e,d=>match d with|.agg l=>(l.map (Ty.rd e):List e.T)|_=>([]:List e.T)
 | .st ts,d=>match d with|.agg l=>Ty.rdL ts l|_=>Ty.rdL ts []
 | .no,_=>()
def Ty.rdL:(ts:List Ty)→List D→Ty.Tup ts
 | [],_=>()
 | a::ts,l=>match ts with
  | []=>Ty.rd a (l.headD .nil)
  | b::us=>(Ty.rd a (l.headD .nil),Ty.rdL (b::us) l.tail)
end
def All2 {α β:Type}(R:α→β→Prop):List α→List β→Prop
 | [],[]=>True
 | a::l,b::m=>R a b∧All2 R l m
 | _,_=>False
mutual
def Rl:(τ:Ty)→D→τ.T→Prop
 | .int k,d,x=>d=.int k x
 | .bool,d,x=>d=.bool x
 | .str,d,x=>∃ s,d=.str s∧x=zbh s
 | .sl e,d,x=>∃ l,d.els=some l∧All2 (Rl e) l x
 | .arr _ e,d,x=>∃ l,d=.agg l∧All2 (Rl e) l x
 | .st ts,d,x=>∃ l,d=.agg l∧RlL ts l x
 | .no,_,_=>True
def RlL:(ts:List Ty)→List D→Ty.Tup ts→Prop
 | [],l,_=>l=[]
 | a::ts,l,x=>match ts,x with
  | [],x=>∃ d,l=[d]∧Rl a d x
  | b::us,x=>∃ d m,l=d::m∧Rl a d x.1∧RlL (b::us) m x.2
end
mutual
def zh5:Ty→D→Bool
 | .int k,d=>match d with|.int k' _=>decide (k=k')|_=>false
 | .bool,d=>match d with|.bool _=>true|_=>false
 | .str,d=>match d with|.str _=>true|_=>false
 | .sl e,d=>match d with|.sl l=>l.all (zh5 e)|.nil=>true|_=>false
 | .arr _ e,d=>match d with|.agg l=>l.all (zh5 e)|_=>false
 | .st ts,d=>match d with|.agg l=>zoD ts l|_=>false
 | .no,_=>false
def zoD:List Ty→List D→Bool
 | [],l=>l.isEmpty
 | a::ts,l=>match l with
  | []=>false
  | d::m=>zh5 a d&&zoD ts m
end
mutual
def Ty.dec:(τ:Ty)→DecidableEq τ.T
 | .int _=>fun a b=>Int.instDecidableEq a b
 | .bool=>fun a b=>instDecidableEqBool a b
 | .str=>fun a b=>@instDecidableEqList Int Int.instDecidableEq a b
 | .sl e=>fun a b=>@instDecidableEqList e.T (Ty.dec e) a b
 | .arr _ e=>fun a b=>@instDecidableEqList e.T (Ty.dec e) a b
 | .st ts=>Ty.decL ts
 | .no=>fun a b=>instDecidableEqPUnit a b
def Ty.decL:(ts:List Ty)→DecidableEq (Ty.Tup ts)
 | []=>fun a b=>instDecidableEqPUnit a b
 | a::ts=>match ts with
  | []=>Ty.dec a
  | b::us=>fun x y=>@instDecidableEqProd a.T (Ty.Tup (b::us)) (Ty.dec a) (Ty.decL (b::us)) x y
end
structure TV where
 τ:Ty
 x:τ.T
def zzC {a b:Ty}(h:a.beq b=true) (x:a.T):b.T:=Ty.beq_eq h▸x
def TV.as (v:TV) (τ:Ty):Option τ.T:=if h:v.τ.beq τ=true then some (zzC h v.x) else none
inductive TR where
 | tot (v:TV)
 | par (τ:Ty) (o:Option τ.T)
def zAT (k:IntKind) (a b:Int):Int:=k.wrap (BitVec.ofInt k.bits a &&& BitVec.ofInt k.bits b).toNat
def bOr (k:IntKind) (a b:Int):Int:=k.wrap (BitVec.ofInt k.bits a ||| BitVec.ofInt k.bits b).toNat
def zAB (k:IntKind) (a b:Int):Int:=k.wrap (BitVec.ofInt k.bits a^^^BitVec.ofInt k.bits b).toNat
def zuG (k:IntKind) (a b:Int):Int:=k.wrap (BitVec.ofInt k.bits a &&& ~~~(BitVec.ofInt k.bits b)).toNat
def zAS (k:IntKind) (n:Int):Int:=k.wrap (BitVec.ofInt k.bits (if k.signed then -1 else k.max)^^^BitVec.ofInt k.bits n).toNat
def zBe (k:IntKind) (n:Int):Int:=k.wrap (0 - n)
def zA7 (k:IntKind) (a b:Int):Option Int:=if b=0 then none else some (k.wrap (a.tdiv b))
def zAj (a b:Int):Option Int:=if b=0 then none else some (a.tmod b)
def zAX (k:IntKind) (a b:Int):Option Int:=if b<0 then none else some (k.wrap (a * 2 ^ (min b.toNat k.bits)))
def zAm (k:IntKind) (a b:Int):Option Int:=if b<0 then none else some (a.fdiv (2 ^ (min b.toNat k.bits)))
def zmt:List Int→List Int→Bool
 | _,[]=>false
 | [],_::_=>true
 | a::x,b::y=>decide (a<b)||(decide (a=b)&&zmt x y)
def zBh (a b:List Int):Option (List Int):=if a.length + b.length≤17592186044416 then some (a++b) else none
def zzG {α:Type}(l:List α) (i:Int):Option α:=if 0≤i then l[i.toNat]? else none
def zzI {α:Type}(l:List α) (i:Int) (v:α):Option (List α):=if 0≤i∧i<l.length then some (l.set i.toNat v) else none
def zzR {α:Type}(l:List α) (lo hi:Int):Option (List α):=if 0≤lo∧lo≤hi∧hi≤l.length then some ((l.take hi.toNat).drop lo.toNat) else none
def zzN {α:Type}(by_:Nat) (s x:List α):Option (List α):=if zaX (s.length + x.length) by_=true then some (s++x) else none
def ztg {α:Type}(z:α) (by_:Nat) (s:List α) (n:Int):Option (List α):=if 0≤n then zzN by_ s (List.replicate n.toNat z) else none
def zAf {α:Type}(z:α) (by_:Nat) (n c:Int):Option (List α):=if 0≤n∧n≤c∧zaX c.toNat by_=true then some (List.replicate n.toNat z) else none
def zat {α:Type}(by_:Nat) (s:List α):Option (List α):=if zaX s.length by_=true then some s else none
def zzH (n i:Int):Option Int:=if 0≤i∧i<n then some i else none
def zyz (lo hi i:Int):Option Int:=if 0≤i∧i<hi - lo then some (lo + i) else none
def zAl (n lo hi:Int):Option Int:=if 0≤lo∧lo≤hi∧hi≤n then some hi else none
def zuW (n lo hi mx:Int):Option Int:=if 0≤lo∧lo≤hi∧hi≤mx∧mx=n then some hi else none
def zvx (n lo l h:Int):Option Int:=if 0≤lo∧0≤l∧l≤h∧lo + h≤n then some (lo + h) else none
def zA9 (x y:Int):Option Int:=if x=y then some y else none
def zAP {α:Type}(l m:List α):List α:=m.take l.length++l.drop m.length
def zul {α:Type}(l:List α) (lo hi:Int) (m:List α):Option (List α):=if 0≤lo∧lo≤hi∧hi≤l.length then some (l.take lo.toNat++(m.take (hi - lo).toNat++l.drop (lo.toNat + (m.take (hi - lo).toNat).length))) else none
def zoO {α:Type}(by_:Nat) (l:List α) (hi:Int) (m:List α):Option (List α):=if 0≤hi∧hi≤l.length∧zaX (hi.toNat + m.length) by_=true then some (l.take hi.toNat++(m++l.drop (hi.toNat + m.length))) else none
def zwY {α:Type}(l:List α):Option Bool:=match l with|[]=>none|_::_=>some false
def nnO {α:Type}(l:List α):Option (List α):=match l with|[]=>none|a::m=>some (a::m)
def zAH (l:List Int):Option (List Int):=if l.all (fun n=>decide (0≤n)&&decide (n<256))=true then some l else none
def znJ {α β:Type}(dec:DecidableEq α) (k:α):List (α×β)→Option β
 | []=>none
 | p::l=>bif @decide (k=p.1) (dec k p.1) then some p.2 else znJ dec k l
def zwd {α β:Type}(dec:DecidableEq α) (k:α) (v:β):List (α×β)→List (α×β)
 | []=>[(k,v)]
 | p::l=>bif @decide (k=p.1) (dec k p.1) then (k,v)::l else p::zwd dec k v l
def zyk {α β:Type}(dec:DecidableEq α) (l:List (α×β)) (k:α):Bool:=(znJ dec k l).isSome
def zyU {α β:Type}(dec:DecidableEq α) (z:β) (l:List (α×β)) (k:α):β:=(znJ dec k l).getD z
def zBq (x y:Int):Int:=if y<x then y else x
def zBk (x y:Int):Int:=if y>x then y else x
def zx7 (op:BinOp) (k:IntKind) (a b:Int):Option TR :=
 match op with
 | .add=>some (.tot ⟨.int k,k.wrap (a + b)⟩)
 | .sub=>some (.tot ⟨.int k,k.wrap (a - b)⟩)
 | .mul=>some (.tot ⟨.int k,k.wrap (a * b)⟩)
 | .quo=>some (.par (.int k) (zA7 k a b))
 | .rem=>some (.par (.int k) (zAj a b))
 | .and=>some (.tot ⟨.int k,zAT k a b⟩)
 | .or=>some (.tot ⟨.int k,bOr k a b⟩)
 | .xor=>some (.tot ⟨.int k,zAB k a b⟩)
 | .andNot=>some (.tot ⟨.int k,zuG k a b⟩)
 | .eql=>some (.tot ⟨.bool,decide (a=b)⟩)
 | .neq=>some (.tot ⟨.bool,!decide (a=b)⟩)
 | .lss=>some (.tot ⟨.bool,decide (a<b)⟩)
 | .leq=>some (.tot ⟨.bool,decide (a≤b)⟩)
 | .gtr=>some (.tot ⟨.bool,decide (b<a)⟩)
 | .geq=>some (.tot ⟨.bool,decide (b≤a)⟩)
 | _=>none
def zxm (op:BinOp) (a b:List Int):Option TR :=
 match op with
 | .add=>some (.par .str (zBh a b))
 | .eql=>some (.tot ⟨.bool,decide (a=b)⟩)
 | .neq=>some (.tot ⟨.bool,!decide (a=b)⟩)
 | .lss=>some (.tot ⟨.bool,zmt a b⟩)
 | .leq=>some (.tot ⟨.bool,zmt a b||decide (a=b)⟩)
 | .gtr=>some (.tot ⟨.bool,!(zmt a b||decide (a=b))⟩)
 | .geq=>some (.tot ⟨.bool,!zmt a b⟩)
 | _=>none
def zA3 (op:BinOp):List TV→Option TR
 | [⟨.int k,a⟩,⟨.int k',b⟩]=>match op with
  | .shl=>some (.par (.int k) (zAX k a b))
  | .shr=>some (.par (.int k) (zAm k a b))
  | _=>if k=k' then zx7 op k a b else none
 | [⟨.bool,a⟩,⟨.bool,b⟩]=>match op with
  | .eql=>some (.tot ⟨.bool,@decide (@Eq Bool a b) (instDecidableEqBool a b)⟩)
  | .neq=>some (.tot ⟨.bool,!@decide (@Eq Bool a b) (instDecidableEqBool a b)⟩)
  | _=>none
 | [⟨.str,a⟩,⟨.str,b⟩]=>zxm op a b
 | _=>none
def tUn (op:UnOp):List TV→Option TR
 | [⟨.int k,n⟩]=>match op with
  | .neg=>some (.tot ⟨.int k,zBe k n⟩)
  | .xor=>some (.tot ⟨.int k,zAS k n⟩)
  | _=>none
 | [⟨.bool,b⟩]=>match op with
  | .not=>some (.tot ⟨.bool,!b⟩)
  | _=>none
 | _=>none
def zqj:(ts:List Ty)→Ty.Tup ts→Nat→Option TV
 | [],_,_=>none
 | a::ts,x,j=>match ts,x with
  | [],x=>match j with|0=>some ⟨a,x⟩|_ + 1=>none
  | b::us,x=>match j with|0=>some ⟨a,x.1⟩|j + 1=>zqj (b::us) x.2 j
def zAA:(ts:List Ty)→Ty.Tup ts→Nat→TV→Option (Ty.Tup ts)
 | [],_,_,_=>none
 | a::ts,x,j,v=>match ts,x with
  | [],_=>match j with|0=>v.as a|_ + 1=>none
  | b::us,x=>match j with
   | 0=>match v.as a with|some y=>some (y,x.2)|none=>none
   | j + 1=>match zAA (b::us) x.2 j v with|some y=>some (x.1,y)|none=>none
def zyc:(vs:List TV)→Ty.Tup (vs.map TV.τ)
 | []=>()
 | v::vs=>match vs with
  | []=>v.x
  | w::us=>(v.x,zyc (w::us))
def znp (e:Ty):List TV→Option (List e.T)
 | []=>some []
 | v::vs=>match v.as e with
  | none=>none
  | some x=>match znp e vs with
   | none=>none
   | some l=>some (x::l)
def tP (p:Prim) (h:Ty) (vs:List TV):Option TR :=
 match p with
 | .bin op=>zA3 op vs
 | .un op=>tUn op vs
 | .conv k=>match vs with|[⟨.int _,n⟩]=>some (.tot ⟨.int k,k.wrap n⟩)|_=>none
 | .len=>match vs with|[⟨.sl _,l⟩]=>some (.tot ⟨.int .i64,(List.length l:Int)⟩)|_=>none
 | .get=>match vs with
  | [⟨.sl e,l⟩,⟨.int _,i⟩]=>some (.par e (zzG l i))
  | [⟨.arr _ e,l⟩,⟨.int _,i⟩]=>some (.par e (zzG l i))
  | _=>none
 | .set=>match vs with
  | [⟨.sl e,l⟩,⟨.int _,i⟩,v]=>match v.as e with|some x=>some (.par (.sl e) (zzI l i x))|none=>none
  | [⟨.arr n e,l⟩,⟨.int _,i⟩,v]=>match v.as e with|some x=>some (.par (.arr n e) (zzI l i x))|none=>none
  | _=>none
 | .fld j=>match vs with|[⟨.st ts,x⟩]=>(match zqj ts x j with|some v=>some (.tot v)|none=>none)|_=>none
 | .setf j=>match vs with|[⟨.st ts,x⟩,v]=>(match zAA ts x j v with|some y=>some (.tot ⟨.st ts,y⟩)|none=>none)|_=>none
 | .mk=>match h with
  | .arr n e=>match znp e vs with|some l=>some (.tot ⟨.arr n e,l⟩)|none=>none
  | _=>some (.tot ⟨.st (vs.map TV.τ),zyc vs⟩)
 | .mks=>match h with
  | .sl e=>match znp e vs with|some l=>some (.tot ⟨.sl e,l⟩)|none=>none
  | _=>none
 | .sub=>match vs with|[⟨.sl e,l⟩,⟨.int _,lo⟩,⟨.int _,hi⟩]=>some (.par (.sl e) (zzR l lo hi))|_=>none
 | .app b=>match vs with|[⟨.sl e,s⟩,v]=>(match v.as (.sl e) with|some x=>some (.par (.sl e) (zzN b s x))|none=>none)|_=>none
 | .zext z b=>match vs with|[⟨.sl e,s⟩,⟨.int _,n⟩]=>if zh5 e z=true then some (.par (.sl e) (ztg (Ty.rd e z) b s n)) else none|_=>none
 | .rep z b=>match h,vs with|.sl e,[⟨.int _,n⟩,⟨.int _,c⟩]=>if zh5 e z=true then some (.par (.sl e) (zAf (Ty.rd e z) b n c)) else none|_,_=>none
 | .clone b=>match vs with|[⟨.sl e,s⟩]=>some (.par (.sl e) (zat b s))|_=>none
 | .idx=>match vs with|[⟨.sl _,l⟩,⟨.int k,i⟩]=>some (.par (.int k) (zzH (List.length l) i))|_=>none
 | .idxn n=>match vs with|[⟨.int k,i⟩]=>some (.par (.int k) (zzH n i))|_=>none
 | .idxv=>match vs with|[⟨.int _,lo⟩,⟨.int _,hi⟩,⟨.int _,i⟩]=>some (.par (.int .i64) (zyz lo hi i))|_=>none
 | .rng=>match vs with|[⟨.sl _,l⟩,⟨.int _,lo⟩,⟨.int _,hi⟩]=>some (.par (.int .i64) (zAl (List.length l) lo hi))|_=>none
 | .pick=>match vs with|[⟨.bool,c⟩,⟨τ,a⟩,v]=>(match v.as τ with|some b=>some (.tot ⟨τ,cond c a b⟩)|none=>none)|_=>none
 | .isnil=>match vs with|[⟨.sl _,l⟩]=>some (.par .bool (zwY l))|_=>none
 | .eqv=>match vs with|[⟨τ,a⟩,v]=>if (τ.flat&&τ.known)=true then (match v.as τ with|some b=>some (.tot ⟨.bool,@decide (a=b) (Ty.dec τ a b)⟩)|none=>none) else none|_=>none
 | .slen=>match vs with|[⟨.str,l⟩]=>some (.tot ⟨.int .i64,(List.length (α:=Int) l:Int)⟩)|_=>none
 | .sget=>match vs with|[⟨.str,l⟩,⟨.int _,i⟩]=>some (.par (.int .u8) (zzG (α:=Int) l i))|_=>none
 | .ssub=>match vs with|[⟨.str,l⟩,⟨.int _,lo⟩,⟨.int _,hi⟩]=>some (.par .str (zzR (α:=Int) l lo hi))|_=>none
 | .tosl=>match vs with|[⟨.arr _ e,l⟩]=>some (.tot ⟨.sl e,l⟩)|_=>none
 | .clr z=>match vs with|[⟨.sl e,l⟩]=>if zh5 e z=true then some (.tot ⟨.sl e,(List.replicate (List.length l) (Ty.rd e z):List e.T)⟩) else none|_=>none
 | .cpy=>match vs with
  | [⟨.arr n e,l⟩,v]=>(match v.as (.sl e) with|some m=>some (.tot ⟨.arr n e,(zAP l m:List e.T)⟩)|none=>none)
  | _=>none
 | .cpyv=>match vs with|[⟨.sl e,l⟩,⟨.int _,lo⟩,⟨.int _,hi⟩,v]=>(match v.as (.sl e) with|some m=>some (.par (.sl e) (zul l lo hi m))|none=>none)|_=>none
 | .appv b=>match vs with|[⟨.sl e,l⟩,⟨.int _,hi⟩,v]=>(match v.as (.sl e) with|some m=>some (.par (.sl e) (zoO b l hi m))|none=>none)|_=>none
 | .eqi=>match vs with|[⟨.int _,x⟩,⟨.int k,y⟩]=>some (.par (.int k) (zA9 x y))|_=>none
 | .vlen=>match vs with|[⟨.int _,lo⟩,⟨.int _,hi⟩]=>some (.tot ⟨.int .i64,(Int.sub hi lo:Int)⟩)|_=>none
 | .vadd=>match vs with|[⟨.int _,x⟩,⟨.int _,y⟩]=>some (.tot ⟨.int .i64,(Int.add x y:Int)⟩)|_=>none
 | .rng3=>match vs with|[⟨.sl _,l⟩,⟨.int _,lo⟩,⟨.int _,hi⟩,⟨.int _,mx⟩]=>some (.par (.int .i64) (zuW (List.length l) lo hi mx))|_=>none
 | .rngv=>match vs with|[⟨.sl _,l⟩,⟨.int _,lo⟩,⟨.int _,a⟩,⟨.int _,b⟩]=>some (.par (.int .i64) (zvx (List.length l) lo a b))|_=>none
 | .nn=>match vs with|[⟨.sl e,l⟩]=>some (.par (.sl e) (nnO l))|_=>none
 | .mhas=>match vs with|[⟨.sl (.st [K,V]),l⟩,v]=>if (K.flat&&K.known)=true then (match v.as K with|some k=>some (.tot ⟨.bool,@zyk K.T V.T (Ty.dec K) l k⟩)|none=>none) else none|_=>none
 | .mget z=>match vs with|[⟨.sl (.st [K,V]),l⟩,v]=>if (K.flat&&K.known&&zh5 V z)=true then (match v.as K with|some k=>some (.tot ⟨V,@zyU K.T V.T (Ty.dec K) (Ty.rd V z) l k⟩)|none=>none) else none|_=>none
 | .mput=>match vs with|[⟨.sl (.st [K,V]),l⟩,v,u]=>if (K.flat&&K.known)=true then (match v.as K with|some k=>(match u.as V with|some x=>some (.tot ⟨.sl (.st [K,V]),(@zwd K.T V.T (Ty.dec K) k x l:List (K.T×V.T))⟩)|none=>none)|none=>none) else none|_=>none
 | .b2s=>match vs with|[⟨.sl (.int .u8),l⟩]=>some (.par .str (zAH l))|_=>none
 | .s2b=>match vs with|[⟨.str,l⟩]=>some (.tot ⟨.sl (.int .u8),l⟩)|_=>none
 | .min2=>match vs with|[⟨.int k,x⟩,⟨.int k',y⟩]=>if k=k' then some (.tot ⟨.int k,zBq x y⟩) else none|_=>none
 | .max2=>match vs with|[⟨.int k,x⟩,⟨.int k',y⟩]=>if k=k' then some (.tot ⟨.int k,zBk x y⟩) else none|_=>none
structure FnT where
 ps:List Ty
 rs:List Ty
 sem:Ty.Tup ps→Option (Ty.Tup rs)
structure PnT where
 ps:List Ty
 rs:List Ty
 sem:Ty.Tup ps→Ty.Tup rs
def PnT.fn (p:PnT):FnT:=⟨p.ps,p.rs,fun x=>some (p.sem x)⟩
inductive TA where
 | prim (p:Prim) (as:List At) (k:TA)
 | primH (p:Prim) (h:Ty) (as:List At) (k:TA)
 | mkS (ts:List Ty) (as:List At) (k:TA)
 | mkA (n:Nat) (e:Ty) (as:List At) (k:TA)
 | mkL (e:Ty) (as:List At) (k:TA)
 | call (f:FuncId) (fn:FnT) (as:List At) (m:Nat) (k:TA)
 | callp (f:FuncId) (fn:PnT) (as:List At) (m:Nat) (k:TA)
 | subp (τs:List Ty) (t:TA) (m:Nat) (k:TA)
 | sub0 (τs:List Ty) (t:TA) (m:Nat) (k:TA)
 | sub1 (τs:List Ty) (t:TA) (m:Nat) (k:TA)
 | loop (τs:List Ty) (init:List At) (b:TA)
 | ite (c:At) (t e:TA)
 | jmp (lvl:Nat) (back:Bool) (as:List At)
 | clone (n b:Nat) (e:Ty) (s:At) (k:TA)
 | fail (why:Nat)
def TA.erase:TA→Tree
 | .prim p as k=>.prim p as k.erase
 | .primH p _ as k=>.prim p as k.erase
 | .mkS _ as k=>.prim .mk as k.erase
 | .mkA _ _ as k=>.prim .mk as k.erase
 | .mkL _ as k=>.prim .mks as k.erase
 | .call f _ as m k=>.call f as m k.erase
 | .callp f _ as m k=>.call f as m k.erase
 | .subp _ t m k=>.sub t.erase m k.erase
 | .sub0 _ t m k=>.sub t.erase m k.erase
 | .sub1 _ t m k=>.sub t.erase m k.erase
 | .loop _ init b=>.loop init b.erase
 | .ite c t e=>.ite c t.erase e.erase
 | .jmp l b as=>.jmp l b as
 | .clone n b _ s k=>.sub (.prim .isnil [s] (.ite (.v n) (.jmp 0 false [.c .nil]) (.prim (.app b) [.c (.sl []),s] (.jmp 0 false [.v (n + 1)])))) 1 k.erase
 | .fail w=>.fail w
def live:List Ty→List Ty
 | []=>[]
 | t::l=>match t with|.no=>live l|t=>t::live l
def zm8 {α:Type}:List Ty→List α→List α
 | [],_=>[]
 | t::l,as=>match as with
  | []=>[]
  | a::as=>match t with|.no=>zm8 l as|_=>a::zm8 l as
def vis (k:Nat) (τs:List Ty):List Ty:=match k with|0=>τs|_ + 1=>live τs
def zAI {α:Type}(k:Nat) (τs:List Ty) (as:List α):List α:=match k with|0=>as|_ + 1=>zm8 τs as
def zmN (k:Nat):Bool:=match k with|2=>true|_=>false
def J:List (Nat×List Ty)→Type
 | []=>Empty
 | (k,τs)::l=>match l with
  | []=>Ty.Tup (vis k τs)
  | _::_=>Sum (Ty.Tup (vis k τs)) (J l)
def nth {α:Type}:List α→Nat→Option α
 | [],_=>none
 | a::_,0=>some a
 | _::l,n + 1=>nth l n
def atV (E:List TV) (n:Nat) (h:Ty):At→Option TV
 | .v i=>if Nat.blt i n then nth E (n - 1 - i) else none
 | .c d=>match d with
  | .int k x=>some ⟨.int k,x⟩
  | .bool b=>some ⟨.bool,b⟩
  | .str s=>some ⟨.str,zbh s⟩
  | d=>if zh5 h d=true then some ⟨h,Ty.rd h d⟩ else none
def atT (E:List TV) (n:Nat) (τ:Ty):At→Option τ.T
 | .v i=>if Nat.blt i n then match nth E (n - 1 - i) with|some v=>v.as τ|none=>none else none
 | .c d=>if zh5 τ d=true then some (Ty.rd τ d) else none
def zAx (E:List TV) (n:Nat) (h:Ty):List At→Option (List TV)
 | []=>some []
 | a::l=>match atV E n h a with
  | none=>none
  | some v=>match zAx E n h l with
   | none=>none
   | some vs=>some (v::vs)
def zz3 (E:List TV) (n:Nat):(τs:List Ty)→List At→Option (Ty.Tup τs)
 | [],as=>match as with|[]=>some ()|_::_=>none
 | τ::τs,as=>match as with
  | []=>none
  | a::l=>match τs with
   | []=>match l with|[]=>atT E n τ a|_::_=>none
   | b::us=>match atT E n τ a with
    | none=>none
    | some x=>match zz3 E n (b::us) l with
     | none=>none
     | some xs=>some (x,xs)
def zAz (E:List TV) (n:Nat) (τ:Ty):List At→Option (List τ.T)
 | []=>some []
 | a::l=>match atT E n τ a with
  | none=>none
  | some x=>match zAz E n τ l with
   | none=>none
   | some xs=>some (x::xs)
def pushT:(τs:List Ty)→Ty.Tup τs→List TV→List TV
 | [],_,E=>E
 | τ::τs,x,E=>match τs,x with
  | [],x=>⟨τ,x⟩::E
  | b::us,x=>pushT (b::us) x.2 (⟨τ,x.1⟩::E)
def tvs:(τs:List Ty)→Ty.Tup τs→List TV
 | [],_=>[]
 | τ::τs,x=>match τs,x with
  | [],x=>[⟨τ,x⟩]
  | b::us,x=>⟨τ,x.1⟩::tvs (b::us) x.2
def zlY:List Ty→List TV→List TV→List TV
 | [],_,E=>E
 | t::ts,vs,E=>match t with
  | .no=>zlY ts vs (⟨.no,()⟩::E)
  | _=>match vs with
   | []=>zlY ts [] (⟨.no,()⟩::E)
   | v::vs=>zlY ts vs (v::E)
def pushL (τs:List Ty) (x:Ty.Tup (live τs)) (E:List TV):List TV:=zlY τs (tvs (live τs) x) E
def zwx:(τs:List Ty)→Bool→Ty.Tup τs→Ty.Tup τs→Ty.Tup τs
 | [],_,_,_=>()
 | τ::τs,c,x,y=>match τs,x,y with
  | [],x,y=>@cond τ.T c x y
  | b::us,x,y=>(@cond τ.T c x.1 y.1,zwx (b::us) c x.2 y.2)
def asBool (v:Option TV):Option Bool:=match v with|some ⟨.bool,b⟩=>some b|_=>none
def zjm (n:Nat):At→Bool|.v i=>Nat.blt i n|.c _=>true
def zAF (E:List TV) (n:Nat) (as:List At) (b:Bool):(lv:List (Nat×List Ty))→Nat→Option (J lv)
 | [],_=>none
 | (k,τs)::l,lvl=>match l with
  | []=>match lvl with
   | 0=>if zmN k=b∧as.length=τs.length∧as.all (zjm n)=true then zz3 E n (vis k τs) (zAI k τs as) else none
   | _ + 1=>none
  | q::us=>match lvl with
   | 0=>if zmN k=b∧as.length=τs.length∧as.all (zjm n)=true then (match zz3 E n (vis k τs) (zAI k τs as) with|some x=>some (Sum.inl x)|none=>none) else none
   | lvl + 1=>match zAF E n as b (q::us) lvl with|some j=>some (Sum.inr j)|none=>none
def zlm {S R:Type}(f:S→Option (Sum S R)):Nat→S→Option R
 | 0,_=>none
 | n + 1,s=>match f s with
  | none=>none
  | some (.inl s')=>zlm f n s'
  | some (.inr r)=>some r
open Classical in
noncomputable def zae {S R:Type}(f:S→Option (Sum S R)) (s:S):Option R :=
 if h:∃ r n,zlm f n s=some r then some (Classical.choose h) else none
def zbv {α β:Type}(o:Option (Sum α β)) (k:α→Option β):Option β:=o.bind fun r=>match r with
 | .inl x=>k x
 | .inr j=>some j
@[simp] theorem zaG {α β:Type} {x:α} {k:α→Option β}:zbv (some (.inl x)) k=k x:=rfl
@[simp] theorem ze1 {α β:Type} {j:β} {k:α→Option β}:zbv (some (.inr j)) k=some j:=rfl
@[simp] theorem orExit_none {α β:Type} {k:α→Option β}:zbv none k=none:=rfl
def w64 (n:Int):Int:=IntKind.wrap .i64 n
def wu8 (n:Int):Int:=IntKind.wrap .u8 n
def zAO (n:Int):Int:=IntKind.wrap .u32 n
def TA.pden:TA→List TV→Nat→(τs:List Ty)→Option (Ty.Tup τs)
 | .prim p as k,E,n,τs=>match zAx E n .no as with
  | none=>none
  | some vs=>match tP p .no vs with
   | some (.tot v)=>k.pden (v::E) (n + 1) τs
   | _=>none
 | .primH p h as k,E,n,τs=>match zAx E n h as with
  | none=>none
  | some vs=>match tP p h vs with
   | some (.tot v)=>k.pden (v::E) (n + 1) τs
   | _=>none
 | .mkS ts as k,E,n,τs=>match zz3 E n ts as with
  | none=>none
  | some x=>k.pden (⟨.st ts,x⟩::E) (n + 1) τs
 | .mkA c e as k,E,n,τs=>match zAz E n e as with
  | none=>none
  | some x=>k.pden (⟨.arr c e,x⟩::E) (n + 1) τs
 | .mkL e as k,E,n,τs=>match zAz E n e as with
  | none=>none
  | some x=>k.pden (⟨.sl e,x⟩::E) (n + 1) τs
 | .callp _ fn as m k,E,n,τs=>match zz3 E n fn.ps as with
  | none=>none
  | some x=>if fn.rs.length=m then k.pden (pushT fn.rs (fn.sem x) E) (n + m) τs else none
 | .subp σs t m k,E,n,τs=>match t.pden E n σs with
  | none=>none
  | some x=>if σs.length=m then k.pden (pushT σs x E) (n + m) τs else none
 | .ite c t e,E,n,τs=>match asBool (atV E n .no c) with
  | none=>none
  | some b=>match t.pden E n τs with
   | none=>none
   | some x=>match e.pden E n τs with
    | none=>none
    | some y=>some (zwx τs b x y)
 | .jmp l b as,E,n,τs=>match l,b with
  | 0,false=>zz3 E n τs as
  | _,_=>none
 | _,_,_,_=>none
noncomputable def TA.den:TA→List TV→Nat→(lv:List (Nat×List Ty))→Option (J lv)
 | .prim p as k,E,n,lv=>match zAx E n .no as with
  | none=>none
  | some vs=>match tP p .no vs with
   | some (.tot v)=>k.den (v::E) (n + 1) lv
   | some (.par τ o)=>o.bind fun x=>k.den (⟨τ,x⟩::E) (n + 1) lv
   | none=>none
 | .primH p h as k,E,n,lv=>match zAx E n h as with
  | none=>none
  | some vs=>match tP p h vs with
   | some (.tot v)=>k.den (v::E) (n + 1) lv
   | some (.par τ o)=>o.bind fun x=>k.den (⟨τ,x⟩::E) (n + 1) lv
   | none=>none
 | .mkS ts as k,E,n,lv=>match zz3 E n ts as with
  | none=>none
  | some x=>k.den (⟨.st ts,x⟩::E) (n + 1) lv
 | .mkA c e as k,E,n,lv=>match zAz E n e as with
  | none=>none
  | some x=>k.den (⟨.arr c e,x⟩::E) (n + 1) lv
 | .mkL e as k,E,n,lv=>match zAz E n e as with
  | none=>none
  | some x=>k.den (⟨.sl e,x⟩::E) (n + 1) lv
 | .call _ fn as m k,E,n,lv=>match zz3 E n fn.ps as with
  | none=>none
  | some x=>if fn.rs.length=m then (fn.sem x).bind fun y=>k.den (pushT fn.rs y E) (n + m) lv else none
 | .callp _ fn as m k,E,n,lv=>match zz3 E n fn.ps as with
  | none=>none
  | some x=>if fn.rs.length=m then k.den (pushT fn.rs (fn.sem x) E) (n + m) lv else none
 | .subp σs t m k,E,n,lv=>match t.pden E n σs with
  | none=>none
  | some x=>if σs.length=m then k.den (pushT σs x E) (n + m) lv else none
 | .sub0 σs t m k,E,n,lv=>if σs.length=m then (TA.den t E n [(1,σs)]).bind fun x:Ty.Tup (live σs)=>k.den (pushL σs x E) (n + m) lv else none
 | .sub1 σs t m k,E,n,lv=>match lv with
  | []=>none
  | q::us=>if σs.length=m then (TA.den t E n ((1,σs)::q::us)).bind fun (r:Sum (Ty.Tup (live σs)) (J (q::us)))=>match r with
   | .inl x=>k.den (pushL σs x E) (n + m) (q::us)
   | .inr j=>some j
   else none
 | .loop σs init b,E,n,lv=>match lv with
  | []=>none
  | q::us=>if init.length=σs.length∧init.all (zjm n)=true then match zz3 E n (live σs) (zm8 σs init) with
   | none=>none
   | some x=>zae (fun s:Ty.Tup (live σs)=>(TA.den b (pushL σs s E) (n + σs.length) ((2,σs)::q::us):Option (Sum (Ty.Tup (live σs)) (J (q::us))))) x
   else none
 | .ite c t e,E,n,lv=>match asBool (atV E n .no c) with
  | none=>none
  | some b=>if b=true then t.den E n lv else e.den E n lv
 | .jmp l b as,E,n,lv=>zAF E n as b lv l
 | .clone c b e s k,E,n,lv=>match atT E n (.sl e) s with
  | none=>none
  | some x=>if Nat.beq c n=true then (zat b x).bind fun y:List e.T=>k.den (⟨.sl e,y⟩::E) (n + 1) lv else none
 | .fail _,_,_,_=>none
end Go.SX
namespace Go.SX
section
variable {α β:Type} {R:α→β→Prop}
theorem All2.length_eq:∀ {l:List α}{m:List β},All2 R l m→l.length=m.length
 | [],[],_=>rfl
 | _::_,_::_,h=>by simp [All2.length_eq h.2]
 | [],_::_,h=>h.elim
 | _::_,[],h=>h.elim
theorem All2.append:∀ {l l':List α}{m m':List β},All2 R l m→All2 R l' m'→All2 R (l++l') (m++m')
 | [],_,[],_,_,h=>h
 | _::_,_,_::_,_,h,h'=>⟨h.1,All2.append h.2 h'⟩
 | [],_,_::_,_,h,_=>h.elim
 | _::_,_,[],_,h,_=>h.elim
theorem All2.take:∀ {l:List α}{m:List β}(n:Nat),All2 R l m→All2 R (l.take n) (m.take n)
 | [],[],_,_=>by simp [All2]
 | _::_,_::_,0,_=>trivial
 | _::_,_::_,n + 1,h=>⟨h.1,All2.take n h.2⟩
 | [],_::_,_,h=>h.elim
 | _::_,[],_,h=>h.elim
theorem All2.drop:∀ {l:List α}{m:List β}(n:Nat),All2 R l m→All2 R (l.drop n) (m.drop n)
 | [],[],_,_=>by simp [All2]
 | _::_,_::_,0,h=>h
 | _::_,_::_,n + 1,h=>All2.drop n h.2
 | [],_::_,_,h=>h.elim
 | _::_,[],_,h=>h.elim
theorem All2.get:∀ {l:List α}{m:List β}{n:Nat}{b:β},All2 R l m→m[n]?=some b→∃ a,l[n]?=some a∧R a b
 | [],[],_,_,_,h=>by simp at h
 | a::_,_::_,0,_,h,e=>⟨a,rfl,by simp at e;rw [← e];exact h.1⟩
 | _::_,_::_,n + 1,_,h,e=>by simpa using All2.get (n:=n) h.2 (by simpa using e)
 | [],_::_,_,_,h,_=>h.elim
 | _::_,[],_,_,h,_=>h.elim
theorem All2.set:∀ {l:List α}{m:List β}(n:Nat) {a:α}{b:β},All2 R l m→R a b→All2 R (l.set n a) (m.set n b)
 | [],[],_,_,_,_,_=>by simp [All2]
 | _::_,_::_,0,_,_,h,e=>⟨e,h.2⟩
 | _::_,_::_,n + 1,_,_,h,e=>⟨h.1,All2.set n h.2 e⟩
 | [],_::_,_,_,_,h,_=>h.elim
 | _::_,[],_,_,_,h,_=>h.elim
theorem All2.rep {a:α}{b:β}(h:R a b):∀ n,All2 R (List.replicate n a) (List.replicate n b)
 | 0=>trivial
 | n + 1=>⟨h,All2.rep h n⟩
end
theorem zho {v:TV}{τ:Ty}{x:τ.T}{d:D}(h:v.as τ=some x) (hd:Rl v.τ d v.x):Rl τ d x:=by
 unfold TV.as at h
 split at h
 ·rename_i hb
  injection h with h
  obtain ⟨σ,y⟩:=v
  have e:=Ty.beq_eq hb
  simp only at e
  subst e
  rw [← h]
  exact hd
 ·cases h
mutual
theorem zoi:∀ {τ:Ty}{d:D},zh5 τ d=true→Rl τ d (Ty.rd τ d)
 | .int k,.int k' n,h=>by
  have e:k=k':=of_decide_eq_true h
  subst e
  exact rfl
 | .int k,.bool _,h|.int k,.str _,h|.int k,.agg _,h|.int k,.sl _,h|.int k,.nil,h=>by exact absurd h Bool.false_ne_true
 | .bool,.bool b,h=>rfl
 | .bool,.int _ _,h|.bool,.str _,h|.bool,.agg _,h|.bool,.sl _,h|.bool,.nil,h=>by exact absurd h Bool.false_ne_true
 | .str,.str s,h=>⟨s,rfl,rfl⟩
 | .str,.int _ _,h|.str,.bool _,h|.str,.agg _,h|.str,.sl _,h|.str,.nil,h=>by exact absurd h Bool.false_ne_true
 | .sl e,d,h=>by
  cases d<;>simp only [zh5,wA0] at h
  ·exact ⟨_,rfl,zt5 h⟩
  ·exact ⟨[],rfl,trivial⟩
 | .arr n e,d,h=>by
  cases d<;>simp only [zh5,wA0] at h
  exact ⟨_,rfl,zt5 h⟩
 | .st ts,d,h=>by
  cases d<;>simp only [zh5,wA0] at h
  exact ⟨_,rfl,zwU h⟩
 | .no,d,h=>by simp [zh5] at h
theorem zt5:∀ {e:Ty}{l:List D},l.all (zh5 e)=true→All2 (Rl e) l (l.map (Ty.rd e))
 | e,[],_=>trivial
 | e,d::l,h=>by
  simp only [List.all_cons,wD0] at h
  exact ⟨zoi h.1,zt5 h.2⟩
theorem zwU:∀ {ts:List Ty}{l:List D},zoD ts l=true→RlL ts l (Ty.rdL ts l)
 | [],l,h=>by cases l<;>simp_all [zoD,RlL]
 | [a],l,h=>by
  cases l with
  | nil=>simp [zoD] at h
  | cons d m =>
   simp only [zoD,wD0] at h
   cases m with
   | nil=>exact ⟨d,rfl,zoi h.1⟩
   | cons _ _=>simp [zoD] at h
 | a::b::ts,l,h=>by
  cases l with
  | nil=>simp [zoD] at h
  | cons d m =>
   rw [zoD,wD0] at h
   exact ⟨d,m,rfl,zoi h.1,zwU h.2⟩
end
theorem ztd {s t:ByteArray}(h:zbh s=zbh t):s.data.toList=t.data.toList:=by
 unfold zbh at h
 have:∀ l m:List UInt8,l.map (fun b=>(b.toNat:Int))=m.map (fun b=>(b.toNat:Int))→l=m:=by
  intro l
  induction l with
  | nil=>intro m h;cases m<;>simp_all
  | cons a l ih =>
   intro m h
   cases m with
   | nil=>simp at h
   | cons b m =>
    simp only [vP0,List.cons.injEq] at h
    rw [ih m h.2]
    have h1:a.toNat=b.toNat:=by omega
    rw [UInt8.toNat_inj.1 h1]
 exact this _ _ h
theorem zo8 {s t:ByteArray}:(s.data.toList=t.data.toList)↔zbh s=zbh t:=⟨fun h=>by unfold zbh;rw [h],ztd⟩
theorem zha {s:ByteArray}:(zbh s).length=s.size:=by unfold zbh;simp
mutual
theorem zo4:∀ {τ:Ty}{d d':D}{x y:τ.T},(τ.flat&&τ.known)=true→Rl τ d x→Rl τ d' y→(d.beq d'=true↔x=y)
 | .int k,d,d',x,y,_,h,h'=>by
  simp only [Rl] at h h'
  subst h h'
  simp only [D.beq,vE0,vB1]
  exact @decide_eq_true_iff (@Eq Int x y) (Int.instDecidableEq x y)
 | .bool,d,d',x,y,_,h,h'=>by
  simp only [Rl] at h h'
  subst h h'
  simp only [D.beq]
  exact beq_iff_eq (α:=Bool)
 | .str,d,d',x,y,_,h,h'=>by
  obtain ⟨s,rfl,rfl⟩:=h
  obtain ⟨t,rfl,rfl⟩:=h'
  simp only [D.beq]
  exact decide_eq_true_iff.trans zo8
 | .sl e,d,d',x,y,hf,h,h'=>by simp [Ty.flat] at hf
 | .arr n e,d,d',x,y,hf,h,h'=>by
  obtain ⟨l,rfl,h⟩:=h
  obtain ⟨l',rfl,h'⟩:=h'
  simp only [D.beq]
  exact zsD (by simpa [Ty.flat,Ty.known] using hf) h h'
 | .st ts,d,d',x,y,hf,h,h'=>by
  obtain ⟨l,rfl,h⟩:=h
  obtain ⟨l',rfl,h'⟩:=h'
  simp only [D.beq]
  exact zsd (by simpa [Ty.flat,Ty.known] using hf) h h'
 | .no,d,d',x,y,hf,h,h'=>by simp [Ty.known] at hf
theorem zsD:∀ {e:Ty}{l l':List D}{x y:List e.T},(e.flat&&e.known)=true→All2 (Rl e) l x→All2 (Rl e) l' y→(D.beqL l l'=true↔x=y)
 | e,[],[],[],[],_,_,_=>by simp [D.beqL]
 | e,[],_::_,[],_::_,_,_,_=>by simp [D.beqL]
 | e,_::_,[],_::_,[],_,_,_=>by simp [D.beqL]
 | e,a::l,b::l',x::xs,y::ys,hf,h,h'=>by
  simp only [D.beqL,wD0,List.cons.injEq]
  rw [zo4 hf h.1 h'.1,zsD hf h.2 h'.2]
 | e,[],_,_::_,_,_,h,_=>h.elim
 | e,_::_,_,[],_,_,h,_=>h.elim
 | e,_,[],_,_::_,_,_,h=>h.elim
 | e,_,_::_,_,[],_,_,h=>h.elim
theorem zsd:∀ {ts:List Ty}{l l':List D}{x y:Ty.Tup ts},(Ty.flatL ts&&Ty.knownL ts)=true→RlL ts l x→RlL ts l' y→(D.beqL l l'=true↔x=y)
 | [],l,l',x,y,_,h,h'=>by
  simp only [RlL] at h h'
  subst h h'
  simp only [D.beqL,true_iff]
  exact (rfl:(x:Unit)=y)
 | [a],l,l',x,y,hf,h,h'=>by
  obtain ⟨d,rfl,h⟩:=h
  obtain ⟨d',rfl,h'⟩:=h'
  simp only [Ty.flatL,Ty.knownL,Bool.and_true] at hf
  simp only [D.beqL,Bool.and_true]
  exact zo4 hf h h'
 | a::b::ts,l,l',x,y,hf,h,h'=>by
  obtain ⟨d,m,rfl,h1,h2⟩:=h
  obtain ⟨d',m',rfl,h1',h2'⟩:=h'
  rw [Ty.flatL,Ty.knownL] at hf
  simp only [wD0] at hf
  rw [D.beqL,wD0,zo4 (by simp only [wD0];exact ⟨hf.1.1,hf.2.1⟩) h1 h1',zsd (by simp only [wD0];exact ⟨hf.1.2,hf.2.2⟩) h2 h2']
  exact (Prod.ext_iff (α:=a.T) (β:=Ty.Tup (b::ts)) (x:=x) (y:=y)).symm
end
theorem ztQ {τ:Ty}{d d':D}{x y:τ.T}(hf:(τ.flat&&τ.known)=true) (h:Rl τ d x) (h':Rl τ d' y):d.beq d'=@decide (x=y) (Ty.dec τ x y):=by
 rw [Bool.eq_iff_iff,zo4 hf h h']
 simp
def RV (ds:List D) (vs:List TV):Prop:=All2 (fun d (v:TV)=>Rl v.τ d v.x) ds vs
def zAg (o:Option D):TR→Prop
 | .tot v=>∃ d,o=some d∧Rl v.τ d v.x
 | .par τ ox=>∀ x,ox=some x→∃ d,o=some d∧Rl τ d x
theorem RV.one {ds:List D}{v:TV}(h:RV ds [v]):∃ d,ds=[d]∧Rl v.τ d v.x:=by
 match ds,h with
 | [d],h=>exact ⟨d,rfl,h.1⟩
theorem RV.two {ds:List D}{v w:TV}(h:RV ds [v,w]):∃ d e,ds=[d,e]∧Rl v.τ d v.x∧Rl w.τ e w.x:=by
 match ds,h with
 | [d,e],h=>exact ⟨d,e,rfl,h.1,h.2.1⟩
theorem RV.three {ds:List D}{v w u:TV}(h:RV ds [v,w,u]):∃ d e f,ds=[d,e,f]∧Rl v.τ d v.x∧Rl w.τ e w.x∧Rl u.τ f u.x:=by
 match ds,h with
 | [d,e,f],h=>exact ⟨d,e,f,rfl,h.1,h.2.1,h.2.2.1⟩
theorem RV.four {ds:List D}{v w u t:TV}(h:RV ds [v,w,u,t]):∃ d e f g,ds=[d,e,f,g]∧Rl v.τ d v.x∧Rl w.τ e w.x∧Rl u.τ f u.x∧Rl t.τ g t.x:=by
 match ds,h with
 | [d,e,f,g],h=>exact ⟨d,e,f,g,rfl,h.1,h.2.1,h.2.2.1,h.2.2.2.1⟩
theorem zvI {op:BinOp}{k:IntKind}{a b:Int}{r:TR}(h:zx7 op k a b=some r):zAg (zAq op k a b) r:=by
 cases op<;>simp only [zx7] at h<;>first
  | (injection h with h;subst h;simp [zAg,zAq,Rl,zAT,bOr,zAB,zuG];done)
  | skip
 case quo =>
  injection h with h;subst h
  intro x hx
  simp only [zA7] at hx
  simp only [zAq]
  split at hx
  ·cases hx
  ·rename_i hb
   injection hx with hx
   rw [if_neg hb]
   exact ⟨_,rfl,by simp only [Rl];rw [hx]⟩
 case rem =>
  injection h with h;subst h
  intro x hx
  simp only [zAj] at hx
  simp only [zAq]
  split at hx
  ·cases hx
  ·rename_i hb
   injection hx with hx
   rw [if_neg hb]
   exact ⟨_,rfl,by simp only [Rl];rw [hx]⟩
 case eql=>injection h with h;subst h;simp [zAg,zAq,Rl];rfl
 case neq=>injection h with h;subst h;simp [zAg,zAq,Rl];rfl
 all_goals cases h
theorem znt:∀ (x y:List UInt8),zdr x y=zmt (x.map fun b=>(b.toNat:Int)) (y.map fun b=>(b.toNat:Int))
 | [],[]=>by simp [zdr,zmt]
 | _::_,[]=>by simp [zdr,zmt]
 | [],_::_=>by simp [zdr,zmt]
 | a::x,b::y=>by
  simp only [zdr,zmt,vP0,znt x y]
  have h1:decide ((a.toNat:Int)<(b.toNat:Int))=decide (a<b):=decide_eq_decide.2 (by rw [UInt8.lt_iff_toNat_lt];omega)
  have h2:decide ((a.toNat:Int)=(b.toNat:Int))=(a==b):=by
   rw [Bool.eq_iff_iff]
   simp only [vG0,beq_iff_eq]
   constructor
   ·intro h;exact UInt8.toNat_inj.1 (by omega)
   ·intro h;rw [h]
  rw [h1,h2]
theorem zvB {op:BinOp}{s t:ByteArray}{r:TR}(h:zxm op (zbh s) (zbh t)=some r):zAg (zAM op s t) r:=by
 have he:(s.data.toList==t.data.toList)=decide (zbh s=zbh t):=by
  rw [Bool.eq_iff_iff]
  simp only [beq_iff_eq,vG0]
  exact zo8
 have hl:zdr s.data.toList t.data.toList=zmt (zbh s) (zbh t):=znt _ _
 cases op<;>simp only [zxm] at h<;>first
  | (injection h with h;subst h;simp only [zAg,zAM,Rl,he,hl];exact ⟨_,rfl,rfl⟩)
  | skip
 case add =>
  injection h with h;subst h
  intro x hx
  simp only [zBh,zha] at hx
  simp only [zAM]
  split at hx
  ·rename_i hc
   injection hx with hx
   rw [if_pos hc]
   refine ⟨_,rfl,_,rfl,?_⟩
   rw [← hx]
   unfold zbh
   show List.map _ _++List.map _ _=List.map _ _
   rw [← List.map_append]
   simp
  ·cases hx
 all_goals cases h
theorem zyb {op:BinOp}{vs:List TV}{ds:List D}{r:TR}(hv:RV ds vs) (h:zA3 op vs=some r):zAg (Prim.run (.bin op) ds) r:=by
 unfold zA3 at h
 split at h
 ·rename_i k a k' b
  obtain ⟨d,e,rfl,h1,h2⟩:=hv.two
  simp only [Rl] at h1 h2
  subst h1 h2
  split at h
  ·injection h with h;subst h
   intro x hx
   simp only [zAX] at hx
   simp only [Prim.run,zAp,shI]
   split at hx
   ·cases hx
   ·rename_i hb
    injection hx with hx
    rw [if_neg hb]
    exact ⟨_,rfl,by simp only [Rl];rw [hx]⟩
  ·injection h with h;subst h
   intro x hx
   simp only [zAm] at hx
   simp only [Prim.run,zAp,shI]
   split at hx
   ·cases hx
   ·rename_i hb
    injection hx with hx
    rw [if_neg hb]
    exact ⟨_,rfl,by simp only [Rl];rw [hx]⟩
  ·rename_i hn1 hn2
   split at h
   ·rename_i hk
    subst hk
    have:=zvI h
    simp only [Prim.run,zAp,if_true]
    cases op<;>first|exact this|exact absurd rfl hn1|exact absurd rfl hn2
   ·cases h
 ·rename_i a b
  obtain ⟨d,e,rfl,h1,h2⟩:=hv.two
  simp only [Rl] at h1 h2
  subst h1 h2
  split at h
  ·injection h with h;subst h
   simp only [zAg,Prim.run,zAp,zA1,Rl]
   refine ⟨_,rfl,?_⟩
   congr 1
  ·injection h with h;subst h
   simp only [zAg,Prim.run,zAp,zA1,Rl]
   refine ⟨_,rfl,?_⟩
   congr 1
  ·cases h
 ·rename_i a b
  obtain ⟨d,e,rfl,⟨s,h1,e1⟩,⟨t,h2,e2⟩⟩:=hv.two
  simp only at e1 e2 h1 h2
  subst h1 h2 e1 e2
  simp only [Prim.run,zAp]
  exact zvB h
 ·cases h
theorem zyr {op:UnOp}{vs:List TV}{ds:List D}{r:TR}(hv:RV ds vs) (h:tUn op vs=some r):zAg (Prim.run (.un op) ds) r:=by
 unfold tUn at h
 split at h
 ·obtain ⟨d,rfl,h1⟩:=hv.one
  simp only [Rl] at h1
  subst h1
  split at h
  ·injection h with h;subst h
   simp only [zAg,Prim.run,unD,Rl,zBe]
   exact ⟨_,rfl,rfl⟩
  ·injection h with h;subst h
   simp only [zAg,Prim.run,unD,Rl,zAS]
   exact ⟨_,rfl,rfl⟩
  ·cases h
 ·obtain ⟨d,rfl,h1⟩:=hv.one
  simp only [Rl] at h1
  subst h1
  split at h
  ·injection h with h;subst h
   simp only [zAg,Prim.run,unD,Rl]
   exact ⟨_,rfl,rfl⟩
  ·cases h
 ·cases h
theorem zsL:∀ {ts:List Ty}{x:Ty.Tup ts}{j:Nat}{v:TV}{l:List D},zqj ts x j=some v→RlL ts l x→∃ d,l[j]?=some d∧Rl v.τ d v.x
 | [],x,j,v,l,h,_=>by simp [zqj] at h
 | [a],x,j,v,l,h,hl=>by
  obtain ⟨d,rfl,hd⟩:=hl
  cases j with
  | zero =>
   simp only [zqj] at h
   injection h with h
   subst h
   exact ⟨d,rfl,hd⟩
  | succ j=>simp [zqj] at h
 | a::b::ts,x,j,v,l,h,hl=>by
  obtain ⟨d,m,rfl,h1,h2⟩:=hl
  cases j with
  | zero =>
   simp only [zqj] at h
   injection h with h
   subst h
   exact ⟨d,rfl,h1⟩
  | succ j =>
   rw [zqj] at h
   simpa using zsL h h2
theorem zuY:∀ {ts:List Ty}{x y:Ty.Tup ts}{j:Nat}{v:TV}{l:List D}{d:D},zAA ts x j v=some y→RlL ts l x→Rl v.τ d v.x→j<l.length∧RlL ts (l.set j d) y
 | [],x,y,j,v,l,d,h,_,_=>by simp [zAA] at h
 | [a],x,y,j,v,l,d,h,hl,hd=>by
  obtain ⟨d',rfl,hd'⟩:=hl
  cases j with
  | zero =>
   simp only [zAA] at h
   exact ⟨by simp,d,rfl,zho h hd⟩
  | succ j=>simp [zAA] at h
 | a::b::ts,x,y,j,v,l,d,h,hl,hd=>by
  obtain ⟨d',m,rfl,h1,h2⟩:=hl
  cases j with
  | zero =>
   simp only [zAA] at h
   split at h
   ·rename_i z hz
    injection h with h
    subst h
    exact ⟨by simp,d,m,rfl,zho hz hd,h2⟩
   ·cases h
  | succ j =>
   rw [zAA] at h
   split at h
   ·rename_i z hz
    injection h with h
    subst h
    obtain ⟨g1,g2⟩:=zuY hz h2 hd
    exact ⟨by simpa using g1,d',m.set j d,rfl,h1,g2⟩
   ·cases h
theorem zsc:∀ {vs:List TV}{ds:List D},RV ds vs→RlL (vs.map TV.τ) ds (zyc vs)
 | [],[],_=>rfl
 | [v],[d],h=>⟨d,rfl,h.1⟩
 | v::w::vs,d::ds,h=>⟨d,ds,rfl,h.1,zsc h.2⟩
 | [],_::_,h=>h.elim
 | _::_,[],h=>h.elim
 | [_],_::_::_,h=>h.2.elim
theorem zlK {e:Ty}:∀ {vs:List TV}{ds:List D}{l:List e.T},RV ds vs→znp e vs=some l→All2 (Rl e) ds l
 | [],[],l,_,h=>by
  simp only [znp] at h
  injection h with h
  subst h
  trivial
 | v::vs,d::ds,l,hv,h=>by
  simp only [znp] at h
  split at h
  ·cases h
  ·rename_i x hx
   split at h
   ·cases h
   ·rename_i m hm
    injection h with h
    subst h
    exact ⟨zho hx hv.1,zlK hv.2 hm⟩
 | [],_::_,_,h,_=>h.elim
 | _::_,[],_,h,_=>h.elim
end Go.SX
namespace Go.SX
theorem zqZ {e:Ty}{l:List D}{x:List e.T}{i:Int}(hl:All2 (Rl e) l x):∀ y,zzG x i=some y→∃ d,(if 0≤i then l[i.toNat]? else none)=some d∧Rl e d y:=by
 intro y hy
 simp only [zzG] at hy
 split at hy
 ·rename_i hi
  rw [if_pos hi]
  exact hl.get hy
 ·cases hy
theorem ztc {s:ByteArray}{n:Nat}{x:Int}(h:(zbh s)[n]?=some x):∃ b:UInt8,s[n]?=some b∧x=b.toNat:=by
 unfold zbh at h
 rw [List.getElem?_map] at h
 cases hb:s.data.toList[n]? with
 | none=>rw [hb] at h;cases h
 | some b =>
  rw [hb] at h
  injection h with h
  refine ⟨b,?_,h.symm⟩
  rw [← hb,Array.getElem?_toList]
  simp only [getElem?_def]
  rfl
theorem zm6 {s:ByteArray}{a b:Nat}:zbh (s.extract a b)=((zbh s).take b).drop a:=by
 unfold zbh
 rw [← List.map_take,← List.map_drop,ByteArray.data_extract,Array.toList_extract,List.extract_eq_drop_take',List.drop_take]
theorem zwS:∀ {l:List D}{x:List Int},All2 (Rl (.int .u8)) l x→(x.all fun n=>decide (0≤n)&&decide (n<256))=true→∃ b,zdA l=some b∧x=b.map fun b=>(b.toNat:Int)
 | [],[],_,_=>⟨[],rfl,rfl⟩
 | d::l,n::x,h,hx=>by
  simp only [List.all_cons,wD0,vG0] at hx
  obtain ⟨b,h1,h2⟩:=zwS h.2 (by simpa using hx.2)
  have hd:=h.1
  simp only [Rl] at hd
  subst hd
  refine ⟨UInt8.ofNat n.toNat::b,by simp [zdA,h1],?_⟩
  rw [vP0,← h2]
  congr 1
  rw [UInt8.toNat_ofNat']
  omega
 | [],_::_,h,_=>h.elim
 | _::_,[],h,_=>h.elim
theorem Rl.els {e:Ty}{d:D}{x:List e.T}(h:Rl (.sl e) d x):∃ l,d.els=some l∧All2 (Rl e) l x:=h
theorem Rl.mkSl {e:Ty}{l:List D}{x:List e.T}(h:All2 (Rl e) l x):Rl (.sl e) (.sl l) x:=⟨l,rfl,h⟩
theorem zbA {d:D}{l:List D}(h:d.els=some l):d=.sl l∨(d=.nil∧l=[]):=by
 cases d<;>simp [D.els] at h
 ·exact .inl (by rw [h])
 ·exact .inr ⟨rfl,h⟩
theorem zxb {K V:Ty}{d:D}{p:K.T×V.T}(h:Rl (.st [K,V]) d p):∃ k v,d=.agg [k,v]∧Rl K k p.1∧Rl V v p.2:=by
 obtain ⟨l,rfl,d1,m,rfl,h1,d2,rfl,h2⟩:=h
 exact ⟨d1,d2,rfl,h1,h2⟩
theorem zw8 {K V:Ty}{k v:D}{x:K.T}{y:V.T}(h1:Rl K k x) (h2:Rl V v y):Rl (.st [K,V]) (.agg [k,v]) (x,y):=⟨_,rfl,k,[v],rfl,h1,v,rfl,h2⟩
theorem zoE {K V:Ty}(hf:(K.flat&&K.known)=true) {d:D}{k:K.T}(hk:Rl K d k):∀ {ds:List D}{l:List (K.T×V.T)},All2 (Rl (.st [K,V])) ds l →
  ∃ o,zpU d ds=some o∧(o=none∧@znJ K.T V.T (Ty.dec K) k l=none∨∃ v y,o=some v∧@znJ K.T V.T (Ty.dec K) k l=some y∧Rl V v y)
 | [],[],_=>⟨none,rfl,.inl ⟨rfl,rfl⟩⟩
 | x::ds,p::l,h=>by
  obtain ⟨k',v',rfl,h1,h2⟩:=zxb h.1
  have hd:=ztQ hf hk h1
  simp only [zpU,znJ,← hd]
  cases d.beq k' with
  | true=>exact ⟨_,rfl,.inr ⟨_,_,rfl,rfl,h2⟩⟩
  | false=>exact zoE hf hk h.2
 | [],_::_,h=>h.elim
 | _::_,[],h=>h.elim
theorem zuV {K V:Ty}(hf:(K.flat&&K.known)=true) {d e:D}{k:K.T}{v:V.T}(hk:Rl K d k) (hv:Rl V e v):∀ {ds:List D}{l:List (K.T×V.T)},All2 (Rl (.st [K,V])) ds l →
  ∃ m,znm d e ds=some m∧All2 (Rl (.st [K,V])) m (@zwd K.T V.T (Ty.dec K) k v l)
 | [],[],_=>⟨_,rfl,zw8 hk hv,trivial⟩
 | x::ds,p::l,h=>by
  obtain ⟨k',v',rfl,h1,h2⟩:=zxb h.1
  have hd:=ztQ hf hk h1
  simp only [znm,zwd,← hd]
  cases d.beq k' with
  | true=>exact ⟨_,rfl,zw8 hk hv,h.2⟩
  | false =>
   obtain ⟨m,q1,q2⟩:=zuV hf hk hv h.2
   simp only [wA0,if_false,q1]
   exact ⟨_,rfl,h.1,q2⟩
 | [],_::_,h=>h.elim
 | _::_,[],h=>h.elim
theorem All2.nilSub {α β:Type}{R:α→β→Prop}{x:List β}(h:All2 R [] x) (a b:Nat):All2 R [] ((x.take a).drop b):=by
 cases x with
 | nil=>simp [All2]
 | cons _ _=>exact h.elim
theorem All2.nilCpy {α β:Type}{R:α→β→Prop}{x m:List β}(h:All2 R [] x) {lo hi:Int}(hh:0≤lo∧lo≤hi∧hi≤x.length) (c:Nat):All2 R [] (x.take lo.toNat++(m.take (hi - lo).toNat++x.drop c)):=by
 cases x with
 | nil =>
  have e:(hi - lo).toNat=0:=by simp only [List.length_nil] at hh;omega
  rw [e]
  simp [All2]
 | cons _ _=>exact h.elim
theorem zx0 {τ:Ty}{a b:τ.T}{e f:D}(h1:Rl τ e a) (h2:Rl τ f b) (c:Bool):∃ d,some (if c then e else f)=some d∧Rl τ d (cond c a b):=by
 cases c
 ·exact ⟨_,rfl,h2⟩
 ·exact ⟨_,rfl,h1⟩
theorem All2.nilApp {α β:Type}{R:α→β→Prop}{x m:List β}(h:All2 R [] x) (h':All2 R [] m) (a c:Nat):All2 R [] (x.take a++(m++x.drop c)):=by
 cases x with
 | nil =>
  cases m with
  | nil=>simp [All2]
  | cons _ _=>exact h'.elim
 | cons _ _=>exact h.elim
theorem zyN {i:Int}{n:Nat}(h:0≤i∧i<n) (e:0=n):False:=by omega
theorem zBm {lo hi:Int}{n:Nat}(h:0≤lo∧lo≤hi∧hi≤n) (e:0=n):lo=0∧hi=0:=by omega
theorem zt8 {e:Ty}{b:Nat}{s t:D}{x y:List e.T}(hs:Rl (.sl e) s x) (ht:Rl (.sl e) t y):∀ z:List e.T,zzN b x y=some z→∃ d,zzQ b s t=some d∧Rl (.sl e) d z:=by
 intro z hz
 obtain ⟨l,h1,h2⟩:=hs.els
 obtain ⟨m,h3,h4⟩:=ht.els
 simp only [zzN,← h2.length_eq,← h4.length_eq] at hz
 split at hz
 ·rename_i hr
  injection hz with hz
  simp only [zzQ,h1,h3,hr,if_true]
  refine ⟨_,rfl,l++m,?_,by rw [← hz];exact h2.append h4⟩
  rcases zbA h1 with h1|⟨h1,h1'⟩
  ·subst h1
   rfl
  ·subst h1 h1'
   cases m with
   | nil=>rfl
   | cons a m=>rfl
 ·cases hz
section
variable {p:Prim} {h:Ty} {vs:List TV} {ds:List D} {r:TR}
theorem zsZ (hv:RV ds vs) (hr:tP p h vs=some r):zAg (p.run ds) r:=by
 cases p with
 | bin op=>exact zyb hv hr
 | un op=>exact zyr hv hr
 | conv k =>
  simp only [tP] at hr
  split at hr
  ·injection hr with hr;subst hr
   obtain ⟨d,rfl,h1⟩:=hv.one
   simp only [Rl] at h1;subst h1
   exact ⟨_,rfl,rfl⟩
  ·cases hr
 | len =>
  simp only [tP] at hr
  split at hr
  ·injection hr with hr;subst hr
   obtain ⟨d,rfl,h1⟩:=hv.one
   obtain ⟨l,h1,h2⟩:=h1
   rcases zbA h1 with h1|⟨h1,h1'⟩
   ·subst h1
    exact ⟨_,rfl,by simp only [Rl];rw [← h2.length_eq]⟩
   ·subst h1 h1'
    exact ⟨_,rfl,by simp only [Rl];rw [← h2.length_eq];rfl⟩
  ·cases hr
 | get =>
  simp only [tP] at hr
  split at hr
  ·injection hr with hr;subst hr
   obtain ⟨d,e,rfl,h1,h2⟩:=hv.two
   simp only [Rl] at h2;subst h2
   obtain ⟨l,h1,h2⟩:=h1
   intro y hy
   rcases zbA h1 with h1|⟨h1,h1'⟩
   ·subst h1
    exact zqZ h2 y hy
   ·subst h1'
    obtain ⟨d,hd,_⟩:=zqZ h2 y hy
    simp at hd
  ·injection hr with hr;subst hr
   obtain ⟨d,e,rfl,h1,h2⟩:=hv.two
   simp only [Rl] at h2;subst h2
   obtain ⟨l,rfl,h2⟩:=h1
   intro y hy
   exact zqZ h2 y hy
  ·cases hr
 | set =>
  simp only [tP] at hr
  split at hr
  ·split at hr
   ·rename_i x hx
    injection hr with hr;subst hr
    obtain ⟨d,e,f,rfl,h1,h2,h3⟩:=hv.three
    simp only [Rl] at h2;subst h2
    obtain ⟨l,h1,h2⟩:=h1
    intro y hy
    simp only [zzI,← h2.length_eq] at hy
    split at hy
    ·rename_i hi
     injection hy with hy;subst hy
     rcases zbA h1 with h1|⟨h1,h1'⟩
     ·subst h1
      exact ⟨.sl _,if_pos (by rw [h2.length_eq];exact hi),_,rfl,h2.set _ (zho hx h3)⟩
     ·subst h1'
      exact (zyN hi h2.length_eq).elim
    ·cases hy
   ·cases hr
  ·split at hr
   ·rename_i x hx
    injection hr with hr;subst hr
    obtain ⟨d,e,f,rfl,h1,h2,h3⟩:=hv.three
    simp only [Rl] at h2;subst h2
    obtain ⟨l,rfl,h2⟩:=h1
    intro y hy
    simp only [zzI,← h2.length_eq] at hy
    split at hy
    ·rename_i hi
     injection hy with hy;subst hy
     exact ⟨.agg _,if_pos (by rw [h2.length_eq];exact hi),_,rfl,h2.set _ (zho hx h3)⟩
    ·cases hy
   ·cases hr
  ·cases hr
 | fld j =>
  simp only [tP] at hr
  split at hr
  ·split at hr
   ·rename_i v hp
    injection hr with hr;subst hr
    obtain ⟨d,rfl,h1⟩:=hv.one
    obtain ⟨l,rfl,h2⟩:=h1
    obtain ⟨d,h3,h4⟩:=zsL hp h2
    exact ⟨d,h3,h4⟩
   ·cases hr
  ·cases hr
 | setf j =>
  simp only [tP] at hr
  split at hr
  ·split at hr
   ·rename_i y hp
    injection hr with hr;subst hr
    obtain ⟨d,e,rfl,h1,h2⟩:=hv.two
    obtain ⟨l,rfl,h3⟩:=h1
    obtain ⟨h4,h5⟩:=zuY hp h3 h2
    exact ⟨_,if_pos h4,_,rfl,h5⟩
   ·cases hr
  ·cases hr
 | mk =>
  simp only [tP] at hr
  split at hr
  ·split at hr
   ·rename_i l hl
    injection hr with hr;subst hr
    exact ⟨_,rfl,_,rfl,zlK hv hl⟩
   ·cases hr
  ·injection hr with hr;subst hr
   exact ⟨_,rfl,_,rfl,zsc hv⟩
 | mks =>
  simp only [tP] at hr
  split at hr
  ·split at hr
   ·rename_i l hl
    injection hr with hr;subst hr
    exact ⟨_,rfl,_,rfl,zlK hv hl⟩
   ·cases hr
  ·cases hr
 | sub =>
  simp only [tP] at hr
  split at hr
  ·injection hr with hr;subst hr
   obtain ⟨d,e,f,rfl,h1,h2,h3⟩:=hv.three
   simp only [Rl] at h2 h3;subst h2 h3
   obtain ⟨l,h1,h2⟩:=h1
   intro y hy
   simp only [zzR,← h2.length_eq] at hy
   split at hy
   ·rename_i hi
    injection hy with hy;subst hy
    rcases zbA h1 with h1|⟨h1,h1'⟩
    ·subst h1
     exact ⟨.sl _,if_pos (by rw [h2.length_eq];exact hi),_,rfl,(h2.take _).drop _⟩
    ·subst h1 h1'
     refine ⟨.nil,if_pos (zBm hi h2.length_eq),[],rfl,?_⟩
     exact h2.nilSub _ _
   ·cases hy
  ·cases hr
 | app b =>
  simp only [tP] at hr
  split at hr
  ·split at hr
   ·rename_i x hx
    injection hr with hr;subst hr
    obtain ⟨d,e,rfl,h1,h2⟩:=hv.two
    exact zt8 h1 (zho hx h2)
   ·cases hr
  ·cases hr
 | zext z b =>
  simp only [tP] at hr
  split at hr
  ·split at hr
   ·rename_i hf
    injection hr with hr;subst hr
    obtain ⟨d,e,rfl,h1,h2⟩:=hv.two
    simp only [Rl] at h2;subst h2
    intro y hy
    simp only [ztg] at hy
    split at hy
    ·rename_i hn
     obtain ⟨d,g1,g2⟩:=zt8 h1 (Rl.mkSl (All2.rep (zoi hf) _)) y hy
     exact ⟨d,by simp only [Prim.run,if_pos hn];exact g1,g2⟩
    ·cases hy
   ·cases hr
  ·cases hr
 | rep z b =>
  simp only [tP] at hr
  split at hr
  ·split at hr
   ·rename_i hf
    injection hr with hr;subst hr
    obtain ⟨d,e,rfl,h1,h2⟩:=hv.two
    simp only [Rl] at h1 h2;subst h1 h2
    intro y hy
    simp only [zAf] at hy
    split at hy
    ·rename_i hn
     injection hy with hy;subst hy
     exact ⟨_,if_pos hn,Rl.mkSl (All2.rep (zoi hf) _)⟩
    ·cases hy
   ·cases hr
  ·cases hr
 | clone b =>
  simp only [tP] at hr
  split at hr
  ·injection hr with hr;subst hr
   obtain ⟨d,rfl,h1⟩:=hv.one
   intro y hy
   obtain ⟨l,h2,h3⟩:=h1.els
   simp only [zat,← h3.length_eq] at hy
   split at hy
   ·rename_i hn
    injection hy with hy;subst hy
    refine ⟨d,?_,l,h2,h3⟩
    simp only [Prim.run,h2,hn,if_true]
   ·cases hy
  ·cases hr
 | idx =>
  simp only [tP] at hr
  split at hr
  ·injection hr with hr;subst hr
   obtain ⟨d,e,rfl,h1,h2⟩:=hv.two
   simp only [Rl] at h2;subst h2
   obtain ⟨l,h1,h2⟩:=h1.els
   intro y hy
   simp only [zzH,← h2.length_eq] at hy
   split at hy
   ·rename_i hi
    injection hy with hy;subst hy
    rcases zbA h1 with h1|⟨h1,h1'⟩
    ·subst h1
     exact ⟨_,if_pos (by rw [h2.length_eq];exact hi),rfl⟩
    ·subst h1'
     exact (zyN hi h2.length_eq).elim
   ·cases hy
  ·cases hr
 | idxn n =>
  simp only [tP] at hr
  split at hr
  ·injection hr with hr;subst hr
   obtain ⟨d,rfl,h1⟩:=hv.one
   simp only [Rl] at h1;subst h1
   intro y hy
   simp only [zzH] at hy
   split at hy
   ·rename_i hi
    injection hy with hy;subst hy
    exact ⟨_,if_pos hi,rfl⟩
   ·cases hy
  ·cases hr
 | idxv =>
  simp only [tP] at hr
  split at hr
  ·injection hr with hr;subst hr
   obtain ⟨d,e,f,rfl,h1,h2,h3⟩:=hv.three
   simp only [Rl] at h1 h2 h3;subst h1 h2 h3
   intro y hy
   simp only [zyz] at hy
   split at hy
   ·rename_i hi
    injection hy with hy;subst hy
    exact ⟨_,if_pos hi,rfl⟩
   ·cases hy
  ·cases hr
 | rng =>
  simp only [tP] at hr
  split at hr
  ·injection hr with hr;subst hr
   obtain ⟨d,e,f,rfl,h1,h2,h3⟩:=hv.three
   simp only [Rl] at h2 h3;subst h2 h3
   obtain ⟨l,h1,h2⟩:=h1.els
   intro y hy
   simp only [zAl,← h2.length_eq] at hy
   split at hy
   ·rename_i hi
    injection hy with hy;subst hy
    refine ⟨_,?_,rfl⟩
    simp only [Prim.run,h1]
    exact if_pos (by rw [h2.length_eq];exact hi)
   ·cases hy
  ·cases hr
 | pick =>
  simp only [tP] at hr
  split at hr
  ·split at hr
   ·rename_i b hb
    injection hr with hr;subst hr
    obtain ⟨d,e,f,rfl,h1,h2,h3⟩:=hv.three
    simp only [Rl] at h1;subst h1
    have h3:=zho hb h3
    exact zx0 h2 h3 _
   ·cases hr
  ·cases hr
 | isnil =>
  simp only [tP] at hr
  split at hr
  ·injection hr with hr;subst hr
   obtain ⟨d,rfl,h1⟩:=hv.one
   obtain ⟨l,h1,h2⟩:=h1.els
   intro y hy
   simp only [zwY] at hy
   split at hy
   ·cases hy
   ·injection hy with hy;subst hy
    have h1:d.els=some l:=by assumption
    rcases zbA h1 with h1|⟨h1,h1'⟩
    ·subst h1
     exact ⟨_,rfl,rfl⟩
    ·subst h1'
     exact h2.elim
  ·cases hr
 | eqv =>
  simp only [tP] at hr
  split at hr
  ·split at hr
   ·rename_i hf
    split at hr
    ·rename_i b hb
     injection hr with hr;subst hr
     obtain ⟨d,e,rfl,h1,h2⟩:=hv.two
     exact ⟨_,rfl,by simp only [Rl];rw [ztQ hf h1 (zho hb h2)]⟩
    ·cases hr
   ·cases hr
  ·cases hr
 | slen =>
  simp only [tP] at hr
  split at hr
  ·injection hr with hr;subst hr
   obtain ⟨d,rfl,h1⟩:=hv.one
   obtain ⟨s,rfl,h2⟩:=h1
   simp only at h2;subst h2
   exact ⟨_,rfl,by simp only [Rl];rw [zha]⟩
  ·cases hr
 | sget =>
  simp only [tP] at hr
  split at hr
  ·injection hr with hr;subst hr
   obtain ⟨d,e,rfl,h1,h2⟩:=hv.two
   simp only [Rl] at h2;subst h2
   obtain ⟨s,rfl,h2⟩:=h1
   simp only at h2;subst h2
   intro y hy
   simp only [zzG] at hy
   split at hy
   ·rename_i hi
    obtain ⟨b,h3,h4⟩:=ztc hy
    refine ⟨.int .u8 b.toNat,?_,by simp only [Rl];rw [h4]⟩
    simp only [Prim.run,if_pos hi,h3]
    rfl
   ·cases hy
  ·cases hr
 | ssub =>
  simp only [tP] at hr
  split at hr
  ·injection hr with hr;subst hr
   obtain ⟨d,e,f,rfl,h1,h2,h3⟩:=hv.three
   simp only [Rl] at h2 h3;subst h2 h3
   obtain ⟨s,rfl,h2⟩:=h1
   simp only at h2;subst h2
   intro y hy
   simp only [zzR] at hy
   split at hy
   ·rename_i hi
    injection hy with hy
    refine ⟨.str _,if_pos (by rw [← zha];exact hi),_,rfl,?_⟩
    rw [zm6]
    exact hy.symm
   ·cases hy
  ·cases hr
 | tosl =>
  simp only [tP] at hr
  split at hr
  ·injection hr with hr;subst hr
   obtain ⟨d,rfl,h1⟩:=hv.one
   obtain ⟨l,rfl,h1⟩:=h1
   exact ⟨_,rfl,Rl.mkSl h1⟩
  ·cases hr
 | clr z =>
  simp only [tP] at hr
  split at hr
  ·split at hr
   ·rename_i hf
    injection hr with hr;subst hr
    obtain ⟨d,rfl,h1⟩:=hv.one
    obtain ⟨l,h1,h2⟩:=h1.els
    rcases zbA h1 with h1|⟨h1,h1'⟩
    ·subst h1
     exact ⟨_,rfl,Rl.mkSl (by rw [h2.length_eq];exact All2.rep (zoi hf) _)⟩
    ·subst h1 h1'
     refine ⟨_,rfl,[],rfl,?_⟩
     have hl:=h2.length_eq
     simp only [List.length_nil] at hl
     show All2 _ [] (List.replicate _ _)
     rw [← hl]
     trivial
   ·cases hr
  ·cases hr
 | cpy =>
  simp only [tP] at hr
  split at hr
  ·split at hr
   ·rename_i m hm
    injection hr with hr;subst hr
    obtain ⟨d,e,rfl,h1,h2⟩:=hv.two
    obtain ⟨l,rfl,h1⟩:=h1
    obtain ⟨l',h2,h3⟩:=(zho hm h2).els
    refine ⟨.agg (l'.take l.length++l.drop l'.length),by simp only [Prim.run,h2],_,rfl,?_⟩
    show All2 _ _ (zAP _ m)
    unfold zAP
    rw [h1.length_eq,h3.length_eq]
    exact (h3.take _).append (h1.drop _)
   ·cases hr
  ·cases hr
 | cpyv =>
  simp only [tP] at hr
  split at hr
  ·split at hr
   ·rename_i m hm
    injection hr with hr;subst hr
    obtain ⟨d,e,f,g,rfl,h1,h2,h3,h4⟩:=hv.four
    simp only [Rl] at h2 h3;subst h2 h3
    obtain ⟨l,h1,h2⟩:=h1.els
    obtain ⟨l',h5,h6⟩:=(zho hm h4).els
    intro y hy
    simp only [zul,← h2.length_eq] at hy
    split at hy
    ·rename_i hi
     injection hy with hy
     simp only [Prim.run,h1,h5]
     rw [if_pos (by rw [h2.length_eq];exact hi)]
     refine ⟨_,rfl,?_⟩
     rcases zbA h1 with h1|⟨h1,h1'⟩
     ·subst h1
      refine ⟨_,rfl,?_⟩
      rw [← hy,← (h6.take _).length_eq]
      exact (h2.take _).append ((h6.take _).append (h2.drop _))
     ·subst h1 h1'
      refine ⟨[],rfl,?_⟩
      rw [← hy]
      exact h2.nilCpy hi _
    ·cases hy
   ·cases hr
  ·cases hr
 | appv b =>
  simp only [tP] at hr
  split at hr
  ·split at hr
   ·rename_i m hm
    injection hr with hr;subst hr
    obtain ⟨d,e,f,rfl,h1,h2,h3⟩:=hv.three
    simp only [Rl] at h2;subst h2
    obtain ⟨l,h1,h2⟩:=h1.els
    obtain ⟨l',h5,h6⟩:=(zho hm h3).els
    intro y hy
    simp only [zoO] at hy
    split at hy
    ·rename_i hi
     injection hy with hy
     simp only [Prim.run,h1,h5]
     rw [if_pos (by rw [h2.length_eq,h6.length_eq];exact hi)]
     rw [← h6.length_eq] at hy
     refine ⟨_,rfl,?_⟩
     rcases zbA h1 with h1|⟨h1,h1'⟩
     ·subst h1
      refine ⟨_,rfl,?_⟩
      rw [← hy]
      exact (h2.take _).append (h6.append (h2.drop _))
     ·subst h1 h1'
      cases l' with
      | nil =>
       refine ⟨[],rfl,?_⟩
       rw [← hy]
       exact h2.nilApp h6 _ _
      | cons a l' =>
       refine ⟨_,rfl,?_⟩
       rw [← hy]
       exact (h2.take _).append (h6.append (h2.drop _))
    ·cases hy
   ·cases hr
  ·cases hr
 | eqi =>
  simp only [tP] at hr
  split at hr
  ·injection hr with hr;subst hr
   obtain ⟨d,e,rfl,h1,h2⟩:=hv.two
   simp only [Rl] at h1 h2;subst h1 h2
   intro y hy
   simp only [zA9] at hy
   split at hy
   ·rename_i hi
    injection hy with hy;subst hy
    exact ⟨_,if_pos hi,rfl⟩
   ·cases hy
  ·cases hr
 | vlen =>
  simp only [tP] at hr
  split at hr
  ·injection hr with hr;subst hr
   obtain ⟨d,e,rfl,h1,h2⟩:=hv.two
   simp only [Rl] at h1 h2;subst h1 h2
   exact ⟨_,rfl,rfl⟩
  ·cases hr
 | vadd =>
  simp only [tP] at hr
  split at hr
  ·injection hr with hr;subst hr
   obtain ⟨d,e,rfl,h1,h2⟩:=hv.two
   simp only [Rl] at h1 h2;subst h1 h2
   exact ⟨_,rfl,rfl⟩
  ·cases hr
 | rng3 =>
  simp only [tP] at hr
  split at hr
  ·injection hr with hr;subst hr
   obtain ⟨d,e,f,g,rfl,h1,h2,h3,h4⟩:=hv.four
   simp only [Rl] at h2 h3 h4;subst h2 h3 h4
   obtain ⟨l,h1,h2⟩:=h1.els
   intro y hy
   simp only [zuW,← h2.length_eq] at hy
   split at hy
   ·rename_i hi
    injection hy with hy;subst hy
    refine ⟨_,?_,rfl⟩
    simp only [Prim.run,h1]
    exact if_pos (by rw [h2.length_eq];exact hi)
   ·cases hy
  ·cases hr
 | rngv =>
  simp only [tP] at hr
  split at hr
  ·injection hr with hr;subst hr
   obtain ⟨d,e,f,g,rfl,h1,h2,h3,h4⟩:=hv.four
   simp only [Rl] at h2 h3 h4;subst h2 h3 h4
   obtain ⟨l,h1,h2⟩:=h1.els
   intro y hy
   simp only [zvx,← h2.length_eq] at hy
   split at hy
   ·rename_i hi
    injection hy with hy;subst hy
    refine ⟨_,?_,rfl⟩
    simp only [Prim.run,h1]
    exact if_pos (by rw [h2.length_eq];exact hi)
   ·cases hy
  ·cases hr
 | nn =>
  simp only [tP] at hr
  split at hr
  ·injection hr with hr;subst hr
   obtain ⟨d,rfl,h1⟩:=hv.one
   obtain ⟨l,h1,h2⟩:=h1.els
   intro y hy
   simp only [nnO] at hy
   split at hy
   ·cases hy
   ·injection hy with hy;subst hy
    have h1:d.els=some l:=by assumption
    rcases zbA h1 with h1|⟨h1,h1'⟩
    ·subst h1
     exact ⟨_,rfl,Rl.mkSl h2⟩
    ·subst h1'
     exact h2.elim
  ·cases hr
 | mhas =>
  simp only [tP] at hr
  split at hr
  ·split at hr
   ·rename_i hf
    split at hr
    ·rename_i q hq
     injection hr with hr;subst hr
     obtain ⟨d,e,rfl,h1,h2⟩:=hv.two
     obtain ⟨l,h1,h3⟩:=h1.els
     obtain ⟨o,g1,g2⟩:=zoE hf (zho hq h2) h3
     refine ⟨_,by simp only [Prim.run,h1,g1];rfl,?_⟩
     simp only [Rl,zyk]
     rcases g2 with ⟨rfl,g3⟩|⟨v,y,rfl,g3,_⟩<;>rw [g3]<;>rfl
    ·cases hr
   ·cases hr
  ·cases hr
 | mget z =>
  simp only [tP] at hr
  split at hr
  ·split at hr
   ·rename_i hf
    simp only [wD0] at hf
    split at hr
    ·rename_i q hq
     injection hr with hr;subst hr
     obtain ⟨d,e,rfl,h1,h2⟩:=hv.two
     obtain ⟨l,h1,h3⟩:=h1.els
     obtain ⟨o,g1,g2⟩:=zoE (by simp only [wD0];exact hf.1) (zho hq h2) h3
     refine ⟨_,by simp only [Prim.run,h1,g1];rfl,?_⟩
     simp only [zyU]
     rcases g2 with ⟨rfl,g3⟩|⟨v,y,rfl,g3,g4⟩
     ·rw [g3];exact zoi hf.2
     ·rw [g3];exact g4
    ·cases hr
   ·cases hr
  ·cases hr
 | mput =>
  simp only [tP] at hr
  split at hr
  ·split at hr
   ·rename_i hf
    split at hr
    ·rename_i q hq
     split at hr
     ·rename_i u hu
      injection hr with hr;subst hr
      obtain ⟨d,e,f,rfl,h1,h2,h3⟩:=hv.three
      obtain ⟨l,h1,h4⟩:=h1.els
      obtain ⟨m,g1,g2⟩:=zuV hf (zho hq h2) (zho hu h3) h4
      exact ⟨_,by simp only [Prim.run,h1,g1],Rl.mkSl g2⟩
     ·cases hr
    ·cases hr
   ·cases hr
  ·cases hr
 | b2s =>
  simp only [tP] at hr
  split at hr
  ·injection hr with hr;subst hr
   obtain ⟨d,rfl,h1⟩:=hv.one
   obtain ⟨l,h1,h2⟩:=h1.els
   intro y hy
   simp only [zAH] at hy
   split at hy
   ·rename_i hi
    injection hy with hy;subst hy
    obtain ⟨b,g1,g2⟩:=zwS h2 hi
    refine ⟨.str ⟨b.toArray⟩,by simp only [Prim.run,h1,g1,Option.map],_,rfl,?_⟩
    refine Eq.trans g2 ?_
    unfold zbh
    rfl
   ·cases hy
  ·cases hr
 | s2b =>
  simp only [tP] at hr
  split at hr
  ·injection hr with hr;subst hr
   obtain ⟨d,rfl,h1⟩:=hv.one
   obtain ⟨s,rfl,h2⟩:=h1
   simp only at h2;subst h2
   refine ⟨_,rfl,Rl.mkSl ?_⟩
   unfold zbh
   generalize s.data.toList=l
   induction l with
   | nil=>trivial
   | cons a l ih=>exact ⟨rfl,ih⟩
  ·cases hr
 | min2 =>
  simp only [tP] at hr
  split at hr
  ·split at hr
   ·rename_i hk
    subst hk
    injection hr with hr;subst hr
    obtain ⟨d,e,rfl,h1,h2⟩:=hv.two
    simp only [Rl] at h1 h2;subst h1 h2
    exact ⟨_,if_pos rfl,rfl⟩
   ·cases hr
  ·cases hr
 | max2 =>
  simp only [tP] at hr
  split at hr
  ·split at hr
   ·rename_i hk
    subst hk
    injection hr with hr;subst hr
    obtain ⟨d,e,rfl,h1,h2⟩:=hv.two
    simp only [Rl] at h1 h2;subst h1 h2
    exact ⟨_,if_pos rfl,rfl⟩
   ·cases hr
  ·cases hr
end
end Go.SX
namespace Go.SX
def RE:List TV→List D→Prop
 | [],ED=>ED=[]
 | v::E,ED=>∃ d ED',ED=ED'++[d]∧Rl v.τ d v.x∧RE E ED'
theorem RE.push {E:List TV}{ED:List D}{v:TV}{d:D}(h:RE E ED) (hd:Rl v.τ d v.x):RE (v::E) (ED++[d]):=⟨d,ED,rfl,hd,h⟩
theorem RE.nth:∀ {E:List TV}{ED:List D}{i:Nat}{v:TV},RE E ED→i<ED.length→Go.SX.nth E (ED.length - 1 - i)=some v→∃ d,ED[i]?=some d∧Rl v.τ d v.x
 | [],ED,i,v,h,hi,_=>by
  have h:ED=[]:=h
  subst h
  simp at hi
 | w::E,ED,i,v,h,hi,hv=>by
  obtain ⟨d,ED',rfl,hd,hE⟩:=h
  simp only [wI0,vX0,List.length_nil] at hi hv
  rcases vU0 i ED'.length with hl|hg
  ·have e:ED'.length + (0 + 1) - 1 - i=(ED'.length - 1 - i) + 1:=by omega
   rw [e] at hv
   obtain ⟨d',h1,h2⟩:=RE.nth hE hl hv
   exact ⟨d',by rw [List.getElem?_append_left hl];exact h1,h2⟩
  ·have e:i=ED'.length:=by omega
   subst e
   have e:ED'.length + (0 + 1) - 1 - ED'.length=0:=by omega
   rw [e] at hv
   injection hv with hv
   subst hv
   exact ⟨d,by simp,hd⟩
theorem RE.pushT:∀ {τs:List Ty}{x:Ty.Tup τs}{ds:List D}{E:List TV}{ED:List D},RE E ED→RlL τs ds x→RE (pushT τs x E) (ED++ds)∧ds.length=τs.length
 | [],x,ds,E,ED,h,hd=>by
  have hd:ds=[]:=hd
  subst hd
  simpa [Go.SX.pushT] using h
 | [a],x,ds,E,ED,h,hd=>by
  obtain ⟨d,rfl,hd⟩:=hd
  exact ⟨h.push (v:=⟨a,x⟩) hd,rfl⟩
 | a::b::us,x,ds,E,ED,h,hd=>by
  obtain ⟨d,m,rfl,h1,h2⟩:=hd
  obtain ⟨g1,g2⟩:=RE.pushT (h.push (v:=⟨a,x.1⟩) h1) h2
  refine ⟨?_,by simp [g2]⟩
  have e:ED++d::m=ED++[d]++m:=by simp
  rw [e]
  exact g1
theorem zw1:∀ {τs:List Ty}{ds:List D}{x:Ty.Tup τs},RlL τs ds x→RV ds (tvs τs x)
 | [],ds,x,h=>by
  have h:ds=[]:=h
  subst h
  trivial
 | [a],ds,x,h=>by
  obtain ⟨d,rfl,hd⟩:=h
  exact ⟨hd,trivial⟩
 | a::b::us,ds,x,h=>by
  obtain ⟨d,m,rfl,h1,h2⟩:=h
  exact ⟨h1,zw1 h2⟩
theorem RE.merge:∀ {τs:List Ty}{ds:List D}{vs E:List TV}{ED:List D},RE E ED→ds.length=τs.length→RV (zm8 τs ds) vs→RE (zlY τs vs E) (ED++ds)
 | [],ds,vs,E,ED,h,hl,hv=>by
  have:ds=[]:=vO0 hl
  subst this
  simpa [zlY] using h
 | t::ts,[],vs,E,ED,h,hl,hv=>by simp at hl
 | t::ts,d::ds,vs,E,ED,h,hl,hv=>by
  have e:ED++d::ds=ED++[d]++ds:=by simp
  rw [e]
  have hl2:ds.length=ts.length:=by simpa using hl
  clear hl
  have some:(∀ (v:TV) (us:List TV),vs=v::us→Rl v.τ d v.x→RV (zm8 ts ds) us→RE (zlY ts us (v::E)) (ED++[d]++ds)):=fun v us _ h1 h2=>RE.merge (h.push h1) hl2 h2
  cases t with
  | no=>exact RE.merge (E:=⟨.no,()⟩::E) (h.push (v:=⟨.no,()⟩) (by simp only [Rl])) hl2 hv
  | int k=>cases vs with|nil=>exact hv.elim|cons v us=>exact some v us rfl hv.1 hv.2
  | bool=>cases vs with|nil=>exact hv.elim|cons v us=>exact some v us rfl hv.1 hv.2
  | str=>cases vs with|nil=>exact hv.elim|cons v us=>exact some v us rfl hv.1 hv.2
  | sl e=>cases vs with|nil=>exact hv.elim|cons v us=>exact some v us rfl hv.1 hv.2
  | arr n e=>cases vs with|nil=>exact hv.elim|cons v us=>exact some v us rfl hv.1 hv.2
  | st l=>cases vs with|nil=>exact hv.elim|cons v us=>exact some v us rfl hv.1 hv.2
theorem RE.pushL {τs:List Ty}{x:Ty.Tup (live τs)}{ds:List D}{E:List TV}{ED:List D}(h:RE E ED) (hl:ds.length=τs.length) (hd:RlL (live τs) (zm8 τs ds) x):RE (Go.SX.pushL τs x E) (ED++ds):=RE.merge h hl (zw1 hd)
theorem zpp {ED:List D}:∀ {τs:List Ty}{as:List At}{ds:List D},gets ED as=some ds→gets ED (zm8 τs as)=some (zm8 τs ds)
 | [],as,ds,h=>rfl
 | t::ts,[],ds,h=>by
  simp only [gets,wB0] at h
  subst h
  rfl
 | t::ts,a::as,ds,h=>by
  simp only [gets] at h
  cases ha:a.get ED with
  | none=>rw [ha] at h;cases h
  | some d =>
   rw [ha] at h
   cases hg:gets ED as with
   | none=>rw [hg] at h;cases h
   | some ds' =>
    rw [hg] at h
    injection h with h
    subst h
    have ih:=zpp (τs:=ts) hg
    cases t<;>simp only [zm8]<;>first|exact ih|(simp only [gets,ha,ih])
theorem zwg {ED:List D}{k:Nat}{τs:List Ty}{as:List At}{ds:List D}(h:gets ED as=some ds):gets ED (zAI k τs as)=some (zAI k τs ds):=by
 cases k with
 | zero=>exact h
 | succ k=>exact zpp h
theorem znC {ED:List D}{n:Nat}(hn:n=ED.length):∀ {as:List At},as.all (zjm n)=true→∃ ds,gets ED as=some ds∧ds.length=as.length
 | [],_=>⟨[],rfl,rfl⟩
 | a::as,h=>by
  simp only [List.all_cons,wD0] at h
  obtain ⟨ds,h1,h2⟩:=znC hn h.2
  have ha:∃ d,a.get ED=some d:=by
   cases a with
   | v i =>
    have hi:i<ED.length:=by have:=h.1;simp only [zjm,Nat.blt_eq] at this;omega
    exact ⟨ED[i],by simp [At.get,hi]⟩
   | c d=>exact ⟨d,rfl⟩
  obtain ⟨d,hd⟩:=ha
  exact ⟨d::ds,by simp only [gets,hd,h1],by simp [h2]⟩
section
variable {E:List TV} {ED:List D} {n:Nat} {h:Ty}
theorem zwE {a:At}{v:TV}(hE:RE E ED) (hn:n=ED.length) (hv:atV E n h a=some v):∃ d,a.get ED=some d∧Rl v.τ d v.x:=by
 subst hn
 cases a with
 | v i =>
  simp only [atV] at hv
  split at hv
  ·rename_i hi
   exact hE.nth (by simpa using hi) hv
  ·cases hv
 | c d =>
  refine ⟨d,rfl,?_⟩
  simp only [atV] at hv
  split at hv
  ·injection hv with hv;subst hv;exact rfl
  ·injection hv with hv;subst hv;exact rfl
  ·injection hv with hv;subst hv;exact ⟨_,rfl,rfl⟩
  ·split at hv
   ·rename_i hf
    injection hv with hv;subst hv;exact zoi hf
   ·cases hv
theorem zrO {a:At}{τ:Ty}{x:τ.T}(hE:RE E ED) (hn:n=ED.length) (hv:atT E n τ a=some x):∃ d,a.get ED=some d∧Rl τ d x:=by
 subst hn
 cases a with
 | v i =>
  simp only [atT] at hv
  split at hv
  ·rename_i hi
   split at hv
   ·rename_i v hv'
    obtain ⟨d,h1,h2⟩:=hE.nth (by simpa using hi) hv'
    exact ⟨d,h1,zho hv h2⟩
   ·cases hv
  ·cases hv
 | c d =>
  refine ⟨d,rfl,?_⟩
  simp only [atT] at hv
  split at hv
  ·rename_i hf
   injection hv with hv;subst hv;exact zoi hf
  ·cases hv
theorem zlr (hE:RE E ED) (hn:n=ED.length):∀ {as:List At}{vs:List TV},zAx E n h as=some vs→∃ ds,gets ED as=some ds∧RV ds vs
 | [],vs,hv=>by
  simp only [zAx] at hv
  injection hv with hv;subst hv
  exact ⟨[],rfl,trivial⟩
 | a::as,vs,hv=>by
  simp only [zAx] at hv
  split at hv
  ·cases hv
  ·rename_i v hv1
   split at hv
   ·cases hv
   ·rename_i vs' hv2
    injection hv with hv;subst hv
    obtain ⟨d,h1,h2⟩:=zwE hE hn hv1
    obtain ⟨ds,h3,h4⟩:=zlr hE hn hv2
    exact ⟨d::ds,by simp only [gets,h1,h3],h2,h4⟩
theorem zgc (hE:RE E ED) (hn:n=ED.length):∀ {τs:List Ty}{as:List At}{x:Ty.Tup τs},zz3 E n τs as=some x→∃ ds,gets ED as=some ds∧RlL τs ds x
 | [],[],x,hv=>⟨[],rfl,rfl⟩
 | [],_::_,x,hv=>by simp [zz3] at hv
 | [_],[],x,hv=>by simp [zz3] at hv
 | _::_::_,[],x,hv=>by simp [zz3] at hv
 | [τ],[a],x,hv=>by
  simp only [zz3] at hv
  obtain ⟨d,h1,h2⟩:=zrO hE hn hv
  exact ⟨[d],by simp only [gets,h1],d,rfl,h2⟩
 | [τ],a::b::as,x,hv=>by simp [zz3] at hv
 | τ::b::us,a::as,x,hv=>by
  rw [zz3] at hv
  split at hv
  ·cases hv
  ·rename_i y hy
   split at hv
   ·cases hv
   ·rename_i ys hys
    injection hv with hv;subst hv
    obtain ⟨d,h1,h2⟩:=zrO hE hn hy
    obtain ⟨ds,h3,h4⟩:=zgc hE hn hys
    exact ⟨d::ds,by simp only [gets,h1,h3],d,ds,rfl,h2,h4⟩
theorem zmz {τ:Ty}(hE:RE E ED) (hn:n=ED.length):∀ {as:List At}{x:List τ.T},zAz E n τ as=some x→∃ ds,gets ED as=some ds∧All2 (Rl τ) ds x
 | [],x,hv=>by
  simp only [zAz] at hv
  injection hv with hv;subst hv
  exact ⟨[],rfl,trivial⟩
 | a::as,x,hv=>by
  simp only [zAz] at hv
  split at hv
  ·cases hv
  ·rename_i y hy
   split at hv
   ·cases hv
   ·rename_i ys hys
    injection hv with hv;subst hv
    obtain ⟨d,h1,h2⟩:=zrO hE hn hy
    obtain ⟨ds,h3,h4⟩:=zmz hE hn hys
    exact ⟨d::ds,by simp only [gets,h1,h3],h2,h4⟩
theorem zp6 {a:At}{b:Bool}(hE:RE E ED) (hn:n=ED.length) (hv:asBool (atV E n h a)=some b):a.get ED=some (.bool b):=by
 cases ha:atV E n h a with
 | none=>rw [ha] at hv;cases hv
 | some v =>
  rw [ha] at hv
  obtain ⟨d,h1,h2⟩:=zwE hE hn ha
  obtain ⟨τ,x⟩:=v
  cases τ with
  | bool =>
   simp only [asBool] at hv
   injection hv with hv
   subst hv
   have h2:d=.bool x:=h2
   rw [h1,h2]
  | _=>cases hv
end
theorem zsi:∀ {τs:List Ty}{c:Bool}{x y:Ty.Tup τs},zwx τs c x y=if c=true then x else y
 | [],c,x,y=>by cases c<;>exact (rfl:(():Unit)=())
 | [a],c,x,y=>by cases c<;>rfl
 | a::b::us,c,x,y=>by
  rw [zwx,zsi]
  cases c<;>rfl
def RlV (k:Nat) (τs:List Ty) (ds:List D) (x:Ty.Tup (vis k τs)):Prop:=ds.length=τs.length∧RlL (vis k τs) (zAI k τs ds) x
def RJ:(lv:List (Nat×List Ty))→Res→J lv→Prop
 | [],_,_=>False
 | (k,τs)::l,r,j=>match l,j with
  | [],j=>∃ vs,r=.jmp 0 (zmN k) vs∧RlV k τs vs j
  | q::us,.inl x=>∃ vs,r=.jmp 0 (zmN k) vs∧RlV k τs vs x
  | q::us,.inr j=>∃ l' b' vs,r=.jmp (l' + 1) b' vs∧RJ (q::us) (.jmp l' b' vs) j
theorem ztF {E:List TV}{ED:List D}{n k:Nat}{as:List At}{τs:List Ty}{x:Ty.Tup (vis k τs)}(hE:RE E ED) (hn:n=ED.length) (h:zz3 E n (vis k τs) (zAI k τs as)=some x) (hl:as.length=τs.length) (hs:as.all (zjm n)=true) :
  ∃ vs,gets ED as=some vs∧RlV k τs vs x:=by
 obtain ⟨ds,h1,h2⟩:=zgc hE hn h
 obtain ⟨vs,h3,h4⟩:=znC hn hs
 have:=zwg (k:=k) (τs:=τs) h3
 rw [h1] at this
 injection this with this
 subst this
 exact ⟨vs,h3,h4.trans hl,h2⟩
theorem zvl {E:List TV}{ED:List D}{n:Nat}{as:List At}{b:Bool}(hE:RE E ED) (hn:n=ED.length):∀ {lv:List (Nat×List Ty)}{lvl:Nat}{j:J lv},zAF E n as b lv lvl=some j→∃ vs,gets ED as=some vs∧RJ lv (.jmp lvl b vs) j
 | [],lvl,j,h=>by simp [zAF] at h
 | [(k,τs)],lvl,j,h=>by
  cases lvl with
  | zero =>
   have h':(if zmN k=b∧as.length=τs.length∧as.all (zjm n)=true then zz3 E n (vis k τs) (zAI k τs as) else none)=some j:=h
   by_cases hk:zmN k=b∧as.length=τs.length∧as.all (zjm n)=true
   ·rw [if_pos hk] at h'
    obtain ⟨ds,h1,h2⟩:=ztF hE hn h' hk.2.1 hk.2.2
    exact ⟨ds,h1,ds,by rw [hk.1],h2⟩
   ·rw [if_neg hk] at h'
    cases h'
  | succ l=>simp [zAF] at h
 | (k,τs)::q::us,lvl,j,h=>by
  cases lvl with
  | zero =>
   rw [zAF] at h
   by_cases hk:zmN k=b∧as.length=τs.length∧as.all (zjm n)=true
   ·rw [if_pos hk] at h
    split at h
    ·rename_i x hx
     injection h with h;subst h
     obtain ⟨ds,h1,h2⟩:=ztF hE hn hx hk.2.1 hk.2.2
     exact ⟨ds,h1,ds,by rw [hk.1],h2⟩
    ·cases h
   ·rw [if_neg hk] at h
    cases h
  | succ l =>
   rw [zAF] at h
   split at h
   ·rename_i j' hj'
    injection h with h;subst h
    obtain ⟨ds,h1,h2⟩:=zvl hE hn hj'
    exact ⟨ds,h1,l,b,ds,rfl,h2⟩
   ·cases h
theorem zjE {S R:Type}{f:S→Option (Sum S R)}:∀ {n m:Nat}{s:S}{r:R},n≤m→zlm f n s=some r→zlm f m s=some r
 | 0,_,_,_,_,h=>by cases h
 | n + 1,0,_,_,h,_=>by omega
 | n + 1,m + 1,s,r,hm,h=>by
  simp only [zlm] at h ⊢
  split at h
  ·cases h
  ·exact zjE (by omega) h
  ·exact h
theorem zhm {S R:Type}{f:S→Option (Sum S R)}{s:S}{r:R}:zae f s=some r↔∃ n,zlm f n s=some r:=by
 unfold zae
 split
 ·rename_i h
  have hc:=Classical.choose_spec h
  constructor
  ·intro e;injection e with e;subst e;exact hc
  ·rintro ⟨n,hn⟩
   obtain ⟨m,hm⟩:=hc
   have h1:=zjE (Nat.le_max_left n m) hn
   have h2:=zjE (Nat.le_max_right n m) hm
   rw [h1] at h2
   exact h2.symm
 ·rename_i h
  constructor
  ·intro e;cases e
  ·intro e;exact absurd ⟨r,e⟩ h
theorem zkN {S R:Type}(f:S→Option (Sum S R)) (s:S):zae f s=match f s with
  | none=>none
  | some (.inl s')=>zae f s'
  | some (.inr r)=>some r:=by
 apply Option.ext
 intro r
 rw [zhm]
 constructor
 ·rintro ⟨n,hn⟩
  cases n with
  | zero=>cases hn
  | succ n =>
   simp only [zlm] at hn
   cases hs:f s with
   | none=>rw [hs] at hn;cases hn
   | some q =>
    rw [hs] at hn
    cases q with
    | inl s'=>exact zhm.2 ⟨n,hn⟩
    | inr r'=>exact hn
 ·intro h
  split at h
  ·cases h
  ·rename_i s' hs
   obtain ⟨n,hn⟩:=zhm.1 h
   exact ⟨n + 1,by simp only [zlm,hs];exact hn⟩
  ·rename_i r' hs
   exact ⟨1,by simp only [zlm,hs];exact h⟩
section
variable (cx:Cx) (n:Nat) (C0:FuncId→List D→Option (List D))
def zzK (f:FuncId) (fn:FnT):Prop:=∀ ds (x:Ty.Tup fn.ps) r,RlL fn.ps ds x→fn.sem x=some r→∃ rs,ztq cx n C0 f ds=some rs∧RlL fn.rs rs r
def TA.Ok:TA→Prop
 | .prim _ _ k=>k.Ok
 | .primH _ _ _ k=>k.Ok
 | .mkS _ _ k=>k.Ok
 | .mkA _ _ _ k=>k.Ok
 | .mkL _ _ k=>k.Ok
 | .call f fn _ _ k=>zzK cx n C0 f fn∧k.Ok
 | .callp f fn _ _ k=>zzK cx n C0 f fn.fn∧k.Ok
 | .subp _ t _ k=>t.Ok∧k.Ok
 | .sub0 _ t _ k=>t.Ok∧k.Ok
 | .sub1 _ t _ k=>t.Ok∧k.Ok
 | .loop _ _ b=>b.Ok
 | .ite _ t e=>t.Ok∧e.Ok
 | .jmp ..=>True
 | .clone _ _ _ _ k=>k.Ok
 | .fail _=>True
variable {cx n C0}
theorem zcc {p:Prim}{as:List At}{t:Tree}{E ds:List D}{d:D}(h1:gets E as=some ds) (h2:p.run ds=some d):evL cx n C0 (.prim p as t) E=evL cx n C0 t (E++[d]):=by
 rw [zvS,h1];simp only [h2]
theorem zrh {f:FuncId}{as:List At}{m:Nat}{t:Tree}{E ds rs:List D}(h1:gets E as=some ds) (h2:ztq cx n C0 f ds=some rs) (hm:rs.length=m):evL cx n C0 (.call f as m t) E=evL cx n C0 t (E++rs):=by
 rw [zvY,h1];simp only [h2,if_pos hm]
theorem zp1 {t k:Tree}{m:Nat}{E vs:List D}{b:Bool}(h1:evL cx n C0 t E=some (.jmp 0 b vs)) (hm:vs.length=m):evL cx n C0 (.sub t m k) E=evL cx n C0 k (E++vs):=by
 rw [zvw,h1];simp only [if_pos hm]
theorem zyD {t k:Tree}{m l:Nat}{E vs:List D}{b:Bool}(h1:evL cx n C0 t E=some (.jmp (l + 1) b vs)):evL cx n C0 (.sub t m k) E=some (.jmp l b vs):=by
 rw [zvw,h1];rfl
theorem zdt:∀ {t:TA}{E:List TV}{ED:List D}{m:Nat}{τs:List Ty}{x:Ty.Tup τs},t.Ok cx n C0→RE E ED→m=ED.length→t.pden E m τs=some x→∃ vs,evL cx n C0 t.erase ED=some (.jmp 0 false vs)∧RlL τs vs x
 | .prim p as k,E,ED,m,τs,x,ok,hE,hm,h=>by
  simp only [TA.pden] at h
  split at h
  ·cases h
  ·rename_i vs hvs
   obtain ⟨ds,h1,h2⟩:=zlr hE hm hvs
   split at h
   ·rename_i v hv
    obtain ⟨d,h3,h4⟩:=zsZ h2 hv
    obtain ⟨ws,h5,h6⟩:=zdt (t:=k) ok (hE.push h4) (by simp [hm]) h
    exact ⟨ws,by rw [TA.erase,zcc h1 h3,h5],h6⟩
   ·cases h
 | .primH p hh as k,E,ED,m,τs,x,ok,hE,hm,h=>by
  simp only [TA.pden] at h
  split at h
  ·cases h
  ·rename_i vs hvs
   obtain ⟨ds,h1,h2⟩:=zlr hE hm hvs
   split at h
   ·rename_i v hv
    obtain ⟨d,h3,h4⟩:=zsZ h2 hv
    obtain ⟨ws,h5,h6⟩:=zdt (t:=k) ok (hE.push h4) (by simp [hm]) h
    exact ⟨ws,by rw [TA.erase,zcc h1 h3,h5],h6⟩
   ·cases h
 | .mkS ts as k,E,ED,m,τs,x,ok,hE,hm,h=>by
  simp only [TA.pden] at h
  split at h
  ·cases h
  ·rename_i y hy
   obtain ⟨ds,h1,h2⟩:=zgc hE hm hy
   obtain ⟨ws,h5,h6⟩:=zdt (t:=k) ok (hE.push (v:=⟨.st ts,y⟩) (d:=D.agg ds) ⟨_,rfl,h2⟩) (by simp [hm]) h
   exact ⟨ws,by rw [TA.erase,zcc h1 (d:=D.agg ds) rfl,h5],h6⟩
 | .mkA c e as k,E,ED,m,τs,x,ok,hE,hm,h=>by
  simp only [TA.pden] at h
  split at h
  ·cases h
  ·rename_i y hy
   obtain ⟨ds,h1,h2⟩:=zmz hE hm hy
   obtain ⟨ws,h5,h6⟩:=zdt (t:=k) ok (hE.push (v:=⟨.arr c e,y⟩) (d:=D.agg ds) ⟨_,rfl,h2⟩) (by simp [hm]) h
   exact ⟨ws,by rw [TA.erase,zcc h1 (d:=D.agg ds) rfl,h5],h6⟩
 | .mkL e as k,E,ED,m,τs,x,ok,hE,hm,h=>by
  simp only [TA.pden] at h
  split at h
  ·cases h
  ·rename_i y hy
   obtain ⟨ds,h1,h2⟩:=zmz hE hm hy
   obtain ⟨ws,h5,h6⟩:=zdt (t:=k) ok (hE.push (v:=⟨.sl e,y⟩) (d:=D.sl ds) ⟨_,rfl,h2⟩) (by simp [hm]) h
   exact ⟨ws,by rw [TA.erase,zcc h1 (d:=D.sl ds) rfl,h5],h6⟩
 | .callp f fn as mm k,E,ED,m,τs,x,ok,hE,hm,h=>by
  simp only [TA.pden] at h
  split at h
  ·cases h
  ·rename_i y hy
   obtain ⟨ds,h1,h2⟩:=zgc hE hm hy
   split at h
   ·rename_i hl
    obtain ⟨rs,h3,h4⟩:=ok.1 ds y _ h2 rfl
    obtain ⟨g1,g2⟩:=hE.pushT h4
    have hrm:rs.length=mm:=g2.trans hl
    obtain ⟨ws,h5,h6⟩:=zdt (t:=k) ok.2 g1 (by simp [hm,hrm]) h
    exact ⟨ws,by rw [TA.erase,zrh h1 h3 hrm,h5],h6⟩
   ·cases h
 | .subp σs t mm k,E,ED,m,τs,x,ok,hE,hm,h=>by
  simp only [TA.pden] at h
  split at h
  ·cases h
  ·rename_i y hy
   obtain ⟨rs,h3,h4⟩:=zdt (t:=t) ok.1 hE hm hy
   split at h
   ·rename_i hl
    obtain ⟨g1,g2⟩:=hE.pushT h4
    have hrm:rs.length=mm:=g2.trans hl
    obtain ⟨ws,h5,h6⟩:=zdt (t:=k) ok.2 g1 (by simp [hm,hrm]) h
    exact ⟨ws,by rw [TA.erase,zp1 h3 hrm,h5],h6⟩
   ·cases h
 | .ite c t e,E,ED,m,τs,x,ok,hE,hm,h=>by
  simp only [TA.pden] at h
  split at h
  ·cases h
  ·rename_i b hb
   have hb:=zp6 hE hm hb
   split at h
   ·cases h
   ·rename_i y hy
    split at h
    ·cases h
    ·rename_i z hz
     injection h with h
     rw [zsi] at h
     obtain ⟨ws,h5,h6⟩:=zdt (t:=t) ok.1 hE hm hy
     obtain ⟨us,h7,h8⟩:=zdt (t:=e) ok.2 hE hm hz
     rw [TA.erase,zoF,hb]
     cases b
     ·exact ⟨us,h7,by rw [← h];exact h8⟩
     ·exact ⟨ws,h5,by rw [← h];exact h6⟩
 | .jmp l b as,E,ED,m,τs,x,ok,hE,hm,h=>by
  simp only [TA.pden] at h
  split at h
  ·obtain ⟨ds,h1,h2⟩:=zgc hE hm h
   exact ⟨ds,by rw [TA.erase,zoN,h1],h2⟩
  ·cases h
 | .call ..,E,ED,m,τs,x,ok,hE,hm,h=>by simp [TA.pden] at h
 | .sub0 ..,E,ED,m,τs,x,ok,hE,hm,h=>by simp [TA.pden] at h
 | .sub1 ..,E,ED,m,τs,x,ok,hE,hm,h=>by simp [TA.pden] at h
 | .loop ..,E,ED,m,τs,x,ok,hE,hm,h=>by simp [TA.pden] at h
 | .clone ..,E,ED,m,τs,x,ok,hE,hm,h=>by simp [TA.pden] at h
 | .fail _,E,ED,m,τs,x,ok,hE,hm,h=>by simp [TA.pden] at h
theorem RJ.up {σs:List Ty}{q:Nat×List Ty}{us:List (Nat×List Ty)}{r:Res}{j:J (q::us)}{b:Nat}(h:RJ ((b,σs)::q::us) r (Sum.inr j)):∃ l' b' vs,r=.jmp (l' + 1) b' vs∧RJ (q::us) (.jmp l' b' vs) j:=h
theorem zcg:∀ {t:TA}{E:List TV}{ED:List D}{m:Nat}{lv:List (Nat×List Ty)}{j:J lv},t.Ok cx n C0→RE E ED→m=ED.length→t.den E m lv=some j→∃ r,evL cx n C0 t.erase ED=some r∧RJ lv r j
 | .prim p as k,E,ED,m,lv,j,ok,hE,hm,h=>by
  simp only [TA.den] at h
  split at h
  ·cases h
  ·rename_i vs hvs
   obtain ⟨ds,h1,h2⟩:=zlr hE hm hvs
   split at h
   ·rename_i v hv
    obtain ⟨d,h3,h4⟩:=zsZ h2 hv
    rw [TA.erase,zcc h1 h3]
    exact zcg (t:=k) ok (hE.push h4) (by simp [hm]) h
   ·rename_i τ o hv
    cases ho:o with
    | none=>rw [ho] at h;cases h
    | some x =>
     rw [ho] at h
     obtain ⟨d,h3,h4⟩:=zsZ h2 hv x ho
     rw [TA.erase,zcc h1 h3]
     exact zcg (t:=k) ok (hE.push (v:=⟨τ,x⟩) h4) (by simp [hm]) h
   ·cases h
 | .primH p hh as k,E,ED,m,lv,j,ok,hE,hm,h=>by
  simp only [TA.den] at h
  split at h
  ·cases h
  ·rename_i vs hvs
   obtain ⟨ds,h1,h2⟩:=zlr hE hm hvs
   split at h
   ·rename_i v hv
    obtain ⟨d,h3,h4⟩:=zsZ h2 hv
    rw [TA.erase,zcc h1 h3]
    exact zcg (t:=k) ok (hE.push h4) (by simp [hm]) h
   ·rename_i τ o hv
    cases ho:o with
    | none=>rw [ho] at h;cases h
    | some x =>
     rw [ho] at h
     obtain ⟨d,h3,h4⟩:=zsZ h2 hv x ho
     rw [TA.erase,zcc h1 h3]
     exact zcg (t:=k) ok (hE.push (v:=⟨τ,x⟩) h4) (by simp [hm]) h
   ·cases h
 | .mkS ts as k,E,ED,m,lv,j,ok,hE,hm,h=>by
  simp only [TA.den] at h
  split at h
  ·cases h
  ·rename_i y hy
   obtain ⟨ds,h1,h2⟩:=zgc hE hm hy
   rw [TA.erase,zcc h1 (d:=D.agg ds) rfl]
   exact zcg (t:=k) ok (hE.push (v:=⟨.st ts,y⟩) (d:=D.agg ds) ⟨_,rfl,h2⟩) (by simp [hm]) h
 | .mkA c e as k,E,ED,m,lv,j,ok,hE,hm,h=>by
  simp only [TA.den] at h
  split at h
  ·cases h
  ·rename_i y hy
   obtain ⟨ds,h1,h2⟩:=zmz hE hm hy
   rw [TA.erase,zcc h1 (d:=D.agg ds) rfl]
   exact zcg (t:=k) ok (hE.push (v:=⟨.arr c e,y⟩) (d:=D.agg ds) ⟨_,rfl,h2⟩) (by simp [hm]) h
 | .mkL e as k,E,ED,m,lv,j,ok,hE,hm,h=>by
  simp only [TA.den] at h
  split at h
  ·cases h
  ·rename_i y hy
   obtain ⟨ds,h1,h2⟩:=zmz hE hm hy
   rw [TA.erase,zcc h1 (d:=D.sl ds) rfl]
   exact zcg (t:=k) ok (hE.push (v:=⟨.sl e,y⟩) (d:=D.sl ds) ⟨_,rfl,h2⟩) (by simp [hm]) h
 | .call f fn as mm k,E,ED,m,lv,j,ok,hE,hm,h=>by
  simp only [TA.den] at h
  split at h
  ·cases h
  ·rename_i y hy
   obtain ⟨ds,h1,h2⟩:=zgc hE hm hy
   split at h
   ·rename_i hl
    cases hs:fn.sem y with
    | none=>rw [hs] at h;cases h
    | some z =>
     rw [hs] at h
     obtain ⟨rs,h3,h4⟩:=ok.1 ds y _ h2 hs
     obtain ⟨g1,g2⟩:=hE.pushT h4
     have hrm:rs.length=mm:=g2.trans hl
     rw [TA.erase,zrh h1 h3 hrm]
     exact zcg (t:=k) ok.2 g1 (by simp [hm,hrm]) h
   ·cases h
 | .callp f fn as mm k,E,ED,m,lv,j,ok,hE,hm,h=>by
  simp only [TA.den] at h
  split at h
  ·cases h
  ·rename_i y hy
   obtain ⟨ds,h1,h2⟩:=zgc hE hm hy
   split at h
   ·rename_i hl
    obtain ⟨rs,h3,h4⟩:=ok.1 ds y _ h2 rfl
    obtain ⟨g1,g2⟩:=hE.pushT h4
    have hrm:rs.length=mm:=g2.trans hl
    rw [TA.erase,zrh h1 h3 hrm]
    exact zcg (t:=k) ok.2 g1 (by simp [hm,hrm]) h
   ·cases h
 | .subp σs t mm k,E,ED,m,lv,j,ok,hE,hm,h=>by
  simp only [TA.den] at h
  split at h
  ·cases h
  ·rename_i y hy
   obtain ⟨rs,h3,h4⟩:=zdt (t:=t) ok.1 hE hm hy
   split at h
   ·rename_i hl
    obtain ⟨g1,g2⟩:=hE.pushT h4
    have hrm:rs.length=mm:=g2.trans hl
    rw [TA.erase,zp1 h3 hrm]
    exact zcg (t:=k) ok.2 g1 (by simp [hm,hrm]) h
   ·cases h
 | .sub0 σs t mm k,E,ED,m,lv,j,ok,hE,hm,h=>by
  simp only [TA.den] at h
  split at h
  ·rename_i hl
   cases hs:(TA.den t E m [(1,σs)]:Option (Ty.Tup (live σs))) with
   | none=>rw [hs] at h;cases h
   | some z =>
    rw [hs] at h
    obtain ⟨r,h3,h4⟩:=zcg (t:=t) (lv:=[(1,σs)]) ok.1 hE hm hs
    obtain ⟨vs,rfl,h4⟩:=h4
    have g1:=hE.pushL h4.1 h4.2
    have hrm:vs.length=mm:=h4.1.trans hl
    rw [TA.erase,zp1 h3 hrm]
    exact zcg (t:=k) ok.2 g1 (by simp [hm,hrm]) h
  ·cases h
 | .sub1 σs t mm k,E,ED,m,lv,j,ok,hE,hm,h=>by
  cases lv with
  | nil=>simp [TA.den] at h
  | cons q us =>
   simp only [TA.den] at h
   split at h
   ·rename_i hl
    cases hs:(TA.den t E m ((1,σs)::q::us):Option (Sum (Ty.Tup (live σs)) (J (q::us)))) with
    | none=>rw [hs] at h;cases h
    | some z =>
     rw [hs] at h
     obtain ⟨r,h3,h4⟩:=zcg (t:=t) (lv:=(1,σs)::q::us) ok.1 hE hm hs
     cases z with
     | inl x =>
      obtain ⟨vs,rfl,h4⟩:=h4
      have g1:=hE.pushL h4.1 h4.2
      have hrm:vs.length=mm:=h4.1.trans hl
      rw [TA.erase,zp1 h3 hrm]
      exact zcg (t:=k) ok.2 g1 (by simp [hm,hrm]) h
     | inr z =>
      have h:some z=some j:=h
      injection h with h;subst h
      obtain ⟨l',b',vs,rfl,h5⟩:=h4.up
      rw [TA.erase,zyD h3]
      exact ⟨_,rfl,h5⟩
   ·cases h
 | .loop σs init b,E,ED,m,lv,j,ok,hE,hm,h=>by
  cases lv with
  | nil=>simp [TA.den] at h
  | cons q us =>
   simp only [TA.den] at h
   split at h
   ·rename_i hi
    split at h
    ·cases h
    ·rename_i x hx
     obtain ⟨ds,h1,h2⟩:=ztF (k:=2) (τs:=σs) hE hm hx hi.1 hi.2
     obtain ⟨N,hN⟩:=zhm.1 h
     rw [TA.erase,zv7,h1]
     simp only
     have main:∀ N (x:Ty.Tup (live σs)) ds,RlV 2 σs ds x→zlm (fun s:Ty.Tup (live σs)=>(TA.den b (pushL σs s E) (m + σs.length) ((2,σs)::q::us):Option (Sum (Ty.Tup (live σs)) (J (q::us))))) N x=some j→∃ l' b' vs,zt3 cx n C0 b.erase ED ds=some (.jmp (l' + 1) b' vs)∧RJ (q::us) (.jmp l' b' vs) j:=by
      intro N
      induction N with
      | zero=>intro x ds _ h;cases h
      | succ N ih =>
       intro x ds h2 h
       simp only [zlm] at h
       have g1:=hE.pushL h2.1 h2.2
       split at h
       ·cases h
       ·rename_i s' hs
        obtain ⟨r,h3,h4⟩:=zcg (t:=b) (lv:=(2,σs)::q::us) ok g1 (by simp [hm,h2.1]) hs
        obtain ⟨vs,rfl,h4⟩:=h4
        rw [zsq,h3]
        exact ih s' vs h4 h
       ·rename_i r' hs
        obtain ⟨r,h3,h4⟩:=zcg (t:=b) (lv:=(2,σs)::q::us) ok g1 (by simp [hm,h2.1]) hs
        injection h with h;subst h
        obtain ⟨l',b',vs,rfl,h5⟩:=h4.up
        rw [zsq,h3]
        exact ⟨l',b',vs,rfl,h5⟩
     obtain ⟨l',b',vs,h3,h4⟩:=main N x ds h2 hN
     rw [h3]
     exact ⟨_,rfl,h4⟩
   ·cases h
 | .ite c t e,E,ED,m,lv,j,ok,hE,hm,h=>by
  simp only [TA.den] at h
  split at h
  ·cases h
  ·rename_i b hb
   have hb:=zp6 hE hm hb
   rw [TA.erase,zoF,hb]
   cases b
   ·exact zcg (t:=e) ok.2 hE hm h
   ·exact zcg (t:=t) ok.1 hE hm h
 | .jmp l b as,E,ED,m,lv,j,ok,hE,hm,h=>by
  simp only [TA.den] at h
  obtain ⟨vs,h1,h2⟩:=zvl hE hm h
  exact ⟨.jmp l b vs,by rw [TA.erase,zoN,h1],h2⟩
 | .clone c b e s k,E,ED,m,lv,j,ok,hE,hm,h=>by
  simp only [TA.den] at h
  split at h
  ·cases h
  ·rename_i x hx
   obtain ⟨d,h1,h2⟩:=zrO hE hm hx
   split at h
   ·rename_i hc
    have hc:=Nat.eq_of_beq_eq_true hc
    subst hc
    cases hy:zat b x with
    | none=>rw [hy] at h;cases h
    | some y =>
     rw [hy] at h
     have hxy:zaX (List.length x) b=true∧x=y:=by
      unfold zat at hy
      split at hy
      ·rename_i hr
       injection hy with hy
       exact ⟨hr,hy⟩
      ·cases hy
     obtain ⟨hroom,hxy⟩:=hxy
     subst hxy
     have hrun:evL cx n C0 (.prim .isnil [s] (.ite (.v c) (.jmp 0 false [.c .nil]) (.prim (.app b) [.c (.sl []),s] (.jmp 0 false [.v (c + 1)])))) ED=some (.jmp 0 false [d]):=by
      obtain ⟨l,e1,e2⟩:=h2.els
      rw [← e2.length_eq] at hroom
      subst hm
      rcases zbA e1 with e1|⟨e1,e1'⟩
      ·subst e1
       rw [zcc (ds:=[.sl l]) (d:=.bool false) (by simp only [gets,h1]) rfl,zoF]
       have hget:(At.v ED.length).get (ED++[.bool false])=some (.bool false):=by simp [At.get]
       rw [hget]
       have h1':s.get (ED++[.bool false])=some (.sl l):=At.get_ext (fun i d h=>get_app h) h1
       have hgg:gets (ED++[.bool false]) [.c (.sl []),s]=some [.sl [],.sl l]:=by
        simp only [gets]
        rw [h1']
        rfl
       have happ:Prim.run (.app b) [.sl [],.sl l]=some (.sl l):=by
        simp only [Prim.run,zzQ,D.els,List.length_nil,vA0,hroom,if_true,vA1]
       rw [zcc (ds:=[.sl [],.sl l]) (d:=.sl l) hgg happ]
       simp only [zoN]
       have hg2:gets (ED++[D.bool false]++[D.sl l]) [.v (ED.length + 1)]=some [D.sl l]:=by simp [gets,At.get]
       rw [hg2]
      ·subst e1
       rw [zcc (ds:=[.nil]) (d:=.bool true) (by simp only [gets,h1]) rfl,zoF]
       have hget:(At.v ED.length).get (ED++[.bool true])=some (.bool true):=by simp [At.get]
       rw [hget,zoN]
       rfl
     rw [TA.erase,zp1 (m:=1) hrun rfl]
     exact zcg (t:=k) ok (hE.push (v:=⟨.sl e,x⟩) h2) (by simp [hm]) h
   ·cases h
 | .fail _,E,ED,m,lv,j,ok,hE,hm,h=>by simp [TA.den] at h
theorem RE.args {τs:List Ty}{x:Ty.Tup τs}{ds:List D}(h:RlL τs ds x):RE (Go.SX.pushT τs x []) ds∧ds.length=τs.length:=by
 have:=RE.pushT (E:=[]) (ED:=[]) rfl h
 simpa using this
theorem zbb {f:FuncId}{t:TA}{ps rs:List Ty}{sem:Ty.Tup ps→Option (Ty.Tup rs)}(ht:zaj cx n f=some t.erase) (h0:∀ ds,C0 f ds=none) (ok:t.Ok cx n C0)
  (hs:∀ x,sem x=t.den (pushT ps x []) ps.length [(0,rs)]):zzK cx n C0 f ⟨ps,rs,sem⟩:=by
 intro ds x r hx hr
 obtain ⟨g1,g2⟩:=RE.args hx
 have hr:(TA.den t (pushT ps x []) ps.length [(0,rs)]:Option (Ty.Tup rs))=some r:=(hs x).symm.trans hr
 obtain ⟨r',h3,vs,rfl,h4⟩:=zcg (t:=t) (lv:=[(0,rs)]) ok g1 g2.symm hr
 rw [zsM cx n C0 ht (h0 ds),h3]
 exact ⟨vs,rfl,h4.2⟩
theorem zoc {f:FuncId}{t:TA}{ps rs:List Ty}{sem:Ty.Tup ps→Ty.Tup rs}(ht:zaj cx n f=some t.erase) (h0:∀ ds,C0 f ds=none) (ok:t.Ok cx n C0)
  (hs:∀ x,some (sem x)=t.pden (pushT ps x []) ps.length rs):zzK cx n C0 f (PnT.fn ⟨ps,rs,sem⟩):=by
 intro ds x r hx hr
 obtain ⟨g1,g2⟩:=RE.args hx
 injection hr with hr
 obtain ⟨vs,h3,h4⟩:=zdt (t:=t) ok g1 g2.symm (hs x).symm
 rw [zsM cx n C0 ht (h0 ds),h3]
 exact ⟨vs,rfl,by rw [← hr];exact h4⟩
def TA.calls:TA→List (FuncId×FnT)
 | .prim _ _ k=>k.calls
 | .primH _ _ _ k=>k.calls
 | .mkS _ _ k=>k.calls
 | .mkA _ _ _ k=>k.calls
 | .mkL _ _ k=>k.calls
 | .call f fn _ _ k=>(f,fn)::k.calls
 | .callp f fn _ _ k=>(f,fn.fn)::k.calls
 | .subp _ t _ k=>t.calls++k.calls
 | .sub0 _ t _ k=>t.calls++k.calls
 | .sub1 _ t _ k=>t.calls++k.calls
 | .loop _ _ b=>b.calls
 | .ite _ t e=>t.calls++e.calls
 | .clone _ _ _ _ k=>k.calls
 | .jmp ..=>[]
 | .fail _=>[]
def AllOk (cx:Cx) (n:Nat) (C0:FuncId→List D→Option (List D)) (l:List (FuncId×FnT)):Prop:=∀ p∈l,zzK cx n C0 p.1 p.2
theorem AllOk.nil:AllOk cx n C0 []:=fun _ h=>by cases h
theorem AllOk.cons {f:FuncId}{fn:FnT}{l:List (FuncId×FnT)}(h:zzK cx n C0 f fn) (hl:AllOk cx n C0 l):AllOk cx n C0 ((f,fn)::l):=fun p hp=>by
 rcases List.mem_cons.1 hp with hp|hp
 ·subst hp;exact h
 ·exact hl p hp
theorem ok_of_all:∀ {t:TA},AllOk cx n C0 t.calls→t.Ok cx n C0
 | .prim _ _ k,h=>ok_of_all (t:=k) h
 | .primH _ _ _ k,h=>ok_of_all (t:=k) h
 | .mkS _ _ k,h=>ok_of_all (t:=k) h
 | .mkA _ _ _ k,h=>ok_of_all (t:=k) h
 | .mkL _ _ k,h=>ok_of_all (t:=k) h
 | .call f fn _ _ k,h=>⟨h (f,fn) List.mem_cons_self,ok_of_all (t:=k) fun p hp=>h p (vI0 _ hp)⟩
 | .callp f fn _ _ k,h=>⟨h (f,fn.fn) List.mem_cons_self,ok_of_all (t:=k) fun p hp=>h p (vI0 _ hp)⟩
 | .subp _ t _ k,h=>⟨ok_of_all (t:=t) fun p hp=>h p (vS0 _ hp),ok_of_all (t:=k) fun p hp=>h p (List.mem_append_right _ hp)⟩
 | .sub0 _ t _ k,h=>⟨ok_of_all (t:=t) fun p hp=>h p (vS0 _ hp),ok_of_all (t:=k) fun p hp=>h p (List.mem_append_right _ hp)⟩
 | .sub1 _ t _ k,h=>⟨ok_of_all (t:=t) fun p hp=>h p (vS0 _ hp),ok_of_all (t:=k) fun p hp=>h p (List.mem_append_right _ hp)⟩
 | .loop _ _ b,h=>ok_of_all (t:=b) h
 | .ite _ t e,h=>⟨ok_of_all (t:=t) fun p hp=>h p (vS0 _ hp),ok_of_all (t:=e) fun p hp=>h p (List.mem_append_right _ hp)⟩
 | .clone _ _ _ _ k,h=>ok_of_all (t:=k) h
 | .jmp ..,_=>trivial
 | .fail _,_=>trivial
theorem zaQ {t:TA}(l:List (FuncId×FnT)) (h:t.calls=l) (hl:AllOk cx n C0 l):t.Ok cx n C0:=ok_of_all (by rw [h];exact hl)
end
end Go.SX
namespace Go.SX
def okI (k:IntKind) (n:Int):Prop:=k.min≤n∧n≤k.max
def okS (l:List Int):Prop:=l.length≤maxLen∧∀ b∈l,0≤b∧b<256
def zBp {α:Type}(P:α→Prop) (l:List α):Prop:=l.length≤maxLen∧∀ x∈l,P x
def zBj {α:Type}(n:Nat) (P:α→Prop) (l:List α):Prop:=l.length=n∧∀ x∈l,P x
mutual
def OkT:(τ:Ty)→τ.T→Prop
 | .int k,n=>okI k n
 | .bool,_=>True
 | .str,l=>okS l
 | .sl e,l=>zBp (OkT e) l
 | .arr n e,l=>zBj n (OkT e) l
 | .st ts,x=>OkL ts x
 | .no,_=>True
def OkL:(ts:List Ty)→Ty.Tup ts→Prop
 | [],_=>True
 | a::ts,x=>match ts,x with
  | [],x=>OkT a x
  | b::us,x=>OkT a x.1∧OkL (b::us) x.2
end
mutual
theorem zxu:∀ {τ:Ty}{d:D},Wt τ d→∃ x:τ.T,Rl τ d x∧OkT τ x
 | .int k,d,h=>by
  obtain ⟨n,rfl,h1,h2⟩:=h.toInt
  exact ⟨n,rfl,h1,h2⟩
 | .bool,d,h=>by
  obtain ⟨b,rfl⟩:=h.toBool
  exact ⟨b,rfl,trivial⟩
 | .str,d,h=>by
  obtain ⟨s,rfl,hs⟩:=h.toStr
  refine ⟨zbh s,⟨s,rfl,rfl⟩,by rw [zha];exact hs,fun b hb=>?_⟩
  unfold zbh at hb
  rw [List.mem_map] at hb
  obtain ⟨u,_,e⟩:=hb
  have:=u.toNat_lt
  omega
 | .sl e,d,h=>by
  rcases h.toSl with rfl|⟨ds,rfl,h1,h2⟩
  ·exact ⟨([]:List e.T),⟨[],rfl,trivial⟩,Nat.zero_le _,fun x hx=>by cases hx⟩
  ·obtain ⟨x,h3,h4⟩:=zuv h2
   exact ⟨x,⟨ds,rfl,h3⟩,by rw [← h3.length_eq];exact h1,h4⟩
 | .arr n e,d,h=>by
  obtain ⟨ds,rfl,h1,h2⟩:=h.toArr
  obtain ⟨x,h3,h4⟩:=zuv h2
  exact ⟨x,⟨ds,rfl,h3⟩,by rw [← h3.length_eq];exact h1,h4⟩
 | .st ts,d,h=>by
  obtain ⟨ds,rfl,h1⟩:=h.toSt
  obtain ⟨x,h3,h4⟩:=ztU h1
  exact ⟨x,⟨ds,rfl,h3⟩,h4⟩
 | .no,d,h=>⟨(),by simp only [Rl],trivial⟩
theorem zuv:∀ {e:Ty}{ds:List D},WtA e ds→∃ x:List e.T,All2 (Rl e) ds x∧∀ y∈x,OkT e y
 | e,[],_=>⟨[],trivial,fun y hy=>by cases hy⟩
 | e,d::ds,h=>by
  obtain ⟨x,h1,h2⟩:=zxu h.1
  obtain ⟨xs,h3,h4⟩:=zuv h.2
  refine ⟨x::xs,⟨h1,h3⟩,fun y hy=>?_⟩
  rcases List.mem_cons.1 hy with hy|hy
  ·subst hy;exact h2
  ·exact h4 y hy
theorem ztU:∀ {ts:List Ty}{ds:List D},WtL ts ds→∃ x:Ty.Tup ts,RlL ts ds x∧OkL ts x
 | [],ds,h=>by
  have:=h.toNil
  subst this
  exact ⟨(),rfl,trivial⟩
 | [a],ds,h=>by
  obtain ⟨d,l,rfl,h1,h2⟩:=h.toCons
  have:=h2.toNil
  subst this
  obtain ⟨x,h3,h4⟩:=zxu h1
  exact ⟨x,⟨d,rfl,h3⟩,h4⟩
 | a::b::us,ds,h=>by
  obtain ⟨d,l,rfl,h1,h2⟩:=h.toCons
  obtain ⟨x,h3,h4⟩:=zxu h1
  obtain ⟨xs,h5,h6⟩:=ztU h2
  exact ⟨(x,xs),⟨d,l,rfl,h3,h5⟩,h4,h6⟩
end
theorem zzb {cx:Cx}{n:Nat}{C0:FuncId→List D→Option (List D)}{f:FuncId}{fn:Func}{ps:List Ty}{sem:Ty.Tup ps→Option Bool}(ok:zzK cx n C0 f ⟨ps,[.bool],sem⟩) (hp:zaU cx fn=ps) (h:∀ x,OkL ps x→sem x=some true) :
  ∀ Ds,WtL (zaU cx fn) Ds→∃ k d,zdq cx k n C0 d f Ds=some [.bool true]:=by
 intro Ds hD
 subst hp
 obtain ⟨x,h1,h2⟩:=ztU hD
 obtain ⟨rs,h3,h4⟩:=ok Ds x true h1 (h x h2)
 obtain ⟨d,rfl,h4⟩:=h4
 have h4:d=.bool true:=h4
 subst h4
 exact (ze4 cx n C0).1 h3
theorem zcu {n:Int}(h1:-9223372036854775808≤n) (h2:n≤9223372036854775807):w64 n=n:=by
 unfold w64 IntKind.wrap
 simp only [IntKind.signed,IntKind.bits,vB1,vG0,Nat.reduceSub,Int.reducePow,ge_iff_le]
 split<;>omega
theorem zj0 {n:Int}(h1:0≤n) (h2:n<4294967296):zAO n=n:=by
 unfold zAO IntKind.wrap
 simp only [IntKind.signed,IntKind.bits,vC1,wA0,if_false]
 omega
theorem zlS {n b:Nat}(h1:n * b≤17592186044416) (h2:n≤17592186044416):zaX n b=true:=by simp [zaX,h1,h2]
theorem zkR {α:Type}(l:List α) (i:Nat):zzG l (i:Int)=l[i]?:=by simp [zzG]
theorem zvv {α:Type}{l:List α}{i:Int}{v:α}(h0:0≤i) (h:i<l.length):zzI l i v=some (l.set i.toNat v):=by simp [zzI,h0,h]
theorem zrb {n i:Int}(h0:0≤i) (h:i<n):zzH n i=some i:=by simp [zzH,h0,h]
theorem zx2 {α:Type}{l:List α}{lo hi:Int}(h0:0≤lo) (h1:lo≤hi) (h2:hi≤l.length):zzR l lo hi=some ((l.take hi.toNat).drop lo.toNat):=by simp [zzR,h0,h1,h2]
theorem zvc {α:Type}{b:Nat}{s x:List α}(h:zaX (s.length + x.length) b=true):zzN b s x=some (s++x):=by simp [zzN,h]
theorem zpe {α:Type}{b:Nat}{s:List α}(h:zaX s.length b=true):zat b s=some s:=by simp [zat,h]
theorem zxr {α:Type}{z:α}{b:Nat}{n c:Int}(h0:0≤n) (h1:n≤c) (h:zaX c.toNat b=true):zAf z b n c=some (List.replicate n.toNat z):=by simp [zAf,h0,h1,h]
theorem zeS {S R:Type}{f:S→Option (S⊕R)}{s s':S}(h:f s=some (.inl s')):zae f s=zae f s':=by rw [zkN,h]
theorem zdy {S R:Type}{f:S→Option (S⊕R)}{s:S}{r:R}(h:f s=some (.inr r)):zae f s=some r:=by rw [zkN,h]
theorem ztR {S R:Type}{f:S→Option (S⊕R)}(I:S→Prop) (μ:S→Nat) (Q:R→Prop)
  (step:∀ s,I s→(∃ s',f s=some (.inl s')∧I s'∧μ s'<μ s)∨∃ r,f s=some (.inr r)∧Q r):∀ {s:S},I s→∃ r,zae f s=some r∧Q r:=by
 have main:∀ n s,μ s≤n→I s→∃ r,zae f s=some r∧Q r:=by
  intro n
  induction n with
  | zero =>
   intro s hn hi
   rcases step s hi with ⟨s',h1,h2,h3⟩|⟨r,h1,h2⟩
   ·omega
   ·exact ⟨r,zdy h1,h2⟩
  | succ n ih =>
   intro s hn hi
   rcases step s hi with ⟨s',h1,h2,h3⟩|⟨r,h1,h2⟩
   ·rw [zeS h1];exact ih s' (by omega) h2
   ·exact ⟨r,zdy h1,h2⟩
 intro s hi
 exact main _ s (wG0 _) hi
theorem zov {S R:Type}{f:S→Option (S⊕R)}(st:Nat→S) {m:Nat}:∀ {n:Nat},n≤m→(∀ i,n≤i→i<m→f (st i)=some (.inl (st (i + 1))))→zae f (st n)=zae f (st m):=by
 have main:∀ k n,m - n=k→n≤m→(∀ i,n≤i→i<m→f (st i)=some (.inl (st (i + 1))))→zae f (st n)=zae f (st m):=by
  intro k
  induction k with
  | zero =>
   intro n h1 h2 _;have:n=m:=by omega
   rw [this]
  | succ k ih =>
   intro n h1 h2 h
   rw [zeS (h n (wG0 _) (by omega))]
   exact ih (n + 1) (by omega) (by omega) fun i h3 h4=>h i (by omega) h4
 intro n h1 h2
 exact main _ n rfl h1 h2
theorem zkZ (p:Nat→Bool):∀ n:Nat,(∀ i,i<n→p i=true)∨∃ i,i<n∧p i=false∧∀ j,j<i→p j=true
 | 0=>.inl fun i h=>by omega
 | n + 1=>by
  rcases zkZ p n with h|⟨i,h1,h2,h3⟩
  ·cases hn:p n with
   | true =>
    refine .inl fun i hi=>?_
    rcases vU0 i n with h4|h4
    ·exact h i h4
    ·have:i=n:=by omega
     rw [this];exact hn
   | false=>exact .inr ⟨n,Nat.lt_succ_self _,hn,h⟩
  ·exact .inr ⟨i,by omega,h2,h3⟩
end Go.SX
