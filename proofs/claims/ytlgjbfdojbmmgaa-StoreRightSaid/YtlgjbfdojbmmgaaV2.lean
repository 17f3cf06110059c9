/- Layer 14: banks as one row of words; words written one after the other. No program in sight, but in the last lemmas. -/
import Derived.Test.YtlgjbfdojbmmgaaV1
set_option linter.unusedSimpArgs false
set_option linter.unusedVariables false
namespace Go.Proofs.Ytlgjbfdojbmmgaa
open Go.SX
theorem zg1 {s:Vault}(hs:VOk s) (h:zam s=true) (hl:Banks.Lost (Vault.Banks s)=0):Good (bN (Vault.Banks s)) (bM (Vault.Banks s)) (Vault.Banks s) :=
 ⟨hs.b,(zau h).1,hl,rfl,rfl⟩
theorem znQ (b:Banks) (k a:Nat) (w:Int):bN (zbj b k a w)=bN b:=by unfold bN zbj;rw [Banks.Rows_mk,List.length_set]
theorem zsY (b:Banks) (k a:Nat) (w:Int):bM (zbj b k a w)=bM b:=by unfold bM zbj;rw [Banks.Par_mk,List.length_set]
theorem zkM {n m:Nat}{b:Banks}(g:Good n m b) {p:Nat}(hp:p<n * m) (w:Int):allB (zbj b (p % n) (p / n) w)=(allB b).set p w:=by
 obtain rfl:bN b=n:=g.rl
 obtain rfl:bM b=m:=g.pl
 have hn:0<bN b:=Nat.pos_of_ne_zero fun e=>by rw [e] at hp;omega
 have hm:p % bN b<bN b:=Nat.mod_lt _ hn
 have hd:p / bN b<bM b:=by rw [Nat.div_lt_iff_lt_mul hn,Nat.mul_comm];exact hp
 have hrow:=g.row hm
 apply List.ext_getElem?
 intro i
 rw [List.getElem?_set]
 by_cases hi:i<bN b * bM b
 ·rw [zgC (by rw [znQ,zsY];exact hi),znQ,zeM]
  by_cases h:p=i
  ·subst h
   rw [if_pos rfl,if_pos hp]
   unfold cell zbj
   rw [Banks.Rows_mk,rowAt_set hm,ziE (by rw [hrow];exact hd)]
  ·rw [if_neg h,zgC hi]
   congr 1
   unfold cell zbj
   rw [Banks.Rows_mk]
   by_cases hk:p % bN b=i % bN b
   ·rw [← hk,rowAt_set hm,ze0 (fun h2=>h (by rw [← Nat.div_add_mod p (bN b),← Nat.div_add_mod i (bN b),hk,h2]))]
   ·rw [zfP hk]
 ·rw [List.getElem?_eq_none (by rw [zeM,znQ,zsY];omega),zeM,if_neg (by omega),List.getElem?_eq_none (by rw [zeM];omega)]
theorem zs4 {n m:Nat}{b c:Banks}(g:Good n m b) (h:Good n m c) (he:allB b=allB c):b=c:=by
 refine zxr g h (List.ext_getElem (by rw [g.rl,h.rl]) fun k hk1 hk2=>?_)
 have hk:k<n:=by rw [← g.rl];exact hk1
 have l1:=g.row hk
 have l2:=h.row hk
 rw [zbo hk1] at l1
 rw [zbo hk2] at l2
 refine List.ext_getElem (by rw [l1,l2]) fun a ha1 ha2=>?_
 have ha:a<m:=by rw [← l1];exact ha1
 have hp:k + a * n<n * m:=by
  have:(a + 1) * n≤m * n:=Nat.mul_le_mul_right n ha
  rw [Nat.add_mul,Nat.one_mul] at this
  rw [Nat.mul_comm n m]
  omega
 have e1:=zgC (b:=b) (p:=k + a * n) (by unfold bN bM;rw [g.rl,g.pl];exact hp)
 have e2:=zgC (b:=c) (p:=k + a * n) (by unfold bN bM;rw [h.rl,h.pl];exact hp)
 rw [he,e2] at e1
 have e3:=Option.some.inj e1
 have hb:bN b=n:=g.rl
 have hc:bN c=n:=h.rl
 rw [hb,hc,Nat.add_mul_mod_self_right,Nat.mod_eq_of_lt hk,Nat.add_mul_div_right _ _ (by omega),Nat.div_eq_of_lt hk,Nat.zero_add] at e3
 unfold cell at e3
 rw [zbo hk1,zbo hk2,zaJ ha1,zaJ ha2] at e3
 exact e3.symm
theorem zxS {b:Banks}(hb:BOk b):∀ x∈allB b,wd x:=by
 intro x hx
 unfold allB at hx
 rw [List.mem_map] at hx
 obtain ⟨p,_,rfl⟩:=hx
 exact ziz hb.rw _ _
noncomputable def layB (n:Nat) (b:Banks) (mem:List Int):Nat→Banks
 | 0=>b
 | i + 1=>zbj (layB n b mem i) (i % n) (i / n) (zaC mem i)
theorem zh1 {n m:Nat}{b:Banks}(g:Good n m b) {mem:List Int}(hw:∀ x∈mem,wd x) (hl:mem.length≤n * m):∀ i,i≤mem.length→Good n m (layB n b mem i)∧allB (layB n b mem i)=mem.take i++(allB b).drop i
 | 0,_=>⟨g,rfl⟩
 | i + 1,hi=>by
  obtain ⟨h1,h2⟩:=zh1 g hw hl i (by omega)
  have hp:i<n * m:=by omega
  have hn:0<n:=Nat.pos_of_ne_zero fun e=>by rw [e] at hp;omega
  have hab:(allB b).length=n * m:=by rw [zeM];unfold bN bM;rw [g.rl,g.pl]
  refine ⟨ziT h1 (Nat.mod_lt _ hn) (by rw [Nat.div_lt_iff_lt_mul hn,Nat.mul_comm];exact hp) (zfu hw i),?_⟩
  show allB (zbj _ _ _ _)=_
  rw [zkM h1 hp,h2,zaJ (by omega),zaF (by omega),List.append_assoc,List.set_append_right _ _ (by rw [wE0];omega)]
  congr 1
  rw [wE0,Nat.min_eq_left (by omega),Nat.sub_self,List.drop_eq_getElem_cons (by omega)]
  rfl
theorem zww {n m:Nat}{b:Banks}(g:Good n m b) {k a:Nat}(hk:k<n) (ha:a<m) {w:Int}(hw:wd w):zfD b (k:Int) (a:Int) w=some (zbj b k a w,0):=by
 rw [zpY g.ok _ _ _ hw]
 unfold zmI
 rw [if_pos (zkX g hk ha),g.lost,if_neg (by omega),Int.toNat_natCast,Int.toNat_natCast]
theorem zuy {n m:Nat}{s:Vault}{l:Log}(g:Good n m (Vault.Banks s)) (hw:∀ x∈Log.Mem l,wd x) (hl:(Log.Mem l).length≤n * m) (hsz:(Log.Mem l).length≤1000) :
  zgc s l=some (Vault.mk (layB n (Vault.Banks s) (Log.Mem l) (Log.Mem l).length) (Vault.Words s) (Log.Span l) (Log.Lst l)):=by
 have e:(List.length (Banks.Rows (Vault.Banks s)):Int)=(n:Int):=by rw [g.rl]
 have lp:=zav (f:=zeH l (n:Int)) (n:=(Log.Mem l).length) (e:=Vault.mk (layB n (Vault.Banks s) (Log.Mem l) (Log.Mem l).length) (Vault.Words s) (Vault.Span s) (Vault.Lst s)) (fun i=>((i:Int),Vault.mk (layB n (Vault.Banks s) (Log.Mem l) i) (Vault.Words s) (Vault.Span s) (Vault.Lst s))) (fun i hi=>by
  have hlt:(i:Int)<(List.length (Log.Mem l):Int):=by omega
  have hp:i<n * m:=by omega
  have hn:0<n:=Nat.pos_of_ne_zero fun e=>by rw [e] at hp;omega
  obtain ⟨h1,_⟩:=zh1 g hw hl i (by omega)
  have hx:=zfu hw i
  rw [zaJ hi] at hx
  have hr:=zww h1 (Nat.mod_lt i hn) (show i / n<m by rw [Nat.div_lt_iff_lt_mul hn,Nat.mul_comm];exact hp) hx
  unfold zeH
  simp only [hlt,decide_true,if_true,znP hn,zix hn (show i≤1000000 by omega),zab hi,wC0,Vault.Banks_mk,hr,zah (show i<4611686018427387904 by omega)]
  have hs:layB n (Vault.Banks s) (Log.Mem l) (i + 1)=zbj (layB n (Vault.Banks s) (Log.Mem l) i) (i % n) (i / n) (Log.Mem l)[i]:=by
   show zbj _ _ _ (zaC _ _)=_
   rw [zaJ hi]
  rw [hs]
  rfl) (by
  unfold zeH
  simp only [Int.lt_irrefl,decide_false,wA0,if_false])
 unfold zgc
 dsimp only
 rw [e]
 have h0:Vault.mk (layB n (Vault.Banks s) (Log.Mem l) 0) (Vault.Words s) (Vault.Span s) (Vault.Lst s)=s:=Vault.eta s
 rw [h0,show ((0:Nat):Int)=0 from rfl] at lp
 rw [lp,wC0]
 rfl
noncomputable def putV (n:Nat) (u:Undo) (b:Banks):Banks:=zbj b ((Undo.At u).toNat % n) ((Undo.At u).toNat / n) (Undo.Val u)
theorem zlI {n m:Nat}{b:Banks}(g:Good n m b):∀ G:List Undo,(∀ u∈G,(Undo.At u).toNat<n * m∧wd (Undo.Val u))→Good n m (G.foldr (putV n) b)∧allB (G.foldr (putV n) b)=G.foldr putB (allB b)
 | [],_=>⟨g,rfl⟩
 | u::G,h=>by
  obtain ⟨h1,h2⟩:=zlI g G fun v hv=>h v (List.mem_cons_of_mem _ hv)
  obtain ⟨h3,h4⟩:=h u List.mem_cons_self
  have hn:0<n:=Nat.pos_of_ne_zero fun e=>by rw [e] at h3;omega
  rw [List.foldr_cons,List.foldr_cons]
  refine ⟨ziT h1 (Nat.mod_lt _ hn) (by rw [Nat.div_lt_iff_lt_mul hn,Nat.mul_comm];exact h3) h4,?_⟩
  show allB (zbj _ _ _ _)=_
  rw [zkM h1 h3,h2]
  rfl
theorem zpG (x y:List Int):∀ G:List Undo,(∀ u∈G,(Undo.At u).toNat<x.length)→G.foldr putB (x++y)=G.foldr putB x++y
 | [],_=>rfl
 | u::G,h=>by
  rw [List.foldr_cons,List.foldr_cons,zpG x y G fun v hv=>h v (List.mem_cons_of_mem _ hv)]
  unfold putB
  rw [List.set_append_left _ _ (by have:=zfK x G;unfold putB at this;rw [this];exact h u List.mem_cons_self)]
theorem zgf {s:Vault}(hs:VOk s):(
  let v2:List (List Int):=Banks.Rows (Vault.Banks s)
  let v3:Int:=(List.length v2:Int)
  (zar (zae v2 v3) ((0:Int),([]:List (List Int))):Option (List (List Int))).bind fun v4 =>
  (zaV 4 (Banks.Par (Vault.Banks s))).bind fun v7 =>
  (zaV 24 (Vault.Lst s)).bind fun v9 =>
  some ((Banks.Lost (Vault.Banks s),Vault.Words s,Vault.Span s,v4,v7,v9)):Option (Int×Int×Int×(List (List Int))×(List Int)×(List Undo)))=some (Banks.Lost (Vault.Banks s),Vault.Words s,Vault.Span s,Banks.Rows (Vault.Banks s),Banks.Par (Vault.Banks s),Vault.Lst s):=by
 have h1:=hs.b.rl
 have h2:=hs.b.pl
 have h3:=hs.l
 dsimp only
 rw [zpf (by omega) (fun r hr=>by have:=hs.b.el r hr;omega),wC0,zd2 (by omega) (by omega),wC0,zd2 (by omega) (by omega),wC0]
theorem zsa {s:Vault}(hs:VOk s) (a:Int):zdP s a=some (zam s&&(decide (0≤a)&&decide (a<Vault.Words s))):=by
 unfold zdP
 rw [za4 hs]
 cases zam s
 ·rfl
 ·by_cases h:0≤a
  ·simp only [h,decide_true,wC0,if_true,Bool.true_and]
  ·simp only [h,decide_false,wC0,if_true,Bool.true_and,wA0,if_false,Bool.false_and]
theorem zpm {s:Vault}(hs:VOk s) (a:Int):zcM s a=some (zam s&&(decide (0≤a)&&decide (a≤Vault.Span s))):=by
 unfold zcM
 rw [za4 hs]
 cases zam s
 ·rfl
 ·by_cases h:0≤a
  ·simp only [h,decide_true,wC0,if_true,Bool.true_and]
  ·simp only [h,decide_false,wC0,if_true,Bool.true_and,wA0,if_false,Bool.false_and]
end Go.Proofs.Ytlgjbfdojbmmgaa
