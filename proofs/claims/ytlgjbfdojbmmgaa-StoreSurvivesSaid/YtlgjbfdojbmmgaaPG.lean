/- Plain lemmas about loops, lists and entries, for the proofs behind. No condition. -/
import Derived.Test.YtlgjbfdojbmmgaaLim
set_option linter.unusedSimpArgs false
set_option linter.unusedVariables false
namespace Go.Proofs.Ytlgjbfdojbmmgaa
open Go.SX
theorem zaD {i:Nat}(h:i<4611686018427387904):w64 ((i:Int) + 1)=((i + 1:Nat):Int):=by rw [zcM (by omega) (by omega)];omega
theorem zpm {i:Nat}(h:i<4611686018427387904):w64 (i:Int)=i:=zcM (by omega) (by omega)
theorem zgi {a n:Int}(h0:0≤a) (hn:0<n):remO a n=some (a % n)∧0≤a % n∧a % n<n:=by
 refine ⟨?_,Int.emod_nonneg _ (by omega),Int.emod_lt_of_pos _ hn⟩
 unfold remO
 rw [if_neg (by omega),Int.tmod_eq_emod_of_nonneg h0]
theorem zat {α:Type}{l:List α}{i:Nat}(h:i<l.length):getO l (i:Int)=some l[i]:=by rw [zqn,wF0 h]
theorem zdV {n i:Nat}(h:i<n):idxO (n:Int) (i:Int)=some (i:Int):=zvl (by omega) (by omega)
theorem zgb {α:Type}{l:List α}{i:Nat}{v:α}(h:i<l.length):setO l (i:Int) v=some (l.set i v):=by rw [zvs (by omega) (by omega)];simp
theorem zde {n b:Nat}(h:n≤1000000) (hb:b≤10000):zaR n b=true:=by
 refine zsR ?_ (by omega)
 have:n * b≤1000000 * 10000:=Nat.mul_le_mul h hb
 omega
theorem zdf {α:Type}{b:Nat}{s x:List α}(h:s.length + x.length≤1000000) (hb:b≤10000):appO b s x=some (s++x):=zvd (zde h hb)
theorem zdN {α:Type}{b:Nat}{s:List α}(h:s.length≤1000000) (hb:b≤10000):zaO b s=some s:=zsu (zde h hb)
theorem zfH {α:Type}{z:α}{b n:Nat}(h:n≤1000000) (hb:b≤10000):repO z b (n:Int) (n:Int)=some (List.replicate n z):=by
 rw [zu7 (by omega) (by omega) (by simpa using zde h hb)]
 simp
theorem zmI {α:Type}{l:List α}{i j:Nat}(h1:i≤j) (h2:j≤l.length):subO l (i:Int) (j:Int)=some ((l.take j).drop i):=by
 rw [zsW (by omega) (by omega) (by omega)];simp
theorem zb5 {α:Type}{l:List α}{i:Nat}(h:i<l.length):l.take (i + 1)=l.take i++[l[i]]:=by
 rw [List.take_add_one,wF0 h];rfl
theorem zaN {S E:Type}{f:S→Option (S⊕E)}(st:Nat→S) {n:Nat}{e:E}(step:∀ i,i<n→f (st i)=some (.inl (st (i + 1)))) (out:f (st n)=some (.inr e)):zaz f (st 0)=some e:=by
 rw [zuX st (Nat.zero_le n) (fun i _ h=>step i h),zi6 out]
theorem zrx {S E:Type}{f:S→Option (S⊕E)}(st:Nat→S) {n:Nat}(ok:Nat→Bool) {e r:E}
  (step:∀ i,i<n→(∀ j,j<i→ok j=true)→f (st i)=some (if ok i=true then .inl (st (i + 1)) else .inr r))
  (out:(∀ j,j<n→ok j=true)→f (st n)=some (.inr e)):zaz f (st 0)=some (if (List.range n).all ok=true then e else r):=by
 rcases zmp ok n with h|⟨k,hk,h1,h2⟩
 ·have hall:(List.range n).all ok=true:=by
   rw [List.all_eq_true]
   intro i hi
   exact h i (List.mem_range.1 hi)
  rw [if_pos hall]
  refine zaN st (fun i hi=>?_) (out h)
  rw [step i hi fun j hj=>h j (by omega),h i hi]
  rfl
 ·have hall:(List.range n).all ok=false:=by
   rw [List.all_eq_false]
   exact ⟨k,List.mem_range.2 hk,by rw [h1];simp⟩
  rw [hall]
  refine zaN (n:=k) st (fun i hi=>?_) ?_
  ·rw [step i (by omega) fun j hj=>h2 j (by omega),h2 i hi]
   rfl
  ·rw [step k hk h2,h1]
   rfl
theorem zn2 {S:Type}{f:S→Option (S⊕Unit⊕Bool)}(st:Nat→S) {n:Nat}(ok:Nat→Bool) {g:Unit→Option Bool}
  (step:∀ i,i<n→(∀ j,j<i→ok j=true)→f (st i)=some (if ok i=true then .inl (st (i + 1)) else .inr (.inr false)))
  (out:(∀ j,j<n→ok j=true)→f (st n)=some (.inr (.inl ()))):zbc (zaz f (st 0)) g=if (List.range n).all ok=true then g () else some false:=by
 rw [zrx st ok step out]
 split<;>rfl
theorem zbH {n:Nat}{p:Nat→Bool}:(List.range n).all p=true↔∀ i,i<n→p i=true:=by
 rw [List.all_eq_true]
 exact ⟨fun h i hi=>h i (List.mem_range.2 hi),fun h i hi=>h i (List.mem_range.1 hi)⟩
theorem zh5 {S E:Type}{f:S→Option (S⊕E)}(st:Nat→S) {n:Nat}(ok:Nat→Bool) {e:E}{r:Nat→E}
  (step:∀ i,i<n→(∀ j,j<i→ok j=true)→f (st i)=some (if ok i=true then .inl (st (i + 1)) else .inr (r i)))
  (out:(∀ j,j<n→ok j=true)→f (st n)=some (.inr e)):((∀ j,j<n→ok j=true)∧zaz f (st 0)=some e)∨∃ k,k<n∧ok k=false∧(∀ j,j<k→ok j=true)∧zaz f (st 0)=some (r k):=by
 rcases zmp ok n with h|⟨k,hk,h1,h2⟩
 ·refine .inl ⟨h,zaN st (fun i hi=>?_) (out h)⟩
  rw [step i hi fun j hj=>h j (by omega),h i hi]
  rfl
 ·refine .inr ⟨k,hk,h1,h2,zaN (n:=k) st (fun i hi=>?_) ?_⟩
  ·rw [step i (by omega) fun j hj=>h2 j (by omega),h2 i hi]
   rfl
  ·rw [step k hk h2,h1]
   rfl
def zbM (ok:Nat→Bool):Nat→Nat
 | 0=>0
 | n + 1=>if zbM ok n<n then zbM ok n else if ok n=true then n + 1 else n
theorem zcH (ok:Nat→Bool):∀ n,zbM ok n≤n∧(∀ j,j<zbM ok n→ok j=true)∧(zbM ok n<n→ok (zbM ok n)=false)
 | 0=>⟨wG0 0,fun j h=>absurd h (Nat.not_lt_zero j),fun h=>absurd h (Nat.lt_irrefl 0)⟩
 | n + 1=>by
  obtain ⟨h1,h2,h3⟩:=zcH ok n
  simp only [zbM]
  by_cases hlt:zbM ok n<n
  ·rw [if_pos hlt]
   exact ⟨by omega,h2,fun _=>h3 hlt⟩
  ·rw [if_neg hlt]
   have he:zbM ok n=n:=by omega
   rw [he] at h2
   by_cases hok:ok n=true
   ·rw [if_pos hok]
    refine ⟨wG0 _,fun j hj=>?_,fun h=>absurd h (Nat.lt_irrefl _)⟩
    rcases Nat.lt_or_ge j n with h|h
    ·exact h2 j h
    ·have:j=n:=by omega
     rw [this];exact hok
   ·rw [if_neg hok]
    exact ⟨by omega,h2,fun _=>by simpa using hok⟩
theorem zhW {ok:Nat→Bool}{n:Nat}:zbM ok n=n↔∀ j,j<n→ok j=true:=by
 obtain ⟨h1,h2,h3⟩:=zcH ok n
 constructor
 ·intro h j hj
  exact h2 j (by omega)
 ·intro h
  rcases Nat.lt_or_ge (zbM ok n) n with hl|hl
  ·have:=h3 hl
   rw [h _ hl] at this
   cases this
  ·omega
theorem zsA {ok:Nat→Bool}{n k:Nat}(hk:k<n) (h0:ok k=false) (hp:∀ j,j<k→ok j=true):zbM ok n=k:=by
 obtain ⟨h1,h2,h3⟩:=zcH ok n
 rcases Nat.lt_trichotomy (zbM ok n) k with h|h|h
 ·have:=h3 (by omega)
  rw [hp _ h] at this
  cases this
 ·exact h
 ·have:=h2 k h
  rw [h0] at this
  cases this
theorem zlx {S E:Type}{f:S→Option (S⊕E)}(st:Nat→S) {n:Nat}(ok:Nat→Bool) {e:E}{r:Nat→E}
  (step:∀ i,i<n→(∀ j,j<i→ok j=true)→f (st i)=some (if ok i=true then .inl (st (i + 1)) else .inr (r i)))
  (out:(∀ j,j<n→ok j=true)→f (st n)=some (.inr e)):zaz f (st 0)=some (if zbM ok n<n then r (zbM ok n) else e):=by
 rcases zh5 st ok step out with ⟨h,hl⟩|⟨k,hk,h0,hp,hl⟩
 ·rw [hl,if_neg (by rw [zhW.2 h];omega)]
 ·rw [hl,zsA hk h0 hp,if_pos hk]
def optT {α:Type}(p:α→Bool):Option α→Bool|some x=>p x|none=>true
theorem zdq {α:Type}{p:α→Bool}{l:List α}{i:Nat}(h:i<l.length):optT p l[i]?=p l[i]:=by rw [wF0 h];rfl
theorem zog {α:Type}{p:α→Bool}{l:List α}:l.any p=!(List.range l.length).all fun i=>optT (fun x=>!p x) l[i]?:=by
 rw [Bool.eq_iff_iff]
 simp only [List.any_eq_true,Bool.not_eq_true']
 constructor
 ·rintro ⟨x,hx,hp⟩
  obtain ⟨i,hi,rfl⟩:=List.getElem_of_mem hx
  rw [List.all_eq_false]
  exact ⟨i,List.mem_range.2 hi,by rw [zdq hi];simp [hp]⟩
 ·intro h
  rw [List.all_eq_false] at h
  obtain ⟨i,hi,hp⟩:=h
  have hi:=List.mem_range.1 hi
  rw [zdq hi] at hp
  exact ⟨l[i],List.getElem_mem hi,by simpa using hp⟩
theorem zm9 {α:Type}{p:α→Bool}{l:List α}:l.all p=(List.range l.length).all fun i=>optT p l[i]?:=by
 rw [Bool.eq_iff_iff,zbH]
 simp only [List.all_eq_true]
 constructor
 ·intro h i hi
  rw [zdq hi]
  exact h _ (List.getElem_mem hi)
 ·intro h x hx
  obtain ⟨i,hi,rfl⟩:=List.getElem_of_mem hx
  have:=h i hi
  rwa [zdq hi] at this
theorem zoC {α β:Type}(dec:DecidableEq α) (k k':α) (v:β):∀ l:List (α×β),zeX dec k' (ziY dec k v l)=bif @decide (k'=k) (dec k' k) then some v else zeX dec k' l
 | []=>by simp only [ziY,zeX]
 | p::l=>by
  simp only [ziY,zeX]
  by_cases h:k=p.1
  ·simp only [h,decide_true,cond_true,zeX]
   by_cases h':k'=p.1<;>simp [h']
  ·simp only [h,decide_false,cond_false,zeX,zoC dec k k' v l]
   by_cases h':k'=p.1
   ·have:¬ k'=k:=fun e=>h (e▸h')
    simp [h',Ne.symm h]
   ·simp [h']
theorem ztG {α β:Type}(dec:DecidableEq α) (z v:β) (k k':α) (l:List (α×β)):zmO dec z (ziY dec k v l) k'=bif @decide (k'=k) (dec k' k) then v else zmO dec z l k':=by
 unfold zmO
 rw [zoC]
 cases @decide (k'=k) (dec k' k)<;>rfl
theorem ztP {α:Type}{f:(Int×Int×List α)→Option ((Int×Int×List α)⊕(Int×List α))}{l:List α}{keep:α→Bool}
  (step:∀ (i j:Nat) (m:List α) (h:j<m.length),i<j→m.length=l.length→f ((i:Int),(j:Int),m)=some (.inl (if keep m[j]=true then (((i + 1:Nat):Int),((j + 1:Nat):Int),m.set i m[j]) else ((i:Int),((j + 1:Nat):Int),m))))
  (out:∀ (i:Nat) (m:List α),m.length=l.length→f ((i:Int),(m.length:Int),m)=some (.inr ((i:Int),m))) {k:Nat} (hk:k<l.length) (hpre:∀ (i:Nat) (h:i<l.length),i<k→keep l[i]=true) (hno:keep l[k]=false) :
  ∃ (i:Nat) (m:List α),zaz f ((k:Int),((k + 1:Nat):Int),l)=some ((i:Int),m)∧i≤m.length∧m.length=l.length∧m.take i=l.filter keep:=by
 have main:∀ (d i j:Nat) (m:List α),l.length - j=d→j≤l.length→i<j→m.length=l.length→m.take i=(l.take j).filter keep→m.drop j=l.drop j →
   ∃ (i':Nat) (m':List α),zaz f ((i:Int),(j:Int),m)=some ((i':Int),m')∧i'≤m'.length∧m'.length=l.length∧m'.take i'=l.filter keep:=by
  intro d
  induction d with
  | zero =>
   intro i j m hd hj hij hm h1 h2
   have hjl:j=m.length:=by omega
   subst hjl
   exact ⟨i,m,zi6 (out i m hm),by omega,hm,by rw [h1,hm,List.take_length]⟩
  | succ d ih =>
   intro i j m hd hj hij hm h1 h2
   have hjm:j<m.length:=by omega
   have hjl:j<l.length:=by omega
   have hx:m[j]=l[j]:=by
    have e:(m.drop j)[0]?=(l.drop j)[0]?:=by rw [h2]
    rw [List.getElem?_drop,List.getElem?_drop,Nat.add_zero,wF0 hjm,wF0 hjl] at e
    exact Option.some.inj e
   have hd2:m.drop (j + 1)=l.drop (j + 1):=by
    have e:(m.drop j).drop 1=(l.drop j).drop 1:=by rw [h2]
    rwa [List.drop_drop,List.drop_drop] at e
   rw [zkr (step i j m hjm hij hm)]
   rw [hx]
   have htk:(l.take (j + 1)).filter keep=(l.take j).filter keep++(if keep l[j]=true then [l[j]] else []):=by
    rw [zb5 hjl,List.filter_append]
    simp only [List.filter_cons,List.filter_nil]
   by_cases hke:keep l[j]=true
   ·rw [if_pos hke]
    refine ih (i + 1) (j + 1) (m.set i l[j]) (by omega) (by omega) (by omega) (by simpa using hm) ?_ ?_
    ·rw [htk,if_pos hke,← h1]
     have him:i<(m.set i l[j]).length:=by simp;omega
     rw [zb5 him]
     simp [List.take_set_of_le]
    ·rw [List.drop_set_of_lt (by omega)]
     exact hd2
   ·rw [if_neg hke]
    exact ih i (j + 1) m (by omega) (by omega) (by omega) hm (by rw [htk,if_neg hke,List.append_nil];exact h1) hd2
 refine main (l.length - (k + 1)) k (k + 1) l rfl (by omega) (by omega) rfl ?_ rfl
 rw [zb5 hk,List.filter_append]
 simp only [List.filter_cons,List.filter_nil,hno,wA0,if_false,List.append_nil]
 rw [List.filter_eq_self.2]
 intro x hx
 obtain ⟨i,hi,rfl⟩:=List.getElem_of_mem hx
 rw [List.getElem_take]
 rw [wE0] at hi
 exact hpre i (by omega) (by omega)
theorem ztK {α:Type}{m:List α}{i:Nat}{z:α}(hi:i≤m.length) :
  ((rngO (List.length m:Int) (i:Int) (List.length m:Int)).bind fun v13=>(subO m (i:Int) v13).bind fun v14=>(zrw m (i:Int) v13 (List.replicate (List.length v14) z)).bind fun v16 =>
   (rngO (List.length v16:Int) (0:Int) (i:Int)).bind fun v18=>some ((v18,v16)):Option (Int×List α))=some ((i:Int),m.take i++List.replicate (m.length - i) z):=by
 have h1:rngO (List.length m:Int) (i:Int) (List.length m:Int)=some (m.length:Int):=by unfold rngO;rw [if_pos (by omega)]
 have h2:subO m (i:Int) (m.length:Int)=some (m.drop i):=by rw [zmI hi (wG0 _),List.take_length]
 have h3:zrw m (i:Int) (m.length:Int) (List.replicate (m.drop i).length z)=some (m.take i++List.replicate (m.length - i) z):=by
  unfold zrw
  rw [if_pos (by omega)]
  have e1:((m.length:Int) - (i:Int)).toNat=m.length - i:=by omega
  simp only [e1,Int.toNat_natCast,List.length_drop,List.take_replicate,Nat.min_self,List.length_replicate]
  rw [show i + (m.length - i)=m.length by omega,List.drop_length,List.append_nil]
 have h4:∀ x:List α,i≤x.length→rngO (List.length x:Int) (0:Int) (i:Int)=some (i:Int):=fun x hx=>by unfold rngO;rw [if_pos (by omega)]
 rw [h1,wC0,h2,wC0,h3,wC0,h4 _ (by simp;omega),wC0]
theorem zt2 {α:Type}{m:List α}{i k:Nat}{z:α}(hi:i≤m.length):(m.take i++List.replicate k z).take i=m.take i:=by
 have:(m.take i).length=i:=by rw [wE0];omega
 rw [List.take_append_of_le_length (by omega),List.take_take,Nat.min_self]
end Go.Proofs.Ytlgjbfdojbmmgaa
