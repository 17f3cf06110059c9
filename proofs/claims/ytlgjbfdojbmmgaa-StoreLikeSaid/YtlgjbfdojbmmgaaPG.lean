/- Plain lemmas about loops, lists and entries, for the proofs behind. No condition. -/
import Derived.Test.YtlgjbfdojbmmgaaLim
set_option linter.unusedSimpArgs false
set_option linter.unusedVariables false
namespace Go.Proofs.Ytlgjbfdojbmmgaa
open Go.SX
theorem zav {i:Nat}(h:i<4611686018427387904):w64 ((i:Int) + 1)=((i + 1:Nat):Int):=by rw [zdE (by omega) (by omega)];omega
theorem zoW {i:Nat}(h:i<4611686018427387904):w64 (i:Int)=i:=zdE (by omega) (by omega)
theorem zjo {a n:Int}(h0:0≤a) (hn:0<n):remO a n=some (a % n)∧0≤a % n∧a % n<n:=by
 refine ⟨?_,Int.emod_nonneg _ (by omega),Int.emod_lt_of_pos _ hn⟩
 unfold remO
 rw [if_neg (by omega),Int.tmod_eq_emod_of_nonneg h0]
theorem zat {α:Type}{l:List α}{i:Nat}(h:i<l.length):getO l (i:Int)=some l[i]:=by rw [ztJ,wF0 h]
theorem zci {n i:Nat}(h:i<n):idxO (n:Int) (i:Int)=some (i:Int):=zsf (by omega) (by omega)
theorem zeL {α:Type}{l:List α}{i:Nat}{v:α}(h:i<l.length):setO l (i:Int) v=some (l.set i v):=by rw [zr0 (by omega) (by omega)];simp
theorem zc5 {n b:Nat}(h:n≤1000000) (hb:b≤10000):zaO n b=true:=by
 refine zs5 ?_ (by omega)
 have:n * b≤1000000 * 10000:=Nat.mul_le_mul h hb
 omega
theorem zdR {α:Type}{b:Nat}{s x:List α}(h:s.length + x.length≤1000000) (hb:b≤10000):appO b s x=some (s++x):=zuG (zc5 h hb)
theorem zbT {α:Type}{b:Nat}{s:List α}(h:s.length≤1000000) (hb:b≤10000):zaD b s=some s:=zse (zc5 h hb)
theorem zfl {α:Type}{z:α}{b n:Nat}(h:n≤1000000) (hb:b≤10000):repO z b (n:Int) (n:Int)=some (List.replicate n z):=by
 rw [zur (by omega) (by omega) (by simpa using zc5 h hb)]
 simp
theorem zgh {α:Type}{l:List α}{i j:Nat}(h1:i≤j) (h2:j≤l.length):subO l (i:Int) (j:Int)=some ((l.take j).drop i):=by
 rw [zux (by omega) (by omega) (by omega)];simp
theorem zb3 {α:Type}{l:List α}{i:Nat}(h:i<l.length):l.take (i + 1)=l.take i++[l[i]]:=by
 rw [List.take_add_one,wF0 h];rfl
theorem za5 {S E:Type}{f:S→Option (S⊕E)}(st:Nat→S) {n:Nat}{e:E}(step:∀ i,i<n→f (st i)=some (.inl (st (i + 1)))) (out:f (st n)=some (.inr e)):zaA f (st 0)=some e:=by
 rw [zuv st (Nat.zero_le n) (fun i _ h=>step i h),ziQ out]
theorem zq5 {S E:Type}{f:S→Option (S⊕E)}(st:Nat→S) {n:Nat}(ok:Nat→Bool) {e r:E}
  (step:∀ i,i<n→(∀ j,j<i→ok j=true)→f (st i)=some (if ok i=true then .inl (st (i + 1)) else .inr r))
  (out:(∀ j,j<n→ok j=true)→f (st n)=some (.inr e)):zaA f (st 0)=some (if (List.range n).all ok=true then e else r):=by
 rcases zl2 ok n with h|⟨k,hk,h1,h2⟩
 ·have hall:(List.range n).all ok=true:=by
   rw [List.all_eq_true]
   intro i hi
   exact h i (List.mem_range.1 hi)
  rw [if_pos hall]
  refine za5 st (fun i hi=>?_) (out h)
  rw [step i hi fun j hj=>h j (by omega),h i hi]
  rfl
 ·have hall:(List.range n).all ok=false:=by
   rw [List.all_eq_false]
   exact ⟨k,List.mem_range.2 hk,by rw [h1];simp⟩
  rw [hall]
  refine za5 (n:=k) st (fun i hi=>?_) ?_
  ·rw [step i (by omega) fun j hj=>h2 j (by omega),h2 i hi]
   rfl
  ·rw [step k hk h2,h1]
   rfl
theorem znm {S:Type}{f:S→Option (S⊕Unit⊕Bool)}(st:Nat→S) {n:Nat}(ok:Nat→Bool) {g:Unit→Option Bool}
  (step:∀ i,i<n→(∀ j,j<i→ok j=true)→f (st i)=some (if ok i=true then .inl (st (i + 1)) else .inr (.inr false)))
  (out:(∀ j,j<n→ok j=true)→f (st n)=some (.inr (.inl ()))):zb6 (zaA f (st 0)) g=if (List.range n).all ok=true then g () else some false:=by
 rw [zq5 st ok step out]
 split<;>rfl
theorem zbi {n:Nat}{p:Nat→Bool}:(List.range n).all p=true↔∀ i,i<n→p i=true:=by
 rw [List.all_eq_true]
 exact ⟨fun h i hi=>h i (List.mem_range.2 hi),fun h i hi=>h i (List.mem_range.1 hi)⟩
theorem zec {S E:Type}{f:S→Option (S⊕E)}(st:Nat→S) {n:Nat}(ok:Nat→Bool) {e:E}{r:Nat→E}
  (step:∀ i,i<n→(∀ j,j<i→ok j=true)→f (st i)=some (if ok i=true then .inl (st (i + 1)) else .inr (r i)))
  (out:(∀ j,j<n→ok j=true)→f (st n)=some (.inr e)):((∀ j,j<n→ok j=true)∧zaA f (st 0)=some e)∨∃ k,k<n∧ok k=false∧(∀ j,j<k→ok j=true)∧zaA f (st 0)=some (r k):=by
 rcases zl2 ok n with h|⟨k,hk,h1,h2⟩
 ·refine .inl ⟨h,za5 st (fun i hi=>?_) (out h)⟩
  rw [step i hi fun j hj=>h j (by omega),h i hi]
  rfl
 ·refine .inr ⟨k,hk,h1,h2,za5 (n:=k) st (fun i hi=>?_) ?_⟩
  ·rw [step i (by omega) fun j hj=>h2 j (by omega),h2 i hi]
   rfl
  ·rw [step k hk h2,h1]
   rfl
def zbG (ok:Nat→Bool):Nat→Nat
 | 0=>0
 | n + 1=>if zbG ok n<n then zbG ok n else if ok n=true then n + 1 else n
theorem zcH (ok:Nat→Bool):∀ n,zbG ok n≤n∧(∀ j,j<zbG ok n→ok j=true)∧(zbG ok n<n→ok (zbG ok n)=false)
 | 0=>⟨wG0 0,fun j h=>absurd h (Nat.not_lt_zero j),fun h=>absurd h (Nat.lt_irrefl 0)⟩
 | n + 1=>by
  obtain ⟨h1,h2,h3⟩:=zcH ok n
  simp only [zbG]
  by_cases hlt:zbG ok n<n
  ·rw [if_pos hlt]
   exact ⟨by omega,h2,fun _=>h3 hlt⟩
  ·rw [if_neg hlt]
   have he:zbG ok n=n:=by omega
   rw [he] at h2
   by_cases hok:ok n=true
   ·rw [if_pos hok]
    refine ⟨wG0 _,fun j hj=>?_,fun h=>absurd h (Nat.lt_irrefl _)⟩
    rcases Nat.lt_or_ge j n with h|h
    ·exact h2 j h
    ·have:j=n:=by omega
     rw [this];exact hok
   ·rw [if_neg hok]
    exact ⟨by omega,h2,fun _=>by simpa using hok⟩
theorem zhq {ok:Nat→Bool}{n:Nat}:zbG ok n=n↔∀ j,j<n→ok j=true:=by
 obtain ⟨h1,h2,h3⟩:=zcH ok n
 constructor
 ·intro h j hj
  exact h2 j (by omega)
 ·intro h
  rcases Nat.lt_or_ge (zbG ok n) n with hl|hl
  ·have:=h3 hl
   rw [h _ hl] at this
   cases this
  ·omega
theorem zsp {ok:Nat→Bool}{n k:Nat}(hk:k<n) (h0:ok k=false) (hp:∀ j,j<k→ok j=true):zbG ok n=k:=by
 obtain ⟨h1,h2,h3⟩:=zcH ok n
 rcases Nat.lt_trichotomy (zbG ok n) k with h|h|h
 ·have:=h3 (by omega)
  rw [hp _ h] at this
  cases this
 ·exact h
 ·have:=h2 k h
  rw [h0] at this
  cases this
theorem zlp {S E:Type}{f:S→Option (S⊕E)}(st:Nat→S) {n:Nat}(ok:Nat→Bool) {e:E}{r:Nat→E}
  (step:∀ i,i<n→(∀ j,j<i→ok j=true)→f (st i)=some (if ok i=true then .inl (st (i + 1)) else .inr (r i)))
  (out:(∀ j,j<n→ok j=true)→f (st n)=some (.inr e)):zaA f (st 0)=some (if zbG ok n<n then r (zbG ok n) else e):=by
 rcases zec st ok step out with ⟨h,hl⟩|⟨k,hk,h0,hp,hl⟩
 ·rw [hl,if_neg (by rw [zhq.2 h];omega)]
 ·rw [hl,zsp hk h0 hp,if_pos hk]
def optT {α:Type}(p:α→Bool):Option α→Bool|some x=>p x|none=>true
theorem zbv {α:Type}{p:α→Bool}{l:List α}{i:Nat}(h:i<l.length):optT p l[i]?=p l[i]:=by rw [wF0 h];rfl
theorem zgy {α:Type}{p:α→Bool}{l:List α}:l.any p=!(List.range l.length).all fun i=>optT (fun x=>!p x) l[i]?:=by
 rw [Bool.eq_iff_iff]
 simp only [List.any_eq_true,Bool.not_eq_true']
 constructor
 ·rintro ⟨x,hx,hp⟩
  obtain ⟨i,hi,rfl⟩:=List.getElem_of_mem hx
  rw [List.all_eq_false]
  exact ⟨i,List.mem_range.2 hi,by rw [zbv hi];simp [hp]⟩
 ·intro h
  rw [List.all_eq_false] at h
  obtain ⟨i,hi,hp⟩:=h
  have hi:=List.mem_range.1 hi
  rw [zbv hi] at hp
  exact ⟨l[i],List.getElem_mem hi,by simpa using hp⟩
theorem zok {α:Type}{p:α→Bool}{l:List α}:l.all p=(List.range l.length).all fun i=>optT p l[i]?:=by
 rw [Bool.eq_iff_iff,zbi]
 simp only [List.all_eq_true]
 constructor
 ·intro h i hi
  rw [zbv hi]
  exact h _ (List.getElem_mem hi)
 ·intro h x hx
  obtain ⟨i,hi,rfl⟩:=List.getElem_of_mem hx
  have:=h i hi
  rwa [zbv hi] at this
theorem zou {α β:Type}(dec:DecidableEq α) (k k':α) (v:β):∀ l:List (α×β),zeE dec k' (zhm dec k v l)=bif @decide (k'=k) (dec k' k) then some v else zeE dec k' l
 | []=>by simp only [zhm,zeE]
 | p::l=>by
  simp only [zhm,zeE]
  by_cases h:k=p.1
  ·simp only [h,decide_true,cond_true,zeE]
   by_cases h':k'=p.1<;>simp [h']
  ·simp only [h,decide_false,cond_false,zeE,zou dec k k' v l]
   by_cases h':k'=p.1
   ·have:¬ k'=k:=fun e=>h (e▸h')
    simp [h',Ne.symm h]
   ·simp [h']
theorem ztN {α β:Type}(dec:DecidableEq α) (z v:β) (k k':α) (l:List (α×β)):zkF dec z (zhm dec k v l) k'=bif @decide (k'=k) (dec k' k) then v else zkF dec z l k':=by
 unfold zkF
 rw [zou]
 cases @decide (k'=k) (dec k' k)<;>rfl
theorem zqm {α:Type}{f:(Int×Int×List α)→Option ((Int×Int×List α)⊕(Int×List α))}{l:List α}{keep:α→Bool}
  (step:∀ (i j:Nat) (m:List α) (h:j<m.length),i<j→m.length=l.length→f ((i:Int),(j:Int),m)=some (.inl (if keep m[j]=true then (((i + 1:Nat):Int),((j + 1:Nat):Int),m.set i m[j]) else ((i:Int),((j + 1:Nat):Int),m))))
  (out:∀ (i:Nat) (m:List α),m.length=l.length→f ((i:Int),(m.length:Int),m)=some (.inr ((i:Int),m))) {k:Nat} (hk:k<l.length) (hpre:∀ (i:Nat) (h:i<l.length),i<k→keep l[i]=true) (hno:keep l[k]=false) :
  ∃ (i:Nat) (m:List α),zaA f ((k:Int),((k + 1:Nat):Int),l)=some ((i:Int),m)∧i≤m.length∧m.length=l.length∧m.take i=l.filter keep:=by
 have main:∀ (d i j:Nat) (m:List α),l.length - j=d→j≤l.length→i<j→m.length=l.length→m.take i=(l.take j).filter keep→m.drop j=l.drop j →
   ∃ (i':Nat) (m':List α),zaA f ((i:Int),(j:Int),m)=some ((i':Int),m')∧i'≤m'.length∧m'.length=l.length∧m'.take i'=l.filter keep:=by
  intro d
  induction d with
  | zero =>
   intro i j m hd hj hij hm h1 h2
   have hjl:j=m.length:=by omega
   subst hjl
   exact ⟨i,m,ziQ (out i m hm),by omega,hm,by rw [h1,hm,List.take_length]⟩
  | succ d ih =>
   intro i j m hd hj hij hm h1 h2
   have hjm:j<m.length:=by omega
   have hjl:j<l.length:=by omega
   have hx:m[j]=l[j]:=by
    have e:(m.drop j)[0]?=(l.drop j)[0]?:=by rw [h2]
    rw [List.getElem?_drop,List.getElem?_drop,Nat.add_zero,wF0 hjm,wF0 hjl] at e
    exact Option.some.inj e
   have hd2:m.drop (j + 1)=l.drop (j + 1):=by
    have e:(m.drop j).drop 1=(l.drop j).drop 1:=by rw [h2]
    rwa [List.drop_drop,List.drop_drop] at e
   rw [zjL (step i j m hjm hij hm)]
   rw [hx]
   have htk:(l.take (j + 1)).filter keep=(l.take j).filter keep++(if keep l[j]=true then [l[j]] else []):=by
    rw [zb3 hjl,List.filter_append]
    simp only [List.filter_cons,List.filter_nil]
   by_cases hke:keep l[j]=true
   ·rw [if_pos hke]
    refine ih (i + 1) (j + 1) (m.set i l[j]) (by omega) (by omega) (by omega) (by simpa using hm) ?_ ?_
    ·rw [htk,if_pos hke,← h1]
     have him:i<(m.set i l[j]).length:=by simp;omega
     rw [zb3 him]
     simp [List.take_set_of_le]
    ·rw [List.drop_set_of_lt (by omega)]
     exact hd2
   ·rw [if_neg hke]
    exact ih i (j + 1) m (by omega) (by omega) (by omega) hm (by rw [htk,if_neg hke,List.append_nil];exact h1) hd2
 refine main (l.length - (k + 1)) k (k + 1) l rfl (by omega) (by omega) rfl ?_ rfl
 rw [zb3 hk,List.filter_append]
 simp only [List.filter_cons,List.filter_nil,hno,wA0,if_false,List.append_nil]
 rw [List.filter_eq_self.2]
 intro x hx
 obtain ⟨i,hi,rfl⟩:=List.getElem_of_mem hx
 rw [List.getElem_take]
 rw [wE0] at hi
 exact hpre i (by omega) (by omega)
theorem zpI {α:Type}{m:List α}{i:Nat}{z:α}(hi:i≤m.length) :
  ((rngO (List.length m:Int) (i:Int) (List.length m:Int)).bind fun v13=>(subO m (i:Int) v13).bind fun v14=>(zoE m (i:Int) v13 (List.replicate (List.length v14) z)).bind fun v16 =>
   (rngO (List.length v16:Int) (0:Int) (i:Int)).bind fun v18=>some ((v18,v16)):Option (Int×List α))=some ((i:Int),m.take i++List.replicate (m.length - i) z):=by
 have h1:rngO (List.length m:Int) (i:Int) (List.length m:Int)=some (m.length:Int):=by unfold rngO;rw [if_pos (by omega)]
 have h2:subO m (i:Int) (m.length:Int)=some (m.drop i):=by rw [zgh hi (wG0 _),List.take_length]
 have h3:zoE m (i:Int) (m.length:Int) (List.replicate (m.drop i).length z)=some (m.take i++List.replicate (m.length - i) z):=by
  unfold zoE
  rw [if_pos (by omega)]
  have e1:((m.length:Int) - (i:Int)).toNat=m.length - i:=by omega
  simp only [e1,Int.toNat_natCast,List.length_drop,List.take_replicate,Nat.min_self,List.length_replicate]
  rw [show i + (m.length - i)=m.length by omega,List.drop_length,List.append_nil]
 have h4:∀ x:List α,i≤x.length→rngO (List.length x:Int) (0:Int) (i:Int)=some (i:Int):=fun x hx=>by unfold rngO;rw [if_pos (by omega)]
 rw [h1,wC0,h2,wC0,h3,wC0,h4 _ (by simp;omega),wC0]
theorem zqt {α:Type}{m:List α}{i k:Nat}{z:α}(hi:i≤m.length):(m.take i++List.replicate k z).take i=m.take i:=by
 have:(m.take i).length=i:=by rw [wE0];omega
 rw [List.take_append_of_le_length (by omega),List.take_take,Nat.min_self]
end Go.Proofs.Ytlgjbfdojbmmgaa
