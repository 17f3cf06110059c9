/- Layer 7: words put together by bits, columns of banks. No program in sight. -/
import Derived.Test.YtlgjbfdojbmmgaaPG
set_option linter.unusedSimpArgs false
set_option linter.unusedVariables false
namespace Go.Proofs.Ytlgjbfdojbmmgaa
open Go.SX
def wd (x:Int):Prop:=0≤x∧x<4294967296
noncomputable def xo (a b:Int):Int:=bXor .u32 a b
theorem zlR (x y:Nat) (hx:x<4294967296) (hy:y<4294967296):xo (x:Int) (y:Int)=((x^^^y:Nat):Int):=by
 unfold xo bXor
 rw [show IntKind.bits .u32=32 from rfl]
 have h:(BitVec.ofInt 32 (x:Int)^^^BitVec.ofInt 32 (y:Int)).toNat=x^^^y:=by
  rw [show (BitVec.ofInt 32 (x:Int))=BitVec.ofNat 32 x from by rw [BitVec.ofInt_natCast],show (BitVec.ofInt 32 (y:Int))=BitVec.ofNat 32 y from by rw [BitVec.ofInt_natCast]]
  rw [BitVec.toNat_xor,BitVec.toNat_ofNat,BitVec.toNat_ofNat,Nat.mod_eq_of_lt (by simpa using hx),Nat.mod_eq_of_lt (by simpa using hy)]
 have hl:x^^^y<4294967296:=Nat.xor_lt_two_pow (n:=32) (by simpa using hx) (by simpa using hy)
 rw [h]
 unfold IntKind.wrap
 simp only [IntKind.signed,IntKind.bits,Bool.false_and,wA0,if_false]
 omega
theorem zgP {x:Int}(h:wd x):∃ n:Nat,x=(n:Int)∧n<4294967296:=⟨x.toNat,by have:=h.1;omega,by have:=h.1;have:=h.2;omega⟩
theorem ztu {a b:Int}(ha:wd a) (hb:wd b):wd (xo a b):=by
 obtain ⟨x,rfl,hx⟩:=zgP ha
 obtain ⟨y,rfl,hy⟩:=zgP hb
 rw [zlR x y hx hy]
 have hl:x^^^y<4294967296:=Nat.xor_lt_two_pow (n:=32) (by simpa using hx) (by simpa using hy)
 generalize x^^^y=z at hl
 exact ⟨by omega,by omega⟩
theorem zrX {a b:Int}(ha:wd a) (hb:wd b):xo a b=xo b a:=by
 obtain ⟨x,rfl,hx⟩:=zgP ha
 obtain ⟨y,rfl,hy⟩:=zgP hb
 rw [zlR x y hx hy,zlR y x hy hx,Nat.xor_comm]
theorem ziC {a b c:Int}(ha:wd a) (hb:wd b) (hc:wd c):xo (xo a b) c=xo a (xo b c):=by
 obtain ⟨x,rfl,hx⟩:=zgP ha
 obtain ⟨y,rfl,hy⟩:=zgP hb
 obtain ⟨z,rfl,hz⟩:=zgP hc
 have h1:x^^^y<4294967296:=Nat.xor_lt_two_pow (n:=32) (by simpa using hx) (by simpa using hy)
 have h2:y^^^z<4294967296:=Nat.xor_lt_two_pow (n:=32) (by simpa using hy) (by simpa using hz)
 rw [zlR x y hx hy,zlR y z hy hz,zlR _ z h1 hz,zlR x _ hx h2,Nat.xor_assoc]
theorem zuY {a:Int}(ha:wd a):xo a a=0:=by
 obtain ⟨x,rfl,hx⟩:=zgP ha
 rw [zlR x x hx hx,Nat.xor_self]
 rfl
theorem zsK {a:Int}(ha:wd a):xo a 0=a:=by
 obtain ⟨x,rfl,hx⟩:=zgP ha
 have:=zlR x 0 hx (by omega)
 rw [Nat.xor_zero] at this
 exact this
theorem zuQ {a:Int}(ha:wd a):xo 0 a=a:=by rw [zrX ⟨by omega,by omega⟩ ha,zsK ha]
theorem wd0:wd 0:=⟨by omega,by omega⟩
def rowAt (rows:List (List Int)) (i:Nat):List Int:=(rows[i]?).getD []
def zaC (r:List Int) (at_:Nat):Int:=(r[at_]?).getD 0
def cell (rows:List (List Int)) (i at_:Nat):Int:=zaC (rowAt rows i) at_
def zhX (rows:List (List Int)):Prop:=∀ r∈rows,∀ x∈r,wd x
theorem zek {rows:List (List Int)}{i:Nat}(h:i<rows.length):rowAt rows i=rows[i]:=by unfold rowAt;rw [wF0 h];rfl
theorem zcF {r:List Int}{i:Nat}(h:i<r.length):zaC r i=r[i]:=by unfold zaC;rw [wF0 h];rfl
theorem zdh {rows:List (List Int)}{i:Nat}(h:i<rows.length):rowAt rows i∈rows:=by rw [zek h];exact List.getElem_mem h
theorem zm1 {r:List Int}(h:∀ x∈r,wd x) (i:Nat):wd (zaC r i):=by
 unfold zaC
 cases e:r[i]? with
 | none=>exact wd0
 | some x=>exact h x (List.mem_of_getElem? e)
theorem zhw {rows:List (List Int)}(h:zhX rows) (i a:Nat):wd (cell rows i a):=by
 unfold cell rowAt
 refine zm1 ?_ a
 cases e:rows[i]? with
 | none=>intro x hx;cases hx
 | some r=>exact h r (List.mem_of_getElem? e)
theorem zeP {rows:List (List Int)}{k i:Nat}(h:k≠i) (r:List Int):rowAt (rows.set k r) i=rowAt rows i:=by unfold rowAt;rw [List.getElem?_set_ne h]
theorem rowAt_set {rows:List (List Int)}{k:Nat}(h:k<rows.length) (r:List Int):rowAt (rows.set k r) k=r:=by unfold rowAt;rw [List.getElem?_set_self h];rfl
theorem zew {r:List Int}{k i:Nat}(h:k≠i) (x:Int):zaC (r.set k x) i=zaC r i:=by unfold zaC;rw [List.getElem?_set_ne h]
theorem zhx {r:List Int}{k:Nat}(h:k<r.length) (x:Int):zaC (r.set k x) k=x:=by unfold zaC;rw [List.getElem?_set_self h];rfl
theorem zkS {rows:List (List Int)}(h:zhX rows) {k:Nat}{r:List Int}(hr:∀ x∈r,wd x):zhX (rows.set k r):=by
 intro q hq
 rcases List.mem_or_eq_of_mem_set hq with q1|q1
 ·exact h q q1
 ·rw [q1];exact hr
theorem zpB {r:List Int}(h:∀ x∈r,wd x) {k:Nat}{v:Int}(hv:wd v):∀ x∈r.set k v,wd x:=by
 intro x hx
 rcases List.mem_or_eq_of_mem_set hx with q1|q1
 ·exact h x q1
 ·rw [q1];exact hv
noncomputable def zbg (rows:List (List Int)) (a:Nat) (but:Int):Nat→Int
 | 0=>0
 | i + 1=>if (i:Int)=but then zbg rows a but i else xo (zbg rows a but i) (cell rows i a)
theorem ziE {rows:List (List Int)}(h:zhX rows) (a:Nat) (but:Int):∀ n,wd (zbg rows a but n)
 | 0=>wd0
 | n + 1=>by
  unfold zbg
  split
  ·exact ziE h a but n
  ·exact ztu (ziE h a but n) (zhw h n a)
theorem zf5 {rows rows':List (List Int)}{a:Nat}{but:Int}:∀ (n:Nat),(∀ (i:Nat),i<n→(i:Int)≠but→cell rows' i a=cell rows i a)→zbg rows' a but n=zbg rows a but n
 | 0,_=>rfl
 | n + 1,h=>by
  unfold zbg
  rw [zf5 n fun i hi=>h i (by omega)]
  split
  ·rfl
  ·rw [h n (by omega) (by assumption)]
theorem znS {rows:List (List Int)}(h:zhX rows) {a k:Nat}:∀ n,zbg rows a (-1) n=if k<n then xo (zbg rows a (k:Int) n) (cell rows k a) else zbg rows a (k:Int) n
 | 0=>rfl
 | n + 1=>by
  have ih:=znS h (a:=a) (k:=k) n
  have c1:¬ ((n:Int)=-1):=by omega
  have e1:zbg rows a (-1) (n + 1)=xo (zbg rows a (-1) n) (cell rows n a):=by rw [zbg,if_neg c1]
  rw [e1,ih]
  by_cases hk:n=k
  ·subst hk
   rw [if_neg (by omega),if_pos (by omega)]
   have e2:zbg rows a (n:Int) (n + 1)=zbg rows a (n:Int) n:=by rw [zbg,if_pos rfl]
   rw [e2]
  ·have c2:¬ ((n:Int)=(k:Int)):=by omega
   have e2:zbg rows a (k:Int) (n + 1)=xo (zbg rows a (k:Int) n) (cell rows n a):=by rw [zbg,if_neg c2]
   rw [e2]
   have w1:=ziE h a (k:Int) n
   have w2:=zhw h n a
   have w3:=zhw h k a
   by_cases hlt:k<n
   ·rw [if_pos hlt,if_pos (by omega),ziC w1 w3 w2,zrX w3 w2,ziC w1 w2 w3]
   ·rw [if_neg hlt,if_neg (by omega)]
theorem zjh {rows:List (List Int)}(h:zhX rows) {a k n:Nat}(hk:k<n):zbg rows a (-1) n=xo (zbg rows a (k:Int) n) (cell rows k a):=by rw [znS h (k:=k),if_pos hk]
theorem zsA {rows:List (List Int)}(h:zhX rows) {a k:Nat}{r:List Int}(hr:∀ x∈r,wd x) {n:Nat}(hk:k<n) (hl:k<rows.length):zbg (rows.set k r) a (-1) n=xo (zbg rows a (k:Int) n) (zaC r a):=by
 rw [zjh (zkS h hr) hk]
 congr 1
 ·refine zf5 n fun i hi hne=>?_
  unfold cell
  rw [zeP (by omega)]
 ·unfold cell
  rw [rowAt_set hl]
noncomputable def tog (rows:List (List Int)) (words:Nat):List Int:=(List.range words).map fun a=>zbg rows a (-1) rows.length
end Go.Proofs.Ytlgjbfdojbmmgaa
