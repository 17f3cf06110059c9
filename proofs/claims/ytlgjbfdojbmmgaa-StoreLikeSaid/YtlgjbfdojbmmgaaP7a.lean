/- Layer 7: words put together by bits, columns of banks. No program in sight. -/
import Derived.Test.YtlgjbfdojbmmgaaPG
set_option linter.unusedSimpArgs false
set_option linter.unusedVariables false
namespace Go.Proofs.Ytlgjbfdojbmmgaa
open Go.SX
def wd (x:Int):Prop:=0≤x∧x<4294967296
noncomputable def xo (a b:Int):Int:=bXor .u32 a b
theorem zmm (x y:Nat) (hx:x<4294967296) (hy:y<4294967296):xo (x:Int) (y:Int)=((x^^^y:Nat):Int):=by
 unfold xo bXor
 rw [show IntKind.bits .u32=32 from rfl]
 have h:(BitVec.ofInt 32 (x:Int)^^^BitVec.ofInt 32 (y:Int)).toNat=x^^^y:=by
  rw [show (BitVec.ofInt 32 (x:Int))=BitVec.ofNat 32 x from by rw [BitVec.ofInt_natCast],show (BitVec.ofInt 32 (y:Int))=BitVec.ofNat 32 y from by rw [BitVec.ofInt_natCast]]
  rw [BitVec.toNat_xor,BitVec.toNat_ofNat,BitVec.toNat_ofNat,Nat.mod_eq_of_lt (by simpa using hx),Nat.mod_eq_of_lt (by simpa using hy)]
 have hl:x^^^y<4294967296:=Nat.xor_lt_two_pow (n:=32) (by simpa using hx) (by simpa using hy)
 rw [h]
 unfold IntKind.wrap
 simp only [IntKind.signed,IntKind.bits,Bool.false_and,wA0,if_false]
 omega
theorem zgW {x:Int}(h:wd x):∃ n:Nat,x=(n:Int)∧n<4294967296:=⟨x.toNat,by have:=h.1;omega,by have:=h.1;have:=h.2;omega⟩
theorem ztR {a b:Int}(ha:wd a) (hb:wd b):wd (xo a b):=by
 obtain ⟨x,rfl,hx⟩:=zgW ha
 obtain ⟨y,rfl,hy⟩:=zgW hb
 rw [zmm x y hx hy]
 have hl:x^^^y<4294967296:=Nat.xor_lt_two_pow (n:=32) (by simpa using hx) (by simpa using hy)
 generalize x^^^y=z at hl
 exact ⟨by omega,by omega⟩
theorem zr5 {a b:Int}(ha:wd a) (hb:wd b):xo a b=xo b a:=by
 obtain ⟨x,rfl,hx⟩:=zgW ha
 obtain ⟨y,rfl,hy⟩:=zgW hb
 rw [zmm x y hx hy,zmm y x hy hx,Nat.xor_comm]
theorem ziK {a b c:Int}(ha:wd a) (hb:wd b) (hc:wd c):xo (xo a b) c=xo a (xo b c):=by
 obtain ⟨x,rfl,hx⟩:=zgW ha
 obtain ⟨y,rfl,hy⟩:=zgW hb
 obtain ⟨z,rfl,hz⟩:=zgW hc
 have h1:x^^^y<4294967296:=Nat.xor_lt_two_pow (n:=32) (by simpa using hx) (by simpa using hy)
 have h2:y^^^z<4294967296:=Nat.xor_lt_two_pow (n:=32) (by simpa using hy) (by simpa using hz)
 rw [zmm x y hx hy,zmm y z hy hz,zmm _ z h1 hz,zmm x _ hx h2,Nat.xor_assoc]
theorem zuB {a:Int}(ha:wd a):xo a a=0:=by
 obtain ⟨x,rfl,hx⟩:=zgW ha
 rw [zmm x x hx hx,Nat.xor_self]
 rfl
theorem zsq {a:Int}(ha:wd a):xo a 0=a:=by
 obtain ⟨x,rfl,hx⟩:=zgW ha
 have:=zmm x 0 hx (by omega)
 rw [Nat.xor_zero] at this
 exact this
theorem zuz {a:Int}(ha:wd a):xo 0 a=a:=by rw [zr5 ⟨by omega,by omega⟩ ha,zsq ha]
theorem wd0:wd 0:=⟨by omega,by omega⟩
def rowAt (rows:List (List Int)) (i:Nat):List Int:=(rows[i]?).getD []
def zaB (r:List Int) (at_:Nat):Int:=(r[at_]?).getD 0
def cell (rows:List (List Int)) (i at_:Nat):Int:=zaB (rowAt rows i) at_
def zhS (rows:List (List Int)):Prop:=∀ r∈rows,∀ x∈r,wd x
theorem zef {rows:List (List Int)}{i:Nat}(h:i<rows.length):rowAt rows i=rows[i]:=by unfold rowAt;rw [wF0 h];rfl
theorem zcw {r:List Int}{i:Nat}(h:i<r.length):zaB r i=r[i]:=by unfold zaB;rw [wF0 h];rfl
theorem zdo {rows:List (List Int)}{i:Nat}(h:i<rows.length):rowAt rows i∈rows:=by rw [zef h];exact List.getElem_mem h
theorem znW {r:List Int}(h:∀ x∈r,wd x) (i:Nat):wd (zaB r i):=by
 unfold zaB
 cases e:r[i]? with
 | none=>exact wd0
 | some x=>exact h x (List.mem_of_getElem? e)
theorem zht {rows:List (List Int)}(h:zhS rows) (i a:Nat):wd (cell rows i a):=by
 unfold cell rowAt
 refine znW ?_ a
 cases e:rows[i]? with
 | none=>intro x hx;cases hx
 | some r=>exact h r (List.mem_of_getElem? e)
theorem ze3 {rows:List (List Int)}{k i:Nat}(h:k≠i) (r:List Int):rowAt (rows.set k r) i=rowAt rows i:=by unfold rowAt;rw [List.getElem?_set_ne h]
theorem rowAt_set {rows:List (List Int)}{k:Nat}(h:k<rows.length) (r:List Int):rowAt (rows.set k r) k=r:=by unfold rowAt;rw [List.getElem?_set_self h];rfl
theorem zee {r:List Int}{k i:Nat}(h:k≠i) (x:Int):zaB (r.set k x) i=zaB r i:=by unfold zaB;rw [List.getElem?_set_ne h]
theorem zho {r:List Int}{k:Nat}(h:k<r.length) (x:Int):zaB (r.set k x) k=x:=by unfold zaB;rw [List.getElem?_set_self h];rfl
theorem zkP {rows:List (List Int)}(h:zhS rows) {k:Nat}{r:List Int}(hr:∀ x∈r,wd x):zhS (rows.set k r):=by
 intro q hq
 rcases List.mem_or_eq_of_mem_set hq with q1|q1
 ·exact h q q1
 ·rw [q1];exact hr
theorem zoG {r:List Int}(h:∀ x∈r,wd x) {k:Nat}{v:Int}(hv:wd v):∀ x∈r.set k v,wd x:=by
 intro x hx
 rcases List.mem_or_eq_of_mem_set hx with q1|q1
 ·exact h x q1
 ·rw [q1];exact hv
noncomputable def zbf (rows:List (List Int)) (a:Nat) (but:Int):Nat→Int
 | 0=>0
 | i + 1=>if (i:Int)=but then zbf rows a but i else xo (zbf rows a but i) (cell rows i a)
theorem ziL {rows:List (List Int)}(h:zhS rows) (a:Nat) (but:Int):∀ n,wd (zbf rows a but n)
 | 0=>wd0
 | n + 1=>by
  unfold zbf
  split
  ·exact ziL h a but n
  ·exact ztR (ziL h a but n) (zht h n a)
theorem zgl {rows rows':List (List Int)}{a:Nat}{but:Int}:∀ (n:Nat),(∀ (i:Nat),i<n→(i:Int)≠but→cell rows' i a=cell rows i a)→zbf rows' a but n=zbf rows a but n
 | 0,_=>rfl
 | n + 1,h=>by
  unfold zbf
  rw [zgl n fun i hi=>h i (by omega)]
  split
  ·rfl
  ·rw [h n (by omega) (by assumption)]
theorem znr {rows:List (List Int)}(h:zhS rows) {a k:Nat}:∀ n,zbf rows a (-1) n=if k<n then xo (zbf rows a (k:Int) n) (cell rows k a) else zbf rows a (k:Int) n
 | 0=>rfl
 | n + 1=>by
  have ih:=znr h (a:=a) (k:=k) n
  have c1:¬ ((n:Int)=-1):=by omega
  have e1:zbf rows a (-1) (n + 1)=xo (zbf rows a (-1) n) (cell rows n a):=by rw [zbf,if_neg c1]
  rw [e1,ih]
  by_cases hk:n=k
  ·subst hk
   rw [if_neg (by omega),if_pos (by omega)]
   have e2:zbf rows a (n:Int) (n + 1)=zbf rows a (n:Int) n:=by rw [zbf,if_pos rfl]
   rw [e2]
  ·have c2:¬ ((n:Int)=(k:Int)):=by omega
   have e2:zbf rows a (k:Int) (n + 1)=xo (zbf rows a (k:Int) n) (cell rows n a):=by rw [zbf,if_neg c2]
   rw [e2]
   have w1:=ziL h a (k:Int) n
   have w2:=zht h n a
   have w3:=zht h k a
   by_cases hlt:k<n
   ·rw [if_pos hlt,if_pos (by omega),ziK w1 w3 w2,zr5 w3 w2,ziK w1 w2 w3]
   ·rw [if_neg hlt,if_neg (by omega)]
theorem zji {rows:List (List Int)}(h:zhS rows) {a k n:Nat}(hk:k<n):zbf rows a (-1) n=xo (zbf rows a (k:Int) n) (cell rows k a):=by rw [znr h (k:=k),if_pos hk]
theorem zr2 {rows:List (List Int)}(h:zhS rows) {a k:Nat}{r:List Int}(hr:∀ x∈r,wd x) {n:Nat}(hk:k<n) (hl:k<rows.length):zbf (rows.set k r) a (-1) n=xo (zbf rows a (k:Int) n) (zaB r a):=by
 rw [zji (zkP h hr) hk]
 congr 1
 ·refine zgl n fun i hi hne=>?_
  unfold cell
  rw [ze3 (by omega)]
 ·unfold cell
  rw [rowAt_set hl]
noncomputable def tog (rows:List (List Int)) (words:Nat):List Int:=(List.range words).map fun a=>zbf rows a (-1) rows.length
end Go.Proofs.Ytlgjbfdojbmmgaa
