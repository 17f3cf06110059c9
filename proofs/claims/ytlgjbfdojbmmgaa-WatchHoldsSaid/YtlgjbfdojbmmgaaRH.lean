/- Deliveries at home and at cores, as changes of one line: the frame of it. No condition. -/
import Derived.Test.YtlgjbfdojbmmgaaRG
set_option linter.unusedSimpArgs false
set_option linter.unusedVariables false
set_option maxRecDepth 100000
namespace Go.Proofs.Ytlgjbfdojbmmgaa
open Go.SX
theorem zaK {β:Type}(p:AL→β) {A:Nat→AL}{l:Nat}{B:AL}(h:p B=p (A l)) (j:Nat):p (A j)=p (up A l B j):=by
 unfold up
 split
 ·rename_i q;rw [q,h]
 ·rfl
theorem zmD {β:Type}(p:AL→β) {A:Nat→AL}{l:Nat}{B:AL}{y:β}(h:p B=y) (j:Nat):up (fun l=>p (A l)) l y j=p (up A l B j):=by
 unfold up
 split
 ·exact h.symm
 ·rfl
theorem zwX {β:Type}(p:AL→Nat→β) {A:Nat→AL}{l n:Nat}{B:AL}{y:β}(h:∀ i,p B i=up (p (A l)) n y i) (i j:Nat):up2 (fun n l=>p (A l) n) n l y i j=p (up A l B j) i:=by
 have hi:=h i
 unfold up2 up at *
 by_cases q:j=l
 ·subst q
  rw [if_pos rfl,hi]
  split
  ·exact if_pos rfl
  ·rfl
 ·rw [if_neg q]
  split
  ·rename_i r;subst r;exact if_neg q
  ·rfl
section
variable {c h:Nat} {A:Nat→AL} {W:Nat→Wait} {ms:List Msg} {v:Nat→Int}
theorem zlT (K:Ok c h A W ms v) {k l:Nat}(hk:k<ms.length) (hr:ms.length + c≤64) (hl:l<h) {m:Msg}(em:ms[k]=m) {n:Nat}(hn:n<c) (hm:Msg.Line m=(l:Int)) (ht:Msg.To m=(n:Int) + 1) (hf:Msg.From m≤(c:Int)) (ho:Msg.For m≤(c:Int))
  {S' V':Nat→Nat→Int} {W':Nat→Wait} {new:List Msg} {B:AL}
  (hc:zey (pl (ms.eraseIdx k)) m (tb c h fun n l=>((A l).st n:Int)) (tb c h fun n l=>(A l).va n) (ls c W) (n:Int)=some (pl (ms.eraseIdx k++new),tb c h S',tb c h V',ls c W'))
  (hs:∀ i j,S' i j=((up A l B j).st i:Int)) (hv:∀ i j,V' i j=(up A l B j).va i) (h1:B.ho=(A l).ho) (h2:B.ow=(A l).ow) (h3:B.sh=(A l).sh) (h4:B.bu=(A l).bu) :
  zax (pr c h A W ms) (k:Int)=some (pr c h (up A l B) W' (ms.eraseIdx k++new),0):=by
 have d:=((zfU (V:=fun n l=>(A l).va n) (H:=fun l=>(A l).ho) K.fit K.mo hk m em).2 hr l n hl hn hm hf ho).1 ht _ _ _ _ hc
 refine d.trans (congrArg (fun x=>some (x,(0:Int))) ?_)
 refine zs7 (fun i j _ _=>hs i j) (fun i j _ _=>hv i j) (fun j _=>zaK (fun A=>A.ho) h1 j) (fun j _=>?_) (fun j _=>?_)
 ·exact zaK (fun A=>Entry.mk (A.ow:Int) (ls c A.sh)) (by show Entry.mk (B.ow:Int) (ls c B.sh)=_;rw [h2,h3]) j
 ·exact zaK (fun A=>(A.bu:Int)) (by show (B.bu:Int)=_;rw [h4]) j
theorem zqF (K:Ok c h A W ms v) {k l:Nat}(hk:k<ms.length) (hr:ms.length + c≤64) (hl:l<h) {m:Msg}(em:ms[k]=m) {n:Nat}(hn:n<c) (hm:Msg.Line m=(l:Int)) (ht:Msg.To m=0) (hf:Msg.From m=(n:Int) + 1) (ho:Msg.For m≤(c:Int))
  {H' Bu:Nat→Int} {D:Nat→Entry} {new:List Msg} {B:AL}
  (hc:zgl (pl (ms.eraseIdx k)) m (ls h fun l=>(A l).ho) (ls h (dr c (fun l=>((A l).ow:Int)) fun l=>(A l).sh)) (ls h fun l=>((A l).bu:Int))=some (pl (ms.eraseIdx k++new),ls h H',ls h D,ls h Bu))
  (hs:B.st=(A l).st) (hv:B.va=(A l).va) (h1:∀ j,H' j=(up A l B j).ho) (h2:∀ j,D j=Entry.mk ((up A l B j).ow:Int) (ls c (up A l B j).sh)) (h3:∀ j,Bu j=((up A l B j).bu:Int)) :
  zax (pr c h A W ms) (k:Int)=some (pr c h (up A l B) W (ms.eraseIdx k++new),0):=by
 have d:=((zfU (V:=fun n l=>(A l).va n) (H:=fun l=>(A l).ho) K.fit K.mo hk m em).2 hr l n hl hn hm (by omega) ho).2 ht hf _ _ _ _ hc
 refine d.trans (congrArg (fun x=>some (x,(0:Int))) ?_)
 refine zs7 (fun i j _ _=>?_) (fun i j _ _=>?_) (fun j _=>h1 j) (fun j _=>h2 j) (fun j _=>h3 j)
 ·exact congrFun (zaK (fun A i=>(A.st i:Int)) (by show (fun i=>(B.st i:Int))=_;rw [hs]) j) i
 ·exact congrFun (zaK (fun A i=>A.va i) (by show (fun i=>B.va i)=_;rw [hv]) j) i
def zAL (m:Msg):Prop:=Msg.Kind m=1∨Msg.Kind m=2∨Msg.Kind m=8
def Step (c h:Nat) (A:Nat→AL) (W:Nat→Wait) (ms:List Msg) (v:Nat→Int) (k:Nat) (m:Msg):Prop :=
 ∃ l B W' new,l<h∧Ev c (A l) B∧zax (pr c h A W ms) (k:Int)=some (pr c h (up A l B) W' (ms.eraseIdx k++new),0)∧Ok c h (up A l B) W' (ms.eraseIdx k++new) v ∧
  (phi B<phi (A l)∨phi B=phi (A l)∧∃ y,new=[y]∧(zAL m∧(A l).bu≠0∧Msg.Kind y=10∨Msg.Kind m=10∧zAL y))
theorem Ok.may (K:Ok c h A W ms v) {l:Nat}(hl:l<h):zz5 (dr c (fun l=>((A l).ow:Int)) (fun l=>(A l).sh) l) (c:Int)=true:=by
 have i:=(K.lv l hl).iv
 have:=i.bz
 have:=K.c1
 have:=K.c4
 refine zk5.2 ⟨⟨by omega,by omega,?_,?_,?_⟩,?_⟩
 ·rw [znV]
 ·show (0:Int)≤((A l).ow:Int);omega
 ·show ((A l).ow:Int)≤(c:Int);omega
 ·show ((A l).ow:Int)=0∨(ls c (A l).sh)[(((A l).ow:Int) - 1).toNat]?≠some true
  by_cases q:(A l).ow=0
  ·exact .inl (by omega)
  ·right
   rw [show (((A l).ow:Int) - 1).toNat=(A l).ow - 1 by omega,wF0 (by rw [za6];omega),zhq,i.so ((A l).ow - 1) (by omega)]
   decide
end
theorem zqy {A B:AL}{l n:Nat}(hn:n<4) (h1:∀ k,k≠n→tkS B l k=tkS A l k) (h2:phS B l=phS A l) (h3:∀ k,pdS B l k=pdS A l k) (x:Msg):cA B l x + io (tkS A l n) x=cA A l x + io (tkS B l n) x:=by
 have:=ztA (f:=fun k=>io (tkS A l k) x) (g:=fun k=>io (tkS B l k) x) hn fun k q=>by rw [h1 k q]
 have e:s4 (fun k=>io (pdS B l k) x)=s4 (fun k=>io (pdS A l k) x):=zui fun k _=>by rw [h3]
 unfold cA
 rw [h2,e]
 omega
theorem zt6 {A B:AL}{l:Nat}(h1:∀ k,tkS B l k=tkS A l k) (h3:∀ k,pdS B l k=pdS A l k) (x:Msg):cA B l x + io (phS A l) x=cA A l x + io (phS B l) x:=by
 have e1:s4 (fun k=>io (tkS B l k) x)=s4 (fun k=>io (tkS A l k) x):=zui fun k _=>by rw [h1]
 have e:s4 (fun k=>io (pdS B l k) x)=s4 (fun k=>io (pdS A l k) x):=zui fun k _=>by rw [h3]
 unfold cA
 rw [e1,e]
 omega
theorem zxv {A B:AL}{l n:Nat}(hn:n<4) (h1:∀ k,tkS B l k=tkS A l k) (h3:∀ k,k≠n→pdS B l k=pdS A l k) (x:Msg):cA B l x + io (pdS A l n) x + io (phS A l) x=cA A l x + io (pdS B l n) x + io (phS B l) x:=by
 have:=ztA (f:=fun k=>io (pdS A l k) x) (g:=fun k=>io (pdS B l k) x) hn fun k q=>by rw [h3 k q]
 have e1:s4 (fun k=>io (tkS B l k) x)=s4 (fun k=>io (tkS A l k) x):=zui fun k _=>by rw [h1]
 unfold cA
 rw [e1]
 omega
theorem zvG {A B:AL}{l n:Nat}(hn:n<4) (h1:∀ k,k≠n→tkS B l k=tkS A l k) (h2:tkS B l n=none) (h3:phS A l=none) (h4:∀ k,pdS A l k=none) (x:Msg):cA B l x + io (tkS A l n) x=cA A l x + io (phS B l) x + s4 (fun k=>io (pdS B l k) x):=by
 have:=ztA (f:=fun k=>io (tkS A l k) x) (g:=fun k=>io (tkS B l k) x) hn fun k q=>by rw [h1 k q]
 have e:s4 (fun k=>io (pdS A l k) x)=0:=by unfold s4;simp only [h4];rfl
 rw [h2,zmj] at this
 unfold cA
 rw [e,h3,zmj]
 omega
theorem zbL {α:Type}{f:Nat→α}{n k:Nat}{x:α}(h:k≠n):up f n x k=f k:=if_neg h
end Go.Proofs.Ytlgjbfdojbmmgaa
