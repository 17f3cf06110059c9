/- What home does with a message, of systems made of functions. No condition. -/
import Derived.Test.YtlgjbfdojbmmgaaRA
set_option linter.unusedSimpArgs false
set_option linter.unusedVariables false
set_option maxRecDepth 100000
namespace Go.Proofs.Ytlgjbfdojbmmgaa
open Go.SX
def invM (l n k:Nat):Msg:=Msg.mk 4 0 ((k:Int) + 1) (l:Int) ((n:Int) + 1) 0 false 0 0
def zbU (Z:Nat→Bool) (l n:Nat):Nat→List Msg
 | 0=>[]
 | k + 1=>zbU Z l n k++if Z k=true∧k≠n then [invM l n k] else []
def nakM (n l:Nat):Msg:=Msg.mk 10 0 ((n:Int) + 1) (l:Int) 0 0 false 0 0
def pakM (n l:Nat):Msg:=Msg.mk 9 0 ((n:Int) + 1) (l:Int) 0 0 false 0 0
def datM (s n l a:Nat) (o k:Bool) (v:Int):Msg:=Msg.mk 3 (s:Int) ((n:Int) + 1) (l:Int) 0 (a:Int) o (if k=true then 1 else 0) v
def fwdM (o n l a:Nat) (w:Bool):Msg:=Msg.mk (if w=true then 7 else 6) 0 ((o:Int) + 1) (l:Int) ((n:Int) + 1) (a:Int) false 0 0
theorem mo (k f t l fo a:Int) (o:Bool) (nu v:Int) (hk:1≤k∧k≤11) (hf:0≤f∧f<256) (ht:0≤t∧t<256) (hl:0≤l∧l<256) (ho:0≤fo∧fo<256) (ha:0≤a∧a<256) (hn:U32 nu) (hv:U32 v):zc8 (Msg.mk k f t l fo a o nu v):=⟨hk,hf,ht,hl,ho,ha,hn,hv⟩
theorem u1:U32 1:=⟨by omega,by omega⟩
theorem zel {s n l a:Nat}(hs:s<9) (hn:n<4) (hl:l<16) (ha:a<9) (o k:Bool) {v:Int}(hv:U32 v):zc8 (datM s n l a o k v):=by
 unfold datM
 refine mo _ _ _ _ _ _ _ _ _ ?_ ?_ ?_ ?_ ?_ ?_ ?_ hv
 all_goals try omega
 split
 ·exact u1
 ·exact u0
theorem zkK {c l n:Nat}{Z:Nat→Bool}:∀ {k:Nat},k≤c→(za0 (ls c Z) (n:Int) k).map (fun x=>Msg.mk 4 0 (x + 1) (l:Int) ((n:Int) + 1) 0 false 0 0)=zbU Z l n k
 | 0,_=>rfl
 | k + 1,hk=>by
  have ih:=zkK (l:=l) (n:=n) (Z:=Z) (k:=k) (c:=c) (by omega)
  have e:(ls c Z)[k]?=some (Z k):=by rw [wF0 (by rw [zaU];omega),zg2]
  simp only [za0,zbU,e,wB0]
  by_cases q:Z k=true∧k≠n
  ·rw [if_pos ⟨q.1,by omega⟩,if_pos q,List.map_append,ih]
   rfl
  ·rw [if_neg (fun r=>q ⟨r.1,by omega⟩),if_neg q,ih,List.append_nil]
theorem zkX {Z:Nat→Bool}{l n:Nat}:∀ k,(zbU Z l n k).length≤k
 | 0=>wG0 _
 | k + 1=>by
  have:=zkX (Z:=Z) (l:=l) (n:=n) k
  simp only [zbU]
  split<;>simp only [wI0,List.length_cons,List.length_nil]<;>omega
theorem ztm {m:Msg}{l:Nat}{L:List Int}{r:List Msg}(hL:∀ x∈L,0≤x∧x<4) (hl:l<16) (hm:Msg.Line m=(l:Int)) (hf:0≤Msg.From m∧Msg.From m<256) (hr:r.length + L.length≤64) :
  zal (za4 m L (List.length L:Int)) ((0:Int),pl r)=some (pl (r++L.map (fun x=>Msg.mk 4 0 (x + 1) (l:Int) (Msg.From m) 0 false 0 0))):=by
 have lp:=zaX (f:=za4 m L (List.length L:Int)) (n:=L.length) (e:=pl (r++L.map (fun x=>Msg.mk 4 0 (x + 1) (l:Int) (Msg.From m) 0 false 0 0))) (fun i=>((i:Int),pl (r++(L.take i).map (fun x=>Msg.mk 4 0 (x + 1) (l:Int) (Msg.From m) 0 false 0 0)))) (fun i hi=>by
  have hx:=hL _ (List.getElem_mem hi)
  have sd:=zbI (ms:=r++(L.take i).map (fun x=>Msg.mk 4 0 (x + 1) (l:Int) (Msg.From m) 0 false 0 0)) (m:=Msg.mk 4 0 (L[i] + 1) (l:Int) (Msg.From m) 0 false 0 0) (mo _ _ _ _ _ _ _ _ _ (by omega) (by omega) (by omega) (by omega) (by omega) (by omega) u0 u0) (by rw [wI0,List.length_map,wE0];omega)
  unfold za4
  simp only [show (i:Int)<(List.length L:Int) by omega,decide_true,if_true,zbx hi,wC0,zaH (show i<4611686018427387904 by omega),zcq (n:=L[i] + 1) (by omega) (by omega),hm,sd]
  rw [zbn hi,List.map_append,List.append_assoc]
  rfl) (by
  unfold za4
  simp only [show ¬ (L.length:Int)<(List.length L:Int) by omega,decide_false,wA0,if_false,List.take_length])
 simp only [List.take_zero,List.map_nil,List.append_nil] at lp
 exact lp
section
variable {c h:Nat} {H O:Nat→Int} {Z:Nat→Nat→Bool} {B:Nat→Int} {r:List Msg} {n l:Nat} {m:Msg}
def dr (c:Nat) (O:Nat→Int) (Z:Nat→Nat→Bool) (l:Nat):Entry:=Entry.mk (O l) (ls c (Z l))
theorem zng:(Entry.Share (dr c O Z l)).length=c:=zaU
theorem zux (hl:l<h) (h16:h≤16) (hn:n<4) (hr:r.length<64) (hm:Msg.Line m=(l:Int)) (hf:Msg.From m=(n:Int) + 1) (hk:(Msg.Kind m=1∨Msg.Kind m=2)∧Msg.For m=Msg.From m∨Msg.Kind m=8) (hb:0<B l) :
  zgc (pl r) m (ls h H) (ls h (dr c O Z)) (ls h B)=some (pl (r++[nakM n l]),ls h H,ls h (dr c O Z),ls h B):=by
 have sd:=zbI (ms:=r) (m:=nakM n l) (mo _ _ _ _ _ _ _ _ _ (by omega) (by omega) (by omega) (by omega) (by omega) (by omega) u0 u0) hr
 unfold nakM at sd
 unfold zgc
 rcases hk with ⟨hk,hff⟩|hk
 ·have req:(bif decide (Msg.Kind m=1) then decide (Msg.Kind m=1) else decide (Msg.Kind m=2))=true:=by rcases hk with k|k<;>rw [k]<;>rfl
  simp only [req,if_true,hff,decide_true,wH0,wA0,if_false,hm,hf,zaQ hl,zat hl,hb,sd,wC0,za3]
  rfl
 ·simp only [hk,show decide ((8:Int)=1)=false from rfl,show decide ((8:Int)=2)=false from rfl,cond_false,wA0,if_false,decide_true,if_true,hm,hf,zaQ hl,zat hl,hb,sd,wC0,za3,zeD]
  rfl
theorem zua (hl:l<h) (hm:Msg.Line m=(l:Int)) (hk:Msg.Kind m=11) (hb:B l=Msg.From m) :
  zgc (pl r) m (ls h H) (ls h (dr c O Z)) (ls h B)=some (pl r,ls h H,ls h (dr c O Z),ls h (up B l 0)):=by
 unfold zgc
 simp only [hk,show decide ((11:Int)=1)=false from rfl,show decide ((11:Int)=2)=false from rfl,show decide ((11:Int)=8)=false from rfl,cond_false,wA0,if_false,decide_true,if_true,hm,hb,zaQ hl,zat hl,zaZ hl,wC0,za3,zeD]
theorem zvj (hl:l<h) (h16:h≤16) (c4:c≤4) (hn:n<c) (hr:r.length<64) (hm:Msg.Line m=(l:Int)) (hf:Msg.From m=(n:Int) + 1) (hk:Msg.Kind m=8) (hb:B l=0) (hy:mayB (dr c O Z l) (c:Int)=true) :
  zgc (pl r) m (ls h H) (ls h (dr c O Z)) (ls h B)=some (if O l=(n:Int) + 1 then (pl (r++[pakM n l]),ls h (up H l (Msg.Val m)),ls h (up (dr c O Z) l (Entry.mk 0 (ls c (Z l)))),ls h B) else (pl (r++[pakM n l]),ls h H,ls h (dr c O Z),ls h B)):=by
 have sd:=zbI (ms:=r) (m:=pakM n l) (mo _ _ _ _ _ _ _ _ _ (by omega) (by omega) (by omega) (by omega) (by omega) (by omega) u0 u0) hr
 unfold pakM at sd
 have hb2:=znv (dr c O Z l) (n:Int) (by rw [zng];omega)
 have hh:=zp2 hy (k:=(n:Int)) (by omega) (by omega)
 unfold zgc
 simp only [hk,show decide ((8:Int)=1)=false from rfl,show decide ((8:Int)=2)=false from rfl,cond_false,wA0,if_false,decide_true,if_true,hm,hf,zaQ hl,zat hl,hb,show decide ((0:Int)<0)=false from rfl,w2 (show n≤300 by omega),hb2,wC0]
 unfold zxd
 rw [if_pos hh]
 by_cases q:O l=(n:Int) + 1
 ·rw [if_pos q,if_pos (show Entry.Owner (dr c O Z l)=(n:Int) + 1 from q)]
  simp only [decide_true,if_true,zaZ hl,zaQ hl,wC0,sd,za3]
  rfl
 ·rw [if_neg q,if_neg (show ¬ Entry.Owner (dr c O Z l)=(n:Int) + 1 from q)]
  simp only [show decide ((7:Int)=0)=false from rfl,wA0,if_false,wC0,sd,za3]
  rfl
end
end Go.Proofs.Ytlgjbfdojbmmgaa
