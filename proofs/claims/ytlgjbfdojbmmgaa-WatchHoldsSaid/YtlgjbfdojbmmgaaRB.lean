/- What home does with a message, of systems made of functions. No condition. -/
import Derived.Test.YtlgjbfdojbmmgaaRA
set_option linter.unusedSimpArgs false
set_option linter.unusedVariables false
set_option maxRecDepth 100000
namespace Go.Proofs.Ytlgjbfdojbmmgaa
open Go.SX
def zAC (l n k:Nat):Msg:=Msg.mk 4 0 ((k:Int) + 1) (l:Int) ((n:Int) + 1) 0 false 0 0
def zbZ (Z:Nat→Bool) (l n:Nat):Nat→List Msg
 | 0=>[]
 | k + 1=>zbZ Z l n k++if Z k=true∧k≠n then [zAC l n k] else []
def zAs (n l:Nat):Msg:=Msg.mk 10 0 ((n:Int) + 1) (l:Int) 0 0 false 0 0
def zAk (n l:Nat):Msg:=Msg.mk 9 0 ((n:Int) + 1) (l:Int) 0 0 false 0 0
def zzU (s n l a:Nat) (o k:Bool) (v:Int):Msg:=Msg.mk 3 (s:Int) ((n:Int) + 1) (l:Int) 0 (a:Int) o (if k=true then 1 else 0) v
def zz8 (o n l a:Nat) (w:Bool):Msg:=Msg.mk (if w=true then 7 else 6) 0 ((o:Int) + 1) (l:Int) ((n:Int) + 1) (a:Int) false 0 0
theorem mo (k f t l fo a:Int) (o:Bool) (nu v:Int) (hk:1≤k∧k≤11) (hf:0≤f∧f<256) (ht:0≤t∧t<256) (hl:0≤l∧l<256) (ho:0≤fo∧fo<256) (ha:0≤a∧a<256) (hn:U32 nu) (hv:U32 v):zdo (Msg.mk k f t l fo a o nu v):=⟨hk,hf,ht,hl,ho,ha,hn,hv⟩
theorem u1:U32 1:=⟨by omega,by omega⟩
theorem zet {s n l a:Nat}(hs:s<9) (hn:n<4) (hl:l<16) (ha:a<9) (o k:Bool) {v:Int}(hv:U32 v):zdo (zzU s n l a o k v):=by
 unfold zzU
 refine mo _ _ _ _ _ _ _ _ _ ?_ ?_ ?_ ?_ ?_ ?_ ?_ hv
 all_goals try omega
 split
 ·exact u1
 ·exact u0
theorem zmO {c l n:Nat}{Z:Nat→Bool}:∀ {k:Nat},k≤c→(za5 (ls c Z) (n:Int) k).map (fun x=>Msg.mk 4 0 (x + 1) (l:Int) ((n:Int) + 1) 0 false 0 0)=zbZ Z l n k
 | 0,_=>rfl
 | k + 1,hk=>by
  have ih:=zmO (l:=l) (n:=n) (Z:=Z) (k:=k) (c:=c) (by omega)
  have e:(ls c Z)[k]?=some (Z k):=by rw [wF0 (by rw [za6];omega),zhq]
  simp only [za5,zbZ,e,wB0]
  by_cases q:Z k=true∧k≠n
  ·rw [if_pos ⟨q.1,by omega⟩,if_pos q,List.map_append,ih]
   rfl
  ·rw [if_neg (fun r=>q ⟨r.1,by omega⟩),if_neg q,ih,vN0]
theorem zlN {Z:Nat→Bool}{l n:Nat}:∀ k,(zbZ Z l n k).length≤k
 | 0=>wG0 _
 | k + 1=>by
  have:=zlN (Z:=Z) (l:=l) (n:=n) k
  simp only [zbZ]
  split<;>simp only [wI0,vX0,List.length_nil]<;>omega
theorem zu6 {m:Msg}{l:Nat}{L:List Int}{r:List Msg}(hL:∀ x∈L,0≤x∧x<4) (hl:l<16) (hm:Msg.Line m=(l:Int)) (hf:0≤Msg.From m∧Msg.From m<256) (hr:r.length + L.length≤64) :
  zae (za7 m L (List.length L:Int)) ((0:Int),pl r)=some (pl (r++L.map (fun x=>Msg.mk 4 0 (x + 1) (l:Int) (Msg.From m) 0 false 0 0))):=by
 have lp:=zaF (f:=za7 m L (List.length L:Int)) (n:=L.length) (e:=pl (r++L.map (fun x=>Msg.mk 4 0 (x + 1) (l:Int) (Msg.From m) 0 false 0 0))) (fun i=>((i:Int),pl (r++(L.take i).map (fun x=>Msg.mk 4 0 (x + 1) (l:Int) (Msg.From m) 0 false 0 0)))) (fun i hi=>by
  have hx:=hL _ (List.getElem_mem hi)
  have sd:=zbK (ms:=r++(L.take i).map (fun x=>Msg.mk 4 0 (x + 1) (l:Int) (Msg.From m) 0 false 0 0)) (m:=Msg.mk 4 0 (L[i] + 1) (l:Int) (Msg.From m) 0 false 0 0) (mo _ _ _ _ _ _ _ _ _ (by omega) (by omega) (by omega) (by omega) (by omega) (by omega) u0 u0) (by rw [wI0,List.length_map,wE0];omega)
  unfold za7
  simp only [show (i:Int)<(List.length L:Int) by omega,vE0,if_true,zbd hi,wC0,zaw (show i<4611686018427387904 by omega),zcu (n:=L[i] + 1) (by omega) (by omega),hm,sd]
  rw [zbq hi,List.map_append,vB0]
  rfl) (by
  unfold za7
  simp only [show ¬ (L.length:Int)<(List.length L:Int) by omega,vF0,wA0,if_false,List.take_length])
 simp only [List.take_zero,List.map_nil,vN0] at lp
 exact lp
section
variable {c h:Nat} {H O:Nat→Int} {Z:Nat→Nat→Bool} {B:Nat→Int} {r:List Msg} {n l:Nat} {m:Msg}
def dr (c:Nat) (O:Nat→Int) (Z:Nat→Nat→Bool) (l:Nat):Entry:=Entry.mk (O l) (ls c (Z l))
theorem znV:(Entry.Share (dr c O Z l)).length=c:=za6
theorem zvs (hl:l<h) (h16:h≤16) (hn:n<4) (hr:r.length<64) (hm:Msg.Line m=(l:Int)) (hf:Msg.From m=(n:Int) + 1) (hk:(Msg.Kind m=1∨Msg.Kind m=2)∧Msg.For m=Msg.From m∨Msg.Kind m=8) (hb:0<B l) :
  zgl (pl r) m (ls h H) (ls h (dr c O Z)) (ls h B)=some (pl (r++[zAs n l]),ls h H,ls h (dr c O Z),ls h B):=by
 have sd:=zbK (ms:=r) (m:=zAs n l) (mo _ _ _ _ _ _ _ _ _ (by omega) (by omega) (by omega) (by omega) (by omega) (by omega) u0 u0) hr
 unfold zAs at sd
 unfold zgl
 rcases hk with ⟨hk,hff⟩|hk
 ·have req:(bif decide (Msg.Kind m=1) then decide (Msg.Kind m=1) else decide (Msg.Kind m=2))=true:=by rcases hk with k|k<;>rw [k]<;>rfl
  simp only [req,if_true,hff,vE0,wH0,wA0,if_false,hm,hf,zaT hl,zar hl,hb,sd,wC0,zaG]
  rfl
 ·simp only [hk,show decide ((8:Int)=1)=false from rfl,show decide ((8:Int)=2)=false from rfl,cond_false,wA0,if_false,vE0,if_true,hm,hf,zaT hl,zar hl,hb,sd,wC0,zaG,ze1]
  rfl
theorem ztD (hl:l<h) (hm:Msg.Line m=(l:Int)) (hk:Msg.Kind m=11) (hb:B l=Msg.From m) :
  zgl (pl r) m (ls h H) (ls h (dr c O Z)) (ls h B)=some (pl r,ls h H,ls h (dr c O Z),ls h (up B l 0)):=by
 unfold zgl
 simp only [hk,show decide ((11:Int)=1)=false from rfl,show decide ((11:Int)=2)=false from rfl,show decide ((11:Int)=8)=false from rfl,cond_false,wA0,if_false,vE0,if_true,hm,hb,zaT hl,zar hl,za1 hl,wC0,zaG,ze1]
theorem zwp (hl:l<h) (h16:h≤16) (c4:c≤4) (hn:n<c) (hr:r.length<64) (hm:Msg.Line m=(l:Int)) (hf:Msg.From m=(n:Int) + 1) (hk:Msg.Kind m=8) (hb:B l=0) (hy:zz5 (dr c O Z l) (c:Int)=true) :
  zgl (pl r) m (ls h H) (ls h (dr c O Z)) (ls h B)=some (if O l=(n:Int) + 1 then (pl (r++[zAk n l]),ls h (up H l (Msg.Val m)),ls h (up (dr c O Z) l (Entry.mk 0 (ls c (Z l)))),ls h B) else (pl (r++[zAk n l]),ls h H,ls h (dr c O Z),ls h B)):=by
 have sd:=zbK (ms:=r) (m:=zAk n l) (mo _ _ _ _ _ _ _ _ _ (by omega) (by omega) (by omega) (by omega) (by omega) (by omega) u0 u0) hr
 unfold zAk at sd
 have hb2:=zoP (dr c O Z l) (n:Int) (by rw [znV];omega)
 have hh:=zrv hy (k:=(n:Int)) (by omega) (by omega)
 unfold zgl
 simp only [hk,show decide ((8:Int)=1)=false from rfl,show decide ((8:Int)=2)=false from rfl,cond_false,wA0,if_false,vE0,if_true,hm,hf,zaT hl,zar hl,hb,show decide ((0:Int)<0)=false from rfl,w2 (show n≤300 by omega),hb2,wC0]
 unfold zya
 rw [if_pos hh]
 by_cases q:O l=(n:Int) + 1
 ·rw [if_pos q,if_pos (show Entry.Owner (dr c O Z l)=(n:Int) + 1 from q)]
  simp only [vE0,if_true,za1 hl,zaT hl,wC0,sd,zaG]
  rfl
 ·rw [if_neg q,if_neg (show ¬ Entry.Owner (dr c O Z l)=(n:Int) + 1 from q)]
  simp only [show decide ((7:Int)=0)=false from rfl,wA0,if_false,wC0,sd,zaG]
  rfl
end
end Go.Proofs.Ytlgjbfdojbmmgaa
