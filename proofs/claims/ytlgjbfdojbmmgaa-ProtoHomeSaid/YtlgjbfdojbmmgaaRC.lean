/- What home does with a request, of systems made of functions. No condition. -/
import Derived.Test.YtlgjbfdojbmmgaaRB
set_option linter.unusedSimpArgs false
set_option linter.unusedVariables false
set_option maxRecDepth 100000
namespace Go.Proofs.Ytlgjbfdojbmmgaa
open Go.SX
theorem zrq {c n:Nat}(c1:1≤c) (c4:c≤4) (hn:n<c):zct (Entry.mk ((n:Int) + 1) (List.replicate c false))=some true:=by
 rw [zmc]
 unfold ztL
 have h1:mayB (Entry.mk ((n:Int) + 1) (List.replicate c false)) ((Entry.Share (Entry.mk ((n:Int) + 1) (List.replicate c false))).length:Int)=true:=by
  refine zkh.2 ⟨⟨?_,?_,rfl,?_,?_⟩,.inr ?_⟩
  ·show (1:Int)≤((List.replicate c false).length:Int)
   rw [List.length_replicate];omega
  ·show ((List.replicate c false).length:Int)≤4
   rw [List.length_replicate];omega
  ·show (0:Int)≤(n:Int) + 1
   omega
  ·show (n:Int) + 1≤((List.replicate c false).length:Int)
   rw [List.length_replicate];omega
  ·show (List.replicate c false)[((n:Int) + 1 - 1).toNat]?≠some true
   rw [List.getElem?_replicate]
   split<;>simp
 rw [h1]
 have h2:0<Entry.Owner (Entry.mk ((n:Int) + 1) (List.replicate c false)):=by show (0:Int)<(n:Int) + 1;omega
 have h3:true∉Entry.Share (Entry.mk ((n:Int) + 1) (List.replicate c false)):=by
  show true∉List.replicate c false
  simp
 simp only [h2,h3,not_false_eq_true,vE0,Bool.and_self]
theorem zrT {c:Nat}:List.replicate c false=ls c (fun _=>false):=by
 apply List.ext_getElem
 ·simp [ls]
 ·intro i h1 h2
  simp [ls]
section
variable {c h:Nat} {H O:Nat→Int} {Z:Nat→Nat→Bool} {B:Nat→Int} {r:List Msg} {n l:Nat} {m:Msg}
theorem zjC {Z:Nat→Bool}:∀ {k:Nat},k≤c→(∀ j,j≠n→Z j=false)→za0 (ls c Z) (n:Int) k=[]
 | 0,_,_=>rfl
 | k + 1,hk,h=>by
  have e:(ls c Z)[k]?=some (Z k):=by rw [wF0 (by rw [zaW];omega),zg0]
  simp only [za0,e,wB0]
  rw [if_neg (fun q=>by have:=h k (by omega);rw [this] at q;cases q.1),zjC (by omega) h]
theorem zuI (hl:l<h) (h16:h≤16) (c4:c≤4) (hn:n<c) (hr:r.length<64) (hm:Msg.Line m=(l:Int)) (hf:Msg.From m=(n:Int) + 1) (hk:Msg.Kind m=1) (hff:Msg.For m=Msg.From m) (hb:B l=0) (hy:mayB (dr c O Z l) (c:Int)=true) (hv:U32 (H l)) :
  (O l=0→(∀ k,k≠n→Z l k=false)→zfN (pl r) m (ls h H) (ls h (dr c O Z)) (ls h B)=some (pl (r++[datM 0 n l 0 true false (H l)]),ls h H,ls h (up (dr c O Z) l (Entry.mk ((n:Int) + 1) (ls c fun _=>false))),ls h (up B l ((n:Int) + 1)))) ∧
  (O l=0→(∃ k,k<c∧k≠n∧Z l k=true)→zfN (pl r) m (ls h H) (ls h (dr c O Z)) (ls h B)=some (pl (r++[datM 0 n l 0 false false (H l)]),ls h H,ls h (up (dr c O Z) l (Entry.mk 0 (ls c (up (Z l) n true)))),ls h (up B l ((n:Int) + 1)))) ∧
  (∀ o:Nat,o<c→o≠n→O l=(o:Int) + 1→zfN (pl r) m (ls h H) (ls h (dr c O Z)) (ls h B)=some (pl (r++[fwdM o n l 0 false]),ls h H,ls h (up (dr c O Z) l (Entry.mk ((o:Int) + 1) (ls c (up (Z l) n true)))),ls h (up B l ((n:Int) + 1)))):=by
 have hh:=zqb hy (k:=(n:Int)) (by omega) (by omega)
 have hrd:=znG (dr c O Z l) (n:Int) (by rw [zmK];omega)
 have lp:=zs2 (m:=m) (l:=l) (L:=[]) (r:=r) (fun x hx=>by cases hx) (by omega) hm (by omega) (by simp only [List.length_nil];omega)
 simp only [List.map_nil,vN0] at lp
 have set_eq:(Entry.Share (dr c O Z l)).set (n:Int).toNat true=ls c (up (Z l) n true):=by
  show (ls c (Z l)).set n true=_
  exact zws
 unfold zxs at hrd
 rw [if_pos hh,zmK] at hrd
 unfold zfN
 simp only [hk,vE0,cond_true,if_true,hff,wH0,wA0,if_false,hm,hf,zaU hl,zaq hl,zaY hl,hb,show decide ((0:Int)<0)=false from rfl,show decide ((1:Int)=2)=false from rfl,w2 (show n≤300 by omega),wC0]
 refine ⟨fun o0 hz=>?_,fun o0 hz=>?_,fun o ho hno o1=>?_⟩
 ·rw [if_pos ⟨o0,zjC (wG0 _) hz⟩] at hrd
  have sd:=zbN (ms:=r) (zep (s:=0) (n:=n) (l:=l) (a:=0) (by omega) (by omega) (by omega) (by omega) true false hv) hr
  unfold datM at sd
  simp only [hrd,wC0,lp,show Entry.Owner (Entry.mk ((n:Int) + 1) (List.replicate c false))=(n:Int) + 1 from rfl,vE0,if_true,zrq (show 1≤c by omega) c4 hn,zaY hl,zaq hl]
  simp only [wA0,if_false] at sd
  have sd':zaf (pl r) (Msg.mk 3 0 ((n:Int) + 1) (l:Int) 0 (List.length ([]:List Int):Int) true 0 (H l))=some (pl (r++[datM 0 n l 0 true false (H l)]),0):=sd
  simp only [sd',wC0,zaL,zrT]
 ·have hne:¬ (Entry.Owner (dr c O Z l)=0∧za0 (Entry.Share (dr c O Z l)) (n:Int) c=[]):=fun q=>by
   obtain ⟨k,k1,k2,k3⟩:=hz
   refine zhH q.2 k k1 (by omega) ?_
   show (ls c (Z l))[k]?=some true
   rw [wF0 (by rw [zaW];omega),zg0,k3]
  rw [if_neg hne,if_neg (show ¬ Entry.Owner (dr c O Z l)=(n:Int) + 1 from fun q=>by have q':O l=(n:Int) + 1:=q;omega),show Entry.Owner (dr c O Z l)=0 from o0,set_eq] at hrd
  have sd:=zbN (ms:=r) (zep (s:=0) (n:=n) (l:=l) (a:=0) (by omega) (by omega) (by omega) (by omega) false false hv) hr
  unfold datM at sd
  simp only [hrd,wC0,lp,show Entry.Owner (Entry.mk 0 (ls c (up (Z l) n true)))=0 from rfl,show ¬ (0:Int)=(n:Int) + 1 by omega,vF0,vE0,wA0,if_false,if_true,zaY hl,zaq hl]
  simp only [wA0,if_false] at sd
  have sd':zaf (pl r) (Msg.mk 3 0 ((n:Int) + 1) (l:Int) 0 (List.length ([]:List Int):Int) false 0 (H l))=some (pl (r++[datM 0 n l 0 false false (H l)]),0):=sd
  simp only [sd',wC0,zaL]
 ·rw [if_neg (show ¬ (Entry.Owner (dr c O Z l)=0∧_) from fun q=>by have:O l=0:=q.1;omega),if_neg (show ¬ Entry.Owner (dr c O Z l)=(n:Int) + 1 from fun q=>by have q':O l=(n:Int) + 1:=q;omega),show Entry.Owner (dr c O Z l)=(o:Int) + 1 from o1,set_eq] at hrd
  have sd:=zbN (ms:=r) (m:=fwdM o n l 0 false) (mo _ _ _ _ _ _ _ _ _ (by simp) (by omega) (by omega) (by omega) (by omega) (by omega) u0 u0) hr
  unfold fwdM at sd
  simp only [hrd,wC0,lp,show Entry.Owner (Entry.mk ((o:Int) + 1) (ls c (up (Z l) n true)))=(o:Int) + 1 from rfl,show ¬ (o:Int) + 1=(n:Int) + 1 by omega,show ¬ (o:Int) + 1=0 by omega,vF0,vE0,wA0,if_false,if_true,zaY hl,zaq hl]
  simp only [wA0,if_false] at sd
  have sd':zaf (pl r) (Msg.mk 6 0 ((o:Int) + 1) (l:Int) ((n:Int) + 1) (List.length ([]:List Int):Int) false 0 0)=some (pl (r++[fwdM o n l 0 false]),0):=sd
  simp only [sd',wC0,zaL]
theorem zsw (hl:l<h) (h16:h≤16) (c4:c≤4) (hn:n<c) (hr:r.length + c<64) (hm:Msg.Line m=(l:Int)) (hf:Msg.From m=(n:Int) + 1) (hk:Msg.Kind m=2) (hff:Msg.For m=Msg.From m) (hb:B l=0) (hy:mayB (dr c O Z l) (c:Int)=true) (hv:U32 (H l)) (o:Nat) (ho:o≤c) (hO:O l=(o:Int)) :
  zfN (pl r) m (ls h H) (ls h (dr c O Z)) (ls h B)=some (pl (r++zbZ (Z l) l n c++[if o=0 then datM 0 n l (zbZ (Z l) l n c).length true false (H l) else if o=n + 1 then datM 0 n l (zbZ (Z l) l n c).length true true 0 else fwdM (o - 1) n l (zbZ (Z l) l n c).length true]),ls h H,ls h (up (dr c O Z) l (Entry.mk ((n:Int) + 1) (ls c fun _=>false))),ls h (up B l ((n:Int) + 1))):=by
 have hh:=zqb hy (k:=(n:Int)) (by omega) (by omega)
 have hrd:=zmr (dr c O Z l) (n:Int) (by rw [zmK];omega)
 unfold zuH at hrd
 rw [if_pos hh,zmK,show Entry.Owner (dr c O Z l)=(o:Int) from hO] at hrd
 obtain ⟨L,hL⟩:∃ L,za0 (Entry.Share (dr c O Z l)) (n:Int) c=L:=⟨_,rfl⟩
 rw [hL] at hrd
 have hlen:=zhK (Entry.Share (dr c O Z l)) (n:Int) c
 have hin:L.map (fun x=>Msg.mk 4 0 (x + 1) (l:Int) (Msg.From m) 0 false 0 0)=zbZ (Z l) l n c:=by
  rw [← hL,hf]
  exact zk5 (wG0 _)
 have lp:=zs2 (m:=m) (l:=l) (L:=L) (r:=r) (fun x hx=>by rw [← hL] at hx;obtain ⟨j,e,hj,_⟩:=zhg hx;omega) (by omega) hm (by omega) (by rw [← hL];omega)
 rw [hin] at lp
 have hll:(List.length L:Int)=((zbZ (Z l) l n c).length:Int):=by rw [← hin,List.length_map]
 have hc4:=zl9 (Z:=Z l) (l:=l) (n:=n) c
 have hr2:(r++zbZ (Z l) l n c).length<64:=by rw [wI0];omega
 unfold zfN
 simp only [hk,show decide ((2:Int)=1)=false from rfl,vE0,cond_false,if_true,hff,wH0,wA0,if_false,hm,hf,zaU hl,zaq hl,zaY hl,hb,show decide ((0:Int)<0)=false from rfl,w2 (show n≤300 by omega),wC0,hrd,lp,show Entry.Owner (Entry.mk ((n:Int) + 1) (List.replicate c false))=(n:Int) + 1 from rfl,zrq (show 1≤c by omega) c4 hn]
 by_cases o0:o=0
 ·have sd:=zbN (zep (s:=0) (n:=n) (l:=l) (a:=(zbZ (Z l) l n c).length) (by omega) (by omega) (by omega) (by omega) true false hv) hr2
  unfold datM at sd
  simp only [wA0,if_false] at sd
  rw [if_pos o0]
  simp only [show (o:Int)=0 by omega,vE0,if_true,zaq hl,wC0,hll]
  rw [show Msg.mk (3:Int) 0 ((n:Int) + 1) (l:Int) 0 ((zbZ (Z l) l n c).length:Int) true 0 (H l)=Msg.mk 3 ((0:Nat):Int) ((n:Int) + 1) (l:Int) 0 ((zbZ (Z l) l n c).length:Int) true 0 (H l) from rfl,sd]
  simp only [wC0,zaL,zrT]
  rfl
 rw [if_neg o0]
 simp only [show ¬ (o:Int)=0 by omega,vF0,wA0,if_false]
 by_cases o1:o=n + 1
 ·have sd:=zbN (zep (s:=0) (n:=n) (l:=l) (a:=(zbZ (Z l) l n c).length) (by omega) (by omega) (by omega) (by omega) true true u0) hr2
  unfold datM at sd
  simp only [if_true] at sd
  rw [if_pos o1]
  simp only [show (o:Int)=(n:Int) + 1 by omega,vE0,if_true,wC0,hll]
  rw [show Msg.mk (3:Int) 0 ((n:Int) + 1) (l:Int) 0 ((zbZ (Z l) l n c).length:Int) true 1 0=Msg.mk 3 ((0:Nat):Int) ((n:Int) + 1) (l:Int) 0 ((zbZ (Z l) l n c).length:Int) true 1 0 from rfl,sd]
  simp only [wC0,zaL,zrT]
  rfl
 ·have sd:=zbN (ms:=r++zbZ (Z l) l n c) (m:=fwdM (o - 1) n l (zbZ (Z l) l n c).length true) (mo _ _ _ _ _ _ _ _ _ (by simp) (by omega) (by omega) (by omega) (by omega) (by omega) u0 u0) hr2
  unfold fwdM at sd
  simp only [if_true] at sd
  rw [if_neg o1]
  simp only [show ¬ (o:Int)=(n:Int) + 1 by omega,vF0,wA0,if_false,hll]
  rw [show ((o - 1:Nat):Int) + 1=(o:Int) by omega] at sd
  rw [sd]
  simp only [wC0,zaL,zrT]
  unfold fwdM
  rw [show ((o - 1:Nat):Int) + 1=(o:Int) by omega]
  rfl
end
end Go.Proofs.Ytlgjbfdojbmmgaa
