/- What home does with a request, of systems made of functions. No condition. -/
import Derived.Test.YtlgjbfdojbmmgaaRB
set_option linter.unusedSimpArgs false
set_option linter.unusedVariables false
set_option maxRecDepth 100000
namespace Go.Proofs.Ytlgjbfdojbmmgaa
open Go.SX
theorem zrV {c n:Nat}(c1:1≤c) (c4:c≤4) (hn:n<c):zcJ (Entry.mk ((n:Int) + 1) (List.replicate c false))=some true:=by
 rw [zm2]
 unfold zvu
 have h1:zz5 (Entry.mk ((n:Int) + 1) (List.replicate c false)) ((Entry.Share (Entry.mk ((n:Int) + 1) (List.replicate c false))).length:Int)=true:=by
  refine zk5.2 ⟨⟨?_,?_,rfl,?_,?_⟩,.inr ?_⟩
  ·show (1:Int)≤((List.replicate c false).length:Int)
   rw [List.length_replicate];omega
  ·show ((List.replicate c false).length:Int)≤4
   rw [List.length_replicate];omega
  ·show (0:Int)≤(n:Int) + 1
   omega
  ·show (n:Int) + 1≤((List.replicate c false).length:Int)
   rw [List.length_replicate];omega
  ·show (List.replicate c false)[((n:Int) + 1 - 1).toNat]?≠some true
   rw [List.getElem?_replicate]
   split<;>simp
 rw [h1]
 have h2:0<Entry.Owner (Entry.mk ((n:Int) + 1) (List.replicate c false)):=by show (0:Int)<(n:Int) + 1;omega
 have h3:true∉Entry.Share (Entry.mk ((n:Int) + 1) (List.replicate c false)):=by
  show true∉List.replicate c false
  simp
 simp only [h2,h3,not_false_eq_true,vE0,Bool.and_self]
theorem zsy {c:Nat}:List.replicate c false=ls c (fun _=>false):=by
 apply List.ext_getElem
 ·simp [ls]
 ·intro i h1 h2
  simp [ls]
section
variable {c h:Nat} {H O:Nat→Int} {Z:Nat→Nat→Bool} {B:Nat→Int} {r:List Msg} {n l:Nat} {m:Msg}
theorem zko {Z:Nat→Bool}:∀ {k:Nat},k≤c→(∀ j,j≠n→Z j=false)→za5 (ls c Z) (n:Int) k=[]
 | 0,_,_=>rfl
 | k + 1,hk,h=>by
  have e:(ls c Z)[k]?=some (Z k):=by rw [wF0 (by rw [za6];omega),zhq]
  simp only [za5,e,wB0]
  rw [if_neg (fun q=>by have:=h k (by omega);rw [this] at q;cases q.1),zko (by omega) h]
theorem zuw (hl:l<h) (h16:h≤16) (c4:c≤4) (hn:n<c) (hr:r.length<64) (hm:Msg.Line m=(l:Int)) (hf:Msg.From m=(n:Int) + 1) (hk:Msg.Kind m=1) (hff:Msg.For m=Msg.From m) (hb:B l=0) (hy:zz5 (dr c O Z l) (c:Int)=true) (hv:U32 (H l)) :
  (O l=0→(∀ k,k≠n→Z l k=false)→zgl (pl r) m (ls h H) (ls h (dr c O Z)) (ls h B)=some (pl (r++[zzU 0 n l 0 true false (H l)]),ls h H,ls h (up (dr c O Z) l (Entry.mk ((n:Int) + 1) (ls c fun _=>false))),ls h (up B l ((n:Int) + 1)))) ∧
  (O l=0→(∃ k,k<c∧k≠n∧Z l k=true)→zgl (pl r) m (ls h H) (ls h (dr c O Z)) (ls h B)=some (pl (r++[zzU 0 n l 0 false false (H l)]),ls h H,ls h (up (dr c O Z) l (Entry.mk 0 (ls c (up (Z l) n true)))),ls h (up B l ((n:Int) + 1)))) ∧
  (∀ o:Nat,o<c→o≠n→O l=(o:Int) + 1→zgl (pl r) m (ls h H) (ls h (dr c O Z)) (ls h B)=some (pl (r++[zz8 o n l 0 false]),ls h H,ls h (up (dr c O Z) l (Entry.mk ((o:Int) + 1) (ls c (up (Z l) n true)))),ls h (up B l ((n:Int) + 1)))):=by
 have hh:=zrv hy (k:=(n:Int)) (by omega) (by omega)
 have hrd:=zo1 (dr c O Z l) (n:Int) (by rw [znV];omega)
 have lp:=zu6 (m:=m) (l:=l) (L:=[]) (r:=r) (fun x hx=>by cases hx) (by omega) hm (by omega) (by simp only [List.length_nil];omega)
 simp only [List.map_nil,vN0] at lp
 have set_eq:(Entry.Share (dr c O Z l)).set (n:Int).toNat true=ls c (up (Z l) n true):=by
  show (ls c (Z l)).set n true=_
  exact zw6
 unfold zxV at hrd
 rw [if_pos hh,znV] at hrd
 unfold zgl
 simp only [hk,vE0,cond_true,if_true,hff,wH0,wA0,if_false,hm,hf,zaT hl,zar hl,za1 hl,hb,show decide ((0:Int)<0)=false from rfl,show decide ((1:Int)=2)=false from rfl,w2 (show n≤300 by omega),wC0]
 refine ⟨fun o0 hz=>?_,fun o0 hz=>?_,fun o ho hno o1=>?_⟩
 ·rw [if_pos ⟨o0,zko (wG0 _) hz⟩] at hrd
  have sd:=zbK (ms:=r) (zet (s:=0) (n:=n) (l:=l) (a:=0) (by omega) (by omega) (by omega) (by omega) true false hv) hr
  unfold zzU at sd
  simp only [hrd,wC0,lp,show Entry.Owner (Entry.mk ((n:Int) + 1) (List.replicate c false))=(n:Int) + 1 from rfl,vE0,if_true,zrV (show 1≤c by omega) c4 hn,za1 hl,zar hl]
  simp only [wA0,if_false] at sd
  have sd':zaf (pl r) (Msg.mk 3 0 ((n:Int) + 1) (l:Int) 0 (List.length ([]:List Int):Int) true 0 (H l))=some (pl (r++[zzU 0 n l 0 true false (H l)]),0):=sd
  simp only [sd',wC0,zaG,zsy]
 ·have hne:¬ (Entry.Owner (dr c O Z l)=0∧za5 (Entry.Share (dr c O Z l)) (n:Int) c=[]):=fun q=>by
   obtain ⟨k,k1,k2,k3⟩:=hz
   refine ziv q.2 k k1 (by omega) ?_
   show (ls c (Z l))[k]?=some true
   rw [wF0 (by rw [za6];omega),zhq,k3]
  rw [if_neg hne,if_neg (show ¬ Entry.Owner (dr c O Z l)=(n:Int) + 1 from fun q=>by have q':O l=(n:Int) + 1:=q;omega),show Entry.Owner (dr c O Z l)=0 from o0,set_eq] at hrd
  have sd:=zbK (ms:=r) (zet (s:=0) (n:=n) (l:=l) (a:=0) (by omega) (by omega) (by omega) (by omega) false false hv) hr
  unfold zzU at sd
  simp only [hrd,wC0,lp,show Entry.Owner (Entry.mk 0 (ls c (up (Z l) n true)))=0 from rfl,show ¬ (0:Int)=(n:Int) + 1 by omega,vF0,vE0,wA0,if_false,if_true,za1 hl,zar hl]
  simp only [wA0,if_false] at sd
  have sd':zaf (pl r) (Msg.mk 3 0 ((n:Int) + 1) (l:Int) 0 (List.length ([]:List Int):Int) false 0 (H l))=some (pl (r++[zzU 0 n l 0 false false (H l)]),0):=sd
  simp only [sd',wC0,zaG]
 ·rw [if_neg (show ¬ (Entry.Owner (dr c O Z l)=0∧_) from fun q=>by have:O l=0:=q.1;omega),if_neg (show ¬ Entry.Owner (dr c O Z l)=(n:Int) + 1 from fun q=>by have q':O l=(n:Int) + 1:=q;omega),show Entry.Owner (dr c O Z l)=(o:Int) + 1 from o1,set_eq] at hrd
  have sd:=zbK (ms:=r) (m:=zz8 o n l 0 false) (mo _ _ _ _ _ _ _ _ _ (by simp) (by omega) (by omega) (by omega) (by omega) (by omega) u0 u0) hr
  unfold zz8 at sd
  simp only [hrd,wC0,lp,show Entry.Owner (Entry.mk ((o:Int) + 1) (ls c (up (Z l) n true)))=(o:Int) + 1 from rfl,show ¬ (o:Int) + 1=(n:Int) + 1 by omega,show ¬ (o:Int) + 1=0 by omega,vF0,vE0,wA0,if_false,if_true,za1 hl,zar hl]
  simp only [wA0,if_false] at sd
  have sd':zaf (pl r) (Msg.mk 6 0 ((o:Int) + 1) (l:Int) ((n:Int) + 1) (List.length ([]:List Int):Int) false 0 0)=some (pl (r++[zz8 o n l 0 false]),0):=sd
  simp only [sd',wC0,zaG]
theorem zta (hl:l<h) (h16:h≤16) (c4:c≤4) (hn:n<c) (hr:r.length + c<64) (hm:Msg.Line m=(l:Int)) (hf:Msg.From m=(n:Int) + 1) (hk:Msg.Kind m=2) (hff:Msg.For m=Msg.From m) (hb:B l=0) (hy:zz5 (dr c O Z l) (c:Int)=true) (hv:U32 (H l)) (o:Nat) (ho:o≤c) (hO:O l=(o:Int)) :
  zgl (pl r) m (ls h H) (ls h (dr c O Z)) (ls h B)=some (pl (r++zbZ (Z l) l n c++[if o=0 then zzU 0 n l (zbZ (Z l) l n c).length true false (H l) else if o=n + 1 then zzU 0 n l (zbZ (Z l) l n c).length true true 0 else zz8 (o - 1) n l (zbZ (Z l) l n c).length true]),ls h H,ls h (up (dr c O Z) l (Entry.mk ((n:Int) + 1) (ls c fun _=>false))),ls h (up B l ((n:Int) + 1))):=by
 have hh:=zrv hy (k:=(n:Int)) (by omega) (by omega)
 have hrd:=znd (dr c O Z l) (n:Int) (by rw [znV];omega)
 unfold zuZ at hrd
 rw [if_pos hh,znV,show Entry.Owner (dr c O Z l)=(o:Int) from hO] at hrd
 obtain ⟨L,hL⟩:∃ L,za5 (Entry.Share (dr c O Z l)) (n:Int) c=L:=⟨_,rfl⟩
 rw [hL] at hrd
 have hlen:=ziE (Entry.Share (dr c O Z l)) (n:Int) c
 have hin:L.map (fun x=>Msg.mk 4 0 (x + 1) (l:Int) (Msg.From m) 0 false 0 0)=zbZ (Z l) l n c:=by
  rw [← hL,hf]
  exact zmO (wG0 _)
 have lp:=zu6 (m:=m) (l:=l) (L:=L) (r:=r) (fun x hx=>by rw [← hL] at hx;obtain ⟨j,e,hj,_⟩:=zh7 hx;omega) (by omega) hm (by omega) (by rw [← hL];omega)
 rw [hin] at lp
 have hll:(List.length L:Int)=((zbZ (Z l) l n c).length:Int):=by rw [← hin,List.length_map]
 have hc4:=zlN (Z:=Z l) (l:=l) (n:=n) c
 have hr2:(r++zbZ (Z l) l n c).length<64:=by rw [wI0];omega
 unfold zgl
 simp only [hk,show decide ((2:Int)=1)=false from rfl,vE0,cond_false,if_true,hff,wH0,wA0,if_false,hm,hf,zaT hl,zar hl,za1 hl,hb,show decide ((0:Int)<0)=false from rfl,w2 (show n≤300 by omega),wC0,hrd,lp,show Entry.Owner (Entry.mk ((n:Int) + 1) (List.replicate c false))=(n:Int) + 1 from rfl,zrV (show 1≤c by omega) c4 hn]
 by_cases o0:o=0
 ·have sd:=zbK (zet (s:=0) (n:=n) (l:=l) (a:=(zbZ (Z l) l n c).length) (by omega) (by omega) (by omega) (by omega) true false hv) hr2
  unfold zzU at sd
  simp only [wA0,if_false] at sd
  rw [if_pos o0]
  simp only [show (o:Int)=0 by omega,vE0,if_true,zar hl,wC0,hll]
  rw [show Msg.mk (3:Int) 0 ((n:Int) + 1) (l:Int) 0 ((zbZ (Z l) l n c).length:Int) true 0 (H l)=Msg.mk 3 ((0:Nat):Int) ((n:Int) + 1) (l:Int) 0 ((zbZ (Z l) l n c).length:Int) true 0 (H l) from rfl,sd]
  simp only [wC0,zaG,zsy]
  rfl
 rw [if_neg o0]
 simp only [show ¬ (o:Int)=0 by omega,vF0,wA0,if_false]
 by_cases o1:o=n + 1
 ·have sd:=zbK (zet (s:=0) (n:=n) (l:=l) (a:=(zbZ (Z l) l n c).length) (by omega) (by omega) (by omega) (by omega) true true u0) hr2
  unfold zzU at sd
  simp only [if_true] at sd
  rw [if_pos o1]
  simp only [show (o:Int)=(n:Int) + 1 by omega,vE0,if_true,wC0,hll]
  rw [show Msg.mk (3:Int) 0 ((n:Int) + 1) (l:Int) 0 ((zbZ (Z l) l n c).length:Int) true 1 0=Msg.mk 3 ((0:Nat):Int) ((n:Int) + 1) (l:Int) 0 ((zbZ (Z l) l n c).length:Int) true 1 0 from rfl,sd]
  simp only [wC0,zaG,zsy]
  rfl
 ·have sd:=zbK (ms:=r++zbZ (Z l) l n c) (m:=zz8 (o - 1) n l (zbZ (Z l) l n c).length true) (mo _ _ _ _ _ _ _ _ _ (by simp) (by omega) (by omega) (by omega) (by omega) (by omega) u0 u0) hr2
  unfold zz8 at sd
  simp only [if_true] at sd
  rw [if_neg o1]
  simp only [show ¬ (o:Int)=(n:Int) + 1 by omega,vF0,wA0,if_false,hll]
  rw [show ((o - 1:Nat):Int) + 1=(o:Int) by omega] at sd
  rw [sd]
  simp only [wC0,zaG,zsy]
  unfold zz8
  rw [show ((o - 1:Nat):Int) + 1=(o:Int) by omega]
  rfl
end
end Go.Proofs.Ytlgjbfdojbmmgaa
