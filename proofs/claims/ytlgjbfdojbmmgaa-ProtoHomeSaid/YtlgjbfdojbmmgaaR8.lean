/- Systems made of functions: copies, what is right, Has, Get and Set. No condition. -/
import Derived.Test.YtlgjbfdojbmmgaaR7
set_option linter.unusedSimpArgs false
set_option linter.unusedVariables false
set_option maxRecDepth 100000
namespace Go.Proofs.Ytlgjbfdojbmmgaa
open Go.SX
theorem ps (st va:List (List Int)) (wa:List Wait) (ho:List Int) (di:List Entry) (bu:List Int) (po:Pool):Proto.State (Proto.mk st va wa ho di bu po)=st:=rfl
theorem pv (st va:List (List Int)) (wa:List Wait) (ho:List Int) (di:List Entry) (bu:List Int) (po:Pool):Proto.Val (Proto.mk st va wa ho di bu po)=va:=rfl
theorem pw (st va:List (List Int)) (wa:List Wait) (ho:List Int) (di:List Entry) (bu:List Int) (po:Pool):Proto.Wait (Proto.mk st va wa ho di bu po)=wa:=rfl
theorem ph (st va:List (List Int)) (wa:List Wait) (ho:List Int) (di:List Entry) (bu:List Int) (po:Pool):Proto.Home (Proto.mk st va wa ho di bu po)=ho:=rfl
theorem pd (st va:List (List Int)) (wa:List Wait) (ho:List Int) (di:List Entry) (bu:List Int) (po:Pool):Proto.Dir (Proto.mk st va wa ho di bu po)=di:=rfl
theorem pb (st va:List (List Int)) (wa:List Wait) (ho:List Int) (di:List Entry) (bu:List Int) (po:Pool):Proto.Busy (Proto.mk st va wa ho di bu po)=bu:=rfl
theorem pp (st va:List (List Int)) (wa:List Wait) (ho:List Int) (di:List Entry) (bu:List Int) (po:Pool):Proto.Pool (Proto.mk st va wa ho di bu po)=po:=rfl
theorem cp4 {c h:Nat}(hc:c≤4) (hh:h≤16) (f:Nat→Nat→Int):zaj (zc1 (tb c h f) (List.length (tb c h f):Int)) ((0:Int),([]:List (List Int)))=some (tb c h f) :=
 zll (b:=8) (fun _=>rfl) (by omega) (by unfold tb;rw [zaW];omega) (fun r hr=>by obtain ⟨i,_,rfl⟩:=zrP hr;rw [zaW];omega)
theorem cp3 {c h:Nat}(hc:c≤4) (hh:h≤16) (f:Nat→Nat→Int):zaj (zda (tb c h f) (List.length (tb c h f):Int)) ((0:Int),([]:List (List Int)))=some (tb c h f) :=
 zll (b:=4) (fun _=>rfl) (by omega) (by unfold tb;rw [zaW];omega) (fun r hr=>by obtain ⟨i,_,rfl⟩:=zrP hr;rw [zaW];omega)
theorem cp1 {ms:List Msg}(hl:ms.length≤64):zaj (zcV (Pool.Frames (pl ms)) (List.length (Pool.Frames (pl ms)):Int)) ((0:Int),([]:List (List Int)))=some (Pool.Frames (pl ms)) :=
 zll (b:=1) (fun _=>rfl) (by omega) (by rw [zfF];omega) (fun r hr=>by obtain ⟨i,_,rfl⟩:=List.mem_map.1 hr;rw [ztB];omega)
theorem cp2 {c h:Nat}(hc:c≤4) (hh:h≤16) (o:Nat→Int) (s:Nat→Nat→Bool):zaj (zc3 (ls h fun l=>Entry.mk (o l) (ls c (s l))) (List.length (ls h fun l=>Entry.mk (o l) (ls c (s l))):Int)) ((0:Int),([]:List Entry))=some (ls h fun l=>Entry.mk (o l) (ls c (s l))) :=
 ztK (fun _=>rfl) (by rw [zaW];omega) (fun r hr=>by obtain ⟨i,_,rfl⟩:=zrP hr;show (ls c (s i)).length≤1000;rw [zaW];omega)
theorem cl {α:Type}{n b:Nat}(hn:n≤16) (hb:b≤10000) (f:Nat→α):zat b (ls n f)=some (ls n f):=zc2 (by rw [zaW];omega) hb
theorem e4:zg2=zc1:=rfl
theorem e3:zg7=zda:=rfl
theorem e2:zgV=zc3:=rfl
theorem e1:zg6=zcV:=rfl
theorem d5:zdb=zc1:=rfl
theorem d4:zde=zda:=rfl
theorem d3:zdm=zc3:=rfl
theorem d2:zdk=zcV:=rfl
def mkP (c h:Nat) (S V:Nat→Nat→Int) (W:Nat→Wait) (H O:Nat→Int) (Z:Nat→Nat→Bool) (B:Nat→Int) (ms:List Msg):Proto :=
 Proto.mk (tb c h S) (tb c h V) (ls c W) (ls h H) (ls h fun l=>Entry.mk (O l) (ls c (Z l))) (ls h B) (pl ms)
structure Fit (c h:Nat) (S:Nat→Nat→Int) (W:Nat→Wait) (O:Nat→Int) (Z:Nat→Nat→Bool) (B:Nat→Int) (ms:List Msg):Prop where
 c1:1≤c
 c4:c≤4
 h1:1≤h
 h16:h≤16
 st:∀ n l,n<c→l<h→0≤S n l∧S n l≤4
 wt:∀ n,n<c→zkQ h (W n)=true
 dm:∀ l,l<h→0≤O l∧O l≤(c:Int)∧∀ n:Nat,O l=(n:Int) + 1→Z l n=false
 bb:∀ l,l<h→0≤B l∧B l≤(c:Int)
 ln:ms.length≤64
theorem zor {α:Type}{c h:Nat}{f:Nat→Nat→α}:(tb c h f).length=c:=zaW
theorem zxQ {α:Type}{c h i:Nat}{f:Nat→Nat→α}(hi:i<(tb c h f).length):(tb c h f)[i]=ls h (f i):=zg0 hi
theorem zlt {c h:Nat}{S V:Nat→Nat→Int}{W:Nat→Wait}{H O:Nat→Int}{Z:Nat→Nat→Bool}{B:Nat→Int}{ms:List Msg}(F:Fit c h S W O Z B ms):zb5 (mkP c h S V W H O Z B ms)=some true:=by
 obtain ⟨c1,c4,h1,h16,hst,hwt,hdm,hbb,hln⟩:=F
 have hs:zuh (mkP c h S V W H O Z B ms):=by
  unfold mkP
  refine ⟨?_,?_,?_,?_,?_⟩<;>simp only [ps,pv,pw,ph,pp,zor,zaW,zfF]<;>omega
 rw [zmn hs]
 refine congrArg some (zvS ?_)
 unfold mkP
 refine ⟨?_,?_,?_,?_,?_,?_,?_,?_,?_,?_,?_,?_,?_,?_,?_⟩<;>simp only [ps,pv,pw,ph,pd,pb,pp,zor,zaW,zxQ,zg0]
 all_goals try omega
 ·exact fun _ _=>trivial
 ·exact fun _ _=>trivial
 ·exact ziE hln
 ·intro n hn
  rw [List.all_eq_true]
  intro x hx
  obtain ⟨i,hi,rfl⟩:=zrP hx
  have:=hst n i hn hi
  unfold stB
  simp only [wD0,vG0]
  exact this
 ·intro l hl
  obtain ⟨q1,q2,q3⟩:=hdm l hl
  refine zkh.2 ⟨⟨by omega,by omega,?_,q1,q2⟩,?_⟩
  ·show ((ls c (Z l)).length:Int)=c
   rw [zaW]
  ·show O l=0∨_
   by_cases q:O l=0
   ·exact .inl q
   ·right
    obtain ⟨k,hk⟩:∃ k:Nat,O l=(k:Int) + 1:=⟨(O l - 1).toNat,by omega⟩
    show (ls c (Z l))[(O l - 1).toNat]?≠some true
    have h2:(O l - 1).toNat=k:=by omega
    rw [h2,wF0 (by rw [zaW];omega),zg0,q3 k hk]
    decide
end Go.Proofs.Ytlgjbfdojbmmgaa
