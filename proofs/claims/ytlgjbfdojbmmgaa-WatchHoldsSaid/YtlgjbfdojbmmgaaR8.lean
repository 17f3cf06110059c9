/- Systems made of functions: copies, what is right, Has, Get and Set. No condition. -/
import Derived.Test.YtlgjbfdojbmmgaaR7
set_option linter.unusedSimpArgs false
set_option linter.unusedVariables false
set_option maxRecDepth 100000
namespace Go.Proofs.Ytlgjbfdojbmmgaa
open Go.SX
theorem ps (st va:List (List Int)) (wa:List Wait) (ho:List Int) (di:List Entry) (bu:List Int) (po:Pool):Proto.State (Proto.mk st va wa ho di bu po)=st:=rfl
theorem pv (st va:List (List Int)) (wa:List Wait) (ho:List Int) (di:List Entry) (bu:List Int) (po:Pool):Proto.Val (Proto.mk st va wa ho di bu po)=va:=rfl
theorem pw (st va:List (List Int)) (wa:List Wait) (ho:List Int) (di:List Entry) (bu:List Int) (po:Pool):Proto.Wait (Proto.mk st va wa ho di bu po)=wa:=rfl
theorem ph (st va:List (List Int)) (wa:List Wait) (ho:List Int) (di:List Entry) (bu:List Int) (po:Pool):Proto.Home (Proto.mk st va wa ho di bu po)=ho:=rfl
theorem pd (st va:List (List Int)) (wa:List Wait) (ho:List Int) (di:List Entry) (bu:List Int) (po:Pool):Proto.Dir (Proto.mk st va wa ho di bu po)=di:=rfl
theorem pb (st va:List (List Int)) (wa:List Wait) (ho:List Int) (di:List Entry) (bu:List Int) (po:Pool):Proto.Busy (Proto.mk st va wa ho di bu po)=bu:=rfl
theorem pp (st va:List (List Int)) (wa:List Wait) (ho:List Int) (di:List Entry) (bu:List Int) (po:Pool):Proto.Pool (Proto.mk st va wa ho di bu po)=po:=rfl
theorem cp4 {c h:Nat}(hc:c≤4) (hh:h≤16) (f:Nat→Nat→Int):zae (zc6 (tb c h f) (List.length (tb c h f):Int)) ((0:Int),([]:List (List Int)))=some (tb c h f) :=
 zmH (b:=8) (fun _=>rfl) (by omega) (by unfold tb;rw [za6];omega) (fun r hr=>by obtain ⟨i,_,rfl⟩:=zrZ hr;rw [za6];omega)
theorem cp3 {c h:Nat}(hc:c≤4) (hh:h≤16) (f:Nat→Nat→Int):zae (zdi (tb c h f) (List.length (tb c h f):Int)) ((0:Int),([]:List (List Int)))=some (tb c h f) :=
 zmH (b:=4) (fun _=>rfl) (by omega) (by unfold tb;rw [za6];omega) (fun r hr=>by obtain ⟨i,_,rfl⟩:=zrZ hr;rw [za6];omega)
theorem cp1 {ms:List Msg}(hl:ms.length≤64):zae (zc9 (Pool.Frames (pl ms)) (List.length (Pool.Frames (pl ms)):Int)) ((0:Int),([]:List (List Int)))=some (Pool.Frames (pl ms)) :=
 zmH (b:=1) (fun _=>rfl) (by omega) (by rw [zep];omega) (fun r hr=>by obtain ⟨i,_,rfl⟩:=List.mem_map.1 hr;rw [zvj];omega)
theorem cp2 {c h:Nat}(hc:c≤4) (hh:h≤16) (o:Nat→Int) (s:Nat→Nat→Bool):zae (zdf (ls h fun l=>Entry.mk (o l) (ls c (s l))) (List.length (ls h fun l=>Entry.mk (o l) (ls c (s l))):Int)) ((0:Int),([]:List Entry))=some (ls h fun l=>Entry.mk (o l) (ls c (s l))) :=
 zuA (fun _=>rfl) (by rw [za6];omega) (fun r hr=>by obtain ⟨i,_,rfl⟩:=zrZ hr;show (ls c (s i)).length≤1000;rw [za6];omega)
theorem cl {α:Type}{n b:Nat}(hn:n≤16) (hb:b≤10000) (f:Nat→α):zat b (ls n f)=some (ls n f):=zdj (by rw [za6];omega) hb
theorem e4:zhu=zc6:=rfl
theorem e3:zhv=zdi:=rfl
theorem e2:zhC=zdf:=rfl
theorem e1:zhp=zc9:=rfl
theorem d5:zdl=zc6:=rfl
theorem d4:zds=zdi:=rfl
theorem d3:zdk=zdf:=rfl
theorem d2:zdn=zc9:=rfl
def mkP (c h:Nat) (S V:Nat→Nat→Int) (W:Nat→Wait) (H O:Nat→Int) (Z:Nat→Nat→Bool) (B:Nat→Int) (ms:List Msg):Proto :=
 Proto.mk (tb c h S) (tb c h V) (ls c W) (ls h H) (ls h fun l=>Entry.mk (O l) (ls c (Z l))) (ls h B) (pl ms)
structure Fit (c h:Nat) (S:Nat→Nat→Int) (W:Nat→Wait) (O:Nat→Int) (Z:Nat→Nat→Bool) (B:Nat→Int) (ms:List Msg):Prop where
 c1:1≤c
 c4:c≤4
 h1:1≤h
 h16:h≤16
 st:∀ n l,n<c→l<h→0≤S n l∧S n l≤4
 wt:∀ n,n<c→zmB h (W n)=true
 dm:∀ l,l<h→0≤O l∧O l≤(c:Int)∧∀ n:Nat,O l=(n:Int) + 1→Z l n=false
 bb:∀ l,l<h→0≤B l∧B l≤(c:Int)
 ln:ms.length≤64
theorem zur {α:Type}{c h:Nat}{f:Nat→Nat→α}:(tb c h f).length=c:=za6
theorem zyB {α:Type}{c h i:Nat}{f:Nat→Nat→α}(hi:i<(tb c h f).length):(tb c h f)[i]=ls h (f i):=zhq hi
theorem zjr {c h:Nat}{S V:Nat→Nat→Int}{W:Nat→Wait}{H O:Nat→Int}{Z:Nat→Nat→Bool}{B:Nat→Int}{ms:List Msg}(F:Fit c h S W O Z B ms):za4 (mkP c h S V W H O Z B ms)=some true:=by
 obtain ⟨c1,c4,h1,h16,hst,hwt,hdm,hbb,hln⟩:=F
 have hs:zu0 (mkP c h S V W H O Z B ms):=by
  unfold mkP
  refine ⟨?_,?_,?_,?_,?_⟩<;>simp only [ps,pv,pw,ph,pp,zur,za6,zep]<;>omega
 rw [zmY hs]
 refine congrArg some (zwn ?_)
 unfold mkP
 refine ⟨?_,?_,?_,?_,?_,?_,?_,?_,?_,?_,?_,?_,?_,?_,?_⟩<;>simp only [ps,pv,pw,ph,pd,pb,pp,zur,za6,zyB,zhq]
 all_goals try omega
 ·exact fun _ _=>trivial
 ·exact fun _ _=>trivial
 ·exact ziV hln
 ·intro n hn
  rw [List.all_eq_true]
  intro x hx
  obtain ⟨i,hi,rfl⟩:=zrZ hx
  have:=hst n i hn hi
  unfold stB
  simp only [wD0,vG0]
  exact this
 ·intro l hl
  obtain ⟨q1,q2,q3⟩:=hdm l hl
  refine zk5.2 ⟨⟨by omega,by omega,?_,q1,q2⟩,?_⟩
  ·show ((ls c (Z l)).length:Int)=c
   rw [za6]
  ·show O l=0∨_
   by_cases q:O l=0
   ·exact .inl q
   ·right
    obtain ⟨k,hk⟩:∃ k:Nat,O l=(k:Int) + 1:=⟨(O l - 1).toNat,by omega⟩
    show (ls c (Z l))[(O l - 1).toNat]?≠some true
    have h2:(O l - 1).toNat=k:=by omega
    rw [h2,wF0 (by rw [za6];omega),zhq,q3 k hk]
    decide
end Go.Proofs.Ytlgjbfdojbmmgaa
