/- The types of this cut, and its functions as functions of plain typed data. Printed by a program of this claim's prover; each is checked here to be what the executor makes of the code. -/
import Derived.Test.YtlgjbfdojbmmgaaProg
import Derived.Test.YtlgjbfdojbmmgaaLim
import Derived.KernelRfl
set_option linter.unusedVariables false
set_option maxRecDepth 100000
noncomputable section
namespace Go.Proofs.Ytlgjbfdojbmmgaa
open Go.SX
abbrev zgl:List Ty:=[.int .i64,.int .i64]
abbrev zaQ:Ty:=.st zgl
abbrev store_key:Type:=Int×Int
def store_key.mk (span:Int) (at_:Int):store_key:=(span,at_)
def store_key.span (x:store_key):Int:=x.1
def store_key.at_ (x:store_key):Int:=x.2
@[simp] theorem store_key.span_mk (span:Int) (at_:Int):store_key.span (store_key.mk span at_)=span:=rfl
@[simp] theorem store_key.at__mk (span:Int) (at_:Int):store_key.at_ (store_key.mk span at_)=at_:=rfl
@[simp] theorem store_key.eta (x:store_key):store_key.mk (store_key.span x) (store_key.at_ x)=x:=rfl
abbrev zfc:List Ty:=[.int .i64,.int .i64,.bool,.int .u8]
abbrev zcN:Ty:=.st zfc
abbrev zvi:List Ty:=[.int .i64,.bool,.bool,.bool,.bool,.bool,.int .i64,.int .i64,.int .u32]
abbrev ztV:Ty:=.st zvi
abbrev zr6:List Ty:=[.int .i64,.int .i64,.int .u32]
abbrev zbs:Ty:=.st zr6
abbrev Undo:Type:=Int×Int×Int
def Undo.mk (Span:Int) (At:Int) (Val:Int):Undo:=(Span,At,Val)
def Undo.Span (x:Undo):Int:=x.1
def Undo.At (x:Undo):Int:=x.2.1
def Undo.Val (x:Undo):Int:=x.2.2
@[simp] theorem Undo.Span_mk (Span:Int) (At:Int) (Val:Int):Undo.Span (Undo.mk Span At Val)=Span:=rfl
@[simp] theorem Undo.At_mk (Span:Int) (At:Int) (Val:Int):Undo.At (Undo.mk Span At Val)=At:=rfl
@[simp] theorem Undo.Val_mk (Span:Int) (At:Int) (Val:Int):Undo.Val (Undo.mk Span At Val)=Val:=rfl
@[simp] theorem Undo.eta (x:Undo):Undo.mk (Undo.Span x) (Undo.At x) (Undo.Val x)=x:=rfl
abbrev zcR:List Ty:=[.str,.int .u64]
abbrev zbl:Ty:=.st zcR
abbrev zvC:List Ty:=[.int .i64,.int .i64,.int .i64,.int .i64,.int .i64,.int .i64,.bool,.int .u32,.int .u32]
abbrev tMsg:Ty:=.st zvC
abbrev zsh:List Ty:=[.int .u8,.int .u8,.int .u8,.int .u8,.bool,.int .u32]
abbrev zlM:Ty:=.st zsh
abbrev ztQ:List Ty:=[.int .u8,.int .u8,.int .u8,.int .u32]
abbrev zfg:Ty:=.st ztQ
abbrev l14_Do:Type:=Int×Int×Int×Int
def l14_Do.mk (Kind:Int) (At:Int) (To:Int) (Val:Int):l14_Do:=(Kind,At,To,Val)
def l14_Do.Kind (x:l14_Do):Int:=x.1
def l14_Do.At (x:l14_Do):Int:=x.2.1
def l14_Do.To (x:l14_Do):Int:=x.2.2.1
def l14_Do.Val (x:l14_Do):Int:=x.2.2.2
@[simp] theorem l14_Do.Kind_mk (Kind:Int) (At:Int) (To:Int) (Val:Int):l14_Do.Kind (l14_Do.mk Kind At To Val)=Kind:=rfl
@[simp] theorem l14_Do.At_mk (Kind:Int) (At:Int) (To:Int) (Val:Int):l14_Do.At (l14_Do.mk Kind At To Val)=At:=rfl
@[simp] theorem l14_Do.To_mk (Kind:Int) (At:Int) (To:Int) (Val:Int):l14_Do.To (l14_Do.mk Kind At To Val)=To:=rfl
@[simp] theorem l14_Do.Val_mk (Kind:Int) (At:Int) (To:Int) (Val:Int):l14_Do.Val (l14_Do.mk Kind At To Val)=Val:=rfl
@[simp] theorem l14_Do.eta (x:l14_Do):l14_Do.mk (l14_Do.Kind x) (l14_Do.At x) (l14_Do.To x) (l14_Do.Val x)=x:=rfl
abbrev zuI:List Ty:=[.int .i64,.sl .bool]
abbrev zqE:Ty:=.st zuI
abbrev za9:List Ty:=[.sl (.sl (.int .u32)),.sl (.int .u32),.int .i64]
abbrev zas:Ty:=.st za9
abbrev Banks:Type:=(List (List Int))×(List Int)×Int
def Banks.mk (Rows:List (List Int)) (Par:List Int) (Lost:Int):Banks:=(Rows,Par,Lost)
def Banks.Rows (x:Banks):List (List Int):=x.1
def Banks.Par (x:Banks):List Int:=x.2.1
def Banks.Lost (x:Banks):Int:=x.2.2
def Banks.setLost (x:Banks) (v:Int):Banks:=(x.1,x.2.1,v)
@[simp] theorem Banks.Rows_mk (Rows:List (List Int)) (Par:List Int) (Lost:Int):Banks.Rows (Banks.mk Rows Par Lost)=Rows:=rfl
@[simp] theorem Banks.Par_mk (Rows:List (List Int)) (Par:List Int) (Lost:Int):Banks.Par (Banks.mk Rows Par Lost)=Par:=rfl
@[simp] theorem Banks.Lost_mk (Rows:List (List Int)) (Par:List Int) (Lost:Int):Banks.Lost (Banks.mk Rows Par Lost)=Lost:=rfl
@[simp] theorem Banks.setLost_eq (x:Banks) (v:Int):Banks.setLost x v=Banks.mk (Banks.Rows x) (Banks.Par x) v:=rfl
@[simp] theorem Banks.eta (x:Banks):Banks.mk (Banks.Rows x) (Banks.Par x) (Banks.Lost x)=x:=rfl
abbrev zvj:List Ty:=[.sl (.sl (.int .u8))]
abbrev zuX:Ty:=.st zvj
abbrev zjK:List Ty:=[.sl (.int .u32),.int .i64,.sl zbs]
abbrev tLog:Ty:=.st zjK
abbrev Log:Type:=(List Int)×Int×(List Ytlgjbfdojbmmgaa.Undo)
def Log.mk (Mem:List Int) (Span:Int) (Lst:List Ytlgjbfdojbmmgaa.Undo):Log:=(Mem,Span,Lst)
def Log.Mem (x:Log):List Int:=x.1
def Log.Span (x:Log):Int:=x.2.1
def Log.Lst (x:Log):List Ytlgjbfdojbmmgaa.Undo:=x.2.2
@[simp] theorem Log.Mem_mk (Mem:List Int) (Span:Int) (Lst:List Ytlgjbfdojbmmgaa.Undo):Log.Mem (Log.mk Mem Span Lst)=Mem:=rfl
@[simp] theorem Log.Span_mk (Mem:List Int) (Span:Int) (Lst:List Ytlgjbfdojbmmgaa.Undo):Log.Span (Log.mk Mem Span Lst)=Span:=rfl
@[simp] theorem Log.Lst_mk (Mem:List Int) (Span:Int) (Lst:List Ytlgjbfdojbmmgaa.Undo):Log.Lst (Log.mk Mem Span Lst)=Lst:=rfl
@[simp] theorem Log.eta (x:Log):Log.mk (Log.Mem x) (Log.Span x) (Log.Lst x)=x:=rfl
abbrev zbM:List Ty:=[zas,.int .i64,.int .i64,.sl zbs]
abbrev zay:Ty:=.st zbM
abbrev Vault:Type:=Ytlgjbfdojbmmgaa.Banks×Int×Int×(List Ytlgjbfdojbmmgaa.Undo)
def Vault.mk (Banks:Ytlgjbfdojbmmgaa.Banks) (Words:Int) (Span:Int) (Lst:List Ytlgjbfdojbmmgaa.Undo):Vault:=(Banks,Words,Span,Lst)
def Vault.Banks (x:Vault):Ytlgjbfdojbmmgaa.Banks:=x.1
def Vault.Words (x:Vault):Int:=x.2.1
def Vault.Span (x:Vault):Int:=x.2.2.1
def Vault.Lst (x:Vault):List Ytlgjbfdojbmmgaa.Undo:=x.2.2.2
def Vault.setBanks (x:Vault) (v:Ytlgjbfdojbmmgaa.Banks):Vault:=(v,x.2.1,x.2.2.1,x.2.2.2)
def Vault.setSpan (x:Vault) (v:Int):Vault:=(x.1,x.2.1,v,x.2.2.2)
def Vault.setLst (x:Vault) (v:List Ytlgjbfdojbmmgaa.Undo):Vault:=(x.1,x.2.1,x.2.2.1,v)
@[simp] theorem Vault.Banks_mk (Banks:Ytlgjbfdojbmmgaa.Banks) (Words:Int) (Span:Int) (Lst:List Ytlgjbfdojbmmgaa.Undo):Vault.Banks (Vault.mk Banks Words Span Lst)=Banks:=rfl
@[simp] theorem Vault.Words_mk (Banks:Ytlgjbfdojbmmgaa.Banks) (Words:Int) (Span:Int) (Lst:List Ytlgjbfdojbmmgaa.Undo):Vault.Words (Vault.mk Banks Words Span Lst)=Words:=rfl
@[simp] theorem Vault.Span_mk (Banks:Ytlgjbfdojbmmgaa.Banks) (Words:Int) (Span:Int) (Lst:List Ytlgjbfdojbmmgaa.Undo):Vault.Span (Vault.mk Banks Words Span Lst)=Span:=rfl
@[simp] theorem Vault.Lst_mk (Banks:Ytlgjbfdojbmmgaa.Banks) (Words:Int) (Span:Int) (Lst:List Ytlgjbfdojbmmgaa.Undo):Vault.Lst (Vault.mk Banks Words Span Lst)=Lst:=rfl
@[simp] theorem Vault.setBanks_eq (x:Vault) (v:Ytlgjbfdojbmmgaa.Banks):Vault.setBanks x v=Vault.mk v (Vault.Words x) (Vault.Span x) (Vault.Lst x):=rfl
@[simp] theorem Vault.setSpan_eq (x:Vault) (v:Int):Vault.setSpan x v=Vault.mk (Vault.Banks x) (Vault.Words x) v (Vault.Lst x):=rfl
@[simp] theorem Vault.setLst_eq (x:Vault) (v:List Ytlgjbfdojbmmgaa.Undo):Vault.setLst x v=Vault.mk (Vault.Banks x) (Vault.Words x) (Vault.Span x) v:=rfl
@[simp] theorem Vault.eta (x:Vault):Vault.mk (Vault.Banks x) (Vault.Words x) (Vault.Span x) (Vault.Lst x)=x:=rfl
abbrev zuJ:List Ty:=[.sl (.sl (.int .i64)),.sl (.sl (.int .u32)),.sl ztV,.sl (.int .u32),.sl zqE,.sl (.int .i64),zuX]
abbrev zr8:Ty:=.st zuJ
abbrev zkn:List Ty:=[zr8]
abbrev zgM:Ty:=.st zkn
def tys:List Ty:=[.no,.no,.int .i64,.int .i64,.bool,.int .u8,.int .u8,zcN,zcN,.str,.str,.str,.int .u64,zbl,zbl,.no,.no,.no,.no,.no,.no,.int .i32,.sl (.sl (.int .u32)),.sl (.int .u32),zas,zas,.sl zbs,zay,zay,.int .u32,.no,.no,.int .i64,.no,.no,.no,.no,.no,.no,.no,.no,.no,.no,.no,.no,.no,.no,.no,.no,.no,.no,.no,.no,.no,.sl zfg,zfg,zfg,.no,tLog,tLog,.no,.no,.no,.no,.no,zbs,zbs,.sl zlM,.sl (.sl (.int .i64)),.sl ztV,.sl zqE,.sl (.int .i64),.sl (.sl (.int .u8)),zuX,zuX,zr8,zr8,.no,.no,.no,zlM,zlM,.no,.no,.no,.no,.no,.no,.no,.no,.sl .bool,zqE,zqE,.no,.no,.no,.no,.no,.no,.no,.no,.no,.no,.no,.no,.no,.no,.no,.no,.no,.no,.no,.no,.no,.no,.no,.no,.no,.no,.no,.no,.no,.no,.no,.no,.no,.no,.no,.no,.no,.no,.no,.no,ztV,ztV,.no,.no,zgM,zgM,.no,.no,.no,.no,tMsg,tMsg,.no,.no,.no,.no,.no,.no,.no,.no,.no,.no,.no,.no,.no,.no,.no,.no,.no,.no,.no,.no,zaQ,zaQ,.no,.no,.arr 2 (.int .i64),.no,.no,.no,.no,.no,.no,.no,.no,.no,.no,.no,.no,.sl (.int .u8),.no,.no,.no,.no,.no,.no,.no,.no,.no,.no,.no,.no,.no,.no,.no,.no,.no,.no,.no,.no,.no,.no,.no,.no,.no,.no,.no,.no,.no,.no,.no,.no,.no,.no,.arr 4 (.int .u8),.int .u64,.no,.no,.no,.no,.no,.no,.no,.no,.no,.no,.no,.no,.no,.no,.int .u8,.int .u8,.no,.no,.int .i32,.int .i32,.no,.no,.no]
def cx:Cx:={ P:=Try.prog,ty:=tys,own:=[],inl:=[53,63,68,84,92,107,108,113,120,126,127,128,129,130,131,153,156,157,166,174,175,178,180,183],keepL:=[],absL:=[53,68,84,92,119,120,126,127,131,156,162,166,173],lendL:=[79],freshL:=[119],owL:=[],bk:=[(113,26,66)],heads:=[(4,[(16,44994265250476060289876272997433921580968488052958731056455108,⟨20,0,zbV 207 0 [(2,.d (.sl zfg) (.v 2)),(6,.d .bool (.c (.bool false))),(7,.d (.int .i64) (.v 7)),(8,.p zay zay 0 []),(10,.h (.sl (.int .u32)) 1 none),(11,.d (.int .i64) (.v 16)),(12,.d (.int .i64) (.v 17))],[.box zay (.d zay (.v 18)),.row (.sl (.int .u32)) (.v 19)]⟩)]),
 (5,[(16,2905741800979855680013847846498343564944659715524,⟨19,0,zbV 182 0 [(2,.d (.sl zfg) (.v 2)),(6,.d .bool (.c (.bool false))),(7,.d (.int .i64) (.v 7)),(8,.p zay zay 0 []),(10,.p tLog tLog 1 []),(12,.d (.int .i64) (.v 16))],[.box zay (.d zay (.v 17)),.box tLog (.d tLog (.v 18))]⟩),
 (30,2905741800979855680013847846498343564944660026820,⟨31,0,zbV 182 0 [(2,.d (.sl zfg) (.v 2)),(6,.d .bool (.c (.bool false))),(7,.d (.int .i64) (.v 7)),(8,.p zay zay 0 []),(10,.p tLog tLog 1 []),(12,.d (.int .i64) (.v 16)),(14,.p zay zay 2 []),(15,.p tLog tLog 3 []),(18,.d (.int .i64) (.v 30))],[.box zay (.d zay (.v 17)),.box tLog (.d tLog (.v 18)),.box zay (.d zay (.v 27)),.box tLog (.d tLog (.v 28))]⟩)]),
 (33,[(3,60,⟨4,0,zbV 96 0 [(2,.p zas zas 0 []),(3,.p zas zas 1 []),(4,.d .bool (.c (.bool false))),(5,.d (.int .i64) (.v 3))],[.box zas (.d zas (.v 0)),.box zas (.d zas (.v 1))]⟩),
 (3,92,⟨4,0,zbV 96 0 [(2,.p zas zas 0 []),(3,.p zas zas 1 []),(4,.d .bool (.c (.bool false))),(6,.d (.int .i64) (.v 3))],[.box zas (.d zas (.v 0)),.box zas (.d zas (.v 1))]⟩),
 (14,220,⟨15,0,zbV 96 0 [(2,.p zas zas 0 []),(3,.p zas zas 1 []),(4,.d .bool (.c (.bool false))),(6,.d (.int .i64) (.v 3)),(7,.d (.int .i64) (.v 14))],[.box zas (.d zas (.v 0)),.box zas (.d zas (.v 1))]⟩)]),
 (64,[(5,14983475960261640694,⟨7,0,zbV 101 0 [(1,.d (.int .i64) (.v 1)),(2,.p tLog tLog 0 []),(4,.p tLog tLog 1 []),(5,.d (.int .i64) (.c (.int .i64 0))),(6,.h (.int .u32) 2 none),(7,.d (.sl zbs) (.c .nil)),(8,.d (.int .i64) (.v 5))],[.box tLog (.d tLog (.v 0)),.box tLog (.d tLog (.c (.agg [.nil,(.int .i64 0),.nil]))),.row (.int .u32) (.v 6)]⟩),
 (9,14983475960261642230,⟨12,0,zbV 101 0 [(1,.d (.int .i64) (.v 1)),(2,.p tLog tLog 0 []),(4,.p tLog tLog 1 []),(5,.d (.int .i64) (.c (.int .i64 0))),(6,.h (.int .u32) 2 none),(7,.d (.sl zbs) (.c .nil)),(8,.d (.int .i64) (.v 5)),(9,.d .bool (.v 9)),(10,.d (.int .i64) (.v 10))],[.box tLog (.d tLog (.v 0)),.box tLog (.d tLog (.c (.agg [.nil,(.int .i64 0),.nil]))),.row (.int .u32) (.v 11)]⟩),
 (6,2294,⟨8,0,zbV 101 0 [(1,.d (.int .i64) (.v 1)),(2,.p tLog tLog 0 []),(4,.p tLog tLog 1 []),(5,.d (.int .i64) (.c (.int .i64 0))),(6,.h (.int .u32) 2 none),(7,.h zbs 3 none),(11,.d (.int .i64) (.v 6))],[.box tLog (.d tLog (.v 0)),.box tLog (.d tLog (.c (.agg [.nil,(.int .i64 0),.nil]))),.row (.int .u32) (.v 5),.row zbs (.v 7)]⟩)]),
 (74,[(2,79227255524751721442310094862,⟨3,0,zbV 97 0 [(1,.p zas zas 0 []),(2,.d .bool (.c (.bool false))),(3,.d (.int .i64) (.v 2))],[.box zas (.d zas (.v 0))]⟩),
 (2,79227255524751721442310094870,⟨3,0,zbV 97 0 [(1,.p zas zas 0 []),(2,.d .bool (.c (.bool false))),(4,.d (.int .i64) (.v 2))],[.box zas (.d zas (.v 0))]⟩)]),
 (75,[(2,161942369014637331576634822623246,⟨3,0,zbV 108 0 [(1,.p tLog tLog 0 []),(2,.d .bool (.c (.bool false))),(3,.d (.int .i64) (.v 2))],[.box tLog (.d tLog (.v 0))]⟩),
 (9,161942369014637331576634822623294,⟨10,0,zbV 108 0 [(1,.p tLog tLog 0 []),(2,.d .bool (.c (.bool false))),(3,.d (.int .i64) (.v 2)),(4,.p zbs zbs 1 []),(5,.d (.int .i64) (.v 9))],[.box tLog (.d tLog (.v 0)),.box zbs (.d zbs (.v 7))]⟩)])] }
theorem tyOk:TysOk cx:=zsU (by kernel_rfl) (List.forall_mem_cons.2 ⟨⟨_,_,_,_,_,_,_,_,_,_,_,_,_,_,⟨rfl,rfl,rfl,rfl,rfl,rfl,rfl,rfl,rfl⟩⟩,fun _ h=>nomatch h⟩)
theorem mixed:Try.prog.follows .mixedOrders=true:=by kernel_rfl
def noC:FuncId→List D→Option (List D):=fun _ _=>none
theorem zve:CallsOk cx noC:=fun _ _ _ _ _ _ _ h=>by cases h
theorem zto {f:FuncId}{ds rs:List D}(k d:Nat) (h:zdM cx k 12 noC d f ds=some rs):zrq cx 12 noC f ds=some rs:=(zdX cx 12 noC).2 ⟨k,d,h⟩
def zdx (x0:List Int) (x1:List Int) (s:Int):Option (Int⊕Unit⊕Bool) :=
 if decide (s<(List.length x0:Int)) then
 (getO x0 s).bind fun v8=>(getO x1 s).bind fun v9=>if !decide (v8=v9) then
 some (Sum.inr (Sum.inr (false)))
 else
 some (Sum.inl (w64 (s + (1:Int))))
 else
 some (Sum.inr (Sum.inl ()))
def zdr (p0:List Int) (p1:List Int):Option Bool :=
 if !decide ((List.length p0:Int)=(List.length p1:Int)) then
 some (false)
 else
 zb6 (zaA (zdx p0 p1) (0:Int):Option (Unit⊕Bool)) fun v5=>some (true)
def zgq:FnT:=⟨[.sl (.int .u32),.sl (.int .u32)],[.bool],fun x=>zdr x.1 x.2⟩
def zjg:TA :=
 .prim .len [.v 0]<|.prim .len [.v 1]<|.prim (.bin .neq) [.v 2,.v 3]<|.ite (.v 4) (.jmp 0 false [.c (.bool false)]) (.sub1 [] (.loop [.int .i64] [.c (.int .i64 0)] (.prim .len [.v 0]<|.prim (.bin .lss) [.v 5,.v 6]<|.ite (.v 7) (.prim .get [.v 0,.v 5]<|.prim .get [.v 1,.v 5]<|.prim (.bin .neq) [.v 8,.v 9]<|.ite (.v 10) (.jmp 2 false [.c (.bool false)]) (.prim (.bin .add) [.v 5,.c (.int .i64 1)]<|.jmp 0 true [.v 11])) (.jmp 1 false []))) 0<|.jmp 0 false [.c (.bool true)])
theorem zo1:zaE cx 12 25=some zjg.erase:=by kernel_rfl
theorem zox:FnOk cx 12 noC 25 zgq:=zcf (t:=zjg) zo1 (fun _=>rfl) (zbX [] (by kernel_rfl) .nil) (fun x=>by kernel_rfl)
def ziM (p0:Int):Option (Log×Int) :=
 if (decide (p0<(1:Int)))||(decide ((64:Int)<p0)) then
 some (((Log.mk ([]:List Int) (0:Int) ([]:List Undo)),(1:Int)))
 else
 (repO (0:Int) 4 p0 p0).bind fun v2=>some ((Log.mk v2 (0:Int) ([]:List Undo),(0:Int)))
def zhH:FnT:=⟨[.int .i64],[tLog,.int .i64],fun x=>ziM x⟩
def zk3:TA :=
 .subp [.bool] (.prim (.bin .lss) [.v 0,.c (.int .i64 1)]<|.ite (.v 1) (.jmp 0 false [.c (.bool true)]) (.prim (.bin .gtr) [.v 0,.c (.int .i64 64)]<|.jmp 0 false [.v 2])) 1<|.ite (.v 1) (.jmp 0 false [.c (.agg [.nil,(.int .i64 0),.nil]),.c (.int .i64 1)]) (.primH (.rep (.int .u32 0) 4) (.sl (.int .u32)) [.v 0,.v 0]<|.mkS zjK [.v 2,.c (.int .i64 0),.c .nil]<|.jmp 0 false [.v 3,.c (.int .i64 0)])
theorem zqL:zaE cx 12 34=some zk3.erase:=by kernel_rfl
theorem zq6:FnOk cx 12 noC 34 zhH:=zcf (t:=zk3) zqL (fun _=>rfl) (zbX [] (by kernel_rfl) .nil) (fun x=>by kernel_rfl)
def zd1 (p0:Int) (p1:Int):Option Int :=
 (quoO .i64 (w64 ((w64 (p0 + p1)) - (1:Int))) p1).bind fun v4=>some (v4)
def zcG:FnT:=⟨[.int .i64,.int .i64],[.int .i64],fun x=>zd1 x.1 x.2⟩
def zif:TA :=
 .prim (.bin .add) [.v 0,.v 1]<|.prim (.bin .sub) [.v 2,.c (.int .i64 1)]<|.prim (.bin .quo) [.v 3,.v 1]<|.jmp 0 false [.v 4]
theorem zmP:zaE cx 12 69=some zif.erase:=by kernel_rfl
theorem zin:FnOk cx 12 noC 69 zcG:=zcf (t:=zif) zmP (fun _=>rfl) (zbX [] (by kernel_rfl) .nil) (fun x=>by kernel_rfl)
def zdQ (x0:Int) (x1:Int) (s:(Int×(List (List Int)))):Option ((Int×(List (List Int)))⊕(List (List Int))) :=
 if decide (s.1<x0) then
 (repO (0:Int) 4 x1 x1).bind fun v7=>(appO 24 s.2 ([v7]:List (List Int))).bind fun v9=>some (Sum.inl (w64 (s.1 + (1:Int)),v9))
 else
 some (Sum.inr (s.2))
def za6 (p0:Vault) (p1:Int):Option (Int×Int) :=
 let v4:Int:=(List.length (Banks.Rows (Vault.Banks p0)):Int)
 (remO p1 v4).bind fun v5=>(quoO .i64 p1 v4).bind fun v6=>some ((v5,v6))
def zaL:FnT:=⟨[zay,.int .i64],[.int .i64,.int .i64],fun x=>za6 x.1 x.2⟩
def zgO:TA :=
 .prim (.fld 0) [.v 0]<|.prim (.fld 0) [.v 2]<|.prim .len [.v 3]<|.prim (.bin .rem) [.v 1,.v 4]<|.prim (.bin .quo) [.v 1,.v 4]<|.jmp 0 false [.v 5,.v 6]
theorem zmc:zaE cx 12 71=some zgO.erase:=by kernel_rfl
theorem zcP:FnOk cx 12 noC 71 zaL:=zcf (t:=zgO) zmc (fun _=>rfl) (zbX [] (by kernel_rfl) .nil) (fun x=>by kernel_rfl)
def zjA (x0:Vault) (x1:List Undo) (x2:Int) (s:(Int×Int×(List (store_key×Bool)))):Option ((Int×Int×(List (store_key×Bool)))⊕Unit⊕Bool) :=
 if decide (s.2.1<x2) then
 (getO x1 s.2.1).bind fun v7=>let v10:store_key:=store_key.mk (Undo.Span v7) (Undo.At v7)
 if (decide ((Undo.Span v7)<s.1))||((decide ((Vault.Span x0)<(Undo.Span v7)))||((decide ((Undo.At v7)<(0:Int)))||((decide ((Vault.Words x0)≤(Undo.At v7)))||(zkF (Ty.dec zaQ) false s.2.2 v10)))) then
 some (Sum.inr (Sum.inr (false)))
 else
 some (Sum.inl (Undo.Span v7,w64 (s.2.1 + (1:Int)),zhm (Ty.dec zaQ) v10 true s.2.2))
 else
 some (Sum.inr (Sum.inl ()))
def ze7 (p0:Vault):Option Bool :=
 let v2:Int:=(List.length (Vault.Lst p0):Int)
 zb6 (zaA (zjA p0 (Vault.Lst p0) v2) ((0:Int),(0:Int),([]:List (store_key×Bool))):Option (Unit⊕Bool)) fun v3=>some (true)
def zdF:FnT:=⟨[zay],[.bool],fun x=>ze7 x⟩
def zfL:TA :=
 .prim (.fld 3) [.v 0]<|.prim .len [.v 1]<|.sub1 [] (.loop [.int .i64,.int .i64,.sl (.st [zaQ,.bool])] [.c (.int .i64 0),.c (.int .i64 0),.c (.sl [])] (.prim (.bin .lss) [.v 4,.v 2]<|.ite (.v 6) (.prim .get [.v 1,.v 4]<|.prim (.fld 0) [.v 7]<|.prim (.fld 1) [.v 7]<|.mkS zgl [.v 8,.v 9]<|.subp [.bool] (.prim (.fld 0) [.v 7]<|.prim (.bin .lss) [.v 11,.v 3]<|.ite (.v 12) (.jmp 0 false [.c (.bool true)]) (.prim (.fld 0) [.v 7]<|.prim (.fld 2) [.v 0]<|.prim (.bin .gtr) [.v 13,.v 14]<|.ite (.v 15) (.jmp 0 false [.c (.bool true)]) (.prim (.fld 1) [.v 7]<|.prim (.bin .lss) [.v 16,.c (.int .i64 0)]<|.ite (.v 17) (.jmp 0 false [.c (.bool true)]) (.prim (.fld 1) [.v 7]<|.prim (.fld 1) [.v 0]<|.prim (.bin .geq) [.v 18,.v 19]<|.ite (.v 20) (.jmp 0 false [.c (.bool true)]) (.prim (.mget (.bool false)) [.v 5,.v 10]<|.jmp 0 false [.v 21]))))) 1<|.ite (.v 11) (.jmp 2 false [.c (.bool false)]) (.prim (.fld 0) [.v 7]<|.prim .mput [.v 5,.v 10,.c (.bool true)]<|.prim (.bin .add) [.v 4,.c (.int .i64 1)]<|.jmp 0 true [.v 12,.v 14,.v 13])) (.jmp 1 false []))) 0<|.jmp 0 false [.c (.bool true)]
theorem zkG:zaE cx 12 77=some zfL.erase:=by kernel_rfl
theorem zkz:FnOk cx 12 noC 77 zdF:=zcf (t:=zfL) zkG (fun _=>rfl) (zbX [] (by kernel_rfl) .nil) (fun x=>by kernel_rfl)
def zaK (p0:Int) (p1:Int):Bool :=
 (decide ((0:Int)≤p0))&&(decide (p0≤p1))
def zbP:PnT:=⟨[.int .i64,.int .i64],[.bool],fun x=>zaK x.1 x.2⟩
def zkl:TA :=
 .subp [.bool] (.prim (.bin .geq) [.v 0,.c (.int .i64 0)]<|.ite (.v 2) (.prim (.bin .leq) [.v 0,.v 1]<|.jmp 0 false [.v 3]) (.jmp 0 false [.c (.bool false)])) 1<|.jmp 0 false [.v 2]
theorem zpq:zaE cx 12 86=some zkl.erase:=by kernel_rfl
theorem zgg:FnOk cx 12 noC 86 zbP.fn:=zvu (t:=zkl) zpq (fun _=>rfl) (zbX [] (by kernel_rfl) .nil) (fun x=>by kernel_rfl)
def zbH (x2:Int) (x4:List (List Int)) (x5:Int) (s:Int):Option (Int⊕Unit⊕Int) :=
 if decide (s<x5) then
 (getO x4 s).bind fun v8=>if !decide ((List.length v8:Int)=x2) then
 some (Sum.inr (Sum.inr (s)))
 else
 some (Sum.inl (w64 (s + (1:Int))))
 else
 some (Sum.inr (Sum.inl ()))
def zcY (p0:Banks):Option Bool :=
 let v2:Int:=(List.length (Banks.Par p0):Int)
 if (decide ((List.length (Banks.Rows p0):Int)<(1:Int)))||((decide ((8:Int)<(List.length (Banks.Rows p0):Int)))||((decide (v2<(1:Int)))||((decide ((64:Int)<v2))||((decide ((Banks.Lost p0)<(0:Int)))||(decide ((List.length (Banks.Rows p0):Int)<(Banks.Lost p0))))))) then
 some (false)
 else
 ((let v5:Int:=(List.length (Banks.Rows p0):Int)
 zb6 (zaA (zbH v2 (Banks.Rows p0) v5) (0:Int):Option (Unit⊕Int)) fun v6=>some ((-1:Int)):Option Int).bind fun v5=>some ((decide ((0:Int)≤v5))):Option Bool).bind fun v5=>some ((!v5))
def zc8:FnT:=⟨[zas],[.bool],fun x=>zcY x⟩
def zfa:TA :=
 .prim (.fld 1) [.v 0]<|.prim .len [.v 1]<|.subp [.bool] (.prim (.fld 0) [.v 0]<|.prim .len [.v 3]<|.prim (.bin .lss) [.v 4,.c (.int .i64 1)]<|.ite (.v 5) (.jmp 0 false [.c (.bool true)]) (.prim (.fld 0) [.v 0]<|.prim .len [.v 6]<|.prim (.bin .gtr) [.v 7,.c (.int .i64 8)]<|.ite (.v 8) (.jmp 0 false [.c (.bool true)]) (.prim (.bin .lss) [.v 2,.c (.int .i64 1)]<|.ite (.v 9) (.jmp 0 false [.c (.bool true)]) (.prim (.bin .gtr) [.v 2,.c (.int .i64 64)]<|.ite (.v 10) (.jmp 0 false [.c (.bool true)]) (.prim (.fld 2) [.v 0]<|.prim (.bin .lss) [.v 11,.c (.int .i64 0)]<|.ite (.v 12) (.jmp 0 false [.c (.bool true)]) (.prim (.fld 2) [.v 0]<|.prim (.fld 0) [.v 0]<|.prim .len [.v 14]<|.prim (.bin .gtr) [.v 13,.v 15]<|.jmp 0 false [.v 16])))))) 1<|.ite (.v 3) (.jmp 0 false [.c (.bool false)]) (.prim (.fld 0) [.v 0]<|.sub0 [.bool] (.sub0 [.int .i64] (.prim .len [.v 4]<|.sub1 [] (.loop [.int .i64] [.c (.int .i64 0)] (.prim (.bin .lss) [.v 6,.v 5]<|.ite (.v 7) (.prim .get [.v 4,.v 6]<|.subp [.bool] (.prim .len [.v 8]<|.prim (.bin .neq) [.v 9,.v 2]<|.jmp 0 false [.v 10]) 1<|.ite (.v 9) (.jmp 2 false [.v 6]) (.prim (.bin .add) [.v 6,.c (.int .i64 1)]<|.jmp 0 true [.v 10])) (.jmp 1 false []))) 0<|.jmp 0 false [.c (.int .i64 (-1))]) 1<|.prim (.bin .geq) [.v 5,.c (.int .i64 0)]<|.jmp 0 false [.v 6]) 1<|.prim (.un .not) [.v 5]<|.jmp 0 false [.v 6])
theorem zjq:zaE cx 12 115=some zfa.erase:=by kernel_rfl
theorem zjN:FnOk cx 12 noC 115 zc8:=zcf (t:=zfa) zjq (fun _=>rfl) (zbX [] (by kernel_rfl) .nil) (fun x=>by kernel_rfl)
def zdK (p0:Int):Bool :=
 !decide (p0=(0:Int))
def zcM:PnT:=⟨[.int .u32],[.bool],fun x=>zdK x⟩
def zeG:TA :=
 .prim (.bin .neq) [.v 0,.c (.int .u32 0)]<|.jmp 0 false [.v 1]
theorem ziA:zaE cx 12 117=some zeG.erase:=by kernel_rfl
theorem ziz:FnOk cx 12 noC 117 zcM.fn:=zvu (t:=zeG) ziA (fun _=>rfl) (zbX [] (by kernel_rfl) .nil) (fun x=>by kernel_rfl)
def zau (x0:List Int) (x1:List Int) (x5:Int) (s:Int):Option (Int⊕Unit⊕Bool) :=
 if decide (s<x5) then
 (getO x0 s).bind fun v8=>(getO x1 s).bind fun v9=>if !decide (v8=v9) then
 some (Sum.inr (Sum.inr (false)))
 else
 some (Sum.inl (w64 (s + (1:Int))))
 else
 some (Sum.inr (Sum.inl ()))
def zaB (p0:List Int) (p1:List Int):Option Bool :=
 if !decide ((List.length p0:Int)=(List.length p1:Int)) then
 some (false)
 else
 let v5:Int:=(List.length p0:Int)
 zb6 (zaA (zau p0 p1 v5) (0:Int):Option (Unit⊕Bool)) fun v6=>some (true)
def zaN:FnT:=⟨[.sl (.int .u32),.sl (.int .u32)],[.bool],fun x=>zaB x.1 x.2⟩
def zbe:TA :=
 .prim .len [.v 0]<|.prim .len [.v 1]<|.prim (.bin .neq) [.v 2,.v 3]<|.ite (.v 4) (.jmp 0 false [.c (.bool false)]) (.prim .len [.v 0]<|.sub1 [] (.loop [.int .i64] [.c (.int .i64 0)] (.prim (.bin .lss) [.v 6,.v 5]<|.ite (.v 7) (.prim .get [.v 0,.v 6]<|.prim .get [.v 1,.v 6]<|.prim (.bin .neq) [.v 8,.v 9]<|.ite (.v 10) (.jmp 2 false [.c (.bool false)]) (.prim (.bin .add) [.v 6,.c (.int .i64 1)]<|.jmp 0 true [.v 11])) (.jmp 1 false []))) 0<|.jmp 0 false [.c (.bool true)])
theorem zc3:zaE cx 12 118=some zbe.erase:=by kernel_rfl
theorem zc0:FnOk cx 12 noC 118 zaN:=zcf (t:=zbe) zc3 (fun _=>rfl) (zbX [] (by kernel_rfl) .nil) (fun x=>by kernel_rfl)
def zih (x1:Int) (x3:Int) (s:(Int×(List (List Int)))):Option ((Int×(List (List Int)))⊕(List (List Int))) :=
 if decide (s.1<x1) then
 (repO (0:Int) 4 x3 x3).bind fun v9=>(appO 24 s.2 ([v9]:List (List Int))).bind fun v11=>some (Sum.inl (w64 (s.1 + (1:Int)),v11))
 else
 some (Sum.inr (s.2))
def zhh (p0:Int) (p1:Int):Option (Vault×Int) :=
 if (decide (p0<(1:Int)))||((decide ((64:Int)<p0))||((decide (p1<(1:Int)))||(decide ((8:Int)<p1)))) then
 some (((Vault.mk (Banks.mk ([]:List (List Int)) ([]:List Int) (0:Int)) (0:Int) (0:Int) ([]:List Undo)),(1:Int)))
 else
 (zd1 p0 p1).bind fun v3=>(if (decide (p1<(1:Int)))||((decide ((8:Int)<p1))||((decide (v3<(1:Int)))||(decide ((64:Int)<v3)))) then
 some ((([]:List (List Int)),([]:List Int)))
 else
 (repO (0:Int) 4 v3 v3).bind fun v5=>(zaA (zih p1 v3) ((0:Int),([]:List (List Int))):Option (List (List Int))).bind fun v6=>some ((v6,v5)):Option ((List (List Int))×(List Int))).bind fun v4=>some ((Vault.mk (Banks.mk v4.1 v4.2 (0:Int)) p0 (0:Int) ([]:List Undo),(0:Int)))
def zgp:FnT:=⟨[.int .i64,.int .i64],[zay,.int .i64],fun x=>zhh x.1 x.2⟩
def zju:TA :=
 .subp [.bool] (.prim (.bin .lss) [.v 0,.c (.int .i64 1)]<|.ite (.v 2) (.jmp 0 false [.c (.bool true)]) (.prim (.bin .gtr) [.v 0,.c (.int .i64 64)]<|.ite (.v 3) (.jmp 0 false [.c (.bool true)]) (.prim (.bin .lss) [.v 1,.c (.int .i64 1)]<|.ite (.v 4) (.jmp 0 false [.c (.bool true)]) (.prim (.bin .gtr) [.v 1,.c (.int .i64 8)]<|.jmp 0 false [.v 5])))) 1<|.ite (.v 2) (.jmp 0 false [.c (.agg [(.agg [.nil,.nil,(.int .i64 0)]),(.int .i64 0),(.int .i64 0),.nil]),.c (.int .i64 1)]) (.call 69 zcG [.v 0,.v 1] 1<|.sub0 [.no,.sl (.sl (.int .u32)),.sl (.int .u32)] (.subp [.bool] (.prim (.bin .lss) [.v 1,.c (.int .i64 1)]<|.ite (.v 4) (.jmp 0 false [.c (.bool true)]) (.prim (.bin .gtr) [.v 1,.c (.int .i64 8)]<|.ite (.v 5) (.jmp 0 false [.c (.bool true)]) (.prim (.bin .lss) [.v 3,.c (.int .i64 1)]<|.ite (.v 6) (.jmp 0 false [.c (.bool true)]) (.prim (.bin .gtr) [.v 3,.c (.int .i64 64)]<|.jmp 0 false [.v 7])))) 1<|.ite (.v 4) (.jmp 0 false [.c (.int .i64 1),.c .nil,.c .nil]) (.primH (.rep (.int .u32 0) 4) (.sl (.int .u32)) [.v 3,.v 3]<|.sub0 [.sl (.sl (.int .u32))] (.loop [.int .i64,.sl (.sl (.int .u32))] [.c (.int .i64 0),.c .nil] (.prim (.bin .lss) [.v 6,.v 1]<|.ite (.v 8) (.primH (.rep (.int .u32 0) 4) (.sl (.int .u32)) [.v 3,.v 3]<|.mkL (.sl (.int .u32)) [.v 9]<|.prim (.app 24) [.v 7,.v 10]<|.prim (.bin .add) [.v 6,.c (.int .i64 1)]<|.jmp 0 true [.v 12,.v 11]) (.jmp 1 false [.v 7]))) 1<|.jmp 0 false [.c (.int .i64 0),.v 6,.v 5])) 3<|.mkS za9 [.v 5,.v 6,.c (.int .i64 0)]<|.mkS zbM [.v 7,.v 0,.c (.int .i64 0),.c .nil]<|.jmp 0 false [.v 8,.c (.int .i64 0)])
theorem zpj:zaE cx 12 19=some zju.erase:=by kernel_rfl
theorem zoC:FnOk cx 12 noC 19 zgp:=zcf (t:=zju) zpj (fun _=>rfl) (zbX [(69,zcG)] (by kernel_rfl) (.cons zin .nil)) (fun x=>by kernel_rfl)
def zb5 (x8:List Int) (x9:Int) (s:Int):Option (Int⊕Unit⊕Int) :=
 if decide (s<x9) then
 (getO x8 s).bind fun v12=>if zdK v12 then
 some (Sum.inr (Sum.inr (s)))
 else
 some (Sum.inl (w64 (s + (1:Int))))
 else
 some (Sum.inr (Sum.inl ()))
def zbj (x13:List Int) (x14:Int) (s:(Int×(List Int))):Option ((Int×(List Int))⊕(List Int)) :=
 if decide (s.1<x14) then
 (getO x13 s.1).bind fun v18=>(idxO (List.length s.2:Int) s.1).bind fun v19=>(getO s.2 v19).bind fun v20=>(idxO (List.length s.2:Int) s.1).bind fun v22=>(setO s.2 v22 (bXor .u32 v20 v18)).bind fun v23=>some (Sum.inl (w64 (s.1 + (1:Int)),v23))
 else
 some (Sum.inr (s.2))
def zbm (x5:List (List Int)) (x9:Int) (s:(Int×(List Int))):Option ((Int×(List Int))⊕(List Int)) :=
 if decide (s.1<x9) then
 (getO x5 s.1).bind fun v13=>let v14:Int:=(List.length v13:Int)
 (zaA (zbj v13 v14) ((0:Int),s.2):Option (List Int)).bind fun v15=>some (Sum.inl (w64 (s.1 + (1:Int)),v15))
 else
 some (Sum.inr (s.2))
def zcA (p0:Banks):Option Bool :=
 (zcY p0).bind fun v1=>if !v1 then
 some (false)
 else
 if decide ((0:Int)<(Banks.Lost p0)) then
 (getO (Banks.Rows p0) (w64 ((Banks.Lost p0) - (1:Int)))).bind fun v8=>((let v9:Int:=(List.length v8:Int)
 zb6 (zaA (zb5 v8 v9) (0:Int):Option (Unit⊕Int)) fun v10=>some ((-1:Int)):Option Int).bind fun v9=>some ((decide ((0:Int)≤v9))):Option Bool).bind fun v9=>some ((!v9))
 else
 let v7:Int:=(List.length (Banks.Par p0):Int)
 ((repO (0:Int) 4 v7 v7).bind fun v8=>let v9:Int:=(List.length (Banks.Rows p0):Int)
 (zaA (zbm (Banks.Rows p0) v9) ((0:Int),v8):Option (List Int)).bind fun v10=>some (v10):Option (List Int)).bind fun v8=>(zaB v8 (Banks.Par p0)).bind fun v10=>some (v10)
def zbA:FnT:=⟨[zas],[.bool],fun x=>zcA x⟩
def zfR:TA :=
 .call 115 zc8 [.v 0] 1<|.prim (.un .not) [.v 1]<|.ite (.v 2) (.jmp 0 false [.c (.bool false)]) (.prim (.fld 2) [.v 0]<|.prim (.bin .gtr) [.v 3,.c (.int .i64 0)]<|.ite (.v 4) (.prim (.fld 0) [.v 0]<|.prim (.fld 2) [.v 0]<|.prim (.bin .sub) [.v 6,.c (.int .i64 1)]<|.prim .get [.v 5,.v 7]<|.sub0 [.bool] (.sub0 [.int .i64] (.prim .len [.v 8]<|.sub1 [] (.loop [.int .i64] [.c (.int .i64 0)] (.prim (.bin .lss) [.v 10,.v 9]<|.ite (.v 11) (.prim .get [.v 8,.v 10]<|.callp 117 zcM [.v 12] 1<|.ite (.v 13) (.jmp 2 false [.v 10]) (.prim (.bin .add) [.v 10,.c (.int .i64 1)]<|.jmp 0 true [.v 14])) (.jmp 1 false []))) 0<|.jmp 0 false [.c (.int .i64 (-1))]) 1<|.prim (.bin .geq) [.v 9,.c (.int .i64 0)]<|.jmp 0 false [.v 10]) 1<|.prim (.un .not) [.v 9]<|.jmp 0 false [.v 10]) (.prim (.fld 0) [.v 0]<|.prim (.fld 1) [.v 0]<|.prim .len [.v 6]<|.sub0 [.sl (.int .u32)] (.primH (.rep (.int .u32 0) 4) (.sl (.int .u32)) [.v 7,.v 7]<|.prim .len [.v 5]<|.sub0 [.sl (.int .u32)] (.loop [.int .i64,.sl (.int .u32)] [.c (.int .i64 0),.v 8] (.prim (.bin .lss) [.v 10,.v 9]<|.ite (.v 12) (.prim .get [.v 5,.v 10]<|.prim .len [.v 13]<|.sub0 [.sl (.int .u32)] (.loop [.int .i64,.sl (.int .u32)] [.c (.int .i64 0),.v 11] (.prim (.bin .lss) [.v 15,.v 14]<|.ite (.v 17) (.prim .get [.v 13,.v 15]<|.prim .idx [.v 16,.v 15]<|.prim .get [.v 16,.v 19]<|.prim (.bin .xor) [.v 20,.v 18]<|.prim .idx [.v 16,.v 15]<|.prim .set [.v 16,.v 22,.v 21]<|.prim (.bin .add) [.v 15,.c (.int .i64 1)]<|.jmp 0 true [.v 24,.v 23]) (.jmp 1 false [.v 16]))) 1<|.prim (.bin .add) [.v 10,.c (.int .i64 1)]<|.jmp 0 true [.v 16,.v 15]) (.jmp 1 false [.v 11]))) 1<|.jmp 0 false [.v 10]) 1<|.prim (.fld 1) [.v 0]<|.call 118 zaN [.v 8,.v 9] 1<|.jmp 0 false [.v 10]))
theorem zkK:zaE cx 12 76=some zfR.erase:=by kernel_rfl
theorem zfS:FnOk cx 12 noC 76 zbA:=zcf (t:=zfR) zkK (fun _=>rfl) (zbX [(115,zc8),(117,zcM.fn),(118,zaN)] (by kernel_rfl) (.cons zjN (.cons ziz (.cons zc0 .nil)))) (fun x=>by kernel_rfl)
def zms (x0:Log) (x2:List Undo) (x3:Int) (s:(Int×Int×(List (store_key×Bool)))):Option ((Int×Int×(List (store_key×Bool)))⊕Unit⊕Bool) :=
 if decide (s.2.1<x3) then
 (getO x2 s.2.1).bind fun v8=>let v11:store_key:=store_key.mk (Undo.Span v8) (Undo.At v8)
 if (decide ((Undo.Span v8)<s.1))||((decide ((Log.Span x0)<(Undo.Span v8)))||((decide ((Undo.At v8)<(0:Int)))||((decide ((List.length (Log.Mem x0):Int)≤(Undo.At v8)))||(zkF (Ty.dec zaQ) false s.2.2 v11)))) then
 some (Sum.inr (Sum.inr (false)))
 else
 some (Sum.inl (Undo.Span v8,w64 (s.2.1 + (1:Int)),zhm (Ty.dec zaQ) v11 true s.2.2))
 else
 some (Sum.inr (Sum.inl ()))
def zcc (p0:Log):Option Bool :=
 if (decide ((List.length (Log.Mem p0):Int)<(1:Int)))||((decide ((64:Int)<(List.length (Log.Mem p0):Int)))||((!(zaK (Log.Span p0) (1099511627776:Int)))||(decide ((256:Int)<(List.length (Log.Lst p0):Int))))) then
 some (false)
 else
 let v3:Int:=(List.length (Log.Lst p0):Int)
 zb6 (zaA (zms p0 (Log.Lst p0) v3) ((0:Int),(0:Int),([]:List (store_key×Bool))):Option (Unit⊕Bool)) fun v4=>some (true)
def zaS:FnT:=⟨[tLog],[.bool],fun x=>zcc x⟩
def zhZ:TA :=
 .subp [.bool] (.prim (.fld 0) [.v 0]<|.prim .len [.v 1]<|.prim (.bin .lss) [.v 2,.c (.int .i64 1)]<|.ite (.v 3) (.jmp 0 false [.c (.bool true)]) (.prim (.fld 0) [.v 0]<|.prim .len [.v 4]<|.prim (.bin .gtr) [.v 5,.c (.int .i64 64)]<|.ite (.v 6) (.jmp 0 false [.c (.bool true)]) (.prim (.fld 1) [.v 0]<|.callp 86 zbP [.v 7,.c (.int .i64 1099511627776)] 1<|.prim (.un .not) [.v 8]<|.ite (.v 9) (.jmp 0 false [.c (.bool true)]) (.prim (.fld 2) [.v 0]<|.prim .len [.v 10]<|.prim (.bin .gtr) [.v 11,.c (.int .i64 256)]<|.jmp 0 false [.v 12])))) 1<|.ite (.v 1) (.jmp 0 false [.c (.bool false)]) (.prim (.fld 2) [.v 0]<|.prim .len [.v 2]<|.sub1 [] (.loop [.int .i64,.int .i64,.sl (.st [zaQ,.bool])] [.c (.int .i64 0),.c (.int .i64 0),.c (.sl [])] (.prim (.bin .lss) [.v 5,.v 3]<|.ite (.v 7) (.prim .get [.v 2,.v 5]<|.prim (.fld 0) [.v 8]<|.prim (.fld 1) [.v 8]<|.mkS zgl [.v 9,.v 10]<|.subp [.bool] (.prim (.fld 0) [.v 8]<|.prim (.bin .lss) [.v 12,.v 4]<|.ite (.v 13) (.jmp 0 false [.c (.bool true)]) (.prim (.fld 0) [.v 8]<|.prim (.fld 1) [.v 0]<|.prim (.bin .gtr) [.v 14,.v 15]<|.ite (.v 16) (.jmp 0 false [.c (.bool true)]) (.prim (.fld 1) [.v 8]<|.prim (.bin .lss) [.v 17,.c (.int .i64 0)]<|.ite (.v 18) (.jmp 0 false [.c (.bool true)]) (.prim (.fld 1) [.v 8]<|.prim (.fld 0) [.v 0]<|.prim .len [.v 20]<|.prim (.bin .geq) [.v 19,.v 21]<|.ite (.v 22) (.jmp 0 false [.c (.bool true)]) (.prim (.mget (.bool false)) [.v 6,.v 11]<|.jmp 0 false [.v 23]))))) 1<|.ite (.v 12) (.jmp 2 false [.c (.bool false)]) (.prim (.fld 0) [.v 8]<|.prim .mput [.v 6,.v 11,.c (.bool true)]<|.prim (.bin .add) [.v 5,.c (.int .i64 1)]<|.jmp 0 true [.v 13,.v 15,.v 14])) (.jmp 1 false []))) 0<|.jmp 0 false [.c (.bool true)])
theorem znh:zaE cx 12 83=some zhZ.erase:=by kernel_rfl
theorem zdw:FnOk cx 12 noC 83 zaS:=zcf (t:=zhZ) znh (fun _=>rfl) (zbX [(86,zbP.fn)] (by kernel_rfl) (.cons zgg .nil)) (fun x=>by kernel_rfl)
def zbO (p0:Vault):Option Bool :=
 ((zcA (Vault.Banks p0)).bind fun v2=>if !v2 then
 some (true)
 else
 if decide ((Vault.Words p0)<(1:Int)) then
 some (true)
 else
 if decide ((64:Int)<(Vault.Words p0)) then
 some (true)
 else
 (zd1 (Vault.Words p0) (List.length (Banks.Rows (Vault.Banks p0)):Int)).bind fun v15=>some ((!decide ((List.length (Banks.Par (Vault.Banks p0)):Int)=v15))):Option Bool).bind fun v1=>if v1 then
 some (false)
 else
 (if decide ((0:Int)≤(Vault.Span p0)) then
 if decide ((Vault.Span p0)≤(1099511627776:Int)) then
 if decide ((List.length (Vault.Lst p0):Int)≤(256:Int)) then
 (ze7 p0).bind fun v9=>some (v9)
 else
 some (false)
 else
 some (false)
 else
 some (false):Option Bool).bind fun v2=>some (v2)
def zaM:FnT:=⟨[zay],[.bool],fun x=>zbO x⟩
def zgU:TA :=
 .sub0 [.bool] (.prim (.fld 0) [.v 0]<|.call 76 zbA [.v 1] 1<|.prim (.un .not) [.v 2]<|.ite (.v 3) (.jmp 0 false [.c (.bool true)]) (.prim (.fld 1) [.v 0]<|.prim (.bin .lss) [.v 4,.c (.int .i64 1)]<|.ite (.v 5) (.jmp 0 false [.c (.bool true)]) (.prim (.fld 1) [.v 0]<|.prim (.bin .gtr) [.v 6,.c (.int .i64 64)]<|.ite (.v 7) (.jmp 0 false [.c (.bool true)]) (.prim (.fld 0) [.v 0]<|.prim (.fld 1) [.v 8]<|.prim .len [.v 9]<|.prim (.fld 1) [.v 0]<|.prim (.fld 0) [.v 0]<|.prim (.fld 0) [.v 12]<|.prim .len [.v 13]<|.call 69 zcG [.v 11,.v 14] 1<|.prim (.bin .neq) [.v 10,.v 15]<|.jmp 0 false [.v 16])))) 1<|.ite (.v 1) (.jmp 0 false [.c (.bool false)]) (.sub0 [.bool] (.prim (.fld 2) [.v 0]<|.prim (.bin .geq) [.v 2,.c (.int .i64 0)]<|.ite (.v 3) (.prim (.fld 2) [.v 0]<|.prim (.bin .leq) [.v 4,.c (.int .i64 1099511627776)]<|.ite (.v 5) (.prim (.fld 3) [.v 0]<|.prim .len [.v 6]<|.prim (.bin .leq) [.v 7,.c (.int .i64 256)]<|.ite (.v 8) (.call 77 zdF [.v 0] 1<|.jmp 0 false [.v 9]) (.jmp 0 false [.c (.bool false)])) (.jmp 0 false [.c (.bool false)])) (.jmp 0 false [.c (.bool false)])) 1<|.jmp 0 false [.v 2])
theorem zmo:zaE cx 12 24=some zgU.erase:=by kernel_rfl
theorem zcS:FnOk cx 12 noC 24 zaM:=zcf (t:=zgU) zmo (fun _=>rfl) (zbX [(76,zbA),(69,zcG),(77,zdF)] (by kernel_rfl) (.cons zfS (.cons zin (.cons zkz .nil)))) (fun x=>by kernel_rfl)
def zcU (x1:Int) (x4:Int) (x6:List Undo) (x8:Int) (s:Int):Option (Int⊕Unit⊕Int) :=
 if decide (s<x8) then
 (idxO (List.length x6:Int) s).bind fun v11=>(getO x6 v11).bind fun v12=>if (decide ((Undo.Span v12)=x4))&&(decide ((Undo.At v12)=x1)) then
 some (Sum.inr (Sum.inr (s)))
 else
 some (Sum.inl (w64 (s + (1:Int))))
 else
 some (Sum.inr (Sum.inl ()))
def zee (p0:Log) (p1:Int) (p2:Int):Option (Log×Int) :=
 ((zcc p0).bind fun v3=>if v3 then
 if decide ((0:Int)≤p1) then
 some ((decide (p1<(List.length (Log.Mem p0):Int))))
 else
 some (false)
 else
 some (false):Option Bool).bind fun v3=>((zaD 4 (Log.Mem p0)).bind fun v5=>(zaD 24 (Log.Lst p0)).bind fun v7=>some ((Log.Span p0,v5,v7)):Option (Int×(List Int)×(List Undo))).bind fun v4=>if !v3 then
 some ((Log.mk v4.2.1 v4.1 v4.2.2,(1:Int)))
 else
 ((let v8:Int:=(List.length v4.2.2:Int)
 zb6 (zaA (zcU p1 v4.1 v4.2.2 v8) (0:Int):Option (Unit⊕Int)) fun v9=>some ((-1:Int)):Option Int).bind fun v8=>some ((decide ((0:Int)≤v8))):Option Bool).bind fun v8=>zb6 (if v8 then
 some (Sum.inl v4.2.2)
 else
 if decide ((List.length v4.2.2:Int)=(256:Int)) then
 some (Sum.inr ((Log.mk v4.2.1 v4.1 v4.2.2,(6:Int))))
 else
 (idxO (List.length v4.2.1:Int) p1).bind fun v11=>(getO v4.2.1 v11).bind fun v12=>(appO 24 v4.2.2 ([Undo.mk v4.1 p1 v12]:List Undo)).bind fun v15=>some (Sum.inl v15):Option ((List Undo)⊕(Log×Int))) fun v9=>(idxO (List.length v4.2.1:Int) p1).bind fun v10=>(setO v4.2.1 v10 p2).bind fun v11=>some ((Log.mk v11 v4.1 v9,(0:Int)))
def zeO:FnT:=⟨[tLog,.int .i64,.int .u32],[tLog,.int .i64],fun x=>zee x.1 x.2.1 x.2.2⟩
def zit:TA :=
 .sub0 [.bool] (.call 83 zaS [.v 0] 1<|.ite (.v 3) (.prim (.bin .geq) [.v 1,.c (.int .i64 0)]<|.ite (.v 4) (.prim (.fld 0) [.v 0]<|.prim .len [.v 5]<|.prim (.bin .lss) [.v 1,.v 6]<|.jmp 0 false [.v 7]) (.jmp 0 false [.c (.bool false)])) (.jmp 0 false [.c (.bool false)])) 1<|.sub0 [.int .i64,.sl (.int .u32),.sl zbs] (.prim (.fld 0) [.v 0]<|.prim (.clone 4) [.v 4]<|.prim (.fld 2) [.v 0]<|.prim (.clone 24) [.v 6]<|.prim (.fld 0) [.v 0]<|.prim (.fld 1) [.v 0]<|.prim (.fld 2) [.v 0]<|.jmp 0 false [.v 9,.v 5,.v 7]) 3<|.prim (.un .not) [.v 3]<|.ite (.v 7) (.mkS zjK [.v 5,.v 4,.v 6]<|.jmp 0 false [.v 8,.c (.int .i64 1)]) (.sub0 [.bool] (.sub0 [.int .i64] (.prim .len [.v 6]<|.sub1 [] (.loop [.int .i64] [.c (.int .i64 0)] (.prim (.bin .lss) [.v 9,.v 8]<|.ite (.v 10) (.prim .idx [.v 6,.v 9]<|.prim .get [.v 6,.v 11]<|.subp [.bool] (.subp [.bool] (.prim (.fld 0) [.v 12]<|.prim (.bin .eql) [.v 13,.v 4]<|.ite (.v 14) (.prim (.fld 1) [.v 12]<|.prim (.bin .eql) [.v 15,.v 1]<|.jmp 0 false [.v 16]) (.jmp 0 false [.c (.bool false)])) 1<|.jmp 0 false [.v 13]) 1<|.ite (.v 13) (.jmp 2 false [.v 9]) (.prim (.bin .add) [.v 9,.c (.int .i64 1)]<|.jmp 0 true [.v 14])) (.jmp 1 false []))) 0<|.jmp 0 false [.c (.int .i64 (-1))]) 1<|.prim (.bin .geq) [.v 8,.c (.int .i64 0)]<|.jmp 0 false [.v 9]) 1<|.sub1 [.sl zbs] (.ite (.v 8) (.jmp 0 false [.v 6]) (.prim .len [.v 6]<|.prim (.bin .eql) [.v 9,.c (.int .i64 256)]<|.ite (.v 10) (.mkS zjK [.v 5,.v 4,.v 6]<|.jmp 1 false [.v 11,.c (.int .i64 6)]) (.prim .idx [.v 5,.v 1]<|.prim .get [.v 5,.v 11]<|.mkS zr6 [.v 4,.v 1,.v 12]<|.mkL zbs [.v 13]<|.prim (.app 24) [.v 6,.v 14]<|.jmp 0 false [.v 15]))) 1<|.prim .idx [.v 5,.v 1]<|.prim .set [.v 5,.v 10,.v 2]<|.mkS zjK [.v 11,.v 4,.v 9]<|.jmp 0 false [.v 12,.c (.int .i64 0)])
theorem znO:zaE cx 12 35=some zit.erase:=by kernel_rfl
theorem zoi:FnOk cx 12 noC 35 zeO:=zcf (t:=zit) znO (fun _=>rfl) (zbX [(83,zaS)] (by kernel_rfl) (.cons zdw .nil)) (fun x=>by kernel_rfl)
def zfb (p0:Log):Option (Log×Int) :=
 ((zcc p0).bind fun v1=>if v1 then
 some ((decide ((Log.Span p0)<(1099511627776:Int))))
 else
 some (false):Option Bool).bind fun v1=>((zaD 4 (Log.Mem p0)).bind fun v3=>(zaD 24 (Log.Lst p0)).bind fun v5=>some ((Log.Span p0,v3,v5)):Option (Int×(List Int)×(List Undo))).bind fun v2=>if !v1 then
 some ((Log.mk v2.2.1 v2.1 v2.2.2,(1:Int)))
 else
 some ((Log.mk v2.2.1 (w64 (v2.1 + (1:Int))) v2.2.2,(0:Int)))
def zgc:FnT:=⟨[tLog],[tLog,.int .i64],fun x=>zfb x⟩
def zi0:TA :=
 .sub0 [.bool] (.call 83 zaS [.v 0] 1<|.ite (.v 1) (.prim (.fld 1) [.v 0]<|.prim (.bin .lss) [.v 2,.c (.int .i64 1099511627776)]<|.jmp 0 false [.v 3]) (.jmp 0 false [.c (.bool false)])) 1<|.sub0 [.int .i64,.sl (.int .u32),.sl zbs] (.prim (.fld 0) [.v 0]<|.prim (.clone 4) [.v 2]<|.prim (.fld 2) [.v 0]<|.prim (.clone 24) [.v 4]<|.prim (.fld 0) [.v 0]<|.prim (.fld 1) [.v 0]<|.prim (.fld 2) [.v 0]<|.jmp 0 false [.v 7,.v 3,.v 5]) 3<|.prim (.un .not) [.v 1]<|.ite (.v 5) (.mkS zjK [.v 3,.v 2,.v 4]<|.jmp 0 false [.v 6,.c (.int .i64 1)]) (.prim (.bin .add) [.v 2,.c (.int .i64 1)]<|.mkS zjK [.v 3,.v 6,.v 4]<|.jmp 0 false [.v 7,.c (.int .i64 0)])
theorem zoS:zaE cx 12 36=some zi0.erase:=by kernel_rfl
theorem zph:FnOk cx 12 noC 36 zgc:=zcf (t:=zi0) zoS (fun _=>rfl) (zbX [(83,zaS)] (by kernel_rfl) (.cons zdw .nil)) (fun x=>by kernel_rfl)
def zdu (x1:Int) (x5:List Undo) (s:(Int×Int×(List Int))):Option ((Int×Int×(List Int))⊕(Int×(List Int))) :=
 (if decide ((0:Int)<s.1) then
 (zm6 (0:Int) s.2.1 (w64 (s.1 - (1:Int)))).bind fun v16=>(getO x5 v16).bind fun v17=>some ((decide (x1≤(Undo.Span v17))))
 else
 some (false):Option Bool).bind fun v14=>if v14 then
 (zm6 (0:Int) s.2.1 (w64 (s.1 - (1:Int)))).bind fun v16=>(getO x5 v16).bind fun v17=>(zmO (List.length x5:Int) (0:Int) (0:Int) (w64 (s.1 - (1:Int)))).bind fun v22=>(idxO (List.length s.2.2:Int) (Undo.At v17)).bind fun v23=>(setO s.2.2 v23 (Undo.Val v17)).bind fun v24=>some (Sum.inl (w64 (s.1 - (1:Int)),v22,v24))
 else
 some (Sum.inr ((s.2.1,s.2.2)))
def zfj (p0:Log) (p1:Int):Option (Log×Int) :=
 ((zcc p0).bind fun v2=>if v2 then
 some ((zaK p1 (Log.Span p0)))
 else
 some (false):Option Bool).bind fun v2=>((zaD 4 (Log.Mem p0)).bind fun v4=>(zaD 24 (Log.Lst p0)).bind fun v6=>some ((Log.Span p0,v4,v6)):Option (Int×(List Int)×(List Undo))).bind fun v3=>if !v2 then
 some ((Log.mk v3.2.1 v3.1 v3.2.2,(1:Int)))
 else
 (zaA (zdu p1 v3.2.2) ((List.length v3.2.2:Int),(List.length v3.2.2:Int),v3.2.1):Option (Int×(List Int))).bind fun v8=>(subO v3.2.2 (0:Int) v8.1).bind fun v10=>some ((Log.mk v8.2 p1 v10,(0:Int)))
def zgk:FnT:=⟨[tLog,.int .i64],[tLog,.int .i64],fun x=>zfj x.1 x.2⟩
def zjt:TA :=
 .sub0 [.bool] (.call 83 zaS [.v 0] 1<|.ite (.v 2) (.prim (.fld 1) [.v 0]<|.callp 86 zbP [.v 1,.v 3] 1<|.jmp 0 false [.v 4]) (.jmp 0 false [.c (.bool false)])) 1<|.sub0 [.int .i64,.sl (.int .u32),.sl zbs] (.prim (.fld 0) [.v 0]<|.prim (.clone 4) [.v 3]<|.prim (.fld 2) [.v 0]<|.prim (.clone 24) [.v 5]<|.prim (.fld 0) [.v 0]<|.prim (.fld 1) [.v 0]<|.prim (.fld 2) [.v 0]<|.jmp 0 false [.v 8,.v 4,.v 6]) 3<|.prim (.un .not) [.v 2]<|.ite (.v 6) (.mkS zjK [.v 4,.v 3,.v 5]<|.jmp 0 false [.v 7,.c (.int .i64 1)]) (.prim .len [.v 5]<|.sub0 [.int .i64,.sl (.int .u32)] (.subp [.int .i64,.int .i64,.sl (.int .u32)] (.prim .len [.v 5]<|.jmp 0 false [.v 7,.v 8,.v 4]) 3<|.loop [.int .i64,.int .i64,.sl (.int .u32)] [.v 8,.v 9,.v 10] (.sub0 [.bool] (.prim (.bin .gtr) [.v 11,.c (.int .i64 0)]<|.ite (.v 14) (.prim (.bin .sub) [.v 11,.c (.int .i64 1)]<|.prim .idxv [.c (.int .i64 0),.v 12,.v 15]<|.prim .get [.v 5,.v 16]<|.prim (.fld 0) [.v 17]<|.prim (.bin .geq) [.v 18,.v 1]<|.jmp 0 false [.v 19]) (.jmp 0 false [.c (.bool false)])) 1<|.ite (.v 14) (.prim (.bin .sub) [.v 11,.c (.int .i64 1)]<|.prim .idxv [.c (.int .i64 0),.v 12,.v 15]<|.prim .get [.v 5,.v 16]<|.prim (.fld 1) [.v 17]<|.prim (.fld 2) [.v 17]<|.prim (.bin .sub) [.v 11,.c (.int .i64 1)]<|.prim .vlen [.c (.int .i64 0),.v 12]<|.prim .rngv [.v 5,.c (.int .i64 0),.c (.int .i64 0),.v 20]<|.prim .idx [.v 13,.v 18]<|.prim .set [.v 13,.v 23,.v 19]<|.prim (.bin .sub) [.v 11,.c (.int .i64 1)]<|.jmp 0 true [.v 25,.v 22,.v 24]) (.jmp 1 false [.v 12,.v 13]))) 2<|.prim .sub [.v 5,.c (.int .i64 0),.v 8]<|.mkS zjK [.v 9,.v 1,.v 10]<|.jmp 0 false [.v 11,.c (.int .i64 0)])
theorem zpF:zaE cx 12 37=some zjt.erase:=by kernel_rfl
theorem zpe:FnOk cx 12 noC 37 zgk:=zcf (t:=zjt) zpF (fun _=>rfl) (zbX [(83,zaS),(86,zbP.fn)] (by kernel_rfl) (.cons zdw (.cons zgg .nil))) (fun x=>by kernel_rfl)
def zdv (x1:Int) (s:(Int×Int×(List Undo))):Option ((Int×Int×(List Undo))⊕(Int×(List Undo))) :=
 if decide (s.2.1<(List.length s.2.2:Int)) then
 (idxO (List.length s.2.2:Int) s.2.1).bind fun v15=>(getO s.2.2 v15).bind fun v16=>(if !(decide ((Undo.Span v16)<x1)) then
 (idxO (List.length s.2.2:Int) s.1).bind fun v19=>(setO s.2.2 v19 v16).bind fun v20=>some ((w64 (s.1 + (1:Int)),v20))
 else
 some ((s.1,s.2.2)):Option (Int×(List Undo))).bind fun v19=>some (Sum.inl (v19.1,w64 (s.2.1 + (1:Int)),v19.2))
 else
 some (Sum.inr ((s.1,s.2.2)))
def zdy (x1:Int) (x5:List Undo) (x7:Int) (s:Int):Option (Int⊕Unit⊕Int) :=
 if decide (s<x7) then
 (idxO (List.length x5:Int) s).bind fun v10=>(getO x5 v10).bind fun v11=>if decide ((Undo.Span v11)<x1) then
 some (Sum.inr (Sum.inr (s)))
 else
 some (Sum.inl (w64 (s + (1:Int))))
 else
 some (Sum.inr (Sum.inl ()))
def zeT (p0:Log) (p1:Int):Option (Log×Int) :=
 ((zcc p0).bind fun v2=>if v2 then
 some ((zaK p1 (Log.Span p0)))
 else
 some (false):Option Bool).bind fun v2=>((zaD 4 (Log.Mem p0)).bind fun v4=>(zaD 24 (Log.Lst p0)).bind fun v6=>some ((Log.Span p0,v4,v6)):Option (Int×(List Int)×(List Undo))).bind fun v3=>if !v2 then
 some ((Log.mk v3.2.1 v3.1 v3.2.2,(1:Int)))
 else
 ((let v7:Int:=(List.length v3.2.2:Int)
 zb6 (zaA (zdy p1 v3.2.2 v7) (0:Int):Option (Unit⊕Int)) fun v8=>some ((-1:Int)):Option Int).bind fun v7=>if decide (v7=(-1:Int)) then
 some (((List.length v3.2.2:Int),v3.2.2))
 else
 (zaA (zdv p1) (v7,w64 (v7 + (1:Int)),v3.2.2):Option (Int×(List Undo))).bind fun v10=>(rngO (List.length v10.2:Int) v10.1 (List.length v10.2:Int)).bind fun v13=>(subO v10.2 v10.1 v13).bind fun v14=>(zoE v10.2 v10.1 v13 (List.replicate (List.length v14) (Undo.mk (0:Int) (0:Int) (0:Int)))).bind fun v16=>(rngO (List.length v16:Int) (0:Int) v10.1).bind fun v18=>some ((v18,v16)):Option (Int×(List Undo))).bind fun v7=>(subO v7.2 (0:Int) v7.1).bind fun v9=>some ((Log.mk v3.2.1 v3.1 v9,(0:Int)))
def zgd:FnT:=⟨[tLog,.int .i64],[tLog,.int .i64],fun x=>zeT x.1 x.2⟩
def zi4:TA :=
 .sub0 [.bool] (.call 83 zaS [.v 0] 1<|.ite (.v 2) (.prim (.fld 1) [.v 0]<|.callp 86 zbP [.v 1,.v 3] 1<|.jmp 0 false [.v 4]) (.jmp 0 false [.c (.bool false)])) 1<|.sub0 [.int .i64,.sl (.int .u32),.sl zbs] (.prim (.fld 0) [.v 0]<|.prim (.clone 4) [.v 3]<|.prim (.fld 2) [.v 0]<|.prim (.clone 24) [.v 5]<|.prim (.fld 0) [.v 0]<|.prim (.fld 1) [.v 0]<|.prim (.fld 2) [.v 0]<|.jmp 0 false [.v 8,.v 4,.v 6]) 3<|.prim (.un .not) [.v 2]<|.ite (.v 6) (.mkS zjK [.v 4,.v 3,.v 5]<|.jmp 0 false [.v 7,.c (.int .i64 1)]) (.sub0 [.int .i64,.sl zbs] (.sub0 [.int .i64] (.prim .len [.v 5]<|.sub1 [] (.loop [.int .i64] [.c (.int .i64 0)] (.prim (.bin .lss) [.v 8,.v 7]<|.ite (.v 9) (.prim .idx [.v 5,.v 8]<|.prim .get [.v 5,.v 10]<|.subp [.bool] (.prim (.fld 0) [.v 11]<|.prim (.bin .lss) [.v 12,.v 1]<|.jmp 0 false [.v 13]) 1<|.ite (.v 12) (.jmp 2 false [.v 8]) (.prim (.bin .add) [.v 8,.c (.int .i64 1)]<|.jmp 0 true [.v 13])) (.jmp 1 false []))) 0<|.jmp 0 false [.c (.int .i64 (-1))]) 1<|.prim (.bin .eql) [.v 7,.c (.int .i64 (-1))]<|.ite (.v 8) (.prim .len [.v 5]<|.jmp 0 false [.v 9,.v 5]) (.prim (.bin .add) [.v 7,.c (.int .i64 1)]<|.sub0 [.int .i64,.sl zbs] (.loop [.int .i64,.int .i64,.sl zbs] [.v 7,.v 9,.v 5] (.prim .len [.v 12]<|.prim (.bin .lss) [.v 11,.v 13]<|.ite (.v 14) (.prim .idx [.v 12,.v 11]<|.prim .get [.v 12,.v 15]<|.subp [.bool] (.prim (.fld 0) [.v 16]<|.prim (.bin .lss) [.v 17,.v 1]<|.jmp 0 false [.v 18]) 1<|.prim (.un .not) [.v 17]<|.sub0 [.int .i64,.sl zbs] (.ite (.v 18) (.prim .idx [.v 12,.v 10]<|.prim .set [.v 12,.v 19,.v 16]<|.prim (.bin .add) [.v 10,.c (.int .i64 1)]<|.jmp 0 false [.v 21,.v 20]) (.jmp 0 false [.v 10,.v 12])) 2<|.prim (.bin .add) [.v 11,.c (.int .i64 1)]<|.jmp 0 true [.v 19,.v 21,.v 20]) (.jmp 1 false [.v 10,.v 12]))) 2<|.prim .len [.v 11]<|.prim .rng [.v 11,.v 10,.v 12]<|.prim .sub [.v 11,.v 10,.v 13]<|.prim (.clr (.agg [(.int .i64 0),(.int .i64 0),(.int .u32 0)])) [.v 14]<|.prim .cpyv [.v 11,.v 10,.v 13,.v 15]<|.prim .len [.v 16]<|.prim .rng [.v 16,.c (.int .i64 0),.v 10]<|.jmp 0 false [.v 18,.v 16])) 2<|.prim .sub [.v 8,.c (.int .i64 0),.v 7]<|.mkS zjK [.v 4,.v 3,.v 9]<|.jmp 0 false [.v 10,.c (.int .i64 0)])
theorem zo2:zaE cx 12 38=some zi4.erase:=by kernel_rfl
theorem zpA:FnOk cx 12 noC 38 zgd:=zcf (t:=zi4) zo2 (fun _=>rfl) (zbX [(83,zaS),(86,zbP.fn)] (by kernel_rfl) (.cons zdw (.cons zgg .nil))) (fun x=>by kernel_rfl)
def zea (x4:List (List Int)) (x5:Int) (s:(Int×(List (List Int)))):Option ((Int×(List (List Int)))⊕(List (List Int))) :=
 if decide (s.1<x5) then
 (getO x4 s.1).bind fun v9=>(zaD 4 v9).bind fun v10=>(appO 24 s.2 ([v10]:List (List Int))).bind fun v12=>some (Sum.inl (w64 (s.1 + (1:Int)),v12))
 else
 some (Sum.inr (s.2))
def zed (p0:Banks) (p1:Int):Option Bool :=
 ((zcA p0).bind fun v2=>if v2 then
 if decide ((0:Int)≤p1) then
 some ((decide (p1<(List.length (Banks.Rows p0):Int))))
 else
 some (false)
 else
 some (false):Option Bool).bind fun v2=>some (v2)
def zcB:FnT:=⟨[zas,.int .i64],[.bool],fun x=>zed x.1 x.2⟩
def ziw:TA :=
 .sub0 [.bool] (.call 76 zbA [.v 0] 1<|.ite (.v 2) (.prim (.bin .geq) [.v 1,.c (.int .i64 0)]<|.ite (.v 3) (.prim (.fld 0) [.v 0]<|.prim .len [.v 4]<|.prim (.bin .lss) [.v 1,.v 5]<|.jmp 0 false [.v 6]) (.jmp 0 false [.c (.bool false)])) (.jmp 0 false [.c (.bool false)])) 1<|.jmp 0 false [.v 2]
theorem zmL:zaE cx 12 114=some ziw.erase:=by kernel_rfl
theorem zh7:FnOk cx 12 noC 114 zcB:=zcf (t:=ziw) zmL (fun _=>rfl) (zbX [(76,zbA)] (by kernel_rfl) (.cons zfS .nil)) (fun x=>by kernel_rfl)
end Go.Proofs.Ytlgjbfdojbmmgaa
