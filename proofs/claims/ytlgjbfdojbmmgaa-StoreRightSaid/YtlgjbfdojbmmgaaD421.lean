/- The types of this cut, and its functions as functions of plain typed data. Printed by a program of this claim's prover; each is checked here to be what the executor makes of the code. -/
import Derived.Test.YtlgjbfdojbmmgaaProg
import Derived.Test.YtlgjbfdojbmmgaaLim
import Derived.KernelRfl
set_option linter.unusedVariables false
set_option maxRecDepth 100000
noncomputable section
namespace Go.Proofs.Ytlgjbfdojbmmgaa
open Go.SX
abbrev zlE:List Ty:=[.int .i64,.int .i64]
abbrev zbs:Ty:=.st zlE
abbrev store_key:Type:=Int×Int
def store_key.mk (span:Int) (at_:Int):store_key:=(span,at_)
def store_key.span (x:store_key):Int:=x.1
def store_key.at_ (x:store_key):Int:=x.2
@[simp] theorem store_key.span_mk (span:Int) (at_:Int):store_key.span (store_key.mk span at_)=span:=rfl
@[simp] theorem store_key.at__mk (span:Int) (at_:Int):store_key.at_ (store_key.mk span at_)=at_:=rfl
@[simp] theorem store_key.eta (x:store_key):store_key.mk (store_key.span x) (store_key.at_ x)=x:=rfl
abbrev zf1:List Ty:=[.int .i64,.int .i64,.bool,.int .u8]
abbrev zc3:Ty:=.st zf1
abbrev zxQ:List Ty:=[.int .i64,.bool,.bool,.bool,.bool,.bool,.int .i64,.int .i64,.int .u32]
abbrev zv7:Ty:=.st zxQ
abbrev zus:List Ty:=[.int .i64,.int .i64,.int .u32]
abbrev zbt:Ty:=.st zus
abbrev Undo:Type:=Int×Int×Int
def Undo.mk (Span:Int) (At:Int) (Val:Int):Undo:=(Span,At,Val)
def Undo.Span (x:Undo):Int:=x.1
def Undo.At (x:Undo):Int:=x.2.1
def Undo.Val (x:Undo):Int:=x.2.2
@[simp] theorem Undo.Span_mk (Span:Int) (At:Int) (Val:Int):Undo.Span (Undo.mk Span At Val)=Span:=rfl
@[simp] theorem Undo.At_mk (Span:Int) (At:Int) (Val:Int):Undo.At (Undo.mk Span At Val)=At:=rfl
@[simp] theorem Undo.Val_mk (Span:Int) (At:Int) (Val:Int):Undo.Val (Undo.mk Span At Val)=Val:=rfl
@[simp] theorem Undo.eta (x:Undo):Undo.mk (Undo.Span x) (Undo.At x) (Undo.Val x)=x:=rfl
abbrev zc5:List Ty:=[.str,.int .u64]
abbrev zbB:Ty:=.st zc5
abbrev zyf:List Ty:=[.int .i64,.int .i64,.int .i64,.int .i64,.int .i64,.int .i64,.bool,.int .u32,.int .u32]
abbrev tMsg:Ty:=.st zyf
abbrev zu0:List Ty:=[.int .u8,.int .u8,.int .u8,.int .u8,.bool,.int .u32]
abbrev zor:Ty:=.st zu0
abbrev zwf:List Ty:=[.int .u8,.int .u8,.int .u8,.int .u32]
abbrev zrp:Ty:=.st zwf
abbrev zxu:List Ty:=[.int .i64,.sl .bool]
abbrev zsc:Ty:=.st zxu
abbrev zaD:List Ty:=[.sl (.sl (.int .u32)),.sl (.int .u32),.int .i64]
abbrev zai:Ty:=.st zaD
abbrev Banks:Type:=(List (List Int))×(List Int)×Int
def Banks.mk (Rows:List (List Int)) (Par:List Int) (Lost:Int):Banks:=(Rows,Par,Lost)
def Banks.Rows (x:Banks):List (List Int):=x.1
def Banks.Par (x:Banks):List Int:=x.2.1
def Banks.Lost (x:Banks):Int:=x.2.2
def Banks.setLost (x:Banks) (v:Int):Banks:=(x.1,x.2.1,v)
@[simp] theorem Banks.Rows_mk (Rows:List (List Int)) (Par:List Int) (Lost:Int):Banks.Rows (Banks.mk Rows Par Lost)=Rows:=rfl
@[simp] theorem Banks.Par_mk (Rows:List (List Int)) (Par:List Int) (Lost:Int):Banks.Par (Banks.mk Rows Par Lost)=Par:=rfl
@[simp] theorem Banks.Lost_mk (Rows:List (List Int)) (Par:List Int) (Lost:Int):Banks.Lost (Banks.mk Rows Par Lost)=Lost:=rfl
@[simp] theorem Banks.setLost_eq (x:Banks) (v:Int):Banks.setLost x v=Banks.mk (Banks.Rows x) (Banks.Par x) v:=rfl
@[simp] theorem Banks.eta (x:Banks):Banks.mk (Banks.Rows x) (Banks.Par x) (Banks.Lost x)=x:=rfl
abbrev zxK:List Ty:=[.sl (.sl (.int .u8))]
abbrev zxg:Ty:=.st zxK
abbrev zoB:List Ty:=[.sl (.int .u32),.int .i64,.sl zbt]
abbrev tLog:Ty:=.st zoB
abbrev Log:Type:=(List Int)×Int×(List Ytlgjbfdojbmmgaa.Undo)
def Log.mk (Mem:List Int) (Span:Int) (Lst:List Ytlgjbfdojbmmgaa.Undo):Log:=(Mem,Span,Lst)
def Log.Mem (x:Log):List Int:=x.1
def Log.Span (x:Log):Int:=x.2.1
def Log.Lst (x:Log):List Ytlgjbfdojbmmgaa.Undo:=x.2.2
@[simp] theorem Log.Mem_mk (Mem:List Int) (Span:Int) (Lst:List Ytlgjbfdojbmmgaa.Undo):Log.Mem (Log.mk Mem Span Lst)=Mem:=rfl
@[simp] theorem Log.Span_mk (Mem:List Int) (Span:Int) (Lst:List Ytlgjbfdojbmmgaa.Undo):Log.Span (Log.mk Mem Span Lst)=Span:=rfl
@[simp] theorem Log.Lst_mk (Mem:List Int) (Span:Int) (Lst:List Ytlgjbfdojbmmgaa.Undo):Log.Lst (Log.mk Mem Span Lst)=Lst:=rfl
@[simp] theorem Log.eta (x:Log):Log.mk (Log.Mem x) (Log.Span x) (Log.Lst x)=x:=rfl
abbrev za9:List Ty:=[zai,.int .i64,.int .i64,.sl zbt]
abbrev zaB:Ty:=.st za9
abbrev Vault:Type:=Ytlgjbfdojbmmgaa.Banks×Int×Int×(List Ytlgjbfdojbmmgaa.Undo)
def Vault.mk (Banks:Ytlgjbfdojbmmgaa.Banks) (Words:Int) (Span:Int) (Lst:List Ytlgjbfdojbmmgaa.Undo):Vault:=(Banks,Words,Span,Lst)
def Vault.Banks (x:Vault):Ytlgjbfdojbmmgaa.Banks:=x.1
def Vault.Words (x:Vault):Int:=x.2.1
def Vault.Span (x:Vault):Int:=x.2.2.1
def Vault.Lst (x:Vault):List Ytlgjbfdojbmmgaa.Undo:=x.2.2.2
def Vault.setBanks (x:Vault) (v:Ytlgjbfdojbmmgaa.Banks):Vault:=(v,x.2.1,x.2.2.1,x.2.2.2)
def Vault.setSpan (x:Vault) (v:Int):Vault:=(x.1,x.2.1,v,x.2.2.2)
def Vault.setLst (x:Vault) (v:List Ytlgjbfdojbmmgaa.Undo):Vault:=(x.1,x.2.1,x.2.2.1,v)
@[simp] theorem Vault.Banks_mk (Banks:Ytlgjbfdojbmmgaa.Banks) (Words:Int) (Span:Int) (Lst:List Ytlgjbfdojbmmgaa.Undo):Vault.Banks (Vault.mk Banks Words Span Lst)=Banks:=rfl
@[simp] theorem Vault.Words_mk (Banks:Ytlgjbfdojbmmgaa.Banks) (Words:Int) (Span:Int) (Lst:List Ytlgjbfdojbmmgaa.Undo):Vault.Words (Vault.mk Banks Words Span Lst)=Words:=rfl
@[simp] theorem Vault.Span_mk (Banks:Ytlgjbfdojbmmgaa.Banks) (Words:Int) (Span:Int) (Lst:List Ytlgjbfdojbmmgaa.Undo):Vault.Span (Vault.mk Banks Words Span Lst)=Span:=rfl
@[simp] theorem Vault.Lst_mk (Banks:Ytlgjbfdojbmmgaa.Banks) (Words:Int) (Span:Int) (Lst:List Ytlgjbfdojbmmgaa.Undo):Vault.Lst (Vault.mk Banks Words Span Lst)=Lst:=rfl
@[simp] theorem Vault.setBanks_eq (x:Vault) (v:Ytlgjbfdojbmmgaa.Banks):Vault.setBanks x v=Vault.mk v (Vault.Words x) (Vault.Span x) (Vault.Lst x):=rfl
@[simp] theorem Vault.setSpan_eq (x:Vault) (v:Int):Vault.setSpan x v=Vault.mk (Vault.Banks x) (Vault.Words x) v (Vault.Lst x):=rfl
@[simp] theorem Vault.setLst_eq (x:Vault) (v:List Ytlgjbfdojbmmgaa.Undo):Vault.setLst x v=Vault.mk (Vault.Banks x) (Vault.Words x) (Vault.Span x) v:=rfl
@[simp] theorem Vault.eta (x:Vault):Vault.mk (Vault.Banks x) (Vault.Words x) (Vault.Span x) (Vault.Lst x)=x:=rfl
abbrev zxz:List Ty:=[.sl (.sl (.int .i64)),.sl (.sl (.int .u32)),.sl zv7,.sl (.int .u32),.sl zsc,.sl (.int .i64),zxg]
abbrev zvl:Ty:=.st zxz
abbrev zmA:List Ty:=[zvl]
abbrev zib:Ty:=.st zmA
def tys:List Ty:=[.no,.no,.int .i64,.int .i64,.bool,.int .u8,.int .u8,zc3,zc3,.str,.str,.str,.int .u64,zbB,zbB,.no,.no,.no,.no,.no,.no,.int .i32,.sl (.sl (.int .u32)),.sl (.int .u32),zai,zai,.sl zbt,zaB,zaB,.int .u32,.no,.no,.int .i64,.no,.no,.no,.no,.no,.no,.no,.no,.no,.no,.no,.no,.no,.no,.no,.no,.no,.no,.no,.no,.no,.sl zrp,zrp,zrp,.no,tLog,tLog,.no,.no,.no,.no,.no,zbt,zbt,.sl zor,.sl (.sl (.int .i64)),.sl zv7,.sl zsc,.sl (.int .i64),.sl (.sl (.int .u8)),zxg,zxg,zvl,zvl,.no,.no,.no,zor,zor,.no,.no,.no,.no,.no,.no,.no,.no,.sl .bool,zsc,zsc,.no,.no,.no,.no,.no,.no,.no,.no,.no,.no,.no,.no,.no,.no,.no,.no,.no,.no,.no,.no,.no,.no,.no,.no,.no,.no,.no,.no,.no,.no,.no,.no,.no,.no,.no,.no,.no,.no,.no,.no,zv7,zv7,.no,.no,zib,zib,.no,.no,.no,.no,tMsg,tMsg,.no,.no,.no,.no,.no,.no,.no,.no,.no,.no,.no,.no,.no,.no,.no,.no,.no,.no,.no,.no,zbs,zbs,.no,.no,.arr 2 (.int .i64),.no,.no,.no,.no,.no,.no,.no,.no,.no,.no,.no,.no,.sl (.int .u8),.no,.no,.no,.no,.no,.no,.no,.no,.no,.no,.no,.no,.no,.no,.no,.no,.no,.no,.no,.no,.no,.no,.no,.no,.no,.no,.no,.no,.no,.no,.no,.no,.no,.no,.arr 4 (.int .u8),.int .u64,.no,.no,.no,.no,.no,.no,.no,.no,.no,.no,.no,.no,.no,.no,.int .u8,.int .u8,.no,.no,.int .i32,.int .i32,.no,.no,.no]
def cx:Cx:={ P:=Try.prog,ty:=tys,own:=[],inl:=[53,63,68,84,92,107,108,113,120,126,127,128,129,130,131,153,156,157,166,174,175,178,180,183],keepL:=[],absL:=[53,68,84,92,119,120,126,127,131,156,162,166,173],lendL:=[79],freshL:=[119],owL:=[],bk:=[(113,26,66)],heads:=[(33,[(3,60,⟨4,0,zdy 96 0 [(2,.p zai zai 0 []),(3,.p zai zai 1 []),(4,.d .bool (.c (.bool false))),(5,.d (.int .i64) (.v 3))],[.box zai (.d zai (.v 0)),.box zai (.d zai (.v 1))]⟩),
 (3,92,⟨4,0,zdy 96 0 [(2,.p zai zai 0 []),(3,.p zai zai 1 []),(4,.d .bool (.c (.bool false))),(6,.d (.int .i64) (.v 3))],[.box zai (.d zai (.v 0)),.box zai (.d zai (.v 1))]⟩),
 (14,220,⟨15,0,zdy 96 0 [(2,.p zai zai 0 []),(3,.p zai zai 1 []),(4,.d .bool (.c (.bool false))),(6,.d (.int .i64) (.v 3)),(7,.d (.int .i64) (.v 14))],[.box zai (.d zai (.v 0)),.box zai (.d zai (.v 1))]⟩)]),
 (64,[(5,14983475960261640694,⟨7,0,zdy 101 0 [(1,.d (.int .i64) (.v 1)),(2,.p tLog tLog 0 []),(4,.p tLog tLog 1 []),(5,.d (.int .i64) (.c (.int .i64 0))),(6,.h (.int .u32) 2 none),(7,.d (.sl zbt) (.c .nil)),(8,.d (.int .i64) (.v 5))],[.box tLog (.d tLog (.v 0)),.box tLog (.d tLog (.c (.agg [.nil,(.int .i64 0),.nil]))),.row (.int .u32) (.v 6)]⟩),
 (9,14983475960261642230,⟨12,0,zdy 101 0 [(1,.d (.int .i64) (.v 1)),(2,.p tLog tLog 0 []),(4,.p tLog tLog 1 []),(5,.d (.int .i64) (.c (.int .i64 0))),(6,.h (.int .u32) 2 none),(7,.d (.sl zbt) (.c .nil)),(8,.d (.int .i64) (.v 5)),(9,.d .bool (.v 9)),(10,.d (.int .i64) (.v 10))],[.box tLog (.d tLog (.v 0)),.box tLog (.d tLog (.c (.agg [.nil,(.int .i64 0),.nil]))),.row (.int .u32) (.v 11)]⟩),
 (6,2294,⟨8,0,zdy 101 0 [(1,.d (.int .i64) (.v 1)),(2,.p tLog tLog 0 []),(4,.p tLog tLog 1 []),(5,.d (.int .i64) (.c (.int .i64 0))),(6,.h (.int .u32) 2 none),(7,.h zbt 3 none),(11,.d (.int .i64) (.v 6))],[.box tLog (.d tLog (.v 0)),.box tLog (.d tLog (.c (.agg [.nil,(.int .i64 0),.nil]))),.row (.int .u32) (.v 5),.row zbt (.v 7)]⟩)]),
 (74,[(2,79227255524751721442310094862,⟨3,0,zdy 97 0 [(1,.p zai zai 0 []),(2,.d .bool (.c (.bool false))),(3,.d (.int .i64) (.v 2))],[.box zai (.d zai (.v 0))]⟩),
 (2,79227255524751721442310094870,⟨3,0,zdy 97 0 [(1,.p zai zai 0 []),(2,.d .bool (.c (.bool false))),(4,.d (.int .i64) (.v 2))],[.box zai (.d zai (.v 0))]⟩)]),
 (75,[(2,161942369014637331576634822623246,⟨3,0,zdy 108 0 [(1,.p tLog tLog 0 []),(2,.d .bool (.c (.bool false))),(3,.d (.int .i64) (.v 2))],[.box tLog (.d tLog (.v 0))]⟩),
 (9,161942369014637331576634822623294,⟨10,0,zdy 108 0 [(1,.p tLog tLog 0 []),(2,.d .bool (.c (.bool false))),(3,.d (.int .i64) (.v 2)),(4,.p zbt zbt 1 []),(5,.d (.int .i64) (.v 9))],[.box tLog (.d tLog (.v 0)),.box zbt (.d zbt (.v 7))]⟩)])] }
theorem tyOk:TysOk cx:=zvQ (by kernel_rfl) (List.forall_mem_cons.2 ⟨⟨_,_,_,_,_,_,_,_,_,_,_,_,_,_,⟨rfl,rfl,rfl,rfl,rfl,rfl,rfl,rfl,rfl⟩⟩,fun _ h=>nomatch h⟩)
theorem mixed:Try.prog.follows .mixedOrders=true:=by kernel_rfl
def noC:FuncId→List D→Option (List D):=fun _ _=>none
theorem zx1:CallsOk cx noC:=fun _ _ _ _ _ _ _ h=>by cases h
theorem zws {f:FuncId}{ds rs:List D}(k d:Nat) (h:zec cx k 12 noC d f ds=some rs):ztC cx 12 noC f ds=some rs:=(zez cx 12 noC).2 ⟨k,d,h⟩
def zd6 (x0:List Int) (x1:List Int) (s:Int):Option (Int⊕Unit⊕Bool) :=
 if decide (s<(List.length x0:Int)) then
 (getO x0 s).bind fun v8=>(getO x1 s).bind fun v9=>if !decide (v8=v9) then
 some (Sum.inr (Sum.inr (false)))
 else
 some (Sum.inl (w64 (s + (1:Int))))
 else
 some (Sum.inr (Sum.inl ()))
def zf2 (p0:List Int) (p1:List Int):Option Bool :=
 if !decide ((List.length p0:Int)=(List.length p1:Int)) then
 some (false)
 else
 zbw (zar (zd6 p0 p1) (0:Int):Option (Unit⊕Bool)) fun v5=>some (true)
def zhj:FnT:=⟨[.sl (.int .u32),.sl (.int .u32)],[.bool],fun x=>zf2 x.1 x.2⟩
def zkN:TA :=
 .prim .len [.v 0]<|.prim .len [.v 1]<|.prim (.bin .neq) [.v 2,.v 3]<|.ite (.v 4) (.jmp 0 false [.c (.bool false)]) (.sub1 [] (.loop [.int .i64] [.c (.int .i64 0)] (.prim .len [.v 0]<|.prim (.bin .lss) [.v 5,.v 6]<|.ite (.v 7) (.prim .get [.v 0,.v 5]<|.prim .get [.v 1,.v 5]<|.prim (.bin .neq) [.v 8,.v 9]<|.ite (.v 10) (.jmp 2 false [.c (.bool false)]) (.prim (.bin .add) [.v 5,.c (.int .i64 1)]<|.jmp 0 true [.v 11])) (.jmp 1 false []))) 0<|.jmp 0 false [.c (.bool true)])
theorem zq2:zaj cx 12 25=some zkN.erase:=by kernel_rfl
theorem zrX:FnOk cx 12 noC 25 zhj:=zaQ (t:=zkN) zq2 (fun _=>rfl) (zaN [] (by kernel_rfl) .nil) (fun x=>by kernel_rfl)
def zeU (x0:Banks) (x1:Banks) (x3:Int) (s:Int):Option (Int⊕Unit⊕Int⊕Unit⊕Bool) :=
 (getO (Banks.Rows x0) x3).bind fun v16=>if decide (s<(List.length v16:Int)) then
 (getO (Banks.Rows x0) x3).bind fun v20=>(getO v20 s).bind fun v21=>(getO (Banks.Rows x1) x3).bind fun v23=>(getO v23 s).bind fun v24=>if !decide (v21=v24) then
 some (Sum.inr (Sum.inr (Sum.inr (Sum.inr (false)))))
 else
 some (Sum.inl (w64 (s + (1:Int))))
 else
 some (Sum.inr (Sum.inl ()))
def zeV (x0:Banks) (x1:Banks) (s:Int):Option (Int⊕Unit⊕Bool) :=
 if decide (s<(List.length (Banks.Rows x0):Int)) then
 (getO (Banks.Rows x0) s).bind fun v8=>(getO (Banks.Rows x1) s).bind fun v11=>if !decide ((List.length v8:Int)=(List.length v11:Int)) then
 some (Sum.inr (Sum.inr (false)))
 else
 zbw (zar (zeU x0 x1 s) (0:Int):Option (Unit⊕Int⊕Unit⊕Bool)) fun v14=>some (Sum.inl (w64 (s + (1:Int))))
 else
 some (Sum.inr (Sum.inl ()))
def zfi (x0:Banks) (x1:Banks) (s:Int):Option (Int⊕Unit⊕Bool) :=
 if decide (s<(List.length (Banks.Par x0):Int)) then
 (getO (Banks.Par x0) s).bind fun v8=>(getO (Banks.Par x1) s).bind fun v10=>if !decide (v8=v10) then
 some (Sum.inr (Sum.inr (false)))
 else
 some (Sum.inl (w64 (s + (1:Int))))
 else
 some (Sum.inr (Sum.inl ()))
def zfl (p0:Banks) (p1:Banks):Option Bool :=
 if (!decide ((List.length (Banks.Rows p0):Int)=(List.length (Banks.Rows p1):Int)))||((!decide ((List.length (Banks.Par p0):Int)=(List.length (Banks.Par p1):Int)))||(!decide ((Banks.Lost p0)=(Banks.Lost p1)))) then
 some (false)
 else
 zbw (zar (zfi p0 p1) (0:Int):Option (Unit⊕Bool)) fun v3=>zbw (zar (zeV p0 p1) (0:Int):Option (Unit⊕Bool)) fun v3=>some (true)
def zco:FnT:=⟨[zai,zai],[.bool],fun x=>zfl x.1 x.2⟩
def zm1:TA :=
 .subp [.bool] (.prim (.fld 0) [.v 0]<|.prim .len [.v 2]<|.prim (.fld 0) [.v 1]<|.prim .len [.v 4]<|.prim (.bin .neq) [.v 3,.v 5]<|.ite (.v 6) (.jmp 0 false [.c (.bool true)]) (.prim (.fld 1) [.v 0]<|.prim .len [.v 7]<|.prim (.fld 1) [.v 1]<|.prim .len [.v 9]<|.prim (.bin .neq) [.v 8,.v 10]<|.ite (.v 11) (.jmp 0 false [.c (.bool true)]) (.prim (.fld 2) [.v 0]<|.prim (.fld 2) [.v 1]<|.prim (.bin .neq) [.v 12,.v 13]<|.jmp 0 false [.v 14]))) 1<|.ite (.v 2) (.jmp 0 false [.c (.bool false)]) (.sub1 [] (.loop [.int .i64] [.c (.int .i64 0)] (.prim (.fld 1) [.v 0]<|.prim .len [.v 4]<|.prim (.bin .lss) [.v 3,.v 5]<|.ite (.v 6) (.prim (.fld 1) [.v 0]<|.prim .get [.v 7,.v 3]<|.prim (.fld 1) [.v 1]<|.prim .get [.v 9,.v 3]<|.prim (.bin .neq) [.v 8,.v 10]<|.ite (.v 11) (.jmp 2 false [.c (.bool false)]) (.prim (.bin .add) [.v 3,.c (.int .i64 1)]<|.jmp 0 true [.v 12])) (.jmp 1 false []))) 0<|.sub1 [] (.loop [.int .i64] [.c (.int .i64 0)] (.prim (.fld 0) [.v 0]<|.prim .len [.v 4]<|.prim (.bin .lss) [.v 3,.v 5]<|.ite (.v 6) (.prim (.fld 0) [.v 0]<|.prim .get [.v 7,.v 3]<|.prim .len [.v 8]<|.prim (.fld 0) [.v 1]<|.prim .get [.v 10,.v 3]<|.prim .len [.v 11]<|.prim (.bin .neq) [.v 9,.v 12]<|.ite (.v 13) (.jmp 2 false [.c (.bool false)]) (.sub1 [] (.loop [.int .i64] [.c (.int .i64 0)] (.prim (.fld 0) [.v 0]<|.prim .get [.v 15,.v 3]<|.prim .len [.v 16]<|.prim (.bin .lss) [.v 14,.v 17]<|.ite (.v 18) (.prim (.fld 0) [.v 0]<|.prim .get [.v 19,.v 3]<|.prim .get [.v 20,.v 14]<|.prim (.fld 0) [.v 1]<|.prim .get [.v 22,.v 3]<|.prim .get [.v 23,.v 14]<|.prim (.bin .neq) [.v 21,.v 24]<|.ite (.v 25) (.jmp 4 false [.c (.bool false)]) (.prim (.bin .add) [.v 14,.c (.int .i64 1)]<|.jmp 0 true [.v 26])) (.jmp 1 false []))) 0<|.prim (.bin .add) [.v 3,.c (.int .i64 1)]<|.jmp 0 true [.v 14])) (.jmp 1 false []))) 0<|.jmp 0 false [.c (.bool true)])
theorem ztx:zaj cx 12 33=some zm1.erase:=by kernel_rfl
theorem zi4:FnOk cx 12 noC 33 zco:=zaQ (t:=zm1) ztx (fun _=>rfl) (zaN [] (by kernel_rfl) .nil) (fun x=>by kernel_rfl)
def zd3 (x0:Banks) (s:Int):Option (Int⊕Unit⊕Bool) :=
 if decide (s<(List.length (Banks.Rows x0):Int)) then
 (getO (Banks.Rows x0) s).bind fun v7=>if decide ((80:Int)<(List.length v7:Int)) then
 some (Sum.inr (Sum.inr (false)))
 else
 some (Sum.inl (w64 (s + (1:Int))))
 else
 some (Sum.inr (Sum.inl ()))
def zhP (p0:Banks):Option Bool :=
 if (decide ((10:Int)<(List.length (Banks.Rows p0):Int)))||(decide ((80:Int)<(List.length (Banks.Par p0):Int))) then
 some (false)
 else
 zbw (zar (zd3 p0) (0:Int):Option (Unit⊕Bool)) fun v2=>some (true)
def zhq:FnT:=⟨[zai],[.bool],fun x=>zhP x⟩
def zkD:TA :=
 .subp [.bool] (.prim (.fld 0) [.v 0]<|.prim .len [.v 1]<|.prim (.bin .gtr) [.v 2,.c (.int .i64 10)]<|.ite (.v 3) (.jmp 0 false [.c (.bool true)]) (.prim (.fld 1) [.v 0]<|.prim .len [.v 4]<|.prim (.bin .gtr) [.v 5,.c (.int .i64 80)]<|.jmp 0 false [.v 6])) 1<|.ite (.v 1) (.jmp 0 false [.c (.bool false)]) (.sub1 [] (.loop [.int .i64] [.c (.int .i64 0)] (.prim (.fld 0) [.v 0]<|.prim .len [.v 3]<|.prim (.bin .lss) [.v 2,.v 4]<|.ite (.v 5) (.prim (.fld 0) [.v 0]<|.prim .get [.v 6,.v 2]<|.prim .len [.v 7]<|.prim (.bin .gtr) [.v 8,.c (.int .i64 80)]<|.ite (.v 9) (.jmp 2 false [.c (.bool false)]) (.prim (.bin .add) [.v 2,.c (.int .i64 1)]<|.jmp 0 true [.v 10])) (.jmp 1 false []))) 0<|.jmp 0 false [.c (.bool true)])
theorem zrF:zaj cx 12 52=some zkD.erase:=by kernel_rfl
theorem zqZ:FnOk cx 12 noC 52 zhq:=zaQ (t:=zkD) zrF (fun _=>rfl) (zaN [] (by kernel_rfl) .nil) (fun x=>by kernel_rfl)
def zeG (x0:Log) (x1:Log) (s:Int):Option (Int⊕Unit⊕Bool) :=
 if decide (s<(List.length (Log.Lst x0):Int)) then
 (getO (Log.Lst x0) s).bind fun v8=>(getO (Log.Lst x1) s).bind fun v10=>if !(@decide (v8=v10) (Ty.dec zbt _ _)) then
 some (Sum.inr (Sum.inr (false)))
 else
 some (Sum.inl (w64 (s + (1:Int))))
 else
 some (Sum.inr (Sum.inl ()))
def zfk (x0:Log) (x1:Log) (s:Int):Option (Int⊕Unit⊕Bool) :=
 if decide (s<(List.length (Log.Mem x0):Int)) then
 (getO (Log.Mem x0) s).bind fun v8=>(getO (Log.Mem x1) s).bind fun v10=>if !decide (v8=v10) then
 some (Sum.inr (Sum.inr (false)))
 else
 some (Sum.inl (w64 (s + (1:Int))))
 else
 some (Sum.inr (Sum.inl ()))
def zkm (p0:Log) (p1:Log):Option Bool :=
 if (!decide ((List.length (Log.Mem p0):Int)=(List.length (Log.Mem p1):Int)))||((!decide ((Log.Span p0)=(Log.Span p1)))||(!decide ((List.length (Log.Lst p0):Int)=(List.length (Log.Lst p1):Int)))) then
 some (false)
 else
 zbw (zar (zfk p0 p1) (0:Int):Option (Unit⊕Bool)) fun v3=>zbw (zar (zeG p0 p1) (0:Int):Option (Unit⊕Bool)) fun v3=>some (true)
def ziF:FnT:=⟨[tLog,tLog],[.bool],fun x=>zkm x.1 x.2⟩
def zmR:TA :=
 .subp [.bool] (.prim (.fld 0) [.v 0]<|.prim .len [.v 2]<|.prim (.fld 0) [.v 1]<|.prim .len [.v 4]<|.prim (.bin .neq) [.v 3,.v 5]<|.ite (.v 6) (.jmp 0 false [.c (.bool true)]) (.prim (.fld 1) [.v 0]<|.prim (.fld 1) [.v 1]<|.prim (.bin .neq) [.v 7,.v 8]<|.ite (.v 9) (.jmp 0 false [.c (.bool true)]) (.prim (.fld 2) [.v 0]<|.prim .len [.v 10]<|.prim (.fld 2) [.v 1]<|.prim .len [.v 12]<|.prim (.bin .neq) [.v 11,.v 13]<|.jmp 0 false [.v 14]))) 1<|.ite (.v 2) (.jmp 0 false [.c (.bool false)]) (.sub1 [] (.loop [.int .i64] [.c (.int .i64 0)] (.prim (.fld 0) [.v 0]<|.prim .len [.v 4]<|.prim (.bin .lss) [.v 3,.v 5]<|.ite (.v 6) (.prim (.fld 0) [.v 0]<|.prim .get [.v 7,.v 3]<|.prim (.fld 0) [.v 1]<|.prim .get [.v 9,.v 3]<|.prim (.bin .neq) [.v 8,.v 10]<|.ite (.v 11) (.jmp 2 false [.c (.bool false)]) (.prim (.bin .add) [.v 3,.c (.int .i64 1)]<|.jmp 0 true [.v 12])) (.jmp 1 false []))) 0<|.sub1 [] (.loop [.int .i64] [.c (.int .i64 0)] (.prim (.fld 2) [.v 0]<|.prim .len [.v 4]<|.prim (.bin .lss) [.v 3,.v 5]<|.ite (.v 6) (.prim (.fld 2) [.v 0]<|.prim .get [.v 7,.v 3]<|.prim (.fld 2) [.v 1]<|.prim .get [.v 9,.v 3]<|.prim .eqv [.v 8,.v 10]<|.prim (.un .not) [.v 11]<|.ite (.v 12) (.jmp 2 false [.c (.bool false)]) (.prim (.bin .add) [.v 3,.c (.int .i64 1)]<|.jmp 0 true [.v 13])) (.jmp 1 false []))) 0<|.jmp 0 false [.c (.bool true)])
theorem ztD:zaj cx 12 61=some zmR.erase:=by kernel_rfl
theorem zug:FnOk cx 12 noC 61 ziF:=zaQ (t:=zmR) ztD (fun _=>rfl) (zaN [] (by kernel_rfl) .nil) (fun x=>by kernel_rfl)
def zeC (p0:Int) (p1:Int):Option Int :=
 (quoO .i64 (w64 ((w64 (p0 + p1)) - (1:Int))) p1).bind fun v4=>some (v4)
def zcQ:FnT:=⟨[.int .i64,.int .i64],[.int .i64],fun x=>zeC x.1 x.2⟩
def zjQ:TA :=
 .prim (.bin .add) [.v 0,.v 1]<|.prim (.bin .sub) [.v 2,.c (.int .i64 1)]<|.prim (.bin .quo) [.v 3,.v 1]<|.jmp 0 false [.v 4]
theorem zpi:zaj cx 12 69=some zjQ.erase:=by kernel_rfl
theorem zjD:FnOk cx 12 noC 69 zcQ:=zaQ (t:=zjQ) zpi (fun _=>rfl) (zaN [] (by kernel_rfl) .nil) (fun x=>by kernel_rfl)
def zdk (x0:Int) (x1:Int) (s:(Int×(List (List Int)))):Option ((Int×(List (List Int)))⊕(List (List Int))) :=
 if decide (s.1<x0) then
 (repO (0:Int) 4 x1 x1).bind fun v7=>(appO 24 s.2 ([v7]:List (List Int))).bind fun v9=>some (Sum.inl (w64 (s.1 + (1:Int)),v9))
 else
 some (Sum.inr (s.2))
def zod (p0:Int) (p1:Int):Option (Banks×Int) :=
 if (decide (p0<(1:Int)))||((decide ((8:Int)<p0))||((decide (p1<(1:Int)))||(decide ((64:Int)<p1)))) then
 some (((Banks.mk ([]:List (List Int)) ([]:List Int) (0:Int)),(1:Int)))
 else
 (repO (0:Int) 4 p1 p1).bind fun v3=>(zar (zdk p0 p1) ((0:Int),([]:List (List Int))):Option (List (List Int))).bind fun v4=>some ((Banks.mk v4 v3 (0:Int),(0:Int)))
def zkK:FnT:=⟨[.int .i64,.int .i64],[zai,.int .i64],fun x=>zod x.1 x.2⟩
def zoY:TA :=
 .subp [.bool] (.prim (.bin .lss) [.v 0,.c (.int .i64 1)]<|.ite (.v 2) (.jmp 0 false [.c (.bool true)]) (.prim (.bin .gtr) [.v 0,.c (.int .i64 8)]<|.ite (.v 3) (.jmp 0 false [.c (.bool true)]) (.prim (.bin .lss) [.v 1,.c (.int .i64 1)]<|.ite (.v 4) (.jmp 0 false [.c (.bool true)]) (.prim (.bin .gtr) [.v 1,.c (.int .i64 64)]<|.jmp 0 false [.v 5])))) 1<|.ite (.v 2) (.jmp 0 false [.c (.agg [.nil,.nil,(.int .i64 0)]),.c (.int .i64 1)]) (.primH (.rep (.int .u32 0) 4) (.sl (.int .u32)) [.v 1,.v 1]<|.sub0 [.sl (.sl (.int .u32))] (.loop [.int .i64,.sl (.sl (.int .u32))] [.c (.int .i64 0),.c .nil] (.prim (.bin .lss) [.v 4,.v 0]<|.ite (.v 6) (.primH (.rep (.int .u32 0) 4) (.sl (.int .u32)) [.v 1,.v 1]<|.mkL (.sl (.int .u32)) [.v 7]<|.prim (.app 24) [.v 5,.v 8]<|.prim (.bin .add) [.v 4,.c (.int .i64 1)]<|.jmp 0 true [.v 10,.v 9]) (.jmp 1 false [.v 5]))) 1<|.mkS zaD [.v 4,.v 3,.c (.int .i64 0)]<|.jmp 0 false [.v 5,.c (.int .i64 0)])
theorem zuE:zaj cx 12 70=some zoY.erase:=by kernel_rfl
theorem zvu:FnOk cx 12 noC 70 zkK:=zaQ (t:=zoY) zuE (fun _=>rfl) (zaN [] (by kernel_rfl) .nil) (fun x=>by kernel_rfl)
def zbm (p0:Vault) (p1:Int):Option (Int×Int) :=
 let v4:Int:=(List.length (Banks.Rows (Vault.Banks p0)):Int)
 (remO p1 v4).bind fun v5=>(quoO .i64 p1 v4).bind fun v6=>some ((v5,v6))
def zaW:FnT:=⟨[zaB,.int .i64],[.int .i64,.int .i64],fun x=>zbm x.1 x.2⟩
def zhL:TA :=
 .prim (.fld 0) [.v 0]<|.prim (.fld 0) [.v 2]<|.prim .len [.v 3]<|.prim (.bin .rem) [.v 1,.v 4]<|.prim (.bin .quo) [.v 1,.v 4]<|.jmp 0 false [.v 5,.v 6]
theorem zoj:zaj cx 12 71=some zhL.erase:=by kernel_rfl
theorem zdf:FnOk cx 12 noC 71 zaW:=zaQ (t:=zhL) zoj (fun _=>rfl) (zaN [] (by kernel_rfl) .nil) (fun x=>by kernel_rfl)
def zcP (x0:Log) (x2:Int) (x7:Undo) (s:Int):Option (Int⊕Unit⊕Int⊕Unit⊕Bool) :=
 if decide (s<x2) then
 ((getO (Log.Lst x0) s).bind fun v12=>if decide ((Undo.Span v12)=(Undo.Span x7)) then
 (getO (Log.Lst x0) s).bind fun v17=>some ((decide ((Undo.At v17)=(Undo.At x7))))
 else
 some (false):Option Bool).bind fun v11=>if v11 then
 some (Sum.inr (Sum.inr (Sum.inr (Sum.inr (false)))))
 else
 some (Sum.inl (w64 (s + (1:Int))))
 else
 some (Sum.inr (Sum.inl ()))
def zd4 (x0:Log) (s:Int):Option (Int⊕Unit⊕Bool) :=
 if decide (s<(List.length (Log.Lst x0):Int)) then
 (getO (Log.Lst x0) s).bind fun v7=>(if decide ((Undo.Span v7)<(0:Int)) then
 some (true)
 else
 if decide ((Log.Span x0)<(Undo.Span v7)) then
 some (true)
 else
 if decide ((Undo.At v7)<(0:Int)) then
 some (true)
 else
 if decide ((List.length (Log.Mem x0):Int)≤(Undo.At v7)) then
 some (true)
 else
 if decide ((0:Int)<s) then
 (getO (Log.Lst x0) (w64 (s - (1:Int)))).bind fun v23=>some ((decide ((Undo.Span v7)<(Undo.Span v23))))
 else
 some (false):Option Bool).bind fun v8=>if v8 then
 some (Sum.inr (Sum.inr (false)))
 else
 zbw (zar (zcP x0 s v7) (0:Int):Option (Unit⊕Int⊕Unit⊕Bool)) fun v9=>some (Sum.inl (w64 (s + (1:Int))))
 else
 some (Sum.inr (Sum.inl ()))
def zdR (p0:Log):Option Bool :=
 if (decide ((List.length (Log.Mem p0):Int)=(0:Int)))||((decide ((64:Int)<(List.length (Log.Mem p0):Int)))||((decide ((Log.Span p0)<(0:Int)))||((decide ((1099511627776:Int)<(Log.Span p0)))||(decide ((256:Int)<(List.length (Log.Lst p0):Int)))))) then
 some (false)
 else
 zbw (zar (zd4 p0) (0:Int):Option (Unit⊕Bool)) fun v2=>some (true)
def zbl:FnT:=⟨[tLog],[.bool],fun x=>zdR x⟩
def zlW:TA :=
 .subp [.bool] (.prim (.fld 0) [.v 0]<|.prim .len [.v 1]<|.prim (.bin .eql) [.v 2,.c (.int .i64 0)]<|.ite (.v 3) (.jmp 0 false [.c (.bool true)]) (.prim (.fld 0) [.v 0]<|.prim .len [.v 4]<|.prim (.bin .gtr) [.v 5,.c (.int .i64 64)]<|.ite (.v 6) (.jmp 0 false [.c (.bool true)]) (.prim (.fld 1) [.v 0]<|.prim (.bin .lss) [.v 7,.c (.int .i64 0)]<|.ite (.v 8) (.jmp 0 false [.c (.bool true)]) (.prim (.fld 1) [.v 0]<|.prim (.bin .gtr) [.v 9,.c (.int .i64 1099511627776)]<|.ite (.v 10) (.jmp 0 false [.c (.bool true)]) (.prim (.fld 2) [.v 0]<|.prim .len [.v 11]<|.prim (.bin .gtr) [.v 12,.c (.int .i64 256)]<|.jmp 0 false [.v 13]))))) 1<|.ite (.v 1) (.jmp 0 false [.c (.bool false)]) (.sub1 [] (.loop [.int .i64] [.c (.int .i64 0)] (.prim (.fld 2) [.v 0]<|.prim .len [.v 3]<|.prim (.bin .lss) [.v 2,.v 4]<|.ite (.v 5) (.prim (.fld 2) [.v 0]<|.prim .get [.v 6,.v 2]<|.sub0 [.bool] (.prim (.fld 0) [.v 7]<|.prim (.bin .lss) [.v 8,.c (.int .i64 0)]<|.ite (.v 9) (.jmp 0 false [.c (.bool true)]) (.prim (.fld 0) [.v 7]<|.prim (.fld 1) [.v 0]<|.prim (.bin .gtr) [.v 10,.v 11]<|.ite (.v 12) (.jmp 0 false [.c (.bool true)]) (.prim (.fld 1) [.v 7]<|.prim (.bin .lss) [.v 13,.c (.int .i64 0)]<|.ite (.v 14) (.jmp 0 false [.c (.bool true)]) (.prim (.fld 1) [.v 7]<|.prim (.fld 0) [.v 0]<|.prim .len [.v 16]<|.prim (.bin .geq) [.v 15,.v 17]<|.ite (.v 18) (.jmp 0 false [.c (.bool true)]) (.prim (.bin .gtr) [.v 2,.c (.int .i64 0)]<|.ite (.v 19) (.prim (.fld 0) [.v 7]<|.prim (.fld 2) [.v 0]<|.prim (.bin .sub) [.v 2,.c (.int .i64 1)]<|.prim .get [.v 21,.v 22]<|.prim (.fld 0) [.v 23]<|.prim (.bin .lss) [.v 20,.v 24]<|.jmp 0 false [.v 25]) (.jmp 0 false [.c (.bool false)])))))) 1<|.ite (.v 8) (.jmp 2 false [.c (.bool false)]) (.sub1 [] (.loop [.int .i64] [.c (.int .i64 0)] (.prim (.bin .lss) [.v 9,.v 2]<|.ite (.v 10) (.sub0 [.bool] (.prim (.fld 2) [.v 0]<|.prim .get [.v 11,.v 9]<|.prim (.fld 0) [.v 12]<|.prim (.fld 0) [.v 7]<|.prim (.bin .eql) [.v 13,.v 14]<|.ite (.v 15) (.prim (.fld 2) [.v 0]<|.prim .get [.v 16,.v 9]<|.prim (.fld 1) [.v 17]<|.prim (.fld 1) [.v 7]<|.prim (.bin .eql) [.v 18,.v 19]<|.jmp 0 false [.v 20]) (.jmp 0 false [.c (.bool false)])) 1<|.ite (.v 11) (.jmp 4 false [.c (.bool false)]) (.prim (.bin .add) [.v 9,.c (.int .i64 1)]<|.jmp 0 true [.v 12])) (.jmp 1 false []))) 0<|.prim (.bin .add) [.v 2,.c (.int .i64 1)]<|.jmp 0 true [.v 9])) (.jmp 1 false []))) 0<|.jmp 0 false [.c (.bool true)])
theorem zrl:zaj cx 12 75=some zlW.erase:=by kernel_rfl
theorem ze2:FnOk cx 12 noC 75 zbl:=zaQ (t:=zlW) zrl (fun _=>rfl) (zaN [] (by kernel_rfl) .nil) (fun x=>by kernel_rfl)
def zlG (x0:Vault) (x1:List Undo) (x2:Int) (s:(Int×Int×(List (store_key×Bool)))):Option ((Int×Int×(List (store_key×Bool)))⊕Unit⊕Bool) :=
 if decide (s.2.1<x2) then
 (getO x1 s.2.1).bind fun v7=>let v10:store_key:=store_key.mk (Undo.Span v7) (Undo.At v7)
 if (decide ((Undo.Span v7)<s.1))||((decide ((Vault.Span x0)<(Undo.Span v7)))||((decide ((Undo.At v7)<(0:Int)))||((decide ((Vault.Words x0)≤(Undo.At v7)))||(znO (Ty.dec zbs) false s.2.2 v10)))) then
 some (Sum.inr (Sum.inr (false)))
 else
 some (Sum.inl (Undo.Span v7,w64 (s.2.1 + (1:Int)),zj2 (Ty.dec zbs) v10 true s.2.2))
 else
 some (Sum.inr (Sum.inl ()))
def zf8 (p0:Vault):Option Bool :=
 let v2:Int:=(List.length (Vault.Lst p0):Int)
 zbw (zar (zlG p0 (Vault.Lst p0) v2) ((0:Int),(0:Int),([]:List (store_key×Bool))):Option (Unit⊕Bool)) fun v3=>some (true)
def zef:FnT:=⟨[zaB],[.bool],fun x=>zf8 x⟩
def zgL:TA :=
 .prim (.fld 3) [.v 0]<|.prim .len [.v 1]<|.sub1 [] (.loop [.int .i64,.int .i64,.sl (.st [zbs,.bool])] [.c (.int .i64 0),.c (.int .i64 0),.c (.sl [])] (.prim (.bin .lss) [.v 4,.v 2]<|.ite (.v 6) (.prim .get [.v 1,.v 4]<|.prim (.fld 0) [.v 7]<|.prim (.fld 1) [.v 7]<|.mkS zlE [.v 8,.v 9]<|.subp [.bool] (.prim (.fld 0) [.v 7]<|.prim (.bin .lss) [.v 11,.v 3]<|.ite (.v 12) (.jmp 0 false [.c (.bool true)]) (.prim (.fld 0) [.v 7]<|.prim (.fld 2) [.v 0]<|.prim (.bin .gtr) [.v 13,.v 14]<|.ite (.v 15) (.jmp 0 false [.c (.bool true)]) (.prim (.fld 1) [.v 7]<|.prim (.bin .lss) [.v 16,.c (.int .i64 0)]<|.ite (.v 17) (.jmp 0 false [.c (.bool true)]) (.prim (.fld 1) [.v 7]<|.prim (.fld 1) [.v 0]<|.prim (.bin .geq) [.v 18,.v 19]<|.ite (.v 20) (.jmp 0 false [.c (.bool true)]) (.prim (.mget (.bool false)) [.v 5,.v 10]<|.jmp 0 false [.v 21]))))) 1<|.ite (.v 11) (.jmp 2 false [.c (.bool false)]) (.prim (.fld 0) [.v 7]<|.prim .mput [.v 5,.v 10,.c (.bool true)]<|.prim (.bin .add) [.v 4,.c (.int .i64 1)]<|.jmp 0 true [.v 12,.v 14,.v 13])) (.jmp 1 false []))) 0<|.jmp 0 false [.c (.bool true)]
theorem zl4:zaj cx 12 77=some zgL.erase:=by kernel_rfl
theorem zmd:FnOk cx 12 noC 77 zef:=zaQ (t:=zgL) zl4 (fun _=>rfl) (zaN [] (by kernel_rfl) .nil) (fun x=>by kernel_rfl)
def zgk (p0:Banks) (p1:Int) (p2:List Int):Option Banks :=
 (appO 24 ([]:List (List Int)) (Banks.Rows p0)).bind fun v4=>(idxO (List.length v4:Int) p1).bind fun v5=>(setO v4 v5 p2).bind fun v6=>some ((Banks.mk v6 (Banks.Par p0) (Banks.Lost p0)))
def zcs:FnT:=⟨[zai,.int .i64,.sl (.int .u32)],[zai],fun x=>zgk x.1 x.2.1 x.2.2⟩
def zmH:TA :=
 .prim (.fld 0) [.v 0]<|.primH (.app 24) (.sl (.sl (.int .u32))) [.c (.sl []),.v 3]<|.prim .idx [.v 4,.v 1]<|.prim .set [.v 4,.v 5,.v 2]<|.prim (.fld 0) [.v 0]<|.prim (.fld 1) [.v 0]<|.prim (.fld 2) [.v 0]<|.mkS zaD [.v 6,.v 8,.v 9]<|.jmp 0 false [.v 10]
theorem zt0:zaj cx 12 81=some zmH.erase:=by kernel_rfl
theorem ziP:FnOk cx 12 noC 81 zcs:=zaQ (t:=zmH) zt0 (fun _=>rfl) (zaN [] (by kernel_rfl) .nil) (fun x=>by kernel_rfl)
def zdb (x0:List (List Int)) (x1:Int) (x2:Int) (s:(Int×Int)):Option ((Int×Int)⊕Int) :=
 if decide (s.2<(List.length x0:Int)) then
 (if !decide (s.2=x2) then
 (getO x0 s.2).bind fun v8=>(getO v8 x1).bind fun v9=>some ((bXor .u32 s.1 v9))
 else
 some (s.1):Option Int).bind fun v8=>some (Sum.inl (v8,w64 (s.2 + (1:Int))))
 else
 some (Sum.inr (s.1))
def zdo (p0:List (List Int)) (p1:Int) (p2:Int):Option Int :=
 (zar (zdb p0 p1 p2) ((0:Int),(0:Int)):Option Int).bind fun v3=>some (v3)
def zbE:FnT:=⟨[.sl (.sl (.int .u32)),.int .i64,.int .i64],[.int .u32],fun x=>zdo x.1 x.2.1 x.2.2⟩
def zjt:TA :=
 .sub0 [.int .u32] (.loop [.int .u32,.int .i64] [.c (.int .u32 0),.c (.int .i64 0)] (.prim .len [.v 0]<|.prim (.bin .lss) [.v 4,.v 5]<|.ite (.v 6) (.prim (.bin .neq) [.v 4,.v 2]<|.sub0 [.int .u32] (.ite (.v 7) (.prim .get [.v 0,.v 4]<|.prim .get [.v 8,.v 1]<|.prim (.bin .xor) [.v 3,.v 9]<|.jmp 0 false [.v 10]) (.jmp 0 false [.v 3])) 1<|.prim (.bin .add) [.v 4,.c (.int .i64 1)]<|.jmp 0 true [.v 8,.v 9]) (.jmp 1 false [.v 3]))) 1<|.jmp 0 false [.v 3]
theorem zqA:zaj cx 12 82=some zjt.erase:=by kernel_rfl
theorem zf9:FnOk cx 12 noC 82 zbE:=zaQ (t:=zjt) zqA (fun _=>rfl) (zaN [] (by kernel_rfl) .nil) (fun x=>by kernel_rfl)
def zko (p0:List Int) (p1:Int) (p2:Int):Option (List Int) :=
 (appO 4 ([]:List Int) p0).bind fun v3=>(idxO (List.length v3:Int) p1).bind fun v4=>(setO v3 v4 p2).bind fun v5=>some (v5)
def zit:FnT:=⟨[.sl (.int .u32),.int .i64,.int .u32],[.sl (.int .u32)],fun x=>zko x.1 x.2.1 x.2.2⟩
def zmG:TA :=
 .primH (.app 4) (.sl (.int .u32)) [.c (.sl []),.v 0]<|.prim .idx [.v 3,.v 1]<|.prim .set [.v 3,.v 4,.v 2]<|.jmp 0 false [.v 5]
theorem ztc:zaj cx 12 111=some zmG.erase:=by kernel_rfl
theorem ztf:FnOk cx 12 noC 111 zit:=zaQ (t:=zmG) ztc (fun _=>rfl) (zaN [] (by kernel_rfl) .nil) (fun x=>by kernel_rfl)
def zbZ (x2:Int) (x4:List (List Int)) (x5:Int) (s:Int):Option (Int⊕Unit⊕Int) :=
 if decide (s<x5) then
 (getO x4 s).bind fun v8=>if !decide ((List.length v8:Int)=x2) then
 some (Sum.inr (Sum.inr (s)))
 else
 some (Sum.inl (w64 (s + (1:Int))))
 else
 some (Sum.inr (Sum.inl ()))
def zde (p0:Banks):Option Bool :=
 let v2:Int:=(List.length (Banks.Par p0):Int)
 if (decide ((List.length (Banks.Rows p0):Int)<(1:Int)))||((decide ((8:Int)<(List.length (Banks.Rows p0):Int)))||((decide (v2<(1:Int)))||((decide ((64:Int)<v2))||((decide ((Banks.Lost p0)<(0:Int)))||(decide ((List.length (Banks.Rows p0):Int)<(Banks.Lost p0))))))) then
 some (false)
 else
 ((let v5:Int:=(List.length (Banks.Rows p0):Int)
 zbw (zar (zbZ v2 (Banks.Rows p0) v5) (0:Int):Option (Unit⊕Int)) fun v6=>some ((-1:Int)):Option Int).bind fun v5=>some ((decide ((0:Int)≤v5))):Option Bool).bind fun v5=>some ((!v5))
def zdq:FnT:=⟨[zai],[.bool],fun x=>zde x⟩
def zfY:TA :=
 .prim (.fld 1) [.v 0]<|.prim .len [.v 1]<|.subp [.bool] (.prim (.fld 0) [.v 0]<|.prim .len [.v 3]<|.prim (.bin .lss) [.v 4,.c (.int .i64 1)]<|.ite (.v 5) (.jmp 0 false [.c (.bool true)]) (.prim (.fld 0) [.v 0]<|.prim .len [.v 6]<|.prim (.bin .gtr) [.v 7,.c (.int .i64 8)]<|.ite (.v 8) (.jmp 0 false [.c (.bool true)]) (.prim (.bin .lss) [.v 2,.c (.int .i64 1)]<|.ite (.v 9) (.jmp 0 false [.c (.bool true)]) (.prim (.bin .gtr) [.v 2,.c (.int .i64 64)]<|.ite (.v 10) (.jmp 0 false [.c (.bool true)]) (.prim (.fld 2) [.v 0]<|.prim (.bin .lss) [.v 11,.c (.int .i64 0)]<|.ite (.v 12) (.jmp 0 false [.c (.bool true)]) (.prim (.fld 2) [.v 0]<|.prim (.fld 0) [.v 0]<|.prim .len [.v 14]<|.prim (.bin .gtr) [.v 13,.v 15]<|.jmp 0 false [.v 16])))))) 1<|.ite (.v 3) (.jmp 0 false [.c (.bool false)]) (.prim (.fld 0) [.v 0]<|.sub0 [.bool] (.sub0 [.int .i64] (.prim .len [.v 4]<|.sub1 [] (.loop [.int .i64] [.c (.int .i64 0)] (.prim (.bin .lss) [.v 6,.v 5]<|.ite (.v 7) (.prim .get [.v 4,.v 6]<|.subp [.bool] (.prim .len [.v 8]<|.prim (.bin .neq) [.v 9,.v 2]<|.jmp 0 false [.v 10]) 1<|.ite (.v 9) (.jmp 2 false [.v 6]) (.prim (.bin .add) [.v 6,.c (.int .i64 1)]<|.jmp 0 true [.v 10])) (.jmp 1 false []))) 0<|.jmp 0 false [.c (.int .i64 (-1))]) 1<|.prim (.bin .geq) [.v 5,.c (.int .i64 0)]<|.jmp 0 false [.v 6]) 1<|.prim (.un .not) [.v 5]<|.jmp 0 false [.v 6])
theorem zlZ:zaj cx 12 115=some zfY.erase:=by kernel_rfl
theorem zkI:FnOk cx 12 noC 115 zdq:=zaQ (t:=zfY) zlZ (fun _=>rfl) (zaN [] (by kernel_rfl) .nil) (fun x=>by kernel_rfl)
def zeg (p0:Int):Bool :=
 !decide (p0=(0:Int))
def zc1:PnT:=⟨[.int .u32],[.bool],fun x=>zeg x⟩
def zfp:TA :=
 .prim (.bin .neq) [.v 0,.c (.int .u32 0)]<|.jmp 0 false [.v 1]
theorem zj1:zaj cx 12 117=some zfp.erase:=by kernel_rfl
theorem zjZ:FnOk cx 12 noC 117 zc1.fn:=zyi (t:=zfp) zj1 (fun _=>rfl) (zaN [] (by kernel_rfl) .nil) (fun x=>by kernel_rfl)
def zaA (x0:List Int) (x1:List Int) (x5:Int) (s:Int):Option (Int⊕Unit⊕Bool) :=
 if decide (s<x5) then
 (getO x0 s).bind fun v8=>(getO x1 s).bind fun v9=>if !decide (v8=v9) then
 some (Sum.inr (Sum.inr (false)))
 else
 some (Sum.inl (w64 (s + (1:Int))))
 else
 some (Sum.inr (Sum.inl ()))
def zaI (p0:List Int) (p1:List Int):Option Bool :=
 if !decide ((List.length p0:Int)=(List.length p1:Int)) then
 some (false)
 else
 let v5:Int:=(List.length p0:Int)
 zbw (zar (zaA p0 p1 v5) (0:Int):Option (Unit⊕Bool)) fun v6=>some (true)
def zaX:FnT:=⟨[.sl (.int .u32),.sl (.int .u32)],[.bool],fun x=>zaI x.1 x.2⟩
def zbv:TA :=
 .prim .len [.v 0]<|.prim .len [.v 1]<|.prim (.bin .neq) [.v 2,.v 3]<|.ite (.v 4) (.jmp 0 false [.c (.bool false)]) (.prim .len [.v 0]<|.sub1 [] (.loop [.int .i64] [.c (.int .i64 0)] (.prim (.bin .lss) [.v 6,.v 5]<|.ite (.v 7) (.prim .get [.v 0,.v 6]<|.prim .get [.v 1,.v 6]<|.prim (.bin .neq) [.v 8,.v 9]<|.ite (.v 10) (.jmp 2 false [.c (.bool false)]) (.prim (.bin .add) [.v 6,.c (.int .i64 1)]<|.jmp 0 true [.v 11])) (.jmp 1 false []))) 0<|.jmp 0 false [.c (.bool true)])
theorem zc7:zaj cx 12 118=some zbv.erase:=by kernel_rfl
theorem zc6:FnOk cx 12 noC 118 zaX:=zaQ (t:=zbv) zc7 (fun _=>rfl) (zaN [] (by kernel_rfl) .nil) (fun x=>by kernel_rfl)
def zic (p0:Vault):Option Bool :=
 ((zhP (Vault.Banks p0)).bind fun v2=>if v2 then
 some ((decide ((List.length (Vault.Lst p0):Int)≤(300:Int))))
 else
 some (false):Option Bool).bind fun v1=>some (v1)
def zg7:FnT:=⟨[zaB],[.bool],fun x=>zic x⟩
def zk4:TA :=
 .sub0 [.bool] (.prim (.fld 0) [.v 0]<|.call 52 zhq [.v 1] 1<|.ite (.v 2) (.prim (.fld 3) [.v 0]<|.prim .len [.v 3]<|.prim (.bin .leq) [.v 4,.c (.int .i64 300)]<|.jmp 0 false [.v 5]) (.jmp 0 false [.c (.bool false)])) 1<|.jmp 0 false [.v 1]
theorem zrC:zaj cx 12 11=some zk4.erase:=by kernel_rfl
theorem zq0:FnOk cx 12 noC 11 zg7:=zaQ (t:=zk4) zrC (fun _=>rfl) (zaN [(52,zhq)] (by kernel_rfl) (.cons zqZ .nil)) (fun x=>by kernel_rfl)
def zcJ (p0:Vault) (p1:Vault):Option Bool :=
 ((zfl (Vault.Banks p0) (Vault.Banks p1)).bind fun v4=>if v4 then
 if decide ((Vault.Words p0)=(Vault.Words p1)) then
 (zkm (Log.mk ([]:List Int) (Vault.Span p0) (Vault.Lst p0)) (Log.mk ([]:List Int) (Vault.Span p1) (Vault.Lst p1))).bind fun v14=>some (v14)
 else
 some (false)
 else
 some (false):Option Bool).bind fun v2=>some (v2)
def zaK:FnT:=⟨[zaB,zaB],[.bool],fun x=>zcJ x.1 x.2⟩
def zm3:TA :=
 .sub0 [.bool] (.prim (.fld 0) [.v 0]<|.prim (.fld 0) [.v 1]<|.call 33 zco [.v 2,.v 3] 1<|.ite (.v 4) (.prim (.fld 1) [.v 0]<|.prim (.fld 1) [.v 1]<|.prim (.bin .eql) [.v 5,.v 6]<|.ite (.v 7) (.prim (.fld 2) [.v 0]<|.prim (.fld 3) [.v 0]<|.mkS zoB [.c .nil,.v 8,.v 9]<|.prim (.fld 2) [.v 1]<|.prim (.fld 3) [.v 1]<|.mkS zoB [.c .nil,.v 11,.v 12]<|.call 61 ziF [.v 10,.v 13] 1<|.jmp 0 false [.v 14]) (.jmp 0 false [.c (.bool false)])) (.jmp 0 false [.c (.bool false)])) 1<|.jmp 0 false [.v 2]
theorem ztH:zaj cx 12 14=some zm3.erase:=by kernel_rfl
theorem zcr:FnOk cx 12 noC 14 zaK:=zaQ (t:=zm3) ztH (fun _=>rfl) (zaN [(33,zco),(61,ziF)] (by kernel_rfl) (.cons zi4 (.cons zug .nil))) (fun x=>by kernel_rfl)
def zjy (x1:Int) (x3:Int) (s:(Int×(List (List Int)))):Option ((Int×(List (List Int)))⊕(List (List Int))) :=
 if decide (s.1<x1) then
 (repO (0:Int) 4 x3 x3).bind fun v9=>(appO 24 s.2 ([v9]:List (List Int))).bind fun v11=>some (Sum.inl (w64 (s.1 + (1:Int)),v11))
 else
 some (Sum.inr (s.2))
def zhU (p0:Int) (p1:Int):Option (Vault×Int) :=
 if (decide (p0<(1:Int)))||((decide ((64:Int)<p0))||((decide (p1<(1:Int)))||(decide ((8:Int)<p1)))) then
 some (((Vault.mk (Banks.mk ([]:List (List Int)) ([]:List Int) (0:Int)) (0:Int) (0:Int) ([]:List Undo)),(1:Int)))
 else
 (zeC p0 p1).bind fun v3=>(if (decide (p1<(1:Int)))||((decide ((8:Int)<p1))||((decide (v3<(1:Int)))||(decide ((64:Int)<v3)))) then
 some ((([]:List (List Int)),([]:List Int)))
 else
 (repO (0:Int) 4 v3 v3).bind fun v5=>(zar (zjy p1 v3) ((0:Int),([]:List (List Int))):Option (List (List Int))).bind fun v6=>some ((v6,v5)):Option ((List (List Int))×(List Int))).bind fun v4=>some ((Vault.mk (Banks.mk v4.1 v4.2 (0:Int)) p0 (0:Int) ([]:List Undo),(0:Int)))
def zhp:FnT:=⟨[.int .i64,.int .i64],[zaB,.int .i64],fun x=>zhU x.1 x.2⟩
def zkB:TA :=
 .subp [.bool] (.prim (.bin .lss) [.v 0,.c (.int .i64 1)]<|.ite (.v 2) (.jmp 0 false [.c (.bool true)]) (.prim (.bin .gtr) [.v 0,.c (.int .i64 64)]<|.ite (.v 3) (.jmp 0 false [.c (.bool true)]) (.prim (.bin .lss) [.v 1,.c (.int .i64 1)]<|.ite (.v 4) (.jmp 0 false [.c (.bool true)]) (.prim (.bin .gtr) [.v 1,.c (.int .i64 8)]<|.jmp 0 false [.v 5])))) 1<|.ite (.v 2) (.jmp 0 false [.c (.agg [(.agg [.nil,.nil,(.int .i64 0)]),(.int .i64 0),(.int .i64 0),.nil]),.c (.int .i64 1)]) (.call 69 zcQ [.v 0,.v 1] 1<|.sub0 [.no,.sl (.sl (.int .u32)),.sl (.int .u32)] (.subp [.bool] (.prim (.bin .lss) [.v 1,.c (.int .i64 1)]<|.ite (.v 4) (.jmp 0 false [.c (.bool true)]) (.prim (.bin .gtr) [.v 1,.c (.int .i64 8)]<|.ite (.v 5) (.jmp 0 false [.c (.bool true)]) (.prim (.bin .lss) [.v 3,.c (.int .i64 1)]<|.ite (.v 6) (.jmp 0 false [.c (.bool true)]) (.prim (.bin .gtr) [.v 3,.c (.int .i64 64)]<|.jmp 0 false [.v 7])))) 1<|.ite (.v 4) (.jmp 0 false [.c (.int .i64 1),.c .nil,.c .nil]) (.primH (.rep (.int .u32 0) 4) (.sl (.int .u32)) [.v 3,.v 3]<|.sub0 [.sl (.sl (.int .u32))] (.loop [.int .i64,.sl (.sl (.int .u32))] [.c (.int .i64 0),.c .nil] (.prim (.bin .lss) [.v 6,.v 1]<|.ite (.v 8) (.primH (.rep (.int .u32 0) 4) (.sl (.int .u32)) [.v 3,.v 3]<|.mkL (.sl (.int .u32)) [.v 9]<|.prim (.app 24) [.v 7,.v 10]<|.prim (.bin .add) [.v 6,.c (.int .i64 1)]<|.jmp 0 true [.v 12,.v 11]) (.jmp 1 false [.v 7]))) 1<|.jmp 0 false [.c (.int .i64 0),.v 6,.v 5])) 3<|.mkS zaD [.v 5,.v 6,.c (.int .i64 0)]<|.mkS za9 [.v 7,.v 0,.c (.int .i64 0),.c .nil]<|.jmp 0 false [.v 8,.c (.int .i64 0)])
theorem zrT:zaj cx 12 19=some zkB.erase:=by kernel_rfl
theorem zrD:FnOk cx 12 noC 19 zhp:=zaQ (t:=zkB) zrT (fun _=>rfl) (zaN [(69,zcQ)] (by kernel_rfl) (.cons zjD .nil)) (fun x=>by kernel_rfl)
def zoy (p0:Int) (p1:Int):Option (Vault×Int) :=
 if (decide (p0<(1:Int)))||((decide ((64:Int)<p0))||((decide (p1<(1:Int)))||(decide ((8:Int)<p1)))) then
 some (((Vault.mk (Banks.mk ([]:List (List Int)) ([]:List Int) (0:Int)) (0:Int) (0:Int) ([]:List Undo)),(1:Int)))
 else
 (quoO .i64 p0 p1).bind fun v3=>(zod p1 (bif decide ((w64 (v3 * p1))<p0) then w64 (v3 + (1:Int)) else v3)).bind fun v7=>some ((Vault.mk v7.1 p0 (0:Int) ([]:List Undo),(0:Int)))
def zlF:FnT:=⟨[.int .i64,.int .i64],[zaB,.int .i64],fun x=>zoy x.1 x.2⟩
def zp9:TA :=
 .subp [.bool] (.prim (.bin .lss) [.v 0,.c (.int .i64 1)]<|.ite (.v 2) (.jmp 0 false [.c (.bool true)]) (.prim (.bin .gtr) [.v 0,.c (.int .i64 64)]<|.ite (.v 3) (.jmp 0 false [.c (.bool true)]) (.prim (.bin .lss) [.v 1,.c (.int .i64 1)]<|.ite (.v 4) (.jmp 0 false [.c (.bool true)]) (.prim (.bin .gtr) [.v 1,.c (.int .i64 8)]<|.jmp 0 false [.v 5])))) 1<|.ite (.v 2) (.jmp 0 false [.c (.agg [(.agg [.nil,.nil,(.int .i64 0)]),(.int .i64 0),(.int .i64 0),.nil]),.c (.int .i64 1)]) (.prim (.bin .quo) [.v 0,.v 1]<|.prim (.bin .mul) [.v 3,.v 1]<|.prim (.bin .lss) [.v 4,.v 0]<|.subp [.int .i64] (.ite (.v 5) (.prim (.bin .add) [.v 3,.c (.int .i64 1)]<|.jmp 0 false [.v 6]) (.jmp 0 false [.v 3])) 1<|.call 70 zkK [.v 1,.v 6] 2<|.mkS za9 [.v 7,.v 0,.c (.int .i64 0),.c .nil]<|.jmp 0 false [.v 9,.c (.int .i64 0)])
theorem zuA:zaj cx 12 20=some zp9.erase:=by kernel_rfl
theorem zvr:FnOk cx 12 noC 20 zlF:=zaQ (t:=zp9) zuA (fun _=>rfl) (zaN [(70,zkK)] (by kernel_rfl) (.cons zvu .nil)) (fun x=>by kernel_rfl)
def zdY (x0:Log) (x1:Int) (s:(Bool×Int)):Option ((Bool×Int)⊕Bool) :=
 if decide (s.2<(List.length (Log.Lst x0):Int)) then
 (if s.1 then
 some (true)
 else
 (getO (Log.Lst x0) s.2).bind fun v10=>if decide ((Undo.Span v10)=(Log.Span x0)) then
 (getO (Log.Lst x0) s.2).bind fun v15=>some ((decide ((Undo.At v15)=x1)))
 else
 some (false):Option Bool).bind fun v9=>some (Sum.inl (v9,w64 (s.2 + (1:Int))))
 else
 some (Sum.inr (s.1))
def zid (p0:Log) (p1:Int) (p2:Int):Option (Log×Int) :=
 ((zdR p0).bind fun v3=>if !v3 then
 some (true)
 else
 if decide (p1<(0:Int)) then
 some (true)
 else
 some ((decide ((List.length (Log.Mem p0):Int)≤p1))):Option Bool).bind fun v3=>if v3 then
 some ((p0,(1:Int)))
 else
 (zar (zdY p0 p1) (false,(0:Int)):Option Bool).bind fun v4=>zbw (if !v4 then
 if decide ((256:Int)≤(List.length (Log.Lst p0):Int)) then
 some (Sum.inr ((p0,(6:Int))))
 else
 (appO 24 ([]:List Undo) (Log.Lst p0)).bind fun v10=>(getO (Log.Mem p0) p1).bind fun v13=>(appO 24 v10 ([Undo.mk (Log.Span p0) p1 v13]:List Undo)).bind fun v16=>some (Sum.inl (Log.Mem p0,Log.Span p0,v16))
 else
 some (Sum.inl (Log.Mem p0,Log.Span p0,Log.Lst p0)):Option (((List Int)×Int×(List Undo))⊕(Log×Int))) fun v6=>(zko v6.1 p1 p2).bind fun v9=>some ((Log.mk v9 v6.2.1 v6.2.2,(0:Int)))
def zhd:FnT:=⟨[tLog,.int .i64,.int .u32],[tLog,.int .i64],fun x=>zid x.1 x.2.1 x.2.2⟩
def zlw:TA :=
 .sub0 [.bool] (.call 75 zbl [.v 0] 1<|.prim (.un .not) [.v 3]<|.ite (.v 4) (.jmp 0 false [.c (.bool true)]) (.prim (.bin .lss) [.v 1,.c (.int .i64 0)]<|.ite (.v 5) (.jmp 0 false [.c (.bool true)]) (.prim (.fld 0) [.v 0]<|.prim .len [.v 6]<|.prim (.bin .geq) [.v 1,.v 7]<|.jmp 0 false [.v 8]))) 1<|.ite (.v 3) (.jmp 0 false [.v 0,.c (.int .i64 1)]) (.sub0 [.bool] (.loop [.bool,.int .i64] [.c (.bool false),.c (.int .i64 0)] (.prim (.fld 2) [.v 0]<|.prim .len [.v 6]<|.prim (.bin .lss) [.v 5,.v 7]<|.ite (.v 8) (.sub0 [.bool] (.ite (.v 4) (.jmp 0 false [.c (.bool true)]) (.prim (.fld 2) [.v 0]<|.prim .get [.v 9,.v 5]<|.prim (.fld 0) [.v 10]<|.prim (.fld 1) [.v 0]<|.prim (.bin .eql) [.v 11,.v 12]<|.ite (.v 13) (.prim (.fld 2) [.v 0]<|.prim .get [.v 14,.v 5]<|.prim (.fld 1) [.v 15]<|.prim (.bin .eql) [.v 16,.v 1]<|.jmp 0 false [.v 17]) (.jmp 0 false [.c (.bool false)]))) 1<|.prim (.bin .add) [.v 5,.c (.int .i64 1)]<|.jmp 0 true [.v 9,.v 10]) (.jmp 1 false [.v 4]))) 1<|.prim (.un .not) [.v 4]<|.sub1 [.sl (.int .u32),.int .i64,.sl zbt] (.ite (.v 5) (.prim (.fld 2) [.v 0]<|.prim .len [.v 6]<|.prim (.bin .geq) [.v 7,.c (.int .i64 256)]<|.ite (.v 8) (.jmp 1 false [.v 0,.c (.int .i64 6)]) (.prim (.fld 2) [.v 0]<|.primH (.app 24) (.sl zbt) [.c (.sl []),.v 9]<|.prim (.fld 1) [.v 0]<|.prim (.fld 0) [.v 0]<|.prim .get [.v 12,.v 1]<|.mkS zus [.v 11,.v 1,.v 13]<|.mkL zbt [.v 14]<|.prim (.app 24) [.v 10,.v 15]<|.prim (.fld 0) [.v 0]<|.prim (.fld 1) [.v 0]<|.prim (.fld 2) [.v 0]<|.jmp 0 false [.v 17,.v 18,.v 16])) (.prim (.fld 0) [.v 0]<|.prim (.fld 1) [.v 0]<|.prim (.fld 2) [.v 0]<|.jmp 0 false [.v 6,.v 7,.v 8])) 3<|.call 111 zit [.v 6,.v 1,.v 2] 1<|.mkS zoB [.v 9,.v 7,.v 8]<|.jmp 0 false [.v 10,.c (.int .i64 0)])
theorem zrg:zaj cx 12 58=some zlw.erase:=by kernel_rfl
theorem zrn:FnOk cx 12 noC 58 zhd:=zaQ (t:=zlw) zrg (fun _=>rfl) (zaN [(75,zbl),(111,zit)] (by kernel_rfl) (.cons ze2 (.cons ztf .nil))) (fun x=>by kernel_rfl)
def zeZ (x0:Log) (x1:Int) (s:(Int×(List Undo))):Option ((Int×(List Undo))⊕(List Undo)) :=
 if decide (s.1<(List.length (Log.Lst x0):Int)) then
 (getO (Log.Lst x0) s.1).bind fun v12=>(if decide ((Undo.Span v12)<x1) then
 (getO (Log.Lst x0) s.1).bind fun v16=>(appO 24 s.2 ([v16]:List Undo)).bind fun v18=>some (v18)
 else
 some (s.2):Option (List Undo)).bind fun v15=>some (Sum.inl (w64 (s.1 + (1:Int)),v15))
 else
 some (Sum.inr (s.2))
def zdE (x0:Log) (x1:Int) (x5:Int) (s:(Bool×Int×(List Int))):Option ((Bool×Int×(List Int))⊕(List Int)) :=
 if decide (s.2.1<(List.length (Log.Lst x0):Int)) then
 ((getO (Log.Lst x0) s.2.1).bind fun v16=>if decide (x1≤(Undo.Span v16)) then
 (getO (Log.Lst x0) s.2.1).bind fun v20=>if decide ((Undo.At v20)=x5) then
 some ((!s.1))
 else
 some (false)
 else
 some (false):Option Bool).bind fun v15=>(if v15 then
 (getO (Log.Lst x0) s.2.1).bind fun v17=>(idxO (List.length s.2.2:Int) x5).bind fun v19=>(setO s.2.2 v19 (Undo.Val v17)).bind fun v20=>some ((true,v20))
 else
 some ((s.1,s.2.2)):Option (Bool×(List Int))).bind fun v16=>some (Sum.inl (v16.1,w64 (s.2.1 + (1:Int)),v16.2))
 else
 some (Sum.inr (s.2.2))
def zfa (x0:Log) (x1:Int) (s:(Int×(List Int))):Option ((Int×(List Int))⊕(List Int)) :=
 if decide (s.1<(List.length s.2:Int)) then
 (zar (zdE x0 x1 s.1) (false,(0:Int),s.2):Option (List Int)).bind fun v9=>some (Sum.inl (w64 (s.1 + (1:Int)),v9))
 else
 some (Sum.inr (s.2))
def zkg (p0:Log) (p1:Int):Option (Log×Int) :=
 ((zdR p0).bind fun v2=>if !v2 then
 some (true)
 else
 if decide (p1<(0:Int)) then
 some (true)
 else
 some ((decide ((Log.Span p0)<p1))):Option Bool).bind fun v2=>if v2 then
 some ((p0,(1:Int)))
 else
 (appO 4 ([]:List Int) (Log.Mem p0)).bind fun v4=>(zar (zfa p0 p1) ((0:Int),v4):Option (List Int)).bind fun v5=>(zar (zeZ p0 p1) ((0:Int),([]:List Undo)):Option (List Undo)).bind fun v6=>some ((Log.mk v5 p1 v6,(0:Int)))
def zjj:FnT:=⟨[tLog,.int .i64],[tLog,.int .i64],fun x=>zkg x.1 x.2⟩
def zni:TA :=
 .sub0 [.bool] (.call 75 zbl [.v 0] 1<|.prim (.un .not) [.v 2]<|.ite (.v 3) (.jmp 0 false [.c (.bool true)]) (.prim (.bin .lss) [.v 1,.c (.int .i64 0)]<|.ite (.v 4) (.jmp 0 false [.c (.bool true)]) (.prim (.fld 1) [.v 0]<|.prim (.bin .gtr) [.v 1,.v 5]<|.jmp 0 false [.v 6]))) 1<|.ite (.v 2) (.jmp 0 false [.v 0,.c (.int .i64 1)]) (.prim (.fld 0) [.v 0]<|.primH (.app 4) (.sl (.int .u32)) [.c (.sl []),.v 3]<|.sub0 [.sl (.int .u32)] (.loop [.int .i64,.sl (.int .u32)] [.c (.int .i64 0),.v 4] (.prim .len [.v 6]<|.prim (.bin .lss) [.v 5,.v 7]<|.ite (.v 8) (.sub0 [.sl (.int .u32)] (.loop [.bool,.int .i64,.sl (.int .u32)] [.c (.bool false),.c (.int .i64 0),.v 6] (.prim (.fld 2) [.v 0]<|.prim .len [.v 12]<|.prim (.bin .lss) [.v 10,.v 13]<|.ite (.v 14) (.sub0 [.bool] (.prim (.fld 2) [.v 0]<|.prim .get [.v 15,.v 10]<|.prim (.fld 0) [.v 16]<|.prim (.bin .geq) [.v 17,.v 1]<|.ite (.v 18) (.prim (.fld 2) [.v 0]<|.prim .get [.v 19,.v 10]<|.prim (.fld 1) [.v 20]<|.prim (.bin .eql) [.v 21,.v 5]<|.ite (.v 22) (.prim (.un .not) [.v 9]<|.jmp 0 false [.v 23]) (.jmp 0 false [.c (.bool false)])) (.jmp 0 false [.c (.bool false)])) 1<|.sub0 [.bool,.sl (.int .u32)] (.ite (.v 15) (.prim (.fld 2) [.v 0]<|.prim .get [.v 16,.v 10]<|.prim (.fld 2) [.v 17]<|.prim .idx [.v 11,.v 5]<|.prim .set [.v 11,.v 19,.v 18]<|.jmp 0 false [.c (.bool true),.v 20]) (.jmp 0 false [.v 9,.v 11])) 2<|.prim (.bin .add) [.v 10,.c (.int .i64 1)]<|.jmp 0 true [.v 16,.v 18,.v 17]) (.jmp 1 false [.v 11]))) 1<|.prim (.bin .add) [.v 5,.c (.int .i64 1)]<|.jmp 0 true [.v 10,.v 9]) (.jmp 1 false [.v 6]))) 1<|.sub0 [.sl zbt] (.loop [.int .i64,.sl zbt] [.c (.int .i64 0),.c .nil] (.prim (.fld 2) [.v 0]<|.prim .len [.v 8]<|.prim (.bin .lss) [.v 6,.v 9]<|.ite (.v 10) (.prim (.fld 2) [.v 0]<|.prim .get [.v 11,.v 6]<|.prim (.fld 0) [.v 12]<|.prim (.bin .lss) [.v 13,.v 1]<|.sub0 [.sl zbt] (.ite (.v 14) (.prim (.fld 2) [.v 0]<|.prim .get [.v 15,.v 6]<|.mkL zbt [.v 16]<|.prim (.app 24) [.v 7,.v 17]<|.jmp 0 false [.v 18]) (.jmp 0 false [.v 7])) 1<|.prim (.bin .add) [.v 6,.c (.int .i64 1)]<|.jmp 0 true [.v 16,.v 15]) (.jmp 1 false [.v 7]))) 1<|.mkS zoB [.v 5,.v 1,.v 6]<|.jmp 0 false [.v 7,.c (.int .i64 0)])
theorem zt7:zaj cx 12 64=some zni.erase:=by kernel_rfl
theorem ztT:FnOk cx 12 noC 64 zjj:=zaQ (t:=zni) zt7 (fun _=>rfl) (zaN [(75,zbl)] (by kernel_rfl) (.cons ze2 .nil)) (fun x=>by kernel_rfl)
def ze8 (x0:Log) (x1:Int) (s:(Int×(List Undo))):Option ((Int×(List Undo))⊕(List Undo)) :=
 if decide (s.1<(List.length (Log.Lst x0):Int)) then
 (getO (Log.Lst x0) s.1).bind fun v9=>(if decide (x1≤(Undo.Span v9)) then
 (getO (Log.Lst x0) s.1).bind fun v13=>(appO 24 s.2 ([v13]:List Undo)).bind fun v15=>some (v15)
 else
 some (s.2):Option (List Undo)).bind fun v12=>some (Sum.inl (w64 (s.1 + (1:Int)),v12))
 else
 some (Sum.inr (s.2))
def zkj (p0:Log) (p1:Int):Option (Log×Int) :=
 ((zdR p0).bind fun v2=>if !v2 then
 some (true)
 else
 if decide (p1<(0:Int)) then
 some (true)
 else
 some ((decide ((Log.Span p0)<p1))):Option Bool).bind fun v2=>if v2 then
 some ((p0,(1:Int)))
 else
 (zar (ze8 p0 p1) ((0:Int),([]:List Undo)):Option (List Undo)).bind fun v3=>some ((Log.mk (Log.Mem p0) (Log.Span p0) v3,(0:Int)))
def zjl:FnT:=⟨[tLog,.int .i64],[tLog,.int .i64],fun x=>zkj x.1 x.2⟩
def zmJ:TA :=
 .sub0 [.bool] (.call 75 zbl [.v 0] 1<|.prim (.un .not) [.v 2]<|.ite (.v 3) (.jmp 0 false [.c (.bool true)]) (.prim (.bin .lss) [.v 1,.c (.int .i64 0)]<|.ite (.v 4) (.jmp 0 false [.c (.bool true)]) (.prim (.fld 1) [.v 0]<|.prim (.bin .gtr) [.v 1,.v 5]<|.jmp 0 false [.v 6]))) 1<|.ite (.v 2) (.jmp 0 false [.v 0,.c (.int .i64 1)]) (.sub0 [.sl zbt] (.loop [.int .i64,.sl zbt] [.c (.int .i64 0),.c .nil] (.prim (.fld 2) [.v 0]<|.prim .len [.v 5]<|.prim (.bin .lss) [.v 3,.v 6]<|.ite (.v 7) (.prim (.fld 2) [.v 0]<|.prim .get [.v 8,.v 3]<|.prim (.fld 0) [.v 9]<|.prim (.bin .geq) [.v 10,.v 1]<|.sub0 [.sl zbt] (.ite (.v 11) (.prim (.fld 2) [.v 0]<|.prim .get [.v 12,.v 3]<|.mkL zbt [.v 13]<|.prim (.app 24) [.v 4,.v 14]<|.jmp 0 false [.v 15]) (.jmp 0 false [.v 4])) 1<|.prim (.bin .add) [.v 3,.c (.int .i64 1)]<|.jmp 0 true [.v 13,.v 12]) (.jmp 1 false [.v 4]))) 1<|.prim (.fld 0) [.v 0]<|.prim (.fld 1) [.v 0]<|.prim (.fld 2) [.v 0]<|.mkS zoB [.v 4,.v 5,.v 3]<|.jmp 0 false [.v 7,.c (.int .i64 0)])
theorem ztJ:zaj cx 12 67=some zmJ.erase:=by kernel_rfl
theorem ztg:FnOk cx 12 noC 67 zjl:=zaQ (t:=zmJ) ztJ (fun _=>rfl) (zaN [(75,zbl)] (by kernel_rfl) (.cons ze2 .nil)) (fun x=>by kernel_rfl)
def zbi (x0:Banks) (s:Int):Option (Int⊕Unit⊕Bool) :=
 if decide (s<(List.length (Banks.Par x0):Int)) then
 (if decide ((Banks.Lost x0)=(0:Int)) then
 (zdo (Banks.Rows x0) s (-1:Int)).bind fun v9=>(getO (Banks.Par x0) s).bind fun v11=>if !decide (v9=v11) then
 some (true)
 else
 if decide ((0:Int)<(Banks.Lost x0)) then
 (getO (Banks.Rows x0) (w64 ((Banks.Lost x0) - (1:Int)))).bind fun v18=>(getO v18 s).bind fun v19=>some ((!decide (v19=(0:Int))))
 else
 some (false)
 else
 if decide ((0:Int)<(Banks.Lost x0)) then
 (getO (Banks.Rows x0) (w64 ((Banks.Lost x0) - (1:Int)))).bind fun v13=>(getO v13 s).bind fun v14=>some ((!decide (v14=(0:Int))))
 else
 some (false):Option Bool).bind fun v6=>if v6 then
 some (Sum.inr (Sum.inr (false)))
 else
 some (Sum.inl (w64 (s + (1:Int))))
 else
 some (Sum.inr (Sum.inl ()))
def zdZ (x0:Banks) (s:Int):Option (Int⊕Unit⊕Bool) :=
 if decide (s<(List.length (Banks.Rows x0):Int)) then
 (getO (Banks.Rows x0) s).bind fun v7=>if !decide ((List.length v7:Int)=(List.length (Banks.Par x0):Int)) then
 some (Sum.inr (Sum.inr (false)))
 else
 some (Sum.inl (w64 (s + (1:Int))))
 else
 some (Sum.inr (Sum.inl ()))
def zey (p0:Banks):Option Bool :=
 if (decide ((List.length (Banks.Rows p0):Int)=(0:Int)))||((decide ((8:Int)<(List.length (Banks.Rows p0):Int)))||((decide ((List.length (Banks.Par p0):Int)=(0:Int)))||((decide ((64:Int)<(List.length (Banks.Par p0):Int)))||((decide ((Banks.Lost p0)<(0:Int)))||(decide ((List.length (Banks.Rows p0):Int)<(Banks.Lost p0))))))) then
 some (false)
 else
 zbw (zar (zdZ p0) (0:Int):Option (Unit⊕Bool)) fun v2=>zbw (zar (zbi p0) (0:Int):Option (Unit⊕Bool)) fun v2=>some (true)
def zb3:FnT:=⟨[zai],[.bool],fun x=>zey x⟩
def zlo:TA :=
 .subp [.bool] (.prim (.fld 0) [.v 0]<|.prim .len [.v 1]<|.prim (.bin .eql) [.v 2,.c (.int .i64 0)]<|.ite (.v 3) (.jmp 0 false [.c (.bool true)]) (.prim (.fld 0) [.v 0]<|.prim .len [.v 4]<|.prim (.bin .gtr) [.v 5,.c (.int .i64 8)]<|.ite (.v 6) (.jmp 0 false [.c (.bool true)]) (.prim (.fld 1) [.v 0]<|.prim .len [.v 7]<|.prim (.bin .eql) [.v 8,.c (.int .i64 0)]<|.ite (.v 9) (.jmp 0 false [.c (.bool true)]) (.prim (.fld 1) [.v 0]<|.prim .len [.v 10]<|.prim (.bin .gtr) [.v 11,.c (.int .i64 64)]<|.ite (.v 12) (.jmp 0 false [.c (.bool true)]) (.prim (.fld 2) [.v 0]<|.prim (.bin .lss) [.v 13,.c (.int .i64 0)]<|.ite (.v 14) (.jmp 0 false [.c (.bool true)]) (.prim (.fld 2) [.v 0]<|.prim (.fld 0) [.v 0]<|.prim .len [.v 16]<|.prim (.bin .gtr) [.v 15,.v 17]<|.jmp 0 false [.v 18])))))) 1<|.ite (.v 1) (.jmp 0 false [.c (.bool false)]) (.sub1 [] (.loop [.int .i64] [.c (.int .i64 0)] (.prim (.fld 0) [.v 0]<|.prim .len [.v 3]<|.prim (.bin .lss) [.v 2,.v 4]<|.ite (.v 5) (.prim (.fld 0) [.v 0]<|.prim .get [.v 6,.v 2]<|.prim .len [.v 7]<|.prim (.fld 1) [.v 0]<|.prim .len [.v 9]<|.prim (.bin .neq) [.v 8,.v 10]<|.ite (.v 11) (.jmp 2 false [.c (.bool false)]) (.prim (.bin .add) [.v 2,.c (.int .i64 1)]<|.jmp 0 true [.v 12])) (.jmp 1 false []))) 0<|.sub1 [] (.loop [.int .i64] [.c (.int .i64 0)] (.prim (.fld 1) [.v 0]<|.prim .len [.v 3]<|.prim (.bin .lss) [.v 2,.v 4]<|.ite (.v 5) (.sub0 [.bool] (.prim (.fld 2) [.v 0]<|.prim (.bin .eql) [.v 6,.c (.int .i64 0)]<|.ite (.v 7) (.prim (.fld 0) [.v 0]<|.call 82 zbE [.v 8,.v 2,.c (.int .i64 (-1))] 1<|.prim (.fld 1) [.v 0]<|.prim .get [.v 10,.v 2]<|.prim (.bin .neq) [.v 9,.v 11]<|.ite (.v 12) (.jmp 0 false [.c (.bool true)]) (.prim (.fld 2) [.v 0]<|.prim (.bin .gtr) [.v 13,.c (.int .i64 0)]<|.ite (.v 14) (.prim (.fld 0) [.v 0]<|.prim (.fld 2) [.v 0]<|.prim (.bin .sub) [.v 16,.c (.int .i64 1)]<|.prim .get [.v 15,.v 17]<|.prim .get [.v 18,.v 2]<|.prim (.bin .neq) [.v 19,.c (.int .u32 0)]<|.jmp 0 false [.v 20]) (.jmp 0 false [.c (.bool false)]))) (.prim (.fld 2) [.v 0]<|.prim (.bin .gtr) [.v 8,.c (.int .i64 0)]<|.ite (.v 9) (.prim (.fld 0) [.v 0]<|.prim (.fld 2) [.v 0]<|.prim (.bin .sub) [.v 11,.c (.int .i64 1)]<|.prim .get [.v 10,.v 12]<|.prim .get [.v 13,.v 2]<|.prim (.bin .neq) [.v 14,.c (.int .u32 0)]<|.jmp 0 false [.v 15]) (.jmp 0 false [.c (.bool false)]))) 1<|.ite (.v 6) (.jmp 2 false [.c (.bool false)]) (.prim (.bin .add) [.v 2,.c (.int .i64 1)]<|.jmp 0 true [.v 7])) (.jmp 1 false []))) 0<|.jmp 0 false [.c (.bool true)])
theorem zrS:zaj cx 12 74=some zlo.erase:=by kernel_rfl
theorem zgZ:FnOk cx 12 noC 74 zb3:=zaQ (t:=zlo) zrS (fun _=>rfl) (zaN [(82,zbE)] (by kernel_rfl) (.cons zf9 .nil)) (fun x=>by kernel_rfl)
def zck (x8:List Int) (x9:Int) (s:Int):Option (Int⊕Unit⊕Int) :=
 if decide (s<x9) then
 (getO x8 s).bind fun v12=>if zeg v12 then
 some (Sum.inr (Sum.inr (s)))
 else
 some (Sum.inl (w64 (s + (1:Int))))
 else
 some (Sum.inr (Sum.inl ()))
def zbz (x13:List Int) (x14:Int) (s:(Int×(List Int))):Option ((Int×(List Int))⊕(List Int)) :=
 if decide (s.1<x14) then
 (getO x13 s.1).bind fun v18=>(idxO (List.length s.2:Int) s.1).bind fun v19=>(getO s.2 v19).bind fun v20=>(idxO (List.length s.2:Int) s.1).bind fun v22=>(setO s.2 v22 (bXor .u32 v20 v18)).bind fun v23=>some (Sum.inl (w64 (s.1 + (1:Int)),v23))
 else
 some (Sum.inr (s.2))
def zbg (x5:List (List Int)) (x9:Int) (s:(Int×(List Int))):Option ((Int×(List Int))⊕(List Int)) :=
 if decide (s.1<x9) then
 (getO x5 s.1).bind fun v13=>let v14:Int:=(List.length v13:Int)
 (zar (zbz v13 v14) ((0:Int),s.2):Option (List Int)).bind fun v15=>some (Sum.inl (w64 (s.1 + (1:Int)),v15))
 else
 some (Sum.inr (s.2))
def zb8 (p0:Banks):Option Bool :=
 (zde p0).bind fun v1=>if !v1 then
 some (false)
 else
 if decide ((0:Int)<(Banks.Lost p0)) then
 (getO (Banks.Rows p0) (w64 ((Banks.Lost p0) - (1:Int)))).bind fun v8=>((let v9:Int:=(List.length v8:Int)
 zbw (zar (zck v8 v9) (0:Int):Option (Unit⊕Int)) fun v10=>some ((-1:Int)):Option Int).bind fun v9=>some ((decide ((0:Int)≤v9))):Option Bool).bind fun v9=>some ((!v9))
 else
 let v7:Int:=(List.length (Banks.Par p0):Int)
 ((repO (0:Int) 4 v7 v7).bind fun v8=>let v9:Int:=(List.length (Banks.Rows p0):Int)
 (zar (zbg (Banks.Rows p0) v9) ((0:Int),v8):Option (List Int)).bind fun v10=>some (v10):Option (List Int)).bind fun v8=>(zaI v8 (Banks.Par p0)).bind fun v10=>some (v10)
def za5:FnT:=⟨[zai],[.bool],fun x=>zb8 x⟩
def zgG:TA :=
 .call 115 zdq [.v 0] 1<|.prim (.un .not) [.v 1]<|.ite (.v 2) (.jmp 0 false [.c (.bool false)]) (.prim (.fld 2) [.v 0]<|.prim (.bin .gtr) [.v 3,.c (.int .i64 0)]<|.ite (.v 4) (.prim (.fld 0) [.v 0]<|.prim (.fld 2) [.v 0]<|.prim (.bin .sub) [.v 6,.c (.int .i64 1)]<|.prim .get [.v 5,.v 7]<|.sub0 [.bool] (.sub0 [.int .i64] (.prim .len [.v 8]<|.sub1 [] (.loop [.int .i64] [.c (.int .i64 0)] (.prim (.bin .lss) [.v 10,.v 9]<|.ite (.v 11) (.prim .get [.v 8,.v 10]<|.callp 117 zc1 [.v 12] 1<|.ite (.v 13) (.jmp 2 false [.v 10]) (.prim (.bin .add) [.v 10,.c (.int .i64 1)]<|.jmp 0 true [.v 14])) (.jmp 1 false []))) 0<|.jmp 0 false [.c (.int .i64 (-1))]) 1<|.prim (.bin .geq) [.v 9,.c (.int .i64 0)]<|.jmp 0 false [.v 10]) 1<|.prim (.un .not) [.v 9]<|.jmp 0 false [.v 10]) (.prim (.fld 0) [.v 0]<|.prim (.fld 1) [.v 0]<|.prim .len [.v 6]<|.sub0 [.sl (.int .u32)] (.primH (.rep (.int .u32 0) 4) (.sl (.int .u32)) [.v 7,.v 7]<|.prim .len [.v 5]<|.sub0 [.sl (.int .u32)] (.loop [.int .i64,.sl (.int .u32)] [.c (.int .i64 0),.v 8] (.prim (.bin .lss) [.v 10,.v 9]<|.ite (.v 12) (.prim .get [.v 5,.v 10]<|.prim .len [.v 13]<|.sub0 [.sl (.int .u32)] (.loop [.int .i64,.sl (.int .u32)] [.c (.int .i64 0),.v 11] (.prim (.bin .lss) [.v 15,.v 14]<|.ite (.v 17) (.prim .get [.v 13,.v 15]<|.prim .idx [.v 16,.v 15]<|.prim .get [.v 16,.v 19]<|.prim (.bin .xor) [.v 20,.v 18]<|.prim .idx [.v 16,.v 15]<|.prim .set [.v 16,.v 22,.v 21]<|.prim (.bin .add) [.v 15,.c (.int .i64 1)]<|.jmp 0 true [.v 24,.v 23]) (.jmp 1 false [.v 16]))) 1<|.prim (.bin .add) [.v 10,.c (.int .i64 1)]<|.jmp 0 true [.v 16,.v 15]) (.jmp 1 false [.v 11]))) 1<|.jmp 0 false [.v 10]) 1<|.prim (.fld 1) [.v 0]<|.call 118 zaX [.v 8,.v 9] 1<|.jmp 0 false [.v 10]))
theorem zmi:zaj cx 12 76=some zgG.erase:=by kernel_rfl
theorem zea:FnOk cx 12 noC 76 za5:=zaQ (t:=zgG) zmi (fun _=>rfl) (zaN [(115,zdq),(117,zc1.fn),(118,zaX)] (by kernel_rfl) (.cons zkI (.cons zjZ (.cons zc6 .nil)))) (fun x=>by kernel_rfl)
def zcc (p0:Vault):Option Bool :=
 ((zey (Vault.Banks p0)).bind fun v2=>if !v2 then
 some (true)
 else
 if decide ((Vault.Words p0)<(1:Int)) then
 some (true)
 else
 some ((decide ((64:Int)<(Vault.Words p0)))):Option Bool).bind fun v1=>if v1 then
 some (false)
 else
 let v4:Int:=(List.length (Banks.Rows (Vault.Banks p0)):Int)
 if (decide ((w64 ((List.length (Banks.Par (Vault.Banks p0)):Int) * v4))<(Vault.Words p0)))||(decide ((Vault.Words p0)≤(w64 ((w64 ((List.length (Banks.Par (Vault.Banks p0)):Int) - (1:Int))) * v4)))) then
 some (false)
 else
 (repO (0:Int) 4 (Vault.Words p0) (Vault.Words p0)).bind fun v7=>(zdR (Log.mk v7 (Vault.Span p0) (Vault.Lst p0))).bind fun v11=>some (v11)
def zaL:FnT:=⟨[zaB],[.bool],fun x=>zcc x⟩
def zlf:TA :=
 .sub0 [.bool] (.prim (.fld 0) [.v 0]<|.call 74 zb3 [.v 1] 1<|.prim (.un .not) [.v 2]<|.ite (.v 3) (.jmp 0 false [.c (.bool true)]) (.prim (.fld 1) [.v 0]<|.prim (.bin .lss) [.v 4,.c (.int .i64 1)]<|.ite (.v 5) (.jmp 0 false [.c (.bool true)]) (.prim (.fld 1) [.v 0]<|.prim (.bin .gtr) [.v 6,.c (.int .i64 64)]<|.jmp 0 false [.v 7]))) 1<|.ite (.v 1) (.jmp 0 false [.c (.bool false)]) (.prim (.fld 0) [.v 0]<|.prim (.fld 0) [.v 2]<|.prim .len [.v 3]<|.subp [.bool] (.prim (.fld 0) [.v 0]<|.prim (.fld 1) [.v 5]<|.prim .len [.v 6]<|.prim (.bin .mul) [.v 7,.v 4]<|.prim (.fld 1) [.v 0]<|.prim (.bin .lss) [.v 8,.v 9]<|.ite (.v 10) (.jmp 0 false [.c (.bool true)]) (.prim (.fld 0) [.v 0]<|.prim (.fld 1) [.v 11]<|.prim .len [.v 12]<|.prim (.bin .sub) [.v 13,.c (.int .i64 1)]<|.prim (.bin .mul) [.v 14,.v 4]<|.prim (.fld 1) [.v 0]<|.prim (.bin .geq) [.v 15,.v 16]<|.jmp 0 false [.v 17])) 1<|.ite (.v 5) (.jmp 0 false [.c (.bool false)]) (.prim (.fld 1) [.v 0]<|.primH (.rep (.int .u32 0) 4) (.sl (.int .u32)) [.v 6,.v 6]<|.prim (.fld 2) [.v 0]<|.prim (.fld 3) [.v 0]<|.mkS zoB [.v 7,.v 8,.v 9]<|.call 75 zbl [.v 10] 1<|.jmp 0 false [.v 11]))
theorem zrr:zaj cx 12 23=some zlf.erase:=by kernel_rfl
theorem zct:FnOk cx 12 noC 23 zaL:=zaQ (t:=zlf) zrr (fun _=>rfl) (zaN [(74,zb3),(75,zbl)] (by kernel_rfl) (.cons zgZ (.cons ze2 .nil))) (fun x=>by kernel_rfl)
def za6 (p0:Vault):Option Bool :=
 ((zb8 (Vault.Banks p0)).bind fun v2=>if !v2 then
 some (true)
 else
 if decide ((Vault.Words p0)<(1:Int)) then
 some (true)
 else
 if decide ((64:Int)<(Vault.Words p0)) then
 some (true)
 else
 (zeC (Vault.Words p0) (List.length (Banks.Rows (Vault.Banks p0)):Int)).bind fun v15=>some ((!decide ((List.length (Banks.Par (Vault.Banks p0)):Int)=v15))):Option Bool).bind fun v1=>if v1 then
 some (false)
 else
 (if decide ((0:Int)≤(Vault.Span p0)) then
 if decide ((Vault.Span p0)≤(1099511627776:Int)) then
 if decide ((List.length (Vault.Lst p0):Int)≤(256:Int)) then
 (zf8 p0).bind fun v9=>some (v9)
 else
 some (false)
 else
 some (false)
 else
 some (false):Option Bool).bind fun v2=>some (v2)
def zaq:FnT:=⟨[zaB],[.bool],fun x=>za6 x⟩
def zio:TA :=
 .sub0 [.bool] (.prim (.fld 0) [.v 0]<|.call 76 za5 [.v 1] 1<|.prim (.un .not) [.v 2]<|.ite (.v 3) (.jmp 0 false [.c (.bool true)]) (.prim (.fld 1) [.v 0]<|.prim (.bin .lss) [.v 4,.c (.int .i64 1)]<|.ite (.v 5) (.jmp 0 false [.c (.bool true)]) (.prim (.fld 1) [.v 0]<|.prim (.bin .gtr) [.v 6,.c (.int .i64 64)]<|.ite (.v 7) (.jmp 0 false [.c (.bool true)]) (.prim (.fld 0) [.v 0]<|.prim (.fld 1) [.v 8]<|.prim .len [.v 9]<|.prim (.fld 1) [.v 0]<|.prim (.fld 0) [.v 0]<|.prim (.fld 0) [.v 12]<|.prim .len [.v 13]<|.call 69 zcQ [.v 11,.v 14] 1<|.prim (.bin .neq) [.v 10,.v 15]<|.jmp 0 false [.v 16])))) 1<|.ite (.v 1) (.jmp 0 false [.c (.bool false)]) (.sub0 [.bool] (.prim (.fld 2) [.v 0]<|.prim (.bin .geq) [.v 2,.c (.int .i64 0)]<|.ite (.v 3) (.prim (.fld 2) [.v 0]<|.prim (.bin .leq) [.v 4,.c (.int .i64 1099511627776)]<|.ite (.v 5) (.prim (.fld 3) [.v 0]<|.prim .len [.v 6]<|.prim (.bin .leq) [.v 7,.c (.int .i64 256)]<|.ite (.v 8) (.call 77 zef [.v 0] 1<|.jmp 0 false [.v 9]) (.jmp 0 false [.c (.bool false)])) (.jmp 0 false [.c (.bool false)])) (.jmp 0 false [.c (.bool false)])) 1<|.jmp 0 false [.v 2])
theorem zoc:zaj cx 12 24=some zio.erase:=by kernel_rfl
theorem zbn:FnOk cx 12 noC 24 zaq:=zaQ (t:=zio) zoc (fun _=>rfl) (zaN [(76,za5),(69,zcQ),(77,zef)] (by kernel_rfl) (.cons zea (.cons zjD (.cons zmd .nil)))) (fun x=>by kernel_rfl)
def zcC (x0:Banks) (s:(Int×(List Int))):Option ((Int×(List Int))⊕(List Int)) :=
 if decide (s.1<(List.length (Banks.Par x0):Int)) then
 (getO (Banks.Par x0) s.1).bind fun v11=>(zdo (Banks.Rows x0) s.1 (w64 ((Banks.Lost x0) - (1:Int)))).bind fun v15=>(appO 4 s.2 ([bXor .u32 v11 v15]:List Int)).bind fun v18=>some (Sum.inl (w64 (s.1 + (1:Int)),v18))
 else
 some (Sum.inr (s.2))
def zfe (p0:Banks):Option (Banks×Int) :=
 (zey p0).bind fun v1=>if !v1 then
 some ((p0,(1:Int)))
 else
 if decide ((Banks.Lost p0)=(0:Int)) then
 some ((p0,(8:Int)))
 else
 (zar (zcC p0) ((0:Int),([]:List Int)):Option (List Int)).bind fun v5=>(zgk p0 (w64 ((Banks.Lost p0) - (1:Int))) v5).bind fun v8=>some ((Banks.setLost v8 (0:Int),(0:Int)))
def zeI:FnT:=⟨[zai],[zai,.int .i64],fun x=>zfe x⟩
def zhB:TA :=
 .call 74 zb3 [.v 0] 1<|.prim (.un .not) [.v 1]<|.ite (.v 2) (.jmp 0 false [.v 0,.c (.int .i64 1)]) (.prim (.fld 2) [.v 0]<|.prim (.bin .eql) [.v 3,.c (.int .i64 0)]<|.ite (.v 4) (.jmp 0 false [.v 0,.c (.int .i64 8)]) (.sub0 [.sl (.int .u32)] (.loop [.int .i64,.sl (.int .u32)] [.c (.int .i64 0),.c .nil] (.prim (.fld 1) [.v 0]<|.prim .len [.v 7]<|.prim (.bin .lss) [.v 5,.v 8]<|.ite (.v 9) (.prim (.fld 1) [.v 0]<|.prim .get [.v 10,.v 5]<|.prim (.fld 0) [.v 0]<|.prim (.fld 2) [.v 0]<|.prim (.bin .sub) [.v 13,.c (.int .i64 1)]<|.call 82 zbE [.v 12,.v 5,.v 14] 1<|.prim (.bin .xor) [.v 11,.v 15]<|.mkL (.int .u32) [.v 16]<|.prim (.app 4) [.v 6,.v 17]<|.prim (.bin .add) [.v 5,.c (.int .i64 1)]<|.jmp 0 true [.v 19,.v 18]) (.jmp 1 false [.v 6]))) 1<|.prim (.fld 2) [.v 0]<|.prim (.bin .sub) [.v 6,.c (.int .i64 1)]<|.call 81 zcs [.v 0,.v 7,.v 5] 1<|.prim (.setf 2) [.v 8,.c (.int .i64 0)]<|.jmp 0 false [.v 9,.c (.int .i64 0)]))
theorem znZ:zaj cx 12 32=some zhB.erase:=by kernel_rfl
theorem znY:FnOk cx 12 noC 32 zeI:=zaQ (t:=zhB) znZ (fun _=>rfl) (zaN [(74,zb3),(82,zbE),(81,zcs)] (by kernel_rfl) (.cons zgZ (.cons zf9 (.cons ziP .nil)))) (fun x=>by kernel_rfl)
def zjg (x18:List Int) (x19:Int) (s:(Int×(List Int))):Option ((Int×(List Int))⊕(List Int)) :=
 if decide (s.1<x19) then
 (getO x18 s.1).bind fun v23=>(idxO (List.length s.2:Int) s.1).bind fun v24=>(getO s.2 v24).bind fun v25=>(idxO (List.length s.2:Int) s.1).bind fun v27=>(setO s.2 v27 (bXor .u32 v25 v23)).bind fun v28=>some (Sum.inl (w64 (s.1 + (1:Int)),v28))
 else
 some (Sum.inr (s.2))
def zel (x11:List (List Int)) (x14:Int) (s:(Int×(List Int))):Option ((Int×(List Int))⊕(List Int)) :=
 if decide (s.1<x14) then
 (getO x11 s.1).bind fun v18=>let v19:Int:=(List.length v18:Int)
 (zar (zjg v18 v19) ((0:Int),s.2):Option (List Int)).bind fun v20=>some (Sum.inl (w64 (s.1 + (1:Int)),v20))
 else
 some (Sum.inr (s.2))
def zbH (x4:List (List Int)) (x5:Int) (s:(Int×(List (List Int)))):Option ((Int×(List (List Int)))⊕(List (List Int))) :=
 if decide (s.1<x5) then
 (getO x4 s.1).bind fun v9=>(zaV 4 v9).bind fun v10=>(appO 24 s.2 ([v10]:List (List Int))).bind fun v12=>some (Sum.inl (w64 (s.1 + (1:Int)),v12))
 else
 some (Sum.inr (s.2))
def zcF (p0:Banks):Option (Banks×Int) :=
 ((zaV 4 (Banks.Par p0)).bind fun v2=>let v5:Int:=(List.length (Banks.Rows p0):Int)
 (zar (zbH (Banks.Rows p0) v5) ((0:Int),([]:List (List Int))):Option (List (List Int))).bind fun v6=>some ((Banks.Lost p0,v6,v2)):Option (Int×(List (List Int))×(List Int))).bind fun v1=>(zb8 p0).bind fun v4=>if !v4 then
 some ((Banks.mk v1.2.1 v1.2.2 v1.1,(1:Int)))
 else
 if decide ((Banks.Lost p0)=(0:Int)) then
 some ((Banks.mk v1.2.1 v1.2.2 v1.1,(8:Int)))
 else
 (getO v1.2.1 (0:Int)).bind fun v10=>(appO 24 v1.2.1 ([v1.2.2]:List (List Int))).bind fun v11=>let v12:Int:=(List.length v1.2.2:Int)
 ((repO (0:Int) 4 v12 v12).bind fun v13=>let v14:Int:=(List.length v11:Int)
 (zar (zel v11 v14) ((0:Int),v13):Option (List Int)).bind fun v15=>some (v15):Option (List Int)).bind fun v13=>(idxO (List.length v1.2.1:Int) (w64 (v1.1 - (1:Int)))).bind fun v14=>(setO v1.2.1 v14 v13).bind fun v15=>some ((Banks.mk v15 v1.2.2 (0:Int),(0:Int)))
def zcY:FnT:=⟨[zai],[zai,.int .i64],fun x=>zcF x⟩
def zfo:TA :=
 .sub0 [.int .i64,.sl (.sl (.int .u32)),.sl (.int .u32)] (.prim (.fld 1) [.v 0]<|.prim (.clone 4) [.v 1]<|.prim (.fld 2) [.v 0]<|.prim (.fld 0) [.v 0]<|.prim .len [.v 4]<|.sub0 [.sl (.sl (.int .u32))] (.loop [.int .i64,.sl (.sl (.int .u32))] [.c (.int .i64 0),.c .nil] (.prim (.bin .lss) [.v 6,.v 5]<|.ite (.v 8) (.prim .get [.v 4,.v 6]<|.prim (.clone 4) [.v 9]<|.mkL (.sl (.int .u32)) [.v 10]<|.prim (.app 24) [.v 7,.v 11]<|.prim (.bin .add) [.v 6,.c (.int .i64 1)]<|.jmp 0 true [.v 13,.v 12]) (.jmp 1 false [.v 7]))) 1<|.jmp 0 false [.v 3,.v 6,.v 2]) 3<|.call 76 za5 [.v 0] 1<|.prim (.un .not) [.v 4]<|.ite (.v 5) (.mkS zaD [.v 2,.v 3,.v 1]<|.jmp 0 false [.v 6,.c (.int .i64 1)]) (.prim (.fld 2) [.v 0]<|.prim (.bin .eql) [.v 6,.c (.int .i64 0)]<|.ite (.v 7) (.mkS zaD [.v 2,.v 3,.v 1]<|.jmp 0 false [.v 8,.c (.int .i64 8)]) (.prim (.bin .sub) [.v 1,.c (.int .i64 1)]<|.mkL (.sl (.int .u32)) [.v 3]<|.prim .get [.v 2,.c (.int .i64 0)]<|.prim (.app 24) [.v 2,.v 9]<|.prim .len [.v 3]<|.sub0 [.sl (.int .u32)] (.primH (.rep (.int .u32 0) 4) (.sl (.int .u32)) [.v 12,.v 12]<|.prim .len [.v 11]<|.sub0 [.sl (.int .u32)] (.loop [.int .i64,.sl (.int .u32)] [.c (.int .i64 0),.v 13] (.prim (.bin .lss) [.v 15,.v 14]<|.ite (.v 17) (.prim .get [.v 11,.v 15]<|.prim .len [.v 18]<|.sub0 [.sl (.int .u32)] (.loop [.int .i64,.sl (.int .u32)] [.c (.int .i64 0),.v 16] (.prim (.bin .lss) [.v 20,.v 19]<|.ite (.v 22) (.prim .get [.v 18,.v 20]<|.prim .idx [.v 21,.v 20]<|.prim .get [.v 21,.v 24]<|.prim (.bin .xor) [.v 25,.v 23]<|.prim .idx [.v 21,.v 20]<|.prim .set [.v 21,.v 27,.v 26]<|.prim (.bin .add) [.v 20,.c (.int .i64 1)]<|.jmp 0 true [.v 29,.v 28]) (.jmp 1 false [.v 21]))) 1<|.prim (.bin .add) [.v 15,.c (.int .i64 1)]<|.jmp 0 true [.v 21,.v 20]) (.jmp 1 false [.v 16]))) 1<|.jmp 0 false [.v 15]) 1<|.prim .idx [.v 2,.v 8]<|.prim .set [.v 2,.v 14,.v 13]<|.mkS zaD [.v 15,.v 3,.c (.int .i64 0)]<|.jmp 0 false [.v 16,.c (.int .i64 0)]))
theorem zj3:zaj cx 12 79=some zfo.erase:=by kernel_rfl
theorem zj4:FnOk cx 12 noC 79 zcY:=zaQ (t:=zfo) zj3 (fun _=>rfl) (zaN [(76,za5)] (by kernel_rfl) (.cons zea .nil)) (fun x=>by kernel_rfl)
def ziQ (p0:Banks) (p1:Int):Option Bool :=
 ((zey p0).bind fun v2=>if v2 then
 if decide ((0:Int)≤p1) then
 some ((decide (p1<(List.length (Banks.Rows p0):Int))))
 else
 some (false)
 else
 some (false):Option Bool).bind fun v2=>some (v2)
def zdr:FnT:=⟨[zai,.int .i64],[.bool],fun x=>ziQ x.1 x.2⟩
def zo5:TA :=
 .sub0 [.bool] (.call 74 zb3 [.v 0] 1<|.ite (.v 2) (.prim (.bin .geq) [.v 1,.c (.int .i64 0)]<|.ite (.v 3) (.prim (.fld 0) [.v 0]<|.prim .len [.v 4]<|.prim (.bin .lss) [.v 1,.v 5]<|.jmp 0 false [.v 6]) (.jmp 0 false [.c (.bool false)])) (.jmp 0 false [.c (.bool false)])) 1<|.jmp 0 false [.v 2]
theorem zvx:zaj cx 12 80=some zo5.erase:=by kernel_rfl
theorem zll:FnOk cx 12 noC 80 zdr:=zaQ (t:=zo5) zvx (fun _=>rfl) (zaN [(74,zb3)] (by kernel_rfl) (.cons zgZ .nil)) (fun x=>by kernel_rfl)
def zdp (p0:Banks) (p1:Int):Option Bool :=
 ((zb8 p0).bind fun v2=>if v2 then
 if decide ((0:Int)≤p1) then
 some ((decide (p1<(List.length (Banks.Rows p0):Int))))
 else
 some (false)
 else
 some (false):Option Bool).bind fun v2=>some (v2)
def zbD:FnT:=⟨[zai,.int .i64],[.bool],fun x=>zdp x.1 x.2⟩
def zjI:TA :=
 .sub0 [.bool] (.call 76 za5 [.v 0] 1<|.ite (.v 2) (.prim (.bin .geq) [.v 1,.c (.int .i64 0)]<|.ite (.v 3) (.prim (.fld 0) [.v 0]<|.prim .len [.v 4]<|.prim (.bin .lss) [.v 1,.v 5]<|.jmp 0 false [.v 6]) (.jmp 0 false [.c (.bool false)])) (.jmp 0 false [.c (.bool false)])) 1<|.jmp 0 false [.v 2]
theorem zpQ:zaj cx 12 114=some zjI.erase:=by kernel_rfl
theorem zfv:FnOk cx 12 noC 114 zbD:=zaQ (t:=zjI) zpQ (fun _=>rfl) (zaN [(76,za5)] (by kernel_rfl) (.cons zea .nil)) (fun x=>by kernel_rfl)
def zkv (p0:Vault) (p1:Int):Option (Vault×Int) :=
 (zcc p0).bind fun v2=>if !v2 then
 some ((p0,(1:Int)))
 else
 (repO (0:Int) 4 (Vault.Words p0) (Vault.Words p0)).bind fun v5=>(zkj (Log.mk v5 (Vault.Span p0) (Vault.Lst p0)) p1).bind fun v9=>some ((Vault.setLst p0 (Log.Lst v9.1),v9.2))
def zi2:FnT:=⟨[zaB,.int .i64],[zaB,.int .i64],fun x=>zkv x.1 x.2⟩
def znj:TA :=
 .call 23 zaL [.v 0] 1<|.prim (.un .not) [.v 2]<|.ite (.v 3) (.jmp 0 false [.v 0,.c (.int .i64 1)]) (.prim (.fld 1) [.v 0]<|.primH (.rep (.int .u32 0) 4) (.sl (.int .u32)) [.v 4,.v 4]<|.prim (.fld 2) [.v 0]<|.prim (.fld 3) [.v 0]<|.mkS zoB [.v 5,.v 6,.v 7]<|.call 67 zjl [.v 8,.v 1] 2<|.prim (.fld 2) [.v 9]<|.prim (.setf 3) [.v 0,.v 11]<|.jmp 0 false [.v 12,.v 10])
theorem ztj:zaj cx 12 18=some znj.erase:=by kernel_rfl
theorem ztQ:FnOk cx 12 noC 18 zi2:=zaQ (t:=znj) ztj (fun _=>rfl) (zaN [(23,zaL),(67,zjl)] (by kernel_rfl) (.cons zct (.cons ztg .nil))) (fun x=>by kernel_rfl)
def zd9 (x0:Vault) (x3:Int) (s:(Int×(List Int))):Option ((Int×(List Int))⊕(List Int)) :=
 if decide (s.1<x3) then
 (zbm x0 s.1).bind fun v7=>(getO (Banks.Rows (Vault.Banks x0)) v7.1).bind fun v11=>(getO v11 v7.2).bind fun v12=>(appO 4 s.2 ([v12]:List Int)).bind fun v14=>some (Sum.inl (w64 (s.1 + (1:Int)),v14))
 else
 some (Sum.inr (s.2))
def zff (p0:Vault):Option (List Int) :=
 (za6 p0).bind fun v1=>if !v1 then
 some (([]:List Int))
 else
 (zar (zd9 p0 (Vault.Words p0)) ((0:Int),([]:List Int)):Option (List Int)).bind fun v4=>some (v4)
def zeW:FnT:=⟨[zaB],[.sl (.int .u32)],fun x=>zff x⟩
def zih:TA :=
 .call 24 zaq [.v 0] 1<|.prim (.un .not) [.v 1]<|.ite (.v 2) (.jmp 0 false [.c .nil]) (.prim (.fld 1) [.v 0]<|.sub0 [.sl (.int .u32)] (.loop [.int .i64,.sl (.int .u32)] [.c (.int .i64 0),.c .nil] (.prim (.bin .lss) [.v 4,.v 3]<|.ite (.v 6) (.call 71 zaW [.v 0,.v 4] 2<|.prim (.fld 0) [.v 0]<|.prim (.fld 0) [.v 9]<|.prim .get [.v 10,.v 7]<|.prim .get [.v 11,.v 8]<|.mkL (.int .u32) [.v 12]<|.prim (.app 4) [.v 5,.v 13]<|.prim (.bin .add) [.v 4,.c (.int .i64 1)]<|.jmp 0 true [.v 15,.v 14]) (.jmp 1 false [.v 5]))) 1<|.jmp 0 false [.v 4])
theorem zoh:zaj cx 12 26=some zih.erase:=by kernel_rfl
theorem zoD:FnOk cx 12 noC 26 zeW:=zaQ (t:=zih) zoh (fun _=>rfl) (zaN [(24,zaq),(71,zaW)] (by kernel_rfl) (.cons zbn (.cons zdf .nil))) (fun x=>by kernel_rfl)
def zfL (x0:Vault) (x5:Int) (s:(Int×(List Int))):Option ((Int×(List Int))⊕(List Int)) :=
 if decide (s.1<(Vault.Words x0)) then
 (remO s.1 x5).bind fun v12=>(getO (Banks.Rows (Vault.Banks x0)) v12).bind fun v13=>(quoO .i64 s.1 x5).bind fun v14=>(getO v13 v14).bind fun v15=>(appO 4 s.2 ([v15]:List Int)).bind fun v17=>some (Sum.inl (w64 (s.1 + (1:Int)),v17))
 else
 some (Sum.inr (s.2))
def zf6 (p0:Vault):Option (List Int) :=
 (zcc p0).bind fun v1=>if !v1 then
 some (([]:List Int))
 else
 let v5:Int:=(List.length (Banks.Rows (Vault.Banks p0)):Int)
 (zar (zfL p0 v5) ((0:Int),([]:List Int)):Option (List Int)).bind fun v6=>some (v6)
def zds:FnT:=⟨[zaB],[.sl (.int .u32)],fun x=>zf6 x⟩
def zlv:TA :=
 .call 23 zaL [.v 0] 1<|.prim (.un .not) [.v 1]<|.ite (.v 2) (.jmp 0 false [.c .nil]) (.prim (.fld 0) [.v 0]<|.prim (.fld 0) [.v 3]<|.prim .len [.v 4]<|.sub0 [.sl (.int .u32)] (.loop [.int .i64,.sl (.int .u32)] [.c (.int .i64 0),.c .nil] (.prim (.fld 1) [.v 0]<|.prim (.bin .lss) [.v 6,.v 8]<|.ite (.v 9) (.prim (.fld 0) [.v 0]<|.prim (.fld 0) [.v 10]<|.prim (.bin .rem) [.v 6,.v 5]<|.prim .get [.v 11,.v 12]<|.prim (.bin .quo) [.v 6,.v 5]<|.prim .get [.v 13,.v 14]<|.mkL (.int .u32) [.v 15]<|.prim (.app 4) [.v 7,.v 16]<|.prim (.bin .add) [.v 6,.c (.int .i64 1)]<|.jmp 0 true [.v 18,.v 17]) (.jmp 1 false [.v 7]))) 1<|.jmp 0 false [.v 6])
theorem zrZ:zaj cx 12 27=some zlv.erase:=by kernel_rfl
theorem zlg:FnOk cx 12 noC 27 zds:=zaQ (t:=zlv) zrZ (fun _=>rfl) (zaN [(23,zaL)] (by kernel_rfl) (.cons zct .nil)) (fun x=>by kernel_rfl)
def zc8 (x2:List (List Int)) (x3:Int) (s:(Int×(List (List Int)))):Option ((Int×(List (List Int)))⊕(List (List Int))) :=
 if decide (s.1<x3) then
 (getO x2 s.1).bind fun v7=>(zaV 4 v7).bind fun v8=>(appO 24 s.2 ([v8]:List (List Int))).bind fun v10=>some (Sum.inl (w64 (s.1 + (1:Int)),v10))
 else
 some (Sum.inr (s.2))
def zgx (p0:Vault):Option (Vault×Int) :=
 (let v2:List (List Int):=Banks.Rows (Vault.Banks p0)
 let v3:Int:=(List.length v2:Int)
 (zar (zc8 v2 v3) ((0:Int),([]:List (List Int))):Option (List (List Int))).bind fun v4=>(zaV 4 (Banks.Par (Vault.Banks p0))).bind fun v7=>(zaV 24 (Vault.Lst p0)).bind fun v9=>some ((Banks.Lost (Vault.Banks p0),Vault.Words p0,Vault.Span p0,v4,v7,v9)):Option (Int×Int×Int×(List (List Int))×(List Int)×(List Undo))).bind fun v1=>((za6 p0).bind fun v7=>if !v7 then
 some (true)
 else
 some ((decide ((Vault.Span p0)=(1099511627776:Int)))):Option Bool).bind fun v7=>if v7 then
 some ((Vault.mk (Banks.mk v1.2.2.2.1 v1.2.2.2.2.1 v1.1) v1.2.1 v1.2.2.1 v1.2.2.2.2.2,(1:Int)))
 else
 some ((Vault.mk (Banks.mk v1.2.2.2.1 v1.2.2.2.2.1 v1.1) v1.2.1 (w64 (v1.2.2.1 + (1:Int))) v1.2.2.2.2.2,(0:Int)))
def zft:FnT:=⟨[zaB],[zaB,.int .i64],fun x=>zgx x⟩
def zjL:TA :=
 .sub0 [.int .i64,.int .i64,.int .i64,.sl (.sl (.int .u32)),.sl (.int .u32),.sl zbt] (.prim (.fld 0) [.v 0]<|.prim (.fld 0) [.v 1]<|.prim .len [.v 2]<|.sub0 [.sl (.sl (.int .u32))] (.loop [.int .i64,.sl (.sl (.int .u32))] [.c (.int .i64 0),.c .nil] (.prim (.bin .lss) [.v 4,.v 3]<|.ite (.v 6) (.prim .get [.v 2,.v 4]<|.prim (.clone 4) [.v 7]<|.mkL (.sl (.int .u32)) [.v 8]<|.prim (.app 24) [.v 5,.v 9]<|.prim (.bin .add) [.v 4,.c (.int .i64 1)]<|.jmp 0 true [.v 11,.v 10]) (.jmp 1 false [.v 5]))) 1<|.prim (.fld 0) [.v 0]<|.prim (.fld 1) [.v 5]<|.prim (.clone 4) [.v 6]<|.prim (.fld 3) [.v 0]<|.prim (.clone 24) [.v 8]<|.prim (.fld 0) [.v 0]<|.prim (.fld 1) [.v 0]<|.prim (.fld 2) [.v 0]<|.prim (.fld 3) [.v 0]<|.prim (.fld 0) [.v 10]<|.prim (.fld 1) [.v 10]<|.prim (.fld 2) [.v 10]<|.jmp 0 false [.v 16,.v 11,.v 12,.v 4,.v 7,.v 9]) 6<|.sub0 [.bool] (.call 24 zaq [.v 0] 1<|.prim (.un .not) [.v 7]<|.ite (.v 8) (.jmp 0 false [.c (.bool true)]) (.prim (.fld 2) [.v 0]<|.prim (.bin .eql) [.v 9,.c (.int .i64 1099511627776)]<|.jmp 0 false [.v 10])) 1<|.ite (.v 7) (.mkS zaD [.v 4,.v 5,.v 1]<|.mkS za9 [.v 8,.v 2,.v 3,.v 6]<|.jmp 0 false [.v 9,.c (.int .i64 1)]) (.prim (.bin .add) [.v 3,.c (.int .i64 1)]<|.mkS zaD [.v 4,.v 5,.v 1]<|.mkS za9 [.v 9,.v 2,.v 8,.v 6]<|.jmp 0 false [.v 10,.c (.int .i64 0)])
theorem zpp:zaj cx 12 28=some zjL.erase:=by kernel_rfl
theorem zpZ:FnOk cx 12 noC 28 zft:=zaQ (t:=zjL) zpp (fun _=>rfl) (zaN [(24,zaq)] (by kernel_rfl) (.cons zbn .nil)) (fun x=>by kernel_rfl)
def zc4 (p0:Vault):Option (Vault×Int) :=
 (let v2:List (List Int):=Banks.Rows (Vault.Banks p0)
 let v3:Int:=(List.length v2:Int)
 (zar (zc8 v2 v3) ((0:Int),([]:List (List Int))):Option (List (List Int))).bind fun v4=>(zaV 4 (Banks.Par (Vault.Banks p0))).bind fun v7=>(zaV 24 (Vault.Lst p0)).bind fun v9=>some ((Banks.Lost (Vault.Banks p0),Vault.Words p0,Vault.Span p0,v4,v7,v9)):Option (Int×Int×Int×(List (List Int))×(List Int)×(List Undo))).bind fun v1=>(za6 p0).bind fun v7=>if !v7 then
 some ((Vault.mk (Banks.mk v1.2.2.2.1 v1.2.2.2.2.1 v1.1) v1.2.1 v1.2.2.1 v1.2.2.2.2.2,(1:Int)))
 else
 (zcF (Vault.Banks p0)).bind fun v10=>some ((Vault.mk v10.1 v1.2.1 v1.2.2.1 v1.2.2.2.2.2,v10.2))
def zdQ:FnT:=⟨[zaB],[zaB,.int .i64],fun x=>zc4 x⟩
def zf3:TA :=
 .sub0 [.int .i64,.int .i64,.int .i64,.sl (.sl (.int .u32)),.sl (.int .u32),.sl zbt] (.prim (.fld 0) [.v 0]<|.prim (.fld 0) [.v 1]<|.prim .len [.v 2]<|.sub0 [.sl (.sl (.int .u32))] (.loop [.int .i64,.sl (.sl (.int .u32))] [.c (.int .i64 0),.c .nil] (.prim (.bin .lss) [.v 4,.v 3]<|.ite (.v 6) (.prim .get [.v 2,.v 4]<|.prim (.clone 4) [.v 7]<|.mkL (.sl (.int .u32)) [.v 8]<|.prim (.app 24) [.v 5,.v 9]<|.prim (.bin .add) [.v 4,.c (.int .i64 1)]<|.jmp 0 true [.v 11,.v 10]) (.jmp 1 false [.v 5]))) 1<|.prim (.fld 0) [.v 0]<|.prim (.fld 1) [.v 5]<|.prim (.clone 4) [.v 6]<|.prim (.fld 3) [.v 0]<|.prim (.clone 24) [.v 8]<|.prim (.fld 0) [.v 0]<|.prim (.fld 1) [.v 0]<|.prim (.fld 2) [.v 0]<|.prim (.fld 3) [.v 0]<|.prim (.fld 0) [.v 10]<|.prim (.fld 1) [.v 10]<|.prim (.fld 2) [.v 10]<|.jmp 0 false [.v 16,.v 11,.v 12,.v 4,.v 7,.v 9]) 6<|.call 24 zaq [.v 0] 1<|.prim (.un .not) [.v 7]<|.ite (.v 8) (.mkS zaD [.v 4,.v 5,.v 1]<|.mkS za9 [.v 9,.v 2,.v 3,.v 6]<|.jmp 0 false [.v 10,.c (.int .i64 1)]) (.prim (.fld 0) [.v 0]<|.call 79 zcY [.v 9] 2<|.mkS za9 [.v 10,.v 2,.v 3,.v 6]<|.jmp 0 false [.v 12,.v 11])
theorem zkL:zaj cx 12 30=some zf3.erase:=by kernel_rfl
theorem zlX:FnOk cx 12 noC 30 zdQ:=zaQ (t:=zf3) zkL (fun _=>rfl) (zaN [(24,zaq),(79,zcY)] (by kernel_rfl) (.cons zbn (.cons zj4 .nil))) (fun x=>by kernel_rfl)
def zj9 (p0:Banks) (p1:Int):Option (Banks×Int) :=
 (ziQ p0 p1).bind fun v2=>if !v2 then
 some ((p0,(1:Int)))
 else
 if !decide ((Banks.Lost p0)=(0:Int)) then
 some ((p0,(8:Int)))
 else
 let v7:Int:=(List.length (Banks.Par p0):Int)
 (repO (0:Int) 4 v7 v7).bind fun v8=>(zgk p0 p1 v8).bind fun v9=>some ((Banks.setLost v9 (w64 (p1 + (1:Int))),(0:Int)))
def ziC:FnT:=⟨[zai,.int .i64],[zai,.int .i64],fun x=>zj9 x.1 x.2⟩
def zmC:TA :=
 .call 80 zdr [.v 0,.v 1] 1<|.prim (.un .not) [.v 2]<|.ite (.v 3) (.jmp 0 false [.v 0,.c (.int .i64 1)]) (.prim (.fld 2) [.v 0]<|.prim (.bin .neq) [.v 4,.c (.int .i64 0)]<|.ite (.v 5) (.jmp 0 false [.v 0,.c (.int .i64 8)]) (.prim (.fld 1) [.v 0]<|.prim .len [.v 6]<|.primH (.rep (.int .u32 0) 4) (.sl (.int .u32)) [.v 7,.v 7]<|.call 81 zcs [.v 0,.v 1,.v 8] 1<|.prim (.bin .add) [.v 1,.c (.int .i64 1)]<|.prim (.setf 2) [.v 9,.v 10]<|.jmp 0 false [.v 11,.c (.int .i64 0)]))
theorem zth:zaj cx 12 31=some zmC.erase:=by kernel_rfl
theorem ztp:FnOk cx 12 noC 31 ziC:=zaQ (t:=zmC) zth (fun _=>rfl) (zaN [(80,zdr),(81,zcs)] (by kernel_rfl) (.cons zll (.cons ziP .nil))) (fun x=>by kernel_rfl)
def zdP (p0:Vault) (p1:Int):Option Bool :=
 ((za6 p0).bind fun v2=>if v2 then
 if decide ((0:Int)≤p1) then
 some ((decide (p1<(Vault.Words p0))))
 else
 some (false)
 else
 some (false):Option Bool).bind fun v2=>some (v2)
def zcj:FnT:=⟨[zaB,.int .i64],[.bool],fun x=>zdP x.1 x.2⟩
def zij:TA :=
 .sub0 [.bool] (.call 24 zaq [.v 0] 1<|.ite (.v 2) (.prim (.bin .geq) [.v 1,.c (.int .i64 0)]<|.ite (.v 3) (.prim (.fld 1) [.v 0]<|.prim (.bin .lss) [.v 1,.v 4]<|.jmp 0 false [.v 5]) (.jmp 0 false [.c (.bool false)])) (.jmp 0 false [.c (.bool false)])) 1<|.jmp 0 false [.v 2]
theorem znB:zaj cx 12 54=some zij.erase:=by kernel_rfl
theorem zhw:FnOk cx 12 noC 54 zcj:=zaQ (t:=zij) znB (fun _=>rfl) (zaN [(24,zaq)] (by kernel_rfl) (.cons zbn .nil)) (fun x=>by kernel_rfl)
def zcM (p0:Vault) (p1:Int):Option Bool :=
 ((za6 p0).bind fun v2=>if v2 then
 if decide ((0:Int)≤p1) then
 some ((decide (p1≤(Vault.Span p0))))
 else
 some (false)
 else
 some (false):Option Bool).bind fun v2=>some (v2)
def zbQ:FnT:=⟨[zaB,.int .i64],[.bool],fun x=>zcM x.1 x.2⟩
def zgP:TA :=
 .sub0 [.bool] (.call 24 zaq [.v 0] 1<|.ite (.v 2) (.prim (.bin .geq) [.v 1,.c (.int .i64 0)]<|.ite (.v 3) (.prim (.fld 2) [.v 0]<|.prim (.bin .leq) [.v 1,.v 4]<|.jmp 0 false [.v 5]) (.jmp 0 false [.c (.bool false)])) (.jmp 0 false [.c (.bool false)])) 1<|.jmp 0 false [.v 2]
theorem zmo:zaj cx 12 62=some zgP.erase:=by kernel_rfl
theorem zgH:FnOk cx 12 noC 62 zbQ:=zaQ (t:=zgP) zmo (fun _=>rfl) (zaN [(24,zaq)] (by kernel_rfl) (.cons zbn .nil)) (fun x=>by kernel_rfl)
def zdu (p0:Banks) (p1:Int) (p2:Int):Option (Int×Int) :=
 ((zdp p0 p1).bind fun v3=>if !v3 then
 some (true)
 else
 if decide (p2<(0:Int)) then
 some (true)
 else
 some ((decide ((List.length (Banks.Par p0):Int)≤p2))):Option Bool).bind fun v3=>if v3 then
 some (((0:Int),(1:Int)))
 else
 if decide ((Banks.Lost p0)=(w64 (p1 + (1:Int)))) then
 some (((0:Int),(8:Int)))
 else
 (getO (Banks.Rows p0) p1).bind fun v8=>(getO v8 p2).bind fun v9=>some ((v9,(0:Int)))
def ze9:FnT:=⟨[zai,.int .i64,.int .i64],[.int .u32,.int .i64],fun x=>zdu x.1 x.2.1 x.2.2⟩
def zhV:TA :=
 .sub0 [.bool] (.call 114 zbD [.v 0,.v 1] 1<|.prim (.un .not) [.v 3]<|.ite (.v 4) (.jmp 0 false [.c (.bool true)]) (.prim (.bin .lss) [.v 2,.c (.int .i64 0)]<|.ite (.v 5) (.jmp 0 false [.c (.bool true)]) (.prim (.fld 1) [.v 0]<|.prim .len [.v 6]<|.prim (.bin .geq) [.v 2,.v 7]<|.jmp 0 false [.v 8]))) 1<|.ite (.v 3) (.jmp 0 false [.c (.int .u32 0),.c (.int .i64 1)]) (.prim (.fld 2) [.v 0]<|.prim (.bin .add) [.v 1,.c (.int .i64 1)]<|.prim (.bin .eql) [.v 4,.v 5]<|.ite (.v 6) (.jmp 0 false [.c (.int .u32 0),.c (.int .i64 8)]) (.prim (.fld 0) [.v 0]<|.prim .get [.v 7,.v 1]<|.prim .get [.v 8,.v 2]<|.jmp 0 false [.v 9,.c (.int .i64 0)]))
theorem znX:zaj cx 12 72=some zhV.erase:=by kernel_rfl
theorem zon:FnOk cx 12 noC 72 ze9:=zaQ (t:=zhV) znX (fun _=>rfl) (zaN [(114,zbD)] (by kernel_rfl) (.cons zfv .nil)) (fun x=>by kernel_rfl)
def zkp (p0:Banks) (p1:Int) (p2:Int):Option (Int×Int) :=
 ((ziQ p0 p1).bind fun v3=>if !v3 then
 some (true)
 else
 if decide (p2<(0:Int)) then
 some (true)
 else
 some ((decide ((List.length (Banks.Par p0):Int)≤p2))):Option Bool).bind fun v3=>if v3 then
 some (((0:Int),(1:Int)))
 else
 if decide ((Banks.Lost p0)=(w64 (p1 + (1:Int)))) then
 some (((0:Int),(8:Int)))
 else
 (getO (Banks.Rows p0) p1).bind fun v8=>(getO v8 p2).bind fun v9=>some ((v9,(0:Int)))
def ziI:FnT:=⟨[zai,.int .i64,.int .i64],[.int .u32,.int .i64],fun x=>zkp x.1 x.2.1 x.2.2⟩
def zmV:TA :=
 .sub0 [.bool] (.call 80 zdr [.v 0,.v 1] 1<|.prim (.un .not) [.v 3]<|.ite (.v 4) (.jmp 0 false [.c (.bool true)]) (.prim (.bin .lss) [.v 2,.c (.int .i64 0)]<|.ite (.v 5) (.jmp 0 false [.c (.bool true)]) (.prim (.fld 1) [.v 0]<|.prim .len [.v 6]<|.prim (.bin .geq) [.v 2,.v 7]<|.jmp 0 false [.v 8]))) 1<|.ite (.v 3) (.jmp 0 false [.c (.int .u32 0),.c (.int .i64 1)]) (.prim (.fld 2) [.v 0]<|.prim (.bin .add) [.v 1,.c (.int .i64 1)]<|.prim (.bin .eql) [.v 4,.v 5]<|.ite (.v 6) (.jmp 0 false [.c (.int .u32 0),.c (.int .i64 8)]) (.prim (.fld 0) [.v 0]<|.prim .get [.v 7,.v 1]<|.prim .get [.v 8,.v 2]<|.jmp 0 false [.v 9,.c (.int .i64 0)]))
theorem zui:zaj cx 12 73=some zmV.erase:=by kernel_rfl
theorem ztN:FnOk cx 12 noC 73 ziI:=zaQ (t:=zmV) zui (fun _=>rfl) (zaN [(80,zdr)] (by kernel_rfl) (.cons zll .nil)) (fun x=>by kernel_rfl)
def zgI (x5:List (List Int)) (x6:Int) (s:(Int×(List (List Int)))):Option ((Int×(List (List Int)))⊕(List (List Int))) :=
 if decide (s.1<x6) then
 (getO x5 s.1).bind fun v10=>(zaV 4 v10).bind fun v11=>(appO 24 s.2 ([v11]:List (List Int))).bind fun v13=>some (Sum.inl (w64 (s.1 + (1:Int)),v13))
 else
 some (Sum.inr (s.2))
def ze6 (p0:Banks) (p1:Int):Option (Banks×Int) :=
 ((zaV 4 (Banks.Par p0)).bind fun v3=>let v6:Int:=(List.length (Banks.Rows p0):Int)
 (zar (zgI (Banks.Rows p0) v6) ((0:Int),([]:List (List Int))):Option (List (List Int))).bind fun v7=>some ((Banks.Lost p0,v7,v3)):Option (Int×(List (List Int))×(List Int))).bind fun v2=>(zdp p0 p1).bind fun v5=>if !v5 then
 some ((Banks.mk v2.2.1 v2.2.2 v2.1,(1:Int)))
 else
 if decide ((0:Int)<(Banks.Lost p0)) then
 some ((Banks.mk v2.2.1 v2.2.2 v2.1,(8:Int)))
 else
 (idxO (List.length v2.2.1:Int) p1).bind fun v9=>(idxO (List.length v2.2.1:Int) v9).bind fun v10=>(getO v2.2.1 v10).bind fun v11=>(setO v2.2.1 v10 (List.replicate (List.length v11) (0:Int))).bind fun v13=>some ((Banks.mk v13 v2.2.2 (w64 (p1 + (1:Int))),(0:Int)))
def zeK:FnT:=⟨[zai,.int .i64],[zai,.int .i64],fun x=>ze6 x.1 x.2⟩
def zin:TA :=
 .sub0 [.int .i64,.sl (.sl (.int .u32)),.sl (.int .u32)] (.prim (.fld 1) [.v 0]<|.prim (.clone 4) [.v 2]<|.prim (.fld 2) [.v 0]<|.prim (.fld 0) [.v 0]<|.prim .len [.v 5]<|.sub0 [.sl (.sl (.int .u32))] (.loop [.int .i64,.sl (.sl (.int .u32))] [.c (.int .i64 0),.c .nil] (.prim (.bin .lss) [.v 7,.v 6]<|.ite (.v 9) (.prim .get [.v 5,.v 7]<|.prim (.clone 4) [.v 10]<|.mkL (.sl (.int .u32)) [.v 11]<|.prim (.app 24) [.v 8,.v 12]<|.prim (.bin .add) [.v 7,.c (.int .i64 1)]<|.jmp 0 true [.v 14,.v 13]) (.jmp 1 false [.v 8]))) 1<|.jmp 0 false [.v 4,.v 7,.v 3]) 3<|.call 114 zbD [.v 0,.v 1] 1<|.prim (.un .not) [.v 5]<|.ite (.v 6) (.mkS zaD [.v 3,.v 4,.v 2]<|.jmp 0 false [.v 7,.c (.int .i64 1)]) (.prim (.fld 2) [.v 0]<|.prim (.bin .gtr) [.v 7,.c (.int .i64 0)]<|.ite (.v 8) (.mkS zaD [.v 3,.v 4,.v 2]<|.jmp 0 false [.v 9,.c (.int .i64 8)]) (.prim .idx [.v 3,.v 1]<|.prim .idx [.v 3,.v 9]<|.prim .get [.v 3,.v 10]<|.prim (.clr (.int .u32 0)) [.v 11]<|.prim .set [.v 3,.v 10,.v 12]<|.prim (.bin .add) [.v 1,.c (.int .i64 1)]<|.mkS zaD [.v 13,.v 4,.v 14]<|.jmp 0 false [.v 15,.c (.int .i64 0)]))
theorem zn6:zaj cx 12 78=some zin.erase:=by kernel_rfl
theorem zot:FnOk cx 12 noC 78 zeK:=zaQ (t:=zin) zn6 (fun _=>rfl) (zaN [(114,zbD)] (by kernel_rfl) (.cons zfv .nil)) (fun x=>by kernel_rfl)
end Go.Proofs.Ytlgjbfdojbmmgaa
