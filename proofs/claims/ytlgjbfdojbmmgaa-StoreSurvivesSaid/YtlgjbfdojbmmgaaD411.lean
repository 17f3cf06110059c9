/- The types of this cut, and its functions as functions of plain typed data. Printed by a program of this claim's prover; each is checked here to be what the executor makes of the code. -/
import Derived.Test.YtlgjbfdojbmmgaaProg
import Derived.Test.YtlgjbfdojbmmgaaLim
import Derived.KernelRfl
set_option linter.unusedVariables false
set_option maxRecDepth 100000
noncomputable section
namespace Go.Proofs.Ytlgjbfdojbmmgaa
open Go.SX
abbrev zj1:List Ty:=[.int .i64,.int .i64]
abbrev zbm:Ty:=.st zj1
abbrev store_key:Type:=Int×Int
def store_key.mk (span:Int) (at_:Int):store_key:=(span,at_)
def store_key.span (x:store_key):Int:=x.1
def store_key.at_ (x:store_key):Int:=x.2
@[simp] theorem store_key.span_mk (span:Int) (at_:Int):store_key.span (store_key.mk span at_)=span:=rfl
@[simp] theorem store_key.at__mk (span:Int) (at_:Int):store_key.at_ (store_key.mk span at_)=at_:=rfl
@[simp] theorem store_key.eta (x:store_key):store_key.mk (store_key.span x) (store_key.at_ x)=x:=rfl
abbrev ze9:List Ty:=[.int .i64,.int .i64,.bool,.int .u8]
abbrev zcX:Ty:=.st ze9
abbrev zvY:List Ty:=[.int .i64,.bool,.bool,.bool,.bool,.bool,.int .i64,.int .i64,.int .u32]
abbrev zur:Ty:=.st zvY
abbrev zuR:List Ty:=[.int .i64,.int .i64,.int .u32]
abbrev zcK:Ty:=.st zuR
abbrev Undo:Type:=Int×Int×Int
def Undo.mk (Span:Int) (At:Int) (Val:Int):Undo:=(Span,At,Val)
def Undo.Span (x:Undo):Int:=x.1
def Undo.At (x:Undo):Int:=x.2.1
def Undo.Val (x:Undo):Int:=x.2.2
@[simp] theorem Undo.Span_mk (Span:Int) (At:Int) (Val:Int):Undo.Span (Undo.mk Span At Val)=Span:=rfl
@[simp] theorem Undo.At_mk (Span:Int) (At:Int) (Val:Int):Undo.At (Undo.mk Span At Val)=At:=rfl
@[simp] theorem Undo.Val_mk (Span:Int) (At:Int) (Val:Int):Undo.Val (Undo.mk Span At Val)=Val:=rfl
@[simp] theorem Undo.eta (x:Undo):Undo.mk (Undo.Span x) (Undo.At x) (Undo.Val x)=x:=rfl
abbrev zdb:List Ty:=[.str,.int .u64]
abbrev zbs:Ty:=.st zdb
abbrev zv8:List Ty:=[.int .i64,.int .i64,.int .i64,.int .i64,.int .i64,.int .i64,.bool,.int .u32,.int .u32]
abbrev tMsg:Ty:=.st zv8
abbrev zrU:List Ty:=[.int .u8,.int .u8,.int .u8,.int .u8,.bool,.int .u32]
abbrev zm1:Ty:=.st zrU
abbrev ztS:List Ty:=[.int .u8,.int .u8,.int .u8,.int .u32]
abbrev ze2:Ty:=.st ztS
abbrev l14_Do:Type:=Int×Int×Int×Int
def l14_Do.mk (Kind:Int) (At:Int) (To:Int) (Val:Int):l14_Do:=(Kind,At,To,Val)
def l14_Do.Kind (x:l14_Do):Int:=x.1
def l14_Do.At (x:l14_Do):Int:=x.2.1
def l14_Do.To (x:l14_Do):Int:=x.2.2.1
def l14_Do.Val (x:l14_Do):Int:=x.2.2.2
@[simp] theorem l14_Do.Kind_mk (Kind:Int) (At:Int) (To:Int) (Val:Int):l14_Do.Kind (l14_Do.mk Kind At To Val)=Kind:=rfl
@[simp] theorem l14_Do.At_mk (Kind:Int) (At:Int) (To:Int) (Val:Int):l14_Do.At (l14_Do.mk Kind At To Val)=At:=rfl
@[simp] theorem l14_Do.To_mk (Kind:Int) (At:Int) (To:Int) (Val:Int):l14_Do.To (l14_Do.mk Kind At To Val)=To:=rfl
@[simp] theorem l14_Do.Val_mk (Kind:Int) (At:Int) (To:Int) (Val:Int):l14_Do.Val (l14_Do.mk Kind At To Val)=Val:=rfl
@[simp] theorem l14_Do.eta (x:l14_Do):l14_Do.mk (l14_Do.Kind x) (l14_Do.At x) (l14_Do.To x) (l14_Do.Val x)=x:=rfl
abbrev zvv:List Ty:=[.int .i64,.sl .bool]
abbrev zqB:Ty:=.st zvv
abbrev zaF:List Ty:=[.sl (.sl (.int .u32)),.sl (.int .u32),.int .i64]
abbrev zan:Ty:=.st zaF
abbrev Banks:Type:=(List (List Int))×(List Int)×Int
def Banks.mk (Rows:List (List Int)) (Par:List Int) (Lost:Int):Banks:=(Rows,Par,Lost)
def Banks.Rows (x:Banks):List (List Int):=x.1
def Banks.Par (x:Banks):List Int:=x.2.1
def Banks.Lost (x:Banks):Int:=x.2.2
def Banks.setLost (x:Banks) (v:Int):Banks:=(x.1,x.2.1,v)
@[simp] theorem Banks.Rows_mk (Rows:List (List Int)) (Par:List Int) (Lost:Int):Banks.Rows (Banks.mk Rows Par Lost)=Rows:=rfl
@[simp] theorem Banks.Par_mk (Rows:List (List Int)) (Par:List Int) (Lost:Int):Banks.Par (Banks.mk Rows Par Lost)=Par:=rfl
@[simp] theorem Banks.Lost_mk (Rows:List (List Int)) (Par:List Int) (Lost:Int):Banks.Lost (Banks.mk Rows Par Lost)=Lost:=rfl
@[simp] theorem Banks.setLost_eq (x:Banks) (v:Int):Banks.setLost x v=Banks.mk (Banks.Rows x) (Banks.Par x) v:=rfl
@[simp] theorem Banks.eta (x:Banks):Banks.mk (Banks.Rows x) (Banks.Par x) (Banks.Lost x)=x:=rfl
abbrev zvE:List Ty:=[.sl (.sl (.int .u8))]
abbrev zva:Ty:=.st zvE
abbrev zvf:List Ty:=[.sl (.int .u32),.int .i64,.sl zcK]
abbrev tLog:Ty:=.st zvf
abbrev Log:Type:=(List Int)×Int×(List Ytlgjbfdojbmmgaa.Undo)
def Log.mk (Mem:List Int) (Span:Int) (Lst:List Ytlgjbfdojbmmgaa.Undo):Log:=(Mem,Span,Lst)
def Log.Mem (x:Log):List Int:=x.1
def Log.Span (x:Log):Int:=x.2.1
def Log.Lst (x:Log):List Ytlgjbfdojbmmgaa.Undo:=x.2.2
@[simp] theorem Log.Mem_mk (Mem:List Int) (Span:Int) (Lst:List Ytlgjbfdojbmmgaa.Undo):Log.Mem (Log.mk Mem Span Lst)=Mem:=rfl
@[simp] theorem Log.Span_mk (Mem:List Int) (Span:Int) (Lst:List Ytlgjbfdojbmmgaa.Undo):Log.Span (Log.mk Mem Span Lst)=Span:=rfl
@[simp] theorem Log.Lst_mk (Mem:List Int) (Span:Int) (Lst:List Ytlgjbfdojbmmgaa.Undo):Log.Lst (Log.mk Mem Span Lst)=Lst:=rfl
@[simp] theorem Log.eta (x:Log):Log.mk (Log.Mem x) (Log.Span x) (Log.Lst x)=x:=rfl
abbrev zbf:List Ty:=[zan,.int .i64,.int .i64,.sl zcK]
abbrev zas:Ty:=.st zbf
abbrev Vault:Type:=Ytlgjbfdojbmmgaa.Banks×Int×Int×(List Ytlgjbfdojbmmgaa.Undo)
def Vault.mk (Banks:Ytlgjbfdojbmmgaa.Banks) (Words:Int) (Span:Int) (Lst:List Ytlgjbfdojbmmgaa.Undo):Vault:=(Banks,Words,Span,Lst)
def Vault.Banks (x:Vault):Ytlgjbfdojbmmgaa.Banks:=x.1
def Vault.Words (x:Vault):Int:=x.2.1
def Vault.Span (x:Vault):Int:=x.2.2.1
def Vault.Lst (x:Vault):List Ytlgjbfdojbmmgaa.Undo:=x.2.2.2
def Vault.setBanks (x:Vault) (v:Ytlgjbfdojbmmgaa.Banks):Vault:=(v,x.2.1,x.2.2.1,x.2.2.2)
def Vault.setSpan (x:Vault) (v:Int):Vault:=(x.1,x.2.1,v,x.2.2.2)
def Vault.setLst (x:Vault) (v:List Ytlgjbfdojbmmgaa.Undo):Vault:=(x.1,x.2.1,x.2.2.1,v)
@[simp] theorem Vault.Banks_mk (Banks:Ytlgjbfdojbmmgaa.Banks) (Words:Int) (Span:Int) (Lst:List Ytlgjbfdojbmmgaa.Undo):Vault.Banks (Vault.mk Banks Words Span Lst)=Banks:=rfl
@[simp] theorem Vault.Words_mk (Banks:Ytlgjbfdojbmmgaa.Banks) (Words:Int) (Span:Int) (Lst:List Ytlgjbfdojbmmgaa.Undo):Vault.Words (Vault.mk Banks Words Span Lst)=Words:=rfl
@[simp] theorem Vault.Span_mk (Banks:Ytlgjbfdojbmmgaa.Banks) (Words:Int) (Span:Int) (Lst:List Ytlgjbfdojbmmgaa.Undo):Vault.Span (Vault.mk Banks Words Span Lst)=Span:=rfl
@[simp] theorem Vault.Lst_mk (Banks:Ytlgjbfdojbmmgaa.Banks) (Words:Int) (Span:Int) (Lst:List Ytlgjbfdojbmmgaa.Undo):Vault.Lst (Vault.mk Banks Words Span Lst)=Lst:=rfl
@[simp] theorem Vault.setBanks_eq (x:Vault) (v:Ytlgjbfdojbmmgaa.Banks):Vault.setBanks x v=Vault.mk v (Vault.Words x) (Vault.Span x) (Vault.Lst x):=rfl
@[simp] theorem Vault.setSpan_eq (x:Vault) (v:Int):Vault.setSpan x v=Vault.mk (Vault.Banks x) (Vault.Words x) v (Vault.Lst x):=rfl
@[simp] theorem Vault.setLst_eq (x:Vault) (v:List Ytlgjbfdojbmmgaa.Undo):Vault.setLst x v=Vault.mk (Vault.Banks x) (Vault.Words x) (Vault.Span x) v:=rfl
@[simp] theorem Vault.eta (x:Vault):Vault.mk (Vault.Banks x) (Vault.Words x) (Vault.Span x) (Vault.Lst x)=x:=rfl
abbrev zvn:List Ty:=[.sl (.sl (.int .i64)),.sl (.sl (.int .u32)),.sl zur,.sl (.int .u32),.sl zqB,.sl (.int .i64),zva]
abbrev zsc:Ty:=.st zvn
abbrev zkO:List Ty:=[zsc]
abbrev zhx:Ty:=.st zkO
def tys:List Ty:=[.no,.no,.int .i64,.int .i64,.bool,.int .u8,.int .u8,zcX,zcX,.str,.str,.str,.int .u64,zbs,zbs,.no,.no,.no,.no,.no,.no,.int .i32,.sl (.sl (.int .u32)),.sl (.int .u32),zan,zan,.sl zcK,zas,zas,.int .u32,.no,.no,.int .i64,.no,.no,.no,.no,.no,.no,.no,.no,.no,.no,.no,.no,.no,.no,.no,.no,.no,.no,.no,.no,.no,.sl ze2,ze2,ze2,.no,tLog,tLog,.no,.no,.no,.no,.no,zcK,zcK,.sl zm1,.sl (.sl (.int .i64)),.sl zur,.sl zqB,.sl (.int .i64),.sl (.sl (.int .u8)),zva,zva,zsc,zsc,.no,.no,.no,zm1,zm1,.no,.no,.no,.no,.no,.no,.no,.no,.sl .bool,zqB,zqB,.no,.no,.no,.no,.no,.no,.no,.no,.no,.no,.no,.no,.no,.no,.no,.no,.no,.no,.no,.no,.no,.no,.no,.no,.no,.no,.no,.no,.no,.no,.no,.no,.no,.no,.no,.no,.no,.no,.no,.no,zur,zur,.no,.no,zhx,zhx,.no,.no,.no,.no,tMsg,tMsg,.no,.no,.no,.no,.no,.no,.no,.no,.no,.no,.no,.no,.no,.no,.no,.no,.no,.no,.no,.no,zbm,zbm,.no,.no,.arr 2 (.int .i64),.no,.no,.no,.no,.no,.no,.no,.no,.no,.no,.no,.no,.sl (.int .u8),.no,.no,.no,.no,.no,.no,.no,.no,.no,.no,.no,.no,.no,.no,.no,.no,.no,.no,.no,.no,.no,.no,.no,.no,.no,.no,.no,.no,.no,.no,.no,.no,.no,.no,.arr 4 (.int .u8),.int .u64,.no,.no,.no,.no,.no,.no,.no,.no,.no,.no,.no,.no,.no,.no,.int .u8,.int .u8,.no,.no,.int .i32,.int .i32,.no,.no,.no]
def cx:Cx:={ P:=Try.prog,ty:=tys,own:=[],inl:=[53,63,68,84,92,107,108,113,120,126,127,128,129,130,131,153,156,157,166,174,175,178,180,183],keepL:=[],absL:=[53,68,84,92,119,120,126,127,131,156,162,166,173],lendL:=[79],freshL:=[119],owL:=[],bk:=[(113,26,66)],heads:=[(4,[(16,44994265250476060289876272997433921580968488052958731056455108,⟨20,0,zcf 207 0 [(2,.d (.sl ze2) (.v 2)),(6,.d .bool (.c (.bool false))),(7,.d (.int .i64) (.v 7)),(8,.p zas zas 0 []),(10,.h (.sl (.int .u32)) 1 none),(11,.d (.int .i64) (.v 16)),(12,.d (.int .i64) (.v 17))],[.box zas (.d zas (.v 18)),.row (.sl (.int .u32)) (.v 19)]⟩)]),
 (5,[(16,2905741800979855680013847846498343564944659715524,⟨19,0,zcf 182 0 [(2,.d (.sl ze2) (.v 2)),(6,.d .bool (.c (.bool false))),(7,.d (.int .i64) (.v 7)),(8,.p zas zas 0 []),(10,.p tLog tLog 1 []),(12,.d (.int .i64) (.v 16))],[.box zas (.d zas (.v 17)),.box tLog (.d tLog (.v 18))]⟩),
 (30,2905741800979855680013847846498343564944660026820,⟨31,0,zcf 182 0 [(2,.d (.sl ze2) (.v 2)),(6,.d .bool (.c (.bool false))),(7,.d (.int .i64) (.v 7)),(8,.p zas zas 0 []),(10,.p tLog tLog 1 []),(12,.d (.int .i64) (.v 16)),(14,.p zas zas 2 []),(15,.p tLog tLog 3 []),(18,.d (.int .i64) (.v 30))],[.box zas (.d zas (.v 17)),.box tLog (.d tLog (.v 18)),.box zas (.d zas (.v 27)),.box tLog (.d tLog (.v 28))]⟩)]),
 (33,[(3,60,⟨4,0,zcf 96 0 [(2,.p zan zan 0 []),(3,.p zan zan 1 []),(4,.d .bool (.c (.bool false))),(5,.d (.int .i64) (.v 3))],[.box zan (.d zan (.v 0)),.box zan (.d zan (.v 1))]⟩),
 (3,92,⟨4,0,zcf 96 0 [(2,.p zan zan 0 []),(3,.p zan zan 1 []),(4,.d .bool (.c (.bool false))),(6,.d (.int .i64) (.v 3))],[.box zan (.d zan (.v 0)),.box zan (.d zan (.v 1))]⟩),
 (14,220,⟨15,0,zcf 96 0 [(2,.p zan zan 0 []),(3,.p zan zan 1 []),(4,.d .bool (.c (.bool false))),(6,.d (.int .i64) (.v 3)),(7,.d (.int .i64) (.v 14))],[.box zan (.d zan (.v 0)),.box zan (.d zan (.v 1))]⟩)]),
 (64,[(5,14983475960261640694,⟨7,0,zcf 101 0 [(1,.d (.int .i64) (.v 1)),(2,.p tLog tLog 0 []),(4,.p tLog tLog 1 []),(5,.d (.int .i64) (.c (.int .i64 0))),(6,.h (.int .u32) 2 none),(7,.d (.sl zcK) (.c .nil)),(8,.d (.int .i64) (.v 5))],[.box tLog (.d tLog (.v 0)),.box tLog (.d tLog (.c (.agg [.nil,(.int .i64 0),.nil]))),.row (.int .u32) (.v 6)]⟩),
 (9,14983475960261642230,⟨12,0,zcf 101 0 [(1,.d (.int .i64) (.v 1)),(2,.p tLog tLog 0 []),(4,.p tLog tLog 1 []),(5,.d (.int .i64) (.c (.int .i64 0))),(6,.h (.int .u32) 2 none),(7,.d (.sl zcK) (.c .nil)),(8,.d (.int .i64) (.v 5)),(9,.d .bool (.v 9)),(10,.d (.int .i64) (.v 10))],[.box tLog (.d tLog (.v 0)),.box tLog (.d tLog (.c (.agg [.nil,(.int .i64 0),.nil]))),.row (.int .u32) (.v 11)]⟩),
 (6,2294,⟨8,0,zcf 101 0 [(1,.d (.int .i64) (.v 1)),(2,.p tLog tLog 0 []),(4,.p tLog tLog 1 []),(5,.d (.int .i64) (.c (.int .i64 0))),(6,.h (.int .u32) 2 none),(7,.h zcK 3 none),(11,.d (.int .i64) (.v 6))],[.box tLog (.d tLog (.v 0)),.box tLog (.d tLog (.c (.agg [.nil,(.int .i64 0),.nil]))),.row (.int .u32) (.v 5),.row zcK (.v 7)]⟩)]),
 (74,[(2,79227255524751721442310094862,⟨3,0,zcf 97 0 [(1,.p zan zan 0 []),(2,.d .bool (.c (.bool false))),(3,.d (.int .i64) (.v 2))],[.box zan (.d zan (.v 0))]⟩),
 (2,79227255524751721442310094870,⟨3,0,zcf 97 0 [(1,.p zan zan 0 []),(2,.d .bool (.c (.bool false))),(4,.d (.int .i64) (.v 2))],[.box zan (.d zan (.v 0))]⟩)]),
 (75,[(2,161942369014637331576634822623246,⟨3,0,zcf 108 0 [(1,.p tLog tLog 0 []),(2,.d .bool (.c (.bool false))),(3,.d (.int .i64) (.v 2))],[.box tLog (.d tLog (.v 0))]⟩),
 (9,161942369014637331576634822623294,⟨10,0,zcf 108 0 [(1,.p tLog tLog 0 []),(2,.d .bool (.c (.bool false))),(3,.d (.int .i64) (.v 2)),(4,.p zcK zcK 1 []),(5,.d (.int .i64) (.v 9))],[.box tLog (.d tLog (.v 0)),.box zcK (.d zcK (.v 7))]⟩)])] }
theorem tyOk:TysOk cx:=zr8 (by kernel_rfl) (List.forall_mem_cons.2 ⟨⟨_,_,_,_,_,_,_,_,_,_,_,_,_,_,⟨rfl,rfl,rfl,rfl,rfl,rfl,rfl,rfl,rfl⟩⟩,fun _ h=>nomatch h⟩)
theorem mixed:Try.prog.follows .mixedOrders=true:=by kernel_rfl
def noC:FuncId→List D→Option (List D):=fun _ _=>none
theorem zvS:CallsOk cx noC:=fun _ _ _ _ _ _ _ h=>by cases h
theorem zui {f:FuncId}{ds rs:List D}(k d:Nat) (h:zdX cx k 12 noC d f ds=some rs):zq9 cx 12 noC f ds=some rs:=(zej cx 12 noC).2 ⟨k,d,h⟩
def zdJ (x0:List Int) (x1:List Int) (s:Int):Option (Int⊕Unit⊕Bool) :=
 if decide (s<(List.length x0:Int)) then
 (getO x0 s).bind fun v8=>(getO x1 s).bind fun v9=>if !decide (v8=v9) then
 some (Sum.inr (Sum.inr (false)))
 else
 some (Sum.inl (w64 (s + (1:Int))))
 else
 some (Sum.inr (Sum.inl ()))
def zcE (p0:List Int) (p1:List Int):Option Bool :=
 if !decide ((List.length p0:Int)=(List.length p1:Int)) then
 some (false)
 else
 zbc (zaz (zdJ p0 p1) (0:Int):Option (Unit⊕Bool)) fun v5=>some (true)
def zdo:FnT:=⟨[.sl (.int .u32),.sl (.int .u32)],[.bool],fun x=>zcE x.1 x.2⟩
def zjD:TA :=
 .prim .len [.v 0]<|.prim .len [.v 1]<|.prim (.bin .neq) [.v 2,.v 3]<|.ite (.v 4) (.jmp 0 false [.c (.bool false)]) (.sub1 [] (.loop [.int .i64] [.c (.int .i64 0)] (.prim .len [.v 0]<|.prim (.bin .lss) [.v 5,.v 6]<|.ite (.v 7) (.prim .get [.v 0,.v 5]<|.prim .get [.v 1,.v 5]<|.prim (.bin .neq) [.v 8,.v 9]<|.ite (.v 10) (.jmp 2 false [.c (.bool false)]) (.prim (.bin .add) [.v 5,.c (.int .i64 1)]<|.jmp 0 true [.v 11])) (.jmp 1 false []))) 0<|.jmp 0 false [.c (.bool true)])
theorem zpj:zaH cx 12 25=some zjD.erase:=by kernel_rfl
theorem zjQ:FnOk cx 12 noC 25 zdo:=zci (t:=zjD) zpj (fun _=>rfl) (zb7 [] (by kernel_rfl) .nil) (fun x=>by kernel_rfl)
def zeG (x0:Banks) (x1:Banks) (x3:Int) (s:Int):Option (Int⊕Unit⊕Int⊕Unit⊕Bool) :=
 (getO (Banks.Rows x0) x3).bind fun v16=>if decide (s<(List.length v16:Int)) then
 (getO (Banks.Rows x0) x3).bind fun v20=>(getO v20 s).bind fun v21=>(getO (Banks.Rows x1) x3).bind fun v23=>(getO v23 s).bind fun v24=>if !decide (v21=v24) then
 some (Sum.inr (Sum.inr (Sum.inr (Sum.inr (false)))))
 else
 some (Sum.inl (w64 (s + (1:Int))))
 else
 some (Sum.inr (Sum.inl ()))
def zeT (x0:Banks) (x1:Banks) (s:Int):Option (Int⊕Unit⊕Bool) :=
 if decide (s<(List.length (Banks.Rows x0):Int)) then
 (getO (Banks.Rows x0) s).bind fun v8=>(getO (Banks.Rows x1) s).bind fun v11=>if !decide ((List.length v8:Int)=(List.length v11:Int)) then
 some (Sum.inr (Sum.inr (false)))
 else
 zbc (zaz (zeG x0 x1 s) (0:Int):Option (Unit⊕Int⊕Unit⊕Bool)) fun v14=>some (Sum.inl (w64 (s + (1:Int))))
 else
 some (Sum.inr (Sum.inl ()))
def zeL (x0:Banks) (x1:Banks) (s:Int):Option (Int⊕Unit⊕Bool) :=
 if decide (s<(List.length (Banks.Par x0):Int)) then
 (getO (Banks.Par x0) s).bind fun v8=>(getO (Banks.Par x1) s).bind fun v10=>if !decide (v8=v10) then
 some (Sum.inr (Sum.inr (false)))
 else
 some (Sum.inl (w64 (s + (1:Int))))
 else
 some (Sum.inr (Sum.inl ()))
def zhr (p0:Banks) (p1:Banks):Option Bool :=
 if (!decide ((List.length (Banks.Rows p0):Int)=(List.length (Banks.Rows p1):Int)))||((!decide ((List.length (Banks.Par p0):Int)=(List.length (Banks.Par p1):Int)))||(!decide ((Banks.Lost p0)=(Banks.Lost p1)))) then
 some (false)
 else
 zbc (zaz (zeL p0 p1) (0:Int):Option (Unit⊕Bool)) fun v3=>zbc (zaz (zeT p0 p1) (0:Int):Option (Unit⊕Bool)) fun v3=>some (true)
def zhQ:FnT:=⟨[zan,zan],[.bool],fun x=>zhr x.1 x.2⟩
def zln:TA :=
 .subp [.bool] (.prim (.fld 0) [.v 0]<|.prim .len [.v 2]<|.prim (.fld 0) [.v 1]<|.prim .len [.v 4]<|.prim (.bin .neq) [.v 3,.v 5]<|.ite (.v 6) (.jmp 0 false [.c (.bool true)]) (.prim (.fld 1) [.v 0]<|.prim .len [.v 7]<|.prim (.fld 1) [.v 1]<|.prim .len [.v 9]<|.prim (.bin .neq) [.v 8,.v 10]<|.ite (.v 11) (.jmp 0 false [.c (.bool true)]) (.prim (.fld 2) [.v 0]<|.prim (.fld 2) [.v 1]<|.prim (.bin .neq) [.v 12,.v 13]<|.jmp 0 false [.v 14]))) 1<|.ite (.v 2) (.jmp 0 false [.c (.bool false)]) (.sub1 [] (.loop [.int .i64] [.c (.int .i64 0)] (.prim (.fld 1) [.v 0]<|.prim .len [.v 4]<|.prim (.bin .lss) [.v 3,.v 5]<|.ite (.v 6) (.prim (.fld 1) [.v 0]<|.prim .get [.v 7,.v 3]<|.prim (.fld 1) [.v 1]<|.prim .get [.v 9,.v 3]<|.prim (.bin .neq) [.v 8,.v 10]<|.ite (.v 11) (.jmp 2 false [.c (.bool false)]) (.prim (.bin .add) [.v 3,.c (.int .i64 1)]<|.jmp 0 true [.v 12])) (.jmp 1 false []))) 0<|.sub1 [] (.loop [.int .i64] [.c (.int .i64 0)] (.prim (.fld 0) [.v 0]<|.prim .len [.v 4]<|.prim (.bin .lss) [.v 3,.v 5]<|.ite (.v 6) (.prim (.fld 0) [.v 0]<|.prim .get [.v 7,.v 3]<|.prim .len [.v 8]<|.prim (.fld 0) [.v 1]<|.prim .get [.v 10,.v 3]<|.prim .len [.v 11]<|.prim (.bin .neq) [.v 9,.v 12]<|.ite (.v 13) (.jmp 2 false [.c (.bool false)]) (.sub1 [] (.loop [.int .i64] [.c (.int .i64 0)] (.prim (.fld 0) [.v 0]<|.prim .get [.v 15,.v 3]<|.prim .len [.v 16]<|.prim (.bin .lss) [.v 14,.v 17]<|.ite (.v 18) (.prim (.fld 0) [.v 0]<|.prim .get [.v 19,.v 3]<|.prim .get [.v 20,.v 14]<|.prim (.fld 0) [.v 1]<|.prim .get [.v 22,.v 3]<|.prim .get [.v 23,.v 14]<|.prim (.bin .neq) [.v 21,.v 24]<|.ite (.v 25) (.jmp 4 false [.c (.bool false)]) (.prim (.bin .add) [.v 14,.c (.int .i64 1)]<|.jmp 0 true [.v 26])) (.jmp 1 false []))) 0<|.prim (.bin .add) [.v 3,.c (.int .i64 1)]<|.jmp 0 true [.v 14])) (.jmp 1 false []))) 0<|.jmp 0 false [.c (.bool true)])
theorem zrl:zaH cx 12 33=some zln.erase:=by kernel_rfl
theorem zrL:FnOk cx 12 noC 33 zhQ:=zci (t:=zln) zrl (fun _=>rfl) (zb7 [] (by kernel_rfl) .nil) (fun x=>by kernel_rfl)
def zeQ (x0:Log) (x1:Log) (s:Int):Option (Int⊕Unit⊕Bool) :=
 if decide (s<(List.length (Log.Lst x0):Int)) then
 (getO (Log.Lst x0) s).bind fun v8=>(getO (Log.Lst x1) s).bind fun v10=>if !(@decide (v8=v10) (Ty.dec zcK _ _)) then
 some (Sum.inr (Sum.inr (false)))
 else
 some (Sum.inl (w64 (s + (1:Int))))
 else
 some (Sum.inr (Sum.inl ()))
def zeF (x0:Log) (x1:Log) (s:Int):Option (Int⊕Unit⊕Bool) :=
 if decide (s<(List.length (Log.Mem x0):Int)) then
 (getO (Log.Mem x0) s).bind fun v8=>(getO (Log.Mem x1) s).bind fun v10=>if !decide (v8=v10) then
 some (Sum.inr (Sum.inr (false)))
 else
 some (Sum.inl (w64 (s + (1:Int))))
 else
 some (Sum.inr (Sum.inl ()))
def zjg (p0:Log) (p1:Log):Option Bool :=
 if (!decide ((List.length (Log.Mem p0):Int)=(List.length (Log.Mem p1):Int)))||((!decide ((Log.Span p0)=(Log.Span p1)))||(!decide ((List.length (Log.Lst p0):Int)=(List.length (Log.Lst p1):Int)))) then
 some (false)
 else
 zbc (zaz (zeF p0 p1) (0:Int):Option (Unit⊕Bool)) fun v3=>zbc (zaz (zeQ p0 p1) (0:Int):Option (Unit⊕Bool)) fun v3=>some (true)
def zhL:FnT:=⟨[tLog,tLog],[.bool],fun x=>zjg x.1 x.2⟩
def zlT:TA :=
 .subp [.bool] (.prim (.fld 0) [.v 0]<|.prim .len [.v 2]<|.prim (.fld 0) [.v 1]<|.prim .len [.v 4]<|.prim (.bin .neq) [.v 3,.v 5]<|.ite (.v 6) (.jmp 0 false [.c (.bool true)]) (.prim (.fld 1) [.v 0]<|.prim (.fld 1) [.v 1]<|.prim (.bin .neq) [.v 7,.v 8]<|.ite (.v 9) (.jmp 0 false [.c (.bool true)]) (.prim (.fld 2) [.v 0]<|.prim .len [.v 10]<|.prim (.fld 2) [.v 1]<|.prim .len [.v 12]<|.prim (.bin .neq) [.v 11,.v 13]<|.jmp 0 false [.v 14]))) 1<|.ite (.v 2) (.jmp 0 false [.c (.bool false)]) (.sub1 [] (.loop [.int .i64] [.c (.int .i64 0)] (.prim (.fld 0) [.v 0]<|.prim .len [.v 4]<|.prim (.bin .lss) [.v 3,.v 5]<|.ite (.v 6) (.prim (.fld 0) [.v 0]<|.prim .get [.v 7,.v 3]<|.prim (.fld 0) [.v 1]<|.prim .get [.v 9,.v 3]<|.prim (.bin .neq) [.v 8,.v 10]<|.ite (.v 11) (.jmp 2 false [.c (.bool false)]) (.prim (.bin .add) [.v 3,.c (.int .i64 1)]<|.jmp 0 true [.v 12])) (.jmp 1 false []))) 0<|.sub1 [] (.loop [.int .i64] [.c (.int .i64 0)] (.prim (.fld 2) [.v 0]<|.prim .len [.v 4]<|.prim (.bin .lss) [.v 3,.v 5]<|.ite (.v 6) (.prim (.fld 2) [.v 0]<|.prim .get [.v 7,.v 3]<|.prim (.fld 2) [.v 1]<|.prim .get [.v 9,.v 3]<|.prim .eqv [.v 8,.v 10]<|.prim (.un .not) [.v 11]<|.ite (.v 12) (.jmp 2 false [.c (.bool false)]) (.prim (.bin .add) [.v 3,.c (.int .i64 1)]<|.jmp 0 true [.v 13])) (.jmp 1 false []))) 0<|.jmp 0 false [.c (.bool true)])
theorem zrB:zaH cx 12 61=some zlT.erase:=by kernel_rfl
theorem zrP:FnOk cx 12 noC 61 zhL:=zci (t:=zlT) zrB (fun _=>rfl) (zb7 [] (by kernel_rfl) .nil) (fun x=>by kernel_rfl)
def zei (p0:Int) (p1:Int):Option Int :=
 (quoO .i64 (w64 ((w64 (p0 + p1)) - (1:Int))) p1).bind fun v4=>some (v4)
def zcL:FnT:=⟨[.int .i64,.int .i64],[.int .i64],fun x=>zei x.1 x.2⟩
def ziT:TA :=
 .prim (.bin .add) [.v 0,.v 1]<|.prim (.bin .sub) [.v 2,.c (.int .i64 1)]<|.prim (.bin .quo) [.v 3,.v 1]<|.jmp 0 false [.v 4]
theorem zoN:zaH cx 12 69=some ziT.erase:=by kernel_rfl
theorem ziy:FnOk cx 12 noC 69 zcL:=zci (t:=ziT) zoN (fun _=>rfl) (zb7 [] (by kernel_rfl) .nil) (fun x=>by kernel_rfl)
def zeq (x0:Int) (x1:Int) (s:(Int×(List (List Int)))):Option ((Int×(List (List Int)))⊕(List (List Int))) :=
 if decide (s.1<x0) then
 (repO (0:Int) 4 x1 x1).bind fun v7=>(appO 24 s.2 ([v7]:List (List Int))).bind fun v9=>some (Sum.inl (w64 (s.1 + (1:Int)),v9))
 else
 some (Sum.inr (s.2))
def zbd (p0:Vault) (p1:Int):Option (Int×Int) :=
 let v4:Int:=(List.length (Banks.Rows (Vault.Banks p0)):Int)
 (remO p1 v4).bind fun v5=>(quoO .i64 p1 v4).bind fun v6=>some ((v5,v6))
def zaQ:FnT:=⟨[zas,.int .i64],[.int .i64,.int .i64],fun x=>zbd x.1 x.2⟩
def zg2:TA :=
 .prim (.fld 0) [.v 0]<|.prim (.fld 0) [.v 2]<|.prim .len [.v 3]<|.prim (.bin .rem) [.v 1,.v 4]<|.prim (.bin .quo) [.v 1,.v 4]<|.jmp 0 false [.v 5,.v 6]
theorem zl8:zaH cx 12 71=some zg2.erase:=by kernel_rfl
theorem zc4:FnOk cx 12 noC 71 zaQ:=zci (t:=zg2) zl8 (fun _=>rfl) (zb7 [] (by kernel_rfl) .nil) (fun x=>by kernel_rfl)
def zjP (x0:Vault) (x1:List Undo) (x2:Int) (s:(Int×Int×(List (store_key×Bool)))):Option ((Int×Int×(List (store_key×Bool)))⊕Unit⊕Bool) :=
 if decide (s.2.1<x2) then
 (getO x1 s.2.1).bind fun v7=>let v10:store_key:=store_key.mk (Undo.Span v7) (Undo.At v7)
 if (decide ((Undo.Span v7)<s.1))||((decide ((Vault.Span x0)<(Undo.Span v7)))||((decide ((Undo.At v7)<(0:Int)))||((decide ((Vault.Words x0)≤(Undo.At v7)))||(zmO (Ty.dec zbm) false s.2.2 v10)))) then
 some (Sum.inr (Sum.inr (false)))
 else
 some (Sum.inl (Undo.Span v7,w64 (s.2.1 + (1:Int)),ziY (Ty.dec zbm) v10 true s.2.2))
 else
 some (Sum.inr (Sum.inl ()))
def zfs (p0:Vault):Option Bool :=
 let v2:Int:=(List.length (Vault.Lst p0):Int)
 zbc (zaz (zjP p0 (Vault.Lst p0) v2) ((0:Int),(0:Int),([]:List (store_key×Bool))):Option (Unit⊕Bool)) fun v3=>some (true)
def zd4:FnT:=⟨[zas],[.bool],fun x=>zfs x⟩
def zf7:TA :=
 .prim (.fld 3) [.v 0]<|.prim .len [.v 1]<|.sub1 [] (.loop [.int .i64,.int .i64,.sl (.st [zbm,.bool])] [.c (.int .i64 0),.c (.int .i64 0),.c (.sl [])] (.prim (.bin .lss) [.v 4,.v 2]<|.ite (.v 6) (.prim .get [.v 1,.v 4]<|.prim (.fld 0) [.v 7]<|.prim (.fld 1) [.v 7]<|.mkS zj1 [.v 8,.v 9]<|.subp [.bool] (.prim (.fld 0) [.v 7]<|.prim (.bin .lss) [.v 11,.v 3]<|.ite (.v 12) (.jmp 0 false [.c (.bool true)]) (.prim (.fld 0) [.v 7]<|.prim (.fld 2) [.v 0]<|.prim (.bin .gtr) [.v 13,.v 14]<|.ite (.v 15) (.jmp 0 false [.c (.bool true)]) (.prim (.fld 1) [.v 7]<|.prim (.bin .lss) [.v 16,.c (.int .i64 0)]<|.ite (.v 17) (.jmp 0 false [.c (.bool true)]) (.prim (.fld 1) [.v 7]<|.prim (.fld 1) [.v 0]<|.prim (.bin .geq) [.v 18,.v 19]<|.ite (.v 20) (.jmp 0 false [.c (.bool true)]) (.prim (.mget (.bool false)) [.v 5,.v 10]<|.jmp 0 false [.v 21]))))) 1<|.ite (.v 11) (.jmp 2 false [.c (.bool false)]) (.prim (.fld 0) [.v 7]<|.prim .mput [.v 5,.v 10,.c (.bool true)]<|.prim (.bin .add) [.v 4,.c (.int .i64 1)]<|.jmp 0 true [.v 12,.v 14,.v 13])) (.jmp 1 false []))) 0<|.jmp 0 false [.c (.bool true)]
theorem zkI:zaH cx 12 77=some zf7.erase:=by kernel_rfl
theorem zk3:FnOk cx 12 noC 77 zd4:=zci (t:=zf7) zkI (fun _=>rfl) (zb7 [] (by kernel_rfl) .nil) (fun x=>by kernel_rfl)
def zbU (x2:Int) (x4:List (List Int)) (x5:Int) (s:Int):Option (Int⊕Unit⊕Int) :=
 if decide (s<x5) then
 (getO x4 s).bind fun v8=>if !decide ((List.length v8:Int)=x2) then
 some (Sum.inr (Sum.inr (s)))
 else
 some (Sum.inl (w64 (s + (1:Int))))
 else
 some (Sum.inr (Sum.inl ()))
def zc2 (p0:Banks):Option Bool :=
 let v2:Int:=(List.length (Banks.Par p0):Int)
 if (decide ((List.length (Banks.Rows p0):Int)<(1:Int)))||((decide ((8:Int)<(List.length (Banks.Rows p0):Int)))||((decide (v2<(1:Int)))||((decide ((64:Int)<v2))||((decide ((Banks.Lost p0)<(0:Int)))||(decide ((List.length (Banks.Rows p0):Int)<(Banks.Lost p0))))))) then
 some (false)
 else
 ((let v5:Int:=(List.length (Banks.Rows p0):Int)
 zbc (zaz (zbU v2 (Banks.Rows p0) v5) (0:Int):Option (Unit⊕Int)) fun v6=>some ((-1:Int)):Option Int).bind fun v5=>some ((decide ((0:Int)≤v5))):Option Bool).bind fun v5=>some ((!v5))
def zdx:FnT:=⟨[zan],[.bool],fun x=>zc2 x⟩
def zfg:TA :=
 .prim (.fld 1) [.v 0]<|.prim .len [.v 1]<|.subp [.bool] (.prim (.fld 0) [.v 0]<|.prim .len [.v 3]<|.prim (.bin .lss) [.v 4,.c (.int .i64 1)]<|.ite (.v 5) (.jmp 0 false [.c (.bool true)]) (.prim (.fld 0) [.v 0]<|.prim .len [.v 6]<|.prim (.bin .gtr) [.v 7,.c (.int .i64 8)]<|.ite (.v 8) (.jmp 0 false [.c (.bool true)]) (.prim (.bin .lss) [.v 2,.c (.int .i64 1)]<|.ite (.v 9) (.jmp 0 false [.c (.bool true)]) (.prim (.bin .gtr) [.v 2,.c (.int .i64 64)]<|.ite (.v 10) (.jmp 0 false [.c (.bool true)]) (.prim (.fld 2) [.v 0]<|.prim (.bin .lss) [.v 11,.c (.int .i64 0)]<|.ite (.v 12) (.jmp 0 false [.c (.bool true)]) (.prim (.fld 2) [.v 0]<|.prim (.fld 0) [.v 0]<|.prim .len [.v 14]<|.prim (.bin .gtr) [.v 13,.v 15]<|.jmp 0 false [.v 16])))))) 1<|.ite (.v 3) (.jmp 0 false [.c (.bool false)]) (.prim (.fld 0) [.v 0]<|.sub0 [.bool] (.sub0 [.int .i64] (.prim .len [.v 4]<|.sub1 [] (.loop [.int .i64] [.c (.int .i64 0)] (.prim (.bin .lss) [.v 6,.v 5]<|.ite (.v 7) (.prim .get [.v 4,.v 6]<|.subp [.bool] (.prim .len [.v 8]<|.prim (.bin .neq) [.v 9,.v 2]<|.jmp 0 false [.v 10]) 1<|.ite (.v 9) (.jmp 2 false [.v 6]) (.prim (.bin .add) [.v 6,.c (.int .i64 1)]<|.jmp 0 true [.v 10])) (.jmp 1 false []))) 0<|.jmp 0 false [.c (.int .i64 (-1))]) 1<|.prim (.bin .geq) [.v 5,.c (.int .i64 0)]<|.jmp 0 false [.v 6]) 1<|.prim (.un .not) [.v 5]<|.jmp 0 false [.v 6])
theorem zkx:zaH cx 12 115=some zfg.erase:=by kernel_rfl
theorem zjy:FnOk cx 12 noC 115 zdx:=zci (t:=zfg) zkx (fun _=>rfl) (zb7 [] (by kernel_rfl) .nil) (fun x=>by kernel_rfl)
def zd5 (p0:Int):Bool :=
 !decide (p0=(0:Int))
def zcW:PnT:=⟨[.int .u32],[.bool],fun x=>zd5 x⟩
def zeU:TA :=
 .prim (.bin .neq) [.v 0,.c (.int .u32 0)]<|.jmp 0 false [.v 1]
theorem zi1:zaH cx 12 117=some zeU.erase:=by kernel_rfl
theorem zi2:FnOk cx 12 noC 117 zcW.fn:=zv6 (t:=zeU) zi1 (fun _=>rfl) (zb7 [] (by kernel_rfl) .nil) (fun x=>by kernel_rfl)
def zax (x0:List Int) (x1:List Int) (x5:Int) (s:Int):Option (Int⊕Unit⊕Bool) :=
 if decide (s<x5) then
 (getO x0 s).bind fun v8=>(getO x1 s).bind fun v9=>if !decide (v8=v9) then
 some (Sum.inr (Sum.inr (false)))
 else
 some (Sum.inl (w64 (s + (1:Int))))
 else
 some (Sum.inr (Sum.inl ()))
def zaE (p0:List Int) (p1:List Int):Option Bool :=
 if !decide ((List.length p0:Int)=(List.length p1:Int)) then
 some (false)
 else
 let v5:Int:=(List.length p0:Int)
 zbc (zaz (zax p0 p1 v5) (0:Int):Option (Unit⊕Bool)) fun v6=>some (true)
def zaP:FnT:=⟨[.sl (.int .u32),.sl (.int .u32)],[.bool],fun x=>zaE x.1 x.2⟩
def zbp:TA :=
 .prim .len [.v 0]<|.prim .len [.v 1]<|.prim (.bin .neq) [.v 2,.v 3]<|.ite (.v 4) (.jmp 0 false [.c (.bool false)]) (.prim .len [.v 0]<|.sub1 [] (.loop [.int .i64] [.c (.int .i64 0)] (.prim (.bin .lss) [.v 6,.v 5]<|.ite (.v 7) (.prim .get [.v 0,.v 6]<|.prim .get [.v 1,.v 6]<|.prim (.bin .neq) [.v 8,.v 9]<|.ite (.v 10) (.jmp 2 false [.c (.bool false)]) (.prim (.bin .add) [.v 6,.c (.int .i64 1)]<|.jmp 0 true [.v 11])) (.jmp 1 false []))) 0<|.jmp 0 false [.c (.bool true)])
theorem zc8:zaH cx 12 118=some zbp.erase:=by kernel_rfl
theorem zc6:FnOk cx 12 noC 118 zaP:=zci (t:=zbp) zc8 (fun _=>rfl) (zb7 [] (by kernel_rfl) .nil) (fun x=>by kernel_rfl)
def zht (p0:Vault) (p1:Vault):Option Bool :=
 ((zhr (Vault.Banks p0) (Vault.Banks p1)).bind fun v4=>if v4 then
 if decide ((Vault.Words p0)=(Vault.Words p1)) then
 (zjg (Log.mk ([]:List Int) (Vault.Span p0) (Vault.Lst p0)) (Log.mk ([]:List Int) (Vault.Span p1) (Vault.Lst p1))).bind fun v14=>some (v14)
 else
 some (false)
 else
 some (false):Option Bool).bind fun v2=>some (v2)
def zh7:FnT:=⟨[zas,zas],[.bool],fun x=>zht x.1 x.2⟩
def zlD:TA :=
 .sub0 [.bool] (.prim (.fld 0) [.v 0]<|.prim (.fld 0) [.v 1]<|.call 33 zhQ [.v 2,.v 3] 1<|.ite (.v 4) (.prim (.fld 1) [.v 0]<|.prim (.fld 1) [.v 1]<|.prim (.bin .eql) [.v 5,.v 6]<|.ite (.v 7) (.prim (.fld 2) [.v 0]<|.prim (.fld 3) [.v 0]<|.mkS zvf [.c .nil,.v 8,.v 9]<|.prim (.fld 2) [.v 1]<|.prim (.fld 3) [.v 1]<|.mkS zvf [.c .nil,.v 11,.v 12]<|.call 61 zhL [.v 10,.v 13] 1<|.jmp 0 false [.v 14]) (.jmp 0 false [.c (.bool false)])) (.jmp 0 false [.c (.bool false)])) 1<|.jmp 0 false [.v 2]
theorem zrE:zaH cx 12 14=some zlD.erase:=by kernel_rfl
theorem zrt:FnOk cx 12 noC 14 zh7:=zci (t:=zlD) zrE (fun _=>rfl) (zb7 [(33,zhQ),(61,zhL)] (by kernel_rfl) (.cons zrL (.cons zrP .nil))) (fun x=>by kernel_rfl)
def ziU (x1:Int) (x3:Int) (s:(Int×(List (List Int)))):Option ((Int×(List (List Int)))⊕(List (List Int))) :=
 if decide (s.1<x1) then
 (repO (0:Int) 4 x3 x3).bind fun v9=>(appO 24 s.2 ([v9]:List (List Int))).bind fun v11=>some (Sum.inl (w64 (s.1 + (1:Int)),v11))
 else
 some (Sum.inr (s.2))
def zg9 (p0:Int) (p1:Int):Option (Vault×Int) :=
 if (decide (p0<(1:Int)))||((decide ((64:Int)<p0))||((decide (p1<(1:Int)))||(decide ((8:Int)<p1)))) then
 some (((Vault.mk (Banks.mk ([]:List (List Int)) ([]:List Int) (0:Int)) (0:Int) (0:Int) ([]:List Undo)),(1:Int)))
 else
 (zei p0 p1).bind fun v3=>(if (decide (p1<(1:Int)))||((decide ((8:Int)<p1))||((decide (v3<(1:Int)))||(decide ((64:Int)<v3)))) then
 some ((([]:List (List Int)),([]:List Int)))
 else
 (repO (0:Int) 4 v3 v3).bind fun v5=>(zaz (ziU p1 v3) ((0:Int),([]:List (List Int))):Option (List (List Int))).bind fun v6=>some ((v6,v5)):Option ((List (List Int))×(List Int))).bind fun v4=>some ((Vault.mk (Banks.mk v4.1 v4.2 (0:Int)) p0 (0:Int) ([]:List Undo),(0:Int)))
def zgt:FnT:=⟨[.int .i64,.int .i64],[zas,.int .i64],fun x=>zg9 x.1 x.2⟩
def zjn:TA :=
 .subp [.bool] (.prim (.bin .lss) [.v 0,.c (.int .i64 1)]<|.ite (.v 2) (.jmp 0 false [.c (.bool true)]) (.prim (.bin .gtr) [.v 0,.c (.int .i64 64)]<|.ite (.v 3) (.jmp 0 false [.c (.bool true)]) (.prim (.bin .lss) [.v 1,.c (.int .i64 1)]<|.ite (.v 4) (.jmp 0 false [.c (.bool true)]) (.prim (.bin .gtr) [.v 1,.c (.int .i64 8)]<|.jmp 0 false [.v 5])))) 1<|.ite (.v 2) (.jmp 0 false [.c (.agg [(.agg [.nil,.nil,(.int .i64 0)]),(.int .i64 0),(.int .i64 0),.nil]),.c (.int .i64 1)]) (.call 69 zcL [.v 0,.v 1] 1<|.sub0 [.no,.sl (.sl (.int .u32)),.sl (.int .u32)] (.subp [.bool] (.prim (.bin .lss) [.v 1,.c (.int .i64 1)]<|.ite (.v 4) (.jmp 0 false [.c (.bool true)]) (.prim (.bin .gtr) [.v 1,.c (.int .i64 8)]<|.ite (.v 5) (.jmp 0 false [.c (.bool true)]) (.prim (.bin .lss) [.v 3,.c (.int .i64 1)]<|.ite (.v 6) (.jmp 0 false [.c (.bool true)]) (.prim (.bin .gtr) [.v 3,.c (.int .i64 64)]<|.jmp 0 false [.v 7])))) 1<|.ite (.v 4) (.jmp 0 false [.c (.int .i64 1),.c .nil,.c .nil]) (.primH (.rep (.int .u32 0) 4) (.sl (.int .u32)) [.v 3,.v 3]<|.sub0 [.sl (.sl (.int .u32))] (.loop [.int .i64,.sl (.sl (.int .u32))] [.c (.int .i64 0),.c .nil] (.prim (.bin .lss) [.v 6,.v 1]<|.ite (.v 8) (.primH (.rep (.int .u32 0) 4) (.sl (.int .u32)) [.v 3,.v 3]<|.mkL (.sl (.int .u32)) [.v 9]<|.prim (.app 24) [.v 7,.v 10]<|.prim (.bin .add) [.v 6,.c (.int .i64 1)]<|.jmp 0 true [.v 12,.v 11]) (.jmp 1 false [.v 7]))) 1<|.jmp 0 false [.c (.int .i64 0),.v 6,.v 5])) 3<|.mkS zaF [.v 5,.v 6,.c (.int .i64 0)]<|.mkS zbf [.v 7,.v 0,.c (.int .i64 0),.c .nil]<|.jmp 0 false [.v 8,.c (.int .i64 0)])
theorem zo9:zaH cx 12 19=some zjn.erase:=by kernel_rfl
theorem zpX:FnOk cx 12 noC 19 zgt:=zci (t:=zjn) zo9 (fun _=>rfl) (zb7 [(69,zcL)] (by kernel_rfl) (.cons ziy .nil)) (fun x=>by kernel_rfl)
def zcd (x8:List Int) (x9:Int) (s:Int):Option (Int⊕Unit⊕Int) :=
 if decide (s<x9) then
 (getO x8 s).bind fun v12=>if zd5 v12 then
 some (Sum.inr (Sum.inr (s)))
 else
 some (Sum.inl (w64 (s + (1:Int))))
 else
 some (Sum.inr (Sum.inl ()))
def zbu (x13:List Int) (x14:Int) (s:(Int×(List Int))):Option ((Int×(List Int))⊕(List Int)) :=
 if decide (s.1<x14) then
 (getO x13 s.1).bind fun v18=>(idxO (List.length s.2:Int) s.1).bind fun v19=>(getO s.2 v19).bind fun v20=>(idxO (List.length s.2:Int) s.1).bind fun v22=>(setO s.2 v22 (bXor .u32 v20 v18)).bind fun v23=>some (Sum.inl (w64 (s.1 + (1:Int)),v23))
 else
 some (Sum.inr (s.2))
def za6 (x5:List (List Int)) (x9:Int) (s:(Int×(List Int))):Option ((Int×(List Int))⊕(List Int)) :=
 if decide (s.1<x9) then
 (getO x5 s.1).bind fun v13=>let v14:Int:=(List.length v13:Int)
 (zaz (zbu v13 v14) ((0:Int),s.2):Option (List Int)).bind fun v15=>some (Sum.inl (w64 (s.1 + (1:Int)),v15))
 else
 some (Sum.inr (s.2))
def zbZ (p0:Banks):Option Bool :=
 (zc2 p0).bind fun v1=>if !v1 then
 some (false)
 else
 if decide ((0:Int)<(Banks.Lost p0)) then
 (getO (Banks.Rows p0) (w64 ((Banks.Lost p0) - (1:Int)))).bind fun v8=>((let v9:Int:=(List.length v8:Int)
 zbc (zaz (zcd v8 v9) (0:Int):Option (Unit⊕Int)) fun v10=>some ((-1:Int)):Option Int).bind fun v9=>some ((decide ((0:Int)≤v9))):Option Bool).bind fun v9=>some ((!v9))
 else
 let v7:Int:=(List.length (Banks.Par p0):Int)
 ((repO (0:Int) 4 v7 v7).bind fun v8=>let v9:Int:=(List.length (Banks.Rows p0):Int)
 (zaz (za6 (Banks.Rows p0) v9) ((0:Int),v8):Option (List Int)).bind fun v10=>some (v10):Option (List Int)).bind fun v8=>(zaE v8 (Banks.Par p0)).bind fun v10=>some (v10)
def zaY:FnT:=⟨[zan],[.bool],fun x=>zbZ x⟩
def zf1:TA :=
 .call 115 zdx [.v 0] 1<|.prim (.un .not) [.v 1]<|.ite (.v 2) (.jmp 0 false [.c (.bool false)]) (.prim (.fld 2) [.v 0]<|.prim (.bin .gtr) [.v 3,.c (.int .i64 0)]<|.ite (.v 4) (.prim (.fld 0) [.v 0]<|.prim (.fld 2) [.v 0]<|.prim (.bin .sub) [.v 6,.c (.int .i64 1)]<|.prim .get [.v 5,.v 7]<|.sub0 [.bool] (.sub0 [.int .i64] (.prim .len [.v 8]<|.sub1 [] (.loop [.int .i64] [.c (.int .i64 0)] (.prim (.bin .lss) [.v 10,.v 9]<|.ite (.v 11) (.prim .get [.v 8,.v 10]<|.callp 117 zcW [.v 12] 1<|.ite (.v 13) (.jmp 2 false [.v 10]) (.prim (.bin .add) [.v 10,.c (.int .i64 1)]<|.jmp 0 true [.v 14])) (.jmp 1 false []))) 0<|.jmp 0 false [.c (.int .i64 (-1))]) 1<|.prim (.bin .geq) [.v 9,.c (.int .i64 0)]<|.jmp 0 false [.v 10]) 1<|.prim (.un .not) [.v 9]<|.jmp 0 false [.v 10]) (.prim (.fld 0) [.v 0]<|.prim (.fld 1) [.v 0]<|.prim .len [.v 6]<|.sub0 [.sl (.int .u32)] (.primH (.rep (.int .u32 0) 4) (.sl (.int .u32)) [.v 7,.v 7]<|.prim .len [.v 5]<|.sub0 [.sl (.int .u32)] (.loop [.int .i64,.sl (.int .u32)] [.c (.int .i64 0),.v 8] (.prim (.bin .lss) [.v 10,.v 9]<|.ite (.v 12) (.prim .get [.v 5,.v 10]<|.prim .len [.v 13]<|.sub0 [.sl (.int .u32)] (.loop [.int .i64,.sl (.int .u32)] [.c (.int .i64 0),.v 11] (.prim (.bin .lss) [.v 15,.v 14]<|.ite (.v 17) (.prim .get [.v 13,.v 15]<|.prim .idx [.v 16,.v 15]<|.prim .get [.v 16,.v 19]<|.prim (.bin .xor) [.v 20,.v 18]<|.prim .idx [.v 16,.v 15]<|.prim .set [.v 16,.v 22,.v 21]<|.prim (.bin .add) [.v 15,.c (.int .i64 1)]<|.jmp 0 true [.v 24,.v 23]) (.jmp 1 false [.v 16]))) 1<|.prim (.bin .add) [.v 10,.c (.int .i64 1)]<|.jmp 0 true [.v 16,.v 15]) (.jmp 1 false [.v 11]))) 1<|.jmp 0 false [.v 10]) 1<|.prim (.fld 1) [.v 0]<|.call 118 zaP [.v 8,.v 9] 1<|.jmp 0 false [.v 10]))
theorem zkM:zaH cx 12 76=some zf1.erase:=by kernel_rfl
theorem zdW:FnOk cx 12 noC 76 zaY:=zci (t:=zf1) zkM (fun _=>rfl) (zb7 [(115,zdx),(117,zcW.fn),(118,zaP)] (by kernel_rfl) (.cons zjy (.cons zi2 (.cons zc6 .nil)))) (fun x=>by kernel_rfl)
def zaT (p0:Vault):Option Bool :=
 ((zbZ (Vault.Banks p0)).bind fun v2=>if !v2 then
 some (true)
 else
 if decide ((Vault.Words p0)<(1:Int)) then
 some (true)
 else
 if decide ((64:Int)<(Vault.Words p0)) then
 some (true)
 else
 (zei (Vault.Words p0) (List.length (Banks.Rows (Vault.Banks p0)):Int)).bind fun v15=>some ((!decide ((List.length (Banks.Par (Vault.Banks p0)):Int)=v15))):Option Bool).bind fun v1=>if v1 then
 some (false)
 else
 (if decide ((0:Int)≤(Vault.Span p0)) then
 if decide ((Vault.Span p0)≤(1099511627776:Int)) then
 if decide ((List.length (Vault.Lst p0):Int)≤(256:Int)) then
 (zfs p0).bind fun v9=>some (v9)
 else
 some (false)
 else
 some (false)
 else
 some (false):Option Bool).bind fun v2=>some (v2)
def zal:FnT:=⟨[zas],[.bool],fun x=>zaT x⟩
def zhj:TA :=
 .sub0 [.bool] (.prim (.fld 0) [.v 0]<|.call 76 zaY [.v 1] 1<|.prim (.un .not) [.v 2]<|.ite (.v 3) (.jmp 0 false [.c (.bool true)]) (.prim (.fld 1) [.v 0]<|.prim (.bin .lss) [.v 4,.c (.int .i64 1)]<|.ite (.v 5) (.jmp 0 false [.c (.bool true)]) (.prim (.fld 1) [.v 0]<|.prim (.bin .gtr) [.v 6,.c (.int .i64 64)]<|.ite (.v 7) (.jmp 0 false [.c (.bool true)]) (.prim (.fld 0) [.v 0]<|.prim (.fld 1) [.v 8]<|.prim .len [.v 9]<|.prim (.fld 1) [.v 0]<|.prim (.fld 0) [.v 0]<|.prim (.fld 0) [.v 12]<|.prim .len [.v 13]<|.call 69 zcL [.v 11,.v 14] 1<|.prim (.bin .neq) [.v 10,.v 15]<|.jmp 0 false [.v 16])))) 1<|.ite (.v 1) (.jmp 0 false [.c (.bool false)]) (.sub0 [.bool] (.prim (.fld 2) [.v 0]<|.prim (.bin .geq) [.v 2,.c (.int .i64 0)]<|.ite (.v 3) (.prim (.fld 2) [.v 0]<|.prim (.bin .leq) [.v 4,.c (.int .i64 1099511627776)]<|.ite (.v 5) (.prim (.fld 3) [.v 0]<|.prim .len [.v 6]<|.prim (.bin .leq) [.v 7,.c (.int .i64 256)]<|.ite (.v 8) (.call 77 zd4 [.v 0] 1<|.jmp 0 false [.v 9]) (.jmp 0 false [.c (.bool false)])) (.jmp 0 false [.c (.bool false)])) (.jmp 0 false [.c (.bool false)])) 1<|.jmp 0 false [.v 2])
theorem zl5:zaH cx 12 24=some zhj.erase:=by kernel_rfl
theorem zbe:FnOk cx 12 noC 24 zal:=zci (t:=zhj) zl5 (fun _=>rfl) (zb7 [(76,zaY),(69,zcL),(77,zd4)] (by kernel_rfl) (.cons zdW (.cons ziy (.cons zk3 .nil)))) (fun x=>by kernel_rfl)
def zhI (x18:List Int) (x19:Int) (s:(Int×(List Int))):Option ((Int×(List Int))⊕(List Int)) :=
 if decide (s.1<x19) then
 (getO x18 s.1).bind fun v23=>(idxO (List.length s.2:Int) s.1).bind fun v24=>(getO s.2 v24).bind fun v25=>(idxO (List.length s.2:Int) s.1).bind fun v27=>(setO s.2 v27 (bXor .u32 v25 v23)).bind fun v28=>some (Sum.inl (w64 (s.1 + (1:Int)),v28))
 else
 some (Sum.inr (s.2))
def zeg (x11:List (List Int)) (x14:Int) (s:(Int×(List Int))):Option ((Int×(List Int))⊕(List Int)) :=
 if decide (s.1<x14) then
 (getO x11 s.1).bind fun v18=>let v19:Int:=(List.length v18:Int)
 (zaz (zhI v18 v19) ((0:Int),s.2):Option (List Int)).bind fun v20=>some (Sum.inl (w64 (s.1 + (1:Int)),v20))
 else
 some (Sum.inr (s.2))
def zbB (x4:List (List Int)) (x5:Int) (s:(Int×(List (List Int)))):Option ((Int×(List (List Int)))⊕(List (List Int))) :=
 if decide (s.1<x5) then
 (getO x4 s.1).bind fun v9=>(zaO 4 v9).bind fun v10=>(appO 24 s.2 ([v10]:List (List Int))).bind fun v12=>some (Sum.inl (w64 (s.1 + (1:Int)),v12))
 else
 some (Sum.inr (s.2))
def zbO (p0:Banks):Option (Banks×Int) :=
 ((zaO 4 (Banks.Par p0)).bind fun v2=>let v5:Int:=(List.length (Banks.Rows p0):Int)
 (zaz (zbB (Banks.Rows p0) v5) ((0:Int),([]:List (List Int))):Option (List (List Int))).bind fun v6=>some ((Banks.Lost p0,v6,v2)):Option (Int×(List (List Int))×(List Int))).bind fun v1=>(zbZ p0).bind fun v4=>if !v4 then
 some ((Banks.mk v1.2.1 v1.2.2 v1.1,(1:Int)))
 else
 if decide ((Banks.Lost p0)=(0:Int)) then
 some ((Banks.mk v1.2.1 v1.2.2 v1.1,(8:Int)))
 else
 (getO v1.2.1 (0:Int)).bind fun v10=>(appO 24 v1.2.1 ([v1.2.2]:List (List Int))).bind fun v11=>let v12:Int:=(List.length v1.2.2:Int)
 ((repO (0:Int) 4 v12 v12).bind fun v13=>let v14:Int:=(List.length v11:Int)
 (zaz (zeg v11 v14) ((0:Int),v13):Option (List Int)).bind fun v15=>some (v15):Option (List Int)).bind fun v13=>(idxO (List.length v1.2.1:Int) (w64 (v1.1 - (1:Int)))).bind fun v14=>(setO v1.2.1 v14 v13).bind fun v15=>some ((Banks.mk v15 v1.2.2 (0:Int),(0:Int)))
def zcU:FnT:=⟨[zan],[zan,.int .i64],fun x=>zbO x⟩
def zeV:TA :=
 .sub0 [.int .i64,.sl (.sl (.int .u32)),.sl (.int .u32)] (.prim (.fld 1) [.v 0]<|.prim (.clone 4) [.v 1]<|.prim (.fld 2) [.v 0]<|.prim (.fld 0) [.v 0]<|.prim .len [.v 4]<|.sub0 [.sl (.sl (.int .u32))] (.loop [.int .i64,.sl (.sl (.int .u32))] [.c (.int .i64 0),.c .nil] (.prim (.bin .lss) [.v 6,.v 5]<|.ite (.v 8) (.prim .get [.v 4,.v 6]<|.prim (.clone 4) [.v 9]<|.mkL (.sl (.int .u32)) [.v 10]<|.prim (.app 24) [.v 7,.v 11]<|.prim (.bin .add) [.v 6,.c (.int .i64 1)]<|.jmp 0 true [.v 13,.v 12]) (.jmp 1 false [.v 7]))) 1<|.jmp 0 false [.v 3,.v 6,.v 2]) 3<|.call 76 zaY [.v 0] 1<|.prim (.un .not) [.v 4]<|.ite (.v 5) (.mkS zaF [.v 2,.v 3,.v 1]<|.jmp 0 false [.v 6,.c (.int .i64 1)]) (.prim (.fld 2) [.v 0]<|.prim (.bin .eql) [.v 6,.c (.int .i64 0)]<|.ite (.v 7) (.mkS zaF [.v 2,.v 3,.v 1]<|.jmp 0 false [.v 8,.c (.int .i64 8)]) (.prim (.bin .sub) [.v 1,.c (.int .i64 1)]<|.mkL (.sl (.int .u32)) [.v 3]<|.prim .get [.v 2,.c (.int .i64 0)]<|.prim (.app 24) [.v 2,.v 9]<|.prim .len [.v 3]<|.sub0 [.sl (.int .u32)] (.primH (.rep (.int .u32 0) 4) (.sl (.int .u32)) [.v 12,.v 12]<|.prim .len [.v 11]<|.sub0 [.sl (.int .u32)] (.loop [.int .i64,.sl (.int .u32)] [.c (.int .i64 0),.v 13] (.prim (.bin .lss) [.v 15,.v 14]<|.ite (.v 17) (.prim .get [.v 11,.v 15]<|.prim .len [.v 18]<|.sub0 [.sl (.int .u32)] (.loop [.int .i64,.sl (.int .u32)] [.c (.int .i64 0),.v 16] (.prim (.bin .lss) [.v 20,.v 19]<|.ite (.v 22) (.prim .get [.v 18,.v 20]<|.prim .idx [.v 21,.v 20]<|.prim .get [.v 21,.v 24]<|.prim (.bin .xor) [.v 25,.v 23]<|.prim .idx [.v 21,.v 20]<|.prim .set [.v 21,.v 27,.v 26]<|.prim (.bin .add) [.v 20,.c (.int .i64 1)]<|.jmp 0 true [.v 29,.v 28]) (.jmp 1 false [.v 21]))) 1<|.prim (.bin .add) [.v 15,.c (.int .i64 1)]<|.jmp 0 true [.v 21,.v 20]) (.jmp 1 false [.v 16]))) 1<|.jmp 0 false [.v 15]) 1<|.prim .idx [.v 2,.v 8]<|.prim .set [.v 2,.v 14,.v 13]<|.mkS zaF [.v 15,.v 3,.c (.int .i64 0)]<|.jmp 0 false [.v 16,.c (.int .i64 0)]))
theorem zi4:zaH cx 12 79=some zeV.erase:=by kernel_rfl
theorem ziW:FnOk cx 12 noC 79 zcU:=zci (t:=zeV) zi4 (fun _=>rfl) (zb7 [(76,zaY)] (by kernel_rfl) (.cons zdW .nil)) (fun x=>by kernel_rfl)
def zdh (p0:Banks) (p1:Int):Option Bool :=
 ((zbZ p0).bind fun v2=>if v2 then
 if decide ((0:Int)≤p1) then
 some ((decide (p1<(List.length (Banks.Rows p0):Int))))
 else
 some (false)
 else
 some (false):Option Bool).bind fun v2=>some (v2)
def zbr:FnT:=⟨[zan,.int .i64],[.bool],fun x=>zdh x.1 x.2⟩
def ziM:TA :=
 .sub0 [.bool] (.call 76 zaY [.v 0] 1<|.ite (.v 2) (.prim (.bin .geq) [.v 1,.c (.int .i64 0)]<|.ite (.v 3) (.prim (.fld 0) [.v 0]<|.prim .len [.v 4]<|.prim (.bin .lss) [.v 1,.v 5]<|.jmp 0 false [.v 6]) (.jmp 0 false [.c (.bool false)])) (.jmp 0 false [.c (.bool false)])) 1<|.jmp 0 false [.v 2]
theorem zol:zaH cx 12 114=some ziM.erase:=by kernel_rfl
theorem zfr:FnOk cx 12 noC 114 zbr:=zci (t:=ziM) zol (fun _=>rfl) (zb7 [(76,zaY)] (by kernel_rfl) (.cons zdW .nil)) (fun x=>by kernel_rfl)
end Go.Proofs.Ytlgjbfdojbmmgaa
