/- The types of this cut, and its functions as functions of plain typed data. Printed by a program of this claim's prover; each is checked here to be what the executor makes of the code. -/
import Derived.Test.YtlgjbfdojbmmgaaProg
import Derived.Test.YtlgjbfdojbmmgaaLim
import Derived.KernelRfl
set_option linter.unusedVariables false
set_option maxRecDepth 100000
noncomputable section
namespace Go.Proofs.Ytlgjbfdojbmmgaa
open Go.SX
abbrev zgm:List Ty:=[.int .i64,.int .i64]
abbrev zaO:Ty:=.st zgm
abbrev store_key:Type:=Int×Int
def store_key.mk (span:Int) (at_:Int):store_key:=(span,at_)
def store_key.span (x:store_key):Int:=x.1
def store_key.at_ (x:store_key):Int:=x.2
@[simp] theorem store_key.span_mk (span:Int) (at_:Int):store_key.span (store_key.mk span at_)=span:=rfl
@[simp] theorem store_key.at__mk (span:Int) (at_:Int):store_key.at_ (store_key.mk span at_)=at_:=rfl
@[simp] theorem store_key.eta (x:store_key):store_key.mk (store_key.span x) (store_key.at_ x)=x:=rfl
abbrev zeY:List Ty:=[.int .i64,.int .i64,.bool,.int .u8]
abbrev zcL:Ty:=.st zeY
abbrev zva:List Ty:=[.int .i64,.bool,.bool,.bool,.bool,.bool,.int .i64,.int .i64,.int .u32]
abbrev ztN:Ty:=.st zva
abbrev zsN:List Ty:=[.int .i64,.int .i64,.int .u32]
abbrev zcG:Ty:=.st zsN
abbrev Undo:Type:=Int×Int×Int
def Undo.mk (Span:Int) (At:Int) (Val:Int):Undo:=(Span,At,Val)
def Undo.Span (x:Undo):Int:=x.1
def Undo.At (x:Undo):Int:=x.2.1
def Undo.Val (x:Undo):Int:=x.2.2
@[simp] theorem Undo.Span_mk (Span:Int) (At:Int) (Val:Int):Undo.Span (Undo.mk Span At Val)=Span:=rfl
@[simp] theorem Undo.At_mk (Span:Int) (At:Int) (Val:Int):Undo.At (Undo.mk Span At Val)=At:=rfl
@[simp] theorem Undo.Val_mk (Span:Int) (At:Int) (Val:Int):Undo.Val (Undo.mk Span At Val)=Val:=rfl
@[simp] theorem Undo.eta (x:Undo):Undo.mk (Undo.Span x) (Undo.At x) (Undo.Val x)=x:=rfl
abbrev zcT:List Ty:=[.str,.int .u64]
abbrev zbk:Ty:=.st zcT
abbrev zvC:List Ty:=[.int .i64,.int .i64,.int .i64,.int .i64,.int .i64,.int .i64,.bool,.int .u32,.int .u32]
abbrev tMsg:Ty:=.st zvC
abbrev zsK:List Ty:=[.int .u8,.int .u8,.int .u8,.int .u8,.bool,.int .u32]
abbrev zlP:Ty:=.st zsK
abbrev ztm:List Ty:=[.int .u8,.int .u8,.int .u8,.int .u32]
abbrev zgn:Ty:=.st ztm
abbrev l14_Do:Type:=Int×Int×Int×Int
def l14_Do.mk (Kind:Int) (At:Int) (To:Int) (Val:Int):l14_Do:=(Kind,At,To,Val)
def l14_Do.Kind (x:l14_Do):Int:=x.1
def l14_Do.At (x:l14_Do):Int:=x.2.1
def l14_Do.To (x:l14_Do):Int:=x.2.2.1
def l14_Do.Val (x:l14_Do):Int:=x.2.2.2
@[simp] theorem l14_Do.Kind_mk (Kind:Int) (At:Int) (To:Int) (Val:Int):l14_Do.Kind (l14_Do.mk Kind At To Val)=Kind:=rfl
@[simp] theorem l14_Do.At_mk (Kind:Int) (At:Int) (To:Int) (Val:Int):l14_Do.At (l14_Do.mk Kind At To Val)=At:=rfl
@[simp] theorem l14_Do.To_mk (Kind:Int) (At:Int) (To:Int) (Val:Int):l14_Do.To (l14_Do.mk Kind At To Val)=To:=rfl
@[simp] theorem l14_Do.Val_mk (Kind:Int) (At:Int) (To:Int) (Val:Int):l14_Do.Val (l14_Do.mk Kind At To Val)=Val:=rfl
@[simp] theorem l14_Do.eta (x:l14_Do):l14_Do.mk (l14_Do.Kind x) (l14_Do.At x) (l14_Do.To x) (l14_Do.Val x)=x:=rfl
abbrev zuY:List Ty:=[.int .i64,.sl .bool]
abbrev zp9:Ty:=.st zuY
abbrev za7:List Ty:=[.sl (.sl (.int .u32)),.sl (.int .u32),.int .i64]
abbrev zeZ:Ty:=.st za7
abbrev Banks:Type:=(List (List Int))×(List Int)×Int
def Banks.mk (Rows:List (List Int)) (Par:List Int) (Lost:Int):Banks:=(Rows,Par,Lost)
def Banks.Rows (x:Banks):List (List Int):=x.1
def Banks.Par (x:Banks):List Int:=x.2.1
def Banks.Lost (x:Banks):Int:=x.2.2
@[simp] theorem Banks.Rows_mk (Rows:List (List Int)) (Par:List Int) (Lost:Int):Banks.Rows (Banks.mk Rows Par Lost)=Rows:=rfl
@[simp] theorem Banks.Par_mk (Rows:List (List Int)) (Par:List Int) (Lost:Int):Banks.Par (Banks.mk Rows Par Lost)=Par:=rfl
@[simp] theorem Banks.Lost_mk (Rows:List (List Int)) (Par:List Int) (Lost:Int):Banks.Lost (Banks.mk Rows Par Lost)=Lost:=rfl
@[simp] theorem Banks.eta (x:Banks):Banks.mk (Banks.Rows x) (Banks.Par x) (Banks.Lost x)=x:=rfl
abbrev zu8:List Ty:=[.sl (.sl (.int .u8))]
abbrev zuD:Ty:=.st zu8
abbrev zjN:List Ty:=[.sl (.int .u32),.int .i64,.sl zcG]
abbrev tLog:Ty:=.st zjN
abbrev Log:Type:=(List Int)×Int×(List Ytlgjbfdojbmmgaa.Undo)
def Log.mk (Mem:List Int) (Span:Int) (Lst:List Ytlgjbfdojbmmgaa.Undo):Log:=(Mem,Span,Lst)
def Log.Mem (x:Log):List Int:=x.1
def Log.Span (x:Log):Int:=x.2.1
def Log.Lst (x:Log):List Ytlgjbfdojbmmgaa.Undo:=x.2.2
@[simp] theorem Log.Mem_mk (Mem:List Int) (Span:Int) (Lst:List Ytlgjbfdojbmmgaa.Undo):Log.Mem (Log.mk Mem Span Lst)=Mem:=rfl
@[simp] theorem Log.Span_mk (Mem:List Int) (Span:Int) (Lst:List Ytlgjbfdojbmmgaa.Undo):Log.Span (Log.mk Mem Span Lst)=Span:=rfl
@[simp] theorem Log.Lst_mk (Mem:List Int) (Span:Int) (Lst:List Ytlgjbfdojbmmgaa.Undo):Log.Lst (Log.mk Mem Span Lst)=Lst:=rfl
@[simp] theorem Log.eta (x:Log):Log.mk (Log.Mem x) (Log.Span x) (Log.Lst x)=x:=rfl
abbrev zbI:List Ty:=[zeZ,.int .i64,.int .i64,.sl zcG]
abbrev zaF:Ty:=.st zbI
abbrev Vault:Type:=Ytlgjbfdojbmmgaa.Banks×Int×Int×(List Ytlgjbfdojbmmgaa.Undo)
def Vault.mk (Banks:Ytlgjbfdojbmmgaa.Banks) (Words:Int) (Span:Int) (Lst:List Ytlgjbfdojbmmgaa.Undo):Vault:=(Banks,Words,Span,Lst)
def Vault.Banks (x:Vault):Ytlgjbfdojbmmgaa.Banks:=x.1
def Vault.Words (x:Vault):Int:=x.2.1
def Vault.Span (x:Vault):Int:=x.2.2.1
def Vault.Lst (x:Vault):List Ytlgjbfdojbmmgaa.Undo:=x.2.2.2
@[simp] theorem Vault.Banks_mk (Banks:Ytlgjbfdojbmmgaa.Banks) (Words:Int) (Span:Int) (Lst:List Ytlgjbfdojbmmgaa.Undo):Vault.Banks (Vault.mk Banks Words Span Lst)=Banks:=rfl
@[simp] theorem Vault.Words_mk (Banks:Ytlgjbfdojbmmgaa.Banks) (Words:Int) (Span:Int) (Lst:List Ytlgjbfdojbmmgaa.Undo):Vault.Words (Vault.mk Banks Words Span Lst)=Words:=rfl
@[simp] theorem Vault.Span_mk (Banks:Ytlgjbfdojbmmgaa.Banks) (Words:Int) (Span:Int) (Lst:List Ytlgjbfdojbmmgaa.Undo):Vault.Span (Vault.mk Banks Words Span Lst)=Span:=rfl
@[simp] theorem Vault.Lst_mk (Banks:Ytlgjbfdojbmmgaa.Banks) (Words:Int) (Span:Int) (Lst:List Ytlgjbfdojbmmgaa.Undo):Vault.Lst (Vault.mk Banks Words Span Lst)=Lst:=rfl
@[simp] theorem Vault.eta (x:Vault):Vault.mk (Vault.Banks x) (Vault.Words x) (Vault.Span x) (Vault.Lst x)=x:=rfl
abbrev zuM:List Ty:=[.sl (.sl (.int .i64)),.sl (.sl (.int .u32)),.sl ztN,.sl (.int .u32),.sl zp9,.sl (.int .i64),zuD]
abbrev zrL:Ty:=.st zuM
abbrev zkt:List Ty:=[zrL]
abbrev zgV:Ty:=.st zkt
def tys:List Ty:=[.no,.no,.int .i64,.int .i64,.bool,.int .u8,.int .u8,zcL,zcL,.str,.str,.str,.int .u64,zbk,zbk,.no,.no,.no,.no,.no,.no,.int .i32,.sl (.sl (.int .u32)),.sl (.int .u32),zeZ,zeZ,.sl zcG,zaF,zaF,.int .u32,.no,.no,.int .i64,.no,.no,.no,.no,.no,.no,.no,.no,.no,.no,.no,.no,.no,.no,.no,.no,.no,.no,.no,.no,.no,.sl zgn,zgn,zgn,.no,tLog,tLog,.no,.no,.no,.no,.no,zcG,zcG,.sl zlP,.sl (.sl (.int .i64)),.sl ztN,.sl zp9,.sl (.int .i64),.sl (.sl (.int .u8)),zuD,zuD,zrL,zrL,.no,.no,.no,zlP,zlP,.no,.no,.no,.no,.no,.no,.no,.no,.sl .bool,zp9,zp9,.no,.no,.no,.no,.no,.no,.no,.no,.no,.no,.no,.no,.no,.no,.no,.no,.no,.no,.no,.no,.no,.no,.no,.no,.no,.no,.no,.no,.no,.no,.no,.no,.no,.no,.no,.no,.no,.no,.no,.no,ztN,ztN,.no,.no,zgV,zgV,.no,.no,.no,.no,tMsg,tMsg,.no,.no,.no,.no,.no,.no,.no,.no,.no,.no,.no,.no,.no,.no,.no,.no,.no,.no,.no,.no,zaO,zaO,.no,.no,.arr 2 (.int .i64),.no,.no,.no,.no,.no,.no,.no,.no,.no,.no,.no,.no,.sl (.int .u8),.no,.no,.no,.no,.no,.no,.no,.no,.no,.no,.no,.no,.no,.no,.no,.no,.no,.no,.no,.no,.no,.no,.no,.no,.no,.no,.no,.no,.no,.no,.no,.no,.no,.no,.arr 4 (.int .u8),.int .u64,.no,.no,.no,.no,.no,.no,.no,.no,.no,.no,.no,.no,.no,.no,.int .u8,.int .u8,.no,.no,.int .i32,.int .i32,.no,.no,.no]
def cx:Cx:={ P:=Try.prog,ty:=tys,own:=[],inl:=[53,63,68,84,92,107,108,113,120,126,127,128,129,130,131,153,156,157,166,174,175,178,180,183],keepL:=[],absL:=[53,68,84,92,119,120,126,127,131,156,162,166,173],lendL:=[79],freshL:=[119],owL:=[],bk:=[(113,26,66)],heads:=[(5,[(16,2905741800979855680013847846498343564944659715524,⟨19,0,zox 182 0 [(2,.d (.sl zgn) (.v 2)),(6,.d .bool (.c (.bool false))),(7,.d (.int .i64) (.v 7)),(8,.p zaF zaF 0 []),(10,.p tLog tLog 1 []),(12,.d (.int .i64) (.v 16))],[.box zaF (.d zaF (.v 17)),.box tLog (.d tLog (.v 18))]⟩),
 (30,2905741800979855680013847846498343564944660026820,⟨31,0,zox 182 0 [(2,.d (.sl zgn) (.v 2)),(6,.d .bool (.c (.bool false))),(7,.d (.int .i64) (.v 7)),(8,.p zaF zaF 0 []),(10,.p tLog tLog 1 []),(12,.d (.int .i64) (.v 16)),(14,.p zaF zaF 2 []),(15,.p tLog tLog 3 []),(18,.d (.int .i64) (.v 30))],[.box zaF (.d zaF (.v 17)),.box tLog (.d tLog (.v 18)),.box zaF (.d zaF (.v 27)),.box tLog (.d tLog (.v 28))]⟩)])] }
theorem tyOk:TysOk cx:=zsX (by kernel_rfl) (List.forall_mem_cons.2 ⟨⟨_,_,_,_,_,_,_,_,_,_,_,_,_,_,⟨rfl,rfl,rfl,rfl,rfl,rfl,rfl,rfl,rfl⟩⟩,fun _ h=>nomatch h⟩)
theorem mixed:Try.prog.follows .mixedOrders=true:=by kernel_rfl
def noC:FuncId→List D→Option (List D):=fun _ _=>none
theorem zvd:CallsOk cx noC:=fun _ _ _ _ _ _ _ h=>by cases h
theorem ztE {f:FuncId}{ds rs:List D}(k d:Nat) (h:zdK cx k 12 noC d f ds=some rs):zq0 cx 12 noC f ds=some rs:=(zd2 cx 12 noC).2 ⟨k,d,h⟩
def zds (x0:List Int) (x1:List Int) (s:Int):Option (Int⊕Unit⊕Bool) :=
 if decide (s<(List.length x0:Int)) then
 (getO x0 s).bind fun v8=>(getO x1 s).bind fun v9=>if !decide (v8=v9) then
 some (Sum.inr (Sum.inr (false)))
 else
 some (Sum.inl (w64 (s + (1:Int))))
 else
 some (Sum.inr (Sum.inl ()))
def zdf (p0:List Int) (p1:List Int):Option Bool :=
 if !decide ((List.length p0:Int)=(List.length p1:Int)) then
 some (false)
 else
 zbT (zay (zds p0 p1) (0:Int):Option (Unit⊕Bool)) fun v5=>some (true)
def zf7:FnT:=⟨[.sl (.int .u32),.sl (.int .u32)],[.bool],fun x=>zdf x.1 x.2⟩
def zjx:TA :=
 .prim .len [.v 0]<|.prim .len [.v 1]<|.prim (.bin .neq) [.v 2,.v 3]<|.ite (.v 4) (.jmp 0 false [.c (.bool false)]) (.sub1 [] (.loop [.int .i64] [.c (.int .i64 0)] (.prim .len [.v 0]<|.prim (.bin .lss) [.v 5,.v 6]<|.ite (.v 7) (.prim .get [.v 0,.v 5]<|.prim .get [.v 1,.v 5]<|.prim (.bin .neq) [.v 8,.v 9]<|.ite (.v 10) (.jmp 2 false [.c (.bool false)]) (.prim (.bin .add) [.v 5,.c (.int .i64 1)]<|.jmp 0 true [.v 11])) (.jmp 1 false []))) 0<|.jmp 0 false [.c (.bool true)])
theorem zoB:zaC cx 12 25=some zjx.erase:=by kernel_rfl
theorem zpp:FnOk cx 12 noC 25 zf7:=zcg (t:=zjx) zoB (fun _=>rfl) (zbW [] (by kernel_rfl) .nil) (fun x=>by kernel_rfl)
def ziQ (p0:Int):Option (Log×Int) :=
 if (decide (p0<(1:Int)))||(decide ((64:Int)<p0)) then
 some (((Log.mk ([]:List Int) (0:Int) ([]:List Undo)),(1:Int)))
 else
 (repO (0:Int) 4 p0 p0).bind fun v2=>some ((Log.mk v2 (0:Int) ([]:List Undo),(0:Int)))
def zhF:FnT:=⟨[.int .i64],[tLog,.int .i64],fun x=>ziQ x⟩
def zly:TA :=
 .subp [.bool] (.prim (.bin .lss) [.v 0,.c (.int .i64 1)]<|.ite (.v 1) (.jmp 0 false [.c (.bool true)]) (.prim (.bin .gtr) [.v 0,.c (.int .i64 64)]<|.jmp 0 false [.v 2])) 1<|.ite (.v 1) (.jmp 0 false [.c (.agg [.nil,(.int .i64 0),.nil]),.c (.int .i64 1)]) (.primH (.rep (.int .u32 0) 4) (.sl (.int .u32)) [.v 0,.v 0]<|.mkS zjN [.v 2,.c (.int .i64 0),.c .nil]<|.jmp 0 false [.v 3,.c (.int .i64 0)])
theorem zrp:zaC cx 12 34=some zly.erase:=by kernel_rfl
theorem zqX:FnOk cx 12 noC 34 zhF:=zcg (t:=zly) zrp (fun _=>rfl) (zbW [] (by kernel_rfl) .nil) (fun x=>by kernel_rfl)
def zdY (p0:Int) (p1:Int):Option Int :=
 (quoO .i64 (w64 ((w64 (p0 + p1)) - (1:Int))) p1).bind fun v4=>some (v4)
def zcC:FnT:=⟨[.int .i64,.int .i64],[.int .i64],fun x=>zdY x.1 x.2⟩
def zhZ:TA :=
 .prim (.bin .add) [.v 0,.v 1]<|.prim (.bin .sub) [.v 2,.c (.int .i64 1)]<|.prim (.bin .quo) [.v 3,.v 1]<|.jmp 0 false [.v 4]
theorem znv:zaC cx 12 69=some zhZ.erase:=by kernel_rfl
theorem zhY:FnOk cx 12 noC 69 zcC:=zcg (t:=zhZ) znv (fun _=>rfl) (zbW [] (by kernel_rfl) .nil) (fun x=>by kernel_rfl)
def za8 (p0:Vault) (p1:Int):Option (Int×Int) :=
 let v4:Int:=(List.length (Banks.Rows (Vault.Banks p0)):Int)
 (remO p1 v4).bind fun v5=>(quoO .i64 p1 v4).bind fun v6=>some ((v5,v6))
def zaK:FnT:=⟨[zaF,.int .i64],[.int .i64,.int .i64],fun x=>za8 x.1 x.2⟩
def zg4:TA :=
 .prim (.fld 0) [.v 0]<|.prim (.fld 0) [.v 2]<|.prim .len [.v 3]<|.prim (.bin .rem) [.v 1,.v 4]<|.prim (.bin .quo) [.v 1,.v 4]<|.jmp 0 false [.v 5,.v 6]
theorem zl7:zaC cx 12 71=some zg4.erase:=by kernel_rfl
theorem zcM:FnOk cx 12 noC 71 zaK:=zcg (t:=zg4) zl7 (fun _=>rfl) (zbW [] (by kernel_rfl) .nil) (fun x=>by kernel_rfl)
def zjM (x0:Vault) (x1:List Undo) (x2:Int) (s:(Int×Int×(List (store_key×Bool)))):Option ((Int×Int×(List (store_key×Bool)))⊕Unit⊕Bool) :=
 if decide (s.2.1<x2) then
 (getO x1 s.2.1).bind fun v7=>let v10:store_key:=store_key.mk (Undo.Span v7) (Undo.At v7)
 if (decide ((Undo.Span v7)<s.1))||((decide ((Vault.Span x0)<(Undo.Span v7)))||((decide ((Undo.At v7)<(0:Int)))||((decide ((Vault.Words x0)≤(Undo.At v7)))||(zkN (Ty.dec zaO) false s.2.2 v10)))) then
 some (Sum.inr (Sum.inr (false)))
 else
 some (Sum.inl (Undo.Span v7,w64 (s.2.1 + (1:Int)),zhq (Ty.dec zaO) v10 true s.2.2))
 else
 some (Sum.inr (Sum.inl ()))
def zfg (p0:Vault):Option Bool :=
 let v2:Int:=(List.length (Vault.Lst p0):Int)
 zbT (zay (zjM p0 (Vault.Lst p0) v2) ((0:Int),(0:Int),([]:List (store_key×Bool))):Option (Unit⊕Bool)) fun v3=>some (true)
def zdE:FnT:=⟨[zaF],[.bool],fun x=>zfg x⟩
def zfL:TA :=
 .prim (.fld 3) [.v 0]<|.prim .len [.v 1]<|.sub1 [] (.loop [.int .i64,.int .i64,.sl (.st [zaO,.bool])] [.c (.int .i64 0),.c (.int .i64 0),.c (.sl [])] (.prim (.bin .lss) [.v 4,.v 2]<|.ite (.v 6) (.prim .get [.v 1,.v 4]<|.prim (.fld 0) [.v 7]<|.prim (.fld 1) [.v 7]<|.mkS zgm [.v 8,.v 9]<|.subp [.bool] (.prim (.fld 0) [.v 7]<|.prim (.bin .lss) [.v 11,.v 3]<|.ite (.v 12) (.jmp 0 false [.c (.bool true)]) (.prim (.fld 0) [.v 7]<|.prim (.fld 2) [.v 0]<|.prim (.bin .gtr) [.v 13,.v 14]<|.ite (.v 15) (.jmp 0 false [.c (.bool true)]) (.prim (.fld 1) [.v 7]<|.prim (.bin .lss) [.v 16,.c (.int .i64 0)]<|.ite (.v 17) (.jmp 0 false [.c (.bool true)]) (.prim (.fld 1) [.v 7]<|.prim (.fld 1) [.v 0]<|.prim (.bin .geq) [.v 18,.v 19]<|.ite (.v 20) (.jmp 0 false [.c (.bool true)]) (.prim (.mget (.bool false)) [.v 5,.v 10]<|.jmp 0 false [.v 21]))))) 1<|.ite (.v 11) (.jmp 2 false [.c (.bool false)]) (.prim (.fld 0) [.v 7]<|.prim .mput [.v 5,.v 10,.c (.bool true)]<|.prim (.bin .add) [.v 4,.c (.int .i64 1)]<|.jmp 0 true [.v 12,.v 14,.v 13])) (.jmp 1 false []))) 0<|.jmp 0 false [.c (.bool true)]
theorem zkI:zaC cx 12 77=some zfL.erase:=by kernel_rfl
theorem zky:FnOk cx 12 noC 77 zdE:=zcg (t:=zfL) zkI (fun _=>rfl) (zbW [] (by kernel_rfl) .nil) (fun x=>by kernel_rfl)
def zaJ (p0:Int) (p1:Int):Bool :=
 (decide ((0:Int)≤p0))&&(decide (p0≤p1))
def zbN:PnT:=⟨[.int .i64,.int .i64],[.bool],fun x=>zaJ x.1 x.2⟩
def zjn:TA :=
 .subp [.bool] (.prim (.bin .geq) [.v 0,.c (.int .i64 0)]<|.ite (.v 2) (.prim (.bin .leq) [.v 0,.v 1]<|.jmp 0 false [.v 3]) (.jmp 0 false [.c (.bool false)])) 1<|.jmp 0 false [.v 2]
theorem zpg:zaC cx 12 86=some zjn.erase:=by kernel_rfl
theorem zgi:FnOk cx 12 noC 86 zbN.fn:=zvq (t:=zjn) zpg (fun _=>rfl) (zbW [] (by kernel_rfl) .nil) (fun x=>by kernel_rfl)
def zbH (x2:Int) (x4:List (List Int)) (x5:Int) (s:Int):Option (Int⊕Unit⊕Int) :=
 if decide (s<x5) then
 (getO x4 s).bind fun v8=>if !decide ((List.length v8:Int)=x2) then
 some (Sum.inr (Sum.inr (s)))
 else
 some (Sum.inl (w64 (s + (1:Int))))
 else
 some (Sum.inr (Sum.inl ()))
def zcY (p0:Banks):Option Bool :=
 let v2:Int:=(List.length (Banks.Par p0):Int)
 if (decide ((List.length (Banks.Rows p0):Int)<(1:Int)))||((decide ((8:Int)<(List.length (Banks.Rows p0):Int)))||((decide (v2<(1:Int)))||((decide ((64:Int)<v2))||((decide ((Banks.Lost p0)<(0:Int)))||(decide ((List.length (Banks.Rows p0):Int)<(Banks.Lost p0))))))) then
 some (false)
 else
 ((let v5:Int:=(List.length (Banks.Rows p0):Int)
 zbT (zay (zbH v2 (Banks.Rows p0) v5) (0:Int):Option (Unit⊕Int)) fun v6=>some ((-1:Int)):Option Int).bind fun v5=>some ((decide ((0:Int)≤v5))):Option Bool).bind fun v5=>some ((!v5))
def zc9:FnT:=⟨[zeZ],[.bool],fun x=>zcY x⟩
def zff:TA :=
 .prim (.fld 1) [.v 0]<|.prim .len [.v 1]<|.subp [.bool] (.prim (.fld 0) [.v 0]<|.prim .len [.v 3]<|.prim (.bin .lss) [.v 4,.c (.int .i64 1)]<|.ite (.v 5) (.jmp 0 false [.c (.bool true)]) (.prim (.fld 0) [.v 0]<|.prim .len [.v 6]<|.prim (.bin .gtr) [.v 7,.c (.int .i64 8)]<|.ite (.v 8) (.jmp 0 false [.c (.bool true)]) (.prim (.bin .lss) [.v 2,.c (.int .i64 1)]<|.ite (.v 9) (.jmp 0 false [.c (.bool true)]) (.prim (.bin .gtr) [.v 2,.c (.int .i64 64)]<|.ite (.v 10) (.jmp 0 false [.c (.bool true)]) (.prim (.fld 2) [.v 0]<|.prim (.bin .lss) [.v 11,.c (.int .i64 0)]<|.ite (.v 12) (.jmp 0 false [.c (.bool true)]) (.prim (.fld 2) [.v 0]<|.prim (.fld 0) [.v 0]<|.prim .len [.v 14]<|.prim (.bin .gtr) [.v 13,.v 15]<|.jmp 0 false [.v 16])))))) 1<|.ite (.v 3) (.jmp 0 false [.c (.bool false)]) (.prim (.fld 0) [.v 0]<|.sub0 [.bool] (.sub0 [.int .i64] (.prim .len [.v 4]<|.sub1 [] (.loop [.int .i64] [.c (.int .i64 0)] (.prim (.bin .lss) [.v 6,.v 5]<|.ite (.v 7) (.prim .get [.v 4,.v 6]<|.subp [.bool] (.prim .len [.v 8]<|.prim (.bin .neq) [.v 9,.v 2]<|.jmp 0 false [.v 10]) 1<|.ite (.v 9) (.jmp 2 false [.v 6]) (.prim (.bin .add) [.v 6,.c (.int .i64 1)]<|.jmp 0 true [.v 10])) (.jmp 1 false []))) 0<|.jmp 0 false [.c (.int .i64 (-1))]) 1<|.prim (.bin .geq) [.v 5,.c (.int .i64 0)]<|.jmp 0 false [.v 6]) 1<|.prim (.un .not) [.v 5]<|.jmp 0 false [.v 6])
theorem zjr:zaC cx 12 115=some zff.erase:=by kernel_rfl
theorem zjt:FnOk cx 12 noC 115 zc9:=zcg (t:=zff) zjr (fun _=>rfl) (zbW [] (by kernel_rfl) .nil) (fun x=>by kernel_rfl)
def zdF (p0:Int):Bool :=
 !decide (p0=(0:Int))
def zcI:PnT:=⟨[.int .u32],[.bool],fun x=>zdF x⟩
def zeB:TA :=
 .prim (.bin .neq) [.v 0,.c (.int .u32 0)]<|.jmp 0 false [.v 1]
theorem ziv:zaC cx 12 117=some zeB.erase:=by kernel_rfl
theorem ziw:FnOk cx 12 noC 117 zcI.fn:=zvq (t:=zeB) ziv (fun _=>rfl) (zbW [] (by kernel_rfl) .nil) (fun x=>by kernel_rfl)
def zat (x0:List Int) (x1:List Int) (x5:Int) (s:Int):Option (Int⊕Unit⊕Bool) :=
 if decide (s<x5) then
 (getO x0 s).bind fun v8=>(getO x1 s).bind fun v9=>if !decide (v8=v9) then
 some (Sum.inr (Sum.inr (false)))
 else
 some (Sum.inl (w64 (s + (1:Int))))
 else
 some (Sum.inr (Sum.inl ()))
def zaz (p0:List Int) (p1:List Int):Option Bool :=
 if !decide ((List.length p0:Int)=(List.length p1:Int)) then
 some (false)
 else
 let v5:Int:=(List.length p0:Int)
 zbT (zay (zat p0 p1 v5) (0:Int):Option (Unit⊕Bool)) fun v6=>some (true)
def zaM:FnT:=⟨[.sl (.int .u32),.sl (.int .u32)],[.bool],fun x=>zaz x.1 x.2⟩
def zbe:TA :=
 .prim .len [.v 0]<|.prim .len [.v 1]<|.prim (.bin .neq) [.v 2,.v 3]<|.ite (.v 4) (.jmp 0 false [.c (.bool false)]) (.prim .len [.v 0]<|.sub1 [] (.loop [.int .i64] [.c (.int .i64 0)] (.prim (.bin .lss) [.v 6,.v 5]<|.ite (.v 7) (.prim .get [.v 0,.v 6]<|.prim .get [.v 1,.v 6]<|.prim (.bin .neq) [.v 8,.v 9]<|.ite (.v 10) (.jmp 2 false [.c (.bool false)]) (.prim (.bin .add) [.v 6,.c (.int .i64 1)]<|.jmp 0 true [.v 11])) (.jmp 1 false []))) 0<|.jmp 0 false [.c (.bool true)])
theorem zcX:zaC cx 12 118=some zbe.erase:=by kernel_rfl
theorem zcU:FnOk cx 12 noC 118 zaM:=zcg (t:=zbe) zcX (fun _=>rfl) (zbW [] (by kernel_rfl) .nil) (fun x=>by kernel_rfl)
def zih (x1:Int) (x3:Int) (s:(Int×(List (List Int)))):Option ((Int×(List (List Int)))⊕(List (List Int))) :=
 if decide (s.1<x1) then
 (repO (0:Int) 4 x3 x3).bind fun v9=>(appO 24 s.2 ([v9]:List (List Int))).bind fun v11=>some (Sum.inl (w64 (s.1 + (1:Int)),v11))
 else
 some (Sum.inr (s.2))
def zg5 (p0:Int) (p1:Int):Option (Vault×Int) :=
 if (decide (p0<(1:Int)))||((decide ((64:Int)<p0))||((decide (p1<(1:Int)))||(decide ((8:Int)<p1)))) then
 some (((Vault.mk (Banks.mk ([]:List (List Int)) ([]:List Int) (0:Int)) (0:Int) (0:Int) ([]:List Undo)),(1:Int)))
 else
 (zdY p0 p1).bind fun v3=>(if (decide (p1<(1:Int)))||((decide ((8:Int)<p1))||((decide (v3<(1:Int)))||(decide ((64:Int)<v3)))) then
 some ((([]:List (List Int)),([]:List Int)))
 else
 (repO (0:Int) 4 v3 v3).bind fun v5=>(zay (zih p1 v3) ((0:Int),([]:List (List Int))):Option (List (List Int))).bind fun v6=>some ((v6,v5)):Option ((List (List Int))×(List Int))).bind fun v4=>some ((Vault.mk (Banks.mk v4.1 v4.2 (0:Int)) p0 (0:Int) ([]:List Undo),(0:Int)))
def zf8:FnT:=⟨[.int .i64,.int .i64],[zaF,.int .i64],fun x=>zg5 x.1 x.2⟩
def zjW:TA :=
 .subp [.bool] (.prim (.bin .lss) [.v 0,.c (.int .i64 1)]<|.ite (.v 2) (.jmp 0 false [.c (.bool true)]) (.prim (.bin .gtr) [.v 0,.c (.int .i64 64)]<|.ite (.v 3) (.jmp 0 false [.c (.bool true)]) (.prim (.bin .lss) [.v 1,.c (.int .i64 1)]<|.ite (.v 4) (.jmp 0 false [.c (.bool true)]) (.prim (.bin .gtr) [.v 1,.c (.int .i64 8)]<|.jmp 0 false [.v 5])))) 1<|.ite (.v 2) (.jmp 0 false [.c (.agg [(.agg [.nil,.nil,(.int .i64 0)]),(.int .i64 0),(.int .i64 0),.nil]),.c (.int .i64 1)]) (.call 69 zcC [.v 0,.v 1] 1<|.sub0 [.no,.sl (.sl (.int .u32)),.sl (.int .u32)] (.subp [.bool] (.prim (.bin .lss) [.v 1,.c (.int .i64 1)]<|.ite (.v 4) (.jmp 0 false [.c (.bool true)]) (.prim (.bin .gtr) [.v 1,.c (.int .i64 8)]<|.ite (.v 5) (.jmp 0 false [.c (.bool true)]) (.prim (.bin .lss) [.v 3,.c (.int .i64 1)]<|.ite (.v 6) (.jmp 0 false [.c (.bool true)]) (.prim (.bin .gtr) [.v 3,.c (.int .i64 64)]<|.jmp 0 false [.v 7])))) 1<|.ite (.v 4) (.jmp 0 false [.c (.int .i64 1),.c .nil,.c .nil]) (.primH (.rep (.int .u32 0) 4) (.sl (.int .u32)) [.v 3,.v 3]<|.sub0 [.sl (.sl (.int .u32))] (.loop [.int .i64,.sl (.sl (.int .u32))] [.c (.int .i64 0),.c .nil] (.prim (.bin .lss) [.v 6,.v 1]<|.ite (.v 8) (.primH (.rep (.int .u32 0) 4) (.sl (.int .u32)) [.v 3,.v 3]<|.mkL (.sl (.int .u32)) [.v 9]<|.prim (.app 24) [.v 7,.v 10]<|.prim (.bin .add) [.v 6,.c (.int .i64 1)]<|.jmp 0 true [.v 12,.v 11]) (.jmp 1 false [.v 7]))) 1<|.jmp 0 false [.c (.int .i64 0),.v 6,.v 5])) 3<|.mkS za7 [.v 5,.v 6,.c (.int .i64 0)]<|.mkS zbI [.v 7,.v 0,.c (.int .i64 0),.c .nil]<|.jmp 0 false [.v 8,.c (.int .i64 0)])
theorem zpn:zaC cx 12 19=some zjW.erase:=by kernel_rfl
theorem zoL:FnOk cx 12 noC 19 zf8:=zcg (t:=zjW) zpn (fun _=>rfl) (zbW [(69,zcC)] (by kernel_rfl) (.cons zhY .nil)) (fun x=>by kernel_rfl)
def zb2 (x8:List Int) (x9:Int) (s:Int):Option (Int⊕Unit⊕Int) :=
 if decide (s<x9) then
 (getO x8 s).bind fun v12=>if zdF v12 then
 some (Sum.inr (Sum.inr (s)))
 else
 some (Sum.inl (w64 (s + (1:Int))))
 else
 some (Sum.inr (Sum.inl ()))
def zbj (x13:List Int) (x14:Int) (s:(Int×(List Int))):Option ((Int×(List Int))⊕(List Int)) :=
 if decide (s.1<x14) then
 (getO x13 s.1).bind fun v18=>(idxO (List.length s.2:Int) s.1).bind fun v19=>(getO s.2 v19).bind fun v20=>(idxO (List.length s.2:Int) s.1).bind fun v22=>(setO s.2 v22 (bXor .u32 v20 v18)).bind fun v23=>some (Sum.inl (w64 (s.1 + (1:Int)),v23))
 else
 some (Sum.inr (s.2))
def zbo (x5:List (List Int)) (x9:Int) (s:(Int×(List Int))):Option ((Int×(List Int))⊕(List Int)) :=
 if decide (s.1<x9) then
 (getO x5 s.1).bind fun v13=>let v14:Int:=(List.length v13:Int)
 (zay (zbj v13 v14) ((0:Int),s.2):Option (List Int)).bind fun v15=>some (Sum.inl (w64 (s.1 + (1:Int)),v15))
 else
 some (Sum.inr (s.2))
def zcz (p0:Banks):Option Bool :=
 (zcY p0).bind fun v1=>if !v1 then
 some (false)
 else
 if decide ((0:Int)<(Banks.Lost p0)) then
 (getO (Banks.Rows p0) (w64 ((Banks.Lost p0) - (1:Int)))).bind fun v8=>((let v9:Int:=(List.length v8:Int)
 zbT (zay (zb2 v8 v9) (0:Int):Option (Unit⊕Int)) fun v10=>some ((-1:Int)):Option Int).bind fun v9=>some ((decide ((0:Int)≤v9))):Option Bool).bind fun v9=>some ((!v9))
 else
 let v7:Int:=(List.length (Banks.Par p0):Int)
 ((repO (0:Int) 4 v7 v7).bind fun v8=>let v9:Int:=(List.length (Banks.Rows p0):Int)
 (zay (zbo (Banks.Rows p0) v9) ((0:Int),v8):Option (List Int)).bind fun v10=>some (v10):Option (List Int)).bind fun v8=>(zaz v8 (Banks.Par p0)).bind fun v10=>some (v10)
def zbz:FnT:=⟨[zeZ],[.bool],fun x=>zcz x⟩
def zfK:TA :=
 .call 115 zc9 [.v 0] 1<|.prim (.un .not) [.v 1]<|.ite (.v 2) (.jmp 0 false [.c (.bool false)]) (.prim (.fld 2) [.v 0]<|.prim (.bin .gtr) [.v 3,.c (.int .i64 0)]<|.ite (.v 4) (.prim (.fld 0) [.v 0]<|.prim (.fld 2) [.v 0]<|.prim (.bin .sub) [.v 6,.c (.int .i64 1)]<|.prim .get [.v 5,.v 7]<|.sub0 [.bool] (.sub0 [.int .i64] (.prim .len [.v 8]<|.sub1 [] (.loop [.int .i64] [.c (.int .i64 0)] (.prim (.bin .lss) [.v 10,.v 9]<|.ite (.v 11) (.prim .get [.v 8,.v 10]<|.callp 117 zcI [.v 12] 1<|.ite (.v 13) (.jmp 2 false [.v 10]) (.prim (.bin .add) [.v 10,.c (.int .i64 1)]<|.jmp 0 true [.v 14])) (.jmp 1 false []))) 0<|.jmp 0 false [.c (.int .i64 (-1))]) 1<|.prim (.bin .geq) [.v 9,.c (.int .i64 0)]<|.jmp 0 false [.v 10]) 1<|.prim (.un .not) [.v 9]<|.jmp 0 false [.v 10]) (.prim (.fld 0) [.v 0]<|.prim (.fld 1) [.v 0]<|.prim .len [.v 6]<|.sub0 [.sl (.int .u32)] (.primH (.rep (.int .u32 0) 4) (.sl (.int .u32)) [.v 7,.v 7]<|.prim .len [.v 5]<|.sub0 [.sl (.int .u32)] (.loop [.int .i64,.sl (.int .u32)] [.c (.int .i64 0),.v 8] (.prim (.bin .lss) [.v 10,.v 9]<|.ite (.v 12) (.prim .get [.v 5,.v 10]<|.prim .len [.v 13]<|.sub0 [.sl (.int .u32)] (.loop [.int .i64,.sl (.int .u32)] [.c (.int .i64 0),.v 11] (.prim (.bin .lss) [.v 15,.v 14]<|.ite (.v 17) (.prim .get [.v 13,.v 15]<|.prim .idx [.v 16,.v 15]<|.prim .get [.v 16,.v 19]<|.prim (.bin .xor) [.v 20,.v 18]<|.prim .idx [.v 16,.v 15]<|.prim .set [.v 16,.v 22,.v 21]<|.prim (.bin .add) [.v 15,.c (.int .i64 1)]<|.jmp 0 true [.v 24,.v 23]) (.jmp 1 false [.v 16]))) 1<|.prim (.bin .add) [.v 10,.c (.int .i64 1)]<|.jmp 0 true [.v 16,.v 15]) (.jmp 1 false [.v 11]))) 1<|.jmp 0 false [.v 10]) 1<|.prim (.fld 1) [.v 0]<|.call 118 zaM [.v 8,.v 9] 1<|.jmp 0 false [.v 10]))
theorem zkw:zaC cx 12 76=some zfK.erase:=by kernel_rfl
theorem zfH:FnOk cx 12 noC 76 zbz:=zcg (t:=zfK) zkw (fun _=>rfl) (zbW [(115,zc9),(117,zcI.fn),(118,zaM)] (by kernel_rfl) (.cons zjt (.cons ziw (.cons zcU .nil)))) (fun x=>by kernel_rfl)
def zma (x0:Log) (x2:List Undo) (x3:Int) (s:(Int×Int×(List (store_key×Bool)))):Option ((Int×Int×(List (store_key×Bool)))⊕Unit⊕Bool) :=
 if decide (s.2.1<x3) then
 (getO x2 s.2.1).bind fun v8=>let v11:store_key:=store_key.mk (Undo.Span v8) (Undo.At v8)
 if (decide ((Undo.Span v8)<s.1))||((decide ((Log.Span x0)<(Undo.Span v8)))||((decide ((Undo.At v8)<(0:Int)))||((decide ((List.length (Log.Mem x0):Int)≤(Undo.At v8)))||(zkN (Ty.dec zaO) false s.2.2 v11)))) then
 some (Sum.inr (Sum.inr (false)))
 else
 some (Sum.inl (Undo.Span v8,w64 (s.2.1 + (1:Int)),zhq (Ty.dec zaO) v11 true s.2.2))
 else
 some (Sum.inr (Sum.inl ()))
def zcj (p0:Log):Option Bool :=
 if (decide ((List.length (Log.Mem p0):Int)<(1:Int)))||((decide ((64:Int)<(List.length (Log.Mem p0):Int)))||((!(zaJ (Log.Span p0) (1099511627776:Int)))||(decide ((256:Int)<(List.length (Log.Lst p0):Int))))) then
 some (false)
 else
 let v3:Int:=(List.length (Log.Lst p0):Int)
 zbT (zay (zma p0 (Log.Lst p0) v3) ((0:Int),(0:Int),([]:List (store_key×Bool))):Option (Unit⊕Bool)) fun v4=>some (true)
def zaS:FnT:=⟨[tLog],[.bool],fun x=>zcj x⟩
def zid:TA :=
 .subp [.bool] (.prim (.fld 0) [.v 0]<|.prim .len [.v 1]<|.prim (.bin .lss) [.v 2,.c (.int .i64 1)]<|.ite (.v 3) (.jmp 0 false [.c (.bool true)]) (.prim (.fld 0) [.v 0]<|.prim .len [.v 4]<|.prim (.bin .gtr) [.v 5,.c (.int .i64 64)]<|.ite (.v 6) (.jmp 0 false [.c (.bool true)]) (.prim (.fld 1) [.v 0]<|.callp 86 zbN [.v 7,.c (.int .i64 1099511627776)] 1<|.prim (.un .not) [.v 8]<|.ite (.v 9) (.jmp 0 false [.c (.bool true)]) (.prim (.fld 2) [.v 0]<|.prim .len [.v 10]<|.prim (.bin .gtr) [.v 11,.c (.int .i64 256)]<|.jmp 0 false [.v 12])))) 1<|.ite (.v 1) (.jmp 0 false [.c (.bool false)]) (.prim (.fld 2) [.v 0]<|.prim .len [.v 2]<|.sub1 [] (.loop [.int .i64,.int .i64,.sl (.st [zaO,.bool])] [.c (.int .i64 0),.c (.int .i64 0),.c (.sl [])] (.prim (.bin .lss) [.v 5,.v 3]<|.ite (.v 7) (.prim .get [.v 2,.v 5]<|.prim (.fld 0) [.v 8]<|.prim (.fld 1) [.v 8]<|.mkS zgm [.v 9,.v 10]<|.subp [.bool] (.prim (.fld 0) [.v 8]<|.prim (.bin .lss) [.v 12,.v 4]<|.ite (.v 13) (.jmp 0 false [.c (.bool true)]) (.prim (.fld 0) [.v 8]<|.prim (.fld 1) [.v 0]<|.prim (.bin .gtr) [.v 14,.v 15]<|.ite (.v 16) (.jmp 0 false [.c (.bool true)]) (.prim (.fld 1) [.v 8]<|.prim (.bin .lss) [.v 17,.c (.int .i64 0)]<|.ite (.v 18) (.jmp 0 false [.c (.bool true)]) (.prim (.fld 1) [.v 8]<|.prim (.fld 0) [.v 0]<|.prim .len [.v 20]<|.prim (.bin .geq) [.v 19,.v 21]<|.ite (.v 22) (.jmp 0 false [.c (.bool true)]) (.prim (.mget (.bool false)) [.v 6,.v 11]<|.jmp 0 false [.v 23]))))) 1<|.ite (.v 12) (.jmp 2 false [.c (.bool false)]) (.prim (.fld 0) [.v 8]<|.prim .mput [.v 6,.v 11,.c (.bool true)]<|.prim (.bin .add) [.v 5,.c (.int .i64 1)]<|.jmp 0 true [.v 13,.v 15,.v 14])) (.jmp 1 false []))) 0<|.jmp 0 false [.c (.bool true)])
theorem zmJ:zaC cx 12 83=some zid.erase:=by kernel_rfl
theorem zdq:FnOk cx 12 noC 83 zaS:=zcg (t:=zid) zmJ (fun _=>rfl) (zbW [(86,zbN.fn)] (by kernel_rfl) (.cons zgi .nil)) (fun x=>by kernel_rfl)
def zbJ (p0:Vault):Option Bool :=
 ((zcz (Vault.Banks p0)).bind fun v2=>if !v2 then
 some (true)
 else
 if decide ((Vault.Words p0)<(1:Int)) then
 some (true)
 else
 if decide ((64:Int)<(Vault.Words p0)) then
 some (true)
 else
 (zdY (Vault.Words p0) (List.length (Banks.Rows (Vault.Banks p0)):Int)).bind fun v15=>some ((!decide ((List.length (Banks.Par (Vault.Banks p0)):Int)=v15))):Option Bool).bind fun v1=>if v1 then
 some (false)
 else
 (if decide ((0:Int)≤(Vault.Span p0)) then
 if decide ((Vault.Span p0)≤(1099511627776:Int)) then
 if decide ((List.length (Vault.Lst p0):Int)≤(256:Int)) then
 (zfg p0).bind fun v9=>some (v9)
 else
 some (false)
 else
 some (false)
 else
 some (false):Option Bool).bind fun v2=>some (v2)
def zaL:FnT:=⟨[zaF],[.bool],fun x=>zbJ x⟩
def zgO:TA :=
 .sub0 [.bool] (.prim (.fld 0) [.v 0]<|.call 76 zbz [.v 1] 1<|.prim (.un .not) [.v 2]<|.ite (.v 3) (.jmp 0 false [.c (.bool true)]) (.prim (.fld 1) [.v 0]<|.prim (.bin .lss) [.v 4,.c (.int .i64 1)]<|.ite (.v 5) (.jmp 0 false [.c (.bool true)]) (.prim (.fld 1) [.v 0]<|.prim (.bin .gtr) [.v 6,.c (.int .i64 64)]<|.ite (.v 7) (.jmp 0 false [.c (.bool true)]) (.prim (.fld 0) [.v 0]<|.prim (.fld 1) [.v 8]<|.prim .len [.v 9]<|.prim (.fld 1) [.v 0]<|.prim (.fld 0) [.v 0]<|.prim (.fld 0) [.v 12]<|.prim .len [.v 13]<|.call 69 zcC [.v 11,.v 14] 1<|.prim (.bin .neq) [.v 10,.v 15]<|.jmp 0 false [.v 16])))) 1<|.ite (.v 1) (.jmp 0 false [.c (.bool false)]) (.sub0 [.bool] (.prim (.fld 2) [.v 0]<|.prim (.bin .geq) [.v 2,.c (.int .i64 0)]<|.ite (.v 3) (.prim (.fld 2) [.v 0]<|.prim (.bin .leq) [.v 4,.c (.int .i64 1099511627776)]<|.ite (.v 5) (.prim (.fld 3) [.v 0]<|.prim .len [.v 6]<|.prim (.bin .leq) [.v 7,.c (.int .i64 256)]<|.ite (.v 8) (.call 77 zdE [.v 0] 1<|.jmp 0 false [.v 9]) (.jmp 0 false [.c (.bool false)])) (.jmp 0 false [.c (.bool false)])) (.jmp 0 false [.c (.bool false)])) 1<|.jmp 0 false [.v 2])
theorem zmy:zaC cx 12 24=some zgO.erase:=by kernel_rfl
theorem zcO:FnOk cx 12 noC 24 zaL:=zcg (t:=zgO) zmy (fun _=>rfl) (zbW [(76,zbz),(69,zcC),(77,zdE)] (by kernel_rfl) (.cons zfH (.cons zhY (.cons zky .nil)))) (fun x=>by kernel_rfl)
def zcP (x1:Int) (x4:Int) (x6:List Undo) (x8:Int) (s:Int):Option (Int⊕Unit⊕Int) :=
 if decide (s<x8) then
 (idxO (List.length x6:Int) s).bind fun v11=>(getO x6 v11).bind fun v12=>if (decide ((Undo.Span v12)=x4))&&(decide ((Undo.At v12)=x1)) then
 some (Sum.inr (Sum.inr (s)))
 else
 some (Sum.inl (w64 (s + (1:Int))))
 else
 some (Sum.inr (Sum.inl ()))
def zeb (p0:Log) (p1:Int) (p2:Int):Option (Log×Int) :=
 ((zcj p0).bind fun v3=>if v3 then
 if decide ((0:Int)≤p1) then
 some ((decide (p1<(List.length (Log.Mem p0):Int))))
 else
 some (false)
 else
 some (false):Option Bool).bind fun v3=>((zaA 4 (Log.Mem p0)).bind fun v5=>(zaA 24 (Log.Lst p0)).bind fun v7=>some ((Log.Span p0,v5,v7)):Option (Int×(List Int)×(List Undo))).bind fun v4=>if !v3 then
 some ((Log.mk v4.2.1 v4.1 v4.2.2,(1:Int)))
 else
 ((let v8:Int:=(List.length v4.2.2:Int)
 zbT (zay (zcP p1 v4.1 v4.2.2 v8) (0:Int):Option (Unit⊕Int)) fun v9=>some ((-1:Int)):Option Int).bind fun v8=>some ((decide ((0:Int)≤v8))):Option Bool).bind fun v8=>zbT (if v8 then
 some (Sum.inl v4.2.2)
 else
 if decide ((List.length v4.2.2:Int)=(256:Int)) then
 some (Sum.inr ((Log.mk v4.2.1 v4.1 v4.2.2,(6:Int))))
 else
 (idxO (List.length v4.2.1:Int) p1).bind fun v11=>(getO v4.2.1 v11).bind fun v12=>(appO 24 v4.2.2 ([Undo.mk v4.1 p1 v12]:List Undo)).bind fun v15=>some (Sum.inl v15):Option ((List Undo)⊕(Log×Int))) fun v9=>(idxO (List.length v4.2.1:Int) p1).bind fun v10=>(setO v4.2.1 v10 p2).bind fun v11=>some ((Log.mk v11 v4.1 v9,(0:Int)))
def zeU:FnT:=⟨[tLog,.int .i64,.int .u32],[tLog,.int .i64],fun x=>zeb x.1 x.2.1 x.2.2⟩
def zio:TA :=
 .sub0 [.bool] (.call 83 zaS [.v 0] 1<|.ite (.v 3) (.prim (.bin .geq) [.v 1,.c (.int .i64 0)]<|.ite (.v 4) (.prim (.fld 0) [.v 0]<|.prim .len [.v 5]<|.prim (.bin .lss) [.v 1,.v 6]<|.jmp 0 false [.v 7]) (.jmp 0 false [.c (.bool false)])) (.jmp 0 false [.c (.bool false)])) 1<|.sub0 [.int .i64,.sl (.int .u32),.sl zcG] (.prim (.fld 0) [.v 0]<|.prim (.clone 4) [.v 4]<|.prim (.fld 2) [.v 0]<|.prim (.clone 24) [.v 6]<|.prim (.fld 0) [.v 0]<|.prim (.fld 1) [.v 0]<|.prim (.fld 2) [.v 0]<|.jmp 0 false [.v 9,.v 5,.v 7]) 3<|.prim (.un .not) [.v 3]<|.ite (.v 7) (.mkS zjN [.v 5,.v 4,.v 6]<|.jmp 0 false [.v 8,.c (.int .i64 1)]) (.sub0 [.bool] (.sub0 [.int .i64] (.prim .len [.v 6]<|.sub1 [] (.loop [.int .i64] [.c (.int .i64 0)] (.prim (.bin .lss) [.v 9,.v 8]<|.ite (.v 10) (.prim .idx [.v 6,.v 9]<|.prim .get [.v 6,.v 11]<|.subp [.bool] (.subp [.bool] (.prim (.fld 0) [.v 12]<|.prim (.bin .eql) [.v 13,.v 4]<|.ite (.v 14) (.prim (.fld 1) [.v 12]<|.prim (.bin .eql) [.v 15,.v 1]<|.jmp 0 false [.v 16]) (.jmp 0 false [.c (.bool false)])) 1<|.jmp 0 false [.v 13]) 1<|.ite (.v 13) (.jmp 2 false [.v 9]) (.prim (.bin .add) [.v 9,.c (.int .i64 1)]<|.jmp 0 true [.v 14])) (.jmp 1 false []))) 0<|.jmp 0 false [.c (.int .i64 (-1))]) 1<|.prim (.bin .geq) [.v 8,.c (.int .i64 0)]<|.jmp 0 false [.v 9]) 1<|.sub1 [.sl zcG] (.ite (.v 8) (.jmp 0 false [.v 6]) (.prim .len [.v 6]<|.prim (.bin .eql) [.v 9,.c (.int .i64 256)]<|.ite (.v 10) (.mkS zjN [.v 5,.v 4,.v 6]<|.jmp 1 false [.v 11,.c (.int .i64 6)]) (.prim .idx [.v 5,.v 1]<|.prim .get [.v 5,.v 11]<|.mkS zsN [.v 4,.v 1,.v 12]<|.mkL zcG [.v 13]<|.prim (.app 24) [.v 6,.v 14]<|.jmp 0 false [.v 15]))) 1<|.prim .idx [.v 5,.v 1]<|.prim .set [.v 5,.v 10,.v 2]<|.mkS zjN [.v 11,.v 4,.v 9]<|.jmp 0 false [.v 12,.c (.int .i64 0)])
theorem znV:zaC cx 12 35=some zio.erase:=by kernel_rfl
theorem zn4:FnOk cx 12 noC 35 zeU:=zcg (t:=zio) znV (fun _=>rfl) (zbW [(83,zaS)] (by kernel_rfl) (.cons zdq .nil)) (fun x=>by kernel_rfl)
def zfc (p0:Log):Option (Log×Int) :=
 ((zcj p0).bind fun v1=>if v1 then
 some ((decide ((Log.Span p0)<(1099511627776:Int))))
 else
 some (false):Option Bool).bind fun v1=>((zaA 4 (Log.Mem p0)).bind fun v3=>(zaA 24 (Log.Lst p0)).bind fun v5=>some ((Log.Span p0,v3,v5)):Option (Int×(List Int)×(List Undo))).bind fun v2=>if !v1 then
 some ((Log.mk v2.2.1 v2.1 v2.2.2,(1:Int)))
 else
 some ((Log.mk v2.2.1 (w64 (v2.1 + (1:Int))) v2.2.2,(0:Int)))
def zgh:FnT:=⟨[tLog],[tLog,.int .i64],fun x=>zfc x⟩
def ziT:TA :=
 .sub0 [.bool] (.call 83 zaS [.v 0] 1<|.ite (.v 1) (.prim (.fld 1) [.v 0]<|.prim (.bin .lss) [.v 2,.c (.int .i64 1099511627776)]<|.jmp 0 false [.v 3]) (.jmp 0 false [.c (.bool false)])) 1<|.sub0 [.int .i64,.sl (.int .u32),.sl zcG] (.prim (.fld 0) [.v 0]<|.prim (.clone 4) [.v 2]<|.prim (.fld 2) [.v 0]<|.prim (.clone 24) [.v 4]<|.prim (.fld 0) [.v 0]<|.prim (.fld 1) [.v 0]<|.prim (.fld 2) [.v 0]<|.jmp 0 false [.v 7,.v 3,.v 5]) 3<|.prim (.un .not) [.v 1]<|.ite (.v 5) (.mkS zjN [.v 3,.v 2,.v 4]<|.jmp 0 false [.v 6,.c (.int .i64 1)]) (.prim (.bin .add) [.v 2,.c (.int .i64 1)]<|.mkS zjN [.v 3,.v 6,.v 4]<|.jmp 0 false [.v 7,.c (.int .i64 0)])
theorem zoI:zaC cx 12 36=some ziT.erase:=by kernel_rfl
theorem zps:FnOk cx 12 noC 36 zgh:=zcg (t:=ziT) zoI (fun _=>rfl) (zbW [(83,zaS)] (by kernel_rfl) (.cons zdq .nil)) (fun x=>by kernel_rfl)
def zdz (x1:Int) (x5:List Undo) (s:(Int×Int×(List Int))):Option ((Int×Int×(List Int))⊕(Int×(List Int))) :=
 (if decide ((0:Int)<s.1) then
 (zoa (0:Int) s.2.1 (w64 (s.1 - (1:Int)))).bind fun v16=>(getO x5 v16).bind fun v17=>some ((decide (x1≤(Undo.Span v17))))
 else
 some (false):Option Bool).bind fun v14=>if v14 then
 (zoa (0:Int) s.2.1 (w64 (s.1 - (1:Int)))).bind fun v16=>(getO x5 v16).bind fun v17=>(znp (List.length x5:Int) (0:Int) (0:Int) (w64 (s.1 - (1:Int)))).bind fun v22=>(idxO (List.length s.2.2:Int) (Undo.At v17)).bind fun v23=>(setO s.2.2 v23 (Undo.Val v17)).bind fun v24=>some (Sum.inl (w64 (s.1 - (1:Int)),v22,v24))
 else
 some (Sum.inr ((s.2.1,s.2.2)))
def zeS (p0:Log) (p1:Int):Option (Log×Int) :=
 ((zcj p0).bind fun v2=>if v2 then
 some ((zaJ p1 (Log.Span p0)))
 else
 some (false):Option Bool).bind fun v2=>((zaA 4 (Log.Mem p0)).bind fun v4=>(zaA 24 (Log.Lst p0)).bind fun v6=>some ((Log.Span p0,v4,v6)):Option (Int×(List Int)×(List Undo))).bind fun v3=>if !v2 then
 some ((Log.mk v3.2.1 v3.1 v3.2.2,(1:Int)))
 else
 (zay (zdz p1 v3.2.2) ((List.length v3.2.2:Int),(List.length v3.2.2:Int),v3.2.1):Option (Int×(List Int))).bind fun v8=>(subO v3.2.2 (0:Int) v8.1).bind fun v10=>some ((Log.mk v8.2 p1 v10,(0:Int)))
def zge:FnT:=⟨[tLog,.int .i64],[tLog,.int .i64],fun x=>zeS x.1 x.2⟩
def ziX:TA :=
 .sub0 [.bool] (.call 83 zaS [.v 0] 1<|.ite (.v 2) (.prim (.fld 1) [.v 0]<|.callp 86 zbN [.v 1,.v 3] 1<|.jmp 0 false [.v 4]) (.jmp 0 false [.c (.bool false)])) 1<|.sub0 [.int .i64,.sl (.int .u32),.sl zcG] (.prim (.fld 0) [.v 0]<|.prim (.clone 4) [.v 3]<|.prim (.fld 2) [.v 0]<|.prim (.clone 24) [.v 5]<|.prim (.fld 0) [.v 0]<|.prim (.fld 1) [.v 0]<|.prim (.fld 2) [.v 0]<|.jmp 0 false [.v 8,.v 4,.v 6]) 3<|.prim (.un .not) [.v 2]<|.ite (.v 6) (.mkS zjN [.v 4,.v 3,.v 5]<|.jmp 0 false [.v 7,.c (.int .i64 1)]) (.prim .len [.v 5]<|.sub0 [.int .i64,.sl (.int .u32)] (.subp [.int .i64,.int .i64,.sl (.int .u32)] (.prim .len [.v 5]<|.jmp 0 false [.v 7,.v 8,.v 4]) 3<|.loop [.int .i64,.int .i64,.sl (.int .u32)] [.v 8,.v 9,.v 10] (.sub0 [.bool] (.prim (.bin .gtr) [.v 11,.c (.int .i64 0)]<|.ite (.v 14) (.prim (.bin .sub) [.v 11,.c (.int .i64 1)]<|.prim .idxv [.c (.int .i64 0),.v 12,.v 15]<|.prim .get [.v 5,.v 16]<|.prim (.fld 0) [.v 17]<|.prim (.bin .geq) [.v 18,.v 1]<|.jmp 0 false [.v 19]) (.jmp 0 false [.c (.bool false)])) 1<|.ite (.v 14) (.prim (.bin .sub) [.v 11,.c (.int .i64 1)]<|.prim .idxv [.c (.int .i64 0),.v 12,.v 15]<|.prim .get [.v 5,.v 16]<|.prim (.fld 1) [.v 17]<|.prim (.fld 2) [.v 17]<|.prim (.bin .sub) [.v 11,.c (.int .i64 1)]<|.prim .vlen [.c (.int .i64 0),.v 12]<|.prim .rngv [.v 5,.c (.int .i64 0),.c (.int .i64 0),.v 20]<|.prim .idx [.v 13,.v 18]<|.prim .set [.v 13,.v 23,.v 19]<|.prim (.bin .sub) [.v 11,.c (.int .i64 1)]<|.jmp 0 true [.v 25,.v 22,.v 24]) (.jmp 1 false [.v 12,.v 13]))) 2<|.prim .sub [.v 5,.c (.int .i64 0),.v 8]<|.mkS zjN [.v 9,.v 1,.v 10]<|.jmp 0 false [.v 11,.c (.int .i64 0)])
theorem zpB:zaC cx 12 37=some ziX.erase:=by kernel_rfl
theorem zpb:FnOk cx 12 noC 37 zge:=zcg (t:=ziX) zpB (fun _=>rfl) (zbW [(83,zaS),(86,zbN.fn)] (by kernel_rfl) (.cons zdq (.cons zgi .nil))) (fun x=>by kernel_rfl)
def zdC (x1:Int) (s:(Int×Int×(List Undo))):Option ((Int×Int×(List Undo))⊕(Int×(List Undo))) :=
 if decide (s.2.1<(List.length s.2.2:Int)) then
 (idxO (List.length s.2.2:Int) s.2.1).bind fun v15=>(getO s.2.2 v15).bind fun v16=>(if !(decide ((Undo.Span v16)<x1)) then
 (idxO (List.length s.2.2:Int) s.1).bind fun v19=>(setO s.2.2 v19 v16).bind fun v20=>some ((w64 (s.1 + (1:Int)),v20))
 else
 some ((s.1,s.2.2)):Option (Int×(List Undo))).bind fun v19=>some (Sum.inl (v19.1,w64 (s.2.1 + (1:Int)),v19.2))
 else
 some (Sum.inr ((s.1,s.2.2)))
def zdA (x1:Int) (x5:List Undo) (x7:Int) (s:Int):Option (Int⊕Unit⊕Int) :=
 if decide (s<x7) then
 (idxO (List.length x5:Int) s).bind fun v10=>(getO x5 v10).bind fun v11=>if decide ((Undo.Span v11)<x1) then
 some (Sum.inr (Sum.inr (s)))
 else
 some (Sum.inl (w64 (s + (1:Int))))
 else
 some (Sum.inr (Sum.inl ()))
def zfa (p0:Log) (p1:Int):Option (Log×Int) :=
 ((zcj p0).bind fun v2=>if v2 then
 some ((zaJ p1 (Log.Span p0)))
 else
 some (false):Option Bool).bind fun v2=>((zaA 4 (Log.Mem p0)).bind fun v4=>(zaA 24 (Log.Lst p0)).bind fun v6=>some ((Log.Span p0,v4,v6)):Option (Int×(List Int)×(List Undo))).bind fun v3=>if !v2 then
 some ((Log.mk v3.2.1 v3.1 v3.2.2,(1:Int)))
 else
 ((let v7:Int:=(List.length v3.2.2:Int)
 zbT (zay (zdA p1 v3.2.2 v7) (0:Int):Option (Unit⊕Int)) fun v8=>some ((-1:Int)):Option Int).bind fun v7=>if decide (v7=(-1:Int)) then
 some (((List.length v3.2.2:Int),v3.2.2))
 else
 (zay (zdC p1) (v7,w64 (v7 + (1:Int)),v3.2.2):Option (Int×(List Undo))).bind fun v10=>(rngO (List.length v10.2:Int) v10.1 (List.length v10.2:Int)).bind fun v13=>(subO v10.2 v10.1 v13).bind fun v14=>(zpA v10.2 v10.1 v13 (List.replicate (List.length v14) (Undo.mk (0:Int) (0:Int) (0:Int)))).bind fun v16=>(rngO (List.length v16:Int) (0:Int) v10.1).bind fun v18=>some ((v18,v16)):Option (Int×(List Undo))).bind fun v7=>(subO v7.2 (0:Int) v7.1).bind fun v9=>some ((Log.mk v3.2.1 v3.1 v9,(0:Int)))
def zgt:FnT:=⟨[tLog,.int .i64],[tLog,.int .i64],fun x=>zfa x.1 x.2⟩
def zjG:TA :=
 .sub0 [.bool] (.call 83 zaS [.v 0] 1<|.ite (.v 2) (.prim (.fld 1) [.v 0]<|.callp 86 zbN [.v 1,.v 3] 1<|.jmp 0 false [.v 4]) (.jmp 0 false [.c (.bool false)])) 1<|.sub0 [.int .i64,.sl (.int .u32),.sl zcG] (.prim (.fld 0) [.v 0]<|.prim (.clone 4) [.v 3]<|.prim (.fld 2) [.v 0]<|.prim (.clone 24) [.v 5]<|.prim (.fld 0) [.v 0]<|.prim (.fld 1) [.v 0]<|.prim (.fld 2) [.v 0]<|.jmp 0 false [.v 8,.v 4,.v 6]) 3<|.prim (.un .not) [.v 2]<|.ite (.v 6) (.mkS zjN [.v 4,.v 3,.v 5]<|.jmp 0 false [.v 7,.c (.int .i64 1)]) (.sub0 [.int .i64,.sl zcG] (.sub0 [.int .i64] (.prim .len [.v 5]<|.sub1 [] (.loop [.int .i64] [.c (.int .i64 0)] (.prim (.bin .lss) [.v 8,.v 7]<|.ite (.v 9) (.prim .idx [.v 5,.v 8]<|.prim .get [.v 5,.v 10]<|.subp [.bool] (.prim (.fld 0) [.v 11]<|.prim (.bin .lss) [.v 12,.v 1]<|.jmp 0 false [.v 13]) 1<|.ite (.v 12) (.jmp 2 false [.v 8]) (.prim (.bin .add) [.v 8,.c (.int .i64 1)]<|.jmp 0 true [.v 13])) (.jmp 1 false []))) 0<|.jmp 0 false [.c (.int .i64 (-1))]) 1<|.prim (.bin .eql) [.v 7,.c (.int .i64 (-1))]<|.ite (.v 8) (.prim .len [.v 5]<|.jmp 0 false [.v 9,.v 5]) (.prim (.bin .add) [.v 7,.c (.int .i64 1)]<|.sub0 [.int .i64,.sl zcG] (.loop [.int .i64,.int .i64,.sl zcG] [.v 7,.v 9,.v 5] (.prim .len [.v 12]<|.prim (.bin .lss) [.v 11,.v 13]<|.ite (.v 14) (.prim .idx [.v 12,.v 11]<|.prim .get [.v 12,.v 15]<|.subp [.bool] (.prim (.fld 0) [.v 16]<|.prim (.bin .lss) [.v 17,.v 1]<|.jmp 0 false [.v 18]) 1<|.prim (.un .not) [.v 17]<|.sub0 [.int .i64,.sl zcG] (.ite (.v 18) (.prim .idx [.v 12,.v 10]<|.prim .set [.v 12,.v 19,.v 16]<|.prim (.bin .add) [.v 10,.c (.int .i64 1)]<|.jmp 0 false [.v 21,.v 20]) (.jmp 0 false [.v 10,.v 12])) 2<|.prim (.bin .add) [.v 11,.c (.int .i64 1)]<|.jmp 0 true [.v 19,.v 21,.v 20]) (.jmp 1 false [.v 10,.v 12]))) 2<|.prim .len [.v 11]<|.prim .rng [.v 11,.v 10,.v 12]<|.prim .sub [.v 11,.v 10,.v 13]<|.prim (.clr (.agg [(.int .i64 0),(.int .i64 0),(.int .u32 0)])) [.v 14]<|.prim .cpyv [.v 11,.v 10,.v 13,.v 15]<|.prim .len [.v 16]<|.prim .rng [.v 16,.c (.int .i64 0),.v 10]<|.jmp 0 false [.v 18,.v 16])) 2<|.prim .sub [.v 8,.c (.int .i64 0),.v 7]<|.mkS zjN [.v 4,.v 3,.v 9]<|.jmp 0 false [.v 10,.c (.int .i64 0)])
theorem zoM:zaC cx 12 38=some zjG.erase:=by kernel_rfl
theorem zoW:FnOk cx 12 noC 38 zgt:=zcg (t:=zjG) zoM (fun _=>rfl) (zbW [(83,zaS),(86,zbN.fn)] (by kernel_rfl) (.cons zdq (.cons zgi .nil))) (fun x=>by kernel_rfl)
def zdQ (x4:List (List Int)) (x5:Int) (s:(Int×(List (List Int)))):Option ((Int×(List (List Int)))⊕(List (List Int))) :=
 if decide (s.1<x5) then
 (getO x4 s.1).bind fun v9=>(zaA 4 v9).bind fun v10=>(appO 24 s.2 ([v10]:List (List Int))).bind fun v12=>some (Sum.inl (w64 (s.1 + (1:Int)),v12))
 else
 some (Sum.inr (s.2))
def zdZ (p0:Banks) (p1:Int):Option Bool :=
 ((zcz p0).bind fun v2=>if v2 then
 if decide ((0:Int)≤p1) then
 some ((decide (p1<(List.length (Banks.Rows p0):Int))))
 else
 some (false)
 else
 some (false):Option Bool).bind fun v2=>some (v2)
def zcF:FnT:=⟨[zeZ,.int .i64],[.bool],fun x=>zdZ x.1 x.2⟩
def zh6:TA :=
 .sub0 [.bool] (.call 76 zbz [.v 0] 1<|.ite (.v 2) (.prim (.bin .geq) [.v 1,.c (.int .i64 0)]<|.ite (.v 3) (.prim (.fld 0) [.v 0]<|.prim .len [.v 4]<|.prim (.bin .lss) [.v 1,.v 5]<|.jmp 0 false [.v 6]) (.jmp 0 false [.c (.bool false)])) (.jmp 0 false [.c (.bool false)])) 1<|.jmp 0 false [.v 2]
theorem zor:zaC cx 12 114=some zh6.erase:=by kernel_rfl
theorem zir:FnOk cx 12 noC 114 zcF:=zcg (t:=zh6) zor (fun _=>rfl) (zbW [(76,zbz)] (by kernel_rfl) (.cons zfH .nil)) (fun x=>by kernel_rfl)
def zdD (x0:Vault) (x3:Int) (s:(Int×(List Int))):Option ((Int×(List Int))⊕(List Int)) :=
 if decide (s.1<x3) then
 (za8 x0 s.1).bind fun v7=>(getO (Banks.Rows (Vault.Banks x0)) v7.1).bind fun v11=>(getO v11 v7.2).bind fun v12=>(appO 4 s.2 ([v12]:List Int)).bind fun v14=>some (Sum.inl (w64 (s.1 + (1:Int)),v14))
 else
 some (Sum.inr (s.2))
def zb9 (p0:Vault):Option (List Int) :=
 (zbJ p0).bind fun v1=>if !v1 then
 some (([]:List Int))
 else
 (zay (zdD p0 (Vault.Words p0)) ((0:Int),([]:List Int)):Option (List Int)).bind fun v4=>some (v4)
def zeh:FnT:=⟨[zaF],[.sl (.int .u32)],fun x=>zb9 x⟩
def zgQ:TA :=
 .call 24 zaL [.v 0] 1<|.prim (.un .not) [.v 1]<|.ite (.v 2) (.jmp 0 false [.c .nil]) (.prim (.fld 1) [.v 0]<|.sub0 [.sl (.int .u32)] (.loop [.int .i64,.sl (.int .u32)] [.c (.int .i64 0),.c .nil] (.prim (.bin .lss) [.v 4,.v 3]<|.ite (.v 6) (.call 71 zaK [.v 0,.v 4] 2<|.prim (.fld 0) [.v 0]<|.prim (.fld 0) [.v 9]<|.prim .get [.v 10,.v 7]<|.prim .get [.v 11,.v 8]<|.mkL (.int .u32) [.v 12]<|.prim (.app 4) [.v 5,.v 13]<|.prim (.bin .add) [.v 4,.c (.int .i64 1)]<|.jmp 0 true [.v 15,.v 14]) (.jmp 1 false [.v 5]))) 1<|.jmp 0 false [.v 4])
theorem zlS:zaC cx 12 26=some zgQ.erase:=by kernel_rfl
theorem zl5:FnOk cx 12 noC 26 zeh:=zcg (t:=zgQ) zlS (fun _=>rfl) (zbW [(24,zaL),(71,zaK)] (by kernel_rfl) (.cons zcO (.cons zcM .nil))) (fun x=>by kernel_rfl)
def zg8 (x2:List (List Int)) (x3:Int) (s:(Int×(List (List Int)))):Option ((Int×(List (List Int)))⊕(List (List Int))) :=
 if decide (s.1<x3) then
 (getO x2 s.1).bind fun v7=>(zaA 4 v7).bind fun v8=>(appO 24 s.2 ([v8]:List (List Int))).bind fun v10=>some (Sum.inl (w64 (s.1 + (1:Int)),v10))
 else
 some (Sum.inr (s.2))
def zdO (p0:Vault):Option (Vault×Int) :=
 (let v2:List (List Int):=Banks.Rows (Vault.Banks p0)
 let v3:Int:=(List.length v2:Int)
 (zay (zg8 v2 v3) ((0:Int),([]:List (List Int))):Option (List (List Int))).bind fun v4=>(zaA 4 (Banks.Par (Vault.Banks p0))).bind fun v7=>(zaA 24 (Vault.Lst p0)).bind fun v9=>some ((Banks.Lost (Vault.Banks p0),Vault.Words p0,Vault.Span p0,v4,v7,v9)):Option (Int×Int×Int×(List (List Int))×(List Int)×(List Undo))).bind fun v1=>((zbJ p0).bind fun v7=>if !v7 then
 some (true)
 else
 some ((decide ((Vault.Span p0)=(1099511627776:Int)))):Option Bool).bind fun v7=>if v7 then
 some ((Vault.mk (Banks.mk v1.2.2.2.1 v1.2.2.2.2.1 v1.1) v1.2.1 v1.2.2.1 v1.2.2.2.2.2,(1:Int)))
 else
 some ((Vault.mk (Banks.mk v1.2.2.2.1 v1.2.2.2.2.1 v1.1) v1.2.1 (w64 (v1.2.2.1 + (1:Int))) v1.2.2.2.2.2,(0:Int)))
def zeN:FnT:=⟨[zaF],[zaF,.int .i64],fun x=>zdO x⟩
def zhT:TA :=
 .sub0 [.int .i64,.int .i64,.int .i64,.sl (.sl (.int .u32)),.sl (.int .u32),.sl zcG] (.prim (.fld 0) [.v 0]<|.prim (.fld 0) [.v 1]<|.prim .len [.v 2]<|.sub0 [.sl (.sl (.int .u32))] (.loop [.int .i64,.sl (.sl (.int .u32))] [.c (.int .i64 0),.c .nil] (.prim (.bin .lss) [.v 4,.v 3]<|.ite (.v 6) (.prim .get [.v 2,.v 4]<|.prim (.clone 4) [.v 7]<|.mkL (.sl (.int .u32)) [.v 8]<|.prim (.app 24) [.v 5,.v 9]<|.prim (.bin .add) [.v 4,.c (.int .i64 1)]<|.jmp 0 true [.v 11,.v 10]) (.jmp 1 false [.v 5]))) 1<|.prim (.fld 0) [.v 0]<|.prim (.fld 1) [.v 5]<|.prim (.clone 4) [.v 6]<|.prim (.fld 3) [.v 0]<|.prim (.clone 24) [.v 8]<|.prim (.fld 0) [.v 0]<|.prim (.fld 1) [.v 0]<|.prim (.fld 2) [.v 0]<|.prim (.fld 3) [.v 0]<|.prim (.fld 0) [.v 10]<|.prim (.fld 1) [.v 10]<|.prim (.fld 2) [.v 10]<|.jmp 0 false [.v 16,.v 11,.v 12,.v 4,.v 7,.v 9]) 6<|.sub0 [.bool] (.call 24 zaL [.v 0] 1<|.prim (.un .not) [.v 7]<|.ite (.v 8) (.jmp 0 false [.c (.bool true)]) (.prim (.fld 2) [.v 0]<|.prim (.bin .eql) [.v 9,.c (.int .i64 1099511627776)]<|.jmp 0 false [.v 10])) 1<|.ite (.v 7) (.mkS za7 [.v 4,.v 5,.v 1]<|.mkS zbI [.v 8,.v 2,.v 3,.v 6]<|.jmp 0 false [.v 9,.c (.int .i64 1)]) (.prim (.bin .add) [.v 3,.c (.int .i64 1)]<|.mkS za7 [.v 4,.v 5,.v 1]<|.mkS zbI [.v 9,.v 2,.v 8,.v 6]<|.jmp 0 false [.v 10,.c (.int .i64 0)])
theorem zog:zaC cx 12 28=some zhT.erase:=by kernel_rfl
theorem zmR:FnOk cx 12 noC 28 zeN:=zcg (t:=zhT) zog (fun _=>rfl) (zbW [(24,zaL)] (by kernel_rfl) (.cons zcO .nil)) (fun x=>by kernel_rfl)
def zdk (p0:Vault) (p1:Int):Option Bool :=
 ((zbJ p0).bind fun v2=>if v2 then
 if decide ((0:Int)≤p1) then
 some ((decide (p1<(Vault.Words p0))))
 else
 some (false)
 else
 some (false):Option Bool).bind fun v2=>some (v2)
def zbX:FnT:=⟨[zaF,.int .i64],[.bool],fun x=>zdk x.1 x.2⟩
def zgC:TA :=
 .sub0 [.bool] (.call 24 zaL [.v 0] 1<|.ite (.v 2) (.prim (.bin .geq) [.v 1,.c (.int .i64 0)]<|.ite (.v 3) (.prim (.fld 1) [.v 0]<|.prim (.bin .lss) [.v 1,.v 4]<|.jmp 0 false [.v 5]) (.jmp 0 false [.c (.bool false)])) (.jmp 0 false [.c (.bool false)])) 1<|.jmp 0 false [.v 2]
theorem zlK:zaC cx 12 54=some zgC.erase:=by kernel_rfl
theorem zgD:FnOk cx 12 noC 54 zbX:=zcg (t:=zgC) zlK (fun _=>rfl) (zbW [(24,zaL)] (by kernel_rfl) (.cons zcO .nil)) (fun x=>by kernel_rfl)
def zcv (p0:Vault) (p1:Int):Option Bool :=
 ((zbJ p0).bind fun v2=>if v2 then
 if decide ((0:Int)≤p1) then
 some ((decide (p1≤(Vault.Span p0))))
 else
 some (false)
 else
 some (false):Option Bool).bind fun v2=>some (v2)
def zbC:FnT:=⟨[zaF,.int .i64],[.bool],fun x=>zcv x.1 x.2⟩
def zfS:TA :=
 .sub0 [.bool] (.call 24 zaL [.v 0] 1<|.ite (.v 2) (.prim (.bin .geq) [.v 1,.c (.int .i64 0)]<|.ite (.v 3) (.prim (.fld 2) [.v 0]<|.prim (.bin .leq) [.v 1,.v 4]<|.jmp 0 false [.v 5]) (.jmp 0 false [.c (.bool false)])) (.jmp 0 false [.c (.bool false)])) 1<|.jmp 0 false [.v 2]
theorem zkK:zaC cx 12 62=some zfS.erase:=by kernel_rfl
theorem zfP:FnOk cx 12 noC 62 zbC:=zcg (t:=zfS) zkK (fun _=>rfl) (zbW [(24,zaL)] (by kernel_rfl) (.cons zcO .nil)) (fun x=>by kernel_rfl)
def zdb (p0:Banks) (p1:Int) (p2:Int):Option (Int×Int) :=
 ((zdZ p0 p1).bind fun v3=>if !v3 then
 some (true)
 else
 if decide (p2<(0:Int)) then
 some (true)
 else
 some ((decide ((List.length (Banks.Par p0):Int)≤p2))):Option Bool).bind fun v3=>if v3 then
 some (((0:Int),(1:Int)))
 else
 if decide ((Banks.Lost p0)=(w64 (p1 + (1:Int)))) then
 some (((0:Int),(8:Int)))
 else
 (getO (Banks.Rows p0) p1).bind fun v8=>(getO v8 p2).bind fun v9=>some ((v9,(0:Int)))
def zeo:FnT:=⟨[zeZ,.int .i64,.int .i64],[.int .u32,.int .i64],fun x=>zdb x.1 x.2.1 x.2.2⟩
def zhd:TA :=
 .sub0 [.bool] (.call 114 zcF [.v 0,.v 1] 1<|.prim (.un .not) [.v 3]<|.ite (.v 4) (.jmp 0 false [.c (.bool true)]) (.prim (.bin .lss) [.v 2,.c (.int .i64 0)]<|.ite (.v 5) (.jmp 0 false [.c (.bool true)]) (.prim (.fld 1) [.v 0]<|.prim .len [.v 6]<|.prim (.bin .geq) [.v 2,.v 7]<|.jmp 0 false [.v 8]))) 1<|.ite (.v 3) (.jmp 0 false [.c (.int .u32 0),.c (.int .i64 1)]) (.prim (.fld 2) [.v 0]<|.prim (.bin .add) [.v 1,.c (.int .i64 1)]<|.prim (.bin .eql) [.v 4,.v 5]<|.ite (.v 6) (.jmp 0 false [.c (.int .u32 0),.c (.int .i64 8)]) (.prim (.fld 0) [.v 0]<|.prim .get [.v 7,.v 1]<|.prim .get [.v 8,.v 2]<|.jmp 0 false [.v 9,.c (.int .i64 0)]))
theorem zmB:zaC cx 12 72=some zhd.erase:=by kernel_rfl
theorem zms:FnOk cx 12 noC 72 zeo:=zcg (t:=zhd) zmB (fun _=>rfl) (zbW [(114,zcF)] (by kernel_rfl) (.cons zir .nil)) (fun x=>by kernel_rfl)
def zak (x7:List (List Int)) (x8:Int) (s:(Int×(List (List Int)))):Option ((Int×(List (List Int)))⊕(List (List Int))) :=
 if decide (s.1<x8) then
 (getO x7 s.1).bind fun v12=>(zaA 4 v12).bind fun v13=>(appO 24 s.2 ([v13]:List (List Int))).bind fun v15=>some (Sum.inl (w64 (s.1 + (1:Int)),v15))
 else
 some (Sum.inr (s.2))
def zbi (p0:Banks) (p1:Int) (p2:Int) (p3:Int):Option (Banks×Int) :=
 ((zaA 4 (Banks.Par p0)).bind fun v5=>let v8:Int:=(List.length (Banks.Rows p0):Int)
 (zay (zak (Banks.Rows p0) v8) ((0:Int),([]:List (List Int))):Option (List (List Int))).bind fun v9=>some ((Banks.Lost p0,v9,v5)):Option (Int×(List (List Int))×(List Int))).bind fun v4=>((zdZ p0 p1).bind fun v7=>if !v7 then
 some (true)
 else
 if decide (p2<(0:Int)) then
 some (true)
 else
 some ((decide ((List.length (Banks.Par p0):Int)≤p2))):Option Bool).bind fun v7=>if v7 then
 some ((Banks.mk v4.2.1 v4.2.2 v4.1,(1:Int)))
 else
 if decide ((0:Int)<(Banks.Lost p0)) then
 some ((Banks.mk v4.2.1 v4.2.2 v4.1,(8:Int)))
 else
 (idxO (List.length v4.2.2:Int) p2).bind fun v10=>(getO v4.2.2 v10).bind fun v11=>(idxO (List.length v4.2.1:Int) p1).bind fun v12=>(idxO (List.length v4.2.1:Int) v12).bind fun v13=>(getO v4.2.1 v13).bind fun v14=>(idxO (List.length v14:Int) p2).bind fun v15=>(getO v4.2.1 v13).bind fun v16=>(getO v16 v15).bind fun v17=>(idxO (List.length v4.2.2:Int) p2).bind fun v20=>(setO v4.2.2 v20 (bXor .u32 v11 (bXor .u32 v17 p3))).bind fun v21=>(idxO (List.length v4.2.1:Int) p1).bind fun v22=>(idxO (List.length v4.2.1:Int) v22).bind fun v23=>(getO v4.2.1 v23).bind fun v24=>(idxO (List.length v24:Int) p2).bind fun v25=>(getO v4.2.1 v23).bind fun v26=>(setO v26 v25 p3).bind fun v27=>(setO v4.2.1 v23 v27).bind fun v28=>some ((Banks.mk v28 v21 v4.1,(0:Int)))
def zby:FnT:=⟨[zeZ,.int .i64,.int .i64,.int .u32],[zeZ,.int .i64],fun x=>zbi x.1 x.2.1 x.2.2.1 x.2.2.2⟩
def zfR:TA :=
 .sub0 [.int .i64,.sl (.sl (.int .u32)),.sl (.int .u32)] (.prim (.fld 1) [.v 0]<|.prim (.clone 4) [.v 4]<|.prim (.fld 2) [.v 0]<|.prim (.fld 0) [.v 0]<|.prim .len [.v 7]<|.sub0 [.sl (.sl (.int .u32))] (.loop [.int .i64,.sl (.sl (.int .u32))] [.c (.int .i64 0),.c .nil] (.prim (.bin .lss) [.v 9,.v 8]<|.ite (.v 11) (.prim .get [.v 7,.v 9]<|.prim (.clone 4) [.v 12]<|.mkL (.sl (.int .u32)) [.v 13]<|.prim (.app 24) [.v 10,.v 14]<|.prim (.bin .add) [.v 9,.c (.int .i64 1)]<|.jmp 0 true [.v 16,.v 15]) (.jmp 1 false [.v 10]))) 1<|.jmp 0 false [.v 6,.v 9,.v 5]) 3<|.sub0 [.bool] (.call 114 zcF [.v 0,.v 1] 1<|.prim (.un .not) [.v 7]<|.ite (.v 8) (.jmp 0 false [.c (.bool true)]) (.prim (.bin .lss) [.v 2,.c (.int .i64 0)]<|.ite (.v 9) (.jmp 0 false [.c (.bool true)]) (.prim (.fld 1) [.v 0]<|.prim .len [.v 10]<|.prim (.bin .geq) [.v 2,.v 11]<|.jmp 0 false [.v 12]))) 1<|.ite (.v 7) (.mkS za7 [.v 5,.v 6,.v 4]<|.jmp 0 false [.v 8,.c (.int .i64 1)]) (.prim (.fld 2) [.v 0]<|.prim (.bin .gtr) [.v 8,.c (.int .i64 0)]<|.ite (.v 9) (.mkS za7 [.v 5,.v 6,.v 4]<|.jmp 0 false [.v 10,.c (.int .i64 8)]) (.prim .idx [.v 6,.v 2]<|.prim .get [.v 6,.v 10]<|.prim .idx [.v 5,.v 1]<|.prim .idx [.v 5,.v 12]<|.prim .get [.v 5,.v 13]<|.prim .idx [.v 14,.v 2]<|.prim .get [.v 5,.v 13]<|.prim .get [.v 16,.v 15]<|.prim (.bin .xor) [.v 17,.v 3]<|.prim (.bin .xor) [.v 11,.v 18]<|.prim .idx [.v 6,.v 2]<|.prim .set [.v 6,.v 20,.v 19]<|.prim .idx [.v 5,.v 1]<|.prim .idx [.v 5,.v 22]<|.prim .get [.v 5,.v 23]<|.prim .idx [.v 24,.v 2]<|.prim .get [.v 5,.v 23]<|.prim .set [.v 26,.v 25,.v 3]<|.prim .set [.v 5,.v 23,.v 27]<|.mkS za7 [.v 28,.v 21,.v 4]<|.jmp 0 false [.v 29,.c (.int .i64 0)]))
theorem zkL:zaC cx 12 110=some zfR.erase:=by kernel_rfl
theorem zfN:FnOk cx 12 noC 110 zby:=zcg (t:=zfR) zkL (fun _=>rfl) (zbW [(114,zcF)] (by kernel_rfl) (.cons zir .nil)) (fun x=>by kernel_rfl)
def zbS (x1:Int) (x3:Int) (x4:Int) (x7:List Undo) (x13:List Undo) (s:(Int×(List (List Int))×(List Int)×Int×Int)):Option ((Int×(List (List Int))×(List Int)×Int×Int)⊕((List (List Int))×(List Int)×Int×Int)) :=
 if decide (s.1<(0:Int)) then
 some (Sum.inr ((s.2.1,s.2.2.1,s.2.2.2.1,s.2.2.2.2)))
 else
 (getO x13 s.1).bind fun v27=>if decide ((Undo.Span v27)<x1) then
 some (Sum.inr ((s.2.1,s.2.2.1,s.2.2.2.1,s.2.2.2.2)))
 else
 ((subO x7 (0:Int) s.2.2.2.2).bind fun v33=>(za8 (Vault.mk (Banks.mk s.2.1 s.2.2.1 s.2.2.2.1) x3 x4 v33) (Undo.At v27)).bind fun v35=>(zbi (Banks.mk s.2.1 s.2.2.1 s.2.2.2.1) v35.1 v35.2 (Undo.Val v27)).bind fun v38=>some (v38.1):Option Banks).bind fun v32=>(znp (List.length x7:Int) (0:Int) (0:Int) (w64 ((s.2.2.2.2 - (0:Int)) - (1:Int)))).bind fun v36=>some (Sum.inl (w64 (s.1 - (1:Int)),Banks.Rows v32,Banks.Par v32,Banks.Lost v32,v36))
def zcN (x3:List (List Int)) (x4:Int) (s:(Int×(List (List Int)))):Option ((Int×(List (List Int)))⊕(List (List Int))) :=
 if decide (s.1<x4) then
 (getO x3 s.1).bind fun v8=>(zaA 4 v8).bind fun v9=>(appO 24 s.2 ([v9]:List (List Int))).bind fun v11=>some (Sum.inl (w64 (s.1 + (1:Int)),v11))
 else
 some (Sum.inr (s.2))
def zdS (p0:Vault) (p1:Int):Option (Vault×Int) :=
 (let v3:List (List Int):=Banks.Rows (Vault.Banks p0)
 let v4:Int:=(List.length v3:Int)
 (zay (zcN v3 v4) ((0:Int),([]:List (List Int))):Option (List (List Int))).bind fun v5=>(zaA 4 (Banks.Par (Vault.Banks p0))).bind fun v8=>(zaA 24 (Vault.Lst p0)).bind fun v10=>some ((Banks.Lost (Vault.Banks p0),Vault.Words p0,Vault.Span p0,v5,v8,v10)):Option (Int×Int×Int×(List (List Int))×(List Int)×(List Undo))).bind fun v2=>(zcv p0 p1).bind fun v8=>if !v8 then
 some ((Vault.mk (Banks.mk v2.2.2.2.1 v2.2.2.2.2.1 v2.1) v2.2.1 v2.2.2.1 v2.2.2.2.2.2,(1:Int)))
 else
 if decide ((0:Int)<(Banks.Lost (Vault.Banks p0))) then
 some ((Vault.mk (Banks.mk v2.2.2.2.1 v2.2.2.2.2.1 v2.1) v2.2.1 v2.2.2.1 v2.2.2.2.2.2,(8:Int)))
 else
 (zay (zbS p1 v2.2.1 v2.2.2.1 v2.2.2.2.2.2 (Vault.Lst p0)) (w64 ((List.length (Vault.Lst p0):Int) - (1:Int)),v2.2.2.2.1,v2.2.2.2.2.1,v2.1,(List.length v2.2.2.2.2.2:Int)):Option ((List (List Int))×(List Int)×Int×Int)).bind fun v14=>(subO v2.2.2.2.2.2 (0:Int) v14.2.2.2).bind fun v19=>some ((Vault.mk (Banks.mk v14.1 v14.2.1 v14.2.2.1) v2.2.1 p1 v19,(0:Int)))
def zfe:FnT:=⟨[zaF,.int .i64],[zaF,.int .i64],fun x=>zdS x.1 x.2⟩
def zh9:TA :=
 .sub0 [.int .i64,.int .i64,.int .i64,.sl (.sl (.int .u32)),.sl (.int .u32),.sl zcG] (.prim (.fld 0) [.v 0]<|.prim (.fld 0) [.v 2]<|.prim .len [.v 3]<|.sub0 [.sl (.sl (.int .u32))] (.loop [.int .i64,.sl (.sl (.int .u32))] [.c (.int .i64 0),.c .nil] (.prim (.bin .lss) [.v 5,.v 4]<|.ite (.v 7) (.prim .get [.v 3,.v 5]<|.prim (.clone 4) [.v 8]<|.mkL (.sl (.int .u32)) [.v 9]<|.prim (.app 24) [.v 6,.v 10]<|.prim (.bin .add) [.v 5,.c (.int .i64 1)]<|.jmp 0 true [.v 12,.v 11]) (.jmp 1 false [.v 6]))) 1<|.prim (.fld 0) [.v 0]<|.prim (.fld 1) [.v 6]<|.prim (.clone 4) [.v 7]<|.prim (.fld 3) [.v 0]<|.prim (.clone 24) [.v 9]<|.prim (.fld 0) [.v 0]<|.prim (.fld 1) [.v 0]<|.prim (.fld 2) [.v 0]<|.prim (.fld 3) [.v 0]<|.prim (.fld 0) [.v 11]<|.prim (.fld 1) [.v 11]<|.prim (.fld 2) [.v 11]<|.jmp 0 false [.v 17,.v 12,.v 13,.v 5,.v 8,.v 10]) 6<|.call 62 zbC [.v 0,.v 1] 1<|.prim (.un .not) [.v 8]<|.ite (.v 9) (.mkS za7 [.v 5,.v 6,.v 2]<|.mkS zbI [.v 10,.v 3,.v 4,.v 7]<|.jmp 0 false [.v 11,.c (.int .i64 1)]) (.prim (.fld 0) [.v 0]<|.prim (.fld 2) [.v 10]<|.prim (.bin .gtr) [.v 11,.c (.int .i64 0)]<|.ite (.v 12) (.mkS za7 [.v 5,.v 6,.v 2]<|.mkS zbI [.v 13,.v 3,.v 4,.v 7]<|.jmp 0 false [.v 14,.c (.int .i64 8)]) (.prim (.fld 3) [.v 0]<|.subp [] (.jmp 0 false []) 0<|.sub0 [.sl (.sl (.int .u32)),.sl (.int .u32),.int .i64,.int .i64] (.prim .len [.v 13]<|.prim (.bin .sub) [.v 14,.c (.int .i64 1)]<|.subp [.int .i64,.sl (.sl (.int .u32)),.sl (.int .u32),.int .i64,.int .i64] (.prim .len [.v 7]<|.jmp 0 false [.v 15,.v 5,.v 6,.v 2,.v 16]) 5<|.loop [.int .i64,.sl (.sl (.int .u32)),.sl (.int .u32),.int .i64,.int .i64] [.v 16,.v 17,.v 18,.v 19,.v 20] (.prim (.bin .lss) [.v 21,.c (.int .i64 0)]<|.ite (.v 26) (.jmp 1 false [.v 22,.v 23,.v 24,.v 25]) (.prim .get [.v 13,.v 21]<|.prim (.fld 0) [.v 27]<|.prim (.bin .lss) [.v 28,.v 1]<|.ite (.v 29) (.jmp 1 false [.v 22,.v 23,.v 24,.v 25]) (.prim (.fld 1) [.v 27]<|.prim (.fld 2) [.v 27]<|.sub0 [zeZ] (.mkS za7 [.v 22,.v 23,.v 24]<|.prim .sub [.v 7,.c (.int .i64 0),.v 25]<|.mkS zbI [.v 32,.v 3,.v 4,.v 33]<|.call 71 zaK [.v 34,.v 30] 2<|.mkS za7 [.v 22,.v 23,.v 24]<|.call 110 zby [.v 37,.v 35,.v 36,.v 31] 2<|.jmp 0 false [.v 38]) 1<|.prim .vlen [.c (.int .i64 0),.v 25]<|.prim (.bin .sub) [.v 33,.c (.int .i64 1)]<|.prim .vlen [.c (.int .i64 0),.v 25]<|.prim .rngv [.v 7,.c (.int .i64 0),.c (.int .i64 0),.v 34]<|.prim (.bin .sub) [.v 21,.c (.int .i64 1)]<|.prim (.fld 0) [.v 32]<|.prim (.fld 1) [.v 32]<|.prim (.fld 2) [.v 32]<|.jmp 0 true [.v 37,.v 38,.v 39,.v 40,.v 36])))) 4<|.mkS za7 [.v 14,.v 15,.v 16]<|.prim .sub [.v 7,.c (.int .i64 0),.v 17]<|.mkS zbI [.v 18,.v 3,.v 1,.v 19]<|.jmp 0 false [.v 20,.c (.int .i64 0)]))
theorem znc:zaC cx 12 15=some zh9.erase:=by kernel_rfl
theorem znD:FnOk cx 12 noC 15 zfe:=zcg (t:=zh9) znc (fun _=>rfl) (zbW [(62,zbC),(71,zaK),(110,zby)] (by kernel_rfl) (.cons zfP (.cons zcM (.cons zfN .nil)))) (fun x=>by kernel_rfl)
def zcZ (x1:Int) (s:(Int×Int×(List Undo))):Option ((Int×Int×(List Undo))⊕(Int×(List Undo))) :=
 if decide (s.2.1<(List.length s.2.2:Int)) then
 (idxO (List.length s.2.2:Int) s.2.1).bind fun v18=>(getO s.2.2 v18).bind fun v19=>(if !(decide ((Undo.Span v19)<x1)) then
 (idxO (List.length s.2.2:Int) s.1).bind fun v22=>(setO s.2.2 v22 v19).bind fun v23=>some ((w64 (s.1 + (1:Int)),v23))
 else
 some ((s.1,s.2.2)):Option (Int×(List Undo))).bind fun v22=>some (Sum.inl (v22.1,w64 (s.2.1 + (1:Int)),v22.2))
 else
 some (Sum.inr ((s.1,s.2.2)))
def zc1 (x1:Int) (x7:List Undo) (x10:Int) (s:Int):Option (Int⊕Unit⊕Int) :=
 if decide (s<x10) then
 (idxO (List.length x7:Int) s).bind fun v13=>(getO x7 v13).bind fun v14=>if decide ((Undo.Span v14)<x1) then
 some (Sum.inr (Sum.inr (s)))
 else
 some (Sum.inl (w64 (s + (1:Int))))
 else
 some (Sum.inr (Sum.inl ()))
def zdV (p0:Vault) (p1:Int):Option (Vault×Int) :=
 (let v3:List (List Int):=Banks.Rows (Vault.Banks p0)
 let v4:Int:=(List.length v3:Int)
 (zay (zcN v3 v4) ((0:Int),([]:List (List Int))):Option (List (List Int))).bind fun v5=>(zaA 4 (Banks.Par (Vault.Banks p0))).bind fun v8=>(zaA 24 (Vault.Lst p0)).bind fun v10=>some ((Banks.Lost (Vault.Banks p0),Vault.Words p0,Vault.Span p0,v5,v8,v10)):Option (Int×Int×Int×(List (List Int))×(List Int)×(List Undo))).bind fun v2=>(zcv p0 p1).bind fun v8=>if !v8 then
 some ((Vault.mk (Banks.mk v2.2.2.2.1 v2.2.2.2.2.1 v2.1) v2.2.1 v2.2.2.1 v2.2.2.2.2.2,(1:Int)))
 else
 ((let v10:Int:=(List.length v2.2.2.2.2.2:Int)
 zbT (zay (zc1 p1 v2.2.2.2.2.2 v10) (0:Int):Option (Unit⊕Int)) fun v11=>some ((-1:Int)):Option Int).bind fun v10=>if decide (v10=(-1:Int)) then
 some (((List.length v2.2.2.2.2.2:Int),v2.2.2.2.2.2))
 else
 (zay (zcZ p1) (v10,w64 (v10 + (1:Int)),v2.2.2.2.2.2):Option (Int×(List Undo))).bind fun v13=>(rngO (List.length v13.2:Int) v13.1 (List.length v13.2:Int)).bind fun v16=>(subO v13.2 v13.1 v16).bind fun v17=>(zpA v13.2 v13.1 v16 (List.replicate (List.length v17) (Undo.mk (0:Int) (0:Int) (0:Int)))).bind fun v19=>(rngO (List.length v19:Int) (0:Int) v13.1).bind fun v21=>some ((v21,v19)):Option (Int×(List Undo))).bind fun v10=>(subO v10.2 (0:Int) v10.1).bind fun v13=>some ((Vault.mk (Banks.mk v2.2.2.2.1 v2.2.2.2.2.1 v2.1) v2.2.1 v2.2.2.1 v13,(0:Int)))
def ze9:FnT:=⟨[zaF,.int .i64],[zaF,.int .i64],fun x=>zdV x.1 x.2⟩
def zhV:TA :=
 .sub0 [.int .i64,.int .i64,.int .i64,.sl (.sl (.int .u32)),.sl (.int .u32),.sl zcG] (.prim (.fld 0) [.v 0]<|.prim (.fld 0) [.v 2]<|.prim .len [.v 3]<|.sub0 [.sl (.sl (.int .u32))] (.loop [.int .i64,.sl (.sl (.int .u32))] [.c (.int .i64 0),.c .nil] (.prim (.bin .lss) [.v 5,.v 4]<|.ite (.v 7) (.prim .get [.v 3,.v 5]<|.prim (.clone 4) [.v 8]<|.mkL (.sl (.int .u32)) [.v 9]<|.prim (.app 24) [.v 6,.v 10]<|.prim (.bin .add) [.v 5,.c (.int .i64 1)]<|.jmp 0 true [.v 12,.v 11]) (.jmp 1 false [.v 6]))) 1<|.prim (.fld 0) [.v 0]<|.prim (.fld 1) [.v 6]<|.prim (.clone 4) [.v 7]<|.prim (.fld 3) [.v 0]<|.prim (.clone 24) [.v 9]<|.prim (.fld 0) [.v 0]<|.prim (.fld 1) [.v 0]<|.prim (.fld 2) [.v 0]<|.prim (.fld 3) [.v 0]<|.prim (.fld 0) [.v 11]<|.prim (.fld 1) [.v 11]<|.prim (.fld 2) [.v 11]<|.jmp 0 false [.v 17,.v 12,.v 13,.v 5,.v 8,.v 10]) 6<|.call 62 zbC [.v 0,.v 1] 1<|.prim (.un .not) [.v 8]<|.ite (.v 9) (.mkS za7 [.v 5,.v 6,.v 2]<|.mkS zbI [.v 10,.v 3,.v 4,.v 7]<|.jmp 0 false [.v 11,.c (.int .i64 1)]) (.sub0 [.int .i64,.sl zcG] (.sub0 [.int .i64] (.prim .len [.v 7]<|.sub1 [] (.loop [.int .i64] [.c (.int .i64 0)] (.prim (.bin .lss) [.v 11,.v 10]<|.ite (.v 12) (.prim .idx [.v 7,.v 11]<|.prim .get [.v 7,.v 13]<|.subp [.bool] (.prim (.fld 0) [.v 14]<|.prim (.bin .lss) [.v 15,.v 1]<|.jmp 0 false [.v 16]) 1<|.ite (.v 15) (.jmp 2 false [.v 11]) (.prim (.bin .add) [.v 11,.c (.int .i64 1)]<|.jmp 0 true [.v 16])) (.jmp 1 false []))) 0<|.jmp 0 false [.c (.int .i64 (-1))]) 1<|.prim (.bin .eql) [.v 10,.c (.int .i64 (-1))]<|.ite (.v 11) (.prim .len [.v 7]<|.jmp 0 false [.v 12,.v 7]) (.prim (.bin .add) [.v 10,.c (.int .i64 1)]<|.sub0 [.int .i64,.sl zcG] (.loop [.int .i64,.int .i64,.sl zcG] [.v 10,.v 12,.v 7] (.prim .len [.v 15]<|.prim (.bin .lss) [.v 14,.v 16]<|.ite (.v 17) (.prim .idx [.v 15,.v 14]<|.prim .get [.v 15,.v 18]<|.subp [.bool] (.prim (.fld 0) [.v 19]<|.prim (.bin .lss) [.v 20,.v 1]<|.jmp 0 false [.v 21]) 1<|.prim (.un .not) [.v 20]<|.sub0 [.int .i64,.sl zcG] (.ite (.v 21) (.prim .idx [.v 15,.v 13]<|.prim .set [.v 15,.v 22,.v 19]<|.prim (.bin .add) [.v 13,.c (.int .i64 1)]<|.jmp 0 false [.v 24,.v 23]) (.jmp 0 false [.v 13,.v 15])) 2<|.prim (.bin .add) [.v 14,.c (.int .i64 1)]<|.jmp 0 true [.v 22,.v 24,.v 23]) (.jmp 1 false [.v 13,.v 15]))) 2<|.prim .len [.v 14]<|.prim .rng [.v 14,.v 13,.v 15]<|.prim .sub [.v 14,.v 13,.v 16]<|.prim (.clr (.agg [(.int .i64 0),(.int .i64 0),(.int .u32 0)])) [.v 17]<|.prim .cpyv [.v 14,.v 13,.v 16,.v 18]<|.prim .len [.v 19]<|.prim .rng [.v 19,.c (.int .i64 0),.v 13]<|.jmp 0 false [.v 21,.v 19])) 2<|.mkS za7 [.v 5,.v 6,.v 2]<|.prim .sub [.v 11,.c (.int .i64 0),.v 10]<|.mkS zbI [.v 12,.v 3,.v 4,.v 13]<|.jmp 0 false [.v 14,.c (.int .i64 0)])
theorem znF:zaC cx 12 17=some zhV.erase:=by kernel_rfl
theorem zmY:FnOk cx 12 noC 17 ze9:=zcg (t:=zhV) znF (fun _=>rfl) (zbW [(62,zbC)] (by kernel_rfl) (.cons zfP .nil)) (fun x=>by kernel_rfl)
def zft (p0:Vault) (p1:Int):Option (Int×Int) :=
 (zdk p0 p1).bind fun v2=>if !v2 then
 some (((0:Int),(1:Int)))
 else
 (za8 p0 p1).bind fun v4=>(zdb (Vault.Banks p0) v4.1 v4.2).bind fun v7=>some ((v7.1,v7.2))
def zeF:FnT:=⟨[zaF,.int .i64],[.int .u32,.int .i64],fun x=>zft x.1 x.2⟩
def zhW:TA :=
 .call 54 zbX [.v 0,.v 1] 1<|.prim (.un .not) [.v 2]<|.ite (.v 3) (.jmp 0 false [.c (.int .u32 0),.c (.int .i64 1)]) (.call 71 zaK [.v 0,.v 1] 2<|.prim (.fld 0) [.v 0]<|.call 72 zeo [.v 6,.v 4,.v 5] 2<|.jmp 0 false [.v 7,.v 8])
theorem znu:zaC cx 12 21=some zhW.erase:=by kernel_rfl
theorem zot:FnOk cx 12 noC 21 zeF:=zcg (t:=zhW) znu (fun _=>rfl) (zbW [(54,zbX),(71,zaK),(72,zeo)] (by kernel_rfl) (.cons zgD (.cons zcM (.cons zms .nil)))) (fun x=>by kernel_rfl)
def zcm (x0:Vault) (x1:Int) (x14:List Undo) (x15:Int) (s:Int):Option (Int⊕Unit⊕Int) :=
 if decide (s<x15) then
 (getO x14 s).bind fun v18=>if (decide ((Undo.Span v18)=(Vault.Span x0)))&&(decide ((Undo.At v18)=x1)) then
 some (Sum.inr (Sum.inr (s)))
 else
 some (Sum.inl (w64 (s + (1:Int))))
 else
 some (Sum.inr (Sum.inl ()))
def zdm (p0:Vault) (p1:Int) (p2:Int):Option (Vault×Int) :=
 (let v4:List (List Int):=Banks.Rows (Vault.Banks p0)
 let v5:Int:=(List.length v4:Int)
 (zay (zdQ v4 v5) ((0:Int),([]:List (List Int))):Option (List (List Int))).bind fun v6=>(zaA 4 (Banks.Par (Vault.Banks p0))).bind fun v9=>(zaA 24 (Vault.Lst p0)).bind fun v11=>some ((Banks.Lost (Vault.Banks p0),Vault.Words p0,Vault.Span p0,v6,v9,v11)):Option (Int×Int×Int×(List (List Int))×(List Int)×(List Undo))).bind fun v3=>(zdk p0 p1).bind fun v9=>if !v9 then
 some ((Vault.mk (Banks.mk v3.2.2.2.1 v3.2.2.2.2.1 v3.1) v3.2.1 v3.2.2.1 v3.2.2.2.2.2,(1:Int)))
 else
 if decide ((0:Int)<(Banks.Lost (Vault.Banks p0))) then
 some ((Vault.mk (Banks.mk v3.2.2.2.1 v3.2.2.2.2.1 v3.1) v3.2.1 v3.2.2.1 v3.2.2.2.2.2,(8:Int)))
 else
 ((let v15:Int:=(List.length (Vault.Lst p0):Int)
 zbT (zay (zcm p0 p1 (Vault.Lst p0) v15) (0:Int):Option (Unit⊕Int)) fun v16=>some ((-1:Int)):Option Int).bind fun v15=>some ((decide ((0:Int)≤v15))):Option Bool).bind fun v15=>if (!v15)&&(decide ((List.length (Vault.Lst p0):Int)=(256:Int))) then
 some ((Vault.mk (Banks.mk v3.2.2.2.1 v3.2.2.2.2.1 v3.1) v3.2.1 v3.2.2.1 v3.2.2.2.2.2,(6:Int)))
 else
 (if !v15 then
 (zft p0 p1).bind fun v18=>(appO 24 v3.2.2.2.2.2 ([Undo.mk (Vault.Span p0) p1 v18.1]:List Undo)).bind fun v23=>some (v23)
 else
 some (v3.2.2.2.2.2):Option (List Undo)).bind fun v18=>((za8 (Vault.mk (Banks.mk v3.2.2.2.1 v3.2.2.2.2.1 v3.1) v3.2.1 v3.2.2.1 v18) p1).bind fun v21=>(zbi (Banks.mk v3.2.2.2.1 v3.2.2.2.2.1 v3.1) v21.1 v21.2 p2).bind fun v24=>some (v24.1):Option Banks).bind fun v19=>some ((Vault.mk v19 v3.2.1 v3.2.2.1 v18,(0:Int)))
def zem:FnT:=⟨[zaF,.int .i64,.int .u32],[zaF,.int .i64],fun x=>zdm x.1 x.2.1 x.2.2⟩
def zhf:TA :=
 .sub0 [.int .i64,.int .i64,.int .i64,.sl (.sl (.int .u32)),.sl (.int .u32),.sl zcG] (.prim (.fld 0) [.v 0]<|.prim (.fld 0) [.v 3]<|.prim .len [.v 4]<|.sub0 [.sl (.sl (.int .u32))] (.loop [.int .i64,.sl (.sl (.int .u32))] [.c (.int .i64 0),.c .nil] (.prim (.bin .lss) [.v 6,.v 5]<|.ite (.v 8) (.prim .get [.v 4,.v 6]<|.prim (.clone 4) [.v 9]<|.mkL (.sl (.int .u32)) [.v 10]<|.prim (.app 24) [.v 7,.v 11]<|.prim (.bin .add) [.v 6,.c (.int .i64 1)]<|.jmp 0 true [.v 13,.v 12]) (.jmp 1 false [.v 7]))) 1<|.prim (.fld 0) [.v 0]<|.prim (.fld 1) [.v 7]<|.prim (.clone 4) [.v 8]<|.prim (.fld 3) [.v 0]<|.prim (.clone 24) [.v 10]<|.prim (.fld 0) [.v 0]<|.prim (.fld 1) [.v 0]<|.prim (.fld 2) [.v 0]<|.prim (.fld 3) [.v 0]<|.prim (.fld 0) [.v 12]<|.prim (.fld 1) [.v 12]<|.prim (.fld 2) [.v 12]<|.jmp 0 false [.v 18,.v 13,.v 14,.v 6,.v 9,.v 11]) 6<|.call 54 zbX [.v 0,.v 1] 1<|.prim (.un .not) [.v 9]<|.ite (.v 10) (.mkS za7 [.v 6,.v 7,.v 3]<|.mkS zbI [.v 11,.v 4,.v 5,.v 8]<|.jmp 0 false [.v 12,.c (.int .i64 1)]) (.prim (.fld 0) [.v 0]<|.prim (.fld 2) [.v 11]<|.prim (.bin .gtr) [.v 12,.c (.int .i64 0)]<|.ite (.v 13) (.mkS za7 [.v 6,.v 7,.v 3]<|.mkS zbI [.v 14,.v 4,.v 5,.v 8]<|.jmp 0 false [.v 15,.c (.int .i64 8)]) (.prim (.fld 3) [.v 0]<|.sub0 [.bool] (.sub0 [.int .i64] (.prim .len [.v 14]<|.sub1 [] (.loop [.int .i64] [.c (.int .i64 0)] (.prim (.bin .lss) [.v 16,.v 15]<|.ite (.v 17) (.prim .get [.v 14,.v 16]<|.subp [.bool] (.subp [.bool] (.prim (.fld 0) [.v 18]<|.prim (.fld 2) [.v 0]<|.prim (.bin .eql) [.v 19,.v 20]<|.ite (.v 21) (.prim (.fld 1) [.v 18]<|.prim (.bin .eql) [.v 22,.v 1]<|.jmp 0 false [.v 23]) (.jmp 0 false [.c (.bool false)])) 1<|.jmp 0 false [.v 19]) 1<|.ite (.v 19) (.jmp 2 false [.v 16]) (.prim (.bin .add) [.v 16,.c (.int .i64 1)]<|.jmp 0 true [.v 20])) (.jmp 1 false []))) 0<|.jmp 0 false [.c (.int .i64 (-1))]) 1<|.prim (.bin .geq) [.v 15,.c (.int .i64 0)]<|.jmp 0 false [.v 16]) 1<|.subp [.bool] (.prim (.un .not) [.v 15]<|.ite (.v 16) (.prim (.fld 3) [.v 0]<|.prim .len [.v 17]<|.prim (.bin .eql) [.v 18,.c (.int .i64 256)]<|.jmp 0 false [.v 19]) (.jmp 0 false [.c (.bool false)])) 1<|.ite (.v 16) (.mkS za7 [.v 6,.v 7,.v 3]<|.mkS zbI [.v 17,.v 4,.v 5,.v 8]<|.jmp 0 false [.v 18,.c (.int .i64 6)]) (.prim (.un .not) [.v 15]<|.sub0 [.sl zcG] (.ite (.v 17) (.call 21 zeF [.v 0,.v 1] 2<|.prim (.fld 2) [.v 0]<|.mkS zsN [.v 20,.v 1,.v 18]<|.mkL zcG [.v 21]<|.prim (.app 24) [.v 8,.v 22]<|.jmp 0 false [.v 23]) (.jmp 0 false [.v 8])) 1<|.sub0 [zeZ] (.mkS za7 [.v 6,.v 7,.v 3]<|.mkS zbI [.v 19,.v 4,.v 5,.v 18]<|.call 71 zaK [.v 20,.v 1] 2<|.mkS za7 [.v 6,.v 7,.v 3]<|.call 110 zby [.v 23,.v 21,.v 22,.v 2] 2<|.jmp 0 false [.v 24]) 1<|.mkS zbI [.v 19,.v 4,.v 5,.v 18]<|.jmp 0 false [.v 20,.c (.int .i64 0)])))
theorem zmf:zaC cx 12 12=some zhf.erase:=by kernel_rfl
theorem zmt:FnOk cx 12 noC 12 zem:=zcg (t:=zhf) zmf (fun _=>rfl) (zbW [(54,zbX),(21,zeF),(71,zaK),(110,zby)] (by kernel_rfl) (.cons zgD (.cons zot (.cons zcM (.cons zfN .nil))))) (fun x=>by kernel_rfl)
def zjo:Bool:=true
def zfU:PnT:=⟨[],[.bool],fun _=>zjo⟩
theorem zoQ:FnOk cx 12 noC 10 zfU.fn:=fun ds x r hx hr=>by
 have hx:ds=[]:=hx
 subst hx
 exact ⟨[.bool true],ztE 100 12 (by kernel_rfl),.bool true,rfl,congrArg D.bool (Option.some.inj hr)⟩
end Go.Proofs.Ytlgjbfdojbmmgaa
