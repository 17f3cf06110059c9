/- The types of this cut, and its functions as functions of plain typed data. Printed by a program of this claim's prover; each is checked here to be what the executor makes of the code. -/
import Derived.Test.YtlgjbfdojbmmgaaProg
import Derived.Test.YtlgjbfdojbmmgaaLim
import Derived.KernelRfl
set_option linter.unusedVariables false
set_option maxRecDepth 100000
noncomputable section
namespace Go.Proofs.Ytlgjbfdojbmmgaa
open Go.SX
abbrev zqU:List Ty:=[.int .i64,.int .i64]
abbrev znI:Ty:=.st zqU
abbrev zge:List Ty:=[.int .i64,.int .i64,.bool,.int .u8]
abbrev zdv:Ty:=.st zge
abbrev zuO:List Ty:=[.int .i64,.bool,.bool,.bool,.bool,.bool,.int .i64,.int .i64,.int .u32]
abbrev zck:Ty:=.st zuO
abbrev Wait:Type:=Int×Bool×Bool×Bool×Bool×Bool×Int×Int×Int
def Wait.mk (Line:Int) (Write:Bool) (Back:Bool) (Came:Bool) (Own:Bool) (Keep:Bool) (Need:Int) (Got:Int) (Val:Int):Wait:=(Line,Write,Back,Came,Own,Keep,Need,Got,Val)
def Wait.Line (x:Wait):Int:=x.1
def Wait.Write (x:Wait):Bool:=x.2.1
def Wait.Back (x:Wait):Bool:=x.2.2.1
def Wait.Came (x:Wait):Bool:=x.2.2.2.1
def Wait.Own (x:Wait):Bool:=x.2.2.2.2.1
def Wait.Keep (x:Wait):Bool:=x.2.2.2.2.2.1
def Wait.Need (x:Wait):Int:=x.2.2.2.2.2.2.1
def Wait.Got (x:Wait):Int:=x.2.2.2.2.2.2.2.1
def Wait.Val (x:Wait):Int:=x.2.2.2.2.2.2.2.2
def Wait.setCame (x:Wait) (v:Bool):Wait:=(x.1,x.2.1,x.2.2.1,v,x.2.2.2.2.1,x.2.2.2.2.2.1,x.2.2.2.2.2.2.1,x.2.2.2.2.2.2.2.1,x.2.2.2.2.2.2.2.2)
def Wait.setOwn (x:Wait) (v:Bool):Wait:=(x.1,x.2.1,x.2.2.1,x.2.2.2.1,v,x.2.2.2.2.2.1,x.2.2.2.2.2.2.1,x.2.2.2.2.2.2.2.1,x.2.2.2.2.2.2.2.2)
def Wait.setKeep (x:Wait) (v:Bool):Wait:=(x.1,x.2.1,x.2.2.1,x.2.2.2.1,x.2.2.2.2.1,v,x.2.2.2.2.2.2.1,x.2.2.2.2.2.2.2.1,x.2.2.2.2.2.2.2.2)
def Wait.setNeed (x:Wait) (v:Int):Wait:=(x.1,x.2.1,x.2.2.1,x.2.2.2.1,x.2.2.2.2.1,x.2.2.2.2.2.1,v,x.2.2.2.2.2.2.2.1,x.2.2.2.2.2.2.2.2)
def Wait.setGot (x:Wait) (v:Int):Wait:=(x.1,x.2.1,x.2.2.1,x.2.2.2.1,x.2.2.2.2.1,x.2.2.2.2.2.1,x.2.2.2.2.2.2.1,v,x.2.2.2.2.2.2.2.2)
def Wait.setVal (x:Wait) (v:Int):Wait:=(x.1,x.2.1,x.2.2.1,x.2.2.2.1,x.2.2.2.2.1,x.2.2.2.2.2.1,x.2.2.2.2.2.2.1,x.2.2.2.2.2.2.2.1,v)
@[simp] theorem Wait.Line_mk (Line:Int) (Write:Bool) (Back:Bool) (Came:Bool) (Own:Bool) (Keep:Bool) (Need:Int) (Got:Int) (Val:Int):Wait.Line (Wait.mk Line Write Back Came Own Keep Need Got Val)=Line:=rfl
@[simp] theorem Wait.Write_mk (Line:Int) (Write:Bool) (Back:Bool) (Came:Bool) (Own:Bool) (Keep:Bool) (Need:Int) (Got:Int) (Val:Int):Wait.Write (Wait.mk Line Write Back Came Own Keep Need Got Val)=Write:=rfl
@[simp] theorem Wait.Back_mk (Line:Int) (Write:Bool) (Back:Bool) (Came:Bool) (Own:Bool) (Keep:Bool) (Need:Int) (Got:Int) (Val:Int):Wait.Back (Wait.mk Line Write Back Came Own Keep Need Got Val)=Back:=rfl
@[simp] theorem Wait.Came_mk (Line:Int) (Write:Bool) (Back:Bool) (Came:Bool) (Own:Bool) (Keep:Bool) (Need:Int) (Got:Int) (Val:Int):Wait.Came (Wait.mk Line Write Back Came Own Keep Need Got Val)=Came:=rfl
@[simp] theorem Wait.Own_mk (Line:Int) (Write:Bool) (Back:Bool) (Came:Bool) (Own:Bool) (Keep:Bool) (Need:Int) (Got:Int) (Val:Int):Wait.Own (Wait.mk Line Write Back Came Own Keep Need Got Val)=Own:=rfl
@[simp] theorem Wait.Keep_mk (Line:Int) (Write:Bool) (Back:Bool) (Came:Bool) (Own:Bool) (Keep:Bool) (Need:Int) (Got:Int) (Val:Int):Wait.Keep (Wait.mk Line Write Back Came Own Keep Need Got Val)=Keep:=rfl
@[simp] theorem Wait.Need_mk (Line:Int) (Write:Bool) (Back:Bool) (Came:Bool) (Own:Bool) (Keep:Bool) (Need:Int) (Got:Int) (Val:Int):Wait.Need (Wait.mk Line Write Back Came Own Keep Need Got Val)=Need:=rfl
@[simp] theorem Wait.Got_mk (Line:Int) (Write:Bool) (Back:Bool) (Came:Bool) (Own:Bool) (Keep:Bool) (Need:Int) (Got:Int) (Val:Int):Wait.Got (Wait.mk Line Write Back Came Own Keep Need Got Val)=Got:=rfl
@[simp] theorem Wait.Val_mk (Line:Int) (Write:Bool) (Back:Bool) (Came:Bool) (Own:Bool) (Keep:Bool) (Need:Int) (Got:Int) (Val:Int):Wait.Val (Wait.mk Line Write Back Came Own Keep Need Got Val)=Val:=rfl
@[simp] theorem Wait.setCame_eq (x:Wait) (v:Bool):Wait.setCame x v=Wait.mk (Wait.Line x) (Wait.Write x) (Wait.Back x) v (Wait.Own x) (Wait.Keep x) (Wait.Need x) (Wait.Got x) (Wait.Val x):=rfl
@[simp] theorem Wait.setOwn_eq (x:Wait) (v:Bool):Wait.setOwn x v=Wait.mk (Wait.Line x) (Wait.Write x) (Wait.Back x) (Wait.Came x) v (Wait.Keep x) (Wait.Need x) (Wait.Got x) (Wait.Val x):=rfl
@[simp] theorem Wait.setKeep_eq (x:Wait) (v:Bool):Wait.setKeep x v=Wait.mk (Wait.Line x) (Wait.Write x) (Wait.Back x) (Wait.Came x) (Wait.Own x) v (Wait.Need x) (Wait.Got x) (Wait.Val x):=rfl
@[simp] theorem Wait.setNeed_eq (x:Wait) (v:Int):Wait.setNeed x v=Wait.mk (Wait.Line x) (Wait.Write x) (Wait.Back x) (Wait.Came x) (Wait.Own x) (Wait.Keep x) v (Wait.Got x) (Wait.Val x):=rfl
@[simp] theorem Wait.setGot_eq (x:Wait) (v:Int):Wait.setGot x v=Wait.mk (Wait.Line x) (Wait.Write x) (Wait.Back x) (Wait.Came x) (Wait.Own x) (Wait.Keep x) (Wait.Need x) v (Wait.Val x):=rfl
@[simp] theorem Wait.setVal_eq (x:Wait) (v:Int):Wait.setVal x v=Wait.mk (Wait.Line x) (Wait.Write x) (Wait.Back x) (Wait.Came x) (Wait.Own x) (Wait.Keep x) (Wait.Need x) (Wait.Got x) v:=rfl
@[simp] theorem Wait.eta (x:Wait):Wait.mk (Wait.Line x) (Wait.Write x) (Wait.Back x) (Wait.Came x) (Wait.Own x) (Wait.Keep x) (Wait.Need x) (Wait.Got x) (Wait.Val x)=x:=rfl
abbrev zyn:List Ty:=[.int .i64,.int .i64,.int .u32]
abbrev zuf:Ty:=.st zyn
abbrev zdx:List Ty:=[.str,.int .u64]
abbrev zbH:Ty:=.st zdx
abbrev zhn:List Ty:=[.int .i64,.int .i64,.int .i64,.int .i64,.int .i64,.int .i64,.bool,.int .u32,.int .u32]
abbrev zAc:Ty:=.st zhn
abbrev Msg:Type:=Int×Int×Int×Int×Int×Int×Bool×Int×Int
def Msg.mk (Kind:Int) (From:Int) (To:Int) (Line:Int) (For:Int) (Acks:Int) (Own:Bool) (Num:Int) (Val:Int):Msg:=(Kind,From,To,Line,For,Acks,Own,Num,Val)
def Msg.Kind (x:Msg):Int:=x.1
def Msg.From (x:Msg):Int:=x.2.1
def Msg.To (x:Msg):Int:=x.2.2.1
def Msg.Line (x:Msg):Int:=x.2.2.2.1
def Msg.For (x:Msg):Int:=x.2.2.2.2.1
def Msg.Acks (x:Msg):Int:=x.2.2.2.2.2.1
def Msg.Own (x:Msg):Bool:=x.2.2.2.2.2.2.1
def Msg.Num (x:Msg):Int:=x.2.2.2.2.2.2.2.1
def Msg.Val (x:Msg):Int:=x.2.2.2.2.2.2.2.2
def Msg.setKind (x:Msg) (v:Int):Msg:=(v,x.2.1,x.2.2.1,x.2.2.2.1,x.2.2.2.2.1,x.2.2.2.2.2.1,x.2.2.2.2.2.2.1,x.2.2.2.2.2.2.2.1,x.2.2.2.2.2.2.2.2)
def Msg.setFor (x:Msg) (v:Int):Msg:=(x.1,x.2.1,x.2.2.1,x.2.2.2.1,v,x.2.2.2.2.2.1,x.2.2.2.2.2.2.1,x.2.2.2.2.2.2.2.1,x.2.2.2.2.2.2.2.2)
def Msg.setVal (x:Msg) (v:Int):Msg:=(x.1,x.2.1,x.2.2.1,x.2.2.2.1,x.2.2.2.2.1,x.2.2.2.2.2.1,x.2.2.2.2.2.2.1,x.2.2.2.2.2.2.2.1,v)
@[simp] theorem Msg.Kind_mk (Kind:Int) (From:Int) (To:Int) (Line:Int) (For:Int) (Acks:Int) (Own:Bool) (Num:Int) (Val:Int):Msg.Kind (Msg.mk Kind From To Line For Acks Own Num Val)=Kind:=rfl
@[simp] theorem Msg.From_mk (Kind:Int) (From:Int) (To:Int) (Line:Int) (For:Int) (Acks:Int) (Own:Bool) (Num:Int) (Val:Int):Msg.From (Msg.mk Kind From To Line For Acks Own Num Val)=From:=rfl
@[simp] theorem Msg.To_mk (Kind:Int) (From:Int) (To:Int) (Line:Int) (For:Int) (Acks:Int) (Own:Bool) (Num:Int) (Val:Int):Msg.To (Msg.mk Kind From To Line For Acks Own Num Val)=To:=rfl
@[simp] theorem Msg.Line_mk (Kind:Int) (From:Int) (To:Int) (Line:Int) (For:Int) (Acks:Int) (Own:Bool) (Num:Int) (Val:Int):Msg.Line (Msg.mk Kind From To Line For Acks Own Num Val)=Line:=rfl
@[simp] theorem Msg.For_mk (Kind:Int) (From:Int) (To:Int) (Line:Int) (For:Int) (Acks:Int) (Own:Bool) (Num:Int) (Val:Int):Msg.For (Msg.mk Kind From To Line For Acks Own Num Val)=For:=rfl
@[simp] theorem Msg.Acks_mk (Kind:Int) (From:Int) (To:Int) (Line:Int) (For:Int) (Acks:Int) (Own:Bool) (Num:Int) (Val:Int):Msg.Acks (Msg.mk Kind From To Line For Acks Own Num Val)=Acks:=rfl
@[simp] theorem Msg.Own_mk (Kind:Int) (From:Int) (To:Int) (Line:Int) (For:Int) (Acks:Int) (Own:Bool) (Num:Int) (Val:Int):Msg.Own (Msg.mk Kind From To Line For Acks Own Num Val)=Own:=rfl
@[simp] theorem Msg.Num_mk (Kind:Int) (From:Int) (To:Int) (Line:Int) (For:Int) (Acks:Int) (Own:Bool) (Num:Int) (Val:Int):Msg.Num (Msg.mk Kind From To Line For Acks Own Num Val)=Num:=rfl
@[simp] theorem Msg.Val_mk (Kind:Int) (From:Int) (To:Int) (Line:Int) (For:Int) (Acks:Int) (Own:Bool) (Num:Int) (Val:Int):Msg.Val (Msg.mk Kind From To Line For Acks Own Num Val)=Val:=rfl
@[simp] theorem Msg.setKind_eq (x:Msg) (v:Int):Msg.setKind x v=Msg.mk v (Msg.From x) (Msg.To x) (Msg.Line x) (Msg.For x) (Msg.Acks x) (Msg.Own x) (Msg.Num x) (Msg.Val x):=rfl
@[simp] theorem Msg.setFor_eq (x:Msg) (v:Int):Msg.setFor x v=Msg.mk (Msg.Kind x) (Msg.From x) (Msg.To x) (Msg.Line x) v (Msg.Acks x) (Msg.Own x) (Msg.Num x) (Msg.Val x):=rfl
@[simp] theorem Msg.setVal_eq (x:Msg) (v:Int):Msg.setVal x v=Msg.mk (Msg.Kind x) (Msg.From x) (Msg.To x) (Msg.Line x) (Msg.For x) (Msg.Acks x) (Msg.Own x) (Msg.Num x) v:=rfl
@[simp] theorem Msg.eta (x:Msg):Msg.mk (Msg.Kind x) (Msg.From x) (Msg.To x) (Msg.Line x) (Msg.For x) (Msg.Acks x) (Msg.Own x) (Msg.Num x) (Msg.Val x)=x:=rfl
abbrev zuX:List Ty:=[.int .u8,.int .u8,.int .u8,.int .u8,.bool,.int .u32]
abbrev zjo:Ty:=.st zuX
abbrev l10_Act:Type:=Int×Int×Int×Int×Bool×Int
def l10_Act.mk (Kind:Int) (N:Int) (Line:Int) (At:Int) (Write:Bool) (Val:Int):l10_Act:=(Kind,N,Line,At,Write,Val)
def l10_Act.Kind (x:l10_Act):Int:=x.1
def l10_Act.N (x:l10_Act):Int:=x.2.1
def l10_Act.Line (x:l10_Act):Int:=x.2.2.1
def l10_Act.At (x:l10_Act):Int:=x.2.2.2.1
def l10_Act.Write (x:l10_Act):Bool:=x.2.2.2.2.1
def l10_Act.Val (x:l10_Act):Int:=x.2.2.2.2.2
@[simp] theorem l10_Act.Kind_mk (Kind:Int) (N:Int) (Line:Int) (At:Int) (Write:Bool) (Val:Int):l10_Act.Kind (l10_Act.mk Kind N Line At Write Val)=Kind:=rfl
@[simp] theorem l10_Act.N_mk (Kind:Int) (N:Int) (Line:Int) (At:Int) (Write:Bool) (Val:Int):l10_Act.N (l10_Act.mk Kind N Line At Write Val)=N:=rfl
@[simp] theorem l10_Act.Line_mk (Kind:Int) (N:Int) (Line:Int) (At:Int) (Write:Bool) (Val:Int):l10_Act.Line (l10_Act.mk Kind N Line At Write Val)=Line:=rfl
@[simp] theorem l10_Act.At_mk (Kind:Int) (N:Int) (Line:Int) (At:Int) (Write:Bool) (Val:Int):l10_Act.At (l10_Act.mk Kind N Line At Write Val)=At:=rfl
@[simp] theorem l10_Act.Write_mk (Kind:Int) (N:Int) (Line:Int) (At:Int) (Write:Bool) (Val:Int):l10_Act.Write (l10_Act.mk Kind N Line At Write Val)=Write:=rfl
@[simp] theorem l10_Act.Val_mk (Kind:Int) (N:Int) (Line:Int) (At:Int) (Write:Bool) (Val:Int):l10_Act.Val (l10_Act.mk Kind N Line At Write Val)=Val:=rfl
@[simp] theorem l10_Act.eta (x:l10_Act):l10_Act.mk (l10_Act.Kind x) (l10_Act.N x) (l10_Act.Line x) (l10_Act.At x) (l10_Act.Write x) (l10_Act.Val x)=x:=rfl
abbrev zwu:List Ty:=[.int .u8,.int .u8,.int .u8,.int .u32]
abbrev zrk:Ty:=.st zwu
abbrev zbT:List Ty:=[.int .i64,.sl .bool]
abbrev zaE:Ty:=.st zbT
abbrev Entry:Type:=Int×(List Bool)
def Entry.mk (Owner:Int) (Share:List Bool):Entry:=(Owner,Share)
def Entry.Owner (x:Entry):Int:=x.1
def Entry.Share (x:Entry):List Bool:=x.2
@[simp] theorem Entry.Owner_mk (Owner:Int) (Share:List Bool):Entry.Owner (Entry.mk Owner Share)=Owner:=rfl
@[simp] theorem Entry.Share_mk (Owner:Int) (Share:List Bool):Entry.Share (Entry.mk Owner Share)=Share:=rfl
@[simp] theorem Entry.eta (x:Entry):Entry.mk (Entry.Owner x) (Entry.Share x)=x:=rfl
abbrev zxQ:List Ty:=[.sl (.sl (.int .u32)),.sl (.int .u32),.int .i64]
abbrev zuE:Ty:=.st zxQ
abbrev zch:List Ty:=[.sl (.sl (.int .u8))]
abbrev zaS:Ty:=.st zch
abbrev Pool:Type:=List (List Int)
def Pool.mk (Frames:List (List Int)):Pool:=Frames
def Pool.Frames (x:Pool):List (List Int):=x
@[simp] theorem Pool.Frames_mk (Frames:List (List Int)):Pool.Frames (Pool.mk Frames)=Frames:=rfl
@[simp] theorem Pool.eta (x:Pool):Pool.mk (Pool.Frames x)=x:=rfl
abbrev zzc:List Ty:=[.sl (.int .u32),.int .i64,.sl zuf]
abbrev zBg:Ty:=.st zzc
abbrev zxw:List Ty:=[zuE,.int .i64,.int .i64,.sl zuf]
abbrev zwH:Ty:=.st zxw
abbrev zbD:List Ty:=[.sl (.sl (.int .i64)),.sl (.sl (.int .u32)),.sl zck,.sl (.int .u32),.sl zaE,.sl (.int .i64),zaS]
abbrev zaD:Ty:=.st zbD
abbrev Proto:Type:=(List (List Int))×(List (List Int))×(List Ytlgjbfdojbmmgaa.Wait)×(List Int)×(List Ytlgjbfdojbmmgaa.Entry)×(List Int)×Ytlgjbfdojbmmgaa.Pool
def Proto.mk (State:List (List Int)) (Val:List (List Int)) (Wait:List Ytlgjbfdojbmmgaa.Wait) (Home:List Int) (Dir:List Ytlgjbfdojbmmgaa.Entry) (Busy:List Int) (Pool:Ytlgjbfdojbmmgaa.Pool):Proto:=(State,Val,Wait,Home,Dir,Busy,Pool)
def Proto.State (x:Proto):List (List Int):=x.1
def Proto.Val (x:Proto):List (List Int):=x.2.1
def Proto.Wait (x:Proto):List Ytlgjbfdojbmmgaa.Wait:=x.2.2.1
def Proto.Home (x:Proto):List Int:=x.2.2.2.1
def Proto.Dir (x:Proto):List Ytlgjbfdojbmmgaa.Entry:=x.2.2.2.2.1
def Proto.Busy (x:Proto):List Int:=x.2.2.2.2.2.1
def Proto.Pool (x:Proto):Ytlgjbfdojbmmgaa.Pool:=x.2.2.2.2.2.2
@[simp] theorem Proto.State_mk (State:List (List Int)) (Val:List (List Int)) (Wait:List Ytlgjbfdojbmmgaa.Wait) (Home:List Int) (Dir:List Ytlgjbfdojbmmgaa.Entry) (Busy:List Int) (Pool:Ytlgjbfdojbmmgaa.Pool):Proto.State (Proto.mk State Val Wait Home Dir Busy Pool)=State:=rfl
@[simp] theorem Proto.Val_mk (State:List (List Int)) (Val:List (List Int)) (Wait:List Ytlgjbfdojbmmgaa.Wait) (Home:List Int) (Dir:List Ytlgjbfdojbmmgaa.Entry) (Busy:List Int) (Pool:Ytlgjbfdojbmmgaa.Pool):Proto.Val (Proto.mk State Val Wait Home Dir Busy Pool)=Val:=rfl
@[simp] theorem Proto.Wait_mk (State:List (List Int)) (Val:List (List Int)) (Wait:List Ytlgjbfdojbmmgaa.Wait) (Home:List Int) (Dir:List Ytlgjbfdojbmmgaa.Entry) (Busy:List Int) (Pool:Ytlgjbfdojbmmgaa.Pool):Proto.Wait (Proto.mk State Val Wait Home Dir Busy Pool)=Wait:=rfl
@[simp] theorem Proto.Home_mk (State:List (List Int)) (Val:List (List Int)) (Wait:List Ytlgjbfdojbmmgaa.Wait) (Home:List Int) (Dir:List Ytlgjbfdojbmmgaa.Entry) (Busy:List Int) (Pool:Ytlgjbfdojbmmgaa.Pool):Proto.Home (Proto.mk State Val Wait Home Dir Busy Pool)=Home:=rfl
@[simp] theorem Proto.Dir_mk (State:List (List Int)) (Val:List (List Int)) (Wait:List Ytlgjbfdojbmmgaa.Wait) (Home:List Int) (Dir:List Ytlgjbfdojbmmgaa.Entry) (Busy:List Int) (Pool:Ytlgjbfdojbmmgaa.Pool):Proto.Dir (Proto.mk State Val Wait Home Dir Busy Pool)=Dir:=rfl
@[simp] theorem Proto.Busy_mk (State:List (List Int)) (Val:List (List Int)) (Wait:List Ytlgjbfdojbmmgaa.Wait) (Home:List Int) (Dir:List Ytlgjbfdojbmmgaa.Entry) (Busy:List Int) (Pool:Ytlgjbfdojbmmgaa.Pool):Proto.Busy (Proto.mk State Val Wait Home Dir Busy Pool)=Busy:=rfl
@[simp] theorem Proto.Pool_mk (State:List (List Int)) (Val:List (List Int)) (Wait:List Ytlgjbfdojbmmgaa.Wait) (Home:List Int) (Dir:List Ytlgjbfdojbmmgaa.Entry) (Busy:List Int) (Pool:Ytlgjbfdojbmmgaa.Pool):Proto.Pool (Proto.mk State Val Wait Home Dir Busy Pool)=Pool:=rfl
@[simp] theorem Proto.eta (x:Proto):Proto.mk (Proto.State x) (Proto.Val x) (Proto.Wait x) (Proto.Home x) (Proto.Dir x) (Proto.Busy x) (Proto.Pool x)=x:=rfl
abbrev znf:List Ty:=[zaD]
abbrev ziL:Ty:=.st znf
def tys:List Ty:=[.no,.no,.int .i64,.int .i64,.bool,.int .u8,.int .u8,zdv,zdv,.str,.str,.str,.int .u64,zbH,zbH,.no,.no,.no,.no,.no,.no,.int .i32,.sl (.sl (.int .u32)),.sl (.int .u32),zuE,zuE,.sl zuf,zwH,zwH,.int .u32,.no,.no,.int .i64,.no,.no,.no,.no,.no,.no,.no,.no,.no,.no,.no,.no,.no,.no,.no,.no,.no,.no,.no,.no,.no,.sl zrk,zrk,zrk,.no,zBg,zBg,.no,.no,.no,.no,.no,zuf,zuf,.sl zjo,.sl (.sl (.int .i64)),.sl zck,.sl zaE,.sl (.int .i64),.sl (.sl (.int .u8)),zaS,zaS,zaD,zaD,.no,.no,.no,zjo,zjo,.no,.no,.no,.no,.no,.no,.no,.no,.sl .bool,zaE,zaE,.no,.no,.no,.no,.no,.no,.no,.no,.no,.no,.no,.no,.no,.no,.no,.no,.no,.no,.no,.no,.no,.no,.no,.no,.no,.no,.no,.no,.no,.no,.no,.no,.no,.no,.no,.no,.no,.no,.no,.no,zck,zck,.no,.no,ziL,ziL,.no,.no,.no,.no,zAc,zAc,.no,.no,.no,.no,.no,.no,.no,.no,.no,.no,.no,.no,.no,.no,.no,.no,.no,.no,.no,.no,znI,znI,.no,.no,.arr 2 (.int .i64),.no,.no,.no,.no,.no,.no,.no,.no,.no,.no,.no,.no,.sl (.int .u8),.no,.no,.no,.no,.no,.no,.no,.no,.no,.no,.no,.no,.no,.no,.no,.no,.no,.no,.no,.no,.no,.no,.no,.no,.no,.no,.no,.no,.no,.no,.no,.no,.no,.no,.arr 4 (.int .u8),.int .u64,.no,.no,.no,.no,.no,.no,.no,.no,.no,.no,.no,.no,.no,.no,.int .u8,.int .u8,.no,.no,.int .i32,.int .i32,.no,.no,.no]
def cx:Cx:={ P:=Try.prog,ty:=tys,own:=[],inl:=[53,68,84,92,107,108,120,126,127,128,129,130,131,153,156,157,166,174,175,178,180,183],keepL:=[],absL:=[53,68,84,92,119,120,126,127,131,156,162,166,173],lendL:=[79],freshL:=[119],owL:=[],heads:=[(9,[(14,32672257982893759041491464565911413850820,⟨16,0,zlA 136 0 [(2,.d (.sl zjo) (.v 2)),(6,.d .bool (.c (.bool false))),(7,.p zaD zaD 0 []),(9,.d (.int .i64) (.v 14))],[.box zaD (.d zaD (.v 15))]⟩),
 (15,32672257982893759041491464565808334643392,⟨17,0,zlA 136 0 [(6,.d .bool (.c (.bool false))),(7,.p zaD zaD 0 []),(13,.d (.int .i64) (.v 15))],[.box zaD (.d zaD (.v 16))]⟩)]),
 (159,[(2,908,⟨4,0,zlA 31 0 [(2,.d (.int .u32) (.c (.int .u32 0))),(3,.d (.int .u32) (.v 2)),(7,.d (.sl (.int .u8)) (.v 0)),(8,.d (.int .i64) (.v 1)),(9,.d (.int .i64) (.v 3))],[]⟩),
 (8,131980,⟨10,0,zlA 31 0 [(2,.d (.int .u32) (.c (.int .u32 0))),(3,.d (.int .u32) (.v 8)),(7,.d (.sl (.int .u8)) (.v 0)),(8,.d (.int .i64) (.v 1)),(9,.d (.int .i64) (.v 3)),(17,.d (.int .i64) (.v 9))],[]⟩)])] }
theorem zBo:TysOk cx:=zvA (by kernel_rfl)
theorem mixed:Try.prog.follows .mixedOrders=true:=by kernel_rfl
def noC:FuncId→List D→Option (List D):=fun _ _=>none
theorem zyF:CallsOk cx noC:=fun _ _ _ _ _ _ _ h=>by cases h
theorem zv2 {f:FuncId}{ds rs:List D}(k d:Nat) (h:zdq cx k 12 noC d f ds=some rs):ztq cx 12 noC f ds=some rs:=(ze4 cx 12 noC).2 ⟨k,d,h⟩
def zjg (p0:Int):Option (Entry×Int) :=
 if (decide (p0<(1:Int)))||(decide ((4:Int)<p0)) then
 some (((Entry.mk (0:Int) ([]:List Bool)),(1:Int)))
 else
 (zAf false 1 p0 p0).bind fun v2=>some ((Entry.mk (0:Int) v2,(0:Int)))
def zhV:FnT:=⟨[.int .i64],[zaE,.int .i64],fun x=>zjg x⟩
def zio:TA :=
 .subp [.bool] (.prim (.bin .lss) [.v 0,.c (.int .i64 1)]<|.ite (.v 1) (.jmp 0 false [.c (.bool true)]) (.prim (.bin .gtr) [.v 0,.c (.int .i64 4)]<|.jmp 0 false [.v 2])) 1<|.ite (.v 1) (.jmp 0 false [.c (.agg [(.int .i64 0),.nil]),.c (.int .i64 1)]) (.primH (.rep (.bool false) 1) (.sl .bool) [.v 0,.v 0]<|.mkS zbT [.c (.int .i64 0),.v 2]<|.jmp 0 false [.v 3,.c (.int .i64 0)])
theorem zlP:zaj cx 12 89=some zio.erase:=by kernel_rfl
theorem zrL:zzK cx 12 noC 89 zhV:=zbb (t:=zio) zlP (fun _=>rfl) (zaQ [] (by kernel_rfl) .nil) (fun x=>by kernel_rfl)
def ze8 (p0:Proto) (p1:Int) (p2:Int) (p3:Bool):Option Bool :=
 (zzG (Proto.State p0) p1).bind fun v5=>(zzG v5 p2).bind fun v6=>(zzG (Proto.Wait p0) p1).bind fun v8=>if decide ((Wait.Line v8)=(w64 (p2 + (1:Int)))) then
 some (false)
 else
 if p3 then
 some (((decide (v6=(2:Int)))||(decide (v6=(3:Int)))))
 else
 some ((!decide (v6=(0:Int))))
def zb9:FnT:=⟨[zaD,.int .i64,.int .i64,.bool],[.bool],fun x=>ze8 x.1 x.2.1 x.2.2.1 x.2.2.2⟩
def zh6:TA :=
 .prim (.fld 0) [.v 0]<|.prim .get [.v 4,.v 1]<|.prim .get [.v 5,.v 2]<|.prim (.fld 2) [.v 0]<|.prim .get [.v 7,.v 1]<|.prim (.fld 0) [.v 8]<|.prim (.bin .add) [.v 2,.c (.int .i64 1)]<|.prim (.bin .eql) [.v 9,.v 10]<|.ite (.v 11) (.jmp 0 false [.c (.bool false)]) (.ite (.v 3) (.subp [.bool] (.prim (.bin .eql) [.v 6,.c (.int .i64 2)]<|.ite (.v 12) (.jmp 0 false [.c (.bool true)]) (.prim (.bin .eql) [.v 6,.c (.int .i64 3)]<|.jmp 0 false [.v 13])) 1<|.jmp 0 false [.v 12]) (.prim (.bin .neq) [.v 6,.c (.int .i64 0)]<|.jmp 0 false [.v 12]))
theorem zme:zaj cx 12 91=some zh6.erase:=by kernel_rfl
theorem zic:zzK cx 12 noC 91 zb9:=zbb (t:=zh6) zme (fun _=>rfl) (zaQ [] (by kernel_rfl) .nil) (fun x=>by kernel_rfl)
def zcz (p0:Proto) (p1:Msg):Bool :=
 let v3:Int:=(List.length (Proto.Wait p0):Int)
 (decide ((Msg.Line p1)<(List.length (Proto.Home p0):Int)))&&((decide ((Msg.From p1)≤v3))&&((decide ((Msg.To p1)≤v3))&&(decide ((Msg.For p1)≤v3))))
def zgo:PnT:=⟨[zaD,zAc],[.bool],fun x=>zcz x.1 x.2⟩
def zgd:TA :=
 .prim (.fld 2) [.v 0]<|.prim .len [.v 2]<|.subp [.bool] (.prim (.fld 3) [.v 1]<|.prim (.fld 3) [.v 0]<|.prim .len [.v 5]<|.prim (.bin .lss) [.v 4,.v 6]<|.ite (.v 7) (.prim (.fld 1) [.v 1]<|.prim (.bin .leq) [.v 8,.v 3]<|.ite (.v 9) (.prim (.fld 2) [.v 1]<|.prim (.bin .leq) [.v 10,.v 3]<|.ite (.v 11) (.prim (.fld 4) [.v 1]<|.prim (.bin .leq) [.v 12,.v 3]<|.jmp 0 false [.v 13]) (.jmp 0 false [.c (.bool false)])) (.jmp 0 false [.c (.bool false)])) (.jmp 0 false [.c (.bool false)])) 1<|.jmp 0 false [.v 4]
theorem zkl:zaj cx 12 100=some zgd.erase:=by kernel_rfl
theorem zp9:zzK cx 12 noC 100 zgo.fn:=zoc (t:=zgd) zkl (fun _=>rfl) (zaQ [] (by kernel_rfl) .nil) (fun x=>by kernel_rfl)
def zgT (p0:Wait):Bool :=
 decide ((0:Int)<(Wait.Line p0))
def zeD:PnT:=⟨[zck],[.bool],fun x=>zgT x⟩
def zeA:TA :=
 .prim (.fld 0) [.v 0]<|.prim (.bin .gtr) [.v 1,.c (.int .i64 0)]<|.jmp 0 false [.v 2]
theorem zhG:zaj cx 12 104=some zeA.erase:=by kernel_rfl
theorem zmT:zzK cx 12 noC 104 zeD.fn:=zoc (t:=zeA) zhG (fun _=>rfl) (zaQ [] (by kernel_rfl) .nil) (fun x=>by kernel_rfl)
def zgm (p0:Int):Bool :=
 decide ((0:Int)<p0)
def zeE:PnT:=⟨[.int .i64],[.bool],fun x=>zgm x⟩
def zeG:TA :=
 .prim (.bin .gtr) [.v 0,.c (.int .i64 0)]<|.jmp 0 false [.v 1]
theorem zht:zaj cx 12 106=some zeG.erase:=by kernel_rfl
theorem zna:zzK cx 12 noC 106 zeE.fn:=zoc (t:=zeG) zht (fun _=>rfl) (zaQ [] (by kernel_rfl) .nil) (fun x=>by kernel_rfl)
def zaz (p0:Int) (p1:Int):Bool :=
 (decide ((0:Int)≤p0))&&(decide (p0<p1))
def zan:PnT:=⟨[.int .i64,.int .i64],[.bool],fun x=>zaz x.1 x.2⟩
def zeF:TA :=
 .subp [.bool] (.prim (.bin .geq) [.v 0,.c (.int .i64 0)]<|.ite (.v 2) (.prim (.bin .lss) [.v 0,.v 1]<|.jmp 0 false [.v 3]) (.jmp 0 false [.c (.bool false)])) 1<|.jmp 0 false [.v 2]
theorem zhE:zaj cx 12 123=some zeF.erase:=by kernel_rfl
theorem zbe:zzK cx 12 noC 123 zan.fn:=zoc (t:=zeF) zhE (fun _=>rfl) (zaQ [] (by kernel_rfl) .nil) (fun x=>by kernel_rfl)
def ze3 (p0:Entry) (p1:Int):Option Bool :=
 if (decide (p1<(1:Int)))||((decide ((4:Int)<p1))||((!decide ((List.length (Entry.Share p0):Int)=p1))||((decide ((Entry.Owner p0)<(0:Int)))||(decide (p1<(Entry.Owner p0)))))) then
 some (false)
 else
 (if decide ((Entry.Owner p0)=(0:Int)) then
 some (true)
 else
 (zzG (Entry.Share p0) (w64 ((Entry.Owner p0) - (1:Int)))).bind fun v8=>some ((!v8)):Option Bool).bind fun v3=>some (v3)
def zcb:FnT:=⟨[zaE,.int .i64],[.bool],fun x=>ze3 x.1 x.2⟩
def zia:TA :=
 .subp [.bool] (.prim (.bin .lss) [.v 1,.c (.int .i64 1)]<|.ite (.v 2) (.jmp 0 false [.c (.bool true)]) (.prim (.bin .gtr) [.v 1,.c (.int .i64 4)]<|.ite (.v 3) (.jmp 0 false [.c (.bool true)]) (.prim (.fld 1) [.v 0]<|.prim .len [.v 4]<|.prim (.bin .neq) [.v 5,.v 1]<|.ite (.v 6) (.jmp 0 false [.c (.bool true)]) (.prim (.fld 0) [.v 0]<|.prim (.bin .lss) [.v 7,.c (.int .i64 0)]<|.ite (.v 8) (.jmp 0 false [.c (.bool true)]) (.prim (.fld 0) [.v 0]<|.prim (.bin .gtr) [.v 9,.v 1]<|.jmp 0 false [.v 10]))))) 1<|.ite (.v 2) (.jmp 0 false [.c (.bool false)]) (.sub0 [.bool] (.prim (.fld 0) [.v 0]<|.prim (.bin .eql) [.v 3,.c (.int .i64 0)]<|.ite (.v 4) (.jmp 0 false [.c (.bool true)]) (.prim (.fld 1) [.v 0]<|.prim (.fld 0) [.v 0]<|.prim (.bin .sub) [.v 6,.c (.int .i64 1)]<|.prim .get [.v 5,.v 7]<|.prim (.un .not) [.v 8]<|.jmp 0 false [.v 9])) 1<|.jmp 0 false [.v 3])
theorem zk8:zaj cx 12 125=some zia.erase:=by kernel_rfl
theorem zh1:zzK cx 12 noC 125 zcb:=zbb (t:=zia) zk8 (fun _=>rfl) (zaQ [] (by kernel_rfl) .nil) (fun x=>by kernel_rfl)
def zg9 (p0:Proto) (p1:Int) (p2:Int):Option Bool :=
 (zzG (Proto.Dir p0) p2).bind fun v4=>(zzG (Proto.State p0) p1).bind fun v6=>(zzG v6 p2).bind fun v7=>(zzG (Proto.Home p0) p2).bind fun v9=>(zzG (Proto.Val p0) p1).bind fun v11=>(zzG v11 p2).bind fun v12=>let v13:Bool:=decide (v9=v12)
 if decide (v7=(0:Int)) then
 some ((!decide ((Entry.Owner v4)=(w64 (p1 + (1:Int))))))
 else
 if decide (v7=(1:Int)) then
 (if !decide ((Entry.Owner v4)=(w64 (p1 + (1:Int)))) then
 (zzG (Entry.Share v4) p1).bind fun v20=>if v20 then
 if decide ((0:Int)<(Entry.Owner v4)) then
 some (true)
 else
 some (v13)
 else
 some (false)
 else
 some (false):Option Bool).bind fun v16=>some (v16)
 else
 if decide (v7=(2:Int)) then
 some (((decide ((Entry.Owner v4)=(w64 (p1 + (1:Int)))))&&v13))
 else
 some ((decide ((Entry.Owner v4)=(w64 (p1 + (1:Int))))))
def zgK:FnT:=⟨[zaD,.int .i64,.int .i64],[.bool],fun x=>zg9 x.1 x.2.1 x.2.2⟩
def zgU:TA :=
 .prim (.fld 4) [.v 0]<|.prim .get [.v 3,.v 2]<|.prim (.fld 0) [.v 0]<|.prim .get [.v 5,.v 1]<|.prim .get [.v 6,.v 2]<|.prim (.fld 3) [.v 0]<|.prim .get [.v 8,.v 2]<|.prim (.fld 1) [.v 0]<|.prim .get [.v 10,.v 1]<|.prim .get [.v 11,.v 2]<|.prim (.bin .eql) [.v 9,.v 12]<|.prim (.bin .eql) [.v 7,.c (.int .i64 0)]<|.ite (.v 14) (.prim (.fld 0) [.v 4]<|.prim (.bin .add) [.v 1,.c (.int .i64 1)]<|.prim (.bin .neq) [.v 15,.v 16]<|.jmp 0 false [.v 17]) (.prim (.bin .eql) [.v 7,.c (.int .i64 1)]<|.ite (.v 15) (.sub0 [.bool] (.prim (.fld 0) [.v 4]<|.prim (.bin .add) [.v 1,.c (.int .i64 1)]<|.prim (.bin .neq) [.v 16,.v 17]<|.ite (.v 18) (.prim (.fld 1) [.v 4]<|.prim .get [.v 19,.v 1]<|.ite (.v 20) (.prim (.fld 0) [.v 4]<|.prim (.bin .gtr) [.v 21,.c (.int .i64 0)]<|.ite (.v 22) (.jmp 0 false [.c (.bool true)]) (.jmp 0 false [.v 13])) (.jmp 0 false [.c (.bool false)])) (.jmp 0 false [.c (.bool false)])) 1<|.jmp 0 false [.v 16]) (.prim (.bin .eql) [.v 7,.c (.int .i64 2)]<|.ite (.v 16) (.subp [.bool] (.prim (.fld 0) [.v 4]<|.prim (.bin .add) [.v 1,.c (.int .i64 1)]<|.prim (.bin .eql) [.v 17,.v 18]<|.ite (.v 19) (.jmp 0 false [.v 13]) (.jmp 0 false [.c (.bool false)])) 1<|.jmp 0 false [.v 17]) (.prim (.fld 0) [.v 4]<|.prim (.bin .add) [.v 1,.c (.int .i64 1)]<|.prim (.bin .eql) [.v 17,.v 18]<|.jmp 0 false [.v 19])))
theorem zkC:zaj cx 12 136=some zgU.erase:=by kernel_rfl
theorem zpq:zzK cx 12 noC 136 zgK:=zbb (t:=zgU) zkC (fun _=>rfl) (zaQ [] (by kernel_rfl) .nil) (fun x=>by kernel_rfl)
def zcN (p0:Int):Bool :=
 decide ((2:Int)≤p0)
def zc1:PnT:=⟨[.int .i64],[.bool],fun x=>zcN x⟩
def zf8:TA :=
 .prim (.bin .geq) [.v 0,.c (.int .i64 2)]<|.jmp 0 false [.v 1]
theorem zkg:zaj cx 12 141=some zf8.erase:=by kernel_rfl
theorem zkm:zzK cx 12 noC 141 zc1.fn:=zoc (t:=zf8) zkg (fun _=>rfl) (zaQ [] (by kernel_rfl) .nil) (fun x=>by kernel_rfl)
def zbg (x0:List (List Int)) (x2:Int) (x5:Int) (s:Int):Option (Int⊕Unit⊕Int) :=
 if decide (s<x5) then
 (zzG x0 s).bind fun v8=>if !decide ((v8.length:Int)=x2) then
 some (Sum.inr (Sum.inr (s)))
 else
 some (Sum.inl (w64 (s + (1:Int))))
 else
 some (Sum.inr (Sum.inl ()))
def zcT (p0:List (List Int)) (p1:Int) (p2:Int):Option Bool :=
 (if decide ((p0.length:Int)=p1) then
 ((let v5:Int:=(p0.length:Int)
 zbv (zae (zbg p0 p2 v5) (0:Int):Option (Unit⊕Int)) fun v6=>some ((-1:Int)):Option Int).bind fun v5=>some ((decide ((0:Int)≤v5))):Option Bool).bind fun v5=>some ((!v5))
 else
 some (false):Option Bool).bind fun v3=>some (v3)
def zdu:FnT:=⟨[.sl (.sl (.int .i64)),.int .i64,.int .i64],[.bool],fun x=>zcT x.1 x.2.1 x.2.2⟩
def zdp:TA :=
 .sub0 [.bool] (.prim .len [.v 0]<|.prim (.bin .eql) [.v 3,.v 1]<|.ite (.v 4) (.sub0 [.bool] (.sub0 [.int .i64] (.prim .len [.v 0]<|.sub1 [] (.loop [.int .i64] [.c (.int .i64 0)] (.prim (.bin .lss) [.v 6,.v 5]<|.ite (.v 7) (.prim .get [.v 0,.v 6]<|.subp [.bool] (.prim .len [.v 8]<|.prim (.bin .neq) [.v 9,.v 2]<|.jmp 0 false [.v 10]) 1<|.ite (.v 9) (.jmp 2 false [.v 6]) (.prim (.bin .add) [.v 6,.c (.int .i64 1)]<|.jmp 0 true [.v 10])) (.jmp 1 false []))) 0<|.jmp 0 false [.c (.int .i64 (-1))]) 1<|.prim (.bin .geq) [.v 5,.c (.int .i64 0)]<|.jmp 0 false [.v 6]) 1<|.prim (.un .not) [.v 5]<|.jmp 0 false [.v 6]) (.jmp 0 false [.c (.bool false)])) 1<|.jmp 0 false [.v 3]
theorem zf3:zaj cx 12 149=some zdp.erase:=by kernel_rfl
theorem zkM:zzK cx 12 noC 149 zdu:=zbb (t:=zdp) zf3 (fun _=>rfl) (zaQ [] (by kernel_rfl) .nil) (fun x=>by kernel_rfl)
def zcL (p0:List (List Int)) (p1:Int) (p2:Int):Option Bool :=
 (if decide ((p0.length:Int)=p1) then
 ((let v5:Int:=(p0.length:Int)
 zbv (zae (zbg p0 p2 v5) (0:Int):Option (Unit⊕Int)) fun v6=>some ((-1:Int)):Option Int).bind fun v5=>some ((decide ((0:Int)≤v5))):Option Bool).bind fun v5=>some ((!v5))
 else
 some (false):Option Bool).bind fun v3=>some (v3)
def zb6:FnT:=⟨[.sl (.sl (.int .u32)),.int .i64,.int .i64],[.bool],fun x=>zcL x.1 x.2.1 x.2.2⟩
def zce:TA :=
 .sub0 [.bool] (.prim .len [.v 0]<|.prim (.bin .eql) [.v 3,.v 1]<|.ite (.v 4) (.sub0 [.bool] (.sub0 [.int .i64] (.prim .len [.v 0]<|.sub1 [] (.loop [.int .i64] [.c (.int .i64 0)] (.prim (.bin .lss) [.v 6,.v 5]<|.ite (.v 7) (.prim .get [.v 0,.v 6]<|.subp [.bool] (.prim .len [.v 8]<|.prim (.bin .neq) [.v 9,.v 2]<|.jmp 0 false [.v 10]) 1<|.ite (.v 9) (.jmp 2 false [.v 6]) (.prim (.bin .add) [.v 6,.c (.int .i64 1)]<|.jmp 0 true [.v 10])) (.jmp 1 false []))) 0<|.jmp 0 false [.c (.int .i64 (-1))]) 1<|.prim (.bin .geq) [.v 5,.c (.int .i64 0)]<|.jmp 0 false [.v 6]) 1<|.prim (.un .not) [.v 5]<|.jmp 0 false [.v 6]) (.jmp 0 false [.c (.bool false)])) 1<|.jmp 0 false [.v 3]
theorem zd6:zaj cx 12 150=some zce.erase:=by kernel_rfl
theorem ziC:zzK cx 12 noC 150 zb6:=zbb (t:=zce) zd6 (fun _=>rfl) (zaQ [] (by kernel_rfl) .nil) (fun x=>by kernel_rfl)
def zgu (p0:List Int):Bool :=
 !decide ((p0.length:Int)=(19:Int))
def zeB:PnT:=⟨[.sl (.int .u8)],[.bool],fun x=>zgu x⟩
def zew:TA :=
 .prim .len [.v 0]<|.prim (.bin .neq) [.v 1,.c (.int .i64 19)]<|.jmp 0 false [.v 2]
theorem zhs:zaj cx 12 152=some zew.erase:=by kernel_rfl
theorem zm1:zzK cx 12 noC 152 zeB.fn:=zoc (t:=zew) zhs (fun _=>rfl) (zaQ [] (by kernel_rfl) .nil) (fun x=>by kernel_rfl)
def zdH (x1:List Int) (s:(Int×Int)):Option ((Int×Int)⊕Int) :=
 if decide (s.2<(4:Int)) then
 (zzG x1 s.2).bind fun v5=>(zAX .u32 s.1 (8:Int)).bind fun v6=>some (Sum.inl (bOr .u32 v6 (zAO v5),w64 (s.2 + (1:Int))))
 else
 some (Sum.inr (s.1))
def zfB (p0:List Int):Option Int :=
 let v1:List Int:=zAP ([(0:Int),(0:Int),(0:Int),(0:Int)]:List Int) p0
 (zae (zdH v1) ((0:Int),(0:Int)):Option Int).bind fun v2=>some (v2)
def zdS:FnT:=⟨[.sl (.int .u8)],[.int .u32],fun x=>zfB x⟩
def zlH:TA :=
 .primH .cpy (.arr 4 (.int .u8)) [.c (.agg [(.int .u8 0),(.int .u8 0),(.int .u8 0),(.int .u8 0)]),.v 0]<|.sub0 [.int .u32] (.loop [.int .u32,.int .i64] [.c (.int .u32 0),.c (.int .i64 0)] (.prim (.bin .lss) [.v 3,.c (.int .i64 4)]<|.ite (.v 4) (.prim .get [.v 1,.v 3]<|.prim (.bin .shl) [.v 2,.c (.int .u64 8)]<|.prim (.conv .u32) [.v 5]<|.prim (.bin .or) [.v 6,.v 7]<|.prim (.bin .add) [.v 3,.c (.int .i64 1)]<|.jmp 0 true [.v 8,.v 9]) (.jmp 1 false [.v 2]))) 1<|.jmp 0 false [.v 2]
theorem zqH:zaj cx 12 158=some zlH.erase:=by kernel_rfl
theorem zlU:zzK cx 12 noC 158 zdS:=zbb (t:=zlH) zqH (fun _=>rfl) (zaQ [] (by kernel_rfl) .nil) (fun x=>by kernel_rfl)
def zc8 (s:(Int×Int)):Option ((Int×Int)⊕Int) :=
 if decide (s.2<(8:Int)) then
 (zAm .u32 s.1 (1:Int)).bind fun v13=>some (Sum.inl (bif decide ((zAT .u32 s.1 (1:Int))=(1:Int)) then zAB .u32 v13 (3988292384:Int) else v13,w64 (s.2 + (1:Int))))
 else
 some (Sum.inr (s.1))
def zek (x0:List Int) (x1:Int) (s:(Int×Int)):Option ((Int×Int)⊕Int) :=
 if decide (s.2<x1) then
 (zzG x0 s.2).bind fun v5=>(zae zc8 (zAB .u32 s.1 (zAO v5),(0:Int)):Option Int).bind fun v8=>some (Sum.inl (v8,w64 (s.2 + (1:Int))))
 else
 some (Sum.inr (s.1))
def zdK (p0:List Int):Option Int :=
 let v1:Int:=(p0.length:Int)
 (zae (zek p0 v1) ((4294967295:Int),(0:Int)):Option Int).bind fun v2=>some ((zAS .u32 v2))
def zdO:FnT:=⟨[.sl (.int .u8)],[.int .u32],fun x=>zdK x⟩
def zhY:TA :=
 .prim .len [.v 0]<|.sub0 [.int .u32] (.loop [.int .u32,.int .i64] [.c (.int .u32 4294967295),.c (.int .i64 0)] (.prim (.bin .lss) [.v 3,.v 1]<|.ite (.v 4) (.prim .get [.v 0,.v 3]<|.prim (.conv .u32) [.v 5]<|.prim (.bin .xor) [.v 2,.v 6]<|.sub0 [.int .u32] (.loop [.int .u32,.int .i64] [.v 7,.c (.int .i64 0)] (.prim (.bin .lss) [.v 9,.c (.int .i64 8)]<|.ite (.v 10) (.prim (.bin .and) [.v 8,.c (.int .u32 1)]<|.prim (.bin .eql) [.v 11,.c (.int .u32 1)]<|.prim (.bin .shr) [.v 8,.c (.int .u64 1)]<|.subp [.int .u32] (.ite (.v 12) (.prim (.bin .xor) [.v 13,.c (.int .u32 3988292384)]<|.jmp 0 false [.v 14]) (.jmp 0 false [.v 13])) 1<|.prim (.bin .add) [.v 9,.c (.int .i64 1)]<|.jmp 0 true [.v 14,.v 15]) (.jmp 1 false [.v 8]))) 1<|.prim (.bin .add) [.v 3,.c (.int .i64 1)]<|.jmp 0 true [.v 8,.v 9]) (.jmp 1 false [.v 2]))) 1<|.prim (.un .xor) [.v 2]<|.jmp 0 false [.v 3]
theorem zmC:zaj cx 12 159=some zhY.erase:=by kernel_rfl
theorem zmL:zzK cx 12 noC 159 zdO:=zbb (t:=zhY) zmC (fun _=>rfl) (zaQ [] (by kernel_rfl) .nil) (fun x=>by kernel_rfl)
def bytes_Equal (p0:List Int) (p1:List Int):Option Bool :=
 (zAH p0).bind fun v2 =>
 (zAH p1).bind fun v3 =>
 some ((decide (v2=v3)))
def zfh:FnT:=⟨[.sl (.int .u8),.sl (.int .u8)],[.bool],fun x=>bytes_Equal x.1 x.2⟩
def zfZ:TA :=
 .prim .b2s [.v 0]<|.prim .b2s [.v 1]<|.prim (.bin .eql) [.v 2,.v 3]<|.jmp 0 false [.v 4]
theorem zjj:zaj cx 12 161=some zfZ.erase:=by kernel_rfl
theorem zo3:zzK cx 12 noC 161 zfh:=zbb (t:=zfZ) zjj (fun _=>rfl) (zaQ [] (by kernel_rfl) .nil) (fun x=>by kernel_rfl)
def zaa (p0:Int):Bool :=
 (decide ((0:Int)≤p0))&&(decide (p0≤(255:Int)))
def zeq:PnT:=⟨[.int .i64],[.bool],fun x=>zaa x⟩
def zez:TA :=
 .subp [.bool] (.prim (.bin .geq) [.v 0,.c (.int .i64 0)]<|.ite (.v 1) (.prim (.bin .leq) [.v 0,.c (.int .i64 255)]<|.jmp 0 false [.v 2]) (.jmp 0 false [.c (.bool false)])) 1<|.jmp 0 false [.v 1]
theorem zhF:zaj cx 12 177=some zez.erase:=by kernel_rfl
theorem zm9:zzK cx 12 noC 177 zeq.fn:=zoc (t:=zez) zhF (fun _=>rfl) (zaQ [] (by kernel_rfl) .nil) (fun x=>by kernel_rfl)
def zdI (p0:Int):Option (List Int) :=
 (zAm .u32 p0 (24:Int)).bind fun v1=>(zAm .u32 p0 (16:Int)).bind fun v3=>(zAm .u32 p0 (8:Int)).bind fun v5=>some (([wu8 v1,wu8 v3,wu8 v5,wu8 p0]:List Int))
def zbJ:FnT:=⟨[.int .u32],[.sl (.int .u8)],fun x=>zdI x⟩
def zgQ:TA :=
 .prim (.bin .shr) [.v 0,.c (.int .u64 24)]<|.prim (.conv .u8) [.v 1]<|.prim (.bin .shr) [.v 0,.c (.int .u64 16)]<|.prim (.conv .u8) [.v 3]<|.prim (.bin .shr) [.v 0,.c (.int .u64 8)]<|.prim (.conv .u8) [.v 5]<|.prim (.conv .u8) [.v 0]<|.mkL (.int .u8) [.v 2,.v 4,.v 6,.v 7]<|.jmp 0 false [.v 8]
theorem zkq:zaj cx 12 179=some zgQ.erase:=by kernel_rfl
theorem zf7:zzK cx 12 noC 179 zbJ:=zbb (t:=zgQ) zkq (fun _=>rfl) (zaQ [] (by kernel_rfl) .nil) (fun x=>by kernel_rfl)
def zad (x0:List Bool) (x1:Bool) (x2:Int) (s:Int):Option (Int⊕Unit⊕Int) :=
 if decide (s<x2) then
 (zzG x0 s).bind fun v5=>if decide (x1=v5) then
 some (Sum.inr (Sum.inr (s)))
 else
 some (Sum.inl (w64 (s + (1:Int))))
 else
 some (Sum.inr (Sum.inl ()))
def zaM (p0:List Bool) (p1:Bool):Option Int :=
 let v2:Int:=(p0.length:Int)
 zbv (zae (zad p0 p1 v2) (0:Int):Option (Unit⊕Int)) fun v3=>some ((-1:Int))
def zbk:FnT:=⟨[.sl .bool,.bool],[.int .i64],fun x=>zaM x.1 x.2⟩
def zbl:TA :=
 .prim .len [.v 0]<|.sub1 [] (.loop [.int .i64] [.c (.int .i64 0)] (.prim (.bin .lss) [.v 3,.v 2]<|.ite (.v 4) (.prim .get [.v 0,.v 3]<|.prim (.bin .eql) [.v 1,.v 5]<|.ite (.v 6) (.jmp 2 false [.v 3]) (.prim (.bin .add) [.v 3,.c (.int .i64 1)]<|.jmp 0 true [.v 7])) (.jmp 1 false []))) 0<|.jmp 0 false [.c (.int .i64 (-1))]
theorem zcj:zaj cx 12 184=some zbl.erase:=by kernel_rfl
theorem ze6:zzK cx 12 noC 184 zbk:=zbb (t:=zbl) zcj (fun _=>rfl) (zaQ [] (by kernel_rfl) .nil) (fun x=>by kernel_rfl)
def zc0 (x0:Int) (x1:Int) (s:(Int×(List Entry))):Option ((Int×(List Entry))⊕(List Entry)) :=
 if decide (s.1<x1) then
 (zjg x0).bind fun v11=>(zzN 32 s.2 ([v11.1]:List Entry)).bind fun v14=>some (Sum.inl (w64 (s.1 + (1:Int)),v14))
 else
 some (Sum.inr (s.2))
def zc2 (x0:Int) (x1:Int) (s:(Int×(List (List Int))×(List (List Int)))):Option ((Int×(List (List Int))×(List (List Int)))⊕((List (List Int))×(List (List Int)))) :=
 if decide (s.1<x0) then
 (zAf (0:Int) 8 x1 x1).bind fun v10=>(zzN 24 s.2.1 ([v10]:List (List Int))).bind fun v12=>(zAf (0:Int) 4 x1 x1).bind fun v13=>(zzN 24 s.2.2 ([v13]:List (List Int))).bind fun v15=>some (Sum.inl (w64 (s.1 + (1:Int)),v12,v15))
 else
 some (Sum.inr ((s.2.1,s.2.2)))
def zjq (p0:Int) (p1:Int):Option (Proto×Int) :=
 if (decide (p0<(1:Int)))||((decide ((4:Int)<p0))||((decide (p1<(1:Int)))||(decide ((16:Int)<p1)))) then
 some (((Proto.mk ([]:List (List Int)) ([]:List (List Int)) ([]:List Wait) ([]:List Int) ([]:List Entry) ([]:List Int) (Pool.mk ([]:List (List Int)))),(1:Int)))
 else
 (zAf (Wait.mk (0:Int) false false false false false (0:Int) (0:Int) (0:Int)) 40 p0 p0).bind fun v3=>(zAf (0:Int) 4 p1 p1).bind fun v4=>(zAf (0:Int) 8 p1 p1).bind fun v5=>(zae (zc2 p0 p1) ((0:Int),([]:List (List Int)),([]:List (List Int))):Option ((List (List Int))×(List (List Int)))).bind fun v6=>(zae (zc0 p0 p1) ((0:Int),([]:List Entry)):Option (List Entry)).bind fun v8=>some ((Proto.mk v6.1 v6.2 v3 v4 v8 v5 (Pool.mk ([]:List (List Int))),(0:Int)))
def zhX:FnT:=⟨[.int .i64,.int .i64],[zaD,.int .i64],fun x=>zjq x.1 x.2⟩
def zim:TA :=
 .subp [.bool] (.prim (.bin .lss) [.v 0,.c (.int .i64 1)]<|.ite (.v 2) (.jmp 0 false [.c (.bool true)]) (.prim (.bin .gtr) [.v 0,.c (.int .i64 4)]<|.ite (.v 3) (.jmp 0 false [.c (.bool true)]) (.prim (.bin .lss) [.v 1,.c (.int .i64 1)]<|.ite (.v 4) (.jmp 0 false [.c (.bool true)]) (.prim (.bin .gtr) [.v 1,.c (.int .i64 16)]<|.jmp 0 false [.v 5])))) 1<|.ite (.v 2) (.jmp 0 false [.c (.agg [.nil,.nil,.nil,.nil,.nil,.nil,(.agg [.nil])]),.c (.int .i64 1)]) (.primH (.rep (.agg [(.int .i64 0),(.bool false),(.bool false),(.bool false),(.bool false),(.bool false),(.int .i64 0),(.int .i64 0),(.int .u32 0)]) 40) (.sl zck) [.v 0,.v 0]<|.primH (.rep (.int .u32 0) 4) (.sl (.int .u32)) [.v 1,.v 1]<|.primH (.rep (.int .i64 0) 8) (.sl (.int .i64)) [.v 1,.v 1]<|.sub0 [.sl (.sl (.int .i64)),.sl (.sl (.int .u32))] (.loop [.int .i64,.sl (.sl (.int .i64)),.sl (.sl (.int .u32))] [.c (.int .i64 0),.c .nil,.c .nil] (.prim (.bin .lss) [.v 6,.v 0]<|.ite (.v 9) (.primH (.rep (.int .i64 0) 8) (.sl (.int .i64)) [.v 1,.v 1]<|.mkL (.sl (.int .i64)) [.v 10]<|.prim (.app 24) [.v 7,.v 11]<|.primH (.rep (.int .u32 0) 4) (.sl (.int .u32)) [.v 1,.v 1]<|.mkL (.sl (.int .u32)) [.v 13]<|.prim (.app 24) [.v 8,.v 14]<|.prim (.bin .add) [.v 6,.c (.int .i64 1)]<|.jmp 0 true [.v 16,.v 12,.v 15]) (.jmp 1 false [.v 7,.v 8]))) 2<|.sub0 [.sl zaE] (.loop [.int .i64,.sl zaE] [.c (.int .i64 0),.c .nil] (.prim (.bin .lss) [.v 8,.v 1]<|.ite (.v 10) (.call 89 zhV [.v 0] 2<|.mkL zaE [.v 11]<|.prim (.app 32) [.v 9,.v 13]<|.prim (.bin .add) [.v 8,.c (.int .i64 1)]<|.jmp 0 true [.v 15,.v 14]) (.jmp 1 false [.v 9]))) 1<|.mkS zbD [.v 6,.v 7,.v 3,.v 4,.v 8,.v 5,.c (.agg [.nil])]<|.jmp 0 false [.v 9,.c (.int .i64 0)])
theorem zl7:zaj cx 12 40=some zim.erase:=by kernel_rfl
theorem zrq:zzK cx 12 noC 40 zhX:=zbb (t:=zim) zl7 (fun _=>rfl) (zaQ [(89,zhV)] (by kernel_rfl) (.cons zrL .nil)) (fun x=>by kernel_rfl)
def zen (p0:Proto):Option Bool :=
 let v2:Int:=(List.length (Proto.Wait p0):Int)
 let v4:Int:=(List.length (Proto.Home p0):Int)
 if (decide (v2<(1:Int)))||((decide ((4:Int)<v2))||((decide (v4<(1:Int)))||(decide ((16:Int)<v4)))) then
 some (false)
 else
 ((zcT (Proto.State p0) v2 v4).bind fun v7=>if v7 then
 (zcL (Proto.Val p0) v2 v4).bind fun v9=>if v9 then
 if decide ((List.length (Proto.Dir p0):Int)=v4) then
 some ((decide ((List.length (Proto.Busy p0):Int)=v4)))
 else
 some (false)
 else
 some (false)
 else
 some (false):Option Bool).bind fun v6=>some (v6)
def zeI:FnT:=⟨[zaD],[.bool],fun x=>zen x⟩
def zes:TA :=
 .prim (.fld 2) [.v 0]<|.prim .len [.v 1]<|.prim (.fld 3) [.v 0]<|.prim .len [.v 3]<|.subp [.bool] (.prim (.bin .lss) [.v 2,.c (.int .i64 1)]<|.ite (.v 5) (.jmp 0 false [.c (.bool true)]) (.prim (.bin .gtr) [.v 2,.c (.int .i64 4)]<|.ite (.v 6) (.jmp 0 false [.c (.bool true)]) (.prim (.bin .lss) [.v 4,.c (.int .i64 1)]<|.ite (.v 7) (.jmp 0 false [.c (.bool true)]) (.prim (.bin .gtr) [.v 4,.c (.int .i64 16)]<|.jmp 0 false [.v 8])))) 1<|.ite (.v 5) (.jmp 0 false [.c (.bool false)]) (.sub0 [.bool] (.prim (.fld 0) [.v 0]<|.call 149 zdu [.v 6,.v 2,.v 4] 1<|.ite (.v 7) (.prim (.fld 1) [.v 0]<|.call 150 zb6 [.v 8,.v 2,.v 4] 1<|.ite (.v 9) (.prim (.fld 4) [.v 0]<|.prim .len [.v 10]<|.prim (.bin .eql) [.v 11,.v 4]<|.ite (.v 12) (.prim (.fld 5) [.v 0]<|.prim .len [.v 13]<|.prim (.bin .eql) [.v 14,.v 4]<|.jmp 0 false [.v 15]) (.jmp 0 false [.c (.bool false)])) (.jmp 0 false [.c (.bool false)])) (.jmp 0 false [.c (.bool false)])) 1<|.jmp 0 false [.v 6])
theorem zhx:zaj cx 12 121=some zes.erase:=by kernel_rfl
theorem zm7:zzK cx 12 noC 121 zeI:=zbb (t:=zes) zhx (fun _=>rfl) (zaQ [(149,zdu),(150,zb6)] (by kernel_rfl) (.cons zkM (.cons ziC .nil))) (fun x=>by kernel_rfl)
def zdz (x4:List (List Int)) (x5:Int) (s:Int):Option (Int⊕Unit⊕Int) :=
 if decide (s<x5) then
 (zzG x4 s).bind fun v8=>if zgu v8 then
 some (Sum.inr (Sum.inr (s)))
 else
 some (Sum.inl (w64 (s + (1:Int))))
 else
 some (Sum.inr (Sum.inl ()))
def zcK (p0:Pool):Option Bool :=
 (if decide ((List.length (Pool.Frames p0):Int)≤(64:Int)) then
 ((let v5:Int:=(List.length (Pool.Frames p0):Int)
 zbv (zae (zdz (Pool.Frames p0) v5) (0:Int):Option (Unit⊕Int)) fun v6=>some ((-1:Int)):Option Int).bind fun v5=>some ((decide ((0:Int)≤v5))):Option Bool).bind fun v5=>some ((!v5))
 else
 some (false):Option Bool).bind fun v1=>some (v1)
def za8:FnT:=⟨[zaS],[.bool],fun x=>zcK x⟩
def zgN:TA :=
 .sub0 [.bool] (.prim (.fld 0) [.v 0]<|.prim .len [.v 1]<|.prim (.bin .leq) [.v 2,.c (.int .i64 64)]<|.ite (.v 3) (.prim (.fld 0) [.v 0]<|.sub0 [.bool] (.sub0 [.int .i64] (.prim .len [.v 4]<|.sub1 [] (.loop [.int .i64] [.c (.int .i64 0)] (.prim (.bin .lss) [.v 6,.v 5]<|.ite (.v 7) (.prim .get [.v 4,.v 6]<|.callp 152 zeB [.v 8] 1<|.ite (.v 9) (.jmp 2 false [.v 6]) (.prim (.bin .add) [.v 6,.c (.int .i64 1)]<|.jmp 0 true [.v 10])) (.jmp 1 false []))) 0<|.jmp 0 false [.c (.int .i64 (-1))]) 1<|.prim (.bin .geq) [.v 5,.c (.int .i64 0)]<|.jmp 0 false [.v 6]) 1<|.prim (.un .not) [.v 5]<|.jmp 0 false [.v 6]) (.jmp 0 false [.c (.bool false)])) 1<|.jmp 0 false [.v 1]
theorem zkB:zaj cx 12 122=some zgN.erase:=by kernel_rfl
theorem zem:zzK cx 12 noC 122 za8:=zbb (t:=zgN) zkB (fun _=>rfl) (zaQ [(152,zeB.fn)] (by kernel_rfl) (.cons zm1 .nil)) (fun x=>by kernel_rfl)
def zdD (p0:Int):Bool :=
 !(zaz p0 (5:Int))
def zdX:PnT:=⟨[.int .i64],[.bool],fun x=>zdD x⟩
def zdJ:TA :=
 .callp 123 zan [.v 0,.c (.int .i64 5)] 1<|.prim (.un .not) [.v 1]<|.jmp 0 false [.v 2]
theorem zgx:zaj cx 12 124=some zdJ.erase:=by kernel_rfl
theorem zly:zzK cx 12 noC 124 zdX.fn:=zoc (t:=zdJ) zgx (fun _=>rfl) (zaQ [(123,zan.fn)] (by kernel_rfl) (.cons zbe .nil)) (fun x=>by kernel_rfl)
def zeo (x20:List (List Int)) (x25:Int) (s:(Int×Int×(List Int))):Option ((Int×Int×(List Int))⊕(Int×(List Int))) :=
 if decide (s.2.1<x25) then
 (zzH (x20.length:Int) s.2.1).bind fun v30=>(zzG x20 v30).bind fun v31=>(zoO 1 s.2.2 s.1 v31).bind fun v32=>some (Sum.inl (s.1 + (v31.length:Int),w64 (s.2.1 + (1:Int)),v32))
 else
 some (Sum.inr ((s.1,s.2.2)))
def zed (x20:List (List Int)) (x21:Int) (s:(Int×Int)):Option ((Int×Int)⊕Int) :=
 if decide (s.2<x21) then
 (zzH (x20.length:Int) s.2).bind fun v25=>(zzG x20 v25).bind fun v26=>let v28:Int:=w64 (s.1 + (v26.length:Int))
 if decide (v28<(0:Int)) then
 none
 else
 some (Sum.inl (v28,w64 (s.2 + (1:Int))))
 else
 some (Sum.inr (s.1))
def zeY (p0:Msg):Option (List Int) :=
 (zdI (Msg.Num p0)).bind fun v17=>(zdI (Msg.Val p0)).bind fun v19=>let v20:List (List Int):=([([wu8 (Msg.Kind p0),wu8 (Msg.From p0),wu8 (Msg.To p0),wu8 (Msg.Line p0),wu8 (Msg.For p0),wu8 (Msg.Acks p0),bif Msg.Own p0 then (1:Int) else (0:Int)]:List Int),v17,v19]:List (List Int))
 (let v21:Int:=(v20.length:Int)
 (zae (zed v20 v21) ((0:Int),(0:Int)):Option Int).bind fun v22=>(if decide (v22<(0:Int)) then
 none
 else
 let v24:Int:=w64 (v22 - (0:Int))
 (if decide ((0:Int)<v24) then
 (ztg (0:Int) 1 ([]:List Int) v24).bind fun v26=>(zAl (v26.length:Int) (0:Int) (0:Int)).bind fun v28=>some ((v28,v26))
 else
 some (((0:Int),([]:List Int))):Option (Int×(List Int))).bind fun v26=>some ((v26.1,v26.2)):Option (Int×(List Int))).bind fun v23=>let v25:Int:=(v20.length:Int)
 (zae (zeo v20 v25) (v23.1,(0:Int),v23.2):Option (Int×(List Int))).bind fun v26=>some ((v26.1,v26.2)):Option (Int×(List Int))).bind fun v21=>(zzR v21.2 (0:Int) v21.1).bind fun v23=>(zdK v23).bind fun v24=>(zdI v24).bind fun v25=>(zoO 1 v21.2 v21.1 v25).bind fun v26=>(zzR v26 (0:Int) (v21.1 + (v25.length:Int))).bind fun v29=>some (v29)
def zd1:FnT:=⟨[zAc],[.sl (.int .u8)],fun x=>zeY x⟩
def zhM:TA :=
 .prim (.fld 6) [.v 0]<|.subp [.int .u8] (.ite (.v 1) (.jmp 0 false [.c (.int .u8 1)]) (.jmp 0 false [.c (.int .u8 0)])) 1<|.prim (.fld 0) [.v 0]<|.prim (.conv .u8) [.v 3]<|.prim (.fld 1) [.v 0]<|.prim (.conv .u8) [.v 5]<|.prim (.fld 2) [.v 0]<|.prim (.conv .u8) [.v 7]<|.prim (.fld 3) [.v 0]<|.prim (.conv .u8) [.v 9]<|.prim (.fld 4) [.v 0]<|.prim (.conv .u8) [.v 11]<|.prim (.fld 5) [.v 0]<|.prim (.conv .u8) [.v 13]<|.mkL (.int .u8) [.v 4,.v 6,.v 8,.v 10,.v 12,.v 14,.v 2]<|.prim (.fld 7) [.v 0]<|.call 179 zbJ [.v 16] 1<|.prim (.fld 8) [.v 0]<|.call 179 zbJ [.v 18] 1<|.mkL (.sl (.int .u8)) [.v 15,.v 17,.v 19]<|.sub0 [.int .i64,.sl (.int .u8)] (.prim .len [.v 20]<|.sub0 [.int .i64] (.loop [.int .i64,.int .i64] [.c (.int .i64 0),.c (.int .i64 0)] (.prim (.bin .lss) [.v 23,.v 21]<|.ite (.v 24) (.prim .idx [.v 20,.v 23]<|.prim .get [.v 20,.v 25]<|.prim .len [.v 26]<|.prim (.bin .add) [.v 22,.v 27]<|.prim (.bin .lss) [.v 28,.c (.int .i64 0)]<|.ite (.v 29) (.fail 153) (.prim (.bin .add) [.v 23,.c (.int .i64 1)]<|.jmp 0 true [.v 28,.v 30])) (.jmp 1 false [.v 22]))) 1<|.sub0 [.int .i64,.sl (.int .u8)] (.prim (.bin .lss) [.v 22,.c (.int .i64 0)]<|.ite (.v 23) (.fail 153) (.prim (.bin .sub) [.v 22,.c (.int .i64 0)]<|.prim (.bin .gtr) [.v 24,.c (.int .i64 0)]<|.sub0 [.int .i64,.sl (.int .u8)] (.ite (.v 25) (.primH (.zext (.int .u8 0) 1) (.sl (.int .u8)) [.c .nil,.v 24]<|.prim .len [.v 26]<|.prim .rng [.v 26,.c (.int .i64 0),.c (.int .i64 0)]<|.jmp 0 false [.v 28,.v 26]) (.jmp 0 false [.c (.int .i64 0),.c .nil])) 2<|.jmp 0 false [.v 26,.v 27])) 2<|.prim .len [.v 20]<|.sub0 [.int .i64,.sl (.int .u8)] (.loop [.int .i64,.int .i64,.sl (.int .u8)] [.v 23,.c (.int .i64 0),.v 24] (.prim (.bin .lss) [.v 27,.v 25]<|.ite (.v 29) (.prim .idx [.v 20,.v 27]<|.prim .get [.v 20,.v 30]<|.prim (.appv 1) [.v 28,.v 26,.v 31]<|.prim .len [.v 31]<|.prim .vadd [.v 26,.v 33]<|.prim (.bin .add) [.v 27,.c (.int .i64 1)]<|.jmp 0 true [.v 34,.v 35,.v 32]) (.jmp 1 false [.v 26,.v 28]))) 2<|.jmp 0 false [.v 26,.v 27]) 2<|.prim .sub [.v 22,.c (.int .i64 0),.v 21]<|.call 159 zdO [.v 23] 1<|.call 179 zbJ [.v 24] 1<|.prim (.appv 1) [.v 22,.v 21,.v 25]<|.prim .len [.v 25]<|.prim .vadd [.v 21,.v 27]<|.prim .sub [.v 26,.c (.int .i64 0),.v 28]<|.jmp 0 false [.v 29]
theorem zl2:zaj cx 12 162=some zhM.erase:=by kernel_rfl
theorem zli:zzK cx 12 noC 162 zd1:=zbb (t:=zhM) zl2 (fun _=>rfl) (zaQ [(179,zbJ),(179,zbJ),(159,zdO),(179,zbJ)] (by kernel_rfl) (.cons zf7 (.cons zf7 (.cons zmL (.cons zf7 .nil))))) (fun x=>by kernel_rfl)
def zeT (p0:Entry) (p1:Int):Option Bool :=
 ((ze3 p0 (List.length (Entry.Share p0):Int)).bind fun v4=>if v4 then
 if decide ((0:Int)≤p1) then
 some ((decide (p1<(List.length (Entry.Share p0):Int))))
 else
 some (false)
 else
 some (false):Option Bool).bind fun v2=>some (v2)
def zb8:FnT:=⟨[zaE,.int .i64],[.bool],fun x=>zeT x.1 x.2⟩
def ziF:TA :=
 .sub0 [.bool] (.prim (.fld 1) [.v 0]<|.prim .len [.v 2]<|.call 125 zcb [.v 0,.v 3] 1<|.ite (.v 4) (.prim (.bin .geq) [.v 1,.c (.int .i64 0)]<|.ite (.v 5) (.prim (.fld 1) [.v 0]<|.prim .len [.v 6]<|.prim (.bin .lss) [.v 1,.v 7]<|.jmp 0 false [.v 8]) (.jmp 0 false [.c (.bool false)])) (.jmp 0 false [.c (.bool false)])) 1<|.jmp 0 false [.v 2]
theorem zlw:zaj cx 12 167=some ziF.erase:=by kernel_rfl
theorem zhS:zzK cx 12 noC 167 zb8:=zbb (t:=ziF) zlw (fun _=>rfl) (zaQ [(125,zcb)] (by kernel_rfl) (.cons zh1 .nil)) (fun x=>by kernel_rfl)
def zhO (p0:Int):Bool :=
 !(zaa p0)
def zfP:PnT:=⟨[.int .i64],[.bool],fun x=>zhO x⟩
def zfi:TA :=
 .callp 177 zeq [.v 0] 1<|.prim (.un .not) [.v 1]<|.jmp 0 false [.v 2]
theorem ziM:zaj cx 12 176=some zfi.erase:=by kernel_rfl
theorem zog:zzK cx 12 noC 176 zfP.fn:=zoc (t:=zfi) ziM (fun _=>rfl) (zaQ [(177,zeq.fn)] (by kernel_rfl) (.cons zm9 .nil)) (fun x=>by kernel_rfl)
def zaN (p0:List Bool) (p1:Bool):Option Bool :=
 (zaM p0 p1).bind fun v2=>some ((decide ((0:Int)≤v2)))
def za3:FnT:=⟨[.sl .bool,.bool],[.bool],fun x=>zaN x.1 x.2⟩
def za2:TA :=
 .call 184 zbk [.v 0,.v 1] 1<|.prim (.bin .geq) [.v 2,.c (.int .i64 0)]<|.jmp 0 false [.v 3]
theorem zbI:zaj cx 12 181=some za2.erase:=by kernel_rfl
theorem zdZ:zzK cx 12 noC 181 za3:=zbb (t:=za2) zbI (fun _=>rfl) (zaQ [(184,zbk)] (by kernel_rfl) (.cons ze6 .nil)) (fun x=>by kernel_rfl)
def zbW (x0:Proto) (x3:Int) (x8:List Entry) (x9:Int) (s:Int):Option (Int⊕Unit⊕Bool) :=
 if decide (s<x9) then
 (zzG x8 s).bind fun v12=>((ze3 v12 x3).bind fun v13=>if !v13 then
 some (true)
 else
 (zzG (Proto.Busy x0) s).bind fun v16=>some ((!(zaz v16 (w64 (x3 + (1:Int)))))):Option Bool).bind fun v13=>if v13 then
 some (Sum.inr (Sum.inr (false)))
 else
 some (Sum.inl (w64 (s + (1:Int))))
 else
 some (Sum.inr (Sum.inl ()))
def zcU (x13:List Int) (x14:Int) (s:Int):Option (Int⊕Unit⊕Int) :=
 if decide (s<x14) then
 (zzG x13 s).bind fun v17=>if zdD v17 then
 some (Sum.inr (Sum.inr (s)))
 else
 some (Sum.inl (w64 (s + (1:Int))))
 else
 some (Sum.inr (Sum.inl ()))
def zcY (x0:Proto) (x5:Int) (x6:List Wait) (x7:Int) (s:Int):Option (Int⊕Unit⊕Bool) :=
 if decide (s<x7) then
 (zzG x6 s).bind fun v10=>if (!(zaz (Wait.Line v10) (w64 (x5 + (1:Int)))))||((!(zaz (Wait.Need v10) (256:Int)))||(!(zaz (Wait.Got v10) (256:Int)))) then
 some (Sum.inr (Sum.inr (false)))
 else
 (zzG (Proto.State x0) s).bind fun v13=>((let v14:Int:=(v13.length:Int)
 zbv (zae (zcU v13 v14) (0:Int):Option (Unit⊕Int)) fun v15=>some ((-1:Int)):Option Int).bind fun v14=>some ((decide ((0:Int)≤v14))):Option Bool).bind fun v14=>if v14 then
 some (Sum.inr (Sum.inr (false)))
 else
 some (Sum.inl (w64 (s + (1:Int))))
 else
 some (Sum.inr (Sum.inl ()))
def za4 (p0:Proto):Option Bool :=
 ((zen p0).bind fun v1=>if !v1 then
 some (true)
 else
 (zcK (Proto.Pool p0)).bind fun v4=>some ((!v4)):Option Bool).bind fun v1=>if v1 then
 some (false)
 else
 let v3:Int:=(List.length (Proto.Wait p0):Int)
 let v5:Int:=(List.length (Proto.Home p0):Int)
 let v7:Int:=(List.length (Proto.Wait p0):Int)
 zbv (zae (zcY p0 v5 (Proto.Wait p0) v7) (0:Int):Option (Unit⊕Bool)) fun v8=>let v9:Int:=(List.length (Proto.Dir p0):Int)
 zbv (zae (zbW p0 v3 (Proto.Dir p0) v9) (0:Int):Option (Unit⊕Bool)) fun v10=>some (true)
def zaL:FnT:=⟨[zaD],[.bool],fun x=>za4 x⟩
def zfD:TA :=
 .sub0 [.bool] (.call 121 zeI [.v 0] 1<|.prim (.un .not) [.v 1]<|.ite (.v 2) (.jmp 0 false [.c (.bool true)]) (.prim (.fld 6) [.v 0]<|.call 122 za8 [.v 3] 1<|.prim (.un .not) [.v 4]<|.jmp 0 false [.v 5])) 1<|.ite (.v 1) (.jmp 0 false [.c (.bool false)]) (.prim (.fld 2) [.v 0]<|.prim .len [.v 2]<|.prim (.fld 3) [.v 0]<|.prim .len [.v 4]<|.prim (.fld 2) [.v 0]<|.prim .len [.v 6]<|.sub1 [] (.loop [.int .i64] [.c (.int .i64 0)] (.prim (.bin .lss) [.v 8,.v 7]<|.ite (.v 9) (.prim .get [.v 6,.v 8]<|.subp [.bool] (.prim (.fld 0) [.v 10]<|.prim (.bin .add) [.v 5,.c (.int .i64 1)]<|.callp 123 zan [.v 11,.v 12] 1<|.prim (.un .not) [.v 13]<|.ite (.v 14) (.jmp 0 false [.c (.bool true)]) (.prim (.fld 6) [.v 10]<|.callp 123 zan [.v 15,.c (.int .i64 256)] 1<|.prim (.un .not) [.v 16]<|.ite (.v 17) (.jmp 0 false [.c (.bool true)]) (.prim (.fld 7) [.v 10]<|.callp 123 zan [.v 18,.c (.int .i64 256)] 1<|.prim (.un .not) [.v 19]<|.jmp 0 false [.v 20]))) 1<|.ite (.v 11) (.jmp 2 false [.c (.bool false)]) (.prim (.fld 0) [.v 0]<|.prim .get [.v 12,.v 8]<|.sub0 [.bool] (.sub0 [.int .i64] (.prim .len [.v 13]<|.sub1 [] (.loop [.int .i64] [.c (.int .i64 0)] (.prim (.bin .lss) [.v 15,.v 14]<|.ite (.v 16) (.prim .get [.v 13,.v 15]<|.callp 124 zdX [.v 17] 1<|.ite (.v 18) (.jmp 2 false [.v 15]) (.prim (.bin .add) [.v 15,.c (.int .i64 1)]<|.jmp 0 true [.v 19])) (.jmp 1 false []))) 0<|.jmp 0 false [.c (.int .i64 (-1))]) 1<|.prim (.bin .geq) [.v 14,.c (.int .i64 0)]<|.jmp 0 false [.v 15]) 1<|.ite (.v 14) (.jmp 2 false [.c (.bool false)]) (.prim (.bin .add) [.v 8,.c (.int .i64 1)]<|.jmp 0 true [.v 15]))) (.jmp 1 false []))) 0<|.prim (.fld 4) [.v 0]<|.prim .len [.v 8]<|.sub1 [] (.loop [.int .i64] [.c (.int .i64 0)] (.prim (.bin .lss) [.v 10,.v 9]<|.ite (.v 11) (.prim .get [.v 8,.v 10]<|.sub0 [.bool] (.call 125 zcb [.v 12,.v 3] 1<|.prim (.un .not) [.v 13]<|.ite (.v 14) (.jmp 0 false [.c (.bool true)]) (.prim (.fld 5) [.v 0]<|.prim .get [.v 15,.v 10]<|.prim (.bin .add) [.v 3,.c (.int .i64 1)]<|.callp 123 zan [.v 16,.v 17] 1<|.prim (.un .not) [.v 18]<|.jmp 0 false [.v 19])) 1<|.ite (.v 13) (.jmp 2 false [.c (.bool false)]) (.prim (.bin .add) [.v 10,.c (.int .i64 1)]<|.jmp 0 true [.v 14])) (.jmp 1 false []))) 0<|.jmp 0 false [.c (.bool true)])
theorem zja:zaj cx 12 88=some zfD.erase:=by kernel_rfl
theorem zcm:zzK cx 12 noC 88 zaL:=zbb (t:=zfD) zja (fun _=>rfl) (zaQ [(121,zeI),(122,za8),(123,zan.fn),(123,zan.fn),(123,zan.fn),(124,zdX.fn),(125,zcb),(123,zan.fn)] (by kernel_rfl) (.cons zm7 (.cons zem (.cons zbe (.cons zbe (.cons zbe (.cons zly (.cons zh1 (.cons zbe .nil))))))))) (fun x=>by kernel_rfl)
def zcr (p0:Pool):Option Int :=
 (zcK p0).bind fun v1=>if !v1 then
 some ((0:Int))
 else
 some ((w64 ((64:Int) - (List.length (Pool.Frames p0):Int))))
def zbr:FnT:=⟨[zaS],[.int .i64],fun x=>zcr x⟩
def ziD:TA :=
 .call 122 za8 [.v 0] 1<|.prim (.un .not) [.v 1]<|.ite (.v 2) (.jmp 0 false [.c (.int .i64 0)]) (.prim (.fld 0) [.v 0]<|.prim .len [.v 3]<|.prim (.bin .sub) [.c (.int .i64 64),.v 4]<|.jmp 0 false [.v 5])
theorem zk9:zaj cx 12 93=some ziD.erase:=by kernel_rfl
theorem zfp:zzK cx 12 noC 93 zbr:=zbb (t:=ziD) zk9 (fun _=>rfl) (zaQ [(122,za8)] (by kernel_rfl) (.cons zem .nil)) (fun x=>by kernel_rfl)
def zeZ (p0:Entry) (p1:Int):Option (Entry×Int) :=
 ((zat 1 (Entry.Share p0)).bind fun v3=>some ((Entry.Owner p0,v3)):Option (Int×(List Bool))).bind fun v2=>(zeT (Entry.mk v2.1 v2.2) p1).bind fun v5=>if !v5 then
 some ((Entry.mk v2.1 v2.2,(1:Int)))
 else
 if !decide (v2.1=(w64 (p1 + (1:Int)))) then
 some ((Entry.mk v2.1 v2.2,(7:Int)))
 else
 some ((Entry.mk (0:Int) v2.2,(0:Int)))
def zgJ:FnT:=⟨[zaE,.int .i64],[zaE,.int .i64],fun x=>zeZ x.1 x.2⟩
def zg0:TA :=
 .sub0 [.int .i64,.sl .bool] (.prim (.fld 1) [.v 0]<|.prim (.clone 1) [.v 2]<|.prim (.fld 0) [.v 0]<|.prim (.fld 1) [.v 0]<|.jmp 0 false [.v 4,.v 3]) 2<|.mkS zbT [.v 2,.v 3]<|.call 167 zb8 [.v 4,.v 1] 1<|.prim (.un .not) [.v 5]<|.ite (.v 6) (.mkS zbT [.v 2,.v 3]<|.jmp 0 false [.v 7,.c (.int .i64 1)]) (.prim (.bin .add) [.v 1,.c (.int .i64 1)]<|.prim (.bin .neq) [.v 2,.v 7]<|.ite (.v 8) (.mkS zbT [.v 2,.v 3]<|.jmp 0 false [.v 9,.c (.int .i64 7)]) (.mkS zbT [.c (.int .i64 0),.v 3]<|.jmp 0 false [.v 9,.c (.int .i64 0)]))
theorem zkt:zaj cx 12 143=some zg0.erase:=by kernel_rfl
theorem zpm:zzK cx 12 noC 143 zgJ:=zbb (t:=zg0) zkt (fun _=>rfl) (zaQ [(167,zb8)] (by kernel_rfl) (.cons zhS .nil)) (fun x=>by kernel_rfl)
def zkW (p0:Pool) (p1:Int):Option Int :=
 (zcK p0).bind fun v2=>if !v2 then
 some ((1:Int))
 else
 if (decide (p1<(0:Int)))||(decide ((List.length (Pool.Frames p0):Int)≤p1)) then
 some ((7:Int))
 else
 some ((0:Int))
def zjT:FnT:=⟨[zaS,.int .i64],[.int .i64],fun x=>zkW x.1 x.2⟩
def zjL:TA :=
 .call 122 za8 [.v 0] 1<|.prim (.un .not) [.v 2]<|.ite (.v 3) (.jmp 0 false [.c (.int .i64 1)]) (.subp [.bool] (.prim (.bin .lss) [.v 1,.c (.int .i64 0)]<|.ite (.v 4) (.jmp 0 false [.c (.bool true)]) (.prim (.fld 0) [.v 0]<|.prim .len [.v 5]<|.prim (.bin .geq) [.v 1,.v 6]<|.jmp 0 false [.v 7])) 1<|.ite (.v 4) (.jmp 0 false [.c (.int .i64 7)]) (.jmp 0 false [.c (.int .i64 0)]))
theorem znL:zaj cx 12 155=some zjL.erase:=by kernel_rfl
theorem zs4:zzK cx 12 noC 155 zjT:=zbb (t:=zjL) znL (fun _=>rfl) (zaQ [(122,za8)] (by kernel_rfl) (.cons zem .nil)) (fun x=>by kernel_rfl)
def zef (x6:List Int) (x7:Int) (s:Int):Option (Int⊕Unit⊕Int) :=
 if decide (s<x7) then
 (zzH (x6.length:Int) s).bind fun v10=>(zzG x6 v10).bind fun v11=>if zhO v11 then
 some (Sum.inr (Sum.inr (s)))
 else
 some (Sum.inl (w64 (s + (1:Int))))
 else
 some (Sum.inr (Sum.inl ()))
def zeK (p0:Msg):Option Bool :=
 let v6:List Int:=([Msg.From p0,Msg.To p0,Msg.Line p0,Msg.For p0,Msg.Acks p0]:List Int)
 ((let v7:Int:=(v6.length:Int)
 zbv (zae (zef v6 v7) (0:Int):Option (Unit⊕Int)) fun v8=>some ((-1:Int)):Option Int).bind fun v7=>some ((decide ((0:Int)≤v7))):Option Bool).bind fun v7=>some (((!v7)&&((decide ((1:Int)≤(Msg.Kind p0)))&&(decide ((Msg.Kind p0)≤(11:Int))))))
def zdP:FnT:=⟨[zAc],[.bool],fun x=>zeK x⟩
def zh0:TA :=
 .prim (.fld 1) [.v 0]<|.prim (.fld 2) [.v 0]<|.prim (.fld 3) [.v 0]<|.prim (.fld 4) [.v 0]<|.prim (.fld 5) [.v 0]<|.mkL (.int .i64) [.v 1,.v 2,.v 3,.v 4,.v 5]<|.sub0 [.bool] (.sub0 [.int .i64] (.prim .len [.v 6]<|.sub1 [] (.loop [.int .i64] [.c (.int .i64 0)] (.prim (.bin .lss) [.v 8,.v 7]<|.ite (.v 9) (.prim .idx [.v 6,.v 8]<|.prim .get [.v 6,.v 10]<|.callp 176 zfP [.v 11] 1<|.ite (.v 12) (.jmp 2 false [.v 8]) (.prim (.bin .add) [.v 8,.c (.int .i64 1)]<|.jmp 0 true [.v 13])) (.jmp 1 false []))) 0<|.jmp 0 false [.c (.int .i64 (-1))]) 1<|.prim (.bin .geq) [.v 7,.c (.int .i64 0)]<|.jmp 0 false [.v 8]) 1<|.prim (.un .not) [.v 7]<|.subp [.bool] (.ite (.v 8) (.prim (.fld 0) [.v 0]<|.prim (.bin .geq) [.v 9,.c (.int .i64 1)]<|.ite (.v 10) (.prim (.fld 0) [.v 0]<|.prim (.bin .leq) [.v 11,.c (.int .i64 11)]<|.jmp 0 false [.v 12]) (.jmp 0 false [.c (.bool false)])) (.jmp 0 false [.c (.bool false)])) 1<|.jmp 0 false [.v 9]
theorem zml:zaj cx 12 160=some zh0.erase:=by kernel_rfl
theorem zlO:zzK cx 12 noC 160 zdP:=zbb (t:=zh0) zml (fun _=>rfl) (zaQ [(176,zfP.fn)] (by kernel_rfl) (.cons zog .nil)) (fun x=>by kernel_rfl)
def zhy (x1:Int) (x3:List Bool) (x7:Int) (s:(Int×(List Int))):Option ((Int×(List Int))⊕(List Int)) :=
 if decide (s.1<x7) then
 (zzH (x3.length:Int) s.1).bind fun v11=>(zzG x3 v11).bind fun v12=>(if v12&&(!decide (s.1=x1)) then
 (zzN 8 s.2 ([s.1]:List Int)).bind fun v15=>some (v15)
 else
 some (s.2):Option (List Int)).bind fun v14=>some (Sum.inl (w64 (s.1 + (1:Int)),v14))
 else
 some (Sum.inr (s.2))
def zd8 (p0:Entry) (p1:Int):Option (Entry×Int×(List Int)×Int) :=
 ((zat 1 (Entry.Share p0)).bind fun v3=>some ((Entry.Owner p0,v3)):Option (Int×(List Bool))).bind fun v2=>(zeT (Entry.mk v2.1 v2.2) p1).bind fun v5=>if !v5 then
 some ((Entry.mk v2.1 v2.2,(0:Int),([]:List Int),(1:Int)))
 else
 (let v7:Int:=(List.length v2.2:Int)
 (zae (zhy p1 v2.2 v7) ((0:Int),([]:List Int)):Option (List Int)).bind fun v8=>some (v8):Option (List Int)).bind fun v7=>some ((Entry.mk (w64 (p1 + (1:Int))) (List.replicate (List.length v2.2) false),v2.1,v7,(0:Int)))
def zfy:FnT:=⟨[zaE,.int .i64],[zaE,.int .i64,.sl (.int .i64),.int .i64],fun x=>zd8 x.1 x.2⟩
def zfH:TA :=
 .sub0 [.int .i64,.sl .bool] (.prim (.fld 1) [.v 0]<|.prim (.clone 1) [.v 2]<|.prim (.fld 0) [.v 0]<|.prim (.fld 1) [.v 0]<|.jmp 0 false [.v 4,.v 3]) 2<|.mkS zbT [.v 2,.v 3]<|.call 167 zb8 [.v 4,.v 1] 1<|.prim (.un .not) [.v 5]<|.ite (.v 6) (.mkS zbT [.v 2,.v 3]<|.jmp 0 false [.v 7,.c (.int .i64 0),.c .nil,.c (.int .i64 1)]) (.sub0 [.sl (.int .i64)] (.prim .len [.v 3]<|.sub0 [.sl (.int .i64)] (.loop [.int .i64,.sl (.int .i64)] [.c (.int .i64 0),.c .nil] (.prim (.bin .lss) [.v 8,.v 7]<|.ite (.v 10) (.prim .idx [.v 3,.v 8]<|.prim .get [.v 3,.v 11]<|.subp [.bool] (.ite (.v 12) (.prim (.bin .neq) [.v 8,.v 1]<|.jmp 0 false [.v 13]) (.jmp 0 false [.c (.bool false)])) 1<|.sub0 [.sl (.int .i64)] (.ite (.v 13) (.mkL (.int .i64) [.v 8]<|.prim (.app 8) [.v 9,.v 14]<|.jmp 0 false [.v 15]) (.jmp 0 false [.v 9])) 1<|.prim (.bin .add) [.v 8,.c (.int .i64 1)]<|.jmp 0 true [.v 15,.v 14]) (.jmp 1 false [.v 9]))) 1<|.jmp 0 false [.v 8]) 1<|.prim (.bin .add) [.v 1,.c (.int .i64 1)]<|.prim (.clr (.bool false)) [.v 3]<|.mkS zbT [.v 8,.v 9]<|.jmp 0 false [.v 10,.v 2,.v 7,.c (.int .i64 0)])
theorem zjs:zaj cx 12 163=some zfH.erase:=by kernel_rfl
theorem zox:zzK cx 12 noC 163 zfy:=zbb (t:=zfH) zjs (fun _=>rfl) (zaQ [(167,zb8)] (by kernel_rfl) (.cons zhS .nil)) (fun x=>by kernel_rfl)
def zbP (x1:Int) (x3:List Bool) (x8:Int) (s:(Int×(List Int))):Option ((Int×(List Int))⊕(List Int)) :=
 if decide (s.1<x8) then
 (zzH (x3.length:Int) s.1).bind fun v12=>(zzG x3 v12).bind fun v13=>(if v13&&(!decide (s.1=x1)) then
 (zzN 8 s.2 ([s.1]:List Int)).bind fun v16=>some (v16)
 else
 some (s.2):Option (List Int)).bind fun v15=>some (Sum.inl (w64 (s.1 + (1:Int)),v15))
 else
 some (Sum.inr (s.2))
def ze7 (p0:Entry) (p1:Int):Option (Entry×Int×Int) :=
 ((zat 1 (Entry.Share p0)).bind fun v3=>some ((Entry.Owner p0,v3)):Option (Int×(List Bool))).bind fun v2=>(zeT (Entry.mk v2.1 v2.2) p1).bind fun v5=>if !v5 then
 some ((Entry.mk v2.1 v2.2,(0:Int),(1:Int)))
 else
 (if decide (v2.1=(0:Int)) then
 (let v8:Int:=(List.length v2.2:Int)
 (zae (zbP p1 v2.2 v8) ((0:Int),([]:List Int)):Option (List Int)).bind fun v9=>some (v9):Option (List Int)).bind fun v8=>some ((decide ((v8.length:Int)=(0:Int))))
 else
 some (false):Option Bool).bind fun v7=>(if v7 then
 (zzH (List.length v2.2:Int) p1).bind fun v9=>(zzI v2.2 v9 false).bind fun v10=>some ((w64 (p1 + (1:Int)),v10))
 else
 (if !decide (v2.1=(w64 (p1 + (1:Int)))) then
 (zzH (List.length v2.2:Int) p1).bind fun v10=>(zzI v2.2 v10 true).bind fun v11=>some (v11)
 else
 some (v2.2):Option (List Bool)).bind fun v10=>some ((v2.1,v10)):Option (Int×(List Bool))).bind fun v8=>some ((Entry.mk v8.1 v8.2,v2.1,(0:Int)))
def zgC:FnT:=⟨[zaE,.int .i64],[zaE,.int .i64,.int .i64],fun x=>ze7 x.1 x.2⟩
def zgp:TA :=
 .sub0 [.int .i64,.sl .bool] (.prim (.fld 1) [.v 0]<|.prim (.clone 1) [.v 2]<|.prim (.fld 0) [.v 0]<|.prim (.fld 1) [.v 0]<|.jmp 0 false [.v 4,.v 3]) 2<|.mkS zbT [.v 2,.v 3]<|.call 167 zb8 [.v 4,.v 1] 1<|.prim (.un .not) [.v 5]<|.ite (.v 6) (.mkS zbT [.v 2,.v 3]<|.jmp 0 false [.v 7,.c (.int .i64 0),.c (.int .i64 1)]) (.sub0 [.bool] (.prim (.bin .eql) [.v 2,.c (.int .i64 0)]<|.ite (.v 7) (.sub0 [.sl (.int .i64)] (.prim .len [.v 3]<|.sub0 [.sl (.int .i64)] (.loop [.int .i64,.sl (.int .i64)] [.c (.int .i64 0),.c .nil] (.prim (.bin .lss) [.v 9,.v 8]<|.ite (.v 11) (.prim .idx [.v 3,.v 9]<|.prim .get [.v 3,.v 12]<|.subp [.bool] (.ite (.v 13) (.prim (.bin .neq) [.v 9,.v 1]<|.jmp 0 false [.v 14]) (.jmp 0 false [.c (.bool false)])) 1<|.sub0 [.sl (.int .i64)] (.ite (.v 14) (.mkL (.int .i64) [.v 9]<|.prim (.app 8) [.v 10,.v 15]<|.jmp 0 false [.v 16]) (.jmp 0 false [.v 10])) 1<|.prim (.bin .add) [.v 9,.c (.int .i64 1)]<|.jmp 0 true [.v 16,.v 15]) (.jmp 1 false [.v 10]))) 1<|.jmp 0 false [.v 9]) 1<|.prim .len [.v 8]<|.prim (.bin .eql) [.v 9,.c (.int .i64 0)]<|.jmp 0 false [.v 10]) (.jmp 0 false [.c (.bool false)])) 1<|.sub0 [.int .i64,.sl .bool] (.ite (.v 7) (.prim (.bin .add) [.v 1,.c (.int .i64 1)]<|.prim .idx [.v 3,.v 1]<|.prim .set [.v 3,.v 9,.c (.bool false)]<|.jmp 0 false [.v 8,.v 10]) (.prim (.bin .add) [.v 1,.c (.int .i64 1)]<|.prim (.bin .neq) [.v 2,.v 8]<|.sub0 [.sl .bool] (.ite (.v 9) (.prim .idx [.v 3,.v 1]<|.prim .set [.v 3,.v 10,.c (.bool true)]<|.jmp 0 false [.v 11]) (.jmp 0 false [.v 3])) 1<|.jmp 0 false [.v 2,.v 10])) 2<|.mkS zbT [.v 8,.v 9]<|.jmp 0 false [.v 10,.v 2,.c (.int .i64 0)])
theorem zkn:zaj cx 12 164=some zgp.erase:=by kernel_rfl
theorem zqq:zzK cx 12 noC 164 zgC:=zbb (t:=zgp) zkn (fun _=>rfl) (zaQ [(167,zb8)] (by kernel_rfl) (.cons zhS .nil)) (fun x=>by kernel_rfl)
def zcJ (p0:Entry):Option Bool :=
 ((ze3 p0 (List.length (Entry.Share p0):Int)).bind fun v3=>if v3 then
 if decide ((0:Int)<(Entry.Owner p0)) then
 (zaN (Entry.Share p0) true).bind fun v7=>some ((!v7))
 else
 some (false)
 else
 some (false):Option Bool).bind fun v1=>some (v1)
def zfY:FnT:=⟨[zaE],[.bool],fun x=>zcJ x⟩
def zfT:TA :=
 .sub0 [.bool] (.prim (.fld 1) [.v 0]<|.prim .len [.v 1]<|.call 125 zcb [.v 0,.v 2] 1<|.ite (.v 3) (.prim (.fld 0) [.v 0]<|.prim (.bin .gtr) [.v 4,.c (.int .i64 0)]<|.ite (.v 5) (.prim (.fld 1) [.v 0]<|.call 181 za3 [.v 6,.c (.bool true)] 1<|.prim (.un .not) [.v 7]<|.jmp 0 false [.v 8]) (.jmp 0 false [.c (.bool false)])) (.jmp 0 false [.c (.bool false)])) 1<|.jmp 0 false [.v 1]
theorem zi5:zaj cx 12 165=some zfT.erase:=by kernel_rfl
theorem zn6:zzK cx 12 noC 165 zfY:=zbb (t:=zfT) zi5 (fun _=>rfl) (zaQ [(125,zcb),(181,za3)] (by kernel_rfl) (.cons zh1 (.cons zdZ .nil))) (fun x=>by kernel_rfl)
def zcp (x5:List Int) (x6:Int) (s:Int):Option (Int⊕Unit⊕Int) :=
 if decide (s<x6) then
 (zzG x5 s).bind fun v9=>if zgm v9 then
 some (Sum.inr (Sum.inr (s)))
 else
 some (Sum.inl (w64 (s + (1:Int))))
 else
 some (Sum.inr (Sum.inl ()))
def zco (x2:List Wait) (x3:Int) (s:Int):Option (Int⊕Unit⊕Int) :=
 if decide (s<x3) then
 (zzG x2 s).bind fun v6=>if zgT v6 then
 some (Sum.inr (Sum.inr (s)))
 else
 some (Sum.inl (w64 (s + (1:Int))))
 else
 some (Sum.inr (Sum.inl ()))
def zcA (p0:Proto):Option Bool :=
 ((za4 p0).bind fun v1=>if !v1 then
 some (true)
 else
 some ((decide ((0:Int)<(List.length (Pool.Frames (Proto.Pool p0)):Int)))):Option Bool).bind fun v1=>if v1 then
 some (false)
 else
 ((let v3:Int:=(List.length (Proto.Wait p0):Int)
 zbv (zae (zco (Proto.Wait p0) v3) (0:Int):Option (Unit⊕Int)) fun v4=>some ((-1:Int)):Option Int).bind fun v3=>some ((decide ((0:Int)≤v3))):Option Bool).bind fun v3=>(if !v3 then
 ((let v6:Int:=(List.length (Proto.Busy p0):Int)
 zbv (zae (zcp (Proto.Busy p0) v6) (0:Int):Option (Unit⊕Int)) fun v7=>some ((-1:Int)):Option Int).bind fun v6=>some ((decide ((0:Int)≤v6))):Option Bool).bind fun v6=>some ((!v6))
 else
 some (false):Option Bool).bind fun v4=>some (v4)
def zc5:FnT:=⟨[zaD],[.bool],fun x=>zcA x⟩
def zgv:TA :=
 .sub0 [.bool] (.call 88 zaL [.v 0] 1<|.prim (.un .not) [.v 1]<|.ite (.v 2) (.jmp 0 false [.c (.bool true)]) (.prim (.fld 6) [.v 0]<|.prim (.fld 0) [.v 3]<|.prim .len [.v 4]<|.prim (.bin .gtr) [.v 5,.c (.int .i64 0)]<|.jmp 0 false [.v 6])) 1<|.ite (.v 1) (.jmp 0 false [.c (.bool false)]) (.prim (.fld 2) [.v 0]<|.sub0 [.bool] (.sub0 [.int .i64] (.prim .len [.v 2]<|.sub1 [] (.loop [.int .i64] [.c (.int .i64 0)] (.prim (.bin .lss) [.v 4,.v 3]<|.ite (.v 5) (.prim .get [.v 2,.v 4]<|.callp 104 zeD [.v 6] 1<|.ite (.v 7) (.jmp 2 false [.v 4]) (.prim (.bin .add) [.v 4,.c (.int .i64 1)]<|.jmp 0 true [.v 8])) (.jmp 1 false []))) 0<|.jmp 0 false [.c (.int .i64 (-1))]) 1<|.prim (.bin .geq) [.v 3,.c (.int .i64 0)]<|.jmp 0 false [.v 4]) 1<|.sub0 [.bool] (.prim (.un .not) [.v 3]<|.ite (.v 4) (.prim (.fld 5) [.v 0]<|.sub0 [.bool] (.sub0 [.int .i64] (.prim .len [.v 5]<|.sub1 [] (.loop [.int .i64] [.c (.int .i64 0)] (.prim (.bin .lss) [.v 7,.v 6]<|.ite (.v 8) (.prim .get [.v 5,.v 7]<|.callp 106 zeE [.v 9] 1<|.ite (.v 10) (.jmp 2 false [.v 7]) (.prim (.bin .add) [.v 7,.c (.int .i64 1)]<|.jmp 0 true [.v 11])) (.jmp 1 false []))) 0<|.jmp 0 false [.c (.int .i64 (-1))]) 1<|.prim (.bin .geq) [.v 6,.c (.int .i64 0)]<|.jmp 0 false [.v 7]) 1<|.prim (.un .not) [.v 6]<|.jmp 0 false [.v 7]) (.jmp 0 false [.c (.bool false)])) 1<|.jmp 0 false [.v 4])
theorem zkv:zaj cx 12 51=some zgv.erase:=by kernel_rfl
theorem zkF:zzK cx 12 noC 51 zc5:=zbb (t:=zgv) zkv (fun _=>rfl) (zaQ [(88,zaL),(104,zeD.fn),(106,zeE.fn)] (by kernel_rfl) (.cons zcm (.cons zmT (.cons zna .nil)))) (fun x=>by kernel_rfl)
def zcf (p0:Proto) (p1:Int) (p2:Int):Option Bool :=
 ((za4 p0).bind fun v3=>if v3 then
 if zaz p1 (List.length (Proto.Wait p0):Int) then
 some ((zaz p2 (List.length (Proto.Home p0):Int)))
 else
 some (false)
 else
 some (false):Option Bool).bind fun v3=>some (v3)
def zaY:FnT:=⟨[zaD,.int .i64,.int .i64],[.bool],fun x=>zcf x.1 x.2.1 x.2.2⟩
def zfo:TA :=
 .sub0 [.bool] (.call 88 zaL [.v 0] 1<|.ite (.v 3) (.prim (.fld 2) [.v 0]<|.prim .len [.v 4]<|.callp 123 zan [.v 1,.v 5] 1<|.ite (.v 6) (.prim (.fld 3) [.v 0]<|.prim .len [.v 7]<|.callp 123 zan [.v 2,.v 8] 1<|.jmp 0 false [.v 9]) (.jmp 0 false [.c (.bool false)])) (.jmp 0 false [.c (.bool false)])) 1<|.jmp 0 false [.v 3]
theorem zjt:zaj cx 12 90=some zfo.erase:=by kernel_rfl
theorem zdE:zzK cx 12 noC 90 zaY:=zbb (t:=zfo) zjt (fun _=>rfl) (zaQ [(88,zaL),(123,zan.fn),(123,zan.fn)] (by kernel_rfl) (.cons zcm (.cons zbe (.cons zbe .nil)))) (fun x=>by kernel_rfl)
def zcB (p0:Proto) (p1:Int):Option Bool :=
 ((za4 p0).bind fun v2=>if v2 then
 if decide ((0:Int)≤p1) then
 some ((decide (p1<(List.length (Proto.Home p0):Int))))
 else
 some (false)
 else
 some (false):Option Bool).bind fun v2=>some (v2)
def zbt:FnT:=⟨[zaD,.int .i64],[.bool],fun x=>zcB x.1 x.2⟩
def zfR:TA :=
 .sub0 [.bool] (.call 88 zaL [.v 0] 1<|.ite (.v 2) (.prim (.bin .geq) [.v 1,.c (.int .i64 0)]<|.ite (.v 3) (.prim (.fld 3) [.v 0]<|.prim .len [.v 4]<|.prim (.bin .lss) [.v 1,.v 5]<|.jmp 0 false [.v 6]) (.jmp 0 false [.c (.bool false)])) (.jmp 0 false [.c (.bool false)])) 1<|.jmp 0 false [.v 2]
theorem ziO:zaj cx 12 133=some zfR.erase:=by kernel_rfl
theorem zfG:zzK cx 12 noC 133 zbt:=zbb (t:=zfR) ziO (fun _=>rfl) (zaQ [(88,zaL)] (by kernel_rfl) (.cons zcm .nil)) (fun x=>by kernel_rfl)
def zgD (x3:List (List Int)) (x4:Int) (s:(Int×(List (List Int)))):Option ((Int×(List (List Int)))⊕(List (List Int))) :=
 if decide (s.1<x4) then
 (zzG x3 s.1).bind fun v8=>(zat 1 v8).bind fun v9=>(zzN 24 s.2 ([v9]:List (List Int))).bind fun v11=>some (Sum.inl (w64 (s.1 + (1:Int)),v11))
 else
 some (Sum.inr (s.2))
def zgj (p0:Pool) (p1:Int):Option (Pool×Int) :=
 (zkW p0 p1).bind fun v2=>(let v4:Int:=(List.length (Pool.Frames p0):Int)
 (zae (zgD (Pool.Frames p0) v4) ((0:Int),([]:List (List Int))):Option (List (List Int))).bind fun v5=>some (v5):Option (List (List Int))).bind fun v3=>(if decide (v2=(0:Int)) then
 let v5:Int:=w64 (p1 + (1:Int))
 ((zuW (v3.length:Int) p1 v5 (v3.length:Int)).bind fun v7=>if decide (p1=v5) then
 some (((v3.length:Int),v3))
 else
 (zAl (v3.length:Int) (0:Int) p1).bind fun v11=>(zAl (v3.length:Int) v5 (v3.length:Int)).bind fun v13=>(zzR v3 v5 v13).bind fun v14=>(zoO 24 v3 v11 v14).bind fun v15=>let v17:Int:=v11 + (v14.length:Int)
 let v18:Int:=v17 - (0:Int)
 (zvx (v15.length:Int) (0:Int) v18 (v3.length:Int)).bind fun v20=>let v21:Int:=(0:Int) + v18
 (zzR v15 v21 v20).bind fun v22=>(zul v15 v21 v20 (List.replicate (v22.length) ([]:List Int))).bind fun v24=>some ((v17,v24)):Option (Int×(List (List Int)))).bind fun v6=>some ((v6.1,v6.2))
 else
 some (((v3.length:Int),v3)):Option (Int×(List (List Int)))).bind fun v5=>(zzR v5.2 (0:Int) v5.1).bind fun v7=>some ((Pool.mk v7,v2))
def zhW:FnT:=⟨[zaS,.int .i64],[zaS,.int .i64],fun x=>zgj x.1 x.2⟩
def zhU:TA :=
 .call 155 zjT [.v 0,.v 1] 1<|.sub0 [.sl (.sl (.int .u8))] (.prim (.fld 0) [.v 0]<|.prim .len [.v 3]<|.sub0 [.sl (.sl (.int .u8))] (.loop [.int .i64,.sl (.sl (.int .u8))] [.c (.int .i64 0),.c .nil] (.prim (.bin .lss) [.v 5,.v 4]<|.ite (.v 7) (.prim .get [.v 3,.v 5]<|.prim (.clone 1) [.v 8]<|.mkL (.sl (.int .u8)) [.v 9]<|.prim (.app 24) [.v 6,.v 10]<|.prim (.bin .add) [.v 5,.c (.int .i64 1)]<|.jmp 0 true [.v 12,.v 11]) (.jmp 1 false [.v 6]))) 1<|.jmp 0 false [.v 5]) 1<|.prim (.bin .eql) [.v 2,.c (.int .i64 0)]<|.sub0 [.int .i64,.sl (.sl (.int .u8))] (.ite (.v 4) (.prim (.bin .add) [.v 1,.c (.int .i64 1)]<|.sub0 [.int .i64,.sl (.sl (.int .u8))] (.prim .len [.v 3]<|.prim .rng3 [.v 3,.v 1,.v 5,.v 6]<|.prim (.bin .eql) [.v 1,.v 5]<|.ite (.v 8) (.prim .len [.v 3]<|.jmp 0 false [.v 9,.v 3]) (.prim .len [.v 3]<|.prim .len [.v 3]<|.prim .rng [.v 3,.c (.int .i64 0),.v 1]<|.prim .len [.v 3]<|.prim .rng [.v 3,.v 5,.v 12]<|.prim .sub [.v 3,.v 5,.v 13]<|.prim (.appv 24) [.v 3,.v 11,.v 14]<|.prim .len [.v 14]<|.prim .vadd [.v 11,.v 16]<|.prim .vlen [.c (.int .i64 0),.v 17]<|.prim .vlen [.c (.int .i64 0),.v 17]<|.prim .rngv [.v 15,.c (.int .i64 0),.v 18,.v 9]<|.prim .vadd [.c (.int .i64 0),.v 18]<|.prim .sub [.v 15,.v 21,.v 20]<|.prim (.clr .nil) [.v 22]<|.prim .cpyv [.v 15,.v 21,.v 20,.v 23]<|.jmp 0 false [.v 17,.v 24])) 2<|.jmp 0 false [.v 6,.v 7]) (.prim .len [.v 3]<|.jmp 0 false [.v 5,.v 3])) 2<|.prim .sub [.v 6,.c (.int .i64 0),.v 5]<|.mkS zch [.v 7]<|.jmp 0 false [.v 8,.v 2]
theorem zmb:zaj cx 12 137=some zhU.erase:=by kernel_rfl
theorem zrc:zzK cx 12 noC 137 zhW:=zbb (t:=zhU) zmb (fun _=>rfl) (zaQ [(155,zjT)] (by kernel_rfl) (.cons zs4 .nil)) (fun x=>by kernel_rfl)
def zg5 (p0:List Int):Option (Msg×Int) :=
 if decide ((p0.length:Int)<(19:Int)) then
 some (((Msg.mk (0:Int) (0:Int) (0:Int) (0:Int) (0:Int) (0:Int) false (0:Int) (0:Int)),(3:Int)))
 else
 if decide ((19:Int)<(p0.length:Int)) then
 some (((Msg.mk (0:Int) (0:Int) (0:Int) (0:Int) (0:Int) (0:Int) false (0:Int) (0:Int)),(4:Int)))
 else
 (zzR p0 (15:Int) (p0.length:Int)).bind fun v6=>(zfB v6).bind fun v7=>(zzR p0 (0:Int) (15:Int)).bind fun v9=>(zdK v9).bind fun v10=>if !decide (v7=v10) then
 some (((Msg.mk (0:Int) (0:Int) (0:Int) (0:Int) (0:Int) (0:Int) false (0:Int) (0:Int)),(5:Int)))
 else
 (zzG p0 (0:Int)).bind fun v12=>(zzG p0 (1:Int)).bind fun v14=>(zzG p0 (2:Int)).bind fun v16=>(zzG p0 (3:Int)).bind fun v18=>(zzG p0 (4:Int)).bind fun v20=>(zzG p0 (5:Int)).bind fun v22=>(zzG p0 (6:Int)).bind fun v24=>(zzR p0 (7:Int) (p0.length:Int)).bind fun v27=>(zfB v27).bind fun v28=>(zzR p0 (11:Int) (p0.length:Int)).bind fun v30=>(zfB v30).bind fun v31=>let v32:Msg:=Msg.mk (w64 v12) (w64 v14) (w64 v16) (w64 v18) (w64 v20) (w64 v22) (decide (v24=(1:Int))) v28 v31
 ((zeK v32).bind fun v33=>if !v33 then
 some (true)
 else
 (zeY v32).bind fun v35=>(bytes_Equal v35 p0).bind fun v36=>some ((!v36)):Option Bool).bind fun v33=>if v33 then
 some (((Msg.mk (0:Int) (0:Int) (0:Int) (0:Int) (0:Int) (0:Int) false (0:Int) (0:Int)),(2:Int)))
 else
 some ((v32,(0:Int)))
def zgS:FnT:=⟨[.sl (.int .u8)],[zAc,.int .i64],fun x=>zg5 x⟩
def zgn:TA :=
 .prim .len [.v 0]<|.prim (.bin .lss) [.v 1,.c (.int .i64 19)]<|.ite (.v 2) (.jmp 0 false [.c (.agg [(.int .i64 0),(.int .i64 0),(.int .i64 0),(.int .i64 0),(.int .i64 0),(.int .i64 0),(.bool false),(.int .u32 0),(.int .u32 0)]),.c (.int .i64 3)]) (.prim .len [.v 0]<|.prim (.bin .gtr) [.v 3,.c (.int .i64 19)]<|.ite (.v 4) (.jmp 0 false [.c (.agg [(.int .i64 0),(.int .i64 0),(.int .i64 0),(.int .i64 0),(.int .i64 0),(.int .i64 0),(.bool false),(.int .u32 0),(.int .u32 0)]),.c (.int .i64 4)]) (.prim .len [.v 0]<|.prim .sub [.v 0,.c (.int .i64 15),.v 5]<|.call 158 zdS [.v 6] 1<|.prim .len [.v 0]<|.prim .sub [.v 0,.c (.int .i64 0),.c (.int .i64 15)]<|.call 159 zdO [.v 9] 1<|.prim (.bin .neq) [.v 7,.v 10]<|.ite (.v 11) (.jmp 0 false [.c (.agg [(.int .i64 0),(.int .i64 0),(.int .i64 0),(.int .i64 0),(.int .i64 0),(.int .i64 0),(.bool false),(.int .u32 0),(.int .u32 0)]),.c (.int .i64 5)]) (.prim .get [.v 0,.c (.int .i64 0)]<|.prim (.conv .i64) [.v 12]<|.prim .get [.v 0,.c (.int .i64 1)]<|.prim (.conv .i64) [.v 14]<|.prim .get [.v 0,.c (.int .i64 2)]<|.prim (.conv .i64) [.v 16]<|.prim .get [.v 0,.c (.int .i64 3)]<|.prim (.conv .i64) [.v 18]<|.prim .get [.v 0,.c (.int .i64 4)]<|.prim (.conv .i64) [.v 20]<|.prim .get [.v 0,.c (.int .i64 5)]<|.prim (.conv .i64) [.v 22]<|.prim .get [.v 0,.c (.int .i64 6)]<|.prim (.bin .eql) [.v 24,.c (.int .u8 1)]<|.prim .len [.v 0]<|.prim .sub [.v 0,.c (.int .i64 7),.v 26]<|.call 158 zdS [.v 27] 1<|.prim .len [.v 0]<|.prim .sub [.v 0,.c (.int .i64 11),.v 29]<|.call 158 zdS [.v 30] 1<|.mkS zhn [.v 13,.v 15,.v 17,.v 19,.v 21,.v 23,.v 25,.v 28,.v 31]<|.sub0 [.bool] (.call 160 zdP [.v 32] 1<|.prim (.un .not) [.v 33]<|.ite (.v 34) (.jmp 0 false [.c (.bool true)]) (.call 162 zd1 [.v 32] 1<|.call 161 zfh [.v 35,.v 0] 1<|.prim (.un .not) [.v 36]<|.jmp 0 false [.v 37])) 1<|.ite (.v 33) (.jmp 0 false [.c (.agg [(.int .i64 0),(.int .i64 0),(.int .i64 0),(.int .i64 0),(.int .i64 0),(.int .i64 0),(.bool false),(.int .u32 0),(.int .u32 0)]),.c (.int .i64 2)]) (.jmp 0 false [.v 32,.c (.int .i64 0)]))))
theorem zkA:zaj cx 12 138=some zgn.erase:=by kernel_rfl
theorem zqE:zzK cx 12 noC 138 zgS:=zbb (t:=zgn) zkA (fun _=>rfl) (zaQ [(158,zdS),(159,zdO),(158,zdS),(158,zdS),(160,zdP),(162,zd1),(161,zfh)] (by kernel_rfl) (.cons zlU (.cons zmL (.cons zlU (.cons zlU (.cons zlO (.cons zli (.cons zo3 .nil)))))))) (fun x=>by kernel_rfl)
def ze0 (p0:Msg):Option ((List Int)×Int) :=
 (zeK p0).bind fun v1=>if !v1 then
 some ((([]:List Int),(1:Int)))
 else
 (zeY p0).bind fun v3=>some ((v3,(0:Int)))
def zhT:FnT:=⟨[zAc],[.sl (.int .u8),.int .i64],fun x=>ze0 x⟩
def ziu:TA :=
 .call 160 zdP [.v 0] 1<|.prim (.un .not) [.v 1]<|.ite (.v 2) (.jmp 0 false [.c .nil,.c (.int .i64 1)]) (.call 162 zd1 [.v 0] 1<|.jmp 0 false [.v 3,.c (.int .i64 0)])
theorem zln:zaj cx 12 173=some ziu.erase:=by kernel_rfl
theorem zq9:zzK cx 12 noC 173 zhT:=zbb (t:=ziu) zln (fun _=>rfl) (zaQ [(160,zdP),(162,zd1)] (by kernel_rfl) (.cons zlO (.cons zli .nil))) (fun x=>by kernel_rfl)
def zfe (p0:Proto) (p1:Int) (p2:Int) (p3:Bool):Option Bool :=
 ((zcf p0 p1 p2).bind fun v4=>if v4 then
 (ze8 p0 p1 p2 p3).bind fun v5=>some (v5)
 else
 some (false):Option Bool).bind fun v4=>some (v4)
def zd5:FnT:=⟨[zaD,.int .i64,.int .i64,.bool],[.bool],fun x=>zfe x.1 x.2.1 x.2.2.1 x.2.2.2⟩
def zh8:TA :=
 .sub0 [.bool] (.call 90 zaY [.v 0,.v 1,.v 2] 1<|.ite (.v 4) (.call 91 zb9 [.v 0,.v 1,.v 2,.v 3] 1<|.jmp 0 false [.v 5]) (.jmp 0 false [.c (.bool false)])) 1<|.jmp 0 false [.v 4]
theorem zmf:zaj cx 12 42=some zh8.erase:=by kernel_rfl
theorem zmc:zzK cx 12 noC 42 zd5:=zbb (t:=zh8) zmf (fun _=>rfl) (zaQ [(90,zaY),(91,zb9)] (by kernel_rfl) (.cons zdE (.cons zic .nil))) (fun x=>by kernel_rfl)
def zc9 (x23:List (List Int)) (x24:Int) (s:(Int×(List (List Int)))):Option ((Int×(List (List Int)))⊕(List (List Int))) :=
 if decide (s.1<x24) then
 (zzG x23 s.1).bind fun v28=>(zat 1 v28).bind fun v29=>(zzN 24 s.2 ([v29]:List (List Int))).bind fun v31=>some (Sum.inl (w64 (s.1 + (1:Int)),v31))
 else
 some (Sum.inr (s.2))
def zdf (x18:List Entry) (x21:Int) (s:(Int×(List Entry))):Option ((Int×(List Entry))⊕(List Entry)) :=
 if decide (s.1<x21) then
 (zzG x18 s.1).bind fun v25=>(zat 1 (Entry.Share v25)).bind fun v28=>(zzN 32 s.2 ([Entry.mk (Entry.Owner v25) v28]:List Entry)).bind fun v31=>some (Sum.inl (w64 (s.1 + (1:Int)),v31))
 else
 some (Sum.inr (s.2))
def zdi (x6:List (List Int)) (x7:Int) (s:(Int×(List (List Int)))):Option ((Int×(List (List Int)))⊕(List (List Int))) :=
 if decide (s.1<x7) then
 (zzG x6 s.1).bind fun v11=>(zat 4 v11).bind fun v12=>(zzN 24 s.2 ([v12]:List (List Int))).bind fun v14=>some (Sum.inl (w64 (s.1 + (1:Int)),v14))
 else
 some (Sum.inr (s.2))
def zc6 (x4:List (List Int)) (x5:Int) (s:(Int×(List (List Int)))):Option ((Int×(List (List Int)))⊕(List (List Int))) :=
 if decide (s.1<x5) then
 (zzG x4 s.1).bind fun v9=>(zat 8 v9).bind fun v10=>(zzN 24 s.2 ([v10]:List (List Int))).bind fun v12=>some (Sum.inl (w64 (s.1 + (1:Int)),v12))
 else
 some (Sum.inr (s.2))
def ze2 (p0:Proto) (p1:Int) (p2:Int) (p3:Int):Option (Proto×Int) :=
 ((let v5:Int:=(List.length (Proto.State p0):Int)
 (zae (zc6 (Proto.State p0) v5) ((0:Int),([]:List (List Int))):Option (List (List Int))).bind fun v6=>some (v6):Option (List (List Int))).bind fun v5=>(let v7:Int:=(List.length (Proto.Val p0):Int)
 (zae (zdi (Proto.Val p0) v7) ((0:Int),([]:List (List Int))):Option (List (List Int))).bind fun v8=>some (v8):Option (List (List Int))).bind fun v7=>(zat 40 (Proto.Wait p0)).bind fun v9=>(zat 4 (Proto.Home p0)).bind fun v11=>(zat 8 (Proto.Busy p0)).bind fun v13=>let v21:Int:=(List.length (Proto.Dir p0):Int)
 (zae (zdf (Proto.Dir p0) v21) ((0:Int),([]:List Entry)):Option (List Entry)).bind fun v22=>let v23:List (List Int):=Pool.Frames (Proto.Pool p0)
 (let v24:Int:=(v23.length:Int)
 (zae (zc9 v23 v24) ((0:Int),([]:List (List Int))):Option (List (List Int))).bind fun v25=>some (v25):Option (List (List Int))).bind fun v24=>some ((v5,v7,v9,v11,v22,v13,v24)):Option ((List (List Int))×(List (List Int))×(List Wait)×(List Int)×(List Entry)×(List Int)×(List (List Int)))).bind fun v4=>(zcf p0 p1 p2).bind fun v11=>if !v11 then
 some ((Proto.mk v4.1 v4.2.1 v4.2.2.1 v4.2.2.2.1 v4.2.2.2.2.1 v4.2.2.2.2.2.1 (Pool.mk v4.2.2.2.2.2.2),(1:Int)))
 else
 (ze8 p0 p1 p2 true).bind fun v13=>if !v13 then
 some ((Proto.mk v4.1 v4.2.1 v4.2.2.1 v4.2.2.2.1 v4.2.2.2.2.1 v4.2.2.2.2.2.1 (Pool.mk v4.2.2.2.2.2.2),(8:Int)))
 else
 (zzH (List.length v4.2.1:Int) p1).bind fun v15=>(zzH (List.length v4.2.1:Int) v15).bind fun v16=>(zzH (List.length v4.1:Int) p1).bind fun v17=>(zzH (List.length v4.1:Int) v17).bind fun v18=>(zzG v4.2.1 v16).bind fun v19=>(zzH (v19.length:Int) p2).bind fun v20=>(zzG v4.2.1 v16).bind fun v21=>(zzI v21 v20 p3).bind fun v22=>(zzI v4.2.1 v16 v22).bind fun v23=>(zzG v4.1 v18).bind fun v24=>(zzH (v24.length:Int) p2).bind fun v25=>(zzG v4.1 v18).bind fun v26=>(zzI v26 v25 (3:Int)).bind fun v27=>(zzI v4.1 v18 v27).bind fun v28=>some ((Proto.mk v28 v23 v4.2.2.1 v4.2.2.2.1 v4.2.2.2.2.1 v4.2.2.2.2.2.1 (Pool.mk v4.2.2.2.2.2.2),(0:Int)))
def zh4:FnT:=⟨[zaD,.int .i64,.int .i64,.int .u32],[zaD,.int .i64],fun x=>ze2 x.1 x.2.1 x.2.2.1 x.2.2.2⟩
def zif:TA :=
 .sub0 [.sl (.sl (.int .i64)),.sl (.sl (.int .u32)),.sl zck,.sl (.int .u32),.sl zaE,.sl (.int .i64),.sl (.sl (.int .u8))] (.prim (.fld 0) [.v 0]<|.sub0 [.sl (.sl (.int .i64))] (.prim .len [.v 4]<|.sub0 [.sl (.sl (.int .i64))] (.loop [.int .i64,.sl (.sl (.int .i64))] [.c (.int .i64 0),.c .nil] (.prim (.bin .lss) [.v 6,.v 5]<|.ite (.v 8) (.prim .get [.v 4,.v 6]<|.prim (.clone 8) [.v 9]<|.mkL (.sl (.int .i64)) [.v 10]<|.prim (.app 24) [.v 7,.v 11]<|.prim (.bin .add) [.v 6,.c (.int .i64 1)]<|.jmp 0 true [.v 13,.v 12]) (.jmp 1 false [.v 7]))) 1<|.jmp 0 false [.v 6]) 1<|.prim (.fld 1) [.v 0]<|.sub0 [.sl (.sl (.int .u32))] (.prim .len [.v 6]<|.sub0 [.sl (.sl (.int .u32))] (.loop [.int .i64,.sl (.sl (.int .u32))] [.c (.int .i64 0),.c .nil] (.prim (.bin .lss) [.v 8,.v 7]<|.ite (.v 10) (.prim .get [.v 6,.v 8]<|.prim (.clone 4) [.v 11]<|.mkL (.sl (.int .u32)) [.v 12]<|.prim (.app 24) [.v 9,.v 13]<|.prim (.bin .add) [.v 8,.c (.int .i64 1)]<|.jmp 0 true [.v 15,.v 14]) (.jmp 1 false [.v 9]))) 1<|.jmp 0 false [.v 8]) 1<|.prim (.fld 2) [.v 0]<|.prim (.clone 40) [.v 8]<|.prim (.fld 3) [.v 0]<|.prim (.clone 4) [.v 10]<|.prim (.fld 5) [.v 0]<|.prim (.clone 8) [.v 12]<|.prim (.fld 0) [.v 0]<|.prim (.fld 1) [.v 0]<|.prim (.fld 2) [.v 0]<|.prim (.fld 3) [.v 0]<|.prim (.fld 4) [.v 0]<|.prim (.fld 5) [.v 0]<|.prim (.fld 6) [.v 0]<|.prim .len [.v 18]<|.sub0 [.sl zaE] (.loop [.int .i64,.sl zaE] [.c (.int .i64 0),.c .nil] (.prim (.bin .lss) [.v 22,.v 21]<|.ite (.v 24) (.prim .get [.v 18,.v 22]<|.prim (.fld 0) [.v 25]<|.prim (.fld 1) [.v 25]<|.prim (.clone 1) [.v 27]<|.mkS zbT [.v 26,.v 28]<|.mkL zaE [.v 29]<|.prim (.app 32) [.v 23,.v 30]<|.prim (.bin .add) [.v 22,.c (.int .i64 1)]<|.jmp 0 true [.v 32,.v 31]) (.jmp 1 false [.v 23]))) 1<|.prim (.fld 0) [.v 20]<|.sub0 [.sl (.sl (.int .u8))] (.prim .len [.v 23]<|.sub0 [.sl (.sl (.int .u8))] (.loop [.int .i64,.sl (.sl (.int .u8))] [.c (.int .i64 0),.c .nil] (.prim (.bin .lss) [.v 25,.v 24]<|.ite (.v 27) (.prim .get [.v 23,.v 25]<|.prim (.clone 1) [.v 28]<|.mkL (.sl (.int .u8)) [.v 29]<|.prim (.app 24) [.v 26,.v 30]<|.prim (.bin .add) [.v 25,.c (.int .i64 1)]<|.jmp 0 true [.v 32,.v 31]) (.jmp 1 false [.v 26]))) 1<|.jmp 0 false [.v 25]) 1<|.jmp 0 false [.v 5,.v 7,.v 9,.v 11,.v 22,.v 13,.v 24]) 7<|.call 90 zaY [.v 0,.v 1,.v 2] 1<|.prim (.un .not) [.v 11]<|.ite (.v 12) (.mkS zch [.v 10]<|.mkS zbD [.v 4,.v 5,.v 6,.v 7,.v 8,.v 9,.v 13]<|.jmp 0 false [.v 14,.c (.int .i64 1)]) (.call 91 zb9 [.v 0,.v 1,.v 2,.c (.bool true)] 1<|.prim (.un .not) [.v 13]<|.ite (.v 14) (.mkS zch [.v 10]<|.mkS zbD [.v 4,.v 5,.v 6,.v 7,.v 8,.v 9,.v 15]<|.jmp 0 false [.v 16,.c (.int .i64 8)]) (.prim .idx [.v 5,.v 1]<|.prim .idx [.v 5,.v 15]<|.prim .idx [.v 4,.v 1]<|.prim .idx [.v 4,.v 17]<|.prim .get [.v 5,.v 16]<|.prim .idx [.v 19,.v 2]<|.prim .get [.v 5,.v 16]<|.prim .set [.v 21,.v 20,.v 3]<|.prim .set [.v 5,.v 16,.v 22]<|.prim .get [.v 4,.v 18]<|.prim .idx [.v 24,.v 2]<|.prim .get [.v 4,.v 18]<|.prim .set [.v 26,.v 25,.c (.int .i64 3)]<|.prim .set [.v 4,.v 18,.v 27]<|.mkS zch [.v 10]<|.mkS zbD [.v 28,.v 23,.v 6,.v 7,.v 8,.v 9,.v 29]<|.jmp 0 false [.v 30,.c (.int .i64 0)]))
theorem zl5:zaj cx 12 48=some zif.erase:=by kernel_rfl
theorem zrN:zzK cx 12 noC 48 zh4:=zbb (t:=zif) zl5 (fun _=>rfl) (zaQ [(90,zaY),(91,zb9)] (by kernel_rfl) (.cons zdE (.cons zic .nil))) (fun x=>by kernel_rfl)
def zbV (x0:Proto) (x1:Int) (x7:Int) (s:Int):Option (Int⊕Unit⊕Bool) :=
 if decide (s<x7) then
 (zg9 x0 s x1).bind fun v10=>if !v10 then
 some (Sum.inr (Sum.inr (false)))
 else
 some (Sum.inl (w64 (s + (1:Int))))
 else
 some (Sum.inr (Sum.inl ()))
def zfW (p0:Proto) (p1:Int):Option Bool :=
 (zcB p0 p1).bind fun v2=>if !v2 then
 some (false)
 else
 (zcA p0).bind fun v4=>if !v4 then
 some (true)
 else
 let v7:Int:=(List.length (Proto.State p0):Int)
 zbv (zae (zbV p0 p1 v7) (0:Int):Option (Unit⊕Bool)) fun v8=>some (true)
def zfw:FnT:=⟨[zaD,.int .i64],[.bool],fun x=>zfW x.1 x.2⟩
def zfE:TA :=
 .call 133 zbt [.v 0,.v 1] 1<|.prim (.un .not) [.v 2]<|.ite (.v 3) (.jmp 0 false [.c (.bool false)]) (.call 51 zc5 [.v 0] 1<|.prim (.un .not) [.v 4]<|.ite (.v 5) (.jmp 0 false [.c (.bool true)]) (.prim (.fld 0) [.v 0]<|.prim .len [.v 6]<|.sub1 [] (.loop [.int .i64] [.c (.int .i64 0)] (.prim (.bin .lss) [.v 8,.v 7]<|.ite (.v 9) (.call 136 zgK [.v 0,.v 8,.v 1] 1<|.prim (.un .not) [.v 10]<|.ite (.v 11) (.jmp 2 false [.c (.bool false)]) (.prim (.bin .add) [.v 8,.c (.int .i64 1)]<|.jmp 0 true [.v 12])) (.jmp 1 false []))) 0<|.jmp 0 false [.c (.bool true)]))
theorem ziP:zaj cx 12 97=some zfE.erase:=by kernel_rfl
theorem zoq:zzK cx 12 noC 97 zfw:=zbb (t:=zfE) ziP (fun _=>rfl) (zaQ [(133,zbt),(51,zc5),(136,zgK)] (by kernel_rfl) (.cons zfG (.cons zkF (.cons zpq .nil)))) (fun x=>by kernel_rfl)
def zdd (p0:Pool) (p1:Int):Option (Pool×Msg×Int) :=
 (zgj p0 p1).bind fun v2=>if !decide (v2.2=(0:Int)) then
 some ((v2.1,(Msg.mk (0:Int) (0:Int) (0:Int) (0:Int) (0:Int) (0:Int) false (0:Int) (0:Int)),v2.2))
 else
 (zzG (Pool.Frames p0) p1).bind fun v6=>(zg5 v6).bind fun v7=>some ((v2.1,v7.1,v7.2))
def ziq:FnT:=⟨[zaS,.int .i64],[zaS,zAc,.int .i64],fun x=>zdd x.1 x.2⟩
def zhJ:TA :=
 .call 137 zhW [.v 0,.v 1] 2<|.prim (.bin .neq) [.v 3,.c (.int .i64 0)]<|.ite (.v 4) (.jmp 0 false [.v 2,.c (.agg [(.int .i64 0),(.int .i64 0),(.int .i64 0),(.int .i64 0),(.int .i64 0),(.int .i64 0),(.bool false),(.int .u32 0),(.int .u32 0)]),.v 3]) (.prim (.fld 0) [.v 0]<|.prim .get [.v 5,.v 1]<|.call 138 zgS [.v 6] 2<|.jmp 0 false [.v 2,.v 7,.v 8])
theorem zlG:zaj cx 12 99=some zhJ.erase:=by kernel_rfl
theorem zrJ:zzK cx 12 noC 99 ziq:=zbb (t:=zhJ) zlG (fun _=>rfl) (zaQ [(137,zhW),(138,zgS)] (by kernel_rfl) (.cons zrc (.cons zqE .nil))) (fun x=>by kernel_rfl)
def zgA (x5:List (List Int)) (x6:Int) (s:(Int×(List (List Int)))):Option ((Int×(List (List Int)))⊕(List (List Int))) :=
 if decide (s.1<x6) then
 (zzG x5 s.1).bind fun v10=>(zat 1 v10).bind fun v11=>(zzN 24 s.2 ([v11]:List (List Int))).bind fun v13=>some (Sum.inl (w64 (s.1 + (1:Int)),v13))
 else
 some (Sum.inr (s.2))
def zaf (p0:Pool) (p1:Msg):Option (Pool×Int) :=
 (ze0 p1).bind fun v2=>((zcK p0).bind fun v4=>if !v4 then
 some (true)
 else
 some ((!decide (v2.2=(0:Int)))):Option Bool).bind fun v4=>if v4 then
 (let v6:Int:=(List.length (Pool.Frames p0):Int)
 (zae (zgA (Pool.Frames p0) v6) ((0:Int),([]:List (List Int))):Option (List (List Int))).bind fun v7=>some (v7):Option (List (List Int))).bind fun v5=>some ((Pool.mk v5,(1:Int)))
 else
 (let v6:Int:=(List.length (Pool.Frames p0):Int)
 (zae (zgA (Pool.Frames p0) v6) ((0:Int),([]:List (List Int))):Option (List (List Int))).bind fun v7=>some (v7):Option (List (List Int))).bind fun v5=>((zcr (Pool.mk v5)).bind fun v7=>if decide (v7=(0:Int)) then
 some (((6:Int),v5))
 else
 (zat 1 v2.1).bind fun v9=>(zzN 24 v5 ([v9]:List (List Int))).bind fun v11=>some (((0:Int),v11)):Option (Int×(List (List Int)))).bind fun v6=>some ((Pool.mk v6.2,v6.1))
def zab:FnT:=⟨[zaS,zAc],[zaS,.int .i64],fun x=>zaf x.1 x.2⟩
def ziw:TA :=
 .call 173 zhT [.v 1] 2<|.sub0 [.bool] (.call 122 za8 [.v 0] 1<|.prim (.un .not) [.v 4]<|.ite (.v 5) (.jmp 0 false [.c (.bool true)]) (.prim (.bin .neq) [.v 3,.c (.int .i64 0)]<|.jmp 0 false [.v 6])) 1<|.ite (.v 4) (.sub0 [.sl (.sl (.int .u8))] (.prim (.fld 0) [.v 0]<|.prim .len [.v 5]<|.sub0 [.sl (.sl (.int .u8))] (.loop [.int .i64,.sl (.sl (.int .u8))] [.c (.int .i64 0),.c .nil] (.prim (.bin .lss) [.v 7,.v 6]<|.ite (.v 9) (.prim .get [.v 5,.v 7]<|.prim (.clone 1) [.v 10]<|.mkL (.sl (.int .u8)) [.v 11]<|.prim (.app 24) [.v 8,.v 12]<|.prim (.bin .add) [.v 7,.c (.int .i64 1)]<|.jmp 0 true [.v 14,.v 13]) (.jmp 1 false [.v 8]))) 1<|.jmp 0 false [.v 7]) 1<|.mkS zch [.v 5]<|.jmp 0 false [.v 6,.c (.int .i64 1)]) (.sub0 [.sl (.sl (.int .u8))] (.prim (.fld 0) [.v 0]<|.prim .len [.v 5]<|.sub0 [.sl (.sl (.int .u8))] (.loop [.int .i64,.sl (.sl (.int .u8))] [.c (.int .i64 0),.c .nil] (.prim (.bin .lss) [.v 7,.v 6]<|.ite (.v 9) (.prim .get [.v 5,.v 7]<|.prim (.clone 1) [.v 10]<|.mkL (.sl (.int .u8)) [.v 11]<|.prim (.app 24) [.v 8,.v 12]<|.prim (.bin .add) [.v 7,.c (.int .i64 1)]<|.jmp 0 true [.v 14,.v 13]) (.jmp 1 false [.v 8]))) 1<|.jmp 0 false [.v 7]) 1<|.sub0 [.int .i64,.sl (.sl (.int .u8))] (.mkS zch [.v 5]<|.call 93 zbr [.v 6] 1<|.prim (.bin .eql) [.v 7,.c (.int .i64 0)]<|.ite (.v 8) (.jmp 0 false [.c (.int .i64 6),.v 5]) (.prim (.clone 1) [.v 2]<|.mkL (.sl (.int .u8)) [.v 9]<|.prim (.app 24) [.v 5,.v 10]<|.jmp 0 false [.c (.int .i64 0),.v 11])) 2<|.mkS zch [.v 7]<|.jmp 0 false [.v 8,.v 6])
theorem zlc:zaj cx 12 154=some ziw.erase:=by kernel_rfl
theorem zaI:zzK cx 12 noC 154 zab:=zbb (t:=ziw) zlc (fun _=>rfl) (zaQ [(173,zhT),(122,za8),(93,zbr)] (by kernel_rfl) (.cons zq9 (.cons zem (.cons zfp .nil)))) (fun x=>by kernel_rfl)
def zcM (p0:Proto) (p1:Int) (p2:Int) (p3:Bool):Option (Proto×Int) :=
 ((let v5:Int:=(List.length (Proto.State p0):Int)
 (zae (zc6 (Proto.State p0) v5) ((0:Int),([]:List (List Int))):Option (List (List Int))).bind fun v6=>some (v6):Option (List (List Int))).bind fun v5=>(let v7:Int:=(List.length (Proto.Val p0):Int)
 (zae (zdi (Proto.Val p0) v7) ((0:Int),([]:List (List Int))):Option (List (List Int))).bind fun v8=>some (v8):Option (List (List Int))).bind fun v7=>(zat 40 (Proto.Wait p0)).bind fun v9=>(zat 4 (Proto.Home p0)).bind fun v11=>(zat 8 (Proto.Busy p0)).bind fun v13=>let v21:Int:=(List.length (Proto.Dir p0):Int)
 (zae (zdf (Proto.Dir p0) v21) ((0:Int),([]:List Entry)):Option (List Entry)).bind fun v22=>let v23:List (List Int):=Pool.Frames (Proto.Pool p0)
 (let v24:Int:=(v23.length:Int)
 (zae (zc9 v23 v24) ((0:Int),([]:List (List Int))):Option (List (List Int))).bind fun v25=>some (v25):Option (List (List Int))).bind fun v24=>some ((v5,v7,v9,v11,v22,v13,v24)):Option ((List (List Int))×(List (List Int))×(List Wait)×(List Int)×(List Entry)×(List Int)×(List (List Int)))).bind fun v4=>(zcf p0 p1 p2).bind fun v11=>if !v11 then
 some ((Proto.mk v4.1 v4.2.1 v4.2.2.1 v4.2.2.2.1 v4.2.2.2.2.1 v4.2.2.2.2.2.1 (Pool.mk v4.2.2.2.2.2.2),(1:Int)))
 else
 ((zzG (Proto.Wait p0) p1).bind fun v14=>if decide ((0:Int)<(Wait.Line v14)) then
 some (true)
 else
 (ze8 p0 p1 p2 p3).bind fun v17=>some (v17):Option Bool).bind fun v13=>if v13 then
 some ((Proto.mk v4.1 v4.2.1 v4.2.2.1 v4.2.2.2.1 v4.2.2.2.2.1 v4.2.2.2.2.2.1 (Pool.mk v4.2.2.2.2.2.2),(8:Int)))
 else
 (zcr (Proto.Pool p0)).bind fun v15=>if decide (v15=(0:Int)) then
 some ((Proto.mk v4.1 v4.2.1 v4.2.2.1 v4.2.2.2.1 v4.2.2.2.2.1 v4.2.2.2.2.2.1 (Pool.mk v4.2.2.2.2.2.2),(6:Int)))
 else
 (zzH (List.length v4.2.2.1:Int) p1).bind fun v19=>(zzI v4.2.2.1 v19 (Wait.mk (w64 (p2 + (1:Int))) p3 false false false false (0:Int) (0:Int) (0:Int))).bind fun v20=>((zzH (v20.length:Int) p1).bind fun v21=>(zzG v20 v21).bind fun v22=>let v27:Msg:=Msg.mk (1:Int) (w64 (p1 + (1:Int))) (0:Int) (w64 ((Wait.Line v22) - (1:Int))) (w64 (p1 + (1:Int))) (0:Int) false (0:Int) (0:Int)
 (if Wait.Back v22 then
 (zzH (List.length v4.2.1:Int) p1).bind fun v29=>(zzH (List.length v4.2.1:Int) v29).bind fun v30=>(zzG v4.2.1 v30).bind fun v32=>(zzH (v32.length:Int) (Msg.Line v27)).bind fun v33=>(zzG v4.2.1 v30).bind fun v34=>(zzG v34 v33).bind fun v35=>some ((Msg.setVal (Msg.setFor (Msg.setKind v27 (8:Int)) (0:Int)) v35))
 else
 some ((bif Wait.Write v22 then Msg.setKind v27 (2:Int) else v27)):Option Msg).bind fun v29=>((zaf (Pool.mk v4.2.2.2.2.2.2) v29).bind fun v31=>some (v31.1):Option Pool).bind fun v30=>some (v30):Option Pool).bind fun v21=>some ((Proto.mk v4.1 v4.2.1 v20 v4.2.2.2.1 v4.2.2.2.2.1 v4.2.2.2.2.2.1 v21,(0:Int)))
def zgZ:FnT:=⟨[zaD,.int .i64,.int .i64,.bool],[zaD,.int .i64],fun x=>zcM x.1 x.2.1 x.2.2.1 x.2.2.2⟩
def zgh:TA :=
 .sub0 [.sl (.sl (.int .i64)),.sl (.sl (.int .u32)),.sl zck,.sl (.int .u32),.sl zaE,.sl (.int .i64),.sl (.sl (.int .u8))] (.prim (.fld 0) [.v 0]<|.sub0 [.sl (.sl (.int .i64))] (.prim .len [.v 4]<|.sub0 [.sl (.sl (.int .i64))] (.loop [.int .i64,.sl (.sl (.int .i64))] [.c (.int .i64 0),.c .nil] (.prim (.bin .lss) [.v 6,.v 5]<|.ite (.v 8) (.prim .get [.v 4,.v 6]<|.prim (.clone 8) [.v 9]<|.mkL (.sl (.int .i64)) [.v 10]<|.prim (.app 24) [.v 7,.v 11]<|.prim (.bin .add) [.v 6,.c (.int .i64 1)]<|.jmp 0 true [.v 13,.v 12]) (.jmp 1 false [.v 7]))) 1<|.jmp 0 false [.v 6]) 1<|.prim (.fld 1) [.v 0]<|.sub0 [.sl (.sl (.int .u32))] (.prim .len [.v 6]<|.sub0 [.sl (.sl (.int .u32))] (.loop [.int .i64,.sl (.sl (.int .u32))] [.c (.int .i64 0),.c .nil] (.prim (.bin .lss) [.v 8,.v 7]<|.ite (.v 10) (.prim .get [.v 6,.v 8]<|.prim (.clone 4) [.v 11]<|.mkL (.sl (.int .u32)) [.v 12]<|.prim (.app 24) [.v 9,.v 13]<|.prim (.bin .add) [.v 8,.c (.int .i64 1)]<|.jmp 0 true [.v 15,.v 14]) (.jmp 1 false [.v 9]))) 1<|.jmp 0 false [.v 8]) 1<|.prim (.fld 2) [.v 0]<|.prim (.clone 40) [.v 8]<|.prim (.fld 3) [.v 0]<|.prim (.clone 4) [.v 10]<|.prim (.fld 5) [.v 0]<|.prim (.clone 8) [.v 12]<|.prim (.fld 0) [.v 0]<|.prim (.fld 1) [.v 0]<|.prim (.fld 2) [.v 0]<|.prim (.fld 3) [.v 0]<|.prim (.fld 4) [.v 0]<|.prim (.fld 5) [.v 0]<|.prim (.fld 6) [.v 0]<|.prim .len [.v 18]<|.sub0 [.sl zaE] (.loop [.int .i64,.sl zaE] [.c (.int .i64 0),.c .nil] (.prim (.bin .lss) [.v 22,.v 21]<|.ite (.v 24) (.prim .get [.v 18,.v 22]<|.prim (.fld 0) [.v 25]<|.prim (.fld 1) [.v 25]<|.prim (.clone 1) [.v 27]<|.mkS zbT [.v 26,.v 28]<|.mkL zaE [.v 29]<|.prim (.app 32) [.v 23,.v 30]<|.prim (.bin .add) [.v 22,.c (.int .i64 1)]<|.jmp 0 true [.v 32,.v 31]) (.jmp 1 false [.v 23]))) 1<|.prim (.fld 0) [.v 20]<|.sub0 [.sl (.sl (.int .u8))] (.prim .len [.v 23]<|.sub0 [.sl (.sl (.int .u8))] (.loop [.int .i64,.sl (.sl (.int .u8))] [.c (.int .i64 0),.c .nil] (.prim (.bin .lss) [.v 25,.v 24]<|.ite (.v 27) (.prim .get [.v 23,.v 25]<|.prim (.clone 1) [.v 28]<|.mkL (.sl (.int .u8)) [.v 29]<|.prim (.app 24) [.v 26,.v 30]<|.prim (.bin .add) [.v 25,.c (.int .i64 1)]<|.jmp 0 true [.v 32,.v 31]) (.jmp 1 false [.v 26]))) 1<|.jmp 0 false [.v 25]) 1<|.jmp 0 false [.v 5,.v 7,.v 9,.v 11,.v 22,.v 13,.v 24]) 7<|.call 90 zaY [.v 0,.v 1,.v 2] 1<|.prim (.un .not) [.v 11]<|.ite (.v 12) (.mkS zch [.v 10]<|.mkS zbD [.v 4,.v 5,.v 6,.v 7,.v 8,.v 9,.v 13]<|.jmp 0 false [.v 14,.c (.int .i64 1)]) (.sub0 [.bool] (.prim (.fld 2) [.v 0]<|.prim .get [.v 13,.v 1]<|.prim (.fld 0) [.v 14]<|.prim (.bin .gtr) [.v 15,.c (.int .i64 0)]<|.ite (.v 16) (.jmp 0 false [.c (.bool true)]) (.call 91 zb9 [.v 0,.v 1,.v 2,.v 3] 1<|.jmp 0 false [.v 17])) 1<|.ite (.v 13) (.mkS zch [.v 10]<|.mkS zbD [.v 4,.v 5,.v 6,.v 7,.v 8,.v 9,.v 14]<|.jmp 0 false [.v 15,.c (.int .i64 8)]) (.prim (.fld 6) [.v 0]<|.call 93 zbr [.v 14] 1<|.prim (.bin .eql) [.v 15,.c (.int .i64 0)]<|.ite (.v 16) (.mkS zch [.v 10]<|.mkS zbD [.v 4,.v 5,.v 6,.v 7,.v 8,.v 9,.v 17]<|.jmp 0 false [.v 18,.c (.int .i64 6)]) (.prim (.bin .add) [.v 2,.c (.int .i64 1)]<|.mkS zuO [.v 17,.v 3,.c (.bool false),.c (.bool false),.c (.bool false),.c (.bool false),.c (.int .i64 0),.c (.int .i64 0),.c (.int .u32 0)]<|.prim .idx [.v 6,.v 1]<|.prim .set [.v 6,.v 19,.v 18]<|.sub0 [zaS] (.prim .idx [.v 20,.v 1]<|.prim .get [.v 20,.v 21]<|.prim (.bin .add) [.v 1,.c (.int .i64 1)]<|.prim (.fld 0) [.v 22]<|.prim (.bin .sub) [.v 24,.c (.int .i64 1)]<|.prim (.bin .add) [.v 1,.c (.int .i64 1)]<|.mkS zhn [.c (.int .i64 1),.v 23,.c (.int .i64 0),.v 25,.v 26,.c (.int .i64 0),.c (.bool false),.c (.int .u32 0),.c (.int .u32 0)]<|.prim (.fld 2) [.v 22]<|.sub0 [zAc] (.ite (.v 28) (.prim .idx [.v 5,.v 1]<|.prim .idx [.v 5,.v 29]<|.prim (.fld 3) [.v 27]<|.prim .get [.v 5,.v 30]<|.prim .idx [.v 32,.v 31]<|.prim .get [.v 5,.v 30]<|.prim .get [.v 34,.v 33]<|.prim (.setf 0) [.v 27,.c (.int .i64 8)]<|.prim (.setf 4) [.v 36,.c (.int .i64 0)]<|.prim (.setf 8) [.v 37,.v 35]<|.jmp 0 false [.v 38]) (.prim (.fld 1) [.v 22]<|.subp [zAc] (.ite (.v 29) (.prim (.setf 0) [.v 27,.c (.int .i64 2)]<|.jmp 0 false [.v 30]) (.jmp 0 false [.v 27])) 1<|.jmp 0 false [.v 30])) 1<|.sub0 [zaS] (.mkS zch [.v 10]<|.call 154 zab [.v 30,.v 29] 2<|.jmp 0 false [.v 31]) 1<|.jmp 0 false [.v 30]) 1<|.mkS zbD [.v 4,.v 5,.v 20,.v 7,.v 8,.v 9,.v 21]<|.jmp 0 false [.v 22,.c (.int .i64 0)])))
theorem zkE:zaj cx 12 45=some zgh.erase:=by kernel_rfl
theorem zqk:zzK cx 12 noC 45 zgZ:=zbb (t:=zgh) zkE (fun _=>rfl) (zaQ [(90,zaY),(91,zb9),(93,zbr),(154,zab)] (by kernel_rfl) (.cons zdE (.cons zic (.cons zfp (.cons zaI .nil))))) (fun x=>by kernel_rfl)
end Go.Proofs.Ytlgjbfdojbmmgaa
