/- The types of this cut, and its functions as functions of plain typed data. Printed by a program of this claim's prover; each is checked here to be what the executor makes of the code. -/
import Derived.Test.YtlgjbfdojbmmgaaProg
import Derived.Test.YtlgjbfdojbmmgaaLim
import Derived.KernelRfl
set_option linter.unusedVariables false
set_option maxRecDepth 100000
noncomputable section
namespace Go.Proofs.Ytlgjbfdojbmmgaa
open Go.SX
abbrev zqY:List Ty:=[.int .i64,.int .i64]
abbrev zmR:Ty:=.st zqY
abbrev zfZ:List Ty:=[.int .i64,.int .i64,.bool,.int .u8]
abbrev zdn:Ty:=.st zfZ
abbrev zuB:List Ty:=[.int .i64,.bool,.bool,.bool,.bool,.bool,.int .i64,.int .i64,.int .u32]
abbrev zci:Ty:=.st zuB
abbrev Wait:Type:=Int×Bool×Bool×Bool×Bool×Bool×Int×Int×Int
def Wait.mk (Line:Int) (Write:Bool) (Back:Bool) (Came:Bool) (Own:Bool) (Keep:Bool) (Need:Int) (Got:Int) (Val:Int):Wait:=(Line,Write,Back,Came,Own,Keep,Need,Got,Val)
def Wait.Line (x:Wait):Int:=x.1
def Wait.Write (x:Wait):Bool:=x.2.1
def Wait.Back (x:Wait):Bool:=x.2.2.1
def Wait.Came (x:Wait):Bool:=x.2.2.2.1
def Wait.Own (x:Wait):Bool:=x.2.2.2.2.1
def Wait.Keep (x:Wait):Bool:=x.2.2.2.2.2.1
def Wait.Need (x:Wait):Int:=x.2.2.2.2.2.2.1
def Wait.Got (x:Wait):Int:=x.2.2.2.2.2.2.2.1
def Wait.Val (x:Wait):Int:=x.2.2.2.2.2.2.2.2
def Wait.setCame (x:Wait) (v:Bool):Wait:=(x.1,x.2.1,x.2.2.1,v,x.2.2.2.2.1,x.2.2.2.2.2.1,x.2.2.2.2.2.2.1,x.2.2.2.2.2.2.2.1,x.2.2.2.2.2.2.2.2)
def Wait.setOwn (x:Wait) (v:Bool):Wait:=(x.1,x.2.1,x.2.2.1,x.2.2.2.1,v,x.2.2.2.2.2.1,x.2.2.2.2.2.2.1,x.2.2.2.2.2.2.2.1,x.2.2.2.2.2.2.2.2)
def Wait.setKeep (x:Wait) (v:Bool):Wait:=(x.1,x.2.1,x.2.2.1,x.2.2.2.1,x.2.2.2.2.1,v,x.2.2.2.2.2.2.1,x.2.2.2.2.2.2.2.1,x.2.2.2.2.2.2.2.2)
def Wait.setNeed (x:Wait) (v:Int):Wait:=(x.1,x.2.1,x.2.2.1,x.2.2.2.1,x.2.2.2.2.1,x.2.2.2.2.2.1,v,x.2.2.2.2.2.2.2.1,x.2.2.2.2.2.2.2.2)
def Wait.setGot (x:Wait) (v:Int):Wait:=(x.1,x.2.1,x.2.2.1,x.2.2.2.1,x.2.2.2.2.1,x.2.2.2.2.2.1,x.2.2.2.2.2.2.1,v,x.2.2.2.2.2.2.2.2)
def Wait.setVal (x:Wait) (v:Int):Wait:=(x.1,x.2.1,x.2.2.1,x.2.2.2.1,x.2.2.2.2.1,x.2.2.2.2.2.1,x.2.2.2.2.2.2.1,x.2.2.2.2.2.2.2.1,v)
@[simp] theorem Wait.Line_mk (Line:Int) (Write:Bool) (Back:Bool) (Came:Bool) (Own:Bool) (Keep:Bool) (Need:Int) (Got:Int) (Val:Int):Wait.Line (Wait.mk Line Write Back Came Own Keep Need Got Val)=Line:=rfl
@[simp] theorem Wait.Write_mk (Line:Int) (Write:Bool) (Back:Bool) (Came:Bool) (Own:Bool) (Keep:Bool) (Need:Int) (Got:Int) (Val:Int):Wait.Write (Wait.mk Line Write Back Came Own Keep Need Got Val)=Write:=rfl
@[simp] theorem Wait.Back_mk (Line:Int) (Write:Bool) (Back:Bool) (Came:Bool) (Own:Bool) (Keep:Bool) (Need:Int) (Got:Int) (Val:Int):Wait.Back (Wait.mk Line Write Back Came Own Keep Need Got Val)=Back:=rfl
@[simp] theorem Wait.Came_mk (Line:Int) (Write:Bool) (Back:Bool) (Came:Bool) (Own:Bool) (Keep:Bool) (Need:Int) (Got:Int) (Val:Int):Wait.Came (Wait.mk Line Write Back Came Own Keep Need Got Val)=Came:=rfl
@[simp] theorem Wait.Own_mk (Line:Int) (Write:Bool) (Back:Bool) (Came:Bool) (Own:Bool) (Keep:Bool) (Need:Int) (Got:Int) (Val:Int):Wait.Own (Wait.mk Line Write Back Came Own Keep Need Got Val)=Own:=rfl
@[simp] theorem Wait.Keep_mk (Line:Int) (Write:Bool) (Back:Bool) (Came:Bool) (Own:Bool) (Keep:Bool) (Need:Int) (Got:Int) (Val:Int):Wait.Keep (Wait.mk Line Write Back Came Own Keep Need Got Val)=Keep:=rfl
@[simp] theorem Wait.Need_mk (Line:Int) (Write:Bool) (Back:Bool) (Came:Bool) (Own:Bool) (Keep:Bool) (Need:Int) (Got:Int) (Val:Int):Wait.Need (Wait.mk Line Write Back Came Own Keep Need Got Val)=Need:=rfl
@[simp] theorem Wait.Got_mk (Line:Int) (Write:Bool) (Back:Bool) (Came:Bool) (Own:Bool) (Keep:Bool) (Need:Int) (Got:Int) (Val:Int):Wait.Got (Wait.mk Line Write Back Came Own Keep Need Got Val)=Got:=rfl
@[simp] theorem Wait.Val_mk (Line:Int) (Write:Bool) (Back:Bool) (Came:Bool) (Own:Bool) (Keep:Bool) (Need:Int) (Got:Int) (Val:Int):Wait.Val (Wait.mk Line Write Back Came Own Keep Need Got Val)=Val:=rfl
@[simp] theorem Wait.setCame_eq (x:Wait) (v:Bool):Wait.setCame x v=Wait.mk (Wait.Line x) (Wait.Write x) (Wait.Back x) v (Wait.Own x) (Wait.Keep x) (Wait.Need x) (Wait.Got x) (Wait.Val x):=rfl
@[simp] theorem Wait.setOwn_eq (x:Wait) (v:Bool):Wait.setOwn x v=Wait.mk (Wait.Line x) (Wait.Write x) (Wait.Back x) (Wait.Came x) v (Wait.Keep x) (Wait.Need x) (Wait.Got x) (Wait.Val x):=rfl
@[simp] theorem Wait.setKeep_eq (x:Wait) (v:Bool):Wait.setKeep x v=Wait.mk (Wait.Line x) (Wait.Write x) (Wait.Back x) (Wait.Came x) (Wait.Own x) v (Wait.Need x) (Wait.Got x) (Wait.Val x):=rfl
@[simp] theorem Wait.setNeed_eq (x:Wait) (v:Int):Wait.setNeed x v=Wait.mk (Wait.Line x) (Wait.Write x) (Wait.Back x) (Wait.Came x) (Wait.Own x) (Wait.Keep x) v (Wait.Got x) (Wait.Val x):=rfl
@[simp] theorem Wait.setGot_eq (x:Wait) (v:Int):Wait.setGot x v=Wait.mk (Wait.Line x) (Wait.Write x) (Wait.Back x) (Wait.Came x) (Wait.Own x) (Wait.Keep x) (Wait.Need x) v (Wait.Val x):=rfl
@[simp] theorem Wait.setVal_eq (x:Wait) (v:Int):Wait.setVal x v=Wait.mk (Wait.Line x) (Wait.Write x) (Wait.Back x) (Wait.Came x) (Wait.Own x) (Wait.Keep x) (Wait.Need x) (Wait.Got x) v:=rfl
@[simp] theorem Wait.eta (x:Wait):Wait.mk (Wait.Line x) (Wait.Write x) (Wait.Back x) (Wait.Came x) (Wait.Own x) (Wait.Keep x) (Wait.Need x) (Wait.Got x) (Wait.Val x)=x:=rfl
abbrev zxR:List Ty:=[.int .i64,.int .i64,.int .u32]
abbrev zuQ:Ty:=.st zxR
abbrev zdt:List Ty:=[.str,.int .u64]
abbrev zbH:Ty:=.st zdt
abbrev zgT:List Ty:=[.int .i64,.int .i64,.int .i64,.int .i64,.int .i64,.int .i64,.bool,.int .u32,.int .u32]
abbrev tMsg:Ty:=.st zgT
abbrev Msg:Type:=Int×Int×Int×Int×Int×Int×Bool×Int×Int
def Msg.mk (Kind:Int) (From:Int) (To:Int) (Line:Int) (For:Int) (Acks:Int) (Own:Bool) (Num:Int) (Val:Int):Msg:=(Kind,From,To,Line,For,Acks,Own,Num,Val)
def Msg.Kind (x:Msg):Int:=x.1
def Msg.From (x:Msg):Int:=x.2.1
def Msg.To (x:Msg):Int:=x.2.2.1
def Msg.Line (x:Msg):Int:=x.2.2.2.1
def Msg.For (x:Msg):Int:=x.2.2.2.2.1
def Msg.Acks (x:Msg):Int:=x.2.2.2.2.2.1
def Msg.Own (x:Msg):Bool:=x.2.2.2.2.2.2.1
def Msg.Num (x:Msg):Int:=x.2.2.2.2.2.2.2.1
def Msg.Val (x:Msg):Int:=x.2.2.2.2.2.2.2.2
def Msg.setKind (x:Msg) (v:Int):Msg:=(v,x.2.1,x.2.2.1,x.2.2.2.1,x.2.2.2.2.1,x.2.2.2.2.2.1,x.2.2.2.2.2.2.1,x.2.2.2.2.2.2.2.1,x.2.2.2.2.2.2.2.2)
def Msg.setFor (x:Msg) (v:Int):Msg:=(x.1,x.2.1,x.2.2.1,x.2.2.2.1,v,x.2.2.2.2.2.1,x.2.2.2.2.2.2.1,x.2.2.2.2.2.2.2.1,x.2.2.2.2.2.2.2.2)
def Msg.setVal (x:Msg) (v:Int):Msg:=(x.1,x.2.1,x.2.2.1,x.2.2.2.1,x.2.2.2.2.1,x.2.2.2.2.2.1,x.2.2.2.2.2.2.1,x.2.2.2.2.2.2.2.1,v)
@[simp] theorem Msg.Kind_mk (Kind:Int) (From:Int) (To:Int) (Line:Int) (For:Int) (Acks:Int) (Own:Bool) (Num:Int) (Val:Int):Msg.Kind (Msg.mk Kind From To Line For Acks Own Num Val)=Kind:=rfl
@[simp] theorem Msg.From_mk (Kind:Int) (From:Int) (To:Int) (Line:Int) (For:Int) (Acks:Int) (Own:Bool) (Num:Int) (Val:Int):Msg.From (Msg.mk Kind From To Line For Acks Own Num Val)=From:=rfl
@[simp] theorem Msg.To_mk (Kind:Int) (From:Int) (To:Int) (Line:Int) (For:Int) (Acks:Int) (Own:Bool) (Num:Int) (Val:Int):Msg.To (Msg.mk Kind From To Line For Acks Own Num Val)=To:=rfl
@[simp] theorem Msg.Line_mk (Kind:Int) (From:Int) (To:Int) (Line:Int) (For:Int) (Acks:Int) (Own:Bool) (Num:Int) (Val:Int):Msg.Line (Msg.mk Kind From To Line For Acks Own Num Val)=Line:=rfl
@[simp] theorem Msg.For_mk (Kind:Int) (From:Int) (To:Int) (Line:Int) (For:Int) (Acks:Int) (Own:Bool) (Num:Int) (Val:Int):Msg.For (Msg.mk Kind From To Line For Acks Own Num Val)=For:=rfl
@[simp] theorem Msg.Acks_mk (Kind:Int) (From:Int) (To:Int) (Line:Int) (For:Int) (Acks:Int) (Own:Bool) (Num:Int) (Val:Int):Msg.Acks (Msg.mk Kind From To Line For Acks Own Num Val)=Acks:=rfl
@[simp] theorem Msg.Own_mk (Kind:Int) (From:Int) (To:Int) (Line:Int) (For:Int) (Acks:Int) (Own:Bool) (Num:Int) (Val:Int):Msg.Own (Msg.mk Kind From To Line For Acks Own Num Val)=Own:=rfl
@[simp] theorem Msg.Num_mk (Kind:Int) (From:Int) (To:Int) (Line:Int) (For:Int) (Acks:Int) (Own:Bool) (Num:Int) (Val:Int):Msg.Num (Msg.mk Kind From To Line For Acks Own Num Val)=Num:=rfl
@[simp] theorem Msg.Val_mk (Kind:Int) (From:Int) (To:Int) (Line:Int) (For:Int) (Acks:Int) (Own:Bool) (Num:Int) (Val:Int):Msg.Val (Msg.mk Kind From To Line For Acks Own Num Val)=Val:=rfl
@[simp] theorem Msg.setKind_eq (x:Msg) (v:Int):Msg.setKind x v=Msg.mk v (Msg.From x) (Msg.To x) (Msg.Line x) (Msg.For x) (Msg.Acks x) (Msg.Own x) (Msg.Num x) (Msg.Val x):=rfl
@[simp] theorem Msg.setFor_eq (x:Msg) (v:Int):Msg.setFor x v=Msg.mk (Msg.Kind x) (Msg.From x) (Msg.To x) (Msg.Line x) v (Msg.Acks x) (Msg.Own x) (Msg.Num x) (Msg.Val x):=rfl
@[simp] theorem Msg.setVal_eq (x:Msg) (v:Int):Msg.setVal x v=Msg.mk (Msg.Kind x) (Msg.From x) (Msg.To x) (Msg.Line x) (Msg.For x) (Msg.Acks x) (Msg.Own x) (Msg.Num x) v:=rfl
@[simp] theorem Msg.eta (x:Msg):Msg.mk (Msg.Kind x) (Msg.From x) (Msg.To x) (Msg.Line x) (Msg.For x) (Msg.Acks x) (Msg.Own x) (Msg.Num x) (Msg.Val x)=x:=rfl
abbrev ztJ:List Ty:=[.int .u8,.int .u8,.int .u8,.int .u8,.bool,.int .u32]
abbrev zgO:Ty:=.st ztJ
abbrev l10_Act:Type:=Int×Int×Int×Int×Bool×Int
def l10_Act.mk (Kind:Int) (N:Int) (Line:Int) (At:Int) (Write:Bool) (Val:Int):l10_Act:=(Kind,N,Line,At,Write,Val)
def l10_Act.Kind (x:l10_Act):Int:=x.1
def l10_Act.N (x:l10_Act):Int:=x.2.1
def l10_Act.Line (x:l10_Act):Int:=x.2.2.1
def l10_Act.At (x:l10_Act):Int:=x.2.2.2.1
def l10_Act.Write (x:l10_Act):Bool:=x.2.2.2.2.1
def l10_Act.Val (x:l10_Act):Int:=x.2.2.2.2.2
@[simp] theorem l10_Act.Kind_mk (Kind:Int) (N:Int) (Line:Int) (At:Int) (Write:Bool) (Val:Int):l10_Act.Kind (l10_Act.mk Kind N Line At Write Val)=Kind:=rfl
@[simp] theorem l10_Act.N_mk (Kind:Int) (N:Int) (Line:Int) (At:Int) (Write:Bool) (Val:Int):l10_Act.N (l10_Act.mk Kind N Line At Write Val)=N:=rfl
@[simp] theorem l10_Act.Line_mk (Kind:Int) (N:Int) (Line:Int) (At:Int) (Write:Bool) (Val:Int):l10_Act.Line (l10_Act.mk Kind N Line At Write Val)=Line:=rfl
@[simp] theorem l10_Act.At_mk (Kind:Int) (N:Int) (Line:Int) (At:Int) (Write:Bool) (Val:Int):l10_Act.At (l10_Act.mk Kind N Line At Write Val)=At:=rfl
@[simp] theorem l10_Act.Write_mk (Kind:Int) (N:Int) (Line:Int) (At:Int) (Write:Bool) (Val:Int):l10_Act.Write (l10_Act.mk Kind N Line At Write Val)=Write:=rfl
@[simp] theorem l10_Act.Val_mk (Kind:Int) (N:Int) (Line:Int) (At:Int) (Write:Bool) (Val:Int):l10_Act.Val (l10_Act.mk Kind N Line At Write Val)=Val:=rfl
@[simp] theorem l10_Act.eta (x:l10_Act):l10_Act.mk (l10_Act.Kind x) (l10_Act.N x) (l10_Act.Line x) (l10_Act.At x) (l10_Act.Write x) (l10_Act.Val x)=x:=rfl
abbrev zvi:List Ty:=[.int .u8,.int .u8,.int .u8,.int .u32]
abbrev zqi:Ty:=.st zvi
abbrev zbU:List Ty:=[.int .i64,.sl .bool]
abbrev zaC:Ty:=.st zbU
abbrev Entry:Type:=Int×(List Bool)
def Entry.mk (Owner:Int) (Share:List Bool):Entry:=(Owner,Share)
def Entry.Owner (x:Entry):Int:=x.1
def Entry.Share (x:Entry):List Bool:=x.2
@[simp] theorem Entry.Owner_mk (Owner:Int) (Share:List Bool):Entry.Owner (Entry.mk Owner Share)=Owner:=rfl
@[simp] theorem Entry.Share_mk (Owner:Int) (Share:List Bool):Entry.Share (Entry.mk Owner Share)=Share:=rfl
@[simp] theorem Entry.eta (x:Entry):Entry.mk (Entry.Owner x) (Entry.Share x)=x:=rfl
abbrev zwI:List Ty:=[.sl (.sl (.int .u32)),.sl (.int .u32),.int .i64]
abbrev ztW:Ty:=.st zwI
abbrev zcc:List Ty:=[.sl (.sl (.int .u8))]
abbrev zaR:Ty:=.st zcc
abbrev Pool:Type:=List (List Int)
def Pool.mk (Frames:List (List Int)):Pool:=Frames
def Pool.Frames (x:Pool):List (List Int):=x
@[simp] theorem Pool.Frames_mk (Frames:List (List Int)):Pool.Frames (Pool.mk Frames)=Frames:=rfl
@[simp] theorem Pool.eta (x:Pool):Pool.mk (Pool.Frames x)=x:=rfl
abbrev zyQ:List Ty:=[.sl (.int .u32),.int .i64,.sl zuQ]
abbrev tLog:Ty:=.st zyQ
abbrev zxd:List Ty:=[ztW,.int .i64,.int .i64,.sl zuQ]
abbrev zwx:Ty:=.st zxd
abbrev zbB:List Ty:=[.sl (.sl (.int .i64)),.sl (.sl (.int .u32)),.sl zci,.sl (.int .u32),.sl zaC,.sl (.int .i64),zaR]
abbrev zaK:Ty:=.st zbB
abbrev Proto:Type:=(List (List Int))×(List (List Int))×(List Ytlgjbfdojbmmgaa.Wait)×(List Int)×(List Ytlgjbfdojbmmgaa.Entry)×(List Int)×Ytlgjbfdojbmmgaa.Pool
def Proto.mk (State:List (List Int)) (Val:List (List Int)) (Wait:List Ytlgjbfdojbmmgaa.Wait) (Home:List Int) (Dir:List Ytlgjbfdojbmmgaa.Entry) (Busy:List Int) (Pool:Ytlgjbfdojbmmgaa.Pool):Proto:=(State,Val,Wait,Home,Dir,Busy,Pool)
def Proto.State (x:Proto):List (List Int):=x.1
def Proto.Val (x:Proto):List (List Int):=x.2.1
def Proto.Wait (x:Proto):List Ytlgjbfdojbmmgaa.Wait:=x.2.2.1
def Proto.Home (x:Proto):List Int:=x.2.2.2.1
def Proto.Dir (x:Proto):List Ytlgjbfdojbmmgaa.Entry:=x.2.2.2.2.1
def Proto.Busy (x:Proto):List Int:=x.2.2.2.2.2.1
def Proto.Pool (x:Proto):Ytlgjbfdojbmmgaa.Pool:=x.2.2.2.2.2.2
@[simp] theorem Proto.State_mk (State:List (List Int)) (Val:List (List Int)) (Wait:List Ytlgjbfdojbmmgaa.Wait) (Home:List Int) (Dir:List Ytlgjbfdojbmmgaa.Entry) (Busy:List Int) (Pool:Ytlgjbfdojbmmgaa.Pool):Proto.State (Proto.mk State Val Wait Home Dir Busy Pool)=State:=rfl
@[simp] theorem Proto.Val_mk (State:List (List Int)) (Val:List (List Int)) (Wait:List Ytlgjbfdojbmmgaa.Wait) (Home:List Int) (Dir:List Ytlgjbfdojbmmgaa.Entry) (Busy:List Int) (Pool:Ytlgjbfdojbmmgaa.Pool):Proto.Val (Proto.mk State Val Wait Home Dir Busy Pool)=Val:=rfl
@[simp] theorem Proto.Wait_mk (State:List (List Int)) (Val:List (List Int)) (Wait:List Ytlgjbfdojbmmgaa.Wait) (Home:List Int) (Dir:List Ytlgjbfdojbmmgaa.Entry) (Busy:List Int) (Pool:Ytlgjbfdojbmmgaa.Pool):Proto.Wait (Proto.mk State Val Wait Home Dir Busy Pool)=Wait:=rfl
@[simp] theorem Proto.Home_mk (State:List (List Int)) (Val:List (List Int)) (Wait:List Ytlgjbfdojbmmgaa.Wait) (Home:List Int) (Dir:List Ytlgjbfdojbmmgaa.Entry) (Busy:List Int) (Pool:Ytlgjbfdojbmmgaa.Pool):Proto.Home (Proto.mk State Val Wait Home Dir Busy Pool)=Home:=rfl
@[simp] theorem Proto.Dir_mk (State:List (List Int)) (Val:List (List Int)) (Wait:List Ytlgjbfdojbmmgaa.Wait) (Home:List Int) (Dir:List Ytlgjbfdojbmmgaa.Entry) (Busy:List Int) (Pool:Ytlgjbfdojbmmgaa.Pool):Proto.Dir (Proto.mk State Val Wait Home Dir Busy Pool)=Dir:=rfl
@[simp] theorem Proto.Busy_mk (State:List (List Int)) (Val:List (List Int)) (Wait:List Ytlgjbfdojbmmgaa.Wait) (Home:List Int) (Dir:List Ytlgjbfdojbmmgaa.Entry) (Busy:List Int) (Pool:Ytlgjbfdojbmmgaa.Pool):Proto.Busy (Proto.mk State Val Wait Home Dir Busy Pool)=Busy:=rfl
@[simp] theorem Proto.Pool_mk (State:List (List Int)) (Val:List (List Int)) (Wait:List Ytlgjbfdojbmmgaa.Wait) (Home:List Int) (Dir:List Ytlgjbfdojbmmgaa.Entry) (Busy:List Int) (Pool:Ytlgjbfdojbmmgaa.Pool):Proto.Pool (Proto.mk State Val Wait Home Dir Busy Pool)=Pool:=rfl
@[simp] theorem Proto.eta (x:Proto):Proto.mk (Proto.State x) (Proto.Val x) (Proto.Wait x) (Proto.Home x) (Proto.Dir x) (Proto.Busy x) (Proto.Pool x)=x:=rfl
abbrev zmy:List Ty:=[zaK]
abbrev ziS:Ty:=.st zmy
def tys:List Ty:=[.no,.no,.int .i64,.int .i64,.bool,.int .u8,.int .u8,zdn,zdn,.str,.str,.str,.int .u64,zbH,zbH,.no,.no,.no,.no,.no,.no,.int .i32,.sl (.sl (.int .u32)),.sl (.int .u32),ztW,ztW,.sl zuQ,zwx,zwx,.int .u32,.no,.no,.int .i64,.no,.no,.no,.no,.no,.no,.no,.no,.no,.no,.no,.no,.no,.no,.no,.no,.no,.no,.no,.no,.no,.sl zqi,zqi,zqi,.no,tLog,tLog,.no,.no,.no,.no,.no,zuQ,zuQ,.sl zgO,.sl (.sl (.int .i64)),.sl zci,.sl zaC,.sl (.int .i64),.sl (.sl (.int .u8)),zaR,zaR,zaK,zaK,.no,.no,.no,zgO,zgO,.no,.no,.no,.no,.no,.no,.no,.no,.sl .bool,zaC,zaC,.no,.no,.no,.no,.no,.no,.no,.no,.no,.no,.no,.no,.no,.no,.no,.no,.no,.no,.no,.no,.no,.no,.no,.no,.no,.no,.no,.no,.no,.no,.no,.no,.no,.no,.no,.no,.no,.no,.no,.no,zci,zci,.no,.no,ziS,ziS,.no,.no,.no,.no,tMsg,tMsg,.no,.no,.no,.no,.no,.no,.no,.no,.no,.no,.no,.no,.no,.no,.no,.no,.no,.no,.no,.no,zmR,zmR,.no,.no,.arr 2 (.int .i64),.no,.no,.no,.no,.no,.no,.no,.no,.no,.no,.no,.no,.sl (.int .u8),.no,.no,.no,.no,.no,.no,.no,.no,.no,.no,.no,.no,.no,.no,.no,.no,.no,.no,.no,.no,.no,.no,.no,.no,.no,.no,.no,.no,.no,.no,.no,.no,.no,.no,.arr 4 (.int .u8),.int .u64,.no,.no,.no,.no,.no,.no,.no,.no,.no,.no,.no,.no,.no,.no,.int .u8,.int .u8,.no,.no,.int .i32,.int .i32,.no,.no,.no]
def cx:Cx:={ P:=Try.prog,ty:=tys,own:=[],inl:=[53,68,84,92,107,108,120,126,127,128,129,130,131,153,156,157,166,174,175,178,180,183],keepL:=[],absL:=[53,68,84,92,119,120,126,127,131,156,162,166,173],lendL:=[79],freshL:=[119],owL:=[],heads:=[(8,[(19,1625013742577505377128561071551527579996047563743922541385772060,⟨22,0,zld 211 0 [(2,.d (.sl zgO) (.v 2)),(3,.d (.int .u8) (.v 3)),(4,.d (.int .u8) (.v 4)),(10,.d .bool (.c (.bool false))),(11,.p zaK zaK 0 []),(13,.h (.int .u32) 1 none),(14,.d (.int .i64) (.v 19))],[.box zaK (.d zaK (.v 20)),.row (.int .u32) (.v 21)]⟩),
 (27,1625013742577505377128561071551527579995990895332617306761866256,⟨29,0,zld 211 0 [(4,.d (.int .u8) (.v 4)),(10,.d .bool (.c (.bool false))),(11,.p zaK zaK 0 []),(13,.h (.int .u32) 1 none),(18,.d (.int .i64) (.v 26)),(19,.d (.int .i64) (.v 27))],[.box zaK (.d zaK (.v 28)),.row (.int .u32) (.v 20)]⟩)]),
 (159,[(2,908,⟨4,0,zld 31 0 [(2,.d (.int .u32) (.c (.int .u32 0))),(3,.d (.int .u32) (.v 2)),(7,.d (.sl (.int .u8)) (.v 0)),(8,.d (.int .i64) (.v 1)),(9,.d (.int .i64) (.v 3))],[]⟩),
 (8,131980,⟨10,0,zld 31 0 [(2,.d (.int .u32) (.c (.int .u32 0))),(3,.d (.int .u32) (.v 8)),(7,.d (.sl (.int .u8)) (.v 0)),(8,.d (.int .i64) (.v 1)),(9,.d (.int .i64) (.v 3)),(17,.d (.int .i64) (.v 9))],[]⟩)])] }
theorem tyOk:TysOk cx:=ztG (by kernel_rfl)
theorem mixed:Try.prog.follows .mixedOrders=true:=by kernel_rfl
def noC:FuncId→List D→Option (List D):=fun _ _=>none
theorem zxI:CallsOk cx noC:=fun _ _ _ _ _ _ _ h=>by cases h
theorem zvp {f:FuncId}{ds rs:List D}(k d:Nat) (h:zdl cx k 12 noC d f ds=some rs):zsp cx 12 noC f ds=some rs:=(zeY cx 12 noC).2 ⟨k,d,h⟩
def zid (p0:Int):Option (Entry×Int) :=
 if (decide (p0<(1:Int)))||(decide ((4:Int)<p0)) then
 some (((Entry.mk (0:Int) ([]:List Bool)),(1:Int)))
 else
 (repO false 1 p0 p0).bind fun v2=>some ((Entry.mk (0:Int) v2,(0:Int)))
def zhS:FnT:=⟨[.int .i64],[zaC,.int .i64],fun x=>zid x⟩
def zhi:TA :=
 .subp [.bool] (.prim (.bin .lss) [.v 0,.c (.int .i64 1)]<|.ite (.v 1) (.jmp 0 false [.c (.bool true)]) (.prim (.bin .gtr) [.v 0,.c (.int .i64 4)]<|.jmp 0 false [.v 2])) 1<|.ite (.v 1) (.jmp 0 false [.c (.agg [(.int .i64 0),.nil]),.c (.int .i64 1)]) (.primH (.rep (.bool false) 1) (.sl .bool) [.v 0,.v 0]<|.mkS zbU [.c (.int .i64 0),.v 2]<|.jmp 0 false [.v 3,.c (.int .i64 0)])
theorem zkG:zao cx 12 89=some zhi.erase:=by kernel_rfl
theorem zp4:FnOk cx 12 noC 89 zhS:=zbv (t:=zhi) zkG (fun _=>rfl) (za3 [] (by kernel_rfl) .nil) (fun x=>by kernel_rfl)
def zew (p0:Proto) (p1:Int) (p2:Int) (p3:Bool):Option Bool :=
 (getO (Proto.State p0) p1).bind fun v5=>(getO v5 p2).bind fun v6=>(getO (Proto.Wait p0) p1).bind fun v8=>if decide ((Wait.Line v8)=(w64 (p2 + (1:Int)))) then
 some (false)
 else
 if p3 then
 some (((decide (v6=(2:Int)))||(decide (v6=(3:Int)))))
 else
 some ((!decide (v6=(0:Int))))
def zbJ:FnT:=⟨[zaK,.int .i64,.int .i64,.bool],[.bool],fun x=>zew x.1 x.2.1 x.2.2.1 x.2.2.2⟩
def zhL:TA :=
 .prim (.fld 0) [.v 0]<|.prim .get [.v 4,.v 1]<|.prim .get [.v 5,.v 2]<|.prim (.fld 2) [.v 0]<|.prim .get [.v 7,.v 1]<|.prim (.fld 0) [.v 8]<|.prim (.bin .add) [.v 2,.c (.int .i64 1)]<|.prim (.bin .eql) [.v 9,.v 10]<|.ite (.v 11) (.jmp 0 false [.c (.bool false)]) (.ite (.v 3) (.subp [.bool] (.prim (.bin .eql) [.v 6,.c (.int .i64 2)]<|.ite (.v 12) (.jmp 0 false [.c (.bool true)]) (.prim (.bin .eql) [.v 6,.c (.int .i64 3)]<|.jmp 0 false [.v 13])) 1<|.jmp 0 false [.v 12]) (.prim (.bin .neq) [.v 6,.c (.int .i64 0)]<|.jmp 0 false [.v 12]))
theorem zkv:zao cx 12 91=some zhL.erase:=by kernel_rfl
theorem zhI:FnOk cx 12 noC 91 zbJ:=zbv (t:=zhL) zkv (fun _=>rfl) (za3 [] (by kernel_rfl) .nil) (fun x=>by kernel_rfl)
def zcw (p0:Proto) (p1:Msg):Bool :=
 let v3:Int:=(List.length (Proto.Wait p0):Int)
 (decide ((Msg.Line p1)<(List.length (Proto.Home p0):Int)))&&((decide ((Msg.From p1)≤v3))&&((decide ((Msg.To p1)≤v3))&&(decide ((Msg.For p1)≤v3))))
def zgt:PnT:=⟨[zaK,tMsg],[.bool],fun x=>zcw x.1 x.2⟩
def zfI:TA :=
 .prim (.fld 2) [.v 0]<|.prim .len [.v 2]<|.subp [.bool] (.prim (.fld 3) [.v 1]<|.prim (.fld 3) [.v 0]<|.prim .len [.v 5]<|.prim (.bin .lss) [.v 4,.v 6]<|.ite (.v 7) (.prim (.fld 1) [.v 1]<|.prim (.bin .leq) [.v 8,.v 3]<|.ite (.v 9) (.prim (.fld 2) [.v 1]<|.prim (.bin .leq) [.v 10,.v 3]<|.ite (.v 11) (.prim (.fld 4) [.v 1]<|.prim (.bin .leq) [.v 12,.v 3]<|.jmp 0 false [.v 13]) (.jmp 0 false [.c (.bool false)])) (.jmp 0 false [.c (.bool false)])) (.jmp 0 false [.c (.bool false)])) 1<|.jmp 0 false [.v 4]
theorem zjZ:zao cx 12 100=some zfI.erase:=by kernel_rfl
theorem zoB:FnOk cx 12 noC 100 zgt.fn:=zqo (t:=zfI) zjZ (fun _=>rfl) (za3 [] (by kernel_rfl) .nil) (fun x=>by kernel_rfl)
def zay (p0:Int) (p1:Int):Bool :=
 (decide ((0:Int)≤p0))&&(decide (p0<p1))
def zam:PnT:=⟨[.int .i64,.int .i64],[.bool],fun x=>zay x.1 x.2⟩
def zel:TA :=
 .subp [.bool] (.prim (.bin .geq) [.v 0,.c (.int .i64 0)]<|.ite (.v 2) (.prim (.bin .lss) [.v 0,.v 1]<|.jmp 0 false [.v 3]) (.jmp 0 false [.c (.bool false)])) 1<|.jmp 0 false [.v 2]
theorem zg1:zao cx 12 123=some zel.erase:=by kernel_rfl
theorem zba:FnOk cx 12 noC 123 zam.fn:=zqo (t:=zel) zg1 (fun _=>rfl) (za3 [] (by kernel_rfl) .nil) (fun x=>by kernel_rfl)
def zeS (p0:Entry) (p1:Int):Option Bool :=
 if (decide (p1<(1:Int)))||((decide ((4:Int)<p1))||((!decide ((List.length (Entry.Share p0):Int)=p1))||((decide ((Entry.Owner p0)<(0:Int)))||(decide (p1<(Entry.Owner p0)))))) then
 some (false)
 else
 (if decide ((Entry.Owner p0)=(0:Int)) then
 some (true)
 else
 (getO (Entry.Share p0) (w64 ((Entry.Owner p0) - (1:Int)))).bind fun v8=>some ((!v8)):Option Bool).bind fun v3=>some (v3)
def zb3:FnT:=⟨[zaC,.int .i64],[.bool],fun x=>zeS x.1 x.2⟩
def zhZ:TA :=
 .subp [.bool] (.prim (.bin .lss) [.v 1,.c (.int .i64 1)]<|.ite (.v 2) (.jmp 0 false [.c (.bool true)]) (.prim (.bin .gtr) [.v 1,.c (.int .i64 4)]<|.ite (.v 3) (.jmp 0 false [.c (.bool true)]) (.prim (.fld 1) [.v 0]<|.prim .len [.v 4]<|.prim (.bin .neq) [.v 5,.v 1]<|.ite (.v 6) (.jmp 0 false [.c (.bool true)]) (.prim (.fld 0) [.v 0]<|.prim (.bin .lss) [.v 7,.c (.int .i64 0)]<|.ite (.v 8) (.jmp 0 false [.c (.bool true)]) (.prim (.fld 0) [.v 0]<|.prim (.bin .gtr) [.v 9,.v 1]<|.jmp 0 false [.v 10]))))) 1<|.ite (.v 2) (.jmp 0 false [.c (.bool false)]) (.sub0 [.bool] (.prim (.fld 0) [.v 0]<|.prim (.bin .eql) [.v 3,.c (.int .i64 0)]<|.ite (.v 4) (.jmp 0 false [.c (.bool true)]) (.prim (.fld 1) [.v 0]<|.prim (.fld 0) [.v 0]<|.prim (.bin .sub) [.v 6,.c (.int .i64 1)]<|.prim .get [.v 5,.v 7]<|.prim (.un .not) [.v 8]<|.jmp 0 false [.v 9])) 1<|.jmp 0 false [.v 3])
theorem zln:zao cx 12 125=some zhZ.erase:=by kernel_rfl
theorem zhz:FnOk cx 12 noC 125 zb3:=zbv (t:=zhZ) zln (fun _=>rfl) (za3 [] (by kernel_rfl) .nil) (fun x=>by kernel_rfl)
def zcB (p0:Int):Bool :=
 decide ((2:Int)≤p0)
def zc6:PnT:=⟨[.int .i64],[.bool],fun x=>zcB x⟩
def zfM:TA :=
 .prim (.bin .geq) [.v 0,.c (.int .i64 2)]<|.jmp 0 false [.v 1]
theorem zjS:zao cx 12 141=some zfM.erase:=by kernel_rfl
theorem zj4:FnOk cx 12 noC 141 zc6.fn:=zqo (t:=zfM) zjS (fun _=>rfl) (za3 [] (by kernel_rfl) .nil) (fun x=>by kernel_rfl)
def zbf (x0:List (List Int)) (x2:Int) (x5:Int) (s:Int):Option (Int⊕Unit⊕Int) :=
 if decide (s<x5) then
 (getO x0 s).bind fun v8=>if !decide ((v8.length:Int)=x2) then
 some (Sum.inr (Sum.inr (s)))
 else
 some (Sum.inl (w64 (s + (1:Int))))
 else
 some (Sum.inr (Sum.inl ()))
def zcO (p0:List (List Int)) (p1:Int) (p2:Int):Option Bool :=
 (if decide ((p0.length:Int)=p1) then
 ((let v5:Int:=(p0.length:Int)
 zbD (zaj (zbf p0 p2 v5) (0:Int):Option (Unit⊕Int)) fun v6=>some ((-1:Int)):Option Int).bind fun v5=>some ((decide ((0:Int)≤v5))):Option Bool).bind fun v5=>some ((!v5))
 else
 some (false):Option Bool).bind fun v3=>some (v3)
def zdj:FnT:=⟨[.sl (.sl (.int .i64)),.int .i64,.int .i64],[.bool],fun x=>zcO x.1 x.2.1 x.2.2⟩
def zdi:TA :=
 .sub0 [.bool] (.prim .len [.v 0]<|.prim (.bin .eql) [.v 3,.v 1]<|.ite (.v 4) (.sub0 [.bool] (.sub0 [.int .i64] (.prim .len [.v 0]<|.sub1 [] (.loop [.int .i64] [.c (.int .i64 0)] (.prim (.bin .lss) [.v 6,.v 5]<|.ite (.v 7) (.prim .get [.v 0,.v 6]<|.subp [.bool] (.prim .len [.v 8]<|.prim (.bin .neq) [.v 9,.v 2]<|.jmp 0 false [.v 10]) 1<|.ite (.v 9) (.jmp 2 false [.v 6]) (.prim (.bin .add) [.v 6,.c (.int .i64 1)]<|.jmp 0 true [.v 10])) (.jmp 1 false []))) 0<|.jmp 0 false [.c (.int .i64 (-1))]) 1<|.prim (.bin .geq) [.v 5,.c (.int .i64 0)]<|.jmp 0 false [.v 6]) 1<|.prim (.un .not) [.v 5]<|.jmp 0 false [.v 6]) (.jmp 0 false [.c (.bool false)])) 1<|.jmp 0 false [.v 3]
theorem zfE:zao cx 12 149=some zdi.erase:=by kernel_rfl
theorem zj8:FnOk cx 12 noC 149 zdj:=zbv (t:=zdi) zfE (fun _=>rfl) (za3 [] (by kernel_rfl) .nil) (fun x=>by kernel_rfl)
def zcz (p0:List (List Int)) (p1:Int) (p2:Int):Option Bool :=
 (if decide ((p0.length:Int)=p1) then
 ((let v5:Int:=(p0.length:Int)
 zbD (zaj (zbf p0 p2 v5) (0:Int):Option (Unit⊕Int)) fun v6=>some ((-1:Int)):Option Int).bind fun v5=>some ((decide ((0:Int)≤v5))):Option Bool).bind fun v5=>some ((!v5))
 else
 some (false):Option Bool).bind fun v3=>some (v3)
def zca:FnT:=⟨[.sl (.sl (.int .u32)),.int .i64,.int .i64],[.bool],fun x=>zcz x.1 x.2.1 x.2.2⟩
def zb9:TA :=
 .sub0 [.bool] (.prim .len [.v 0]<|.prim (.bin .eql) [.v 3,.v 1]<|.ite (.v 4) (.sub0 [.bool] (.sub0 [.int .i64] (.prim .len [.v 0]<|.sub1 [] (.loop [.int .i64] [.c (.int .i64 0)] (.prim (.bin .lss) [.v 6,.v 5]<|.ite (.v 7) (.prim .get [.v 0,.v 6]<|.subp [.bool] (.prim .len [.v 8]<|.prim (.bin .neq) [.v 9,.v 2]<|.jmp 0 false [.v 10]) 1<|.ite (.v 9) (.jmp 2 false [.v 6]) (.prim (.bin .add) [.v 6,.c (.int .i64 1)]<|.jmp 0 true [.v 10])) (.jmp 1 false []))) 0<|.jmp 0 false [.c (.int .i64 (-1))]) 1<|.prim (.bin .geq) [.v 5,.c (.int .i64 0)]<|.jmp 0 false [.v 6]) 1<|.prim (.un .not) [.v 5]<|.jmp 0 false [.v 6]) (.jmp 0 false [.c (.bool false)])) 1<|.jmp 0 false [.v 3]
theorem zdT:zao cx 12 150=some zb9.erase:=by kernel_rfl
theorem zhQ:FnOk cx 12 noC 150 zca:=zbv (t:=zb9) zdT (fun _=>rfl) (za3 [] (by kernel_rfl) .nil) (fun x=>by kernel_rfl)
def zgs (p0:List Int):Bool :=
 !decide ((p0.length:Int)=(19:Int))
def zet:PnT:=⟨[.sl (.int .u8)],[.bool],fun x=>zgs x⟩
def zek:TA :=
 .prim .len [.v 0]<|.prim (.bin .neq) [.v 1,.c (.int .i64 19)]<|.jmp 0 false [.v 2]
theorem zg8:zao cx 12 152=some zek.erase:=by kernel_rfl
theorem zmx:FnOk cx 12 noC 152 zet.fn:=zqo (t:=zek) zg8 (fun _=>rfl) (za3 [] (by kernel_rfl) .nil) (fun x=>by kernel_rfl)
def zdz (x1:List Int) (s:(Int×Int)):Option ((Int×Int)⊕Int) :=
 if decide (s.2<(4:Int)) then
 (getO x1 s.2).bind fun v5=>(shlO .u32 s.1 (8:Int)).bind fun v6=>some (Sum.inl (bOr .u32 v6 (wu32 v5),w64 (s.2 + (1:Int))))
 else
 some (Sum.inr (s.1))
def zft (p0:List Int):Option Int :=
 let v1:List Int:=cpyT ([(0:Int),(0:Int),(0:Int),(0:Int)]:List Int) p0
 (zaj (zdz v1) ((0:Int),(0:Int)):Option Int).bind fun v2=>some (v2)
def zdL:FnT:=⟨[.sl (.int .u8)],[.int .u32],fun x=>zft x⟩
def zkK:TA :=
 .primH .cpy (.arr 4 (.int .u8)) [.c (.agg [(.int .u8 0),(.int .u8 0),(.int .u8 0),(.int .u8 0)]),.v 0]<|.sub0 [.int .u32] (.loop [.int .u32,.int .i64] [.c (.int .u32 0),.c (.int .i64 0)] (.prim (.bin .lss) [.v 3,.c (.int .i64 4)]<|.ite (.v 4) (.prim .get [.v 1,.v 3]<|.prim (.bin .shl) [.v 2,.c (.int .u64 8)]<|.prim (.conv .u32) [.v 5]<|.prim (.bin .or) [.v 6,.v 7]<|.prim (.bin .add) [.v 3,.c (.int .i64 1)]<|.jmp 0 true [.v 8,.v 9]) (.jmp 1 false [.v 2]))) 1<|.jmp 0 false [.v 2]
theorem zoX:zao cx 12 158=some zkK.erase:=by kernel_rfl
theorem zk2:FnOk cx 12 noC 158 zdL:=zbv (t:=zkK) zoX (fun _=>rfl) (za3 [] (by kernel_rfl) .nil) (fun x=>by kernel_rfl)
def zcU (s:(Int×Int)):Option ((Int×Int)⊕Int) :=
 if decide (s.2<(8:Int)) then
 (shrO .u32 s.1 (1:Int)).bind fun v13=>some (Sum.inl (bif decide ((bAnd .u32 s.1 (1:Int))=(1:Int)) then bXor .u32 v13 (3988292384:Int) else v13,w64 (s.2 + (1:Int))))
 else
 some (Sum.inr (s.1))
def zed (x0:List Int) (x1:Int) (s:(Int×Int)):Option ((Int×Int)⊕Int) :=
 if decide (s.2<x1) then
 (getO x0 s.2).bind fun v5=>(zaj zcU (bXor .u32 s.1 (wu32 v5),(0:Int)):Option Int).bind fun v8=>some (Sum.inl (v8,w64 (s.2 + (1:Int))))
 else
 some (Sum.inr (s.1))
def zdY (p0:List Int):Option Int :=
 let v1:Int:=(p0.length:Int)
 (zaj (zed p0 v1) ((4294967295:Int),(0:Int)):Option Int).bind fun v2=>some ((bNot .u32 v2))
def zdV:FnT:=⟨[.sl (.int .u8)],[.int .u32],fun x=>zdY x⟩
def zhT:TA :=
 .prim .len [.v 0]<|.sub0 [.int .u32] (.loop [.int .u32,.int .i64] [.c (.int .u32 4294967295),.c (.int .i64 0)] (.prim (.bin .lss) [.v 3,.v 1]<|.ite (.v 4) (.prim .get [.v 0,.v 3]<|.prim (.conv .u32) [.v 5]<|.prim (.bin .xor) [.v 2,.v 6]<|.sub0 [.int .u32] (.loop [.int .u32,.int .i64] [.v 7,.c (.int .i64 0)] (.prim (.bin .lss) [.v 9,.c (.int .i64 8)]<|.ite (.v 10) (.prim (.bin .and) [.v 8,.c (.int .u32 1)]<|.prim (.bin .eql) [.v 11,.c (.int .u32 1)]<|.prim (.bin .shr) [.v 8,.c (.int .u64 1)]<|.subp [.int .u32] (.ite (.v 12) (.prim (.bin .xor) [.v 13,.c (.int .u32 3988292384)]<|.jmp 0 false [.v 14]) (.jmp 0 false [.v 13])) 1<|.prim (.bin .add) [.v 9,.c (.int .i64 1)]<|.jmp 0 true [.v 14,.v 15]) (.jmp 1 false [.v 8]))) 1<|.prim (.bin .add) [.v 3,.c (.int .i64 1)]<|.jmp 0 true [.v 8,.v 9]) (.jmp 1 false [.v 2]))) 1<|.prim (.un .xor) [.v 2]<|.jmp 0 false [.v 3]
theorem zl4:zao cx 12 159=some zhT.erase:=by kernel_rfl
theorem zkw:FnOk cx 12 noC 159 zdV:=zbv (t:=zhT) zl4 (fun _=>rfl) (za3 [] (by kernel_rfl) .nil) (fun x=>by kernel_rfl)
def bytes_Equal (p0:List Int) (p1:List Int):Option Bool :=
 (b2sO p0).bind fun v2 =>
 (b2sO p1).bind fun v3 =>
 some ((decide (v2=v3)))
def zfv:FnT:=⟨[.sl (.int .u8),.sl (.int .u8)],[.bool],fun x=>bytes_Equal x.1 x.2⟩
def zfc:TA :=
 .prim .b2s [.v 0]<|.prim .b2s [.v 1]<|.prim (.bin .eql) [.v 2,.v 3]<|.jmp 0 false [.v 4]
theorem ziN:zao cx 12 161=some zfc.erase:=by kernel_rfl
theorem znl:FnOk cx 12 noC 161 zfv:=zbv (t:=zfc) ziN (fun _=>rfl) (za3 [] (by kernel_rfl) .nil) (fun x=>by kernel_rfl)
def zaa (p0:Int):Bool :=
 (decide ((0:Int)≤p0))&&(decide (p0≤(255:Int)))
def zeq:PnT:=⟨[.int .i64],[.bool],fun x=>zaa x⟩
def zen:TA :=
 .subp [.bool] (.prim (.bin .geq) [.v 0,.c (.int .i64 0)]<|.ite (.v 1) (.prim (.bin .leq) [.v 0,.c (.int .i64 255)]<|.jmp 0 false [.v 2]) (.jmp 0 false [.c (.bool false)])) 1<|.jmp 0 false [.v 1]
theorem zg4:zao cx 12 177=some zen.erase:=by kernel_rfl
theorem zmf:FnOk cx 12 noC 177 zeq.fn:=zqo (t:=zen) zg4 (fun _=>rfl) (za3 [] (by kernel_rfl) .nil) (fun x=>by kernel_rfl)
def zdA (p0:Int):Option (List Int) :=
 (shrO .u32 p0 (24:Int)).bind fun v1=>(shrO .u32 p0 (16:Int)).bind fun v3=>(shrO .u32 p0 (8:Int)).bind fun v5=>some (([wu8 v1,wu8 v3,wu8 v5,wu8 p0]:List Int))
def zbE:FnT:=⟨[.int .u32],[.sl (.int .u8)],fun x=>zdA x⟩
def zfP:TA :=
 .prim (.bin .shr) [.v 0,.c (.int .u64 24)]<|.prim (.conv .u8) [.v 1]<|.prim (.bin .shr) [.v 0,.c (.int .u64 16)]<|.prim (.conv .u8) [.v 3]<|.prim (.bin .shr) [.v 0,.c (.int .u64 8)]<|.prim (.conv .u8) [.v 5]<|.prim (.conv .u8) [.v 0]<|.mkL (.int .u8) [.v 2,.v 4,.v 6,.v 7]<|.jmp 0 false [.v 8]
theorem zjX:zao cx 12 179=some zfP.erase:=by kernel_rfl
theorem zgc:FnOk cx 12 noC 179 zbE:=zbv (t:=zfP) zjX (fun _=>rfl) (za3 [] (by kernel_rfl) .nil) (fun x=>by kernel_rfl)
def zae (x0:List Bool) (x1:Bool) (x2:Int) (s:Int):Option (Int⊕Unit⊕Int) :=
 if decide (s<x2) then
 (getO x0 s).bind fun v5=>if decide (x1=v5) then
 some (Sum.inr (Sum.inr (s)))
 else
 some (Sum.inl (w64 (s + (1:Int))))
 else
 some (Sum.inr (Sum.inl ()))
def zaJ (p0:List Bool) (p1:Bool):Option Int :=
 let v2:Int:=(p0.length:Int)
 zbD (zaj (zae p0 p1 v2) (0:Int):Option (Unit⊕Int)) fun v3=>some ((-1:Int))
def zbl:FnT:=⟨[.sl .bool,.bool],[.int .i64],fun x=>zaJ x.1 x.2⟩
def zbj:TA :=
 .prim .len [.v 0]<|.sub1 [] (.loop [.int .i64] [.c (.int .i64 0)] (.prim (.bin .lss) [.v 3,.v 2]<|.ite (.v 4) (.prim .get [.v 0,.v 3]<|.prim (.bin .eql) [.v 1,.v 5]<|.ite (.v 6) (.jmp 2 false [.v 3]) (.prim (.bin .add) [.v 3,.c (.int .i64 1)]<|.jmp 0 true [.v 7])) (.jmp 1 false []))) 0<|.jmp 0 false [.c (.int .i64 (-1))]
theorem zcb:zao cx 12 184=some zbj.erase:=by kernel_rfl
theorem zeO:FnOk cx 12 noC 184 zbl:=zbv (t:=zbj) zcb (fun _=>rfl) (za3 [] (by kernel_rfl) .nil) (fun x=>by kernel_rfl)
def zcX (x0:Int) (x1:Int) (s:(Int×(List Entry))):Option ((Int×(List Entry))⊕(List Entry)) :=
 if decide (s.1<x1) then
 (zid x0).bind fun v11=>(appO 32 s.2 ([v11.1]:List Entry)).bind fun v14=>some (Sum.inl (w64 (s.1 + (1:Int)),v14))
 else
 some (Sum.inr (s.2))
def zc0 (x0:Int) (x1:Int) (s:(Int×(List (List Int))×(List (List Int)))):Option ((Int×(List (List Int))×(List (List Int)))⊕((List (List Int))×(List (List Int)))) :=
 if decide (s.1<x0) then
 (repO (0:Int) 8 x1 x1).bind fun v10=>(appO 24 s.2.1 ([v10]:List (List Int))).bind fun v12=>(repO (0:Int) 4 x1 x1).bind fun v13=>(appO 24 s.2.2 ([v13]:List (List Int))).bind fun v15=>some (Sum.inl (w64 (s.1 + (1:Int)),v12,v15))
 else
 some (Sum.inr ((s.2.1,s.2.2)))
def zik (p0:Int) (p1:Int):Option (Proto×Int) :=
 if (decide (p0<(1:Int)))||((decide ((4:Int)<p0))||((decide (p1<(1:Int)))||(decide ((16:Int)<p1)))) then
 some (((Proto.mk ([]:List (List Int)) ([]:List (List Int)) ([]:List Wait) ([]:List Int) ([]:List Entry) ([]:List Int) (Pool.mk ([]:List (List Int)))),(1:Int)))
 else
 (repO (Wait.mk (0:Int) false false false false false (0:Int) (0:Int) (0:Int)) 40 p0 p0).bind fun v3=>(repO (0:Int) 4 p1 p1).bind fun v4=>(repO (0:Int) 8 p1 p1).bind fun v5=>(zaj (zc0 p0 p1) ((0:Int),([]:List (List Int)),([]:List (List Int))):Option ((List (List Int))×(List (List Int)))).bind fun v6=>(zaj (zcX p0 p1) ((0:Int),([]:List Entry)):Option (List Entry)).bind fun v8=>some ((Proto.mk v6.1 v6.2 v3 v4 v8 v5 (Pool.mk ([]:List (List Int))),(0:Int)))
def zha:FnT:=⟨[.int .i64,.int .i64],[zaK,.int .i64],fun x=>zik x.1 x.2⟩
def zhm:TA :=
 .subp [.bool] (.prim (.bin .lss) [.v 0,.c (.int .i64 1)]<|.ite (.v 2) (.jmp 0 false [.c (.bool true)]) (.prim (.bin .gtr) [.v 0,.c (.int .i64 4)]<|.ite (.v 3) (.jmp 0 false [.c (.bool true)]) (.prim (.bin .lss) [.v 1,.c (.int .i64 1)]<|.ite (.v 4) (.jmp 0 false [.c (.bool true)]) (.prim (.bin .gtr) [.v 1,.c (.int .i64 16)]<|.jmp 0 false [.v 5])))) 1<|.ite (.v 2) (.jmp 0 false [.c (.agg [.nil,.nil,.nil,.nil,.nil,.nil,(.agg [.nil])]),.c (.int .i64 1)]) (.primH (.rep (.agg [(.int .i64 0),(.bool false),(.bool false),(.bool false),(.bool false),(.bool false),(.int .i64 0),(.int .i64 0),(.int .u32 0)]) 40) (.sl zci) [.v 0,.v 0]<|.primH (.rep (.int .u32 0) 4) (.sl (.int .u32)) [.v 1,.v 1]<|.primH (.rep (.int .i64 0) 8) (.sl (.int .i64)) [.v 1,.v 1]<|.sub0 [.sl (.sl (.int .i64)),.sl (.sl (.int .u32))] (.loop [.int .i64,.sl (.sl (.int .i64)),.sl (.sl (.int .u32))] [.c (.int .i64 0),.c .nil,.c .nil] (.prim (.bin .lss) [.v 6,.v 0]<|.ite (.v 9) (.primH (.rep (.int .i64 0) 8) (.sl (.int .i64)) [.v 1,.v 1]<|.mkL (.sl (.int .i64)) [.v 10]<|.prim (.app 24) [.v 7,.v 11]<|.primH (.rep (.int .u32 0) 4) (.sl (.int .u32)) [.v 1,.v 1]<|.mkL (.sl (.int .u32)) [.v 13]<|.prim (.app 24) [.v 8,.v 14]<|.prim (.bin .add) [.v 6,.c (.int .i64 1)]<|.jmp 0 true [.v 16,.v 12,.v 15]) (.jmp 1 false [.v 7,.v 8]))) 2<|.sub0 [.sl zaC] (.loop [.int .i64,.sl zaC] [.c (.int .i64 0),.c .nil] (.prim (.bin .lss) [.v 8,.v 1]<|.ite (.v 10) (.call 89 zhS [.v 0] 2<|.mkL zaC [.v 11]<|.prim (.app 32) [.v 9,.v 13]<|.prim (.bin .add) [.v 8,.c (.int .i64 1)]<|.jmp 0 true [.v 15,.v 14]) (.jmp 1 false [.v 9]))) 1<|.mkS zbB [.v 6,.v 7,.v 3,.v 4,.v 8,.v 5,.c (.agg [.nil])]<|.jmp 0 false [.v 9,.c (.int .i64 0)])
theorem zl5:zao cx 12 40=some zhm.erase:=by kernel_rfl
theorem zp6:FnOk cx 12 noC 40 zha:=zbv (t:=zhm) zl5 (fun _=>rfl) (za3 [(89,zhS)] (by kernel_rfl) (.cons zp4 .nil)) (fun x=>by kernel_rfl)
def zd7 (p0:Proto):Option Bool :=
 let v2:Int:=(List.length (Proto.Wait p0):Int)
 let v4:Int:=(List.length (Proto.Home p0):Int)
 if (decide (v2<(1:Int)))||((decide ((4:Int)<v2))||((decide (v4<(1:Int)))||(decide ((16:Int)<v4)))) then
 some (false)
 else
 ((zcO (Proto.State p0) v2 v4).bind fun v7=>if v7 then
 (zcz (Proto.Val p0) v2 v4).bind fun v9=>if v9 then
 if decide ((List.length (Proto.Dir p0):Int)=v4) then
 some ((decide ((List.length (Proto.Busy p0):Int)=v4)))
 else
 some (false)
 else
 some (false)
 else
 some (false):Option Bool).bind fun v6=>some (v6)
def zej:FnT:=⟨[zaK],[.bool],fun x=>zd7 x⟩
def zeu:TA :=
 .prim (.fld 2) [.v 0]<|.prim .len [.v 1]<|.prim (.fld 3) [.v 0]<|.prim .len [.v 3]<|.subp [.bool] (.prim (.bin .lss) [.v 2,.c (.int .i64 1)]<|.ite (.v 5) (.jmp 0 false [.c (.bool true)]) (.prim (.bin .gtr) [.v 2,.c (.int .i64 4)]<|.ite (.v 6) (.jmp 0 false [.c (.bool true)]) (.prim (.bin .lss) [.v 4,.c (.int .i64 1)]<|.ite (.v 7) (.jmp 0 false [.c (.bool true)]) (.prim (.bin .gtr) [.v 4,.c (.int .i64 16)]<|.jmp 0 false [.v 8])))) 1<|.ite (.v 5) (.jmp 0 false [.c (.bool false)]) (.sub0 [.bool] (.prim (.fld 0) [.v 0]<|.call 149 zdj [.v 6,.v 2,.v 4] 1<|.ite (.v 7) (.prim (.fld 1) [.v 0]<|.call 150 zca [.v 8,.v 2,.v 4] 1<|.ite (.v 9) (.prim (.fld 4) [.v 0]<|.prim .len [.v 10]<|.prim (.bin .eql) [.v 11,.v 4]<|.ite (.v 12) (.prim (.fld 5) [.v 0]<|.prim .len [.v 13]<|.prim (.bin .eql) [.v 14,.v 4]<|.jmp 0 false [.v 15]) (.jmp 0 false [.c (.bool false)])) (.jmp 0 false [.c (.bool false)])) (.jmp 0 false [.c (.bool false)])) 1<|.jmp 0 false [.v 6])
theorem zgX:zao cx 12 121=some zeu.erase:=by kernel_rfl
theorem zmo:FnOk cx 12 noC 121 zej:=zbv (t:=zeu) zgX (fun _=>rfl) (za3 [(149,zdj),(150,zca)] (by kernel_rfl) (.cons zj8 (.cons zhQ .nil))) (fun x=>by kernel_rfl)
def zdv (x4:List (List Int)) (x5:Int) (s:Int):Option (Int⊕Unit⊕Int) :=
 if decide (s<x5) then
 (getO x4 s).bind fun v8=>if zgs v8 then
 some (Sum.inr (Sum.inr (s)))
 else
 some (Sum.inl (w64 (s + (1:Int))))
 else
 some (Sum.inr (Sum.inl ()))
def zcx (p0:Pool):Option Bool :=
 (if decide ((List.length (Pool.Frames p0):Int)≤(64:Int)) then
 ((let v5:Int:=(List.length (Pool.Frames p0):Int)
 zbD (zaj (zdv (Pool.Frames p0) v5) (0:Int):Option (Unit⊕Int)) fun v6=>some ((-1:Int)):Option Int).bind fun v5=>some ((decide ((0:Int)≤v5))):Option Bool).bind fun v5=>some ((!v5))
 else
 some (false):Option Bool).bind fun v1=>some (v1)
def za8:FnT:=⟨[zaR],[.bool],fun x=>zcx x⟩
def zgv:TA :=
 .sub0 [.bool] (.prim (.fld 0) [.v 0]<|.prim .len [.v 1]<|.prim (.bin .leq) [.v 2,.c (.int .i64 64)]<|.ite (.v 3) (.prim (.fld 0) [.v 0]<|.sub0 [.bool] (.sub0 [.int .i64] (.prim .len [.v 4]<|.sub1 [] (.loop [.int .i64] [.c (.int .i64 0)] (.prim (.bin .lss) [.v 6,.v 5]<|.ite (.v 7) (.prim .get [.v 4,.v 6]<|.callp 152 zet [.v 8] 1<|.ite (.v 9) (.jmp 2 false [.v 6]) (.prim (.bin .add) [.v 6,.c (.int .i64 1)]<|.jmp 0 true [.v 10])) (.jmp 1 false []))) 0<|.jmp 0 false [.c (.int .i64 (-1))]) 1<|.prim (.bin .geq) [.v 5,.c (.int .i64 0)]<|.jmp 0 false [.v 6]) 1<|.prim (.un .not) [.v 5]<|.jmp 0 false [.v 6]) (.jmp 0 false [.c (.bool false)])) 1<|.jmp 0 false [.v 1]
theorem zjJ:zao cx 12 122=some zgv.erase:=by kernel_rfl
theorem zeb:FnOk cx 12 noC 122 za8:=zbv (t:=zgv) zjJ (fun _=>rfl) (za3 [(152,zet.fn)] (by kernel_rfl) (.cons zmx .nil)) (fun x=>by kernel_rfl)
def zdq (p0:Int):Bool :=
 !(zay p0 (5:Int))
def zd4:PnT:=⟨[.int .i64],[.bool],fun x=>zdq x⟩
def zdC:TA :=
 .callp 123 zam [.v 0,.c (.int .i64 5)] 1<|.prim (.un .not) [.v 1]<|.jmp 0 false [.v 2]
theorem zgi:zao cx 12 124=some zdC.erase:=by kernel_rfl
theorem zlK:FnOk cx 12 noC 124 zd4.fn:=zqo (t:=zdC) zgi (fun _=>rfl) (za3 [(123,zam.fn)] (by kernel_rfl) (.cons zba .nil)) (fun x=>by kernel_rfl)
def zd5 (x20:List (List Int)) (x25:Int) (s:(Int×Int×(List Int))):Option ((Int×Int×(List Int))⊕(Int×(List Int))) :=
 if decide (s.2.1<x25) then
 (idxO (x20.length:Int) s.2.1).bind fun v30=>(getO x20 v30).bind fun v31=>(znD 1 s.2.2 s.1 v31).bind fun v32=>some (Sum.inl (s.1 + (v31.length:Int),w64 (s.2.1 + (1:Int)),v32))
 else
 some (Sum.inr ((s.1,s.2.2)))
def zeh (x20:List (List Int)) (x21:Int) (s:(Int×Int)):Option ((Int×Int)⊕Int) :=
 if decide (s.2<x21) then
 (idxO (x20.length:Int) s.2).bind fun v25=>(getO x20 v25).bind fun v26=>let v28:Int:=w64 (s.1 + (v26.length:Int))
 if decide (v28<(0:Int)) then
 none
 else
 some (Sum.inl (v28,w64 (s.2 + (1:Int))))
 else
 some (Sum.inr (s.1))
def zeR (p0:Msg):Option (List Int) :=
 (zdA (Msg.Num p0)).bind fun v17=>(zdA (Msg.Val p0)).bind fun v19=>let v20:List (List Int):=([([wu8 (Msg.Kind p0),wu8 (Msg.From p0),wu8 (Msg.To p0),wu8 (Msg.Line p0),wu8 (Msg.For p0),wu8 (Msg.Acks p0),bif Msg.Own p0 then (1:Int) else (0:Int)]:List Int),v17,v19]:List (List Int))
 (let v21:Int:=(v20.length:Int)
 (zaj (zeh v20 v21) ((0:Int),(0:Int)):Option Int).bind fun v22=>(if decide (v22<(0:Int)) then
 none
 else
 let v24:Int:=w64 (v22 - (0:Int))
 (if decide ((0:Int)<v24) then
 (zsr (0:Int) 1 ([]:List Int) v24).bind fun v26=>(rngO (v26.length:Int) (0:Int) (0:Int)).bind fun v28=>some ((v28,v26))
 else
 some (((0:Int),([]:List Int))):Option (Int×(List Int))).bind fun v26=>some ((v26.1,v26.2)):Option (Int×(List Int))).bind fun v23=>let v25:Int:=(v20.length:Int)
 (zaj (zd5 v20 v25) (v23.1,(0:Int),v23.2):Option (Int×(List Int))).bind fun v26=>some ((v26.1,v26.2)):Option (Int×(List Int))).bind fun v21=>(subO v21.2 (0:Int) v21.1).bind fun v23=>(zdY v23).bind fun v24=>(zdA v24).bind fun v25=>(znD 1 v21.2 v21.1 v25).bind fun v26=>(subO v26 (0:Int) (v21.1 + (v25.length:Int))).bind fun v29=>some (v29)
def zdS:FnT:=⟨[tMsg],[.sl (.int .u8)],fun x=>zeR x⟩
def zhe:TA :=
 .prim (.fld 6) [.v 0]<|.subp [.int .u8] (.ite (.v 1) (.jmp 0 false [.c (.int .u8 1)]) (.jmp 0 false [.c (.int .u8 0)])) 1<|.prim (.fld 0) [.v 0]<|.prim (.conv .u8) [.v 3]<|.prim (.fld 1) [.v 0]<|.prim (.conv .u8) [.v 5]<|.prim (.fld 2) [.v 0]<|.prim (.conv .u8) [.v 7]<|.prim (.fld 3) [.v 0]<|.prim (.conv .u8) [.v 9]<|.prim (.fld 4) [.v 0]<|.prim (.conv .u8) [.v 11]<|.prim (.fld 5) [.v 0]<|.prim (.conv .u8) [.v 13]<|.mkL (.int .u8) [.v 4,.v 6,.v 8,.v 10,.v 12,.v 14,.v 2]<|.prim (.fld 7) [.v 0]<|.call 179 zbE [.v 16] 1<|.prim (.fld 8) [.v 0]<|.call 179 zbE [.v 18] 1<|.mkL (.sl (.int .u8)) [.v 15,.v 17,.v 19]<|.sub0 [.int .i64,.sl (.int .u8)] (.prim .len [.v 20]<|.sub0 [.int .i64] (.loop [.int .i64,.int .i64] [.c (.int .i64 0),.c (.int .i64 0)] (.prim (.bin .lss) [.v 23,.v 21]<|.ite (.v 24) (.prim .idx [.v 20,.v 23]<|.prim .get [.v 20,.v 25]<|.prim .len [.v 26]<|.prim (.bin .add) [.v 22,.v 27]<|.prim (.bin .lss) [.v 28,.c (.int .i64 0)]<|.ite (.v 29) (.fail 153) (.prim (.bin .add) [.v 23,.c (.int .i64 1)]<|.jmp 0 true [.v 28,.v 30])) (.jmp 1 false [.v 22]))) 1<|.sub0 [.int .i64,.sl (.int .u8)] (.prim (.bin .lss) [.v 22,.c (.int .i64 0)]<|.ite (.v 23) (.fail 153) (.prim (.bin .sub) [.v 22,.c (.int .i64 0)]<|.prim (.bin .gtr) [.v 24,.c (.int .i64 0)]<|.sub0 [.int .i64,.sl (.int .u8)] (.ite (.v 25) (.primH (.zext (.int .u8 0) 1) (.sl (.int .u8)) [.c .nil,.v 24]<|.prim .len [.v 26]<|.prim .rng [.v 26,.c (.int .i64 0),.c (.int .i64 0)]<|.jmp 0 false [.v 28,.v 26]) (.jmp 0 false [.c (.int .i64 0),.c .nil])) 2<|.jmp 0 false [.v 26,.v 27])) 2<|.prim .len [.v 20]<|.sub0 [.int .i64,.sl (.int .u8)] (.loop [.int .i64,.int .i64,.sl (.int .u8)] [.v 23,.c (.int .i64 0),.v 24] (.prim (.bin .lss) [.v 27,.v 25]<|.ite (.v 29) (.prim .idx [.v 20,.v 27]<|.prim .get [.v 20,.v 30]<|.prim (.appv 1) [.v 28,.v 26,.v 31]<|.prim .len [.v 31]<|.prim .vadd [.v 26,.v 33]<|.prim (.bin .add) [.v 27,.c (.int .i64 1)]<|.jmp 0 true [.v 34,.v 35,.v 32]) (.jmp 1 false [.v 26,.v 28]))) 2<|.jmp 0 false [.v 26,.v 27]) 2<|.prim .sub [.v 22,.c (.int .i64 0),.v 21]<|.call 159 zdV [.v 23] 1<|.call 179 zbE [.v 24] 1<|.prim (.appv 1) [.v 22,.v 21,.v 25]<|.prim .len [.v 25]<|.prim .vadd [.v 21,.v 27]<|.prim .sub [.v 26,.c (.int .i64 0),.v 28]<|.jmp 0 false [.v 29]
theorem zlA:zao cx 12 162=some zhe.erase:=by kernel_rfl
theorem zk0:FnOk cx 12 noC 162 zdS:=zbv (t:=zhe) zlA (fun _=>rfl) (za3 [(179,zbE),(179,zbE),(159,zdV),(179,zbE)] (by kernel_rfl) (.cons zgc (.cons zgc (.cons zkw (.cons zgc .nil))))) (fun x=>by kernel_rfl)
def ze0 (p0:Entry) (p1:Int):Option Bool :=
 ((zeS p0 (List.length (Entry.Share p0):Int)).bind fun v4=>if v4 then
 if decide ((0:Int)≤p1) then
 some ((decide (p1<(List.length (Entry.Share p0):Int))))
 else
 some (false)
 else
 some (false):Option Bool).bind fun v2=>some (v2)
def zb7:FnT:=⟨[zaC,.int .i64],[.bool],fun x=>ze0 x.1 x.2⟩
def zh3:TA :=
 .sub0 [.bool] (.prim (.fld 1) [.v 0]<|.prim .len [.v 2]<|.call 125 zb3 [.v 0,.v 3] 1<|.ite (.v 4) (.prim (.bin .geq) [.v 1,.c (.int .i64 0)]<|.ite (.v 5) (.prim (.fld 1) [.v 0]<|.prim .len [.v 6]<|.prim (.bin .lss) [.v 1,.v 7]<|.jmp 0 false [.v 8]) (.jmp 0 false [.c (.bool false)])) (.jmp 0 false [.c (.bool false)])) 1<|.jmp 0 false [.v 2]
theorem zkA:zao cx 12 167=some zh3.erase:=by kernel_rfl
theorem zhv:FnOk cx 12 noC 167 zb7:=zbv (t:=zh3) zkA (fun _=>rfl) (za3 [(125,zb3)] (by kernel_rfl) (.cons zhz .nil)) (fun x=>by kernel_rfl)
def zht (p0:Int):Bool :=
 !(zaa p0)
def zfq:PnT:=⟨[.int .i64],[.bool],fun x=>zht x⟩
def zfn:TA :=
 .callp 177 zeq [.v 0] 1<|.prim (.un .not) [.v 1]<|.jmp 0 false [.v 2]
theorem ziP:zao cx 12 176=some zfn.erase:=by kernel_rfl
theorem znN:FnOk cx 12 noC 176 zfq.fn:=zqo (t:=zfn) ziP (fun _=>rfl) (za3 [(177,zeq.fn)] (by kernel_rfl) (.cons zmf .nil)) (fun x=>by kernel_rfl)
def zaO (p0:List Bool) (p1:Bool):Option Bool :=
 (zaJ p0 p1).bind fun v2=>some ((decide ((0:Int)≤v2)))
def za2:FnT:=⟨[.sl .bool,.bool],[.bool],fun x=>zaO x.1 x.2⟩
def zaZ:TA :=
 .call 184 zbl [.v 0,.v 1] 1<|.prim (.bin .geq) [.v 2,.c (.int .i64 0)]<|.jmp 0 false [.v 3]
theorem zbI:zao cx 12 181=some zaZ.erase:=by kernel_rfl
theorem zdD:FnOk cx 12 noC 181 za2:=zbv (t:=zaZ) zbI (fun _=>rfl) (za3 [(184,zbl)] (by kernel_rfl) (.cons zeO .nil)) (fun x=>by kernel_rfl)
def zbY (x0:Proto) (x3:Int) (x8:List Entry) (x9:Int) (s:Int):Option (Int⊕Unit⊕Bool) :=
 if decide (s<x9) then
 (getO x8 s).bind fun v12=>((zeS v12 x3).bind fun v13=>if !v13 then
 some (true)
 else
 (getO (Proto.Busy x0) s).bind fun v16=>some ((!(zay v16 (w64 (x3 + (1:Int)))))):Option Bool).bind fun v13=>if v13 then
 some (Sum.inr (Sum.inr (false)))
 else
 some (Sum.inl (w64 (s + (1:Int))))
 else
 some (Sum.inr (Sum.inl ()))
def zcN (x13:List Int) (x14:Int) (s:Int):Option (Int⊕Unit⊕Int) :=
 if decide (s<x14) then
 (getO x13 s).bind fun v17=>if zdq v17 then
 some (Sum.inr (Sum.inr (s)))
 else
 some (Sum.inl (w64 (s + (1:Int))))
 else
 some (Sum.inr (Sum.inl ()))
def zcR (x0:Proto) (x5:Int) (x6:List Wait) (x7:Int) (s:Int):Option (Int⊕Unit⊕Bool) :=
 if decide (s<x7) then
 (getO x6 s).bind fun v10=>if (!(zay (Wait.Line v10) (w64 (x5 + (1:Int)))))||((!(zay (Wait.Need v10) (256:Int)))||(!(zay (Wait.Got v10) (256:Int)))) then
 some (Sum.inr (Sum.inr (false)))
 else
 (getO (Proto.State x0) s).bind fun v13=>((let v14:Int:=(v13.length:Int)
 zbD (zaj (zcN v13 v14) (0:Int):Option (Unit⊕Int)) fun v15=>some ((-1:Int)):Option Int).bind fun v14=>some ((decide ((0:Int)≤v14))):Option Bool).bind fun v14=>if v14 then
 some (Sum.inr (Sum.inr (false)))
 else
 some (Sum.inl (w64 (s + (1:Int))))
 else
 some (Sum.inr (Sum.inl ()))
def zb5 (p0:Proto):Option Bool :=
 ((zd7 p0).bind fun v1=>if !v1 then
 some (true)
 else
 (zcx (Proto.Pool p0)).bind fun v4=>some ((!v4)):Option Bool).bind fun v1=>if v1 then
 some (false)
 else
 let v3:Int:=(List.length (Proto.Wait p0):Int)
 let v5:Int:=(List.length (Proto.Home p0):Int)
 let v7:Int:=(List.length (Proto.Wait p0):Int)
 zbD (zaj (zcR p0 v5 (Proto.Wait p0) v7) (0:Int):Option (Unit⊕Bool)) fun v8=>let v9:Int:=(List.length (Proto.Dir p0):Int)
 zbD (zaj (zbY p0 v3 (Proto.Dir p0) v9) (0:Int):Option (Unit⊕Bool)) fun v10=>some (true)
def zcs:FnT:=⟨[zaK],[.bool],fun x=>zb5 x⟩
def ze9:TA :=
 .sub0 [.bool] (.call 121 zej [.v 0] 1<|.prim (.un .not) [.v 1]<|.ite (.v 2) (.jmp 0 false [.c (.bool true)]) (.prim (.fld 6) [.v 0]<|.call 122 za8 [.v 3] 1<|.prim (.un .not) [.v 4]<|.jmp 0 false [.v 5])) 1<|.ite (.v 1) (.jmp 0 false [.c (.bool false)]) (.prim (.fld 2) [.v 0]<|.prim .len [.v 2]<|.prim (.fld 3) [.v 0]<|.prim .len [.v 4]<|.prim (.fld 2) [.v 0]<|.prim .len [.v 6]<|.sub1 [] (.loop [.int .i64] [.c (.int .i64 0)] (.prim (.bin .lss) [.v 8,.v 7]<|.ite (.v 9) (.prim .get [.v 6,.v 8]<|.subp [.bool] (.prim (.fld 0) [.v 10]<|.prim (.bin .add) [.v 5,.c (.int .i64 1)]<|.callp 123 zam [.v 11,.v 12] 1<|.prim (.un .not) [.v 13]<|.ite (.v 14) (.jmp 0 false [.c (.bool true)]) (.prim (.fld 6) [.v 10]<|.callp 123 zam [.v 15,.c (.int .i64 256)] 1<|.prim (.un .not) [.v 16]<|.ite (.v 17) (.jmp 0 false [.c (.bool true)]) (.prim (.fld 7) [.v 10]<|.callp 123 zam [.v 18,.c (.int .i64 256)] 1<|.prim (.un .not) [.v 19]<|.jmp 0 false [.v 20]))) 1<|.ite (.v 11) (.jmp 2 false [.c (.bool false)]) (.prim (.fld 0) [.v 0]<|.prim .get [.v 12,.v 8]<|.sub0 [.bool] (.sub0 [.int .i64] (.prim .len [.v 13]<|.sub1 [] (.loop [.int .i64] [.c (.int .i64 0)] (.prim (.bin .lss) [.v 15,.v 14]<|.ite (.v 16) (.prim .get [.v 13,.v 15]<|.callp 124 zd4 [.v 17] 1<|.ite (.v 18) (.jmp 2 false [.v 15]) (.prim (.bin .add) [.v 15,.c (.int .i64 1)]<|.jmp 0 true [.v 19])) (.jmp 1 false []))) 0<|.jmp 0 false [.c (.int .i64 (-1))]) 1<|.prim (.bin .geq) [.v 14,.c (.int .i64 0)]<|.jmp 0 false [.v 15]) 1<|.ite (.v 14) (.jmp 2 false [.c (.bool false)]) (.prim (.bin .add) [.v 8,.c (.int .i64 1)]<|.jmp 0 true [.v 15]))) (.jmp 1 false []))) 0<|.prim (.fld 4) [.v 0]<|.prim .len [.v 8]<|.sub1 [] (.loop [.int .i64] [.c (.int .i64 0)] (.prim (.bin .lss) [.v 10,.v 9]<|.ite (.v 11) (.prim .get [.v 8,.v 10]<|.sub0 [.bool] (.call 125 zb3 [.v 12,.v 3] 1<|.prim (.un .not) [.v 13]<|.ite (.v 14) (.jmp 0 false [.c (.bool true)]) (.prim (.fld 5) [.v 0]<|.prim .get [.v 15,.v 10]<|.prim (.bin .add) [.v 3,.c (.int .i64 1)]<|.callp 123 zam [.v 16,.v 17] 1<|.prim (.un .not) [.v 18]<|.jmp 0 false [.v 19])) 1<|.ite (.v 13) (.jmp 2 false [.c (.bool false)]) (.prim (.bin .add) [.v 10,.c (.int .i64 1)]<|.jmp 0 true [.v 14])) (.jmp 1 false []))) 0<|.jmp 0 false [.c (.bool true)])
theorem zif:zao cx 12 88=some ze9.erase:=by kernel_rfl
theorem ziF:FnOk cx 12 noC 88 zcs:=zbv (t:=ze9) zif (fun _=>rfl) (za3 [(121,zej),(122,za8),(123,zam.fn),(123,zam.fn),(123,zam.fn),(124,zd4.fn),(125,zb3),(123,zam.fn)] (by kernel_rfl) (.cons zmo (.cons zeb (.cons zba (.cons zba (.cons zba (.cons zlK (.cons zhz (.cons zba .nil))))))))) (fun x=>by kernel_rfl)
def zcj (p0:Pool):Option Int :=
 (zcx p0).bind fun v1=>if !v1 then
 some ((0:Int))
 else
 some ((w64 ((64:Int) - (List.length (Pool.Frames p0):Int))))
def zbo:FnT:=⟨[zaR],[.int .i64],fun x=>zcj x⟩
def zhp:TA :=
 .call 122 za8 [.v 0] 1<|.prim (.un .not) [.v 1]<|.ite (.v 2) (.jmp 0 false [.c (.int .i64 0)]) (.prim (.fld 0) [.v 0]<|.prim .len [.v 3]<|.prim (.bin .sub) [.c (.int .i64 64),.v 4]<|.jmp 0 false [.v 5])
theorem zl0:zao cx 12 93=some zhp.erase:=by kernel_rfl
theorem ze4:FnOk cx 12 noC 93 zbo:=zbv (t:=zhp) zl0 (fun _=>rfl) (za3 [(122,za8)] (by kernel_rfl) (.cons zeb .nil)) (fun x=>by kernel_rfl)
def zeK (p0:Entry) (p1:Int):Option (Entry×Int) :=
 ((zat 1 (Entry.Share p0)).bind fun v3=>some ((Entry.Owner p0,v3)):Option (Int×(List Bool))).bind fun v2=>(ze0 (Entry.mk v2.1 v2.2) p1).bind fun v5=>if !v5 then
 some ((Entry.mk v2.1 v2.2,(1:Int)))
 else
 if !decide (v2.1=(w64 (p1 + (1:Int)))) then
 some ((Entry.mk v2.1 v2.2,(7:Int)))
 else
 some ((Entry.mk (0:Int) v2.2,(0:Int)))
def zgm:FnT:=⟨[zaC,.int .i64],[zaC,.int .i64],fun x=>zeK x.1 x.2⟩
def zf2:TA :=
 .sub0 [.int .i64,.sl .bool] (.prim (.fld 1) [.v 0]<|.prim (.clone 1) [.v 2]<|.prim (.fld 0) [.v 0]<|.prim (.fld 1) [.v 0]<|.jmp 0 false [.v 4,.v 3]) 2<|.mkS zbU [.v 2,.v 3]<|.call 167 zb7 [.v 4,.v 1] 1<|.prim (.un .not) [.v 5]<|.ite (.v 6) (.mkS zbU [.v 2,.v 3]<|.jmp 0 false [.v 7,.c (.int .i64 1)]) (.prim (.bin .add) [.v 1,.c (.int .i64 1)]<|.prim (.bin .neq) [.v 2,.v 7]<|.ite (.v 8) (.mkS zbU [.v 2,.v 3]<|.jmp 0 false [.v 9,.c (.int .i64 7)]) (.mkS zbU [.c (.int .i64 0),.v 3]<|.jmp 0 false [.v 9,.c (.int .i64 0)]))
theorem zj1:zao cx 12 143=some zf2.erase:=by kernel_rfl
theorem zoE:FnOk cx 12 noC 143 zgm:=zbv (t:=zf2) zj1 (fun _=>rfl) (za3 [(167,zb7)] (by kernel_rfl) (.cons zhv .nil)) (fun x=>by kernel_rfl)
def zkm (p0:Pool) (p1:Int):Option Int :=
 (zcx p0).bind fun v2=>if !v2 then
 some ((1:Int))
 else
 if (decide (p1<(0:Int)))||(decide ((List.length (Pool.Frames p0):Int)≤p1)) then
 some ((7:Int))
 else
 some ((0:Int))
def zi8:FnT:=⟨[zaR,.int .i64],[.int .i64],fun x=>zkm x.1 x.2⟩
def zjz:TA :=
 .call 122 za8 [.v 0] 1<|.prim (.un .not) [.v 2]<|.ite (.v 3) (.jmp 0 false [.c (.int .i64 1)]) (.subp [.bool] (.prim (.bin .lss) [.v 1,.c (.int .i64 0)]<|.ite (.v 4) (.jmp 0 false [.c (.bool true)]) (.prim (.fld 0) [.v 0]<|.prim .len [.v 5]<|.prim (.bin .geq) [.v 1,.v 6]<|.jmp 0 false [.v 7])) 1<|.ite (.v 4) (.jmp 0 false [.c (.int .i64 7)]) (.jmp 0 false [.c (.int .i64 0)]))
theorem zm5:zao cx 12 155=some zjz.erase:=by kernel_rfl
theorem zsy:FnOk cx 12 noC 155 zi8:=zbv (t:=zjz) zm5 (fun _=>rfl) (za3 [(122,za8)] (by kernel_rfl) (.cons zeb .nil)) (fun x=>by kernel_rfl)
def zd9 (x6:List Int) (x7:Int) (s:Int):Option (Int⊕Unit⊕Int) :=
 if decide (s<x7) then
 (idxO (x6.length:Int) s).bind fun v10=>(getO x6 v10).bind fun v11=>if zht v11 then
 some (Sum.inr (Sum.inr (s)))
 else
 some (Sum.inl (w64 (s + (1:Int))))
 else
 some (Sum.inr (Sum.inl ()))
def zeM (p0:Msg):Option Bool :=
 let v6:List Int:=([Msg.From p0,Msg.To p0,Msg.Line p0,Msg.For p0,Msg.Acks p0]:List Int)
 ((let v7:Int:=(v6.length:Int)
 zbD (zaj (zd9 v6 v7) (0:Int):Option (Unit⊕Int)) fun v8=>some ((-1:Int)):Option Int).bind fun v7=>some ((decide ((0:Int)≤v7))):Option Bool).bind fun v7=>some (((!v7)&&((decide ((1:Int)≤(Msg.Kind p0)))&&(decide ((Msg.Kind p0)≤(11:Int))))))
def zdP:FnT:=⟨[tMsg],[.bool],fun x=>zeM x⟩
def zhU:TA :=
 .prim (.fld 1) [.v 0]<|.prim (.fld 2) [.v 0]<|.prim (.fld 3) [.v 0]<|.prim (.fld 4) [.v 0]<|.prim (.fld 5) [.v 0]<|.mkL (.int .i64) [.v 1,.v 2,.v 3,.v 4,.v 5]<|.sub0 [.bool] (.sub0 [.int .i64] (.prim .len [.v 6]<|.sub1 [] (.loop [.int .i64] [.c (.int .i64 0)] (.prim (.bin .lss) [.v 8,.v 7]<|.ite (.v 9) (.prim .idx [.v 6,.v 8]<|.prim .get [.v 6,.v 10]<|.callp 176 zfq [.v 11] 1<|.ite (.v 12) (.jmp 2 false [.v 8]) (.prim (.bin .add) [.v 8,.c (.int .i64 1)]<|.jmp 0 true [.v 13])) (.jmp 1 false []))) 0<|.jmp 0 false [.c (.int .i64 (-1))]) 1<|.prim (.bin .geq) [.v 7,.c (.int .i64 0)]<|.jmp 0 false [.v 8]) 1<|.prim (.un .not) [.v 7]<|.subp [.bool] (.ite (.v 8) (.prim (.fld 0) [.v 0]<|.prim (.bin .geq) [.v 9,.c (.int .i64 1)]<|.ite (.v 10) (.prim (.fld 0) [.v 0]<|.prim (.bin .leq) [.v 11,.c (.int .i64 11)]<|.jmp 0 false [.v 12]) (.jmp 0 false [.c (.bool false)])) (.jmp 0 false [.c (.bool false)])) 1<|.jmp 0 false [.v 9]
theorem zlh:zao cx 12 160=some zhU.erase:=by kernel_rfl
theorem zlY:FnOk cx 12 noC 160 zdP:=zbv (t:=zhU) zlh (fun _=>rfl) (za3 [(176,zfq.fn)] (by kernel_rfl) (.cons znN .nil)) (fun x=>by kernel_rfl)
def zgW (x1:Int) (x3:List Bool) (x7:Int) (s:(Int×(List Int))):Option ((Int×(List Int))⊕(List Int)) :=
 if decide (s.1<x7) then
 (idxO (x3.length:Int) s.1).bind fun v11=>(getO x3 v11).bind fun v12=>(if v12&&(!decide (s.1=x1)) then
 (appO 8 s.2 ([s.1]:List Int)).bind fun v15=>some (v15)
 else
 some (s.2):Option (List Int)).bind fun v14=>some (Sum.inl (w64 (s.1 + (1:Int)),v14))
 else
 some (Sum.inr (s.2))
def zdR (p0:Entry) (p1:Int):Option (Entry×Int×(List Int)×Int) :=
 ((zat 1 (Entry.Share p0)).bind fun v3=>some ((Entry.Owner p0,v3)):Option (Int×(List Bool))).bind fun v2=>(ze0 (Entry.mk v2.1 v2.2) p1).bind fun v5=>if !v5 then
 some ((Entry.mk v2.1 v2.2,(0:Int),([]:List Int),(1:Int)))
 else
 (let v7:Int:=(List.length v2.2:Int)
 (zaj (zgW p1 v2.2 v7) ((0:Int),([]:List Int)):Option (List Int)).bind fun v8=>some (v8):Option (List Int)).bind fun v7=>some ((Entry.mk (w64 (p1 + (1:Int))) (List.replicate (List.length v2.2) false),v2.1,v7,(0:Int)))
def ze5:FnT:=⟨[zaC,.int .i64],[zaC,.int .i64,.sl (.int .i64),.int .i64],fun x=>zdR x.1 x.2⟩
def ze2:TA :=
 .sub0 [.int .i64,.sl .bool] (.prim (.fld 1) [.v 0]<|.prim (.clone 1) [.v 2]<|.prim (.fld 0) [.v 0]<|.prim (.fld 1) [.v 0]<|.jmp 0 false [.v 4,.v 3]) 2<|.mkS zbU [.v 2,.v 3]<|.call 167 zb7 [.v 4,.v 1] 1<|.prim (.un .not) [.v 5]<|.ite (.v 6) (.mkS zbU [.v 2,.v 3]<|.jmp 0 false [.v 7,.c (.int .i64 0),.c .nil,.c (.int .i64 1)]) (.sub0 [.sl (.int .i64)] (.prim .len [.v 3]<|.sub0 [.sl (.int .i64)] (.loop [.int .i64,.sl (.int .i64)] [.c (.int .i64 0),.c .nil] (.prim (.bin .lss) [.v 8,.v 7]<|.ite (.v 10) (.prim .idx [.v 3,.v 8]<|.prim .get [.v 3,.v 11]<|.subp [.bool] (.ite (.v 12) (.prim (.bin .neq) [.v 8,.v 1]<|.jmp 0 false [.v 13]) (.jmp 0 false [.c (.bool false)])) 1<|.sub0 [.sl (.int .i64)] (.ite (.v 13) (.mkL (.int .i64) [.v 8]<|.prim (.app 8) [.v 9,.v 14]<|.jmp 0 false [.v 15]) (.jmp 0 false [.v 9])) 1<|.prim (.bin .add) [.v 8,.c (.int .i64 1)]<|.jmp 0 true [.v 15,.v 14]) (.jmp 1 false [.v 9]))) 1<|.jmp 0 false [.v 8]) 1<|.prim (.bin .add) [.v 1,.c (.int .i64 1)]<|.prim (.clr (.bool false)) [.v 3]<|.mkS zbU [.v 8,.v 9]<|.jmp 0 false [.v 10,.v 2,.v 7,.c (.int .i64 0)])
theorem zh6:zao cx 12 163=some ze2.erase:=by kernel_rfl
theorem znZ:FnOk cx 12 noC 163 ze5:=zbv (t:=ze2) zh6 (fun _=>rfl) (za3 [(167,zb7)] (by kernel_rfl) (.cons zhv .nil)) (fun x=>by kernel_rfl)
def zbO (x1:Int) (x3:List Bool) (x8:Int) (s:(Int×(List Int))):Option ((Int×(List Int))⊕(List Int)) :=
 if decide (s.1<x8) then
 (idxO (x3.length:Int) s.1).bind fun v12=>(getO x3 v12).bind fun v13=>(if v13&&(!decide (s.1=x1)) then
 (appO 8 s.2 ([s.1]:List Int)).bind fun v16=>some (v16)
 else
 some (s.2):Option (List Int)).bind fun v15=>some (Sum.inl (w64 (s.1 + (1:Int)),v15))
 else
 some (Sum.inr (s.2))
def zeQ (p0:Entry) (p1:Int):Option (Entry×Int×Int) :=
 ((zat 1 (Entry.Share p0)).bind fun v3=>some ((Entry.Owner p0,v3)):Option (Int×(List Bool))).bind fun v2=>(ze0 (Entry.mk v2.1 v2.2) p1).bind fun v5=>if !v5 then
 some ((Entry.mk v2.1 v2.2,(0:Int),(1:Int)))
 else
 (if decide (v2.1=(0:Int)) then
 (let v8:Int:=(List.length v2.2:Int)
 (zaj (zbO p1 v2.2 v8) ((0:Int),([]:List Int)):Option (List Int)).bind fun v9=>some (v9):Option (List Int)).bind fun v8=>some ((decide ((v8.length:Int)=(0:Int))))
 else
 some (false):Option Bool).bind fun v7=>(if v7 then
 (idxO (List.length v2.2:Int) p1).bind fun v9=>(setO v2.2 v9 false).bind fun v10=>some ((w64 (p1 + (1:Int)),v10))
 else
 (if !decide (v2.1=(w64 (p1 + (1:Int)))) then
 (idxO (List.length v2.2:Int) p1).bind fun v10=>(setO v2.2 v10 true).bind fun v11=>some (v11)
 else
 some (v2.2):Option (List Bool)).bind fun v10=>some ((v2.1,v10)):Option (Int×(List Bool))).bind fun v8=>some ((Entry.mk v8.1 v8.2,v2.1,(0:Int)))
def zgf:FnT:=⟨[zaC,.int .i64],[zaC,.int .i64,.int .i64],fun x=>zeQ x.1 x.2⟩
def zfW:TA :=
 .sub0 [.int .i64,.sl .bool] (.prim (.fld 1) [.v 0]<|.prim (.clone 1) [.v 2]<|.prim (.fld 0) [.v 0]<|.prim (.fld 1) [.v 0]<|.jmp 0 false [.v 4,.v 3]) 2<|.mkS zbU [.v 2,.v 3]<|.call 167 zb7 [.v 4,.v 1] 1<|.prim (.un .not) [.v 5]<|.ite (.v 6) (.mkS zbU [.v 2,.v 3]<|.jmp 0 false [.v 7,.c (.int .i64 0),.c (.int .i64 1)]) (.sub0 [.bool] (.prim (.bin .eql) [.v 2,.c (.int .i64 0)]<|.ite (.v 7) (.sub0 [.sl (.int .i64)] (.prim .len [.v 3]<|.sub0 [.sl (.int .i64)] (.loop [.int .i64,.sl (.int .i64)] [.c (.int .i64 0),.c .nil] (.prim (.bin .lss) [.v 9,.v 8]<|.ite (.v 11) (.prim .idx [.v 3,.v 9]<|.prim .get [.v 3,.v 12]<|.subp [.bool] (.ite (.v 13) (.prim (.bin .neq) [.v 9,.v 1]<|.jmp 0 false [.v 14]) (.jmp 0 false [.c (.bool false)])) 1<|.sub0 [.sl (.int .i64)] (.ite (.v 14) (.mkL (.int .i64) [.v 9]<|.prim (.app 8) [.v 10,.v 15]<|.jmp 0 false [.v 16]) (.jmp 0 false [.v 10])) 1<|.prim (.bin .add) [.v 9,.c (.int .i64 1)]<|.jmp 0 true [.v 16,.v 15]) (.jmp 1 false [.v 10]))) 1<|.jmp 0 false [.v 9]) 1<|.prim .len [.v 8]<|.prim (.bin .eql) [.v 9,.c (.int .i64 0)]<|.jmp 0 false [.v 10]) (.jmp 0 false [.c (.bool false)])) 1<|.sub0 [.int .i64,.sl .bool] (.ite (.v 7) (.prim (.bin .add) [.v 1,.c (.int .i64 1)]<|.prim .idx [.v 3,.v 1]<|.prim .set [.v 3,.v 9,.c (.bool false)]<|.jmp 0 false [.v 8,.v 10]) (.prim (.bin .add) [.v 1,.c (.int .i64 1)]<|.prim (.bin .neq) [.v 2,.v 8]<|.sub0 [.sl .bool] (.ite (.v 9) (.prim .idx [.v 3,.v 1]<|.prim .set [.v 3,.v 10,.c (.bool true)]<|.jmp 0 false [.v 11]) (.jmp 0 false [.v 3])) 1<|.jmp 0 false [.v 2,.v 10])) 2<|.mkS zbU [.v 8,.v 9]<|.jmp 0 false [.v 10,.v 2,.c (.int .i64 0)])
theorem zjB:zao cx 12 164=some zfW.erase:=by kernel_rfl
theorem zox:FnOk cx 12 noC 164 zgf:=zbv (t:=zfW) zjB (fun _=>rfl) (za3 [(167,zb7)] (by kernel_rfl) (.cons zhv .nil)) (fun x=>by kernel_rfl)
def zct (p0:Entry):Option Bool :=
 ((zeS p0 (List.length (Entry.Share p0):Int)).bind fun v3=>if v3 then
 if decide ((0:Int)<(Entry.Owner p0)) then
 (zaO (Entry.Share p0) true).bind fun v7=>some ((!v7))
 else
 some (false)
 else
 some (false):Option Bool).bind fun v1=>some (v1)
def ze1:FnT:=⟨[zaC],[.bool],fun x=>zct x⟩
def zfl:TA :=
 .sub0 [.bool] (.prim (.fld 1) [.v 0]<|.prim .len [.v 1]<|.call 125 zb3 [.v 0,.v 2] 1<|.ite (.v 3) (.prim (.fld 0) [.v 0]<|.prim (.bin .gtr) [.v 4,.c (.int .i64 0)]<|.ite (.v 5) (.prim (.fld 1) [.v 0]<|.call 181 za2 [.v 6,.c (.bool true)] 1<|.prim (.un .not) [.v 7]<|.jmp 0 false [.v 8]) (.jmp 0 false [.c (.bool false)])) (.jmp 0 false [.c (.bool false)])) 1<|.jmp 0 false [.v 1]
theorem zh8:zao cx 12 165=some zfl.erase:=by kernel_rfl
theorem znv:FnOk cx 12 noC 165 ze1:=zbv (t:=zfl) zh8 (fun _=>rfl) (za3 [(125,zb3),(181,za2)] (by kernel_rfl) (.cons zhz (.cons zdD .nil))) (fun x=>by kernel_rfl)
def zb4 (p0:Proto) (p1:Int) (p2:Int):Option Bool :=
 ((zb5 p0).bind fun v3=>if v3 then
 if zay p1 (List.length (Proto.Wait p0):Int) then
 some ((zay p2 (List.length (Proto.Home p0):Int)))
 else
 some (false)
 else
 some (false):Option Bool).bind fun v3=>some (v3)
def zaM:FnT:=⟨[zaK,.int .i64,.int .i64],[.bool],fun x=>zb4 x.1 x.2.1 x.2.2⟩
def zfm:TA :=
 .sub0 [.bool] (.call 88 zcs [.v 0] 1<|.ite (.v 3) (.prim (.fld 2) [.v 0]<|.prim .len [.v 4]<|.callp 123 zam [.v 1,.v 5] 1<|.ite (.v 6) (.prim (.fld 3) [.v 0]<|.prim .len [.v 7]<|.callp 123 zam [.v 2,.v 8] 1<|.jmp 0 false [.v 9]) (.jmp 0 false [.c (.bool false)])) (.jmp 0 false [.c (.bool false)])) 1<|.jmp 0 false [.v 3]
theorem zib:zao cx 12 90=some zfm.erase:=by kernel_rfl
theorem zdr:FnOk cx 12 noC 90 zaM:=zbv (t:=zfm) zib (fun _=>rfl) (za3 [(88,zcs),(123,zam.fn),(123,zam.fn)] (by kernel_rfl) (.cons ziF (.cons zba (.cons zba .nil)))) (fun x=>by kernel_rfl)
def zf0 (x3:List (List Int)) (x4:Int) (s:(Int×(List (List Int)))):Option ((Int×(List (List Int)))⊕(List (List Int))) :=
 if decide (s.1<x4) then
 (getO x3 s.1).bind fun v8=>(zat 1 v8).bind fun v9=>(appO 24 s.2 ([v9]:List (List Int))).bind fun v11=>some (Sum.inl (w64 (s.1 + (1:Int)),v11))
 else
 some (Sum.inr (s.2))
def zf1 (p0:Pool) (p1:Int):Option (Pool×Int) :=
 (zkm p0 p1).bind fun v2=>(let v4:Int:=(List.length (Pool.Frames p0):Int)
 (zaj (zf0 (Pool.Frames p0) v4) ((0:Int),([]:List (List Int))):Option (List (List Int))).bind fun v5=>some (v5):Option (List (List Int))).bind fun v3=>(if decide (v2=(0:Int)) then
 let v5:Int:=w64 (p1 + (1:Int))
 ((zt3 (v3.length:Int) p1 v5 (v3.length:Int)).bind fun v7=>if decide (p1=v5) then
 some (((v3.length:Int),v3))
 else
 (rngO (v3.length:Int) (0:Int) p1).bind fun v11=>(rngO (v3.length:Int) v5 (v3.length:Int)).bind fun v13=>(subO v3 v5 v13).bind fun v14=>(znD 24 v3 v11 v14).bind fun v15=>let v17:Int:=v11 + (v14.length:Int)
 let v18:Int:=v17 - (0:Int)
 (ztt (v15.length:Int) (0:Int) v18 (v3.length:Int)).bind fun v20=>let v21:Int:=(0:Int) + v18
 (subO v15 v21 v20).bind fun v22=>(zt9 v15 v21 v20 (List.replicate (v22.length) ([]:List Int))).bind fun v24=>some ((v17,v24)):Option (Int×(List (List Int)))).bind fun v6=>some ((v6.1,v6.2))
 else
 some (((v3.length:Int),v3)):Option (Int×(List (List Int)))).bind fun v5=>(subO v5.2 (0:Int) v5.1).bind fun v7=>some ((Pool.mk v7,v2))
def zhE:FnT:=⟨[zaR,.int .i64],[zaR,.int .i64],fun x=>zf1 x.1 x.2⟩
def zhb:TA :=
 .call 155 zi8 [.v 0,.v 1] 1<|.sub0 [.sl (.sl (.int .u8))] (.prim (.fld 0) [.v 0]<|.prim .len [.v 3]<|.sub0 [.sl (.sl (.int .u8))] (.loop [.int .i64,.sl (.sl (.int .u8))] [.c (.int .i64 0),.c .nil] (.prim (.bin .lss) [.v 5,.v 4]<|.ite (.v 7) (.prim .get [.v 3,.v 5]<|.prim (.clone 1) [.v 8]<|.mkL (.sl (.int .u8)) [.v 9]<|.prim (.app 24) [.v 6,.v 10]<|.prim (.bin .add) [.v 5,.c (.int .i64 1)]<|.jmp 0 true [.v 12,.v 11]) (.jmp 1 false [.v 6]))) 1<|.jmp 0 false [.v 5]) 1<|.prim (.bin .eql) [.v 2,.c (.int .i64 0)]<|.sub0 [.int .i64,.sl (.sl (.int .u8))] (.ite (.v 4) (.prim (.bin .add) [.v 1,.c (.int .i64 1)]<|.sub0 [.int .i64,.sl (.sl (.int .u8))] (.prim .len [.v 3]<|.prim .rng3 [.v 3,.v 1,.v 5,.v 6]<|.prim (.bin .eql) [.v 1,.v 5]<|.ite (.v 8) (.prim .len [.v 3]<|.jmp 0 false [.v 9,.v 3]) (.prim .len [.v 3]<|.prim .len [.v 3]<|.prim .rng [.v 3,.c (.int .i64 0),.v 1]<|.prim .len [.v 3]<|.prim .rng [.v 3,.v 5,.v 12]<|.prim .sub [.v 3,.v 5,.v 13]<|.prim (.appv 24) [.v 3,.v 11,.v 14]<|.prim .len [.v 14]<|.prim .vadd [.v 11,.v 16]<|.prim .vlen [.c (.int .i64 0),.v 17]<|.prim .vlen [.c (.int .i64 0),.v 17]<|.prim .rngv [.v 15,.c (.int .i64 0),.v 18,.v 9]<|.prim .vadd [.c (.int .i64 0),.v 18]<|.prim .sub [.v 15,.v 21,.v 20]<|.prim (.clr .nil) [.v 22]<|.prim .cpyv [.v 15,.v 21,.v 20,.v 23]<|.jmp 0 false [.v 17,.v 24])) 2<|.jmp 0 false [.v 6,.v 7]) (.prim .len [.v 3]<|.jmp 0 false [.v 5,.v 3])) 2<|.prim .sub [.v 6,.c (.int .i64 0),.v 5]<|.mkS zcc [.v 7]<|.jmp 0 false [.v 8,.v 2]
theorem zlG:zao cx 12 137=some zhb.erase:=by kernel_rfl
theorem zqn:FnOk cx 12 noC 137 zhE:=zbv (t:=zhb) zlG (fun _=>rfl) (za3 [(155,zi8)] (by kernel_rfl) (.cons zsy .nil)) (fun x=>by kernel_rfl)
def zgP (p0:List Int):Option (Msg×Int) :=
 if decide ((p0.length:Int)<(19:Int)) then
 some (((Msg.mk (0:Int) (0:Int) (0:Int) (0:Int) (0:Int) (0:Int) false (0:Int) (0:Int)),(3:Int)))
 else
 if decide ((19:Int)<(p0.length:Int)) then
 some (((Msg.mk (0:Int) (0:Int) (0:Int) (0:Int) (0:Int) (0:Int) false (0:Int) (0:Int)),(4:Int)))
 else
 (subO p0 (15:Int) (p0.length:Int)).bind fun v6=>(zft v6).bind fun v7=>(subO p0 (0:Int) (15:Int)).bind fun v9=>(zdY v9).bind fun v10=>if !decide (v7=v10) then
 some (((Msg.mk (0:Int) (0:Int) (0:Int) (0:Int) (0:Int) (0:Int) false (0:Int) (0:Int)),(5:Int)))
 else
 (getO p0 (0:Int)).bind fun v12=>(getO p0 (1:Int)).bind fun v14=>(getO p0 (2:Int)).bind fun v16=>(getO p0 (3:Int)).bind fun v18=>(getO p0 (4:Int)).bind fun v20=>(getO p0 (5:Int)).bind fun v22=>(getO p0 (6:Int)).bind fun v24=>(subO p0 (7:Int) (p0.length:Int)).bind fun v27=>(zft v27).bind fun v28=>(subO p0 (11:Int) (p0.length:Int)).bind fun v30=>(zft v30).bind fun v31=>let v32:Msg:=Msg.mk (w64 v12) (w64 v14) (w64 v16) (w64 v18) (w64 v20) (w64 v22) (decide (v24=(1:Int))) v28 v31
 ((zeM v32).bind fun v33=>if !v33 then
 some (true)
 else
 (zeR v32).bind fun v35=>(bytes_Equal v35 p0).bind fun v36=>some ((!v36)):Option Bool).bind fun v33=>if v33 then
 some (((Msg.mk (0:Int) (0:Int) (0:Int) (0:Int) (0:Int) (0:Int) false (0:Int) (0:Int)),(2:Int)))
 else
 some ((v32,(0:Int)))
def zfO:FnT:=⟨[.sl (.int .u8)],[tMsg,.int .i64],fun x=>zgP x⟩
def zgj:TA :=
 .prim .len [.v 0]<|.prim (.bin .lss) [.v 1,.c (.int .i64 19)]<|.ite (.v 2) (.jmp 0 false [.c (.agg [(.int .i64 0),(.int .i64 0),(.int .i64 0),(.int .i64 0),(.int .i64 0),(.int .i64 0),(.bool false),(.int .u32 0),(.int .u32 0)]),.c (.int .i64 3)]) (.prim .len [.v 0]<|.prim (.bin .gtr) [.v 3,.c (.int .i64 19)]<|.ite (.v 4) (.jmp 0 false [.c (.agg [(.int .i64 0),(.int .i64 0),(.int .i64 0),(.int .i64 0),(.int .i64 0),(.int .i64 0),(.bool false),(.int .u32 0),(.int .u32 0)]),.c (.int .i64 4)]) (.prim .len [.v 0]<|.prim .sub [.v 0,.c (.int .i64 15),.v 5]<|.call 158 zdL [.v 6] 1<|.prim .len [.v 0]<|.prim .sub [.v 0,.c (.int .i64 0),.c (.int .i64 15)]<|.call 159 zdV [.v 9] 1<|.prim (.bin .neq) [.v 7,.v 10]<|.ite (.v 11) (.jmp 0 false [.c (.agg [(.int .i64 0),(.int .i64 0),(.int .i64 0),(.int .i64 0),(.int .i64 0),(.int .i64 0),(.bool false),(.int .u32 0),(.int .u32 0)]),.c (.int .i64 5)]) (.prim .get [.v 0,.c (.int .i64 0)]<|.prim (.conv .i64) [.v 12]<|.prim .get [.v 0,.c (.int .i64 1)]<|.prim (.conv .i64) [.v 14]<|.prim .get [.v 0,.c (.int .i64 2)]<|.prim (.conv .i64) [.v 16]<|.prim .get [.v 0,.c (.int .i64 3)]<|.prim (.conv .i64) [.v 18]<|.prim .get [.v 0,.c (.int .i64 4)]<|.prim (.conv .i64) [.v 20]<|.prim .get [.v 0,.c (.int .i64 5)]<|.prim (.conv .i64) [.v 22]<|.prim .get [.v 0,.c (.int .i64 6)]<|.prim (.bin .eql) [.v 24,.c (.int .u8 1)]<|.prim .len [.v 0]<|.prim .sub [.v 0,.c (.int .i64 7),.v 26]<|.call 158 zdL [.v 27] 1<|.prim .len [.v 0]<|.prim .sub [.v 0,.c (.int .i64 11),.v 29]<|.call 158 zdL [.v 30] 1<|.mkS zgT [.v 13,.v 15,.v 17,.v 19,.v 21,.v 23,.v 25,.v 28,.v 31]<|.sub0 [.bool] (.call 160 zdP [.v 32] 1<|.prim (.un .not) [.v 33]<|.ite (.v 34) (.jmp 0 false [.c (.bool true)]) (.call 162 zdS [.v 32] 1<|.call 161 zfv [.v 35,.v 0] 1<|.prim (.un .not) [.v 36]<|.jmp 0 false [.v 37])) 1<|.ite (.v 33) (.jmp 0 false [.c (.agg [(.int .i64 0),(.int .i64 0),(.int .i64 0),(.int .i64 0),(.int .i64 0),(.int .i64 0),(.bool false),(.int .u32 0),(.int .u32 0)]),.c (.int .i64 2)]) (.jmp 0 false [.v 32,.c (.int .i64 0)]))))
theorem zjR:zao cx 12 138=some zgj.erase:=by kernel_rfl
theorem zoA:FnOk cx 12 noC 138 zfO:=zbv (t:=zgj) zjR (fun _=>rfl) (za3 [(158,zdL),(159,zdV),(158,zdL),(158,zdL),(160,zdP),(162,zdS),(161,zfv)] (by kernel_rfl) (.cons zk2 (.cons zkw (.cons zk2 (.cons zk2 (.cons zlY (.cons zk0 (.cons znl .nil)))))))) (fun x=>by kernel_rfl)
def zeV (p0:Msg):Option ((List Int)×Int) :=
 (zeM p0).bind fun v1=>if !v1 then
 some ((([]:List Int),(1:Int)))
 else
 (zeR p0).bind fun v3=>some ((v3,(0:Int)))
def zhq:FnT:=⟨[tMsg],[.sl (.int .u8),.int .i64],fun x=>zeV x⟩
def zhc:TA :=
 .call 160 zdP [.v 0] 1<|.prim (.un .not) [.v 1]<|.ite (.v 2) (.jmp 0 false [.c .nil,.c (.int .i64 1)]) (.call 162 zdS [.v 0] 1<|.jmp 0 false [.v 3,.c (.int .i64 0)])
theorem zlJ:zao cx 12 173=some zhc.erase:=by kernel_rfl
theorem zqQ:FnOk cx 12 noC 173 zhq:=zbv (t:=zhc) zlJ (fun _=>rfl) (za3 [(160,zdP),(162,zdS)] (by kernel_rfl) (.cons zlY (.cons zk0 .nil))) (fun x=>by kernel_rfl)
def zlW:TA :=
 .sub0 [.bool] (.call 90 zaM [.v 0,.v 1,.v 2] 1<|.ite (.v 4) (.call 91 zbJ [.v 0,.v 1,.v 2,.v 3] 1<|.jmp 0 false [.v 5]) (.jmp 0 false [.c (.bool false)])) 1<|.jmp 0 false [.v 4]
theorem zqG:zao cx 12 42=some zlW.erase:=by kernel_rfl
def zgu (p0:Proto) (p1:Int) (p2:Int):Option (Int×Int) :=
 (zb4 p0 p1 p2).bind fun v3=>if !v3 then
 some (((0:Int),(1:Int)))
 else
 (zew p0 p1 p2 false).bind fun v5=>if !v5 then
 some (((0:Int),(8:Int)))
 else
 (getO (Proto.Val p0) p1).bind fun v8=>(getO v8 p2).bind fun v9=>some ((v9,(0:Int)))
def zhY:FnT:=⟨[zaK,.int .i64,.int .i64],[.int .u32,.int .i64],fun x=>zgu x.1 x.2.1 x.2.2⟩
def zhw:TA :=
 .call 90 zaM [.v 0,.v 1,.v 2] 1<|.prim (.un .not) [.v 3]<|.ite (.v 4) (.jmp 0 false [.c (.int .u32 0),.c (.int .i64 1)]) (.call 91 zbJ [.v 0,.v 1,.v 2,.c (.bool false)] 1<|.prim (.un .not) [.v 5]<|.ite (.v 6) (.jmp 0 false [.c (.int .u32 0),.c (.int .i64 8)]) (.prim (.fld 1) [.v 0]<|.prim .get [.v 7,.v 1]<|.prim .get [.v 8,.v 2]<|.jmp 0 false [.v 9,.c (.int .i64 0)]))
theorem zks:zao cx 12 43=some zhw.erase:=by kernel_rfl
theorem zqA:FnOk cx 12 noC 43 zhY:=zbv (t:=zhw) zks (fun _=>rfl) (za3 [(90,zaM),(91,zbJ)] (by kernel_rfl) (.cons zdr (.cons zhI .nil))) (fun x=>by kernel_rfl)
def zcV (x23:List (List Int)) (x24:Int) (s:(Int×(List (List Int)))):Option ((Int×(List (List Int)))⊕(List (List Int))) :=
 if decide (s.1<x24) then
 (getO x23 s.1).bind fun v28=>(zat 1 v28).bind fun v29=>(appO 24 s.2 ([v29]:List (List Int))).bind fun v31=>some (Sum.inl (w64 (s.1 + (1:Int)),v31))
 else
 some (Sum.inr (s.2))
def zc3 (x18:List Entry) (x21:Int) (s:(Int×(List Entry))):Option ((Int×(List Entry))⊕(List Entry)) :=
 if decide (s.1<x21) then
 (getO x18 s.1).bind fun v25=>(zat 1 (Entry.Share v25)).bind fun v28=>(appO 32 s.2 ([Entry.mk (Entry.Owner v25) v28]:List Entry)).bind fun v31=>some (Sum.inl (w64 (s.1 + (1:Int)),v31))
 else
 some (Sum.inr (s.2))
def zda (x6:List (List Int)) (x7:Int) (s:(Int×(List (List Int)))):Option ((Int×(List (List Int)))⊕(List (List Int))) :=
 if decide (s.1<x7) then
 (getO x6 s.1).bind fun v11=>(zat 4 v11).bind fun v12=>(appO 24 s.2 ([v12]:List (List Int))).bind fun v14=>some (Sum.inl (w64 (s.1 + (1:Int)),v14))
 else
 some (Sum.inr (s.2))
def zc1 (x4:List (List Int)) (x5:Int) (s:(Int×(List (List Int)))):Option ((Int×(List (List Int)))⊕(List (List Int))) :=
 if decide (s.1<x5) then
 (getO x4 s.1).bind fun v9=>(zat 8 v9).bind fun v10=>(appO 24 s.2 ([v10]:List (List Int))).bind fun v12=>some (Sum.inl (w64 (s.1 + (1:Int)),v12))
 else
 some (Sum.inr (s.2))
def zex (p0:Proto) (p1:Int) (p2:Int) (p3:Int):Option (Proto×Int) :=
 ((let v5:Int:=(List.length (Proto.State p0):Int)
 (zaj (zc1 (Proto.State p0) v5) ((0:Int),([]:List (List Int))):Option (List (List Int))).bind fun v6=>some (v6):Option (List (List Int))).bind fun v5=>(let v7:Int:=(List.length (Proto.Val p0):Int)
 (zaj (zda (Proto.Val p0) v7) ((0:Int),([]:List (List Int))):Option (List (List Int))).bind fun v8=>some (v8):Option (List (List Int))).bind fun v7=>(zat 40 (Proto.Wait p0)).bind fun v9=>(zat 4 (Proto.Home p0)).bind fun v11=>(zat 8 (Proto.Busy p0)).bind fun v13=>let v21:Int:=(List.length (Proto.Dir p0):Int)
 (zaj (zc3 (Proto.Dir p0) v21) ((0:Int),([]:List Entry)):Option (List Entry)).bind fun v22=>let v23:List (List Int):=Pool.Frames (Proto.Pool p0)
 (let v24:Int:=(v23.length:Int)
 (zaj (zcV v23 v24) ((0:Int),([]:List (List Int))):Option (List (List Int))).bind fun v25=>some (v25):Option (List (List Int))).bind fun v24=>some ((v5,v7,v9,v11,v22,v13,v24)):Option ((List (List Int))×(List (List Int))×(List Wait)×(List Int)×(List Entry)×(List Int)×(List (List Int)))).bind fun v4=>(zb4 p0 p1 p2).bind fun v11=>if !v11 then
 some ((Proto.mk v4.1 v4.2.1 v4.2.2.1 v4.2.2.2.1 v4.2.2.2.2.1 v4.2.2.2.2.2.1 (Pool.mk v4.2.2.2.2.2.2),(1:Int)))
 else
 (zew p0 p1 p2 true).bind fun v13=>if !v13 then
 some ((Proto.mk v4.1 v4.2.1 v4.2.2.1 v4.2.2.2.1 v4.2.2.2.2.1 v4.2.2.2.2.2.1 (Pool.mk v4.2.2.2.2.2.2),(8:Int)))
 else
 (idxO (List.length v4.2.1:Int) p1).bind fun v15=>(idxO (List.length v4.2.1:Int) v15).bind fun v16=>(idxO (List.length v4.1:Int) p1).bind fun v17=>(idxO (List.length v4.1:Int) v17).bind fun v18=>(getO v4.2.1 v16).bind fun v19=>(idxO (v19.length:Int) p2).bind fun v20=>(getO v4.2.1 v16).bind fun v21=>(setO v21 v20 p3).bind fun v22=>(setO v4.2.1 v16 v22).bind fun v23=>(getO v4.1 v18).bind fun v24=>(idxO (v24.length:Int) p2).bind fun v25=>(getO v4.1 v18).bind fun v26=>(setO v26 v25 (3:Int)).bind fun v27=>(setO v4.1 v18 v27).bind fun v28=>some ((Proto.mk v28 v23 v4.2.2.1 v4.2.2.2.1 v4.2.2.2.2.1 v4.2.2.2.2.2.1 (Pool.mk v4.2.2.2.2.2.2),(0:Int)))
def zhl:FnT:=⟨[zaK,.int .i64,.int .i64,.int .u32],[zaK,.int .i64],fun x=>zex x.1 x.2.1 x.2.2.1 x.2.2.2⟩
def zh1:TA :=
 .sub0 [.sl (.sl (.int .i64)),.sl (.sl (.int .u32)),.sl zci,.sl (.int .u32),.sl zaC,.sl (.int .i64),.sl (.sl (.int .u8))] (.prim (.fld 0) [.v 0]<|.sub0 [.sl (.sl (.int .i64))] (.prim .len [.v 4]<|.sub0 [.sl (.sl (.int .i64))] (.loop [.int .i64,.sl (.sl (.int .i64))] [.c (.int .i64 0),.c .nil] (.prim (.bin .lss) [.v 6,.v 5]<|.ite (.v 8) (.prim .get [.v 4,.v 6]<|.prim (.clone 8) [.v 9]<|.mkL (.sl (.int .i64)) [.v 10]<|.prim (.app 24) [.v 7,.v 11]<|.prim (.bin .add) [.v 6,.c (.int .i64 1)]<|.jmp 0 true [.v 13,.v 12]) (.jmp 1 false [.v 7]))) 1<|.jmp 0 false [.v 6]) 1<|.prim (.fld 1) [.v 0]<|.sub0 [.sl (.sl (.int .u32))] (.prim .len [.v 6]<|.sub0 [.sl (.sl (.int .u32))] (.loop [.int .i64,.sl (.sl (.int .u32))] [.c (.int .i64 0),.c .nil] (.prim (.bin .lss) [.v 8,.v 7]<|.ite (.v 10) (.prim .get [.v 6,.v 8]<|.prim (.clone 4) [.v 11]<|.mkL (.sl (.int .u32)) [.v 12]<|.prim (.app 24) [.v 9,.v 13]<|.prim (.bin .add) [.v 8,.c (.int .i64 1)]<|.jmp 0 true [.v 15,.v 14]) (.jmp 1 false [.v 9]))) 1<|.jmp 0 false [.v 8]) 1<|.prim (.fld 2) [.v 0]<|.prim (.clone 40) [.v 8]<|.prim (.fld 3) [.v 0]<|.prim (.clone 4) [.v 10]<|.prim (.fld 5) [.v 0]<|.prim (.clone 8) [.v 12]<|.prim (.fld 0) [.v 0]<|.prim (.fld 1) [.v 0]<|.prim (.fld 2) [.v 0]<|.prim (.fld 3) [.v 0]<|.prim (.fld 4) [.v 0]<|.prim (.fld 5) [.v 0]<|.prim (.fld 6) [.v 0]<|.prim .len [.v 18]<|.sub0 [.sl zaC] (.loop [.int .i64,.sl zaC] [.c (.int .i64 0),.c .nil] (.prim (.bin .lss) [.v 22,.v 21]<|.ite (.v 24) (.prim .get [.v 18,.v 22]<|.prim (.fld 0) [.v 25]<|.prim (.fld 1) [.v 25]<|.prim (.clone 1) [.v 27]<|.mkS zbU [.v 26,.v 28]<|.mkL zaC [.v 29]<|.prim (.app 32) [.v 23,.v 30]<|.prim (.bin .add) [.v 22,.c (.int .i64 1)]<|.jmp 0 true [.v 32,.v 31]) (.jmp 1 false [.v 23]))) 1<|.prim (.fld 0) [.v 20]<|.sub0 [.sl (.sl (.int .u8))] (.prim .len [.v 23]<|.sub0 [.sl (.sl (.int .u8))] (.loop [.int .i64,.sl (.sl (.int .u8))] [.c (.int .i64 0),.c .nil] (.prim (.bin .lss) [.v 25,.v 24]<|.ite (.v 27) (.prim .get [.v 23,.v 25]<|.prim (.clone 1) [.v 28]<|.mkL (.sl (.int .u8)) [.v 29]<|.prim (.app 24) [.v 26,.v 30]<|.prim (.bin .add) [.v 25,.c (.int .i64 1)]<|.jmp 0 true [.v 32,.v 31]) (.jmp 1 false [.v 26]))) 1<|.jmp 0 false [.v 25]) 1<|.jmp 0 false [.v 5,.v 7,.v 9,.v 11,.v 22,.v 13,.v 24]) 7<|.call 90 zaM [.v 0,.v 1,.v 2] 1<|.prim (.un .not) [.v 11]<|.ite (.v 12) (.mkS zcc [.v 10]<|.mkS zbB [.v 4,.v 5,.v 6,.v 7,.v 8,.v 9,.v 13]<|.jmp 0 false [.v 14,.c (.int .i64 1)]) (.call 91 zbJ [.v 0,.v 1,.v 2,.c (.bool true)] 1<|.prim (.un .not) [.v 13]<|.ite (.v 14) (.mkS zcc [.v 10]<|.mkS zbB [.v 4,.v 5,.v 6,.v 7,.v 8,.v 9,.v 15]<|.jmp 0 false [.v 16,.c (.int .i64 8)]) (.prim .idx [.v 5,.v 1]<|.prim .idx [.v 5,.v 15]<|.prim .idx [.v 4,.v 1]<|.prim .idx [.v 4,.v 17]<|.prim .get [.v 5,.v 16]<|.prim .idx [.v 19,.v 2]<|.prim .get [.v 5,.v 16]<|.prim .set [.v 21,.v 20,.v 3]<|.prim .set [.v 5,.v 16,.v 22]<|.prim .get [.v 4,.v 18]<|.prim .idx [.v 24,.v 2]<|.prim .get [.v 4,.v 18]<|.prim .set [.v 26,.v 25,.c (.int .i64 3)]<|.prim .set [.v 4,.v 18,.v 27]<|.mkS zcc [.v 10]<|.mkS zbB [.v 28,.v 23,.v 6,.v 7,.v 8,.v 9,.v 29]<|.jmp 0 false [.v 30,.c (.int .i64 0)]))
theorem zla:zao cx 12 48=some zh1.erase:=by kernel_rfl
theorem zqS:FnOk cx 12 noC 48 zhl:=zbv (t:=zh1) zla (fun _=>rfl) (za3 [(90,zaM),(91,zbJ)] (by kernel_rfl) (.cons zdr (.cons zhI .nil))) (fun x=>by kernel_rfl)
def zcY (p0:Pool) (p1:Int):Option (Pool×Msg×Int) :=
 (zf1 p0 p1).bind fun v2=>if !decide (v2.2=(0:Int)) then
 some ((v2.1,(Msg.mk (0:Int) (0:Int) (0:Int) (0:Int) (0:Int) (0:Int) false (0:Int) (0:Int)),v2.2))
 else
 (getO (Pool.Frames p0) p1).bind fun v6=>(zgP v6).bind fun v7=>some ((v2.1,v7.1,v7.2))
def zhV:FnT:=⟨[zaR,.int .i64],[zaR,tMsg,.int .i64],fun x=>zcY x.1 x.2⟩
def zhC:TA :=
 .call 137 zhE [.v 0,.v 1] 2<|.prim (.bin .neq) [.v 3,.c (.int .i64 0)]<|.ite (.v 4) (.jmp 0 false [.v 2,.c (.agg [(.int .i64 0),(.int .i64 0),(.int .i64 0),(.int .i64 0),(.int .i64 0),(.int .i64 0),(.bool false),(.int .u32 0),(.int .u32 0)]),.v 3]) (.prim (.fld 0) [.v 0]<|.prim .get [.v 5,.v 1]<|.call 138 zfO [.v 6] 2<|.jmp 0 false [.v 2,.v 7,.v 8])
theorem zlM:zao cx 12 99=some zhC.erase:=by kernel_rfl
theorem zql:FnOk cx 12 noC 99 zhV:=zbv (t:=zhC) zlM (fun _=>rfl) (za3 [(137,zhE),(138,zfO)] (by kernel_rfl) (.cons zqn (.cons zoA .nil))) (fun x=>by kernel_rfl)
def zgk (x5:List (List Int)) (x6:Int) (s:(Int×(List (List Int)))):Option ((Int×(List (List Int)))⊕(List (List Int))) :=
 if decide (s.1<x6) then
 (getO x5 s.1).bind fun v10=>(zat 1 v10).bind fun v11=>(appO 24 s.2 ([v11]:List (List Int))).bind fun v13=>some (Sum.inl (w64 (s.1 + (1:Int)),v13))
 else
 some (Sum.inr (s.2))
def zaf (p0:Pool) (p1:Msg):Option (Pool×Int) :=
 (zeV p1).bind fun v2=>((zcx p0).bind fun v4=>if !v4 then
 some (true)
 else
 some ((!decide (v2.2=(0:Int)))):Option Bool).bind fun v4=>if v4 then
 (let v6:Int:=(List.length (Pool.Frames p0):Int)
 (zaj (zgk (Pool.Frames p0) v6) ((0:Int),([]:List (List Int))):Option (List (List Int))).bind fun v7=>some (v7):Option (List (List Int))).bind fun v5=>some ((Pool.mk v5,(1:Int)))
 else
 (let v6:Int:=(List.length (Pool.Frames p0):Int)
 (zaj (zgk (Pool.Frames p0) v6) ((0:Int),([]:List (List Int))):Option (List (List Int))).bind fun v7=>some (v7):Option (List (List Int))).bind fun v5=>((zcj (Pool.mk v5)).bind fun v7=>if decide (v7=(0:Int)) then
 some (((6:Int),v5))
 else
 (zat 1 v2.1).bind fun v9=>(appO 24 v5 ([v9]:List (List Int))).bind fun v11=>some (((0:Int),v11)):Option (Int×(List (List Int)))).bind fun v6=>some ((Pool.mk v6.2,v6.1))
def zab:FnT:=⟨[zaR,tMsg],[zaR,.int .i64],fun x=>zaf x.1 x.2⟩
def zhx:TA :=
 .call 173 zhq [.v 1] 2<|.sub0 [.bool] (.call 122 za8 [.v 0] 1<|.prim (.un .not) [.v 4]<|.ite (.v 5) (.jmp 0 false [.c (.bool true)]) (.prim (.bin .neq) [.v 3,.c (.int .i64 0)]<|.jmp 0 false [.v 6])) 1<|.ite (.v 4) (.sub0 [.sl (.sl (.int .u8))] (.prim (.fld 0) [.v 0]<|.prim .len [.v 5]<|.sub0 [.sl (.sl (.int .u8))] (.loop [.int .i64,.sl (.sl (.int .u8))] [.c (.int .i64 0),.c .nil] (.prim (.bin .lss) [.v 7,.v 6]<|.ite (.v 9) (.prim .get [.v 5,.v 7]<|.prim (.clone 1) [.v 10]<|.mkL (.sl (.int .u8)) [.v 11]<|.prim (.app 24) [.v 8,.v 12]<|.prim (.bin .add) [.v 7,.c (.int .i64 1)]<|.jmp 0 true [.v 14,.v 13]) (.jmp 1 false [.v 8]))) 1<|.jmp 0 false [.v 7]) 1<|.mkS zcc [.v 5]<|.jmp 0 false [.v 6,.c (.int .i64 1)]) (.sub0 [.sl (.sl (.int .u8))] (.prim (.fld 0) [.v 0]<|.prim .len [.v 5]<|.sub0 [.sl (.sl (.int .u8))] (.loop [.int .i64,.sl (.sl (.int .u8))] [.c (.int .i64 0),.c .nil] (.prim (.bin .lss) [.v 7,.v 6]<|.ite (.v 9) (.prim .get [.v 5,.v 7]<|.prim (.clone 1) [.v 10]<|.mkL (.sl (.int .u8)) [.v 11]<|.prim (.app 24) [.v 8,.v 12]<|.prim (.bin .add) [.v 7,.c (.int .i64 1)]<|.jmp 0 true [.v 14,.v 13]) (.jmp 1 false [.v 8]))) 1<|.jmp 0 false [.v 7]) 1<|.sub0 [.int .i64,.sl (.sl (.int .u8))] (.mkS zcc [.v 5]<|.call 93 zbo [.v 6] 1<|.prim (.bin .eql) [.v 7,.c (.int .i64 0)]<|.ite (.v 8) (.jmp 0 false [.c (.int .i64 6),.v 5]) (.prim (.clone 1) [.v 2]<|.mkL (.sl (.int .u8)) [.v 9]<|.prim (.app 24) [.v 5,.v 10]<|.jmp 0 false [.c (.int .i64 0),.v 11])) 2<|.mkS zcc [.v 7]<|.jmp 0 false [.v 8,.v 6])
theorem zlP:zao cx 12 154=some zhx.erase:=by kernel_rfl
theorem zaH:FnOk cx 12 noC 154 zab:=zbv (t:=zhx) zlP (fun _=>rfl) (za3 [(173,zhq),(122,za8),(93,zbo)] (by kernel_rfl) (.cons zqQ (.cons zeb (.cons ze4 .nil)))) (fun x=>by kernel_rfl)
def zbx (p0:Proto) (p1:Int) (p2:Int) (p3:Bool):Option (Proto×Int) :=
 ((let v5:Int:=(List.length (Proto.State p0):Int)
 (zaj (zc1 (Proto.State p0) v5) ((0:Int),([]:List (List Int))):Option (List (List Int))).bind fun v6=>some (v6):Option (List (List Int))).bind fun v5=>(let v7:Int:=(List.length (Proto.Val p0):Int)
 (zaj (zda (Proto.Val p0) v7) ((0:Int),([]:List (List Int))):Option (List (List Int))).bind fun v8=>some (v8):Option (List (List Int))).bind fun v7=>(zat 40 (Proto.Wait p0)).bind fun v9=>(zat 4 (Proto.Home p0)).bind fun v11=>(zat 8 (Proto.Busy p0)).bind fun v13=>let v21:Int:=(List.length (Proto.Dir p0):Int)
 (zaj (zc3 (Proto.Dir p0) v21) ((0:Int),([]:List Entry)):Option (List Entry)).bind fun v22=>let v23:List (List Int):=Pool.Frames (Proto.Pool p0)
 (let v24:Int:=(v23.length:Int)
 (zaj (zcV v23 v24) ((0:Int),([]:List (List Int))):Option (List (List Int))).bind fun v25=>some (v25):Option (List (List Int))).bind fun v24=>some ((v5,v7,v9,v11,v22,v13,v24)):Option ((List (List Int))×(List (List Int))×(List Wait)×(List Int)×(List Entry)×(List Int)×(List (List Int)))).bind fun v4=>(zb4 p0 p1 p2).bind fun v11=>if !v11 then
 some ((Proto.mk v4.1 v4.2.1 v4.2.2.1 v4.2.2.2.1 v4.2.2.2.2.1 v4.2.2.2.2.2.1 (Pool.mk v4.2.2.2.2.2.2),(1:Int)))
 else
 ((getO (Proto.Wait p0) p1).bind fun v14=>if decide ((0:Int)<(Wait.Line v14)) then
 some (true)
 else
 (zew p0 p1 p2 p3).bind fun v17=>some (v17):Option Bool).bind fun v13=>if v13 then
 some ((Proto.mk v4.1 v4.2.1 v4.2.2.1 v4.2.2.2.1 v4.2.2.2.2.1 v4.2.2.2.2.2.1 (Pool.mk v4.2.2.2.2.2.2),(8:Int)))
 else
 (zcj (Proto.Pool p0)).bind fun v15=>if decide (v15=(0:Int)) then
 some ((Proto.mk v4.1 v4.2.1 v4.2.2.1 v4.2.2.2.1 v4.2.2.2.2.1 v4.2.2.2.2.2.1 (Pool.mk v4.2.2.2.2.2.2),(6:Int)))
 else
 (idxO (List.length v4.2.2.1:Int) p1).bind fun v19=>(setO v4.2.2.1 v19 (Wait.mk (w64 (p2 + (1:Int))) p3 false false false false (0:Int) (0:Int) (0:Int))).bind fun v20=>((idxO (v20.length:Int) p1).bind fun v21=>(getO v20 v21).bind fun v22=>let v27:Msg:=Msg.mk (1:Int) (w64 (p1 + (1:Int))) (0:Int) (w64 ((Wait.Line v22) - (1:Int))) (w64 (p1 + (1:Int))) (0:Int) false (0:Int) (0:Int)
 (if Wait.Back v22 then
 (idxO (List.length v4.2.1:Int) p1).bind fun v29=>(idxO (List.length v4.2.1:Int) v29).bind fun v30=>(getO v4.2.1 v30).bind fun v32=>(idxO (v32.length:Int) (Msg.Line v27)).bind fun v33=>(getO v4.2.1 v30).bind fun v34=>(getO v34 v33).bind fun v35=>some ((Msg.setVal (Msg.setFor (Msg.setKind v27 (8:Int)) (0:Int)) v35))
 else
 some ((bif Wait.Write v22 then Msg.setKind v27 (2:Int) else v27)):Option Msg).bind fun v29=>((zaf (Pool.mk v4.2.2.2.2.2.2) v29).bind fun v31=>some (v31.1):Option Pool).bind fun v30=>some (v30):Option Pool).bind fun v21=>some ((Proto.mk v4.1 v4.2.1 v20 v4.2.2.2.1 v4.2.2.2.2.1 v4.2.2.2.2.2.1 v21,(0:Int)))
def zc8:FnT:=⟨[zaK,.int .i64,.int .i64,.bool],[zaK,.int .i64],fun x=>zbx x.1 x.2.1 x.2.2.1 x.2.2.2⟩
def zfK:TA :=
 .sub0 [.sl (.sl (.int .i64)),.sl (.sl (.int .u32)),.sl zci,.sl (.int .u32),.sl zaC,.sl (.int .i64),.sl (.sl (.int .u8))] (.prim (.fld 0) [.v 0]<|.sub0 [.sl (.sl (.int .i64))] (.prim .len [.v 4]<|.sub0 [.sl (.sl (.int .i64))] (.loop [.int .i64,.sl (.sl (.int .i64))] [.c (.int .i64 0),.c .nil] (.prim (.bin .lss) [.v 6,.v 5]<|.ite (.v 8) (.prim .get [.v 4,.v 6]<|.prim (.clone 8) [.v 9]<|.mkL (.sl (.int .i64)) [.v 10]<|.prim (.app 24) [.v 7,.v 11]<|.prim (.bin .add) [.v 6,.c (.int .i64 1)]<|.jmp 0 true [.v 13,.v 12]) (.jmp 1 false [.v 7]))) 1<|.jmp 0 false [.v 6]) 1<|.prim (.fld 1) [.v 0]<|.sub0 [.sl (.sl (.int .u32))] (.prim .len [.v 6]<|.sub0 [.sl (.sl (.int .u32))] (.loop [.int .i64,.sl (.sl (.int .u32))] [.c (.int .i64 0),.c .nil] (.prim (.bin .lss) [.v 8,.v 7]<|.ite (.v 10) (.prim .get [.v 6,.v 8]<|.prim (.clone 4) [.v 11]<|.mkL (.sl (.int .u32)) [.v 12]<|.prim (.app 24) [.v 9,.v 13]<|.prim (.bin .add) [.v 8,.c (.int .i64 1)]<|.jmp 0 true [.v 15,.v 14]) (.jmp 1 false [.v 9]))) 1<|.jmp 0 false [.v 8]) 1<|.prim (.fld 2) [.v 0]<|.prim (.clone 40) [.v 8]<|.prim (.fld 3) [.v 0]<|.prim (.clone 4) [.v 10]<|.prim (.fld 5) [.v 0]<|.prim (.clone 8) [.v 12]<|.prim (.fld 0) [.v 0]<|.prim (.fld 1) [.v 0]<|.prim (.fld 2) [.v 0]<|.prim (.fld 3) [.v 0]<|.prim (.fld 4) [.v 0]<|.prim (.fld 5) [.v 0]<|.prim (.fld 6) [.v 0]<|.prim .len [.v 18]<|.sub0 [.sl zaC] (.loop [.int .i64,.sl zaC] [.c (.int .i64 0),.c .nil] (.prim (.bin .lss) [.v 22,.v 21]<|.ite (.v 24) (.prim .get [.v 18,.v 22]<|.prim (.fld 0) [.v 25]<|.prim (.fld 1) [.v 25]<|.prim (.clone 1) [.v 27]<|.mkS zbU [.v 26,.v 28]<|.mkL zaC [.v 29]<|.prim (.app 32) [.v 23,.v 30]<|.prim (.bin .add) [.v 22,.c (.int .i64 1)]<|.jmp 0 true [.v 32,.v 31]) (.jmp 1 false [.v 23]))) 1<|.prim (.fld 0) [.v 20]<|.sub0 [.sl (.sl (.int .u8))] (.prim .len [.v 23]<|.sub0 [.sl (.sl (.int .u8))] (.loop [.int .i64,.sl (.sl (.int .u8))] [.c (.int .i64 0),.c .nil] (.prim (.bin .lss) [.v 25,.v 24]<|.ite (.v 27) (.prim .get [.v 23,.v 25]<|.prim (.clone 1) [.v 28]<|.mkL (.sl (.int .u8)) [.v 29]<|.prim (.app 24) [.v 26,.v 30]<|.prim (.bin .add) [.v 25,.c (.int .i64 1)]<|.jmp 0 true [.v 32,.v 31]) (.jmp 1 false [.v 26]))) 1<|.jmp 0 false [.v 25]) 1<|.jmp 0 false [.v 5,.v 7,.v 9,.v 11,.v 22,.v 13,.v 24]) 7<|.call 90 zaM [.v 0,.v 1,.v 2] 1<|.prim (.un .not) [.v 11]<|.ite (.v 12) (.mkS zcc [.v 10]<|.mkS zbB [.v 4,.v 5,.v 6,.v 7,.v 8,.v 9,.v 13]<|.jmp 0 false [.v 14,.c (.int .i64 1)]) (.sub0 [.bool] (.prim (.fld 2) [.v 0]<|.prim .get [.v 13,.v 1]<|.prim (.fld 0) [.v 14]<|.prim (.bin .gtr) [.v 15,.c (.int .i64 0)]<|.ite (.v 16) (.jmp 0 false [.c (.bool true)]) (.call 91 zbJ [.v 0,.v 1,.v 2,.v 3] 1<|.jmp 0 false [.v 17])) 1<|.ite (.v 13) (.mkS zcc [.v 10]<|.mkS zbB [.v 4,.v 5,.v 6,.v 7,.v 8,.v 9,.v 14]<|.jmp 0 false [.v 15,.c (.int .i64 8)]) (.prim (.fld 6) [.v 0]<|.call 93 zbo [.v 14] 1<|.prim (.bin .eql) [.v 15,.c (.int .i64 0)]<|.ite (.v 16) (.mkS zcc [.v 10]<|.mkS zbB [.v 4,.v 5,.v 6,.v 7,.v 8,.v 9,.v 17]<|.jmp 0 false [.v 18,.c (.int .i64 6)]) (.prim (.bin .add) [.v 2,.c (.int .i64 1)]<|.mkS zuB [.v 17,.v 3,.c (.bool false),.c (.bool false),.c (.bool false),.c (.bool false),.c (.int .i64 0),.c (.int .i64 0),.c (.int .u32 0)]<|.prim .idx [.v 6,.v 1]<|.prim .set [.v 6,.v 19,.v 18]<|.sub0 [zaR] (.prim .idx [.v 20,.v 1]<|.prim .get [.v 20,.v 21]<|.prim (.bin .add) [.v 1,.c (.int .i64 1)]<|.prim (.fld 0) [.v 22]<|.prim (.bin .sub) [.v 24,.c (.int .i64 1)]<|.prim (.bin .add) [.v 1,.c (.int .i64 1)]<|.mkS zgT [.c (.int .i64 1),.v 23,.c (.int .i64 0),.v 25,.v 26,.c (.int .i64 0),.c (.bool false),.c (.int .u32 0),.c (.int .u32 0)]<|.prim (.fld 2) [.v 22]<|.sub0 [tMsg] (.ite (.v 28) (.prim .idx [.v 5,.v 1]<|.prim .idx [.v 5,.v 29]<|.prim (.fld 3) [.v 27]<|.prim .get [.v 5,.v 30]<|.prim .idx [.v 32,.v 31]<|.prim .get [.v 5,.v 30]<|.prim .get [.v 34,.v 33]<|.prim (.setf 0) [.v 27,.c (.int .i64 8)]<|.prim (.setf 4) [.v 36,.c (.int .i64 0)]<|.prim (.setf 8) [.v 37,.v 35]<|.jmp 0 false [.v 38]) (.prim (.fld 1) [.v 22]<|.subp [tMsg] (.ite (.v 29) (.prim (.setf 0) [.v 27,.c (.int .i64 2)]<|.jmp 0 false [.v 30]) (.jmp 0 false [.v 27])) 1<|.jmp 0 false [.v 30])) 1<|.sub0 [zaR] (.mkS zcc [.v 10]<|.call 154 zab [.v 30,.v 29] 2<|.jmp 0 false [.v 31]) 1<|.jmp 0 false [.v 30]) 1<|.mkS zbB [.v 4,.v 5,.v 20,.v 7,.v 8,.v 9,.v 21]<|.jmp 0 false [.v 22,.c (.int .i64 0)])))
theorem zjT:zao cx 12 45=some zfK.erase:=by kernel_rfl
theorem zjE:FnOk cx 12 noC 45 zc8:=zbv (t:=zfK) zjT (fun _=>rfl) (za3 [(90,zaM),(91,zbJ),(93,zbo),(154,zab)] (by kernel_rfl) (.cons zdr (.cons zhI (.cons ze4 (.cons zaH .nil))))) (fun x=>by kernel_rfl)
end Go.Proofs.Ytlgjbfdojbmmgaa
