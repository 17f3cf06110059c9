/- Part 1 of a checked symbolic executor: what a function's code does is read off as a tree over plain data. No condition. -/
import Derived.OrdersIn
import Derived.Below
import Derived.Laws.Strings
set_option linter.unusedSimpArgs false
set_option linter.unusedVariables false
namespace Go.SX
theorem wA0:type_of% @Bool.false_eq_true:=@Bool.false_eq_true
theorem wB0:type_of% @Option.some.injEq.{0}:=@Option.some.injEq.{0}
theorem wC0:type_of% @Option.bind_some.{0,0}:=@Option.bind_some.{0,0}
theorem wD0:type_of% @Bool.and_eq_true:=@Bool.and_eq_true
theorem wE0:type_of% @List.length_take.{0}:=@List.length_take.{0}
theorem wF0:type_of% @List.getElem?_eq_getElem.{0}:=@List.getElem?_eq_getElem.{0}
theorem wG0:type_of% @Nat.le_refl:=@Nat.le_refl
theorem wH0:type_of% @Bool.not_true:=@Bool.not_true
theorem wI0:type_of% @List.length_append.{0}:=@List.length_append.{0}
inductive Ty where
 | int (k:IntKind)|bool|str|sl (e:Ty)|st (l:List Ty)|arr (n:Nat) (e:Ty)|no
inductive D where
 | int (k:IntKind) (n:Int)|bool (b:Bool)|str (s:ByteArray)|agg (l:List D)|sl (l:List D)|nil
mutual
def Ty.size:Ty→Nat
 | .st l=>Ty.sizeL l
 | .arr n e=>n * e.size
 | .int _=>1|.bool=>1|.str=>1|.sl _=>1|.no=>1
def Ty.sizeL:List Ty→Nat
 | []=>0
 | t::l=>t.size + Ty.sizeL l
end
def Ty.isAgg:Ty→Bool|.st _=>true|.arr ..=>true|_=>false
mutual
def Ty.beq:Ty→Ty→Bool
 | .int k,.int k'=>decide (k=k')
 | .bool,.bool=>true
 | .str,.str=>true
 | .sl e,.sl e'=>e.beq e'
 | .st l,.st l'=>Ty.beqL l l'
 | .arr n e,.arr n' e'=>Nat.beq n n'&&e.beq e'
 | .no,.no=>true
 | _,_=>false
def Ty.beqL:List Ty→List Ty→Bool
 | [],[]=>true
 | a::l,b::l'=>a.beq b&&Ty.beqL l l'
 | _,_=>false
end
mutual
def Ty.flat:Ty→Bool
 | .sl _=>false
 | .st l=>Ty.flatL l
 | .arr _ e=>e.flat
 | _=>true
def Ty.flatL:List Ty→Bool
 | []=>true
 | t::l=>t.flat&&Ty.flatL l
end
mutual
def Ty.known:Ty→Bool
 | .no=>false
 | .sl e=>e.known
 | .st l=>Ty.knownL l
 | .arr _ e=>e.known
 | _=>true
def Ty.knownL:List Ty→Bool
 | []=>true
 | t::l=>t.known&&Ty.knownL l
end
mutual
def D.beq:D→D→Bool
 | .int k n,.int k' n'=>decide (k=k')&&decide (n=n')
 | .bool b,.bool c=>b==c
 | .str s,.str t=>decide (s.data.toList=t.data.toList)
 | .agg l,.agg l'=>D.beqL l l'
 | .sl l,.sl l'=>D.beqL l l'
 | .nil,.nil=>true
 | _,_=>false
def D.beqL:List D→List D→Bool
 | [],[]=>true
 | a::l,b::l'=>a.beq b&&D.beqL l l'
 | _,_=>false
end
mutual
def Ty.zero:Ty→D
 | .int k=>.int k 0
 | .bool=>.bool false
 | .str=>.str ⟨#[]⟩
 | .sl _=>.nil
 | .st l=>.agg (Ty.zeroL l)
 | .arr n e=>.agg (List.replicate n e.zero)
 | .no=>.nil
def Ty.zeroL:List Ty→List D
 | []=>[]
 | t::l=>t.zero::Ty.zeroL l
end
def D.els:D→Option (List D)
 | .sl l=>some l
 | .nil=>some []
 | _=>none
inductive Prim where
 | bin (op:BinOp)|un (op:UnOp)|conv (k:IntKind)
 | len|get|set|fld (j:Nat)|setf (j:Nat)|mk|mks
 | sub|app (by_:Nat)|zext (z:D) (by_:Nat)|rep (z:D) (by_:Nat)|clone (by_:Nat)
 | idx|idxn (n:Nat)|idxv|rng|pick|isnil|eqv|slen|sget|ssub|tosl|clr (z:D)|cpy|cpyv|appv (by_:Nat)|eqi|vlen|vadd|rng3|rngv|min2|max2|b2s|s2b|nn|mhas|mget (z:D)|mput
def binI (op:BinOp) (k:IntKind) (a b:Int):Option D :=
 match op with
 | .add=>some (.int k (k.wrap (a + b)))
 | .sub=>some (.int k (k.wrap (a - b)))
 | .mul=>some (.int k (k.wrap (a * b)))
 | .quo=>if b=0 then none else some (.int k (k.wrap (a.tdiv b)))
 | .rem=>if b=0 then none else some (.int k (a.tmod b))
 | .and=>some (.int k (k.wrap (BitVec.ofInt k.bits a &&& BitVec.ofInt k.bits b).toNat))
 | .or=>some (.int k (k.wrap (BitVec.ofInt k.bits a ||| BitVec.ofInt k.bits b).toNat))
 | .xor=>some (.int k (k.wrap (BitVec.ofInt k.bits a^^^BitVec.ofInt k.bits b).toNat))
 | .andNot=>some (.int k (k.wrap (BitVec.ofInt k.bits a &&& ~~~(BitVec.ofInt k.bits b)).toNat))
 | .eql=>some (.bool (a==b))
 | .neq=>some (.bool (a != b))
 | .lss=>some (.bool (a<b))
 | .leq=>some (.bool (a≤b))
 | .gtr=>some (.bool (a>b))
 | .geq=>some (.bool (a≥b))
 | _=>none
def shI (op:BinOp) (k:IntKind) (a b:Int):Option D :=
 if b<0 then none else
 match op with
 | .shl=>some (.int k (k.wrap (a * 2 ^ (min b.toNat k.bits))))
 | .shr=>some (.int k (a.fdiv (2 ^ (min b.toNat k.bits))))
 | _=>none
def binB (op:BinOp) (a b:Bool):Option D :=
 match op with
 | .eql=>some (.bool (a==b))
 | .neq=>some (.bool (!(a==b)))
 | _=>none
def zcL:List UInt8→List UInt8→Bool
 | _,[]=>false
 | [],_::_=>true
 | a::x,b::y=>a<b||(a==b&&zcL x y)
def binS (op:BinOp) (a b:ByteArray):Option D :=
 let eq:=a.data.toList==b.data.toList
 let lt:=zcL a.data.toList b.data.toList
 match op with
 | .add=>if a.size + b.size≤17592186044416 then some (.str (a++b)) else none
 | .eql=>some (.bool eq)
 | .neq=>some (.bool !eq)
 | .lss=>some (.bool lt)
 | .leq=>some (.bool (lt||eq))
 | .gtr=>some (.bool !(lt||eq))
 | .geq=>some (.bool !lt)
 | _=>none
def binD (op:BinOp):D→D→Option D
 | .int k a,.int k' b =>
  match op with
  | .shl|.shr=>shI op k a b
  | _=>if k=k' then binI op k a b else none
 | .bool a,.bool b=>binB op a b
 | .str a,.str b=>binS op a b
 | _,_=>none
def unD (op:UnOp):D→Option D
 | .int k n =>
  match op with
  | .neg=>some (.int k (k.wrap (0 - n)))
  | .xor=>some (.int k (k.wrap (BitVec.ofInt k.bits (if k.signed then -1 else k.max)^^^BitVec.ofInt k.bits n).toNat))
  | _=>none
 | .bool b=>match op with|.not=>some (.bool !b)|_=>none
 | _=>none
def zaO (n by_:Nat):Bool:=decide (n * by_≤17592186044416)&&decide (n≤17592186044416)
def appD (by_:Nat) (s x:D):Option D :=
 match s.els,x.els with
 | some l,some m =>
  if zaO (l.length + m.length) by_ then
   some (match s,m with|.nil,[]=>.nil|_,_=>.sl (l++m))
  else none
 | _,_=>none
def zcO:List D→Option (List UInt8)
 | []=>some []
 | .int .u8 n::l=>match zcO l with|some r=>some (UInt8.ofNat n.toNat::r)|none=>none
 | _=>none
def zoq (k:D):List D→Option (Option D)
 | []=>some none
 | .agg [k',v]::l=>if k.beq k' then some (some v) else zoq k l
 | _::_=>none
def zkD (k v:D):List D→Option (List D)
 | []=>some [.agg [k,v]]
 | .agg [k',v']::l=>if k.beq k' then some (.agg [k,v]::l) else match zkD k v l with|some m=>some (.agg [k',v']::m)|none=>none
 | _::_=>none
def Prim.run:Prim→List D→Option D
 | .bin op,[a,b]=>binD op a b
 | .un op,[a]=>unD op a
 | .conv k,[.int _ n]=>some (.int k (k.wrap n))
 | .len,[.sl l]=>some (.int .i64 l.length)
 | .len,[.nil]=>some (.int .i64 0)
 | .get,[.sl l,.int _ i]=>if 0≤i then l[i.toNat]? else none
 | .get,[.agg l,.int _ i]=>if 0≤i then l[i.toNat]? else none
 | .set,[.sl l,.int _ i,v]=>if 0≤i∧i<l.length then some (.sl (l.set i.toNat v)) else none
 | .set,[.agg l,.int _ i,v]=>if 0≤i∧i<l.length then some (.agg (l.set i.toNat v)) else none
 | .fld j,[.agg l]=>l[j]?
 | .setf j,[.agg l,v]=>if j<l.length then some (.agg (l.set j v)) else none
 | .mk,l=>some (.agg l)
 | .mks,l=>some (.sl l)
 | .sub,[.sl l,.int _ lo,.int _ hi]=>if 0≤lo∧lo≤hi∧hi≤l.length then some (.sl ((l.take hi.toNat).drop lo.toNat)) else none
 | .sub,[.nil,.int _ lo,.int _ hi]=>if lo=0∧hi=0 then some .nil else none
 | .app b,[s,x]=>appD b s x
 | .zext z b,[s,.int _ n]=>if 0≤n then appD b s (.sl (List.replicate n.toNat z)) else none
 | .rep z b,[.int _ n,.int _ c]=>if 0≤n∧n≤c∧zaO c.toNat b then some (.sl (List.replicate n.toNat z)) else none
 | .clone b,[s]=>match s.els with|some l=>if zaO l.length b then some s else none|none=>none
 | .idx,[.sl l,.int k i]=>if 0≤i∧i<l.length then some (.int k i) else none
 | .idxn n,[.int k i]=>if 0≤i∧i<n then some (.int k i) else none
 | .idxv,[.int _ lo,.int _ hi,.int _ i]=>if 0≤i∧i<hi - lo then some (.int .i64 (lo + i)) else none
 | .rng,[s,.int _ lo,.int _ hi]=>match s.els with|some l=>if 0≤lo∧lo≤hi∧hi≤l.length then some (.int .i64 hi) else none|none=>none
 | .pick,[.bool c,a,b]=>some (if c then a else b)
 | .isnil,[.nil]=>some (.bool true)
 | .isnil,[.sl _]=>some (.bool false)
 | .eqv,[a,b]=>some (.bool (a.beq b))
 | .slen,[.str s]=>some (.int .i64 s.size)
 | .sget,[.str s,.int _ i]=>if 0≤i then (s[i.toNat]?).map fun b=>.int .u8 b.toNat else none
 | .ssub,[.str s,.int _ lo,.int _ hi]=>if 0≤lo∧lo≤hi∧hi≤s.size then some (.str (s.extract lo.toNat hi.toNat)) else none
 | .tosl,[.agg l]=>some (.sl l)
 | .clr z,[.sl l]=>some (.sl (List.replicate l.length z))
 | .clr _,[.nil]=>some .nil
 | .cpy,[.agg l,x]=>match x.els with|some m=>some (.agg (m.take l.length++l.drop m.length))|none=>none
 | .cpy,[.sl l,x]=>match x.els with|some m=>some (.sl (m.take l.length++l.drop m.length))|none=>none
 | .cpyv,[s,.int _ lo,.int _ hi,x]=>match s.els,x.els with
  | some l,some m=>if 0≤lo∧lo≤hi∧hi≤l.length then
    some (match s with|.nil=>.nil|_=>.sl (l.take lo.toNat++(m.take (hi - lo).toNat++l.drop (lo.toNat + (m.take (hi - lo).toNat).length))))
   else none
  | _,_=>none
 | .appv b,[s,.int _ hi,x]=>match s.els,x.els with
  | some l,some m=>if 0≤hi∧hi≤l.length∧zaO (hi.toNat + m.length) b then
    some (match s,m with|.nil,[]=>.nil|_,_=>.sl (l.take hi.toNat++(m++l.drop (hi.toNat + m.length))))
   else none
  | _,_=>none
 | .vlen,[.int _ lo,.int _ hi]=>some (.int .i64 (hi - lo))
 | .vadd,[.int _ x,.int _ y]=>some (.int .i64 (x + y))
 | .eqi,[.int _ x,.int k y]=>if x=y then some (.int k y) else none
 | .rng3,[s,.int _ lo,.int _ hi,.int _ mx]=>match s.els with|some l=>if 0≤lo∧lo≤hi∧hi≤mx∧mx=l.length then some (.int .i64 hi) else none|none=>none
 | .rngv,[s,.int _ lo,.int _ l,.int _ h]=>match s.els with|some xs=>if 0≤lo∧0≤l∧l≤h∧lo + h≤xs.length then some (.int .i64 (lo + h)) else none|none=>none
 | .nn,[.sl l]=>some (.sl l)
 | .b2s,[x]=>match x.els with|some l=>(zcO l).map fun b=>.str ⟨b.toArray⟩|none=>none
 | .s2b,[.str s]=>some (.sl (s.data.toList.map fun b=>.int .u8 b.toNat))
 | .min2,[.int k x,.int k' y]=>if k=k' then some (.int k (if y<x then y else x)) else none
 | .max2,[.int k x,.int k' y]=>if k=k' then some (.int k (if y>x then y else x)) else none
 | .mhas,[m,k]=>match m.els with|some l=>(match zoq k l with|some o=>some (.bool o.isSome)|none=>none)|none=>none
 | .mget z,[m,k]=>match m.els with|some l=>(match zoq k l with|some o=>some (o.getD z)|none=>none)|none=>none
 | .mput,[m,k,v]=>match m.els with|some l=>(match zkD k v l with|some m=>some (.sl m)|none=>none)|none=>none
 | _,_=>none
inductive At where|v (i:Nat)|c (d:D)
inductive Stp where|f (j:Nat)|i (a:At)
def At.get (E:List D):At→Option D
 | .v i=>E[i]?
 | .c d=>some d
def At.beq:At→At→Bool
 | .v i,.v j=>Nat.beq i j
 | .c a,.c b=>a.beq b
 | _,_=>false
inductive SV where
 | un (n:Nat)
 | cv (v:Value)
 | d (T:Ty) (a:At)
 | ag (T:Ty) (l:List SV)
 | h (e:Ty) (r:Nat) (vw:Option (At×At))
 | z (e:Ty) (a:At)
 | p (R T:Ty) (r:Nat) (path:List Stp)
 | pd (T:Ty) (a:At)
 | hb (R e:Ty) (n:Nat) (r:Nat) (path:List Stp)
 | hr (e:Ty) (r:Nat) (ix:At) (g:Nat)
 | hc (e:Ty) (r:Nat) (hi:At)
 | pm (e T:Ty) (r:Nat) (ix:At) (path:List Stp) (g:Nat)
 | fn (f:FuncId) (fst cap:List SV)
 | tu (l:List SV)
 | mr (K V:Ty) (r:Nat)
inductive Root where
 | dead
 | box (T:Ty) (v:SV)
 | row (e:Ty) (a:At)
 | mat (e:Ty) (a:At) (g:Nat)
 | fz (e:Ty) (a:At)
 | mp (K V:Ty) (a:At)
 | lt (e:Ty) (a:At) (r:Nat)
 | bo (e:Ty) (a:At)
 | ow (e:Ty) (a ix:At) (r:Nat)
structure St where
 nv:Nat
 base:Nat
 slots:List SV
 mem:List Root
inductive Ex where|normal|exit (id:Nat)|ret
inductive Tree where
 | prim (p:Prim) (as:List At) (k:Tree)
 | call (f:FuncId) (as:List At) (m:Nat) (k:Tree)
 | sub (t:Tree) (m:Nat) (k:Tree)
 | loop (init:List At) (body:Tree)
 | ite (c:At) (t e:Tree)
 | jmp (lvl:Nat) (back:Bool) (as:List At)
 | fin (x:Ex) (st:St)
 | fail (why:Nat)
inductive Res where
 | jmp (lvl:Nat) (back:Bool) (vs:List D)
 | fin (x:Ex) (st:St) (E:List D)
def gets (E:List D):List At→Option (List D)
 | []=>some []
 | a::l=>match a.get E with
  | none=>none
  | some d=>match gets E l with
   | none=>none
   | some ds=>some (d::ds)
def iter (f:List D→Option Res):Nat→List D→Option Res
 | 0,_=>none
 | n + 1,vs=>match f vs with
  | some (.jmp 0 true vs')=>iter f n vs'
  | r=>r
def Res.up:Res→Option Res
 | .jmp (l + 1) b vs=>some (.jmp l b vs)
 | .jmp 0 _ _=>none
 | r=>some r
def ev (C:FuncId→List D→Option (List D)) (k:Nat):Tree→List D→Option Res
 | .prim p as t,E=>match gets E as with
  | none=>none
  | some vs=>match p.run vs with
   | none=>none
   | some d=>ev C k t (E++[d])
 | .call f as m t,E=>match gets E as with
  | none=>none
  | some vs=>match C f vs with
   | none=>none
   | some ds=>if ds.length=m then ev C k t (E++ds) else none
 | .sub t m u,E=>match ev C k t E with
  | none=>none
  | some (.jmp 0 _ vs)=>if vs.length=m then ev C k u (E++vs) else none
  | some r=>r.up
 | .loop init b,E=>match gets E init with
  | none=>none
  | some vs=>match iter (fun vs=>ev C k b (E++vs)) k vs with
   | none=>none
   | some r=>r.up
 | .ite c t e,E=>match c.get E with
  | some (.bool true)=>ev C k t E
  | some (.bool false)=>ev C k e E
  | _=>none
 | .jmp l b as,E=>match gets E as with
  | none=>none
  | some vs=>some (.jmp l b vs)
 | .fin x st,E=>some (.fin x st E)
 | .fail _,_=>none
end Go.SX
namespace Go.SX
def Root.row?:Root→Option (Ty×At)
 | .row e a=>some (e,a)
 | .fz e a=>some (e,a)
 | .lt e a _=>some (e,a)
 | .bo e a=>some (e,a)
 | .ow e a _ _=>some (.sl e,a)
 | .mat e a _=>some (.sl e,a)
 | _=>none
def Root.noLt:Root→Bool
 | .lt ..=>false
 | _=>true
def Root.rowv?:Root→Option (Ty×At)
 | .bo _ _=>none
 | .ow ..=>none
 | R=>R.row?
theorem Root.rowv_row {R:Root}{p:Ty×At}(h:R.rowv?=some p):R.row?=some p:=by cases R<;>first|exact h|cases h
mutual
def SV.csize:SV→Nat
 | .un n=>n
 | .cv v=>v.cells.size
 | .d T _=>T.size
 | .ag _ l=>SV.csizeL l
 | .tu _=>1
 | .h ..=>1|.z ..=>1|.p ..=>1|.pd ..=>1|.hb ..=>1|.fn ..=>1|.hr ..=>1|.pm ..=>1|.hc ..=>1|.mr ..=>1
def SV.csizeL:List SV→Nat
 | []=>0
 | a::l=>a.csize + SV.csizeL l
end
def Stp.beq:Stp→Stp→Bool
 | .f j,.f j'=>Nat.beq j j'
 | .i a,.i b=>a.beq b
 | _,_=>false
def zeW:List Stp→List Stp→Bool
 | [],[]=>true
 | a::l,b::l'=>a.beq b&&zeW l l'
 | _,_=>false
def zsz:Option (At×At)→Option (At×At)→Bool
 | none,none=>true
 | some (a,b),some (c,d)=>a.beq c&&b.beq d
 | _,_=>false
def zsu:Value→Value→Bool
 | .int k n,.int k' n'=>decide (k=k')&&decide (n=n')
 | .bool b,.bool c=>b==c
 | .pointer none,.pointer none=>true
 | .slice none 0 0,.slice none 0 0=>true
 | .nilFunc,.nilFunc=>true
 | _,_=>false
mutual
def SV.le:SV→SV→Bool
 | x,.un n=>Nat.beq x.csize n
 | .cv v,.cv v'=>zsu v v'
 | .d T a,.d T' b=>T.beq T'&&a.beq b
 | .ag T l,.ag T' l'=>T.beq T'&&SV.leL l l'
 | .h e r vw,.h e' r' vw'=>e.beq e'&&Nat.beq r r'&&zsz vw vw'
 | .z e a,.z e' b=>e.beq e'&&a.beq b
 | .p R T r q,.p R' T' r' q'=>R.beq R'&&T.beq T'&&Nat.beq r r'&&zeW q q'
 | .pd T a,.pd T' b=>T.beq T'&&a.beq b
 | .hb R e n r q,.hb R' e' n' r' q'=>R.beq R'&&e.beq e'&&Nat.beq n n'&&Nat.beq r r'&&zeW q q'
 | .hc e r i,.hc e' r' i'=>e.beq e'&&Nat.beq r r'&&i.beq i'
 | .hr e r i g,.hr e' r' i' g'=>e.beq e'&&Nat.beq r r'&&i.beq i'&&Nat.beq g g'
 | .pm e T r i q g,.pm e' T' r' i' q' g'=>e.beq e'&&T.beq T'&&Nat.beq r r'&&i.beq i'&&zeW q q'&&Nat.beq g g'
 | .fn f a l,.fn f' a' l'=>Nat.beq f f'&&SV.leL a a'&&SV.leL l l'
 | .tu l,.tu l'=>SV.leL l l'
 | .mr K V r,.mr K' V' r'=>K.beq K'&&V.beq V'&&Nat.beq r r'
 | _,_=>false
def SV.leL:List SV→List SV→Bool
 | [],[]=>true
 | a::l,b::l'=>a.le b&&SV.leL l l'
 | _,_=>false
end
def SV.leSlot (a b:SV):Bool:=match b with|.un _=>true|_=>a.le b
def Root.le:Root→Root→Bool
 | .lt ..,_=>false
 | _,.dead=>true
 | .box T v,.box T' v'=>T.beq T'&&v.le v'
 | .row e a,.row e' b=>e.beq e'&&a.beq b
 | .row e a,.fz e' b=>e.beq e'&&a.beq b
 | .mat e a g,.mat e' b g'=>e.beq e'&&a.beq b&&Nat.beq g g'
 | .mat e a _,.fz e' b=>e'.beq (.sl e)&&a.beq b
 | .mat e a _,.row e' b=>e'.beq (.sl e)&&a.beq b
 | .fz e a,.fz e' b=>e.beq e'&&a.beq b
 | .mp K V a,.mp K' V' b=>K.beq K'&&V.beq V'&&a.beq b
 | _,_=>false
mutual
def cvtC:Ty→List Value→Option (D×List Value)
 | .int k,.int k' n::r=>if k=k' then some (.int k n,r) else none
 | .bool,.bool b::r=>some (.bool b,r)
 | .str,.string s::r=>some (.str s,r)
 | .sl _,.slice none 0 0::r=>some (.nil,r)
 | .st l,cs=>match cvtL l cs with|some (ds,r)=>some (.agg ds,r)|none=>none
 | .arr n e,cs=>match cvtN (cvtC e) n cs with|some (ds,r)=>some (.agg ds,r)|none=>none
 | _,_=>none
def cvtL:List Ty→List Value→Option (List D×List Value)
 | [],cs=>some ([],cs)
 | t::l,cs=>match cvtC t cs with
  | none=>none
  | some (d,r)=>match cvtL l r with
   | none=>none
   | some (ds,r')=>some (d::ds,r')
def cvtN (f:List Value→Option (D×List Value)):Nat→List Value→Option (List D×List Value)
 | 0,cs=>some ([],cs)
 | n + 1,cs=>match f cs with
  | none=>none
  | some (d,r)=>match cvtN f n r with
   | none=>none
   | some (ds,r')=>some (d::ds,r')
end
def cvtD (T:Ty) (v:Value):Option D :=
 match T.isAgg,v with
 | true,.agg cs=>match cvtC T cs.toList with|some (d,[])=>some d|_=>none
 | true,_=>none
 | false,v=>match cvtC T [v] with|some (d,[])=>some d|_=>none
inductive Bd where
 | prim (p:Prim) (as:List At)
 | call (f:FuncId) (as:List At) (m:Nat)
 | sub (t:Tree) (m:Nat)
def Bd.outs:Bd→Nat|.prim ..=>1|.call _ _ m=>m|.sub _ m=>m
def Bd.on:Bd→Tree→Tree
 | .prim p as,k=>.prim p as k
 | .call f as m,k=>.call f as m k
 | .sub t m,k=>.sub t m k
def zgE:List Bd→Tree→Tree
 | [],k=>k
 | b::l,k=>zgE l (b.on k)
structure SS where
 bs:List Bd
 nv:Nat
 up:List (Nat×Root)
 ab:Nat
inductive X (α:Type) where
 | pure (a:α)
 | fail (n:Nat)
 | root (r:Nat) (k:Root→X α)
 | put (r:Nat) (R:Root) (k:X α)
 | new (R:Root) (k:Nat→X α)
 | bd (b:Bd) (k:Nat→X α)
 | at_ (k:Nat→Nat→X α)
def X.bind {α β:Type}:X α→(α→X β)→X β
 | .pure a,f=>f a
 | .fail n,_=>.fail n
 | .root r k,f=>.root r fun R=>(k R).bind f
 | .put r R k,f=>.put r R (k.bind f)
 | .new R k,f=>.new R fun n=>(k n).bind f
 | .bd b k,f=>.bd b fun n=>(k n).bind f
 | .at_ k,f=>.at_ fun n m=>(k n m).bind f
instance:Monad X where
 pure:=X.pure
 bind:=X.bind
def zeQ (r:Nat):List (Nat×Root)→Option Root
 | []=>none
 | (r',R)::l=>if Nat.beq r' r then some R else zeQ r l
def X.run {α:Type}(μ:Nat→Root):X α→SS→Option (α×SS×List Nat)
 | .pure a,s=>some (a,s,[])
 | .fail _,_=>none
 | .root r k,s=>match zeQ r s.up with
  | some R=>(k R).run μ s
  | none=>match (k (μ r)).run μ s with
   | none=>none
   | some (a,s',l)=>some (a,s',r::l)
 | .put r R k,s=>k.run μ { s with up:=(r,R)::s.up }
 | .new R k,s=>(k s.ab).run μ { s with up:=(s.ab,R)::s.up,ab:=s.ab + 1 }
 | .bd b k,s=>(k s.nv).run μ { s with bs:=b::s.bs,nv:=s.nv + b.outs }
 | .at_ k,s=>(k s.nv s.ab).run μ s
def X.why {α:Type}(μ:Nat→Root):X α→SS→Nat
 | .pure _,_=>0
 | .fail n,_=>n
 | .root r k,s=>match zeQ r s.up with
  | some R=>(k R).why μ s
  | none=>(k (μ r)).why μ s
 | .put r R k,s=>k.why μ { s with up:=(r,R)::s.up }
 | .new R k,s=>(k s.ab).why μ { s with up:=(s.ab,R)::s.up,ab:=s.ab + 1 }
 | .bd b k,s=>(k s.nv).why μ { s with bs:=b::s.bs,nv:=s.nv + b.outs }
 | .at_ k,s=>(k s.nv s.ab).why μ s
def X.of {α:Type}(n:Nat):Option α→X α
 | some a=>.pure a
 | none=>.fail n
def X.getRoot (r:Nat):X Root:=.root r .pure
def X.putRoot (r:Nat) (R:Root):X Unit:=.put r R (.pure ())
def X.newRoot (R:Root):X Nat:=.new R .pure
def X.prim (p:Prim) (as:List At):X At:=.bd (.prim p as) fun n=>.pure (.v n)
def X.call (f:FuncId) (as:List At) (m:Nat):X Nat:=.bd (.call f as m) .pure
def X.sub (t:Tree) (m:Nat):X Unit:=.bd (.sub t m) fun _=>.pure ()
def X.nvab:X (Nat×Nat):=.at_ fun n m=>.pure (n,m)
def X.guard (n:Nat) (b:Bool):X Unit:=if b then X.pure () else X.fail n
def zei:List At→Option (List D)
 | []=>some []
 | .c d::l=>match zei l with|some ds=>some (d::ds)|none=>none
 | .v _::_=>none
def X.op (p:Prim) (as:List At):X At :=
 match zei as with
 | some ds=>match p.run ds with
  | some d=>X.pure (.c d)
  | none=>X.fail 1
 | none=>X.prim p as
def zdI (fz:Bool) (e:Ty) (r:Nat):X At:=do
 match←X.getRoot r with
 | .row e' a=>do
  X.guard 5 (e'.beq e)
  if fz then do
   X.putRoot r (.fz e a)
   X.pure a
  else X.pure a
 | .fz e' a=>do
  X.guard 5 (e'.beq e)
  X.pure a
 | .lt e' a _=>do
  X.guard 5 (e'.beq e&&!fz)
  X.pure a
 | .mat e' a _=>do
  X.guard 5 (e.beq (.sl e'))
  if fz then do
   X.putRoot r (.fz e a)
   X.pure a
  else X.pure a
 | _=>X.fail 6
def zgn (fz:Bool) (e:Ty) (r g:Nat):X At:=do
 match←X.getRoot r with
 | .mat e' a g'=>do
  X.guard 5 (e'.beq e&&Nat.beq g g')
  if fz then do
   X.putRoot r (.fz (.sl e) a)
   X.pure a
  else X.pure a
 | _=>X.fail 6
mutual
def SV.view (fz:Bool):Ty→SV→X At
 | T,.d T' a=>if T'.beq T then X.pure a else X.fail 2
 | T,.cv v=>match cvtD T v with|some x=>X.pure (.c x)|none=>X.fail 3
 | T,.h e r vw=>do
  X.guard 4 (T.beq (.sl e))
  let a←zdI fz e r
  match vw with
  | none=>X.pure a
  | some (lo,hi)=>X.op .sub [a,lo,hi]
 | T,.hr e r ix g=>do
  X.guard 4 (T.beq (.sl e))
  let a←zgn fz e r g
  X.op .get [a,ix]
 | T,.z e a=>do
  X.guard 4 (T.beq (.sl e))
  X.op .sub [a,.c (.int .i64 0),.c (.int .i64 0)]
 | T,.ag T' l=>do
  X.guard 7 (T'.beq T)
  match T with
  | .st Ts=>do
   let as←SV.viewL fz Ts l
   X.op .mk as
  | _=>X.fail 8
 | T,.hb R e n r q=>do
  X.guard 4 (T.beq (.sl e)&&!fz)
  match←X.getRoot r,q with
  | .box T' (.d T'' a),[]=>do
   X.guard 9 (T'.beq R&&T''.beq R&&R.beq (.arr n e))
   X.op .tosl [a]
  | _,_=>X.fail 10
 | _,_=>X.fail 11
def SV.viewL (fz:Bool):List Ty→List SV→X (List At)
 | [],[]=>X.pure []
 | T::Ts,s::l=>do
  let a←SV.view fz T s
  let as←SV.viewL fz Ts l
  X.pure (a::as)
 | _,_=>X.fail 12
end
def SV.typed (T:Ty) (s:SV):X SV :=
 match s with
 | .cv v=>match cvtD T v with
  | some x=>X.pure (.d T (.c x))
  | none=>if T.beq .no&&Nat.beq v.cells.size 1&&(match v with|.agg _=>false|.tuple _=>false|_=>true) then X.pure s else X.fail 13
 | .d T' _=>if T'.beq T then X.pure s else X.fail 14
 | .ag T' _=>if T'.beq T then X.pure s else X.fail 15
 | .h e _ _=>if T.beq (.sl e) then X.pure s else X.fail 16
 | .z e _=>if T.beq (.sl e) then X.pure s else X.fail 16
 | .hb _ e _ _ _=>if T.beq (.sl e) then X.pure s else X.fail 16
 | .p ..=>if T.beq .no then X.pure s else X.fail 17
 | .pm ..=>if T.beq .no then X.pure s else X.fail 17
 | .hr e _ _ _=>if T.beq (.sl e) then X.pure s else X.fail 16
 | .pd ..=>if T.beq .no then X.pure s else X.fail 17
 | .fn ..=>if T.beq .no then X.pure s else X.fail 17
 | _=>X.fail 18
def nav:List Stp→SV→X SV
 | [],s=>X.pure s
 | .f j::q,.ag _ l=>match l[j]? with
  | some s=>nav q s
  | none=>X.fail 19
 | .f j::q,.d (.st Ts) a=>match Ts[j]? with
  | some T=>do let x←X.op (.fld j) [a];nav q (.d T x)
  | none=>X.fail 20
 | .i ix::q,.d (.arr _ e) a=>do let x←X.op .get [a,ix];nav q (.d e x)
 | _,_=>X.fail 21
def setD:List Stp→Ty→At→At→X At
 | [],_,_,v=>X.pure v
 | .f j::q,.st Ts,a,v=>match Ts[j]? with
  | some T=>match q with
   | []=>X.op (.setf j) [a,v]
   | s::q'=>do
    let y←X.op (.fld j) [a]
    let x←setD (s::q') T y v
    X.op (.setf j) [a,x]
  | none=>X.fail 22
 | .i ix::q,.arr _ e,a,v=>match q with
  | []=>X.op .set [a,ix,v]
  | s::q'=>do
   let y←X.op .get [a,ix]
   let x←setD (s::q') e y v
   X.op .set [a,ix,x]
 | _,_,_,_=>X.fail 23
def zlb (a:At):List Ty→Nat→X (List SV)
 | [],_=>X.pure []
 | T::Ts,j=>do
  let x←X.op (.fld j) [a]
  let l←zlb a Ts (j + 1)
  X.pure (.d T x::l)
def tyAt:List Stp→Ty→Option Ty
 | [],T=>some T
 | .f j::q,.st Ts=>match Ts[j]? with|some T=>tyAt q T|none=>none
 | .i _::q,.arr _ e=>tyAt q e
 | _,_=>none
def zdU:List Stp→SV→SV→X SV
 | [],_,v=>X.pure v
 | .f j::q,.ag T l,v=>match l[j]? with
  | some s=>do let s' ← zdU q s v;X.pure (.ag T (l.set j s'))
  | none=>X.fail 24
 | .f j::q,.d (.st Ts) a,v=>match v with
  | .d _ b=>do let x←setD (.f j::q) (.st Ts) a b;X.pure (.d (.st Ts) x)
  | _=>do
   let l←zlb a Ts 0
   match l[j]? with
   | some s=>do let s' ← zdU q s v;X.pure (.ag (.st Ts) (l.set j s'))
   | none=>X.fail 25
 | .i ix::q,.d (.arr n e) a,v=>match v with
  | .d _ b=>do let x←setD (.i ix::q) (.arr n e) a b;X.pure (.d (.arr n e) x)
  | _=>X.fail 26
 | _,_,_=>X.fail 27
end Go.SX
namespace Go.SX
structure Inl where
 t:Tree
 m:Nat
 res:SV
 mem:List Root
structure Cx where
 P:Program
 ty:List Ty
 own:List FuncId
 inl:List FuncId
 keepL:List FuncId
 absL:List FuncId
 abs:Bool:=false
 keep:Bool:=false
 lendL:List FuncId:=[]
 freshL:List FuncId:=[]
 lend:Bool:=false
 owL:List FuncId:=[]
 bk:List (FuncId×TypeId×TypeId):=[]
 ow:Bool:=false
 heads:List (Nat×List (Nat×Nat×St)):=[]
 hd:List (Nat×Nat×St):=[]
def Cx.T (cx:Cx) (t:TypeId):Ty:=(cx.ty[t]?).getD .no
def Cx.by_ (cx:Cx) (t:TypeId):Nat:=cx.P.bytesOf t
def Cx.cell1 (cx:Cx) (t:TypeId):Bool :=
 match cx.T t with
 | .no=>Nat.beq (cx.P.cellsOf t) 1&&(match cx.P.underlying t with|some (.struct _)=>false|some (.array ..)=>false|some _=>true|none=>false)
 | _=>true
def zeb (tys:TypeId→Ty):List Field→Nat→Bool
 | [],_=>true
 | f::l,n=>Nat.beq f.offset n&&zeb tys l (n + (tys f.type).size)
def ztL (cx:Cx) (t:TypeId):Bool :=
 match cx.T t with
 | .no=>true
 | T =>
  match cx.P.info? t with
  | none=>false
  | some i =>
   Nat.beq i.size T.size&&(match i.zero with|some z=>(match cvtD T z with|some d=>d.beq T.zero|none=>false)|none=>false)&&T.known &&
   (match T,cx.P.underlying t with
    | .int k,some (.int k')=>decide (k=k')
    | .bool,some .bool=>true
    | .str,some .string=>true
    | .sl e,some (.slice E)=>(cx.T E).beq e
    | .arr n e,some (.array m E)=>Nat.beq n m&&(cx.T E).beq e
    | .st Ts,some (.struct fs)=>Ty.beqL Ts (fs.toList.map fun f=>cx.T f.type)&&zeb cx.T fs.toList 0
    | _,_=>false)
def zpY (cx:Cx):Nat→Bool
 | 0=>true
 | n + 1=>ztL cx n&&zpY cx n
def zac (l:List Root) (r:Nat):Root:=(l[r]?).getD .dead
def zipD:List Ty→List D→List SV
 | T::Ts,d::ds=>.d T (.c d)::zipD Ts ds
 | _,_=>[]
def opnd (ρ:Tmp→SV):Operand→SV
 | .tmp t=>ρ t
 | .const v=>.cv v
 | .global _=>.un 1
 | .func f=>.fn f [] []
def simple:SV→SV
 | .cv (.int k n)=>.d (.int k) (.c (.int k n))
 | .cv (.bool b)=>.d .bool (.c (.bool b))
 | .cv (.string s)=>.d .str (.c (.str s))
 | s=>s
def zeH (s:SV):X (IntKind×At):=match simple s with|.d (.int k) a=>X.pure (k,a)|_=>X.fail 50
def atD (s:SV):X (Ty×At):=match simple s with|.d T a=>X.pure (T,a)|_=>X.fail 51
def zra:BinOp→Bool
 | .eql|.neq|.lss|.leq|.gtr|.geq=>true
 | _=>false
def zey:BinOp→Bool|.shl|.shr=>true|_=>false
def zmD:SV→Bool
 | .cv (.slice none 0 0)=>true
 | _=>false
def eqOk (cx:Cx):Nat→TypeId→Bool
 | 0,_=>false
 | n + 1,t=>match cx.P.underlying t with
  | some .bool=>true
  | some (.int _)=>true
  | some .string=>true
  | some (.struct fs)=>!cx.P.stoodInHeld t&&fs.toList.all (fun f=>!(f.name == "_")&&eqOk cx n f.type)
  | some (.array _ e)=>eqOk cx n e
  | _=>false
def zoT (cx:Cx) (op:BinOp) (xt:TypeId) (x y:SV):X SV :=
 match simple x,simple y with
 | .d (.int k) a,.d (.int k') b=>do
  X.guard 52 (zey op||decide (k=k'))
  let v←X.op (.bin op) [a,b]
  X.pure (.d (if zra op then .bool else .int k) v)
 | .d .bool a,.d .bool b=>do
  X.guard 53 ((match op with|.eql|.neq=>true|_=>false)&&(cx.T xt).beq .bool)
  let v←X.op (.bin op) [a,b]
  X.pure (.d .bool v)
 | .d .str a,.d .str b=>do
  let v←X.op (.bin op) [a,b]
  X.pure (.d (if zra op then .bool else .str) v)
 | x',y' =>
  if zmD y' then
   match cx.T xt with
   | .sl e=>do
    let a←SV.view false (.sl e) x'
    let v←X.op .isnil [a]
    match op with
    | .eql=>X.pure (.d .bool v)
    | .neq=>do let u←X.op (.un .not) [v];X.pure (.d .bool u)
    | _=>X.fail 54
   | _=>X.fail 55
  else do
   let T:=cx.T xt
   X.guard 56 (T.isAgg&&T.flat&&T.known&&!cx.P.eqGuardType cx.P.depth xt&&eqOk cx 20 xt)
   let a←SV.view false T x'
   let b←SV.view false T y'
   let v←X.op .eqv [a,b]
   match op with
   | .eql=>X.pure (.d .bool v)
   | .neq=>do let u←X.op (.un .not) [v];X.pure (.d .bool u)
   | _=>X.fail 54
def lenOf (s:SV):X SV :=
 match simple s with
 | .d (.sl _) a=>do let v←X.op .len [a];X.pure (.d (.int .i64) v)
 | .d .str a=>do let v←X.op .slen [a];X.pure (.d (.int .i64) v)
 | .h e r none=>do let a←SV.view false (.sl e) (.h e r none);let v←X.op .len [a];X.pure (.d (.int .i64) v)
 | .h e r (some (lo,hi))=>do let _←SV.view false (.sl e) (.h e r none);let v←X.op .vlen [lo,hi];X.pure (.d (.int .i64) v)
 | .hr e r ix g=>do let a←SV.view false (.sl e) (.hr e r ix g);let v←X.op .len [a];X.pure (.d (.int .i64) v)
 | .z ..=>X.pure (.d (.int .i64) (.c (.int .i64 0)))
 | .hb _ _ n _ _=>X.pure (.d (.int .i64) (.c (.int .i64 n)))
 | .cv (.slice none 0 0)=>X.pure (.d (.int .i64) (.c (.int .i64 0)))
 | _=>X.fail 57
def i64c (n:Int):At:=.c (.int .i64 n)
def zuT (e:Ty) (r:Nat):X At:=do
 match←X.getRoot r with
 | .ow e' a _ _=>do
  X.guard 5 (e.beq (.sl e'))
  X.pure a
 | _=>SV.view false (.sl e) (.h e r none)
def zev (cx:Cx) (t:TypeId) (x ix:SV):X SV:=do
 let (_,i)←zeH ix
 match cx.T t,x with
 | .sl e,.d T a=>do
  X.guard 60 (T.beq (.sl e))
  let v←X.op .get [a,i]
  X.pure (.pd e v)
 | .sl e,.h e' r vw=>do
  X.guard 60 (e'.beq e)
  match vw with
  | none=>do
   let a←zuT e r
   let j←X.op .idx [a,i]
   X.pure (.p (.arr 0 e) e r [.i j])
  | some (lo,hi)=>do
   let _←SV.view false (.sl e) (.h e r none)
   let j←X.op .idxv [lo,hi,i]
   X.pure (.p (.arr 0 e) e r [.i j])
 | .sl e,.hr e' r ix g=>do
  X.guard 60 (e'.beq e)
  let a←SV.view false (.sl e) (.hr e r ix g)
  let j←X.op .idx [a,i]
  X.pure (.pm e e r ix [.i j] g)
 | .arr n e,.p R T r q=>do
  X.guard 61 (T.beq (.arr n e))
  let j←X.op (.idxn n) [i]
  X.pure (.p R e r (q++[.i j]))
 | .arr n e,.pd T a=>do
  X.guard 62 (T.beq (.arr n e))
  let v←X.op .get [a,i]
  X.pure (.pd e v)
 | _,_=>X.fail 63
def zjb (cx:Cx) (t:TypeId) (x ix:SV):X SV:=do
 let (_,i)←zeH ix
 match cx.T t,simple x with
 | .arr n e,.d T a=>do
  X.guard 64 (T.beq (.arr n e))
  let v←X.op .get [a,i]
  X.pure (.d e v)
 | .str,.d .str a=>do
  let v←X.op .sget [a,i]
  X.pure (.d (.int .u8) v)
 | _,_=>X.fail 65
def zi9 (T:Ty) (j:Nat):Option Ty:=match T with|.st Ts=>Ts[j]?|_=>none
def zeD (cx:Cx) (t:TypeId) (x:SV) (j:Nat):X SV:=do
 let T:=cx.T t
 let F←X.of 66 (zi9 T j)
 X.guard 66 (Nat.blt 0 F.size)
 match x with
 | .p R T' r q=>do
  X.guard 67 (T'.beq T)
  X.pure (.p R F r (q++[.f j]))
 | .pd T' a=>do
  X.guard 67 (T'.beq T)
  let v←X.op (.fld j) [a]
  X.pure (.pd F v)
 | _=>X.fail 68
def zjs (cx:Cx) (t:TypeId) (x:SV) (j:Nat):X SV:=do
 let T:=cx.T t
 let F←X.of 69 (zi9 T j)
 match x with
 | .d T' a=>do
  X.guard 70 (T'.beq T)
  let v←X.op (.fld j) [a]
  X.pure (.d F v)
 | .ag T' l=>do
  X.guard 70 (T'.beq T)
  X.of 71 (l[j]?)
 | _=>X.fail 72
def ztP (R:Ty) (r:Nat) (q:List Stp):X SV:=do
 match←X.getRoot r with
 | .box R' v=>do
  X.guard 73 (R'.beq R)
  nav q v
 | .row e a|.fz e a=>do
  X.guard 74 (R.beq (.arr 0 e))
  match q with
  | .i ix::q'=>do
   let x←X.op .get [a,ix]
   nav q' (.d e x)
  | _=>X.fail 75
 | .mat e a g=>do
  X.guard 74 (R.beq (.arr 0 (.sl e)))
  match q with
  | [.i ix]=>do
   let j←X.op .idx [a,ix]
   X.pure (.hr e r j g)
  | _=>X.fail 75
 | .ow e _ ix r2=>do
  X.guard 74 (R.beq (.arr 0 (.sl e)))
  match q with
  | [.i ix']=>do
   let _←X.op .eqi [ix',ix]
   X.pure (.h e r2 none)
  | _=>X.fail 75
 | _=>X.fail 76
def zso (e:Ty) (r:Nat) (ix:At) (q:List Stp) (g:Nat):X SV:=do
 let a←match←X.getRoot r with
  | .mat e' a g'=>do X.guard 74 (e'.beq e&&Nat.beq g g');X.pure a
  | _=>X.fail 76
 let y←X.op .get [a,ix]
 match q with
 | .i j::q'=>do
  let x←X.op .get [y,j]
  nav q' (.d e x)
 | _=>X.fail 75
def zmA (cx:Cx) (t:TypeId) (x:SV):X SV:=do
 let T:=cx.T t
 X.guard 154 (cx.cell1 t)
 match x with
 | .pd T' a=>do
  X.guard 77 (T'.beq T)
  X.pure (.d T a)
 | .p R T' r q=>do
  X.guard 78 (T'.beq T)
  let s←ztP R r q
  SV.typed T s
 | .pm e T' r ix q g=>do
  X.guard 78 (T'.beq T)
  let s←zso e r ix q g
  SV.typed T s
 | _=>X.fail 79
def setRow (q:List Stp) (e:Ty) (a b:At):X At :=
 match q with
 | [.i ix]=>X.op .set [a,ix,b]
 | .i ix::s::q'=>do
  let y←X.op .get [a,ix]
  let y' ← setD (s::q') e y b
  X.op .set [a,ix,y']
 | _=>X.fail 83
def allRows (e:Ty):List SV→X Bool
 | []=>X.pure true
 | .h e' r none::l=>do
  match←X.getRoot r with
  | .row e'' _=>if e'.beq e&&e''.beq e then allRows e l else X.pure false
  | _=>X.pure false
 | _=>X.pure false
def zjG (e:Ty):List SV→X (List At)
 | []=>X.pure []
 | .h e' r none::l=>do
  match←X.getRoot r with
  | .row e'' a=>do
   X.guard 125 (e'.beq e&&e''.beq e)
   X.putRoot r .dead
   let as←zjG e l
   X.pure (a::as)
  | _=>X.fail 126
 | _=>X.fail 127
def rowAt (e:Ty) (r:Nat):X At:=do
 match←X.getRoot r with
 | .row e' a=>do
  X.guard 82 (e'.beq e)
  X.pure a
 | _=>X.fail 84
def ztB (e:Ty) (r g:Nat):X At:=do
 match←X.getRoot r with
 | .mat e' a g'=>do
  X.guard 82 (e'.beq e&&Nat.beq g g')
  X.pure a
 | _=>X.fail 84
def zfx (e T:Ty) (r:Nat) (q:List Stp) (v:SV):X SV:=do
 let b←SV.view true T v
 let a←rowAt e r
 let a' ← setRow q e a b
 X.putRoot r (.row e a')
 X.pure (.un 1)
def zl9 (e:Ty) (r:Nat) (q:List Stp) (v:SV):X SV:=do
 match←zjG e [v],q with
 | [b],[.i ix]=>do
  match←X.getRoot r with
  | .mat e' a g=>do
   X.guard 82 (e'.beq e)
   let a' ← X.op .set [a,ix,b]
   X.putRoot r (.mat e a' (g + 1))
   X.pure (.un 1)
  | _=>X.fail 84
 | _,_=>X.fail 83
def zo0 (e T:Ty) (r:Nat) (ix:At) (q:List Stp) (g:Nat) (v:SV):X SV:=do
 X.guard 82 e.flat
 let b←SV.view true T v
 let a←ztB e r g
 let y←X.op .get [a,ix]
 let y' ← setRow q e y b
 let a' ← X.op .set [a,ix,y']
 X.putRoot r (.mat e a' g)
 X.pure (.un 1)
def zgY (R T:Ty) (r:Nat) (q:List Stp) (old v:SV):X SV:=do
 let v' ← SV.typed T v
 let new←zdU q old v'
 X.putRoot r (.box R new)
 X.pure (.un 1)
def znN:List SV→X (List SV)
 | []=>X.pure []
 | .h e r none::l =>
  if e.flat then do
   let a←SV.view true (.sl e) (.h e r none)
   let l' ← znN l
   X.pure (.d (.sl e) a::l')
  else do
   let l' ← znN l
   X.pure (.h e r none::l')
 | s::l=>do
  let l' ← znN l
  X.pure (s::l')
def calm (s:SV):X SV :=
 match s with
 | .ag T l=>do
  let l' ← znN l
  X.pure (.ag T l')
 | s=>X.pure s
def zuj (ow:Bool) (e:Ty) (q:List Stp) (v:SV):Option (Ty×At×Nat) :=
 match ow,e,q,v with
 | true,.sl e',[.i ix],.h e'' r2 none=>if e''.beq e'&&e'.flat then some (e',ix,r2) else none
 | _,_,_,_=>none
def zpz (e:Ty) (r:Nat) (a ix:At) (r2:Nat):X SV:=do
 let _←rowAt e r2
 X.guard 83 (!Nat.beq r r2)
 let _←X.op .get [a,ix]
 X.putRoot r (.ow e a ix r2)
 X.pure (.un 1)
def zql (e:Ty) (r:Nat) (a ix:At) (r2:Nat):X Unit:=do
 let b←zdI true e r2
 let a' ← X.op .set [a,ix,b]
 X.putRoot r (.row (.sl e) a')
def settle (v:SV):X Unit :=
 match v with
 | .h _ r none=>do
  match←X.getRoot r with
  | .ow e a ix r2=>zql e r a ix r2
  | _=>X.pure ()
 | _=>X.pure ()
def ziV (cx:Cx) (t:TypeId) (x v:SV):X SV:=do
 let T:=cx.T t
 X.guard 154 (cx.cell1 t)
 match x with
 | .p R T' r q=>do
  X.guard 80 (T'.beq T)
  match←X.getRoot r with
  | .box R' old=>do
   X.guard 81 (R'.beq R)
   if cx.lend then do
    let v' ← calm v
    zgY R T r q old v'
   else if cx.ow then do
    settle v
    zgY R T r q old v
   else zgY R T r q old v
  | .row e a=>do
   X.guard 82 (R.beq (.arr 0 e))
   match zuj cx.ow e q v with
   | some (e',ix,r2)=>zpz e' r a ix r2
   | none=>zfx e T r q v
  | .mat e a _=>do
   X.guard 82 (R.beq (.arr 0 (.sl e)))
   if cx.abs&&(← allRows e [v]) then zl9 e r q v
   else do
    X.putRoot r (.row (.sl e) a)
    zfx (.sl e) T r q v
  | .lt e a r'=>do
   X.guard 82 (R.beq (.arr 0 e))
   let R' ← X.getRoot r'
   X.guard 83 R'.noLt
   X.putRoot r' .dead
   X.putRoot r (.row e a)
   zfx e T r q v
  | _=>X.fail 84
 | .pm e T' r ix q g=>do
  X.guard 80 (T'.beq T)
  zo0 e T r ix q g v
 | _=>X.fail 85
def bound (dflt:At):Option SV→X At
 | none=>X.pure dflt
 | some s=>do let (_,a)←zeH s;X.pure a
def isZ:At→Bool|.c (.int .i64 0)=>true|_=>false
def isZero:Option SV→Bool
 | some (.cv (.int _ 0))=>true
 | some (.d _ (.c (.int _ 0)))=>true
 | _=>false
def zpf (e:Ty) (r:Nat) (hi mx:SV):X SV:=do
 let a←SV.view false (.sl e) (.h e r none)
 let (_,h)←zeH hi
 let h' ← X.op .rng [a,i64c 0,h]
 let (_,m)←zeH mx
 let h2←X.op .eqi [m,h']
 X.pure (.hc e r h2)
def zoY (e:Ty) (r:Nat) (lo:Option SV) (hi mx:SV):X SV:=do
 let a←SV.view false (.sl e) (.h e r none)
 let l←bound (i64c 0) lo
 let (_,h)←zeH hi
 let (_,m)←zeH mx
 let h' ← X.op .rng3 [a,l,h,m]
 X.pure (.h e r (some (l,h')))
def zpo (e:Ty) (a:At) (lo:Option SV) (hi mx:SV):X SV:=do
 let l←bound (i64c 0) lo
 let (_,h)←zeH hi
 let (_,m)←zeH mx
 let h' ← X.op .rng3 [a,l,h,m]
 let v←X.op .sub [a,l,h']
 X.pure (.d (.sl e) v)
def zqB (e:Ty) (a:At) (lo hi:Option SV):X SV:=do
 let l←bound (i64c 0) lo
 let n←X.op .len [a]
 let h←bound n hi
 let v←X.op .sub [a,l,h]
 X.pure (.d (.sl e) v)
def zrv (e:Ty) (r:Nat) (lo hi:Option SV):X SV:=do
 let a←SV.view false (.sl e) (.h e r none)
 let l←bound (i64c 0) lo
 let n←X.op .len [a]
 let h←bound n hi
 let h' ← X.op .rng [a,l,h]
 X.pure (.h e r (some (l,h')))
def zps (e:Ty) (r:Nat) (lo0 hi0:At) (lo hi:Option SV):X SV:=do
 let a←SV.view false (.sl e) (.h e r none)
 let l←bound (i64c 0) lo
 let n←X.op .vlen [lo0,hi0]
 let h←bound n hi
 let h' ← X.op .rngv [a,lo0,l,h]
 let l' ← X.op .vadd [lo0,l]
 X.pure (.h e r (some (l',h')))
def zlP (a:At) (lo hi:Option SV):X SV:=do
 let l←bound (i64c 0) lo
 let n←X.op .slen [a]
 let h←bound n hi
 let v←X.op .ssub [a,l,h]
 X.pure (.d .str v)
def zjF (cx:Cx) (t:TypeId) (x:SV) (lo hi mx:Option SV):X SV:=do
 match mx,hi with
 | some m,some h =>
  if isZero lo&&isZero (some h)&&isZero (some m) then
   match cx.T t with
   | .sl e=>do
    let a←SV.view false (.sl e) x
    X.pure (.z e a)
   | _=>X.fail 86
  else match cx.T t,simple x with
   | .sl e,.h e' r none=>do
    X.guard 87 (e'.beq e)
    if lo.isNone then zpf e r h m else zoY e r lo h m
   | .sl e,.d T a=>do
    X.guard 87 (T.beq (.sl e))
    zpo e a lo h m
   | _,_=>X.fail 87
 | some _,none=>X.fail 87
 | none,_ =>
  match cx.T t,simple x with
  | .sl e,.d T a=>do
   X.guard 88 (T.beq (.sl e))
   if lo.isNone&&hi.isNone then X.pure (.d (.sl e) a) else zqB e a lo hi
  | .sl e,.h e' r vw=>do
   X.guard 89 (e'.beq e)
   if lo.isNone&&hi.isNone then X.fail 89
   else match vw with
    | none=>zrv e r lo hi
    | some (lo0,hi0)=>zps e r lo0 hi0 lo hi
  | .sl e,.cv (.slice none 0 0)=>zqB e (.c .nil) lo hi
  | .str,.d .str a=>zlP a lo hi
  | .arr n e,.p R T r []=>do
   X.guard 93 (T.beq (.arr n e)&&R.beq (.arr n e)&&lo.isNone&&hi.isNone)
   X.pure (.hb R e n r [])
  | _,_=>X.fail 95
def zes (cx:Cx) (t:TypeId) (len cap:SV):X SV:=do
 match cx.T t with
 | .sl e=>do
  let E←match cx.P.underlying t with|some (.slice E)=>X.pure E|_=>X.fail 96
  let (_,n)←zeH len
  let (_,c)←zeH cap
  let a←X.op (.rep e.zero (cx.by_ E)) [n,c]
  match e with
  | .sl e'=>do
   let r←X.newRoot (if cx.abs then .mat e' a 0 else .row e a)
   X.pure (.h e r none)
  | _=>do
   let r←X.newRoot (.row e a)
   X.pure (.h e r none)
 | _=>X.fail 97
def zgA:Nat→List (Nat×SV)→Option (List SV)
 | _,[]=>some []
 | n,(i,s)::l=>if Nat.beq i n then match zgA (n + 1) l with|some r=>some (s::r)|none=>none else none
def zhQ (fz:Bool) (T:Ty):List SV→X (List At)
 | []=>X.pure []
 | s::l=>do
  let a←SV.view fz T s
  let as←zhQ fz T l
  X.pure (a::as)
def zbE (cx:Cx) (t:TypeId) (n:Nat) (parts:List (Nat×SV)):X SV:=do
 match cx.T t with
 | .sl e=>do
  let l←X.of 98 (zgA 0 parts)
  X.guard 99 (Nat.beq l.length n&&decide (n * e.size≤16777216)&&e.known)
  match e with
  | .sl e'=>do
   if cx.abs&&(!l.isEmpty)&&(← allRows e' l) then do
    let as←zjG e' l
    let a←X.op .mks as
    let r←X.newRoot (.mat e' a 0)
    X.pure (.h e r none)
   else buildRow e l
  | _=>buildRow e l
 | _=>X.fail 100
 where
 buildRow (e:Ty) (l:List SV):X SV:=do
  let as←zhQ true e l
  let a←X.op .mks as
  let r←X.newRoot (.row e a)
  X.pure (.h e r none)
def partOf (j:Nat):List (Nat×SV)→Option SV
 | []=>none
 | (i,s)::l=>if Nat.beq i j then some s else partOf j l
def zjf:List Ty→Nat→List (Nat×SV)→X (List SV)
 | [],_,_=>X.pure []
 | T::Ts,j,parts=>do
  let s←match partOf j parts with
   | some s=>SV.typed T s
   | none=>X.pure (.d T (.c T.zero))
  let l←zjf Ts (j + 1) parts
  X.pure (s::l)
def zmT:List SV→Option (List At)
 | []=>some []
 | .d _ a::l=>match zmT l with|some as=>some (a::as)|none=>none
 | _=>none
def sorted:List (Nat×SV)→Nat→Nat→Bool
 | [],_,_=>true
 | (i,_)::l,lo,n=>Nat.ble lo i&&Nat.blt i n&&sorted l (i + 1) n
def zfB (z:D) (e:Ty) (parts:List (Nat×SV)):Nat→Nat→List SV
 | 0,_=>[]
 | n + 1,j=>(match partOf j parts with|some s=>s|none=>.d e (.c z))::zfB z e parts n (j + 1)
def zj2 (cx:Cx) (t:TypeId) (parts:List (Nat×SV)):X SV:=do
 match cx.T t with
 | .st Ts=>do
  X.guard 101 (sorted parts 0 Ts.length)
  let l←zjf Ts 0 parts
  match zmT l with
  | some as=>do
   let a←X.op .mk as
   X.pure (.d (.st Ts) a)
  | none=>X.pure (.ag (.st Ts) l)
 | .arr n e=>do
  X.guard 103 (sorted parts 0 n&&Nat.ble n 100)
  let as←zhQ true e (zfB e.zero e parts n 0)
  let a←X.op .mk as
  X.pure (.d (.arr n e) a)
 | _=>X.fail 104
def sameAt (e:Ty):SV→At→Bool
 | .d T a,b=>T.beq (.sl e)&&a.beq b
 | _,_=>false
def newRow (e:Ty) (a:At):X SV:=do
 let r←X.newRoot (.row e a)
 X.pure (.h e r none)
def newMat (e:Ty) (a:At):X SV:=do
 match e with
 | .sl e'=>do
  let r←X.newRoot (.mat e' a 0)
  X.pure (.h e r none)
 | _=>X.fail 128
def zqT (e:Ty) (x:SV):X At :=
 if e.flat then SV.view false (.sl e) x
 else match x with
  | .h e' r vw=>do
   match←X.getRoot r with
   | .row _ _=>SV.view false (.sl e) (.h e' r vw)
   | .mat e'' a _=>do
    X.guard 113 (e.beq (.sl e''))
    X.putRoot r (.row e a)
    SV.view false (.sl e) (.h e' r vw)
   | _=>SV.view true (.sl e) (.h e' r vw)
  | _=>SV.view true (.sl e) x
def zgI (e:Ty) (b:Nat) (o:At) (x:SV):X SV:=do
 let y←zqT e x
 let v←X.op (.app b) [o,y]
 newRow e v
def zd2 (e:Ty) (b:Nat) (r:Nat) (vw:Option (At×At)) (x:SV):X SV:=do
 let y←zqT e x
 let a←rowAt e r
 match vw with
 | none=>do
  let v←X.op (.app b) [a,y]
  X.putRoot r .dead
  newRow e v
 | some (lo,hi)=>do
  X.guard 113 (isZ lo)
  let v←X.op (.appv b) [a,hi,y]
  let m←X.op .len [y]
  let n←X.op .vadd [hi,m]
  X.putRoot r .dead
  let r' ← X.newRoot (.row e v)
  X.pure (.h e r' (some (i64c 0,n)))
def zl4 (e:Ty) (b:Nat) (r:Nat) (x:SV):X SV:=do
 let y←zqT e x
 let a←rowAt e r
 let _←X.op .get [a,i64c 0]
 let v←X.op (.app b) [a,y]
 let r' ← X.newRoot (.bo e v)
 X.putRoot r (.lt e a r')
 X.pure (.h e r' none)
def zho (e:Ty) (b:Nat) (r:Nat) (x:SV):X SV:=do
 match←X.getRoot r with
 | .mat e'' a _=>do
  X.guard 112 (e.beq (.sl e''))
  X.putRoot r (.row e a)
  zl4 e b r x
 | _=>zl4 e b r x
def zmi (e:Ty) (b:Nat) (r:Nat) (hi:At) (x:SV):X SV:=do
 let y←zqT e x
 let a←rowAt e r
 let o←X.op .sub [a,i64c 0,hi]
 let v←X.op (.app b) [o,y]
 X.putRoot r .dead
 newRow e v
def isNil (e:Ty):SV→Bool
 | .cv (.slice none 0 0)=>true
 | .d T (.c .nil)=>T.beq (.sl e)
 | _=>false
def zp5 (e:Ty) (x:SV):X (Option (Nat×At)) :=
 match e,x with
 | .sl e',.h e'' r none=>do
  match←X.getRoot r with
  | .mat e3 a _=>if e''.beq (.sl e')&&e3.beq e' then X.pure (some (r,a)) else X.pure none
  | _=>X.pure none
 | _,_=>X.pure none
def zjH:List Nat→X Unit
 | []=>X.pure ()
 | r::l=>do
  X.putRoot r .dead
  zjH l
def zmw (e:Ty) (b:Nat) (o:At) (rs:List Nat) (a:At):X SV :=
 match e with
 | .sl e'=>do
  let v←X.op (.app b) [o,a]
  zjH rs
  let r←X.newRoot (.mat e' v 0)
  X.pure (.h (.sl e') r none)
 | _=>X.fail 129
def zhy (cx:Cx) (t xt:TypeId) (s x:SV):X SV:=do
 match cx.T t,cx.T xt with
 | .sl e,.sl e2=>do
  let E←match cx.P.underlying t with|some (.slice E)=>X.pure E|_=>X.fail 105
  let b:=cx.by_ E
  X.guard 106 (e.known&&e2.beq e)
  if isNil e s then do
   match←zp5 e x with
   | some (r2,a2)=>zmw e b (.c .nil) [r2] a2
   | none=>zgI e b (.c .nil) x
  else match s with
  | .z e' a=>do
   X.guard 109 (e'.beq e)
   if sameAt e x a then do
    let v←X.op (.clone b) [a]
    newRow e v
   else do
    let o←X.op .sub [a,i64c 0,i64c 0]
    zgI e b o x
  | .hc e' r hi=>do
   X.guard 111 (e'.beq e)
   zmi e b r hi x
  | .h e' r vw=>do
   X.guard 111 (e'.beq e)
   if cx.lend&&vw.isNone then zho e b r x
   else match←X.getRoot r with
   | .mat e'' a _=>do
    X.guard 112 (e.beq (.sl e''))
    match←zp5 e x with
    | some (r2,a2) =>
     if vw.isNone&&!Nat.beq r r2 then zmw e b a [r,r2] a2
     else do
      X.putRoot r (.row e a)
      zd2 e b r vw x
    | none=>do
     X.putRoot r (.row e a)
     zd2 e b r vw x
   | _=>zd2 e b r vw x
  | _=>X.fail 115
 | .sl e,.int _=>do
  let E←match cx.P.underlying t with|some (.slice E)=>X.pure E|_=>X.fail 105
  X.guard 107 (e.known&&isNil e s)
  let (_,n)←zeH x
  let v←X.op (.zext e.zero (cx.by_ E)) [.c .nil,n]
  newRow e v
 | _,_=>X.fail 116
def zjB (cx:Cx) (t:TypeId) (s:SV):X SV:=do
 match cx.T t,s with
 | .sl e,.h e' r none=>do
  X.guard 117 (e'.beq e&&e.known)
  match←X.getRoot r with
  | .row e'' a=>do
   X.guard 118 (e''.beq e)
   let v←X.op (.clr e.zero) [a]
   X.putRoot r (.row e v)
   X.pure (.un 1)
  | _=>X.fail 119
 | .sl e,.hr e' r ix g=>do
  X.guard 117 (e'.beq e&&e.known)
  match←X.getRoot r with
  | .mat e'' a g'=>do
   X.guard 118 (e''.beq e&&Nat.beq g g')
   let y←X.op .get [a,ix]
   let y' ← X.op (.clr e.zero) [y]
   let v←X.op .set [a,ix,y']
   X.putRoot r (.mat e v g)
   X.pure (.un 1)
  | _=>X.fail 119
 | .sl e,.h e' r (some (lo,hi))=>do
  X.guard 117 (e'.beq e&&e.known)
  match←X.getRoot r with
  | .row e'' a=>do
   X.guard 118 (e''.beq e)
   let y←X.op .sub [a,lo,hi]
   let z←X.op (.clr e.zero) [y]
   let v←X.op .cpyv [a,lo,hi,z]
   X.putRoot r (.row e v)
   X.pure (.un 1)
  | _=>X.fail 119
 | _,_=>X.fail 120
def zlY (e:Ty) (r:Nat) (a lo hi:At) (y:At):X SV:=do
 let v←X.op .cpyv [a,lo,hi,y]
 X.putRoot r (.row e v)
 let n←X.op .vlen [lo,hi]
 let k←X.op .len [y]
 let j←X.op .min2 [k,n]
 X.pure (.d (.int .i64) j)
def zmf (cx:Cx) (t:TypeId) (s x:SV):X SV:=do
 match cx.T t,s with
 | .sl e,.hb R e' n r []=>do
  X.guard 121 (e'.beq e&&R.beq (.arr n e)&&Nat.beq e.size 1&&e.flat)
  let y←SV.view false (.sl e) x
  match←X.getRoot r with
  | .box R' (.d T a)=>do
   X.guard 122 (R'.beq R&&T.beq R)
   let v←X.op .cpy [a,y]
   X.putRoot r (.box R (.d R v))
   X.pure (.un 1)
  | _=>X.fail 123
 | .sl e,.h e' r (some (lo,hi))=>do
  X.guard 121 (e'.beq e&&e.flat)
  let y←SV.view false (.sl e) x
  let a←rowAt e r
  zlY e r a lo hi y
 | .sl e,.h e' r none=>do
  X.guard 121 (e'.beq e&&e.flat)
  let y←SV.view false (.sl e) x
  let a←rowAt e r
  let n←X.op .len [a]
  zlY e r a (i64c 0) n y
 | _,_=>X.fail 124
def zsP (cx:Cx) (k e:TypeId) (K V:Ty):Bool:=K.beq (cx.T k)&&V.beq (cx.T e)&&K.flat&&K.known&&V.flat&&V.known&&eqOk cx 20 k
def zgm (cx:Cx) (t:TypeId) (n:Bool):X SV:=do
 X.guard 160 n
 match cx.P.underlying t with
 | some (.map k e)=>do
  X.guard 161 (zsP cx k e (cx.T k) (cx.T e))
  let r←X.newRoot (.mp (cx.T k) (cx.T e) (.c (.sl [])))
  X.pure (.mr (cx.T k) (cx.T e) r)
 | _=>X.fail 162
def ztf (K V:Ty) (r:Nat):X At:=do
 match←X.getRoot r with
 | .mp K' V' a=>do
  X.guard 163 (K'.beq K&&V'.beq V)
  X.pure a
 | _=>X.fail 164
def zhL (cx:Cx) (t:TypeId) (x ix:SV) (ok:Bool):X SV:=do
 match cx.P.underlying t,x with
 | some (.map k e),.mr K V r=>do
  X.guard 165 (zsP cx k e K V)
  let a←ztf K V r
  let i←SV.view false K ix
  let v←X.op (.mget V.zero) [a,i]
  if ok then do
   let b←X.op .mhas [a,i]
   X.pure (.tu [.d V v,.d .bool b])
  else X.pure (.d V v)
 | _,_=>X.fail 166
def zeq (cx:Cx) (t:TypeId) (x ix y:SV):X SV:=do
 match cx.P.underlying t,x with
 | some (.map k e),.mr K V r=>do
  X.guard 165 (zsP cx k e K V)
  let i←SV.view false K ix
  let v←SV.view false V y
  let a←ztf K V r
  let m←X.op .mput [a,i,v]
  X.putRoot r (.mp K V m)
  X.pure (.un 1)
 | _,_=>X.fail 166
def capOf:SV→X SV
 | .cv (.slice none 0 0)=>X.pure (.d (.int .i64) (.c (.int .i64 0)))
 | .d (.sl _) (.c .nil)=>X.pure (.d (.int .i64) (.c (.int .i64 0)))
 | _=>X.fail 167
def At.okAt (n:Nat):At→Bool|.v i=>Nat.blt i n|.c _=>true
def Stp.okAt (n:Nat):Stp→Bool|.i a=>a.okAt n|.f _=>true
def zcr (n:Nat):List Stp→Bool
 | []=>true
 | s::q=>s.okAt n&&zcr n q
def znM (n:Nat):Option (At×At)→Bool|some (a,b)=>a.okAt n&&b.okAt n|none=>true
mutual
def SV.okAt (n:Nat):SV→Bool
 | .d _ a=>a.okAt n
 | .pd _ a=>a.okAt n
 | .z _ a=>a.okAt n
 | .h _ _ vw=>znM n vw
 | .p _ _ _ q=>zcr n q
 | .hb _ _ _ _ q=>zcr n q
 | .hr _ _ i _=>i.okAt n
 | .hc _ _ i=>i.okAt n
 | .pm _ _ _ i q _=>i.okAt n&&zcr n q
 | .ag _ l=>SV.okAtL n l
 | .tu l=>SV.okAtL n l
 | .fn _ a l=>SV.okAtL n a&&SV.okAtL n l
 | .mr ..=>true
 | .un _=>true
 | .cv _=>true
def SV.okAtL (n:Nat):List SV→Bool
 | []=>true
 | s::l=>s.okAt n&&SV.okAtL n l
end
def Root.okAt (n:Nat):Root→Bool
 | .box _ v=>v.okAt n
 | .row _ a=>a.okAt n
 | .mat _ a _=>a.okAt n
 | .fz _ a=>a.okAt n
 | .lt _ a _=>a.okAt n
 | .bo _ a=>a.okAt n
 | .ow _ a ix _=>a.okAt n&&ix.okAt n
 | .mp _ _ a=>a.okAt n
 | .dead=>true
def zdW (n:Nat):List Root→Bool
 | []=>true
 | R::l=>R.okAt n&&zdW n l
def frozen:List Ty→Nat→List SV
 | [],_=>[]
 | T::l,j=>.d T (.v j)::frozen l (j + 1)
def zrV:List SV→SV|[s]=>s|l=>.tu l
def zaH (cx:Cx) (fn:Func):List Ty:=fn.params.toList.map cx.T
def zdc (cx:Cx) (fn:Func):List Ty:=fn.resultTypes.toList.map cx.T
def zl0 (cx:Cx) (f:FuncId) (fn:Func) (args:List SV):X SV:=do
 let as←SV.viewL (!Ty.flatL (zdc cx fn)) (zaH cx fn) args
 let x←X.call f as (zdc cx fn).length
 X.pure (zrV (frozen (zdc cx fn) x))
def ze0 (fn:Func):Bool:=fn.body.isSome&&!(fn.name == "runtime.NumGoroutine")
def zlg (cx:Cx) (f:FuncId) (fn:Func):Bool :=
 !cx.inl.contains f&&Nat.beq fn.nfree 0&&Ty.knownL (zaH cx fn)&&Ty.knownL (zdc cx fn)
def znn:Nat→Nat→X (List Root)
 | 0,_=>X.pure []
 | n + 1,r=>do
  let R←X.getRoot r
  let l←znn n (r + 1)
  X.pure (R::l)
def zie:Nat→List Root→List Root→X Unit
 | _,_,[]=>X.pure ()
 | r,[],R::l=>do
  let _←X.newRoot R
  zie (r + 1) [] l
 | r,O::o,R::l=>do
  if R.le O then zie (r + 1) o l
  else do
   X.putRoot r R
   zie (r + 1) o l
def zm9 (mem:List Root):Option Inl→X SV
 | none=>X.fail 131
 | some i=>do
  X.guard 135 (Nat.ble mem.length i.mem.length)
  X.sub i.t i.m
  zie 0 mem i.mem
  X.pure i.res
def zd7 (inl:FuncId→List SV→Nat→List Root→Option Inl) (f:FuncId) (args:List SV):X SV:=do
 let p←X.nvab
 let mem←znn p.2 0
 X.guard 133 (SV.okAtL p.1 args&&zdW p.1 mem)
 zm9 mem (inl f args p.1 mem)
def zqC (e:Ty) (i:Inl):Option Nat :=
 match i.t,i.res,i.mem with
 | .prim .isnil [.v 0] (.ite (.v 1) (.jmp 0 false [.c .nil]) (.prim (.app b) [.c (.sl []),.v 0] (.jmp 0 false [.v 2]))),.h e' 0 none,[.row e'' (.v 1)] =>
  if Nat.beq i.m 1&&e'.beq e&&e''.beq e then some b else none
 | _,_,_=>none
def zoG (cx:Cx) (inl:FuncId→List SV→Nat→List Root→Option Inl) (f:FuncId) (fn:Func):Option (Ty×Nat) :=
 match zaH cx fn with
 | [.sl e] =>
  if e.flat then
   match inl f [.d (.sl e) (.v 0)] 1 [] with
   | some i=>match zqC e i with
    | some b=>some (e,b)
    | none=>none
   | none=>none
  else none
 | _=>none
def zjR (e:Ty) (b:Nat) (s:SV):X SV:=do
 let a←SV.view false (.sl e) s
 let v←X.op (.clone b) [a]
 newRow e v
def zlJ (T:Ty) (s:SV):X At:=do
 match s with
 | .h e r none=>do
  match←X.getRoot r with
  | .bo e' a=>do
   X.guard 4 (T.beq (.sl e)&&e'.beq e)
   X.pure a
  | _=>SV.view false T s
 | _=>SV.view false T s
def zc9:List Ty→List SV→X (List At)
 | [],[]=>X.pure []
 | T::Ts,s::l=>do
  let a←zlJ T s
  let as←zc9 Ts l
  X.pure (a::as)
 | _,_=>X.fail 12
def zipA:List Ty→List At→List SV
 | T::Ts,a::as=>.d T a::zipA Ts as
 | _,_=>[]
def zp9 (i:Inl):X SV :=
 match i.res with
 | .h e r none=>match zac i.mem r with
  | .row e' a=>do
   X.guard 138 (e'.beq e&&e.flat)
   X.sub i.t i.m
   newRow e a
  | _=>X.fail 139
 | _=>X.fail 139
def zjk (cx:Cx) (inl:FuncId→List SV→Nat→List Root→Option Inl) (f:FuncId) (fn:Func) (args:List SV):X SV:=do
 let as←zc9 (zaH cx fn) args
 let p←X.nvab
 X.guard 136 (SV.okAtL p.1 (zipA (zaH cx fn) as))
 match inl f (zipA (zaH cx fn) as) p.1 [] with
 | some i=>zp9 i
 | none=>X.fail 137
def zmb (cx:Cx) (inl:FuncId→List SV→Nat→List Root→Option Inl) (callee:SV) (args:List SV):X SV:=do
 match callee with
 | .fn f fst caps =>
  match cx.P.funcs[f]? with
  | none=>X.fail 130
  | some fn=>do
   X.guard 134 (ze0 fn)
   if cx.freshL.contains f&&(caps.isEmpty&&fst.isEmpty) then zjk cx inl f fn args
   else if zlg cx f fn&&caps.isEmpty&&fst.isEmpty then zl0 cx f fn args
   else match (if fst.isEmpty&&caps.isEmpty then zoG cx inl f fn else none),args with
    | some (e,b),[s]=>zjR e b s
    | _,_=>zd7 inl f (fst++args++caps)
 | _=>X.fail 132
def zeB (ρ:Tmp→SV) (x:Option Operand):Option SV:=x.map (opnd ρ)
def zeJ (l:List (At×Bool)) (a:At):Option Bool :=
 match l with
 | []=>none
 | (b,v)::r=>if b.beq a then some v else zeJ r a
def zme (kn:List (At×Bool)) (c a b:SV):X SV :=
 match simple c with
 | .d .bool (.c (.bool true))=>X.pure (simple a)
 | .d .bool (.c (.bool false))=>X.pure (simple b)
 | .d .bool x=>match zeJ kn x with
  | some true=>X.pure (simple a)
  | some false=>X.pure (simple b)
  | none=>match simple a,simple b with
   | .d T u,.d T' v=>do
    X.guard 140 (T.beq T')
    let w←X.op .pick [x,u,v]
    X.pure (.d T w)
   | _,_=>X.fail 141
 | _=>X.fail 142
def zp1 (p:Prim):List SV→X SV
 | [x,y]=>do
  let (k,a)←zeH x
  let (k',b)←zeH y
  X.guard 143 (decide (k=k'))
  let v←X.op p [a,b]
  X.pure (.d (.int k) v)
 | _=>X.fail 144
def asg (T:Ty) (s:SV):SV :=
 match s with
 | .cv v=>match cvtD T v with|some d=>.d T (.c d)|none=>s
 | s=>s
def zfW (cx:Cx) (src dst:TypeId) (s:SV):X SV:=do
 match cx.T src,cx.T dst,simple s with
 | .int _,.int k,.d (.int _) a=>do let v←X.op (.conv k) [a];X.pure (.d (.int k) v)
 | .sl (.int .u8),.str,s=>do let a←SV.view false (.sl (.int .u8)) s;let v←X.op .b2s [a];X.pure (.d .str v)
 | .str,.sl (.int .u8),.d .str a=>do let v←X.op .s2b [a];X.pure (.d (.sl (.int .u8)) v)
 | .sl (.int .u8),.sl (.int .u8),.h e r none=>do
  X.guard 148 (Nat.beq src dst&&e.beq (.int .u8))
  match←X.getRoot r with
  | .row e' (.c (.sl (d::l)))=>do
   X.guard 148 (e'.beq (.int .u8))
   X.putRoot r (.fz (.int .u8) (.c (.sl (d::l))))
   X.pure (.h (.int .u8) r none)
  | _=>X.fail 148
 | _,_,_=>X.fail 148
def zuO (cx:Cx) (t:TypeId) (x:SV):Bool :=
 match simple x,cx.P.underlying t with
 | .d .str _,some .string=>true
 | .d .str _,_=>false
 | _,some (.slice _)=>true
 | _,_=>false
def zaG (cx:Cx) (inl:FuncId→List SV→Nat→List Root→Option Inl) (kn:List (At×Bool)) (ρ:Tmp→SV) (o:Oper):X SV :=
 match o.op with
 | .move x=>X.pure (asg (cx.T o.type) (opnd ρ x))
 | .assign x=>X.pure (asg (cx.T o.type) (opnd ρ x))
 | .pick c a b=>zme kn (opnd ρ c) (opnd ρ a) (opnd ρ b)
 | .alloc t=>do
  let T:=cx.T t
  X.guard 145 T.known
  let r←X.newRoot (.box T (.d T (.c T.zero)))
  X.pure (.p T T r [])
 | .box t x=>do
  let T:=cx.T t
  X.guard 154 (cx.cell1 t)
  let s←SV.typed T (opnd ρ x)
  let r←X.newRoot (.box T s)
  X.pure (.p T T r [])
 | .build t parts=>zj2 cx t (parts.toList.map fun (i,x)=>(i,opnd ρ x))
 | .buildSlice t n parts=>zbE cx t n (parts.toList.map fun (i,x)=>(i,opnd ρ x))
 | .load t x=>zmA cx t (opnd ρ x)
 | .store t x v=>ziV cx t (opnd ρ x) (opnd ρ v)
 | .nilCheck x=>match opnd ρ x with
  | .p R T r q=>X.pure (.p R T r q)
  | .pd T a=>X.pure (.pd T a)
  | .fn f a l=>X.pure (.fn f a l)
  | .pm e T r ix q g=>do
   let _←ztB e r g
   X.pure (.pm e T r ix q g)
  | _=>X.fail 146
 | .binOp op xt x y _=>zoT cx op xt (opnd ρ x) (opnd ρ y)
 | .unOp op _ x=>do
  let (T,a)←atD (opnd ρ x)
  X.guard 147 (match T with|.int _=>true|.bool=>true|_=>false)
  let v←X.op (.un op) [a]
  X.pure (.d T v)
 | .convert src dst x=>zfW cx src dst (opnd ρ x)
 | .makeFunc (.func f) first captured=>X.pure (.fn f (first.toList.map (opnd ρ)) (captured.toList.map (opnd ρ)))
 | .makeSlice t l c=>zes cx t (opnd ρ l) (opnd ρ c)
 | .slice t x lo hi mx=>zjF cx t (opnd ρ x) (zeB ρ lo) (zeB ρ hi) (zeB ρ mx)
 | .fieldAddr t x j=>zeD cx t (opnd ρ x) j
 | .field t x j=>zjs cx t (opnd ρ x) j
 | .indexAddr t x i=>zev cx t (opnd ρ x) (opnd ρ i)
 | .index t x i=>zjb cx t (opnd ρ x) (opnd ρ i)
 | .makeMap t r=>zgm cx t r.isNone
 | .lookup t x i ok=>zhL cx t (opnd ρ x) (opnd ρ i) ok
 | .mapUpdate t x i v=>zeq cx t (opnd ρ x) (opnd ρ i) (opnd ρ v)
 | .extract x j=>match opnd ρ x with
  | .tu l=>X.of 150 (l[j]?)
  | _=>X.fail 151
 | .call { callee:=.builtin b,args,argTypes } =>
  match b,args.toList.map (opnd ρ),argTypes.toList with
  | .len,[x],[t]=>do
   X.guard 152 (zuO cx t x)
   lenOf x
  | .cap,[x],[t]=>do
   X.guard 152 (match cx.P.underlying t with|some (.slice _)=>true|_=>false)
   capOf x
  | .append,[s,x],[t,xt]=>zhy cx t xt s x
  | .clear,[s],[t]=>zjB cx t s
  | .copy,[s,x],[t,_]=>zmf cx t s x
  | .min,[x,y],_=>zp1 .min2 [x,y]
  | .max,[x,y],_=>zp1 .max2 [x,y]
  | _,_,_=>X.fail 152
 | .call { callee:=.value f,args,.. }=>zmb cx inl (opnd ρ f) (args.toList.map (opnd ρ))
 | _=>X.fail 153
end Go.SX
namespace Go.SX
def St.slot (st:St) (t:Tmp):SV:=(st.slots[t]?).getD (.un 1)
def St.root (st:St) (r:Nat):Root:=(st.mem[r]?).getD .dead
def zhd:Nat→List Root→List Root
 | 0,l=>l
 | n + 1,R::l=>R::zhd n l
 | n + 1,[]=>.dead::zhd n []
def zh8:List (Nat×Root)→List Root→List Root
 | [],m=>m
 | (r,R)::l,m=>(zh8 l m).set r R
structure Eff where
 i:Nat
 run:Bool
 dst:Option Tmp
 sv:SV
 bs:List Bd
 up:List (Nat×Root)
 foot:List Nat
 nv:Nat
 ab:Nat
 nv':Nat
 ab':Nat
def upOk (n:Nat):List (Nat×Root)→Bool
 | []=>true
 | (r,_)::l=>Nat.blt r n&&upOk n l
def Tree.only:Nat→Tree→Bool
 | n,.prim _ _ k=>k.only n
 | n,.call _ _ _ k=>k.only n
 | n,.sub t _ k=>t.only (n + 1)&&k.only n
 | n,.loop _ b=>b.only (n + 1)
 | n,.ite _ a b=>a.only n&&b.only n
 | n,.jmp l _ _=>Nat.blt l n
 | _,.fin _ _=>false
 | _,.fail _=>true
def zf9:List Bd→Bool
 | []=>true
 | .sub t _::l=>t.only 1&&zf9 l
 | _::l=>zf9 l
def zg8:List Bd→Bool
 | .sub .. :: _=>true
 | _=>false
def zfZ (cx:Cx) (inl:FuncId→List SV→Nat→List Root→Option Inl) (kn:List (At×Bool)) (ρ:Tmp→SV) (μ:Nat→Root) (nv ab:Nat) (i:Nat) (o:Oper):Option Eff :=
 match (zaG cx inl kn ρ o).run μ ⟨[],nv,[],ab⟩ with
 | none=>none
 | some (sv,s,foot)=>if upOk s.ab s.up&&zf9 s.bs then some ⟨i,true,o.dst,sv,s.bs,s.up,foot,nv,ab,s.nv,s.ab⟩ else none
def zf4 (i:Nat) (o:Oper) (st:St):Eff:=⟨i,false,o.dst,.tu [],[],[],[],st.nv,st.mem.length,st.nv,st.mem.length⟩
def zpE (cx:Cx) (inl:FuncId→List SV→Nat→List Root→Option Inl) (kn:List (At×Bool)) (ρ:Tmp→SV) (μ:Nat→Root) (nv ab:Nat) (o:Oper):Nat :=
 (zaG cx inl kn ρ o).why μ ⟨[],nv,[],ab⟩
def St.put (st:St) (t:Option Tmp) (s:SV):List SV :=
 match t with|none=>st.slots|some t=>st.slots.set t s
def St.after (st:St) (e:Eff):St :=
 { st with nv:=e.nv',slots:=st.put e.dst e.sv,mem:=zh8 e.up (zhd e.ab' st.mem) }
def guardOf (st:St) (ops:List Oper) (j:Nat):Option SV :=
 match ops[j]? with
 | some o=>match o.dst with
  | some t=>some (simple (st.slot t))
  | none=>none
 | none=>none
def zgL (o:Oper):List Tmp:=o.op.operands.toList.filterMap fun|.tmp t=>some t|_=>none
def ze1 (ops:List Oper) (o:Oper):List Tmp :=
 match o.guard with
 | none=>[]
 | some (j,_)=>match ops[j]? with|some g=>g.dst.toList|none=>[]
def beforeL (ops:List Oper):List Nat→List Nat
 | acc=>go ops acc
 where
 go:List Oper→List Nat→List Nat
  | [],acc=>acc
  | o::l,acc=>go l (acc++[o.after.toList.foldl (fun s e=>if Region.binds .any e then Nat.lor (Nat.lor s (2 ^ e.on)) ((acc[e.on]?).getD 0) else s) 0])
def disj (a b:List Nat):Bool:=a.all fun x=>!b.contains x
structure Foot where
 i:Nat
 rs:List Nat
 ws:List Nat
 rt:List Tmp
 wt:List Tmp
def zdz:Nat:=1000000
def zb4 (ops:List Oper) (e:Eff):Foot :=
 match ops[e.i]? with
 | none=>⟨e.i,[],[],[],[]⟩
 | some o=>⟨e.i,if Nat.blt e.ab e.ab' then zdz::e.foot else e.foot,if zg8 e.bs then zdz::e.up.map (·.1) else e.up.map (·.1),zgL o++ze1 ops o,o.dst.toList⟩
def zon (a b:Foot):Bool :=
 disj a.ws b.rs&&disj a.ws b.ws&&disj b.ws a.rs&&disj a.wt b.rt&&disj a.wt b.wt&&disj b.wt a.rt
def zeo (bf:List Nat):List Foot→Bool
 | []=>true
 | e::l=>l.all (fun g=>((bf[g.i]?).getD 0).testBit e.i||zon e g)&&zeo bf l
def zjX (ops:List Oper):Nat→Bool
 | n=>go ops n
 where
 go:List Oper→Nat→Bool
  | [],_=>true
  | o::l,n=>o.after.toList.all (fun e=>!Region.binds .any e||Nat.blt e.on n)&&go l (n + 1)
inductive GD where|go|skip|ask (a:At) (want:Bool)|bad
def zn9 (st:St) (ops:List Oper) (kn:List (At×Bool)) (o:Oper):GD :=
 match o.guard with
 | none=>.go
 | some (j,want) =>
  match guardOf st ops j with
  | some (.d .bool (.c (.bool b)))=>if b==want then .go else .skip
  | some (.d .bool a) =>
   match zeJ kn a with
   | some b=>if b==want then .go else .skip
   | none=>.ask a want
  | some (.tu [])=>.skip
  | _=>.bad
def zco (cx:Cx) (inl:FuncId→List SV→Nat→List Root→Option Inl) (draw:Bool) (ops:List Oper) (bf:List Nat) :
  List Oper→Nat→St→List (At×Bool)→List Eff→Tree
 | [],_,st,_,log =>
  if !draw||zeo bf ((log.map (zb4 ops)).reverse) then .fin .normal st else .fail 900
 | o::rest,i,st,kn,log =>
  let go (kn:List (At×Bool)):Tree :=
   match zfZ cx inl kn st.slot st.root st.nv st.mem.length i o with
   | none=>.fail (zpE cx inl kn st.slot st.root st.nv st.mem.length o)
   | some e=>zgE e.bs (zco cx inl draw ops bf rest (i + 1) (st.after e) kn (e::log))
  let skip (kn:List (At×Bool)):Tree :=
   zco cx inl draw ops bf rest (i + 1) (st.after (zf4 i o st)) kn (zf4 i o st::log)
  match zn9 st ops kn o with
  | .go=>go kn
  | .skip=>skip kn
  | .ask a want=>.ite a (if want then go ((a,true)::kn) else skip ((a,true)::kn)) (if want then skip ((a,false)::kn) else go ((a,false)::kn))
  | .bad=>.fail 901
def Tree.onFin (t:Tree) (f:Ex→St→Tree):Tree :=
 match t with
 | .prim p as k=>.prim p as (k.onFin f)
 | .call g as m k=>.call g as m (k.onFin f)
 | .sub t m k=>.sub (t.onFin f) m (k.onFin f)
 | .loop i b=>.loop i (b.onFin f)
 | .ite c a b=>.ite c (a.onFin f) (b.onFin f)
 | .jmp l b as=>.jmp l b as
 | .fin x st=>f x st
 | .fail n=>.fail n
def nxt (f:St→Tree):Ex→St→Tree
 | .normal,st=>f st
 | x,st=>.fin x st
def Tree.andThen (t:Tree) (f:St→Tree):Tree:=t.onFin (nxt f)
def Tree.ends (t:Tree) (f:Ex→Ex):Tree:=t.onFin fun x st=>.fin (f x) st
def Tree.normals:Tree→Bool→List (St×Bool)
 | .prim _ _ k,d=>k.normals d
 | .call _ _ _ k,d=>k.normals d
 | .sub t _ k,d=>t.normals true++k.normals d
 | .loop _ b,_=>b.normals true
 | .ite _ a b,d=>a.normals d++b.normals d
 | .jmp ..,_=>[]
 | .fin .normal st,d=>[(st,d)]
 | .fin _ _,_=>[]
 | .fail _,_=>[]
def Tree.conv (f:Nat→St→Tree):Nat→Tree→Tree
 | d,.prim p as k=>.prim p as (k.conv f d)
 | d,.call g as m k=>.call g as m (k.conv f d)
 | d,.sub t m k=>.sub (t.conv f (d + 1)) m (k.conv f d)
 | d,.loop i b=>.loop i (b.conv f (d + 1))
 | d,.ite c a b=>.ite c (a.conv f d) (b.conv f d)
 | _,.jmp l b as=>.jmp l b as
 | d,.fin .normal st=>f d st
 | _,.fin x st=>.fin x st
 | _,.fail n=>.fail n
structure MS where
 n0:Nat
 base:Nat
 ats:List (List At)
 rts:List (List Nat)
 mems:List (List Root)
def zt5:List At→List At→Bool
 | [],[]=>true
 | a::l,b::l'=>a.beq b&&zt5 l l'
 | _,_=>false
def zsY:List Nat→List Nat→Bool
 | [],[]=>true
 | a::l,b::l'=>Nat.beq a b&&zsY l l'
 | _,_=>false
def zsi (x:List At):List (List At)→Nat→Option Nat
 | [],_=>none
 | y::l,n=>if zt5 x y then some n else zsi x l (n + 1)
def zqA (x:List Nat):List (List Nat)→Nat→Option Nat
 | [],_=>none
 | y::l,n=>if zsY x y then some n else zqA x l (n + 1)
def MS.at_ (as:List At) (s:MS):At×MS :=
 match as with
 | []=>(.c .nil,s)
 | a::l =>
  if l.all (·.beq a)&&(match a with|.v i=>Nat.blt i s.n0|.c _=>true) then (a,s)
  else match zsi as s.ats 0 with
   | some j=>(.v (s.n0 + j),s)
   | none=>(.v (s.n0 + s.ats.length),{ s with ats:=s.ats++[as] })
def MS.rt (rs:List Nat) (s:MS):Nat×MS :=
 match rs with
 | []=>(0,s)
 | r::l =>
  if l.all (Nat.beq r)&&Nat.blt r s.base then (r,s)
  else match zqA rs s.rts 0 with
   | some j=>(s.base + j,s)
   | none=>(s.base + s.rts.length,{ s with rts:=s.rts++[rs] })
def zu6:SV→Option Ty
 | .d T _=>some T
 | .ag T _=>some T
 | .h e _ _=>some (.sl e)
 | .z e _=>some (.sl e)
 | .cv (.int k _)=>some (.int k)
 | .cv (.bool _)=>some .bool
 | .cv (.string _)=>some .str
 | _=>none
def zr3:List SV→Option Ty
 | []=>none
 | s::l=>match zu6 s with|some T=>some T|none=>zr3 l
def asDs (T:Ty):List SV→Option (List At)
 | []=>some []
 | s::l=>match asDs T l with
  | none=>none
  | some r=>match asg T s with
   | .d T' a=>if T'.beq T then some (a::r) else none
   | _=>none
def zrg (e:Ty):SV→Bool
 | .d T (.c .nil)=>T.beq (.sl e)
 | .cv (.slice none 0 0)=>true
 | _=>false
def asHs (e:Ty):List SV→List (List Root)→Option (List Nat×List (List Root))
 | [],_=>some ([],[])
 | s::l,m::ms=>match asHs e l ms with
  | none=>none
  | some (rs,ms')=>match s with
   | .h e' r none=>if e'.beq e then some (r::rs,m::ms') else none
   | s=>if zrg e s then some (m.length::rs,(m++[.row e (.c .nil)])::ms') else none
 | _::_,[]=>none
def contents (e:Ty):List SV→List (List Root)→Option (List At)
 | [],_=>some []
 | s::l,m::ms=>match contents e l ms with
  | none=>none
  | some r=>match asg (.sl e) s with
   | .d T a=>if T.beq (.sl e) then some (a::r) else none
   | .h e' rr none=>if e'.beq e then (match zac m rr with|.row _ a=>some (a::r)|.fz _ a=>some (a::r)|.mat _ a _=>some (a::r)|_=>none) else none
   | _=>none
 | _::_,[]=>none
def asHv (e:Ty):List SV→List (List Root)→Option (List Nat×List At×List At×List (List Root))
 | [],_=>some ([],[],[],[])
 | .h e' r (some (a,b))::l,m::ms=>match asHv e l ms with
  | some (rs,as,bs,ms')=>if e'.beq e then some (r::rs,a::as,b::bs,m::ms') else none
  | none=>none
 | .h e' r none::l,m::ms=>match asHv e l ms with
  | some (rs,as,bs,ms')=>if e'.beq e then some (r::rs,.c (.int .i64 0)::as,.v (2000000 + r)::bs,m::ms') else none
  | none=>none
 | s::l,m::ms=>match asHv e l ms with
  | some (rs,as,bs,ms')=>if zrg e s then some (m.length::rs,.c (.int .i64 0)::as,.c (.int .i64 0)::bs,(m++[.row e (.c .nil)])::ms') else none
  | none=>none
 | _,_=>none
def zuo:List Ty→Nat→List SV
 | [],_=>[]
 | T::Ts,n=>.d T (.v n)::zuo Ts (n + 1)
def zvq (T:Ty) (Ts:List Ty):List SV→Option (List (List SV))
 | []=>some []
 | s::l=>match zvq T Ts l with
  | none=>none
  | some r=>match asg T s with
   | .ag T' vs=>if T'.beq T then some (vs::r) else none
   | .d T' (.c (.agg ds))=>if T'.beq T then some (zipD Ts ds::r) else none
   | .d T' (.v i)=>if T'.beq T then some (zuo Ts (1000000 + 64 * i)::r) else none
   | _=>none
def asPs (R T:Ty):List SV→Option (List Nat×List (List Stp))
 | []=>some ([],[])
 | .p R' T' r q::l=>match asPs R T l with
  | some (rs,qs)=>if R'.beq R&&T'.beq T then some (r::rs,q::qs) else none
  | none=>none
 | _=>none
def asPd (T:Ty):List SV→Option (List At)
 | []=>some []
 | .pd T' a::l=>match asPd T l with
  | some r=>if T'.beq T then some (a::r) else none
  | none=>none
 | _=>none
def zvv (e:Ty):List SV→Option (List Nat×List At)
 | []=>some ([],[])
 | .hr e' r i _::l=>match zvv e l with
  | some (rs,as)=>if e'.beq e then some (r::rs,i::as) else none
  | none=>none
 | _=>none
def zu8 (e T:Ty):List SV→Option (List Nat×List At×List (List Stp))
 | []=>some ([],[],[])
 | .pm e' T' r i q _::l=>match zu8 e T l with
  | some (rs,as,qs)=>if e'.beq e&&T'.beq T then some (r::rs,i::as,q::qs) else none
  | none=>none
 | _=>none
def zvs (R e:Ty) (n:Nat):List SV→Option (List Nat)
 | []=>some []
 | .hb R' e' n' r []::l=>match zvs R e n l with
  | some rs=>if R'.beq R&&e'.beq e&&Nat.beq n n' then some (r::rs) else none
  | none=>none
 | _=>none
def zu5 (K V:Ty):List SV→Option (List Nat)
 | []=>some []
 | .mr K' V' r::l=>match zu5 K V l with
  | some rs=>if K'.beq K&&V'.beq V then some (r::rs) else none
  | none=>none
 | _=>none
def zva (f:FuncId):List SV→Option (List (List SV)×List (List SV))
 | []=>some ([],[])
 | .fn g a c::l=>match zva f l with
  | some (q,r)=>if Nat.beq f g then some (a::q,c::r) else none
  | none=>none
 | _=>none
def zvh:List SV→Option (List (List SV))
 | []=>some []
 | .tu c::l=>match zvh l with
  | some r=>some (c::r)
  | none=>none
 | _=>none
def zfu {α:Type}:List (List α)→Option (List α×List (List α))
 | []=>some ([],[])
 | (a::l)::r=>match zfu r with
  | some (hs,ts)=>some (a::hs,l::ts)
  | none=>none
 | []::_=>none
def zg7:Nat→List (List Stp)→MS→Option (List Stp×MS)
 | 0,_,_=>none
 | n + 1,qs,s =>
  if qs.all List.isEmpty then some ([],s) else
  match zfu qs with
  | none=>none
  | some (hs,ts)=>match hs with
   | .f j::_ =>
    if hs.all (fun x=>x.beq (.f j)) then match zg7 n ts s with
     | some (q,s)=>some (.f j::q,s)
     | none=>none
    else none
   | .i _::_ =>
    let as:=hs.filterMap fun|.i a=>some a|_=>none
    if Nat.beq as.length hs.length then
     let (a,s):=s.at_ as
     match zg7 n ts s with
     | some (q,s)=>some (.i a::q,s)
     | none=>none
    else none
   | []=>none
def zgC (m:List Root) (r:Nat):Option Nat:=match zac m r with|.mat _ _ g=>some g|_=>none
def zpK:List SV→List (List Root)→Bool
 | .hr _ r _ g::l,m::ms=>(match zgC m r with|some g'=>Nat.beq g g'|none=>false)&&zpK l ms
 | .pm _ _ r _ _ g::l,m::ms=>(match zgC m r with|some g'=>Nat.beq g g'|none=>false)&&zpK l ms
 | _,_=>true
def zeM:List Nat→List (List Root)→Bool
 | r::rs,m::ms=>(match zac m r with|.dead=>true|_=>false)||zeM rs ms
 | _,_=>false
mutual
def zpC:Nat→List SV→MS→SV×MS
 | 0,_,s=>(.un 1,s)
 | n + 1,svs,s =>
  let un:SV:=.un ((svs.head?.map SV.csize).getD 1)
  match zr3 svs with
  | some T =>
   match asDs T svs with
   | some as=>let (a,s):=s.at_ as;(.d T a,s)
   | none=>match T with
    | .sl e=>match asHs e svs s.mems with
     | some (rs,ms)=>if zeM rs ms then (un,s) else let (r,s):=MS.rt rs { s with mems:=ms };(.h e r none,s)
     | none=>match asHv e svs s.mems with
      | some (rs,as,bs,ms) =>
       if zeM rs ms then (un,s) else
       let (r,s):=MS.rt rs { s with mems:=ms }
       let (a,s):=s.at_ as
       let (b,s):=s.at_ bs
       (.h e r (some (a,b)),s)
      | none=>match contents e svs s.mems with
       | some as=>let (a,s):=s.at_ as;(.d T a,s)
       | none=>(un,s)
    | .st Ts=>match zvq T Ts svs with
     | some vss=>let (l,s):=zny n Ts.length vss s;(.ag T l,s)
     | none=>(un,s)
    | _=>(un,s)
  | none=>match svs with
   | .p R T _ _::_=>match asPs R T svs with
    | some (rs,qs)=>if zeM rs s.mems then (un,s) else match zg7 20 qs s with
     | some (q,s)=>let (r,s):=s.rt rs;(.p R T r q,s)
     | none=>(un,s)
    | none=>(un,s)
   | .hr e _ _ _::_=>match zvv e svs with
    | some (rs,as)=>if zeM rs s.mems||!zpK svs s.mems then (un,s) else
     let (r,s):=s.rt rs
     let (a,s):=s.at_ as
     (.hr e r a 0,s)
    | none=>(un,s)
   | .pm e T _ _ _ _::_=>match zu8 e T svs with
    | some (rs,as,qs)=>if zeM rs s.mems||!zpK svs s.mems then (un,s) else match zg7 20 qs s with
     | some (q,s) =>
      let (r,s):=s.rt rs
      let (a,s):=s.at_ as
      (.pm e T r a q 0,s)
     | none=>(un,s)
    | none=>(un,s)
   | .pd T _::_=>match asPd T svs with
    | some as=>let (a,s):=s.at_ as;(.pd T a,s)
    | none=>(un,s)
   | .hb R e k _ []::_=>match zvs R e k svs with
    | some rs=>if zeM rs s.mems then (un,s) else let (r,s):=s.rt rs;(.hb R e k r [],s)
    | none=>(un,s)
   | .mr K V _::_=>match zu5 K V svs with
    | some rs=>if zeM rs s.mems then (un,s) else let (r,s):=s.rt rs;(.mr K V r,s)
    | none=>(un,s)
   | .fn f a c::_=>match zva f svs with
    | some (uss,vss)=>let (u,s):=zny n a.length uss s;let (l,s):=zny n c.length vss s;(.fn f u l,s)
    | none=>(un,s)
   | .tu c::_=>match zvh svs with
    | some vss=>let (l,s):=zny n c.length vss s;(.tu l,s)
    | none=>(un,s)
   | .cv v::r=>if r.all (fun x=>(SV.cv v).le x) then (.cv v,s) else (un,s)
   | _=>(un,s)
def zny:Nat→Nat→List (List SV)→MS→List SV×MS
 | 0,_,_,s=>([],s)
 | _ + 1,0,_,s=>([],s)
 | n + 1,k + 1,vss,s=>match zfu vss with
  | none=>([],s)
  | some (hs,ts) =>
   let (v,s):=zpC n hs s
   let (l,s):=zny n k ts s
   (v::l,s)
end
def zli:List (List SV)→Nat→MS→List SV×MS
 | _,0,s=>([],s)
 | vss,k + 1,s=>match zfu vss with
  | none=>([],s)
  | some (hs,ts) =>
   let (v,s):=zpC 40 hs s
   let (l,s):=zli ts k s
   (v::l,s)
def zrU (T:Ty):List Root→Option (List SV)
 | []=>some []
 | .box T' v::l=>match zrU T l with|some r=>if T'.beq T then some (v::r) else none|none=>none
 | _=>none
def rowsOf (e:Ty):List Root→Option (List At×Bool×Bool)
 | []=>some ([],true,true)
 | .row e' a::l=>match rowsOf e l with|some (r,b,m)=>if e'.beq e then some (a::r,b,m&&(match a with|.c .nil=>true|_=>false)) else none|none=>none
 | .mat e' a _::l=>match rowsOf e l with|some (r,b,m)=>if e.beq (.sl e') then some (a::r,b,m) else none|none=>none
 | .fz e' a::l=>match rowsOf e l with|some (r,_,_)=>if e'.beq e then some (a::r,false,false) else none|none=>none
 | _=>none
def zt3:List Root→Option Ty
 | []=>none
 | .mat e _ _::_=>some e
 | _::l=>zt3 l
def zvx:Root→Option Ty
 | .row e _=>some e
 | .fz e _=>some e
 | .mat e _ _=>some (.sl e)
 | _=>none
def zuk (K V:Ty):List Root→Option (List At)
 | []=>some []
 | .mp K' V' a::l=>match zuk K V l with|some r=>if K'.beq K&&V'.beq V then some (a::r) else none|none=>none
 | _=>none
def znD (Rs:List Root) (s:MS):Root×MS :=
 match Rs with
 | .box T _::_=>match zrU T Rs with
  | some vs=>let (v,s):=zpC 40 vs s;(.box T v,s)
  | none=>(.dead,s)
 | .mp K V _::_=>match zuk K V Rs with
  | some as=>let (a,s):=s.at_ as;(.mp K V a,s)
  | none=>(.dead,s)
 | R::_=>match zvx R with
  | some e=>match rowsOf e Rs with
   | some (as,own,mat) =>
    let (a,s):=s.at_ as
    (match own,mat,zt3 Rs with
     | true,true,some e'=>.mat e' a 0
     | true,_,_=>.row e a
     | false,_,_=>.fz e a,s)
   | none=>(.dead,s)
  | none=>(.dead,s)
 | []=>(.dead,s)
def zrB:List (List Root)→List Nat→List Root
 | m::ms,r::rs=>zac m r::zrB ms rs
 | _,_=>[]
def zkR:Nat→Nat→MS→List Root×MS
 | 0,_,s=>([],s)
 | n + 1,i,s=>match s.rts[i]? with
  | none=>([],s)
  | some rs =>
   let (R,s):=znD (zrB s.mems rs) s
   let (l,s):=zkR n (i + 1) s
   (R::l,s)
def zqj:Nat→Nat→MS→List Root×MS
 | 0,_,s=>([],s)
 | n + 1,r,s =>
  let moved:=s.rts.any fun rs=>rs.contains r
  let (R,s):=if moved then (.dead,s) else znD (s.mems.map fun m=>zac m r) s
  let (l,s):=zqj n (r + 1) s
  (R::l,s)
def zpd:List SV→List SV→List SV
 | [],_=>[]
 | h::hs,ls=>match ls with
  | []=>[]
  | l::ls=>match h with
   | .un _=>zpd hs ls
   | _=>l::zpd hs ls
def zbV (n i:Nat):List (Nat×SV)→List SV
 | []=>List.replicate (n - i) (.un 1)
 | (j,s)::l=>List.replicate (j - i) (.un 1)++s::zbV n (j + 1) l
def zqp:List SV→List SV→List SV
 | [],_=>[]
 | h::hs,ps=>match h with
  | .un n=>.un n::zqp hs ps
  | _=>match ps with
   | []=>.un 1::zqp hs []
   | p::ps=>p::zqp hs ps
def ziI (n0 base:Nat) (sts:List St):St :=
 let s:MS:=⟨n0,base,[],[],sts.map (·.mem)⟩
 let f:=(sts.head?.map (·.slots)).getD []
 let ps:=sts.map fun st=>zpd f st.slots
 let k:=(ps.head?.map List.length).getD 0
 let (ms,s):=zli ps k s
 let slots:=zqp f ms
 let (low,s):=zqj base 0 s
 let (tab,s):=zkR 60 0 s
 ⟨n0 + s.ats.length,base,slots,low++tab⟩
structure CoS where
 m:List Root
 nv:Nat
 bs:List Bd
def zbW (a:At):List Ty→Nat→CoS→List SV×CoS
 | [],_,s=>([],s)
 | T::Ts,j,s =>
  let x:At:=.v s.nv
  let (l,s):=zbW a Ts (j + 1) { s with nv:=s.nv + 1,bs:=.prim (.fld j) [a]::s.bs }
  (.d T x::l,s)
def zpn (Hm:List Root) (r:Nat) (e:Ty):Root :=
 match zac Hm r,e with
 | .mat ..,.sl e'=>.mat e' (.c .nil) 0
 | _,_=>.row e (.c .nil)
def zI:At:=.c (.int .i64 0)
def coFz (e:Ty) (r:Nat) (s:CoS):Option (SV×CoS) :=
 match zac s.m r with
 | .row e' a=>if e'.beq e then some (.d (.sl e) a,{ s with m:=s.m.set r (.fz e a) }) else none
 | .mat e' a _=>if e.beq (.sl e') then some (.d (.sl e) a,{ s with m:=s.m.set r (.fz e a) }) else none
 | .fz e' a=>if e'.beq e then some (.d (.sl e) a,s) else none
 | _=>none
def coVw (e:Ty) (r:Nat) (s:CoS):Option (SV×CoS) :=
 match (zac s.m r).row? with
 | some (e',a)=>if e'.beq e then some (.h e r (some (zI,.v s.nv)),{ s with nv:=s.nv + 1,bs:=.prim .len [a]::s.bs }) else none
 | none=>none
def zeF (Hm:List Root) (h l:SV) (s:CoS):Option (SV×CoS) :=
 match h with
 | .d T _=>match l with
  | .cv v=>match cvtD T v with|some x=>some (.d T (.c x),s)|none=>none
  | .h e r none=>if T.beq (.sl e) then coFz e r s else none
  | _=>none
 | .h e hr none=>if zrg e l then some (.h e s.m.length none,{ s with m:=s.m++[zpn Hm hr e] }) else none
 | .h e _ (some _) =>
  if zrg e l then some (.h e s.m.length (some (zI,zI)),{ s with m:=s.m++[.row e (.c .nil)] })
  else match l with
   | .h e' r none=>if e'.beq e then coVw e r s else none
   | _=>none
 | _=>none
def SV.ty1:SV→Option Ty
 | .d T _=>some T
 | .ag T _=>some T
 | .h e _ _=>some (.sl e)
 | .hc e _ _=>some (.sl e)
 | .z e _=>some (.sl e)
 | .hb _ e _ _ _=>some (.sl e)
 | .hr e _ _ _=>some (.sl e)
 | .p ..=>some .no
 | .pm ..=>some .no
 | .pd ..=>some .no
 | .fn ..=>some .no
 | .mr ..=>some .no
 | .cv _=>some .no
 | .un _=>none
 | .tu _=>none
def zpG (a b:SV):Bool:=match a.ty1,b.ty1 with|some T,some T'=>T.beq T'|_,_=>false
mutual
def coSV (Hm:List Root) (h l:SV) (s:CoS):SV×CoS :=
 match zeF Hm h l s with
 | some p=>p
 | none=>match h,l with
  | .ag T hs,.ag T' ls=>if T'.beq T then (let (r,s):=coLC Hm hs ls s;(.ag T' r,s)) else (l,s)
  | .ag T hs,.d T' (.c (.agg ds))=>match T with
   | .st Ts=>if T'.beq (.st Ts)&&Nat.beq ds.length Ts.length then (let (r,s):=coLC Hm hs (zipD Ts ds) s;(.ag (.st Ts) r,s)) else (l,s)
   | _=>(l,s)
  | .ag T hs,.d T' (.v i)=>match T with
   | .st Ts=>if T'.beq (.st Ts) then (let (l,s):=zbW (.v i) Ts 0 s;let (r,s):=coLC Hm hs l s;(.ag (.st Ts) r,s)) else (l,s)
   | _=>(l,s)
  | .tu hs,.tu ls=>let (r,s):=coL Hm hs ls s;(.tu r,s)
  | .fn _ us hs,.fn g ks ls=>let (u,s):=coL Hm us ks s;let (r,s):=coL Hm hs ls s;(.fn g u r,s)
  | _,_=>(l,s)
def coL (Hm:List Root):List SV→List SV→CoS→List SV×CoS
 | h::hs,l::ls,s =>
  let (x,s):=coSV Hm h l s
  let (r,s):=coL Hm hs ls s
  (x::r,s)
 | _,ls,s=>(ls,s)
def coLC (Hm:List Root):List SV→List SV→CoS→List SV×CoS
 | h::hs,l::ls,s =>
  let (x,s):=coSV Hm h l s
  let (r,s):=coLC Hm hs ls s
  ((if zpG l x then x else l)::r,s)
 | _,ls,s=>(ls,s)
end
def zbw (H:St):List (Nat×Nat)→CoS→CoS
 | [],s=>s
 | (l,h)::r,s =>
  match H.root h,zac s.m l with
  | .box T hv,.box T' lv =>
   if T'.beq T then
    let (x,s'):=coSV H.mem hv lv s
    if zpG lv x then zbw H r { s' with m:=s'.m.set l (.box T' x) } else zbw H r s'
   else zbw H r s
  | _,_=>zbw H r s
structure Mt where
 sg:List (Nat×At)
 rh:List (Nat×Nat)
def zug {α:Type}(l:List (Nat×α)) (k:Nat):Bool:=l.any fun x=>Nat.beq x.1 k
def mtAt (n0:Nat) (h l:At) (s:Mt):Mt :=
 match h with
 | .v j=>if Nat.ble n0 j then (if zug s.sg (j - n0) then s else { s with sg:=s.sg++[(j - n0,l)] }) else s
 | _=>s
def mtRt (h l:Nat) (s:Mt):Mt:=if zug s.rh l then s else { s with rh:=s.rh++[(l,h)] }
def znF (n0:Nat):List Stp→List Stp→Mt→Mt
 | .i a::q,.i b::q',s=>znF n0 q q' (mtAt n0 a b s)
 | .f _::q,.f _::q',s=>znF n0 q q' s
 | _,_,s=>s
mutual
def mtSV (n0:Nat):SV→SV→Mt→Mt
 | .d _ a,.d _ b,s=>mtAt n0 a b s
 | .pd _ a,.pd _ b,s=>mtAt n0 a b s
 | .z _ a,.z _ b,s=>mtAt n0 a b s
 | .h _ r vw,.h _ r' vw',s =>
  let s:=mtRt r r' s
  match vw,vw' with
  | some (a,b),some (c,d)=>mtAt n0 b d (mtAt n0 a c s)
  | _,_=>s
 | .p _ _ r q,.p _ _ r' q',s=>znF n0 q q' (mtRt r r' s)
 | .hb _ _ _ r q,.hb _ _ _ r' q',s=>znF n0 q q' (mtRt r r' s)
 | .hr _ r i _,.hr _ r' i' _,s=>mtAt n0 i i' (mtRt r r' s)
 | .pm _ _ r i q _,.pm _ _ r' i' q' _,s=>znF n0 q q' (mtAt n0 i i' (mtRt r r' s))
 | .mr _ _ r,.mr _ _ r',s=>mtRt r r' s
 | .ag _ l,.ag _ l',s=>mtL n0 l l' s
 | .tu l,.tu l',s=>mtL n0 l l' s
 | .fn _ a l,.fn _ a' l',s=>mtL n0 l l' (mtL n0 a a' s)
 | _,_,s=>s
def mtL (n0:Nat):List SV→List SV→Mt→Mt
 | h::hs,l::ls,s=>mtL n0 hs ls (mtSV n0 h l s)
 | _,_,s=>s
end
def zsm (n0:Nat):List SV→List SV→Mt→Mt
 | h::hs,l::ls,s=>zsm n0 hs ls (mtSV n0 h l s)
 | _,_,s=>s
def zvn (n0:Nat) (h l:Root) (s:Mt):Mt :=
 match h,l with
 | .box _ v,.box _ v'=>mtSV n0 v v' s
 | .row _ a,.row _ b=>mtAt n0 a b s
 | .row _ a,.fz _ b=>mtAt n0 a b s
 | .fz _ a,.row _ b=>mtAt n0 a b s
 | .fz _ a,.fz _ b=>mtAt n0 a b s
 | .fz _ a,.mat _ b _=>mtAt n0 a b s
 | .row _ a,.mat _ b _=>mtAt n0 a b s
 | .mat _ a _,.mat _ b _=>mtAt n0 a b s
 | .mat _ a _,.row _ b=>mtAt n0 a b s
 | .mp _ _ a,.mp _ _ b=>mtAt n0 a b s
 | _,_=>s
def zsc (n0:Nat) (H:St) (m:List Root):Nat→Nat→Mt→Mt
 | 0,_,s=>s
 | n + 1,i,s=>match s.rh[i]? with
  | none=>s
  | some (l,h)=>zsc n0 H m n (i + 1) (zvn n0 (H.root h) (zac m l) s)
def zlT (H:St):Nat→Nat→List (Nat×Nat)
 | 0,_=>[]
 | n + 1,r=>match H.root r with
  | .dead=>zlT H n (r + 1)
  | _=>(r,r)::zlT H n (r + 1)
def zjT (n0:Nat) (H:St) (slots:List SV) (m:List Root):Mt :=
 zsc n0 H m 80 0 (zsm n0 H.slots slots ⟨[],zlT H H.base 0⟩)
def look (rh:List (Nat×Nat)) (l:Nat):Option Nat :=
 match rh with
 | []=>none
 | (a,b)::r=>if Nat.beq a l then some b else look r l
def zbI (rh:List (Nat×Nat)) (h:Nat):Option Nat :=
 match rh with
 | []=>none
 | (a,b)::r=>if Nat.beq b h then some a else zbI r h
def gen0 (base r g:Nat):Nat:=if Nat.blt r base then g else 0
mutual
def SV.ren (base:Nat) (m:List Root) (rh:List (Nat×Nat)):SV→SV
 | .h e r vw=>match look rh r with|some r'=>.h e r' vw|none=>.un 1
 | .p R T r q=>match look rh r with|some r'=>.p R T r' q|none=>.un 1
 | .hb R e n r q=>match look rh r with|some r'=>.hb R e n r' q|none=>.un 1
 | .hc e r i=>match look rh r with|some r'=>.hc e r' i|none=>.un 1
 | .hr e r i g=>match look rh r,zgC m r with|some r',some g'=>if Nat.beq g g' then .hr e r' i (gen0 base r' g) else .un 1|_,_=>.un 1
 | .pm e T r i q g=>match look rh r,zgC m r with|some r',some g'=>if Nat.beq g g' then .pm e T r' i q (gen0 base r' g) else .un 1|_,_=>.un 1
 | .ag T l=>.ag T (SV.renL base m rh l)
 | .tu l=>.tu (SV.renL base m rh l)
 | .fn f a l=>.fn f (SV.renL base m rh a) (SV.renL base m rh l)
 | .mr K V r=>match look rh r with|some r'=>.mr K V r'|none=>.un 1
 | .un n=>.un n
 | .cv v=>.cv v
 | .d T a=>.d T a
 | .z e a=>.z e a
 | .pd T a=>.pd T a
def SV.renL (base:Nat) (m:List Root) (rh:List (Nat×Nat)):List SV→List SV
 | []=>[]
 | s::l=>s.ren base m rh::SV.renL base m rh l
end
def Root.ren (base:Nat) (m:List Root) (rh:List (Nat×Nat)) (h:Nat):Root→Root
 | .box T v=>.box T (v.ren base m rh)
 | .mat e a g=>.mat e a (gen0 base h g)
 | R=>R
def zdS (base:Nat) (rh:List (Nat×Nat)) (m:List Root):Nat→Nat→List Root
 | 0,_=>[]
 | n + 1,h=>(match zbI rh h with|some l=>(zac m l).ren base m rh h|none=>.dead)::zdS base rh m n (h + 1)
def At.inst (n0:Nat) (sg:List At):At→At
 | .v i=>if Nat.ble n0 i then (sg[i - n0]?).getD (.c .nil) else .v i
 | a=>a
def Stp.inst (n0:Nat) (sg:List At):Stp→Stp
 | .i a=>.i (a.inst n0 sg)
 | s=>s
def zrF (n0:Nat) (sg:List At):Option (At×At)→Option (At×At)
 | some (a,b)=>some (a.inst n0 sg,b.inst n0 sg)
 | none=>none
mutual
def SV.inst (n0:Nat) (sg:List At):SV→SV
 | .d T a=>.d T (a.inst n0 sg)
 | .pd T a=>.pd T (a.inst n0 sg)
 | .z e a=>.z e (a.inst n0 sg)
 | .h e r vw=>.h e r (zrF n0 sg vw)
 | .p R T r q=>.p R T r (q.map (Stp.inst n0 sg))
 | .hb R e n r q=>.hb R e n r (q.map (Stp.inst n0 sg))
 | .hr e r i g=>.hr e r (i.inst n0 sg) g
 | .hc e r i=>.hc e r (i.inst n0 sg)
 | .pm e T r i q g=>.pm e T r (i.inst n0 sg) (q.map (Stp.inst n0 sg)) g
 | .ag T l=>.ag T (SV.instL n0 sg l)
 | .tu l=>.tu (SV.instL n0 sg l)
 | .fn f a l=>.fn f (SV.instL n0 sg a) (SV.instL n0 sg l)
 | .mr K V r=>.mr K V r
 | .un n=>.un n
 | .cv v=>.cv v
def SV.instL (n0:Nat) (sg:List At):List SV→List SV
 | []=>[]
 | s::l=>s.inst n0 sg::SV.instL n0 sg l
end
def Root.inst (n0:Nat) (sg:List At):Root→Root
 | .box T v=>.box T (v.inst n0 sg)
 | .row e a=>.row e (a.inst n0 sg)
 | .mat e a g=>.mat e (a.inst n0 sg) g
 | .fz e a=>.fz e (a.inst n0 sg)
 | .lt e a r=>.lt e (a.inst n0 sg) r
 | .bo e a=>.bo e (a.inst n0 sg)
 | .ow e a ix r=>.ow e (a.inst n0 sg) (ix.inst n0 sg) r
 | .mp K V a=>.mp K V (a.inst n0 sg)
 | .dead=>.dead
def St.okAt (st:St):Bool:=SV.okAtL st.nv st.slots&&zdW st.nv st.mem
def zfk:List SV→List SV→Bool
 | [],[]=>true
 | a::l,b::l'=>a.leSlot b&&zfk l l'
 | _,_=>false
def zn4:List Root→List Root→Bool
 | [],[]=>true
 | a::l,b::l'=>a.le b&&zn4 l l'
 | _,_=>false
def rhOk (base n:Nat):List (Nat×Nat)→Bool
 | []=>true
 | (l,h)::r=>(Nat.beq l h||Nat.ble base h)&&Nat.blt h n&&!r.any (fun x=>Nat.beq x.1 l||Nat.beq x.2 h)&&rhOk base n r
def sgOf (sg:List (Nat×At)):Nat→Nat→List At
 | 0,_=>[]
 | n + 1,j=>((sg.find? fun x=>Nat.beq x.1 j).map (·.2)).getD (.c .nil)::sgOf sg n (j + 1)
def zjV:List Bd→Nat
 | []=>0
 | b::l=>b.outs + zjV l
def zaV:List Bd→Bool
 | []=>true
 | .prim _ _::l=>zaV l
 | _::_=>false
def noBo:List Root→Bool
 | []=>true
 | .bo .. :: _=>false
 | .ow .. :: _=>false
 | _::l=>noBo l
def fit0 (n0:Nat) (H L:St):Option (List At×List Bd) :=
 let (s1,c1):=coL H.mem H.slots L.slots ⟨L.mem,L.nv,[]⟩
 let t1:=zjT n0 H s1 c1.m
 let c2:=zbw H t1.rh c1
 let t2:=zjT n0 H s1 c2.m
 let c3:=zbw H (t2.rh.drop t1.rh.length) c2
 let t3:=zjT n0 H s1 c3.m
 let sg:=sgOf t3.sg (H.nv - n0) 0
 let s':=SV.renL L.base c3.m t3.rh s1
 let m':=zdS L.base t3.rh c3.m H.mem.length 0
 if noBo c3.m&&rhOk L.base H.mem.length t3.rh&&zaV c3.bs&&Nat.beq c3.nv (L.nv + zjV c3.bs)&&Nat.beq H.base L.base&&Nat.ble L.base H.mem.length&&zfk s' (SV.instL n0 sg H.slots)&&zn4 m' (H.mem.map (Root.inst n0 sg)) then some (sg,c3.bs) else none
def zkt:List SV→List SV
 | []=>[]
 | h::hs=>match h with
  | .un _=>zkt hs
  | h=>h::zkt hs
def zmj:List SV→List SV→List SV
 | [],_=>[]
 | h::hs,ls=>match ls with
  | []=>[]
  | l::ls=>match h with
   | .un _=>zmj hs ls
   | _=>l::zmj hs ls
def zsH:List SV→List SV→Bool
 | [],l=>l.isEmpty
 | _::hs,l=>match l with|[]=>false|_::ls=>zsH hs ls
def fit (n0:Nat) (H L:St):Option (List At×List Bd) :=
 if zsH H.slots L.slots then fit0 n0 { H with slots:=zkt H.slots } { L with slots:=zmj H.slots L.slots } else none
def fits (n0:Nat) (H:St):List (St×Bool)→Bool
 | []=>true
 | (L,_)::l=>(fit n0 H L).isSome&&fits n0 H l
def fitJ (n0:Nat) (H:St) (back:Bool) (d:Nat) (L:St):Tree :=
 match fit n0 H L with
 | some (sg,bs)=>zgE bs (.jmp d back sg)
 | none=>.fail 910
def zoz (n0:Nat) (t:Tree):Tree :=
 match t.normals false with
 | []=>t
 | [(_,false)]=>t
 | ls =>
  match ls with
  | (st,_)::_ =>
   let H:=ziI n0 st.base (ls.map (·.1))
   if H.okAt&&Nat.ble n0 H.nv&&fits n0 H ls then .sub (t.conv (fitJ n0 H false) 0) (H.nv - n0) (.fin .normal H) else t
  | []=>t
def stLe (a b:St):Bool:=Nat.beq a.nv b.nv&&zfk (zpd a.slots a.slots) (zpd a.slots b.slots)&&zfk (zpd b.slots b.slots) (zpd b.slots a.slots)&&zn4 a.mem b.mem&&zn4 b.mem a.mem
def zt8 (body:St→Tree) (st:St):Nat→St→St
 | 0,H=>H
 | n + 1,H =>
  let ls:=((body H).normals false).map (·.1)
  let H':=ziI st.nv st.base (st::ls)
  if stLe H H' then H else zt8 body st n H'
def zfT (body:St→Tree) (st:St) (H:St) (sg:List At):Tree :=
 .loop sg ((body H).conv (fitJ st.nv H true) 0)
def zt2:List (Nat×Nat×St)→Nat→Nat→Option St
 | [],_,_=>none
 | (n,m,H)::l,n',m'=>if Nat.beq n n'&&Nat.beq m m' then some H else zt2 l n' m'
def zpX (hd:List (Nat×Nat×St)) (m:Nat) (body:St→Tree) (st:St):St :=
 match zt2 hd st.nv m with
 | some H=>H
 | none=>zt8 body st 8 st
def zpy (hd:List (Nat×Nat×St)) (m:Nat) (body:St→Tree) (st:St):Tree :=
 let H:=zpX hd m body st
 if H.okAt&&Nat.ble st.nv H.nv then
  match fit st.nv H st with
  | some (sg,[])=>zfT body st H sg
  | some (sg,bs) =>
   let H':=zpX hd m body H
   if H'.okAt&&Nat.ble H.nv H'.nv then
    match fit H.nv H' H with
    | some (sg',[])=>.sub (zgE bs (.jmp 0 false sg)) (H.nv - st.nv) (zfT body H H' sg')
    | _=>.fail 917
   else .fail 918
  | none=>.fail 912
 else .fail 913
def zpx (t:Nat):Nat:=Nat.shiftLeft 1 t
def zvm (m t:Nat):Bool:=Nat.beq (Nat.land (Nat.shiftRight m t) 1) 1
def zjw:List Operand→Nat
 | []=>0
 | .tmp t::l=>Nat.lor (zpx t) (zjw l)
 | _::l=>zjw l
def without (x y:Nat):Nat:=Nat.sub x (Nat.land x y)
def zun:Option Tmp→Nat|none=>0|some t=>zpx t
def zo4:List Oper→Nat
 | []=>0
 | o::l=>match o.guard with
  | none=>Nat.lor (zun o.dst) (zo4 l)
  | some _=>zo4 l
def zoZ:List Oper→Nat
 | []=>0
 | o::l=>match o.guard with
  | none=>Nat.lor (zjw o.op.operands.toList) (without (zoZ l) (zun o.dst))
  | some _=>Nat.lor (zjw o.op.operands.toList) (zoZ l)
def zrE:Code→Nat
 | .region _ ops _=>zo4 ops.toList
 | .seq a b=>Nat.lor (zrE a) (zrE b)
 | .cond _ a b=>Nat.land (zrE a) (zrE b)
 | _=>0
def zgK:Code→Nat
 | .region _ ops _=>zoZ ops.toList
 | .seq a b=>Nat.lor (zgK a) (without (zgK b) (zrE a))
 | .cond c a b=>Nat.lor (zjw [c]) (Nat.lor (zgK a) (zgK b))
 | .block _ b=>zgK b
 | .loop b=>zgK b
 | .rangeFunc g _ a b=>Nat.lor (zjw [g]) (Nat.lor (zgK a) (zgK b))
 | _=>0
def forget (m:Nat):Nat→List SV→List SV
 | _,[]=>[]
 | i,s::l=>(if zvm m i then s else .un 1)::forget m (i + 1) l
def St.forget (m:Nat) (st:St):St:={ st with slots:=Go.SX.forget m 0 st.slots }
def Tree.fgt (m:Nat) (t:Tree):Tree:=t.andThen fun st=>.fin .normal (st.forget m)
def joinL (m n0:Nat) (t:Tree):Tree:=zoz n0 (t.fgt m)
def zqY (hd:List (Nat×Nat×St)) (m:Nat) (body:St→Tree) (st:St):Tree:=zpy hd m (fun s=>(body s).fgt m) (st.forget m)
def zcb:Code→Bool
 | .seq a b=>zcb a&&zcb b
 | .cond _ a b=>zcb a&&zcb b
 | .block _ b=>zcb b
 | .loop b=>zcb b
 | .rangeFunc ..=>false
 | _=>true
def ziW:List (FuncId×TypeId×TypeId)→FuncId→Option (TypeId×TypeId)
 | [],_=>none
 | (g,p)::l,f=>if Nat.beq g f then some p else ziW l f
def zk4 (cx:Cx) (st:St) (g:Operand):Option (Ty×At) :=
 match opnd st.slot g with
 | .fn f [] [.p _ _ r []]=>match ziW cx.bk f with
  | some (tS,tE)=>match st.root r with
   | .box T (.d (.sl e) a)=>if T.beq (.sl e)&&(cx.T tS).beq (.sl e)&&cx.cell1 tS&&(cx.T tE).beq e&&cx.cell1 tE then some (e,a) else none
   | _=>none
  | none=>none
 | _=>none
def zfe (cx:Cx) (ex1 ex2:St→Tree) (g:Operand) (ps:List Tmp) (st:St):Tree :=
 let n:=st.slots.length - 1
 match st.slot n,zk4 cx st g,ps with
 | .d (.int .i64) i,some (e,a),[p,q] =>
  .prim (.bin .lss) [i,.c (.int .i64 0)] (.ite (.v st.nv) (.fin .ret { st with nv:=st.nv + 1 })
   (.prim .get [a,i] ((ex1 ⟨st.nv + 2,st.mem.length,((st.slots.take n).set p (.d (.int .i64) i)).set q (.d e (.v (st.nv + 1))),st.mem⟩).onFin fun x s=>match x with
    | .normal=>(ex2 { s with base:=s.mem.length }).onFin fun y s'=>match y with
     | .normal=>.prim (.bin .sub) [i,.c (.int .i64 1)] (.fin .normal ⟨s'.nv + 1,st.base,st.slots.take n++[.d (.int .i64) (.v s'.nv)],s'.mem⟩)
     | .exit id=>.fin (.exit id) ⟨s'.nv,st.base,st.slots,s'.mem⟩
     | .ret=>.fail 926
    | _=>.fail 927)))
 | _,_,_=>.fail 928
def zpQ (s:St):St:={ s with slots:=s.slots.take (s.slots.length - 1) }
def zjQ (cx:Cx) (ex1 ex2:St→Tree) (m:Nat) (g:Operand) (ps:List Tmp) (st:St):Tree :=
 match zk4 cx st g with
 | some (_,a)=>.prim .len [a] (.prim (.bin .sub) [.v st.nv,.c (.int .i64 1)]
   ((zqY cx.hd (Nat.lor (zpx st.slots.length) m) (zfe cx ex1 ex2 g ps) ⟨st.nv + 2,st.base,st.slots++[.d (.int .i64) (.v (st.nv + 1))],st.mem⟩).onFin fun x s=>match x with
    | .ret=>.fin .normal (zpQ s)
    | .exit id=>.fin (.exit id) (zpQ s)
    | .normal=>.fail 929))
 | none=>.fail 916
def exec (cx:Cx) (inl:FuncId→List SV→Nat→List Root→Option Inl)  : Nat→Code→St→Tree
 | _,.skip,st=>.fin .normal st
 | _,.label _,st=>.fin .normal st
 | m,.region _ ops draw,st =>
  let l:=ops.toList
  let bf:=if draw then beforeL l [] else []
  if draw&&!zjX l 0 then .fail 914 else
  joinL m st.nv (zco cx inl draw l bf l 0 st [] [])
 | m,.seq a b,st=>(exec cx inl (Nat.lor m (zgK b)) a st).andThen fun st'=>exec cx inl m b st'
 | m,.cond c x y,st=>match simple (opnd st.slot c) with
  | .d .bool (.c (.bool true))=>exec cx inl m x st
  | .d .bool (.c (.bool false))=>exec cx inl m y st
  | .d .bool a=>joinL m st.nv (.ite a (exec cx inl m x st) (exec cx inl m y st))
  | _=>.fail 915
 | m,.block id b,st=>joinL m st.nv ((exec cx inl m b st).ends fun|.exit id'=>if Nat.beq id id' then .normal else .exit id'|x=>x)
 | m,.loop b,st=>zqY cx.hd (Nat.lor m (zgK b)) (exec cx inl (Nat.lor m (zgK b)) b) st
 | _,.exit id,st=>.fin (.exit id) st
 | _,.ret,st=>.fin .ret st
 | m,.rangeFunc g ps x y,st =>
  if zcb x&&zcb y&&Nat.beq ps.size 2 then zjQ cx (exec cx inl (zgK y) x) (exec cx inl 0 y) (Nat.lor m (Nat.lor (zjw [g]) (Nat.lor (zgK x) (zgK y)))) g ps.toList st else .fail 930
 | _,_,_=>.fail 931
def zqu (cx:Cx) (st:St):ResultVar→Option SV
 | .tmp t=>some (st.slot t)
 | .cell t ty=>match st.slot t with
  | .p R T r [] =>
   if T.beq (cx.T ty)&&cx.cell1 ty then
    match (ztP R r []).run st.root ⟨[],st.nv,[],st.mem.length⟩ with
    | some (v,⟨[],_,_,_⟩,_)=>some v
    | _=>none
   else none
  | _=>none
def zmX (cx:Cx) (st:St):List ResultVar→Option (List SV)
 | []=>some []
 | r::l=>match zqu cx st r with
  | none=>none
  | some s=>match zmX cx st l with
   | none=>none
   | some m=>some (s::m)
def zbB (cx:Cx) (fn:Func) (st:St):Option (List SV):=zmX cx st fn.results.toList
def zkc:List ResultVar→Nat
 | []=>0
 | .tmp t::l=>Nat.lor (zpx t) (zkc l)
 | .cell t _::l=>Nat.lor (zpx t) (zkc l)
def retN:Ex→Ex|.ret=>.normal|x=>x
def zf8 (fn:Func) (args:List SV) (nv:Nat) (mem:List Root):St :=
 ⟨nv,mem.length,args++List.replicate (fn.ntmps - args.length) (.un 1),mem⟩
def zje (cx:Cx) (fn:Func) (st':St):Tree :=
 match zbB cx fn st' with
 | some l=>.fin .normal { st' with slots:=l }
 | none=>.fail 920
def zuM (nv:Nat) (mem:List Root) (t:Tree):List (St×Bool)→Option Inl
 | []=>some ⟨t,0,.un 1,mem⟩
 | ls =>
  let H:=ziI nv mem.length (ls.map (·.1))
  if H.okAt&&Nat.ble nv H.nv then some ⟨t.conv (fitJ nv H false) 0,H.nv - nv,zrV H.slots,H.mem⟩ else none
def zrY:List (Nat×List (Nat×Nat×St))→Nat→List (Nat×Nat×St)
 | [],_=>[]
 | (g,l)::r,f=>if Nat.beq g f then l else zrY r f
def zhp (cx:Cx) (f:FuncId):Cx:={ cx with abs:=cx.absL.contains f,keep:=cx.keepL.contains f,lend:=cx.lendL.contains f,ow:=cx.owL.contains f,hd:=zrY cx.heads f }
def inlF (cx:Cx):Nat→FuncId→List SV→Nat→List Root→Option Inl
 | 0,_,_,_,_=>none
 | n + 1,f,args,nv,mem =>
  match cx.P.funcs[f]? with
  | none=>none
  | some fn=>match fn.body with
   | none=>none
   | some c =>
    let t:=((exec (zhp cx f) (inlF cx n) (zkc fn.results.toList) c (zf8 fn args nv mem)).ends retN).andThen (zje (zhp cx f) fn)
    zuM nv mem t (t.normals false)
def zmp (cx:Cx) (fn:Func) (Ts:List Ty) (d:Nat) (st':St):Tree :=
 match zbB cx fn st' with
 | none=>.fail 922
 | some l=>match (SV.viewL true Ts l).run st'.root ⟨[],st'.nv,[],st'.mem.length⟩ with
  | none=>.fail ((SV.viewL true Ts l).why st'.root ⟨[],st'.nv,[],st'.mem.length⟩)
  | some (as,s,_)=>if zaV s.bs then zgE s.bs (.jmp d false as) else .fail 923
def zaE (cx:Cx) (n:Nat) (f:FuncId):Option Tree :=
 match cx.P.funcs[f]? with
 | none=>none
 | some fn=>match fn.body with
  | none=>none
  | some c =>
   if zlg cx f fn then
    some (((exec (zhp cx f) (inlF cx n) (zkc fn.results.toList) c (zf8 fn (frozen (zaH cx fn) 0) (zaH cx fn).length [])).ends retN).conv (zmp (zhp cx f) fn (zdc cx fn)) 0)
   else none
end Go.SX
namespace Go.SX
theorem zdD {α:Type}(c1 c2:List α) (n:Nat):(c1++c2).drop (c1.length + n)=c2.drop n:=by
 induction c1 with
 | nil=>simp
 | cons a l ih=>simp [Nat.succ_add,ih]
theorem zhj {α:Type}(c1 c2:List α) (n:Nat):(c1++c2).take (c1.length + n)=c1++c2.take n:=by
 induction c1 with
 | nil=>simp
 | cons a l ih=>simpa [Nat.succ_add] using ih
mutual
def DRep (w:World) (M:Nat→Prop):Ty→D→List Value→Prop
 | .int k,.int k' n,cs=>k=k'∧cs=[.int k n]
 | .bool,.bool b,cs=>cs=[.bool b]
 | .str,.str s,cs=>cs=[.string s]
 | .st Ts,.agg ds,cs=>DRepL w M Ts ds cs
 | .arr n e,.agg ds,cs=>ds.length=n∧DRepA w M e ds cs
 | .sl e,.sl ds,cs=>∃ a cap xs,cs=[.slice (some a) ds.length cap]∧ds.length≤cap∧DRepA w M e ds xs ∧
   (∀ j v,xs[j]?=some v→w.cell? (a.add j)=some v)∧(xs≠[]→¬ M a.block)
 | .sl _,.nil,cs=>cs=[.slice none 0 0]
 | _,_,_=>False
def DRepL (w:World) (M:Nat→Prop):List Ty→List D→List Value→Prop
 | [],[],cs=>cs=[]
 | T::Ts,d::ds,cs=>∃ c1 c2,cs=c1++c2∧DRep w M T d c1∧DRepL w M Ts ds c2
 | _,_,_=>False
def DRepA (w:World) (M:Nat→Prop) (e:Ty):List D→List Value→Prop
 | [],cs=>cs=[]
 | d::ds,cs=>∃ c1 c2,cs=c1++c2∧DRep w M e d c1∧DRepA w M e ds c2
end
structure zhg (w w':World) (M M':Nat→Prop):Prop where
 cell:∀ a v,w.cell? a=some v→¬ M a.block→w'.cell? a=some v
 free:∀ a v,w.cell? a=some v→¬ M a.block→¬ M' a.block
structure Keeps (w w':World) (M M':Nat→Prop):Prop where
 heap:∀ b,b<w.heap.size→¬ M b→w'.heap[b]?=w.heap[b]?
 less:∀ b,b<w.heap.size→¬ M b→¬ M' b
theorem Keeps.cell {w w':World}{M M':Nat→Prop}(K:Keeps w w' M M') (a:Addr) (v:Value) (h:w.cell? a=some v) (hm:¬ M a.block):w'.cell? a=some v:=by
 rw [← h]
 simp only [World.cell?,K.heap _ (World.block_lt_of_cell? w a h) hm]
theorem Keeps.free {w w':World}{M M':Nat→Prop}(K:Keeps w w' M M') (a:Addr) (v:Value) (h:w.cell? a=some v) (hm:¬ M a.block):¬ M' a.block:=K.less _ (World.block_lt_of_cell? w a h) hm
theorem Keeps.c {w w':World}{M M':Nat→Prop}(K:Keeps w w' M M'):zhg w w' M M':=⟨K.cell,K.free⟩
theorem Keeps.size {w w':World}{M M':Nat→Prop}(K:Keeps w w' M M') {b:Nat}(h:b<w.heap.size) (hm:¬ M b):b<w'.heap.size:=by
 have:=K.heap b h hm
 rw [Array.getElem?_eq_getElem h] at this
 exact (Array.getElem?_eq_some_iff.1 this).1
theorem Keeps.trans {w w1 w2:World}{M M1 M2:Nat→Prop}(h:Keeps w w1 M M1) (k:Keeps w1 w2 M1 M2):Keeps w w2 M M2 :=
 ⟨fun b hb hm=>(k.heap b (h.size hb hm) (h.less b hb hm)).trans (h.heap b hb hm),fun b hb hm=>k.less b (h.size hb hm) (h.less b hb hm)⟩
theorem zfs {w:World}{a:Addr}{j:Nat}{v:Value}(_h:w.cell? (a.add j)=some v):(a.add j).block=a.block:=by
 unfold Addr.add;split<;>rfl
mutual
theorem DRep.keepC {w w':World}{M M':Nat→Prop}(K:zhg w w' M M'):∀ {T:Ty}{d:D}{cs:List Value},DRep w M T d cs→DRep w' M' T d cs
 | T,.int k n,cs,h=>by cases T<;>simp only [DRep] at h ⊢<;>exact h
 | T,.bool b,cs,h=>by cases T<;>simp only [DRep] at h ⊢<;>exact h
 | T,.str s,cs,h=>by cases T<;>simp only [DRep] at h ⊢<;>exact h
 | T,.nil,cs,h=>by cases T<;>simp only [DRep] at h ⊢<;>exact h
 | T,.agg ds,cs,h=>by
  cases T<;>simp only [DRep] at h ⊢
  ·exact DRepL.keepC K h
  ·exact ⟨h.1,DRepA.keepC K h.2⟩
 | T,.sl ds,cs,h=>by
  cases T<;>simp only [DRep] at h ⊢
  obtain ⟨a,cap,xs,h1,h2,h3,h4,h5⟩:=h
  refine ⟨a,cap,xs,h1,h2,DRepA.keepC K h3,fun j v hj=>?_,fun hx=>?_⟩
  ·have hne:xs≠[]:=by intro e;subst e;simp at hj
   have hc:=h4 j v hj
   exact K.cell _ _ hc (by rw [zfs hc];exact h5 hne)
  ·obtain ⟨v,hv⟩:∃ v,xs[0]?=some v:=by
    cases xs with
    | nil=>exact absurd rfl hx
    | cons v l=>exact ⟨v,rfl⟩
   have hc:=h4 0 v hv
   have:=K.free _ _ hc (by rw [zfs hc];exact h5 hx)
   rwa [zfs hc] at this
theorem DRepL.keepC {w w':World}{M M':Nat→Prop}(K:zhg w w' M M'):∀ {Ts:List Ty}{ds:List D}{cs:List Value},DRepL w M Ts ds cs→DRepL w' M' Ts ds cs
 | [],[],cs,h=>by simpa only [DRepL] using h
 | T::Ts,d::ds,cs,h=>by
  simp only [DRepL] at h ⊢
  obtain ⟨c1,c2,e,h1,h2⟩:=h
  exact ⟨c1,c2,e,DRep.keepC K h1,DRepL.keepC K h2⟩
 | [],_::_,_,h=>by simp only [DRepL] at h
 | _::_,[],_,h=>by simp only [DRepL] at h
theorem DRepA.keepC {w w':World}{M M':Nat→Prop}(K:zhg w w' M M'):∀ {e:Ty}{ds:List D}{cs:List Value},DRepA w M e ds cs→DRepA w' M' e ds cs
 | e,[],cs,h=>by simpa only [DRepA] using h
 | e,d::ds,cs,h=>by
  simp only [DRepA] at h ⊢
  obtain ⟨c1,c2,he,h1,h2⟩:=h
  exact ⟨c1,c2,he,DRep.keepC K h1,DRepA.keepC K h2⟩
end
theorem DRep.keep {w w':World}{M M':Nat→Prop}(K:Keeps w w' M M') {T:Ty}{d:D}{cs:List Value}(h:DRep w M T d cs):DRep w' M' T d cs:=h.keepC K.c
theorem DRepL.keep {w w':World}{M M':Nat→Prop}(K:Keeps w w' M M') {Ts:List Ty}{ds:List D}{cs:List Value}(h:DRepL w M Ts ds cs):DRepL w' M' Ts ds cs:=DRepL.keepC K.c h
theorem DRepA.keep {w w':World}{M M':Nat→Prop}(K:Keeps w w' M M') {e:Ty}{ds:List D}{cs:List Value}(h:DRepA w M e ds cs):DRepA w' M' e ds cs:=DRepA.keepC K.c h
mutual
theorem DRep.length {w:World}{M:Nat→Prop}:∀ {T:Ty}{d:D}{cs:List Value},DRep w M T d cs→cs.length=T.size
 | T,.int k n,cs,h=>by cases T<;>simp only [DRep] at h;simp [h.2,Ty.size]
 | T,.bool b,cs,h=>by cases T<;>simp only [DRep] at h;simp [h,Ty.size]
 | T,.str s,cs,h=>by cases T<;>simp only [DRep] at h;simp [h,Ty.size]
 | T,.nil,cs,h=>by cases T<;>simp only [DRep] at h;simp [h,Ty.size]
 | T,.agg ds,cs,h=>by
  cases T<;>simp only [DRep] at h
  ·simp only [Ty.size];exact DRepL.length h
  ·simp only [Ty.size,← h.1];exact DRepA.length h.2
 | T,.sl ds,cs,h=>by
  cases T<;>simp only [DRep] at h
  obtain ⟨a,cap,xs,h1,_⟩:=h
  simp [h1,Ty.size]
theorem DRepL.length {w:World}{M:Nat→Prop}:∀ {Ts:List Ty}{ds:List D}{cs:List Value},DRepL w M Ts ds cs→cs.length=Ty.sizeL Ts
 | [],[],cs,h=>by simp only [DRepL] at h;simp [h,Ty.sizeL]
 | T::Ts,d::ds,cs,h=>by
  simp only [DRepL] at h
  obtain ⟨c1,c2,e,h1,h2⟩:=h
  simp [e,Ty.sizeL,DRep.length h1,DRepL.length h2]
 | [],_::_,_,h=>by simp only [DRepL] at h
 | _::_,[],_,h=>by simp only [DRepL] at h
theorem DRepA.length {w:World}{M:Nat→Prop}:∀ {e:Ty}{ds:List D}{cs:List Value},DRepA w M e ds cs→cs.length=ds.length * e.size
 | e,[],cs,h=>by simp only [DRepA] at h;simp [h]
 | e,d::ds,cs,h=>by
  simp only [DRepA] at h
  obtain ⟨c1,c2,he,h1,h2⟩:=h
  simp [he,DRep.length h1,DRepA.length h2,Nat.add_mul,Nat.add_comm]
end
theorem DRepL.len {w:World}{M:Nat→Prop}:∀ {Ts:List Ty}{ds:List D}{cs:List Value},DRepL w M Ts ds cs→ds.length=Ts.length
 | [],[],_,_=>rfl
 | T::Ts,d::ds,cs,h=>by
  simp only [DRepL] at h
  obtain ⟨c1,c2,e,h1,h2⟩:=h
  simp [DRepL.len h2]
 | [],_::_,_,h=>by simp only [DRepL] at h
 | _::_,[],_,h=>by simp only [DRepL] at h
theorem DRepL.part {w:World}{M:Nat→Prop}:∀ {Ts:List Ty}{ds:List D}{cs:List Value}{j:Nat}{T:Ty}{d:D},DRepL w M Ts ds cs→Ts[j]?=some T→ds[j]?=some d →
  DRep w M T d ((cs.drop (Ty.sizeL (Ts.take j))).take T.size)
 | [],_,_,j,_,_,_,hT,_=>by simp at hT
 | _::_,[],_,j,_,_,_,_,hd=>by simp at hd
 | U::Ts,x::ds,cs,0,T,d,h,hT,hd=>by
  simp only [DRepL] at h
  obtain ⟨c1,c2,e,h1,h2⟩:=h
  simp at hT hd
  subst hT hd e
  have hl:=DRep.length h1
  simpa [Ty.sizeL,← hl] using h1
 | U::Ts,x::ds,cs,j + 1,T,d,h,hT,hd=>by
  simp only [DRepL] at h
  obtain ⟨c1,c2,e,h1,h2⟩:=h
  simp at hT hd
  subst e
  have hl:=DRep.length h1
  have:=DRepL.part h2 hT hd
  simpa only [List.take_succ_cons,Ty.sizeL,← hl,zdD] using this
theorem DRepA.part {w:World}{M:Nat→Prop}:∀ {e:Ty}{ds:List D}{cs:List Value}{j:Nat}{d:D},DRepA w M e ds cs→ds[j]?=some d →
  DRep w M e d ((cs.drop (j * e.size)).take e.size)
 | e,[],_,j,_,_,hd=>by simp at hd
 | e,x::ds,cs,0,d,h,hd=>by
  simp only [DRepA] at h
  obtain ⟨c1,c2,he,h1,h2⟩:=h
  simp at hd
  subst hd he
  have hl:=DRep.length h1
  simpa [← hl] using h1
 | e,x::ds,cs,j + 1,d,h,hd=>by
  simp only [DRepA] at h
  obtain ⟨c1,c2,he,h1,h2⟩:=h
  simp at hd
  subst he
  have hl:=DRep.length h1
  have:=DRepA.part h2 hd
  have e2:(j + 1) * e.size=c1.length + j * e.size:=by rw [hl,Nat.add_mul,Nat.one_mul,Nat.add_comm]
  rw [e2,zdD]
  exact this
theorem DRepA.append {w:World}{M:Nat→Prop}{e:Ty}:∀ {ds ds':List D}{cs cs':List Value},DRepA w M e ds cs→DRepA w M e ds' cs'→DRepA w M e (ds++ds') (cs++cs')
 | [],_,cs,cs',h,h'=>by simp only [DRepA] at h;subst h;simpa using h'
 | d::ds,_,cs,cs',h,h'=>by
  simp only [DRepA] at h
  obtain ⟨c1,c2,he,h1,h2⟩:=h
  subst he
  simp only [List.cons_append,DRepA,List.append_assoc]
  exact ⟨c1,c2++cs',rfl,h1,DRepA.append h2 h'⟩
theorem DRepA.take {w:World}{M:Nat→Prop}{e:Ty}:∀ {ds:List D}{cs:List Value}(n:Nat),DRepA w M e ds cs→DRepA w M e (ds.take n) (cs.take (n * e.size))
 | [],cs,n,h=>by simp only [DRepA] at h;subst h;simp [DRepA]
 | d::ds,cs,0,h=>by simp [DRepA]
 | d::ds,cs,n + 1,h=>by
  simp only [DRepA] at h
  obtain ⟨c1,c2,he,h1,h2⟩:=h
  subst he
  have hl:=DRep.length h1
  simp only [List.take_succ_cons,DRepA]
  refine ⟨c1,c2.take (n * e.size),?_,h1,DRepA.take n h2⟩
  have:(n + 1) * e.size=c1.length + n * e.size:=by rw [hl,Nat.add_mul,Nat.one_mul,Nat.add_comm]
  rw [this,zhj]
theorem DRepA.drop {w:World}{M:Nat→Prop}{e:Ty}:∀ {ds:List D}{cs:List Value}(n:Nat),DRepA w M e ds cs→DRepA w M e (ds.drop n) (cs.drop (n * e.size))
 | [],cs,n,h=>by simp only [DRepA] at h;subst h;simp [DRepA]
 | d::ds,cs,0,h=>by simpa using h
 | d::ds,cs,n + 1,h=>by
  simp only [DRepA] at h
  obtain ⟨c1,c2,he,h1,h2⟩:=h
  subst he
  have hl:=DRep.length h1
  have:(n + 1) * e.size=c1.length + n * e.size:=by rw [hl,Nat.add_mul,Nat.one_mul,Nat.add_comm]
  rw [this,List.drop_succ_cons,zdD]
  exact DRepA.drop n h2
theorem DRepA.set {w:World}{M:Nat→Prop}{e:Ty}:∀ {ds:List D}{cs cv:List Value}{j:Nat}{d:D},DRepA w M e ds cs→j<ds.length→DRep w M e d cv →
  DRepA w M e (ds.set j d) (cs.take (j * e.size)++cv++cs.drop (j * e.size + e.size))
 | [],_,_,j,_,_,hj,_=>by simp at hj
 | x::ds,cs,cv,0,d,h,_,hv=>by
  simp only [DRepA] at h
  obtain ⟨c1,c2,he,h1,h2⟩:=h
  subst he
  have hl:=DRep.length h1
  simp only [List.set_cons_zero,DRepA,Nat.zero_mul,List.take_zero,List.nil_append,Nat.zero_add]
  exact ⟨cv,c2,by rw [← hl];simp,hv,h2⟩
 | x::ds,cs,cv,j + 1,d,h,hj,hv=>by
  simp only [DRepA] at h
  obtain ⟨c1,c2,he,h1,h2⟩:=h
  subst he
  have hl:=DRep.length h1
  simp only [List.set_cons_succ,DRepA]
  refine ⟨c1,_,?_,h1,DRepA.set h2 (by simpa using hj) hv⟩
  have e1:(j + 1) * e.size=c1.length + j * e.size:=by rw [hl,Nat.add_mul,Nat.one_mul,Nat.add_comm]
  rw [e1,Nat.add_assoc,zhj,zdD]
  simp [List.append_assoc]
theorem DRepL.set {w:World}{M:Nat→Prop}:∀ {Ts:List Ty}{ds:List D}{cs cv:List Value}{j:Nat}{T:Ty}{d:D},DRepL w M Ts ds cs→Ts[j]?=some T→DRep w M T d cv →
  DRepL w M Ts (ds.set j d) (cs.take (Ty.sizeL (Ts.take j))++cv++cs.drop (Ty.sizeL (Ts.take j) + T.size))
 | [],_,_,_,j,_,_,_,hj,_=>by simp at hj
 | _::_,[],_,_,j,_,_,h,_,_=>by simp only [DRepL] at h
 | U::Ts,x::ds,cs,cv,0,T,d,h,hT,hv=>by
  simp only [DRepL] at h
  obtain ⟨c1,c2,he,h1,h2⟩:=h
  simp at hT
  subst he hT
  have hl:=DRep.length h1
  simp only [List.set_cons_zero,DRepL,List.take_zero,Ty.sizeL,List.take_zero,List.nil_append,Nat.zero_add]
  exact ⟨cv,c2,by rw [← hl];simp,hv,h2⟩
 | U::Ts,x::ds,cs,cv,j + 1,T,d,h,hT,hv=>by
  simp only [DRepL] at h
  obtain ⟨c1,c2,he,h1,h2⟩:=h
  simp at hT
  subst he
  have hl:=DRep.length h1
  simp only [List.set_cons_succ,DRepL]
  refine ⟨c1,_,?_,h1,DRepL.set h2 hT hv⟩
  simp only [List.take_succ_cons,Ty.sizeL]
  rw [Nat.add_assoc,← hl,zhj,zdD]
  simp [List.append_assoc]
end Go.SX
namespace Go.SX
def One (v:Value):Prop:=(∀ l,v≠.agg l)∧∀ l,v≠.tuple l
theorem One.cells {v:Value}(h:One v):v.cells=#[v]:=by
 cases v<;>first|rfl|exact absurd rfl (h.1 _)
theorem One.one {v:Value}(h:One v):v.oneCell'=true:=by
 cases v<;>first|rfl|exact absurd rfl (h.1 _)|exact absurd rfl (h.2 _)
def Root.there:Root→Bool|.dead=>false|_=>true
structure Pl where
 main:Option Nat
 rows:List (Option Nat)
def opts:List (Option Nat)→List Nat
 | []=>[]
 | some b::l=>b::opts l
 | none::l=>opts l
def Root.own:Root→Pl→List Nat
 | .box ..,p=>p.main.toList
 | .row ..,p=>p.main.toList
 | .mat ..,p=>p.main.toList++opts p.rows
 | .mp ..,p=>p.main.toList
 | .lt ..,p=>p.main.toList
 | .ow ..,p=>p.main.toList
 | _,_=>[]
structure Ctx where
 E:List D
 w:World
 μ:Nat→Root
 β:Nat→Pl
 A:Nat→Prop
 F:Nat→Prop
def Ctx.M (X:Ctx) (b:Nat):Prop:=X.F b∨∃ r,X.A r∧b∈(X.μ r).own (X.β r)
def bsize (w:World) (b:Nat):Option Nat :=
 match w.heap[b]? with
 | some (.cells c _ _)=>some c.size
 | _=>none
def tOff (E:List D):List Stp→Ty→Option Nat
 | [],_=>some 0
 | .f j::q,.st Ts=>match Ts[j]? with
  | some T=>match tOff E q T with
   | some n=>some (Ty.sizeL (Ts.take j) + n)
   | none=>none
  | none=>none
 | .i a::q,.arr _ e=>match a.get E with
  | some (.int _ i)=>if 0≤i then match tOff E q e with
   | some n=>some (i.toNat * e.size + n)
   | none=>none
   else none
  | _=>none
 | _,_=>none
def zeK (E:List D) (w:World) (e:Ty) (b:Nat) (n:Nat) (vw:Option (At×At)) (v:Value):Prop :=
 match vw with
 | none=>∃ cap bs,v=.slice (some ⟨b,0,none⟩) n cap∧n≤cap∧bsize w b=some bs∧cap * e.size≤bs
 | some (lo,hi)=>∃ ad cap bs k k' i j,lo.get E=some (.int k (Int.ofNat i))∧hi.get E=some (.int k' (Int.ofNat j))∧i≤j∧j≤n∧v=.slice (some ad) (j - i) cap∧n - i≤cap ∧
   bsize w b=some bs∧(i + cap) * e.size≤bs∧(cap≠0∨i=0→ad=⟨b,i * e.size,none⟩)
def zhs (E:List D):Option (At×At)→Prop
 | none=>True
 | some (lo,hi)=>∃ k k',lo.get E=some (.int k 0)∧hi.get E=some (.int k' 0)
def Empt (d:D) (v:Value):Prop:=(d=.nil∧v=.slice none 0 0)∨(d=.sl []∧∃ ad,v=.slice (some ad) 0 0)
def EmD (d:D):Prop:=d=.nil∨d=.sl []
theorem Empt.em {d:D}{v:Value}(h:Empt d v):EmD d:=h.elim (fun h=>.inl h.1) (fun h=>.inr h.1)
theorem Empt.val {d:D}{v:Value}(h:Empt d v):∃ A,v=.slice A 0 0:=h.elim (fun h=>⟨_,h.2⟩) (fun ⟨_,_,h⟩=>⟨_,h⟩)
theorem EmD.els {d:D}(h:EmD d):d.els=some []:=by rcases h with h|h<;>subst h<;>rfl
theorem EmD.len {d:D}(h:EmD d):Prim.run .len [d]=some (.int .i64 0):=by rcases h with h|h<;>subst h<;>rfl
theorem Empt.re {d:D}{A A':Option Addr}(h:Empt d (.slice A 0 0)) (hA:A'=none↔A=none):Empt d (.slice A' 0 0):=by
 rcases h with ⟨h,e⟩|⟨h,ad,e⟩
 ·injection e with e
  exact .inl ⟨h,by rw [hA.2 e]⟩
 ·injection e with e
  cases A' with
  | none=>rw [hA.1 rfl] at e;cases e
  | some a=>exact .inr ⟨h,a,rfl⟩
theorem Empt.rep {w:World}{M:Nat→Prop}{e:Ty}{d:D}{v:Value}(h:Empt d v):DRep w M (.sl e) d [v]:=by
 rcases h with ⟨h,e⟩|⟨h,ad,e⟩<;>subst h e
 ·simp [DRep]
 ·simp only [DRep];exact ⟨ad,0,[],rfl,wG0 _,by simp [DRepA],fun j u hj=>by simp at hj,fun h=>absurd rfl h⟩
def HRep (X:Ctx) (e:Ty) (r:Nat) (vw:Option (At×At)) (v:Value):Prop :=
 ∃ a d,(X.μ r).row?=some (e,a)∧a.get X.E=some d ∧
  (((X.β r).main=none∧Empt d v∧zhs X.E vw) ∨
   (∃ b l,(X.β r).main=some b∧d=.sl l∧zeK X.E X.w e b l.length vw v))
def zul (w:World) (e:Ty) (o:Option Nat) (d:D) (v:Value):Prop :=
 (o=none∧Empt d v) ∨
 ∃ b l cap bs,o=some b∧d=.sl l∧v=.slice (some ⟨b,0,none⟩) l.length cap∧l.length≤cap∧bsize w b=some bs∧cap * e.size≤bs
def Ref (X:Ctx):SV→Value→Prop
 | .h e r vw,v=>One v∧X.A r∧((X.μ r).there=true→HRep X e r vw v)
 | .hc e r hi,v=>One v∧X.A r∧((X.μ r).there=true→∃ a d,(X.μ r).row?=some (e,a)∧a.get X.E=some d ∧
   (((X.β r).main=none∧Empt d v∧∃ k,hi.get X.E=some (.int k 0)) ∨
    (∃ b l k j bs,(X.β r).main=some b∧d=.sl l∧hi.get X.E=some (.int k (Int.ofNat j))∧j≤l.length∧v=.slice (some ⟨b,0,none⟩) j j∧bsize X.w b=some bs∧j * e.size≤bs)))
 | .z _ a,v=>∃ d l x,a.get X.E=some d∧d.els=some l∧v=.slice x 0 0∧(x=none↔d=.nil)
 | .p R T r q,v=>X.A r∧∃ b off,v=.pointer (some ⟨b,off,none⟩)∧(X.β r).main=some b∧tOff X.E q R=some off∧tyAt q R=some T
 | .pd T a,v=>∃ ad d xs,v=.pointer (some ad)∧a.get X.E=some d∧DRep X.w X.M T d xs∧(∀ j u,xs[j]?=some u→X.w.cell? (ad.add j)=some u)∧(xs≠[]→¬ X.M ad.block)
 | .hb R e n r q,v=>X.A r∧q=[]∧R=.arr n e∧∃ b,(X.β r).main=some b∧v=.slice (some ⟨b,0,none⟩) n n
 | .hr e r ix g,v=>One v∧X.A r∧(∀ e' a g',X.μ r=.mat e' a g'→g≤g'∧(g=g'→e'=e∧∃ k i ds d o,a.get X.E=some (.sl ds)∧ix.get X.E=some (.int k (Int.ofNat i))∧ds[i]?=some d∧(X.β r).rows[i]?=some o∧zul X.w e o d v))
 | .pm e T r ix q g,v=>One v∧X.A r∧(∀ e' a g',X.μ r=.mat e' a g'→g≤g'∧(g=g'→e'=e∧∃ k i b off,ix.get X.E=some (.int k (Int.ofNat i))∧(X.β r).rows[i]?=some (some b)∧v=.pointer (some ⟨b,off,none⟩)∧tOff X.E q (.arr 0 e)=some off∧tyAt q (.arr 0 e)=some T))
 | .mr _ _ r,v=>X.A r∧∃ b,v=.map (some b)∧(X.β r).main=some b
 | _,_=>False
def SV.hasTy:SV→Ty→Prop
 | .d T' _,T=>T'=T
 | .ag T' _,T=>T'=T
 | .h e _ _,T=>T=.sl e
 | .hc e _ _,T=>T=.sl e
 | .z e _,T=>T=.sl e
 | .hb _ e _ _ _,T=>T=.sl e
 | .hr e _ _ _,T=>T=.sl e
 | .p ..,T=>T=.no
 | .pm ..,T=>T=.no
 | .pd ..,T=>T=.no
 | .fn ..,T=>T=.no
 | .mr ..,T=>T=.no
 | .cv _,T=>T=.no
 | .un n,T=>n=T.size
 | .tu _,_=>False
mutual
def CRep (X:Ctx):SV→List Value→Prop
 | .un n,cs=>cs.length=n∧∀ v∈cs,One v
 | .cv v,cs=>cs=[v]∧One v
 | .d T a,cs=>∃ d,a.get X.E=some d∧DRep X.w X.M T d cs
 | .ag (.st Ts) l,cs=>CRepL X l Ts cs
 | .ag _ _,_=>False
 | .fn f fst caps,cs=>∃ us vs,cs=[.func (.func f) us vs]∧VRepL X fst us.toList∧VRepL X caps vs.toList
 | .tu _,_=>False
 | .h e r vw,cs=>∃ v,cs=[v]∧Ref X (.h e r vw) v
 | .hc e r i,cs=>∃ v,cs=[v]∧Ref X (.hc e r i) v
 | .z e a,cs=>∃ v,cs=[v]∧Ref X (.z e a) v
 | .p R T r q,cs=>∃ v,cs=[v]∧Ref X (.p R T r q) v
 | .pd T a,cs=>∃ v,cs=[v]∧Ref X (.pd T a) v
 | .hb R e n r q,cs=>∃ v,cs=[v]∧Ref X (.hb R e n r q) v
 | .hr e r i g,cs=>∃ v,cs=[v]∧Ref X (.hr e r i g) v
 | .pm e T r i q g,cs=>∃ v,cs=[v]∧Ref X (.pm e T r i q g) v
 | .mr K V r,cs=>∃ v,cs=[v]∧Ref X (.mr K V r) v
def CRepL (X:Ctx):List SV→List Ty→List Value→Prop
 | [],[],cs=>cs=[]
 | s::l,T::Ts,cs=>∃ c1 c2,cs=c1++c2∧s.hasTy T∧CRep X s c1∧CRepL X l Ts c2
 | _,_,_=>False
def VRep (X:Ctx):SV→Value→Prop
 | .un _,_=>True
 | .cv v',v=>v=v'
 | .d T a,v=>∃ d,a.get X.E=some d∧(if T.isAgg then ∃ cs,v=.agg cs∧DRep X.w X.M T d cs.toList else One v∧DRep X.w X.M T d [v])
 | .ag (.st Ts) l,v=>∃ cs,v=.agg cs∧CRepL X l Ts cs.toList
 | .ag _ _,_=>False
 | .tu l,v=>∃ vs,v=.tuple vs∧VRepL X l vs.toList
 | .fn f fst caps,v=>∃ us vs,v=.func (.func f) us vs∧VRepL X fst us.toList∧VRepL X caps vs.toList
 | .h e r vw,v=>Ref X (.h e r vw) v
 | .hc e r i,v=>Ref X (.hc e r i) v
 | .z e a,v=>Ref X (.z e a) v
 | .p R T r q,v=>Ref X (.p R T r q) v
 | .pd T a,v=>Ref X (.pd T a) v
 | .hb R e n r q,v=>Ref X (.hb R e n r q) v
 | .hr e r i g,v=>Ref X (.hr e r i g) v
 | .pm e T r i q g,v=>Ref X (.pm e T r i q g) v
 | .mr K V r,v=>Ref X (.mr K V r) v
def VRepL (X:Ctx):List SV→List Value→Prop
 | [],vs=>vs=[]
 | s::l,vs=>∃ v r,vs=v::r∧VRep X s v∧VRepL X l r
end
def sameLen (d d':D):Prop:=(d=.nil→d'=.nil)∧∀ l,d=.sl l→∃ l',d'=.sl l'∧l'.length=l.length
theorem sameLen.refl (d:D):sameLen d d:=⟨fun h=>h,fun l h=>⟨l,h,rfl⟩⟩
theorem sameLen.trans {a b c:D}(h:sameLen a b) (k:sameLen b c):sameLen a c :=
 ⟨fun e=>k.1 (h.1 e),fun l e=>by
  obtain ⟨l1,e1,q1⟩:=h.2 l e
  obtain ⟨l2,e2,q2⟩:=k.2 l1 e1
  exact ⟨l2,e2,q2.trans q1⟩⟩
theorem Empt.same {d d':D}{v:Value}(h:Empt d v) (s:sameLen d d'):Empt d' v:=by
 rcases h with ⟨h,e⟩|⟨h,e⟩
 ·exact .inl ⟨s.1 h,e⟩
 ·obtain ⟨l',h1,h2⟩:=s.2 _ h
  exact .inr ⟨by rw [h1,List.eq_nil_of_length_eq_zero h2],e⟩
theorem EmD.same {d d':D}(h:EmD d) (s:sameLen d d'):EmD d':=by
 rcases h with h|h
 ·exact .inl (s.1 h)
 ·obtain ⟨l',h1,h2⟩:=s.2 _ h
  exact .inr (by rw [h1,List.eq_nil_of_length_eq_zero h2])
def sameRows (d d':D):Prop:=∀ ds,d=.sl ds→∃ ds',d'=.sl ds'∧∀ (i:Nat) (x:D),ds[i]?=some x→∃ x':D,ds'[i]?=some x'∧sameLen x x'
theorem sameRows.refl (d:D):sameRows d d:=fun ds h=>⟨ds,h,fun _ x h=>⟨x,h,sameLen.refl x⟩⟩
theorem sameRows.trans {a b c:D}(h:sameRows a b) (k:sameRows b c):sameRows a c:=fun ds e=>by
 obtain ⟨d1,e1,q1⟩:=h ds e
 obtain ⟨d2,e2,q2⟩:=k d1 e1
 refine ⟨d2,e2,fun i x hx=>?_⟩
 obtain ⟨x1,h1,s1⟩:=q1 i x hx
 obtain ⟨x2,h2,s2⟩:=q2 i x1 h1
 exact ⟨x2,h2,s1.trans s2⟩
structure ExtC (X X':Ctx):Prop where
 E:∀ (i:Nat) (d:D),X.E[i]?=some d→X'.E[i]?=some d
 K:zhg X.w X'.w X.M X'.M
 F:X'.F=X.F
 A:∀ r,X.A r→X'.A r
 β:∀ r,X.A r→((X'.μ r).there=true→(X.μ r).there=true)∧(X'.β r).main=(X.β r).main
 row:∀ r e a d,X.A r→(X'.μ r).there=true→(X.μ r).row?=some (e,a)→a.get X.E=some d →
  ∃ a' d',(X'.μ r).row?=some (e,a')∧a'.get X'.E=some d'∧sameLen d d'
 mat:∀ r e a' g,X.A r→X'.μ r=.mat e a' g→∃ a g0,X.μ r=.mat e a g0∧(g0=g→(X'.β r).rows=(X.β r).rows ∧
  (∀ b n,some b∈(X.β r).rows→bsize X.w b=some n→bsize X'.w b=some n)∧∀ d,a.get X.E=some d→∃ d',a'.get X'.E=some d'∧sameRows d d')
 gen:∀ r e a g e' a' g',X.A r→X.μ r=.mat e a g→X'.μ r=.mat e' a' g'→g≤g'
 size:∀ r b n,X.A r→(X'.μ r).there=true→(X.β r).main=some b→bsize X.w b=some n→bsize X'.w b=some n
structure Ext (X X':Ctx):Prop where
 E:∀ (i:Nat) (d:D),X.E[i]?=some d→X'.E[i]?=some d
 K:Keeps X.w X'.w X.M X'.M
 F:X'.F=X.F
 A:∀ r,X.A r→X'.A r
 β:∀ r,X.A r→((X'.μ r).there=true→(X.μ r).there=true)∧(X'.β r).main=(X.β r).main
 row:∀ r e a d,X.A r→(X'.μ r).there=true→(X.μ r).row?=some (e,a)→a.get X.E=some d →
  ∃ a' d',(X'.μ r).row?=some (e,a')∧a'.get X'.E=some d'∧sameLen d d'
 mat:∀ r e a' g,X.A r→X'.μ r=.mat e a' g→∃ a g0,X.μ r=.mat e a g0∧(g0=g→(X'.β r).rows=(X.β r).rows ∧
  (∀ b n,some b∈(X.β r).rows→bsize X.w b=some n→bsize X'.w b=some n)∧∀ d,a.get X.E=some d→∃ d',a'.get X'.E=some d'∧sameRows d d')
 gen:∀ r e a g e' a' g',X.A r→X.μ r=.mat e a g→X'.μ r=.mat e' a' g'→g≤g'
 size:∀ r b n,X.A r→(X'.μ r).there=true→(X.β r).main=some b→bsize X.w b=some n→bsize X'.w b=some n
theorem At.get_ext {E E':List D}(h:∀ (i:Nat) (d:D),E[i]?=some d→E'[i]?=some d) {a:At}{d:D}(ha:a.get E=some d):a.get E'=some d:=by
 cases a with
 | v i=>exact h i d ha
 | c x=>exact ha
theorem ziK {E E':List D}(h:∀ (i:Nat) (d:D),E[i]?=some d→E'[i]?=some d):∀ {q:List Stp}{T:Ty}{n:Nat},tOff E q T=some n→tOff E' q T=some n
 | [],_,_,hn=>by simpa only [tOff] using hn
 | .f j::q,T,n,hn=>by
  cases T<;>simp only [tOff] at hn ⊢<;>try exact hn
  rename_i Ts
  cases hT:Ts[j]? with
  | none=>simp [hT] at hn
  | some U =>
   simp only [hT] at hn ⊢
   cases ho:tOff E q U with
   | none=>simp [ho] at hn
   | some m=>simp only [ho] at hn;simp only [ziK h ho];exact hn
 | .i a::q,T,n,hn=>by
  cases T<;>simp only [tOff] at hn ⊢<;>try exact hn
  rename_i m e
  cases ha:a.get E with
  | none=>simp [ha] at hn
  | some d =>
   rw [At.get_ext h ha]
   simp only [ha] at hn
   cases d with
   | int k z =>
    simp only at hn ⊢
    split at hn
    ·rename_i h0
     rw [if_pos h0]
     cases ho:tOff E q e with
     | none=>simp [ho] at hn
     | some m=>simp only [ho] at hn;simp only [ziK h ho];exact hn
    ·exact absurd hn (by simp)
   | _=>simp at hn
theorem Ext.refl (X:Ctx):Ext X X where
 E:=fun _ _ h=>h
 K:=⟨fun _ _ _=>rfl,fun _ _ h=>h⟩
 F:=rfl
 A:=fun _ h=>h
 β:=fun _ _=>⟨fun h=>h,rfl⟩
 row:=fun _ _ a d _ _ h hd=>⟨a,d,h,hd,sameLen.refl d⟩
 mat:=fun _ _ a g _ h=>⟨a,g,h,fun _=>⟨rfl,fun _ _ _ h=>h,fun d h=>⟨d,h,sameRows.refl d⟩⟩⟩
 gen:=fun _ _ _ _ _ _ _ _ h h'=>by rw [h] at h';injection h' with _ _ e;omega
 size:=fun _ _ _ _ _ _ h=>h
theorem Ext.c {X X':Ctx}(x:Ext X X'):ExtC X X':=⟨x.E,x.K.c,x.F,x.A,x.β,x.row,x.mat,x.gen,x.size⟩
theorem ExtC.trans {X Y Z:Ctx}(h:ExtC X Y) (k:ExtC Y Z):ExtC X Z where
 E:=fun i d x=>k.E i d (h.E i d x)
 K:=⟨fun a v x m=>k.K.cell a v (h.K.cell a v x m) (h.K.free a v x m),fun a v x m=>k.K.free a v (h.K.cell a v x m) (h.K.free a v x m)⟩
 A:=fun r x=>k.A r (h.A r x)
 F:=k.F.trans h.F
 β:=fun r x=>by
  obtain ⟨t1,e1⟩:=k.β r (h.A r x)
  obtain ⟨t2,e2⟩:=h.β r x
  exact ⟨fun t=>t2 (t1 t),e1.trans e2⟩
 row:=fun r e a d x t hr hd=>by
  have t1:=(k.β r (h.A r x)).1 t
  obtain ⟨a1,d1,r1,g1,s1⟩:=h.row r e a d x t1 hr hd
  obtain ⟨a2,d2,r2,g2,s2⟩:=k.row r e a1 d1 (h.A r x) t r1 g1
  exact ⟨a2,d2,r2,g2,s1.trans s2⟩
 mat:=fun r e a2 g x hr=>by
  obtain ⟨a1,g1,r1,q1⟩:=k.mat r e a2 g (h.A r x) hr
  obtain ⟨a0,g0,r0,q0⟩:=h.mat r e a1 g1 x r1
  refine ⟨a0,g0,r0,fun eg=>?_⟩
  have h01:=h.gen r e a0 g0 e a1 g1 x r0 r1
  have h12:=k.gen r e a1 g1 e a2 g (h.A r x) r1 hr
  obtain ⟨b0,s0,c0⟩:=q0 (by omega)
  obtain ⟨b1,s1,c1⟩:=q1 (by omega)
  refine ⟨b1.trans b0,fun b n hb hn=>s1 b n (by rw [b0];exact hb) (s0 b n hb hn),fun d hd=>?_⟩
  obtain ⟨d1,hd1,u1⟩:=c0 d hd
  obtain ⟨d2,hd2,u2⟩:=c1 d1 hd1
  exact ⟨d2,hd2,u1.trans u2⟩
 gen:=fun r e a g e2 a2 g2 x h0 h2=>by
  obtain ⟨a1,g1,r1,_⟩:=k.mat r e2 a2 g2 (h.A r x) h2
  have h01:=h.gen r e a g e2 a1 g1 x h0 r1
  have h12:=k.gen r e2 a1 g1 e2 a2 g2 (h.A r x) r1 h2
  omega
 size:=fun r b n x t hb hn=>by
  have t1:=(k.β r (h.A r x)).1 t
  have e2:=(h.β r x).2
  exact k.size r b n (h.A r x) t (e2▸hb) (h.size r b n x t1 hb hn)
theorem Ext.mk' {X Y:Ctx}(c:ExtC X Y) (K:Keeps X.w Y.w X.M Y.M):Ext X Y:=⟨c.E,K,c.F,c.A,c.β,c.row,c.mat,c.gen,c.size⟩
theorem Ext.trans {X Y Z:Ctx}(h:Ext X Y) (k:Ext Y Z):Ext X Z:=.mk' (h.c.trans k.c) (h.K.trans k.K)
theorem zrk {E E':List D}{w w':World}{e:Ty}{b n:Nat}{vw:Option (At×At)}{v:Value}(hE:∀ (i:Nat) (d:D),E[i]?=some d→E'[i]?=some d)
  (hs:∀ n,bsize w b=some n→bsize w' b=some n) (h:zeK E w e b n vw v):zeK E' w' e b n vw v:=by
 cases vw with
 | none =>
  obtain ⟨cap,bs,h1,h2,h3,h4⟩:=h
  exact ⟨cap,bs,h1,h2,hs _ h3,h4⟩
 | some p =>
  obtain ⟨lo,hi⟩:=p
  obtain ⟨ad,cap,bs,k,k',i,j,h1,h2,h3,h4,h5,h6,h7,h8,h9⟩:=h
  exact ⟨ad,cap,bs,k,k',i,j,At.get_ext hE h1,At.get_ext hE h2,h3,h4,h5,h6,hs _ h7,h8,h9⟩
theorem HRep.extC {X X':Ctx}(x:ExtC X X') {e:Ty}{r:Nat}{vw:Option (At×At)}{v:Value}(hA:X.A r) (ht:(X'.μ r).there=true) (h:HRep X e r vw v):HRep X' e r vw v:=by
 obtain ⟨a,d,h1,h2,h3⟩:=h
 have hβ:=(x.β r hA).2
 obtain ⟨a',d',r',g',s'⟩:=x.row r e a d hA ht h1 h2
 refine ⟨a',d',r',g',?_⟩
 rcases h3 with ⟨b1,b2,b4⟩|⟨b,l,b1,b2,b3⟩
 ·refine .inl ⟨hβ.trans b1,b2.same s',?_⟩
  cases vw with
  | none=>trivial
  | some p=>obtain ⟨k,k',u,u'⟩:=b4;exact ⟨k,k',At.get_ext x.E u,At.get_ext x.E u'⟩
 ·obtain ⟨l',e',q'⟩:=s'.2 l b2
  exact .inr ⟨b,l',hβ.trans b1,e',by rw [q'];exact zrk x.E (fun n hn=>x.size r b n hA ht b1 hn) b3⟩
theorem Ref.extC {X X':Ctx}(x:ExtC X X') {s:SV}{v:Value}(h:Ref X s v):Ref X' s v:=by
 cases s<;>simp only [Ref] at h ⊢<;>try exact h
 case h e r vw=>exact ⟨h.1,x.A r h.2.1,fun t=>(h.2.2 ((x.β r h.2.1).1 t)).extC x h.2.1 t⟩
 case hc e r hi =>
  refine ⟨h.1,x.A r h.2.1,fun t=>?_⟩
  have t1:=(x.β r h.2.1).1 t
  have hβ:=(x.β r h.2.1).2
  obtain ⟨a,d,h1,h2,h3⟩:=h.2.2 t1
  obtain ⟨a',d',r',g',s'⟩:=x.row r e a d h.2.1 t h1 h2
  refine ⟨a',d',r',g',?_⟩
  rcases h3 with ⟨b1,b2,k,b4⟩|⟨b,l,k,j,bs,b1,b2,b3,b4,b5,b6,b7⟩
  ·exact .inl ⟨hβ.trans b1,b2.same s',k,At.get_ext x.E b4⟩
  ·obtain ⟨l',e',q'⟩:=s'.2 l b2
   exact .inr ⟨b,l',k,j,bs,hβ.trans b1,e',At.get_ext x.E b3,by omega,b5,x.size r b bs h.2.1 t b1 b6,b7⟩
 case z e a =>
  obtain ⟨d,l,y,h1,h2,h3,h4⟩:=h
  exact ⟨d,l,y,At.get_ext x.E h1,h2,h3,h4⟩
 case p R T r q =>
  obtain ⟨hA,b,off,h1,h2,h3,h4⟩:=h
  exact ⟨x.A r hA,b,off,h1,(x.β r hA).2.trans h2,ziK x.E h3,h4⟩
 case pd T a =>
  obtain ⟨ad,d,xs,h1,h2,h3,h4,h5⟩:=h
  refine ⟨ad,d,xs,h1,At.get_ext x.E h2,h3.keepC x.K,fun j u hu=>?_,fun hx=>?_⟩
  ·have hne:xs≠[]:=by intro e;subst e;simp at hu
   have hc:=h4 j u hu
   exact x.K.cell _ _ hc (by rw [zfs hc];exact h5 hne)
  ·obtain ⟨v,hv⟩:∃ v,xs[0]?=some v:=by
    cases xs with
    | nil=>exact absurd rfl hx
    | cons v l=>exact ⟨v,rfl⟩
   have hc:=h4 0 v hv
   have:=x.K.free _ _ hc (by rw [zfs hc];exact h5 hx)
   rwa [zfs hc] at this
 case hb R e n r q =>
  obtain ⟨hA,h1,h2,b,h3,h4⟩:=h
  exact ⟨x.A r hA,h1,h2,b,(x.β r hA).2.trans h3,h4⟩
 case hr e r ix g =>
  refine ⟨h.1,x.A r h.2.1,fun e' a' g' hm=>?_⟩
  obtain ⟨a,g0,h0,q⟩:=x.mat r e' a' g' h.2.1 hm
  have hg:=x.gen r e' a g0 e' a' g' h.2.1 h0 hm
  obtain ⟨hle,hh⟩:=h.2.2 e' a g0 h0
  refine ⟨by omega,fun eg=>?_⟩
  obtain ⟨he,k,i,ds,d,o,h1,h2,h3,h4,h5⟩:=hh (by omega)
  obtain ⟨b0,s0,c0⟩:=q (by omega)
  obtain ⟨d',hd',u⟩:=c0 _ h1
  obtain ⟨ds',e1,u'⟩:=u ds rfl
  obtain ⟨x',hx',sl⟩:=u' i d h3
  refine ⟨he,k,i,ds',x',o,by rw [hd',e1],At.get_ext x.E h2,hx',by rw [b0];exact h4,?_⟩
  rcases h5 with ⟨p1,p2⟩|⟨b,l,cap,bs,p1,p2,p3,p4,p5,p6⟩
  ·exact .inl ⟨p1,p2.same sl⟩
  ·obtain ⟨l',el,ql⟩:=sl.2 l p2
   exact .inr ⟨b,l',cap,bs,p1,el,by rw [ql];exact p3,by omega,s0 b bs (by rw [← p1];exact List.mem_of_getElem? h4) p5,p6⟩
 case pm e T r ix q g =>
  refine ⟨h.1,x.A r h.2.1,fun e' a' g' hm=>?_⟩
  obtain ⟨a,g0,h0,q⟩:=x.mat r e' a' g' h.2.1 hm
  have hg:=x.gen r e' a g0 e' a' g' h.2.1 h0 hm
  obtain ⟨hle,hh⟩:=h.2.2 e' a g0 h0
  refine ⟨by omega,fun eg=>?_⟩
  obtain ⟨he,k,i,b,off,h1,h2,h3,h4,h5⟩:=hh (by omega)
  obtain ⟨b0,s0,c0⟩:=q (by omega)
  exact ⟨he,k,i,b,off,At.get_ext x.E h1,by rw [b0];exact h2,h3,ziK x.E h4,h5⟩
 case mr K V r =>
  obtain ⟨hA,b,h1,h2⟩:=h
  exact ⟨x.A r hA,b,h1,(x.β r hA).2.trans h2⟩
mutual
theorem CRep.extC {X X':Ctx}(x:ExtC X X'):∀ {s:SV}{cs:List Value},CRep X s cs→CRep X' s cs
 | .un n,cs,h=>by simpa only [CRep] using h
 | .cv v,cs,h=>by simpa only [CRep] using h
 | .d T a,cs,h=>by
  simp only [CRep] at h ⊢
  obtain ⟨d,h1,h2⟩:=h
  exact ⟨d,At.get_ext x.E h1,h2.keepC x.K⟩
 | .ag T l,cs,h=>by
  cases T<;>simp only [CRep] at h ⊢
  exact CRepL.extC x h
 | .fn f fst caps,cs,h=>by
  simp only [CRep] at h ⊢
  obtain ⟨us,vs,h1,h2,h3⟩:=h
  exact ⟨us,vs,h1,VRepL.extC x h2,VRepL.extC x h3⟩
 | .tu _,_,h=>by simp only [CRep] at h
 | .h e r vw,cs,h=>by simp only [CRep] at h ⊢;obtain ⟨v,h1,h2⟩:=h;exact ⟨v,h1,h2.extC x⟩
 | .hc e r i,cs,h=>by simp only [CRep] at h ⊢;obtain ⟨v,h1,h2⟩:=h;exact ⟨v,h1,h2.extC x⟩
 | .z e a,cs,h=>by simp only [CRep] at h ⊢;obtain ⟨v,h1,h2⟩:=h;exact ⟨v,h1,h2.extC x⟩
 | .p R T r q,cs,h=>by simp only [CRep] at h ⊢;obtain ⟨v,h1,h2⟩:=h;exact ⟨v,h1,h2.extC x⟩
 | .pd T a,cs,h=>by simp only [CRep] at h ⊢;obtain ⟨v,h1,h2⟩:=h;exact ⟨v,h1,h2.extC x⟩
 | .hb R e n r q,cs,h=>by simp only [CRep] at h ⊢;obtain ⟨v,h1,h2⟩:=h;exact ⟨v,h1,h2.extC x⟩
 | .hr e r i g,cs,h=>by simp only [CRep] at h ⊢;obtain ⟨v,h1,h2⟩:=h;exact ⟨v,h1,h2.extC x⟩
 | .pm e T r i q g,cs,h=>by simp only [CRep] at h ⊢;obtain ⟨v,h1,h2⟩:=h;exact ⟨v,h1,h2.extC x⟩
 | .mr K V r,cs,h=>by simp only [CRep] at h ⊢;obtain ⟨v,h1,h2⟩:=h;exact ⟨v,h1,h2.extC x⟩
theorem CRepL.extC {X X':Ctx}(x:ExtC X X'):∀ {l:List SV}{Ts:List Ty}{cs:List Value},CRepL X l Ts cs→CRepL X' l Ts cs
 | [],[],cs,h=>by simpa only [CRepL] using h
 | s::l,T::Ts,cs,h=>by
  simp only [CRepL] at h ⊢
  obtain ⟨c1,c2,e,h0,h1,h2⟩:=h
  exact ⟨c1,c2,e,h0,CRep.extC x h1,CRepL.extC x h2⟩
 | [],_::_,_,h=>by simp only [CRepL] at h
 | _::_,[],_,h=>by simp only [CRepL] at h
theorem VRep.extC {X X':Ctx}(x:ExtC X X'):∀ {s:SV}{v:Value},VRep X s v→VRep X' s v
 | .un n,v,h=>by simp only [VRep]
 | .cv v',v,h=>by simpa only [VRep] using h
 | .d T a,v,h=>by
  simp only [VRep] at h ⊢
  obtain ⟨d,h1,h2⟩:=h
  refine ⟨d,At.get_ext x.E h1,?_⟩
  split
  ·rename_i c;rw [if_pos c] at h2;obtain ⟨cs,h3,h4⟩:=h2;exact ⟨cs,h3,h4.keepC x.K⟩
  ·rename_i c;rw [if_neg c] at h2;exact ⟨h2.1,h2.2.keepC x.K⟩
 | .ag T l,v,h=>by
  cases T<;>simp only [VRep] at h ⊢
  obtain ⟨cs,h1,h2⟩:=h
  exact ⟨cs,h1,CRepL.extC x h2⟩
 | .fn f fst caps,v,h=>by
  simp only [VRep] at h ⊢
  obtain ⟨us,vs,h1,h2,h3⟩:=h
  exact ⟨us,vs,h1,VRepL.extC x h2,VRepL.extC x h3⟩
 | .tu l,v,h=>by
  simp only [VRep] at h ⊢
  obtain ⟨vs,h1,h2⟩:=h
  exact ⟨vs,h1,VRepL.extC x h2⟩
 | .h e r vw,cs,h=>by simp only [VRep] at h ⊢;exact h.extC x
 | .hc e r i,cs,h=>by simp only [VRep] at h ⊢;exact h.extC x
 | .z e a,cs,h=>by simp only [VRep] at h ⊢;exact h.extC x
 | .p R T r q,cs,h=>by simp only [VRep] at h ⊢;exact h.extC x
 | .pd T a,cs,h=>by simp only [VRep] at h ⊢;exact h.extC x
 | .hb R e n r q,cs,h=>by simp only [VRep] at h ⊢;exact h.extC x
 | .hr e r i g,cs,h=>by simp only [VRep] at h ⊢;exact h.extC x
 | .pm e T r i q g,cs,h=>by simp only [VRep] at h ⊢;exact h.extC x
 | .mr K V r,cs,h=>by simp only [VRep] at h ⊢;exact h.extC x
theorem VRepL.extC {X X':Ctx}(x:ExtC X X'):∀ {l:List SV}{vs:List Value},VRepL X l vs→VRepL X' l vs
 | [],vs,h=>by simpa only [VRepL] using h
 | s::l,vs,h=>by
  simp only [VRepL] at h ⊢
  obtain ⟨v,r,e,h1,h2⟩:=h
  exact ⟨v,r,e,VRep.extC x h1,VRepL.extC x h2⟩
end
theorem HRep.ext {X X':Ctx}(x:Ext X X') {e:Ty}{r:Nat}{vw:Option (At×At)}{v:Value}(hA:X.A r) (ht:(X'.μ r).there=true) (h:HRep X e r vw v):HRep X' e r vw v:=h.extC x.c hA ht
theorem Ref.ext {X X':Ctx}(x:Ext X X') {s:SV}{v:Value}(h:Ref X s v):Ref X' s v:=h.extC x.c
theorem CRep.ext {X X':Ctx}(x:Ext X X') {s:SV}{cs:List Value}(h:CRep X s cs):CRep X' s cs:=CRep.extC x.c h
theorem CRepL.ext {X X':Ctx}(x:Ext X X') {l:List SV}{Ts:List Ty}{cs:List Value}(h:CRepL X l Ts cs):CRepL X' l Ts cs:=CRepL.extC x.c h
theorem VRep.ext {X X':Ctx}(x:Ext X X') {s:SV}{v:Value}(h:VRep X s v):VRep X' s v:=VRep.extC x.c h
theorem VRepL.ext {X X':Ctx}(x:Ext X X') {l:List SV}{vs:List Value}(h:VRepL X l vs):VRepL X' l vs:=VRepL.extC x.c h
def RowRep (X:Ctx) (r:Nat) (e:Ty) (a:At) (z:Prop):Prop :=
 ∃ d,a.get X.E=some d∧(((X.β r).main=none∧EmD d) ∨
  ∃ b c te fr l xs,(X.β r).main=some b∧d=.sl l∧X.w.heap[b]?=some (.cells c te fr)∧(z→fr=(0,0))∧DRepA X.w X.M e l xs∧c.toList.take xs.length=xs)
def RowCell (w:World) (M:Nat→Prop) (e:Ty) (o:Option Nat) (d:D) (v:Value):Prop :=
 (o=none∧Empt d v) ∨
 ∃ b l c te xs cap,o=some b∧d=.sl l∧w.heap[b]?=some (.cells c te (0,0))∧DRepA w M e l xs∧c.toList.take xs.length=xs ∧
  v=.slice (some ⟨b,0,none⟩) l.length cap∧l.length≤cap∧cap * e.size≤c.size
def RowCells (w:World) (M:Nat→Prop) (e:Ty):List (Option Nat)→List D→List Value→Prop
 | [],[],[]=>True
 | o::os,d::ds,v::vs=>RowCell w M e o d v∧RowCells w M e os ds vs
 | _,_,_=>False
def zvc (X:Ctx) (r:Nat) (e:Ty) (a:At):Prop :=
 ∃ d,a.get X.E=some d∧(((X.β r).main=none∧(X.β r).rows=[]∧d=.nil) ∨
  ∃ b c te l xs,(X.β r).main=some b∧d=.sl l∧X.w.heap[b]?=some (.cells c te (0,0))∧RowCells X.w X.M e (X.β r).rows l xs∧c.toList.take xs.length=xs)
def MVal (w:World) (M:Nat→Prop) (T:Ty) (d:D) (v:Value):Prop:=if T.isAgg then ∃ cs,v=.agg cs∧DRep w M T d cs.toList else One v∧DRep w M T d [v]
def MapEnts (w:World) (M:Nat→Prop) (K V:Ty):List D→List MapEntry→Prop
 | [],[]=>True
 | d::ds,e::es=>(∃ k v,d=.agg [k,v]∧MVal w M K k e.key∧MVal w M V v e.val)∧MapEnts w M K V ds es
 | _,_=>False
theorem MVal.keepC {w w':World}{M M':Nat→Prop}(K:zhg w w' M M') {T:Ty}{d:D}{v:Value}(h:MVal w M T d v):MVal w' M' T d v:=by
 unfold MVal at h ⊢
 split
 ·rename_i c;rw [if_pos c] at h;obtain ⟨cs,h1,h2⟩:=h;exact ⟨cs,h1,h2.keepC K⟩
 ·rename_i c;rw [if_neg c] at h;exact ⟨h.1,h.2.keepC K⟩
theorem MapEnts.keepC {w w':World}{M M':Nat→Prop}(K:zhg w w' M M') {k v:Ty}:∀ {ds:List D}{es:List MapEntry},MapEnts w M k v ds es→MapEnts w' M' k v ds es
 | [],[],_=>trivial
 | d::ds,e::es,h=>by
  obtain ⟨⟨a,b,h1,h2,h3⟩,h4⟩:=h
  exact ⟨⟨a,b,h1,h2.keepC K,h3.keepC K⟩,h4.keepC K⟩
 | [],_::_,h=>h.elim
 | _::_,[],h=>h.elim
theorem MVal.keep {w w':World}{M M':Nat→Prop}(K:Keeps w w' M M') {T:Ty}{d:D}{v:Value}(h:MVal w M T d v):MVal w' M' T d v:=h.keepC K.c
theorem MapEnts.keep {w w':World}{M M':Nat→Prop}(K:Keeps w w' M M') {k v:Ty}{ds:List D}{es:List MapEntry}(h:MapEnts w M k v ds es):MapEnts w' M' k v ds es:=MapEnts.keepC K.c h
def zvw (X:Ctx) (r:Nat) (K V:Ty) (a:At):Prop :=
 ∃ l b es clk,a.get X.E=some (.sl l)∧(X.β r).main=some b∧X.w.heap[b]?=some (.map es clk)∧MapEnts X.w X.M K V l es.toList
def RootRep (X:Ctx) (r:Nat):Root→Prop
 | .dead=>True
 | .box T v=>∃ b c te,(X.β r).main=some b∧X.w.heap[b]?=some (.cells c te (0,0))∧v.hasTy T∧CRep X v c.toList
 | .row e a=>RowRep X r e a True
 | .mat e a _=>zvc X r e a
 | .mp K V a=>zvw X r K V a
 | .fz e a=>RowRep X r e a False∧∀ b,(X.β r).main=some b→¬ X.M b
 | .lt e a _=>RowRep X r e a True
 | .bo e a=>RowRep X r e a False∧∀ b,(X.β r).main=some b→¬ X.M b∨∃ q e' a',X.A q∧X.μ q=.lt e' a' r∧(X.β q).main=some b
 | .ow e a ix r2=>∃ l b c te xs k i v2,a.get X.E=some (.sl l)∧(X.β r).main=some b∧X.w.heap[b]?=some (.cells c te (0,0))∧DRepA X.w X.M (.sl e) l xs∧ix.get X.E=some (.int k (Int.ofNat i))∧i<l.length∧c.toList.take xs.length=xs.set i v2∧Ref X (.h e r2 none) v2
structure Mem (B0:Nat) (X:Ctx):Prop where
 rep:∀ r,X.A r→RootRep X r (X.μ r)
 apart:∀ r r' b,X.A r→X.A r'→b∈(X.μ r).own (X.β r)→b∈(X.μ r').own (X.β r')→r=r'
 once:∀ r,X.A r→((X.μ r).own (X.β r)).Nodup
 low:∀ r b,X.A r→b∈(X.μ r).own (X.β r)→B0≤b
 frame:∀ b,X.F b→b<B0
end Go.SX
namespace Go.SX
theorem lt_of_heap {w:World}{b:Nat}{o:Obj}(h:w.heap[b]?=some o):b<w.heap.size:=(Array.getElem?_eq_some_iff.1 h).1
theorem cell_of_heap {w w':World}{a:Addr}(h:w'.heap[a.block]?=w.heap[a.block]?):w'.cell? a=w.cell? a:=by simp [World.cell?,h]
theorem zax {w w':World}{b:Nat}(h:w'.heap[b]?=w.heap[b]?):bsize w' b=bsize w b:=by simp [bsize,h]
structure RootSame (X X':Ctx) (r:Nat):Prop where
 there:(X.μ r).there=true
 row:∀ e a d,(X.μ r).row?=some (e,a)→a.get X.E=some d→∃ a' d',(X'.μ r).row?=some (e,a')∧a'.get X'.E=some d'∧sameLen d d'
 mat:∀ e a' g,X'.μ r=.mat e a' g→∃ a g0,X.μ r=.mat e a g0∧g0≤g∧(g0=g→(X'.β r).rows=(X.β r).rows∧∀ d,a.get X.E=some d→∃ d',a'.get X'.E=some d'∧sameRows d d')
theorem RootSame.refl {X X':Ctx}(hE:∀ (i:Nat) (d:D),X.E[i]?=some d→X'.E[i]?=some d) {r:Nat}(ht:(X'.μ r).there=true) (hμ:X'.μ r=X.μ r) (hβ:X'.β r=X.β r):RootSame X X' r where
 there:=hμ▸ht
 row:=fun e a d h hd=>⟨a,d,by rw [hμ];exact h,At.get_ext hE hd,sameLen.refl d⟩
 mat:=fun e a g h=>⟨a,g,by rw [← hμ];exact h,wG0 _,fun _=>⟨by rw [hβ],fun d hd=>⟨d,At.get_ext hE hd,sameRows.refl d⟩⟩⟩
theorem Ext.of {X X':Ctx}(hE:∀ (i:Nat) (d:D),X.E[i]?=some d→X'.E[i]?=some d) (hA:∀ r,X.A r→X'.A r)
  (hw:∀ b,b<X.w.heap.size→¬ X.M b→X'.w.heap[b]?=X.w.heap[b]?) (hM:∀ b,b<X.w.heap.size→X'.M b→X.M b)
  (hs:∀ b n,bsize X.w b=some n→bsize X'.w b=some n) (hm:∀ r,X.A r→(X'.β r).main=(X.β r).main) (hr:∀ r,X.A r→(X'.μ r).there=true→RootSame X X' r) (hF:X'.F=X.F):Ext X X' where
 E:=hE
 F:=hF
 K:=⟨hw,fun b hb hm h=>hm (hM b hb h)⟩
 A:=hA
 β:=fun r a=>⟨fun t=>(hr r a t).there,hm r a⟩
 row:=fun r e a d ha t h hd=>(hr r ha t).row e a d h hd
 mat:=fun r e a' g ha h=>by
  obtain ⟨a,g0,h0,_,q⟩:=(hr r ha (by rw [h];rfl)).mat e a' g h
  exact ⟨a,g0,h0,fun eg=>⟨(q eg).1,fun b n _ hn=>hs b n hn,(q eg).2⟩⟩
 gen:=fun r e a g e' a' g' ha h h'=>by
  obtain ⟨a0,g0,h0,hle,_⟩:=(hr r ha (by rw [h'];rfl)).mat e' a' g' h'
  rw [h] at h0
  injection h0 with _ _ eg
  omega
 size:=fun r b n _ _ _ hn=>hs b n hn
theorem RowCell.keepC {w w':World}{M M':Nat→Prop}(K:zhg w w' M M') {e:Ty}{o:Option Nat}{d:D}{v:Value}(hb:∀ b,o=some b→w'.heap[b]?=w.heap[b]?) (h:RowCell w M e o d v):RowCell w' M' e o d v:=by
 rcases h with h|⟨b,l,c,te,xs,cap,h1,h2,h3,h4,h5⟩
 ·exact .inl h
 ·exact .inr ⟨b,l,c,te,xs,cap,h1,h2,(hb b h1).trans h3,h4.keepC K,h5⟩
theorem RowCells.keepC {w w':World}{M M':Nat→Prop}(K:zhg w w' M M') {e:Ty}:∀ {os:List (Option Nat)}{ds:List D}{vs:List Value},(∀ b,some b∈os→w'.heap[b]?=w.heap[b]?)→RowCells w M e os ds vs→RowCells w' M' e os ds vs
 | [],[],[],_,h=>h
 | o::os,d::ds,v::vs,hb,h=>⟨h.1.keepC K (fun b e=>hb b (by simp [e])),RowCells.keepC K (fun b hm=>hb b (List.mem_cons_of_mem _ hm)) h.2⟩
 | [],[],_::_,_,h=>h
 | [],_::_,_,_,h=>h
 | _::_,[],_,_,h=>h
 | _::_,_::_,[],_,h=>h
theorem RowCell.keep {w w':World}{M M':Nat→Prop}(K:Keeps w w' M M') {e:Ty}{o:Option Nat}{d:D}{v:Value}(hb:∀ b,o=some b→w'.heap[b]?=w.heap[b]?) (h:RowCell w M e o d v):RowCell w' M' e o d v:=h.keepC K.c hb
theorem RowCells.keep {w w':World}{M M':Nat→Prop}(K:Keeps w w' M M') {e:Ty}{os:List (Option Nat)}{ds:List D}{vs:List Value}(hb:∀ b,some b∈os→w'.heap[b]?=w.heap[b]?) (h:RowCells w M e os ds vs):RowCells w' M' e os ds vs:=RowCells.keepC K.c hb h
structure zhe (X X':Ctx) (r:Nat):Prop where
 A:X.A r
 μ:X'.μ r=X.μ r
 β:X'.β r=X.β r
 own:∀ b,b∈(X.μ r).own (X.β r)→X'.w.heap[b]?=X.w.heap[b]?
 fz:∀ e a b,X.μ r=.fz e a→(X.β r).main=some b→X'.w.heap[b]?=X.w.heap[b]?∧¬ X'.M b
 bo:∀ e a b,X.μ r=.bo e a→(X.β r).main=some b→X'.w.heap[b]?=X.w.heap[b]?∧(¬ X'.M b∨∃ q e' a',X'.A q∧X'.μ q=.lt e' a' r∧(X'.β q).main=some b)
theorem zaW {l:List (Option Nat)}{b:Nat}:b∈opts l↔some b∈l:=by
 induction l with
 | nil=>simp [opts]
 | cons o l ih=>cases o<;>simp [opts,ih]
theorem RowRep.keepC {X X':Ctx}(x:ExtC X X') {r:Nat}{e:Ty}{a:At}{z:Prop}(hβ:(X'.β r).main=(X.β r).main) (hm:∀ b,(X.β r).main=some b→X'.w.heap[b]?=X.w.heap[b]?) (h:RowRep X r e a z):RowRep X' r e a z:=by
 obtain ⟨d,h1,h2⟩:=h
 refine ⟨d,At.get_ext x.E h1,?_⟩
 rcases h2 with ⟨p1,p2⟩|⟨b,c,te,fr,l,xs,p1,p2,p3,p4,p5,p6⟩
 ·exact .inl ⟨hβ.trans p1,p2⟩
 ·exact .inr ⟨b,c,te,fr,l,xs,hβ.trans p1,p2,(hm b p1).trans p3,p4,p5.keepC x.K,p6⟩
theorem RootRep.keepC {X X':Ctx}(x:ExtC X X') {r:Nat}(u:zhe X X' r) (h:RootRep X r (X.μ r)):RootRep X' r (X.μ r):=by
 have hβ:=congrArg Pl.main u.β
 have hown:=u.own
 cases hR:X.μ r with
 | dead=>trivial
 | box T v =>
  rw [hR] at h hown
  obtain ⟨b,c,te,h1,h2,h3,h4⟩:=h
  exact ⟨b,c,te,hβ.trans h1,(hown b (by simp [Root.own,h1])).trans h2,h3,CRep.extC x h4⟩
 | row e a =>
  rw [hR] at h hown
  exact RowRep.keepC x hβ (fun b hb=>hown b (by simp [Root.own,hb])) h
 | fz e a =>
  rw [hR] at h
  exact ⟨RowRep.keepC x hβ (fun b hb=>(u.fz e a b hR hb).1) h.1,fun b hb=>(u.fz e a b hR (hβ▸hb)).2⟩
 | ow e a ix r2 =>
  rw [hR] at h hown
  obtain ⟨l,b,c,te,xs,k,i,v2,h1,h2,h3,h4,h5,h6,h7,h8⟩:=h
  exact ⟨l,b,c,te,xs,k,i,v2,At.get_ext x.E h1,hβ.trans h2,(hown b (by simp [Root.own,h2])).trans h3,h4.keepC x.K,At.get_ext x.E h5,h6,h7,Ref.extC x h8⟩
 | lt e a q =>
  rw [hR] at h hown
  exact RowRep.keepC x hβ (fun b hb=>hown b (by simp [Root.own,hb])) h
 | bo e a =>
  rw [hR] at h
  exact ⟨RowRep.keepC x hβ (fun b hb=>(u.bo e a b hR hb).1) h.1,fun b hb=>(u.bo e a b hR (hβ▸hb)).2⟩
 | mat e a g =>
  rw [hR] at h hown
  obtain ⟨d,h1,h2⟩:=h
  refine ⟨d,At.get_ext x.E h1,?_⟩
  rcases h2 with ⟨p1,p2,p3⟩|⟨b,c,te,l,xs,p1,p2,p3,p4,p5⟩
  ·exact .inl ⟨hβ.trans p1,by rw [u.β];exact p2,p3⟩
  ·exact .inr ⟨b,c,te,l,xs,hβ.trans p1,p2,(hown b (by simp [Root.own,p1])).trans p3,by rw [u.β];exact p4.keepC x.K (fun b hb=>hown b (by simp [Root.own,zaW,hb])),p5⟩
 | mp K V a =>
  rw [hR] at h hown
  obtain ⟨l,b,es,clk,h1,h2,h3,h4⟩:=h
  exact ⟨l,b,es,clk,At.get_ext x.E h1,hβ.trans h2,(hown b (by simp [Root.own,h2])).trans h3,h4.keepC x.K⟩
theorem Mem.ofC {B0:Nat}{X X':Ctx}(x:ExtC X X') (m:Mem B0 X) (hr:∀ r,X'.A r→zhe X X' r∨RootRep X' r (X'.μ r))
  (ha:∀ r r' b,X'.A r→X'.A r'→b∈(X'.μ r).own (X'.β r)→b∈(X'.μ r').own (X'.β r')→r=r')
  (ho:∀ r,X'.A r→((X'.μ r).own (X'.β r)).Nodup) (hl:∀ r b,X'.A r→b∈(X'.μ r).own (X'.β r)→B0≤b):Mem B0 X' where
 frame:=fun b h=>m.frame b (x.F▸h)
 rep:=fun r h=>by
  rcases hr r h with u|h'
  ·rw [u.μ];exact RootRep.keepC x u (m.rep r u.A)
  ·exact h'
 apart:=ha
 once:=ho
 low:=hl
theorem RowRep.keep {X X':Ctx}(x:Ext X X') {r:Nat}{e:Ty}{a:At}{z:Prop}(hβ:(X'.β r).main=(X.β r).main) (hm:∀ b,(X.β r).main=some b→X'.w.heap[b]?=X.w.heap[b]?) (h:RowRep X r e a z):RowRep X' r e a z:=h.keepC x.c hβ hm
theorem RootRep.keep {X X':Ctx}(x:Ext X X') {r:Nat}(u:zhe X X' r) (h:RootRep X r (X.μ r)):RootRep X' r (X.μ r):=RootRep.keepC x.c u h
theorem Mem.of {B0:Nat}{X X':Ctx}(x:Ext X X') (m:Mem B0 X) (hr:∀ r,X'.A r→zhe X X' r∨RootRep X' r (X'.μ r))
  (ha:∀ r r' b,X'.A r→X'.A r'→b∈(X'.μ r).own (X'.β r)→b∈(X'.μ r').own (X'.β r')→r=r')
  (ho:∀ r,X'.A r→((X'.μ r).own (X'.β r)).Nodup) (hl:∀ r b,X'.A r→b∈(X'.μ r).own (X'.β r)→B0≤b):Mem B0 X':=Mem.ofC x.c m hr ha ho hl
def Held (o:Obj):Prop:=(∃ c te fr,o=.cells c te fr)∨∃ es clk,o=.map es clk
theorem RowCells.held {w:World}{M:Nat→Prop}{e:Ty}:∀ {os:List (Option Nat)}{ds:List D}{vs:List Value}{b:Nat},RowCells w M e os ds vs→some b∈os→∃ o,w.heap[b]?=some o∧Held o
 | [],_,_,_,_,h=>by simp at h
 | o::os,d::ds,v::vs,b,h,hm=>by
  rcases List.mem_cons.1 hm with e|hm
  ·subst e
   rcases h.1 with ⟨h1,_⟩|⟨b',l,c,te,xs,cap,h1,h2,h3,_⟩
   ·cases h1
   ·injection h1 with h1;subst h1;exact ⟨_,h3,.inl ⟨_,_,_,rfl⟩⟩
  ·exact RowCells.held h.2 hm
 | _::_,[],_,_,h,_=>h.elim
 | _::_,_::_,[],_,h,_=>h.elim
theorem RowCells.get {w:World}{M:Nat→Prop}{e:Ty}:∀ {os:List (Option Nat)}{ds:List D}{vs:List Value}{i:Nat}{d:D}{o:Option Nat},RowCells w M e os ds vs→ds[i]?=some d→os[i]?=some o→∃ v,vs[i]?=some v∧RowCell w M e o d v
 | o::os,d::ds,v::vs,0,d',o',h,h1,h2=>by
  simp at h1 h2
  subst h1 h2
  exact ⟨v,rfl,h.1⟩
 | o::os,d::ds,v::vs,i + 1,d',o',h,h1,h2=>by
  simp at h1 h2
  obtain ⟨u,h3,h4⟩:=RowCells.get h.2 h1 h2
  exact ⟨u,by simpa using h3,h4⟩
 | [],_,_,_,_,_,_,_,h2=>by simp at h2
 | _::_,[],_,_,_,_,_,h1,_=>by simp at h1
 | _::_,_::_,[],_,_,_,h,_,_=>h.elim
theorem Mem.held {B0:Nat}{X:Ctx}(m:Mem B0 X) {r b:Nat}(hA:X.A r) (hb:b∈(X.μ r).own (X.β r)):∃ o,X.w.heap[b]?=some o∧Held o:=by
 have h:=m.rep r hA
 cases hR:X.μ r with
 | dead=>simp [hR,Root.own] at hb
 | fz e a=>simp [hR,Root.own] at hb
 | box T v =>
  rw [hR] at h hb
  obtain ⟨b',c,te,h1,h2,_⟩:=h
  simp [Root.own,h1] at hb
  subst hb
  exact ⟨_,h2,.inl ⟨_,_,_,rfl⟩⟩
 | row e a =>
  rw [hR] at h hb
  obtain ⟨d,h1,h2⟩:=h
  rcases h2 with ⟨p1,p2⟩|⟨b',c,te,fr,l,xs,p1,p2,p3,_⟩
  ·simp [Root.own,p1] at hb
  ·simp [Root.own,p1] at hb
   subst hb
   exact ⟨_,p3,.inl ⟨_,_,_,rfl⟩⟩
 | bo e a=>simp [hR,Root.own] at hb
 | ow e a ix r2 =>
  rw [hR] at h hb
  obtain ⟨l,b',c,te,xs,k,i,v2,h1,h2,h3,_⟩:=h
  simp [Root.own,h2] at hb
  subst hb
  exact ⟨_,h3,.inl ⟨_,_,_,rfl⟩⟩
 | lt e a q =>
  rw [hR] at h hb
  obtain ⟨d,h1,h2⟩:=h
  rcases h2 with ⟨p1,p2⟩|⟨b',c,te,fr,l,xs,p1,p2,p3,_⟩
  ·simp [Root.own,p1] at hb
  ·simp [Root.own,p1] at hb
   subst hb
   exact ⟨_,p3,.inl ⟨_,_,_,rfl⟩⟩
 | mat e a g =>
  rw [hR] at h hb
  obtain ⟨d,h1,h2⟩:=h
  rcases h2 with ⟨p1,p2,p3⟩|⟨b',c,te,l,xs,p1,p2,p3,p4,p5⟩
  ·simp [Root.own,p1,p2,opts] at hb
  ·simp only [Root.own,p1,Option.toList,List.mem_append,List.mem_singleton,zaW] at hb
   rcases hb with hb|hb
   ·subst hb;exact ⟨_,p3,.inl ⟨_,_,_,rfl⟩⟩
   ·exact p4.held hb
 | mp K V a =>
  rw [hR] at h hb
  obtain ⟨l,b',es,clk,h1,h2,h3,h4⟩:=h
  simp [Root.own,h2] at hb
  subst hb
  exact ⟨_,h3,.inr ⟨_,_,rfl⟩⟩
theorem Mem.lt {B0:Nat}{X:Ctx}(m:Mem B0 X) {r b:Nat}(hA:X.A r) (hb:b∈(X.μ r).own (X.β r)):b<X.w.heap.size:=let ⟨_,h,_⟩:=m.held hA hb;lt_of_heap h
theorem Mem.lt' {B0:Nat}{X:Ctx}(m:Mem B0 X) (hB:B0≤X.w.heap.size) {b:Nat}(hb:X.M b):b<X.w.heap.size:=by
 rcases hb with h|⟨r,hA,h⟩
 ·have:=m.frame b h
  omega
 exact m.lt hA h
theorem zpb {X:Ctx}{r:Nat}{R:Root}(hR:X.μ r=R) (h:R.noLt=true) {S:Nat→Prop}:∀ q,q=r→X.A q→∀ e a r',X.μ q=.lt e a r'→S r':=fun q hq _ e a r' hl=>by
 rw [hq,hR] at hl
 rw [hl] at h
 cases h
theorem Mem.change {B0:Nat}{X X':Ctx}(m:Mem B0 X) (hB:B0≤X.w.heap.size) (S:Nat→Prop)
  (hE:∀ (i:Nat) (d:D),X.E[i]?=some d→X'.E[i]?=some d) (hA:∀ r,X.A r→X'.A r) (hA':∀ r,X'.A r→X.A r∨S r)
  (hμ:∀ r,¬ S r→X'.μ r=X.μ r∧X'.β r=X.β r)
  (hw:∀ b,b<X.w.heap.size→(∀ s,S s→X.A s→b∉(X.μ s).own (X.β s))→X'.w.heap[b]?=X.w.heap[b]?)
  (hs:∀ b n,bsize X.w b=some n→bsize X'.w b=some n)
  (hown:∀ r b,S r→X'.A r→b∈(X'.μ r).own (X'.β r)→X.w.heap.size≤b∨∃ s,S s∧X.A s∧b∈(X.μ s).own (X.β s))
  (hap:∀ r r' b,S r→S r'→X'.A r→X'.A r'→b∈(X'.μ r).own (X'.β r)→b∈(X'.μ r').own (X'.β r')→r=r')
  (hon:∀ r,S r→X'.A r→((X'.μ r).own (X'.β r)).Nodup)
  (hmain:∀ r,S r→X.A r→(X'.β r).main=(X.β r).main) (hsame:∀ r,S r→X.A r→(X'.μ r).there=true→RootSame X X' r)
  (hrep:Ext X X'→∀ r,S r→X'.A r→RootRep X' r (X'.μ r)) (hF:X'.F=X.F:=by rfl)
  (hlt:∀ q,S q→X.A q→∀ e a r,X.μ q=.lt e a r→S r:=by intro q hq _ e a r h;first|exact hq.elim|(subst hq;simp_all;done)|(rcases hq with rfl|rfl<;>simp_all;done)):Ext X X'∧Mem B0 X':=by
 have x:Ext X X':=by
  refine Ext.of hE hA (fun b hb hm=>hw b hb fun s hs ha h=>hm (.inr ⟨s,ha,h⟩)) (fun b hb hM=>?_) hs (fun r ha=>?_) (fun r ha ht=>?_) hF
  ·rcases hM with h|⟨r,ha,h⟩
   ·exact .inl (hF▸h)
   ·by_cases hS:S r
    ·rcases hown r b hS ha h with h1|⟨s,_,hA,h2⟩
     ·omega
     ·exact .inr ⟨s,hA,h2⟩
    ·obtain ⟨e1,e2⟩:=hμ r hS
     exact .inr ⟨r,(hA' r ha).resolve_right hS,by rw [e1,e2] at h;exact h⟩
  ·by_cases hS:S r
   ·exact hmain r hS ha
   ·rw [(hμ r hS).2]
  ·by_cases hS:S r
   ·exact hsame r hS ha ht
   ·exact RootSame.refl hE ht (hμ r hS).1 (hμ r hS).2
 have old:∀ r b,¬ S r→X'.A r→b∈(X'.μ r).own (X'.β r)→X.A r∧b∈(X.μ r).own (X.β r):=fun r b hS ha h=>by
  obtain ⟨e1,e2⟩:=hμ r hS
  rw [e1,e2] at h
  exact ⟨(hA' r ha).resolve_right hS,h⟩
 have cross:∀ r r' b,S r→¬ S r'→X'.A r→X'.A r'→b∈(X'.μ r).own (X'.β r)→b∈(X'.μ r').own (X'.β r')→False:=fun r r' b hS hS' ha ha' h h'=>by
  obtain ⟨hA2,h2⟩:=old r' b hS' ha' h'
  rcases hown r b hS ha h with h1|⟨s,hs1,hs2,hs3⟩
  ·have:=m.lt hA2 h2
   omega
  ·have:=m.apart s r' b hs2 hA2 hs3 h2
   subst this
   exact hS' hs1
 refine ⟨x,Mem.of x m (fun r ha=>?_) (fun r r' b ha ha' h h'=>?_) (fun r ha=>?_) (fun r b ha h=>?_)⟩
 ·by_cases hS:S r
  ·exact .inr (hrep x r hS ha)
  ·obtain ⟨e1,e2⟩:=hμ r hS
   have hA1:=(hA' r ha).resolve_right hS
   have free:∀ b,b<X.w.heap.size→¬ X.M b→X'.w.heap[b]?=X.w.heap[b]?∧¬ X'.M b:=fun b hlt hnm=>by
    refine ⟨hw b hlt fun s hs1 hs2 hs3=>hnm (.inr ⟨s,hs2,hs3⟩),fun hMb=>?_⟩
    rcases hMb with hf|⟨q,hq1,hq2⟩
    ·exact hnm (.inl (hF▸hf))
    by_cases hSq:S q
    ·rcases hown q b hSq hq1 hq2 with h3|⟨s,hs1,hs2,hs3⟩
     ·omega
     ·exact hnm (.inr ⟨s,hs2,hs3⟩)
    ·obtain ⟨hA2,h3⟩:=old q b hSq hq1 hq2
     exact hnm (.inr ⟨q,hA2,h3⟩)
   have inheap:∀ {e:Ty} {a:At} {z:Prop} {b:Nat},RowRep X r e a z→(X.β r).main=some b→b<X.w.heap.size:=fun hr hb=>by
    obtain ⟨d,h1,h2⟩:=hr
    rcases h2 with ⟨p1,p2⟩|⟨b',c,te,fr,l,xs,p1,p2,p3,_⟩
    ·rw [p1] at hb;cases hb
    ·rw [p1] at hb;injection hb with hb;subst hb;exact lt_of_heap p3
   refine .inl ⟨hA1,e1,e2,fun b hb=>hw b (m.lt hA1 hb) fun s hs1 hs2 hs3=>?_,fun e a b hR hb=>?_,fun e a b hR hb=>?_⟩
   ·have:=m.apart s r b hs2 hA1 hs3 hb
    subst this
    exact hS hs1
   ·have hr:=m.rep r hA1
    rw [hR] at hr
    exact free b (inheap hr.1 hb) (hr.2 b hb)
   ·have hr:=m.rep r hA1
    rw [hR] at hr
    rcases hr.2 b hb with hnm|⟨q,e',a',hq1,hq2,hq3⟩
    ·obtain ⟨f1,f2⟩:=free b (inheap hr.1 hb) hnm
     exact ⟨f1,.inl f2⟩
    ·have hqS:¬ S q:=fun h=>hS (hlt q h hq1 _ _ _ hq2)
     obtain ⟨g1,g2⟩:=hμ q hqS
     have hbo:b∈(X.μ q).own (X.β q):=by rw [hq2];simp [Root.own,hq3]
     refine ⟨hw b (m.lt hq1 hbo) fun s hs1 hs2 hs3=>?_,.inr ⟨q,e',a',hA q hq1,by rw [g1];exact hq2,by rw [g2];exact hq3⟩⟩
     have:=m.apart s q b hs2 hq1 hs3 hbo
     subst this
     exact hqS hs1
 ·by_cases hS:S r<;>by_cases hS':S r'
  ·exact hap r r' b hS hS' ha ha' h h'
  ·exact (cross r r' b hS hS' ha ha' h h').elim
  ·exact (cross r' r b hS' hS ha' ha h' h).elim
  ·obtain ⟨a1,h1⟩:=old r b hS ha h
   obtain ⟨a2,h2⟩:=old r' b hS' ha' h'
   exact m.apart r r' b a1 a2 h1 h2
 ·by_cases hS:S r
  ·exact hon r hS ha
  ·obtain ⟨e1,e2⟩:=hμ r hS
   rw [e1,e2]
   exact m.once r ((hA' r ha).resolve_right hS)
 ·by_cases hS:S r
  ·rcases hown r b hS ha h with h1|⟨s,hs1,hs2,hs3⟩
   ·omega
   ·exact m.low s b hs2 hs3
  ·obtain ⟨a1,h1⟩:=old r b hS ha h
   exact m.low r b a1 h1
structure Turned (w w':World) (l:Nat):Prop where
 old:∃ o,w.heap[l]?=some o∧¬ Held o
 new:∃ o,w'.heap[l]?=some o∧¬ Held o
 other:∀ b,b≠l→w'.heap[b]?=w.heap[b]?
 size:w'.heap.size=w.heap.size
theorem Turned.cell {w w':World}{l:Nat}(t:Turned w w' l) (a:Addr):w'.cell? a=w.cell? a:=by
 by_cases e:a.block=l
 ·obtain ⟨o,h,ho⟩:=t.old
  obtain ⟨o',h',ho'⟩:=t.new
  simp only [World.cell?,e,h,h']
  cases o<;>cases o'<;>first|rfl|exact absurd (.inl ⟨_,_,_,rfl⟩) ho|exact absurd (.inl ⟨_,_,_,rfl⟩) ho'
 ·exact cell_of_heap (t.other _ e)
theorem Turned.bsize {w w':World}{l:Nat}(t:Turned w w' l) (b:Nat):bsize w' b=bsize w b:=by
 by_cases e:b=l
 ·obtain ⟨o,h,ho⟩:=t.old
  obtain ⟨o',h',ho'⟩:=t.new
  simp only [SX.bsize,e,h,h']
  cases o<;>cases o'<;>first|rfl|exact absurd (.inl ⟨_,_,_,rfl⟩) ho|exact absurd (.inl ⟨_,_,_,rfl⟩) ho'
 ·exact zax (t.other _ e)
theorem Mem.turn {B0:Nat}{X:Ctx}(m:Mem B0 X) {l:Nat}{w':World}(t:Turned X.w w' l):ExtC X { X with w:=w' }∧Mem B0 { X with w:=w' }:=by
 have x:ExtC X { X with w:=w' } :=
  {E:=fun _ _ h=>h
   K:=⟨fun a v hv _=>(t.cell a).trans hv,fun _ _ _ h=>h⟩
   F:=rfl
   A:=fun _ h=>h
   β:=fun _ _=>⟨fun h=>h,rfl⟩
   row:=fun _ _ a d _ _ h hd=>⟨a,d,h,hd,sameLen.refl d⟩
   mat:=fun _ _ a g _ h1=>⟨a,g,h1,fun _=>⟨rfl,fun b n _ hn=>(t.bsize b).trans hn,fun d h=>⟨d,h,sameRows.refl d⟩⟩⟩
   gen:=fun _ _ _ _ _ _ _ _ h h'=>by rw [h] at h';injection h' with _ _ e;omega
   size:=fun _ b _ _ _ _ hn=>(t.bsize b).trans hn }
 have ne:∀ b o1,X.w.heap[b]?=some o1→Held o1→w'.heap[b]?=X.w.heap[b]?:=fun b o1 h1 h2=>t.other b fun e=>by
  obtain ⟨o,h,ho⟩:=t.old
  subst e
  rw [h] at h1
  injection h1 with h1
  subst h1
  exact ho h2
 refine ⟨x,Mem.ofC x m (fun r hA=>.inl ⟨hA,rfl,rfl,fun b hb=>?_,fun e a b hR hb=>?_,fun e a b hR hb=>?_⟩) (fun r r' b=>m.apart r r' b) (fun r=>m.once r) (fun r b=>m.low r b)⟩
 ·obtain ⟨o1,h1,h2⟩:=m.held hA hb
  exact ne b o1 h1 h2
 ·have hr:=m.rep r hA
  rw [hR] at hr
  obtain ⟨⟨d,_,q⟩,hM⟩:=hr
  rcases q with ⟨q,_⟩|⟨b',c,te,fr,l',xs,q1,_,q2,_⟩
  ·rw [q] at hb;cases hb
  ·rw [q1] at hb
   injection hb with hb
   subst hb
   exact ⟨ne _ _ q2 (.inl ⟨_,_,_,rfl⟩),hM _ q1⟩
 ·have hr:=m.rep r hA
  rw [hR] at hr
  obtain ⟨⟨d,_,q⟩,hM⟩:=hr
  rcases q with ⟨q,_⟩|⟨b',c,te,fr,l',xs,q1,_,q2,_⟩
  ·rw [q] at hb;cases hb
  ·rw [q1] at hb
   injection hb with hb
   subst hb
   exact ⟨ne _ _ q2 (.inl ⟨_,_,_,rfl⟩),hM _ q1⟩
theorem Ext.turned {Xe X:Ctx}{B0 l:Nat}{w':World}(x:Ext Xe X) (m:Mem B0 X) (t:Turned X.w w' l) (hl:Xe.w.heap.size≤l):Ext Xe { X with w:=w' } :=
 .mk' (x.c.trans (m.turn t).1) ⟨fun b hb hm=>(t.other b (by omega)).trans (x.K.heap b hb hm),fun b hb hm=>x.K.less b hb hm⟩
end Go.SX
namespace Go.SX
def Run {α:Type}(x:X α) (μ:Nat→Root) (s:SS) (a:α) (s':SS):Prop:=∃ foot,x.run μ s=some (a,s',foot)
theorem X.run_bind {α β:Type}(μ:Nat→Root) (f:α→X β):∀ (x:X α) (s:SS),(x.bind f).run μ s=match x.run μ s with
  | none=>none
  | some (a,s',l)=>match (f a).run μ s' with
   | none=>none
   | some (b,s'',l')=>some (b,s'',l++l')
 | .pure a,s=>by
  simp only [X.bind,X.run]
  cases (f a).run μ s with
  | none=>rfl
  | some p=>rfl
 | .fail n,s=>rfl
 | .root r k,s=>by
  simp only [X.bind,X.run]
  cases h:zeQ r s.up with
  | some R=>simp only [X.run_bind μ f (k R) s]
  | none =>
   simp only [X.run_bind μ f (k (μ r)) s]
   cases h2:(k (μ r)).run μ s with
   | none=>rfl
   | some p =>
    obtain ⟨a,s',l⟩:=p
    simp only
    cases (f a).run μ s' with
    | none=>rfl
    | some q=>rfl
 | .put r R k,s=>by simp only [X.bind,X.run];exact X.run_bind μ f k _
 | .new R k,s=>by simp only [X.bind,X.run];exact X.run_bind μ f (k s.ab) _
 | .bd b k,s=>by simp only [X.bind,X.run];exact X.run_bind μ f (k s.nv) _
 | .at_ k,s=>by simp only [X.bind,X.run];exact X.run_bind μ f (k s.nv s.ab) _
section
variable {α β:Type} {μ:Nat→Root} {s s':SS}
theorem Run.bind {x:X α}{f:α→X β}{b:β}(h:Run (x >>= f) μ s b s'):∃ a s1,Run x μ s a s1∧Run (f a) μ s1 b s':=by
 obtain ⟨l,h⟩:=h
 have h':(x.bind f).run μ s=some (b,s',l):=h
 rw [X.run_bind] at h'
 cases hx:x.run μ s with
 | none=>simp [hx] at h'
 | some p =>
  obtain ⟨a,s1,l1⟩:=p
  simp only [hx] at h'
  cases hf:(f a).run μ s1 with
  | none=>simp [hf] at h'
  | some q =>
   obtain ⟨b',s2,l2⟩:=q
   simp only [hf] at h'
   injection h' with h'
   injection h' with e1 e2
   injection e2 with e2 e3
   subst e1 e2
   exact ⟨a,s1,⟨l1,hx⟩,l2,hf⟩
theorem Run.pure {a b:α}(h:Run (X.pure a) μ s b s'):b=a∧s'=s:=by
 obtain ⟨l,h⟩:=h
 simp only [X.run] at h
 injection h with h
 injection h with e1 e2
 injection e2 with e2 e3
 exact ⟨e1.symm,e2.symm⟩
theorem Run.fail {n:Nat}{b:α}(h:Run (X.fail n) μ s b s'):False:=by
 obtain ⟨l,h⟩:=h
 simp [X.run] at h
def now (μ:Nat→Root) (up:List (Nat×Root)) (r:Nat):Root:=(zeQ r up).getD (μ r)
theorem Run.root {r:Nat}{R:Root}(h:Run (X.getRoot r) μ s R s'):R=now μ s.up r∧s'=s:=by
 obtain ⟨l,h⟩:=h
 simp only [X.getRoot,X.run] at h
 unfold now
 cases hu:zeQ r s.up with
 | some R' =>
  simp only [hu] at h
  injection h with h
  injection h with e1 e2
  injection e2 with e2 e3
  exact ⟨e1.symm,e2.symm⟩
 | none =>
  simp only [hu] at h
  injection h with h
  injection h with e1 e2
  injection e2 with e2 e3
  exact ⟨e1.symm,e2.symm⟩
theorem Run.put {r:Nat}{R:Root}{u:Unit}(h:Run (X.putRoot r R) μ s u s'):s'={ s with up:=(r,R)::s.up }:=by
 obtain ⟨l,h⟩:=h
 simp only [X.putRoot,X.run] at h
 injection h with h
 injection h with e1 e2
 injection e2 with e2 e3
 exact e2.symm
theorem Run.new {R:Root}{n:Nat}(h:Run (X.newRoot R) μ s n s'):n=s.ab∧s'={ s with up:=(s.ab,R)::s.up,ab:=s.ab + 1 }:=by
 obtain ⟨l,h⟩:=h
 simp only [X.newRoot,X.run] at h
 injection h with h
 injection h with e1 e2
 injection e2 with e2 e3
 exact ⟨e1.symm,e2.symm⟩
theorem Run.prim {p:Prim}{as:List At}{a:At}(h:Run (X.prim p as) μ s a s'):a=.v s.nv∧s'={ s with bs:=.prim p as::s.bs,nv:=s.nv + 1 }:=by
 obtain ⟨l,h⟩:=h
 simp only [X.prim,X.run,Bd.outs] at h
 injection h with h
 injection h with e1 e2
 injection e2 with e2 e3
 exact ⟨e1.symm,e2.symm⟩
theorem Run.call {f:FuncId}{as:List At}{m n:Nat}(h:Run (X.call f as m) μ s n s'):n=s.nv∧s'={ s with bs:=.call f as m::s.bs,nv:=s.nv + m }:=by
 obtain ⟨l,h⟩:=h
 simp only [X.call,X.run,Bd.outs] at h
 injection h with h
 injection h with e1 e2
 injection e2 with e2 e3
 exact ⟨e1.symm,e2.symm⟩
theorem Run.sub {t:Tree}{m:Nat}{u:Unit}(h:Run (X.sub t m) μ s u s'):s'={ s with bs:=.sub t m::s.bs,nv:=s.nv + m }:=by
 obtain ⟨l,h⟩:=h
 simp only [X.sub,X.run,Bd.outs] at h
 injection h with h
 injection h with e1 e2
 injection e2 with e2 e3
 exact e2.symm
theorem Run.nvab {p:Nat×Nat}(h:Run X.nvab μ s p s'):p=(s.nv,s.ab)∧s'=s:=by
 obtain ⟨l,h⟩:=h
 simp only [X.nvab,X.run] at h
 injection h with h
 injection h with e1 e2
 injection e2 with e2 e3
 exact ⟨e1.symm,e2.symm⟩
theorem Run.guard {n:Nat}{b:Bool}{u:Unit}(h:Run (X.guard n b) μ s u s'):b=true∧s'=s:=by
 unfold X.guard at h
 cases b with
 | true=>exact ⟨rfl,(Run.pure h).2⟩
 | false=>exact (Run.fail h).elim
theorem Run.of {n:Nat}{o:Option α}{a:α}(h:Run (X.of n o) μ s a s'):o=some a∧s'=s:=by
 cases o with
 | none=>exact (Run.fail h).elim
 | some b=>obtain ⟨e1,e2⟩:=Run.pure h;exact ⟨by rw [e1],e2⟩
end
section
variable (C:FuncId→List D→Option (List D)) (k:Nat)
def SatB (E:List D) (n:Nat):Bd→Prop
 | .prim p as=>∃ vs d,gets E as=some vs∧p.run vs=some d∧E[n]?=some d
 | .call f as m=>∃ vs ds,gets E as=some vs∧C f vs=some ds∧ds.length=m∧∀ (j:Nat) (d:D),ds[j]?=some d→E[n + j]?=some d
 | .sub t m=>∃ bk vs,n≤E.length∧ev C k t (E.take n)=some (.jmp 0 bk vs)∧vs.length=m∧∀ (j:Nat) (d:D),vs[j]?=some d→E[n + j]?=some d
def Sat (E:List D):List Bd→Nat→Prop
 | [],_=>True
 | b::l,nv=>∃ n,nv=n + b.outs∧SatB C k E n b∧Sat E l n
end
theorem X.run_mono {α:Type}(μ:Nat→Root):∀ (x:X α) (s:SS) {a:α}{s':SS}{l:List Nat},x.run μ s=some (a,s',l) →
  (∀ C k E,Sat C k E s'.bs s'.nv→Sat C k E s.bs s.nv)∧s.ab≤s'.ab∧s.nv≤s'.nv
 | .pure a,s,_,s',l,h=>by
  simp only [X.run] at h
  injection h with h
  injection h with e1 e2
  injection e2 with e2 e3
  subst e2
  exact ⟨fun _ _ _ h=>h,wG0 _,wG0 _⟩
 | .fail n,s,_,s',l,h=>by simp [X.run] at h
 | .root r k,s,a,s',l,h=>by
  simp only [X.run] at h
  cases hu:zeQ r s.up with
  | some R=>simp only [hu] at h;exact X.run_mono μ (k R) s h
  | none =>
   simp only [hu] at h
   cases h2:(k (μ r)).run μ s with
   | none=>simp [h2] at h
   | some p =>
    obtain ⟨a',s1,l1⟩:=p
    simp only [h2] at h
    injection h with h
    injection h with e1 e2
    injection e2 with e2 e3
    subst e1 e2
    exact X.run_mono μ (k (μ r)) s h2
 | .put r R k,s,a,s',l,h=>by
  simp only [X.run] at h
  obtain ⟨h1,h2,h3⟩:=X.run_mono μ k { s with up:=(r,R)::s.up } h
  exact ⟨h1,h2,h3⟩
 | .new R k,s,a,s',l,h=>by
  simp only [X.run] at h
  obtain ⟨h1,h2,h3⟩:=X.run_mono μ (k s.ab) { s with up:=(s.ab,R)::s.up,ab:=s.ab + 1 } h
  have h2':s.ab + 1≤s'.ab:=h2
  exact ⟨h1,by omega,h3⟩
 | .bd b k,s,a,s',l,h=>by
  simp only [X.run] at h
  obtain ⟨h1,h2,h3⟩:=X.run_mono μ (k s.nv) { s with bs:=b::s.bs,nv:=s.nv + b.outs } h
  have h3':s.nv + b.outs≤s'.nv:=h3
  refine ⟨fun C c E hs=>?_,h2,by omega⟩
  obtain ⟨n,e,_,h4⟩:=h1 C c E hs
  have e':s.nv + b.outs=n + b.outs:=e
  have:n=s.nv:=by omega
  subst this
  exact h4
 | .at_ k,s,a,s',l,h=>by
  simp only [X.run] at h
  exact X.run_mono μ (k s.nv s.ab) _ h
theorem Run.sat {α:Type}{μ:Nat→Root}{x:X α}{s s':SS}{a:α}(h:Run x μ s a s') {C:FuncId→List D→Option (List D)}{k:Nat}{E:List D}(hs:Sat C k E s'.bs s'.nv):Sat C k E s.bs s.nv:=by
 obtain ⟨l,h⟩:=h
 exact (X.run_mono μ x s h).1 C k E hs
theorem Run.ab {α:Type}{μ:Nat→Root}{x:X α}{s s':SS}{a:α}(h:Run x μ s a s'):s.ab≤s'.ab:=by
 obtain ⟨l,h⟩:=h
 exact (X.run_mono μ x s h).2.1
theorem X.run_local {α:Type}(μ μ':Nat→Root):∀ (x:X α) (s:SS) {a:α}{s':SS}{l:List Nat},x.run μ s=some (a,s',l)→(∀ r∈l,μ r=μ' r)→x.run μ' s=some (a,s',l)
 | .pure a,s,_,s',l,h,_=>h
 | .fail n,s,_,s',l,h,_=>by simp [X.run] at h
 | .root r k,s,a,s',l,h,hl=>by
  simp only [X.run] at h ⊢
  cases hu:zeQ r s.up with
  | some R=>simp only [hu] at h ⊢;exact X.run_local μ μ' (k R) s h hl
  | none =>
   simp only [hu] at h ⊢
   cases h2:(k (μ r)).run μ s with
   | none=>simp [h2] at h
   | some p =>
    obtain ⟨a',s1,l1⟩:=p
    simp only [h2] at h
    injection h with h
    injection h with e1 e2
    injection e2 with e2 e3
    subst e1 e2 e3
    have hr:=hl r (by simp)
    rw [← hr,X.run_local μ μ' (k (μ r)) s h2 fun q hq=>hl q (List.mem_cons_of_mem _ hq)]
 | .put r R k,s,a,s',l,h,hl=>by
  simp only [X.run] at h ⊢
  exact X.run_local μ μ' k _ h hl
 | .new R k,s,a,s',l,h,hl=>by
  simp only [X.run] at h ⊢
  exact X.run_local μ μ' (k s.ab) _ h hl
 | .bd b k,s,a,s',l,h,hl=>by
  simp only [X.run] at h ⊢
  exact X.run_local μ μ' (k s.nv) _ h hl
 | .at_ k,s,a,s',l,h,hl=>by
  simp only [X.run] at h ⊢
  exact X.run_local μ μ' (k s.nv s.ab) _ h hl
theorem zgX {E:List D}:∀ {as:List At}{ds:List D},zei as=some ds→gets E as=some ds
 | [],ds,h=>by simpa [zei,gets] using h
 | .c d::l,ds,h=>by
  simp only [zei] at h
  cases h2:zei l with
  | none=>simp [h2] at h
  | some r =>
   simp only [h2] at h
   injection h with h
   subst h
   simp [gets,At.get,zgX h2]
 | .v _::_,ds,h=>by simp [zei] at h
theorem Run.op {μ:Nat→Root}{p:Prim}{as:List At}{s s':SS}{a:At}(h:Run (X.op p as) μ s a s') {C:FuncId→List D→Option (List D)}{k:Nat}{E:List D}(hs:Sat C k E s'.bs s'.nv) :
  (∃ vs d,gets E as=some vs∧p.run vs=some d∧a.get E=some d)∧s'.up=s.up∧s'.ab=s.ab:=by
 unfold X.op at h
 split at h
 ·rename_i ds hd
  split at h
  ·rename_i d hp
   obtain ⟨e1,e2⟩:=Run.pure h
   subst e1 e2
   exact ⟨⟨ds,d,zgX hd,hp,rfl⟩,rfl,rfl⟩
  ·exact (Run.fail h).elim
 ·obtain ⟨e1,e2⟩:=Run.prim h
  subst e1 e2
  obtain ⟨n,e,⟨vs,d,h1,h2,h3⟩,_⟩:=hs
  have:n=s.nv:=by simp only [Bd.outs] at e;omega
  subst this
  exact ⟨⟨vs,d,h1,h2,h3⟩,rfl,rfl⟩
theorem zrc {E:List D}{a:At}{vs:List D}(h:gets E [a]=some vs):∃ d,a.get E=some d∧vs=[d]:=by
 simp only [gets] at h
 cases ha:a.get E with
 | none=>simp [ha] at h
 | some d=>simp only [ha] at h;injection h with h;exact ⟨d,rfl,h.symm⟩
theorem zbx {E:List D}{a:At}{l:List At}{vs:List D}(h:gets E (a::l)=some vs):∃ d ds,a.get E=some d∧gets E l=some ds∧vs=d::ds:=by
 simp only [gets] at h
 cases ha:a.get E with
 | none=>simp [ha] at h
 | some d =>
  simp only [ha] at h
  cases hl:gets E l with
  | none=>simp [hl] at h
  | some ds=>simp only [hl] at h;injection h with h;exact ⟨d,ds,rfl,rfl,h.symm⟩
theorem ztt {E:List D}{vs:List D}(h:gets E []=some vs):vs=[]:=by simp only [gets] at h;injection h with h;exact h.symm
theorem Run.op1 {μ:Nat→Root}{p:Prim}{x:At}{s s':SS}{a:At}(h:Run (X.op p [x]) μ s a s') {C:FuncId→List D→Option (List D)}{k:Nat}{E:List D}(hs:Sat C k E s'.bs s'.nv) :
  (∃ u d,x.get E=some u∧p.run [u]=some d∧a.get E=some d)∧s'.up=s.up∧s'.ab=s.ab:=by
 obtain ⟨⟨vs,d,h1,h2,h3⟩,hh⟩:=Run.op h hs
 obtain ⟨u,e1,e2⟩:=zrc h1
 subst e2
 exact ⟨⟨u,d,e1,h2,h3⟩,hh⟩
theorem Run.op2 {μ:Nat→Root}{p:Prim}{x y:At}{s s':SS}{a:At}(h:Run (X.op p [x,y]) μ s a s') {C:FuncId→List D→Option (List D)}{k:Nat}{E:List D}(hs:Sat C k E s'.bs s'.nv) :
  (∃ u v d,x.get E=some u∧y.get E=some v∧p.run [u,v]=some d∧a.get E=some d)∧s'.up=s.up∧s'.ab=s.ab:=by
 obtain ⟨⟨vs,d,h1,h2,h3⟩,hh⟩:=Run.op h hs
 obtain ⟨u,us,e1,e2,e3⟩:=zbx h1
 obtain ⟨v,f1,f2⟩:=zrc e2
 subst e3 f2
 exact ⟨⟨u,v,d,e1,f1,h2,h3⟩,hh⟩
theorem Run.op3 {μ:Nat→Root}{p:Prim}{x y z:At}{s s':SS}{a:At}(h:Run (X.op p [x,y,z]) μ s a s') {C:FuncId→List D→Option (List D)}{k:Nat}{E:List D}(hs:Sat C k E s'.bs s'.nv) :
  (∃ u v t d,x.get E=some u∧y.get E=some v∧z.get E=some t∧p.run [u,v,t]=some d∧a.get E=some d)∧s'.up=s.up∧s'.ab=s.ab:=by
 obtain ⟨⟨vs,d,h1,h2,h3⟩,hh⟩:=Run.op h hs
 obtain ⟨u,us,e1,e2,e3⟩:=zbx h1
 obtain ⟨v,vs',f1,f2,f3⟩:=zbx e2
 obtain ⟨t,g1,g2⟩:=zrc f2
 subst e3 f3 g2
 exact ⟨⟨u,v,t,d,e1,f1,g1,h2,h3⟩,hh⟩
theorem Run.op4 {μ:Nat→Root}{p:Prim}{x y z q:At}{s s':SS}{a:At}(h:Run (X.op p [x,y,z,q]) μ s a s') {C:FuncId→List D→Option (List D)}{k:Nat}{E:List D}(hs:Sat C k E s'.bs s'.nv) :
  (∃ u v t o d,x.get E=some u∧y.get E=some v∧z.get E=some t∧q.get E=some o∧p.run [u,v,t,o]=some d∧a.get E=some d)∧s'.up=s.up∧s'.ab=s.ab:=by
 obtain ⟨⟨vs,d,h1,h2,h3⟩,hh⟩:=Run.op h hs
 obtain ⟨u,us,e1,e2,e3⟩:=zbx h1
 obtain ⟨v,vs',f1,f2,f3⟩:=zbx e2
 obtain ⟨t,ts,g1,g2,g3⟩:=zbx f2
 obtain ⟨o,i1,i2⟩:=zrc g2
 subst e3 f3 g3 i2
 exact ⟨⟨u,v,t,o,d,e1,f1,g1,i1,h2,h3⟩,hh⟩
end Go.SX
namespace Go.SX
mutual
theorem Ty.beq_eq:∀ {a b:Ty},a.beq b=true→a=b
 | .int k,.int k',h=>by simp [Ty.beq] at h;rw [h]
 | .bool,.bool,_=>rfl
 | .str,.str,_=>rfl
 | .sl e,.sl e',h=>by simp only [Ty.beq] at h;rw [Ty.beq_eq h]
 | .st l,.st l',h=>by simp only [Ty.beq] at h;rw [Ty.beqL_eq h]
 | .arr n e,.arr n' e',h=>by
  simp only [Ty.beq,wD0] at h
  rw [Nat.eq_of_beq_eq_true h.1,Ty.beq_eq h.2]
 | .no,.no,_=>rfl
 | .int _,.bool,h|.int _,.str,h|.int _,.sl _,h|.int _,.st _,h|.int _,.arr _ _,h|.int _,.no,h=>by simp [Ty.beq] at h
 | .bool,.int _,h|.bool,.str,h|.bool,.sl _,h|.bool,.st _,h|.bool,.arr _ _,h|.bool,.no,h=>by simp [Ty.beq] at h
 | .str,.int _,h|.str,.bool,h|.str,.sl _,h|.str,.st _,h|.str,.arr _ _,h|.str,.no,h=>by simp [Ty.beq] at h
 | .sl _,.int _,h|.sl _,.bool,h|.sl _,.str,h|.sl _,.st _,h|.sl _,.arr _ _,h|.sl _,.no,h=>by simp [Ty.beq] at h
 | .st _,.int _,h|.st _,.bool,h|.st _,.str,h|.st _,.sl _,h|.st _,.arr _ _,h|.st _,.no,h=>by simp [Ty.beq] at h
 | .arr _ _,.int _,h|.arr _ _,.bool,h|.arr _ _,.str,h|.arr _ _,.sl _,h|.arr _ _,.st _,h|.arr _ _,.no,h=>by simp [Ty.beq] at h
 | .no,.int _,h|.no,.bool,h|.no,.str,h|.no,.sl _,h|.no,.st _,h|.no,.arr _ _,h=>by simp [Ty.beq] at h
theorem Ty.beqL_eq:∀ {a b:List Ty},Ty.beqL a b=true→a=b
 | [],[],_=>rfl
 | a::l,b::l',h=>by
  simp only [Ty.beqL,wD0] at h
  rw [Ty.beq_eq h.1,Ty.beqL_eq h.2]
 | [],_::_,h=>by simp [Ty.beqL] at h
 | _::_,[],h=>by simp [Ty.beqL] at h
end
theorem zad {a b:Nat}(h:Nat.beq a b=true):a=b:=Nat.eq_of_beq_eq_true h
mutual
theorem ziJ {w:World}{M:Nat→Prop}:∀ {T:Ty}{cs:List Value}{x:D}{r:List Value},cvtC T cs=some (x,r)→∃ c,cs=c++r∧DRep w M T x c
 | .int k,cs,x,r,h=>by
  cases cs with
  | nil=>simp [cvtC] at h
  | cons v l =>
   cases v<;>simp only [cvtC] at h<;>try simp at h
   obtain ⟨e0,e1,e2⟩:=h
   subst e0 e1 e2
   exact ⟨[.int k _],rfl,rfl,rfl⟩
 | .bool,cs,x,r,h=>by
  cases cs with
  | nil=>simp [cvtC] at h
  | cons v l =>
   cases v<;>simp only [cvtC] at h<;>try simp at h
   obtain ⟨e1,e2⟩:=h
   subst e1 e2
   exact ⟨[.bool _],rfl,rfl⟩
 | .str,cs,x,r,h=>by
  cases cs with
  | nil=>simp [cvtC] at h
  | cons v l =>
   cases v<;>simp only [cvtC] at h<;>try simp at h
   obtain ⟨e1,e2⟩:=h
   subst e1 e2
   exact ⟨[.string _],rfl,rfl⟩
 | .sl e,cs,x,r,h=>by
  unfold cvtC at h
  split at h<;>simp_all
  obtain ⟨e1,e2⟩:=h
  subst e1 e2
  exact ⟨[.slice none 0 0],rfl,rfl⟩
 | .st l,cs,x,r,h=>by
  simp only [cvtC] at h
  cases hl:cvtL l cs with
  | none=>simp [hl] at h
  | some p =>
   obtain ⟨ds,r'⟩:=p
   simp only [hl] at h
   injection h with h
   injection h with e1 e2
   subst e1 e2
   obtain ⟨c,e,hr⟩:=zp7 (w:=w) (M:=M) hl
   exact ⟨c,e,hr⟩
 | .arr n e,cs,x,r,h=>by
  simp only [cvtC] at h
  cases hl:cvtN (cvtC e) n cs with
  | none=>simp [hl] at h
  | some p =>
   obtain ⟨ds,r'⟩:=p
   simp only [hl] at h
   injection h with h
   injection h with e1 e2
   subst e1 e2
   have key:∀ (n:Nat) (cs:List Value) (ds:List D) (r:List Value),cvtN (cvtC e) n cs=some (ds,r)→∃ c,cs=c++r∧ds.length=n∧DRepA w M e ds c:=by
    intro n
    induction n with
    | zero =>
     intro cs ds r h
     simp only [cvtN] at h
     injection h with h
     injection h with e1 e2
     subst e1 e2
     exact ⟨[],rfl,rfl,by simp [DRepA]⟩
    | succ n ih =>
     intro cs ds r h
     simp only [cvtN] at h
     cases h1:cvtC e cs with
     | none=>simp [h1] at h
     | some p =>
      obtain ⟨d,r1⟩:=p
      simp only [h1] at h
      cases h2:cvtN (cvtC e) n r1 with
      | none=>simp [h2] at h
      | some q =>
       obtain ⟨ds',r2⟩:=q
       simp only [h2] at h
       injection h with h
       injection h with e1 e2
       subst e1 e2
       obtain ⟨c1,f1,g1⟩:=ziJ (w:=w) (M:=M) h1
       obtain ⟨c2,f2,f3,g2⟩:=ih r1 ds' r2 h2
       refine ⟨c1++c2,by rw [f1,f2,List.append_assoc],by simp [f3],?_⟩
       simp only [DRepA]
       exact ⟨c1,c2,rfl,g1,g2⟩
   obtain ⟨c,f1,f2,f3⟩:=key n cs ds r' hl
   exact ⟨c,f1,f2,f3⟩
 | .no,cs,x,r,h=>by simp [cvtC] at h
theorem zp7 {w:World}{M:Nat→Prop}:∀ {l:List Ty}{cs:List Value}{ds:List D}{r:List Value},cvtL l cs=some (ds,r)→∃ c,cs=c++r∧DRepL w M l ds c
 | [],cs,ds,r,h=>by
  simp only [cvtL] at h
  injection h with h
  injection h with e1 e2
  subst e1 e2
  exact ⟨[],rfl,by simp [DRepL]⟩
 | T::l,cs,ds,r,h=>by
  simp only [cvtL] at h
  cases h1:cvtC T cs with
  | none=>simp [h1] at h
  | some p =>
   obtain ⟨d,r1⟩:=p
   simp only [h1] at h
   cases h2:cvtL l r1 with
   | none=>simp [h2] at h
   | some q =>
    obtain ⟨ds',r2⟩:=q
    simp only [h2] at h
    injection h with h
    injection h with e1 e2
    subst e1 e2
    obtain ⟨c1,f1,g1⟩:=ziJ (w:=w) (M:=M) h1
    obtain ⟨c2,f2,g2⟩:=zp7 (w:=w) (M:=M) h2
    refine ⟨c1++c2,by rw [f1,f2,List.append_assoc],?_⟩
    simp only [DRepL]
    exact ⟨c1,c2,rfl,g1,g2⟩
end
def DVal (w:World) (M:Nat→Prop) (T:Ty) (d:D) (v:Value):Prop :=
 if T.isAgg then ∃ cs,v=.agg cs∧DRep w M T d cs.toList else One v∧DRep w M T d [v]
theorem DRep.one {w:World}{M:Nat→Prop}{T:Ty}{d:D}{v:Value}(hT:T.isAgg=false) (h:DRep w M T d [v]):One v:=by
 cases T<;>cases d<;>simp only [DRep,Ty.isAgg] at h hT<;>try exact h.elim
 ·obtain ⟨_,h⟩:=h;injection h with h;subst h;exact ⟨by simp,by simp⟩
 ·injection h with h;subst h;exact ⟨by simp,by simp⟩
 ·injection h with h;subst h;exact ⟨by simp,by simp⟩
 ·obtain ⟨a,cap,xs,h,_⟩:=h;injection h with h;subst h;exact ⟨by simp,by simp⟩
 ·injection h with h;subst h;exact ⟨by simp,by simp⟩
 ·simp at hT
 ·simp at hT
theorem zeh {w:World}{M:Nat→Prop}{T:Ty}{v:Value}{x:D}(h:cvtD T v=some x):DVal w M T x v:=by
 unfold cvtD at h
 unfold DVal
 cases hT:T.isAgg with
 | true =>
  simp only [hT] at h
  cases v<;>simp only at h<;>try exact absurd h (by simp)
  rename_i cs
  cases hc:cvtC T cs.toList with
  | none=>simp [hc] at h
  | some p =>
   obtain ⟨y,r⟩:=p
   cases r with
   | nil =>
    simp only [hc] at h
    injection h with h
    subst h
    obtain ⟨c,e,hr⟩:=ziJ (w:=w) (M:=M) hc
    simp only [if_true]
    refine ⟨cs,rfl,?_⟩
    rw [e,List.append_nil]
    exact hr
   | cons a l=>simp [hc] at h
 | false =>
  simp only [hT] at h
  cases hc:cvtC T [v] with
  | none=>simp [hc] at h
  | some p =>
   obtain ⟨y,r⟩:=p
   cases r with
   | nil =>
    simp only [hc] at h
    injection h with h
    subst h
    obtain ⟨c,e,hr⟩:=ziJ (w:=w) (M:=M) hc
    rw [List.append_nil] at e
    subst e
    simp only [wA0,if_false]
    exact ⟨DRep.one hT hr,hr⟩
   | cons a l=>simp [hc] at h
theorem addr_add (b o j:Nat):(⟨b,o,none⟩:Addr).add j=⟨b,o + j,none⟩:=by
 unfold Addr.add
 split
 ·rename_i h;subst h;rfl
 ·rfl
theorem zmR {w:World}{b o:Nat}{c:Array Value}{te:TypeId}{fr:Nat×Nat}(h:w.heap[b]?=some (.cells c te fr)):w.cell? ⟨b,o,none⟩=c[o]?:=by
 simp [World.cell?,h]
theorem ztY {xs l:List Value}(ht:l.take xs.length=xs) {j:Nat}{u:Value}(hj:xs[j]?=some u):l[j]?=some u:=by
 rw [← ht,List.getElem?_take] at hj
 split at hj
 ·exact hj
 ·simp at hj
theorem za3 {w:World}{b:Nat}{c:Array Value}{te:TypeId}{fr:Nat×Nat}{xs:List Value}(h:w.heap[b]?=some (.cells c te fr)) (ht:c.toList.take xs.length=xs)
  {j:Nat} {u:Value} (hj:xs[j]?=some u):w.cell? ⟨b,j,none⟩=some u:=by
 rw [zmR h]
 have:=ztY ht hj
 simpa using this
theorem RowCells.data {w:World}{M M':Nat→Prop}(K:Keeps w w M M') {e:Ty}:∀ {os:List (Option Nat)}{ds:List D}{vs:List Value},RowCells w M e os ds vs→(∀ b,some b∈os→¬ M' b)→DRepA w M' (.sl e) ds vs
 | [],[],[],_,_=>by simp [DRepA]
 | o::os,d::ds,v::vs,h,hb=>by
  simp only [DRepA]
  refine ⟨[v],vs,rfl,?_,RowCells.data K h.2 fun b hm=>hb b (List.mem_cons_of_mem _ hm)⟩
  rcases h.1 with ⟨h1,h2⟩|⟨b,l,c,te,xs,cap,h1,h2,h3,h4,h5,h6,h7,_⟩
  ·exact h2.rep
  ·subst h2
   simp only [DRep]
   exact ⟨⟨b,0,none⟩,cap,xs,by rw [h6],h7,h4.keep K,fun j u hj=>by rw [addr_add,Nat.zero_add];exact za3 h3 h5 hj,fun _=>hb b (by rw [h1];simp)⟩
 | [],[],_::_,h,_=>h.elim
 | [],_::_,_,h,_=>h.elim
 | _::_,[],_,h,_=>h.elim
 | _::_,_::_,[],h,_=>h.elim
theorem Mem.content {B0:Nat}{X:Ctx}(m:Mem B0 X) {r:Nat}(hA:X.A r) {e:Ty}{a:At}(hR:(X.μ r).rowv?=some (e,a)) {M':Nat→Prop}(K:Keeps X.w X.w X.M M')
  (hb:∀ b,b∈(X.μ r).own (X.β r)→¬ M' b) :
  ∃ d,a.get X.E=some d∧(((X.β r).main=none∧EmD d) ∨
   ∃ b c te fr l xs,(X.β r).main=some b∧d=.sl l∧X.w.heap[b]?=some (.cells c te fr)∧DRepA X.w M' e l xs∧c.toList.take xs.length=xs∧(xs≠[]→¬ M' b)):=by
 have h:=m.rep r hA
 cases hk:X.μ r with
 | dead=>rw [hk] at hR;simp [Root.rowv?,Root.row?] at hR
 | box T v=>rw [hk] at hR;simp [Root.rowv?,Root.row?] at hR
 | mp K V a=>rw [hk] at hR;simp [Root.rowv?,Root.row?] at hR
 | row e' a' =>
  rw [hk] at hR h hb
  simp only [Root.rowv?,Root.row?] at hR
  injection hR with hR
  injection hR with e1 e2
  subst e1 e2
  obtain ⟨d,h1,h2⟩:=h
  refine ⟨d,h1,?_⟩
  rcases h2 with p|⟨b,c,te,fr,l,xs,p1,p2,p3,p4,p5,p6⟩
  ·exact .inl p
  ·exact .inr ⟨b,c,te,fr,l,xs,p1,p2,p3,p5.keep K,p6,fun _=>hb b (by simp [Root.own,p1])⟩
 | bo e' a'=>rw [hk] at hR;simp [Root.rowv?] at hR
 | ow e' a' i' q'=>rw [hk] at hR;simp [Root.rowv?] at hR
 | lt e' a' q =>
  rw [hk] at hR h hb
  simp only [Root.rowv?,Root.row?] at hR
  injection hR with hR
  injection hR with e1 e2
  subst e1 e2
  obtain ⟨d,h1,h2⟩:=h
  refine ⟨d,h1,?_⟩
  rcases h2 with p|⟨b,c,te,fr,l,xs,p1,p2,p3,p4,p5,p6⟩
  ·exact .inl p
  ·exact .inr ⟨b,c,te,fr,l,xs,p1,p2,p3,p5.keep K,p6,fun _=>hb b (by simp [Root.own,p1])⟩
 | fz e' a' =>
  rw [hk] at hR h
  simp only [Root.rowv?,Root.row?] at hR
  injection hR with hR
  injection hR with e1 e2
  subst e1 e2
  obtain ⟨⟨d,h1,h2⟩,hf⟩:=h
  refine ⟨d,h1,?_⟩
  rcases h2 with p|⟨b,c,te,fr,l,xs,p1,p2,p3,p4,p5,p6⟩
  ·exact .inl p
  ·refine .inr ⟨b,c,te,fr,l,xs,p1,p2,p3,p5.keep K,p6,fun hx=>?_⟩
   obtain ⟨u,hu⟩:∃ u,xs[0]?=some u:=by
    cases xs with
    | nil=>exact absurd rfl hx
    | cons u l=>exact ⟨u,rfl⟩
   exact K.free ⟨b,0,none⟩ u (za3 p3 p6 hu) (hf b p1)
 | mat e' a' g =>
  rw [hk] at hR h hb
  simp only [Root.rowv?,Root.row?] at hR
  injection hR with hR
  injection hR with e1 e2
  subst e1 e2
  obtain ⟨d,h1,h2⟩:=h
  refine ⟨d,h1,?_⟩
  rcases h2 with ⟨p1,p2,p3⟩|⟨b,c,te,l,xs,p1,p2,p3,p4,p5⟩
  ·exact .inl ⟨p1,.inl p3⟩
  ·exact .inr ⟨b,c,te,(0,0),l,xs,p1,p2,p3,p4.data K fun b hm=>hb b (by simp [Root.own,zaW,hm]),p5,fun _=>hb b (by simp [Root.own,p1])⟩
def upd {α:Type}(f:Nat→α) (r:Nat) (x:α):Nat→α:=fun q=>if q=r then x else f q
theorem upd_same {α:Type}(f:Nat→α) (r:Nat) (x:α):upd f r x r=x:=by simp [upd]
theorem upd_ne {α:Type}(f:Nat→α) {r q:Nat}(x:α) (h:q≠r):upd f r x q=f q:=by simp [upd,h]
theorem zaF (μ:Nat→Root) (r:Nat) (R:Root) (up:List (Nat×Root)):now μ ((r,R)::up)=upd (now μ up) r R:=by
 funext q
 show ((if Nat.beq r q then some R else zeQ q up).getD (μ q))=if q=r then R else (zeQ q up).getD (μ q)
 by_cases h:q=r
 ·subst h
  rw [if_pos (Nat.beq_refl q),if_pos rfl];rfl
 ·rw [if_neg (fun hb=>h (zad hb).symm),if_neg h]
theorem Mem.lower {B0:Nat}{X:Ctx}(m:Mem B0 X) (hB:B0≤X.w.heap.size) {r:Nat}(hA:X.A r) {e:Ty}{a:At}(hR:X.μ r=.row e a∨∃ e' g,e=.sl e'∧X.μ r=.mat e' a g)
  {R:Root} (hR':R=.fz e a∨R=.row e a):Ext X { X with μ:=upd X.μ r R }∧Mem B0 { X with μ:=upd X.μ r R }:=by
 have hrow:(X.μ r).row?=some (e,a):=by
  rcases hR with h|⟨e',g,h1,h2⟩
  ·rw [h];rfl
  ·rw [h2,h1];rfl
 have hmain:∀ b,(X.β r).main=some b→b∈(X.μ r).own (X.β r):=fun b hb=>by
  rcases hR with h|⟨e',g,h1,h2⟩
  ·rw [h];simp [Root.own,hb]
  ·rw [h2];simp [Root.own,hb]
 have hown:∀ b,b∈R.own (X.β r)→(X.β r).main=some b:=fun b hb=>by
  rcases hR' with h|h
  ·rw [h] at hb;simp [Root.own] at hb
  ·rw [h] at hb;simpa [Root.own] using hb
 refine Mem.change m hB (fun q=>q=r) (fun _ _ h=>h) (fun _ h=>h) (fun q h=>.inl h) (fun q hq=>⟨upd_ne _ _ hq,rfl⟩) (fun _ _ _=>rfl) (fun _ _ h=>h) ?_ ?_ ?_ (fun _ _ _=>rfl) ?_ ?_
 ·intro q b hq _ hb
  subst hq
  simp only [upd_same] at hb
  exact .inr ⟨q,rfl,hA,hmain b (hown b hb)⟩
 ·intro q q' b hq hq' _ _ _ _
  rw [hq,hq']
 ·intro q hq _
  subst hq
  simp only [upd_same]
  rcases hR' with h|h<;>rw [h]
  ·simp [Root.own]
  ·simp only [Root.own]
   cases (X.β q).main<;>simp
 ·intro q hq ha ht
  subst hq
  refine ⟨by rcases hR with h|⟨e',g,h1,h2⟩<;>simp [*,Root.there],fun e1 a1 d h1 hd=>?_,fun e1 a1 g h1=>?_⟩
  ·rw [hrow] at h1
   injection h1 with h1
   injection h1 with e2 e3
   subst e2 e3
   refine ⟨a,d,?_,hd,sameLen.refl d⟩
   simp only [upd_same]
   rcases hR' with h|h<;>rw [h]<;>rfl
  ·simp only [upd_same] at h1
   rcases hR' with h|h<;>rw [h] at h1<;>cases h1
 ·intro x q hq _
  subst hq
  have hM:∀ b,b∈(X.μ q).own (X.β q)→(X.β q).main≠some b∨R=.fz e a→¬ Ctx.M { X with μ:=upd X.μ q R } b:=fun b hb hor hMb=>by
   rcases hMb with hf|⟨q',ha',hb'⟩
   ·have h1:=m.frame b hf
    have h2:=m.low q b hA hb
    omega
   by_cases hq:q'=q
   ·subst hq
    simp only [upd_same] at hb'
    have:=hown b hb'
    rcases hor with h|h
    ·exact h this
    ·rw [h] at hb';simp [Root.own] at hb'
   ·simp only [upd_ne _ _ hq] at hb'
    exact hq (m.apart q' q b ha' hA hb' hb)
  have K:=x.K
  simp only [upd_same]
  have main:∀ (z:Prop),(z→R=.row e a)→RowRep { X with μ:=upd X.μ q R } q e a z:=fun z hz=>by
   have h:=m.rep q hA
   rcases hR with hk|⟨e',g,h1,hk⟩
   ·rw [hk] at h
    obtain ⟨d,g1,g2⟩:=h
    refine ⟨d,g1,?_⟩
    rcases g2 with p|⟨b,c,te,fr,l,xs,p1,p2,p3,p4,p5,p6⟩
    ·exact .inl p
    ·exact .inr ⟨b,c,te,fr,l,xs,p1,p2,p3,fun _=>p4 trivial,p5.keep K,p6⟩
   ·rw [hk] at h
    subst h1
    obtain ⟨d,g1,g2⟩:=h
    refine ⟨d,g1,?_⟩
    rcases g2 with ⟨p1,p2,p3⟩|⟨b,c,te,l,xs,p1,p2,p3,p4,p5⟩
    ·exact .inl ⟨p1,.inl p3⟩
    ·have hnd:=m.once q hA
     rw [hk] at hnd
     simp only [Root.own,p1,Option.toList,List.singleton_append,List.nodup_cons,zaW] at hnd
     refine .inr ⟨b,c,te,(0,0),l,xs,p1,p2,p3,fun _=>rfl,p4.data K fun b' hb'=>hM b' (by rw [hk];simp [Root.own,zaW,hb']) (.inl fun e=>?_),p5⟩
     rw [p1] at e
     injection e with e
     subst e
     exact hnd.1 hb'
  rcases hR' with h|h
  ·subst h
   exact ⟨main False (fun h=>h.elim),fun b hb=>hM b (hmain b hb) (.inr rfl)⟩
  ·subst h
   exact main True fun _=>rfl
end Go.SX
namespace Go.SX
def Ctx.mv (X:Ctx) (up:List (Nat×Root)):Ctx:={ X with μ:=now X.μ up }
theorem Ctx.mv_cons (X:Ctx) (r:Nat) (R:Root) (up:List (Nat×Root)):X.mv ((r,R)::up)={ X.mv up with μ:=upd (X.mv up).μ r R }:=by
 simp only [Ctx.mv,zaF]
def seen (fz:Bool) (X:Ctx):Nat→Prop:=if fz then X.M else fun _=>False
theorem seen_keeps {fz:Bool}{X X':Ctx}(x:Ext X X') (hw:X'.w=X.w):Keeps X.w X.w (seen fz X) (seen fz X'):=by
 cases fz with
 | false=>exact ⟨fun _ _ _=>rfl,fun _ _ h=>h⟩
 | true =>
  have K:=x.K
  rw [hw] at K
  exact K
section
variable {B0:Nat} {X:Ctx}
theorem zbU {fz:Bool}{e:Ty}{r:Nat}{σ σ':SS}{a:At}(h:Run (zdI fz e r) X.μ σ a σ') (m:Mem B0 (X.mv σ.up)) (hB:B0≤X.w.heap.size) (hA:X.A r) :
  ((X.mv σ.up).μ r).row?=some (e,a)∧Ext (X.mv σ.up) (X.mv σ'.up)∧Mem B0 (X.mv σ'.up)∧(fz=false→σ'=σ) ∧
  ((X.mv σ'.up).μ r).rowv?=some (e,a)∧∀ b,b∈((X.mv σ'.up).μ r).own (X.β r)→¬ seen fz (X.mv σ'.up) b:=by
 unfold zdI at h
 obtain ⟨R,s1,h1,h2⟩:=Run.bind h
 clear h
 obtain ⟨hR,e1⟩:=Run.root h1
 clear h1
 subst e1
 have hR':(X.mv s1.up).μ r=R:=hR.symm
 clear hR
 cases R with
 | dead=>exact (Run.fail h2).elim
 | box T v=>exact (Run.fail h2).elim
 | mp K V a=>exact (Run.fail h2).elim
 | row e' a' =>
  obtain ⟨_,s2,h3,h⟩:=Run.bind h2
  obtain ⟨hb,e2⟩:=Run.guard h3
  clear h2 h3
  subst e2
  have he:=Ty.beq_eq hb
  subst he
  cases fz with
  | false =>
   obtain ⟨e3,e4⟩:=Run.pure h
   subst e3 e4
   exact ⟨by rw [hR'];rfl,Ext.refl _,m,fun _=>rfl,by rw [hR'];rfl,fun b _ hs=>hs⟩
  | true =>
   simp only [if_true] at h
   obtain ⟨_,s3,h3,h4⟩:=Run.bind h
   have e3:=Run.put h3
   obtain ⟨e4,e5⟩:=Run.pure h4
   subst e3 e4 e5
   obtain ⟨x,m'⟩:=m.lower (hB:=hB) (r:=r) hA (e:=e') (a:=a) (.inl hR') (R:=.fz e' a) (.inl rfl)
   simp only [Ctx.mv_cons]
   exact ⟨by rw [hR'];rfl,x,m',(fun h=>absurd h (by simp)),by simp [upd_same,Root.rowv?,Root.row?],fun b hb=>by simp [upd_same,Root.own] at hb⟩
 | fz e' a' =>
  obtain ⟨_,s2,h3,h⟩:=Run.bind h2
  obtain ⟨hb,e2⟩:=Run.guard h3
  clear h2 h3
  subst e2
  have he:=Ty.beq_eq hb
  subst he
  obtain ⟨e3,e4⟩:=Run.pure h
  subst e3 e4
  exact ⟨by rw [hR'];rfl,Ext.refl _,m,fun _=>rfl,by rw [hR'];rfl,fun b hb=>by rw [hR'] at hb;simp [Root.own] at hb⟩
 | bo e' a'=>exact (Run.fail h2).elim
 | ow e' a' i' q'=>exact (Run.fail h2).elim
 | lt e' a' q =>
  obtain ⟨_,s2,h3,h⟩:=Run.bind h2
  obtain ⟨hb,e2⟩:=Run.guard h3
  clear h2 h3
  subst e2
  simp only [wD0,Bool.not_eq_true'] at hb
  have he:=Ty.beq_eq hb.1
  have hfz:=hb.2
  subst he hfz
  obtain ⟨e3,e4⟩:=Run.pure h
  subst e3 e4
  exact ⟨by rw [hR'];rfl,Ext.refl _,m,fun _=>rfl,by rw [hR'];rfl,fun b _ hs=>hs⟩
 | mat e' a' g =>
  obtain ⟨_,s2,h3,h⟩:=Run.bind h2
  obtain ⟨hb,e2⟩:=Run.guard h3
  clear h2 h3
  subst e2
  have he:=Ty.beq_eq hb
  subst he
  cases fz with
  | false =>
   obtain ⟨e3,e4⟩:=Run.pure h
   subst e3 e4
   exact ⟨by rw [hR'];rfl,Ext.refl _,m,fun _=>rfl,by rw [hR'];rfl,fun b _ hs=>hs⟩
  | true =>
   simp only [if_true] at h
   obtain ⟨_,s3,h3,h4⟩:=Run.bind h
   have e3:=Run.put h3
   obtain ⟨e4,e5⟩:=Run.pure h4
   subst e3 e4 e5
   obtain ⟨x,m'⟩:=m.lower (hB:=hB) (r:=r) hA (e:=.sl e') (a:=a) (.inr ⟨e',g,rfl,hR'⟩) (R:=.fz (.sl e') a) (.inl rfl)
   simp only [Ctx.mv_cons]
   exact ⟨by rw [hR'];rfl,x,m',(fun h=>absurd h (by simp)),by simp [upd_same,Root.rowv?,Root.row?],fun b hb=>by simp [upd_same,Root.own] at hb⟩
theorem zhl {fz:Bool}{e:Ty}{r g:Nat}{σ σ':SS}{a:At}(h:Run (zgn fz e r g) X.μ σ a σ') (m:Mem B0 (X.mv σ.up)) (hB:B0≤X.w.heap.size) (hA:X.A r) :
  (X.mv σ.up).μ r=.mat e a g∧Ext (X.mv σ.up) (X.mv σ'.up)∧Mem B0 (X.mv σ'.up)∧(fz=false→σ'=σ) ∧
  ((X.mv σ'.up).μ r).rowv?=some (.sl e,a)∧∀ b,b∈((X.mv σ'.up).μ r).own (X.β r)→¬ seen fz (X.mv σ'.up) b:=by
 unfold zgn at h
 obtain ⟨R,s1,h1,h2⟩:=Run.bind h
 clear h
 obtain ⟨hR,e1⟩:=Run.root h1
 clear h1
 subst e1
 have hR':(X.mv s1.up).μ r=R:=hR.symm
 clear hR
 cases R with
 | dead=>exact (Run.fail h2).elim
 | box T v=>exact (Run.fail h2).elim
 | mp K V a=>exact (Run.fail h2).elim
 | row e' a'=>exact (Run.fail h2).elim
 | fz e' a'=>exact (Run.fail h2).elim
 | lt e' a' q=>exact (Run.fail h2).elim
 | bo e' a'=>exact (Run.fail h2).elim
 | ow e' a' i' q'=>exact (Run.fail h2).elim
 | mat e' a' g' =>
  obtain ⟨_,s2,h3,h⟩:=Run.bind h2
  obtain ⟨hb,e2⟩:=Run.guard h3
  clear h2 h3
  subst e2
  simp only [wD0] at hb
  have he:=Ty.beq_eq hb.1
  have hg:=zad hb.2
  subst he hg
  cases fz with
  | false =>
   obtain ⟨e3,e4⟩:=Run.pure h
   subst e3 e4
   exact ⟨hR',Ext.refl _,m,fun _=>rfl,by rw [hR'];rfl,fun b _ hs=>hs⟩
  | true =>
   simp only [if_true] at h
   obtain ⟨_,s3,h3,h4⟩:=Run.bind h
   have e3:=Run.put h3
   obtain ⟨e4,e5⟩:=Run.pure h4
   subst e3 e4 e5
   obtain ⟨x,m'⟩:=m.lower (hB:=hB) (r:=r) hA (e:=.sl e') (a:=a) (.inr ⟨e',g,rfl,hR'⟩) (R:=.fz (.sl e') a) (.inl rfl)
   simp only [Ctx.mv_cons]
   exact ⟨hR',x,m',(fun h=>absurd h (by simp)),by simp [upd_same,Root.rowv?,Root.row?],fun b hb=>by simp [upd_same,Root.own] at hb⟩
theorem zhT {fz:Bool}{e:Ty}{r:Nat}{μ:Nat→Root}{σ σ':SS}{a:At}(h:Run (zdI fz e r) μ σ a σ'):σ'.ab=σ.ab:=by
 unfold zdI at h
 obtain ⟨R,s1,h1,h2⟩:=Run.bind h
 obtain ⟨hR,e1⟩:=Run.root h1
 subst e1
 clear h h1 hR
 cases R with
 | dead=>exact (Run.fail h2).elim
 | box T v=>exact (Run.fail h2).elim
 | mp K V a=>exact (Run.fail h2).elim
 | row e' a' =>
  obtain ⟨_,s2,h3,h4⟩:=Run.bind h2
  obtain ⟨_,e2⟩:=Run.guard h3
  subst e2
  cases fz with
  | false=>rw [(Run.pure h4).2]
  | true =>
   obtain ⟨_,s3,h5,h6⟩:=Run.bind h4
   rw [(Run.pure h6).2,Run.put h5]
 | fz e' a' =>
  obtain ⟨_,s2,h3,h4⟩:=Run.bind h2
  obtain ⟨_,e2⟩:=Run.guard h3
  subst e2
  rw [(Run.pure h4).2]
 | bo e' a'=>exact (Run.fail h2).elim
 | ow e' a' i' q'=>exact (Run.fail h2).elim
 | lt e' a' q =>
  obtain ⟨_,s2,h3,h4⟩:=Run.bind h2
  obtain ⟨_,e2⟩:=Run.guard h3
  subst e2
  rw [(Run.pure h4).2]
 | mat e' a' g =>
  obtain ⟨_,s2,h3,h4⟩:=Run.bind h2
  obtain ⟨_,e2⟩:=Run.guard h3
  subst e2
  cases fz with
  | false=>rw [(Run.pure h4).2]
  | true =>
   obtain ⟨_,s3,h5,h6⟩:=Run.bind h4
   rw [(Run.pure h6).2,Run.put h5]
theorem zq2 {fz:Bool}{e:Ty}{r g:Nat}{μ:Nat→Root}{σ σ':SS}{a:At}(h:Run (zgn fz e r g) μ σ a σ'):σ'.ab=σ.ab:=by
 unfold zgn at h
 obtain ⟨R,s1,h1,h2⟩:=Run.bind h
 obtain ⟨hR,e1⟩:=Run.root h1
 subst e1
 clear h h1 hR
 cases R with
 | mat e' a' g =>
  obtain ⟨_,s2,h3,h4⟩:=Run.bind h2
  obtain ⟨_,e2⟩:=Run.guard h3
  subst e2
  cases fz with
  | false=>rw [(Run.pure h4).2]
  | true =>
   obtain ⟨_,s3,h5,h6⟩:=Run.bind h4
   rw [(Run.pure h6).2,Run.put h5]
 | _=>exact (Run.fail h2).elim
theorem zlG {fz:Bool}{e:Ty}{r g:Nat}{σ σ':SS}{a:At}(h:Run (zgn fz e r g) X.μ σ a σ') (q:Nat) (hq:q≠r):(X.mv σ'.up).μ q=(X.mv σ.up).μ q:=by
 unfold zgn at h
 obtain ⟨R,s1,h1,h2⟩:=Run.bind h
 obtain ⟨hR,e1⟩:=Run.root h1
 subst e1
 clear h h1 hR
 cases R with
 | mat e' a' g =>
  obtain ⟨_,s2,h3,h4⟩:=Run.bind h2
  obtain ⟨_,e2⟩:=Run.guard h3
  subst e2
  cases fz with
  | false=>rw [(Run.pure h4).2]
  | true =>
   obtain ⟨_,s3,h5,h6⟩:=Run.bind h4
   rw [(Run.pure h6).2,Run.put h5,Ctx.mv_cons]
   exact upd_ne _ _ hq
 | _=>exact (Run.fail h2).elim
theorem zdo {e:Ty}{r:Nat}{vw:Option (At×At)}{v:Value}{a:At}(m:Mem B0 X) (hA:X.A r) (hh:HRep X e r vw v) (hRv:(X.μ r).rowv?=some (e,a))
  {M':Nat→Prop} (K:Keeps X.w X.w X.M M') (hb:∀ b,b∈(X.μ r).own (X.β r)→¬ M' b) {d:D}
  (hd:match vw with|none=>a.get X.E=some d|some (lo,hi)=>∃ u l h,a.get X.E=some u∧lo.get X.E=some l∧hi.get X.E=some h∧Prim.run .sub [u,l,h]=some d) :
  DRep X.w M' (.sl e) d [v]:=by
 have hR:=Root.rowv_row hRv
 obtain ⟨a1,d1,h1,h2,h3⟩:=hh
 rw [hR] at h1
 injection h1 with h1
 injection h1 with _ h1
 subst h1
 obtain ⟨d2,g1,g2⟩:=m.content hA hRv K hb
 rw [h2] at g1
 injection g1 with g1
 subst g1
 cases vw with
 | none =>
  simp only at hd
  rw [h2] at hd
  injection hd with hd
  subst hd
  rcases h3 with ⟨p1,p2,_⟩|⟨bb,l,p1,p2,cap,bs,p3,p4,p5,p6⟩
  ·exact p2.rep
  ·rcases g2 with ⟨q1,q2⟩|⟨b',c,te,fr,l',xs,q1,q2,q3,q4,q5,q6⟩
   ·rw [p1] at q1;cases q1
   ·rw [p1] at q1
    injection q1 with q1
    subst q1
    rw [p2] at q2
    injection q2 with q2
    subst q2 p2
    simp only [DRep]
    exact ⟨⟨bb,0,none⟩,cap,xs,by rw [p3],p4,q4,fun j u hj=>by rw [addr_add,Nat.zero_add];exact za3 q3 q5 hj,q6⟩
 | some p =>
  obtain ⟨lo,hi⟩:=p
  obtain ⟨u,l0,h0,f1,f2,f3,f4⟩:=hd
  rw [h2] at f1
  injection f1 with f1
  subst f1
  rcases h3 with ⟨p1,p2,k,k',p4,p5⟩|⟨bb,l,p1,p2,ad,cap,bs,k,k',i,j,p3,p4,p5,p6,p7,p8,p9,p10,p11⟩
  ·rw [p4] at f2
   rw [p5] at f3
   injection f2 with f2
   injection f3 with f3
   subst f2 f3
   have e0:d=d1:=by
    rcases p2.em with h|h<;>subst h<;>simp [Prim.run] at f4<;>exact f4.symm
   subst e0
   exact p2.rep
  ·rw [p3] at f2
   rw [p4] at f3
   injection f2 with f2
   injection f3 with f3
   subst f2 f3 p2
   have hc:(0:Int)≤Int.ofNat i∧Int.ofNat i≤Int.ofNat j∧Int.ofNat j≤(l.length:Int):=⟨by simp,by simpa using p5,by simpa using p6⟩
   simp only [Prim.run,if_pos hc] at f4
   injection f4 with f4
   subst f4
   rcases g2 with ⟨q1,q2⟩|⟨b',c,te,fr,l',xs,q1,q2,q3,q4,q5,q6⟩
   ·rw [p1] at q1;cases q1
   ·rw [p1] at q1
    injection q1 with q1
    subst q1
    injection q2 with q2
    subst q2
    simp only [DRep]
    have hlen:((l.take (Int.ofNat j).toNat).drop (Int.ofNat i).toNat).length=j - i:=by
     simp only [List.length_drop,wE0,Int.ofNat_eq_natCast,Int.toNat_natCast]
     omega
    refine ⟨ad,cap,(xs.take (j * e.size)).drop (i * e.size),by rw [hlen,p7],by rw [hlen];omega,?_,fun n u hn=>?_,fun hx=>?_⟩
    ·simp only [Int.ofNat_eq_natCast,Int.toNat_natCast]
     exact (q4.take j).drop i
    ·have hxl:=q4.length
     have hn':n<((xs.take (j * e.size)).drop (i * e.size)).length:=by
      rcases Nat.lt_or_ge n ((xs.take (j * e.size)).drop (i * e.size)).length with h|h
      ·exact h
      ·rw [List.getElem?_eq_none h] at hn;cases hn
     simp only [List.length_drop,wE0] at hn'
     have hij:i<j:=by
      rcases Nat.lt_or_ge i j with h|h
      ·exact h
      ·have:=Nat.mul_le_mul_right e.size h
       omega
     rw [p11 (.inl (by omega)),addr_add]
     rw [List.getElem?_drop,List.getElem?_take] at hn
     split at hn
     ·exact za3 q3 q5 hn
     ·cases hn
    ·have hxl:=q4.length
     have hne:((xs.take (j * e.size)).drop (i * e.size)).length≠0:=fun h=>hx (List.eq_nil_of_length_eq_zero h)
     simp only [List.length_drop,wE0] at hne
     have hij:i<j:=by
      rcases Nat.lt_or_ge i j with h|h
      ·exact h
      ·have:=Nat.mul_le_mul_right e.size h
       omega
     rw [p11 (.inl (by omega))]
     exact q6 (by intro h;subst h;simp at hne)
end
end Go.SX
namespace Go.SX
theorem zeV {E:List D}{a:At}{l:List At}{d:D}{ds:List D}(h:a.get E=some d) (hl:gets E l=some ds):gets E (a::l)=some (d::ds):=by
 simp [gets,h,hl]
variable {C:FuncId→List D→Option (List D)} {k B0:Nat} {X:Ctx}
mutual
theorem zfD (hB:B0≤X.w.heap.size) {fz:Bool}:∀ {s:SV}{T:Ty}{σ σ':SS}{a:At}{cs:List Value},Run (SV.view fz T s) X.μ σ a σ'→Sat C k X.E σ'.bs σ'.nv→Mem B0 (X.mv σ.up)→CRep (X.mv σ.up) s cs →
  Ext (X.mv σ.up) (X.mv σ'.up)∧Mem B0 (X.mv σ'.up)∧(fz=false→σ'.up=σ.up)∧σ'.ab=σ.ab∧∃ d,a.get X.E=some d∧DRep X.w (seen fz (X.mv σ'.up)) T d cs
 | .un n,T,σ,σ',a,cs,h,hs,m,hc=>by simp only [SV.view] at h;exact (Run.fail h).elim
 | .tu l,T,σ,σ',a,cs,h,hs,m,hc=>by simp only [SV.view] at h;exact (Run.fail h).elim
 | .fn _ _ _,T,σ,σ',a,cs,h,hs,m,hc=>by simp only [SV.view] at h;exact (Run.fail h).elim
 | .p _ _ _ _,T,σ,σ',a,cs,h,hs,m,hc=>by simp only [SV.view] at h;exact (Run.fail h).elim
 | .pm _ _ _ _ _ _,T,σ,σ',a,cs,h,hs,m,hc=>by simp only [SV.view] at h;exact (Run.fail h).elim
 | .pd _ _,T,σ,σ',a,cs,h,hs,m,hc=>by simp only [SV.view] at h;exact (Run.fail h).elim
 | .hc _ _ _,T,σ,σ',a,cs,h,hs,m,hc=>by simp only [SV.view] at h;exact (Run.fail h).elim
 | .mr _ _ _,T,σ,σ',a,cs,h,hs,m,hc=>by simp only [SV.view] at h;exact (Run.fail h).elim
 | .cv v,T,σ,σ',a,cs,h,hs,m,hc=>by
  simp only [SV.view] at h
  cases hx:cvtD T v with
  | none=>rw [hx] at h;exact (Run.fail h).elim
  | some x =>
   rw [hx] at h
   obtain ⟨e1,e2⟩:=Run.pure h
   subst e1 e2
   refine ⟨Ext.refl _,m,fun _=>rfl,rfl,x,rfl,?_⟩
   obtain ⟨h1,h2⟩:=hc
   have:=zeh (w:=X.w) (M:=seen fz (X.mv σ'.up)) hx
   unfold DVal at this
   rw [h1]
   split at this
   ·obtain ⟨c,e,_⟩:=this
    exact absurd e (h2.1 c)
   ·exact this.2
 | .d T' a',T,σ,σ',a,cs,h,hs,m,hc=>by
  simp only [SV.view] at h
  split at h
  ·rename_i hb
   have he:=Ty.beq_eq hb
   subst he
   obtain ⟨e1,e2⟩:=Run.pure h
   subst e1 e2
   simp only [CRep] at hc
   obtain ⟨d,h1,h2⟩:=hc
   refine ⟨Ext.refl _,m,fun _=>rfl,rfl,d,h1,?_⟩
   cases fz with
   | true=>exact h2
   | false=>exact h2.keep ⟨fun _ _ _=>rfl,fun _ _ _ h=>h⟩
  ·exact (Run.fail h).elim
 | .h e r vw,T,σ,σ',a,cs,h,hs,m,hc=>by
  simp only [SV.view] at h
  obtain ⟨_,s1,h1,h2⟩:=Run.bind h
  obtain ⟨hT,e1⟩:=Run.guard h1
  subst e1
  have hT:=Ty.beq_eq hT
  subst hT
  obtain ⟨a0,s2,h3,h4⟩:=Run.bind h2
  simp only [CRep] at hc
  obtain ⟨v,hcs,hone,hA,hh⟩:=hc
  have hA':X.A r:=hA
  obtain ⟨r1,x,m',hf,r2,ho⟩:=zbU h3 m hB hA'
  have hh':HRep (X.mv s1.up) e r vw v:=hh (by
   cases hk:(X.mv s1.up).μ r with
   | dead=>rw [hk] at r1;simp [Root.row?] at r1
   | _=>rfl)
  have ht2:((X.mv s2.up).μ r).there=true:=by
   cases hk:(X.mv s2.up).μ r with
   | dead=>rw [hk] at r2;cases r2
   | _=>rfl
  have hh2:=hh'.ext x hA ht2
  subst hcs
  have K:Keeps (X.mv s2.up).w (X.mv s2.up).w (X.mv s2.up).M (seen fz (X.mv s2.up)):=by
   cases fz with
   | true=>exact ⟨fun _ _ _=>rfl,fun _ _ h=>h⟩
   | false=>exact ⟨fun _ _ _=>rfl,fun _ _ _ h=>h⟩
  cases vw with
  | none =>
   obtain ⟨e1,e2⟩:=Run.pure h4
   subst e1 e2
   obtain ⟨d,g1,_⟩:=m'.content hA r2 K ho
   refine ⟨x,m',fun e=>by rw [hf e],?_,d,g1,zdo m' hA hh2 r2 K ho g1⟩
   cases fz with
   | false=>rw [hf rfl]
   | true=>exact (zhT h3)
  | some p =>
   obtain ⟨lo,hi⟩:=p
   obtain ⟨⟨u,l,hh0,d,f1,f2,f3,f4,f5⟩,e1,e2⟩:=Run.op3 h4 hs
   rw [e1,e2]
   refine ⟨x,m',fun e=>by rw [hf e],?_,d,f5,zdo m' hA hh2 r2 K ho ⟨u,l,hh0,f1,f2,f3,f4⟩⟩
   cases fz with
   | false=>rw [hf rfl]
   | true=>exact (zhT h3)
 | .hr e r ix g,T,σ,σ',a,cs,h,hs,m,hc=>by
  simp only [SV.view] at h
  obtain ⟨_,s1,h1,h2⟩:=Run.bind h
  obtain ⟨hT,e1⟩:=Run.guard h1
  subst e1
  have hT:=Ty.beq_eq hT
  subst hT
  obtain ⟨a0,s2,h3,h4⟩:=Run.bind h2
  simp only [CRep] at hc
  obtain ⟨v,hcs,hone,hA,hh⟩:=hc
  have hA':X.A r:=hA
  obtain ⟨r1,x,m',hf,r2,ho⟩:=zhl h3 m hB hA'
  subst hcs
  obtain ⟨_,hh'⟩:=hh e a0 g r1
  obtain ⟨_,k0,i,ds,d0,o,q1,q2,q3,q4,q5⟩:=hh' rfl
  have K:Keeps (X.mv s2.up).w (X.mv s2.up).w (X.mv s2.up).M (seen fz (X.mv s2.up)):=by
   cases fz with
   | true=>exact ⟨fun _ _ _=>rfl,fun _ _ h=>h⟩
   | false=>exact ⟨fun _ _ _=>rfl,fun _ _ _ h=>h⟩
  obtain ⟨⟨u,l,d,f1,f2,f3,f4⟩,e1,e2⟩:=Run.op2 h4 hs
  rw [e1,e2]
  refine ⟨x,m',fun e=>by rw [hf e],?_,d,f4,?_⟩
  ·cases fz with
   | false=>rw [hf rfl]
   | true=>exact (zq2 h3)
  ·
   have f1':a0.get X.E=some u:=f1
   have q1':a0.get X.E=some (.sl ds):=q1
   rw [f1'] at q1'
   injection q1' with q1'
   subst q1'
   have q2':ix.get X.E=some (.int k0 (Int.ofNat i)):=q2
   rw [f2] at q2'
   injection q2' with q2'
   subst q2'
   simp only [Prim.run,Int.ofNat_eq_natCast,Int.toNat_natCast] at f3
   rw [if_pos (by omega),q3] at f3
   injection f3 with f3
   subst f3
   have hrep:=m.rep r hA
   rw [r1] at hrep
   obtain ⟨dd,w1,w2⟩:=hrep
   have w1':a0.get X.E=some dd:=w1
   rw [f1'] at w1'
   injection w1' with w1'
   subst w1'
   rcases w2 with ⟨_,_,w3⟩|⟨b,c,te,l',xs,_,w3,w4,w5,w6⟩
   ·cases w3
   ·injection w3 with w3
    subst w3
    have cell:=RowCells.get w5 q3 q4
    obtain ⟨v',hv',cell⟩:=cell
    have nb:∀ b,o=some b→¬ seen fz (X.mv s2.up) b:=by
     intro b hb
     cases fz with
     | false=>exact fun h=>h
     | true =>
      intro hM
      have hin:b∈((X.mv s1.up).μ r).own ((X.mv s1.up).β r):=by
       rw [r1]
       simp only [Root.own,List.mem_append,zaW]
       exact .inr (by rw [← hb];exact List.mem_of_getElem? q4)
      rcases hM with hf|⟨q,hq1,hq2⟩
      ·have h1:=m.frame b hf
       have h2:=m.low r b hA hin
       omega
      have hμ:q≠r→((X.mv s2.up).μ q)=(X.mv s1.up).μ q:=zlG h3 q
      by_cases hqr:q=r
      ·subst hqr
       exact ho b hq2 (.inr ⟨q,hq1,hq2⟩)
      ·rw [hμ hqr] at hq2
       exact hqr (m.apart q r b hq1 hA hq2 hin)
    rcases q5 with ⟨p1,p2⟩|⟨b,l2,cap,bs,p1,p2,p3,p4,p5,p6⟩
    ·exact p2.rep
    ·subst p2
     rcases cell with ⟨c1,c2⟩|⟨b',l3,c',te',ys,cap',c1,c2,c3,c4,c5,c6,c7,c8⟩
     ·rw [p1] at c1;cases c1
     ·injection c2 with c2
      subst c2
      rw [p1] at c1
      injection c1 with c1
      subst c1
      simp only [DRep]
      exact ⟨⟨b,0,none⟩,cap,ys,by rw [p3],p4,(c4.keep x.K).keep K,fun j u hj=>by rw [addr_add,Nat.zero_add];exact za3 c3 c5 hj,fun _=>nb b p1⟩
 | .z e a',T,σ,σ',a,cs,h,hs,m,hc=>by
  simp only [SV.view] at h
  obtain ⟨_,s1,h1,h2⟩:=Run.bind h
  obtain ⟨hT,e1⟩:=Run.guard h1
  subst e1
  have hT:=Ty.beq_eq hT
  subst hT
  simp only [CRep] at hc
  obtain ⟨v,hcs,d0,l,y,q1,q2,q3,q4⟩:=hc
  subst hcs q3
  obtain ⟨⟨u,v1,v2,d,f1,f2,f3,f4,f5⟩,e1,e2⟩:=Run.op3 h2 hs
  rw [e1,e2]
  have q1':a'.get X.E=some d0:=q1
  rw [f1] at q1'
  injection q1' with q1'
  subst q1'
  have f2':v1=.int .i64 0:=by injection f2 with f2;exact f2.symm
  have f3':v2=.int .i64 0:=by injection f3 with f3;exact f3.symm
  subst f2' f3'
  refine ⟨Ext.refl _,m,fun _=>rfl,rfl,d,f5,?_⟩
  cases u with
  | nil =>
   simp [Prim.run] at f4
   subst f4
   have:=q4.2 rfl
   subst this
   simp [DRep]
  | sl l' =>
   simp [Prim.run] at f4
   subst f4
   cases y with
   | none=>exact absurd (q4.1 rfl) (by simp)
   | some ad =>
    simp only [DRep]
    exact ⟨ad,0,[],rfl,wG0 _,by simp [DRepA],fun j u hj=>by simp at hj,fun h=>absurd rfl h⟩
  | _=>simp [D.els] at q2
 | .ag T' l,T,σ,σ',a,cs,h,hs,m,hc=>by
  unfold SV.view at h
  obtain ⟨_,s1,h1,h2⟩:=Run.bind h
  obtain ⟨hT,e1⟩:=Run.guard h1
  subst e1
  have hT:=Ty.beq_eq hT
  subst hT
  cases T' with
  | st Ts =>
   obtain ⟨as,s2,h3,h4⟩:=Run.bind h2
   simp only [CRep] at hc
   obtain ⟨⟨vs,d,f1,f2,f3⟩,e1,e2⟩:=Run.op h4 hs
   obtain ⟨x,m',hf,hab,ds,g1,g2⟩:=zj8 hB h3 (h4.sat hs) m hc
   rw [f1] at g1
   injection g1 with g1
   subst g1
   simp only [Prim.run] at f2
   injection f2 with f2
   subst f2
   rw [e1,e2]
   exact ⟨x,m',hf,hab,_,f3,g2⟩
  | _=>exact (Run.fail h2).elim
 | .hb R e n r q,T,σ,σ',a,cs,h,hs,m,hc=>by
  simp only [SV.view] at h
  obtain ⟨_,s1,h1,h2⟩:=Run.bind h
  obtain ⟨hT,e1⟩:=Run.guard h1
  subst e1
  simp only [wD0] at hT
  obtain ⟨hT,hfz⟩:=hT
  have hT:=Ty.beq_eq hT
  subst hT
  obtain ⟨Rt,s2,h3,h4⟩:=Run.bind h2
  obtain ⟨hR,e1⟩:=Run.root h3
  subst e1
  have hR':(X.mv s2.up).μ r=Rt:=hR.symm
  split at h4
  ·rename_i T1 T2 a1
   obtain ⟨_,s3,h5,h6⟩:=Run.bind h4
   obtain ⟨hb,e1⟩:=Run.guard h5
   subst e1
   simp only [wD0] at hb
   have e1:=Ty.beq_eq hb.1.1
   have e2:=Ty.beq_eq hb.1.2
   have e3:=Ty.beq_eq hb.2
   subst e1 e2 e3
   simp only [CRep] at hc
   obtain ⟨v,hcs,hA,_,_,b,p1,p2⟩:=hc
   subst hcs p2
   obtain ⟨⟨u,d,f1,f2,f3⟩,e1,e2⟩:=Run.op1 h6 hs
   rw [e1,e2]
   have hrep:=m.rep r hA
   rw [hR'] at hrep
   obtain ⟨b',c,te,w1,w2,_,w4⟩:=hrep
   rw [p1] at w1
   injection w1 with w1
   subst w1
   simp only [CRep] at w4
   obtain ⟨d1,y1,y2⟩:=w4
   have y1':a1.get X.E=some d1:=y1
   rw [f1] at y1'
   injection y1' with y1'
   subst y1'
   have hfz':fz=false:=by simpa using hfz
   subst hfz'
   refine ⟨Ext.refl _,m,fun _=>rfl,rfl,d,f3,?_⟩
   cases u<;>simp only [DRep] at y2<;>try exact y2.elim
   rename_i ds
   simp only [Prim.run] at f2
   injection f2 with f2
   subst f2
   simp only [DRep]
   refine ⟨⟨b,0,none⟩,n,c.toList,by rw [y2.1],by rw [y2.1];exact wG0 _,y2.2.keep ⟨fun _ _ _=>rfl,fun _ _ _ h=>h⟩,fun j u hj=>?_,fun _ h=>h⟩
   rw [addr_add,Nat.zero_add]
   show X.w.cell? _=_
   have w2':X.w.heap[b]?=some (.cells c te (0,0)):=w2
   rw [zmR w2']
   simpa using hj
  ·exact (Run.fail h4).elim
theorem zj8 (hB:B0≤X.w.heap.size) {fz:Bool}:∀ {l:List SV}{Ts:List Ty}{σ σ':SS}{as:List At}{cs:List Value},Run (SV.viewL fz Ts l) X.μ σ as σ'→Sat C k X.E σ'.bs σ'.nv→Mem B0 (X.mv σ.up)→CRepL (X.mv σ.up) l Ts cs →
  Ext (X.mv σ.up) (X.mv σ'.up)∧Mem B0 (X.mv σ'.up)∧(fz=false→σ'.up=σ.up)∧σ'.ab=σ.ab∧∃ ds,gets X.E as=some ds∧DRepL X.w (seen fz (X.mv σ'.up)) Ts ds cs
 | [],[],σ,σ',as,cs,h,hs,m,hc=>by
  simp only [SV.viewL] at h
  obtain ⟨e1,e2⟩:=Run.pure h
  subst e1 e2
  simp only [CRepL] at hc
  exact ⟨Ext.refl _,m,fun _=>rfl,rfl,[],rfl,by simpa only [DRepL] using hc⟩
 | s::l,T::Ts,σ,σ',as,cs,h,hs,m,hc=>by
  simp only [SV.viewL] at h
  obtain ⟨a,s1,h1,h2⟩:=Run.bind h
  obtain ⟨as',s2,h3,h4⟩:=Run.bind h2
  obtain ⟨e1,e2⟩:=Run.pure h4
  subst e1 e2
  simp only [CRepL] at hc
  obtain ⟨c1,c2,ec,_,hc1,hc2⟩:=hc
  obtain ⟨x1,m1,f1,b1,d,g1,r1⟩:=zfD hB h1 (h3.sat hs) m hc1
  obtain ⟨x2,m2,f2,b2,ds,g2,r2⟩:=zj8 hB h3 hs m1 (CRepL.ext x1 hc2)
  refine ⟨x1.trans x2,m2,fun e=>by rw [f2 e,f1 e],by rw [b2,b1],d::ds,zeV g1 g2,?_⟩
  simp only [DRepL]
  exact ⟨c1,c2,ec,r1.keep (seen_keeps x2 rfl),r2⟩
 | [],_::_,σ,σ',as,cs,h,hs,m,hc=>by simp only [SV.viewL] at h;exact (Run.fail h).elim
 | _::_,[],σ,σ',as,cs,h,hs,m,hc=>by simp only [SV.viewL] at h;exact (Run.fail h).elim
end
end Go.SX
namespace Go.SX
open Go.RowKit (Below)
mutual
theorem D.beq_eq:∀ {a b:D},a.beq b=true→a=b
 | .int k n,.int k' n',h=>by simp [D.beq] at h;rw [h.1,h.2]
 | .bool b,.bool c,h=>by simp [D.beq] at h;rw [h]
 | .str s,.str t,h=>by
  simp [D.beq] at h
  obtain ⟨⟨s⟩⟩:=s
  obtain ⟨⟨t⟩⟩:=t
  simp at h
  rw [h]
 | .agg l,.agg l',h=>by simp only [D.beq] at h;rw [D.beqL_eq h]
 | .sl l,.sl l',h=>by simp only [D.beq] at h;rw [D.beqL_eq h]
 | .nil,.nil,_=>rfl
 | .int _ _,.bool _,h|.int _ _,.str _,h|.int _ _,.agg _,h|.int _ _,.sl _,h|.int _ _,.nil,h=>by simp [D.beq] at h
 | .bool _,.int _ _,h|.bool _,.str _,h|.bool _,.agg _,h|.bool _,.sl _,h|.bool _,.nil,h=>by simp [D.beq] at h
 | .str _,.int _ _,h|.str _,.bool _,h|.str _,.agg _,h|.str _,.sl _,h|.str _,.nil,h=>by simp [D.beq] at h
 | .agg _,.int _ _,h|.agg _,.bool _,h|.agg _,.str _,h|.agg _,.sl _,h|.agg _,.nil,h=>by simp [D.beq] at h
 | .sl _,.int _ _,h|.sl _,.bool _,h|.sl _,.str _,h|.sl _,.agg _,h|.sl _,.nil,h=>by simp [D.beq] at h
 | .nil,.int _ _,h|.nil,.bool _,h|.nil,.str _,h|.nil,.agg _,h|.nil,.sl _,h=>by simp [D.beq] at h
theorem D.beqL_eq:∀ {a b:List D},D.beqL a b=true→a=b
 | [],[],_=>rfl
 | a::l,b::l',h=>by
  simp only [D.beqL,wD0] at h
  rw [D.beq_eq h.1,D.beqL_eq h.2]
 | [],_::_,h=>by simp [D.beqL] at h
 | _::_,[],h=>by simp [D.beqL] at h
end
theorem At.beq_eq {a b:At}(h:a.beq b=true):a=b:=by
 cases a<;>cases b<;>simp only [At.beq] at h<;>first|rw [zad h]|rw [D.beq_eq h]|cases h
def zlh (cx:Cx) (t:TypeId):Ty→Prop
 | .int k=>cx.P.underlying t=some (.int k)
 | .bool=>cx.P.underlying t=some .bool
 | .str=>cx.P.underlying t=some .string
 | .sl e=>∃ E,cx.P.underlying t=some (.slice E)∧cx.T E=e
 | .arr n e=>∃ E,cx.P.underlying t=some (.array n E)∧cx.T E=e
 | .st Ts=>∃ fs,cx.P.underlying t=some (.struct fs)∧Ts=fs.toList.map (fun f=>cx.T f.type)∧zeb cx.T fs.toList 0=true
 | .no=>False
structure TyFact (cx:Cx) (t:TypeId) (T:Ty) (i:TypeInfo):Prop where
 info:cx.P.info? t=some i
 size:i.size=T.size
 zero:∃ z,i.zero=some z∧∀ w M,DVal w M T T.zero z
 known:T.known=true
 desc:zlh cx t T
def ess (o:Oper):Option Tmp×Op×Option (Nat×Bool):=(o.dst,o.op,o.guard)
def zcT (r1 r2 r3 b0 b1:Nat) (o1 o2 o3:Array Oper):Code :=
 .seq (.seq (.region r1 o1 false) (.cond (.tmp 8) .skip (.exit b0))) (.seq (.block b1 (.seq (.region r3 o3 false) (.cond (.tmp 18) .ret .skip))) (.region r2 o2 false))
structure zr4 (P:Program) (f:FuncId) (tS tE:TypeId) (fn:Func) (r0 r1 r2 r3 b0 b1:Nat) (o0 o1 o2 o3:Array Oper) (ti tb:TypeId) (ts:Array TypeId):Prop where
 get:P.funcs[f]?=some fn
 can:ze0 fn=true
 body:fn.body=some (.seq (.region r0 o0 false) (.block b0 (.loop (zcT r1 r2 r3 b0 b1 o1 o2 o3))))
 ntmps:fn.ntmps=19
 res:fn.results=#[]
 e0:o0.toList.map ess=[(some 4,.load tS (.tmp 1),none),(some 5,.call ⟨.builtin .len,#[.tmp 4],#[tS]⟩,none),(some 6,.binOp .sub ti (.tmp 5) (.const (.int .i64 1)) ti,none),(some 3,.assign (.tmp 6),none)]
 e1:o1.toList.map ess=[(some 7,.move (.tmp 3),none),(some 8,.binOp .geq ti (.tmp 7) (.const (.int .i64 0)) ti,none)]
 e2:o2.toList.map ess=[(some 9,.move (.tmp 3),none),(some 10,.binOp .sub ti (.tmp 9) (.const (.int .i64 1)) ti,none),(some 3,.assign (.tmp 10),none)]
 e3:o3.toList.map ess=[(some 11,.move (.tmp 0),none),(some 12,.move (.tmp 3),none),(some 13,.load tS (.tmp 1),none),(some 14,.move (.tmp 3),none),(some 15,.indexAddr tS (.tmp 13) (.tmp 14),none),(some 16,.load tE (.tmp 15),none),
  (some 17,.call ⟨.value (.tmp 11),#[.tmp 12,.tmp 16],ts⟩,none),(some 18,.unOp .not tb (.tmp 17),none)]
def zt0 (P:Program) (p:FuncId×TypeId×TypeId):Prop:=∃ fn r0 r1 r2 r3 b0 b1 o0 o1 o2 o3 ti tb ts,zr4 P p.1 p.2.1 p.2.2 fn r0 r1 r2 r3 b0 b1 o0 o1 o2 o3 ti tb ts
structure TysOk (cx:Cx):Prop where
 ty:∀ t,cx.T t≠.no→∃ i,TyFact cx t (cx.T t) i
 bk:∀ p∈cx.bk,zt0 cx.P p
theorem TysOk.get {cx:Cx}(ty:TysOk cx) {t:TypeId}{T:Ty}(hT:cx.T t=T) (hn:T≠.no):∃ i,TyFact cx t T i:=by
 subst hT
 exact ty.ty t hn
theorem zqS {cx:Cx}{t:TypeId}(h:ztL cx t=true) (hn:cx.T t≠.no):∃ i,TyFact cx t (cx.T t) i:=by
 unfold ztL at h
 have key:∀ T,cx.T t=T→T≠.no→(match cx.P.info? t with
  | none=>false
  | some i =>
   Nat.beq i.size T.size&&(match i.zero with|some z=>(match cvtD T z with|some d=>d.beq T.zero|none=>false)|none=>false)&&T.known &&
   (match T,cx.P.underlying t with
    | .int k,some (.int k')=>decide (k=k')
    | .bool,some .bool=>true
    | .str,some .string=>true
    | .sl e,some (.slice E)=>(cx.T E).beq e
    | .arr n e,some (.array m E)=>Nat.beq n m&&(cx.T E).beq e
    | .st Ts,some (.struct fs)=>Ty.beqL Ts (fs.toList.map fun f=>cx.T f.type)&&zeb cx.T fs.toList 0
    | _,_=>false))=true→∃ i,TyFact cx t T i:=by
  intro T _ hT h
  cases hi:cx.P.info? t with
  | none=>simp [hi] at h
  | some i =>
   simp only [hi,wD0] at h
   obtain ⟨⟨⟨h1,h2⟩,h3⟩,h4⟩:=h
   refine ⟨i,hi,zad h1,?_,h3,?_⟩
   ·cases hz:i.zero with
    | none=>simp [hz] at h2
    | some z =>
     simp only [hz] at h2
     cases hc:cvtD T z with
     | none=>simp [hc] at h2
     | some d =>
      simp only [hc] at h2
      have e:=D.beq_eq h2
      subst e
      exact ⟨z,rfl,fun w M=>zeh hc⟩
   ·cases hu:cx.P.underlying t with
    | none=>rw [hu] at h4;cases T<;>simp at h4
    | some desc =>
     rw [hu] at h4
     cases T<;>cases desc<;>simp only [wD0,decide_eq_true_eq,reduceCtorEq,zlh] at h4 ⊢<;>try exact absurd rfl hT
     ·rw [hu,h4]
     ·exact hu
     ·exact hu
     ·exact ⟨_,hu,Ty.beq_eq h4⟩
     ·exact ⟨_,hu,Ty.beqL_eq h4.1,h4.2⟩
     ·exact ⟨_,by rw [hu,zad h4.1],Ty.beq_eq h4.2⟩
 cases hT:cx.T t with
 | no=>exact absurd hT hn
 | _=>rw [hT] at h;exact key _ hT (by simp) h
theorem zsU {cx:Cx}(h:zpY cx cx.ty.length=true) (hb:∀ p∈cx.bk,zt0 cx.P p):TysOk cx:=by
 refine ⟨fun t hn=>?_,hb⟩
 have hlt:t<cx.ty.length:=by
  rcases Nat.lt_or_ge t cx.ty.length with h|h
  ·exact h
  ·exact absurd (by simp [Cx.T,List.getElem?_eq_none h]) hn
 have:∀ n,zpY cx n=true→∀ t,t<n→ztL cx t=true:=by
  intro n
  induction n with
  | zero=>intro _ t ht;omega
  | succ n ih =>
   intro h t ht
   simp only [zpY,wD0] at h
   rcases Nat.lt_succ_iff_lt_or_eq.1 ht with h1|h1
   ·exact ih h.2 t h1
   ·rw [h1];exact h.1
 exact zqS (this _ h t hlt) hn
def FR (ro:Option Nat):Fence:={ Fence.wide with round:=ro }
theorem zuw {ro:Option Nat}{n:Nat}{P:Program}{f:FuncId}{args:Array Value}{w:World}{R:Ending→World→Prop}(h:Calls P f args w R):CallsIn (FR ro) n P f args w R:=(callsIn_wide (n:=n)).2 h
theorem zru {ro:Option Nat}{n:Nat}:(FR ro).room n:=fun d h=>by cases h
theorem zl5 {ro:Option Nat}{ρ:Operand→Value}{o:Oper}{P:Program}{w w':World}{x:Next}(h:(execOp ρ o).run P w=.ok x w') (hx:∀ d,x≠.defer d):(o.semAt ro ρ).run P w=.ok x w':=by
 rw [Oper.semAt_eq ro ρ o fun c hc=>?_]
 ·exact h
 ·unfold execOp at h
  rw [hc] at h
  cases hr:(resolve ρ c o.type).run P w with
  | ok d w1 =>
   simp [hr,Result.andThen] at h
   exact hx d h.1.symm
  | halt y w1 =>
   simp [hr,Result.andThen] at h
def Out (P:Program) (o:Oper) (a:Act) (w:World) (R:Value→World→Prop):Prop :=
 ∀ (ro:Option Nat) (next:Act→World→Prop) (Q:Exit→Act→World→Prop),(∀ v w',R v w'→next (a.put o.dst v) w')→o.wpIn (FR ro) 0 P a w next Q
theorem Out.value {P:Program}{o:Oper}{a:Act}{w:World}{R:Value→World→Prop}{v:Value}{w':World}(h:(execOp a.eval o).run P w=.ok (.value v) w') (hR:R v w'):Out P o a w R:=fun ro next Q hn=>by
 refine ⟨fun _ _=>trivial,?_⟩
 show o.uponIn _ _ P a next Q ((o.semAt ro a.eval).run P w)
 rw [zl5 h fun d e=>by cases e]
 exact hn v w' hR
theorem Out.skip {P:Program}{o:Oper}{a:Act}{w:World}{R:Value→World→Prop}{w':World}(h:(execOp a.eval o).run P w=.ok .skip w') (hR:R undef w'):Out P o a w R:=fun ro next Q hn=>by
 refine ⟨fun _ _=>trivial,?_⟩
 show o.uponIn _ _ P a next Q ((o.semAt ro a.eval).run P w)
 rw [zl5 h fun d e=>by cases e]
 exact hn undef w' hR
theorem Out.enter {P:Program}{o:Oper}{a:Act}{w:World}{R:Value→World→Prop}{f:FuncId}{args:Array Value}{w':World}(h:(execOp a.eval o).run P w=.ok (.enter f args) w')
  (hC:Calls P f args w' fun e w''=>∃ v,e=.returned v∧R v w''):Out P o a w R:=fun ro next Q hn=>by
 refine ⟨fun _ _=>trivial,?_⟩
 show o.uponIn _ _ P a next Q ((o.semAt ro a.eval).run P w)
 rw [zl5 h fun d e=>by cases e]
 refine ⟨(fun hd=>by cases hd),zuw (ro:=ro) ?_⟩
 refine hC.mono fun e w'' he=>?_
 obtain ⟨v,he,hR⟩:=he
 subst he
 exact hn v w'' hR
structure Nx (B0:Nat) (X X':Ctx) (up:List (Nat×Root)) (ab ab':Nat) (w':World):Prop where
 E:X'.E=X.E
 w:X'.w=w'
 μ:X'.μ=now X.μ up
 A:∀ r,X'.A r↔X.A r∨(ab≤r∧r<ab')
 ext:Ext X X'
 mem:Mem B0 X'
 below:Below B0 X.w w'
def Holds (P:Program) (B0:Nat) (o:Oper) (a:Act) (X:Ctx) (sv:SV) (ab:Nat) (s':SS):Prop :=
 Out P o a X.w fun v w'=>∃ X',Nx B0 X X' s'.up ab s'.ab w'∧VRep X' sv v
theorem zar (μ:Nat→Root):now μ []=μ:=rfl
theorem Nx.same {B0:Nat}{X:Ctx}{up:List (Nat×Root)}{ab:Nat}(x:Ext X (X.mv up)) (m:Mem B0 (X.mv up)):Nx B0 X (X.mv up) up ab ab X.w where
 E:=rfl
 w:=rfl
 μ:=rfl
 A:=fun r=>⟨fun h=>.inl h,fun h=>h.elim id fun h=>by omega⟩
 ext:=x
 mem:=m
 below:=Below.refl _ _
theorem zej {C:FuncId→List D→Option (List D)}{k B0:Nat}{X:Ctx}(hB:B0≤X.w.heap.size) {fz:Bool}{s:SV}{T:Ty}{σ σ':SS}{a:At}{v:Value}(h:Run (SV.view fz T s) X.μ σ a σ') (hs:Sat C k X.E σ'.bs σ'.nv)
  (m:Mem B0 (X.mv σ.up)) (hv:VRep (X.mv σ.up) s v) :
  Ext (X.mv σ.up) (X.mv σ'.up)∧Mem B0 (X.mv σ'.up)∧(fz=false→σ'.up=σ.up)∧σ'.ab=σ.ab∧∃ d,a.get X.E=some d∧DVal X.w (seen fz (X.mv σ'.up)) T d v:=by
 have one:∀ {v:Value} {e:Ty},T=.sl e→CRep (X.mv σ.up) s [v]→Ext (X.mv σ.up) (X.mv σ'.up)∧Mem B0 (X.mv σ'.up)∧(fz=false→σ'.up=σ.up)∧σ'.ab=σ.ab∧∃ d,a.get X.E=some d∧DVal X.w (seen fz (X.mv σ'.up)) T d v:=by
  intro v e hT hc
  obtain ⟨x,m',hf,hab,d,h1,h2⟩:=zfD hB h hs m hc
  refine ⟨x,m',hf,hab,d,h1,?_⟩
  subst hT
  unfold DVal
  simp only [Ty.isAgg,wA0,if_false]
  exact ⟨DRep.one rfl h2,h2⟩
 have isSl:∀ {e:Ty},(∃ s1 n,Run (SX.X.guard n (T.beq (.sl e))) X.μ σ () s1)→T=.sl e:=fun ⟨_,_,hg⟩=>Ty.beq_eq (Run.guard hg).1
 cases s with
 | un n=>simp only [SV.view] at h;exact (Run.fail h).elim
 | tu l=>simp only [SV.view] at h;exact (Run.fail h).elim
 | fn _ _ _=>simp only [SV.view] at h;exact (Run.fail h).elim
 | p _ _ _ _=>simp only [SV.view] at h;exact (Run.fail h).elim
 | pm _ _ _ _ _ _=>simp only [SV.view] at h;exact (Run.fail h).elim
 | pd _ _=>simp only [SV.view] at h;exact (Run.fail h).elim
 | hc _ _ _=>simp only [SV.view] at h;exact (Run.fail h).elim
 | mr _ _ _=>simp only [SV.view] at h;exact (Run.fail h).elim
 | cv v' =>
  simp only [SV.view] at h
  simp only [VRep] at hv
  subst hv
  cases hx:cvtD T v with
  | none=>rw [hx] at h;exact (Run.fail h).elim
  | some x =>
   rw [hx] at h
   obtain ⟨e1,e2⟩:=Run.pure h
   subst e1 e2
   exact ⟨Ext.refl _,m,fun _=>rfl,rfl,x,rfl,zeh hx⟩
 | d T' a' =>
  simp only [SV.view] at h
  split at h
  ·rename_i hb
   have he:=Ty.beq_eq hb
   subst he
   obtain ⟨e1,e2⟩:=Run.pure h
   subst e1 e2
   simp only [VRep] at hv
   obtain ⟨d,h1,h2⟩:=hv
   refine ⟨Ext.refl _,m,fun _=>rfl,rfl,d,h1,?_⟩
   unfold DVal
   have K:Keeps X.w X.w (X.mv σ'.up).M (seen fz (X.mv σ'.up)):=by
    cases fz with
    | true=>exact ⟨fun _ _ _=>rfl,fun _ _ h=>h⟩
    | false=>exact ⟨fun _ _ _=>rfl,fun _ _ _ h=>h⟩
   split
   ·rename_i c;rw [if_pos c] at h2;obtain ⟨cs,h3,h4⟩:=h2;exact ⟨cs,h3,h4.keep K⟩
   ·rename_i c;rw [if_neg c] at h2;exact ⟨h2.1,h2.2.keep K⟩
  ·exact (Run.fail h).elim
 | ag T' l =>
  have hT:T'=T:=by
   unfold SV.view at h
   obtain ⟨_,s1,h1,_⟩:=Run.bind h
   exact Ty.beq_eq (Run.guard h1).1
  subst hT
  cases T' with
  | st Ts =>
   simp only [VRep] at hv
   obtain ⟨cs,h1,h2⟩:=hv
   obtain ⟨x,m',hf,hab,d,h3,h4⟩:=zfD hB h hs m (cs:=cs.toList) (by simp only [CRep];exact h2)
   refine ⟨x,m',hf,hab,d,h3,?_⟩
   unfold DVal
   simp only [Ty.isAgg,if_true]
   exact ⟨cs,h1,h4⟩
  | _=>simp only [VRep] at hv
 | h e r vw =>
  have hT:=isSl (e:=e) (by simp only [SV.view] at h;obtain ⟨_,s1,h1,_⟩:=Run.bind h;exact ⟨s1,_,h1⟩)
  exact one hT (by simp only [VRep] at hv;simp only [CRep];exact ⟨v,rfl,hv⟩)
 | hr e r i g =>
  have hT:=isSl (e:=e) (by simp only [SV.view] at h;obtain ⟨_,s1,h1,_⟩:=Run.bind h;exact ⟨s1,_,h1⟩)
  exact one hT (by simp only [VRep] at hv;simp only [CRep];exact ⟨v,rfl,hv⟩)
 | z e a' =>
  have hT:=isSl (e:=e) (by simp only [SV.view] at h;obtain ⟨_,s1,h1,_⟩:=Run.bind h;exact ⟨s1,_,h1⟩)
  exact one hT (by simp only [VRep] at hv;simp only [CRep];exact ⟨v,rfl,hv⟩)
 | hb R e n r q =>
  have hT:T=.sl e:=by
   simp only [SV.view] at h
   obtain ⟨_,s1,h1,_⟩:=Run.bind h
   have:=(Run.guard h1).1
   simp only [wD0] at this
   exact Ty.beq_eq this.1
  exact one hT (by simp only [VRep] at hv;simp only [CRep];exact ⟨v,rfl,hv⟩)
end Go.SX
namespace Go.SX
open Go.RowKit (Below)
section
variable {X:Ctx}
theorem VRep.data {T:Ty}{a:At}{v:Value}:VRep X (.d T a) v↔∃ d,a.get X.E=some d∧DVal X.w X.M T d v:=by
 simp only [VRep,DVal]
theorem DVal.int {w:World}{M:Nat→Prop}{k:IntKind}{d:D}{v:Value}(h:DVal w M (.int k) d v):∃ n,d=.int k n∧v=.int k n:=by
 unfold DVal at h
 simp only [Ty.isAgg,wA0,if_false] at h
 obtain ⟨_,h⟩:=h
 cases d<;>simp only [DRep] at h
 obtain ⟨e,h⟩:=h
 subst e
 injection h with h
 exact ⟨_,rfl,h⟩
theorem DVal.bool {w:World}{M:Nat→Prop}{d:D}{v:Value}(h:DVal w M .bool d v):∃ b,d=.bool b∧v=.bool b:=by
 unfold DVal at h
 simp only [Ty.isAgg,wA0,if_false] at h
 obtain ⟨_,h⟩:=h
 cases d<;>simp only [DRep] at h
 injection h with h
 exact ⟨_,rfl,h⟩
theorem DVal.str {w:World}{M:Nat→Prop}{d:D}{v:Value}(h:DVal w M .str d v):∃ b,d=.str b∧v=.string b:=by
 unfold DVal at h
 simp only [Ty.isAgg,wA0,if_false] at h
 obtain ⟨_,h⟩:=h
 cases d<;>simp only [DRep] at h
 injection h with h
 exact ⟨_,rfl,h⟩
theorem DVal.of_int {w:World}{M:Nat→Prop}(k:IntKind) (n:Int):DVal w M (.int k) (.int k n) (.int k n):=by
 unfold DVal
 simp only [Ty.isAgg,wA0,if_false]
 exact ⟨⟨by simp,by simp⟩,rfl,rfl⟩
theorem DVal.of_bool {w:World}{M:Nat→Prop}(b:Bool):DVal w M .bool (.bool b) (.bool b):=by
 unfold DVal
 simp only [Ty.isAgg,wA0,if_false]
 exact ⟨⟨by simp,by simp⟩,rfl⟩
theorem DVal.of_str {w:World}{M:Nat→Prop}(b:ByteArray):DVal w M .str (.str b) (.string b):=by
 unfold DVal
 simp only [Ty.isAgg,wA0,if_false]
 exact ⟨⟨by simp,by simp⟩,rfl⟩
theorem zss {T:Ty}{s:SV}{v:Value}(h:VRep X s v):VRep X (asg T s) v:=by
 unfold asg
 split
 ·rename_i v'
  split
  ·rename_i d hd
   simp only [VRep] at h
   subst h
   exact VRep.data.2 ⟨d,rfl,zeh hd⟩
  ·exact h
 ·exact h
theorem zaI {s:SV}{v:Value}(h:VRep X s v):VRep X (simple s) v:=by
 unfold simple
 split
 ·simp only [VRep] at h;subst h;exact VRep.data.2 ⟨_,rfl,DVal.of_int _ _⟩
 ·simp only [VRep] at h;subst h;exact VRep.data.2 ⟨_,rfl,DVal.of_bool _⟩
 ·simp only [VRep] at h;subst h;exact VRep.data.2 ⟨_,rfl,DVal.of_str _⟩
 ·exact h
theorem zaa {ρ:Tmp→SV}{a:Act}(h:∀ t,VRep X (ρ t) (a.tmps.getD t undef)) (x:Operand):VRep X (opnd ρ x) (a.eval x):=by
 cases x with
 | tmp t=>exact h t
 | const v=>simp [opnd,VRep,Act.eval]
 | global g=>simp only [opnd,VRep]
 | func f=>simp only [opnd,VRep,Act.eval];exact ⟨#[],#[],rfl,rfl,rfl⟩
variable {C:FuncId→List D→Option (List D)} {k B0:Nat}
theorem za8 {s:SV}{μ:Nat→Root}{σ σ':SS}{q:IntKind×At}(h:Run (zeH s) μ σ q σ') {v:Value}(hv:VRep X s v) :
  σ'=σ∧∃ n,q.2.get X.E=some (.int q.1 n)∧v=.int q.1 n:=by
 unfold zeH at h
 have hv':=zaI hv
 split at h
 ·rename_i k' a' he
  obtain ⟨e1,e2⟩:=Run.pure h
  subst e1 e2
  rw [he] at hv'
  obtain ⟨d,h1,h2⟩:=VRep.data.1 hv'
  obtain ⟨n,e1,e2⟩:=h2.int
  subst e1
  exact ⟨rfl,n,h1,e2⟩
 ·exact (Run.fail h).elim
theorem zsQ {s:SV}{μ:Nat→Root}{σ σ':SS}{q:Ty×At}(h:Run (atD s) μ σ q σ') {v:Value}(hv:VRep X s v) :
  σ'=σ∧∃ d,q.2.get X.E=some d∧DVal X.w X.M q.1 d v:=by
 unfold atD at h
 have hv':=zaI hv
 split at h
 ·rename_i T' a' he
  obtain ⟨e1,e2⟩:=Run.pure h
  subst e1 e2
  rw [he] at hv'
  exact ⟨rfl,VRep.data.1 hv'⟩
 ·exact (Run.fail h).elim
end
section
variable {P:Program} {w:World}
theorem ztO {op:BinOp}{k:IntKind}{a b:Int}{d:D}(t:TypeId) (ho:zey op=false) (h:binI op k a b=some d) :
  ∃ v,(binOp op t (.int k a) (.int k b)).run P w=.ok v w∧∀ M,DVal w M (if zra op then .bool else .int k) d v:=by
 cases op<;>simp only [zey,Bool.true_eq_false] at ho<;>simp only [binI,wB0] at h
 case quo =>
  split at h
  ·cases h
  ·rename_i hb
   injection h with h
   subst h
   refine ⟨.int k (k.wrap (a.tdiv b)),?_,fun M=>DVal.of_int _ _⟩
   simp only [binOp,ne_eq,not_true_eq_false,if_false,Op.intDiv,if_neg hb]
   rfl
 case rem =>
  split at h
  ·cases h
  ·rename_i hb
   injection h with h
   subst h
   refine ⟨.int k (a.tmod b),?_,fun M=>DVal.of_int _ _⟩
   simp only [binOp,ne_eq,not_true_eq_false,if_false,Op.intDiv,if_neg hb]
   rfl
 all_goals
  subst h
  simp only [binOp,ne_eq,not_true_eq_false,if_false,Op.intArith,Op.intBits,Op.intCmp]
  first
   | exact ⟨_,rfl,fun M=>DVal.of_int _ _⟩
   | exact ⟨_,rfl,fun M=>DVal.of_bool _⟩
theorem zuU {op:BinOp}{k k':IntKind}{a b:Int}{d:D}(t:TypeId) (ho:zey op=true) (h:shI op k a b=some d) :
  ∃ v,(binOp op t (.int k a) (.int k' b)).run P w=.ok v w∧∀ M,DVal w M (.int k) d v:=by
 unfold shI at h
 split at h
 ·cases h
 ·rename_i hb
  cases op<;>simp only [zey,wA0] at ho<;>simp only [wB0] at h<;>subst h <;>
   simp only [binOp,Op.shift,if_neg hb]
  ·exact ⟨_,rfl,fun M=>DVal.of_int _ _⟩
  ·exact ⟨_,rfl,fun M=>DVal.of_int _ _⟩
theorem zs1 {op:BinOp}{t:TypeId}{x y:Operand}{k k':IntKind}{a b:Int}:(eqGuard op t x y (.int k a) (.int k' b)).run P w=.ok () w:=by
 unfold eqGuard
 cases op<;>rfl
theorem zqX {op:BinOp}{t:TypeId}{x y:Operand}{a b:Bool}:(eqGuard op t x y (.bool a) (.bool b)).run P w=.ok () w:=by
 unfold eqGuard
 cases op<;>rfl
theorem zrM {op:BinOp}{t:TypeId}{x y:Operand}{a b:ByteArray}:(eqGuard op t x y (.string a) (.string b)).run P w=.ok () w:=by
 unfold eqGuard
 cases op<;>rfl
theorem zln:∀ (a b:List UInt8),zcL a b=Op.bytesLess a b
 | _,[]=>by simp [zcL,Op.bytesLess]
 | [],_::_=>by simp [zcL,Op.bytesLess]
 | a::x,b::y=>by simp [zcL,Op.bytesLess,zln x y]
theorem zty {op:BinOp}{a b:ByteArray}{d:D}(t:TypeId) (h:binS op a b=some d) :
  ∃ v,(binOp op t (.string a) (.string b)).run P w=.ok v w∧∀ M,DVal w M (if zra op then .bool else .str) d v:=by
 cases op<;>simp only [binS,wB0,reduceCtorEq] at h<;>simp only [binOp,Op.stringOp,ByteArray.toList_eq,← zln]
 case add =>
  split at h
  ·rename_i h1
   injection h with h
   subst h
   rw [if_neg (by simp only [IntKind.max,IntKind.signed,IntKind.bits,if_true];omega)]
   exact ⟨_,rfl,fun M=>DVal.of_str _⟩
  ·cases h
 all_goals (subst h;exact ⟨_,rfl,fun M=>DVal.of_bool _⟩)
end
end Go.SX
