/- Part 1 of a checked symbolic executor: what a function's code does is read off as a tree over plain data. No condition. -/
import Derived.OrdersIn
import Derived.Below
import Derived.Laws.Strings
set_option linter.unusedSimpArgs false
set_option linter.unusedVariables false
namespace Go.SX
theorem vA0:type_of% @Nat.zero_add:=@Nat.zero_add
theorem vB0:type_of% @List.append_assoc:=@List.append_assoc
theorem vC0:type_of% @decide_eq_true:=@decide_eq_true
theorem vD0:type_of% @decide_eq_false:=@decide_eq_false
theorem vE0:type_of% @decide_true:=@decide_true
theorem vF0:type_of% @decide_false:=@decide_false
theorem vG0:type_of% @decide_eq_true_eq:=@decide_eq_true_eq
theorem vH0:type_of% @Bool.not_false:=@Bool.not_false
theorem vI0:type_of% @List.mem_cons_of_mem:=@List.mem_cons_of_mem
theorem vJ0:type_of% @Array.getD_eq_getD_getElem?:=@Array.getD_eq_getD_getElem?
theorem vK0:type_of% @Nat.mul_le_mul_right:=@Nat.mul_le_mul_right
theorem vL0:type_of% @List.append_nil:=@List.append_nil
theorem vM0:type_of% @List.map_cons:=@List.map_cons
theorem vN0:type_of% @List.length_set:=@List.length_set
theorem vO0:type_of% @List.getElem?_eq_none:=@List.getElem?_eq_none
theorem vP0:type_of% @List.length_drop:=@List.length_drop
theorem vQ0:type_of% @List.mem_append_left:=@List.mem_append_left
theorem vR0:type_of% @Int.toNat_of_nonneg:=@Int.toNat_of_nonneg
theorem vS0:type_of% @Nat.lt_or_ge:=@Nat.lt_or_ge
theorem vT0:type_of% @Nat.mod_eq_of_lt:=@Nat.mod_eq_of_lt
theorem vU0:type_of% @List.getElem?_set_ne:=@List.getElem?_set_ne
theorem vV0:type_of% @Nat.min_eq_left:=@Nat.min_eq_left
theorem vW0:type_of% @Bool.true_and:=@Bool.true_and
theorem vX0:type_of% @Bool.false_and:=@Bool.false_and
theorem wA0:type_of% @Bool.false_eq_true:=@Bool.false_eq_true
theorem wB0:type_of% @Option.some.injEq.{0}:=@Option.some.injEq.{0}
theorem wC0:type_of% @Option.bind_some.{0,0}:=@Option.bind_some.{0,0}
theorem wD0:type_of% @Bool.and_eq_true:=@Bool.and_eq_true
theorem wE0:type_of% @List.length_take.{0}:=@List.length_take.{0}
theorem wF0:type_of% @List.getElem?_eq_getElem.{0}:=@List.getElem?_eq_getElem.{0}
theorem wG0:type_of% @Nat.le_refl:=@Nat.le_refl
theorem wH0:type_of% @Bool.not_true:=@Bool.not_true
theorem wI0:type_of% @List.length_append.{0}:=@List.length_append.{0}
inductive Ty where
 | int (k:IntKind)|bool|str|sl (e:Ty)|st (l:List Ty)|arr (n:Nat) (e:Ty)|no
inductive D where
 | int (k:IntKind) (n:Int)|bool (b:Bool)|str (s:ByteArray)|agg (l:List D)|sl (l:List D)|nil
mutual
def Ty.size:Ty→Nat
 | .st l=>Ty.sizeL l
 | .arr n e=>n * e.size
 | .int _=>1|.bool=>1|.str=>1|.sl _=>1|.no=>1
def Ty.sizeL:List Ty→Nat
 | []=>0
 | t::l=>t.size + Ty.sizeL l
end
def Ty.isAgg:Ty→Bool|.st _=>true|.arr ..=>true|_=>false
mutual
def Ty.beq:Ty→Ty→Bool
 | .int k,.int k'=>decide (k=k')
 | .bool,.bool=>true
 | .str,.str=>true
 | .sl e,.sl e'=>e.beq e'
 | .st l,.st l'=>Ty.beqL l l'
 | .arr n e,.arr n' e'=>Nat.beq n n'&&e.beq e'
 | .no,.no=>true
 | _,_=>false
def Ty.beqL:List Ty→List Ty→Bool
 | [],[]=>true
 | a::l,b::l'=>a.beq b&&Ty.beqL l l'
 | _,_=>false
end
mutual
def Ty.flat:Ty→Bool
 | .sl _=>false
 | .st l=>Ty.flatL l
 | .arr _ e=>e.flat
 | _=>true
def Ty.flatL:List Ty→Bool
 | []=>true
 | t::l=>t.flat&&Ty.flatL l
end
mutual
def Ty.known:Ty→Bool
 | .no=>false
 | .sl e=>e.known
 | .st l=>Ty.knownL l
 | .arr _ e=>e.known
 | _=>true
def Ty.knownL:List Ty→Bool
 | []=>true
 | t::l=>t.known&&Ty.knownL l
end
mutual
def D.beq:D→D→Bool
 | .int k n,.int k' n'=>decide (k=k')&&decide (n=n')
 | .bool b,.bool c=>b==c
 | .str s,.str t=>decide (s.data.toList=t.data.toList)
 | .agg l,.agg l'=>D.beqL l l'
 | .sl l,.sl l'=>D.beqL l l'
 | .nil,.nil=>true
 | _,_=>false
def D.beqL:List D→List D→Bool
 | [],[]=>true
 | a::l,b::l'=>a.beq b&&D.beqL l l'
 | _,_=>false
end
mutual
def Ty.zero:Ty→D
 | .int k=>.int k 0
 | .bool=>.bool false
 | .str=>.str ⟨#[]⟩
 | .sl _=>.nil
 | .st l=>.agg (Ty.zeroL l)
 | .arr n e=>.agg (List.replicate n e.zero)
 | .no=>.nil
def Ty.zeroL:List Ty→List D
 | []=>[]
 | t::l=>t.zero::Ty.zeroL l
end
def D.els:D→Option (List D)
 | .sl l=>some l
 | .nil=>some []
 | _=>none
inductive Prim where
 | bin (op:BinOp)|un (op:UnOp)|conv (k:IntKind)
 | len|get|set|fld (j:Nat)|setf (j:Nat)|mk|mks
 | sub|app (by_:Nat)|zext (z:D) (by_:Nat)|rep (z:D) (by_:Nat)|clone (by_:Nat)
 | idx|idxn (n:Nat)|idxv|rng|pick|isnil|eqv|slen|sget|ssub|tosl|clr (z:D)|cpy|cpyv|appv (by_:Nat)|eqi|vlen|vadd|rng3|rngv|min2|max2|b2s|s2b|nn|mhas|mget (z:D)|mput
def binI (op:BinOp) (k:IntKind) (a b:Int):Option D :=
 match op with
 | .add=>some (.int k (k.wrap (a + b)))
 | .sub=>some (.int k (k.wrap (a - b)))
 | .mul=>some (.int k (k.wrap (a * b)))
 | .quo=>if b=0 then none else some (.int k (k.wrap (a.tdiv b)))
 | .rem=>if b=0 then none else some (.int k (a.tmod b))
 | .and=>some (.int k (k.wrap (BitVec.ofInt k.bits a &&& BitVec.ofInt k.bits b).toNat))
 | .or=>some (.int k (k.wrap (BitVec.ofInt k.bits a ||| BitVec.ofInt k.bits b).toNat))
 | .xor=>some (.int k (k.wrap (BitVec.ofInt k.bits a^^^BitVec.ofInt k.bits b).toNat))
 | .andNot=>some (.int k (k.wrap (BitVec.ofInt k.bits a &&& ~~~(BitVec.ofInt k.bits b)).toNat))
 | .eql=>some (.bool (a==b))
 | .neq=>some (.bool (a != b))
 | .lss=>some (.bool (a<b))
 | .leq=>some (.bool (a≤b))
 | .gtr=>some (.bool (a>b))
 | .geq=>some (.bool (a≥b))
 | _=>none
def shI (op:BinOp) (k:IntKind) (a b:Int):Option D :=
 if b<0 then none else
 match op with
 | .shl=>some (.int k (k.wrap (a * 2 ^ (min b.toNat k.bits))))
 | .shr=>some (.int k (a.fdiv (2 ^ (min b.toNat k.bits))))
 | _=>none
def binB (op:BinOp) (a b:Bool):Option D :=
 match op with
 | .eql=>some (.bool (a==b))
 | .neq=>some (.bool (!(a==b)))
 | _=>none
def znA:List UInt8→List UInt8→Bool
 | _,[]=>false
 | [],_::_=>true
 | a::x,b::y=>a<b||(a==b&&znA x y)
def binS (op:BinOp) (a b:ByteArray):Option D :=
 let eq:=a.data.toList==b.data.toList
 let lt:=znA a.data.toList b.data.toList
 match op with
 | .add=>if a.size + b.size≤17592186044416 then some (.str (a++b)) else none
 | .eql=>some (.bool eq)
 | .neq=>some (.bool !eq)
 | .lss=>some (.bool lt)
 | .leq=>some (.bool (lt||eq))
 | .gtr=>some (.bool !(lt||eq))
 | .geq=>some (.bool !lt)
 | _=>none
def binD (op:BinOp):D→D→Option D
 | .int k a,.int k' b =>
  match op with
  | .shl|.shr=>shI op k a b
  | _=>if k=k' then binI op k a b else none
 | .bool a,.bool b=>binB op a b
 | .str a,.str b=>binS op a b
 | _,_=>none
def unD (op:UnOp):D→Option D
 | .int k n =>
  match op with
  | .neg=>some (.int k (k.wrap (0 - n)))
  | .xor=>some (.int k (k.wrap (BitVec.ofInt k.bits (if k.signed then -1 else k.max)^^^BitVec.ofInt k.bits n).toNat))
  | _=>none
 | .bool b=>match op with|.not=>some (.bool !b)|_=>none
 | _=>none
def zcm (n by_:Nat):Bool:=decide (n * by_≤17592186044416)&&decide (n≤17592186044416)
def appD (by_:Nat) (s x:D):Option D :=
 match s.els,x.els with
 | some l,some m =>
  if zcm (l.length + m.length) by_ then
   some (match s,m with|.nil,[]=>.nil|_,_=>.sl (l++m))
  else none
 | _,_=>none
def zgq:List D→Option (List UInt8)
 | []=>some []
 | .int .u8 n::l=>match zgq l with|some r=>some (UInt8.ofNat n.toNat::r)|none=>none
 | _=>none
def zz6 (k:D):List D→Option (Option D)
 | []=>some none
 | .agg [k',v]::l=>if k.beq k' then some (some v) else zz6 k l
 | _::_=>none
def zvy (k v:D):List D→Option (List D)
 | []=>some [.agg [k,v]]
 | .agg [k',v']::l=>if k.beq k' then some (.agg [k,v]::l) else match zvy k v l with|some m=>some (.agg [k',v']::m)|none=>none
 | _::_=>none
def Prim.run:Prim→List D→Option D
 | .bin op,[a,b]=>binD op a b
 | .un op,[a]=>unD op a
 | .conv k,[.int _ n]=>some (.int k (k.wrap n))
 | .len,[.sl l]=>some (.int .i64 l.length)
 | .len,[.nil]=>some (.int .i64 0)
 | .get,[.sl l,.int _ i]=>if 0≤i then l[i.toNat]? else none
 | .get,[.agg l,.int _ i]=>if 0≤i then l[i.toNat]? else none
 | .set,[.sl l,.int _ i,v]=>if 0≤i∧i<l.length then some (.sl (l.set i.toNat v)) else none
 | .set,[.agg l,.int _ i,v]=>if 0≤i∧i<l.length then some (.agg (l.set i.toNat v)) else none
 | .fld j,[.agg l]=>l[j]?
 | .setf j,[.agg l,v]=>if j<l.length then some (.agg (l.set j v)) else none
 | .mk,l=>some (.agg l)
 | .mks,l=>some (.sl l)
 | .sub,[.sl l,.int _ lo,.int _ hi]=>if 0≤lo∧lo≤hi∧hi≤l.length then some (.sl ((l.take hi.toNat).drop lo.toNat)) else none
 | .sub,[.nil,.int _ lo,.int _ hi]=>if lo=0∧hi=0 then some .nil else none
 | .app b,[s,x]=>appD b s x
 | .zext z b,[s,.int _ n]=>if 0≤n then appD b s (.sl (List.replicate n.toNat z)) else none
 | .rep z b,[.int _ n,.int _ c]=>if 0≤n∧n≤c∧zcm c.toNat b then some (.sl (List.replicate n.toNat z)) else none
 | .clone b,[s]=>match s.els with|some l=>if zcm l.length b then some s else none|none=>none
 | .idx,[.sl l,.int k i]=>if 0≤i∧i<l.length then some (.int k i) else none
 | .idxn n,[.int k i]=>if 0≤i∧i<n then some (.int k i) else none
 | .idxv,[.int _ lo,.int _ hi,.int _ i]=>if 0≤i∧i<hi - lo then some (.int .i64 (lo + i)) else none
 | .rng,[s,.int _ lo,.int _ hi]=>match s.els with|some l=>if 0≤lo∧lo≤hi∧hi≤l.length then some (.int .i64 hi) else none|none=>none
 | .pick,[.bool c,a,b]=>some (if c then a else b)
 | .isnil,[.nil]=>some (.bool true)
 | .isnil,[.sl _]=>some (.bool false)
 | .eqv,[a,b]=>some (.bool (a.beq b))
 | .slen,[.str s]=>some (.int .i64 s.size)
 | .sget,[.str s,.int _ i]=>if 0≤i then (s[i.toNat]?).map fun b=>.int .u8 b.toNat else none
 | .ssub,[.str s,.int _ lo,.int _ hi]=>if 0≤lo∧lo≤hi∧hi≤s.size then some (.str (s.extract lo.toNat hi.toNat)) else none
 | .tosl,[.agg l]=>some (.sl l)
 | .clr z,[.sl l]=>some (.sl (List.replicate l.length z))
 | .clr _,[.nil]=>some .nil
 | .cpy,[.agg l,x]=>match x.els with|some m=>some (.agg (m.take l.length++l.drop m.length))|none=>none
 | .cpy,[.sl l,x]=>match x.els with|some m=>some (.sl (m.take l.length++l.drop m.length))|none=>none
 | .cpyv,[s,.int _ lo,.int _ hi,x]=>match s.els,x.els with
  | some l,some m=>if 0≤lo∧lo≤hi∧hi≤l.length then
    some (match s with|.nil=>.nil|_=>.sl (l.take lo.toNat++(m.take (hi - lo).toNat++l.drop (lo.toNat + (m.take (hi - lo).toNat).length))))
   else none
  | _,_=>none
 | .appv b,[s,.int _ hi,x]=>match s.els,x.els with
  | some l,some m=>if 0≤hi∧hi≤l.length∧zcm (hi.toNat + m.length) b then
    some (match s,m with|.nil,[]=>.nil|_,_=>.sl (l.take hi.toNat++(m++l.drop (hi.toNat + m.length))))
   else none
  | _,_=>none
 | .vlen,[.int _ lo,.int _ hi]=>some (.int .i64 (hi - lo))
 | .vadd,[.int _ x,.int _ y]=>some (.int .i64 (x + y))
 | .eqi,[.int _ x,.int k y]=>if x=y then some (.int k y) else none
 | .rng3,[s,.int _ lo,.int _ hi,.int _ mx]=>match s.els with|some l=>if 0≤lo∧lo≤hi∧hi≤mx∧mx=l.length then some (.int .i64 hi) else none|none=>none
 | .rngv,[s,.int _ lo,.int _ l,.int _ h]=>match s.els with|some xs=>if 0≤lo∧0≤l∧l≤h∧lo + h≤xs.length then some (.int .i64 (lo + h)) else none|none=>none
 | .nn,[.sl l]=>some (.sl l)
 | .b2s,[x]=>match x.els with|some l=>(zgq l).map fun b=>.str ⟨b.toArray⟩|none=>none
 | .s2b,[.str s]=>some (.sl (s.data.toList.map fun b=>.int .u8 b.toNat))
 | .min2,[.int k x,.int k' y]=>if k=k' then some (.int k (if y<x then y else x)) else none
 | .max2,[.int k x,.int k' y]=>if k=k' then some (.int k (if y>x then y else x)) else none
 | .mhas,[m,k]=>match m.els with|some l=>(match zz6 k l with|some o=>some (.bool o.isSome)|none=>none)|none=>none
 | .mget z,[m,k]=>match m.els with|some l=>(match zz6 k l with|some o=>some (o.getD z)|none=>none)|none=>none
 | .mput,[m,k,v]=>match m.els with|some l=>(match zvy k v l with|some m=>some (.sl m)|none=>none)|none=>none
 | _,_=>none
inductive At where|v (i:Nat)|c (d:D)
inductive Stp where|f (j:Nat)|i (a:At)
def At.get (E:List D):At→Option D
 | .v i=>E[i]?
 | .c d=>some d
def At.beq:At→At→Bool
 | .v i,.v j=>Nat.beq i j
 | .c a,.c b=>a.beq b
 | _,_=>false
inductive SV where
 | un (n:Nat)
 | cv (v:Value)
 | d (T:Ty) (a:At)
 | ag (T:Ty) (l:List SV)
 | h (e:Ty) (r:Nat) (vw:Option (At×At))
 | z (e:Ty) (a:At)
 | p (R T:Ty) (r:Nat) (path:List Stp)
 | pd (T:Ty) (a:At)
 | hb (R e:Ty) (n:Nat) (r:Nat) (path:List Stp)
 | hr (e:Ty) (r:Nat) (ix:At) (g:Nat)
 | hc (e:Ty) (r:Nat) (hi:At)
 | pm (e T:Ty) (r:Nat) (ix:At) (path:List Stp) (g:Nat)
 | fn (f:FuncId) (fst cap:List SV)
 | tu (l:List SV)
 | mr (K V:Ty) (r:Nat)
inductive Root where
 | dead
 | box (T:Ty) (v:SV)
 | row (e:Ty) (a:At)
 | mat (e:Ty) (a:At) (g:Nat)
 | fz (e:Ty) (a:At)
 | mp (K V:Ty) (a:At)
 | lt (e:Ty) (a:At) (r:Nat)
 | bo (e:Ty) (a:At)
 | ow (e:Ty) (a ix:At) (r:Nat)
structure St where
 nv:Nat
 base:Nat
 slots:List SV
 mem:List Root
inductive Ex where|normal|exit (id:Nat)|ret
inductive Tree where
 | prim (p:Prim) (as:List At) (k:Tree)
 | call (f:FuncId) (as:List At) (m:Nat) (k:Tree)
 | sub (t:Tree) (m:Nat) (k:Tree)
 | loop (init:List At) (body:Tree)
 | ite (c:At) (t e:Tree)
 | jmp (lvl:Nat) (back:Bool) (as:List At)
 | fin (x:Ex) (st:St)
 | fail (why:Nat)
inductive Res where
 | jmp (lvl:Nat) (back:Bool) (vs:List D)
 | fin (x:Ex) (st:St) (E:List D)
def gets (E:List D):List At→Option (List D)
 | []=>some []
 | a::l=>match a.get E with
  | none=>none
  | some d=>match gets E l with
   | none=>none
   | some ds=>some (d::ds)
def iter (f:List D→Option Res):Nat→List D→Option Res
 | 0,_=>none
 | n + 1,vs=>match f vs with
  | some (.jmp 0 true vs')=>iter f n vs'
  | r=>r
def Res.up:Res→Option Res
 | .jmp (l + 1) b vs=>some (.jmp l b vs)
 | .jmp 0 _ _=>none
 | r=>some r
def ev (C:FuncId→List D→Option (List D)) (k:Nat):Tree→List D→Option Res
 | .prim p as t,E=>match gets E as with
  | none=>none
  | some vs=>match p.run vs with
   | none=>none
   | some d=>ev C k t (E++[d])
 | .call f as m t,E=>match gets E as with
  | none=>none
  | some vs=>match C f vs with
   | none=>none
   | some ds=>if ds.length=m then ev C k t (E++ds) else none
 | .sub t m u,E=>match ev C k t E with
  | none=>none
  | some (.jmp 0 _ vs)=>if vs.length=m then ev C k u (E++vs) else none
  | some r=>r.up
 | .loop init b,E=>match gets E init with
  | none=>none
  | some vs=>match iter (fun vs=>ev C k b (E++vs)) k vs with
   | none=>none
   | some r=>r.up
 | .ite c t e,E=>match c.get E with
  | some (.bool true)=>ev C k t E
  | some (.bool false)=>ev C k e E
  | _=>none
 | .jmp l b as,E=>match gets E as with
  | none=>none
  | some vs=>some (.jmp l b vs)
 | .fin x st,E=>some (.fin x st E)
 | .fail _,_=>none
end Go.SX
namespace Go.SX
def Root.row?:Root→Option (Ty×At)
 | .row e a=>some (e,a)
 | .fz e a=>some (e,a)
 | .lt e a _=>some (e,a)
 | .bo e a=>some (e,a)
 | .ow e a _ _=>some (.sl e,a)
 | .mat e a _=>some (.sl e,a)
 | _=>none
def Root.noLt:Root→Bool
 | .lt ..=>false
 | _=>true
def Root.rowv?:Root→Option (Ty×At)
 | .bo _ _=>none
 | .ow ..=>none
 | R=>R.row?
theorem Root.rowv_row {R:Root}{p:Ty×At}(h:R.rowv?=some p):R.row?=some p:=by cases R<;>first|exact h|cases h
mutual
def SV.csize:SV→Nat
 | .un n=>n
 | .cv v=>v.cells.size
 | .d T _=>T.size
 | .ag _ l=>SV.csizeL l
 | .tu _=>1
 | .h ..=>1|.z ..=>1|.p ..=>1|.pd ..=>1|.hb ..=>1|.fn ..=>1|.hr ..=>1|.pm ..=>1|.hc ..=>1|.mr ..=>1
def SV.csizeL:List SV→Nat
 | []=>0
 | a::l=>a.csize + SV.csizeL l
end
def Stp.beq:Stp→Stp→Bool
 | .f j,.f j'=>Nat.beq j j'
 | .i a,.i b=>a.beq b
 | _,_=>false
def zk2:List Stp→List Stp→Bool
 | [],[]=>true
 | a::l,b::l'=>a.beq b&&zk2 l l'
 | _,_=>false
def zGc:Option (At×At)→Option (At×At)→Bool
 | none,none=>true
 | some (a,b),some (c,d)=>a.beq c&&b.beq d
 | _,_=>false
def zFr:Value→Value→Bool
 | .int k n,.int k' n'=>decide (k=k')&&decide (n=n')
 | .bool b,.bool c=>b==c
 | .pointer none,.pointer none=>true
 | .slice none 0 0,.slice none 0 0=>true
 | .nilFunc,.nilFunc=>true
 | _,_=>false
mutual
def SV.le:SV→SV→Bool
 | x,.un n=>Nat.beq x.csize n
 | .cv v,.cv v'=>zFr v v'
 | .d T a,.d T' b=>T.beq T'&&a.beq b
 | .ag T l,.ag T' l'=>T.beq T'&&SV.leL l l'
 | .h e r vw,.h e' r' vw'=>e.beq e'&&Nat.beq r r'&&zGc vw vw'
 | .z e a,.z e' b=>e.beq e'&&a.beq b
 | .p R T r q,.p R' T' r' q'=>R.beq R'&&T.beq T'&&Nat.beq r r'&&zk2 q q'
 | .pd T a,.pd T' b=>T.beq T'&&a.beq b
 | .hb R e n r q,.hb R' e' n' r' q'=>R.beq R'&&e.beq e'&&Nat.beq n n'&&Nat.beq r r'&&zk2 q q'
 | .hc e r i,.hc e' r' i'=>e.beq e'&&Nat.beq r r'&&i.beq i'
 | .hr e r i g,.hr e' r' i' g'=>e.beq e'&&Nat.beq r r'&&i.beq i'&&Nat.beq g g'
 | .pm e T r i q g,.pm e' T' r' i' q' g'=>e.beq e'&&T.beq T'&&Nat.beq r r'&&i.beq i'&&zk2 q q'&&Nat.beq g g'
 | .fn f a l,.fn f' a' l'=>Nat.beq f f'&&SV.leL a a'&&SV.leL l l'
 | .tu l,.tu l'=>SV.leL l l'
 | .mr K V r,.mr K' V' r'=>K.beq K'&&V.beq V'&&Nat.beq r r'
 | _,_=>false
def SV.leL:List SV→List SV→Bool
 | [],[]=>true
 | a::l,b::l'=>a.le b&&SV.leL l l'
 | _,_=>false
end
def SV.leSlot (a b:SV):Bool:=match b with|.un _=>true|_=>a.le b
def Root.le:Root→Root→Bool
 | .lt ..,_=>false
 | _,.dead=>true
 | .box T v,.box T' v'=>T.beq T'&&v.le v'
 | .row e a,.row e' b=>e.beq e'&&a.beq b
 | .row e a,.fz e' b=>e.beq e'&&a.beq b
 | .mat e a g,.mat e' b g'=>e.beq e'&&a.beq b&&Nat.beq g g'
 | .mat e a _,.fz e' b=>e'.beq (.sl e)&&a.beq b
 | .mat e a _,.row e' b=>e'.beq (.sl e)&&a.beq b
 | .fz e a,.fz e' b=>e.beq e'&&a.beq b
 | .mp K V a,.mp K' V' b=>K.beq K'&&V.beq V'&&a.beq b
 | _,_=>false
mutual
def cvtC:Ty→List Value→Option (D×List Value)
 | .int k,.int k' n::r=>if k=k' then some (.int k n,r) else none
 | .bool,.bool b::r=>some (.bool b,r)
 | .str,.string s::r=>some (.str s,r)
 | .sl _,.slice none 0 0::r=>some (.nil,r)
 | .st l,cs=>match cvtL l cs with|some (ds,r)=>some (.agg ds,r)|none=>none
 | .arr n e,cs=>match cvtN (cvtC e) n cs with|some (ds,r)=>some (.agg ds,r)|none=>none
 | _,_=>none
def cvtL:List Ty→List Value→Option (List D×List Value)
 | [],cs=>some ([],cs)
 | t::l,cs=>match cvtC t cs with
  | none=>none
  | some (d,r)=>match cvtL l r with
   | none=>none
   | some (ds,r')=>some (d::ds,r')
def cvtN (f:List Value→Option (D×List Value)):Nat→List Value→Option (List D×List Value)
 | 0,cs=>some ([],cs)
 | n + 1,cs=>match f cs with
  | none=>none
  | some (d,r)=>match cvtN f n r with
   | none=>none
   | some (ds,r')=>some (d::ds,r')
end
def cvtD (T:Ty) (v:Value):Option D :=
 match T.isAgg,v with
 | true,.agg cs=>match cvtC T cs.toList with|some (d,[])=>some d|_=>none
 | true,_=>none
 | false,v=>match cvtC T [v] with|some (d,[])=>some d|_=>none
inductive Bd where
 | prim (p:Prim) (as:List At)
 | call (f:FuncId) (as:List At) (m:Nat)
 | sub (t:Tree) (m:Nat)
def Bd.outs:Bd→Nat|.prim ..=>1|.call _ _ m=>m|.sub _ m=>m
def Bd.on:Bd→Tree→Tree
 | .prim p as,k=>.prim p as k
 | .call f as m,k=>.call f as m k
 | .sub t m,k=>.sub t m k
def zpW:List Bd→Tree→Tree
 | [],k=>k
 | b::l,k=>zpW l (b.on k)
structure SS where
 bs:List Bd
 nv:Nat
 up:List (Nat×Root)
 ab:Nat
inductive X (α:Type) where
 | pure (a:α)
 | fail (n:Nat)
 | root (r:Nat) (k:Root→X α)
 | put (r:Nat) (R:Root) (k:X α)
 | new (R:Root) (k:Nat→X α)
 | bd (b:Bd) (k:Nat→X α)
 | at_ (k:Nat→Nat→X α)
def X.bind {α β:Type}:X α→(α→X β)→X β
 | .pure a,f=>f a
 | .fail n,_=>.fail n
 | .root r k,f=>.root r fun R=>(k R).bind f
 | .put r R k,f=>.put r R (k.bind f)
 | .new R k,f=>.new R fun n=>(k n).bind f
 | .bd b k,f=>.bd b fun n=>(k n).bind f
 | .at_ k,f=>.at_ fun n m=>(k n m).bind f
instance:Monad X where
 pure:=X.pure
 bind:=X.bind
def zmP (r:Nat):List (Nat×Root)→Option Root
 | []=>none
 | (r',R)::l=>if Nat.beq r' r then some R else zmP r l
def X.run {α:Type}(μ:Nat→Root):X α→SS→Option (α×SS×List Nat)
 | .pure a,s=>some (a,s,[])
 | .fail _,_=>none
 | .root r k,s=>match zmP r s.up with
  | some R=>(k R).run μ s
  | none=>match (k (μ r)).run μ s with
   | none=>none
   | some (a,s',l)=>some (a,s',r::l)
 | .put r R k,s=>k.run μ { s with up:=(r,R)::s.up }
 | .new R k,s=>(k s.ab).run μ { s with up:=(s.ab,R)::s.up,ab:=s.ab + 1 }
 | .bd b k,s=>(k s.nv).run μ { s with bs:=b::s.bs,nv:=s.nv + b.outs }
 | .at_ k,s=>(k s.nv s.ab).run μ s
def X.why {α:Type}(μ:Nat→Root):X α→SS→Nat
 | .pure _,_=>0
 | .fail n,_=>n
 | .root r k,s=>match zmP r s.up with
  | some R=>(k R).why μ s
  | none=>(k (μ r)).why μ s
 | .put r R k,s=>k.why μ { s with up:=(r,R)::s.up }
 | .new R k,s=>(k s.ab).why μ { s with up:=(s.ab,R)::s.up,ab:=s.ab + 1 }
 | .bd b k,s=>(k s.nv).why μ { s with bs:=b::s.bs,nv:=s.nv + b.outs }
 | .at_ k,s=>(k s.nv s.ab).why μ s
def X.of {α:Type}(n:Nat):Option α→X α
 | some a=>.pure a
 | none=>.fail n
def X.getRoot (r:Nat):X Root:=.root r .pure
def X.putRoot (r:Nat) (R:Root):X Unit:=.put r R (.pure ())
def X.newRoot (R:Root):X Nat:=.new R .pure
def X.prim (p:Prim) (as:List At):X At:=.bd (.prim p as) fun n=>.pure (.v n)
def X.call (f:FuncId) (as:List At) (m:Nat):X Nat:=.bd (.call f as m) .pure
def X.sub (t:Tree) (m:Nat):X Unit:=.bd (.sub t m) fun _=>.pure ()
def X.nvab:X (Nat×Nat):=.at_ fun n m=>.pure (n,m)
def X.guard (n:Nat) (b:Bool):X Unit:=if b then X.pure () else X.fail n
def zjz:List At→Option (List D)
 | []=>some []
 | .c d::l=>match zjz l with|some ds=>some (d::ds)|none=>none
 | .v _::_=>none
def X.op (p:Prim) (as:List At):X At :=
 match zjz as with
 | some ds=>match p.run ds with
  | some d=>X.pure (.c d)
  | none=>X.fail 1
 | none=>X.prim p as
def znz (fz:Bool) (e:Ty) (r:Nat):X At:=do
 match←X.getRoot r with
 | .row e' a=>do
  X.guard 5 (e'.beq e)
  if fz then do
   X.putRoot r (.fz e a)
   X.pure a
  else X.pure a
 | .fz e' a=>do
  X.guard 5 (e'.beq e)
  X.pure a
 | .lt e' a _=>do
  X.guard 5 (e'.beq e&&!fz)
  X.pure a
 | .mat e' a _=>do
  X.guard 5 (e.beq (.sl e'))
  if fz then do
   X.putRoot r (.fz e a)
   X.pure a
  else X.pure a
 | _=>X.fail 6
def zye (fz:Bool) (e:Ty) (r g:Nat):X At:=do
 match←X.getRoot r with
 | .mat e' a g'=>do
  X.guard 5 (e'.beq e&&Nat.beq g g')
  if fz then do
   X.putRoot r (.fz (.sl e) a)
   X.pure a
  else X.pure a
 | _=>X.fail 6
mutual
def SV.view (fz:Bool):Ty→SV→X At
 | T,.d T' a=>if T'.beq T then X.pure a else X.fail 2
 | T,.cv v=>match cvtD T v with|some x=>X.pure (.c x)|none=>X.fail 3
 | T,.h e r vw=>do
  X.guard 4 (T.beq (.sl e))
  let a←znz fz e r
  match vw with
  | none=>X.pure a
  | some (lo,hi)=>X.op .sub [a,lo,hi]
 | T,.hr e r ix g=>do
  X.guard 4 (T.beq (.sl e))
  let a←zye fz e r g
  X.op .get [a,ix]
 | T,.z e a=>do
  X.guard 4 (T.beq (.sl e))
  X.op .sub [a,.c (.int .i64 0),.c (.int .i64 0)]
 | T,.ag T' l=>do
  X.guard 7 (T'.beq T)
  match T with
  | .st Ts=>do
   let as←SV.viewL fz Ts l
   X.op .mk as
  | _=>X.fail 8
 | T,.hb R e n r q=>do
  X.guard 4 (T.beq (.sl e)&&!fz)
  match←X.getRoot r,q with
  | .box T' (.d T'' a),[]=>do
   X.guard 9 (T'.beq R&&T''.beq R&&R.beq (.arr n e))
   X.op .tosl [a]
  | _,_=>X.fail 10
 | _,_=>X.fail 11
def SV.viewL (fz:Bool):List Ty→List SV→X (List At)
 | [],[]=>X.pure []
 | T::Ts,s::l=>do
  let a←SV.view fz T s
  let as←SV.viewL fz Ts l
  X.pure (a::as)
 | _,_=>X.fail 12
end
def SV.typed (T:Ty) (s:SV):X SV :=
 match s with
 | .cv v=>match cvtD T v with
  | some x=>X.pure (.d T (.c x))
  | none=>if T.beq .no&&Nat.beq v.cells.size 1&&(match v with|.agg _=>false|.tuple _=>false|_=>true) then X.pure s else X.fail 13
 | .d T' _=>if T'.beq T then X.pure s else X.fail 14
 | .ag T' _=>if T'.beq T then X.pure s else X.fail 15
 | .h e _ _=>if T.beq (.sl e) then X.pure s else X.fail 16
 | .z e _=>if T.beq (.sl e) then X.pure s else X.fail 16
 | .hb _ e _ _ _=>if T.beq (.sl e) then X.pure s else X.fail 16
 | .p ..=>if T.beq .no then X.pure s else X.fail 17
 | .pm ..=>if T.beq .no then X.pure s else X.fail 17
 | .hr e _ _ _=>if T.beq (.sl e) then X.pure s else X.fail 16
 | .pd ..=>if T.beq .no then X.pure s else X.fail 17
 | .fn ..=>if T.beq .no then X.pure s else X.fail 17
 | _=>X.fail 18
def nav:List Stp→SV→X SV
 | [],s=>X.pure s
 | .f j::q,.ag _ l=>match l[j]? with
  | some s=>nav q s
  | none=>X.fail 19
 | .f j::q,.d (.st Ts) a=>match Ts[j]? with
  | some T=>do let x←X.op (.fld j) [a];nav q (.d T x)
  | none=>X.fail 20
 | .i ix::q,.d (.arr _ e) a=>do let x←X.op .get [a,ix];nav q (.d e x)
 | _,_=>X.fail 21
def setD:List Stp→Ty→At→At→X At
 | [],_,_,v=>X.pure v
 | .f j::q,.st Ts,a,v=>match Ts[j]? with
  | some T=>match q with
   | []=>X.op (.setf j) [a,v]
   | s::q'=>do
    let y←X.op (.fld j) [a]
    let x←setD (s::q') T y v
    X.op (.setf j) [a,x]
  | none=>X.fail 22
 | .i ix::q,.arr _ e,a,v=>match q with
  | []=>X.op .set [a,ix,v]
  | s::q'=>do
   let y←X.op .get [a,ix]
   let x←setD (s::q') e y v
   X.op .set [a,ix,x]
 | _,_,_,_=>X.fail 23
def zDg (a:At):List Ty→Nat→X (List SV)
 | [],_=>X.pure []
 | T::Ts,j=>do
  let x←X.op (.fld j) [a]
  let l←zDg a Ts (j + 1)
  X.pure (.d T x::l)
def tyAt:List Stp→Ty→Option Ty
 | [],T=>some T
 | .f j::q,.st Ts=>match Ts[j]? with|some T=>tyAt q T|none=>none
 | .i _::q,.arr _ e=>tyAt q e
 | _,_=>none
def zmw:List Stp→SV→SV→X SV
 | [],_,v=>X.pure v
 | .f j::q,.ag T l,v=>match l[j]? with
  | some s=>do let s' ← zmw q s v;X.pure (.ag T (l.set j s'))
  | none=>X.fail 24
 | .f j::q,.d (.st Ts) a,v=>match v with
  | .d _ b=>do let x←setD (.f j::q) (.st Ts) a b;X.pure (.d (.st Ts) x)
  | _=>do
   let l←zDg a Ts 0
   match l[j]? with
   | some s=>do let s' ← zmw q s v;X.pure (.ag (.st Ts) (l.set j s'))
   | none=>X.fail 25
 | .i ix::q,.d (.arr n e) a,v=>match v with
  | .d _ b=>do let x←setD (.i ix::q) (.arr n e) a b;X.pure (.d (.arr n e) x)
  | _=>X.fail 26
 | _,_,_=>X.fail 27
end Go.SX
namespace Go.SX
structure Inl where
 t:Tree
 m:Nat
 res:SV
 mem:List Root
structure Cx where
 P:Program
 ty:List Ty
 own:List FuncId
 inl:List FuncId
 keepL:List FuncId
 absL:List FuncId
 abs:Bool:=false
 keep:Bool:=false
 lendL:List FuncId:=[]
 freshL:List FuncId:=[]
 lend:Bool:=false
 owL:List FuncId:=[]
 bk:List (FuncId×TypeId×TypeId):=[]
 ow:Bool:=false
 heads:List (Nat×List (Nat×Nat×St)):=[]
 hd:List (Nat×Nat×St):=[]
def Cx.T (cx:Cx) (t:TypeId):Ty:=(cx.ty[t]?).getD .no
def Cx.by_ (cx:Cx) (t:TypeId):Nat:=cx.P.bytesOf t
def Cx.cell1 (cx:Cx) (t:TypeId):Bool :=
 match cx.T t with
 | .no=>Nat.beq (cx.P.cellsOf t) 1&&(match cx.P.underlying t with|some (.struct _)=>false|some (.array ..)=>false|some _=>true|none=>false)
 | _=>true
def ziM (tys:TypeId→Ty):List Field→Nat→Bool
 | [],_=>true
 | f::l,n=>Nat.beq f.offset n&&ziM tys l (n + (tys f.type).size)
def zHT (cx:Cx) (t:TypeId):Bool :=
 match cx.T t with
 | .no=>true
 | T =>
  match cx.P.info? t with
  | none=>false
  | some i =>
   Nat.beq i.size T.size&&(match i.zero with|some z=>(match cvtD T z with|some d=>d.beq T.zero|none=>false)|none=>false)&&T.known &&
   (match T,cx.P.underlying t with
    | .int k,some (.int k')=>decide (k=k')
    | .bool,some .bool=>true
    | .str,some .string=>true
    | .sl e,some (.slice E)=>(cx.T E).beq e
    | .arr n e,some (.array m E)=>Nat.beq n m&&(cx.T E).beq e
    | .st Ts,some (.struct fs)=>Ty.beqL Ts (fs.toList.map fun f=>cx.T f.type)&&ziM cx.T fs.toList 0
    | _,_=>false)
def zDj (cx:Cx):Nat→Bool
 | 0=>true
 | n + 1=>zHT cx n&&zDj cx n
def zbg (l:List Root) (r:Nat):Root:=(l[r]?).getD .dead
def zipD:List Ty→List D→List SV
 | T::Ts,d::ds=>.d T (.c d)::zipD Ts ds
 | _,_=>[]
def opnd (ρ:Tmp→SV):Operand→SV
 | .tmp t=>ρ t
 | .const v=>.cv v
 | .global _=>.un 1
 | .func f=>.fn f [] []
def simple:SV→SV
 | .cv (.int k n)=>.d (.int k) (.c (.int k n))
 | .cv (.bool b)=>.d .bool (.c (.bool b))
 | .cv (.string s)=>.d .str (.c (.str s))
 | s=>s
def zj9 (s:SV):X (IntKind×At):=match simple s with|.d (.int k) a=>X.pure (k,a)|_=>X.fail 50
def atD (s:SV):X (Ty×At):=match simple s with|.d T a=>X.pure (T,a)|_=>X.fail 51
def zD3:BinOp→Bool
 | .eql|.neq|.lss|.leq|.gtr|.geq=>true
 | _=>false
def zjb:BinOp→Bool|.shl|.shr=>true|_=>false
def zyg:SV→Bool
 | .cv (.slice none 0 0)=>true
 | _=>false
def eqOk (cx:Cx):Nat→TypeId→Bool
 | 0,_=>false
 | n + 1,t=>match cx.P.underlying t with
  | some .bool=>true
  | some (.int _)=>true
  | some .string=>true
  | some (.struct fs)=>!cx.P.stoodInHeld t&&fs.toList.all (fun f=>!(f.name == "_")&&eqOk cx n f.type)
  | some (.array _ e)=>eqOk cx n e
  | _=>false
def zA6 (cx:Cx) (op:BinOp) (xt:TypeId) (x y:SV):X SV :=
 match simple x,simple y with
 | .d (.int k) a,.d (.int k') b=>do
  X.guard 52 (zjb op||decide (k=k'))
  let v←X.op (.bin op) [a,b]
  X.pure (.d (if zD3 op then .bool else .int k) v)
 | .d .bool a,.d .bool b=>do
  X.guard 53 ((match op with|.eql|.neq=>true|_=>false)&&(cx.T xt).beq .bool)
  let v←X.op (.bin op) [a,b]
  X.pure (.d .bool v)
 | .d .str a,.d .str b=>do
  let v←X.op (.bin op) [a,b]
  X.pure (.d (if zD3 op then .bool else .str) v)
 | x',y' =>
  if zyg y' then
   match cx.T xt with
   | .sl e=>do
    let a←SV.view false (.sl e) x'
    let v←X.op .isnil [a]
    match op with
    | .eql=>X.pure (.d .bool v)
    | .neq=>do let u←X.op (.un .not) [v];X.pure (.d .bool u)
    | _=>X.fail 54
   | _=>X.fail 55
  else do
   let T:=cx.T xt
   X.guard 56 (T.isAgg&&T.flat&&T.known&&!cx.P.eqGuardType cx.P.depth xt&&eqOk cx 20 xt)
   let a←SV.view false T x'
   let b←SV.view false T y'
   let v←X.op .eqv [a,b]
   match op with
   | .eql=>X.pure (.d .bool v)
   | .neq=>do let u←X.op (.un .not) [v];X.pure (.d .bool u)
   | _=>X.fail 54
def lenOf (s:SV):X SV :=
 match simple s with
 | .d (.sl _) a=>do let v←X.op .len [a];X.pure (.d (.int .i64) v)
 | .d .str a=>do let v←X.op .slen [a];X.pure (.d (.int .i64) v)
 | .h e r none=>do let a←SV.view false (.sl e) (.h e r none);let v←X.op .len [a];X.pure (.d (.int .i64) v)
 | .h e r (some (lo,hi))=>do let _←SV.view false (.sl e) (.h e r none);let v←X.op .vlen [lo,hi];X.pure (.d (.int .i64) v)
 | .hr e r ix g=>do let a←SV.view false (.sl e) (.hr e r ix g);let v←X.op .len [a];X.pure (.d (.int .i64) v)
 | .z ..=>X.pure (.d (.int .i64) (.c (.int .i64 0)))
 | .hb _ _ n _ _=>X.pure (.d (.int .i64) (.c (.int .i64 n)))
 | .cv (.slice none 0 0)=>X.pure (.d (.int .i64) (.c (.int .i64 0)))
 | _=>X.fail 57
def i64c (n:Int):At:=.c (.int .i64 n)
def zJn (e:Ty) (r:Nat):X At:=do
 match←X.getRoot r with
 | .ow e' a _ _=>do
  X.guard 5 (e.beq (.sl e'))
  X.pure a
 | _=>SV.view false (.sl e) (.h e r none)
def zi2 (cx:Cx) (t:TypeId) (x ix:SV):X SV:=do
 let (_,i)←zj9 ix
 match cx.T t,x with
 | .sl e,.d T a=>do
  X.guard 60 (T.beq (.sl e))
  let v←X.op .get [a,i]
  X.pure (.pd e v)
 | .sl e,.h e' r vw=>do
  X.guard 60 (e'.beq e)
  match vw with
  | none=>do
   let a←zJn e r
   let j←X.op .idx [a,i]
   X.pure (.p (.arr 0 e) e r [.i j])
  | some (lo,hi)=>do
   let _←SV.view false (.sl e) (.h e r none)
   let j←X.op .idxv [lo,hi,i]
   X.pure (.p (.arr 0 e) e r [.i j])
 | .sl e,.hr e' r ix g=>do
  X.guard 60 (e'.beq e)
  let a←SV.view false (.sl e) (.hr e r ix g)
  let j←X.op .idx [a,i]
  X.pure (.pm e e r ix [.i j] g)
 | .arr n e,.p R T r q=>do
  X.guard 61 (T.beq (.arr n e))
  let j←X.op (.idxn n) [i]
  X.pure (.p R e r (q++[.i j]))
 | .arr n e,.pd T a=>do
  X.guard 62 (T.beq (.arr n e))
  let v←X.op .get [a,i]
  X.pure (.pd e v)
 | _,_=>X.fail 63
def zzH (cx:Cx) (t:TypeId) (x ix:SV):X SV:=do
 let (_,i)←zj9 ix
 match cx.T t,simple x with
 | .arr n e,.d T a=>do
  X.guard 64 (T.beq (.arr n e))
  let v←X.op .get [a,i]
  X.pure (.d e v)
 | .str,.d .str a=>do
  let v←X.op .sget [a,i]
  X.pure (.d (.int .u8) v)
 | _,_=>X.fail 65
def zto (T:Ty) (j:Nat):Option Ty:=match T with|.st Ts=>Ts[j]?|_=>none
def zpe (cx:Cx) (t:TypeId) (x:SV) (j:Nat):X SV:=do
 let T:=cx.T t
 let F←X.of 66 (zto T j)
 X.guard 66 (Nat.blt 0 F.size)
 match x with
 | .p R T' r q=>do
  X.guard 67 (T'.beq T)
  X.pure (.p R F r (q++[.f j]))
 | .pd T' a=>do
  X.guard 67 (T'.beq T)
  let v←X.op (.fld j) [a]
  X.pure (.pd F v)
 | _=>X.fail 68
def zyI (cx:Cx) (t:TypeId) (x:SV) (j:Nat):X SV:=do
 let T:=cx.T t
 let F←X.of 69 (zto T j)
 match x with
 | .d T' a=>do
  X.guard 70 (T'.beq T)
  let v←X.op (.fld j) [a]
  X.pure (.d F v)
 | .ag T' l=>do
  X.guard 70 (T'.beq T)
  X.of 71 (l[j]?)
 | _=>X.fail 72
def zHp (R:Ty) (r:Nat) (q:List Stp):X SV:=do
 match←X.getRoot r with
 | .box R' v=>do
  X.guard 73 (R'.beq R)
  nav q v
 | .row e a|.fz e a=>do
  X.guard 74 (R.beq (.arr 0 e))
  match q with
  | .i ix::q'=>do
   let x←X.op .get [a,ix]
   nav q' (.d e x)
  | _=>X.fail 75
 | .mat e a g=>do
  X.guard 74 (R.beq (.arr 0 (.sl e)))
  match q with
  | [.i ix]=>do
   let j←X.op .idx [a,ix]
   X.pure (.hr e r j g)
  | _=>X.fail 75
 | .ow e _ ix r2=>do
  X.guard 74 (R.beq (.arr 0 (.sl e)))
  match q with
  | [.i ix']=>do
   let _←X.op .eqi [ix',ix]
   X.pure (.h e r2 none)
  | _=>X.fail 75
 | _=>X.fail 76
def zIb (e:Ty) (r:Nat) (ix:At) (q:List Stp) (g:Nat):X SV:=do
 let a←match←X.getRoot r with
  | .mat e' a g'=>do X.guard 74 (e'.beq e&&Nat.beq g g');X.pure a
  | _=>X.fail 76
 let y←X.op .get [a,ix]
 match q with
 | .i j::q'=>do
  let x←X.op .get [y,j]
  nav q' (.d e x)
 | _=>X.fail 75
def zCB (cx:Cx) (t:TypeId) (x:SV):X SV:=do
 let T:=cx.T t
 X.guard 154 (cx.cell1 t)
 match x with
 | .pd T' a=>do
  X.guard 77 (T'.beq T)
  X.pure (.d T a)
 | .p R T' r q=>do
  X.guard 78 (T'.beq T)
  let s←zHp R r q
  SV.typed T s
 | .pm e T' r ix q g=>do
  X.guard 78 (T'.beq T)
  let s←zIb e r ix q g
  SV.typed T s
 | _=>X.fail 79
def setRow (q:List Stp) (e:Ty) (a b:At):X At :=
 match q with
 | [.i ix]=>X.op .set [a,ix,b]
 | .i ix::s::q'=>do
  let y←X.op .get [a,ix]
  let y' ← setD (s::q') e y b
  X.op .set [a,ix,y']
 | _=>X.fail 83
def allRows (e:Ty):List SV→X Bool
 | []=>X.pure true
 | .h e' r none::l=>do
  match←X.getRoot r with
  | .row e'' _=>if e'.beq e&&e''.beq e then allRows e l else X.pure false
  | _=>X.pure false
 | _=>X.pure false
def zwd (e:Ty):List SV→X (List At)
 | []=>X.pure []
 | .h e' r none::l=>do
  match←X.getRoot r with
  | .row e'' a=>do
   X.guard 125 (e'.beq e&&e''.beq e)
   X.putRoot r .dead
   let as←zwd e l
   X.pure (a::as)
  | _=>X.fail 126
 | _=>X.fail 127
def rowAt (e:Ty) (r:Nat):X At:=do
 match←X.getRoot r with
 | .row e' a=>do
  X.guard 82 (e'.beq e)
  X.pure a
 | _=>X.fail 84
def zI1 (e:Ty) (r g:Nat):X At:=do
 match←X.getRoot r with
 | .mat e' a g'=>do
  X.guard 82 (e'.beq e&&Nat.beq g g')
  X.pure a
 | _=>X.fail 84
def zoR (e T:Ty) (r:Nat) (q:List Stp) (v:SV):X SV:=do
 let b←SV.view true T v
 let a←rowAt e r
 let a' ← setRow q e a b
 X.putRoot r (.row e a')
 X.pure (.un 1)
def zCv (e:Ty) (r:Nat) (q:List Stp) (v:SV):X SV:=do
 match←zwd e [v],q with
 | [b],[.i ix]=>do
  match←X.getRoot r with
  | .mat e' a g=>do
   X.guard 82 (e'.beq e)
   let a' ← X.op .set [a,ix,b]
   X.putRoot r (.mat e a' (g + 1))
   X.pure (.un 1)
  | _=>X.fail 84
 | _,_=>X.fail 83
def zFv (e T:Ty) (r:Nat) (ix:At) (q:List Stp) (g:Nat) (v:SV):X SV:=do
 X.guard 82 e.flat
 let b←SV.view true T v
 let a←zI1 e r g
 let y←X.op .get [a,ix]
 let y' ← setRow q e y b
 let a' ← X.op .set [a,ix,y']
 X.putRoot r (.mat e a' g)
 X.pure (.un 1)
def zsx (R T:Ty) (r:Nat) (q:List Stp) (old v:SV):X SV:=do
 let v' ← SV.typed T v
 let new←zmw q old v'
 X.putRoot r (.box R new)
 X.pure (.un 1)
def zA0:List SV→X (List SV)
 | []=>X.pure []
 | .h e r none::l =>
  if e.flat then do
   let a←SV.view true (.sl e) (.h e r none)
   let l' ← zA0 l
   X.pure (.d (.sl e) a::l')
  else do
   let l' ← zA0 l
   X.pure (.h e r none::l')
 | s::l=>do
  let l' ← zA0 l
  X.pure (s::l')
def calm (s:SV):X SV :=
 match s with
 | .ag T l=>do
  let l' ← zA0 l
  X.pure (.ag T l')
 | s=>X.pure s
def zH7 (ow:Bool) (e:Ty) (q:List Stp) (v:SV):Option (Ty×At×Nat) :=
 match ow,e,q,v with
 | true,.sl e',[.i ix],.h e'' r2 none=>if e''.beq e'&&e'.flat then some (e',ix,r2) else none
 | _,_,_,_=>none
def zEP (e:Ty) (r:Nat) (a ix:At) (r2:Nat):X SV:=do
 let _←rowAt e r2
 X.guard 83 (!Nat.beq r r2)
 let _←X.op .get [a,ix]
 X.putRoot r (.ow e a ix r2)
 X.pure (.un 1)
def zCC (e:Ty) (r:Nat) (a ix:At) (r2:Nat):X Unit:=do
 let b←znz true e r2
 let a' ← X.op .set [a,ix,b]
 X.putRoot r (.row (.sl e) a')
def settle (v:SV):X Unit :=
 match v with
 | .h _ r none=>do
  match←X.getRoot r with
  | .ow e a ix r2=>zCC e r a ix r2
  | _=>X.pure ()
 | _=>X.pure ()
def ztW (cx:Cx) (t:TypeId) (x v:SV):X SV:=do
 let T:=cx.T t
 X.guard 154 (cx.cell1 t)
 match x with
 | .p R T' r q=>do
  X.guard 80 (T'.beq T)
  match←X.getRoot r with
  | .box R' old=>do
   X.guard 81 (R'.beq R)
   if cx.lend then do
    let v' ← calm v
    zsx R T r q old v'
   else if cx.ow then do
    settle v
    zsx R T r q old v
   else zsx R T r q old v
  | .row e a=>do
   X.guard 82 (R.beq (.arr 0 e))
   match zH7 cx.ow e q v with
   | some (e',ix,r2)=>zEP e' r a ix r2
   | none=>zoR e T r q v
  | .mat e a _=>do
   X.guard 82 (R.beq (.arr 0 (.sl e)))
   if cx.abs&&(← allRows e [v]) then zCv e r q v
   else do
    X.putRoot r (.row (.sl e) a)
    zoR (.sl e) T r q v
  | .lt e a r'=>do
   X.guard 82 (R.beq (.arr 0 e))
   let R' ← X.getRoot r'
   X.guard 83 R'.noLt
   X.putRoot r' .dead
   X.putRoot r (.row e a)
   zoR e T r q v
  | _=>X.fail 84
 | .pm e T' r ix q g=>do
  X.guard 80 (T'.beq T)
  zFv e T r ix q g v
 | _=>X.fail 85
def bound (dflt:At):Option SV→X At
 | none=>X.pure dflt
 | some s=>do let (_,a)←zj9 s;X.pure a
def isZ:At→Bool|.c (.int .i64 0)=>true|_=>false
def isZero:Option SV→Bool
 | some (.cv (.int _ 0))=>true
 | some (.d _ (.c (.int _ 0)))=>true
 | _=>false
def zFp (e:Ty) (r:Nat) (hi mx:SV):X SV:=do
 let a←SV.view false (.sl e) (.h e r none)
 let (_,h)←zj9 hi
 let h' ← X.op .rng [a,i64c 0,h]
 let (_,m)←zj9 mx
 let h2←X.op .eqi [m,h']
 X.pure (.hc e r h2)
def zGy (e:Ty) (r:Nat) (lo:Option SV) (hi mx:SV):X SV:=do
 let a←SV.view false (.sl e) (.h e r none)
 let l←bound (i64c 0) lo
 let (_,h)←zj9 hi
 let (_,m)←zj9 mx
 let h' ← X.op .rng3 [a,l,h,m]
 X.pure (.h e r (some (l,h')))
def zEm (e:Ty) (a:At) (lo:Option SV) (hi mx:SV):X SV:=do
 let l←bound (i64c 0) lo
 let (_,h)←zj9 hi
 let (_,m)←zj9 mx
 let h' ← X.op .rng3 [a,l,h,m]
 let v←X.op .sub [a,l,h']
 X.pure (.d (.sl e) v)
def zEJ (e:Ty) (a:At) (lo hi:Option SV):X SV:=do
 let l←bound (i64c 0) lo
 let n←X.op .len [a]
 let h←bound n hi
 let v←X.op .sub [a,l,h]
 X.pure (.d (.sl e) v)
def zIu (e:Ty) (r:Nat) (lo hi:Option SV):X SV:=do
 let a←SV.view false (.sl e) (.h e r none)
 let l←bound (i64c 0) lo
 let n←X.op .len [a]
 let h←bound n hi
 let h' ← X.op .rng [a,l,h]
 X.pure (.h e r (some (l,h')))
def zF9 (e:Ty) (r:Nat) (lo0 hi0:At) (lo hi:Option SV):X SV:=do
 let a←SV.view false (.sl e) (.h e r none)
 let l←bound (i64c 0) lo
 let n←X.op .vlen [lo0,hi0]
 let h←bound n hi
 let h' ← X.op .rngv [a,lo0,l,h]
 let l' ← X.op .vadd [lo0,l]
 X.pure (.h e r (some (l',h')))
def zCt (a:At) (lo hi:Option SV):X SV:=do
 let l←bound (i64c 0) lo
 let n←X.op .slen [a]
 let h←bound n hi
 let v←X.op .ssub [a,l,h]
 X.pure (.d .str v)
def zta (cx:Cx) (t:TypeId) (x:SV) (lo hi mx:Option SV):X SV:=do
 match mx,hi with
 | some m,some h =>
  if isZero lo&&isZero (some h)&&isZero (some m) then
   match cx.T t with
   | .sl e=>do
    let a←SV.view false (.sl e) x
    X.pure (.z e a)
   | _=>X.fail 86
  else match cx.T t,simple x with
   | .sl e,.h e' r none=>do
    X.guard 87 (e'.beq e)
    if lo.isNone then zFp e r h m else zGy e r lo h m
   | .sl e,.d T a=>do
    X.guard 87 (T.beq (.sl e))
    zEm e a lo h m
   | _,_=>X.fail 87
 | some _,none=>X.fail 87
 | none,_ =>
  match cx.T t,simple x with
  | .sl e,.d T a=>do
   X.guard 88 (T.beq (.sl e))
   if lo.isNone&&hi.isNone then X.pure (.d (.sl e) a) else zEJ e a lo hi
  | .sl e,.h e' r vw=>do
   X.guard 89 (e'.beq e)
   if lo.isNone&&hi.isNone then X.fail 89
   else match vw with
    | none=>zIu e r lo hi
    | some (lo0,hi0)=>zF9 e r lo0 hi0 lo hi
  | .sl e,.cv (.slice none 0 0)=>zEJ e (.c .nil) lo hi
  | .str,.d .str a=>zCt a lo hi
  | .arr n e,.p R T r []=>do
   X.guard 93 (T.beq (.arr n e)&&R.beq (.arr n e)&&lo.isNone&&hi.isNone)
   X.pure (.hb R e n r [])
  | _,_=>X.fail 95
def zjl (cx:Cx) (t:TypeId) (len cap:SV):X SV:=do
 match cx.T t with
 | .sl e=>do
  let E←match cx.P.underlying t with|some (.slice E)=>X.pure E|_=>X.fail 96
  let (_,n)←zj9 len
  let (_,c)←zj9 cap
  let a←X.op (.rep e.zero (cx.by_ E)) [n,c]
  match e with
  | .sl e'=>do
   let r←X.newRoot (if cx.abs then .mat e' a 0 else .row e a)
   X.pure (.h e r none)
  | _=>do
   let r←X.newRoot (.row e a)
   X.pure (.h e r none)
 | _=>X.fail 97
def zpv:Nat→List (Nat×SV)→Option (List SV)
 | _,[]=>some []
 | n,(i,s)::l=>if Nat.beq i n then match zpv (n + 1) l with|some r=>some (s::r)|none=>none else none
def zxw (fz:Bool) (T:Ty):List SV→X (List At)
 | []=>X.pure []
 | s::l=>do
  let a←SV.view fz T s
  let as←zxw fz T l
  X.pure (a::as)
def zd7 (cx:Cx) (t:TypeId) (n:Nat) (parts:List (Nat×SV)):X SV:=do
 match cx.T t with
 | .sl e=>do
  let l←X.of 98 (zpv 0 parts)
  X.guard 99 (Nat.beq l.length n&&decide (n * e.size≤16777216)&&e.known)
  match e with
  | .sl e'=>do
   if cx.abs&&(!l.isEmpty)&&(← allRows e' l) then do
    let as←zwd e' l
    let a←X.op .mks as
    let r←X.newRoot (.mat e' a 0)
    X.pure (.h e r none)
   else buildRow e l
  | _=>buildRow e l
 | _=>X.fail 100
 where
 buildRow (e:Ty) (l:List SV):X SV:=do
  let as←zxw true e l
  let a←X.op .mks as
  let r←X.newRoot (.row e a)
  X.pure (.h e r none)
def partOf (j:Nat):List (Nat×SV)→Option SV
 | []=>none
 | (i,s)::l=>if Nat.beq i j then some s else partOf j l
def zt6:List Ty→Nat→List (Nat×SV)→X (List SV)
 | [],_,_=>X.pure []
 | T::Ts,j,parts=>do
  let s←match partOf j parts with
   | some s=>SV.typed T s
   | none=>X.pure (.d T (.c T.zero))
  let l←zt6 Ts (j + 1) parts
  X.pure (s::l)
def zAo:List SV→Option (List At)
 | []=>some []
 | .d _ a::l=>match zAo l with|some as=>some (a::as)|none=>none
 | _=>none
def sorted:List (Nat×SV)→Nat→Nat→Bool
 | [],_,_=>true
 | (i,_)::l,lo,n=>Nat.ble lo i&&Nat.blt i n&&sorted l (i + 1) n
def zn1 (z:D) (e:Ty) (parts:List (Nat×SV)):Nat→Nat→List SV
 | 0,_=>[]
 | n + 1,j=>(match partOf j parts with|some s=>s|none=>.d e (.c z))::zn1 z e parts n (j + 1)
def zti (cx:Cx) (t:TypeId) (parts:List (Nat×SV)):X SV:=do
 match cx.T t with
 | .st Ts=>do
  X.guard 101 (sorted parts 0 Ts.length)
  let l←zt6 Ts 0 parts
  match zAo l with
  | some as=>do
   let a←X.op .mk as
   X.pure (.d (.st Ts) a)
  | none=>X.pure (.ag (.st Ts) l)
 | .arr n e=>do
  X.guard 103 (sorted parts 0 n&&Nat.ble n 100)
  let as←zxw true e (zn1 e.zero e parts n 0)
  let a←X.op .mk as
  X.pure (.d (.arr n e) a)
 | _=>X.fail 104
def sameAt (e:Ty):SV→At→Bool
 | .d T a,b=>T.beq (.sl e)&&a.beq b
 | _,_=>false
def newRow (e:Ty) (a:At):X SV:=do
 let r←X.newRoot (.row e a)
 X.pure (.h e r none)
def newMat (e:Ty) (a:At):X SV:=do
 match e with
 | .sl e'=>do
  let r←X.newRoot (.mat e' a 0)
  X.pure (.h e r none)
 | _=>X.fail 128
def zGh (e:Ty) (x:SV):X At :=
 if e.flat then SV.view false (.sl e) x
 else match x with
  | .h e' r vw=>do
   match←X.getRoot r with
   | .row _ _=>SV.view false (.sl e) (.h e' r vw)
   | .mat e'' a _=>do
    X.guard 113 (e.beq (.sl e''))
    X.putRoot r (.row e a)
    SV.view false (.sl e) (.h e' r vw)
   | _=>SV.view true (.sl e) (.h e' r vw)
  | _=>SV.view true (.sl e) x
def zsQ (e:Ty) (b:Nat) (o:At) (x:SV):X SV:=do
 let y←zGh e x
 let v←X.op (.app b) [o,y]
 newRow e v
def ziy (e:Ty) (b r:Nat) (vw:Option (At×At)) (x:SV):X SV:=do
 let y←zGh e x
 let a←rowAt e r
 match vw with
 | none=>do
  let v←X.op (.app b) [a,y]
  X.putRoot r .dead
  newRow e v
 | some (lo,hi)=>do
  X.guard 113 (isZ lo)
  let v←X.op (.appv b) [a,hi,y]
  let m←X.op .len [y]
  let n←X.op .vadd [hi,m]
  X.putRoot r .dead
  let r' ← X.newRoot (.row e v)
  X.pure (.h e r' (some (i64c 0,n)))
def zBs (e:Ty) (b r:Nat) (x:SV):X SV:=do
 let y←zGh e x
 let a←rowAt e r
 let _←X.op .get [a,i64c 0]
 let v←X.op (.app b) [a,y]
 let r' ← X.newRoot (.bo e v)
 X.putRoot r (.lt e a r')
 X.pure (.h e r' none)
def zwq (e:Ty) (b r:Nat) (x:SV):X SV:=do
 match←X.getRoot r with
 | .mat e'' a _=>do
  X.guard 112 (e.beq (.sl e''))
  X.putRoot r (.row e a)
  zBs e b r x
 | _=>zBs e b r x
def zCW (e:Ty) (b r:Nat) (hi:At) (x:SV):X SV:=do
 let y←zGh e x
 let a←rowAt e r
 let o←X.op .sub [a,i64c 0,hi]
 let v←X.op (.app b) [o,y]
 X.putRoot r .dead
 newRow e v
def isNil (e:Ty):SV→Bool
 | .cv (.slice none 0 0)=>true
 | .d T (.c .nil)=>T.beq (.sl e)
 | _=>false
def zDd (e:Ty) (x:SV):X (Option (Nat×At)) :=
 match e,x with
 | .sl e',.h e'' r none=>do
  match←X.getRoot r with
  | .mat e3 a _=>if e''.beq (.sl e')&&e3.beq e' then X.pure (some (r,a)) else X.pure none
  | _=>X.pure none
 | _,_=>X.pure none
def zBF:List Nat→X Unit
 | []=>X.pure ()
 | r::l=>do
  X.putRoot r .dead
  zBF l
def zBq (e:Ty) (b:Nat) (o:At) (rs:List Nat) (a:At):X SV :=
 match e with
 | .sl e'=>do
  let v←X.op (.app b) [o,a]
  zBF rs
  let r←X.newRoot (.mat e' v 0)
  X.pure (.h (.sl e') r none)
 | _=>X.fail 129
def zqc (cx:Cx) (t xt:TypeId) (s x:SV):X SV:=do
 match cx.T t,cx.T xt with
 | .sl e,.sl e2=>do
  let E←match cx.P.underlying t with|some (.slice E)=>X.pure E|_=>X.fail 105
  let b:=cx.by_ E
  X.guard 106 (e.known&&e2.beq e)
  if isNil e s then do
   match←zDd e x with
   | some (r2,a2)=>zBq e b (.c .nil) [r2] a2
   | none=>zsQ e b (.c .nil) x
  else match s with
  | .z e' a=>do
   X.guard 109 (e'.beq e)
   if sameAt e x a then do
    let v←X.op (.clone b) [a]
    newRow e v
   else do
    let o←X.op .sub [a,i64c 0,i64c 0]
    zsQ e b o x
  | .hc e' r hi=>do
   X.guard 111 (e'.beq e)
   zCW e b r hi x
  | .h e' r vw=>do
   X.guard 111 (e'.beq e)
   if cx.lend&&vw.isNone then zwq e b r x
   else match←X.getRoot r with
   | .mat e'' a _=>do
    X.guard 112 (e.beq (.sl e''))
    match←zDd e x with
    | some (r2,a2) =>
     if vw.isNone&&!Nat.beq r r2 then zBq e b a [r,r2] a2
     else do
      X.putRoot r (.row e a)
      ziy e b r vw x
    | none=>do
     X.putRoot r (.row e a)
     ziy e b r vw x
   | _=>ziy e b r vw x
  | _=>X.fail 115
 | .sl e,.int _=>do
  let E←match cx.P.underlying t with|some (.slice E)=>X.pure E|_=>X.fail 105
  X.guard 107 (e.known&&isNil e s)
  let (_,n)←zj9 x
  let v←X.op (.zext e.zero (cx.by_ E)) [.c .nil,n]
  newRow e v
 | _,_=>X.fail 116
def zuU (cx:Cx) (t:TypeId) (s:SV):X SV:=do
 match cx.T t,s with
 | .sl e,.h e' r none=>do
  X.guard 117 (e'.beq e&&e.known)
  match←X.getRoot r with
  | .row e'' a=>do
   X.guard 118 (e''.beq e)
   let v←X.op (.clr e.zero) [a]
   X.putRoot r (.row e v)
   X.pure (.un 1)
  | _=>X.fail 119
 | .sl e,.hr e' r ix g=>do
  X.guard 117 (e'.beq e&&e.known)
  match←X.getRoot r with
  | .mat e'' a g'=>do
   X.guard 118 (e''.beq e&&Nat.beq g g')
   let y←X.op .get [a,ix]
   let y' ← X.op (.clr e.zero) [y]
   let v←X.op .set [a,ix,y']
   X.putRoot r (.mat e v g)
   X.pure (.un 1)
  | _=>X.fail 119
 | .sl e,.h e' r (some (lo,hi))=>do
  X.guard 117 (e'.beq e&&e.known)
  match←X.getRoot r with
  | .row e'' a=>do
   X.guard 118 (e''.beq e)
   let y←X.op .sub [a,lo,hi]
   let z←X.op (.clr e.zero) [y]
   let v←X.op .cpyv [a,lo,hi,z]
   X.putRoot r (.row e v)
   X.pure (.un 1)
  | _=>X.fail 119
 | _,_=>X.fail 120
def zw9 (e:Ty) (r:Nat) (a lo hi y:At):X SV:=do
 let v←X.op .cpyv [a,lo,hi,y]
 X.putRoot r (.row e v)
 let n←X.op .vlen [lo,hi]
 let k←X.op .len [y]
 let j←X.op .min2 [k,n]
 X.pure (.d (.int .i64) j)
def zx4 (cx:Cx) (t:TypeId) (s x:SV):X SV:=do
 match cx.T t,s with
 | .sl e,.hb R e' n r []=>do
  X.guard 121 (e'.beq e&&R.beq (.arr n e)&&Nat.beq e.size 1&&e.flat)
  let y←SV.view false (.sl e) x
  match←X.getRoot r with
  | .box R' (.d T a)=>do
   X.guard 122 (R'.beq R&&T.beq R)
   let v←X.op .cpy [a,y]
   X.putRoot r (.box R (.d R v))
   X.pure (.un 1)
  | _=>X.fail 123
 | .sl e,.h e' r (some (lo,hi))=>do
  X.guard 121 (e'.beq e&&e.flat)
  let y←SV.view false (.sl e) x
  let a←rowAt e r
  zw9 e r a lo hi y
 | .sl e,.h e' r none=>do
  X.guard 121 (e'.beq e&&e.flat)
  let y←SV.view false (.sl e) x
  let a←rowAt e r
  let n←X.op .len [a]
  zw9 e r a (i64c 0) n y
 | _,_=>X.fail 124
def zGw (cx:Cx) (k e:TypeId) (K V:Ty):Bool:=K.beq (cx.T k)&&V.beq (cx.T e)&&K.flat&&K.known&&V.flat&&V.known&&eqOk cx 20 k
def ztk (cx:Cx) (t:TypeId) (n:Bool):X SV:=do
 X.guard 160 n
 match cx.P.underlying t with
 | some (.map k e)=>do
  X.guard 161 (zGw cx k e (cx.T k) (cx.T e))
  let r←X.newRoot (.mp (cx.T k) (cx.T e) (.c (.sl [])))
  X.pure (.mr (cx.T k) (cx.T e) r)
 | _=>X.fail 162
def zIO (K V:Ty) (r:Nat):X At:=do
 match←X.getRoot r with
 | .mp K' V' a=>do
  X.guard 163 (K'.beq K&&V'.beq V)
  X.pure a
 | _=>X.fail 164
def zp2 (cx:Cx) (t:TypeId) (x ix:SV) (ok:Bool):X SV:=do
 match cx.P.underlying t,x with
 | some (.map k e),.mr K V r=>do
  X.guard 165 (zGw cx k e K V)
  let a←zIO K V r
  let i←SV.view false K ix
  let v←X.op (.mget V.zero) [a,i]
  if ok then do
   let b←X.op .mhas [a,i]
   X.pure (.tu [.d V v,.d .bool b])
  else X.pure (.d V v)
 | _,_=>X.fail 166
def zjk (cx:Cx) (t:TypeId) (x ix y:SV):X SV:=do
 match cx.P.underlying t,x with
 | some (.map k e),.mr K V r=>do
  X.guard 165 (zGw cx k e K V)
  let i←SV.view false K ix
  let v←SV.view false V y
  let a←zIO K V r
  let m←X.op .mput [a,i,v]
  X.putRoot r (.mp K V m)
  X.pure (.un 1)
 | _,_=>X.fail 166
def capOf:SV→X SV
 | .cv (.slice none 0 0)=>X.pure (.d (.int .i64) (.c (.int .i64 0)))
 | .d (.sl _) (.c .nil)=>X.pure (.d (.int .i64) (.c (.int .i64 0)))
 | _=>X.fail 167
def At.okAt (n:Nat):At→Bool|.v i=>Nat.blt i n|.c _=>true
def Stp.okAt (n:Nat):Stp→Bool|.i a=>a.okAt n|.f _=>true
def zfI (n:Nat):List Stp→Bool
 | []=>true
 | s::q=>s.okAt n&&zfI n q
def zzh (n:Nat):Option (At×At)→Bool|some (a,b)=>a.okAt n&&b.okAt n|none=>true
mutual
def SV.okAt (n:Nat):SV→Bool
 | .d _ a=>a.okAt n
 | .pd _ a=>a.okAt n
 | .z _ a=>a.okAt n
 | .h _ _ vw=>zzh n vw
 | .p _ _ _ q=>zfI n q
 | .hb _ _ _ _ q=>zfI n q
 | .hr _ _ i _=>i.okAt n
 | .hc _ _ i=>i.okAt n
 | .pm _ _ _ i q _=>i.okAt n&&zfI n q
 | .ag _ l=>SV.okAtL n l
 | .tu l=>SV.okAtL n l
 | .fn _ a l=>SV.okAtL n a&&SV.okAtL n l
 | .mr ..=>true
 | .un _=>true
 | .cv _=>true
def SV.okAtL (n:Nat):List SV→Bool
 | []=>true
 | s::l=>s.okAt n&&SV.okAtL n l
end
def Root.okAt (n:Nat):Root→Bool
 | .box _ v=>v.okAt n
 | .row _ a=>a.okAt n
 | .mat _ a _=>a.okAt n
 | .fz _ a=>a.okAt n
 | .lt _ a _=>a.okAt n
 | .bo _ a=>a.okAt n
 | .ow _ a ix _=>a.okAt n&&ix.okAt n
 | .mp _ _ a=>a.okAt n
 | .dead=>true
def ziQ (n:Nat):List Root→Bool
 | []=>true
 | R::l=>R.okAt n&&ziQ n l
def frozen:List Ty→Nat→List SV
 | [],_=>[]
 | T::l,j=>.d T (.v j)::frozen l (j + 1)
def zGf:List SV→SV|[s]=>s|l=>.tu l
def zcM (cx:Cx) (fn:Func):List Ty:=fn.params.toList.map cx.T
def zhA (cx:Cx) (fn:Func):List Ty:=fn.resultTypes.toList.map cx.T
def zCw (cx:Cx) (f:FuncId) (fn:Func) (args:List SV):X SV:=do
 let as←SV.viewL (!Ty.flatL (zhA cx fn)) (zcM cx fn) args
 let x←X.call f as (zhA cx fn).length
 X.pure (zGf (frozen (zhA cx fn) x))
def zlu (fn:Func):Bool:=fn.body.isSome&&!(fn.name == "runtime.NumGoroutine")
def zv3 (cx:Cx) (f:FuncId) (fn:Func):Bool :=
 !cx.inl.contains f&&Nat.beq fn.nfree 0&&Ty.knownL (zcM cx fn)&&Ty.knownL (zhA cx fn)
def zC3:Nat→Nat→X (List Root)
 | 0,_=>X.pure []
 | n + 1,r=>do
  let R←X.getRoot r
  let l←zC3 n (r + 1)
  X.pure (R::l)
def zv2:Nat→List Root→List Root→X Unit
 | _,_,[]=>X.pure ()
 | r,[],R::l=>do
  let _←X.newRoot R
  zv2 (r + 1) [] l
 | r,O::o,R::l=>do
  if R.le O then zv2 (r + 1) o l
  else do
   X.putRoot r R
   zv2 (r + 1) o l
def zAe (mem:List Root):Option Inl→X SV
 | none=>X.fail 131
 | some i=>do
  X.guard 135 (Nat.ble mem.length i.mem.length)
  X.sub i.t i.m
  zv2 0 mem i.mem
  X.pure i.res
def zlU (inl:FuncId→List SV→Nat→List Root→Option Inl) (f:FuncId) (args:List SV):X SV:=do
 let p←X.nvab
 let mem←zC3 p.2 0
 X.guard 133 (SV.okAtL p.1 args&&ziQ p.1 mem)
 zAe mem (inl f args p.1 mem)
def zCL (e:Ty) (i:Inl):Option Nat :=
 match i.t,i.res,i.mem with
 | .prim .isnil [.v 0] (.ite (.v 1) (.jmp 0 false [.c .nil]) (.prim (.app b) [.c (.sl []),.v 0] (.jmp 0 false [.v 2]))),.h e' 0 none,[.row e'' (.v 1)] =>
  if Nat.beq i.m 1&&e'.beq e&&e''.beq e then some b else none
 | _,_,_=>none
def zAK (cx:Cx) (inl:FuncId→List SV→Nat→List Root→Option Inl) (f:FuncId) (fn:Func):Option (Ty×Nat) :=
 match zcM cx fn with
 | [.sl e] =>
  if e.flat then
   match inl f [.d (.sl e) (.v 0)] 1 [] with
   | some i=>match zCL e i with
    | some b=>some (e,b)
    | none=>none
   | none=>none
  else none
 | _=>none
def zte (e:Ty) (b:Nat) (s:SV):X SV:=do
 let a←SV.view false (.sl e) s
 let v←X.op (.clone b) [a]
 newRow e v
def zxg (T:Ty) (s:SV):X At:=do
 match s with
 | .h e r none=>do
  match←X.getRoot r with
  | .bo e' a=>do
   X.guard 4 (T.beq (.sl e)&&e'.beq e)
   X.pure a
  | _=>SV.view false T s
 | _=>SV.view false T s
def zkZ:List Ty→List SV→X (List At)
 | [],[]=>X.pure []
 | T::Ts,s::l=>do
  let a←zxg T s
  let as←zkZ Ts l
  X.pure (a::as)
 | _,_=>X.fail 12
def zipA:List Ty→List At→List SV
 | T::Ts,a::as=>.d T a::zipA Ts as
 | _,_=>[]
def zCp (i:Inl):X SV :=
 match i.res with
 | .h e r none=>match zbg i.mem r with
  | .row e' a=>do
   X.guard 138 (e'.beq e&&e.flat)
   X.sub i.t i.m
   newRow e a
  | _=>X.fail 139
 | _=>X.fail 139
def zyF (cx:Cx) (inl:FuncId→List SV→Nat→List Root→Option Inl) (f:FuncId) (fn:Func) (args:List SV):X SV:=do
 let as←zkZ (zcM cx fn) args
 let p←X.nvab
 X.guard 136 (SV.okAtL p.1 (zipA (zcM cx fn) as))
 match inl f (zipA (zcM cx fn) as) p.1 [] with
 | some i=>zCp i
 | none=>X.fail 137
def zw5 (cx:Cx) (inl:FuncId→List SV→Nat→List Root→Option Inl) (callee:SV) (args:List SV):X SV:=do
 match callee with
 | .fn f fst caps =>
  match cx.P.funcs[f]? with
  | none=>X.fail 130
  | some fn=>do
   X.guard 134 (zlu fn)
   if cx.freshL.contains f&&(caps.isEmpty&&fst.isEmpty) then zyF cx inl f fn args
   else if zv3 cx f fn&&caps.isEmpty&&fst.isEmpty then zCw cx f fn args
   else match (if fst.isEmpty&&caps.isEmpty then zAK cx inl f fn else none),args with
    | some (e,b),[s]=>zte e b s
    | _,_=>zlU inl f (fst++args++caps)
 | _=>X.fail 132
def zla (ρ:Tmp→SV) (x:Option Operand):Option SV:=x.map (opnd ρ)
def zkM (l:List (At×Bool)) (a:At):Option Bool :=
 match l with
 | []=>none
 | (b,v)::r=>if b.beq a then some v else zkM r a
def zxS (kn:List (At×Bool)) (c a b:SV):X SV :=
 match simple c with
 | .d .bool (.c (.bool true))=>X.pure (simple a)
 | .d .bool (.c (.bool false))=>X.pure (simple b)
 | .d .bool x=>match zkM kn x with
  | some true=>X.pure (simple a)
  | some false=>X.pure (simple b)
  | none=>match simple a,simple b with
   | .d T u,.d T' v=>do
    X.guard 140 (T.beq T')
    let w←X.op .pick [x,u,v]
    X.pure (.d T w)
   | _,_=>X.fail 141
 | _=>X.fail 142
def zFK (p:Prim):List SV→X SV
 | [x,y]=>do
  let (k,a)←zj9 x
  let (k',b)←zj9 y
  X.guard 143 (decide (k=k'))
  let v←X.op p [a,b]
  X.pure (.d (.int k) v)
 | _=>X.fail 144
def asg (T:Ty) (s:SV):SV :=
 match s with
 | .cv v=>match cvtD T v with|some d=>.d T (.c d)|none=>s
 | s=>s
def znc (cx:Cx) (src dst:TypeId) (s:SV):X SV:=do
 match cx.T src,cx.T dst,simple s with
 | .int _,.int k,.d (.int _) a=>do let v←X.op (.conv k) [a];X.pure (.d (.int k) v)
 | .sl (.int .u8),.str,s=>do let a←SV.view false (.sl (.int .u8)) s;let v←X.op .b2s [a];X.pure (.d .str v)
 | .str,.sl (.int .u8),.d .str a=>do let v←X.op .s2b [a];X.pure (.d (.sl (.int .u8)) v)
 | .sl (.int .u8),.sl (.int .u8),.h e r none=>do
  X.guard 148 (Nat.beq src dst&&e.beq (.int .u8))
  match←X.getRoot r with
  | .row e' (.c (.sl (d::l)))=>do
   X.guard 148 (e'.beq (.int .u8))
   X.putRoot r (.fz (.int .u8) (.c (.sl (d::l))))
   X.pure (.h (.int .u8) r none)
  | _=>X.fail 148
 | _,_,_=>X.fail 148
def zI4 (cx:Cx) (t:TypeId) (x:SV):Bool :=
 match simple x,cx.P.underlying t with
 | .d .str _,some .string=>true
 | .d .str _,_=>false
 | _,some (.slice _)=>true
 | _,_=>false
def zcf (cx:Cx) (inl:FuncId→List SV→Nat→List Root→Option Inl) (kn:List (At×Bool)) (ρ:Tmp→SV) (o:Oper):X SV :=
 match o.op with
 | .move x=>X.pure (asg (cx.T o.type) (opnd ρ x))
 | .assign x=>X.pure (asg (cx.T o.type) (opnd ρ x))
 | .pick c a b=>zxS kn (opnd ρ c) (opnd ρ a) (opnd ρ b)
 | .alloc t=>do
  let T:=cx.T t
  X.guard 145 T.known
  let r←X.newRoot (.box T (.d T (.c T.zero)))
  X.pure (.p T T r [])
 | .box t x=>do
  let T:=cx.T t
  X.guard 154 (cx.cell1 t)
  let s←SV.typed T (opnd ρ x)
  let r←X.newRoot (.box T s)
  X.pure (.p T T r [])
 | .build t parts=>zti cx t (parts.toList.map fun (i,x)=>(i,opnd ρ x))
 | .buildSlice t n parts=>zd7 cx t n (parts.toList.map fun (i,x)=>(i,opnd ρ x))
 | .load t x=>zCB cx t (opnd ρ x)
 | .store t x v=>ztW cx t (opnd ρ x) (opnd ρ v)
 | .nilCheck x=>match opnd ρ x with
  | .p R T r q=>X.pure (.p R T r q)
  | .pd T a=>X.pure (.pd T a)
  | .fn f a l=>X.pure (.fn f a l)
  | .pm e T r ix q g=>do
   let _←zI1 e r g
   X.pure (.pm e T r ix q g)
  | _=>X.fail 146
 | .binOp op xt x y _=>zA6 cx op xt (opnd ρ x) (opnd ρ y)
 | .unOp op _ x=>do
  let (T,a)←atD (opnd ρ x)
  X.guard 147 (match T with|.int _=>true|.bool=>true|_=>false)
  let v←X.op (.un op) [a]
  X.pure (.d T v)
 | .convert src dst x=>znc cx src dst (opnd ρ x)
 | .makeFunc (.func f) first captured=>X.pure (.fn f (first.toList.map (opnd ρ)) (captured.toList.map (opnd ρ)))
 | .makeSlice t l c=>zjl cx t (opnd ρ l) (opnd ρ c)
 | .slice t x lo hi mx=>zta cx t (opnd ρ x) (zla ρ lo) (zla ρ hi) (zla ρ mx)
 | .fieldAddr t x j=>zpe cx t (opnd ρ x) j
 | .field t x j=>zyI cx t (opnd ρ x) j
 | .indexAddr t x i=>zi2 cx t (opnd ρ x) (opnd ρ i)
 | .index t x i=>zzH cx t (opnd ρ x) (opnd ρ i)
 | .makeMap t r=>ztk cx t r.isNone
 | .lookup t x i ok=>zp2 cx t (opnd ρ x) (opnd ρ i) ok
 | .mapUpdate t x i v=>zjk cx t (opnd ρ x) (opnd ρ i) (opnd ρ v)
 | .extract x j=>match opnd ρ x with
  | .tu l=>X.of 150 (l[j]?)
  | _=>X.fail 151
 | .call { callee:=.builtin b,args,argTypes } =>
  match b,args.toList.map (opnd ρ),argTypes.toList with
  | .len,[x],[t]=>do
   X.guard 152 (zI4 cx t x)
   lenOf x
  | .cap,[x],[t]=>do
   X.guard 152 (match cx.P.underlying t with|some (.slice _)=>true|_=>false)
   capOf x
  | .append,[s,x],[t,xt]=>zqc cx t xt s x
  | .clear,[s],[t]=>zuU cx t s
  | .copy,[s,x],[t,_]=>zx4 cx t s x
  | .min,[x,y],_=>zFK .min2 [x,y]
  | .max,[x,y],_=>zFK .max2 [x,y]
  | _,_,_=>X.fail 152
 | .call { callee:=.value f,args,.. }=>zw5 cx inl (opnd ρ f) (args.toList.map (opnd ρ))
 | _=>X.fail 153
end Go.SX
namespace Go.SX
def St.slot (st:St) (t:Tmp):SV:=(st.slots[t]?).getD (.un 1)
def St.root (st:St) (r:Nat):Root:=(st.mem[r]?).getD .dead
def ztC:Nat→List Root→List Root
 | 0,l=>l
 | n + 1,R::l=>R::ztC n l
 | n + 1,[]=>.dead::ztC n []
def zrn:List (Nat×Root)→List Root→List Root
 | [],m=>m
 | (r,R)::l,m=>(zrn l m).set r R
structure Eff where
 i:Nat
 run:Bool
 dst:Option Tmp
 sv:SV
 bs:List Bd
 up:List (Nat×Root)
 foot:List Nat
 nv:Nat
 ab:Nat
 nv':Nat
 ab':Nat
def upOk (n:Nat):List (Nat×Root)→Bool
 | []=>true
 | (r,_)::l=>Nat.blt r n&&upOk n l
def Tree.only:Nat→Tree→Bool
 | n,.prim _ _ k=>k.only n
 | n,.call _ _ _ k=>k.only n
 | n,.sub t _ k=>t.only (n + 1)&&k.only n
 | n,.loop _ b=>b.only (n + 1)
 | n,.ite _ a b=>a.only n&&b.only n
 | n,.jmp l _ _=>Nat.blt l n
 | _,.fin _ _=>false
 | _,.fail _=>true
def znr:List Bd→Bool
 | []=>true
 | .sub t _::l=>t.only 1&&znr l
 | _::l=>znr l
def zof:List Bd→Bool
 | .sub .. :: _=>true
 | _=>false
def znf (cx:Cx) (inl:FuncId→List SV→Nat→List Root→Option Inl) (kn:List (At×Bool)) (ρ:Tmp→SV) (μ:Nat→Root) (nv ab i:Nat) (o:Oper):Option Eff :=
 match (zcf cx inl kn ρ o).run μ ⟨[],nv,[],ab⟩ with
 | none=>none
 | some (sv,s,foot)=>if upOk s.ab s.up&&znr s.bs then some ⟨i,true,o.dst,sv,s.bs,s.up,foot,nv,ab,s.nv,s.ab⟩ else none
def znH (i:Nat) (o:Oper) (st:St):Eff:=⟨i,false,o.dst,.tu [],[],[],[],st.nv,st.mem.length,st.nv,st.mem.length⟩
def zA1 (cx:Cx) (inl:FuncId→List SV→Nat→List Root→Option Inl) (kn:List (At×Bool)) (ρ:Tmp→SV) (μ:Nat→Root) (nv ab:Nat) (o:Oper):Nat :=
 (zcf cx inl kn ρ o).why μ ⟨[],nv,[],ab⟩
def St.put (st:St) (t:Option Tmp) (s:SV):List SV :=
 match t with|none=>st.slots|some t=>st.slots.set t s
def St.after (st:St) (e:Eff):St :=
 { st with nv:=e.nv',slots:=st.put e.dst e.sv,mem:=zrn e.up (ztC e.ab' st.mem) }
def guardOf (st:St) (ops:List Oper) (j:Nat):Option SV :=
 match ops[j]? with
 | some o=>match o.dst with
  | some t=>some (simple (st.slot t))
  | none=>none
 | none=>none
def zn4 (o:Oper):List Tmp:=o.op.operands.toList.filterMap fun|.tmp t=>some t|_=>none
def zkN (ops:List Oper) (o:Oper):List Tmp :=
 match o.guard with
 | none=>[]
 | some (j,_)=>match ops[j]? with|some g=>g.dst.toList|none=>[]
def beforeL (ops:List Oper):List Nat→List Nat
 | acc=>go ops acc
 where
 go:List Oper→List Nat→List Nat
  | [],acc=>acc
  | o::l,acc=>go l (acc++[o.after.toList.foldl (fun s e=>if Region.binds .any e then Nat.lor (Nat.lor s (2 ^ e.on)) ((acc[e.on]?).getD 0) else s) 0])
def disj (a b:List Nat):Bool:=a.all fun x=>!b.contains x
structure Foot where
 i:Nat
 rs:List Nat
 ws:List Nat
 rt:List Tmp
 wt:List Tmp
def zma:Nat:=1000000
def zez (ops:List Oper) (e:Eff):Foot :=
 match ops[e.i]? with
 | none=>⟨e.i,[],[],[],[]⟩
 | some o=>⟨e.i,if Nat.blt e.ab e.ab' then zma::e.foot else e.foot,if zof e.bs then zma::e.up.map (·.1) else e.up.map (·.1),zn4 o++zkN ops o,o.dst.toList⟩
def zy5 (a b:Foot):Bool :=
 disj a.ws b.rs&&disj a.ws b.ws&&disj b.ws a.rs&&disj a.wt b.rt&&disj a.wt b.wt&&disj b.wt a.rt
def zi6 (bf:List Nat):List Foot→Bool
 | []=>true
 | e::l=>l.all (fun g=>((bf[g.i]?).getD 0).testBit e.i||zy5 e g)&&zi6 bf l
def ztp (ops:List Oper):Nat→Bool
 | n=>go ops n
 where
 go:List Oper→Nat→Bool
  | [],_=>true
  | o::l,n=>o.after.toList.all (fun e=>!Region.binds .any e||Nat.blt e.on n)&&go l (n + 1)
inductive GD where|go|skip|ask (a:At) (want:Bool)|bad
def zzf (st:St) (ops:List Oper) (kn:List (At×Bool)) (o:Oper):GD :=
 match o.guard with
 | none=>.go
 | some (j,want) =>
  match guardOf st ops j with
  | some (.d .bool (.c (.bool b)))=>if b==want then .go else .skip
  | some (.d .bool a) =>
   match zkM kn a with
   | some b=>if b==want then .go else .skip
   | none=>.ask a want
  | some (.tu [])=>.skip
  | _=>.bad
def zfb (cx:Cx) (inl:FuncId→List SV→Nat→List Root→Option Inl) (draw:Bool) (ops:List Oper) (bf:List Nat) :
  List Oper→Nat→St→List (At×Bool)→List Eff→Tree
 | [],_,st,_,log =>
  if !draw||zi6 bf ((log.map (zez ops)).reverse) then .fin .normal st else .fail 900
 | o::rest,i,st,kn,log =>
  let go (kn:List (At×Bool)):Tree :=
   match znf cx inl kn st.slot st.root st.nv st.mem.length i o with
   | none=>.fail (zA1 cx inl kn st.slot st.root st.nv st.mem.length o)
   | some e=>zpW e.bs (zfb cx inl draw ops bf rest (i + 1) (st.after e) kn (e::log))
  let skip (kn:List (At×Bool)):Tree :=
   zfb cx inl draw ops bf rest (i + 1) (st.after (znH i o st)) kn (znH i o st::log)
  match zzf st ops kn o with
  | .go=>go kn
  | .skip=>skip kn
  | .ask a want=>.ite a (if want then go ((a,true)::kn) else skip ((a,true)::kn)) (if want then skip ((a,false)::kn) else go ((a,false)::kn))
  | .bad=>.fail 901
def Tree.onFin (t:Tree) (f:Ex→St→Tree):Tree :=
 match t with
 | .prim p as k=>.prim p as (k.onFin f)
 | .call g as m k=>.call g as m (k.onFin f)
 | .sub t m k=>.sub (t.onFin f) m (k.onFin f)
 | .loop i b=>.loop i (b.onFin f)
 | .ite c a b=>.ite c (a.onFin f) (b.onFin f)
 | .jmp l b as=>.jmp l b as
 | .fin x st=>f x st
 | .fail n=>.fail n
def nxt (f:St→Tree):Ex→St→Tree
 | .normal,st=>f st
 | x,st=>.fin x st
def Tree.andThen (t:Tree) (f:St→Tree):Tree:=t.onFin (nxt f)
def Tree.ends (t:Tree) (f:Ex→Ex):Tree:=t.onFin fun x st=>.fin (f x) st
def Tree.normals:Tree→Bool→List (St×Bool)
 | .prim _ _ k,d=>k.normals d
 | .call _ _ _ k,d=>k.normals d
 | .sub t _ k,d=>t.normals true++k.normals d
 | .loop _ b,_=>b.normals true
 | .ite _ a b,d=>a.normals d++b.normals d
 | .jmp ..,_=>[]
 | .fin .normal st,d=>[(st,d)]
 | .fin _ _,_=>[]
 | .fail _,_=>[]
def Tree.conv (f:Nat→St→Tree):Nat→Tree→Tree
 | d,.prim p as k=>.prim p as (k.conv f d)
 | d,.call g as m k=>.call g as m (k.conv f d)
 | d,.sub t m k=>.sub (t.conv f (d + 1)) m (k.conv f d)
 | d,.loop i b=>.loop i (b.conv f (d + 1))
 | d,.ite c a b=>.ite c (a.conv f d) (b.conv f d)
 | _,.jmp l b as=>.jmp l b as
 | d,.fin .normal st=>f d st
 | _,.fin x st=>.fin x st
 | _,.fail n=>.fail n
structure MS where
 n0:Nat
 base:Nat
 ats:List (List At)
 rts:List (List Nat)
 mems:List (List Root)
def zH6:List At→List At→Bool
 | [],[]=>true
 | a::l,b::l'=>a.beq b&&zH6 l l'
 | _,_=>false
def zFU:List Nat→List Nat→Bool
 | [],[]=>true
 | a::l,b::l'=>Nat.beq a b&&zFU l l'
 | _,_=>false
def zEU (x:List At):List (List At)→Nat→Option Nat
 | [],_=>none
 | y::l,n=>if zH6 x y then some n else zEU x l (n + 1)
def zCq (x:List Nat):List (List Nat)→Nat→Option Nat
 | [],_=>none
 | y::l,n=>if zFU x y then some n else zCq x l (n + 1)
def MS.at_ (as:List At) (s:MS):At×MS :=
 match as with
 | []=>(.c .nil,s)
 | a::l =>
  if l.all (·.beq a)&&(match a with|.v i=>Nat.blt i s.n0|.c _=>true) then (a,s)
  else match zEU as s.ats 0 with
   | some j=>(.v (s.n0 + j),s)
   | none=>(.v (s.n0 + s.ats.length),{ s with ats:=s.ats++[as] })
def MS.rt (rs:List Nat) (s:MS):Nat×MS :=
 match rs with
 | []=>(0,s)
 | r::l =>
  if l.all (Nat.beq r)&&Nat.blt r s.base then (r,s)
  else match zCq rs s.rts 0 with
   | some j=>(s.base + j,s)
   | none=>(s.base + s.rts.length,{ s with rts:=s.rts++[rs] })
def zJv:SV→Option Ty
 | .d T _=>some T
 | .ag T _=>some T
 | .h e _ _=>some (.sl e)
 | .z e _=>some (.sl e)
 | .cv (.int k _)=>some (.int k)
 | .cv (.bool _)=>some .bool
 | .cv (.string _)=>some .str
 | _=>none
def zEI:List SV→Option Ty
 | []=>none
 | s::l=>match zJv s with|some T=>some T|none=>zEI l
def asDs (T:Ty):List SV→Option (List At)
 | []=>some []
 | s::l=>match asDs T l with
  | none=>none
  | some r=>match asg T s with
   | .d T' a=>if T'.beq T then some (a::r) else none
   | _=>none
def zDM (e:Ty):SV→Bool
 | .d T (.c .nil)=>T.beq (.sl e)
 | .cv (.slice none 0 0)=>true
 | _=>false
def asHs (e:Ty):List SV→List (List Root)→Option (List Nat×List (List Root))
 | [],_=>some ([],[])
 | s::l,m::ms=>match asHs e l ms with
  | none=>none
  | some (rs,ms')=>match s with
   | .h e' r none=>if e'.beq e then some (r::rs,m::ms') else none
   | s=>if zDM e s then some (m.length::rs,(m++[.row e (.c .nil)])::ms') else none
 | _::_,[]=>none
def contents (e:Ty):List SV→List (List Root)→Option (List At)
 | [],_=>some []
 | s::l,m::ms=>match contents e l ms with
  | none=>none
  | some r=>match asg (.sl e) s with
   | .d T a=>if T.beq (.sl e) then some (a::r) else none
   | .h e' rr none=>if e'.beq e then (match zbg m rr with|.row _ a=>some (a::r)|.fz _ a=>some (a::r)|.mat _ a _=>some (a::r)|_=>none) else none
   | _=>none
 | _::_,[]=>none
def asHv (e:Ty):List SV→List (List Root)→Option (List Nat×List At×List At×List (List Root))
 | [],_=>some ([],[],[],[])
 | .h e' r (some (a,b))::l,m::ms=>match asHv e l ms with
  | some (rs,as,bs,ms')=>if e'.beq e then some (r::rs,a::as,b::bs,m::ms') else none
  | none=>none
 | .h e' r none::l,m::ms=>match asHv e l ms with
  | some (rs,as,bs,ms')=>if e'.beq e then some (r::rs,.c (.int .i64 0)::as,.v (2000000 + r)::bs,m::ms') else none
  | none=>none
 | s::l,m::ms=>match asHv e l ms with
  | some (rs,as,bs,ms')=>if zDM e s then some (m.length::rs,.c (.int .i64 0)::as,.c (.int .i64 0)::bs,(m++[.row e (.c .nil)])::ms') else none
  | none=>none
 | _,_=>none
def zHW:List Ty→Nat→List SV
 | [],_=>[]
 | T::Ts,n=>.d T (.v n)::zHW Ts (n + 1)
def zJp (T:Ty) (Ts:List Ty):List SV→Option (List (List SV))
 | []=>some []
 | s::l=>match zJp T Ts l with
  | none=>none
  | some r=>match asg T s with
   | .ag T' vs=>if T'.beq T then some (vs::r) else none
   | .d T' (.c (.agg ds))=>if T'.beq T then some (zipD Ts ds::r) else none
   | .d T' (.v i)=>if T'.beq T then some (zHW Ts (1000000 + 64 * i)::r) else none
   | _=>none
def asPs (R T:Ty):List SV→Option (List Nat×List (List Stp))
 | []=>some ([],[])
 | .p R' T' r q::l=>match asPs R T l with
  | some (rs,qs)=>if R'.beq R&&T'.beq T then some (r::rs,q::qs) else none
  | none=>none
 | _=>none
def asPd (T:Ty):List SV→Option (List At)
 | []=>some []
 | .pd T' a::l=>match asPd T l with
  | some r=>if T'.beq T then some (a::r) else none
  | none=>none
 | _=>none
def zJk (e:Ty):List SV→Option (List Nat×List At)
 | []=>some ([],[])
 | .hr e' r i _::l=>match zJk e l with
  | some (rs,as)=>if e'.beq e then some (r::rs,i::as) else none
  | none=>none
 | _=>none
def zJl (e T:Ty):List SV→Option (List Nat×List At×List (List Stp))
 | []=>some ([],[],[])
 | .pm e' T' r i q _::l=>match zJl e T l with
  | some (rs,as,qs)=>if e'.beq e&&T'.beq T then some (r::rs,i::as,q::qs) else none
  | none=>none
 | _=>none
def zJJ (R e:Ty) (n:Nat):List SV→Option (List Nat)
 | []=>some []
 | .hb R' e' n' r []::l=>match zJJ R e n l with
  | some rs=>if R'.beq R&&e'.beq e&&Nat.beq n n' then some (r::rs) else none
  | none=>none
 | _=>none
def zJj (K V:Ty):List SV→Option (List Nat)
 | []=>some []
 | .mr K' V' r::l=>match zJj K V l with
  | some rs=>if K'.beq K&&V'.beq V then some (r::rs) else none
  | none=>none
 | _=>none
def zJA (f:FuncId):List SV→Option (List (List SV)×List (List SV))
 | []=>some ([],[])
 | .fn g a c::l=>match zJA f l with
  | some (q,r)=>if Nat.beq f g then some (a::q,c::r) else none
  | none=>none
 | _=>none
def zJf:List SV→Option (List (List SV))
 | []=>some []
 | .tu c::l=>match zJf l with
  | some r=>some (c::r)
  | none=>none
 | _=>none
def zl9 {α:Type}:List (List α)→Option (List α×List (List α))
 | []=>some ([],[])
 | (a::l)::r=>match zl9 r with
  | some (hs,ts)=>some (a::hs,l::ts)
  | none=>none
 | []::_=>none
def zpx:Nat→List (List Stp)→MS→Option (List Stp×MS)
 | 0,_,_=>none
 | n + 1,qs,s =>
  if qs.all List.isEmpty then some ([],s) else
  match zl9 qs with
  | none=>none
  | some (hs,ts)=>match hs with
   | .f j::_ =>
    if hs.all (fun x=>x.beq (.f j)) then match zpx n ts s with
     | some (q,s)=>some (.f j::q,s)
     | none=>none
    else none
   | .i _::_ =>
    let as:=hs.filterMap fun|.i a=>some a|_=>none
    if Nat.beq as.length hs.length then
     let (a,s):=s.at_ as
     match zpx n ts s with
     | some (q,s)=>some (.i a::q,s)
     | none=>none
    else none
   | []=>none
def zzz (m:List Root) (r:Nat):Option Nat:=match zbg m r with|.mat _ _ g=>some g|_=>none
def zCd:List SV→List (List Root)→Bool
 | .hr _ r _ g::l,m::ms=>(match zzz m r with|some g'=>Nat.beq g g'|none=>false)&&zCd l ms
 | .pm _ _ r _ _ g::l,m::ms=>(match zzz m r with|some g'=>Nat.beq g g'|none=>false)&&zCd l ms
 | _,_=>true
def zkR:List Nat→List (List Root)→Bool
 | r::rs,m::ms=>(match zbg m r with|.dead=>true|_=>false)||zkR rs ms
 | _,_=>false
mutual
def zAQ:Nat→List SV→MS→SV×MS
 | 0,_,s=>(.un 1,s)
 | n + 1,svs,s =>
  let un:SV:=.un ((svs.head?.map SV.csize).getD 1)
  match zEI svs with
  | some T =>
   match asDs T svs with
   | some as=>let (a,s):=s.at_ as;(.d T a,s)
   | none=>match T with
    | .sl e=>match asHs e svs s.mems with
     | some (rs,ms)=>if zkR rs ms then (un,s) else let (r,s):=MS.rt rs { s with mems:=ms };(.h e r none,s)
     | none=>match asHv e svs s.mems with
      | some (rs,as,bs,ms) =>
       if zkR rs ms then (un,s) else
       let (r,s):=MS.rt rs { s with mems:=ms }
       let (a,s):=s.at_ as
       let (b,s):=s.at_ bs
       (.h e r (some (a,b)),s)
      | none=>match contents e svs s.mems with
       | some as=>let (a,s):=s.at_ as;(.d T a,s)
       | none=>(un,s)
    | .st Ts=>match zJp T Ts svs with
     | some vss=>let (l,s):=zAu n Ts.length vss s;(.ag T l,s)
     | none=>(un,s)
    | _=>(un,s)
  | none=>match svs with
   | .p R T _ _::_=>match asPs R T svs with
    | some (rs,qs)=>if zkR rs s.mems then (un,s) else match zpx 20 qs s with
     | some (q,s)=>let (r,s):=s.rt rs;(.p R T r q,s)
     | none=>(un,s)
    | none=>(un,s)
   | .hr e _ _ _::_=>match zJk e svs with
    | some (rs,as)=>if zkR rs s.mems||!zCd svs s.mems then (un,s) else
     let (r,s):=s.rt rs
     let (a,s):=s.at_ as
     (.hr e r a 0,s)
    | none=>(un,s)
   | .pm e T _ _ _ _::_=>match zJl e T svs with
    | some (rs,as,qs)=>if zkR rs s.mems||!zCd svs s.mems then (un,s) else match zpx 20 qs s with
     | some (q,s) =>
      let (r,s):=s.rt rs
      let (a,s):=s.at_ as
      (.pm e T r a q 0,s)
     | none=>(un,s)
    | none=>(un,s)
   | .pd T _::_=>match asPd T svs with
    | some as=>let (a,s):=s.at_ as;(.pd T a,s)
    | none=>(un,s)
   | .hb R e k _ []::_=>match zJJ R e k svs with
    | some rs=>if zkR rs s.mems then (un,s) else let (r,s):=s.rt rs;(.hb R e k r [],s)
    | none=>(un,s)
   | .mr K V _::_=>match zJj K V svs with
    | some rs=>if zkR rs s.mems then (un,s) else let (r,s):=s.rt rs;(.mr K V r,s)
    | none=>(un,s)
   | .fn f a c::_=>match zJA f svs with
    | some (uss,vss)=>let (u,s):=zAu n a.length uss s;let (l,s):=zAu n c.length vss s;(.fn f u l,s)
    | none=>(un,s)
   | .tu c::_=>match zJf svs with
    | some vss=>let (l,s):=zAu n c.length vss s;(.tu l,s)
    | none=>(un,s)
   | .cv v::r=>if r.all (fun x=>(SV.cv v).le x) then (.cv v,s) else (un,s)
   | _=>(un,s)
def zAu:Nat→Nat→List (List SV)→MS→List SV×MS
 | 0,_,_,s=>([],s)
 | _ + 1,0,_,s=>([],s)
 | n + 1,k + 1,vss,s=>match zl9 vss with
  | none=>([],s)
  | some (hs,ts) =>
   let (v,s):=zAQ n hs s
   let (l,s):=zAu n k ts s
   (v::l,s)
end
def zwF:List (List SV)→Nat→MS→List SV×MS
 | _,0,s=>([],s)
 | vss,k + 1,s=>match zl9 vss with
  | none=>([],s)
  | some (hs,ts) =>
   let (v,s):=zAQ 40 hs s
   let (l,s):=zwF ts k s
   (v::l,s)
def zEr (T:Ty):List Root→Option (List SV)
 | []=>some []
 | .box T' v::l=>match zEr T l with|some r=>if T'.beq T then some (v::r) else none|none=>none
 | _=>none
def rowsOf (e:Ty):List Root→Option (List At×Bool×Bool)
 | []=>some ([],true,true)
 | .row e' a::l=>match rowsOf e l with|some (r,b,m)=>if e'.beq e then some (a::r,b,m&&(match a with|.c .nil=>true|_=>false)) else none|none=>none
 | .mat e' a _::l=>match rowsOf e l with|some (r,b,m)=>if e.beq (.sl e') then some (a::r,b,m) else none|none=>none
 | .fz e' a::l=>match rowsOf e l with|some (r,_,_)=>if e'.beq e then some (a::r,false,false) else none|none=>none
 | _=>none
def zIl:List Root→Option Ty
 | []=>none
 | .mat e _ _::_=>some e
 | _::l=>zIl l
def zJW:Root→Option Ty
 | .row e _=>some e
 | .fz e _=>some e
 | .mat e _ _=>some (.sl e)
 | _=>none
def zIq (K V:Ty):List Root→Option (List At)
 | []=>some []
 | .mp K' V' a::l=>match zIq K V l with|some r=>if K'.beq K&&V'.beq V then some (a::r) else none|none=>none
 | _=>none
def zyO (Rs:List Root) (s:MS):Root×MS :=
 match Rs with
 | .box T _::_=>match zEr T Rs with
  | some vs=>let (v,s):=zAQ 40 vs s;(.box T v,s)
  | none=>(.dead,s)
 | .mp K V _::_=>match zIq K V Rs with
  | some as=>let (a,s):=s.at_ as;(.mp K V a,s)
  | none=>(.dead,s)
 | R::_=>match zJW R with
  | some e=>match rowsOf e Rs with
   | some (as,own,mat) =>
    let (a,s):=s.at_ as
    (match own,mat,zIl Rs with
     | true,true,some e'=>.mat e' a 0
     | true,_,_=>.row e a
     | false,_,_=>.fz e a,s)
   | none=>(.dead,s)
  | none=>(.dead,s)
 | []=>(.dead,s)
def zGa:List (List Root)→List Nat→List Root
 | m::ms,r::rs=>zbg m r::zGa ms rs
 | _,_=>[]
def zv5:Nat→Nat→MS→List Root×MS
 | 0,_,s=>([],s)
 | n + 1,i,s=>match s.rts[i]? with
  | none=>([],s)
  | some rs =>
   let (R,s):=zyO (zGa s.mems rs) s
   let (l,s):=zv5 n (i + 1) s
   (R::l,s)
def zCT:Nat→Nat→MS→List Root×MS
 | 0,_,s=>([],s)
 | n + 1,r,s =>
  let moved:=s.rts.any fun rs=>rs.contains r
  let (R,s):=if moved then (.dead,s) else zyO (s.mems.map fun m=>zbg m r) s
  let (l,s):=zCT n (r + 1) s
  (R::l,s)
def zBn:List SV→List SV→List SV
 | [],_=>[]
 | h::hs,ls=>match ls with
  | []=>[]
  | l::ls=>match h with
   | .un _=>zBn hs ls
   | _=>l::zBn hs ls
def ztb (n i:Nat):List (Nat×SV)→List SV
 | []=>List.replicate (n - i) (.un 1)
 | (j,s)::l=>List.replicate (j - i) (.un 1)++s::ztb n (j + 1) l
def zDh:List SV→List SV→List SV
 | [],_=>[]
 | h::hs,ps=>match h with
  | .un n=>.un n::zDh hs ps
  | _=>match ps with
   | []=>.un 1::zDh hs []
   | p::ps=>p::zDh hs ps
def zyk (n0 base:Nat) (sts:List St):St :=
 let s:MS:=⟨n0,base,[],[],sts.map (·.mem)⟩
 let f:=(sts.head?.map (·.slots)).getD []
 let ps:=sts.map fun st=>zBn f st.slots
 let k:=(ps.head?.map List.length).getD 0
 let (ms,s):=zwF ps k s
 let slots:=zDh f ms
 let (low,s):=zCT base 0 s
 let (tab,s):=zv5 60 0 s
 ⟨n0 + s.ats.length,base,slots,low++tab⟩
structure CoS where
 m:List Root
 nv:Nat
 bs:List Bd
def zeT (a:At):List Ty→Nat→CoS→List SV×CoS
 | [],_,s=>([],s)
 | T::Ts,j,s =>
  let x:At:=.v s.nv
  let (l,s):=zeT a Ts (j + 1) { s with nv:=s.nv + 1,bs:=.prim (.fld j) [a]::s.bs }
  (.d T x::l,s)
def zBv (Hm:List Root) (r:Nat) (e:Ty):Root :=
 match zbg Hm r,e with
 | .mat ..,.sl e'=>.mat e' (.c .nil) 0
 | _,_=>.row e (.c .nil)
def zI:At:=.c (.int .i64 0)
def coFz (e:Ty) (r:Nat) (s:CoS):Option (SV×CoS) :=
 match zbg s.m r with
 | .row e' a=>if e'.beq e then some (.d (.sl e) a,{ s with m:=s.m.set r (.fz e a) }) else none
 | .mat e' a _=>if e.beq (.sl e') then some (.d (.sl e) a,{ s with m:=s.m.set r (.fz e a) }) else none
 | .fz e' a=>if e'.beq e then some (.d (.sl e) a,s) else none
 | _=>none
def coVw (e:Ty) (r:Nat) (s:CoS):Option (SV×CoS) :=
 match (zbg s.m r).row? with
 | some (e',a)=>if e'.beq e then some (.h e r (some (zI,.v s.nv)),{ s with nv:=s.nv + 1,bs:=.prim .len [a]::s.bs }) else none
 | none=>none
def zj2 (Hm:List Root) (h l:SV) (s:CoS):Option (SV×CoS) :=
 match h with
 | .d T _=>match l with
  | .cv v=>match cvtD T v with|some x=>some (.d T (.c x),s)|none=>none
  | .h e r none=>if T.beq (.sl e) then coFz e r s else none
  | _=>none
 | .h e hr none=>if zDM e l then some (.h e s.m.length none,{ s with m:=s.m++[zBv Hm hr e] }) else none
 | .h e _ (some _) =>
  if zDM e l then some (.h e s.m.length (some (zI,zI)),{ s with m:=s.m++[.row e (.c .nil)] })
  else match l with
   | .h e' r none=>if e'.beq e then coVw e r s else none
   | _=>none
 | _=>none
def SV.ty1:SV→Option Ty
 | .d T _=>some T
 | .ag T _=>some T
 | .h e _ _=>some (.sl e)
 | .hc e _ _=>some (.sl e)
 | .z e _=>some (.sl e)
 | .hb _ e _ _ _=>some (.sl e)
 | .hr e _ _ _=>some (.sl e)
 | .p ..=>some .no
 | .pm ..=>some .no
 | .pd ..=>some .no
 | .fn ..=>some .no
 | .mr ..=>some .no
 | .cv _=>some .no
 | .un _=>none
 | .tu _=>none
def zDf (a b:SV):Bool:=match a.ty1,b.ty1 with|some T,some T'=>T.beq T'|_,_=>false
mutual
def coSV (Hm:List Root) (h l:SV) (s:CoS):SV×CoS :=
 match zj2 Hm h l s with
 | some p=>p
 | none=>match h,l with
  | .ag T hs,.ag T' ls=>if T'.beq T then (let (r,s):=coLC Hm hs ls s;(.ag T' r,s)) else (l,s)
  | .ag T hs,.d T' (.c (.agg ds))=>match T with
   | .st Ts=>if T'.beq (.st Ts)&&Nat.beq ds.length Ts.length then (let (r,s):=coLC Hm hs (zipD Ts ds) s;(.ag (.st Ts) r,s)) else (l,s)
   | _=>(l,s)
  | .ag T hs,.d T' (.v i)=>match T with
   | .st Ts=>if T'.beq (.st Ts) then (let (l,s):=zeT (.v i) Ts 0 s;let (r,s):=coLC Hm hs l s;(.ag (.st Ts) r,s)) else (l,s)
   | _=>(l,s)
  | .tu hs,.tu ls=>let (r,s):=coL Hm hs ls s;(.tu r,s)
  | .fn _ us hs,.fn g ks ls=>let (u,s):=coL Hm us ks s;let (r,s):=coL Hm hs ls s;(.fn g u r,s)
  | _,_=>(l,s)
def coL (Hm:List Root):List SV→List SV→CoS→List SV×CoS
 | h::hs,l::ls,s =>
  let (x,s):=coSV Hm h l s
  let (r,s):=coL Hm hs ls s
  (x::r,s)
 | _,ls,s=>(ls,s)
def coLC (Hm:List Root):List SV→List SV→CoS→List SV×CoS
 | h::hs,l::ls,s =>
  let (x,s):=coSV Hm h l s
  let (r,s):=coLC Hm hs ls s
  ((if zDf l x then x else l)::r,s)
 | _,ls,s=>(ls,s)
end
def zfs (H:St):List (Nat×Nat)→CoS→CoS
 | [],s=>s
 | (l,h)::r,s =>
  match H.root h,zbg s.m l with
  | .box T hv,.box T' lv =>
   if T'.beq T then
    let (x,s'):=coSV H.mem hv lv s
    if zDf lv x then zfs H r { s' with m:=s'.m.set l (.box T' x) } else zfs H r s'
   else zfs H r s
  | _,_=>zfs H r s
structure Mt where
 sg:List (Nat×At)
 rh:List (Nat×Nat)
def zHU {α:Type}(l:List (Nat×α)) (k:Nat):Bool:=l.any fun x=>Nat.beq x.1 k
def mtAt (n0:Nat) (h l:At) (s:Mt):Mt :=
 match h with
 | .v j=>if Nat.ble n0 j then (if zHU s.sg (j - n0) then s else { s with sg:=s.sg++[(j - n0,l)] }) else s
 | _=>s
def mtRt (h l:Nat) (s:Mt):Mt:=if zHU s.rh l then s else { s with rh:=s.rh++[(l,h)] }
def zzt (n0:Nat):List Stp→List Stp→Mt→Mt
 | .i a::q,.i b::q',s=>zzt n0 q q' (mtAt n0 a b s)
 | .f _::q,.f _::q',s=>zzt n0 q q' s
 | _,_,s=>s
mutual
def mtSV (n0:Nat):SV→SV→Mt→Mt
 | .d _ a,.d _ b,s=>mtAt n0 a b s
 | .pd _ a,.pd _ b,s=>mtAt n0 a b s
 | .z _ a,.z _ b,s=>mtAt n0 a b s
 | .h _ r vw,.h _ r' vw',s =>
  let s:=mtRt r r' s
  match vw,vw' with
  | some (a,b),some (c,d)=>mtAt n0 b d (mtAt n0 a c s)
  | _,_=>s
 | .p _ _ r q,.p _ _ r' q',s=>zzt n0 q q' (mtRt r r' s)
 | .hb _ _ _ r q,.hb _ _ _ r' q',s=>zzt n0 q q' (mtRt r r' s)
 | .hr _ r i _,.hr _ r' i' _,s=>mtAt n0 i i' (mtRt r r' s)
 | .pm _ _ r i q _,.pm _ _ r' i' q' _,s=>zzt n0 q q' (mtAt n0 i i' (mtRt r r' s))
 | .mr _ _ r,.mr _ _ r',s=>mtRt r r' s
 | .ag _ l,.ag _ l',s=>mtL n0 l l' s
 | .tu l,.tu l',s=>mtL n0 l l' s
 | .fn _ a l,.fn _ a' l',s=>mtL n0 l l' (mtL n0 a a' s)
 | _,_,s=>s
def mtL (n0:Nat):List SV→List SV→Mt→Mt
 | h::hs,l::ls,s=>mtL n0 hs ls (mtSV n0 h l s)
 | _,_,s=>s
end
def zEt (n0:Nat):List SV→List SV→Mt→Mt
 | h::hs,l::ls,s=>zEt n0 hs ls (mtSV n0 h l s)
 | _,_,s=>s
def zJu (n0:Nat) (h l:Root) (s:Mt):Mt :=
 match h,l with
 | .box _ v,.box _ v'=>mtSV n0 v v' s
 | .row _ a,.row _ b=>mtAt n0 a b s
 | .row _ a,.fz _ b=>mtAt n0 a b s
 | .fz _ a,.row _ b=>mtAt n0 a b s
 | .fz _ a,.fz _ b=>mtAt n0 a b s
 | .fz _ a,.mat _ b _=>mtAt n0 a b s
 | .row _ a,.mat _ b _=>mtAt n0 a b s
 | .mat _ a _,.mat _ b _=>mtAt n0 a b s
 | .mat _ a _,.row _ b=>mtAt n0 a b s
 | .mp _ _ a,.mp _ _ b=>mtAt n0 a b s
 | _,_=>s
def zFX (n0:Nat) (H:St) (m:List Root):Nat→Nat→Mt→Mt
 | 0,_,s=>s
 | n + 1,i,s=>match s.rh[i]? with
  | none=>s
  | some (l,h)=>zFX n0 H m n (i + 1) (zJu n0 (H.root h) (zbg m l) s)
def zxJ (H:St):Nat→Nat→List (Nat×Nat)
 | 0,_=>[]
 | n + 1,r=>match H.root r with
  | .dead=>zxJ H n (r + 1)
  | _=>(r,r)::zxJ H n (r + 1)
def zAw (n0:Nat) (H:St) (slots:List SV) (m:List Root):Mt :=
 zFX n0 H m 80 0 (zEt n0 H.slots slots ⟨[],zxJ H H.base 0⟩)
def look (rh:List (Nat×Nat)) (l:Nat):Option Nat :=
 match rh with
 | []=>none
 | (a,b)::r=>if Nat.beq a l then some b else look r l
def zeS (rh:List (Nat×Nat)) (h:Nat):Option Nat :=
 match rh with
 | []=>none
 | (a,b)::r=>if Nat.beq b h then some a else zeS r h
def gen0 (base r g:Nat):Nat:=if Nat.blt r base then g else 0
mutual
def SV.ren (base:Nat) (m:List Root) (rh:List (Nat×Nat)):SV→SV
 | .h e r vw=>match look rh r with|some r'=>.h e r' vw|none=>.un 1
 | .p R T r q=>match look rh r with|some r'=>.p R T r' q|none=>.un 1
 | .hb R e n r q=>match look rh r with|some r'=>.hb R e n r' q|none=>.un 1
 | .hc e r i=>match look rh r with|some r'=>.hc e r' i|none=>.un 1
 | .hr e r i g=>match look rh r,zzz m r with|some r',some g'=>if Nat.beq g g' then .hr e r' i (gen0 base r' g) else .un 1|_,_=>.un 1
 | .pm e T r i q g=>match look rh r,zzz m r with|some r',some g'=>if Nat.beq g g' then .pm e T r' i q (gen0 base r' g) else .un 1|_,_=>.un 1
 | .ag T l=>.ag T (SV.renL base m rh l)
 | .tu l=>.tu (SV.renL base m rh l)
 | .fn f a l=>.fn f (SV.renL base m rh a) (SV.renL base m rh l)
 | .mr K V r=>match look rh r with|some r'=>.mr K V r'|none=>.un 1
 | .un n=>.un n
 | .cv v=>.cv v
 | .d T a=>.d T a
 | .z e a=>.z e a
 | .pd T a=>.pd T a
def SV.renL (base:Nat) (m:List Root) (rh:List (Nat×Nat)):List SV→List SV
 | []=>[]
 | s::l=>s.ren base m rh::SV.renL base m rh l
end
def Root.ren (base:Nat) (m:List Root) (rh:List (Nat×Nat)) (h:Nat):Root→Root
 | .box T v=>.box T (v.ren base m rh)
 | .mat e a g=>.mat e a (gen0 base h g)
 | R=>R
def zk5 (base:Nat) (rh:List (Nat×Nat)) (m:List Root):Nat→Nat→List Root
 | 0,_=>[]
 | n + 1,h=>(match zeS rh h with|some l=>(zbg m l).ren base m rh h|none=>.dead)::zk5 base rh m n (h + 1)
def At.inst (n0:Nat) (sg:List At):At→At
 | .v i=>if Nat.ble n0 i then (sg[i - n0]?).getD (.c .nil) else .v i
 | a=>a
def Stp.inst (n0:Nat) (sg:List At):Stp→Stp
 | .i a=>.i (a.inst n0 sg)
 | s=>s
def zGg (n0:Nat) (sg:List At):Option (At×At)→Option (At×At)
 | some (a,b)=>some (a.inst n0 sg,b.inst n0 sg)
 | none=>none
mutual
def SV.inst (n0:Nat) (sg:List At):SV→SV
 | .d T a=>.d T (a.inst n0 sg)
 | .pd T a=>.pd T (a.inst n0 sg)
 | .z e a=>.z e (a.inst n0 sg)
 | .h e r vw=>.h e r (zGg n0 sg vw)
 | .p R T r q=>.p R T r (q.map (Stp.inst n0 sg))
 | .hb R e n r q=>.hb R e n r (q.map (Stp.inst n0 sg))
 | .hr e r i g=>.hr e r (i.inst n0 sg) g
 | .hc e r i=>.hc e r (i.inst n0 sg)
 | .pm e T r i q g=>.pm e T r (i.inst n0 sg) (q.map (Stp.inst n0 sg)) g
 | .ag T l=>.ag T (SV.instL n0 sg l)
 | .tu l=>.tu (SV.instL n0 sg l)
 | .fn f a l=>.fn f (SV.instL n0 sg a) (SV.instL n0 sg l)
 | .mr K V r=>.mr K V r
 | .un n=>.un n
 | .cv v=>.cv v
def SV.instL (n0:Nat) (sg:List At):List SV→List SV
 | []=>[]
 | s::l=>s.inst n0 sg::SV.instL n0 sg l
end
def Root.inst (n0:Nat) (sg:List At):Root→Root
 | .box T v=>.box T (v.inst n0 sg)
 | .row e a=>.row e (a.inst n0 sg)
 | .mat e a g=>.mat e (a.inst n0 sg) g
 | .fz e a=>.fz e (a.inst n0 sg)
 | .lt e a r=>.lt e (a.inst n0 sg) r
 | .bo e a=>.bo e (a.inst n0 sg)
 | .ow e a ix r=>.ow e (a.inst n0 sg) (ix.inst n0 sg) r
 | .mp K V a=>.mp K V (a.inst n0 sg)
 | .dead=>.dead
def St.okAt (st:St):Bool:=SV.okAtL st.nv st.slots&&ziQ st.nv st.mem
def zlp:List SV→List SV→Bool
 | [],[]=>true
 | a::l,b::l'=>a.leSlot b&&zlp l l'
 | _,_=>false
def zAv:List Root→List Root→Bool
 | [],[]=>true
 | a::l,b::l'=>a.le b&&zAv l l'
 | _,_=>false
def rhOk (base n:Nat):List (Nat×Nat)→Bool
 | []=>true
 | (l,h)::r=>(Nat.beq l h||Nat.ble base h)&&Nat.blt h n&&!r.any (fun x=>Nat.beq x.1 l||Nat.beq x.2 h)&&rhOk base n r
def sgOf (sg:List (Nat×At)):Nat→Nat→List At
 | 0,_=>[]
 | n + 1,j=>((sg.find? fun x=>Nat.beq x.1 j).map (·.2)).getD (.c .nil)::sgOf sg n (j + 1)
def zuC:List Bd→Nat
 | []=>0
 | b::l=>b.outs + zuC l
def zc0:List Bd→Bool
 | []=>true
 | .prim _ _::l=>zc0 l
 | _::_=>false
def noBo:List Root→Bool
 | []=>true
 | .bo .. :: _=>false
 | .ow .. :: _=>false
 | _::l=>noBo l
def fit0 (n0:Nat) (H L:St):Option (List At×List Bd) :=
 let (s1,c1):=coL H.mem H.slots L.slots ⟨L.mem,L.nv,[]⟩
 let t1:=zAw n0 H s1 c1.m
 let c2:=zfs H t1.rh c1
 let t2:=zAw n0 H s1 c2.m
 let c3:=zfs H (t2.rh.drop t1.rh.length) c2
 let t3:=zAw n0 H s1 c3.m
 let sg:=sgOf t3.sg (H.nv - n0) 0
 let s':=SV.renL L.base c3.m t3.rh s1
 let m':=zk5 L.base t3.rh c3.m H.mem.length 0
 if noBo c3.m&&rhOk L.base H.mem.length t3.rh&&zc0 c3.bs&&Nat.beq c3.nv (L.nv + zuC c3.bs)&&Nat.beq H.base L.base&&Nat.ble L.base H.mem.length&&zlp s' (SV.instL n0 sg H.slots)&&zAv m' (H.mem.map (Root.inst n0 sg)) then some (sg,c3.bs) else none
def zxn:List SV→List SV
 | []=>[]
 | h::hs=>match h with
  | .un _=>zxn hs
  | h=>h::zxn hs
def zzo:List SV→List SV→List SV
 | [],_=>[]
 | h::hs,ls=>match ls with
  | []=>[]
  | l::ls=>match h with
   | .un _=>zzo hs ls
   | _=>l::zzo hs ls
def zEC:List SV→List SV→Bool
 | [],l=>l.isEmpty
 | _::hs,l=>match l with|[]=>false|_::ls=>zEC hs ls
def fit (n0:Nat) (H L:St):Option (List At×List Bd) :=
 if zEC H.slots L.slots then fit0 n0 { H with slots:=zxn H.slots } { L with slots:=zzo H.slots L.slots } else none
def fits (n0:Nat) (H:St):List (St×Bool)→Bool
 | []=>true
 | (L,_)::l=>(fit n0 H L).isSome&&fits n0 H l
def fitJ (n0:Nat) (H:St) (back:Bool) (d:Nat) (L:St):Tree :=
 match fit n0 H L with
 | some (sg,bs)=>zpW bs (.jmp d back sg)
 | none=>.fail 910
def zAF (n0:Nat) (t:Tree):Tree :=
 match t.normals false with
 | []=>t
 | [(_,false)]=>t
 | ls =>
  match ls with
  | (st,_)::_ =>
   let H:=zyk n0 st.base (ls.map (·.1))
   if H.okAt&&Nat.ble n0 H.nv&&fits n0 H ls then .sub (t.conv (fitJ n0 H false) 0) (H.nv - n0) (.fin .normal H) else t
  | []=>t
def stLe (a b:St):Bool:=Nat.beq a.nv b.nv&&zlp (zBn a.slots a.slots) (zBn a.slots b.slots)&&zlp (zBn b.slots b.slots) (zBn b.slots a.slots)&&zAv a.mem b.mem&&zAv b.mem a.mem
def zIn (body:St→Tree) (st:St):Nat→St→St
 | 0,H=>H
 | n + 1,H =>
  let ls:=((body H).normals false).map (·.1)
  let H':=zyk st.nv st.base (st::ls)
  if stLe H H' then H else zIn body st n H'
def zmn (body:St→Tree) (st H:St) (sg:List At):Tree :=
 .loop sg ((body H).conv (fitJ st.nv H true) 0)
def zH1:List (Nat×Nat×St)→Nat→Nat→Option St
 | [],_,_=>none
 | (n,m,H)::l,n',m'=>if Nat.beq n n'&&Nat.beq m m' then some H else zH1 l n' m'
def zH4 (hd:List (Nat×Nat×St)) (m:Nat) (body:St→Tree) (st:St):St :=
 match zH1 hd st.nv m with
 | some H=>H
 | none=>zIn body st 8 st
def zBl (hd:List (Nat×Nat×St)) (m:Nat) (body:St→Tree) (st:St):Tree :=
 let H:=zH4 hd m body st
 if H.okAt&&Nat.ble st.nv H.nv then
  match fit st.nv H st with
  | some (sg,[])=>zmn body st H sg
  | some (sg,bs) =>
   let H':=zH4 hd m body H
   if H'.okAt&&Nat.ble H.nv H'.nv then
    match fit H.nv H' H with
    | some (sg',[])=>.sub (zpW bs (.jmp 0 false sg)) (H.nv - st.nv) (zmn body H H' sg')
    | _=>.fail 917
   else .fail 918
  | none=>.fail 912
 else .fail 913
def zB1 (t:Nat):Nat:=Nat.shiftLeft 1 t
def zJI (m t:Nat):Bool:=Nat.beq (Nat.land (Nat.shiftRight m t) 1) 1
def zvb:List Operand→Nat
 | []=>0
 | .tmp t::l=>Nat.lor (zB1 t) (zvb l)
 | _::l=>zvb l
def without (x y:Nat):Nat:=Nat.sub x (Nat.land x y)
def zIj:Option Tmp→Nat|none=>0|some t=>zB1 t
def zAZ:List Oper→Nat
 | []=>0
 | o::l=>match o.guard with
  | none=>Nat.lor (zIj o.dst) (zAZ l)
  | some _=>zAZ l
def zA5:List Oper→Nat
 | []=>0
 | o::l=>match o.guard with
  | none=>Nat.lor (zvb o.op.operands.toList) (without (zA5 l) (zIj o.dst))
  | some _=>Nat.lor (zvb o.op.operands.toList) (zA5 l)
def zFk:Code→Nat
 | .region _ ops _=>zAZ ops.toList
 | .seq a b=>Nat.lor (zFk a) (zFk b)
 | .cond _ a b=>Nat.land (zFk a) (zFk b)
 | _=>0
def zob:Code→Nat
 | .region _ ops _=>zA5 ops.toList
 | .seq a b=>Nat.lor (zob a) (without (zob b) (zFk a))
 | .cond c a b=>Nat.lor (zvb [c]) (Nat.lor (zob a) (zob b))
 | .block _ b=>zob b
 | .loop b=>zob b
 | .rangeFunc g _ a b=>Nat.lor (zvb [g]) (Nat.lor (zob a) (zob b))
 | _=>0
def forget (m:Nat):Nat→List SV→List SV
 | _,[]=>[]
 | i,s::l=>(if zJI m i then s else .un 1)::forget m (i + 1) l
def St.forget (m:Nat) (st:St):St:={ st with slots:=Go.SX.forget m 0 st.slots }
def Tree.fgt (m:Nat) (t:Tree):Tree:=t.andThen fun st=>.fin .normal (st.forget m)
def joinL (m n0:Nat) (t:Tree):Tree:=zAF n0 (t.fgt m)
def zDW (hd:List (Nat×Nat×St)) (m:Nat) (body:St→Tree) (st:St):Tree:=zBl hd m (fun s=>(body s).fgt m) (st.forget m)
def zfk:Code→Bool
 | .seq a b=>zfk a&&zfk b
 | .cond _ a b=>zfk a&&zfk b
 | .block _ b=>zfk b
 | .loop b=>zfk b
 | .rangeFunc ..=>false
 | _=>true
def zsP:List (FuncId×TypeId×TypeId)→FuncId→Option (TypeId×TypeId)
 | [],_=>none
 | (g,p)::l,f=>if Nat.beq g f then some p else zsP l f
def zv0 (cx:Cx) (st:St) (g:Operand):Option (Ty×At) :=
 match opnd st.slot g with
 | .fn f [] [.p _ _ r []]=>match zsP cx.bk f with
  | some (tS,tE)=>match st.root r with
   | .box T (.d (.sl e) a)=>if T.beq (.sl e)&&(cx.T tS).beq (.sl e)&&cx.cell1 tS&&(cx.T tE).beq e&&cx.cell1 tE then some (e,a) else none
   | _=>none
  | none=>none
 | _=>none
def zkQ (cx:Cx) (ex1 ex2:St→Tree) (g:Operand) (ps:List Tmp) (st:St):Tree :=
 let n:=st.slots.length - 1
 match st.slot n,zv0 cx st g,ps with
 | .d (.int .i64) i,some (e,a),[p,q] =>
  .prim (.bin .lss) [i,.c (.int .i64 0)] (.ite (.v st.nv) (.fin .ret { st with nv:=st.nv + 1 })
   (.prim .get [a,i] ((ex1 ⟨st.nv + 2,st.mem.length,((st.slots.take n).set p (.d (.int .i64) i)).set q (.d e (.v (st.nv + 1))),st.mem⟩).onFin fun x s=>match x with
    | .normal=>(ex2 { s with base:=s.mem.length }).onFin fun y s'=>match y with
     | .normal=>.prim (.bin .sub) [i,.c (.int .i64 1)] (.fin .normal ⟨s'.nv + 1,st.base,st.slots.take n++[.d (.int .i64) (.v s'.nv)],s'.mem⟩)
     | .exit id=>.fin (.exit id) ⟨s'.nv,st.base,st.slots,s'.mem⟩
     | .ret=>.fail 926
    | _=>.fail 927)))
 | _,_,_=>.fail 928
def zB8 (s:St):St:={ s with slots:=s.slots.take (s.slots.length - 1) }
def ztG (cx:Cx) (ex1 ex2:St→Tree) (m:Nat) (g:Operand) (ps:List Tmp) (st:St):Tree :=
 match zv0 cx st g with
 | some (_,a)=>.prim .len [a] (.prim (.bin .sub) [.v st.nv,.c (.int .i64 1)]
   ((zDW cx.hd (Nat.lor (zB1 st.slots.length) m) (zkQ cx ex1 ex2 g ps) ⟨st.nv + 2,st.base,st.slots++[.d (.int .i64) (.v (st.nv + 1))],st.mem⟩).onFin fun x s=>match x with
    | .ret=>.fin .normal (zB8 s)
    | .exit id=>.fin (.exit id) (zB8 s)
    | .normal=>.fail 929))
 | none=>.fail 916
def exec (cx:Cx) (inl:FuncId→List SV→Nat→List Root→Option Inl)  : Nat→Code→St→Tree
 | _,.skip,st=>.fin .normal st
 | _,.label _,st=>.fin .normal st
 | m,.region _ ops draw,st =>
  let l:=ops.toList
  let bf:=if draw then beforeL l [] else []
  if draw&&!ztp l 0 then .fail 914 else
  joinL m st.nv (zfb cx inl draw l bf l 0 st [] [])
 | m,.seq a b,st=>(exec cx inl (Nat.lor m (zob b)) a st).andThen fun st'=>exec cx inl m b st'
 | m,.cond c x y,st=>match simple (opnd st.slot c) with
  | .d .bool (.c (.bool true))=>exec cx inl m x st
  | .d .bool (.c (.bool false))=>exec cx inl m y st
  | .d .bool a=>joinL m st.nv (.ite a (exec cx inl m x st) (exec cx inl m y st))
  | _=>.fail 915
 | m,.block id b,st=>joinL m st.nv ((exec cx inl m b st).ends fun|.exit id'=>if Nat.beq id id' then .normal else .exit id'|x=>x)
 | m,.loop b,st=>zDW cx.hd (Nat.lor m (zob b)) (exec cx inl (Nat.lor m (zob b)) b) st
 | _,.exit id,st=>.fin (.exit id) st
 | _,.ret,st=>.fin .ret st
 | m,.rangeFunc g ps x y,st =>
  if zfk x&&zfk y&&Nat.beq ps.size 2 then ztG cx (exec cx inl (zob y) x) (exec cx inl 0 y) (Nat.lor m (Nat.lor (zvb [g]) (Nat.lor (zob x) (zob y)))) g ps.toList st else .fail 930
 | _,_,_=>.fail 931
def zC4 (cx:Cx) (st:St):ResultVar→Option SV
 | .tmp t=>some (st.slot t)
 | .cell t ty=>match st.slot t with
  | .p R T r [] =>
   if T.beq (cx.T ty)&&cx.cell1 ty then
    match (zHp R r []).run st.root ⟨[],st.nv,[],st.mem.length⟩ with
    | some (v,⟨[],_,_,_⟩,_)=>some v
    | _=>none
   else none
  | _=>none
def zzN (cx:Cx) (st:St):List ResultVar→Option (List SV)
 | []=>some []
 | r::l=>match zC4 cx st r with
  | none=>none
  | some s=>match zzN cx st l with
   | none=>none
   | some m=>some (s::m)
def zeM (cx:Cx) (fn:Func) (st:St):Option (List SV):=zzN cx st fn.results.toList
def zuz:List ResultVar→Nat
 | []=>0
 | .tmp t::l=>Nat.lor (zB1 t) (zuz l)
 | .cell t _::l=>Nat.lor (zB1 t) (zuz l)
def retN:Ex→Ex|.ret=>.normal|x=>x
def zpR (fn:Func) (args:List SV) (nv:Nat) (mem:List Root):St :=
 ⟨nv,mem.length,args++List.replicate (fn.ntmps - args.length) (.un 1),mem⟩
def ztF (cx:Cx) (fn:Func) (st':St):Tree :=
 match zeM cx fn st' with
 | some l=>.fin .normal { st' with slots:=l }
 | none=>.fail 920
def zIL (nv:Nat) (mem:List Root) (t:Tree):List (St×Bool)→Option Inl
 | []=>some ⟨t,0,.un 1,mem⟩
 | ls =>
  let H:=zyk nv mem.length (ls.map (·.1))
  if H.okAt&&Nat.ble nv H.nv then some ⟨t.conv (fitJ nv H false) 0,H.nv - nv,zGf H.slots,H.mem⟩ else none
def zGD:List (Nat×List (Nat×Nat×St))→Nat→List (Nat×Nat×St)
 | [],_=>[]
 | (g,l)::r,f=>if Nat.beq g f then l else zGD r f
def zvB (cx:Cx) (f:FuncId):Cx:={ cx with abs:=cx.absL.contains f,keep:=cx.keepL.contains f,lend:=cx.lendL.contains f,ow:=cx.owL.contains f,hd:=zGD cx.heads f }
def inlF (cx:Cx):Nat→FuncId→List SV→Nat→List Root→Option Inl
 | 0,_,_,_,_=>none
 | n + 1,f,args,nv,mem =>
  match cx.P.funcs[f]? with
  | none=>none
  | some fn=>match fn.body with
   | none=>none
   | some c =>
    let t:=((exec (zvB cx f) (inlF cx n) (zuz fn.results.toList) c (zpR fn args nv mem)).ends retN).andThen (ztF (zvB cx f) fn)
    zIL nv mem t (t.normals false)
def zAm (cx:Cx) (fn:Func) (Ts:List Ty) (d:Nat) (st':St):Tree :=
 match zeM cx fn st' with
 | none=>.fail 922
 | some l=>match (SV.viewL true Ts l).run st'.root ⟨[],st'.nv,[],st'.mem.length⟩ with
  | none=>.fail ((SV.viewL true Ts l).why st'.root ⟨[],st'.nv,[],st'.mem.length⟩)
  | some (as,s,_)=>if zc0 s.bs then zpW s.bs (.jmp d false as) else .fail 923
def zaM (cx:Cx) (n:Nat) (f:FuncId):Option Tree :=
 match cx.P.funcs[f]? with
 | none=>none
 | some fn=>match fn.body with
  | none=>none
  | some c =>
   if zv3 cx f fn then
    some (((exec (zvB cx f) (inlF cx n) (zuz fn.results.toList) c (zpR fn (frozen (zcM cx fn) 0) (zcM cx fn).length [])).ends retN).conv (zAm (zvB cx f) fn (zhA cx fn)) 0)
   else none
end Go.SX
namespace Go.SX
theorem zjo {c:Type}(a b:List c) (n):(a++b).drop (a.length + n)=b.drop n:=by simp
theorem zsC {d:Type}(b c:List d) (n):(b++c).take (b.length + n)=b++c.take n:=by
 induction b with
 | nil=>simp
 | cons a l ih=>simp_all [Nat.succ_add]
mutual
def DRep (w:World) (M:Nat→Prop):Ty→D→List Value→Prop
 | .int k,.int k' n,cs=>k=k'∧cs=[.int k n]
 | .bool,.bool b,cs=>cs=[.bool b]
 | .str,.str s,cs=>cs=[.string s]
 | .st Ts,.agg ds,cs=>DRepL w M Ts ds cs
 | .arr n e,.agg ds,cs=>ds.length=n∧DRepA w M e ds cs
 | .sl e,.sl ds,cs=>∃ a cap xs,cs=[.slice (some a) ds.length cap]∧ds.length≤cap∧DRepA w M e ds xs ∧
   (∀ j v,xs[j]?=some v→w.cell? (a.add j)=some v)∧(xs≠[]→¬ M a.block)
 | .sl _,.nil,cs=>cs=[.slice none 0 0]
 | _,_,_=>False
def DRepL (w:World) (M:Nat→Prop):List Ty→List D→List Value→Prop
 | [],[],cs=>cs=[]
 | T::Ts,d::ds,cs=>∃ c1 c2,cs=c1++c2∧DRep w M T d c1∧DRepL w M Ts ds c2
 | _,_,_=>False
def DRepA (w:World) (M:Nat→Prop) (e:Ty):List D→List Value→Prop
 | [],cs=>cs=[]
 | d::ds,cs=>∃ c1 c2,cs=c1++c2∧DRep w M e d c1∧DRepA w M e ds c2
end
structure zoq (w w':World) (M M':Nat→Prop):Prop where
 cell:∀ a v,w.cell? a=some v→¬ M a.block→w'.cell? a=some v
 free:∀ a v,w.cell? a=some v→¬ M a.block→¬ M' a.block
structure Keeps (w w':World) (M M':Nat→Prop):Prop where
 heap:∀ b,b<w.heap.size→¬ M b→w'.heap[b]?=w.heap[b]?
 less:∀ b,b<w.heap.size→¬ M b→¬ M' b
theorem Keeps.cell {w b M d}(K:Keeps w b M d) (a) (v) (h:w.cell? a=some v) (c:¬ M a.block):b.cell? a=some v:=by
 rw [← h]
 simp only [World.cell?,K.heap _ (World.block_lt_of_cell? w a h) c]
theorem Keeps.free {w d M b}(K:Keeps w d M b) (a) (v) (h:w.cell? a=some v) (c:¬ M a.block):¬ b a.block:=K.less _ (World.block_lt_of_cell? w a h) c
theorem Keeps.c {w a M b}(K:Keeps w a M b):zoq w a M b:=⟨K.cell,K.free⟩
theorem Keeps.size {w a M d}(K:Keeps w a M d) {b}(h:b<w.heap.size) (c:¬ M b):b<a.heap.size:=by
 have:=K.heap b h c
 grind
theorem Keeps.trans {w f g M d e}(h:Keeps w f M d) (k:Keeps f g d e):Keeps w g M e :=
 ⟨fun b a c=>(k.heap b (h.size a c) (h.less b a c)).trans (h.heap b a c),fun b a c=>k.less b (h.size a c) (h.less b a c)⟩
theorem zlS {w:World}{a:Addr}{j v}(_h:w.cell? (a.add j)=some v):(a.add j).block=a.block:=by grind [Addr.add]
mutual
theorem DRep.keepC {w g:World}{M i:Nat→Prop}(K:zoq w g M i):∀ {T:Ty}{d:D}{c:List Value},DRep w M T d c→DRep g i T d c
 | T,.int k n,c,h=>by cases T<;>simp only [DRep] at h ⊢<;>exact h
 | T,.bool b,c,h=>by cases T<;>simp only [DRep] at h ⊢<;>exact h
 | T,.str s,c,h=>by cases T<;>simp only [DRep] at h ⊢<;>exact h
 | T,.nil,c,h=>by cases T<;>simp only [DRep] at h ⊢<;>exact h
 | T,.agg f,c,h=>by
  cases T<;>simp only [DRep] at h ⊢
  ·exact DRepL.keepC K h
  ·exact ⟨h.1,DRepA.keepC K h.2⟩
 | T,.sl f,c,h=>by
  cases T<;>simp only [DRep] at h ⊢
  obtain ⟨a,x,p,m,o,A,u,h5⟩:=h
  refine ⟨a,x,p,m,o,DRepA.keepC K A,fun j v y=>?_,fun hx=>?_⟩
  ·exact K.cell _ _ (u j v y) (by grind [zlS])
  ·obtain ⟨v,z⟩:∃ v,p[0]?=some v:=by
    cases p with
    | nil=>grind
    | cons v l=>simp
   have:=K.free _ _ (u 0 v z) (by grind [zlS])
   grind [zlS]
theorem DRepL.keepC {w g:World}{M i:Nat→Prop}(K:zoq w g M i):∀ {q:List Ty}{f:List D}{c:List Value},DRepL w M q f c→DRepL g i q f c
 | [],[],c,h=>by grind [DRepL]
 | T::q,d::f,c,h=>by
  obtain ⟨r,t,e,m,o⟩:=h
  exact ⟨r,t,e,DRep.keepC K m,DRepL.keepC K o⟩
 | [],_::_,_,h=>by grind [DRepL]
 | _::_,[],_,h=>by grind [DRepL]
theorem DRepA.keepC {w g:World}{M i:Nat→Prop}(K:zoq w g M i):∀ {e:Ty}{f:List D}{c:List Value},DRepA w M e f c→DRepA g i e f c
 | e,[],c,h=>by grind [DRepA]
 | e,d::f,c,h=>by
  obtain ⟨r,t,B,m,o⟩:=h
  exact ⟨r,t,B,DRep.keepC K m,DRepA.keepC K o⟩
end
theorem DRep.keep {w b M a}(K:Keeps w b M a) {T d c}(h:DRep w M T d c):DRep b a T d c:=h.keepC K.c
theorem DRepL.keep {w b M a}(K:Keeps w b M a) {d c e}(h:DRepL w M d c e):DRepL b a d c e:=DRepL.keepC K.c h
theorem DRepA.keep {w b M a}(K:Keeps w b M a) {e c d}(h:DRepA w M e c d):DRepA b a e c d:=DRepA.keepC K.c h
mutual
theorem DRep.length {w:World}{M:Nat→Prop}:∀ {T:Ty}{d:D}{a:List Value},DRep w M T d a→a.length=T.size
 | T,.int k n,a,h=>by cases T<;>simp only [DRep] at h;grind [Ty.size]
 | T,.bool b,a,h=>by cases T<;>simp only [DRep] at h;grind [Ty.size]
 | T,.str s,a,h=>by cases T<;>simp only [DRep] at h;grind [Ty.size]
 | T,.nil,a,h=>by cases T<;>simp only [DRep] at h;grind [Ty.size]
 | T,.agg c,a,h=>by
  cases T<;>simp only [DRep] at h
  ·exact DRepL.length h
  ·simp only [Ty.size,← h.1];exact DRepA.length h.2
 | T,.sl c,a,h=>by
  cases T<;>simp only [DRep] at h
  grind [Ty.size]
theorem DRepL.length {w:World}{M:Nat→Prop}:∀ {f:List Ty}{c:List D}{a:List Value},DRepL w M f c a→a.length=Ty.sizeL f
 | [],[],a,h=>by grind [DRepL,Ty.sizeL]
 | T::f,d::c,a,h=>by
  obtain ⟨m,l,e,g,i⟩:=h
  simp [e,Ty.sizeL,DRep.length g,DRepL.length i]
 | [],_::_,_,h=>by grind [DRepL]
 | _::_,[],_,h=>by grind [DRepL]
theorem DRepA.length {w:World}{M:Nat→Prop}:∀ {e:Ty}{c:List D}{a:List Value},DRepA w M e c a→a.length=c.length * e.size
 | e,[],a,h=>by grind [DRepA]
 | e,d::c,a,h=>by
  obtain ⟨m,l,j,g,i⟩:=h
  simp [j,DRep.length g,DRepA.length i,Nat.add_mul,Nat.add_comm]
end
theorem DRepL.len {w M}:∀ {a}{b}{c},DRepL w M a b c→b.length=a.length
 | [],[],_,_=>rfl
 | T::a,d::b,c,h=>by
  obtain ⟨c1,c2,e,h1,f⟩:=h
  simp [DRepL.len f]
 | [],_::_,_,h=>by grind [DRepL]
 | _::_,[],_,h=>by grind [DRepL]
theorem DRepL.part {w M}:∀ {a}{b}{c}{j}{T}{d},DRepL w M a b c→a[j]?=some T→b[j]?=some d →
  DRep w M T d ((c.drop (Ty.sizeL (a.take j))).take T.size)
 | [],_,_,j,_,_,_,f,_=>by grind
 | _::_,[],_,j,_,_,_,_,g=>by grind
 | U::a,x::b,c,0,T,d,h,f,g=>by grind [DRepL,DRep.length,Ty.sizeL]
 | U::a,x::b,c,j + 1,T,d,h,f,g=>by
  obtain ⟨c1,c2,e,k,i⟩:=h
  subst e
  have:=DRepL.part i f g
  simpa only [List.take_succ_cons,Ty.sizeL,← (DRep.length k),zjo] using this
theorem DRepA.part {w M}:∀ {e}{a}{b}{j}{d},DRepA w M e a b→a[j]?=some d →
  DRep w M e d ((b.drop (j * e.size)).take e.size)
 | e,[],_,j,_,_,c=>by grind
 | e,x::a,b,0,d,h,c=>by grind [DRepA,DRep.length]
 | e,x::a,b,j + 1,d,h,c=>by
  obtain ⟨g,c2,i,k,l⟩:=h
  subst i
  have hl:=DRep.length k
  have:=DRepA.part l c
  have f:(j + 1) * e.size=g.length + j * e.size:=by grind
  rw [f,zjo]
  omega
theorem DRepA.append {w M e}:∀ {c f}{b a},DRepA w M e c b→DRepA w M e f a→DRepA w M e (c++f) (b++a)
 | [],_,b,a,h,g=>by grind [DRepA]
 | d::c,_,b,a,h,g=>by
  obtain ⟨j,k,l,m,i⟩:=h
  subst l
  simp
  exact ⟨j,k++a,rfl,m,DRepA.append i g⟩
theorem DRepA.take {w M e}:∀ {b}{a}(n),DRepA w M e b a→DRepA w M e (b.take n) (a.take (n * e.size))
 | [],a,n,h=>by grind [DRepA]
 | d::b,a,0,h=>by simp [DRepA]
 | d::b,a,n + 1,h=>by
  obtain ⟨c,g,he,f,i⟩:=h
  have hl:=DRep.length f
  refine ⟨c,g.take (n * e.size),?_,f,DRepA.take n i⟩
  have:(n + 1) * e.size=c.length + n * e.size:=by grind
  grind
theorem DRepA.drop {w M e}:∀ {b}{a}(n),DRepA w M e b a→DRepA w M e (b.drop n) (a.drop (n * e.size))
 | [],a,n,h=>by grind [DRepA]
 | d::b,a,0,h=>by grind
 | d::b,a,n + 1,h=>by
  obtain ⟨f,c2,g,i,c⟩:=h
  subst g
  have hl:=DRep.length i
  have:(n + 1) * e.size=f.length + n * e.size:=by grind
  rw [this,List.drop_succ_cons,zjo]
  exact DRepA.drop n c
theorem DRepA.set {w M e}:∀ {a}{b c}{j}{d},DRepA w M e a b→j<a.length→DRep w M e d c →
  DRepA w M e (a.set j d) (b.take (j * e.size)++c++b.drop (j * e.size + e.size))
 | [],_,_,j,_,_,l,_=>by grind
 | x::a,b,c,0,d,h,_,f=>by grind [DRep.length,DRepA]
 | x::a,b,c,j + 1,d,h,l,f=>by
  obtain ⟨g,c2,m,i,n⟩:=h
  subst m
  have hl:=DRep.length i
  refine ⟨g,_,?_,i,DRepA.set n (by grind) f⟩
  have k:(j + 1) * e.size=g.length + j * e.size:=by grind
  rw [k,Nat.add_assoc,zsC,zjo]
  simp
theorem DRepL.set {w M}:∀ {a}{e}{b c}{j}{T}{d},DRepL w M a e b→a[j]?=some T→DRep w M T d c →
  DRepL w M a (e.set j d) (b.take (Ty.sizeL (a.take j))++c++b.drop (Ty.sizeL (a.take j) + T.size))
 | [],_,_,_,j,_,_,_,hj,_=>by grind
 | _::_,[],_,_,j,_,_,h,_,_=>by grind [DRepL]
 | U::a,x::e,b,c,0,T,d,h,k,l=>by
  obtain ⟨m,n,i,f,g⟩:=h
  have hl:=DRep.length f
  simp [DRepL,Ty.sizeL]
  grind
 | U::a,x::e,b,c,j + 1,T,d,h,k,l=>by
  obtain ⟨m,n,i,f,g⟩:=h
  subst i
  refine ⟨m,_,?_,f,DRepL.set g k l⟩
  simp [Ty.sizeL]
  rw [Nat.add_assoc,← (DRep.length f),zsC,zjo]
  simp
end Go.SX
namespace Go.SX
def One (v:Value):Prop:=(∀ l,v≠.agg l)∧∀ l,v≠.tuple l
theorem One.cells {v}(h:One v):v.cells=#[v]:=by
 cases v<;>first|rfl|exact absurd rfl (h.1 _)
theorem One.one {v}(h:One v):v.oneCell'=true:=by
 cases v<;>first|rfl|exact absurd rfl (h.1 _)|exact absurd rfl (h.2 _)
def Root.there:Root→Bool|.dead=>false|_=>true
structure Pl where
 main:Option Nat
 rows:List (Option Nat)
def opts:List (Option Nat)→List Nat
 | []=>[]
 | some b::l=>b::opts l
 | none::l=>opts l
def Root.own:Root→Pl→List Nat
 | .box ..,p=>p.main.toList
 | .row ..,p=>p.main.toList
 | .mat ..,p=>p.main.toList++opts p.rows
 | .mp ..,p=>p.main.toList
 | .lt ..,p=>p.main.toList
 | .ow ..,p=>p.main.toList
 | _,_=>[]
structure Ctx where
 E:List D
 w:World
 μ:Nat→Root
 β:Nat→Pl
 A:Nat→Prop
 F:Nat→Prop
def Ctx.M (X:Ctx) (b:Nat):Prop:=X.F b∨∃ r,X.A r∧b∈(X.μ r).own (X.β r)
def bsize (w:World) (b:Nat):Option Nat :=
 match w.heap[b]? with
 | some (.cells c _ _)=>some c.size
 | _=>none
def tOff (E:List D):List Stp→Ty→Option Nat
 | [],_=>some 0
 | .f j::q,.st Ts=>match Ts[j]? with
  | some T=>match tOff E q T with
   | some n=>some (Ty.sizeL (Ts.take j) + n)
   | none=>none
  | none=>none
 | .i a::q,.arr _ e=>match a.get E with
  | some (.int _ i)=>if 0≤i then match tOff E q e with
   | some n=>some (i.toNat * e.size + n)
   | none=>none
   else none
  | _=>none
 | _,_=>none
def zlv (E:List D) (w:World) (e:Ty) (b n:Nat) (vw:Option (At×At)) (v:Value):Prop :=
 match vw with
 | none=>∃ cap bs,v=.slice (some ⟨b,0,none⟩) n cap∧n≤cap∧bsize w b=some bs∧cap * e.size≤bs
 | some (lo,hi)=>∃ ad cap bs k k' i j,lo.get E=some (.int k (Int.ofNat i))∧hi.get E=some (.int k' (Int.ofNat j))∧i≤j∧j≤n∧v=.slice (some ad) (j - i) cap∧n - i≤cap ∧
   bsize w b=some bs∧(i + cap) * e.size≤bs∧(cap≠0∨i=0→ad=⟨b,i * e.size,none⟩)
def zpT (E:List D):Option (At×At)→Prop
 | none=>True
 | some (lo,hi)=>∃ k k',lo.get E=some (.int k 0)∧hi.get E=some (.int k' 0)
def Empt (d:D) (v:Value):Prop:=(d=.nil∧v=.slice none 0 0)∨(d=.sl []∧∃ ad,v=.slice (some ad) 0 0)
def EmD (d:D):Prop:=d=.nil∨d=.sl []
theorem Empt.em {d v}(h:Empt d v):EmD d:=h.elim (fun h=>.inl h.1) (fun h=>.inr h.1)
theorem Empt.val {d v}(h:Empt d v):∃ A,v=.slice A 0 0:=h.elim (fun h=>⟨_,h.2⟩) (fun ⟨_,_,h⟩=>⟨_,h⟩)
theorem EmD.els {d}(h:EmD d):d.els=some []:=by rcases h with h|h<;>subst h<;>rfl
theorem EmD.len {d}(h:EmD d):Prim.run .len [d]=some (.int .i64 0):=by rcases h with h|h<;>subst h<;>rfl
theorem Empt.re {d A b}(h:Empt d (.slice A 0 0)) (hA:b=none↔A=none):Empt d (.slice b 0 0):=by
 rcases h with ⟨h,e⟩|⟨h,ad,e⟩
 ·exact .inl ⟨h,by grind⟩
 ·cases b with
  | none=>grind
  | some a=>exact .inr ⟨h,a,rfl⟩
theorem Empt.rep {w M e d v}(h:Empt d v):DRep w M (.sl e) d [v]:=by
 rcases h with ⟨h,e⟩|⟨h,a,e⟩<;>subst h e
 ·rfl
 ·exact ⟨a,0,[],rfl,wG0 _,by rfl,fun j u hj=>by grind,fun h=>absurd rfl h⟩
def HRep (X:Ctx) (e:Ty) (r:Nat) (vw:Option (At×At)) (v:Value):Prop :=
 ∃ a d,(X.μ r).row?=some (e,a)∧a.get X.E=some d ∧
  (((X.β r).main=none∧Empt d v∧zpT X.E vw) ∨
   (∃ b l,(X.β r).main=some b∧d=.sl l∧zlv X.E X.w e b l.length vw v))
def zIt (w:World) (e:Ty) (o:Option Nat) (d:D) (v:Value):Prop :=
 (o=none∧Empt d v) ∨
 ∃ b l cap bs,o=some b∧d=.sl l∧v=.slice (some ⟨b,0,none⟩) l.length cap∧l.length≤cap∧bsize w b=some bs∧cap * e.size≤bs
def Ref (X:Ctx):SV→Value→Prop
 | .h e r vw,v=>One v∧X.A r∧((X.μ r).there=true→HRep X e r vw v)
 | .hc e r hi,v=>One v∧X.A r∧((X.μ r).there=true→∃ a d,(X.μ r).row?=some (e,a)∧a.get X.E=some d ∧
   (((X.β r).main=none∧Empt d v∧∃ k,hi.get X.E=some (.int k 0)) ∨
    (∃ b l k j bs,(X.β r).main=some b∧d=.sl l∧hi.get X.E=some (.int k (Int.ofNat j))∧j≤l.length∧v=.slice (some ⟨b,0,none⟩) j j∧bsize X.w b=some bs∧j * e.size≤bs)))
 | .z _ a,v=>∃ d l x,a.get X.E=some d∧d.els=some l∧v=.slice x 0 0∧(x=none↔d=.nil)
 | .p R T r q,v=>X.A r∧∃ b off,v=.pointer (some ⟨b,off,none⟩)∧(X.β r).main=some b∧tOff X.E q R=some off∧tyAt q R=some T
 | .pd T a,v=>∃ ad d xs,v=.pointer (some ad)∧a.get X.E=some d∧DRep X.w X.M T d xs∧(∀ j u,xs[j]?=some u→X.w.cell? (ad.add j)=some u)∧(xs≠[]→¬ X.M ad.block)
 | .hb R e n r q,v=>X.A r∧q=[]∧R=.arr n e∧∃ b,(X.β r).main=some b∧v=.slice (some ⟨b,0,none⟩) n n
 | .hr e r ix g,v=>One v∧X.A r∧(∀ e' a g',X.μ r=.mat e' a g'→g≤g'∧(g=g'→e'=e∧∃ k i ds d o,a.get X.E=some (.sl ds)∧ix.get X.E=some (.int k (Int.ofNat i))∧ds[i]?=some d∧(X.β r).rows[i]?=some o∧zIt X.w e o d v))
 | .pm e T r ix q g,v=>One v∧X.A r∧(∀ e' a g',X.μ r=.mat e' a g'→g≤g'∧(g=g'→e'=e∧∃ k i b off,ix.get X.E=some (.int k (Int.ofNat i))∧(X.β r).rows[i]?=some (some b)∧v=.pointer (some ⟨b,off,none⟩)∧tOff X.E q (.arr 0 e)=some off∧tyAt q (.arr 0 e)=some T))
 | .mr _ _ r,v=>X.A r∧∃ b,v=.map (some b)∧(X.β r).main=some b
 | _,_=>False
def SV.hasTy:SV→Ty→Prop
 | .d T' _,T=>T'=T
 | .ag T' _,T=>T'=T
 | .h e _ _,T=>T=.sl e
 | .hc e _ _,T=>T=.sl e
 | .z e _,T=>T=.sl e
 | .hb _ e _ _ _,T=>T=.sl e
 | .hr e _ _ _,T=>T=.sl e
 | .p ..,T=>T=.no
 | .pm ..,T=>T=.no
 | .pd ..,T=>T=.no
 | .fn ..,T=>T=.no
 | .mr ..,T=>T=.no
 | .cv _,T=>T=.no
 | .un n,T=>n=T.size
 | .tu _,_=>False
mutual
def CRep (X:Ctx):SV→List Value→Prop
 | .un n,cs=>cs.length=n∧∀ v∈cs,One v
 | .cv v,cs=>cs=[v]∧One v
 | .d T a,cs=>∃ d,a.get X.E=some d∧DRep X.w X.M T d cs
 | .ag (.st Ts) l,cs=>CRepL X l Ts cs
 | .ag _ _,_=>False
 | .fn f fst caps,cs=>∃ us vs,cs=[.func (.func f) us vs]∧VRepL X fst us.toList∧VRepL X caps vs.toList
 | .tu _,_=>False
 | .h e r vw,cs=>∃ v,cs=[v]∧Ref X (.h e r vw) v
 | .hc e r i,cs=>∃ v,cs=[v]∧Ref X (.hc e r i) v
 | .z e a,cs=>∃ v,cs=[v]∧Ref X (.z e a) v
 | .p R T r q,cs=>∃ v,cs=[v]∧Ref X (.p R T r q) v
 | .pd T a,cs=>∃ v,cs=[v]∧Ref X (.pd T a) v
 | .hb R e n r q,cs=>∃ v,cs=[v]∧Ref X (.hb R e n r q) v
 | .hr e r i g,cs=>∃ v,cs=[v]∧Ref X (.hr e r i g) v
 | .pm e T r i q g,cs=>∃ v,cs=[v]∧Ref X (.pm e T r i q g) v
 | .mr K V r,cs=>∃ v,cs=[v]∧Ref X (.mr K V r) v
def CRepL (X:Ctx):List SV→List Ty→List Value→Prop
 | [],[],cs=>cs=[]
 | s::l,T::Ts,cs=>∃ c1 c2,cs=c1++c2∧s.hasTy T∧CRep X s c1∧CRepL X l Ts c2
 | _,_,_=>False
def VRep (X:Ctx):SV→Value→Prop
 | .un _,_=>True
 | .cv v',v=>v=v'
 | .d T a,v=>∃ d,a.get X.E=some d∧(if T.isAgg then ∃ cs,v=.agg cs∧DRep X.w X.M T d cs.toList else One v∧DRep X.w X.M T d [v])
 | .ag (.st Ts) l,v=>∃ cs,v=.agg cs∧CRepL X l Ts cs.toList
 | .ag _ _,_=>False
 | .tu l,v=>∃ vs,v=.tuple vs∧VRepL X l vs.toList
 | .fn f fst caps,v=>∃ us vs,v=.func (.func f) us vs∧VRepL X fst us.toList∧VRepL X caps vs.toList
 | .h e r vw,v=>Ref X (.h e r vw) v
 | .hc e r i,v=>Ref X (.hc e r i) v
 | .z e a,v=>Ref X (.z e a) v
 | .p R T r q,v=>Ref X (.p R T r q) v
 | .pd T a,v=>Ref X (.pd T a) v
 | .hb R e n r q,v=>Ref X (.hb R e n r q) v
 | .hr e r i g,v=>Ref X (.hr e r i g) v
 | .pm e T r i q g,v=>Ref X (.pm e T r i q g) v
 | .mr K V r,v=>Ref X (.mr K V r) v
def VRepL (X:Ctx):List SV→List Value→Prop
 | [],vs=>vs=[]
 | s::l,vs=>∃ v r,vs=v::r∧VRep X s v∧VRepL X l r
end
def sameLen (d d':D):Prop:=(d=.nil→d'=.nil)∧∀ l,d=.sl l→∃ l',d'=.sl l'∧l'.length=l.length
theorem sameLen.refl (d):sameLen d d:=⟨fun h=>h,fun l h=>⟨l,h,rfl⟩⟩
theorem sameLen.trans {a b c}(h:sameLen a b) (k:sameLen b c):sameLen a c :=
 ⟨fun e=>k.1 (h.1 e),fun l e=>by
  obtain ⟨f,d,q1⟩:=h.2 l e
  obtain ⟨l2,e2,q2⟩:=k.2 f d
  grind⟩
theorem Empt.same {d a v}(h:Empt d v) (s:sameLen d a):Empt a v:=by
 rcases h with ⟨h,e⟩|⟨h,e⟩
 ·exact .inl ⟨s.1 h,e⟩
 ·obtain ⟨l',h1,h2⟩:=s.2 _ h
  exact .inr ⟨by grind,e⟩
theorem EmD.same {d a}(h:EmD d) (s:sameLen d a):EmD a:=by
 rcases h with h|h
 ·exact .inl (s.1 h)
 ·obtain ⟨l',h1,h2⟩:=s.2 _ h
  exact .inr (by grind)
def sameRows (d d':D):Prop:=∀ ds,d=.sl ds→∃ ds',d'=.sl ds'∧∀ (i:Nat) (x:D),ds[i]?=some x→∃ x':D,ds'[i]?=some x'∧sameLen x x'
theorem sameRows.refl (d):sameRows d d:=fun a h=>⟨a,h,fun _ x h=>⟨x,h,sameLen.refl x⟩⟩
theorem sameRows.trans {a b c}(h:sameRows a b) (k:sameRows b c):sameRows a c:=fun f e=>by
 obtain ⟨g,j,l⟩:=h f e
 obtain ⟨m,n,o⟩:=k g j
 refine ⟨m,n,fun i x p=>?_⟩
 obtain ⟨q,r,s⟩:=l i x p
 obtain ⟨t,u,d⟩:=o i q r
 exact ⟨t,u,s.trans d⟩
structure ExtC (X X':Ctx):Prop where
 E:∀ (i:Nat) (d:D),X.E[i]?=some d→X'.E[i]?=some d
 K:zoq X.w X'.w X.M X'.M
 F:X'.F=X.F
 A:∀ r,X.A r→X'.A r
 β:∀ r,X.A r→((X'.μ r).there=true→(X.μ r).there=true)∧(X'.β r).main=(X.β r).main
 row:∀ r e a d,X.A r→(X'.μ r).there=true→(X.μ r).row?=some (e,a)→a.get X.E=some d →
  ∃ a' d',(X'.μ r).row?=some (e,a')∧a'.get X'.E=some d'∧sameLen d d'
 mat:∀ r e a' g,X.A r→X'.μ r=.mat e a' g→∃ a g0,X.μ r=.mat e a g0∧(g0=g→(X'.β r).rows=(X.β r).rows ∧
  (∀ b n,some b∈(X.β r).rows→bsize X.w b=some n→bsize X'.w b=some n)∧∀ d,a.get X.E=some d→∃ d',a'.get X'.E=some d'∧sameRows d d')
 gen:∀ r e a g e' a' g',X.A r→X.μ r=.mat e a g→X'.μ r=.mat e' a' g'→g≤g'
 size:∀ r b n,X.A r→(X'.μ r).there=true→(X.β r).main=some b→bsize X.w b=some n→bsize X'.w b=some n
structure Ext (X X':Ctx):Prop where
 E:∀ (i:Nat) (d:D),X.E[i]?=some d→X'.E[i]?=some d
 K:Keeps X.w X'.w X.M X'.M
 F:X'.F=X.F
 A:∀ r,X.A r→X'.A r
 β:∀ r,X.A r→((X'.μ r).there=true→(X.μ r).there=true)∧(X'.β r).main=(X.β r).main
 row:∀ r e a d,X.A r→(X'.μ r).there=true→(X.μ r).row?=some (e,a)→a.get X.E=some d →
  ∃ a' d',(X'.μ r).row?=some (e,a')∧a'.get X'.E=some d'∧sameLen d d'
 mat:∀ r e a' g,X.A r→X'.μ r=.mat e a' g→∃ a g0,X.μ r=.mat e a g0∧(g0=g→(X'.β r).rows=(X.β r).rows ∧
  (∀ b n,some b∈(X.β r).rows→bsize X.w b=some n→bsize X'.w b=some n)∧∀ d,a.get X.E=some d→∃ d',a'.get X'.E=some d'∧sameRows d d')
 gen:∀ r e a g e' a' g',X.A r→X.μ r=.mat e a g→X'.μ r=.mat e' a' g'→g≤g'
 size:∀ r b n,X.A r→(X'.μ r).there=true→(X.β r).main=some b→bsize X.w b=some n→bsize X'.w b=some n
theorem At.get_ext {E e}(h:∀ (i:Nat) (d:D),E[i]?=some d→e[i]?=some d) {a:At}{d}(b:a.get E=some d):a.get e=some d:=by
 cases a with
 | v i=>exact h i d b
 | c x=>exact b
theorem zsl {E g}(h:∀ (i:Nat) (d:D),E[i]?=some d→g[i]?=some d):∀ {q}{T}{n},tOff E q T=some n→tOff g q T=some n
 | [],_,_,b=>by grind [tOff]
 | .f j::q,T,n,b=>by
  cases T<;>simp only [tOff] at b ⊢<;>try omega
  rename_i p
  cases r:p[j]? with
  | none=>grind
  | some U =>
   simp only [r] at b ⊢
   cases c:tOff E q U with
   | none=>grind
   | some m=>simp only [c] at b;simp only [zsl h c];omega
 | .i a::q,T,n,b=>by
  cases T<;>simp only [tOff] at b ⊢<;>try omega
  rename_i m e
  cases l:a.get E with
  | none=>grind
  | some d =>
   rw [At.get_ext h l]
   simp only [l] at b
   cases d with
   | int k z =>
    simp only at b ⊢
    split at b
    ·rename_i o
     rw [if_pos o]
     cases c:tOff E q e with
     | none=>grind
     | some m=>simp only [c] at b;simp only [zsl h c];omega
    grind
   | _=>omega
theorem Ext.refl (X):Ext X X where
 E:=fun _ _ h=>h
 K:=⟨fun _ _ _=>rfl,fun _ _ h=>h⟩
 F:=rfl
 A:=fun _ h=>h
 β:=fun _ _=>⟨fun h=>h,rfl⟩
 row:=fun _ _ a d _ _ h b=>⟨a,d,h,b,sameLen.refl d⟩
 mat:=fun _ _ a g _ h=>⟨a,g,h,fun _=>⟨rfl,fun _ _ _ h=>h,fun d h=>⟨d,h,sameRows.refl d⟩⟩⟩
 gen:=fun _ _ _ _ _ _ _ _ h h'=>by grind
 size:=fun _ _ _ _ _ _ h=>h
theorem Ext.c {X a}(x:Ext X a):ExtC X a:=⟨x.E,x.K.c,x.F,x.A,x.β,x.row,x.mat,x.gen,x.size⟩
theorem ExtC.trans {X Y Z}(h:ExtC X Y) (k:ExtC Y Z):ExtC X Z where
 E:=fun i d x=>k.E i d (h.E i d x)
 K:=⟨fun a v x m=>k.K.cell a v (h.K.cell a v x m) (h.K.free a v x m),fun a v x m=>k.K.free a v (h.K.cell a v x m) (h.K.free a v x m)⟩
 A:=fun r x=>k.A r (h.A r x)
 F:=k.F.trans h.F
 β:=fun r x=>by
  obtain ⟨t1,e1⟩:=k.β r (h.A r x)
  obtain ⟨t2,o⟩:=h.β r x
  grind
 row:=fun r e a d x t q u=>by
  obtain ⟨c,w,j,f,y⟩:=h.row r e a d x ((k.β r (h.A r x)).1 t) q u
  obtain ⟨l,z,U,p,W⟩:=k.row r e c w (h.A r x) t j f
  exact ⟨l,z,U,p,y.trans W⟩
 mat:=fun r e l g x q=>by
  obtain ⟨c,f,j,L⟩:=k.mat r e l g (h.A r x) q
  obtain ⟨I,J,H,S⟩:=h.mat r e c f x j
  refine ⟨I,J,H,fun eg=>?_⟩
  have V:=h.gen r e I J e c f x H j
  have M:=k.gen r e c f e l g (h.A r x) j q
  obtain ⟨N,O,P⟩:=S (by omega)
  obtain ⟨Q,y,R⟩:=L (by omega)
  refine ⟨Q.trans N,fun b n s B=>y b n (by grind) (O b n s B),fun d u=>?_⟩
  obtain ⟨w,hd1,u1⟩:=P d u
  obtain ⟨z,hd2,u2⟩:=R w hd1
  exact ⟨z,hd2,u1.trans u2⟩
 gen:=fun r e a g o l p x h0 G=>by
  obtain ⟨c,f,j,_⟩:=k.mat r o l p (h.A r x) G
  have V:=h.gen r e a g o c f x h0 j
  have M:=k.gen r o c f o l p (h.A r x) j G
  omega
 size:=fun r b n x t s B=>by
  exact k.size r b n (h.A r x) t (((h.β r x).2)▸s) (h.size r b n x ((k.β r (h.A r x)).1 t) s B)
theorem Ext.mk' {X Y}(c:ExtC X Y) (K:Keeps X.w Y.w X.M Y.M):Ext X Y:=⟨c.E,K,c.F,c.A,c.β,c.row,c.mat,c.gen,c.size⟩
theorem Ext.trans {X Y Z}(h:Ext X Y) (k:Ext Y Z):Ext X Z:=.mk' (h.c.trans k.c) (h.K.trans k.K)
theorem zD9 {E s w r e b n c v}(t:∀ (i:Nat) (d:D),E[i]?=some d→s[i]?=some d)
  (q:∀ n,bsize w b=some n→bsize r b=some n) (h:zlv E w e b n c v):zlv s r e b n c v:=by
 cases c with
 | none =>
  obtain ⟨f,a,l,g,m,o⟩:=h
  exact ⟨f,a,l,g,q _ m,o⟩
 | some p =>
  obtain ⟨x,f,a,k,y,i,j,l,g,m,o,z,A,B,F,u⟩:=h
  exact ⟨x,f,a,k,y,i,j,At.get_ext t l,At.get_ext t g,m,o,z,A,q _ B,F,u⟩
theorem HRep.extC {X g}(x:ExtC X g) {e r i v}(c:X.A r) (o:(g.μ r).there=true) (h:HRep X e r i v):HRep g e r i v:=by
 obtain ⟨a,d,F,s,t⟩:=h
 obtain ⟨w,y,z,A,m⟩:=x.row r e a d c o F s
 refine ⟨w,y,z,A,?_⟩
 rcases t with ⟨f,j,B⟩|⟨b,l,f,j,G⟩
 ·refine .inl ⟨((x.β r c).2).trans f,j.same m,?_⟩
  cases i with
  | none=>trivial
  | some p=>obtain ⟨k,H,u,I⟩:=B;exact ⟨k,H,At.get_ext x.E u,At.get_ext x.E I⟩
 ·obtain ⟨J,K,L⟩:=m.2 l j
  exact .inr ⟨b,J,((x.β r c).2).trans f,K,by rw [L];exact zD9 x.E (fun n q=>x.size r b n c o f q) G⟩
theorem Ref.extC {X X'}(x:ExtC X X') {s v}(h:Ref X s v):Ref X' s v:=by
 cases s<;>simp only [Ref] at h ⊢<;>try exact h
 case h e r vw=>exact ⟨h.1,x.A r h.2.1,fun t=>(h.2.2 ((x.β r h.2.1).1 t)).extC x h.2.1 t⟩
 case hc e r hi =>
  refine ⟨h.1,x.A r h.2.1,fun t=>?_⟩
  obtain ⟨a,d,c,f,m⟩:=h.2.2 ((x.β r h.2.1).1 t)
  obtain ⟨G,d',r',F,s'⟩:=x.row r e a d h.2.1 t c f
  refine ⟨G,d',r',F,?_⟩
  rcases m with ⟨M,Q,k,b4⟩|⟨b,l,k,j,I,M,Q,b3,b4,b5,b6,b7⟩
  ·exact .inl ⟨((x.β r h.2.1).2).trans M,Q.same s',k,At.get_ext x.E b4⟩
  ·obtain ⟨S,w,q'⟩:=s'.2 l Q
   exact .inr ⟨b,S,k,j,I,((x.β r h.2.1).2).trans M,w,At.get_ext x.E b3,by omega,b5,x.size r b I h.2.1 t M b6,b7⟩
 case z e a =>
  obtain ⟨d,l,y,c,f,m,A⟩:=h
  exact ⟨d,l,y,At.get_ext x.E c,f,m,A⟩
 case p R T r q =>
  obtain ⟨B,b,Y,c,f,m,A⟩:=h
  exact ⟨x.A r B,b,Y,c,(x.β r B).2.trans f,zsl x.E m,A⟩
 case pd T a =>
  obtain ⟨ad,d,O,c,f,m,A,N⟩:=h
  refine ⟨ad,d,O,c,At.get_ext x.E f,m.keepC x.K,fun j u hu=>?_,fun hx=>?_⟩
  ·exact x.K.cell _ _ (A j u hu) (by grind [zlS])
  ·obtain ⟨v,hv⟩:∃ v,O[0]?=some v:=by
    cases O with
    | nil=>grind
    | cons v l=>simp
   have:=x.K.free _ _ (A 0 v hv) (by grind [zlS])
   grind [zlS]
 case hb R e n r q =>
  obtain ⟨B,c,f,b,m,A⟩:=h
  exact ⟨x.A r B,c,f,b,(x.β r B).2.trans m,A⟩
 case hr e r ix g =>
  refine ⟨h.1,x.A r h.2.1,fun w G F H=>?_⟩
  obtain ⟨a,J,L,q⟩:=x.mat r w G F h.2.1 H
  have hg:=x.gen r w a J w G F h.2.1 L H
  obtain ⟨hle,U⟩:=h.2.2 w a J L
  refine ⟨by omega,fun eg=>?_⟩
  obtain ⟨P,k,i,ds,d,o,c,f,m,A,N⟩:=U (by omega)
  obtain ⟨b0,s0,c0⟩:=q (by omega)
  obtain ⟨d',hd',u⟩:=c0 _ c
  obtain ⟨ds',e1,u'⟩:=u ds rfl
  obtain ⟨x',hx',sl⟩:=u' i d m
  refine ⟨P,k,i,ds',x',o,by grind,At.get_ext x.E f,hx',by grind,?_⟩
  rcases N with ⟨W,Z⟩|⟨b,l,cap,I,W,Z,p3,p4,p5,p6⟩
  ·exact .inl ⟨W,Z.same sl⟩
  ·obtain ⟨S,el,ql⟩:=sl.2 l Z
   exact .inr ⟨b,S,cap,I,W,el,by grind,by omega,s0 b I (by grind) p5,p6⟩
 case pm e T r ix q g =>
  refine ⟨h.1,x.A r h.2.1,fun w G F H=>?_⟩
  obtain ⟨a,J,L,q⟩:=x.mat r w G F h.2.1 H
  have hg:=x.gen r w a J w G F h.2.1 L H
  obtain ⟨hle,U⟩:=h.2.2 w a J L
  refine ⟨by omega,fun eg=>?_⟩
  obtain ⟨P,k,i,b,Y,c,f,m,A,N⟩:=U (by omega)
  exact ⟨P,k,i,b,Y,At.get_ext x.E c,by grind,m,zsl x.E A,N⟩
 case mr K V r =>
  obtain ⟨B,b,c,f⟩:=h
  exact ⟨x.A r B,b,c,(x.β r B).2.trans f⟩
mutual
theorem CRep.extC {X m:Ctx}(x:ExtC X m):∀ {s:SV}{j:List Value},CRep X s j→CRep m s j
 | .un n,j,h=>by grind [CRep]
 | .cv v,j,h=>by grind [CRep]
 | .d T a,j,h=>by
  obtain ⟨d,k,b⟩:=h
  exact ⟨d,At.get_ext x.E k,b.keepC x.K⟩
 | .ag T l,j,h=>by
  cases T<;>simp only [CRep] at h ⊢
  exact CRepL.extC x h
 | .fn f I B,j,h=>by
  obtain ⟨u,o,k,b,t⟩:=h
  exact ⟨u,o,k,VRepL.extC x b,VRepL.extC x t⟩
 | .tu _,_,h=>by grind [CRep]
 | .h e r A,j,h=>by obtain ⟨v,k,b⟩:=h;exact ⟨v,k,b.extC x⟩
 | .hc e r i,j,h=>by obtain ⟨v,k,b⟩:=h;exact ⟨v,k,b.extC x⟩
 | .z e a,j,h=>by obtain ⟨v,k,b⟩:=h;exact ⟨v,k,b.extC x⟩
 | .p R T r q,j,h=>by obtain ⟨v,k,b⟩:=h;exact ⟨v,k,b.extC x⟩
 | .pd T a,j,h=>by obtain ⟨v,k,b⟩:=h;exact ⟨v,k,b.extC x⟩
 | .hb R e n r q,j,h=>by obtain ⟨v,k,b⟩:=h;exact ⟨v,k,b.extC x⟩
 | .hr e r i g,j,h=>by obtain ⟨v,k,b⟩:=h;exact ⟨v,k,b.extC x⟩
 | .pm e T r i q g,j,h=>by obtain ⟨v,k,b⟩:=h;exact ⟨v,k,b.extC x⟩
 | .mr K V r,j,h=>by obtain ⟨v,k,b⟩:=h;exact ⟨v,k,b.extC x⟩
theorem CRepL.extC {X m:Ctx}(x:ExtC X m):∀ {l:List SV}{w:List Ty}{j:List Value},CRepL X l w j→CRepL m l w j
 | [],[],j,h=>by grind [CRepL]
 | s::l,T::w,j,h=>by
  obtain ⟨F,G,e,H,k,b⟩:=h
  exact ⟨F,G,e,H,CRep.extC x k,CRepL.extC x b⟩
 | [],_::_,_,h=>by grind [CRepL]
 | _::_,[],_,h=>by grind [CRepL]
theorem VRep.extC {X m:Ctx}(x:ExtC X m):∀ {s:SV}{v:Value},VRep X s v→VRep m s v
 | .un n,v,h=>by simp [VRep]
 | .cv v',v,h=>by grind [VRep]
 | .d T a,v,h=>by
  obtain ⟨d,k,b⟩:=h
  refine ⟨d,At.get_ext x.E k,?_⟩
  split
  ·rename_i c;rw [if_pos c] at b;obtain ⟨j,t,y⟩:=b;exact ⟨j,t,y.keepC x.K⟩
  ·rename_i c;rw [if_neg c] at b;exact ⟨b.1,b.2.keepC x.K⟩
 | .ag T l,v,h=>by
  cases T<;>simp only [VRep] at h ⊢
  obtain ⟨j,k,b⟩:=h
  exact ⟨j,k,CRepL.extC x b⟩
 | .fn f I B,v,h=>by
  obtain ⟨u,o,k,b,t⟩:=h
  exact ⟨u,o,k,VRepL.extC x b,VRepL.extC x t⟩
 | .tu l,v,h=>by
  obtain ⟨o,k,b⟩:=h
  exact ⟨o,k,VRepL.extC x b⟩
 | .h e r A,j,h=>by simp only [VRep] at h ⊢;exact h.extC x
 | .hc e r i,j,h=>by simp only [VRep] at h ⊢;exact h.extC x
 | .z e a,j,h=>by simp only [VRep] at h ⊢;exact h.extC x
 | .p R T r q,j,h=>by simp only [VRep] at h ⊢;exact h.extC x
 | .pd T a,j,h=>by simp only [VRep] at h ⊢;exact h.extC x
 | .hb R e n r q,j,h=>by simp only [VRep] at h ⊢;exact h.extC x
 | .hr e r i g,j,h=>by simp only [VRep] at h ⊢;exact h.extC x
 | .pm e T r i q g,j,h=>by simp only [VRep] at h ⊢;exact h.extC x
 | .mr K V r,j,h=>by simp only [VRep] at h ⊢;exact h.extC x
theorem VRepL.extC {X m:Ctx}(x:ExtC X m):∀ {l:List SV}{o:List Value},VRepL X l o→VRepL m l o
 | [],o,h=>by grind [VRepL]
 | s::l,o,h=>by
  obtain ⟨v,r,e,k,b⟩:=h
  exact ⟨v,r,e,VRep.extC x k,VRepL.extC x b⟩
end
theorem HRep.ext {X X'}(x:Ext X X') {e r a v}(b:X.A r) (c:(X'.μ r).there=true) (h:HRep X e r a v):HRep X' e r a v:=h.extC x.c b c
theorem Ref.ext {X X'}(x:Ext X X') {s v}(h:Ref X s v):Ref X' s v:=h.extC x.c
theorem CRep.ext {X X'}(x:Ext X X') {s a}(h:CRep X s a):CRep X' s a:=CRep.extC x.c h
theorem CRepL.ext {X X'}(x:Ext X X') {l a b}(h:CRepL X l a b):CRepL X' l a b:=CRepL.extC x.c h
theorem VRep.ext {X X'}(x:Ext X X') {s v}(h:VRep X s v):VRep X' s v:=VRep.extC x.c h
theorem VRepL.ext {X X'}(x:Ext X X') {l a}(h:VRepL X l a):VRepL X' l a:=VRepL.extC x.c h
def RowRep (X:Ctx) (r:Nat) (e:Ty) (a:At) (z:Prop):Prop :=
 ∃ d,a.get X.E=some d∧(((X.β r).main=none∧EmD d) ∨
  ∃ b c te fr l xs,(X.β r).main=some b∧d=.sl l∧X.w.heap[b]?=some (.cells c te fr)∧(z→fr=(0,0))∧DRepA X.w X.M e l xs∧c.toList.take xs.length=xs)
def RowCell (w:World) (M:Nat→Prop) (e:Ty) (o:Option Nat) (d:D) (v:Value):Prop :=
 (o=none∧Empt d v) ∨
 ∃ b l c te xs cap,o=some b∧d=.sl l∧w.heap[b]?=some (.cells c te (0,0))∧DRepA w M e l xs∧c.toList.take xs.length=xs ∧
  v=.slice (some ⟨b,0,none⟩) l.length cap∧l.length≤cap∧cap * e.size≤c.size
def RowCells (w:World) (M:Nat→Prop) (e:Ty):List (Option Nat)→List D→List Value→Prop
 | [],[],[]=>True
 | o::os,d::ds,v::vs=>RowCell w M e o d v∧RowCells w M e os ds vs
 | _,_,_=>False
def zJo (X:Ctx) (r:Nat) (e:Ty) (a:At):Prop :=
 ∃ d,a.get X.E=some d∧(((X.β r).main=none∧(X.β r).rows=[]∧d=.nil) ∨
  ∃ b c te l xs,(X.β r).main=some b∧d=.sl l∧X.w.heap[b]?=some (.cells c te (0,0))∧RowCells X.w X.M e (X.β r).rows l xs∧c.toList.take xs.length=xs)
def MVal (w:World) (M:Nat→Prop) (T:Ty) (d:D) (v:Value):Prop:=if T.isAgg then ∃ cs,v=.agg cs∧DRep w M T d cs.toList else One v∧DRep w M T d [v]
def MapEnts (w:World) (M:Nat→Prop) (K V:Ty):List D→List MapEntry→Prop
 | [],[]=>True
 | d::ds,e::es=>(∃ k v,d=.agg [k,v]∧MVal w M K k e.key∧MVal w M V v e.val)∧MapEnts w M K V ds es
 | _,_=>False
theorem MVal.keepC {w b M a}(K:zoq w b M a) {T d v}(h:MVal w M T d v):MVal b a T d v:=by
 unfold MVal at h ⊢
 split
 ·rename_i c;rw [if_pos c] at h;obtain ⟨f,g,e⟩:=h;exact ⟨f,g,e.keepC K⟩
 ·rename_i c;rw [if_neg c] at h;exact ⟨h.1,h.2.keepC K⟩
theorem MapEnts.keepC {w g M i}(K:zoq w g M i) {k v}:∀ {f}{c},MapEnts w M k v f c→MapEnts g i k v f c
 | [],[],_=>trivial
 | d::f,e::c,h=>by
  obtain ⟨⟨a,b,l,m,n⟩,j⟩:=h
  exact ⟨⟨a,b,l,m.keepC K,n.keepC K⟩,j.keepC K⟩
 | [],_::_,h=>h.elim
 | _::_,[],h=>h.elim
theorem MVal.keep {w b M a}(K:Keeps w b M a) {T d v}(h:MVal w M T d v):MVal b a T d v:=h.keepC K.c
theorem MapEnts.keep {w a M b}(K:Keeps w a M b) {k v c d}(h:MapEnts w M k v c d):MapEnts a b k v c d:=MapEnts.keepC K.c h
def zJx (X:Ctx) (r:Nat) (K V:Ty) (a:At):Prop :=
 ∃ l b es clk,a.get X.E=some (.sl l)∧(X.β r).main=some b∧X.w.heap[b]?=some (.map es clk)∧MapEnts X.w X.M K V l es.toList
def RootRep (X:Ctx) (r:Nat):Root→Prop
 | .dead=>True
 | .box T v=>∃ b c te,(X.β r).main=some b∧X.w.heap[b]?=some (.cells c te (0,0))∧v.hasTy T∧CRep X v c.toList
 | .row e a=>RowRep X r e a True
 | .mat e a _=>zJo X r e a
 | .mp K V a=>zJx X r K V a
 | .fz e a=>RowRep X r e a False∧∀ b,(X.β r).main=some b→¬ X.M b
 | .lt e a _=>RowRep X r e a True
 | .bo e a=>RowRep X r e a False∧∀ b,(X.β r).main=some b→¬ X.M b∨∃ q e' a',X.A q∧X.μ q=.lt e' a' r∧(X.β q).main=some b
 | .ow e a ix r2=>∃ l b c te xs k i v2,a.get X.E=some (.sl l)∧(X.β r).main=some b∧X.w.heap[b]?=some (.cells c te (0,0))∧DRepA X.w X.M (.sl e) l xs∧ix.get X.E=some (.int k (Int.ofNat i))∧i<l.length∧c.toList.take xs.length=xs.set i v2∧Ref X (.h e r2 none) v2
structure Mem (B0:Nat) (X:Ctx):Prop where
 rep:∀ r,X.A r→RootRep X r (X.μ r)
 apart:∀ r r' b,X.A r→X.A r'→b∈(X.μ r).own (X.β r)→b∈(X.μ r').own (X.β r')→r=r'
 once:∀ r,X.A r→((X.μ r).own (X.β r)).Nodup
 low:∀ r b,X.A r→b∈(X.μ r).own (X.β r)→B0≤b
 frame:∀ b,X.F b→b<B0
end Go.SX
namespace Go.SX
theorem lt_of_heap {w:World}{b o}(h:w.heap[b]?=some o):b<w.heap.size:=by grind
theorem cell_of_heap {w b:World}{a}(h:b.heap[a.block]?=w.heap[a.block]?):b.cell? a=w.cell? a:=by grind [World.cell?]
theorem zcd {w a b}(h:a.heap[b]?=w.heap[b]?):bsize a b=bsize w b:=by grind [bsize]
structure RootSame (X X':Ctx) (r:Nat):Prop where
 there:(X.μ r).there=true
 row:∀ e a d,(X.μ r).row?=some (e,a)→a.get X.E=some d→∃ a' d',(X'.μ r).row?=some (e,a')∧a'.get X'.E=some d'∧sameLen d d'
 mat:∀ e a' g,X'.μ r=.mat e a' g→∃ a g0,X.μ r=.mat e a g0∧g0≤g∧(g0=g→(X'.β r).rows=(X.β r).rows∧∀ d,a.get X.E=some d→∃ d',a'.get X'.E=some d'∧sameRows d d')
theorem RootSame.refl {X b}(f:∀ (i:Nat) (d:D),X.E[i]?=some d→b.E[i]?=some d) {r}(j:(b.μ r).there=true) (k:b.μ r=X.μ r) (hβ:b.β r=X.β r):RootSame X b r where
 there:=k▸j
 row:=fun e a d h c=>⟨a,d,by grind,At.get_ext f c,sameLen.refl d⟩
 mat:=fun e a g h=>⟨a,g,by grind,wG0 _,fun _=>⟨by grind,fun d c=>⟨d,At.get_ext f c,sameRows.refl d⟩⟩⟩
theorem Ext.of {X c}(s:∀ (i:Nat) (d:D),X.E[i]?=some d→c.E[i]?=some d) (v:∀ r,X.A r→c.A r)
  (u:∀ b,b<X.w.heap.size→¬ X.M b→c.w.heap[b]?=X.w.heap[b]?) (I:∀ b,b<X.w.heap.size→c.M b→X.M b)
  (p:∀ b n,bsize X.w b=some n→bsize c.w b=some n) (k:∀ r,X.A r→(c.β r).main=(X.β r).main) (j:∀ r,X.A r→(c.μ r).there=true→RootSame X c r) (x:c.F=X.F):Ext X c where
 E:=s
 F:=x
 K:=⟨u,fun b y k h=>k (I b y h)⟩
 A:=v
 β:=fun r a=>⟨fun t=>(j r a t).there,k r a⟩
 row:=fun r e a d f t h w=>(j r f t).row e a d h w
 mat:=fun r e l g f h=>by
  obtain ⟨a,z,B,_,q⟩:=(j r f (by rw [h];rfl)).mat e l g h
  grind
 gen:=fun r e a g G l H f h m=>by
  obtain ⟨a0,z,B,hle,_⟩:=(j r f (by rw [m];rfl)).mat G l H m
  grind
 size:=fun r b n _ _ _ o=>p b n o
theorem RowCell.keepC {w a M f}(K:zoq w a M f) {e o d v}(i:∀ b,o=some b→a.heap[b]?=w.heap[b]?) (h:RowCell w M e o d v):RowCell a f e o d v:=by
 rcases h with h|⟨b,l,c,j,k,m,g,p,q,r,n⟩
 ·exact .inl h
 ·exact .inr ⟨b,l,c,j,k,m,g,p,(i b g).trans q,r.keepC K,n⟩
theorem RowCells.keepC {w g M i}(K:zoq w g M i) {e}:∀ {a}{c}{f},(∀ b,some b∈a→g.heap[b]?=w.heap[b]?)→RowCells w M e a c f→RowCells g i e a c f
 | [],[],[],_,h=>h
 | o::a,d::c,v::f,j,h=>⟨h.1.keepC K (fun b e=>j b (by grind)),RowCells.keepC K (fun b k=>j b (vI0 _ k)) h.2⟩
 | [],[],_::_,_,h=>h
 | [],_::_,_,_,h=>h
 | _::_,[],_,_,h=>h
 | _::_,_::_,[],_,h=>h
theorem RowCell.keep {w a M c}(K:Keeps w a M c) {e o d v}(f:∀ b,o=some b→a.heap[b]?=w.heap[b]?) (h:RowCell w M e o d v):RowCell a c e o d v:=h.keepC K.c f
theorem RowCells.keep {w c M g}(K:Keeps w c M g) {e a d f}(i:∀ b,some b∈a→c.heap[b]?=w.heap[b]?) (h:RowCells w M e a d f):RowCells c g e a d f:=RowCells.keepC K.c i h
structure zn5 (X X':Ctx) (r:Nat):Prop where
 A:X.A r
 μ:X'.μ r=X.μ r
 β:X'.β r=X.β r
 own:∀ b,b∈(X.μ r).own (X.β r)→X'.w.heap[b]?=X.w.heap[b]?
 fz:∀ e a b,X.μ r=.fz e a→(X.β r).main=some b→X'.w.heap[b]?=X.w.heap[b]?∧¬ X'.M b
 bo:∀ e a b,X.μ r=.bo e a→(X.β r).main=some b→X'.w.heap[b]?=X.w.heap[b]?∧(¬ X'.M b∨∃ q e' a',X'.A q∧X'.μ q=.lt e' a' r∧(X'.β q).main=some b)
theorem zcB {l b}:b∈opts l↔some b∈l:=by
 induction l with
 | nil=>simp [opts]
 | cons o l a=>cases o<;>simp [opts,a]
theorem RowRep.keepC {X f}(x:ExtC X f) {r e a z}(o:(f.β r).main=(X.β r).main) (n:∀ b,(X.β r).main=some b→f.w.heap[b]?=X.w.heap[b]?) (h:RowRep X r e a z):RowRep f r e a z:=by
 obtain ⟨d,k,m⟩:=h
 refine ⟨d,At.get_ext x.E k,?_⟩
 rcases m with ⟨g,i⟩|⟨b,c,p,q,l,s,g,i,t,u,v,j⟩
 ·grind
 ·exact .inr ⟨b,c,p,q,l,s,o.trans g,i,(n b g).trans t,u,v.keepC x.K,j⟩
theorem RootRep.keepC {X y}(x:ExtC X y) {r}(u:zn5 X y r) (h:RootRep X r (X.μ r)):RootRep y r (X.μ r):=by
 have m:=congrArg Pl.main u.β
 have f:=u.own
 cases j:X.μ r with
 | dead=>trivial
 | box T v =>
  rw [j] at h f
  obtain ⟨b,c,w,o,p,s,t⟩:=h
  exact ⟨b,c,w,m.trans o,(f b (by grind [Root.own])).trans p,s,CRep.extC x t⟩
 | row e a =>
  rw [j] at h f
  exact RowRep.keepC x m (fun b n=>f b (by grind [Root.own])) h
 | fz e a =>
  rw [j] at h
  exact ⟨RowRep.keepC x m (fun b n=>(u.fz e a b j n).1) h.1,fun b n=>(u.fz e a b j (m▸n)).2⟩
 | ow e a ix r2 =>
  rw [j] at h f
  obtain ⟨l,b,c,w,A,k,i,M,o,p,s,t,H,I,J,L⟩:=h
  exact ⟨l,b,c,w,A,k,i,M,At.get_ext x.E o,m.trans p,(f b (by grind [Root.own])).trans s,t.keepC x.K,At.get_ext x.E H,I,J,Ref.extC x L⟩
 | lt e a q =>
  rw [j] at h f
  exact RowRep.keepC x m (fun b n=>f b (by grind [Root.own])) h
 | bo e a =>
  rw [j] at h
  exact ⟨RowRep.keepC x m (fun b n=>(u.bo e a b j n).1) h.1,fun b n=>(u.bo e a b j (m▸n)).2⟩
 | mat e a g =>
  rw [j] at h f
  obtain ⟨d,o,p⟩:=h
  refine ⟨d,At.get_ext x.E o,?_⟩
  rcases p with ⟨z,F,B⟩|⟨b,c,w,l,A,z,F,B,N,O⟩
  ·exact .inl ⟨m.trans z,by rw [u.β];omega,B⟩
  ·exact .inr ⟨b,c,w,l,A,m.trans z,F,(f b (by grind [Root.own])).trans B,by rw [u.β];exact N.keepC x.K (fun b n=>f b (by grind [Root.own,zcB])),O⟩
 | mp K V a =>
  rw [j] at h f
  obtain ⟨l,b,P,G,o,p,s,t⟩:=h
  exact ⟨l,b,P,G,At.get_ext x.E o,m.trans p,(f b (by grind [Root.own])).trans s,t.keepC x.K⟩
theorem Mem.ofC {d X a}(x:ExtC X a) (m:Mem d X) (e:∀ r,a.A r→zn5 X a r∨RootRep a r (a.μ r))
  (i:∀ r c b,a.A r→a.A c→b∈(a.μ r).own (a.β r)→b∈(a.μ c).own (a.β c)→r=c)
  (f:∀ r,a.A r→((a.μ r).own (a.β r)).Nodup) (g:∀ r b,a.A r→b∈(a.μ r).own (a.β r)→d≤b):Mem d a where
 frame:=fun b h=>m.frame b (x.F▸h)
 rep:=fun r h=>by
  rcases e r h with u|h'
  ·rw [u.μ];exact RootRep.keepC x u (m.rep r u.A)
  omega
 apart:=i
 once:=f
 low:=g
theorem RowRep.keep {X c}(x:Ext X c) {r e a z}(d:(c.β r).main=(X.β r).main) (f:∀ b,(X.β r).main=some b→c.w.heap[b]?=X.w.heap[b]?) (h:RowRep X r e a z):RowRep c r e a z:=h.keepC x.c d f
theorem RootRep.keep {X a}(x:Ext X a) {r}(u:zn5 X a r) (h:RootRep X r (X.μ r)):RootRep a r (X.μ r):=RootRep.keepC x.c u h
theorem Mem.of {d X a}(x:Ext X a) (m:Mem d X) (e:∀ r,a.A r→zn5 X a r∨RootRep a r (a.μ r))
  (g:∀ r c b,a.A r→a.A c→b∈(a.μ r).own (a.β r)→b∈(a.μ c).own (a.β c)→r=c)
  (h:∀ r,a.A r→((a.μ r).own (a.β r)).Nodup) (f:∀ r b,a.A r→b∈(a.μ r).own (a.β r)→d≤b):Mem d a:=Mem.ofC x.c m e g h f
def Held (o:Obj):Prop:=(∃ c te fr,o=.cells c te fr)∨∃ es clk,o=.map es clk
theorem RowCells.held {w M e}:∀ {g}{j}{i}{b},RowCells w M e g j i→some b∈g→∃ o,w.heap[b]?=some o∧Held o
 | [],_,_,_,_,h=>by grind
 | o::g,d::j,v::i,b,h,f=>by
  rcases List.mem_cons.1 f with e|f
  ·subst e
   rcases h.1 with ⟨a,_⟩|⟨b',l,c,te,xs,cap,a,h2,k,_⟩
   ·grind
   ·injection a with a;subst a;exact ⟨_,k,.inl ⟨_,_,_,rfl⟩⟩
  ·exact RowCells.held h.2 f
 | _::_,[],_,_,h,_=>h.elim
 | _::_,_::_,[],_,h,_=>h.elim
theorem RowCells.get {w M e}:∀ {g}{c}{f}{i:Nat}{d}{o},RowCells w M e g c f→c[i]?=some d→g[i]?=some o→∃ v,f[i]?=some v∧RowCell w M e o d v
 | o::g,d::c,v::f,0,j,k,h,b,a=>by
  simp at b a
  subst b a
  exact ⟨v,rfl,h.1⟩
 | o::g,d::c,v::f,i + 1,j,k,h,b,a=>by
  obtain ⟨u,h3,h4⟩:=RowCells.get h.2 b a
  grind
 | [],_,_,_,_,_,_,_,a=>by grind
 | _::_,[],_,_,_,_,_,b,_=>by grind
 | _::_,_::_,[],_,_,_,h,_,_=>h.elim
theorem Mem.held {F X}(m:Mem F X) {r b}(B:X.A r) (f:b∈(X.μ r).own (X.β r)):∃ o,X.w.heap[b]?=some o∧Held o:=by
 have h:=m.rep r B
 cases s:X.μ r with
 | dead=>grind [Root.own]
 | fz e a=>grind [Root.own]
 | box T v =>
  rw [s] at h f
  obtain ⟨u,c,x,p,j,_⟩:=h
  simp [Root.own,p] at f
  subst f
  exact ⟨_,j,.inl ⟨_,_,_,rfl⟩⟩
 | row e a =>
  rw [s] at h f
  obtain ⟨d,p,j⟩:=h
  rcases j with ⟨n,w⟩|⟨u,c,x,G,l,y,n,w,t,_⟩
  ·grind [Root.own]
  ·simp [Root.own,n] at f
   subst f
   exact ⟨_,t,.inl ⟨_,_,_,rfl⟩⟩
 | bo e a=>grind [Root.own]
 | ow e a ix r2 =>
  rw [s] at h f
  obtain ⟨l,u,c,x,y,k,i,v2,p,j,z,_⟩:=h
  simp [Root.own,j] at f
  subst f
  exact ⟨_,z,.inl ⟨_,_,_,rfl⟩⟩
 | lt e a q =>
  rw [s] at h f
  obtain ⟨d,p,j⟩:=h
  rcases j with ⟨n,w⟩|⟨u,c,x,G,l,y,n,w,t,_⟩
  ·grind [Root.own]
  ·simp [Root.own,n] at f
   subst f
   exact ⟨_,t,.inl ⟨_,_,_,rfl⟩⟩
 | mat e a g =>
  rw [s] at h f
  obtain ⟨d,p,j⟩:=h
  rcases j with ⟨n,w,t⟩|⟨u,c,x,l,y,n,w,t,A,p5⟩
  ·grind [Root.own,opts]
  ·simp [Root.own,n,Option.toList,List.mem_singleton,zcB] at f
   rcases f with f|f
   ·subst f;exact ⟨_,t,.inl ⟨_,_,_,rfl⟩⟩
   ·exact A.held f
 | mp K V a =>
  rw [s] at h f
  obtain ⟨l,u,es,clk,p,j,z,h4⟩:=h
  simp [Root.own,j] at f
  subst f
  exact ⟨_,z,.inr ⟨_,_,rfl⟩⟩
theorem Mem.lt {a X}(m:Mem a X) {r b}(c:X.A r) (d:b∈(X.μ r).own (X.β r)):b<X.w.heap.size:=let ⟨_,h,_⟩:=m.held c d;lt_of_heap h
theorem Mem.lt' {a X}(m:Mem a X) (hB:a≤X.w.heap.size) {b}(d:X.M b):b<X.w.heap.size:=by
 rcases d with h|⟨r,c,h⟩
 ·have:=m.frame b h
  omega
 exact m.lt c h
theorem zB2 {X:Ctx}{r R}(d:X.μ r=R) (h:R.noLt=true) {S:Nat→Prop}:∀ q,q=r→X.A q→∀ e a b,X.μ q=.lt e a b→S b:=fun q f _ e a b c=>by
 rw [f,d] at c
 rw [c] at h
 cases h
theorem Mem.change {P X c}(m:Mem P X) (hB:P≤X.w.heap.size) (S:Nat→Prop)
  (hE:∀ (i:Nat) (d:D),X.E[i]?=some d→c.E[i]?=some d) (J:∀ r,X.A r→c.A r) (Y:∀ r,c.A r→X.A r∨S r)
  (R:∀ r,¬ S r→c.μ r=X.μ r∧c.β r=X.β r)
  (N:∀ b,b<X.w.heap.size→(∀ s,S s→X.A s→b∉(X.μ s).own (X.β s))→c.w.heap[b]?=X.w.heap[b]?)
  (hs:∀ b n,bsize X.w b=some n→bsize c.w b=some n)
  (O:∀ r b,S r→c.A r→b∈(c.μ r).own (c.β r)→X.w.heap.size≤b∨∃ s,S s∧X.A s∧b∈(X.μ s).own (X.β s))
  (hap:∀ r j b,S r→S j→c.A r→c.A j→b∈(c.μ r).own (c.β r)→b∈(c.μ j).own (c.β j)→r=j)
  (hon:∀ r,S r→c.A r→((c.μ r).own (c.β r)).Nodup)
  (hmain:∀ r,S r→X.A r→(c.β r).main=(X.β r).main) (hsame:∀ r,S r→X.A r→(c.μ r).there=true→RootSame X c r)
  (hrep:Ext X c→∀ r,S r→c.A r→RootRep c r (c.μ r)) (U:c.F=X.F:=by rfl)
  (V:∀ q,S q→X.A q→∀ e a r,X.μ q=.lt e a r→S r:=by intro q Q _ e a r h;first|exact Q.elim|(subst Q;simp_all;done)|(rcases Q with rfl|rfl<;>simp_all;done)):Ext X c∧Mem P c:=by
 have x  := by
  refine Ext.of hE J (fun b k hm=>N b k fun s hs g h=>hm (.inr ⟨s,g,h⟩)) (fun b k hM=>?_) hs (fun r g=>?_) (fun r g ht=>?_) U
  ·rcases hM with h|⟨r,g,h⟩
   ·exact .inl (U▸h)
   ·by_cases f:S r
    ·rcases O r b f g h with t|⟨s,_,J,v⟩
     ·omega
     ·exact .inr ⟨s,J,v⟩
    ·obtain ⟨K,L⟩:=R r f
     exact .inr ⟨r,(Y r g).resolve_right f,by grind⟩
  all_goals grind [RootSame.refl]
 have H:∀ r b,¬ S r→c.A r→b∈(c.μ r).own (c.β r)→X.A r∧b∈(X.μ r).own (X.β r):=fun r b f g h=>by grind
 have cross:∀ r j b,S r→¬ S j→c.A r→c.A j→b∈(c.μ r).own (c.β r)→b∈(c.μ j).own (c.β j)→False:=fun r j b f w g y h A=>by
  obtain ⟨M,v⟩:=H j b w y A
  rcases O r b f g h with t|⟨s,F,o,l⟩
  ·have:=m.lt M v
   omega
  ·have:=m.apart s j b o M l v
   grind
 refine ⟨x,Mem.of x m (fun r g=>?_) (fun r j b g y h A=>?_) (fun r g=>?_) (fun r b g h=>?_)⟩
 ·by_cases f:S r
  ·grind
  ·obtain ⟨K,L⟩:=R r f
   have G:=(Y r g).resolve_right f
   have free:∀ b,b<X.w.heap.size→¬ X.M b→c.w.heap[b]?=X.w.heap[b]?∧¬ c.M b:=fun b V B=>by
    refine ⟨N b V fun s F o l=>B (.inr ⟨s,o,l⟩),fun hMb=>?_⟩
    rcases hMb with hf|⟨q,u,I⟩
    ·exact B (.inl (U▸hf))
    by_cases hSq:S q
    ·rcases O q b hSq u I with h3|⟨s,F,o,l⟩
     ·omega
     ·exact B (.inr ⟨s,o,l⟩)
    ·obtain ⟨M,h3⟩:=H q b hSq u I
     exact B (.inr ⟨q,M,h3⟩)
   have inheap:∀ {e:Ty} {a:At} {z:Prop} {b:Nat},RowRep X r e a z→(X.β r).main=some b→b<X.w.heap.size:=fun p k=>by
    obtain ⟨d,t,v⟩:=p
    grind
   refine .inl ⟨G,K,L,fun b k=>N b (m.lt G k) fun s F o l=>?_,fun e a b W k=>?_,fun e a b W k=>?_⟩
   ·have:=m.apart s r b o G l k
    grind
   ·have p:=m.rep r G
    rw [W] at p
    exact free b (inheap p.1 k) (p.2 b k)
   ·have p:=m.rep r G
    rw [W] at p
    rcases p.2 b k with B|⟨q,e',a',u,I,hq3⟩
    ·obtain ⟨f1,f2⟩:=free b (inheap p.1 k) B
     grind
    ·have hqS  := fun h=>f (V q h u _ _ _ I)
     have hbo:b∈(X.μ q).own (X.β q):=by rw [I];simp [Root.own,hq3]
     refine ⟨N b (m.lt u hbo) fun s F o l=>?_,.inr ⟨q,e',a',J q u,by grind,by grind⟩⟩
     have:=m.apart s q b o u l hbo
     grind
 ·by_cases f:S r<;>by_cases w:S j
  ·exact hap r j b f w g y h A
  ·exact (cross r j b f w g y h A).elim
  ·exact (cross j r b w f y g A h).elim
  ·obtain ⟨Z,t⟩:=H r b f g h
   obtain ⟨a2,v⟩:=H j b w y A
   exact m.apart r j b Z a2 t v
 ·by_cases f:S r
  ·exact hon r f g
  ·obtain ⟨K,L⟩:=R r f
   rw [K,L]
   exact m.once r ((Y r g).resolve_right f)
 ·by_cases f:S r
  ·rcases O r b f g h with t|⟨s,F,o,l⟩
   ·omega
   ·exact m.low s b o l
  ·obtain ⟨Z,t⟩:=H r b f g h
   exact m.low r b Z t
structure Turned (w w':World) (l:Nat):Prop where
 old:∃ o,w.heap[l]?=some o∧¬ Held o
 new:∃ o,w'.heap[l]?=some o∧¬ Held o
 other:∀ b,b≠l→w'.heap[b]?=w.heap[b]?
 size:w'.heap.size=w.heap.size
theorem Turned.cell {w b l}(t:Turned w b l) (a):b.cell? a=w.cell? a:=by
 by_cases e:a.block=l
 ·obtain ⟨o,h,d⟩:=t.old
  obtain ⟨f,g,c⟩:=t.new
  simp only [World.cell?,e,h,g]
  cases o<;>cases f<;>first|rfl|exact absurd (.inl ⟨_,_,_,rfl⟩) d|exact absurd (.inl ⟨_,_,_,rfl⟩) c
 ·exact cell_of_heap (t.other _ e)
theorem Turned.bsize {w a l}(t:Turned w a l) (b):bsize a b=bsize w b:=by
 by_cases e:b=l
 ·obtain ⟨o,h,d⟩:=t.old
  obtain ⟨f,g,c⟩:=t.new
  simp only [SX.bsize,e,h,g]
  cases o<;>cases f<;>first|rfl|exact absurd (.inl ⟨_,_,_,rfl⟩) d|exact absurd (.inl ⟨_,_,_,rfl⟩) c
 ·exact zcd (t.other _ e)
theorem Mem.turn {H X}(m:Mem H X) {l j}(t:Turned X.w j l):ExtC X { X with w:=j }∧Mem H { X with w:=j }:=by
 have x:ExtC X { X with w:=j } :=
  {E:=fun _ _ h=>h
   K:=⟨fun a v L _=>(t.cell a).trans L,fun _ _ _ h=>h⟩
   F:=rfl
   A:=fun _ h=>h
   β:=fun _ _=>⟨fun h=>h,rfl⟩
   row:=fun _ _ a d _ _ h M=>⟨a,d,h,M,sameLen.refl d⟩
   mat:=fun _ _ a g _ G=>⟨a,g,G,fun _=>⟨rfl,fun b n _ u=>(t.bsize b).trans u,fun d h=>⟨d,h,sameRows.refl d⟩⟩⟩
   gen:=fun _ _ _ _ _ _ _ _ h h'=>by grind
   size:=fun _ b _ _ _ _ u=>(t.bsize b).trans u }
 have I:∀ b p,X.w.heap[b]?=some p→Held p→j.heap[b]?=X.w.heap[b]?:=fun b p G N=>t.other b fun e=>by
  obtain ⟨o,h,ho⟩:=t.old
  grind
 refine ⟨x,Mem.ofC x m (fun r s=>.inl ⟨s,rfl,rfl,fun b f=>?_,fun e a b y f=>?_,fun e a b y f=>?_⟩) (fun r J b=>m.apart r J b) (fun r=>m.once r) (fun r b=>m.low r b)⟩
 ·obtain ⟨p,G,N⟩:=m.held s f
  grind
 ·have i:=m.rep r s
  rw [y] at i
  obtain ⟨⟨d,_,q⟩,B⟩:=i
  rcases q with ⟨q,_⟩|⟨O,c,P,Q,R,S,k,_,z,_⟩
  ·grind
  ·rw [k] at f
   injection f with f
   subst f
   exact ⟨I _ _ z (.inl ⟨_,_,_,rfl⟩),B _ k⟩
 ·have i:=m.rep r s
  rw [y] at i
  obtain ⟨⟨d,_,q⟩,B⟩:=i
  rcases q with ⟨q,_⟩|⟨O,c,P,Q,R,S,k,_,z,_⟩
  ·grind
  ·rw [k] at f
   injection f with f
   subst f
   exact ⟨I _ _ z (.inl ⟨_,_,_,rfl⟩),B _ k⟩
theorem Ext.turned {c X f l e}(x:Ext c X) (m:Mem f X) (t:Turned X.w e l) (hl:c.w.heap.size≤l):Ext c { X with w:=e } :=
 .mk' (x.c.trans (m.turn t).1) ⟨fun b d a=>(t.other b (by omega)).trans (x.K.heap b d a),fun b d a=>x.K.less b d a⟩
end Go.SX
namespace Go.SX
def Run {α:Type}(x:X α) (μ:Nat→Root) (s:SS) (a:α) (s':SS):Prop:=∃ foot,x.run μ s=some (a,s',foot)
theorem X.run_bind {d j}(c) (f:d→X j):∀ (x:X d) (s),(x.bind f).run c s=match x.run c s with
  | none=>none
  | some (a,e,l)=>match (f a).run c e with
   | none=>none
   | some (b,g,i)=>some (b,g,l++i)
 | .pure a,s=>by grind [X.bind,X.run]
 | .fail n,s=>rfl
 | .root r k,s=>by
  simp only [X.bind,X.run]
  cases h:zmP r s.up with
  | some R=>simp only [X.run_bind c f (k R) s]
  | none =>
   simp only [X.run_bind c f (k (c r)) s]
   grind
 | .put r R k,s=>by exact X.run_bind c f k _
 | .new R k,s=>by exact X.run_bind c f (k s.ab) _
 | .bd b k,s=>by exact X.run_bind c f (k s.nv) _
 | .at_ k,s=>by exact X.run_bind c f (k s.nv s.ab) _
section
variable {α β:Type} {μ:Nat→Root} {s s':SS}
theorem Run.bind {x}{f:α→X β}{b}(h:Run (x >>= f) μ s b s'):∃ a e,Run x μ s a e∧Run (f a) μ e b s':=by
 obtain ⟨l,h⟩:=h
 have c:(x.bind f).run μ s=some (b,s',l):=h
 rw [X.run_bind] at c
 cases i:x.run μ s with
 | none=>grind
 | some p =>
  obtain ⟨a,e,n⟩:=p
  simp only [i] at c
  cases j:(f a).run μ e with
  | none=>grind
  | some q =>
   obtain ⟨b',s2,r⟩:=q
   simp only [j] at c
   injection c with c
   injection c with t g
   injection g with g e3
   subst t g
   exact ⟨a,e,⟨n,i⟩,r,j⟩
theorem Run.pure {a b:α}(h:Run (X.pure a) μ s b s'):b=a∧s'=s:=by
 obtain ⟨l,h⟩:=h
 grind [X.run]
theorem Run.fail {n}{b:α}(h:Run (X.fail n) μ s b s'):False:=by
 obtain ⟨l,h⟩:=h
 grind [X.run]
def now (μ:Nat→Root) (up:List (Nat×Root)) (r:Nat):Root:=(zmP r up).getD (μ r)
theorem Run.root {r R}(h:Run (X.getRoot r) μ s R s'):R=now μ s.up r∧s'=s:=by
 obtain ⟨l,h⟩:=h
 grind [X.getRoot,X.run,now]
theorem Run.put {r R u}(h:Run (X.putRoot r R) μ s u s'):s'={ s with up:=(r,R)::s.up }:=by
 obtain ⟨l,h⟩:=h
 grind [X.putRoot,X.run]
theorem Run.new {R n}(h:Run (X.newRoot R) μ s n s'):n=s.ab∧s'={ s with up:=(s.ab,R)::s.up,ab:=s.ab + 1 }:=by
 obtain ⟨l,h⟩:=h
 grind [X.newRoot,X.run]
theorem Run.prim {p b a}(h:Run (X.prim p b) μ s a s'):a=.v s.nv∧s'={ s with bs:=.prim p b::s.bs,nv:=s.nv + 1 }:=by
 obtain ⟨l,h⟩:=h
 grind [X.prim,X.run,Bd.outs]
theorem Run.call {f a m n}(h:Run (X.call f a m) μ s n s'):n=s.nv∧s'={ s with bs:=.call f a m::s.bs,nv:=s.nv + m }:=by
 obtain ⟨l,h⟩:=h
 grind [X.call,X.run,Bd.outs]
theorem Run.sub {t m u}(h:Run (X.sub t m) μ s u s'):s'={ s with bs:=.sub t m::s.bs,nv:=s.nv + m }:=by
 obtain ⟨l,h⟩:=h
 grind [X.sub,X.run,Bd.outs]
theorem Run.nvab {p}(h:Run X.nvab μ s p s'):p=(s.nv,s.ab)∧s'=s:=by
 obtain ⟨l,h⟩:=h
 grind [X.nvab,X.run]
theorem Run.guard {n b u}(h:Run (X.guard n b) μ s u s'):b=true∧s'=s:=by
 unfold X.guard at h
 cases b with
 | true=>exact ⟨rfl,(Run.pure h).2⟩
 | false=>grind [Run.fail]
theorem Run.of {n o}{a:α}(h:Run (X.of n o) μ s a s'):o=some a∧s'=s:=by
 cases o with
 | none=>exact (Run.fail h).elim
 | some b=>obtain ⟨e1,e2⟩:=Run.pure h;grind
end
section
variable (C:FuncId→List D→Option (List D)) (k:Nat)
def SatB (E:List D) (n:Nat):Bd→Prop
 | .prim p as=>∃ vs d,gets E as=some vs∧p.run vs=some d∧E[n]?=some d
 | .call f as m=>∃ vs ds,gets E as=some vs∧C f vs=some ds∧ds.length=m∧∀ (j:Nat) (d:D),ds[j]?=some d→E[n + j]?=some d
 | .sub t m=>∃ bk vs,n≤E.length∧ev C k t (E.take n)=some (.jmp 0 bk vs)∧vs.length=m∧∀ (j:Nat) (d:D),vs[j]?=some d→E[n + j]?=some d
def Sat (E:List D):List Bd→Nat→Prop
 | [],_=>True
 | b::l,nv=>∃ n,nv=n + b.outs∧SatB C k E n b∧Sat E l n
end
theorem X.run_mono {o}(f):∀ (x:X o) (s) {a}{d}{l},x.run f s=some (a,d,l) →
  (∀ C k E,Sat C k E d.bs d.nv→Sat C k E s.bs s.nv)∧s.ab≤d.ab∧s.nv≤d.nv
 | .pure a,s,_,d,l,h=>by grind [X.run]
 | .fail n,s,_,d,l,h=>by grind [X.run]
 | .root r k,s,a,d,l,h=>by
  simp only [X.run] at h
  cases q:zmP r s.up with
  | some R=>simp only [q] at h;exact X.run_mono f (k R) s h
  | none =>
   simp only [q] at h
   cases g:(k (f r)).run f s with
   | none=>grind
   | some p =>
    simp only [g] at h
    injection h with h
    injection h with u j
    injection j with j e3
    subst u j
    exact X.run_mono f (k (f r)) s g
 | .put r R k,s,a,d,l,h=>by
  obtain ⟨i,g,m⟩:=X.run_mono f k { s with up:=(r,R)::s.up } h
  grind
 | .new R k,s,a,d,l,h=>by
  obtain ⟨i,g,m⟩:=X.run_mono f (k s.ab) { s with up:=(s.ab,R)::s.up,ab:=s.ab + 1 } h
  grind
 | .bd b k,s,a,d,l,h=>by
  obtain ⟨i,g,m⟩:=X.run_mono f (k s.nv) { s with bs:=b::s.bs,nv:=s.nv + b.outs } h
  have h3':s.nv + b.outs≤d.nv:=m
  refine ⟨fun C c E t=>?_,g,by omega⟩
  obtain ⟨n,e,_,h4⟩:=i C c E t
  grind
 | .at_ k,s,a,d,l,h=>by
  exact X.run_mono f (k s.nv s.ab) _ h
theorem Run.sat {c d x s b}{a:c}(h:Run x d s a b) {C k E}(e:Sat C k E b.bs b.nv):Sat C k E s.bs s.nv:=by
 obtain ⟨l,h⟩:=h
 exact (X.run_mono d x s h).1 C k E e
theorem Run.ab {c b x s d}{a:c}(h:Run x b s a d):s.ab≤d.ab:=by
 obtain ⟨l,h⟩:=h
 exact (X.run_mono b x s h).2.1
theorem X.run_local {i}(c f):∀ (x:X i) (s) {a}{e}{l},x.run c s=some (a,e,l)→(∀ r∈l,c r=f r)→x.run f s=some (a,e,l)
 | .pure a,s,_,e,l,h,_=>h
 | .fail n,s,_,e,l,h,_=>by grind [X.run]
 | .root r k,s,a,e,l,h,d=>by
  simp only [X.run] at h ⊢
  cases j:zmP r s.up with
  | some R=>simp only [j] at h ⊢;exact X.run_local c f (k R) s h d
  | none =>
   simp only [j] at h ⊢
   cases m:(k (c r)).run c s with
   | none=>grind
   | some p =>
    simp only [m] at h
    injection h with h
    injection h with o g
    injection g with g u
    subst o g u
    rw [← (d r (by simp)),X.run_local c f (k (c r)) s m fun q t=>d q (vI0 _ t)]
 | .put r R k,s,a,e,l,h,d=>by
  exact X.run_local c f k _ h d
 | .new R k,s,a,e,l,h,d=>by
  exact X.run_local c f (k s.ab) _ h d
 | .bd b k,s,a,e,l,h,d=>by
  exact X.run_local c f (k s.nv) _ h d
 | .at_ k,s,a,e,l,h,d=>by
  exact X.run_local c f (k s.nv s.ab) _ h d
theorem zpD {E}:∀ {e}{a},zjz e=some a→gets E e=some a
 | [],a,h=>by grind [zjz,gets]
 | .c d::l,a,h=>by
  simp only [zjz] at h
  cases b:zjz l with
  | none=>grind
  | some r =>
   simp only [b] at h
   injection h with h
   subst h
   simp [gets,At.get,zpD b]
 | .v _::_,a,h=>by grind [zjz]
theorem Run.op {q p i s b a}(h:Run (X.op p i) q s a b) {C k E}(r:Sat C k E b.bs b.nv) :
  (∃ c d,gets E i=some c∧p.run c=some d∧a.get E=some d)∧b.up=s.up∧b.ab=s.ab:=by
 unfold X.op at h
 split at h
 ·rename_i l m
  split at h
  ·rename_i d o
   obtain ⟨f,g⟩:=Run.pure h
   subst f g
   exact ⟨⟨l,d,zpD m,o,rfl⟩,rfl,rfl⟩
  grind [Run.fail]
 ·obtain ⟨f,g⟩:=Run.prim h
  subst f g
  obtain ⟨n,e,⟨c,d,t,u,j⟩,_⟩:=r
  have:n=s.nv:=by grind [Bd.outs]
  subst this
  exact ⟨⟨c,d,t,u,j⟩,rfl,rfl⟩
theorem zDn {E a b}(h:gets E [a]=some b):∃ d,a.get E=some d∧b=[d]:=by grind [gets]
theorem zeR {E a l c}(h:gets E (a::l)=some c):∃ d b,a.get E=some d∧gets E l=some b∧c=d::b:=by grind [gets]
theorem zHw {E a}(h:gets E []=some a):a=[]:=by grind [gets]
theorem Run.op1 {c p x s b a}(h:Run (X.op p [x]) c s a b) {C k E}(hs:Sat C k E b.bs b.nv) :
  (∃ u d,x.get E=some u∧p.run [u]=some d∧a.get E=some d)∧b.up=s.up∧b.ab=s.ab:=by grind [Run.op,zDn]
theorem Run.op2 {c p x y s b a}(h:Run (X.op p [x,y]) c s a b) {C k E}(hs:Sat C k E b.bs b.nv) :
  (∃ u v d,x.get E=some u∧y.get E=some v∧p.run [u,v]=some d∧a.get E=some d)∧b.up=s.up∧b.ab=s.ab:=by grind [Run.op,zeR,zDn]
theorem Run.op3 {c p x y z s b a}(h:Run (X.op p [x,y,z]) c s a b) {C k E}(hs:Sat C k E b.bs b.nv) :
  (∃ u v t d,x.get E=some u∧y.get E=some v∧z.get E=some t∧p.run [u,v,t]=some d∧a.get E=some d)∧b.up=s.up∧b.ab=s.ab:=by grind [Run.op,zeR,zDn]
theorem Run.op4 {e p x y z q s b a}(h:Run (X.op p [x,y,z,q]) e s a b) {C k E}(f:Sat C k E b.bs b.nv) :
  (∃ u v t o d,x.get E=some u∧y.get E=some v∧z.get E=some t∧q.get E=some o∧p.run [u,v,t,o]=some d∧a.get E=some d)∧b.up=s.up∧b.ab=s.ab:=by
 obtain ⟨⟨vs,d,g,h2,h3⟩,hh⟩:=Run.op h f
 obtain ⟨u,us,e1,i,e3⟩:=zeR g
 obtain ⟨v,vs',f1,j,f3⟩:=zeR i
 obtain ⟨t,ts,g1,c,g3⟩:=zeR j
 obtain ⟨o,i1,i2⟩:=zDn c
 simp_all
end Go.SX
namespace Go.SX
mutual
theorem Ty.beq_eq:∀ {a b:Ty},a.beq b=true→a=b
 | .int k,.int k',h=>by grind [Ty.beq]
 | .bool,.bool,_=>rfl
 | .str,.str,_=>rfl
 | .sl e,.sl d,h=>by simp only [Ty.beq] at h;rw [Ty.beq_eq h]
 | .st l,.st c,h=>by rw [Ty.beqL_eq h]
 | .arr n e,.arr n' d,h=>by
  simp only [Ty.beq,wD0] at h
  rw [Nat.eq_of_beq_eq_true h.1,Ty.beq_eq h.2]
 | .no,.no,_=>rfl
 | .int _,.bool,h|.int _,.str,h|.int _,.sl _,h|.int _,.st _,h|.int _,.arr _ _,h|.int _,.no,h=>by grind [Ty.beq]
 | .bool,.int _,h|.bool,.str,h|.bool,.sl _,h|.bool,.st _,h|.bool,.arr _ _,h|.bool,.no,h=>by grind [Ty.beq]
 | .str,.int _,h|.str,.bool,h|.str,.sl _,h|.str,.st _,h|.str,.arr _ _,h|.str,.no,h=>by grind [Ty.beq]
 | .sl _,.int _,h|.sl _,.bool,h|.sl _,.str,h|.sl _,.st _,h|.sl _,.arr _ _,h|.sl _,.no,h=>by grind [Ty.beq]
 | .st _,.int _,h|.st _,.bool,h|.st _,.str,h|.st _,.sl _,h|.st _,.arr _ _,h|.st _,.no,h=>by grind [Ty.beq]
 | .arr _ _,.int _,h|.arr _ _,.bool,h|.arr _ _,.str,h|.arr _ _,.sl _,h|.arr _ _,.st _,h|.arr _ _,.no,h=>by grind [Ty.beq]
 | .no,.int _,h|.no,.bool,h|.no,.str,h|.no,.sl _,h|.no,.st _,h|.no,.arr _ _,h=>by grind [Ty.beq]
theorem Ty.beqL_eq:∀ {a b:List Ty},Ty.beqL a b=true→a=b
 | [],[],_=>rfl
 | a::l,b::c,h=>by
  simp [Ty.beqL] at h
  rw [Ty.beq_eq h.1,Ty.beqL_eq h.2]
 | [],_::_,h=>by grind [Ty.beqL]
 | _::_,[],h=>by grind [Ty.beqL]
end
theorem zbv {a b:Nat}(h:Nat.beq a b=true):a=b:=by simp_all
mutual
theorem zss {w:World}{M:Nat→Prop}:∀ {T:Ty}{a:List Value}{x:D}{r:List Value},cvtC T a=some (x,r)→∃ c,a=c++r∧DRep w M T x c
 | .int k,a,x,r,h=>by
  cases a with
  | nil=>grind [cvtC]
  | cons v l =>
   cases v<;>simp only [cvtC] at h<;>try simp at h
   obtain ⟨B,b,f⟩:=h
   subst B b f
   exact ⟨[.int k _],rfl,rfl,rfl⟩
 | .bool,a,x,r,h=>by
  cases a with
  | nil=>grind [cvtC]
  | cons v l =>
   cases v<;>simp only [cvtC] at h<;>try simp at h
   obtain ⟨b,f⟩:=h
   subst b f
   exact ⟨[.bool _],rfl,rfl⟩
 | .str,a,x,r,h=>by
  cases a with
  | nil=>grind [cvtC]
  | cons v l =>
   cases v<;>simp only [cvtC] at h<;>try simp at h
   obtain ⟨b,f⟩:=h
   subst b f
   exact ⟨[.string _],rfl,rfl⟩
 | .sl e,a,x,r,h=>by
  unfold cvtC at h
  split at h<;>simp_all
  obtain ⟨b,f⟩:=h
  subst b f
  exact ⟨[.slice none 0 0],rfl,rfl⟩
 | .st l,a,x,r,h=>by
  simp only [cvtC] at h
  cases i:cvtL l a with
  | none=>grind
  | some p =>
   simp only [i] at h
   injection h with h
   injection h with b f
   subst b f
   obtain ⟨c,e,A⟩:=zCS (w:=w) (M:=M) i
   exact ⟨c,e,A⟩
 | .arr n e,a,x,r,h=>by
  simp only [cvtC] at h
  cases i:cvtN (cvtC e) n a with
  | none=>grind
  | some p =>
   obtain ⟨g,G⟩:=p
   simp only [i] at h
   injection h with h
   injection h with b f
   subst b f
   have I:∀ (n:Nat) (a:List Value) (g:List D) (r:List Value),cvtN (cvtC e) n a=some (g,r)→∃ c,a=c++r∧g.length=n∧DRepA w M e g c:=by
    intro n
    induction n with
    | zero =>
     intro a g r h
     injection h with h
     injection h with b f
     subst b f
     exact ⟨[],rfl,rfl,by rfl⟩
    | succ n ih =>
     intro a g r h
     simp only [cvtN] at h
     cases j:cvtC e a with
     | none=>grind
     | some p =>
      obtain ⟨d,o⟩:=p
      cases m:cvtN (cvtC e) n o with
      | none=>grind
      | some q =>
       obtain ⟨F,s,H⟩:=zss (w:=w) (M:=M) j
       grind [DRepA]
   obtain ⟨c,s,y,z⟩:=I n a g G i
   exact ⟨c,s,y,z⟩
 | .no,a,x,r,h=>by grind [cvtC]
theorem zCS {w:World}{M:Nat→Prop}:∀ {l:List Ty}{a:List Value}{g:List D}{r:List Value},cvtL l a=some (g,r)→∃ c,a=c++r∧DRepL w M l g c
 | [],a,g,r,h=>by
  injection h with h
  injection h with b f
  subst b f
  exact ⟨[],rfl,by rfl⟩
 | T::l,a,g,r,h=>by
  simp only [cvtL] at h
  cases j:cvtC T a with
  | none=>grind
  | some p =>
   obtain ⟨d,o⟩:=p
   simp only [j] at h
   cases m:cvtL l o with
   | none=>grind
   | some q =>
    simp only [m] at h
    injection h with h
    injection h with b f
    subst b f
    obtain ⟨F,s,H⟩:=zss (w:=w) (M:=M) j
    obtain ⟨c2,y,g2⟩:=zCS (w:=w) (M:=M) m
    simp only [DRepL]
    grind
end
def DVal (w:World) (M:Nat→Prop) (T:Ty) (d:D) (v:Value):Prop :=
 if T.isAgg then ∃ cs,v=.agg cs∧DRep w M T d cs.toList else One v∧DRep w M T d [v]
theorem DRep.one {w M T d v}(b:T.isAgg=false) (h:DRep w M T d [v]):One v:=by
 cases T<;>cases d<;>simp only [DRep,Ty.isAgg] at h b<;>try exact h.elim
 ·obtain ⟨_,h⟩:=h;injection h with h;subst h;exact ⟨by simp,by simp⟩
 ·injection h with h;subst h;exact ⟨by simp,by simp⟩
 ·injection h with h;subst h;exact ⟨by simp,by simp⟩
 ·obtain ⟨a,cap,xs,h,_⟩:=h;injection h with h;subst h;exact ⟨by simp,by simp⟩
 ·injection h with h;subst h;exact ⟨by simp,by simp⟩
 all_goals grind
theorem zi1 {w M T v x}(h:cvtD T v=some x):DVal w M T x v:=by
 unfold cvtD at h
 unfold DVal
 cases hT:T.isAgg with
 | true =>
  cases v<;>simp only at h<;>try grind
  rename_i d
  cases b:cvtC T d.toList with
  | none=>grind
  | some p =>
   obtain ⟨y,r⟩:=p
   cases r with
   | nil =>
    obtain ⟨c,e,g⟩:=zss (w:=w) (M:=M) b
    grind
   | cons a l=>grind
 | false =>
  cases b:cvtC T [v] with
  | none=>grind
  | some p =>
   obtain ⟨y,r⟩:=p
   cases r with
   | nil =>
    obtain ⟨c,e,g⟩:=zss (w:=w) (M:=M) b
    grind [DRep.one]
   | cons a l=>grind
theorem addr_add (b o j):(⟨b,o,none⟩:Addr).add j=⟨b,o + j,none⟩:=by simp [Addr.add]
theorem zyx {w:World}{b o c d a}(h:w.heap[b]?=some (.cells c d a)):w.cell? ⟨b,o,none⟩=c[o]?:=by grind [World.cell?]
theorem zc4 {w:World}{b c e d a}(h:w.heap[b]?=some (.cells c e d)) (ht:c.toList.take a.length=a)
  {j u} (hj:a[j]?=some u):w.cell? ⟨b,j,none⟩=some u:=by grind [zyx]
theorem RowCells.data {w M g}(K:Keeps w w M g) {e}:∀ {k}{f}{a},RowCells w M e k f a→(∀ b,some b∈k→¬ g b)→DRepA w g (.sl e) f a
 | [],[],[],_,_=>by rfl
 | o::k,d::f,v::a,h,m=>by
  refine ⟨[v],a,rfl,?_,RowCells.data K h.2 fun b p=>m b (vI0 _ p)⟩
  rcases h.1 with ⟨q,i⟩|⟨b,l,c,te,r,s,q,i,h3,t,h5,h6,n,_⟩
  ·exact i.rep
  ·subst i
   exact ⟨⟨b,0,none⟩,s,r,by grind,n,t.keep K,fun j u hj=>by rw [addr_add,vA0];grind [zc4],fun _=>m b (by grind)⟩
 | [],[],_::_,h,_=>h.elim
 | [],_::_,_,h,_=>h.elim
 | _::_,[],_,h,_=>h.elim
 | _::_,_::_,[],h,_=>h.elim
theorem Mem.content {O X}(m:Mem O X) {r}(M:X.A r) {e a}(f:(X.μ r).rowv?=some (e,a)) {J}(K:Keeps X.w X.w X.M J)
  (w:∀ b,b∈(X.μ r).own (X.β r)→¬ J b) :
  ∃ d,a.get X.E=some d∧(((X.β r).main=none∧EmD d) ∨
   ∃ b c n s l i,(X.β r).main=some b∧d=.sl l∧X.w.heap[b]?=some (.cells c n s)∧DRepA X.w J e l i∧c.toList.take i.length=i∧(i≠[]→¬ J b)):=by
 have h:=m.rep r M
 cases H:X.μ r with
 | dead=>grind [Root.rowv?,Root.row?]
 | box T v=>grind [Root.rowv?,Root.row?]
 | mp K V a=>grind [Root.rowv?,Root.row?]
 | row F G =>
  rw [H] at f h w
  injection f with f
  injection f with x y
  subst x y
  obtain ⟨d,z,t⟩:=h
  refine ⟨d,z,?_⟩
  rcases t with p|⟨b,c,n,s,l,i,k,o,j,I,A,B⟩
  ·grind
  ·exact .inr ⟨b,c,n,s,l,i,k,o,j,A.keep K,B,fun _=>w b (by grind [Root.own])⟩
 | bo F G=>grind [Root.rowv?]
 | ow F G i' q'=>grind [Root.rowv?]
 | lt F G q =>
  rw [H] at f h w
  injection f with f
  injection f with x y
  subst x y
  obtain ⟨d,z,t⟩:=h
  refine ⟨d,z,?_⟩
  rcases t with p|⟨b,c,n,s,l,i,k,o,j,I,A,B⟩
  ·grind
  ·exact .inr ⟨b,c,n,s,l,i,k,o,j,A.keep K,B,fun _=>w b (by grind [Root.own])⟩
 | fz F G =>
  rw [H] at f h
  injection f with f
  injection f with x y
  subst x y
  obtain ⟨⟨d,z,t⟩,N⟩:=h
  refine ⟨d,z,?_⟩
  rcases t with p|⟨b,c,n,s,l,i,k,o,j,I,A,B⟩
  ·grind
  ·refine .inr ⟨b,c,n,s,l,i,k,o,j,A.keep K,B,fun hx=>?_⟩
   obtain ⟨u,L⟩:∃ u,i[0]?=some u:=by
    cases i with
    | nil=>grind
    | cons u l=>simp
   exact K.free ⟨b,0,none⟩ u (zc4 j B L) (N b k)
 | mat F G g =>
  rw [H] at f h w
  injection f with f
  injection f with x y
  subst x y
  obtain ⟨d,z,t⟩:=h
  refine ⟨d,z,?_⟩
  rcases t with ⟨k,o,j⟩|⟨b,c,n,l,i,k,o,j,I,A⟩
  ·exact .inl ⟨k,.inl j⟩
  ·exact .inr ⟨b,c,n,(0,0),l,i,k,o,j,I.data K fun b hm=>w b (by grind [Root.own,zcB]),A,fun _=>w b (by grind [Root.own])⟩
def upd {α:Type}(f:Nat→α) (r:Nat) (x:α):Nat→α:=fun q=>if q=r then x else f q
theorem upd_same {a}(f) (r) (x:a):upd f r x r=x:=by simp [upd]
theorem upd_ne {a}(f) {r q}(x:a) (h:q≠r):upd f r x q=f q:=by grind [upd]
theorem zca (b) (r) (R) (a):now b ((r,R)::a)=upd (now b a) r R:=by
 funext q
 show ((if Nat.beq r q then some R else zmP q a).getD (b q))=if q=r then R else (zmP q a).getD (b q)
 by_cases h:q=r
 ·simp_all
 ·rw [if_neg (fun c=>h (zbv c).symm),if_neg h]
theorem Mem.lower {G X}(m:Mem G X) (hB:G≤X.w.heap.size) {r}(o:X.A r) {e a}(M:X.μ r=.row e a∨∃ s g,e=.sl s∧X.μ r=.mat s a g)
  {R} (J:R=.fz e a∨R=.row e a):Ext X { X with μ:=upd X.μ r R }∧Mem G { X with μ:=upd X.μ r R }:=by
 have Z:(X.μ r).row?=some (e,a):=by
  rcases M with h|⟨s,g,f,N⟩
  ·rw [h];rfl
  ·rw [N,f];rfl
 have S:∀ b,(X.β r).main=some b→b∈(X.μ r).own (X.β r):=fun b j=>by grind [Root.own]
 have hown:∀ b,b∈R.own (X.β r)→(X.β r).main=some b:=fun b j=>by grind [Root.own]
 refine Mem.change m hB (fun q=>q=r) (fun _ _ h=>h) (fun _ h=>h) (fun q h=>.inl h) (fun q i=>⟨upd_ne _ _ i,rfl⟩) (fun _ _ _=>rfl) (fun _ _ h=>h) ?_ ?_ ?_ (fun _ _ _=>rfl) ?_ ?_
 ·grind [upd_same]
 ·omega
 ·grind [upd_same,Root.own]
 ·intro q i ha ht
  subst i
  refine ⟨by grind [Root.there],fun e1 Q d f V=>?_,fun e1 Q g f=>?_⟩
  ·rw [Z] at f
   injection f with f
   injection f with W Y
   subst W Y
   refine ⟨a,d,?_,V,sameLen.refl d⟩
   simp only [upd_same]
   rcases J with h|h<;>rw [h]<;>rfl
  grind [upd_same]
 ·intro x q i _
  subst i
  have I:∀ b,b∈(X.μ q).own (X.β q)→(X.β q).main≠some b∨R=.fz e a→¬ Ctx.M { X with μ:=upd X.μ q R } b:=fun b j hor hMb=>by
   rcases hMb with hf|⟨K,P,B⟩
   ·have f:=m.frame b hf
    have N:=m.low q b o j
    omega
   by_cases i:K=q
   ·grind [upd_same,Root.own]
   ·simp only [upd_ne _ _ i] at B
    exact i (m.apart K q b P o B j)
  simp only [upd_same]
  have L:∀ (z:Prop),(z→R=.row e a)→RowRep { X with μ:=upd X.μ q R } q e a z:=fun z hz=>by
   have h:=m.rep q o
   rcases M with t|⟨s,g,f,t⟩
   ·rw [t] at h
    obtain ⟨d,v,w⟩:=h
    refine ⟨d,v,?_⟩
    rcases w with p|⟨b,c,y,U,l,A,k,u,n,F,H,p6⟩
    ·grind
    ·exact .inr ⟨b,c,y,U,l,A,k,u,n,fun _=>F trivial,H.keep x.K,p6⟩
   ·rw [t] at h
    subst f
    obtain ⟨d,v,w⟩:=h
    refine ⟨d,v,?_⟩
    rcases w with ⟨k,u,n⟩|⟨b,c,y,l,A,k,u,n,F,H⟩
    ·exact .inl ⟨k,.inl n⟩
    ·have O:=m.once q o
     rw [t] at O
     simp [Root.own,k,Option.toList,zcB] at O
     refine .inr ⟨b,c,y,(0,0),l,A,k,u,n,fun _=>rfl,F.data x.K fun b' B=>I b' (by grind [Root.own,zcB]) (.inl fun e=>?_),H⟩
     grind
  rcases J with h|h
  ·subst h
   exact ⟨L False (fun h=>h.elim),fun b j=>I b (S b j) (.inr rfl)⟩
  ·subst h
   exact L True fun _=>rfl
end Go.SX
namespace Go.SX
def Ctx.mv (X:Ctx) (up:List (Nat×Root)):Ctx:={ X with μ:=now X.μ up }
theorem Ctx.mv_cons (X:Ctx) (r) (R) (a):X.mv ((r,R)::a)={ X.mv a with μ:=upd (X.mv a).μ r R }:=by simp [Ctx.mv,zca]
def seen (fz:Bool) (X:Ctx):Nat→Prop:=if fz then X.M else fun _=>False
theorem seen_keeps {b X a}(x:Ext X a) (c:a.w=X.w):Keeps X.w X.w (seen b X) (seen b a):=by
 cases b with
 | false=>exact ⟨fun _ _ _=>rfl,fun _ _ h=>h⟩
 | true =>
  have K:=x.K
  rw [c] at K
  exact K
section
variable {B0:Nat} {X:Ctx}
theorem zeL {fz e r u l a}(h:Run (znz fz e r) X.μ u a l) (m:Mem B0 (X.mv u.up)) (F:B0≤X.w.heap.size) (H:X.A r) :
  ((X.mv u.up).μ r).row?=some (e,a)∧Ext (X.mv u.up) (X.mv l.up)∧Mem B0 (X.mv l.up)∧(fz=false→l=u) ∧
  ((X.mv l.up).μ r).rowv?=some (e,a)∧∀ b,b∈((X.mv l.up).μ r).own (X.β r)→¬ seen fz (X.mv l.up) b:=by
 obtain ⟨R,M,I,w⟩:=Run.bind h
 clear h
 obtain ⟨B,L⟩:=Run.root I
 subst L
 have k:(X.mv M.up).μ r=R:=B.symm
 clear B
 cases R with
 | dead=>grind [Run.fail]
 | box T v=>grind [Run.fail]
 | mp K V a=>grind [Run.fail]
 | row i s =>
  obtain ⟨_,z,d,h⟩:=Run.bind w
  obtain ⟨j,o⟩:=Run.guard d
  subst o
  have n:=Ty.beq_eq j
  subst n
  cases fz with
  | false =>
   obtain ⟨c,f⟩:=Run.pure h
   subst c f
   exact ⟨by rw [k];rfl,Ext.refl _,m,fun _=>rfl,by rw [k];rfl,fun b _ t=>t⟩
  | true =>
   obtain ⟨_,J,d,y⟩:=Run.bind h
   have c:=Run.put d
   obtain ⟨f,A⟩:=Run.pure y
   subst c f A
   obtain ⟨x,m'⟩:=m.lower (hB:=F) (r:=r) H (e:=i) (a:=a) (.inl k) (R:=.fz i a) (.inl rfl)
   simp_all [Ctx.mv_cons,upd_same,Root.rowv?,Root.row?,Root.own]
 | fz i s =>
  obtain ⟨_,z,d,h⟩:=Run.bind w
  obtain ⟨j,o⟩:=Run.guard d
  subst o
  have n:=Ty.beq_eq j
  subst n
  obtain ⟨c,f⟩:=Run.pure h
  subst c f
  exact ⟨by rw [k];rfl,Ext.refl _,m,fun _=>rfl,by rw [k];rfl,fun b j=>by grind [Root.own]⟩
 | bo i s=>grind [Run.fail]
 | ow i s i' q'=>grind [Run.fail]
 | lt i s q =>
  obtain ⟨_,z,d,h⟩:=Run.bind w
  obtain ⟨j,o⟩:=Run.guard d
  subst o
  simp  at j
  have n:=Ty.beq_eq j.1
  have hfz:=j.2
  subst n hfz
  obtain ⟨c,f⟩:=Run.pure h
  subst c f
  exact ⟨by rw [k];rfl,Ext.refl _,m,fun _=>rfl,by rw [k];rfl,fun b _ t=>t⟩
 | mat i s g =>
  obtain ⟨_,z,d,h⟩:=Run.bind w
  obtain ⟨j,o⟩:=Run.guard d
  subst o
  have n:=Ty.beq_eq j
  subst n
  cases fz with
  | false =>
   obtain ⟨c,f⟩:=Run.pure h
   subst c f
   exact ⟨by rw [k];rfl,Ext.refl _,m,fun _=>rfl,by rw [k];rfl,fun b _ t=>t⟩
  | true =>
   obtain ⟨_,J,d,y⟩:=Run.bind h
   have c:=Run.put d
   obtain ⟨f,A⟩:=Run.pure y
   subst c f A
   obtain ⟨x,m'⟩:=m.lower (hB:=F) (r:=r) H (e:=.sl i) (a:=a) (.inr ⟨i,g,rfl,k⟩) (R:=.fz (.sl i) a) (.inl rfl)
   simp_all [Ctx.mv_cons,upd_same,Root.rowv?,Root.row?,Root.own]
theorem zoX {fz e r g i d a}(h:Run (zye fz e r g) X.μ i a d) (m:Mem B0 (X.mv i.up)) (u:B0≤X.w.heap.size) (w:X.A r) :
  (X.mv i.up).μ r=.mat e a g∧Ext (X.mv i.up) (X.mv d.up)∧Mem B0 (X.mv d.up)∧(fz=false→d=i) ∧
  ((X.mv d.up).μ r).rowv?=some (.sl e,a)∧∀ b,b∈((X.mv d.up).μ r).own (X.β r)→¬ seen fz (X.mv d.up) b:=by
 obtain ⟨R,y,z,A⟩:=Run.bind h
 clear h
 obtain ⟨H,I⟩:=Run.root z
 subst I
 have l:(X.mv y.up).μ r=R:=H.symm
 cases R with
 | dead=>grind [Run.fail]
 | box T v=>grind [Run.fail]
 | mp K V a=>grind [Run.fail]
 | row c j=>grind [Run.fail]
 | fz c j=>grind [Run.fail]
 | lt c j q=>grind [Run.fail]
 | bo c j=>grind [Run.fail]
 | ow c j i' q'=>grind [Run.fail]
 | mat c j g' =>
  obtain ⟨_,s2,k,h⟩:=Run.bind A
  obtain ⟨o,B⟩:=Run.guard k
  subst B
  simp only [wD0] at o
  have F:=Ty.beq_eq o.1
  have G:=zbv o.2
  subst F G
  cases fz with
  | false =>
   obtain ⟨n,p⟩:=Run.pure h
   subst n p
   exact ⟨l,Ext.refl _,m,fun _=>rfl,by rw [l];rfl,fun b _ J=>J⟩
  | true =>
   obtain ⟨_,s3,k,L⟩:=Run.bind h
   have n:=Run.put k
   obtain ⟨p,t⟩:=Run.pure L
   subst n p t
   obtain ⟨x,m'⟩:=m.lower (hB:=u) (r:=r) w (e:=.sl c) (a:=a) (.inr ⟨c,g,rfl,l⟩) (R:=.fz (.sl c) a) (.inl rfl)
   simp_all [Ctx.mv_cons,upd_same,Root.rowv?,Root.row?,Root.own]
theorem zqa {fz e r t o p a}(h:Run (znz fz e r) t o a p):p.ab=o.ab:=by
 obtain ⟨R,s1,w,i⟩:=Run.bind h
 obtain ⟨hR,s⟩:=Run.root w
 subst s
 cases R with
 | dead=>grind [Run.fail]
 | box T v=>grind [Run.fail]
 | mp K V a=>grind [Run.fail]
 | row c d =>
  obtain ⟨_,k,b,f⟩:=Run.bind i
  obtain ⟨_,m⟩:=Run.guard b
  subst m
  cases fz with
  | false=>grind [Run.pure]
  | true =>
   obtain ⟨_,u,n,l⟩:=Run.bind f
   rw [(Run.pure l).2,Run.put n]
 | fz c d =>
  obtain ⟨_,k,b,f⟩:=Run.bind i
  grind [Run.guard,Run.pure]
 | bo c d=>grind [Run.fail]
 | ow c d i' q'=>grind [Run.fail]
 | lt c d q =>
  obtain ⟨_,k,b,f⟩:=Run.bind i
  grind [Run.guard,Run.pure]
 | mat c d g =>
  obtain ⟨_,k,b,f⟩:=Run.bind i
  obtain ⟨_,m⟩:=Run.guard b
  subst m
  cases fz with
  | false=>grind [Run.pure]
  | true =>
   obtain ⟨_,u,n,l⟩:=Run.bind f
   rw [(Run.pure l).2,Run.put n]
theorem zDA {c e r g i b d a}(h:Run (zye c e r g) i b a d):d.ab=b.ab:=by
 obtain ⟨R,s1,j,k⟩:=Run.bind h
 obtain ⟨hR,l⟩:=Run.root j
 subst l
 cases R with
 | mat e' a' g =>
  obtain ⟨_,s2,m,n⟩:=Run.bind k
  obtain ⟨_,o⟩:=Run.guard m
  subst o
  cases c with
  | false=>grind [Run.pure]
  | true =>
   obtain ⟨_,s3,p,f⟩:=Run.bind n
   rw [(Run.pure f).2,Run.put p]
 | _=>grind [Run.fail]
theorem zyb {d e r g b c a}(h:Run (zye d e r g) X.μ b a c) (q) (hq:q≠r):(X.mv c.up).μ q=(X.mv b.up).μ q:=by
 obtain ⟨R,s1,i,j⟩:=Run.bind h
 obtain ⟨hR,e1⟩:=Run.root i
 cases R with
 | mat e' a' g =>
  obtain ⟨_,s2,k,l⟩:=Run.bind j
  obtain ⟨_,e2⟩:=Run.guard k
  cases d with
  | false=>grind [Run.pure]
  | true =>
   obtain ⟨_,s3,m,f⟩:=Run.bind l
   rw [(Run.pure f).2,Run.put m,Ctx.mv_cons]
   grind [upd_ne]
 | _=>grind [Run.fail]
theorem zhl {e r vw v a}(m:Mem B0 X) (hA:X.A r) (hh:HRep X e r vw v) (M:(X.μ r).rowv?=some (e,a))
  {H} (K:Keeps X.w X.w X.M H) (hb:∀ b,b∈(X.μ r).own (X.β r)→¬ H b) {d:D}
  (t:match vw with|none=>a.get X.E=some d|some (S,U)=>∃ u l h,a.get X.E=some u∧S.get X.E=some l∧U.get X.E=some h∧Prim.run .sub [u,l,h]=some d) :
  DRep X.w H (.sl e) d [v]:=by
 obtain ⟨a1,d1,w,G,P⟩:=hh
 rw [(Root.rowv_row M)] at w
 injection w with w
 injection w with _ w
 subst w
 obtain ⟨d2,A,R⟩:=m.content hA M K hb
 rw [G] at A
 injection A with A
 subst A
 cases vw with
 | none =>
  simp only at t
  rw [G] at t
  injection t with t
  subst t
  rcases P with ⟨B,g,_⟩|⟨N,l,B,g,F,bs,O,y,I,p6⟩
  ·exact g.rep
  ·rcases R with ⟨s,f⟩|⟨b',c,W,Y,Z,J,s,f,q3,L,q5,Q⟩
   ·grind
   ·rw [B] at s
    injection s with s
    subst s
    rw [g] at f
    injection f with f
    subst f g
    simp only [DRep]
    exact ⟨⟨N,0,none⟩,F,J,by grind,y,L,fun j u hj=>by rw [addr_add,vA0];grind [zc4],Q⟩
 | some p =>
  obtain ⟨S,U⟩:=p
  obtain ⟨u,l0,h0,z,q,o,x⟩:=t
  rw [G] at z
  injection z with z
  subst z
  rcases P with ⟨B,g,k,k',y,I⟩|⟨N,l,B,g,ad,F,bs,k,k',i,j,O,y,I,p6,p7,p8,p9,p10,p11⟩
  ·rw [y] at q
   rw [I] at o
   injection q with q
   injection o with o
   subst q o
   have e0:d=d1:=by
    rcases g.em with h|h<;>subst h<;>simp [Prim.run] at x<;>exact x.symm
   subst e0
   exact g.rep
  ·rw [O] at q
   rw [y] at o
   injection q with q
   injection o with o
   subst q o g
   have V:(0:Int)≤Int.ofNat i∧Int.ofNat i≤Int.ofNat j∧Int.ofNat j≤(l.length:Int):=⟨by simp,by grind,by grind⟩
   simp only [Prim.run,if_pos V] at x
   injection x with x
   subst x
   rcases R with ⟨s,f⟩|⟨b',c,W,Y,Z,J,s,f,q3,L,q5,Q⟩
   ·grind
   ·injection f with f
    subst f
    have hlen:((l.take (Int.ofNat j).toNat).drop (Int.ofNat i).toNat).length=j - i:=by grind
    refine ⟨ad,F,(J.take (j * e.size)).drop (i * e.size),by grind,by omega,?_,fun n u hn=>?_,fun hx=>?_⟩
    ·exact (L.take j).drop i
    all_goals grind [addr_add,zc4]
end
end Go.SX
namespace Go.SX
theorem zk3 {E a l d b}(h:a.get E=some d) (hl:gets E l=some b):gets E (a::l)=some (d::b):=by grind [gets]
variable {C:FuncId→List D→Option (List D)} {k B0:Nat} {X:Ctx}
mutual
theorem zlM (hB:B0≤X.w.heap.size) {O:Bool}:∀ {s:SV}{T:Ty}{B f:SS}{a:At}{cs:List Value},Run (SV.view O T s) X.μ B a f→Sat C k X.E f.bs f.nv→Mem B0 (X.mv B.up)→CRep (X.mv B.up) s cs →
  Ext (X.mv B.up) (X.mv f.up)∧Mem B0 (X.mv f.up)∧(O=false→f.up=B.up)∧f.ab=B.ab∧∃ d,a.get X.E=some d∧DRep X.w (seen O (X.mv f.up)) T d cs
 | .un n,T,B,f,a,cs,h,F,m,A=>by grind [SV.view,Run.fail]
 | .tu l,T,B,f,a,cs,h,F,m,A=>by grind [SV.view,Run.fail]
 | .fn _ _ _,T,B,f,a,cs,h,F,m,A=>by grind [SV.view,Run.fail]
 | .p _ _ _ _,T,B,f,a,cs,h,F,m,A=>by grind [SV.view,Run.fail]
 | .pm _ _ _ _ _ _,T,B,f,a,cs,h,F,m,A=>by grind [SV.view,Run.fail]
 | .pd _ _,T,B,f,a,cs,h,F,m,A=>by grind [SV.view,Run.fail]
 | .hc _ _ _,T,B,f,a,cs,h,F,m,A=>by grind [SV.view,Run.fail]
 | .mr _ _ _,T,B,f,a,cs,h,F,m,A=>by grind [SV.view,Run.fail]
 | .cv v,T,B,f,a,cs,h,F,m,A=>by
  simp only [SV.view] at h
  cases hx:cvtD T v with
  | none=>grind [Run.fail]
  | some x =>
   rw [hx] at h
   obtain ⟨t,H⟩:=Run.pure h
   subst t H
   refine ⟨Ext.refl _,m,fun _=>rfl,rfl,x,rfl,?_⟩
   obtain ⟨N,J⟩:=A
   have:=zi1 (w:=X.w) (M:=seen O (X.mv f.up)) hx
   unfold DVal at this
   rw [N]
   split at this
   ·obtain ⟨c,e,_⟩:=this
    exact absurd e (J.1 c)
   grind
 | .d T' a',T,B,f,a,cs,h,F,m,A=>by
  simp only [SV.view] at h
  split at h
  ·rename_i hb
   have he:=Ty.beq_eq hb
   subst he
   obtain ⟨t,H⟩:=Run.pure h
   subst t H
   simp only [CRep] at A
   obtain ⟨d,N,J⟩:=A
   refine ⟨Ext.refl _,m,fun _=>rfl,rfl,d,N,?_⟩
   cases O with
   | true=>exact J
   | false=>exact J.keep ⟨fun _ _ _=>rfl,fun _ _ _ h=>h⟩
  grind [Run.fail]
 | .h e r vw,T,B,f,a,cs,h,F,m,A=>by
  simp only [SV.view] at h
  obtain ⟨_,s1,N,J⟩:=Run.bind h
  obtain ⟨G,t⟩:=Run.guard N
  subst t
  have G:=Ty.beq_eq G
  subst G
  obtain ⟨a0,L,V,Q⟩:=Run.bind J
  simp only [CRep] at A
  obtain ⟨v,hcs,hone,S,hh⟩:=A
  obtain ⟨r1,x,W,hf,r2,ho⟩:=zeL V m hB S
  have hh'  := hh (by
   cases hk:(X.mv s1.up).μ r with
   | dead=>grind [Root.row?]
   | _=>rfl)
  have ht2:((X.mv L.up).μ r).there=true:=by
   cases hk:(X.mv L.up).μ r with
   | dead=>rw [hk] at r2;cases r2
   | _=>rfl
  subst hcs
  have K:Keeps (X.mv L.up).w (X.mv L.up).w (X.mv L.up).M (seen O (X.mv L.up)):=by
   cases O with
   | true=>exact ⟨fun _ _ _=>rfl,fun _ _ h=>h⟩
   | false=>exact ⟨fun _ _ _=>rfl,fun _ _ _ h=>h⟩
  cases vw with
  | none =>
   obtain ⟨t,H⟩:=Run.pure Q
   subst t H
   obtain ⟨d,Y,_⟩:=W.content S r2 K ho
   refine ⟨x,W,fun e=>by grind,?_,d,Y,zhl W S (hh'.ext x S ht2) r2 K ho Y⟩
   grind [zqa]
  | some p =>
   obtain ⟨lo,hi⟩:=p
   obtain ⟨⟨u,l,hh0,d,U,I,P,f4,f5⟩,t,H⟩:=Run.op3 Q F
   rw [t,H]
   refine ⟨x,W,fun e=>by grind,?_,d,f5,zhl W S (hh'.ext x S ht2) r2 K ho ⟨u,l,hh0,U,I,P,f4⟩⟩
   grind [zqa]
 | .hr e r ix g,T,B,f,a,cs,h,F,m,A=>by
  simp only [SV.view] at h
  obtain ⟨_,s1,N,J⟩:=Run.bind h
  obtain ⟨G,t⟩:=Run.guard N
  subst t
  have G:=Ty.beq_eq G
  subst G
  obtain ⟨a0,L,V,Q⟩:=Run.bind J
  simp only [CRep] at A
  obtain ⟨v,hcs,hone,S,hh⟩:=A
  obtain ⟨r1,x,W,hf,r2,ho⟩:=zoX V m hB S
  subst hcs
  obtain ⟨_,hh'⟩:=hh e a0 g r1
  obtain ⟨_,k0,i,ds,d0,o,q1,q2,q3,q4,q5⟩:=hh' rfl
  have K:Keeps (X.mv L.up).w (X.mv L.up).w (X.mv L.up).M (seen O (X.mv L.up)):=by
   cases O with
   | true=>exact ⟨fun _ _ _=>rfl,fun _ _ h=>h⟩
   | false=>exact ⟨fun _ _ _=>rfl,fun _ _ _ h=>h⟩
  obtain ⟨⟨u,l,d,U,I,P,f4⟩,t,H⟩:=Run.op2 Q F
  rw [t,H]
  refine ⟨x,W,fun e=>by grind,?_,d,f4,?_⟩
  ·grind [zDA]
  ·
   have Z:a0.get X.E=some (.sl ds):=q1
   rw [U] at Z
   injection Z with Z
   subst Z
   have q2':ix.get X.E=some (.int k0 (Int.ofNat i)):=q2
   rw [I] at q2'
   injection q2' with q2'
   subst q2'
   simp only [Prim.run,Int.ofNat_eq_natCast,Int.toNat_natCast] at P
   rw [if_pos (by omega),q3] at P
   injection P with P
   subst P
   have hrep:=m.rep r S
   rw [r1] at hrep
   obtain ⟨dd,w1,w2⟩:=hrep
   have w1':a0.get X.E=some dd:=w1
   rw [U] at w1'
   injection w1' with w1'
   subst w1'
   rcases w2 with ⟨_,_,w3⟩|⟨b,c,te,l',xs,_,w3,w4,w5,w6⟩
   ·grind
   ·injection w3 with w3
    subst w3
    have cell:=RowCells.get w5 q3 q4
    obtain ⟨v',hv',cell⟩:=cell
    have nb:∀ b,o=some b→¬ seen O (X.mv L.up) b:=by
     intro b hb
     cases O with
     | false=>exact fun h=>h
     | true =>
      intro hM
      rcases hM with hf|⟨q,hq1,hq2⟩
      ·have N:=m.frame b hf
       have J:=m.low r b S (by grind [Root.own,zcB])
       omega
      by_cases hqr:q=r
      ·subst hqr
       exact ho b hq2 (.inr ⟨q,hq1,hq2⟩)
      ·rw [(zyb V q) hqr] at hq2
       exact hqr (m.apart q r b hq1 S hq2 (by grind [Root.own,zcB]))
    rcases q5 with ⟨p1,p2⟩|⟨b,l2,cap,bs,p1,p2,p3,p4,p5,p6⟩
    ·exact p2.rep
    ·subst p2
     rcases cell with ⟨c1,c2⟩|⟨b',l3,c',te',ys,cap',c1,c2,c3,c4,c5,c6,c7,c8⟩
     ·grind
     ·injection c2 with c2
      subst c2
      rw [p1] at c1
      injection c1 with c1
      subst c1
      simp only [DRep]
      exact ⟨⟨b,0,none⟩,cap,ys,by rw [p3],p4,(c4.keep x.K).keep K,fun j u hj=>by rw [addr_add,vA0];exact zc4 c3 c5 hj,fun _=>nb b p1⟩
 | .z e a',T,B,f,a,cs,h,F,m,A=>by
  simp only [SV.view] at h
  obtain ⟨_,s1,N,J⟩:=Run.bind h
  obtain ⟨G,t⟩:=Run.guard N
  subst t
  have G:=Ty.beq_eq G
  subst G
  simp only [CRep] at A
  obtain ⟨v,hcs,d0,l,y,q1,q2,q3,q4⟩:=A
  subst hcs q3
  obtain ⟨⟨u,v1,v2,d,U,I,P,f4,f5⟩,t,H⟩:=Run.op3 J F
  rw [t,H]
  have Z:a'.get X.E=some d0:=q1
  rw [U] at Z
  injection Z with Z
  subst Z
  have f2':v1=.int .i64 0:=by injection I with I;exact I.symm
  have f3':v2=.int .i64 0:=by injection P with P;exact P.symm
  subst f2' f3'
  refine ⟨Ext.refl _,m,fun _=>rfl,rfl,d,f5,?_⟩
  cases u with
  | nil =>
   simp [Prim.run] at f4
   subst f4
   have:=q4.2 rfl
   subst this
   simp [DRep]
  | sl l' =>
   simp [Prim.run] at f4
   subst f4
   cases y with
   | none=>exact absurd (q4.1 rfl) (by simp)
   | some ad =>
    simp only [DRep]
    exact ⟨ad,0,[],rfl,wG0 _,by simp [DRepA],fun j u hj=>by simp at hj,fun h=>absurd rfl h⟩
  | _=>simp [D.els] at q2
 | .ag T' l,T,B,f,a,cs,h,F,m,A=>by
  unfold SV.view at h
  obtain ⟨_,s1,N,J⟩:=Run.bind h
  obtain ⟨G,t⟩:=Run.guard N
  subst t
  have G:=Ty.beq_eq G
  subst G
  cases T' with
  | st Ts =>
   obtain ⟨as,L,V,Q⟩:=Run.bind J
   simp only [CRep] at A
   obtain ⟨⟨vs,d,U,I,P⟩,t,H⟩:=Run.op Q F
   obtain ⟨x,W,hf,hab,ds,Y,g2⟩:=zvn hB V (Q.sat F) m A
   rw [U] at Y
   injection Y with Y
   subst Y
   simp only [Prim.run] at I
   injection I with I
   subst I
   rw [t,H]
   exact ⟨x,W,hf,hab,_,P,g2⟩
  | _=>exact (Run.fail J).elim
 | .hb R e n r q,T,B,f,a,cs,h,F,m,A=>by
  simp only [SV.view] at h
  obtain ⟨_,s1,N,J⟩:=Run.bind h
  obtain ⟨G,t⟩:=Run.guard N
  subst t
  simp  at G
  obtain ⟨G,hfz⟩:=G
  have G:=Ty.beq_eq G
  subst G
  obtain ⟨Rt,L,V,Q⟩:=Run.bind J
  obtain ⟨hR,t⟩:=Run.root V
  subst t
  have hR':(X.mv L.up).μ r=Rt:=hR.symm
  split at Q
  ·rename_i T1 T2 a1
   obtain ⟨_,s3,h5,h6⟩:=Run.bind Q
   obtain ⟨hb,t⟩:=Run.guard h5
   subst t
   simp  at hb
   have t:=Ty.beq_eq hb.1.1
   have H:=Ty.beq_eq hb.1.2
   have e3:=Ty.beq_eq hb.2
   subst t H e3
   simp only [CRep] at A
   obtain ⟨v,hcs,S,_,_,b,p1,p2⟩:=A
   subst hcs p2
   obtain ⟨⟨u,d,U,I,P⟩,t,H⟩:=Run.op1 h6 F
   rw [t,H]
   have hrep:=m.rep r S
   rw [hR'] at hrep
   obtain ⟨b',c,te,w1,w2,_,w4⟩:=hrep
   rw [p1] at w1
   injection w1 with w1
   subst w1
   simp only [CRep] at w4
   obtain ⟨d1,y1,y2⟩:=w4
   have y1':a1.get X.E=some d1:=y1
   rw [U] at y1'
   injection y1' with y1'
   subst y1'
   subst (by simpa using hfz)
   refine ⟨Ext.refl _,m,fun _=>rfl,rfl,d,P,?_⟩
   cases u<;>simp only [DRep] at y2<;>try exact y2.elim
   injection I with I
   subst I
   refine ⟨⟨b,0,none⟩,n,c.toList,by rw [y2.1],by rw [y2.1];exact wG0 _,y2.2.keep ⟨fun _ _ _=>rfl,fun _ _ _ h=>h⟩,fun j u hj=>?_,fun _ h=>h⟩
   rw [addr_add,vA0]
   have w2':X.w.heap[b]?=some (.cells c te (0,0)):=w2
   rw [zyx w2']
   simpa using hj
  ·exact (Run.fail Q).elim
theorem zvn (hB:B0≤X.w.heap.size) {O:Bool}:∀ {l:List SV}{Ts:List Ty}{B f:SS}{as:List At}{cs:List Value},Run (SV.viewL O Ts l) X.μ B as f→Sat C k X.E f.bs f.nv→Mem B0 (X.mv B.up)→CRepL (X.mv B.up) l Ts cs →
  Ext (X.mv B.up) (X.mv f.up)∧Mem B0 (X.mv f.up)∧(O=false→f.up=B.up)∧f.ab=B.ab∧∃ ds,gets X.E as=some ds∧DRepL X.w (seen O (X.mv f.up)) Ts ds cs
 | [],[],B,f,as,cs,h,F,m,A=>by
  obtain ⟨t,H⟩:=Run.pure h
  subst t H
  simp only [CRepL] at A
  exact ⟨Ext.refl _,m,fun _=>rfl,rfl,[],rfl,by simpa only [DRepL] using A⟩
 | s::l,T::Ts,B,f,as,cs,h,F,m,A=>by
  obtain ⟨a,s1,N,J⟩:=Run.bind h
  obtain ⟨as',L,V,Q⟩:=Run.bind J
  obtain ⟨t,H⟩:=Run.pure Q
  subst t H
  obtain ⟨c1,c2,ec,_,hc1,hc2⟩:=A
  obtain ⟨x1,m1,U,b1,d,Y,r1⟩:=zlM hB N (V.sat F) m hc1
  obtain ⟨x2,m2,I,b2,ds,g2,r2⟩:=zvn hB V F m1 (CRepL.ext x1 hc2)
  refine ⟨x1.trans x2,m2,fun e=>by rw [I e,U e],by rw [b2,b1],d::ds,zk3 Y g2,?_⟩
  exact ⟨c1,c2,ec,r1.keep (seen_keeps x2 rfl),r2⟩
 | [],_::_,B,f,as,cs,h,F,m,A=>by exact (Run.fail h).elim
 | _::_,[],B,f,as,cs,h,F,m,A=>by exact (Run.fail h).elim
end
end Go.SX
namespace Go.SX
open Go.RowKit (Below)
mutual
theorem D.beq_eq:∀ {a b:D},a.beq b=true→a=b
 | .int k n,.int k' n',h=>by grind [D.beq]
 | .bool b,.bool c,h=>by grind [D.beq]
 | .str s,.str t,h=>by
  simp [D.beq] at h
  obtain ⟨⟨s⟩⟩:=s
  simp_all
 | .agg l,.agg d,h=>by rw [D.beqL_eq h]
 | .sl l,.sl d,h=>by rw [D.beqL_eq h]
 | .nil,.nil,_=>rfl
 | .int _ _,.bool _,h|.int _ _,.str _,h|.int _ _,.agg _,h|.int _ _,.sl _,h|.int _ _,.nil,h=>by grind [D.beq]
 | .bool _,.int _ _,h|.bool _,.str _,h|.bool _,.agg _,h|.bool _,.sl _,h|.bool _,.nil,h=>by grind [D.beq]
 | .str _,.int _ _,h|.str _,.bool _,h|.str _,.agg _,h|.str _,.sl _,h|.str _,.nil,h=>by grind [D.beq]
 | .agg _,.int _ _,h|.agg _,.bool _,h|.agg _,.str _,h|.agg _,.sl _,h|.agg _,.nil,h=>by grind [D.beq]
 | .sl _,.int _ _,h|.sl _,.bool _,h|.sl _,.str _,h|.sl _,.agg _,h|.sl _,.nil,h=>by grind [D.beq]
 | .nil,.int _ _,h|.nil,.bool _,h|.nil,.str _,h|.nil,.agg _,h|.nil,.sl _,h=>by grind [D.beq]
theorem D.beqL_eq:∀ {a b:List D},D.beqL a b=true→a=b
 | [],[],_=>rfl
 | a::l,b::d,h=>by
  simp [D.beqL] at h
  rw [D.beq_eq h.1,D.beqL_eq h.2]
 | [],_::_,h=>by grind [D.beqL]
 | _::_,[],h=>by grind [D.beqL]
end
theorem At.beq_eq {a b:At}(h:a.beq b=true):a=b:=by
 cases a<;>cases b<;>simp only [At.beq] at h<;>first|rw [zbv h]|rw [D.beq_eq h]|grind
def zwm (cx:Cx) (t:TypeId):Ty→Prop
 | .int k=>cx.P.underlying t=some (.int k)
 | .bool=>cx.P.underlying t=some .bool
 | .str=>cx.P.underlying t=some .string
 | .sl e=>∃ E,cx.P.underlying t=some (.slice E)∧cx.T E=e
 | .arr n e=>∃ E,cx.P.underlying t=some (.array n E)∧cx.T E=e
 | .st Ts=>∃ fs,cx.P.underlying t=some (.struct fs)∧Ts=fs.toList.map (fun f=>cx.T f.type)∧ziM cx.T fs.toList 0=true
 | .no=>False
structure TyFact (cx:Cx) (t:TypeId) (T:Ty) (i:TypeInfo):Prop where
 info:cx.P.info? t=some i
 size:i.size=T.size
 zero:∃ z,i.zero=some z∧∀ w M,DVal w M T T.zero z
 known:T.known=true
 desc:zwm cx t T
def ess (o:Oper):Option Tmp×Op×Option (Nat×Bool):=(o.dst,o.op,o.guard)
def zgo (r1 r2 r3 b0 b1:Nat) (o1 o2 o3:Array Oper):Code :=
 .seq (.seq (.region r1 o1 false) (.cond (.tmp 8) .skip (.exit b0))) (.seq (.block b1 (.seq (.region r3 o3 false) (.cond (.tmp 18) .ret .skip))) (.region r2 o2 false))
structure zFL (P:Program) (f:FuncId) (tS tE:TypeId) (fn:Func) (r0 r1 r2 r3 b0 b1:Nat) (o0 o1 o2 o3:Array Oper) (ti tb:TypeId) (ts:Array TypeId):Prop where
 get:P.funcs[f]?=some fn
 can:zlu fn=true
 body:fn.body=some (.seq (.region r0 o0 false) (.block b0 (.loop (zgo r1 r2 r3 b0 b1 o1 o2 o3))))
 ntmps:fn.ntmps=19
 res:fn.results=#[]
 e0:o0.toList.map ess=[(some 4,.load tS (.tmp 1),none),(some 5,.call ⟨.builtin .len,#[.tmp 4],#[tS]⟩,none),(some 6,.binOp .sub ti (.tmp 5) (.const (.int .i64 1)) ti,none),(some 3,.assign (.tmp 6),none)]
 e1:o1.toList.map ess=[(some 7,.move (.tmp 3),none),(some 8,.binOp .geq ti (.tmp 7) (.const (.int .i64 0)) ti,none)]
 e2:o2.toList.map ess=[(some 9,.move (.tmp 3),none),(some 10,.binOp .sub ti (.tmp 9) (.const (.int .i64 1)) ti,none),(some 3,.assign (.tmp 10),none)]
 e3:o3.toList.map ess=[(some 11,.move (.tmp 0),none),(some 12,.move (.tmp 3),none),(some 13,.load tS (.tmp 1),none),(some 14,.move (.tmp 3),none),(some 15,.indexAddr tS (.tmp 13) (.tmp 14),none),(some 16,.load tE (.tmp 15),none),
  (some 17,.call ⟨.value (.tmp 11),#[.tmp 12,.tmp 16],ts⟩,none),(some 18,.unOp .not tb (.tmp 17),none)]
def zIk (P:Program) (p:FuncId×TypeId×TypeId):Prop:=∃ fn r0 r1 r2 r3 b0 b1 o0 o1 o2 o3 ti tb ts,zFL P p.1 p.2.1 p.2.2 fn r0 r1 r2 r3 b0 b1 o0 o1 o2 o3 ti tb ts
structure TysOk (cx:Cx):Prop where
 ty:∀ t,cx.T t≠.no→∃ i,TyFact cx t (cx.T t) i
 bk:∀ p∈cx.bk,zIk cx.P p
theorem TysOk.get {a}(b:TysOk a) {t T}(c:a.T t=T) (d:T≠.no):∃ i,TyFact a t T i:=by
 subst c
 exact b.ty t d
theorem zEi {a t}(h:zHT a t=true) (hn:a.T t≠.no):∃ i,TyFact a t (a.T t) i:=by
 unfold zHT at h
 have key:∀ T,a.T t=T→T≠.no→(match a.P.info? t with
  | none=>false
  | some i =>
   Nat.beq i.size T.size&&(match i.zero with|some z=>(match cvtD T z with|some d=>d.beq T.zero|none=>false)|none=>false)&&T.known &&
   (match T,a.P.underlying t with
    | .int k,some (.int p)=>decide (k=p)
    | .bool,some .bool=>true
    | .str,some .string=>true
    | .sl e,some (.slice E)=>(a.T E).beq e
    | .arr n e,some (.array m E)=>Nat.beq n m&&(a.T E).beq e
    | .st u,some (.struct c)=>Ty.beqL u (c.toList.map fun f=>a.T f.type)&&ziM a.T c.toList 0
    | _,_=>false))=true→∃ i,TyFact a t T i:=by
  intro T _ hT h
  cases g:a.P.info? t with
  | none=>grind
  | some i =>
   simp only [g,wD0] at h
   obtain ⟨⟨⟨q,b⟩,r⟩,j⟩:=h
   refine ⟨i,g,zbv q,?_,r,?_⟩
   ·cases s:i.zero with
    | none=>grind
    | some z =>
     simp only [s] at b
     cases l:cvtD T z with
     | none=>grind
     | some d =>
      simp only [l] at b
      have e:=D.beq_eq b
      subst e
      exact ⟨z,rfl,fun w M=>zi1 l⟩
   ·cases v:a.P.underlying t with
    | none=>grind
    | some o =>
     rw [v] at j
     cases T<;>cases o<;>simp [reduceCtorEq,zwm] at j ⊢<;>try grind
     all_goals grind [Ty.beq_eq,Ty.beqL_eq,zbv]
 grind
theorem zER {a}(h:zDj a a.ty.length=true) (b:∀ p∈a.bk,zIk a.P p):TysOk a:=by
 refine ⟨fun t hn=>?_,b⟩
 have hlt:t<a.ty.length:=by grind [Cx.T]
 have:∀ n,zDj a n=true→∀ t,t<n→zHT a t=true:=by
  intro n
  induction n with
  | zero=>simp
  | succ n ih =>
   intro h t ht
   simp [zDj] at h
   grind
 grind [zEi]
def FR (ro:Option Nat):Fence:={ Fence.wide with round:=ro }
theorem zIK {ro n P f a w R}(h:Calls P f a w R):CallsIn (FR ro) n P f a w R:=(callsIn_wide (n:=n)).2 h
theorem zEH {a n}:(FR a).room n:=fun d h=>by cases h
theorem zxW {b a o P w e x}(h:(execOp a o).run P w=.ok x e) (hx:∀ d,x≠.defer d):(o.semAt b a).run P w=.ok x e:=by
 rw [Oper.semAt_eq b a o fun c g=>?_]
 ·omega
 ·unfold execOp at h
  rw [g] at h
  cases i:(resolve a c o.type).run P w with
  | ok d f =>
   simp [i,Result.andThen] at h
   grind
  | halt y f =>
   simp_all
def Out (P:Program) (o:Oper) (a:Act) (w:World) (R:Value→World→Prop):Prop :=
 ∀ (ro:Option Nat) (next:Act→World→Prop) (Q:Exit→Act→World→Prop),(∀ v w',R v w'→next (a.put o.dst v) w')→o.wpIn (FR ro) 0 P a w next Q
theorem Out.value {P o a w R v b}(h:(execOp a.eval o).run P w=.ok (.value v) b) (f:R v b):Out P o a w R:=fun ro next Q c=>by
 refine ⟨fun _ _=>trivial,?_⟩
 rw [zxW h fun d e=>by grind]
 exact c v b f
theorem Out.skip {P o a w R w'}(h:(execOp a.eval o).run P w=.ok .skip w') (c:R undef w'):Out P o a w R:=fun ro next Q b=>by
 refine ⟨fun _ _=>trivial,?_⟩
 rw [zxW h fun d e=>by grind]
 exact b undef w' c
theorem Out.enter {P o a w R f c b}(h:(execOp a.eval o).run P w=.ok (.enter f c) b)
  (i:Calls P f c b fun e g=>∃ v,e=.returned v∧R v g):Out P o a w R:=fun k next Q hn=>by
 refine ⟨fun _ _=>trivial,?_⟩
 rw [zxW h fun d e=>by grind]
 refine ⟨(fun j=>by cases j),zIK (ro:=k) ?_⟩
 refine i.mono fun e g he=>?_
 grind
structure Nx (B0:Nat) (X X':Ctx) (up:List (Nat×Root)) (ab ab':Nat) (w':World):Prop where
 E:X'.E=X.E
 w:X'.w=w'
 μ:X'.μ=now X.μ up
 A:∀ r,X'.A r↔X.A r∨(ab≤r∧r<ab')
 ext:Ext X X'
 mem:Mem B0 X'
 below:Below B0 X.w w'
def Holds (P:Program) (B0:Nat) (o:Oper) (a:Act) (X:Ctx) (sv:SV) (ab:Nat) (s':SS):Prop :=
 Out P o a X.w fun v w'=>∃ X',Nx B0 X X' s'.up ab s'.ab w'∧VRep X' sv v
theorem zbI (μ):now μ []=μ:=rfl
theorem Nx.same {a X up b}(x:Ext X (X.mv up)) (m:Mem a (X.mv up)):Nx a X (X.mv up) up b b X.w where
 E:=rfl
 w:=rfl
 μ:=rfl
 A:=fun r=>⟨fun h=>.inl h,fun h=>h.elim id fun h=>by omega⟩
 ext:=x
 mem:=m
 below:=Below.refl _ _
theorem zjd {C k B0}{X:Ctx}(hB:B0≤X.w.heap.size) {fz s T σ σ' a v}(h:Run (SV.view fz T s) X.μ σ a σ') (hs:Sat C k X.E σ'.bs σ'.nv)
  (m:Mem B0 (X.mv σ.up)) (hv:VRep (X.mv σ.up) s v) :
  Ext (X.mv σ.up) (X.mv σ'.up)∧Mem B0 (X.mv σ'.up)∧(fz=false→σ'.up=σ.up)∧σ'.ab=σ.ab∧∃ d,a.get X.E=some d∧DVal X.w (seen fz (X.mv σ'.up)) T d v:=by
 have one:∀ {v:Value} {e:Ty},T=.sl e→CRep (X.mv σ.up) s [v]→Ext (X.mv σ.up) (X.mv σ'.up)∧Mem B0 (X.mv σ'.up)∧(fz=false→σ'.up=σ.up)∧σ'.ab=σ.ab∧∃ d,a.get X.E=some d∧DVal X.w (seen fz (X.mv σ'.up)) T d v:=by
  intro v e hT hc
  obtain ⟨x,m',hf,hab,d,h1,h2⟩:=zlM hB h hs m hc
  refine ⟨x,m',hf,hab,d,h1,?_⟩
  subst hT
  unfold DVal
  simp only [Ty.isAgg,wA0,if_false]
  exact ⟨DRep.one rfl h2,h2⟩
 have isSl:∀ {e:Ty},(∃ s1 n,Run (SX.X.guard n (T.beq (.sl e))) X.μ σ () s1)→T=.sl e:=fun ⟨_,_,hg⟩=>Ty.beq_eq (Run.guard hg).1
 cases s with
 | un n=>grind [SV.view,Run.fail]
 | tu l=>grind [SV.view,Run.fail]
 | fn _ _ _=>grind [SV.view,Run.fail]
 | p _ _ _ _=>grind [SV.view,Run.fail]
 | pm _ _ _ _ _ _=>grind [SV.view,Run.fail]
 | pd _ _=>grind [SV.view,Run.fail]
 | hc _ _ _=>grind [SV.view,Run.fail]
 | mr _ _ _=>grind [SV.view,Run.fail]
 | cv v' =>
  simp only [SV.view] at h
  simp only [VRep] at hv
  subst hv
  cases hx:cvtD T v with
  | none=>grind [Run.fail]
  | some x =>
   rw [hx] at h
   obtain ⟨e1,e2⟩:=Run.pure h
   subst e1 e2
   exact ⟨Ext.refl _,m,fun _=>rfl,rfl,x,rfl,zi1 hx⟩
 | d T' a' =>
  simp only [SV.view] at h
  split at h
  ·rename_i hb
   have he:=Ty.beq_eq hb
   subst he
   obtain ⟨e1,e2⟩:=Run.pure h
   subst e1 e2
   simp only [VRep] at hv
   obtain ⟨d,h1,h2⟩:=hv
   refine ⟨Ext.refl _,m,fun _=>rfl,rfl,d,h1,?_⟩
   unfold DVal
   have K:Keeps X.w X.w (X.mv σ'.up).M (seen fz (X.mv σ'.up)):=by
    cases fz with
    | true=>exact ⟨fun _ _ _=>rfl,fun _ _ h=>h⟩
    | false=>exact ⟨fun _ _ _=>rfl,fun _ _ _ h=>h⟩
   split
   ·rename_i c;rw [if_pos c] at h2;obtain ⟨cs,h3,h4⟩:=h2;exact ⟨cs,h3,h4.keep K⟩
   ·rename_i c;rw [if_neg c] at h2;exact ⟨h2.1,h2.2.keep K⟩
  grind [Run.fail]
 | ag T' l =>
  have hT:T'=T:=by
   unfold SV.view at h
   obtain ⟨_,s1,h1,_⟩:=Run.bind h
   grind [Ty.beq_eq,Run.guard]
  subst hT
  cases T' with
  | st Ts =>
   simp only [VRep] at hv
   obtain ⟨cs,h1,h2⟩:=hv
   obtain ⟨x,m',hf,hab,d,h3,h4⟩:=zlM hB h hs m (cs:=cs.toList) (by grind [CRep])
   simp_all [DVal,Ty.isAgg]
  | _=>grind [VRep]
 | h e r vw =>
  have hT:=isSl (e:=e) (by simp only [SV.view] at h;obtain ⟨_,s1,h1,_⟩:=Run.bind h;grind)
  exact one hT (by simp only [VRep] at hv;simp only [CRep];grind)
 | hr e r i g =>
  have hT:=isSl (e:=e) (by simp only [SV.view] at h;obtain ⟨_,s1,h1,_⟩:=Run.bind h;grind)
  exact one hT (by simp only [VRep] at hv;simp only [CRep];grind)
 | z e a' =>
  have hT:=isSl (e:=e) (by simp only [SV.view] at h;obtain ⟨_,s1,h1,_⟩:=Run.bind h;exact ⟨s1,_,h1⟩)
  exact one hT (by simp only [VRep] at hv;simp only [CRep];exact ⟨v,rfl,hv⟩)
 | hb R e n r q =>
  have hT:T=.sl e:=by
   simp only [SV.view] at h
   obtain ⟨_,s1,h1,_⟩:=Run.bind h
   have:=(Run.guard h1).1
   simp only [wD0] at this
   exact Ty.beq_eq this.1
  exact one hT (by simp only [CRep];exact ⟨v,rfl,hv⟩)
end Go.SX
namespace Go.SX
open Go.RowKit (Below)
section
variable {X:Ctx}
theorem VRep.data {T a v}:VRep X (.d T a) v↔∃ d,a.get X.E=some d∧DVal X.w X.M T d v:=by rfl
theorem DVal.int {w M k d v}(h:DVal w M (.int k) d v):∃ n,d=.int k n∧v=.int k n:=by
 obtain ⟨_,h⟩:=h
 cases d<;>simp only [DRep] at h
 grind
theorem DVal.bool {w M d v}(h:DVal w M .bool d v):∃ b,d=.bool b∧v=.bool b:=by
 obtain ⟨_,h⟩:=h
 cases d<;>simp only [DRep] at h
 grind
theorem DVal.str {w M d v}(h:DVal w M .str d v):∃ b,d=.str b∧v=.string b:=by
 obtain ⟨_,h⟩:=h
 cases d<;>simp only [DRep] at h
 grind
theorem DVal.of_int {w M}(k) (n):DVal w M (.int k) (.int k n) (.int k n):=by
 exact ⟨⟨by simp,by simp⟩,rfl,rfl⟩
theorem DVal.of_bool {w M}(b):DVal w M .bool (.bool b) (.bool b):=by
 exact ⟨⟨by simp,by simp⟩,rfl⟩
theorem DVal.of_str {w M}(b):DVal w M .str (.str b) (.string b):=by
 exact ⟨⟨by simp,by simp⟩,rfl⟩
theorem zFD {T s v}(h:VRep X s v):VRep X (asg T s) v:=by
 unfold asg
 split
 ·split
  ·rename_i d a
   subst h
   exact VRep.data.2 ⟨d,rfl,zi1 a⟩
  omega
 omega
theorem zch {s v}(h:VRep X s v):VRep X (simple s) v:=by
 unfold simple
 split
 ·subst h;exact VRep.data.2 ⟨_,rfl,DVal.of_int _ _⟩
 ·subst h;exact VRep.data.2 ⟨_,rfl,DVal.of_bool _⟩
 ·subst h;exact VRep.data.2 ⟨_,rfl,DVal.of_str _⟩
 omega
theorem zaW {ρ:Tmp→SV}{a:Act}(h:∀ t,VRep X (ρ t) (a.tmps.getD t undef)) (x):VRep X (opnd ρ x) (a.eval x):=by
 cases x with
 | tmp t=>exact h t
 | const v=>rfl
 | global g=>simp [opnd,VRep]
 | func f=>exact ⟨#[],#[],rfl,rfl,rfl⟩
variable {C:FuncId→List D→Option (List D)} {k B0:Nat}
theorem zdb {s g b a q}(h:Run (zj9 s) g b q a) {v}(f:VRep X s v) :
  a=b∧∃ n,q.2.get X.E=some (.int q.1 n)∧v=.int q.1 n:=by
 unfold zj9 at h
 have c:=zch f
 split at h
 ·rename_i k' a' i
  obtain ⟨j,k⟩:=Run.pure h
  rw [i] at c
  obtain ⟨d,h1,e⟩:=VRep.data.1 c
  obtain ⟨n,j,k⟩:=e.int
  grind
 grind [Run.fail]
theorem zF5 {s f a b q}(h:Run (atD s) f a q b) {v}(e:VRep X s v) :
  b=a∧∃ d,q.2.get X.E=some d∧DVal X.w X.M q.1 d v:=by
 unfold atD at h
 have c:=zch e
 split at h
 ·rename_i T' a' i
  obtain ⟨j,g⟩:=Run.pure h
  subst j g
  rw [i] at c
  exact ⟨rfl,VRep.data.1 c⟩
 grind [Run.fail]
end
section
variable {P:Program} {w:World}
theorem zHA {c k a b d}(t) (e:zjb c=false) (h:binI c k a b=some d) :
  ∃ v,(binOp c t (.int k a) (.int k b)).run P w=.ok v w∧∀ M,DVal w M (if zD3 c then .bool else .int k) d v:=by
 cases c<;>simp [zjb] at e<;>simp only [binI,wB0] at h
 case quo =>
  split at h
  ·grind
  ·injection h with h
   subst h
   refine ⟨.int k (k.wrap (a.tdiv b)),?_,fun M=>DVal.of_int _ _⟩
   simp_all [binOp,Op.intDiv]
 case rem =>
  split at h
  ·grind
  ·injection h with h
   subst h
   refine ⟨.int k (a.tmod b),?_,fun M=>DVal.of_int _ _⟩
   simp_all [binOp,Op.intDiv]
 all_goals
  subst h
  simp only [binOp,ne_eq,not_true_eq_false,if_false,Op.intArith,Op.intBits,Op.intCmp]
  first
   | exact ⟨_,rfl,fun M=>DVal.of_int _ _⟩
   | exact ⟨_,rfl,fun M=>DVal.of_bool _⟩
theorem zI0 {c k k' a b d}(t) (f:zjb c=true) (h:shI c k a b=some d) :
  ∃ v,(binOp c t (.int k a) (.int k' b)).run P w=.ok v w∧∀ M,DVal w M (.int k) d v:=by
 unfold shI at h
 split at h
 ·grind
 ·rename_i e
  cases c<;>simp [zjb] at f<;>simp  at h<;>subst h <;>
   simp only [binOp,Op.shift,if_neg e]
  ·exact ⟨_,rfl,fun M=>DVal.of_int _ _⟩
  ·exact ⟨_,rfl,fun M=>DVal.of_int _ _⟩
theorem zFV {op t x y k k' a b}:(eqGuard op t x y (.int k a) (.int k' b)).run P w=.ok () w:=by simp [eqGuard]
theorem zDr {op t x y a b}:(eqGuard op t x y (.bool a) (.bool b)).run P w=.ok () w:=by simp [eqGuard]
theorem zFR {op t x y a b}:(eqGuard op t x y (.string a) (.string b)).run P w=.ok () w:=by simp [eqGuard]
theorem zwi:∀ (a b),znA a b=Op.bytesLess a b
 | _,[]=>by simp [znA,Op.bytesLess]
 | [],_::_=>by rfl
 | a::x,b::y=>by simp [znA,Op.bytesLess,zwi x y]
theorem zHB {c a b d}(t) (h:binS c a b=some d) :
  ∃ v,(binOp c t (.string a) (.string b)).run P w=.ok v w∧∀ M,DVal w M (if zD3 c then .bool else .str) d v:=by
 cases c<;>simp only [binS,wB0,reduceCtorEq] at h<;>simp only [binOp,Op.stringOp,ByteArray.toList_eq,← zwi]
 case add =>
  split at h
  ·injection h with h
   subst h
   rw [if_neg (by simp ;omega)]
   exact ⟨_,rfl,fun M=>DVal.of_str _⟩
  grind
 all_goals (subst h;exact ⟨_,rfl,fun M=>DVal.of_bool _⟩)
end
end Go.SX
namespace Go.SX
open Go.RowKit (Below)
structure zdm (P:Program) (X:Ctx) (sem:Sem Value) (sv:SV) (s0 s':SS):Prop where
 up:s'.up=s0.up
 ab:s'.ab=s0.ab
 run:∃ v,sem.run P X.w=.ok v X.w∧VRep X sv v
section
variable {C:FuncId→List D→Option (List D)} {k B0:Nat} {X:Ctx} {cx:Cx}
theorem zna {T s c b a v}(g:B0≤X.w.heap.size) (m:Mem B0 X) (e:c.up=[]) (h:Run (SV.view false T s) X.μ c a b) (i:Sat C k X.E b.bs b.nv) (j:VRep X s v) :
  b.up=[]∧b.ab=c.ab∧∃ d,a.get X.E=some d∧DVal X.w (fun _=>False) T d v:=by
 obtain ⟨_,_,hf,n,f⟩:=zjd (X:=X) g h i (by rw [e];exact m) (by rw [e];exact j)
 exact ⟨by grind,n,f⟩
theorem za7 {P w t d}(h:P.underlying t=some d):(underlying t).run P w=.ok d w:=run_underlying h w
theorem zDP {P w t}(c:P.underlying t=some .bool) (a b):(Op.equal t (.bool a) (.bool b)).run P w=.ok (a==b) w:=by
 have d:∀ n,(Op.equalIn (n + 1) t (.bool a) (.bool b)).run P w=.ok (a==b) w:=fun n=>by simp [Op.equalIn,za7 c]
 exact d 9999
theorem zzV {P w t e}(a:P.underlying t=some (.slice e)) (A) (n c):(Op.equal t (.slice A n c) (.slice none 0 0)).run P w=.ok A.isNone w:=by
 have b:∀ m,(Op.equalIn (m + 1) t (.slice A n c) (.slice none 0 0)).run P w=.ok A.isNone w:=fun m=>by cases A<;>simp [Op.equalIn,za7 a]
 exact b 9999
theorem DVal.slice {w M e d v}(h:DVal w M (.sl e) d v):(d=.nil∧v=.slice none 0 0)∨∃ l a b,d=.sl l∧v=.slice (some a) l.length b:=by
 unfold DVal at h
 simp [Ty.isAgg] at h
 cases d<;>simp only [DRep] at h
 all_goals grind
theorem zyp {s v}(h:zyg s=true) (hv:VRep X s v):v=.slice none 0 0:=by grind [zyg,VRep]
theorem zzT (ty:TysOk cx) (hB:B0≤X.w.heap.size) (m:Mem B0 X) {o j x y sv s0 s'}(h0:s0.up=[]) (h:Run (zA6 cx o j x y) X.μ s0 sv s') (J:Sat C k X.E s'.bs s'.nv)
  {L Q} (hx:VRep X x L) (hy:VRep X y Q) (ox oy)
  (hagg:∀ {T:Ty} {d d':D},cx.T j=T→T.isAgg=true→T.known=true→cx.P.eqGuardType cx.P.depth j=false→eqOk cx 20 j=true→DVal X.w (fun _=>False) T d L→DVal X.w (fun _=>False) T d' Q →
   (do eqGuard .eql j ox oy L Q;binOp .eql j L Q:Sem Value).run cx.P X.w=.ok (.bool (d.beq d')) X.w∧(do eqGuard .neq j ox oy L Q;binOp .neq j L Q:Sem Value).run cx.P X.w=.ok (.bool (!(d.beq d'))) X.w) :
  zdm cx.P X (do eqGuard o j ox oy L Q;binOp o j L Q) sv s0 s':=by
 unfold zA6 at h
 have S:=zch hx
 have R:=zch hy
 split at h
 ·rename_i k1 a k2 b B F
  rw [B] at S
  rw [F] at R
  obtain ⟨d1,M,V⟩:=VRep.data.1 S
  obtain ⟨d2,K,g2⟩:=VRep.data.1 R
  obtain ⟨n1,i1,j1⟩:=V.int
  obtain ⟨n2,i2,j2⟩:=g2.int
  subst i1 i2 j1 j2
  obtain ⟨_,s1,hg,h2⟩:=Run.bind h
  obtain ⟨O,es⟩:=Run.guard hg
  subst es
  obtain ⟨r,s2,I,s⟩:=Run.bind h2
  obtain ⟨u,z⟩:=Run.pure s
  subst u z
  obtain ⟨⟨u1,U,d,g,f,q,q4⟩,G,H⟩:=Run.op2 I J
  rw [M] at g
  rw [K] at f
  injection g with g
  injection f with f
  subst g f
  refine ⟨G,H,?_⟩
  simp only [Prim.run] at q
  have hgd:=zFV (P:=cx.P) (w:=X.w) (op:=o) (t:=j) (x:=ox) (y:=oy) (k:=k1) (k':=k2) (a:=n1) (b:=n2)
  cases hsh:zjb o with
  | true =>
   have hb:shI o k1 n1 n2=some d:=by
    cases o<;>simp [zjb] at hsh<;>exact q
   obtain ⟨v,hr,hd⟩:=zI0 (P:=cx.P) (w:=X.w) (k':=k2) j hsh hb
   refine ⟨v,by simp_all,VRep.data.2 ⟨d,q4,?_⟩⟩
   have hc:zD3 o=false:=by cases o<;>simp_all [zjb,zD3]
   grind
  | false =>
   rw [hsh] at O
   simp  at O
   subst O
   have hb:binI o k1 n1 n2=some d:=by
    cases o<;>simp [zjb] at hsh<;>simpa only [binD,if_true] using q
   obtain ⟨v,hr,hd⟩:=zHA (P:=cx.P) (w:=X.w) j hsh hb
   simp_all [VRep.data]
 ·rename_i a b B F
  rw [B] at S
  rw [F] at R
  obtain ⟨d1,M,V⟩:=VRep.data.1 S
  obtain ⟨d2,K,g2⟩:=VRep.data.1 R
  obtain ⟨n1,i1,j1⟩:=V.bool
  obtain ⟨n2,i2,j2⟩:=g2.bool
  subst i1 i2 j1 j2
  obtain ⟨_,s1,hg,h2⟩:=Run.bind h
  obtain ⟨O,es⟩:=Run.guard hg
  subst es
  simp  at O
  obtain ⟨hop,hT⟩:=O
  obtain ⟨i,tf⟩:=ty.get (Ty.beq_eq hT) (by simp)
  have hu:cx.P.underlying j=some .bool:=tf.desc
  obtain ⟨r,s2,I,s⟩:=Run.bind h2
  obtain ⟨u,z⟩:=Run.pure s
  subst u z
  obtain ⟨⟨u1,U,d,g,f,q,q4⟩,G,H⟩:=Run.op2 I J
  rw [M] at g
  rw [K] at f
  injection g with g
  injection f with f
  subst g f
  refine ⟨G,H,?_⟩
  have hgd:=zDr (P:=cx.P) (w:=X.w) (op:=o) (t:=j) (x:=ox) (y:=oy) (a:=n1) (b:=n2)
  simp only [Prim.run,binD,binB] at q
  cases o<;>simp  at hop<;>simp  at q<;>subst q
  all_goals simp_all [binOp,zDP,VRep.data,DVal.of_bool]
 ·rename_i a b B F
  rw [B] at S
  rw [F] at R
  obtain ⟨d1,M,V⟩:=VRep.data.1 S
  obtain ⟨d2,K,g2⟩:=VRep.data.1 R
  obtain ⟨n1,i1,j1⟩:=V.str
  obtain ⟨n2,i2,j2⟩:=g2.str
  subst i1 i2 j1 j2
  obtain ⟨r,s2,I,s⟩:=Run.bind h
  obtain ⟨u,z⟩:=Run.pure s
  subst u z
  obtain ⟨⟨u1,U,d,g,f,q,q4⟩,G,H⟩:=Run.op2 I J
  rw [M] at g
  rw [K] at f
  injection g with g
  injection f with f
  subst g f
  refine ⟨G,H,?_⟩
  have hgd:=zFR (P:=cx.P) (w:=X.w) (op:=o) (t:=j) (x:=ox) (y:=oy) (a:=n1) (b:=n2)
  simp only [Prim.run,binD] at q
  obtain ⟨v,hr,hd⟩:=zHB (P:=cx.P) (w:=X.w) j q
  simp_all [VRep.data]
 ·split at h
  ·rename_i hn
   have hvy:=zyp hn R
   subst hvy
   split at h
   ·rename_i e hT
    obtain ⟨i,tf⟩:=ty.get hT (by simp)
    obtain ⟨E,hu,_⟩:=tf.desc
    obtain ⟨a,s1,h1,h2⟩:=Run.bind h
    obtain ⟨v,s2,I,s⟩:=Run.bind h2
    obtain ⟨u1,U,d,M,K⟩:=zna hB m h0 h1 (I.sat (s.sat J)) S
    obtain ⟨⟨d',r,g,f,q⟩,G,H⟩:=Run.op1 I (s.sat J)
    rw [M] at g
    injection g with g
    subst g
    have key:∃ A n c,L=.slice A n c∧r=.bool A.isNone:=by
     rcases K.slice with ⟨B,F⟩|⟨l,a',cap,B,F⟩
     ·subst B;simp [Prim.run] at f;exact ⟨none,0,0,F,f.symm⟩
     ·subst B;simp [Prim.run] at f;exact ⟨some a',l.length,cap,F,f.symm⟩
    obtain ⟨A,n,c,B,F⟩:=key
    subst B F
    have hgd:∀ o,(eqGuard o j ox oy (.slice A n c) (.slice none 0 0)).run cx.P X.w=.ok () X.w:=fun o=>by
     unfold eqGuard
     cases o<;>rfl
    split at s
    ·obtain ⟨u,z⟩:=Run.pure s
     subst u z
     exact ⟨by rw [G,u1,h0],by rw [H,U],.bool A.isNone,by simp [hgd,binOp,zzV hu],VRep.data.2 ⟨_,q,DVal.of_bool _⟩⟩
    ·obtain ⟨v',s3,h5,h6⟩:=Run.bind s
     obtain ⟨u,z⟩:=Run.pure h6
     subst u z
     obtain ⟨⟨d',r',N,p2,p3⟩,p5,p6⟩:=Run.op1 h5 J
     rw [q] at N
     injection N with N
     subst N
     simp only [Prim.run,unD,wB0] at p2
     subst p2
     exact ⟨by rw [p5,G,u1,h0],by rw [p6,H,U],.bool (!A.isNone),by simp [hgd,binOp,zzV hu],VRep.data.2 ⟨_,p3,DVal.of_bool _⟩⟩
    ·exact (Run.fail s).elim
   grind [Run.fail]
  ·obtain ⟨_,s1,hg,h2⟩:=Run.bind h
   obtain ⟨O,es⟩:=Run.guard hg
   subst es
   simp  at O
   obtain ⟨⟨⟨⟨k1,k2⟩,k3⟩,k4⟩,k5⟩:=O
   obtain ⟨a,s1,I,s⟩:=Run.bind h2
   obtain ⟨b,s2,h5,h6⟩:=Run.bind s
   obtain ⟨v,s3,h7,h8⟩:=Run.bind h6
   obtain ⟨u1,U,d1,M,K⟩:=zna hB m h0 I (h5.sat (h7.sat (h8.sat J))) S
   obtain ⟨w1,w2,d2,V,g2⟩:=zna hB m u1 h5 (h7.sat (h8.sat J)) R
   obtain ⟨⟨x1,x2,r,g,f,q,q4⟩,G,H⟩:=Run.op2 h7 (h8.sat J)
   rw [M] at g
   rw [V] at f
   injection g with g
   injection f with f
   subst g f
   simp [Prim.run] at q
   subst q
   have hrun:=hagg rfl k1 k3 k4 k5 K g2
   split at h8
   ·obtain ⟨u,z⟩:=Run.pure h8
    subst u z
    exact ⟨by rw [G,w1,h0],by rw [H,w2,U],_,hrun.1,VRep.data.2 ⟨_,q4,DVal.of_bool _⟩⟩
   ·obtain ⟨v',s4,h9,h10⟩:=Run.bind h8
    obtain ⟨u,z⟩:=Run.pure h10
    subst u z
    obtain ⟨⟨d',r',N,p2,p3⟩,p5,p6⟩:=Run.op1 h9 J
    rw [q4] at N
    injection N with N
    subst N
    simp [Prim.run,unD] at p2
    subst p2
    exact ⟨by rw [p5,G,w1,h0],by rw [p6,H,w2,U],_,hrun.2,VRep.data.2 ⟨_,p3,DVal.of_bool _⟩⟩
   ·exact (Run.fail h8).elim
end
end Go.SX
namespace Go.SX
open Go.RowKit (Below)
theorem zdd {T:Ty}(h:T.known=true):T≠.no:=by grind [Ty.known]
theorem zit:∀ {a}{j:Nat}{T},Ty.knownL a=true→a[j]?=some T→T.known=true
 | [],j,T,_,h=>by grind
 | U::a,0,T,b,h=>by grind [Ty.knownL]
 | U::a,j + 1,T,b,h=>by
  simp [Ty.knownL] at b
  exact zit b.2 h
theorem zql {c}:∀ {a}{n j}{f},ziM c a n=true→a[j]?=some f→f.offset=n + Ty.sizeL ((a.map fun f=>c f.type).take j)
 | [],n,j,f,_,h=>by grind
 | g::a,n,0,f,b,h=>by simp_all [ziM,Ty.sizeL]
 | g::a,n,j + 1,f,b,h=>by
  simp [ziM] at b
  have:=zql b.2 h
  grind [Ty.sizeL]
section
variable {cx:Cx} {w:World} {M:Nat→Prop}
theorem zds {t i}(h:cx.P.info? t=some i):(sizeOf t).run cx.P w=.ok i.size w:=by simp [sizeOf,typeInfo,h]
theorem znu {t T}(h:zwm cx t T):(isAgg t).run cx.P w=.ok T.isAgg w:=by
 cases T<;>simp only [zwm] at h
 ·simp [isAgg,za7 h,Ty.isAgg]
 ·simp [isAgg,za7 h,Ty.isAgg]
 ·simp [isAgg,za7 h,Ty.isAgg]
 ·obtain ⟨E,h,_⟩:=h;simp [isAgg,za7 h,Ty.isAgg]
 ·obtain ⟨fs,h,_⟩:=h;simp [isAgg,za7 h,Ty.isAgg]
 ·obtain ⟨E,h,_⟩:=h;simp [isAgg,za7 h,Ty.isAgg]
theorem zsn {T:Ty}(h:T.isAgg=false):T.size=1:=by
 cases T<;>simp [Ty.isAgg] at h<;>simp [Ty.size]
theorem zgD {t T i}(a:TyFact cx t T i) {cs off d}(h:DRep w M T d ((cs.toList.drop off).take T.size)) :
  ∃ v,(part t cs off).run cx.P w=.ok v w∧DVal w M T d v:=by
 unfold part DVal
 cases b:T.isAgg with
 | true =>
  refine ⟨.agg (cs.extract off (off + i.size)),by simp [znu a.desc,b,zds a.info],?_⟩
  rw [a.size]
  simp_all
 | false =>
  have h1:=zsn b
  cases e:cs.toList.drop off with
  | nil =>
   have:=h.length
   grind
  | cons v l =>
   have c:cs[off]?=some v:=by
    have:=congrArg (fun l=>l[0]?) e
    grind
   refine ⟨v,by simp [znu a.desc,b,c],?_⟩
   grind [DRep.one]
theorem add_add (a:Addr) (m n):(a.add m).add n=a.add (m + n):=by grind [Addr.add]
theorem add_block (a:Addr) (m):(a.add m).block=a.block:=by grind [Addr.add]
end
section
variable {E:List D}
theorem znG {j}:∀ {q}{R}{n}{c}{F},tOff E q R=some n→tyAt q R=some (.st c)→c[j]?=some F→tOff E (q++[.f j]) R=some (n + Ty.sizeL (c.take j))∧tyAt (q++[.f j]) R=some F
 | [],R,n,c,F,h,b,d=>by grind [tyAt,tOff]
 | .f i::q,R,n,c,F,h,b,d=>by
  cases R<;>simp only [tOff,tyAt,reduceCtorEq] at h b
  rename_i l
  simp [tOff,tyAt]
  cases k:l[i]? with
  | none=>grind
  | some U =>
   simp only [k] at h b ⊢
   cases g:tOff E q U with
   | none=>grind
   | some m =>
    obtain ⟨o,p⟩:=znG g b d
    grind
 | .i a::q,R,n,c,F,h,b,d=>by
  cases R<;>simp only [tOff,tyAt,reduceCtorEq] at h b
  rename_i m e
  simp [tOff,tyAt]
  split at h<;>try cases h
  cases g:tOff E q e with
  | none=>grind
  | some m =>
   obtain ⟨o,p⟩:=znG g b d
   grind
theorem zm8 {a p z}(j:a.get E=some (.int p z)) (g:0≤z):∀ {q}{R}{n m}{e},tOff E q R=some n→tyAt q R=some (.arr m e)→tOff E (q++[.i a]) R=some (n + z.toNat * e.size)∧tyAt (q++[.i a]) R=some e
 | [],R,n,m,e,h,c=>by grind [tyAt,tOff]
 | .f i::q,R,n,m,e,h,c=>by
  cases R<;>simp only [tOff,tyAt,reduceCtorEq] at h c
  rename_i l
  simp [tOff,tyAt]
  cases o:l[i]? with
  | none=>grind
  | some U =>
   simp only [o] at h c ⊢
   cases d:tOff E q U with
   | none=>grind
   | some r =>
    obtain ⟨s,t⟩:=zm8 j g d c
    grind
 | .i b::q,R,n,m,e,h,c=>by
  cases R<;>simp only [tOff,tyAt,reduceCtorEq] at h c
  rename_i r k
  simp [tOff,tyAt]
  split at h<;>try cases h
  split at h<;>try cases h
  cases d:tOff E q k with
  | none=>grind
  | some m'' =>
   simp [d] at h
   obtain ⟨s,t⟩:=zm8 j g d c
   grind
end
section
variable {C:FuncId→List D→Option (List D)} {k B0:Nat} {X:Ctx} {cx:Cx}
theorem zy9 {T F j}(h:zto T j=some F):∃ a,T=.st a∧a[j]?=some F:=by
 unfold zto at h
 grind
theorem zwp (e:TysOk cx) {t F j}(h:zto (cx.T t) j=some F) :
  ∃ b i d f g,cx.T t=.st b∧b[j]?=some F∧TyFact cx t (.st b) i∧cx.P.underlying t=some (.struct d)∧d[j]?=some f∧cx.T f.type=F∧f.offset=Ty.sizeL (b.take j)∧TyFact cx f.type F g:=by
 obtain ⟨b,m,c⟩:=zy9 h
 obtain ⟨i,k⟩:=e.get m (by simp)
 obtain ⟨d,hu,n,ho⟩:=k.desc
 have o:=zit k.known c
 rw [n] at c
 simp only [List.getElem?_map] at c
 cases l:d.toList[j]? with
 | none=>grind
 | some f =>
  simp [l] at c
  obtain ⟨g,tf'⟩:=e.get c (zdd o)
  grind [zql]
theorem DVal.field {w M b d e v j F}(h:DVal w M (.st b) d v) (g:b[j]?=some F) (f:Prim.run (.fld j) [d]=some e) :
  ∃ a,v=.agg a∧DRep w M F e ((a.toList.drop (Ty.sizeL (b.take j))).take F.size):=by
 obtain ⟨a,i,c⟩:=h
 cases d<;>simp only [DRep] at c
 exact ⟨a,i,c.part g f⟩
theorem DVal.elem {w M n e d c v j z}(h:DVal w M (.arr n e) d v) (b:Prim.run .get [d,.int j z]=some c) :
  0≤z∧z<n∧∃ a,v=.agg a∧DRep w M e c ((a.toList.drop (z.toNat * e.size)).take e.size):=by
 obtain ⟨a,i,f⟩:=h
 cases d<;>simp only [DRep] at f
 simp only [Prim.run] at b
 split at b
 ·rename_i g
  have hlt:z.toNat<n:=by grind
  exact ⟨g,by omega,a,i,f.2.part b⟩
 grind
mutual
theorem CRep.length:∀ {s:SV}{T:Ty}{b:List Value},s.hasTy T→CRep X s b→b.length=T.size
 | .un n,T,b,c,h=>by grind [SV.hasTy,CRep]
 | .cv v,T,b,c,h=>by grind [SV.hasTy,CRep,Ty.size]
 | .d i a,T,b,c,h=>by subst c;obtain ⟨d,_,h⟩:=h;exact h.length
 | .ag i l,T,b,c,h=>by
  subst c
  cases i<;>simp only [CRep] at h
  exact CRepL.length h
 | .fn f a l,T,b,c,h=>by grind [SV.hasTy,CRep,Ty.size]
 | .tu _,T,b,c,h=>by grind [CRep]
 | .h _ _ _,T,b,c,h=>by grind [SV.hasTy,CRep,Ty.size]
 | .hc _ _ _,T,b,c,h=>by grind [SV.hasTy,CRep,Ty.size]
 | .mr _ _ _,T,b,c,h=>by grind [SV.hasTy,CRep,Ty.size]
 | .z _ _,T,b,c,h=>by grind [SV.hasTy,CRep,Ty.size]
 | .hb _ _ _ _ _,T,b,c,h=>by grind [SV.hasTy,CRep,Ty.size]
 | .hr _ _ _ _,T,b,c,h=>by grind [SV.hasTy,CRep,Ty.size]
 | .p _ _ _ _,T,b,c,h=>by grind [SV.hasTy,CRep,Ty.size]
 | .pm _ _ _ _ _ _,T,b,c,h=>by grind [SV.hasTy,CRep,Ty.size]
 | .pd _ _,T,b,c,h=>by grind [SV.hasTy,CRep,Ty.size]
theorem CRepL.length:∀ {l:List SV}{g:List Ty}{b:List Value},CRepL X l g b→b.length=Ty.sizeL g
 | [],[],b,h=>by grind [CRepL,Ty.sizeL]
 | s::l,T::g,b,h=>by
  obtain ⟨c1,c2,e,c,k,j⟩:=h
  simp [e,Ty.sizeL,CRep.length c k,CRepL.length j]
 | [],_::_,_,h=>by grind [CRepL]
 | _::_,[],_,h=>by grind [CRepL]
end
theorem CRepL.part:∀ {l}{a}{b}{j}{s}{T},CRepL X l a b→l[j]?=some s→a[j]?=some T →
  s.hasTy T∧CRep X s ((b.drop (Ty.sizeL (a.take j))).take T.size)
 | [],_,_,j,_,_,_,d,_=>by grind
 | _::_,[],_,j,_,_,_,_,c=>by grind
 | u::l,U::a,b,0,s,T,h,d,c=>by grind [CRepL,CRep.length,Ty.sizeL]
 | u::l,U::a,b,j + 1,s,T,h,d,c=>by
  obtain ⟨c1,c2,e,g,i,f⟩:=h
  subst e
  have:=CRepL.part f d c
  simpa only [List.take_succ_cons,Ty.sizeL,← (CRep.length g i),zjo] using this
theorem zHD {t T i}(j:TyFact cx t T i) {s}(b:s.hasTy T) {f c}(h:CRep X s ((f.toList.drop c).take T.size)) :
  ∃ v,(part t f c).run cx.P X.w=.ok v X.w∧VRep X s v:=by
 have k:=zdd j.known
 have o:T.isAgg=false→∃ v,(part t f c).run cx.P X.w=.ok v X.w∧(f.toList.drop c).take T.size=[v]:=fun u=>by
  have A:=zsn u
  have hlen:=CRep.length b h
  rw [A]
  cases hc:f.toList.drop c with
  | nil=>grind
  | cons v l =>
   have B:f[c]?=some v:=by
    have:=congrArg (fun l=>l[0]?) hc
    grind
   exact ⟨v,by simp [part,znu j.desc,u,B],by simp⟩
 cases s with
 | d w a =>
  grind [SV.hasTy,CRep,zgD,VRep.data]
 | ag w l =>
  subst b
  cases w<;>simp only [CRep] at h
  refine ⟨.agg (f.extract c (c + i.size)),by simp [part,znu j.desc,Ty.isAgg,zds j.info],?_⟩
  simp only [VRep]
  rw [j.size]
  simp_all
 | un n =>
  cases u:T.isAgg with
  | true=>exact ⟨.agg (f.extract c (c + i.size)),by simp [part,znu j.desc,u,zds j.info],by simp [VRep]⟩
  | false =>
   grind [VRep]
 | tu l=>grind [SV.hasTy]
 | cv v=>exact absurd b k
 | p _ _ _ _=>exact absurd b k
 | pm _ _ _ _ _ _=>exact absurd b k
 | mr _ _ _=>exact absurd b k
 | pd _ _=>exact absurd b k
 | fn _ _ _=>exact absurd b k
 | h e r vw =>
  subst b
  obtain ⟨v,hr,e⟩:=o rfl
  grind [CRep,VRep]
 | hc e r i =>
  subst b
  obtain ⟨v,hr,e⟩:=o rfl
  grind [CRep,VRep]
 | z e a =>
  subst b
  obtain ⟨v,hr,e⟩:=o rfl
  grind [CRep,VRep]
 | hb R e n r q =>
  subst b
  obtain ⟨v,hr,e⟩:=o rfl
  grind [CRep,VRep]
 | hr e r i g =>
  subst b
  obtain ⟨v,hr,e⟩:=o rfl
  grind [CRep,VRep]
theorem zvC (ty:TysOk cx) {t x B j G e}(h:Run (zyI cx t x j) X.μ G B e) (hs:Sat C k X.E e.bs e.nv) {z}(A:VRep X x z) :
  zdm cx.P X (Instr.field t z j) B G e:=by
 obtain ⟨F,s1,h1,n⟩:=Run.bind h
 obtain ⟨K,a⟩:=Run.of h1
 subst a
 obtain ⟨Ts,i,fs,f,i',s,u,tf,hu,hf,hfT,hoff,w⟩:=zwp ty K
 split at n
 ·obtain ⟨_,L,o,l⟩:=Run.bind n
  obtain ⟨p,a⟩:=Run.guard o
  subst a
  have b:=Ty.beq_eq p
  rw [s] at b
  subst b
  obtain ⟨v,s3,I,J⟩:=Run.bind l
  obtain ⟨m,c⟩:=Run.pure J
  subst m c
  obtain ⟨⟨d,d',g,q2,q3⟩,q4,q5⟩:=Run.op1 I hs
  obtain ⟨d0,f1,f2⟩:=VRep.data.1 A
  rw [f1] at g
  injection g with g
  subst g
  obtain ⟨cs,m,c⟩:=f2.field u q2
  obtain ⟨q,hr,r⟩:=zgD w c
  exact ⟨q4,q5,q,by simp_all [Instr.field,za7,asAgg],VRep.data.2 ⟨d',q3,r⟩⟩
 ·obtain ⟨_,L,o,l⟩:=Run.bind n
  obtain ⟨p,a⟩:=Run.guard o
  subst a
  have b:=Ty.beq_eq p
  rw [s] at b
  subst b
  obtain ⟨hl,a⟩:=Run.of l
  subst a
  obtain ⟨cs,m,c⟩:=A
  obtain ⟨hty,H⟩:=CRepL.part c hl u
  obtain ⟨q,hr,r⟩:=zHD w hty H
  exact ⟨rfl,rfl,q,by simp_all [Instr.field,za7,asAgg],r⟩
 grind [Run.fail]
end
end Go.SX
