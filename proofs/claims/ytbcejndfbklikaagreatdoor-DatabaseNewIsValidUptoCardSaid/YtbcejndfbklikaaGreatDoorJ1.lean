/- joined by a program out of 14 texts -/
import Derived.WalkKit
import Derived.Test.YtbcejndfbklikaaGreatDoorProg
import Derived.Below
import Derived.KernelRfl
import Derived.Lib.ItoaNum
import Derived.ChangeArms
import Derived.ChangeShapes
import Derived.WideShapes
import Derived.Test.YtbcejndfbklikaaGreatDoorRows
import Derived.Laws.Cover3
import Derived.Laws.MakeOwn
import Derived.Lib.AppendZeros
set_option linter.unusedVariables false
set_option linter.unusedSimpArgs false
set_option maxRecDepth 20000
namespace Go
theorem Y00:type_of% @List.getElem?_eq_some_iff:=@List.getElem?_eq_some_iff
theorem Y01:type_of% @List.getElem?_eq_getElem:=@List.getElem?_eq_getElem
theorem Y02:type_of% @List.mem_append:=@List.mem_append
theorem Y03:type_of% @List.mem_of_getElem?:=@List.mem_of_getElem?
theorem Y04:type_of% @Nat.lt_of_lt_of_le:=@Nat.lt_of_lt_of_le
theorem Y05:type_of% @List.mem_cons_self:=@List.mem_cons_self
theorem Y06:type_of% @Option.some.injEq:=@Option.some.injEq
theorem Y07:type_of% @Prod.mk.injEq:=@Prod.mk.injEq
theorem Y08:type_of% @List.mem_cons:=@List.mem_cons
theorem Y09:type_of% @Nat.le_refl:=@Nat.le_refl
theorem Y0a:type_of% @IntWalk.i64_in:=@IntWalk.i64_in
theorem Y0b:type_of% @List.getElem?_map:=@List.getElem?_map
theorem Y0c:type_of% @List.mem_cons_of_mem:=@List.mem_cons_of_mem
theorem Y0d:type_of% @List.map_cons:=@List.map_cons
theorem Y0e:type_of% @List.nodup_append:=@List.nodup_append
theorem Y0f:type_of% @List.length_append:=@List.length_append
theorem Y0g:type_of% @List.map_nil:=@List.map_nil
theorem Y0h:type_of% @Option.map_some:=@Option.map_some
theorem Y0i:type_of% @Array.length_toList:=@Array.length_toList
theorem Y0j:type_of% @List.getElem?_append_left:=@List.getElem?_append_left
theorem Y0k:type_of% @List.append_nil:=@List.append_nil
theorem Y0l:type_of% @List.take_of_length_le:=@List.take_of_length_le
theorem Y0m:type_of% @List.mem_map:=@List.mem_map
theorem Y0n:type_of% @List.append_assoc:=@List.append_assoc
theorem Y0o:type_of% @List.eq_nil_of_length_eq_zero:=@List.eq_nil_of_length_eq_zero
theorem Y0p:type_of% @List.getElem_mem:=@List.getElem_mem
theorem Y0q:type_of% @Bool.and_eq_true:=@Bool.and_eq_true
theorem Y0r:type_of% @List.flatMap_cons:=@List.flatMap_cons
theorem Y0s:type_of% @List.cons_append:=@List.cons_append
theorem Y0t:type_of% @Nat.lt_or_ge:=@Nat.lt_or_ge
theorem Y0u:type_of% @Array.getElem?_eq_some_iff:=@Array.getElem?_eq_some_iff
theorem Y0v:type_of% @List.nil_append:=@List.nil_append
theorem Y0w:type_of% @List.mem_flatMap:=@List.mem_flatMap
theorem Y0x:type_of% @Nat.add_mul:=@Nat.add_mul
theorem Y0y:type_of% @Nat.le_trans:=@Nat.le_trans
theorem Y0z:type_of% @List.length_map:=@List.length_map
theorem Y10:type_of% @List.take_succ_eq_append_getElem:=@List.take_succ_eq_append_getElem
theorem Y11:type_of% @List.map_set:=@List.map_set
theorem Y12:type_of% @List.length_take:=@List.length_take
theorem Y13:type_of% @List.getElem?_append_right:=@List.getElem?_append_right
theorem Y14:type_of% @List.drop_eq_getElem_cons:=@List.drop_eq_getElem_cons
theorem Y15:type_of% @List.getElem?_take:=@List.getElem?_take
theorem Y16:type_of% @List.getElem?_drop:=@List.getElem?_drop
theorem Y17:type_of% @List.take_append_drop:=@List.take_append_drop
theorem Y18:type_of% @Array.getD_eq_getD_getElem?:=@Array.getD_eq_getD_getElem?
theorem Y19:type_of% @List.getElem?_set_self:=@List.getElem?_set_self
theorem Y1a:type_of% @List.all_eq_true:=@List.all_eq_true
theorem Y1b:type_of% @List.take_length:=@List.take_length
theorem Y1c:type_of% @List.getElem?_of_mem:=@List.getElem?_of_mem
theorem Y1d:type_of% @List.getElem?_set_ne:=@List.getElem?_set_ne
theorem Y1e:type_of% @List.drop_append_of_le_length:=@List.drop_append_of_le_length
theorem Y1f:type_of% @List.take_append_of_le_length:=@List.take_append_of_le_length
theorem Y1g:type_of% @List.getElem_of_mem:=@List.getElem_of_mem
theorem Y1h:type_of% @Array.getElem?_eq_getElem:=@Array.getElem?_eq_getElem
theorem Y1i:type_of% @List.getElem?_append:=@List.getElem?_append
theorem Y1j:type_of% @Nat.mul_le_mul_right:=@Nat.mul_le_mul_right
theorem Y1k:type_of% @Bool.false_eq_true:=@Bool.false_eq_true
theorem Y1l:type_of% @List.length_replicate:=@List.length_replicate
theorem Y1m:type_of% @List.mem_append_right:=@List.mem_append_right
theorem Y1n:type_of% @List.mem_iff_getElem?:=@List.mem_iff_getElem?
theorem Y1o:type_of% @Bool.or_eq_true:=@Bool.or_eq_true
theorem Y1p:type_of% @List.drop_drop:=@List.drop_drop
theorem Y1q:type_of% @Nat.add_zero:=@Nat.add_zero
theorem Y1r:type_of% @Array.getElem?_eq_none:=@Array.getElem?_eq_none
theorem Y1s:type_of% @Array.getElem?_append_right:=@Array.getElem?_append_right
theorem Y1t:type_of% @List.getElem?_eq_none:=@List.getElem?_eq_none
theorem Y1u:type_of% @List.length_drop:=@List.length_drop
theorem Y1v:type_of% @Bool.not_true:=@Bool.not_true
theorem Y1w:type_of% @Array.getElem?_append_left:=@Array.getElem?_append_left
theorem Y1x:type_of% @List.not_mem_nil:=@List.not_mem_nil
theorem Y1y:type_of% @Nat.mul_le_mul:=@Nat.mul_le_mul
theorem Y1z:type_of% @List.nodup_cons:=@List.nodup_cons
theorem Y20:type_of% @List.mem_singleton:=@List.mem_singleton
theorem Y21:type_of% @List.mem_append_left:=@List.mem_append_left
theorem Y22:type_of% @List.length_cons:=@List.length_cons
theorem Y23:type_of% @List.drop_eq_nil_of_le:=@List.drop_eq_nil_of_le
theorem Y24:type_of% @List.pairwise_iff_getElem:=@List.pairwise_iff_getElem
theorem Y25:type_of% @Nat.zero_add:=@Nat.zero_add
theorem Y26:type_of% @List.flatMap_nil:=@List.flatMap_nil
theorem Y27:type_of% @List.drop_zero:=@List.drop_zero
theorem Y28:type_of% @List.map_map:=@List.map_map
theorem Y29:type_of% @Bool.not_false:=@Bool.not_false
theorem Y2a:type_of% @List.flatten_append:=@List.flatten_append
theorem Y2b:type_of% @List.length_set:=@List.length_set
theorem Y2c:type_of% @List.map_append:=@List.map_append
theorem Y2d:type_of% @List.map_drop:=@List.map_drop
theorem Y2e:type_of% @List.map_replicate:=@List.map_replicate
theorem Y2f:type_of% @List.mem_or_eq_of_mem_set:=@List.mem_or_eq_of_mem_set
theorem Y2g:type_of% @List.getElem?_take_of_lt:=@List.getElem?_take_of_lt
theorem Y2h:type_of% @List.take_append_getElem:=@List.take_append_getElem
theorem Y2i:type_of% @List.replicate_succ:=@List.replicate_succ
theorem Y2j:type_of% @List.flatMap_eq_nil_iff:=@List.flatMap_eq_nil_iff
theorem Y2k:type_of% @List.nodup_nil:=@List.nodup_nil
theorem Y2l:type_of% @Nat.eq_zero_or_pos:=@Nat.eq_zero_or_pos
theorem Y2m:type_of% @Array.ext_getElem?:=@Array.ext_getElem?
theorem Y2n:type_of% @List.getElem?_toArray:=@List.getElem?_toArray
theorem Y2o:type_of% @List.set_append_right:=@List.set_append_right
theorem Y2p:type_of% @List.size_toArray:=@List.size_toArray
theorem Y2q:type_of% @List.flatten_cons:=@List.flatten_cons
theorem Y2r:type_of% @List.ext_getElem?:=@List.ext_getElem?
theorem Y2s:type_of% @List.getElem?_set:=@List.getElem?_set
theorem Y2t:type_of% @List.mem_of_mem_take:=@List.mem_of_mem_take
theorem Y2u:type_of% @List.take_left:=@List.take_left
theorem Y2v:type_of% @List.drop_left:=@List.drop_left
theorem Y2w:type_of% @List.length_pos_iff:=@List.length_pos_iff
theorem Y2x:type_of% @Nat.one_mul:=@Nat.one_mul
theorem Y2y:type_of% @List.map_congr_left:=@List.map_congr_left
theorem Y2z:type_of% @List.take_succ_cons:=@List.take_succ_cons
theorem Y30:type_of% @List.map_take:=@List.map_take
theorem Y31:type_of% @Nat.le_of_lt:=@Nat.le_of_lt
end Go
namespace Go.Am
section
open Go
abbrev LIM:Nat:=2097152
inductive D where
 | int (k:IntKind) (n:Int)
 | bool (b:Bool)
 | str (s:ByteArray)
 | sl (xs:List (List D))
 | raw (v:Value)
 deriving Inhabited
abbrev Lab:=Nat × Nat
abbrev CM:=Nat->Nat->Option Value
inductive Cap where
 | lab (l:Lab)
 | rp (cs:List D)
inductive C where
 | d (x:D)
 | own (l:Lab) (xs:List (List D))
 | nil
 | ptr (l:Lab) (off:Nat)
 | rp (cs:List D)
 | fn (f:FuncId) (caps:List Cap)
 | mrow (l:Lab) (off n cap:Nat)
 | z
 | any
 deriving Inhabited
inductive V where
 | top
 | undef
 | one (c:C)
 | agg (cs:List C)
 | tup (vs:List V)
 deriving Inhabited
structure Env where
 n:Nat
 get:Nat->V
structure HS where
 box:Lab->Option (List C)
 arr:Lab->Option (Nat × Nat)
 ep:Nat
def HS.init:HS:={ box:=fun _=>none,arr:=fun _=>none,ep:=0 }
def Env.put (e:Env) (dst:Option Nat) (v:V):Env:=
 match dst with
 | none=>e
 | some d=>{ e with get:=fun k=>if k=d then v else e.get k }
def HS.setBox (h:HS) (l:Lab) (cs:List C):HS:={ h with box:=fun k=>if k=l then some cs else h.box k }
def HS.setArr (h:HS) (l:Lab) (x:Option (Nat × Nat)):HS:={ h with arr:=fun k=>if k=l then x else h.arr k }
def HS.next (h:HS):HS:={ h with ep:=h.ep+1 }
def constC (v:Value):C:=
 match v with
 | .int k n=>.d (.int k n)
 | .bool b=>.d (.bool b)
 | .string s=>.d (.str s)
 | .slice none 0 0=>.nil
 | v=>.d (.raw v)
def constV (v:Value):V:=
 match v with
 | .agg cs=>if cs.all Value.oneCell' then .agg (cs.toList.map constC) else .top
 | .tuple _=>.top
 | v=>.one (constC v)
def Env.ev (e:Env):Operand->V
 | .tmp t=>e.get t
 | .const v=>constV v
 | .global _=>.top
 | .func f=>.one (.fn f [])
def V.cells:V->List C
 | .one c=>[c]
 | .agg cs=>cs
 | _=>[]
def C.toD:C->Option D
 | .d x=>some x
 | .own _ xs=>some (.sl xs)
 | .nil=>some (.sl [])
 | .z=>some (.sl [])
 | _=>none
def C.list?:C->Option (List (List D))
 | .d (.sl xs)=>some xs
 | .own _ xs=>some xs
 | .nil=>some []
 | .z=>some []
 | _=>none
def toDs:List C->Option (List D)
 | []=>some []
 | c::cs=>match c.toD,toDs cs with
   | some x,some xs=>some (x::xs)
   | _,_=>none
def aggD:TypeDesc->Bool
 | .struct _=>true
 | .array _ _=>true
 | _=>false
def ldT (P:Program) (t:TypeId):Option (Bool × Nat):=
 match P.underlying t,P.info? t with
 | some d,some i=>some (aggD d,i.size)
 | _,_=>none
def fdT (P:Program) (t:TypeId) (f:Nat):Option (Nat × Bool × Nat):=
 match P.underlying t with
 | some (.struct fs)=>match fs[f]? with
   | some x=>match ldT P x.type with
     | some (a,n)=>if n=0 then none else some (x.offset,a,n)
     | none=>none
   | none=>none
 | _=>none
def elT (P:Program) (t:TypeId):Option (TypeId × Nat × Nat):=
 match P.underlying t with
 | some (.slice e)=>match P.info? e with
   | some i=>match i.zero with
     | some z=>if z.cells.size=i.size then some (e,i.size,i.bytes) else none
     | none=>none
   | none=>none
 | _=>none
def stT (P:Program) (t:TypeId):Option (List (Nat × Nat)):=
 match P.underlying t with
 | some (.struct fields)=>fields.toList.mapM (fun f=>(P.info? f.type).map fun i=>(f.offset,i.size))
 | _=>none
def zeT (P:Program) (t:TypeId):Option (List C):=
 match P.info? t with
 | some i=>match i.zero with
   | some z=>if z.cells.all Value.oneCell' then some (z.cells.toList.map constC) else none
   | none=>none
 | none=>none
def arT (P:Program) (t:TypeId):Option (Nat × Nat):=
 match P.underlying t with
 | some (.array len el)=>match P.info? el with
   | some i=>some (len,i.size)
   | none=>none
 | _=>none
def slT (P:Program) (t:TypeId):Bool:=
 match P.underlying t with
 | some (.slice _)=>true
 | _=>false
def isStr (P:Program) (t:TypeId):Bool:=
 match P.underlying t with
 | some .string=>true
 | _=>false
def mkV (a:Bool) (cs:List C):Option V:=
 if a then some (.agg cs) else
 match cs with
 | [c]=>some (.one c)
 | _=>none
def takeN (n:Nat) (cs:List C):Option (List C):=if n<=cs.length then some (cs.take n) else none
def dint (k:IntKind) (n:Int):V:=.one (.d (.int k n))
def dbool (b:Bool):V:=.one (.d (.bool b))
def dstr (s:ByteArray):V:=.one (.d (.str s))
def intBin (op:BinOp) (k:IntKind) (a b:Int):Option V:=
 match op with
 | .add=>some (dint k (k.wrap (a+b)))
 | .sub=>some (dint k (k.wrap (a - b)))
 | .mul=>some (dint k (k.wrap (a * b)))
 | .rem=>if b=0 then none else some (dint k (a.tmod b))
 | .quo=>if b=0 then none else some (dint k (k.wrap (a.tdiv b)))
 | .eql=>some (dbool (a == b))
 | .neq=>some (dbool (a != b))
 | .lss=>some (dbool (decide (a < b)))
 | .leq=>some (dbool (decide (a<=b)))
 | .gtr=>some (dbool (decide (a > b)))
 | .geq=>some (dbool (decide (a≥b)))
 | _=>none
def strEq (a b:ByteArray):Bool:=a.toList == b.toList
def Z6x (a b:ByteArray):Bool:=Op.bytesLess a.toList b.toList
def strBin (op:BinOp) (a b:ByteArray):Option V:=
 match op with
 | .add=>if a.size+b.size<=9223372036854775807 then some (dstr (a++b)) else none
 | .eql=>some (dbool (strEq a b))
 | .neq=>some (dbool !(strEq a b))
 | .lss=>some (dbool (Z6x a b))
 | .leq=>some (dbool (Z6x a b || strEq a b))
 | .gtr=>some (dbool !(Z6x a b || strEq a b))
 | .geq=>some (dbool !(Z6x a b))
 | _=>none
def Zaj (P:Program) (t:TypeId):Bool:=
 match P.underlying t with
 | some .bool=>true
 | _=>false
def binV (bt:Bool) (op:BinOp) (x y:V):Option V:=
 match x,y with
 | .one (.d (.int k a)),.one (.d (.int k' b))=>if k=k' then intBin op k a b else none
 | .one (.d (.str a)),.one (.d (.str b))=>strBin op a b
 | .one (.d (.bool a)),.one (.d (.bool b))=>if bt=true then (match op with
   | .eql=>some (dbool (a == b))
   | .neq=>some (dbool (a != b))
   | _=>none) else none
 | _,_=>none
def readAt (h:HS) (c:C) (n:Nat):Option (List C):=
 match c with
 | .ptr l off=>match h.box l with
   | some cs=>takeN n (cs.drop off)
   | none=>none
 | .rp cs=>takeN n (cs.map C.d)
 | _=>none
def boundV (e:Env):Option Operand->Option (Option Nat)
 | none=>some none
 | some x=>match e.ev x with
   | .one (.d (.int _ k))=>if 0<=k then some (some k.toNat) else none
   | _=>none
def sliceC (n:Nat) (c:C) (lo hi mx:Option Nat):Option C:=
 match c with
 | .mrow l off k cap=>if (lo.getD 0<=hi.getD k/\hi.getD k<=mx.getD cap)/\mx.getD cap<=cap/\(mx.isSome=true->hi.isSome=true) then (if lo.getD 0 < mx.getD cap then some (.mrow l (off+lo.getD 0 * n) (hi.getD k - lo.getD 0) (mx.getD cap - lo.getD 0)) else some .z) else none
 | .nil=>if lo.getD 0=0/\hi.getD 0=0/\mx.getD 0=0/\(mx.isSome=true->hi.isSome=true) then some .nil else none
 | .z=>if lo.getD 0=0/\hi.getD 0=0/\mx.getD 0=0/\(mx.isSome=true->hi.isSome=true) then some .z else none
 | c=>match c.list? with
   | some xs=>if mx=some 0 then (if lo.getD 0=0/\hi=some 0 then some .z else none) else
     if ((lo.getD 0<=hi.getD xs.length/\hi.getD xs.length<=xs.length)/\(hi.getD xs.length<=mx.getD xs.length/\mx.getD xs.length<=xs.length)/\(mx.isSome=true->hi.isSome=true))/\∀ x ∈ xs,x.length=n then some (.d (.sl ((xs.take (hi.getD xs.length)).drop (lo.getD 0)))) else none
   | none=>none
def Z0x (h:HS) (n:Nat) (c:C):Option (List C):=
 match c with
 | .mrow l off k _=>match h.box l with
   | some cs=>takeN (k * n) (cs.drop off)
   | none=>none
 | c=>match c.list? with
   | some xs=>if ∀ x ∈ xs,x.length=n then some (xs.flatten.map C.d) else none
   | none=>none
def appHdr (h:HS) (n:Nat):C->Option (Nat × Nat × List C × Option (Lab × Nat))
 | .nil=>some (0,0,[],none)
 | .z=>some (0,0,[],none)
 | .mrow l off k cap=>match Z0x h n (.mrow l off k cap) with
   | some cs=>some (k,cap,cs,some (l,off))
   | none=>none
 | _=>none
def cellsV (e:Env) (n:Nat):List (Nat × Operand)->Nat->Option (List C)
 | [],_=>some []
 | (i,x)::r,k=>if i=k/\(e.ev x).cells.length=n then
   match cellsV e n r (k+1) with
   | some cs=>some ((e.ev x).cells++cs)
   | none=>none
  else none
def cLen:C->Option Nat
 | .mrow _ _ k _=>some k
 | c=>match c.list? with
   | some xs=>some xs.length
   | none=>none
def eff (P:Program) (o:Op) (e:Env) (h:HS):Option V:=
 match o with
 | .move x=>some (e.ev x)
 | .assign x=>some (e.ev x)
 | .pick c a b=>match e.ev c with
   | .one (.d (.bool t))=>some (if t then e.ev a else e.ev b)
   | _=>none
 | .binOp op t x y _=>binV (Zaj P t) op (e.ev x) (e.ev y)
 | .unOp op _ x=>match op,e.ev x with
   | .not,.one (.d (.bool b))=>some (dbool !b)
   | _,_=>none
 | .fieldAddr t x f=>match fdT P t f with
   | some (off,_,_)=>match e.ev x with
     | .one (.ptr l o)=>some (.one (.ptr l (o+off)))
     | .one (.rp cs)=>if off < cs.length then some (.one (.rp (cs.drop off))) else none
     | _=>none
   | none=>none
 | .field t x f=>match fdT P t f with
   | some (off,a,n)=>match e.ev x with
     | .agg cs=>match takeN n (cs.drop off) with
       | some l=>mkV a l
       | none=>none
     | _=>none
   | none=>none
 | .load t x=>match ldT P t with
   | some (a,n)=>match e.ev x with
     | .one c=>match readAt h c n with
       | some l=>mkV a l
       | none=>none
     | _=>none
   | none=>none
 | .indexAddr t x i=>match elT P t with
   | some (_,n,_)=>match e.ev x,e.ev i with
     | .one (.mrow l off m _),.one (.d (.int _ k))=>if 0<=k/\k.toNat < m/\0 < n then some (.one (.ptr l (off+k.toNat * n))) else none
     | .one c,.one (.d (.int _ k))=>match c.list? with
       | some xs=>if 0<=k then match xs[k.toNat]? with
         | some y=>if y.length=n/\0 < n then some (.one (.rp y)) else none
         | none=>none
        else none
       | none=>none
     | _,_=>none
   | none=>match arT P t with
     | some (len,n)=>match e.ev x,e.ev i with
       | .one (.ptr l off),.one (.d (.int _ k))=>if 0<=k/\k < len then some (.one (.ptr l (off+k.toNat * n))) else none
       | _,_=>none
     | none=>none
 | .index t x i=>if isStr P t then match e.ev x,e.ev i with
   | .one (.d (.str s)),.one (.d (.int _ k))=>if 0<=k then match s[k.toNat]? with
     | some b=>some (dint .u8 b.toNat)
     | none=>none
    else none
   | _,_=>none
  else none
 | .slice t x lo hi mx=>match elT P t with
   | some (_,n,_)=>match e.ev x,boundV e lo,boundV e hi,boundV e mx with
     | .one c,some lo,some hi,some mx=>(sliceC n c lo hi mx).map V.one
     | _,_,_,_=>none
   | none=>if isStr P t then match lo,hi,mx with
     | none,some y,none=>match e.ev x,e.ev y with
       | .one (.d (.str s)),.one (.d (.int _ k))=>if 0<=k/\k<=s.size then some (dstr (s.extract 0 k.toNat)) else none
       | _,_=>none
     | _,_,_=>none
     else none
 | .extract x i=>match e.ev x with
   | .tup vs=>vs[i]?
   | _=>none
 | .nilCheck x=>match e.ev x with
   | .one (.ptr l off)=>some (.one (.ptr l off))
   | .one (.rp cs)=>some (.one (.rp cs))
   | _=>none
 | .convert s t x=>match e.ev x with
   | .one (.d (.int _ n))=>match P.underlying s,P.underlying t with
     | some _,some (.int k)=>some (dint k (k.wrap n))
     | _,_=>none
   | _=>none
 | .makeFunc (.func f) first caps=>if first.isEmpty then
   match caps.toList.mapM (fun x=>match e.ev x with | .one (.ptr l 0)=>some (Cap.lab l) | .one (.rp cs)=>some (Cap.rp cs) | _=>none) with
   | some l=>some (.one (.fn f l))
   | none=>none
  else none
 | .call c=>match c.callee,c.args.toList with
   | .builtin .max,[x,y]=>match e.ev x,e.ev y with
     | .one (.d (.int k a)),.one (.d (.int _ b))=>some (dint k (if b > a then b else a))
     | _,_=>none
   | .builtin .min,[x,y]=>match e.ev x,e.ev y with
     | .one (.d (.int k a)),.one (.d (.int _ b))=>some (dint k (if b < a then b else a))
     | _,_=>none
   | _,_=>none
 | _=>none
def Z01 (cs:List C) (o:Nat) (vs:List C):List C:=cs.take o++vs++cs.drop (o+vs.length)
def fillV (pl:List (Nat × Nat)) (e:Env):List (Nat × Operand)->List C->Option (List C)
 | [],cs=>some cs
 | (f,x)::r,cs=>match pl[f]? with
   | some (off,n)=>if (e.ev x).cells.length=n/\0 < n/\off+n<=cs.length then fillV pl e r (Z01 cs off (e.ev x).cells) else none
   | none=>none
def elemsV (e:Env) (n:Nat):List (Nat × Operand)->Nat->Option (List (List D))
 | [],_=>some []
 | (i,x)::r,k=>if i=k/\(e.ev x).cells.length=n then
   match toDs (e.ev x).cells,elemsV e n r (k+1) with
   | some d,some ds=>some (d::ds)
   | _,_=>none
  else none
def canApp (h:HS) (es:Nat):C->Bool
 | .nil=>true
 | .own l xs=>h.arr l == some (xs.length,es)
 | _=>false
def C.useUp (h:HS):C->HS
 | .own l _=>h.setArr l none
 | _=>h
inductive A where
 | d (x:D)
 | rp (cs:List D)
 | fn (f:FuncId) (caps:List (List D))
inductive AV where
 | one (a:A)
 | agg (ds:List D)
def capA (h:HS):Cap->Option (List D)
 | .lab l=>match h.box l with
   | some cs=>toDs cs
   | none=>none
 | .rp cs=>some cs
def capsA (h:HS):List Cap->Option (List (List D))
 | []=>some []
 | c::r=>match capA h c,capsA h r with
   | some x,some xs=>some (x::xs)
   | _,_=>none
def C.toA (h:HS):C->Option A
 | .d x=>some (.d x)
 | .own _ xs=>some (.d (.sl xs))
 | .nil=>some (.d (.sl []))
 | .z=>some (.d (.sl []))
 | .mrow _ _ _ _=>none
 | .any=>none
 | .ptr l 0=>match h.box l with
   | some cs=>(toDs cs).map A.rp
   | none=>none
 | .ptr _ _=>none
 | .rp cs=>some (.rp cs)
 | .fn f caps=>(capsA h caps).map (A.fn f)
def V.toA (h:HS):V->Option AV
 | .one c=>(c.toA h).map AV.one
 | .agg cs=>(toDs cs).map AV.agg
 | _=>none
def toAs (h:HS):List V->Option (List AV)
 | []=>some []
 | v::vs=>match v.toA h,toAs h vs with
   | some x,some xs=>some (x::xs)
   | _,_=>none
inductive RC where
 | d (x:D)
 | fresh (j es:Nat) (xs:List (List D))
inductive RV where
 | one (c:RC)
 | agg (cs:List RC)
 | tup (vs:List RV)
def RC.toC (ep dst:Nat):RC->C
 | .d x=>.d x
 | .fresh j _ xs=>.own (ep,16 * dst+j+1) xs
def RV1.toV (ep dst:Nat):RV->V
 | .one c=>.one (c.toC ep dst)
 | .agg cs=>.agg (cs.map (RC.toC ep dst))
 | .tup _=>.top
def RV.toV (ep dst:Nat):RV->V
 | .tup vs=>.tup (vs.map (RV1.toV ep dst))
 | v=>RV1.toV ep dst v
def RC.fr:RC->List (Nat × Nat × Nat)
 | .d _=>[]
 | .fresh j es xs=>[(j,es,xs.length)]
def RV1.fr:RV->List (Nat × Nat × Nat)
 | .one c=>c.fr
 | .agg cs=>cs.flatMap RC.fr
 | .tup _=>[]
def RV.fr:RV->List (Nat × Nat × Nat)
 | .tup vs=>vs.flatMap RV1.fr
 | v=>RV1.fr v
def HS.addFr (h:HS) (dst:Nat):List (Nat × Nat × Nat)->HS
 | []=>h
 | (j,es,n)::r=>(h.setArr (h.ep,16 * dst+j+1) (some (n,es))).addFr dst r
def capsOf:List (List D)->List AV:=List.map fun cs=>AV.one (.rp cs)
end
section
open Go
open Go.RowKit (Below)
def GOK (w:World):Prop:=6<=w.heap.size/\(∃ T l,w.heap[1]? = some (.cells (Lib.pow10Tab.map fun z=>Value.int .u64 z).toArray T l))/\(∃ te pe,w.cell? ⟨2,0,none⟩=some (.iface te pe))/\(∃ te pe,w.cell? ⟨3,0,none⟩=some (.iface te pe))/\(∃ m,w.cell? ⟨0,0,none⟩=some (.int .i64 m))
theorem GOK.below {w w':World} (h:GOK w) (hb:Below w.heap.size w w'):GOK w':=⟨Y0y h.1 hb.size,(by obtain⟨T,l,q⟩:=h.2.1;exact⟨T,l,(hb.block _ (by have:=h.1;omega)).trans q⟩),(by obtain⟨te,pe,q⟩:=h.2.2.1;exact⟨te,pe,(hb.cell (by have:=h.1;show 2 < _;omega)).trans q⟩),(by obtain⟨te,pe,q⟩:=h.2.2.2.1;exact⟨te,pe,(hb.cell (by have:=h.1;show 3 < _;omega)).trans q⟩),(by obtain⟨m,q⟩:=h.2.2.2.2;exact⟨m,(hb.cell (by have:=h.1;show 0 < _;omega)).trans q⟩)⟩
inductive RepD (m:CM):D->Value->Prop
 | int (k:IntKind) (n:Int):RepD m (.int k n) (.int k n)
 | bool (b:Bool):RepD m (.bool b) (.bool b)
 | str (s:ByteArray):RepD m (.str s) (.string s)
 | raw (v:Value) (h:v.oneCell'=true):RepD m (.raw v) v
 | sl (xs:List (List D)) (a:Option Addr) (cap es b off:Nat) (f:Nat->Nat->Value)
   (hl:xs.length<=LIM) (hc:xs.length<=cap) (hes:∀ x ∈ xs,x.length=es) (ha:xs≠[]->a=some ⟨b,off,none⟩)
   (hcell:∀ (i:Nat) x,xs[i]? = some x->∀ (j:Nat) c,x[j]? = some c->m b (off+(i * es+j))=some (f i j))
   (hrep:∀ (i:Nat) x,xs[i]? = some x->∀ (j:Nat) c,x[j]? = some c->RepD m c (f i j)):RepD m (.sl xs) (.slice a xs.length cap)
structure Mem where
 cell:CM
 tmp:CM
 loc:Lab->Option (Option Nat × Nat)
def Cells (m:CM) (w:World):Prop:=∀ b o v,m b o=some v->w.cell? ⟨b,o,none⟩=some v
def Sub (m m':CM):Prop:=∀ b o v,m b o=some v->m' b o=some v
def RepP (m t:CM) (cs:List D) (v:Value):Prop:=
 ∃ b off,v=.pointer (some ⟨b,off,none⟩)/\∀ (j:Nat) c,cs[j]? = some c->∃ u,(m b (off+j)=some u\/t b (off+j)=some u)/\RepD m c u
def hdr (g:Option Nat) (n cap:Nat):Value:=.slice (g.map fun b=>⟨b,0,none⟩) n cap
def RepCap (μ:Mem):Cap->Value->Prop
 | .lab l,v=>∃ b n,μ.loc l=some (some b,n)/\v=.pointer (some ⟨b,0,none⟩)
 | .rp cs,v=>RepP μ.cell μ.tmp cs v
def RepC (μ:Mem):C->Value->Prop
 | .d x,v=>RepD μ.cell x v
 | .own l xs,v=>RepD μ.cell (.sl xs) v/\∃ g cap,μ.loc l=some (g,cap)/\v=hdr g xs.length cap
 | .nil,v=>v=.slice none 0 0
 | .ptr l off,v=>∃ b n,μ.loc l=some (some b,n)/\v=.pointer (some ⟨b,off,none⟩)
 | .rp cs,v=>RepP μ.cell μ.tmp cs v
 | .mrow l off n cap,v=>∃ b k,μ.loc l=some (some b,k)/\v=.slice (some ⟨b,off,none⟩) n cap/\n<=cap
 | .z,v=>∃ a,v=.slice a 0 0
 | .any,v=>v.oneCell'=true
 | .fn f caps,v=>∃ vs:Array Value,v=.func (.func f) #[] vs/\vs.size=caps.length/\∀ (i:Nat) c,caps[i]? = some c->∃ u,vs[i]? = some u/\RepCap μ c u
def RepCs (μ:Mem) (cs:List C) (vs:Array Value):Prop:=vs.size=cs.length/\∀ (i:Nat) c,cs[i]? = some c->∃ u,vs[i]? = some u/\RepC μ c u
def RepV1 (μ:Mem):V->Value->Prop
 | .top,_=>True
 | .undef,v=>v=undef
 | .one c,v=>RepC μ c v
 | .agg cs,v=>∃ vs:Array Value,v=.agg vs/\RepCs μ cs vs
 | .tup _,_=>False
def RepV (μ:Mem):V->Value->Prop
 | .tup xs,v=>∃ vs:Array Value,v=.tuple vs/\vs.size=xs.length/\∀ (i:Nat) x,xs[i]? = some x->∃ u,vs[i]? = some u/\RepV1 μ x u
 | x,v=>RepV1 μ x v
def EnvRel (μ:Mem) (e:Env) (a:Act):Prop:=a.defers=[]/\a.tmps.size=e.n/\∀ k,RepV μ (e.get k) (a.tmps.getD k undef)
def RowOK (m:CM) (w:World) (base:Nat) (gc:Option Nat × Nat) (es n:Nat):Prop:=
 (gc.1=none->gc.2=0/\n=0)/\∀ g,gc.1=some g->base<=g/\∃ T cur,w.heap[g]? = some (.cells cur T (0,0))/\cur.size=gc.2 * es/\n<=gc.2/\gc.2<=maxLen/\∀ o,n * es<=o->m g o=none
structure Ctx where
 w0:World
 m0:CM
 t:CM
 glob:GOK w0
def HS.live (h:HS) (l:Lab):Prop:=h.box l≠none\/h.arr l≠none
structure Inv (Γ:Ctx) (h:HS) (μ:Mem) (w:World):Prop where
 cell:Cells μ.cell w
 tmp:μ.tmp=Γ.t
 tcell:Cells Γ.t w
 told:∀ b o v,Γ.t b o=some v->b < Γ.w0.heap.size
 ext:Sub Γ.m0 μ.cell
 old:∀ b o v,b < Γ.w0.heap.size->μ.cell b o=some v->Γ.m0 b o=some v
 below:Below Γ.w0.heap.size Γ.w0 w
 box:∀ l cs,h.box l=some cs->∃ b n T conc,μ.loc l=some (some b,n)/\Γ.w0.heap.size<=b/\w.heap[b]? = some (.cells conc T (0,0))/\RepCs μ cs conc/\∀ o,μ.cell b o=none
 arr:∀ l es n,h.arr l=some (n,es)->∃ gc,μ.loc l=some gc/\RowOK μ.cell w Γ.w0.heap.size gc es n
 inj:∀ l l' b n n',h.live l->h.live l'->μ.loc l=some (some b,n)->μ.loc l'=some (some b,n')->l=l'
 lt:∀ l,μ.loc l≠none->l.1 < h.ep
 both:∀ l,h.box l≠none->h.arr l≠none->False
theorem Inv.glob {Γ:Ctx} {h:HS} {μ:Mem} {w:World} (hI:Inv Γ h μ w):GOK w:=Γ.glob.below hI.below
structure Mem.Le (μ μ':Mem):Prop where
 cell:Sub μ.cell μ'.cell
 tmp:μ'.tmp=μ.tmp
 loc:∀ l x,μ.loc l=some x->μ'.loc l=some x
def SWP (P:Program) (c:Code) (Q:Exit->Env->HS->Prop) (e:Env) (h:HS):Prop:=
 ∀ (Γ:Ctx) (a:Act) (w:World) (μ:Mem),Inv Γ h μ w->EnvRel μ e a ->
   c.wp P (fun x a' w'=>∃ e' h' μ',Q x e' h'/\Inv Γ h' μ' w'/\EnvRel μ' e' a'/\Mem.Le μ μ') a w
def RepA (m t:CM):A->Value->Prop
 | .d x,v=>RepD m x v
 | .rp cs,v=>RepP m t cs v
 | .fn f caps,v=>∃ vs:Array Value,v=.func (.func f) #[] vs/\vs.size=caps.length/\∀ (i:Nat) c,caps[i]? = some c->∃ u,vs[i]? = some u/\RepP m t c u
def RepDs (m:CM) (ds:List D) (vs:Array Value):Prop:=vs.size=ds.length/\∀ (i:Nat) x,ds[i]? = some x->∃ u,vs[i]? = some u/\RepD m x u
def RepAV (m t:CM):AV->Value->Prop
 | .one a,v=>RepA m t a v
 | .agg ds,v=>∃ vs:Array Value,v=.agg vs/\RepDs m ds vs
def Zc6 (m t:CM) (ars:List AV) (vals:Array Value):Prop:=vals.size=ars.length/\∀ (i:Nat) a,ars[i]? = some a->∃ u,vals[i]? = some u/\RepAV m t a u
def RepRC (m:CM) (blk:Nat->Option Nat × Nat):RC->Value->Prop
 | .d x,v=>RepD m x v
 | .fresh j _ xs,v=>RepD m (.sl xs) v/\v=hdr (blk j).1 xs.length (blk j).2
def RepRV1 (m:CM) (blk:Nat->Option Nat × Nat):RV->Value->Prop
 | .one c,v=>RepRC m blk c v
 | .agg cs,v=>∃ vs:Array Value,v=.agg vs/\vs.size=cs.length/\∀ (i:Nat) c,cs[i]? = some c->∃ u,vs[i]? = some u/\RepRC m blk c u
 | .tup _,_=>False
def RepRV (m:CM) (blk:Nat->Option Nat × Nat):RV->Value->Prop
 | .tup xs,v=>∃ vs:Array Value,v=.tuple vs/\vs.size=xs.length/\∀ (i:Nat) x,xs[i]? = some x->∃ u,vs[i]? = some u/\RepRV1 m blk x u
 | x,v=>RepRV1 m blk x v
def Zc7 (m:CM) (w w':World) (blk:Nat->Option Nat × Nat) (fr:List (Nat × Nat × Nat)):Prop:=
 (∀ x ∈ fr,RowOK m w' w.heap.size (blk x.1) x.2.1 x.2.2)/\∀ x ∈ fr,∀ y ∈ fr,∀ b,(blk x.1).1=some b->(blk y.1).1=some b->x.1=y.1
def FnOK (P:Program) (f:FuncId):Prop:=∃ fn,P.funcs[f]? = some fn/\(fn.name == "runtime.NumGoroutine")=false/\fn.body.isNone=false
def PSpec (P:Program) (f:FuncId) (ars:List AV) (r:RV):Prop:=
 FnOK P f/\∀ (w:World) (m t:CM) (vals:Array Value),GOK w->Cells m w->Cells t w->Zc6 m t ars vals ->
  Calls P f vals w fun e w'=>∃ v m' blk,e=.returned v/\Sub m m'/\(∀ b o u,b < w.heap.size->m' b o=some u->m b o=some u)/\Cells m' w' /\
   Below w.heap.size w w'/\RepRV m' blk r v/\Zc7 m' w w' blk r.fr
inductive Kd where
 | int (k:IntKind) | bool | str | other
 deriving DecidableEq
def kdOf:D->Kd
 | .int k _=>.int k
 | .bool _=>.bool
 | .str _=>.str
 | _=>.other
def eqD:D->D->Bool
 | .int _ a,.int _ b=>a == b
 | .bool a,.bool b=>a == b
 | .str a,.str b=>a == b
 | _,_=>false
def eqDs:List D->List D->Bool
 | [],[]=>true
 | a::x,b::y=>eqD a b && eqDs x y
 | _,_=>false
def Shaped:List Kd->List Value->Prop
 | [],[]=>True
 | .int k::ks,v::vs=>(∃ n,v=.int k n)/\Shaped ks vs
 | .bool::ks,v::vs=>(∃ b,v=.bool b)/\Shaped ks vs
 | .str::ks,v::vs=>(∃ s,v=.string s)/\Shaped ks vs
 | _,_=>False
def valEq:Value->Value->Bool
 | .int _ a,.int _ b=>a == b
 | .bool a,.bool b=>a == b
 | .string a,.string b=>a == b
 | _,_=>false
def valsEq:List Value->List Value->Bool
 | [],[]=>true
 | a::x,b::y=>valEq a b && valsEq x y
 | _,_=>false
def isCmp:BinOp->Bool
 | .eql=>true
 | .neq=>true
 | _=>false
def EqT (P:Program) (t:TypeId) (ks:List Kd):Prop:=
 ∀ (op:BinOp) (vs us:List Value) (w:World) (x y:Operand),isCmp op=true->Shaped ks vs->Shaped ks us ->
   (do eqGuard op t x y (.agg vs.toArray) (.agg us.toArray);binOp op t (.agg vs.toArray) (.agg us.toArray)).run P w=.ok (.bool (if op=.neq then !(valsEq vs us) else valsEq vs us)) w
def dstOK (o:Oper) (e:Env):Prop:=
 match o.dst with
 | none=>True
 | some d=>d < e.n
def dstN (o:Oper):Nat:=o.dst.getD 0
def vcCall (P:Program) (f:FuncId) (ars:List AV) (o:Oper) (e:Env) (h:HS) (K:Env->HS->Prop):Prop:=
 ∃ r,PSpec P f ars r/\K (e.put o.dst (r.toV h.ep (dstN o))) ((h.addFr (dstN o) r.fr).next)
def Zge (μ:Mem) (vs:List V) (vals:Array Value):Prop:=vals.size=vs.length/\∀ (i:Nat) v,vs[i]? = some v->∃ u,vals[i]? = some u/\RepV μ v u
def HSpec (P:Program) (f:FuncId) (vs:List V) (h:HS) (K:V->HS->Prop):Prop:=
 FnOK P f/\∀ (Γ:Ctx) (μ:Mem) (w:World) (vals:Array Value),Inv Γ h μ w->Zge μ vs vals ->
  Calls P f vals w fun e w'=>∃ u v h' μ',e=.returned u/\K v h'/\Inv Γ h' μ' w'/\RepV μ' v u/\Mem.Le μ μ'
def capV:Cap->V
 | .lab l=>.one (.ptr l 0)
 | .rp cs=>.one (.rp cs)
def XSpec (P:Program) (f:FuncId) (vs:List V) (h:HS) (v:V):Prop:=
 ∀ (Γ:Ctx) (μ:Mem) (w:World) (vals:Array Value),Inv Γ h μ w->Zge μ vs vals->∃ u,(callFunc f vals).run P w=.ok (.value u) w/\RepV μ v u
def Zqk (P:Program) (g:FuncId) (caps:List Cap) (vs:List V) (o:Oper) (e:Env) (h:HS) (K:Env->HS->Prop):Prop:=
 (∃ ars cs,toAs h vs=some ars/\capsA h caps=some cs/\vcCall P g (ars++capsOf cs) o e h K) \/
 HSpec P g (vs++caps.map capV) h (fun v h'=>K (e.put o.dst v) h') \/
 ∃ v,XSpec P g (vs++caps.map capV) h v/\K (e.put o.dst v) h
def lenT (P:Program) (t:TypeId):Option Bool:=
 match P.underlying t with
 | some (.slice _)=>some false
 | some .string=>some true
 | _=>none
def vcLen (P:Program) (t:TypeId) (c:C) (o:Oper) (e:Env) (h:HS) (K:Env->HS->Prop):Prop:=
 match lenT P t with
 | some true=>match c with
   | .d (.str s)=>K (e.put o.dst (dint .i64 s.size)) h
   | _=>False
 | some false=>match c with
   | .mrow _ _ n _=>K (e.put o.dst (dint .i64 n)) h
   | c=>match c.list? with
     | some xs=>xs.length<=LIM->K (e.put o.dst (dint .i64 xs.length)) h
     | none=>False
 | none=>False
def Z6i (P:Program) (t:TypeId) (c x:C) (d:Nat) (h:HS) (K:V->HS->Prop):Prop:=
 match elT P t with
 | some (_,n,by_)=>match c.list?,x.list? with
   | some xs,some ys=>(canApp h n c=true/\0 < n/\by_<=4096/\(∀ y ∈ xs,y.length=n)/\(∀ y ∈ ys,y.length=n)/\xs.length+ys.length<=LIM) /\
     K (.one (.own (h.ep,16 * d) (xs++ys))) (((c.useUp h).setArr (h.ep,16 * d) (some (xs.length+ys.length,n))).next)
   | _,_=>False
 | none=>False
def Z5t (P:Program) (t:TypeId) (s x:C) (d:Nat) (h:HS) (K:V->HS->Prop):Prop:=
 match elT P t with
 | some (el,n,by_)=>match appHdr h n s,Z0x h n x,cLen x with
   | some (k,cap,old,pl),some new,some m=>((zeT P el).isSome=true/\0 < n/\by_<=4096/\k+m<=LIM/\new.length=m * n/\old.length=k * n) /\
     (m=0->K (.one s) h) /\
     (0 < m->k+m<=cap->∀ l off,pl=some (l,off)->∃ cs,h.box l=some cs/\off+(k+m) * n<=cs.length/\K (.one (.mrow l off (k+m) cap)) (h.setBox l (Z01 cs (off+k * n) new))) /\
     (0 < m->cap < k+m->∀ cap',k+m<=cap'->K (.one (.mrow (h.ep,16 * d) 0 (k+m) cap')) ((h.setBox (h.ep,16 * d) (old++new++List.replicate ((cap' - (k+m)) * n) .any)).next))
   | _,_,_=>False
 | none=>False
def Z8d (P:Program) (t t':TypeId) (s x:C) (d:Nat) (h:HS) (K:V->HS->Prop):Prop:=
 (t≠t'/\∃ k,P.underlying t'=some (.int k)) /\
 match elT P t with
 | some (el,n,by_)=>match s,x with
   | .nil,.d (.int _ m)=>((zeT P el).isSome=true/\0 < n/\by_<=4096/\0 < m/\m<=LIM) /\
     ∀ cap',m.toNat<=cap'->K (.one (.mrow (h.ep,16 * d) 0 m.toNat cap')) ((h.setBox (h.ep,16 * d) (List.replicate (cap' * n) .any)).next)
   | .mrow l off k cap,.d (.int _ m)=>match Z0x h n (.mrow l off k cap) with
     | some old=>((zeT P el).isSome=true/\0 < n/\by_<=4096/\0 < m/\k+m<=LIM/\cap < k+m.toNat/\old.length=k * n) /\
       ∀ cap',k+m.toNat<=cap'->K (.one (.mrow (h.ep,16 * d) 0 (k+m.toNat) cap')) ((h.setBox (h.ep,16 * d) (old++List.replicate ((cap' - k) * n) .any)).next)
     | none=>False
   | _,_=>False
 | none=>False
def vcMake (P:Program) (t:TypeId) (vl vk:V) (d:Nat) (h:HS) (K:V->HS->Prop):Prop:=
 match elT P t with
 | some (el,n,by_)=>match zeT P el,vl,vk with
   | some z,.one (.d (.int _ a)),.one (.d (.int _ b))=>(0<=a/\a<=b/\b<=LIM/\by_<=4096/\0 < n/\n<=8) /\
     K (.one (.mrow (h.ep,16 * d) 0 a.toNat b.toNat)) ((h.setBox (h.ep,16 * d) (List.replicate b.toNat z).flatten).next)
   | _,_,_=>False
 | none=>False
def vcCopy (P:Program) (t:TypeId) (s x:C) (d:Nat) (h:HS) (K:V->HS->Prop):Prop:=
 match elT P t with
 | some (_,n,_)=>match s,Z0x h n x,cLen x with
   | .mrow l off k _,some new,some m=>match h.box l with
     | some cs=>(0 < n/\new.length=m * n/\off+k * n<=cs.length)/\K (dint .i64 ((min m k:Nat):Int)) (h.setBox l (Z01 cs off (new.take (min m k * n))))
     | none=>False
   | _,_,_=>False
 | none=>False
def Z95 (P:Program) (t:TypeId) (s:C) (d:Nat) (h:HS) (K:V->HS->Prop):Prop:=
 match elT P t with
 | some (el,n,_)=>match s,zeT P el with
   | .mrow l off k _,some z=>match h.box l with
     | some cs=>(0 < n/\off+k * n<=cs.length)/\K .top (h.setBox l (Z01 cs off (List.replicate k z).flatten))
     | none=>False
   | .z,_=>K .top h
   | .nil,_=>K .top h
   | _,_=>False
 | none=>False
def vcNil (P:Program) (op:BinOp) (t:TypeId) (c:C) (K:V->Prop):Prop:=
 (isCmp op=true/\∃ el,P.underlying t=some (.slice el)) /\
 match c with
 | .nil=>K (dbool (if op=.neq then false else true))
 | .mrow _ _ _ _=>K (dbool (if op=.neq then true else false))
 | c=>match c.list? with
   | some xs=>∀ b:Bool,(xs≠[]->b=false)->K (dbool (if op=.neq then !b else b))
   | none=>False
def vcNilV (P:Program) (op:BinOp) (t:TypeId) (x:V) (K:V->Prop):Prop:=
 match x with
 | .one c=>vcNil P op t c K
 | _=>False
def isNilConst:Operand->Bool
 | .const (.slice none 0 0)=>true
 | _=>false
def vcCap (P:Program) (t:TypeId) (c:C) (K:V->Prop):Prop:=
 (∃ el,P.underlying t=some (.slice el)) /\
 match c with
 | .nil=>K (dint .i64 0)
 | .z=>K (dint .i64 0)
 | .mrow _ _ _ cap=>K (dint .i64 cap)
 | _=>False
def vcOp (P:Program) (o:Oper) (e:Env) (h:HS) (K:Env->HS->Prop):Prop:=
 match o.op with
 | .store t a x=>match ldT P t with
   | some (_,n)=>match e.ev a with
     | .one (.ptr l off)=>match h.box l with
       | some cs=>((e.ev x).cells.length=n/\0 < n/\off+n<=cs.length)/\K (e.put o.dst .undef) (h.setBox l (Z01 cs off (e.ev x).cells))
       | none=>False
     | _=>False
   | none=>False
 | .box _ x=>(e.ev x).cells≠[]/\K (e.put o.dst (.one (.ptr (h.ep,16 * dstN o) 0))) ((h.setBox (h.ep,16 * dstN o) (e.ev x).cells).next)
 | .alloc t=>match zeT P t with
   | some cs=>K (e.put o.dst (.one (.ptr (h.ep,16 * dstN o) 0))) ((h.setBox (h.ep,16 * dstN o) cs).next)
   | none=>False
 | .build t ps=>match zeT P t,stT P t with
   | some z,some pl=>match fillV pl e ps.toList z with
     | some cs=>K (e.put o.dst (.agg cs)) h
     | none=>False
   | _,_=>False
 | .buildSlice t len ps=>match elT P t with
   | some (_,n,_)=>match elemsV e n ps.toList 0 with
     | some xs=>((xs.length=len/\0 < n/\len<=64/\n<=64)/\K (e.put o.dst (.one (.own (h.ep,16 * dstN o) xs))) ((h.setArr (h.ep,16 * dstN o) (some (len,n))).next)) \/
       ((len=0/\ps.toList=[]/\0 < n/\n<=64)/\K (e.put o.dst (.one .z)) h)
     | none=>match cellsV e n ps.toList 0 with
       | some cs=>(ps.toList.length=len/\0 < n/\len<=64/\n<=64)/\K (e.put o.dst (.one (.mrow (h.ep,16 * dstN o) 0 len len))) ((h.setBox (h.ep,16 * dstN o) cs).next)
       | none=>False
   | none=>False
 | .binOp op t x y _=>if isNilConst y=true then vcNilV P op t (e.ev x) (fun v=>K (e.put o.dst v) h) else match e.ev x,e.ev y with
   | .agg cs,.agg cs'=>match toDs cs,toDs cs' with
     | some a,some b=>(isCmp op=true/\a.map kdOf=b.map kdOf/\Kd.other ∉ a.map kdOf/\EqT P t (a.map kdOf))/\K (e.put o.dst (dbool (if op=.neq then !(eqDs a b) else eqDs a b))) h
     | _,_=>False
   | u,v=>match binV (Zaj P t) op u v with
     | some r=>K (e.put o.dst r) h
     | none=>False
 | .makeSlice t l c=>vcMake P t (e.ev l) (e.ev c) (dstN o) h (fun v h'=>K (e.put o.dst v) h')
 | .call c=>match c.callee with
   | .value f=>match e.ev f with
     | .one (.fn g caps)=>Zqk P g caps (c.args.toList.map e.ev) o e h K
     | _=>False
   | .builtin .len=>match c.args.toList.map e.ev,c.argTypes.toList with
     | [.one x],[t]=>vcLen P t x o e h K
     | _,_=>False
   | .builtin .append=>match c.args.toList.map e.ev,c.argTypes.toList with
     | [.one s,.one x],[t,t']=>((t=t'\/slT P t'=true)/\(Z6i P t s x (dstN o) h (fun v h'=>K (e.put o.dst v) h')\/Z5t P t s x (dstN o) h (fun v h'=>K (e.put o.dst v) h'))) \/
       Z8d P t t' s x (dstN o) h (fun v h'=>K (e.put o.dst v) h')
     | _,_=>False
   | .builtin .cap=>match c.args.toList.map e.ev,c.argTypes.toList with
     | [.one s],[t]=>vcCap P t s (fun v=>K (e.put o.dst v) h)
     | _,_=>False
   | .builtin .copy=>match c.args.toList.map e.ev,c.argTypes.toList with
     | [.one s,.one x],[t,t']=>(t=t'\/slT P t'=true)/\vcCopy P t s x (dstN o) h (fun v h'=>K (e.put o.dst v) h')
     | _,_=>False
   | .builtin .clear=>match c.args.toList.map e.ev,c.argTypes.toList with
     | [.one s],[t]=>Z95 P t s (dstN o) h (fun v h'=>K (e.put o.dst v) h')
     | _,_=>False
   | _=>match eff P o.op e h with
     | some v=>K (e.put o.dst v) h
     | none=>False
 | _=>match eff P o.op e h with
   | some v=>K (e.put o.dst v) h
   | none=>False
def Z64 (ops:List Oper) (e:Env) (j:Nat):V:=
 match ops[j]? with
 | some o=>match o.dst with
   | some d=>e.get d
   | none=>.undef
 | none=>.undef
def vcOps (P:Program) (all:List Oper):List Oper->Env->HS->(Env->HS->Prop)->Prop
 | [],e,h,K=>K e h
 | o::os,e,h,K=>dstOK o e /\
   match o.guard with
   | none=>vcOp P o e h fun e h=>vcOps P all os e h K
   | some (j,want)=>match Z64 all e j with
     | .one (.d (.bool b))=>(b=want->vcOp P o e h fun e h=>vcOps P all os e h K)/\(b≠want->vcOps P all os (e.put o.dst .undef) h K)
     | .undef=>vcOps P all os (e.put o.dst .undef) h K
     | _=>False
def thenQ (N:Env->HS->Prop) (Q:Exit->Env->HS->Prop):Exit->Env->HS->Prop
 | .normal,e,h=>N e h
 | x,e,h=>Q x e h
def blockQ (id:Nat) (Q:Exit->Env->HS->Prop):Exit->Env->HS->Prop
 | .exit id',e,h=>if id'=id then Q .normal e h else Q (.exit id') e h
 | x,e,h=>Q x e h
def vc (P:Program):Code->(Exit->Env->HS->Prop)->Env->HS->Prop
 | .skip,Q,e,h=>Q .normal e h
 | .region _ ops false,Q,e,h=>vcOps P ops.toList ops.toList e h (Q .normal)
 | .seq a b,Q,e,h=>vc P a (thenQ (fun e h=>vc P b Q e h) Q) e h
 | .cond c a b,Q,e,h=>match e.ev c with
   | .one (.d (.bool t))=>(t=true->vc P a Q e h)/\(t=false->vc P b Q e h)
   | _=>False
 | .block id c,Q,e,h=>vc P c (blockQ id Q) e h
 | .exit id,Q,e,h=>Q (.exit id) e h
 | .ret,Q,e,h=>Q .ret e h
 | c,Q,e,h=>SWP P c Q e h
end
end Go.Am
section
namespace Go.Am
open Go
def tyFs (T:TypeId->List D->Prop):List Field->List D->Prop
 | [],ds=>ds=[]
 | f::r,ds=>∃ a b,ds=a++b/\T f.type a/\tyFs T r b
def tyD (P:Program) (B:Nat):Nat->TypeId->List D->Prop
 | 0,_,_=>False
 | n+1,t,ds=>match P.underlying t with
   | some .bool=>∃ b,ds=[.bool b]
   | some (.int k)=>∃ x,ds=[.int k x]/\(Lit.int k x).wf=true
   | some .string=>∃ s,ds=[.str s]
   | some (.slice e)=>∃ xs,ds=[.sl xs]/\xs.length<=B/\∀ x ∈ xs,tyD P B n e x
   | some (.struct fs)=>tyFs (tyD P B n) fs.toList ds
   | _=>False
def contig (P:Program):List Field->Nat->Nat->Bool
 | [],o,tot=>o == tot
 | f::r,o,tot=>f.offset == o && contig P r (o+P.cellsOf f.type) tot
def plainB (P:Program) (T:List TypeId):Bool:=T.all fun t=>match P.underlying t with
 | some .bool | some (.int _) | some .string=>P.cellsOf t == 1
 | some (.slice e)=>T.contains e && decide (0 < P.cellsOf e) && (P.cellsOf t == 1)
 | some (.struct fs)=>fs.toList.all (fun f=>T.contains f.type) && contig P fs.toList 0 (P.cellsOf t)
 | _=>false
def RepL (m:CM) (ds:List D) (cs:List Value):Prop:=cs.length=ds.length/\∀ (i:Nat) x,ds[i]? = some x->∃ u,cs[i]? = some u/\RepD m x u
theorem RepL.one {m:CM} {x:D} {u:Value} (h:RepD m x u):RepL m [x] [u]:=⟨rfl,fun i y hy=>by
 cases i with
 | zero=>cases hy;exact⟨u,rfl,h⟩
 | succ i=>simp at hy⟩
theorem RepL.nil {m:CM}:RepL m [] []:=⟨rfl,fun i y hy=>by simp at hy⟩
theorem RepL.append {m:CM} {a b:List D} {x y:List Value} (h:RepL m a x) (k:RepL m b y):RepL m (a++b) (x++y):=by
 refine⟨by simp[h.1,k.1],fun i z hz=>?_⟩;rcases Y0t i a.length with hl | hl
 .rw[Y0j hl] at hz;obtain⟨u,h1,h2⟩:=h.2 i z hz;exact⟨u,by rw[Y0j (by rw[h.1];exact hl)];exact h1,h2⟩
 .rw[Y13 hl] at hz;obtain⟨u,h1,h2⟩:=k.2 _ z hz;exact⟨u,by rw[Y13 (by rw[h.1];exact hl),h.1];exact h1,h2⟩
theorem Zdw {α:Type} {p:Nat->α->Prop}:∀ (n:Nat),(∀ i,i < n->∃ x,p i x)->∃ xs:List α,xs.length=n/\∀ (i:Nat) x,xs[i]? = some x->p i x
 | 0,_=>⟨[],rfl,fun i x h=>by simp at h⟩
 | n+1,h=>by
   obtain⟨xs,h1,h2⟩:=Zdw n fun i hi=>h i (by omega);obtain⟨y,hy⟩:=h n (by omega);refine⟨xs++[y],by simp[h1],fun i x hx=>?_⟩;rcases Y0t i xs.length with hl | hl
   .rw[Y0j hl] at hx;exact h2 i x hx
   .rw[Y13 hl] at hx;have hi:i=n:=by
     have:=(Y00.1 hx).1
     simp at this;omega
    subst hi;rw[h1,Nat.sub_self] at hx;cases hx;exact hy
def cellsOf (w:World):CM:=fun b o=>w.cell? ⟨b,o,none⟩
open Go.Proofs.YtbcejndfbklikaaGreatDoor.Rows (uptoBulk uptoBulkAll)
theorem Zbf {H:Type} (d:DataW H):1<=uptoBulk d:=by
 cases d with
 | lit l=>cases l<;>simp[uptoBulk]
 | _=>simp[uptoBulk]
theorem Zjk {H:Type} {d:DataW H} {l:List (DataW H)} (h:d ∈ l):uptoBulk d<=uptoBulkAll l:=by
 induction l with
 | nil=>cases h
 | cons x r ih=>
   simp only[uptoBulkAll];cases Y08.1 h with
   | inl e=>subst e;omega
   | inr e=>have:=ih e;omega
theorem Zpy {H:Type} (l:List (DataW H)):l.length<=uptoBulkAll l:=by
 induction l with
 | nil=>simp[uptoBulkAll]
 | cons x r ih=>have:=Zbf x;simp only[uptoBulkAll,Y22];omega
mutual
def blkD:D->Nat
 | .sl xs=>blkLL xs
 | _=>0
def blkLL:List (List D)->Nat
 | []=>0
 | x::r=>1+blkL x+blkLL r
def blkL:List D->Nat
 | []=>0
 | d::r=>blkD d+blkL r
end
theorem Ze0:∀ a b:List D,blkL (a++b)=blkL a+blkL b
 | [],b=>by simp[blkL]
 | x::a,b=>by simp only[Y0s,blkL,Ze0 a b];omega
theorem Zjl {H:Type}:∀ (xs:List (List D)) (es:List (DataW H)),xs.length=es.length->(∀ (i:Nat) x e,xs[i]? = some x->es[i]? = some e->blkL x+1<=uptoBulk e)->blkLL xs<=uptoBulkAll es
 | [],_,_,_=>by simp[blkLL]
 | _::_,[],hl,_=>by simp at hl
 | x::xs,e::es,hl,h=>by
   have h1:=h 0 x e rfl rfl;have h2:=Zjl xs es (by simpa using hl) fun i y f hy hf=>h (i+1) y f (by simpa using hy) (by simpa using hf);simp only[blkLL,uptoBulkAll];omega
section
variable {H:Type} {enc:TypeId × Value->H} {P:Program} {w:World} {base:Nat} {sp:Nat->Bool} {held:Bool} {T:List TypeId} {B:Nat}
theorem Zeq (n:Nat) (tot:Nat) (cs:List Value) (hcs:cs.length=tot)
  (ih:∀ t cs x,t ∈ T->DataW.trod enc P w base sp held n t cs=some x->uptoBulk x.1<=B->∃ ds,RepL (cellsOf w) ds cs/\tyD P B n t ds/\blkL ds+1<=uptoBulk x.1) :
  ∀ (l:List Field) (ys:List (DataW H × List MemPlace)) (o:Nat),contig P l o tot=true->(∀ f ∈ l,f.type ∈ T)->ys.length=l.length->(∀ (i:Nat) f,l[i]? = some f->DataW.trod enc P w base sp held n f.type ((cs.drop f.offset).take (P.cellsOf f.type))=ys[i]?) ->
    (∀ y ∈ ys,uptoBulk y.1<=B)->o<=tot->∃ ds,RepL (cellsOf w) ds (cs.drop o)/\tyFs (tyD P B n) l ds/\blkL ds<=uptoBulkAll (ys.map (·.1))
 | [],ys,o,hc,_,_,_,_,ho=>by
   simp only[contig,beq_iff_eq] at hc;exact⟨[],by rw[Y23 (by omega)];exact RepL.nil,rfl,by simp[blkL]⟩
 | f::r,[],_,_,_,hl,_,_,_=>by simp at hl
 | f::r,y::ys,o,hc,hT,hl,hr,hy,ho=>by
   simp only[contig,Y0q,beq_iff_eq] at hc;obtain⟨hc1,hc2⟩:=hc;have h0:=hr 0 f rfl;simp only[List.getElem?_cons_zero] at h0;rw[hc1] at h0;obtain⟨a,ha1,ha2,ha3⟩:=ih _ _ _ (hT f (by simp)) h0 (hy y (by simp));have hle:o+P.cellsOf f.type<=tot:=by
    have:∀ (l:List Field) (o:Nat),contig P l o tot=true->o<=tot:=by
     intro l
     induction l with
     | nil=>intro o h;simp only[contig,beq_iff_eq] at h;omega
     | cons g l ihl=>intro o h;simp only[contig,Y0q] at h;have:=ihl _ h.2;omega
    exact this r _ hc2
   obtain⟨b,hb1,hb2,hb3⟩:=Zeq n tot cs hcs ih r ys _ hc2 (fun g hg=>hT g (by simp[hg])) (by simpa using hl) (fun i g hg=>by simpa using hr (i+1) g (by simpa using hg)) (fun z hz=>hy z (by simp[hz])) hle;refine⟨a++b,?_,⟨a,b,rfl,ha2,hb2⟩,by simp only[Ze0,Y0d,uptoBulkAll];omega⟩
   have:=ha1.append hb1
   rwa [<- Y1p,Y17] at this
theorem Zmy (hT:plainB P T=true) (hB:B<=LIM):∀ (n:Nat) (t:TypeId) (cs:List Value) (x:DataW H × List MemPlace),t ∈ T->DataW.trod enc P w base sp held n t cs=some x->uptoBulk x.1<=B ->
  ∃ ds,RepL (cellsOf w) ds cs/\tyD P B n t ds/\blkL ds+1<=uptoBulk x.1:=by
 intro n
 induction n with
 | zero=>intro t cs x _ h;simp[DataW.trod] at h
 | succ n ih=>
   intro t cs x ht h hb;have hp:=Y1a.1 hT t ht;cases hu:P.underlying t with
   | none=>rw[hu] at hp;cases hp
   | some u=>
     rw[hu] at hp;cases u with
     | bool=>
       obtain⟨b,rfl,rfl⟩:=DataW.trod_bool hu h;exact⟨[.bool b],RepL.one (.bool b),by simp[tyD,hu],by simp only[blkL,blkD];exact Zbf _⟩
     | int k=>
       obtain⟨v,rfl,rfl,hw⟩:=DataW.trod_int hu h;exact⟨[.int k v],RepL.one (.int k v),by simp only[tyD,hu];exact⟨v,rfl,hw⟩,by simp only[blkL,blkD];exact Zbf _⟩
     | string=>
       obtain⟨s,rfl,rfl,_⟩:=DataW.trod_string hu h;exact⟨[.str s],RepL.one (.str s),by simp[tyD,hu],by simp only[blkL,blkD];exact Zbf _⟩
     | slice e=>
       simp only[Y0q,decide_eq_true_eq,beq_iff_eq] at hp;obtain⟨⟨he,hes⟩,_⟩:=hp;have he':e ∈ T:=by simpa using he
       rcases DataW.trod_slice hu h with ⟨rfl,rfl⟩ | ⟨a,len,cap,elems,rest,n',hn',rfl,rfl,hba,hlc,hcm,hlen,hel,_,_⟩
       .exact⟨[.sl []],RepL.one (.sl [] none 0 0 0 0 (fun _ _=>undef) (by simp) (by simp) (by simp) (by simp) (by simp) (by simp)),by simp only[tyD,hu];exact⟨[],rfl,by simp,by simp⟩,by simp only[blkL,blkD,blkLL];exact Zbf _⟩
       .obtain rfl:n'=n:=by omega
        have hbe:uptoBulkAll (elems.map (·.1))<=B:=by simp only[uptoBulk] at hb;omega
        have hlB:len<=B:=by
         have:=Zpy (elems.map (·.1))
         simp at this;omega
        have hread:∀ i,i < len->∃ ds:List D,ds.length=P.cellsOf e/\(tyD P B n' e ds/\∀ z,elems[i]? = some z->blkL ds+1<=uptoBulk z.1)/\∀ (j:Nat) c,ds[j]? = some c->∃ u,w.cell? ((a.add (i * P.cellsOf e)).add j)=some u/\RepD (cellsOf w) c u:=by
         intro i hi;have h1:=hel i hi;rw[Y01 (by omega),Option.bind_eq_some_iff] at h1;obtain⟨cs',h2,h3⟩:=h1;have hbi:uptoBulk (elems[i]'(by omega)).1<=B:=Y0y (Zjk (Y0m.2 ⟨_,Y0p (by omega),rfl⟩)) hbe;obtain⟨ds,h4,h5,h5k⟩:=ih e cs' _ he' h3 hbi;obtain⟨_,h6,h7⟩:=World.cells?_some h2;refine⟨ds,by rw[<- h4.1];exact h6,⟨h5,fun z hz=>by rw[Y01 (by omega)] at hz;cases hz;exact h5k⟩,fun j c hj=>?_⟩;obtain⟨u,h8,h9⟩:=h4.2 j c hj;have hjl:=(Y00.1 h8).1;exact⟨u,by rw[h7 j (by omega)];exact h8,h9⟩
        obtain⟨xs,hx1,hx2⟩:=Zdw len hread;obtain⟨b,off,spot⟩:=a;have hspot:xs≠[]->spot=none:=by
         intro hne;have h0:0 < xs.length:=Y2w.2 hne;obtain⟨h1,_,h2⟩:=hx2 0 _ (Y01 h0);obtain⟨u,h3,_⟩:=h2 0 _ (Y01 (by omega));simpa[Addr.add] using World.cell?_spot h3
        have hkey:∀ (i:Nat) x,xs[i]? = some x->∀ (j:Nat) c,x[j]? = some c->∃ u,w.cell? ⟨b,off+(i * P.cellsOf e+j),none⟩=some u/\RepD (cellsOf w) c u:=by
         intro i x hx j c hc;have hne:xs≠[]:=by rintro rfl;simp at hx
         obtain rfl:=hspot hne;obtain⟨_,_,h2⟩:=hx2 i x hx;obtain⟨u,h3,h4⟩:=h2 j c hc;refine⟨u,?_,h4⟩;rw[<- h3,WideShapes.add_plain,WideShapes.add_plain,Nat.add_assoc]
        refine⟨[.sl xs],RepL.one ?_,by simp only[tyD,hu];exact⟨xs,rfl,by omega,fun x hx=>by
         obtain⟨i,hi⟩:=Y1c hx;exact (hx2 i x hi).2.1.1⟩,by
         have h9:=Zjl xs (elems.map (·.1)) (by simp;omega) fun i y f hy hf=>by
          rw[Y0b] at hf;cases hz:elems[i]? with
          | none=>rw[hz] at hf;cases hf
          | some z=>
            rw[hz] at hf;cases hf;exact (hx2 i y hy).2.1.2 z hz
         simp only[blkL,blkD,uptoBulk]
         omega⟩
        rw[<- hx1];refine .sl xs (some ⟨b,off,spot⟩) cap (P.cellsOf e) b off (fun i j=>(w.cell? ⟨b,off+(i * P.cellsOf e+j),none⟩).getD undef) (by omega) (by omega) (fun x hx=>by
         obtain⟨i,hi⟩:=Y1c hx;exact (hx2 i x hi).1) (fun hne=>by rw[hspot hne]) ?_ ?_
        .intro i x hx j c hc;obtain⟨u,h1,_⟩:=hkey i x hx j c hc;simp[cellsOf,h1]
        .intro i x hx j c hc;obtain⟨u,h1,h2⟩:=hkey i x hx j c hc;simpa[h1] using h2
     | struct fs=>
       simp only[Y0q] at hp;obtain⟨hp1,hp2⟩:=hp;obtain⟨xs,n',hn',rfl,hcl,hxl,hf⟩:=DataW.trod_struct hu h;obtain rfl:n'=n:=by omega
       have hb':∀ y ∈ xs,uptoBulk y.1<=B:=by
        intro y hy;have h1:=Zjk (Y0m.2 ⟨y,hy,rfl⟩:y.1 ∈ xs.map (·.1));simp only[uptoBulk] at hb;omega
       obtain⟨ds,h1,h2,h3⟩:=Zeq n' (P.cellsOf t) cs hcl ih fs.toList xs 0 hp2 (fun f hf=>by have:=Y1a.1 hp1 f hf;simpa using this) (by simpa using hxl) (fun i f hfi=>hf i f (by simpa using hfi)) hb' (Nat.zero_le _);exact⟨ds,by simpa using h1,by simp only[tyD,hu];exact h2,by simp only[uptoBulk];omega⟩
     | _=>cases hp
end
end Go.Am
end
section
namespace Go.Am
open Go
open Go.RowKit (Below)
theorem Sub.refl (m:CM):Sub m m:=fun _ _ _ h=>h
theorem Sub.trans {a b c:CM} (h:Sub a b) (k:Sub b c):Sub a c:=fun _ _ _ x=>k _ _ _ (h _ _ _ x)
theorem RepD.mono {m m':CM} (hs:Sub m m') {x:D} {v:Value} (h:RepD m x v):RepD m' x v:=by
 induction h with
 | int k n=>exact .int k n
 | bool b=>exact .bool b
 | str s=>exact .str s
 | raw v h=>exact .raw v h
 | sl xs a cap es b off f hl hc hes ha hcell hrep ih=>exact .sl xs a cap es b off f hl hc hes ha (fun i x hx j c hj=>hs _ _ _ (hcell i x hx j c hj)) ih
theorem RepD.oneCell {m:CM} {x:D} {v:Value} (h:RepD m x v):v.oneCell'=true:=by
 cases h<;>first | rfl | assumption
theorem Mem.Le.refl (μ:Mem):Mem.Le μ μ:=⟨Sub.refl _,rfl,fun _ _ h=>h⟩
theorem Mem.Le.trans {a b c:Mem} (h:Mem.Le a b) (k:Mem.Le b c):Mem.Le a c:=⟨h.cell.trans k.cell,k.tmp.trans h.tmp,fun l x hl=>k.loc l x (h.loc l x hl)⟩
theorem RepP.mono {m m' t:CM} (hs:Sub m m') {cs:List D} {v:Value} (h:RepP m t cs v):RepP m' t cs v:=by
 obtain⟨b,off,hv,hc⟩:=h;refine⟨b,off,hv,fun j c hj=>?_⟩;obtain⟨u,hu,hr⟩:=hc j c hj;exact⟨u,hu.imp (hs _ _ _) id,hr.mono hs⟩
section
variable {μ μ':Mem}
theorem RepCap.mono (hl:Mem.Le μ μ') {c:Cap} {v:Value} (h:RepCap μ c v):RepCap μ' c v:=by
 cases c with
 | lab l=>obtain⟨b,n,h1,h2⟩:=h;exact⟨b,n,hl.loc _ _ h1,h2⟩
 | rp cs=>simp only[RepCap] at h |-;rw[hl.tmp];exact h.mono hl.cell
theorem RepC.mono (hl:Mem.Le μ μ') {c:C} {v:Value} (h:RepC μ c v):RepC μ' c v:=by
 cases c with
 | d x=>exact RepD.mono hl.cell h
 | own l xs=>obtain⟨h1,g,cap,h2,h3⟩:=h;exact⟨h1.mono hl.cell,g,cap,hl.loc _ _ h2,h3⟩
 | nil=>exact h
 | ptr l off=>obtain⟨b,n,h1,h2⟩:=h;exact⟨b,n,hl.loc _ _ h1,h2⟩
 | rp cs=>simp only[RepC] at h |-;rw[hl.tmp];exact h.mono hl.cell
 | mrow l off n cap=>obtain⟨b,k,h1,h2⟩:=h;exact⟨b,k,hl.loc _ _ h1,h2⟩
 | z=>exact h
 | any=>exact h
 | fn f caps=>
   obtain⟨vs,h1,h2,h3⟩:=h;refine⟨vs,h1,h2,fun i c hi=>?_⟩;obtain⟨u,hu,hr⟩:=h3 i c hi;exact⟨u,hu,hr.mono hl⟩
theorem RepCs.mono (hl:Mem.Le μ μ') {cs:List C} {vs:Array Value} (h:RepCs μ cs vs):RepCs μ' cs vs:=
 ⟨h.1,fun i c hi=>let ⟨u,hu,hr⟩:=h.2 i c hi;⟨u,hu,hr.mono hl⟩⟩
theorem RepV1.mono (hl:Mem.Le μ μ') {x:V} {v:Value} (h:RepV1 μ x v):RepV1 μ' x v:=by
 cases x with
 | top=>trivial
 | undef=>exact h
 | one c=>exact RepC.mono hl h
 | agg cs=>obtain⟨vs,h1,h2⟩:=h;exact⟨vs,h1,h2.mono hl⟩
 | tup vs=>exact h.elim
theorem RepV.mono (hl:Mem.Le μ μ') {x:V} {v:Value} (h:RepV μ x v):RepV μ' x v:=by
 cases x with
 | tup xs=>
   obtain⟨vs,h1,h2,h3⟩:=h;refine⟨vs,h1,h2,fun i x hi=>?_⟩;obtain⟨u,hu,hr⟩:=h3 i x hi;exact⟨u,hu,hr.mono hl⟩
 | top=>trivial
 | undef=>exact h
 | one c=>exact RepC.mono hl h
 | agg cs=>obtain⟨vs,h1,h2⟩:=h;exact⟨vs,h1,h2.mono hl⟩
theorem EnvRel.mono (hl:Mem.Le μ μ') {e:Env} {a:Act} (h:EnvRel μ e a):EnvRel μ' e a:=⟨h.1,h.2.1,fun k=>(h.2.2 k).mono hl⟩
theorem EnvRel.put {e:Env} {a:Act} (h:EnvRel μ e a) {dst:Option Nat} {v:V} {u:Value} (hd:∀ d,dst=some d->d < e.n) (hv:RepV μ v u):EnvRel μ (e.put dst v) (a.put dst u):=by
 cases dst with
 | none=>exact h
 | some d=>
   refine⟨h.1,by simpa[Act.put,Env.put] using h.2.1,fun k=>?_⟩;have hd':=hd d rfl;rw[<- h.2.1] at hd';simp only[Env.put,Act.put]
   by_cases hk:k=d
   .subst hk;simpa[hd'] using hv
   .have:=h.2.2 k
    simp only[hk,if_false];simpa[Array.getElem?_setIfInBounds,Ne.symm hk] using this
end
theorem Zc1 (μ:Mem) (v:Value) (h:v.oneCell'=true):RepC μ (constC v) v:=by
 unfold constC;split
 .exact .int _ _
 .exact .bool _
 .exact .str _
 .rfl
 .exact RepD.raw _ h
theorem Zlk (μ:Mem) (v:Value):RepV μ (constV v) v:=by
 unfold constV;split
 .rename_i cs;split
  .rename_i hall;refine⟨cs,rfl,by simp,fun i c hi=>?_⟩;rw[Y0b] at hi;cases hc:cs[i]? with
   | none=>simp[hc] at hi
   | some u=>
     simp[hc] at hi;refine⟨u,rfl,?_⟩;rw[<- hi];refine Zc1 μ u ?_;rw[Array.all_eq_true] at hall;obtain⟨hlt,he⟩:=Y0u.1 hc;rw[<- he];exact hall i hlt
  .trivial
 .trivial
 .refine Zc1 μ v ?_;cases v<;>simp_all [Value.oneCell']
theorem ev_rep {μ:Mem} {e:Env} {a:Act} (h:EnvRel μ e a) (x:Operand):RepV μ (e.ev x) (a.eval x):=by
 cases x with
 | tmp t=>exact h.2.2 t
 | const v=>exact Zlk μ v
 | global g=>trivial
 | func f=>exact⟨#[],rfl,by simp,fun i c hi=>by simp at hi⟩
theorem Z5l {μ:Mem} {c:C} {v:Value} {x:D} (h:RepC μ c v) (hx:c.toD=some x):RepD μ.cell x v:=by
 cases c with
 | d y=>simp[C.toD] at hx;subst hx;exact h
 | own l xs=>simp[C.toD] at hx;subst hx;exact h.1
 | nil=>
   simp[C.toD] at hx;subst hx;have h':v=.slice none 0 0:=h;subst h';exact .sl [] none 0 0 0 0 (fun _ _=>undef) (by simp) (by simp) (by simp) (by simp) (by simp) (by simp)
 | z=>
   simp[C.toD] at hx;subst hx;obtain⟨ad,rfl⟩:=h;exact .sl [] ad 0 0 0 0 (fun _ _=>undef) (by simp) (by simp) (by simp) (by simp) (by simp) (by simp)
 | mrow l o n cap=>simp[C.toD] at hx
 | any=>simp[C.toD] at hx
 | ptr l o=>simp[C.toD] at hx
 | rp cs=>simp[C.toD] at hx
 | fn f caps=>simp[C.toD] at hx
theorem Z78 {c:C} {xs:List (List D)} (h:c.list? = some xs):c.toD=some (.sl xs):=by
 cases c with
 | d y=>cases y<;>simp_all [C.list?,C.toD]
 | _=>simp_all [C.list?,C.toD]
theorem RepD.slice {m:CM} {xs:List (List D)} {v:Value} (h:RepD m (.sl xs) v):∃ a cap,v=.slice a xs.length cap/\xs.length<=cap/\xs.length<=LIM:=by
 cases h with
 | sl xs a cap es b off f hl hc hes ha hcell hrep=>exact⟨a,cap,rfl,hc,hl⟩
theorem RepD.elem {m:CM} {xs:List (List D)} {v:Value} (h:RepD m (.sl xs) v) {i:Nat} {x:List D} (hx:xs[i]? = some x) :
  ∃ b off cap,v=.slice (some ⟨b,off,none⟩) xs.length cap/\∀ (j:Nat) c,x[j]? = some c->∃ u,m b (off+(i * x.length+j))=some u/\RepD m c u:=by
 cases h with
 | sl xs a cap es b off f hl hc hes ha hcell hrep=>
   have hne:xs≠[]:=by intro e;subst e;simp at hx
   have he:x.length=es:=hes x (Y03 hx);refine⟨b,off,cap,by rw[ha hne],fun j c hj=>?_⟩;rw[he];exact⟨f i j,hcell i x hx j c hj,hrep i x hx j c hj⟩
theorem RepC.one {μ:Mem} {c:C} {v:Value} (h:RepC μ c v):v.oneCell'=true:=by
 cases c with
 | d x=>exact RepD.oneCell h
 | own l xs=>exact h.1.oneCell
 | nil=>have h':v=.slice none 0 0:=h;subst h';rfl
 | ptr l o=>obtain⟨_,_,_,rfl⟩:=h;rfl
 | mrow l o n cap=>obtain⟨_,_,_,rfl,_⟩:=h;rfl
 | z=>obtain⟨_,rfl⟩:=h;rfl
 | any=>exact h
 | rp cs=>obtain⟨_,_,rfl,_⟩:=h;rfl
 | fn f caps=>obtain⟨_,rfl,_⟩:=h;rfl
theorem Znp {v:Value} (h:v.oneCell'=true):v.cells=#[v]:=by
 cases v<;>simp_all [Value.cells,Value.oneCell']
theorem Z9p {μ:Mem} {x:V} {v:Value} (h:RepV μ x v) (hne:x.cells≠[]):RepCs μ x.cells v.cells:=by
 cases x with
 | one c=>
   rw[Znp (RepC.one h)];refine⟨by simp[V.cells],fun i c' hi=>?_⟩;cases i with
   | zero=>simp[V.cells] at hi;subst hi;exact⟨v,by simp,h⟩
   | succ i=>simp[V.cells] at hi
 | agg cs=>obtain⟨vs,rfl,hvs⟩:=h;exact hvs
 | top=>simp[V.cells] at hne
 | undef=>simp[V.cells] at hne
 | tup vs=>simp[V.cells] at hne
theorem RepCs.all {μ:Mem} {cs:List C} {vs:Array Value} (h:RepCs μ cs vs):∀ v ∈ vs.toList,v.oneCell'=true:=by
 intro v hv;obtain⟨i,hi,he⟩:=Y1g hv;have hi':i < vs.size:=by simpa using hi
 have hc:i < cs.length:=by rw[<- h.1];exact hi'
 obtain⟨u,hu,hr⟩:=h.2 i cs[i] (Y01 hc)
 have:vs[i]? = some v:=by rw[Y1h hi'];simpa using he
 rw[this] at hu;cases hu;exact hr.one
theorem Zd7 {cs:List C}:∀ {ds:List D},toDs cs=some ds->ds.length=cs.length:=by
 induction cs with
 | nil=>intro ds h;simp[toDs] at h;subst h;rfl
 | cons c cs ih=>
   intro ds h;simp only[toDs] at h;split at h
   .rename_i x xs _ hxs;injection h with h;subst h;simp[ih hxs]
   .cases h
theorem Zp5 {cs:List C}:∀ {ds:List D},toDs cs=some ds->∀ (i:Nat) x,ds[i]? = some x->∃ c,cs[i]? = some c/\c.toD=some x:=by
 induction cs with
 | nil=>intro ds h i x hx;simp[toDs] at h;subst h;simp at hx
 | cons c cs ih=>
   intro ds h i x hx;simp only[toDs] at h;split at h
   .rename_i y ys hy hys
    injection h with h
    subst h;cases i with
    | zero=>simp at hx;subst hx;exact⟨c,by simp,hy⟩
    | succ i=>simp at hx;obtain⟨c',h1,h2⟩:=ih hys i x hx;exact⟨c',by simpa using h1,h2⟩
   .cases h
theorem Zb0 {μ:Mem} {cs:List C} {vs:Array Value} {ds:List D} (h:RepCs μ cs vs) (hd:toDs cs=some ds):RepDs μ.cell ds vs:=by
 refine⟨by rw[h.1,Zd7 hd],fun i x hx=>?_⟩;obtain⟨c,hc,hcx⟩:=Zp5 hd i x hx;obtain⟨u,hu,hr⟩:=h.2 i c hc;exact⟨u,hu,Z5l hr hcx⟩
end Go.Am
end
section
namespace Go.Am
open Go
open Go.RowKit (Below)
def Gives (P:Program) (o:Oper) (a:Act) (w:World) (u:Value):Prop:=(execOp a.eval o).run P w=.ok (.value u) w
theorem Z57 (b off n:Nat):(⟨b,off,none⟩:Addr).add n=⟨b,off+n,none⟩:=by
 unfold Addr.add;split
 .rename_i hn;subst hn;rfl
 .rfl
theorem RepD.int_inv {m:CM} {k:IntKind} {n:Int} {v:Value} (h:RepD m (.int k n) v):v=.int k n:=by cases h;rfl
theorem RepD.bool_inv {m:CM} {b:Bool} {v:Value} (h:RepD m (.bool b) v):v=.bool b:=by cases h;rfl
theorem RepD.str_inv {m:CM} {s:ByteArray} {v:Value} (h:RepD m (.str s) v):v=.string s:=by cases h;rfl
theorem Zjg {P:Program} {t f off n:Nat} {ag:Bool} (h:fdT P t f=some (off,ag,n)) :
  ∃ fs fd d i,P.underlying t=some (.struct fs)/\fs[f]? = some fd/\fd.offset=off/\P.underlying fd.type=some d/\aggD d=ag/\P.info? fd.type=some i/\i.size=n/\n≠0:=by
 unfold fdT at h;split at h
 .rename_i fs hu;split at h
  .rename_i fd hf;split at h
   .rename_i ag' n' hl;unfold ldT at hl;split at hl
    .rename_i d i hd hi;simp only[Y06,Y07] at hl;split at h
     .cases h
     .rename_i hn;simp only[Y06,Y07] at h;exact⟨fs,fd,d,i,hu,hf,h.1,hd,by rw[hl.1,h.2.1],hi,by rw[hl.2,h.2.2],by rw[<- h.2.2];exact hn⟩
    .cases hl
   .cases h
  .cases h
 .cases h
theorem Zfw {P:Program} {t n:Nat} {ag:Bool} (h:ldT P t=some (ag,n)):∃ d i,P.underlying t=some d/\aggD d=ag/\P.info? t=some i/\i.size=n:=by
 unfold ldT at h;split at h
 .rename_i d i hd hi;simp only[Y06,Y07] at h;exact⟨d,i,hd,h.1,hi,h.2⟩
 .cases h
theorem Z5h {P:Program} {t e n b:Nat} (h:elT P t=some (e,n,b)):∃ i z,P.underlying t=some (.slice e)/\P.info? e=some i/\i.size=n/\i.bytes=b/\i.zero=some z/\z.cells.size=n:=by
 unfold elT at h;split at h
 .rename_i e' hu;split at h
  .rename_i i hi;split at h
   .rename_i z hz;split at h
    .rename_i hsz;simp only[Y06,Y07] at h;obtain⟨rfl,h2,h3⟩:=h;exact⟨i,z,hu,hi,h2,h3,hz,by rw[hsz,h2]⟩
    .cases h
   .cases h
  .cases h
 .cases h
theorem Z6n {P:Program} {w:World} {t:Nat} {d:TypeDesc} (h:P.underlying t=some d):(isAgg t).run P w=.ok (aggD d) w:=by
 unfold isAgg;simp only[Sem.run_bind,run_underlying h,Result.andThen_ok];cases d<;>rfl
theorem Z8f {n:Nat} {cs l:List C} (h:takeN n cs=some l):n<=cs.length/\l=cs.take n:=by
 unfold takeN at h;split at h
 .rename_i hn;exact⟨hn,by injection h with h;exact h.symm⟩
 .cases h
def At (μ:Mem) (w:World) (b off:Nat) (cs:List C):Prop:=∀ (j:Nat) c,cs[j]? = some c->∃ u,w.cell? ⟨b,off+j,none⟩=some u/\RepC μ c u
section
variable {P:Program} {o:Oper} {a:Act} {w:World} {e:Env} {h:HS} {μ:Mem} {Γ:Ctx}
theorem Zc9 (hI:Inv Γ h μ w) {c:C} {v:Value} {n:Nat} {l:List C} (hc:RepC μ c v) (hr:readAt h c n=some l) :
  l.length=n/\∃ b off,v=.pointer (some ⟨b,off,none⟩)/\At μ w b off l:=by
 unfold readAt at hr;split at hr
 .rename_i lb off;split at hr
  .rename_i cs hb;obtain⟨hn,rfl⟩:=Z8f hr;obtain⟨b,_,hloc,rfl⟩:=hc;obtain⟨b',_,T,conc,hloc',_,hh,hcs,_⟩:=hI.box lb cs hb;rw[hloc] at hloc';simp only[Y06,Y07] at hloc';obtain⟨rfl,_⟩:=hloc';refine⟨by simp only[Y12];omega,b,off,rfl,fun j c hj=>?_⟩;rw[Y15] at hj;split at hj
   .rw[Y16] at hj;obtain⟨u,hu,hr'⟩:=hcs.2 _ _ hj;exact⟨u,by simp[World.cell?,hh,hu],hr'⟩
   .cases hj
  .cases hr
 .rename_i cs;obtain⟨hn,rfl⟩:=Z8f hr;obtain⟨b,off,rfl,hp⟩:=hc;refine⟨by simp only[Y12];omega,b,off,rfl,fun j c hj=>?_⟩;rw[Y15] at hj;split at hj
  .rw[Y0b] at hj;cases hx:cs[j]? with
   | none=>simp[hx] at hj
   | some x=>
     simp[hx] at hj;subst hj;obtain⟨u,hu,hr'⟩:=hp j x hx;refine⟨u,?_,hr'⟩;rcases hu with hu | hu
     .exact hI.cell _ _ _ hu
     .rw[hI.tmp] at hu;exact hI.tcell _ _ _ hu
  .cases hj
 .cases hr
theorem At.list {b off:Nat} {cs:List C} (h:At μ w b off cs):∃ vs:List Value,vs.length=cs.length/\RepCs μ cs vs.toArray/\∀ (j:Nat) v,vs[j]? = some v->w.cell? ((⟨b,off,none⟩:Addr).add j)=some v:=by
 induction cs generalizing off with
 | nil=>exact⟨[],rfl,⟨rfl,fun i c hi=>by simp at hi⟩,fun j v hj=>by simp at hj⟩
 | cons c cs ih=>
   obtain⟨u,hu,hr⟩:=h 0 c (by simp);obtain⟨vs,hl,hR,hv⟩:=ih (off:=off+1) (fun j c hj=>by
    obtain⟨u,hu,hr⟩:=h (j+1) c (by simpa using hj);exact⟨u,by rw[show off+1+j=off+(j+1) by omega];exact hu,hr⟩)
   refine⟨u::vs,by simp[hl],⟨by simp[hl],fun i c' hi=>?_⟩,fun j v hj=>?_⟩
   .cases i with
    | zero=>simp at hi;subst hi;exact⟨u,by simp,hr⟩
    | succ i=>
      obtain⟨x,hx,hxr⟩:=hR.2 i c' (by simpa using hi);exact⟨x,by simpa using hx,hxr⟩
   .cases j with
    | zero=>simp at hj;subst hj;simpa[Z57] using hu
    | succ j=>
      have:=hv j v (by simpa using hj)
      rw[Z57] at this |-;rw[show off+(j+1)=off+1+j by omega];exact this
theorem Zg0 {vs:List Value} {cs:List C} {ag:Bool} {v:V} (hR:RepCs μ cs vs.toArray) (hm:mkV ag cs=some v) :
  (ag=true->RepV μ v (.agg vs.toArray))/\(ag=false->∃ u,vs=[u]/\RepV μ v u):=by
 unfold mkV at hm;refine⟨fun hag=>?_,fun hag=>?_⟩
 .subst hag;simp at hm;subst hm;exact⟨vs.toArray,rfl,hR⟩
 .subst hag;simp only[Y1k,if_false] at hm;split at hm
  .rename_i c
   injection hm with hm
   subst hm;obtain⟨u,hu,hr⟩:=hR.2 0 c (by simp);have hl:vs.length=1:=by simpa using hR.1
   match vs,hl with
   | [u'],_=>simp at hu;subst hu;exact⟨_,rfl,hr⟩
  .cases hm
theorem Zlh (hI:Inv Γ h μ w) (hE:EnvRel μ e a) {t:TypeId} {x:Operand} (ho:o.op=.load t x) {v:V} (hv:eff P (.load t x) e h=some v) :
  ∃ u,Gives P o a w u/\RepV μ v u:=by
 have hx:=ev_rep hE x;simp only[eff] at hv;split at hv
 .rename_i ag n hld;obtain⟨d,i,hd,hag,hi,hn⟩:=Zfw hld;split at hv
  .rename_i c hc;rw[hc] at hx;split at hv
   .rename_i l hr;obtain⟨hln,b,off,hpv,hat⟩:=Zc9 hI (show RepC μ c _ from hx) hr;obtain⟨vs,hvl,hR,hcell⟩:=hat.list;have hmk:=Zg0 hR hv;cases hag':ag with
    | true=>
      refine⟨_,?_,hmk.1 hag'⟩
      have:=run_loadCells_list (P:=P) w ⟨b,off,none⟩ vs hcell
      unfold Gives;simp[execOp,ho,hpv,Instr.loadAt,Instr.sureAddr,loadVar,Z6n hd,hag,hag',sizeOf,typeInfo,hi,hn,<- hln,<- hvl,this]
    | false=>
      obtain⟨u,hvu,hru⟩:=hmk.2 hag';refine⟨u,?_,hru⟩;subst hvu
      have:=hcell 0 u (by simp)
      rw[Z57] at this;unfold Gives;simp only[Y1q] at this;simp[execOp,ho,hpv,Instr.loadAt,Instr.sureAddr,loadVar,Z6n hd,hag,hag',run_load,this]
   .cases hv
  .cases hv
 .cases hv
theorem Zih (hE:EnvRel μ e a) {op:BinOp} {t t':TypeId} {x y:Operand} (ho:o.op=.binOp op t x y t') {v:V} (hv:binV (Zaj P t) op (e.ev x) (e.ev y)=some v) :
  ∃ u,Gives P o a w u/\RepV μ v u:=by
 have hx:=ev_rep hE x;have hy:=ev_rep hE y;generalize e.ev x=X at hx hv;generalize e.ev y=Y at hy hv;unfold binV at hv;split at hv
 .rename_i k n k' n';have hx':a.eval x=.int k n:=RepD.int_inv (m:=μ.cell) hx;have hy':a.eval y=.int k' n':=RepD.int_inv (m:=μ.cell) hy;split at hv
  .rename_i hk;subst hk;unfold intBin at hv;split at hv<;>first | (cases hv;done) | (injection hv with hv;subst hv;refine⟨_,?_,by first | exact RepD.int _ _ | exact RepD.bool _⟩;unfold Gives;simp[execOp,ho,hx',hy',eqGuard,binOp,Op.intCmp,Op.intArith]) | (split at hv<;>first | (cases hv;done) | (rename_i hz;injection hv with hv;subst hv;refine⟨_,?_,RepD.int _ _⟩;unfold Gives;simp[execOp,ho,hx',hy',eqGuard,binOp,Op.intDiv,hz]))
  .cases hv
 .rename_i s s';have hx':a.eval x=.string s:=RepD.str_inv (m:=μ.cell) hx;have hy':a.eval y=.string s':=RepD.str_inv (m:=μ.cell) hy;unfold strBin at hv;split at hv<;>first | (cases hv;done) | (injection hv with hv;subst hv;refine⟨_,?_,by exact RepD.bool _⟩;unfold Gives;simp[execOp,ho,hx',hy',eqGuard,binOp,Op.stringOp,strEq,Z6x]) | (split at hv<;>first | (cases hv;done) | (rename_i hz;have hz2:¬ (((s.size+s'.size:Nat):Int) > IntKind.i64.max):=(by show ¬ (((s.size+s'.size:Nat):Int) > 9223372036854775807);omega);injection hv with hv;subst hv;refine⟨_,?_,RepD.str _⟩;unfold Gives;simp only[execOp,ho,hx',hy',eqGuard,binOp,Op.stringOp];rw[if_neg hz2];rfl))
 .rename_i s s';have hx':a.eval x=.bool s:=RepD.bool_inv (m:=μ.cell) hx;have hy':a.eval y=.bool s':=RepD.bool_inv (m:=μ.cell) hy;split at hv
  .rename_i hbt;have ht:P.underlying t=some .bool:=by
    unfold Zaj at hbt;split at hbt
    .assumption
    .cases hbt
   have hq:∀ w,(Op.equalIn Op.maxDepth t (.bool s) (.bool s')).run P w=.ok (s == s') w:=fun w=>run_equalIn_bool' w 9999 t s s' ht;split at hv<;>first | (cases hv;done) | (injection hv with hv;subst hv;refine⟨_,?_,by exact RepD.bool _⟩;unfold Gives;simp[execOp,ho,hx',hy',eqGuard,binOp,Op.equal,hq];try (cases s<;>cases s'<;>rfl))
  .cases hv
 .cases hv
theorem Zdn (hE:EnvRel μ e a) {t f:Nat} {x:Operand} (ho:o.op=.fieldAddr t x f) {v:V} (hv:eff P (.fieldAddr t x f) e h=some v) :
  ∃ u,Gives P o a w u/\RepV μ v u:=by
 have hx:=ev_rep hE x;simp only[eff] at hv;split at hv
 .rename_i off ag n hfd;obtain⟨fs,fd,d,i,hu,hf,hoff,hd,hag,hi,hn,hn0⟩:=Zjg hfd;have key:∀ b off',a.eval x=.pointer (some ⟨b,off',none⟩)->Gives P o a w (.pointer (some ⟨b,off'+off,none⟩)):=by
   intro b off' hp;have hn':i.size≠0:=by rw[hn];exact hn0
   unfold Gives;simp[execOp,ho,hp,Instr.fieldAt,run_underlying hu,hf,Instr.sureAddr,fieldPlace,sizeOf,typeInfo,hi,hn',Z57,hoff]
  split at hv
  .rename_i l o' hx';rw[hx'] at hx
   injection hv with hv
   subst hv;obtain⟨b,m,hloc,hp⟩:=(show RepC μ (.ptr l o') _ from hx);exact⟨_,key b o' hp,b,m,hloc,rfl⟩
  .rename_i cs hx';rw[hx'] at hx;split at hv
   .rename_i hlt
    injection hv with hv
    subst hv;obtain⟨b,off',hp,hc⟩:=(show RepC μ (.rp cs) _ from hx);refine⟨_,key b off' hp,b,off'+off,rfl,fun j c hj=>?_⟩;rw[Y16] at hj;obtain⟨u,hu,hr⟩:=hc _ _ hj;exact⟨u,by rw[Nat.add_assoc];exact hu,hr⟩
   .cases hv
  .cases hv
 .cases hv
theorem Zig (hE:EnvRel μ e a) {t f:Nat} {x:Operand} (ho:o.op=.field t x f) {v:V} (hv:eff P (.field t x f) e h=some v) :
  ∃ u,Gives P o a w u/\RepV μ v u:=by
 have hx:=ev_rep hE x;simp only[eff] at hv;split at hv
 .rename_i off ag n hfd;obtain⟨fs,fd,d,i,hu,hf,hoff,hd,hag,hi,hn,hn0⟩:=Zjg hfd;split at hv
  .rename_i cs hx';rw[hx'] at hx;split at hv
   .rename_i l ht;obtain⟨hnl,rfl⟩:=Z8f ht;obtain⟨vs,hvs,hR⟩:=(show ∃ vs:Array Value,a.eval x=.agg vs/\RepCs μ cs vs from hx);have hsz:off+n<=vs.size:=by
     rw[hR.1];simp at hnl;omega
    have hR':RepCs μ ((cs.drop off).take n) ((vs.toList.drop off).take n).toArray:=by
     refine⟨by simp[hR.1],fun i c hi=>?_⟩;rw[Y15] at hi;split at hi
     .rw[Y16] at hi;obtain⟨u,hu,hr⟩:=hR.2 _ _ hi;refine⟨u,?_,hr⟩;rename_i hin;simp[hin,hu]
     .cases hi
    have hmk:=Zg0 hR' hv;cases hag':ag with
    | true=>
      refine⟨_,?_,hmk.1 hag'⟩;unfold Gives;have hex:vs.extract off (off+n)=((vs.toList.drop off).take n).toArray:=by
       apply Array.ext';simp[List.take_drop]
      simp[execOp,ho,hvs,Instr.field,run_underlying hu,hf,part,asAgg,Z6n hd,hag,hag',sizeOf,typeInfo,hi,hn,hoff,hex]
    | false=>
      obtain⟨u,hvu,hru⟩:=hmk.2 hag';refine⟨u,?_,hru⟩;have hcell:vs[off]? = some u:=by
       have h0:((vs.toList.drop off).take n)[0]? = some u:=by rw[hvu];rfl
       rw[Y15] at h0;split at h0
       .simpa using h0
       .cases h0
      unfold Gives;simp[execOp,ho,hvs,Instr.field,run_underlying hu,hf,part,asAgg,Z6n hd,hag,hag',hoff,hcell]
   .cases hv
  .cases hv
 .cases hv
theorem Zlc {t:TypeId} (h:isStr P t=true):P.underlying t=some .string:=by
 unfold isStr at h;split at h
 .assumption
 .cases h
theorem Zq1 {t len n:Nat} (h:arT P t=some (len,n)):∃ el i,P.underlying t=some (.array len el)/\P.info? el=some i/\i.size=n:=by
 unfold arT at h;split at h
 .rename_i len' el hu;split at h
  .rename_i i hi;simp at h;obtain⟨rfl,rfl⟩:=h;exact⟨el,i,hu,hi,rfl⟩
  .cases h
 .cases h
theorem Zdm (hE:EnvRel μ e a) {t:Nat} {x y:Operand} (ho:o.op=.indexAddr t x y) {v:V} (hv:eff P (.indexAddr t x y) e h=some v) :
  ∃ u,Gives P o a w u/\RepV μ v u:=by
 have hx:=ev_rep hE x;have hy:=ev_rep hE y;simp only[eff] at hv;split at hv
 .rename_i el n by_ hel;obtain⟨i,_,hu,hi,hn,_⟩:=Z5h hel;split at hv
  .rename_i l off m cap k idx hcx hcy;rw[hcx] at hx;rw[hcy] at hy;have hy':a.eval y=.int k idx:=RepD.int_inv (m:=μ.cell) hy;split at hv
   .rename_i h0
    injection hv with hv
    subst hv;obtain⟨b,kk,h1,h2,h3⟩:=(show ∃ b k,μ.loc l=some (some b,k)/\a.eval x=.slice (some ⟨b,off,none⟩) m cap/\m<=cap from hx);refine⟨.pointer (some ⟨b,off+idx.toNat * n,none⟩),?_,b,kk,h1,rfl⟩;unfold Gives;have h1:0<=idx/\idx < (m:Int):=⟨h0.1,by omega⟩;simp[execOp,ho,h2,hy',Instr.indexAt,asIntOf,run_underlying hu,h1.1,h1.2,sizeOf,typeInfo,hi,hn,Z57]
   .cases hv
  .rename_i c k idx hnm hcx hcy;rw[hcx] at hx;rw[hcy] at hy;have hy':a.eval y=.int k idx:=RepD.int_inv (m:=μ.cell) hy;split at hv
   .rename_i xs hxs;split at hv
    .rename_i h0;split at hv
     .rename_i z hz;split at hv
      .rename_i hl
       injection hv with hv
       subst hv;have hD:=Z5l (show RepC μ c _ from hx) (Z78 hxs);obtain⟨b,off,cap,hsv,hc⟩:=hD.elem hz;have hlt:idx.toNat < xs.length:=(Y00.1 hz).1;refine⟨.pointer (some ⟨b,off+idx.toNat * n,none⟩),?_,b,off+idx.toNat * n,rfl,fun j c hj=>?_⟩
       .unfold Gives;have h1:0<=idx/\idx < (xs.length:Int):=⟨h0,by omega⟩;simp[execOp,ho,hsv,hy',Instr.indexAt,asIntOf,run_underlying hu,h1.1,h1.2,sizeOf,typeInfo,hi,hn,Z57]
       .obtain⟨u,hu,hr⟩:=hc j c hj;refine⟨u,.inl ?_,hr⟩;rw[<- hl.1];rw[Nat.add_assoc];exact hu
      .cases hv
     .cases hv
    .cases hv
   .cases hv
  .cases hv
 .split at hv
  .rename_i len n har;split at hv
   .rename_i l off k idx hcx hcy;rw[hcx] at hx;rw[hcy] at hy;have hy':a.eval y=.int k idx:=RepD.int_inv (m:=μ.cell) hy;split at hv
    .rename_i h0
     injection hv with hv
     subst hv;obtain⟨el,i,hu,hi,hn⟩:=Zq1 har;obtain⟨b,kk,h1,h2⟩:=(show ∃ b n,μ.loc l=some (some b,n)/\a.eval x=.pointer (some ⟨b,off,none⟩) from hx);refine⟨.pointer (some ⟨b,off+idx.toNat * n,none⟩),?_,b,kk,h1,rfl⟩;unfold Gives;simp[execOp,ho,h2,hy',Instr.indexAt,asIntOf,Instr.sureAddr,asAddr,run_underlying hu,h0.1,h0.2,sizeOf,typeInfo,hi,hn,Z57]
    .cases hv
   .cases hv
  .cases hv
theorem Zl0 {t el:TypeId} {i:TypeInfo} (hu:P.underlying t=some (.slice el)) (hi:P.info? el=some i) (ad:Option Addr) (len cap:Nat) (lo hi' mx:Option Value) (l h m:Nat)
  (hlo:(lo=none/\l=0)\/∃ k n,lo=some (.int k n)/\0<=n/\l=n.toNat) (hhi:(hi'=none/\h=len)\/∃ k n,hi'=some (.int k n)/\0<=n/\h=n.toNat) (hmx:(mx=none/\m=cap)\/∃ k n,mx=some (.int k n)/\0<=n/\m=n.toNat)
  (hmh:mx.isSome=true->hi'.isSome=true) (h1:l<=h) (h2:h<=m) (h3:m<=cap) :
  (Instr.sliceAt t (.slice ad len cap) lo hi' mx).run P w=.ok (.slice (if m=l then ad else ad.map (·.add (l * i.size))) (h - l) (m - l)) w:=by
 have e1:∀ (n:Int) (y:Nat) c (k:IntKind),0<=n->n.toNat<=y->(Instr.sliceBound (.int k n) y c).run P w=.ok n.toNat w:=fun n y c k h0 hy=>by
  have:0<=n/\n<=(y:Int):=⟨h0,by omega⟩
  simp[Instr.sliceBound,asIntOf,this.1,this.2]
 have e2:(Instr.sliceBounds true len cap lo hi' mx).run P w=.ok (l,h,m) w:=by
  unfold Instr.sliceBounds;rcases hmx with ⟨rfl,rfl⟩ | ⟨k'',n'',rfl,h5,rfl⟩
  .rcases hlo with ⟨rfl,rfl⟩ | ⟨k,n,rfl,h6,rfl⟩<;>rcases hhi with ⟨rfl,rfl⟩ | ⟨k',n',rfl,h4,rfl⟩
   .simp
   .simp[e1 n' m _ k' h4 h2]
   .simp[e1 n h _ k h6 h1]
   .simp[e1 n' m _ k' h4 h2,e1 n n'.toNat _ k h6 h1]
  .rcases hlo with ⟨rfl,rfl⟩ | ⟨k,n,rfl,h6,rfl⟩<;>rcases hhi with ⟨rfl,rfl⟩ | ⟨k',n',rfl,h4,rfl⟩
   .simp at hmh
   .simp[e1 n'' cap _ k'' h5 h3,e1 n' n''.toNat _ k' h4 h2]
   .simp at hmh
   .simp[e1 n'' cap _ k'' h5 h3,e1 n' n''.toNat _ k' h4 h2,e1 n n'.toNat _ k h6 h1]
 simp[Instr.sliceAt,Instr.slice,run_underlying hu,e2,sizeOf,typeInfo,hi]
theorem Zhf (hE:EnvRel μ e a) {x:Option Operand} {r:Option Nat} (hx:boundV e x=some r):(x=none/\r=none)\/∃ y k n,x=some y/\a.eval y=.int k n/\0<=n/\r=some n.toNat:=by
 cases x with
 | none=>simp[boundV] at hx;exact .inl ⟨rfl,hx.symm⟩
 | some y=>
   simp only[boundV] at hx;split at hx
   .rename_i k n hy;split at hx
    .rename_i h0;have hr:=ev_rep hE y;rw[hy] at hr;exact .inr ⟨y,k,n,rfl,RepD.int_inv (m:=μ.cell) hr,h0,by injection hx with hx;exact hx.symm⟩
    .cases hx
   .cases hx
theorem Zgc (hE:EnvRel μ e a) {x:Option Operand} {r:Option Nat} (hx:boundV e x=some r) (len:Nat):(x.map a.eval=none/\r.getD len=len)\/∃ k n,x.map a.eval=some (.int k n)/\0<=n/\r.getD len=n.toNat:=by
 rcases Zhf hE hx with ⟨rfl,rfl⟩ | ⟨y,k,n,rfl,h1,h2,rfl⟩
 .exact .inl ⟨rfl,rfl⟩
 .exact .inr ⟨k,n,by simp[h1],h2,rfl⟩
theorem RepD.sub {m:CM} {xs:List (List D)} {ad:Option Addr} {cap es:Nat} (h:RepD m (.sl xs) (.slice ad xs.length cap)) (hes:∀ x ∈ xs,x.length=es) {lo hi mx:Nat} (h1:lo<=hi) (h2:hi<=xs.length) (h3:hi<=mx) :
  RepD m (.sl ((xs.take hi).drop lo)) (.slice (if mx=lo then ad else ad.map (·.add (lo * es))) (hi - lo) (mx - lo)):=by
 have hlen:((xs.take hi).drop lo).length=hi - lo:=by simp;omega
 generalize hv:Value.slice ad xs.length cap=v at h;cases h with
 | sl xs a cap' es' b off f hl hc hes' ha hcell hrep=>
   injection hv with hv1 hv2 hv3
   subst hv1 hv3;rw[<- hlen]
   by_cases hne:(xs.take hi).drop lo=[]
   .rw[hne];exact .sl [] _ _ 0 0 0 (fun _ _=>undef) (by simp) (by simp) (by simp) (by simp) (by simp) (by simp)
   .have hxs:xs≠[]:=by rintro rfl;simp at hne
    have hee:es'=es:=by
     obtain⟨x,hx⟩:=List.exists_mem_of_ne_nil xs hxs;rw[<- hes' x hx,hes x hx]
    subst hee;have hlt:lo < hi:=by
     rcases Y0t lo hi with h | h
     .exact h
     .exfalso;apply hne;apply Y0o;omega
    have get:∀ (i:Nat) x,((xs.take hi).drop lo)[i]? = some x->xs[lo+i]? = some x:=fun i x hx=>by
     rw[Y16,Y15] at hx;split at hx
     .exact hx
     .cases hx
    have hcl:¬ mx=lo:=by omega
    rw[if_neg hcl,ha hxs];refine .sl _ _ _ es' b (off+lo * es') (fun i j=>f (lo+i) j) (by rw[hlen];omega) (by rw[hlen];omega) (fun x hx=>hes' x (Y2t (List.mem_of_mem_drop hx))) (fun _=>by simp[Addr.add]) (fun i x hx j c hj=>?_) (fun i x hx j c hj=>hrep _ x (get i x hx) j c hj)
    have:=hcell _ x (get i x hx) j c hj
    rw[show off+lo * es'+(i * es'+j)=off+((lo+i) * es'+j) by rw[Y0x];omega];exact this
theorem Zf1 (hE:EnvRel μ e a) {x:Option Operand} {r:Option Nat} (hx:boundV e x=some r):(x.map a.eval).isSome=r.isSome:=by
 rcases Zhf hE hx with ⟨rfl,rfl⟩ | ⟨y,k,n,rfl,_,_,rfl⟩<;>rfl
theorem Zie (hE:EnvRel μ e a) {t:Nat} {x:Operand} {lo hi mx:Option Operand} (ho:o.op=.slice t x lo hi mx) {v:V} (hv:eff P (.slice t x lo hi mx) e h=some v) :
  ∃ u,Gives P o a w u/\RepV μ v u:=by
 have hx:=ev_rep hE x;simp only[eff] at hv;split at hv
 .rename_i el n by_ hel;obtain⟨i,_,hu,hi',hn,_⟩:=Z5h hel;split at hv
  .rename_i c lo' hi'' mx' hcx hlo hhi hmx;rw[hcx] at hx;have hx':RepC μ c (a.eval x):=hx;have run:∀ ad len cap,a.eval x=.slice ad len cap->(mx'.isSome=true->hi''.isSome=true)->lo'.getD 0<=hi''.getD len->hi''.getD len<=mx'.getD cap->mx'.getD cap<=cap ->
     Gives P o a w (.slice (if mx'.getD cap=lo'.getD 0 then ad else ad.map (·.add (lo'.getD 0 * n))) (hi''.getD len - lo'.getD 0) (mx'.getD cap - lo'.getD 0)):=fun ad len cap he hs h1 h2 h3=>by
    have:=Zl0 (P:=P) (w:=w) hu hi' ad len cap (lo.map a.eval) (hi.map a.eval) (mx.map a.eval) _ _ _ (Zgc hE hlo 0) (Zgc hE hhi len) (Zgc hE hmx cap) (by rw[Zf1 hE hmx,Zf1 hE hhi];exact hs) h1 h2 h3
    rw[hn] at this;unfold Gives;simp[execOp,ho,he,this]
   cases hsc:sliceC n c lo' hi'' mx' with
   | none=>rw[hsc] at hv;cases hv
   | some c'=>
     rw[hsc] at hv;simp only[Y0h,Y06] at hv;subst hv;unfold sliceC at hsc;split at hsc
     .rename_i l off k cap;split at hsc
      .rename_i hb;obtain⟨⟨hb1,hb2⟩,hb3,hb4⟩:=hb;obtain⟨b,kk,h1,h2,h3⟩:=hx';refine⟨_,run _ _ _ h2 hb4 hb1 hb2 hb3,?_⟩;split at hsc
       .rename_i hlt
        injection hsc with hsc
        subst hsc;rw[if_neg (by omega)];exact⟨b,kk,h1,by simp[Addr.add],by omega⟩
       .injection hsc with hsc
        subst hsc;refine⟨(if mx'.getD cap=lo'.getD 0 then some ⟨b,off,none⟩ else (some ⟨b,off,none⟩:Option Addr).map (·.add (lo'.getD 0 * n))),?_⟩;rw[show hi''.getD k - lo'.getD 0=0 by omega,show mx'.getD cap - lo'.getD 0=0 by omega]
      .cases hsc
     .split at hsc
      .rename_i hb
       injection hsc with hsc
       subst hsc;have hv0:a.eval x=.slice none 0 0:=hx'
       have:=run none 0 0 hv0 hb.2.2.2 (by omega) (by omega) (by omega)
       refine⟨_,this,?_⟩;have e1:(if mx'.getD 0=lo'.getD 0 then (none:Option Addr) else (none:Option Addr).map (·.add (lo'.getD 0 * n)))=none:=by split<;>rfl
       rw[e1,hb.1,hb.2.1,hb.2.2.1];rfl
      .cases hsc
     .split at hsc
      .rename_i hb
       injection hsc with hsc
       subst hsc;obtain⟨ad,hv0⟩:=hx'
       have:=run ad 0 0 hv0 hb.2.2.2 (by omega) (by omega) (by omega)
       refine⟨_,this,?_⟩;rw[hb.1,hb.2.1,hb.2.2.1];exact⟨_,rfl⟩
      .cases hsc
     .split at hsc
      .rename_i xs hxs;have hD:=Z5l hx' (Z78 hxs);obtain⟨ad,cap,h1,h2,_⟩:=hD.slice;split at hsc
       .rename_i hm0;split at hsc
        .rename_i hz
         injection hsc with hsc
         subst hsc;refine⟨_,run _ _ _ h1 (by simp[hz.2]) (by simp[hz.1,hz.2]) (by simp[hz.2]) (by simp[hm0]),?_⟩;rw[hm0,hz.1,hz.2];exact⟨_,rfl⟩
        .cases hsc
       .split at hsc
        .rename_i hb;obtain⟨⟨⟨hb1,hb2⟩,⟨hb3,hb4⟩,hb5⟩,hb6⟩:=hb
         injection hsc with hsc
         subst hsc;have hq:hi''.getD xs.length<=mx'.getD cap/\mx'.getD cap<=cap:=by
          cases mx' with
          | none=>simp only[Option.getD_none] at *;omega
          | some m=>simp only[Option.getD_some] at *;omega
         refine⟨_,run _ _ _ h1 hb5 hb1 hq.1 hq.2,?_⟩;rw[h1] at hD;exact hD.sub hb6 hb1 hb2 hq.1
        .cases hsc
      .cases hsc
  .cases hv
 .split at hv
  .rename_i hst;split at hv
   .rename_i y;split at hv
    .rename_i s kk n hcx hcy;have hy:=ev_rep hE y;rw[hcx] at hx;rw[hcy] at hy;have hy':a.eval y=.int kk n:=RepD.int_inv (m:=μ.cell) hy;have hx':a.eval x=.string s:=RepD.str_inv (m:=μ.cell) hx;split at hv
     .rename_i hb
      injection hv with hv
      subst hv;have hu:=Zlc hst;refine⟨.string (s.extract 0 n.toNat),?_,RepD.str _⟩;unfold Gives;simp[execOp,ho,hx',hy',Instr.sliceAt,run_underlying hu,run_slice_string_h w t s hu kk n hb.1 hb.2]
     .cases hv
    .cases hv
   .cases hv
  .cases hv
theorem Zif (hE:EnvRel μ e a) {t:Nat} {x y:Operand} (ho:o.op=.index t x y) {v:V} (hv:eff P (.index t x y) e h=some v) :
  ∃ u,Gives P o a w u/\RepV μ v u:=by
 have hx:=ev_rep hE x;have hy:=ev_rep hE y;simp only[eff] at hv;split at hv
 .rename_i hs;have hu:P.underlying t=some .string:=by
   unfold isStr at hs;split at hs
   .assumption
   .cases hs
  split at hv
  .rename_i s k idx hcx hcy;rw[hcx] at hx;rw[hcy] at hy;have hx':a.eval x=.string s:=RepD.str_inv (m:=μ.cell) hx;have hy':a.eval y=.int k idx:=RepD.int_inv (m:=μ.cell) hy;split at hv
   .rename_i h0;split at hv
    .rename_i z hz
     injection hv with hv
     subst hv;refine⟨_,?_,.int _ _⟩;unfold Gives;simp[execOp,ho,hx',hy',Instr.index,asIntOf,run_underlying hu,h0,hz]
    .cases hv
   .cases hv
  .cases hv
 .cases hv
theorem Zlg (hE:EnvRel μ e a) {c x y:Operand} (ho:o.op=.pick c x y) {v:V} (hv:eff P (.pick c x y) e h=some v) :
  ∃ u,Gives P o a w u/\RepV μ v u:=by
 have hc:=ev_rep hE c;simp only[eff] at hv;split at hv
 .rename_i t ht;rw[ht] at hc;have hc':a.eval c=.bool t:=RepD.bool_inv (m:=μ.cell) hc
  injection hv with hv
  subst hv;cases t with
  | true=>exact⟨_,by unfold Gives;simp[execOp,ho,hc',asBool],ev_rep hE x⟩
  | false=>exact⟨_,by unfold Gives;simp[execOp,ho,hc',asBool],ev_rep hE y⟩
 .cases hv
theorem Zlf (hE:EnvRel μ e a) {op:UnOp} {t:Nat} {x:Operand} (ho:o.op=.unOp op t x) {v:V} (hv:eff P (.unOp op t x) e h=some v) :
  ∃ u,Gives P o a w u/\RepV μ v u:=by
 have hx:=ev_rep hE x;simp only[eff] at hv;split at hv
 .rename_i b hb;rw[hb] at hx;have hx':a.eval x=.bool b:=RepD.bool_inv (m:=μ.cell) hx
  injection hv with hv
  subst hv;exact⟨_,by unfold Gives;simp[execOp,ho,hx',Op.unary],RepD.bool _⟩
 .cases hv
theorem Zg1 (hE:EnvRel μ e a) {i:Nat} {x:Operand} (ho:o.op=.extract x i) {v:V} (hv:eff P (.extract x i) e h=some v) :
  ∃ u,Gives P o a w u/\RepV μ v u:=by
 have hx:=ev_rep hE x;simp only[eff] at hv;split at hv
 .rename_i vs ht;rw[ht] at hx;obtain⟨us,hus,_,hR⟩:=(show ∃ us:Array Value,a.eval x=.tuple us/\us.size=vs.length/\∀ (i:Nat) x,vs[i]? = some x->∃ u,us[i]? = some u/\RepV1 μ x u from hx);obtain⟨u,hu,hr⟩:=hR i v hv;refine⟨u,by unfold Gives;simp[execOp,ho,hus,Instr.extract,hu],?_⟩;cases v with
  | tup _=>exact hr.elim
  | _=>exact hr
 .cases hv
theorem Zn7 {l:List Operand} (hE:EnvRel μ e a):∀ {caps:List Cap},l.mapM (fun x=>match e.ev x with | .one (.ptr l 0)=>some (Cap.lab l) | .one (.rp cs)=>some (Cap.rp cs) | _=>none)=some caps ->
  caps.length=l.length/\∀ (i:Nat) c,caps[i]? = some c->∃ x,l[i]? = some x/\RepCap μ c (a.eval x):=by
 induction l with
 | nil=>intro caps hc;simp at hc;subst hc;exact⟨rfl,fun i c hi=>by simp at hi⟩
 | cons x l ih=>
   intro caps hc;rw[List.mapM_cons] at hc;simp only[Option.bind_eq_bind,Option.bind_eq_some_iff,Option.pure_def,Y06] at hc;obtain⟨c,hcx,cs,hcs,rfl⟩:=hc;obtain⟨hl,hr⟩:=ih hcs;refine⟨by simp[hl],fun i c' hi=>?_⟩;cases i with
   | zero=>
     simp at hi;subst hi;refine⟨x,by simp,?_⟩;have hx:=ev_rep hE x;split at hcx
     .rename_i l' he;rw[he] at hx
      injection hcx with hcx
      subst hcx;exact hx
     .rename_i ds he;rw[he] at hx
      injection hcx with hcx
      subst hcx;exact hx
     .cases hcx
   | succ i=>obtain⟨y,h1,h2⟩:=hr i c' (by simpa using hi);exact⟨y,by simpa using h1,h2⟩
theorem Zed (hE:EnvRel μ e a) {fn:Fn} {first caps:Array Operand} (ho:o.op=.makeFunc fn first caps) {v:V} (hv:eff P (.makeFunc fn first caps) e h=some v) :
  ∃ u,Gives P o a w u/\RepV μ v u:=by
 cases fn with
 | func f=>
   simp only[eff] at hv;split at hv
   .rename_i hfirst;split at hv
    .rename_i l hl
     injection hv with hv
     subst hv;obtain⟨hlen,hR⟩:=Zn7 hE hl;have hf:first=#[]:=by simpa using hfirst
     subst hf;refine⟨.func (.func f) #[] (caps.map a.eval),by unfold Gives;simp[execOp,ho,Instr.makeFunc],caps.map a.eval,rfl,by simp[hlen],fun i c hi=>?_⟩;obtain⟨x,hx,hr⟩:=hR i c hi;exact⟨a.eval x,by simp only[Array.getElem?_toList] at hx;simp[hx],hr⟩
    .cases hv
   .cases hv
 | _=>simp[eff] at hv
theorem Zh9 (hE:EnvRel μ e a) {c:Call} (ho:o.op=.call c) {v:V} (hv:eff P (.call c) e h=some v) :
  ∃ u,Gives P o a w u/\RepV μ v u:=by
 simp only[eff] at hv;split at hv
 .rename_i x y hcal hargs;have hx:=ev_rep hE x;have hy:=ev_rep hE y;have hargs':c.args=#[x,y]:=by cases hc:c.args;simp_all
  split at hv
  .rename_i k n k' m hcx hcy;rw[hcx] at hx;rw[hcy] at hy;have hx':a.eval x=.int k n:=RepD.int_inv (m:=μ.cell) hx;have hy':a.eval y=.int k' m:=RepD.int_inv (m:=μ.cell) hy
   injection hv with hv
   subst hv;exact⟨_,by unfold Gives;simp[execOp,ho,resolve,hcal,hargs',invoke,builtin,hx',hy',Builtin.max_,Builtin.max2],RepD.int _ _⟩
  .cases hv
 .rename_i x y hcal hargs;have hx:=ev_rep hE x;have hy:=ev_rep hE y;have hargs':c.args=#[x,y]:=by cases hc:c.args;simp_all
  split at hv
  .rename_i k n k' m hcx hcy;rw[hcx] at hx;rw[hcy] at hy;have hx':a.eval x=.int k n:=RepD.int_inv (m:=μ.cell) hx;have hy':a.eval y=.int k' m:=RepD.int_inv (m:=μ.cell) hy
   injection hv with hv
   subst hv;exact⟨_,by unfold Gives;simp[execOp,ho,resolve,hcal,hargs',invoke,builtin,hx',hy',Builtin.min_,Builtin.min2],RepD.int _ _⟩
  .cases hv
 .cases hv
theorem Zec (hE:EnvRel μ e a) {x:Operand} (ho:o.op=.nilCheck x) {v:V} (hv:eff P (.nilCheck x) e h=some v) :
  ∃ u,Gives P o a w u/\RepV μ v u:=by
 have hx:=ev_rep hE x;simp only[eff] at hv;split at hv
 .rename_i l off hc;rw[hc] at hx
  injection hv with hv
  subst hv;obtain⟨b,n,h1,h2⟩:=(show ∃ b n,μ.loc l=some (some b,n)/\a.eval x=.pointer (some ⟨b,off,none⟩) from hx);exact⟨_,by unfold Gives;simp[execOp,ho,h2],b,n,h1,rfl⟩
 .rename_i cs hc;rw[hc] at hx
  injection hv with hv
  subst hv;obtain⟨b,off,h2,h3⟩:=(show RepP μ.cell μ.tmp cs (a.eval x) from hx);exact⟨_,by unfold Gives;simp[execOp,ho,h2],b,off,rfl,h3⟩
 .cases hv
theorem Zg2 (hE:EnvRel μ e a) {s t:Nat} {x:Operand} (ho:o.op=.convert s t x) {v:V} (hv:eff P (.convert s t x) e h=some v) :
  ∃ u,Gives P o a w u/\RepV μ v u:=by
 have hx:=ev_rep hE x;simp only[eff] at hv;split at hv
 .rename_i k n hc;rw[hc] at hx;have hx':a.eval x=.int k n:=RepD.int_inv (m:=μ.cell) hx;split at hv
  .rename_i d k' hs ht
   injection hv with hv
   subst hv;exact⟨_,by unfold Gives;simp[execOp,ho,hx',convert,run_underlying hs,run_underlying ht,Conv.intToInt],RepD.int _ _⟩
  .cases hv
 .cases hv
theorem Zdo (hI:Inv Γ h μ w) (hE:EnvRel μ e a) {v:V} (hv:eff P o.op e h=some v):∃ u,Gives P o a w u/\RepV μ v u:=by
 cases ho:o.op with
 | move x=>rw[ho] at hv;simp[eff] at hv;subst hv;exact⟨_,by unfold Gives;simp[execOp,ho],ev_rep hE x⟩
 | assign x=>rw[ho] at hv;simp[eff] at hv;subst hv;exact⟨_,by unfold Gives;simp[execOp,ho],ev_rep hE x⟩
 | pick c x y=>rw[ho] at hv;exact Zlg hE ho hv
 | binOp op t x y t'=>rw[ho] at hv;exact Zih hE ho (by simpa[eff] using hv)
 | unOp op t x=>rw[ho] at hv;exact Zlf hE ho hv
 | fieldAddr t x f=>rw[ho] at hv;exact Zdn hE ho hv
 | field t x f=>rw[ho] at hv;exact Zig hE ho hv
 | load t x=>rw[ho] at hv;exact Zlh hI hE ho hv
 | indexAddr t x i=>rw[ho] at hv;exact Zdm hE ho hv
 | index t x i=>rw[ho] at hv;exact Zif hE ho hv
 | extract x i=>rw[ho] at hv;exact Zg1 hE ho hv
 | nilCheck x=>rw[ho] at hv;exact Zec hE ho hv
 | convert s t x=>rw[ho] at hv;exact Zg2 hE ho hv
 | makeFunc fn first caps=>rw[ho] at hv;exact Zed hE ho hv
 | slice t x lo hi mx=>rw[ho] at hv;exact Zie hE ho hv
 | call c=>rw[ho] at hv;exact Zh9 hE ho hv
 | _=>rw[ho] at hv;simp[eff] at hv
end
end Go.Am
end
section
namespace Go.Am
open Go
open Go.RowKit (Below)
theorem Z5g (w:World) (ob:Obj) {k:Nat} (hk:k < w.heap.size):(w.alloc ob).heap[k]? = w.heap[k]?:=Below.heap_alloc w ob k hk
theorem Z3z {w:World} {b:Nat} {ob:Obj} (h:w.heap[b]? = some ob):b < w.heap.size:=(Y0u.1 h).1
theorem Cells.lt {m:CM} {w:World} (h:Cells m w) {b o:Nat} {v:Value} (hm:m b o=some v):b < w.heap.size:=World.block_lt_of_cell? w ⟨b,o,none⟩ (h _ _ _ hm)
theorem Cells.alloc {m:CM} {w:World} (h:Cells m w) (ob:Obj):Cells m (w.alloc ob):=fun b o v hm=>by
 rw[World.cell?_alloc_lt w ob ⟨b,o,none⟩ (h.lt hm)];exact h _ _ _ hm
theorem Cells.of_heap {m:CM} {w w':World} (h:Cells m w) (hh:∀ b o v,m b o=some v->w'.heap[b]? = w.heap[b]?):Cells m w':=fun b o v hm=>by
 rw[World.cell?_of_block (w:=w) (a:=⟨b,o,none⟩) (hh b o v hm)];exact h _ _ _ hm
def Mem.addLoc (μ:Mem) (l:Lab) (x:Option Nat × Nat):Mem:={ μ with loc:=fun k=>if k=l then some x else μ.loc k }
theorem Mem.le_addLoc {μ:Mem} {l:Lab} {x:Option Nat × Nat} (h:μ.loc l=none):Mem.Le μ (μ.addLoc l x):=
 ⟨Sub.refl _,rfl,fun k y hk=>by
  simp only[Mem.addLoc]
  by_cases e:k=l
  .subst e;rw[h] at hk;cases hk
  .simp[e,hk]⟩
theorem Mem.addLoc_same {μ:Mem} {l:Lab} {x:Option Nat × Nat}:(μ.addLoc l x).loc l=some x:=by simp[Mem.addLoc]
theorem Mem.addLoc_ne {μ:Mem} {l k:Lab} {x:Option Nat × Nat} (h:k≠l):(μ.addLoc l x).loc k=μ.loc k:=by simp[Mem.addLoc,h]
section
variable {P:Program} {o:Oper} {a:Act} {w w':World} {e:Env} {h:HS} {μ μ':Mem} {Γ:Ctx}
theorem Inv.free (hI:Inv Γ h μ w) {l:Lab} (hl:l.1=h.ep):μ.loc l=none:=by
 cases hx:μ.loc l with
 | none=>rfl
 | some x=>have:=hI.lt l (by simp[hx]);omega
theorem Inv.box_lt (hI:Inv Γ h μ w) {l:Lab} (hb:h.box l≠none):∃ b n,μ.loc l=some (some b,n)/\b < w.heap.size:=by
 cases hc:h.box l with
 | none=>exact absurd hc hb
 | some cs=>obtain⟨b,n,T,conc,hl,_,hh,_⟩:=hI.box l cs hc;exact⟨b,n,hl,Z3z hh⟩
theorem Inv.live_lt (hI:Inv Γ h μ w) {l:Lab} (hv:h.live l) {b n:Nat} (hl:μ.loc l=some (some b,n)):b < w.heap.size:=by
 rcases hv with hb | ha
 .obtain⟨b',n',hl',hlt⟩:=hI.box_lt hb;rw[hl] at hl';simp only[Y06,Y07] at hl';rw[hl'.1];exact hlt
 .cases hc:h.arr l with
  | none=>exact absurd hc ha
  | some x=>
    obtain⟨n',es⟩:=x;obtain⟨gc,hl',hr⟩:=hI.arr l es n' hc;rw[hl] at hl'
    injection hl' with hl'
    subst hl';obtain⟨_,T,cur,hh,_⟩:=hr.2 b rfl;exact Z3z hh
theorem Inv.live_loc (hI:Inv Γ h μ w) {l:Lab} (hv:h.live l):l.1 < h.ep:=by
 refine hI.lt l ?_;rcases hv with hb | ha
 .obtain⟨b,n,hl,_⟩:=hI.box_lt hb;simp[hl]
 .cases hc:h.arr l with
  | none=>exact absurd hc ha
  | some x=>
    obtain⟨n',es⟩:=x;obtain⟨gc,hl',_⟩:=hI.arr l es n' hc;simp[hl']
theorem RowOK.keep {m m':CM} {w w':World} {base es n:Nat} {gc:Option Nat × Nat} (h:RowOK m w base gc es n) (hh:∀ g,gc.1=some g->w'.heap[g]? = w.heap[g]?)
  (hm:∀ g o,gc.1=some g->m g o=none->m' g o=none):RowOK m' w' base gc es n:=
 ⟨h.1,fun g hg=>by
  obtain⟨hb,T,cur,h1,h2,h3,h4,h5⟩:=h.2 g hg;exact⟨hb,T,cur,by rw[hh g hg];exact h1,h2,h3,h4,fun o ho=>hm g o hg (h5 o ho)⟩⟩
theorem Zdf {l k:Lab} {cs:List C} (hk:((h.setBox l cs).next).live k):k=l\/h.live k:=by
 by_cases e:k=l
 .exact .inl e
 .refine .inr ?_;rcases hk with hk | hk
  .left;simpa[HS.setBox,HS.next,e] using hk
  .right;simpa[HS.setBox,HS.next] using hk
theorem Z8m {l k:Lab} {x:Option (Nat × Nat)} (hk:((h.setArr l x).next).live k):k=l\/h.live k:=by
 by_cases e:k=l
 .exact .inl e
 .refine .inr ?_;rcases hk with hk | hk
  .left;simpa[HS.setArr,HS.next] using hk
  .right;simpa[HS.setArr,HS.next,e] using hk
theorem Inv.addBox (hI:Inv Γ h μ w) {l:Lab} (hl:l.1=h.ep) {cs:List C} {conc:Array Value} {T:TypeId} (hc:RepCs μ cs conc) :
  Inv Γ ((h.setBox l cs).next) (μ.addLoc l (some w.heap.size,0)) (w.alloc (.cells conc T)):=by
 have hfree:=hI.free hl;have hle:Mem.Le μ (μ.addLoc l (some w.heap.size,0)):=Mem.le_addLoc hfree;have hne:∀ k,h.live k->k≠l:=fun k hk e=>by have:=hI.live_loc hk;subst e;omega
 have hsz:=hI.below.size;refine⟨hI.cell.alloc _,hI.tmp,hI.tcell.alloc _,hI.told,hI.ext,hI.old,hI.below.alloc hsz _,?_,?_,?_,?_,?_⟩
 .intro k cs' hk
  by_cases e:k=l
  .subst e
   have:cs'=cs:=by simpa[HS.setBox,HS.next] using hk.symm
   subst this;refine⟨w.heap.size,0,T,conc,Mem.addLoc_same,hsz,heap_alloc_new w _,hc.mono hle,fun o=>?_⟩;cases hx:μ.cell w.heap.size o with
   | none=>exact hx
   | some v=>have:=hI.cell.lt hx;omega
  .have hk':h.box k=some cs':=by simpa[HS.setBox,HS.next,e] using hk
   obtain⟨b,n,T',conc',h1,h2,h3,h4,h5⟩:=hI.box k cs' hk';exact⟨b,n,T',conc',by rw[Mem.addLoc_ne e];exact h1,h2,by rw[Z5g w _ (Z3z h3)];exact h3,h4.mono hle,h5⟩
 .intro k es n hk;have hk':h.arr k=some (n,es):=by simpa[HS.setBox,HS.next] using hk
  have e:k≠l:=hne k (.inr (by simp[hk']));obtain⟨gc,h1,h2⟩:=hI.arr k es n hk';refine⟨gc,by rw[Mem.addLoc_ne e];exact h1,h2.keep (fun g hg=>?_) (fun g o _ h=>h)⟩;obtain⟨_,T',cur,hh,_⟩:=h2.2 g hg;exact Z5g w _ (Z3z hh)
 .intro k k' b n n' hk hk' h1 h2;rcases Zdf hk with e | hv<;>rcases Zdf hk' with e' | hv'
  .rw[e,e']
  .subst e;rw[Mem.addLoc_same] at h1;rw[Mem.addLoc_ne (hne _ hv')] at h2;simp only[Y06,Y07] at h1
   have:=hI.live_lt hv' h2
   omega
  .subst e';rw[Mem.addLoc_same] at h2;rw[Mem.addLoc_ne (hne _ hv)] at h1;simp only[Y06,Y07] at h2
   have:=hI.live_lt hv h1
   omega
  .rw[Mem.addLoc_ne (hne _ hv)] at h1;rw[Mem.addLoc_ne (hne _ hv')] at h2;exact hI.inj k k' b n n' hv hv' h1 h2
 .intro k hk
  by_cases e:k=l
  .subst e;simp[HS.setBox,HS.next,hl]
  .rw[Mem.addLoc_ne e] at hk
   have:=hI.lt k hk
   simp[HS.setBox,HS.next];omega
 .intro k h1 h2;have h2':h.arr k≠none:=by simpa[HS.setBox,HS.next] using h2
  have e:k≠l:=hne k (.inr h2');exact hI.both k (by simpa[HS.setBox,HS.next,e] using h1) h2'
theorem Inv.newBlock (hI:Inv Γ h μ w) {conc:Array Value} {T:TypeId}:Inv Γ h μ (w.alloc (.cells conc T)):=by
 refine⟨hI.cell.alloc _,hI.tmp,hI.tcell.alloc _,hI.told,hI.ext,hI.old,hI.below.alloc hI.below.size _,?_,?_,hI.inj,hI.lt,hI.both⟩
 .intro k cs' hk;obtain⟨b,n,T',conc',h1,h2,h3,h4,h5⟩:=hI.box k cs' hk;exact⟨b,n,T',conc',h1,h2,by rw[Z5g w _ (Z3z h3)];exact h3,h4,h5⟩
 .intro k es n hk;obtain⟨gc,h1,h2⟩:=hI.arr k es n hk;refine⟨gc,h1,h2.keep (fun g hg=>?_) (fun g o _ h=>h)⟩;obtain⟨_,T',cur,hh,_⟩:=h2.2 g hg;exact Z5g w _ (Z3z hh)
def Owes (P:Program) (Γ:Ctx) (μ:Mem) (o:Oper) (a:Act) (w:World) (K:Env->HS->Prop):Prop:=
 ∀ (next:Act->World->Prop) (Q:Exit->Act->World->Prop),(∀ e' h' μ' a' w',K e' h'->Inv Γ h' μ' w'->EnvRel μ' e' a'->Mem.Le μ μ'->next a' w')->o.wp P a w next Q
theorem Z0l {K:Env->HS->Prop} {u:Value} {v:V} {h':HS} (hrun:(execOp a.eval o).run P w=.ok (.value u) w') (hE:EnvRel μ e a) (hle:Mem.Le μ μ') (hI':Inv Γ h' μ' w')
  (hd:dstOK o e) (hv:RepV μ' v u) (hK:K (e.put o.dst v) h'):Owes P Γ μ o a w K:=by
 intro next Q hn;unfold Oper.wp;rw[hrun];refine hn _ _ μ' _ _ hK hI' ((hE.mono hle).put (fun d hd'=>?_) hv) hle;unfold dstOK at hd;rw[hd'] at hd;exact hd
theorem Zn2 {K:Env->HS->Prop} {h':HS} (hrun:(execOp a.eval o).run P w=.ok .skip w') (hE:EnvRel μ e a) (hle:Mem.Le μ μ') (hI':Inv Γ h' μ' w')
  (hd:dstOK o e) (hK:K (e.put o.dst .undef) h'):Owes P Γ μ o a w K:=by
 intro next Q hn;unfold Oper.wp;rw[hrun];refine hn _ _ μ' _ _ hK hI' ((hE.mono hle).put (fun d hd'=>?_) rfl) hle;unfold dstOK at hd;rw[hd'] at hd;exact hd
theorem Zfp {K:Env->HS->Prop} (hI:Inv Γ h μ w) (hE:EnvRel μ e a) (hd:dstOK o e) {v:V} (hv:eff P o.op e h=some v) (hK:K (e.put o.dst v) h):Owes P Γ μ o a w K:=by
 obtain⟨u,hrun,hr⟩:=Zdo hI hE hv;exact Z0l hrun hE (Mem.Le.refl μ) hI hd hr hK
theorem Zph {K:Env->HS->Prop} (hI:Inv Γ h μ w) (hE:EnvRel μ e a) (hd:dstOK o e) {t:TypeId} {x:Operand} (ho:o.op=.box t x) (hv:vcOp P o e h K):Owes P Γ μ o a w K:=by
 simp only[vcOp,ho] at hv;obtain⟨hne,hK⟩:=hv;have hc:=Z9p (ev_rep hE x) hne;have hl:((h.ep,16 * dstN o):Lab).1=h.ep:=rfl;refine Z0l (μ':=μ.addLoc (h.ep,16 * dstN o) (some w.heap.size,0)) (u:=.pointer (some ⟨w.heap.size,0,none⟩)) (w':=w.alloc (.cells (a.eval x).cells t)) ?_ hE (Mem.le_addLoc (hI.free hl)) (hI.addBox hl hc) hd ?_ hK
 .simp[execOp,ho,Instr.box,newVar,newRow,newObj,Sem.run,bind,Sem.bind,pure]
 .exact⟨w.heap.size,0,Mem.addLoc_same,rfl⟩
theorem Za9 {t:TypeId} {cs:List C} (hz:zeT P t=some cs) (μ:Mem):∃ i z,P.info? t=some i/\i.zero=some z/\RepCs μ cs z.cells:=by
 unfold zeT at hz;split at hz
 .rename_i i hi;split at hz
  .rename_i z hzz;split at hz
   .rename_i hall
    injection hz with hz
    subst hz;refine⟨i,z,hi,hzz,by simp,fun j c hj=>?_⟩;rw[Y0b] at hj;cases hc:z.cells[j]? with
    | none=>simp[hc] at hj
    | some u=>
      simp[hc] at hj;refine⟨u,rfl,?_⟩;rw[<- hj];refine Zc1 μ u ?_;rw[Array.all_eq_true] at hall;obtain⟨hlt,he⟩:=Y0u.1 hc;rw[<- he];exact hall j hlt
   .cases hz
  .cases hz
 .cases hz
theorem Zl8 {K:Env->HS->Prop} (hI:Inv Γ h μ w) (hE:EnvRel μ e a) (hd:dstOK o e) {t:TypeId} (ho:o.op=.alloc t) (hv:vcOp P o e h K):Owes P Γ μ o a w K:=by
 simp only[vcOp,ho] at hv;split at hv
 .rename_i cs hz;obtain⟨i,z,hi,hzz,hc⟩:=Za9 hz μ;have hl:((h.ep,16 * dstN o):Lab).1=h.ep:=rfl;refine Z0l (μ':=μ.addLoc (h.ep,16 * dstN o) (some w.heap.size,0)) (u:=.pointer (some ⟨w.heap.size,0,none⟩)) (w':=w.alloc (.cells z.cells t)) ?_ hE (Mem.le_addLoc (hI.free hl)) (hI.addBox hl hc) hd ?_ hv
  .simp[execOp,ho,Instr.alloc,zeroValue,typeInfo,hi,hzz,newVar,newRow,newObj];rfl
  .exact⟨w.heap.size,0,Mem.addLoc_same,rfl⟩
 .exact hv.elim
theorem Z6m {cs vs:List C} {off:Nat} {conc us:Array Value} (h1:RepCs μ cs conc) (h2:RepCs μ vs us) (hl:off+vs.length<=cs.length) :
  RepCs μ (Z01 cs off vs) (conc.toList.take off++us.toList++conc.toList.drop (off+us.size)).toArray:=by
 have hs1:=h1.1;have hs2:=h2.1;refine⟨by simp[Z01];omega,fun i c hi=>?_⟩;simp only[Z01,Y0n] at hi;simp only[Y2n,Y0n];have hlt:(cs.take off).length=off:=by rw[Y12];omega
 have hlt':(conc.toList.take off).length=off:=by rw[Y12,Y0i];omega
 rw[Y1i,hlt] at hi;rw[Y1i,hlt'];split at hi
 .rename_i hio;rw[if_pos hio];rw[Y15,if_pos hio] at hi |-;simpa using h1.2 i c hi
 .rename_i hio;rw[if_neg hio];rw[Y1i] at hi;rw[Y1i];have hs2':us.toList.length=vs.length:=by rw[Y0i];exact hs2
  rw[hs2'];split at hi
  .rename_i hio2;rw[if_pos hio2];simpa using h2.2 _ c hi
  .rename_i hio2;rw[if_neg hio2];rw[Y16] at hi |-;have he:off+us.size+(i - off - vs.length)=off+vs.length+(i - off - vs.length):=by rw[hs2]
   rw[he];simpa using h1.2 _ c hi
theorem Inv.setBox (hI:Inv Γ h μ w) {l:Lab} {cs cs':List C} (hb:h.box l=some cs) {b n:Nat} {T:TypeId} {conc conc':Array Value} (hloc:μ.loc l=some (some b,n))
  (hh:w.heap[b]? = some (.cells conc T (0,0))) (hc:RepCs μ cs' conc'):Inv Γ (h.setBox l cs') μ (w.setRow b conc'):=by
 obtain⟨b',n',T',conc0,hl',hbase,_,_,hnone⟩:=hI.box l cs hb;rw[hloc] at hl';simp only[Y06,Y07] at hl';obtain⟨rfl,rfl⟩:=hl';have hlive:h.live l:=.inl (by simp[hb]);have hoth:∀ k,k≠b->(w.setRow b conc').heap[k]? = w.heap[k]?:=fun k hk=>setRow_other w b k conc' hk;refine⟨hI.cell.of_heap (fun b' o v hm=>hoth b' ?_),hI.tmp,hI.tcell.of_heap (fun b' o v hm=>hoth b' ?_),hI.told,hI.ext,hI.old,?_,?_,?_,?_,hI.lt,?_⟩
 .rintro rfl;rw[hnone o] at hm;cases hm
 .rintro rfl;have:=hI.told _ _ _ hm;omega
 .refine hI.below.trans ⟨rfl,rfl,rfl,by simp,fun k hk=>hoth k (by omega)⟩
 .intro k cs0 hk
  by_cases e:k=l
  .subst e
   have:cs0=cs':=by simpa[HS.setBox] using hk.symm
   subst this;exact⟨b,n,T,conc',hloc,hbase,setRow_heap w b conc conc' T (0,0) hh,hc,hnone⟩
  .have hk':h.box k=some cs0:=by simpa[HS.setBox,e] using hk
   obtain⟨b1,n1,T1,conc1,h1,h2,h3,h4,h5⟩:=hI.box k cs0 hk';have hne:b1≠b:=by
    rintro rfl;exact e (hI.inj k l b1 n1 n (.inl (by simp[hk'])) hlive h1 hloc)
   exact⟨b1,n1,T1,conc1,h1,h2,by rw[hoth _ hne];exact h3,h4,h5⟩
 .intro k es n1 hk;have hk':h.arr k=some (n1,es):=by simpa[HS.setBox] using hk
  obtain⟨gc,h1,h2⟩:=hI.arr k es n1 hk';refine⟨gc,h1,h2.keep (fun g hg=>hoth g ?_) (fun _ _ _ h=>h)⟩;rintro rfl;obtain⟨g1,c1⟩:=gc;simp at hg;subst hg;have e:=hI.inj k l g c1 n (.inr (by simp[hk'])) hlive h1 hloc;subst e;exact hI.both k (by simp[hb]) (by simp[hk'])
 .intro k k' b1 n1 n2 hk hk' h1 h2;have up:∀ k,(h.setBox l cs').live k->h.live k:=fun k hk=>by
   by_cases e:k=l
   .subst e;exact hlive
   .rcases hk with hk | hk
    .left;simpa[HS.setBox,e] using hk
    .right;simpa[HS.setBox] using hk
  exact hI.inj k k' b1 n1 n2 (up k hk) (up k' hk') h1 h2
 .intro k h1 h2;have h2':h.arr k≠none:=by simpa[HS.setBox] using h2
  by_cases e:k=l
  .subst e;exact hI.both k (by simp[hb]) h2'
  .exact hI.both k (by simpa[HS.setBox,e] using h1) h2'
end
end Go.Am
end
section
namespace Go.Am
open Go
open Go.RowKit (Below)
section
variable {P:Program} {o:Oper} {a:Act} {w w':World} {e:Env} {h:HS} {μ μ':Mem} {Γ:Ctx} {K:Env->HS->Prop}
theorem Zl1 (hI:Inv Γ h μ w) (hE:EnvRel μ e a) (hd:dstOK o e) {t:TypeId} {x y:Operand} (ho:o.op=.store t x y) (hv:vcOp P o e h K):Owes P Γ μ o a w K:=by
 simp only[vcOp,ho] at hv;split at hv
 .rename_i ag n hld;obtain⟨d,i,hd',_,hi,hn⟩:=Zfw hld;split at hv
  .rename_i l off hx;split at hv
   .rename_i cs hb;obtain⟨⟨hlen,hn0,hfit⟩,hK⟩:=hv;have hxv:=ev_rep hE x;rw[hx] at hxv;obtain⟨b,n',hloc,hp⟩:=(show RepC μ (.ptr l off) _ from hxv);obtain⟨b1,n1,T,conc,hloc1,hbase,hh,hR,hnone⟩:=hI.box l cs hb;rw[hloc] at hloc1;simp only[Y06,Y07] at hloc1;obtain⟨rfl,rfl⟩:=hloc1;have hne:(e.ev y).cells≠[]:=by intro he;rw[he] at hlen;simp at hlen;omega
    have hyR:=Z9p (ev_rep hE y) hne;have hsz:(a.eval y).cells.size=n:=by rw[hyR.1,hlen]
    have hcs:=hR.1;have hst:=run_storeCells_at P b off T (a.eval y).cells.toList 0 conc w hh (by rw[Y0i,hsz,hcs];omega) hyR.all;simp only[Y1q] at hst;refine Zn2 (w':=w.setRow b (conc.toList.take off++(a.eval y).cells.toList++conc.toList.drop (off+(a.eval y).cells.size)).toArray) ?_ hE (Mem.Le.refl μ)
     (hI.setBox hb hloc hh (Z6m hR hyR (by rw[hlen];omega))) hd hK
    have hsz':i.size=(a.eval y).cells.size:=by rw[hsz,hn]
    simp only[Y0i] at hst;simp[execOp,ho,hp,Instr.storeAt,Instr.sureAddr,storeVar,sizeOf,typeInfo,hi,hsz',hst]
   .exact hv.elim
  .exact hv.elim
 .exact hv.elim
theorem Zdr (vs:List Value):∀ (k:Nat) (cur:Array Value) (off:Nat),off+k+vs.length<=cur.size ->
  (vs.zipIdx k).foldl (fun cs x=>cs.setIfInBounds (off+x.2) x.1) cur=(cur.toList.take (off+k)++vs++cur.toList.drop (off+k+vs.length)).toArray:=by
 induction vs with
 | nil=>intro k cur off _;simp
 | cons v vs ih=>
   intro k cur off hl;simp only[Y22] at hl;rw[List.zipIdx_cons,List.foldl_cons,ih (k+1) _ off (by simp;omega)];have hs:=list_seg_step cur.toList (off+k) v vs (by simp;omega);have h1:(cur.setIfInBounds (off+k) v).toList=cur.toList.set (off+k) v:=by simp
   rw[h1];rw[show off+(k+1)=off+k+1 by omega,hs];simp only[Y22]
theorem Zey (hE:EnvRel μ e a) {pl:List (Nat × Nat)}:∀ (ps:List (Nat × Operand)) (cs cs':List C) (conc:Array Value),RepCs μ cs conc->fillV pl e ps cs=some cs' ->
  ∃ conc',Instr.fill (pl.toArray[·]?) conc (ps.map fun p=>(p.1,a.eval p.2))=some conc'/\RepCs μ cs' conc'
 | [],cs,cs',conc,hR,hf=>by
   simp[fillV] at hf;subst hf;exact⟨conc,by simp[Instr.fill],hR⟩
 | (f,x)::r,cs,cs',conc,hR,hf=>by
   simp only[fillV] at hf;split at hf
   .rename_i off n hpl;split at hf
    .rename_i hc;obtain⟨hlen,hn0,hfit⟩:=hc;have hne:(e.ev x).cells≠[]:=by intro he;rw[he] at hlen;simp at hlen;omega
     have hxR:=Z9p (ev_rep hE x) hne;have hsz:(a.eval x).cells.size=n:=by rw[hxR.1,hlen]
     obtain⟨conc',h1,h2⟩:=Zey hE r _ cs' _ (Z6m hR hxR (by rw[hlen];omega)) hf;refine⟨conc',?_,h2⟩;simp only[Y0d,Instr.fill];have hpl':pl.toArray[f]? = some (off,n):=by simpa using hpl
     rw[hpl'];have hcs:=hR.1;have hno:¬ ((a.eval x).cells.size≠n\/off+(a.eval x).cells.size > conc.size):=by rw[hsz,hcs];omega
     have hfo:=Zdr (a.eval x).cells.toList 0 conc off (by rw[Y0i,hsz,hcs];omega);simp only[Y1q,Y0i] at hfo;have hz:(a.eval x).cells.zipIdx.foldl (fun cs (c,j)=>cs.setIfInBounds (off+j) c) conc=((a.eval x).cells.toList.zipIdx 0).foldl (fun cs x=>cs.setIfInBounds (off+x.2) x.1) conc:=by
      rw[<- Array.foldl_toList];simp
     simp only[Y1o,decide_eq_true_eq,hno,if_false,hz,hfo];exact h1
    .cases hf
   .cases hf
theorem Zl6 (hI:Inv Γ h μ w) (hE:EnvRel μ e a) (hd:dstOK o e) {t:TypeId} {ps:Array (Nat × Operand)} (ho:o.op=.build t ps) (hv:vcOp P o e h K):Owes P Γ μ o a w K:=by
 simp only[vcOp,ho] at hv;split at hv
 .rename_i z pl hz hpl;split at hv
  .rename_i cs hf;obtain⟨i,zv,hi,hzz,hR⟩:=Za9 hz μ;obtain⟨conc',h1,h2⟩:=Zey hE ps.toList z cs zv.cells hR hf;have hu:∃ fields,P.underlying t=some (.struct fields)/\fields.toList.mapM (fun f=>(P.info? f.type).map fun i=>(f.offset,i.size))=some pl:=by
    unfold stT at hpl;split at hpl
    .rename_i fields hu;exact⟨fields,hu,hpl⟩
    .cases hpl
   obtain⟨fields,hu,hm⟩:=hu;have hb:P.built t (ps.map fun (i,x)=>(i,a.eval x)).toList=some conc':=by
    unfold Program.built;simp only[hi,hu,hzz,hm,Array.toList_map];exact h1
   refine Z0l (v:=.agg cs) (u:=.agg conc') ?_ hE (Mem.Le.refl μ) hI hd ⟨conc',rfl,h2⟩ hv
   have:=run_build (P:=P) w t _ conc' hb
   simp[execOp,ho,this]
  .exact hv.elim
 .exact hv.elim
theorem Zfr {l:List Operand} {x:V} (h:l.map e.ev=[x]):∃ y,l=[y]/\e.ev y=x:=by
 match l,h with
 | [y],h=>simp at h;exact⟨y,rfl,h⟩
theorem Z9u {l:List Operand} {x x':V} (h:l.map e.ev=[x,x']):∃ y y',l=[y,y']/\e.ev y=x/\e.ev y'=x':=by
 match l,h with
 | [y,y'],h=>simp at h;exact⟨y,y',rfl,h.1,h.2⟩
theorem Zpf (hI:Inv Γ h μ w) (hE:EnvRel μ e a) (hd:dstOK o e) {c:Call} (ho:o.op=.call c) (hc:c.callee=.builtin .len) {t:TypeId} (ht:c.argTypes.toList=[t])
  {x:C} (hx:c.args.toList.map e.ev=[.one x]) (hv:vcLen P t x o e h K):Owes P Γ μ o a w K:=by
 obtain⟨y,hy,hyx⟩:=Zfr hx;have hy':c.args=#[y]:=by cases hq:c.args;simp_all
 have hat:c.argTypes=#[t]:=by cases hq:c.argTypes;simp_all
 have hyv:=ev_rep hE y;rw[hyx] at hyv;have hyv':RepC μ x (a.eval y):=hyv;unfold vcLen at hv;split at hv
 .rename_i hl;have hu:P.underlying t=some .string:=by
   unfold lenT at hl;split at hl
   .cases hl
   .assumption
   .cases hl
  split at hv
  .rename_i s;have hs:a.eval y=.string s:=RepD.str_inv (m:=μ.cell) hyv';refine Z0l (v:=dint .i64 s.size) (u:=.int .i64 s.size) ?_ hE (Mem.Le.refl μ) hI hd (RepD.int _ _) hv;simp[execOp,ho,resolve,hc,hy',hat,invoke,builtin,Builtin.len_,run_underlying hu,hs,goInt]
  .exact hv.elim
 .rename_i hl;have hu:∃ el,P.underlying t=some (.slice el):=by
   unfold lenT at hl;split at hl
   .rename_i el hu;exact⟨el,hu⟩
   .cases hl
   .cases hl
  obtain⟨el,hu⟩:=hu;split at hv
  .rename_i l off n cap;obtain⟨b,k,_,hs,_⟩:=hyv';refine Z0l (v:=dint .i64 n) (u:=.int .i64 n) ?_ hE (Mem.Le.refl μ) hI hd (RepD.int _ _) hv;simp[execOp,ho,resolve,hc,hy',hat,invoke,builtin,Builtin.len_,run_underlying hu,hs,goInt]
  .split at hv
   .rename_i xs hxs;obtain⟨ad,cap,hs,_,hl⟩:=(Z5l hyv' (Z78 hxs)).slice;refine Z0l (v:=dint .i64 xs.length) (u:=.int .i64 xs.length) ?_ hE (Mem.Le.refl μ) hI hd (RepD.int _ _) (hv hl);simp[execOp,ho,resolve,hc,hy',hat,invoke,builtin,Builtin.len_,run_underlying hu,hs,goInt]
   .exact hv.elim
 .exact hv.elim
end
end Go.Am
end
section
namespace Go.Am
open Go
open Go.RowKit (Below)
def addRow (m:CM) (b off:Nat) (vs:List Value):CM:=fun b' o=>if b'=b/\off<=o/\o < off+vs.length then vs[o - off]? else m b' o
theorem Z7h {m:CM} {b off:Nat} {vs:List Value} (h:∀ o,off<=o->o < off+vs.length->m b o=none):Sub m (addRow m b off vs):=by
 intro b' o v hv;unfold addRow;split
 .rename_i hc;obtain⟨rfl,h1,h2⟩:=hc;rw[h o h1 h2] at hv;cases hv
 .exact hv
theorem Ze1 {m:CM} {b off:Nat} {vs:List Value} {k:Nat} {u:Value} (h:vs[k]? = some u):addRow m b off vs b (off+k)=some u:=by
 have hk:k < vs.length:=(Y00.1 h).1;unfold addRow;rw[if_pos ⟨rfl,by omega,by omega⟩];rw[show off+k - off=k by omega];exact h
theorem Z6h {m:CM} {b off:Nat} {vs:List Value} {b' o:Nat} (h:m b' o=none) (hn:b'≠b\/off+vs.length<=o):addRow m b off vs b' o=none:=by
 unfold addRow;split
 .rename_i hc;rcases hn with hn | hn
  .exact absurd hc.1 hn
  .omega
 .exact h
theorem Zhh {m:CM} {b off:Nat} {vs:List Value} {b' o:Nat} (h:b'≠b):addRow m b off vs b' o=m b' o:=by
 unfold addRow;rw[if_neg (fun hc=>h hc.1)]
theorem Zce {m:CM} {w:World} (h:Cells m w) {b off:Nat} {vs:List Value} (hc:∀ (k:Nat) u,vs[k]? = some u->w.cell? ⟨b,off+k,none⟩=some u):Cells (addRow m b off vs) w:=by
 intro b' o v hv;unfold addRow at hv;split at hv
 .rename_i hx;obtain⟨rfl,h1,h2⟩:=hx
  have:=hc (o - off) v hv
  rw[show off+(o - off)=o by omega] at this;exact this
 .exact h _ _ _ hv
structure Flat (m:CM) (es:Nat) (xs:List (List D)) (vs:List Value):Prop where
 len:vs.length=xs.length * es
 elem:∀ x ∈ xs,x.length=es
 rep:∀ (i:Nat) x (j:Nat) c,xs[i]? = some x->x[j]? = some c->∃ u,vs[i * es+j]? = some u/\RepD m c u
theorem Flat.mono {m m':CM} {es:Nat} {xs:List (List D)} {vs:List Value} (h:Flat m es xs vs) (hs:Sub m m'):Flat m' es xs vs:=
 ⟨h.len,h.elem,fun i x j c hx hj=>let ⟨u,hu,hr⟩:=h.rep i x j c hx hj;⟨u,hu,hr.mono hs⟩⟩
theorem Flat.nil (m:CM) (es:Nat):Flat m es [] []:=⟨by simp,by simp,fun i x j c hx _=>by simp at hx⟩
theorem idx_lt {i n es j:Nat} (hi:i < n) (hj:j < es):i * es+j < n * es:=by
 have:(i+1) * es<=n * es:=Y1j _ hi
 rw[Nat.succ_mul] at this;omega
theorem Flat.append {m:CM} {es:Nat} {xs ys:List (List D)} {vs us:List Value} (h:Flat m es xs vs) (k:Flat m es ys us):Flat m es (xs++ys) (vs++us):=by
 refine⟨by simp[h.len,k.len,Y0x],fun x hx=>?_,fun i x j c hx hj=>?_⟩
 .rcases Y02.1 hx with hx | hx
  .exact h.elem x hx
  .exact k.elem x hx
 .rw[Y1i] at hx;split at hx
  .rename_i hi;obtain⟨u,hu,hr⟩:=h.rep i x j c hx hj;refine⟨u,?_,hr⟩;rw[Y0j (Y00.1 hu).1];exact hu
  .rename_i hi;obtain⟨u,hu,hr⟩:=k.rep _ x j c hx hj;refine⟨u,?_,hr⟩;have e:i * es+j=vs.length+((i - xs.length) * es+j):=by
    rw[h.len]
    have:i=xs.length+(i - xs.length):=by omega
    conv=>lhs;rw[this,Y0x]
    omega
   rw[e,Y13 (by omega),Nat.add_sub_cancel_left];exact hu
theorem Flat.all {m:CM} {es:Nat} {xs:List (List D)} {vs:List Value} (h:Flat m es xs vs) (h0:0 < es):∀ v ∈ vs,v.oneCell'=true:=by
 intro v hv;obtain⟨k,hk,he⟩:=Y1g hv;have hl:=h.len;have hi:k / es < xs.length:=by rw[Nat.div_lt_iff_lt_mul h0];omega
 have hj:k % es < es:=Nat.mod_lt _ h0;have hxl:(xs[k / es]).length=es:=h.elem _ (Y0p hi);obtain⟨u,hu,hr⟩:=h.rep (k / es) xs[k / es] (k % es) (xs[k / es][k % es]'(by rw[hxl];exact hj)) (Y01 hi) (Y01 _)
 have:k / es * es+k % es=k:=by rw[Nat.mul_comm];exact Nat.div_add_mod k es
 rw[this,Y01 hk,he] at hu;cases hu;exact hr.oneCell
theorem RepD.flat {m:CM} {xs:List (List D)} {v:Value} (h:RepD m (.sl xs) v) {es:Nat} (hes:∀ x ∈ xs,x.length=es) (h0:0 < es) :
  ∃ a cap vs,v=.slice a xs.length cap/\Flat m es xs vs/\(xs≠[]->∃ b off,a=some ⟨b,off,none⟩/\∀ (k:Nat) u,vs[k]? = some u->m b (off+k)=some u):=by
 cases h with
 | sl xs a cap es' b off f hl hc hes' ha hcell hrep=>
   by_cases hne:xs=[]
   .subst hne;exact⟨a,cap,[],rfl,Flat.nil _ _,fun h=>absurd rfl h⟩
   .have he:es'=es:=by
     obtain⟨x,hx⟩:=List.exists_mem_of_ne_nil xs hne;rw[<- hes' x hx,hes x hx]
    subst he;refine⟨a,cap,(List.range (xs.length * es')).map (fun k=>f (k / es') (k % es')),rfl,⟨by simp,hes,fun i x j c hx hj=>?_⟩,fun _=>⟨b,off,ha hne,fun k u hk=>?_⟩⟩
    .have hi:i < xs.length:=(Y00.1 hx).1;have hjl:j < es':=by rw[<- hes x (Y03 hx)];exact (Y00.1 hj).1
     refine⟨f i j,?_,hrep i x hx j c hj⟩;rw[Y0b,List.getElem?_range (idx_lt hi hjl)];simp only[Y0h,Y06];have h1:(i * es'+j) / es'=i:=by rw[Nat.mul_comm,Nat.mul_add_div h0,Nat.div_eq_of_lt hjl];rfl
     have h2:(i * es'+j) % es'=j:=by rw[Nat.mul_comm,Nat.mul_add_mod];exact Nat.mod_eq_of_lt hjl
     rw[h1,h2]
    .rw[Y0b] at hk;cases hr:(List.range (xs.length * es'))[k]? with
     | none=>rw[hr] at hk;cases hk
     | some k'=>
       rw[hr] at hk;simp only[Y0h,Y06] at hk;have hkl:k < xs.length * es':=by have:=(Y00.1 hr).1;simpa using this
       rw[List.getElem?_range hkl] at hr;cases hr;have hi:k / es' < xs.length:=by rw[Nat.div_lt_iff_lt_mul h0];omega
       have hj:k % es' < es':=Nat.mod_lt _ h0;have hxl:(xs[k / es']).length=es':=hes _ (Y0p hi)
       have:=hcell (k / es') xs[k / es'] (Y01 hi) (k % es') (xs[k / es'][k % es']'(by rw[hxl];exact hj)) (Y01 _)
       rw[show k / es' * es'+k % es'=k by rw[Nat.mul_comm];exact Nat.div_add_mod k es'] at this;rw[this,hk]
theorem RepD.of_flat {m:CM} {xs:List (List D)} {vs:List Value} {es b off cap:Nat} (h:Flat m es xs vs) (hl:xs.length<=LIM) (hc:xs.length<=cap)
  (hcell:∀ (k:Nat) u,vs[k]? = some u->m b (off+k)=some u):RepD m (.sl xs) (.slice (some ⟨b,off,none⟩) xs.length cap):=by
 have key:∀ i x,xs[i]? = some x->∀ (j:Nat) c,x[j]? = some c->vs[i * es+j]? = some (vs.getD (i * es+j) undef)/\RepD m c (vs.getD (i * es+j) undef):=by
  intro i x hx j c hj;obtain⟨u,hu,hr⟩:=h.rep i x j c hx hj
  have:vs.getD (i * es+j) undef=u:=by simp[List.getD,hu]
  rw[this];exact⟨hu,hr⟩
 exact .sl xs (some ⟨b,off,none⟩) cap es b off (fun i j=>vs.getD (i * es+j) undef) hl hc h.elem (fun _=>rfl)
  (fun i x hx j c hj=>hcell _ _ (key i x hx j c hj).1) (fun i x hx j c hj=>(key i x hx j c hj).2)
theorem Zcm {P:Program} (w:World) (t ty e T:TypeId) (i:TypeInfo) (ht:P.underlying t=some (.slice e)) (hi:P.info? e=some i)
  (g sLen sCap:Nat) (cur:Array Value) (hg:w.heap[g]? = some (.cells cur T (0,0)))
  (a:Addr) (m c:Nat) (news:List Value) (hl:news.length=m * i.size) (hnews:∀ (j:Nat) u,news[j]? = some u->w.cell? (a.add j)=some u) (h1:∀ u ∈ news,u.oneCell'=true)
  (hroom:sLen+m<=sCap) (hfit:sLen * i.size+news.length<=cur.size) :
  (Builtin.append_ #[t,t] ty #[.slice (some ⟨g,0,none⟩) sLen sCap,.slice (some a) m c]).run P w =
   .ok (.slice (some ⟨g,0,none⟩) (sLen+m) sCap) (w.setRow g (cur.toList.take (sLen * i.size)++news++cur.toList.drop (sLen * i.size+news.length)).toArray):=by
 have hf:=run_firstCells_some (P:=P) w i.size m a m c news hl hnews;have hst:=run_storeCells_at P g (sLen * i.size) T news 0 cur w hg (by simpa using hfit) h1;simp only[Y1q] at hst;simp[Builtin.append_,run_underlying ht,sizeOf,typeInfo,hi,Builtin.lenOf,hroom,hf,Addr.add_lit,hst]
theorem Z98 {P:Program} (w:World) (t ty e:TypeId) (i:TypeInfo) (ht:P.underlying t=some (.slice e)) (hi:P.info? e=some i)
  (s:Option Addr) (sLen sCap:Nat) (hc:sLen<=sCap) (a:Option Addr) (c:Nat) :
  (Builtin.append_ #[t,t] ty #[.slice s sLen sCap,.slice a 0 c]).run P w=.ok (.slice s sLen sCap) w:=by
 cases s<;>cases a<;>simp[Builtin.append_,run_underlying ht,sizeOf,typeInfo,hi,Builtin.lenOf,hc,Builtin.firstCells,loadCells,loadCellsFrom,storeCells]
section
variable {P:Program} {o:Oper} {a:Act} {w w':World} {e:Env} {h:HS} {μ μ':Mem} {Γ:Ctx} {K:Env->HS->Prop}
theorem Inv.drew (hI:Inv Γ h μ w):Inv Γ h μ w.drew:=
 ⟨hI.cell,hI.tmp,hI.tcell,hI.told,hI.ext,hI.old,hI.below.drew,hI.box,hI.arr,hI.inj,hI.lt,hI.both⟩
theorem Inv.addRow (hI:Inv Γ h μ w) {l:Lab} (hl:l.1=h.ep) {T:TypeId} {cur:Array Value} {vs:List Value} {es n cap:Nat} (hvs:vs.length=n * es) (hpre:cur.toList.take (n * es)=vs)
  (hsz:cur.size=cap * es) (hn:n<=cap) (hcap:cap<=maxLen) :
  Inv Γ ((h.setArr l (some (n,es))).next) { cell:=Am.addRow μ.cell w.heap.size 0 vs,tmp:=μ.tmp,loc:=(μ.addLoc l (some w.heap.size,cap)).loc } (w.alloc (.cells cur T)):=by
 have hfree:=hI.free hl;have hne:∀ k,h.live k->k≠l:=fun k hk e=>by have:=hI.live_loc hk;subst e;omega
 have hbs:=hI.below.size;have hnone:∀ o,μ.cell w.heap.size o=none:=fun o=>by
  cases hx:μ.cell w.heap.size o with
  | none=>rfl
  | some v=>have:=hI.cell.lt hx;omega
 have hsub:Sub μ.cell (Am.addRow μ.cell w.heap.size 0 vs):=Z7h fun o _ _=>hnone o;have hle:Mem.Le μ { cell:=Am.addRow μ.cell w.heap.size 0 vs,tmp:=μ.tmp,loc:=(μ.addLoc l (some w.heap.size,cap)).loc }:=⟨hsub,rfl,(Mem.le_addLoc hfree).loc⟩;have hnew:(w.alloc (.cells cur T)).heap[w.heap.size]? = some (.cells cur T (0,0)):=heap_alloc_new w _;refine⟨Zce (hI.cell.alloc _) (fun k u hk=>?_),hI.tmp,hI.tcell.alloc _,hI.told,fun b o v hv=>hsub _ _ _ (hI.ext _ _ _ hv),fun b o v hb hv=>?_,hI.below.alloc hbs _,?_,?_,?_,?_,?_⟩
 .rw[Y25,World.cell?_alloc_new];rw[<- hpre,Y15] at hk;split at hk
  .simpa using hk
  .cases hk
 .have hv':Am.addRow μ.cell w.heap.size 0 vs b o=some v:=hv;rw[Zhh (by omega)] at hv';exact hI.old b o v hb hv'
 .intro k cs hk;have hk':h.box k=some cs:=by simpa[HS.setArr,HS.next] using hk
  obtain⟨b,n',T',conc,h1,h2,h3,h4,h5⟩:=hI.box k cs hk';have hlt:=Z3z h3;refine⟨b,n',T',conc,hle.loc _ _ h1,h2,by rw[Z5g w _ hlt];exact h3,h4.mono hle,fun o=>Z6h (h5 o) (.inl (by omega))⟩
 .intro k es' n' hk
  by_cases e:k=l
  .subst e
   have:n=n'/\es=es':=by simpa[HS.setArr,HS.next] using hk
   obtain⟨rfl,rfl⟩:=this;refine⟨(some w.heap.size,cap),Mem.addLoc_same,⟨fun hc=>(by cases hc),fun g hg=>?_⟩⟩;have hg':w.heap.size=g:=by injection hg
   subst hg';exact⟨hbs,T,cur,hnew,hsz,hn,hcap,fun o ho=>Z6h (hnone o) (.inr (by omega))⟩
  .have hk':h.arr k=some (n',es'):=by simpa[HS.setArr,HS.next,e] using hk
   obtain⟨gc,h1,h2⟩:=hI.arr k es' n' hk';refine⟨gc,hle.loc _ _ h1,h2.keep (fun g hg=>?_) (fun g o hg hm=>?_)⟩
   .obtain⟨_,T',cur',hh,_⟩:=h2.2 g hg;exact Z5g w _ (Z3z hh)
   .obtain⟨_,T',cur',hh,_⟩:=h2.2 g hg
    have:=Z3z hh
    exact Z6h hm (.inl (by omega))
 .intro k k' b n1 n2 hk hk' h1 h2;rcases Z8m hk with e | hv<;>rcases Z8m hk' with e' | hv'
  .rw[e,e']
  .subst e;have h1':(μ.addLoc k (some w.heap.size,cap)).loc k=some (some b,n1):=h1;have h2':(μ.addLoc k (some w.heap.size,cap)).loc k'=some (some b,n2):=h2;rw[Mem.addLoc_same] at h1';rw[Mem.addLoc_ne (hne _ hv')] at h2';simp only[Y06,Y07] at h1'
   have:=hI.live_lt hv' h2'
   omega
  .subst e';have h1':(μ.addLoc k' (some w.heap.size,cap)).loc k=some (some b,n1):=h1;have h2':(μ.addLoc k' (some w.heap.size,cap)).loc k'=some (some b,n2):=h2;rw[Mem.addLoc_same] at h2';rw[Mem.addLoc_ne (hne _ hv)] at h1';simp only[Y06,Y07] at h2'
   have:=hI.live_lt hv h1'
   omega
  .have h1':(μ.addLoc l (some w.heap.size,cap)).loc k=some (some b,n1):=h1;have h2':(μ.addLoc l (some w.heap.size,cap)).loc k'=some (some b,n2):=h2;rw[Mem.addLoc_ne (hne _ hv)] at h1';rw[Mem.addLoc_ne (hne _ hv')] at h2';exact hI.inj k k' b n1 n2 hv hv' h1' h2'
 .intro k hk
  by_cases e:k=l
  .subst e;simp[HS.setArr,HS.next,hl]
  .have hk':(μ.addLoc l (some w.heap.size,cap)).loc k≠none:=hk;rw[Mem.addLoc_ne e] at hk'
   have:=hI.lt k hk'
   simp[HS.setArr,HS.next];omega
 .intro k h1 h2;have h1':h.box k≠none:=by simpa[HS.setArr,HS.next] using h1
  have e:k≠l:=hne k (.inl h1');exact hI.both k h1' (by simpa[HS.setArr,HS.next,e] using h2)
theorem Inv.useUp (hI:Inv Γ h μ w) (l:Lab):Inv Γ (h.setArr l none) μ w:=by
 have up:∀ k,(h.setArr l none).live k->h.live k:=fun k hk=>by
  rcases hk with hk | hk
  .exact .inl hk
  .right
   by_cases e:k=l
   .subst e;simp[HS.setArr] at hk
   .simpa[HS.setArr,e] using hk
 have ua:∀ k x,(h.setArr l none).arr k=some x->h.arr k=some x:=fun k x hk=>by
  by_cases e:k=l
  .subst e;simp[HS.setArr] at hk
  .simpa[HS.setArr,e] using hk
 refine⟨hI.cell,hI.tmp,hI.tcell,hI.told,hI.ext,hI.old,hI.below,hI.box,fun k es n hk=>hI.arr k es n (ua k _ hk),fun k k' b n n' hk hk' h1 h2=>hI.inj k k' b n n' (up k hk) (up k' hk') h1 h2,hI.lt,fun k h1 h2=>hI.both k h1 (fun e=>?_)⟩;apply h2;cases hx:(h.setArr l none).arr k with
 | none=>rfl
 | some x=>rw[ua k x hx] at e;cases e
end
end Go.Am
end
section
namespace Go.Am
open Go
open Go.RowKit (Below)
section
variable {P:Program} {o:Oper} {a:Act} {w w':World} {e:Env} {h:HS} {μ μ':Mem} {Γ:Ctx} {K:Env->HS->Prop}
theorem Inv.newArr (hI:Inv Γ h μ w) {l:Lab} (hl:l.1=h.ep) {gc:Option Nat × Nat} {es n:Nat} (hr:RowOK μ.cell w Γ.w0.heap.size gc es n)
  (hu:∀ k b c,h.live k->μ.loc k=some (some b,c)->gc.1≠some b):Inv Γ ((h.setArr l (some (n,es))).next) (μ.addLoc l gc) w:=by
 have hfree:=hI.free hl;have hle:Mem.Le μ (μ.addLoc l gc):=Mem.le_addLoc hfree;have hne:∀ k,h.live k->k≠l:=fun k hk e=>by have:=hI.live_loc hk;subst e;omega
 refine⟨hI.cell,hI.tmp,hI.tcell,hI.told,hI.ext,hI.old,hI.below,?_,?_,?_,?_,?_⟩
 .intro k cs hk;have hk':h.box k=some cs:=by simpa[HS.setArr,HS.next] using hk
  obtain⟨b,n',T',conc,h1,h2,h3,h4,h5⟩:=hI.box k cs hk';exact⟨b,n',T',conc,hle.loc _ _ h1,h2,h3,h4.mono hle,h5⟩
 .intro k es' n' hk
  by_cases e:k=l
  .subst e
   have:n=n'/\es=es':=by simpa[HS.setArr,HS.next] using hk
   obtain⟨rfl,rfl⟩:=this;exact⟨gc,Mem.addLoc_same,hr⟩
  .have hk':h.arr k=some (n',es'):=by simpa[HS.setArr,HS.next,e] using hk
   obtain⟨gc',h1,h2⟩:=hI.arr k es' n' hk';exact⟨gc',hle.loc _ _ h1,h2⟩
 .intro k k' b n1 n2 hk hk' h1 h2;rcases Z8m hk with e | hv<;>rcases Z8m hk' with e' | hv'
  .rw[e,e']
  .subst e;rw[Mem.addLoc_same] at h1;rw[Mem.addLoc_ne (hne _ hv')] at h2
   injection h1 with h1
   exact absurd (by rw[h1]) (hu _ _ _ hv' h2)
  .subst e';rw[Mem.addLoc_same] at h2;rw[Mem.addLoc_ne (hne _ hv)] at h1
   injection h2 with h2
   exact absurd (by rw[h2]) (hu _ _ _ hv h1)
  .rw[Mem.addLoc_ne (hne _ hv)] at h1;rw[Mem.addLoc_ne (hne _ hv')] at h2;exact hI.inj k k' b n1 n2 hv hv' h1 h2
 .intro k hk
  by_cases e:k=l
  .subst e;simp[HS.setArr,HS.next,hl]
  .rw[Mem.addLoc_ne e] at hk
   have:=hI.lt k hk
   simp[HS.setArr,HS.next];omega
 .intro k h1 h2;have h1':h.box k≠none:=by simpa[HS.setArr,HS.next] using h1
  have e:k≠l:=hne k (.inl h1');exact hI.both k h1' (by simpa[HS.setArr,HS.next,e] using h2)
theorem Inv.growRow (hI:Inv Γ h μ w) {l:Lab} {n es g cap:Nat} (ha:h.arr l=some (n,es)) (hloc:μ.loc l=some (some g,cap)) {T:TypeId} {cur:Array Value} (hh:w.heap[g]? = some (.cells cur T (0,0)))
  {vs:List Value} (hfit:n * es+vs.length<=cur.size) :
  Inv Γ (h.setArr l none) { cell:=Am.addRow μ.cell g (n * es) vs,tmp:=μ.tmp,loc:=μ.loc } (w.setRow g (cur.toList.take (n * es)++vs++cur.toList.drop (n * es+vs.length)).toArray):=by
 obtain⟨gc,hl',hr⟩:=hI.arr l es n ha;rw[hloc] at hl'
 injection hl' with hl'
 subst hl';obtain⟨hbase,T',cur',hh',hsz,hnc,_,hnone⟩:=hr.2 g rfl;rw[hh] at hh';simp only[Y06,Obj.cells.injEq] at hh';obtain⟨rfl,rfl,_⟩:=hh';have hlive:h.live l:=.inr (by simp[ha]);have hoth:∀ k,k≠g->(w.setRow g (cur.toList.take (n * es)++vs++cur.toList.drop (n * es+vs.length)).toArray).heap[k]? = w.heap[k]?:=fun k hk=>setRow_other w g k _ hk;have hself:=setRow_heap w g cur (cur.toList.take (n * es)++vs++cur.toList.drop (n * es+vs.length)).toArray T (0,0) hh;have hsub:Sub μ.cell (Am.addRow μ.cell g (n * es) vs):=Z7h fun o h1 _=>hnone o h1;have hlt0:(cur.toList.take (n * es)).length=n * es:=by rw[Y12,Y0i];omega
 have hcells:Cells μ.cell (w.setRow g (cur.toList.take (n * es)++vs++cur.toList.drop (n * es+vs.length)).toArray):=by
  intro b o v hv
  by_cases hb:b=g
  .subst hb;have ho:o < n * es:=by
    rcases Y0t o (n * es) with h1 | h1
    .exact h1
    .rw[hnone o h1] at hv;cases hv
   have:=hI.cell _ _ _ hv
   rw[cell_of_row _ b o cur T (0,0) hh] at this;rw[cell_of_row _ b o _ T (0,0) hself];rw[Y2n,Y0n,Y0j (by rw[hlt0];exact ho),Y15,if_pos ho];simpa using this
  .have:=hI.cell _ _ _ hv
   rw[World.cell?_of_block (w:=w) (hoth b hb)];exact this
 have hle:Mem.Le μ { cell:=Am.addRow μ.cell g (n * es) vs,tmp:=μ.tmp,loc:=μ.loc }:=⟨hsub,rfl,fun _ _ h=>h⟩;have up:∀ k,(h.setArr l none).live k->h.live k:=fun k hk=>by
  rcases hk with hk | hk
  .exact .inl hk
  .right
   by_cases e:k=l
   .subst e;simp[HS.setArr] at hk
   .simpa[HS.setArr,e] using hk
 have ua:∀ k x,(h.setArr l none).arr k=some x->h.arr k=some x/\k≠l:=fun k x hk=>by
  by_cases e:k=l
  .subst e;simp[HS.setArr] at hk
  .exact⟨by simpa[HS.setArr,e] using hk,e⟩
 refine⟨Zce hcells (fun k u hk=>?_),hI.tmp,hI.tcell.of_heap (fun b o v hm=>hoth b ?_),hI.told,fun b o v hv=>hsub _ _ _ (hI.ext _ _ _ hv),fun b o v hb hv=>?_,?_,?_,?_,?_,hI.lt,?_⟩
 .rw[cell_of_row _ g _ _ T (0,0) hself];rw[Y2n,Y0n,Y13 (by rw[hlt0];omega),hlt0,Nat.add_sub_cancel_left,Y0j (Y00.1 hk).1];exact hk
 .rintro rfl;have:=hI.told _ _ _ hm;omega
 .have hv':Am.addRow μ.cell g (n * es) vs b o=some v:=hv;rw[Zhh (by omega)] at hv';exact hI.old b o v hb hv'
 .exact hI.below.trans ⟨rfl,rfl,rfl,by simp,fun k hk=>hoth k (by omega)⟩
 .intro k cs hk;obtain⟨b,n',T',conc,h1,h2,h3,h4,h5⟩:=hI.box k cs hk;have hk':h.box k=some cs:=hk;have hne:b≠g:=by
   rintro rfl;have e:=hI.inj k l b n' cap (.inl (by rw[hk'];simp)) hlive h1 hloc;subst e;exact hI.both k (by rw[hk'];simp) (by rw[ha];simp)
  exact⟨b,n',T',conc,h1,h2,by rw[hoth b hne];exact h3,h4.mono hle,fun o=>Z6h (h5 o) (.inl hne)⟩
 .intro k es' n' hk;obtain⟨hk',e⟩:=ua k _ hk;obtain⟨gc',h1,h2⟩:=hI.arr k es' n' hk';have hne:∀ b,gc'.1=some b->b≠g:=by
   rintro b hb rfl;obtain⟨g1,c1⟩:=gc';simp only at hb;subst hb;exact e (hI.inj k l b c1 cap (.inr (by rw[hk'];simp)) hlive h1 hloc)
  exact⟨gc',h1,h2.keep (fun b hb=>hoth b (hne b hb)) (fun b o hb hm=>Z6h hm (.inl (hne b hb)))⟩
 .intro k k' b n1 n2 hk hk' h1 h2;exact hI.inj k k' b n1 n2 (up k hk) (up k' hk') h1 h2
 .intro k h1 h2;cases hx:(h.setArr l none).arr k with
  | none=>exact h2 hx
  | some x=>exact hI.both k h1 (by rw[(ua k x hx).1];simp)
theorem Z4k {c:Call} (ho:o.op=.call c) (hc:c.callee=.builtin .append) {t:TypeId} (hat:c.argTypes=#[t,t]) {y y':Operand} (hargs:c.args=#[y,y']) {v:Value} {w':World}
  (hr:(Builtin.append_ #[t,t] o.type #[a.eval y,a.eval y']).run P w=.ok v w'):(execOp a.eval o).run P w=.ok (.value v) w':=by
 simp[execOp,ho,resolve,hc,hat,hargs,invoke,builtin,hr]
theorem Zdb (hI:Inv Γ h μ w) (hE:EnvRel μ e a) (hd:dstOK o e) {c:Call} (ho:o.op=.call c) (hc:c.callee=.builtin .append) {t:TypeId} (ht:c.argTypes.toList=[t,t])
  {s x:C} (hx:c.args.toList.map e.ev=[.one s,.one x]) (hv:Z6i P t s x (dstN o) h (fun v h'=>K (e.put o.dst v) h')):Owes P Γ μ o a w K:=by
 obtain⟨y,y',hy,hys,hyx⟩:=Z9u hx;have hargs:c.args=#[y,y']:=by cases hq:c.args;simp_all
 have hat:c.argTypes=#[t,t]:=by cases hq:c.argTypes;simp_all
 have hsv:=ev_rep hE y;rw[hys] at hsv;have hsv':RepC μ s (a.eval y):=hsv;have hxv:=ev_rep hE y';rw[hyx] at hxv;have hxv':RepC μ x (a.eval y'):=hxv;unfold Z6i at hv;split at hv
 .rename_i el es by_ hel;obtain⟨i,z,hu,hi,hsz,hby,hzz,hzs⟩:=Z5h hel;split at hv
  .rename_i xs ys hxs hys';obtain⟨⟨hcan,h0,hb4,hxe,hye,hlim⟩,hK⟩:=hv;have hlim':xs.length+ys.length<=2097152:=hlim;obtain⟨xa,xcap,xv,hxeq,hxF,hxcell⟩:=(Z5l hxv' (Z78 hys')).flat hye h0;obtain⟨sa,scap,sv,hseq,hsF,hscell⟩:=(Z5l hsv' (Z78 hxs)).flat hxe h0;have hhdr:∃ gopt cap,a.eval y=hdr gopt xs.length cap/\((gopt=none/\cap=0/\xs=[])\/∃ g l,gopt=some g/\s=.own l xs/\h.arr l=some (xs.length,es)/\μ.loc l=some (some g,cap)):=by
    cases s with
    | nil=>
      have hs0:a.eval y=.slice none 0 0:=hsv';simp[C.list?] at hxs;subst hxs;exact⟨none,0,by simp[hdr,hs0],.inl ⟨rfl,rfl,rfl⟩⟩
    | own l xs'=>
      simp[C.list?] at hxs;subst hxs;obtain⟨_,g,cap,hl,hve⟩:=hsv';have harr:h.arr l=some (xs'.length,es):=by simpa[canApp] using hcan
      refine⟨g,cap,hve,?_⟩;cases g with
      | none=>
        obtain⟨gc,h1,h2⟩:=hI.arr l _ _ harr;rw[hl] at h1
        injection h1 with h1
        subst h1;obtain⟨e1,e2⟩:=h2.1 rfl;exact .inl ⟨rfl,e1,Y0o e2⟩
      | some g=>exact .inr ⟨g,l,rfl,rfl,harr,hl⟩
    | _=>simp[canApp] at hcan
   obtain⟨gopt,cap,hhd,hcase⟩:=hhdr;have hep:(s.useUp h).ep=h.ep:=by cases s<;>rfl
   have hIu:Inv Γ (s.useUp h) μ w:=by
    cases s with
    | own l xs'=>exact hI.useUp l
    | _=>exact hI
   have hlab:((h.ep,16 * dstN o):Lab).1=(s.useUp h).ep:=hep.symm
   by_cases hm:ys=[]
   ·
    subst hm;have hcapn:xs.length<=cap:=by
     rcases hcase with ⟨_,rfl,rfl⟩ | ⟨g,l,rfl,rfl,harr,hloc⟩
     .simp
     .obtain⟨gc,h1,h2⟩:=hI.arr l _ _ harr;rw[hloc] at h1
      injection h1 with h1
      subst h1;obtain⟨_,T,cur,_,_,h3,_⟩:=h2.2 g rfl;exact h3
    have hr:=Z98 (P:=P) w t o.type el i hu hi (gopt.map fun b=>⟨b,0,none⟩) xs.length cap hcapn xa xcap;have hrow:RowOK μ.cell w Γ.w0.heap.size (gopt,cap) es xs.length:=by
     rcases hcase with ⟨rfl,rfl,rfl⟩ | ⟨g,l,rfl,rfl,harr,hloc⟩
     .exact⟨fun _=>⟨rfl,rfl⟩,fun g hg=>by cases hg⟩
     .obtain⟨gc,h1,h2⟩:=hI.arr l _ _ harr;rw[hloc] at h1
      injection h1 with h1
      subst h1;exact h2
    refine Z0l (v:=.one (.own (h.ep,16 * dstN o) (xs++[]))) (u:=a.eval y) (μ':=μ.addLoc (h.ep,16 * dstN o) (gopt,cap)) (w':=w) (Z4k ho hc hat hargs ?_) hE (Mem.le_addLoc (hI.free rfl)) ?_ hd ?_ hK
    .rw[hxeq,hhd];exact hr
    .have:=hIu.newArr hlab (gc:=(gopt,cap)) (es:=es) (n:=xs.length+([]:List (List D)).length) (by simpa using hrow) ?_
     .exact this
     .intro k b c0 hk hloc' hg;rcases hcase with ⟨rfl,_,_⟩ | ⟨g,l,rfl,rfl,harr,hloc⟩
      .cases hg
      .have hgb:g=b:=by injection hg
       subst hgb;have hk':h.live k:=by
        rcases hk with hk | hk
        .exact .inl hk
        .right
         by_cases ek:k=l
         .subst ek;simp[C.useUp,HS.setArr] at hk
         .simpa[C.useUp,HS.setArr,ek] using hk
       have ekl:=hI.inj k l g c0 cap hk' (.inr (by rw[harr];simp)) hloc' hloc;subst ekl;rcases hk with hk | hk
       .exact hI.both k hk (by rw[harr];simp)
       .simp[C.useUp,HS.setArr] at hk
    .refine⟨?_,gopt,cap,Mem.addLoc_same,?_⟩
     .have hr0:=Z5l hsv' (Z78 hxs);show RepD μ.cell _ _;simpa using hr0
     .simpa using hhd
   ·
    have hmpos:0 < ys.length:=Y2w.2 hm;obtain⟨xb,xo,rfl,hxc⟩:=hxcell hm;have hnews:∀ (j:Nat) u,xv[j]? = some u->w.cell? ((⟨xb,xo,none⟩:Addr).add j)=some u:=fun j u hj=>by rw[Z57];exact hI.cell _ _ _ (hxc j u hj)
    have hxl:xv.length=ys.length * i.size:=by rw[hsz];exact hxF.len
    have hxone:=hxF.all h0;have hbytes:(xs.length+ys.length) * i.bytes<=140737488355328:=by
     rw[hby]
     calc (xs.length+ys.length) * by_<=2097152 * 4096:=Y1y hlim hb4
      _<=140737488355328:=by decide
    have grown:∀ (run:(Builtin.append_ #[t,t] o.type #[a.eval y,a.eval y']).run P w=.ok (.slice (some ⟨w.heap.size,0,none⟩) (xs.length+ys.length) (grownCap w (xs.length+ys.length) cap el))
       (w.drew.alloc (.cells (sv.toArray++xv.toArray++Builtin.zeroCells z.cells (grownCap w (xs.length+ys.length) cap el - (xs.length+ys.length))) el))),Owes P Γ μ o a w K:=by
     intro hrun;have hge:=grownCap_ge w (xs.length+ys.length) cap el;have hcm:=grownCap_le_maxLen w (xs.length+ys.length) cap el (by unfold maxLen;omega);have hFF:=hsF.append hxF;have hlen:(sv++xv).length=(xs.length+ys.length) * es:=by rw[hFF.len];simp
     have hI2:=hIu.drew.addRow (l:=(h.ep,16 * dstN o)) hlab (T:=el) (cur:=sv.toArray++xv.toArray++Builtin.zeroCells z.cells (grownCap w (xs.length+ys.length) cap el - (xs.length+ys.length)))
      (vs:=sv++xv) (es:=es) (n:=xs.length+ys.length) (cap:=grownCap w (xs.length+ys.length) cap el) hlen
      (by
       have hl:(sv.toArray++xv.toArray++Builtin.zeroCells z.cells (grownCap w (xs.length+ys.length) cap el - (xs.length+ys.length))).toList=(sv++xv)++(Builtin.zeroCells z.cells (grownCap w (xs.length+ys.length) cap el - (xs.length+ys.length))).toList:=by simp
       rw[hl,<- hlen];exact Y2u)
      (by
       rw[Array.size_append,size_zeroCells,hzs]
       have:(sv.toArray++xv.toArray).size=(xs.length+ys.length) * es:=by rw[<- hlen];simp
       rw[this,<- Y0x]
       congr 1
       omega) hge hcm
     refine Z0l (v:=.one (.own (h.ep,16 * dstN o) (xs++ys))) (Z4k ho hc hat hargs hrun) hE ?_ hI2 hd ?_ hK
     .refine⟨Z7h fun oo _ _=>?_,rfl,(Mem.le_addLoc (hI.free rfl)).loc⟩;cases hq:μ.cell w.drew.heap.size oo with
      | none=>rfl
      | some v=>have:=hI.cell.lt hq;simp at this
     .refine⟨?_,some w.heap.size,grownCap w (xs.length+ys.length) cap el,Mem.addLoc_same,by simp[hdr]⟩;have hF2:Flat (Am.addRow μ.cell w.drew.heap.size 0 (sv++xv)) es (xs++ys) (sv++xv):=hFF.mono (Z7h fun oo _ _=>by
       cases hq:μ.cell w.drew.heap.size oo with
       | none=>rfl
       | some v=>have:=hI.cell.lt hq;simp at this)
      have:=RepD.of_flat (b:=w.heap.size) (off:=0) (cap:=grownCap w (xs.length+ys.length) cap el) hF2 (by simpa using hlim) (by simpa using hge) (fun k u hk=>Ze1 hk)
      simpa using this
    rcases hcase with ⟨rfl,rfl,rfl⟩ | ⟨g,l,rfl,rfl,harr,hloc⟩
    .have hsv0:sv=[]:=Y0o (by simpa using hsF.len);subst hsv0;refine grown ?_
     have:=run_append_nil (P:=P) w t o.type el i z hu hi hzz ⟨xb,xo,none⟩ ys.length xcap xv hxl hnews hmpos (by simp at hlim';omega) (by rw[hby];have:ys.length * by_<=2097152 * 4096:=Y1y (by simpa using hlim) hb4;omega)
     rw[hhd,hxeq];simpa[hdr] using this
    .obtain⟨gc,h1,hrow⟩:=hI.arr l _ _ harr;rw[hloc] at h1
     injection h1 with h1
     subst h1;obtain⟨hbase,T,cur,hh,hcsz,hncap,hcmax,hnone⟩:=hrow.2 g rfl;have holds:∀ (k:Nat) u,sv[k]? = some u->μ.cell g k=some u:=by
      intro k u hk;have hne:xs≠[]:=by
       rintro rfl
       have:=hsF.len
       have hkl:=(Y00.1 hk).1;simp at this;subst this;simp at hkl
      obtain⟨b,off,hsa,hsc⟩:=hscell hne;rw[hhd] at hseq;simp only[hdr,Y0h,Value.slice.injEq] at hseq;rw[hsa] at hseq;simp only[Y06,Addr.mk.injEq] at hseq;obtain⟨⟨rfl,rfl,_⟩,_⟩:=hseq
      have:=hsc k u hk
      simpa using this
     by_cases hroom:xs.length+ys.length<=cap
     .have hfit:xs.length * es+xv.length<=cur.size:=by
       rw[hxF.len,hcsz,<- Y0x];exact Y1j _ hroom
      have hrun:=Zcm (P:=P) w t o.type el T i hu hi g xs.length cap cur hh ⟨xb,xo,none⟩ ys.length xcap xv hxl hnews hxone hroom (by rw[hsz];exact hfit);rw[hsz] at hrun;have hG:=hI.growRow harr hloc hh hfit;have hself:=setRow_heap w g cur (cur.toList.take (xs.length * es)++xv++cur.toList.drop (xs.length * es+xv.length)).toArray T (0,0) hh;have hsub:Sub μ.cell (Am.addRow μ.cell g (xs.length * es) xv):=Z7h fun o h1 _=>hnone o h1;have hN:=hG.newArr (l:=(h.ep,16 * dstN o)) rfl (gc:=(some g,cap)) (es:=es) (n:=xs.length+ys.length)
       ⟨fun hc=>(by cases hc),fun g' hg'=>by
        have e':g=g':=by injection hg'
        subst e';refine⟨hbase,T,_,hself,?_,hroom,hcmax,fun oo hoo=>Z6h (hnone oo (Y0y (Y1j _ (Nat.le_add_right _ _)) hoo)) (.inr (by rw[hxF.len,<- Y0x];exact hoo))⟩;rw[<- hcsz];simp only[Y2p,Y0f,Y12,Y1u,Y0i]
        omega⟩
       (by
        intro k b c0 hk hloc' hg;have hg':g=b:=by injection hg
        subst hg';have hk':h.live k:=by
         rcases hk with hk | hk
         .exact .inl hk
         .right
          by_cases ek:k=l
          .subst ek;simp[HS.setArr] at hk
          .simpa[HS.setArr,ek] using hk
        have ekl:=hI.inj k l g c0 cap hk' (.inr (by rw[harr];simp)) hloc' hloc;subst ekl;rcases hk with hk | hk
        .exact hI.both k hk (by rw[harr];simp)
        .simp[HS.setArr] at hk)
      refine Z0l (v:=.one (.own (h.ep,16 * dstN o) (xs++ys))) (Z4k ho hc hat hargs (by rw[hhd,hxeq];simpa[hdr] using hrun)) hE ?_ hN hd ?_ hK
      .exact⟨hsub,rfl,(Mem.le_addLoc (hI.free rfl)).loc⟩
      .refine⟨?_,some g,cap,Mem.addLoc_same,by simp[hdr]⟩;have hFF:=(hsF.append hxF).mono hsub
       have:=RepD.of_flat (b:=g) (off:=0) (cap:=cap) hFF (by simpa using hlim) (by simpa using hroom) (fun k u hk=>by
        rw[Y25];rw[Y1i] at hk;split at hk
        .exact hsub _ _ _ (holds k u hk)
        .rename_i hkl
         have:=Ze1 (m:=μ.cell) (b:=g) (off:=xs.length * es) hk
         rw[hsF.len] at this hkl;rw[show xs.length * es+(k - xs.length * es)=k by omega] at this;exact this)
       show RepD (Am.addRow μ.cell g (xs.length * es) xv) _ _;simpa using this
     .refine grown ?_;have hsl:sv.length=xs.length * i.size:=by rw[hsz];exact hsF.len
      have:=run_append_grow (P:=P) w t o.type el i z hu hi hzz ⟨g,0,none⟩ xs.length cap sv hsl (fun j u hj=>by rw[Z57,Y25];exact hI.cell _ _ _ (holds j u hj))
       ⟨xb,xo,none⟩ ys.length xcap xv hxl hnews (by omega) (by omega) (growslice_fits (by omega) hbytes)
      rw[hhd,hxeq];simpa[hdr] using this
  .exact hv.elim
 .exact hv.elim
end
end Go.Am
end
section
namespace Go.Am
open Go
open Go.RowKit (Below)
section
variable {P:Program} {o:Oper} {a:Act} {w w':World} {e:Env} {h:HS} {μ μ':Mem} {Γ:Ctx} {K:Env->HS->Prop}
theorem Zpo {ds:List D} {vs:Array Value} {n:Nat} {m:CM} (h:RepDs m ds vs) (hl:ds.length=n):Flat m n [ds] vs.toList:=by
 refine⟨by simp[h.1,hl],by simp[hl],fun i x j c hx hj=>?_⟩;cases i with
 | zero=>
   simp at hx;subst hx;obtain⟨u,hu,hr⟩:=h.2 j c hj;exact⟨u,by simpa using hu,hr⟩
 | succ i=>simp at hx
theorem Z9m (hE:EnvRel μ e a) {n:Nat} (hn:0 < n):∀ (ps:List (Nat × Operand)) (k:Nat) (xs:List (List D)) (cur:Array Value),elemsV e n ps k=some xs->cur.size=(k+ps.length) * n ->
  ∃ cur' vs,Instr.fill (fun i=>some (i * n,n)) cur (ps.map fun p=>(p.1,a.eval p.2))=some cur'/\cur'.toList=cur.toList.take (k * n)++vs/\Flat μ.cell n xs vs
 | [],k,xs,cur,hf,hs=>by
   simp[elemsV] at hf;subst hf;refine⟨cur,[],by simp[Instr.fill],?_,Flat.nil _ _⟩;simp at hs;rw[Y0k,Y0l];rw[Y0i,hs];exact Y09 _
 | (i,x)::r,k,xs,cur,hf,hs=>by
   simp only[elemsV] at hf;split at hf
   .rename_i hc;obtain⟨rfl,hlen⟩:=hc;split at hf
    .rename_i d ds hd hds
     injection hf with hf
     subst hf;have hne:(e.ev x).cells≠[]:=by intro he;rw[he] at hlen;simp at hlen;omega
     have hxR:=Z9p (ev_rep hE x) hne;have hsz:(a.eval x).cells.size=n:=by rw[hxR.1,hlen]
     have hmul:(i+(r.length+1)) * n=i * n+n+r.length * n:=by rw[Y0x,Y0x,Y2x];omega
     simp only[Y22] at hs;rw[hmul] at hs;have hmul2:(i+1+r.length) * n=i * n+n+r.length * n:=by rw[Y0x,Y0x,Y2x]
     have hfo:=Zdr (a.eval x).cells.toList 0 cur (i * n) (by rw[Y0i,hsz,hs];omega);simp only[Y1q,Y0i] at hfo;obtain⟨cur',vs,h1,h2,h3⟩:=Z9m hE hn r (i+1) ds ((cur.toList.take (i * n)++(a.eval x).cells.toList++cur.toList.drop (i * n+(a.eval x).cells.size)).toArray) hds
      (by
       rw[hmul2];simp only[Y2p,Y0f,Y12,Y1u,Y0i,hsz,hs]
       omega)
     refine⟨cur',(a.eval x).cells.toList++vs,?_,?_,(Zpo (Zb0 hxR hd) (by rw[Zd7 hd,hlen])).append h3⟩
     .simp only[Y0d,Instr.fill];have hno:¬ ((a.eval x).cells.size≠n\/i * n+(a.eval x).cells.size > cur.size):=by rw[hsz,hs];omega
      have hz:(a.eval x).cells.zipIdx.foldl (fun cs (c,j)=>cs.setIfInBounds (i * n+j) c) cur=((a.eval x).cells.toList.zipIdx 0).foldl (fun cs x=>cs.setIfInBounds (i * n+x.2) x.1) cur:=by
       rw[<- Array.foldl_toList];simp
      simp only[Y1o,decide_eq_true_eq,hno,if_false,hz,hfo];exact h1
     .rw[h2];have hl:(cur.toList.take (i * n)++(a.eval x).cells.toList).length=(i+1) * n:=by
       rw[Y0f,Y12,Y0i,Y0i,hsz,hs,Y0x,Y2x];omega
      rw[show (cur.toList.take (i * n)++(a.eval x).cells.toList++cur.toList.drop (i * n+(a.eval x).cells.size)).toArray.toList=(cur.toList.take (i * n)++(a.eval x).cells.toList)++cur.toList.drop (i * n+(a.eval x).cells.size) by simp];rw[<- hl,Y2u,Y0n]
    .cases hf
   .cases hf
theorem RepCs.append {xs ys:List C} {vs us:Array Value} (h1:RepCs μ xs vs) (h2:RepCs μ ys us):RepCs μ (xs++ys) (vs++us):=by
 refine⟨by simp[h1.1,h2.1],fun i c hi=>?_⟩;rw[Y1i] at hi;split at hi
 .rename_i hlt;obtain⟨u,hu,hr⟩:=h1.2 i c hi;exact⟨u,by rw[Y1w (by rw[h1.1];exact hlt)];exact hu,hr⟩
 .rename_i hlt;obtain⟨u,hu,hr⟩:=h2.2 _ c hi;exact⟨u,by rw[Y1s (by rw[h1.1];omega),h1.1];exact hu,hr⟩
theorem RepCs.nil:RepCs μ [] #[]:=⟨rfl,fun i c hi=>by simp at hi⟩
theorem Z9n (hE:EnvRel μ e a) {n:Nat} (hn:0 < n):∀ (ps:List (Nat × Operand)) (k:Nat) (xs:List C) (cur:Array Value),cellsV e n ps k=some xs->cur.size=(k+ps.length) * n ->
  ∃ cur' vs,Instr.fill (fun i=>some (i * n,n)) cur (ps.map fun p=>(p.1,a.eval p.2))=some cur'/\cur'.toList=cur.toList.take (k * n)++vs/\RepCs μ xs vs.toArray/\vs.length=ps.length * n
 | [],k,xs,cur,hf,hs=>by
   simp[cellsV] at hf;subst hf;refine⟨cur,[],by simp[Instr.fill],?_,RepCs.nil,by simp⟩;simp at hs;rw[Y0k,Y0l];rw[Y0i,hs];exact Y09 _
 | (i,x)::r,k,xs,cur,hf,hs=>by
   simp only[cellsV] at hf;split at hf
   .rename_i hc;obtain⟨rfl,hlen⟩:=hc;split at hf
    .rename_i ds hds
     injection hf with hf
     subst hf;have hne:(e.ev x).cells≠[]:=by intro he;rw[he] at hlen;simp at hlen;omega
     have hxR:=Z9p (ev_rep hE x) hne;have hsz:(a.eval x).cells.size=n:=by rw[hxR.1,hlen]
     have hmul:(i+(r.length+1)) * n=i * n+n+r.length * n:=by rw[Y0x,Y0x,Y2x];omega
     simp only[Y22] at hs;rw[hmul] at hs;have hmul2:(i+1+r.length) * n=i * n+n+r.length * n:=by rw[Y0x,Y0x,Y2x]
     have hfo:=Zdr (a.eval x).cells.toList 0 cur (i * n) (by rw[Y0i,hsz,hs];omega);simp only[Y1q,Y0i] at hfo;obtain⟨cur',vs,h1,h2,h3,h4⟩:=Z9n hE hn r (i+1) ds ((cur.toList.take (i * n)++(a.eval x).cells.toList++cur.toList.drop (i * n+(a.eval x).cells.size)).toArray) hds
      (by
       rw[hmul2];simp only[Y2p,Y0f,Y12,Y1u,Y0i,hsz,hs]
       omega)
     refine⟨cur',(a.eval x).cells.toList++vs,?_,?_,by rw[show ((a.eval x).cells.toList++vs).toArray=(a.eval x).cells++vs.toArray by simp];exact hxR.append h3,by simp[hsz,h4,Y0x];omega⟩
     .simp only[Y0d,Instr.fill];have hno:¬ ((a.eval x).cells.size≠n\/i * n+(a.eval x).cells.size > cur.size):=by rw[hsz,hs];omega
      have hz:(a.eval x).cells.zipIdx.foldl (fun cs (c,j)=>cs.setIfInBounds (i * n+j) c) cur=((a.eval x).cells.toList.zipIdx 0).foldl (fun cs x=>cs.setIfInBounds (i * n+x.2) x.1) cur:=by
       rw[<- Array.foldl_toList];simp
      simp only[Y1o,decide_eq_true_eq,hno,if_false,hz,hfo];exact h1
     .rw[h2];have hl:(cur.toList.take (i * n)++(a.eval x).cells.toList).length=(i+1) * n:=by
       rw[Y0f,Y12,Y0i,Y0i,hsz,hs,Y0x,Y2x];omega
      rw[show (cur.toList.take (i * n)++(a.eval x).cells.toList++cur.toList.drop (i * n+(a.eval x).cells.size)).toArray.toList=(cur.toList.take (i * n)++(a.eval x).cells.toList)++cur.toList.drop (i * n+(a.eval x).cells.size) by simp];rw[<- hl,Y2u,Y0n]
    .cases hf
   .cases hf
theorem Zba {n:Nat}:∀ (ps:List (Nat × Operand)) (k:Nat) (xs:List (List D)),elemsV e n ps k=some xs->xs.length=ps.length
 | [],k,xs,hf=>by simp[elemsV] at hf;subst hf;rfl
 | (i,x)::r,k,xs,hf=>by
   simp only[elemsV] at hf;split at hf
   .split at hf
    .rename_i d ds _ hds
     injection hf with hf
     subst hf;simp[Zba r (k+1) ds hds]
    .cases hf
   .cases hf
theorem Zda (hI:Inv Γ h μ w) (hE:EnvRel μ e a) (hd:dstOK o e) {t:TypeId} {len:Nat} {ps:Array (Nat × Operand)} (ho:o.op=.buildSlice t len ps) (hv:vcOp P o e h K):Owes P Γ μ o a w K:=by
 simp only[vcOp,ho] at hv;split at hv
 .rename_i el n by_ hel;obtain⟨i,z,hu,hi,hsz,hby,hzz,hzs⟩:=Z5h hel;split at hv
  .rename_i xs hxs;rcases hv with ⟨⟨hlen,hn,hl64,hn64⟩,hK⟩ | ⟨⟨hl0,hps,hn,_⟩,hK⟩;rotate_left
   .subst hl0;have hps':ps=#[]:=by cases ps;simp_all
    have hlab:((h.ep,16 * dstN o):Lab).1=h.ep:=rfl;have hI':=hI.newBlock (T:=el) (conc:=#[]);refine Z0l (v:=.one .z) (u:=.slice (some ⟨w.heap.size,0,none⟩) 0 0) (w':=w.alloc (.cells #[] el)) ?_ hE (Mem.Le.refl μ) hI' hd ⟨_,rfl⟩ hK;simp[execOp,ho,hps',Instr.buildSlice,run_underlying hu,sizeOf,typeInfo,hi,newRow,newObj,Instr.fill,Array.range_zero']
    try rfl
   have hpl:=Zba _ _ _ hxs;have hnn:len * n<=64 * 64:=Y1y hl64 hn64;obtain⟨z0,hz0⟩:∃ z0:Array Value,z0=(Array.range (len * n)).map (fun k=>(if len * n=0 then #[] else z.cells)[k % (if len * n=0 then #[] else z.cells).size]!):=⟨_,rfl⟩;have hz0s:z0.size=(0+ps.toList.length) * n:=by rw[hz0];simp[<- hpl,hlen]
   obtain⟨cur',vs,h1,h2,h3⟩:=Z9m hE hn ps.toList 0 xs z0 hxs hz0s;have h2':cur'.toList=vs:=by simpa using h2
   have hvl:vs.length=len * n:=by rw[h3.len,hlen]
   have hcs:cur'.size=len * n:=by rw[<- Y0i,h2',hvl]
   have hlab:((h.ep,16 * dstN o):Lab).1=h.ep:=rfl;have hI2:=hI.addRow hlab (T:=el) (cur:=cur') (vs:=vs) (es:=n) (n:=len) (cap:=len) hvl (by rw[<- hvl,h2'];simp) hcs (Y09 _) (by unfold maxLen;omega);have hsub:Sub μ.cell (Am.addRow μ.cell w.heap.size 0 vs):=Z7h fun oo _ _=>by
    cases hq:μ.cell w.heap.size oo with
    | none=>rfl
    | some v=>have:=hI.cell.lt hq;omega
   refine Z0l (v:=.one (.own (h.ep,16 * dstN o) xs)) (u:=.slice (some ⟨w.heap.size,0,none⟩) len len) ?_ hE ?_ hI2 hd ?_ hK;rotate_left
   .exact⟨hsub,rfl,(Mem.le_addLoc (hI.free rfl)).loc⟩
   rotate_left
   .have hno:¬ (len * n > 2 ^ 24):=by omega
    have h1':Instr.fill (fun i=>some (i * n,n)) z0 (ps.map fun (i,x)=>(i,a.eval x)).toList=some cur':=by rw[Array.toList_map];exact h1
    by_cases hz:len * n=0
    .simp only[hz,if_true] at hz0;simp[execOp,ho,Instr.buildSlice,run_underlying hu,sizeOf,typeInfo,hi,hsz,hz,newRow,newObj];have h1'':=h1';rw[hz0] at h1'';simp at h1'';rw[h1''];rfl
    .simp only[hz,if_false] at hz0;simp[execOp,ho,Instr.buildSlice,run_underlying hu,sizeOf,typeInfo,zeroValue,hi,hsz,hz,hno,hzz,newRow,newObj];have h1'':=h1';rw[hz0] at h1'';simp at h1'';rw[h1''];rfl
   .refine⟨?_,some w.heap.size,len,Mem.addLoc_same,by simp[hdr,hlen]⟩
    have:=RepD.of_flat (b:=w.heap.size) (off:=0) (cap:=len) (h3.mono hsub) (by rw[hlen];show len<=2097152;omega) (by omega) (fun k u hk=>Ze1 hk)
    rw[hlen] at this;exact this
  .split at hv
   .rename_i cs hcs;obtain⟨⟨hlen,hn,hl64,hn64⟩,hK⟩:=hv;have hnn:len * n<=64 * 64:=Y1y hl64 hn64;obtain⟨z0,hz0⟩:∃ z0:Array Value,z0=(Array.range (len * n)).map (fun k=>(if len * n=0 then #[] else z.cells)[k % (if len * n=0 then #[] else z.cells).size]!):=⟨_,rfl⟩;have hz0s:z0.size=(0+ps.toList.length) * n:=by rw[hz0,hlen];simp
    obtain⟨cur',vs,h1,h2,h3,h4⟩:=Z9n hE hn ps.toList 0 cs z0 hcs hz0s;have h2':cur'.toList=vs:=by simpa using h2
    have hR:RepCs μ cs cur':=by rw[<- h2'] at h3;simpa using h3
    have hlab:((h.ep,16 * dstN o):Lab).1=h.ep:=rfl;refine Z0l (v:=.one (.mrow (h.ep,16 * dstN o) 0 len len)) (u:=.slice (some ⟨w.heap.size,0,none⟩) len len) (w':=w.alloc (.cells cur' el)) ?_ hE (Mem.le_addLoc (hI.free hlab)) (hI.addBox hlab hR) hd ?_ hK
    .have hno:¬ (len * n > 2 ^ 24):=by omega
     have h1':Instr.fill (fun i=>some (i * n,n)) z0 (ps.map fun (i,x)=>(i,a.eval x)).toList=some cur':=by rw[Array.toList_map];exact h1
     by_cases hz:len * n=0
     .simp only[hz,if_true] at hz0;simp[execOp,ho,Instr.buildSlice,run_underlying hu,sizeOf,typeInfo,hi,hsz,hz,newRow,newObj];have h1'':=h1';rw[hz0] at h1'';simp at h1'';rw[h1''];rfl
     .simp only[hz,if_false] at hz0;simp[execOp,ho,Instr.buildSlice,run_underlying hu,sizeOf,typeInfo,zeroValue,hi,hsz,hz,hno,hzz,newRow,newObj];have h1'':=h1';rw[hz0] at h1'';simp at h1'';rw[h1''];rfl
    .exact⟨w.heap.size,0,Mem.addLoc_same,rfl,Y09 _⟩
   .exact hv.elim
 .exact hv.elim
theorem Zm0 {m:CM} {x y:D} {v u:Value} (hx:RepD m x v) (hy:RepD m y u) (hk:kdOf x=kdOf y) (hn:kdOf x≠.other):valEq v u=eqD x y:=by
 cases hx<;>cases hy<;>simp_all [kdOf,valEq,eqD]
theorem Zd8 {m:CM}:∀ {ds:List D} {vs:List Value},RepDs m ds vs.toArray->Kd.other ∉ ds.map kdOf->Shaped (ds.map kdOf) vs
 | [],vs,h,_=>by
   have:=h.1
   simp at this;subst this;trivial
 | d::ds,vs,h,hn=>by
   have hl:=h.1
   match vs,hl with
   | v::vs,hl=>
     obtain⟨u,hu,hr⟩:=h.2 0 d (by simp);simp at hu;subst hu;have ih:=Zd8 (m:=m) (ds:=ds) (vs:=vs) ⟨by simpa using hl,fun i x hi=>by
      obtain⟨u,hu,hr⟩:=h.2 (i+1) x (by simpa using hi);exact⟨u,by simpa using hu,hr⟩⟩ (fun hc=>hn (by simp only[Y0d,Y08];exact .inr hc))
     have hn0:kdOf d≠.other:=fun hc=>hn (by simp[hc]);cases hr with
     | int k n=>exact⟨⟨n,rfl⟩,ih⟩
     | bool b=>exact⟨⟨b,rfl⟩,ih⟩
     | str s=>exact⟨⟨s,rfl⟩,ih⟩
     | raw v h=>exact absurd rfl hn0
     | sl=>exact absurd rfl hn0
theorem Zd3 {m:CM}:∀ {xs ys:List D} {vs us:List Value},RepDs m xs vs.toArray->RepDs m ys us.toArray->xs.map kdOf=ys.map kdOf->Kd.other ∉ xs.map kdOf->valsEq vs us=eqDs xs ys
 | [],[],vs,us,hx,hy,_,_=>by
   have h1:=hx.1;have h2:=hy.1;simp at h1 h2;subst h1 h2;rfl
 | x::xs,y::ys,vs,us,hx,hy,hk,hn=>by
   have hl:=hx.1;have hl2:=hy.1
   match vs,us,hl,hl2 with
   | v::vs,u::us,hl,hl2=>
     obtain⟨v',hv',hr⟩:=hx.2 0 x (by simp);obtain⟨u',hu',hr'⟩:=hy.2 0 y (by simp);simp at hv' hu';subst hv' hu';simp only[Y0d,List.cons.injEq] at hk;have ih:=Zd3 (m:=m) (xs:=xs) (ys:=ys) (vs:=vs) (us:=us)
      ⟨by simpa using hl,fun i z hi=>by obtain⟨u,hu,hr⟩:=hx.2 (i+1) z (by simpa using hi);exact⟨u,by simpa using hu,hr⟩⟩
      ⟨by simpa using hl2,fun i z hi=>by obtain⟨u,hu,hr⟩:=hy.2 (i+1) z (by simpa using hi);exact⟨u,by simpa using hu,hr⟩⟩ hk.2 (fun hc=>hn (by simp only[Y0d,Y08];exact .inr hc))
     simp only[valsEq,eqDs];rw[ih,Zm0 hr hr' hk.1 (fun hc=>hn (by simp[hc]))]
 | [],_::_,_,_,_,_,hk,_=>by simp at hk
 | _::_,[],_,_,_,_,hk,_=>by simp at hk
theorem Zpe (hI:Inv Γ h μ w) (hE:EnvRel μ e a) (hd:dstOK o e) {op:BinOp} {t t':TypeId} {x y:Operand} (ho:o.op=.binOp op t x y t') (hy:isNilConst y=true) {c:C} (hx:e.ev x=.one c) (hv:vcNil P op t c (fun v=>K (e.put o.dst v) h)):Owes P Γ μ o a w K:=by
 obtain⟨⟨hop,el,hu⟩,hv⟩:=hv;have hxv:=ev_rep hE x;rw[hx] at hxv;have hc:RepC μ c (a.eval x):=hxv;have key:∀ ad len cap,a.eval x=.slice ad len cap->K (e.put o.dst (dbool (if op=.neq then !ad.isNone else ad.isNone))) h->Owes P Γ μ o a w K:=by
  intro ad len cap he hk;refine Z0l (v:=dbool (if op=.neq then !ad.isNone else ad.isNone)) (u:=.bool (if op=.neq then !ad.isNone else ad.isNone)) (w':=w) ?_ hE (Mem.Le.refl μ) hI hd (RepD.bool _) hk;have hev:a.eval y=.slice none 0 0:=by
   unfold isNilConst at hy;split at hy
   .rfl
   .cases hy
  have heq:=run_equal_slice_nil (P:=P) w t el ad len cap hu;cases op<;>simp[isCmp] at hop<;>simp[execOp,ho,he,hev,eqGuard,binOp,heq]
 split at hv
 .exact key none 0 0 hc (by simpa using hv)
 .obtain⟨b,k,_,h2,_⟩:=hc;exact key _ _ _ h2 (by simpa using hv)
 .split at hv
  .rename_i xs hxs;obtain⟨ad,cap,h1,h2,_⟩:=(Z5l hc (Z78 hxs)).slice;refine key ad _ _ h1 (hv ad.isNone (fun hne=>?_));have hD:=Z5l hc (Z78 hxs);rw[h1] at hD;generalize hq:Value.slice ad xs.length cap=q at hD;cases hD with
   | sl xs a' cap' es b off f hl hc' hes ha _ _=>
     injection hq with hq
     rw[hq,ha hne];rfl
  .exact hv.elim
theorem Zpg (hI:Inv Γ h μ w) (hE:EnvRel μ e a) (hd:dstOK o e) {c:Call} (ho:o.op=.call c) (hc:c.callee=.builtin .cap) {t:TypeId} (ht:c.argTypes.toList=[t])
  {s:C} (hx:c.args.toList.map e.ev=[.one s]) (hv:vcCap P t s (fun v=>K (e.put o.dst v) h)):Owes P Γ μ o a w K:=by
 obtain⟨y,hy,hys⟩:=Zfr hx;have hargs:c.args=#[y]:=by cases hq:c.args;simp_all
 have hat:c.argTypes=#[t]:=by cases hq:c.argTypes;simp_all
 have hsv:=ev_rep hE y;rw[hys] at hsv;have hsv':RepC μ s (a.eval y):=hsv;obtain⟨⟨el,hu⟩,hv⟩:=hv;have key:∀ ad len (cap:Nat),a.eval y=.slice ad len cap->K (e.put o.dst (dint .i64 cap)) h->Owes P Γ μ o a w K:=fun ad len cap he hk=>by
  refine Z0l (v:=dint .i64 cap) (u:=.int .i64 cap) (w':=w) ?_ hE (Mem.Le.refl μ) hI hd (RepD.int _ _) hk;simp[execOp,ho,resolve,hc,hargs,hat,invoke,builtin,Builtin.cap_,run_underlying hu,he,goInt]
 split at hv
 .exact key none 0 0 hsv' hv
 .obtain⟨ad,he⟩:=hsv';exact key ad 0 0 he hv
 .obtain⟨b,k,_,h2,_⟩:=hsv';exact key _ _ _ h2 hv
 .exact hv.elim
theorem Zl7 (hI:Inv Γ h μ w) (hE:EnvRel μ e a) (hd:dstOK o e) {op:BinOp} {t t':TypeId} {x y:Operand} (ho:o.op=.binOp op t x y t') (hv:vcOp P o e h K):Owes P Γ μ o a w K:=by
 simp only[vcOp,ho] at hv
 by_cases hnil:isNilConst y=true
 .rw[if_pos hnil] at hv;unfold vcNilV at hv;split at hv
  .rename_i c hcx;exact Zpe hI hE hd ho hnil hcx hv
  .exact hv.elim
 rw[if_neg hnil] at hv;split at hv
 .rename_i cs cs' hcx hcy;have hx:=ev_rep hE x;have hy:=ev_rep hE y;rw[hcx] at hx;rw[hcy] at hy;obtain⟨vs,hvs,hR⟩:=(show ∃ vs:Array Value,a.eval x=.agg vs/\RepCs μ cs vs from hx);obtain⟨us,hus,hR'⟩:=(show ∃ vs:Array Value,a.eval y=.agg vs/\RepCs μ cs' vs from hy);split at hv
  .rename_i p q hp hq;obtain⟨⟨hcmp,hk,hno,hEq⟩,hK⟩:=hv;have h1:=Zb0 hR hp;have h2:=Zb0 hR' hq;obtain⟨vl⟩:=vs;obtain⟨ul⟩:=us;have hrun:=hEq op vl ul w x y hcmp (Zd8 h1 hno) (by rw[hk];exact Zd8 h2 (by rw[<- hk];exact hno));rw[Zd3 h1 h2 hk hno] at hrun;refine Z0l (v:=dbool (if op=.neq then !(eqDs p q) else eqDs p q)) (u:=.bool (if op=.neq then !(eqDs p q) else eqDs p q)) ?_ hE (Mem.Le.refl μ) hI hd (RepD.bool _) hK;unfold execOp;simp only[ho,hvs,hus];rw[Sem.run_bind,hrun];rfl
  .exact hv.elim
 .split at hv
  .rename_i r hr;exact Zfp hI hE hd (by rw[ho];exact hr) hv
  .exact hv.elim
def snap (w:World):CM:=fun b o=>w.cell? ⟨b,o,none⟩
theorem Z9v (w:World):Cells (snap w) w:=fun _ _ _ h=>h
theorem box_rp (hI:Inv Γ h μ w) {l:Lab} {cs:List C} {ds:List D} (hb:h.box l=some cs) (hd:toDs cs=some ds) {b n:Nat} (hl:μ.loc l=some (some b,n)):RepP μ.cell (snap w) ds (.pointer (some ⟨b,0,none⟩)):=by
 obtain⟨b',n',T,conc,hl',_,hh,hR,_⟩:=hI.box l cs hb;rw[hl] at hl';simp only[Y06,Y07] at hl';obtain⟨rfl,rfl⟩:=hl';refine⟨b,0,rfl,fun j c hj=>?_⟩;obtain⟨u,hu,hr⟩:=(Zb0 hR hd).2 j c hj;refine⟨u,.inr ?_,hr⟩;simp[snap,World.cell?,hh,hu]
theorem Zmw (hI:Inv Γ h μ w) {cs:List D} {v:Value} (hr:RepP μ.cell μ.tmp cs v):RepP μ.cell (snap w) cs v:=by
 obtain⟨b,off,hv,hc⟩:=hr;refine⟨b,off,hv,fun j c hj=>?_⟩;obtain⟨u,hu,hr⟩:=hc j c hj;refine⟨u,?_,hr⟩;rcases hu with hu | hu
 .exact .inl hu
 .rw[hI.tmp] at hu;exact .inr (hI.tcell _ _ _ hu)
theorem Zjj (hI:Inv Γ h μ w) {c:Cap} {ds:List D} {v:Value} (hc:RepCap μ c v) (hd:capA h c=some ds):RepP μ.cell (snap w) ds v:=by
 cases c with
 | lab l=>
   simp only[capA] at hd;split at hd
   .rename_i cs hb;obtain⟨b,n,hl,rfl⟩:=hc;exact box_rp hI hb hd hl
   .cases hd
 | rp cs=>simp[capA] at hd;subst hd;exact Zmw hI hc
theorem Zdx (hI:Inv Γ h μ w):∀ {caps:List Cap} {l:List (List D)},capsA h caps=some l->l.length=caps.length/\∀ (i:Nat) ds,l[i]? = some ds->∃ c,caps[i]? = some c/\capA h c=some ds
 | [],l,hc=>by simp[capsA] at hc;subst hc;exact⟨rfl,fun i ds hi=>by simp at hi⟩
 | c::r,l,hc=>by
   simp only[capsA] at hc;split at hc
   .rename_i x xs hx hxs
    injection hc with hc
    subst hc;obtain⟨h1,h2⟩:=Zdx hI hxs;refine⟨by simp[h1],fun i ds hi=>?_⟩;cases i with
    | zero=>simp at hi;subst hi;exact⟨c,by simp,hx⟩
    | succ i=>obtain⟨c',h3,h4⟩:=h2 i ds (by simpa using hi);exact⟨c',by simpa using h3,h4⟩
   .cases hc
theorem Zrl (hI:Inv Γ h μ w) {c:C} {v:Value} {x:A} (hc:RepC μ c v) (hx:c.toA h=some x):RepA μ.cell (snap w) x v:=by
 cases c with
 | d y=>simp[C.toA] at hx;subst hx;exact hc
 | own l xs=>simp[C.toA] at hx;subst hx;exact hc.1
 | nil=>simp[C.toA] at hx;subst hx;exact Z5l (c:=.nil) hc rfl
 | z=>simp[C.toA] at hx;subst hx;exact Z5l (c:=.z) hc rfl
 | mrow l o n cap=>simp[C.toA] at hx
 | any=>simp[C.toA] at hx
 | ptr l off=>
   cases off with
   | zero=>
     simp only[C.toA] at hx;split at hx
     .rename_i cs hb;cases hd:toDs cs with
      | none=>simp[hd] at hx
      | some ds=>
        simp[hd] at hx;subst hx;obtain⟨b,n,hl,rfl⟩:=hc;exact box_rp hI hb hd hl
     .cases hx
   | succ off=>simp[C.toA] at hx
 | rp cs=>simp[C.toA] at hx;subst hx;exact Zmw hI hc
 | fn f caps=>
   simp only[C.toA] at hx;cases hl:capsA h caps with
   | none=>simp[hl] at hx
   | some l=>
     simp[hl] at hx;subst hx;obtain⟨vs,hv,hsz,hcv⟩:=hc;obtain⟨h1,h2⟩:=Zdx hI hl;refine⟨vs,hv,by rw[hsz,h1],fun i ds hi=>?_⟩;obtain⟨c,hc1,hc2⟩:=h2 i ds hi;obtain⟨u,hu,hr⟩:=hcv i c hc1;exact⟨u,hu,Zjj hI hr hc2⟩
theorem Zjm (hI:Inv Γ h μ w) {x:V} {v:Value} {y:AV} (hx:RepV μ x v) (hy:x.toA h=some y):RepAV μ.cell (snap w) y v:=by
 cases x with
 | one c=>
   simp only[V.toA] at hy;cases hc:c.toA h with
   | none=>simp[hc] at hy
   | some z=>simp[hc] at hy;subst hy;exact Zrl hI hx hc
 | agg cs=>
   simp only[V.toA] at hy;cases hc:toDs cs with
   | none=>simp[hc] at hy
   | some z=>
     simp[hc] at hy;subst hy;obtain⟨vs,hv,hR⟩:=hx;exact⟨vs,hv,Zb0 hR hc⟩
 | top=>simp[V.toA] at hy
 | undef=>simp[V.toA] at hy
 | tup vs=>simp[V.toA] at hy
theorem Ziz {vs:List V}:∀ {ars:List AV},toAs h vs=some ars->ars.length=vs.length/\∀ (i:Nat) x,ars[i]? = some x->∃ v,vs[i]? = some v/\v.toA h=some x:=by
 induction vs with
 | nil=>intro ars ha;simp[toAs] at ha;subst ha;exact⟨rfl,fun i x hi=>by simp at hi⟩
 | cons v vs ih=>
   intro ars ha;simp only[toAs] at ha;split at ha
   .rename_i x xs hx hxs
    injection ha with ha
    subst ha;obtain⟨h1,h2⟩:=ih hxs;refine⟨by simp[h1],fun i y hi=>?_⟩;cases i with
    | zero=>simp at hi;subst hi;exact⟨v,by simp,hx⟩
    | succ i=>obtain⟨c',h3,h4⟩:=h2 i y (by simpa using hi);exact⟨c',by simpa using h3,h4⟩
   .cases ha
end
end Go.Am
end
section
namespace Go.Am
open Go
open Go.RowKit (Below)
section
variable {P:Program} {o:Oper} {a:Act} {w w':World} {e:Env} {h:HS} {μ μ':Mem} {Γ:Ctx} {K:Env->HS->Prop}
theorem RepCs.toList {xs:List C} {vs:Array Value} (h1:RepCs μ xs vs):RepCs μ xs vs.toList.toArray:=by simpa using h1
theorem Z7f {es:Nat}:∀ {xs:List (List D)} {vs:List Value},Flat μ.cell es xs vs->RepCs μ (xs.flatten.map C.d) vs.toArray
 | [],vs,hf=>by
   have:vs=[]:=Y0o (by simpa using hf.len)
   subst this;exact⟨rfl,fun i c hi=>by simp at hi⟩
 | x::xs,vs,hf=>by
   have hxl:x.length=es:=hf.elem x (by simp);have hlen:=hf.len;simp only[Y22,Y0x,Y2x] at hlen;have htl:Flat μ.cell es xs (vs.drop es):=⟨by rw[Y1u,hlen];omega,fun y hy=>hf.elem y (by simp[hy]),fun i y j c hy hj=>by
    obtain⟨u,hu,hr⟩:=hf.rep (i+1) y j c (by simpa using hy) hj;refine⟨u,?_,hr⟩;rw[Y16];rw[show es+(i * es+j)=(i+1) * es+j by rw[Y0x];omega];exact hu⟩
   have hhd:RepCs μ (x.map C.d) (vs.take es).toArray:=by
    refine⟨by simp[hxl,hlen],fun i c hi=>?_⟩;rw[Y0b] at hi;cases hx:x[i]? with
    | none=>simp[hx] at hi
    | some d=>
      simp[hx] at hi;subst hi;obtain⟨u,hu,hr⟩:=hf.rep 0 x i d (by simp) hx;have hlt:i < es:=by rw[<- hxl];exact (Y00.1 hx).1
      refine⟨u,?_,hr⟩;simp only[Nat.zero_mul,Y25] at hu;simp[Y15,hlt,hu]
   have:=hhd.append (Z7f htl)
   simpa using this
theorem Z7y (hI:Inv Γ h μ w) {n:Nat} (hn:0 < n) {c:C} {v:Value} (hc:RepC μ c v) {new:List C} {m:Nat} (hr:Z0x h n c=some new) (hm:cLen c=some m) (hl:new.length=m * n) :
  ∃ xa xcap,∃ vals:List Value,v=.slice xa m xcap/\RepCs μ new vals.toArray/\(0 < m->∃ b off,xa=some ⟨b,off,none⟩/\∀ (j:Nat) u,vals[j]? = some u->w.cell? ⟨b,off+j,none⟩=some u):=by
 have data:∀ xs,c.list? = some xs->(∀ x ∈ xs,x.length=n)->new=xs.flatten.map C.d->m=xs.length ->
   ∃ xa xcap,∃ vals:List Value,v=.slice xa m xcap/\RepCs μ new vals.toArray/\(0 < m->∃ b off,xa=some ⟨b,off,none⟩/\∀ (j:Nat) u,vals[j]? = some u->w.cell? ⟨b,off+j,none⟩=some u):=by
  intro xs hxs hall hnew hmm;subst hnew hmm;obtain⟨xa,xcap,xv,hxeq,hxF,hxcell⟩:=(Z5l hc (Z78 hxs)).flat hall hn;refine⟨xa,xcap,xv,hxeq,Z7f hxF,fun hpos=>?_⟩;obtain⟨b,off,h1,h2⟩:=hxcell (by intro he;subst he;simp at hpos);exact⟨b,off,h1,fun j u hj=>hI.cell _ _ _ (h2 j u hj)⟩
 cases c with
 | mrow l off k cap=>
   simp only[Z0x] at hr;simp only[cLen,Y06] at hm;subst hm;split at hr
   .rename_i cs hb;obtain⟨hle,rfl⟩:=Z8f hr;obtain⟨b,kk,hloc,rfl,hcap⟩:=hc;obtain⟨b',n',T,conc,h1,_,h3,h4,_⟩:=hI.box l cs hb;rw[hloc] at h1;simp only[Y06,Y07] at h1;obtain⟨rfl,_⟩:=h1;refine⟨_,cap,(conc.toList.drop off).take (k * n),rfl,⟨?_,fun i c hi=>?_⟩,fun _=>⟨b,off,rfl,fun j u hj=>?_⟩⟩
    .have:=h4.1
     simp only[Y2p,Y12,Y1u,Y0i] at *;omega
    .rw[Y15] at hi;split at hi
     .rename_i hlt;rw[Y16] at hi;obtain⟨u,hu,hr⟩:=h4.2 _ c hi;exact⟨u,by simp[Y15,hlt,Y16,hu],hr⟩
     .cases hi
    .rw[Y15] at hj;split at hj
     .rw[Y16] at hj;simp[World.cell?,h3];simpa using hj
     .cases hj
   .cases hr
 | d x=>
   simp only[Z0x,cLen] at hr hm;cases hx:C.list? (.d x) with
   | none=>rw[hx] at hm;cases hm
   | some xs=>
     rw[hx] at hm hr;simp only[Y06] at hm;simp only at hr;split at hr
     .rename_i hall
      injection hr with hr
      exact data xs hx hall hr.symm hm.symm
     .cases hr
 | own l ys=>
   simp only[Z0x,cLen,C.list?,Y06] at hr hm;split at hr
   .rename_i hall
    injection hr with hr
    exact data ys rfl hall hr.symm hm.symm
   .cases hr
 | nil=>
   simp only[Z0x,cLen,C.list?,Y06] at hr hm;split at hr
   .rename_i hall
    injection hr with hr
    exact data [] rfl hall hr.symm hm.symm
   .cases hr
 | z=>
   simp only[Z0x,cLen,C.list?,Y06] at hr hm;split at hr
   .rename_i hall
    injection hr with hr
    exact data [] rfl hall hr.symm hm.symm
   .cases hr
 | _=>simp[cLen,C.list?] at hm
theorem Zbl {P:Program} (w:World) (t ty e T:TypeId) (i:TypeInfo) (ht:P.underlying t=some (.slice e)) (hi:P.info? e=some i)
  (g off sLen sCap:Nat) (cur:Array Value) (hg:w.heap[g]? = some (.cells cur T (0,0)))
  (a:Addr) (m c:Nat) (news:List Value) (hl:news.length=m * i.size) (hnews:∀ (j:Nat) u,news[j]? = some u->w.cell? (a.add j)=some u) (h1:∀ u ∈ news,u.oneCell'=true)
  (hroom:sLen+m<=sCap) (hfit:off+sLen * i.size+news.length<=cur.size) :
  (Builtin.append_ #[t,t] ty #[.slice (some ⟨g,off,none⟩) sLen sCap,.slice (some a) m c]).run P w =
   .ok (.slice (some ⟨g,off,none⟩) (sLen+m) sCap) (w.setRow g (cur.toList.take (off+sLen * i.size)++news++cur.toList.drop (off+sLen * i.size+news.length)).toArray):=by
 have hf:=run_firstCells_some (P:=P) w i.size m a m c news hl hnews;have hst:=run_storeCells_at P g (off+sLen * i.size) T news 0 cur w hg (by simpa using hfit) h1;simp only[Y1q] at hst;simp[Builtin.append_,run_underlying ht,sizeOf,typeInfo,hi,Builtin.lenOf,hroom,hf,Addr.add_lit,hst]
theorem RepCs.any {k:Nat} {vs:Array Value} (hs:vs.size=k) (hv:∀ v ∈ vs,v.oneCell'=true):RepCs μ (List.replicate k .any) vs:=by
 refine⟨by simp[hs],fun i c hi=>?_⟩;rw[List.getElem?_replicate] at hi;split at hi
 .rename_i hlt
  injection hi with hi
  subst hi
  have:vs[i]? = some vs[i]:=Y1h (by omega)
  exact⟨_,this,hv _ (Array.mem_of_getElem? this)⟩
 .cases hi
theorem Z63 {z:Array Value} {k:Nat} (hz:∀ v ∈ z,v.oneCell'=true) (hpos:0 < z.size):∀ v ∈ Builtin.zeroCells z k,v.oneCell'=true:=by
 intro v hv;unfold Builtin.zeroCells at hv;obtain⟨i,_,rfl⟩:=Array.mem_map.1 hv;have hlt:i % z.size < z.size:=Nat.mod_lt _ hpos;rw[getElem!_pos z _ hlt];exact hz _ (Array.getElem_mem hlt)
theorem Zft (hI:Inv Γ h μ w) {l:Lab} {off k cap:Nat} {v:Value} (hc:RepC μ (.mrow l off k cap) v) {cs:List C} (hb:h.box l=some cs) :
  ∃ b kk T conc,μ.loc l=some (some b,kk)/\v=.slice (some ⟨b,off,none⟩) k cap/\k<=cap/\w.heap[b]? = some (.cells conc T (0,0))/\RepCs μ cs conc:=by
 obtain⟨b,kk,hloc,hv,hcap⟩:=hc;obtain⟨b',n',T,conc,h1,_,h3,h4,_⟩:=hI.box l cs hb;rw[hloc] at h1;simp only[Y06,Y07] at h1;obtain⟨rfl,_⟩:=h1;exact⟨b,kk,T,conc,hloc,hv,hcap,h3,h4⟩
theorem Zca (hI:Inv Γ h μ w) (hE:EnvRel μ e a) (hd:dstOK o e) {c:Call} (ho:o.op=.call c) (hc:c.callee=.builtin .append) {t:TypeId} (ht:c.argTypes.toList=[t,t])
  {s x:C} (hx:c.args.toList.map e.ev=[.one s,.one x]) (hv:Z5t P t s x (dstN o) h (fun v h'=>K (e.put o.dst v) h')):Owes P Γ μ o a w K:=by
 obtain⟨y,y',hy,hys,hyx⟩:=Z9u hx;have hargs:c.args=#[y,y']:=by cases hq:c.args;simp_all
 have hat:c.argTypes=#[t,t]:=by cases hq:c.argTypes;simp_all
 have hsv:=ev_rep hE y;rw[hys] at hsv;have hsv':RepC μ s (a.eval y):=hsv;have hxv:=ev_rep hE y';rw[hyx] at hxv;have hxv':RepC μ x (a.eval y'):=hxv;unfold Z5t at hv;split at hv
 .rename_i el n by_ hel;obtain⟨i,z,hu,hi,hsz,hby,hzz,hzs⟩:=Z5h hel;split at hv
  .rename_i k cap old pl new m hah hrc hcl;obtain⟨⟨hzt,h0,hb4,hlim,hnl,hol⟩,hK0,hK1,hK2⟩:=hv;have hlim':k+m<=2097152:=hlim;obtain⟨xa,xcap,xv,hxeq,hxR,hxcell⟩:=Z7y hI h0 hxv' hrc hcl hnl;have hxl:xv.length=m * n:=by have:=hxR.1;simp at this;omega
   have hhdr:∃ sa,∃ ov:List Value,a.eval y=.slice sa k cap/\k<=cap/\RepCs μ old ov.toArray/\((sa=none/\k=0/\cap=0)\/∃ b,sa=some b/\∀ (j:Nat) u,ov[j]? = some u->w.cell? (b.add j)=some u):=by
    cases s with
    | nil=>
      simp only[appHdr,Y06,Y07] at hah;obtain⟨rfl,rfl,rfl,_⟩:=hah;exact⟨none,[],hsv',Y09 _,RepCs.nil,.inl ⟨rfl,rfl,rfl⟩⟩
    | z=>
      simp only[appHdr,Y06,Y07] at hah;obtain⟨rfl,rfl,rfl,_⟩:=hah;obtain⟨ad,hve⟩:=hsv';cases ad with
      | none=>exact⟨none,[],hve,Y09 _,RepCs.nil,.inl ⟨rfl,rfl,rfl⟩⟩
      | some b=>exact⟨some b,[],hve,Y09 _,RepCs.nil,.inr ⟨b,rfl,fun j u hj=>by simp at hj⟩⟩
    | mrow l off k' cap'=>
      simp only[appHdr] at hah;split at hah
      .rename_i cs hcs;simp only[Y06,Y07] at hah;obtain⟨rfl,rfl,rfl,_⟩:=hah;obtain⟨sa,scap,ov,hse,hsR,hsc⟩:=Z7y hI h0 hsv' hcs rfl hol;obtain⟨b,kk,hloc,hve,hkc⟩:=hsv';rw[hve] at hse;simp only[Value.slice.injEq] at hse;obtain⟨rfl,_,rfl⟩:=hse;refine⟨_,ov,hve,hkc,hsR,.inr ⟨_,rfl,fun j u hj=>?_⟩⟩;have hkpos:0 < k':=by
        rcases Y2l k' with rfl | hk
        .have:=hsR.1
         rw[hol] at this;simp at this;subst this;simp at hj
        .exact hk
       obtain⟨b2,off2,h1,h2⟩:=hsc hkpos;simp only[Y06,Addr.mk.injEq] at h1;obtain⟨rfl,rfl,_⟩:=h1;rw[Z57];exact h2 j u hj
      .cases hah
    | _=>simp[appHdr] at hah
   obtain⟨sa,ov,hse,hkc,hoR,hcase⟩:=hhdr;have hovl:ov.length=k * n:=by have:=hoR.1;simp at this;omega
   rcases Y2l m with rfl | hm
   .have hr:=Z98 (P:=P) w t o.type el i hu hi sa k cap hkc xa xcap;exact Z0l (v:=.one s) (u:=a.eval y) (w':=w) (Z4k ho hc hat hargs (by rw[hxeq,hse];exact hr)) hE (Mem.Le.refl μ) hI hd hsv (hK0 rfl)
   .obtain⟨xb,xo,rfl,hxc⟩:=hxcell hm;have hnews:∀ (j:Nat) u,xv[j]? = some u->w.cell? ((⟨xb,xo,none⟩:Addr).add j)=some u:=fun j u hj=>by rw[Z57];exact hxc j u hj
    have hxl':xv.length=m * i.size:=by rw[hsz];exact hxl
    have hxone:∀ u ∈ xv,u.oneCell'=true:=fun u hu=>hxR.all u (by simpa using hu);have hbytes:(k+m) * i.bytes<=140737488355328:=by
     rw[hby]
     calc (k+m) * by_<=2097152 * 4096:=Y1y hlim hb4
      _<=140737488355328:=by decide
    by_cases hroom:k+m<=cap
    ·
     cases s with
     | mrow l off k' cap'=>
       simp only[appHdr] at hah;split at hah
       .rename_i cs0 hcs0;simp only[Y06,Y07] at hah;obtain⟨rfl,rfl,rfl,rfl⟩:=hah;obtain⟨cs,hb,hfit,hk⟩:=hK1 hm hroom l off rfl;obtain⟨b,kk,T,conc,hloc,hve,_,hh,hR⟩:=Zft hI hsv' hb;rw[hve] at hse;have hcs:=hR.1;have hmn:(k'+m) * n=k' * n+m * n:=Y0x _ _ _;have hrun:=Zbl (P:=P) w t o.type el T i hu hi b off k' cap' conc hh ⟨xb,xo,none⟩ m xcap xv hxl' hnews hxone hroom (by rw[hsz,hxl,hcs];omega);rw[hsz] at hrun;refine Z0l (v:=.one (.mrow l off (k'+m) cap')) (Z4k ho hc hat hargs (by rw[hve,hxeq];exact hrun)) hE (Mem.Le.refl μ) (hI.setBox hb hloc hh ?_) hd ⟨b,kk,hloc,rfl,hroom⟩ hk
        have:=Z6m (off:=off+k' * n) hR hxR (by rw[hnl];omega)
        simpa using this
       .cases hah
     | nil=>simp only[appHdr,Y06,Y07] at hah;omega
     | z=>simp only[appHdr,Y06,Y07] at hah;omega
     | _=>simp[appHdr] at hah
    ·
     have hge:=grownCap_ge w (k+m) cap el;have hlab:((h.ep,16 * dstN o):Lab).1=h.ep:=rfl;have hzone:∀ v ∈ z.cells,v.oneCell'=true:=by
      obtain⟨zc,hzc⟩:=Option.isSome_iff_exists.1 hzt;obtain⟨i',z',h1,h2,h3⟩:=Za9 hzc μ;rw[hi] at h1
      injection h1 with h1
      subst h1;rw[hzz] at h2
      injection h2 with h2
      subst h2;exact fun v hv=>h3.all v (by simpa using hv)
     have hRR:RepCs μ (old++new++List.replicate ((grownCap w (k+m) cap el - (k+m)) * n) .any) (ov.toArray++xv.toArray++Builtin.zeroCells z.cells (grownCap w (k+m) cap el - (k+m))):=
      (hoR.append hxR).append (RepCs.any (by rw[size_zeroCells,hzs]) (Z63 hzone (by omega)))
     have grown:∀ (run:(Builtin.append_ #[t,t] o.type #[a.eval y,a.eval y']).run P w=.ok (.slice (some ⟨w.heap.size,0,none⟩) (k+m) (grownCap w (k+m) cap el))
       (w.drew.alloc (.cells (ov.toArray++xv.toArray++Builtin.zeroCells z.cells (grownCap w (k+m) cap el - (k+m))) el))),Owes P Γ μ o a w K:=by
      intro hrun;refine Z0l (v:=.one (.mrow (h.ep,16 * dstN o) 0 (k+m) (grownCap w (k+m) cap el))) (Z4k ho hc hat hargs hrun) hE (Mem.le_addLoc (hI.free hlab)) (hI.drew.addBox hlab hRR) hd ⟨w.heap.size,0,Mem.addLoc_same,rfl,hge⟩ (hK2 hm (by omega) _ hge)
     rcases hcase with ⟨rfl,rfl,rfl⟩ | ⟨b,rfl,hov⟩
     .have hov0:ov=[]:=Y0o (by simpa using hovl);subst hov0;refine grown ?_
      have:=run_append_nil (P:=P) w t o.type el i z hu hi hzz ⟨xb,xo,none⟩ m xcap xv hxl' hnews hm (by omega) (by rw[hby];have:m * by_<=2097152 * 4096:=Y1y (by omega) hb4;omega)
      rw[hse,hxeq];simpa using this
     .refine grown ?_
      have:=run_append_grow (P:=P) w t o.type el i z hu hi hzz b k cap ov (by rw[hsz];exact hovl) hov ⟨xb,xo,none⟩ m xcap xv hxl' hnews (by omega) (by omega) (growslice_fits (by omega) hbytes)
      rw[hse,hxeq];exact this
  .exact hv.elim
 .exact hv.elim
theorem Zgs {z:Value} {cs:List C} {n:Nat} (hz:RepCs μ cs z.cells) (hn:cs.length=n) (hn0:0 < n) (k:Nat) {vs:Array Value} (hvs:vs.size=k * n) (hv:∀ i,i < k * n->vs[i]? = z.cells[i % n]?):RepCs μ (List.replicate k cs).flatten vs:=by
 induction k generalizing vs with
 | zero=>
   have:vs=#[]:=Array.eq_empty_of_size_eq_zero (by simpa using hvs)
   subst this;exact RepCs.nil
 | succ k ih=>
   have hsz:(k+1) * n=n+k * n:=by rw[Y0x,Y2x];omega
   rw[hsz] at hvs;have h1:RepCs μ cs (vs.extract 0 n):=by
    refine⟨by simp[hn];omega,fun i c hi=>?_⟩;obtain⟨u,hu,hr⟩:=hz.2 i c hi;have hlt:i < n:=by rw[<- hn];exact (Y00.1 hi).1
    refine⟨u,?_,hr⟩;have e1:(vs.extract 0 n)[i]? = vs[0+i]?:=by rw[Array.getElem?_extract_of_lt (by omega),Y1h]
    have:=hv i (by rw[hsz];omega)
    rw[Nat.mod_eq_of_lt hlt] at this;rw[e1,Y25,this,hu]
   have h2:RepCs μ (List.replicate k cs).flatten (vs.extract n (n+k * n)):=by
    refine ih (by simp;omega) (fun i hi=>?_);have e1:(vs.extract n (n+k * n))[i]? = vs[n+i]?:=by rw[Array.getElem?_extract_of_lt (by omega),Y1h]
    have:=hv (n+i) (by rw[hsz];omega)
    rw[e1,this,Nat.add_mod_left]
   have:=h1.append h2
   rw[Y2i,Y2q];have he:vs.extract 0 n++vs.extract n (n+k * n)=vs:=by
    apply Array.ext';rw[Array.toList_append,Array.toList_extract,Array.toList_extract];rw[List.extract_eq_take_drop,List.extract_eq_take_drop];simp only[Nat.sub_zero,Y27]
    have:n+k * n - n=k * n:=by omega
    rw[this];have hd:(vs.toList.drop n).take (k * n)=vs.toList.drop n:=Y0l (by rw[Y1u,Y0i,hvs];omega);rw[hd,Y17]
   rw[he] at this;exact this
theorem Z99 {P:Program} (w:World) (t tn ty e:TypeId) (i:TypeInfo) (z:Value) (k kn:IntKind) (ht:P.underlying t=some (.slice e)) (htn:P.underlying tn=some (.int kn)) (hi:P.info? e=some i) (hz:i.zero=some z)
  (b:Addr) (sLen sCap:Nat) (olds:List Value) (hlo:olds.length=sLen * i.size) (holds:∀ (j:Nat) v,olds[j]? = some v->w.cell? (b.add j)=some v)
  (n:Nat) (h0:0 < n) (hs:0 < i.size) (hg:sCap < sLen+n) (h63:((sLen+n:Nat):Int)<=9223372036854775807) (h48:n * i.bytes<=281474976710656) (hfit:Builtin.nextslicecap (sLen+n) sCap * i.bytes<=281474976710656) :
  (Builtin.append_ #[t,tn] ty #[.slice (some b) sLen sCap,.int k n]).run P w =
   .ok (.slice (some ⟨w.heap.size,0,none⟩) (sLen+n) (grownCap w (sLen+n) sCap e)) (w.drew.alloc (.cells (olds.toArray++Builtin.zeroCells z.cells n++Builtin.zeroCells z.cells (grownCap w (sLen+n) sCap e - (sLen+n))) e)):=by
 have hn:n≠0:=by omega
 have hn2:¬ (sLen+n<=sCap):=by omega
 have hw:IntKind.i64.wrap (n:Int)=n:=by rw[IntKind.wrap_i64];omega
 have h63':¬ (9223372036854775807 < ((sLen:Int)+(n:Int))):=by omega
 have h48':¬ (281474976710656 < Builtin.nextslicecap (sLen+n) sCap * i.bytes):=by omega
 have h48i:¬ (281474976710656 < (n:Int) * (i.bytes:Int)):=by
  rw[<- Int.natCast_mul];omega
 have hneg:¬ ((n:Int) < 0):=by omega
 have hns:¬ (n * i.size=0):=Nat.mul_ne_zero hn (by omega);have hfo:=run_firstCells_some (P:=P) w.drew i.size sLen b sLen sCap olds hlo (by simpa using holds);simp[Builtin.append_,run_underlying ht,run_underlying htn,sizeOf,typeInfo,zeroValue,hi,hz,asInt,asIntOf,hw,hn2,hneg,hns,h63',h48',h48i,Question.forced,hfo,newRow,grownCap]
theorem Zgz (hI:Inv Γ h μ w) (hE:EnvRel μ e a) (hd:dstOK o e) {c:Call} (ho:o.op=.call c) (hc:c.callee=.builtin .append) {t t':TypeId} (ht:c.argTypes.toList=[t,t'])
  {s x:C} (hx:c.args.toList.map e.ev=[.one s,.one x]) (hv:Z8d P t t' s x (dstN o) h (fun v h'=>K (e.put o.dst v) h')):Owes P Γ μ o a w K:=by
 obtain⟨y,y',hy,hys,hyx⟩:=Z9u hx;have hargs:c.args=#[y,y']:=by cases hq:c.args;simp_all
 have hat:c.argTypes=#[t,t']:=by cases hq:c.argTypes;simp_all
 have hsv:=ev_rep hE y;rw[hys] at hsv;have hsv':RepC μ s (a.eval y):=hsv;have hxv:=ev_rep hE y';rw[hyx] at hxv;obtain⟨⟨hne,kk,hkk⟩,hv⟩:=hv;split at hv
 .rename_i el n by_ hel;obtain⟨i,z,hu,hi,hsz,hby,hzz,hzs⟩:=Z5h hel;split at hv
  .rename_i ki m;obtain⟨⟨hzt,h0,hb4,hm0,hmL⟩,hK⟩:=hv;have hmL':m<=2097152:=hmL;have hs':a.eval y=.slice none 0 0:=hsv';have hx':a.eval y'=.int ki m:=RepD.int_inv (m:=μ.cell) hxv;have hmm:((m.toNat:Nat):Int)=m:=by omega
   have hlab:((h.ep,16 * dstN o):Lab).1=h.ep:=rfl;have hbytes:m.toNat * i.bytes<=281474976710656:=by
    rw[hby]
    have:m.toNat * by_<=2097152 * 4096:=Y1y (by omega) hb4
    omega
   have hrun:=Lib.run_append_nil_zeros (P:=P) w t t' o.type el i z ki kk hu hkk hi hzz m.toNat (by omega) (by omega) (by omega) hbytes;rw[hmm] at hrun;have hge:=grownCap_ge w m.toNat 0 el;have hzone:∀ v ∈ z.cells,v.oneCell'=true:=by
    obtain⟨zc,hzc⟩:=Option.isSome_iff_exists.1 hzt;obtain⟨i',z',h1,h2,h3⟩:=Za9 hzc μ;rw[hi] at h1
    injection h1 with h1
    subst h1;rw[hzz] at h2
    injection h2 with h2
    subst h2;exact fun v hv=>h3.all v (by simpa using hv)
   have hRR:RepCs μ (List.replicate (grownCap w m.toNat 0 el * n) .any) (Builtin.zeroCells z.cells m.toNat++Builtin.zeroCells z.cells (grownCap w m.toNat 0 el - m.toNat)):=by
    refine RepCs.any ?_ fun v hv=>?_
    .rw[Array.size_append,size_zeroCells,size_zeroCells,hzs,<- Y0x]
     congr 1
     omega
    .rcases Array.mem_append.1 hv with hv | hv
     .exact Z63 hzone (by omega) v hv
     .exact Z63 hzone (by omega) v hv
   refine Z0l (v:=.one (.mrow (h.ep,16 * dstN o) 0 m.toNat (grownCap w m.toNat 0 el))) (u:=.slice (some ⟨w.heap.size,0,none⟩) m.toNat (grownCap w m.toNat 0 el)) (w':=w.drew.alloc (.cells (Builtin.zeroCells z.cells m.toNat++Builtin.zeroCells z.cells (grownCap w m.toNat 0 el - m.toNat)) el)) ?_ hE (Mem.le_addLoc (hI.free hlab)) (hI.drew.addBox hlab hRR) hd ⟨w.heap.size,0,Mem.addLoc_same,rfl,hge⟩ (hK _ hge);simp[execOp,ho,resolve,hc,hat,hargs,invoke,builtin,hs',hx',hrun]
  .rename_i l off k cap ki m;split at hv
   .rename_i old hrc;obtain⟨⟨hzt,h0,hb4,hm0,hmL,hcapm,hol⟩,hK⟩:=hv;have hmL':k+m<=2097152:=hmL;have hx':a.eval y'=.int ki m:=RepD.int_inv (m:=μ.cell) hxv;have hmm:((m.toNat:Nat):Int)=m:=by omega
    have hlab:((h.ep,16 * dstN o):Lab).1=h.ep:=rfl;obtain⟨sa,scap,ov,hse,hsR,hsc⟩:=Z7y hI h0 hsv' hrc rfl hol;obtain⟨b,kk2,hloc,hve,hkc⟩:=hsv';rw[hve] at hse;simp only[Value.slice.injEq] at hse;obtain⟨rfl,_,rfl⟩:=hse;have hovl:ov.length=k * n:=by have:=hsR.1;simp at this;omega
    have hov:∀ (j:Nat) u,ov[j]? = some u->w.cell? ((⟨b,off,none⟩:Addr).add j)=some u:=fun j u hj=>by
     have hkpos:0 < k:=by
      rcases Y2l k with rfl | hk
      .have:=hsR.1
       rw[hol] at this;simp at this;subst this;simp at hj
      .exact hk
     obtain⟨b2,off2,h1,h2⟩:=hsc hkpos;simp only[Y06,Addr.mk.injEq] at h1;obtain⟨rfl,rfl,_⟩:=h1;rw[Z57];exact h2 j u hj
    have hbytes:m.toNat * i.bytes<=281474976710656:=by
     rw[hby]
     have:m.toNat * by_<=2097152 * 4096:=Y1y (by omega) hb4
     omega
    have hbytes2:(k+m.toNat) * i.bytes<=140737488355328:=by
     rw[hby]
     have:(k+m.toNat) * by_<=2097152 * 4096:=Y1y (by omega) hb4
     omega
    have hrun:=Z99 (P:=P) w t t' o.type el i z ki kk hu hkk hi hzz ⟨b,off,none⟩ k cap ov (by rw[hsz];exact hovl) hov m.toNat (by omega) (by omega) hcapm (by omega) hbytes (growslice_fits (by omega) hbytes2);rw[hmm] at hrun;have hge:=grownCap_ge w (k+m.toNat) cap el;have hzone:∀ v ∈ z.cells,v.oneCell'=true:=by
     obtain⟨zc,hzc⟩:=Option.isSome_iff_exists.1 hzt;obtain⟨i',z',h1,h2,h3⟩:=Za9 hzc μ;rw[hi] at h1
     injection h1 with h1
     subst h1;rw[hzz] at h2
     injection h2 with h2
     subst h2;exact fun v hv=>h3.all v (by simpa using hv)
    have hRR:RepCs μ (old++List.replicate ((grownCap w (k+m.toNat) cap el - k) * n) .any) (ov.toArray++(Builtin.zeroCells z.cells m.toNat++Builtin.zeroCells z.cells (grownCap w (k+m.toNat) cap el - (k+m.toNat)))):=by
     refine hsR.append (RepCs.any ?_ fun v hv=>?_)
     .rw[Array.size_append,size_zeroCells,size_zeroCells,hzs,<- Y0x]
      congr 1
      omega
     .rcases Array.mem_append.1 hv with hv | hv
      .exact Z63 hzone (by omega) v hv
      .exact Z63 hzone (by omega) v hv
    rw[<- Array.append_assoc] at hRR;refine Z0l (v:=.one (.mrow (h.ep,16 * dstN o) 0 (k+m.toNat) (grownCap w (k+m.toNat) cap el))) (u:=.slice (some ⟨w.heap.size,0,none⟩) (k+m.toNat) (grownCap w (k+m.toNat) cap el)) (w':=w.drew.alloc (.cells (ov.toArray++Builtin.zeroCells z.cells m.toNat++Builtin.zeroCells z.cells (grownCap w (k+m.toNat) cap el - (k+m.toNat))) el)) ?_ hE (Mem.le_addLoc (hI.free hlab)) (hI.drew.addBox hlab hRR) hd ⟨w.heap.size,0,Mem.addLoc_same,rfl,hge⟩ (hK _ hge);simp[execOp,ho,resolve,hc,hat,hargs,invoke,builtin,hve,hx',hrun]
   .exact hv.elim
  .exact hv.elim
 .exact hv.elim
theorem Zn4 (hI:Inv Γ h μ w) (hE:EnvRel μ e a) (hd:dstOK o e) {t:TypeId} {x y:Operand} (ho:o.op=.makeSlice t x y) (hv:vcMake P t (e.ev x) (e.ev y) (dstN o) h (fun v h'=>K (e.put o.dst v) h')):Owes P Γ μ o a w K:=by
 have hx:=ev_rep hE x;have hy:=ev_rep hE y;unfold vcMake at hv;split at hv
 .rename_i el n by_ hel;obtain⟨i,z,hu,hi,hsz,hby,hzz,hzs⟩:=Z5h hel;split at hv
  .rename_i zc ka va kb vb hzc hax hby';obtain⟨⟨h0,hab,hbL,hb4,hn0,hn8⟩,hK⟩:=hv;have hbL':vb<=2097152:=hbL;rw[hax] at hx;rw[hby'] at hy;have hx':a.eval x=.int ka va:=RepD.int_inv (m:=μ.cell) hx;have hy':a.eval y=.int kb vb:=RepD.int_inv (m:=μ.cell) hy;obtain⟨i',z',h1,h2,h3⟩:=Za9 hzc μ;rw[hi] at h1
   injection h1 with h1
   subst h1;rw[hzz] at h2
   injection h2 with h2
   subst h2;have hzl:zc.length=n:=by rw[<- h3.1,hzs]
   have hbn:vb.toNat<=2097152:=by omega
   have hcells:vb.toNat * i.size<=16777216:=by
    rw[hsz]
    calc vb.toNat * n<=2097152 * 8:=Y1y hbn hn8
     _<=16777216:=by decide
   have hbytes:(i.bytes:Int) * vb<=281474976710656:=by
    rw[hby]
    have:by_ * vb.toNat<=4096 * 2097152:=Y1y hb4 hbn
    have h4:((by_ * vb.toNat:Nat):Int)=(by_:Int) * vb:=by
     rw[Int.natCast_mul]
     congr 1
     omega
    omega
   have hrun:=run_makeSlice (P:=P) w t el i z hu hi hzz ka kb va vb h0 hab hcells hbytes (by omega);have hlab:((h.ep,16 * dstN o):Lab).1=h.ep:=rfl;have hR:RepCs μ (List.replicate vb.toNat zc).flatten (madeCells z.cells (vb.toNat * i.size)):=by
    refine Zgs h3 hzl hn0 vb.toNat (by rw[size_madeCells,hsz]) (fun j hj=>?_);unfold madeCells;rw[Array.getElem?_map,Array.getElem?_range,if_pos (by rw[hsz];exact hj)];have hlt:j % z.cells.size < z.cells.size:=Nat.mod_lt _ (by omega);simp only[Y0h];rw[getElem!_pos z.cells _ hlt,<- hzs,Y1h hlt]
   refine Z0l (v:=.one (.mrow (h.ep,16 * dstN o) 0 va.toNat vb.toNat)) (u:=.slice (some ⟨w.heap.size,0,none⟩) va.toNat vb.toNat) (w':=w.alloc (.cells (madeCells z.cells (vb.toNat * i.size)) el)) ?_ hE (Mem.le_addLoc (hI.free hlab)) (hI.addBox hlab hR) hd ⟨w.heap.size,0,Mem.addLoc_same,rfl,by omega⟩ hK;simp[execOp,ho,hx',hy',hrun]
  .exact hv.elim
 .exact hv.elim
theorem Zgy (hI:Inv Γ h μ w) (hE:EnvRel μ e a) (hd:dstOK o e) {c:Call} (ho:o.op=.call c) (hc:c.callee=.builtin .copy) {t:TypeId} (ht:c.argTypes.toList=[t,t])
  {s x:C} (hx:c.args.toList.map e.ev=[.one s,.one x]) (hv:vcCopy P t s x (dstN o) h (fun v h'=>K (e.put o.dst v) h')):Owes P Γ μ o a w K:=by
 obtain⟨y,y',hy,hys,hyx⟩:=Z9u hx;have hargs:c.args=#[y,y']:=by cases hq:c.args;simp_all
 have hat:c.argTypes=#[t,t]:=by cases hq:c.argTypes;simp_all
 have hsv:=ev_rep hE y;rw[hys] at hsv;have hsv':RepC μ s (a.eval y):=hsv;have hxv:=ev_rep hE y';rw[hyx] at hxv;have hxv':RepC μ x (a.eval y'):=hxv;unfold vcCopy at hv;split at hv
 .rename_i el n by_ hel;obtain⟨i,z,hu,hi,hsz,hby,hzz,hzs⟩:=Z5h hel;split at hv
  .rename_i l off k cap new m hrc hcl;split at hv
   .rename_i cs hb;obtain⟨⟨h0,hnl,hfit⟩,hK⟩:=hv;obtain⟨xa,xcap,xv,hxeq,hxR,hxcell⟩:=Z7y hI h0 hxv' hrc hcl hnl;have hxl:xv.length=m * n:=by have:=hxR.1;simp at this;omega
    obtain⟨b,kk,T,conc,hloc,hve,_,hh,hR⟩:=Zft hI hsv' hb;have hcs:=hR.1;have hle1:min m k * n<=m * n:=Y1j _ (Nat.min_le_left _ _);have hle2:min m k * n<=k * n:=Y1j _ (Nat.min_le_right _ _);have htl:(xv.take (min m k * n)).length=min m k * n:=by rw[Y12,hxl];omega
    have hone:∀ u ∈ xv.take (min m k * n),u.oneCell'=true:=fun u hu=>hxR.all u (by simpa using Y2t hu);have hst:=run_storeCells_at P b off T (xv.take (min m k * n)) 0 conc w hh (by rw[htl,hcs];omega) hone;simp only[Y1q] at hst;have hfc:(Builtin.firstCells n (min m k) (.slice xa m xcap)).run P w=.ok (xv.take (min m k * n)).toArray w:=by
     rcases Y2l m with rfl | hm
     .have:xv=[]:=Y0o (by simpa using hxl)
      subst this;cases xa<;>simp[Builtin.firstCells,loadCells,loadCellsFrom]
     .obtain⟨xb,xo,rfl,hxc⟩:=hxcell hm
      have:=run_firstCells_some (P:=P) w n (min m k) ⟨xb,xo,none⟩ m xcap (xv.take (min m k * n)) htl (fun j u hj=>by
       rw[Y15] at hj;split at hj
       .rw[Z57];exact hxc j u hj
       .cases hj)
      exact this
    have hRt:RepCs μ (new.take (min m k * n)) (xv.take (min m k * n)).toArray:=by
     refine⟨by simp[hnl,hxl],fun j c hj=>?_⟩;rw[Y15] at hj;split at hj
     .rename_i hlt;obtain⟨u,hu,hr⟩:=hxR.2 j c hj;refine⟨u,?_,hr⟩;rw[Y2n,Y15,if_pos hlt];simpa using hu
     .cases hj
    have hsc:=Z6m (off:=off) hR hRt (by rw[Y12,hnl];omega);refine Z0l (v:=dint .i64 ((min m k:Nat):Int)) (u:=.int .i64 (min m k:Nat)) (w':=w.setRow b (conc.toList.take off++(xv.take (min m k * n))++conc.toList.drop (off+(xv.take (min m k * n)).length)).toArray) ?_ hE (Mem.Le.refl μ) (hI.setBox hb hloc hh (by simpa using hsc)) hd (RepD.int _ _) hK;have hmin:Nat.min m k=min m k:=rfl;simp[execOp,ho,resolve,hc,hargs,hat,invoke,builtin,Builtin.copy_,run_underlying hu,hve,hxeq,Builtin.lenOf,sizeOf,typeInfo,hi,hsz,hmin,hfc,hst,goInt]
   .exact hv.elim
  .exact hv.elim
 .exact hv.elim
theorem Zl2 (hI:Inv Γ h μ w) (hE:EnvRel μ e a) (hd:dstOK o e) {c:Call} (ho:o.op=.call c) (hc:c.callee=.builtin .clear) {t:TypeId} (ht:c.argTypes.toList=[t])
  {s:C} (hx:c.args.toList.map e.ev=[.one s]) (hv:Z95 P t s (dstN o) h (fun v h'=>K (e.put o.dst v) h')):Owes P Γ μ o a w K:=by
 obtain⟨y,hy,hys⟩:=Zfr hx;have hargs:c.args=#[y]:=by cases hq:c.args;simp_all
 have hat:c.argTypes=#[t]:=by cases hq:c.argTypes;simp_all
 have hsv:=ev_rep hE y;rw[hys] at hsv;have hsv':RepC μ s (a.eval y):=hsv;unfold Z95 at hv;split at hv
 .rename_i el n by_ hel;obtain⟨i,z,hu,hi,hsz,hby,hzz,hzs⟩:=Z5h hel;split at hv
  .rename_i l off k cap zc hzc;split at hv
   .rename_i cs hb;obtain⟨⟨h0,hfit⟩,hK⟩:=hv;obtain⟨b,kk,T,conc,hloc,hve,_,hh,hR⟩:=Zft hI hsv' hb;have hcs:=hR.1;obtain⟨i',z',h1,h2,h3⟩:=Za9 hzc μ;rw[hi] at h1
    injection h1 with h1
    subst h1;rw[hzz] at h2
    injection h2 with h2
    subst h2;have hzl:zc.length=n:=by rw[<- h3.1,hzs]
    have hzR:RepCs μ (List.replicate k zc).flatten (Builtin.zeroCells z.cells k):=by
     refine Zgs h3 hzl h0 k (by rw[size_zeroCells,hzs]) (fun j hj=>?_);unfold Builtin.zeroCells;rw[Array.getElem?_map,Array.getElem?_range,if_pos (by rw[hzs];exact hj)];have hlt:j % z.cells.size < z.cells.size:=Nat.mod_lt _ (by omega);simp only[Y0h];rw[getElem!_pos z.cells _ hlt,<- hzs,Y1h hlt]
    have hzcl:((List.replicate k zc).flatten).length=k * n:=by rw[<- hzR.1,size_zeroCells,hzs]
    have hst:=run_storeCells_at P b off T (Builtin.zeroCells z.cells k).toList 0 conc w hh (by rw[Y0i,size_zeroCells,hzs,hcs];omega) hzR.all;simp only[Y1q] at hst;have hsc:=Z6m (off:=off) hR hzR (by rw[hzcl];omega);rcases Y2l k with rfl | hk
    .have e0:Z01 cs off (List.replicate 0 zc).flatten=cs:=by simp[Z01]
     rw[e0] at hK;have e1:h.setBox l cs=h:=by
      cases h;simp only[HS.setBox,HS.mk.injEq,and_true]
      funext q
      split
      .rename_i hq;subst hq;exact hb.symm
      .rfl
     rw[e1] at hK;refine Z0l (v:=.top) (u:=.tuple #[]) (w':=w) ?_ hE (Mem.Le.refl μ) hI hd trivial hK;simp[execOp,ho,resolve,hc,hargs,hat,invoke,builtin,Builtin.clear_,run_underlying hu,hve]
    .obtain⟨k,rfl⟩:∃ k',k=k'+1:=⟨k - 1,by omega⟩;refine Z0l (v:=.top) (u:=.tuple #[]) (w':=w.setRow b (conc.toList.take off++(Builtin.zeroCells z.cells (k+1)).toList++conc.toList.drop (off+(Builtin.zeroCells z.cells (k+1)).toList.length)).toArray) ?_ hE (Mem.Le.refl μ) (hI.setBox hb hloc hh (by simpa using hsc)) hd trivial hK;simp[execOp,ho,resolve,hc,hargs,hat,invoke,builtin,Builtin.clear_,run_underlying hu,hve,zeroValue,typeInfo,hi,hzz] at hst |-;rw[hst];rfl
   .exact hv.elim
  .obtain⟨ad,hve⟩:=hsv';refine Z0l (v:=.top) (u:=.tuple #[]) (w':=w) ?_ hE (Mem.Le.refl μ) hI hd trivial hv;cases ad<;>simp[execOp,ho,resolve,hc,hargs,hat,invoke,builtin,Builtin.clear_,run_underlying hu,hve]
  .have hve:a.eval y=.slice none 0 0:=hsv';refine Z0l (v:=.top) (u:=.tuple #[]) (w':=w) ?_ hE (Mem.Le.refl μ) hI hd trivial hv;simp[execOp,ho,resolve,hc,hargs,hat,invoke,builtin,Builtin.clear_,run_underlying hu,hve]
  .exact hv.elim
 .exact hv.elim
end
end Go.Am
end
section
namespace Go.Am
open Go
open Go.RowKit (Below)
section
variable {P:Program} {o:Oper} {a:Act} {w w':World} {e:Env} {h:HS} {μ μ':Mem} {Γ:Ctx} {K:Env->HS->Prop}
theorem Zhi (d:Nat):∀ (fr:List (Nat × Nat × Nat)) (h:HS),(h.addFr d fr).box=h.box/\(h.addFr d fr).ep=h.ep
 | [],h=>⟨rfl,rfl⟩
 | (j,es,n)::r,h=>by
   simp only[HS.addFr];obtain⟨h1,h2⟩:=Zhi d r (h.setArr (h.ep,16 * d+j+1) (some (n,es)));exact⟨by rw[h1];rfl,by rw[h2];rfl⟩
theorem Zhj (d:Nat):∀ (fr:List (Nat × Nat × Nat)) (h:HS) (l:Lab) (x:Nat × Nat),(h.addFr d fr).arr l=some x->h.arr l=some x\/∃ j,l=(h.ep,16 * d+j+1)/\(j,x.2,x.1) ∈ fr
 | [],h,l,x,hx=>.inl hx
 | (j,es,n)::r,h,l,x,hx=>by
   simp only[HS.addFr] at hx;rcases Zhj d r _ l x hx with hx | ⟨j',hl,hm⟩
   .by_cases e:l=(h.ep,16 * d+j+1)
    .subst e;simp[HS.setArr] at hx;subst hx;exact .inr ⟨j,rfl,by simp⟩
    .exact .inl (by simpa[HS.setArr,e] using hx)
   .exact .inr ⟨j',hl,by simp[hm]⟩
def relab (μ:Mem) (ep d:Nat) (m:CM) (blk:Nat->Option Nat × Nat):Mem:=
 { cell:=m,tmp:=μ.tmp,loc:=fun l=>if l.1=ep then some (blk (l.2 - (16 * d+1))) else μ.loc l }
theorem RC_rep {m:CM} {blk:Nat->Option Nat × Nat} {c:RC} {v:Value} (hc:RepRC m blk c v) (ep d:Nat):RepC (relab μ ep d m blk) (c.toC ep d) v:=by
 cases c with
 | d x=>exact hc
 | fresh j es xs=>
   obtain⟨h1,h2⟩:=hc;refine⟨h1,(blk j).1,(blk j).2,?_,h2⟩;simp only[relab,if_true];rw[show 16 * d+j+1 - (16 * d+1)=j by omega]
theorem Zio {m:CM} {blk:Nat->Option Nat × Nat} {c:RV} {v:Value} (hc:RepRV1 m blk c v) (ep d:Nat):RepV1 (relab μ ep d m blk) (RV1.toV ep d c) v:=by
 cases c with
 | one c=>exact RC_rep hc ep d
 | agg cs=>
   obtain⟨vs,h1,h2,h3⟩:=hc;refine⟨vs,h1,by simp[h2],fun i c hi=>?_⟩;rw[Y0b] at hi;cases hx:cs[i]? with
   | none=>simp[hx] at hi
   | some x=>
     simp[hx] at hi;subst hi;obtain⟨u,hu,hr⟩:=h3 i x hx;exact⟨u,hu,RC_rep hr ep d⟩
 | tup vs=>exact hc.elim
theorem RV_rep {m:CM} {blk:Nat->Option Nat × Nat} {c:RV} {v:Value} (hc:RepRV m blk c v) (ep d:Nat):RepV (relab μ ep d m blk) (c.toV ep d) v:=by
 cases c with
 | tup xs=>
   obtain⟨vs,h1,h2,h3⟩:=hc;refine⟨vs,h1,by simp[h2],fun i x hi=>?_⟩;rw[Y0b] at hi;cases hx:xs[i]? with
   | none=>simp[hx] at hi
   | some y=>
     simp[hx] at hi;subst hi;obtain⟨u,hu,hr⟩:=h3 i y hx;exact⟨u,hu,Zio hr ep d⟩
 | one c=>exact Zio (c:=.one c) hc ep d
 | agg cs=>exact Zio (c:=.agg cs) hc ep d
theorem Inv.call (hI:Inv Γ h μ w) {m':CM} {blk:Nat->Option Nat × Nat} {fr:List (Nat × Nat × Nat)} (d:Nat) (hsub:Sub μ.cell m') (hold:∀ b o u,b < w.heap.size->m' b o=some u->μ.cell b o=some u)
  (hcell:Cells m' w') (hb:Below w.heap.size w w') (hf:Zc7 m' w w' blk fr):Inv Γ ((h.addFr d fr).next) (relab μ h.ep d m' blk) w':=by
 have hle:Mem.Le μ (relab μ h.ep d m' blk):=⟨hsub,rfl,fun l x hl=>by
  have:=hI.lt l (by rw[hl];simp)
  simp only[relab];rw[if_neg (by omega)];exact hl⟩
 have hne:∀ k,h.live k->k.1≠h.ep:=fun k hk e=>by have:=hI.live_loc hk;omega
 have hloc:∀ k,k.1≠h.ep->(relab μ h.ep d m' blk).loc k=μ.loc k:=fun k hk=>by simp only[relab];rw[if_neg hk]
 have hnone:∀ b o,b < w.heap.size->μ.cell b o=none->m' b o=none:=fun b o hlt hn=>by
  cases hx:m' b o with
  | none=>rfl
  | some u=>rw[hold b o u hlt hx] at hn;cases hn
 obtain⟨hbox,hep⟩:=Zhi d fr h;have hbs:=hI.below.size;have harr:∀ k x,(h.addFr d fr).arr k=some x->(h.arr k=some x/\k.1≠h.ep)\/∃ j,k=(h.ep,16 * d+j+1)/\(j,x.2,x.1) ∈ fr:=fun k x hk=>by
  rcases Zhj d fr h k x hk with hk | hk
  .exact .inl ⟨hk,hne k (.inr (by rw[hk];simp))⟩
  .exact .inr hk
 have hjl:∀ j,(relab μ h.ep d m' blk).loc (h.ep,16 * d+j+1)=some (blk j):=fun j=>by
  simp only[relab,if_true];rw[show 16 * d+j+1 - (16 * d+1)=j by omega]
 have hlive:∀ k,((h.addFr d fr).next).live k->(h.live k/\k.1≠h.ep)\/∃ j es n,k=(h.ep,16 * d+j+1)/\(j,es,n) ∈ fr:=fun k hk=>by
  rcases hk with hk | hk
  .have hk':h.box k≠none:=by rw[<- hbox];exact hk
   exact .inl ⟨.inl hk',hne k (.inl hk')⟩
  .cases hx:(h.addFr d fr).arr k with
   | none=>exact absurd hx hk
   | some x=>
     rcases harr k x hx with ⟨h1,h2⟩ | ⟨j,h1,h2⟩
     .exact .inl ⟨.inr (by rw[h1];simp),h2⟩
     .exact .inr ⟨j,x.2,x.1,h1,h2⟩
 refine⟨hcell,hI.tmp,hI.tcell.of_heap (fun b o v hm=>hb.block b (hI.tcell.lt hm)),hI.told,fun b o v hv=>hsub _ _ _ (hI.ext _ _ _ hv),fun b o v hlt hv=>hI.old b o v hlt (hold b o v (by omega) hv),hI.below.trans (hb.mono hbs),?_,?_,?_,?_,?_⟩
 .intro k cs hk;have hk':h.box k=some cs:=by rw[<- hbox];exact hk
  obtain⟨b,n,T,conc,h1,h2,h3,h4,h5⟩:=hI.box k cs hk';have hlt:=Z3z h3;exact⟨b,n,T,conc,hle.loc _ _ h1,h2,by rw[hb.block b hlt];exact h3,h4.mono hle,fun oo=>hnone b oo hlt (h5 oo)⟩
 .intro k es n hk;rcases harr k (n,es) hk with ⟨h1,h2⟩ | ⟨j,rfl,h2⟩
  .obtain⟨gc,h3,h4⟩:=hI.arr k es n h1;refine⟨gc,hle.loc _ _ h3,h4.keep (fun g hg=>?_) (fun g oo hg hn=>?_)⟩
   .obtain⟨_,T,cur,hh,_⟩:=h4.2 g hg;exact hb.block g (Z3z hh)
   .obtain⟨_,T,cur,hh,_⟩:=h4.2 g hg;exact hnone g oo (Z3z hh) hn
  .have hr:=hf.1 _ h2;exact⟨blk j,hjl j,⟨hr.1,fun g hg=>by
    obtain⟨h3,h4⟩:=hr.2 g hg;exact⟨by omega,h4⟩⟩⟩
 .intro k k' b n n' hk hk' h1 h2;rcases hlive k hk with ⟨l1,e1⟩ | ⟨j,es,m,rfl,hj⟩<;>rcases hlive k' hk' with ⟨l2,e2⟩ | ⟨j',es',m2,rfl,hj'⟩
  .rw[hloc k e1] at h1;rw[hloc k' e2] at h2;exact hI.inj k k' b n n' l1 l2 h1 h2
  .rw[hloc k e1] at h1;rw[hjl] at h2
   injection h2 with h2
   have:=hI.live_lt l1 h1
   have hr:=(hf.1 _ hj').2 b (by rw[h2]);omega
  .rw[hloc k' e2] at h2;rw[hjl] at h1
   injection h1 with h1
   have:=hI.live_lt l2 h2
   have hr:=(hf.1 _ hj).2 b (by rw[h1]);omega
  .rw[hjl] at h1 h2
   injection h1 with h1
   injection h2 with h2
   have:=hf.2 _ hj _ hj' b (by rw[h1]) (by rw[h2])
   simp only at this;rw[this]
 .intro k hk;show k.1 < (h.addFr d fr).ep+1;rw[hep]
  by_cases ek:k.1=h.ep
  .omega
  .rw[hloc k ek] at hk
   have:=hI.lt k hk
   omega
 .intro k h1 h2;have h1':h.box k≠none:=by rw[<- hbox];exact h1
  cases hx:(h.addFr d fr).arr k with
  | none=>exact h2 hx
  | some x=>
    rcases harr k x hx with ⟨h3,_⟩ | ⟨j,rfl,_⟩
    .exact hI.both k h1' (by rw[h3];simp)
    .exact hne _ (.inl h1') rfl
theorem Zl4 (hI:Inv Γ h μ w) (hE:EnvRel μ e a) (hd:dstOK o e) {c:Call} (ho:o.op=.call c) {f:Operand} (hc:c.callee=.value f) {g:FuncId} {caps:List Cap} (hf:e.ev f=.one (.fn g caps))
  {ars:List AV} {cs:List (List D)} (has:toAs h (c.args.toList.map e.ev)=some ars) (hcs:capsA h caps=some cs) (hv:vcCall P g (ars++capsOf cs) o e h K):Owes P Γ μ o a w K:=by
 obtain⟨r,⟨⟨fn,hfn,hnm,hbody⟩,hspec⟩,hK⟩:=hv;have hfv:=ev_rep hE f;rw[hf] at hfv;obtain⟨vs,hfv',hvsz,hcapR⟩:=(show ∃ vs:Array Value,a.eval f=.func (.func g) #[] vs/\vs.size=caps.length/\∀ (i:Nat) c,caps[i]? = some c->∃ u,vs[i]? = some u/\RepCap μ c u from hfv);obtain⟨hal,haR⟩:=Ziz has;obtain⟨hcl,hcR⟩:=Zdx hI hcs;have hal':ars.length=c.args.size:=by rw[hal];simp
 have hargs:Zc6 μ.cell (snap w) (ars++capsOf cs) (c.args.map a.eval++vs):=by
  refine⟨by simp[capsOf,hal',hvsz,hcl],fun i x hi=>?_⟩;rw[Y1i] at hi;split at hi
  .rename_i hlt;obtain⟨v,hv1,hv2⟩:=haR i x hi;rw[Y0b] at hv1;cases hy:c.args.toList[i]? with
   | none=>simp[hy] at hv1
   | some y=>
     rw[hy] at hv1;simp only[Y0h,Y06] at hv1;subst hv1;refine⟨a.eval y,?_,Zjm hI (ev_rep hE y) hv2⟩;rw[Y1w (by simp;omega)];have hy':c.args[i]? = some y:=by simpa using hy
     simp[hy']
  .rename_i hlt;simp only[capsOf,Y0b] at hi;cases hy:cs[i - ars.length]? with
   | none=>rw[hy] at hi;simp at hi
   | some y=>
     rw[hy] at hi;simp only[Y0h,Y06] at hi;subst hi;obtain⟨c',h1,h2⟩:=hcR _ _ hy;obtain⟨u,hu,hr⟩:=hcapR _ _ h1;refine⟨u,?_,Zjj hI hr h2⟩;rw[Y1s (by simp;omega)];simp only[Array.size_map];rw[<- hal'];exact hu
 have hcalls:=hspec w μ.cell (snap w) _ hI.glob hI.cell (Z9v w) hargs;intro next Q hn;unfold Oper.wp;have hrun:(execOp a.eval o).run P w=.ok (.enter g (c.args.map a.eval++vs)) w:=by
  have hnm':¬ fn.name = "runtime.NumGoroutine" := by simpa using hnm
  have hbody':¬ fn.body=none:=by intro hq;rw[hq] at hbody;simp at hbody
  simp[execOp,ho,resolve,hc,hfv',Deferred.ofValue,invoke,callFunc,hfn,hnm',hbody']
 rw[hrun];refine hcalls.mono ?_;rintro en w1 ⟨v,m',blk,rfl,hsub,hold,hcell,hb,hr,hfr⟩;have hle:Mem.Le μ (relab μ h.ep (dstN o) m' blk):=⟨hsub,rfl,fun l x hl=>by
  have:=hI.lt l (by rw[hl];simp)
  simp only[relab];rw[if_neg (by omega)];exact hl⟩
 refine hn _ _ (relab μ h.ep (dstN o) m' blk) _ _ hK (hI.call (dstN o) hsub hold hcell hb hfr) ((hE.mono hle).put (fun d hd'=>?_) (RV_rep hr h.ep (dstN o))) hle
 .unfold dstOK at hd;rw[hd'] at hd;exact hd
theorem Zl5 (hI:Inv Γ h μ w) (hE:EnvRel μ e a) (hd:dstOK o e) {c:Call} (ho:o.op=.call c) {f:Operand} (hc:c.callee=.value f) {g:FuncId} {caps:List Cap} (hf:e.ev f=.one (.fn g caps))
  (hv:HSpec P g (c.args.toList.map e.ev++caps.map capV) h (fun v h'=>K (e.put o.dst v) h')):Owes P Γ μ o a w K:=by
 obtain⟨⟨fn,hfn,hnm,hbody⟩,hspec⟩:=hv;have hfv:=ev_rep hE f;rw[hf] at hfv;obtain⟨vs,hfv',hvsz,hcapR⟩:=(show ∃ vs:Array Value,a.eval f=.func (.func g) #[] vs/\vs.size=caps.length/\∀ (i:Nat) c,caps[i]? = some c->∃ u,vs[i]? = some u/\RepCap μ c u from hfv);have hargs:Zge μ (c.args.toList.map e.ev++caps.map capV) (c.args.map a.eval++vs):=by
  refine⟨by simp[hvsz],fun i x hi=>?_⟩;rw[Y1i] at hi;split at hi
  .rename_i hlt;rw[Y0b] at hi;cases hy:c.args.toList[i]? with
   | none=>simp[hy] at hi
   | some y=>
     rw[hy] at hi;simp only[Y0h,Y06] at hi;subst hi;refine⟨a.eval y,?_,ev_rep hE y⟩;simp at hlt;rw[Y1w (by simp;omega)];have hy':c.args[i]? = some y:=by simpa using hy
     simp[hy']
  .rename_i hlt;simp only[Y0b,Y0z,Y0i] at hi hlt;cases hy:caps[i - c.args.size]? with
   | none=>rw[hy] at hi;simp at hi
   | some y=>
     rw[hy] at hi;simp only[Y0h,Y06] at hi;subst hi;obtain⟨u,hu,hr⟩:=hcapR _ _ hy;refine⟨u,?_,?_⟩
     .rw[Y1s (by simp;omega)];simpa using hu
     .cases y with
      | lab l=>exact hr
      | rp cs=>exact hr
 have hcalls:=hspec Γ μ w _ hI hargs;intro next Q hn;unfold Oper.wp;have hrun:(execOp a.eval o).run P w=.ok (.enter g (c.args.map a.eval++vs)) w:=by
  have hnm':¬ fn.name = "runtime.NumGoroutine" := by simpa using hnm
  have hbody':¬ fn.body=none:=by intro hq;rw[hq] at hbody;simp at hbody
  simp[execOp,ho,resolve,hc,hfv',Deferred.ofValue,invoke,callFunc,hfn,hnm',hbody']
 rw[hrun];refine hcalls.mono ?_;rintro en w1 ⟨u,v,h',μ',rfl,hk,hI',hr,hle⟩;refine hn _ _ μ' _ _ hk hI' ((hE.mono hle).put (fun d hd'=>?_) hr) hle;unfold dstOK at hd;rw[hd'] at hd;exact hd
theorem Zl3 (hI:Inv Γ h μ w) (hE:EnvRel μ e a) (hd:dstOK o e) {c:Call} (ho:o.op=.call c) {f:Operand} (hc:c.callee=.value f) {g:FuncId} {caps:List Cap} (hf:e.ev f=.one (.fn g caps)) {v:V}
  (hx:XSpec P g (c.args.toList.map e.ev++caps.map capV) h v) (hk:K (e.put o.dst v) h):Owes P Γ μ o a w K:=by
 have hfv:=ev_rep hE f;rw[hf] at hfv;obtain⟨vs,hfv',hvsz,hcapR⟩:=(show ∃ vs:Array Value,a.eval f=.func (.func g) #[] vs/\vs.size=caps.length/\∀ (i:Nat) c,caps[i]? = some c->∃ u,vs[i]? = some u/\RepCap μ c u from hfv);have hargs:Zge μ (c.args.toList.map e.ev++caps.map capV) (c.args.map a.eval++vs):=by
  refine⟨by simp[hvsz],fun i x hi=>?_⟩;rw[Y1i] at hi;split at hi
  .rename_i hlt;rw[Y0b] at hi;cases hy:c.args.toList[i]? with
   | none=>simp[hy] at hi
   | some y=>
     rw[hy] at hi;simp only[Y0h,Y06] at hi;subst hi;refine⟨a.eval y,?_,ev_rep hE y⟩;simp at hlt;rw[Y1w (by simp;omega)];have hy':c.args[i]? = some y:=by simpa using hy
     simp[hy']
  .rename_i hlt;simp only[Y0b,Y0z,Y0i] at hi hlt;cases hy:caps[i - c.args.size]? with
   | none=>rw[hy] at hi;simp at hi
   | some y=>
     rw[hy] at hi;simp only[Y0h,Y06] at hi;subst hi;obtain⟨u,hu,hr⟩:=hcapR _ _ hy;refine⟨u,?_,?_⟩
     .rw[Y1s (by simp;omega)];simpa using hu
     .cases y with
      | lab l=>exact hr
      | rp cs=>exact hr
 obtain⟨u,hrun,hr⟩:=hx Γ μ w _ hI hargs;refine Z0l (v:=v) (u:=u) (w':=w) ?_ hE (Mem.Le.refl μ) hI hd hr hk;simp[execOp,ho,resolve,hc,hfv',Deferred.ofValue,invoke,hrun]
theorem Zp7 {t:TypeId} (h:slT P t=true):∃ el,P.underlying t=some (.slice el):=by
 unfold slT at h;split at h
 .exact⟨_,by assumption⟩
 .cases h
theorem Zhg {t t' el el' ty:TypeId} {u v:Value} (h1:P.underlying t=some (.slice el)) (h2:P.underlying t'=some (.slice el')):(Builtin.append_ #[t,t'] ty #[u,v]).run P w=(Builtin.append_ #[t,t] ty #[u,v]).run P w:=by
 cases u<;>simp[Builtin.append_,run_underlying h1,run_underlying h2]
theorem Zbo {c c':Call} (ho:o.op=.call c) (hx:(execOp a.eval o).run P w=(execOp a.eval { o with op:=.call c' }).run P w) (hq:Owes P Γ μ { o with op:=.call c' } a w K):Owes P Γ μ o a w K:=by
 intro next Q hn
 have:=hq next Q hn
 unfold Oper.wp at this |-;rw[hx];exact this
theorem Zcc {c:Call} (ho:o.op=.call c) (hc:c.callee=.builtin .append) {t t':TypeId} (ht:c.argTypes.toList=[t,t']) (he:(elT P t).isSome=true) (hs:slT P t'=true) {s x:C} (hx:c.args.toList.map e.ev=[.one s,.one x]) :
  (execOp a.eval o).run P w=(execOp a.eval { o with op:=.call { c with argTypes:=#[t,t] } }).run P w:=by
 obtain⟨y,y',hy,-,-⟩:=Z9u hx;have hargs:c.args=#[y,y']:=by cases hq:c.args;simp_all
 have hat:c.argTypes=#[t,t']:=by cases hq:c.argTypes;simp_all
 obtain⟨⟨el,n,b⟩,hel⟩:=Option.isSome_iff_exists.1 he;obtain⟨i,z,hu,_⟩:=Z5h hel;obtain⟨el',hu'⟩:=Zp7 hs;simp[execOp,ho,resolve,hc,hat,hargs,invoke,builtin,Zhg hu hu']
theorem Zlj {c:Call} (ho:o.op=.call c) (hc:c.callee=.builtin .copy) {t t':TypeId} (ht:c.argTypes.toList=[t,t']) {s x:C} (hx:c.args.toList.map e.ev=[.one s,.one x]) :
  (execOp a.eval o).run P w=(execOp a.eval { o with op:=.call { c with argTypes:=#[t,t] } }).run P w:=by
 obtain⟨y,y',hy,-,-⟩:=Z9u hx;have hargs:c.args=#[y,y']:=by cases hq:c.args;simp_all
 have hat:c.argTypes=#[t,t']:=by cases hq:c.argTypes;simp_all
 have e1:∀ u v,Builtin.copy_ #[t,t'] o.type #[u,v]=Builtin.copy_ #[t,t] o.type #[u,v]:=fun _ _=>rfl;simp[execOp,ho,resolve,hc,hat,hargs,invoke,builtin,e1]
theorem Zn3 (hI:Inv Γ h μ w) (hE:EnvRel μ e a) (hd:dstOK o e) (hv:vcOp P o e h K):Owes P Γ μ o a w K:=by
 cases ho:o.op with
 | store t x y=>exact Zl1 hI hE hd ho hv
 | box t x=>exact Zph hI hE hd ho hv
 | alloc t=>exact Zl8 hI hE hd ho hv
 | build t ps=>exact Zl6 hI hE hd ho hv
 | buildSlice t len ps=>exact Zda hI hE hd ho hv
 | binOp op t x y t'=>exact Zl7 hI hE hd ho hv
 | makeSlice t x y=>simp only[vcOp,ho] at hv;exact Zn4 hI hE hd ho hv
 | call c=>
   simp only[vcOp,ho] at hv;split at hv
   .rename_i f hc;split at hv
    .rename_i g caps hf;rcases hv with ⟨ars,cs,has,hcs,hv⟩ | hv | ⟨v,hx,hk⟩
     .exact Zl4 hI hE hd ho hc hf has hcs hv
     .exact Zl5 hI hE hd ho hc hf hv
     .exact Zl3 hI hE hd ho hc hf hx hk
    .exact hv.elim
   .rename_i hc;split at hv
    .rename_i x t hx ht;exact Zpf hI hE hd ho hc ht hx hv
    .exact hv.elim
   .rename_i hc;split at hv
    .rename_i s x t t' hx ht;rcases hv with ⟨rfl | hs,hv | hv⟩ | hv
     .exact Zdb hI hE hd ho hc ht hx hv
     .exact Zca hI hE hd ho hc ht hx hv
     .refine Zbo ho (Zcc ho hc ht (by unfold Z6i at hv;exact Option.isSome_iff_ne_none.2 fun h0=>by rw[h0] at hv;exact hv) hs hx) (Zdb (c:={ c with argTypes:=#[t,t] }) (t:=t) hI hE hd rfl hc rfl hx hv)
     .refine Zbo ho (Zcc ho hc ht (by unfold Z5t at hv;exact Option.isSome_iff_ne_none.2 fun h0=>by rw[h0] at hv;exact hv) hs hx) (Zca (c:={ c with argTypes:=#[t,t] }) (t:=t) hI hE hd rfl hc rfl hx hv)
     .exact Zgz hI hE hd ho hc ht hx hv
    .exact hv.elim
   .rename_i hc;split at hv
    .rename_i s t hx ht;exact Zpg hI hE hd ho hc ht hx hv
    .exact hv.elim
   .rename_i hc;split at hv
    .rename_i s x t t' hx ht;obtain⟨rfl | hs,hv⟩:=hv
     .exact Zgy hI hE hd ho hc ht hx hv
     .exact Zbo ho (Zlj ho hc ht hx) (Zgy (c:={ c with argTypes:=#[t,t] }) (t:=t) hI hE hd rfl hc rfl hx hv)
    .exact hv.elim
   .rename_i hc;split at hv
    .rename_i s t hx ht;exact Zl2 hI hE hd ho hc ht hx hv
    .exact hv.elim
   .split at hv
    .rename_i v hve;exact Zfp hI hE hd (by rw[ho];exact hve) hv
    .exact hv.elim
 | _=>
   simp only[vcOp,ho] at hv;split at hv
   .rename_i v hve;exact Zfp hI hE hd (by rw[ho];exact hve) hv
   .exact hv.elim
theorem Zei {all:Array Oper} (hE:EnvRel μ e a) {j:Nat} {b:Bool} (hy:Z64 all.toList e j=.one (.d (.bool b))):yielded all a.tmps j=some b:=by
 unfold Z64 at hy;split at hy
 .rename_i oj hj;split at hy
  .rename_i d hd;have hr:=hE.2.2 d;rw[hy] at hr;have hb:a.tmps.getD d undef=.bool b:=RepD.bool_inv (m:=μ.cell) hr;have hlt:d < a.tmps.size:=by
    rcases Y0t d a.tmps.size with h1 | h1
    .exact h1
    .rw[Y18,Y1r h1] at hb;simp[undef] at hb
   have hj':all[j]? = some oj:=by simpa using hj
   unfold yielded;rw[hj'];simp only[Option.bind_some,hd,Y1h hlt];rw[Y18,Y1h hlt] at hb;simp at hb;rw[hb]
  .cases hy
 .cases hy
theorem Zaq {all:Array Oper} (hE:EnvRel μ e a) {j:Nat} (hy:Z64 all.toList e j=.undef):yielded all a.tmps j=none:=by
 unfold Z64 at hy;split at hy
 .rename_i oj hj;have hj':all[j]? = some oj:=by simpa using hj
  split at hy
  .rename_i d hd;have hr:=hE.2.2 d;rw[hy] at hr;have hu:a.tmps.getD d undef=undef:=hr;unfold yielded;rw[hj'];simp only[Option.bind_some,hd];rw[Y18] at hu;cases hx:a.tmps[d]? with
   | none=>rfl
   | some u=>rw[hx] at hu;simp at hu;rw[hu];rfl
  .rename_i hd;unfold yielded;rw[hj'];simp[hd]
 .rename_i hj;have hj':all[j]? = none:=by simpa using hj
  unfold yielded;rw[hj'];rfl
theorem Zaa {all:Array Oper} {Q:Exit->Act->World->Prop} {N:Env->HS->Prop} {μ0:Mem} (hN:∀ e' h' μ' a' w',N e' h'->Inv Γ h' μ' w'->EnvRel μ' e' a'->Mem.Le μ0 μ'->Q .normal a' w') :
  ∀ (l:List Oper) {e:Env} {h:HS} {μ:Mem} {a:Act} {w:World},Inv Γ h μ w->EnvRel μ e a->Mem.Le μ0 μ->vcOps P all.toList l e h N->wpList P all Q l a w
 | [],e,h,μ,a,w,hI,hE,hle,hv=>hN _ _ _ _ _ hv hI hE hle
 | o::l,e,h,μ,a,w,hI,hE,hle,hv=>by
   obtain⟨hd,hv⟩:=hv;unfold wpList;have skip:vcOps P all.toList l (e.put o.dst .undef) h N->wpList P all Q l (a.put o.dst undef) w:=fun hs=>
    Zaa hN l hI (hE.put (fun d hd'=>by unfold dstOK at hd;rw[hd'] at hd;exact hd) (v:=.undef) rfl) hle hs
   have go:vcOp P o e h (fun e h=>vcOps P all.toList l e h N)->o.wp P a w (wpList P all Q l) Q:=fun hs=>
    Zn3 hI hE hd hs _ _ (fun e' h' μ' a' w' hk hI' hE' hle'=>Zaa hN l hI' hE' (hle.trans hle') hk)
   split at hv
   .rename_i hg;rw[if_pos (by simp[Region.wanted,hg])];exact .inl (go hv)
   .rename_i j want hg;split at hv
    .rename_i b hy;have hy':=Zei hE hy
     by_cases hb:b=want
     .rw[if_pos (by simp[Region.wanted,hg,hy',hb])];exact .inl (go (hv.1 hb))
     .rw[if_neg (by simp[Region.wanted,hg,hy',hb])];exact skip (hv.2 hb)
    .rename_i hy;have hy':=Zaq hE hy;rw[if_neg (by simp[Region.wanted,hg,hy'])];exact skip hv
    .exact hv.elim
theorem Z53:∀ (c:Code) (Q:Exit->Env->HS->Prop) (e:Env) (h:HS),vc P c Q e h->SWP P c Q e h
 | .skip,Q,e,h,hv=>fun Γ a w μ hI hE=>wp_skip ⟨e,h,μ,hv,hI,hE,.refl μ⟩
 | .region id ops false,Q,e,h,hv=>fun Γ a w μ hI hE=>wp_region_list (Zaa (fun e' h' μ' a' w' hk hI' hE' hle=>⟨e',h',μ',hk,hI',hE',hle⟩) ops.toList hI hE (.refl μ) hv)
 | .region id ops true,Q,e,h,hv=>hv
 | .seq x y,Q,e,h,hv=>fun Γ a w μ hI hE=>by
   refine wp_seq (Code.wp_mono ?_ (Z53 x _ e h hv Γ a w μ hI hE));rintro ex a' w' ⟨e',h',μ',hq,hI',hE',hle⟩;cases ex with
   | normal=>exact Code.wp_mono (fun ex a2 w2 ⟨e2,h2,μ2,q1,q2,q3,q4⟩=>⟨e2,h2,μ2,q1,q2,q3,hle.trans q4⟩) (Z53 y Q e' h' hq Γ a' w' μ' hI' hE')
   | _=>exact⟨e',h',μ',hq,hI',hE',hle⟩
 | .cond c x y,Q,e,h,hv=>fun Γ a w μ hI hE=>by
   simp only[vc] at hv;split at hv
   .rename_i t ht;have hc:=ev_rep hE c;rw[ht] at hc;have hc':a.eval c=.bool t:=RepD.bool_inv (m:=μ.cell) hc;refine wp_cond_split hc' (fun hh=>Z53 x Q e h (hv.1 hh) Γ a w μ hI hE) (fun hh=>Z53 y Q e h (hv.2 hh) Γ a w μ hI hE)
   .exact hv.elim
 | .block id x,Q,e,h,hv=>fun Γ a w μ hI hE=>by
   refine wp_block (Code.wp_mono ?_ (Z53 x _ e h hv Γ a w μ hI hE));rintro ex a' w' ⟨e',h',μ',hq,hI',hE',hle⟩;cases ex with
   | exit id'=>
     simp only[blockQ] at hq;simp only[Exit.inBlock];split at hq
     .rename_i hid;rw[if_pos hid];exact⟨e',h',μ',hq,hI',hE',hle⟩
     .rename_i hid;rw[if_neg hid];exact⟨e',h',μ',hq,hI',hE',hle⟩
   | _=>exact⟨e',h',μ',hq,hI',hE',hle⟩
 | .exit id,Q,e,h,hv=>fun Γ a w μ hI hE=>wp_exit ⟨e,h,μ,hv,hI,hE,.refl μ⟩
 | .ret,Q,e,h,hv=>fun Γ a w μ hI hE=>wp_ret ⟨e,h,μ,hv,hI,hE,.refl μ⟩
 | .loop x,Q,e,h,hv=>hv
 | .rangeFunc ..,Q,e,h,hv=>hv
 | .scope x,Q,e,h,hv=>hv
 | .label l,Q,e,h,hv=>hv
 | .goto l,Q,e,h,hv=>hv
 | .refuse s,Q,e,h,hv=>hv
theorem SWP.mono {c:Code} {Q Q':Exit->Env->HS->Prop} (hs:SWP P c Q e h) (hq:∀ x e h,Q x e h->Q' x e h):SWP P c Q' e h:=fun Γ a w μ hI hE=>
 Code.wp_mono (by rintro ex a' w' ⟨e',h',μ',hqq,hI',hE',hle⟩;exact⟨e',h',μ',hq _ _ _ hqq,hI',hE',hle⟩) (hs Γ a w μ hI hE)
theorem SWP.loop {c:Code} {Q:Exit->Env->HS->Prop} (I:Nat->Env->HS->Prop) (n:Nat) (h0:I n e h)
  (round:∀ n e h,I n e h->vc P c (thenQ (fun e' h'=>∃ n',n' < n/\I n' e' h') Q) e h):SWP P (.loop c) Q e h:=by
 intro Γ a w μ hI hE;intro b k cs;have key:∀ n e h a w μ,I n e h->Inv Γ h μ w->EnvRel μ e a ->
   ∃ ex a' w',(∃ e' h' μ',Q ex e' h'/\Inv Γ h' μ' w'/\EnvRel μ' e' a'/\Mem.Le μ μ')/\Arrives P (lone (b.at a (.code c::.inLoop c::k)) cs w) b k cs ex a' w':=by
  intro n
  induction n using Nat.strongRecOn with
  | _ n ih=>
    intro e h a w μ hIn hI hE;obtain⟨ex,a₁,w₁,⟨e₁,h₁,μ₁,hq,hI₁,hE₁,hle₁⟩,harr⟩:=Z53 c _ e h (round n e h hIn) Γ a w μ hI hE b (.inLoop c::k) cs;cases ex with
    | normal=>
      obtain⟨n',hlt,hIn'⟩:=hq;obtain⟨e₂,a₂,w₂,⟨e₃,h₃,μ₃,q1,q2,q3,q4⟩,harr₂⟩:=ih n' hlt e₁ h₁ a₁ w₁ μ₁ hIn' hI₁ hE₁;exact⟨e₂,a₂,w₂,⟨e₃,h₃,μ₃,q1,q2,q3,hle₁.trans q4⟩,.of_steps (Steps.trans harr (.one step_inLoop)) harr₂⟩
    | exit id=>exact⟨_,a₁,w₁,⟨e₁,h₁,μ₁,hq,hI₁,hE₁,hle₁⟩,.pass (x:=.inLoop c) rfl (fun _ _=>.inl (by simp)) harr⟩
    | goto l=>exact⟨_,a₁,w₁,⟨e₁,h₁,μ₁,hq,hI₁,hE₁,hle₁⟩,.pass (x:=.inLoop c) rfl (fun _ _=>.inl (by simp)) harr⟩
    | ret=>exact⟨_,a₁,w₁,⟨e₁,h₁,μ₁,hq,hI₁,hE₁,hle₁⟩,.pass (x:=.inLoop c) rfl (fun _ _=>.inl (by simp)) harr⟩
    | panic ch=>exact⟨_,a₁,w₁,⟨e₁,h₁,μ₁,hq,hI₁,hE₁,hle₁⟩,.pass (x:=.inLoop c) rfl (fun _ _=>.inl (by simp)) harr⟩
    | outgrown=>exact⟨_,a₁,w₁,⟨e₁,h₁,μ₁,hq,hI₁,hE₁,hle₁⟩,.pass (x:=.inLoop c) rfl (fun _ _=>.inl (by simp)) harr⟩
 obtain⟨ex,a',w',hq,harr⟩:=key n e h a w μ h0 hI hE;exact⟨ex,a',w',hq,.of_steps (.one step_loop) harr⟩
end
end Go.Am
end
section
namespace Go.Am
open Go
open Go.RowKit (Below)
def resV (P:Program) (e:Env) (h:HS):ResultVar->Option V
 | .tmp t=>some (e.get t)
 | .cell t T=>match ldT P T with
   | some (a,n)=>match e.get t with
     | .one c=>match readAt h c n with
       | some l=>mkV a l
       | none=>none
     | _=>none
   | none=>none
def resVs (P:Program) (e:Env) (h:HS):List ResultVar->Option (List V)
 | []=>some []
 | r::rs=>match resV P e h r,resVs P e h rs with
   | some v,some vs=>some (v::vs)
   | _,_=>none
def RetC (h:HS) (ren:Nat->Option Lab) (c:C):RC->Prop
 | .d x=>c.toD=some x
 | .fresh j es xs=>match ren j with
   | some l=>c=.own l xs/\h.arr l=some (xs.length,es)
   | none=>c=.nil/\xs=[]
def RetCs (h:HS) (ren:Nat->Option Lab):List C->List RC->Prop
 | [],[]=>True
 | c::cs,r::rs=>RetC h ren c r/\RetCs h ren cs rs
 | _,_=>False
def RetV1 (h:HS) (ren:Nat->Option Lab) (v:V):RV->Prop
 | .one r=>match v with
   | .one c=>RetC h ren c r
   | _=>False
 | .agg rs=>match v with
   | .agg cs=>RetCs h ren cs rs
   | _=>False
 | .tup _=>False
def RetVs (h:HS) (ren:Nat->Option Lab):List V->List RV->Prop
 | [],[]=>True
 | v::vs,r::rs=>RetV1 h ren v r/\RetVs h ren vs rs
 | _,_=>False
def RetAll (h:HS) (ren:Nat->Option Lab) (vs:List V):RV->Prop
 | .tup rs=>vs.length≠1/\RetVs h ren vs rs
 | .one c=>match vs with
   | [v]=>RetV1 h ren v (.one c)
   | _=>False
 | .agg cs=>match vs with
   | [v]=>RetV1 h ren v (.agg cs)
   | _=>False
def retOK (P:Program) (rs:List ResultVar) (r:RV) (e:Env) (h:HS):Prop:=
 match resVs P e h rs with
 | some vs=>∃ ren:Nat->Option Lab,(∀ j j' l,ren j=some l->ren j'=some l->j=j')/\RetAll h ren vs r
 | none=>False
def retQ (P:Program) (rs:List ResultVar) (r:RV):Exit->Env->HS->Prop
 | .normal,e,h=>retOK P rs r e h
 | .ret,e,h=>retOK P rs r e h
 | _,_,_=>False
def AV.toV:AV->V
 | .one (.d x)=>.one (.d x)
 | .one (.rp cs)=>.one (.rp cs)
 | .one (.fn f caps)=>.one (.fn f (caps.map Cap.rp))
 | .agg ds=>.agg (ds.map C.d)
def env0 (n:Nat) (ars:List AV):Env:={ n,get:=fun k=>match ars[k]? with
 | some a=>a.toV
 | none=>.undef }
section
variable {P:Program} {w:World} {a:Act} {e:Env} {h:HS} {μ:Mem} {Γ:Ctx}
theorem Zl9 (hI:Inv Γ h μ w) {t:TypeId} {c:C} {v0:Value} {ag:Bool} {n:Nat} {l:List C} {v:V} (hld:ldT P t=some (ag,n)) (hc:RepC μ c v0) (hr:readAt h c n=some l) (hv:mkV ag l=some v) :
  ∃ b u,v0=.pointer (some b)/\(loadVar t b).run P w=.ok u w/\RepV μ v u:=by
 obtain⟨d,i,hd,hag,hi,hn⟩:=Zfw hld;obtain⟨hln,b,off,hpv,hat⟩:=Zc9 hI hc hr;obtain⟨vs,hvl,hR,hcell⟩:=hat.list;have hmk:=Zg0 hR hv;cases hag':ag with
 | true=>
   refine⟨_,_,hpv,?_,hmk.1 hag'⟩
   have:=run_loadCells_list (P:=P) w ⟨b,off,none⟩ vs hcell
   simp[loadVar,Z6n hd,hag,hag',sizeOf,typeInfo,hi,hn,<- hln,<- hvl,this]
 | false=>
   obtain⟨u,hvu,hru⟩:=hmk.2 hag';refine⟨_,u,hpv,?_,hru⟩;subst hvu
   have:=hcell 0 u (by simp)
   rw[Z57] at this;simp only[Y1q] at this;simp[loadVar,Z6n hd,hag,hag',run_load,this]
def resF (tmps:Array Value):ResultVar->Sem Value
 | .tmp t=>pure (tmps.getD t undef)
 | .cell p t=>do loadVar t (<- asAddr (tmps.getD p undef))
theorem Zep (fn:Func) (tmps:Array Value):results fn tmps=(do
  let vs <- fn.results.mapM (resF tmps)
  pure (if h:vs.size=1 then vs[0] else .tuple vs)):=by
 unfold results
 congr 1
theorem Zi0 (hI:Inv Γ h μ w) (hE:EnvRel μ e a):∀ (rs:List ResultVar) (vs:List V),resVs P e h rs=some vs ->
  ∃ us:List Value,(rs.mapM (resF a.tmps)).run P w=.ok us w/\us.length=vs.length /\
    ∀ (i:Nat) v,vs[i]? = some v->∃ u,us[i]? = some u/\RepV μ v u
 | [],vs,hv=>by simp[resVs] at hv;subst hv;exact⟨[],by simp,rfl,fun i v hi=>by simp at hi⟩
 | r::rs,vs,hv=>by
   simp only[resVs] at hv;split at hv
   .rename_i v vs' hr hrs
    injection hv with hv
    subst hv;obtain⟨us,h1,h2,h3⟩:=Zi0 hI hE rs vs' hrs;have key:∃ u,(resF a.tmps r).run P w=.ok u w/\RepV μ v u:=by
     cases r with
     | tmp t=>
       simp[resV] at hr;subst hr;exact⟨a.tmps.getD t undef,rfl,hE.2.2 t⟩
     | cell p t=>
       simp only[resV] at hr;split at hr
       .rename_i ag n hld;split at hr
        .rename_i c hc;split at hr
         .rename_i l hl;have hp:=hE.2.2 p;rw[hc] at hp;obtain⟨b,u,hb,hrun,hru⟩:=Zl9 hI hld (show RepC μ c _ from hp) hl hr;exact⟨u,by simp only[resF,hb,asAddr];simpa using hrun,hru⟩
         .cases hr
        .cases hr
       .cases hr
    obtain⟨u,hu,hru⟩:=key;refine⟨u::us,?_,by simp[h2],fun i v' hi=>?_⟩
    .rw[List.mapM_cons,Sem.run_bind,hu,Result.andThen_ok,Sem.run_bind,h1,Result.andThen_ok];rfl
    .cases i with
     | zero=>simp at hi;subst hi;exact⟨u,by simp,hru⟩
     | succ i=>obtain⟨u',h4,h5⟩:=h3 i v' (by simpa using hi);exact⟨u',by simpa using h4,h5⟩
   .cases hv
def blkOf (μ:Mem) (ren:Nat->Option Lab) (j:Nat):Option Nat × Nat:=
 match ren j with
 | some l=>(μ.loc l).getD (none,0)
 | none=>(none,0)
theorem Zjq {ren:Nat->Option Lab} {c:C} {r:RC} {v:Value} (hc:RepC μ c v) (hr:RetC h ren c r):RepRC μ.cell (blkOf μ ren) r v:=by
 cases r with
 | d x=>exact Z5l hc hr
 | fresh j es xs=>
   simp only[RetC] at hr;split at hr
   .rename_i l hl;obtain⟨rfl,_⟩:=hr;obtain⟨h1,g,cap,h2,h3⟩:=hc;refine⟨h1,?_⟩;simp only[blkOf,hl,h2,Option.getD_some];exact h3
   .rename_i hl;obtain⟨rfl,rfl⟩:=hr;refine⟨Z5l (c:=.nil) hc rfl,?_⟩;simp only[blkOf,hl];exact hc
theorem Znv {ren:Nat->Option Lab}:∀ {cs:List C} {rs:List RC} {vs:Array Value},RepCs μ cs vs->RetCs h ren cs rs->vs.size=rs.length/\∀ (i:Nat) r,rs[i]? = some r->∃ u,vs[i]? = some u/\RepRC μ.cell (blkOf μ ren) r u:=by
 intro cs rs vs hR hr;have key:cs.length=rs.length/\∀ (i:Nat) r,rs[i]? = some r->∃ c,cs[i]? = some c/\RetC h ren c r:=by
  clear hR
  induction cs generalizing rs with
  | nil=>
    cases rs with
    | nil=>exact⟨rfl,fun i r hi=>by simp at hi⟩
    | cons r rs=>exact hr.elim
  | cons c cs ih=>
    cases rs with
    | nil=>exact hr.elim
    | cons r rs=>
      obtain⟨h1,h2⟩:=ih hr.2;refine⟨by simp[h1],fun i r' hi=>?_⟩;cases i with
      | zero=>simp at hi;subst hi;exact⟨c,by simp,hr.1⟩
      | succ i=>obtain⟨c',h3,h4⟩:=h2 i r' (by simpa using hi);exact⟨c',by simpa using h3,h4⟩
 refine⟨by rw[hR.1,key.1],fun i r hi=>?_⟩;obtain⟨c,h1,h2⟩:=key.2 i r hi;obtain⟨u,hu,hru⟩:=hR.2 i c h1;exact⟨u,hu,Zjq hru h2⟩
theorem Zhl {ren:Nat->Option Lab} {v:V} {r:RV} {u:Value} (hv:RepV μ v u) (hr:RetV1 h ren v r):RepRV1 μ.cell (blkOf μ ren) r u:=by
 cases r with
 | one r=>cases v<;>simp only[RetV1] at hr;exact Zjq hv hr
 | agg rs=>
   cases v<;>simp only[RetV1] at hr;obtain⟨vs,h1,h2⟩:=hv;obtain⟨h3,h4⟩:=Znv h2 hr;exact⟨vs,h1,h3,h4⟩
 | tup rs=>exact hr.elim
theorem Znw {ren:Nat->Option Lab} {c:C} {r:RC} (hr:RetC h ren c r):∀ x ∈ r.fr,match ren x.1 with
  | some l=>h.arr l=some (x.2.2,x.2.1)
  | none=>x.2.2=0:=by
 cases r with
 | d x=>simp[RC.fr]
 | fresh j es xs=>
   intro x hx;simp[RC.fr] at hx;subst hx;simp only[RetC] at hr;split at hr
   .rename_i l hl;rw[hl];exact hr.2
   .rename_i hl;rw[hl];rw[hr.2];rfl
theorem Zjp {ren:Nat->Option Lab}:∀ {cs:List C} {rs:List RC},RetCs h ren cs rs->∀ x ∈ rs.flatMap RC.fr,match ren x.1 with
  | some l=>h.arr l=some (x.2.2,x.2.1)
  | none=>x.2.2=0
 | [],[],_,x,hx=>by simp at hx
 | c::cs,r::rs,hr,x,hx=>by
   rw[Y0r,Y02] at hx;rcases hx with hx | hx
   .exact Znw hr.1 x hx
   .exact Zjp hr.2 x hx
 | [],_::_,hr,_,_=>hr.elim
 | _::_,[],hr,_,_=>hr.elim
theorem Zjo {ren:Nat->Option Lab} {v:V} {r:RV} (hr:RetV1 h ren v r):∀ x ∈ RV1.fr r,match ren x.1 with
  | some l=>h.arr l=some (x.2.2,x.2.1)
  | none=>x.2.2=0:=by
 cases r with
 | one r=>cases v<;>simp only[RetV1] at hr;exact Znw hr
 | agg rs=>cases v<;>simp only[RetV1] at hr;exact Zjp hr
 | tup rs=>exact hr.elim
theorem Zjn {ren:Nat->Option Lab}:∀ {vs:List V} {rs:List RV},RetVs h ren vs rs->∀ x ∈ rs.flatMap RV1.fr,match ren x.1 with
  | some l=>h.arr l=some (x.2.2,x.2.1)
  | none=>x.2.2=0
 | [],[],_,x,hx=>by simp at hx
 | c::cs,r::rs,hr,x,hx=>by
   rw[Y0r,Y02] at hx;rcases hx with hx | hx
   .exact Zjo hr.1 x hx
   .exact Zjn hr.2 x hx
 | [],_::_,hr,_,_=>hr.elim
 | _::_,[],hr,_,_=>hr.elim
theorem Zhk {ren:Nat->Option Lab}:∀ {vs:List V} {rs:List RV},RetVs h ren vs rs->vs.length=rs.length/\∀ (i:Nat) r,rs[i]? = some r->∃ v,vs[i]? = some v/\RetV1 h ren v r
 | [],[],_=>⟨rfl,fun i r hi=>by simp at hi⟩
 | c::cs,r::rs,hr=>by
   obtain⟨h1,h2⟩:=Zhk hr.2;refine⟨by simp[h1],fun i r' hi=>?_⟩;cases i with
   | zero=>simp at hi;subst hi;exact⟨c,by simp,hr.1⟩
   | succ i=>obtain⟨c',h3,h4⟩:=h2 i r' (by simpa using hi);exact⟨c',by simpa using h3,h4⟩
 | [],_::_,hr=>hr.elim
 | _::_,[],hr=>hr.elim
theorem Zje (hI:Inv Γ h μ w) {ren:Nat->Option Lab} (hinj:∀ j j' l,ren j=some l->ren j'=some l->j=j') {fr:List (Nat × Nat × Nat)}
  (hfr:∀ x ∈ fr,match ren x.1 with
   | some l=>h.arr l=some (x.2.2,x.2.1)
   | none=>x.2.2=0):Zc7 μ.cell Γ.w0 w (blkOf μ ren) fr:=by
 have key:∀ x ∈ fr,∀ b,(blkOf μ ren x.1).1=some b->∃ l c,ren x.1=some l/\h.arr l=some (x.2.2,x.2.1)/\μ.loc l=some (some b,c):=by
  intro x hx b hb;have h1:=hfr x hx;cases hl:ren x.1 with
  | none=>simp[blkOf,hl] at hb
  | some l=>
    rw[hl] at h1;obtain⟨gc,h2,_⟩:=hI.arr l _ _ h1;simp[blkOf,hl,h2] at hb;obtain⟨g,c⟩:=gc;simp only at hb;subst hb;exact⟨l,c,rfl,h1,h2⟩
 refine⟨fun x hx=>?_,fun x hx y hy b hb hb'=>?_⟩
 .have h1:=hfr x hx;cases hl:ren x.1 with
  | none=>
    rw[hl] at h1;simp only[blkOf,hl];exact⟨fun _=>⟨rfl,h1⟩,fun g hg=>by cases hg⟩
  | some l=>
    rw[hl] at h1;obtain⟨gc,h2,h3⟩:=hI.arr l _ _ h1;simp only[blkOf,hl,h2,Option.getD_some];exact h3
 .obtain⟨l,c,h1,h2,h3⟩:=key x hx b hb;obtain⟨l',c',h4,h5,h6⟩:=key y hy b hb'
  have:=hI.inj l l' b c c' (.inr (by rw[h2];simp)) (.inr (by rw[h5];simp)) h3 h6
  subst this;exact hinj _ _ l h1 h4
theorem AV_rep {m t:CM} {x:AV} {v:Value} (hx:RepAV m t x v):RepV { cell:=m,tmp:=t,loc:=fun _=>none } x.toV v:=by
 cases x with
 | one y=>
   cases y with
   | d x=>exact hx
   | rp cs=>exact hx
   | fn f caps=>
     obtain⟨vs,h1,h2,h3⟩:=hx;refine⟨vs,h1,by simp[h2],fun i c hi=>?_⟩;rw[Y0b] at hi;cases hc:caps[i]? with
     | none=>simp[hc] at hi
     | some ds=>
       simp[hc] at hi;subst hi;exact h3 i ds hc
 | agg ds=>
   obtain⟨vs,h1,h2,h3⟩:=hx;refine⟨vs,h1,by simp[h2],fun i c hi=>?_⟩;rw[Y0b] at hi;cases hc:ds[i]? with
   | none=>simp[hc] at hi
   | some x=>
     simp[hc] at hi;subst hi;exact h3 i x hc
theorem PSpec.of_vc {f:FuncId} {fn:Func} {c:Code} {n:Nat} {ars:List AV} {r:RV} (hf:P.funcs[f]? = some fn) (hb:fn.body=some c) (hnm:(fn.name == "runtime.NumGoroutine")=false) (hn:fn.ntmps=n) {rs:List ResultVar} (hrs:fn.results.toList=rs) (has:ars.length<=n)
  (hv:vc P c (retQ P rs r) (env0 n ars) HS.init):PSpec P f ars r:=by
 subst hrs;refine⟨⟨fn,hf,hnm,by rw[hb];rfl⟩,fun w m t vals hg hm ht hargs=>?_⟩;have hI:Inv ⟨w,m,t,hg⟩ HS.init { cell:=m,tmp:=t,loc:=fun _=>none } w:=
  ⟨hm,rfl,ht,fun b o v hv=>ht.lt hv,Sub.refl _,fun _ _ _ _ h=>h,Below.refl _ _,fun l cs hl=>by simp[HS.init] at hl,fun l es n hl=>by simp[HS.init] at hl,
   fun l l' b n n' hl=>by rcases hl with hl | hl<;>simp[HS.init] at hl,fun l hl=>absurd rfl hl,fun l hl=>by simp[HS.init] at hl⟩
 have hE:EnvRel { cell:=m,tmp:=t,loc:=fun _=>none } (env0 n ars) { tmps:=vals++Array.replicate (fn.ntmps - vals.size) undef,defers:=[] }:=by
  refine⟨rfl,?_,fun k=>?_⟩
  .simp[env0,hargs.1,hn];omega
  .simp only[env0];cases hk:ars[k]? with
   | some x=>
     obtain⟨u,hu,hr⟩:=hargs.2 k x hk;have hlt:k < vals.size:=(Y0u.1 hu).1
     have:(vals++Array.replicate (fn.ntmps - vals.size) undef).getD k undef=u:=by
      rw[Y18,Y1w hlt,hu];rfl
     simp only[this];exact AV_rep hr
   | none=>
     have hge:vals.size<=k:=by rw[hargs.1];exact List.getElem?_eq_none_iff.1 hk
     show (vals++Array.replicate (fn.ntmps - vals.size) undef).getD k undef=undef;rw[Y18,Y1s hge];cases hx:(Array.replicate (fn.ntmps - vals.size) undef)[k - vals.size]? with
     | none=>rfl
     | some u=>
       obtain⟨_,he⟩:=Y0u.1 hx;simp at he;simp[he]
 refine calls_of_wp hf hb (Code.wp_mono ?_ (Z53 c _ _ _ hv ⟨w,m,t,hg⟩ _ w _ hI hE));rintro ex a' w' ⟨e',h',μ',hq,hI',hE',hleE⟩;have fin:retOK P fn.results.toList r e' h'->a'.defers=[]/\∃ v,(results fn a'.tmps).run P w'=.ok v w'/\∃ v' m' blk,Ending.returned v=.returned v'/\Sub m m'/\(∀ b o u,b < w.heap.size->m' b o=some u->m b o=some u)/\Cells m' w' /\
   Below w.heap.size w w'/\RepRV m' blk r v'/\Zc7 m' w w' blk r.fr:=by
  intro hret;unfold retOK at hret;split at hret
  .rename_i vs hvs;obtain⟨ren,hinj,hret⟩:=hret;obtain⟨us,hrun,hlen,hR⟩:=Zi0 (P:=P) hI' hE' fn.results.toList vs hvs;have hres:(results fn a'.tmps).run P w'=.ok (if hh:us.toArray.size=1 then us.toArray[0] else .tuple us.toArray) w':=by
    rw[Zep,Sem.run_bind,Array.mapM_eq_mapM_toList];have hrun':(Functor.map List.toArray (fn.results.toList.mapM (resF a'.tmps))).run P w'=.ok us.toArray w':=by
     rw[Sem.run_map,hrun];rfl
    rw[hrun'];rfl
   refine⟨hE'.1,_,hres,_,μ'.cell,blkOf μ' ren,rfl,hI'.ext,fun b o u hb hu=>hI'.old b o u hb hu,hI'.cell,hI'.below,?_⟩;have one:∀ v,vs=[v]->(hq:RetV1 h' ren v r)->r.fr=RV1.fr r->(∀ u,RepRV μ'.cell (blkOf μ' ren) r u↔RepRV1 μ'.cell (blkOf μ' ren) r u) ->
     RepRV μ'.cell (blkOf μ' ren) r (if hh:us.toArray.size=1 then us.toArray[0] else .tuple us.toArray)/\Zc7 μ'.cell w w' (blkOf μ' ren) r.fr:=by
    intro v hv1 hq hfr1 hiff;subst hv1;obtain⟨u,hu,hru⟩:=hR 0 v (by simp);obtain⟨u',rfl⟩:∃ u',us=[u']:=by
     match us,hlen with
     | [u'],_=>exact⟨u',rfl⟩
    obtain rfl:u'=u:=by simpa using hu
    refine⟨(hiff _).2 ?_,?_⟩
    .exact Zhl hru hq
    .rw[hfr1];exact Zje hI' hinj (Zjo hq)
   cases r with
   | tup rs=>
     obtain⟨hne,hvs'⟩:=hret;obtain⟨h1,h2⟩:=Zhk hvs';have hus:¬ us.toArray.size=1:=by simp[hlen];exact hne
     rw[dif_neg hus];refine⟨⟨us.toArray,rfl,by simp[hlen,h1],fun i x hi=>?_⟩,Zje hI' hinj (Zjn hvs')⟩;obtain⟨v,h3,h4⟩:=h2 i x hi;obtain⟨u,h5,h6⟩:=hR i v h3;exact⟨u,by simpa using h5,Zhl h6 h4⟩
   | one c=>
     have hv1:∃ v,vs=[v]/\RetV1 h' ren v (.one c):=by
      match vs,hret with
      | [v],hret=>exact⟨v,rfl,hret⟩
     obtain⟨v,hv1,hq⟩:=hv1;exact one v hv1 hq rfl (fun u=>Iff.rfl)
   | agg cs=>
     have hv1:∃ v,vs=[v]/\RetV1 h' ren v (.agg cs):=by
      match vs,hret with
      | [v],hret=>exact⟨v,rfl,hret⟩
     obtain⟨v,hv1,hq⟩:=hv1;exact one v hv1 hq rfl (fun u=>Iff.rfl)
  .exact hret.elim
 cases ex with
 | normal=>exact fin hq
 | ret=>exact fin hq
 | exit id=>exact hq.elim
 | goto l=>exact hq.elim
 | panic ch=>exact hq.elim
 | outgrown=>exact hq.elim
end
end Go.Am
end
