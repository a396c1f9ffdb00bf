import Derived.WalkKit
import Derived.Lib.ItoaNum
import Derived.Test.YtfhpobpaahhfbaaGreatDoorRows
import Derived.Laws.Cover3
import Derived.Lib.AppendZeros
set_option linter.all false
set_option maxRecDepth 20000
namespace Go
def XA:type_of%@Array.getElem?_append_right:=@Array.getElem?_append_right
def XB:type_of%@Nat.not_lt_zero:=@Nat.not_lt_zero
def XC:type_of%@List.flatten_cons:=@List.flatten_cons
def XD:type_of%@Array.getElem?_append_left:=@Array.getElem?_append_left
def XE:type_of%@List.mem_of_mem_take:=@List.mem_of_mem_take
def XF:type_of%@List.nodup_cons:=@List.nodup_cons
def XG:type_of%@List.filter_cons:=@List.filter_cons
def XH:type_of%@List.filterMap_cons:=@List.filterMap_cons
def XI:type_of%@Nat.zero_add:=@Nat.zero_add
def XJ:type_of%@Nat.mul_le_mul:=@Nat.mul_le_mul
def XK:type_of%@List.drop_left':=@List.drop_left'
def XL:type_of%@Nat.lt_irrefl:=@Nat.lt_irrefl
def XM:type_of%@List.filter_eq_self:=@List.filter_eq_self
def XN:type_of%@List.flatten_append:=@List.flatten_append
def XO:type_of%@Bool.not_false:=@Bool.not_false
def XP:type_of%@List.map_take:=@List.map_take
def XQ:type_of%@Bool.or_eq_true:=@Bool.or_eq_true
def XR:type_of%@List.length_filter_le:=@List.length_filter_le
def XS:type_of%@List.flatMap_nil:=@List.flatMap_nil
def XT:type_of%@List.flatMap_eq_nil_iff:=@List.flatMap_eq_nil_iff
def XU:type_of%@List.drop_zero:=@List.drop_zero
def XV:type_of%@List.mem_range:=@List.mem_range
def XW:type_of%@List.getElem?_set:=@List.getElem?_set
def XX:type_of%@List.getElem_take:=@List.getElem_take
def XY:type_of%@List.filter_sublist:=@List.filter_sublist
def XZ:type_of%@Array.ext_getElem?:=@Array.ext_getElem?
def Xe:type_of%@Array.getD_eq_getD_getElem?:=@Array.getD_eq_getD_getElem?
def Xf:type_of%@List.length_set:=@List.length_set
def Xg:type_of%@List.take_append_of_le_length:=@List.take_append_of_le_length
def Xh:type_of%@List.getElem?_of_mem:=@List.getElem?_of_mem
def Xi:type_of%@List.length_replicate:=@List.length_replicate
def Xj:type_of%@List.mem_append_right:=@List.mem_append_right
def Xk:type_of%@List.getElem?_take:=@List.getElem?_take
def Xl:type_of%@Nat.add_zero:=@Nat.add_zero
def Xm:type_of%@List.length_drop:=@List.length_drop
def Xn:type_of%@List.not_mem_nil:=@List.not_mem_nil
def Xo:type_of%@Array.getElem?_eq_getElem:=@Array.getElem?_eq_getElem
def Xp:type_of%@List.getElem?_append:=@List.getElem?_append
def Xq:type_of%@Nat.mul_le_mul_right:=@Nat.mul_le_mul_right
def Xr:type_of%@List.drop_drop:=@List.drop_drop
def Xs:type_of%@List.mem_iff_getElem?:=@List.mem_iff_getElem?
def Xt:type_of%@List.pairwise_singleton:=@List.pairwise_singleton
def Xu:type_of%@List.all_eq_true:=@List.all_eq_true
def Xv:type_of%@List.drop_append_of_le_length:=@List.drop_append_of_le_length
def Xw:type_of%@Array.getElem?_eq_none:=@Array.getElem?_eq_none
def Xx:type_of%@Bool.not_true:=@Bool.not_true
def Xy:type_of%@List.map_drop:=@List.map_drop
def Xz:type_of%@List.set_eq_take_append_cons_drop:=@List.set_eq_take_append_cons_drop
def Y00:type_of%@List.singleton_append:=@List.singleton_append
def Y01:type_of%@List.exists_mem_of_ne_nil:=@List.exists_mem_of_ne_nil
def Y02:type_of%@List.length_eq_zero_iff:=@List.length_eq_zero_iff
def Y03:type_of%@List.filter_append:=@List.filter_append
def Y04:type_of%@Nat.add_sub_cancel:=@Nat.add_sub_cancel
def Y05:type_of%@List.pairwise_map:=@List.pairwise_map
def Y06:type_of%@Nat.lt_trichotomy:=@Nat.lt_trichotomy
def Y07:type_of%@Bool.and_false:=@Bool.and_false
def Y08:type_of%@Nat.mul_one:=@Nat.mul_one
def Y0:type_of%@List.getElem?_eq_some_iff:=@List.getElem?_eq_some_iff
def Y1:type_of%@List.getElem?_eq_getElem:=@List.getElem?_eq_getElem
def Y2:type_of%@List.mem_of_getElem?:=@List.mem_of_getElem?
def Y32:type_of%@List.filterMap_append:=@List.filterMap_append
def Y33:type_of%@List.filterMap_map:=@List.filterMap_map
def Y34:type_of%@List.length_singleton:=@List.length_singleton
def Y35:type_of%@List.map_replicate:=@List.map_replicate
def Y36:type_of%@List.getElem?_eq_none_iff:=@List.getElem?_eq_none_iff
def Y37:type_of%@List.mem_of_find?_eq_some:=@List.mem_of_find?_eq_some
def Y38:type_of%@Bool.or_eq_false_iff:=@Bool.or_eq_false_iff
def Y39:type_of%@List.getElem?_take_of_lt:=@List.getElem?_take_of_lt
def Y3:type_of%@List.mem_append:=@List.mem_append
def Y3a:type_of%@List.length_nil:=@List.length_nil
def Y3b:type_of%@List.mem_filter:=@List.mem_filter
def Y3c:type_of%@List.size_toArray:=@List.size_toArray
def Y3d:type_of%@List.take_append_getElem:=@List.take_append_getElem
def Y3e:type_of%@List.take_left':=@List.take_left'
def Y3f:type_of%@Nat.sub_self:=@Nat.sub_self
def Y3g:type_of%@List.length_pos_iff:=@List.length_pos_iff
def Y3h:type_of%@List.getElem_map:=@List.getElem_map
def Y3i:type_of%@List.map_flatten:=@List.map_flatten
def Y3j:type_of%@List.nodup_nil:=@List.nodup_nil
def Y3k:type_of%@List.filter_eq_nil_iff:=@List.filter_eq_nil_iff
def Y3l:type_of%@List.find?_eq_none:=@List.find?_eq_none
def Y3m:type_of%@Nat.eq_zero_or_pos:=@Nat.eq_zero_or_pos
def Y3n:type_of%@List.getElem?_toArray:=@List.getElem?_toArray
def Y3o:type_of%@List.pairwise_flatMap:=@List.pairwise_flatMap
def Y3p:type_of%@List.getElem?_mapIdx:=@List.getElem?_mapIdx
def Y3q:type_of%@List.pairwise_append:=@List.pairwise_append
def Y3r:type_of%@List.drop_left:=@List.drop_left
def Y3s:type_of%@List.take_left:=@List.take_left
def Y3t:type_of%@List.flatten_nil:=@List.flatten_nil
def Y3u:type_of%@List.map_id:=@List.map_id
def Y3v:type_of%@List.replicate_succ:=@List.replicate_succ
def Y3w:type_of%@List.take_succ_cons:=@List.take_succ_cons
def Y3x:type_of%@Nat.one_mul:=@Nat.one_mul
def Y3y:type_of%@Nat.zero_le:=@Nat.zero_le
def Y3z:type_of%@List.filter_map:=@List.filter_map
def Y4:type_of%@Nat.lt_of_lt_of_le:=@Nat.lt_of_lt_of_le
def Y5:type_of%@List.mem_cons:=@List.mem_cons
def Y6:type_of%@IntWalk.i64_in:=@IntWalk.i64_in
def Y7:type_of%@Nat.le_refl:=@Nat.le_refl
def Y8:type_of%@List.mem_cons_self:=@List.mem_cons_self
def Y9:type_of%@List.getElem?_map:=@List.getElem?_map
def YA:type_of%@List.length_take:=@List.length_take
def YB:type_of%@List.drop_eq_getElem_cons:=@List.drop_eq_getElem_cons
def YC:type_of%@List.getElem?_append_right:=@List.getElem?_append_right
def YD:type_of%@List.take_of_length_le:=@List.take_of_length_le
def YE:type_of%@Nat.le_trans:=@Nat.le_trans
def YF:type_of%@List.eq_nil_of_length_eq_zero:=@List.eq_nil_of_length_eq_zero
def YG:type_of%@Prod.mk.injEq:=@Prod.mk.injEq
def YH:type_of%@List.mem_flatMap:=@List.mem_flatMap
def YI:type_of%@List.flatMap_cons:=@List.flatMap_cons
def YJ:type_of%@List.map_set:=@List.map_set
def YK:type_of%@List.pairwise_iff_getElem:=@List.pairwise_iff_getElem
def YL:type_of%@List.map_append:=@List.map_append
def YM:type_of%@List.length_cons:=@List.length_cons
def YN:type_of%@List.map_congr_left:=@List.map_congr_left
def YO:type_of%@List.getElem?_drop:=@List.getElem?_drop
def YP:type_of%@Nat.add_mul:=@Nat.add_mul
def YQ:type_of%@Array.getElem?_eq_some_iff:=@Array.getElem?_eq_some_iff
def YR:type_of%@List.drop_eq_nil_of_le:=@List.drop_eq_nil_of_le
def YS:type_of%@List.mem_filterMap:=@List.mem_filterMap
def YT:type_of%@List.pairwise_cons:=@List.pairwise_cons
def YU:type_of%@List.ext_getElem?:=@List.ext_getElem?
def YV:type_of%@List.mem_append_left:=@List.mem_append_left
def YW:type_of%@Bool.and_eq_true:=@Bool.and_eq_true
def YX:type_of%@Bool.false_eq_true:=@Bool.false_eq_true
def YY:type_of%@List.map_map:=@List.map_map
def YZ:type_of%@List.mem_or_eq_of_mem_set:=@List.mem_or_eq_of_mem_set
def Ya:type_of%@Option.some.injEq:=@Option.some.injEq
def Yb:type_of%@List.map_cons:=@List.map_cons
def Yc:type_of%@List.mem_cons_of_mem:=@List.mem_cons_of_mem
def Yd:type_of%@List.length_map:=@List.length_map
def Ye:type_of%@List.length_append:=@List.length_append
def Yf:type_of%@List.map_nil:=@List.map_nil
def Yg:type_of%@List.take_succ_eq_append_getElem:=@List.take_succ_eq_append_getElem
def Yh:type_of%@List.getElem_mem:=@List.getElem_mem
def Yi:type_of%@List.mem_map:=@List.mem_map
def Yj:type_of%@List.mem_singleton:=@List.mem_singleton
def Yk:type_of%@List.nodup_append:=@List.nodup_append
def Yl:type_of%@List.take_length:=@List.take_length
def Ym:type_of%@List.append_nil:=@List.append_nil
def Yn:type_of%@Int.toNat_natCast:=@Int.toNat_natCast
def Yo:type_of%@List.getElem_of_mem:=@List.getElem_of_mem
def Yp:type_of%@Option.map_some:=@Option.map_some
def Yq:type_of%@List.getElem?_eq_none:=@List.getElem?_eq_none
def Yr:type_of%@List.getElem?_set_self:=@List.getElem?_set_self
def Ys:type_of%@List.getElem?_set_ne:=@List.getElem?_set_ne
def Yt:type_of%@List.cons_append:=@List.cons_append
def Yu:type_of%@List.getElem?_append_left:=@List.getElem?_append_left
def Yv:type_of%@List.nil_append:=@List.nil_append
def Yw:type_of%@Array.length_toList:=@Array.length_toList
def Yx:type_of%@Nat.lt_or_ge:=@Nat.lt_or_ge
def Yy:type_of%@List.take_append_drop:=@List.take_append_drop
def Yz:type_of%@List.append_assoc:=@List.append_assoc
end Go
namespace Go
def I{p:Prop}(h:p:=by simp):p:=h
def X{p:Prop}(h:p:=by omega):p:=h
def kR{p:Prop}(h:p:=by kernel_rfl):p:=h
def sO{p:Prop}(h:p:=by(simp;omega)):p:=h
def dE{p:Prop}(h:p:=by decide):p:=h
end Go
namespace Go
@[simp]abbrev aT:List Nat:=[0,1,2,3,4,5,6,7,8,9,10,11,12,13,14,15,16,17,18,19,20,21,22,23,24,25,26,27,28]
@[simp]abbrev bC:List Nat:=[0,1,2,3,4,5,6,7,8,9,10,11,12,13,14,15,16,17,18,19,20,21,22,23,24,25,26]
@[simp]abbrev bB:List Nat:=[0,1,2,3,4,5,6,7,8,9,10,11,12,13,14,15,16,17,18,19,20,21,22,23]
@[simp]abbrev aY:List Nat:=[0,1,2,3,4,5,6,7,8,9,10,11,12,13,14,15,16,17,18,19]
@[simp]abbrev bA:List Nat:=[0,1,2,3,4,5,6,7,8,9,10,11,12,13,14,15,16,17,18]
@[simp]abbrev aP:List Nat:=[0,1,2,3,4,5,6,7,8,9,10,11,12,13,14,15,16,17]
@[simp]abbrev aF:List Nat:=[0,1,2,3,4,5,6,7,8,9,10,11,12,13,14,15,16]
@[simp]abbrev aZ:List Nat:=[0,1,2,3,4,5,6,7,8,9,10,11,12,13,14,15]
@[simp]abbrev aX:List Nat:=[0,1,2,3,4,5,6,7,8,9,10,11,12,13,14]
@[simp]abbrev aL:List Nat:=[0,1,2,3,4,5,6,7,8,9,10,11,12,13]
@[simp]abbrev aI:List Nat:=[0,1,2,3,4,5,6,7,8,9,10,11,12]
@[simp]abbrev aV:List Nat:=[0,1,2,3,4,5,6,7,8,9,10,11]
@[simp]abbrev aQ:List Nat:=[0,1,2,3,4,5,6,7,8,9,10]
@[simp]abbrev aJ:List Nat:=[0,1,2,3,4,5,6,7,8,9]
@[simp]abbrev aG:List Nat:=[0,1,2,3,4,5,6,7,8]
@[simp]abbrev aN:List Nat:=[0,1,2,3,4,5,6,7]
@[simp]abbrev aU:List Nat:=[0,1,2,3,4,5,6]
@[simp]abbrev aK:List Nat:=[0,1,2,3,4,5]
abbrev aA:=ByteArray
abbrev aB:=Option
end Go
open Go Go.Proofs
open Go.Proofs.Tryz
open ByteArray(empty)
open Go.IntKind(i64)
namespace Go.Am
section
def sU{p q:Prop}(h:p)(f:p->q:=by intro h;simpa using h):q:=f h
abbrev Zz:Nat:=2097152
inductive D where
 |int(k:IntKind)(n:Int)
 |bool(b:Bool)
 |str(s:ByteArray)
 |sl(xs:List (List D))
 |raw(v:Value)
 deriving Inhabited
abbrev aC:=List D
abbrev Z2:=Nat×Nat
abbrev CM:=Nat->Nat->aB Value
inductive Cap where
 |lab(l:Z2)
 |rp(cs:List D)
inductive C where
 |d(x:D)
 |own(l:Z2)(xs:List (List D))
 |nil
 |ptr(l:Z2)(off:Nat)
 |rp(cs:List D)
 |fn(f:FuncId)(caps:List Cap)
 |mrow(l:Z2)(off n cap:Nat)
 |z
 |any
 deriving Inhabited
abbrev aD:=List C
inductive V where
 |top
 |undef
 |one(c:C)
 |agg(cs:List C)
 |tup(vs:List V)
 deriving Inhabited
structure Env where
 n:Nat
 get:Nat->V
structure HS where
 a:Z2->Option (List C)
 arr:Z2->Option (Nat×Nat)
 p:Nat
def HS.init:HS:={a:=λ_=>none,arr:=λ_=>none,p:=0}
def Env.put(e:Env)(a:aB Nat)(v:V):Env:=
 match a with
 |none=>e
 |some d=>{e with get:=λk=>if k=d then v else e.get k}
def HS.xV(h:HS)(l:Z2)(cs:aD):HS:={h with a:=λk=>if k=l then some cs else h.a k}
def HS.qC(h:HS)(l:Z2)(x:aB (Nat×Nat)):HS:={h with arr:=λk=>if k=l then x else h.arr k}
def HS.w(h:HS):HS:={h with p:=h.p+1}
def DD(v:Value):C:=
 match v with
 | .int k n=>.d (.int k n)
 | .bool b=>.d (.bool b)
 | .string s=>.d (.str s)
 | .slice none 0 0=>.nil
 |v=>.d (.raw v)
def Mv(v:Value):V:=
 match v with
 | .agg cs=>if cs.all Value.oneCell' then .agg (cs.toList.map DD) else .top
 | .tuple _=>.top
 |v=>.one (DD v)
def Env.ev(e:Env):Operand->V
 | .tmp t=>e.get t
 | .const v=>Mv v
 | .global _=>.top
 | .func f=>.one (.fn f [])
def V.cells:V->aD
 | .one c=>[c]
 | .agg cs=>cs
 |_=>[]
def C.toD:C->aB D
 | .d x=>some x
 | .own _ xs=>some (.sl xs)
 | .nil=>some (.sl [])
 | .z=>some (.sl [])
 |_=>none
def C.qE:C->aB (List aC)
 | .d (.sl xs)=>some xs
 | .own _ xs=>some xs
 | .nil=>some []
 | .z=>some []
 |_=>none
def ZB:aD->aB aC
 |[]=>some []
 |c::cs=>match c.toD,ZB cs with
   |some x,some xs=>some (x::xs)
   |_,_=>none
def UW:TypeDesc->Bool
 | .struct _=>true
 | .array _ _=>true
 |_=>false
def W9(P:Program)(t:TypeId):aB (Bool×Nat):=
 match P.underlying t,P.info? t with
 |some d,some i=>some (UW d,i.size)
 |_,_=>none
def ZM(P:Program)(t:TypeId)(f:Nat):aB (Nat×Bool×Nat):=
 match P.underlying t with
 |some (.struct fs)=>match fs[f]? with
   |some x=>match W9 P x.type with
     |some (a,n)=>if n=0 then none else some (x.offset,a,n)
     |none=>none
   |none=>none
 |_=>none
def ZC(P:Program)(t:TypeId):aB (TypeId×Nat×Nat):=
 match P.underlying t with
 |some (.slice e)=>match P.info? e with
   |some i=>match i.zero with
     |some z=>if z.cells.size=i.size then some (e,i.size,i.bytes) else none
     |none=>none
   |none=>none
 |_=>none
def U1(P:Program)(t:TypeId):aB (List (Nat×Nat)):=
 match P.underlying t with
 |some (.struct fields)=>fields.toList.mapM (λf=>(P.info? f.type).map λi=>(f.offset,i.size))
 |_=>none
def W3(P:Program)(t:TypeId):aB aD:=
 match P.info? t with
 |some i=>match i.zero with
   |some z=>if z.cells.all Value.oneCell' then some (z.cells.toList.map DD) else none
   |none=>none
 |none=>none
def Fq(P:Program)(t:TypeId):aB (Nat×Nat):=
 match P.underlying t with
 |some (.array a el)=>match P.info? el with
   |some i=>some (a,i.size)
   |none=>none
 |_=>none
def BT(P:Program)(t:TypeId):Bool:=
 match P.underlying t with
 |some (.slice _)=>true
 |_=>false
def Ff(P:Program)(t:TypeId):Bool:=
 match P.underlying t with
 |some .string=>true
 |_=>false
def DV(a:Bool)(b:aD):aB V:=
 if a then some (.agg b) else
 match b with
 |[c]=>some (.one c)
 |_=>none
def Zs(n:Nat)(a:aD):aB aD:=if n<=a.length then some (a.take n) else none
def WD(k:IntKind)(n:Int):V:=.one (.d (.int k n))
def WH(b:Bool):V:=.one (.d (.bool b))
def Jx(s:aA):V:=.one (.d (.str s))
def Mo(c:BinOp)(k:IntKind)(a b:Int):aB V:=
 match c with
 | .add=>some (WD k (k.wrap (a+b)))
 | .sub=>some (WD k (k.wrap (a-b)))
 | .mul=>some (WD k (k.wrap (a*b)))
 | .rem=>if b=0 then none else some (WD k (a.tmod b))
 | .quo=>if b=0 then none else some (WD k (k.wrap (a.tdiv b)))
 | .shr=>if b<0 then none else some (WD k (a.fdiv (2^min b.toNat k.bits)))
 | .eql=>some (WH (a==b))
 | .neq=>some (WH (a !=b))
 | .lss=>some (WH (decide (a<b)))
 | .leq=>some (WH (decide (a<=b)))
 | .gtr=>some (WH (decide (a>b)))
 | .geq=>some (WH (decide (a≥b)))
 |_=>none
def Z9(a b:aA):Bool:=a.toList==b.toList
def AA(a b:aA):Bool:=Op.bytesLess a.toList b.toList
def Mm(c:BinOp)(a b:aA):aB V:=
 match c with
 | .add=>if a.size+b.size<=9223372036854775807 then some (Jx (a++b)) else none
 | .eql=>some (WH (Z9 a b))
 | .neq=>some (WH !(Z9 a b))
 | .lss=>some (WH (AA a b))
 | .leq=>some (WH (AA a b||Z9 a b))
 | .gtr=>some (WH !(AA a b||Z9 a b))
 | .geq=>some (WH !(AA a b))
 |_=>none
def Dz(P:Program)(t:TypeId):Bool:=
 match P.underlying t with
 |some .bool=>true
 |_=>false
def DU(e:Bool)(c:BinOp)(x y:V):aB V:=
 match x,y with
 | .one (.d (.int k a)),.one (.d (.int k' b))=>if k=k' then Mo c k a b else none
 | .one (.d (.str a)),.one (.d (.str b))=>Mm c a b
 | .one (.d (.bool a)),.one (.d (.bool b))=>if e=true then(match c with
   | .eql=>some (WH (a==b))
   | .neq=>some (WH (a !=b))
   |_=>none) else none
 |_,_=>none
def BL(h:HS)(c:C)(n:Nat):aB aD:=
 match c with
 | .ptr l off=>match h.a l with
   |some cs=>Zs n (cs.drop off)
   |none=>none
 | .rp cs=>Zs n (cs.map C.d)
 |_=>none
def AH(e:Env):aB Operand->aB (aB Nat)
 |none=>some none
 |some x=>match e.ev x with
   | .one (.d (.int _ k))=>if 0<=k then some (some k.toNat) else none
   |_=>none
def J7(n:Nat)(c:C)(e a b:aB Nat):aB C:=
 match c with
 | .mrow l off k cap=>if(e.getD 0<=a.getD k/\a.getD k<=b.getD cap)/\b.getD cap<=cap/\(b.isSome=true->a.isSome=true) then(if e.getD 0<b.getD cap then some (.mrow l (off+e.getD 0*n) (a.getD k-e.getD 0) (b.getD cap-e.getD 0)) else some .z) else none
 | .nil=>if e.getD 0=0/\a.getD 0=0/\b.getD 0=0/\(b.isSome=true->a.isSome=true) then some .nil else none
 | .z=>if e.getD 0=0/\a.getD 0=0/\b.getD 0=0/\(b.isSome=true->a.isSome=true) then some .z else none
 |c=>match c.qE with
   |some f=>if b=some 0 then(if e.getD 0=0/\a=some 0 then some .z else none) else
     if((e.getD 0<=a.getD f.length/\a.getD f.length<=f.length)/\(a.getD f.length<=b.getD f.length/\b.getD f.length<=f.length)/\(b.isSome=true->a.isSome=true))/\∀x∈f,x.length=n then some (.d (.sl ((f.take (a.getD f.length)).drop (e.getD 0)))) else none
   |none=>none
def Wz(h:HS)(n:Nat)(c:C):aB aD:=
 match c with
 | .mrow l off k _=>match h.a l with
   |some cs=>Zs (k*n) (cs.drop off)
   |none=>none
 |c=>match c.qE with
   |some a=>if∀x∈a,x.length=n then some (a.flatten.map C.d) else none
   |none=>none
def VW(h:HS)(n:Nat):C->aB (Nat×Nat×aD×aB (Z2×Nat))
 | .nil=>some (0,0,[],none)
 | .z=>some (0,0,[],none)
 | .mrow l off k a=>match Wz h n (.mrow l off k a) with
   |some b=>some (k,a,b,some (l,off))
   |none=>none
 |_=>none
def B9(e:Env)(n:Nat):List (Nat×Operand)->Nat->aB aD
 |[],_=>some []
 |(i,x)::r,k=>if i=k/\(e.ev x).cells.length=n then
   match B9 e n r (k+1) with
   |some cs=>some ((e.ev x).cells++cs)
   |none=>none
  else none
def Wd:C->aB Nat
 | .mrow _ _ k _=>some k
 |c=>match c.qE with
   |some xs=>some xs.length
   |none=>none
def ZH(P:Program)(o:Op)(e:Env)(h:HS):aB V:=
 match o with
 | .move x=>some (e.ev x)
 | .assign x=>some (e.ev x)
 | .pick c a b=>match e.ev c with
   | .one (.d (.bool t))=>some (if t then e.ev a else e.ev b)
   |_=>none
 | .binOp r t x y _=>DU (Dz P t) r (e.ev x) (e.ev y)
 | .unOp r _ x=>match r,e.ev x with
   | .not,.one (.d (.bool b))=>some (WH !b)
   |_,_=>none
 | .fieldAddr t x f=>match ZM P t f with
   |some (g,_,_)=>match e.ev x with
     | .one (.ptr l o)=>some (.one (.ptr l (o+g)))
     | .one (.rp cs)=>if g<cs.length then some (.one (.rp (cs.drop g))) else none
     |_=>none
   |none=>none
 | .field t x f=>match ZM P t f with
   |some (g,a,n)=>match e.ev x with
     | .agg cs=>match Zs n (cs.drop g) with
       |some l=>DV a l
       |none=>none
     |_=>none
   |none=>none
 | .load t x=>match W9 P t with
   |some (a,n)=>match e.ev x with
     | .one c=>match BL h c n with
       |some l=>DV a l
       |none=>none
     |_=>none
   |none=>none
 | .indexAddr t x i=>match ZC P t with
   |some (_,n,_)=>match e.ev x,e.ev i with
     | .one (.mrow l g m _),.one (.d (.int _ k))=>if 0<=k/\k.toNat<m/\0<n then some (.one (.ptr l (g+k.toNat*n))) else none
     | .one c,.one (.d (.int _ k))=>match c.qE with
       |some xs=>if 0<=k then match xs[k.toNat]? with
         |some y=>if y.length=n/\0<n then some (.one (.rp y)) else none
         |none=>none
        else none
       |none=>none
     |_,_=>none
   |none=>match Fq P t with
     |some (q,n)=>match e.ev x,e.ev i with
       | .one (.ptr l g),.one (.d (.int _ k))=>if 0<=k/\k<q then some (.one (.ptr l (g+k.toNat*n))) else none
       |_,_=>none
     |none=>none
 | .index t x i=>if Ff P t then match e.ev x,e.ev i with
   | .one (.d (.str s)),.one (.d (.int _ k))=>if 0<=k then match s[k.toNat]? with
     |some b=>some (WD .u8 b.toNat)
     |none=>none
    else none
   |_,_=>none
  else none
 | .slice t x p j mx=>match ZC P t with
   |some (_,n,_)=>match e.ev x,AH e p,AH e j,AH e mx with
     | .one c,some p,some j,some mx=>(J7 n c p j mx).map V.one
     |_,_,_,_=>none
   |none=>if Ff P t then match p,j,mx with
     |none,some y,none=>match e.ev x,e.ev y with
       | .one (.d (.str s)),.one (.d (.int _ k))=>if 0<=k/\k<=s.size then some (Jx (s.extract 0 k.toNat)) else none
       |_,_=>none
     |_,_,_=>none
     else none
 | .extract x i=>match e.ev x with
   | .tup vs=>vs[i]?
   |_=>none
 | .nilCheck x=>match e.ev x with
   | .one (.ptr l g)=>some (.one (.ptr l g))
   | .one (.rp cs)=>some (.one (.rp cs))
   |_=>none
 | .convert s t x=>match e.ev x with
   | .one (.d (.int _ n))=>match P.underlying s,P.underlying t with
     |some _,some (.int k)=>some (WD k (k.wrap n))
     |_,_=>none
   |_=>none
 | .makeFunc (.func f) first caps=>if first.isEmpty then
   match caps.toList.mapM (λx=>match e.ev x with| .one (.ptr l 0)=>some (Cap.lab l)| .one (.rp cs)=>some (Cap.rp cs)|_=>none) with
   |some l=>some (.one (.fn f l))
   |none=>none
  else none
 | .call c=>match c.callee,c.args.toList with
   | .builtin .max,[x,y]=>match e.ev x,e.ev y with
     | .one (.d (.int k a)),.one (.d (.int _ b))=>some (WD k (if b>a then b else a))
     |_,_=>none
   | .builtin .min,[x,y]=>match e.ev x,e.ev y with
     | .one (.d (.int k a)),.one (.d (.int _ b))=>some (WD k (if b<a then b else a))
     |_,_=>none
   |_,_=>none
 |_=>none
def Zi(a:aD)(o:Nat)(b:aD):aD:=a.take o++b++a.drop (o+b.length)
def Bb(b:List (Nat×Nat))(e:Env):List (Nat×Operand)->aD->aB aD
 |[],cs=>some cs
 |(f,x)::r,cs=>match b[f]? with
   |some (a,n)=>if(e.ev x).cells.length=n/\0<n/\a+n<=cs.length then Bb b e r (Zi cs a (e.ev x).cells) else none
   |none=>none
def CZ:aD->Bool
 |[.d _,.nil]=>true
 |_=>false
def DH(a:aD):aB aC:=if CZ a then none else ZB a
def PZ{a d}(h:DH a=some d):ZB a=some d:=by unfold DH at h;split at h;cases h;exact h
def Uw(e:Env)(n:Nat):List (Nat×Operand)->Nat->aB (List aC)
 |[],_=>some []
 |(i,x)::r,k=>if i=k/\(e.ev x).cells.length=n then
   match DH (e.ev x).cells,Uw e n r (k+1) with
   |some d,some ds=>some (d::ds)
   |_,_=>none
  else none
def F5(h:HS)(a:Nat):C->Bool
 | .nil=>true
 | .own l xs=>h.arr l==some (xs.length,a)
 |_=>false
def C.qH(h:HS):C->HS
 | .own l _=>h.qC l none
 |_=>h
inductive A where
 |d(x:D)
 |rp(cs:List D)
 |fn(f:FuncId)(caps:List (List D))
inductive AV where
 |one(a:A)
 |agg(ds:List D)
def DS(h:HS):Cap->aB aC
 | .lab l=>match h.a l with
   |some cs=>ZB cs
   |none=>none
 | .rp cs=>some cs
def VK(h:HS):List Cap->aB (List aC)
 |[]=>some []
 |c::r=>match DS h c,VK h r with
   |some x,some xs=>some (x::xs)
   |_,_=>none
def C.toA(h:HS):C->aB A
 | .d x=>some (.d x)
 | .own _ xs=>some (.d (.sl xs))
 | .nil=>some (.d (.sl []))
 | .z=>some (.d (.sl []))
 | .mrow _ _ _ _=>none
 | .any=>none
 | .ptr l 0=>match h.a l with
   |some cs=>(ZB cs).map A.rp
   |none=>none
 | .ptr _ _=>none
 | .rp cs=>some (.rp cs)
 | .fn f caps=>(VK h caps).map (A.fn f)
def V.toA(h:HS):V->aB AV
 | .one c=>(c.toA h).map AV.one
 | .agg cs=>(ZB cs).map AV.agg
 |_=>none
def Wi(h:HS):List V->aB (List AV)
 |[]=>some []
 |v::vs=>match v.toA h,Wi h vs with
   |some x,some xs=>some (x::xs)
   |_,_=>none
inductive RC where
 |d(x:D)
 |fresh(j es:Nat)(xs:List (List D))
inductive RV where
 |one(c:RC)
 |agg(cs:List RC)
 |tup(vs:List RV)
def RC.toC(b a:Nat):RC->C
 | .d x=>.d x
 | .fresh j _ xs=>.own (b,16*a+j+1) xs
def RV1.toV(b a:Nat):RV->V
 | .one c=>.one (c.toC b a)
 | .agg cs=>.agg (cs.map (RC.toC b a))
 | .tup _=>.top
def RV.toV(b a:Nat):RV->V
 | .tup vs=>.tup (vs.map (RV1.toV b a))
 |v=>RV1.toV b a v
def RC.fr:RC->List (Nat×Nat×Nat)
 | .d _=>[]
 | .fresh j a xs=>[(j,a,xs.length)]
def RV1.fr:RV->List (Nat×Nat×Nat)
 | .one c=>c.fr
 | .agg cs=>cs.flatMap RC.fr
 | .tup _=>[]
def RV.fr:RV->List (Nat×Nat×Nat)
 | .tup vs=>vs.flatMap RV1.fr
 |v=>RV1.fr v
def HS.qL(h:HS)(a:Nat):List (Nat×Nat×Nat)->HS
 |[]=>h
 |(j,b,n)::r=>(h.qC (h.p,16*a+j+1) (some (n,b))).qL a r
def Wu:List aC->List AV:=List.map λa=>AV.one (.rp a)
@[simp,reducible] def V.i(x:Int):V:=.one (.d (.int .i64 x))
@[simp,reducible] def V.b(x:Bool):V:=.one (.d (.bool x))
@[simp,reducible] def V.s(x:aA):V:=.one (.d (.str x))
@[simp,reducible] def V.l(x:List aC):V:=.one (.d (.sl x))
@[simp,reducible] def V.p(x:Z2):V:=.one (.ptr x 0)
@[simp,reducible] def AV.i(x:Int):AV:=.one (.d (.int .i64 x))
@[simp,reducible] def AV.b(x:Bool):AV:=.one (.d (.bool x))
@[simp,reducible] def AV.s(x:aA):AV:=.one (.d (.str x))
@[simp,reducible] def AV.l(x:List aC):AV:=.one (.d (.sl x))
@[simp,reducible] def RV.i(x:Int):RV:=.one (.d (.int .i64 x))
@[simp,reducible] def RV.b(x:Bool):RV:=.one (.d (.bool x))
@[simp,reducible] def RV.s(x:aA):RV:=.one (.d (.str x))
@[simp,reducible] def RV.l(x:List aC):RV:=.one (.d (.sl x))
@[simp,reducible] def C.i(x:Int):C:=.d (.int .i64 x)
@[simp,reducible] def C.b(x:Bool):C:=.d (.bool x)
@[simp,reducible] def C.s(x:aA):C:=.d (.str x)
@[simp,reducible] def C.l(x:List aC):C:=.d (.sl x)
@[simp,reducible] def A.i(x:Int):A:=.d (.int .i64 x)
@[simp,reducible] def A.b(x:Bool):A:=.d (.bool x)
@[simp,reducible] def A.s(x:aA):A:=.d (.str x)
@[simp,reducible] def A.l(x:List aC):A:=.d (.sl x)
@[simp,reducible] def RC.i(x:Int):RC:=.d (.int .i64 x)
@[simp,reducible] def RC.b(x:Bool):RC:=.d (.bool x)
@[simp,reducible] def RC.s(x:aA):RC:=.d (.str x)
@[simp,reducible] def RC.l(x:List aC):RC:=.d (.sl x)
end
section
open Go.RowKit (Below)
def BV(w:World):Prop:=6<=w.heap.size/\(∃T l,w.heap[1]?=some (.cells (Lib.pow10Tab.map λz=>Value.int .u64 z).toArray T l))/\(∃te a,w.cell? ⟨4,0,none⟩=some (.iface te a))/\(∃te a,w.cell? ⟨5,0,none⟩=some (.iface te a))/\(∃m,w.cell? ⟨0,0,none⟩=some (.int .i64 m))
def BV.below{w d:World}(h:BV w)(a:Below w.heap.size w d):BV d:=⟨YE h.1 a.size,(by obtain⟨T,l,q⟩:=h.2.1;exact⟨T,l,(a.block _ (by have:=h.1;omega)).trans q⟩),(by obtain⟨c,b,q⟩:=h.2.2.1;exact⟨c,b,(a.cell (by have:=h.1;show 4<_;omega)).trans q⟩),(by obtain⟨c,b,q⟩:=h.2.2.2.1;exact⟨c,b,(a.cell (by have:=h.1;show 5<_;omega)).trans q⟩),(by obtain⟨m,q⟩:=h.2.2.2.2;exact⟨m,(a.cell (by have:=h.1;show 0<_;omega)).trans q⟩)⟩
inductive RepD(m:CM):D->Value->Prop
 |int (k:IntKind) (n:Int):RepD m (.int k n) (.int k n)
 |bool (b:Bool):RepD m (.bool b) (.bool b)
 |str (s:ByteArray):RepD m (.str s) (.string s)
 |raw (v:Value) (h:v.oneCell'=true):RepD m (.raw v) v
 |sl (xs:List (List D)) (a:Option Addr) (cap es b off:Nat) (f:Nat->Nat->Value)
   (hl:xs.length<=Zz) (hc:xs.length<=cap) (hes:∀x∈xs,x.length=es) (ha:xs≠[]->a=some ⟨b,off,none⟩)
   (hcell:∀i x,xs[i]?=some x->∀j c,x[j]?=some c->m b (off+(i*es+j))=some (f i j))
   (hrep:∀i x,xs[i]?=some x->∀j c,x[j]?=some c->RepD m c (f i j)):RepD m (.sl xs) (.slice a xs.length cap)
structure Mem where
 cell:CM
 tmp:CM
 loc:Z2->Option (Option Nat×Nat)
def Vt(m:CM)(w:World):Prop:=∀b o v,m b o=some v->w.cell? ⟨b,o,none⟩=some v
def WL(m a:CM):Prop:=∀b o v,m b o=some v->a b o=some v
def Up(m t:CM)(d:aC)(v:Value):Prop:=
 ∃b a,v=.pointer (some ⟨b,a,none⟩)/\∀j c,d[j]?=some c->∃u,(m b (a+j)=some u\/t b (a+j)=some u)/\RepD m c u
def hdr(g:aB Nat)(n a:Nat):Value:=.slice (g.map λb=>⟨b,0,none⟩) n a
def BN(μ:Mem):Cap->Value->Prop
 | .lab l,v=>∃b n,μ.loc l=some (some b,n)/\v=.pointer (some ⟨b,0,none⟩)
 | .rp a,v=>Up μ.cell μ.tmp a v
def We(μ:Mem):C->Value->Prop
 | .d x,v=>RepD μ.cell x v
 | .own l m,v=>RepD μ.cell (.sl m) v/\∃g e,μ.loc l=some (g,e)/\v=hdr g m.length e
 | .nil,v=>v=.slice none 0 0
 | .ptr l j,v=>∃b n,μ.loc l=some (some b,n)/\v=.pointer (some ⟨b,j,none⟩)
 | .rp o,v=>Up μ.cell μ.tmp o v
 | .mrow l j n e,v=>∃b k,μ.loc l=some (some b,k)/\v=.slice (some ⟨b,j,none⟩) n e/\n<=e
 | .z,v=>∃a,v=.slice a 0 0
 | .any,v=>v.oneCell'=true
 | .fn f h,v=>∃vs:Array Value,v=.func (.func f) #[] vs/\vs.size=h.length/\∀(i:Nat) c,h[i]?=some c->∃u,vs[i]?=some u/\BN μ c u
def ZL(μ:Mem)(a:aD)(b:Array Value):Prop:=b.size=a.length/\∀(i:Nat) c,a[i]?=some c->∃u,b[i]?=some u/\We μ c u
def BO(μ:Mem):V->Value->Prop
 | .top,_=>True
 | .undef,v=>v=undef
 | .one c,v=>We μ c v
 | .agg a,v=>∃vs:Array Value,v=.agg vs/\ZL μ a vs
 | .tup _,_=>False
def W6(μ:Mem):V->Value->Prop
 | .tup a,v=>∃vs:Array Value,v=.tuple vs/\vs.size=a.length/\∀(i:Nat) x,a[i]?=some x->∃u,vs[i]?=some u/\BO μ x u
 |x,v=>BO μ x v
def ZF(μ:Mem)(e:Env)(a:Act):Prop:=a.defers=[]/\a.tmps.size=e.n/\∀k,W6 μ (e.get k) (a.tmps.getD k undef)
def DK(m:CM)(w:World)(d:Nat)(a:aB Nat×Nat)(c n:Nat):Prop:=
 (a.1=none->a.2=0/\n=0)/\∀g,a.1=some g->d<=g/\∃T b,w.heap[g]?=some (.cells b T (0,0))/\b.size=a.2*c/\n<=a.2/\a.2<=maxLen/\∀o,n*c<=o->m g o=none
structure Ctx where
 w0:World
 m0:CM
 t:CM
 glob:BV w0
def HS.live(h:HS)(l:Z2):Prop:=h.a l≠none\/h.arr l≠none
structure Inv(Γ:Ctx)(h:HS)(μ:Mem)(w:World):Prop where
 cell:Vt μ.cell w
 tmp:μ.tmp=Γ.t
 tcell:Vt Γ.t w
 told:∀b o v,Γ.t b o=some v->b<Γ.w0.heap.size
 ext:WL Γ.m0 μ.cell
 old:∀b o v,b<Γ.w0.heap.size->μ.cell b o=some v->Γ.m0 b o=some v
 below:Below Γ.w0.heap.size Γ.w0 w
 a:∀l cs,h.a l=some cs->∃b n T conc,μ.loc l=some (some b,n)/\Γ.w0.heap.size<=b/\w.heap[b]?=some (.cells conc T (0,0))/\ZL μ cs conc/\∀o,μ.cell b o=none
 arr:∀l es n,h.arr l=some (n,es)->∃gc,μ.loc l=some gc/\DK μ.cell w Γ.w0.heap.size gc es n
 inj:∀l l' b n n',h.live l->h.live l'->μ.loc l=some (some b,n)->μ.loc l'=some (some b,n')->l=l'
 lt:∀l,μ.loc l≠none->l.1<h.p
 both:∀l,h.a l≠none->h.arr l≠none->False
def Inv.glob{Γ h μ w}(a:Inv Γ h μ w):BV w:=Γ.glob.below a.below
structure Mem.Le(μ μ':Mem):Prop where
 cell:WL μ.cell μ'.cell
 tmp:μ'.tmp=μ.tmp
 loc:∀l x,μ.loc l=some x->μ'.loc l=some x
def Wy(P:Program)(c:Code)(Q:Exit->Env->HS->Prop)(e:Env)(h:HS):Prop:=
 ∀Γ a w μ,Inv Γ h μ w->ZF μ e a->
   c.wp P (λx b d=>∃e' h' μ',Q x e' h'/\Inv Γ h' μ' d/\ZF μ' e' b/\Mem.Le μ μ') a w
def MT(m t:CM):A->Value->Prop
 | .d x,v=>RepD m x v
 | .rp b,v=>Up m t b v
 | .fn f a,v=>∃vs:Array Value,v=.func (.func f) #[] vs/\vs.size=a.length/\∀(i:Nat) c,a[i]?=some c->∃u,vs[i]?=some u/\Up m t c u
def Fh(m:CM)(a:aC)(b:Array Value):Prop:=b.size=a.length/\∀(i:Nat) x,a[i]?=some x->∃u,b[i]?=some u/\RepD m x u
def DN(m t:CM):AV->Value->Prop
 | .one a,v=>MT m t a v
 | .agg b,v=>∃vs:Array Value,v=.agg vs/\Fh m b vs
def CE(m t:CM)(c:List AV)(b:Array Value):Prop:=b.size=c.length/\∀(i:Nat) a,c[i]?=some a->∃u,b[i]?=some u/\DN m t a u
def DM(m:CM)(a:Nat->aB Nat×Nat):RC->Value->Prop
 | .d x,v=>RepD m x v
 | .fresh j _ b,v=>RepD m (.sl b) v/\v=hdr (a j).1 b.length (a j).2
def CJ(m:CM)(a:Nat->aB Nat×Nat):RV->Value->Prop
 | .one c,v=>DM m a c v
 | .agg b,v=>∃vs:Array Value,v=.agg vs/\vs.size=b.length/\∀(i:Nat) c,b[i]?=some c->∃u,vs[i]?=some u/\DM m a c u
 | .tup _,_=>False
def BP(m:CM)(a:Nat->aB Nat×Nat):RV->Value->Prop
 | .tup b,v=>∃vs:Array Value,v=.tuple vs/\vs.size=b.length/\∀(i:Nat) x,b[i]?=some x->∃u,vs[i]?=some u/\CJ m a x u
 |x,v=>CJ m a x v
def F2(m:CM)(w d:World)(a:Nat->aB Nat×Nat)(c:List (Nat×Nat×Nat)):Prop:=
 (∀x∈c,DK m d w.heap.size (a x.1) x.2.1 x.2.2)/\∀x∈c,∀y∈c,∀b,(a x.1).1=some b->(a y.1).1=some b->x.1=y.1
def JD(P:Program)(f:FuncId):Prop:=∃fn,P.funcs[f]?=some fn/\(fn.name== "runtime.NumGoroutine")=false/\fn.body.isNone=false
def Zq(P:Program)(f:FuncId)(g:List AV)(r:RV):Prop:=
 JD P f/\∀w m t a,BV w->Vt m w->Vt t w->CE m t g a->
  Calls P f a w λe c=>∃v m' d,e=.returned v/\WL m m'/\(∀b o u,b<w.heap.size->m' b o=some u->m b o=some u)/\Vt m' c/\
   Below w.heap.size w c/\BP m' d r v/\F2 m' w c d r.fr
inductive Kd where
 |int(k:IntKind)|bool|str|other
 deriving DecidableEq
def Vd:D->Kd
 | .int k _=>.int k
 | .bool _=>.bool
 | .str _=>.str
 |_=>.other
def JG:D->D->Bool
 | .int _ a,.int _ b=>a==b
 | .bool a,.bool b=>a==b
 | .str a,.str b=>a==b
 |_,_=>false
def AP:aC->aC->Bool
 |[],[]=>true
 |a::x,b::y=>JG a b&&AP x y
 |_,_=>false
def Ux:List Kd->List Value->Prop
 |[],[]=>True
 | .int k::ks,v::vs=>(∃n,v=.int k n)/\Ux ks vs
 | .bool::ks,v::vs=>(∃b,v=.bool b)/\Ux ks vs
 | .str::ks,v::vs=>(∃s,v=.string s)/\Ux ks vs
 |_,_=>False
def F9:Value->Value->Bool
 | .int _ a,.int _ b=>a==b
 | .bool a,.bool b=>a==b
 | .string a,.string b=>a==b
 |_,_=>false
def Uk:List Value->List Value->Bool
 |[],[]=>true
 |a::x,b::y=>F9 a b&&Uk x y
 |_,_=>false
def Cf:BinOp->Bool
 | .eql=>true
 | .neq=>true
 |_=>false
def D0(P:Program)(t:TypeId)(a:List Kd):Prop:=
 ∀op vs us w x y,Cf op=true->Ux a vs->Ux a us->
   (do eqGuard op t x y (.agg vs.toArray) (.agg us.toArray);binOp op t (.agg vs.toArray) (.agg us.toArray)).run P w=.ok (.bool (if op=.neq then !(Uk vs us) else Uk vs us)) w
def Wh(o:Oper)(e:Env):Prop:=
 match o.dst with
 |none=>True
 |some d=>d<e.n
def Wc(o:Oper):Nat:=o.dst.getD 0
def Rs(P:Program)(f:FuncId)(a:List AV)(o:Oper)(e:Env)(h:HS)(K:Env->HS->Prop):Prop:=
 ∃r,Zq P f a r/\K (e.put o.dst (r.toV h.p (Wc o))) ((h.qL (Wc o) r.fr).w)
def J3(μ:Mem)(b:List V)(a:Array Value):Prop:=a.size=b.length/\∀(i:Nat) v,b[i]?=some v->∃u,a[i]?=some u/\W6 μ v u
def Z5(P:Program)(f:FuncId)(b:List V)(h:HS)(K:V->HS->Prop):Prop:=
 JD P f/\∀Γ μ w a,Inv Γ h μ w->J3 μ b a->
  Calls P f a w λe c=>∃u v h' μ',e=.returned u/\K v h'/\Inv Γ h' μ' c/\W6 μ' v u/\Mem.Le μ μ'
def Vf:Cap->V
 | .lab l=>.one (.ptr l 0)
 | .rp cs=>.one (.rp cs)
def Fg(P:Program)(f:FuncId)(b:List V)(h:HS)(v:V):Prop:=
 ∀Γ μ w a,Inv Γ h μ w->J3 μ b a->∃u,(callFunc f a).run P w=.ok (.value u) w/\W6 μ v u
def Zau(P:Program)(g:FuncId)(a:List Cap)(b:List V)(o:Oper)(e:Env)(h:HS)(K:Env->HS->Prop):Prop:=
 (∃ars c,Wi h b=some ars/\VK h a=some c/\Rs P g (ars++Wu c) o e h K)\/
 Z5 P g (b++a.map Vf) h (λv d=>K (e.put o.dst v) d)\/
 ∃v,Fg P g (b++a.map Vf) h v/\K (e.put o.dst v) h
def WN(P:Program)(t:TypeId):aB Bool:=
 match P.underlying t with
 |some (.slice _)=>some false
 |some .string=>some true
 |_=>none
def Cd(P:Program)(t:TypeId)(c:C)(o:Oper)(e:Env)(h:HS)(K:Env->HS->Prop):Prop:=
 match WN P t with
 |some true=>match c with
   | .d (.str s)=>K (e.put o.dst (WD .i64 s.size)) h
   |_=>False
 |some false=>match c with
   | .mrow _ _ n _=>K (e.put o.dst (WD .i64 n)) h
   |c=>match c.qE with
     |some xs=>xs.length<=Zz->K (e.put o.dst (WD .i64 xs.length)) h
     |none=>False
 |none=>False
def BF(P:Program)(t:TypeId)(c x:C)(d:Nat)(h:HS)(K:V->HS->Prop):Prop:=
 match ZC P t with
 |some (_,n,by_)=>match c.qE,x.qE with
   |some a,some b=>(F5 h n c=true/\0<n/\by_<=4096/\(∀y∈a,y.length=n)/\(∀y∈b,y.length=n)/\a.length+b.length<=Zz)/\
     K (.one (.own (h.p,16*d) (a++b))) (((c.qH h).qC (h.p,16*d) (some (a.length+b.length,n))).w)
   |_,_=>False
 |none=>False
def BE(P:Program)(t:TypeId)(s x:C)(d:Nat)(h:HS)(K:V->HS->Prop):Prop:=
 match ZC P t with
 |some (i,n,by_)=>match VW h n s,Wz h n x,Wd x with
   |some (k,c,f,pl),some e,some m=>((W3 P i).isSome=true/\0<n/\by_<=4096/\k+m<=Zz/\e.length=m*n/\f.length=k*n)/\
     (m=0->K (.one s) h)/\
     (0<m->k+m<=c->∀l b,pl=some (l,b)->∃g,h.a l=some g/\b+(k+m)*n<=g.length/\K (.one (.mrow l b (k+m) c)) (h.xV l (Zi g (b+k*n) e)))/\
     (0<m->c<k+m->∀a,k+m<=a->K (.one (.mrow (h.p,16*d) 0 (k+m) a)) ((h.xV (h.p,16*d) (f++e++List.replicate ((a-(k+m))*n) .any)).w))
   |_,_,_=>False
 |none=>False
def EI(P:Program)(t e:TypeId)(s x:C)(d:Nat)(h:HS)(K:V->HS->Prop):Prop:=
 (t≠e/\∃k,P.underlying e=some (.int k))/\
 match ZC P t with
 |some (c,n,by_)=>match s,x with
   | .nil,.d (.int _ m)=>((W3 P c).isSome=true/\0<n/\by_<=4096/\0<m/\m<=Zz)/\
     ∀a,m.toNat<=a->K (.one (.mrow (h.p,16*d) 0 m.toNat a)) ((h.xV (h.p,16*d) (List.replicate (a*n) .any)).w)
   | .mrow l off k b,.d (.int _ m)=>match Wz h n (.mrow l off k b) with
     |some old=>((W3 P c).isSome=true/\0<n/\by_<=4096/\0<m/\k+m<=Zz/\b<k+m.toNat/\old.length=k*n)/\
       ∀a,k+m.toNat<=a->K (.one (.mrow (h.p,16*d) 0 (k+m.toNat) a)) ((h.xV (h.p,16*d) (old++List.replicate ((a-k)*n) .any)).w)
     |none=>False
   |_,_=>False
 |none=>False
def GU(P:Program)(t:TypeId)(f e:V)(d:Nat)(h:HS)(K:V->HS->Prop):Prop:=
 match ZC P t with
 |some (c,n,by_)=>match W3 P c,f,e with
   |some z,.one (.d (.int _ a)),.one (.d (.int _ b))=>(0<=a/\a<=b/\b<=Zz/\by_<=4096/\0<n/\n<=8)/\
     K (.one (.mrow (h.p,16*d) 0 a.toNat b.toNat)) ((h.xV (h.p,16*d) (List.replicate b.toNat z).flatten).w)
   |_,_,_=>False
 |none=>False
def Ca(P:Program)(t:TypeId)(s x:C)(d:Nat)(h:HS)(K:V->HS->Prop):Prop:=
 match ZC P t with
 |some (_,n,_)=>match s,Wz h n x,Wd x with
   | .mrow l off k _,some a,some m=>match h.a l with
     |some cs=>(0<n/\a.length=m*n/\off+k*n<=cs.length)/\K (WD .i64 ((min m k:Nat):Int)) (h.xV l (Zi cs off (a.take (min m k*n))))
     |none=>False
   |_,_,_=>False
 |none=>False
def CA(P:Program)(t:TypeId)(s:C)(d:Nat)(h:HS)(K:V->HS->Prop):Prop:=
 match ZC P t with
 |some (a,n,_)=>match s,W3 P a with
   | .mrow l off k _,some z=>match h.a l with
     |some cs=>(0<n/\off+k*n<=cs.length)/\K .top (h.xV l (Zi cs off (List.replicate k z).flatten))
     |none=>False
   | .z,_=>K .top h
   | .nil,_=>K .top h
   |_,_=>False
 |none=>False
def DG(P:Program)(a:BinOp)(t:TypeId)(c:C)(K:V->Prop):Prop:=
 (Cf a=true/\∃d,P.underlying t=some (.slice d))/\
 match c with
 | .nil=>K (WH (if a=.neq then false else true))
 | .mrow _ _ _ _=>K (WH (if a=.neq then true else false))
 |c=>match c.qE with
   |some xs=>∀b:Bool,(xs≠[]->b=false)->K (WH (if a=.neq then !b else b))
   |none=>False
def J5(P:Program)(a:BinOp)(t:TypeId)(x:V)(K:V->Prop):Prop:=
 match x with
 | .one c=>DG P a t c K
 |_=>False
def Ui:Operand->Bool
 | .const (.slice none 0 0)=>true
 |_=>false
def Mz(P:Program)(t:TypeId)(c:C)(K:V->Prop):Prop:=
 (∃a,P.underlying t=some (.slice a))/\
 match c with
 | .nil=>K (WD .i64 0)
 | .z=>K (WD .i64 0)
 | .mrow _ _ _ cap=>K (WD .i64 cap)
 |_=>False
def Zl(P:Program)(o:Oper)(e:Env)(h:HS)(K:Env->HS->Prop):Prop:=
 match o.op with
 | .store t a x=>match W9 P t with
   |some (_,n)=>match e.ev a with
     | .one (.ptr l off)=>match h.a l with
       |some i=>((e.ev x).cells.length=n/\0<n/\off+n<=i.length)/\K (e.put o.dst .undef) (h.xV l (Zi i off (e.ev x).cells))
       |none=>False
     |_=>False
   |none=>False
 | .box _ x=>(e.ev x).cells≠[]/\K (e.put o.dst (.one (.ptr (h.p,16*Wc o) 0))) ((h.xV (h.p,16*Wc o) (e.ev x).cells).w)
 | .alloc t=>match W3 P t with
   |some i=>K (e.put o.dst (.one (.ptr (h.p,16*Wc o) 0))) ((h.xV (h.p,16*Wc o) i).w)
   |none=>False
 | .build t ps=>match W3 P t,U1 P t with
   |some z,some pl=>match Bb pl e ps.toList z with
     |some i=>K (e.put o.dst (.agg i)) h
     |none=>False
   |_,_=>False
 | .buildSlice t len ps=>match ZC P t with
   |some (_,n,_)=>match Uw e n ps.toList 0 with
     |some xs=>((xs.length=len/\0<n/\len<=64/\n<=64)/\K (e.put o.dst (.one (.own (h.p,16*Wc o) xs))) ((h.qC (h.p,16*Wc o) (some (len,n))).w))\/
       ((len=0/\ps.toList=[]/\0<n/\n<=64)/\K (e.put o.dst (.one .z)) h)
     |none=>match B9 e n ps.toList 0 with
       |some i=>(ps.toList.length=len/\0<n/\len<=64/\n<=64)/\K (e.put o.dst (.one (.mrow (h.p,16*Wc o) 0 len len))) ((h.xV (h.p,16*Wc o) i).w)
       |none=>False
   |none=>False
 | .binOp op t x y _=>if Ui y=true then J5 P op t (e.ev x) (λv=>K (e.put o.dst v) h) else match e.ev x,e.ev y with
   | .agg i,.agg cs'=>match ZB i,ZB cs' with
     |some a,some b=>(Cf op=true/\a.map Vd=b.map Vd/\Kd.other∉a.map Vd/\D0 P t (a.map Vd))/\K (e.put o.dst (WH (if op=.neq then !(AP a b) else AP a b))) h
     |_,_=>False
   |u,v=>match DU (Dz P t) op u v with
     |some r=>K (e.put o.dst r) h
     |none=>False
 | .makeSlice t l c=>GU P t (e.ev l) (e.ev c) (Wc o) h (λv d=>K (e.put o.dst v) d)
 | .call c=>match c.callee with
   | .value f=>match e.ev f with
     | .one (.fn g caps)=>Zau P g caps (c.args.toList.map e.ev) o e h K
     |_=>False
   | .builtin .len=>match c.args.toList.map e.ev,c.argTypes.toList with
     |[.one x],[t]=>Cd P t x o e h K
     |_,_=>False
   | .builtin .append=>match c.args.toList.map e.ev,c.argTypes.toList with
     |[.one s,.one x],[t,t']=>((t=t'\/BT P t'=true)/\(BF P t s x (Wc o) h (λv d=>K (e.put o.dst v) d)\/BE P t s x (Wc o) h (λv d=>K (e.put o.dst v) d)))\/
       EI P t t' s x (Wc o) h (λv d=>K (e.put o.dst v) d)
     |_,_=>False
   | .builtin .cap=>match c.args.toList.map e.ev,c.argTypes.toList with
     |[.one s],[t]=>Mz P t s (λv=>K (e.put o.dst v) h)
     |_,_=>False
   | .builtin .copy=>match c.args.toList.map e.ev,c.argTypes.toList with
     |[.one s,.one x],[t,t']=>(t=t'\/BT P t'=true)/\Ca P t s x (Wc o) h (λv d=>K (e.put o.dst v) d)
     |_,_=>False
   | .builtin .clear=>match c.args.toList.map e.ev,c.argTypes.toList with
     |[.one s],[t]=>CA P t s (Wc o) h (λv d=>K (e.put o.dst v) d)
     |_,_=>False
   |_=>match ZH P o.op e h with
     |some v=>K (e.put o.dst v) h
     |none=>False
 |_=>match ZH P o.op e h with
   |some v=>K (e.put o.dst v) h
   |none=>False
def AY(a:List Oper)(e:Env)(j:Nat):V:=
 match a[j]? with
 |some o=>match o.dst with
   |some d=>e.get d
   |none=>.undef
 |none=>.undef
def WX(P:Program)(a:List Oper):List Oper->Env->HS->(Env->HS->Prop)->Prop
 |[],e,h,K=>K e h
 |o::os,e,h,K=>Wh o e/\
   match o.guard with
   |none=>Zl P o e h λe h=>WX P a os e h K
   |some (j,want)=>match AY a e j with
     | .one (.d (.bool b))=>(b=want->Zl P o e h λe h=>WX P a os e h K)/\(b≠want->WX P a os (e.put o.dst .undef) h K)
     | .undef=>WX P a os (e.put o.dst .undef) h K
     |_=>False
def Vn(N:Env->HS->Prop)(Q:Exit->Env->HS->Prop):Exit->Env->HS->Prop
 | .normal,e,h=>N e h
 |x,e,h=>Q x e h
def DE(id:Nat)(Q:Exit->Env->HS->Prop):Exit->Env->HS->Prop
 | .exit a,e,h=>if a=id then Q .normal e h else Q (.exit a) e h
 |x,e,h=>Q x e h
def vc(P:Program):Code->(Exit->Env->HS->Prop)->Env->HS->Prop
 | .skip,Q,e,h=>Q .normal e h
 | .region _ ops false,Q,e,h=>WX P ops.toList ops.toList e h (Q .normal)
 | .seq a b,Q,e,h=>vc P a (Vn (λe h=>vc P b Q e h) Q) e h
 | .cond c a b,Q,e,h=>match e.ev c with
   | .one (.d (.bool t))=>(t=true->vc P a Q e h)/\(t=false->vc P b Q e h)
   |_=>False
 | .block id c,Q,e,h=>vc P c (DE id Q) e h
 | .exit id,Q,e,h=>Q (.exit id) e h
 | .ret,Q,e,h=>Q .ret e h
 |c,Q,e,h=>Wy P c Q e h
end
end Go.Am
section
namespace Go.Am
def Jp(T:TypeId->aC->Prop):List Field->aC->Prop
 |[],ds=>ds=[]
 |f::r,ds=>∃a b,ds=a++b/\T f.type a/\Jp T r b
def ZY(P:Program)(B:Nat):Nat->TypeId->aC->Prop
 |0,_,_=>False
 |n+1,t,ds=>match P.underlying t with
   |some .bool=>∃b,ds=[.bool b]
   |some (.int k)=>∃x,ds=[.int k x]/\(Lit.int k x).wf=true
   |some .string=>∃s,ds=[.str s]
   |some (.slice e)=>∃a,ds=[.sl a]/\a.length<=B/\∀x∈a,ZY P B n e x
   |some (.struct fs)=>Jp (ZY P B n) fs.toList ds
   |_=>False
def CH(P:Program):List Field->Nat->Nat->Bool
 |[],o,tot=>o==tot
 |f::r,o,tot=>f.offset==o&&CH P r (o+P.cellsOf f.type) tot
def RF(P:Program)(T:List TypeId):Bool:=T.all λt=>match P.underlying t with
 |some .bool|some (.int _)|some .string=>P.cellsOf t==1
 |some (.slice e)=>T.contains e&&decide (0<P.cellsOf e)&&(P.cellsOf t==1)
 |some (.struct fs)=>fs.toList.all (λf=>T.contains f.type)&&CH P fs.toList 0 (P.cellsOf t)
 |_=>false
def Ue(m:CM)(b:aC)(a:List Value):Prop:=a.length=b.length/\∀(i:Nat) x,b[i]?=some x->∃u,a[i]?=some u/\RepD m x u
def Ue.one{m:CM}{x:D}{u:Value}(h:RepD m x u):Ue m [x] [u]:=⟨rfl,λi y a=>by
 cases i with
 |zero=>cases a;exact⟨u,rfl,h⟩
 |succ i=>simp at a⟩
def Ue.nil{m:CM}:Ue m [] []:=⟨rfl,λi y a=>by simp at a⟩
def Ue.append{m:CM}{a b:aC}{x y:List Value}(h:Ue m a x)(k:Ue m b y):Ue m (a++b) (x++y):=by
 refine⟨by simp[h.1,k.1],λi z c=>?_⟩;rcases Yx i a.length with hl|hl;rw[Yu hl] at c;have⟨u,d,e⟩:=h.2 i z c;exact⟨u,by rw[Yu (by rwa [h.1])];exact d,e⟩;rw[YC hl] at c;have⟨u,d,e⟩:=k.2 _ z c;exact⟨u,by rw[YC (by rwa [h.1]),h.1];exact d,e⟩
def Ok{α:Type}{p:Nat->α->Prop}:∀(n:Nat),(∀i,i<n->∃x,p i x)->∃b:List α,b.length=n/\∀(i:Nat) x,b[i]?=some x->p i x
 |0,_=>⟨[],rfl,λi x h=>by simp at h⟩
 |n+1,h=>by
   have⟨b,c,e⟩:=Ok n λi d=>h i X;have⟨y,f⟩:=h n X;refine⟨b++[y],by simp[c],λi x a=>?_⟩;rcases Yx i b.length with hl|hl;rw[Yu hl] at a;exact e i x a;rw[YC hl] at a;have d:i=n:=by
    have:=(Y0.1 a).1
    simp at this;omega
   subst d;rw[c,Y3f] at a;cases a;exact f
def cellsOf(w:World):CM:=λb o=>w.cell? ⟨b,o,none⟩
open Go.Proofs.YtfhpobpaahhfbaaGreatDoor.Rows (uptoBulk uptoBulkAll)
def GF{H:Type}(d:DataW H):1<=uptoBulk d:=by
 cases d with
 |lit l=>cases l<;>simp[uptoBulk]
 |_=>simp[uptoBulk]
def Ql{H:Type}{d:DataW H}{l:List (DataW H)}(h:d∈l):uptoBulk d<=uptoBulkAll l:=by
 induction l with
 |nil=>cases h
 |cons x r ih=>?_
 simp only[uptoBulkAll];cases Y5.1 h with
 |inl e=>subst e;omega
 |inr e=>have:=ih e;omega
def Zaj{H:Type}(l:List (DataW H)):l.length<=uptoBulkAll l:=by
 induction l with
 |nil=>simp[uptoBulkAll]
 |cons x r ih=>have:=GF x;simp only[uptoBulkAll,YM];omega
mutual
def DT:D->Nat
 | .sl xs=>AM xs
 |_=>0
def AM:List aC->Nat
 |[]=>0
 |x::r=>1+WQ x+AM r
def WQ:aC->Nat
 |[]=>0
 |d::r=>DT d+WQ r
end
def On:∀a b:aC,WQ (a++b)=WQ a+WQ b
 |[],b=>by simp[WQ]
 |x::a,b=>by simp only[Yt,WQ,On a b];omega
def L4:∀xs:List aC,xs.length<=AM xs
 |[]=>by simp
 |x::r=>by have:=L4 r;simp only[AM,YM];omega
def Qn{H:Type}:∀(b:List aC) (a:List (DataW H)),b.length=a.length->(∀(i:Nat) x e,b[i]?=some x->a[i]?=some e->WQ x+1<=uptoBulk e)->AM b<=uptoBulkAll a
 |[],_,_,_=>by simp[AM]
 |_::_,[],c,_=>by simp at c
 |x::b,e::a,c,h=>by
   have h1:=h 0 x e rfl rfl;have h2:=Qn b a (sU c) λi y f g d=>h (i+1) y f (sU g) (sU d);simp only[AM,uptoBulkAll];omega
section
variable{H:Type}{enc:TypeId×Value->H}{P:Program}{w:World}{base:Nat}{sp:Nat->Bool}{held:Bool}{T:List TypeId}{B:Nat}
def OC(n:Nat)(c:Nat)(d:List Value)(J:d.length=c)
  (D:∀t d x,t∈T->DataW.trod enc P w base sp held n t d=some x->uptoBulk x.1<=B->∃e,Ue (cellsOf w) e d/\ZY P B n t e/\WQ e+1<=uptoBulk x.1):
  ∀(l:List Field) (j:List (DataW H×List MemPlace)) (o:Nat),CH P l o c=true->(∀f∈l,f.type∈T)->j.length=l.length->(∀(i:Nat) f,l[i]?=some f->DataW.trod enc P w base sp held n f.type ((d.drop f.offset).take (P.cellsOf f.type))=j[i]?)->
    (∀y∈j,uptoBulk y.1<=B)->o<=c->∃e,Ue (cellsOf w) e (d.drop o)/\Jp (ZY P B n) l e/\WQ e<=uptoBulkAll (j.map (·.1))
 |[],j,o,k,_,_,_,_,ho=>by
   simp only[CH,beq_iff_eq] at k;exact⟨[],by rw[YR (by omega)];exact Ue.nil,rfl,by simp[WQ]⟩
 |f::r,[],_,_,_,s,_,_,_=>by simp at s
 |f::r,y::j,o,k,v,s,A,C,ho=>by
   simp only[CH,YW,beq_iff_eq] at k;have⟨L,u⟩:=k;have m:=A 0 f rfl;simp only[List.getElem?_cons_zero] at m;rw[L] at m;have⟨a,E,K,ah⟩:=D _ _ _ (v f I) m (C y I);have F:o+P.cellsOf f.type<=c:=by
    have:∀(l:List Field) (o:Nat),CH P l o c=true->o<=c:=by
     intro l
     induction l with
     |nil=>intro o h;simp only[CH,beq_iff_eq] at h;omega
     |cons g l ihl=>intro o h;simp only[CH,YW] at h;have:=ihl _ h.2;omega
    exact this r _ u
   have⟨b,G,p,aj⟩:=OC n c d J D r j _ u (λg q=>v g (by simp[q])) (sU s) (λi g q=>by simpa using A (i+1) g (sU q)) (λz M=>C z (by simp[M])) F;refine⟨a++b,?_,⟨a,b,rfl,K,p⟩,by simp only[On,Yb,uptoBulkAll];omega⟩
   have:=E.append G
   rwa [<-Xr,Yy] at this
def Iv(hT:RF P T=true)(hB:B<=Zz):∀(n:Nat) (t:TypeId) (L:List Value) (x:DataW H×List MemPlace),t∈T->DataW.trod enc P w base sp held n t L=some x->uptoBulk x.1<=B->
  ∃g,Ue (cellsOf w) g L/\ZY P B n t g/\WQ g+1<=uptoBulk x.1:=by
 intro n
 induction n with
 |zero=>intro t L x _ h;simp[DataW.trod] at h
 |succ n ih=>?_
 intro t L x ht h hb;have C:=Xu.1 hT t ht;cases hu:P.underlying t with
 |none=>rw[hu] at C;cases C
 |some u=>?_
 rw[hu] at C;cases u with
 |bool=>?_
 |int k=>?_
 |string=>?_
 |slice e=>?_
 |struct fs=>?_
 |_=>cases C
 obtain⟨b,rfl,rfl⟩:=DataW.trod_bool hu h;exact⟨[.bool b],Ue.one (.bool b),by simp[ZY,hu],by simp only[WQ,DT];exact GF _⟩;obtain⟨v,rfl,rfl,hw⟩:=DataW.trod_int hu h;exact⟨[.int k v],Ue.one (.int k v),by simp only[ZY,hu];exact⟨v,rfl,hw⟩,by simp only[WQ,DT];exact GF _⟩;obtain⟨s,rfl,rfl,_⟩:=DataW.trod_string hu h;exact⟨[.str s],Ue.one (.str s),by simp[ZY,hu],by simp only[WQ,DT];exact GF _⟩;simp only[YW,decide_eq_true_eq,beq_iff_eq] at C;have⟨⟨he,aw⟩,_⟩:=C;have V:e∈T:=sU he;rcases DataW.trod_slice hu h with⟨rfl,rfl⟩|⟨a,F,R,d,rest,O,al,rfl,rfl,aq,au,ap,hlen,ag,_,_⟩;exact⟨[.sl []],Ue.one (.sl [] none 0 0 0 0 (λ_ _=>undef) I I I I I I),by simp only[ZY,hu];exact⟨[],rfl,I,I⟩,by simp only[WQ,DT,AM];exact GF _⟩;obtain rfl:O=n:=X
 have am:uptoBulkAll (d.map (·.1))<=B:=by simp only[uptoBulk] at hb;omega
 have ax:F<=B:=by
  have:=Zaj (d.map (·.1))
  simp at this;omega
 have ad:∀i,i<F->∃g:aC,g.length=P.cellsOf e/\(ZY P B O e g/\∀z,d[i]?=some z->WQ g+1<=uptoBulk z.1)/\∀(j:Nat) c,g[j]?=some c->∃u,w.cell? ((a.add (i*P.cellsOf e)).add j)=some u/\RepD (cellsOf w) c u:=by
  intro i N;have o:=ag i N;rw[Y1 X,Option.bind_eq_some_iff] at o;have⟨S,q,G⟩:=o;have ah:uptoBulk (d[i]'X).1<=B:=YE (Ql (Yi.2 ⟨_,Yh X,rfl⟩)) am;have⟨g,Q,h5,af⟩:=ih e S _ V G ah;have⟨_,h6,h7⟩:=World.cells?_some q;refine⟨g,by rwa [<-Q.1],⟨h5,λz J=>by rw[Y1 X] at J;cases J;exact af⟩,λj c hj=>?_⟩;have⟨u,h8,h9⟩:=Q.2 j c hj;have ar:=(Y0.1 h8).1;exact⟨u,by rwa [h7 j X],h9⟩
 have⟨l,aj,K⟩:=Ok F ad;have⟨b,A,E⟩:=a;have ab:l≠[]->E=none:=by intro m;have h0:0<l.length:=Y3g.2 m;have⟨o,_,q⟩:=K 0 _ (Y1 h0);have⟨u,G,_⟩:=q 0 _ (Y1 X);simpa[Addr.add] using World.cell?_spot G
 have ac:∀(i:Nat) x,l[i]?=some x->∀(j:Nat) c,x[j]?=some c->∃u,w.cell? ⟨b,A+(i*P.cellsOf e+j),none⟩=some u/\RepD (cellsOf w) c u:=by
  intro i x p j c M;have m:l≠[]:=by rintro rfl;simp at p
  obtain rfl:=ab m;have⟨_,_,q⟩:=K i x p;have⟨u,G,Q⟩:=q j c M;refine⟨u,?_,Q⟩;rw[<-G,WideShapes.add_plain,WideShapes.add_plain,Nat.add_assoc]
 refine⟨[.sl l],Ue.one ?_,by simp only[ZY,hu];exact⟨l,rfl,X,λx p=>by
  have⟨i,N⟩:=Xh p;exact(K i x N).2.1.1⟩,by
  have h9:=Qn l (d.map (·.1)) sO λi y f Z r=>by
   rw[Y9] at r;cases J:d[i]? with
   |none=>rw[J] at r;cases r
   |some z=>?_
   rw[J] at r;cases r;exact(K i y Z).2.1.2 z J
  simp only[WQ,DT,uptoBulk]
  omega⟩
 rw[<-aj];refine .sl l (some ⟨b,A,E⟩) R (P.cellsOf e) b A (λi j=>(w.cell? ⟨b,A+(i*P.cellsOf e+j),none⟩).getD undef) X X (λx p=>by
  have⟨i,N⟩:=Xh p;exact(K i x N).1) (λm=>by rw[ab m]) ?_ ?_
 intro i x p j c M;have⟨u,o,_⟩:=ac i x p j c M;simp[cellsOf,o];intro i x p j c M;have⟨u,o,q⟩:=ac i x p j c M;simpa[o] using q;simp only[YW] at C;have⟨ae,ak⟩:=C;obtain⟨l,O,al,rfl,ao,Y,r⟩:=DataW.trod_struct hu h;obtain rfl:O=n:=X
 have U:∀y∈l,uptoBulk y.1<=B:=by intro y Z;have o:=Ql (Yi.2 ⟨y,Z,rfl⟩:y.1∈l.map (·.1));simp only[uptoBulk] at hb;omega
 have⟨g,o,q,G⟩:=OC O (P.cellsOf t) L ao ih fs.toList l 0 ak (λf r=>by have:=Xu.1 ae f r;simpa using this) (sU Y) (λi f W=>r i f (sU W)) U (Y3y _);exact⟨g,sU o,by simp only[ZY,hu];exact q,by simp only[uptoBulk];omega⟩
end
end Go.Am
end
section
namespace Go.Am
open Go.RowKit (Below)
def WL.refl(m):WL m m:=λ_ _ _ h=>h
def WL.trans{a b c}(h:WL a b)(k:WL b c):WL a c:=λ_ _ _ x=>k _ _ _ (h _ _ _ x)
def RepD.mono{m d}(g:WL m d){x v}(h:RepD m x v):RepD d x v:=by
 induction h with
 |int k n=>exact .int k n
 |bool b=>exact .bool b
 |str s=>exact .str s
 |raw v h=>exact .raw v h
 |sl xs a cap es b off f hl hc hes ha hcell _ ih=>exact .sl xs a cap es b off f hl hc hes ha (λi x l j c e=>g _ _ _ (hcell i x l j c e)) ih
def RepD.jZ{m x v}(h:RepD m x v):v.oneCell'=true:=by
 cases h<;>first|rfl|assumption
def Mem.Le.refl(μ):Mem.Le μ μ:=⟨WL.refl _,rfl,λ_ _ h=>h⟩
def Mem.Le.trans{a b c}(h:Mem.Le a b)(k:Mem.Le b c):Mem.Le a c:=⟨h.cell.trans k.cell,k.tmp.trans h.tmp,λl x d=>k.loc l x (h.loc l x d)⟩
def Up.mono{m f t}(e:WL m f){d v}(h:Up m t d v):Up f t d v:=by
 have⟨b,a,n,g⟩:=h;refine⟨b,a,n,λj c i=>?_⟩;have⟨u,l,k⟩:=g j c i;exact⟨u,l.imp (e _ _ _) id,k.mono e⟩
section
variable{μ μ':Mem}
def BN.mono(a:Mem.Le μ μ'){c:Cap}{v}(h:BN μ c v):BN μ' c v:=by
 cases c with
 |lab l=>have⟨b,n,d,e⟩:=h;exact⟨b,n,a.loc _ _ d,e⟩
 |rp cs=>simp only[BN] at h|-;rw[a.tmp];exact h.mono a.cell
def We.mono(a:Mem.Le μ μ'){c:C}{v}(h:We μ c v):We μ' c v:=by
 cases c with
 |d x=>exact RepD.mono a.cell h
 |own l xs=>have⟨e,g,m,j,o⟩:=h;exact⟨e.mono a.cell,g,m,a.loc _ _ j,o⟩
 |nil=>exact h
 |ptr l off=>have⟨b,n,e,j⟩:=h;exact⟨b,n,a.loc _ _ e,j⟩
 |rp cs=>simp only[We] at h|-;rw[a.tmp];exact h.mono a.cell
 |mrow l off n m=>have⟨b,k,e,j⟩:=h;exact⟨b,k,a.loc _ _ e,j⟩
 |z=>exact h
 |any=>exact h
 |fn f caps=>?_
 have⟨s,e,j,o⟩:=h;refine⟨s,e,j,λi c p=>?_⟩;have⟨u,r,q⟩:=o i c p;exact⟨u,r,q.mono a⟩
def ZL.mono(e:Mem.Le μ μ'){a b}(h:ZL μ a b):ZL μ' a b:=
 ⟨h.1,λi c d=>let⟨u,g,f⟩:=h.2 i c d;⟨u,g,f.mono e⟩⟩
def BO.mono(a:Mem.Le μ μ'){x v}(h:BO μ x v):BO μ' x v:=by
 cases x with
 |top=>trivial
 |undef=>exact h
 |one c=>exact We.mono a h
 |agg cs=>have⟨b,d,e⟩:=h;exact⟨b,d,e.mono a⟩
 |tup b=>exact h.elim
def W6.mono(d:Mem.Le μ μ'){x v}(h:W6 μ x v):W6 μ' x v:=by
 cases x with
 |tup xs=>?_
 |top=>trivial
 |undef=>exact h
 |one c=>exact We.mono d h
 |agg cs=>have⟨e,a,b⟩:=h;exact⟨e,a,b.mono d⟩
 have⟨e,a,b,f⟩:=h;refine⟨e,a,b,λi x g=>?_⟩;have⟨u,k,j⟩:=f i x g;exact⟨u,k,j.mono d⟩
def ZF.mono(b:Mem.Le μ μ'){e a}(h:ZF μ e a):ZF μ' e a:=⟨h.1,h.2.1,λk=>(h.2.2 k).mono b⟩
def ZF.put{e a}(h:ZF μ e a){b v u}(f:∀d,b=some d->d<e.n)(g:W6 μ v u):ZF μ (e.put b v) (a.put b u):=by
 cases b with
 |none=>exact h
 |some d=>?_
 refine⟨h.1,by simpa[Act.put,Env.put] using h.2.1,λk=>?_⟩;have c:=f d rfl;rw[<-h.2.1] at c;simp only[Env.put,Act.put];by_cases hk:k=d;subst hk;simpa[c] using g
 have:=h.2.2 k
 simp only[hk,if_false];simpa[Array.getElem?_setIfInBounds,Ne.symm hk] using this
end
def KF(μ v)(h:v.oneCell'=true):We μ (DD v) v:=by unfold DD;split;exact .int _ _;exact .bool _;exact .str _;rfl;exact RepD.raw _ h
def Z60(μ v):W6 μ (Mv v) v:=by
 unfold Mv;split;rename_i e;split;rename_i a;refine⟨e,rfl,I,λi c b=>?_⟩;rw[Y9] at b;cases hc:e[i]? with
 |none=>simp[hc] at b
 |some u=>?_
 simp[hc] at b;refine⟨u,rfl,?_⟩;rw[<-b];refine KF μ u ?_;rw[Array.all_eq_true] at a;have⟨d,f⟩:=YQ.1 hc;rw[<-f];exact a i d;trivial;trivial;refine KF μ v ?_;cases v<;>simp_all [Value.oneCell']
def ZT{μ e a}(h:ZF μ e a)(x):W6 μ (e.ev x) (a.eval x):=by
 cases x with
 |tmp t=>exact h.2.2 t
 |const v=>exact Z60 μ v
 |global g=>trivial
 |func f=>exact⟨#[],rfl,I,λi c b=>by simp at b⟩
def Uj{μ c v x}(h:We μ c v)(a:c.toD=some x):RepD μ.cell x v:=by
 cases c with
 |d y=>simp[C.toD] at a;subst a;exact h
 |own l xs=>simp[C.toD] at a;subst a;exact h.1
 |nil=>?_
 |z=>?_
 |mrow l o n cap=>simp[C.toD] at a
 |any=>simp[C.toD] at a
 |ptr l o=>simp[C.toD] at a
 |rp cs=>simp[C.toD] at a
 |fn f caps=>simp[C.toD] at a
 simp[C.toD] at a;subst a;have e:=h;subst e;exact .sl [] none 0 0 0 0 (λ_ _=>undef) I I I I I I;simp[C.toD] at a;subst a;obtain⟨b,rfl⟩:=h;exact .sl [] b 0 0 0 0 (λ_ _=>undef) I I I I I I
def C8{c:C}{a}(h:c.qE=some a):c.toD=some (.sl a):=by
 cases c with
 |d y=>cases y<;>simp_all [C.qE,C.toD]
 |_=>simp_all [C.qE,C.toD]
def RepD.slice{m d v}(h:RepD m (.sl d) v):∃a c,v=.slice a d.length c/\d.length<=c/\d.length<=Zz:=by
 cases h with
 |sl d a c es b off f g e hes ha hcell hrep=>exact⟨a,c,rfl,e,g⟩
def RepD.elem{m k v}(h:RepD m (.sl k) v){i:Nat}{x}(l:k[i]?=some x):
  ∃b d g,v=.slice (some ⟨b,d,none⟩) k.length g/\∀j c,x[j]?=some c->∃u,m b (d+(i*x.length+j))=some u/\RepD m c u:=by
 cases h with|sl k a g es b d f hl hc hes ha hcell hrep=>?_;have n:k≠[]:=by intro e;subst e;simp at l
 have p:=hes x (Y2 l);refine⟨b,d,g,by rw[ha n],λj c o=>?_⟩;rw[p];exact⟨f i j,hcell i x l j c o,hrep i x l j c o⟩
def We.one{μ c v}(h:We μ c v):v.oneCell'=true:=by
 cases c with
 |d x=>exact RepD.jZ h
 |own l xs=>exact h.1.jZ
 |nil=>have a:=h;subst a;rfl
 |ptr l o=>obtain⟨_,_,_,rfl⟩:=h;rfl
 |mrow l o n cap=>obtain⟨_,_,_,rfl,_⟩:=h;rfl
 |z=>obtain⟨_,rfl⟩:=h;rfl
 |any=>exact h
 |rp cs=>obtain⟨_,_,rfl,_⟩:=h;rfl
 |fn f caps=>obtain⟨_,rfl,_⟩:=h;rfl
def Z7z{v:Value}(h:v.oneCell'=true):v.cells=#[v]:=by
 cases v<;>simp_all [Value.cells,Value.oneCell']
def Gv{μ:Mem}{x v}(h:W6 μ x v)(a:x.cells≠[]):ZL μ x.cells v.cells:=by
 cases x with
 |one c=>?_
 |agg cs=>obtain⟨e,rfl,d⟩:=h;exact d
 |top=>simp[V.cells] at a
 |undef=>simp[V.cells] at a
 |tup e=>simp[V.cells] at a
 rw[Z7z (We.one h)];refine⟨by simp[V.cells],λi c' b=>?_⟩;cases i with
 |zero=>simp[V.cells] at b;subst b;exact⟨v,I,h⟩
 |succ i=>simp[V.cells] at b
def ZL.all{μ cs vs}(h:ZL μ cs vs):∀v∈vs.toList,v.oneCell'=true:=by
 intro v g;have⟨i,e,d⟩:=Yo g;have a:i<vs.size:=sU e;have c:i<cs.length:=by rw[<-h.1];exact a
 have⟨u,b,f⟩:=h.2 i cs[i] (Y1 c)
 have:vs[i]?=some v:=by rw[Xo a];simpa using d
 rw[this] at b;cases b;exact f.one
def Ob{a}:∀{b:aC},ZB a=some b->b.length=a.length:=by
 induction a with
 |nil=>intro b h;simp[ZB] at h;subst h;rfl
 |cons c a ih=>?_
 intro b h;simp only[ZB] at h;split at h;rename_i x xs _ d;injection h with h;subst h;simp[ih d]
 cases h
def Z9j{b}:∀{d:aC},ZB b=some d->∀(i:Nat) x,d[i]?=some x->∃c,b[i]?=some c/\c.toD=some x:=by
 induction b with
 |nil=>intro d h i x a;simp[ZB] at h;subst h;simp at a
 |cons c b ih=>?_
 intro d h i x a;simp only[ZB] at h;split at h;rename_i y ys k e;injection h with h
 subst h;cases i with
 |zero=>simp at a;subst a;exact⟨c,I,k⟩
 |succ i=>simp at a;have⟨f,g,j⟩:=ih e i x a;exact⟨f,sU g,j⟩
 cases h
def Gw{μ cs vs ds}(h:ZL μ cs vs)(a:ZB cs=some ds):Fh μ.cell ds vs:=by
 refine⟨by rw[h.1,Ob a],λi x g=>?_⟩;have⟨c,d,b⟩:=Z9j a i x g;have⟨u,f,e⟩:=h.2 i c d;exact⟨u,f,Uj e b⟩
end Go.Am
end
section
namespace Go.Am
open Go.RowKit (Below)
def Wa(P:Program)(o:Oper)(a:Act)(w:World)(u:Value):Prop:=(execOp a.eval o).run P w=.ok (.value u) w
def UN(b a n:Nat):(⟨b,a,none⟩:Addr).add n=⟨b,a+n,none⟩:=by unfold Addr.add;split;rename_i c;subst c;rfl;rfl
def RepD.qO{m k}{n:Int}{v}(h:RepD m (.int k n) v):v=.int k n:=by cases h;rfl
def RepD.jF{m b v}(h:RepD m (.bool b) v):v=.bool b:=by cases h;rfl
def RepD.qR{m s v}(h:RepD m (.str s) v):v=.string s:=by cases h;rfl
def Qc{P}{t f c n:Nat}{g}(h:ZM P t f=some (c,g,n)):
  ∃e a d i,P.underlying t=some (.struct e)/\e[f]?=some a/\a.offset=c/\P.underlying a.type=some d/\UW d=g/\P.info? a.type=some i/\i.size=n/\n≠0:=by
 unfold ZM at h;split at h;rename_i e m;split at h;rename_i a k;split at h;rename_i aa n' b;unfold W9 at b;split at b;rename_i d i j l;simp only[Ya,YG] at b;split at h;cases h;rename_i hn;simp only[Ya,YG] at h;exact⟨e,a,d,i,m,k,h.1,j,by rw[b.1,h.2.1],l,by rw[b.2,h.2.2],by rwa [<-h.2.2]⟩;cases b;cases h;cases h;cases h
def Lw{P}{t n:Nat}{a}(h:W9 P t=some (a,n)):∃d i,P.underlying t=some d/\UW d=a/\P.info? t=some i/\i.size=n:=by unfold W9 at h;split at h;rename_i d i b c;simp only[Ya,YG] at h;exact⟨d,i,b,h.1,c,h.2⟩;cases h
def Ae{P}{t e n b:Nat}(h:ZC P t=some (e,n,b)):∃i z,P.underlying t=some (.slice e)/\P.info? e=some i/\i.size=n/\i.bytes=b/\i.zero=some z/\z.cells.size=n:=by unfold ZC at h;split at h;rename_i e' g;split at h;rename_i i f;split at h;rename_i z j;split at h;rename_i c;simp only[Ya,YG] at h;obtain⟨rfl,a,d⟩:=h;exact⟨i,z,g,f,a,d,j,by rw[c,a]⟩;cases h;cases h;cases h;cases h
def Cr{P w}{t:Nat}{d}(h:P.underlying t=some d):(isAgg t).run P w=.ok (UW d) w:=by unfold isAgg;simp only[Sem.run_bind,run_underlying h,Result.andThen_ok];cases d<;>rfl
def Ge{n:Nat}{a l}(h:Zs n a=some l):n<=a.length/\l=a.take n:=by unfold Zs at h;split at h;rename_i b;exact⟨b,by injection h with h;exact h.symm⟩;cases h
def At(μ:Mem)(w:World)(b a:Nat)(d:aD):Prop:=∀j c,d[j]?=some c->∃u,w.cell? ⟨b,a+j,none⟩=some u/\We μ c u
section
variable{P:Program}{o:Oper}{a:Act}{w:World}{e:Env}{h:HS}{μ:Mem}{Γ:Ctx}
def O0(g:Inv Γ h μ w){c v}{n:Nat}{l}(o:We μ c v)(f:BL h c n=some l):
  l.length=n/\∃b d,v=.pointer (some ⟨b,d,none⟩)/\At μ w b d l:=by
 unfold BL at f;split at f;rename_i z d;split at f;rename_i m r;obtain⟨t,rfl⟩:=Ge f;obtain⟨b,_,p,rfl⟩:=o;have⟨b',_,T,conc,i,_,s,q,_⟩:=g.a z m r;rw[p] at i;simp only[Ya,YG] at i;obtain⟨rfl,_⟩:=i;refine⟨by simp only[YA];omega,b,d,rfl,λj c a=>?_⟩;rw[Xk] at a;split at a;rw[YO] at a;have⟨u,e,k⟩:=q.2 _ _ a;exact⟨u,by simp[World.cell?,s,e],k⟩;cases a;cases f;rename_i m;obtain⟨t,rfl⟩:=Ge f;obtain⟨b,d,rfl,y⟩:=o;refine⟨by simp only[YA];omega,b,d,rfl,λj c a=>?_⟩;rw[Xk] at a;split at a;rw[Y9] at a;cases hx:m[j]? with
 |none=>simp[hx] at a
 |some x=>?_
 simp[hx] at a;subst a;have⟨u,e,k⟩:=y j x hx;refine⟨u,?_,k⟩;rcases e with e|e;exact g.cell _ _ _ e;rw[g.tmp] at e;exact g.tcell _ _ _ e;cases a;cases f
def At.list{b a:Nat}{e}(h:At μ w b a e):∃g:List Value,g.length=e.length/\ZL μ e g.toArray/\∀j v,g[j]?=some v->w.cell? ((⟨b,a,none⟩:Addr).add j)=some v:=by
 induction e generalizing a with
 |nil=>exact⟨[],rfl,⟨rfl,λi c f=>by simp at f⟩,λj v d=>by simp at d⟩
 |cons c e ih=>?_
 have⟨u,m,k⟩:=h 0 c I;obtain⟨g,l,p,q⟩:=ih (λj c d=>by have⟨u,m,k⟩:=h (j+1) c (sU d);exact⟨u,by rwa [show a+1+j=a+(j+1) by omega],k⟩);refine⟨u::g,by simp[l],⟨by simp[l],λi o f=>?_⟩,λj v d=>?_⟩;cases i with
 |zero=>simp at f;subst f;exact⟨u,I,k⟩
 |succ i=>?_
 have⟨x,r,n⟩:=p.2 i o (sU f);exact⟨x,sU r,n⟩;cases j with
 |zero=>simp at d;subst d;simpa[UN] using m
 |succ j=>?_
 have:=q j v (sU d)
 rw[UN] at this|-
 rwa [show a+(j+1)=a+1+j by omega]
def LA{b g e v}(f:ZL μ g b.toArray)(a:DV e g=some v):
  (e=true->W6 μ v (.agg b.toArray))/\(e=false->∃u,b=[u]/\W6 μ v u):=by
 unfold DV at a;refine⟨λd=>?_,λd=>?_⟩;subst d;simp at a;subst a;exact⟨b.toArray,rfl,f⟩;subst d;simp only[YX,if_false] at a;split at a;rename_i c;injection a with a
 subst a;have⟨u,h,j⟩:=f.2 0 c I;have i:b.length=1:=sU f.1
 match b,i with
 |[u'],_=>simp at h;subst h;exact⟨_,rfl,j⟩
 cases a
def Z5w(H:Inv Γ h μ w)(G:ZF μ e a){t}{x:Operand}(s:o.op=.load t x){v}(f:ZH P (.load t x) e h=some v):
  ∃u,Wa P o a w u/\W6 μ v u:=by
 have y:=ZT G x;simp only[ZH] at f;split at f;rename_i A n z;have⟨d,i,r,p,L,M⟩:=Lw z;split at f;rename_i c K;rw[K] at y;split at f;rename_i l N;have⟨B,b,j,m,F⟩:=O0 H (show We μ c _ from y) N;have⟨O,E,J,k⟩:=F.list;have q:=LA J f;cases g:A with|true=>?_|false=>?_;refine⟨_,?_,q.1 g⟩
 have:=run_loadCells_list (P:=P) w ⟨b,j,none⟩ O k
 unfold Wa;simp[execOp,s,m,Instr.loadAt,Instr.sureAddr,loadVar,Cr r,p,g,sizeOf,typeInfo,L,M,<-B,<-E,this];have⟨u,D,C⟩:=q.2 g;refine⟨u,?_,C⟩;subst D
 have:=k 0 u I
 rw[UN] at this;unfold Wa;simp only[Xl] at this;simp[execOp,s,m,Instr.loadAt,Instr.sureAddr,loadVar,Cr r,p,g,run_load,this];cases f;cases f;cases f
def Z3q(l:ZF μ e a){p t B x y}(g:o.op=.binOp p t x y B){v}(b:DU (Dz P t) p (e.ev x) (e.ev y)=some v):
  ∃u,Wa P o a w u/\W6 μ v u:=by
 have h:=ZT l x;have i:=ZT l y;generalize e.ev x=xq0 at h b;generalize e.ev y=yq0 at i b;unfold DU at b;split at b
 .rename_i k n k' n';have c:=RepD.qO h;have d:=RepD.qO i;split at b
  .rename_i r;subst r;unfold Mo at b;split at b<;>first|(cases b;done)|(injection b with b;subst b;refine⟨_,?_,by first|exact RepD.int _ _|exact RepD.bool _⟩;unfold Wa;simp[execOp,g,c,d,eqGuard,binOp,Op.intCmp,Op.intArith])|(split at b<;>first|(cases b;done)|(rename_i m;injection b with b;subst b;refine⟨_,?_,RepD.int _ _⟩;unfold Wa;simp[execOp,g,c,d,eqGuard,binOp,Op.intDiv,Op.shift,m]))
  cases b
 .rename_i s f;have c:=RepD.qR h;have d:=RepD.qR i;unfold Mm at b;split at b<;>first|(cases b;done)|(injection b with b;subst b;refine⟨_,?_,RepD.bool _⟩;unfold Wa;simp[execOp,g,c,d,eqGuard,binOp,Op.stringOp,Z9,AA])|(split at b<;>first|(cases b;done)|(rename_i m;have q:¬(((s.size+f.size:Nat):Int)>IntKind.i64.max):=(by show¬(((s.size+f.size:Nat):Int)>9223372036854775807);omega);injection b with b;subst b;refine⟨_,?_,RepD.str _⟩;unfold Wa;simp only[execOp,g,c,d,eqGuard,binOp,Op.stringOp];rw[if_neg q];rfl))
 .rename_i s f;have c:=RepD.jF h;have d:=RepD.jF i;split at b
  .rename_i j;have A:P.underlying t=some .bool:=by unfold Dz at j;split at j;assumption;cases j
   have z:∀w,(Op.equalIn Op.maxDepth t (.bool s) (.bool f)).run P w=.ok (s==f) w:=λw=>run_equalIn_bool' w 9999 t s f A;split at b<;>first|(cases b;done)|(injection b with b;subst b;refine⟨_,?_,RepD.bool _⟩;unfold Wa;simp[execOp,g,c,d,eqGuard,binOp,Op.equal,z];try (cases s<;>cases f<;>rfl))
  cases b
 cases b
def Z1i(I:ZF μ e a){t f:Nat}{x}(N:o.op=.fieldAddr t x f){v}(g:ZH P (.fieldAddr t x f) e h=some v):
  ∃u,Wa P o a w u/\W6 μ v u:=by
 have s:=ZT I x;simp only[ZH] at g;split at g;rename_i r ag n G;have⟨fs,fd,d,i,A,K,D,_,_,L,M,F⟩:=Qc G;have q:∀b k,a.eval x=.pointer (some ⟨b,k,none⟩)->Wa P o a w (.pointer (some ⟨b,k+r,none⟩)):=by
  intro b k p;have E:i.size≠0:=by rw[M];exact F
  unfold Wa;simp[execOp,N,p,Instr.fieldAt,run_underlying A,K,Instr.sureAddr,fieldPlace,sizeOf,typeInfo,L,E,UN,D]
 split at g;rename_i l B y;rw[y] at s;injection g with g
 subst g;have⟨b,m,C,p⟩:=(show We μ (.ptr l B) _ from s);exact⟨_,q b B p,b,m,C,rfl⟩;rename_i H y;rw[y] at s;split at g;rename_i hlt;injection g with g
 subst g;have⟨b,k,p,J⟩:=(show We μ (.rp H) _ from s);refine⟨_,q b k p,b,k+r,rfl,λj c z=>?_⟩;rw[YO] at z;have⟨u,A,O⟩:=J _ _ z;exact⟨u,by rwa [Nat.add_assoc],O⟩;cases g;cases g;cases g
def Z3p(Q:ZF μ e a){t f:Nat}{x}(F:o.op=.field t x f){v}(g:ZH P (.field t x f) e h=some v):
  ∃u,Wa P o a w u/\W6 μ v u:=by
 have G:=ZT Q x;simp only[ZH] at g;split at g;rename_i b I n O;have⟨fs,fd,d,i,q,E,s,D,z,k,R,_⟩:=Qc O;split at g;rename_i B J;rw[J] at G;split at g;rename_i l T;obtain⟨_,rfl⟩:=Ge T;have⟨j,y,C⟩:=(show∃j:Array Value,a.eval x=.agg j/\ZL μ B j from G);have N:ZL μ ((B.drop b).take n) ((j.toList.drop b).take n).toArray:=by
  refine⟨by simp[C.1],λi c k=>?_⟩;rw[Xk] at k;split at k;rw[YO] at k;have⟨u,q,S⟩:=C.2 _ _ k;refine⟨u,?_,S⟩;rename_i M;simp[M,q];cases k
 have A:=LA N g;cases m:I with|true=>?_|false=>?_;refine⟨_,?_,A.1 m⟩;unfold Wa;have r:j.extract b (b+n)=((j.toList.drop b).take n).toArray:=by apply Array.ext';simp[List.take_drop]
 simp[execOp,F,y,Instr.field,run_underlying q,E,part,asAgg,Cr D,z,m,sizeOf,typeInfo,k,R,s,r];have⟨u,L,K⟩:=A.2 m;refine⟨u,?_,K⟩;have H:j[b]?=some u:=by
  have p:((j.toList.drop b).take n)[0]?=some u:=by rw[L];rfl
  rw[Xk] at p;split at p;simpa using p;cases p
 unfold Wa;simp[execOp,F,y,Instr.field,run_underlying q,E,part,asAgg,Cr D,z,m,s,H];cases g;cases g;cases g
def Z5q{t}(h:Ff P t=true):P.underlying t=some .string:=by unfold Ff at h;split at h;assumption;cases h
def Zal{t a n:Nat}(h:Fq P t=some (a,n)):∃b i,P.underlying t=some (.array a b)/\P.info? b=some i/\i.size=n:=by unfold Fq at h;split at h;rename_i aa b d;split at h;rename_i i c;simp at h;obtain⟨rfl,rfl⟩:=h;exact⟨b,i,d,c,rfl⟩;cases h;cases h
def Z1h(J:ZF μ e a){t:Nat}{x y}(I:o.op=.indexAddr t x y){v}(d:ZH P (.indexAddr t x y) e h=some v):
  ∃u,Wa P o a w u/\W6 μ v u:=by
 have s:=ZT J x;have A:=ZT J y;simp only[ZH] at d;split at d;rename_i Q n ak L;have⟨i,_,E,F,G,_⟩:=Ae L;split at d;rename_i l f m q k g C B;rw[C] at s;rw[B] at A;have D:=RepD.qO A;split at d;rename_i r;injection d with d
 subst d;have⟨b,kk,p,H,_⟩:=(show∃b k,μ.loc l=some (some b,k)/\a.eval x=.slice (some ⟨b,f,none⟩) m q/\m<=q from s);refine⟨.pointer (some ⟨b,f+g.toNat*n,none⟩),?_,b,kk,p,rfl⟩;unfold Wa;have p:0<=g/\g<(m:Int):=⟨r.1,X⟩;simp[execOp,I,H,D,Instr.indexAt,asIntOf,run_underlying E,p.1,p.2,sizeOf,typeInfo,F,G,UN];cases d;rename_i c k g aj C B;rw[C] at s;rw[B] at A;have D:=RepD.qO A;split at d;rename_i W O;split at d;rename_i r;split at d;rename_i z K;split at d;rename_i U;injection d with d
 subst d;have R:=Uj (show We μ c _ from s) (C8 O);have⟨b,f,q,M,S⟩:=R.elem K;have hlt:=(Y0.1 K).1;refine⟨.pointer (some ⟨b,f+g.toNat*n,none⟩),?_,b,f+g.toNat*n,rfl,λj c T=>?_⟩;unfold Wa;have p:0<=g/\g<(W.length:Int):=⟨r,X⟩;simp[execOp,I,M,D,Instr.indexAt,asIntOf,run_underlying E,p.1,p.2,sizeOf,typeInfo,F,G,UN];have⟨u,E,V⟩:=S j c T;refine⟨u,.inl ?_,V⟩;rw[<-U.1]
 rwa [Nat.add_assoc]
 cases d;cases d;cases d;cases d;cases d;split at d;rename_i len n N;split at d;rename_i l f k g C B;rw[C] at s;rw[B] at A;have D:=RepD.qO A;split at d;rename_i r;injection d with d
 subst d;have⟨Q,i,E,F,G⟩:=Zal N;have⟨b,kk,p,H⟩:=(show∃b n,μ.loc l=some (some b,n)/\a.eval x=.pointer (some ⟨b,f,none⟩) from s);refine⟨.pointer (some ⟨b,f+g.toNat*n,none⟩),?_,b,kk,p,rfl⟩;unfold Wa;simp[execOp,I,H,D,Instr.indexAt,asIntOf,Instr.sureAddr,run_underlying E,r.1,r.2,sizeOf,typeInfo,F,G,UN];cases d;cases d;cases d
def Z59{t C i}(J:P.underlying t=some (.slice C))(I:P.info? C=some i)(u)(e a:Nat)(s b o)(l h m:Nat)
  (A:(s=none/\l=0)\/∃k n,s=some (.int k n)/\0<=n/\l=n.toNat)(B:(b=none/\h=e)\/∃k n,b=some (.int k n)/\0<=n/\h=n.toNat)(F:(o=none/\m=a)\/∃k n,o=some (.int k n)/\0<=n/\m=n.toNat)
  (z:o.isSome=true->b.isSome=true)(v:l<=h)(q:h<=m)(D:m<=a):
  (Instr.sliceAt t (.slice u e a) s b o).run P w=.ok (.slice (if m=l then u else u.map (·.add (l*i.size))) (h-l) (m-l)) w:=by
 have d:∀(n:Int) (y:Nat) c (k:IntKind),0<=n->n.toNat<=y->(Instr.sliceBound (.int k n) y c).run P w=.ok n.toNat w:=λn y c k H hy=>by
  have:0<=n/\n<=y:=⟨H,X⟩
  simp[Instr.sliceBound,asIntOf,this.1,this.2]
 have G:(Instr.sliceBounds true e a s b o).run P w=.ok (l,h,m) w:=by unfold Instr.sliceBounds;rcases F with⟨rfl,rfl⟩|⟨x,p,rfl,E,rfl⟩;rcases A with⟨rfl,rfl⟩|⟨k,n,rfl,r,rfl⟩<;>rcases B with⟨rfl,rfl⟩|⟨j,f,rfl,g,rfl⟩;simp;simp[d f m _ j g q];simp[d n h _ k r v];simp[d f m _ j g q,d n f.toNat _ k r v];rcases A with⟨rfl,rfl⟩|⟨k,n,rfl,r,rfl⟩<;>rcases B with⟨rfl,rfl⟩|⟨j,f,rfl,g,rfl⟩;simp at z;simp[d p a _ x E D,d f p.toNat _ j g q];simp at z;simp[d p a _ x E D,d f p.toNat _ j g q,d n f.toNat _ k r v]
 simp[Instr.sliceAt,Instr.slice,run_underlying J,G,sizeOf,typeInfo,I]
def Ps(f:ZF μ e a){x r}(b:AH e x=some r):(x=none/\r=none)\/∃y k n,x=some y/\a.eval y=.int k n/\0<=n/\r=some n.toNat:=by
 cases x with
 |none=>simp[AH] at b;exact .inl ⟨rfl,b.symm⟩
 |some y=>?_
 simp only[AH] at b;split at b;rename_i k n g;split at b;rename_i d;have c:=ZT f y;rw[g] at c;exact .inr ⟨y,k,n,rfl,RepD.qO c,d,by injection b with b;exact b.symm⟩;cases b;cases b
def LJ(f:ZF μ e a){x r}(g:AH e x=some r)(b:Nat):(x.map a.eval=none/\r.getD b=b)\/∃k n,x.map a.eval=some (.int k n)/\0<=n/\r.getD b=n.toNat:=by rcases Ps f g with⟨rfl,rfl⟩|⟨y,k,n,rfl,c,d,rfl⟩;exact .inl ⟨rfl,rfl⟩;exact .inr ⟨k,n,by simp[c],d,rfl⟩
def RepD.sub{m g p}{n r:Nat}(h:RepD m (.sl g) (.slice p g.length n))(y:∀x∈g,x.length=r){d k q:Nat}(h1:d<=k)(h2:k<=g.length)(h3:k<=q):
  RepD m (.sl ((g.take k).drop d)) (.slice (if q=d then p else p.map (·.add (d*r))) (k-d) (q-d)):=by
 have l:((g.take k).drop d).length=k-d:=sO;generalize hv:Value.slice p g.length n=v at h;cases h with|sl g a cap' es' b off f hl hc hes' ha hcell hrep=>?_;injection hv with hv1 hv2 hv3
 subst hv1 hv3;rw[<-l];by_cases hne:(g.take k).drop d=[];rw[hne];exact .sl [] _ _ 0 0 0 (λ_ _=>undef) I I I I I I;have t:g≠[]:=by rintro rfl;simp at hne
 have u:es'=r:=by have⟨x,e⟩:=Y01 g t;rw[<-hes' x e,y x e]
 subst u;have hlt:d<k:=by
  rcases Yx d k with h|h;exact h
  exfalso;apply hne;apply YF;omega
 have o:∀(i:Nat) x,((g.take k).drop d)[i]?=some x->g[d+i]?=some x:=λi x e=>by rw[YO,Xk] at e;split at e;exact e;cases e
 have w:¬q=d:=X;rw[if_neg w,ha t];refine .sl _ _ _ es' b (off+d*es') (λi j=>f (d+i) j) (by rw[l];omega) (by rw[l];omega) (λx e=>hes' x (XE (List.mem_of_mem_drop e))) (λ_=>by simp[Addr.add]) (λi x e j c s=>?_) (λi x e j c s=>hrep _ x (o i x e) j c s)
 have:=hcell _ x (o i x e) j c s
 rwa [show off+d*es'+(i*es'+j)=off+((d+i)*es'+j) by rw[YP];omega]
def OQ(b:ZF μ e a){x r}(c:AH e x=some r):(x.map a.eval).isSome=r.isSome:=by rcases Ps b c with⟨rfl,rfl⟩|⟨y,k,n,rfl,_,_,rfl⟩<;>rfl
def Z3n(C:ZF μ e a){t:Nat}{x:Operand}{S O T:aB Operand}(ho:o.op=.slice t x S O T){v:V}(f:ZH P (.slice t x S O T) e h=some v):
  ∃u,Wa P o a w u/\W6 μ v u:=by
 have K:=ZT C x;simp only[ZH] at f;split at f;rename_i el n a1 au;have⟨i,_,J,aq,hn,_⟩:=Ae au;split at f;rename_i c p A q L az Y W;rw[L] at K;have E:=K;have r:∀z j d,a.eval x=.slice z j d->(q.isSome=true->A.isSome=true)->p.getD 0<=A.getD j->A.getD j<=q.getD d->q.getD d<=d->
   Wa P o a w (.slice (if q.getD d=p.getD 0 then z else z.map (·.add (p.getD 0*n))) (A.getD j-p.getD 0) (q.getD d-p.getD 0)):=λz j d he hs B I h3=>by
  have:=Z59 (w:=w) J aq z j d (S.map a.eval) (O.map a.eval) (T.map a.eval) _ _ _ (LJ C az 0) (LJ C Y j) (LJ C W d) (by rwa [OQ C W,OQ C Y]) B I h3
  rw[hn] at this;unfold Wa;simp[execOp,ho,he,this]
 cases hsc:J7 n c p A q with
 |none=>rw[hsc] at f;cases f
 |some c'=>?_
 rw[hsc] at f;simp only[Yp,Ya] at f;subst f;unfold J7 at hsc;split at hsc;rename_i l G k d;split at hsc;rename_i g;have⟨⟨H,D⟩,ao,Z⟩:=g;have⟨b,kk,B,I,_⟩:=E;refine⟨_,r _ _ _ I Z H D ao,?_⟩;split at hsc;rename_i hlt;injection hsc with hsc
 subst hsc;rw[if_neg X];exact⟨b,kk,B,by simp[Addr.add],X⟩;injection hsc with hsc
 subst hsc;refine⟨(if q.getD d=p.getD 0 then some ⟨b,G,none⟩ else(some ⟨b,G,none⟩:aB Addr).map (·.add (p.getD 0*n))),?_⟩;rw[show A.getD k-p.getD 0=0 by omega,show q.getD d-p.getD 0=0 by omega];cases hsc;split at hsc;rename_i g;injection hsc with hsc
 subst hsc;have M:=E
 have:=r none 0 0 M g.2.2.2 X X X
 refine⟨_,this,?_⟩;have e1:(if q.getD 0=p.getD 0 then none else(none:aB Addr).map (·.add (p.getD 0*n)))=none:=by split<;>rfl
 rw[e1,g.1,g.2.1,g.2.2.1];rfl;cases hsc;split at hsc;rename_i g;injection hsc with hsc
 subst hsc;have⟨z,M⟩:=E
 have:=r z 0 0 M g.2.2.2 X X X
 refine⟨_,this,?_⟩;rw[g.1,g.2.1,g.2.2.1];exact⟨_,rfl⟩;cases hsc;split at hsc;rename_i xs ap;have N:=Uj E (C8 ap);have⟨z,d,B,I,_⟩:=N.slice;split at hsc;rename_i U;split at hsc;rename_i F;injection hsc with hsc
 subst hsc;refine⟨_,r _ _ _ B (by simp[F.2]) (by simp[F.1,F.2]) (by simp[F.2]) (by simp[U]),?_⟩;rw[U,F.1,F.2];exact⟨_,rfl⟩;cases hsc;split at hsc;rename_i g;have⟨⟨⟨H,D⟩,⟨ao,Z⟩,ax⟩,ar⟩:=g;injection hsc with hsc
 subst hsc;have Q:A.getD xs.length<=q.getD d/\q.getD d<=d:=by
  cases q with
  |none=>simp only[Option.getD_none] at*;omega
  |some m=>simp only[Option.getD_some] at*;omega
 refine⟨_,r _ _ _ B ax H Q.1 Q.2,?_⟩;rw[B] at N;exact N.sub ar H D Q.1;cases hsc;cases hsc;cases f;split at f;rename_i R;split at f;rename_i y;split at f;rename_i s kk n L aw;have hy:=ZT C y;rw[L] at K;rw[aw] at hy;have ay:=RepD.qO hy;have E:=RepD.qR K;split at f;rename_i g;injection f with f
 subst f;have J:=Z5q R;refine⟨.string (s.extract 0 n.toNat),?_,RepD.str _⟩;unfold Wa;simp[execOp,ho,E,ay,Instr.sliceAt,run_underlying J,run_slice_string_h w t s J kk n g.1 g.2];cases f;cases f;cases f;cases f
def Z3o(d:ZF μ e a){t:Nat}{x y}(p:o.op=.index t x y){v}(b:ZH P (.index t x y) e h=some v):
  ∃u,Wa P o a w u/\W6 μ v u:=by
 have f:=ZT d x;have g:=ZT d y;simp only[ZH] at b;split at b;rename_i c;have q:P.underlying t=some .string:=by unfold Ff at c;split at c;assumption;cases c
 split at b;rename_i s k ae l j;rw[l] at f;rw[j] at g;have i:=RepD.qR f;have m:=RepD.qO g;split at b;rename_i n;split at b;rename_i z r;injection b with b
 subst b;refine⟨_,?_,.int _ _⟩;unfold Wa;simp[execOp,p,i,m,Instr.index,asIntOf,run_underlying q,n,r];cases b;cases b;cases b;cases b
def Z5v(d:ZF μ e a){c x y}(i:o.op=.pick c x y){v}(b:ZH P (.pick c x y) e h=some v):
  ∃u,Wa P o a w u/\W6 μ v u:=by
 have g:=ZT d c;simp only[ZH] at b;split at b;rename_i t j;rw[j] at g;have f:=RepD.jF g;injection b with b
 subst b;cases t with
 |true=>exact⟨_,by unfold Wa;simp[execOp,i,f,asBool],ZT d x⟩
 |false=>exact⟨_,by unfold Wa;simp[execOp,i,f,asBool],ZT d y⟩
 cases b
def Z5u(i:ZF μ e a){f}{t:Nat}{x}(k:o.op=.unOp f t x){v}(c:ZH P (.unOp f t x) e h=some v):
  ∃u,Wa P o a w u/\W6 μ v u:=by
 have d:=ZT i x;simp only[ZH] at c;split at c;rename_i b j;rw[j] at d;have g:=RepD.jF d;injection c with c
 subst c;exact⟨_,by unfold Wa;simp[execOp,k,g,Op.unary],RepD.bool _⟩;cases c
def Z28(k:ZF μ e a){i:Nat}{x}(m:o.op=.extract x i){v}(b:ZH P (.extract x i) e h=some v):
  ∃u,Wa P o a w u/\W6 μ v u:=by
 have f:=ZT k x;simp only[ZH] at b;split at b;rename_i g n;rw[n] at f;have⟨c,j,_,l⟩:=(show∃c:Array Value,a.eval x=.tuple c/\c.size=g.length/\∀i x,g[i]?=some x->∃u,c[i]?=some u/\BO μ x u from f);have⟨u,p,d⟩:=l i v b;refine⟨u,by unfold Wa;simp[execOp,m,j,Instr.extract,p],?_⟩;cases v with
 |tup _=>exact d.elim
 |_=>exact d
 cases b
def Z7h{l:List Operand}(q:ZF μ e a):∀{b:List Cap},l.mapM (λx=>match e.ev x with| .one (.ptr l 0)=>some (Cap.lab l)| .one (.rp k)=>some (Cap.rp k)|_=>none)=some b->
  b.length=l.length/\∀(i:Nat) c,b[i]?=some c->∃x,l[i]?=some x/\BN μ c (a.eval x):=by
 induction l with
 |nil=>intro b f;simp at f;subst f;exact⟨rfl,λi c g=>by simp at g⟩
 |cons x l ih=>?_
 intro b f;rw[List.mapM_cons] at f;simp only[Option.bind_eq_bind,Option.bind_eq_some_iff,Option.pure_def,Ya] at f;obtain⟨c,d,k,m,rfl⟩:=f;have⟨r,s⟩:=ih m;refine⟨by simp[r],λi n g=>?_⟩;cases i with
 |zero=>?_
 |succ i=>have⟨y,o,p⟩:=s i n (sU g);exact⟨y,sU o,p⟩
 simp at g;subst g;refine⟨x,I,?_⟩;have h:=ZT q x;split at d;rename_i l' j;rw[j] at h;injection d with d
 subst d;exact h;rename_i ds j;rw[j] at h;injection d with d
 subst d;exact h;cases d
def Z1u(n:ZF μ e a){j first b}(t:o.op=.makeFunc j first b){v}(d:ZH P (.makeFunc j first b) e h=some v):
  ∃u,Wa P o a w u/\W6 μ v u:=by
 cases j with
 |func f=>?_
 |_=>simp[ZH] at d
 simp only[ZH] at d;split at d;rename_i m;split at d;rename_i l s;injection d with d
 subst d;have⟨g,p⟩:=Z7h n s;have q:first=#[]:=sU m
 subst q;refine⟨.func (.func f) #[] (b.map a.eval),by unfold Wa;simp[execOp,t,Instr.makeFunc],b.map a.eval,rfl,by simp[g],λi c r=>?_⟩;have⟨x,k,y⟩:=p i c r;exact⟨a.eval x,by simp only[Array.getElem?_toList] at k;simp[k],y⟩;cases d;cases d
def Z30(g:ZF μ e a){c}(s:o.op=.call c){v}(b:ZH P (.call c) e h=some v):
  ∃u,Wa P o a w u/\W6 μ v u:=by
 simp only[ZH] at b;split at b;rename_i x y j t;have d:=ZT g x;have f:=ZT g y;have i:c.args=#[x,y]:=by cases hc:c.args;simp_all
 split at b;rename_i k n z m q p;rw[q] at d;rw[p] at f;have l:=RepD.qO d;have r:=RepD.qO f;injection b with b
 subst b;exact⟨_,by unfold Wa;simp[execOp,s,resolve,j,i,invoke,builtin,l,r,Builtin.max_,Builtin.max2],RepD.int _ _⟩;cases b;rename_i x y j t;have d:=ZT g x;have f:=ZT g y;have i:c.args=#[x,y]:=by cases hc:c.args;simp_all
 split at b;rename_i k n z m q p;rw[q] at d;rw[p] at f;have l:=RepD.qO d;have r:=RepD.qO f;injection b with b
 subst b;exact⟨_,by unfold Wa;simp[execOp,s,resolve,j,i,invoke,builtin,l,r,Builtin.min_,Builtin.min2],RepD.int _ _⟩;cases b;cases b
def Z1t(q:ZF μ e a){x}(j:o.op=.nilCheck x){v}(c:ZH P (.nilCheck x) e h=some v):
  ∃u,Wa P o a w u/\W6 μ v u:=by
 have f:=ZT q x;simp only[ZH] at c;split at c;rename_i l d i;rw[i] at f;injection c with c
 subst c;have⟨b,n,m,g⟩:=(show∃b n,μ.loc l=some (some b,n)/\a.eval x=.pointer (some ⟨b,d,none⟩) from f);exact⟨_,by unfold Wa;simp[execOp,j,g],b,n,m,rfl⟩;rename_i k i;rw[i] at f;injection c with c
 subst c;have⟨b,d,g,p⟩:=(show Up μ.cell μ.tmp k (a.eval x) from f);exact⟨_,by unfold Wa;simp[execOp,j,g],b,d,rfl,p⟩;cases c
def Z29(g:ZF μ e a){s t:Nat}{x}(j:o.op=.convert s t x){v}(b:ZH P (.convert s t x) e h=some v):
  ∃u,Wa P o a w u/\W6 μ v u:=by
 have c:=ZT g x;simp only[ZH] at b;split at b;rename_i k n i;rw[i] at c;have f:=RepD.qO c;split at b;rename_i d k' l m;injection b with b
 subst b;exact⟨_,by unfold Wa;simp[execOp,j,f,convert,run_underlying l,run_underlying m,Conv.intToInt],RepD.int _ _⟩;cases b;cases b
def KU(g:Inv Γ h μ w)(d:ZF μ e a){v:V}(b:ZH P o.op e h=some v):∃u,Wa P o a w u/\W6 μ v u:=by
 cases ho:o.op with
 |move x=>rw[ho] at b;simp[ZH] at b;subst b;exact⟨_,by unfold Wa;simp[execOp,ho],ZT d x⟩
 |assign x=>rw[ho] at b;simp[ZH] at b;subst b;exact⟨_,by unfold Wa;simp[execOp,ho],ZT d x⟩
 |pick c x y=>rw[ho] at b;exact Z5v d ho b
 |binOp op t x y t'=>rw[ho] at b;exact Z3q d ho (by simpa[ZH] using b)
 |unOp op t x=>rw[ho] at b;exact Z5u d ho b
 |fieldAddr t x f=>rw[ho] at b;exact Z1i d ho b
 |field t x f=>rw[ho] at b;exact Z3p d ho b
 |load t x=>rw[ho] at b;exact Z5w g d ho b
 |indexAddr t x i=>rw[ho] at b;exact Z1h d ho b
 |index t x i=>rw[ho] at b;exact Z3o d ho b
 |extract x i=>rw[ho] at b;exact Z28 d ho b
 |nilCheck x=>rw[ho] at b;exact Z1t d ho b
 |convert s t x=>rw[ho] at b;exact Z29 d ho b
 |makeFunc fn first caps=>rw[ho] at b;exact Z1u d ho b
 |slice t x lo hi mx=>rw[ho] at b;exact Z3n d ho b
 |call c=>rw[ho] at b;exact Z30 d ho b
 |_=>rw[ho] at b;simp[ZH] at b
end
end Go.Am
end
section
namespace Go.Am
open Go.RowKit (Below)
def Ez(w:World)(a){k:Nat}(b:k<w.heap.size):(w.alloc a).heap[k]?=w.heap[k]?:=Below.heap_alloc w a k b
def Ax{w:World}{b:Nat}{a}(h:w.heap[b]?=some a):b<w.heap.size:=(YQ.1 h).1
def Vt.lt{m w}(h:Vt m w){b o:Nat}{v}(a:m b o=some v):b<w.heap.size:=World.block_lt_of_cell? w ⟨b,o,none⟩ (h _ _ _ a)
def Vt.alloc{m w}(h:Vt m w)(c:Obj):Vt m (w.alloc c):=λb o v a=>by rw[World.cell?_alloc_lt w c ⟨b,o,none⟩ (h.lt a)];exact h _ _ _ a
def Vt.of_heap{m w w'}(h:Vt m w)(c:∀b o v,m b o=some v->w'.heap[b]?=w.heap[b]?):Vt m w':=λb o v a=>by rw[World.cell?_of_block (c b o v a)];exact h _ _ _ a
def Mem.qT(μ:Mem)(l:Z2)(x:aB Nat×Nat):Mem:={μ with loc:=λk=>if k=l then some x else μ.loc k}
def Mem.qN{μ l x}(h:μ.loc l=none):Mem.Le μ (μ.qT l x):=
 ⟨WL.refl _,rfl,λk y a=>by simp only[Mem.qT];by_cases e:k=l;subst e;rw[h] at a;cases a;simp[e,a]⟩
def Mem.qF{μ:Mem}{l x}:(μ.qT l x).loc l=some x:=by simp[Mem.qT]
def Mem.qJ{μ:Mem}{l k x}(h:k≠l):(μ.qT l x).loc k=μ.loc k:=by simp[Mem.qT,h]
section
variable{P:Program}{o:Oper}{a:Act}{w w':World}{e:Env}{h:HS}{μ μ':Mem}{Γ:Ctx}
def Inv.free(a:Inv Γ h μ w){l}(hl:l.1=h.p):μ.loc l=none:=by
 cases hx:μ.loc l with
 |none=>rfl
 |some x=>have:=a.lt l (by simp[hx]);omega
def Inv.rX(a:Inv Γ h μ w){l}(c:h.a l≠none):∃b n,μ.loc l=some (some b,n)/\b<w.heap.size:=by
 cases hc:h.a l with
 |none=>exact absurd hc c
 |some cs=>have⟨b,n,T,conc,e,_,d,_⟩:=a.a l cs hc;exact⟨b,n,e,Ax d⟩
def Inv.jI(d:Inv Γ h μ w){l}(k:h.live l){b n:Nat}(e:μ.loc l=some (some b,n)):b<w.heap.size:=by
 rcases k with hb|ha;have⟨b',f,a,c⟩:=d.rX hb;rw[e] at a;simp only[Ya,YG] at a;rw[a.1];exact c;cases hc:h.arr l with
 |none=>exact absurd hc ha
 |some x=>?_
 have⟨f,g⟩:=x;have⟨gc,a,j⟩:=d.arr l g f hc;rw[e] at a;injection a with a
 subst a;have⟨_,T,cur,i,_⟩:=j.2 b rfl;exact Ax i
def Inv.jH(a:Inv Γ h μ w){l}(f:h.live l):l.1<h.p:=by
 refine a.lt l ?_;rcases f with hb|ha;have⟨b,n,e,_⟩:=a.rX hb;simp[e];cases hc:h.arr l with
 |none=>exact absurd hc ha
 |some x=>?_
 have⟨g,d⟩:=x;have⟨gc,c,_⟩:=a.arr l d g hc;simp[c]
def DK.keep{m f w w'}{d e n:Nat}{a}(h:DK m w d a e n)(q:∀g,a.1=some g->w'.heap[g]?=w.heap[g]?)
  (r:∀g o,a.1=some g->m g o=none->f g o=none):DK f w' d a e n:=
 ⟨h.1,λg c=>by
  have⟨p,T,b,h1,i,j,k,l⟩:=h.2 g c;exact⟨p,T,b,by rwa [q g c],i,j,k,λo s=>r g o c (l o s)⟩⟩
def Oe{l k b}(a:((h.xV l b).w).live k):k=l\/h.live k:=by
 by_cases e:k=l;exact .inl e;refine .inr ?_;rcases a with a|a
 left;simpa[HS.xV,HS.w,e] using a
 right;simpa[HS.xV,HS.w] using a
def Ic{l k x}(a:((h.qC l x).w).live k):k=l\/h.live k:=by
 by_cases e:k=l;exact .inl e;refine .inr ?_;rcases a with a|a
 left;simpa[HS.qC,HS.w] using a
 right;simpa[HS.qC,HS.w,e] using a
def Inv.jK(a:Inv Γ h μ w){l:Z2}(z:l.1=h.p){r f T}(F:ZL μ r f):
  Inv Γ ((h.xV l r).w) (μ.qT l (some w.heap.size,0)) (w.alloc (.cells f T)):=by
 have A:=a.free z;have u:Mem.Le μ (μ.qT l (some w.heap.size,0)):=Mem.qN A;have d:∀k,h.live k->k≠l:=λk i e=>by have:=a.jH i;subst e;omega
 have x:=a.below.size;refine⟨a.cell.alloc _,a.tmp,a.tcell.alloc _,a.told,a.ext,a.old,a.below.alloc x _,?_,?_,?_,?_,?_⟩;intro k p i;by_cases e:k=l;subst e
 have:p=r:=by simpa[HS.xV,HS.w] using i.symm
 subst this;refine⟨w.heap.size,0,T,f,Mem.qF,x,heap_alloc_new w _,F.mono u,λo=>?_⟩;cases hx:μ.cell w.heap.size o with
 |none=>exact hx
 |some v=>have:=a.cell.lt hx;omega
 have q:h.a k=some p:=by simpa[HS.xV,HS.w,e] using i
 have⟨b,n,s,m,j,c,C,D,E⟩:=a.a k p q;exact⟨b,n,s,m,by rwa [Mem.qJ e],c,by rwa [Ez w _ (Ax C)],D.mono u,E⟩;intro k y n i;have q:h.arr k=some (n,y):=by simpa[HS.xV,HS.w] using i
 have e:=d k (.inr (by simp[q]));have⟨B,j,c⟩:=a.arr k y n q;refine⟨B,by rwa [Mem.qJ e],c.keep (λg G=>?_) (λg o _ h=>h)⟩;have⟨_,s,cur,H,_⟩:=c.2 g G;exact Ez w _ (Ax H);intro k I b n J i q j c;rcases Oe i with e|hv<;>rcases Oe q with e'|hv';rw[e,e'];subst e;rw[Mem.qF] at j;rw[Mem.qJ (d _ hv')] at c;simp only[Ya,YG] at j
 have:=a.jI hv' c
 omega;subst e';rw[Mem.qF] at c;rw[Mem.qJ (d _ hv)] at j;simp only[Ya,YG] at c
 have:=a.jI hv j
 omega;rw[Mem.qJ (d _ hv)] at j;rw[Mem.qJ (d _ hv')] at c;exact a.inj k I b n J hv hv' j c;intro k i;by_cases e:k=l;subst e;simp[HS.xV,HS.w,z];rw[Mem.qJ e] at i
 have:=a.lt k i
 simp[HS.xV,HS.w];omega;intro k j c;have t:h.arr k≠none:=by simpa[HS.xV,HS.w] using c
 have e:=d k (.inr t);exact a.both k (by simpa[HS.xV,HS.w,e] using j) t
def Inv.wC(a:Inv Γ h μ w){conc T}:Inv Γ h μ (w.alloc (.cells conc T)):=by
 refine⟨a.cell.alloc _,a.tmp,a.tcell.alloc _,a.told,a.ext,a.old,a.below.alloc a.below.size _,?_,?_,a.inj,a.lt,a.both⟩;intro k e i;have⟨b,n,j,c,f,d,p,q,r⟩:=a.a k e i;exact⟨b,n,j,c,f,d,by rwa [Ez w _ (Ax p)],q,r⟩;intro k l n i;have⟨m,f,d⟩:=a.arr k l n i;refine⟨m,f,d.keep (λg s=>?_) (λg o _ h=>h)⟩;have⟨_,j,cur,t,_⟩:=d.2 g s;exact Ez w _ (Ax t)
def WV(P:Program)(Γ:Ctx)(μ:Mem)(o:Oper)(a:Act)(w:World)(K:Env->HS->Prop):Prop:=
 ∀next Q,(∀e' h' μ' a' w',K e' h'->Inv Γ h' μ' w'->ZF μ' e' a'->Mem.Le μ μ'->next a' w')->o.wp P a w next Q
def WR{K u v c}(g:(execOp a.eval o).run P w=.ok (.value u) w')(j:ZF μ e a)(b:Mem.Le μ μ')(h:Inv Γ c μ' w')
  (f:Wh o e)(m:W6 μ' v u)(k:K (e.put o.dst v) c):WV P Γ μ o a w K:=by
 intro next Q l
 unfold Oper.wp;rw[g];refine l _ _ μ' _ _ k h ((j.mono b).put (λd i=>?_) m) b;unfold Wh at f
 rwa [i] at f
def Z7c{K c}(g:(execOp a.eval o).run P w=.ok .skip w')(j:ZF μ e a)(b:Mem.Le μ μ')(h:Inv Γ c μ' w')
  (f:Wh o e)(k:K (e.put o.dst .undef) c):WV P Γ μ o a w K:=by
 intro next Q l
 unfold Oper.wp;rw[g];refine l _ _ μ' _ _ k h ((j.mono b).put (λd i=>?_) rfl) b;unfold Wh at f
 rwa [i] at f
def Lj{K}(c:Inv Γ h μ w)(b:ZF μ e a)(g:Wh o e){v}(j:ZH P o.op e h=some v)(f:K (e.put o.dst v) h):WV P Γ μ o a w K:=by have⟨u,d,i⟩:=KU c b j;exact WR d b (Mem.Le.refl μ) c g i f
def Z9u{K:Env->HS->Prop}(d:Inv Γ h μ w)(c:ZF μ e a)(l:Wh o e){t x}(g:o.op=.box t x)(i:Zl P o e h K):WV P Γ μ o a w K:=by simp only[Zl,g] at i;have⟨b,j⟩:=i;have k:=Gv (ZT c x) b;have f:((h.p,16*Wc o):Z2).1=h.p:=rfl;refine WR (μ':=μ.qT (h.p,16*Wc o) (some w.heap.size,0)) (u:=.pointer (some ⟨w.heap.size,0,none⟩)) (w':=w.alloc (.cells (a.eval x).cells t)) ?_ c (Mem.qN (d.free f)) (d.jK f k) l ?_ j;simp[execOp,g,Instr.box,newVar,newRow,newObj,Sem.run,bind,Sem.bind,pure];exact⟨w.heap.size,0,Mem.qF,rfl⟩
def Du{t f}(a:W3 P t=some f)(μ):∃i z,P.info? t=some i/\i.zero=some z/\ZL μ f z.cells:=by
 unfold W3 at a;split at a;rename_i i k;split at a;rename_i z g;split at a;rename_i b;injection a with a
 subst a;refine⟨i,z,k,g,I,λj c d=>?_⟩;rw[Y9] at d;cases hc:z.cells[j]? with
 |none=>simp[hc] at d
 |some u=>?_
 simp[hc] at d;refine⟨u,rfl,?_⟩;rw[<-d];refine KF μ u ?_;rw[Array.all_eq_true] at b;have⟨e,h⟩:=YQ.1 hc;rw[<-h];exact b j e;cases a;cases a;cases a
def Z5h{K:Env->HS->Prop}(c:Inv Γ h μ w)(j:ZF μ e a)(l:Wh o e){t}(f:o.op=.alloc t)(b:Zl P o e h K):WV P Γ μ o a w K:=by simp only[Zl,f] at b;split at b;rename_i cs n;have⟨i,z,m,g,k⟩:=Du n μ;have d:((h.p,16*Wc o):Z2).1=h.p:=rfl;refine WR (μ':=μ.qT (h.p,16*Wc o) (some w.heap.size,0)) (u:=.pointer (some ⟨w.heap.size,0,none⟩)) (w':=w.alloc (.cells z.cells t)) ?_ j (Mem.qN (c.free d)) (c.jK d k) l ?_ b;simp[execOp,f,Instr.alloc,zeroValue,typeInfo,m,g,newVar,newRow,newObj];rfl;exact⟨w.heap.size,0,Mem.qF,rfl⟩;exact b.elim
def G7{h d}{off:Nat}{a f}(k:ZL μ h a)(m:ZL μ d f)(hl:off+d.length<=h.length):
  ZL μ (Zi h off d) (a.toList.take off++f.toList++a.toList.drop (off+f.size)).toArray:=by
 have ae:=k.1;have e:=m.1;refine⟨by simp[Zi];omega,λi c b=>?_⟩;simp only[Zi,Yz] at b;simp only[Y3n,Yz];have l:(h.take off).length=off:=by rw[YA];omega
 have o:(a.toList.take off).length=off:=by rw[YA,Yw];omega
 rw[Xp,l] at b;rw[Xp,o];split at b;rename_i g;rw[if_pos g];rw[Xk,if_pos g] at b|-;simpa using k.2 i c b;rename_i g;rw[if_neg g];rw[Xp] at b;rw[Xp];have n:f.toList.length=d.length:=by rw[Yw];exact e
 rw[n];split at b;rename_i j;rw[if_pos j];simpa using m.2 _ c b;rename_i j;rw[if_neg j];rw[YO] at b|-;have p:off+f.size+(i-off-d.length)=off+d.length+(i-off-d.length):=by rw[e]
 rw[p];simpa using k.2 _ c b
def Inv.xV(c:Inv Γ h μ w){l cs f}(z:h.a l=some cs){b n:Nat}{T m a}(x:μ.loc l=some (some b,n))
  (S:w.heap[b]?=some (.cells m T (0,0)))(R:ZL μ f a):Inv Γ (h.xV l f) μ (w.setRow b a):=by
 have⟨y,n',T',aj,r,M,_,_,D⟩:=c.a l cs z;rw[x] at r;simp only[Ya,YG] at r;obtain⟨rfl,rfl⟩:=r;have B:h.live l:=.inl (by simp[z]);have t:=λk d=>setRow_other w b k a d;refine⟨c.cell.of_heap (λy o v A=>t y ?_),c.tmp,c.tcell.of_heap (λy o v A=>t y ?_),c.told,c.ext,c.old,?_,?_,?_,?_,c.lt,?_⟩;rintro rfl;rw[D o] at A;cases A;rintro rfl;have:=c.told _ _ _ A;omega
 refine c.below.trans ⟨rfl,rfl,rfl,I,λk d=>t k X⟩;intro k p d;by_cases e:k=l;subst e
 have:p=f:=by simpa[HS.xV] using d.symm
 subst this;exact⟨b,n,T,a,x,M,setRow_heap w b m a T (0,0) S,R,D⟩;have j:h.a k=some p:=by simpa[HS.xV,e] using d
 have⟨u,s,L,N,i,q,h3,P,Q⟩:=c.a k p j;have C:u≠b:=by rintro rfl;exact e (c.inj k l u s n (.inl (by simp[j])) B i x)
 exact⟨u,s,L,N,i,q,by rwa [t _ C],P,Q⟩;intro k F s d;have j:h.arr k=some (s,F):=by simpa[HS.xV] using d
 have⟨G,i,q⟩:=c.arr k F s j;refine⟨G,i,q.keep (λg H=>t g ?_) (λ_ _ _ h=>h)⟩;rintro rfl;have⟨g1,O⟩:=G;simp at H;subst H;have e:=c.inj k l g O n (.inr (by simp[j])) B i x;subst e;exact c.both k (by simp[z]) (by simp[j]);intro k J u s U d j i q;have K:∀k,(h.xV l f).live k->h.live k:=λk d=>by
  by_cases e:k=l;subst e;exact B;rcases d with d|d
  left;simpa[HS.xV,e] using d
  right;simpa[HS.xV] using d
 exact c.inj k J u s U (K k d) (K J j) i q;intro k i q;have E:h.arr k≠none:=by simpa[HS.xV] using q
 by_cases e:k=l;subst e;exact c.both k (by simp[z]) E;exact c.both k (by simpa[HS.xV,e] using i) E
end
end Go.Am
end
section
namespace Go.Am
open Go.RowKit (Below)
section
variable{P:Program}{o:Oper}{a:Act}{w w':World}{e:Env}{h:HS}{μ μ':Mem}{Γ:Ctx}{K:Env->HS->Prop}
def Z5a(z:Inv Γ h μ w)(q:ZF μ e a)(J:Wh o e){t:TypeId}{x y:Operand}(D:o.op=.store t x y)(j:Zl P o e h K):WV P Γ μ o a w K:=by
 simp only[Zl,D] at j;split at j;rename_i ag n F;have⟨d,i,ao,_,M,N⟩:=Lw F;split at j;rename_i l g Q;split at j;rename_i H B;have⟨⟨c,ap,am⟩,I⟩:=j;have u:=ZT q x;rw[Q] at u;have⟨b,n',s,O⟩:=(show We μ (.ptr l g) _ from u);have⟨b1,n1,T,f,m,aj,C,A,al⟩:=z.a l H B;rw[s] at m;simp only[Ya,YG] at m;obtain⟨rfl,rfl⟩:=m;have r:(e.ev y).cells≠[]:=by intro L;rw[L] at c;simp at c;omega
 have p:=Gv (ZT q y) r;have v:(a.eval y).cells.size=n:=by rw[p.1,c]
 have G:=A.1;have k:=run_storeCells_at P b g T (a.eval y).cells.toList 0 f w C (by rw[Yw,v,G];omega) p.all;simp only[Xl] at k;refine Z7c (w':=w.setRow b (f.toList.take g++(a.eval y).cells.toList++f.toList.drop (g+(a.eval y).cells.size)).toArray) ?_ q (Mem.Le.refl μ)
  (z.xV B s C (G7 A p (by rw[c];omega))) J I
 have E:i.size=(a.eval y).cells.size:=by rw[v,N]
 simp only[Yw] at k;simp[execOp,D,O,Instr.storeAt,Instr.sureAddr,storeVar,sizeOf,typeInfo,M,E,k];exact j.elim;exact j.elim;exact j.elim
def KW(c:List Value):∀(k:Nat) (b:Array Value) (a:Nat),a+k+c.length<=b.size->
  (c.zipIdx k).foldl (λd x=>d.setIfInBounds (a+x.2) x.1) b=(b.toList.take (a+k)++c++b.toList.drop (a+k+c.length)).toArray:=by
 induction c with
 |nil=>intro k b a _;simp
 |cons v c ih=>?_
 intro k b a f;simp only[YM] at f;rw[List.zipIdx_cons,List.foldl_cons,ih (k+1) _ a sO];have g:=list_seg_step b.toList (a+k) v c sO;have e:(b.setIfInBounds (a+k) v).toList=b.toList.set (a+k) v:=I
 rw[e];rw[show a+(k+1)=a+k+1 by omega,g];simp only[YM]
def OM(v:ZF μ e a){o:List (Nat×Nat)}:∀(w:List (Nat×Operand)) (k h:aD) (b:Array Value),ZL μ k b->Bb o e w k=some h->
  ∃d,Instr.fill (o.toArray[·]?) b (w.map λp=>(p.1,a.eval p.2))=some d/\ZL μ h d
 |[],k,h,b,l,hf=>by
   simp[Bb] at hf;subst hf;exact⟨b,by simp[Instr.fill],l⟩
 |(f,x)::r,k,h,b,l,hf=>by
   simp only[Bb] at hf;split at hf;rename_i i n A;split at hf;rename_i E;have⟨g,aj,ah⟩:=E;have m:(e.ev x).cells≠[]:=by intro F;rw[F] at g;simp at g;omega
   have q:=Gv (ZT v x) m;have u:(a.eval x).cells.size=n:=by rw[q.1,g]
   have⟨d,B,D⟩:=OM v r _ h _ (G7 l q (by rw[g];omega)) hf;refine⟨d,?_,D⟩;simp only[Yb,Instr.fill];have y:o.toArray[f]?=some (i,n):=sU A;rw[y];have t:=l.1;have z:¬((a.eval x).cells.size≠n\/i+(a.eval x).cells.size>b.size):=by rw[u,t];omega
   have s:=KW (a.eval x).cells.toList 0 b i (by rw[Yw,u,t];omega);simp only[Xl,Yw] at s;have G:(a.eval x).cells.zipIdx.foldl (λk (c,j)=>k.setIfInBounds (i+j) c) b=((a.eval x).cells.toList.zipIdx 0).foldl (λk x=>k.setIfInBounds (i+x.2) x.1) b:=by rw[<-Array.foldl_toList];simp
   simp only[XQ,decide_eq_true_eq,z,if_false,G,s];exact B;cases hf;cases hf
def Z5f(s:Inv Γ h μ w)(m:ZF μ e a)(B:Wh o e){t:TypeId}{k:Array (Nat×Operand)}(n:o.op=.build t k)(d:Zl P o e h K):WV P Γ μ o a w K:=by
 simp only[Zl,n] at d;split at d;rename_i z G F j;split at d;rename_i l C;have⟨i,H,D,p,y⟩:=Du F μ;have⟨c,q,r⟩:=OM m k.toList z l H.cells y C;have g:∃b,P.underlying t=some (.struct b)/\b.toList.mapM (λf=>(P.info? f.type).map λi=>(f.offset,i.size))=some G:=by unfold U1 at j;split at j;rename_i b g;exact⟨b,g,j⟩;cases j
 have⟨b,g,E⟩:=g;have A:P.built t (k.map λ(i,x)=>(i,a.eval x)).toList=some c:=by unfold Program.built;simp only[D,g,p,E,Array.toList_map];exact q
 refine WR (v:=.agg l) (u:=.agg c) ?_ m (Mem.Le.refl μ) s B ⟨c,rfl,r⟩ d
 have:=run_build (P:=P) w t _ c A
 simp[execOp,n,this];exact d.elim;exact d.elim
def IY{l:List Operand}{x:V}(h:l.map e.ev=[x]):∃y,l=[y]/\e.ev y=x:=by
 match l,h with
 |[y],h=>simp at h;exact⟨y,rfl,h⟩
def ET{l:List Operand}{x b:V}(h:l.map e.ev=[x,b]):∃y a,l=[y,a]/\e.ev y=x/\e.ev a=b:=by
 match l,h with
 |[y,a],h=>simp at h;exact⟨y,a,rfl,h.1,h.2⟩
def Z9s(B:Inv Γ h μ w)(p:ZF μ e a)(E:Wh o e){c:Call}(F:o.op=.call c)(D:c.callee=.builtin .len){t:TypeId}(ht:c.argTypes.toList=[t])
  {x:C}(L:c.args.toList.map e.ev=[.one x])(f:Cd P t x o e h K):WV P Γ μ o a w K:=by
 have⟨y,hy,I⟩:=IY L;have r:c.args=#[y]:=by cases hq:c.args;simp_all
 have z:c.argTypes=#[t]:=by cases hq:c.argTypes;simp_all
 have G:=ZT p y;rw[I] at G;have q:We μ x (a.eval y):=G;unfold Cd at f;split at f;rename_i d;have g:P.underlying t=some .string:=by unfold WN at d;split at d;cases d;assumption;cases d
 split at f;rename_i s;have i:a.eval y=.string s:=RepD.qR (m:=μ.cell) q;refine WR (v:=WD .i64 s.size) (u:=.int .i64 s.size) ?_ p (Mem.Le.refl μ) B E (RepD.int _ _) f;simp[execOp,F,resolve,D,r,z,invoke,builtin,Builtin.len_,run_underlying g,i,goInt];exact f.elim;rename_i d;have g:∃j,P.underlying t=some (.slice j):=by unfold WN at d;split at d;rename_i j g;exact⟨j,g⟩;cases d;cases d
 have⟨j,g⟩:=g;split at f;rename_i l off n A;have⟨b,k,_,i,_⟩:=q;refine WR (v:=WD .i64 n) (u:=.int .i64 n) ?_ p (Mem.Le.refl μ) B E (RepD.int _ _) f;simp[execOp,F,resolve,D,r,z,invoke,builtin,Builtin.len_,run_underlying g,i,goInt];split at f;rename_i H J;have⟨ad,A,i,_,d⟩:=(Uj q (C8 J)).slice;refine WR (v:=WD .i64 H.length) (u:=.int .i64 H.length) ?_ p (Mem.Le.refl μ) B E (RepD.int _ _) (f d);simp[execOp,F,resolve,D,r,z,invoke,builtin,Builtin.len_,run_underlying g,i,goInt];exact f.elim;exact f.elim
end
end Go.Am
end
section
namespace Go.Am
open Go.RowKit (Below)
def addRow(m:CM)(b a:Nat)(d:List Value):CM:=λc o=>if c=b/\a<=o/\o<a+d.length then d[o-a]? else m c o
def EH{m}{b a:Nat}{d}(h:∀o,a<=o->o<a+d.length->m b o=none):WL m (addRow m b a d):=by intro b' o v c;unfold addRow;split;rename_i g;obtain⟨rfl,e,f⟩:=g;rw[h o e f] at c;cases c;exact c
def L5{m}{b off:Nat}{a}{k:Nat}{u}(h:a[k]?=some u):addRow m b off a b (off+k)=some u:=by
 have hk:=(Y0.1 h).1;unfold addRow;rw[if_pos ⟨rfl,X,X⟩]
 rwa [show off+k-off=k by omega]
def EB{m}{b a:Nat}{e}{d o:Nat}(h:m d o=none)(c:d≠b\/a+e.length<=o):addRow m b a e d o=none:=by unfold addRow;split;rename_i f;rcases c with c|c;exact absurd f.1 c;omega;exact h
def Pu{m}{b c:Nat}{e}{a o:Nat}(h:a≠b):addRow m b c e a o=m a o:=by
 unfold addRow;rw[if_neg (λd=>h d.1)]
def O5{m w}(h:Vt m w){b a:Nat}{d}(e:∀k u,d[k]?=some u->w.cell? ⟨b,a+k,none⟩=some u):Vt (addRow m b a d) w:=by
 intro b' o v c;unfold addRow at c;split at c;rename_i f;obtain⟨rfl,h1,_⟩:=f
 have:=e (o-a) v c
 rwa [show a+(o-a)=o by omega] at this
 exact h _ _ _ c
structure Flat(m:CM)(es:Nat)(xs:List (List D))(vs:List Value):Prop where
 len:vs.length=xs.length*es
 elem:∀x∈xs,x.length=es
 rep:∀i x (j:Nat) c,xs[i]?=some x->x[j]?=some c->∃u,vs[i*es+j]?=some u/\RepD m c u
def Flat.mono{m b}{a:Nat}{e d}(h:Flat m a e d)(k:WL m b):Flat b a e d:=
 ⟨h.len,h.elem,λi x j c n f=>let⟨u,l,g⟩:=h.rep i x j c n f;⟨u,l,g.mono k⟩⟩
def Flat.nil(m)(a:Nat):Flat m a [] []:=⟨I,I,λi x j c b _=>by simp at b⟩
def Zdd{i n a j:Nat}(b:i<n)(hj:j<a):i*a+j<n*a:=by
 have:(i+1)*a<=n*a:=Xq _ b
 rw[Nat.succ_mul] at this;omega
def Flat.append{m}{b:Nat}{d p g o}(h:Flat m b d g)(k:Flat m b p o):Flat m b (d++p) (g++o):=by
 refine⟨by simp[h.len,k.len,YP],λx a=>?_,λi x j c a l=>?_⟩;rcases Y3.1 a with a|a;exact h.elem x a;exact k.elem x a;rw[Xp] at a;split at a;rename_i q;have⟨u,n,f⟩:=h.rep i x j c a l;refine⟨u,?_,f⟩
 rwa [Yu (Y0.1 n).1]
 rename_i q;have⟨u,n,f⟩:=k.rep _ x j c a l;refine⟨u,?_,f⟩;have e:i*b+j=g.length+((i-d.length)*b+j):=by
  rw[h.len]
  have:i=d.length+(i-d.length):=X
  conv=>lhs;rw[this,YP]
  omega
 rwa [e,YC X,Nat.add_sub_cancel_left]
def Flat.all{m}{a:Nat}{b g}(h:Flat m a b g)(d:0<a):∀v∈g,v.oneCell'=true:=by
 intro v n;have⟨k,j,i⟩:=Yo n;have hl:=h.len;have e:k/a<b.length:=by rw[Nat.div_lt_iff_lt_mul d];omega
 have hj:k%a<a:=Nat.mod_lt _ d;have c:=h.elem _ (Yh e);have⟨u,f,l⟩:=h.rep (k/a) b[k/a] (k%a) (b[k/a][k%a]'(by rwa [c])) (Y1 e) (Y1 _)
 have:k/a*a+k%a=k:=by rw[Nat.mul_comm];exact Nat.div_add_mod k a
 rw[this,Y1 j,i] at f;cases f;exact l.jZ
def RepD.flat{m d v}(h:RepD m (.sl d) v){q:Nat}(p:∀x∈d,x.length=q)(t:0<q):
  ∃a e z,v=.slice a d.length e/\Flat m q d z/\(d≠[]->∃b g,a=some ⟨b,g,none⟩/\∀k u,z[k]?=some u->m b (g+k)=some u):=by
 cases h with|sl d a e es' b g f hl hc hes' ha hcell hrep=>?_;by_cases l:d=[];subst l;exact⟨a,e,[],rfl,Flat.nil _ _,λh=>absurd rfl h⟩;have D:es'=q:=by have⟨x,o⟩:=Y01 d l;rw[<-hes' x o,p x o]
 subst D;refine⟨a,e,(List.range (d.length*es')).map (λk=>f (k/es') (k%es')),rfl,⟨I,p,λi x j c o w=>?_⟩,λ_=>⟨b,g,ha l,λk u n=>?_⟩⟩;have r:=(Y0.1 o).1;have s:j<es':=by rw[<-p x (Y2 o)];exact(Y0.1 w).1
 refine⟨f i j,?_,hrep i x o j c w⟩;rw[Y9,List.getElem?_range (Zdd r s)];simp only[Yp,Ya];have B:(i*es'+j)/es'=i:=by rw[Nat.mul_comm,Nat.mul_add_div t,Nat.div_eq_of_lt s];rfl
 have C:(i*es'+j)%es'=j:=by rw[Nat.mul_comm,Nat.mul_add_mod];exact Nat.mod_eq_of_lt s
 rw[B,C];rw[Y9] at n;cases hr:(List.range (d.length*es'))[k]? with
 |none=>rw[hr] at n;cases n
 |some k'=>?_
 rw[hr] at n;simp only[Yp,Ya] at n;have A:k<d.length*es':=by have:=(Y0.1 hr).1;simpa using this
 rw[List.getElem?_range A] at hr;cases hr;have r:k/es'<d.length:=by rw[Nat.div_lt_iff_lt_mul t];omega
 have w:k%es'<es':=Nat.mod_lt _ t;have y:=p _ (Yh r)
 have:=hcell (k/es') d[k/es'] (Y1 r) (k%es') (d[k/es'][k%es']'(by rwa [y])) (Y1 _)
 rw[show k/es'*es'+k%es'=k by rw[Nat.mul_comm];exact Nat.div_add_mod k es'] at this;rw[this,n]
def RepD.of_flat{m f e}{d b a cap:Nat}(h:Flat m d f e)(r:f.length<=Zz)(q:f.length<=cap)
  (p:∀k u,e[k]?=some u->m b (a+k)=some u):RepD m (.sl f) (.slice (some ⟨b,a,none⟩) f.length cap):=by
 have n:∀i x,f[i]?=some x->∀j c,x[j]?=some c->e[i*d+j]?=some (e.getD (i*d+j) undef)/\RepD m c (e.getD (i*d+j) undef):=by
  intro i x l j c g;have⟨u,o,s⟩:=h.rep i x j c l g
  have:e.getD (i*d+j) undef=u:=by simp[List.getD,o]
  rw[this];exact⟨o,s⟩
 exact .sl f (some ⟨b,a,none⟩) cap d b a (λi j=>e.getD (i*d+j) undef) r q h.elem (λ_=>rfl)
  (λi x l j c g=>p _ _ (n i x l j c g).1) (λi x l j c g=>(n i x l j c g).2)
def Z18{P}(w t y e T i)(x:P.underlying t=some (.slice e))(s:P.info? e=some i)
  (g f k:Nat)(d)(r:w.heap[g]?=some (.cells d T (0,0)))
  (a)(m c:Nat)(b)(v:b.length=m*i.size)(l:∀j u,b[j]?=some u->w.cell? (a.add j)=some u)(p:∀u∈b,u.oneCell'=true)
  (n:f+m<=k)(o:f*i.size+b.length<=d.size):
  (Builtin.append_ #[t,t] y #[.slice (some ⟨g,0,none⟩) f k,.slice (some a) m c]).run P w=
   .ok (.slice (some ⟨g,0,none⟩) (f+m) k) (w.setRow g (d.toList.take (f*i.size)++b++d.toList.drop (f*i.size+b.length)).toArray):=by
 have q:=run_firstCells_some (P:=P) w i.size m a m c b v l;have h:=run_storeCells_at P g (f*i.size) T b 0 d w r (sU o) p;simp only[Xl] at h;simp[Builtin.append_,run_underlying x,sizeOf,typeInfo,s,Builtin.lenOf,n,q,Addr.add_lit,h]
def NF{P}(w t j e i)(h:P.underlying t=some (.slice e))(g:P.info? e=some i)
  (s)(b d:Nat)(f:b<=d)(a)(c:Nat):
  (Builtin.append_ #[t,t] j #[.slice s b d,.slice a 0 c]).run P w=.ok (.slice s b d) w:=by
 cases s<;>cases a<;>simp[Builtin.append_,run_underlying h,sizeOf,typeInfo,g,Builtin.lenOf,f,Builtin.firstCells,loadCells,loadCellsFrom,storeCells]
section
variable{P:Program}{o:Oper}{a:Act}{w w':World}{e:Env}{h:HS}{μ μ':Mem}{Γ:Ctx}{K:Env->HS->Prop}
def Inv.drew(a:Inv Γ h μ w):Inv Γ h μ w.drew:=
 ⟨a.cell,a.tmp,a.tcell,a.told,a.ext,a.old,a.below.drew,a.a,a.arr,a.inj,a.lt,a.both⟩
def Inv.addRow(a:Inv Γ h μ w){l:Z2}(N:l.1=h.p){T f y}{B n d:Nat}(ap:y.length=n*B)(P:f.toList.take (n*B)=y)
  (S:f.size=d*B)(hn:n<=d)(C:d<=maxLen):
  Inv Γ ((h.qC l (some (n,B))).w) {cell:=Am.addRow μ.cell w.heap.size 0 y,tmp:=μ.tmp,loc:=(μ.qT l (some w.heap.size,d)).loc} (w.alloc (.cells f T)):=by
 have O:=a.free N;have m:∀k,h.live k->k≠l:=λk c e=>by have:=a.jH c;subst e;omega
 have L:=a.below.size;have J:∀o,μ.cell w.heap.size o=none:=λo=>by
  cases hx:μ.cell w.heap.size o with
  |none=>rfl
  |some v=>have:=a.cell.lt hx;omega
 have K:WL μ.cell (Am.addRow μ.cell w.heap.size 0 y):=EH λo _ _=>J o;have G:Mem.Le μ {cell:=Am.addRow μ.cell w.heap.size 0 y,tmp:=μ.tmp,loc:=(μ.qT l (some w.heap.size,d)).loc}:=⟨K,rfl,(Mem.qN O).loc⟩;have Q:(w.alloc (.cells f T)).heap[w.heap.size]?=some (.cells f T (0,0)):=heap_alloc_new w _;refine⟨O5 (a.cell.alloc _) (λk u c=>?_),a.tmp,a.tcell.alloc _,a.told,λb o v s=>K _ _ _ (a.ext _ _ _ s),λb o v Z s=>?_,a.below.alloc L _,?_,?_,?_,?_,?_⟩;rw[XI,World.cell?_alloc_new];rw[<-P,Xk] at c;split at c;simpa using c;cases c;have t:Am.addRow μ.cell w.heap.size 0 y b o=some v:=s;rw[Pu X] at t;exact a.old b o v Z t;intro k M c;have q:h.a k=some M:=by simpa[HS.qC,HS.w] using c
 have⟨b,E,F,z,p,j,V,W,Y⟩:=a.a k M q;have I:=Ax V;refine⟨b,E,F,z,G.loc _ _ p,j,by rwa [Ez w _ I],W.mono G,λo=>EB (Y o) (.inl X)⟩;intro k x E c;by_cases e:k=l;subst e
 have:n=E/\B=x:=by simpa[HS.qC,HS.w] using c
 obtain⟨rfl,rfl⟩:=this;refine⟨(some w.heap.size,d),Mem.qF,⟨λhc=>(by cases hc),λg D=>?_⟩⟩;have R:w.heap.size=g:=by injection D
 subst R;exact⟨L,T,f,Q,S,hn,C,λo ho=>EB (J o) (.inr X)⟩;have q:h.arr k=some (E,x):=by simpa[HS.qC,HS.w,e] using c
 have⟨U,p,j⟩:=a.arr k x E q;refine⟨U,G.loc _ _ p,j.keep (λg D=>?_) (λg o D hm=>?_)⟩;have⟨_,F,A,H,_⟩:=j.2 g D;exact Ez w _ (Ax H);have⟨_,F,A,H,_⟩:=j.2 g D
 have:=Ax H
 exact EB hm (.inl X);intro k k' b n1 n2 c q p j;rcases Ic c with e|s<;>rcases Ic q with e'|t;rw[e,e'];subst e;have i:=p;have r:=j;rw[Mem.qF] at i;rw[Mem.qJ (m _ t)] at r;simp only[Ya,YG] at i
 have:=a.jI t r
 omega;subst e';have i:=p;have r:=j;rw[Mem.qF] at r;rw[Mem.qJ (m _ s)] at i;simp only[Ya,YG] at r
 have:=a.jI s i
 omega;have i:=p;have r:=j;rw[Mem.qJ (m _ s)] at i;rw[Mem.qJ (m _ t)] at r;exact a.inj k k' b n1 n2 s t i r;intro k c;by_cases e:k=l;subst e;simp[HS.qC,HS.w,N];have q:=c;rw[Mem.qJ e] at q
 have:=a.lt k q
 simp[HS.qC,HS.w];omega;intro k p j;have i:h.a k≠none:=by simpa[HS.qC,HS.w] using p
 have e:=m k (.inl i);exact a.both k i (by simpa[HS.qC,HS.w,e] using j)
def Inv.qH(c:Inv Γ h μ w)(l):Inv Γ (h.qC l none) μ w:=by
 have j:∀k,(h.qC l none).live k->h.live k:=λk a=>by
  rcases a with a|a;exact .inl a
  right
  by_cases e:k=l;subst e;simp[HS.qC] at a;simpa[HS.qC,e] using a
 have i:∀k x,(h.qC l none).arr k=some x->h.arr k=some x:=λk x a=>by by_cases e:k=l;subst e;simp[HS.qC] at a;simpa[HS.qC,e] using a
 refine⟨c.cell,c.tmp,c.tcell,c.told,c.ext,c.old,c.below,c.a,λk o n a=>c.arr k o n (i k _ a),λk g b n p a m d f=>c.inj k g b n p (j k a) (j g m) d f,c.lt,λk d f=>c.both k d (λe=>?_)⟩;apply f;cases hx:(h.qC l none).arr k with
 |none=>rfl
 |some x=>rw[i k x hx] at e;cases e
end
end Go.Am
end
section
namespace Go.Am
open Go.RowKit (Below)
section
variable{P:Program}{o:Oper}{a:Act}{w w':World}{e:Env}{h:HS}{μ μ':Mem}{Γ:Ctx}{K:Env->HS->Prop}
def Inv.wB(f:Inv Γ h μ w){l}(u:l.1=h.p){gc}{r n:Nat}(D:DK μ.cell w Γ.w0.heap.size gc r n)
  (v:∀k b c,h.live k->μ.loc k=some (some b,c)->gc.1≠some b):Inv Γ ((h.qC l (some (n,r))).w) (μ.qT l gc) w:=by
 have y:=f.free u;have q:Mem.Le μ (μ.qT l gc):=Mem.qN y;have i:∀k,h.live k->k≠l:=λk g e=>by have:=f.jH g;subst e;omega
 refine⟨f.cell,f.tmp,f.tcell,f.told,f.ext,f.old,f.below,?_,?_,?_,?_,?_⟩;intro k t g;have m:h.a k=some t:=by simpa[HS.qC,HS.w] using g
 have⟨b,p,x,o,a,d,A,B,C⟩:=f.a k t m;exact⟨b,p,x,o,q.loc _ _ a,d,A,B.mono q,C⟩;intro k j p g;by_cases e:k=l;subst e
 have:n=p/\r=j:=by simpa[HS.qC,HS.w] using g
 obtain⟨rfl,rfl⟩:=this;exact⟨gc,Mem.qF,D⟩;have m:h.arr k=some (p,j):=by simpa[HS.qC,HS.w,e] using g
 have⟨z,a,d⟩:=f.arr k j p m;exact⟨z,q.loc _ _ a,d⟩;intro k E b F G g m a d;rcases Ic g with e|hv<;>rcases Ic m with e'|hv';rw[e,e'];subst e;rw[Mem.qF] at a;rw[Mem.qJ (i _ hv')] at d;injection a with a
 exact absurd (by rw[a]) (v _ _ _ hv' d);subst e';rw[Mem.qF] at d;rw[Mem.qJ (i _ hv)] at a;injection d with d
 exact absurd (by rw[d]) (v _ _ _ hv a);rw[Mem.qJ (i _ hv)] at a;rw[Mem.qJ (i _ hv')] at d;exact f.inj k E b F G hv hv' a d;intro k g;by_cases e:k=l;subst e;simp[HS.qC,HS.w,u];rw[Mem.qJ e] at g
 have:=f.lt k g
 simp[HS.qC,HS.w];omega;intro k a d;have s:h.a k≠none:=by simpa[HS.qC,HS.w] using a
 have e:=i k (.inl s);exact f.both k s (by simpa[HS.qC,HS.w,e] using d)
def Inv.wI(f:Inv Γ h μ w){l}{n d g t:Nat}(H:h.arr l=some (n,d))(D:μ.loc l=some (some g,t)){T a}(J:w.heap[g]?=some (.cells a T (0,0)))
  {j}(aq:n*d+j.length<=a.size):
  Inv Γ (h.qC l none) {cell:=Am.addRow μ.cell g (n*d) j,tmp:=μ.tmp,loc:=μ.loc} (w.setRow g (a.toList.take (n*d)++j++a.toList.drop (n*d+j.length)).toArray):=by
 have⟨gc,q,hr⟩:=f.arr l d n H;rw[D] at q;injection q with q
 subst q;have⟨ao,L,cur',F,au,ar,_,O⟩:=hr.2 g rfl;rw[J] at F;simp only[Ya,Obj.cells.injEq] at F;obtain⟨rfl,rfl,_⟩:=F;have N:h.live l:=.inr (by simp[H]);have z:∀k,k≠g->(w.setRow g (a.toList.take (n*d)++j++a.toList.drop (n*d+j.length)).toArray).heap[k]?=w.heap[k]?:=λk c=>setRow_other w g k _ c;have M:=setRow_heap w g a (a.toList.take (n*d)++j++a.toList.drop (n*d+j.length)).toArray T (0,0) J;have P:WL μ.cell (Am.addRow μ.cell g (n*d) j):=EH λo i _=>O o i;have C:(a.toList.take (n*d)).length=n*d:=by rw[YA,Yw];omega
 have W:Vt μ.cell (w.setRow g (a.toList.take (n*d)++j++a.toList.drop (n*d+j.length)).toArray):=by
  intro b o v r;by_cases m:b=g;subst m;have ho:o<n*d:=by rcases Yx o (n*d) with i|i;exact i;rw[O o i] at r;cases r
  have:=f.cell _ _ _ r
  rw[cell_of_row _ b o a T (0,0) J] at this;rw[cell_of_row _ b o _ T (0,0) M];rw[Y3n,Yz,Yu (by rwa [C]),Xk,if_pos ho];simpa using this
  have:=f.cell _ _ _ r
  rwa [World.cell?_of_block (z b m)]
 have Y:Mem.Le μ {cell:=Am.addRow μ.cell g (n*d) j,tmp:=μ.tmp,loc:=μ.loc}:=⟨P,rfl,λ_ _ h=>h⟩;have V:∀k,(h.qC l none).live k->h.live k:=λk c=>by
  rcases c with c|c;exact .inl c
  right
  by_cases e:k=l;subst e;simp[HS.qC] at c;simpa[HS.qC,e] using c
 have U:∀k x,(h.qC l none).arr k=some x->h.arr k=some x/\k≠l:=λk x c=>by by_cases e:k=l;subst e;simp[HS.qC] at c;exact⟨by simpa[HS.qC,e] using c,e⟩
 refine⟨O5 W (λk u c=>?_),f.tmp,f.tcell.of_heap (λb o v K=>z b ?_),f.told,λb o v r=>P _ _ _ (f.ext _ _ _ r),λb o v m r=>?_,?_,?_,?_,?_,f.lt,?_⟩;rw[cell_of_row _ g _ _ T (0,0) M]
 rwa [Y3n,Yz,YC (by rw[C];omega),C,Nat.add_sub_cancel_left,Yu (Y0.1 c).1]
 rintro rfl;have:=f.told _ _ _ K;omega
 have Q:Am.addRow μ.cell g (n*d) j b o=some v:=r;rw[Pu X] at Q;exact f.old b o v m Q;exact f.below.trans ⟨rfl,rfl,rfl,I,λk c=>z k X⟩;intro k R c;have⟨b,B,L,A,i,y,h3,h4,h5⟩:=f.a k R c;have s:h.a k=some R:=c;have p:b≠g:=by rintro rfl;have e:=f.inj k l b B t (.inl (by rw[s];simp)) N i D;subst e;exact f.both k (by rw[s];simp) (by rw[H];simp)
 exact⟨b,B,L,A,i,y,by rwa [z b p],h4.mono Y,λo=>EB (h5 o) (.inl p)⟩;intro k G B c;have⟨s,e⟩:=U k _ c;have⟨E,i,y⟩:=f.arr k G B s;have p:∀b,E.1=some b->b≠g:=by rintro b m rfl;have⟨g1,Z⟩:=E;simp only at m;subst m;exact e (f.inj k l b Z t (.inr (by rw[s];simp)) N i D)
 exact⟨E,i,y.keep (λb m=>z b (p b m)) (λb o m K=>EB K (.inl (p b m)))⟩;intro k S b n1 n2 c s i y;exact f.inj k S b n1 n2 (V k c) (V S s) i y;intro k i y;cases hx:(h.qC l none).arr k with
 |none=>exact y hx
 |some x=>exact f.both k i (by rw[(U k x hx).1];simp)
def Ew{c}(g:o.op=.call c)(f:c.callee=.builtin .append){t}(e:c.argTypes=#[t,t]){y b}(d:c.args=#[y,b]){v w'}
  (h:(Builtin.append_ #[t,t] o.type #[a.eval y,a.eval b]).run P w=.ok v w'):(execOp a.eval o).run P w=.ok (.value v) w':=by
 simp[execOp,g,resolve,f,e,d,invoke,builtin,h]
def Oc(r:Inv Γ h μ w)(hE:ZF μ e a)(hd:Wh o e){c:Call}(ho:o.op=.call c)(hc:c.callee=.builtin .append){t}(ht:c.argTypes.toList=[t,t])
  {s x}(hx:c.args.toList.map e.ev=[.one s,.one x])(Z:BF P t s x (Wc o) h (λv h'=>K (e.put o.dst v) h')):WV P Γ μ o a w K:=by
 have⟨y,y',hy,ch,ci⟩:=ET hx;have ah:c.args=#[y,y']:=by cases hq:c.args;simp_all
 have bf:c.argTypes=#[t,t]:=by cases hq:c.argTypes;simp_all
 have bt:=ZT hE y;rw[ch] at bt;have al:=bt;have bz:=ZT hE y';rw[ci] at bz;have b2:=bz;unfold BF at Z;split at Z;rename_i G E bw ce;have⟨i,z,hu,hi,a1,b1,b6,ck⟩:=Ae ce;split at Z;rename_i f p S bv;have⟨⟨bb,h0,b5,b8,cq,A⟩,hK⟩:=Z;have bq:f.length+p.length<=2097152:=A;have⟨xa,ao,B,ak,U,a7⟩:=(Uj b2 (C8 bv)).flat cq h0;have⟨sa,cx,M,af,W,az⟩:=(Uj al (C8 S)).flat b8 h0;have b3:∃O d,a.eval y=hdr O f.length d/\((O=none/\d=0/\f=[])\/∃g l,O=some g/\s=.own l f/\h.arr l=some (f.length,E)/\μ.loc l=some (some g,d)):=by
  cases s with
  |nil=>?_
  |own l xs'=>?_
  |_=>simp[F5] at bb
  have cb:a.eval y=.slice none 0 0:=al;simp[C.qE] at S;subst S;exact⟨none,0,by simp[hdr,cb],.inl ⟨rfl,rfl,rfl⟩⟩;simp[C.qE] at S;subst S;have⟨_,g,d,hl,b7⟩:=al;have D:h.arr l=some (xs'.length,E):=by simpa[F5] using bb
  refine⟨g,d,b7,?_⟩;cases g with
  |none=>?_
  |some g=>exact .inr ⟨g,l,rfl,rfl,D,hl⟩
  have⟨gc,q,h2⟩:=r.arr l _ _ D;rw[hl] at q;injection q with q
  subst q;have⟨e1,e2⟩:=h2.1 rfl;exact .inl ⟨rfl,e1,YF e2⟩
 have⟨O,d,V,ad⟩:=b3;have cm:(s.qH h).p=h.p:=by cases s<;>rfl
 have b4:Inv Γ (s.qH h) μ w:=by
  cases s with
  |own l xs'=>exact r.qH l
  |_=>exact r
 have Q:((h.p,16*Wc o):Z2).1=(s.qH h).p:=cm.symm;by_cases hm:p=[]
 
 subst hm;have bj:f.length<=d:=by
  rcases ad with⟨_,rfl,rfl⟩|⟨g,l,rfl,rfl,D,N⟩;simp;have⟨gc,q,h2⟩:=r.arr l _ _ D;rw[N] at q;injection q with q
  subst q;have⟨_,T,F,_,_,h3,_⟩:=h2.2 g rfl;exact h3
 have hr:=NF w t o.type G i hu hi (O.map λb=>⟨b,0,none⟩) f.length d bj xa ao;have ay:DK μ.cell w Γ.w0.heap.size (O,d) E f.length:=by
  rcases ad with⟨rfl,rfl,rfl⟩|⟨g,l,rfl,rfl,D,N⟩;exact⟨λ_=>⟨rfl,rfl⟩,λg Y=>by cases Y⟩;have⟨gc,q,h2⟩:=r.arr l _ _ D;rw[N] at q;injection q with q
  subst q;exact h2
 refine WR (u:=a.eval y) (μ':=μ.qT (h.p,16*Wc o) (O,d)) (w':=w) (Ew ho hc bf ah ?_) hE (Mem.qN (r.free rfl)) ?_ hd ?_ hK;rw[ak,V];exact hr
 have:=b4.wB Q (sU ay) ?_
 exact this;intro k b c0 n ag Y;rcases ad with⟨rfl,_,_⟩|⟨g,l,rfl,rfl,D,N⟩;cases Y;have cl:g=b:=by injection Y
 subst cl;have bh:h.live k:=by
  rcases n with n|n;exact .inl n
  right
  by_cases ek:k=l;subst ek;simp[C.qH,HS.qC] at n;simpa[C.qH,HS.qC,ek] using n
 have bn:=r.inj k l g c0 d bh (.inr (by rw[D];simp)) ag N;subst bn;rcases n with n|n;exact r.both k n (by rw[D];simp);simp[C.qH,HS.qC] at n;refine⟨?_,O,d,Mem.qF,?_⟩;have cj:=Uj al (C8 S);show RepD μ.cell _ _;simpa using cj;simpa using V
 
 have bm:=Y3g.2 hm;obtain⟨xb,xo,rfl,cw⟩:=a7 hm;have aj:∀(j:Nat) u,B[j]?=some u->w.cell? ((⟨xb,xo,none⟩:Addr).add j)=some u:=λj u hj=>by rw[UN];exact r.cell _ _ _ (cw j u hj)
 have R:B.length=p.length*i.size:=by rw[a1];exact U.len
 have bk:=U.all h0;have ba:(f.length+p.length)*i.bytes<=140737488355328:=by
  rw[b1]
  calc (f.length+p.length)*bw<=2097152*4096:=XJ A b5
   _<=140737488355328:=dE
 have H:∀(_:(Builtin.append_ #[t,t] o.type #[a.eval y,a.eval y']).run P w=.ok (.slice (some ⟨w.heap.size,0,none⟩) (f.length+p.length) (grownCap w (f.length+p.length) d G))
    (w.drew.alloc (.cells (M.toArray++B.toArray++Builtin.zeroCells z.cells (grownCap w (f.length+p.length) d G-(f.length+p.length))) G))),WV P Γ μ o a w K:=by
  intro am;have hge:=grownCap_ge w (f.length+p.length) d G;have b9:=grownCap_le_maxLen w (f.length+p.length) d G (by unfold maxLen;omega);have a8:=W.append U;have J:(M++B).length=(f.length+p.length)*E:=by rw[a8.len];simp
  have cc:=b4.drew.addRow Q (T:=G)
   J
   (by have hl:(M.toArray++B.toArray++Builtin.zeroCells z.cells (grownCap w (f.length+p.length) d G-(f.length+p.length))).toList=(M++B)++(Builtin.zeroCells z.cells (grownCap w (f.length+p.length) d G-(f.length+p.length))).toList:=I;rw[hl,<-J];exact Y3s)
   (by
    rw[Array.size_append,size_zeroCells,ck]
    have:(M.toArray++B.toArray).size=(f.length+p.length)*E:=by rw[<-J];simp
    rw[this,<-YP]
    congr 1
    omega) hge b9
  refine WR (Ew ho hc bf ah am) hE ?_ cc hd ?_ hK;refine⟨EH λoo _ _=>?_,rfl,(Mem.qN (r.free rfl)).loc⟩;cases hq:μ.cell w.drew.heap.size oo with
  |none=>rfl
  |some v=>have:=r.cell.lt hq;simp at this
  refine⟨?_,some w.heap.size,grownCap w (f.length+p.length) d G,Mem.qF,by simp[hdr]⟩;have cn:Flat (Am.addRow μ.cell w.drew.heap.size 0 (M++B)) E (f++p) (M++B):=a8.mono (EH λoo _ _=>by
   cases hq:μ.cell w.drew.heap.size oo with
   |none=>rfl
   |some v=>have:=r.cell.lt hq;simp at this)
  have:=RepD.of_flat cn (sU A) (sU hge) (λk u n=>L5 n)
  simpa using this
 rcases ad with⟨rfl,rfl,rfl⟩|⟨g,l,rfl,rfl,D,N⟩;have bu:=YF (sU W.len);subst bu;refine H ?_
 have:=run_append_nil w t o.type G i z hu hi b6 ⟨xb,xo,none⟩ p.length ao B R aj bm (by simp at bq;omega) (by rw[b1];have:p.length*bw<=2097152*4096:=XJ (sU A) b5;omega)
 rw[V,ak];simpa[hdr] using this;have⟨gc,q,ay⟩:=r.arr l _ _ D;rw[N] at q;injection q with q
 subst q;have⟨bi,T,F,hh,bc,ca,bp,aw⟩:=ay.2 g rfl;have L:∀k u,M[k]?=some u->μ.cell g k=some u:=by
  intro k u n;have hne:f≠[]:=by
   rintro rfl
   have:=W.len
   have bd:=(Y0.1 n).1;simp at this;subst this;simp at bd
  have⟨b,off,cd,hsc⟩:=az hne;rw[V] at af;simp only[hdr,Yp,Value.slice.injEq] at af;rw[cd] at af;simp only[Ya,Addr.mk.injEq] at af;obtain⟨⟨rfl,rfl,_⟩,_⟩:=af
  have:=hsc k u n
  simpa using this
 by_cases ae:f.length+p.length<=d;have b0:f.length*E+B.length<=F.size:=by rw[U.len,bc,<-YP];exact Xq _ ae
 have am:=Z18 w t o.type G T i hu hi g f.length d F hh ⟨xb,xo,none⟩ p.length ao B R aj bk ae (by rwa [a1]);rw[a1] at am;have hG:=r.wI D N hh b0;have br:=setRow_heap w g F (F.toList.take (f.length*E)++B++F.toList.drop (f.length*E+B.length)).toArray T (0,0) hh;have ax:WL μ.cell (Am.addRow μ.cell g (f.length*E) B):=EH λo q _=>aw o q;have hN:=hG.wB (l:=(h.p,16*Wc o)) rfl (gc:=(some g,d))
  ⟨λhc=>(by cases hc),λg' bg=>by
   have e':g=g':=by injection bg
   subst e';refine⟨bi,T,_,br,?_,ae,bp,λoo cp=>EB (aw oo (YE (Xq _ (Nat.le_add_right _ _)) cp)) (.inr (by rwa [U.len,<-YP]))⟩;rw[<-bc];simp only[Y3c,Ye,YA,Xm,Yw]
   omega⟩
  (by
   intro k b c0 n ag Y;have bg:g=b:=by injection Y
   subst bg;have bh:h.live k:=by
    rcases n with n|n;exact .inl n
    right
    by_cases ek:k=l;subst ek;simp[HS.qC] at n;simpa[HS.qC,ek] using n
   have bn:=r.inj k l g c0 d bh (.inr (by rw[D];simp)) ag N;subst bn;rcases n with n|n;exact r.both k n (by rw[D];simp);simp[HS.qC] at n)
 refine WR (Ew ho hc bf ah (by rw[V,ak];simpa[hdr] using am)) hE ?_ hN hd ?_ hK;exact⟨ax,rfl,(Mem.qN (r.free rfl)).loc⟩;refine⟨?_,some g,d,Mem.qF,by simp[hdr]⟩;have a8:=(W.append U).mono ax
 have:=RepD.of_flat a8 (sU A) (sU ae) (λk u n=>by
  rw[XI];rw[Xp] at n;split at n;exact ax _ _ _ (L k u n);rename_i bd
  have:=L5 (m:=μ.cell) (b:=g) (off:=f.length*E) n
  rw[W.len] at this bd;rw[show f.length*E+(k-f.length*E)=k by omega] at this;exact this)
 show RepD (Am.addRow μ.cell g (f.length*E) B) _ _;simpa using this;refine H ?_;have cg:M.length=f.length*i.size:=by rw[a1];exact W.len
 have:=run_append_grow w t o.type G i z hu hi b6 ⟨g,0,none⟩ f.length d M cg (λj u hj=>by rw[UN,XI];exact r.cell _ _ _ (L j u hj))
  ⟨xb,xo,none⟩ p.length ao B R aj X X (growslice_fits X ba)
 rw[V,ak];simpa[hdr] using this;exact Z.elim;exact Z.elim
end
end Go.Am
end
section
namespace Go.Am
open Go.RowKit (Below)
section
variable{P:Program}{o:Oper}{a:Act}{w w':World}{e:Env}{h:HS}{μ μ':Mem}{Γ:Ctx}{K:Env->HS->Prop}
def Za8{a e}{n:Nat}{m}(h:Fh m a e)(d:a.length=n):Flat m n [a] e.toList:=by
 refine⟨by simp[h.1,d],by simp[d],λi x j c b f=>?_⟩;cases i with
 |zero=>?_
 |succ i=>simp at b
 simp at b;subst b;have⟨u,k,g⟩:=h.2 j c f;exact⟨u,sU k,g⟩
def NH(z:ZF μ e a){n:Nat}(M:0<n):∀(v:List (Nat×Operand)) (k:Nat) (s:List aC) (b:Array Value),Uw e n v k=some s->b.size=(k+v.length)*n->
  ∃f q,Instr.fill (λi=>some (i*n,n)) b (v.map λp=>(p.1,a.eval p.2))=some f/\f.toList=b.toList.take (k*n)++q/\Flat μ.cell n s q
 |[],k,s,b,h,l=>by
   simp[Uw] at h;subst h;refine⟨b,[],by simp[Instr.fill],?_,Flat.nil _ _⟩;simp at l;rw[Ym,YD];rw[Yw,l];exact Y7 _
 |(i,x)::r,k,s,b,h,l=>by
   simp only[Uw] at h;split at h;rename_i J;obtain⟨rfl,g⟩:=J;split at h;rename_i d F o E;replace o:=PZ o;injection h with h
   subst h;have u:(e.ev x).cells≠[]:=by intro K;rw[K] at g;simp at g;omega
   have w:=Gv (ZT z x) u;have m:(a.eval x).cells.size=n:=by rw[w.1,g]
   have B:(i+(r.length+1))*n=i*n+n+r.length*n:=by rw[YP,YP,Y3x];omega
   simp only[YM] at l;rw[B] at l;have A:(i+1+r.length)*n=i*n+n+r.length*n:=by rw[YP,YP,Y3x]
   have y:=KW (a.eval x).cells.toList 0 b (i*n) (by rw[Yw,m,l];omega);simp only[Xl,Yw] at y;have⟨f,q,G,H,I⟩:=NH z M r (i+1) F ((b.toList.take (i*n)++(a.eval x).cells.toList++b.toList.drop (i*n+(a.eval x).cells.size)).toArray) E
    (by
     rw[A];simp only[Y3c,Ye,YA,Xm,Yw,m,l]
     omega)
   refine⟨f,(a.eval x).cells.toList++q,?_,?_,(Za8 (Gw w o) (by rw[Ob o,g])).append I⟩;simp only[Yb,Instr.fill];have C:¬((a.eval x).cells.size≠n\/i*n+(a.eval x).cells.size>b.size):=by rw[m,l];omega
   have N:(a.eval x).cells.zipIdx.foldl (λt (c,j)=>t.setIfInBounds (i*n+j) c) b=((a.eval x).cells.toList.zipIdx 0).foldl (λt x=>t.setIfInBounds (i*n+x.2) x.1) b:=by rw[<-Array.foldl_toList];simp
   simp only[XQ,decide_eq_true_eq,C,if_false,N,y];exact G;rw[H];have L:(b.toList.take (i*n)++(a.eval x).cells.toList).length=(i+1)*n:=by rw[Ye,YA,Yw,Yw,m,l,YP,Y3x];omega
   rw[show(b.toList.take (i*n)++(a.eval x).cells.toList++b.toList.drop (i*n+(a.eval x).cells.size)).toArray.toList=(b.toList.take (i*n)++(a.eval x).cells.toList)++b.toList.drop (i*n+(a.eval x).cells.size) by simp];rw[<-L,Y3s,Yz];cases h;cases h
def ZL.append{k l j h}(a:ZL μ k j)(g:ZL μ l h):ZL μ (k++l) (j++h):=by
 refine⟨by simp[a.1,g.1],λi c b=>?_⟩;rw[Xp] at b;split at b;rename_i d;have⟨u,f,e⟩:=a.2 i c b;exact⟨u,by rw[XD (by rwa [a.1])];exact f,e⟩;rename_i d;have⟨u,f,e⟩:=g.2 _ c b;exact⟨u,by rw[XA (by rw[a.1];omega),a.1];exact f,e⟩
def ZL.nil:ZL μ [] #[]:=⟨rfl,λi c a=>by simp at a⟩
def NI(w:ZF μ e a){n:Nat}(L:0<n):∀(o:List (Nat×Operand)) (k:Nat) (q:aD) (b:Array Value),B9 e n o k=some q->b.size=(k+o.length)*n->
  ∃d l,Instr.fill (λi=>some (i*n,n)) b (o.map λp=>(p.1,a.eval p.2))=some d/\d.toList=b.toList.take (k*n)++l/\ZL μ q l.toArray/\l.length=o.length*n
 |[],k,q,b,f,h=>by
   simp[B9] at f;subst f;refine⟨b,[],by simp[Instr.fill],?_,ZL.nil,by simp⟩;simp at h;rw[Ym,YD];rw[Yw,h];exact Y7 _
 |(i,x)::r,k,q,b,f,h=>by
   simp only[B9] at f;split at f;rename_i I;obtain⟨rfl,g⟩:=I;split at f;rename_i D B;injection f with f
   subst f;have t:(e.ev x).cells≠[]:=by intro J;rw[J] at g;simp at g;omega
   have u:=Gv (ZT w x) t;have m:(a.eval x).cells.size=n:=by rw[u.1,g]
   have z:(i+(r.length+1))*n=i*n+n+r.length*n:=by rw[YP,YP,Y3x];omega
   simp only[YM] at h;rw[z] at h;have y:(i+1+r.length)*n=i*n+n+r.length*n:=by rw[YP,YP,Y3x]
   have v:=KW (a.eval x).cells.toList 0 b (i*n) (by rw[Yw,m,h];omega);simp only[Xl,Yw] at v;have⟨d,l,E,F,G,H⟩:=NI w L r (i+1) D ((b.toList.take (i*n)++(a.eval x).cells.toList++b.toList.drop (i*n+(a.eval x).cells.size)).toArray) B
    (by
     rw[y];simp only[Y3c,Ye,YA,Xm,Yw,m,h]
     omega)
   refine⟨d,(a.eval x).cells.toList++l,?_,?_,by rw[show((a.eval x).cells.toList++l).toArray=(a.eval x).cells++l.toArray by simp];exact u.append G,by simp[m,H,YP];omega⟩;simp only[Yb,Instr.fill];have A:¬((a.eval x).cells.size≠n\/i*n+(a.eval x).cells.size>b.size):=by rw[m,h];omega
   have M:(a.eval x).cells.zipIdx.foldl (λs (c,j)=>s.setIfInBounds (i*n+j) c) b=((a.eval x).cells.toList.zipIdx 0).foldl (λs x=>s.setIfInBounds (i*n+x.2) x.1) b:=by rw[<-Array.foldl_toList];simp
   simp only[XQ,decide_eq_true_eq,A,if_false,M,v];exact E;rw[F];have K:(b.toList.take (i*n)++(a.eval x).cells.toList).length=(i+1)*n:=by rw[Ye,YA,Yw,Yw,m,h,YP,Y3x];omega
   rw[show(b.toList.take (i*n)++(a.eval x).cells.toList++b.toList.drop (i*n+(a.eval x).cells.size)).toArray.toList=(b.toList.take (i*n)++(a.eval x).cells.toList)++b.toList.drop (i*n+(a.eval x).cells.size) by simp];rw[<-K,Y3s,Yz];cases f;cases f
def NW{n:Nat}:∀(b:List (Nat×Operand)) (k:Nat) (a:List aC),Uw e n b k=some a->a.length=b.length
 |[],k,a,hf=>by simp[Uw] at hf;subst hf;rfl
 |(i,x)::r,k,a,hf=>by
   simp only[Uw] at hf;split at hf;split at hf;rename_i d f _ c;injection hf with hf
   subst hf;simp[NW r (k+1) f c];cases hf;cases hf
def Z1g(r:Inv Γ h μ w)(B:ZF μ e a)(U:Wh o e){t}{b:Nat}{p}(s:o.op=.buildSlice t b p)(q:Zl P o e h K):WV P Γ μ o a w K:=by
 simp only[Zl,s] at q;split at q
 .rename_i I n a1 ax;have⟨i,z,E,D,G,_,Z,_⟩:=Ae ax;split at q
  .rename_i xs Y;rcases q with⟨⟨d,V,L,M⟩,C⟩|⟨⟨ar,a7,_,_⟩,C⟩;rotate_left;subst ar;have ao:p=#[]:=by cases p;simp_all
   have ay:=r.wC (T:=I) (conc:=#[]);refine WR (v:=.one .z) (u:=.slice (some ⟨w.heap.size,0,none⟩) 0 0) (w':=w.alloc (.cells #[] I)) ?_ B (Mem.Le.refl μ) ay U ⟨_,rfl⟩ C;simp[execOp,s,ao,Instr.buildSlice,run_underlying E,sizeOf,typeInfo,D,newRow,newObj,Instr.fill,Array.range_zero']
   try rfl
   have au:=NW _ _ _ Y;have az:=XJ L M;obtain⟨l,j⟩:∃l:Array Value,l=(Array.range (b*n)).map (λk=>(if b*n=0 then#[] else z.cells)[k%(if b*n=0 then#[] else z.cells).size]!):=⟨_,rfl⟩;have J:l.size=(0+p.toList.length)*n:=by rw[j];simp[<-au,d]
   have⟨c,F,R,S,A⟩:=NH B V p.toList 0 xs l Y J;have H:c.toList=F:=sU S;have O:F.length=b*n:=by rw[A.len,d]
   have Q:c.size=b*n:=by rw[<-Yw,H,O]
   have g:((h.p,16*Wc o):Z2).1=h.p:=rfl;have aw:=r.addRow g (T:=I) O (by rw[<-O,H];simp) Q (Y7 _) (by unfold maxLen;omega);have W:WL μ.cell (Am.addRow μ.cell w.heap.size 0 F):=EH λoo _ _=>by
    cases hq:μ.cell w.heap.size oo with
    |none=>rfl
    |some v=>have:=r.cell.lt hq;omega
   refine WR (u:=.slice (some ⟨w.heap.size,0,none⟩) b b) ?_ B ?_ aw U ?_ C;rotate_left;exact⟨W,rfl,(Mem.qN (r.free rfl)).loc⟩;rotate_left;have N:¬(b*n>2^24):=X
   have y:Instr.fill (λi=>some (i*n,n)) l (p.map λ(i,x)=>(i,a.eval x)).toList=some c:=by rw[Array.toList_map];exact R
   by_cases m:b*n=0;simp only[m,if_true] at j;simp[execOp,s,Instr.buildSlice,run_underlying E,sizeOf,typeInfo,D,G,m,newRow,newObj];have f:=y;rw[j] at f;simp at f;rw[f];rfl;simp only[m,if_false] at j;simp[execOp,s,Instr.buildSlice,run_underlying E,sizeOf,typeInfo,zeroValue,D,G,m,N,Z,newRow,newObj];have f:=y;rw[j] at f;simp at f;rw[f];rfl;refine⟨?_,some w.heap.size,b,Mem.qF,by simp[hdr,d]⟩
   have:=RepD.of_flat (cap:=b) (A.mono W) (by rw[d];show b<=2097152;omega) X (λk u hk=>L5 hk)
   rwa [d] at this
  split at q;rename_i cs Q;have⟨⟨d,V,L,M⟩,C⟩:=q;have az:=XJ L M;obtain⟨l,j⟩:∃l:Array Value,l=(Array.range (b*n)).map (λk=>(if b*n=0 then#[] else z.cells)[k%(if b*n=0 then#[] else z.cells).size]!):=⟨_,rfl⟩;have J:l.size=(0+p.toList.length)*n:=by rw[j,d];simp
  have⟨c,F,R,S,A,h4⟩:=NI B V p.toList 0 cs l Q J;have H:c.toList=F:=sU S;have hR:ZL μ cs c:=by rw[<-H] at A;simpa using A
  have g:((h.p,16*Wc o):Z2).1=h.p:=rfl;refine WR (u:=.slice (some ⟨w.heap.size,0,none⟩) b b) (w':=w.alloc (.cells c I)) ?_ B (Mem.qN (r.free g)) (r.jK g hR) U ?_ C;have N:¬(b*n>2^24):=X
  have y:Instr.fill (λi=>some (i*n,n)) l (p.map λ(i,x)=>(i,a.eval x)).toList=some c:=by rw[Array.toList_map];exact R
  by_cases m:b*n=0;simp only[m,if_true] at j;simp[execOp,s,Instr.buildSlice,run_underlying E,sizeOf,typeInfo,D,G,m,newRow,newObj];have f:=y;rw[j] at f;simp at f;rw[f];rfl;simp only[m,if_false] at j;simp[execOp,s,Instr.buildSlice,run_underlying E,sizeOf,typeInfo,zeroValue,D,G,m,N,Z,newRow,newObj];have f:=y;rw[j] at f;simp at f;rw[f];rfl;exact⟨w.heap.size,0,Mem.qF,rfl,Y7 _⟩;exact q.elim
 exact q.elim
def Z6a{m x y v u}(a:RepD m x v)(b:RepD m y u)(hk:Vd x=Vd y)(hn:Vd x≠.other):F9 v u=JG x y:=by
 cases a<;>cases b<;>simp_all [Vd,F9,JG]
def KJ{m}:∀{c:aC} {a:List Value},Fh m c a.toArray->Kd.other∉c.map Vd->Ux (c.map Vd) a
 |[],a,h,_=>by
   have:=h.1
   simp at this;subst this;trivial
 |d::c,a,h,hn=>by
   have g:=h.1
   match a,g with
   |v::a,g=>
     have⟨u,e,j⟩:=h.2 0 d I;simp at e;subst e;have l:=KJ ⟨sU g,λi x p=>by
      have⟨u,e,j⟩:=h.2 (i+1) x (sU p);exact⟨u,sU e,j⟩⟩ (λf=>hn (by simp only[Yb,Y5];exact .inr f))
     have o:Vd d≠.other:=λf=>hn (by simp[f]);cases j with
     |int k n=>exact⟨⟨n,rfl⟩,l⟩
     |bool b=>exact⟨⟨b,rfl⟩,l⟩
     |str s=>exact⟨⟨s,rfl⟩,l⟩
     |raw v h=>exact absurd rfl o
     |sl=>exact absurd rfl o
def Oa{m:CM}:∀{h j:aC} {d c:List Value},Fh m h d.toArray->Fh m j c.toArray->h.map Vd=j.map Vd->Kd.other∉h.map Vd->Uk d c=AP h j
 |[],[],d,c,f,g,_,_=>by
   have r:=f.1;have s:=g.1;simp at r s;subst r s;rfl
 |x::h,y::j,d,c,f,g,a,hn=>by
   have n:=f.1;have b:=g.1
   match d,c,n,b with
   |v::d,u::c,n,b=>
     have⟨v',p,e⟩:=f.2 0 x I;have⟨u',q,t⟩:=g.2 0 y I;simp at p q;subst p q;simp only[Yb,List.cons.injEq] at a;have w:=Oa
      ⟨sU n,λi z l=>by have⟨u,o,e⟩:=f.2 (i+1) z (sU l);exact⟨u,sU o,e⟩⟩
      ⟨sU b,λi z l=>by have⟨u,o,e⟩:=g.2 (i+1) z (sU l);exact⟨u,sU o,e⟩⟩ a.2 (λk=>hn (by simp only[Yb,Y5];exact .inr k))
     simp only[Uk,AP];rw[w,Z6a e t a.1 (λk=>hn (by simp[k]))]
 |[],_::_,_,_,_,_,a,_=>by simp at a
 |_::_,[],_,_,_,_,a,_=>by simp at a
def Z9r(I:Inv Γ h μ w)(B:ZF μ e a)(J:Wh o e){m t R x y}(N:o.op=.binOp m t x y R)(s:Ui y=true){c}(Q:e.ev x=.one c)(i:DG P m t c (λv=>K (e.put o.dst v) h)):WV P Γ μ o a w K:=by
 have⟨⟨E,G,O⟩,i⟩:=i;have u:=ZT B x;rw[Q] at u;have n:=u;have j:∀d l g,a.eval x=.slice d l g->K (e.put o.dst (WH (if m=.neq then !d.isNone else d.isNone))) h->WV P Γ μ o a w K:=by
  intro d l g L M;refine WR (v:=WH (if m=.neq then !d.isNone else d.isNone)) (w':=w) ?_ B (Mem.Le.refl μ) I J (RepD.bool _) M;have F:a.eval y=.slice none 0 0:=by unfold Ui at s;split at s;rfl;cases s
  have D:=run_equal_slice_nil w t G d l g O;cases m<;>simp[Cf] at E<;>simp[execOp,N,L,F,eqGuard,binOp,D]
 split at i;exact j none 0 0 n (sU i);have⟨b,k,_,H,_⟩:=n;exact j _ _ _ H (sU i);split at i;rename_i C z;have⟨d,g,A,_,_⟩:=(Uj n (C8 z)).slice;refine j d _ _ A (i d.isNone (λr=>?_));have p:=Uj n (C8 z);rw[A] at p;generalize hq:Value.slice d C.length g=q at p;cases p with|sl C a' cap' es b off f hl hc' hes ha _ _=>?_;injection hq with hq
 rw[hq,ha r];rfl;exact i.elim
def Z9t(x:Inv Γ h μ w)(n:ZF μ e a)(A:Wh o e){c}(C:o.op=.call c)(z:c.callee=.builtin .cap){t}(ht:c.argTypes.toList=[t])
  {s}(E:c.args.toList.map e.ev=[.one s])(d:Mz P t s (λv=>K (e.put o.dst v) h)):WV P Γ μ o a w K:=by
 have⟨y,hy,q⟩:=IY E;have p:c.args=#[y]:=by cases hq:c.args;simp_all
 have r:c.argTypes=#[t]:=by cases hq:c.argTypes;simp_all
 have m:=ZT n y;rw[q] at m;have j:=m;have⟨⟨el,D⟩,d⟩:=d;have f:∀i g (cap:Nat),a.eval y=.slice i g cap->K (e.put o.dst (WD .i64 cap)) h->WV P Γ μ o a w K:=λi g cap l B=>by refine WR (v:=WD .i64 cap) (w':=w) ?_ n (Mem.Le.refl μ) x A (RepD.int _ _) B;simp[execOp,C,resolve,z,p,r,invoke,builtin,Builtin.cap_,run_underlying D,l,goInt]
 split at d;exact f none 0 0 j d;have⟨i,l⟩:=j;exact f i 0 0 l d;have⟨b,k,_,u,_⟩:=j;exact f _ _ _ u d;exact d.elim
def Z5g(k:Inv Γ h μ w)(f:ZF μ e a)(l:Wh o e){n t Q}{x y:Operand}(g:o.op=.binOp n t x y Q)(b:Zl P o e h K):WV P Γ μ o a w K:=by simp only[Zl,g] at b;by_cases hnil:Ui y=true;rw[if_pos hnil] at b;unfold J5 at b;split at b;rename_i c i;exact Z9r k f l g hnil i b;exact b.elim;rw[if_neg hnil] at b;split at b;rename_i J j i F;have B:=ZT f x;have C:=ZT f y;rw[i] at B;rw[F] at C;have⟨d,E,M⟩:=(show∃d:Array Value,a.eval x=.agg d/\ZL μ J d from B);have⟨S,G,I⟩:=(show∃d:Array Value,a.eval y=.agg d/\ZL μ j d from C);split at b;rename_i p q N O;have⟨⟨D,m,u,H⟩,L⟩:=b;have z:=Gw M N;have A:=Gw I O;have⟨T⟩:=d;have⟨R⟩:=S;have s:=H n T R w x y D (KJ z u) (by rw[m];exact KJ A (by rwa [<-m]));rw[Oa z A m u] at s;refine WR (v:=WH (if n=.neq then !(AP p q) else AP p q)) ?_ f (Mem.Le.refl μ) k l (RepD.bool _) L;unfold execOp;simp only[g,E,G];rw[Sem.run_bind,s];rfl;exact b.elim;split at b;rename_i r hr;exact Lj k f l (by rwa [g]) b;exact b.elim
def WU(w:World):CM:=λb o=>w.cell? ⟨b,o,none⟩
def Gf(w):Vt (WU w) w:=λ_ _ _ h=>h
def RU(f:Inv Γ h μ w){l d e}(i:h.a l=some d)(k:ZB d=some e){b n:Nat}(p:μ.loc l=some (some b,n)):Up μ.cell (WU w) e (.pointer (some ⟨b,0,none⟩)):=by
 have⟨b',n',T,conc,a,_,m,g,_⟩:=f.a l d i;rw[p] at a;simp only[Ya,YG] at a;obtain⟨rfl,rfl⟩:=a;refine⟨b,0,rfl,λj c o=>?_⟩;have⟨u,r,q⟩:=(Gw g k).2 j c o;refine⟨u,.inr ?_,q⟩;simp[WU,World.cell?,m,r]
def QP(g:Inv Γ h μ w){f v}(d:Up μ.cell μ.tmp f v):Up μ.cell (WU w) f v:=by
 have⟨b,e,l,i⟩:=d;refine⟨b,e,l,λj c k=>?_⟩;have⟨u,a,d⟩:=i j c k;refine⟨u,?_,d⟩;rcases a with a|a;exact .inl a;rw[g.tmp] at a;exact .inr (g.tcell _ _ _ a)
def Qk(e:Inv Γ h μ w){c d v}(f:BN μ c v)(a:DS h c=some d):Up μ.cell (WU w) d v:=by
 cases c with
 |lab l=>?_
 |rp g=>simp[DS] at a;subst a;exact QP e f
 simp only[DS] at a;split at a;rename_i g i;obtain⟨b,n,j,rfl⟩:=f;exact RU e i a j;cases a
def L3(n:Inv Γ h μ w):∀{a:List Cap} {l:List aC},VK h a=some l->l.length=a.length/\∀(i:Nat) b,l[i]?=some b->∃c,a[i]?=some c/\DS h c=some b
 |[],l,hc=>by simp[VK] at hc;subst hc;exact⟨rfl,λi b d=>by simp at d⟩
 |c::r,l,hc=>by
   simp only[VK] at hc;split at hc;rename_i x xs o e;injection hc with hc
   subst hc;have⟨g,j⟩:=L3 n e;refine⟨by simp[g],λi b d=>?_⟩;cases i with
   |zero=>simp at d;subst d;exact⟨c,I,o⟩
   |succ i=>have⟨f,k,m⟩:=j i b (sU d);exact⟨f,sU k,m⟩
   cases hc
def Zc2(j:Inv Γ h μ w){c:C}{v:Value}{x}(e:We μ c v)(a:c.toA h=some x):MT μ.cell (WU w) x v:=by
 cases c with
 |d y=>simp[C.toA] at a;subst a;exact e
 |own l xs=>simp[C.toA] at a;subst a;exact e.1
 |nil=>simp[C.toA] at a;subst a;exact Uj e rfl
 |z=>simp[C.toA] at a;subst a;exact Uj e rfl
 |mrow l o n cap=>simp[C.toA] at a
 |any=>simp[C.toA] at a
 |ptr l off=>?_
 |rp m=>simp[C.toA] at a;subst a;exact QP j e
 |fn f caps=>?_
 cases off with
 |zero=>?_
 |succ off=>simp[C.toA] at a
 simp only[C.toA] at a;split at a;rename_i m B;cases hd:ZB m with
 |none=>simp[hd] at a
 |some p=>?_
 simp[hd] at a;subst a;obtain⟨b,n,g,rfl⟩:=e;exact RU j B hd g;cases a;simp only[C.toA] at a;cases g:VK h caps with
 |none=>simp[g] at a
 |some l=>?_
 simp[g] at a;subst a;have⟨H,G,s,k⟩:=e;have⟨t,A⟩:=L3 j g;refine⟨H,G,by rw[s,t],λi p D=>?_⟩;have⟨c,r,q⟩:=A i p D;have⟨u,F,E⟩:=k i c r;exact⟨u,F,Qk j E q⟩
def LK(f:Inv Γ h μ w){x v y}(d:W6 μ x v)(a:x.toA h=some y):DN μ.cell (WU w) y v:=by
 cases x with
 |one c=>?_
 |agg cs=>?_
 |top=>simp[V.toA] at a
 |undef=>simp[V.toA] at a
 |tup e=>simp[V.toA] at a
 simp only[V.toA] at a;cases b:c.toA h with
 |none=>simp[b] at a
 |some z=>simp[b] at a;subst a;exact Zc2 f d b
 simp only[V.toA] at a;cases b:ZB cs with
 |none=>simp[b] at a
 |some z=>?_
 simp[b] at a;subst a;have⟨e,i,g⟩:=d;exact⟨e,i,Gw g b⟩
def Lf{d}:∀{b:List AV},Wi h d=some b->b.length=d.length/\∀(i:Nat) x,b[i]?=some x->∃v,d[i]?=some v/\v.toA h=some x:=by
 induction d with
 |nil=>intro b a;simp[Wi] at a;subst a;exact⟨rfl,λi x c=>by simp at c⟩
 |cons v d ih=>?_
 intro b a;simp only[Wi] at a;split at a;rename_i x xs m e;injection a with a
 subst a;have⟨g,j⟩:=ih e;refine⟨by simp[g],λi y c=>?_⟩;cases i with
 |zero=>simp at c;subst c;exact⟨v,I,m⟩
 |succ i=>have⟨f,k,l⟩:=j i y (sU c);exact⟨f,sU k,l⟩
 cases a
end
end Go.Am
end
section
namespace Go.Am
open Go.RowKit (Below)
section
variable{P:Program}{o:Oper}{a:Act}{w w':World}{e:Env}{h:HS}{μ μ':Mem}{Γ:Ctx}{K:Env->HS->Prop}
def ZL.toList{b a}(c:ZL μ b a):ZL μ b a.toList.toArray:=sU c
def OL{b:Nat}:∀{k:List aC} {e:List Value},Flat μ.cell b k e->ZL μ (k.flatten.map C.d) e.toArray
 |[],e,hf=>by
   have:e=[]:=YF (by simpa using hf.len)
   subst this;exact⟨rfl,λi c f=>by simp at f⟩
 |x::k,e,hf=>by
   have g:x.length=b:=hf.elem x I;have a:=hf.len;simp only[YM,YP,Y3x] at a;have o:Flat μ.cell b k (e.drop b):=⟨by rw[Xm,a];omega,λy n=>hf.elem y (by simp[n]),λi y j c n q=>by have⟨u,h,m⟩:=hf.rep (i+1) y j c (by simpa using n) q;refine⟨u,?_,m⟩;rw[YO];rw[show b+(i*b+j)=(i+1)*b+j by rw[YP];omega];exact h⟩
   have p:ZL μ (x.map C.d) (e.take b).toArray:=by
    refine⟨by simp[g,a],λi c f=>?_⟩;rw[Y9] at f;cases hx:x[i]? with
    |none=>simp[hx] at f
    |some d=>?_
    simp[hx] at f;subst f;have⟨u,h,m⟩:=hf.rep 0 x i d I hx;have l:i<b:=by rw[<-g];exact(Y0.1 hx).1
    refine⟨u,?_,m⟩;simp only[Nat.zero_mul,XI] at h;simp[l,h]
   have:=p.append (OL o)
   simpa using this
def I9(G:Inv Γ h μ w){n:Nat}(W:0<n){c v}(H:We μ c v){p}{m:Nat}(a:Wz h n c=some p)(g:Wd c=some m)(hl:p.length=m*n):
  ∃r t,∃vals:List Value,v=.slice r m t/\ZL μ p vals.toArray/\(0<m->∃b f,r=some ⟨b,f,none⟩/\∀j u,vals[j]?=some u->w.cell? ⟨b,f+j,none⟩=some u):=by
 have o:∀s,c.qE=some s->(∀x∈s,x.length=n)->p=s.flatten.map C.d->m=s.length->
   ∃r t,∃vals:List Value,v=.slice r m t/\ZL μ p vals.toArray/\(0<m->∃b f,r=some ⟨b,f,none⟩/\∀j u,vals[j]?=some u->w.cell? ⟨b,f+j,none⟩=some u):=by
  intro s P e M O;subst M O;have⟨r,t,Y,K,N,I⟩:=(Uj H (C8 P)).flat e W;refine⟨r,t,Y,K,OL N,λJ=>?_⟩;have⟨b,f,A,R⟩:=I (by intro V;subst V;simp at J);exact⟨b,f,A,λj u q=>G.cell _ _ _ (R j u q)⟩
 cases c with
 |mrow l f k D=>?_
 |d x=>?_
 |own l ys=>?_
 |nil=>?_
 |z=>?_
 |_=>simp[Wd,C.qE] at g
 simp only[Wz] at a;simp only[Wd,Ya] at g;subst g;split at a;rename_i Q U;obtain⟨ak,rfl⟩:=Ge a;obtain⟨b,kk,L,rfl,_⟩:=H;have⟨b',n',T,y,A,_,S,F,_⟩:=G.a l Q U;rw[L] at A;simp only[Ya,YG] at A;obtain⟨rfl,_⟩:=A;refine⟨_,D,(y.toList.drop f).take (k*n),rfl,⟨?_,λi c B=>?_⟩,λ_=>⟨b,f,rfl,λj u q=>?_⟩⟩
 have:=F.1
 simp only[Y3c,YA,Xm,Yw] at*;omega;rw[Xk] at B;split at B;rename_i E;rw[YO] at B;have⟨u,X,a⟩:=F.2 _ c B;exact⟨u,by simp[E,YO,X],a⟩;cases B;rw[Xk] at q;split at q;rw[YO] at q;simp[World.cell?,S];simpa using q;cases q;cases a;simp only[Wz,Wd] at a g;cases hx:C.qE (.d x) with
 |none=>rw[hx] at g;cases g
 |some s=>?_
 rw[hx] at g a;simp only[Ya] at g;simp only at a;split at a;rename_i e;injection a with a
 exact o s hx e a.symm g.symm;cases a;simp only[Wz,Wd,C.qE,Ya] at a g;split at a;rename_i e;injection a with a
 exact o ys rfl e a.symm g.symm;cases a;simp only[Wz,Wd,C.qE,Ya] at a g;split at a;rename_i e;injection a with a
 exact o [] rfl e a.symm g.symm;cases a;simp only[Wz,Wd,C.qE,Ya] at a g;split at a;rename_i e;injection a with a
 exact o [] rfl e a.symm g.symm;cases a
def Z0s{P}(w t z e T i)(y:P.underlying t=some (.slice e))(v:P.info? e=some i)
  (g d h l:Nat)(f)(s:w.heap[g]?=some (.cells f T (0,0)))
  (a)(m c:Nat)(b)(x:b.length=m*i.size)(n:∀j u,b[j]?=some u->w.cell? (a.add j)=some u)(q:∀u∈b,u.oneCell'=true)
  (o:h+m<=l)(p:d+h*i.size+b.length<=f.size):
  (Builtin.append_ #[t,t] z #[.slice (some ⟨g,d,none⟩) h l,.slice (some a) m c]).run P w=
   .ok (.slice (some ⟨g,d,none⟩) (h+m) l) (w.setRow g (f.toList.take (d+h*i.size)++b++f.toList.drop (d+h*i.size+b.length)).toArray):=by
 have r:=run_firstCells_some (P:=P) w i.size m a m c b x n;have k:=run_storeCells_at P g (d+h*i.size) T b 0 f w s (sU p) q;simp only[Xl] at k;simp[Builtin.append_,run_underlying y,sizeOf,typeInfo,v,Builtin.lenOf,o,r,Addr.add_lit,k]
def ZL.any{k:Nat}{b}(d:b.size=k)(e:∀v∈b,v.oneCell'=true):ZL μ (List.replicate k .any) b:=by
 refine⟨by simp[d],λi c a=>?_⟩;rw[List.getElem?_replicate] at a;split at a;rename_i hlt;injection a with a
 subst a
 have:b[i]?=some b[i]:=Xo X
 exact⟨_,this,e _ (Array.mem_of_getElem? this)⟩;cases a
def G4{z}{k:Nat}(d:∀v∈z,v.oneCell'=true)(c:0<z.size):∀v∈Builtin.zeroCells z k,v.oneCell'=true:=by intro v b;unfold Builtin.zeroCells at b;obtain⟨i,_,rfl⟩:=Array.mem_map.1 b;have a:i%z.size<z.size:=Nat.mod_lt _ c;rw[getElem!_pos z _ a];exact d _ (Array.getElem_mem a)
def Lm(n:Inv Γ h μ w){l}{e k c:Nat}{v}(p:We μ (.mrow l e k c) v){f}(o:h.a l=some f):
  ∃b kk T a,μ.loc l=some (some b,kk)/\v=.slice (some ⟨b,e,none⟩) k c/\k<=c/\w.heap[b]?=some (.cells a T (0,0))/\ZL μ f a:=by
 have⟨b,kk,i,q,d⟩:=p;have⟨b',n',T,a,g,_,j,m,_⟩:=n.a l f o;rw[i] at g;simp only[Ya,YG] at g;obtain⟨rfl,_⟩:=g;exact⟨b,kk,T,a,i,q,d,j,m⟩
def O2(G:Inv Γ h μ w)(O:ZF μ e a)(hd:Wh o e){c:Call}(ho:o.op=.call c)(hc:c.callee=.builtin .append){t}(ht:c.argTypes.toList=[t,t])
  {s x}(hx:c.args.toList.map e.ev=[.one s,.one x])(D:BE P t s x (Wc o) h (λv h'=>K (e.put o.dst v) h')):WV P Γ μ o a w K:=by
 have⟨y,y',hy,bw,bz⟩:=ET hx;have ag:c.args=#[y,y']:=by cases hq:c.args;simp_all
 have ay:c.argTypes=#[t,t]:=by cases hq:c.argTypes;simp_all
 have ax:=ZT O y;rw[bw] at ax;have M:We μ s (a.eval y):=ax;have bi:=ZT O y';rw[bz] at bi;have bm:=bi;unfold BE at D;split at D;rename_i g n bf bu;have⟨i,z,J,R,Y,bj,bb,b5⟩:=Ae bu;split at D;rename_i k d U pl new m f br b7;have⟨⟨b3,h0,bp,C,bk,bc⟩,b1,b8,b0⟩:=D;have b6:k+m<=2097152:=C;have⟨xa,W,E,V,Z,aq⟩:=I9 G h0 bm br b7 bk;have S:E.length=m*n:=by have:=Z.1;simp at this;omega
 have bn:∃L,∃q:List Value,a.eval y=.slice L k d/\k<=d/\ZL μ U q.toArray/\((L=none/\k=0/\d=0)\/∃b,L=some b/\∀j u,q[j]?=some u->w.cell? (b.add j)=some u):=by
  cases s with
  |nil=>?_
  |z=>?_
  |mrow l off k' cap'=>?_
  |_=>simp[VW] at f
  simp only[VW,Ya,YG] at f;obtain⟨rfl,rfl,rfl,_⟩:=f;exact⟨none,[],M,Y7 _,ZL.nil,.inl ⟨rfl,rfl,rfl⟩⟩;simp only[VW,Ya,YG] at f;obtain⟨rfl,rfl,rfl,_⟩:=f;have⟨ad,r⟩:=M;cases ad with
  |none=>exact⟨none,[],r,Y7 _,ZL.nil,.inl ⟨rfl,rfl,rfl⟩⟩
  |some b=>exact⟨some b,[],r,Y7 _,ZL.nil,.inr ⟨b,rfl,λj u I=>by simp at I⟩⟩
  simp only[VW] at f;split at f;rename_i cs ba;simp only[Ya,YG] at f;obtain⟨rfl,rfl,rfl,_⟩:=f;have⟨L,cc,q,A,bg,hsc⟩:=I9 G h0 M ba rfl bc;have⟨b,kk,am,r,az⟩:=M;rw[r] at A;simp only[Value.slice.injEq] at A;obtain⟨rfl,_,rfl⟩:=A;refine⟨_,q,r,az,bg,.inr ⟨_,rfl,λj u I=>?_⟩⟩;have a8:0<k':=by
   rcases Y3m k' with rfl|hk
   have:=bg.1
   rw[bc] at this;simp at this;subst this;simp at I;exact hk
  have⟨b2,cb,F,H⟩:=hsc a8;simp only[Ya,Addr.mk.injEq] at F;obtain⟨rfl,rfl,_⟩:=F;rw[UN];exact H j u I;cases f
 have⟨L,q,A,az,bh,aw⟩:=bn;have bq:q.length=k*n:=by have:=bh.1;simp at this;omega
 rcases Y3m m with rfl|hm;have hr:=NF w t o.type g i J R L k d az xa W;exact WR (w':=w) (Ew ho hc ay ag (by rwa [V,A])) O (Mem.Le.refl μ) G hd ax (b1 rfl);obtain⟨xb,xo,rfl,b9⟩:=aq hm;have ah:∀(j:Nat) u,E[j]?=some u->w.cell? ((⟨xb,xo,none⟩:Addr).add j)=some u:=λj u I=>by rw[UN];exact b9 j u I
 have al:E.length=m*i.size:=by rw[Y];exact S
 have a7:=λu J=>Z.all u (sU J);have au:(k+m)*i.bytes<=140737488355328:=by
  rw[bj]
  calc (k+m)*bf<=2097152*4096:=XJ C bp
   _<=140737488355328:=dE
 by_cases af:k+m<=d
 
 cases s with
 |mrow l off k' cap'=>?_
 |nil=>simp only[VW,Ya,YG] at f;omega
 |z=>simp only[VW,Ya,YG] at f;omega
 |_=>simp[VW] at f
 simp only[VW] at f;split at f;rename_i cs0 _;simp only[Ya,YG] at f;obtain⟨rfl,rfl,rfl,rfl⟩:=f;have⟨cs,hb,ca,hk⟩:=b8 hm af l off rfl;have⟨b,kk,T,N,am,r,_,hh,hR⟩:=Lm G M hb;rw[r] at A;have ba:=hR.1;have cd:(k'+m)*n=k'*n+m*n:=YP _ _ _;have ao:=Z0s w t o.type g T i J R b off k' cap' N hh ⟨xb,xo,none⟩ m W E al ah a7 af (by rw[Y,S,ba];omega);rw[Y] at ao;refine WR (v:=.one (.mrow l off (k'+m) cap')) (Ew ho hc ay ag (by rwa [r,V])) O (Mem.Le.refl μ) (G.xV hb am hh ?_) hd ⟨b,kk,am,rfl,af⟩ hk
 have:=G7 (off:=off+k'*n) hR Z (by rw[bk];omega)
 simpa using this;cases f
 
 have Q:=grownCap_ge w (k+m) d g;have B:((h.p,16*Wc o):Z2).1=h.p:=rfl;have a1:∀v∈z.cells,v.oneCell'=true:=by
  have⟨zc,b4⟩:=Option.isSome_iff_exists.1 b3;have⟨i',z',F,H,h3⟩:=Du b4 μ;rw[R] at F;injection F with F
  subst F;rw[bb] at H;injection H with H
  subst H;exact λv D=>h3.all v (sU D)
 have bv:ZL μ (U++new++List.replicate ((grownCap w (k+m) d g-(k+m))*n) .any) (q.toArray++E.toArray++Builtin.zeroCells z.cells (grownCap w (k+m) d g-(k+m))):=
  (bh.append Z).append (ZL.any (by rw[size_zeroCells,b5]) (G4 a1 X))
 have p:∀(_:(Builtin.append_ #[t,t] o.type #[a.eval y,a.eval y']).run P w=.ok (.slice (some ⟨w.heap.size,0,none⟩) (k+m) (grownCap w (k+m) d g))
   (w.drew.alloc (.cells (q.toArray++E.toArray++Builtin.zeroCells z.cells (grownCap w (k+m) d g-(k+m))) g))),WV P Γ μ o a w K:=by
  intro ao;refine WR (v:=.one (.mrow (h.p,16*Wc o) 0 (k+m) (grownCap w (k+m) d g))) (Ew ho hc ay ag ao) O (Mem.qN (G.free B)) (G.drew.jK B bv) hd ⟨w.heap.size,0,Mem.qF,rfl,Q⟩ (b0 hm X _ Q)
 rcases aw with⟨rfl,rfl,rfl⟩|⟨b,rfl,bt⟩;have bd:=YF (sU bq);subst bd;refine p ?_
 have:=run_append_nil w t o.type g i z J R bb ⟨xb,xo,none⟩ m W E al ah hm X (by rw[bj];have:m*bf<=2097152*4096:=XJ X bp;omega)
 rw[A,V];simpa using this;refine p ?_
 have:=run_append_grow w t o.type g i z J R bb b k d q (by rwa [Y]) bt ⟨xb,xo,none⟩ m W E al ah X X (growslice_fits X au)
 rwa [A,V]
 exact D.elim;exact D.elim
def P6{z:Value}{b}{n:Nat}(t:ZL μ b z.cells)(j:b.length=n)(ac:0<n)(k:Nat){a}(d:a.size=k*n)(l:∀i,i<k*n->a[i]?=z.cells[i%n]?):ZL μ (List.replicate k b).flatten a:=by
 induction k generalizing a with|zero=>?_|succ k ih=>?_
 have:a=#[]:=Array.eq_empty_of_size_eq_zero (sU d)
 subst this;exact ZL.nil;have e:(k+1)*n=n+k*n:=by rw[YP,Y3x];omega
 rw[e] at d;have m:ZL μ b (a.extract 0 n):=by
  refine⟨by simp[j];omega,λi c g=>?_⟩;have⟨u,s,r⟩:=t.2 i c g;have h:i<n:=by rw[<-j];exact(Y0.1 g).1
  refine⟨u,?_,r⟩;have f:(a.extract 0 n)[i]?=a[0+i]?:=by rw[Array.getElem?_extract_of_lt X,Xo]
  have:=l i (by rw[e];omega)
  rw[Nat.mod_eq_of_lt h] at this;rw[f,XI,this,s]
 have o:ZL μ (List.replicate k b).flatten (a.extract n (n+k*n)):=by
  refine ih sO (λi g=>?_);have f:(a.extract n (n+k*n))[i]?=a[n+i]?:=by rw[Array.getElem?_extract_of_lt X,Xo]
  have:=l (n+i) (by rw[e];omega)
  rw[f,this,Nat.add_mod_left]
 have:=m.append o
 rw[Y3v,XC];have q:a.extract 0 n++a.extract n (n+k*n)=a:=by
  apply Array.ext';rw[Array.toList_append,Array.toList_extract,Array.toList_extract];rw[List.extract_eq_take_drop,List.extract_eq_take_drop];simp only[Nat.sub_zero,XU]
  have:n+k*n-n=k*n:=X
  rw[this];have p:(a.toList.drop n).take (k*n)=a.toList.drop n:=YD (by rw[Xm,Yw,d];omega);rw[p,Yy]
 rwa [q] at this
def TK{P}(w t g D e i z k kn)(A:P.underlying t=some (.slice e))(q:P.underlying g=some (.int kn))(x:P.info? e=some i)(C:i.zero=some z)
  (b)(a c:Nat)(f:List Value)(r:f.length=a*i.size)(d:∀j v,f[j]?=some v->w.cell? (b.add j)=some v)
  (n:Nat)(h0:0<n)(hs:0<i.size)(hg:c<a+n)(aq:((a+n:Nat):Int)<=9223372036854775807)(ap:n*i.bytes<=281474976710656)(ao:Builtin.nextslicecap (a+n) c*i.bytes<=281474976710656):
  (Builtin.append_ #[t,g] D #[.slice (some b) a c,.int k n]).run P w=
   .ok (.slice (some ⟨w.heap.size,0,none⟩) (a+n) (grownCap w (a+n) c e)) (w.drew.alloc (.cells (f.toArray++Builtin.zeroCells z.cells n++Builtin.zeroCells z.cells (grownCap w (a+n) c e-(a+n))) e)):=by
 have y:n≠0:=X;have u:¬(a+n<=c):=X;have B:IntKind.i64.wrap n=n:=by rw[IntKind.wrap_i64];omega
 have o:¬(9223372036854775807<(a+(n:Int))):=X;have l:¬(281474976710656<Builtin.nextslicecap (a+n) c*i.bytes):=X;have h:¬(281474976710656<n*(i.bytes:Int)):=by rw[<-Int.natCast_mul];omega
 have m:¬((n:Int)<0):=X;have p:¬(n*i.size=0):=Nat.mul_ne_zero y X;have s:=run_firstCells_some (P:=P) w.drew i.size a b a c f r (sU d);simp[Builtin.append_,run_underlying A,run_underlying q,sizeOf,typeInfo,zeroValue,x,C,asInt,asIntOf,B,u,m,p,o,l,h,Question.forced,s,newRow,grownCap]
def Z2v(E:Inv Γ h μ w)(M:ZF μ e a)(hd:Wh o e){c:Call}(ho:o.op=.call c)(hc:c.callee=.builtin .append){t H}(ht:c.argTypes.toList=[t,H])
  {s x:C}(hx:c.args.toList.map e.ev=[.one s,.one x])(d:EI P t H s x (Wc o) h (λv h'=>K (e.put o.dst v) h')):WV P Γ μ o a w K:=by
 have⟨y,y',hy,bk,bm⟩:=ET hx;have af:c.args=#[y,y']:=by cases hq:c.args;simp_all
 have bb:c.argTypes=#[t,H]:=by cases hq:c.argTypes;simp_all
 have ba:=ZT M y;rw[bk] at ba;have Q:We μ s (a.eval y):=ba;have W:=ZT M y';rw[bm] at W;obtain⟨⟨_,kk,bc⟩,d⟩:=d;split at d;rename_i g n U bi;have⟨i,z,hu,N,bn,Z,L,bd⟩:=Ae bi;split at d;rename_i ki m;have⟨⟨Y,h0,J,bj,az⟩,hK⟩:=d;have a7:m<=2097152:=az;have bf:a.eval y=.slice none 0 0:=Q;have R:=RepD.qO W;have S:m.toNat=m:=X
 have f:((h.p,16*Wc o):Z2).1=h.p:=rfl;have O:m.toNat*i.bytes<=281474976710656:=by
  rw[Z]
  have:m.toNat*U<=2097152*4096:=XJ X J
  omega
 have D:=Lib.run_append_nil_zeros w t H o.type g i z ki kk hu bc N L m.toNat X X X O;rw[S] at D;have A:=grownCap_ge w m.toNat 0 g;have B:∀v∈z.cells,v.oneCell'=true:=by
  have⟨zc,ay⟩:=Option.isSome_iff_exists.1 Y;have⟨i',z',q,r,h3⟩:=Du ay μ;rw[N] at q;injection q with q
  subst q;rw[L] at r;injection r with r
  subst r;exact λv d=>h3.all v (sU d)
 have I:ZL μ (List.replicate (grownCap w m.toNat 0 g*n) .any) (Builtin.zeroCells z.cells m.toNat++Builtin.zeroCells z.cells (grownCap w m.toNat 0 g-m.toNat)):=by
  refine ZL.any ?_ λv d=>?_;rw[Array.size_append,size_zeroCells,size_zeroCells,bd,<-YP]
  congr 1
  omega;rcases Array.mem_append.1 d with d|d;exact G4 B X v d;exact G4 B X v d
 refine WR (v:=.one (.mrow (h.p,16*Wc o) 0 m.toNat (grownCap w m.toNat 0 g))) (w':=w.drew.alloc (.cells (Builtin.zeroCells z.cells m.toNat++Builtin.zeroCells z.cells (grownCap w m.toNat 0 g-m.toNat)) g)) ?_ M (Mem.qN (E.free f)) (E.drew.jK f I) hd ⟨w.heap.size,0,Mem.qF,rfl,A⟩ (hK _ A);simp[execOp,ho,resolve,hc,bb,af,invoke,builtin,bf,R,D];rename_i l F k p ki m;split at d;rename_i old bg;have⟨⟨Y,h0,J,bj,az,au,a8⟩,hK⟩:=d;have a7:k+m<=2097152:=az;have R:=RepD.qO W;have S:m.toNat=m:=X
 have f:((h.p,16*Wc o):Z2).1=h.p:=rfl;have⟨sa,br,G,T,V,hsc⟩:=I9 E h0 Q bg rfl a8;have⟨b,bu,bp,a1,bv⟩:=Q;rw[a1] at T;simp only[Value.slice.injEq] at T;obtain⟨rfl,_,rfl⟩:=T;have bt:G.length=k*n:=by have:=V.1;simp at this;omega
 have bh:∀(j:Nat) u,G[j]?=some u->w.cell? ((⟨b,F,none⟩:Addr).add j)=some u:=λj u hj=>by
  have aq:0<k:=by
   rcases Y3m k with rfl|hk
   have:=V.1
   rw[a8] at this;simp at this;subst this;simp at hj;exact hk
  have⟨b2,bq,q,r⟩:=hsc aq;simp only[Ya,Addr.mk.injEq] at q;obtain⟨rfl,rfl,_⟩:=q;rw[UN];exact r j u hj
 have O:m.toNat*i.bytes<=281474976710656:=by
  rw[Z]
  have:m.toNat*U<=2097152*4096:=XJ X J
  omega
 have ad:(k+m.toNat)*i.bytes<=140737488355328:=by
  rw[Z]
  have:(k+m.toNat)*U<=2097152*4096:=XJ X J
  omega
 have D:=TK w t H o.type g i z ki kk hu bc N L ⟨b,F,none⟩ k p G (by rwa [bn]) bh m.toNat X X au X O (growslice_fits X ad);rw[S] at D;have A:=grownCap_ge w (k+m.toNat) p g;have B:∀v∈z.cells,v.oneCell'=true:=by
  have⟨zc,ay⟩:=Option.isSome_iff_exists.1 Y;have⟨i',z',q,r,h3⟩:=Du ay μ;rw[N] at q;injection q with q
  subst q;rw[L] at r;injection r with r
  subst r;exact λv d=>h3.all v (sU d)
 have I:ZL μ (old++List.replicate ((grownCap w (k+m.toNat) p g-k)*n) .any) (G.toArray++(Builtin.zeroCells z.cells m.toNat++Builtin.zeroCells z.cells (grownCap w (k+m.toNat) p g-(k+m.toNat)))):=by
  refine V.append (ZL.any ?_ λv d=>?_);rw[Array.size_append,size_zeroCells,size_zeroCells,bd,<-YP]
  congr 1
  omega;rcases Array.mem_append.1 d with d|d;exact G4 B X v d;exact G4 B X v d
 rw[<-Array.append_assoc] at I;refine WR (v:=.one (.mrow (h.p,16*Wc o) 0 (k+m.toNat) (grownCap w (k+m.toNat) p g))) (w':=w.drew.alloc (.cells (G.toArray++Builtin.zeroCells z.cells m.toNat++Builtin.zeroCells z.cells (grownCap w (k+m.toNat) p g-(k+m.toNat))) g)) ?_ M (Mem.qN (E.free f)) (E.drew.jK f I) hd ⟨w.heap.size,0,Mem.qF,rfl,A⟩ (hK _ A);simp[execOp,ho,resolve,hc,bb,af,invoke,builtin,a1,R,D];exact d.elim;exact d.elim;exact d.elim
def Z7d(B:Inv Γ h μ w)(p:ZF μ e a)(hd:Wh o e){t:TypeId}{x y}(ho:o.op=.makeSlice t x y)(d:GU P t (e.ev x) (e.ev y) (Wc o) h (λv h'=>K (e.put o.dst v) h')):WV P Γ μ o a w K:=by
 have D:=ZT p x;have E:=ZT p y;unfold GU at d;split at d;rename_i u n l Q;have⟨i,z,hu,C,m,T,s,q⟩:=Ae Q;split at d;rename_i G ka F kb b U Z J;have⟨⟨h0,N,R,W,Y,O⟩,hK⟩:=d;have a1:b<=2097152:=R;rw[Z] at D;rw[J] at E;have M:=RepD.qO D;have V:=RepD.qO E;have⟨i',z',g,k,A⟩:=Du U μ;rw[C] at g;injection g with g
 subst g;rw[s] at k;injection k with k
 subst k;have S:G.length=n:=by rw[<-A.1,q]
 have r:b.toNat<=2097152:=X;have H:b.toNat*i.size<=16777216:=by
  rw[m]
  calc b.toNat*n<=2097152*8:=XJ r O
   _<=16777216:=dE
 have I:i.bytes*b<=281474976710656:=by
  rw[T]
  have:l*b.toNat<=4096*2097152:=XJ W r
  have h4:((l*b.toNat:Nat):Int)=l*b:=by
   rw[Int.natCast_mul]
   congr 1
   omega
  omega
 have L:=run_makeSlice w t u i z hu C s ka kb F b h0 N H I X;have c:((h.p,16*Wc o):Z2).1=h.p:=rfl;have hR:ZL μ (List.replicate b.toNat G).flatten (madeCells z.cells (b.toNat*i.size)):=by
  refine P6 A S Y b.toNat (by rw[size_madeCells,m]) (λj hj=>?_);unfold madeCells;rw[Array.getElem?_map,Array.getElem?_range,if_pos (by rwa [m])];have f:j%z.cells.size<z.cells.size:=Nat.mod_lt _ X;simp only[Yp];rw[getElem!_pos z.cells _ f,<-q,Xo f]
 refine WR (v:=.one (.mrow (h.p,16*Wc o) 0 F.toNat b.toNat)) (w':=w.alloc (.cells (madeCells z.cells (b.toNat*i.size)) u)) ?_ p (Mem.qN (B.free c)) (B.jK c hR) hd ⟨w.heap.size,0,Mem.qF,rfl,X⟩ hK;simp[execOp,ho,M,V,L];exact d.elim;exact d.elim
def Pa(E:Inv Γ h μ w)(D:ZF μ e a)(hd:Wh o e){c:Call}(ho:o.op=.call c)(hc:c.callee=.builtin .copy){t}(ht:c.argTypes.toList=[t,t])
  {s x}(hx:c.args.toList.map e.ev=[.one s,.one x])(p:Ca P t s x (Wc o) h (λv h'=>K (e.put o.dst v) h')):WV P Γ μ o a w K:=by
 have⟨y,S,hy,az,ay⟩:=ET hx;have Y:c.args=#[y,S]:=by cases hq:c.args;simp_all
 have au:c.argTypes=#[t,t]:=by cases hq:c.argTypes;simp_all
 have J:=ZT D y;rw[az] at J;have al:=J;have M:=ZT D S;rw[ay] at M;have ao:=M;unfold Ca at p;split at p;rename_i el n bg ax;have⟨i,z,A,hi,U,_,_,_⟩:=Ae ax;split at p;rename_i l off k cap H m ar ba;split at p;rename_i cs O;have⟨⟨h0,B,bd⟩,hK⟩:=p;have⟨R,I,f,Z,C,X⟩:=I9 E h0 ao ar ba B;have q:f.length=m*n:=by have:=C.1;simp at this;omega
 have⟨b,kk,T,d,ak,aq,_,Q,N⟩:=Lm E al O;have W:=N.1;have bf:min m k*n<=m*n:=Xq _ (Nat.min_le_left _ _);have bc:min m k*n<=k*n:=Xq _ (Nat.min_le_right _ _);have L:(f.take (min m k*n)).length=min m k*n:=by rw[YA,q];omega
 have ap:∀u∈f.take (min m k*n),u.oneCell'=true:=λu A=>C.all u (sU (XE A));have r:=run_storeCells_at P b off T (f.take (min m k*n)) 0 d w Q (by rw[L,W];omega) ap;simp only[Xl] at r;have V:(Builtin.firstCells n (min m k) (.slice R m I)).run P w=.ok (f.take (min m k*n)).toArray w:=by
  rcases Y3m m with rfl|hm
  have:f=[]:=YF (sU q)
  subst this;cases R<;>simp[Builtin.firstCells,loadCells,loadCellsFrom];obtain⟨xb,xo,rfl,bb⟩:=X hm
  have:=run_firstCells_some (P:=P) w n (min m k) ⟨xb,xo,none⟩ m I (f.take (min m k*n)) L (λj u g=>by rw[Xk] at g;split at g;rw[UN];exact bb j u g;cases g)
  exact this
 have aw:ZL μ (H.take (min m k*n)) (f.take (min m k*n)).toArray:=by
  refine⟨by simp[B,q],λj c g=>?_⟩;rw[Xk] at g;split at g;rename_i F;have⟨u,A,hr⟩:=C.2 j c g;refine⟨u,?_,hr⟩;rw[Y3n,Xk,if_pos F];simpa using A;cases g
 have G:=G7 (off:=off) N aw (by rw[YA,B];omega);refine WR (v:=WD .i64 ((min m k:Nat):Int)) (w':=w.setRow b (d.toList.take off++(f.take (min m k*n))++d.toList.drop (off+(f.take (min m k*n)).length)).toArray) ?_ D (Mem.Le.refl μ) (E.xV O ak Q (sU G)) hd (RepD.int _ _) hK;have aj:Nat.min m k=min m k:=rfl;simp[execOp,ho,resolve,hc,Y,au,invoke,builtin,Builtin.copy_,run_underlying A,aq,Z,Builtin.lenOf,sizeOf,typeInfo,hi,U,aj,V,r,goInt];exact p.elim;exact p.elim;exact p.elim
def Z5b(A:Inv Γ h μ w)(x:ZF μ e a)(I:Wh o e){c:Call}(J:o.op=.call c)(H:c.callee=.builtin .clear){t}(ht:c.argTypes.toList=[t])
  {s}(hx:c.args.toList.map e.ev=[.one s])(f:CA P t s (Wc o) h (λv h'=>K (e.put o.dst v) h')):WV P Γ μ o a w K:=by
 have⟨y,hy,ar⟩:=IY hx;have C:c.args=#[y]:=by cases S:c.args;simp_all
 have D:c.argTypes=#[t]:=by cases S:c.argTypes;simp_all
 have V:=ZT x y;rw[ar] at V;have N:=V;unfold CA at f;split at f;rename_i el n aw am;have⟨i,z,L,hi,_,_,W,p⟩:=Ae am;split at f;rename_i l g k cap M ao;split at f;rename_i Q R;have⟨⟨h0,au⟩,G⟩:=f;have⟨b,kk,T,d,aj,r,_,hh,Z⟩:=Lm A N R;have aq:=Z.1;have⟨i',z',E,F,Y⟩:=Du ao μ;rw[hi] at E;injection E with E
 subst E;rw[W] at F;injection F with F
 subst F;have ap:M.length=n:=by rw[<-Y.1,p]
 have O:ZL μ (List.replicate k M).flatten (Builtin.zeroCells z.cells k):=by
  refine P6 Y ap h0 k (by rw[size_zeroCells,p]) (λj hj=>?_);unfold Builtin.zeroCells;rw[Array.getElem?_map,Array.getElem?_range,if_pos (by rwa [p])];have B:j%z.cells.size<z.cells.size:=Nat.mod_lt _ X;simp only[Yp];rw[getElem!_pos z.cells _ B,<-p,Xo B]
 have ah:((List.replicate k M).flatten).length=k*n:=by rw[<-O.1,size_zeroCells,p]
 have m:=run_storeCells_at P b g T (Builtin.zeroCells z.cells k).toList 0 d w hh (by rw[Yw,size_zeroCells,p,aq];omega) O.all;simp only[Xl] at m;have U:=G7 Z O (by rw[ah];omega);rcases Y3m k with rfl|hk;have e0:Zi Q g (List.replicate 0 M).flatten=Q:=by simp[Zi]
 rw[e0] at G;have e1:h.xV l Q=h:=by
  cases h;simp only[HS.xV,HS.mk.injEq,and_true];funext q;split;rename_i S;subst S;exact R.symm;rfl
 rw[e1] at G;refine WR (v:=.top) (u:=.tuple #[]) (w':=w) ?_ x (Mem.Le.refl μ) A I trivial G;simp[execOp,J,resolve,H,C,D,invoke,builtin,Builtin.clear_,run_underlying L,r];obtain⟨k,rfl⟩:∃k',k=k'+1:=⟨k-1,X⟩;refine WR (v:=.top) (u:=.tuple #[]) (w':=w.setRow b (d.toList.take g++(Builtin.zeroCells z.cells (k+1)).toList++d.toList.drop (g+(Builtin.zeroCells z.cells (k+1)).toList.length)).toArray) ?_ x (Mem.Le.refl μ) (A.xV R aj hh (sU U)) I trivial G;simp[execOp,J,resolve,H,C,D,invoke,builtin,Builtin.clear_,run_underlying L,r,zeroValue,typeInfo,hi,W] at m|-;rw[m];rfl;exact f.elim;have⟨ad,r⟩:=N;refine WR (v:=.top) (u:=.tuple #[]) (w':=w) ?_ x (Mem.Le.refl μ) A I trivial f;cases ad<;>simp[execOp,J,resolve,H,C,D,invoke,builtin,Builtin.clear_,run_underlying L,r];have r:a.eval y=.slice none 0 0:=N;refine WR (v:=.top) (u:=.tuple #[]) (w':=w) ?_ x (Mem.Le.refl μ) A I trivial f;simp[execOp,J,resolve,H,C,D,invoke,builtin,Builtin.clear_,run_underlying L,r];exact f.elim;exact f.elim
end
end Go.Am
end
section
namespace Go.Am
open Go.RowKit (Below)
section
variable{P:Program}{o:Oper}{a:Act}{w w':World}{e:Env}{h:HS}{μ μ':Mem}{Γ:Ctx}{K:Env->HS->Prop}
def Pv(d:Nat):∀(a:List (Nat×Nat×Nat)) (h:HS),(h.qL d a).a=h.a/\(h.qL d a).p=h.p
 |[],h=>⟨rfl,rfl⟩
 |(j,b,n)::r,h=>by simp only[HS.qL];have⟨c,e⟩:=Pv d r (h.qC (h.p,16*d+j+1) (some (n,b)));exact⟨by rw[c];rfl,by rw[e];rfl⟩
def Pw(d:Nat):∀(a:List (Nat×Nat×Nat)) (h:HS) (l:Z2) (x:Nat×Nat),(h.qL d a).arr l=some x->h.arr l=some x\/∃j,l=(h.p,16*d+j+1)/\(j,x.2,x.1)∈a
 |[],h,l,x,hx=>.inl hx
 |(j,es,n)::r,h,l,x,hx=>by simp only[HS.qL] at hx;rcases Pw d r _ l x hx with hx|⟨f,b,c⟩;by_cases e:l=(h.p,16*d+j+1);subst e;simp[HS.qC] at hx;subst hx;exact .inr ⟨j,rfl,by simp⟩;exact .inl (by simpa[HS.qC,e] using hx);exact .inr ⟨f,b,by simp[c]⟩
def V9(μ:Mem)(b d:Nat)(m:CM)(a:Nat->aB Nat×Nat):Mem:=
 {cell:=m,tmp:=μ.tmp,loc:=λl=>if l.1=b then some (a (l.2-(16*d+1))) else μ.loc l}
def RZ{m a c v}(e:DM m a c v)(b d:Nat):We (V9 μ b d m a) (c.toC b d) v:=by
 cases c with
 |d x=>exact e
 |fresh j es xs=>?_
 have⟨f,g⟩:=e;refine⟨f,(a j).1,(a j).2,?_,g⟩;simp only[V9,if_true];rw[show 16*d+j+1-(16*d+1)=j by omega]
def Mg{m a c v}(f:CJ m a c v)(b d:Nat):BO (V9 μ b d m a) (RV1.toV b d c) v:=by
 cases c with
 |one c=>exact RZ f b d
 |agg cs=>?_
 |tup g=>exact f.elim
 have⟨g,h,j,k⟩:=f;refine⟨g,h,by simp[j],λi c e=>?_⟩;rw[Y9] at e;cases hx:cs[i]? with
 |none=>simp[hx] at e
 |some x=>?_
 simp[hx] at e;subst e;have⟨u,n,l⟩:=k i x hx;exact⟨u,n,RZ l b d⟩
def Jf{m a c v}(f:BP m a c v)(b d:Nat):W6 (V9 μ b d m a) (c.toV b d) v:=by
 cases c with
 |tup xs=>?_
 |one c=>exact Mg (c:=.one c) f b d
 |agg cs=>exact Mg (c:=.agg cs) f b d
 have⟨n,g,h,j⟩:=f;refine⟨n,g,by simp[h],λi x e=>?_⟩;rw[Y9] at e;cases hx:xs[i]? with
 |none=>simp[hx] at e
 |some y=>?_
 simp[hx] at e;subst e;have⟨u,l,k⟩:=j i y hx;exact⟨u,l,Mg k b d⟩
def Inv.call(i:Inv Γ h μ w){s p r}(d:Nat)(V:WL μ.cell s)(W:∀b o u,b<w.heap.size->s b o=some u->μ.cell b o=some u)
  (al:Vt s w')(G:Below w.heap.size w w')(H:F2 s w w' p r):Inv Γ ((h.qL d r).w) (V9 μ h.p d s p) w':=by
 have O:Mem.Le μ (V9 μ h.p d s p):=⟨V,rfl,λl x hl=>by
  have:=i.lt l (by rw[hl];simp)
  simp only[V9];rw[if_neg X];exact hl⟩
 have y:∀k,h.live k->k.1≠h.p:=λk a e=>by have:=i.jH a;omega
 have B:∀k,k.1≠h.p->(V9 μ h.p d s p).loc k=μ.loc k:=λk a=>by simp only[V9];rw[if_neg a]
 have U:∀b o,b<w.heap.size->μ.cell b o=none->s b o=none:=λb o q I=>by
  cases hx:s b o with
  |none=>rfl
  |some u=>rw[W b o u q hx] at I;cases I
 have⟨M,aq⟩:=Pv d r h;have ap:=i.below.size;have N:∀k x,(h.qL d r).arr k=some x->(h.arr k=some x/\k.1≠h.p)\/∃j,k=(h.p,16*d+j+1)/\(j,x.2,x.1)∈r:=λk x a=>by rcases Pw d r h k x a with a|a;exact .inl ⟨a,y k (.inr (by rw[a];simp))⟩;exact .inr a
 have F:∀j,(V9 μ h.p d s p).loc (h.p,16*d+j+1)=some (p j):=λj=>by simp only[V9,if_true];rw[show 16*d+j+1-(16*d+1)=j by omega]
 have S:∀k,((h.qL d r).w).live k->(h.live k/\k.1≠h.p)\/∃j D n,k=(h.p,16*d+j+1)/\(j,D,n)∈r:=λk a=>by
  rcases a with a|a;have z:h.a k≠none:=by rw[<-M];exact a
  exact .inl ⟨.inl z,y k (.inl z)⟩;cases hx:(h.qL d r).arr k with
  |none=>exact absurd hx a
  |some x=>?_
  rcases N k x hx with⟨c,f⟩|⟨j,c,f⟩;exact .inl ⟨.inr (by rw[c];simp),f⟩;exact .inr ⟨j,x.2,x.1,c,f⟩
 refine⟨al,i.tmp,i.tcell.of_heap (λb o v hm=>G.block b (i.tcell.lt hm)),i.told,λb o v R=>V _ _ _ (i.ext _ _ _ R),λb o v q R=>i.old b o v q (W b o v X R),i.below.trans (G.mono ap),?_,?_,?_,?_,?_⟩;intro k cs a;have z:h.a k=some cs:=by rw[<-M];exact a
 have⟨b,n,T,C,c,f,A,t,h5⟩:=i.a k cs z;have q:=Ax A;exact⟨b,n,T,C,O.loc _ _ c,f,by rwa [G.block b q],t.mono O,λL=>U b L q (h5 L)⟩;intro k D n a;rcases N k (n,D) a with⟨c,_⟩|⟨j,rfl,f⟩;have⟨gc,A,t⟩:=i.arr k D n c;refine⟨gc,O.loc _ _ A,t.keep (λg E=>?_) (λg L E I=>?_)⟩;have⟨_,T,P,Q,_⟩:=t.2 g E;exact G.block g (Ax Q);have⟨_,T,P,Q,_⟩:=t.2 g E;exact U g L (Ax Q) I;have J:=H.1 _ f;exact⟨p j,F j,⟨J.1,λg E=>by have⟨A,t⟩:=J.2 g E;exact⟨X,t⟩⟩⟩
 intro k K b n n' a z c f;rcases S k a with⟨l1,e1⟩|⟨j,D,m,rfl,hj⟩<;>rcases S K z with⟨l2,e2⟩|⟨j',es',m2,rfl,Y⟩;rw[B k e1] at c;rw[B K e2] at f;exact i.inj k K b n n' l1 l2 c f;rw[B k e1] at c;rw[F] at f;injection f with f
 have:=i.jI l1 c
 have J:=(H.1 _ Y).2 b (by rw[f]);omega;rw[B K e2] at f;rw[F] at c;injection c with c
 have:=i.jI l2 f
 have J:=(H.1 _ hj).2 b (by rw[c]);omega;rw[F] at c f;injection c with c
 injection f with f
 have:=H.2 _ hj _ Y b (by rw[c]) (by rw[f])
 simp only at this;rw[this];intro k a;show k.1<(h.qL d r).p+1;rw[aq];by_cases ek:k.1=h.p;omega;rw[B k ek] at a
 have:=i.lt k a
 omega;intro k c f;have Z:h.a k≠none:=by rw[<-M];exact c
 cases hx:(h.qL d r).arr k with
 |none=>exact f hx
 |some x=>?_
 rcases N k x hx with⟨A,_⟩|⟨j,rfl,_⟩;exact i.both k Z (by rw[A];simp);exact y _ (.inl Z) rfl
def Z5d(hI:Inv Γ h μ w)(hE:ZF μ e a)(hd:Wh o e){c:Call}(ho:o.op=.call c){f}(hc:c.callee=.value f){g caps}(hf:e.ev f=.one (.fn g caps))
  {ars cs}(has:Wi h (c.args.toList.map e.ev)=some ars)(a8:VK h caps=some cs)(hv:Rs P g (ars++Wu cs) o e h K):WV P Γ μ o a w K:=by
 have⟨r,⟨⟨fn,ba,bc,ab⟩,ak⟩,hK⟩:=hv;have ap:=ZT hE f;rw[hf] at ap;have⟨vs,am,al,aj⟩:=(show∃vs:Array Value,a.eval f=.func (.func g) #[] vs/\vs.size=caps.length/\∀i c,caps[i]?=some c->∃u,vs[i]?=some u/\BN μ c u from ap);have⟨bd,ay⟩:=Lf has;have⟨bf,ax⟩:=L3 hI a8;have ae:ars.length=c.args.size:=by rw[bd];simp
 have ah:CE μ.cell (WU w) (ars++Wu cs) (c.args.map a.eval++vs):=by
  refine⟨by simp[Wu,ae,al,bf],λi x hi=>?_⟩;rw[Xp] at hi;split at hi;rename_i hlt;have⟨v,aa,a1⟩:=ay i x hi;rw[Y9] at aa;cases hy:c.args.toList[i]? with
  |none=>simp[hy] at aa
  |some y=>?_
  rw[hy] at aa;simp only[Yp,Ya] at aa;subst aa;refine⟨a.eval y,?_,LK hI (ZT hE y) a1⟩;rw[XD sO];have a7:c.args[i]?=some y:=sU hy;simp[a7];rename_i hlt;simp only[Wu,Y9] at hi;cases hy:cs[i-ars.length]? with
  |none=>rw[hy] at hi;simp at hi
  |some y=>?_
  rw[hy] at hi;simp only[Yp,Ya] at hi;subst hi;have⟨c',h1,h2⟩:=ax _ _ hy;have⟨u,hu,hr⟩:=aj _ _ h1;refine⟨u,?_,Qk hI hr h2⟩;rw[XA sO];simp only[Array.size_map]
  rwa [<-ae]
 have ad:=ak w μ.cell (WU w) _ hI.glob hI.cell (Gf w) ah;intro next Q hn
 unfold Oper.wp;have ar:(execOp a.eval o).run P w=.ok (.enter g (c.args.map a.eval++vs)) w:=by
  have au:¬fn.name= "runtime.NumGoroutine":=sU bc;have ac:¬fn.body=none:=by intro hq;rw[hq] at ab;simp at ab
  simp[execOp,ho,resolve,hc,am,Deferred.ofValue,invoke,callFunc,ba,au,ac]
 rw[ar];refine ad.mono ?_;rintro en w1 ⟨v,m',ao,rfl,af,aq,ag,hb,hr,az⟩;have aw:Mem.Le μ (V9 μ h.p (Wc o) m' ao):=⟨af,rfl,λl x hl=>by
  have:=hI.lt l (by rw[hl];simp)
  simp only[V9];rw[if_neg X];exact hl⟩
 refine hn _ _ (V9 μ h.p (Wc o) m' ao) _ _ hK (hI.call (Wc o) af aq ag hb az) ((hE.mono aw).put (λd bb=>?_) (Jf hr h.p (Wc o))) aw;unfold Wh at hd
 rwa [bb] at hd
def Z5e(hI:Inv Γ h μ w)(hE:ZF μ e a)(hd:Wh o e){c}(ho:o.op=.call c){f}(hc:c.callee=.value f){g caps}(hf:e.ev f=.one (.fn g caps))
  (hv:Z5 P g (c.args.toList.map e.ev++caps.map Vf) h (λv h'=>K (e.put o.dst v) h')):WV P Γ μ o a w K:=by
 have⟨⟨fn,ao,aq,aa⟩,af⟩:=hv;have aj:=ZT hE f;rw[hf] at aj;have⟨vs,am,ak,ae⟩:=(show∃vs:Array Value,a.eval f=.func (.func g) #[] vs/\vs.size=caps.length/\∀i c,caps[i]?=some c->∃u,vs[i]?=some u/\BN μ c u from aj);have ad:J3 μ (c.args.toList.map e.ev++caps.map Vf) (c.args.map a.eval++vs):=by
  refine⟨by simp[ak],λi x hi=>?_⟩;rw[Xp] at hi;split at hi;rename_i hlt;rw[Y9] at hi;cases hy:c.args.toList[i]? with
  |none=>simp[hy] at hi
  |some y=>?_
  rw[hy] at hi;simp only[Yp,Ya] at hi;subst hi;refine⟨a.eval y,?_,ZT hE y⟩;simp at hlt;rw[XD sO];have ar:c.args[i]?=some y:=sU hy;simp[ar];rename_i hlt;simp only[Y9,Yd,Yw] at hi hlt;cases hy:caps[i-c.args.size]? with
  |none=>rw[hy] at hi;simp at hi
  |some y=>?_
  rw[hy] at hi;simp only[Yp,Ya] at hi;subst hi;have⟨u,hu,hr⟩:=ae _ _ hy;refine⟨u,?_,?_⟩;rw[XA sO];simpa using hu;cases y with
  |lab l=>exact hr
  |rp cs=>exact hr
 have ac:=af Γ μ w _ hI ad;intro next Q hn
 unfold Oper.wp;have ag:(execOp a.eval o).run P w=.ok (.enter g (c.args.map a.eval++vs)) w:=by
  have ah:¬fn.name= "runtime.NumGoroutine":=sU aq;have ab:¬fn.body=none:=by intro hq;rw[hq] at aa;simp at aa
  simp[execOp,ho,resolve,hc,am,Deferred.ofValue,invoke,callFunc,ao,ah,ab]
 rw[ag];refine ac.mono ?_;rintro en w1 ⟨u,v,h',μ',rfl,hk,au,hr,al⟩;refine hn _ _ μ' _ _ hk au ((hE.mono al).put (λd ap=>?_) hr) al;unfold Wh at hd
 rwa [ap] at hd
def Z5c(q:Inv Γ h μ w)(n:ZF μ e a)(D:Wh o e){c}(G:o.op=.call c){f}(C:c.callee=.value f){g b}(E:e.ev f=.one (.fn g b)){v}
  (I:Fg P g (c.args.toList.map e.ev++b.map Vf) h v)(F:K (e.put o.dst v) h):WV P Γ μ o a w K:=by
 have p:=ZT n f;rw[E] at p;have⟨k,A,z,s⟩:=(show∃k:Array Value,a.eval f=.func (.func g) #[] k/\k.size=b.length/\∀i c,b[i]?=some c->∃u,k[i]?=some u/\BN μ c u from p);have r:J3 μ (c.args.toList.map e.ev++b.map Vf) (c.args.map a.eval++k):=by
  refine⟨by simp[z],λi x d=>?_⟩;rw[Xp] at d;split at d;rename_i j;rw[Y9] at d;cases hy:c.args.toList[i]? with
  |none=>simp[hy] at d
  |some y=>?_
  rw[hy] at d;simp only[Yp,Ya] at d;subst d;refine⟨a.eval y,?_,ZT n y⟩;simp at j;rw[XD sO];have B:c.args[i]?=some y:=sU hy;simp[B];rename_i j;simp only[Y9,Yd,Yw] at d j;cases hy:b[i-c.args.size]? with
  |none=>rw[hy] at d;simp at d
  |some y=>?_
  rw[hy] at d;simp only[Yp,Ya] at d;subst d;have⟨u,H,m⟩:=s _ _ hy;refine⟨u,?_,?_⟩;rw[XA sO];simpa using H;cases y with
  |lab l=>exact m
  |rp cs=>exact m
 have⟨u,t,m⟩:=I Γ μ w _ q r;refine WR (w':=w) ?_ n (Mem.Le.refl μ) q D m F;simp[execOp,G,resolve,C,A,Deferred.ofValue,invoke,t]
def Z9n{t}(h:BT P t=true):∃a,P.underlying t=some (.slice a):=by unfold BT at h;split at h;exact⟨_,by assumption⟩;cases h
def Z33{t b d a c u v}(e:P.underlying t=some (.slice d))(f:P.underlying b=some (.slice a)):(Builtin.append_ #[t,b] c #[u,v]).run P w=(Builtin.append_ #[t,t] c #[u,v]).run P w:=by
 cases u<;>simp[Builtin.append_,run_underlying e,run_underlying f]
def Kx{c b}(ho:o.op=.call c)(f:(execOp a.eval o).run P w=(execOp a.eval {o with op:=.call b}).run P w)(e:WV P Γ μ {o with op:=.call b} a w K):WV P Γ μ o a w K:=by
 intro next Q d
 have:=e next Q d
 unfold Oper.wp at this|-
 rwa [f]
def O3{c:Call}(m:o.op=.call c)(k:c.callee=.builtin .append){t d}(ht:c.argTypes.toList=[t,d])(l:(ZC P t).isSome=true)(p:BT P d=true){s x}(r:c.args.toList.map e.ev=[.one s,.one x]):
  (execOp a.eval o).run P w=(execOp a.eval {o with op:=.call {c with argTypes:=#[t,t]}}).run P w:=by
 obtain⟨y,u,hy,-,-⟩:=ET r;have f:c.args=#[y,u]:=by cases hq:c.args;simp_all
 have j:c.argTypes=#[t,d]:=by cases hq:c.argTypes;simp_all
 have⟨⟨el,n,b⟩,g⟩:=Option.isSome_iff_exists.1 l;have⟨i,z,q,_⟩:=Ae g;have⟨ae,h⟩:=Z9n p;simp[execOp,m,resolve,k,j,f,invoke,builtin,Z33 q h]
def Z5y{c}(i:o.op=.call c)(h:c.callee=.builtin .copy){t b}(ht:c.argTypes.toList=[t,b]){s x}(j:c.args.toList.map e.ev=[.one s,.one x]):
  (execOp a.eval o).run P w=(execOp a.eval {o with op:=.call {c with argTypes:=#[t,t]}}).run P w:=by
 obtain⟨y,k,hy,-,-⟩:=ET j;have d:c.args=#[y,k]:=by cases hq:c.args;simp_all
 have f:c.argTypes=#[t,b]:=by cases hq:c.argTypes;simp_all
 have g:∀u v,Builtin.copy_ #[t,b] o.type #[u,v]=Builtin.copy_ #[t,t] o.type #[u,v]:=λ_ _=>rfl;simp[execOp,i,resolve,h,f,d,invoke,builtin,g]
def QV(i:Inv Γ h μ w)(d:ZF μ e a)(j:Wh o e)(b:Zl P o e h K):WV P Γ μ o a w K:=by
 cases ho:o.op with
 |store t x y=>exact Z5a i d j ho b
 |box t x=>exact Z9u i d j ho b
 |alloc t=>exact Z5h i d j ho b
 |build t ps=>exact Z5f i d j ho b
 |buildSlice t len ps=>exact Z1g i d j ho b
 |binOp op t x y u=>exact Z5g i d j ho b
 |makeSlice t x y=>simp only[Zl,ho] at b;exact Z7d i d j ho b
 |call c=>?_
 |_=>
   simp only[Zl,ho] at b;split at b;rename_i v z;exact Lj i d j (by rwa [ho]) b;exact b.elim
 simp only[Zl,ho] at b;split at b;rename_i f k;split at b;rename_i g caps q;rcases b with⟨ac,cs,p,A,b⟩|b|⟨v,l,B⟩;exact Z5d i d j ho k q p A b;exact Z5e i d j ho k q b;exact Z5c i d j ho k q l B;exact b.elim;rename_i k;split at b;rename_i x t l m;exact Z9s i d j ho k m l b;exact b.elim;rename_i k;split at b;rename_i s x t u l m;rcases b with⟨rfl|r,b|b⟩|b;exact Oc i d j ho k m l b;exact O2 i d j ho k m l b;refine Kx ho (O3 ho k m (by unfold BF at b;exact Option.isSome_iff_ne_none.2 λn=>by rw[n] at b;exact b) r l) (Oc i d j rfl k rfl l b);refine Kx ho (O3 ho k m (by unfold BE at b;exact Option.isSome_iff_ne_none.2 λn=>by rw[n] at b;exact b) r l) (O2 i d j rfl k rfl l b);exact Z2v i d j ho k m l b;exact b.elim;rename_i k;split at b;rename_i s t l m;exact Z9t i d j ho k m l b;exact b.elim;rename_i k;split at b;rename_i s x t u l m;obtain⟨rfl|_,b⟩:=b;exact Pa i d j ho k m l b;exact Kx ho (Z5y ho k m l) (Pa i d j rfl k rfl l b);exact b.elim;rename_i k;split at b;rename_i s t l m;exact Z5b i d j ho k m l b;exact b.elim;split at b;rename_i v z;exact Lj i d j (by rwa [ho]) b;exact b.elim
def Oq{c}(l:ZF μ e a){j:Nat}{b}(f:AY c.toList e j=.one (.d (.bool b))):yielded c a.tmps j=some b:=by
 unfold AY at f;split at f;rename_i o n;split at f;rename_i d m;have i:=l.2.2 d;rw[f] at i;have g:=RepD.jF i;have h:d<a.tmps.size:=by rcases Yx d a.tmps.size with h1|h1;exact h1;rw[Xe,Xw h1] at g;simp[undef] at g
 have k:c[j]?=some o:=sU n;unfold yielded;rw[k];simp only[Option.bind_some,m,Xo h];rw[Xe,Xo h] at g;simp at g;rw[g];cases f;cases f
def NP{b}(l:ZF μ e a){j:Nat}(g:AY b.toList e j=.undef):yielded b a.tmps j=none:=by
 unfold AY at g;split at g;rename_i m i;have c:b[j]?=some m:=sU i;split at g;rename_i d h;have k:=l.2.2 d;rw[g] at k;have f:=k;unfold yielded;rw[c];simp only[Option.bind_some,h];rw[Xe] at f;cases hx:a.tmps[d]? with
 |none=>rfl
 |some u=>rw[hx] at f;simp at f;rw[f];rfl
 rename_i h;unfold yielded;rw[c];simp[h];rename_i i;have c:b[j]?=none:=sU i;unfold yielded;rw[c];rfl
def Kr{all Q N μ0}(s:∀q r μ' a' w',N q r->Inv Γ r μ' w'->ZF μ' q a'->Mem.Le μ0 μ'->Q .normal a' w'):
  ∀l {e:Env} {h:HS} {μ:Mem} {a:Act} {w:World},Inv Γ h μ w->ZF μ e a->Mem.Le μ0 μ->WX P all.toList l e h N->wpList P all Q l a w
 |[],e,h,μ,a,w,n,f,m,c=>s _ _ _ _ _ c n f m
 |o::l,e,h,μ,a,w,n,f,m,c=>by
   have⟨p,c⟩:=c;unfold wpList;have skip:WX P all.toList l (e.put o.dst .undef) h N->wpList P all Q l (a.put o.dst undef) w:=λt=>
    Kr s l n (f.put (λd x=>by unfold Wh at p;rw[x] at p;exact p) (v:=.undef) rfl) m t
   have go:Zl P o e h (λe h=>WX P all.toList l e h N)->o.wp P a w (wpList P all Q l) Q:=λt=>
    QV n f p t _ _ (λq r μ' a' w' hk hI' hE' hle'=>Kr s l hI' hE' (m.trans hle') hk)
   split at c;rename_i g;rw[if_pos (by simp[Region.wanted,g])];exact .inl (go c);rename_i j i g;split at c;rename_i b u;have k:=Oq f u;by_cases hb:b=i;rw[if_pos (by simp[Region.wanted,g,k,hb])];exact .inl (go (c.1 hb));rw[if_neg (by simp[Region.wanted,g,k,hb])];exact skip (c.2 hb);rename_i u;have k:=NP f u;rw[if_neg (by simp[Region.wanted,g,k])];exact skip c;exact c.elim
def UL:∀c Q e h,vc P c Q e h->Wy P c Q e h
 | .skip,Q,e,h,b=>λΓ a w μ f d=>wp_skip ⟨e,h,μ,b,f,d,.refl μ⟩
 | .region id ops false,Q,e,h,b=>λΓ a w μ f d=>wp_region_list (Kr (λk l μ' o w' v i g j=>⟨k,l,μ',v,i,g,j⟩) ops.toList f d (.refl μ) b)
 | .region id ops true,Q,e,h,b=>b
 | .seq x y,Q,e,h,b=>λΓ a w μ f d=>by
   refine wp_seq (Code.wp_mono ?_ (UL x _ e h b Γ a w μ f d));rintro n o w' ⟨k,l,μ',m,i,g,j⟩;cases n with
   |normal=>exact Code.wp_mono (λn a2 w2 ⟨s,u,μ2,A,B,C,D⟩=>⟨s,u,μ2,A,B,C,j.trans D⟩) (UL y Q k l m Γ o w' μ' i g)
   |_=>exact⟨k,l,μ',m,i,g,j⟩
 | .cond c x y,Q,e,h,b=>λΓ a w μ f d=>by
   simp only[vc] at b;split at b;rename_i t z;have q:=ZT d c;rw[z] at q;have r:=RepD.jF q;refine wp_cond_split r (λp=>UL x Q e h (b.1 p) Γ a w μ f d) (λp=>UL y Q e h (b.2 p) Γ a w μ f d);exact b.elim
 | .block id x,Q,e,h,b=>λΓ a w μ f d=>by
   refine wp_block (Code.wp_mono ?_ (UL x _ e h b Γ a w μ f d));rintro n o w' ⟨k,l,μ',m,i,g,j⟩;cases n with
   |exit id'=>?_
   |_=>exact⟨k,l,μ',m,i,g,j⟩
   simp only[DE] at m;simp only[Exit.inBlock];split at m;rename_i hid;rw[if_pos hid];exact⟨k,l,μ',m,i,g,j⟩;rename_i hid;rw[if_neg hid];exact⟨k,l,μ',m,i,g,j⟩
 | .exit id,Q,e,h,b=>λΓ a w μ f d=>wp_exit ⟨e,h,μ,b,f,d,.refl μ⟩
 | .ret,Q,e,h,b=>λΓ a w μ f d=>wp_ret ⟨e,h,μ,b,f,d,.refl μ⟩
 | .loop _,_,_,_,b=>b
 | .rangeFunc ..,_,_,_,b=>b
 | .scope _,_,_,_,b=>b
 | .label _,_,_,_,b=>b
 | .goto _,_,_,_,b=>b
 | .refuse _,_,_,_,b=>b
def Wy.mono{c Q b}(m:Wy P c Q e h)(l:∀x e h,Q x e h->b x e h):Wy P c b e h:=λΓ a w μ hI hE=>
 Code.wp_mono (by rintro ex a' w' ⟨j,k,μ',g,f,d,i⟩;exact⟨j,k,μ',l _ _ _ g,f,d,i⟩) (m Γ a w μ hI hE)
def Wy.loop{c Q}(f:Nat->Env->HS->Prop)(n:Nat)(O:f n e h)
  (o:∀n e h,f n e h->vc P c (Vn (λB C=>∃D,D<n/\f D B C) Q) e h):Wy P (.loop c) Q e h:=by
 intro Γ a w μ hI hE;intro b k E;have G:∀n e h a w μ,f n e h->Inv Γ h μ w->ZF μ e a->
   ∃t A w',(∃B C μ',Q t B C/\Inv Γ C μ' w'/\ZF μ' B A/\Mem.Le μ μ')/\Arrives P (lone (b.at a (.code c::.inLoop c::k)) E w) b k E t A w':=by
  intro n
  induction n using Nat.strongRecOn with|_ n ih=>?_
  intro e h a w μ hIn hI hE;have⟨t,s,y,⟨u,v,μ₁,j,r,q,p⟩,g⟩:=UL c _ e h (o n e h hIn) Γ a w μ hI hE b (.inLoop c::k) E;cases t with
  |normal=>?_
  |exit id=>exact⟨_,s,y,⟨u,v,μ₁,j,r,q,p⟩,.pass rfl (λ_ _=>.inl I) g⟩
  |goto l=>exact⟨_,s,y,⟨u,v,μ₁,j,r,q,p⟩,.pass rfl (λ_ _=>.inl I) g⟩
  |ret=>exact⟨_,s,y,⟨u,v,μ₁,j,r,q,p⟩,.pass rfl (λ_ _=>.inl I) g⟩
  |panic ch=>exact⟨_,s,y,⟨u,v,μ₁,j,r,q,p⟩,.pass rfl (λ_ _=>.inl I) g⟩
  |outgrown=>exact⟨_,s,y,⟨u,v,μ₁,j,r,q,p⟩,.pass rfl (λ_ _=>.inl I) g⟩
  have⟨D,F,K⟩:=j;have⟨M,L,W,⟨N,R,μ₃,S,T,U,V⟩,J⟩:=ih D F u v s y μ₁ K r q;exact⟨M,L,W,⟨N,R,μ₃,S,T,U,p.trans V⟩,.of_steps (Steps.trans g (.one step_inLoop)) J⟩
 have⟨t,A,w',j,g⟩:=G n e h a w μ O hI hE;exact⟨t,A,w',j,.of_steps (.one step_loop) g⟩
end
end Go.Am
end
section
namespace Go.Am
open Go.RowKit (Below)
def ZX(P:Program)(e:Env)(h:HS):ResultVar->aB V
 | .tmp t=>some (e.get t)
 | .cell t T=>match W9 P T with
   |some (a,n)=>match e.get t with
     | .one c=>match BL h c n with
       |some l=>DV a l
       |none=>none
     |_=>none
   |none=>none
def ZK(P:Program)(e:Env)(h:HS):List ResultVar->aB (List V)
 |[]=>some []
 |r::rs=>match ZX P e h r,ZK P e h rs with
   |some v,some vs=>some (v::vs)
   |_,_=>none
def UX(h:HS)(a:Nat->aB Z2)(c:C):RC->Prop
 | .d x=>c.toD=some x
 | .fresh j es xs=>match a j with
   |some l=>c=.own l xs/\h.arr l=some (xs.length,es)
   |none=>c=.nil/\xs=[]
def DL(h:HS)(a:Nat->aB Z2):aD->List RC->Prop
 |[],[]=>True
 |c::cs,r::rs=>UX h a c r/\DL h a cs rs
 |_,_=>False
def Ub(h:HS)(a:Nat->aB Z2)(v:V):RV->Prop
 | .one r=>match v with
   | .one c=>UX h a c r
   |_=>False
 | .agg rs=>match v with
   | .agg cs=>DL h a cs rs
   |_=>False
 | .tup _=>False
def H7(h:HS)(a:Nat->aB Z2):List V->List RV->Prop
 |[],[]=>True
 |v::vs,r::rs=>Ub h a v r/\H7 h a vs rs
 |_,_=>False
def CI(h:HS)(b:Nat->aB Z2)(a:List V):RV->Prop
 | .tup rs=>a.length≠1/\H7 h b a rs
 | .one c=>match a with
   |[v]=>Ub h b v (.one c)
   |_=>False
 | .agg cs=>match a with
   |[v]=>Ub h b v (.agg cs)
   |_=>False
def UT(P:Program)(a:List ResultVar)(r:RV)(e:Env)(h:HS):Prop:=
 match ZK P e h a with
 |some vs=>∃ren:Nat->aB Z2,(∀j j' l,ren j=some l->ren j'=some l->j=j')/\CI h ren vs r
 |none=>False
def Jr(P:Program)(a:List ResultVar)(r:RV):Exit->Env->HS->Prop
 | .normal,e,h=>UT P a r e h
 | .ret,e,h=>UT P a r e h
 |_,_,_=>False
def AV.toV:AV->V
 | .one (.d x)=>.one (.d x)
 | .one (.rp cs)=>.one (.rp cs)
 | .one (.fn f caps)=>.one (.fn f (caps.map Cap.rp))
 | .agg ds=>.agg (ds.map C.d)
def CW(n:Nat)(b:List AV):Env:={n,get:=λk=>match b[k]? with
 |some a=>a.toV
 |none=>.undef}
section
variable{P:Program}{w:World}{a:Act}{e:Env}{h:HS}{μ:Mem}{Γ:Ctx}
def Z5j(A:Inv Γ h μ w){t c p e}{n:Nat}{l v}(q:W9 P t=some (e,n))(C:We μ c p)(F:BL h c n=some l)(G:DV e l=some v):
  ∃b u,p=.pointer (some b)/\(loadVar t b).run P w=.ok u w/\W6 μ v u:=by
 have⟨d,i,o,k,D,E⟩:=Lw q;have⟨r,b,f,j,z⟩:=O0 A C F;have⟨H,y,B,g⟩:=z.list;have m:=LA B G;cases a:e with|true=>?_|false=>?_;refine⟨_,_,j,?_,m.1 a⟩
 have:=run_loadCells_list (P:=P) w ⟨b,f,none⟩ H g
 simp[loadVar,Cr o,k,a,sizeOf,typeInfo,D,E,<-r,<-y,this];have⟨u,x,s⟩:=m.2 a;refine⟨_,u,j,?_,s⟩;subst x
 have:=g 0 u I
 rw[UN] at this;simp only[Xl] at this;simp[loadVar,Cr o,k,a,run_load,this]
def Fi(a:Array Value):ResultVar->Sem Value
 | .tmp t=>pure (a.getD t undef)
 | .cell p t=>do loadVar t (<-asAddr (a.getD p undef))
def OB(b a):results b a=(do
  let vs<-b.results.mapM (Fi a)
  pure (if h:vs.size=1 then vs[0] else .tuple vs)):=by
 unfold results
 congr 1
def LU(s:Inv Γ h μ w)(m:ZF μ e a):∀rs j,ZK P e h rs=some j->
  ∃g:List Value,(rs.mapM (Fi a.tmps)).run P w=.ok g w/\g.length=j.length/\
    ∀(i:Nat) v,j[i]?=some v->∃u,g[i]?=some u/\W6 μ v u
 |[],j,hv=>by simp[ZK] at hv;subst hv;exact⟨[],by simp,rfl,λi v f=>by simp at f⟩
 |r::rs,j,hv=>by
   simp only[ZK] at hv;split at hv;rename_i v q d A;injection hv with hv
   subst hv;have⟨g,B,C,D⟩:=LU s m rs q A;have o:∃u,(Fi a.tmps r).run P w=.ok u w/\W6 μ v u:=by
    cases r with|tmp t=>?_|cell p t=>?_;simp[ZX] at d;subst d;exact⟨a.tmps.getD t undef,rfl,m.2.2 t⟩;simp only[ZX] at d;split at d;rename_i ag n z;split at d;rename_i c H;split at d;rename_i l J;have x:=m.2.2 p;rw[H] at x;have⟨b,u,G,y,k⟩:=Z5j s z (show We μ c _ from x) J d;exact⟨u,by simp only[Fi,G,asAddr];simpa using y,k⟩;cases d;cases d;cases d
   have⟨u,K,k⟩:=o;refine⟨u::g,?_,by simp[C],λi M f=>?_⟩;rw[List.mapM_cons,Sem.run_bind,K,Result.andThen_ok,Sem.run_bind,B,Result.andThen_ok];rfl;cases i with
   |zero=>simp at f;subst f;exact⟨u,I,k⟩
   |succ i=>have⟨L,E,F⟩:=D i M (sU f);exact⟨L,sU E,F⟩
   cases hv
def Un(μ:Mem)(a:Nat->aB Z2)(j:Nat):aB Nat×Nat:=
 match a j with
 |some l=>(μ.loc l).getD (none,0)
 |none=>(none,0)
def Qu{b c r v}(e:We μ c v)(a:UX h b c r):DM μ.cell (Un μ b) r v:=by
 cases r with
 |d x=>exact Uj e a
 |fresh j es xs=>?_
 simp only[UX] at a;split at a;rename_i l f;obtain⟨rfl,_⟩:=a;have⟨i,g,cap,k,m⟩:=e;refine⟨i,?_⟩;simp only[Un,f,k,Option.getD_some];exact m;rename_i f;obtain⟨rfl,rfl⟩:=a;refine⟨Uj e rfl,?_⟩;simp only[Un,f];exact e
def Z86{j:Nat->aB Z2}:∀{b:aD} {a:List RC} {g:Array Value},ZL μ b g->DL h j b a->g.size=a.length/\∀(i:Nat) r,a[i]?=some r->∃u,g[i]?=some u/\DM μ.cell (Un μ j) r u:=by
 intro b a g m f;have e:b.length=a.length/\∀(i:Nat) r,a[i]?=some r->∃c,b[i]?=some c/\UX h j c r:=by
  clear m
  induction b generalizing a with|nil=>?_|cons c b ih=>?_
  cases a with
  |nil=>exact⟨rfl,λi r d=>by simp at d⟩
  |cons r a=>exact f.elim
  cases a with
  |nil=>exact f.elim
  |cons r a=>?_
  have⟨k,l⟩:=ih f.2;refine⟨by simp[k],λi t d=>?_⟩;cases i with
  |zero=>simp at d;subst d;exact⟨c,I,f.1⟩
  |succ i=>have⟨o,p,q⟩:=l i t (sU d);exact⟨o,sU p,q⟩
 refine⟨by rw[m.1,e.1],λi r d=>?_⟩;have⟨c,k,l⟩:=e.2 i r d;have⟨u,s,n⟩:=m.2 i c k;exact⟨u,s,Qu n l⟩
def Py{b v r u}(c:W6 μ v u)(a:Ub h b v r):CJ μ.cell (Un μ b) r u:=by
 cases r with
 |one r=>cases v<;>simp only[Ub] at a;exact Qu c a
 |agg rs=>?_
 |tup rs=>exact a.elim
 cases v<;>simp only[Ub] at a;have⟨i,d,e⟩:=c;have⟨f,g⟩:=Z86 e a;exact⟨i,d,f,g⟩
def Rp{a c r}(b:UX h a c r):∀x∈r.fr,match a x.1 with
  |some l=>h.arr l=some (x.2.2,x.2.1)
  |none=>x.2.2=0:=by
 cases r with
 |d x=>simp[RC.fr]
 |fresh j es xs=>?_
 intro x f;simp[RC.fr] at f;subst f;simp only[UX] at b;split at b;rename_i l e;rw[e];exact b.2;rename_i e;rw[e];rw[b.2];rfl
def Qt{d:Nat->aB Z2}:∀{e:aD} {b:List RC},DL h d e b->∀x∈b.flatMap RC.fr,match d x.1 with
  |some l=>h.arr l=some (x.2.2,x.2.1)
  |none=>x.2.2=0
 |[],[],_,x,hx=>by simp at hx
 |c::e,r::b,a,x,hx=>by
   rw[YI,Y3] at hx;rcases hx with hx|hx;exact Rp a.1 x hx;exact Qt a.2 x hx
 |[],_::_,a,_,_=>a.elim
 |_::_,[],a,_,_=>a.elim
def Qs{b v r}(a:Ub h b v r):∀x∈RV1.fr r,match b x.1 with
  |some l=>h.arr l=some (x.2.2,x.2.1)
  |none=>x.2.2=0:=by
 cases r with
 |one r=>cases v<;>simp only[Ub] at a;exact Rp a
 |agg rs=>cases v<;>simp only[Ub] at a;exact Qt a
 |tup rs=>exact a.elim
def Qr{d:Nat->aB Z2}:∀{e:List V} {b:List RV},H7 h d e b->∀x∈b.flatMap RV1.fr,match d x.1 with
  |some l=>h.arr l=some (x.2.2,x.2.1)
  |none=>x.2.2=0
 |[],[],_,x,hx=>by simp at hx
 |c::cs,r::b,a,x,hx=>by
   rw[YI,Y3] at hx;rcases hx with hx|hx;exact Qs a.1 x hx;exact Qr a.2 x hx
 |[],_::_,a,_,_=>a.elim
 |_::_,[],a,_,_=>a.elim
def Px{b}:∀{e:List V} {d:List RV},H7 h b e d->e.length=d.length/\∀(i:Nat) r,d[i]?=some r->∃v,e[i]?=some v/\Ub h b v r
 |[],[],_=>⟨rfl,λi r a=>by simp at a⟩
 |c::cs,r::d,hr=>by
   have⟨g,j⟩:=Px hr.2;refine⟨by simp[g],λi m a=>?_⟩;cases i with
   |zero=>simp at a;subst a;exact⟨c,I,hr.1⟩
   |succ i=>have⟨f,k,l⟩:=j i m (sU a);exact⟨f,sU k,l⟩
 |[],_::_,hr=>hr.elim
 |_::_,[],hr=>hr.elim
def Q9(p:Inv Γ h μ w){d:Nat->aB Z2}(t:∀j j' l,d j=some l->d j'=some l->j=j'){n:List (Nat×Nat×Nat)}
  (r:∀x∈n,match d x.1 with
   |some l=>h.arr l=some (x.2.2,x.2.1)
   |none=>x.2.2=0):F2 μ.cell Γ.w0 w (Un μ d) n:=by
 have m:∀x∈n,∀b,(Un μ d x.1).1=some b->∃l c,d x.1=some l/\h.arr l=some (x.2.2,x.2.1)/\μ.loc l=some (some b,c):=by
  intro x k b i;have a:=r x k;cases e:d x.1 with
  |none=>simp[Un,e] at i
  |some l=>?_
  rw[e] at a;have⟨s,f,_⟩:=p.arr l _ _ a;simp[Un,e,f] at i;have⟨g,c⟩:=s;simp only at i;subst i;exact⟨l,c,rfl,a,f⟩
 refine⟨λx k=>?_,λx k y C b i q=>?_⟩;have a:=r x k;cases e:d x.1 with|none=>?_|some l=>?_;rw[e] at a;simp only[Un,e];exact⟨λ_=>⟨rfl,a⟩,λg B=>by cases B⟩;rw[e] at a;have⟨s,f,o⟩:=p.arr l _ _ a;simp only[Un,e,f,Option.getD_some];exact o;have⟨l,c,a,f,o⟩:=m x k b i;have⟨D,u,v,z,A⟩:=m y C b q
 have:=p.inj l D b c u (.inr (by rw[f];simp)) (.inr (by rw[z];simp)) o A
 subst this;exact t _ _ l a v
def S6{m t x v}(b:DN m t x v):W6 {cell:=m,tmp:=t,loc:=λ_=>none} x.toV v:=by
 cases x with|one y=>?_|agg ds=>?_;cases y with
 |d x=>exact b
 |rp cs=>exact b
 |fn f caps=>?_
 have⟨j,e,g,h⟩:=b;refine⟨j,e,by simp[g],λi c a=>?_⟩;rw[Y9] at a;cases hc:caps[i]? with
 |none=>simp[hc] at a
 |some ds=>?_
 simp[hc] at a;subst a;exact h i ds hc;have⟨j,e,g,h⟩:=b;refine⟨j,e,by simp[g],λi c a=>?_⟩;rw[Y9] at a;cases hc:ds[i]? with
 |none=>simp[hc] at a
 |some x=>?_
 simp[hc] at a;subst a;exact h i x hc
def Zq.qM{f}{fn:Func}{c}{n:Nat}{ars r}(hf:P.funcs[f]?=some fn)(hb:fn.body=some c)(ax:(fn.name== "runtime.NumGoroutine")=false)(hn:fn.ntmps=n){rs}(aq:fn.results.toList=rs)(has:ars.length<=n)
  (hv:vc P c (Jr P rs r) (CW n ars) HS.init):Zq P f ars r:=by
 subst aq;refine⟨⟨fn,hf,ax,by rw[hb];rfl⟩,λw m t vals hg hm ht ad=>?_⟩;have hI:Inv ⟨w,m,t,hg⟩ HS.init {cell:=m,tmp:=t,loc:=λ_=>none} w:=
  ⟨hm,rfl,ht,λb o v hv=>ht.lt hv,WL.refl _,λ_ _ _ _ h=>h,Below.refl _ _,λl cs hl=>by simp[HS.init] at hl,λl es n hl=>by simp[HS.init] at hl,
   λl l' b n n' hl=>by rcases hl with hl|hl<;>simp[HS.init] at hl,λl hl=>absurd rfl hl,λl hl=>by simp[HS.init] at hl⟩
 have hE:ZF {cell:=m,tmp:=t,loc:=λ_=>none} (CW n ars) {tmps:=vals++Array.replicate (fn.ntmps-vals.size) undef,defers:=[]}:=by
  refine⟨rfl,?_,λk=>?_⟩;simp[CW,ad.1,hn];omega;simp only[CW];cases hk:ars[k]? with|some x=>?_|none=>?_;have⟨u,hu,hr⟩:=ad.2 k x hk;have hlt:=(YQ.1 hu).1
  have:(vals++Array.replicate (fn.ntmps-vals.size) undef).getD k undef=u:=by rw[Xe,XD hlt,hu];rfl
  simp only[this];exact S6 hr;have hge:vals.size<=k:=by rw[ad.1];exact Y36.1 hk
  show(vals++Array.replicate (fn.ntmps-vals.size) undef).getD k undef=undef;rw[Xe,XA hge];cases hx:(Array.replicate (fn.ntmps-vals.size) undef)[k-vals.size]? with
  |none=>rfl
  |some u=>?_
  have⟨_,he⟩:=YQ.1 hx;simp at he;simp[he]
 refine calls_of_wp hf hb (Code.wp_mono ?_ (UL c _ _ _ hv ⟨w,m,t,hg⟩ _ w _ hI hE));rintro ex a' w' ⟨e',h',μ',hq,ae,aj,_⟩;have fin:UT P fn.results.toList r e' h'->a'.defers=[]/\∃v,(results fn a'.tmps).run P w'=.ok v w'/\∃v' m' al,Ending.returned v=.returned v'/\WL m m'/\(∀b o u,b<w.heap.size->m' b o=some u->m b o=some u)/\Vt m' w'/\
   Below w.heap.size w w'/\BP m' al r v'/\F2 m' w w' al r.fr:=by
  intro aa;unfold UT at aa;split at aa;rename_i vs aw;have⟨ac,af,aa⟩:=aa;have⟨us,ao,hlen,hR⟩:=LU ae aj fn.results.toList vs aw;have ap:(results fn a'.tmps).run P w'=.ok (if hh:us.toArray.size=1 then us.toArray[0] else .tuple us.toArray) w':=by
   rw[OB,Sem.run_bind,Array.mapM_eq_mapM_toList];have ah:(Functor.map List.toArray (fn.results.toList.mapM (Fi a'.tmps))).run P w'=.ok us.toArray w':=by rw[Sem.run_map,ao];rfl
   rw[ah];rfl
  refine⟨aj.1,_,ap,_,μ'.cell,Un μ' ac,rfl,ae.ext,λb o u hb hu=>ae.old b o u hb hu,ae.cell,ae.below,?_⟩;have one:∀v,vs=[v]->(hq:Ub h' ac v r)->r.fr=RV1.fr r->(∀u,BP μ'.cell (Un μ' ac) r u↔CJ μ'.cell (Un μ' ac) r u)->
    BP μ'.cell (Un μ' ac) r (if hh:us.toArray.size=1 then us.toArray[0] else .tuple us.toArray)/\F2 μ'.cell w w' (Un μ' ac) r.fr:=by
   intro v ab hq ak am;subst ab;have⟨u,hu,au⟩:=hR 0 v I;obtain⟨u',rfl⟩:∃u',us=[u']:=by
    match us,hlen with
    |[u'],_=>exact⟨u',rfl⟩
   obtain rfl:u'=u:=sU hu;refine⟨(am _).2 ?_,?_⟩;exact Py au hq;rw[ak];exact Q9 ae af (Qs hq)
  cases r with|tup rs=>?_|one c=>?_|agg cs=>?_;have⟨hne,ag⟩:=aa;have⟨h1,h2⟩:=Px ag;have ar:¬us.toArray.size=1:=by simp[hlen];exact hne
  rw[dif_neg ar];refine⟨⟨us.toArray,rfl,by simp[hlen,h1],λi x hi=>?_⟩,Q9 ae af (Qr ag)⟩;have⟨v,h3,h4⟩:=h2 i x hi;have⟨u,h5,h6⟩:=hR i v h3;exact⟨u,sU h5,Py h6 h4⟩;have ab:∃v,vs=[v]/\Ub h' ac v (.one c):=by
   match vs,aa with
   |[v],aa=>exact⟨v,rfl,aa⟩
  have⟨v,ab,hq⟩:=ab;exact one v ab hq rfl (λu=>Iff.rfl);have ab:∃v,vs=[v]/\Ub h' ac v (.agg cs):=by
   match vs,aa with
   |[v],aa=>exact⟨v,rfl,aa⟩
  have⟨v,ab,hq⟩:=ab;exact one v ab hq rfl (λu=>Iff.rfl);exact aa.elim
 cases ex with
 |normal=>exact fin hq
 |ret=>exact fin hq
 |exit id=>exact hq.elim
 |goto l=>exact hq.elim
 |panic ch=>exact hq.elim
 |outgrown=>exact hq.elim
end
end Go.Am
end
section
namespace Go.Am
def Vh(e:Env)(h:HS):Prop:=∃Γ μ w a,Inv Γ h μ w∧ZF μ e a
def ZG(h h1:HS):Prop:=∀l cs,h.a l=some cs→h1.a l=some cs
def ZG.refl(h):ZG h h:=λ_ _ x=>x
def Vh.fresh{e h}(hr:Vh e h){l cs}(hl:h.a l=some cs):l.1<h.p:=by
  obtain⟨Γ,μ,w,a,hI,_⟩:=hr
  exact hI.jH (.inl (by simp[hl]))
section
variable{P:Program}
def Z3g{h h1}(hb:ZG h h1){c}{n:Nat}{l}(hr:BL h c n=some l):BL h1 c n=some l:=by
  cases c with
  |ptr k off=>
    simp only[BL] at hr⊢
    cases hk:h.a k with
    |none=>simp[hk] at hr
    |some cs=>rw[hb k cs hk];simpa [hk] using hr
  |rp cs=>exact hr
  |_=>cases hr
def Od{α β:Type}{f g:α→aB β}:∀{l:List α},(∀x∈l,f x=g x)→l.mapM f=l.mapM g
  |[],_=>rfl
  |x::l,h=>by
    rw[List.mapM_cons,List.mapM_cons,h x (by simp),Od (l:=l) (λy hy=>h y (by simp[hy]))]
def B5:Op→Bool
  | .load _ _=>true
  |_=>false
def Qe{op}{e e1:Env}{h h1}(ho:∀x∈op.operands,e1.ev x=e.ev x)(hb:B5 op=true→ZG h h1){v}(hv:ZH P op e h=some v):ZH P op e1 h1=some v:=by
  cases op with
  |load t x=>
    have h1':=ho x (by simp[Op.operands])
    simp only[ZH] at hv⊢
    rw[h1']
    cases hl:W9 P t with
    |none=>simp[hl] at hv
    |some z=>
      obtain⟨ag,n⟩:=z
      simp only[hl] at hv⊢
      cases hx:e.ev x with
      |one c=>
        simp only[hx] at hv⊢
        cases hr:BL h c n with
        |none=>simp[hr] at hv
        |some l=>rw[Z3g (hb rfl) hr];simpa [hr] using hv
      |_=>simp[hx] at hv
  |makeFunc fn first caps=>
    cases fn with
    |func f=>
      simp only[ZH] at hv⊢
      have hm:caps.toList.mapM (λx=>match e1.ev x with| .one (.ptr l 0)=>some (Cap.lab l)| .one (.rp cs)=>some (Cap.rp cs)|_=>none)=
          caps.toList.mapM (λx=>match e.ev x with| .one (.ptr l 0)=>some (Cap.lab l)| .one (.rp cs)=>some (Cap.rp cs)|_=>none):=
        Od λx hx=>by rw[ho x (by simp[Op.operands];exact .inr (by simpa using hx))]
      cases hemp:first.isEmpty with
      |false=>simp[hemp] at hv
      |true=>
        simp only[hemp,if_true] at hv⊢
        exact(congrArg (λz:aB (List Cap)=>match z with|some l=>some (V.one (C.fn f l))|none=>none) hm).trans hv
    |_=>simp[ZH] at hv
  |call c=>
    simp only[ZH] at hv⊢
    have ha:∀x∈c.args.toList,e1.ev x=e.ev x:=λx hx=>ho x (by simp[Op.operands,Call.operands];exact .inr (by simpa using hx))
    split at hv
    · rename_i x y hc hl
      rw[hl] at ha
      simp only[ha x (by simp),ha y (by simp)]
      exact hv
    · rename_i x y hc hl
      rw[hl] at ha
      simp only[ha x (by simp),ha y (by simp)]
      exact hv
    ·cases hv
  |slice t x lo hi mx=>
    have hx:=ho x (by simp[Op.operands])
    have hb:∀y:aB Operand,(∀z,y=some z→z∈(Op.slice t x lo hi mx).operands)→AH e1 y=AH e y:=λy hy=>by
      cases y with
      |none=>rfl
      |some z=>simp only[AH,ho z (hy z rfl)]
    simp only[ZH,hx,hb lo (λz hz=>by simp[Op.operands,hz]),hb hi (λz hz=>by simp[Op.operands,hz]),hb mx (λz hz=>by simp[Op.operands,hz])] at hv⊢
    cases hi with
    |none=>cases lo<;>cases mx<;>exact hv
    |some y=>
      have hy:=ho y (by simp[Op.operands])
      cases lo<;>cases mx<;>first|exact hv|(simp only[hy] at hv⊢;exact hv)
  |_=>simp only[Op.operands] at ho;simp only[ZH] at hv⊢;simp_all
def U4:Op→Bool
  | .move _=>true
  | .assign _=>true
  | .pick _ _ _=>true
  | .unOp _ _ _=>true
  | .fieldAddr _ _ _=>true
  | .field _ _ _=>true
  | .load _ _=>true
  | .indexAddr _ _ _=>true
  | .index _ _ _=>true
  | .extract _ _=>true
  | .slice _ _ _ _ _=>true
  | .makeFunc _ _ _=>true
  | .nilCheck _=>true
  | .convert _ _ _=>true
  | .binOp _ _ _ y _=>!Ui y
  | .call c=>match c.callee with
    | .builtin .len=>true
    | .builtin .max=>true
    | .builtin .min=>true
    |_=>false
  |_=>false
def Ad:Op→Bool
  | .store _ _ _=>true
  | .call c=>match c.callee with
    | .builtin .append=>true
    | .builtin .copy=>true
    | .builtin .clear=>true
    |_=>false
  |_=>false
def Mx(P:Program)(o:Oper)(e:Env)(h:HS)(v:V):Prop:=
  ∀e1 h1 K,(∀x∈o.op.operands,e1.ev x=e.ev x)→(B5 o.op=true→ZG h h1)→K (e1.put o.dst v) h1→Zl P o e1 h1 K
def GA{e h d v}(hr:Vh e h)(hd:∀k,d=some k→k<e.n)(hv:∀Γ μ w a,Inv Γ h μ w→ZF μ e a→∃u,W6 μ v u):Vh (e.put d v) h:=by
  obtain⟨Γ,μ,w,a,hI,hE⟩:=hr
  obtain⟨u,hu⟩:=hv Γ μ w a hI hE
  exact⟨Γ,μ,w,_,hI,hE.put hd hu⟩
def F4{o e}(hd:Wh o e):∀k,o.dst=some k→k<e.n:=λk hk=>by
  unfold Wh at hd;rw[hk] at hd;exact hd
def Zaa{o e h}{K:Env→HS→Prop}{v:V}(hr:Vh e h)(hd:Wh o e)(hv:ZH P o.op e h=some v)(hK:K (e.put o.dst v) h)
    (hvc:∀e1 h1 (K1:Env→HS→Prop),ZH P o.op e1 h1=some v→K1 (e1.put o.dst v) h1→Zl P o e1 h1 K1):
    ∃v,K (e.put o.dst v) h∧Vh (e.put o.dst v) h∧Mx P o e h v:=
  ⟨v,hK,GA hr (F4 hd) (λΓ μ w a hI hE=>by obtain⟨u,_,hu⟩:=KU hI hE hv;exact⟨u,hu⟩),
    λe1 h1 K1 ho hb hk=>hvc e1 h1 K1 (Qe ho hb hv) hk⟩
def Z5k{e h}(hr:Vh e h){x c xs}(hx:e.ev x= .one c)(hc:c.qE=some xs):xs.length≤Zz:=by
  obtain⟨Γ,μ,w,a,_,hE⟩:=hr
  have hv:=ZT hE x
  rw[hx] at hv
  cases c with
  |d y=>
    cases y with
    |sl ys=>
      simp[C.qE] at hc
      subst hc
      have hv':=hv
      generalize a.eval x=u at hv'
      cases hv' with
      |sl _ _ _ _ _ _ _ hl=>exact hl
    |_=>simp[C.qE] at hc
  |own l ys=>
    simp[C.qE] at hc
    subst hc
    have hv':=hv.1
    generalize a.eval x=u at hv'
    cases hv' with
    |sl _ _ _ _ _ _ _ hl=>exact hl
  |nil=>simp[C.qE] at hc;subst hc;simp
  |z=>simp[C.qE] at hc;subst hc;simp
  |_=>simp[C.qE] at hc
def Z7a{o}{e:Env}{h K}(hp:U4 o.op=true)(hr:Vh e h)(hd:Wh o e)(hv:Zl P o e h K):
    ∃v,K (e.put o.dst v) h∧Vh (e.put o.dst v) h∧Mx P o e h v:=by
  have eff_case:(∀(e:Env) (h:HS) (K:Env→HS→Prop),Zl P o e h K→∃v,ZH P o.op e h=some v∧K (e.put o.dst v) h)→
      (∀(e:Env) (h:HS) (K:Env→HS→Prop) v,ZH P o.op e h=some v→K (e.put o.dst v) h→Zl P o e h K)→∃v,K (e.put o.dst v) h∧Vh (e.put o.dst v) h∧Mx P o e h v:=λh1 h2=>by
    obtain⟨v,hve,hk⟩:=h1 _ _ _ hv
    exact Zaa hr hd hve hk (λe1 h1 K1 h3 h4=>h2 _ _ _ _ h3 h4)
  cases ho:o.op with
  |binOp op t x y t'=>
    have hnil:Ui y=false:=by rw[ho] at hp;simpa [U4] using hp
    simp only[Zl,ho,hnil,YX,if_false] at hv
    split at hv
    · rename_i cs cs' hx hy
      split at hv
      · rename_i a b ha hb
        refine⟨_,hv.2,GA hr (F4 hd) (λΓ μ w a _ _=>⟨_,RepD.bool _⟩),λe1 h1 K1 h2 h3 h4=>?_⟩
        rw[ho] at h2
        simp only[Zl,ho,hnil,YX,if_false,h2 x (by simp[Op.operands]),h2 y (by simp[Op.operands]),hx,hy,ha,hb]
        exact⟨hv.1,h4⟩
      ·exact hv.elim
    · rename_i hn
      split at hv
      · rename_i r hrr
        have he : ZH P o.op e h = some r := by rw [ho]; exact hrr
        refine ⟨r, hv, GA hr (F4 hd) (λΓ μ w a hI hE => by obtain ⟨u, _, hu⟩ := KU hI hE he; exact ⟨u, hu⟩), λe1 h1 K1 h2 h3 h4 => ?_⟩
        rw [ho] at h2
        simp only [Zl, ho, hnil, YX, if_false, h2 x (by simp [Op.operands]), h2 y (by simp [Op.operands])]
        generalize e.ev x = xq0 at *
        generalize e.ev y = yq0 at *
        cases xq0 with
        | agg cs => cases yq0 with
          | agg cs' => exact (hn cs cs' rfl rfl).elim
          | _ => simp only [hrr]; exact h4
        | _ => simp only [hrr]; exact h4
      · exact hv.elim
  | call c =>
    rw [ho] at hp
    cases hc : c.callee with
    | value f => simp [U4, hc] at hp
    | invoke r m => simp [U4, hc] at hp
    | builtin b =>
      cases b with
      | len =>
        simp only [Zl, ho, hc] at hv
        split at hv
        · rename_i x t hx ht
          obtain ⟨y, hy, hey⟩ := IY hx
          have key : ∃ n : Nat, K (e.put o.dst (WD .i64 n)) h ∧ ∀ e1 h1 K1, K1 (e1.put o.dst (WD .i64 n)) h1 → Cd P t x o e1 h1 K1 := by
            unfold Cd at hv ⊢
            cases hl : WN P t with
            | none => simp [hl] at hv
            | some s =>
              cases s with
              | true =>
                simp only [hl] at hv ⊢
                split at hv
                · exact ⟨_, hv, λe1 h1 K1 hk => hk⟩
                · exact hv.elim
              | false =>
                simp only [hl] at hv ⊢
                split at hv
                · exact ⟨_, hv, λe1 h1 K1 hk => hk⟩
                · split at hv
                  · rename_i xs hxs
                    refine ⟨xs.length, hv (Z5k hr hey hxs), λe1 h1 K1 hk => ?_⟩
                    exact λ_ => hk
                  · exact hv.elim
          obtain ⟨n, hk, hall⟩ := key
          refine ⟨_, hk, GA hr (F4 hd) (λΓ μ w a _ _ => ⟨_, RepD.int _ _⟩), λe1 h1 K1 h2 h3 h4 => ?_⟩
          rw [ho] at h2
          have h2' : e1.ev y = e.ev y := h2 y (by simp [Op.operands, Call.operands, hc]; have : y ∈ c.args.toList := by rw [hy]; simp
                                                  simpa using this)
          simp only [Zl, ho, hc, hy, ht, Yb, Yf, h2', hey]
          exact hall e1 h1 K1 h4
        · exact hv.elim
      | _ =>
        first
          | (simp [U4, hc] at hp; done)
          | exact eff_case (λe h K hv => by
              simp only [Zl, ho, hc] at hv ⊢
              split at hv
              · exact ⟨_, by assumption, hv⟩
              · exact hv.elim) (λe h K v h1 h2 => by
              rw [ho] at h1
              simp only [Zl, ho, hc, h1]
              exact h2)
  | _ =>
    first
      | (rw [ho] at hp; simp [U4] at hp; done)
      | exact eff_case (λe h K hv => by
          simp only [Zl, ho] at hv ⊢
          split at hv
          · exact ⟨_, by assumption, hv⟩
          · exact hv.elim) (λe h K v h1 h2 => by
          rw [ho] at h1
          simp only [Zl, ho, h1]
          exact h2)
end
end Go.Am
end
section
namespace Go.Am
section
variable{P:Program}
def Oi{b e d}:∀{c:List (Nat×Operand)} {a:aD},(∀x∈c.map (·.2),d.ev x=e.ev x)->Bb b d c a=Bb b e c a
 |[],_,_=>rfl
 |(f,x)::r,a,h=>by
   have g:=h x I;simp only[Bb,g];cases b[f]? with
   |none=>rfl
   |some z=>?_
   dsimp only
   split;exact Oi (λy i=>h y (by simp only[Yb,Y5];exact .inr i));rfl
def O4{e b n}:∀{a:List (Nat×Operand)} {k:Nat},(∀x∈a.map (·.2),b.ev x=e.ev x)->Uw b n a k=Uw e n a k
 |[],_,_=>rfl
 |(f,x)::r,k,h=>by
   have c:=h x I;simp only[Uw,c];rw[O4 (λy d=>h y (by simp only[Yb,Y5];exact .inr d))]
def O6{e b n}:∀{a:List (Nat×Operand)} {k:Nat},(∀x∈a.map (·.2),b.ev x=e.ev x)->B9 b n a k=B9 e n a k
 |[],_,_=>rfl
 |(f,x)::r,k,h=>by
   have c:=h x I;simp only[B9,c];rw[O6 (λy d=>h y (by simp only[Yb,Y5];exact .inr d))]
def Z40{f t c K e}(d:∀v,K v->e v)(a:DG P f t c K):DG P f t c e:=by
 have⟨g,a⟩:=a;refine⟨g,?_⟩;split at a;exact d _ a;exact d _ a;split at a;exact λb h=>d _ (a b h);exact a
def Z25{t c x d h K b}(f:∀v e,K v e->b v e)(a:BF P t c x d h K):BF P t c x d h b:=by unfold BF at a|-;split at a;split at a;exact⟨a.1,f _ _ a.2⟩;exact a;exact a
def Z1p{t c x d h K g}(e:∀v i,K v i->g v i)(a:BE P t c x d h K):BE P t c x d h g:=by
 unfold BE at a|-;split at a;split at a;have⟨k,m,n,o⟩:=a;refine⟨k,λq=>e _ _ (m q),λq r l f y=>?_,λq r b w=>e _ _ (o q r b w)⟩;have⟨j,p,s,u⟩:=n q r l f y;exact⟨j,p,s,e _ _ u⟩;exact a;exact a
def Z1o{t i c x d h K e}(g:∀v f,K v f->e v f)(a:EI P t i c x d h K):EI P t i c x d h e:=by
 unfold EI at a|-;have⟨j,a⟩:=a;refine⟨j,?_⟩;split at a;split at a;exact⟨a.1,λc b=>g _ _ (a.2 c b)⟩;split at a;exact⟨a.1,λc b=>g _ _ (a.2 c b)⟩;exact a;exact a;exact a
def Z3b{t c x d h K b}(f:∀v e,K v e->b v e)(a:Ca P t c x d h K):Ca P t c x d h b:=by unfold Ca at a|-;split at a;split at a;split at a;exact⟨a.1,f _ _ a.2⟩;exact a;exact a;exact a
def Z2q{t c d h K e}(b:∀v f,K v f->e v f)(a:CA P t c d h K):CA P t c d h e:=by unfold CA at a|-;split at a;split at a;split at a;exact⟨a.1,b _ _ a.2⟩;exact a;exact b _ _ a;exact b _ _ a;exact a;exact a
def Iz{e h}(g:Vh e h){k b}:ZG h ((h.xV (h.p,k) b).w):=λl c d=>by
 have:=g.fresh d
 have a:l≠(h.p,k):=λf=>by rw[f] at this;exact absurd this (XL _)
 show(if l=(h.p,k) then some b else h.a l)=some c;rw[if_neg a];exact d
def Z6b{h c}:(C.qH h c).a=h.a:=by cases c<;>rfl
def callKind:Op->Bool
 | .call c=>match c.callee with
   | .value _=>true
   |_=>false
 |_=>false
def Z2e{a}(h:U4 a=true):callKind a=false:=by
 cases a<;>simp_all [U4,callKind];rename_i c;cases hc:c.callee<;>simp_all
def Ov{o e B h}{K G:Env->HS->Prop}(F:Vh e h)(i:∀x∈o.op.operands,B.ev x=e.ev x)
  (g:∀v s,(Ad o.op=false->callKind o.op=false->ZG h s)->K (e.put o.dst v) s->G (B.put o.dst v) s)(a:Zl P o e h K):Zl P o B h G:=by
 have H:(∀(e:Env) (h:HS) (K:Env->HS->Prop),Zl P o e h K->∃v,ZH P o.op e h=some v/\K (e.put o.dst v) h)->
   (∀(e:Env) (h:HS) (K:Env->HS->Prop) v,ZH P o.op e h=some v->K (e.put o.dst v) h->Zl P o e h K)->Zl P o B h G:=λn z=>by
  have⟨v,R,q⟩:=n _ _ _ a;exact z _ _ _ v (Qe i (λ_=>ZG.refl h) R) (g _ _ (λ_ _=>ZG.refl h) q)
 cases d:o.op with
 |store t x y=>?_
 |box t x=>?_
 |alloc t=>?_
 |build t ps=>?_
 |buildSlice t len ps=>?_
 |makeSlice t x y=>?_
 |binOp op t x y t'=>?_
 |call c=>?_
 |_=>exact H (λe h K a=>by
     simp only[Zl,d] at a|-;split at a
     .exact⟨_,by assumption,a⟩
     .exact a.elim) (λe h K v n z=>by
     rw[d] at n;simp only[Zl,d,n];exact z)
 rw[d] at i g;have p:=i x (by simp[Op.operands]);have D:=i y (by simp[Op.operands]);simp only[Zl,d,p,D] at a|-;split at a;split at a;split at a;exact⟨a.1,g _ _ (λO _=>by simp[Ad] at O) a.2⟩;exact a;exact a;exact a;rw[d] at i;have p:=i x (by simp[Op.operands]);simp only[Zl,d,p] at a|-;exact⟨a.1,g _ _ (λ_ _=>Iz F) a.2⟩;simp only[Zl,d] at a|-;split at a;exact g _ _ (λ_ _=>Iz F) a;exact a;rw[d] at i;have E:∀x∈ps.toList.map (·.2),B.ev x=e.ev x:=λx p=>i x (by simpa[Op.operands] using p);simp only[Zl,d,Oi E] at a|-;split at a;split at a;exact g _ _ (λ_ _=>ZG.refl h) a;exact a;exact a;rw[d] at i;have E:∀x∈ps.toList.map (·.2),B.ev x=e.ev x:=λx p=>i x (by simpa[Op.operands] using p);simp only[Zl,d,O4 E] at a|-;split at a;split at a;exact a.imp (λa=>⟨a.1,g _ _ (λ_ _=>λl c X=>X) a.2⟩) (λa=>⟨a.1,g _ _ (λ_ _=>ZG.refl h) a.2⟩);rw[O6 E];split at a;exact⟨a.1,g _ _ (λ_ _=>Iz F) a.2⟩;exact a;exact a;rw[d] at i;have p:=i x (by simp[Op.operands]);have D:=i y (by simp[Op.operands]);simp only[Zl,d,p,D] at a|-;unfold GU at a|-;split at a;split at a;rename_i n z M;simp only[n,z,M];exact⟨a.1,g _ _ (λ_ _=>Iz F) a.2⟩;exact a.elim;exact a.elim;have ak:=i;rw[d] at i;have p:=i x (by simp[Op.operands]);have D:=i y (by simp[Op.operands]);simp only[Zl,d,p,D] at a|-;by_cases hnil:Ui y=true;rw[if_pos hnil] at a|-;unfold J5 at a|-;split at a;exact Z40 (λv q=>g v h (λ_ _=>ZG.refl h) q) a;exact a;rw[if_neg hnil] at a|-;split at a;split at a;exact⟨a.1,g _ _ (λ_ _=>ZG.refl h) a.2⟩;exact a;rename_i Y;split at a;rename_i r Q
 have:=g _ _ (λ_ _=>ZG.refl h) a
 generalize e.ev x=xq0 at*;generalize e.ev y=yq0 at*;cases xq0 with
 |agg L=>cases yq0 with
   |agg cs'=>exact(Y L cs' rfl rfl).elim
   |_=>first
     |exact this
     |(simp only[Q];exact this)
 |_=>first
   |exact this
   |(simp only[Q];exact this)
 exact a.elim;rw[d] at i;have U:∀x∈c.args.toList,B.ev x=e.ev x:=λx p=>i x (by simp[Op.operands,Call.operands];exact .inr (sU p));have C:=YN U;cases j:c.callee with
 |value f=>?_
 |invoke r m=>simp only[Zl,d,j,ZH] at a
 |builtin b=>?_
 have W:=i f (by simp[Op.operands,Call.operands,j]);simp only[Zl,d,j,W,C] at a|-;have I:callKind o.op=true:=by rw[d];simp[callKind,j]
 split at a;rcases a with⟨S,L,N,T,r,O,q⟩|a|⟨v,p,q⟩;exact .inl ⟨S,L,N,T,r,O,g _ _ (λ_ k=>by rw[I] at k;cases k) q⟩;exact .inr (.inl ⟨a.1,λΓ μ w vals hI hR=>(a.2 Γ μ w vals hI hR).mono λen w' ⟨u,v,s,μ',n,z,M⟩=>⟨u,v,s,μ',n,g _ _ (λ_ k=>by rw[I] at k;cases k) z,M⟩⟩);exact .inr (.inr ⟨v,p,g _ _ (λ_ k=>by rw[I] at k;cases k) q⟩);exact a;cases b with
 |len=>?_
 |append=>?_
 |cap=>?_
 |copy=>?_
 |clear=>?_
 |max=>exact H (λe h K a=>by
   simp only[Zl,d,j] at a|-;split at a
   .exact⟨_,by assumption,a⟩
   .exact a.elim) (λe h K v n z=>by
   rw[d] at n;simp only[Zl,d,j,n];exact z)
 |min=>exact H (λe h K a=>by
   simp only[Zl,d,j] at a|-;split at a
   .exact⟨_,by assumption,a⟩
   .exact a.elim) (λe h K v n z=>by
   rw[d] at n;simp only[Zl,d,j,n];exact z)
 |_=>simp only[Zl,d,j,ZH] at a
 simp only[Zl,d,j,C] at a|-;split at a;unfold Cd at a|-;split at a;split at a;exact g _ _ (λ_ _=>ZG.refl h) a;exact a;split at a;exact g _ _ (λ_ _=>ZG.refl h) a;split at a;exact λV=>g _ _ (λ_ _=>ZG.refl h) (a V);exact a;exact a;exact a;have A:Ad o.op=true:=by rw[d];simp[Ad,j]
 simp only[Zl,d,j,C] at a|-;split at a;have J:=λv s q=>g v s (λk=>by rw[A] at k;cases k) q;exact a.imp (λa=>⟨a.1,a.2.imp (Z25 J) (Z1p J)⟩) (Z1o J);exact a;simp only[Zl,d,j,C] at a|-;split at a;have⟨n,a⟩:=a;refine⟨n,?_⟩;split at a<;>first|exact g _ _ (λ_ _=>ZG.refl h) a|exact a
 exact a;have A:Ad o.op=true:=by rw[d];simp[Ad,j]
 simp only[Zl,d,j,C] at a|-;split at a;exact⟨a.1,Z3b (λv s q=>g v s (λk=>by rw[A] at k;cases k) q) a.2⟩;exact a;have A:Ad o.op=true:=by rw[d];simp[Ad,j]
 simp only[Zl,d,j,C] at a|-;split at a;exact Z2q (λv s q=>g v s (λk=>by rw[A] at k;cases k) q) a;exact a
def Bi(P:Program)(a:List Oper)(o:Oper)(e:Env)(h:HS)(K:Env->HS->Prop):Prop:=Wh o e/\
    match o.guard with
    |none=>Zl P o e h K
    |some (j,want)=>match AY a e j with
      | .one (.d (.bool b))=>(b=want->Zl P o e h K)/\(b≠want->K (e.put o.dst .undef) h)
      | .undef=>K (e.put o.dst .undef) h
      |_=>False
def Qd{a}{o:Oper}{e b:Env}(h:∀t∈o.looksAt a,b.get t=e.get t):∀x∈o.op.operands,b.ev x=e.ev x:=λx c=>by
 cases x with
 |tmp t=>exact h t (YV _ (YS.2 ⟨.tmp t,sU c,rfl⟩))
 |_=>rfl
def Ia{a}{o:Oper}{e c}(h:∀t∈o.looksAt a,c.get t=e.get t){j b}(g:o.guard=some (j,b)):AY a.toList c j=AY a.toList e j:=by
 unfold AY;cases hj:a.toList[j]? with
 |none=>rfl
 |some oj=>?_
 dsimp only
 cases hd:oj.dst with
 |none=>rfl
 |some d=>?_
 have f:a[j]?=some oj:=sU hj;exact h d (by simp[Oper.looksAt,g,f,hd])
def Z69{ops Γ Q i o}(s:ops[i]?=some o){e h μ a w K N}
  (n:Inv Γ h μ w)(k:ZF μ e a)(p:∀e' h' μ' a' r,K e' h'->Inv Γ h' μ' r->ZF μ' e' a'->Mem.Le μ μ'->N a' r)(c:Bi P ops.toList o e h K):wpOp P ops Q i N a w:=by
 have⟨q,c⟩:=c;unfold wpOp;simp only[s];have skip:=λl=>p _ _ _ _ _ l n (k.put (F4 q) (v:=.undef) rfl) (.refl μ);have go:Zl P o e h K->o.wp P a w N Q:=λl=>QV n k q l _ _ p;split at c;rename_i d;rw[if_pos (by simp[Region.wanted,d])];exact .inl (go c);rename_i j f d;split at c;rename_i b m;have g:=Oq k m;by_cases hb:b=f;rw[if_pos (by simp[Region.wanted,d,g,hb])];exact .inl (go (c.1 hb));rw[if_neg (by simp[Region.wanted,d,g,hb])];exact skip (c.2 hb);rename_i m;have g:=NP k m;rw[if_neg (by simp[Region.wanted,d,g])];exact skip c;exact c.elim
def H1(P:Program)(c:Region.Mode)(b:Array Oper)(d:Nat->Op->Bool)(K:Env->HS->Prop):Nat->Array Bool->Env->HS->Prop
 |0,a,e,h=>Region.ready c b a=[]/\(Vh e h->K e h)
 |f+1,a,e,h=>Vh e h->(Region.ready c b a=[]->K e h)/\
     ∀i∈Region.ready c b a,∃o,b[i]?=some o/\Bi P b.toList o e h (λj g=>(d i o.op=true->ZG h g)/\H1 P c b d K f (a.setIfInBounds i true) j g)
def O9{p q}{g:Array Oper}{Γ Q K}{μ0:Mem}(m:∀k l μ' a' n,K k l->Inv Γ l μ' n->ZF μ' k a'->Mem.Le μ0 μ'->Q .normal a' n):
  ∀f b {e:Env} {h:HS} {μ:Mem} {a:Act} {w:World},Inv Γ h μ w->ZF μ e a->Mem.Le μ0 μ->H1 P p g q K f b e h->wpAny P p g Q f b a w
 |0,b,e,h,μ,a,w,d,c,j,hv=>⟨hv.1,m _ _ _ _ _ (hv.2 ⟨_,_,_,_,d,c⟩) d c j⟩
 |f+1,b,e,h,μ,a,w,d,c,j,hv=>by
   have⟨r,s⟩:=hv ⟨_,_,_,_,d,c⟩;refine⟨λx=>m _ _ _ _ _ (r x) d c j,λi u=>?_⟩;have⟨o,v,t⟩:=s i u;exact Z69 v d c (λk l μ' a' n hk hI' hE' hle'=>O9 m f _ hI' hE' (j.trans hle') hk.2) t
def Cb(P:Program)(a:Array Oper)(o:Oper)(e:Env)(h:HS)(v:V):Prop:=
 ∀e1 h1 K,e1.n=e.n->(∀t∈o.looksAt a,e1.get t=e.get t)->(B5 o.op=true->ZG h h1)->K (e1.put o.dst v) h1->Bi P a.toList o e1 h1 K
def Cb.step{a o e b h j v}(s:Cb P a o e h v)(w:b.n=e.n)(r:∀t∈o.looksAt a,b.get t=e.get t)(q:B5 o.op=true->ZG h j):Cb P a o b j v:=
 λn p K i f d u=>s n p K (i.trans w) (λt m=>(f t m).trans (r t m)) (λk l c g=>d k l c (q k l c g)) u
def GP{o e a}(c:a.n=e.n)(b:Wh o e):Wh o a:=by unfold Wh at*;split at b;trivial;rw[c];exact b
def RE{e:Env}{d v}:(e.put d v).n=e.n:=by cases d<;>rfl
def OD{c:Array Oper}{o:Oper}{e h K}(z:U4 o.op=true)(x:Vh e h)(l:Bi P c.toList o e h K):
  ∃v,K (e.put o.dst v) h/\Vh (e.put o.dst v) h/\Cb P c o e h v:=by
 have⟨r,l⟩:=l;have skip:K (e.put o.dst .undef) h->(∀a:Env,∀d (K:Env->HS->Prop),a.n=e.n->(∀t∈o.looksAt c,a.get t=e.get t)->K (a.put o.dst .undef) d->Bi P c.toList o a d K)->
   ∃v,K (e.put o.dst v) h/\Vh (e.put o.dst v) h/\Cb P c o e h v:=λp f=>
  ⟨.undef,p,GA x (F4 r) (λ_ _ _ _ _ _=>⟨undef,rfl⟩),λa d n i k _ p=>f a d n i k p⟩
 have go:Zl P o e h K->(∀a:Env,∀d (K:Env->HS->Prop),a.n=e.n->(∀t∈o.looksAt c,a.get t=e.get t)->Zl P o a d K->Bi P c.toList o a d K)->
   ∃v,K (e.put o.dst v) h/\Vh (e.put o.dst v) h/\Cb P c o e h v:=λm f=>by
  have⟨v,p,y,g⟩:=Z7a z x r m;exact⟨v,p,y,λa d n i k q p=>f a d n i k (g a d n (Qd k) q p)⟩
 cases g:o.guard with|none=>?_|some gw=>?_;simp only[g] at l;exact go l (λa d n i _ m=>⟨GP i r,by simp only[g];exact m⟩);have⟨j,s⟩:=gw;simp only[g] at l;split at l;rename_i b u;by_cases q:b=s;exact go (l.1 q) (λa d n i k m=>⟨GP i r,by
  simp only[g,Ia k g,u];exact⟨λ_=>m,λw=>absurd q w⟩⟩)
 exact skip (l.2 q) (λa d n i k m=>⟨GP i r,by
  simp only[g,Ia k g,u];exact⟨λA=>absurd A q,λ_=>m⟩⟩)
 rename_i u;exact skip l (λa d n i k m=>⟨GP i r,by simp only[g,Ia k g,u];exact m⟩);exact l.elim
def Z79{e:Env}{x y v u}(h:∀d,x=some d->y≠some d):(e.put x v).put y u=(e.put y u).put x v:=by
 cases x with
 |none=>rfl
 |some d=>?_
 cases y with
 |none=>rfl
 |some d'=>?_
 have hne:d≠d':=λa=>h d rfl (a▸rfl);simp only[Env.put,Env.mk.injEq,true_and];funext k;by_cases h1:k=d'<;>by_cases h2:k=d<;>simp_all
def PO{e:Env}{x v t}(h:∀d,x=some d->d≠t):(e.put x v).get t=e.get t:=by
 cases x with
 |none=>rfl
 |some d=>?_
 have:=h d rfl
 show(if t=d then v else e.get t)=e.get t;rw[if_neg (Ne.symm this)]
def Z8d{c:Prop}{g:Array Oper}{b f:Oper}{e h v}{K:Env->HS->Prop}(x:b.apart g f=true)(q:B5 b.op=true->c\/Ad f.op=false/\callKind f.op=false)(C:Vh (e.put b.dst v) h)
  (k:Bi P g.toList f (e.put b.dst v) h (λi a=>(c->ZG h a)/\K i a)):
  Bi P g.toList f e h (λi a=>(c->ZG h a)/\i.n=e.n/\(∀t∈b.looksAt g,i.get t=e.get t)/\(B5 b.op=true->ZG h a)/\K (i.put b.dst v) a):=by
 have⟨y,z,A⟩:=Oper.apart_spec x;have s:∀t∈f.looksAt g,e.get t=(e.put b.dst v).get t:=λt r=>(PO (λd n p=>y d n (p▸r))).symm;have l:∀u a,(Ad f.op=false->callKind f.op=false->ZG h a)->((c->ZG h a)/\K ((e.put b.dst v).put f.dst u) a)->
   (c->ZG h a)/\(e.put f.dst u).n=e.n/\(∀t∈b.looksAt g,(e.put f.dst u).get t=e.get t)/\(B5 b.op=true->ZG h a)/\K ((e.put f.dst u).put b.dst v) a:=λu a m o=>
  ⟨o.1,RE,λt r=>PO (λd n p=>A d n (p▸r)),λB=>(q B).elim o.1 λw=>m w.1 w.2,by rw[<-Z79 z];exact o.2⟩
 have⟨n,k⟩:=k;refine⟨GP RE.symm n,?_⟩;have go:Zl P f (e.put b.dst v) h (λi a=>(c->ZG h a)/\K i a)->Zl P f e h (λi a=>(c->ZG h a)/\i.n=e.n/\(∀t∈b.looksAt g,i.get t=e.get t)/\(B5 b.op=true->ZG h a)/\K (i.put b.dst v) a):=λD=>
  Ov C (Qd s) (λu a m o=>l u a m o) D
 cases hg:f.guard with
 |none=>simp only[hg] at k|-;exact go k
 |some gw=>?_
 have⟨j,want⟩:=gw;simp only[hg] at k|-;rw[Ia s hg];split at k;exact⟨λm=>go (k.1 m),λm=>l _ _ (λ_ _=>ZG.refl h) (k.2 m)⟩;exact l _ _ (λ_ _=>ZG.refl h) k;exact k.elim
def AZ{b o e h K c}(l:Vh e h)(f:∀e' d,K e' d->c e' d)(a:Bi P b o e h K):Bi P b o e h c:=by
 have⟨i,a⟩:=a;refine⟨i,?_⟩;have go:Zl P o e h K->Zl P o e h c:=λm=>Ov l (λ_ _=>rfl) (λu d _ k=>f _ _ k) m;split at a;rename_i _;exact go a;rename_i j want _;split at a;rename_i _;exact⟨λg=>go (a.1 g),λg=>f _ _ (a.2 g)⟩;exact f _ _ a;exact a.elim
def Cb.real{b o e h v}(g:U4 o.op=true)(i:Vh e h)(f:Cb P b o e h v):Vh (e.put o.dst v) h:=by
 have⟨v',d,a,_⟩:=OD g i (f e h (λc a=>c=e.put o.dst v/\a=h) rfl (λ_ _=>rfl) (λ_=>ZG.refl h) ⟨rfl,rfl⟩);rw[<-d.1];exact a
def Z3c{q:Nat->Op->Bool}(O:∀i S,U4 S=true->q i S=false){B:Region.Mode}{b:Array Oper}{K:Env->HS->Prop}{i}{c:Oper}{v}(W:Nat->Bool)(R:b[i]?=some c)(E:U4 c.op=true)
  (hW:∀j,W j=true->∃d,b[j]?=some d/\∃x∈d.after,Region.binds B x=true/\(x.on=i\/W x.on=true)):
  ∀f a e h,(∀j,W j=true->a.getD j true=false)->
    (∀j d,b[j]?=some d->j≠i->a.getD j true=false->W j=false->c.apart b d=true/\(B5 c.op=true->q j d.op=true\/Ad d.op=false/\callKind d.op=false))->
    i∈Region.ready B b a->Cb P b c e h v->
    H1 P B b q K f (a.setIfInBounds i true) (e.put c.dst v) h->H1 P B b q K (f+1) a e h:=by
 intro f
 induction f with|zero=>?_|succ f ih=>?_
 intro a e h _ _ o u H C;refine⟨λh=>(by rw[h] at o;cases o),λj A=>?_⟩;by_cases hji:j=i;subst hji;exact⟨c,R,u e h _ rfl (λ_ _=>rfl) (λ_=>ZG.refl h) ⟨λt=>(by rw[O _ _ E] at t;cases t),H⟩⟩
 have:=ready_mono A hji
 rw[H.1] at this;cases this;intro a e h M G o u H C;have L:=u.real E C;refine⟨λh=>(by rw[h] at o;cases o),λj A=>?_⟩;by_cases hji:j=i;subst hji;exact⟨c,R,u e h _ rfl (λ_ _=>rfl) (λ_=>ZG.refl h) ⟨λt=>(by rw[O _ _ E] at t;cases t),H⟩⟩;have⟨d,y,m⟩:=(H L).2 j (ready_mono A hji);have⟨I,g,V,s⟩:=mem_ready.1 A
 have:g=d:=Option.some.inj (V.symm.trans y)
 subst this;have Q:∀k,a.getD k true=false->a.getD k false=true->False:=λk m z=>by rcases Yx k a.size with r|r;simp[r] at m z;rw[m] at z;cases z;simp[Xw r] at z
 have J:W j=false:=by
  cases hw:W j with
  |false=>rfl
  |true=>?_
  have⟨l,ay,x,hx,D,p⟩:=hW j hw
  have:l=g:=Option.some.inj (ay.symm.trans y)
  subst this;have m:=s x hx D;rcases p with p|p;rw[p] at m;exact(Q i (mem_ready.1 o).1 m).elim;exact(Q _ (M _ p) m).elim
 have⟨ax,F⟩:=G j g y hji I J;have T:∀k l,b[k]?=some l->k≠i->(a.setIfInBounds j true).getD k true=false->
   W k=false->c.apart b l=true/\(B5 c.op=true->q k l.op=true\/Ad l.op=false/\callKind l.op=false):=λk l n Z N X=>by
  refine G k l n Z ?_ X;by_cases w:j=k;subst w;exact I;rw[getD_set_ne true w] at N;exact N
 have U:∀k,W k=true->(a.setIfInBounds j true).getD k true=false:=λk n=>by
  have w:j≠k:=by rintro rfl;rw[J] at n;cases n
  rw[getD_set_ne true w];exact M k n
 refine⟨g,y,AZ C (λe' r n=>?_) (Z8d ax F L m)⟩;have⟨Y,hn,aw,D,n⟩:=n;refine⟨Y,?_⟩;refine ih (a.setIfInBounds j true) e' r U T (ready_mono o (Ne.symm hji)) (u.step hn aw D) ?_
 rwa [Array.setIfInBounds_comm _ _ hji]
def Mi(b:Region.Mode)(a:Array Oper)(i:Nat):Nat->List Nat->List Nat
 |0,w=>w
 |n+1,w=>Mi b a i n ((List.range a.size).filter λj=>match a[j]? with
   |some o=>o.after.any λx=>Region.binds b x&&(x.on==i||w.contains x.on)
   |none=>false)
def Zcv(b:Region.Mode)(a:Array Oper)(i:Nat)(w:List Nat):Bool:=w.all λj=>match a[j]? with
    |some o=>o.after.any λx=>Region.binds b x&&(x.on==i||w.contains x.on)
    |none=>false
def Mr(d:Nat->Op->Bool)(c:Region.Mode)(b:Array Oper)(a:Array Bool)(i:Nat):Bool:=
 match b[i]? with
 |none=>false
 |some oi=>
   let w:=Mi c b i b.size []
   U4 oi.op&&(Region.ready c b a).contains i&&Zcv c b i w&&w.all (λj=>!a.getD j true)&&(List.range b.size).all λj=>j==i||a.getD j true||w.contains j||match b[j]? with
    |some oj=>oi.apart b oj&&(!B5 oi.op||d j oj.op||(!Ad oj.op&&!callKind oj.op))
    |none=>true
inductive Y where
 |done
 |one(i:Nat)(p:Y)
 |two(i j:Nat)(p q:Y)
 |three(i j k:Nat)(p q r:Y)
 |four(i j k l:Nat)(p q r s:Y)
def Va(c:Nat->Op->Bool)(b:Region.Mode)(a:Array Oper):Y->Nat->Array Bool->Bool
 | .done,f,listed=>f==0&&(Region.ready b a listed).isEmpty
 | .one _ _,0,_=>false
 | .one i p,f+1,listed=>(Region.ready b a listed==[i]||Mr c b a listed i)&&Va c b a p f (listed.setIfInBounds i true)
 | .two _ _ _ _,0,_=>false
 | .two i j p q,f+1,listed=>Region.ready b a listed==[i,j]&&Va c b a p f (listed.setIfInBounds i true)&&Va c b a q f (listed.setIfInBounds j true)
 | .three _ _ _ _ _ _,0,_=>false
 | .three i j k p q r,f+1,listed=>Region.ready b a listed==[i,j,k]&&Va c b a p f (listed.setIfInBounds i true)&&Va c b a q f (listed.setIfInBounds j true)&&Va c b a r f (listed.setIfInBounds k true)
 | .four _ _ _ _ _ _ _ _,0,_=>false
 | .four i j k l p q r s,f+1,listed=>Region.ready b a listed==[i,j,k,l]&&Va c b a p f (listed.setIfInBounds i true)&&Va c b a q f (listed.setIfInBounds j true)&&Va c b a r f (listed.setIfInBounds k true)&&Va c b a s f (listed.setIfInBounds l true)
def H2:Region.Mode->Array Oper->Y->Nat->Array Bool->Bool:=Va λ_ a=>callKind a
def Y.qB:List Nat->Y->Y
 |[],p=>p
 |i::r,p=>.one i (Y.qB r p)
def planOps(a:List Oper):List Nat->List Oper
 |[]=>[]
 |i::r=>match a[i]? with
   |some o=>o::planOps a r
   |none=>planOps a r
@[simp] def AD(b:Nat->Op->Bool)(a:List Oper)(i:Nat):Bool:=
 match a[i]? with
 |some o=>b i o.op
 |none=>false
@[simp] def UO(P:Program)(a:List Oper)(c:Nat->Op->Bool)(K:Env->HS->Prop):Y->Env->HS->Prop
 | .done,e,h=>K e h
 | .one i p,e,h=>WX P a (planOps a [i]) e h (λd b=>(AD c a i=true->ZG h b)/\UO P a c K p d b)
 | .two i j p q,e,h=>WX P a (planOps a [i]) e h (λd b=>(AD c a i=true->ZG h b)/\UO P a c K p d b)/\WX P a (planOps a [j]) e h (λd b=>(AD c a j=true->ZG h b)/\UO P a c K q d b)
 | .four i j k l p q r s,e,h=>WX P a (planOps a [i]) e h (λd b=>(AD c a i=true->ZG h b)/\UO P a c K p d b)/\WX P a (planOps a [j]) e h (λd b=>(AD c a j=true->ZG h b)/\UO P a c K q d b)/\WX P a (planOps a [k]) e h (λd b=>(AD c a k=true->ZG h b)/\UO P a c K r d b)/\WX P a (planOps a [l]) e h (λd b=>(AD c a l=true->ZG h b)/\UO P a c K s d b)
 | .three i j k p q r,e,h=>WX P a (planOps a [i]) e h (λd b=>(AD c a i=true->ZG h b)/\UO P a c K p d b)/\WX P a (planOps a [j]) e h (λd b=>(AD c a j=true->ZG h b)/\UO P a c K q d b)/\WX P a (planOps a [k]) e h (λd b=>(AD c a k=true->ZG h b)/\UO P a c K r d b)
def vcPlan(P:Program)(a:List Oper)(K:Env->HS->Prop):Y->Env->HS->Prop:=UO P a (λ_ b=>callKind b) K
def BD{j du a b i}(g:i∈Region.ready j a b){e h l K}(f:WX P a.toList (planOps a.toList (i::l)) e h K):
  ∃o,a[i]?=some o/\AD du a.toList i=du i o.op/\Bi P a.toList o e h (λe h=>WX P a.toList (planOps a.toList l) e h K):=by
 have⟨_,o,d,_⟩:=mem_ready.1 g;have c:a.toList[i]?=some o:=sU d;refine⟨o,d,by simp only[AD,c],?_⟩;simp only[planOps,c] at f;exact f
def AW{du}(B:∀i R,U4 R=true->du i R=false){I z K}:∀p f a e h,Va du I z p f a=true->
  UO P z.toList du K p e h->H1 P I z du K f a e h
 | .done,f,a,e,h,b,hv=>by
   unfold Va at b;simp only[YW,beq_iff_eq] at b;obtain⟨rfl,b⟩:=b;exact⟨by simpa using b,λ_=>hv⟩
 | .one i p,0,a,e,h,b,hv=>by unfold Va at b;cases b
 | .one i p,f+1,a,e,h,b,hv=>by
   unfold Va at b;simp only[YW,XQ] at b;have⟨b,S⟩:=b;have Q:=λe h=>AW B (K:=K) p f (a.setIfInBounds i true) e h S;have H:i∈Region.ready I z a:=by rcases b with b|b;rw[eq_of_beq b];simp;unfold Mr at b;split at b;cases b;simp only[YW] at b;simpa using b.1.1.1.2
   have⟨o,g,n,d⟩:=BD (du:=du) H hv;rw[n] at d;by_cases y:Vh e h;rcases b with b|b;intro _;refine⟨λD=>(by rw[D] at H;cases H),λj E=>?_⟩;rw[eq_of_beq b] at E
   have:j=i:=sU E
   subst this;exact⟨o,g,AZ y (λt u c=>⟨c.1,Q t u c.2⟩) d⟩;unfold Mr at b;simp only[g,YW] at b;have⟨⟨⟨⟨O,_⟩,N⟩,M⟩,G⟩:=b;have⟨v,c,_,Y⟩:=OD O y d;generalize Mi I z i z.size []=w at N M G;refine Z3c B (λj=>w.contains j) g O (λj E=>?_) f a e h (λj E=>?_) (λj oj E L W T=>?_) H Y (Q _ _ c.2);have C:=Xu.1 N j (sU E);split at C;rename_i o U;have⟨x,hx,J⟩:=Array.any_eq_true'.1 C;simp only[YW,XQ,beq_iff_eq] at J;exact⟨o,U,x,hx,J.1,J.2⟩;cases C;have C:=Xu.1 M j (sU E);simpa using C;have C:=Xu.1 G j (XV.2 (YQ.1 E).1);simp only[E,XQ,beq_iff_eq,L,false_or,W,YX,T] at C;simp only[YW,XQ,Bool.not_eq_true'] at C;refine⟨C.1,λZ=>C.2.imp (λX=>X.resolve_left (by simp[Z])) id⟩;exact λV=>absurd V y
 | .two i j p q,0,a,e,h,b,_=>by unfold Va at b;cases b
 | .two i j p q,f+1,a,e,h,b,hv=>by
   unfold Va at b;simp only[YW] at b;have F:=eq_of_beq b.1.1;intro y;refine⟨λD=>(by rw[F] at D;cases D),λk c=>?_⟩;have A:=c;rw[F] at A;simp only[Y5,Xn,or_false] at A;rcases A with rfl|rfl;have⟨o,g,n,d⟩:=BD (du:=du) c hv.1;rw[n] at d;exact⟨o,g,AZ y (λt u c=>⟨c.1,AW B p f _ t u b.1.2 c.2⟩) d⟩;have⟨o,g,n,d⟩:=BD (du:=du) c hv.2;rw[n] at d;exact⟨o,g,AZ y (λt u c=>⟨c.1,AW B q f _ t u b.2 c.2⟩) d⟩
 | .three i j l p q r,0,a,e,h,b,_=>by unfold Va at b;cases b
 | .three i j l p q r,f+1,a,e,h,b,hv=>by
   unfold Va at b;simp only[YW] at b;have F:=eq_of_beq b.1.1.1;intro y;refine⟨λD=>(by rw[F] at D;cases D),λk c=>?_⟩;have A:=c;rw[F] at A;simp only[Y5,Xn,or_false] at A;rcases A with rfl|rfl|rfl;have⟨o,g,n,d⟩:=BD (du:=du) c hv.1;rw[n] at d;exact⟨o,g,AZ y (λt u c=>⟨c.1,AW B p f _ t u b.1.1.2 c.2⟩) d⟩;have⟨o,g,n,d⟩:=BD (du:=du) c hv.2.1;rw[n] at d;exact⟨o,g,AZ y (λt u c=>⟨c.1,AW B q f _ t u b.1.2 c.2⟩) d⟩;have⟨o,g,n,d⟩:=BD (du:=du) c hv.2.2;rw[n] at d;exact⟨o,g,AZ y (λt u c=>⟨c.1,AW B r f _ t u b.2 c.2⟩) d⟩
 | .four i j l m p q r s,0,a,e,h,b,_=>by unfold Va at b;cases b
 | .four i j l m p q r s,f+1,a,e,h,b,hv=>by
   unfold Va at b;simp only[YW] at b;have F:=eq_of_beq b.1.1.1.1;intro y;refine⟨λD=>(by rw[D] at F;cases F),λk c=>?_⟩;have A:=c;rw[F] at A;simp only[Y5,Xn,or_false] at A;rcases A with rfl|rfl|rfl|rfl;have⟨o,g,n,d⟩:=BD (du:=du) c hv.1;rw[n] at d;exact⟨o,g,AZ y (λt u c=>⟨c.1,AW B p f _ t u b.1.1.1.2 c.2⟩) d⟩;have⟨o,g,n,d⟩:=BD (du:=du) c hv.2.1;rw[n] at d;exact⟨o,g,AZ y (λt u c=>⟨c.1,AW B q f _ t u b.1.1.2 c.2⟩) d⟩;have⟨o,g,n,d⟩:=BD (du:=du) c hv.2.2.1;rw[n] at d;exact⟨o,g,AZ y (λt u c=>⟨c.1,AW B r f _ t u b.1.2 c.2⟩) d⟩;have⟨o,g,n,d⟩:=BD (du:=du) c hv.2.2.2;rw[n] at d;exact⟨o,g,AZ y (λt u c=>⟨c.1,AW B s f _ t u b.2 c.2⟩) d⟩
def Wy.wP{d}(j:∀i f,U4 f=true->d i f=false){id b Q e h}(c)(q:P.follows .mixedOrders=true)
  (o:Va d .any b c b.size (Array.replicate b.size false)=true)(r:UO P b.toList d (Q .normal) c e h):Wy P (.region id b true) Q e h:=by
 intro Γ a w μ hI hE;exact wp_region_any q (O9 (λm n μ' a' w' p k g l=>⟨m,n,μ',p,k,g,l⟩) b.size _ (hI.drew) hE (.refl μ) (AW j c _ _ e h o r))
def Wy.draw{id a Q e h}(b)(d:P.follows .mixedOrders=true)
  (c:H2 .any a b a.size (Array.replicate a.size false)=true)(f:vcPlan P a.toList (Q .normal) b e h):Wy P (.region id a true) Q e h:=Wy.wP (λ_ _ h=>Z2e h) b d c f
end
attribute [simp] Y.qB vcPlan planOps callKind
end Go.Am
end
section
namespace Go.Am
open Go.RowKit (Below)
section
variable{P:Program}{w:World}{a:Act}{e:Env}{h:HS}{μ:Mem}{Γ:Ctx}
inductive Frz(h:HS):C->D->Prop
 |data {c:C} {x:D} (hx:c.toD=some x):Frz h c x
 |mrow {l:Z2} {off cap es:Nat} {xs:List (List D)} {cs:List C} (f:Nat->Nat->C) (hb:h.a l=some cs) (hl:xs.length<=Zz) (hes:∀x∈xs,x.length=es)
   (hc:∀i x,xs[i]?=some x->∀j d,x[j]?=some d->cs[off+(i*es+j)]?=some (f i j))
   (hf:∀i x,xs[i]?=some x->∀j d,x[j]?=some d->Frz h (f i j) d):Frz h (.mrow l off xs.length cap) (.sl xs)
def Mb(A:Inv Γ h μ w){m}(E:WL μ.cell m)(C:∀l cs b n o u,h.a l=some cs->μ.loc l=some (some b,n)->w.cell? ⟨b,o,none⟩=some u->m b o=some u)
  {c x}(B:Frz h c x):∀{v:Value},We μ c v->RepD m x v:=by
 induction B with
 |data e=>intro v p;exact(Uj p e).mono E
 |@mrow l off cap es xs cs f hb hl hes p _ ih=>?_
 intro v F;obtain⟨b,k,t,rfl,g⟩:=F;have⟨b',n,T,a,r,_,z,y,_⟩:=A.a l cs hb;rw[t] at r;simp only[Ya,YG] at r;obtain⟨rfl,_⟩:=r;refine .sl xs _ cap es b off (λi j=>a.getD (off+(i*es+j)) undef) hl g hes (λ_=>rfl) (λi x e j d q=>?_) (λi x e j d q=>?_);have⟨u,s,_⟩:=y.2 _ _ (p i x e j d q);refine C l cs b k _ _ hb t ?_;simp[World.cell?,z,s,Xe];have⟨u,s,D⟩:=y.2 _ _ (p i x e j d q)
 have:a.getD (off+(i*es+j)) undef=u:=by rw[Xe,s];rfl
 simp only[this];exact ih i x e j d q D
def ZI(h:HS):aD->aC->Prop
 |[],[]=>True
 |c::cs,x::xs=>Frz h c x/\ZI h cs xs
 |_,_=>False
def ZI.get:∀{b:aD} {d:aC},ZI h b d->b.length=d.length/\∀(i:Nat) x,d[i]?=some x->∃c,b[i]?=some c/\Frz h c x
 |[],[],_=>⟨rfl,λi x a=>by simp at a⟩
 |c::b,y::d,hr=>by
   have⟨f,g⟩:=ZI.get hr.2;refine⟨by simp[f],λi x a=>?_⟩;cases i with
   |zero=>simp at a;subst a;exact⟨c,I,hr.1⟩
   |succ i=>have⟨e,j,k⟩:=g i x (sU a);exact⟨e,sU j,k⟩
 |[],_::_,hr=>hr.elim
 |_::_,[],hr=>hr.elim
def W5:V->Bool
 | .tup _=>false
 |_=>true
def ZS(P:Program)(a:List ResultVar)(K:V->HS->Prop):Exit->Env->HS->Prop:=λx e h=>
 match x with
 | .normal| .ret=>match ZK P e h a with
   |some [v]=>K v h
   |some vs=>vs.all W5=true/\K (.tup vs) h
   |none=>False
 |_=>False
def CV(n:Nat)(a:List V):Env:={n,get:=λk=>(a[k]?).getD .undef}
def Z5.qM{f fn c}{n:Nat}{vs K}(hf:P.funcs[f]?=some fn)(hb:fn.body=some c)(al:(fn.name== "runtime.NumGoroutine")=false)(hn:fn.ntmps=n){rs}(ak:fn.results.toList=rs)(has:vs.length<=n)
  (hv:vc P c (ZS P rs K) (CV n vs) h):Z5 P f vs h K:=by
 subst ak;refine⟨⟨fn,hf,al,by rw[hb];rfl⟩,λΓ μ w vals hI hargs=>?_⟩;have hE:ZF μ (CV n vs) {tmps:=vals++Array.replicate (fn.ntmps-vals.size) undef,defers:=[]}:=by
  refine⟨rfl,?_,λk=>?_⟩;simp[CV,hargs.1,hn];omega;simp only[CV];cases hk:vs[k]? with|some x=>?_|none=>?_;have⟨u,hu,hr⟩:=hargs.2 k x hk;have hlt:=(YQ.1 hu).1
  have:(vals++Array.replicate (fn.ntmps-vals.size) undef).getD k undef=u:=by rw[Xe,XD hlt,hu];rfl
  simp only[this,Option.getD_some];exact hr;have hge:vals.size<=k:=by rw[hargs.1];exact Y36.1 hk
  show(vals++Array.replicate (fn.ntmps-vals.size) undef).getD k undef=undef;rw[Xe,XA hge];cases hx:(Array.replicate (fn.ntmps-vals.size) undef)[k-vals.size]? with
  |none=>rfl
  |some u=>?_
  have⟨_,he⟩:=YQ.1 hx;simp at he;simp[he]
 refine calls_of_wp hf hb (Code.wp_mono ?_ (UL c _ _ _ hv Γ _ w _ hI hE));rintro ex a' w' ⟨e',h',μ',hq,ad,ah,aj⟩;have fin:(match ZK P e' h' fn.results.toList with
  |some [v]=>K v h'
  |some vs=>vs.all W5=true/\K (.tup vs) h'
  |none=>False)->a'.defers=[]/\∃v,(results fn a'.tmps).run P w'=.ok v w'/\∃u v' h'' μ'',Ending.returned v=.returned u/\K v' h''/\Inv Γ h'' μ'' w'/\W6 μ'' v' u/\Mem.Le μ μ'':=by
  intro aa;cases hvs:ZK P e' h' fn.results.toList with
  |none=>rw[hvs] at aa;exact aa.elim
  |some vs'=>?_
  rw[hvs] at aa;have⟨us,af,hlen,hR⟩:=LU ad ah fn.results.toList vs' hvs;have ag:(results fn a'.tmps).run P w'=.ok (if hh:us.toArray.size=1 then us.toArray[0] else .tuple us.toArray) w':=by
   rw[OB,Sem.run_bind,Array.mapM_eq_mapM_toList];have ae:(Functor.map List.toArray (fn.results.toList.mapM (Fi a'.tmps))).run P w'=.ok us.toArray w':=by rw[Sem.run_map,af];rfl
   rw[ae];rfl
  refine⟨ah.1,_,ag,?_⟩;by_cases h1:∃v,vs'=[v];obtain⟨v,rfl⟩:=h1;have⟨u,hu,ac⟩:=hR 0 v I;obtain⟨u',rfl⟩:∃u',us=[u']:=by
   match us,hlen with
   |[u'],_=>exact⟨u',rfl⟩
  obtain rfl:u'=u:=sU hu;exact⟨u',v,h',μ',rfl,aa,ad,ac,aj⟩;have hne:¬us.toArray.size=1:=by
   simp only[Y3c,hlen];intro hq;exact h1 (by
    match vs',hq with
    |[v],_=>exact⟨v,rfl⟩)
  rw[dif_neg hne];have ab:vs'.all W5=true/\K (.tup vs') h':=by
   clear hR hvs hlen hne
   revert h1 aa
   match vs' with
   |[]=>exact λaa _=>aa
   |[v]=>exact λ_ h1=>(h1 ⟨v,rfl⟩).elim
   |_::_::_=>exact λaa _=>aa
  refine⟨_,.tup vs',h',μ',rfl,ab.2,ad,⟨us.toArray,rfl,by simp[hlen],λi x hi=>?_⟩,aj⟩;have⟨u,hu,ac⟩:=hR i x hi;refine⟨u,sU hu,?_⟩;have hx:=Xu.1 ab.1 x (Y2 hi);cases x with
  |tup _=>simp[W5] at hx
  |_=>exact ac
 cases ex with
 |normal=>exact fin hq
 |ret=>exact fin hq
 |exit id=>exact hq.elim
 |goto l=>exact hq.elim
 |panic ch=>exact hq.elim
 |outgrown=>exact hq.elim
def BR(h:HS):aD->List RC->Prop
 |[],[]=>True
 |c::cs,.d x::rs=>Frz h c x/\BR h cs rs
 |_,_=>False
def Cg(h:HS)(v:V):RV->Prop
 | .one (.d x)=>match v with
   | .one c=>Frz h c x
   |_=>False
 | .agg rs=>match v with
   | .agg cs=>BR h cs rs
   |_=>False
 |_=>False
def BQ(h:HS):List V->List RV->Prop
 |[],[]=>True
 |v::vs,r::rs=>Cg h v r/\BQ h vs rs
 |_,_=>False
def F8(h:HS)(v:V):RV->Prop
 | .tup rs=>match v with
   | .tup vs=>BQ h vs rs
   |_=>False
 |r=>Cg h v r
def BR.get:∀{b:aD} {e:List RC},BR h b e->b.length=e.length/\∀(i:Nat) r,e[i]?=some r->∃c x,b[i]?=some c/\r=.d x/\Frz h c x
 |[],[],_=>⟨rfl,λi r a=>by simp at a⟩
 |c::b,.d x::e,hr=>by
   have⟨g,j⟩:=BR.get hr.2;refine⟨by simp[g],λi r a=>?_⟩;cases i with
   |zero=>simp at a;subst a;exact⟨c,x,I,rfl,hr.1⟩
   |succ i=>have⟨f,m,k,l⟩:=j i r (sU a);exact⟨f,m,sU k,l⟩
 |[],_::_,hr=>hr.elim
 |_::_,[],hr=>hr.elim
 |_::_,.fresh _ _ _::_,hr=>hr.elim
def BQ.get:∀{d:List V} {b:List RV},BQ h d b->d.length=b.length/\∀(i:Nat) r,b[i]?=some r->∃v,d[i]?=some v/\Cg h v r
 |[],[],_=>⟨rfl,λi r a=>by simp at a⟩
 |c::cs,r::b,hr=>by
   have⟨f,g⟩:=BQ.get hr.2;refine⟨by simp[f],λi l a=>?_⟩;cases i with
   |zero=>simp at a;subst a;exact⟨c,I,hr.1⟩
   |succ i=>have⟨e,j,k⟩:=g i l (sU a);exact⟨e,sU j,k⟩
 |[],_::_,hr=>hr.elim
 |_::_,[],hr=>hr.elim
def BR.fr:∀{b:aD} {a:List RC},BR h b a->a.flatMap RC.fr=[]
 |[],[],_=>rfl
 |c::b,.d x::a,hr=>by rw[YI,BR.fr hr.2];rfl
 |[],_::_,hr=>hr.elim
 |_::_,[],hr=>hr.elim
 |_::_,.fresh _ _ _::_,hr=>hr.elim
def Cg.fr{v r}(a:Cg h v r):RV1.fr r=[]:=by
 cases r with
 |one c=>cases c with
   |d x=>rfl
   |fresh j es xs=>exact a.elim
 |agg rs=>cases v<;>first|exact a.elim|exact BR.fr a
 |tup rs=>exact a.elim
def BQ.fr:∀{b:List V} {a:List RV},BQ h b a->a.flatMap RV1.fr=[]
 |[],[],_=>rfl
 |v::b,r::a,hr=>by rw[YI,BQ.fr hr.2,Cg.fr hr.1];rfl
 |[],_::_,hr=>hr.elim
 |_::_,[],hr=>hr.elim
def F8.fr{v r}(a:F8 h v r):r.fr=[]:=by
 cases r with
 |tup rs=>cases v<;>first|exact a.elim|exact BQ.fr a
 |one c=>exact Cg.fr a
 |agg rs=>exact Cg.fr (r:=.agg rs) a
def KV{m e}(b:∀{c:C} {x:D} {v:Value},Frz h c x->We μ c v->RepD m x v){v r u}(g:W6 μ v u)(a:Cg h v r):CJ m e r u:=by
 cases r with
 |one c=>?_
 |agg rs=>?_
 |tup rs=>exact a.elim
 cases c with
 |d x=>cases v<;>first|exact a.elim|exact b a g
 |fresh j es xs=>exact a.elim
 cases v with
 |agg cs=>?_
 |_=>exact a.elim
 have⟨y,k,f⟩:=g;have⟨l,n⟩:=BR.get a;refine⟨y,k,by rw[f.1,l],λi r t=>?_⟩;obtain⟨c,x,o,rfl,p⟩:=n i r t;have⟨w,q,s⟩:=f.2 i c o;exact⟨w,q,b p s⟩
def W6.xR{μ v u}(b:∀a,v≠.tup a)(c:BO μ v u):W6 μ v u:=by
 cases v with
 |tup a=>exact(b a rfl).elim
 |_=>exact c
def Z5x{m d}(a:∀{c:C} {x:D} {v:Value},Frz h c x->We μ c v->RepD m x v){v r u}(e:W6 μ v u)(b:F8 h v r):BP m d r u:=by
 cases r with
 |tup rs=>?_
 |one c=>exact KV a e b
 |agg rs=>exact KV (r:=.agg rs) a e b
 cases v with
 |tup z=>?_
 |_=>exact b.elim
 have⟨y,g,j,k⟩:=e;have⟨l,n⟩:=BQ.get b;refine⟨y,g,by rw[j,l],λi r t=>?_⟩;have⟨v,o,p⟩:=n i r t;have⟨w,q,f⟩:=k i v o;refine⟨w,q,KV a (W6.xR (λz s=>by subst s;exact f.elim) f) p⟩
def Zq.of_heap{f:FuncId}{q:List AV}{r:RV}(G:Z5 P f (q.map AV.toV) HS.init (λv h=>F8 h v r)):Zq P f q r:=by
 refine⟨G.1,λw m t j F R H B=>?_⟩;have N:Inv ⟨w,m,t,F⟩ HS.init {cell:=m,tmp:=t,loc:=λ_=>none} w:=
  ⟨R,rfl,H,λb o v e=>H.lt e,WL.refl _,λ_ _ _ _ h=>h,Below.refl _ _,λl E d=>by simp[HS.init] at d,λl es n d=>by simp[HS.init] at d,
   λl l' b n U d=>by rcases d with d|d<;>simp[HS.init] at d,λl d=>absurd rfl d,λl d=>by simp[HS.init] at d⟩
 refine(G.2 ⟨w,m,t,F⟩ _ w j N ⟨by simp[B.1],λi v p=>?_⟩).mono ?_;rw[Y9] at p;cases c:q[i]? with
 |none=>simp[c] at p
 |some x=>?_
 simp[c] at p;subst p;have⟨u,I,S⟩:=B.2 i x c;exact⟨u,I,S6 S⟩;rintro en k ⟨u,v,h',μ',rfl,D,g,K,_⟩
 let A:CM:=λb o=>match μ'.cell b o with
  |some v=>some v
  |none=>if w.heap.size<=b then k.cell? ⟨b,o,none⟩ else none
 have C:WL μ'.cell A:=λb o v e=>by show(match μ'.cell b o with|some v=>some v|none=>_)=some v;rw[e]
 have J:Vt A k:=λb o v e=>by
  have a:(match μ'.cell b o with|some v=>some v|none=>if w.heap.size<=b then k.cell? ⟨b,o,none⟩ else none)=some v:=e;cases c:μ'.cell b o with
  |some y=>rw[c] at a;injection a with a;subst a;exact g.cell _ _ _ c
  |none=>?_
  rw[c] at a;simp only at a;split at a;exact a;cases a
 refine⟨u,A,λ_=>(none,0),rfl,λb o v e=>C _ _ _ (g.ext _ _ _ e),λb o v z e=>?_,J,g.below,?_,?_⟩;have a:(match μ'.cell b o with|some v=>some v|none=>if w.heap.size<=b then k.cell? ⟨b,o,none⟩ else none)=some v:=e;cases c:μ'.cell b o with
 |some y=>rw[c] at a;injection a with a;subst a;exact g.old _ _ _ z c
 |none=>rw[c] at a;simp only at a;rw[if_neg X] at a;cases a
 refine Z5x (λQ O=>Mb g C (λl E b n o u z d I=>?_) Q O) K D;have⟨b',U,T,conc,s,L,h3,_,M⟩:=g.a l E z;rw[d] at s;simp only[Ya,YG] at s;obtain⟨rfl,_⟩:=s;show(match μ'.cell b o with|some v=>some v|none=>if w.heap.size<=b then k.cell? ⟨b,o,none⟩ else none)=some u;rw[M o];simp only
 rwa [if_pos L]
 rw[D.fr];exact⟨λx c=>by simp at c,λx c=>by simp at c⟩
def Z5.ov{f:FuncId}{fn:Func}{c:Code}{n:Nat}{vs:List V}{K:V->HS->Prop}{rs:List ResultVar}(hf:P.funcs[f]?=some fn)(hv:vc P c (ZS P rs K) (CV n vs) h)(hb:fn.body=some c:=by rfl)(ab:(fn.name== "runtime.NumGoroutine")=false:=by kernel_rfl)(hn:fn.ntmps=n:=by rfl)(aa:fn.results.toList=rs:=by rfl)(has:vs.length<=n:=by simp):Z5 P f vs h K:=.qM hf hb ab hn aa has hv
end
end Go.Am
end
