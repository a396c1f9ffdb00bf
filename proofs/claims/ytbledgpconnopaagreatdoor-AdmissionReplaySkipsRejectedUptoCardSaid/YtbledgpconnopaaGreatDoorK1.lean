/- joined by a program out of 15 texts -/
import Derived.WalkKit
import Derived.Test.YtbledgpconnopaaGreatDoorProg
import Derived.Below
import Derived.KernelRfl
import Derived.Lib.ItoaNum
import Derived.ChangeArms
import Derived.ChangeShapes
import Derived.WideShapes
import Derived.Test.YtbledgpconnopaaGreatDoorRows
import Derived.Laws.Cover3
import Derived.Laws.MakeOwn
import Derived.Lib.AppendZeros
import Derived.Orders
set_option linter.unusedVariables false
set_option linter.unusedSimpArgs false
set_option maxRecDepth 20000
namespace Go
theorem X0:type_of%@List.take_append_of_le_length:=@List.take_append_of_le_length
theorem X1:type_of%@List.length_replicate:=@List.length_replicate
theorem X2:type_of%@Array.getElem?_eq_getElem:=@Array.getElem?_eq_getElem
theorem X3:type_of%@Array.getElem?_eq_none:=@Array.getElem?_eq_none
theorem X4:type_of%@List.getElem?_append:=@List.getElem?_append
theorem X5:type_of%@Nat.mul_le_mul_right:=@Nat.mul_le_mul_right
theorem X6:type_of%@List.mem_append_right:=@List.mem_append_right
theorem X7:type_of%@List.mem_iff_getElem?:=@List.mem_iff_getElem?
theorem X8:type_of%@List.pairwise_singleton:=@List.pairwise_singleton
theorem X9:type_of%@Bool.or_eq_true:=@Bool.or_eq_true
theorem XA:type_of%@List.map_flatten:=@List.map_flatten
theorem XB:type_of%@Array.ext_getElem?:=@Array.ext_getElem?
theorem XC:type_of%@List.length_filter_le:=@List.length_filter_le
theorem XD:type_of%@List.map_replicate:=@List.map_replicate
theorem XE:type_of%@List.getElem?_take_of_lt:=@List.getElem?_take_of_lt
theorem XF:type_of%@List.take_append_getElem:=@List.take_append_getElem
theorem XG:type_of%@List.length_pos_iff:=@List.length_pos_iff
theorem XH:type_of%@List.map_congr_left:=@List.map_congr_left
theorem XI:type_of%@List.drop_left:=@List.drop_left
theorem XJ:type_of%@List.nodup_nil:=@List.nodup_nil
theorem XK:type_of%@Nat.eq_zero_or_pos:=@Nat.eq_zero_or_pos
theorem XL:type_of%@List.getElem?_toArray:=@List.getElem?_toArray
theorem XM:type_of%@List.length_singleton:=@List.length_singleton
theorem XN:type_of%@List.pairwise_flatMap:=@List.pairwise_flatMap
theorem XO:type_of%@List.size_toArray:=@List.size_toArray
theorem XP:type_of%@List.mem_of_mem_take:=@List.mem_of_mem_take
theorem XQ:type_of%@List.pairwise_append:=@List.pairwise_append
theorem XR:type_of%@List.mem_range:=@List.mem_range
theorem XS:type_of%@List.take_left:=@List.take_left
theorem XT:type_of%@List.replicate_succ:=@List.replicate_succ
theorem XU:type_of%@List.take_succ_cons:=@List.take_succ_cons
theorem XV:type_of%@Nat.one_mul:=@Nat.one_mul
theorem XW:type_of%@Nat.not_lt_zero:=@Nat.not_lt_zero
theorem XX:type_of%@Nat.zero_le:=@Nat.zero_le
theorem XY:type_of%@List.length_eq_zero_iff:=@List.length_eq_zero_iff
theorem XZ:type_of%@Bool.or_eq_false_iff:=@Bool.or_eq_false_iff
theorem Xa:type_of%@List.drop_append_of_le_length:=@List.drop_append_of_le_length
theorem Xb:type_of%@List.drop_drop:=@List.drop_drop
theorem Xc:type_of%@List.set_eq_take_append_cons_drop:=@List.set_eq_take_append_cons_drop
theorem Xd:type_of%@Array.getElem?_append_right:=@Array.getElem?_append_right
theorem Xe:type_of%@List.map_map:=@List.map_map
theorem Xf:type_of%@Bool.not_true:=@Bool.not_true
theorem Xg:type_of%@List.map_drop:=@List.map_drop
theorem Xh:type_of%@Array.getElem?_append_left:=@Array.getElem?_append_left
theorem Xi:type_of%@List.pairwise_cons:=@List.pairwise_cons
theorem Xj:type_of%@List.not_mem_nil:=@List.not_mem_nil
theorem Xk:type_of%@Int.toNat_natCast:=@Int.toNat_natCast
theorem Xl:type_of%@Nat.mul_le_mul:=@Nat.mul_le_mul
theorem Xm:type_of%@List.nodup_cons:=@List.nodup_cons
theorem Xn:type_of%@List.mem_append_left:=@List.mem_append_left
theorem Xo:type_of%@List.flatten_append:=@List.flatten_append
theorem Xp:type_of%@List.flatten_cons:=@List.flatten_cons
theorem Xq:type_of%@List.getElem?_set:=@List.getElem?_set
theorem Xr:type_of%@Bool.not_false:=@Bool.not_false
theorem Xs:type_of%@List.map_take:=@List.map_take
theorem Xt:type_of%@List.length_nil:=@List.length_nil
theorem Xu:type_of%@Nat.zero_add:=@Nat.zero_add
theorem Xv:type_of%@List.flatMap_nil:=@List.flatMap_nil
theorem Xw:type_of%@List.flatMap_eq_nil_iff:=@List.flatMap_eq_nil_iff
theorem Xx:type_of%@List.drop_zero:=@List.drop_zero
theorem Xy:type_of%@List.ext_getElem?:=@List.ext_getElem?
theorem Xz:type_of%@List.filter_cons:=@List.filter_cons
theorem Y0:type_of%@List.getElem?_eq_some_iff:=@List.getElem?_eq_some_iff
theorem Y1:type_of%@List.getElem?_eq_getElem:=@List.getElem?_eq_getElem
theorem Y2:type_of%@List.mem_append:=@List.mem_append
theorem Y3:type_of%@Nat.lt_of_lt_of_le:=@Nat.lt_of_lt_of_le
theorem Y4:type_of%@List.mem_of_getElem?:=@List.mem_of_getElem?
theorem Y5:type_of%@IntWalk.i64_in:=@IntWalk.i64_in
theorem Y6:type_of%@List.mem_cons_self:=@List.mem_cons_self
theorem Y7:type_of%@Nat.le_refl:=@Nat.le_refl
theorem Y8:type_of%@List.getElem?_map:=@List.getElem?_map
theorem Y9:type_of%@List.mem_cons:=@List.mem_cons
theorem YA:type_of%@Nat.lt_or_ge:=@Nat.lt_or_ge
theorem YB:type_of%@List.flatMap_cons:=@List.flatMap_cons
theorem YC:type_of%@Bool.and_eq_true:=@Bool.and_eq_true
theorem YD:type_of%@List.map_set:=@List.map_set
theorem YE:type_of%@List.length_take:=@List.length_take
theorem YF:type_of%@Array.getElem?_eq_some_iff:=@Array.getElem?_eq_some_iff
theorem YG:type_of%@Nat.add_mul:=@Nat.add_mul
theorem YH:type_of%@Bool.false_eq_true:=@Bool.false_eq_true
theorem YI:type_of%@List.take_append_drop:=@List.take_append_drop
theorem YJ:type_of%@List.getElem?_drop:=@List.getElem?_drop
theorem YK:type_of%@List.getElem?_eq_none:=@List.getElem?_eq_none
theorem YL:type_of%@List.getElem?_set_self:=@List.getElem?_set_self
theorem YM:type_of%@List.getElem?_append_right:=@List.getElem?_append_right
theorem YN:type_of%@List.length_cons:=@List.length_cons
theorem YO:type_of%@Array.getD_eq_getD_getElem?:=@Array.getD_eq_getD_getElem?
theorem YP:type_of%@List.map_append:=@List.map_append
theorem YQ:type_of%@List.drop_eq_nil_of_le:=@List.drop_eq_nil_of_le
theorem YR:type_of%@List.getElem?_of_mem:=@List.getElem?_of_mem
theorem YS:type_of%@List.getElem?_set_ne:=@List.getElem?_set_ne
theorem YT:type_of%@List.length_set:=@List.length_set
theorem YU:type_of%@List.mem_or_eq_of_mem_set:=@List.mem_or_eq_of_mem_set
theorem YV:type_of%@List.pairwise_iff_getElem:=@List.pairwise_iff_getElem
theorem YW:type_of%@List.all_eq_true:=@List.all_eq_true
theorem YX:type_of%@List.getElem?_take:=@List.getElem?_take
theorem YY:type_of%@Nat.add_zero:=@Nat.add_zero
theorem YZ:type_of%@List.length_drop:=@List.length_drop
theorem Ya:type_of%@Option.some.injEq:=@Option.some.injEq
theorem Yb:type_of%@List.map_cons:=@List.map_cons
theorem Yc:type_of%@List.mem_cons_of_mem:=@List.mem_cons_of_mem
theorem Yd:type_of%@List.map_nil:=@List.map_nil
theorem Ye:type_of%@List.length_append:=@List.length_append
theorem Yf:type_of%@List.getElem_mem:=@List.getElem_mem
theorem Yg:type_of%@List.nodup_append:=@List.nodup_append
theorem Yh:type_of%@List.length_map:=@List.length_map
theorem Yi:type_of%@List.mem_map:=@List.mem_map
theorem Yj:type_of%@Option.map_some:=@Option.map_some
theorem Yk:type_of%@List.cons_append:=@List.cons_append
theorem Yl:type_of%@List.take_succ_eq_append_getElem:=@List.take_succ_eq_append_getElem
theorem Ym:type_of%@List.append_nil:=@List.append_nil
theorem Yn:type_of%@List.nil_append:=@List.nil_append
theorem Yo:type_of%@Array.length_toList:=@Array.length_toList
theorem Yp:type_of%@List.take_length:=@List.take_length
theorem Yq:type_of%@List.getElem?_append_left:=@List.getElem?_append_left
theorem Yr:type_of%@List.take_of_length_le:=@List.take_of_length_le
theorem Ys:type_of%@List.drop_eq_getElem_cons:=@List.drop_eq_getElem_cons
theorem Yt:type_of%@Prod.mk.injEq:=@Prod.mk.injEq
theorem Yu:type_of%@List.mem_singleton:=@List.mem_singleton
theorem Yv:type_of%@Nat.le_trans:=@Nat.le_trans
theorem Yw:type_of%@List.eq_nil_of_length_eq_zero:=@List.eq_nil_of_length_eq_zero
theorem Yx:type_of%@List.mem_flatMap:=@List.mem_flatMap
theorem Yy:type_of%@List.append_assoc:=@List.append_assoc
theorem Yz:type_of%@List.getElem_of_mem:=@List.getElem_of_mem
end Go
namespace Go
theorem sI{p:Prop}(h:p:=by simp):p:=h
theorem oM{p:Prop}(h:p:=by omega):p:=h
theorem kR{p:Prop}(h:p:=by kernel_rfl):p:=h
theorem sO{p:Prop}(h:p:=by(simp;omega)):p:=h
theorem dE{p:Prop}(h:p:=by decide):p:=h
end Go
open Go Go.Proofs
open Go.Proofs.Tryz(prog)
open ByteArray(empty)
namespace Go.Am
section
abbrev Zs:Nat:=2097152
inductive D where
 |int(k:IntKind)(n:Int)
 |bool(b:Bool)
 |str(s:ByteArray)
 |sl(xs:List (List D))
 |raw(v:Value)
 deriving Inhabited
abbrev Z2:=Nat×Nat
abbrev CM:=Nat->Nat->Option Value
inductive Cap where
 |lab(l:Z2)
 |rp(cs:List D)
inductive C where
 |d(x:D)
 |own(l:Z2)(xs:List (List D))
 |nil
 |ptr(l:Z2)(off:Nat)
 |rp(cs:List D)
 |fn(f:FuncId)(caps:List Cap)
 |mrow(l:Z2)(off n cap:Nat)
 |z
 |any
 deriving Inhabited
inductive V where
 |top
 |undef
 |one(c:C)
 |agg(cs:List C)
 |tup(vs:List V)
 deriving Inhabited
structure Env where
 n:Nat
 get:Nat->V
structure HS where
 box:Z2->Option (List C)
 arr:Z2->Option (Nat×Nat)
 ep:Nat
def HS.init:HS:={box:=λ_=>none,arr:=λ_=>none,ep:=0}
def Env.put(e:Env)(dst:Option Nat)(v:V):Env:=
 match dst with
 |none=>e
 |some d=>{e with get:=λk=>if k=d then v else e.get k}
def HS.qA(h:HS)(l:Z2)(cs:List C):HS:={h with box:=λk=>if k=l then some cs else h.box k}
def HS.qC(h:HS)(l:Z2)(x:Option (Nat×Nat)):HS:={h with arr:=λk=>if k=l then x else h.arr k}
def HS.next(h:HS):HS:={h with ep:=h.ep+1}
def Ca(v:Value):C:=
 match v with
 | .int k n=>.d (.int k n)
 | .bool b=>.d (.bool b)
 | .string s=>.d (.str s)
 | .slice none 0 0=>.nil
 |v=>.d (.raw v)
def KI(v:Value):V:=
 match v with
 | .agg cs=>if cs.all Value.oneCell' then .agg (cs.toList.map Ca) else .top
 | .tuple _=>.top
 |v=>.one (Ca v)
def Env.ev(e:Env):Operand->V
 | .tmp t=>e.get t
 | .const v=>KI v
 | .global _=>.top
 | .func f=>.one (.fn f [])
def V.cells:V->List C
 | .one c=>[c]
 | .agg cs=>cs
 |_=>[]
def C.toD:C->Option D
 | .d x=>some x
 | .own _ xs=>some (.sl xs)
 | .nil=>some (.sl [])
 | .z=>some (.sl [])
 |_=>none
def C.qE:C->Option (List (List D))
 | .d (.sl xs)=>some xs
 | .own _ xs=>some xs
 | .nil=>some []
 | .z=>some []
 |_=>none
def Zt:List C->Option (List D)
 |[]=>some []
 |c::cs=>match c.toD,Zt cs with
   |some x,some xs=>some (x::xs)
   |_,_=>none
def Ub:TypeDesc->Bool
 | .struct _=>true
 | .array _ _=>true
 |_=>false
def ZV(P:Program)(t:TypeId):Option (Bool×Nat):=
 match P.underlying t,P.info? t with
 |some d,some i=>some (Ub d,i.size)
 |_,_=>none
def ZB(P:Program)(t:TypeId)(f:Nat):Option (Nat×Bool×Nat):=
 match P.underlying t with
 |some (.struct fs)=>match fs[f]? with
   |some x=>match ZV P x.type with
     |some (a,n)=>if n=0 then none else some (x.offset,a,n)
     |none=>none
   |none=>none
 |_=>none
def Zv(P:Program)(t:TypeId):Option (TypeId×Nat×Nat):=
 match P.underlying t with
 |some (.slice e)=>match P.info? e with
   |some i=>match i.zero with
     |some z=>if z.cells.size=i.size then some (e,i.size,i.bytes) else none
     |none=>none
   |none=>none
 |_=>none
def Vq(P:Program)(t:TypeId):Option (List (Nat×Nat)):=
 match P.underlying t with
 |some (.struct fields)=>fields.toList.mapM (λf=>(P.info? f.type).map λi=>(f.offset,i.size))
 |_=>none
def ZP(P:Program)(t:TypeId):Option (List C):=
 match P.info? t with
 |some i=>match i.zero with
   |some z=>if z.cells.all Value.oneCell' then some (z.cells.toList.map Ca) else none
   |none=>none
 |none=>none
def DJ(P:Program)(t:TypeId):Option (Nat×Nat):=
 match P.underlying t with
 |some (.array len el)=>match P.info? el with
   |some i=>some (len,i.size)
   |none=>none
 |_=>none
def AD(P:Program)(t:TypeId):Bool:=
 match P.underlying t with
 |some (.slice _)=>true
 |_=>false
def Dy(P:Program)(t:TypeId):Bool:=
 match P.underlying t with
 |some .string=>true
 |_=>false
def Cn(a:Bool)(cs:List C):Option V:=
 if a then some (.agg cs) else
 match cs with
 |[c]=>some (.one c)
 |_=>none
def Zl(n:Nat)(cs:List C):Option (List C):=if n<=cs.length then some (cs.take n) else none
def Wk(k:IntKind)(n:Int):V:=.one (.d (.int k n))
def Wm(b:Bool):V:=.one (.d (.bool b))
def I0(s:ByteArray):V:=.one (.d (.str s))
def KD(op:BinOp)(k:IntKind)(a b:Int):Option V:=
 match op with
 | .add=>some (Wk k (k.wrap (a+b)))
 | .sub=>some (Wk k (k.wrap (a-b)))
 | .mul=>some (Wk k (k.wrap (a*b)))
 | .rem=>if b=0 then none else some (Wk k (a.tmod b))
 | .quo=>if b=0 then none else some (Wk k (k.wrap (a.tdiv b)))
 | .eql=>some (Wm (a==b))
 | .neq=>some (Wm (a !=b))
 | .lss=>some (Wm (decide (a<b)))
 | .leq=>some (Wm (decide (a<=b)))
 | .gtr=>some (Wm (decide (a>b)))
 | .geq=>some (Wm (decide (a≥b)))
 |_=>none
def strEq(a b:ByteArray):Bool:=a.toList==b.toList
def Uz(a b:ByteArray):Bool:=Op.bytesLess a.toList b.toList
def KC(op:BinOp)(a b:ByteArray):Option V:=
 match op with
 | .add=>if a.size+b.size<=9223372036854775807 then some (I0 (a++b)) else none
 | .eql=>some (Wm (strEq a b))
 | .neq=>some (Wm !(strEq a b))
 | .lss=>some (Wm (Uz a b))
 | .leq=>some (Wm (Uz a b||strEq a b))
 | .gtr=>some (Wm !(Uz a b||strEq a b))
 | .geq=>some (Wm !(Uz a b))
 |_=>none
def C9(P:Program)(t:TypeId):Bool:=
 match P.underlying t with
 |some .bool=>true
 |_=>false
def Cm(bt:Bool)(op:BinOp)(x y:V):Option V:=
 match x,y with
 | .one (.d (.int k a)),.one (.d (.int k' b))=>if k=k' then KD op k a b else none
 | .one (.d (.str a)),.one (.d (.str b))=>KC op a b
 | .one (.d (.bool a)),.one (.d (.bool b))=>if bt=true then(match op with
   | .eql=>some (Wm (a==b))
   | .neq=>some (Wm (a !=b))
   |_=>none) else none
 |_,_=>none
def Au(h:HS)(c:C)(n:Nat):Option (List C):=
 match c with
 | .ptr l off=>match h.box l with
   |some cs=>Zl n (cs.drop off)
   |none=>none
 | .rp cs=>Zl n (cs.map C.d)
 |_=>none
def UC(e:Env):Option Operand->Option (Option Nat)
 |none=>some none
 |some x=>match e.ev x with
   | .one (.d (.int _ k))=>if 0<=k then some (some k.toNat) else none
   |_=>none
def Hs(n:Nat)(c:C)(lo hi mx:Option Nat):Option C:=
 match c with
 | .mrow l off k cap=>if(lo.getD 0<=hi.getD k/\hi.getD k<=mx.getD cap)/\mx.getD cap<=cap/\(mx.isSome=true->hi.isSome=true) then(if lo.getD 0<mx.getD cap then some (.mrow l (off+lo.getD 0*n) (hi.getD k-lo.getD 0) (mx.getD cap-lo.getD 0)) else some .z) else none
 | .nil=>if lo.getD 0=0/\hi.getD 0=0/\mx.getD 0=0/\(mx.isSome=true->hi.isSome=true) then some .nil else none
 | .z=>if lo.getD 0=0/\hi.getD 0=0/\mx.getD 0=0/\(mx.isSome=true->hi.isSome=true) then some .z else none
 |c=>match c.qE with
   |some xs=>if mx=some 0 then(if lo.getD 0=0/\hi=some 0 then some .z else none) else
     if((lo.getD 0<=hi.getD xs.length/\hi.getD xs.length<=xs.length)/\(hi.getD xs.length<=mx.getD xs.length/\mx.getD xs.length<=xs.length)/\(mx.isSome=true->hi.isSome=true))/\∀x∈xs,x.length=n then some (.d (.sl ((xs.take (hi.getD xs.length)).drop (lo.getD 0)))) else none
   |none=>none
def Wg(h:HS)(n:Nat)(c:C):Option (List C):=
 match c with
 | .mrow l off k _=>match h.box l with
   |some cs=>Zl (k*n) (cs.drop off)
   |none=>none
 |c=>match c.qE with
   |some xs=>if∀x∈xs,x.length=n then some (xs.flatten.map C.d) else none
   |none=>none
def Vm(h:HS)(n:Nat):C->Option (Nat×Nat×List C×Option (Z2×Nat))
 | .nil=>some (0,0,[],none)
 | .z=>some (0,0,[],none)
 | .mrow l off k cap=>match Wg h n (.mrow l off k cap) with
   |some cs=>some (k,cap,cs,some (l,off))
   |none=>none
 |_=>none
def UX(e:Env)(n:Nat):List (Nat×Operand)->Nat->Option (List C)
 |[],_=>some []
 |(i,x)::r,k=>if i=k/\(e.ev x).cells.length=n then
   match UX e n r (k+1) with
   |some cs=>some ((e.ev x).cells++cs)
   |none=>none
  else none
def ZW:C->Option Nat
 | .mrow _ _ k _=>some k
 |c=>match c.qE with
   |some xs=>some xs.length
   |none=>none
def Zw(P:Program)(o:Op)(e:Env)(h:HS):Option V:=
 match o with
 | .move x=>some (e.ev x)
 | .assign x=>some (e.ev x)
 | .pick c a b=>match e.ev c with
   | .one (.d (.bool t))=>some (if t then e.ev a else e.ev b)
   |_=>none
 | .binOp op t x y _=>Cm (C9 P t) op (e.ev x) (e.ev y)
 | .unOp op _ x=>match op,e.ev x with
   | .not,.one (.d (.bool b))=>some (Wm !b)
   |_,_=>none
 | .fieldAddr t x f=>match ZB P t f with
   |some (off,_,_)=>match e.ev x with
     | .one (.ptr l o)=>some (.one (.ptr l (o+off)))
     | .one (.rp cs)=>if off<cs.length then some (.one (.rp (cs.drop off))) else none
     |_=>none
   |none=>none
 | .field t x f=>match ZB P t f with
   |some (off,a,n)=>match e.ev x with
     | .agg cs=>match Zl n (cs.drop off) with
       |some l=>Cn a l
       |none=>none
     |_=>none
   |none=>none
 | .load t x=>match ZV P t with
   |some (a,n)=>match e.ev x with
     | .one c=>match Au h c n with
       |some l=>Cn a l
       |none=>none
     |_=>none
   |none=>none
 | .indexAddr t x i=>match Zv P t with
   |some (_,n,_)=>match e.ev x,e.ev i with
     | .one (.mrow l off m _),.one (.d (.int _ k))=>if 0<=k/\k.toNat<m/\0<n then some (.one (.ptr l (off+k.toNat*n))) else none
     | .one c,.one (.d (.int _ k))=>match c.qE with
       |some xs=>if 0<=k then match xs[k.toNat]? with
         |some y=>if y.length=n/\0<n then some (.one (.rp y)) else none
         |none=>none
        else none
       |none=>none
     |_,_=>none
   |none=>match DJ P t with
     |some (len,n)=>match e.ev x,e.ev i with
       | .one (.ptr l off),.one (.d (.int _ k))=>if 0<=k/\k<len then some (.one (.ptr l (off+k.toNat*n))) else none
       |_,_=>none
     |none=>none
 | .index t x i=>if Dy P t then match e.ev x,e.ev i with
   | .one (.d (.str s)),.one (.d (.int _ k))=>if 0<=k then match s[k.toNat]? with
     |some b=>some (Wk .u8 b.toNat)
     |none=>none
    else none
   |_,_=>none
  else none
 | .slice t x lo hi mx=>match Zv P t with
   |some (_,n,_)=>match e.ev x,UC e lo,UC e hi,UC e mx with
     | .one c,some lo,some hi,some mx=>(Hs n c lo hi mx).map V.one
     |_,_,_,_=>none
   |none=>if Dy P t then match lo,hi,mx with
     |none,some y,none=>match e.ev x,e.ev y with
       | .one (.d (.str s)),.one (.d (.int _ k))=>if 0<=k/\k<=s.size then some (I0 (s.extract 0 k.toNat)) else none
       |_,_=>none
     |_,_,_=>none
     else none
 | .extract x i=>match e.ev x with
   | .tup vs=>vs[i]?
   |_=>none
 | .nilCheck x=>match e.ev x with
   | .one (.ptr l off)=>some (.one (.ptr l off))
   | .one (.rp cs)=>some (.one (.rp cs))
   |_=>none
 | .convert s t x=>match e.ev x with
   | .one (.d (.int _ n))=>match P.underlying s,P.underlying t with
     |some _,some (.int k)=>some (Wk k (k.wrap n))
     |_,_=>none
   |_=>none
 | .makeFunc (.func f) first caps=>if first.isEmpty then
   match caps.toList.mapM (λx=>match e.ev x with| .one (.ptr l 0)=>some (Cap.lab l)| .one (.rp cs)=>some (Cap.rp cs)|_=>none) with
   |some l=>some (.one (.fn f l))
   |none=>none
  else none
 | .call c=>match c.callee,c.args.toList with
   | .builtin .max,[x,y]=>match e.ev x,e.ev y with
     | .one (.d (.int k a)),.one (.d (.int _ b))=>some (Wk k (if b>a then b else a))
     |_,_=>none
   | .builtin .min,[x,y]=>match e.ev x,e.ev y with
     | .one (.d (.int k a)),.one (.d (.int _ b))=>some (Wk k (if b<a then b else a))
     |_,_=>none
   |_,_=>none
 |_=>none
def Zg(cs:List C)(o:Nat)(vs:List C):List C:=cs.take o++vs++cs.drop (o+vs.length)
def UZ(pl:List (Nat×Nat))(e:Env):List (Nat×Operand)->List C->Option (List C)
 |[],cs=>some cs
 |(f,x)::r,cs=>match pl[f]? with
   |some (off,n)=>if(e.ev x).cells.length=n/\0<n/\off+n<=cs.length then UZ pl e r (Zg cs off (e.ev x).cells) else none
   |none=>none
def BJ:List C->Bool
 |[.d _,.nil]=>true
 |_=>false
def Ce(cs:List C):Option (List D):=if BJ cs then none else Zt cs
theorem O9{cs d}(h:Ce cs=some d):Zt cs=some d:=by unfold Ce at h;split at h;cases h;exact h
def VL(e:Env)(n:Nat):List (Nat×Operand)->Nat->Option (List (List D))
 |[],_=>some []
 |(i,x)::r,k=>if i=k/\(e.ev x).cells.length=n then
   match Ce (e.ev x).cells,VL e n r (k+1) with
   |some d,some ds=>some (d::ds)
   |_,_=>none
  else none
def Dr(h:HS)(es:Nat):C->Bool
 | .nil=>true
 | .own l xs=>h.arr l==some (xs.length,es)
 |_=>false
def C.qI(h:HS):C->HS
 | .own l _=>h.qC l none
 |_=>h
inductive A where
 |d(x:D)
 |rp(cs:List D)
 |fn(f:FuncId)(caps:List (List D))
inductive AV where
 |one(a:A)
 |agg(ds:List D)
def Ck(h:HS):Cap->Option (List D)
 | .lab l=>match h.box l with
   |some cs=>Zt cs
   |none=>none
 | .rp cs=>some cs
def Vi(h:HS):List Cap->Option (List (List D))
 |[]=>some []
 |c::r=>match Ck h c,Vi h r with
   |some x,some xs=>some (x::xs)
   |_,_=>none
def C.toA(h:HS):C->Option A
 | .d x=>some (.d x)
 | .own _ xs=>some (.d (.sl xs))
 | .nil=>some (.d (.sl []))
 | .z=>some (.d (.sl []))
 | .mrow _ _ _ _=>none
 | .any=>none
 | .ptr l 0=>match h.box l with
   |some cs=>(Zt cs).map A.rp
   |none=>none
 | .ptr _ _=>none
 | .rp cs=>some (.rp cs)
 | .fn f caps=>(Vi h caps).map (A.fn f)
def V.toA(h:HS):V->Option AV
 | .one c=>(c.toA h).map AV.one
 | .agg cs=>(Zt cs).map AV.agg
 |_=>none
def W1(h:HS):List V->Option (List AV)
 |[]=>some []
 |v::vs=>match v.toA h,W1 h vs with
   |some x,some xs=>some (x::xs)
   |_,_=>none
inductive RC where
 |d(x:D)
 |fresh(j es:Nat)(xs:List (List D))
inductive RV where
 |one(c:RC)
 |agg(cs:List RC)
 |tup(vs:List RV)
def RC.toC(ep dst:Nat):RC->C
 | .d x=>.d x
 | .fresh j _ xs=>.own (ep,16*dst+j+1) xs
def RV1.toV(ep dst:Nat):RV->V
 | .one c=>.one (c.toC ep dst)
 | .agg cs=>.agg (cs.map (RC.toC ep dst))
 | .tup _=>.top
def RV.toV(ep dst:Nat):RV->V
 | .tup vs=>.tup (vs.map (RV1.toV ep dst))
 |v=>RV1.toV ep dst v
def RC.fr:RC->List (Nat×Nat×Nat)
 | .d _=>[]
 | .fresh j es xs=>[(j,es,xs.length)]
def RV1.fr:RV->List (Nat×Nat×Nat)
 | .one c=>c.fr
 | .agg cs=>cs.flatMap RC.fr
 | .tup _=>[]
def RV.fr:RV->List (Nat×Nat×Nat)
 | .tup vs=>vs.flatMap RV1.fr
 |v=>RV1.fr v
def HS.qM(h:HS)(dst:Nat):List (Nat×Nat×Nat)->HS
 |[]=>h
 |(j,es,n)::r=>(h.qC (h.ep,16*dst+j+1) (some (n,es))).qM dst r
def We:List (List D)->List AV:=List.map λcs=>AV.one (.rp cs)
@[simp,reducible] def V.i(x:Int):V:=.one (.d (.int .i64 x))
@[simp,reducible] def V.b(x:Bool):V:=.one (.d (.bool x))
@[simp,reducible] def V.s(x:ByteArray):V:=.one (.d (.str x))
@[simp,reducible] def V.l(x:List (List D)):V:=.one (.d (.sl x))
@[simp,reducible] def V.p(x:Z2):V:=.one (.ptr x 0)
@[simp,reducible] def AV.i(x:Int):AV:=.one (.d (.int .i64 x))
@[simp,reducible] def AV.b(x:Bool):AV:=.one (.d (.bool x))
@[simp,reducible] def AV.s(x:ByteArray):AV:=.one (.d (.str x))
@[simp,reducible] def AV.l(x:List (List D)):AV:=.one (.d (.sl x))
@[simp,reducible] def RV.i(x:Int):RV:=.one (.d (.int .i64 x))
@[simp,reducible] def RV.b(x:Bool):RV:=.one (.d (.bool x))
@[simp,reducible] def RV.s(x:ByteArray):RV:=.one (.d (.str x))
@[simp,reducible] def RV.l(x:List (List D)):RV:=.one (.d (.sl x))
@[simp,reducible] def C.i(x:Int):C:=.d (.int .i64 x)
@[simp,reducible] def C.b(x:Bool):C:=.d (.bool x)
@[simp,reducible] def C.s(x:ByteArray):C:=.d (.str x)
@[simp,reducible] def C.l(x:List (List D)):C:=.d (.sl x)
@[simp,reducible] def A.i(x:Int):A:=.d (.int .i64 x)
@[simp,reducible] def A.b(x:Bool):A:=.d (.bool x)
@[simp,reducible] def A.s(x:ByteArray):A:=.d (.str x)
@[simp,reducible] def A.l(x:List (List D)):A:=.d (.sl x)
@[simp,reducible] def RC.i(x:Int):RC:=.d (.int .i64 x)
@[simp,reducible] def RC.b(x:Bool):RC:=.d (.bool x)
@[simp,reducible] def RC.s(x:ByteArray):RC:=.d (.str x)
@[simp,reducible] def RC.l(x:List (List D)):RC:=.d (.sl x)
end
section
open Go.RowKit (Below)
def AF(w:World):Prop:=6<=w.heap.size/\(∃T l,w.heap[1]?=some (.cells (Lib.pow10Tab.map λz=>Value.int .u64 z).toArray T l))/\(∃te pe,w.cell? ⟨4,0,none⟩=some (.iface te pe))/\(∃te pe,w.cell? ⟨5,0,none⟩=some (.iface te pe))/\(∃m,w.cell? ⟨0,0,none⟩=some (.int .i64 m))
theorem AF.below{w w':World}(h:AF w)(hb:Below w.heap.size w w'):AF w':=⟨Yv h.1 hb.size,(by obtain⟨T,l,q⟩:=h.2.1;exact⟨T,l,(hb.block _ (by have:=h.1;omega)).trans q⟩),(by obtain⟨te,pe,q⟩:=h.2.2.1;exact⟨te,pe,(hb.cell (by have:=h.1;show 4<_;omega)).trans q⟩),(by obtain⟨te,pe,q⟩:=h.2.2.2.1;exact⟨te,pe,(hb.cell (by have:=h.1;show 5<_;omega)).trans q⟩),(by obtain⟨m,q⟩:=h.2.2.2.2;exact⟨m,(hb.cell (by have:=h.1;show 0<_;omega)).trans q⟩)⟩
inductive RepD(m:CM):D->Value->Prop
 |int (k:IntKind) (n:Int):RepD m (.int k n) (.int k n)
 |bool (b:Bool):RepD m (.bool b) (.bool b)
 |str (s:ByteArray):RepD m (.str s) (.string s)
 |raw (v:Value) (h:v.oneCell'=true):RepD m (.raw v) v
 |sl (xs:List (List D)) (a:Option Addr) (cap es b off:Nat) (f:Nat->Nat->Value)
   (hl:xs.length<=Zs) (hc:xs.length<=cap) (hes:∀x∈xs,x.length=es) (ha:xs≠[]->a=some ⟨b,off,none⟩)
   (hcell:∀i x,xs[i]?=some x->∀j c,x[j]?=some c->m b (off+(i*es+j))=some (f i j))
   (hrep:∀i x,xs[i]?=some x->∀j c,x[j]?=some c->RepD m c (f i j)):RepD m (.sl xs) (.slice a xs.length cap)
structure Mem where
 cell:CM
 tmp:CM
 loc:Z2->Option (Option Nat×Nat)
def V7(m:CM)(w:World):Prop:=∀b o v,m b o=some v->w.cell? ⟨b,o,none⟩=some v
def Wq(m m':CM):Prop:=∀b o v,m b o=some v->m' b o=some v
def VE(m t:CM)(cs:List D)(v:Value):Prop:=
 ∃b off,v=.pointer (some ⟨b,off,none⟩)/\∀j c,cs[j]?=some c->∃u,(m b (off+j)=some u\/t b (off+j)=some u)/\RepD m c u
def hdr(g:Option Nat)(n cap:Nat):Value:=.slice (g.map λb=>⟨b,0,none⟩) n cap
def Av(μ:Mem):Cap->Value->Prop
 | .lab l,v=>∃b n,μ.loc l=some (some b,n)/\v=.pointer (some ⟨b,0,none⟩)
 | .rp cs,v=>VE μ.cell μ.tmp cs v
def ZX(μ:Mem):C->Value->Prop
 | .d x,v=>RepD μ.cell x v
 | .own l xs,v=>RepD μ.cell (.sl xs) v/\∃g cap,μ.loc l=some (g,cap)/\v=hdr g xs.length cap
 | .nil,v=>v=.slice none 0 0
 | .ptr l off,v=>∃b n,μ.loc l=some (some b,n)/\v=.pointer (some ⟨b,off,none⟩)
 | .rp cs,v=>VE μ.cell μ.tmp cs v
 | .mrow l off n cap,v=>∃b k,μ.loc l=some (some b,k)/\v=.slice (some ⟨b,off,none⟩) n cap/\n<=cap
 | .z,v=>∃a,v=.slice a 0 0
 | .any,v=>v.oneCell'=true
 | .fn f caps,v=>∃vs:Array Value,v=.func (.func f) #[] vs/\vs.size=caps.length/\∀(i:Nat) c,caps[i]?=some c->∃u,vs[i]?=some u/\Av μ c u
def ZA(μ:Mem)(cs:List C)(vs:Array Value):Prop:=vs.size=cs.length/\∀(i:Nat) c,cs[i]?=some c->∃u,vs[i]?=some u/\ZX μ c u
def Ay(μ:Mem):V->Value->Prop
 | .top,_=>True
 | .undef,v=>v=undef
 | .one c,v=>ZX μ c v
 | .agg cs,v=>∃vs:Array Value,v=.agg vs/\ZA μ cs vs
 | .tup _,_=>False
def ZS(μ:Mem):V->Value->Prop
 | .tup xs,v=>∃vs:Array Value,v=.tuple vs/\vs.size=xs.length/\∀(i:Nat) x,xs[i]?=some x->∃u,vs[i]?=some u/\Ay μ x u
 |x,v=>Ay μ x v
def Zu(μ:Mem)(e:Env)(a:Act):Prop:=a.defers=[]/\a.tmps.size=e.n/\∀k,ZS μ (e.get k) (a.tmps.getD k undef)
def Cf(m:CM)(w:World)(aa:Nat)(gc:Option Nat×Nat)(es n:Nat):Prop:=
 (gc.1=none->gc.2=0/\n=0)/\∀g,gc.1=some g->aa<=g/\∃T cur,w.heap[g]?=some (.cells cur T (0,0))/\cur.size=gc.2*es/\n<=gc.2/\gc.2<=maxLen/\∀o,n*es<=o->m g o=none
structure Ctx where
 w0:World
 m0:CM
 t:CM
 glob:AF w0
def HS.live(h:HS)(l:Z2):Prop:=h.box l≠none\/h.arr l≠none
structure Inv(Γ:Ctx)(h:HS)(μ:Mem)(w:World):Prop where
 cell:V7 μ.cell w
 tmp:μ.tmp=Γ.t
 tcell:V7 Γ.t w
 told:∀b o v,Γ.t b o=some v->b<Γ.w0.heap.size
 ext:Wq Γ.m0 μ.cell
 old:∀b o v,b<Γ.w0.heap.size->μ.cell b o=some v->Γ.m0 b o=some v
 below:Below Γ.w0.heap.size Γ.w0 w
 box:∀l cs,h.box l=some cs->∃b n T conc,μ.loc l=some (some b,n)/\Γ.w0.heap.size<=b/\w.heap[b]?=some (.cells conc T (0,0))/\ZA μ cs conc/\∀o,μ.cell b o=none
 arr:∀l es n,h.arr l=some (n,es)->∃gc,μ.loc l=some gc/\Cf μ.cell w Γ.w0.heap.size gc es n
 inj:∀l l' b n n',h.live l->h.live l'->μ.loc l=some (some b,n)->μ.loc l'=some (some b,n')->l=l'
 lt:∀l,μ.loc l≠none->l.1<h.ep
 both:∀l,h.box l≠none->h.arr l≠none->False
theorem Inv.glob{Γ h μ w}(hI:Inv Γ h μ w):AF w:=Γ.glob.below hI.below
structure Mem.Le(μ μ':Mem):Prop where
 cell:Wq μ.cell μ'.cell
 tmp:μ'.tmp=μ.tmp
 loc:∀l x,μ.loc l=some x->μ'.loc l=some x
def Wi(P:Program)(c:Code)(Q:Exit->Env->HS->Prop)(e:Env)(h:HS):Prop:=
 ∀Γ a w μ,Inv Γ h μ w->Zu μ e a->
   c.wp P (λx a' w'=>∃e' h' μ',Q x e' h'/\Inv Γ h' μ' w'/\Zu μ' e' a'/\Mem.Le μ μ') a w
def L3(m t:CM):A->Value->Prop
 | .d x,v=>RepD m x v
 | .rp cs,v=>VE m t cs v
 | .fn f caps,v=>∃vs:Array Value,v=.func (.func f) #[] vs/\vs.size=caps.length/\∀(i:Nat) c,caps[i]?=some c->∃u,vs[i]?=some u/\VE m t c u
def DA(m:CM)(ds:List D)(vs:Array Value):Prop:=vs.size=ds.length/\∀(i:Nat) x,ds[i]?=some x->∃u,vs[i]?=some u/\RepD m x u
def Ci(m t:CM):AV->Value->Prop
 | .one a,v=>L3 m t a v
 | .agg ds,v=>∃vs:Array Value,v=.agg vs/\DA m ds vs
def Bw(m t:CM)(aa:List AV)(vals:Array Value):Prop:=vals.size=aa.length/\∀(i:Nat) a,aa[i]?=some a->∃u,vals[i]?=some u/\Ci m t a u
def Ch(m:CM)(aa:Nat->Option Nat×Nat):RC->Value->Prop
 | .d x,v=>RepD m x v
 | .fresh j _ xs,v=>RepD m (.sl xs) v/\v=hdr (aa j).1 xs.length (aa j).2
def BC(m:CM)(aa:Nat->Option Nat×Nat):RV->Value->Prop
 | .one c,v=>Ch m aa c v
 | .agg cs,v=>∃vs:Array Value,v=.agg vs/\vs.size=cs.length/\∀(i:Nat) c,cs[i]?=some c->∃u,vs[i]?=some u/\Ch m aa c u
 | .tup _,_=>False
def Az(m:CM)(aa:Nat->Option Nat×Nat):RV->Value->Prop
 | .tup xs,v=>∃vs:Array Value,v=.tuple vs/\vs.size=xs.length/\∀(i:Nat) x,xs[i]?=some x->∃u,vs[i]?=some u/\BC m aa x u
 |x,v=>BC m aa x v
def Dn(m:CM)(w w':World)(aa:Nat->Option Nat×Nat)(fr:List (Nat×Nat×Nat)):Prop:=
 (∀x∈fr,Cf m w' w.heap.size (aa x.1) x.2.1 x.2.2)/\∀x∈fr,∀y∈fr,∀b,(aa x.1).1=some b->(aa y.1).1=some b->x.1=y.1
def I7(P:Program)(f:FuncId):Prop:=∃fn,P.funcs[f]?=some fn/\(fn.name== "runtime.NumGoroutine")=false/\fn.body.isNone=false
def Zj(P:Program)(f:FuncId)(ab:List AV)(r:RV):Prop:=
 I7 P f/\∀w m t vals,AF w->V7 m w->V7 t w->Bw m t ab vals->
  Calls P f vals w λe w'=>∃v m' aa,e=.returned v/\Wq m m'/\(∀b o u,b<w.heap.size->m' b o=some u->m b o=some u)/\V7 m' w'/\
   Below w.heap.size w w'/\Az m' aa r v/\Dn m' w w' aa r.fr
inductive Kd where
 |int(k:IntKind)|bool|str|other
 deriving DecidableEq
def WW:D->Kd
 | .int k _=>.int k
 | .bool _=>.bool
 | .str _=>.str
 |_=>.other
def I9:D->D->Bool
 | .int _ a,.int _ b=>a==b
 | .bool a,.bool b=>a==b
 | .str a,.str b=>a==b
 |_,_=>false
def UG:List D->List D->Bool
 |[],[]=>true
 |a::x,b::y=>I9 a b&&UG x y
 |_,_=>false
def VM:List Kd->List Value->Prop
 |[],[]=>True
 | .int k::ks,v::vs=>(∃n,v=.int k n)/\VM ks vs
 | .bool::ks,v::vs=>(∃b,v=.bool b)/\VM ks vs
 | .str::ks,v::vs=>(∃s,v=.string s)/\VM ks vs
 |_,_=>False
def Dv:Value->Value->Bool
 | .int _ a,.int _ b=>a==b
 | .bool a,.bool b=>a==b
 | .string a,.string b=>a==b
 |_,_=>false
def VA:List Value->List Value->Bool
 |[],[]=>true
 |a::x,b::y=>Dv a b&&VA x y
 |_,_=>false
def AX:BinOp->Bool
 | .eql=>true
 | .neq=>true
 |_=>false
def Cp(P:Program)(t:TypeId)(ks:List Kd):Prop:=
 ∀op vs us w x y,AX op=true->VM ks vs->VM ks us->
   (do eqGuard op t x y (.agg vs.toArray) (.agg us.toArray);binOp op t (.agg vs.toArray) (.agg us.toArray)).run P w=.ok (.bool (if op=.neq then !(VA vs us) else VA vs us)) w
def ZZ(o:Oper)(e:Env):Prop:=
 match o.dst with
 |none=>True
 |some d=>d<e.n
def ZU(o:Oper):Nat:=o.dst.getD 0
def Pa(P:Program)(f:FuncId)(aa:List AV)(o:Oper)(e:Env)(h:HS)(K:Env->HS->Prop):Prop:=
 ∃r,Zj P f aa r/\K (e.put o.dst (r.toV h.ep (ZU o))) ((h.qM (ZU o) r.fr).next)
def Hp(μ:Mem)(vs:List V)(vals:Array Value):Prop:=vals.size=vs.length/\∀(i:Nat) v,vs[i]?=some v->∃u,vals[i]?=some u/\ZS μ v u
def Z3(P:Program)(f:FuncId)(vs:List V)(h:HS)(K:V->HS->Prop):Prop:=
 I7 P f/\∀Γ μ w vals,Inv Γ h μ w->Hp μ vs vals->
  Calls P f vals w λe w'=>∃u v h' μ',e=.returned u/\K v h'/\Inv Γ h' μ' w'/\ZS μ' v u/\Mem.Le μ μ'
def WX:Cap->V
 | .lab l=>.one (.ptr l 0)
 | .rp cs=>.one (.rp cs)
def Dz(P:Program)(f:FuncId)(vs:List V)(h:HS)(v:V):Prop:=
 ∀Γ μ w vals,Inv Γ h μ w->Hp μ vs vals->∃u,(callFunc f vals).run P w=.ok (.value u) w/\ZS μ v u
def Z5s(P:Program)(g:FuncId)(caps:List Cap)(vs:List V)(o:Oper)(e:Env)(h:HS)(K:Env->HS->Prop):Prop:=
 (∃ars cs,W1 h vs=some ars/\Vi h caps=some cs/\Pa P g (ars++We cs) o e h K)\/
 Z3 P g (vs++caps.map WX) h (λv h'=>K (e.put o.dst v) h')\/
 ∃v,Dz P g (vs++caps.map WX) h v/\K (e.put o.dst v) h
def Wy(P:Program)(t:TypeId):Option Bool:=
 match P.underlying t with
 |some (.slice _)=>some false
 |some .string=>some true
 |_=>none
def AU(P:Program)(t:TypeId)(c:C)(o:Oper)(e:Env)(h:HS)(K:Env->HS->Prop):Prop:=
 match Wy P t with
 |some true=>match c with
   | .d (.str s)=>K (e.put o.dst (Wk .i64 s.size)) h
   |_=>False
 |some false=>match c with
   | .mrow _ _ n _=>K (e.put o.dst (Wk .i64 n)) h
   |c=>match c.qE with
     |some xs=>xs.length<=Zs->K (e.put o.dst (Wk .i64 xs.length)) h
     |none=>False
 |none=>False
def An(P:Program)(t:TypeId)(c x:C)(d:Nat)(h:HS)(K:V->HS->Prop):Prop:=
 match Zv P t with
 |some (_,n,by_)=>match c.qE,x.qE with
   |some xs,some ys=>(Dr h n c=true/\0<n/\by_<=4096/\(∀y∈xs,y.length=n)/\(∀y∈ys,y.length=n)/\xs.length+ys.length<=Zs)/\
     K (.one (.own (h.ep,16*d) (xs++ys))) (((c.qI h).qC (h.ep,16*d) (some (xs.length+ys.length,n))).next)
   |_,_=>False
 |none=>False
def Al(P:Program)(t:TypeId)(s x:C)(d:Nat)(h:HS)(K:V->HS->Prop):Prop:=
 match Zv P t with
 |some (el,n,by_)=>match Vm h n s,Wg h n x,ZW x with
   |some (k,cap,old,pl),some new,some m=>((ZP P el).isSome=true/\0<n/\by_<=4096/\k+m<=Zs/\new.length=m*n/\old.length=k*n)/\
     (m=0->K (.one s) h)/\
     (0<m->k+m<=cap->∀l off,pl=some (l,off)->∃cs,h.box l=some cs/\off+(k+m)*n<=cs.length/\K (.one (.mrow l off (k+m) cap)) (h.qA l (Zg cs (off+k*n) new)))/\
     (0<m->cap<k+m->∀cap',k+m<=cap'->K (.one (.mrow (h.ep,16*d) 0 (k+m) cap')) ((h.qA (h.ep,16*d) (old++new++List.replicate ((cap'-(k+m))*n) .any)).next))
   |_,_,_=>False
 |none=>False
def D8(P:Program)(t t':TypeId)(s x:C)(d:Nat)(h:HS)(K:V->HS->Prop):Prop:=
 (t≠t'/\∃k,P.underlying t'=some (.int k))/\
 match Zv P t with
 |some (el,n,by_)=>match s,x with
   | .nil,.d (.int _ m)=>((ZP P el).isSome=true/\0<n/\by_<=4096/\0<m/\m<=Zs)/\
     ∀cap',m.toNat<=cap'->K (.one (.mrow (h.ep,16*d) 0 m.toNat cap')) ((h.qA (h.ep,16*d) (List.replicate (cap'*n) .any)).next)
   | .mrow l off k cap,.d (.int _ m)=>match Wg h n (.mrow l off k cap) with
     |some old=>((ZP P el).isSome=true/\0<n/\by_<=4096/\0<m/\k+m<=Zs/\cap<k+m.toNat/\old.length=k*n)/\
       ∀cap',k+m.toNat<=cap'->K (.one (.mrow (h.ep,16*d) 0 (k+m.toNat) cap')) ((h.qA (h.ep,16*d) (old++List.replicate ((cap'-k)*n) .any)).next)
     |none=>False
   |_,_=>False
 |none=>False
def Fs(P:Program)(t:TypeId)(vl vk:V)(d:Nat)(h:HS)(K:V->HS->Prop):Prop:=
 match Zv P t with
 |some (el,n,by_)=>match ZP P el,vl,vk with
   |some z,.one (.d (.int _ a)),.one (.d (.int _ b))=>(0<=a/\a<=b/\b<=Zs/\by_<=4096/\0<n/\n<=8)/\
     K (.one (.mrow (h.ep,16*d) 0 a.toNat b.toNat)) ((h.qA (h.ep,16*d) (List.replicate b.toNat z).flatten).next)
   |_,_,_=>False
 |none=>False
def AS(P:Program)(t:TypeId)(s x:C)(d:Nat)(h:HS)(K:V->HS->Prop):Prop:=
 match Zv P t with
 |some (_,n,_)=>match s,Wg h n x,ZW x with
   | .mrow l off k _,some new,some m=>match h.box l with
     |some cs=>(0<n/\new.length=m*n/\off+k*n<=cs.length)/\K (Wk .i64 ((min m k:Nat):Int)) (h.qA l (Zg cs off (new.take (min m k*n))))
     |none=>False
   |_,_,_=>False
 |none=>False
def Bq(P:Program)(t:TypeId)(s:C)(d:Nat)(h:HS)(K:V->HS->Prop):Prop:=
 match Zv P t with
 |some (el,n,_)=>match s,ZP P el with
   | .mrow l off k _,some z=>match h.box l with
     |some cs=>(0<n/\off+k*n<=cs.length)/\K .top (h.qA l (Zg cs off (List.replicate k z).flatten))
     |none=>False
   | .z,_=>K .top h
   | .nil,_=>K .top h
   |_,_=>False
 |none=>False
def Cd(P:Program)(op:BinOp)(t:TypeId)(c:C)(K:V->Prop):Prop:=
 (AX op=true/\∃el,P.underlying t=some (.slice el))/\
 match c with
 | .nil=>K (Wm (if op=.neq then false else true))
 | .mrow _ _ _ _=>K (Wm (if op=.neq then true else false))
 |c=>match c.qE with
   |some xs=>∀b:Bool,(xs≠[]->b=false)->K (Wm (if op=.neq then !b else b))
   |none=>False
def Hr(P:Program)(op:BinOp)(t:TypeId)(x:V)(K:V->Prop):Prop:=
 match x with
 | .one c=>Cd P op t c K
 |_=>False
def isNilConst:Operand->Bool
 | .const (.slice none 0 0)=>true
 |_=>false
def KK(P:Program)(t:TypeId)(c:C)(K:V->Prop):Prop:=
 (∃el,P.underlying t=some (.slice el))/\
 match c with
 | .nil=>K (Wk .i64 0)
 | .z=>K (Wk .i64 0)
 | .mrow _ _ _ cap=>K (Wk .i64 cap)
 |_=>False
def Z9(P:Program)(o:Oper)(e:Env)(h:HS)(K:Env->HS->Prop):Prop:=
 match o.op with
 | .store t a x=>match ZV P t with
   |some (_,n)=>match e.ev a with
     | .one (.ptr l off)=>match h.box l with
       |some cs=>((e.ev x).cells.length=n/\0<n/\off+n<=cs.length)/\K (e.put o.dst .undef) (h.qA l (Zg cs off (e.ev x).cells))
       |none=>False
     |_=>False
   |none=>False
 | .box _ x=>(e.ev x).cells≠[]/\K (e.put o.dst (.one (.ptr (h.ep,16*ZU o) 0))) ((h.qA (h.ep,16*ZU o) (e.ev x).cells).next)
 | .alloc t=>match ZP P t with
   |some cs=>K (e.put o.dst (.one (.ptr (h.ep,16*ZU o) 0))) ((h.qA (h.ep,16*ZU o) cs).next)
   |none=>False
 | .build t ps=>match ZP P t,Vq P t with
   |some z,some pl=>match UZ pl e ps.toList z with
     |some cs=>K (e.put o.dst (.agg cs)) h
     |none=>False
   |_,_=>False
 | .buildSlice t len ps=>match Zv P t with
   |some (_,n,_)=>match VL e n ps.toList 0 with
     |some xs=>((xs.length=len/\0<n/\len<=64/\n<=64)/\K (e.put o.dst (.one (.own (h.ep,16*ZU o) xs))) ((h.qC (h.ep,16*ZU o) (some (len,n))).next))\/
       ((len=0/\ps.toList=[]/\0<n/\n<=64)/\K (e.put o.dst (.one .z)) h)
     |none=>match UX e n ps.toList 0 with
       |some cs=>(ps.toList.length=len/\0<n/\len<=64/\n<=64)/\K (e.put o.dst (.one (.mrow (h.ep,16*ZU o) 0 len len))) ((h.qA (h.ep,16*ZU o) cs).next)
       |none=>False
   |none=>False
 | .binOp op t x y _=>if isNilConst y=true then Hr P op t (e.ev x) (λv=>K (e.put o.dst v) h) else match e.ev x,e.ev y with
   | .agg cs,.agg cs'=>match Zt cs,Zt cs' with
     |some a,some b=>(AX op=true/\a.map WW=b.map WW/\Kd.other∉a.map WW/\Cp P t (a.map WW))/\K (e.put o.dst (Wm (if op=.neq then !(UG a b) else UG a b))) h
     |_,_=>False
   |u,v=>match Cm (C9 P t) op u v with
     |some r=>K (e.put o.dst r) h
     |none=>False
 | .makeSlice t l c=>Fs P t (e.ev l) (e.ev c) (ZU o) h (λv h'=>K (e.put o.dst v) h')
 | .call c=>match c.callee with
   | .value f=>match e.ev f with
     | .one (.fn g caps)=>Z5s P g caps (c.args.toList.map e.ev) o e h K
     |_=>False
   | .builtin .len=>match c.args.toList.map e.ev,c.argTypes.toList with
     |[.one x],[t]=>AU P t x o e h K
     |_,_=>False
   | .builtin .append=>match c.args.toList.map e.ev,c.argTypes.toList with
     |[.one s,.one x],[t,t']=>((t=t'\/AD P t'=true)/\(An P t s x (ZU o) h (λv h'=>K (e.put o.dst v) h')\/Al P t s x (ZU o) h (λv h'=>K (e.put o.dst v) h')))\/
       D8 P t t' s x (ZU o) h (λv h'=>K (e.put o.dst v) h')
     |_,_=>False
   | .builtin .cap=>match c.args.toList.map e.ev,c.argTypes.toList with
     |[.one s],[t]=>KK P t s (λv=>K (e.put o.dst v) h)
     |_,_=>False
   | .builtin .copy=>match c.args.toList.map e.ev,c.argTypes.toList with
     |[.one s,.one x],[t,t']=>(t=t'\/AD P t'=true)/\AS P t s x (ZU o) h (λv h'=>K (e.put o.dst v) h')
     |_,_=>False
   | .builtin .clear=>match c.args.toList.map e.ev,c.argTypes.toList with
     |[.one s],[t]=>Bq P t s (ZU o) h (λv h'=>K (e.put o.dst v) h')
     |_,_=>False
   |_=>match Zw P o.op e h with
     |some v=>K (e.put o.dst v) h
     |none=>False
 |_=>match Zw P o.op e h with
   |some v=>K (e.put o.dst v) h
   |none=>False
def UU(ops:List Oper)(e:Env)(j:Nat):V:=
 match ops[j]? with
 |some o=>match o.dst with
   |some d=>e.get d
   |none=>.undef
 |none=>.undef
def W6(P:Program)(all:List Oper):List Oper->Env->HS->(Env->HS->Prop)->Prop
 |[],e,h,K=>K e h
 |o::os,e,h,K=>ZZ o e/\
   match o.guard with
   |none=>Z9 P o e h λe h=>W6 P all os e h K
   |some (j,want)=>match UU all e j with
     | .one (.d (.bool b))=>(b=want->Z9 P o e h λe h=>W6 P all os e h K)/\(b≠want->W6 P all os (e.put o.dst .undef) h K)
     | .undef=>W6 P all os (e.put o.dst .undef) h K
     |_=>False
def V3(N:Env->HS->Prop)(Q:Exit->Env->HS->Prop):Exit->Env->HS->Prop
 | .normal,e,h=>N e h
 |x,e,h=>Q x e h
def Cb(id:Nat)(Q:Exit->Env->HS->Prop):Exit->Env->HS->Prop
 | .exit aa,e,h=>if aa=id then Q .normal e h else Q (.exit aa) e h
 |x,e,h=>Q x e h
def vc(P:Program):Code->(Exit->Env->HS->Prop)->Env->HS->Prop
 | .skip,Q,e,h=>Q .normal e h
 | .region _ ops false,Q,e,h=>W6 P ops.toList ops.toList e h (Q .normal)
 | .seq a b,Q,e,h=>vc P a (V3 (λe h=>vc P b Q e h) Q) e h
 | .cond c a b,Q,e,h=>match e.ev c with
   | .one (.d (.bool t))=>(t=true->vc P a Q e h)/\(t=false->vc P b Q e h)
   |_=>False
 | .block id c,Q,e,h=>vc P c (Cb id Q) e h
 | .exit id,Q,e,h=>Q (.exit id) e h
 | .ret,Q,e,h=>Q .ret e h
 |c,Q,e,h=>Wi P c Q e h
end
end Go.Am
section
namespace Go.Am
def HN(T:TypeId->List D->Prop):List Field->List D->Prop
 |[],ds=>ds=[]
 |f::r,ds=>∃a b,ds=a++b/\T f.type a/\HN T r b
def ZM(P:Program)(B:Nat):Nat->TypeId->List D->Prop
 |0,_,_=>False
 |n+1,t,ds=>match P.underlying t with
   |some .bool=>∃b,ds=[.bool b]
   |some (.int k)=>∃x,ds=[.int k x]/\(Lit.int k x).wf=true
   |some .string=>∃s,ds=[.str s]
   |some (.slice e)=>∃xs,ds=[.sl xs]/\xs.length<=B/\∀x∈xs,ZM P B n e x
   |some (.struct fs)=>HN (ZM P B n) fs.toList ds
   |_=>False
def Bz(P:Program):List Field->Nat->Nat->Bool
 |[],o,tot=>o==tot
 |f::r,o,tot=>f.offset==o&&Bz P r (o+P.cellsOf f.type) tot
def Ph(P:Program)(T:List TypeId):Bool:=T.all λt=>match P.underlying t with
 |some .bool|some (.int _)|some .string=>P.cellsOf t==1
 |some (.slice e)=>T.contains e&&decide (0<P.cellsOf e)&&(P.cellsOf t==1)
 |some (.struct fs)=>fs.toList.all (λf=>T.contains f.type)&&Bz P fs.toList 0 (P.cellsOf t)
 |_=>false
def Vw(m:CM)(ds:List D)(cs:List Value):Prop:=cs.length=ds.length/\∀(i:Nat) x,ds[i]?=some x->∃u,cs[i]?=some u/\RepD m x u
theorem Vw.one{m:CM}{x:D}{u:Value}(h:RepD m x u):Vw m [x] [u]:=⟨rfl,λi y hy=>by
 cases i with
 |zero=>cases hy;exact⟨u,rfl,h⟩
 |succ i=>simp at hy⟩
theorem Vw.nil{m:CM}:Vw m [] []:=⟨rfl,λi y hy=>by simp at hy⟩
theorem Vw.append{m:CM}{a b:List D}{x y:List Value}(h:Vw m a x)(k:Vw m b y):Vw m (a++b) (x++y):=by
 refine⟨by simp[h.1,k.1],λi z hz=>?_⟩;rcases YA i a.length with hl|hl;rw[Yq hl] at hz;obtain⟨u,h1,h2⟩:=h.2 i z hz;exact⟨u,by rw[Yq (by rw[h.1];exact hl)];exact h1,h2⟩;rw[YM hl] at hz;obtain⟨u,h1,h2⟩:=k.2 _ z hz;exact⟨u,by rw[YM (by rw[h.1];exact hl),h.1];exact h1,h2⟩
theorem MB{α:Type}{p:Nat->α->Prop}:∀(n:Nat),(∀i,i<n->∃x,p i x)->∃xs:List α,xs.length=n/\∀(i:Nat) x,xs[i]?=some x->p i x
 |0,_=>⟨[],rfl,λi x h=>by simp at h⟩
 |n+1,h=>by
   obtain⟨xs,h1,h2⟩:=MB n λi hi=>h i oM;obtain⟨y,hy⟩:=h n oM;refine⟨xs++[y],by simp[h1],λi x hx=>?_⟩;rcases YA i xs.length with hl|hl;rw[Yq hl] at hx;exact h2 i x hx;rw[YM hl] at hx;have hi:i=n:=by
    have:=(Y0.1 hx).1
    simp at this;omega
   subst hi;rw[h1,Nat.sub_self] at hx;cases hx;exact hy
def cellsOf(w:World):CM:=λb o=>w.cell? ⟨b,o,none⟩
open Go.Proofs.YtbledgpconnopaaGreatDoor.Rows (uptoBulk uptoBulkAll)
theorem Fa{H:Type}(d:DataW H):1<=uptoBulk d:=by
 cases d with
 |lit l=>cases l<;>simp[uptoBulk]
 |_=>simp[uptoBulk]
theorem Ol{H:Type}{d:DataW H}{l:List (DataW H)}(h:d∈l):uptoBulk d<=uptoBulkAll l:=by
 induction l with
 |nil=>cases h
 |cons x r ih=>?_
 simp only[uptoBulkAll];cases Y9.1 h with
 |inl e=>subst e;omega
 |inr e=>have:=ih e;omega
theorem Z5h{H:Type}(l:List (DataW H)):l.length<=uptoBulkAll l:=by
 induction l with
 |nil=>simp[uptoBulkAll]
 |cons x r ih=>have:=Fa x;simp only[uptoBulkAll,YN];omega
mutual
def Cl:D->Nat
 | .sl xs=>U8 xs
 |_=>0
def U8:List (List D)->Nat
 |[]=>0
 |x::r=>1+W8 x+U8 r
def W8:List D->Nat
 |[]=>0
 |d::r=>Cl d+W8 r
end
theorem MD:∀a b:List D,W8 (a++b)=W8 a+W8 b
 |[],b=>by simp[W8]
 |x::a,b=>by simp only[Yk,W8,MD a b];omega
theorem F0:∀xs:List (List D),xs.length<=U8 xs
 |[]=>by simp
 |x::r=>by have:=F0 r;simp only[U8,YN];omega
theorem Om{H:Type}:∀(xs:List (List D)) (es:List (DataW H)),xs.length=es.length->(∀(i:Nat) x e,xs[i]?=some x->es[i]?=some e->W8 x+1<=uptoBulk e)->U8 xs<=uptoBulkAll es
 |[],_,_,_=>by simp[U8]
 |_::_,[],hl,_=>by simp at hl
 |x::xs,e::es,hl,h=>by
   have h1:=h 0 x e rfl rfl;have h2:=Om xs es (by simpa using hl) λi y f hy hf=>h (i+1) y f (by simpa using hy) (by simpa using hf);simp only[U8,uptoBulkAll];omega
section
variable{H:Type}{enc:TypeId×Value->H}{P:Program}{w:World}{base:Nat}{sp:Nat->Bool}{held:Bool}{T:List TypeId}{B:Nat}
theorem MO(n:Nat)(tot:Nat)(cs:List Value)(ae:cs.length=tot)
  (ih:∀t cs x,t∈T->DataW.trod enc P w base sp held n t cs=some x->uptoBulk x.1<=B->∃ds,Vw (cellsOf w) ds cs/\ZM P B n t ds/\W8 ds+1<=uptoBulk x.1):
  ∀(l:List Field) (ys:List (DataW H×List MemPlace)) (o:Nat),Bz P l o tot=true->(∀f∈l,f.type∈T)->ys.length=l.length->(∀(i:Nat) f,l[i]?=some f->DataW.trod enc P w base sp held n f.type ((cs.drop f.offset).take (P.cellsOf f.type))=ys[i]?)->
    (∀y∈ys,uptoBulk y.1<=B)->o<=tot->∃ds,Vw (cellsOf w) ds (cs.drop o)/\HN (ZM P B n) l ds/\W8 ds<=uptoBulkAll (ys.map (·.1))
 |[],ys,o,hc,_,_,_,_,ho=>by
   simp only[Bz,beq_iff_eq] at hc;exact⟨[],by rw[YQ (by omega)];exact Vw.nil,rfl,by simp[W8]⟩
 |f::r,[],_,_,_,hl,_,_,_=>by simp at hl
 |f::r,y::ys,o,hc,hT,hl,hr,hy,ho=>by
   simp only[Bz,YC,beq_iff_eq] at hc;obtain⟨ag,aa⟩:=hc;have h0:=hr 0 f rfl;simp only[List.getElem?_cons_zero] at h0;rw[ag] at h0;obtain⟨a,ab,af,ah⟩:=ih _ _ _ (hT f sI) h0 (hy y sI);have ac:o+P.cellsOf f.type<=tot:=by
    have:∀(l:List Field) (o:Nat),Bz P l o tot=true->o<=tot:=by
     intro l
     induction l with
     |nil=>intro o h;simp only[Bz,beq_iff_eq] at h;omega
     |cons g l ihl=>intro o h;simp only[Bz,YC] at h;have:=ihl _ h.2;omega
    exact this r _ aa
   obtain⟨b,ad,hb2,aj⟩:=MO n tot cs ae ih r ys _ aa (λg hg=>hT g (by simp[hg])) (by simpa using hl) (λi g hg=>by simpa using hr (i+1) g (by simpa using hg)) (λz hz=>hy z (by simp[hz])) ac;refine⟨a++b,?_,⟨a,b,rfl,af,hb2⟩,by simp only[MD,Yb,uptoBulkAll];omega⟩
   have:=ab.append ad
   rwa [<-Xb,YI] at this
theorem Dc(hT:Ph P T=true)(hB:B<=Zs):∀(n:Nat) (t:TypeId) (cs:List Value) (x:DataW H×List MemPlace),t∈T->DataW.trod enc P w base sp held n t cs=some x->uptoBulk x.1<=B->
  ∃ds,Vw (cellsOf w) ds cs/\ZM P B n t ds/\W8 ds+1<=uptoBulk x.1:=by
 intro n
 induction n with
 |zero=>intro t cs x _ h;simp[DataW.trod] at h
 |succ n ih=>?_
 intro t cs x ht h hb;have hp:=YW.1 hT t ht;cases hu:P.underlying t with
 |none=>rw[hu] at hp;cases hp
 |some u=>?_
 rw[hu] at hp;cases u with
 |bool=>?_
 |int k=>?_
 |string=>?_
 |slice e=>?_
 |struct fs=>?_
 |_=>cases hp
 obtain⟨b,rfl,rfl⟩:=DataW.trod_bool hu h;exact⟨[.bool b],Vw.one (.bool b),by simp[ZM,hu],by simp only[W8,Cl];exact Fa _⟩;obtain⟨v,rfl,rfl,hw⟩:=DataW.trod_int hu h;exact⟨[.int k v],Vw.one (.int k v),by simp only[ZM,hu];exact⟨v,rfl,hw⟩,by simp only[W8,Cl];exact Fa _⟩;obtain⟨s,rfl,rfl,_⟩:=DataW.trod_string hu h;exact⟨[.str s],Vw.one (.str s),by simp[ZM,hu],by simp only[W8,Cl];exact Fa _⟩;simp only[YC,decide_eq_true_eq,beq_iff_eq] at hp;obtain⟨⟨he,ax⟩,_⟩:=hp;have he':e∈T:=by simpa using he
 rcases DataW.trod_slice hu h with⟨rfl,rfl⟩|⟨a,len,cap,elems,rest,n',al,rfl,rfl,ar,aw,aq,hlen,ag,_,_⟩;exact⟨[.sl []],Vw.one (.sl [] none 0 0 0 0 (λ_ _=>undef) sI sI sI sI sI sI),by simp only[ZM,hu];exact⟨[],rfl,sI,sI⟩,by simp only[W8,Cl,U8];exact Fa _⟩;obtain rfl:n'=n:=oM;have am:uptoBulkAll (elems.map (·.1))<=B:=by simp only[uptoBulk] at hb;omega
 have ay:len<=B:=by
  have:=Z5h (elems.map (·.1))
  simp at this;omega
 have ad:∀i,i<len->∃ds:List D,ds.length=P.cellsOf e/\(ZM P B n' e ds/\∀z,elems[i]?=some z->W8 ds+1<=uptoBulk z.1)/\∀(j:Nat) c,ds[j]?=some c->∃u,w.cell? ((a.add (i*P.cellsOf e)).add j)=some u/\RepD (cellsOf w) c u:=by
  intro i hi;have h1:=ag i hi;rw[Y1 oM,Option.bind_eq_some_iff] at h1;obtain⟨cs',h2,h3⟩:=h1;have ah:uptoBulk (elems[i]'oM).1<=B:=Yv (Ol (Yi.2 ⟨_,Yf oM,rfl⟩)) am;obtain⟨ds,h4,h5,af⟩:=ih e cs' _ he' h3 ah;obtain⟨_,h6,h7⟩:=World.cells?_some h2;refine⟨ds,by rw[<-h4.1];exact h6,⟨h5,λz hz=>by rw[Y1 oM] at hz;cases hz;exact af⟩,λj c hj=>?_⟩;obtain⟨u,h8,h9⟩:=h4.2 j c hj;have au:=(Y0.1 h8).1;exact⟨u,by rw[h7 j oM];exact h8,h9⟩
 obtain⟨xs,aj,aa⟩:=MB len ad;obtain⟨b,off,spot⟩:=a;have ab:xs≠[]->spot=none:=by intro hne;have h0:0<xs.length:=XG.2 hne;obtain⟨h1,_,h2⟩:=aa 0 _ (Y1 h0);obtain⟨u,h3,_⟩:=h2 0 _ (Y1 oM);simpa[Addr.add] using World.cell?_spot h3
 have ac:∀(i:Nat) x,xs[i]?=some x->∀(j:Nat) c,x[j]?=some c->∃u,w.cell? ⟨b,off+(i*P.cellsOf e+j),none⟩=some u/\RepD (cellsOf w) c u:=by
  intro i x hx j c hc;have hne:xs≠[]:=by rintro rfl;simp at hx
  obtain rfl:=ab hne;obtain⟨_,_,h2⟩:=aa i x hx;obtain⟨u,h3,h4⟩:=h2 j c hc;refine⟨u,?_,h4⟩;rw[<-h3,WideShapes.add_plain,WideShapes.add_plain,Nat.add_assoc]
 refine⟨[.sl xs],Vw.one ?_,by simp only[ZM,hu];exact⟨xs,rfl,oM,λx hx=>by
  obtain⟨i,hi⟩:=YR hx;exact(aa i x hi).2.1.1⟩,by
  have h9:=Om xs (elems.map (·.1)) sO λi y f hy hf=>by
   rw[Y8] at hf;cases hz:elems[i]? with
   |none=>rw[hz] at hf;cases hf
   |some z=>?_
   rw[hz] at hf;cases hf;exact(aa i y hy).2.1.2 z hz
  simp only[W8,Cl,uptoBulk]
  omega⟩
 rw[<-aj];refine .sl xs (some ⟨b,off,spot⟩) cap (P.cellsOf e) b off (λi j=>(w.cell? ⟨b,off+(i*P.cellsOf e+j),none⟩).getD undef) oM oM (λx hx=>by
  obtain⟨i,hi⟩:=YR hx;exact(aa i x hi).1) (λhne=>by rw[ab hne]) ?_ ?_
 intro i x hx j c hc;obtain⟨u,h1,_⟩:=ac i x hx j c hc;simp[cellsOf,h1];intro i x hx j c hc;obtain⟨u,h1,h2⟩:=ac i x hx j c hc;simpa[h1] using h2;simp only[YC] at hp;obtain⟨ae,ak⟩:=hp;obtain⟨xs,n',al,rfl,ap,hxl,hf⟩:=DataW.trod_struct hu h;obtain rfl:n'=n:=oM;have hb':∀y∈xs,uptoBulk y.1<=B:=by intro y hy;have h1:=Ol (Yi.2 ⟨y,hy,rfl⟩:y.1∈xs.map (·.1));simp only[uptoBulk] at hb;omega
 obtain⟨ds,h1,h2,h3⟩:=MO n' (P.cellsOf t) cs ap ih fs.toList xs 0 ak (λf hf=>by have:=YW.1 ae f hf;simpa using this) (by simpa using hxl) (λi f hfi=>hf i f (by simpa using hfi)) hb' (XX _);exact⟨ds,by simpa using h1,by simp only[ZM,hu];exact h2,by simp only[uptoBulk];omega⟩
end
end Go.Am
end
section
namespace Go.Am
open Go.RowKit (Below)
theorem Wq.refl(m):Wq m m:=λ_ _ _ h=>h
theorem Wq.trans{a b c}(h:Wq a b)(k:Wq b c):Wq a c:=λ_ _ _ x=>k _ _ _ (h _ _ _ x)
theorem RepD.mono{m m'}(hs:Wq m m'){x v}(h:RepD m x v):RepD m' x v:=by
 induction h with
 |int k n=>exact .int k n
 |bool b=>exact .bool b
 |str s=>exact .str s
 |raw v h=>exact .raw v h
 |sl xs a cap es b off f hl hc hes ha hcell _ ih=>exact .sl xs a cap es b off f hl hc hes ha (λi x hx j c hj=>hs _ _ _ (hcell i x hx j c hj)) ih
theorem RepD.jZ{m x v}(h:RepD m x v):v.oneCell'=true:=by
 cases h<;>first|rfl|assumption
theorem Mem.Le.refl(μ):Mem.Le μ μ:=⟨Wq.refl _,rfl,λ_ _ h=>h⟩
theorem Mem.Le.trans{a b c}(h:Mem.Le a b)(k:Mem.Le b c):Mem.Le a c:=⟨h.cell.trans k.cell,k.tmp.trans h.tmp,λl x hl=>k.loc l x (h.loc l x hl)⟩
theorem VE.mono{m m' t}(hs:Wq m m'){cs v}(h:VE m t cs v):VE m' t cs v:=by
 obtain⟨b,off,hv,hc⟩:=h;refine⟨b,off,hv,λj c hj=>?_⟩;obtain⟨u,hu,hr⟩:=hc j c hj;exact⟨u,hu.imp (hs _ _ _) id,hr.mono hs⟩
section
variable{μ μ':Mem}
theorem Av.mono(hl:Mem.Le μ μ'){c:Cap}{v}(h:Av μ c v):Av μ' c v:=by
 cases c with
 |lab l=>obtain⟨b,n,h1,h2⟩:=h;exact⟨b,n,hl.loc _ _ h1,h2⟩
 |rp cs=>simp only[Av] at h|-;rw[hl.tmp];exact h.mono hl.cell
theorem ZX.mono(hl:Mem.Le μ μ'){c:C}{v}(h:ZX μ c v):ZX μ' c v:=by
 cases c with
 |d x=>exact RepD.mono hl.cell h
 |own l xs=>obtain⟨h1,g,cap,h2,h3⟩:=h;exact⟨h1.mono hl.cell,g,cap,hl.loc _ _ h2,h3⟩
 |nil=>exact h
 |ptr l off=>obtain⟨b,n,h1,h2⟩:=h;exact⟨b,n,hl.loc _ _ h1,h2⟩
 |rp cs=>simp only[ZX] at h|-;rw[hl.tmp];exact h.mono hl.cell
 |mrow l off n cap=>obtain⟨b,k,h1,h2⟩:=h;exact⟨b,k,hl.loc _ _ h1,h2⟩
 |z=>exact h
 |any=>exact h
 |fn f caps=>?_
 obtain⟨vs,h1,h2,h3⟩:=h;refine⟨vs,h1,h2,λi c hi=>?_⟩;obtain⟨u,hu,hr⟩:=h3 i c hi;exact⟨u,hu,hr.mono hl⟩
theorem ZA.mono(hl:Mem.Le μ μ'){cs vs}(h:ZA μ cs vs):ZA μ' cs vs:=
 ⟨h.1,λi c hi=>let⟨u,hu,hr⟩:=h.2 i c hi;⟨u,hu,hr.mono hl⟩⟩
theorem Ay.mono(hl:Mem.Le μ μ'){x v}(h:Ay μ x v):Ay μ' x v:=by
 cases x with
 |top=>trivial
 |undef=>exact h
 |one c=>exact ZX.mono hl h
 |agg cs=>obtain⟨vs,h1,h2⟩:=h;exact⟨vs,h1,h2.mono hl⟩
 |tup vs=>exact h.elim
theorem ZS.mono(hl:Mem.Le μ μ'){x v}(h:ZS μ x v):ZS μ' x v:=by
 cases x with
 |tup xs=>?_
 |top=>trivial
 |undef=>exact h
 |one c=>exact ZX.mono hl h
 |agg cs=>obtain⟨vs,h1,h2⟩:=h;exact⟨vs,h1,h2.mono hl⟩
 obtain⟨vs,h1,h2,h3⟩:=h;refine⟨vs,h1,h2,λi x hi=>?_⟩;obtain⟨u,hu,hr⟩:=h3 i x hi;exact⟨u,hu,hr.mono hl⟩
theorem Zu.mono(hl:Mem.Le μ μ'){e a}(h:Zu μ e a):Zu μ' e a:=⟨h.1,h.2.1,λk=>(h.2.2 k).mono hl⟩
theorem Zu.put{e a}(h:Zu μ e a){dst v u}(hd:∀d,dst=some d->d<e.n)(hv:ZS μ v u):Zu μ (e.put dst v) (a.put dst u):=by
 cases dst with
 |none=>exact h
 |some d=>?_
 refine⟨h.1,by simpa[Act.put,Env.put] using h.2.1,λk=>?_⟩;have aa:=hd d rfl;rw[<-h.2.1] at aa;simp only[Env.put,Act.put];by_cases hk:k=d;subst hk;simpa[aa] using hv
 have:=h.2.2 k
 simp only[hk,if_false];simpa[Array.getElem?_setIfInBounds,Ne.symm hk] using this
end
theorem Jh(μ v)(h:v.oneCell'=true):ZX μ (Ca v) v:=by unfold Ca;split;exact .int _ _;exact .bool _;exact .str _;rfl;exact RepD.raw _ h
theorem Z1m(μ v):ZS μ (KI v) v:=by
 unfold KI;split;rename_i cs;split;rename_i hall;refine⟨cs,rfl,sI,λi c hi=>?_⟩;rw[Y8] at hi;cases hc:cs[i]? with
 |none=>simp[hc] at hi
 |some u=>?_
 simp[hc] at hi;refine⟨u,rfl,?_⟩;rw[<-hi];refine Jh μ u ?_;rw[Array.all_eq_true] at hall;obtain⟨hlt,he⟩:=YF.1 hc;rw[<-he];exact hall i hlt;trivial;trivial;refine Jh μ v ?_;cases v<;>simp_all [Value.oneCell']
theorem ZH{μ e a}(h:Zu μ e a)(x):ZS μ (e.ev x) (a.eval x):=by
 cases x with
 |tmp t=>exact h.2.2 t
 |const v=>exact Z1m μ v
 |global g=>trivial
 |func f=>exact⟨#[],rfl,sI,λi c hi=>by simp at hi⟩
theorem Vz{μ c v x}(h:ZX μ c v)(hx:c.toD=some x):RepD μ.cell x v:=by
 cases c with
 |d y=>simp[C.toD] at hx;subst hx;exact h
 |own l xs=>simp[C.toD] at hx;subst hx;exact h.1
 |nil=>?_
 |z=>?_
 |mrow l o n cap=>simp[C.toD] at hx
 |any=>simp[C.toD] at hx
 |ptr l o=>simp[C.toD] at hx
 |rp cs=>simp[C.toD] at hx
 |fn f caps=>simp[C.toD] at hx
 simp[C.toD] at hx;subst hx;have h':=h;subst h';exact .sl [] none 0 0 0 0 (λ_ _=>undef) sI sI sI sI sI sI;simp[C.toD] at hx;subst hx;obtain⟨ad,rfl⟩:=h;exact .sl [] ad 0 0 0 0 (λ_ _=>undef) sI sI sI sI sI sI
theorem AR{c:C}{xs}(h:c.qE=some xs):c.toD=some (.sl xs):=by
 cases c with
 |d y=>cases y<;>simp_all [C.qE,C.toD]
 |_=>simp_all [C.qE,C.toD]
theorem RepD.slice{m xs v}(h:RepD m (.sl xs) v):∃a cap,v=.slice a xs.length cap/\xs.length<=cap/\xs.length<=Zs:=by
 cases h with
 |sl xs a cap es b off f hl hc hes ha hcell hrep=>exact⟨a,cap,rfl,hc,hl⟩
theorem RepD.elem{m xs v}(h:RepD m (.sl xs) v){i:Nat}{x}(hx:xs[i]?=some x):
  ∃b off cap,v=.slice (some ⟨b,off,none⟩) xs.length cap/\∀j c,x[j]?=some c->∃u,m b (off+(i*x.length+j))=some u/\RepD m c u:=by
 cases h with|sl xs a cap es b off f hl hc hes ha hcell hrep=>?_;have hne:xs≠[]:=by intro e;subst e;simp at hx
 have he:=hes x (Y4 hx);refine⟨b,off,cap,by rw[ha hne],λj c hj=>?_⟩;rw[he];exact⟨f i j,hcell i x hx j c hj,hrep i x hx j c hj⟩
theorem ZX.one{μ c v}(h:ZX μ c v):v.oneCell'=true:=by
 cases c with
 |d x=>exact RepD.jZ h
 |own l xs=>exact h.1.jZ
 |nil=>have h':=h;subst h';rfl
 |ptr l o=>obtain⟨_,_,_,rfl⟩:=h;rfl
 |mrow l o n cap=>obtain⟨_,_,_,rfl,_⟩:=h;rfl
 |z=>obtain⟨_,rfl⟩:=h;rfl
 |any=>exact h
 |rp cs=>obtain⟨_,_,rfl,_⟩:=h;rfl
 |fn f caps=>obtain⟨_,rfl,_⟩:=h;rfl
theorem Z39{v:Value}(h:v.oneCell'=true):v.cells=#[v]:=by
 cases v<;>simp_all [Value.cells,Value.oneCell']
theorem EZ{μ:Mem}{x v}(h:ZS μ x v)(hne:x.cells≠[]):ZA μ x.cells v.cells:=by
 cases x with
 |one c=>?_
 |agg cs=>obtain⟨vs,rfl,aa⟩:=h;exact aa
 |top=>simp[V.cells] at hne
 |undef=>simp[V.cells] at hne
 |tup vs=>simp[V.cells] at hne
 rw[Z39 (ZX.one h)];refine⟨by simp[V.cells],λi c' hi=>?_⟩;cases i with
 |zero=>simp[V.cells] at hi;subst hi;exact⟨v,sI,h⟩
 |succ i=>simp[V.cells] at hi
theorem ZA.all{μ cs vs}(h:ZA μ cs vs):∀v∈vs.toList,v.oneCell'=true:=by
 intro v hv;obtain⟨i,hi,he⟩:=Yz hv;have aa:i<vs.size:=by simpa using hi
 have hc:i<cs.length:=by rw[<-h.1];exact aa
 obtain⟨u,hu,hr⟩:=h.2 i cs[i] (Y1 hc)
 have:vs[i]?=some v:=by rw[X2 aa];simpa using he
 rw[this] at hu;cases hu;exact hr.one
theorem Mu{cs}:∀{ds:List D},Zt cs=some ds->ds.length=cs.length:=by
 induction cs with
 |nil=>intro ds h;simp[Zt] at h;subst h;rfl
 |cons c cs ih=>?_
 intro ds h;simp only[Zt] at h;split at h;rename_i x xs _ aa;injection h with h;subst h;simp[ih aa]
 cases h
theorem Z4r{cs}:∀{ds:List D},Zt cs=some ds->∀(i:Nat) x,ds[i]?=some x->∃c,cs[i]?=some c/\c.toD=some x:=by
 induction cs with
 |nil=>intro ds h i x hx;simp[Zt] at h;subst h;simp at hx
 |cons c cs ih=>?_
 intro ds h i x hx;simp only[Zt] at h;split at h;rename_i y ys hy aa;injection h with h
 subst h;cases i with
 |zero=>simp at hx;subst hx;exact⟨c,sI,hy⟩
 |succ i=>simp at hx;obtain⟨c',h1,h2⟩:=ih aa i x hx;exact⟨c',by simpa using h1,h2⟩
 cases h
theorem F2{μ cs vs ds}(h:ZA μ cs vs)(hd:Zt cs=some ds):DA μ.cell ds vs:=by
 refine⟨by rw[h.1,Mu hd],λi x hx=>?_⟩;obtain⟨c,hc,aa⟩:=Z4r hd i x hx;obtain⟨u,hu,hr⟩:=h.2 i c hc;exact⟨u,hu,Vz hr aa⟩
end Go.Am
end
section
namespace Go.Am
open Go.RowKit (Below)
def ZT(P:Program)(o:Oper)(a:Act)(w:World)(u:Value):Prop:=(execOp a.eval o).run P w=.ok (.value u) w
theorem U1(b off n:Nat):(⟨b,off,none⟩:Addr).add n=⟨b,off+n,none⟩:=by unfold Addr.add;split;rename_i hn;subst hn;rfl;rfl
theorem RepD.qP{m k}{n:Int}{v}(h:RepD m (.int k n) v):v=.int k n:=by cases h;rfl
theorem RepD.jF{m b v}(h:RepD m (.bool b) v):v=.bool b:=by cases h;rfl
theorem RepD.qR{m s v}(h:RepD m (.str s) v):v=.string s:=by cases h;rfl
theorem Og{P}{t f off n:Nat}{ag}(h:ZB P t f=some (off,ag,n)):
  ∃fs fd d i,P.underlying t=some (.struct fs)/\fs[f]?=some fd/\fd.offset=off/\P.underlying fd.type=some d/\Ub d=ag/\P.info? fd.type=some i/\i.size=n/\n≠0:=by
 unfold ZB at h;split at h;rename_i fs hu;split at h;rename_i fd hf;split at h;rename_i aa n' hl;unfold ZV at hl;split at hl;rename_i d i hd hi;simp only[Ya,Yt] at hl;split at h;cases h;rename_i hn;simp only[Ya,Yt] at h;exact⟨fs,fd,d,i,hu,hf,h.1,hd,by rw[hl.1,h.2.1],hi,by rw[hl.2,h.2.2],by rw[<-h.2.2];exact hn⟩;cases hl;cases h;cases h;cases h
theorem K5{P}{t n:Nat}{ag}(h:ZV P t=some (ag,n)):∃d i,P.underlying t=some d/\Ub d=ag/\P.info? t=some i/\i.size=n:=by unfold ZV at h;split at h;rename_i d i hd hi;simp only[Ya,Yt] at h;exact⟨d,i,hd,h.1,hi,h.2⟩;cases h
theorem Un{P}{t e n b:Nat}(h:Zv P t=some (e,n,b)):∃i z,P.underlying t=some (.slice e)/\P.info? e=some i/\i.size=n/\i.bytes=b/\i.zero=some z/\z.cells.size=n:=by unfold Zv at h;split at h;rename_i e' hu;split at h;rename_i i hi;split at h;rename_i z hz;split at h;rename_i aa;simp only[Ya,Yt] at h;obtain⟨rfl,h2,h3⟩:=h;exact⟨i,z,hu,hi,h2,h3,hz,by rw[aa,h2]⟩;cases h;cases h;cases h;cases h
theorem Bj{P w}{t:Nat}{d}(h:P.underlying t=some d):(isAgg t).run P w=.ok (Ub d) w:=by unfold isAgg;simp only[Sem.run_bind,run_underlying h,Result.andThen_ok];cases d<;>rfl
theorem EI{n:Nat}{cs l}(h:Zl n cs=some l):n<=cs.length/\l=cs.take n:=by unfold Zl at h;split at h;rename_i hn;exact⟨hn,by injection h with h;exact h.symm⟩;cases h
def At(μ:Mem)(w:World)(b off:Nat)(cs:List C):Prop:=∀j c,cs[j]?=some c->∃u,w.cell? ⟨b,off+j,none⟩=some u/\ZX μ c u
section
variable{P:Program}{o:Oper}{a:Act}{w:World}{e:Env}{h:HS}{μ:Mem}{Γ:Ctx}
theorem Mj(hI:Inv Γ h μ w){c v}{n:Nat}{l}(hc:ZX μ c v)(hr:Au h c n=some l):
  l.length=n/\∃b off,v=.pointer (some ⟨b,off,none⟩)/\At μ w b off l:=by
 unfold Au at hr;split at hr;rename_i lb off;split at hr;rename_i cs hb;obtain⟨hn,rfl⟩:=EI hr;obtain⟨b,_,ac,rfl⟩:=hc;obtain⟨b',_,T,conc,aa,_,hh,ad,_⟩:=hI.box lb cs hb;rw[ac] at aa;simp only[Ya,Yt] at aa;obtain⟨rfl,_⟩:=aa;refine⟨by simp only[YE];omega,b,off,rfl,λj c hj=>?_⟩;rw[YX] at hj;split at hj;rw[YJ] at hj;obtain⟨u,hu,ab⟩:=ad.2 _ _ hj;exact⟨u,by simp[World.cell?,hh,hu],ab⟩;cases hj;cases hr;rename_i cs;obtain⟨hn,rfl⟩:=EI hr;obtain⟨b,off,rfl,hp⟩:=hc;refine⟨by simp only[YE];omega,b,off,rfl,λj c hj=>?_⟩;rw[YX] at hj;split at hj;rw[Y8] at hj;cases hx:cs[j]? with
 |none=>simp[hx] at hj
 |some x=>?_
 simp[hx] at hj;subst hj;obtain⟨u,hu,ab⟩:=hp j x hx;refine⟨u,?_,ab⟩;rcases hu with hu|hu;exact hI.cell _ _ _ hu;rw[hI.tmp] at hu;exact hI.tcell _ _ _ hu;cases hj;cases hr
theorem At.list{b off:Nat}{cs}(h:At μ w b off cs):∃vs:List Value,vs.length=cs.length/\ZA μ cs vs.toArray/\∀j v,vs[j]?=some v->w.cell? ((⟨b,off,none⟩:Addr).add j)=some v:=by
 induction cs generalizing off with
 |nil=>exact⟨[],rfl,⟨rfl,λi c hi=>by simp at hi⟩,λj v hj=>by simp at hj⟩
 |cons c cs ih=>?_
 obtain⟨u,hu,hr⟩:=h 0 c sI;obtain⟨vs,hl,hR,hv⟩:=ih (λj c hj=>by obtain⟨u,hu,hr⟩:=h (j+1) c (by simpa using hj);exact⟨u,by rw[show off+1+j=off+(j+1) by omega];exact hu,hr⟩);refine⟨u::vs,by simp[hl],⟨by simp[hl],λi c' hi=>?_⟩,λj v hj=>?_⟩;cases i with
 |zero=>simp at hi;subst hi;exact⟨u,sI,hr⟩
 |succ i=>?_
 obtain⟨x,hx,aa⟩:=hR.2 i c' (by simpa using hi);exact⟨x,by simpa using hx,aa⟩;cases j with
 |zero=>simp at hj;subst hj;simpa[U1] using hu
 |succ j=>?_
 have:=hv j v (by simpa using hj)
 rw[U1] at this|-;rw[show off+(j+1)=off+1+j by omega];exact this
theorem K7{vs cs ag v}(hR:ZA μ cs vs.toArray)(hm:Cn ag cs=some v):
  (ag=true->ZS μ v (.agg vs.toArray))/\(ag=false->∃u,vs=[u]/\ZS μ v u):=by
 unfold Cn at hm;refine⟨λaa=>?_,λaa=>?_⟩;subst aa;simp at hm;subst hm;exact⟨vs.toArray,rfl,hR⟩;subst aa;simp only[YH,if_false] at hm;split at hm;rename_i c;injection hm with hm
 subst hm;obtain⟨u,hu,hr⟩:=hR.2 0 c sI;have hl:vs.length=1:=by simpa using hR.1
 match vs,hl with
 |[u'],_=>simp at hu;subst hu;exact⟨_,rfl,hr⟩
 cases hm
theorem Z1j(hI:Inv Γ h μ w)(hE:Zu μ e a){t}{x:Operand}(ho:o.op=.load t x){v}(hv:Zw P (.load t x) e h=some v):
  ∃u,ZT P o a w u/\ZS μ v u:=by
 have hx:=ZH hE x;simp only[Zw] at hv;split at hv;rename_i ag n af;obtain⟨d,i,hd,ad,hi,hn⟩:=K5 af;split at hv;rename_i c hc;rw[hc] at hx;split at hv;rename_i l hr;obtain⟨ah,b,off,ac,am⟩:=Mj hI (show ZX μ c _ from hx) hr;obtain⟨vs,al,hR,ab⟩:=am.list;have ae:=K7 hR hv;cases aa:ag with|true=>?_|false=>?_;refine⟨_,?_,ae.1 aa⟩
 have:=run_loadCells_list (P:=P) w ⟨b,off,none⟩ vs ab
 unfold ZT;simp[execOp,ho,ac,Instr.loadAt,Instr.sureAddr,loadVar,Bj hd,ad,aa,sizeOf,typeInfo,hi,hn,<-ah,<-al,this];obtain⟨u,ak,aj⟩:=ae.2 aa;refine⟨u,?_,aj⟩;subst ak
 have:=ab 0 u sI
 rw[U1] at this;unfold ZT;simp only[YY] at this;simp[execOp,ho,ac,Instr.loadAt,Instr.sureAddr,loadVar,Bj hd,ad,aa,run_load,this];cases hv;cases hv;cases hv
theorem TF(hE:Zu μ e a){op t t' x y}(ho:o.op=.binOp op t x y t'){v}(hv:Cm (C9 P t) op (e.ev x) (e.ev y)=some v):
  ∃u,ZT P o a w u/\ZS μ v u:=by
 have hx:=ZH hE x;have hy:=ZH hE y;generalize e.ev x=X at hx hv;generalize e.ev y=Y at hy hv;unfold Cm at hv;split at hv
 .rename_i k n k' n';have aa:=RepD.qP hx;have ab:=RepD.qP hy;split at hv
  .rename_i hk;subst hk;unfold KD at hv;split at hv<;>first|(cases hv;done)|(injection hv with hv;subst hv;refine⟨_,?_,by first|exact RepD.int _ _|exact RepD.bool _⟩;unfold ZT;simp[execOp,ho,aa,ab,eqGuard,binOp,Op.intCmp,Op.intArith])|(split at hv<;>first|(cases hv;done)|(rename_i hz;injection hv with hv;subst hv;refine⟨_,?_,RepD.int _ _⟩;unfold ZT;simp[execOp,ho,aa,ab,eqGuard,binOp,Op.intDiv,hz]))
  cases hv
 .rename_i s s';have aa:=RepD.qR hx;have ab:=RepD.qR hy;unfold KC at hv;split at hv<;>first|(cases hv;done)|(injection hv with hv;subst hv;refine⟨_,?_,by exact RepD.bool _⟩;unfold ZT;simp[execOp,ho,aa,ab,eqGuard,binOp,Op.stringOp,strEq,Uz])|(split at hv<;>first|(cases hv;done)|(rename_i hz;have ad:¬(((s.size+s'.size:Nat):Int)>IntKind.i64.max):=(by show¬(((s.size+s'.size:Nat):Int)>9223372036854775807);omega);injection hv with hv;subst hv;refine⟨_,?_,RepD.str _⟩;unfold ZT;simp only[execOp,ho,aa,ab,eqGuard,binOp,Op.stringOp];rw[if_neg ad];rfl))
 .rename_i s s';have aa:=RepD.jF hx;have ab:=RepD.jF hy;split at hv
  .rename_i ac;have ht:P.underlying t=some .bool:=by unfold C9 at ac;split at ac;assumption;cases ac
   have hq:∀w,(Op.equalIn Op.maxDepth t (.bool s) (.bool s')).run P w=.ok (s==s') w:=λw=>run_equalIn_bool' w 9999 t s s' ht;split at hv<;>first|(cases hv;done)|(injection hv with hv;subst hv;refine⟨_,?_,by exact RepD.bool _⟩;unfold ZT;simp[execOp,ho,aa,ab,eqGuard,binOp,Op.equal,hq];try (cases s<;>cases s'<;>rfl))
  cases hv
 cases hv
theorem Sg(hE:Zu μ e a){t f:Nat}{x}(ho:o.op=.fieldAddr t x f){v}(hv:Zw P (.fieldAddr t x f) e h=some v):
  ∃u,ZT P o a w u/\ZS μ v u:=by
 have hx:=ZH hE x;simp only[Zw] at hv;split at hv;rename_i off ag n ah;obtain⟨fs,fd,d,i,hu,hf,ad,_,_,hi,hn,af⟩:=Og ah;have key:∀b aa,a.eval x=.pointer (some ⟨b,aa,none⟩)->ZT P o a w (.pointer (some ⟨b,aa+off,none⟩)):=by
  intro b aa hp;have ae:i.size≠0:=by rw[hn];exact af
  unfold ZT;simp[execOp,ho,hp,Instr.fieldAt,run_underlying hu,hf,Instr.sureAddr,fieldPlace,sizeOf,typeInfo,hi,ae,U1,ad]
 split at hv;rename_i l o' ab;rw[ab] at hx;injection hv with hv
 subst hv;obtain⟨b,m,ac,hp⟩:=(show ZX μ (.ptr l o') _ from hx);exact⟨_,key b o' hp,b,m,ac,rfl⟩;rename_i cs ab;rw[ab] at hx;split at hv;rename_i hlt;injection hv with hv
 subst hv;obtain⟨b,aa,hp,hc⟩:=(show ZX μ (.rp cs) _ from hx);refine⟨_,key b aa hp,b,aa+off,rfl,λj c hj=>?_⟩;rw[YJ] at hj;obtain⟨u,hu,hr⟩:=hc _ _ hj;exact⟨u,by rw[Nat.add_assoc];exact hu,hr⟩;cases hv;cases hv;cases hv
theorem TE(hE:Zu μ e a){t f:Nat}{x}(ho:o.op=.field t x f){v}(hv:Zw P (.field t x f) e h=some v):
  ∃u,ZT P o a w u/\ZS μ v u:=by
 have hx:=ZH hE x;simp only[Zw] at hv;split at hv;rename_i off ag n ap;obtain⟨fs,fd,d,i,hu,hf,ab,hd,ae,hi,hn,_⟩:=Og ap;split at hv;rename_i cs ah;rw[ah] at hx;split at hv;rename_i l ht;obtain⟨_,rfl⟩:=EI ht;obtain⟨vs,ad,hR⟩:=(show∃vs:Array Value,a.eval x=.agg vs/\ZA μ cs vs from hx);have am:ZA μ ((cs.drop off).take n) ((vs.toList.drop off).take n).toArray:=by
  refine⟨by simp[hR.1],λi c hi=>?_⟩;rw[YX] at hi;split at hi;rw[YJ] at hi;obtain⟨u,hu,hr⟩:=hR.2 _ _ hi;refine⟨u,?_,hr⟩;rename_i al;simp[al,hu];cases hi
 have af:=K7 am hv;cases aa:ag with|true=>?_|false=>?_;refine⟨_,?_,af.1 aa⟩;unfold ZT;have hex:vs.extract off (off+n)=((vs.toList.drop off).take n).toArray:=by apply Array.ext';simp[List.take_drop]
 simp[execOp,ho,ad,Instr.field,run_underlying hu,hf,part,asAgg,Bj hd,ae,aa,sizeOf,typeInfo,hi,hn,ab,hex];obtain⟨u,ak,aj⟩:=af.2 aa;refine⟨u,?_,aj⟩;have ac:vs[off]?=some u:=by
  have h0:((vs.toList.drop off).take n)[0]?=some u:=by rw[ak];rfl
  rw[YX] at h0;split at h0;simpa using h0;cases h0
 unfold ZT;simp[execOp,ho,ad,Instr.field,run_underlying hu,hf,part,asAgg,Bj hd,ae,aa,ab,ac];cases hv;cases hv;cases hv
theorem Z1e{t}(h:Dy P t=true):P.underlying t=some .string:=by unfold Dy at h;split at h;assumption;cases h
theorem Z5i{t len n:Nat}(h:DJ P t=some (len,n)):∃el i,P.underlying t=some (.array len el)/\P.info? el=some i/\i.size=n:=by unfold DJ at h;split at h;rename_i aa el hu;split at h;rename_i i hi;simp at h;obtain⟨rfl,rfl⟩:=h;exact⟨el,i,hu,hi,rfl⟩;cases h;cases h
theorem Sf(hE:Zu μ e a){t:Nat}{x y}(ho:o.op=.indexAddr t x y){v}(hv:Zw P (.indexAddr t x y) e h=some v):
  ∃u,ZT P o a w u/\ZS μ v u:=by
 have hx:=ZH hE x;have hy:=ZH hE y;simp only[Zw] at hv;split at hv;rename_i el n ak ae;obtain⟨i,_,hu,hi,hn,_⟩:=Un ae;split at hv;rename_i l off m cap k aa ac ab;rw[ac] at hx;rw[ab] at hy;have ad:=RepD.qP hy;split at hv;rename_i h0;injection hv with hv
 subst hv;obtain⟨b,kk,h1,h2,_⟩:=(show∃b k,μ.loc l=some (some b,k)/\a.eval x=.slice (some ⟨b,off,none⟩) m cap/\m<=cap from hx);refine⟨.pointer (some ⟨b,off+aa.toNat*n,none⟩),?_,b,kk,h1,rfl⟩;unfold ZT;have h1:0<=aa/\aa<(m:Int):=⟨h0.1,oM⟩;simp[execOp,ho,h2,ad,Instr.indexAt,asIntOf,run_underlying hu,h1.1,h1.2,sizeOf,typeInfo,hi,hn,U1];cases hv;rename_i c k aa aj ac ab;rw[ac] at hx;rw[ab] at hy;have ad:=RepD.qP hy;split at hv;rename_i xs ah;split at hv;rename_i h0;split at hv;rename_i z hz;split at hv;rename_i hl;injection hv with hv
 subst hv;have hD:=Vz (show ZX μ c _ from hx) (AR ah);obtain⟨b,off,cap,af,hc⟩:=hD.elem hz;have hlt:=(Y0.1 hz).1;refine⟨.pointer (some ⟨b,off+aa.toNat*n,none⟩),?_,b,off+aa.toNat*n,rfl,λj c hj=>?_⟩;unfold ZT;have h1:0<=aa/\aa<(xs.length:Int):=⟨h0,oM⟩;simp[execOp,ho,af,ad,Instr.indexAt,asIntOf,run_underlying hu,h1.1,h1.2,sizeOf,typeInfo,hi,hn,U1];obtain⟨u,hu,hr⟩:=hc j c hj;refine⟨u,.inl ?_,hr⟩;rw[<-hl.1];rw[Nat.add_assoc];exact hu;cases hv;cases hv;cases hv;cases hv;cases hv;split at hv;rename_i len n ag;split at hv;rename_i l off k aa ac ab;rw[ac] at hx;rw[ab] at hy;have ad:=RepD.qP hy;split at hv;rename_i h0;injection hv with hv
 subst hv;obtain⟨el,i,hu,hi,hn⟩:=Z5i ag;obtain⟨b,kk,h1,h2⟩:=(show∃b n,μ.loc l=some (some b,n)/\a.eval x=.pointer (some ⟨b,off,none⟩) from hx);refine⟨.pointer (some ⟨b,off+aa.toNat*n,none⟩),?_,b,kk,h1,rfl⟩;unfold ZT;simp[execOp,ho,h2,ad,Instr.indexAt,asIntOf,Instr.sureAddr,run_underlying hu,h0.1,h0.2,sizeOf,typeInfo,hi,hn,U1];cases hv;cases hv;cases hv
theorem Z12{t el i}(hu:P.underlying t=some (.slice el))(hi:P.info? el=some i)(ad)(len cap:Nat)(lo hi' mx)(l h m:Nat)
  (ae:(lo=none/\l=0)\/∃k n,lo=some (.int k n)/\0<=n/\l=n.toNat)(af:(hi'=none/\h=len)\/∃k n,hi'=some (.int k n)/\0<=n/\h=n.toNat)(ag:(mx=none/\m=cap)\/∃k n,mx=some (.int k n)/\0<=n/\m=n.toNat)
  (ac:mx.isSome=true->hi'.isSome=true)(h1:l<=h)(h2:h<=m)(h3:m<=cap):
  (Instr.sliceAt t (.slice ad len cap) lo hi' mx).run P w=.ok (.slice (if m=l then ad else ad.map (·.add (l*i.size))) (h-l) (m-l)) w:=by
 have e1:∀(n:Int) (y:Nat) c (k:IntKind),0<=n->n.toNat<=y->(Instr.sliceBound (.int k n) y c).run P w=.ok n.toNat w:=λn y c k h0 hy=>by
  have:0<=n/\n<=y:=⟨h0,oM⟩
  simp[Instr.sliceBound,asIntOf,this.1,this.2]
 have e2:(Instr.sliceBounds true len cap lo hi' mx).run P w=.ok (l,h,m) w:=by unfold Instr.sliceBounds;rcases ag with⟨rfl,rfl⟩|⟨ab,aa,rfl,h5,rfl⟩;rcases ae with⟨rfl,rfl⟩|⟨k,n,rfl,h6,rfl⟩<;>rcases af with⟨rfl,rfl⟩|⟨k',n',rfl,h4,rfl⟩;simp;simp[e1 n' m _ k' h4 h2];simp[e1 n h _ k h6 h1];simp[e1 n' m _ k' h4 h2,e1 n n'.toNat _ k h6 h1];rcases ae with⟨rfl,rfl⟩|⟨k,n,rfl,h6,rfl⟩<;>rcases af with⟨rfl,rfl⟩|⟨k',n',rfl,h4,rfl⟩;simp at ac;simp[e1 aa cap _ ab h5 h3,e1 n' aa.toNat _ k' h4 h2];simp at ac;simp[e1 aa cap _ ab h5 h3,e1 n' aa.toNat _ k' h4 h2,e1 n n'.toNat _ k h6 h1]
 simp[Instr.sliceAt,Instr.slice,run_underlying hu,e2,sizeOf,typeInfo,hi]
theorem ND(hE:Zu μ e a){x r}(hx:UC e x=some r):(x=none/\r=none)\/∃y k n,x=some y/\a.eval y=.int k n/\0<=n/\r=some n.toNat:=by
 cases x with
 |none=>simp[UC] at hx;exact .inl ⟨rfl,hx.symm⟩
 |some y=>?_
 simp only[UC] at hx;split at hx;rename_i k n hy;split at hx;rename_i h0;have hr:=ZH hE y;rw[hy] at hr;exact .inr ⟨y,k,n,rfl,RepD.qP hr,h0,by injection hx with hx;exact hx.symm⟩;cases hx;cases hx
theorem Ke(hE:Zu μ e a){x r}(hx:UC e x=some r)(len:Nat):(x.map a.eval=none/\r.getD len=len)\/∃k n,x.map a.eval=some (.int k n)/\0<=n/\r.getD len=n.toNat:=by rcases ND hE hx with⟨rfl,rfl⟩|⟨y,k,n,rfl,h1,h2,rfl⟩;exact .inl ⟨rfl,rfl⟩;exact .inr ⟨k,n,by simp[h1],h2,rfl⟩
theorem RepD.sub{m xs ad}{cap es:Nat}(h:RepD m (.sl xs) (.slice ad xs.length cap))(ae:∀x∈xs,x.length=es){lo hi mx:Nat}(h1:lo<=hi)(h2:hi<=xs.length)(h3:hi<=mx):
  RepD m (.sl ((xs.take hi).drop lo)) (.slice (if mx=lo then ad else ad.map (·.add (lo*es))) (hi-lo) (mx-lo)):=by
 have hlen:((xs.take hi).drop lo).length=hi-lo:=sO;generalize hv:Value.slice ad xs.length cap=v at h;cases h with|sl xs a cap' es' b off f hl hc hes' ha hcell hrep=>?_;injection hv with hv1 hv2 hv3
 subst hv1 hv3;rw[<-hlen];by_cases hne:(xs.take hi).drop lo=[];rw[hne];exact .sl [] _ _ 0 0 0 (λ_ _=>undef) sI sI sI sI sI sI;have aa:xs≠[]:=by rintro rfl;simp at hne
 have ab:es'=es:=by obtain⟨x,hx⟩:=List.exists_mem_of_ne_nil xs aa;rw[<-hes' x hx,ae x hx]
 subst ab;have hlt:lo<hi:=by
  rcases YA lo hi with h|h;exact h
  exfalso;apply hne;apply Yw;omega
 have get:∀(i:Nat) x,((xs.take hi).drop lo)[i]?=some x->xs[lo+i]?=some x:=λi x hx=>by rw[YJ,YX] at hx;split at hx;exact hx;cases hx
 have ac:¬mx=lo:=oM;rw[if_neg ac,ha aa];refine .sl _ _ _ es' b (off+lo*es') (λi j=>f (lo+i) j) (by rw[hlen];omega) (by rw[hlen];omega) (λx hx=>hes' x (XP (List.mem_of_mem_drop hx))) (λ_=>by simp[Addr.add]) (λi x hx j c hj=>?_) (λi x hx j c hj=>hrep _ x (get i x hx) j c hj)
 have:=hcell _ x (get i x hx) j c hj
 rw[show off+lo*es'+(i*es'+j)=off+((lo+i)*es'+j) by rw[YG];omega];exact this
theorem N1(hE:Zu μ e a){x r}(hx:UC e x=some r):(x.map a.eval).isSome=r.isSome:=by rcases ND hE hx with⟨rfl,rfl⟩|⟨y,k,n,rfl,_,_,rfl⟩<;>rfl
theorem TC(hE:Zu μ e a){t:Nat}{x:Operand}{lo hi mx:Option Operand}(ho:o.op=.slice t x lo hi mx){v:V}(hv:Zw P (.slice t x lo hi mx) e h=some v):
  ∃u,ZT P o a w u/\ZS μ v u:=by
 have hx:=ZH hE x;simp only[Zw] at hv;split at hv;rename_i el n a7 aw;obtain⟨i,_,hu,ar,hn,_⟩:=Un aw;split at hv;rename_i c aa ac ab ag a1 al ak;rw[ag] at hx;have ae:=hx;have run:∀ad len cap,a.eval x=.slice ad len cap->(ab.isSome=true->ac.isSome=true)->aa.getD 0<=ac.getD len->ac.getD len<=ab.getD cap->ab.getD cap<=cap->
   ZT P o a w (.slice (if ab.getD cap=aa.getD 0 then ad else ad.map (·.add (aa.getD 0*n))) (ac.getD len-aa.getD 0) (ab.getD cap-aa.getD 0)):=λad len cap he hs h1 h2 h3=>by
  have:=Z12 (w:=w) hu ar ad len cap (lo.map a.eval) (hi.map a.eval) (mx.map a.eval) _ _ _ (Ke hE a1 0) (Ke hE al len) (Ke hE ak cap) (by rw[N1 hE ak,N1 hE al];exact hs) h1 h2 h3
  rw[hn] at this;unfold ZT;simp[execOp,ho,he,this]
 cases hsc:Hs n c aa ac ab with
 |none=>rw[hsc] at hv;cases hv
 |some c'=>?_
 rw[hsc] at hv;simp only[Yj,Ya] at hv;subst hv;unfold Hs at hsc;split at hsc;rename_i l off k cap;split at hsc;rename_i hb;obtain⟨⟨af,hb2⟩,ap,am⟩:=hb;obtain⟨b,kk,h1,h2,_⟩:=ae;refine⟨_,run _ _ _ h2 am af hb2 ap,?_⟩;split at hsc;rename_i hlt;injection hsc with hsc
 subst hsc;rw[if_neg oM];exact⟨b,kk,h1,by simp[Addr.add],oM⟩;injection hsc with hsc
 subst hsc;refine⟨(if ab.getD cap=aa.getD 0 then some ⟨b,off,none⟩ else(some ⟨b,off,none⟩:Option Addr).map (·.add (aa.getD 0*n))),?_⟩;rw[show ac.getD k-aa.getD 0=0 by omega,show ab.getD cap-aa.getD 0=0 by omega];cases hsc;split at hsc;rename_i hb;injection hsc with hsc
 subst hsc;have ah:=ae
 have:=run none 0 0 ah hb.2.2.2 oM oM oM
 refine⟨_,this,?_⟩;have e1:(if ab.getD 0=aa.getD 0 then none else(none:Option Addr).map (·.add (aa.getD 0*n)))=none:=by split<;>rfl
 rw[e1,hb.1,hb.2.1,hb.2.2.1];rfl;cases hsc;split at hsc;rename_i hb;injection hsc with hsc
 subst hsc;obtain⟨ad,ah⟩:=ae
 have:=run ad 0 0 ah hb.2.2.2 oM oM oM
 refine⟨_,this,?_⟩;rw[hb.1,hb.2.1,hb.2.2.1];exact⟨_,rfl⟩;cases hsc;split at hsc;rename_i xs aq;have hD:=Vz ae (AR aq);obtain⟨ad,cap,h1,h2,_⟩:=hD.slice;split at hsc;rename_i aj;split at hsc;rename_i hz;injection hsc with hsc
 subst hsc;refine⟨_,run _ _ _ h1 (by simp[hz.2]) (by simp[hz.1,hz.2]) (by simp[hz.2]) (by simp[aj]),?_⟩;rw[aj,hz.1,hz.2];exact⟨_,rfl⟩;cases hsc;split at hsc;rename_i hb;obtain⟨⟨⟨af,hb2⟩,⟨ap,am⟩,ay⟩,au⟩:=hb;injection hsc with hsc
 subst hsc;have hq:ac.getD xs.length<=ab.getD cap/\ab.getD cap<=cap:=by
  cases ab with
  |none=>simp only[Option.getD_none] at*;omega
  |some m=>simp only[Option.getD_some] at*;omega
 refine⟨_,run _ _ _ h1 ay af hq.1 hq.2,?_⟩;rw[h1] at hD;exact hD.sub au af hb2 hq.1;cases hsc;cases hsc;cases hv;split at hv;rename_i hst;split at hv;rename_i y;split at hv;rename_i s kk n ag ax;have hy:=ZH hE y;rw[ag] at hx;rw[ax] at hy;have az:=RepD.qP hy;have ae:=RepD.qR hx;split at hv;rename_i hb;injection hv with hv
 subst hv;have hu:=Z1e hst;refine⟨.string (s.extract 0 n.toNat),?_,RepD.str _⟩;unfold ZT;simp[execOp,ho,ae,az,Instr.sliceAt,run_underlying hu,run_slice_string_h w t s hu kk n hb.1 hb.2];cases hv;cases hv;cases hv;cases hv
theorem TD(hE:Zu μ e a){t:Nat}{x y}(ho:o.op=.index t x y){v}(hv:Zw P (.index t x y) e h=some v):
  ∃u,ZT P o a w u/\ZS μ v u:=by
 have hx:=ZH hE x;have hy:=ZH hE y;simp only[Zw] at hv;split at hv;rename_i hs;have hu:P.underlying t=some .string:=by unfold Dy at hs;split at hs;assumption;cases hs
 split at hv;rename_i s k ae ac ab;rw[ac] at hx;rw[ab] at hy;have aa:=RepD.qR hx;have ad:=RepD.qP hy;split at hv;rename_i h0;split at hv;rename_i z hz;injection hv with hv
 subst hv;refine⟨_,?_,.int _ _⟩;unfold ZT;simp[execOp,ho,aa,ad,Instr.index,asIntOf,run_underlying hu,h0,hz];cases hv;cases hv;cases hv;cases hv
theorem Z1i(hE:Zu μ e a){c x y}(ho:o.op=.pick c x y){v}(hv:Zw P (.pick c x y) e h=some v):
  ∃u,ZT P o a w u/\ZS μ v u:=by
 have hc:=ZH hE c;simp only[Zw] at hv;split at hv;rename_i t ht;rw[ht] at hc;have aa:=RepD.jF hc;injection hv with hv
 subst hv;cases t with
 |true=>exact⟨_,by unfold ZT;simp[execOp,ho,aa,asBool],ZH hE x⟩
 |false=>exact⟨_,by unfold ZT;simp[execOp,ho,aa,asBool],ZH hE y⟩
 cases hv
theorem Z1h(hE:Zu μ e a){op}{t:Nat}{x}(ho:o.op=.unOp op t x){v}(hv:Zw P (.unOp op t x) e h=some v):
  ∃u,ZT P o a w u/\ZS μ v u:=by
 have hx:=ZH hE x;simp only[Zw] at hv;split at hv;rename_i b hb;rw[hb] at hx;have aa:=RepD.jF hx;injection hv with hv
 subst hv;exact⟨_,by unfold ZT;simp[execOp,ho,aa,Op.unary],RepD.bool _⟩;cases hv
theorem SK(hE:Zu μ e a){i:Nat}{x}(ho:o.op=.extract x i){v}(hv:Zw P (.extract x i) e h=some v):
  ∃u,ZT P o a w u/\ZS μ v u:=by
 have hx:=ZH hE x;simp only[Zw] at hv;split at hv;rename_i vs ht;rw[ht] at hx;obtain⟨us,aa,_,hR⟩:=(show∃us:Array Value,a.eval x=.tuple us/\us.size=vs.length/\∀i x,vs[i]?=some x->∃u,us[i]?=some u/\Ay μ x u from hx);obtain⟨u,hu,hr⟩:=hR i v hv;refine⟨u,by unfold ZT;simp[execOp,ho,aa,Instr.extract,hu],?_⟩;cases v with
 |tup _=>exact hr.elim
 |_=>exact hr
 cases hv
theorem Z2w{l:List Operand}(hE:Zu μ e a):∀{caps:List Cap},l.mapM (λx=>match e.ev x with| .one (.ptr l 0)=>some (Cap.lab l)| .one (.rp cs)=>some (Cap.rp cs)|_=>none)=some caps->
  caps.length=l.length/\∀(i:Nat) c,caps[i]?=some c->∃x,l[i]?=some x/\Av μ c (a.eval x):=by
 induction l with
 |nil=>intro caps hc;simp at hc;subst hc;exact⟨rfl,λi c hi=>by simp at hi⟩
 |cons x l ih=>?_
 intro caps hc;rw[List.mapM_cons] at hc;simp only[Option.bind_eq_bind,Option.bind_eq_some_iff,Option.pure_def,Ya] at hc;obtain⟨c,aa,cs,ab,rfl⟩:=hc;obtain⟨hl,hr⟩:=ih ab;refine⟨by simp[hl],λi c' hi=>?_⟩;cases i with
 |zero=>?_
 |succ i=>obtain⟨y,h1,h2⟩:=hr i c' (by simpa using hi);exact⟨y,by simpa using h1,h2⟩
 simp at hi;subst hi;refine⟨x,sI,?_⟩;have hx:=ZH hE x;split at aa;rename_i l' he;rw[he] at hx;injection aa with aa
 subst aa;exact hx;rename_i ds he;rw[he] at hx;injection aa with aa
 subst aa;exact hx;cases aa
theorem Sv(hE:Zu μ e a){fn first caps}(ho:o.op=.makeFunc fn first caps){v}(hv:Zw P (.makeFunc fn first caps) e h=some v):
  ∃u,ZT P o a w u/\ZS μ v u:=by
 cases fn with
 |func f=>?_
 |_=>simp[Zw] at hv
 simp only[Zw] at hv;split at hv;rename_i aa;split at hv;rename_i l hl;injection hv with hv
 subst hv;obtain⟨hlen,hR⟩:=Z2w hE hl;have hf:first=#[]:=by simpa using aa
 subst hf;refine⟨.func (.func f) #[] (caps.map a.eval),by unfold ZT;simp[execOp,ho,Instr.makeFunc],caps.map a.eval,rfl,by simp[hlen],λi c hi=>?_⟩;obtain⟨x,hx,hr⟩:=hR i c hi;exact⟨a.eval x,by simp only[Array.getElem?_toList] at hx;simp[hx],hr⟩;cases hv;cases hv
theorem Ti(hE:Zu μ e a){c}(ho:o.op=.call c){v}(hv:Zw P (.call c) e h=some v):
  ∃u,ZT P o a w u/\ZS μ v u:=by
 simp only[Zw] at hv;split at hv;rename_i x y ab ac;have hx:=ZH hE x;have hy:=ZH hE y;have aa:c.args=#[x,y]:=by cases hc:c.args;simp_all
 split at hv;rename_i k n k' m af ae;rw[af] at hx;rw[ae] at hy;have ad:=RepD.qP hx;have ag:=RepD.qP hy;injection hv with hv
 subst hv;exact⟨_,by unfold ZT;simp[execOp,ho,resolve,ab,aa,invoke,builtin,ad,ag,Builtin.max_,Builtin.max2],RepD.int _ _⟩;cases hv;rename_i x y ab ac;have hx:=ZH hE x;have hy:=ZH hE y;have aa:c.args=#[x,y]:=by cases hc:c.args;simp_all
 split at hv;rename_i k n k' m af ae;rw[af] at hx;rw[ae] at hy;have ad:=RepD.qP hx;have ag:=RepD.qP hy;injection hv with hv
 subst hv;exact⟨_,by unfold ZT;simp[execOp,ho,resolve,ab,aa,invoke,builtin,ad,ag,Builtin.min_,Builtin.min2],RepD.int _ _⟩;cases hv;cases hv
theorem Su(hE:Zu μ e a){x}(ho:o.op=.nilCheck x){v}(hv:Zw P (.nilCheck x) e h=some v):
  ∃u,ZT P o a w u/\ZS μ v u:=by
 have hx:=ZH hE x;simp only[Zw] at hv;split at hv;rename_i l off hc;rw[hc] at hx;injection hv with hv
 subst hv;obtain⟨b,n,h1,h2⟩:=(show∃b n,μ.loc l=some (some b,n)/\a.eval x=.pointer (some ⟨b,off,none⟩) from hx);exact⟨_,by unfold ZT;simp[execOp,ho,h2],b,n,h1,rfl⟩;rename_i cs hc;rw[hc] at hx;injection hv with hv
 subst hv;obtain⟨b,off,h2,h3⟩:=(show VE μ.cell μ.tmp cs (a.eval x) from hx);exact⟨_,by unfold ZT;simp[execOp,ho,h2],b,off,rfl,h3⟩;cases hv
theorem SL(hE:Zu μ e a){s t:Nat}{x}(ho:o.op=.convert s t x){v}(hv:Zw P (.convert s t x) e h=some v):
  ∃u,ZT P o a w u/\ZS μ v u:=by
 have hx:=ZH hE x;simp only[Zw] at hv;split at hv;rename_i k n hc;rw[hc] at hx;have aa:=RepD.qP hx;split at hv;rename_i d k' hs ht;injection hv with hv
 subst hv;exact⟨_,by unfold ZT;simp[execOp,ho,aa,convert,run_underlying hs,run_underlying ht,Conv.intToInt],RepD.int _ _⟩;cases hv;cases hv
theorem JA(hI:Inv Γ h μ w)(hE:Zu μ e a){v:V}(hv:Zw P o.op e h=some v):∃u,ZT P o a w u/\ZS μ v u:=by
 cases ho:o.op with
 |move x=>rw[ho] at hv;simp[Zw] at hv;subst hv;exact⟨_,by unfold ZT;simp[execOp,ho],ZH hE x⟩
 |assign x=>rw[ho] at hv;simp[Zw] at hv;subst hv;exact⟨_,by unfold ZT;simp[execOp,ho],ZH hE x⟩
 |pick c x y=>rw[ho] at hv;exact Z1i hE ho hv
 |binOp op t x y t'=>rw[ho] at hv;exact TF hE ho (by simpa[Zw] using hv)
 |unOp op t x=>rw[ho] at hv;exact Z1h hE ho hv
 |fieldAddr t x f=>rw[ho] at hv;exact Sg hE ho hv
 |field t x f=>rw[ho] at hv;exact TE hE ho hv
 |load t x=>rw[ho] at hv;exact Z1j hI hE ho hv
 |indexAddr t x i=>rw[ho] at hv;exact Sf hE ho hv
 |index t x i=>rw[ho] at hv;exact TD hE ho hv
 |extract x i=>rw[ho] at hv;exact SK hE ho hv
 |nilCheck x=>rw[ho] at hv;exact Su hE ho hv
 |convert s t x=>rw[ho] at hv;exact SL hE ho hv
 |makeFunc fn first caps=>rw[ho] at hv;exact Sv hE ho hv
 |slice t x lo hi mx=>rw[ho] at hv;exact TC hE ho hv
 |call c=>rw[ho] at hv;exact Ti hE ho hv
 |_=>rw[ho] at hv;simp[Zw] at hv
end
end Go.Am
end
section
namespace Go.Am
open Go.RowKit (Below)
theorem D1(w:World)(ob){k:Nat}(hk:k<w.heap.size):(w.alloc ob).heap[k]?=w.heap[k]?:=Below.heap_alloc w ob k hk
theorem Uw{w:World}{b:Nat}{ob}(h:w.heap[b]?=some ob):b<w.heap.size:=(YF.1 h).1
theorem V7.lt{m w}(h:V7 m w){b o:Nat}{v}(hm:m b o=some v):b<w.heap.size:=World.block_lt_of_cell? w ⟨b,o,none⟩ (h _ _ _ hm)
theorem V7.alloc{m w}(h:V7 m w)(ob:Obj):V7 m (w.alloc ob):=λb o v hm=>by rw[World.cell?_alloc_lt w ob ⟨b,o,none⟩ (h.lt hm)];exact h _ _ _ hm
theorem V7.of_heap{m w w'}(h:V7 m w)(hh:∀b o v,m b o=some v->w'.heap[b]?=w.heap[b]?):V7 m w':=λb o v hm=>by rw[World.cell?_of_block (hh b o v hm)];exact h _ _ _ hm
def Mem.qT(μ:Mem)(l:Z2)(x:Option Nat×Nat):Mem:={μ with loc:=λk=>if k=l then some x else μ.loc k}
theorem Mem.qO{μ l x}(h:μ.loc l=none):Mem.Le μ (μ.qT l x):=
 ⟨Wq.refl _,rfl,λk y hk=>by simp only[Mem.qT];by_cases e:k=l;subst e;rw[h] at hk;cases hk;simp[e,hk]⟩
theorem Mem.qF{μ:Mem}{l x}:(μ.qT l x).loc l=some x:=by simp[Mem.qT]
theorem Mem.qK{μ:Mem}{l k x}(h:k≠l):(μ.qT l x).loc k=μ.loc k:=by simp[Mem.qT,h]
section
variable{P:Program}{o:Oper}{a:Act}{w w':World}{e:Env}{h:HS}{μ μ':Mem}{Γ:Ctx}
theorem Inv.free(hI:Inv Γ h μ w){l}(hl:l.1=h.ep):μ.loc l=none:=by
 cases hx:μ.loc l with
 |none=>rfl
 |some x=>have:=hI.lt l (by simp[hx]);omega
theorem Inv.rV(hI:Inv Γ h μ w){l}(hb:h.box l≠none):∃b n,μ.loc l=some (some b,n)/\b<w.heap.size:=by
 cases hc:h.box l with
 |none=>exact absurd hc hb
 |some cs=>obtain⟨b,n,T,conc,hl,_,hh,_⟩:=hI.box l cs hc;exact⟨b,n,hl,Uw hh⟩
theorem Inv.jI(hI:Inv Γ h μ w){l}(hv:h.live l){b n:Nat}(hl:μ.loc l=some (some b,n)):b<w.heap.size:=by
 rcases hv with hb|ha;obtain⟨b',n',hl',hlt⟩:=hI.rV hb;rw[hl] at hl';simp only[Ya,Yt] at hl';rw[hl'.1];exact hlt;cases hc:h.arr l with
 |none=>exact absurd hc ha
 |some x=>?_
 obtain⟨n',es⟩:=x;obtain⟨gc,hl',hr⟩:=hI.arr l es n' hc;rw[hl] at hl';injection hl' with hl'
 subst hl';obtain⟨_,T,cur,hh,_⟩:=hr.2 b rfl;exact Uw hh
theorem Inv.jH(hI:Inv Γ h μ w){l}(hv:h.live l):l.1<h.ep:=by
 refine hI.lt l ?_;rcases hv with hb|ha;obtain⟨b,n,hl,_⟩:=hI.rV hb;simp[hl];cases hc:h.arr l with
 |none=>exact absurd hc ha
 |some x=>?_
 obtain⟨n',es⟩:=x;obtain⟨gc,hl',_⟩:=hI.arr l es n' hc;simp[hl']
theorem Cf.keep{m m' w w'}{aa es n:Nat}{gc}(h:Cf m w aa gc es n)(hh:∀g,gc.1=some g->w'.heap[g]?=w.heap[g]?)
  (hm:∀g o,gc.1=some g->m g o=none->m' g o=none):Cf m' w' aa gc es n:=
 ⟨h.1,λg hg=>by
  obtain⟨hb,T,cur,h1,h2,h3,h4,h5⟩:=h.2 g hg;exact⟨hb,T,cur,by rw[hh g hg];exact h1,h2,h3,h4,λo ho=>hm g o hg (h5 o ho)⟩⟩
theorem Mx{l k cs}(hk:((h.qA l cs).next).live k):k=l\/h.live k:=by
 by_cases e:k=l;exact .inl e;refine .inr ?_;rcases hk with hk|hk
 left;simpa[HS.qA,HS.next,e] using hk
 right;simpa[HS.qA,HS.next] using hk
theorem GK{l k x}(hk:((h.qC l x).next).live k):k=l\/h.live k:=by
 by_cases e:k=l;exact .inl e;refine .inr ?_;rcases hk with hk|hk
 left;simpa[HS.qC,HS.next] using hk
 right;simpa[HS.qC,HS.next,e] using hk
theorem Inv.jK(hI:Inv Γ h μ w){l:Z2}(hl:l.1=h.ep){cs conc T}(hc:ZA μ cs conc):
  Inv Γ ((h.qA l cs).next) (μ.qT l (some w.heap.size,0)) (w.alloc (.cells conc T)):=by
 have ab:=hI.free hl;have ad:Mem.Le μ (μ.qT l (some w.heap.size,0)):=Mem.qO ab;have hne:∀k,h.live k->k≠l:=λk hk e=>by have:=hI.jH hk;subst e;omega
 have ae:=hI.below.size;refine⟨hI.cell.alloc _,hI.tmp,hI.tcell.alloc _,hI.told,hI.ext,hI.old,hI.below.alloc ae _,?_,?_,?_,?_,?_⟩;intro k cs' hk;by_cases e:k=l;subst e
 have:cs'=cs:=by simpa[HS.qA,HS.next] using hk.symm
 subst this;refine⟨w.heap.size,0,T,conc,Mem.qF,ae,heap_alloc_new w _,hc.mono ad,λo=>?_⟩;cases hx:μ.cell w.heap.size o with
 |none=>exact hx
 |some v=>have:=hI.cell.lt hx;omega
 have aa:h.box k=some cs':=by simpa[HS.qA,HS.next,e] using hk
 obtain⟨b,n,T',conc',h1,h2,h3,h4,h5⟩:=hI.box k cs' aa;exact⟨b,n,T',conc',by rw[Mem.qK e];exact h1,h2,by rw[D1 w _ (Uw h3)];exact h3,h4.mono ad,h5⟩;intro k es n hk;have aa:h.arr k=some (n,es):=by simpa[HS.qA,HS.next] using hk
 have e:=hne k (.inr (by simp[aa]));obtain⟨gc,h1,h2⟩:=hI.arr k es n aa;refine⟨gc,by rw[Mem.qK e];exact h1,h2.keep (λg hg=>?_) (λg o _ h=>h)⟩;obtain⟨_,T',cur,hh,_⟩:=h2.2 g hg;exact D1 w _ (Uw hh);intro k k' b n n' hk aa h1 h2;rcases Mx hk with e|hv<;>rcases Mx aa with e'|hv';rw[e,e'];subst e;rw[Mem.qF] at h1;rw[Mem.qK (hne _ hv')] at h2;simp only[Ya,Yt] at h1
 have:=hI.jI hv' h2
 omega;subst e';rw[Mem.qF] at h2;rw[Mem.qK (hne _ hv)] at h1;simp only[Ya,Yt] at h2
 have:=hI.jI hv h1
 omega;rw[Mem.qK (hne _ hv)] at h1;rw[Mem.qK (hne _ hv')] at h2;exact hI.inj k k' b n n' hv hv' h1 h2;intro k hk;by_cases e:k=l;subst e;simp[HS.qA,HS.next,hl];rw[Mem.qK e] at hk
 have:=hI.lt k hk
 simp[HS.qA,HS.next];omega;intro k h1 h2;have ac:h.arr k≠none:=by simpa[HS.qA,HS.next] using h2
 have e:=hne k (.inr ac);exact hI.both k (by simpa[HS.qA,HS.next,e] using h1) ac
theorem Inv.wA(hI:Inv Γ h μ w){conc T}:Inv Γ h μ (w.alloc (.cells conc T)):=by
 refine⟨hI.cell.alloc _,hI.tmp,hI.tcell.alloc _,hI.told,hI.ext,hI.old,hI.below.alloc hI.below.size _,?_,?_,hI.inj,hI.lt,hI.both⟩;intro k cs' hk;obtain⟨b,n,T',conc',h1,h2,h3,h4,h5⟩:=hI.box k cs' hk;exact⟨b,n,T',conc',h1,h2,by rw[D1 w _ (Uw h3)];exact h3,h4,h5⟩;intro k es n hk;obtain⟨gc,h1,h2⟩:=hI.arr k es n hk;refine⟨gc,h1,h2.keep (λg hg=>?_) (λg o _ h=>h)⟩;obtain⟨_,T',cur,hh,_⟩:=h2.2 g hg;exact D1 w _ (Uw hh)
def Wz(P:Program)(Γ:Ctx)(μ:Mem)(o:Oper)(a:Act)(w:World)(K:Env->HS->Prop):Prop:=
 ∀next Q,(∀e' h' μ' a' w',K e' h'->Inv Γ h' μ' w'->Zu μ' e' a'->Mem.Le μ μ'->next a' w')->o.wp P a w next Q
theorem Wu{K u v h'}(aa:(execOp a.eval o).run P w=.ok (.value u) w')(hE:Zu μ e a)(ab:Mem.Le μ μ')(ac:Inv Γ h' μ' w')
  (hd:ZZ o e)(hv:ZS μ' v u)(hK:K (e.put o.dst v) h'):Wz P Γ μ o a w K:=by
 intro next Q hn
 unfold Oper.wp;rw[aa];refine hn _ _ μ' _ _ hK ac ((hE.mono ab).put (λd ad=>?_) hv) ab;unfold ZZ at hd;rw[ad] at hd;exact hd
theorem Z2t{K h'}(aa:(execOp a.eval o).run P w=.ok .skip w')(hE:Zu μ e a)(ab:Mem.Le μ μ')(ac:Inv Γ h' μ' w')
  (hd:ZZ o e)(hK:K (e.put o.dst .undef) h'):Wz P Γ μ o a w K:=by
 intro next Q hn
 unfold Oper.wp;rw[aa];refine hn _ _ μ' _ _ hK ac ((hE.mono ab).put (λd ad=>?_) rfl) ab;unfold ZZ at hd;rw[ad] at hd;exact hd
theorem JS{K}(hI:Inv Γ h μ w)(hE:Zu μ e a)(hd:ZZ o e){v}(hv:Zw P o.op e h=some v)(hK:K (e.put o.dst v) h):Wz P Γ μ o a w K:=by obtain⟨u,aa,hr⟩:=JA hI hE hv;exact Wu aa hE (Mem.Le.refl μ) hI hd hr hK
theorem Z50{K:Env->HS->Prop}(hI:Inv Γ h μ w)(hE:Zu μ e a)(hd:ZZ o e){t x}(ho:o.op=.box t x)(hv:Z9 P o e h K):Wz P Γ μ o a w K:=by simp only[Z9,ho] at hv;obtain⟨hne,hK⟩:=hv;have hc:=EZ (ZH hE x) hne;have hl:((h.ep,16*ZU o):Z2).1=h.ep:=rfl;refine Wu (μ':=μ.qT (h.ep,16*ZU o) (some w.heap.size,0)) (u:=.pointer (some ⟨w.heap.size,0,none⟩)) (w':=w.alloc (.cells (a.eval x).cells t)) ?_ hE (Mem.qO (hI.free hl)) (hI.jK hl hc) hd ?_ hK;simp[execOp,ho,Instr.box,newVar,newRow,newObj,Sem.run,bind,Sem.bind,pure];exact⟨w.heap.size,0,Mem.qF,rfl⟩
theorem C4{t cs}(hz:ZP P t=some cs)(μ):∃i z,P.info? t=some i/\i.zero=some z/\ZA μ cs z.cells:=by
 unfold ZP at hz;split at hz;rename_i i hi;split at hz;rename_i z aa;split at hz;rename_i hall;injection hz with hz
 subst hz;refine⟨i,z,hi,aa,sI,λj c hj=>?_⟩;rw[Y8] at hj;cases hc:z.cells[j]? with
 |none=>simp[hc] at hj
 |some u=>?_
 simp[hc] at hj;refine⟨u,rfl,?_⟩;rw[<-hj];refine Jh μ u ?_;rw[Array.all_eq_true] at hall;obtain⟨hlt,he⟩:=YF.1 hc;rw[<-he];exact hall j hlt;cases hz;cases hz;cases hz
theorem Z1a{K:Env->HS->Prop}(hI:Inv Γ h μ w)(hE:Zu μ e a)(hd:ZZ o e){t}(ho:o.op=.alloc t)(hv:Z9 P o e h K):Wz P Γ μ o a w K:=by simp only[Z9,ho] at hv;split at hv;rename_i cs hz;obtain⟨i,z,hi,aa,hc⟩:=C4 hz μ;have hl:((h.ep,16*ZU o):Z2).1=h.ep:=rfl;refine Wu (μ':=μ.qT (h.ep,16*ZU o) (some w.heap.size,0)) (u:=.pointer (some ⟨w.heap.size,0,none⟩)) (w':=w.alloc (.cells z.cells t)) ?_ hE (Mem.qO (hI.free hl)) (hI.jK hl hc) hd ?_ hv;simp[execOp,ho,Instr.alloc,zeroValue,typeInfo,hi,aa,newVar,newRow,newObj];rfl;exact⟨w.heap.size,0,Mem.qF,rfl⟩;exact hv.elim
theorem Ez{cs vs}{off:Nat}{conc us}(h1:ZA μ cs conc)(h2:ZA μ vs us)(hl:off+vs.length<=cs.length):
  ZA μ (Zg cs off vs) (conc.toList.take off++us.toList++conc.toList.drop (off+us.size)).toArray:=by
 have ae:=h1.1;have hs2:=h2.1;refine⟨by simp[Zg];omega,λi c hi=>?_⟩;simp only[Zg,Yy] at hi;simp only[XL,Yy];have hlt:(cs.take off).length=off:=by rw[YE];omega
 have ad:(conc.toList.take off).length=off:=by rw[YE,Yo];omega
 rw[X4,hlt] at hi;rw[X4,ad];split at hi;rename_i ab;rw[if_pos ab];rw[YX,if_pos ab] at hi|-;simpa using h1.2 i c hi;rename_i ab;rw[if_neg ab];rw[X4] at hi;rw[X4];have ac:us.toList.length=vs.length:=by rw[Yo];exact hs2
 rw[ac];split at hi;rename_i aa;rw[if_pos aa];simpa using h2.2 _ c hi;rename_i aa;rw[if_neg aa];rw[YJ] at hi|-;have he:off+us.size+(i-off-vs.length)=off+vs.length+(i-off-vs.length):=by rw[hs2]
 rw[he];simpa using h1.2 _ c hi
theorem Inv.qA(hI:Inv Γ h μ w){l cs cs'}(hb:h.box l=some cs){b n:Nat}{T conc conc'}(ad:μ.loc l=some (some b,n))
  (hh:w.heap[b]?=some (.cells conc T (0,0)))(hc:ZA μ cs' conc'):Inv Γ (h.qA l cs') μ (w.setRow b conc'):=by
 obtain⟨b',n',T',aj,hl',af,_,_,ae⟩:=hI.box l cs hb;rw[ad] at hl';simp only[Ya,Yt] at hl';obtain⟨rfl,rfl⟩:=hl';have ac:h.live l:=.inl (by simp[hb]);have ab:=λk hk=>setRow_other w b k conc' hk;refine⟨hI.cell.of_heap (λb' o v hm=>ab b' ?_),hI.tmp,hI.tcell.of_heap (λb' o v hm=>ab b' ?_),hI.told,hI.ext,hI.old,?_,?_,?_,?_,hI.lt,?_⟩;rintro rfl;rw[ae o] at hm;cases hm;rintro rfl;have:=hI.told _ _ _ hm;omega
 refine hI.below.trans ⟨rfl,rfl,rfl,sI,λk hk=>ab k oM⟩;intro k cs0 hk;by_cases e:k=l;subst e
 have:cs0=cs':=by simpa[HS.qA] using hk.symm
 subst this;exact⟨b,n,T,conc',ad,af,setRow_heap w b conc conc' T (0,0) hh,hc,ae⟩;have aa:h.box k=some cs0:=by simpa[HS.qA,e] using hk
 obtain⟨b1,n1,T1,ag,h1,h2,h3,h4,h5⟩:=hI.box k cs0 aa;have hne:b1≠b:=by rintro rfl;exact e (hI.inj k l b1 n1 n (.inl (by simp[aa])) ac h1 ad)
 exact⟨b1,n1,T1,ag,h1,h2,by rw[ab _ hne];exact h3,h4,h5⟩;intro k es n1 hk;have aa:h.arr k=some (n1,es):=by simpa[HS.qA] using hk
 obtain⟨gc,h1,h2⟩:=hI.arr k es n1 aa;refine⟨gc,h1,h2.keep (λg hg=>ab g ?_) (λ_ _ _ h=>h)⟩;rintro rfl;obtain⟨g1,c1⟩:=gc;simp at hg;subst hg;have e:=hI.inj k l g c1 n (.inr (by simp[aa])) ac h1 ad;subst e;exact hI.both k (by simp[hb]) (by simp[aa]);intro k k' b1 n1 n2 hk aa h1 h2;have up:∀k,(h.qA l cs').live k->h.live k:=λk hk=>by
  by_cases e:k=l;subst e;exact ac;rcases hk with hk|hk
  left;simpa[HS.qA,e] using hk
  right;simpa[HS.qA] using hk
 exact hI.inj k k' b1 n1 n2 (up k hk) (up k' aa) h1 h2;intro k h1 h2;have ah:h.arr k≠none:=by simpa[HS.qA] using h2
 by_cases e:k=l;subst e;exact hI.both k (by simp[hb]) ah;exact hI.both k (by simpa[HS.qA,e] using h1) ah
end
end Go.Am
end
section
namespace Go.Am
open Go.RowKit (Below)
section
variable{P:Program}{o:Oper}{a:Act}{w w':World}{e:Env}{h:HS}{μ μ':Mem}{Γ:Ctx}{K:Env->HS->Prop}
theorem Z13(hI:Inv Γ h μ w)(hE:Zu μ e a)(hd:ZZ o e){t:TypeId}{x y:Operand}(ho:o.op=.store t x y)(hv:Z9 P o e h K):Wz P Γ μ o a w K:=by
 simp only[Z9,ho] at hv;split at hv;rename_i ag n ah;obtain⟨d,i,ap,_,hi,hn⟩:=K5 ah;split at hv;rename_i l off hx;split at hv;rename_i cs hb;obtain⟨⟨hlen,aq,am⟩,hK⟩:=hv;have ad:=ZH hE x;rw[hx] at ad;obtain⟨b,n',ab,hp⟩:=(show ZX μ (.ptr l off) _ from ad);obtain⟨b1,n1,T,conc,aa,aj,hh,hR,al⟩:=hI.box l cs hb;rw[ab] at aa;simp only[Ya,Yt] at aa;obtain⟨rfl,rfl⟩:=aa;have hne:(e.ev y).cells≠[]:=by intro he;rw[he] at hlen;simp at hlen;omega
 have ac:=EZ (ZH hE y) hne;have af:(a.eval y).cells.size=n:=by rw[ac.1,hlen]
 have ak:=hR.1;have hst:=run_storeCells_at P b off T (a.eval y).cells.toList 0 conc w hh (by rw[Yo,af,ak];omega) ac.all;simp only[YY] at hst;refine Z2t (w':=w.setRow b (conc.toList.take off++(a.eval y).cells.toList++conc.toList.drop (off+(a.eval y).cells.size)).toArray) ?_ hE (Mem.Le.refl μ)
  (hI.qA hb ab hh (Ez hR ac (by rw[hlen];omega))) hd hK
 have ae:i.size=(a.eval y).cells.size:=by rw[af,hn]
 simp only[Yo] at hst;simp[execOp,ho,hp,Instr.storeAt,Instr.sureAddr,storeVar,sizeOf,typeInfo,hi,ae,hst];exact hv.elim;exact hv.elim;exact hv.elim
theorem JC(vs:List Value):∀(k:Nat) (cur:Array Value) (off:Nat),off+k+vs.length<=cur.size->
  (vs.zipIdx k).foldl (λcs x=>cs.setIfInBounds (off+x.2) x.1) cur=(cur.toList.take (off+k)++vs++cur.toList.drop (off+k+vs.length)).toArray:=by
 induction vs with
 |nil=>intro k cur off _;simp
 |cons v vs ih=>?_
 intro k cur off hl;simp only[YN] at hl;rw[List.zipIdx_cons,List.foldl_cons,ih (k+1) _ off sO];have hs:=list_seg_step cur.toList (off+k) v vs sO;have h1:(cur.setIfInBounds (off+k) v).toList=cur.toList.set (off+k) v:=sI
 rw[h1];rw[show off+(k+1)=off+k+1 by omega,hs];simp only[YN]
theorem MY(hE:Zu μ e a){pl:List (Nat×Nat)}:∀(ps:List (Nat×Operand)) (cs cs':List C) (conc:Array Value),ZA μ cs conc->UZ pl e ps cs=some cs'->
  ∃conc',Instr.fill (pl.toArray[·]?) conc (ps.map λp=>(p.1,a.eval p.2))=some conc'/\ZA μ cs' conc'
 |[],cs,cs',conc,hR,hf=>by
   simp[UZ] at hf;subst hf;exact⟨conc,by simp[Instr.fill],hR⟩
 |(f,x)::r,cs,cs',conc,hR,hf=>by
   simp only[UZ] at hf;split at hf;rename_i off n ag;split at hf;rename_i hc;obtain⟨hlen,aj,ah⟩:=hc;have hne:(e.ev x).cells≠[]:=by intro he;rw[he] at hlen;simp at hlen;omega
   have aa:=EZ (ZH hE x) hne;have ae:(a.eval x).cells.size=n:=by rw[aa.1,hlen]
   obtain⟨conc',h1,h2⟩:=MY hE r _ cs' _ (Ez hR aa (by rw[hlen];omega)) hf;refine⟨conc',?_,h2⟩;simp only[Yb,Instr.fill];have ad:pl.toArray[f]?=some (off,n):=by simpa using ag
   rw[ad];have ac:=hR.1;have af:¬((a.eval x).cells.size≠n\/off+(a.eval x).cells.size>conc.size):=by rw[ae,ac];omega
   have ab:=JC (a.eval x).cells.toList 0 conc off (by rw[Yo,ae,ac];omega);simp only[YY,Yo] at ab;have hz:(a.eval x).cells.zipIdx.foldl (λcs (c,j)=>cs.setIfInBounds (off+j) c) conc=((a.eval x).cells.toList.zipIdx 0).foldl (λcs x=>cs.setIfInBounds (off+x.2) x.1) conc:=by rw[<-Array.foldl_toList];simp
   simp only[X9,decide_eq_true_eq,af,if_false,hz,ab];exact h1;cases hf;cases hf
theorem Z18(hI:Inv Γ h μ w)(hE:Zu μ e a)(hd:ZZ o e){t:TypeId}{ps:Array (Nat×Operand)}(ho:o.op=.build t ps)(hv:Z9 P o e h K):Wz P Γ μ o a w K:=by
 simp only[Z9,ho] at hv;split at hv;rename_i z pl hz aa;split at hv;rename_i cs hf;obtain⟨i,zv,hi,ab,hR⟩:=C4 hz μ;obtain⟨conc',h1,h2⟩:=MY hE ps.toList z cs zv.cells hR hf;have hu:∃fields,P.underlying t=some (.struct fields)/\fields.toList.mapM (λf=>(P.info? f.type).map λi=>(f.offset,i.size))=some pl:=by unfold Vq at aa;split at aa;rename_i fields hu;exact⟨fields,hu,aa⟩;cases aa
 obtain⟨fields,hu,hm⟩:=hu;have hb:P.built t (ps.map λ(i,x)=>(i,a.eval x)).toList=some conc':=by unfold Program.built;simp only[hi,hu,ab,hm,Array.toList_map];exact h1
 refine Wu (v:=.agg cs) (u:=.agg conc') ?_ hE (Mem.Le.refl μ) hI hd ⟨conc',rfl,h2⟩ hv
 have:=run_build (P:=P) w t _ conc' hb
 simp[execOp,ho,this];exact hv.elim;exact hv.elim
theorem Hm{l:List Operand}{x:V}(h:l.map e.ev=[x]):∃y,l=[y]/\e.ev y=x:=by
 match l,h with
 |[y],h=>simp at h;exact⟨y,rfl,h⟩
theorem Df{l:List Operand}{x x':V}(h:l.map e.ev=[x,x']):∃y y',l=[y,y']/\e.ev y=x/\e.ev y'=x':=by
 match l,h with
 |[y,y'],h=>simp at h;exact⟨y,y',rfl,h.1,h.2⟩
theorem Z4y(hI:Inv Γ h μ w)(hE:Zu μ e a)(hd:ZZ o e){c:Call}(ho:o.op=.call c)(hc:c.callee=.builtin .len){t:TypeId}(ht:c.argTypes.toList=[t])
  {x:C}(hx:c.args.toList.map e.ev=[.one x])(hv:AU P t x o e h K):Wz P Γ μ o a w K:=by
 obtain⟨y,hy,af⟩:=Hm hx;have ab:c.args=#[y]:=by cases hq:c.args;simp_all
 have ac:c.argTypes=#[t]:=by cases hq:c.argTypes;simp_all
 have ae:=ZH hE y;rw[af] at ae;have aa:ZX μ x (a.eval y):=ae;unfold AU at hv;split at hv;rename_i hl;have hu:P.underlying t=some .string:=by unfold Wy at hl;split at hl;cases hl;assumption;cases hl
 split at hv;rename_i s;have hs:a.eval y=.string s:=RepD.qR (m:=μ.cell) aa;refine Wu (v:=Wk .i64 s.size) (u:=.int .i64 s.size) ?_ hE (Mem.Le.refl μ) hI hd (RepD.int _ _) hv;simp[execOp,ho,resolve,hc,ab,ac,invoke,builtin,Builtin.len_,run_underlying hu,hs,goInt];exact hv.elim;rename_i hl;have hu:∃el,P.underlying t=some (.slice el):=by unfold Wy at hl;split at hl;rename_i el hu;exact⟨el,hu⟩;cases hl;cases hl
 obtain⟨el,hu⟩:=hu;split at hv;rename_i l off n cap;obtain⟨b,k,_,hs,_⟩:=aa;refine Wu (v:=Wk .i64 n) (u:=.int .i64 n) ?_ hE (Mem.Le.refl μ) hI hd (RepD.int _ _) hv;simp[execOp,ho,resolve,hc,ab,ac,invoke,builtin,Builtin.len_,run_underlying hu,hs,goInt];split at hv;rename_i xs ag;obtain⟨ad,cap,hs,_,hl⟩:=(Vz aa (AR ag)).slice;refine Wu (v:=Wk .i64 xs.length) (u:=.int .i64 xs.length) ?_ hE (Mem.Le.refl μ) hI hd (RepD.int _ _) (hv hl);simp[execOp,ho,resolve,hc,ab,ac,invoke,builtin,Builtin.len_,run_underlying hu,hs,goInt];exact hv.elim;exact hv.elim
end
end Go.Am
end
section
namespace Go.Am
open Go.RowKit (Below)
def addRow(m:CM)(b off:Nat)(vs:List Value):CM:=λb' o=>if b'=b/\off<=o/\o<off+vs.length then vs[o-off]? else m b' o
theorem D7{m}{b off:Nat}{vs}(h:∀o,off<=o->o<off+vs.length->m b o=none):Wq m (addRow m b off vs):=by intro b' o v hv;unfold addRow;split;rename_i hc;obtain⟨rfl,h1,h2⟩:=hc;rw[h o h1 h2] at hv;cases hv;exact hv
theorem JG{m}{b off:Nat}{vs}{k:Nat}{u}(h:vs[k]?=some u):addRow m b off vs b (off+k)=some u:=by have hk:=(Y0.1 h).1;unfold addRow;rw[if_pos ⟨rfl,oM,oM⟩];rw[show off+k-off=k by omega];exact h
theorem D2{m}{b off:Nat}{vs}{b' o:Nat}(h:m b' o=none)(hn:b'≠b\/off+vs.length<=o):addRow m b off vs b' o=none:=by unfold addRow;split;rename_i hc;rcases hn with hn|hn;exact absurd hc.1 hn;omega;exact h
theorem NG{m}{b off:Nat}{vs}{b' o:Nat}(h:b'≠b):addRow m b off vs b' o=m b' o:=by
 unfold addRow;rw[if_neg (λhc=>h hc.1)]
theorem Mn{m w}(h:V7 m w){b off:Nat}{vs}(hc:∀k u,vs[k]?=some u->w.cell? ⟨b,off+k,none⟩=some u):V7 (addRow m b off vs) w:=by
 intro b' o v hv;unfold addRow at hv;split at hv;rename_i hx;obtain⟨rfl,h1,_⟩:=hx
 have:=hc (o-off) v hv
 rw[show off+(o-off)=o by omega] at this;exact this;exact h _ _ _ hv
structure Flat(m:CM)(es:Nat)(xs:List (List D))(vs:List Value):Prop where
 len:vs.length=xs.length*es
 elem:∀x∈xs,x.length=es
 rep:∀i x (j:Nat) c,xs[i]?=some x->x[j]?=some c->∃u,vs[i*es+j]?=some u/\RepD m c u
theorem Flat.mono{m m'}{es:Nat}{xs vs}(h:Flat m es xs vs)(hs:Wq m m'):Flat m' es xs vs:=
 ⟨h.len,h.elem,λi x j c hx hj=>let⟨u,hu,hr⟩:=h.rep i x j c hx hj;⟨u,hu,hr.mono hs⟩⟩
theorem Flat.nil(m)(es:Nat):Flat m es [] []:=⟨sI,sI,λi x j c hx _=>by simp at hx⟩
theorem Z7s{i n es j:Nat}(hi:i<n)(hj:j<es):i*es+j<n*es:=by
 have:(i+1)*es<=n*es:=X5 _ hi
 rw[Nat.succ_mul] at this;omega
theorem Flat.append{m}{es:Nat}{xs ys vs us}(h:Flat m es xs vs)(k:Flat m es ys us):Flat m es (xs++ys) (vs++us):=by
 refine⟨by simp[h.len,k.len,YG],λx hx=>?_,λi x j c hx hj=>?_⟩;rcases Y2.1 hx with hx|hx;exact h.elem x hx;exact k.elem x hx;rw[X4] at hx;split at hx;rename_i hi;obtain⟨u,hu,hr⟩:=h.rep i x j c hx hj;refine⟨u,?_,hr⟩;rw[Yq (Y0.1 hu).1];exact hu;rename_i hi;obtain⟨u,hu,hr⟩:=k.rep _ x j c hx hj;refine⟨u,?_,hr⟩;have e:i*es+j=vs.length+((i-xs.length)*es+j):=by
  rw[h.len]
  have:i=xs.length+(i-xs.length):=oM
  conv=>lhs;rw[this,YG]
  omega
 rw[e,YM oM,Nat.add_sub_cancel_left];exact hu
theorem Flat.all{m}{es:Nat}{xs vs}(h:Flat m es xs vs)(h0:0<es):∀v∈vs,v.oneCell'=true:=by
 intro v hv;obtain⟨k,hk,he⟩:=Yz hv;have hl:=h.len;have hi:k/es<xs.length:=by rw[Nat.div_lt_iff_lt_mul h0];omega
 have hj:k%es<es:=Nat.mod_lt _ h0;have hxl:=h.elem _ (Yf hi);obtain⟨u,hu,hr⟩:=h.rep (k/es) xs[k/es] (k%es) (xs[k/es][k%es]'(by rw[hxl];exact hj)) (Y1 hi) (Y1 _)
 have:k/es*es+k%es=k:=by rw[Nat.mul_comm];exact Nat.div_add_mod k es
 rw[this,Y1 hk,he] at hu;cases hu;exact hr.jZ
theorem RepD.flat{m xs v}(h:RepD m (.sl xs) v){es:Nat}(aa:∀x∈xs,x.length=es)(h0:0<es):
  ∃a cap vs,v=.slice a xs.length cap/\Flat m es xs vs/\(xs≠[]->∃b off,a=some ⟨b,off,none⟩/\∀k u,vs[k]?=some u->m b (off+k)=some u):=by
 cases h with|sl xs a cap es' b off f hl hc hes' ha hcell hrep=>?_;by_cases hne:xs=[];subst hne;exact⟨a,cap,[],rfl,Flat.nil _ _,λh=>absurd rfl h⟩;have he:es'=es:=by obtain⟨x,hx⟩:=List.exists_mem_of_ne_nil xs hne;rw[<-hes' x hx,aa x hx]
 subst he;refine⟨a,cap,(List.range (xs.length*es')).map (λk=>f (k/es') (k%es')),rfl,⟨sI,aa,λi x j c hx hj=>?_⟩,λ_=>⟨b,off,ha hne,λk u hk=>?_⟩⟩;have hi:=(Y0.1 hx).1;have ab:j<es':=by rw[<-aa x (Y4 hx)];exact(Y0.1 hj).1
 refine⟨f i j,?_,hrep i x hx j c hj⟩;rw[Y8,List.getElem?_range (Z7s hi ab)];simp only[Yj,Ya];have h1:(i*es'+j)/es'=i:=by rw[Nat.mul_comm,Nat.mul_add_div h0,Nat.div_eq_of_lt ab];rfl
 have h2:(i*es'+j)%es'=j:=by rw[Nat.mul_comm,Nat.mul_add_mod];exact Nat.mod_eq_of_lt ab
 rw[h1,h2];rw[Y8] at hk;cases hr:(List.range (xs.length*es'))[k]? with
 |none=>rw[hr] at hk;cases hk
 |some k'=>?_
 rw[hr] at hk;simp only[Yj,Ya] at hk;have ac:k<xs.length*es':=by have:=(Y0.1 hr).1;simpa using this
 rw[List.getElem?_range ac] at hr;cases hr;have hi:k/es'<xs.length:=by rw[Nat.div_lt_iff_lt_mul h0];omega
 have hj:k%es'<es':=Nat.mod_lt _ h0;have hxl:=aa _ (Yf hi)
 have:=hcell (k/es') xs[k/es'] (Y1 hi) (k%es') (xs[k/es'][k%es']'(by rw[hxl];exact hj)) (Y1 _)
 rw[show k/es'*es'+k%es'=k by rw[Nat.mul_comm];exact Nat.div_add_mod k es'] at this;rw[this,hk]
theorem RepD.of_flat{m xs vs}{es b off cap:Nat}(h:Flat m es xs vs)(hl:xs.length<=Zs)(hc:xs.length<=cap)
  (aa:∀k u,vs[k]?=some u->m b (off+k)=some u):RepD m (.sl xs) (.slice (some ⟨b,off,none⟩) xs.length cap):=by
 have key:∀i x,xs[i]?=some x->∀j c,x[j]?=some c->vs[i*es+j]?=some (vs.getD (i*es+j) undef)/\RepD m c (vs.getD (i*es+j) undef):=by
  intro i x hx j c hj;obtain⟨u,hu,hr⟩:=h.rep i x j c hx hj
  have:vs.getD (i*es+j) undef=u:=by simp[List.getD,hu]
  rw[this];exact⟨hu,hr⟩
 exact .sl xs (some ⟨b,off,none⟩) cap es b off (λi j=>vs.getD (i*es+j) undef) hl hc h.elem (λ_=>rfl)
  (λi x hx j c hj=>aa _ _ (key i x hx j c hj).1) (λi x hx j c hj=>(key i x hx j c hj).2)
theorem RX{P}(w t ty e T i)(ht:P.underlying t=some (.slice e))(hi:P.info? e=some i)
  (g aa ab:Nat)(cur)(hg:w.heap[g]?=some (.cells cur T (0,0)))
  (a)(m c:Nat)(news)(hl:news.length=m*i.size)(ac:∀j u,news[j]?=some u->w.cell? (a.add j)=some u)(h1:∀u∈news,u.oneCell'=true)
  (ad:aa+m<=ab)(ae:aa*i.size+news.length<=cur.size):
  (Builtin.append_ #[t,t] ty #[.slice (some ⟨g,0,none⟩) aa ab,.slice (some a) m c]).run P w=
   .ok (.slice (some ⟨g,0,none⟩) (aa+m) ab) (w.setRow g (cur.toList.take (aa*i.size)++news++cur.toList.drop (aa*i.size+news.length)).toArray):=by
 have hf:=run_firstCells_some (P:=P) w i.size m a m c news hl ac;have hst:=run_storeCells_at P g (aa*i.size) T news 0 cur w hg (by simpa using ae) h1;simp only[YY] at hst;simp[Builtin.append_,run_underlying ht,sizeOf,typeInfo,hi,Builtin.lenOf,ad,hf,Addr.add_lit,hst]
theorem LX{P}(w t ty e i)(ht:P.underlying t=some (.slice e))(hi:P.info? e=some i)
  (s)(aa ab:Nat)(hc:aa<=ab)(a)(c:Nat):
  (Builtin.append_ #[t,t] ty #[.slice s aa ab,.slice a 0 c]).run P w=.ok (.slice s aa ab) w:=by
 cases s<;>cases a<;>simp[Builtin.append_,run_underlying ht,sizeOf,typeInfo,hi,Builtin.lenOf,hc,Builtin.firstCells,loadCells,loadCellsFrom,storeCells]
section
variable{P:Program}{o:Oper}{a:Act}{w w':World}{e:Env}{h:HS}{μ μ':Mem}{Γ:Ctx}{K:Env->HS->Prop}
theorem Inv.drew(hI:Inv Γ h μ w):Inv Γ h μ w.drew:=
 ⟨hI.cell,hI.tmp,hI.tcell,hI.told,hI.ext,hI.old,hI.below.drew,hI.box,hI.arr,hI.inj,hI.lt,hI.both⟩
theorem Inv.addRow(hI:Inv Γ h μ w){l:Z2}(hl:l.1=h.ep){T cur vs}{es n cap:Nat}(aq:vs.length=n*es)(ak:cur.toList.take (n*es)=vs)
  (ap:cur.size=cap*es)(hn:n<=cap)(hcap:cap<=maxLen):
  Inv Γ ((h.qC l (some (n,es))).next) {cell:=Am.addRow μ.cell w.heap.size 0 vs,tmp:=μ.tmp,loc:=(μ.qT l (some w.heap.size,cap)).loc} (w.alloc (.cells cur T)):=by
 have ah:=hI.free hl;have hne:∀k,h.live k->k≠l:=λk hk e=>by have:=hI.jH hk;subst e;omega
 have aj:=hI.below.size;have ae:∀o,μ.cell w.heap.size o=none:=λo=>by
  cases hx:μ.cell w.heap.size o with
  |none=>rfl
  |some v=>have:=hI.cell.lt hx;omega
 have af:Wq μ.cell (Am.addRow μ.cell w.heap.size 0 vs):=D7 λo _ _=>ae o;have ag:Mem.Le μ {cell:=Am.addRow μ.cell w.heap.size 0 vs,tmp:=μ.tmp,loc:=(μ.qT l (some w.heap.size,cap)).loc}:=⟨af,rfl,(Mem.qO ah).loc⟩;have al:(w.alloc (.cells cur T)).heap[w.heap.size]?=some (.cells cur T (0,0)):=heap_alloc_new w _;refine⟨Mn (hI.cell.alloc _) (λk u hk=>?_),hI.tmp,hI.tcell.alloc _,hI.told,λb o v hv=>af _ _ _ (hI.ext _ _ _ hv),λb o v hb hv=>?_,hI.below.alloc aj _,?_,?_,?_,?_,?_⟩;rw[Xu,World.cell?_alloc_new];rw[<-ak,YX] at hk;split at hk;simpa using hk;cases hk;have ad:Am.addRow μ.cell w.heap.size 0 vs b o=some v:=hv;rw[NG oM] at ad;exact hI.old b o v hb ad;intro k cs hk;have ab:h.box k=some cs:=by simpa[HS.qC,HS.next] using hk
 obtain⟨b,n',T',conc,h1,h2,h3,h4,h5⟩:=hI.box k cs ab;have hlt:=Uw h3;refine⟨b,n',T',conc,ag.loc _ _ h1,h2,by rw[D1 w _ hlt];exact h3,h4.mono ag,λo=>D2 (h5 o) (.inl oM)⟩;intro k es' n' hk;by_cases e:k=l;subst e
 have:n=n'/\es=es':=by simpa[HS.qC,HS.next] using hk
 obtain⟨rfl,rfl⟩:=this;refine⟨(some w.heap.size,cap),Mem.qF,⟨λhc=>(by cases hc),λg hg=>?_⟩⟩;have am:w.heap.size=g:=by injection hg
 subst am;exact⟨aj,T,cur,al,ap,hn,hcap,λo ho=>D2 (ae o) (.inr oM)⟩;have ab:h.arr k=some (n',es'):=by simpa[HS.qC,HS.next,e] using hk
 obtain⟨gc,h1,h2⟩:=hI.arr k es' n' ab;refine⟨gc,ag.loc _ _ h1,h2.keep (λg hg=>?_) (λg o hg hm=>?_)⟩;obtain⟨_,T',cur',hh,_⟩:=h2.2 g hg;exact D1 w _ (Uw hh);obtain⟨_,T',cur',hh,_⟩:=h2.2 g hg
 have:=Uw hh
 exact D2 hm (.inl oM);intro k k' b n1 n2 hk ab h1 h2;rcases GK hk with e|hv<;>rcases GK ab with e'|ad;rw[e,e'];subst e;have aa:=h1;have ac:=h2;rw[Mem.qF] at aa;rw[Mem.qK (hne _ ad)] at ac;simp only[Ya,Yt] at aa
 have:=hI.jI ad ac
 omega;subst e';have aa:=h1;have ac:=h2;rw[Mem.qF] at ac;rw[Mem.qK (hne _ hv)] at aa;simp only[Ya,Yt] at ac
 have:=hI.jI hv aa
 omega;have aa:=h1;have ac:=h2;rw[Mem.qK (hne _ hv)] at aa;rw[Mem.qK (hne _ ad)] at ac;exact hI.inj k k' b n1 n2 hv ad aa ac;intro k hk;by_cases e:k=l;subst e;simp[HS.qC,HS.next,hl];have ab:=hk;rw[Mem.qK e] at ab
 have:=hI.lt k ab
 simp[HS.qC,HS.next];omega;intro k h1 h2;have aa:h.box k≠none:=by simpa[HS.qC,HS.next] using h1
 have e:=hne k (.inl aa);exact hI.both k aa (by simpa[HS.qC,HS.next,e] using h2)
theorem Inv.qI(hI:Inv Γ h μ w)(l):Inv Γ (h.qC l none) μ w:=by
 have up:∀k,(h.qC l none).live k->h.live k:=λk hk=>by
  rcases hk with hk|hk;exact .inl hk
  right
  by_cases e:k=l;subst e;simp[HS.qC] at hk;simpa[HS.qC,e] using hk
 have ua:∀k x,(h.qC l none).arr k=some x->h.arr k=some x:=λk x hk=>by by_cases e:k=l;subst e;simp[HS.qC] at hk;simpa[HS.qC,e] using hk
 refine⟨hI.cell,hI.tmp,hI.tcell,hI.told,hI.ext,hI.old,hI.below,hI.box,λk es n hk=>hI.arr k es n (ua k _ hk),λk k' b n n' hk aa h1 h2=>hI.inj k k' b n n' (up k hk) (up k' aa) h1 h2,hI.lt,λk h1 h2=>hI.both k h1 (λe=>?_)⟩;apply h2;cases hx:(h.qC l none).arr k with
 |none=>rfl
 |some x=>rw[ua k x hx] at e;cases e
end
end Go.Am
end
section
namespace Go.Am
open Go.RowKit (Below)
section
variable{P:Program}{o:Oper}{a:Act}{w w':World}{e:Env}{h:HS}{μ μ':Mem}{Γ:Ctx}{K:Env->HS->Prop}
theorem Inv.rZ(hI:Inv Γ h μ w){l}(hl:l.1=h.ep){gc}{es n:Nat}(hr:Cf μ.cell w Γ.w0.heap.size gc es n)
  (hu:∀k b c,h.live k->μ.loc k=some (some b,c)->gc.1≠some b):Inv Γ ((h.qC l (some (n,es))).next) (μ.qT l gc) w:=by
 have ac:=hI.free hl;have ab:Mem.Le μ (μ.qT l gc):=Mem.qO ac;have hne:∀k,h.live k->k≠l:=λk hk e=>by have:=hI.jH hk;subst e;omega
 refine⟨hI.cell,hI.tmp,hI.tcell,hI.told,hI.ext,hI.old,hI.below,?_,?_,?_,?_,?_⟩;intro k cs hk;have aa:h.box k=some cs:=by simpa[HS.qC,HS.next] using hk
 obtain⟨b,n',T',conc,h1,h2,h3,h4,h5⟩:=hI.box k cs aa;exact⟨b,n',T',conc,ab.loc _ _ h1,h2,h3,h4.mono ab,h5⟩;intro k es' n' hk;by_cases e:k=l;subst e
 have:n=n'/\es=es':=by simpa[HS.qC,HS.next] using hk
 obtain⟨rfl,rfl⟩:=this;exact⟨gc,Mem.qF,hr⟩;have aa:h.arr k=some (n',es'):=by simpa[HS.qC,HS.next,e] using hk
 obtain⟨ae,h1,h2⟩:=hI.arr k es' n' aa;exact⟨ae,ab.loc _ _ h1,h2⟩;intro k k' b n1 n2 hk aa h1 h2;rcases GK hk with e|hv<;>rcases GK aa with e'|hv';rw[e,e'];subst e;rw[Mem.qF] at h1;rw[Mem.qK (hne _ hv')] at h2;injection h1 with h1
 exact absurd (by rw[h1]) (hu _ _ _ hv' h2);subst e';rw[Mem.qF] at h2;rw[Mem.qK (hne _ hv)] at h1;injection h2 with h2
 exact absurd (by rw[h2]) (hu _ _ _ hv h1);rw[Mem.qK (hne _ hv)] at h1;rw[Mem.qK (hne _ hv')] at h2;exact hI.inj k k' b n1 n2 hv hv' h1 h2;intro k hk;by_cases e:k=l;subst e;simp[HS.qC,HS.next,hl];rw[Mem.qK e] at hk
 have:=hI.lt k hk
 simp[HS.qC,HS.next];omega;intro k h1 h2;have ad:h.box k≠none:=by simpa[HS.qC,HS.next] using h1
 have e:=hne k (.inl ad);exact hI.both k ad (by simpa[HS.qC,HS.next,e] using h2)
theorem Inv.wG(hI:Inv Γ h μ w){l}{n es g cap:Nat}(ha:h.arr l=some (n,es))(ad:μ.loc l=some (some g,cap)){T cur}(hh:w.heap[g]?=some (.cells cur T (0,0)))
  {vs}(ar:n*es+vs.length<=cur.size):
  Inv Γ (h.qC l none) {cell:=Am.addRow μ.cell g (n*es) vs,tmp:=μ.tmp,loc:=μ.loc} (w.setRow g (cur.toList.take (n*es)++vs++cur.toList.drop (n*es+vs.length)).toArray):=by
 obtain⟨gc,hl',hr⟩:=hI.arr l es n ha;rw[ad] at hl';injection hl' with hl'
 subst hl';obtain⟨ap,T',cur',al,aw,au,_,ag⟩:=hr.2 g rfl;rw[hh] at al;simp only[Ya,Obj.cells.injEq] at al;obtain⟨rfl,rfl,_⟩:=al;have af:h.live l:=.inr (by simp[ha]);have aa:∀k,k≠g->(w.setRow g (cur.toList.take (n*es)++vs++cur.toList.drop (n*es+vs.length)).toArray).heap[k]?=w.heap[k]?:=λk hk=>setRow_other w g k _ hk;have ae:=setRow_heap w g cur (cur.toList.take (n*es)++vs++cur.toList.drop (n*es+vs.length)).toArray T (0,0) hh;have aj:Wq μ.cell (Am.addRow μ.cell g (n*es) vs):=D7 λo h1 _=>ag o h1;have ac:(cur.toList.take (n*es)).length=n*es:=by rw[YE,Yo];omega
 have ah:V7 μ.cell (w.setRow g (cur.toList.take (n*es)++vs++cur.toList.drop (n*es+vs.length)).toArray):=by
  intro b o v hv;by_cases hb:b=g;subst hb;have ho:o<n*es:=by rcases YA o (n*es) with h1|h1;exact h1;rw[ag o h1] at hv;cases hv
  have:=hI.cell _ _ _ hv
  rw[cell_of_row _ b o cur T (0,0) hh] at this;rw[cell_of_row _ b o _ T (0,0) ae];rw[XL,Yy,Yq (by rw[ac];exact ho),YX,if_pos ho];simpa using this
  have:=hI.cell _ _ _ hv
  rw[World.cell?_of_block (aa b hb)];exact this
 have aq:Mem.Le μ {cell:=Am.addRow μ.cell g (n*es) vs,tmp:=μ.tmp,loc:=μ.loc}:=⟨aj,rfl,λ_ _ h=>h⟩;have up:∀k,(h.qC l none).live k->h.live k:=λk hk=>by
  rcases hk with hk|hk;exact .inl hk
  right
  by_cases e:k=l;subst e;simp[HS.qC] at hk;simpa[HS.qC,e] using hk
 have ua:∀k x,(h.qC l none).arr k=some x->h.arr k=some x/\k≠l:=λk x hk=>by by_cases e:k=l;subst e;simp[HS.qC] at hk;exact⟨by simpa[HS.qC,e] using hk,e⟩
 refine⟨Mn ah (λk u hk=>?_),hI.tmp,hI.tcell.of_heap (λb o v hm=>aa b ?_),hI.told,λb o v hv=>aj _ _ _ (hI.ext _ _ _ hv),λb o v hb hv=>?_,?_,?_,?_,?_,hI.lt,?_⟩;rw[cell_of_row _ g _ _ T (0,0) ae];rw[XL,Yy,YM (by rw[ac];omega),ac,Nat.add_sub_cancel_left,Yq (Y0.1 hk).1];exact hk;rintro rfl;have:=hI.told _ _ _ hm;omega
 have am:Am.addRow μ.cell g (n*es) vs b o=some v:=hv;rw[NG oM] at am;exact hI.old b o v hb am;exact hI.below.trans ⟨rfl,rfl,rfl,sI,λk hk=>aa k oM⟩;intro k cs hk;obtain⟨b,n',T',conc,h1,h2,h3,h4,h5⟩:=hI.box k cs hk;have ab:h.box k=some cs:=hk;have hne:b≠g:=by rintro rfl;have e:=hI.inj k l b n' cap (.inl (by rw[ab];simp)) af h1 ad;subst e;exact hI.both k (by rw[ab];simp) (by rw[ha];simp)
 exact⟨b,n',T',conc,h1,h2,by rw[aa b hne];exact h3,h4.mono aq,λo=>D2 (h5 o) (.inl hne)⟩;intro k es' n' hk;obtain⟨ab,e⟩:=ua k _ hk;obtain⟨ak,h1,h2⟩:=hI.arr k es' n' ab;have hne:∀b,ak.1=some b->b≠g:=by rintro b hb rfl;obtain⟨g1,c1⟩:=ak;simp only at hb;subst hb;exact e (hI.inj k l b c1 cap (.inr (by rw[ab];simp)) af h1 ad)
 exact⟨ak,h1,h2.keep (λb hb=>aa b (hne b hb)) (λb o hb hm=>D2 hm (.inl (hne b hb)))⟩;intro k k' b n1 n2 hk ab h1 h2;exact hI.inj k k' b n1 n2 (up k hk) (up k' ab) h1 h2;intro k h1 h2;cases hx:(h.qC l none).arr k with
 |none=>exact h2 hx
 |some x=>exact hI.both k h1 (by rw[(ua k x hx).1];simp)
theorem CY{c}(ho:o.op=.call c)(hc:c.callee=.builtin .append){t}(ab:c.argTypes=#[t,t]){y y'}(aa:c.args=#[y,y']){v w'}
  (hr:(Builtin.append_ #[t,t] o.type #[a.eval y,a.eval y']).run P w=.ok v w'):(execOp a.eval o).run P w=.ok (.value v) w':=by
 simp[execOp,ho,resolve,hc,ab,aa,invoke,builtin,hr]
theorem Mv(hI:Inv Γ h μ w)(hE:Zu μ e a)(hd:ZZ o e){c:Call}(ho:o.op=.call c)(hc:c.callee=.builtin .append){t}(ht:c.argTypes.toList=[t,t])
  {s x}(hx:c.args.toList.map e.ev=[.one s,.one x])(hv:An P t s x (ZU o) h (λv h'=>K (e.put o.dst v) h')):Wz P Γ μ o a w K:=by
 obtain⟨y,y',hy,cg,ch⟩:=Df hx;have ah:c.args=#[y,y']:=by cases hq:c.args;simp_all
 have bg:c.argTypes=#[t,t]:=by cases hq:c.argTypes;simp_all
 have br:=ZH hE y;rw[cg] at br;have al:=br;have bw:=ZH hE y';rw[ch] at bw;have b0:=bw;unfold An at hv;split at hv;rename_i el es bv ce;obtain⟨i,z,hu,hi,a7,bz,b5,cj⟩:=Un ce;split at hv;rename_i xs ys aq bu;obtain⟨⟨bc,h0,b4,b8,cn,hlim⟩,hK⟩:=hv;have bp:xs.length+ys.length<=2097152:=hlim;obtain⟨xa,ap,xv,ak,ar,a8⟩:=(Vz b0 (AR bu)).flat cn h0;obtain⟨sa,cq,sv,af,aw,a1⟩:=(Vz al (AR aq)).flat b8 h0;have b1:∃ac cap,a.eval y=hdr ac xs.length cap/\((ac=none/\cap=0/\xs=[])\/∃g l,ac=some g/\s=.own l xs/\h.arr l=some (xs.length,es)/\μ.loc l=some (some g,cap)):=by
  cases s with
  |nil=>?_
  |own l xs'=>?_
  |_=>simp[Dr] at bc
  have cb:a.eval y=.slice none 0 0:=al;simp[C.qE] at aq;subst aq;exact⟨none,0,by simp[hdr,cb],.inl ⟨rfl,rfl,rfl⟩⟩;simp[C.qE] at aq;subst aq;obtain⟨_,g,cap,hl,b7⟩:=al;have aa:h.arr l=some (xs'.length,es):=by simpa[Dr] using bc
  refine⟨g,cap,b7,?_⟩;cases g with
  |none=>?_
  |some g=>exact .inr ⟨g,l,rfl,rfl,aa,hl⟩
  obtain⟨gc,h1,h2⟩:=hI.arr l _ _ aa;rw[hl] at h1;injection h1 with h1
  subst h1;obtain⟨e1,e2⟩:=h2.1 rfl;exact .inl ⟨rfl,e1,Yw e2⟩
 obtain⟨ac,cap,au,ad⟩:=b1;have cl:(s.qI h).ep=h.ep:=by cases s<;>rfl
 have b3:Inv Γ (s.qI h) μ w:=by
  cases s with
  |own l xs'=>exact hI.qI l
  |_=>exact hI
 have hlab:((h.ep,16*ZU o):Z2).1=(s.qI h).ep:=cl.symm;by_cases hm:ys=[]
 
 subst hm;have bk:xs.length<=cap:=by rcases ad with⟨_,rfl,rfl⟩|⟨g,l,rfl,rfl,aa,ab⟩;simp;obtain⟨gc,h1,h2⟩:=hI.arr l _ _ aa;rw[ab] at h1;injection h1 with h1;subst h1;obtain⟨_,T,cur,_,_,h3,_⟩:=h2.2 g rfl;exact h3
 have hr:=LX w t o.type el i hu hi (ac.map λb=>⟨b,0,none⟩) xs.length cap bk xa ap;have az:Cf μ.cell w Γ.w0.heap.size (ac,cap) es xs.length:=by
  rcases ad with⟨rfl,rfl,rfl⟩|⟨g,l,rfl,rfl,aa,ab⟩;exact⟨λ_=>⟨rfl,rfl⟩,λg hg=>by cases hg⟩;obtain⟨gc,h1,h2⟩:=hI.arr l _ _ aa;rw[ab] at h1;injection h1 with h1;subst h1;exact h2
 refine Wu (u:=a.eval y) (μ':=μ.qT (h.ep,16*ZU o) (ac,cap)) (w':=w) (CY ho hc bg ah ?_) hE (Mem.qO (hI.free rfl)) ?_ hd ?_ hK;rw[ak,au];exact hr
 have:=b3.rZ hlab (by simpa using az) ?_
 exact this;intro k b c0 hk ag hg;rcases ad with⟨rfl,_,_⟩|⟨g,l,rfl,rfl,aa,ab⟩;cases hg;have ck:g=b:=by injection hg
 subst ck;have bi:h.live k:=by
  rcases hk with hk|hk;exact .inl hk
  right
  by_cases ek:k=l;subst ek;simp[C.qI,HS.qC] at hk;simpa[C.qI,HS.qC,ek] using hk
 have bn:=hI.inj k l g c0 cap bi (.inr (by rw[aa];simp)) ag ab;subst bn;rcases hk with hk|hk;exact hI.both k hk (by rw[aa];simp);simp[C.qI,HS.qC] at hk;refine⟨?_,ac,cap,Mem.qF,?_⟩;have ci:=Vz al (AR aq);show RepD μ.cell _ _;simpa using ci;simpa using au
 
 have bm:=XG.2 hm;obtain⟨xb,xo,rfl,cp⟩:=a8 hm;have aj:∀(j:Nat) u,xv[j]?=some u->w.cell? ((⟨xb,xo,none⟩:Addr).add j)=some u:=λj u hj=>by rw[U1];exact hI.cell _ _ _ (cp j u hj)
 have hxl:xv.length=ys.length*i.size:=by rw[a7];exact ar.len
 have bl:=ar.all h0;have bb:(xs.length+ys.length)*i.bytes<=140737488355328:=by
  rw[bz]
  calc (xs.length+ys.length)*bv<=2097152*4096:=Xl hlim b4
   _<=140737488355328:=dE
 have grown:∀(_:(Builtin.append_ #[t,t] o.type #[a.eval y,a.eval y']).run P w=.ok (.slice (some ⟨w.heap.size,0,none⟩) (xs.length+ys.length) (grownCap w (xs.length+ys.length) cap el))
    (w.drew.alloc (.cells (sv.toArray++xv.toArray++Builtin.zeroCells z.cells (grownCap w (xs.length+ys.length) cap el-(xs.length+ys.length))) el))),Wz P Γ μ o a w K:=by
  intro am;have hge:=grownCap_ge w (xs.length+ys.length) cap el;have b9:=grownCap_le_maxLen w (xs.length+ys.length) cap el (by unfold maxLen;omega);have ba:=aw.append ar;have hlen:(sv++xv).length=(xs.length+ys.length)*es:=by rw[ba.len];simp
  have cc:=b3.drew.addRow hlab (T:=el)
   hlen
   (by have hl:(sv.toArray++xv.toArray++Builtin.zeroCells z.cells (grownCap w (xs.length+ys.length) cap el-(xs.length+ys.length))).toList=(sv++xv)++(Builtin.zeroCells z.cells (grownCap w (xs.length+ys.length) cap el-(xs.length+ys.length))).toList:=sI;rw[hl,<-hlen];exact XS)
   (by
    rw[Array.size_append,size_zeroCells,cj]
    have:(sv.toArray++xv.toArray).size=(xs.length+ys.length)*es:=by rw[<-hlen];simp
    rw[this,<-YG]
    congr 1
    omega) hge b9
  refine Wu (CY ho hc bg ah am) hE ?_ cc hd ?_ hK;refine⟨D7 λoo _ _=>?_,rfl,(Mem.qO (hI.free rfl)).loc⟩;cases hq:μ.cell w.drew.heap.size oo with
  |none=>rfl
  |some v=>have:=hI.cell.lt hq;simp at this
  refine⟨?_,some w.heap.size,grownCap w (xs.length+ys.length) cap el,Mem.qF,by simp[hdr]⟩;have cm:Flat (Am.addRow μ.cell w.drew.heap.size 0 (sv++xv)) es (xs++ys) (sv++xv):=ba.mono (D7 λoo _ _=>by
   cases hq:μ.cell w.drew.heap.size oo with
   |none=>rfl
   |some v=>have:=hI.cell.lt hq;simp at this)
  have:=RepD.of_flat cm (by simpa using hlim) (by simpa using hge) (λk u hk=>JG hk)
  simpa using this
 rcases ad with⟨rfl,rfl,rfl⟩|⟨g,l,rfl,rfl,aa,ab⟩;have bt:=Yw (by simpa using aw.len);subst bt;refine grown ?_
 have:=run_append_nil w t o.type el i z hu hi b5 ⟨xb,xo,none⟩ ys.length ap xv hxl aj bm (by simp at bp;omega) (by rw[bz];have:ys.length*bv<=2097152*4096:=Xl (by simpa using hlim) b4;omega)
 rw[au,ak];simpa[hdr] using this;obtain⟨gc,h1,az⟩:=hI.arr l _ _ aa;rw[ab] at h1;injection h1 with h1
 subst h1;obtain⟨bj,T,cur,hh,be,ca,bo,ax⟩:=az.2 g rfl;have holds:∀k u,sv[k]?=some u->μ.cell g k=some u:=by
  intro k u hk;have hne:xs≠[]:=by
   rintro rfl
   have:=aw.len
   have bf:=(Y0.1 hk).1;simp at this;subst this;simp at bf
  obtain⟨b,off,cd,hsc⟩:=a1 hne;rw[au] at af;simp only[hdr,Yj,Value.slice.injEq] at af;rw[cd] at af;simp only[Ya,Addr.mk.injEq] at af;obtain⟨⟨rfl,rfl,_⟩,_⟩:=af
  have:=hsc k u hk
  simpa using this
 by_cases ae:xs.length+ys.length<=cap;have bd:xs.length*es+xv.length<=cur.size:=by rw[ar.len,be,<-YG];exact X5 _ ae
 have am:=RX w t o.type el T i hu hi g xs.length cap cur hh ⟨xb,xo,none⟩ ys.length ap xv hxl aj bl ae (by rw[a7];exact bd);rw[a7] at am;have hG:=hI.wG aa ab hh bd;have bq:=setRow_heap w g cur (cur.toList.take (xs.length*es)++xv++cur.toList.drop (xs.length*es+xv.length)).toArray T (0,0) hh;have ay:Wq μ.cell (Am.addRow μ.cell g (xs.length*es) xv):=D7 λo h1 _=>ax o h1;have hN:=hG.rZ (l:=(h.ep,16*ZU o)) rfl (gc:=(some g,cap))
  ⟨λhc=>(by cases hc),λg' bh=>by
   have e':g=g':=by injection bh
   subst e';refine⟨bj,T,_,bq,?_,ae,bo,λoo b6=>D2 (ax oo (Yv (X5 _ (Nat.le_add_right _ _)) b6)) (.inr (by rw[ar.len,<-YG];exact b6))⟩;rw[<-be];simp only[XO,Ye,YE,YZ,Yo]
   omega⟩
  (by
   intro k b c0 hk ag hg;have bh:g=b:=by injection hg
   subst bh;have bi:h.live k:=by
    rcases hk with hk|hk;exact .inl hk
    right
    by_cases ek:k=l;subst ek;simp[HS.qC] at hk;simpa[HS.qC,ek] using hk
   have bn:=hI.inj k l g c0 cap bi (.inr (by rw[aa];simp)) ag ab;subst bn;rcases hk with hk|hk;exact hI.both k hk (by rw[aa];simp);simp[HS.qC] at hk)
 refine Wu (CY ho hc bg ah (by rw[au,ak];simpa[hdr] using am)) hE ?_ hN hd ?_ hK;exact⟨ay,rfl,(Mem.qO (hI.free rfl)).loc⟩;refine⟨?_,some g,cap,Mem.qF,by simp[hdr]⟩;have ba:=(aw.append ar).mono ay
 have:=RepD.of_flat ba (by simpa using hlim) (by simpa using ae) (λk u hk=>by
  rw[Xu];rw[X4] at hk;split at hk;exact ay _ _ _ (holds k u hk);rename_i bf
  have:=JG (m:=μ.cell) (b:=g) (off:=xs.length*es) hk
  rw[aw.len] at this bf;rw[show xs.length*es+(k-xs.length*es)=k by omega] at this;exact this)
 show RepD (Am.addRow μ.cell g (xs.length*es) xv) _ _;simpa using this;refine grown ?_;have cf:sv.length=xs.length*i.size:=by rw[a7];exact aw.len
 have:=run_append_grow w t o.type el i z hu hi b5 ⟨g,0,none⟩ xs.length cap sv cf (λj u hj=>by rw[U1,Xu];exact hI.cell _ _ _ (holds j u hj))
  ⟨xb,xo,none⟩ ys.length ap xv hxl aj oM oM (growslice_fits oM bb)
 rw[au,ak];simpa[hdr] using this;exact hv.elim;exact hv.elim
end
end Go.Am
end
section
namespace Go.Am
open Go.RowKit (Below)
section
variable{P:Program}{o:Oper}{a:Act}{w w':World}{e:Env}{h:HS}{μ μ':Mem}{Γ:Ctx}{K:Env->HS->Prop}
theorem Z58{ds vs}{n:Nat}{m}(h:DA m ds vs)(hl:ds.length=n):Flat m n [ds] vs.toList:=by
 refine⟨by simp[h.1,hl],by simp[hl],λi x j c hx hj=>?_⟩;cases i with
 |zero=>?_
 |succ i=>simp at hx
 simp at hx;subst hx;obtain⟨u,hu,hr⟩:=h.2 j c hj;exact⟨u,by simpa using hu,hr⟩
theorem LY(hE:Zu μ e a){n:Nat}(hn:0<n):∀(ps:List (Nat×Operand)) (k:Nat) (xs:List (List D)) (cur:Array Value),VL e n ps k=some xs->cur.size=(k+ps.length)*n->
  ∃cur' vs,Instr.fill (λi=>some (i*n,n)) cur (ps.map λp=>(p.1,a.eval p.2))=some cur'/\cur'.toList=cur.toList.take (k*n)++vs/\Flat μ.cell n xs vs
 |[],k,xs,cur,hf,hs=>by
   simp[VL] at hf;subst hf;refine⟨cur,[],by simp[Instr.fill],?_,Flat.nil _ _⟩;simp at hs;rw[Ym,Yr];rw[Yo,hs];exact Y7 _
 |(i,x)::r,k,xs,cur,hf,hs=>by
   simp only[VL] at hf;split at hf;rename_i hc;obtain⟨rfl,hlen⟩:=hc;split at hf;rename_i d ds hd ag;replace hd:=O9 hd;injection hf with hf
   subst hf;have hne:(e.ev x).cells≠[]:=by intro he;rw[he] at hlen;simp at hlen;omega
   have ac:=EZ (ZH hE x) hne;have aa:(a.eval x).cells.size=n:=by rw[ac.1,hlen]
   have ad:(i+(r.length+1))*n=i*n+n+r.length*n:=by rw[YG,YG,XV];omega
   simp only[YN] at hs;rw[ad] at hs;have ab:(i+1+r.length)*n=i*n+n+r.length*n:=by rw[YG,YG,XV]
   have ae:=JC (a.eval x).cells.toList 0 cur (i*n) (by rw[Yo,aa,hs];omega);simp only[YY,Yo] at ae;obtain⟨cur',vs,h1,h2,h3⟩:=LY hE hn r (i+1) ds ((cur.toList.take (i*n)++(a.eval x).cells.toList++cur.toList.drop (i*n+(a.eval x).cells.size)).toArray) ag
    (by
     rw[ab];simp only[XO,Ye,YE,YZ,Yo,aa,hs]
     omega)
   refine⟨cur',(a.eval x).cells.toList++vs,?_,?_,(Z58 (F2 ac hd) (by rw[Mu hd,hlen])).append h3⟩;simp only[Yb,Instr.fill];have af:¬((a.eval x).cells.size≠n\/i*n+(a.eval x).cells.size>cur.size):=by rw[aa,hs];omega
   have hz:(a.eval x).cells.zipIdx.foldl (λcs (c,j)=>cs.setIfInBounds (i*n+j) c) cur=((a.eval x).cells.toList.zipIdx 0).foldl (λcs x=>cs.setIfInBounds (i*n+x.2) x.1) cur:=by rw[<-Array.foldl_toList];simp
   simp only[X9,decide_eq_true_eq,af,if_false,hz,ae];exact h1;rw[h2];have hl:(cur.toList.take (i*n)++(a.eval x).cells.toList).length=(i+1)*n:=by rw[Ye,YE,Yo,Yo,aa,hs,YG,XV];omega
   rw[show(cur.toList.take (i*n)++(a.eval x).cells.toList++cur.toList.drop (i*n+(a.eval x).cells.size)).toArray.toList=(cur.toList.take (i*n)++(a.eval x).cells.toList)++cur.toList.drop (i*n+(a.eval x).cells.size) by simp];rw[<-hl,XS,Yy];cases hf;cases hf
theorem ZA.append{xs ys vs us}(h1:ZA μ xs vs)(h2:ZA μ ys us):ZA μ (xs++ys) (vs++us):=by
 refine⟨by simp[h1.1,h2.1],λi c hi=>?_⟩;rw[X4] at hi;split at hi;rename_i hlt;obtain⟨u,hu,hr⟩:=h1.2 i c hi;exact⟨u,by rw[Xh (by rw[h1.1];exact hlt)];exact hu,hr⟩;rename_i hlt;obtain⟨u,hu,hr⟩:=h2.2 _ c hi;exact⟨u,by rw[Xd (by rw[h1.1];omega),h1.1];exact hu,hr⟩
theorem ZA.nil:ZA μ [] #[]:=⟨rfl,λi c hi=>by simp at hi⟩
theorem LZ(hE:Zu μ e a){n:Nat}(hn:0<n):∀(ps:List (Nat×Operand)) (k:Nat) (xs:List C) (cur:Array Value),UX e n ps k=some xs->cur.size=(k+ps.length)*n->
  ∃cur' vs,Instr.fill (λi=>some (i*n,n)) cur (ps.map λp=>(p.1,a.eval p.2))=some cur'/\cur'.toList=cur.toList.take (k*n)++vs/\ZA μ xs vs.toArray/\vs.length=ps.length*n
 |[],k,xs,cur,hf,hs=>by
   simp[UX] at hf;subst hf;refine⟨cur,[],by simp[Instr.fill],?_,ZA.nil,by simp⟩;simp at hs;rw[Ym,Yr];rw[Yo,hs];exact Y7 _
 |(i,x)::r,k,xs,cur,hf,hs=>by
   simp only[UX] at hf;split at hf;rename_i hc;obtain⟨rfl,hlen⟩:=hc;split at hf;rename_i ds ag;injection hf with hf
   subst hf;have hne:(e.ev x).cells≠[]:=by intro he;rw[he] at hlen;simp at hlen;omega
   have ac:=EZ (ZH hE x) hne;have aa:(a.eval x).cells.size=n:=by rw[ac.1,hlen]
   have ad:(i+(r.length+1))*n=i*n+n+r.length*n:=by rw[YG,YG,XV];omega
   simp only[YN] at hs;rw[ad] at hs;have ab:(i+1+r.length)*n=i*n+n+r.length*n:=by rw[YG,YG,XV]
   have ae:=JC (a.eval x).cells.toList 0 cur (i*n) (by rw[Yo,aa,hs];omega);simp only[YY,Yo] at ae;obtain⟨cur',vs,h1,h2,h3,h4⟩:=LZ hE hn r (i+1) ds ((cur.toList.take (i*n)++(a.eval x).cells.toList++cur.toList.drop (i*n+(a.eval x).cells.size)).toArray) ag
    (by
     rw[ab];simp only[XO,Ye,YE,YZ,Yo,aa,hs]
     omega)
   refine⟨cur',(a.eval x).cells.toList++vs,?_,?_,by rw[show((a.eval x).cells.toList++vs).toArray=(a.eval x).cells++vs.toArray by simp];exact ac.append h3,by simp[aa,h4,YG];omega⟩;simp only[Yb,Instr.fill];have af:¬((a.eval x).cells.size≠n\/i*n+(a.eval x).cells.size>cur.size):=by rw[aa,hs];omega
   have hz:(a.eval x).cells.zipIdx.foldl (λcs (c,j)=>cs.setIfInBounds (i*n+j) c) cur=((a.eval x).cells.toList.zipIdx 0).foldl (λcs x=>cs.setIfInBounds (i*n+x.2) x.1) cur:=by rw[<-Array.foldl_toList];simp
   simp only[X9,decide_eq_true_eq,af,if_false,hz,ae];exact h1;rw[h2];have hl:(cur.toList.take (i*n)++(a.eval x).cells.toList).length=(i+1)*n:=by rw[Ye,YE,Yo,Yo,aa,hs,YG,XV];omega
   rw[show(cur.toList.take (i*n)++(a.eval x).cells.toList++cur.toList.drop (i*n+(a.eval x).cells.size)).toArray.toList=(cur.toList.take (i*n)++(a.eval x).cells.toList)++cur.toList.drop (i*n+(a.eval x).cells.size) by simp];rw[<-hl,XS,Yy];cases hf;cases hf
theorem Md{n:Nat}:∀(ps:List (Nat×Operand)) (k:Nat) (xs:List (List D)),VL e n ps k=some xs->xs.length=ps.length
 |[],k,xs,hf=>by simp[VL] at hf;subst hf;rfl
 |(i,x)::r,k,xs,hf=>by
   simp only[VL] at hf;split at hf;split at hf;rename_i d ds _ aa;injection hf with hf
   subst hf;simp[Md r (k+1) ds aa];cases hf;cases hf
theorem Sd(hI:Inv Γ h μ w)(hE:Zu μ e a)(hd:ZZ o e){t}{len:Nat}{ps}(ho:o.op=.buildSlice t len ps)(hv:Z9 P o e h K):Wz P Γ μ o a w K:=by
 simp only[Z9,ho] at hv;split at hv
 .rename_i el n a7 ay;obtain⟨i,z,hu,hi,ag,_,ar,_⟩:=Un ay;split at hv
  .rename_i xs aq;rcases hv with⟨⟨hlen,hn,ad,af⟩,hK⟩|⟨⟨au,a8,_,_⟩,hK⟩;rotate_left;subst au;have ap:ps=#[]:=by cases ps;simp_all
   have az:=hI.wA (T:=el) (conc:=#[]);refine Wu (v:=.one .z) (u:=.slice (some ⟨w.heap.size,0,none⟩) 0 0) (w':=w.alloc (.cells #[] el)) ?_ hE (Mem.Le.refl μ) az hd ⟨_,rfl⟩ hK;simp[execOp,ho,ap,Instr.buildSlice,run_underlying hu,sizeOf,typeInfo,hi,newRow,newObj,Instr.fill,Array.range_zero']
   try rfl
   have aw:=Md _ _ _ aq;have a1:=Xl ad af;obtain⟨z0,ab⟩:∃z0:Array Value,z0=(Array.range (len*n)).map (λk=>(if len*n=0 then#[] else z.cells)[k%(if len*n=0 then#[] else z.cells).size]!):=⟨_,rfl⟩;have ac:z0.size=(0+ps.toList.length)*n:=by rw[ab];simp[<-aw,hlen]
   obtain⟨cur',vs,h1,h2,h3⟩:=LY hE hn ps.toList 0 xs z0 aq ac;have ah:cur'.toList=vs:=by simpa using h2
   have al:vs.length=len*n:=by rw[h3.len,hlen]
   have am:cur'.size=len*n:=by rw[<-Yo,ah,al]
   have hlab:((h.ep,16*ZU o):Z2).1=h.ep:=rfl;have ax:=hI.addRow hlab (T:=el) al (by rw[<-al,ah];simp) am (Y7 _) (by unfold maxLen;omega);have aj:Wq μ.cell (Am.addRow μ.cell w.heap.size 0 vs):=D7 λoo _ _=>by
    cases hq:μ.cell w.heap.size oo with
    |none=>rfl
    |some v=>have:=hI.cell.lt hq;omega
   refine Wu (u:=.slice (some ⟨w.heap.size,0,none⟩) len len) ?_ hE ?_ ax hd ?_ hK;rotate_left;exact⟨aj,rfl,(Mem.qO (hI.free rfl)).loc⟩;rotate_left;have ak:¬(len*n>2^24):=oM
   have ae:Instr.fill (λi=>some (i*n,n)) z0 (ps.map λ(i,x)=>(i,a.eval x)).toList=some cur':=by rw[Array.toList_map];exact h1
   by_cases hz:len*n=0;simp only[hz,if_true] at ab;simp[execOp,ho,Instr.buildSlice,run_underlying hu,sizeOf,typeInfo,hi,ag,hz,newRow,newObj];have aa:=ae;rw[ab] at aa;simp at aa;rw[aa];rfl;simp only[hz,if_false] at ab;simp[execOp,ho,Instr.buildSlice,run_underlying hu,sizeOf,typeInfo,zeroValue,hi,ag,hz,ak,ar,newRow,newObj];have aa:=ae;rw[ab] at aa;simp at aa;rw[aa];rfl;refine⟨?_,some w.heap.size,len,Mem.qF,by simp[hdr,hlen]⟩
   have:=RepD.of_flat (cap:=len) (h3.mono aj) (by rw[hlen];show len<=2097152;omega) oM (λk u hk=>JG hk)
   rw[hlen] at this;exact this
  split at hv;rename_i cs am;obtain⟨⟨hlen,hn,ad,af⟩,hK⟩:=hv;have a1:=Xl ad af;obtain⟨z0,ab⟩:∃z0:Array Value,z0=(Array.range (len*n)).map (λk=>(if len*n=0 then#[] else z.cells)[k%(if len*n=0 then#[] else z.cells).size]!):=⟨_,rfl⟩;have ac:z0.size=(0+ps.toList.length)*n:=by rw[ab,hlen];simp
  obtain⟨cur',vs,h1,h2,h3,h4⟩:=LZ hE hn ps.toList 0 cs z0 am ac;have ah:cur'.toList=vs:=by simpa using h2
  have hR:ZA μ cs cur':=by rw[<-ah] at h3;simpa using h3
  have hlab:((h.ep,16*ZU o):Z2).1=h.ep:=rfl;refine Wu (u:=.slice (some ⟨w.heap.size,0,none⟩) len len) (w':=w.alloc (.cells cur' el)) ?_ hE (Mem.qO (hI.free hlab)) (hI.jK hlab hR) hd ?_ hK;have ak:¬(len*n>2^24):=oM
  have ae:Instr.fill (λi=>some (i*n,n)) z0 (ps.map λ(i,x)=>(i,a.eval x)).toList=some cur':=by rw[Array.toList_map];exact h1
  by_cases hz:len*n=0;simp only[hz,if_true] at ab;simp[execOp,ho,Instr.buildSlice,run_underlying hu,sizeOf,typeInfo,hi,ag,hz,newRow,newObj];have aa:=ae;rw[ab] at aa;simp at aa;rw[aa];rfl;simp only[hz,if_false] at ab;simp[execOp,ho,Instr.buildSlice,run_underlying hu,sizeOf,typeInfo,zeroValue,hi,ag,hz,ak,ar,newRow,newObj];have aa:=ae;rw[ab] at aa;simp at aa;rw[aa];rfl;exact⟨w.heap.size,0,Mem.qF,rfl,Y7 _⟩;exact hv.elim
 exact hv.elim
theorem Z1t{m x y v u}(hx:RepD m x v)(hy:RepD m y u)(hk:WW x=WW y)(hn:WW x≠.other):Dv v u=I9 x y:=by
 cases hx<;>cases hy<;>simp_all [WW,Dv,I9]
theorem Jn{m}:∀{ds:List D} {vs:List Value},DA m ds vs.toArray->Kd.other∉ds.map WW->VM (ds.map WW) vs
 |[],vs,h,_=>by
   have:=h.1
   simp at this;subst this;trivial
 |d::ds,vs,h,hn=>by
   have hl:=h.1
   match vs,hl with
   |v::vs,hl=>
     obtain⟨u,hu,hr⟩:=h.2 0 d sI;simp at hu;subst hu;have ih:=Jn ⟨by simpa using hl,λi x hi=>by
      obtain⟨u,hu,hr⟩:=h.2 (i+1) x (by simpa using hi);exact⟨u,by simpa using hu,hr⟩⟩ (λhc=>hn (by simp only[Yb,Y9];exact .inr hc))
     have aa:WW d≠.other:=λhc=>hn (by simp[hc]);cases hr with
     |int k n=>exact⟨⟨n,rfl⟩,ih⟩
     |bool b=>exact⟨⟨b,rfl⟩,ih⟩
     |str s=>exact⟨⟨s,rfl⟩,ih⟩
     |raw v h=>exact absurd rfl aa
     |sl=>exact absurd rfl aa
theorem Mt{m:CM}:∀{xs ys:List D} {vs us:List Value},DA m xs vs.toArray->DA m ys us.toArray->xs.map WW=ys.map WW->Kd.other∉xs.map WW->VA vs us=UG xs ys
 |[],[],vs,us,hx,hy,_,_=>by
   have h1:=hx.1;have h2:=hy.1;simp at h1 h2;subst h1 h2;rfl
 |x::xs,y::ys,vs,us,hx,hy,hk,hn=>by
   have hl:=hx.1;have hl2:=hy.1
   match vs,us,hl,hl2 with
   |v::vs,u::us,hl,hl2=>
     obtain⟨v',aa,hr⟩:=hx.2 0 x sI;obtain⟨u',ab,ac⟩:=hy.2 0 y sI;simp at aa ab;subst aa ab;simp only[Yb,List.cons.injEq] at hk;have ih:=Mt
      ⟨by simpa using hl,λi z hi=>by obtain⟨u,hu,hr⟩:=hx.2 (i+1) z (by simpa using hi);exact⟨u,by simpa using hu,hr⟩⟩
      ⟨by simpa using hl2,λi z hi=>by obtain⟨u,hu,hr⟩:=hy.2 (i+1) z (by simpa using hi);exact⟨u,by simpa using hu,hr⟩⟩ hk.2 (λhc=>hn (by simp only[Yb,Y9];exact .inr hc))
     simp only[VA,UG];rw[ih,Z1t hr ac hk.1 (λhc=>hn (by simp[hc]))]
 |[],_::_,_,_,_,_,hk,_=>by simp at hk
 |_::_,[],_,_,_,_,hk,_=>by simp at hk
theorem Z4x(hI:Inv Γ h μ w)(hE:Zu μ e a)(hd:ZZ o e){op t t' x y}(ho:o.op=.binOp op t x y t')(hy:isNilConst y=true){c}(hx:e.ev x=.one c)(hv:Cd P op t c (λv=>K (e.put o.dst v) h)):Wz P Γ μ o a w K:=by
 obtain⟨⟨ae,el,hu⟩,hv⟩:=hv;have aa:=ZH hE x;rw[hx] at aa;have hc:=aa;have key:∀ad len cap,a.eval x=.slice ad len cap->K (e.put o.dst (Wm (if op=.neq then !ad.isNone else ad.isNone))) h->Wz P Γ μ o a w K:=by
  intro ad len cap he hk;refine Wu (v:=Wm (if op=.neq then !ad.isNone else ad.isNone)) (w':=w) ?_ hE (Mem.Le.refl μ) hI hd (RepD.bool _) hk;have af:a.eval y=.slice none 0 0:=by unfold isNilConst at hy;split at hy;rfl;cases hy
  have ac:=run_equal_slice_nil w t el ad len cap hu;cases op<;>simp[AX] at ae<;>simp[execOp,ho,he,af,eqGuard,binOp,ac]
 split at hv;exact key none 0 0 hc (by simpa using hv);obtain⟨b,k,_,h2,_⟩:=hc;exact key _ _ _ h2 (by simpa using hv);split at hv;rename_i xs ab;obtain⟨ad,cap,h1,_,_⟩:=(Vz hc (AR ab)).slice;refine key ad _ _ h1 (hv ad.isNone (λhne=>?_));have hD:=Vz hc (AR ab);rw[h1] at hD;generalize hq:Value.slice ad xs.length cap=q at hD;cases hD with|sl xs a' cap' es b off f hl hc' hes ha _ _=>?_;injection hq with hq
 rw[hq,ha hne];rfl;exact hv.elim
theorem Z4z(hI:Inv Γ h μ w)(hE:Zu μ e a)(hd:ZZ o e){c}(ho:o.op=.call c)(hc:c.callee=.builtin .cap){t}(ht:c.argTypes.toList=[t])
  {s}(hx:c.args.toList.map e.ev=[.one s])(hv:KK P t s (λv=>K (e.put o.dst v) h)):Wz P Γ μ o a w K:=by
 obtain⟨y,hy,ae⟩:=Hm hx;have ab:c.args=#[y]:=by cases hq:c.args;simp_all
 have af:c.argTypes=#[t]:=by cases hq:c.argTypes;simp_all
 have ac:=ZH hE y;rw[ae] at ac;have aa:=ac;obtain⟨⟨el,hu⟩,hv⟩:=hv;have key:∀ad len (cap:Nat),a.eval y=.slice ad len cap->K (e.put o.dst (Wk .i64 cap)) h->Wz P Γ μ o a w K:=λad len cap he hk=>by refine Wu (v:=Wk .i64 cap) (w':=w) ?_ hE (Mem.Le.refl μ) hI hd (RepD.int _ _) hk;simp[execOp,ho,resolve,hc,ab,af,invoke,builtin,Builtin.cap_,run_underlying hu,he,goInt]
 split at hv;exact key none 0 0 aa hv;obtain⟨ad,he⟩:=aa;exact key ad 0 0 he hv;obtain⟨b,k,_,h2,_⟩:=aa;exact key _ _ _ h2 hv;exact hv.elim
theorem Z19(hI:Inv Γ h μ w)(hE:Zu μ e a)(hd:ZZ o e){op t t'}{x y:Operand}(ho:o.op=.binOp op t x y t')(hv:Z9 P o e h K):Wz P Γ μ o a w K:=by simp only[Z9,ho] at hv;by_cases hnil:isNilConst y=true;rw[if_pos hnil] at hv;unfold Hr at hv;split at hv;rename_i c ac;exact Z4x hI hE hd ho hnil ac hv;exact hv.elim;rw[if_neg hnil] at hv;split at hv;rename_i cs cs' ac af;have hx:=ZH hE x;have hy:=ZH hE y;rw[ac] at hx;rw[af] at hy;obtain⟨vs,ae,hR⟩:=(show∃vs:Array Value,a.eval x=.agg vs/\ZA μ cs vs from hx);obtain⟨us,ag,aj⟩:=(show∃vs:Array Value,a.eval y=.agg vs/\ZA μ cs' vs from hy);split at hv;rename_i p q hp hq;obtain⟨⟨ad,hk,ab,ah⟩,hK⟩:=hv;have h1:=F2 hR hp;have h2:=F2 aj hq;obtain⟨vl⟩:=vs;obtain⟨ul⟩:=us;have aa:=ah op vl ul w x y ad (Jn h1 ab) (by rw[hk];exact Jn h2 (by rw[<-hk];exact ab));rw[Mt h1 h2 hk ab] at aa;refine Wu (v:=Wm (if op=.neq then !(UG p q) else UG p q)) ?_ hE (Mem.Le.refl μ) hI hd (RepD.bool _) hK;unfold execOp;simp only[ho,ae,ag];rw[Sem.run_bind,aa];rfl;exact hv.elim;split at hv;rename_i r hr;exact JS hI hE hd (by rw[ho];exact hr) hv;exact hv.elim
def Wx(w:World):CM:=λb o=>w.cell? ⟨b,o,none⟩
theorem EJ(w):V7 (Wx w) w:=λ_ _ _ h=>h
theorem Pp(hI:Inv Γ h μ w){l cs ds}(hb:h.box l=some cs)(hd:Zt cs=some ds){b n:Nat}(hl:μ.loc l=some (some b,n)):VE μ.cell (Wx w) ds (.pointer (some ⟨b,0,none⟩)):=by
 obtain⟨b',n',T,conc,hl',_,hh,hR,_⟩:=hI.box l cs hb;rw[hl] at hl';simp only[Ya,Yt] at hl';obtain⟨rfl,rfl⟩:=hl';refine⟨b,0,rfl,λj c hj=>?_⟩;obtain⟨u,hu,hr⟩:=(F2 hR hd).2 j c hj;refine⟨u,.inr ?_,hr⟩;simp[Wx,World.cell?,hh,hu]
theorem OL(hI:Inv Γ h μ w){cs v}(hr:VE μ.cell μ.tmp cs v):VE μ.cell (Wx w) cs v:=by
 obtain⟨b,off,hv,hc⟩:=hr;refine⟨b,off,hv,λj c hj=>?_⟩;obtain⟨u,hu,hr⟩:=hc j c hj;refine⟨u,?_,hr⟩;rcases hu with hu|hu;exact .inl hu;rw[hI.tmp] at hu;exact .inr (hI.tcell _ _ _ hu)
theorem Ok(hI:Inv Γ h μ w){c ds v}(hc:Av μ c v)(hd:Ck h c=some ds):VE μ.cell (Wx w) ds v:=by
 cases c with
 |lab l=>?_
 |rp cs=>simp[Ck] at hd;subst hd;exact OL hI hc
 simp only[Ck] at hd;split at hd;rename_i cs hb;obtain⟨b,n,hl,rfl⟩:=hc;exact Pp hI hb hd hl;cases hd
theorem JF(hI:Inv Γ h μ w):∀{caps:List Cap} {l:List (List D)},Vi h caps=some l->l.length=caps.length/\∀(i:Nat) ds,l[i]?=some ds->∃c,caps[i]?=some c/\Ck h c=some ds
 |[],l,hc=>by simp[Vi] at hc;subst hc;exact⟨rfl,λi ds hi=>by simp at hi⟩
 |c::r,l,hc=>by
   simp only[Vi] at hc;split at hc;rename_i x xs hx aa;injection hc with hc
   subst hc;obtain⟨h1,h2⟩:=JF hI aa;refine⟨by simp[h1],λi ds hi=>?_⟩;cases i with
   |zero=>simp at hi;subst hi;exact⟨c,sI,hx⟩
   |succ i=>obtain⟨c',h3,h4⟩:=h2 i ds (by simpa using hi);exact⟨c',by simpa using h3,h4⟩
   cases hc
theorem Z6v(hI:Inv Γ h μ w){c:C}{v:Value}{x}(hc:ZX μ c v)(hx:c.toA h=some x):L3 μ.cell (Wx w) x v:=by
 cases c with
 |d y=>simp[C.toA] at hx;subst hx;exact hc
 |own l xs=>simp[C.toA] at hx;subst hx;exact hc.1
 |nil=>simp[C.toA] at hx;subst hx;exact Vz hc rfl
 |z=>simp[C.toA] at hx;subst hx;exact Vz hc rfl
 |mrow l o n cap=>simp[C.toA] at hx
 |any=>simp[C.toA] at hx
 |ptr l off=>?_
 |rp cs=>simp[C.toA] at hx;subst hx;exact OL hI hc
 |fn f caps=>?_
 cases off with
 |zero=>?_
 |succ off=>simp[C.toA] at hx
 simp only[C.toA] at hx;split at hx;rename_i cs hb;cases hd:Zt cs with
 |none=>simp[hd] at hx
 |some ds=>?_
 simp[hd] at hx;subst hx;obtain⟨b,n,hl,rfl⟩:=hc;exact Pp hI hb hd hl;cases hx;simp only[C.toA] at hx;cases hl:Vi h caps with
 |none=>simp[hl] at hx
 |some l=>?_
 simp[hl] at hx;subst hx;obtain⟨vs,hv,ac,hcv⟩:=hc;obtain⟨h1,h2⟩:=JF hI hl;refine⟨vs,hv,by rw[ac,h1],λi ds hi=>?_⟩;obtain⟨c,ab,aa⟩:=h2 i ds hi;obtain⟨u,hu,hr⟩:=hcv i c ab;exact⟨u,hu,Ok hI hr aa⟩
theorem Kf(hI:Inv Γ h μ w){x v y}(hx:ZS μ x v)(hy:x.toA h=some y):Ci μ.cell (Wx w) y v:=by
 cases x with
 |one c=>?_
 |agg cs=>?_
 |top=>simp[V.toA] at hy
 |undef=>simp[V.toA] at hy
 |tup vs=>simp[V.toA] at hy
 simp only[V.toA] at hy;cases hc:c.toA h with
 |none=>simp[hc] at hy
 |some z=>simp[hc] at hy;subst hy;exact Z6v hI hx hc
 simp only[V.toA] at hy;cases hc:Zt cs with
 |none=>simp[hc] at hy
 |some z=>?_
 simp[hc] at hy;subst hy;obtain⟨vs,hv,hR⟩:=hx;exact⟨vs,hv,F2 hR hc⟩
theorem JO{vs}:∀{aa:List AV},W1 h vs=some aa->aa.length=vs.length/\∀(i:Nat) x,aa[i]?=some x->∃v,vs[i]?=some v/\v.toA h=some x:=by
 induction vs with
 |nil=>intro aa ha;simp[W1] at ha;subst ha;exact⟨rfl,λi x hi=>by simp at hi⟩
 |cons v vs ih=>?_
 intro aa ha;simp only[W1] at ha;split at ha;rename_i x xs hx ab;injection ha with ha
 subst ha;obtain⟨h1,h2⟩:=ih ab;refine⟨by simp[h1],λi y hi=>?_⟩;cases i with
 |zero=>simp at hi;subst hi;exact⟨v,sI,hx⟩
 |succ i=>obtain⟨c',h3,h4⟩:=h2 i y (by simpa using hi);exact⟨c',by simpa using h3,h4⟩
 cases ha
end
end Go.Am
end
section
namespace Go.Am
open Go.RowKit (Below)
section
variable{P:Program}{o:Oper}{a:Act}{w w':World}{e:Env}{h:HS}{μ μ':Mem}{Γ:Ctx}{K:Env->HS->Prop}
theorem ZA.toList{xs vs}(h1:ZA μ xs vs):ZA μ xs vs.toList.toArray:=by simpa using h1
theorem MX{es:Nat}:∀{xs:List (List D)} {vs:List Value},Flat μ.cell es xs vs->ZA μ (xs.flatten.map C.d) vs.toArray
 |[],vs,hf=>by
   have:vs=[]:=Yw (by simpa using hf.len)
   subst this;exact⟨rfl,λi c hi=>by simp at hi⟩
 |x::xs,vs,hf=>by
   have hxl:x.length=es:=hf.elem x sI;have hlen:=hf.len;simp only[YN,YG,XV] at hlen;have aa:Flat μ.cell es xs (vs.drop es):=⟨by rw[YZ,hlen];omega,λy hy=>hf.elem y (by simp[hy]),λi y j c hy hj=>by obtain⟨u,hu,hr⟩:=hf.rep (i+1) y j c (by simpa using hy) hj;refine⟨u,?_,hr⟩;rw[YJ];rw[show es+(i*es+j)=(i+1)*es+j by rw[YG];omega];exact hu⟩
   have ab:ZA μ (x.map C.d) (vs.take es).toArray:=by
    refine⟨by simp[hxl,hlen],λi c hi=>?_⟩;rw[Y8] at hi;cases hx:x[i]? with
    |none=>simp[hx] at hi
    |some d=>?_
    simp[hx] at hi;subst hi;obtain⟨u,hu,hr⟩:=hf.rep 0 x i d sI hx;have hlt:i<es:=by rw[<-hxl];exact(Y0.1 hx).1
    refine⟨u,?_,hr⟩;simp only[Nat.zero_mul,Xu] at hu;simp[hlt,hu]
   have:=ab.append (MX aa)
   simpa using this
theorem GH(hI:Inv Γ h μ w){n:Nat}(hn:0<n){c v}(hc:ZX μ c v){new}{m:Nat}(hr:Wg h n c=some new)(hm:ZW c=some m)(hl:new.length=m*n):
  ∃xa aa,∃vals:List Value,v=.slice xa m aa/\ZA μ new vals.toArray/\(0<m->∃b off,xa=some ⟨b,off,none⟩/\∀j u,vals[j]?=some u->w.cell? ⟨b,off+j,none⟩=some u):=by
 have data:∀xs,c.qE=some xs->(∀x∈xs,x.length=n)->new=xs.flatten.map C.d->m=xs.length->
   ∃xa aa,∃vals:List Value,v=.slice xa m aa/\ZA μ new vals.toArray/\(0<m->∃b off,xa=some ⟨b,off,none⟩/\∀j u,vals[j]?=some u->w.cell? ⟨b,off+j,none⟩=some u):=by
  intro xs aj hall af ah;subst af ah;obtain⟨xa,aa,xv,ad,ag,ab⟩:=(Vz hc (AR aj)).flat hall hn;refine⟨xa,aa,xv,ad,MX ag,λac=>?_⟩;obtain⟨b,off,h1,h2⟩:=ab (by intro he;subst he;simp at ac);exact⟨b,off,h1,λj u hj=>hI.cell _ _ _ (h2 j u hj)⟩
 cases c with
 |mrow l off k cap=>?_
 |d x=>?_
 |own l ys=>?_
 |nil=>?_
 |z=>?_
 |_=>simp[ZW,C.qE] at hm
 simp only[Wg] at hr;simp only[ZW,Ya] at hm;subst hm;split at hr;rename_i cs hb;obtain⟨ak,rfl⟩:=EI hr;obtain⟨b,kk,ae,rfl,_⟩:=hc;obtain⟨b',n',T,conc,h1,_,h3,h4,_⟩:=hI.box l cs hb;rw[ae] at h1;simp only[Ya,Yt] at h1;obtain⟨rfl,_⟩:=h1;refine⟨_,cap,(conc.toList.drop off).take (k*n),rfl,⟨?_,λi c hi=>?_⟩,λ_=>⟨b,off,rfl,λj u hj=>?_⟩⟩
 have:=h4.1
 simp only[XO,YE,YZ,Yo] at*;omega;rw[YX] at hi;split at hi;rename_i hlt;rw[YJ] at hi;obtain⟨u,hu,hr⟩:=h4.2 _ c hi;exact⟨u,by simp[hlt,YJ,hu],hr⟩;cases hi;rw[YX] at hj;split at hj;rw[YJ] at hj;simp[World.cell?,h3];simpa using hj;cases hj;cases hr;simp only[Wg,ZW] at hr hm;cases hx:C.qE (.d x) with
 |none=>rw[hx] at hm;cases hm
 |some xs=>?_
 rw[hx] at hm hr;simp only[Ya] at hm;simp only at hr;split at hr;rename_i hall;injection hr with hr
 exact data xs hx hall hr.symm hm.symm;cases hr;simp only[Wg,ZW,C.qE,Ya] at hr hm;split at hr;rename_i hall;injection hr with hr
 exact data ys rfl hall hr.symm hm.symm;cases hr;simp only[Wg,ZW,C.qE,Ya] at hr hm;split at hr;rename_i hall;injection hr with hr
 exact data [] rfl hall hr.symm hm.symm;cases hr;simp only[Wg,ZW,C.qE,Ya] at hr hm;split at hr;rename_i hall;injection hr with hr
 exact data [] rfl hall hr.symm hm.symm;cases hr
theorem RD{P}(w t ty e T i)(ht:P.underlying t=some (.slice e))(hi:P.info? e=some i)
  (g off aa ab:Nat)(cur)(hg:w.heap[g]?=some (.cells cur T (0,0)))
  (a)(m c:Nat)(news)(hl:news.length=m*i.size)(ac:∀j u,news[j]?=some u->w.cell? (a.add j)=some u)(h1:∀u∈news,u.oneCell'=true)
  (ad:aa+m<=ab)(ae:off+aa*i.size+news.length<=cur.size):
  (Builtin.append_ #[t,t] ty #[.slice (some ⟨g,off,none⟩) aa ab,.slice (some a) m c]).run P w=
   .ok (.slice (some ⟨g,off,none⟩) (aa+m) ab) (w.setRow g (cur.toList.take (off+aa*i.size)++news++cur.toList.drop (off+aa*i.size+news.length)).toArray):=by
 have hf:=run_firstCells_some (P:=P) w i.size m a m c news hl ac;have hst:=run_storeCells_at P g (off+aa*i.size) T news 0 cur w hg (by simpa using ae) h1;simp only[YY] at hst;simp[Builtin.append_,run_underlying ht,sizeOf,typeInfo,hi,Builtin.lenOf,ad,hf,Addr.add_lit,hst]
theorem ZA.any{k:Nat}{vs}(hs:vs.size=k)(hv:∀v∈vs,v.oneCell'=true):ZA μ (List.replicate k .any) vs:=by
 refine⟨by simp[hs],λi c hi=>?_⟩;rw[List.getElem?_replicate] at hi;split at hi;rename_i hlt;injection hi with hi
 subst hi
 have:vs[i]?=some vs[i]:=X2 oM
 exact⟨_,this,hv _ (Array.mem_of_getElem? this)⟩;cases hi
theorem Ew{z}{k:Nat}(hz:∀v∈z,v.oneCell'=true)(aa:0<z.size):∀v∈Builtin.zeroCells z k,v.oneCell'=true:=by intro v hv;unfold Builtin.zeroCells at hv;obtain⟨i,_,rfl⟩:=Array.mem_map.1 hv;have hlt:i%z.size<z.size:=Nat.mod_lt _ aa;rw[getElem!_pos z _ hlt];exact hz _ (Array.getElem_mem hlt)
theorem JW(hI:Inv Γ h μ w){l}{off k cap:Nat}{v}(hc:ZX μ (.mrow l off k cap) v){cs}(hb:h.box l=some cs):
  ∃b kk T conc,μ.loc l=some (some b,kk)/\v=.slice (some ⟨b,off,none⟩) k cap/\k<=cap/\w.heap[b]?=some (.cells conc T (0,0))/\ZA μ cs conc:=by
 obtain⟨b,kk,aa,hv,hcap⟩:=hc;obtain⟨b',n',T,conc,h1,_,h3,h4,_⟩:=hI.box l cs hb;rw[aa] at h1;simp only[Ya,Yt] at h1;obtain⟨rfl,_⟩:=h1;exact⟨b,kk,T,conc,aa,hv,hcap,h3,h4⟩
theorem Mk(hI:Inv Γ h μ w)(hE:Zu μ e a)(hd:ZZ o e){c:Call}(ho:o.op=.call c)(hc:c.callee=.builtin .append){t}(ht:c.argTypes.toList=[t,t])
  {s x}(hx:c.args.toList.map e.ev=[.one s,.one x])(hv:Al P t s x (ZU o) h (λv h'=>K (e.put o.dst v) h')):Wz P Γ μ o a w K:=by
 obtain⟨y,y',hy,bu,bv⟩:=Df hx;have ag:c.args=#[y,y']:=by cases hq:c.args;simp_all
 have a1:c.argTypes=#[t,t]:=by cases hq:c.argTypes;simp_all
 have az:=ZH hE y;rw[bu] at az;have ae:ZX μ s (a.eval y):=az;have bj:=ZH hE y';rw[bv] at bj;have bm:=bj;unfold Al at hv;split at hv;rename_i el n bg br;obtain⟨i,z,hu,hi,aq,bk,bd,b3⟩:=Un br;split at hv;rename_i k cap old pl new m aa bp b5;obtain⟨⟨b0,h0,bo,hlim,bl,be⟩,bz,b6,bw⟩:=hv;have b4:k+m<=2097152:=hlim;obtain⟨xa,al,xv,aj,au,ar⟩:=GH hI h0 bm bp b5 bl;have hxl:xv.length=m*n:=by have:=au.1;simp at this;omega
 have bn:∃sa,∃ov:List Value,a.eval y=.slice sa k cap/\k<=cap/\ZA μ old ov.toArray/\((sa=none/\k=0/\cap=0)\/∃b,sa=some b/\∀j u,ov[j]?=some u->w.cell? (b.add j)=some u):=by
  cases s with
  |nil=>?_
  |z=>?_
  |mrow l off k' cap'=>?_
  |_=>simp[Vm] at aa
  simp only[Vm,Ya,Yt] at aa;obtain⟨rfl,rfl,rfl,_⟩:=aa;exact⟨none,[],ae,Y7 _,ZA.nil,.inl ⟨rfl,rfl,rfl⟩⟩;simp only[Vm,Ya,Yt] at aa;obtain⟨rfl,rfl,rfl,_⟩:=aa;obtain⟨ad,ab⟩:=ae;cases ad with
  |none=>exact⟨none,[],ab,Y7 _,ZA.nil,.inl ⟨rfl,rfl,rfl⟩⟩
  |some b=>exact⟨some b,[],ab,Y7 _,ZA.nil,.inr ⟨b,rfl,λj u hj=>by simp at hj⟩⟩
  simp only[Vm] at aa;split at aa;rename_i cs bc;simp only[Ya,Yt] at aa;obtain⟨rfl,rfl,rfl,_⟩:=aa;obtain⟨sa,ca,ov,ac,bh,hsc⟩:=GH hI h0 ae bc rfl be;obtain⟨b,kk,ap,ab,a7⟩:=ae;rw[ab] at ac;simp only[Value.slice.injEq] at ac;obtain⟨rfl,_,rfl⟩:=ac;refine⟨_,ov,ab,a7,bh,.inr ⟨_,rfl,λj u hj=>?_⟩⟩;have bb:0<k':=by
   rcases XK k' with rfl|hk
   have:=bh.1
   rw[be] at this;simp at this;subst this;simp at hj;exact hk
  obtain⟨b2,b9,h1,h2⟩:=hsc bb;simp only[Ya,Addr.mk.injEq] at h1;obtain⟨rfl,rfl,_⟩:=h1;rw[U1];exact h2 j u hj;cases aa
 obtain⟨sa,ov,ac,a7,bi,ay⟩:=bn;have ax:ov.length=k*n:=by have:=bi.1;simp at this;omega
 rcases XK m with rfl|hm;have hr:=LX w t o.type el i hu hi sa k cap a7 xa al;exact Wu (w':=w) (CY ho hc a1 ag (by rw[aj,ac];exact hr)) hE (Mem.Le.refl μ) hI hd az (bz rfl);obtain⟨xb,xo,rfl,b7⟩:=ar hm;have ah:∀(j:Nat) u,xv[j]?=some u->w.cell? ((⟨xb,xo,none⟩:Addr).add j)=some u:=λj u hj=>by rw[U1];exact b7 j u hj
 have am:xv.length=m*i.size:=by rw[aq];exact hxl
 have ba:=λu hu=>au.all u (by simpa using hu);have aw:(k+m)*i.bytes<=140737488355328:=by
  rw[bk]
  calc (k+m)*bg<=2097152*4096:=Xl hlim bo
   _<=140737488355328:=dE
 by_cases af:k+m<=cap
 
 cases s with
 |mrow l off k' cap'=>?_
 |nil=>simp only[Vm,Ya,Yt] at aa;omega
 |z=>simp only[Vm,Ya,Yt] at aa;omega
 |_=>simp[Vm] at aa
 simp only[Vm] at aa;split at aa;rename_i cs0 _;simp only[Ya,Yt] at aa;obtain⟨rfl,rfl,rfl,rfl⟩:=aa;obtain⟨cs,hb,b8,hk⟩:=b6 hm af l off rfl;obtain⟨b,kk,T,conc,ap,ab,_,hh,hR⟩:=JW hI ae hb;rw[ab] at ac;have bc:=hR.1;have cb:(k'+m)*n=k'*n+m*n:=YG _ _ _;have ak:=RD w t o.type el T i hu hi b off k' cap' conc hh ⟨xb,xo,none⟩ m al xv am ah ba af (by rw[aq,hxl,bc];omega);rw[aq] at ak;refine Wu (v:=.one (.mrow l off (k'+m) cap')) (CY ho hc a1 ag (by rw[ab,aj];exact ak)) hE (Mem.Le.refl μ) (hI.qA hb ap hh ?_) hd ⟨b,kk,ap,rfl,af⟩ hk
 have:=Ez (off:=off+k'*n) hR au (by rw[bl];omega)
 simpa using this;cases aa
 
 have hge:=grownCap_ge w (k+m) cap el;have hlab:((h.ep,16*ZU o):Z2).1=h.ep:=rfl;have a8:∀v∈z.cells,v.oneCell'=true:=by
  obtain⟨zc,b1⟩:=Option.isSome_iff_exists.1 b0;obtain⟨i',z',h1,h2,h3⟩:=C4 b1 μ;rw[hi] at h1;injection h1 with h1
  subst h1;rw[bd] at h2;injection h2 with h2
  subst h2;exact λv hv=>h3.all v (by simpa using hv)
 have bt:ZA μ (old++new++List.replicate ((grownCap w (k+m) cap el-(k+m))*n) .any) (ov.toArray++xv.toArray++Builtin.zeroCells z.cells (grownCap w (k+m) cap el-(k+m))):=
  (bi.append au).append (ZA.any (by rw[size_zeroCells,b3]) (Ew a8 oM))
 have grown:∀(_:(Builtin.append_ #[t,t] o.type #[a.eval y,a.eval y']).run P w=.ok (.slice (some ⟨w.heap.size,0,none⟩) (k+m) (grownCap w (k+m) cap el))
   (w.drew.alloc (.cells (ov.toArray++xv.toArray++Builtin.zeroCells z.cells (grownCap w (k+m) cap el-(k+m))) el))),Wz P Γ μ o a w K:=by
  intro ak;refine Wu (v:=.one (.mrow (h.ep,16*ZU o) 0 (k+m) (grownCap w (k+m) cap el))) (CY ho hc a1 ag ak) hE (Mem.qO (hI.free hlab)) (hI.drew.jK hlab bt) hd ⟨w.heap.size,0,Mem.qF,rfl,hge⟩ (bw hm oM _ hge)
 rcases ay with⟨rfl,rfl,rfl⟩|⟨b,rfl,bq⟩;have bf:=Yw (by simpa using ax);subst bf;refine grown ?_
 have:=run_append_nil w t o.type el i z hu hi bd ⟨xb,xo,none⟩ m al xv am ah hm oM (by rw[bk];have:m*bg<=2097152*4096:=Xl oM bo;omega)
 rw[ac,aj];simpa using this;refine grown ?_
 have:=run_append_grow w t o.type el i z hu hi bd b k cap ov (by rw[aq];exact ax) bq ⟨xb,xo,none⟩ m al xv am ah oM oM (growslice_fits oM aw)
 rw[ac,aj];exact this;exact hv.elim;exact hv.elim
theorem Ni{z:Value}{cs}{n:Nat}(hz:ZA μ cs z.cells)(hn:cs.length=n)(ac:0<n)(k:Nat){vs}(aa:vs.size=k*n)(hv:∀i,i<k*n->vs[i]?=z.cells[i%n]?):ZA μ (List.replicate k cs).flatten vs:=by
 induction k generalizing vs with|zero=>?_|succ k ih=>?_
 have:vs=#[]:=Array.eq_empty_of_size_eq_zero (by simpa using aa)
 subst this;exact ZA.nil;have ab:(k+1)*n=n+k*n:=by rw[YG,XV];omega
 rw[ab] at aa;have h1:ZA μ cs (vs.extract 0 n):=by
  refine⟨by simp[hn];omega,λi c hi=>?_⟩;obtain⟨u,hu,hr⟩:=hz.2 i c hi;have hlt:i<n:=by rw[<-hn];exact(Y0.1 hi).1
  refine⟨u,?_,hr⟩;have e1:(vs.extract 0 n)[i]?=vs[0+i]?:=by rw[Array.getElem?_extract_of_lt oM,X2]
  have:=hv i (by rw[ab];omega)
  rw[Nat.mod_eq_of_lt hlt] at this;rw[e1,Xu,this,hu]
 have h2:ZA μ (List.replicate k cs).flatten (vs.extract n (n+k*n)):=by
  refine ih sO (λi hi=>?_);have e1:(vs.extract n (n+k*n))[i]?=vs[n+i]?:=by rw[Array.getElem?_extract_of_lt oM,X2]
  have:=hv (n+i) (by rw[ab];omega)
  rw[e1,this,Nat.add_mod_left]
 have:=h1.append h2
 rw[XT,Xp];have he:vs.extract 0 n++vs.extract n (n+k*n)=vs:=by
  apply Array.ext';rw[Array.toList_append,Array.toList_extract,Array.toList_extract];rw[List.extract_eq_take_drop,List.extract_eq_take_drop];simp only[Nat.sub_zero,Xx]
  have:n+k*n-n=k*n:=oM
  rw[this];have hd:(vs.toList.drop n).take (k*n)=vs.toList.drop n:=Yr (by rw[YZ,Yo,aa];omega);rw[hd,YI]
 rw[he] at this;exact this
theorem QR{P}(w t tn ty e i z k kn)(ht:P.underlying t=some (.slice e))(aj:P.underlying tn=some (.int kn))(hi:P.info? e=some i)(hz:i.zero=some z)
  (b)(aa ab:Nat)(ac:List Value)(ak:ac.length=aa*i.size)(holds:∀j v,ac[j]?=some v->w.cell? (b.add j)=some v)
  (n:Nat)(h0:0<n)(hs:0<i.size)(hg:ab<aa+n)(ar:((aa+n:Nat):Int)<=9223372036854775807)(aq:n*i.bytes<=281474976710656)(ap:Builtin.nextslicecap (aa+n) ab*i.bytes<=281474976710656):
  (Builtin.append_ #[t,tn] ty #[.slice (some b) aa ab,.int k n]).run P w=
   .ok (.slice (some ⟨w.heap.size,0,none⟩) (aa+n) (grownCap w (aa+n) ab e)) (w.drew.alloc (.cells (ac.toArray++Builtin.zeroCells z.cells n++Builtin.zeroCells z.cells (grownCap w (aa+n) ab e-(aa+n))) e)):=by
 have hn:n≠0:=oM;have am:¬(aa+n<=ab):=oM;have hw:IntKind.i64.wrap n=n:=by rw[IntKind.wrap_i64];omega
 have ag:¬(9223372036854775807<(aa+(n:Int))):=oM;have ae:¬(281474976710656<Builtin.nextslicecap (aa+n) ab*i.bytes):=oM;have ad:¬(281474976710656<n*(i.bytes:Int)):=by rw[<-Int.natCast_mul];omega
 have af:¬((n:Int)<0):=oM;have ah:¬(n*i.size=0):=Nat.mul_ne_zero hn oM;have al:=run_firstCells_some (P:=P) w.drew i.size aa b aa ab ac ak (by simpa using holds);simp[Builtin.append_,run_underlying ht,run_underlying aj,sizeOf,typeInfo,zeroValue,hi,hz,asInt,asIntOf,hw,am,af,ah,ag,ae,ad,Question.forced,al,newRow,grownCap]
theorem T9(hI:Inv Γ h μ w)(hE:Zu μ e a)(hd:ZZ o e){c:Call}(ho:o.op=.call c)(hc:c.callee=.builtin .append){t t'}(ht:c.argTypes.toList=[t,t'])
  {s x:C}(hx:c.args.toList.map e.ev=[.one s,.one x])(hv:D8 P t t' s x (ZU o) h (λv h'=>K (e.put o.dst v) h')):Wz P Γ μ o a w K:=by
 obtain⟨y,y',hy,bl,bm⟩:=Df hx;have af:c.args=#[y,y']:=by cases hq:c.args;simp_all
 have bc:c.argTypes=#[t,t']:=by cases hq:c.argTypes;simp_all
 have bb:=ZH hE y;rw[bl] at bb;have ae:ZX μ s (a.eval y):=bb;have au:=ZH hE y';rw[bm] at au;obtain⟨⟨_,kk,bd⟩,hv⟩:=hv;split at hv;rename_i el n ap bj;obtain⟨i,z,hu,hi,bn,ay,aj,be⟩:=Un bj;split at hv;rename_i ki m;obtain⟨⟨ax,h0,ah,bk,a1⟩,hK⟩:=hv;have a8:m<=2097152:=a1;have bg:a.eval y=.slice none 0 0:=ae;have ak:=RepD.qP au;have al:m.toNat=m:=oM
 have hlab:((h.ep,16*ZU o):Z2).1=h.ep:=rfl;have ab:m.toNat*i.bytes<=281474976710656:=by
  rw[ay]
  have:m.toNat*ap<=2097152*4096:=Xl oM ah
  omega
 have ac:=Lib.run_append_nil_zeros w t t' o.type el i z ki kk hu bd hi aj m.toNat oM oM oM ab;rw[al] at ac;have hge:=grownCap_ge w m.toNat 0 el;have aa:∀v∈z.cells,v.oneCell'=true:=by
  obtain⟨zc,az⟩:=Option.isSome_iff_exists.1 ax;obtain⟨i',z',h1,h2,h3⟩:=C4 az μ;rw[hi] at h1;injection h1 with h1
  subst h1;rw[aj] at h2;injection h2 with h2
  subst h2;exact λv hv=>h3.all v (by simpa using hv)
 have ag:ZA μ (List.replicate (grownCap w m.toNat 0 el*n) .any) (Builtin.zeroCells z.cells m.toNat++Builtin.zeroCells z.cells (grownCap w m.toNat 0 el-m.toNat)):=by
  refine ZA.any ?_ λv hv=>?_;rw[Array.size_append,size_zeroCells,size_zeroCells,be,<-YG]
  congr 1
  omega;rcases Array.mem_append.1 hv with hv|hv;exact Ew aa oM v hv;exact Ew aa oM v hv
 refine Wu (v:=.one (.mrow (h.ep,16*ZU o) 0 m.toNat (grownCap w m.toNat 0 el))) (w':=w.drew.alloc (.cells (Builtin.zeroCells z.cells m.toNat++Builtin.zeroCells z.cells (grownCap w m.toNat 0 el-m.toNat)) el)) ?_ hE (Mem.qO (hI.free hlab)) (hI.drew.jK hlab ag) hd ⟨w.heap.size,0,Mem.qF,rfl,hge⟩ (hK _ hge);simp[execOp,ho,resolve,hc,bc,af,invoke,builtin,bg,ak,ac];rename_i l off k cap ki m;split at hv;rename_i old bh;obtain⟨⟨ax,h0,ah,bk,a1,aw,ba⟩,hK⟩:=hv;have a8:k+m<=2097152:=a1;have ak:=RepD.qP au;have al:m.toNat=m:=oM
 have hlab:((h.ep,16*ZU o):Z2).1=h.ep:=rfl;obtain⟨sa,bq,ov,am,aq,hsc⟩:=GH hI h0 ae bh rfl ba;obtain⟨b,br,bo,a7,bt⟩:=ae;rw[a7] at am;simp only[Value.slice.injEq] at am;obtain⟨rfl,_,rfl⟩:=am;have bf:ov.length=k*n:=by have:=aq.1;simp at this;omega
 have bi:∀(j:Nat) u,ov[j]?=some u->w.cell? ((⟨b,off,none⟩:Addr).add j)=some u:=λj u hj=>by
  have ar:0<k:=by
   rcases XK k with rfl|hk
   have:=aq.1
   rw[ba] at this;simp at this;subst this;simp at hj;exact hk
  obtain⟨b2,bp,h1,h2⟩:=hsc ar;simp only[Ya,Addr.mk.injEq] at h1;obtain⟨rfl,rfl,_⟩:=h1;rw[U1];exact h2 j u hj
 have ab:m.toNat*i.bytes<=281474976710656:=by
  rw[ay]
  have:m.toNat*ap<=2097152*4096:=Xl oM ah
  omega
 have ad:(k+m.toNat)*i.bytes<=140737488355328:=by
  rw[ay]
  have:(k+m.toNat)*ap<=2097152*4096:=Xl oM ah
  omega
 have ac:=QR w t t' o.type el i z ki kk hu bd hi aj ⟨b,off,none⟩ k cap ov (by rw[bn];exact bf) bi m.toNat oM oM aw oM ab (growslice_fits oM ad);rw[al] at ac;have hge:=grownCap_ge w (k+m.toNat) cap el;have aa:∀v∈z.cells,v.oneCell'=true:=by
  obtain⟨zc,az⟩:=Option.isSome_iff_exists.1 ax;obtain⟨i',z',h1,h2,h3⟩:=C4 az μ;rw[hi] at h1;injection h1 with h1
  subst h1;rw[aj] at h2;injection h2 with h2
  subst h2;exact λv hv=>h3.all v (by simpa using hv)
 have ag:ZA μ (old++List.replicate ((grownCap w (k+m.toNat) cap el-k)*n) .any) (ov.toArray++(Builtin.zeroCells z.cells m.toNat++Builtin.zeroCells z.cells (grownCap w (k+m.toNat) cap el-(k+m.toNat)))):=by
  refine aq.append (ZA.any ?_ λv hv=>?_);rw[Array.size_append,size_zeroCells,size_zeroCells,be,<-YG]
  congr 1
  omega;rcases Array.mem_append.1 hv with hv|hv;exact Ew aa oM v hv;exact Ew aa oM v hv
 rw[<-Array.append_assoc] at ag;refine Wu (v:=.one (.mrow (h.ep,16*ZU o) 0 (k+m.toNat) (grownCap w (k+m.toNat) cap el))) (w':=w.drew.alloc (.cells (ov.toArray++Builtin.zeroCells z.cells m.toNat++Builtin.zeroCells z.cells (grownCap w (k+m.toNat) cap el-(k+m.toNat))) el)) ?_ hE (Mem.qO (hI.free hlab)) (hI.drew.jK hlab ag) hd ⟨w.heap.size,0,Mem.qF,rfl,hge⟩ (hK _ hge);simp[execOp,ho,resolve,hc,bc,af,invoke,builtin,a7,ak,ac];exact hv.elim;exact hv.elim;exact hv.elim
theorem Z2u(hI:Inv Γ h μ w)(hE:Zu μ e a)(hd:ZZ o e){t:TypeId}{x y}(ho:o.op=.makeSlice t x y)(hv:Fs P t (e.ev x) (e.ev y) (ZU o) h (λv h'=>K (e.put o.dst v) h')):Wz P Γ μ o a w K:=by
 have hx:=ZH hE x;have hy:=ZH hE y;unfold Fs at hv;split at hv;rename_i el n ac ap;obtain⟨i,z,hu,hi,ad,au,aj,ag⟩:=Un ap;split at hv;rename_i zc ka va kb vb aw a1 ae;obtain⟨⟨h0,al,aq,ay,az,am⟩,hK⟩:=hv;have a7:vb<=2097152:=aq;rw[a1] at hx;rw[ae] at hy;have ak:=RepD.qP hx;have ax:=RepD.qP hy;obtain⟨i',z',h1,h2,h3⟩:=C4 aw μ;rw[hi] at h1;injection h1 with h1
 subst h1;rw[aj] at h2;injection h2 with h2
 subst h2;have ar:zc.length=n:=by rw[<-h3.1,ag]
 have ah:vb.toNat<=2097152:=oM;have aa:vb.toNat*i.size<=16777216:=by
  rw[ad]
  calc vb.toNat*n<=2097152*8:=Xl ah am
   _<=16777216:=dE
 have ab:i.bytes*vb<=281474976710656:=by
  rw[au]
  have:ac*vb.toNat<=4096*2097152:=Xl ay ah
  have h4:((ac*vb.toNat:Nat):Int)=ac*vb:=by
   rw[Int.natCast_mul]
   congr 1
   omega
  omega
 have af:=run_makeSlice w t el i z hu hi aj ka kb va vb h0 al aa ab oM;have hlab:((h.ep,16*ZU o):Z2).1=h.ep:=rfl;have hR:ZA μ (List.replicate vb.toNat zc).flatten (madeCells z.cells (vb.toNat*i.size)):=by
  refine Ni h3 ar az vb.toNat (by rw[size_madeCells,ad]) (λj hj=>?_);unfold madeCells;rw[Array.getElem?_map,Array.getElem?_range,if_pos (by rw[ad];exact hj)];have hlt:j%z.cells.size<z.cells.size:=Nat.mod_lt _ oM;simp only[Yj];rw[getElem!_pos z.cells _ hlt,<-ag,X2 hlt]
 refine Wu (v:=.one (.mrow (h.ep,16*ZU o) 0 va.toNat vb.toNat)) (w':=w.alloc (.cells (madeCells z.cells (vb.toNat*i.size)) el)) ?_ hE (Mem.qO (hI.free hlab)) (hI.jK hlab hR) hd ⟨w.heap.size,0,Mem.qF,rfl,oM⟩ hK;simp[execOp,ho,ak,ax,af];exact hv.elim;exact hv.elim
theorem Nm(hI:Inv Γ h μ w)(hE:Zu μ e a)(hd:ZZ o e){c:Call}(ho:o.op=.call c)(hc:c.callee=.builtin .copy){t}(ht:c.argTypes.toList=[t,t])
  {s x}(hx:c.args.toList.map e.ev=[.one s,.one x])(hv:AS P t s x (ZU o) h (λv h'=>K (e.put o.dst v) h')):Wz P Γ μ o a w K:=by
 obtain⟨y,y',hy,a1,az⟩:=Df hx;have ac:c.args=#[y,y']:=by cases hq:c.args;simp_all
 have aw:c.argTypes=#[t,t]:=by cases hq:c.argTypes;simp_all
 have ag:=ZH hE y;rw[a1] at ag;have al:=ag;have am:=ZH hE y';rw[az] at am;have ap:=am;unfold AS at hv;split at hv;rename_i el n bg ay;obtain⟨i,z,hu,hi,a7,_,_,_⟩:=Un ay;split at hv;rename_i l off k cap new m au bb;split at hv;rename_i cs hb;obtain⟨⟨h0,ad,be⟩,hK⟩:=hv;obtain⟨xa,ab,xv,af,ae,aa⟩:=GH hI h0 ap au bb ad;have hxl:xv.length=m*n:=by have:=ae.1;simp at this;omega
 obtain⟨b,kk,T,conc,ak,ar,_,hh,hR⟩:=JW hI al hb;have ba:=hR.1;have bf:min m k*n<=m*n:=X5 _ (Nat.min_le_left _ _);have bd:min m k*n<=k*n:=X5 _ (Nat.min_le_right _ _);have ah:(xv.take (min m k*n)).length=min m k*n:=by rw[YE,hxl];omega
 have aq:∀u∈xv.take (min m k*n),u.oneCell'=true:=λu hu=>ae.all u (by simpa using XP hu);have hst:=run_storeCells_at P b off T (xv.take (min m k*n)) 0 conc w hh (by rw[ah,ba];omega) aq;simp only[YY] at hst;have a8:(Builtin.firstCells n (min m k) (.slice xa m ab)).run P w=.ok (xv.take (min m k*n)).toArray w:=by
  rcases XK m with rfl|hm
  have:xv=[]:=Yw (by simpa using hxl)
  subst this;cases xa<;>simp[Builtin.firstCells,loadCells,loadCellsFrom];obtain⟨xb,xo,rfl,bc⟩:=aa hm
  have:=run_firstCells_some (P:=P) w n (min m k) ⟨xb,xo,none⟩ m ab (xv.take (min m k*n)) ah (λj u hj=>by rw[YX] at hj;split at hj;rw[U1];exact bc j u hj;cases hj)
  exact this
 have ax:ZA μ (new.take (min m k*n)) (xv.take (min m k*n)).toArray:=by
  refine⟨by simp[ad,hxl],λj c hj=>?_⟩;rw[YX] at hj;split at hj;rename_i hlt;obtain⟨u,hu,hr⟩:=ae.2 j c hj;refine⟨u,?_,hr⟩;rw[XL,YX,if_pos hlt];simpa using hu;cases hj
 have hsc:=Ez (off:=off) hR ax (by rw[YE,ad];omega);refine Wu (v:=Wk .i64 ((min m k:Nat):Int)) (w':=w.setRow b (conc.toList.take off++(xv.take (min m k*n))++conc.toList.drop (off+(xv.take (min m k*n)).length)).toArray) ?_ hE (Mem.Le.refl μ) (hI.qA hb ak hh (by simpa using hsc)) hd (RepD.int _ _) hK;have aj:Nat.min m k=min m k:=rfl;simp[execOp,ho,resolve,hc,ac,aw,invoke,builtin,Builtin.copy_,run_underlying hu,ar,af,Builtin.lenOf,sizeOf,typeInfo,hi,a7,aj,a8,hst,goInt];exact hv.elim;exact hv.elim;exact hv.elim
theorem Z14(hI:Inv Γ h μ w)(hE:Zu μ e a)(hd:ZZ o e){c:Call}(ho:o.op=.call c)(hc:c.callee=.builtin .clear){t}(ht:c.argTypes.toList=[t])
  {s}(hx:c.args.toList.map e.ev=[.one s])(hv:Bq P t s (ZU o) h (λv h'=>K (e.put o.dst v) h')):Wz P Γ μ o a w K:=by
 obtain⟨y,hy,au⟩:=Hm hx;have aa:c.args=#[y]:=by cases hq:c.args;simp_all
 have af:c.argTypes=#[t]:=by cases hq:c.argTypes;simp_all
 have ak:=ZH hE y;rw[au] at ak;have ae:=ak;unfold Bq at hv;split at hv;rename_i el n ax am;obtain⟨i,z,hu,hi,_,_,al,ab⟩:=Un am;split at hv;rename_i l off k cap zc ap;split at hv;rename_i cs hb;obtain⟨⟨h0,aw⟩,hK⟩:=hv;obtain⟨b,kk,T,conc,aj,ac,_,hh,hR⟩:=JW hI ae hb;have ar:=hR.1;obtain⟨i',z',h1,h2,h3⟩:=C4 ap μ;rw[hi] at h1;injection h1 with h1
 subst h1;rw[al] at h2;injection h2 with h2
 subst h2;have aq:zc.length=n:=by rw[<-h3.1,ab]
 have ag:ZA μ (List.replicate k zc).flatten (Builtin.zeroCells z.cells k):=by
  refine Ni h3 aq h0 k (by rw[size_zeroCells,ab]) (λj hj=>?_);unfold Builtin.zeroCells;rw[Array.getElem?_map,Array.getElem?_range,if_pos (by rw[ab];exact hj)];have hlt:j%z.cells.size<z.cells.size:=Nat.mod_lt _ oM;simp only[Yj];rw[getElem!_pos z.cells _ hlt,<-ab,X2 hlt]
 have ah:((List.replicate k zc).flatten).length=k*n:=by rw[<-ag.1,size_zeroCells,ab]
 have hst:=run_storeCells_at P b off T (Builtin.zeroCells z.cells k).toList 0 conc w hh (by rw[Yo,size_zeroCells,ab,ar];omega) ag.all;simp only[YY] at hst;have hsc:=Ez hR ag (by rw[ah];omega);rcases XK k with rfl|hk;have e0:Zg cs off (List.replicate 0 zc).flatten=cs:=by simp[Zg]
 rw[e0] at hK;have e1:h.qA l cs=h:=by
  cases h;simp only[HS.qA,HS.mk.injEq,and_true];funext q;split;rename_i hq;subst hq;exact hb.symm;rfl
 rw[e1] at hK;refine Wu (v:=.top) (u:=.tuple #[]) (w':=w) ?_ hE (Mem.Le.refl μ) hI hd trivial hK;simp[execOp,ho,resolve,hc,aa,af,invoke,builtin,Builtin.clear_,run_underlying hu,ac];obtain⟨k,rfl⟩:∃k',k=k'+1:=⟨k-1,oM⟩;refine Wu (v:=.top) (u:=.tuple #[]) (w':=w.setRow b (conc.toList.take off++(Builtin.zeroCells z.cells (k+1)).toList++conc.toList.drop (off+(Builtin.zeroCells z.cells (k+1)).toList.length)).toArray) ?_ hE (Mem.Le.refl μ) (hI.qA hb aj hh (by simpa using hsc)) hd trivial hK;simp[execOp,ho,resolve,hc,aa,af,invoke,builtin,Builtin.clear_,run_underlying hu,ac,zeroValue,typeInfo,hi,al] at hst|-;rw[hst];rfl;exact hv.elim;obtain⟨ad,ac⟩:=ae;refine Wu (v:=.top) (u:=.tuple #[]) (w':=w) ?_ hE (Mem.Le.refl μ) hI hd trivial hv;cases ad<;>simp[execOp,ho,resolve,hc,aa,af,invoke,builtin,Builtin.clear_,run_underlying hu,ac];have ac:a.eval y=.slice none 0 0:=ae;refine Wu (v:=.top) (u:=.tuple #[]) (w':=w) ?_ hE (Mem.Le.refl μ) hI hd trivial hv;simp[execOp,ho,resolve,hc,aa,af,invoke,builtin,Builtin.clear_,run_underlying hu,ac];exact hv.elim;exact hv.elim
end
end Go.Am
end
section
namespace Go.Am
open Go.RowKit (Below)
section
variable{P:Program}{o:Oper}{a:Act}{w w':World}{e:Env}{h:HS}{μ μ':Mem}{Γ:Ctx}{K:Env->HS->Prop}
theorem NH(d:Nat):∀(fr:List (Nat×Nat×Nat)) (h:HS),(h.qM d fr).box=h.box/\(h.qM d fr).ep=h.ep
 |[],h=>⟨rfl,rfl⟩
 |(j,es,n)::r,h=>by simp only[HS.qM];obtain⟨h1,h2⟩:=NH d r (h.qC (h.ep,16*d+j+1) (some (n,es)));exact⟨by rw[h1];rfl,by rw[h2];rfl⟩
theorem NI(d:Nat):∀(fr:List (Nat×Nat×Nat)) (h:HS) (l:Z2) (x:Nat×Nat),(h.qM d fr).arr l=some x->h.arr l=some x\/∃j,l=(h.ep,16*d+j+1)/\(j,x.2,x.1)∈fr
 |[],h,l,x,hx=>.inl hx
 |(j,es,n)::r,h,l,x,hx=>by simp only[HS.qM] at hx;rcases NI d r _ l x hx with hx|⟨j',hl,hm⟩;by_cases e:l=(h.ep,16*d+j+1);subst e;simp[HS.qC] at hx;subst hx;exact .inr ⟨j,rfl,by simp⟩;exact .inl (by simpa[HS.qC,e] using hx);exact .inr ⟨j',hl,by simp[hm]⟩
def WU(μ:Mem)(ep d:Nat)(m:CM)(aa:Nat->Option Nat×Nat):Mem:=
 {cell:=m,tmp:=μ.tmp,loc:=λl=>if l.1=ep then some (aa (l.2-(16*d+1))) else μ.loc l}
theorem Pq{m blk c v}(hc:Ch m blk c v)(ep d:Nat):ZX (WU μ ep d m blk) (c.toC ep d) v:=by
 cases c with
 |d x=>exact hc
 |fresh j es xs=>?_
 obtain⟨h1,h2⟩:=hc;refine⟨h1,(blk j).1,(blk j).2,?_,h2⟩;simp only[WU,if_true];rw[show 16*d+j+1-(16*d+1)=j by omega]
theorem Ky{m blk c v}(hc:BC m blk c v)(ep d:Nat):Ay (WU μ ep d m blk) (RV1.toV ep d c) v:=by
 cases c with
 |one c=>exact Pq hc ep d
 |agg cs=>?_
 |tup vs=>exact hc.elim
 obtain⟨vs,h1,h2,h3⟩:=hc;refine⟨vs,h1,by simp[h2],λi c hi=>?_⟩;rw[Y8] at hi;cases hx:cs[i]? with
 |none=>simp[hx] at hi
 |some x=>?_
 simp[hx] at hi;subst hi;obtain⟨u,hu,hr⟩:=h3 i x hx;exact⟨u,hu,Pq hr ep d⟩
theorem HE{m blk c v}(hc:Az m blk c v)(ep d:Nat):ZS (WU μ ep d m blk) (c.toV ep d) v:=by
 cases c with
 |tup xs=>?_
 |one c=>exact Ky (c:=.one c) hc ep d
 |agg cs=>exact Ky (c:=.agg cs) hc ep d
 obtain⟨vs,h1,h2,h3⟩:=hc;refine⟨vs,h1,by simp[h2],λi x hi=>?_⟩;rw[Y8] at hi;cases hx:xs[i]? with
 |none=>simp[hx] at hi
 |some y=>?_
 simp[hx] at hi;subst hi;obtain⟨u,hu,hr⟩:=h3 i y hx;exact⟨u,hu,Ky hr ep d⟩
theorem Inv.call(hI:Inv Γ h μ w){m' blk fr}(d:Nat)(ah:Wq μ.cell m')(aj:∀b o u,b<w.heap.size->m' b o=some u->μ.cell b o=some u)
  (al:V7 m' w')(hb:Below w.heap.size w w')(hf:Dn m' w w' blk fr):Inv Γ ((h.qM d fr).next) (WU μ h.ep d m' blk) w':=by
 have ak:Mem.Le μ (WU μ h.ep d m' blk):=⟨ah,rfl,λl x hl=>by
  have:=hI.lt l (by rw[hl];simp)
  simp only[WU];rw[if_neg oM];exact hl⟩
 have hne:∀k,h.live k->k.1≠h.ep:=λk hk e=>by have:=hI.jH hk;omega
 have aa:∀k,k.1≠h.ep->(WU μ h.ep d m' blk).loc k=μ.loc k:=λk hk=>by simp only[WU];rw[if_neg hk]
 have ae:∀b o,b<w.heap.size->μ.cell b o=none->m' b o=none:=λb o hlt hn=>by
  cases hx:m' b o with
  |none=>rfl
  |some u=>rw[aj b o u hlt hx] at hn;cases hn
 obtain⟨ac,ar⟩:=NH d fr h;have aq:=hI.below.size;have af:∀k x,(h.qM d fr).arr k=some x->(h.arr k=some x/\k.1≠h.ep)\/∃j,k=(h.ep,16*d+j+1)/\(j,x.2,x.1)∈fr:=λk x hk=>by rcases NI d fr h k x hk with hk|hk;exact .inl ⟨hk,hne k (.inr (by rw[hk];simp))⟩;exact .inr hk
 have ag:∀j,(WU μ h.ep d m' blk).loc (h.ep,16*d+j+1)=some (blk j):=λj=>by simp only[WU,if_true];rw[show 16*d+j+1-(16*d+1)=j by omega]
 have ad:∀k,((h.qM d fr).next).live k->(h.live k/\k.1≠h.ep)\/∃j es n,k=(h.ep,16*d+j+1)/\(j,es,n)∈fr:=λk hk=>by
  rcases hk with hk|hk;have ab:h.box k≠none:=by rw[<-ac];exact hk
  exact .inl ⟨.inl ab,hne k (.inl ab)⟩;cases hx:(h.qM d fr).arr k with
  |none=>exact absurd hx hk
  |some x=>?_
  rcases af k x hx with⟨h1,h2⟩|⟨j,h1,h2⟩;exact .inl ⟨.inr (by rw[h1];simp),h2⟩;exact .inr ⟨j,x.2,x.1,h1,h2⟩
 refine⟨al,hI.tmp,hI.tcell.of_heap (λb o v hm=>hb.block b (hI.tcell.lt hm)),hI.told,λb o v hv=>ah _ _ _ (hI.ext _ _ _ hv),λb o v hlt hv=>hI.old b o v hlt (aj b o v oM hv),hI.below.trans (hb.mono aq),?_,?_,?_,?_,?_⟩;intro k cs hk;have ab:h.box k=some cs:=by rw[<-ac];exact hk
 obtain⟨b,n,T,conc,h1,h2,h3,h4,h5⟩:=hI.box k cs ab;have hlt:=Uw h3;exact⟨b,n,T,conc,ak.loc _ _ h1,h2,by rw[hb.block b hlt];exact h3,h4.mono ak,λoo=>ae b oo hlt (h5 oo)⟩;intro k es n hk;rcases af k (n,es) hk with⟨h1,_⟩|⟨j,rfl,h2⟩;obtain⟨gc,h3,h4⟩:=hI.arr k es n h1;refine⟨gc,ak.loc _ _ h3,h4.keep (λg hg=>?_) (λg oo hg hn=>?_)⟩;obtain⟨_,T,cur,hh,_⟩:=h4.2 g hg;exact hb.block g (Uw hh);obtain⟨_,T,cur,hh,_⟩:=h4.2 g hg;exact ae g oo (Uw hh) hn;have hr:=hf.1 _ h2;exact⟨blk j,ag j,⟨hr.1,λg hg=>by obtain⟨h3,h4⟩:=hr.2 g hg;exact⟨oM,h4⟩⟩⟩
 intro k k' b n n' hk ab h1 h2;rcases ad k hk with⟨l1,e1⟩|⟨j,es,m,rfl,hj⟩<;>rcases ad k' ab with⟨l2,e2⟩|⟨j',es',m2,rfl,am⟩;rw[aa k e1] at h1;rw[aa k' e2] at h2;exact hI.inj k k' b n n' l1 l2 h1 h2;rw[aa k e1] at h1;rw[ag] at h2;injection h2 with h2
 have:=hI.jI l1 h1
 have hr:=(hf.1 _ am).2 b (by rw[h2]);omega;rw[aa k' e2] at h2;rw[ag] at h1;injection h1 with h1
 have:=hI.jI l2 h2
 have hr:=(hf.1 _ hj).2 b (by rw[h1]);omega;rw[ag] at h1 h2;injection h1 with h1
 injection h2 with h2
 have:=hf.2 _ hj _ am b (by rw[h1]) (by rw[h2])
 simp only at this;rw[this];intro k hk;show k.1<(h.qM d fr).ep+1;rw[ar];by_cases ek:k.1=h.ep;omega;rw[aa k ek] at hk
 have:=hI.lt k hk
 omega;intro k h1 h2;have ap:h.box k≠none:=by rw[<-ac];exact h1
 cases hx:(h.qM d fr).arr k with
 |none=>exact h2 hx
 |some x=>?_
 rcases af k x hx with⟨h3,_⟩|⟨j,rfl,_⟩;exact hI.both k ap (by rw[h3];simp);exact hne _ (.inl ap) rfl
theorem Z16(hI:Inv Γ h μ w)(hE:Zu μ e a)(hd:ZZ o e){c:Call}(ho:o.op=.call c){f}(hc:c.callee=.value f){g caps}(hf:e.ev f=.one (.fn g caps))
  {ars cs}(has:W1 h (c.args.toList.map e.ev)=some ars)(ba:Vi h caps=some cs)(hv:Pa P g (ars++We cs) o e h K):Wz P Γ μ o a w K:=by
 obtain⟨r,⟨⟨fn,bb,bd,ab⟩,ak⟩,hK⟩:=hv;have aq:=ZH hE f;rw[hf] at aq;obtain⟨vs,am,al,aj⟩:=(show∃vs:Array Value,a.eval f=.func (.func g) #[] vs/\vs.size=caps.length/\∀i c,caps[i]?=some c->∃u,vs[i]?=some u/\Av μ c u from aq);obtain⟨be,az⟩:=JO has;obtain⟨bf,ay⟩:=JF hI ba;have ae:ars.length=c.args.size:=by rw[be];simp
 have ah:Bw μ.cell (Wx w) (ars++We cs) (c.args.map a.eval++vs):=by
  refine⟨by simp[We,ae,al,bf],λi x hi=>?_⟩;rw[X4] at hi;split at hi;rename_i hlt;obtain⟨v,aa,a7⟩:=az i x hi;rw[Y8] at aa;cases hy:c.args.toList[i]? with
  |none=>simp[hy] at aa
  |some y=>?_
  rw[hy] at aa;simp only[Yj,Ya] at aa;subst aa;refine⟨a.eval y,?_,Kf hI (ZH hE y) a7⟩;rw[Xh sO];have a8:c.args[i]?=some y:=by simpa using hy
  simp[a8];rename_i hlt;simp only[We,Y8] at hi;cases hy:cs[i-ars.length]? with
  |none=>rw[hy] at hi;simp at hi
  |some y=>?_
  rw[hy] at hi;simp only[Yj,Ya] at hi;subst hi;obtain⟨c',h1,h2⟩:=ay _ _ hy;obtain⟨u,hu,hr⟩:=aj _ _ h1;refine⟨u,?_,Ok hI hr h2⟩;rw[Xd sO];simp only[Array.size_map];rw[<-ae];exact hu
 have ad:=ak w μ.cell (Wx w) _ hI.glob hI.cell (EJ w) ah;intro next Q hn
 unfold Oper.wp;have au:(execOp a.eval o).run P w=.ok (.enter g (c.args.map a.eval++vs)) w:=by
  have aw:¬fn.name= "runtime.NumGoroutine":=by simpa using bd
  have ac:¬fn.body=none:=by intro hq;rw[hq] at ab;simp at ab
  simp[execOp,ho,resolve,hc,am,Deferred.ofValue,invoke,callFunc,bb,aw,ac]
 rw[au];refine ad.mono ?_;rintro en w1 ⟨v,m',ap,rfl,af,ar,ag,hb,hr,a1⟩;have ax:Mem.Le μ (WU μ h.ep (ZU o) m' ap):=⟨af,rfl,λl x hl=>by
  have:=hI.lt l (by rw[hl];simp)
  simp only[WU];rw[if_neg oM];exact hl⟩
 refine hn _ _ (WU μ h.ep (ZU o) m' ap) _ _ hK (hI.call (ZU o) af ar ag hb a1) ((hE.mono ax).put (λd bc=>?_) (HE hr h.ep (ZU o))) ax;unfold ZZ at hd;rw[bc] at hd;exact hd
theorem Z17(hI:Inv Γ h μ w)(hE:Zu μ e a)(hd:ZZ o e){c}(ho:o.op=.call c){f}(hc:c.callee=.value f){g caps}(hf:e.ev f=.one (.fn g caps))
  (hv:Z3 P g (c.args.toList.map e.ev++caps.map WX) h (λv h'=>K (e.put o.dst v) h')):Wz P Γ μ o a w K:=by
 obtain⟨⟨fn,ap,ar,aa⟩,af⟩:=hv;have aj:=ZH hE f;rw[hf] at aj;obtain⟨vs,am,ak,ae⟩:=(show∃vs:Array Value,a.eval f=.func (.func g) #[] vs/\vs.size=caps.length/\∀i c,caps[i]?=some c->∃u,vs[i]?=some u/\Av μ c u from aj);have ad:Hp μ (c.args.toList.map e.ev++caps.map WX) (c.args.map a.eval++vs):=by
  refine⟨by simp[ak],λi x hi=>?_⟩;rw[X4] at hi;split at hi;rename_i hlt;rw[Y8] at hi;cases hy:c.args.toList[i]? with
  |none=>simp[hy] at hi
  |some y=>?_
  rw[hy] at hi;simp only[Yj,Ya] at hi;subst hi;refine⟨a.eval y,?_,ZH hE y⟩;simp at hlt;rw[Xh sO];have au:c.args[i]?=some y:=by simpa using hy
  simp[au];rename_i hlt;simp only[Y8,Yh,Yo] at hi hlt;cases hy:caps[i-c.args.size]? with
  |none=>rw[hy] at hi;simp at hi
  |some y=>?_
  rw[hy] at hi;simp only[Yj,Ya] at hi;subst hi;obtain⟨u,hu,hr⟩:=ae _ _ hy;refine⟨u,?_,?_⟩;rw[Xd sO];simpa using hu;cases y with
  |lab l=>exact hr
  |rp cs=>exact hr
 have ac:=af Γ μ w _ hI ad;intro next Q hn
 unfold Oper.wp;have ag:(execOp a.eval o).run P w=.ok (.enter g (c.args.map a.eval++vs)) w:=by
  have ah:¬fn.name= "runtime.NumGoroutine":=by simpa using ar
  have ab:¬fn.body=none:=by intro hq;rw[hq] at aa;simp at aa
  simp[execOp,ho,resolve,hc,am,Deferred.ofValue,invoke,callFunc,ap,ah,ab]
 rw[ag];refine ac.mono ?_;rintro en w1 ⟨u,v,h',μ',rfl,hk,aw,hr,al⟩;refine hn _ _ μ' _ _ hk aw ((hE.mono al).put (λd aq=>?_) hr) al;unfold ZZ at hd;rw[aq] at hd;exact hd
theorem Z15(hI:Inv Γ h μ w)(hE:Zu μ e a)(hd:ZZ o e){c}(ho:o.op=.call c){f}(hc:c.callee=.value f){g caps}(hf:e.ev f=.one (.fn g caps)){v}
  (hx:Dz P g (c.args.toList.map e.ev++caps.map WX) h v)(hk:K (e.put o.dst v) h):Wz P Γ μ o a w K:=by
 have ae:=ZH hE f;rw[hf] at ae;obtain⟨vs,af,ad,ab⟩:=(show∃vs:Array Value,a.eval f=.func (.func g) #[] vs/\vs.size=caps.length/\∀i c,caps[i]?=some c->∃u,vs[i]?=some u/\Av μ c u from ae);have aa:Hp μ (c.args.toList.map e.ev++caps.map WX) (c.args.map a.eval++vs):=by
  refine⟨by simp[ad],λi x hi=>?_⟩;rw[X4] at hi;split at hi;rename_i hlt;rw[Y8] at hi;cases hy:c.args.toList[i]? with
  |none=>simp[hy] at hi
  |some y=>?_
  rw[hy] at hi;simp only[Yj,Ya] at hi;subst hi;refine⟨a.eval y,?_,ZH hE y⟩;simp at hlt;rw[Xh sO];have ag:c.args[i]?=some y:=by simpa using hy
  simp[ag];rename_i hlt;simp only[Y8,Yh,Yo] at hi hlt;cases hy:caps[i-c.args.size]? with
  |none=>rw[hy] at hi;simp at hi
  |some y=>?_
  rw[hy] at hi;simp only[Yj,Ya] at hi;subst hi;obtain⟨u,hu,hr⟩:=ab _ _ hy;refine⟨u,?_,?_⟩;rw[Xd sO];simpa using hu;cases y with
  |lab l=>exact hr
  |rp cs=>exact hr
 obtain⟨u,ac,hr⟩:=hx Γ μ w _ hI aa;refine Wu (w':=w) ?_ hE (Mem.Le.refl μ) hI hd hr hk;simp[execOp,ho,resolve,hc,af,Deferred.ofValue,invoke,ac]
theorem Z4v{t}(h:AD P t=true):∃el,P.underlying t=some (.slice el):=by unfold AD at h;split at h;exact⟨_,by assumption⟩;cases h
theorem Tk{t t' el el' ty u v}(h1:P.underlying t=some (.slice el))(h2:P.underlying t'=some (.slice el')):(Builtin.append_ #[t,t'] ty #[u,v]).run P w=(Builtin.append_ #[t,t] ty #[u,v]).run P w:=by
 cases u<;>simp[Builtin.append_,run_underlying h1,run_underlying h2]
theorem J7{c c'}(ho:o.op=.call c)(hx:(execOp a.eval o).run P w=(execOp a.eval {o with op:=.call c'}).run P w)(hq:Wz P Γ μ {o with op:=.call c'} a w K):Wz P Γ μ o a w K:=by
 intro next Q hn
 have:=hq next Q hn
 unfold Oper.wp at this|-;rw[hx];exact this
theorem Ml{c:Call}(ho:o.op=.call c)(hc:c.callee=.builtin .append){t t'}(ht:c.argTypes.toList=[t,t'])(he:(Zv P t).isSome=true)(hs:AD P t'=true){s x}(hx:c.args.toList.map e.ev=[.one s,.one x]):
  (execOp a.eval o).run P w=(execOp a.eval {o with op:=.call {c with argTypes:=#[t,t]}}).run P w:=by
 obtain⟨y,y',hy,-,-⟩:=Df hx;have aa:c.args=#[y,y']:=by cases hq:c.args;simp_all
 have ad:c.argTypes=#[t,t']:=by cases hq:c.argTypes;simp_all
 obtain⟨⟨el,n,b⟩,ab⟩:=Option.isSome_iff_exists.1 he;obtain⟨i,z,hu,_⟩:=Un ab;obtain⟨ae,ac⟩:=Z4v hs;simp[execOp,ho,resolve,hc,ad,aa,invoke,builtin,Tk hu ac]
theorem Z1l{c}(ho:o.op=.call c)(hc:c.callee=.builtin .copy){t t'}(ht:c.argTypes.toList=[t,t']){s x}(hx:c.args.toList.map e.ev=[.one s,.one x]):
  (execOp a.eval o).run P w=(execOp a.eval {o with op:=.call {c with argTypes:=#[t,t]}}).run P w:=by
 obtain⟨y,y',hy,-,-⟩:=Df hx;have aa:c.args=#[y,y']:=by cases hq:c.args;simp_all
 have ab:c.argTypes=#[t,t']:=by cases hq:c.argTypes;simp_all
 have e1:∀u v,Builtin.copy_ #[t,t'] o.type #[u,v]=Builtin.copy_ #[t,t] o.type #[u,v]:=λ_ _=>rfl;simp[execOp,ho,resolve,hc,ab,aa,invoke,builtin,e1]
theorem OO(hI:Inv Γ h μ w)(hE:Zu μ e a)(hd:ZZ o e)(hv:Z9 P o e h K):Wz P Γ μ o a w K:=by
 cases ho:o.op with
 |store t x y=>exact Z13 hI hE hd ho hv
 |box t x=>exact Z50 hI hE hd ho hv
 |alloc t=>exact Z1a hI hE hd ho hv
 |build t ps=>exact Z18 hI hE hd ho hv
 |buildSlice t len ps=>exact Sd hI hE hd ho hv
 |binOp op t x y t'=>exact Z19 hI hE hd ho hv
 |makeSlice t x y=>simp only[Z9,ho] at hv;exact Z2u hI hE hd ho hv
 |call c=>?_
 |_=>
   simp only[Z9,ho] at hv;split at hv;rename_i v aa;exact JS hI hE hd (by rw[ho];exact aa) hv;exact hv.elim
 simp only[Z9,ho] at hv;split at hv;rename_i f hc;split at hv;rename_i g caps hf;rcases hv with⟨ac,cs,has,ab,hv⟩|hv|⟨v,hx,hk⟩;exact Z16 hI hE hd ho hc hf has ab hv;exact Z17 hI hE hd ho hc hf hv;exact Z15 hI hE hd ho hc hf hx hk;exact hv.elim;rename_i hc;split at hv;rename_i x t hx ht;exact Z4y hI hE hd ho hc ht hx hv;exact hv.elim;rename_i hc;split at hv;rename_i s x t t' hx ht;rcases hv with⟨rfl|hs,hv|hv⟩|hv;exact Mv hI hE hd ho hc ht hx hv;exact Mk hI hE hd ho hc ht hx hv;refine J7 ho (Ml ho hc ht (by unfold An at hv;exact Option.isSome_iff_ne_none.2 λh0=>by rw[h0] at hv;exact hv) hs hx) (Mv hI hE hd rfl hc rfl hx hv);refine J7 ho (Ml ho hc ht (by unfold Al at hv;exact Option.isSome_iff_ne_none.2 λh0=>by rw[h0] at hv;exact hv) hs hx) (Mk hI hE hd rfl hc rfl hx hv);exact T9 hI hE hd ho hc ht hx hv;exact hv.elim;rename_i hc;split at hv;rename_i s t hx ht;exact Z4z hI hE hd ho hc ht hx hv;exact hv.elim;rename_i hc;split at hv;rename_i s x t t' hx ht;obtain⟨rfl|_,hv⟩:=hv;exact Nm hI hE hd ho hc ht hx hv;exact J7 ho (Z1l ho hc ht hx) (Nm hI hE hd rfl hc rfl hx hv);exact hv.elim;rename_i hc;split at hv;rename_i s t hx ht;exact Z14 hI hE hd ho hc ht hx hv;exact hv.elim;split at hv;rename_i v aa;exact JS hI hE hd (by rw[ho];exact aa) hv;exact hv.elim
theorem MF{all}(hE:Zu μ e a){j:Nat}{b}(hy:UU all.toList e j=.one (.d (.bool b))):yielded all a.tmps j=some b:=by
 unfold UU at hy;split at hy;rename_i oj hj;split at hy;rename_i d hd;have hr:=hE.2.2 d;rw[hy] at hr;have hb:=RepD.jF hr;have hlt:d<a.tmps.size:=by rcases YA d a.tmps.size with h1|h1;exact h1;rw[YO,X3 h1] at hb;simp[undef] at hb
 have aa:all[j]?=some oj:=by simpa using hj
 unfold yielded;rw[aa];simp only[Option.bind_some,hd,X2 hlt];rw[YO,X2 hlt] at hb;simp at hb;rw[hb];cases hy;cases hy
theorem M7{all}(hE:Zu μ e a){j:Nat}(hy:UU all.toList e j=.undef):yielded all a.tmps j=none:=by
 unfold UU at hy;split at hy;rename_i oj hj;have aa:all[j]?=some oj:=by simpa using hj
 split at hy;rename_i d hd;have hr:=hE.2.2 d;rw[hy] at hr;have hu:=hr;unfold yielded;rw[aa];simp only[Option.bind_some,hd];rw[YO] at hu;cases hx:a.tmps[d]? with
 |none=>rfl
 |some u=>rw[hx] at hu;simp at hu;rw[hu];rfl
 rename_i hd;unfold yielded;rw[aa];simp[hd];rename_i hj;have aa:all[j]?=none:=by simpa using hj
 unfold yielded;rw[aa];rfl
theorem IW{all Q N μ0}(hN:∀e' h' μ' a' w',N e' h'->Inv Γ h' μ' w'->Zu μ' e' a'->Mem.Le μ0 μ'->Q .normal a' w'):
  ∀l {e:Env} {h:HS} {μ:Mem} {a:Act} {w:World},Inv Γ h μ w->Zu μ e a->Mem.Le μ0 μ->W6 P all.toList l e h N->wpList P all Q l a w
 |[],e,h,μ,a,w,hI,hE,ab,hv=>hN _ _ _ _ _ hv hI hE ab
 |o::l,e,h,μ,a,w,hI,hE,ab,hv=>by
   obtain⟨hd,hv⟩:=hv;unfold wpList;have skip:W6 P all.toList l (e.put o.dst .undef) h N->wpList P all Q l (a.put o.dst undef) w:=λhs=>
    IW hN l hI (hE.put (λd ac=>by unfold ZZ at hd;rw[ac] at hd;exact hd) (v:=.undef) rfl) ab hs
   have go:Z9 P o e h (λe h=>W6 P all.toList l e h N)->o.wp P a w (wpList P all Q l) Q:=λhs=>
    OO hI hE hd hs _ _ (λe' h' μ' a' w' hk hI' hE' hle'=>IW hN l hI' hE' (ab.trans hle') hk)
   split at hv;rename_i hg;rw[if_pos (by simp[Region.wanted,hg])];exact .inl (go hv);rename_i j want hg;split at hv;rename_i b hy;have aa:=MF hE hy;by_cases hb:b=want;rw[if_pos (by simp[Region.wanted,hg,aa,hb])];exact .inl (go (hv.1 hb));rw[if_neg (by simp[Region.wanted,hg,aa,hb])];exact skip (hv.2 hb);rename_i hy;have aa:=M7 hE hy;rw[if_neg (by simp[Region.wanted,hg,aa])];exact skip hv;exact hv.elim
theorem VZ:∀c Q e h,vc P c Q e h->Wi P c Q e h
 | .skip,Q,e,h,hv=>λΓ a w μ hI hE=>wp_skip ⟨e,h,μ,hv,hI,hE,.refl μ⟩
 | .region id ops false,Q,e,h,hv=>λΓ a w μ hI hE=>wp_region_list (IW (λe' h' μ' a' w' hk ab aa ac=>⟨e',h',μ',hk,ab,aa,ac⟩) ops.toList hI hE (.refl μ) hv)
 | .region id ops true,Q,e,h,hv=>hv
 | .seq x y,Q,e,h,hv=>λΓ a w μ hI hE=>by
   refine wp_seq (Code.wp_mono ?_ (VZ x _ e h hv Γ a w μ hI hE));rintro ex a' w' ⟨e',h',μ',hq,ab,aa,ac⟩;cases ex with
   |normal=>exact Code.wp_mono (λex a2 w2 ⟨e2,h2,μ2,q1,q2,q3,q4⟩=>⟨e2,h2,μ2,q1,q2,q3,ac.trans q4⟩) (VZ y Q e' h' hq Γ a' w' μ' ab aa)
   |_=>exact⟨e',h',μ',hq,ab,aa,ac⟩
 | .cond c x y,Q,e,h,hv=>λΓ a w μ hI hE=>by
   simp only[vc] at hv;split at hv;rename_i t ht;have hc:=ZH hE c;rw[ht] at hc;have ad:=RepD.jF hc;refine wp_cond_split ad (λhh=>VZ x Q e h (hv.1 hh) Γ a w μ hI hE) (λhh=>VZ y Q e h (hv.2 hh) Γ a w μ hI hE);exact hv.elim
 | .block id x,Q,e,h,hv=>λΓ a w μ hI hE=>by
   refine wp_block (Code.wp_mono ?_ (VZ x _ e h hv Γ a w μ hI hE));rintro ex a' w' ⟨e',h',μ',hq,ab,aa,ac⟩;cases ex with
   |exit id'=>?_
   |_=>exact⟨e',h',μ',hq,ab,aa,ac⟩
   simp only[Cb] at hq;simp only[Exit.inBlock];split at hq;rename_i hid;rw[if_pos hid];exact⟨e',h',μ',hq,ab,aa,ac⟩;rename_i hid;rw[if_neg hid];exact⟨e',h',μ',hq,ab,aa,ac⟩
 | .exit id,Q,e,h,hv=>λΓ a w μ hI hE=>wp_exit ⟨e,h,μ,hv,hI,hE,.refl μ⟩
 | .ret,Q,e,h,hv=>λΓ a w μ hI hE=>wp_ret ⟨e,h,μ,hv,hI,hE,.refl μ⟩
 | .loop _,_,_,_,hv=>hv
 | .rangeFunc ..,_,_,_,hv=>hv
 | .scope _,_,_,_,hv=>hv
 | .label _,_,_,_,hv=>hv
 | .goto _,_,_,_,hv=>hv
 | .refuse _,_,_,_,hv=>hv
theorem Wi.mono{c Q Q'}(hs:Wi P c Q e h)(hq:∀x e h,Q x e h->Q' x e h):Wi P c Q' e h:=λΓ a w μ hI hE=>
 Code.wp_mono (by rintro ex a' w' ⟨e',h',μ',ac,ab,aa,ad⟩;exact⟨e',h',μ',hq _ _ _ ac,ab,aa,ad⟩) (hs Γ a w μ hI hE)
theorem Wi.loop{c Q}(I:Nat->Env->HS->Prop)(n:Nat)(h0:I n e h)
  (round:∀n e h,I n e h->vc P c (V3 (λe' h'=>∃n',n'<n/\I n' e' h') Q) e h):Wi P (.loop c) Q e h:=by
 intro Γ a w μ hI hE;intro b k cs;have key:∀n e h a w μ,I n e h->Inv Γ h μ w->Zu μ e a->
   ∃ex a' w',(∃e' h' μ',Q ex e' h'/\Inv Γ h' μ' w'/\Zu μ' e' a'/\Mem.Le μ μ')/\Arrives P (lone (b.at a (.code c::.inLoop c::k)) cs w) b k cs ex a' w':=by
  intro n
  induction n using Nat.strongRecOn with|_ n ih=>?_
  intro e h a w μ hIn hI hE;obtain⟨ex,a₁,w₁,⟨e₁,h₁,μ₁,hq,ad,ac,ab⟩,aa⟩:=VZ c _ e h (round n e h hIn) Γ a w μ hI hE b (.inLoop c::k) cs;cases ex with
  |normal=>?_
  |exit id=>exact⟨_,a₁,w₁,⟨e₁,h₁,μ₁,hq,ad,ac,ab⟩,.pass rfl (λ_ _=>.inl sI) aa⟩
  |goto l=>exact⟨_,a₁,w₁,⟨e₁,h₁,μ₁,hq,ad,ac,ab⟩,.pass rfl (λ_ _=>.inl sI) aa⟩
  |ret=>exact⟨_,a₁,w₁,⟨e₁,h₁,μ₁,hq,ad,ac,ab⟩,.pass rfl (λ_ _=>.inl sI) aa⟩
  |panic ch=>exact⟨_,a₁,w₁,⟨e₁,h₁,μ₁,hq,ad,ac,ab⟩,.pass rfl (λ_ _=>.inl sI) aa⟩
  |outgrown=>exact⟨_,a₁,w₁,⟨e₁,h₁,μ₁,hq,ad,ac,ab⟩,.pass rfl (λ_ _=>.inl sI) aa⟩
  obtain⟨n',hlt,af⟩:=hq;obtain⟨e₂,a₂,w₂,⟨e₃,h₃,μ₃,q1,q2,q3,q4⟩,ae⟩:=ih n' hlt e₁ h₁ a₁ w₁ μ₁ af ad ac;exact⟨e₂,a₂,w₂,⟨e₃,h₃,μ₃,q1,q2,q3,ab.trans q4⟩,.of_steps (Steps.trans aa (.one step_inLoop)) ae⟩
 obtain⟨ex,a',w',hq,aa⟩:=key n e h a w μ h0 hI hE;exact⟨ex,a',w',hq,.of_steps (.one step_loop) aa⟩
end
end Go.Am
end
section
namespace Go.Am
open Go.RowKit (Below)
def ZL(P:Program)(e:Env)(h:HS):ResultVar->Option V
 | .tmp t=>some (e.get t)
 | .cell t T=>match ZV P T with
   |some (a,n)=>match e.get t with
     | .one c=>match Au h c n with
       |some l=>Cn a l
       |none=>none
     |_=>none
   |none=>none
def Zz(P:Program)(e:Env)(h:HS):List ResultVar->Option (List V)
 |[]=>some []
 |r::rs=>match ZL P e h r,Zz P e h rs with
   |some v,some vs=>some (v::vs)
   |_,_=>none
def Uc(h:HS)(aa:Nat->Option Z2)(c:C):RC->Prop
 | .d x=>c.toD=some x
 | .fresh j es xs=>match aa j with
   |some l=>c=.own l xs/\h.arr l=some (xs.length,es)
   |none=>c=.nil/\xs=[]
def Cg(h:HS)(aa:Nat->Option Z2):List C->List RC->Prop
 |[],[]=>True
 |c::cs,r::rs=>Uc h aa c r/\Cg h aa cs rs
 |_,_=>False
def Vu(h:HS)(aa:Nat->Option Z2)(v:V):RV->Prop
 | .one r=>match v with
   | .one c=>Uc h aa c r
   |_=>False
 | .agg rs=>match v with
   | .agg cs=>Cg h aa cs rs
   |_=>False
 | .tup _=>False
def FC(h:HS)(aa:Nat->Option Z2):List V->List RV->Prop
 |[],[]=>True
 |v::vs,r::rs=>Vu h aa v r/\FC h aa vs rs
 |_,_=>False
def BA(h:HS)(aa:Nat->Option Z2)(vs:List V):RV->Prop
 | .tup rs=>vs.length≠1/\FC h aa vs rs
 | .one c=>match vs with
   |[v]=>Vu h aa v (.one c)
   |_=>False
 | .agg cs=>match vs with
   |[v]=>Vu h aa v (.agg cs)
   |_=>False
def U7(P:Program)(rs:List ResultVar)(r:RV)(e:Env)(h:HS):Prop:=
 match Zz P e h rs with
 |some vs=>∃ren:Nat->Option Z2,(∀j j' l,ren j=some l->ren j'=some l->j=j')/\BA h ren vs r
 |none=>False
def HP(P:Program)(rs:List ResultVar)(r:RV):Exit->Env->HS->Prop
 | .normal,e,h=>U7 P rs r e h
 | .ret,e,h=>U7 P rs r e h
 |_,_,_=>False
def AV.toV:AV->V
 | .one (.d x)=>.one (.d x)
 | .one (.rp cs)=>.one (.rp cs)
 | .one (.fn f caps)=>.one (.fn f (caps.map Cap.rp))
 | .agg ds=>.agg (ds.map C.d)
def BH(n:Nat)(aa:List AV):Env:={n,get:=λk=>match aa[k]? with
 |some a=>a.toV
 |none=>.undef}
section
variable{P:Program}{w:World}{a:Act}{e:Env}{h:HS}{μ:Mem}{Γ:Ctx}
theorem Z1b(hI:Inv Γ h μ w){t c v0 ag}{n:Nat}{l v}(af:ZV P t=some (ag,n))(hc:ZX μ c v0)(hr:Au h c n=some l)(hv:Cn ag l=some v):
  ∃b u,v0=.pointer (some b)/\(loadVar t b).run P w=.ok u w/\ZS μ v u:=by
 obtain⟨d,i,hd,ad,hi,hn⟩:=K5 af;obtain⟨ah,b,off,ac,am⟩:=Mj hI hc hr;obtain⟨vs,al,hR,ab⟩:=am.list;have ae:=K7 hR hv;cases aa:ag with|true=>?_|false=>?_;refine⟨_,_,ac,?_,ae.1 aa⟩
 have:=run_loadCells_list (P:=P) w ⟨b,off,none⟩ vs ab
 simp[loadVar,Bj hd,ad,aa,sizeOf,typeInfo,hi,hn,<-ah,<-al,this];obtain⟨u,ak,aj⟩:=ae.2 aa;refine⟨_,u,ac,?_,aj⟩;subst ak
 have:=ab 0 u sI
 rw[U1] at this;simp only[YY] at this;simp[loadVar,Bj hd,ad,aa,run_load,this]
def DB(tmps:Array Value):ResultVar->Sem Value
 | .tmp t=>pure (tmps.getD t undef)
 | .cell p t=>do loadVar t (<-asAddr (tmps.getD p undef))
theorem MN(fn tmps):results fn tmps=(do
  let vs<-fn.results.mapM (DB tmps)
  pure (if h:vs.size=1 then vs[0] else .tuple vs)):=by
 unfold results
 congr 1
theorem Kl(hI:Inv Γ h μ w)(hE:Zu μ e a):∀rs vs,Zz P e h rs=some vs->
  ∃us:List Value,(rs.mapM (DB a.tmps)).run P w=.ok us w/\us.length=vs.length/\
    ∀(i:Nat) v,vs[i]?=some v->∃u,us[i]?=some u/\ZS μ v u
 |[],vs,hv=>by simp[Zz] at hv;subst hv;exact⟨[],by simp,rfl,λi v hi=>by simp at hi⟩
 |r::rs,vs,hv=>by
   simp only[Zz] at hv;split at hv;rename_i v vs' hr ad;injection hv with hv
   subst hv;obtain⟨us,h1,h2,h3⟩:=Kl hI hE rs vs' ad;have key:∃u,(DB a.tmps r).run P w=.ok u w/\ZS μ v u:=by
    cases r with|tmp t=>?_|cell p t=>?_;simp[ZL] at hr;subst hr;exact⟨a.tmps.getD t undef,rfl,hE.2.2 t⟩;simp only[ZL] at hr;split at hr;rename_i ag n ac;split at hr;rename_i c hc;split at hr;rename_i l hl;have hp:=hE.2.2 p;rw[hc] at hp;obtain⟨b,u,hb,ab,aa⟩:=Z1b hI ac (show ZX μ c _ from hp) hl hr;exact⟨u,by simp only[DB,hb,asAddr];simpa using ab,aa⟩;cases hr;cases hr;cases hr
   obtain⟨u,hu,aa⟩:=key;refine⟨u::us,?_,by simp[h2],λi v' hi=>?_⟩;rw[List.mapM_cons,Sem.run_bind,hu,Result.andThen_ok,Sem.run_bind,h1,Result.andThen_ok];rfl;cases i with
   |zero=>simp at hi;subst hi;exact⟨u,sI,aa⟩
   |succ i=>obtain⟨u',h4,h5⟩:=h3 i v' (by simpa using hi);exact⟨u',by simpa using h4,h5⟩
   cases hv
def VD(μ:Mem)(aa:Nat->Option Z2)(j:Nat):Option Nat×Nat:=
 match aa j with
 |some l=>(μ.loc l).getD (none,0)
 |none=>(none,0)
theorem Ov{ren c r v}(hc:ZX μ c v)(hr:Uc h ren c r):Ch μ.cell (VD μ ren) r v:=by
 cases r with
 |d x=>exact Vz hc hr
 |fresh j es xs=>?_
 simp only[Uc] at hr;split at hr;rename_i l hl;obtain⟨rfl,_⟩:=hr;obtain⟨h1,g,cap,h2,h3⟩:=hc;refine⟨h1,?_⟩;simp only[VD,hl,h2,Option.getD_some];exact h3;rename_i hl;obtain⟨rfl,rfl⟩:=hr;refine⟨Vz hc rfl,?_⟩;simp only[VD,hl];exact hc
theorem Z3e{aa:Nat->Option Z2}:∀{cs:List C} {rs:List RC} {vs:Array Value},ZA μ cs vs->Cg h aa cs rs->vs.size=rs.length/\∀(i:Nat) r,rs[i]?=some r->∃u,vs[i]?=some u/\Ch μ.cell (VD μ aa) r u:=by
 intro cs rs vs hR hr;have key:cs.length=rs.length/\∀(i:Nat) r,rs[i]?=some r->∃c,cs[i]?=some c/\Uc h aa c r:=by
  clear hR
  induction cs generalizing rs with|nil=>?_|cons c cs ih=>?_
  cases rs with
  |nil=>exact⟨rfl,λi r hi=>by simp at hi⟩
  |cons r rs=>exact hr.elim
  cases rs with
  |nil=>exact hr.elim
  |cons r rs=>?_
  obtain⟨h1,h2⟩:=ih hr.2;refine⟨by simp[h1],λi r' hi=>?_⟩;cases i with
  |zero=>simp at hi;subst hi;exact⟨c,sI,hr.1⟩
  |succ i=>obtain⟨c',h3,h4⟩:=h2 i r' (by simpa using hi);exact⟨c',by simpa using h3,h4⟩
 refine⟨by rw[hR.1,key.1],λi r hi=>?_⟩;obtain⟨c,h1,h2⟩:=key.2 i r hi;obtain⟨u,hu,ab⟩:=hR.2 i c h1;exact⟨u,hu,Ov ab h2⟩
theorem NK{ren v r u}(hv:ZS μ v u)(hr:Vu h ren v r):BC μ.cell (VD μ ren) r u:=by
 cases r with
 |one r=>cases v<;>simp only[Vu] at hr;exact Ov hv hr
 |agg rs=>?_
 |tup rs=>exact hr.elim
 cases v<;>simp only[Vu] at hr;obtain⟨vs,h1,h2⟩:=hv;obtain⟨h3,h4⟩:=Z3e h2 hr;exact⟨vs,h1,h3,h4⟩
theorem P6{ren c r}(hr:Uc h ren c r):∀x∈r.fr,match ren x.1 with
  |some l=>h.arr l=some (x.2.2,x.2.1)
  |none=>x.2.2=0:=by
 cases r with
 |d x=>simp[RC.fr]
 |fresh j es xs=>?_
 intro x hx;simp[RC.fr] at hx;subst hx;simp only[Uc] at hr;split at hr;rename_i l hl;rw[hl];exact hr.2;rename_i hl;rw[hl];rw[hr.2];rfl
theorem Ou{aa:Nat->Option Z2}:∀{cs:List C} {rs:List RC},Cg h aa cs rs->∀x∈rs.flatMap RC.fr,match aa x.1 with
  |some l=>h.arr l=some (x.2.2,x.2.1)
  |none=>x.2.2=0
 |[],[],_,x,hx=>by simp at hx
 |c::cs,r::rs,hr,x,hx=>by
   rw[YB,Y2] at hx;rcases hx with hx|hx;exact P6 hr.1 x hx;exact Ou hr.2 x hx
 |[],_::_,hr,_,_=>hr.elim
 |_::_,[],hr,_,_=>hr.elim
theorem Ot{ren v r}(hr:Vu h ren v r):∀x∈RV1.fr r,match ren x.1 with
  |some l=>h.arr l=some (x.2.2,x.2.1)
  |none=>x.2.2=0:=by
 cases r with
 |one r=>cases v<;>simp only[Vu] at hr;exact P6 hr
 |agg rs=>cases v<;>simp only[Vu] at hr;exact Ou hr
 |tup rs=>exact hr.elim
theorem Oq{aa:Nat->Option Z2}:∀{vs:List V} {rs:List RV},FC h aa vs rs->∀x∈rs.flatMap RV1.fr,match aa x.1 with
  |some l=>h.arr l=some (x.2.2,x.2.1)
  |none=>x.2.2=0
 |[],[],_,x,hx=>by simp at hx
 |c::cs,r::rs,hr,x,hx=>by
   rw[YB,Y2] at hx;rcases hx with hx|hx;exact Ot hr.1 x hx;exact Oq hr.2 x hx
 |[],_::_,hr,_,_=>hr.elim
 |_::_,[],hr,_,_=>hr.elim
theorem NJ{ren}:∀{vs:List V} {rs:List RV},FC h ren vs rs->vs.length=rs.length/\∀(i:Nat) r,rs[i]?=some r->∃v,vs[i]?=some v/\Vu h ren v r
 |[],[],_=>⟨rfl,λi r hi=>by simp at hi⟩
 |c::cs,r::rs,hr=>by
   obtain⟨h1,h2⟩:=NJ hr.2;refine⟨by simp[h1],λi r' hi=>?_⟩;cases i with
   |zero=>simp at hi;subst hi;exact⟨c,sI,hr.1⟩
   |succ i=>obtain⟨c',h3,h4⟩:=h2 i r' (by simpa using hi);exact⟨c',by simpa using h3,h4⟩
 |[],_::_,hr=>hr.elim
 |_::_,[],hr=>hr.elim
theorem Od(hI:Inv Γ h μ w){aa:Nat->Option Z2}(ab:∀j j' l,aa j=some l->aa j'=some l->j=j'){fr:List (Nat×Nat×Nat)}
  (ac:∀x∈fr,match aa x.1 with
   |some l=>h.arr l=some (x.2.2,x.2.1)
   |none=>x.2.2=0):Dn μ.cell Γ.w0 w (VD μ aa) fr:=by
 have key:∀x∈fr,∀b,(VD μ aa x.1).1=some b->∃l c,aa x.1=some l/\h.arr l=some (x.2.2,x.2.1)/\μ.loc l=some (some b,c):=by
  intro x hx b hb;have h1:=ac x hx;cases hl:aa x.1 with
  |none=>simp[VD,hl] at hb
  |some l=>?_
  rw[hl] at h1;obtain⟨gc,h2,_⟩:=hI.arr l _ _ h1;simp[VD,hl,h2] at hb;obtain⟨g,c⟩:=gc;simp only at hb;subst hb;exact⟨l,c,rfl,h1,h2⟩
 refine⟨λx hx=>?_,λx hx y hy b hb hb'=>?_⟩;have h1:=ac x hx;cases hl:aa x.1 with|none=>?_|some l=>?_;rw[hl] at h1;simp only[VD,hl];exact⟨λ_=>⟨rfl,h1⟩,λg hg=>by cases hg⟩;rw[hl] at h1;obtain⟨gc,h2,h3⟩:=hI.arr l _ _ h1;simp only[VD,hl,h2,Option.getD_some];exact h3;obtain⟨l,c,h1,h2,h3⟩:=key x hx b hb;obtain⟨l',c',h4,h5,h6⟩:=key y hy b hb'
 have:=hI.inj l l' b c c' (.inr (by rw[h2];simp)) (.inr (by rw[h5];simp)) h3 h6
 subst this;exact ab _ _ l h1 h4
theorem Pr{m t x v}(hx:Ci m t x v):ZS {cell:=m,tmp:=t,loc:=λ_=>none} x.toV v:=by
 cases x with|one y=>?_|agg ds=>?_;cases y with
 |d x=>exact hx
 |rp cs=>exact hx
 |fn f caps=>?_
 obtain⟨vs,h1,h2,h3⟩:=hx;refine⟨vs,h1,by simp[h2],λi c hi=>?_⟩;rw[Y8] at hi;cases hc:caps[i]? with
 |none=>simp[hc] at hi
 |some ds=>?_
 simp[hc] at hi;subst hi;exact h3 i ds hc;obtain⟨vs,h1,h2,h3⟩:=hx;refine⟨vs,h1,by simp[h2],λi c hi=>?_⟩;rw[Y8] at hi;cases hc:ds[i]? with
 |none=>simp[hc] at hi
 |some x=>?_
 simp[hc] at hi;subst hi;exact h3 i x hc
theorem Zj.qN{f}{fn:Func}{c}{n:Nat}{ars r}(hf:P.funcs[f]?=some fn)(hb:fn.body=some c)(ay:(fn.name== "runtime.NumGoroutine")=false)(hn:fn.ntmps=n){rs}(ar:fn.results.toList=rs)(has:ars.length<=n)
  (hv:vc P c (HP P rs r) (BH n ars) HS.init):Zj P f ars r:=by
 subst ar;refine⟨⟨fn,hf,ay,by rw[hb];rfl⟩,λw m t vals hg hm ht ad=>?_⟩;have hI:Inv ⟨w,m,t,hg⟩ HS.init {cell:=m,tmp:=t,loc:=λ_=>none} w:=
  ⟨hm,rfl,ht,λb o v hv=>ht.lt hv,Wq.refl _,λ_ _ _ _ h=>h,Below.refl _ _,λl cs hl=>by simp[HS.init] at hl,λl es n hl=>by simp[HS.init] at hl,
   λl l' b n n' hl=>by rcases hl with hl|hl<;>simp[HS.init] at hl,λl hl=>absurd rfl hl,λl hl=>by simp[HS.init] at hl⟩
 have hE:Zu {cell:=m,tmp:=t,loc:=λ_=>none} (BH n ars) {tmps:=vals++Array.replicate (fn.ntmps-vals.size) undef,defers:=[]}:=by
  refine⟨rfl,?_,λk=>?_⟩;simp[BH,ad.1,hn];omega;simp only[BH];cases hk:ars[k]? with|some x=>?_|none=>?_;obtain⟨u,hu,hr⟩:=ad.2 k x hk;have hlt:=(YF.1 hu).1
  have:(vals++Array.replicate (fn.ntmps-vals.size) undef).getD k undef=u:=by rw[YO,Xh hlt,hu];rfl
  simp only[this];exact Pr hr;have hge:vals.size<=k:=by rw[ad.1];exact List.getElem?_eq_none_iff.1 hk
  show(vals++Array.replicate (fn.ntmps-vals.size) undef).getD k undef=undef;rw[YO,Xd hge];cases hx:(Array.replicate (fn.ntmps-vals.size) undef)[k-vals.size]? with
  |none=>rfl
  |some u=>?_
  obtain⟨_,he⟩:=YF.1 hx;simp at he;simp[he]
 refine calls_of_wp hf hb (Code.wp_mono ?_ (VZ c _ _ _ hv ⟨w,m,t,hg⟩ _ w _ hI hE));rintro ex a' w' ⟨e',h',μ',hq,ae,aj,_⟩;have fin:U7 P fn.results.toList r e' h'->a'.defers=[]/\∃v,(results fn a'.tmps).run P w'=.ok v w'/\∃v' m' al,Ending.returned v=.returned v'/\Wq m m'/\(∀b o u,b<w.heap.size->m' b o=some u->m b o=some u)/\V7 m' w'/\
   Below w.heap.size w w'/\Az m' al r v'/\Dn m' w w' al r.fr:=by
  intro aa;unfold U7 at aa;split at aa;rename_i vs ax;obtain⟨ac,af,aa⟩:=aa;obtain⟨us,ap,hlen,hR⟩:=Kl ae aj fn.results.toList vs ax;have aq:(results fn a'.tmps).run P w'=.ok (if hh:us.toArray.size=1 then us.toArray[0] else .tuple us.toArray) w':=by
   rw[MN,Sem.run_bind,Array.mapM_eq_mapM_toList];have ah:(Functor.map List.toArray (fn.results.toList.mapM (DB a'.tmps))).run P w'=.ok us.toArray w':=by rw[Sem.run_map,ap];rfl
   rw[ah];rfl
  refine⟨aj.1,_,aq,_,μ'.cell,VD μ' ac,rfl,ae.ext,λb o u hb hu=>ae.old b o u hb hu,ae.cell,ae.below,?_⟩;have one:∀v,vs=[v]->(hq:Vu h' ac v r)->r.fr=RV1.fr r->(∀u,Az μ'.cell (VD μ' ac) r u↔BC μ'.cell (VD μ' ac) r u)->
    Az μ'.cell (VD μ' ac) r (if hh:us.toArray.size=1 then us.toArray[0] else .tuple us.toArray)/\Dn μ'.cell w w' (VD μ' ac) r.fr:=by
   intro v ab hq ak am;subst ab;obtain⟨u,hu,aw⟩:=hR 0 v sI;obtain⟨u',rfl⟩:∃u',us=[u']:=by
    match us,hlen with
    |[u'],_=>exact⟨u',rfl⟩
   obtain rfl:u'=u:=by simpa using hu
   refine⟨(am _).2 ?_,?_⟩;exact NK aw hq;rw[ak];exact Od ae af (Ot hq)
  cases r with|tup rs=>?_|one c=>?_|agg cs=>?_;obtain⟨hne,ag⟩:=aa;obtain⟨h1,h2⟩:=NJ ag;have au:¬us.toArray.size=1:=by simp[hlen];exact hne
  rw[dif_neg au];refine⟨⟨us.toArray,rfl,by simp[hlen,h1],λi x hi=>?_⟩,Od ae af (Oq ag)⟩;obtain⟨v,h3,h4⟩:=h2 i x hi;obtain⟨u,h5,h6⟩:=hR i v h3;exact⟨u,by simpa using h5,NK h6 h4⟩;have ab:∃v,vs=[v]/\Vu h' ac v (.one c):=by
   match vs,aa with
   |[v],aa=>exact⟨v,rfl,aa⟩
  obtain⟨v,ab,hq⟩:=ab;exact one v ab hq rfl (λu=>Iff.rfl);have ab:∃v,vs=[v]/\Vu h' ac v (.agg cs):=by
   match vs,aa with
   |[v],aa=>exact⟨v,rfl,aa⟩
  obtain⟨v,ab,hq⟩:=ab;exact one v ab hq rfl (λu=>Iff.rfl);exact aa.elim
 cases ex with
 |normal=>exact fin hq
 |ret=>exact fin hq
 |exit id=>exact hq.elim
 |goto l=>exact hq.elim
 |panic ch=>exact hq.elim
 |outgrown=>exact hq.elim
end
end Go.Am
end
section
namespace Go.Am
def WC(e:Env)(h:HS):Prop:=∃Γ μ w a,Inv Γ h μ w∧Zu μ e a
def Zo(h h1:HS):Prop:=∀l cs,h.box l=some cs→h1.box l=some cs
theorem Zo.refl(h):Zo h h:=λ_ _ x=>x
theorem WC.fresh{e h}(hr:WC e h){l cs}(hl:h.box l=some cs):l.1<h.ep:=by
  obtain⟨Γ,μ,w,a,hI,_⟩:=hr
  exact hI.jH (.inl (by simp[hl]))
section
variable{P:Program}
theorem Tw{h h1}(hb:Zo h h1){c}{n:Nat}{l}(hr:Au h c n=some l):Au h1 c n=some l:=by
  cases c with
  |ptr k off=>
    simp only[Au] at hr⊢
    cases hk:h.box k with
    |none=>simp[hk] at hr
    |some cs=>rw[hb k cs hk];simpa [hk] using hr
  |rp cs=>exact hr
  |_=>cases hr
theorem Mw{α β:Type}{f g:α→Option β}:∀{l:List α},(∀x∈l,f x=g x)→l.mapM f=l.mapM g
  |[],_=>rfl
  |x::l,h=>by
    rw[List.mapM_cons,List.mapM_cons,h x (by simp),Mw (l:=l) (λy hy=>h y (by simp[hy]))]
def loadKind:Op→Bool
  | .load _ _=>true
  |_=>false
theorem Oh{op}{e e1:Env}{h h1}(ho:∀x∈op.operands,e1.ev x=e.ev x)(hb:loadKind op=true→Zo h h1){v}(hv:Zw P op e h=some v):Zw P op e1 h1=some v:=by
  cases op with
  |load t x=>
    have h1':=ho x (by simp[Op.operands])
    simp only[Zw] at hv⊢
    rw[h1']
    cases hl:ZV P t with
    |none=>simp[hl] at hv
    |some z=>
      obtain⟨ag,n⟩:=z
      simp only[hl] at hv⊢
      cases hx:e.ev x with
      |one c=>
        simp only[hx] at hv⊢
        cases hr:Au h c n with
        |none=>simp[hr] at hv
        |some l=>rw[Tw (hb rfl) hr];simpa [hr] using hv
      |_=>simp[hx] at hv
  |makeFunc fn first caps=>
    cases fn with
    |func f=>
      simp only[Zw] at hv⊢
      have hm:caps.toList.mapM (λx=>match e1.ev x with| .one (.ptr l 0)=>some (Cap.lab l)| .one (.rp cs)=>some (Cap.rp cs)|_=>none)=
          caps.toList.mapM (λx=>match e.ev x with| .one (.ptr l 0)=>some (Cap.lab l)| .one (.rp cs)=>some (Cap.rp cs)|_=>none):=
        Mw λx hx=>by rw[ho x (by simp[Op.operands];exact .inr (by simpa using hx))]
      cases hemp:first.isEmpty with
      |false=>simp[hemp] at hv
      |true=>
        simp only[hemp,if_true] at hv⊢
        exact(congrArg (λz:Option (List Cap)=>match z with|some l=>some (V.one (C.fn f l))|none=>none) hm).trans hv
    |_=>simp[Zw] at hv
  |call c=>
    simp only[Zw] at hv⊢
    have ha:∀x∈c.args.toList,e1.ev x=e.ev x:=λx hx=>ho x (by simp[Op.operands,Call.operands];exact .inr (by simpa using hx))
    split at hv
    · rename_i x y hc hl
      rw[hl] at ha
      simp only[ha x (by simp),ha y (by simp)]
      exact hv
    · rename_i x y hc hl
      rw[hl] at ha
      simp only[ha x (by simp),ha y (by simp)]
      exact hv
    ·cases hv
  |slice t x lo hi mx=>
    have hx:=ho x (by simp[Op.operands])
    have hb:∀y:Option Operand,(∀z,y=some z→z∈(Op.slice t x lo hi mx).operands)→UC e1 y=UC e y:=λy hy=>by
      cases y with
      |none=>rfl
      |some z=>simp only[UC,ho z (hy z rfl)]
    simp only[Zw,hx,hb lo (λz hz=>by simp[Op.operands,hz]),hb hi (λz hz=>by simp[Op.operands,hz]),hb mx (λz hz=>by simp[Op.operands,hz])] at hv⊢
    cases hi with
    |none=>cases lo<;>cases mx<;>exact hv
    |some y=>
      have hy:=ho y (by simp[Op.operands])
      cases lo<;>cases mx<;>first|exact hv|(simp only[hy] at hv⊢;exact hv)
  |_=>simp only[Op.operands] at ho;simp only[Zw] at hv⊢;simp_all
def Vy:Op→Bool
  | .move _=>true
  | .assign _=>true
  | .pick _ _ _=>true
  | .unOp _ _ _=>true
  | .fieldAddr _ _ _=>true
  | .field _ _ _=>true
  | .load _ _=>true
  | .indexAddr _ _ _=>true
  | .index _ _ _=>true
  | .extract _ _=>true
  | .slice _ _ _ _ _=>true
  | .makeFunc _ _ _=>true
  | .nilCheck _=>true
  | .convert _ _ _=>true
  | .binOp _ _ _ y _=>!isNilConst y
  | .call c=>match c.callee with
    | .builtin .len=>true
    | .builtin .max=>true
    | .builtin .min=>true
    |_=>false
  |_=>false
def storeKind:Op→Bool
  | .store _ _ _=>true
  | .call c=>match c.callee with
    | .builtin .append=>true
    | .builtin .copy=>true
    | .builtin .clear=>true
    |_=>false
  |_=>false
def KJ(P:Program)(o:Oper)(e:Env)(h:HS)(v:V):Prop:=
  ∀e1 h1 K,(∀x∈o.op.operands,e1.ev x=e.ev x)→(loadKind o.op=true→Zo h h1)→K (e1.put o.dst v) h1→Z9 P o e1 h1 K
theorem F6{e h d v}(hr:WC e h)(hd:∀k,d=some k→k<e.n)(hv:∀Γ μ w a,Inv Γ h μ w→Zu μ e a→∃u,ZS μ v u):WC (e.put d v) h:=by
  obtain⟨Γ,μ,w,a,hI,hE⟩:=hr
  obtain⟨u,hu⟩:=hv Γ μ w a hI hE
  exact⟨Γ,μ,w,_,hI,hE.put hd hu⟩
theorem Dq{o e}(hd:ZZ o e):∀k,o.dst=some k→k<e.n:=λk hk=>by
  unfold ZZ at hd;rw[hk] at hd;exact hd
theorem Z5a{o e h}{K:Env→HS→Prop}{v:V}(hr:WC e h)(hd:ZZ o e)(hv:Zw P o.op e h=some v)(hK:K (e.put o.dst v) h)
    (hvc:∀e1 h1 (K1:Env→HS→Prop),Zw P o.op e1 h1=some v→K1 (e1.put o.dst v) h1→Z9 P o e1 h1 K1):
    ∃v,K (e.put o.dst v) h∧WC (e.put o.dst v) h∧KJ P o e h v:=
  ⟨v,hK,F6 hr (Dq hd) (λΓ μ w a hI hE=>by obtain⟨u,_,hu⟩:=JA hI hE hv;exact⟨u,hu⟩),
    λe1 h1 K1 ho hb hk=>hvc e1 h1 K1 (Oh ho hb hv) hk⟩
theorem Z1c{e h}(hr:WC e h){x c xs}(hx:e.ev x= .one c)(hc:c.qE=some xs):xs.length≤Zs:=by
  obtain⟨Γ,μ,w,a,_,hE⟩:=hr
  have hv:=ZH hE x
  rw[hx] at hv
  cases c with
  |d y=>
    cases y with
    |sl ys=>
      simp[C.qE] at hc
      subst hc
      have hv':=hv
      generalize a.eval x=u at hv'
      cases hv' with
      |sl _ _ _ _ _ _ _ hl=>exact hl
    |_=>simp[C.qE] at hc
  |own l ys=>
    simp[C.qE] at hc
    subst hc
    have hv':=hv.1
    generalize a.eval x=u at hv'
    cases hv' with
    |sl _ _ _ _ _ _ _ hl=>exact hl
  |nil=>simp[C.qE] at hc;subst hc;simp
  |z=>simp[C.qE] at hc;subst hc;simp
  |_=>simp[C.qE] at hc
theorem Z2s{o}{e:Env}{h K}(hp:Vy o.op=true)(hr:WC e h)(hd:ZZ o e)(hv:Z9 P o e h K):
    ∃v,K (e.put o.dst v) h∧WC (e.put o.dst v) h∧KJ P o e h v:=by
  have eff_case:(∀(e:Env) (h:HS) (K:Env→HS→Prop),Z9 P o e h K→∃v,Zw P o.op e h=some v∧K (e.put o.dst v) h)→
      (∀(e:Env) (h:HS) (K:Env→HS→Prop) v,Zw P o.op e h=some v→K (e.put o.dst v) h→Z9 P o e h K)→∃v,K (e.put o.dst v) h∧WC (e.put o.dst v) h∧KJ P o e h v:=λh1 h2=>by
    obtain⟨v,hve,hk⟩:=h1 _ _ _ hv
    exact Z5a hr hd hve hk (λe1 h1 K1 h3 h4=>h2 _ _ _ _ h3 h4)
  cases ho:o.op with
  |binOp op t x y t'=>
    have hnil:isNilConst y=false:=by rw[ho] at hp;simpa [Vy] using hp
    simp only[Z9,ho,hnil,YH,if_false] at hv
    split at hv
    · rename_i cs cs' hx hy
      split at hv
      · rename_i a b ha hb
        refine⟨_,hv.2,F6 hr (Dq hd) (λΓ μ w a _ _=>⟨_,RepD.bool _⟩),λe1 h1 K1 h2 h3 h4=>?_⟩
        rw[ho] at h2
        simp only[Z9,ho,hnil,YH,if_false,h2 x (by simp[Op.operands]), h2 y (by simp [Op.operands]), hx, hy, ha, hb]
        exact ⟨hv.1, h4⟩
      · exact hv.elim
    · rename_i hn
      split at hv
      · rename_i r hrr
        have he : Zw P o.op e h = some r := by rw [ho]; exact hrr
        refine ⟨r, hv, F6 hr (Dq hd) (λΓ μ w a hI hE => by obtain ⟨u, _, hu⟩ := JA hI hE he; exact ⟨u, hu⟩), λe1 h1 K1 h2 h3 h4 => ?_⟩
        rw [ho] at h2
        simp only [Z9, ho, hnil, YH, if_false, h2 x (by simp [Op.operands]), h2 y (by simp [Op.operands])]
        generalize e.ev x = X at *
        generalize e.ev y = Y at *
        cases X with
        | agg cs => cases Y with
          | agg cs' => exact (hn cs cs' rfl rfl).elim
          | _ => simp only [hrr]; exact h4
        | _ => simp only [hrr]; exact h4
      · exact hv.elim
  | call c =>
    rw [ho] at hp
    cases hc : c.callee with
    | value f => simp [Vy, hc] at hp
    | invoke r m => simp [Vy, hc] at hp
    | builtin b =>
      cases b with
      | len =>
        simp only [Z9, ho, hc] at hv
        split at hv
        · rename_i x t hx ht
          obtain ⟨y, hy, hey⟩ := Hm hx
          have key : ∃ n : Nat, K (e.put o.dst (Wk .i64 n)) h ∧ ∀ e1 h1 K1, K1 (e1.put o.dst (Wk .i64 n)) h1 → AU P t x o e1 h1 K1 := by
            unfold AU at hv ⊢
            cases hl : Wy P t with
            | none => simp [hl] at hv
            | some s =>
              cases s with
              | true =>
                simp only [hl] at hv ⊢
                split at hv
                · exact ⟨_, hv, λe1 h1 K1 hk => hk⟩
                · exact hv.elim
              | false =>
                simp only [hl] at hv ⊢
                split at hv
                · exact ⟨_, hv, λe1 h1 K1 hk => hk⟩
                · split at hv
                  · rename_i xs hxs
                    refine ⟨xs.length, hv (Z1c hr hey hxs), λe1 h1 K1 hk => ?_⟩
                    exact λ_ => hk
                  · exact hv.elim
          obtain ⟨n, hk, hall⟩ := key
          refine ⟨_, hk, F6 hr (Dq hd) (λΓ μ w a _ _ => ⟨_, RepD.int _ _⟩), λe1 h1 K1 h2 h3 h4 => ?_⟩
          rw [ho] at h2
          have h2' : e1.ev y = e.ev y := h2 y (by simp [Op.operands, Call.operands, hc]; have : y ∈ c.args.toList := by rw [hy]; simp
                                                  simpa using this)
          simp only [Z9, ho, hc, hy, ht, Yb, Yd, h2', hey]
          exact hall e1 h1 K1 h4
        · exact hv.elim
      | max => exact eff_case (λe h K hv => by
        simp only [Z9, ho, hc] at hv ⊢
        split at hv
        · exact ⟨_, by assumption, hv⟩
        · exact hv.elim) (λe h K v h1 h2 => by
        rw [ho] at h1
        simp only [Z9, ho, hc, h1]
        exact h2)
      | min => exact eff_case (λe h K hv => by
        simp only [Z9, ho, hc] at hv ⊢
        split at hv
        · exact ⟨_, by assumption, hv⟩
        · exact hv.elim) (λe h K v h1 h2 => by
        rw [ho] at h1
        simp only [Z9, ho, hc, h1]
        exact h2)
      | _ => simp [Vy, hc] at hp
  | move x => exact eff_case (λe h K hv => by
        simp only [Z9, ho] at hv ⊢
        split at hv
        · exact ⟨_, by assumption, hv⟩
        · exact hv.elim) (λe h K v h1 h2 => by
        rw [ho] at h1
        simp only [Z9, ho, h1]
        exact h2)
  | assign x => exact eff_case (λe h K hv => by
        simp only [Z9, ho] at hv ⊢
        split at hv
        · exact ⟨_, by assumption, hv⟩
        · exact hv.elim) (λe h K v h1 h2 => by
        rw [ho] at h1
        simp only [Z9, ho, h1]
        exact h2)
  | pick x y z => exact eff_case (λe h K hv => by
        simp only [Z9, ho] at hv ⊢
        split at hv
        · exact ⟨_, by assumption, hv⟩
        · exact hv.elim) (λe h K v h1 h2 => by
        rw [ho] at h1
        simp only [Z9, ho, h1]
        exact h2)
  | unOp op t x => exact eff_case (λe h K hv => by
        simp only [Z9, ho] at hv ⊢
        split at hv
        · exact ⟨_, by assumption, hv⟩
        · exact hv.elim) (λe h K v h1 h2 => by
        rw [ho] at h1
        simp only [Z9, ho, h1]
        exact h2)
  | fieldAddr t x f => exact eff_case (λe h K hv => by
        simp only [Z9, ho] at hv ⊢
        split at hv
        · exact ⟨_, by assumption, hv⟩
        · exact hv.elim) (λe h K v h1 h2 => by
        rw [ho] at h1
        simp only [Z9, ho, h1]
        exact h2)
  | field t x f => exact eff_case (λe h K hv => by
        simp only [Z9, ho] at hv ⊢
        split at hv
        · exact ⟨_, by assumption, hv⟩
        · exact hv.elim) (λe h K v h1 h2 => by
        rw [ho] at h1
        simp only [Z9, ho, h1]
        exact h2)
  | load t x => exact eff_case (λe h K hv => by
        simp only [Z9, ho] at hv ⊢
        split at hv
        · exact ⟨_, by assumption, hv⟩
        · exact hv.elim) (λe h K v h1 h2 => by
        rw [ho] at h1
        simp only [Z9, ho, h1]
        exact h2)
  | indexAddr t x y => exact eff_case (λe h K hv => by
        simp only [Z9, ho] at hv ⊢
        split at hv
        · exact ⟨_, by assumption, hv⟩
        · exact hv.elim) (λe h K v h1 h2 => by
        rw [ho] at h1
        simp only [Z9, ho, h1]
        exact h2)
  | index t x y => exact eff_case (λe h K hv => by
        simp only [Z9, ho] at hv ⊢
        split at hv
        · exact ⟨_, by assumption, hv⟩
        · exact hv.elim) (λe h K v h1 h2 => by
        rw [ho] at h1
        simp only [Z9, ho, h1]
        exact h2)
  | slice t x lo hi mx =>
    exact eff_case (λe h K hv => by
        simp only [Z9, ho] at hv ⊢
        split at hv
        · exact ⟨_, by assumption, hv⟩
        · exact hv.elim) (λe h K v h1 h2 => by
        rw [ho] at h1
        simp only [Z9, ho, h1]
        exact h2)
  | extract x i => exact eff_case (λe h K hv => by
        simp only [Z9, ho] at hv ⊢
        split at hv
        · exact ⟨_, by assumption, hv⟩
        · exact hv.elim) (λe h K v h1 h2 => by
        rw [ho] at h1
        simp only [Z9, ho, h1]
        exact h2)
  | makeFunc f x y => exact eff_case (λe h K hv => by
        simp only [Z9, ho] at hv ⊢
        split at hv
        · exact ⟨_, by assumption, hv⟩
        · exact hv.elim) (λe h K v h1 h2 => by
        rw [ho] at h1
        simp only [Z9, ho, h1]
        exact h2)
  | nilCheck x => exact eff_case (λe h K hv => by
        simp only [Z9, ho] at hv ⊢
        split at hv
        · exact ⟨_, by assumption, hv⟩
        · exact hv.elim) (λe h K v h1 h2 => by
        rw [ho] at h1
        simp only [Z9, ho, h1]
        exact h2)
  | convert s t x => exact eff_case (λe h K hv => by
        simp only [Z9, ho] at hv ⊢
        split at hv
        · exact ⟨_, by assumption, hv⟩
        · exact hv.elim) (λe h K v h1 h2 => by
        rw [ho] at h1
        simp only [Z9, ho, h1]
        exact h2)
  | _ => rw [ho] at hp; simp [Vy] at hp
end
end Go.Am
end
