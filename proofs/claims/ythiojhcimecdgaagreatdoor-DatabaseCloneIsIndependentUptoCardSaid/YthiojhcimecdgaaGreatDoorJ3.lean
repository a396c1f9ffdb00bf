/- joined by a program out of 40 texts -/
import Derived.Test.YthiojhcimecdgaaGreatDoorJ2
import Derived.Lib.Overlaps
import Derived.WalkKit
import Derived.LoopTactic
import Derived.Lib.ConvBytes
import Derived.Lib.Hide
set_option linter.unusedVariables false
set_option linter.unusedSimpArgs false
set_option maxRecDepth 20000
section
namespace Go.Am
open Go
inductive Sh where
 | d
 | r (es:List Sh)
inductive Ow (h:HS):List Sh→List C→List D→List Lab→Prop where
 | nil:Ow h [] [] [] []
 | data {c:C} {x:D} {ss:List Sh} {cs:List C} {ds:List D} {ls:List Lab} (hx:c.toD=some x) (hr:Ow h ss cs ds ls):Ow h (.d::ss) (c::cs) (x::ds) ls
 | emp {es:List Sh} {c:C} {ss:List Sh} {cs:List C} {ds:List D} {ls:List Lab} (hx:c.toD=some (.sl [])) (hr:Ow h ss cs ds ls):Ow h (.r es::ss) (c::cs) (.sl []::ds) ls
 | row {es:List Sh} {c:C} {qs:List (List C × List D × List Lab)} {ss:List Sh} {cs:List C} {ds:List D} {ls:List Lab} (hm:MR h es.length c (qs.map (·.1))) (hq:∀ q ∈ qs,Ow h es q.1 q.2.1 q.2.2)
   (hr:Ow h ss cs ds ls):Ow h (.r es::ss) (c::cs) (.sl (qs.map (·.2.1))::ds) (labs c++qs.flatMap (·.2.2)++ls)
theorem Ow.len {h:HS} {ss:List Sh} {cs:List C} {ds:List D} {ls:List Lab} (o:Ow h ss cs ds ls):cs.length=ss.length∧ds.length=ss.length:=by
 induction o with
 | nil=>simp
 | data hx hr ih=>simp[ih]
 | emp hx hr ih=>simp[ih]
 | row hm hq hr ihq ih=>simp[ih]
theorem Ow.frame {h h':HS} {ss:List Sh} {cs:List C} {ds:List D} {ls:List Lab} (o:Ow h ss cs ds ls) (hb:∀ l ∈ ls,h'.box l=h.box l):Ow h' ss cs ds ls:=by
 induction o with
 | nil=>exact .nil
 | data hx hr ih=>exact .data hx (ih hb)
 | emp hx hr ih=>exact .emp hx (ih hb)
 | @row es c qs ss cs ds ls hm hq hr ihq ih=>
   refine .row (hm.frame fun l hl=>hb l (by simp[hl])) (fun q hqm=>ihq q hqm fun l hl=>hb l ?_) (ih fun l hl=>hb l (by simp[hl]))
   simp only[List.mem_append,List.mem_flatMap]
   exact .inl (.inr ⟨q,hqm,hl⟩)
theorem Ow.frz {h:HS} {ss:List Sh} {cs:List C} {ds:List D} {ls:List Lab} (o:Ow h ss cs ds ls):FrzCs h cs ds:=by
 induction o with
 | nil=>trivial
 | data hx hr ih=>exact⟨.data hx,ih⟩
 | emp hx hr ih=>exact⟨.data hx,ih⟩
 | @row es c qs ss cs ds ls hm hq hr ihq ih=>
   refine⟨hm.frz (by simp) (fun t ht=>?_) (fun i x t hx ht=>?_),ih⟩
   ·obtain⟨q,hqm,rfl⟩:=List.mem_map.1 ht
    exact (hq q hqm).len.2
   ·rw[List.getElem?_map] at hx ht
    cases hqi:qs[i]? with
    | none=>rw[hqi] at hx;simp at hx
    | some q=>
      rw[hqi] at hx ht
      simp only[Option.map_some,Option.some.injEq] at hx ht
      subst hx ht
      exact ihq q (List.mem_of_getElem? hqi)
theorem Ow.inv_nil {h:HS} {cs:List C} {ds:List D} {ls:List Lab} (o:Ow h [] cs ds ls):cs=[]∧ds=[]∧ls=[]:=by
 cases o;exact⟨rfl,rfl,rfl⟩
theorem Ow.inv_d {h:HS} {ss:List Sh} {cs:List C} {ds:List D} {ls:List Lab} (o:Ow h (.d::ss) cs ds ls):∃ c x cs' ds',cs=c::cs'∧ds=x::ds'∧c.toD=some x∧Ow h ss cs' ds' ls:=by
 cases o with
 | data hx hr=>exact⟨_,_,_,_,rfl,rfl,hx,hr⟩
theorem Ow.inv_r {h:HS} {es ss:List Sh} {cs:List C} {ds:List D} {ls:List Lab} (o:Ow h (.r es::ss) cs ds ls):(∃ (c:C) (cs':List C) (ds':List D),cs=c::cs'∧ds=.sl []::ds'∧c.toD=some (.sl [])∧Ow h ss cs' ds' ls) ∨
  ∃ (c:C) (qs:List (List C × List D × List Lab)) (cs':List C) (ds':List D) (ls':List Lab),cs=c::cs'∧ds=.sl (qs.map (·.2.1))::ds'∧ls=labs c++qs.flatMap (·.2.2)++ls' ∧
  MR h es.length c (qs.map (·.1))∧(∀ q ∈ qs,Ow h es q.1 q.2.1 q.2.2)∧Ow h ss cs' ds' ls':=by
 cases o with
 | emp hx hr=>exact .inl ⟨_,_,_,rfl,rfl,hx,hr⟩
 | row hm hq hr=>exact .inr ⟨_,_,_,_,_,rfl,rfl,rfl,hm,hq,hr⟩
def OwB (h:HS) (l:Lab) (ss:List Sh) (ds:List D) (ls:List Lab):Prop:=∃ cs,h.box l=some cs∧Ow h ss cs ds ls∧(l::ls).Nodup∧∀ k ∈ l::ls,k.1 < h.ep
theorem OwB.frame {h h':HS} {l:Lab} {ss:List Sh} {ds:List D} {ls lx:List Lab} (o:OwB h l ss ds ls) (hs:Same h h' lx) (hd:∀ k ∈ l::ls,k ∉ lx):OwB h' l ss ds ls:=by
 obtain⟨cs,hb,ho,hn,hl⟩:=o
 have hk:∀ k ∈ l::ls,h'.box k=h.box k:=fun k hk=>hs.2 k (hl k hk) (hd k hk)
 exact⟨cs,by rw[hk l (by simp)];exact hb,ho.frame fun k hk'=>hk k (by simp[hk']),hn,fun k hk'=>Nat.lt_of_lt_of_le (hl k hk') hs.1⟩
theorem Same.mono {h h':HS} {ls ls':List Lab} (s:Same h h' ls) (hl:∀ k ∈ ls,k ∈ ls'):Same h h' ls':=⟨s.1,fun k hk hn=>s.2 k hk fun hm=>hn (hl k hm)⟩
theorem Same.drop {h h':HS} {ls ls':List Lab} (s:Same h h' ls) (hl:∀ k ∈ ls,k ∈ ls'∨h.ep≤k.1):Same h h' ls':=⟨s.1,fun k hk hn=>s.2 k hk fun hm=>(hl k hm).elim hn fun he=>absurd hk (by omega)⟩
theorem Same.trans' {h h1 h2:HS} {ls ls1:List Lab} (a:Same h h1 ls) (b:Same h1 h2 ls1) (hl:∀ k ∈ ls1,k ∈ ls∨h.ep≤k.1):Same h h2 ls:=
 ⟨Nat.le_trans a.1 b.1,fun k hk hn=>(b.2 k (by have:=a.1;omega) fun hm=>(hl k hm).elim hn fun he=>absurd hk (by omega)).trans (a.2 k hk hn)⟩
theorem Ow.datas {h:HS}:∀ {ds:List D},Ow h (ds.map fun _=>Sh.d) (ds.map C.d) ds []
 | []=>.nil
 | _::_=>.data rfl Ow.datas
def Good (h:HS):Prop:=∀ l cs,h.box l=some cs→l.1 < h.ep
theorem HSpec.good {P:Program} {h:HS} {f:FuncId} {fn:Func} {c:Code} {vs:List V} {K:V→HS→Prop} (hf:P.funcs[f]?=some fn) (hb:fn.body=some c) (hnm:(fn.name == "runtime.NumGoroutine")=false) (hg:Good h→HSpec P f vs h K):HSpec P f vs h K:=
 ⟨⟨fn,hf,hnm,by rw[hb];rfl⟩,fun Γ μ w vals hI hR=>(hg fun l cs hl=>by
  obtain⟨b,n,T,conc,h1,_⟩:=hI.box l cs hl
  exact hI.lt l (by rw[h1];simp)).2 Γ μ w vals hI hR⟩
theorem Same.boxLe {h h':HS} (s:Same h h' []) (g:Good h):BoxLe h h':=fun l cs hl=>by rw[s.2 l (g l cs hl) (by simp),hl]
theorem takeN_add {a b:Nat} {xs u v:List C} (h1:takeN a xs=some u) (h2:takeN b (xs.drop a)=some v):takeN (a+b) xs=some (u++v):=by
 unfold takeN at *
 split at h1
 ·split at h2
  ·rename_i h3 h4
   simp only[List.length_drop] at h4
   rw[if_pos (by omega),List.take_add]
   simp only[Option.some.injEq] at h1 h2
   rw[h1,h2]
  ·cases h2
 ·cases h1
theorem takeN_of {cs l:List C} (h:∀ i,i < l.length→cs[i]?=l[i]?):takeN l.length cs=some l:=by
 have hl:l.length≤cs.length:=by
  by_cases h0:l.length=0
  ·omega
  ·have:=h (l.length - 1) (by omega)
   rw[List.getElem?_eq_getElem (show l.length - 1 < l.length by omega)] at this
   have:=(List.getElem?_eq_some_iff.1 this).1
   omega
 unfold takeN
 rw[if_pos hl]
 congr 1
 refine List.ext_getElem? fun i=>?_
 by_cases hi:i < l.length
 ·rw[List.getElem?_take_of_lt hi,h i hi]
 ·rw[List.getElem?_eq_none (by simp;omega),List.getElem?_eq_none (by omega)]
theorem cells_flat {n:Nat} {cs:List C}:∀ {ts:List (List D)} {off:Nat},(∀ t ∈ ts,t.length=n)→(∀ (i:Nat) x,ts[i]?=some x→∀ (j:Nat) d,x[j]?=some d→cs[off+(i * n+j)]?=some (.d d)) →
  takeN (ts.length * n) (cs.drop off)=some (ts.map (·.map C.d)).flatten∨(ts.length * n=0∧ts.flatten=[])
 | [],off,_,_=>.inr (by simp)
 | t::ts,off,ht,hc=>by
   have h0:=ht t (by simp)
   refine .inl ?_
   have h1:takeN n (cs.drop off)=some (t.map C.d):=by
    have:=takeN_of (cs:=cs.drop off) (l:=t.map C.d) (fun i hi=>by
     simp only[List.length_map] at hi
     have:=hc 0 t (by simp) i t[i] (List.getElem?_eq_getElem hi)
     rw[List.getElem?_drop,List.getElem?_map,List.getElem?_eq_getElem hi]
     simpa using this)
    rw[List.length_map,h0] at this
    exact this
   have ih:=cells_flat (cs:=cs) (ts:=ts) (off:=off+n) (fun x hx=>ht x (by simp[hx])) (fun i x hx j d hd=>by
    have:=hc (i+1) x (by simpa using hx) j d hd
    rw[show off+n+(i * n+j)=off+((i+1) * n+j) by rw[Nat.add_mul];omega]
    exact this)
   have h2:takeN (ts.length * n) ((cs.drop off).drop n)=some (ts.map (·.map C.d)).flatten:=by
    rw[List.drop_drop]
    rcases ih with h | ⟨h,h'⟩
    ·exact h
    ·rw[h]
     have:(ts.map (·.map C.d)).flatten=[]:=by rw[← List.map_flatten,h'];rfl
     rw[this]
     simp[takeN]
   have:=takeN_add h1 h2
   rw[show (t::ts).length * n=n+ts.length * n by simp[Nat.add_mul];omega]
   simpa using this
theorem Frz.flat {h:HS} {c:C} {x:D} (f:Frz h c x) (hx:x.flat=true):c=.d x:=by
 cases f with
 | data h1=>
   cases c<;>simp[C.toD] at h1
   ·rw[h1]
   all_goals (subst h1;simp[D.flat] at hx)
 | mrow=>simp[D.flat] at hx
theorem Frz.rowAt {h:HS} {c:C} {ts:List (List D)} {n:Nat} (f:Frz h c (.sl ts)) (ht:∀ t ∈ ts,t.length=n∧∀ d ∈ t,d.flat=true) (hl:ts.length≤LIM):RowAt h n c (ts.map (·.map C.d)):=by
 have hall:AllC n (ts.map (·.map C.d)):=by
  intro x hx
  obtain⟨t,h1,rfl⟩:=List.mem_map.1 hx
  simpa using (ht t h1).1
 have key:∀ c,c.list?=some ts→RowAt h n c (ts.map (·.map C.d)):=by
  intro c hc
  have h1:∀ x ∈ ts,x.length=n:=fun x hx=>(ht x hx).1
  have h2:ts.flatten.map C.d=(ts.map (·.map C.d)).flatten:=List.map_flatten
  cases c<;>simp[C.list?] at hc
  all_goals exact⟨by simp only[rowCells,C.list?,hc];first | (rw[if_pos h1,h2]) | (subst hc;simp),by simp[cLen,C.list?,hc],hall,by simpa using hl⟩
 cases f with
 | data h1=>
   refine key c ?_
   cases c<;>simp[C.toD] at h1
   ·subst h1;rfl
   ·subst h1;rfl
   ·subst h1;rfl
   ·subst h1;rfl
 | @mrow l off cap es xs cs g hb hl hes hc hf=>
   refine⟨?_,by simp[cLen],hall,by simpa using hl⟩
   simp only[rowCells,hb]
   have h1:∀ t ∈ ts,t.length=n:=fun t h=>(ht t h).1
   have:=cells_flat (n:=n) (cs:=cs) (ts:=ts) (off:=off) h1 (fun i x hx j d hd=>by
    have hxm:=List.mem_of_getElem? hx
    have e:es=n:=(hes x hxm).symm.trans (h1 x hxm)
    have h3:=hc i x hx j d hd
    rw[e] at h3
    rw[h3,(hf i x hx j d hd).flat ((ht x hxm).2 d (List.mem_of_getElem? hd))])
   rcases this with h | ⟨h,h'⟩
   ·exact h
   ·rw[h]
    have:(ts.map (·.map C.d)).flatten=[]:=by rw[← List.map_flatten,h'];rfl
    rw[this]
    simp[takeN]
end Go.Am
end
section
namespace Go.Am
open Go
theorem AllC.app {n:Nat} {xs ys:List (List C)} (h1:AllC n xs) (h2:AllC n ys):AllC n (xs++ys):=AllC.append.2 ⟨h1,h2⟩
theorem app_mr {P:Program} {ty el:TypeId} {n by_ d:Nat} {h:HS} {c x:C} {xs ys:List (List C)} {K:V→HS→Prop} (hel:elT P ty=some (el,n,by_)) (hz:(zeT P el).isSome=true) (h0:0 < n) (hb:by_≤4096) (hm:MR h n c xs) (hr:RowAt h n x ys) (hl:xs.length+ys.length≤LIM)
  (hk:∀ c' h',MR h' n c' (xs++ys)→Same h h' (labs c)→(∀ k ∈ labs c',k ∈ labs c∨(h.ep≤k.1∧k.1 < h'.ep))→K (.one c') h'):appK P ty c x d h (K:=⟨K⟩):=by
 obtain⟨hc,hln,ha,_⟩:=hr
 have hal:=hm.1
 have key:∀ cap',(xs++ys).length≤cap'→∀ h',h'.box (h.ep,16 * d)=some (rowBox (xs++ys) (List.replicate ((cap' - (xs++ys).length) * n) .any))→MR h' n (.mrow (h.ep,16 * d) 0 (xs++ys).length cap') (xs++ys):=fun cap' hcap h' hbx=>by
  refine⟨hal.app ha,by simpa using hl,.inr ⟨_,cap',_,rfl,hbx,?_⟩⟩
  rw[rowBox_length (hal.app ha),List.length_replicate,← Nat.add_mul]
  congr 1
  omega
 rcases hm.2.2 with ⟨rfl,hcz⟩ | ⟨l,cap,sp,rfl,hbx,hcap⟩
 ·have hh:appHdr h n c=some (0,0,[],none):=by rcases hcz with rfl | rfl<;>rfl
  refine appK_row hel hh hc hln hz h0 hb (by simpa using hl) ha.flatten (by simp) (fun h1=>?_) (fun h1 h2=>by omega) (fun h1 h2 cap' hcap=>?_)
  ·have:ys=[]:=List.eq_nil_of_length_eq_zero h1
   subst this
   exact hk _ _ (by simpa using hm) .refl (fun k hk=>.inl hk)
  ·simp only[Nat.zero_add] at hcap ⊢
   refine hk _ _ (key cap' (by simpa using hcap) _ ?_) ((Same.refl.setBox (.inr (Nat.le_refl _))).next) (by simp[labs])
   simp[rowBox]
 ·have hrc:=row_cells (n:=n) (off:=0) (k:=xs.length) (cap:=cap) hal hbx (by simp)
  have hh:appHdr h n (.mrow l 0 xs.length cap)=some (xs.length,cap,xs.flatten,some (l,0)):=by
   simp only[Nat.zero_mul,List.drop_zero,List.take_length] at hrc
   show (match rowCells h n (.mrow l 0 xs.length cap) with | some cs=>_ | none=>_)=_
   rw[hrc]
  refine appK_row hel hh hc hln hz h0 hb hl ha.flatten hal.flatten (fun h1=>?_) (fun h1 h2 l' off he=>?_) (fun h1 h2 cap' hcap'=>?_)
  ·have:ys=[]:=List.eq_nil_of_length_eq_zero h1
   subst this
   exact hk _ _ (by simpa using hm) .refl (fun k hk=>.inl hk)
  ·simp only[Option.some.injEq,Prod.mk.injEq] at he
   obtain⟨rfl,rfl⟩:=he
   have hle:(xs.length+ys.length) * n≤cap * n:=Nat.mul_le_mul_right n h2
   refine⟨_,hbx,by rw[hcap];omega,?_⟩
   have hput:=row_put (sp:=sp) (i:=xs.length) hal ha (Nat.le_refl _)
   rw[List.take_length] at hput
   rw[Nat.zero_add,hput]
   refine hk _ _ ⟨hal.app ha,by simpa using hl,.inr ⟨l,cap,(rowBox xs sp).drop ((xs.length+ys.length) * n),by simp,by simp,?_⟩⟩ (Same.refl.setBox (.inl (by simp[labs]))) (fun k hk=>.inl hk)
   rw[rowBox_length (hal.app ha),List.length_drop,hcap,List.length_append]
   omega
  ·have hk2:=key cap' (by simpa using hcap') (((h.setBox (h.ep,16 * d) (xs.flatten++ys.flatten++List.replicate ((cap' - (xs.length+ys.length)) * n) .any)).next)) (by simp[rowBox])
   rw[List.length_append] at hk2
   refine hk _ _ hk2 ((Same.refl.setBox (.inr (Nat.le_refl _))).next) (by simp[labs])
end Go.Am
namespace Go.Proofs.YthiojhcimecdgaaGreatDoor
open Go Go.Am
end Go.Proofs.YthiojhcimecdgaaGreatDoor
end
section
namespace Go.Proofs.YthiojhcimecdgaaGreatDoor
open Go Go.Am
theorem concat_sz {α:Type} {xss:List (List α)} {i:Nat} {x:List α} (h:xss[i]?=some x):(xss.take (i+1)).flatten=(xss.take i).flatten++x:=by
 obtain⟨h1,h2⟩:=List.getElem?_eq_some_iff.1 h
 rw[List.take_succ_eq_append_getElem h1,h2]
 simp
theorem frzCs_datas {h:HS} {ds:List D}:FrzCs h (ds.map C.d) ds:=by
 induction ds with
 | nil=>trivial
 | cons d ds ih=>exact⟨.data rfl,ih⟩
def catLen {α:Type} (xss:List (List α)) (i:Nat):Nat:=(xss.take i).flatten.length
theorem concat_le {α:Type} (xss:List (List α)) (i:Nat):(xss.take i).flatten.length≤xss.flatten.length:=by
 conv=>rhs;rw[← List.take_append_drop i xss]
 rw[List.flatten_append,List.length_append]
 omega
theorem catLen_succ {α:Type} {xss:List (List α)} {i:Nat} {x:List α} (h:xss[i]?=some x):catLen xss (i+1)=catLen xss i+x.length:=by
 unfold catLen
 rw[concat_sz h,List.length_append]
theorem catLen_le {α:Type} (xss:List (List α)) (i:Nat):catLen xss i≤xss.flatten.length:=concat_le xss i
theorem catLen_all {α:Type} (xss:List (List α)):catLen xss xss.length=xss.flatten.length:=by
 unfold catLen
 rw[List.take_length]
theorem catLen_zero {α:Type} (xss:List (List α)):catLen xss 0=0:=rfl
theorem h_slices_Grow_Instance (h:HS) (n:Nat) (hn:n≤2097152) (K:V→HS→Prop)
  (hk:∀ c' h',MR h' 1 c' []→Same h h' []→(∀ l ∈ labs c',h.ep≤l.1∧l.1 < h'.ep)→K (.one c') h') :
  HSpec Tryz.prog 38 [.one .nil,.one (.d (.int .i64 (n:Int)))] h K:=by
 refine HSpec.of_vc Tryz.func38 rfl (by kernel_rfl) (n:=27) rfl rfl (by simp) ?_
 simp
 have h0:¬ ((n:Int) < 0):=by omega
 have hw:IntKind.i64.wrap ((n:Int) - 0)=(n:Int):=by rw[Int.sub_zero];exact IntWalk.i64_in _ (by omega)
 have hw0:IntKind.i64.wrap 0=0:=IntWalk.i64_in _ (by omega)
 have hw1:IntKind.i64.wrap (n:Int)=(n:Int):=IntWalk.i64_in _ (by omega)
 try simp[h0]
 refine capK_nil ty_el22 ?_
 simp[hw,hw0,hw1]
 refine condV_dec (fun hp=>?_) (fun hp=>?_)
 ·simp[hw,hw0,hw1]
  refine capK_nil ty_el22 ?_
  simp[hw,hw0,hw1]
  refine zerosK_of ty_el22 (by decide) (kk:=.i64) rfl (by kernel_rfl) (by decide) (by decide) (by omega) (by show (n:Int)≤2097152;omega) (fun cap' hcap=>?_)
  have hc0:0 < cap':=by omega
  simp at hcap
  simp[hw0,hw1,hc0]
  refine hk _ _ ⟨AllC.nil,by simp,.inr ⟨(h.ep,352),cap',List.replicate (cap' * 1) .any,by simp,by simp[rowBox],by simp[rowBox]⟩⟩ ((Same.refl.setBox (.inr (Nat.le_refl _))).next) (by simp[labs])
 ·simp
  exact hk _ _ MR.nil .refl (by simp[labs])
theorem h_slices_Concat_Instance (h:HS) (c:C) (xss:List (List (List D))) (hc:c=.d (.sl (xss.map fun xs=>[.sl xs]))∨∃ lab,c=.own lab (xss.map fun xs=>[.sl xs])) (hall:∀ xs ∈ xss,∀ x ∈ xs,x.length=1) (hl:xss.flatten.length≤2097152) (K:V→HS→Prop)
  (hk:∀ c' h',MR h' 1 c' (xss.flatten.map (·.map C.d))→Same h h' []→(∀ l ∈ labs c',h.ep≤l.1∧l.1 < h'.ep)→K (.one c') h') :
  HSpec Tryz.prog 10 [.one c] h K:=by
 refine HSpec.of_vc Tryz.func10 rfl (by kernel_rfl) (n:=36) rfl rfl (by simp) ?_
 simp
 have hcl:c.list?=some (xss.map fun xs=>[.sl xs]):=by rcases hc with rfl | ⟨lab,rfl⟩<;>rfl
 refine lenK_of hcl (fun hX=>?_)
 simp only[List.length_map] at hX
 have hX':xss.length≤2097152:=hX
 simp
 refine Wait.rounds (fun n e h'=>∃ i,n=xss.length - i∧i≤xss.length∧h'=h∧e.n=36∧e.get 0=.one c∧e.get 9=.one c∧e.get 10=.one (.d (.int .i64 (xss.length:Int)))∧e.get 11=.one (.d (.int .i64 (i:Int)))∧e.get 3=.one (.d (.int .i64 (catLen xss i:Int)))) xss.length
  ⟨0,rfl,by omega,rfl,by simp,by simp,by simp,by simp,by simp,by simp[catLen_zero]⟩ ?_
 rintro n e h' ⟨i,rfl,hi,rfl,hn,h0,h9,h10,h11,h3⟩
 simp[h0,h9,h10,h11,h3,hn]
 refine condV_dec (fun hlt=>?_) (fun hge=>?_)
 ·have hw1:IntKind.i64.wrap ((i:Int)+1)=(i:Int)+1:=IntWalk.i64_in _ (by omega)
  obtain⟨x,hx⟩:∃ x,xss[i]?=some x:=⟨_,List.getElem?_eq_getElem hlt⟩
  have hs2:=catLen_le xss (i+1)
  have hs3:=catLen_succ hx
  have hw2:IntKind.i64.wrap ((catLen xss i:Int)+(x.length:Int))=(catLen xss (i+1):Int):=by rw[hs3,Int.natCast_add];exact IntWalk.i64_in _ (by omega)
  have hneg:¬ ((catLen xss (i+1):Int) < 0):=by omega
  have hi0:(0:Int)≤(i:Int):=by omega
  rcases hc with rfl | ⟨lab,rfl⟩
  all_goals
   simp[h0,h9,h10,h11,h3,hn,hx,hi0]
   intro hxl
   simp[h0,h9,h10,h11,h3,hn,hw1,hw2,hneg]
   exact Back.of (n':=xss.length - (i+1)) (by omega) ⟨i+1,rfl,by omega,rfl,by simp[hn],by simp[h0],by simp[h9],by simp[h10],by simp,by simp⟩
 ·obtain rfl:i=xss.length:=by omega
  have hl':catLen xss xss.length≤2097152:=by rw[catLen_all];exact hl
  simp[h0,h3,hn]
  refine callK_heap (h_slices_Grow_Instance h' (catLen xss xss.length) hl' _ (fun c1 h1 hm1 hs1 hl1=>?_))
  simp[h0,hn]
  refine lenK_of hcl (fun hX=>?_)
  simp[h0,hn]
  refine Wait.rounds (fun n e h2=>∃ (i:Nat) (c2:C),n=xss.length - i∧i≤xss.length∧MR h2 1 c2 ((xss.take i).flatten.map (·.map C.d))∧Same h' h2 []∧(∀ l ∈ labs c2,h'.ep≤l.1∧l.1 < h2.ep)∧e.n=36∧e.get 25=.one c∧e.get 26=.one (.d (.int .i64 (xss.length:Int)))∧e.get 27=.one (.d (.int .i64 (i:Int)))∧e.get 6=.one c2) xss.length ?_ ?_
  ·exact⟨0,c1,rfl,by omega,(hm1.frame (fun _ _=>rfl)),hs1,hl1,by simp[hn],by simp[h0,hn],by simp[hn],by simp[hn],by simp[hn]⟩
  clear h0 h9 h10 h11 h3 hn hi hge
  rintro n e h2 ⟨i,c2,rfl,hi,hm2,hs2,hl2,hn,h25,h26,h27,h6⟩
  simp[h25,h26,h27,h6,hn]
  refine condV_dec (fun hlt=>?_) (fun hge=>?_)
  ·have hw1:IntKind.i64.wrap ((i:Int)+1)=(i:Int)+1:=IntWalk.i64_in _ (by omega)
   obtain⟨x,hx⟩:∃ x,xss[i]?=some x:=⟨_,List.getElem?_eq_getElem hlt⟩
   have hsz1:=concat_sz hx
   have hsz2:=concat_le xss (i+1)
   have hsz3:(xss.take (i+1)).flatten.length=(xss.take i).flatten.length+x.length:=by rw[hsz1,List.length_append]
   have hi0:(0:Int)≤(i:Int):=by omega
   have hrd:RowAt h2 1 (.d (.sl x)) (x.map (·.map C.d)):=RowAt.data (hall x (List.mem_of_getElem? hx)) (by show x.length≤2097152;omega)
   rcases hc with rfl | ⟨lab,rfl⟩
   all_goals
    simp[h25,h26,h27,h6,hn,hx,hi0]
    refine app_mr ty_el22 (by kernel_rfl) (by decide) (by decide) hm2 hrd (by simp only[List.length_map];show _≤2097152;omega) (fun c3 h3 hm3 hs3 hl3=>?_)
    simp[h25,h26,h27,hn,hw1]
    refine Back.of (n':=xss.length - (i+1)) (by omega) ⟨i+1,c3,rfl,by omega,?_,hs2.trans' hs3 (fun k hk=>.inr (hl2 k hk).1),?_,by simp[hn],by simp[h25],by simp[h26],by simp,by simp⟩
    ·rw[hsz1,List.map_append];exact hm3
    ·intro k hk
     rcases hl3 k hk with h9 | h9
     ·have:=hl2 k h9
      have:=hs3.1
      omega
     ·have:=hs2.1
      omega
  ·obtain rfl:i=xss.length:=by omega
   rw[List.take_length] at hm2
   simp[h6,hn]
   exact hk _ _ hm2 hs2 hl2
def m_slices_Concat_Instance (s_:List (List (List Rel))):Option (List (List Rel)):=chkK (s_.flatten.length≤2097152) (some s_.flatten)
theorem c_slices_Concat_Instance (s_:List (List (List Rel))) (r:List (List Rel)) (hm:Is (m_slices_Concat_Instance s_) r):PSpec Tryz.prog 10 [.one (.d (.sl (s_.map (encL (encL Rel.enc)))))] (.one (.d (.sl (r.map (encL Rel.enc))))):=by
 obtain⟨hl,hm⟩:=hm.chk
 obtain rfl:=r_ret hm
 refine PSpec.of_heap ?_
 have hX:s_.map (encL (encL Rel.enc))=(s_.map (·.map (encL Rel.enc))).map fun xs=>[D.sl xs]:=by simp[encL]
 have hF:(s_.map (·.map (encL Rel.enc))).flatten=s_.flatten.map (encL Rel.enc):=by simp[List.map_flatten]
 refine h_slices_Concat_Instance HS.init _ (s_.map (·.map (encL Rel.enc))) (.inl (by rw[← hX])) (fun xs hxs x hx=>?_) (by rw[hF,List.length_map];exact hl) _ (fun c' h' hm' _ _=>?_)
 ·obtain⟨ys,_,rfl⟩:=List.mem_map.1 hxs
  obtain⟨y,_,rfl⟩:=List.mem_map.1 hx
  rfl
 ·rw[hF] at hm'
  exact hm'.frz (List.length_map _) (fun t ht=>by obtain⟨y,_,rfl⟩:=List.mem_map.1 ht;rfl) (fun i x t hx ht=>by
   rw[List.getElem?_map] at hx
   rw[ht] at hx
   simp only[Option.map_some,Option.some.injEq] at hx
   subst hx
   exact frzCs_datas)
theorem h_slices_Clone_Value (h:HS) (c:C) (xs:List (List C)) (hr:RowAt h 3 c xs) (K:V→HS→Prop)
  (hk:∀ c' h',MR h' 3 c' xs→Same h h' []→(∀ l ∈ labs c',h.ep≤l.1∧l.1 < h'.ep)→BoxLe h h'→K (.one c') h') :
  HSpec Tryz.prog 49 [.one c] h K:=by
 refine HSpec.good Tryz.func49 rfl (by kernel_rfl) fun hg=>?_
 refine HSpec.of_vc Tryz.func49 rfl (by kernel_rfl) (n:=8) rfl rfl (by simp) ?_
 simp
 refine nilK_rd ty_el44 hr (fun h1=>?_) ?_
 ·subst h1
  simp
  exact hk _ _ MR.nil .refl (by simp[labs]) (BoxLe.refl h)
 ·simp
  refine emptyK_z (by simp) ?_
  simp
  refine app_new ty_el44 (by kernel_rfl) (by decide) (by decide) hr (fun c' h' hm hs hl=>?_)
  simp
  exact hk _ _ hm hs hl (hs.boxLe hg)
theorem h_slices_Delete_Row (h:HS) (c:C) (xs:List (List C)) (i j:Nat) (hm:MR h 1 c xs) (hij:i≤j) (hj:j≤xs.length) (K:V→HS→Prop)
  (hk:∀ c' h',MR h' 1 c' (xs.take i++xs.drop j)→(∀ l,l ∉ labs c→h'.box l=h.box l)→h'.ep=h.ep→h'.arr=h.arr→labs c'=labs c→K (.one c') h') :
  HSpec Tryz.prog 125 [.one c,.one (.d (.int .i64 i)),.one (.d (.int .i64 j))] h K:=by
 obtain⟨hall,hlim,h1 | ⟨l,cap,sp,rfl,hb,hcap⟩⟩:=hm
 ·obtain⟨rfl,hc⟩:=h1
  obtain rfl:j=0:=by simpa using hj
  obtain rfl:i=0:=by omega
  rcases hc with rfl | rfl
  ·refine HSpec.of_vc Tryz.func125 rfl (by kernel_rfl) (n:=33) rfl rfl (by simp) ?_
   simp
   exact hk _ _ (by simpa using MR.nil) (fun _ _=>rfl) rfl rfl rfl
  ·refine HSpec.of_vc Tryz.func125 rfl (by kernel_rfl) (n:=33) rfl rfl (by simp) ?_
   simp
   exact hk _ _ (by simpa using MR.z) (fun _ _=>rfl) rfl rfl rfl
 ·have hlen:xs.length≤cap:=by
   have h1:=rowBox_length (sp:=sp) hall
   omega
  have hi:i≤xs.length:=by omega
  refine HSpec.of_vc Tryz.func125 rfl (by kernel_rfl) (n:=33) rfl rfl (by simp) ?_
  simp
  refine opt_slice ⟨⟨hij,hj⟩,hlen⟩ (fun _=>?_) (fun _=>?_)
  all_goals
   simp
   refine condV_of (fun he=>?_) (fun hne=>?_)
   ·simp
    have hij':i=j:=by simp at he;omega
    subst hij'
    refine hk _ _ ⟨?_,?_,.inr ⟨l,cap,sp,?_,?_,?_⟩⟩ (fun _ _=>rfl) rfl rfl rfl<;>simp[*]
   ·simp
    have hlt:i < j:=by
     have:(i:Int)≠j:=by simpa using hne
     omega
    have hjc:j≤cap:=by omega
    have hic:i≤cap:=by omega
    have hc0:0 < cap:=by omega
    refine Wait.of (SWP.draw (Plan.then_ [0,1,2,3,4,5,6,7] .done) follows (by kernel_rfl) ?_)
    simp[Plan.then_,vcPlan,planOps,isCallAt,callKind,hjc,hic,hlen,hj,hc0]
    have fin:∀ (sp1:List C) (h1:HS),(rowBox (xs.take i++xs.drop j) sp1).length=cap * 1→h1.box l=some (rowBox (xs.take i++xs.drop j) sp1)→(∀ k,k≠l→h1.box k=h.box k)→h1.ep=h.ep→h1.arr=h.arr →
      K (.one (.mrow l 0 (i+(xs.length - j)) cap)) h1:=fun sp1 h1 e1 e2 e3 e4 e5=>
     hk _ _ ⟨AllC.append.2 ⟨hall.take,hall.drop⟩,by simp at hlim ⊢;omega,.inr ⟨l,cap,sp1,by simp;omega,e2,e1⟩⟩ (fun k hkl=>e3 k (by simpa[labs] using hkl)) e4 e5 rfl
    have happ:appHdr h 1 (.mrow l 0 i cap)=some (i,cap,(xs.take i).flatten,some (l,0)):=by
     have:=row_cells (off:=0) (k:=i) (cap:=cap) hall hb (by omega)
     simp only[Nat.zero_mul,List.drop_zero] at this
     simp only[appHdr,this]
    have hmul:∀ a b:Nat,a≤b→a * 1≤b * 1:=fun a b h=>by omega
    have hxt:(xs.drop j).take (xs.length - j)=xs.drop j:=List.take_of_length_le (by simp)
    generalize hm:i+(xs.length - j)=m at *
    have hm2:m≤xs.length:=by omega
    have hm3:m < xs.length:=by omega
    have hm4:m < cap:=by omega
    have hyl:(xs.take i++xs.drop j).length=m:=by simp;omega
    have hya:AllC 1 (xs.take i++xs.drop j):=AllC.append.2 ⟨hall.take,hall.drop⟩
    have hzl:∀ k:Nat,(List.replicate k [C.nil]).flatten.length=k * 1:=fun k=>by simp[List.length_flatten]
    by_cases hjc2:j < cap
    ·simp[hjc2]
     refine appK_row ty_el40 happ (by have:=row_cells (off:=j) (k:=xs.length - j) (cap:=cap - j) hall hb (by omega);rw[hxt] at this;first | exact this | simpa using this) (m:=xs.length - j) rfl (by simp) (by decide) (by decide) (by simp at hlim ⊢;omega) ?_ ?_ (fun h0=>?_) (fun h0 hle=>?_) (fun h0 hgt=>?_)
     ·rw[hall.drop.flatten];simp
     ·rw[hall.take.flatten];simp;omega
     ·have hj2:xs.drop j=[]:=List.drop_eq_nil_of_le (by omega)
      obtain rfl:i=m:=by omega
      have hb2:∃ sp1,h.box l=some (rowBox (xs.take i++xs.drop j) sp1)∧(rowBox (xs.take i++xs.drop j) sp1).length=cap * 1:=by
       refine⟨(xs.drop i).flatten++sp,?_,?_⟩
       ·rw[hb,hj2];simp[rowBox,← List.append_assoc,← List.flatten_append]
       ·rw[← hcap,hj2];simp[rowBox,← List.append_assoc,← List.flatten_append]
      obtain⟨sp1,hb2,hl2⟩:=hb2
      simp[hjc2,hlen,hm2,hm3,hm4]
      refine clearK_row ty_el40 ty_ze44 hb2 (by decide) (by rw[hl2];omega) ?_
      simp
      have e2:∀ vs,setCells (rowBox (xs.take i++xs.drop j) sp1) (i * 1) vs=rowBox (xs.take i++xs.drop j) (setCells sp1 0 vs):=fun vs=>by have:=row_tail (sp:=sp1) (vs:=vs) hya;rw[hyl] at this;exact this
      try simp only[Nat.mul_one] at e2
      rw[e2]
      refine fin _ _ ?_ (by simp;rfl) (fun k hk=>by simp[hk]) (by simp) (by simp[HS.setBox])
      rw[rowBox_length hya,setCells_length (by rw[rowBox_length hya,hyl] at hl2;first | (rw[hzl];omega) | (simp only[List.length_replicate];omega)),← rowBox_length (sp:=sp1) hya,hl2]
     ·rintro l' off he'
      simp only[Option.some.injEq,Prod.mk.injEq] at he'
      obtain⟨rfl,rfl⟩:=he'
      refine⟨_,hb,by rw[hcap];omega,?_⟩
      rw[Nat.zero_add,row_put hall hall.drop hi,hm]
      have hl2:(rowBox (xs.take i++xs.drop j) (List.drop ((i+(xs.drop j).length) * 1) (rowBox xs sp))).length=cap * 1:=by
       rw[rowBox_length hya,hyl,List.length_drop,hcap,List.length_drop];omega
      generalize List.drop ((i+(xs.drop j).length) * 1) (rowBox xs sp)=sp1 at *
      simp[hjc2,hlen,hm2,hm3,hm4]
      refine clearK_row ty_el40 ty_ze44 (by simp;rfl) (by decide) (by rw[hl2];omega) ?_
      simp
      have e2:∀ vs,setCells (rowBox (xs.take i++xs.drop j) sp1) (m * 1) vs=rowBox (xs.take i++xs.drop j) (setCells sp1 0 vs):=fun vs=>by have:=row_tail (sp:=sp1) (vs:=vs) hya;rw[hyl] at this;exact this
      try simp only[Nat.mul_one] at e2
      rw[e2]
      refine fin _ _ ?_ (by simp;rfl) (fun k hk=>by simp[hk]) (by simp) (by simp[HS.setBox])
      rw[rowBox_length hya,setCells_length (by rw[rowBox_length hya,hyl] at hl2;first | (rw[hzl];omega) | (simp only[List.length_replicate];omega)),← rowBox_length (sp:=sp1) hya,hl2]
     ·omega
    ·simp[hjc2]
     have hj2:xs.drop j=[]:=List.drop_eq_nil_of_le (by omega)
     refine appK_row ty_el40 happ (new:=[]) (m:=0) (by simp[rowCells]) rfl (by simp) (by decide) (by decide) (by simp at hlim ⊢;omega) rfl ?_ (fun h0=>?_) (fun h0=>absurd h0 (by omega)) (fun h0=>absurd h0 (by omega))
     ·rw[hall.take.flatten];simp;omega
     ·obtain rfl:i=m:=by omega
      have hb2:∃ sp1,h.box l=some (rowBox (xs.take i++xs.drop j) sp1)∧(rowBox (xs.take i++xs.drop j) sp1).length=cap * 1:=by
       refine⟨(xs.drop i).flatten++sp,?_,?_⟩
       ·rw[hb,hj2];simp[rowBox,← List.append_assoc,← List.flatten_append]
       ·rw[← hcap,hj2];simp[rowBox,← List.append_assoc,← List.flatten_append]
      obtain⟨sp1,hb2,hl2⟩:=hb2
      simp[hjc2,hlen,hm2,hm3,hm4]
      refine clearK_row ty_el40 ty_ze44 hb2 (by decide) (by rw[hl2];omega) ?_
      simp
      have e2:∀ vs,setCells (rowBox (xs.take i++xs.drop j) sp1) (i * 1) vs=rowBox (xs.take i++xs.drop j) (setCells sp1 0 vs):=fun vs=>by have:=row_tail (sp:=sp1) (vs:=vs) hya;rw[hyl] at this;exact this
      try simp only[Nat.mul_one] at e2
      rw[e2]
      refine fin _ _ ?_ (by simp;rfl) (fun k hk=>by simp[hk]) (by simp) (by simp[HS.setBox])
      rw[rowBox_length hya,setCells_length (by rw[rowBox_length hya,hyl] at hl2;first | (rw[hzl];omega) | (simp only[List.length_replicate];omega)),← rowBox_length (sp:=sp1) hya,hl2]
theorem h_slices_Delete_Value (h:HS) (c:C) (xs:List (List C)) (i j:Nat) (hm:MR h 3 c xs) (hij:i≤j) (hj:j≤xs.length) (K:V→HS→Prop)
  (hk:∀ c' h',MR h' 3 c' (xs.take i++xs.drop j)→(∀ l,l ∉ labs c→h'.box l=h.box l)→h'.ep=h.ep→h'.arr=h.arr→labs c'=labs c→K (.one c') h') :
  HSpec Tryz.prog 240 [.one c,.one (.d (.int .i64 i)),.one (.d (.int .i64 j))] h K:=by
 obtain⟨hall,hlim,h1 | ⟨l,cap,sp,rfl,hb,hcap⟩⟩:=hm
 ·obtain⟨rfl,hc⟩:=h1
  obtain rfl:j=0:=by simpa using hj
  obtain rfl:i=0:=by omega
  rcases hc with rfl | rfl
  ·refine HSpec.of_vc Tryz.func240 rfl (by kernel_rfl) (n:=33) rfl rfl (by simp) ?_
   simp
   exact hk _ _ (by simpa using MR.nil) (fun _ _=>rfl) rfl rfl rfl
  ·refine HSpec.of_vc Tryz.func240 rfl (by kernel_rfl) (n:=33) rfl rfl (by simp) ?_
   simp
   exact hk _ _ (by simpa using MR.z) (fun _ _=>rfl) rfl rfl rfl
 ·have hlen:xs.length≤cap:=by
   have h1:=rowBox_length (sp:=sp) hall
   omega
  have hi:i≤xs.length:=by omega
  refine HSpec.of_vc Tryz.func240 rfl (by kernel_rfl) (n:=33) rfl rfl (by simp) ?_
  simp
  refine opt_slice ⟨⟨hij,hj⟩,hlen⟩ (fun _=>?_) (fun _=>?_)
  all_goals
   simp
   refine condV_of (fun he=>?_) (fun hne=>?_)
   ·simp
    have hij':i=j:=by simp at he;omega
    subst hij'
    refine hk _ _ ⟨?_,?_,.inr ⟨l,cap,sp,?_,?_,?_⟩⟩ (fun _ _=>rfl) rfl rfl rfl<;>simp[*]
   ·simp
    have hlt:i < j:=by
     have:(i:Int)≠j:=by simpa using hne
     omega
    have hjc:j≤cap:=by omega
    have hic:i≤cap:=by omega
    have hc0:0 < cap:=by omega
    refine Wait.of (SWP.draw (Plan.then_ [0,1,2,3,4,5,6,7] .done) follows (by kernel_rfl) ?_)
    simp[Plan.then_,vcPlan,planOps,isCallAt,callKind,hjc,hic,hlen,hj,hc0]
    have fin:∀ (sp1:List C) (h1:HS),(rowBox (xs.take i++xs.drop j) sp1).length=cap * 3→h1.box l=some (rowBox (xs.take i++xs.drop j) sp1)→(∀ k,k≠l→h1.box k=h.box k)→h1.ep=h.ep→h1.arr=h.arr →
      K (.one (.mrow l 0 (i+(xs.length - j)) cap)) h1:=fun sp1 h1 e1 e2 e3 e4 e5=>
     hk _ _ ⟨AllC.append.2 ⟨hall.take,hall.drop⟩,by simp at hlim ⊢;omega,.inr ⟨l,cap,sp1,by simp;omega,e2,e1⟩⟩ (fun k hkl=>e3 k (by simpa[labs] using hkl)) e4 e5 rfl
    have happ:appHdr h 3 (.mrow l 0 i cap)=some (i,cap,(xs.take i).flatten,some (l,0)):=by
     have:=row_cells (off:=0) (k:=i) (cap:=cap) hall hb (by omega)
     simp only[Nat.zero_mul,List.drop_zero] at this
     simp only[appHdr,this]
    have hmul:∀ a b:Nat,a≤b→a * 3≤b * 3:=fun a b h=>by omega
    have hxt:(xs.drop j).take (xs.length - j)=xs.drop j:=List.take_of_length_le (by simp)
    generalize hm:i+(xs.length - j)=m at *
    have hm2:m≤xs.length:=by omega
    have hm3:m < xs.length:=by omega
    have hm4:m < cap:=by omega
    have hyl:(xs.take i++xs.drop j).length=m:=by simp;omega
    have hya:AllC 3 (xs.take i++xs.drop j):=AllC.append.2 ⟨hall.take,hall.drop⟩
    have hzl:∀ k:Nat,(List.replicate k [C.d (D.int IntKind.i64 0),C.d (D.int IntKind.i64 0),C.d (D.str ByteArray.empty)]).flatten.length=k * 3:=fun k=>by simp[List.length_flatten]
    by_cases hjc2:j < cap
    ·simp[hjc2]
     refine appK_row ty_el44 happ (by have:=row_cells (off:=j) (k:=xs.length - j) (cap:=cap - j) hall hb (by omega);rw[hxt] at this;first | exact this | simpa using this) (m:=xs.length - j) rfl (by simp) (by decide) (by decide) (by simp at hlim ⊢;omega) ?_ ?_ (fun h0=>?_) (fun h0 hle=>?_) (fun h0 hgt=>?_)
     ·rw[hall.drop.flatten];simp
     ·rw[hall.take.flatten];simp;omega
     ·have hj2:xs.drop j=[]:=List.drop_eq_nil_of_le (by omega)
      obtain rfl:i=m:=by omega
      have hb2:∃ sp1,h.box l=some (rowBox (xs.take i++xs.drop j) sp1)∧(rowBox (xs.take i++xs.drop j) sp1).length=cap * 3:=by
       refine⟨(xs.drop i).flatten++sp,?_,?_⟩
       ·rw[hb,hj2];simp[rowBox,← List.append_assoc,← List.flatten_append]
       ·rw[← hcap,hj2];simp[rowBox,← List.append_assoc,← List.flatten_append]
      obtain⟨sp1,hb2,hl2⟩:=hb2
      simp[hjc2,hlen,hm2,hm3,hm4]
      refine clearK_row ty_el44 ty_ze46 hb2 (by decide) (by rw[hl2];omega) ?_
      simp
      have e2:∀ vs,setCells (rowBox (xs.take i++xs.drop j) sp1) (i * 3) vs=rowBox (xs.take i++xs.drop j) (setCells sp1 0 vs):=fun vs=>by have:=row_tail (sp:=sp1) (vs:=vs) hya;rw[hyl] at this;exact this
      try simp only[Nat.mul_one] at e2
      rw[e2]
      refine fin _ _ ?_ (by simp;rfl) (fun k hk=>by simp[hk]) (by simp) (by simp[HS.setBox])
      rw[rowBox_length hya,setCells_length (by rw[rowBox_length hya,hyl] at hl2;first | (rw[hzl];omega) | (simp only[List.length_replicate];omega)),← rowBox_length (sp:=sp1) hya,hl2]
     ·rintro l' off he'
      simp only[Option.some.injEq,Prod.mk.injEq] at he'
      obtain⟨rfl,rfl⟩:=he'
      refine⟨_,hb,by rw[hcap];omega,?_⟩
      rw[Nat.zero_add,row_put hall hall.drop hi,hm]
      have hl2:(rowBox (xs.take i++xs.drop j) (List.drop ((i+(xs.drop j).length) * 3) (rowBox xs sp))).length=cap * 3:=by
       rw[rowBox_length hya,hyl,List.length_drop,hcap,List.length_drop];omega
      generalize List.drop ((i+(xs.drop j).length) * 3) (rowBox xs sp)=sp1 at *
      simp[hjc2,hlen,hm2,hm3,hm4]
      refine clearK_row ty_el44 ty_ze46 (by simp;rfl) (by decide) (by rw[hl2];omega) ?_
      simp
      have e2:∀ vs,setCells (rowBox (xs.take i++xs.drop j) sp1) (m * 3) vs=rowBox (xs.take i++xs.drop j) (setCells sp1 0 vs):=fun vs=>by have:=row_tail (sp:=sp1) (vs:=vs) hya;rw[hyl] at this;exact this
      try simp only[Nat.mul_one] at e2
      rw[e2]
      refine fin _ _ ?_ (by simp;rfl) (fun k hk=>by simp[hk]) (by simp) (by simp[HS.setBox])
      rw[rowBox_length hya,setCells_length (by rw[rowBox_length hya,hyl] at hl2;first | (rw[hzl];omega) | (simp only[List.length_replicate];omega)),← rowBox_length (sp:=sp1) hya,hl2]
     ·omega
    ·simp[hjc2]
     have hj2:xs.drop j=[]:=List.drop_eq_nil_of_le (by omega)
     refine appK_row ty_el44 happ (new:=[]) (m:=0) (by simp[rowCells]) rfl (by simp) (by decide) (by decide) (by simp at hlim ⊢;omega) rfl ?_ (fun h0=>?_) (fun h0=>absurd h0 (by omega)) (fun h0=>absurd h0 (by omega))
     ·rw[hall.take.flatten];simp;omega
     ·obtain rfl:i=m:=by omega
      have hb2:∃ sp1,h.box l=some (rowBox (xs.take i++xs.drop j) sp1)∧(rowBox (xs.take i++xs.drop j) sp1).length=cap * 3:=by
       refine⟨(xs.drop i).flatten++sp,?_,?_⟩
       ·rw[hb,hj2];simp[rowBox,← List.append_assoc,← List.flatten_append]
       ·rw[← hcap,hj2];simp[rowBox,← List.append_assoc,← List.flatten_append]
      obtain⟨sp1,hb2,hl2⟩:=hb2
      simp[hjc2,hlen,hm2,hm3,hm4]
      refine clearK_row ty_el44 ty_ze46 hb2 (by decide) (by rw[hl2];omega) ?_
      simp
      have e2:∀ vs,setCells (rowBox (xs.take i++xs.drop j) sp1) (i * 3) vs=rowBox (xs.take i++xs.drop j) (setCells sp1 0 vs):=fun vs=>by have:=row_tail (sp:=sp1) (vs:=vs) hya;rw[hyl] at this;exact this
      try simp only[Nat.mul_one] at e2
      rw[e2]
      refine fin _ _ ?_ (by simp;rfl) (fun k hk=>by simp[hk]) (by simp) (by simp[HS.setBox])
      rw[rowBox_length hya,setCells_length (by rw[rowBox_length hya,hyl] at hl2;first | (rw[hzl];omega) | (simp only[List.length_replicate];omega)),← rowBox_length (sp:=sp1) hya,hl2]
theorem h_slices_Clone_Int (h:HS) (c:C) (xs:List (List C)) (hr:RowAt h 1 c xs) (K:V→HS→Prop)
  (hk:∀ c' h',MR h' 1 c' xs→Same h h' []→(∀ l ∈ labs c',h.ep≤l.1∧l.1 < h'.ep)→BoxLe h h'→K (.one c') h') :
  HSpec Tryz.prog 94 [.one c] h K:=by
 refine HSpec.good Tryz.func94 rfl (by kernel_rfl) fun hg=>?_
 refine HSpec.of_vc Tryz.func94 rfl (by kernel_rfl) (n:=8) rfl rfl (by simp) ?_
 simp
 refine nilK_rd ty_el64 hr (fun h1=>?_) ?_
 ·subst h1
  simp
  exact hk _ _ MR.nil .refl (by simp[labs]) (BoxLe.refl h)
 ·simp
  refine emptyK_z (by simp) ?_
  simp
  refine app_new ty_el64 (by kernel_rfl) (by decide) (by decide) hr (fun c' h' hm hs hl=>?_)
  simp
  exact hk _ _ hm hs hl (hs.boxLe hg)
theorem h_slices_Clone_Column (h:HS) (c:C) (xs:List (List C)) (hr:RowAt h 3 c xs) (K:V→HS→Prop)
  (hk:∀ c' h',MR h' 3 c' xs→Same h h' []→(∀ l ∈ labs c',h.ep≤l.1∧l.1 < h'.ep)→BoxLe h h'→K (.one c') h') :
  HSpec Tryz.prog 133 [.one c] h K:=by
 refine HSpec.good Tryz.func133 rfl (by kernel_rfl) fun hg=>?_
 refine HSpec.of_vc Tryz.func133 rfl (by kernel_rfl) (n:=8) rfl rfl (by simp) ?_
 simp
 refine nilK_rd ty_el63 hr (fun h1=>?_) ?_
 ·subst h1
  simp
  exact hk _ _ MR.nil .refl (by simp[labs]) (BoxLe.refl h)
 ·simp
  refine emptyK_z (by simp) ?_
  simp
  refine app_new ty_el63 (by kernel_rfl) (by decide) (by decide) hr (fun c' h' hm hs hl=>?_)
  simp
  exact hk _ _ hm hs hl (hs.boxLe hg)
theorem h_slices_Clone_Constraint (h:HS) (c:C) (xs:List (List C)) (hr:RowAt h 7 c xs) (K:V→HS→Prop)
  (hk:∀ c' h',MR h' 7 c' xs→Same h h' []→(∀ l ∈ labs c',h.ep≤l.1∧l.1 < h'.ep)→BoxLe h h'→K (.one c') h') :
  HSpec Tryz.prog 92 [.one c] h K:=by
 refine HSpec.good Tryz.func92 rfl (by kernel_rfl) fun hg=>?_
 refine HSpec.of_vc Tryz.func92 rfl (by kernel_rfl) (n:=8) rfl rfl (by simp) ?_
 simp
 refine nilK_rd ty_el30 hr (fun h1=>?_) ?_
 ·subst h1
  simp
  exact hk _ _ MR.nil .refl (by simp[labs]) (BoxLe.refl h)
 ·simp
  refine emptyK_z (by simp) ?_
  simp
  refine app_new ty_el30 (by kernel_rfl) (by decide) (by decide) hr (fun c' h' hm hs hl=>?_)
  simp
  exact hk _ _ hm hs hl (hs.boxLe hg)
def TblSh:List Sh:=[.d,.r [.d,.d,.d],.r [.d]]
def FkSh:List Sh:=[.d,.r [.d],.d]
theorem Ow.rowD {h:HS} {n:Nat} {c:C} {ts:List (List D)} {es ss:List Sh} {cs:List C} {ds:List D} {ls:List Lab} (hm:MR h n c (ts.map (·.map C.d))) (hes:es=List.replicate n .d) (ht:∀ t ∈ ts,t.length=n) (hr:Ow h ss cs ds ls):Ow h (.r es::ss) (c::cs) (.sl ts::ds) (labs c++ls):=by
 subst hes
 have:=Ow.row (es:=List.replicate n .d) (c:=c) (qs:=ts.map fun t=>(t.map C.d,t,[])) (by simpa[Function.comp_def] using hm) (fun q hq=>by
  obtain⟨t,h1,rfl⟩:=List.mem_map.1 hq
  have:=Ow.datas (h:=h) (ds:=t)
  simp only[List.map_const',ht t h1] at this
  exact this) hr
 have e:∀ us:List (List D),us.flatMap (fun _=>([]:List Lab))=[]:=fun us=>by induction us<;>simp_all
 simpa[Function.comp_def,List.flatMap_map,e] using this
theorem labs_nodup {c:C}:(labs c).Nodup:=by cases c<;>simp[labs]
def NewOw (h:HS) (sh:List Sh) (ds:List D) (K:V→HS→Prop):Prop:=∀ cs' h' ls',Ow h' sh cs' ds ls'→ls'.Nodup→(∀ k ∈ ls',h.ep≤k.1∧k.1 < h'.ep)→Same h h' []→BoxLe h h'→K (.agg cs') h'
theorem h_schema_CloneTable (h:HS) (cs:List C) (T:Tbl) (hf:∀ h',Same h h' []→FrzCs h' cs T.enc) (hl:T.cols.length≤LIM∧T.pk.length≤LIM) (K:V→HS→Prop)
  (hk:NewOw h TblSh T.enc K) :
  HSpec Tryz.prog 93 [.agg cs] h K:=by
 refine HSpec.good Tryz.func93 rfl (by kernel_rfl) fun hg=>?_
 refine HSpec.of_vc Tryz.func93 rfl (by kernel_rfl) (n:=12) rfl rfl (by simp) ?_
 have hf0:=hf h .refl
 match cs,hf0 with
 | [c0,c1,c2],hf0=>
 obtain rfl:=hf0.1.flat rfl
 simp
 refine Wait.cut (Plan.then_ [0,1,2,3,5,6,4,7,8,9] .done) follows (by kernel_rfl) (fun e h'=>∃ cs' ls',e.n=12∧e.get 2=.one (.ptr (h.ep+1,32) 0)∧h'.box (h.ep+1,32)=some cs'∧Ow h' TblSh cs' T.enc ls'∧ls'.Nodup∧(∀ k ∈ ls',h.ep≤k.1∧k.1 < h'.ep)∧Same h h' []) ?_ ?_
 ·simp[Plan.then_,vcPlan,planOps,isCallAt,callKind]
  have hs1:Same h ((h.setBox (h.ep,16) [.d (.str T.name),c1,c2]).next.setBox (h.ep+1,32) [C.d (D.str ByteArray.empty),C.nil,C.nil]).next []:=((Same.refl.setBox (.inr (by simp))).next.setBox (.inr (by simp))).next
  have hr1:=(hf _ hs1).2.1.rowAt (n:=3) (by simp[D.flat]) (by simpa using hl.1)
  refine callK_heap (h_slices_Clone_Column _ _ _ hr1 _ (fun cc h1 hm1 hs2 hl1 hb1=>?_))
  simp
  refine⟨hb1,?_⟩
  have hs3:=hs1.trans hs2
  have hr2:=(hf _ hs3).2.2.1.rowAt (n:=1) (by simp[D.flat]) (by simpa using hl.2)
  refine callK_heap (h_slices_Clone_Int _ _ _ hr2 _ (fun pc h2 hm2 hs4 hl2 hb2=>?_))
  have hb0:h1.box (h.ep+1,32)=some [C.d (D.str ByteArray.empty),C.nil,C.nil]:=hb1 _ _ (by simp)
  have hb3:=hb2 _ _ hb0
  simp[hb3]
  refine⟨hb2,CutK.of ?_⟩
  simp at hl1
  have hc1:∀ k ∈ labs cc,(h2.setBox (h.ep+1,32) [C.d (D.str T.name),cc,pc]).box k=h1.box k:=fun k hk'=>by
   have h3:=hl1 k.1 k.2 hk'
   have h4:k≠(h.ep+1,32):=by rintro rfl;simp at h3;omega
   simp[h4,hs4.2 k h3.2 (by simp)]
  have hc2:∀ k ∈ labs pc,(h2.setBox (h.ep+1,32) [C.d (D.str T.name),cc,pc]).box k=h2.box k:=fun k hk'=>by
   have h3:=hl2 k hk'
   have h5:=hs2.1
   simp at h5
   have h4:k≠(h.ep+1,32):=by rintro rfl;simp at h3;omega
   simp[h4]
  have ho:=Ow.data (h:=h2.setBox (h.ep+1,32) [C.d (D.str T.name),cc,pc]) (c:=.d (.str T.name)) rfl (Ow.rowD (es:=[.d,.d,.d]) (hm1.frame hc1) rfl (by simp) (Ow.rowD (es:=[.d]) (hm2.frame hc2) rfl (by simp) .nil))
  refine⟨_,_,by simp,by simp,by simp,ho,?_,?_,(hs3.trans hs4).setBox (.inr (by simp))⟩
  ·rw[List.append_nil,List.nodup_append]
   refine⟨labs_nodup,labs_nodup,fun x hx y hy=>?_⟩
   rintro rfl
   have h3:=hl1 x.1 x.2 hx
   have h4:=hl2 x hy
   omega
  ·have h5:=hs2.1
   have h6:=hs4.1
   simp at h5
   intro k hk'
   rw[List.append_nil,List.mem_append] at hk'
   rcases hk' with hk' | hk'
   ·have:=hl1 k.1 k.2 hk'
    simp
    omega
   ·have:=hl2 k hk'
    simp
    omega
 ·rintro e h' ⟨cs',ls',hn,h2,hb,ho,hd,hlt,hs⟩
  obtain⟨a,b,d,rfl⟩:∃ a b d,cs'=[a,b,d]:=by
   have:=ho.len.1
   match cs',this with
   | [a,b,d],_=>exact⟨a,b,d,rfl⟩
  simp[hn,h2,hb,retH,resVs,resV]
  exact hk _ _ _ ho hd hlt hs (hs.boxLe hg)
abbrev Q:=List C × List D × List Lab
def plabs (c:C) (qs:List Q):List Lab:=labs c++qs.flatMap (·.2.2)
structure Part (h:HS) (sh:List Sh) (c:C) (qs:List Q) (ds:List (List D)):Prop where
 mr:MR h sh.length c (qs.map (·.1))
 ds:qs.map (·.2.1)=ds
 ow:∀ q ∈ qs,Ow h sh q.1 q.2.1 q.2.2
theorem Part.frame {h h':HS} {sh:List Sh} {c:C} {qs:List Q} {ds:List (List D)} (p:Part h sh c qs ds) (hb:∀ k ∈ plabs c qs,h'.box k=h.box k):Part h' sh c qs ds:=
 ⟨p.mr.frame fun l hl=>hb l (by simp[plabs,hl]),p.ds,fun q hq=>(p.ow q hq).frame fun l hl=>hb l (by
  simp only[plabs,List.mem_append,List.mem_flatMap]
  exact .inr ⟨q,hq,hl⟩)⟩
theorem Part.frz {h:HS} {sh:List Sh} {c:C} {qs:List Q} {ds:List (List D)} (p:Part h sh c qs ds):Frz h c (.sl ds):=by
 obtain⟨hm,rfl,ho⟩:=p
 exact (Ow.row (es:=sh) hm ho .nil).frz.1
def ConSh:List Sh:=[.d,.d,.d,.d,.d,.d,.d]
structure SchC (h:HS) (l:Lab) (S:Sch) (tc fc oc:C) (qt qf qo:List Q):Prop where
 box:h.box l=some [tc,fc,oc]
 t:Part h TblSh tc qt (S.tables.map Tbl.enc)
 f:Part h FkSh fc qf (S.fks.map Fk.enc)
 o:Part h ConSh oc qo (S.cons.map Cons.enc)
 nd:(l::(plabs tc qt++(plabs fc qf++plabs oc qo))).Nodup
 lt:∀ k ∈ l::(plabs tc qt++(plabs fc qf++plabs oc qo)),k.1 < h.ep
def OwS (h:HS) (l:Lab) (S:Sch) (ls:List Lab):Prop:=∃ tc fc oc qt qf qo,ls=plabs tc qt++(plabs fc qf++plabs oc qo)∧SchC h l S tc fc oc qt qf qo
theorem nodup_mid {ep:Nat} {A X X' B:List Lab} (h:(A++(X++B)).Nodup) (hx:X'.Nodup) (hn:∀ k ∈ X',k ∈ X∨ep≤k.1) (hl:∀ k ∈ A++(X++B),k.1 < ep):(A++(X'++B)).Nodup:=by
 simp only[List.nodup_append,List.mem_append] at h hl ⊢
 obtain⟨hA,⟨hX,hB,hXB⟩,hd⟩:=h
 refine⟨hA,⟨hx,hB,fun a ha b hb=>?_⟩,fun a ha b hb=>?_⟩
 ·rintro rfl
  rcases hn a ha with h1 | h1
  ·exact hXB a h1 a hb rfl
  ·have:=hl a (.inr (.inr hb));omega
 ·rintro rfl
  rcases hb with hb | hb
  ·rcases hn a hb with h1 | h1
   ·exact hd a ha a (.inl h1) rfl
   ·have:=hl a (.inl ha);omega
  ·exact hd a ha a (.inr hb) rfl
theorem SchC.ne {h:HS} {l:Lab} {S:Sch} {tc fc oc:C} {qt qf qo:List Q} (s:SchC h l S tc fc oc qt qf qo):l ∉ plabs tc qt∧l ∉ plabs fc qf∧l ∉ plabs oc qo∧(∀ k ∈ plabs tc qt,k ∉ plabs fc qf∧k ∉ plabs oc qo)∧(∀ k ∈ plabs fc qf,k ∉ plabs oc qo):=by
 have:=s.nd
 simp only[List.nodup_cons,List.nodup_append,List.mem_append,not_or] at this
 obtain⟨⟨h1,h2,h3⟩,_,⟨_,_,h4⟩,h5⟩:=this
 exact⟨h1,h2,h3,fun k hk=>⟨fun h6=>h5 k hk k (.inl h6) rfl,fun h6=>h5 k hk k (.inr h6) rfl⟩,fun k hk h6=>h4 k hk k h6 rfl⟩
theorem SchC.setF {h h':HS} {l:Lab} {S:Sch} {tc fc fc' oc:C} {qt qf qf' qo:List Q} {fs:List Fk} (s:SchC h l S tc fc oc qt qf qo) (hb:h'.box l=some [tc,fc',oc]) (hp:Part h' FkSh fc' qf' (fs.map Fk.enc)) (hs:Same h h' (l::plabs fc qf))
  (hnd:(plabs fc' qf').Nodup) (hn:∀ k ∈ plabs fc' qf',k ∈ plabs fc qf∨(h.ep≤k.1∧k.1 < h'.ep)):SchC h' l { S with fks:=fs } tc fc' oc qt qf' qo:=by
 obtain⟨n1,n2,n3,n4,n5⟩:=s.ne
 have hlt:=s.lt
 simp only[List.mem_cons,List.mem_append] at hlt
 refine⟨hb,s.t.frame fun k hk=>hs.2 k (hlt k (.inr (.inl hk))) ?_,hp,s.o.frame fun k hk=>hs.2 k (hlt k (.inr (.inr (.inr hk)))) ?_,?_,?_⟩
 ·simp only[List.mem_cons,not_or]
  exact⟨fun he=>n1 (he ▸ hk),(n4 k hk).1⟩
 ·simp only[List.mem_cons,not_or]
  exact⟨fun he=>n3 (he ▸ hk),fun h6=>n5 k h6 hk⟩
 ·have:=nodup_mid (ep:=h.ep) (A:=l::plabs tc qt) (X:=plabs fc qf) (X':=plabs fc' qf') (B:=plabs oc qo) (by simpa using s.nd) hnd (fun k hk=>(hn k hk).imp_right And.left) (fun k hk=>s.lt k (by simpa using hk))
  simpa using this
 ·intro k hk
  have:=hs.1
  simp only[List.mem_cons,List.mem_append] at hk
  rcases hk with hk | hk | hk | hk
  ·have:=hlt k (.inl hk);omega
  ·have:=hlt k (.inr (.inl hk));omega
  ·rcases hn k hk with h1 | h1
   ·have:=hlt k (.inr (.inr (.inl h1)));omega
   ·exact h1.2
  ·have:=hlt k (.inr (.inr (.inr hk)));omega
def KeepS (h:HS) (l:Lab) (ls:List Lab) (S':Sch) (v:V) (K:V→HS→Prop):Prop:=∀ h' ls',OwS h' l S' ls'→Same h h' (l::ls)→(∀ k ∈ ls',k ∈ ls∨h.ep≤k.1)→K v h'
theorem Part.sub {h h2:HS} {sh:List Sh} {c c':C} {qs qs':List Q} {ds:List (List D)} (p:Part h sh c qs ds) (hq:∀ q ∈ qs',q ∈ qs) (hm:MR h2 sh.length c' (qs'.map (·.1))) (hnd:(plabs c qs).Nodup) (hb:∀ k,k ∉ labs c→(∃ q ∈ qs,k ∈ q.2.2)→h2.box k=h.box k):Part h2 sh c' qs' (qs'.map (·.2.1)):=by
 refine⟨hm,rfl,fun q hqm=>(p.ow q (hq q hqm)).frame fun k hk=>hb k (fun hk2=>?_) ⟨q,hq q hqm,hk⟩⟩
 simp only[plabs,List.nodup_append] at hnd
 exact hnd.2.2 k hk2 k (List.mem_flatMap.2 ⟨q,hq q hqm,hk⟩) rfl
theorem SchC.nds {h:HS} {l:Lab} {S:Sch} {tc fc oc:C} {qt qf qo:List Q} (s:SchC h l S tc fc oc qt qf qo):(plabs tc qt).Nodup∧(plabs fc qf).Nodup∧(plabs oc qo).Nodup:=by
 have:=s.nd
 simp only[List.nodup_cons,List.nodup_append] at this
 exact⟨this.2.1,this.2.2.1.1,this.2.2.1.2.1⟩
theorem SchC.frame {h h':HS} {l:Lab} {S:Sch} {tc fc oc:C} {qt qf qo:List Q} (s:SchC h l S tc fc oc qt qf qo) (hs:Same h h' []):SchC h' l S tc fc oc qt qf qo:=by
 have hb:∀ k ∈ l::(plabs tc qt++(plabs fc qf++plabs oc qo)),h'.box k=h.box k:=fun k hk=>hs.2 k (s.lt k hk) (by simp)
 simp only[List.mem_cons,List.mem_append] at hb
 exact⟨by rw[hb l (.inl rfl),s.box],s.t.frame fun k hk=>hb k (.inr (.inl hk)),s.f.frame fun k hk=>hb k (.inr (.inr (.inl hk))),s.o.frame fun k hk=>hb k (.inr (.inr (.inr hk))),s.nd,fun k hk=>Nat.lt_of_lt_of_le (s.lt k hk) hs.1⟩
theorem FrzCs.datas {h:HS}:∀ {ds:List D},FrzCs h (ds.map C.d) ds
 | []=>trivial
 | _::_=>⟨.data rfl,FrzCs.datas⟩
end Go.Proofs.YthiojhcimecdgaaGreatDoor
end
section
namespace Go.Proofs.YthiojhcimecdgaaGreatDoor
open Go Go.Am
theorem le_s {n m:Nat} (h:n≤m):n≤m+1:=Nat.le_succ_of_le h
theorem ne_new {l:Lab} {n:Nat} (hl:l.1 < n):∀ m b,n≤m→(l=(m,b))=False:=fun m b h=>eq_false fun he=>by rw[he] at hl;simp at hl;omega
theorem ne_new' {l:Lab} {n:Nat} (hl:l.1 < n):∀ m b,n≤m→((m,b)=l)=False:=fun m b h=>eq_false fun he=>by rw[← he] at hl;simp at hl;omega
theorem set_same {α:Type} {xs:List α} {i:Nat} {x:α} (h:xs[i]?=some x):xs.set i x=xs:=by
 obtain⟨hi,rfl⟩:=List.getElem?_eq_some_iff.1 h
 exact List.set_getElem_self hi
theorem plabs_set {c:C} {qs:List Q} {i:Nat} {q q':Q} (hi:qs[i]?=some q) (hl:q'.2.2=q.2.2):plabs c (qs.set i q')=plabs c qs:=by
 unfold plabs
 congr 1
 have:(qs.set i q').map (·.2.2)=qs.map (·.2.2):=by
  rw[List.map_set,hl]
  exact set_same (by rw[List.getElem?_map,hi];rfl)
 rw[List.flatMap_def,List.flatMap_def,this]
theorem plabs_other {c:C} {qs:List Q} {i j:Nat} {q q2:Q} {k:Lab} (hnd:(plabs c qs).Nodup) (hi:qs[i]?=some q) (hj:qs[j]?=some q2) (hne:j≠i) (hk:k ∈ q2.2.2):k ∉ labs c∧k ∉ q.2.2:=by
 simp only[plabs,List.nodup_append] at hnd
 refine⟨fun h=>hnd.2.2 k h k (List.mem_flatMap.2 ⟨q2,List.mem_of_getElem? hj,hk⟩) rfl,fun h=>?_⟩
 have h1:=(List.pairwise_flatMap.1 hnd.2.1).2
 rw[List.pairwise_iff_getElem] at h1
 obtain⟨li,ei⟩:=List.getElem?_eq_some_iff.1 hi
 obtain⟨lj,ej⟩:=List.getElem?_eq_some_iff.1 hj
 rcases Nat.lt_or_gt_of_ne hne with hlt | hlt
 ·exact h1 j i lj li hlt k (by rw[ej];exact hk) k (by rw[ei];exact h) rfl
 ·exact h1 i j li lj hlt k (by rw[ei];exact h) k (by rw[ej];exact hk) rfl
theorem plabs_self {c:C} {qs:List Q} {i:Nat} {q:Q} {k:Lab} (hnd:(plabs c qs).Nodup) (hi:qs[i]?=some q) (hk:k ∈ q.2.2):k ∉ labs c:=by
 simp only[plabs,List.nodup_append] at hnd
 exact fun h=>hnd.2.2 k h k (List.mem_flatMap.2 ⟨q,List.mem_of_getElem? hi,hk⟩) rfl
theorem plabs_mem {c:C} {qs:List Q} {i:Nat} {q:Q} {k:Lab} (hi:qs[i]?=some q) (hk:k ∈ q.2.2):k ∈ plabs c qs:=by
 simp only[plabs,List.mem_append,List.mem_flatMap]
 exact .inr ⟨q,List.mem_of_getElem? hi,hk⟩
theorem plabs_nd {c:C} {qs:List Q} {i:Nat} {q:Q} (hnd:(plabs c qs).Nodup) (hi:qs[i]?=some q):q.2.2.Nodup:=by
 simp only[plabs,List.nodup_append] at hnd
 exact (List.pairwise_flatMap.1 hnd.2.1).1 q (List.mem_of_getElem? hi)
theorem Part.upd {h h':HS} {sh:List Sh} {c:C} {qs:List Q} {ds:List (List D)} {i:Nat} {q q':Q} (P:Part h sh c qs ds) (hi:qs[i]?=some q) (hm:MR h' sh.length c ((qs.map (·.1)).set i q'.1)) (ho:Ow h' sh q'.1 q'.2.1 q'.2.2)
  (hb:∀ j q2,j≠i→qs[j]?=some q2→∀ k ∈ q2.2.2,h'.box k=h.box k):Part h' sh c (qs.set i q') (ds.set i q'.2.1):=by
 refine⟨by rw[List.map_set];exact hm,by rw[List.map_set,P.ds],fun q2 hq=>?_⟩
 obtain⟨j,hj⟩:=List.getElem?_of_mem hq
 by_cases hji:j=i
 ·subst hji
  have hlt:j < qs.length:=(List.getElem?_eq_some_iff.1 hi).1
  rw[List.getElem?_set_self hlt] at hj
  cases hj
  exact ho
 ·rw[List.getElem?_set_ne (fun h=>hji h.symm)] at hj
  exact (P.ow q2 (List.mem_of_getElem? hj)).frame fun k hk=>hb j q2 hji hj k hk
theorem Part.at {h:HS} {sh:List Sh} {c:C} {qs:List Q} {ds:List (List D)} (P:Part h sh c qs ds) {i:Nat} {d:List D} (hi:ds[i]?=some d) :
  ∃ q lr cap sp,qs[i]?=some q∧q.2.1=d∧Ow h sh q.1 d q.2.2∧c=.mrow lr 0 ds.length cap∧h.box lr=some (rowBox (qs.map (·.1)) sp)∧(rowBox (qs.map (·.1)) sp).length=cap * sh.length∧AllC sh.length (qs.map (·.1))∧(qs.map (·.1))[i]?=some q.1:=by
 have hd:=P.ds
 subst hd
 rw[List.getElem?_map] at hi
 cases hq:qs[i]? with
 | none=>rw[hq] at hi;simp at hi
 | some q=>
   rw[hq] at hi
   simp only[Option.map_some,Option.some.injEq] at hi
   have hlt:i < qs.length:=(List.getElem?_eq_some_iff.1 hq).1
   obtain⟨lr,cap,sp,h1,h2,h3⟩:=P.mr.block (by simp;omega)
   refine⟨q,lr,cap,sp,rfl,hi,hi ▸ P.ow q (List.mem_of_getElem? hq),by simpa using h1,h2,h3,P.mr.1,by rw[List.getElem?_map,hq];rfl⟩
theorem Part.wr {h:HS} {sh:List Sh} {c:C} {qs:List Q} {ds:List (List D)} {i f n cap:Nat} {q:Q} {lr:Lab} {sp vs:List C} {d':List D} (P:Part h sh c qs ds) (hnd:(plabs c qs).Nodup) (hi:qs[i]?=some q) (hc:c=.mrow lr 0 n cap) (hB:h.box lr=some (rowBox (qs.map (·.1)) sp))
  (hlen:(rowBox (qs.map (·.1)) sp).length=cap * sh.length) (hf:f+vs.length≤sh.length) (ho:Ow h sh (setCells q.1 f vs) d' q.2.2) :
  Part (h.setBox lr (setCells (rowBox (qs.map (·.1)) sp) (i * sh.length+f) vs)) sh c (qs.set i (setCells q.1 f vs,d',q.2.2)) (ds.set i d'):=by
 have hx:(qs.map (·.1))[i]?=some q.1:=by rw[List.getElem?_map,hi];rfl
 have hlr:labs c=[lr]:=by rw[hc];rfl
 have hself:∀ k ∈ q.2.2,k≠lr:=fun k hk he=>plabs_self hnd hi hk (by rw[hlr,he];simp)
 refine P.upd (q':=(setCells q.1 f vs,d',q.2.2)) hi ?_ (ho.frame fun k hk=>by simp[hself k hk]) (fun j q2 hne hj k hk=>?_)
 ·have hset:=row_set (sp:=sp) (vs:=vs) P.mr.1 hx hf
  have hq1:=P.mr.1.get hx
  refine⟨P.mr.1.set (by rw[setCells_length (by omega)];exact hq1),by simpa using P.mr.2.1,.inr ⟨lr,cap,sp,?_,by simp[hset],?_⟩⟩
  ·rcases P.mr.2.2 with ⟨h1,h2⟩ | ⟨l2,cap2,sp2,h1,_⟩
   ·rw[h1] at hx;simp at hx
   ·rw[hc] at h1 ⊢
    simp at h1
    simp[h1]
  ·rw[← hset,setCells_length ?_,hlen]
   have:=row_len (sp:=sp) P.mr.1 (List.getElem?_eq_some_iff.1 hx).1
   omega
 ·have:=(plabs_other hnd hi hj hne hk).1
  rw[hlr] at this
  have h2:k≠lr:=fun he=>this (by simp[he])
  simp[h2]
end Go.Proofs.YthiojhcimecdgaaGreatDoor
namespace Go.Am
open Go Go.Proofs.YthiojhcimecdgaaGreatDoor
theorem Ow.flat {h:HS} {ss:List Sh} {cs:List C} {ds:List D} {ls:List Lab} (o:Ow h ss cs ds ls):∀ {n:Nat},ss=List.replicate n .d→(∀ d ∈ ds,d.flat=true)→cs=ds.map C.d∧ls=[]:=by
 induction o with
 | nil=>intro n _ _;exact⟨rfl,rfl⟩
 | @data c x ss cs ds ls hx hr ih=>
   intro n he hf
   cases n with
   | zero=>simp at he
   | succ n=>
     simp[List.replicate_succ] at he
     obtain⟨h1,h2⟩:=ih he (fun d hd=>hf d (by simp[hd]))
     have h3:=(Frz.data (h:=h) hx).flat (hf x (by simp))
     exact⟨by rw[h1,h3];rfl,h2⟩
 | @emp es c ss cs ds ls hx hr ih=>
   intro n he hf
   cases n<;>simp[List.replicate_succ] at he
 | @row es c qs ss cs ds ls hm hq hr ihq ih=>
   intro n he hf
   cases n<;>simp[List.replicate_succ] at he
end Go.Am
namespace Go.Proofs.YthiojhcimecdgaaGreatDoor
open Go Go.Am
end Go.Proofs.YthiojhcimecdgaaGreatDoor
namespace Go.Am
open Go Go.Proofs.YthiojhcimecdgaaGreatDoor
theorem Ow.inv_part {h:HS} {es ss:List Sh} {cs:List C} {ts:List (List D)} {ds:List D} {ls:List Lab} (o:Ow h (.r es::ss) cs (.sl ts::ds) ls):ts=[]∨∃ (c:C) (qs:List Q) (cs':List C) (ls':List Lab),cs=c::cs'∧ls=plabs c qs++ls'∧Part h es c qs ts∧Ow h ss cs' ds ls':=by
 rcases o.inv_r with ⟨c,cs',ds',rfl,h2,_⟩ | ⟨c,qs,cs',ds',ls',rfl,h2,rfl,hm,hq,hr⟩
 ·simp at h2;exact .inl h2.1
 ·simp at h2
  obtain⟨h2,h3⟩:=h2
  refine .inr ⟨c,qs,cs',ls',rfl,rfl,⟨hm,h2.symm,hq⟩,?_⟩
  rw[h3];exact hr
end Go.Am
namespace Go.Proofs.YthiojhcimecdgaaGreatDoor
open Go Go.Am
end Go.Proofs.YthiojhcimecdgaaGreatDoor
namespace Go.Am
open Go Go.Proofs.YthiojhcimecdgaaGreatDoor
theorem Ow.mk_part {h:HS} {es ss:List Sh} {c:C} {qs:List Q} {cs:List C} {ts:List (List D)} {ds:List D} {ls:List Lab} (P:Part h es c qs ts) (o:Ow h ss cs ds ls):Ow h (.r es::ss) (c::cs) (.sl ts::ds) (plabs c qs++ls):=by
 obtain⟨hm,rfl,hq⟩:=P
 exact .row hm hq o
end Go.Am
namespace Go.Proofs.YthiojhcimecdgaaGreatDoor
open Go Go.Am
def Sc (h:HS) (l:Lab) (S:Sch) (tc fc oc:C) (ta fa oa:List Lab):Prop:=∃ qt qf qo,ta=plabs tc qt∧fa=plabs fc qf∧oa=plabs oc qo∧SchC h l S tc fc oc qt qf qo
section
variable {h h':HS} {l:Lab} {S:Sch} {tc fc oc:C} {ta fa oa:List Lab}
theorem Sc.box (s:Sc h l S tc fc oc ta fa oa):h.box l=some [tc,fc,oc]:=by
 obtain⟨_,_,_,_,_,_,s⟩:=s;exact s.box
theorem Sc.frame (s:Sc h l S tc fc oc ta fa oa) (hs:Same h h' []):Sc h' l S tc fc oc ta fa oa:=by
 obtain⟨qt,qf,qo,h1,h2,h3,s⟩:=s
 exact⟨qt,qf,qo,h1,h2,h3,s.frame hs⟩
theorem Sc.ows (s:Sc h l S tc fc oc ta fa oa):OwS h l S (ta++(fa++oa)):=by
 obtain⟨qt,qf,qo,rfl,rfl,rfl,s⟩:=s
 exact⟨tc,fc,oc,qt,qf,qo,rfl,s⟩
theorem OwS.sc {ls:List Lab} (o:OwS h l S ls):∃ tc fc oc ta fa oa,ls=ta++(fa++oa)∧Sc h l S tc fc oc ta fa oa:=by
 obtain⟨tc,fc,oc,qt,qf,qo,h1,s⟩:=o
 exact⟨tc,fc,oc,_,_,_,h1,qt,qf,qo,rfl,rfl,rfl,s⟩
theorem Sc.lt (s:Sc h l S tc fc oc ta fa oa):∀ k ∈ l::(ta++(fa++oa)),k.1 < h.ep:=by
 obtain⟨qt,qf,qo,rfl,rfl,rfl,s⟩:=s
 exact s.lt
theorem Sc.nd (s:Sc h l S tc fc oc ta fa oa):(l::(ta++(fa++oa))).Nodup:=by
 obtain⟨qt,qf,qo,rfl,rfl,rfl,s⟩:=s
 exact s.nd
theorem Sc.tfrz (s:Sc h l S tc fc oc ta fa oa):Frz h tc (.sl (S.tables.map Tbl.enc)):=by
 obtain⟨qt,qf,qo,rfl,rfl,rfl,s⟩:=s
 exact s.t.frz
theorem Sc.ffrz (s:Sc h l S tc fc oc ta fa oa):Frz h fc (.sl (S.fks.map Fk.enc)):=by
 obtain⟨qt,qf,qo,rfl,rfl,rfl,s⟩:=s
 exact s.f.frz
theorem Sc.ofrz (s:Sc h l S tc fc oc ta fa oa):Frz h oc (.sl (S.cons.map Cons.enc)):=by
 obtain⟨qt,qf,qo,rfl,rfl,rfl,s⟩:=s
 exact s.o.frz
theorem Sc.frz (s:Sc h l S tc fc oc ta fa oa):FrzCs h [tc,fc,oc] S.enc:=⟨s.tfrz,s.ffrz,s.ofrz,trivial⟩
end
end Go.Proofs.YthiojhcimecdgaaGreatDoor
namespace Go.Am
open Go Go.Proofs.YthiojhcimecdgaaGreatDoor
theorem MR.len {h:HS} {n:Nat} {c:C} {xs:List (List C)} (m:MR h n c xs):cLen c=some xs.length:=m.rd.2.1
end Go.Am
namespace Go.Proofs.YthiojhcimecdgaaGreatDoor
open Go Go.Am
theorem Sc.len {h:HS} {l:Lab} {S:Sch} {tc fc oc:C} {ta fa oa:List Lab} (s:Sc h l S tc fc oc ta fa oa):(cLen tc=some S.tables.length∧S.tables.length≤LIM)∧(cLen fc=some S.fks.length∧S.fks.length≤LIM)∧cLen oc=some S.cons.length∧S.cons.length≤LIM:=by
 obtain⟨qt,qf,qo,rfl,rfl,rfl,s⟩:=s
 have e1:qt.length=S.tables.length:=by have:=congrArg List.length s.t.ds;simpa using this
 have e2:qf.length=S.fks.length:=by have:=congrArg List.length s.f.ds;simpa using this
 have e3:qo.length=S.cons.length:=by have:=congrArg List.length s.o.ds;simpa using this
 have h1:=s.t.mr.rd
 have h2:=s.f.mr.rd
 have h3:=s.o.mr.rd
 refine⟨⟨?_,?_⟩,⟨?_,?_⟩,?_,?_⟩
 ·rw[h1.2.1];simp[e1]
 ·rw[← e1];simpa using h1.2.2.2
 ·rw[h2.2.1];simp[e2]
 ·rw[← e2];simpa using h2.2.2.2
 ·rw[h3.2.1];simp[e3]
 ·rw[← e3];simpa using h3.2.2.2
theorem FkSh_len:FkSh.length=3:=rfl
theorem TblSh_len:TblSh.length=3:=rfl
theorem SchC.wrF {h h':HS} {l:Lab} {S:Sch} {tc fc oc:C} {qt qf qf' qo:List Q} {fs:List Fk} (s:SchC h l S tc fc oc qt qf qo) (hp:Part h' FkSh fc qf' (fs.map Fk.enc)) (hs:Same h h' (plabs fc qf)) (hl:plabs fc qf'=plabs fc qf):SchC h' l { S with fks:=fs } tc fc oc qt qf' qo:=
 s.setF (by rw[hs.2 l (s.lt l (by simp)) s.ne.2.1];exact s.box) hp (hs.mono fun k hk=>by simp[hk]) (by rw[hl];exact s.nds.2.1) (fun k hk=>.inl (hl ▸ hk))
end Go.Proofs.YthiojhcimecdgaaGreatDoor
namespace Go.Am
open Go Go.Proofs.YthiojhcimecdgaaGreatDoor
theorem Same.set1 {h:HS} {l:Lab} {cs:List C} {ls:List Lab} (hl:l ∈ ls):Same h (h.setBox l cs) ls:=Same.refl.setBox (.inl hl)
end Go.Am
namespace Go.Proofs.YthiojhcimecdgaaGreatDoor
open Go Go.Am
structure Elem (h:HS) (lr:Lab) (i n:Nat) (x:List C) (B:List C):Prop where
 box:h.box lr=some B
 rd:∀ g m,g+m≤n→takeN m (B.drop (i * n+g))=takeN m (x.drop g)
 rd0:∀ m,m≤n→takeN m (B.drop (i * n))=takeN m x
 le:i * n+n≤B.length
theorem Part.elem {h:HS} {sh:List Sh} {c:C} {qs:List Q} {ds:List (List D)} (P:Part h sh c qs ds) {i:Nat} {d:List D} (hi:ds[i]?=some d) :
  ∃ q lr cap sp,qs[i]?=some q∧q.2.1=d∧Ow h sh q.1 d q.2.2∧c=.mrow lr 0 ds.length cap∧(rowBox (qs.map (·.1)) sp).length=cap * sh.length∧Elem h lr i sh.length q.1 (rowBox (qs.map (·.1)) sp):=by
 obtain⟨q,lr,cap,sp,h1,h2,h3,h4,h5,h6,h7,h8⟩:=P.at hi
 refine⟨q,lr,cap,sp,h1,h2,h3,h4,h6,h5,fun g m hg=>row_take h7 h8 hg,fun m hm=>?_,row_len h7 (List.getElem?_eq_some_iff.1 h8).1⟩
 have:=row_take (sp:=sp) (f:=0) (m:=m) h7 h8 (by omega)
 simpa using this
end Go.Proofs.YthiojhcimecdgaaGreatDoor
end
section
namespace Go.Proofs.YthiojhcimecdgaaGreatDoor
open Go Go.Am
theorem map_get {α β:Type} {f:α→β} {xs:List α} {i:Nat} {x:α} (h:xs[i]?=some x):(xs.map f)[i]?=some (f x):=by rw[List.getElem?_map,h];rfl
theorem map_setm {α β:Type} {f:α→β} {xs:List α} {i:Nat} {x:α}:(xs.set i x).map f=(xs.map f).set i (f x):=List.map_set
theorem Part.elemD {h:HS} {n:Nat} {sh:List Sh} {c:C} {qs:List Q} {ds:List (List D)} (P:Part h sh c qs ds) (hsh:sh=List.replicate n .d) {i:Nat} {d:List D} (hi:ds[i]?=some d) (hf:∀ x ∈ d,x.flat=true) :
  ∃ lr cap B,c=.mrow lr 0 ds.length cap∧Elem h lr i n (d.map C.d) B∧qs[i]?=some (d.map C.d,d,[]) ∧
    (∀ g vs d',(plabs c qs).Nodup→g+vs.length≤n→setCells (d.map C.d) g vs=d'.map C.d→d'.length=n→∃ qs',plabs c qs'=plabs c qs∧Part (h.setBox lr (setCells B (i * n+g) vs)) sh c qs' (ds.set i d')):=by
 obtain⟨q,lr,cap,sp,h1,h2,h3,h4,h5,h6⟩:=P.elem hi
 have hn:sh.length=n:=by rw[hsh];simp
 obtain⟨e1,e2⟩:=h3.flat hsh hf
 have eq:q=(d.map C.d,d,[]):=by rw[← e1,← e2,← h2]
 subst eq
 rw[hn] at h5 h6
 refine⟨lr,cap,_,h4,h6,h1,fun g vs d' hnd hg hs hd=>?_⟩
 refine⟨qs.set i (setCells (d.map C.d) g vs,d',[]),plabs_set h1 rfl,?_⟩
 have:=P.wr (f:=g) (vs:=vs) (d':=d') hnd h1 h4 h6.box (by rw[h5,hn]) (by rw[hn];exact hg) (by
  rw[hs,hsh]
  have:=Ow.datas (h:=h) (ds:=d')
  simp only[List.map_const',hd] at this
  exact this)
 rw[hn] at this
 exact this
theorem Cons.flat (c:Cons):∀ x ∈ c.enc,x.flat=true:=by simp[D.flat]
theorem Col.flat (c:Col):∀ x ∈ c.enc,x.flat=true:=by simp[D.flat]
theorem encI_flat (c:Int):∀ x ∈ encI c,x.flat=true:=by simp[D.flat]
theorem Sc.fk {h:HS} {l:Lab} {S:Sch} {tc fc oc:C} {ta fa oa:List Lab} (s:Sc h l S tc fc oc ta fa oa) {i:Nat} {f:Fk} (hi:S.fks[i]?=some f) :
  ∃ lf cap B c1,fc=.mrow lf 0 S.fks.length cap∧lf ∈ fa∧Elem h lf i 3 [.d (.str f.table),c1,.d (.str f.ref)] B∧(∀ h',Same h h' []→Frz h' c1 (.sl (f.cols.map encI)))∧(cLen c1=some f.cols.length∧f.cols.length≤LIM) ∧
    (∀ g vs f',f'.cols=f.cols→g+vs.length≤3→setCells [.d (.str f.table),c1,.d (.str f.ref)] g vs=[.d (.str f'.table),c1,.d (.str f'.ref)]→Sc (h.setBox lf (setCells B (i * 3+g) vs)) l { S with fks:=S.fks.set i f' } tc fc oc ta fa oa) ∧
    (∀ k v,f.cols[k]?=some v→∃ l2 cap2 B2,c1=.mrow l2 0 f.cols.length cap2∧l2 ∈ fa∧l2≠lf∧Elem h l2 k 1 [.d (.int .i64 v)] B2 ∧
     ∀ v',Sc (h.setBox l2 (setCells B2 (k * 1) [.d (.int .i64 v')])) l { S with fks:=S.fks.set i { f with cols:=f.cols.set k v' } } tc fc oc ta fa oa):=by
 obtain⟨qt,qf,qo,rfl,rfl,rfl,s⟩:=s
 have hnd:=s.nds.2.1
 have hlt:∀ k ∈ plabs fc qf,k.1 < h.ep:=fun k hk=>s.lt k (by simp[hk])
 obtain⟨q,lf,cap,sp,h1,h2,h3,h4,h5,h6⟩:=s.f.elem (map_get (f:=Fk.enc) hi)
 have hm:lf ∈ plabs fc qf:=by rw[h4];simp[plabs,labs]
 rw[FkSh_len] at h5 h6
 obtain⟨qc,qd,ql⟩:=q
 simp only at h2 h3 h6
 subst h2
 obtain⟨c0,x0,cs,ds,rfl,e1,e2,h7⟩:=h3.inv_d
 simp only[Fk.enc,List.cons.injEq] at e1
 obtain⟨rfl,rfl⟩:=e1
 obtain rfl:=(Frz.data (h:=h) e2).flat rfl
 have hfz:∀ h',Same h h' []→FrzCs h' cs [.sl (f.cols.map encI),.str f.ref]:=fun h' hs=>(h7.frame fun k hk=>hs.2 k (hlt k (plabs_mem h1 hk)) (by simp)).frz
 have key:∃ c1,cs=[c1,.d (.str f.ref)]∧(cLen c1=some f.cols.length∧f.cols.length≤LIM):=by
  rcases h7.inv_r with ⟨c1,cs',ds',rfl,e3,e4,h8⟩ | ⟨c1,qs1,cs',ds',ls',rfl,e3,_,hm1,_,h8⟩
  ·simp only[List.cons.injEq] at e3
   obtain⟨e3,rfl⟩:=e3
   obtain⟨c2,x2,cs2,ds2,rfl,e5,e6,h9⟩:=h8.inv_d
   simp only[List.cons.injEq] at e5
   obtain⟨rfl,rfl⟩:=e5
   obtain rfl:=(Frz.data (h:=h) e6).flat rfl
   obtain⟨rfl,_,_⟩:=h9.inv_nil
   simp at e3
   refine⟨c1,rfl,?_,by simp[e3]⟩
   cases c1<;>simp[C.toD] at e4<;>subst_vars<;>simp[cLen,C.list?,e3]
  ·simp only[List.cons.injEq] at e3
   obtain⟨e3,rfl⟩:=e3
   obtain⟨c2,x2,cs2,ds2,rfl,e5,e6,h9⟩:=h8.inv_d
   simp only[List.cons.injEq] at e5
   obtain⟨rfl,rfl⟩:=e5
   obtain rfl:=(Frz.data (h:=h) e6).flat rfl
   obtain⟨rfl,_,_⟩:=h9.inv_nil
   simp at e3
   have e4:=congrArg List.length e3
   simp at e4
   exact⟨c1,rfl,by rw[MR.len hm1];simp[e4],by rw[e4];simpa using hm1.2.1⟩
 obtain⟨c1,rfl,hcl⟩:=key
 refine⟨lf,cap,_,c1,by simpa using h4,hm,h6,fun h' hs=>(hfz h' hs).1,hcl,fun g vs f' hc hg hset=>?_,fun k v hk=>?_⟩
 ·refine⟨qt,qf.set i ([.d (.str f'.table),c1,.d (.str f'.ref)],f'.enc,ql),qo,rfl,(plabs_set (q':=(_,f'.enc,ql)) h1 rfl).symm,rfl,s.wrF ?_ (Same.set1 hm) (plabs_set (q':=(_,f'.enc,ql)) h1 rfl)⟩
  have:=s.f.wr (f:=g) (vs:=vs) (d':=f'.enc) hnd h1 h4 h6.box h5 hg (by
   rw[hset]
   refine .data (x:=.str f'.table) rfl ?_
   rcases h7.inv_r with ⟨c1,cs',ds',e0,e3,e4,h8⟩ | ⟨c1,qs1,cs',ds',ls',e0,e3,rfl,hm1,hq1,h8⟩
   ·simp at e3 e0
    obtain⟨e3,rfl⟩:=e3
    obtain⟨rfl,rfl⟩:=e0
    obtain⟨c2,x2,cs2,ds2,e4',e5,e6,h9⟩:=h8.inv_d
    simp only[List.cons.injEq] at e5 e4'
    obtain⟨rfl,rfl⟩:=e5
    obtain⟨rfl,rfl⟩:=e4'
    rw[hc,e3]
    exact .emp e4 (.data (x:=.str f'.ref) rfl h9)
   ·simp at e3 e0
    obtain⟨e3,rfl⟩:=e3
    obtain⟨rfl,rfl⟩:=e0
    obtain⟨c2,x2,cs2,ds2,e4',e5,e6,h9⟩:=h8.inv_d
    simp only[List.cons.injEq] at e5 e4'
    obtain⟨rfl,rfl⟩:=e5
    obtain⟨rfl,rfl⟩:=e4'
    rw[hc,show f.cols.map encI=qs1.map (fun q=>q.2.1) by simpa using e3]
    exact .row hm1 hq1 (.data (x:=.str f'.ref) rfl h9))
  rw[hset,FkSh_len] at this
  rw[map_setm]
  exact this
 ·rcases h7.inv_part with e | ⟨c1',qs1,cs',ls',e0,rfl,P1,h8⟩
  ·have:f.cols=[]:=by simpa using e
   rw[this] at hk;simp at hk
  ·simp only[List.cons.injEq] at e0
   obtain⟨rfl,rfl⟩:=e0
   obtain⟨l2,cap2,B2,k1,k2,k3,k4⟩:=P1.elemD (n:=1) rfl (map_get (f:=encI) hk) (encI_flat v)
   have hl2:l2 ∈ plabs c1 qs1:=by rw[k1];simp[plabs,labs]
   have hl2q:l2 ∈ plabs fc qf:=plabs_mem h1 (by simp[hl2])
   have hne:l2≠lf:=fun he=>plabs_self hnd h1 (k:=l2) (by simp[hl2]) (by rw[he,h4];simp[labs])
   have hndq:=plabs_nd hnd h1
   simp only at hndq
   refine⟨l2,cap2,B2,by simpa using k1,hl2q,hne,k2,fun v'=>?_⟩
   obtain⟨qs1',k5,k6⟩:=k4 0 [.d (.int .i64 v')] [.int .i64 v'] ((List.nodup_append.1 hndq).1) (by simp) (by simp) (by simp)
   refine⟨qt,qf.set i ([.d (.str f.table),c1,.d (.str f.ref)],({ f with cols:=f.cols.set k v' }:Fk).enc,plabs c1 qs1++ls'),qo,rfl,(plabs_set (q':=(_,({ f with cols:=f.cols.set k v' }:Fk).enc,plabs c1 qs1++ls')) h1 rfl).symm,rfl,s.wrF ?_ (Same.set1 hl2q) (plabs_set (q':=(_,({ f with cols:=f.cols.set k v' }:Fk).enc,plabs c1 qs1++ls')) h1 rfl)⟩
   rw[map_setm]
   refine s.f.upd (q':=(_,_,_)) h1 ?_ ?_ ?_
   ·have:(qf.map (·.1)).set i [.d (.str f.table),c1,.d (.str f.ref)]=qf.map (·.1):=set_same (map_get (f:=fun q:Q=>q.1) h1)
    rw[this]
    refine s.f.mr.frame fun k hk=>?_
    have:k≠l2:=fun he=>plabs_self hnd h1 (k:=l2) (by simp[hl2]) (he ▸ hk)
    simp[this]
   ·refine .data rfl ?_
    rw[← k5]
    simp only[Nat.add_zero] at k6
    refine Ow.mk_part (ts:=(f.cols.set k v').map encI) (by rw[map_setm];exact k6) (h8.frame fun k hk=>?_)
    have:k≠l2:=fun he=>(List.nodup_append.1 hndq).2.2 l2 hl2 k hk he.symm
    simp[this]
   ·intro j q2 hj hq2 k hk
    have:=(plabs_other hnd h1 hq2 hj hk).2
    have:k≠l2:=fun he=>this (by simp[he,hl2])
    simp[this]
end Go.Proofs.YthiojhcimecdgaaGreatDoor
end
section
namespace Go.Proofs.YthiojhcimecdgaaGreatDoor
open Go Go.Am
end Go.Proofs.YthiojhcimecdgaaGreatDoor
namespace Go.Am
open Go Go.Proofs.YthiojhcimecdgaaGreatDoor
theorem Ow.split {h:HS} {s:Sh} {ss:List Sh} {cs:List C} {x:D} {ds:List D} {ls:List Lab} (o:Ow h (s::ss) cs (x::ds) ls):∃ c cs' l1 l2,cs=c::cs'∧ls=l1++l2∧Ow h [s] [c] [x] l1∧Ow h ss cs' ds l2:=by
 cases o with
 | data hx hr=>exact⟨_,_,[],_,rfl,rfl,.data hx .nil,hr⟩
 | emp hx hr=>exact⟨_,_,[],_,rfl,rfl,.emp hx .nil,hr⟩
 | row hm hq hr=>exact⟨_,_,_,_,rfl,rfl,by simpa using Ow.row hm hq .nil,hr⟩
end Go.Am
namespace Go.Proofs.YthiojhcimecdgaaGreatDoor
open Go Go.Am
end Go.Proofs.YthiojhcimecdgaaGreatDoor
namespace Go.Am
open Go Go.Proofs.YthiojhcimecdgaaGreatDoor
theorem Ow.join {h:HS} {s:Sh} {ss:List Sh} {c:C} {cs:List C} {x:D} {ds:List D} {l1 l2:List Lab} (o:Ow h [s] [c] [x] l1) (o2:Ow h ss cs ds l2):Ow h (s::ss) (c::cs) (x::ds) (l1++l2):=by
 cases o with
 | data hx hr=>obtain⟨_,_,rfl⟩:=hr.inv_nil;exact .data hx o2
 | emp hx hr=>obtain⟨_,_,rfl⟩:=hr.inv_nil;exact .emp hx o2
 | row hm hq hr=>
   obtain⟨_,_,rfl⟩:=hr.inv_nil
   have:=Ow.row hm hq o2
   simpa using this
end Go.Am
namespace Go.Proofs.YthiojhcimecdgaaGreatDoor
open Go Go.Am
end Go.Proofs.YthiojhcimecdgaaGreatDoor
namespace Go.Am
open Go Go.Proofs.YthiojhcimecdgaaGreatDoor
theorem Ow.nlen {h:HS} {es:List Sh} {c:C} {ts:List (List D)} {ls:List Lab} (o:Ow h [.r es] [c] [.sl ts] ls):cLen c=some ts.length∧ts.length≤LIM:=by
 rcases o.inv_r with ⟨c1,cs',ds',e1,e3,e4,h8⟩ | ⟨c1,qs1,cs',ds',ls',e1,e3,_,hm1,_,h8⟩
 ·simp at e1 e3
  obtain⟨rfl,rfl⟩:=e1
  refine⟨?_,by simp[e3]⟩
  cases c<;>simp[C.toD] at e4<;>subst_vars<;>simp[cLen,C.list?,e3]
 ·simp at e1 e3
  obtain⟨rfl,rfl⟩:=e1
  have e4:=congrArg List.length e3.1
  simp at e4
  exact⟨by rw[MR.len hm1];simp[e4],by rw[e4];simpa using hm1.2.1⟩
end Go.Am
namespace Go.Proofs.YthiojhcimecdgaaGreatDoor
open Go Go.Am
end Go.Proofs.YthiojhcimecdgaaGreatDoor
namespace Go.Am
open Go Go.Proofs.YthiojhcimecdgaaGreatDoor
theorem Ow.npart {h:HS} {es:List Sh} {c:C} {ts:List (List D)} {ls:List Lab} (o:Ow h [.r es] [c] [.sl ts] ls) (h0:ts≠[]):∃ qs,ls=plabs c qs∧Part h es c qs ts:=by
 rcases o.inv_part with e | ⟨c1,qs1,cs',ls',e0,rfl,P1,h8⟩
 ·exact absurd e h0
 ·simp at e0
  obtain⟨rfl,rfl⟩:=e0
  obtain⟨_,_,rfl⟩:=h8.inv_nil
  exact⟨qs1,by simp,P1⟩
end Go.Am
namespace Go.Proofs.YthiojhcimecdgaaGreatDoor
open Go Go.Am
end Go.Proofs.YthiojhcimecdgaaGreatDoor
namespace Go.Am
open Go Go.Proofs.YthiojhcimecdgaaGreatDoor
theorem Ow.of_part {h:HS} {es:List Sh} {c:C} {qs:List Q} {ts:List (List D)} (P:Part h es c qs ts):Ow h [.r es] [c] [.sl ts] (plabs c qs):=by
 simpa using Ow.mk_part P (.nil)
end Go.Am
namespace Go.Proofs.YthiojhcimecdgaaGreatDoor
open Go Go.Am
end Go.Proofs.YthiojhcimecdgaaGreatDoor
namespace Go.Am
open Go Go.Proofs.YthiojhcimecdgaaGreatDoor
theorem Ow.nlabs {h:HS} {es:List Sh} {c:C} {ts:List (List D)} {ls:List Lab} (o:Ow h [.r es] [c] [.sl ts] ls):∀ k ∈ labs c,k ∈ ls:=by
 rcases o.inv_r with ⟨c1,cs',ds',e1,e3,e4,h8⟩ | ⟨c1,qs1,cs',ds',ls',e1,e3,rfl,hm1,_,h8⟩
 ·simp at e1
  obtain⟨rfl,rfl⟩:=e1
  cases c<;>simp[C.toD] at e4<;>simp[labs]
 ·simp at e1
  obtain⟨rfl,rfl⟩:=e1
  intro k hk
  simp[hk]
end Go.Am
namespace Go.Proofs.YthiojhcimecdgaaGreatDoor
open Go Go.Am
end Go.Proofs.YthiojhcimecdgaaGreatDoor
namespace Go.Am
open Go Go.Proofs.YthiojhcimecdgaaGreatDoor
theorem Ow.nfrz {h:HS} {es:List Sh} {c:C} {ts:List (List D)} {ls:List Lab} (o:Ow h [.r es] [c] [.sl ts] ls):Frz h c (.sl ts):=o.frz.1
end Go.Am
namespace Go.Proofs.YthiojhcimecdgaaGreatDoor
open Go Go.Am
end Go.Proofs.YthiojhcimecdgaaGreatDoor
namespace Go.Am
open Go Go.Proofs.YthiojhcimecdgaaGreatDoor
theorem Ow.nrow {h:HS} {n:Nat} {es:List Sh} {c:C} {ts:List (List D)} (hm:MR h n c (ts.map (·.map C.d))) (hes:es=List.replicate n .d) (ht:∀ t ∈ ts,t.length=n):Ow h [.r es] [c] [.sl ts] (labs c):=by
 simpa using Ow.rowD hm hes ht .nil
end Go.Am
namespace Go.Proofs.YthiojhcimecdgaaGreatDoor
open Go Go.Am
theorem nodup_mid2 {A X X' B:List Lab} (h:(A++(X++B)).Nodup) (hx:X'.Nodup) (hn:∀ k ∈ X',k ∈ X∨k ∉ A++(X++B)):(A++(X'++B)).Nodup:=by
 simp only[List.nodup_append,List.mem_append,not_or] at h hn ⊢
 obtain⟨hA,⟨hX,hB,hXB⟩,hd⟩:=h
 refine⟨hA,⟨hx,hB,fun a ha b hb=>?_⟩,fun a ha b hb=>?_⟩
 ·rintro rfl
  rcases hn a ha with h1 | h1
  ·exact hXB a h1 a hb rfl
  ·exact h1.2.2 hb
 ·rintro rfl
  rcases hb with hb | hb
  ·rcases hn a hb with h1 | h1
   ·exact hd a ha a (.inl h1) rfl
   ·exact h1.1 ha
  ·exact hd a ha a (.inr hb) rfl
theorem SchC.setT2 {h h':HS} {l:Lab} {S:Sch} {tc tc' fc oc:C} {qt qt' qf qo:List Q} {ts:List Tbl} (s:SchC h l S tc fc oc qt qf qo) (hb:h'.box l=some [tc',fc,oc]) (hp:Part h' TblSh tc' qt' (ts.map Tbl.enc)) (hs:Same h h' (l::plabs tc qt))
  (hnd:(plabs tc' qt').Nodup) (hn:∀ k ∈ plabs tc' qt',k ∈ plabs tc qt∨(k ∉ l::(plabs tc qt++(plabs fc qf++plabs oc qo))∧k.1 < h'.ep)):SchC h' l { S with tables:=ts } tc' fc oc qt' qf qo:=by
 obtain⟨n1,n2,n3,n4,n5⟩:=s.ne
 have hlt:=s.lt
 simp only[List.mem_cons,List.mem_append] at hlt
 refine⟨hb,hp,s.f.frame fun k hk=>hs.2 k (hlt k (.inr (.inr (.inl hk)))) ?_,s.o.frame fun k hk=>hs.2 k (hlt k (.inr (.inr (.inr hk)))) ?_,?_,?_⟩
 ·simp only[List.mem_cons,not_or]
  exact⟨fun he=>n2 (he ▸ hk),fun h6=>(n4 k h6).1 hk⟩
 ·simp only[List.mem_cons,not_or]
  exact⟨fun he=>n3 (he ▸ hk),fun h6=>(n4 k h6).2 hk⟩
 ·have:=nodup_mid2 (A:=[l]) (X:=plabs tc qt) (X':=plabs tc' qt') (B:=plabs fc qf++plabs oc qo) (by simpa using s.nd) hnd (fun k hk=>(hn k hk).imp_right fun h=>by simpa using h.1)
  simpa using this
 ·intro k hk
  have:=hs.1
  simp only[List.mem_cons,List.mem_append] at hk
  rcases hk with hk | hk | hk | hk
  ·have:=hlt k (.inl hk);omega
  ·rcases hn k hk with h1 | h1
   ·have:=hlt k (.inr (.inl h1));omega
   ·exact h1.2
  ·have:=hlt k (.inr (.inr (.inl hk)));omega
  ·have:=hlt k (.inr (.inr (.inr hk)));omega
theorem SchC.setF2 {h h':HS} {l:Lab} {S:Sch} {tc fc fc' oc:C} {qt qf qf' qo:List Q} {fs:List Fk} (s:SchC h l S tc fc oc qt qf qo) (hb:h'.box l=some [tc,fc',oc]) (hp:Part h' FkSh fc' qf' (fs.map Fk.enc)) (hs:Same h h' (l::plabs fc qf))
  (hnd:(plabs fc' qf').Nodup) (hn:∀ k ∈ plabs fc' qf',k ∈ plabs fc qf∨(k ∉ l::(plabs tc qt++(plabs fc qf++plabs oc qo))∧k.1 < h'.ep)):SchC h' l { S with fks:=fs } tc fc' oc qt qf' qo:=by
 obtain⟨n1,n2,n3,n4,n5⟩:=s.ne
 have hlt:=s.lt
 simp only[List.mem_cons,List.mem_append] at hlt
 refine⟨hb,s.t.frame fun k hk=>hs.2 k (hlt k (.inr (.inl hk))) ?_,hp,s.o.frame fun k hk=>hs.2 k (hlt k (.inr (.inr (.inr hk)))) ?_,?_,?_⟩
 ·simp only[List.mem_cons,not_or]
  exact⟨fun he=>n1 (he ▸ hk),(n4 k hk).1⟩
 ·simp only[List.mem_cons,not_or]
  exact⟨fun he=>n3 (he ▸ hk),fun h6=>n5 k h6 hk⟩
 ·have:=nodup_mid2 (A:=l::plabs tc qt) (X:=plabs fc qf) (X':=plabs fc' qf') (B:=plabs oc qo) (by simpa using s.nd) hnd (fun k hk=>(hn k hk).imp_right fun h=>by simpa using h.1)
  simpa using this
 ·intro k hk
  have:=hs.1
  simp only[List.mem_cons,List.mem_append] at hk
  rcases hk with hk | hk | hk | hk
  ·have:=hlt k (.inl hk);omega
  ·have:=hlt k (.inr (.inl hk));omega
  ·rcases hn k hk with h1 | h1
   ·have:=hlt k (.inr (.inr (.inl h1)));omega
   ·exact h1.2
  ·have:=hlt k (.inr (.inr (.inr hk)));omega
theorem set_mid {α:Type} {xs:List α} {i:Nat} {x:α} (h:xs[i]?=some x) (y:α):xs=xs.take i++x::xs.drop (i+1)∧xs.set i y=xs.take i++y::xs.drop (i+1):=by
 obtain⟨hi,rfl⟩:=List.getElem?_eq_some_iff.1 h
 exact⟨by rw[← List.drop_eq_getElem_cons hi,List.take_append_drop],by rw[List.set_eq_take_append_cons_drop,if_pos hi]⟩
theorem plabs_mid {c:C} {xs:List Q} {i:Nat} {x:Q} (h:xs[i]?=some x) (y:Q):plabs c xs=(labs c++(xs.take i).flatMap (·.2.2))++(x.2.2++(xs.drop (i+1)).flatMap (·.2.2))∧plabs c (xs.set i y)=(labs c++(xs.take i).flatMap (·.2.2))++(y.2.2++(xs.drop (i+1)).flatMap (·.2.2)):=by
 obtain⟨h1,h2⟩:=set_mid h y
 refine⟨?_,?_⟩
 ·have:=congrArg (fun zs:List Q=>labs c++zs.flatMap (·.2.2)) h1
  simpa[plabs] using this
 ·rw[plabs,h2]
  simp
theorem plabs_set_nd {c:C} {qs:List Q} {i:Nat} {q q':Q} (hnd:(plabs c qs).Nodup) (hi:qs[i]?=some q) (hq:q'.2.2.Nodup) (hn:∀ k ∈ q'.2.2,k ∈ q.2.2∨k ∉ plabs c qs):(plabs c (qs.set i q')).Nodup:=by
 obtain⟨h1,h2⟩:=plabs_mid (c:=c) hi q'
 rw[h1] at hnd hn
 rw[h2]
 exact nodup_mid2 hnd hq hn
theorem plabs_set_in {c:C} {qs:List Q} {i:Nat} {q q':Q} (hi:qs[i]?=some q) {k:Lab} (hk:k ∈ plabs c (qs.set i q')):k ∈ plabs c qs∨k ∈ q'.2.2:=by
 obtain⟨h1,h2⟩:=plabs_mid (c:=c) hi q'
 rw[h2] at hk
 rw[h1]
 simp only[List.mem_append] at hk ⊢
 rcases hk with (h | h) | h | h
 ·exact .inl (.inl (.inl h))
 ·exact .inl (.inl (.inr h))
 ·exact .inr h
 ·exact .inl (.inr (.inr h))
theorem SchC.updT {h h':HS} {l:Lab} {S:Sch} {tc fc oc:C} {qt qf qo:List Q} {i:Nat} {q:Q} {T':Tbl} {cs':List C} {lq':List Lab} (s:SchC h l S tc fc oc qt qf qo) (hi:qt[i]?=some q) (hm:MR h' 3 tc ((qt.map (·.1)).set i cs')) (ho:Ow h' TblSh cs' T'.enc lq')
  (hs:Same h h' (labs tc++q.2.2)) (hq:lq'.Nodup) (hn:∀ k ∈ lq',k ∈ q.2.2∨(k ∉ l::(plabs tc qt++(plabs fc qf++plabs oc qo))∧k.1 < h'.ep)):SchC h' l { S with tables:=S.tables.set i T' } tc fc oc (qt.set i (cs',T'.enc,lq')) qf qo:=by
 have hnd:=s.nds.1
 have hlt:∀ k ∈ plabs tc qt,k.1 < h.ep:=fun k hk=>s.lt k (by simp[hk])
 have hsub:∀ k ∈ labs tc++q.2.2,k ∈ plabs tc qt:=fun k hk=>by
  rcases List.mem_append.1 hk with h1 | h1
  ·simp[plabs,h1]
  ·exact plabs_mem hi h1
 have hl:h'.box l=h.box l:=hs.2 l (s.lt l (by simp)) fun hk=>s.ne.1 (hsub l hk)
 refine s.setT2 (by rw[hl];exact s.box) ?_ (hs.mono fun k hk=>by simp[hsub k hk]) (plabs_set_nd hnd hi hq fun k hk=>(hn k hk).imp_right fun h2 h3=>h2.1 (by simp[h3])) (fun k hk=>?_)
 ·rw[map_setm]
  refine s.t.upd (q':=(cs',T'.enc,lq')) hi hm ho (fun j q2 hj hq2 k hk=>?_)
  have h1:=plabs_other hnd hi hq2 hj hk
  refine hs.2 k (hlt k (plabs_mem hq2 hk)) fun h2=>?_
  rcases List.mem_append.1 h2 with h2 | h2
  ·exact h1.1 h2
  ·exact h1.2 h2
 ·rcases plabs_set_in hi hk with h1 | h1
  ·exact .inl h1
  ·rcases hn k h1 with h2 | h2
   ·exact .inl (plabs_mem hi h2)
   ·exact .inr h2
theorem Elem.set {h:HS} {lr:Lab} {i n:Nat} {x B:List C} (e:Elem h lr i n x B) {g:Nat} {vs:List C} (hx:x.length=n) (hg:g+vs.length≤n):Elem (h.setBox lr (setCells B (i * n+g) vs)) lr i n (setCells x g vs) (setCells B (i * n+g) vs):=by
 have hle:=e.le
 have h0:=e.rd0 n (Nat.le_refl _)
 have ht:takeN n x=some x:=by simp[takeN,hx,List.take_of_length_le]
 rw[ht] at h0
 obtain⟨h1,h2⟩:=takeN_some h0
 have hB:B=B.take (i * n)++(x++B.drop (i * n+n)):=by
  have e3:=List.take_append_drop n (B.drop (i * n))
  rw[← h2,List.drop_drop] at e3
  rw[e3,List.take_append_drop]
 have hA:(B.take (i * n)).length=i * n:=by simp;omega
 have key:setCells B (i * n+g) vs=B.take (i * n)++(setCells x g vs++B.drop (i * n+n)):=by
  rw[show setCells B (i * n+g) vs=setCells (B.take (i * n)++(x++B.drop (i * n+n))) (i * n+g) vs from congrArg (fun z=>setCells z (i * n+g) vs) hB]
  generalize B.take (i * n)=A at hA ⊢
  generalize B.drop (i * n+n)=Z
  rw[← hA]
  simp only[setCells]
  rw[List.take_length_add_append,Nat.add_assoc,List.drop_length_add_append,List.take_append_of_le_length (by omega),List.drop_append_of_le_length (by omega)]
  simp
 have hsl:(setCells x g vs).length=n:=by rw[setCells_length (by omega)];exact hx
 have rd:∀ g' m,g'+m≤n→takeN m ((setCells B (i * n+g) vs).drop (i * n+g'))=takeN m ((setCells x g vs).drop g'):=fun g' m hm=>by
  rw[key]
  generalize B.take (i * n)=A at hA ⊢
  rw[← hA,List.drop_length_add_append,List.drop_append_of_le_length (by omega)]
  simp only[takeN]
  have:m≤((setCells x g vs).drop g').length:=by simp;omega
  rw[if_pos (by simp at this ⊢;omega),if_pos this,List.take_append_of_le_length this]
 refine⟨by simp,rd,fun m hm=>?_,?_⟩
 ·have:=rd 0 m (by omega)
  simpa using this
 ·rw[setCells_length (by omega)];exact hle
theorem Elem.frame {h h':HS} {lr:Lab} {i n:Nat} {x B:List C} (e:Elem h lr i n x B) (hb:h'.box lr=h.box lr):Elem h' lr i n x B:=⟨by rw[hb];exact e.box,e.rd,e.rd0,e.le⟩
structure TblV (h:HS) (l:Lab) (S:Sch) (tc fc oc:C) (ta fa oa:List Lab) (i:Nat) (T:Tbl) (lt:Lab) (c1 c2:C) (B:List C):Prop where
 el:Elem h lt i 3 [.d (.str T.name),c1,c2] B
 hd:∃ cap,tc=.mrow lt 0 S.tables.length cap
 tm:lt ∈ ta
 f1:∀ h',Same h h' []→Frz h' c1 (.sl (T.cols.map Col.enc))
 f2:∀ h',Same h h' []→Frz h' c2 (.sl (T.pk.map encI))
 n1:cLen c1=some T.cols.length∧T.cols.length≤LIM
 n2:cLen c2=some T.pk.length∧T.pk.length≤LIM
 l1:∀ k ∈ labs c1,k ∈ ta∧k≠lt
 l2:∀ k ∈ labs c2,k ∈ ta∧k≠lt
 l12:∀ k ∈ labs c1,k ∉ labs c2
 m1:T.cols≠[]→MR h 3 c1 (T.cols.map fun c=>c.enc.map C.d)
 m2:T.pk≠[]→MR h 1 c2 (T.pk.map fun c=>(encI c).map C.d)
 e1:∀ (k:Nat) (c:Col),T.cols[k]?=some c→∃ l2 cap2 B2,c1=.mrow l2 0 T.cols.length cap2∧Elem h l2 k 3 (c.enc.map C.d) B2 ∧
  ∀ (g:Nat) (vs:List C) (c':Col),g+vs.length≤3→setCells (c.enc.map C.d) g vs=c'.enc.map C.d→Sc (h.setBox l2 (setCells B2 (k * 3+g) vs)) l { S with tables:=S.tables.set i { T with cols:=T.cols.set k c' } } tc fc oc ta fa oa
 e2:∀ (k:Nat) (v:Int),T.pk[k]?=some v→∃ l2 cap2 B2,c2=.mrow l2 0 T.pk.length cap2∧Elem h l2 k 1 [.d (.int .i64 v)] B2 ∧
  ∀ v',Sc (h.setBox l2 (setCells B2 (k * 1) [.d (.int .i64 v')])) l { S with tables:=S.tables.set i { T with pk:=T.pk.set k v' } } tc fc oc ta fa oa
 s1:∀ (h':HS) (c1':C) (cols':List Col),MR h' 3 c1' (cols'.map fun c=>c.enc.map C.d)→Same h h' (labs c1)→(∀ k ∈ labs c1',k ∈ labs c1∨(k ∉ l::(ta++(fa++oa))∧k.1 < h'.ep)) →
  ∃ ta',Sc (h'.setBox lt (setCells B (i * 3+1) [c1'])) l { S with tables:=S.tables.set i { T with cols:=cols' } } tc fc oc ta' fa oa∧∀ k ∈ ta',k ∈ ta∨k ∈ labs c1'
 s2:∀ (h':HS) (c2':C) (pk':List Int),MR h' 1 c2' (pk'.map fun c=>(encI c).map C.d)→Same h h' (labs c2)→(∀ k ∈ labs c2',k ∈ labs c2∨(k ∉ l::(ta++(fa++oa))∧k.1 < h'.ep)) →
  ∃ ta',Sc (h'.setBox lt (setCells B (i * 3+2) [c2'])) l { S with tables:=S.tables.set i { T with pk:=pk' } } tc fc oc ta' fa oa∧∀ k ∈ ta',k ∈ ta∨k ∈ labs c2'
theorem dmap_len {α:Type} {f:α→List D} {xs:List α}:(xs.map fun c=>(f c).map C.d)=(xs.map f).map (·.map C.d):=by simp
theorem Part.data {h:HS} {n:Nat} {sh:List Sh} {c:C} {qs:List Q} {ds:List (List D)} (P:Part h sh c qs ds) (hsh:sh=List.replicate n .d) (hf:∀ d ∈ ds,∀ x ∈ d,x.flat=true):MR h n c (ds.map (·.map C.d))∧plabs c qs=labs c:=by
 have hd:=P.ds
 subst hd
 have key:∀ q ∈ qs,q.1=q.2.1.map C.d∧q.2.2=[]:=fun q hq=>(P.ow q hq).flat hsh (hf q.2.1 (List.mem_map.2 ⟨q,hq,rfl⟩))
 have e:qs.map (·.1)=(qs.map (·.2.1)).map (·.map C.d):=by
  rw[List.map_map]
  exact List.map_congr_left fun q hq=>(key q hq).1
 have hn:sh.length=n:=by rw[hsh];simp
 refine⟨by rw[← e,← hn];exact P.mr,?_⟩
 have:qs.flatMap (·.2.2)=[]:=by
  rw[List.flatMap_eq_nil_iff]
  exact fun q hq=>(key q hq).2
 rw[plabs,this,List.append_nil]
set_option maxHeartbeats 1000000 in
theorem Sc.tbl {h:HS} {l:Lab} {S:Sch} {tc fc oc:C} {ta fa oa:List Lab} (s:Sc h l S tc fc oc ta fa oa) {i:Nat} {T:Tbl} (hi:S.tables[i]?=some T):∃ lt c1 c2 B,TblV h l S tc fc oc ta fa oa i T lt c1 c2 B:=by
 obtain⟨qt,qf,qo,rfl,rfl,rfl,s⟩:=s
 have hnd:=s.nds.1
 have hlt:∀ k ∈ plabs tc qt,k.1 < h.ep:=fun k hk=>s.lt k (by simp[hk])
 obtain⟨q,lt,cap,sp,h1,h2,h3,h4,h5,h6⟩:=s.t.elem (map_get (f:=Tbl.enc) hi)
 have hm:lt ∈ plabs tc qt:=by rw[h4];simp[plabs,labs]
 rw[TblSh_len] at h5 h6
 obtain⟨qc,qd,ql⟩:=q
 simp only at h2 h3 h6
 subst h2
 obtain⟨c0,x0,cs,ds,rfl,e1,e2,h7⟩:=h3.inv_d
 simp only[Tbl.enc,List.cons.injEq] at e1
 obtain⟨rfl,rfl⟩:=e1
 obtain rfl:=(Frz.data (h:=h) e2).flat rfl
 obtain⟨c1,cs1,lc,lr,rfl,rfl,o1,h8⟩:=h7.split
 obtain⟨c2,cs2,lp,lz,rfl,rfl,o2,h9⟩:=h8.split
 obtain⟨rfl,_,rfl⟩:=h9.inv_nil
 have hndq:=plabs_nd hnd h1
 simp only[List.append_nil,List.nodup_append] at hndq
 obtain⟨nd1,nd2,nd12⟩:=hndq
 have hself:∀ k,k ∈ lc∨k ∈ lp→k ∈ plabs tc qt∧k≠lt:=fun k hk=>⟨plabs_mem h1 (by simpa using hk),fun he=>plabs_self hnd h1 (k:=k) (by simpa using hk) (by rw[he,h4];simp[labs])⟩
 have hset0:(qt.map (·.1)).set i [C.d (.str T.name),c1,c2]=qt.map (·.1):=set_same (map_get (f:=fun q:Q=>q.1) h1)
 have f1':∀ h',(∀ k ∈ lc,h'.box k=h.box k)→Ow h' [.r [.d,.d,.d]] [c1] [.sl (T.cols.map Col.enc)] lc:=fun h' hb=>o1.frame hb
 have f2':∀ h',(∀ k ∈ lp,h'.box k=h.box k)→Ow h' [.r [.d]] [c2] [.sl (T.pk.map encI)] lp:=fun h' hb=>o2.frame hb
 have mk:∀ {h':HS} {c1' c2':C} {T':Tbl} {a b:List Lab},T'.name=T.name→Ow h' [.r [.d,.d,.d]] [c1'] [.sl (T'.cols.map Col.enc)] a→Ow h' [.r [.d]] [c2'] [.sl (T'.pk.map encI)] b→Ow h' TblSh [.d (.str T.name),c1',c2'] T'.enc (a++b):=fun hn x y=>by
  have:=Ow.data (c:=.d (.str T.name)) (x:=.str T.name) rfl (x.join (y.join .nil))
  rw[List.append_nil] at this
  rw[Tbl.enc,hn]
  exact this
 have nw:∀ {l2:Lab} {B2:List C},l2 ∈ lc∨l2 ∈ lp→Same h (h.setBox l2 B2) (labs tc++(lc++(lp++[]))):=fun hl=>Same.set1 (by simpa using .inr hl)
 have mrk:∀ {h':HS},(∀ k,h'.box lt=h.box lt)→MR h' 3 tc ((qt.map (·.1)).set i [C.d (.str T.name),c1,c2]):=fun hb=>by
  rw[hset0]
  exact s.t.mr.frame fun k hk=>by
   rw[h4] at hk
   simp[labs] at hk
   rw[hk];exact hb lt
 have p1:T.cols≠[]→∃ qs1,lc=plabs c1 qs1∧Part h [.d,.d,.d] c1 qs1 (T.cols.map Col.enc):=fun h0=>o1.npart (by simpa using h0)
 have p2:T.pk≠[]→∃ qs2,lp=plabs c2 qs2∧Part h [.d] c2 qs2 (T.pk.map encI):=fun h0=>o2.npart (by simpa using h0)
 have n1:=o1.nlen
 have n2:=o2.nlen
 refine⟨lt,c1,c2,_,h6,⟨cap,by simpa using h4⟩,hm,fun h' hs=>(f1' h' fun k hk=>hs.2 k (hlt k (hself k (.inl hk)).1) (by simp)).nfrz,fun h' hs=>(f2' h' fun k hk=>hs.2 k (hlt k (hself k (.inr hk)).1) (by simp)).nfrz,by simpa using n1,by simpa using n2,
  fun k hk=>⟨(hself k (.inl (o1.nlabs k hk))).1,(hself k (.inl (o1.nlabs k hk))).2⟩,fun k hk=>⟨(hself k (.inr (o2.nlabs k hk))).1,(hself k (.inr (o2.nlabs k hk))).2⟩,fun k hk hk2=>nd12 k (o1.nlabs k hk) k (o2.nlabs k hk2) rfl,fun h0=>?_,fun h0=>?_,fun k c hk=>?_,fun k v hk=>?_,fun h' c1' cols' hm1 hs1 hl1=>?_,fun h' c2' pk' hm2 hs2 hl2=>?_⟩
 ·obtain⟨qs1,_,P1⟩:=p1 h0
  rw[dmap_len]
  exact (P1.data (n:=3) rfl (by simp[D.flat])).1
 ·obtain⟨qs2,_,P2⟩:=p2 h0
  rw[dmap_len]
  exact (P2.data (n:=1) rfl (by simp[D.flat])).1
 ·obtain⟨qs1,rfl,P1⟩:=p1 (fun h0=>by rw[h0] at hk;simp at hk)
  obtain⟨l2,cap2,B2,k1,k2,k3,k4⟩:=P1.elemD (n:=3) rfl (map_get (f:=Col.enc) hk) c.flat
  have hl2:l2 ∈ plabs c1 qs1:=by rw[k1];simp[plabs,labs]
  refine⟨l2,cap2,B2,by simpa using k1,k2,fun g vs c' hg hset=>?_⟩
  obtain⟨qs1',k5,k6⟩:=k4 g vs c'.enc nd1 hg hset rfl
  have ho:=mk (h':=h.setBox l2 (setCells B2 (k * 3+g) vs)) (T':={ T with cols:=T.cols.set k c' }) rfl (by rw[map_setm];exact k5 ▸ Ow.of_part k6) (f2' _ fun k' hk'=>by
   have:k'≠l2:=fun he=>nd12 l2 hl2 k' hk' he.symm
   simp[this])
  have:=s.updT h1 (mrk fun _=>by have:=(hself l2 (.inl hl2)).2;simp[this.symm]) ho (nw (.inl hl2)) (by rw[List.nodup_append];exact⟨nd1,nd2,nd12⟩) (fun k hk=>.inl (by simpa using hk))
  exact⟨_,qf,qo,(plabs_set h1 (by simp)).symm,rfl,rfl,this⟩
 ·obtain⟨qs1,rfl,P1⟩:=p2 (fun h0=>by rw[h0] at hk;simp at hk)
  obtain⟨l2,cap2,B2,k1,k2,k3,k4⟩:=P1.elemD (n:=1) rfl (map_get (f:=encI) hk) (encI_flat v)
  have hl2:l2 ∈ plabs c2 qs1:=by rw[k1];simp[plabs,labs]
  refine⟨l2,cap2,B2,by simpa using k1,k2,fun v'=>?_⟩
  obtain⟨qs1',k5,k6⟩:=k4 0 [.d (.int .i64 v')] [.int .i64 v'] nd2 (by simp) (by simp) (by simp)
  simp only[Nat.add_zero] at k6
  have ho:=mk (h':=h.setBox l2 (setCells B2 (k * 1) [.d (.int .i64 v')])) (T':={ T with pk:=T.pk.set k v' }) rfl (f1' _ fun k' hk'=>by
   have:k'≠l2:=fun he=>nd12 k' hk' l2 hl2 he
   simp[this]) (by rw[map_setm];exact k5 ▸ Ow.of_part k6)
  have:=s.updT h1 (mrk fun _=>by have:=(hself l2 (.inr hl2)).2;simp[this.symm]) ho (nw (.inr hl2)) (by rw[List.nodup_append];exact⟨nd1,nd2,nd12⟩) (fun k hk=>.inl (by simpa using hk))
  exact⟨_,qf,qo,(plabs_set h1 (by simp)).symm,rfl,rfl,this⟩
 ·have hlt2:h'.box lt=h.box lt:=hs1.2 lt (hlt lt hm) fun hk=>(hself lt (.inl (o1.nlabs lt hk))).2 rfl
  have hn1:∀ k ∈ labs c1',k≠lt∧k ∉ lp∧(k ∈ lc∨(k ∉ l::(plabs tc qt++(plabs fc qf++plabs oc qo))∧k.1 < h'.ep)):=fun k hk=>by
   rcases hl1 k hk with h2 | h2
   ·have:=o1.nlabs k h2
    exact⟨(hself k (.inl this)).2,fun h3=>nd12 k this k h3 rfl,.inl this⟩
   ·exact⟨fun he=>h2.1 (by simp[he,hm]),fun h3=>h2.1 (by simp[(hself k (.inr h3)).1]),.inr h2⟩
  have ho:=mk (h':=h'.setBox lt (setCells (rowBox (qt.map (·.1)) sp) (i * 3+1) [c1'])) (c2':=c2) (T':={ T with cols:=cols' }) rfl (Ow.nrow (n:=3) (by
    rw[← dmap_len]
    exact hm1.frame fun k hk=>by simp[(hn1 k hk).1]) rfl (by simp)) (f2' _ fun k' hk'=>by
   have h2:=hself k' (.inr hk')
   have:h'.box k'=h.box k':=hs1.2 k' (hlt k' h2.1) fun h3=>nd12 k' (o1.nlabs k' h3) k' hk' rfl
   simp[h2.2,this])
  have hset:=row_set (sp:=sp) (vs:=[c1']) (f:=1) s.t.mr.1 (map_get (f:=fun q:Q=>q.1) h1) (by simp[TblSh])
  simp only[TblSh_len] at hset
  have:=s.updT (T':={ T with cols:=cols' }) h1 (h':=h'.setBox lt (setCells (rowBox (qt.map (·.1)) sp) (i * 3+1) [c1'])) (cs':=[.d (.str T.name),c1',c2]) (lq':=labs c1'++lp) ?_ ho ?_ ?_ ?_
  ·refine⟨_,⟨_,qf,qo,rfl,rfl,rfl,this⟩,fun k hk=>?_⟩
   rcases plabs_set_in h1 hk with h2 | h2
   ·exact .inl h2
   ·simp only[List.mem_append] at h2
    rcases h2 with h2 | h2
    ·exact .inr h2
    ·exact .inl (hself k (.inr h2)).1
  ·refine⟨s.t.mr.1.set (by simp[TblSh]),by simpa using s.t.mr.2.1,.inr ⟨lt,cap,sp,?_,by simp[hset],?_⟩⟩
   ·have e3:qt.length=S.tables.length:=by have:=congrArg List.length s.t.ds;simpa using this
    rw[h4];simp[e3]
   ·have e4:rowBox ((qt.map (·.1)).set i [.d (.str T.name),c1',c2]) sp=setCells (rowBox (qt.map (·.1)) sp) (i * 3+1) [c1']:=by rw[hset];simp
    rw[e4,setCells_length (by have:=h6.le;simp;omega)]
    exact h5
  ·exact (hs1.mono fun k hk=>by simp[o1.nlabs k hk]).setBox (.inl (by rw[h4];simp[labs]))
  ·rw[List.nodup_append]
   exact⟨labs_nodup,nd2,fun a ha b hb he=>(hn1 a ha).2.1 (he ▸ hb)⟩
  ·intro k hk
   rcases List.mem_append.1 hk with h2 | h2
   ·exact (hn1 k h2).2.2.imp (fun h3=>by simp[h3]) id
   ·exact .inl (by simp[h2])
 ·have hlt2:h'.box lt=h.box lt:=hs2.2 lt (hlt lt hm) fun hk=>(hself lt (.inr (o2.nlabs lt hk))).2 rfl
  have hn1:∀ k ∈ labs c2',k≠lt∧k ∉ lc∧(k ∈ lp∨(k ∉ l::(plabs tc qt++(plabs fc qf++plabs oc qo))∧k.1 < h'.ep)):=fun k hk=>by
   rcases hl2 k hk with h2 | h2
   ·have:=o2.nlabs k h2
    exact⟨(hself k (.inr this)).2,fun h3=>nd12 k h3 k this rfl,.inl this⟩
   ·exact⟨fun he=>h2.1 (by simp[he,hm]),fun h3=>h2.1 (by simp[(hself k (.inl h3)).1]),.inr h2⟩
  have ho:=mk (h':=h'.setBox lt (setCells (rowBox (qt.map (·.1)) sp) (i * 3+2) [c2'])) (c1':=c1) (T':={ T with pk:=pk' }) rfl (f1' _ fun k' hk'=>by
   have h2:=hself k' (.inl hk')
   have:h'.box k'=h.box k':=hs2.2 k' (hlt k' h2.1) fun h3=>nd12 k' hk' k' (o2.nlabs k' h3) rfl
   simp[h2.2,this]) (Ow.nrow (n:=1) (by
    rw[← dmap_len]
    exact hm2.frame fun k hk=>by simp[(hn1 k hk).1]) rfl (by simp))
  have hset:=row_set (sp:=sp) (vs:=[c2']) (f:=2) s.t.mr.1 (map_get (f:=fun q:Q=>q.1) h1) (by simp[TblSh])
  simp only[TblSh_len] at hset
  have:=s.updT (T':={ T with pk:=pk' }) h1 (h':=h'.setBox lt (setCells (rowBox (qt.map (·.1)) sp) (i * 3+2) [c2'])) (cs':=[.d (.str T.name),c1,c2']) (lq':=lc++labs c2') ?_ ho ?_ ?_ ?_
  ·refine⟨_,⟨_,qf,qo,rfl,rfl,rfl,this⟩,fun k hk=>?_⟩
   rcases plabs_set_in h1 hk with h2 | h2
   ·exact .inl h2
   ·simp only[List.mem_append] at h2
    rcases h2 with h2 | h2
    ·exact .inl (hself k (.inl h2)).1
    ·exact .inr h2
  ·refine⟨s.t.mr.1.set (by simp[TblSh]),by simpa using s.t.mr.2.1,.inr ⟨lt,cap,sp,?_,by simp[hset],?_⟩⟩
   ·have e3:qt.length=S.tables.length:=by have:=congrArg List.length s.t.ds;simpa using this
    rw[h4];simp[e3]
   ·have e4:rowBox ((qt.map (·.1)).set i [.d (.str T.name),c1,c2']) sp=setCells (rowBox (qt.map (·.1)) sp) (i * 3+2) [c2']:=by rw[hset];simp
    rw[e4,setCells_length (by have:=h6.le;simp;omega)]
    exact h5
  ·exact (hs2.mono fun k hk=>by simp[o2.nlabs k hk]).setBox (.inl (by rw[h4];simp[labs]))
  ·rw[List.nodup_append]
   exact⟨nd1,labs_nodup,fun a ha b hb he=>(hn1 b hb).2.1 (he ▸ ha)⟩
  ·intro k hk
   rcases List.mem_append.1 hk with h2 | h2
   ·exact .inl (by simp[h2])
   ·exact (hn1 k h2).2.2.imp (fun h3=>by simp[h3]) id
theorem Sc.tblK {h:HS} {l:Lab} {S:Sch} {fc oc:C} {ta fa oa:List Lab} {lr:Lab} {n cap i:Nat} {B:List C} {T:Tbl} (s:Sc h l S (.mrow lr 0 n cap) fc oc ta fa oa) (hb:h.box lr=some B) (hi:S.tables[i]?=some T):∃ c1 c2,TblV h l S (.mrow lr 0 n cap) fc oc ta fa oa i T lr c1 c2 B:=by
 obtain⟨lt,c1,c2,B2,v⟩:=s.tbl hi
 obtain⟨cap2,e⟩:=v.hd
 simp at e
 obtain⟨rfl,-,-⟩:=e
 have e2:=v.el.box
 rw[hb] at e2
 cases e2
 exact⟨c1,c2,v⟩
end Go.Proofs.YthiojhcimecdgaaGreatDoor
end
section
namespace Go.Proofs.YthiojhcimecdgaaGreatDoor
open Go Go.Am
theorem Part.add {h h':HS} {sh:List Sh} {c c':C} {qs:List Q} {ds:List (List D)} {x:List C} {d:List D} {lx:List Lab} (P:Part h sh c qs ds) (hnd:(plabs c qs).Nodup) (hlt:∀ k ∈ plabs c qs,k.1 < h.ep) (hm:MR h' sh.length c' (qs.map (·.1)++[x])) (hs:Same h h' (labs c)) (ho:Ow h' sh x d lx) :
  Part h' sh c' (qs++[(x,d,lx)]) (ds++[d]):=by
 have hd:=P.ds
 subst hd
 refine⟨by simpa using hm,by simp,fun q hq=>?_⟩
 rcases List.mem_append.1 hq with hq | hq
 ·refine (P.ow q hq).frame fun k hk=>?_
  obtain⟨i,hi⟩:=List.getElem?_of_mem hq
  exact hs.2 k (hlt k (plabs_mem hi hk)) (plabs_self hnd hi hk)
 ·simp at hq
  subst hq
  exact ho
theorem plabs_add {c c':C} {qs:List Q} {x:List C} {d:List D} {lx:List Lab} {ep:Nat} (hnd:(plabs c qs).Nodup) (hlt:∀ k ∈ plabs c qs,k.1 < ep) (hc:∀ k ∈ labs c',k ∈ labs c∨ep≤k.1) (hx:lx.Nodup) (hx2:∀ k ∈ lx,k ∉ plabs c qs∧k ∉ labs c'):(plabs c' (qs++[(x,d,lx)])).Nodup:=by
 simp only[plabs,List.flatMap_append,List.flatMap_cons,List.flatMap_nil,List.append_nil,List.nodup_append,List.mem_append] at hnd hlt hx2 ⊢
 refine⟨labs_nodup,⟨hnd.2.1,hx,fun a ha b hb he=>(hx2 b hb).1 (.inr (he ▸ ha))⟩,fun a ha b hb he=>?_⟩
 subst he
 rcases hb with hb | hb
 ·rcases hc a ha with h1 | h1
  ·exact hnd.2.2 a h1 a hb rfl
  ·have:=hlt a (.inr hb);omega
 ·exact (hx2 a hb).2 ha
theorem plabs_add_mem {c':C} {qs:List Q} {x:List C} {d:List D} {lx:List Lab} {k:Lab} (hk:k ∈ plabs c' (qs++[(x,d,lx)])):k ∈ labs c'∨k ∈ qs.flatMap (·.2.2)∨k ∈ lx:=by
 simpa[plabs] using hk
def Adds (h:HS) (n:Nat) (c:C) (len:Nat) (sh:List Sh) (own:List Lab) (R:HS→C→List D→List Lab→Prop):Prop:=∃ xs,MR h n c xs∧xs.length=len ∧
 ∀ (h':HS) (c':C) (x:List C) (d:List D) (lx:List Lab),MR h' n c' (xs++[x])→Same h h' (labs c)→(∀ k ∈ labs c',k ∈ labs c∨(h.ep≤k.1∧k.1 < h'.ep))→Ow h' sh x d lx→lx.Nodup→(∀ k ∈ lx,k.1 < h'.ep∧k ∉ own∧k ∉ labs c')→R h' c' d lx
theorem Sc.addT {h:HS} {l:Lab} {S:Sch} {tc fc oc:C} {ta fa oa:List Lab} (s:Sc h l S tc fc oc ta fa oa):Adds h 3 tc S.tables.length TblSh (l::(ta++(fa++oa))) fun h' c' d lx=>∀ T,d=Tbl.enc T →
  ∃ ta',Sc (h'.setBox l [c',fc,oc]) l { S with tables:=S.tables++[T] } c' fc oc ta' fa oa∧∀ k ∈ ta',k ∈ ta∨k ∈ lx∨h.ep≤k.1:=by
 obtain⟨qt,qf,qo,rfl,rfl,rfl,s⟩:=s
 have hlen:qt.length=S.tables.length:=by have:=congrArg List.length s.t.ds;simpa using this
 have hlt:∀ k ∈ plabs tc qt,k.1 < h.ep:=fun k hk=>s.lt k (by simp[hk])
 refine⟨qt.map (fun q:Q=>q.1),s.t.mr,by simpa using hlen,fun h' c' x d lx hm hs hl ho hx hx2 T hd=>?_⟩
 subst hd
 have hp:=s.t.add s.nds.1 hlt hm hs ho
 have hnl:∀ k ∈ plabs c' (qt++[(x,T.enc,lx)]),k≠l:=fun k hk he=>by
  subst he
  rcases plabs_add_mem hk with h1 | h1 | h1
  ·rcases hl k h1 with h2 | h2
   ·exact s.ne.1 (by simp[plabs,h2])
   ·have:=s.lt k (by simp);omega
  ·exact s.ne.1 (by simp[plabs];right;simpa using h1)
  ·exact (hx2 k h1).2.1 (by simp)
 refine⟨_,⟨_,qf,qo,rfl,rfl,rfl,s.setT2 (by simp) (qt':=qt++[(x,T.enc,lx)]) (by simpa using hp.frame fun k hk=>by simp[hnl k hk]) ((hs.mono fun k hk=>by simp[plabs,hk]).setBox (.inl (by simp))) (plabs_add s.nds.1 hlt (fun k hk=>(hl k hk).imp_right And.left) hx fun k hk=>⟨fun h2=>(hx2 k hk).2.1 (by simp[h2]),(hx2 k hk).2.2⟩) fun k hk=>?_⟩,fun k hk=>?_⟩
 ·rcases plabs_add_mem hk with h1 | h1 | h1
  ·rcases hl k h1 with h2 | h2
   ·exact .inl (by simp[plabs,h2])
   ·exact .inr ⟨fun h3=>by have:=s.lt k h3;omega,by simpa using h2.2⟩
  ·exact .inl (by simp[plabs];right;simpa using h1)
  ·exact .inr ⟨(hx2 k h1).2.1,by simpa using (hx2 k h1).1⟩
 ·rcases plabs_add_mem hk with h1 | h1 | h1
  ·rcases hl k h1 with h2 | h2
   ·exact .inl (by simp[plabs,h2])
   ·exact .inr (.inr h2.1)
  ·exact .inl (by simp[plabs];right;simpa using h1)
  ·exact .inr (.inl h1)
theorem Sc.addF {h:HS} {l:Lab} {S:Sch} {tc fc oc:C} {ta fa oa:List Lab} (s:Sc h l S tc fc oc ta fa oa):Adds h 3 fc S.fks.length FkSh (l::(ta++(fa++oa))) fun h' c' d lx=>∀ T,d=Fk.enc T →
  ∃ fa',Sc (h'.setBox l [tc,c',oc]) l { S with fks:=S.fks++[T] } tc c' oc ta fa' oa∧∀ k ∈ fa',k ∈ fa∨k ∈ lx∨h.ep≤k.1:=by
 obtain⟨qt,qf,qo,rfl,rfl,rfl,s⟩:=s
 have hlen:qf.length=S.fks.length:=by have:=congrArg List.length s.f.ds;simpa using this
 have hlt:∀ k ∈ plabs fc qf,k.1 < h.ep:=fun k hk=>s.lt k (by simp[hk])
 refine⟨qf.map (fun q:Q=>q.1),s.f.mr,by simpa using hlen,fun h' c' x d lx hm hs hl ho hx hx2 T hd=>?_⟩
 subst hd
 have hp:=s.f.add s.nds.2.1 hlt hm hs ho
 have hnl:∀ k ∈ plabs c' (qf++[(x,T.enc,lx)]),k≠l:=fun k hk he=>by
  subst he
  rcases plabs_add_mem hk with h1 | h1 | h1
  ·rcases hl k h1 with h2 | h2
   ·exact s.ne.2.1 (by simp[plabs,h2])
   ·have:=s.lt k (by simp);omega
  ·exact s.ne.2.1 (by simp[plabs];right;simpa using h1)
  ·exact (hx2 k h1).2.1 (by simp)
 refine⟨_,⟨qt,_,qo,rfl,rfl,rfl,s.setF2 (by simp) (qf':=qf++[(x,T.enc,lx)]) (by simpa using hp.frame fun k hk=>by simp[hnl k hk]) ((hs.mono fun k hk=>by simp[plabs,hk]).setBox (.inl (by simp))) (plabs_add s.nds.2.1 hlt (fun k hk=>(hl k hk).imp_right And.left) hx fun k hk=>⟨fun h2=>(hx2 k hk).2.1 (by simp[h2]),(hx2 k hk).2.2⟩) fun k hk=>?_⟩,fun k hk=>?_⟩
 ·rcases plabs_add_mem hk with h1 | h1 | h1
  ·rcases hl k h1 with h2 | h2
   ·exact .inl (by simp[plabs,h2])
   ·exact .inr ⟨fun h3=>by have:=s.lt k h3;omega,by simpa using h2.2⟩
  ·exact .inl (by simp[plabs];right;simpa using h1)
  ·exact .inr ⟨(hx2 k h1).2.1,by simpa using (hx2 k h1).1⟩
 ·rcases plabs_add_mem hk with h1 | h1 | h1
  ·rcases hl k h1 with h2 | h2
   ·exact .inl (by simp[plabs,h2])
   ·exact .inr (.inr h2.1)
  ·exact .inl (by simp[plabs];right;simpa using h1)
  ·exact .inr (.inl h1)
end Go.Proofs.YthiojhcimecdgaaGreatDoor
namespace Go.Am
open Go Go.Proofs.YthiojhcimecdgaaGreatDoor
theorem Ow.ofD {h:HS} {ss:List Sh} {cs:List C} {ds:List D} {ls:List Lab} (o:Ow h ss cs ds ls):∀ {xs:List D},toDs cs=some xs→xs=ds∧∀ h',Ow h' ss (ds.map C.d) ds []:=by
 induction o with
 | nil=>intro xs hx;simp at hx;exact⟨hx,fun _=>.nil⟩
 | @data c x ss cs ds ls hx hr ih=>
   intro xs h1
   simp only[toDs,hx] at h1
   cases h2:toDs cs with
   | none=>rw[h2] at h1;cases h1
   | some ys=>
     rw[h2] at h1
     simp at h1
     obtain⟨h3,h4⟩:=ih h2
     subst h1 h3
     exact⟨rfl,fun h'=>.data rfl (h4 h')⟩
 | @emp es c ss cs ds ls hx hr ih=>
   intro xs h1
   simp only[toDs,hx] at h1
   cases h2:toDs cs with
   | none=>rw[h2] at h1;cases h1
   | some ys=>
     rw[h2] at h1
     simp at h1
     obtain⟨h3,h4⟩:=ih h2
     subst h1 h3
     exact⟨rfl,fun h'=>.emp rfl (h4 h')⟩
 | @row es c qs ss cs ds ls hm hq hr ihq ih=>
   intro xs h1
   have h0:c.toD=some (.sl [])∧qs=[]∨c.toD=none:=by
    rcases hm.2.2 with ⟨h2,rfl | rfl⟩ | ⟨l,cap,sp,rfl,_,_⟩
    ·exact .inl ⟨rfl,by simpa using h2⟩
    ·exact .inl ⟨rfl,by simpa using h2⟩
    ·exact .inr rfl
   rcases h0 with ⟨h0,rfl⟩ | h0
   ·simp only[toDs,h0] at h1
    cases h2:toDs cs with
    | none=>rw[h2] at h1;cases h1
    | some ys=>
      rw[h2] at h1
      simp at h1
      obtain⟨h3,h4⟩:=ih h2
      subst h1 h3
      exact⟨rfl,fun h'=>.emp rfl (h4 h')⟩
   ·simp[toDs,h0] at h1
end Go.Am
namespace Go.Proofs.YthiojhcimecdgaaGreatDoor
open Go Go.Am
theorem bld_ow {x:List C} {f:List (List D)→Prop} {g:List C→Prop} {a:Option (List (List D))} {b:Option (List C)} (ha:a=(toDs x).map fun d=>[d]) (hb:b=some x) (h1:∀ d,toDs x=some d→f [d]) (h2:toDs x=none→g x):bldV a b (k:=⟨f⟩) (q:=⟨g⟩):=by
 subst ha hb
 cases hx:toDs x with
 | none=>exact h2 hx
 | some d=>exact h1 d hx
end Go.Proofs.YthiojhcimecdgaaGreatDoor
namespace Go.Am
open Go Go.Proofs.YthiojhcimecdgaaGreatDoor
theorem RowAt.own1 {h:HS} {n:Nat} {l:Lab} {d:List D} (hd:d.length=n):RowAt h n (.own l [d]) [d.map C.d]:=by
 refine⟨by simp[rowCells,C.list?,hd],by simp[cLen,C.list?],by simp[AllC,hd],by simp⟩
end Go.Am
namespace Go.Proofs.YthiojhcimecdgaaGreatDoor
open Go Go.Am
end Go.Proofs.YthiojhcimecdgaaGreatDoor
namespace Go.Am
open Go Go.Proofs.YthiojhcimecdgaaGreatDoor
theorem RowAt.new1 {h:HS} {n:Nat} {l:Lab} {x:List C} (hx:x.length=n) (hb:h.box l=some x):RowAt h n (.mrow l 0 1 1) [x]:=by
 have:MR h n (.mrow l 0 1 1) [x]:=⟨by simp[AllC,hx],by simp,.inr ⟨l,1,[],rfl,by simpa[rowBox] using hb,by simp[rowBox,hx]⟩⟩
 exact this.rd
end Go.Am
namespace Go.Proofs.YthiojhcimecdgaaGreatDoor
open Go Go.Am
theorem Sc.hlabs {h:HS} {l:Lab} {S:Sch} {tc fc oc:C} {ta fa oa:List Lab} (s:Sc h l S tc fc oc ta fa oa):(∀ k ∈ labs tc,k ∈ ta)∧(∀ k ∈ labs fc,k ∈ fa)∧(∀ k ∈ labs oc,k ∈ oa):=by
 obtain⟨qt,qf,qo,rfl,rfl,rfl,s⟩:=s
 exact⟨fun k hk=>by simp[plabs,hk],fun k hk=>by simp[plabs,hk],fun k hk=>by simp[plabs,hk]⟩
theorem Sc.nl {h:HS} {l:Lab} {S:Sch} {tc fc oc:C} {ta fa oa:List Lab} (s:Sc h l S tc fc oc ta fa oa):l ∉ ta∧l ∉ fa∧l ∉ oa:=by
 obtain⟨qt,qf,qo,rfl,rfl,rfl,s⟩:=s
 exact⟨s.ne.1,s.ne.2.1,s.ne.2.2.1⟩
theorem Sc.keep {h h':HS} {l:Lab} {S:Sch} {tc fc oc:C} {ta fa oa ls:List Lab} (s:Sc h l S tc fc oc ta fa oa) (hs:Same h h' ls) (hl:∀ k ∈ ls,k ∈ ta∨k ∈ fa∨k ∈ oa):h'.box l=some [tc,fc,oc]:=by
 rw[hs.2 l (s.lt l (by simp)) fun hk=>?_]
 ·exact s.box
 ·have:=s.nl
  rcases hl l hk with h1 | h1 | h1
  ·exact this.1 h1
  ·exact this.2.1 h1
  ·exact this.2.2 h1
theorem Sc.frame2 {h h':HS} {l:Lab} {S:Sch} {tc fc oc:C} {ta fa oa lz:List Lab} (s:Sc h l S tc fc oc ta fa oa) (hs:Same h h' lz) (hd:∀ k ∈ lz,k ∉ l::(ta++(fa++oa))):Sc h' l S tc fc oc ta fa oa:=by
 obtain⟨qt,qf,qo,rfl,rfl,rfl,s⟩:=s
 have hb:∀ k ∈ l::(plabs tc qt++(plabs fc qf++plabs oc qo)),h'.box k=h.box k:=fun k hk=>hs.2 k (s.lt k hk) fun h1=>hd k h1 hk
 have hb1:=hb
 simp only[List.mem_cons,List.mem_append] at hb
 exact⟨qt,qf,qo,rfl,rfl,rfl,by rw[hb l (.inl rfl),s.box],s.t.frame fun k hk=>hb k (.inr (.inl hk)),s.f.frame fun k hk=>hb k (.inr (.inr (.inl hk))),s.o.frame fun k hk=>hb k (.inr (.inr (.inr hk))),s.nd,fun k hk=>Nat.lt_of_lt_of_le (s.lt k hk) hs.1⟩
end Go.Proofs.YthiojhcimecdgaaGreatDoor
end
section
namespace Go.Proofs.YthiojhcimecdgaaGreatDoor
open Go Go.Am
theorem overlaps_apart {h:HS} {lv l:Lab} {vs:List (List D)} {nv ev off k cap:Nat} {cs:List C} (ha:h.arr lv=some (nv,ev)) (hnv:0 < nv) (hb:h.box l=some cs) (h0:0 < cs.length) :
  XSpec Tryz.prog 149 [.one (.own lv vs),.one (.mrow l off k cap)] h (.one (.d (.bool false))):=by
 intro Γ μ w vals hI hR
 obtain⟨hsz,hg⟩:=hR
 obtain⟨u0,hu0,r0⟩:=hg 0 _ rfl
 obtain⟨u1,hu1,r1⟩:=hg 1 _ rfl
 have hv:vals=#[u0,u1]:=by
  apply Array.ext_getElem?
  intro i
  match i with
  | 0=>simpa using hu0
  | 1=>simpa using hu1
  | i+2=>rw[Array.getElem?_eq_none (by simp at hsz;omega)];simp
 subst hv
 obtain⟨_,g,gcap,hlv,rfl⟩:=(show RepC μ (.own lv vs) u0 from r0)
 obtain⟨b,kk,hl,rfl,_⟩:=(show RepC μ (.mrow l off k cap) u1 from r1)
 refine⟨.bool false,?_,RepD.bool _⟩
 rw[run_callFunc_extern (fn:=Tryz.f149) Tryz.func149 (by kernel_rfl) (by kernel_rfl) (by kernel_rfl) (e:=Extern.SlicesOverlaps.overlaps #[40,40] #[4]) (by kernel_rfl)]
 obtain⟨b2,n2,T2,conc2,hl2,_,hh2,hR2,_⟩:=hI.box l cs hb
 rw[hl] at hl2
 cases hl2
 obtain⟨gc,hgc,hrow⟩:=hI.arr lv ev nv ha
 rw[hlv] at hgc
 cases hgc
 cases g with
 | none=>
   have:=(hrow.1 rfl).2
   omega
 | some g=>
   obtain⟨_,T1,cur,hh1,_⟩:=hrow.2 g rfl
   have hne:g≠b:=by
    rintro rfl
    have:=hI.inj lv l g gcap kk (.inr (by rw[ha];simp)) (.inl (by rw[hb];simp)) hlv hl
    subst this
    exact hI.both lv (by rw[hb];simp) (by rw[ha];simp)
   have hcl:conc2.size=cs.length:=hR2.1
   obtain⟨i,z,hu,hi,hsz,_⟩:=elT_some ty_el40
   show Result.andThen (Sem.run Tryz.prog (Extern.SlicesOverlaps.overlaps #[40,40] #[4] #[.slice (some ⟨g,0,none⟩) vs.length gcap,.slice (some ⟨b,off,none⟩) k cap]) w) _=_
   rw[Lib.run_overlaps_apart w 40 4 44 hu i.size (fun w=>by simp[sizeOf,typeInfo,hi]) ⟨g,0,none⟩ ⟨b,off,none⟩ vs.length gcap k cap hne T1 T2 cur.size conc2.size (by simp[World.shape?,hh1]) (by simp[World.shape?,hh2]) (by omega) (by simp[World.frozen?,hh1]) (by simp[World.frozen?,hh1])]
   rfl
def ones (rs:List C):List (List C):=rs.map fun r=>[r]
theorem ones_flat:∀ rs:List C,(ones rs).flatten=rs
 | []=>rfl
 | r::rs=>by
   have:=ones_flat rs
   simp only[ones] at this
   simp[ones,this]
theorem ones_all (rs:List C):AllC 1 (ones rs):=by
 intro x hx
 obtain⟨y,_,rfl⟩:=List.mem_map.1 hx
 rfl
theorem ones_len (rs:List C):(ones rs).length=rs.length:=by simp[ones]
theorem ones_box (rs sp:List C):rowBox (ones rs) sp=rs++sp:=by rw[rowBox,ones_flat]
theorem ones_mr {h:HS} {l:Lab} {cap:Nat} {rs sp:List C} (hb:h.box l=some (rs++sp)) (hl:rs.length+sp.length=cap) (hlim:rs.length≤2097152):MR h 1 (.mrow l 0 rs.length cap) (ones rs):=
 ⟨ones_all rs,by rw[ones_len];exact hlim,.inr ⟨l,cap,sp,by rw[ones_len],by rw[ones_box];exact hb,by rw[ones_box];simp[hl]⟩⟩
theorem ones_cells {h:HS} {l:Lab} {cs:List C} {off k cap:Nat} (hb:h.box l=some cs) (hk:off+k≤cs.length):rowCells h 1 (.mrow l off k cap)=some ((cs.drop off).take k):=by
 simp only[rowCells,hb,takeN,Nat.mul_one]
 rw[if_pos (by simp;omega)]
theorem setCells_app {a b vs:List C} {n:Nat} (hn:n=a.length):setCells (a++b) n vs=a++vs++b.drop vs.length:=by
 subst hn
 simp[setCells,List.append_assoc]
theorem copyK_row {P:Program} {ty el:TypeId} {n by_ off k cap m mk:Nat} {l:Lab} {x:C} {h:HS} {new cs cs':List C} {f:V→HS→Prop} (hel:elT P ty=some (el,n,by_)) (hx:rowCells h n x=some new) (hm:cLen x=some m) (hb:h.box l=some cs) (h0:0 < n) (hnew:new.length=m * n) (hfit:off+k * n≤cs.length)
  (hmk:min m k=mk) (hcs:setCells cs off (new.take (mk * n))=cs') (hk:f (dint .i64 (mk:Int)) (h.setBox l cs')):copyK P ty (.mrow l off k cap) x h (K:=⟨f⟩):=by
 unfold copyK vcCopy
 simp only[hel,hx,hm,hb]
 refine⟨⟨h0,hnew,hfit⟩,?_⟩
 rw[hmk,hcs]
 exact hk
set_option maxHeartbeats 2000000 in
theorem h_slices_Insert_Row (h:HS) (c:C) (rs:List C) (lv:Lab) (d:List D) (i:Nat) (hm:MR h 1 c (ones rs)) (hlb:∀ k ∈ labs c,k.1 < h.ep) (hi:i≤rs.length) (ha:h.arr lv=some (1,1)) (hd:d.length=1) (hlim:rs.length+1≤2097152) (K:V→HS→Prop)
  (hk:∀ c' h',MR h' 1 c' (ones (rs.take i++d.map C.d++rs.drop i))→Same h h' (labs c)→(∀ k ∈ labs c',k ∈ labs c∨(h.ep≤k.1∧k.1 < h'.ep))→K (.one c') h') :
  HSpec Tryz.prog 124 [.one c,.one (.d (.int .i64 (i:Int))),.one (.own lv [d])] h K:=by
 obtain⟨v,rfl⟩:∃ v,d=[v]:=by
  match d,hd with
  | [v],_=>exact⟨v,rfl⟩
 refine HSpec.of_vc Tryz.func124 rfl (by kernel_rfl) (n:=95) rfl rfl (by simp) ?_
 rcases hm.2.2 with ⟨h1,hcz⟩ | ⟨l,cap,sp,rfl,hb,hcap⟩
 ·have hrs:rs=[]:=by simpa[ones] using h1
  subst hrs
  obtain rfl:i=0:=by simpa using hi
  rcases hcz with rfl | rfl
  all_goals
   simp
   refine app_mr ty_el40 (by kernel_rfl) (by decide) (by decide) hm (RowAt.own1 rfl) (by simp[ones]) (fun c' h' hm' hs' hl'=>?_)
   simp
   exact hk _ _ (by simpa[ones] using hm') hs' hl'
 ·rw[ones_box] at hb hcap
  rw[ones_len] at hm hk ⊢
  simp only[List.length_append,Nat.mul_one] at hcap
  simp
  refine opt_slice ⟨by omega,by omega⟩ (fun _=>?_) (fun _=>?_)
  all_goals
   simp
   refine condV_of (fun he=>?_) (fun he=>?_)
   ·have hir:i=rs.length:=by simp at he;omega
    subst hir
    simp
    refine app_mr ty_el40 (by kernel_rfl) (by decide) (by decide) hm (RowAt.own1 rfl) (by simp[ones];omega) (fun c' h' hm' hs' hl'=>?_)
    simp
    exact hk _ _ (by simpa[ones] using hm') hs' hl'
   ·have hir:i < rs.length:=by
     have:(i:Int)≠rs.length:=by simpa using he
     omega
    have hw1:IntKind.i64.wrap ((rs.length:Int)+1)=(rs.length:Int)+1:=IntWalk.i64_in _ (by omega)
    have hw2:IntKind.i64.wrap ((i:Int)+1)=(i:Int)+1:=IntWalk.i64_in _ (by omega)
    simp[hw1]
    refine capK_mrow ty_el40 ?_
    simp[hw1,hw2]
    refine condV_dec (fun hlt=>?_) (fun hge=>?_)
    ·have hlt':cap < rs.length+1:=by omega
     have hic:i≤cap:=by omega
     have hc0:0 < cap:=by omega
     have hw3:IntKind.i64.wrap ((rs.length:Int)+1 - i)=(rs.length:Int)+1 - i:=IntWalk.i64_in _ (by omega)
     simp[hw1,hw2,hw3]
     refine opt_slice (by omega) (fun _=>?_) (fun h9=>absurd hc0 (by simpa using h9))
     simp[hw1,hw2,hw3]
     have hN:i+((rs.length:Int)+1 - i).toNat=rs.length+1:=by omega
     refine zerosK_mr ty_el40 (by decide) (kk:=.i64) rfl (by kernel_rfl) (by decide) (by decide) (by omega) (by show (i:Int)+_≤2097152;omega) (by omega) (old:=rs.take i) (by rw[ones_cells hb (by simp;omega),List.drop_zero,List.take_append_of_le_length hi]) (by simp;omega) (fun cap' hcap'=>?_)
     rw[hN] at hcap' ⊢
     have hic':i < cap':=by omega
     simp[hw1,hw2,hw3]
     refine opt_slice (by omega) (fun _=>?_) (fun h9=>absurd hic' (by simpa using h9))
     simp[hw1,hw2,hw3]
     have htl:(rs.take i).length=i:=by simp;omega
     have hlen:(rs.take i++[C.d v]++rs.drop i).length=rs.length+1:=by simp;omega
     have hz:(0:Int)≤(i:Int)+1:=by omega
     refine copyK_row (n:=1) (new:=[.d v]) (m:=1) (mk:=1) (cs':=rs.take i++[.d v]++List.replicate (cap' - i - 1) .any) ty_el40 (by simp[rowCells,C.list?]) (by simp[cLen,C.list?]) (by simp;rfl) (by decide) rfl (by simp;omega) (by omega) (by rw[setCells_app htl.symm];simp) ?_
     simp[hw1,hw2,hw3]
     refine Wait.cut (Plan.then_ [0,1,2,3,4,5,6,7,8] .done) follows (by kernel_rfl) (fun e1 h1=>e1.n=95∧e1.get 9=.one (.mrow (h.ep,640) 0 (rs.length+1) cap')∧h1.box (h.ep,640)=some (rs.take i++[.d v]++rs.drop i++List.replicate (cap' - (rs.length+1)) .any)∧Same h h1 []∧h.ep < h1.ep) ?_ ?_
     ·simp[hw1,hw2,hw3,Plan.then_,vcPlan,planOps,isCallAt,callKind]
      simp only[hz,if_true]
      refine opt_slice (by simp;omega) (fun _=>?_) (fun h9=>absurd (show i+1 < cap' by omega) (by simpa using h9))
      simp[hw1,hw2,hw3,Plan.then_,vcPlan,planOps,isCallAt,callKind]
      refine opt_slice (by omega) (fun _=>?_) (fun h9=>absurd (show i < cap by omega) (by simpa using h9))
      simp[hw1,hw2,hw3,Plan.then_,vcPlan,planOps,isCallAt,callKind]
      have hll:l.1 < h.ep:=hlb l (by simp[labs])
      have hne:l≠(h.ep,640):=by rintro rfl;simp at hll
      have htl2:(rs.take i++[C.d v]).length=i+1:=by simp;omega
      have hdi:((rs++sp).drop i).take (rs.length - i)=rs.drop i:=by
       rw[List.drop_append_of_le_length hi,List.take_append_of_le_length (by simp)]
       exact List.take_of_length_le (by simp)
      refine copyK_row (n:=1) (new:=rs.drop i) (m:=rs.length - i) (mk:=rs.length - i) (cs:=rs.take i++[.d v]++List.replicate (cap' - i - 1) .any) (cs':=rs.take i++[.d v]++rs.drop i++List.replicate (cap' - (rs.length+1)) .any) ty_el40
       (by rw[ones_cells (cs:=rs++sp) (by simp[hne,hb]) (by simp;omega),hdi]) rfl (by simp) (by decide) (by simp) (by simp;omega) (by omega) ?_ ?_
      ·have e9:cap' - i - 1 - (rs.length - i)=cap' - (rs.length+1):=by omega
       have e10:(rs.drop i).take ((rs.length - i) * 1)=rs.drop i:=List.take_of_length_le (by simp)
       rw[e10,setCells_app htl2.symm]
       simp[e9]
      ·refine CutK.of ?_
       simp
       exact (((Same.refl.setBox (.inr (by simp))).next).setBox (.inr (by simp))).setBox (.inr (by simp))
     ·rintro e1 h1 ⟨hn,h9,hb1,hs1,he1⟩
      simp[hn,h9]
      refine hk _ _ ?_ (hs1.mono (by simp)) (by simp[labs];exact .inr (by omega))
      have:=ones_mr (cap:=cap') hb1 (by simp;omega) (by simp;omega)
      rw[hlen] at this
      simpa using this
    ·have hge':rs.length+1≤cap:=by omega
     have hic:i < cap:=by omega
     have hz:(0:Int)≤(rs.length:Int)+1:=by omega
     have hz2:(0:Int)≤(i:Int)+1:=by omega
     have hN:((rs.length:Int)+1).toNat=rs.length+1:=by omega
     simp[hw1,hw2,hz,hz2,hN]
     refine opt_slice (by omega) (fun _=>?_) (fun h9=>absurd (show 0 < cap by omega) (by simpa using h9))
     simp[hw1,hw2,hz,hz2,hN]
     refine opt_slice (by omega) (fun _=>?_) (fun h9=>absurd (show i+1 < cap by omega) (by simpa using h9))
     simp[hw1,hw2,hz,hz2,hN]
     refine callK_x (overlaps_apart ha (by decide) hb (by simp;omega)) ?_
     simp[hw1,hw2,hz,hz2,hN]
     obtain⟨s0,sp1,hsp⟩:∃ s0 sp1,sp=s0::sp1:=by
      match sp,hcap with
      | [],h9=>simp at h9;omega
      | s0::sp1,_=>exact⟨s0,sp1,rfl⟩
     subst hsp
     simp only[List.length_cons] at hcap
     have hll:l.1 < h.ep:=hlb l (by simp[labs])
     have htl:(rs.take i).length=i:=by simp;omega
     have htl2:(rs.take (i+1)).length=i+1:=by simp;omega
     have hsrc:((rs++s0::sp1).drop i).take (rs.length+1 - i)=rs.drop i++[s0]:=by
      rw[List.drop_append_of_le_length hi,List.take_append]
      rw[List.take_of_length_le (by simp;omega)]
      have:rs.length+1 - i - (rs.drop i).length=1:=by simp;omega
      rw[this]
      rfl
     refine Wait.cut (Plan.then_ [0,1,2,3,4,5,6,7,8] .done) follows (by kernel_rfl) (fun e1 h1=>e1.n=95∧e1.get 0=.one (.mrow l 0 (rs.length+1) cap)∧e1.get 1=.one (.d (.int .i64 (i:Int)))∧e1.get 2=.one (.own lv [[v]])∧h1.box l=some (rs.take (i+1)++rs.drop i++sp1)∧Same h h1 [l]) ?_ ?_
     ·simp[hw1,hw2,hz,hz2,hN,Plan.then_,vcPlan,planOps,isCallAt,callKind]
      refine opt_slice (by omega) (fun _=>?_) (fun h9=>absurd (show i+1 < cap by omega) (by simpa using h9))
      simp[hw1,hw2,hz,hz2,hN,Plan.then_,vcPlan,planOps,isCallAt,callKind]
      refine opt_slice (by omega) (fun _=>?_) (fun h9=>absurd (show i < cap by omega) (by simpa using h9))
      simp[hw1,hw2,hz,hz2,hN,Plan.then_,vcPlan,planOps,isCallAt,callKind]
      refine copyK_row (n:=1) (new:=rs.drop i++[s0]) (m:=rs.length+1 - i) (mk:=rs.length - i) (cs:=rs++s0::sp1) (cs':=rs.take (i+1)++rs.drop i++sp1) ty_el40
       (by rw[ones_cells (cs:=rs++s0::sp1) (by simp[hb]) (by simp;omega),hsrc]) rfl (by simp[hb]) (by decide) (by simp;omega) (by simp;omega) (by omega) ?_ ?_
      ·have e10:(rs.drop i++[s0]).take ((rs.length - i) * 1)=rs.drop i:=by
        rw[Nat.mul_one,List.take_append_of_le_length (by simp),List.take_of_length_le (by simp)]
       have e11:rs++s0::sp1=rs.take (i+1)++(rs.drop (i+1)++s0::sp1):=by
        rw[← List.append_assoc,List.take_append_drop]
       have e12:(rs.drop (i+1)++s0::sp1).drop (rs.drop i).length=sp1:=by
        have:(rs.drop i).length=(rs.drop (i+1)).length+1:=by simp;omega
        rw[this,← List.drop_drop,List.drop_left]
        rfl
       rw[e10,e11,setCells_app htl2.symm,e12]
      ·refine CutK.of ?_
       simp
       exact Same.refl.setBox (.inl (by simp))
     ·rintro e1 h1 ⟨hn,h0,h1',h2,hb1,hs1⟩
      simp[hn,h0,h1',h2]
      refine opt_slice (by omega) (fun _=>?_) (fun h9=>absurd hic (by simpa using h9))
      simp[hn,h0,h1',h2]
      refine copyK_row (n:=1) (new:=[.d v]) (m:=1) (mk:=1) (cs:=rs.take (i+1)++rs.drop i++sp1) (cs':=rs.take i++[.d v]++rs.drop i++sp1) ty_el40 (by simp[rowCells,C.list?]) (by simp[cLen,C.list?]) (by simp[hb1]) (by decide) rfl (by simp;omega) (by omega) ?_ ?_
      ·have e13:rs.take (i+1)++rs.drop i++sp1=rs.take i++(rs[i]::(rs.drop i++sp1)):=by
        rw[List.take_succ_eq_append_getElem hir,List.append_assoc,List.append_assoc]
        rfl
       rw[e13,setCells_app htl.symm]
       simp
      ·simp[hn,h0]
       refine hk _ _ ?_ ((hs1.setBox (.inl (by simp))).mono (by simp[labs])) (by simp[labs])
       have hlen:(rs.take i++[C.d v]++rs.drop i).length=rs.length+1:=by simp;omega
       have:=ones_mr (h:=h1.setBox l (rs.take i++[C.d v]++rs.drop i++sp1)) (l:=l) (cap:=cap) (rs:=rs.take i++[C.d v]++rs.drop i) (sp:=sp1) (by simp) (by rw[hlen];omega) (by rw[hlen];omega)
       rw[hlen] at this
       simpa using this
end Go.Proofs.YthiojhcimecdgaaGreatDoor
end
section
namespace Go.Am
open Go
@[simp ↓ high] theorem vcOp_indexAddr' {P:Program} {e:Env} {h:HS} {K:Env→HS→Prop} {d:Option Nat} {t:TypeId} {p:String} {af:Array Edge} {g:Option (Nat × Bool)} {ty:Nat} {x i:Operand}:vcOp P { dst:=d,op:=.indexAddr ty x i,type:=t,pos:=p,after:=af,guard:=g } e h K=optV (idxA (elT P ty) (arT P ty) (e.ev x) (e.ev i)) (k:=⟨fun v=>K (e.put d v) h⟩):=by
 rw[← eff_indexAddr (h:=h)];exact vcOp_indexAddr
@[simp] theorem take_len_map {α β:Type} {f:α→β} {xs:List α}:List.take xs.length (xs.map f)=xs.map f:=List.take_of_length_le (by simp)
@[simp] theorem list?_mrow {l:Lab} {o n c:Nat}:(C.mrow l o n c).list?=none:=rfl
@[simp] theorem le_a2 {a:Nat}:a≤a+1+1:=by omega
@[simp] theorem lt_a2 {a:Nat}:a < a+1+1:=by omega
@[simp] theorem le_a3 {a:Nat}:a≤a+1+1+1:=by omega
@[simp] theorem lt_a3 {a:Nat}:a < a+1+1+1:=by omega
@[simp] theorem le_a4 {a:Nat}:a≤a+1+1+1+1:=by omega
@[simp] theorem lt_a4 {a:Nat}:a < a+1+1+1+1:=by omega
@[simp] theorem le_a5 {a:Nat}:a≤a+1+1+1+1+1:=by omega
@[simp] theorem lt_a5 {a:Nat}:a < a+1+1+1+1+1:=by omega
@[simp] theorem le_a6 {a:Nat}:a≤a+1+1+1+1+1+1:=by omega
@[simp] theorem lt_a6 {a:Nat}:a < a+1+1+1+1+1+1:=by omega
@[simp] theorem le_a7 {a:Nat}:a≤a+1+1+1+1+1+1+1:=by omega
@[simp] theorem lt_a7 {a:Nat}:a < a+1+1+1+1+1+1+1:=by omega
@[simp] theorem le_a8 {a:Nat}:a≤a+1+1+1+1+1+1+1+1:=by omega
@[simp] theorem lt_a8 {a:Nat}:a < a+1+1+1+1+1+1+1+1:=by omega
@[simp] theorem le_a9 {a:Nat}:a≤a+1+1+1+1+1+1+1+1+1:=by omega
@[simp] theorem lt_a9 {a:Nat}:a < a+1+1+1+1+1+1+1+1+1:=by omega
@[simp] theorem le_a10 {a:Nat}:a≤a+1+1+1+1+1+1+1+1+1+1:=by omega
@[simp] theorem lt_a10 {a:Nat}:a < a+1+1+1+1+1+1+1+1+1+1:=by omega
section
variable {ρ α β γ σ:Type}
class Con (m:Option α) (P:Program) (f:FuncId) (av:outParam (List AV)) (er:outParam (α→RV)):Prop where
 h:∀ v,Is m v→PSpec P f av (er v)
instance {m:Option α} {P:Program} {f:FuncId} {av:List AV} {er:α→RV}:CoeFun (Con m P f av er) (fun _=>∀ v,Is m v→PSpec P f av (er v)):=⟨fun i=>i.h⟩
class ConF (m:α→Option β) (P:Program) (aenc:outParam (α→AV)) (er:outParam (β→RV)) (g:outParam FuncId) (caps:outParam (List (List D))):Prop where
 h:∀ x v,Is (m x) v→PSpec P g (aenc x::capsOf caps) (er v)
class ConG (m:α→β→Option γ) (P:Program) (aenc:outParam (α→AV)) (benc:outParam (β→AV)) (er:outParam (γ→RV)) (g:outParam FuncId) (caps:outParam (List (List D))):Prop where
 h:∀ x y v,Is (m x y) v→PSpec P g (aenc x::benc y::capsOf caps) (er v)
theorem i_call {P:Program} {f:FuncId} {vs:List V} {av:List AV} {d:Nat} {e:Env} {h:HS} {Kc:Env→HS→Prop} {er:α→RV} {m:Option α} {K:α→Option ρ} {r:ρ} (hm:Is (bindK m K) r) [i:Con m P f av er] (has:toAs h vs=some av)
  (hk:∀ v,Is (K v) r→Kc (e.put (some d) ((er v).toV h.ep d)) ((h.addFr d (er v).fr).next)):callK P f [] vs d e h (K:=⟨Kc⟩):=
 r_call hm i.h has fun v _ hm=>hk v hm
theorem i_callF {P:Program} {g:FuncId} {vs:List V} {aenc:α→AV} {x:α} {caps:List Cap} {cs:List (List D)} {d:Nat} {e:Env} {h:HS} {Kc:Env→HS→Prop} {er:β→RV} {m:α→Option β} {K:β→Option ρ} {r:ρ} (hm:Is (bindK (m x) K) r) [i:ConF m P aenc er g cs] (has:toAs h vs=some [aenc x]) (hcs:capsA h caps=some cs)
  (hk:∀ v,Is (K v) r→Kc (e.put (some d) ((er v).toV h.ep d)) ((h.addFr d (er v).fr).next)):callK P g caps vs d e h (K:=⟨Kc⟩):=
 r_callC hm (i.h x) has hcs fun v _ hm=>hk v hm
theorem i_callG {P:Program} {g:FuncId} {vs:List V} {aenc:α→AV} {benc:β→AV} {x:α} {y:β} {caps:List Cap} {cs:List (List D)} {d:Nat} {e:Env} {h:HS} {Kc:Env→HS→Prop} {er:γ→RV} {m:α→β→Option γ} {K:γ→Option ρ} {r:ρ} (hm:Is (bindK (m x y) K) r) [i:ConG m P aenc benc er g cs] (has:toAs h vs=some [aenc x,benc y]) (hcs:capsA h caps=some cs)
  (hk:∀ v,Is (K v) r→Kc (e.put (some d) ((er v).toV h.ep d)) ((h.addFr d (er v).fr).next)):callK P g caps vs d e h (K:=⟨Kc⟩):=
 r_callC hm (i.h x y) has hcs fun v _ hm=>hk v hm
theorem optV_ifI {α:Type} {c:Prop} [Decidable c] {v:α} {f:α→Prop} (h:c) (hk:f v):optV (if c then some v else none) (k:=⟨f⟩):=by rw[if_pos h];exact hk
theorem Rd.cases {c:C} {xs:List (List D)} (h:Rd c xs):c=.d (.sl xs)∨(∃ l,c=.own l xs)∨(c=.nil∧xs=[])∨(c=.z∧xs=[]):=by
 have h1:=h.1
 cases c with
 | d x=>cases x<;>simp[C.list?] at h1;exact .inl (by rw[h1])
 | own l ys=>simp[C.list?] at h1;exact .inr (.inl ⟨l,by rw[h1]⟩)
 | nil=>simp[C.list?] at h1;exact .inr (.inr (.inl ⟨rfl,h1⟩))
 | z=>simp[C.list?] at h1;exact .inr (.inr (.inr ⟨rfl,h1⟩))
 | _=>simp[C.list?] at h1
def capLabs:List Cap→List Lab
 | []=>[]
 | .lab l::cs=>l::capLabs cs
 | _::cs=>capLabs cs
def labsV:V→List Lab
 | .one (.ptr l _)=>[l]
 | .one (.fn _ cs)=>capLabs cs
 | _=>[]
@[simp] theorem labsV_ptr {l:Lab} {o:Nat}:labsV (.one (.ptr l o))=[l]:=rfl
@[simp] theorem labsV_fn {f:FuncId} {cs:List Cap}:labsV (.one (.fn f cs))=capLabs cs:=rfl
@[simp] theorem labsV_d {x:D}:labsV (.one (.d x))=[]:=rfl
@[simp] theorem labsV_own {l:Lab} {xs:List (List D)}:labsV (.one (.own l xs))=[]:=rfl
@[simp] theorem labsV_nil:labsV (.one .nil)=[]:=rfl
@[simp] theorem labsV_z:labsV (.one .z)=[]:=rfl
@[simp] theorem labsV_rp {ds:List D}:labsV (.one (.rp ds))=[]:=rfl
@[simp] theorem labsV_any:labsV (.one .any)=[]:=rfl
@[simp] theorem labsV_mrow {l:Lab} {o n c:Nat}:labsV (.one (.mrow l o n c))=[]:=rfl
@[simp] theorem labsV_agg {cs:List C}:labsV (.agg cs)=[]:=rfl
@[simp] theorem labsV_tup {vs:List V}:labsV (.tup vs)=[]:=rfl
@[simp] theorem labsV_top:labsV .top=[]:=rfl
@[simp] theorem labsV_undef:labsV .undef=[]:=rfl
theorem Rd.labs {c:C} {xs:List (List D)} (h:Rd c xs):labsV (.one c)=[]:=by
 rcases h.cases with rfl | ⟨l,rfl⟩ | ⟨rfl,_⟩ | ⟨rfl,_⟩<;>rfl
inductive Car (σ:Type) where
 | d (t:Nat) (f:σ→D)
 | g (t n:Nat) (f:σ→List (List D))
 | r (t:Nat) (f:σ→List (List D))
def CarOK (e:Env) (h:HS) (s:σ):List C→List (Car σ)→Prop
 | _,[]=>True
 | p,.d t f::cs=>e.get t=.one (.d (f s))∧CarOK e h s p cs
 | p,.g t n f::cs=>∃ c,e.get t=.one c∧Grows h n c (f s)∧(∀ c' ∈ p,Apart c' c)∧CarOK e h s (c::p) cs
 | p,.r t f::cs=>∃ c,e.get t=.one c∧Rd c (f s)∧CarOK e h s p cs
def CarUse (e:Env) (h:HS) (s:σ):List C→List (Car σ)→Prop
 | _,[]=>True
 | p,.d t f::cs=>e.get t=.one (.d (f s))∧CarUse e h s p cs
 | p,.g t n f::cs=>∃ c,e.get t=.one c∧Rd c (f s)∧Grows h n c (f s)∧c.list?=some (f s)∧c.toD=some (.sl (f s))∧(∀ h,c.toA h=some (.d (.sl (f s))))∧(∀ (h':HS) (l:Lab),h.ep≤l.1→(C.useUp h' c).arr l=h'.arr l)∧labsV (.one c)=[]∧(∀ (l:Lab) (ys:List (List D)),h.ep≤l.1→Apart (.own l ys) c∧Apart c (.own l ys))∧(∀ c' ∈ p,Apart c' c)∧CarUse e h s (c::p) cs
 | p,.r t f::cs=>∃ c,e.get t=.one c∧Rd c (f s)∧c.list?=some (f s)∧c.toD=some (.sl (f s))∧(∀ h,c.toA h=some (.d (.sl (f s))))∧labsV (.one c)=[]∧CarUse e h s p cs
theorem CarOK.use {e:Env} {h:HS} {s:σ}:∀ {cs:List (Car σ)} {p:List C},CarOK e h s p cs→CarUse e h s p cs
 | [],_,_=>trivial
 | .d _ _::_,_,h=>⟨h.1,h.2.use⟩
 | .g _ _ _::_,_,⟨c,h1,h2,h3,h4⟩=>⟨c,h1,h2.rd,h2,h2.list,h2.toD,h2.toA,h2.useUp_arr,h2.rd.labs,fun _ _ hl=>⟨h2.apart hl,(h2.apart hl).symm⟩,h3,h4.use⟩
 | .r _ _::_,_,⟨c,h1,h2,h4⟩=>⟨c,h1,h2,h2.1,h2.2.1,h2.2.2,h2.labs,h4.use⟩
def Keep (e e':Env):List Nat→Prop
 | []=>e'.n=e.n
 | t::ts=>e'.get t=e.get t∧Keep e e' ts
theorem capLabs_rp {caps:List (List D)}:capLabs (caps.map Cap.rp)=[]:=by
 induction caps with
 | nil=>rfl
 | cons c cs ih=>exact ih
def AllL (p:Lab→Prop):List Lab→Prop
 | []=>True
 | l::ls=>p l∧AllL p ls
theorem AllL.imp {p q:Lab→Prop} (h:∀ l,p l→q l):∀ {ls:List Lab},AllL p ls→AllL q ls
 | [],_=>trivial
 | l::_,a=>⟨h l a.1,a.2.imp h⟩
def LtB (e:Env) (h:HS):List Nat→Prop
 | []=>True
 | t::ts=>AllL (fun l=>l.1 < h.ep) (labsV (e.get t))∧LtB e h ts
def KeepB (e:Env) (h h':HS):List Nat→Prop
 | []=>True
 | t::ts=>AllL (fun l=>h'.box l=h.box l) (labsV (e.get t))∧KeepB e h h' ts
theorem LtB.keep {e:Env} {h h':HS} (hb:∀ l:Lab,l.1 < h.ep→h'.box l=h.box l):∀ {ts:List Nat},LtB e h ts→KeepB e h h' ts
 | [],_=>trivial
 | _::_,a=>⟨a.1.imp hb,a.2.keep hb⟩
def HF (h h':HS):Prop:=h.ep≤h'.ep∧∀ l:Lab,l.1 < h.ep→h'.box l=h.box l
theorem HF.refl {h:HS}:HF h h:=⟨Nat.le_refl _,fun _ _=>rfl⟩
theorem HF.tr {h0 h1 h:HS} (b:HF h1 h) (a:HF h0 h1):HF h0 h:=⟨Nat.le_trans a.1 b.1,fun l hl=>(b.2 l (Nat.lt_of_lt_of_le hl a.1)).trans (a.2 l hl)⟩
theorem HF.next {h h':HS} (a:HF h h'):HF h h'.next:=⟨Nat.le_succ_of_le a.1,a.2⟩
theorem HF.setArr {h h':HS} {l:Lab} {x:Option (Nat × Nat)} (a:HF h h'):HF h (h'.setArr l x):=a
theorem HF.useUp {h h':HS} {c:C} (a:HF h h'):HF h (C.useUp h' c):=by cases c<;>exact a
theorem HF.addFr {h:HS} {d:Nat}:∀ {x:List (Nat × Nat × Nat)} {h':HS},HF h h'→HF h (h'.addFr d x)
 | [],_,a=>a
 | (j,es,n)::r,h',a=>HF.addFr (x:=r) (h':=h'.setArr (h'.ep,16 * d+j+1) (some (n,es))) a
theorem HF.setBox {h h':HS} {l:Lab} {cs:List C} (a:HF h h') (hl:h.ep≤l.1):HF h (h'.setBox l cs):=⟨a.1,fun k hk=>by
 have:k≠l:=by rintro rfl;omega
 simp[HS.setBox,this];exact a.2 k hk⟩
inductive LH (ctr:Nat) (keep:List Nat) (cars:List (Car σ)):Prop where
 | intro
def ctrOf:Code→Nat
 | .seq a _=>ctrOf a
 | .region _ ops _=>match ops.toList with
   | o::_=>match o.op with
     | .binOp _ _ (.tmp t) _ _=>t
     | _=>0
   | []=>0
 | _=>0
def LR (keep:List Nat) (cars:List (Car σ)) (e:Env) (h:HS) (s:σ) (e':Env) (h':HS):Prop:=Keep e e' keep∧HF h h'∧CarOK e' h' s [] cars
theorem Wait.forH {P:Program} {c:Code} {Q:Exit→Env→HS→Prop} {e:Env} {h:HS} {xs:List α} {s0:σ} {body:Nat→α→σ→(σ→Option ρ)→Option ρ} {k:σ→Option ρ} {r:ρ} {ctr:Nat} {keep:List Nat} {cars:List (Car σ)} (_:LH ctr keep cars)
  (_:ctrOf c=ctr) (hm:Is (forK body k xs 0 s0) r) (hl:xs.length≤LIM) (h1:e.get ctr=.one (.d (.int .i64 0))) (h0:CarOK e h s0 [] cars) (hB:LtB e h keep)
  (round:∀ (i:Nat) (s:σ) (e':Env) (h':HS),Keep e e' keep→e'.get ctr=.one (.d (.int .i64 (i:Int)))→CarUse e' h' s [] cars→KeepB e h h' keep→HF h h'→h.ep≤h'.ep→(∀ l:Lab,l.1 < h.ep→h'.box l=h.box l)→i < xs.length→IntKind.i64.wrap ((i:Int)+1)=(i:Int)+1→∀ hlt:i < xs.length,Is (body i xs[i] s (fun s'=>forK body k (xs.drop (i+1)) (i+1) s')) r →
   vc P c (thenQ (fun e' h'=>BackF (I:=⟨fun s' e' h'=>(e'.get ctr=.one (.d (.int .i64 ((i+1:Nat):Int)))∧LR keep cars e h s' e' h')∧Is (forK body k (xs.drop (i+1)) (i+1) s') r⟩) e' h') Q) e' h')
  (fin:∀ (s:σ) (e':Env) (h':HS),Keep e e' keep→e'.get ctr=.one (.d (.int .i64 (xs.length:Int)))→CarUse e' h' s [] cars→KeepB e h h' keep→HF h h'→h.ep≤h'.ep→(∀ l:Lab,l.1 < h.ep→h'.box l=h.box l)→Is (k s) r→vc P c (thenQ (fun _ _=>Never) Q) e' h') :
  Wait P (c:=⟨.loop c⟩) (Q:=⟨Q⟩) e h:=by
 have hk:∀ ts,Keep e e ts:=by intro ts;induction ts with | nil=>rfl | cons t ts ih=>exact⟨rfl,ih⟩
 refine Wait.for (fun i s e' h'=>e'.get ctr=.one (.d (.int .i64 (i:Int)))∧LR keep cars e h s e' h') hm ⟨h1,hk _,.refl,h0⟩ ?_ ?_
 ·rintro i s e' h' ⟨hc,h2,h3,h4⟩ hlt hm
  exact round i s e' h' h2 hc h4.use (hB.keep h3.2) h3 h3.1 h3.2 hlt (IntWalk.i64_in _ (by have hl':xs.length≤2097152:=hl;omega)) hlt hm
 ·rintro s e' h' ⟨hc,h2,h3,h4⟩ hm
  exact fin s e' h' h2 hc h4.use (hB.keep h3.2) h3 h3.1 h3.2 hm
theorem Wait.countH {P:Program} {c:Code} {Q:Exit→Env→HS→Prop} {e:Env} {h:HS} {N:Int} {s0:σ} {body:Nat→σ→(σ→Option ρ)→Option ρ} {k:σ→Option ρ} {r:ρ} {ctr:Nat} {keep:List Nat} {cars:List (Car σ)} (_:LH ctr keep cars)
  (_:ctrOf c=ctr) (hm:Is (countK body k N.toNat 0 s0) r) (h1:e.get ctr=.one (.d (.int .i64 0))) (h0:CarOK e h s0 [] cars) (hB:LtB e h keep)
  (round:∀ (i:Nat) (s:σ) (e':Env) (h':HS),Keep e e' keep→e'.get ctr=.one (.d (.int .i64 (i:Int)))→CarUse e' h' s [] cars→KeepB e h h' keep→HF h h'→h.ep≤h'.ep→(∀ l:Lab,l.1 < h.ep→h'.box l=h.box l)→(i:Int) < N→Is (body i s (fun s'=>countK body k (N.toNat - (i+1)) (i+1) s')) r →
   vc P c (thenQ (fun e' h'=>BackF (I:=⟨fun s' e' h'=>(e'.get ctr=.one (.d (.int .i64 ((i+1:Nat):Int)))∧LR keep cars e h s' e' h')∧Is (countK body k (N.toNat - (i+1)) (i+1) s') r⟩) e' h') Q) e' h')
  (fin:∀ (i:Nat) (s:σ) (e':Env) (h':HS),Keep e e' keep→e'.get ctr=.one (.d (.int .i64 (i:Int)))→CarUse e' h' s [] cars→KeepB e h h' keep→HF h h'→h.ep≤h'.ep→(∀ l:Lab,l.1 < h.ep→h'.box l=h.box l)→¬ (i:Int) < N→Is (k s) r→vc P c (thenQ (fun _ _=>Never) Q) e' h') :
  Wait P (c:=⟨.loop c⟩) (Q:=⟨Q⟩) e h:=by
 have hk:∀ ts,Keep e e ts:=by intro ts;induction ts with | nil=>rfl | cons t ts ih=>exact⟨rfl,ih⟩
 refine Wait.count (fun i s e' h'=>e'.get ctr=.one (.d (.int .i64 (i:Int)))∧LR keep cars e h s e' h') hm ⟨h1,hk _,.refl,h0⟩ ?_ ?_
 ·rintro i s e' h' ⟨hc,h2,h3,h4⟩ hlt hm
  exact round i s e' h' h2 hc h4.use (hB.keep h3.2) h3 h3.1 h3.2 hlt hm
 ·rintro i s e' h' ⟨hc,h2,h3,h4⟩ hge hm
  exact fin i s e' h' h2 hc h4.use (hB.keep h3.2) h3 h3.1 h3.2 hge hm
theorem Wait.whileH {P:Program} {c:Code} {Q:Exit→Env→HS→Prop} {e:Env} {h:HS} {m:Nat} {s0:σ} {body:σ→(σ→Option ρ)→Option ρ} {r:ρ} {keep:List Nat} {cars:List (Car σ)} (_:LH 0 keep cars)
  (hm:Is (whileK body m s0) r) (h0:CarOK e h s0 [] cars) (hB:LtB e h keep)
  (round:∀ (n:Nat) (s:σ) (e':Env) (h':HS),Keep e e' keep→CarUse e' h' s [] cars→KeepB e h h' keep→HF h h'→h.ep≤h'.ep→(∀ l:Lab,l.1 < h.ep→h'.box l=h.box l)→Is (body s (fun s'=>whileK body n s')) r →
   vc P c (thenQ (fun e' h'=>BackF (I:=⟨fun s' e' h'=>LR keep cars e h s' e' h'∧Is (whileK body n s') r⟩) e' h') Q) e' h') :
  Wait P (c:=⟨.loop c⟩) (Q:=⟨Q⟩) e h:=by
 have hk:∀ ts,Keep e e ts:=by intro ts;induction ts with | nil=>rfl | cons t ts ih=>exact⟨rfl,ih⟩
 refine Wait.while (fun s e' h'=>LR keep cars e h s e' h') hm ⟨hk _,.refl,h0⟩ ?_
 rintro n s e' h' ⟨h2,h3,h4⟩ hm
 exact round n s e' h' h2 h4.use (hB.keep h3.2) h3 h3.1 h3.2 hm
theorem BackF.lr {A:σ→Env→HS→Prop} {G:σ→Prop} {s:σ} {e':Env} {h':HS} (hm:G s) (hA:A s e' h'):BackF (I:=⟨fun s e h=>A s e h∧G s⟩) e' h':=⟨s,hA,hm⟩
inductive PH (ids:List Nat) (p:Plan):Prop where
 | intro
theorem Wait.drawH {P:Program} {id:Nat} {ops:Array Oper} {Q:Exit→Env→HS→Prop} {e:Env} {h:HS} {ids:List Nat} {plan:Plan} (_:PH ids plan) (_:id ∈ ids) (hB:planB .any ops plan ops.size (Array.replicate ops.size false)=true) (hm:P.follows .mixedOrders=true)
  (hv:vcPlan P ops.toList (Q .normal) plan e h):Wait P (c:=⟨.region id ops true⟩) (Q:=⟨Q⟩) e h:=Wait.of (SWP.draw plan hm hB hv)
class ElT (P:Program) (ty:TypeId) (el es by_:outParam Nat):Prop where
 h:elT P ty=some (el,es,by_)
class EncE (α:Type) (enc:outParam (α→List D)) (n:outParam Nat):Prop where
 h:∀ y,(enc y).length=n
theorem i_app {P:Program} {ty el:TypeId} {es by_ d:Nat} {c x:C} {h:HS} {Kc:V→HS→Prop} {K:List α→Option ρ} {r:ρ} {enc:α→List D} {xs ys:List α} (hm:Is (appK2 xs ys K) r) [i:ElT P ty el es by_] [j:EncE α enc es] (hc:Grows h es c (xs.map enc)) (hx:x.list?=some (ys.map enc))
  (h0:0 < es∧by_≤4096)
  (hk:xs.length+ys.length≤LIM→Is (K (xs++ys)) r→Grows (((c.useUp h).setArr (h.ep,16 * d) (some ((xs++ys).length,es))).next) es (.own (h.ep,16 * d) ((xs++ys).map enc)) ((xs++ys).map enc) →
   Kc (.one (.own (h.ep,16 * d) ((xs++ys).map enc))) (((c.useUp h).setArr (h.ep,16 * d) (some ((xs++ys).length,es))).next)):appK P ty c x d h (K:=⟨Kc⟩):=
 r_app hm i.h hc hx h0.1 h0.2 j.h hk
theorem ret_m {P:Program} {rs:List ResultVar} {r:RV} {e:Env} {h:HS} (hm:optV (resVs P e h rs) (k:=⟨fun vs=>RetAll h (fun _=>none) vs r⟩)):retOK P rs r e h:=by
 cases hv:resVs P e h rs with
 | none=>rw[hv] at hm;exact hm.elim
 | some vs=>rw[hv] at hm;exact ret0 hv hm
theorem go {m:Option α} {P:Program} {f:FuncId} {fn:Func} {c:Code} {av:List AV} {er:α→RV} {rs:List ResultVar} (n:Nat) (hf:P.funcs[f]?=some fn) (hb:fn.body=some c) (hnm:(fn.name == "runtime.NumGoroutine")=false) (hn:fn.ntmps=n) (hrs:fn.results.toList=rs) (has:av.length≤n)
  (hv:∀ r,Is m r→vc P c (retQ P rs (er r)) (env0 n av) HS.init:=by
   intro r hm
   try simp (maxSteps:=1000000) [*]
   repeat' (first
    | (with_reducible have hq:=r_ret hm
       obtain rfl:=hq
       first
       | (refine ret_m ?_;simp (maxSteps:=1000000) [*];done)
       | (refine ret_growsV ?_;simp (maxDischargeDepth:=20) (maxSteps:=1000000) [*,GrowsV];done)
       | (refine ret_growsV ⟨_,?_,Grows.nil⟩;simp (maxSteps:=1000000) [*];done))
    | ((with_reducible refine r_cond hm ?_ ?_)<;>(clear hm;intro hc hm;try simp (maxSteps:=1000000) [*,Plan.then_,vcPlan,planOps,isCallAt,callKind]))
    | (with_reducible have hq:=Is.bind hm
       clear hq
       refine i_call hm ?_ ?_
       ·simp (maxSteps:=1000000) [*];done
       clear hm;intro v hm;try simp (maxSteps:=1000000) [*,Plan.then_,vcPlan,planOps,isCallAt,callKind])
    | (with_reducible intro hl
       try simp only[List.length_map] at hl
       try simp (maxSteps:=1000000) [*,Plan.then_,vcPlan,planOps,isCallAt,callKind])
    | (with_reducible have hq:=Is.getN hm
       clear hm
       obtain⟨x,hx,hm⟩:=hq
       try simp (maxSteps:=1000000) [*,Plan.then_,vcPlan,planOps,isCallAt,callKind])
    | (with_reducible have hq:=Is.get hm
       clear hm
       obtain⟨x,h0,hx,hm⟩:=hq
       try simp at h0
       try simp at hx
       try simp (maxSteps:=1000000) [*,Plan.then_,vcPlan,planOps,isCallAt,callKind])
    | (with_reducible have hq:=Is.app hm
       clear hq
       refine i_app hm ?_ ?_ ?_ ?_
       ·first
        | exact Grows.nil
        | (simp (maxDischargeDepth:=20) (maxSteps:=1000000) [*];done)
       ·simp (maxSteps:=1000000) [*];done
       ·decide
       clear hm;intro hl hm g;try simp (maxSteps:=1000000) [*,Plan.then_,vcPlan,planOps,isCallAt,callKind])
    | (with_reducible have hq:=Is.chk hm
       clear hm
       obtain⟨hw,hm⟩:=hq
       first
       | replace hw:=wrap_ok hw
       | (obtain⟨ha,hb,hd⟩:=hw
          have he:=hb
          try simp at he
          have hf:=hd
          try simp at hf)
       | (have hw2:=hw
          try simp at hw2)
       try simp (maxSteps:=1000000) [*,Plan.then_,vcPlan,planOps,isCallAt,callKind])
    | ((with_reducible refine r_guardT hm ?_ ?_)<;>(clear hm;intro hc hm;try simp (maxSteps:=1000000) [*,Plan.then_,vcPlan,planOps,isCallAt,callKind]))
    | ((with_reducible refine r_guardF hm ?_ ?_)<;>(clear hm;intro hc hm;try simp (maxSteps:=1000000) [*,Plan.then_,vcPlan,planOps,isCallAt,callKind]))
    | (with_reducible have hq:=Is.bind hm
       clear hq
       refine i_callF hm ?_ ?_ ?_
       ·simp (maxSteps:=1000000) [*];done
       ·simp (maxSteps:=1000000) [*];done
       clear hm;intro v hm;try simp (maxSteps:=1000000) [*,Plan.then_,vcPlan,planOps,isCallAt,callKind])
    | (with_reducible have hq:=Is.bind hm
       clear hq
       refine i_callG hm ?_ ?_ ?_
       ·simp (maxSteps:=1000000) [*];done
       ·simp (maxSteps:=1000000) [*];done
       clear hm;intro v hm;try simp (maxSteps:=1000000) [*,Plan.then_,vcPlan,planOps,isCallAt,callKind])
    | (with_reducible have hq:=Is.chr hm
       clear hm
       obtain⟨y,h0,hx,hm⟩:=hq
       try simp (maxSteps:=1000000) [*,Plan.then_,vcPlan,planOps,isCallAt,callKind])
    | (refine BackF.lr hm ⟨?_,?_,?_,?_⟩
       ·simp (maxSteps:=1000000) [*];done
       ·simp (maxSteps:=1000000) [Keep, *];done
       ·repeat' (first | with_reducible exact HF.refl | with_reducible refine HF.next ?_ | with_reducible refine HF.setArr ?_ | with_reducible refine HF.useUp ?_ | with_reducible refine HF.addFr ?_ | with_reducible refine HF.setBox ?_ ?_ | assumption | (apply HF.tr;assumption) | (simp (maxSteps:=1000000) [*];done) | (simp (maxSteps:=1000000) [*];omega))
       ·simp (maxDischargeDepth:=20) (maxSteps:=1000000) [*,CarOK];done)
    | (refine BackF.lr hm ⟨?_,?_,?_⟩
       ·simp (maxSteps:=1000000) [Keep, *];done
       ·repeat' (first | with_reducible exact HF.refl | with_reducible refine HF.next ?_ | with_reducible refine HF.setArr ?_ | with_reducible refine HF.useUp ?_ | with_reducible refine HF.addFr ?_ | with_reducible refine HF.setBox ?_ ?_ | assumption | (apply HF.tr;assumption) | (simp (maxSteps:=1000000) [*];done) | (simp (maxSteps:=1000000) [*];omega))
       ·simp (maxDischargeDepth:=20) (maxSteps:=1000000) [*,CarOK];done)
    | ((first | refine Wait.forH l1 rfl hm ?_ ?_ ?_ ?_ ?_ ?_ | refine Wait.forH l2 rfl hm ?_ ?_ ?_ ?_ ?_ ?_ | refine Wait.forH l3 rfl hm ?_ ?_ ?_ ?_ ?_ ?_ | refine Wait.forH l4 rfl hm ?_ ?_ ?_ ?_ ?_ ?_ | refine Wait.forH l5 rfl hm ?_ ?_ ?_ ?_ ?_ ?_ | refine Wait.forH l6 rfl hm ?_ ?_ ?_ ?_ ?_ ?_)
       ·first | assumption | omega | (simp at *;omega)
       ·simp (maxSteps:=1000000) [*];done
       ·simp (maxDischargeDepth:=20) (maxSteps:=1000000) [*,CarOK];done
       ·simp (maxSteps:=1000000) [LtB,AllL,capLabs_rp,capLabs, *]<;>omega
       all_goals first
        | (skip
           clear hm
           with_reducible intro i s e h hk hct hcu hkb hhf hep hbx hlt0 hw hlt hm
           try simp only[CarUse] at hcu
           repeat obtain⟨_,hcu⟩:=hcu
           try simp only[Keep] at hk
           try simp (maxSteps:=1000000) [*] at hk
           have hep':=hep
           try simp at hep'
           try simp (maxSteps:=1000000) [KeepB,AllL,capLabs_rp,capLabs, *] at hkb
           try simp (maxSteps:=1000000) [*,Plan.then_,vcPlan,planOps,isCallAt,callKind])
        | (skip
           clear hm
           with_reducible intro s e h hk hct hcu hkb hhf hep hbx hm
           try simp only[CarUse] at hcu
           repeat obtain⟨_,hcu⟩:=hcu
           try simp only[Keep] at hk
           try simp (maxSteps:=1000000) [*] at hk
           have hep':=hep
           try simp at hep'
           try simp (maxSteps:=1000000) [KeepB,AllL,capLabs_rp,capLabs, *] at hkb
           try simp (maxSteps:=1000000) [*,Plan.then_,vcPlan,planOps,isCallAt,callKind]))
    | ((first | refine Wait.countH l1 rfl hm ?_ ?_ ?_ ?_ ?_ | refine Wait.countH l2 rfl hm ?_ ?_ ?_ ?_ ?_ | refine Wait.countH l3 rfl hm ?_ ?_ ?_ ?_ ?_ | refine Wait.countH l4 rfl hm ?_ ?_ ?_ ?_ ?_ | refine Wait.countH l5 rfl hm ?_ ?_ ?_ ?_ ?_ | refine Wait.countH l6 rfl hm ?_ ?_ ?_ ?_ ?_)
       ·simp (maxSteps:=1000000) [*];done
       ·simp (maxDischargeDepth:=20) (maxSteps:=1000000) [*,CarOK];done
       ·simp (maxSteps:=1000000) [LtB,AllL,capLabs_rp,capLabs, *]<;>omega
       all_goals
         clear hm
         with_reducible intro i s e h hk hct hcu hkb hhf hep hbx hlt hm
         try simp only[CarUse] at hcu
         repeat obtain⟨_,hcu⟩:=hcu
         try simp only[Keep] at hk
         try simp (maxSteps:=1000000) [*] at hk
         have hep':=hep
         try simp at hep'
         try simp (maxSteps:=1000000) [KeepB,AllL,capLabs_rp,capLabs, *] at hkb
         try simp (maxSteps:=1000000) [*,Plan.then_,vcPlan,planOps,isCallAt,callKind]
         first
         | (have hq:(i:Int) < _:=hlt
            refine condV_dec (fun _=>?_) (fun hn=>absurd ?_ hn)
            rotate_left
            ·first | omega | (simp at hlt ⊢;omega) | (simp at hlt ⊢;split at hlt<;>split<;>omega)
            simp (maxSteps:=1000000) [*])
         | (have hq:¬ (i:Int) < _:=hlt
            refine condV_dec (fun hn=>absurd hn ?_) (fun _=>?_)
            ·first | omega | (intro hn;simp at hlt hn;omega) | (intro hn;simp at hlt hn;split at hlt<;>split at hn<;>omega)
            simp (maxSteps:=1000000) [*])
         | skip)
    | ((first | refine Wait.whileH l1 hm ?_ ?_ ?_ | refine Wait.whileH l2 hm ?_ ?_ ?_ | refine Wait.whileH l3 hm ?_ ?_ ?_ | refine Wait.whileH l4 hm ?_ ?_ ?_ | refine Wait.whileH l5 hm ?_ ?_ ?_ | refine Wait.whileH l6 hm ?_ ?_ ?_)
       ·simp (maxDischargeDepth:=20) (maxSteps:=1000000) [*,CarOK];done
       ·simp (maxSteps:=1000000) [LtB,AllL,capLabs_rp,capLabs, *]<;>omega
       clear hm
       with_reducible intro n s e h hk hcu hkb hhf hep hbx hm
       try simp only[CarUse] at hcu
       repeat obtain⟨_,hcu⟩:=hcu
       try simp only[Keep] at hk
       try simp (maxSteps:=1000000) [*] at hk
       have hep':=hep
       try simp at hep'
       try simp (maxSteps:=1000000) [KeepB,AllL,capLabs_rp,capLabs, *] at hkb
       try simp (maxSteps:=1000000) [*,Plan.then_,vcPlan,planOps,isCallAt,callKind])
    | (first
       | (refine Wait.drawH p1 ?_ (by kernel_rfl) follows ?_
          ·decide)
       | (refine Wait.drawH p2 ?_ (by kernel_rfl) follows ?_
          ·decide)
       | (refine Wait.drawH p3 ?_ (by kernel_rfl) follows ?_
          ·decide)
       | (refine Wait.drawH p4 ?_ (by kernel_rfl) follows ?_
          ·decide)
       | (refine Wait.drawH p5 ?_ (by kernel_rfl) follows ?_
          ·decide)
       | (refine Wait.drawH p6 ?_ (by kernel_rfl) follows ?_
          ·decide)
       | (refine Wait.drawH p7 ?_ (by kernel_rfl) follows ?_
          ·decide)
       | (refine Wait.drawH p8 ?_ (by kernel_rfl) follows ?_
          ·decide)
       try simp (maxSteps:=1000000) [*,Plan.then_,vcPlan,planOps,isCallAt,callKind])
    | (refine⟨fun (_:Lab) (_:List C) hl=>hl,?_⟩;try simp (maxSteps:=1000000) [*,Plan.then_,vcPlan,planOps,isCallAt,callKind])
    | (refine And.intro ?_ ?_<;>try simp (maxSteps:=1000000) [*,Plan.then_,vcPlan,planOps,isCallAt,callKind])
    | (refine emptyK_own (by simp) ?_;try simp (maxSteps:=1000000) [*,Plan.then_,vcPlan,planOps,isCallAt,callKind])
    | (refine lenK_of (by assumption) (fun hl=>?_);try simp only[List.length_map] at hl
       try simp (maxSteps:=1000000) [*,Plan.then_,vcPlan,planOps,isCallAt,callKind])
    | (refine optV_ifI ?_ ?_
       ·omega
       try simp (maxSteps:=1000000) [*,Plan.then_,vcPlan,planOps,isCallAt,callKind])
    | (rcases Rd.cases (by assumption) with hz | ⟨l,hz⟩ | ⟨hz,hy⟩ | ⟨hz,hy⟩
       all_goals
        subst hz
        first
        | (simp_all;done)
        | (try simp (maxSteps:=1000000) [*,Plan.then_,vcPlan,planOps,isCallAt,callKind])))):Con m P f av er:=
 ⟨fun r hm=>PSpec.of_vc hf hb hnm hn hrs has (hv r hm)⟩
end
end Go.Am
end
section
namespace Go.Proofs.YthiojhcimecdgaaGreatDoor
open Go.Am
instance:ElT Tryz.prog 22 39 1 24:=⟨ty_el22⟩
instance:ElT Tryz.prog 23 22 1 24:=⟨ty_el23⟩
instance:ElT Tryz.prog 28 66 3 64:=⟨ty_el28⟩
instance:ElT Tryz.prog 29 116 3 56:=⟨ty_el29⟩
instance:ElT Tryz.prog 30 114 7 80:=⟨ty_el30⟩
instance:ElT Tryz.prog 33 122 2 32:=⟨ty_el33⟩
instance:ElT Tryz.prog 38 42 2 40:=⟨ty_el38⟩
instance:ElT Tryz.prog 39 42 2 40:=⟨ty_el39⟩
instance:ElT Tryz.prog 40 44 1 24:=⟨ty_el40⟩
instance:ElT Tryz.prog 43 46 3 32:=⟨ty_el43⟩
instance:ElT Tryz.prog 44 46 3 32:=⟨ty_el44⟩
instance:ElT Tryz.prog 49 9 1 16:=⟨ty_el49⟩
instance:ElT Tryz.prog 50 54 4 72:=⟨ty_el50⟩
instance:ElT Tryz.prog 63 111 3 32:=⟨ty_el63⟩
instance:ElT Tryz.prog 64 3 1 8:=⟨ty_el64⟩
instance:ElT Tryz.prog 100 32 3 72:=⟨ty_el100⟩
instance:ElT Tryz.prog 107 50 1 24:=⟨ty_el107⟩
instance:ElT Tryz.prog 119 118 24 352:=⟨ty_el119⟩
instance:ElT Tryz.prog 120 118 24 352:=⟨ty_el120⟩
instance:ElT Tryz.prog 126 55 1 8:=⟨ty_el126⟩
instance:ElT Tryz.prog 142 4 1 1:=⟨ty_el142⟩
instance:ElT Tryz.prog 149 49 1 24:=⟨ty_el149⟩
instance:ElT Tryz.prog 173 177 2 16:=⟨ty_el173⟩
instance:ElT Tryz.prog 227 5 1 1:=⟨ty_el227⟩
instance:EncE Int encI 1:=⟨fun _=>rfl⟩
instance:EncE Bool encB 1:=⟨fun _=>rfl⟩
instance:EncE ByteArray encS 1:=⟨fun _=>rfl⟩
instance {α:Type} {f:α→List D} {n:Nat} [EncE α f n]:EncE (List α) (encL f) 1:=⟨fun _=>rfl⟩
instance:EncE Db Db.enc 2:=⟨fun _=>rfl⟩
instance:EncE Sch Sch.enc 3:=⟨fun _=>rfl⟩
instance:EncE Gr Gr.enc 4:=⟨fun _=>rfl⟩
instance:EncE Rel Rel.enc 2:=⟨fun _=>rfl⟩
instance:EncE GV GV.enc 3:=⟨fun _=>rfl⟩
instance:EncE Txn Txn.enc 4:=⟨fun _=>rfl⟩
instance:EncE Chg Chg.enc 4:=⟨fun _=>rfl⟩
instance:EncE Tbl Tbl.enc 3:=⟨fun _=>rfl⟩
instance:EncE Col Col.enc 3:=⟨fun _=>rfl⟩
instance:EncE Cons Cons.enc 7:=⟨fun _=>rfl⟩
instance:EncE Fk Fk.enc 3:=⟨fun _=>rfl⟩
instance:EncE Stp Stp.enc 24:=⟨fun _=>rfl⟩
instance:EncE Edg Edg.enc 2:=⟨fun _=>rfl⟩
instance:EncE Hop Hop.enc 2:=⟨fun _=>rfl⟩
end Go.Proofs.YthiojhcimecdgaaGreatDoor
end
section
namespace Go.Proofs.YthiojhcimecdgaaGreatDoor
open Go Go.Am Go.RowKit
def nameByte (c : UInt8) : Bool := (decide (97 ≤ c.toNat) && decide (c.toNat ≤ 122)) || (decide (48 ≤ c.toNat) && decide (c.toNat ≤ 57))
def validName (s : ByteArray) : Bool := decide (1 ≤ s.size) && decide (s.size ≤ 12) && !(decide (48 ≤ (s.data.toList.headD 0).toNat) && decide ((s.data.toList.headD 0).toNat ≤ 57)) && s.data.toList.all nameByte
theorem below_bytes (w : World) (e : TypeId) (s : ByteArray) : Below w.heap.size w (Lib.bytesWorld w e s) := by
  have h1 : (Lib.bytesWorld w e s).heap.size = w.heap.size + 1 := Lib.bytesWorld_size w e s
  refine ⟨?_, ?_, ?_, by omega, fun k hk => Lib.bytesWorld_at_old w e s k hk⟩ <;> simp [Lib.bytesWorld, World.freeze, World.alloc, World.drew, -World.alloc_eq, -World.drew_eq]
theorem all_false {s : ByteArray} {k : Nat} (hk : k < s.size) (hf : nameByte s[k] = false) : s.data.toList.all nameByte = false := by
  rw [List.all_eq_false]
  exact ⟨s[k], by obtain ⟨⟨l⟩⟩ := s; exact List.getElem_mem hk, by simpa using hf⟩
theorem all_true {s : ByteArray} (h : ∀ k (hk : k < s.size), nameByte s[k] = true) : s.data.toList.all nameByte = true := by
  rw [List.all_eq_true]
  intro x hx
  obtain ⟨⟨l⟩⟩ := s
  obtain ⟨k, hk, rfl⟩ := List.getElem_of_mem hx
  exact h k hk
set_option maxRecDepth 100000 in
set_option maxHeartbeats 1000000 in
theorem calls_validName (s : ByteArray) (w : World) : Calls Tryz.prog 126 #[.string s] w fun e w' => e = .returned (.bool (validName s)) ∧ Below w.heap.size w w' := by
  have U9 : Tryz.prog.underlying 9 = some .string := by kernel_rfl
  have U193 : Tryz.prog.underlying 227 = some (.slice 5) := by kernel_rfl
  have U5 : Tryz.prog.underlying 5 = some (.int .u8) := by kernel_rfl
  have kc : ∀ w : World, (convert 9 227 (.string s)).run Tryz.prog w = .ok (.slice (some ⟨w.heap.size, 0, none⟩) s.size (grownCap w s.size 0 5)) (Lib.bytesWorld w 5 s) := fun w => Lib.run_convert_string_bytes w 9 227 5 s U9 U193 U5
  by_cases h1 : (s.size : Int) < 1
  · have hv : validName s = false := by simp [validName]; omega
    rw [hv]
    go_enter Tryz.func126, Tryz.ntmps126
    go_wp2
    go_ret
    exact ⟨rfl, Below.refl _ _⟩
  by_cases h2 : 12 < (s.size : Int)
  · have hv : validName s = false := by simp [validName]; omega
    rw [hv]
    go_enter Tryz.func126, Tryz.ntmps126
    go_wp2
    go_ret
    exact ⟨rfl, Below.refl _ _⟩
  have hlt : 0 < s.size := by omega
  have hb : Below w.heap.size w (Lib.bytesWorld w 5 s) := below_bytes w 5 s
  have hcells : ∀ k (hk : k < s.size), (Lib.bytesWorld w 5 s).cell? ⟨w.heap.size, k, none⟩ = some (.int .u8 s[k].toNat) := fun k hk => by
    rw [Lib.bytesWorld_cell w 5 s k hk]
    simp [List.getD_eq_getElem?_getD, hk]
    rfl
  have hhead : s.data.toList.headD 0 = s[0] := by
    obtain ⟨⟨l⟩⟩ := s
    cases l with
    | nil => simp [ByteArray.size] at hlt
    | cons c l => rfl
  have first : (48 ≤ (s[0].toNat : Int) ∧ (s[0].toNat : Int) ≤ 57) → validName s = false := fun h => by
    have h5 : 48 ≤ s[0].toNat ∧ s[0].toNat ≤ 57 := by omega
    simp only [validName, hhead, h5.1, h5.2]
    simp
  have rest : ¬ (48 ≤ (s[0].toNat : Int) ∧ (s[0].toNat : Int) ≤ 57) → validName s = s.data.toList.all nameByte := fun h => by
    have e1 : decide (1 ≤ s.size) = true := by simp; omega
    have e2 : decide (s.size ≤ 12) = true := by simp; omega
    have e3 : (decide (48 ≤ s[0].toNat) && decide (s[0].toNat ≤ 57)) = false := by
      rw [Bool.and_eq_false_iff]; simp; omega
    simp only [validName, hhead, e1, e2, e3]
    simp
  have F := Lib.hid first
  have RS := Lib.hid rest
  have HC := Lib.hid hcells
  have HH := Lib.hid hhead
  have HB := Lib.hid hb
  clear first rest hcells hhead hb
  go_enter Tryz.func126, Tryz.ntmps126
  go_wp2
  · have h5 : 48 ≤ (s[0].toNat : Int) := by assumption
    have h6 : (s[0].toNat : Int) ≤ 57 := by assumption
    have h7 := Lib.hid (F.out ⟨h5, h6⟩)
    go_ret
    exact ⟨by rw [h7.out]; rfl, Below.refl _ _⟩
  all_goals
    have hr := RS.out (by omega)
    have HR := Lib.hid hr
    clear hr
    go_loop [26] (fun i => ∃ k : Nat, k ≤ s.size ∧ i = .int .i64 k ∧ ∀ j (hj : j < s.size), j < k → nameByte s[j] = true) (fun i => s.size - (intOf i).toNat)
    case atStart => exact ⟨0, Nat.zero_le _, rfl, fun j hj h => by omega⟩
    case round =>
      obtain ⟨k, hk, rfl, hall⟩ := hrel
      have HA := Lib.hid hall
      clear hall
      by_cases hlt2 : k < s.size
      · have hc1 := HC.out k hlt2
        go_wp2
        all_goals first
          | (go_round
             case rel => exact ⟨k + 1, by omega, by go_num, fun j hj hjk => by
               rcases Nat.lt_or_ge j k with h | h
               · exact HA.out j hj h
               · obtain rfl : j = k := by omega
                 simp only [nameByte]; simp; omega⟩
             case measure => simp [intOf]; omega)
          | (have hf : nameByte s[k] = false := by
               simp only [nameByte, Bool.or_eq_false_iff, Bool.and_eq_false_iff, decide_eq_false_iff_not]; omega
             have hz := HR.out.trans (all_false hlt2 hf)
             go_ret
             exact ⟨by rw [hz]; rfl, HB.out⟩)
      · have hz := HR.out.trans (all_true fun j hj => HA.out j hj (by omega))
        have HZ := Lib.hid hz
        clear hz
        go_wp2
        go_ret
        exact ⟨by rw [HZ.out]; rfl, HB.out⟩
def m_schema_ValidName (s : ByteArray) : Option Bool := some (validName s)
theorem c_schema_ValidName (s : ByteArray) (r : Bool) (hm : Is (m_schema_ValidName s) r) : PSpec Tryz.prog 126 [.one (.d (.str s))] (.one (.d (.bool r))) := by
  obtain rfl := r_ret hm
  refine ⟨⟨_, Tryz.func126, by kernel_rfl, by kernel_rfl⟩, fun w m t vals hgok hm ht hargs => ?_⟩
  obtain ⟨hs, hg⟩ := hargs
  obtain ⟨u0, h0, r0⟩ := hg 0 _ rfl
  have e0 : u0 = .string s := RepD.str_inv (m := m) r0
  subst e0
  have hv : vals = #[.string s] := by
    apply Array.ext_getElem?
    intro i
    match i with
    | 0 => simpa using h0
    | i + 1 => rw [Array.getElem?_eq_none (by simp at hs; omega)]; simp
  subst hv
  refine (calls_validName s w).mono ?_
  rintro e w' ⟨rfl, hb⟩
  refine ⟨_, m, fun _ => (none, 0), rfl, Sub.refl _, fun _ _ _ _ h => h, fun b o v hv => ?_, hb, RepD.bool _, ⟨fun x hx => by simp [RV.fr, RV1.fr, RC.fr] at hx, fun x hx => by simp [RV.fr, RV1.fr, RC.fr] at hx⟩⟩
  have h1 := hm b o v hv
  have h2 := World.block_lt_of_cell? w ⟨b, o, none⟩ h1
  rw [hb.cell (p := ⟨b, o, none⟩) h2]
  exact h1
end Go.Proofs.YthiojhcimecdgaaGreatDoor
end
section
namespace Go.Proofs.YthiojhcimecdgaaGreatDoor
open Go.Am
set_option maxRecDepth 20000
def m_slices_Clone_Value (s_:List GV):Option (List GV):=some s_
theorem c_slices_Clone_Value (s_:List GV) (r:List GV) (hm:Is (m_slices_Clone_Value s_) r):PSpec Tryz.prog 49 [.one (.d (.sl (s_.map GV.enc)))] (.one (.fresh 0 3 (r.map GV.enc))):=by
 obtain rfl:=r_ret hm
 refine bound1 ⟨_,Tryz.func49,by kernel_rfl,by kernel_rfl⟩ (fun hl=>?_)
 have hxs:∀ x ∈ s_.map GV.enc,x.length=3:=by
  intro x hx
  obtain⟨y,_,rfl⟩:=List.mem_map.1 hx
  rfl
 generalize s_.map GV.enc=xs at *
 refine PSpec.of_vc Tryz.func49 rfl (by kernel_rfl) (n:=8) rfl rfl (by simp) ?_
 simp
 refine nilK_list ty_el44 rfl (xs:=xs) rfl (fun b hb=>?_)
 cases b with
 | true=>
   have:xs=[]:=Classical.byContradiction fun h=>by simpa using hb h
   subst this
   simp
   exact ret_growsV (by simpa using GrowsV.nil)
 | false=>
   simp
   refine emptyK_own (by simp) ?_
   simp
   refine appK_of ty_el44 (Grows.own (by simp) (by simp) (by simp)) rfl (by decide) (by decide) hxs (by simpa using hl) ?_
   simp
   exact ret_growsV (by simpa using GrowsV.app (by simp) (by simp) hxs rfl)
instance i_slices_Clone_Value (s_:List GV):Con (m_slices_Clone_Value s_) Tryz.prog 49 [.one (.d (.sl (s_.map GV.enc)))] (fun r=>.one (.fresh 0 3 (r.map GV.enc))):=⟨fun r hm=>c_slices_Clone_Value s_ r hm⟩
set_option maxRecDepth 20000
def m_relation_Clone (rows:List (List GV)):Option ((List (List GV))):=
 (forK (fun (i2:Nat) (x2:List GV) (s2:(List (List GV))) next_2=>(bindK (m_slices_Clone_Value x2) fun v3=>(appK2 s2 [v3] fun _=>(next_2 (s2++[v3]))))) (fun (s2:(List (List GV)))=>(some s2)) rows 0 [])
instance c_relation_Clone (rows:List (List GV)):Con (m_relation_Clone rows) Tryz.prog 51 [.one (.d (.sl (rows.map (encL GV.enc))))] (fun r=>.one (.d (.sl (r.map (encL GV.enc))))):=by
 unfold m_relation_Clone
 have l1:LH (σ:=(List (List GV))) 8 [6,7] [.g 3 1 (fun s=>s.map (encL GV.enc))]:=.intro
 exact go 19 Tryz.func51 rfl (by kernel_rfl) rfl rfl (by simp)
set_option maxRecDepth 20000
def m_relation_Key (t:Tbl) (row:List GV):Option ((List GV)):=
 (forK (fun (i3:Nat) (x3:Int) (s3:(List GV)) next_3=>(bif decide (0≤x3) then (bif decide (x3 < (row.length:Int)) then (getK row x3 fun x8=>(appK2 s3 [x8] fun _=>(next_3 (s3++[x8])))) else (appK2 s3 [(GV.mk 0 0 ByteArray.empty)] fun _=>(next_3 (s3++[(GV.mk 0 0 ByteArray.empty)])))) else (appK2 s3 [(GV.mk 0 0 ByteArray.empty)] fun _=>(next_3 (s3++[(GV.mk 0 0 ByteArray.empty)]))))) (fun (s3:(List GV))=>(some s3)) t.pk 0 [])
instance c_relation_Key (t:Tbl) (row:List GV):Con (m_relation_Key t row) Tryz.prog 17 [.agg t.enc,.one (.d (.sl (row.map GV.enc)))] (fun r=>.one (.fresh 0 3 (r.map GV.enc))):=by
 unfold m_relation_Key
 have l1:LH (σ:=(List GV)) 12 [1,10,11] [.g 5 3 (fun s=>s.map GV.enc)]:=.intro
 exact go 35 Tryz.func17 rfl (by kernel_rfl) rfl rfl (by simp)
set_option maxRecDepth 20000
instance i_strings_Compare (a:ByteArray) (b:ByteArray):Con (m_strings_Compare a b) Tryz.prog 134 [.one (.d (.str a)),.one (.d (.str b))] (fun r=>.one (.d (.int .i64 r))):=⟨fun r hm=>c_strings_Compare a b r hm⟩
set_option maxRecDepth 20000
def m_value_compareInts (a:Int) (b:Int):Option Int:=
 (bif decide (a < b) then (some (-1)) else (bif decide (b < a) then (some 1) else (some 0)))
instance c_value_compareInts (a:Int) (b:Int):Con (m_value_compareInts a b) Tryz.prog 96 [.one (.d (.int .i64 a)),.one (.d (.int .i64 b))] (fun r=>.one (.d (.int .i64 r))):=by
 unfold m_value_compareInts
 exact go 13 Tryz.func96 rfl (by kernel_rfl) rfl rfl (by simp)
set_option maxRecDepth 20000
def m_value_Compare (a:GV) (b:GV):Option Int:=
 (bindK (m_value_compareInts a.kind b.kind) fun v3=>(bif (v3 != 0) then (some v3) else (bindK (m_value_compareInts a.int b.int) fun v5=>(bif (v5 != 0) then (some v5) else (bindK (m_strings_Compare a.text b.text) fun v7=>(some v7))))))
instance c_value_Compare (a:GV) (b:GV):Con (m_value_Compare a b) Tryz.prog 95 [.agg a.enc,.agg b.enc] (fun r=>.one (.d (.int .i64 r))):=by
 unfold m_value_Compare
 exact go 28 Tryz.func95 rfl (by kernel_rfl) rfl rfl (by simp)
set_option maxRecDepth 20000
def m_value_CompareRows (a:List GV) (b:List GV):Option Int:=
 (countK (fun (i3:Nat) (s3:Unit) next_3=>(getK a (i3:Int) fun x4=>(getK b (i3:Int) fun x5=>(bindK (m_value_Compare x4 x5) fun v6=>(bif (v6 != 0) then (some v6) else (chkK (okI ((i3:Int)+1)) (next_3 ()))))))) (fun (s3:Unit)=>(bindK (m_value_compareInts (a.length:Int) (b.length:Int)) fun v11=>(some v11))) (Int.toNat (if (b.length:Int) < (a.length:Int) then (b.length:Int) else (a.length:Int))) 0 ())
instance c_value_CompareRows (a:List GV) (b:List GV):Con (m_value_CompareRows a b) Tryz.prog 69 [.one (.d (.sl (a.map GV.enc))),.one (.d (.sl (b.map GV.enc)))] (fun r=>.one (.d (.int .i64 r))):=by
 unfold m_value_CompareRows
 have l1:LH (σ:=Unit) 12 [0,1,11] []:=.intro
 have p1:PH [4] (Plan.then_ [0,1,2,3,4,5,6,7,8,9] .done):=.intro
 exact go 33 Tryz.func69 rfl (by kernel_rfl) rfl rfl (by simp)
set_option maxRecDepth 20000
def m_relation_Find (t:Tbl) (rows:List (List GV)) (key:List GV):Option (Int × Bool):=
 (forK (fun (i3:Nat) (x3:List GV) (s3:Unit) next_3=>(bindK (m_relation_Key t x3) fun v4=>(bindK (m_value_CompareRows v4 key) fun v5=>(bif decide (0≤v5) then (some ((i3:Int),(v5 == 0))) else (next_3 ()))))) (fun (s3:Unit)=>(some ((rows.length:Int),false))) rows 0 ())
instance c_relation_Find (t:Tbl) (rows:List (List GV)) (key:List GV):Con (m_relation_Find t rows key) Tryz.prog 48 [.agg t.enc,.one (.d (.sl (rows.map (encL GV.enc)))),.one (.d (.sl (key.map GV.enc)))] (fun r=>.tup [.one (.d (.int .i64 r.1)),.one (.d (.bool r.2))]):=by
 unfold m_relation_Find
 have l1:LH (σ:=Unit) 13 [1,2,3,11,12] []:=.intro
 exact go 31 Tryz.func48 rfl (by kernel_rfl) rfl rfl (by simp)
end Go.Proofs.YthiojhcimecdgaaGreatDoor
end
section
namespace Go.Proofs.YthiojhcimecdgaaGreatDoor
open Go Go.Am
def rowc (row:List GV):C:=.d (.sl (row.map GV.enc))
theorem h_relation_Clone (h:HS) (rows out:List (List GV)) (hm:Is (m_relation_Clone rows) out) (K:V→HS→Prop)
  (hk:∀ c h',MR h' 1 c (ones (out.map rowc))→Same h h' []→(∀ k ∈ labs c,h.ep≤k.1∧k.1 < h'.ep)→K (.one c) h') :
  HSpec Tryz.prog 51 [.one (.d (.sl (rows.map (encL GV.enc))))] h K:=by
 unfold m_relation_Clone at hm
 refine HSpec.of_vc Tryz.func51 rfl (by kernel_rfl) (n:=19) rfl rfl (by simp) ?_
 simp
 intro hil
 refine Wait.for (xs:=rows) (s0:=[]) (fun i s e h'=>∃ c,e.n=19∧e.get 3=.one c∧e.get 6=.one (.d (.sl (rows.map (encL GV.enc))))∧e.get 7=.one (.d (.int .i64 (rows.length:Int)))∧e.get 8=.one (.d (.int .i64 (i:Int)))∧MR h' 1 c (ones (s.map rowc))∧Same h h' []∧∀ k ∈ labs c,h.ep≤k.1∧k.1 < h'.ep) hm ⟨.nil,by simp,by simp,by simp,by simp,by simp,by simpa[ones] using MR.nil,.refl,by simp[labs]⟩ ?_ ?_
 ·rintro i s e h' ⟨c,hn,h3,h6,h7,h8,hmr,hs,hl⟩ hlt hm
  have hw:IntKind.i64.wrap ((i:Int)+1)=(i:Int)+1:=IntWalk.i64_in _ (by omega)
  obtain⟨row,hrow,hm⟩:=hm.bind
  obtain⟨hap,hm⟩:=hm.chk
  have hr:row=rows[i]:=(r_ret hrow).symm
  simp[hn,h3,h6,h7,h8,hlt]
  refine callK_fn (c_slices_Clone_Value _ row hrow) (by simp) ?_
  simp[hn,h3,h6,h7,h8,hlt]
  have hs2:Same h' ((h'.setArr (h'.ep,225) (some (row.length,3))).next.setArr (h'.ep+1,240) (some (1,1))).next []:=((Same.refl.setArr).next.setArr).next
  refine app_mr ty_el40 (by kernel_rfl) (by decide) (by decide) (hmr.frame fun k hk=>hs2.2 k (hl k hk).2 (by simp)) (RowAt.own1 rfl) (by simpa[ones] using hap) (fun c' h2 hm2 hs3 hl3=>?_)
  simp[hn,h3,h6,h7,h8,hw]
  have hs4:Same h h2 []:=(hs.trans hs2).trans' hs3 fun k hk=>.inr (hl k hk).1
  refine BackF.of (s++[row]) ⟨⟨c',by simp[hn],by simp[h3],by simp[h6],by simp[h7],by simp,?_,hs4,fun k hk=>?_⟩,hm⟩
  ·simpa[ones,rowc] using hm2
  ·rcases hl3 k hk with h9 | h9
   ·have:=hl k h9
    have:=hs3.1
    simp at this
    omega
   ·have:=hs.1
    simp at h9
    omega
 ·rintro s e h' ⟨c,hn,h3,h6,h7,h8,hmr,hs,hl⟩ hm
  obtain rfl:=r_ret hm
  simp[h3,h7,h8,hn]
  exact hk _ _ hmr hs hl
theorem ones_frz {h:HS} {c:C} {rows:List (List GV)} {rs:List C} (hm:MR h 1 c (ones rs)) (hl:rs.length=rows.length) (hd:∀ (i:Nat) (r:C) (row:List GV),rs[i]?=some r→rows[i]?=some row→r.toD=some (.sl (row.map GV.enc))):Frz h c (.sl (rows.map (encL GV.enc))):=by
 refine hm.frz (by simp[ones,hl]) (fun t ht=>by obtain⟨y,_,rfl⟩:=List.mem_map.1 ht;rfl) (fun i x t hx ht=>?_)
 simp only[ones,List.getElem?_map] at hx ht
 cases hr:rs[i]? with
 | none=>rw[hr] at hx;cases hx
 | some r=>
   cases hw:rows[i]? with
   | none=>rw[hw] at ht;cases ht
   | some row=>
     rw[hr] at hx
     rw[hw] at ht
     cases hx
     cases ht
     exact⟨.data (hd i r row hr hw),trivial⟩
theorem rowc_frz {h:HS} {c:C} {rows:List (List GV)} (hm:MR h 1 c (ones (rows.map rowc))):Frz h c (.sl (rows.map (encL GV.enc))):=
 ones_frz hm (by simp) fun i r row hr hw=>by
  rw[List.getElem?_map,hw] at hr
  cases hr
  rfl
theorem ones_set {h:HS} {l:Lab} {cap i:Nat} {rs sp:List C} {x:C} (hb:(rs++sp).length=cap * 1) (hlim:rs.length≤2097152) (hi:i < rs.length):MR (h.setBox l (setCells (rs++sp) i [x])) 1 (.mrow l 0 rs.length cap) (ones (rs.set i x)):=by
 have e1:rs++sp=rs.take i++(rs[i]::(rs.drop (i+1)++sp)):=by
  rw[← List.cons_append,← List.drop_eq_getElem_cons hi,← List.append_assoc,List.take_append_drop]
 have e2:setCells (rs++sp) i [x]=rs.set i x++sp:=by
  rw[e1,setCells_app (by simp;omega),List.set_eq_take_append_cons_drop,if_pos hi]
  simp
 rw[e2]
 have:=ones_mr (h:=h.setBox l (rs.set i x++sp)) (l:=l) (cap:=cap) (rs:=rs.set i x) (sp:=sp) (by simp) (by simp at hb ⊢;omega) (by simpa using hlim)
 simpa using this
def m_relation_Upsert (t:Tbl) (rows:List (List GV)) (row:List GV):Option (List (List GV)):=
 bindK (m_relation_Clone rows) fun out=>bindK (m_relation_Key t row) fun k=>bindK (m_relation_Find t out k) fun q=>bif q.2 then chkK (0≤q.1∧q.1 < out.length) (some (out.set q.1.toNat row)) else chkK (0≤q.1∧q.1≤out.length∧out.length+1≤2097152) (some (out.take q.1.toNat++[row]++out.drop q.1.toNat))
theorem c_relation_Upsert (t:Tbl) (rows:List (List GV)) (row:List GV) (r:List (List GV)) (hm:Is (m_relation_Upsert t rows row) r) :
  PSpec Tryz.prog 83 [.agg t.enc,.one (.d (.sl (rows.map (encL GV.enc)))),.one (.d (.sl (row.map GV.enc)))] (.one (.d (.sl (r.map (encL GV.enc))))):=by
 unfold m_relation_Upsert at hm
 refine PSpec.of_heap ?_
 show HSpec _ _ [.agg (t.enc.map C.d),.one (.d (.sl (rows.map (encL GV.enc)))),.one (.d (.sl (row.map GV.enc)))] HS.init _
 refine HSpec.of_vc Tryz.func83 rfl (by kernel_rfl) (n:=34) rfl rfl (by simp) ?_
 obtain⟨out,hout,hm⟩:=hm.bind
 obtain⟨k,hkv,hm⟩:=hm.bind
 obtain⟨q,hqv,hm⟩:=hm.bind
 obtain⟨qi,qb⟩:=q
 simp only at hm
 simp
 refine callK_heap (h_relation_Clone _ rows out hout _ (fun c h1 hm1 hs1 hl1=>?_))
 have b0:=hs1.2 (0,48) (by simp) (by simp)
 have hep:=hs1.1
 simp at b0 hep
 simp
 refine callK_fn (c_slices_Clone_Value row row rfl) (by simp) ?_
 simp
 refine Wait.cut (Plan.then_ [0,1,2,3,4,5,6,7,8,9,10] .done) follows (by kernel_rfl) (fun e h2=>e.n=34∧e.get 7=.one c∧e.get 8=.one (.d (.int .i64 qi))∧e.get 9=.one (.d (.bool qb))∧e.get 2=.one (.own (h1.ep,209) (row.map GV.enc))∧Same h1 h2 []) ?_ ?_
 ·simp[b0,Plan.then_,vcPlan,planOps,isCallAt,callKind]
  refine callK_fn (c_relation_Key t row k hkv) (by simp) ?_
  simp[b0,Plan.then_,vcPlan,planOps,isCallAt,callKind]
  refine⟨fun _ _ x=>x,callK_heap (HSpec.of_lend (c_relation_Find t out k (qi,qb) hqv) ⟨.agg (FrzCs.datas (ds:=t.enc)),.one (.frz (rowc_frz (hm1.frame fun l hl=>?_))),.one (.frz (.data rfl)),trivial⟩ rfl ?_)⟩
  ·rfl
  simp[b0,Plan.then_,vcPlan,planOps,isCallAt,callKind]
  refine⟨fun _ _ x=>x,CutK.of ?_⟩
  simp
  exact ((Same.refl.setArr).next).setArr.next.next
 ·rintro e h2 ⟨hn,h7,h8,h9,h2',hs2⟩
  simp[hn,h7,h8,h9,h2']
  have hm2:=hm1.frame fun l hl=>hs2.2 l (hl1 l hl).2 (by simp)
  cases qb with
  | true=>
    simp only[cond_true] at hm
    obtain⟨⟨hq0,hql⟩,hm⟩:=hm.chk
    obtain rfl:=r_ret hm
    obtain⟨qn,rfl⟩:∃ n:Nat,qi=n:=⟨qi.toNat,by omega⟩
    have hqi:qn < out.length:=by omega
    obtain⟨l,cap,sp,rfl,hb,hcap⟩:=hm2.block (by simp[ones];omega)
    rw[ones_box] at hb hcap
    simp[hn,h7,h8,h2',hb,hqi,ones]
    have hm4:=ones_set (h:=h2) (l:=l) (i:=qn) (x:=C.own (h1.ep,209) (row.map GV.enc)) hcap (by have:=hm1.2.1;simpa[ones] using this) (by simpa using hqi)
    have:=ones_frz (rows:=out.set qn row) (by simpa using hm4) (by simp) (fun i r w hr hw=>?_)
    ·refine⟨by simp at hcap;omega,?_⟩
     show Frz _ _ _
     simpa[encL] using this
    ·rw[List.getElem?_set] at hr hw
     by_cases hqe:qn=i
     ·subst hqe
      simp[hqi] at hr hw
      subst hr hw
      rfl
     ·rw[if_neg hqe,List.getElem?_map] at hr
      rw[if_neg hqe] at hw
      rw[hw] at hr
      cases hr
      rfl
  | false=>
    simp only[cond_false] at hm
    obtain⟨⟨hq0,hql,hlim⟩,hm⟩:=hm.chk
    obtain rfl:=r_ret hm
    obtain⟨qn,rfl⟩:∃ n:Nat,qi=n:=⟨qi.toNat,by omega⟩
    simp[hn,h7,h8,h2']
    refine callK_heap (h_slices_Insert_Row _ c (out.map rowc) _ [.sl (row.map GV.enc)] qn ?_ (fun l hl=>?_) (by simp;omega) ?_ rfl (by simpa using hlim) _ (fun c' h3 hm3 hs3 hl3=>?_))
    ·exact hm2.frame fun l hl=>by simp
    ·have:=hl1 l hl
     have:=hs2.1
     simp
     omega
    ·simp
    ·simp[hn]
     have hrc:ones ((out.map rowc).take qn++[C.d (.sl (row.map GV.enc))]++(out.map rowc).drop qn)=ones ((out.take qn++[row]++out.drop qn).map rowc):=by simp[rowc]
     have hm4:MR h3 1 c' (ones ((out.take qn++[row]++out.drop qn).map rowc)):=hrc ▸ hm3
     have:=rowc_frz hm4
     show Frz _ _ _
     simpa[encL] using this
def m_relation_Delete (t:Tbl) (rows:List (List GV)) (key:List GV):Option (List (List GV) × Bool):=
 bindK (m_relation_Clone rows) fun out=>bindK (m_relation_Find t out key) fun q=>bif q.2 then chkK (0≤q.1∧q.1 < out.length) (some (out.take q.1.toNat++out.drop (q.1.toNat+1),true)) else some (out,false)
theorem c_relation_Delete (t:Tbl) (rows:List (List GV)) (key:List GV) (r:List (List GV) × Bool) (hm:Is (m_relation_Delete t rows key) r) :
  PSpec Tryz.prog 84 [.agg t.enc,.one (.d (.sl (rows.map (encL GV.enc)))),.one (.d (.sl (key.map GV.enc)))] (.tup [.one (.d (.sl (r.1.map (encL GV.enc)))),.one (.d (.bool r.2))]):=by
 unfold m_relation_Delete at hm
 refine PSpec.of_heap ?_
 show HSpec _ _ [.agg (t.enc.map C.d),.one (.d (.sl (rows.map (encL GV.enc)))),.one (.d (.sl (key.map GV.enc)))] HS.init _
 refine HSpec.of_vc Tryz.func84 rfl (by kernel_rfl) (n:=28) rfl rfl (by simp) ?_
 obtain⟨out,hout,hm⟩:=hm.bind
 obtain⟨q,hqv,hm⟩:=hm.bind
 obtain⟨qi,qb⟩:=q
 simp only at hm
 simp
 refine callK_heap (h_relation_Clone _ rows out hout _ (fun c h1 hm1 hs1 hl1=>?_))
 have b0:=hs1.2 (0,48) (by simp) (by simp)
 have hep:=hs1.1
 simp at b0 hep
 simp[b0]
 refine callK_heap (HSpec.of_lend (c_relation_Find t out key (qi,qb) hqv) ⟨.agg (FrzCs.datas (ds:=t.enc)),.one (.frz (rowc_frz hm1)),.one (.frz (.data rfl)),trivial⟩ rfl ?_)
 have hm2:MR h1.next 1 c (ones (out.map rowc)):=hm1.frame fun l hl=>by simp
 simp
 cases qb with
 | true=>
   simp only[cond_true] at hm
   obtain⟨⟨hq0,hql⟩,hm⟩:=hm.chk
   obtain rfl:=r_ret hm
   obtain⟨qn,rfl⟩:∃ n:Nat,qi=n:=⟨qi.toNat,by omega⟩
   have hlim:=hm1.2.1
   rw[ones_len] at hlim
   have hw:IntKind.i64.wrap ((qn:Int)+1)=((qn+1:Nat):Int):=IntWalk.i64_in _ (by simp at hlim;omega)
   simp[hw]
   refine callK_heap (h_slices_Delete_Row _ c (ones (out.map rowc)) qn (qn+1) hm2 (by omega) (by simp[ones];omega) _ (fun c' h3 hm3 hs3 _ _ _=>?_))
   have hrc:(ones (out.map rowc)).take qn++(ones (out.map rowc)).drop (qn+1)=ones ((out.take qn++out.drop (qn+1)).map rowc):=by simp[ones]
   have hm4:MR h3 1 c' (ones ((out.take qn++out.drop (qn+1)).map rowc)):=hrc ▸ hm3
   have:=rowc_frz hm4
   simp[retH,resVs,resV,notTup]
   refine⟨?_,Frz.data rfl,trivial⟩
   show Frz _ _ _
   simpa[encL] using this
 | false=>
   simp only[cond_false] at hm
   obtain rfl:=r_ret hm
   simp[retH,resVs,resV,notTup]
   exact⟨rowc_frz hm2,Frz.data rfl,trivial⟩
set_option maxRecDepth 20000
def mpC (M:Mp) (co cn:C):List C:=M.enc.map C.d++[co,cn,.d (.int .i64 M.err)]
theorem MR.lenK {h:HS} {n:Nat} {c:C} {xs:List (List C)} {f:Nat→Prop} (m:MR h n c xs) (hk:f xs.length):lenK c (k:=⟨f⟩):=by
 rcases m.2.2 with ⟨rfl,rfl | rfl⟩ | ⟨l,cap,sp,rfl,-⟩
 ·simpa using hk
 ·simpa using hk
 ·simpa using hk
def RelAt (h:HS) (c:C) (rs:List Rel):Prop:=∃ xs:List (List C),MR h 2 c xs∧xs.map toDs=rs.map fun r=>some r.enc
structure MpAt (h:HS) (l:Lab) (co cn:C) (M:Mp):Prop where
 box:h.box l=some (mpC M co cn)
 out:RelAt h co M.out
 nc:RelAt h cn M.nc
 lt:∀ k ∈ l::(labs co++labs cn),k.1 < h.ep
 nl:l ∉ labs co∧l ∉ labs cn∧∀ k ∈ labs co,k ∉ labs cn
theorem RelAt.len {h:HS} {c:C} {rs:List Rel} (r:RelAt h c rs):∃ xs:List (List C),MR h 2 c xs∧(xs.map toDs=rs.map fun r=>some r.enc)∧xs.length=rs.length∧∀ (i:Nat) r,rs[i]?=some r→∃ c',xs[i]?=some [.d (.str r.table),c']∧c'.toD=some (.sl (r.rows.map (encL GV.enc))):=by
 obtain⟨xs,m,he⟩:=r
 refine⟨xs,m,he,by have:=congrArg List.length he;simpa using this,fun i r hr=>?_⟩
 have h1:=congrArg (fun z=>z[i]?) he
 simp only[List.getElem?_map,hr,Option.map_some] at h1
 cases hx:xs[i]? with
 | none=>rw[hx] at h1;cases h1
 | some x=>
   rw[hx] at h1
   have h2:toDs x=some r.enc:=Option.some.inj h1
   have hl:x.length=2:=m.1 x (List.mem_of_getElem? hx)
   match x,hl with
   | [a,b],_=>
     simp only[toDs,Rel.enc] at h2
     cases ha:a.toD with
     | none=>rw[ha] at h2;cases h2
     | some a'=>
       cases hb:b.toD with
       | none=>rw[ha,hb] at h2;cases h2
       | some b'=>
         rw[ha,hb] at h2
         simp at h2
         refine⟨b,?_,by rw[hb,h2.2]⟩
         have:a=.d (.str r.table):=by
          obtain⟨rfl,rfl⟩:=h2
          cases a with
          | d x=>simp[C.toD] at ha;rw[ha]
          | _=>simp[C.toD] at ha
         rw[this]
theorem RelAt.frame {h h':HS} {c:C} {rs:List Rel} (r:RelAt h c rs) (hb:∀ l ∈ labs c,h'.box l=h.box l):RelAt h' c rs:=by
 obtain⟨xs,m,he⟩:=r
 exact⟨xs,m.frame hb,he⟩
theorem RelAt.frz {h:HS} {c:C} {rs:List Rel} (r:RelAt h c rs):Frz h c (.sl (rs.map Rel.enc)):=by
 obtain⟨xs,m,-,hl,he⟩:=r.len
 refine m.frz (by simp[hl]) (fun t ht=>by obtain⟨y,_,rfl⟩:=List.mem_map.1 ht;rfl) fun i x t hx ht=>?_
 rw[List.getElem?_map] at ht
 cases hq:rs[i]? with
 | none=>rw[hq] at ht;cases ht
 | some q=>
   rw[hq] at ht
   cases ht
   obtain⟨c',h1,h2⟩:=he i q hq
   rw[hx] at h1
   cases h1
   exact⟨.data rfl,.data h2,trivial⟩
theorem MpAt.frame {h h':HS} {l:Lab} {co cn:C} {M:Mp} (m:MpAt h l co cn M) (hs:Same h h' []):MpAt h' l co cn M:=
 ⟨by rw[hs.2 l (m.lt l (by simp)) (by simp)];exact m.box,m.out.frame fun k hk=>hs.2 k (m.lt k (by simp[hk])) (by simp),m.nc.frame fun k hk=>hs.2 k (m.lt k (by simp[hk])) (by simp),
  fun k hk=>Nat.lt_of_lt_of_le (m.lt k hk) hs.1,m.nl⟩
def setR (t:ByteArray) (rows:List (List GV)) (out:List Rel):List Rel:=out.map fun r=>bif strEq r.table t then ⟨r.table,rows⟩ else r
theorem setR_len {t:ByteArray} {rows:List (List GV)} {out:List Rel}:(setR t rows out).length=out.length:=by simp[setR]
theorem setR_step {t:ByteArray} {rows:List (List GV)} {out:List Rel} {i:Nat} (hi:i < out.length) :
  (setR t rows (out.take i)++out.drop i)[i]?=some out[i]∧setR t rows (out.take (i+1))++out.drop (i+1)=bif strEq out[i].table t then (setR t rows (out.take i)++out.drop i).set i ⟨out[i].table,rows⟩ else setR t rows (out.take i)++out.drop i:=by
 have h1:(setR t rows (out.take i)).length=i:=by rw[setR_len,List.length_take];omega
 have h2:out.take (i+1)=out.take i++[out[i]]:=by rw[List.take_add_one];simp[hi]
 have h3:out.drop i=out[i]::out.drop (i+1):=List.drop_eq_getElem_cons hi
 refine⟨by rw[List.getElem?_append_right (by omega),h1,h3];simp,?_⟩
 rw[h2]
 have h4:setR t rows (out.take i++[out[i]])=setR t rows (out.take i)++[bif strEq out[i].table t then ⟨out[i].table,rows⟩ else out[i]]:=by simp only[setR,List.map_append,List.map_cons,List.map_nil]
 rw[h4,h3]
 cases strEq out[i].table t with
 | true=>simp only[cond_true];rw[List.set_append_right _ _ (by omega),h1,Nat.sub_self,List.set_cons_zero,List.append_assoc];rfl
 | false=>simp
end Go.Proofs.YthiojhcimecdgaaGreatDoor
end
section
namespace Go.Proofs.YthiojhcimecdgaaGreatDoor
open Go.Am
set_option maxRecDepth 20000
def m_instance_Clone (inst:List Rel):Option ((List Rel)):=
 (forK (fun (i2:Nat) (x2:Rel) (s2:(List Rel)) next_2=>(bindK (m_relation_Clone x2.rows) fun v4=>(appK2 s2 [(Rel.mk x2.table v4)] fun _=>(next_2 (s2++[(Rel.mk x2.table v4)]))))) (fun (s2:(List Rel))=>(some s2)) inst 0 [])
instance c_instance_Clone (inst:List Rel):Con (m_instance_Clone inst) Tryz.prog 24 [.one (.d (.sl (inst.map Rel.enc)))] (fun r=>.one (.d (.sl (r.map Rel.enc)))):=by
 unfold m_instance_Clone
 have l1:LH (σ:=(List Rel)) 8 [6,7] [.g 3 2 (fun s=>s.map Rel.enc)]:=.intro
 have p1:PH [5] (Plan.then_ [0,1,2,3,4,5,6,7,8,9] .done):=.intro
 exact go 23 Tryz.func24 rfl (by kernel_rfl) rfl rfl (by simp)
instance f_instance_Clone  : ConF (fun x=>m_instance_Clone x) Tryz.prog (fun x=>.one (.d (.sl (x.map Rel.enc)))) (fun r=>.one (.d (.sl (r.map Rel.enc)))) 24 []:=⟨fun x=>(c_instance_Clone x)⟩
end Go.Proofs.YthiojhcimecdgaaGreatDoor
end
section
namespace Go.Proofs.YthiojhcimecdgaaGreatDoor
open Go Go.Am
def FZ (h:HS) (c:C) (x:D) (ls:List Lab):Prop:=∀ h',(∀ l ∈ ls,h'.box l=h.box l)→Frz h' c x
theorem FZ.data {h:HS} {c:C} {x:D} (hx:c.toD=some x):FZ h c x []:=fun _ _=>.data hx
theorem FZ.frz {h:HS} {c:C} {x:D} {ls:List Lab} (f:FZ h c x ls):Frz h c x:=f h fun _ _=>rfl
theorem FZ.frame {h h':HS} {c:C} {x:D} {ls:List Lab} (f:FZ h c x ls) (hb:∀ l ∈ ls,h'.box l=h.box l):FZ h' c x ls:=fun h2 h2b=>f h2 fun l hl=>(h2b l hl).trans (hb l hl)
def FZs (h:HS) (cs:List C) (ds:List D) (ls:List Lab):Prop:=∀ h',(∀ l ∈ ls,h'.box l=h.box l)→FrzCs h' cs ds
theorem FZs.frame {h h':HS} {cs:List C} {ds:List D} {ls:List Lab} (f:FZs h cs ds ls) (hb:∀ l ∈ ls,h'.box l=h.box l):FZs h' cs ds ls:=fun h2 h2b=>f h2 fun l hl=>(h2b l hl).trans (hb l hl)
abbrev NQ:=List C × List D × List Lab
structure NR (h:HS) (n:Nat) (c:C) (qs:List NQ):Prop where
 mr:MR h n c (qs.map (·.1))
 el:∀ q ∈ qs,FZs h q.1 q.2.1 q.2.2∧q.2.1.length=n
 lt:∀ q ∈ qs,∀ k ∈ q.2.2,k.1 < h.ep∧k ∉ labs c
 lc:∀ k ∈ labs c,k.1 < h.ep
theorem NR.nil {h:HS} {n:Nat}:NR h n .nil []:=⟨MR.nil,by simp,by simp,by simp[labs]⟩
theorem NR.frame {h h':HS} {n:Nat} {c:C} {qs:List NQ} {lx:List Lab} (r:NR h n c qs) (hs:Same h h' lx) (hc:∀ k ∈ labs c,k ∉ lx) (hq:∀ q ∈ qs,∀ k ∈ q.2.2,k ∉ lx):NR h' n c qs:=
 ⟨r.mr.frame fun l hl=>hs.2 l (r.lc l hl) (hc l hl),fun q hqm=>⟨(r.el q hqm).1.frame fun l hl=>hs.2 l (r.lt q hqm l hl).1 (hq q hqm l hl),(r.el q hqm).2⟩,fun q hqm k hk=>⟨Nat.lt_of_lt_of_le (r.lt q hqm k hk).1 hs.1,(r.lt q hqm k hk).2⟩,fun k hk=>Nat.lt_of_lt_of_le (r.lc k hk) hs.1⟩
theorem NR.new {h h':HS} {n:Nat} {c:C} {qs:List NQ} (r:NR h n c qs) (hs:Same h h' []):NR h' n c qs:=r.frame hs (by simp) (by simp)
theorem NR.at {h:HS} {n:Nat} {c:C} {qs:List NQ} (r:NR h n c qs) {k:Nat} {q:NQ} (hq:qs[k]?=some q):∃ l cap sp,c=.mrow l 0 qs.length cap∧h.box l=some (rowBox (qs.map (·.1)) sp)∧(rowBox (qs.map (·.1)) sp).length=cap * n:=by
 have hk:=(List.getElem?_eq_some_iff.1 hq).1
 obtain⟨l,cap,sp,h1,h2,h3⟩:=r.mr.block (by simp;omega)
 exact⟨l,cap,sp,by simpa using h1,h2,h3⟩
theorem NR.put {h:HS} {n:Nat} {l:Lab} {cap:Nat} {qs:List NQ} {sp:List C} (r:NR h n (.mrow l 0 qs.length cap) qs) (hb:h.box l=some (rowBox (qs.map (·.1)) sp)) (hcap:(rowBox (qs.map (·.1)) sp).length=cap * n) {k:Nat} (hk:k < qs.length) {q:NQ} (hn:q.1.length=n) (hd:q.2.1.length=n)
  (hf:FZs (h.setBox l (rowBox ((qs.set k q).map (·.1)) sp)) q.1 q.2.1 q.2.2) (hl:∀ j ∈ q.2.2,j.1 < h.ep∧j≠l):NR (h.setBox l (rowBox ((qs.set k q).map (·.1)) sp)) n (.mrow l 0 (qs.set k q).length cap) (qs.set k q):=by
 have ha:AllC n ((qs.set k q).map (·.1)):=by rw[List.map_set];exact r.mr.1.set hn
 refine⟨⟨ha,by simpa using r.mr.2.1,.inr ⟨l,cap,sp,by simp,by simp,?_⟩⟩,fun p hp=>?_,fun p hp j hj=>?_,fun j hj=>by simpa using r.lc j (by simpa[labs] using hj)⟩
 ·rw[rowBox_length ha,List.length_map,List.length_set,← hcap,rowBox_length r.mr.1,List.length_map]
 ·rcases List.mem_or_eq_of_mem_set hp with h1 | rfl
  ·refine⟨(r.el p h1).1.frame fun j hj=>?_,(r.el p h1).2⟩
   have:=(r.lt p h1 j hj).2
   simp only[labs,List.mem_singleton] at this
   simp[this]
  ·exact⟨hf,hd⟩
 ·rcases List.mem_or_eq_of_mem_set hp with h1 | rfl
  ·simpa[labs] using r.lt p h1 j hj
  ·simpa[labs] using hl j hj
theorem NR.app {P:Program} {ty el:TypeId} {n by_ d:Nat} {h:HS} {c x:C} {qs:List NQ} {q:NQ} {K:V→HS→Prop} (hel:elT P ty=some (el,n,by_)) (hz:(zeT P el).isSome=true) (h0:0 < n) (hb:by_≤4096) (r:NR h n c qs) (hr:RowAt h n x [q.1]) (hl:qs.length+1≤LIM) (hn:q.2.1.length=n)
  (hf:FZs h q.1 q.2.1 q.2.2) (hq:∀ k ∈ q.2.2,k.1 < h.ep∧k ∉ labs c)
  (hk:∀ c' h',NR h' n c' (qs++[q])→Same h h' (labs c)→(∀ k ∈ labs c',k ∈ labs c∨(h.ep≤k.1∧k.1 < h'.ep))→K (.one c') h'):appK P ty c x d h (K:=⟨K⟩):=by
 refine app_mr hel hz h0 hb r.mr hr (by simpa using hl) fun c' h' hm hs hlab=>?_
 refine hk c' h' ⟨by simpa using hm,fun p hp=>?_,fun p hp k hk'=>?_,fun k hk'=>?_⟩ hs hlab
 ·rcases List.mem_append.1 hp with h1 | h1
  ·exact⟨(r.el p h1).1.frame fun l hl=>hs.2 l (r.lt p h1 l hl).1 (r.lt p h1 l hl).2,(r.el p h1).2⟩
  ·rw[List.mem_singleton.1 h1]
   exact⟨hf.frame fun l hl=>hs.2 l (hq l hl).1 (hq l hl).2,hn⟩
 ·have hkk:k.1 < h.ep∧k ∉ labs c:=by
   rcases List.mem_append.1 hp with h1 | h1
   ·exact r.lt p h1 k hk'
   ·rw[List.mem_singleton.1 h1] at hk'
    exact hq k hk'
  refine⟨Nat.lt_of_lt_of_le hkk.1 hs.1,fun h9=>?_⟩
  rcases hlab k h9 with h8 | h8
  ·exact hkk.2 h8
  ·omega
 ·rcases hlab k hk' with h8 | h8
  ·exact Nat.lt_of_lt_of_le (r.lc k h8) hs.1
  ·exact h8.2
def relC (x:Rel):List C:=[.d (.str x.table),.d (.sl (x.rows.map (encL GV.enc)))]
theorem h_instance_CloneR (h:HS) (inst out:List Rel) (hm:Is (m_instance_Clone inst) out) (K:V→HS→Prop)
  (hk:∀ c h',MR h' 2 c (out.map relC)→Same h h' []→(∀ k ∈ labs c,h.ep≤k.1∧k.1 < h'.ep)→K (.one c) h') :
  HSpec Tryz.prog 24 [.one (.d (.sl (inst.map Rel.enc)))] h K:=by
 unfold m_instance_Clone at hm
 refine HSpec.of_vc Tryz.func24 rfl (by kernel_rfl) (n:=23) rfl rfl (by simp) ?_
 simp
 intro hil
 refine Wait.for (xs:=inst) (s0:=[]) (fun i s e h'=>∃ c,e.n=23∧e.get 3=.one c∧e.get 6=.one (.d (.sl (inst.map Rel.enc)))∧e.get 7=.one (.d (.int .i64 (inst.length:Int)))∧e.get 8=.one (.d (.int .i64 (i:Int)))∧MR h' 2 c (s.map relC)∧Same h h' []∧∀ k ∈ labs c,h.ep≤k.1∧k.1 < h'.ep) hm ⟨.nil,by simp,by simp,by simp,by simp,by simp,by simpa using MR.nil,.refl,by simp[labs]⟩ ?_ ?_
 ·rintro i s e h' ⟨c,hn,h3,h6,h7,h8,hmr,hs,hl⟩ hlt hm
  have hw:IntKind.i64.wrap ((i:Int)+1)=(i:Int)+1:=IntWalk.i64_in _ (by omega)
  obtain⟨rows,hrows,hm⟩:=hm.bind
  obtain⟨hap,hm⟩:=hm.chk
  simp[*]
  refine Wait.cut (Plan.then_ [0,1,2,3,4,5,6,7,8,9] .done) follows (by kernel_rfl) (fun e1 h1=>∃ c2,e1.n=23∧e1.get 3=.one c2∧e1.get 6=.one (.d (.sl (inst.map Rel.enc)))∧e1.get 7=.one (.d (.int .i64 (inst.length:Int)))∧e1.get 8=.one (.d (.int .i64 (i:Int))) ∧
   MR h1 2 c2 ((s++[Rel.mk inst[i].table rows]).map relC)∧Same h h1 []∧∀ k ∈ labs c2,h.ep≤k.1∧k.1 < h1.ep) ?_ ?_
  ·simp[hn,h3,h6,h7,h8,Plan.then_,vcPlan,planOps,isCallAt,callKind]
   have hs1:Same h' ((h'.setBox (h'.ep,80) [C.d (D.str ByteArray.empty),C.nil]).next.setBox (h'.ep,80) [C.d (D.str inst[i].table),C.d (D.sl (List.map (encL GV.enc) inst[i].rows))]) []:=((Same.refl.setBox (.inr (by simp))).next).setBox (.inr (by simp))
   refine callK_fn (c_relation_Clone _ rows hrows) (by simp) ?_
   simp[hn,h3,h6,h7,h8,Plan.then_,vcPlan,planOps,isCallAt,callKind]
   have hs2:=((hs1.next.setArr (l:=(h'.ep+1+1,304)) (x:=some (1,2))).next)
   refine⟨fun _ _ x=>x,app_mr ty_el39 (by kernel_rfl) (by decide) (by decide) (hmr.frame fun l hl9=>hs2.2 l (hl l hl9).2 (by simp)) (RowAt.own1 rfl) (by simpa using hap) (fun c' h2 hm2 hs3 hl3=>?_)⟩
   simp[hn,h3,h6,h7,h8,Plan.then_,vcPlan,planOps,isCallAt,callKind]
   refine CutK.of ?_
   have hs4:Same h h2 []:=(hs.trans hs2).trans' hs3 fun k hk=>.inr (hl k hk).1
   refine⟨c',by simp[hn],by simp[hn],by simp[h6,hn],by simp[h7,hn],by simp[h8,hn],by simpa[relC] using hm2,hs4,fun k hk=>?_⟩
   rcases hl3 k hk with h9 | h9
   ·have:=hl k h9
    have:=hs3.1
    simp at this
    omega
   ·have:=hs.1
    simp at h9
    omega
  ·rintro e1 h1 ⟨c2,hn,h3,h6,h7,h8,hmr,hs,hl⟩
   simp[hn,h3,h6,h7,h8,hw]
   exact BackF.of (s++[Rel.mk inst[i].table rows]) ⟨⟨c2,by simp[hn],by simp[h3],by simp[h6],by simp[h7],by simp,hmr,hs,hl⟩,hm⟩
 ·rintro s e h' ⟨c,hn,h3,h6,h7,h8,hmr,hs,hl⟩ hm
  obtain rfl:=r_ret hm
  simp[h3,h7,h8,hn]
  exact hk c h' hmr hs hl
end Go.Proofs.YthiojhcimecdgaaGreatDoor
end
section
namespace Go.Proofs.YthiojhcimecdgaaGreatDoor
open Go.Am
set_option maxRecDepth 20000
def m_instance_Empty (s_:Sch):Option ((List Rel)):=
 (forK (fun (i3:Nat) (x3:Tbl) (s3:(List Rel)) next_3=>(appK2 s3 [(Rel.mk x3.name [])] fun _=>(next_3 (s3++[(Rel.mk x3.name [])])))) (fun (s3:(List Rel))=>(some s3)) s_.tables 0 [])
instance c_instance_Empty (s_:Sch):Con (m_instance_Empty s_) Tryz.prog 54 [.agg s_.enc] (fun r=>.one (.d (.sl (r.map Rel.enc)))):=by
 unfold m_instance_Empty
 have l1:LH (σ:=(List Rel)) 9 [7,8] [.g 3 2 (fun s=>s.map Rel.enc)]:=.intro
 exact go 21 Tryz.func54 rfl (by kernel_rfl) rfl rfl (by simp)
end Go.Proofs.YthiojhcimecdgaaGreatDoor
end
section
namespace Go.Proofs.YthiojhcimecdgaaGreatDoor
open Go Go.Am
theorem relC_at {h:HS} {c:C} {rs:List Rel} (m:MR h 2 c (rs.map relC)):RelAt h c rs:=⟨_,m,by simp[relC,toDs,Rel.enc,C.toD]⟩
theorem h_instance_Empty (h:HS) (S:Sch) (out:List Rel) (hm:Is (m_instance_Empty S) out) (K:V→HS→Prop)
  (hk:∀ c h',RelAt h' c out→Same h h' []→(∀ k ∈ labs c,h.ep≤k.1∧k.1 < h'.ep)→BoxLe h h'→K (.one c) h') :
  HSpec Tryz.prog 54 [.agg (S.enc.map C.d)] h K:=by
 refine HSpec.good Tryz.func54 rfl (by kernel_rfl) fun hg=>?_
 unfold m_instance_Empty at hm
 refine HSpec.of_vc Tryz.func54 rfl (by kernel_rfl) (n:=21) rfl rfl (by simp) ?_
 simp
 intro hil
 refine Wait.for (xs:=S.tables) (s0:=[]) (fun i s e h'=>∃ c,e.n=21∧e.get 3=.one c∧e.get 7=.one (.d (.sl (S.tables.map Tbl.enc)))∧e.get 8=.one (.d (.int .i64 (S.tables.length:Int)))∧e.get 9=.one (.d (.int .i64 (i:Int)))∧MR h' 2 c (s.map relC)∧Same h h' []∧∀ k ∈ labs c,h.ep≤k.1∧k.1 < h'.ep) hm ⟨.nil,by simp,by simp,by simp,by simp,by simp,by simpa using MR.nil,(Same.refl.setBox (.inr (by simp))).next,by simp[labs]⟩ ?_ ?_
 ·rintro i s e h' ⟨c,hn,h3,h7,h8,h9,hmr,hs,hl⟩ hlt hm
  have hw:IntKind.i64.wrap ((i:Int)+1)=(i:Int)+1:=IntWalk.i64_in _ (by omega)
  obtain⟨hap,hm⟩:=hm.chk
  simp[hn,h3,h7,h8,h9,hlt]
  have hs2:Same h' (((h'.setBox (h'.ep,80) [.d (.str ByteArray.empty),.nil,.nil]).next.setBox (h'.ep,80) [.d (.str S.tables[i].name),.d (.sl (S.tables[i].cols.map Col.enc)),.d (.sl (S.tables[i].pk.map encI))]).setArr (h'.ep+1,272) (some (1,2))).next []:=(((Same.refl.setBox (.inr (by simp))).next.setBox (.inr (by simp))).setArr).next
  refine app_mr ty_el39 (by kernel_rfl) (by decide) (by decide) (hmr.frame fun k hk=>hs2.2 k (hl k hk).2 (by simp)) (RowAt.own1 rfl) (by simpa using hap) (fun c' h2 hm2 hs3 hl3=>?_)
  simp[hn,h3,h7,h8,h9,hw]
  have hs4:Same h h2 []:=(hs.trans hs2).trans' hs3 fun k hk=>.inr (hl k hk).1
  refine BackF.of (s++[⟨S.tables[i].name,[]⟩]) ⟨⟨c',by simp[hn],by simp[h3],by simp[h7],by simp[h8],by simp,?_,hs4,fun k hk=>?_⟩,hm⟩
  ·simpa[relC] using hm2
  ·rcases hl3 k hk with h9 | h9
   ·have:=hl k h9
    have:=hs3.1
    simp at this
    omega
   ·have:=hs.1
    simp at h9
    omega
 ·rintro s e h' ⟨c,hn,h3,h7,h8,h9,hmr,hs,hl⟩ hm
  obtain rfl:=r_ret hm
  simp[hn,h3,h7,h8,h9]
  exact hk _ _ (relC_at hmr) hs hl (hs.boxLe hg)
abbrev VSh:List Sh:=[.d,.d,.d]
abbrev RowSh:Sh:=.r VSh
theorem forK_id {α ρ:Type} {k:List α→Option ρ}:∀ (xs:List α) (i:Nat) (s:List α),forK (fun (_:Nat) x s next=>next (s++[x])) k xs i s=k (s++xs)
 | [],i,s=>by simp[forK]
 | x::xs,i,s=>by simp[forK,forK_id xs]
structure OwN (h h':HS) (ss:List Sh) (cs:List C) (ds:List D) (ls:List Lab):Prop where
 ow:Ow h' ss cs ds ls
 nd:ls.Nodup
 new:∀ k ∈ ls,h.ep≤k.1∧k.1 < h'.ep
 same:Same h h' []
def GrowP (h h':HS) (sh:List Sh) (c:C) (ds:List (List D)):Prop:=∃ qs,Part h' sh c qs ds∧(plabs c qs).Nodup∧(∀ k ∈ plabs c qs,h.ep≤k.1∧k.1 < h'.ep)∧Same h h' []
theorem GrowP.nil {h:HS} {sh:List Sh}:GrowP h h sh .nil []:=⟨[],⟨by simpa using MR.nil,rfl,by simp⟩,by simp[plabs,labs],by simp[plabs,labs],.refl⟩
theorem GrowP.step {h h1 h2:HS} {sh:List Sh} {c:C} {ds:List (List D)} (g:GrowP h h1 sh c ds) (hs:Same h1 h2 []):GrowP h h2 sh c ds:=by
 obtain⟨qs,p,nd,hl,s⟩:=g
 exact⟨qs,p.frame fun k hk=>hs.2 k (hl k hk).2 (by simp),nd,fun k hk=>⟨(hl k hk).1,Nat.lt_of_lt_of_le (hl k hk).2 hs.1⟩,s.trans hs⟩
theorem GrowP.app {P:Program} {ty el:TypeId} {n by_ dd:Nat} {h h1 h2:HS} {sh:List Sh} {c x:C} {ds:List (List D)} {xc:List C} {d:List D} {lx:List Lab} {K:V→HS→Prop} (g:GrowP h h1 sh c ds) (hs:Same h1 h2 []) (hel:elT P ty=some (el,n,by_)) (hz:(zeT P el).isSome=true) (h0:0 < n) (hb:by_≤4096)
  (hr:RowAt h2 n x [xc]) (hn:sh.length=n) (ho:Ow h2 sh xc d lx) (hlx:lx.Nodup) (hnew:∀ k ∈ lx,h1.ep≤k.1∧k.1 < h2.ep) (hlim:ds.length+1≤LIM)
  (hk:∀ c' h3,GrowP h h3 sh c' (ds++[d])→Same h2 h3 (labs c)→K (.one c') h3):appK P ty c x dd h2 (K:=⟨K⟩):=by
 subst hn
 obtain⟨qs,p0,nd,hl0,s0⟩:=g
 have p:=p0.frame fun k hk=>hs.2 k (hl0 k hk).2 (by simp)
 have hl:∀ k ∈ plabs c qs,h.ep≤k.1∧k.1 < h2.ep:=fun k hk=>⟨(hl0 k hk).1,Nat.lt_of_lt_of_le (hl0 k hk).2 hs.1⟩
 have s:=s0.trans hs
 have hlt:∀ k ∈ plabs c qs,k.1 < h2.ep:=fun k hk=>(hl k hk).2
 have hq:qs.length=ds.length:=by rw[← p.ds];simp
 refine app_mr hel hz h0 hb p.mr hr (by simpa[hq] using hlim) fun c' h3 hm hs3 hl3=>?_
 have hcn:∀ k ∈ labs c,h.ep≤k.1:=fun k hk=>(hl k (by simp[plabs,hk])).1
 have hc1:∀ k ∈ labs c,k.1 < h1.ep:=fun k hk=>(hl0 k (by simp[plabs,hk])).2
 have hxo:∀ k ∈ lx,k ∉ labs c:=fun k hk h9=>by have:=hc1 k h9;have:=(hnew k hk).1;omega
 refine hk c' h3 ⟨qs++[(xc,d,lx)],p.add nd hlt hm hs3 (ho.frame fun k hk=>hs3.2 k (hnew k hk).2 (hxo k hk)),?_,fun k hk=>?_,s.trans' hs3 fun k hk=>.inr (hcn k hk)⟩ hs3
 ·refine plabs_add nd hlt (fun k hk=>(hl3 k hk).imp id fun h9=>h9.1) hlx fun k hk=>⟨fun h9=>?_,fun h9=>?_⟩
  ·have:=(hl0 k h9).2;have:=(hnew k hk).1;omega
  ·rcases hl3 k h9 with h8 | h8
   ·exact hxo k hk h8
   ·have:=(hnew k hk).2;omega
 ·rcases plabs_add_mem hk with h9 | h9 | h9
  ·rcases hl3 k h9 with h8 | h8
   ·exact⟨hcn k h8,Nat.lt_of_lt_of_le (hl k (by simp[plabs,h8])).2 hs3.1⟩
   ·exact⟨Nat.le_trans s.1 h8.1,h8.2⟩
  ·have:=hl k (by simp only[plabs,List.mem_append];exact .inr h9)
   exact⟨this.1,Nat.lt_of_lt_of_le this.2 hs3.1⟩
  ·have:=hnew k h9
   exact⟨Nat.le_trans s0.1 this.1,Nat.lt_of_lt_of_le this.2 hs3.1⟩
theorem vsh_row {h:HS} {c:C} {row:List GV} (m:MR h 3 c ((row.map GV.enc).map (·.map C.d))):Ow h [RowSh] [c] [.sl (row.map GV.enc)] (labs c):=by
 have e1:(row.map fun v=>((v.enc.map C.d,v.enc,[]):List C × List D × List Lab)).flatMap (·.2.2)=[]:=by
  rw[List.flatMap_eq_nil_iff]
  intro q hq
  obtain⟨v,_,rfl⟩:=List.mem_map.1 hq
  rfl
 have e2:(row.map fun v=>((v.enc.map C.d,v.enc,[]):List C × List D × List Lab)).map (·.2.1)=row.map GV.enc:=by rw[List.map_map];rfl
 have e3:(row.map fun v=>((v.enc.map C.d,v.enc,[]):List C × List D × List Lab)).map (·.1)=(row.map GV.enc).map (·.map C.d):=by rw[List.map_map,List.map_map];rfl
 have:=Ow.row (h:=h) (es:=VSh) (c:=c) (qs:=row.map fun v=>(v.enc.map C.d,v.enc,[])) (ss:=[]) (cs:=[]) (ds:=[]) (ls:=[]) (by rw[e3];exact m) (fun q hq=>by
  obtain⟨v,_,rfl⟩:=List.mem_map.1 hq
  exact Ow.datas (h:=h) (ds:=v.enc)) .nil
 rw[e1,e2,List.append_nil,List.append_nil] at this
 exact this
theorem h_slices_Clone_ValueO (h:HS) (row:List GV) (hl:row.length≤2097152) (K:V→HS→Prop) (hk:∀ c h',OwN h h' [RowSh] [c] [.sl (row.map GV.enc)] (labs c)→MR h' 3 c ((row.map GV.enc).map (·.map C.d))→BoxLe h h'→K (.one c) h') :
  HSpec Tryz.prog 49 [.one (.d (.sl (row.map GV.enc)))] h K:=by
 refine h_slices_Clone_Value h _ ((row.map GV.enc).map (·.map C.d)) (RowAt.data (fun t ht=>by obtain⟨z,_,rfl⟩:=List.mem_map.1 ht;rfl) (by simpa using hl)) K fun c h' hm hs hl hb=>?_
 exact hk c h' ⟨vsh_row hm,labs_nodup,hl,hs⟩ hm hb
theorem h_relation_CloneO (h:HS) (rows:List (List GV)) (hok:∀ row ∈ rows,row.length≤2097152) (K:V→HS→Prop)
  (hk:∀ c h',GrowP h h' [RowSh] c (rows.map (encL GV.enc))→BoxLe h h'→K (.one c) h') :
  HSpec Tryz.prog 51 [.one (.d (.sl (rows.map (encL GV.enc))))] h K:=by
 refine HSpec.good Tryz.func51 rfl (by kernel_rfl) fun hg=>?_
 refine HSpec.of_vc Tryz.func51 rfl (by kernel_rfl) (n:=19) rfl rfl (by simp) ?_
 have hm:Is (forK (fun (_:Nat) x s next=>next (s++[x])) (fun s=>some s) rows 0 []) rows:=by rw[forK_id];rfl
 simp
 intro hil
 refine Wait.for (xs:=rows) (s0:=[]) (fun i s e h'=>∃ c,e.n=19∧e.get 3=.one c∧e.get 6=.one (.d (.sl (rows.map (encL GV.enc))))∧e.get 7=.one (.d (.int .i64 (rows.length:Int)))∧e.get 8=.one (.d (.int .i64 (i:Int)))∧GrowP h h' [RowSh] c (s.map (encL GV.enc))∧s.length=i) hm ⟨.nil,by simp,by simp,by simp,by simp,by simp,.nil,rfl⟩ ?_ ?_
 ·rintro i s e h' ⟨c,hn,h3,h6,h7,h8,hmr,hsl⟩ hlt hm
  have hw:IntKind.i64.wrap ((i:Int)+1)=(i:Int)+1:=IntWalk.i64_in _ (by omega)
  have hri:=hok _ (List.getElem_mem hlt)
  simp[hn,h3,h6,h7,h8,hlt]
  refine callK_heap (h_slices_Clone_ValueO _ _ hri _ fun c1 h1 ho1 hm1 hb1=>?_)
  simp[hn,h3,h6,h7,h8,hw]
  have hs1:=ho1.same
  refine bld_ow (x:=[c1]) (by simp only[toDs];cases c1.toD<;>rfl) rfl (fun d hd=>?_) (fun hd=>?_)
  ·obtain⟨rfl,hd2⟩:=ho1.ow.ofD hd
   simp[hn,h3,h6,h7,h8,hw]
   refine GrowP.app hmr (hs1.trans ((Same.refl.setArr).next)) ty_el40 (by kernel_rfl) (by decide) (by decide) (RowAt.own1 rfl) rfl (hd2 _) (by simp) (by simp) (by simpa using (by omega:s.length+1≤2097152)) fun c' h3' hg' hs3=>?_
   simp[hn,h3,h6,h7,h8,hw]
   exact BackF.of (s++[rows[i]]) ⟨⟨c',by simp[hn],by simp[h3],by simp[h6],by simp[h7],by simp,by simpa[encL] using hg',by simp[hsl]⟩,hm⟩
  ·simp[hn,h3,h6,h7,h8,hw]
   have hs2:Same h1 ((h1.setBox (h1.ep,240) [c1]).next) []:=(Same.refl.setBox (.inr (by simp))).next
   refine GrowP.app hmr (hs1.trans hs2) ty_el40 (by kernel_rfl) (by decide) (by decide) (RowAt.new1 rfl (by simp)) rfl (ho1.ow.frame fun k hk=>hs2.2 k (ho1.new k hk).2 (by simp)) ho1.nd (fun k hk=>⟨(ho1.new k hk).1,Nat.lt_of_lt_of_le (ho1.new k hk).2 hs2.1⟩) (by simpa using (by omega:s.length+1≤2097152)) fun c' h3' hg' hs3=>?_
   simp[hn,h3,h6,h7,h8,hw]
   exact BackF.of (s++[rows[i]]) ⟨⟨c',by simp[hn],by simp[h3],by simp[h6],by simp[h7],by simp,by simpa[encL] using hg',by simp[hsl]⟩,hm⟩
 ·rintro s e h' ⟨c,hn,h3,h6,h7,h8,hmr,hsl⟩ hm
  obtain rfl:=r_ret hm
  simp[h3,h7,h8,hn]
  obtain⟨qs,p,nd,hl,hs⟩:=hmr
  exact hk _ _ ⟨qs,p,nd,hl,hs⟩ (hs.boxLe hg)
set_option maxRecDepth 20000
theorem rel_put {lo:Lab} {n cap i:Nat} {xs:List (List C)} {sp:List C} {rs:List Rel} {r:Rel} {c' cr:C} {rows:List (List GV)} (hall:AllC 2 xs) (hlen:xs.length=n) (hlim:xs.length≤LIM) (hcap:(rowBox xs sp).length=cap * 2)
  (hx:xs[i]?=some [.d (.str r.table),c']) (hr:cr.toD=some (.sl (rows.map (encL GV.enc)))) (he:xs.map toDs=rs.map fun r=>some r.enc) (H:HS) :
  RelAt (H.setBox lo (setCells (rowBox xs sp) (i * 2+1) [cr])) (.mrow lo 0 n cap) (rs.set i ⟨r.table,rows⟩):=by
 have hs:setCells (rowBox xs sp) (i * 2+1) [cr]=rowBox (xs.set i [.d (.str r.table),cr]) sp:=by
  rw[row_set hall hx (by simp)]
  simp[setCells]
 rw[hs]
 refine⟨xs.set i [.d (.str r.table),cr],⟨hall.set (by simp),by simpa using hlim,.inr ⟨lo,cap,sp,by simp[hlen],by simp,?_⟩⟩,?_⟩
 ·rw[rowBox_length (hall.set (by simp)),List.length_set,← hcap,rowBox_length hall]
 ·rw[List.map_set,List.map_set,he]
  have e1:toDs [.d (.str r.table),cr]=some [.str r.table,.sl (rows.map (encL GV.enc))]:=by simp only[toDs,hr];rfl
  rw[e1]
  simp[Rel.enc]
theorem forK_setR {ρ:Type} {t:ByteArray} {rows:List (List GV)} {k:List Rel→Option ρ} {out:List Rel} :
  forK (fun (i:Nat) (x:Rel) (s:List Rel) next=>bif strEq x.table t then next (s.set i ⟨x.table,rows⟩) else next s) k out 0 out=k (setR t rows out):=by
 have key:∀ (m i:Nat),out.length - i=m→i≤out.length→forK (fun (i:Nat) (x:Rel) (s:List Rel) next=>bif strEq x.table t then next (s.set i ⟨x.table,rows⟩) else next s) k (out.drop i) i (setR t rows (out.take i)++out.drop i)=k (setR t rows out):=by
  intro m
  induction m with
  | zero=>
    intro i hm hi
    obtain rfl:i=out.length:=by omega
    simp[forK]
  | succ m ih=>
    intro i hm hi
    have hlt:i < out.length:=by omega
    have h3:out.drop i=out[i]::out.drop (i+1):=List.drop_eq_getElem_cons hlt
    have h4:=ih (i+1) (by omega) (by omega)
    rw[(setR_step hlt).2] at h4
    generalize setR t rows (out.take i)++out.drop i=s at h4 ⊢
    rw[h3]
    simp only[forK]
    cases hb:strEq out[i].table t with
    | true=>rw[hb] at h4;exact h4
    | false=>rw[hb] at h4;exact h4
 have:=key out.length 0 (by omega) (by omega)
 simpa[setR] using this
theorem h_lens_setOutput (h:HS) (l:Lab) (co cn cr:C) (M:Mp) (t:ByteArray) (rows:List (List GV)) (m:MpAt h l co cn M) (hr:cr.toD=some (.sl (rows.map (encL GV.enc)))) (K:V→HS→Prop)
  (hk:∀ h',MpAt h' l co cn { M with out:=setR t rows M.out }→Same h h' (labs co)→K (.tup []) h'):HSpec Tryz.prog 238 [.one (.ptr l 0),.one (.d (.str t)),.one cr] h K:=by
 refine HSpec.of_vc Tryz.func238 rfl (by kernel_rfl) (n:=34) rfl rfl (by simp) ?_
 have hb:=m.box
 simp only[mpC,Mp.enc,Stp.enc,List.map_cons,List.map_nil,List.cons_append,List.nil_append] at hb
 obtain⟨xs,mx,-,hlen,hel⟩:=m.out.len
 simp[hb]
 refine MR.lenK mx ?_
 simp[hb]
 have hm:Is (forK (fun (i:Nat) (x:Rel) (s:List Rel) next=>bif strEq x.table t then next (s.set i ⟨x.table,rows⟩) else next s) (fun s=>some s) M.out 0 M.out) (setR t rows M.out):=forK_setR
 refine Wait.for (xs:=M.out) (s0:=M.out) (fun i s e h'=>e.n=34∧e.get 0=.one (.ptr l 0)∧e.get 1=.one (.d (.str t))∧e.get 2=.one cr∧e.get 11=.one (.d (.int .i64 (M.out.length:Int)))∧e.get 12=.one (.d (.int .i64 (i:Int))) ∧
  MpAt h' l co cn { M with out:=s }∧Same h h' (labs co)∧s.length=M.out.length∧∀ j,i≤j→s[j]?=M.out[j]?) hm ⟨by simp,by simp,by simp,by simp,by simp[hlen],by simp,m,.refl,rfl,fun _ _=>rfl⟩ ?_ ?_
 ·rintro i s e h1 ⟨hn,h0,h1',h2,h11,h12,m1,hs,hsl,hj⟩ hlt hm
  have hw:IntKind.i64.wrap ((i:Int)+1)=(i:Int)+1:=IntWalk.i64_in _ (by have:=mx.2.1;simp at this;omega)
  have hb1:=m1.box
  simp only[mpC,Mp.enc,Stp.enc,List.map_cons,List.map_nil,List.cons_append,List.nil_append] at hb1
  obtain⟨ys,my,he',hyl,hye⟩:=m1.out.len
  have hsi:s[i]?=some M.out[i]:=by rw[hj i (Nat.le_refl _)];exact List.getElem?_eq_getElem hlt
  obtain⟨c',hx,hc'⟩:=hye i _ hsi
  have hyi:i < ys.length:=(List.getElem?_eq_some_iff.1 hx).1
  obtain⟨lo,cap,sp,rfl,hbo,hcap⟩:=my.block (by omega)
  have ht0:takeN 1 ((rowBox ys sp).drop (i * 2))=some [.d (.str M.out[i].table)]:=by
   have h9:=row_take (sp:=sp) (f:=0) (m:=1) my.1 hx (by simp)
   simpa[takeN] using h9
  have hln:=row_len (sp:=sp) my.1 (k:=i) hyi
  simp[hn,h0,h1',h2,h11,h12,hlt,hb1,hyi,hbo,ht0]
  refine r_cond hm ?_ ?_<;>clear hm<;>intro hc hm
  ·have hne:=m1.nl.1
   simp[labs] at hne
   have hle:i * 2+1+1≤(rowBox ys sp).length:=by omega
   simp[hn,h0,h1',h2,h11,h12,hlt,hb1,hyi,hbo,hw,hle]
   refine BackF.of (s.set i ⟨M.out[i].table,rows⟩) ⟨⟨by simp[hn],by simp[h0],by simp[h1'],by simp[h2],by simp[h11],by simp,⟨?_,?_,?_,?_,m1.nl⟩,?_,by simpa using hsl,?_⟩,hm⟩
   ·simp[hne];exact m1.box
   ·exact rel_put my.1 rfl my.2.1 hcap hx hr he' _
   ·exact m1.nc.frame fun k hkn=>by
     have:=m1.nl.2.2 lo (by simp[labs])
     have:k≠lo:=by rintro rfl;exact this hkn
     simp[this]
   ·intro k hk;simpa using m1.lt k hk
   ·exact hs.trans (Same.refl.setBox (.inl (by simp[labs])))
   ·intro j hij;rw[List.getElem?_set_ne (by omega)];exact hj j (by omega)
  ·simp[hn,h0,h1',h2,h11,h12,hlt,hb1,hyi,hbo,hw]
   exact BackF.of s ⟨⟨by simp[hn],by simp[h0],by simp[h1'],by simp[h2],by simp[h11],by simp,m1,hs,hsl,fun j hij=>hj j (by omega)⟩,hm⟩
 ·rintro s e h1 ⟨hn,h0,h1',h2,h11,h12,m1,hs,hsl,hj⟩ hm
  obtain rfl:=r_ret hm
  simp[hn,h0,h1',h2,h11,h12]
  exact hk _ m1 hs
theorem h_lens_setComplement (h:HS) (l:Lab) (co cn cr:C) (M:Mp) (t:ByteArray) (rows:List (List GV)) (m:MpAt h l co cn M) (hr:cr.toD=some (.sl (rows.map (encL GV.enc)))) (K:V→HS→Prop)
  (hk:∀ h',MpAt h' l co cn { M with nc:=setR t rows M.nc }→Same h h' (labs cn)→K (.tup []) h'):HSpec Tryz.prog 239 [.one (.ptr l 0),.one (.d (.str t)),.one cr] h K:=by
 refine HSpec.of_vc Tryz.func239 rfl (by kernel_rfl) (n:=34) rfl rfl (by simp) ?_
 have hb:=m.box
 simp only[mpC,Mp.enc,Stp.enc,List.map_cons,List.map_nil,List.cons_append,List.nil_append] at hb
 obtain⟨xs,mx,-,hlen,hel⟩:=m.nc.len
 simp[hb]
 refine MR.lenK mx ?_
 simp[hb]
 have hm:Is (forK (fun (i:Nat) (x:Rel) (s:List Rel) next=>bif strEq x.table t then next (s.set i ⟨x.table,rows⟩) else next s) (fun s=>some s) M.nc 0 M.nc) (setR t rows M.nc):=forK_setR
 refine Wait.for (xs:=M.nc) (s0:=M.nc) (fun i s e h'=>e.n=34∧e.get 0=.one (.ptr l 0)∧e.get 1=.one (.d (.str t))∧e.get 2=.one cr∧e.get 11=.one (.d (.int .i64 (M.nc.length:Int)))∧e.get 12=.one (.d (.int .i64 (i:Int))) ∧
  MpAt h' l co cn { M with nc:=s }∧Same h h' (labs cn)∧s.length=M.nc.length∧∀ j,i≤j→s[j]?=M.nc[j]?) hm ⟨by simp,by simp,by simp,by simp,by simp[hlen],by simp,m,.refl,rfl,fun _ _=>rfl⟩ ?_ ?_
 ·rintro i s e h1 ⟨hn,h0,h1',h2,h11,h12,m1,hs,hsl,hj⟩ hlt hm
  have hw:IntKind.i64.wrap ((i:Int)+1)=(i:Int)+1:=IntWalk.i64_in _ (by have:=mx.2.1;simp at this;omega)
  have hb1:=m1.box
  simp only[mpC,Mp.enc,Stp.enc,List.map_cons,List.map_nil,List.cons_append,List.nil_append] at hb1
  obtain⟨ys,my,he',hyl,hye⟩:=m1.nc.len
  have hsi:s[i]?=some M.nc[i]:=by rw[hj i (Nat.le_refl _)];exact List.getElem?_eq_getElem hlt
  obtain⟨c',hx,hc'⟩:=hye i _ hsi
  have hyi:i < ys.length:=(List.getElem?_eq_some_iff.1 hx).1
  obtain⟨lo,cap,sp,rfl,hbo,hcap⟩:=my.block (by omega)
  have ht0:takeN 1 ((rowBox ys sp).drop (i * 2))=some [.d (.str M.nc[i].table)]:=by
   have h9:=row_take (sp:=sp) (f:=0) (m:=1) my.1 hx (by simp)
   simpa[takeN] using h9
  have hln:=row_len (sp:=sp) my.1 (k:=i) hyi
  simp[hn,h0,h1',h2,h11,h12,hlt,hb1,hyi,hbo,ht0]
  refine r_cond hm ?_ ?_<;>clear hm<;>intro hc hm
  ·have hne:=m1.nl.2.1
   simp[labs] at hne
   have hle:i * 2+1+1≤(rowBox ys sp).length:=by omega
   simp[hn,h0,h1',h2,h11,h12,hlt,hb1,hyi,hbo,hw,hle]
   refine BackF.of (s.set i ⟨M.nc[i].table,rows⟩) ⟨⟨by simp[hn],by simp[h0],by simp[h1'],by simp[h2],by simp[h11],by simp,⟨?_,?_,?_,?_,m1.nl⟩,?_,by simpa using hsl,?_⟩,hm⟩
   ·simp[hne];exact m1.box
   ·exact m1.out.frame fun k hkn=>by
     have:=m1.nl.2.2 k hkn
     have:k≠lo:=by rintro rfl;exact this (by simp[labs])
     simp[this]
   ·exact rel_put my.1 rfl my.2.1 hcap hx hr he' _
   ·intro k hk;simpa using m1.lt k hk
   ·exact hs.trans (Same.refl.setBox (.inl (by simp[labs])))
   ·intro j hij;rw[List.getElem?_set_ne (by omega)];exact hj j (by omega)
  ·simp[hn,h0,h1',h2,h11,h12,hlt,hb1,hyi,hbo,hw]
   exact BackF.of s ⟨⟨by simp[hn],by simp[h0],by simp[h1'],by simp[h2],by simp[h11],by simp,m1,hs,hsl,fun j hij=>hj j (by omega)⟩,hm⟩
 ·rintro s e h1 ⟨hn,h0,h1',h2,h11,h12,m1,hs,hsl,hj⟩ hm
  obtain rfl:=r_ret hm
  simp[hn,h0,h1',h2,h11,h12]
  exact hk _ m1 hs
end Go.Proofs.YthiojhcimecdgaaGreatDoor
end
section
namespace Go.Proofs.YthiojhcimecdgaaGreatDoor
open Go Go.Am
class ConM {α:Type} (m:Option α) (M0:outParam Mp) (M1:outParam (α→Mp)) (P:Program) (f:FuncId) (av:outParam (List AV)) (er:outParam (α→V)):Prop where
 h:∀ v,Is m v→∀ (h:HS) (l:Lab) (co cn:C) (vs:List V) (K:V→HS→Prop),MpAt h l co cn M0→toAs h vs=some av→(∀ h',MpAt h' l co cn (M1 v)→Same h h' (labs co++labs cn)→K (er v) h')→HSpec P f (.one (.ptr l 0)::vs) h K
theorem pre_rp {Γ:Ctx} {h:HS} {μ:Mem} {w:World} (hI:Am.Inv Γ h μ w) {l:Lab} {cs:List C} {ds:List D} (hb:h.box l=some cs) (hd:∀ (j:Nat) x,ds[j]?=some x→∃ c,cs[j]?=some c∧c.toD=some x) {b n:Nat} (hl:μ.loc l=some (some b,n)):RepP μ.cell (snap w) ds (.pointer (some ⟨b,0,none⟩)):=by
 obtain⟨b',n',T,conc,hl',_,hh,hR,_⟩:=hI.box l cs hb
 rw[hl] at hl'
 simp only[Option.some.injEq,Prod.mk.injEq] at hl'
 obtain⟨rfl,rfl⟩:=hl'
 refine⟨b,0,rfl,fun j x hj=>?_⟩
 obtain⟨c,hc,hx⟩:=hd j x hj
 obtain⟨u,hu,hr⟩:=hR.2 j c hc
 refine⟨u,.inr ?_,toD_rep hr hx⟩
 simp[snap,World.cell?,hh,hu]
theorem HSpec.of_pre {P:Program} {f:FuncId} {vs:List V} {av:List AV} {ds:List D} {cs:List C} {r:RV} {h:HS} {l:Lab} {K:V→HS→Prop} (d:Nat) (hs:PSpec P f (.one (.rp ds)::av) r) (hb:h.box l=some cs) (hd:∀ (j:Nat) x,ds[j]?=some x→∃ c,cs[j]?=some c∧c.toD=some x)
  (has:toAs h vs=some av) (hk:K (r.toV h.ep d) ((h.addFr d r.fr).next)):HSpec P f (.one (.ptr l 0)::vs) h K:=by
 refine⟨hs.1,fun Γ μ w vals hI hR=>?_⟩
 obtain⟨hal,haR⟩:=toAs_get has
 have hargs:RepArgs μ.cell (snap w) (.one (.rp ds)::av) vals:=by
  refine⟨by rw[hR.1];simp[hal],fun i x hi=>?_⟩
  cases i with
  | zero=>
    simp at hi
    subst hi
    obtain⟨u,hu,hr⟩:=hR.2 0 _ rfl
    obtain⟨b,n,hl,rfl⟩:=(show ∃ b n,μ.loc l=some (some b,n)∧u=.pointer (some ⟨b,0,none⟩) from hr)
    exact⟨_,hu,pre_rp hI hb hd hl⟩
  | succ i=>
    obtain⟨v,hv1,hv2⟩:=haR i x (by simpa using hi)
    obtain⟨u,hu,hr⟩:=hR.2 (i+1) v (by simpa using hv1)
    exact⟨u,hu,VtoA_rep hI hr hv2⟩
 refine (hs.2 w μ.cell (snap w) _ hI.glob hI.cell (snap_cells w) hargs).mono ?_
 rintro en w1 ⟨v,m',blk,rfl,hsub,hold,hcell,hbl,hr,hfr⟩
 have hle:Mem.Le μ (relab μ h.ep d m' blk):=⟨hsub,rfl,fun l x hl=>by
  have:=hI.lt l (by rw[hl];simp)
  simp only[relab]
  rw[if_neg (by omega)]
  exact hl⟩
 exact⟨v,_,_,relab μ h.ep d m' blk,rfl,hk,hI.call d hsub hold hcell hbl hfr,RV_rep hr h.ep d,hle⟩
theorem MpAt.pre {h:HS} {l:Lab} {co cn:C} {M:Mp} (m:MpAt h l co cn M):∃ cs,h.box l=some cs∧∀ (j:Nat) x,M.enc[j]?=some x→∃ c,cs[j]?=some c∧c.toD=some x:=by
 refine⟨_,m.box,fun j x hx=>⟨.d x,?_,rfl⟩⟩
 have hj:=(List.getElem?_eq_some_iff.1 hx).1
 rw[mpC,List.getElem?_append_left (by simpa using hj),List.getElem?_map,hx]
 rfl
theorem scal_one {h:HS} {v:V} {x:D} (hx:∀ xs,x≠.sl xs) (hv:v.toA h=some (.one (.d x))):v=.one (.d x):=by
 cases v with
 | one c=>
   cases hc:c.toA h with
   | none=>simp[V.toA,hc] at hv
   | some a=>
     simp[V.toA,hc] at hv
     subst hv
     cases c with
     | d y=>simp[C.toA] at hc;rw[hc]
     | own l xs=>simp[C.toA] at hc;exact absurd hc.symm (hx _)
     | nil=>simp[C.toA] at hc;exact absurd hc.symm (hx _)
     | z=>simp[C.toA] at hc;exact absurd hc.symm (hx _)
     | ptr l off=>
       cases off with
       | succ n=>simp[C.toA] at hc
       | zero=>simp only[C.toA] at hc;cases hb:h.box l<;>simp[hb] at hc
     | fn f caps=>simp only[C.toA] at hc;cases hd:capsA h caps<;>simp[hd] at hc
     | _=>simp[C.toA] at hc
 | agg cs=>cases hd:toDs cs<;>simp[V.toA,hd] at hv
 | _=>simp[V.toA] at hv
section
variable {ρ α:Type}
end
def m_lens_mapping__setOutput (M:Mp) (t:ByteArray) (rows:List (List GV)):Option Mp:=some { M with out:=setR t rows M.out }
def m_lens_mapping__setComplement (M:Mp) (t:ByteArray) (rows:List (List GV)):Option Mp:=some { M with nc:=setR t rows M.nc }
theorem toAs_cons {h:HS} {vs:List V} {a:AV} {av:List AV} (hv:toAs h vs=some (a::av)):∃ v ws,vs=v::ws∧v.toA h=some a∧toAs h ws=some av:=by
 cases vs with
 | nil=>cases hv
 | cons v ws=>
   simp only[toAs] at hv
   cases h1:v.toA h with
   | none=>rw[h1] at hv;cases hv
   | some x=>
     cases h2:toAs h ws with
     | none=>rw[h1,h2] at hv;cases hv
     | some xs=>rw[h1,h2] at hv;cases hv;exact⟨v,ws,rfl,h1,h2⟩
theorem toAs_nil {h:HS} {vs:List V} (hv:toAs h vs=some []):vs=[]:=by
 cases vs with
 | nil=>rfl
 | cons v ws=>simp only[toAs] at hv;split at hv<;>cases hv
theorem toAs_two {h:HS} {vs:List V} {a b:AV} (hv:toAs h vs=some [a,b]):∃ v w,vs=[v,w]∧v.toA h=some a∧w.toA h=some b:=by
 obtain⟨v,ws,rfl,h1,h2⟩:=toAs_cons hv
 obtain⟨w,us,rfl,h3,h4⟩:=toAs_cons h2
 obtain rfl:=toAs_nil h4
 exact⟨v,w,rfl,h1,h3⟩
theorem toA_sl {h:HS} {v:V} {xs:List (List D)} (hv:v.toA h=some (.one (.d (.sl xs)))):∃ c,v=.one c∧c.toD=some (.sl xs):=by
 cases v with
 | one c=>
   refine⟨c,rfl,?_⟩
   cases hc:c.toA h with
   | none=>simp (maxSteps:=1000000) [V.toA,hc] at hv
   | some a=>
     simp (maxSteps:=1000000) [V.toA,hc] at hv
     subst hv
     cases c with
     | d y=>simp (maxSteps:=1000000) [C.toA] at hc;rw[hc];rfl
     | own l ys=>simp (maxSteps:=1000000) [C.toA] at hc;rw[hc];rfl
     | nil=>simp (maxSteps:=1000000) [C.toA] at hc;rw[hc];rfl
     | z=>simp (maxSteps:=1000000) [C.toA] at hc;rw[hc];rfl
     | ptr l off=>
       cases off with
       | succ n=>simp (maxSteps:=1000000) [C.toA] at hc
       | zero=>simp only[C.toA] at hc;cases hb:h.box l<;>simp (maxSteps:=1000000) [hb] at hc
     | fn f caps=>simp only[C.toA] at hc;cases hd:capsA h caps<;>simp (maxSteps:=1000000) [hd] at hc
     | _=>simp (maxSteps:=1000000) [C.toA] at hc
 | agg cs=>cases hd:toDs cs<;>simp (maxSteps:=1000000) [V.toA,hd] at hv
 | _=>simp (maxSteps:=1000000) [V.toA] at hv
instance c_lens_mapping__setOutput (M:Mp) (t:ByteArray) (rows:List (List GV)):ConM (m_lens_mapping__setOutput M t rows) M (fun r=>r) Tryz.prog 238 [.one (.d (.str t)),.one (.d (.sl (rows.map (encL GV.enc))))] (fun _=>.tup []):=⟨by
 intro r hm h l co cn vs K hp has hK
 obtain rfl:=r_ret hm
 obtain⟨v,w,rfl,hv,hw⟩:=toAs_two has
 obtain rfl:=scal_one (by intro _ e;cases e) hv
 obtain⟨cr,rfl,hcr⟩:=toA_sl hw
 exact h_lens_setOutput h l co cn cr M t rows hp hcr K fun h' h1 h2=>hK h' h1 (h2.mono (by simp +contextual))⟩
instance c_lens_mapping__setComplement (M:Mp) (t:ByteArray) (rows:List (List GV)):ConM (m_lens_mapping__setComplement M t rows) M (fun r=>r) Tryz.prog 239 [.one (.d (.str t)),.one (.d (.sl (rows.map (encL GV.enc))))] (fun _=>.tup []):=⟨by
 intro r hm h l co cn vs K hp has hK
 obtain rfl:=r_ret hm
 obtain⟨v,w,rfl,hv,hw⟩:=toAs_two has
 obtain rfl:=scal_one (by intro _ e;cases e) hv
 obtain⟨cr,rfl,hcr⟩:=toA_sl hw
 exact h_lens_setComplement h l co cn cr M t rows hp hcr K fun h' h1 h2=>hK h' h1 (h2.mono (by simp +contextual))⟩
end Go.Proofs.YthiojhcimecdgaaGreatDoor
end
section
namespace Go.Proofs.YthiojhcimecdgaaGreatDoor
open Go.Am
set_option maxRecDepth 20000
def m_slices_IndexFunc_Table (s_:List Tbl) (f:Tbl→Option Bool):Option Int:=
 (forK (fun (i2:Nat) (x2:Tbl) (s2:Unit) next_2=>(bindK (f x2) fun v3=>(bif v3 then (some (i2:Int)) else (next_2 ())))) (fun (s2:Unit)=>(some (-1))) s_ 0 ())
instance i_slices_IndexFunc_Table (s_:List Tbl) (f:Tbl→Option Bool) {g:FuncId} {caps:List (List D)} [ConF f Tryz.prog (fun x=>.agg x.enc) (fun v=>.one (.d (.bool v))) g caps]:Con (m_slices_IndexFunc_Table s_ f) Tryz.prog 46 [.one (.d (.sl (s_.map Tbl.enc))),.one (.fn g caps)] (fun r=>.one (.d (.int .i64 r))):=by
 unfold m_slices_IndexFunc_Table
 have l1:LH (σ:=Unit) 8 [0,1,7] []:=.intro
 exact go 19 Tryz.func46 rfl (by kernel_rfl) rfl rfl (by simp)
set_option maxRecDepth 20000
def m_schema_FindTable_1 (t:Tbl) (k0:ByteArray):Option Bool:=
 (some (strEq t.name k0))
instance c_schema_FindTable_1 (t:Tbl) (k0:ByteArray):Con (m_schema_FindTable_1 t k0) Tryz.prog 47 [.agg t.enc,.one (.rp [.str k0])] (fun r=>.one (.d (.bool r))):=by
 unfold m_schema_FindTable_1
 exact go 8 Tryz.func47 rfl (by kernel_rfl) rfl rfl (by simp)
instance f_schema_FindTable_1 (k0:ByteArray):ConF (fun x=>m_schema_FindTable_1 x k0) Tryz.prog (fun x=>.agg x.enc) (fun r=>.one (.d (.bool r))) 47 [[.str k0]]:=⟨fun x=>(c_schema_FindTable_1 x k0)⟩
set_option maxRecDepth 20000
def m_schema_FindTable (s_:Sch) (name:ByteArray):Option (Int × Bool):=
 (bindK (m_slices_IndexFunc_Table s_.tables (fun xa_=>m_schema_FindTable_1 xa_ name)) fun v3=>(some ((if v3 < 0 then 0 else v3),decide (0≤v3))))
instance c_schema_FindTable (s_:Sch) (name:ByteArray):Con (m_schema_FindTable s_ name) Tryz.prog 16 [.agg s_.enc,.one (.d (.str name))] (fun r=>.tup [.one (.d (.int .i64 r.1)),.one (.d (.bool r.2))]):=by
 unfold m_schema_FindTable
 exact go 15 Tryz.func16 rfl (by kernel_rfl) rfl rfl (by simp)
set_option maxRecDepth 20000
def m_slices_Clone_Column (s_:List Col):Option (List Col):=some s_
theorem c_slices_Clone_Column (s_:List Col) (r:List Col) (hm:Is (m_slices_Clone_Column s_) r):PSpec Tryz.prog 133 [.one (.d (.sl (s_.map Col.enc)))] (.one (.fresh 0 3 (r.map Col.enc))):=by
 obtain rfl:=r_ret hm
 refine bound1 ⟨_,Tryz.func133,by kernel_rfl,by kernel_rfl⟩ (fun hl=>?_)
 have hxs:∀ x ∈ s_.map Col.enc,x.length=3:=by
  intro x hx
  obtain⟨y,_,rfl⟩:=List.mem_map.1 hx
  rfl
 generalize s_.map Col.enc=xs at *
 refine PSpec.of_vc Tryz.func133 rfl (by kernel_rfl) (n:=8) rfl rfl (by simp) ?_
 simp
 refine nilK_list ty_el63 rfl (xs:=xs) rfl (fun b hb=>?_)
 cases b with
 | true=>
   have:xs=[]:=Classical.byContradiction fun h=>by simpa using hb h
   subst this
   simp
   exact ret_growsV (by simpa using GrowsV.nil)
 | false=>
   simp
   refine emptyK_own (by simp) ?_
   simp
   refine appK_of ty_el63 (Grows.own (by simp) (by simp) (by simp)) rfl (by decide) (by decide) hxs (by simpa using hl) ?_
   simp
   exact ret_growsV (by simpa using GrowsV.app (by simp) (by simp) hxs rfl)
instance i_slices_Clone_Column (s_:List Col):Con (m_slices_Clone_Column s_) Tryz.prog 133 [.one (.d (.sl (s_.map Col.enc)))] (fun r=>.one (.fresh 0 3 (r.map Col.enc))):=⟨fun r hm=>c_slices_Clone_Column s_ r hm⟩
set_option maxRecDepth 20000
def m_slices_Clone_Int (s_:List Int):Option (List Int):=some s_
theorem c_slices_Clone_Int (s_:List Int) (r:List Int) (hm:Is (m_slices_Clone_Int s_) r):PSpec Tryz.prog 94 [.one (.d (.sl (s_.map encI)))] (.one (.fresh 0 1 (r.map encI))):=by
 obtain rfl:=r_ret hm
 refine bound1 ⟨_,Tryz.func94,by kernel_rfl,by kernel_rfl⟩ (fun hl=>?_)
 have hxs:∀ x ∈ s_.map encI,x.length=1:=by
  intro x hx
  obtain⟨y,_,rfl⟩:=List.mem_map.1 hx
  rfl
 generalize s_.map encI=xs at *
 refine PSpec.of_vc Tryz.func94 rfl (by kernel_rfl) (n:=8) rfl rfl (by simp) ?_
 simp
 refine nilK_list ty_el64 rfl (xs:=xs) rfl (fun b hb=>?_)
 cases b with
 | true=>
   have:xs=[]:=Classical.byContradiction fun h=>by simpa using hb h
   subst this
   simp
   exact ret_growsV (by simpa using GrowsV.nil)
 | false=>
   simp
   refine emptyK_own (by simp) ?_
   simp
   refine appK_of ty_el64 (Grows.own (by simp) (by simp) (by simp)) rfl (by decide) (by decide) hxs (by simpa using hl) ?_
   simp
   exact ret_growsV (by simpa using GrowsV.app (by simp) (by simp) hxs rfl)
instance i_slices_Clone_Int (s_:List Int):Con (m_slices_Clone_Int s_) Tryz.prog 94 [.one (.d (.sl (s_.map encI)))] (fun r=>.one (.fresh 0 1 (r.map encI))):=⟨fun r hm=>c_slices_Clone_Int s_ r hm⟩
set_option maxRecDepth 20000
def m_schema_CloneTable (t:Tbl):Option Tbl:=
 (bindK (m_slices_Clone_Column t.cols) fun v3=>(bindK (m_slices_Clone_Int t.pk) fun v4=>(some (Tbl.mk t.name v3 v4))))
instance c_schema_CloneTable (t:Tbl):Con (m_schema_CloneTable t) Tryz.prog 93 [.agg t.enc] (fun r=>.agg (r.enc.map RC.d)):=by
 unfold m_schema_CloneTable
 have p1:PH [1] (Plan.then_ [0,1,2,3,5,6,4,7,8,9] .done):=.intro
 exact go 12 Tryz.func93 rfl (by kernel_rfl) rfl rfl (by simp)
set_option maxRecDepth 20000
def m_instance_Table (s_:Sch) (inst:List Rel) (name:ByteArray):Option (Tbl × (List (List GV))):=
 (bindK (m_schema_FindTable s_ name) fun v3=>(bif !v3.2 then (some ((Tbl.mk ByteArray.empty [] []),[])) else (getK s_.tables v3.1 fun x5=>(bindK (m_schema_CloneTable x5) fun v6=>(bif decide ((inst.length:Int)≤v3.1) then (some (v6,[])) else (getK inst v3.1 fun x10=>(bindK (m_relation_Clone x10.rows) fun v11=>(some (v6,v11)))))))))
instance c_instance_Table (s_:Sch) (inst:List Rel) (name:ByteArray):Con (m_instance_Table s_ inst name) Tryz.prog 102 [.agg s_.enc,.one (.d (.sl (inst.map Rel.enc))),.one (.d (.str name))] (fun r=>.tup [.agg (r.1.enc.map RC.d),.one (.d (.sl (r.2.map (encL GV.enc))))]):=by
 unfold m_instance_Table
 have p1:PH [7] (Plan.then_ [0,1,2,3,4,5,6,7,8] .done):=.intro
 exact go 38 Tryz.func102 rfl (by kernel_rfl) rfl rfl (by simp)
end Go.Proofs.YthiojhcimecdgaaGreatDoor
end
section
namespace Go.Proofs.YthiojhcimecdgaaGreatDoor
open Go Go.Am
theorem GrowP.nil' {h h':HS} {sh:List Sh} (hs:Same h h' []):GrowP h h' sh .nil []:=GrowP.nil.step hs
theorem GrowP.from2 {h0 h h1 h2:HS} {sh:List Sh} {c:C} {ds:List (List D)} {ls:List Lab} (g:GrowP h h1 sh c ds) (hs:Same h1 h2 ls) (hl:∀ k ∈ ls,k.1 < h.ep) (h0s:Same h0 h2 []) (he:h0.ep≤h.ep):GrowP h0 h2 sh c ds:=by
 obtain⟨qs,p,nd,hq,s⟩:=g
 exact⟨qs,p.frame fun k hk=>hs.2 k (hq k hk).2 fun h9=>by have:=hl k h9;have:=(hq k hk).1;omega,nd,fun k hk=>⟨Nat.le_trans he (hq k hk).1,Nat.lt_of_lt_of_le (hq k hk).2 hs.1⟩,h0s⟩
theorem GrowP.same {h h':HS} {sh:List Sh} {c:C} {ds:List (List D)} (g:GrowP h h' sh c ds):Same h h' []:=by
 obtain⟨_,_,_,_,s⟩:=g
 exact s
theorem m_relation_Clone_id {rows out:List (List GV)} (hm:Is (m_relation_Clone rows) out):out=rows:=by
 unfold m_relation_Clone at hm
 have key:∀ (xs:List (List GV)) (i:Nat) (s:List (List GV)),Is (forK (fun (i3:Nat) (x3:List GV) (s3:List (List GV)) next_3=>bindK (m_slices_Clone_Value x3) fun v5=>appK2 s3 [v5] fun _=>next_3 (s3++[v5])) (fun s3=>some s3) xs i s) out→out=s++xs:=by
  intro xs
  induction xs with
  | nil=>intro i s hm;simpa using (r_ret hm).symm
  | cons x xs ih=>
    intro i s hm
    simp only[forK] at hm
    obtain⟨v,hv,hm⟩:=hm.bind
    obtain⟨_,hm⟩:=hm.app
    have:=ih _ _ hm
    have:v=x:=(r_ret hv).symm
    simp_all
 exact key rows 0 [] hm
theorem h_instance_TableO (h:HS) (S:Sch) (inst:List Rel) (t:ByteArray) (T:Tbl) (rows:List (List GV)) (hm:Is (m_instance_Table S inst t) (T,rows)) (k:Int) (hk1:Is (m_schema_FindTable S t) (k,true)) (hok:∀ row ∈ rows,row.length≤2097152) (K:V→HS→Prop)
  (hk:∀ c h',GrowP h h' [RowSh] c (rows.map (encL GV.enc))→BoxLe h h'→K (.tup [.agg (T.enc.map C.d),.one c]) h') :
  HSpec Tryz.prog 102 [.agg (S.enc.map C.d),.one (.d (.sl (inst.map Rel.enc))),.one (.d (.str t))] h K:=by
 refine HSpec.good Tryz.func102 rfl (by kernel_rfl) fun hg=>?_
 refine HSpec.of_vc Tryz.func102 rfl (by kernel_rfl) (n:=38) rfl rfl (by simp) ?_
 unfold m_instance_Table at hm
 obtain⟨kk,hk2,hm⟩:=hm.bind
 obtain rfl:kk=(k,true):=Option.some.inj (hk2.symm.trans hk1)
 simp
 refine callK_fn ((c_schema_FindTable S t).h (k,true) hk1) (by simp) ?_
 simp
 obtain⟨x,h0,hx,hm⟩:=Is.get (show Is (getK S.tables k _) _ from hm)
 obtain⟨x2,hx2,hm⟩:=hm.bind
 simp[h0,hx]
 refine callK_fn ((c_schema_CloneTable x).h x2 hx2) (by simp) ?_
 simp
 intro hl
 refine r_cond hm ?_ ?_<;>clear hm<;>intro hc hm
 ·have hq:=r_ret hm
  obtain⟨rfl,rfl⟩:=Prod.mk.inj hq
  simp[retH,resVs,resV,notTup]
  have hs:∀ h',Same h h' []→K (.tup [.agg (x2.enc.map C.d),.one .nil]) h':=fun h' hs=>hk .nil h' (GrowP.nil' hs) (hs.boxLe hg)
  exact hs _ (by repeat' first | exact Same.refl | apply Same.next | apply Same.setArr | (refine Same.setBox ?_ (.inr (by simp))))
 ·obtain⟨y,h1,hy,hm⟩:=hm.get
  obtain⟨rows2,hr2,hm⟩:=hm.bind
  have hq:=r_ret hm
  obtain⟨rfl,rfl⟩:=Prod.mk.inj hq
  simp
  refine Wait.cut (Plan.then_ [0,1,2,3,4,5,6,7,8] .done) follows (by kernel_rfl) (fun e1 h1=>∃ c,e1.n=38∧e1.get 6=.one (.ptr (h.ep+1,96) 0)∧h1.box (h.ep+1,96)=some [C.d (D.str x2.name),C.d (D.sl (List.map Col.enc x2.cols)),C.d (D.sl (List.map encI x2.pk))]∧e1.get 7=.one c∧GrowP h h1 [RowSh] c (rows2.map (encL GV.enc))) ?_ ?_
  ·simp[Plan.then_,vcPlan,planOps,isCallAt,callKind,h1,hy]
   obtain rfl:=m_relation_Clone_id hr2
   refine callK_heap (h_relation_CloneO _ _ hok _ fun c h2 hg2 hb2=>?_)
   have hs2:=hg2.same
   have b6:=hs2.2 (h.ep+1,96) (by simp) (by simp)
   simp at b6
   simp[Plan.then_,vcPlan,planOps,isCallAt,callKind,h1,hy]
   refine⟨hb2,?_⟩
   simp[Plan.then_,vcPlan,planOps,isCallAt,callKind,h1,hy,b6]
   refine CutK.of ⟨c,by simp,by simp,by simp,by simp,?_⟩
   refine GrowP.from2 hg2 (ls:=[(h.ep+1,96)]) (Same.refl.setBox (.inl (by simp))) (by simp) (Same.setBox (Same.trans ?_ hs2) (.inr (by simp))) (by simp<;>omega)
   repeat' first | exact Same.refl | apply Same.next | apply Same.setArr | (refine Same.setBox ?_ (.inr (by simp)))
  ·rintro e1 h1 ⟨c,hn,h6,hb,h7,hg1⟩
   simp[retH,resVs,resV,notTup,hn,h6,hb,h7]
   obtain⟨qs,p,nd,hl,hs⟩:=hg1
   exact hk c _ ⟨qs,p,nd,hl,hs⟩ (hs.boxLe hg)
theorem h_lens_input (h:HS) (l:Lab) (co cn:C) (M:Mp) (t:ByteArray) (T:Tbl) (rows:List (List GV)) (m:MpAt h l co cn M) (hm:Is (m_instance_Table M.src M.inp t) (T,rows)) (k:Int) (hk1:Is (m_schema_FindTable M.src t) (k,true)) (hok:∀ row ∈ rows,row.length≤2097152) (K:V→HS→Prop)
  (hk:∀ c h',GrowP h h' [RowSh] c (rows.map (encL GV.enc))→BoxLe h h'→K (.tup [.agg (T.enc.map C.d),.one c]) h') :
  HSpec Tryz.prog 234 [.one (.ptr l 0),.one (.d (.str t))] h K:=by
 refine HSpec.good Tryz.func234 rfl (by kernel_rfl) fun hg=>?_
 refine HSpec.of_vc Tryz.func234 rfl (by kernel_rfl) (n:=18) rfl rfl (by simp) ?_
 have hb:=m.box
 have hl1:=m.lt l (List.mem_cons_self ..)
 have hne:=ne_new hl1
 have hne':=ne_new' hl1
 simp only[mpC,Mp.enc,Stp.enc,List.map_cons,List.map_nil,List.cons_append,List.nil_append] at hb
 simp
 refine Wait.cut (Plan.then_ [0,1,2,3,4,5,6,7,8,9,10,11,12,13] .done) follows (by kernel_rfl) (fun e1 h1=>∃ c,e1.n=18∧e1.get 4=.one (.ptr (h.ep,64) 0)∧h1.box (h.ep,64)=some (T.enc.map C.d)∧e1.get 5=.one c∧GrowP h h1 [RowSh] c (rows.map (encL GV.enc))) ?_ ?_
 ·simp[Plan.then_,vcPlan,planOps,isCallAt,callKind,hb,hne,hne']
  refine callK_heap (h_instance_TableO _ M.src M.inp t T rows hm k hk1 hok _ fun c h2 hg2 hb2=>?_)
  have hs2:=hg2.same
  have b4:=hs2.2 (h.ep,64) (by simp) (by simp)
  simp at b4
  simp[Plan.then_,vcPlan,planOps,isCallAt,callKind,b4]
  refine⟨hb2,?_⟩
  try simp[Plan.then_,vcPlan,planOps,isCallAt,callKind,b4]
  refine CutK.of ⟨c,by simp,by simp,by simp,by simp,?_⟩
  exact GrowP.from2 hg2 (ls:=[(h.ep,64)]) (Same.refl.setBox (.inl (by simp))) (by simp) (Same.setBox (Same.trans ((Same.refl.setBox (.inr (by simp))).next) hs2) (.inr (by simp))) (by simp)
 ·rintro e1 h1 ⟨c,hn,h4,hb4,h5,hg1⟩
  have hb4':=hb4
  simp only[Tbl.enc,List.map_cons,List.map_nil] at hb4'
  simp[retH,resVs,resV,notTup,hn,h4,hb4',h5]
  exact hk c _ hg1 (hg1.same.boxLe hg)
end Go.Proofs.YthiojhcimecdgaaGreatDoor
end
