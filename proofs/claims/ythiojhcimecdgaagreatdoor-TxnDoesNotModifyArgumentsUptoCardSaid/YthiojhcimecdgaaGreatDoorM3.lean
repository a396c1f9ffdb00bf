/- joined by a program out of 26 texts -/
import Derived.Test.YthiojhcimecdgaaGreatDoorM2
import Derived.Lib.SlicesCompact
import Derived.Shelf.LaysM
import Derived.Shelf.LaysC
import Derived.Test.YthiojhcimecdgaaGreatDoorProg
import Derived.Shelf.Sort.Plain
import Derived.Shelf.Slices.CompactS
import Derived.Shelf.Slices.In.SortNone
import Derived.Lib.Overlaps
import Derived.WalkKit
import Derived.LoopTactic
import Derived.Lib.ConvBytes
import Derived.Lib.Hide
set_option linter.unusedVariables false
set_option linter.unusedSimpArgs false
set_option maxRecDepth 20000
namespace Go.Proofs.YthiojhcimecdgaaGreatDoor
section
open Go Go.Am
theorem Zbb {α:Type} {xss:List (List α)} {i:Nat} {x:List α} (h:xss[i]?=some x):(xss.take (i+1)).flatten=(xss.take i).flatten++x:=by
 obtain⟨h1,h2⟩:=List.getElem?_eq_some_iff.1 h;rw[List.take_succ_eq_append_getElem h1,h2];simp
theorem Zal {h:HS} {ds:List D}:FrzCs h (ds.map C.d) ds:=by
 induction ds with
 | nil=>trivial
 | cons d ds ih=>exact⟨.data rfl,ih⟩
def catLen {α:Type} (xss:List (List α)) (i:Nat):Nat:=(xss.take i).flatten.length
theorem Zbc {α:Type} (xss:List (List α)) (i:Nat):(xss.take i).flatten.length≤xss.flatten.length:=by
 conv=>rhs;rw[← List.take_append_drop i xss]
 rw[List.flatten_append,List.length_append];omega
theorem Zan {α:Type} {xss:List (List α)} {i:Nat} {x:List α} (h:xss[i]?=some x):catLen xss (i+1)=catLen xss i+x.length:=by
 unfold catLen;rw[Zbb h,List.length_append]
theorem Ze0 {α:Type} (xss:List (List α)) (i:Nat):catLen xss i≤xss.flatten.length:=Zbc xss i
theorem Zc6 {α:Type} (xss:List (List α)):catLen xss xss.length=xss.flatten.length:=by
 unfold catLen;rw[List.take_length]
theorem Zam {α:Type} (xss:List (List α)):catLen xss 0=0:=rfl
theorem Z9w (h:HS) (n:Nat) (hn:n≤2097152) (K:V→HS→Prop)
  (hk:∀ c' h',MR h' 4 c' []→Same h h' []→(∀ l ∈ labs c',h.ep≤l.1∧l.1 < h'.ep)→K (.one c') h') :
  HSpec Tryz.prog 50 [.one .nil,.one (.d (.int .i64 (n:Int)))] h K:=by
 refine HSpec.of_vc Tryz.func50 rfl (by kernel_rfl) (n:=27) rfl rfl (by simp) ?_;simp;have h0:¬ ((n:Int) < 0):=by omega
 have hw:IntKind.i64.wrap ((n:Int) - 0)=(n:Int):=by rw[Int.sub_zero];exact IntWalk.i64_in _ (by omega)
 have hw0:IntKind.i64.wrap 0=0:=IntWalk.i64_in _ (by omega);have hw1:IntKind.i64.wrap (n:Int)=(n:Int):=IntWalk.i64_in _ (by omega)
 try simp[h0]
 refine Z9r Z8y ?_;simp[hw,hw0,hw1];refine Z10 (fun hp=>?_) (fun hp=>?_)
 ·simp[hw,hw0,hw1];refine Z9r Z8y ?_;simp[hw,hw0,hw1];refine Zcz Z8y (by decide) (kk:=.i64) rfl (by kernel_rfl) (by decide) (by decide) (by omega) (by show (n:Int)≤2097152;omega) (fun cap' hcap=>?_);have hc0:0 < cap':=by omega
  simp at hcap;simp[hw0,hw1,hc0];refine hk _ _ ⟨AllC.nil,by simp,.inr ⟨(h.ep,352),cap',List.replicate (cap' * 4) .any,by simp,by simp[rowBox],by simp[rowBox]⟩⟩ ((Same.refl.setBox (.inr (Nat.le_refl _))).next) (by simp[labs])
 ·simp;exact hk _ _ MR.nil .refl (by simp[labs])
theorem Z5y (h:HS) (c:C) (xss:List (List (List D))) (hc:c=.d (.sl (xss.map fun xs=>[.sl xs]))∨∃ lab,c=.own lab (xss.map fun xs=>[.sl xs])) (hall:∀ xs ∈ xss,∀ x ∈ xs,x.length=4) (hl:xss.flatten.length≤2097152) (K:V→HS→Prop)
  (hk:∀ c' h',MR h' 4 c' (xss.flatten.map (·.map C.d))→Same h h' []→(∀ l ∈ labs c',h.ep≤l.1∧l.1 < h'.ep)→K (.one c') h') :
  HSpec Tryz.prog 20 [.one c] h K:=by
 refine HSpec.of_vc Tryz.func20 rfl (by kernel_rfl) (n:=36) rfl rfl (by simp) ?_;simp;have hcl:c.list?=some (xss.map fun xs=>[.sl xs]):=by rcases hc with rfl | ⟨lab,rfl⟩<;>rfl
 refine Z8d hcl (fun hX=>?_);simp only[List.length_map] at hX;have hX':xss.length≤2097152:=hX;simp;refine Wait.rounds (fun n e h'=>∃ i,n=xss.length - i∧i≤xss.length∧h'=h∧e.n=36∧e.get 0=.one c∧e.get 9=.one c∧e.get 10=.one (.d (.int .i64 (xss.length:Int)))∧e.get 11=.one (.d (.int .i64 (i:Int)))∧e.get 3=.one (.d (.int .i64 (catLen xss i:Int)))) xss.length
  ⟨0,rfl,by omega,rfl,by simp,by simp,by simp,by simp,by simp,by simp[Zam]⟩ ?_
 rintro n e h' ⟨i,rfl,hi,rfl,hn,h0,h9,h10,h11,h3⟩;simp[h0,h9,h10,h11,h3,hn];refine Z10 (fun hlt=>?_) (fun hge=>?_)
 ·have hw1:IntKind.i64.wrap ((i:Int)+1)=(i:Int)+1:=IntWalk.i64_in _ (by omega);obtain⟨x,hx⟩:∃ x,xss[i]?=some x:=⟨_,List.getElem?_eq_getElem hlt⟩;have hs2:=Ze0 xss (i+1);have hs3:=Zan hx;have hw2:IntKind.i64.wrap ((catLen xss i:Int)+(x.length:Int))=(catLen xss (i+1):Int):=by rw[hs3,Int.natCast_add];exact IntWalk.i64_in _ (by omega)
  have hneg:¬ ((catLen xss (i+1):Int) < 0):=by omega
  have hi0:(0:Int)≤(i:Int):=by omega
  rcases hc with rfl | ⟨lab,rfl⟩
  all_goals
   simp[h0,h9,h10,h11,h3,hn,hx,hi0];intro hxl;simp[h0,h9,h10,h11,h3,hn,hw1,hw2,hneg];exact Back.of (n':=xss.length - (i+1)) (by omega) ⟨i+1,rfl,by omega,rfl,by simp[hn],by simp[h0],by simp[h9],by simp[h10],by simp,by simp⟩
 ·obtain rfl:i=xss.length:=by omega
  have hl':catLen xss xss.length≤2097152:=by rw[Zc6];exact hl
  simp[h0,h3,hn];refine Z02 (Z9w h' (catLen xss xss.length) hl' _ (fun c1 h1 hm1 hs1 hl1=>?_));simp[h0,hn];refine Z8d hcl (fun hX=>?_);simp[h0,hn];refine Wait.rounds (fun n e h2=>∃ (i:Nat) (c2:C),n=xss.length - i∧i≤xss.length∧MR h2 4 c2 ((xss.take i).flatten.map (·.map C.d))∧Same h' h2 []∧(∀ l ∈ labs c2,h'.ep≤l.1∧l.1 < h2.ep)∧e.n=36∧e.get 25=.one c∧e.get 26=.one (.d (.int .i64 (xss.length:Int)))∧e.get 27=.one (.d (.int .i64 (i:Int)))∧e.get 6=.one c2) xss.length ?_ ?_
  ·exact⟨0,c1,rfl,by omega,(hm1.frame (fun _ _=>rfl)),hs1,hl1,by simp[hn],by simp[h0,hn],by simp[hn],by simp[hn],by simp[hn]⟩
  clear h0 h9 h10 h11 h3 hn hi hge;rintro n e h2 ⟨i,c2,rfl,hi,hm2,hs2,hl2,hn,h25,h26,h27,h6⟩;simp[h25,h26,h27,h6,hn];refine Z10 (fun hlt=>?_) (fun hge=>?_)
  ·have hw1:IntKind.i64.wrap ((i:Int)+1)=(i:Int)+1:=IntWalk.i64_in _ (by omega);obtain⟨x,hx⟩:∃ x,xss[i]?=some x:=⟨_,List.getElem?_eq_getElem hlt⟩;have hsz1:=Zbb hx;have hsz2:=Zbc xss (i+1);have hsz3:(xss.take (i+1)).flatten.length=(xss.take i).flatten.length+x.length:=by rw[hsz1,List.length_append]
   have hi0:(0:Int)≤(i:Int):=by omega
   have hrd:RowAt h2 4 (.d (.sl x)) (x.map (·.map C.d)):=RowAt.data (hall x (List.mem_of_getElem? hx)) (by show x.length≤2097152;omega);rcases hc with rfl | ⟨lab,rfl⟩
   all_goals
    simp[h25,h26,h27,h6,hn,hx,hi0];refine app_mr Z8y (by kernel_rfl) (by decide) (by decide) hm2 hrd (by simp only[List.length_map];show _≤2097152;omega) (fun c3 h3 hm3 hs3 hl3=>?_);simp[h25,h26,h27,hn,hw1];refine Back.of (n':=xss.length - (i+1)) (by omega) ⟨i+1,c3,rfl,by omega,?_,hs2.trans' hs3 (fun k hk=>.inr (hl2 k hk).1),?_,by simp[hn],by simp[h25],by simp[h26],by simp,by simp⟩
    ·rw[hsz1,List.map_append];exact hm3
    ·intro k hk;rcases hl3 k hk with h9 | h9
     ·have:=hl2 k h9
      have:=hs3.1
      omega
     ·have:=hs2.1
      omega
  ·obtain rfl:i=xss.length:=by omega
   rw[List.take_length] at hm2;simp[h6,hn];exact hk _ _ hm2 hs2 hl2
def Z3c (s_:List (List Chg)):Option (List Chg):=chkK (s_.flatten.length≤2097152) (some s_.flatten)
theorem Z8u (s_:List (List Chg)) (r:List Chg) (hm:Is (Z3c s_) r):PSpec Tryz.prog 20 [.one (.d (.sl (s_.map (encL Chg.enc))))] (.one (.d (.sl (r.map Chg.enc)))):=by
 obtain⟨hl,hm⟩:=hm.chk;obtain rfl:=r_ret hm;refine PSpec.of_heap ?_;have hX:s_.map (encL Chg.enc)=(s_.map (·.map Chg.enc)).map fun xs=>[D.sl xs]:=by simp[encL]
 have hF:(s_.map (·.map Chg.enc)).flatten=s_.flatten.map Chg.enc:=by simp[List.map_flatten]
 refine Z5y HS.init _ (s_.map (·.map Chg.enc)) (.inl (by rw[← hX])) (fun xs hxs x hx=>?_) (by rw[hF,List.length_map];exact hl) _ (fun c' h' hm' _ _=>?_)
 ·obtain⟨ys,_,rfl⟩:=List.mem_map.1 hxs;obtain⟨y,_,rfl⟩:=List.mem_map.1 hx;rfl
 ·rw[hF] at hm';exact hm'.frz (List.length_map _) (fun t ht=>by obtain⟨y,_,rfl⟩:=List.mem_map.1 ht;rfl) (fun i x t hx ht=>by
   rw[List.getElem?_map] at hx;rw[ht] at hx;simp only[Option.map_some,Option.some.injEq] at hx;subst hx;exact Zal)
theorem Z8p (h:HS) (n:Nat) (hn:n≤2097152) (K:V→HS→Prop)
  (hk:∀ c' h',MR h' 1 c' []→Same h h' []→(∀ l ∈ labs c',h.ep≤l.1∧l.1 < h'.ep)→K (.one c') h') :
  HSpec Tryz.prog 38 [.one .nil,.one (.d (.int .i64 (n:Int)))] h K:=by
 refine HSpec.of_vc Tryz.func38 rfl (by kernel_rfl) (n:=27) rfl rfl (by simp) ?_;simp;have h0:¬ ((n:Int) < 0):=by omega
 have hw:IntKind.i64.wrap ((n:Int) - 0)=(n:Int):=by rw[Int.sub_zero];exact IntWalk.i64_in _ (by omega)
 have hw0:IntKind.i64.wrap 0=0:=IntWalk.i64_in _ (by omega);have hw1:IntKind.i64.wrap (n:Int)=(n:Int):=IntWalk.i64_in _ (by omega)
 try simp[h0]
 refine Z9r Zab ?_;simp[hw,hw0,hw1];refine Z10 (fun hp=>?_) (fun hp=>?_)
 ·simp[hw,hw0,hw1];refine Z9r Zab ?_;simp[hw,hw0,hw1];refine Zcz Zab (by decide) (kk:=.i64) rfl (by kernel_rfl) (by decide) (by decide) (by omega) (by show (n:Int)≤2097152;omega) (fun cap' hcap=>?_);have hc0:0 < cap':=by omega
  simp at hcap;simp[hw0,hw1,hc0];refine hk _ _ ⟨AllC.nil,by simp,.inr ⟨(h.ep,352),cap',List.replicate (cap' * 1) .any,by simp,by simp[rowBox],by simp[rowBox]⟩⟩ ((Same.refl.setBox (.inr (Nat.le_refl _))).next) (by simp[labs])
 ·simp;exact hk _ _ MR.nil .refl (by simp[labs])
theorem Z80 (h:HS) (c:C) (xss:List (List (List D))) (hc:c=.d (.sl (xss.map fun xs=>[.sl xs]))∨∃ lab,c=.own lab (xss.map fun xs=>[.sl xs])) (hall:∀ xs ∈ xss,∀ x ∈ xs,x.length=1) (hl:xss.flatten.length≤2097152) (K:V→HS→Prop)
  (hk:∀ c' h',MR h' 1 c' (xss.flatten.map (·.map C.d))→Same h h' []→(∀ l ∈ labs c',h.ep≤l.1∧l.1 < h'.ep)→K (.one c') h') :
  HSpec Tryz.prog 10 [.one c] h K:=by
 refine HSpec.of_vc Tryz.func10 rfl (by kernel_rfl) (n:=36) rfl rfl (by simp) ?_;simp;have hcl:c.list?=some (xss.map fun xs=>[.sl xs]):=by rcases hc with rfl | ⟨lab,rfl⟩<;>rfl
 refine Z8d hcl (fun hX=>?_);simp only[List.length_map] at hX;have hX':xss.length≤2097152:=hX;simp;refine Wait.rounds (fun n e h'=>∃ i,n=xss.length - i∧i≤xss.length∧h'=h∧e.n=36∧e.get 0=.one c∧e.get 9=.one c∧e.get 10=.one (.d (.int .i64 (xss.length:Int)))∧e.get 11=.one (.d (.int .i64 (i:Int)))∧e.get 3=.one (.d (.int .i64 (catLen xss i:Int)))) xss.length
  ⟨0,rfl,by omega,rfl,by simp,by simp,by simp,by simp,by simp,by simp[Zam]⟩ ?_
 rintro n e h' ⟨i,rfl,hi,rfl,hn,h0,h9,h10,h11,h3⟩;simp[h0,h9,h10,h11,h3,hn];refine Z10 (fun hlt=>?_) (fun hge=>?_)
 ·have hw1:IntKind.i64.wrap ((i:Int)+1)=(i:Int)+1:=IntWalk.i64_in _ (by omega);obtain⟨x,hx⟩:∃ x,xss[i]?=some x:=⟨_,List.getElem?_eq_getElem hlt⟩;have hs2:=Ze0 xss (i+1);have hs3:=Zan hx;have hw2:IntKind.i64.wrap ((catLen xss i:Int)+(x.length:Int))=(catLen xss (i+1):Int):=by rw[hs3,Int.natCast_add];exact IntWalk.i64_in _ (by omega)
  have hneg:¬ ((catLen xss (i+1):Int) < 0):=by omega
  have hi0:(0:Int)≤(i:Int):=by omega
  rcases hc with rfl | ⟨lab,rfl⟩
  all_goals
   simp[h0,h9,h10,h11,h3,hn,hx,hi0];intro hxl;simp[h0,h9,h10,h11,h3,hn,hw1,hw2,hneg];exact Back.of (n':=xss.length - (i+1)) (by omega) ⟨i+1,rfl,by omega,rfl,by simp[hn],by simp[h0],by simp[h9],by simp[h10],by simp,by simp⟩
 ·obtain rfl:i=xss.length:=by omega
  have hl':catLen xss xss.length≤2097152:=by rw[Zc6];exact hl
  simp[h0,h3,hn];refine Z02 (Z8p h' (catLen xss xss.length) hl' _ (fun c1 h1 hm1 hs1 hl1=>?_));simp[h0,hn];refine Z8d hcl (fun hX=>?_);simp[h0,hn];refine Wait.rounds (fun n e h2=>∃ (i:Nat) (c2:C),n=xss.length - i∧i≤xss.length∧MR h2 1 c2 ((xss.take i).flatten.map (·.map C.d))∧Same h' h2 []∧(∀ l ∈ labs c2,h'.ep≤l.1∧l.1 < h2.ep)∧e.n=36∧e.get 25=.one c∧e.get 26=.one (.d (.int .i64 (xss.length:Int)))∧e.get 27=.one (.d (.int .i64 (i:Int)))∧e.get 6=.one c2) xss.length ?_ ?_
  ·exact⟨0,c1,rfl,by omega,(hm1.frame (fun _ _=>rfl)),hs1,hl1,by simp[hn],by simp[h0,hn],by simp[hn],by simp[hn],by simp[hn]⟩
  clear h0 h9 h10 h11 h3 hn hi hge;rintro n e h2 ⟨i,c2,rfl,hi,hm2,hs2,hl2,hn,h25,h26,h27,h6⟩;simp[h25,h26,h27,h6,hn];refine Z10 (fun hlt=>?_) (fun hge=>?_)
  ·have hw1:IntKind.i64.wrap ((i:Int)+1)=(i:Int)+1:=IntWalk.i64_in _ (by omega);obtain⟨x,hx⟩:∃ x,xss[i]?=some x:=⟨_,List.getElem?_eq_getElem hlt⟩;have hsz1:=Zbb hx;have hsz2:=Zbc xss (i+1);have hsz3:(xss.take (i+1)).flatten.length=(xss.take i).flatten.length+x.length:=by rw[hsz1,List.length_append]
   have hi0:(0:Int)≤(i:Int):=by omega
   have hrd:RowAt h2 1 (.d (.sl x)) (x.map (·.map C.d)):=RowAt.data (hall x (List.mem_of_getElem? hx)) (by show x.length≤2097152;omega);rcases hc with rfl | ⟨lab,rfl⟩
   all_goals
    simp[h25,h26,h27,h6,hn,hx,hi0];refine app_mr Zab (by kernel_rfl) (by decide) (by decide) hm2 hrd (by simp only[List.length_map];show _≤2097152;omega) (fun c3 h3 hm3 hs3 hl3=>?_);simp[h25,h26,h27,hn,hw1];refine Back.of (n':=xss.length - (i+1)) (by omega) ⟨i+1,c3,rfl,by omega,?_,hs2.trans' hs3 (fun k hk=>.inr (hl2 k hk).1),?_,by simp[hn],by simp[h25],by simp[h26],by simp,by simp⟩
    ·rw[hsz1,List.map_append];exact hm3
    ·intro k hk;rcases hl3 k hk with h9 | h9
     ·have:=hl2 k h9
      have:=hs3.1
      omega
     ·have:=hs2.1
      omega
  ·obtain rfl:i=xss.length:=by omega
   rw[List.take_length] at hm2;simp[h6,hn];exact hk _ _ hm2 hs2 hl2
def Z1x (s_:List (List (List Rel))):Option (List (List Rel)):=chkK (s_.flatten.length≤2097152) (some s_.flatten)
theorem Z83 (s_:List (List (List Rel))) (r:List (List Rel)) (hm:Is (Z1x s_) r):PSpec Tryz.prog 10 [.one (.d (.sl (s_.map (encL (encL Rel.enc)))))] (.one (.d (.sl (r.map (encL Rel.enc))))):=by
 obtain⟨hl,hm⟩:=hm.chk;obtain rfl:=r_ret hm;refine PSpec.of_heap ?_;have hX:s_.map (encL (encL Rel.enc))=(s_.map (·.map (encL Rel.enc))).map fun xs=>[D.sl xs]:=by simp[encL]
 have hF:(s_.map (·.map (encL Rel.enc))).flatten=s_.flatten.map (encL Rel.enc):=by simp[List.map_flatten]
 refine Z80 HS.init _ (s_.map (·.map (encL Rel.enc))) (.inl (by rw[← hX])) (fun xs hxs x hx=>?_) (by rw[hF,List.length_map];exact hl) _ (fun c' h' hm' _ _=>?_)
 ·obtain⟨ys,_,rfl⟩:=List.mem_map.1 hxs;obtain⟨y,_,rfl⟩:=List.mem_map.1 hx;rfl
 ·rw[hF] at hm';exact hm'.frz (List.length_map _) (fun t ht=>by obtain⟨y,_,rfl⟩:=List.mem_map.1 ht;rfl) (fun i x t hx ht=>by
   rw[List.getElem?_map] at hx;rw[ht] at hx;simp only[Option.map_some,Option.some.injEq] at hx;subst hx;exact Zal)
theorem Z9v (h:HS) (n:Nat) (hn:n≤2097152) (K:V→HS→Prop)
  (hk:∀ c' h',MR h' 1 c' []→Same h h' []→(∀ l ∈ labs c',h.ep≤l.1∧l.1 < h'.ep)→K (.one c') h') :
  HSpec Tryz.prog 78 [.one .nil,.one (.d (.int .i64 (n:Int)))] h K:=by
 refine HSpec.of_vc Tryz.func78 rfl (by kernel_rfl) (n:=27) rfl rfl (by simp) ?_;simp;have h0:¬ ((n:Int) < 0):=by omega
 have hw:IntKind.i64.wrap ((n:Int) - 0)=(n:Int):=by rw[Int.sub_zero];exact IntWalk.i64_in _ (by omega)
 have hw0:IntKind.i64.wrap 0=0:=IntWalk.i64_in _ (by omega);have hw1:IntKind.i64.wrap (n:Int)=(n:Int):=IntWalk.i64_in _ (by omega)
 try simp[h0]
 refine Z9r Z84 ?_;simp[hw,hw0,hw1];refine Z10 (fun hp=>?_) (fun hp=>?_)
 ·simp[hw,hw0,hw1];refine Z9r Z84 ?_;simp[hw,hw0,hw1];refine Zcz Z84 (by decide) (kk:=.i64) rfl (by kernel_rfl) (by decide) (by decide) (by omega) (by show (n:Int)≤2097152;omega) (fun cap' hcap=>?_);have hc0:0 < cap':=by omega
  simp at hcap;simp[hw0,hw1,hc0];refine hk _ _ ⟨AllC.nil,by simp,.inr ⟨(h.ep,352),cap',List.replicate (cap' * 1) .any,by simp,by simp[rowBox],by simp[rowBox]⟩⟩ ((Same.refl.setBox (.inr (Nat.le_refl _))).next) (by simp[labs])
 ·simp;exact hk _ _ MR.nil .refl (by simp[labs])
theorem Z8q (h:HS) (c:C) (xss:List (List (List D))) (hc:c=.d (.sl (xss.map fun xs=>[.sl xs]))∨∃ lab,c=.own lab (xss.map fun xs=>[.sl xs])) (hall:∀ xs ∈ xss,∀ x ∈ xs,x.length=1) (hl:xss.flatten.length≤2097152) (K:V→HS→Prop)
  (hk:∀ c' h',MR h' 1 c' (xss.flatten.map (·.map C.d))→Same h h' []→(∀ l ∈ labs c',h.ep≤l.1∧l.1 < h'.ep)→K (.one c') h') :
  HSpec Tryz.prog 62 [.one c] h K:=by
 refine HSpec.of_vc Tryz.func62 rfl (by kernel_rfl) (n:=36) rfl rfl (by simp) ?_;simp;have hcl:c.list?=some (xss.map fun xs=>[.sl xs]):=by rcases hc with rfl | ⟨lab,rfl⟩<;>rfl
 refine Z8d hcl (fun hX=>?_);simp only[List.length_map] at hX;have hX':xss.length≤2097152:=hX;simp;refine Wait.rounds (fun n e h'=>∃ i,n=xss.length - i∧i≤xss.length∧h'=h∧e.n=36∧e.get 0=.one c∧e.get 9=.one c∧e.get 10=.one (.d (.int .i64 (xss.length:Int)))∧e.get 11=.one (.d (.int .i64 (i:Int)))∧e.get 3=.one (.d (.int .i64 (catLen xss i:Int)))) xss.length
  ⟨0,rfl,by omega,rfl,by simp,by simp,by simp,by simp,by simp,by simp[Zam]⟩ ?_
 rintro n e h' ⟨i,rfl,hi,rfl,hn,h0,h9,h10,h11,h3⟩;simp[h0,h9,h10,h11,h3,hn];refine Z10 (fun hlt=>?_) (fun hge=>?_)
 ·have hw1:IntKind.i64.wrap ((i:Int)+1)=(i:Int)+1:=IntWalk.i64_in _ (by omega);obtain⟨x,hx⟩:∃ x,xss[i]?=some x:=⟨_,List.getElem?_eq_getElem hlt⟩;have hs2:=Ze0 xss (i+1);have hs3:=Zan hx;have hw2:IntKind.i64.wrap ((catLen xss i:Int)+(x.length:Int))=(catLen xss (i+1):Int):=by rw[hs3,Int.natCast_add];exact IntWalk.i64_in _ (by omega)
  have hneg:¬ ((catLen xss (i+1):Int) < 0):=by omega
  have hi0:(0:Int)≤(i:Int):=by omega
  rcases hc with rfl | ⟨lab,rfl⟩
  all_goals
   simp[h0,h9,h10,h11,h3,hn,hx,hi0];intro hxl;simp[h0,h9,h10,h11,h3,hn,hw1,hw2,hneg];exact Back.of (n':=xss.length - (i+1)) (by omega) ⟨i+1,rfl,by omega,rfl,by simp[hn],by simp[h0],by simp[h9],by simp[h10],by simp,by simp⟩
 ·obtain rfl:i=xss.length:=by omega
  have hl':catLen xss xss.length≤2097152:=by rw[Zc6];exact hl
  simp[h0,h3,hn];refine Z02 (Z9v h' (catLen xss xss.length) hl' _ (fun c1 h1 hm1 hs1 hl1=>?_));simp[h0,hn];refine Z8d hcl (fun hX=>?_);simp[h0,hn];refine Wait.rounds (fun n e h2=>∃ (i:Nat) (c2:C),n=xss.length - i∧i≤xss.length∧MR h2 1 c2 ((xss.take i).flatten.map (·.map C.d))∧Same h' h2 []∧(∀ l ∈ labs c2,h'.ep≤l.1∧l.1 < h2.ep)∧e.n=36∧e.get 25=.one c∧e.get 26=.one (.d (.int .i64 (xss.length:Int)))∧e.get 27=.one (.d (.int .i64 (i:Int)))∧e.get 6=.one c2) xss.length ?_ ?_
  ·exact⟨0,c1,rfl,by omega,(hm1.frame (fun _ _=>rfl)),hs1,hl1,by simp[hn],by simp[h0,hn],by simp[hn],by simp[hn],by simp[hn]⟩
  clear h0 h9 h10 h11 h3 hn hi hge;rintro n e h2 ⟨i,c2,rfl,hi,hm2,hs2,hl2,hn,h25,h26,h27,h6⟩;simp[h25,h26,h27,h6,hn];refine Z10 (fun hlt=>?_) (fun hge=>?_)
  ·have hw1:IntKind.i64.wrap ((i:Int)+1)=(i:Int)+1:=IntWalk.i64_in _ (by omega);obtain⟨x,hx⟩:∃ x,xss[i]?=some x:=⟨_,List.getElem?_eq_getElem hlt⟩;have hsz1:=Zbb hx;have hsz2:=Zbc xss (i+1);have hsz3:(xss.take (i+1)).flatten.length=(xss.take i).flatten.length+x.length:=by rw[hsz1,List.length_append]
   have hi0:(0:Int)≤(i:Int):=by omega
   have hrd:RowAt h2 1 (.d (.sl x)) (x.map (·.map C.d)):=RowAt.data (hall x (List.mem_of_getElem? hx)) (by show x.length≤2097152;omega);rcases hc with rfl | ⟨lab,rfl⟩
   all_goals
    simp[h25,h26,h27,h6,hn,hx,hi0];refine app_mr Z84 (by kernel_rfl) (by decide) (by decide) hm2 hrd (by simp only[List.length_map];show _≤2097152;omega) (fun c3 h3 hm3 hs3 hl3=>?_);simp[h25,h26,h27,hn,hw1];refine Back.of (n':=xss.length - (i+1)) (by omega) ⟨i+1,c3,rfl,by omega,?_,hs2.trans' hs3 (fun k hk=>.inr (hl2 k hk).1),?_,by simp[hn],by simp[h25],by simp[h26],by simp,by simp⟩
    ·rw[hsz1,List.map_append];exact hm3
    ·intro k hk;rcases hl3 k hk with h9 | h9
     ·have:=hl2 k h9
      have:=hs3.1
      omega
     ·have:=hs2.1
      omega
  ·obtain rfl:i=xss.length:=by omega
   rw[List.take_length] at hm2;simp[h6,hn];exact hk _ _ hm2 hs2 hl2
end
section
open Go
abbrev BL:=List UInt8
def ins (x:BL):List BL→List BL
 | []=>[x]
 | y::l=>if x≤y then x::y::l else y::ins x l
def sortL:List BL→List BL
 | []=>[]
 | x::l=>ins x (sortL l)
theorem Zfk (x:BL):∀ l,(ins x l).Perm (x::l)
 | []=>.refl _
 | y::l=>by
   unfold ins;split
   ·exact .refl _
   ·exact ((Zfk x l).cons y).trans (List.Perm.swap x y l)
theorem Zbp:∀ l,(sortL l).Perm l
 | []=>.refl _
 | x::l=>(Zfk x _).trans ((Zbp l).cons x)
theorem ins_pw (x:BL):∀ l,l.Pairwise (fun x y=>x≤y)→(ins x l).Pairwise fun x y=>x≤y
 | [],_=>by simp[ins]
 | y::l,h=>by
   obtain⟨h1,h2⟩:=List.pairwise_cons.1 h;unfold ins;split
   ·rename_i hx;refine List.pairwise_cons.2 ⟨fun z hz=>?_,h⟩;rcases List.mem_cons.1 hz with rfl | hz
    ·exact hx
    ·exact Std.le_trans hx (h1 z hz)
   ·rename_i hx;have hyx:y≤x:=(Std.le_total (a:=x) (b:=y)).resolve_left hx;refine List.pairwise_cons.2 ⟨fun z hz=>?_,ins_pw x l h2⟩;rcases List.mem_cons.1 ((Zfk x l).mem_iff.1 hz) with rfl | hz
    ·exact hyx
    ·exact h1 z hz
theorem Zih:∀ l,(sortL l).Pairwise fun x y=>x≤y
 | []=>.nil
 | x::l=>ins_pw x _ (Zih l)
theorem Zhe (l:List BL):(l.mergeSort fun x y=>decide (x≤y))=sortL l:=by
 have h:=List.pairwise_mergeSort (le:=fun x y:BL=>decide (x≤y)) (fun a b c h1 h2=>by simp only[decide_eq_true_eq] at *;exact Std.le_trans h1 h2) (fun a b=>by simp only[Bool.or_eq_true,decide_eq_true_eq];exact Std.le_total) l;exact List.Perm.eq_of_pairwise (fun a b _ _ h1 h2=>Std.le_antisymm h1 h2) (h.imp fun h=>by simpa using h) (Zih l) ((List.mergeSort_perm l _).trans (Zbp l).symm)
theorem Zhy (zs:List BL):(Lib.compact zs).length≤zs.length:=by
 unfold Lib.compact Lib.compactUpTo;rw[List.length_map];exact Nat.le_trans (List.length_filter_le _ _) (by simp)
end
end Go.Proofs.YthiojhcimecdgaaGreatDoor
namespace Go.Proofs
section
open Go.Shelf
def Tryz.laysM171_ren:Go.Shelf.Ren:=⟨fun | 171=>217 | 243=>233 | 246=>254 | 283=>268 | 284=>269 | 285=>270 | 286=>271 | 129=>121 | 317=>279 | 318=>280 | 319=>281 | 320=>282 | 337=>288 | 338=>289 | n=>n,fun | 3=>3 | 9=>9 | 2=>2 | 4=>4 | 171=>313 | 0=>0 | 53=>198 | 37=>227 | 5=>5 | 173=>315 | 212=>322 | 51=>196 | 20=>20 | 213=>323 | 46=>153 | 232=>331 | 233=>332 | n=>n,fun | 17=>1 | 18=>2 | 19=>3 | n=>n⟩
theorem Tryz.laysM171:Go.Proofs.LaysM.n171 Tryz.prog Tryz.laysM171_ren:={
 mixed:=by kernel_rfl
 f129:=Tryz.func121.trans (congrArg some (by kernel_rfl))
 f171:=Tryz.func217.trans (congrArg some (by kernel_rfl))
 f243:=Tryz.func233.trans (congrArg some (by kernel_rfl))
 f246:=Tryz.func254.trans (congrArg some (by kernel_rfl))
 f283:=Tryz.func268.trans (congrArg some (by kernel_rfl))
 f284:=Tryz.func269.trans (congrArg some (by kernel_rfl))
 f285:=Tryz.func270.trans (congrArg some (by kernel_rfl))
 f286:=Tryz.func271.trans (congrArg some (by kernel_rfl))
 f317:=Tryz.func279.trans (congrArg some (by kernel_rfl))
 f318:=Tryz.func280.trans (congrArg some (by kernel_rfl))
 f319:=Tryz.func281.trans (congrArg some (by kernel_rfl))
 f320:=Tryz.func282.trans (congrArg some (by kernel_rfl))
 f337:=Tryz.func288.trans (congrArg some (by kernel_rfl))
 f338:=Tryz.func289.trans (congrArg some (by kernel_rfl))
 t0:=Tryz.underlying0
 a0:=Tryz.isAgg0
 z0:=Tryz.sizeOf0
 v0:=Tryz.zeroValue0
 t2:=Tryz.underlying2
 a2:=Tryz.isAgg2
 z2:=Tryz.sizeOf2
 v2:=Tryz.zeroValue2
 t3:=Tryz.underlying3
 a3:=Tryz.isAgg3
 z3:=Tryz.sizeOf3
 v3:=Tryz.zeroValue3
 t4:=Tryz.underlying4
 a4:=Tryz.isAgg4
 z4:=Tryz.sizeOf4
 v4:=Tryz.zeroValue4
 t5:=Tryz.underlying5
 a5:=Tryz.isAgg5
 z5:=Tryz.sizeOf5
 v5:=Tryz.zeroValue5
 t9:=Tryz.underlying9
 a9:=Tryz.isAgg9
 z9:=Tryz.sizeOf9
 v9:=Tryz.zeroValue9
 t20:=Tryz.underlying20
 a20:=Tryz.isAgg20
 z20:=Tryz.sizeOf20
 v20:=Tryz.zeroValue20
 t37:=Tryz.underlying227
 a37:=Tryz.isAgg227
 z37:=Tryz.sizeOf227
 v37:=Tryz.zeroValue227
 t46:=Tryz.underlying153
 a46:=Tryz.isAgg153
 z46:=Tryz.sizeOf153
 v46:=Tryz.zeroValue153
 t51:=Tryz.underlying196
 a51:=Tryz.isAgg196
 z51:=Tryz.sizeOf196
 v51:=Tryz.zeroValue196
 t53:=Tryz.underlying198
 a53:=Tryz.isAgg198
 z53:=Tryz.sizeOf198
 v53:=Tryz.zeroValue198
 t171:=Tryz.underlying313
 a171:=Tryz.isAgg313
 z171:=Tryz.sizeOf313
 v171:=Tryz.zeroValue313
 t173:=Tryz.underlying315
 a173:=Tryz.isAgg315
 z173:=Tryz.sizeOf315
 v173:=Tryz.zeroValue315
 t212:=Tryz.underlying322
 a212:=Tryz.isAgg322
 z212:=Tryz.sizeOf322
 v212:=Tryz.zeroValue322
 t213:=Tryz.underlying323
 a213:=Tryz.isAgg323
 z213:=Tryz.sizeOf323
 t232:=Tryz.underlying331
 a232:=Tryz.isAgg331
 z232:=Tryz.sizeOf331
 v232:=Tryz.zeroValue331
 t233:=Tryz.underlying332
 a233:=Tryz.isAgg332
 z233:=Tryz.sizeOf332
 v233:=Tryz.zeroValue332
 g17:=by kernel_rfl
 g18:=by kernel_rfl
 g19:=by kernel_rfl
 i0:=by kernel_rfl
 i2:=by kernel_rfl
 i3:=by kernel_rfl
 i4:=by kernel_rfl
 i5:=by kernel_rfl
 i9:=by kernel_rfl
 i20:=by kernel_rfl
 i37:=by kernel_rfl
 i46:=by kernel_rfl
 i51:=by kernel_rfl
 i53:=by kernel_rfl
 i171:=by kernel_rfl
 i173:=by kernel_rfl
 i212:=by kernel_rfl
 i232:=by kernel_rfl
 i233:=by kernel_rfl
 m17:=by kernel_rfl
 m18:=by kernel_rfl
 m19:=by kernel_rfl }
def Tryz.lays190_ren:Go.Shelf.Ren:=⟨fun | 190=>63 | 125=>80 | 258=>79 | 128=>120 | 129=>121 | 302=>111 | 303=>112 | 304=>113 | 305=>114 | 306=>115 | 307=>116 | 308=>117 | 309=>118 | 310=>119 | 333=>143 | 329=>144 | 330=>145 | 334=>146 | 335=>147 | 336=>148 | 344=>171 | n=>n,fun | 31=>49 | 9=>9 | 3=>3 | 46=>153 | 0=>0 | 51=>196 | 53=>198 | 4=>4 | 183=>189 | 182=>188 | 131=>60 | 5=>5 | 218=>220 | 222=>224 | 228=>243 | 229=>244 | n=>n,fun | n=>n⟩
theorem Tryz.lays190:Go.Proofs.Lays.n190 Tryz.prog Tryz.lays190_ren:={
 mixed:=by kernel_rfl
 f125:=Tryz.func80.trans (congrArg some (by kernel_rfl))
 f128:=Tryz.func120.trans (congrArg some (by kernel_rfl))
 f129:=Tryz.func121.trans (congrArg some (by kernel_rfl))
 f190:=Tryz.func63.trans (congrArg some (by kernel_rfl))
 f258:=Tryz.func79.trans (congrArg some (by kernel_rfl))
 f302:=Tryz.func111.trans (congrArg some (by kernel_rfl))
 f303:=Tryz.func112.trans (congrArg some (by kernel_rfl))
 f304:=Tryz.func113.trans (congrArg some (by kernel_rfl))
 f305:=Tryz.func114.trans (congrArg some (by kernel_rfl))
 f306:=Tryz.func115.trans (congrArg some (by kernel_rfl))
 f307:=Tryz.func116.trans (congrArg some (by kernel_rfl))
 f308:=Tryz.func117.trans (congrArg some (by kernel_rfl))
 f309:=Tryz.func118.trans (congrArg some (by kernel_rfl))
 f310:=Tryz.func119.trans (congrArg some (by kernel_rfl))
 f329:=Tryz.func144.trans (congrArg some (by kernel_rfl))
 f330:=Tryz.func145.trans (congrArg some (by kernel_rfl))
 f333:=Tryz.func143.trans (congrArg some (by kernel_rfl))
 f334:=Tryz.func146.trans (congrArg some (by kernel_rfl))
 f335:=Tryz.func147.trans (congrArg some (by kernel_rfl))
 f336:=Tryz.func148.trans (congrArg some (by kernel_rfl))
 f344:=Tryz.func171.trans (congrArg some (by kernel_rfl))
 t0:=Tryz.underlying0
 a0:=Tryz.isAgg0
 z0:=Tryz.sizeOf0
 v0:=Tryz.zeroValue0
 t3:=Tryz.underlying3
 a3:=Tryz.isAgg3
 z3:=Tryz.sizeOf3
 v3:=Tryz.zeroValue3
 t4:=Tryz.underlying4
 a4:=Tryz.isAgg4
 z4:=Tryz.sizeOf4
 v4:=Tryz.zeroValue4
 t5:=Tryz.underlying5
 a5:=Tryz.isAgg5
 z5:=Tryz.sizeOf5
 v5:=Tryz.zeroValue5
 t9:=Tryz.underlying9
 a9:=Tryz.isAgg9
 z9:=Tryz.sizeOf9
 v9:=Tryz.zeroValue9
 t31:=Tryz.underlying49
 a31:=Tryz.isAgg49
 z31:=Tryz.sizeOf49
 v31:=Tryz.zeroValue49
 t46:=Tryz.underlying153
 a46:=Tryz.isAgg153
 z46:=Tryz.sizeOf153
 v46:=Tryz.zeroValue153
 t51:=Tryz.underlying196
 a51:=Tryz.isAgg196
 z51:=Tryz.sizeOf196
 v51:=Tryz.zeroValue196
 t53:=Tryz.underlying198
 a53:=Tryz.isAgg198
 z53:=Tryz.sizeOf198
 v53:=Tryz.zeroValue198
 t131:=Tryz.underlying60
 a131:=Tryz.isAgg60
 z131:=Tryz.sizeOf60
 v131:=Tryz.zeroValue60
 t182:=Tryz.underlying188
 a182:=Tryz.isAgg188
 z182:=Tryz.sizeOf188
 v182:=Tryz.zeroValue188
 t183:=Tryz.underlying189
 a183:=Tryz.isAgg189
 z183:=Tryz.sizeOf189
 v183:=Tryz.zeroValue189
 t218:=Tryz.underlying220
 a218:=Tryz.isAgg220
 z218:=Tryz.sizeOf220
 v218:=Tryz.zeroValue220
 t222:=Tryz.underlying224
 a222:=Tryz.isAgg224
 z222:=Tryz.sizeOf224
 v222:=Tryz.zeroValue224
 t228:=Tryz.underlying243
 a228:=Tryz.isAgg243
 z228:=Tryz.sizeOf243
 v228:=Tryz.zeroValue243
 t229:=Tryz.underlying244
 a229:=Tryz.isAgg244
 z229:=Tryz.sizeOf244
 v229:=Tryz.zeroValue244 }
def Tryz.lays194_ren:Go.Shelf.Ren:=⟨fun | 194=>64 | n=>n,fun | 31=>49 | 9=>9 | 3=>3 | 4=>4 | 0=>0 | n=>n,fun | n=>n⟩
theorem Tryz.lays194:Go.Proofs.Lays.n194 Tryz.prog Tryz.lays194_ren:={
 mixed:=by kernel_rfl
 f194:=Tryz.func64.trans (congrArg some (by kernel_rfl))
 t0:=Tryz.underlying0
 a0:=Tryz.isAgg0
 z0:=Tryz.sizeOf0
 v0:=Tryz.zeroValue0
 t3:=Tryz.underlying3
 a3:=Tryz.isAgg3
 z3:=Tryz.sizeOf3
 v3:=Tryz.zeroValue3
 t4:=Tryz.underlying4
 a4:=Tryz.isAgg4
 z4:=Tryz.sizeOf4
 v4:=Tryz.zeroValue4
 t9:=Tryz.underlying9
 a9:=Tryz.isAgg9
 z9:=Tryz.sizeOf9
 v9:=Tryz.zeroValue9
 t31:=Tryz.underlying49
 a31:=Tryz.isAgg49
 z31:=Tryz.sizeOf49
 v31:=Tryz.zeroValue49 }
end
end Go.Proofs
namespace Go.Proofs.YthiojhcimecdgaaGreatDoor
section
open Go Go.Am
open Go.RowKit (Below)
def scell (s:ByteArray):List C:=[.d (.str s)]
def bys (s:ByteArray):List UInt8:=s.data.toList
def ofBys (l:List UInt8):ByteArray:=⟨l.toArray⟩
def sortB (xs:List ByteArray):List ByteArray:=(sortL (xs.map bys)).map ofBys
def compB (xs:List ByteArray):List ByteArray:=(Lib.compact (xs.map bys)).map ofBys
theorem Z8z (xs:List ByteArray):(sortB xs).length=xs.length:=by simp[sortB,(Zbp _).length_eq]
theorem Z90 {us:List ByteArray}:AllC 1 (us.map scell):=by
 intro x hx;obtain⟨y,_,rfl⟩:=List.mem_map.1 hx;rfl
theorem Zb3 {us:List ByteArray} {sp:List C}:(rowBox (us.map scell) sp).length=us.length+sp.length:=by
 have:=Z04 (sp:=sp) (Z90 (us:=us))
 simpa using this
theorem Zg8 {us:List ByteArray} {sp:List C} {i:Nat} (hi:i < us.length):(rowBox (us.map scell) sp)[i]?=some (.d (.str us[i])):=by
 have h:=Zcv (sp:=sp) (f:=0) (k:=i) (x:=scell us[i]) (Z90 (us:=us)) (by simp[hi]) (by omega);simp only[Nat.mul_one,Nat.add_zero,List.drop_zero] at h;have h2:((rowBox (us.map scell) sp).drop i)[0]?=some (.d (.str us[i])):=by rw[h];rfl
 simpa[List.getElem?_drop] using h2
theorem Zg7 {us vs:List ByteArray} {sp:List C} {i:Nat} (hl:us.length=vs.length) (hi:us.length≤i):(rowBox (us.map scell) sp)[i]?=(rowBox (vs.map scell) sp)[i]?:=by
 have h:∀ us:List ByteArray,us.length≤i→(rowBox (us.map scell) sp)[i]?=sp[i - us.length]?:=fun us hu=>by
  have h1:=Z5q (n:=1) (k:=us.length) (sp:=sp) (Z90 (us:=us)) (by simp);have h2:(rowBox (us.map scell) sp)[i]?=((rowBox (us.map scell) sp).drop us.length)[i - us.length]?:=by rw[List.getElem?_drop];congr 1;omega
  rw[h2,show us.length=us.length * 1 by omega,h1];have e:List.drop us.length (us.map scell)=[]:=List.drop_of_length_le (by simp);simp[rowBox,e]
 rw[h us hi,h vs (by omega),hl]
theorem Zmn {Γ:Ctx} {h:HS} {μ:Mem} {w w':World} (hI:Inv Γ h μ w) {l:Lab} {cs cs':List C} (hb:h.box l=some cs) {b n:Nat} {T:TypeId} {conc':Array Value} (hloc:μ.loc l=some (some b,n))
  (ho:w'.os=w.os) (ht:w'.tape=w.tape) (hou:w'.output=w.output) (hsz:w.heap.size≤w'.heap.size)
  (hoth:∀ k,k < w.heap.size→k≠b→w'.heap[k]?=w.heap[k]?) (hh:w'.heap[b]?=some (.cells conc' T (0,0))) (hc:RepCs μ cs' conc'):Inv Γ (h.setBox l cs') μ w':=by
 obtain⟨b',n',T',conc0,hl',hbase,hbh,_,hnone⟩:=hI.box l cs hb;rw[hloc] at hl';simp only[Option.some.injEq,Prod.mk.injEq] at hl';obtain⟨rfl,rfl⟩:=hl';have hlive:h.live l:=.inl (by simp[hb]);have hsz0:=hI.below.size;refine⟨hI.cell.of_heap (fun b' o v hm=>hoth b' (hI.cell.lt hm) ?_),hI.tmp,hI.tcell.of_heap (fun b' o v hm=>hoth b' (hI.tcell.lt hm) ?_),hI.told,hI.ext,hI.old,?_,?_,?_,?_,hI.lt,?_⟩
 ·rintro rfl;rw[hnone o] at hm;cases hm
 ·rintro rfl;have:=hI.told _ _ _ hm;omega
 ·exact hI.below.trans ⟨ho,ht,hou,hsz,fun k hk=>hoth k (by omega) (by omega)⟩
 ·intro k cs0 hk
  by_cases e:k=l
  ·subst e
   have:cs0=cs':=by simpa[HS.setBox] using hk.symm
   subst this;exact⟨b,n,T,conc',hloc,hbase,hh,hc,hnone⟩
  ·have hk':h.box k=some cs0:=by simpa[HS.setBox,e] using hk
   obtain⟨b1,n1,T1,conc1,h1,h2,h3,h4,h5⟩:=hI.box k cs0 hk';have hne:b1≠b:=by
    rintro rfl;exact e (hI.inj k l b1 n1 n (.inl (by simp[hk'])) hlive h1 hloc)
   exact⟨b1,n1,T1,conc1,h1,h2,by rw[hoth _ (Z1z h3) hne];exact h3,h4,h5⟩
 ·intro k es n1 hk;have hk':h.arr k=some (n1,es):=by simpa[HS.setBox] using hk
  obtain⟨gc,h1,h2⟩:=hI.arr k es n1 hk';refine⟨gc,h1,h2.keep (fun g hg=>hoth g ?_ ?_) (fun _ _ _ h=>h)⟩
  ·obtain⟨_,T1,cur,hq,_⟩:=h2.2 g hg;exact Z1z hq
  ·rintro rfl;obtain⟨g1,c1⟩:=gc;simp at hg;subst hg;have e:=hI.inj k l g c1 n (.inr (by simp[hk'])) hlive h1 hloc;subst e;exact hI.both k (by simp[hb]) (by simp[hk'])
 ·intro k k' b1 n1 n2 hk hk' h1 h2;have up:∀ k,(h.setBox l cs').live k→h.live k:=fun k hk=>by
   by_cases e:k=l
   ·subst e;exact hlive
   ·rcases hk with hk | hk
    ·left;simpa[HS.setBox,e] using hk
    ·right;simpa[HS.setBox] using hk
  exact hI.inj k k' b1 n1 n2 (up k hk) (up k' hk') h1 h2
 ·intro k h1 h2;have h2':h.arr k≠none:=by simpa[HS.setBox] using h2
  by_cases e:k=l
  ·subst e;exact hI.both k (by simp[hb]) h2'
  ·exact hI.both k (by simpa[HS.setBox,e] using h1) h2'
theorem Zi6 {μ:Mem} {v:V} {vals:Array Value} (h:Ze7 μ [v] vals):∃ u,vals=#[u]∧RepV μ v u:=by
 obtain⟨hs,hg⟩:=h;obtain⟨u,h0,r0⟩:=hg 0 _ rfl;refine⟨u,Array.ext_getElem? fun i=>?_,r0⟩
 match i with
 | 0=>simpa using h0
 | i+1=>rw[Array.getElem?_eq_none (by simp at hs;omega)];simp
theorem Zma {Γ:Ctx} {h:HS} {μ:Mem} {w:World} (hI:Inv Γ h μ w) {l:Lab} {ss:List ByteArray} {sp:List C} (hb:h.box l=some (rowBox (ss.map scell) sp)) {b n:Nat} (hloc:μ.loc l=some (some b,n)) :
  b < w.heap.size∧∃ T conc,w.heap[b]?=some (.cells conc T (0,0))∧RepCs μ (rowBox (ss.map scell) sp) conc∧Go.Sort.Holds encStr w b 0 (ss.map bys).toArray:=by
 obtain⟨b',n',T,conc,hl',hbase,hh,hr,_⟩:=hI.box l _ hb;rw[hloc] at hl';simp only[Option.some.injEq,Prod.mk.injEq] at hl';obtain⟨rfl,rfl⟩:=hl';refine⟨Z1z hh,T,conc,hh,hr,fun j hj=>?_⟩;have hj':j < ss.length:=by simpa using hj
 obtain⟨u,hu,ru⟩:=hr.2 j _ (Zg8 hj');have hus:u=.string ss[j]:=RepD.str_inv ru;subst hus;refine⟨?_,?_⟩
 ·simp only[World.cell?,hh,Nat.zero_add];simp only[Option.isSome_none,Bool.false_eq_true,if_false,hu];rw[getElem!_pos _ j hj];simp[encStr,bys]
 ·simp[World.frozen?,hh]
theorem Zmd {μ:Mem} {ss rs:List ByteArray} {sp:List C} {conc:Array Value} (hr:RepCs μ (rowBox (ss.map scell) sp) conc) (hl:rs.length=ss.length) :
  RepCs μ (rowBox (rs.map scell) sp) (Go.Sort.putCells encStr 0 (rs.map bys).toArray conc):=by
 refine⟨by simp only[Go.Sort.putCells,Array.size_mapIdx,hr.1,Zb3,hl],fun i c hc=>?_⟩
 by_cases hi:i < rs.length
 ·rw[Zg8 hi] at hc;cases hc;have hic:i < conc.size:=by rw[hr.1,Zb3];omega
  refine⟨.string rs[i],?_,RepD.str _⟩;simp only[Go.Sort.putCells,Array.getElem?_mapIdx,Array.getElem?_eq_getElem hic,Option.map_some];rw[if_pos (by simp;omega),Nat.sub_zero,getElem!_pos _ i (by simpa using hi)];simp[encStr,bys]
 ·rw[Zg7 hl (by omega)] at hc;obtain⟨u,hu,ru⟩:=hr.2 i c hc;refine⟨u,?_,ru⟩;simp only[Go.Sort.putCells,Array.getElem?_mapIdx,hu,Option.map_some];rw[if_neg (by simp;omega)]
theorem Zij {w:World} {b n:Nat} {T:TypeId} {conc:Array Value} {d:Array (List UInt8)} {os:Array Obj} (hb:b < w.heap.size) (hh:w.heap[b]?=some (.cells conc T (0,0))) :
  (Go.Sort.grow (Go.Sort.putRow encStr (Go.Sort.ahead w n) b 0 d) os).heap[b]?=some (.cells (Go.Sort.putCells encStr 0 d conc) T (0,0)) ∧
  ∀ k,k < w.heap.size→k≠b→(Go.Sort.grow (Go.Sort.putRow encStr (Go.Sort.ahead w n) b 0 d) os).heap[k]?=w.heap[k]?:=by
 refine⟨?_,fun k hk hne=>?_⟩
 ·rw[Go.Sort.heap_grow_old _ _ (by simpa using hb)];simp[Go.Sort.putRow,Go.Sort.mapBlock,Go.Sort.ahead,Array.getElem?_modify,hh,Go.Sort.onCells]
 ·rw[Go.Sort.heap_grow_old _ _ (by simpa using hk)];simp[Go.Sort.putRow,Go.Sort.mapBlock,Go.Sort.ahead,Array.getElem?_modify,Ne.symm hne]
theorem Zbx (h:HS) (c:C) (ss:List ByteArray) (hm:MR h 1 c (ss.map scell)) (K:V→HS→Prop)
  (hk:∀ h',MR h' 1 c ((sortB ss).map scell)→Same h h' (labs c)→K (.tup []) h'):HSpec Tryz.prog 63 [.one c] h K:=by
 refine⟨⟨_,Tryz.func63,by kernel_rfl,by kernel_rfl⟩,fun Γ μ w vals hI hv=>?_⟩;obtain⟨u,rfl,hu⟩:=Zi6 hv;have hret:RepV μ (.tup []) (.tuple #[]):=⟨#[],rfl,rfl,fun i x hx=>by simp at hx⟩;have hz:∀ a:Option Addr,ss=[]→Calls Tryz.prog 63 #[.slice a 0 0] w fun e w'=>∃ u v h' μ',e=.returned u∧K v h'∧Inv Γ h' μ' w'∧RepV μ' v u∧Mem.Le μ μ':=fun a hs=>by
  refine (Any.slices_Sort_string_none Tryz.lays190 a 0 w).mono ?_;rintro e w' ⟨rfl,rfl⟩;exact⟨_,_,h,μ,rfl,hk h (by subst hs;exact hm) .refl,hI,hret,.refl μ⟩
 rcases hm.2.2 with ⟨h1,rfl | rfl⟩ | ⟨l,cap,sp,rfl,hb,hcap⟩
 ·obtain rfl:u=.slice none 0 0:=hu;exact hz _ (by simpa using h1)
 ·obtain⟨a,rfl⟩:∃ a,u=.slice a 0 0:=hu;exact hz _ (by simpa using h1)
 ·obtain⟨b,k,hloc,rfl,hn⟩:∃ b k,μ.loc l=some (some b,k)∧u=.slice (some ⟨b,0,none⟩) (ss.map scell).length cap∧(ss.map scell).length≤cap:=hu;obtain⟨hbl,T,conc,hh,hr,hH⟩:=Zma hI hb hloc;have hlim:=hm.2.1;have e1:(ss.map scell).length=(ss.map bys).length:=by simp
  rw[e1];refine (Any.slices_Sort_string Tryz.lays190 b 0 cap (ss.map bys) w hH hbl (by simp only[List.length_map] at hlim ⊢;have:LIM=2097152:=rfl;omega)).mono ?_;rintro e w' ⟨rfl,n,os,rfl⟩;have hs2:((ss.map bys).mergeSort fun x y=>decide (x≤y))=(sortB ss).map bys:=by
   simp only[sortB,List.map_map,Zhe];exact (List.map_id _).symm
  rw[hs2];obtain⟨g1,g2⟩:=Zij (n:=n) (d:=((sortB ss).map bys).toArray) (os:=os) hbl hh;refine⟨_,_,h.setBox l (rowBox ((sortB ss).map scell) sp),μ,rfl,hk _ ?_ (Same.refl.setBox (.inl (by simp[labs]))),Zmn hI hb hloc rfl rfl rfl (by simp) g2 g1 (Zmd hr (Z8z ss)),hret,.refl μ⟩;refine⟨Z90,by simpa[Z8z] using hlim,.inr ⟨l,cap,sp,by simp[Z8z],by simp[HS.setBox],?_⟩⟩;rw[Zb3] at hcap ⊢;rw[Z8z];exact hcap
theorem Zgt (xs:List ByteArray):(compB xs).length≤xs.length:=by
 have:=Zhy (xs.map bys)
 simpa[compB] using this
theorem Z9x (h:HS) (c:C) (ss:List ByteArray) (hm:MR h 1 c (ss.map scell)) (K:V→HS→Prop)
  (hk:∀ c' h',MR h' 1 c' ((compB ss).map scell)→Same h h' (labs c)→(∀ l ∈ labs c',l ∈ labs c)→K (.one c') h'):HSpec Tryz.prog 64 [.one c] h K:=by
 refine⟨⟨_,Tryz.func64,by kernel_rfl,by kernel_rfl⟩,fun Γ μ w vals hI hv=>?_⟩;obtain⟨u,rfl,hu⟩:=Zi6 hv;have hz:∀ a:Option Addr,ss=[]→RepV μ (.one c) (.slice a 0 0)→Calls Tryz.prog 64 #[.slice a 0 0] w fun e w'=>∃ u v h' μ',e=.returned u∧K v h'∧Inv Γ h' μ' w'∧RepV μ' v u∧Mem.Le μ μ':=fun a hs hr=>by
  refine (Any.slices_Compact_string_empty Tryz.lays194 a 0 w).mono ?_;rintro e w' ⟨rfl,rfl⟩;exact⟨_,_,h,μ,rfl,hk c h (by subst hs;exact hm) .refl fun _ h=>h,hI,hr,.refl μ⟩
 rcases hm.2.2 with ⟨h1,rfl | rfl⟩ | ⟨l,cap,sp,rfl,hb,hcap⟩
 ·have hu0:=hu;obtain rfl:u=.slice none 0 0:=hu;exact hz _ (by simpa using h1) hu0
 ·obtain⟨a,rfl⟩:∃ a,u=.slice a 0 0:=hu;exact hz _ (by simpa using h1) ⟨a,rfl⟩
 ·obtain⟨b,k,hloc,rfl,hn⟩:∃ b k,μ.loc l=some (some b,k)∧u=.slice (some ⟨b,0,none⟩) (ss.map scell).length cap∧(ss.map scell).length≤cap:=hu;obtain⟨hbl,T,conc,hh,hr,hH⟩:=Zma hI hb hloc;have hlim:=hm.2.1;have e1:(ss.map scell).length=(ss.map bys).length:=by simp
  rw[e1] at hn ⊢;refine (Any.slices_Compact_string Tryz.lays194 b 0 cap (ss.map bys) w hH (by simp only[List.length_map] at hlim ⊢;have:LIM=2097152:=rfl;omega) hn).mono ?_;rintro e w' ⟨rfl,n,rfl⟩;have hcl:=Zgt ss;have hcl2:(Lib.compact (ss.map bys)).length=(compB ss).length:=by simp[compB]
  have hs2:Lib.compact (ss.map bys)++List.replicate ((ss.map bys).length - (Lib.compact (ss.map bys)).length) []=(compB ss++List.replicate (ss.length - (compB ss).length) (ofBys [])).map bys:=by
   rw[List.map_append,List.map_replicate,hcl2,List.length_map]
   congr 1
   simp only[compB,List.map_map];exact (List.map_id _).symm
  rw[hs2];generalize hrs:compB ss++List.replicate (ss.length - (compB ss).length) (ofBys [])=rs;have hrl:rs.length=ss.length:=by rw[← hrs];simp;omega
  obtain⟨g1,g2⟩:=Zij (n:=n) (d:=(rs.map bys).toArray) (os:=#[]) hbl hh;rw[Go.Sort.grow_empty] at g1 g2;refine⟨_,.one (.mrow l 0 (compB ss).length cap),h.setBox l (rowBox (rs.map scell) sp),μ,rfl,hk _ _ ?_ (Same.refl.setBox (.inl (by simp[labs]))) (by simp[labs]),Zmn hI hb hloc rfl rfl rfl (by simp) g2 g1 (Zmd hr hrl),?_,.refl μ⟩
  ·have hx:rowBox (rs.map scell) sp=rowBox ((compB ss).map scell) (((List.replicate (ss.length - (compB ss).length) (ofBys [])).map scell).flatten++sp):=by
    rw[← hrs];simp[rowBox]
   refine⟨Z90,by simp only[List.length_map] at hlim ⊢;omega,.inr ⟨l,cap,_,by simp,(Z5z.trans (if_pos rfl)).trans (congrArg some hx),?_⟩⟩;rw[← hx];rw[Zb3] at hcap ⊢;rw[hrl];exact hcap
  ·refine⟨b,k,hloc,by rw[hcl2],?_⟩;simp only[List.length_map] at hn;omega
end
section
open Go Go.Am
theorem Z98 (h:HS) (c:C) (xs:List (List C)) (hr:RowAt h 4 c xs) (K:V→HS→Prop)
  (hk:∀ c' h',MR h' 4 c' xs→Same h h' []→(∀ l ∈ labs c',h.ep≤l.1∧l.1 < h'.ep)→BoxLe h h'→K (.one c') h') :
  HSpec Tryz.prog 52 [.one c] h K:=by
 refine HSpec.good Tryz.func52 rfl (by kernel_rfl) fun hg=>?_;refine HSpec.of_vc Tryz.func52 rfl (by kernel_rfl) (n:=8) rfl rfl (by simp) ?_;simp;refine Zbv Z8y hr (fun h1=>?_) ?_
 ·subst h1;simp;exact hk _ _ MR.nil .refl (by simp[labs]) (BoxLe.refl h)
 ·simp;refine Z9o (by simp) ?_;simp;refine Zcb Z8y (by kernel_rfl) (by decide) (by decide) hr (fun c' h' hm hs hl=>?_);simp;exact hk _ _ hm hs hl (hs.boxLe hg)
theorem Z9y (h:HS) (c:C) (xs:List (List C)) (hr:RowAt h 3 c xs) (K:V→HS→Prop)
  (hk:∀ c' h',MR h' 3 c' xs→Same h h' []→(∀ l ∈ labs c',h.ep≤l.1∧l.1 < h'.ep)→BoxLe h h'→K (.one c') h') :
  HSpec Tryz.prog 49 [.one c] h K:=by
 refine HSpec.good Tryz.func49 rfl (by kernel_rfl) fun hg=>?_;refine HSpec.of_vc Tryz.func49 rfl (by kernel_rfl) (n:=8) rfl rfl (by simp) ?_;simp;refine Zbv Zbn hr (fun h1=>?_) ?_
 ·subst h1;simp;exact hk _ _ MR.nil .refl (by simp[labs]) (BoxLe.refl h)
 ·simp;refine Z9o (by simp) ?_;simp;refine Zcb Zbn (by kernel_rfl) (by decide) (by decide) hr (fun c' h' hm hs hl=>?_);simp;exact hk _ _ hm hs hl (hs.boxLe hg)
theorem Zai (h:HS) (c:C) (xs:List (List C)) (i j:Nat) (hm:MR h 1 c xs) (hij:i≤j) (hj:j≤xs.length) (K:V→HS→Prop)
  (hk:∀ c' h',MR h' 1 c' (xs.take i++xs.drop j)→(∀ l,l ∉ labs c→h'.box l=h.box l)→h'.ep=h.ep→h'.arr=h.arr→labs c'=labs c→K (.one c') h') :
  HSpec Tryz.prog 125 [.one c,.one (.d (.int .i64 i)),.one (.d (.int .i64 j))] h K:=by
 obtain⟨hall,hlim,h1 | ⟨l,cap,sp,rfl,hb,hcap⟩⟩:=hm
 ·obtain⟨rfl,hc⟩:=h1;obtain rfl:j=0:=by simpa using hj
  obtain rfl:i=0:=by omega
  rcases hc with rfl | rfl
  ·refine HSpec.of_vc Tryz.func125 rfl (by kernel_rfl) (n:=33) rfl rfl (by simp) ?_;simp;exact hk _ _ (by simpa using MR.nil) (fun _ _=>rfl) rfl rfl rfl
  ·refine HSpec.of_vc Tryz.func125 rfl (by kernel_rfl) (n:=33) rfl rfl (by simp) ?_;simp;exact hk _ _ (by simpa using MR.z) (fun _ _=>rfl) rfl rfl rfl
 ·have hlen:xs.length≤cap:=by
   have h1:=Z04 (sp:=sp) hall;omega
  have hi:i≤xs.length:=by omega
  refine HSpec.of_vc Tryz.func125 rfl (by kernel_rfl) (n:=33) rfl rfl (by simp) ?_;simp;refine Z1l ⟨⟨hij,hj⟩,hlen⟩ (fun _=>?_) (fun _=>?_)
  all_goals
   simp;refine Z6b (fun he=>?_) (fun hne=>?_)
   ·simp;have hij':i=j:=by simp at he;omega
    subst hij';refine hk _ _ ⟨?_,?_,.inr ⟨l,cap,sp,?_,?_,?_⟩⟩ (fun _ _=>rfl) rfl rfl rfl<;>simp[*]
   ·simp;have hlt:i < j:=by
     have:(i:Int)≠j:=by simpa using hne
     omega
    have hjc:j≤cap:=by omega
    have hic:i≤cap:=by omega
    have hc0:0 < cap:=by omega
    refine Wait.of (SWP.draw (Plan.then_ [0,1,2,3,4,5,6,7] .done) follows (by kernel_rfl) ?_);simp[Plan.then_,vcPlan,Z01,Z00,callKind,hjc,hic,hlen,hj,hc0];have fin:∀ (sp1:List C) (h1:HS),(rowBox (xs.take i++xs.drop j) sp1).length=cap * 1→h1.box l=some (rowBox (xs.take i++xs.drop j) sp1)→(∀ k,k≠l→h1.box k=h.box k)→h1.ep=h.ep→h1.arr=h.arr →
      K (.one (.mrow l 0 (i+(xs.length - j)) cap)) h1:=fun sp1 h1 e1 e2 e3 e4 e5=>
     hk _ _ ⟨AllC.append.2 ⟨hall.take,hall.drop⟩,by simp at hlim ⊢;omega,.inr ⟨l,cap,sp1,by simp;omega,e2,e1⟩⟩ (fun k hkl=>e3 k (by simpa[labs] using hkl)) e4 e5 rfl
    have happ:appHdr h 1 (.mrow l 0 i cap)=some (i,cap,(xs.take i).flatten,some (l,0)):=by
     have:=Z4f (off:=0) (k:=i) (cap:=cap) hall hb (by omega)
     simp only[Nat.zero_mul,List.drop_zero] at this;simp only[appHdr,this]
    have hmul:∀ a b:Nat,a≤b→a * 1≤b * 1:=fun a b h=>by omega
    have hxt:(xs.drop j).take (xs.length - j)=xs.drop j:=List.take_of_length_le (by simp);generalize hm:i+(xs.length - j)=m at *;have hm2:m≤xs.length:=by omega
    have hm3:m < xs.length:=by omega
    have hm4:m < cap:=by omega
    have hyl:(xs.take i++xs.drop j).length=m:=by simp;omega
    have hya:AllC 1 (xs.take i++xs.drop j):=AllC.append.2 ⟨hall.take,hall.drop⟩;have hzl:∀ k:Nat,(List.replicate k [C.nil]).flatten.length=k * 1:=fun k=>by simp[List.length_flatten]
    by_cases hjc2:j < cap
    ·simp[hjc2];refine Z59 Z45 happ (by have:=Z4f (off:=j) (k:=xs.length - j) (cap:=cap - j) hall hb (by omega);rw[hxt] at this;first | exact this | simpa using this) (m:=xs.length - j) rfl (by simp) (by decide) (by decide) (by simp at hlim ⊢;omega) ?_ ?_ (fun h0=>?_) (fun h0 hle=>?_) (fun h0 hgt=>?_)
     ·rw[hall.drop.flatten];simp
     ·rw[hall.take.flatten];simp;omega
     ·have hj2:xs.drop j=[]:=List.drop_eq_nil_of_le (by omega);obtain rfl:i=m:=by omega
      have hb2:∃ sp1,h.box l=some (rowBox (xs.take i++xs.drop j) sp1)∧(rowBox (xs.take i++xs.drop j) sp1).length=cap * 1:=by
       refine⟨(xs.drop i).flatten++sp,?_,?_⟩
       ·rw[hb,hj2];simp[rowBox,← List.append_assoc,← List.flatten_append]
       ·rw[← hcap,hj2];simp[rowBox,← List.append_assoc,← List.flatten_append]
      obtain⟨sp1,hb2,hl2⟩:=hb2;simp[hjc2,hlen,hm2,hm3,hm4];refine Z2g Z45 Zf8 hb2 (by decide) (by rw[hl2];omega) ?_;simp;have e2:∀ vs,Z03 (rowBox (xs.take i++xs.drop j) sp1) (i * 1) vs=rowBox (xs.take i++xs.drop j) (Z03 sp1 0 vs):=fun vs=>by have:=Z46 (sp:=sp1) (vs:=vs) hya;rw[hyl] at this;exact this
      try simp only[Nat.mul_one] at e2
      rw[e2];refine fin _ _ ?_ (by simp;rfl) (fun k hk=>by simp[hk]) (by simp) (by simp[HS.setBox]);rw[Z04 hya,Z06 (by rw[Z04 hya,hyl] at hl2;first | (rw[hzl];omega) | (simp only[List.length_replicate];omega)),← Z04 (sp:=sp1) hya,hl2]
     ·rintro l' off he';simp only[Option.some.injEq,Prod.mk.injEq] at he';obtain⟨rfl,rfl⟩:=he';refine⟨_,hb,by rw[hcap];omega,?_⟩;rw[Nat.zero_add,Zbr hall hall.drop hi,hm];have hl2:(rowBox (xs.take i++xs.drop j) (List.drop ((i+(xs.drop j).length) * 1) (rowBox xs sp))).length=cap * 1:=by
       rw[Z04 hya,hyl,List.length_drop,hcap,List.length_drop];omega
      generalize List.drop ((i+(xs.drop j).length) * 1) (rowBox xs sp)=sp1 at *;simp[hjc2,hlen,hm2,hm3,hm4];refine Z2g Z45 Zf8 (by simp;rfl) (by decide) (by rw[hl2];omega) ?_;simp;have e2:∀ vs,Z03 (rowBox (xs.take i++xs.drop j) sp1) (m * 1) vs=rowBox (xs.take i++xs.drop j) (Z03 sp1 0 vs):=fun vs=>by have:=Z46 (sp:=sp1) (vs:=vs) hya;rw[hyl] at this;exact this
      try simp only[Nat.mul_one] at e2
      rw[e2];refine fin _ _ ?_ (by simp;rfl) (fun k hk=>by simp[hk]) (by simp) (by simp[HS.setBox]);rw[Z04 hya,Z06 (by rw[Z04 hya,hyl] at hl2;first | (rw[hzl];omega) | (simp only[List.length_replicate];omega)),← Z04 (sp:=sp1) hya,hl2]
     ·omega
    ·simp[hjc2];have hj2:xs.drop j=[]:=List.drop_eq_nil_of_le (by omega);refine Z59 Z45 happ (new:=[]) (m:=0) (by simp[Z0i]) rfl (by simp) (by decide) (by decide) (by simp at hlim ⊢;omega) rfl ?_ (fun h0=>?_) (fun h0=>absurd h0 (by omega)) (fun h0=>absurd h0 (by omega))
     ·rw[hall.take.flatten];simp;omega
     ·obtain rfl:i=m:=by omega
      have hb2:∃ sp1,h.box l=some (rowBox (xs.take i++xs.drop j) sp1)∧(rowBox (xs.take i++xs.drop j) sp1).length=cap * 1:=by
       refine⟨(xs.drop i).flatten++sp,?_,?_⟩
       ·rw[hb,hj2];simp[rowBox,← List.append_assoc,← List.flatten_append]
       ·rw[← hcap,hj2];simp[rowBox,← List.append_assoc,← List.flatten_append]
      obtain⟨sp1,hb2,hl2⟩:=hb2;simp[hjc2,hlen,hm2,hm3,hm4];refine Z2g Z45 Zf8 hb2 (by decide) (by rw[hl2];omega) ?_;simp;have e2:∀ vs,Z03 (rowBox (xs.take i++xs.drop j) sp1) (i * 1) vs=rowBox (xs.take i++xs.drop j) (Z03 sp1 0 vs):=fun vs=>by have:=Z46 (sp:=sp1) (vs:=vs) hya;rw[hyl] at this;exact this
      try simp only[Nat.mul_one] at e2
      rw[e2];refine fin _ _ ?_ (by simp;rfl) (fun k hk=>by simp[hk]) (by simp) (by simp[HS.setBox]);rw[Z04 hya,Z06 (by rw[Z04 hya,hyl] at hl2;first | (rw[hzl];omega) | (simp only[List.length_replicate];omega)),← Z04 (sp:=sp1) hya,hl2]
theorem Z2t (h:HS) (c:C) (xs:List (List C)) (hr:RowAt h 1 c xs) (K:V→HS→Prop)
  (hk:∀ c' h',MR h' 1 c' xs→Same h h' []→(∀ l ∈ labs c',h.ep≤l.1∧l.1 < h'.ep)→BoxLe h h'→K (.one c') h') :
  HSpec Tryz.prog 94 [.one c] h K:=by
 refine HSpec.good Tryz.func94 rfl (by kernel_rfl) fun hg=>?_;refine HSpec.of_vc Tryz.func94 rfl (by kernel_rfl) (n:=8) rfl rfl (by simp) ?_;simp;refine Zbv Zaa hr (fun h1=>?_) ?_
 ·subst h1;simp;exact hk _ _ MR.nil .refl (by simp[labs]) (BoxLe.refl h)
 ·simp;refine Z9o (by simp) ?_;simp;refine Zcb Zaa (by kernel_rfl) (by decide) (by decide) hr (fun c' h' hm hs hl=>?_);simp;exact hk _ _ hm hs hl (hs.boxLe hg)
theorem Z97 (h:HS) (c:C) (xs:List (List C)) (hr:RowAt h 3 c xs) (K:V→HS→Prop)
  (hk:∀ c' h',MR h' 3 c' xs→Same h h' []→(∀ l ∈ labs c',h.ep≤l.1∧l.1 < h'.ep)→BoxLe h h'→K (.one c') h') :
  HSpec Tryz.prog 133 [.one c] h K:=by
 refine HSpec.good Tryz.func133 rfl (by kernel_rfl) fun hg=>?_;refine HSpec.of_vc Tryz.func133 rfl (by kernel_rfl) (n:=8) rfl rfl (by simp) ?_;simp;refine Zbv Z8x hr (fun h1=>?_) ?_
 ·subst h1;simp;exact hk _ _ MR.nil .refl (by simp[labs]) (BoxLe.refl h)
 ·simp;refine Z9o (by simp) ?_;simp;refine Zcb Z8x (by kernel_rfl) (by decide) (by decide) hr (fun c' h' hm hs hl=>?_);simp;exact hk _ _ hm hs hl (hs.boxLe hg)
theorem Z7p (h:HS) (c:C) (xs:List (List C)) (hr:RowAt h 7 c xs) (K:V→HS→Prop)
  (hk:∀ c' h',MR h' 7 c' xs→Same h h' []→(∀ l ∈ labs c',h.ep≤l.1∧l.1 < h'.ep)→BoxLe h h'→K (.one c') h') :
  HSpec Tryz.prog 92 [.one c] h K:=by
 refine HSpec.good Tryz.func92 rfl (by kernel_rfl) fun hg=>?_;refine HSpec.of_vc Tryz.func92 rfl (by kernel_rfl) (n:=8) rfl rfl (by simp) ?_;simp;refine Zbv Z6n hr (fun h1=>?_) ?_
 ·subst h1;simp;exact hk _ _ MR.nil .refl (by simp[labs]) (BoxLe.refl h)
 ·simp;refine Z9o (by simp) ?_;simp;refine Zcb Z6n (by kernel_rfl) (by decide) (by decide) hr (fun c' h' hm hs hl=>?_);simp;exact hk _ _ hm hs hl (hs.boxLe hg)
theorem Z6k (h:HS) (c:C) (xs:List (List C)) (ts:List (List D)) (g:FuncId) (caps:List Cap) (dss:List (List D)) (p:List D→Bool) (i0:Int) (hm:MR h 7 c xs) (hlab:∀ k ∈ labs c,k.1 < h.ep) (hl:xs.length=ts.length)
  (ht:∀ t ∈ ts,t.length=7) (hf:∀ h',Same h h' (labs c)→∀ (i:Nat) (x:List C) (t:List D),xs[i]?=some x→ts[i]?=some t→FrzCs h' x t)
  (hcv:∀ h',Same h h' (labs c)→LendVs h' (caps.map capV) (capsOf dss)) (hcf:LendC h (.fn g caps) (.fn g dss))
  (hp:∀ t ∈ ts,PSpec Tryz.prog g (.agg t::capsOf dss) (.one (.d (.bool (p t)))))
  (hidx:PSpec Tryz.prog 232 [.one (.d (.sl ts)),.one (.fn g dss)] (.one (.d (.int .i64 i0)))) (hi0:i0=match ts.findIdx? p with | some i=>(i:Int) | none=>-1) (K:V→HS→Prop)
  (hk:∀ c' h',MR h' 7 c' (keep p xs ts)→Same h h' (labs c)→labs c'=labs c→K (.one c') h') :
  HSpec Tryz.prog 212 [.one c,.one (.fn g caps)] h K:=by
 refine HSpec.of_vc Tryz.func212 rfl (by kernel_rfl) (n:=42) rfl rfl (by simp) ?_;simp;refine Z02 (HSpec.of_lend hidx ⟨.one (.frz (hm.frz hl ht (hf h .refl))),.one hcf,trivial⟩ rfl ?_);simp;refine Z6b (fun he=>?_) (fun hne=>?_)
 ·simp;have hall:∀ t ∈ ts,p t=false:=by
   intro t htm;cases hfi:ts.findIdx? p with
   | none=>simpa using List.findIdx?_eq_none_iff.1 hfi t htm
   | some i=>rw[hi0,hfi] at he;simp at he
  exact hk _ _ (by rw[Z8e hl hall];exact hm.frame fun _ _=>rfl) (Same.refl.next) rfl
 ·obtain⟨i,hfi,rfl⟩:∃ i,ts.findIdx? p=some i∧i0=(i:Int):=by
   cases hfi:ts.findIdx? p with
   | none=>rw[hi0,hfi] at hne;simp at hne
   | some i=>rw[hfi] at hi0;exact⟨i,rfl,hi0⟩
  obtain⟨hit,hpi,hbef⟩:=List.findIdx?_eq_some_iff_getElem.1 hfi;obtain⟨l,cap,sp,rfl,hb,hcap⟩:=hm.block (by omega);have hlim:xs.length≤2097152:=hm.2.1;have hall:=hm.1;have hlen:xs.length≤cap:=by
   have h1:=Z04 (sp:=sp) hall;omega
  have hw0:IntKind.i64.wrap ((i:Int)+1)=(i:Int)+1:=IntWalk.i64_in _ (by omega);have hk0:keep p (xs.take (i+1)) (ts.take (i+1))=xs.take i:=by
   rw[Z78 (x:=xs[i]'(by omega)) (t:=ts[i]) (List.getElem?_eq_getElem _) (List.getElem?_eq_getElem _),if_pos hpi];refine Z8e (by simp;omega) (fun t htm=>?_);obtain⟨j,hj,rfl⟩:=List.getElem_of_mem htm;simp only[List.length_take] at hj;rw[List.getElem_take];simpa using hbef j (by omega)
  simp[hw0];refine Wait.rounds (fun n e h'=>∃ (a j:Nat) (ys:List (List C)),n=xs.length - j∧a < j∧j≤xs.length∧ys.length=xs.length∧AllC 7 ys∧ys.take a=keep p (xs.take j) (ts.take j)∧ys.drop j=xs.drop j ∧
   e.n=42∧e.get 0=.one (.mrow l 0 xs.length cap)∧e.get 1=.one (.fn g caps)∧e.get 5=.one (.d (.int .i64 (a:Int)))∧e.get 6=.one (.d (.int .i64 (j:Int)))∧Same h h' [l]∧∃ sp',h'.box l=some (rowBox ys sp')∧(rowBox ys sp').length=cap * 7) (xs.length - (i+1))
   ⟨i,i+1,xs,rfl,by omega,by omega,rfl,hall,by rw[hk0],rfl,by simp,by simp,by simp,by simp,by simp,Same.refl.next,sp,hb,hcap⟩ ?_
  rintro n e h' ⟨a,j,ys,rfl,haj,hj,hyl,hya,hyk,hyd,hn,h0,h1,h5,h6,hs,sp',hb',hl'⟩;simp[h0,h1,h5,h6,hn];refine Z10 (fun hlt=>?_) (fun hge=>?_)
  ·have hwj:IntKind.i64.wrap ((j:Int)+1)=(j:Int)+1:=IntWalk.i64_in _ (by omega);have hwa:IntKind.i64.wrap ((a:Int)+1)=(a:Int)+1:=IntWalk.i64_in _ (by omega);have hjt:j < ts.length:=by omega
   obtain⟨u0,u1,u2,u3,u4,u5,u6,hxj⟩:∃ u0 u1 u2 u3 u4 u5 u6,xs[j]?=some [u0,u1,u2,u3,u4,u5,u6]:=by
    have h1:xs[j]?=some xs[j]:=List.getElem?_eq_getElem hlt;have h2:=hall.get h1
    match hx:xs[j],h2 with
    | [u0,u1,u2,u3,u4,u5,u6],_=>exact⟨u0,u1,u2,u3,u4,u5,u6,by rw[h1,hx]⟩
   obtain⟨tj,htj⟩:∃ t,ts[j]?=some t:=⟨_,List.getElem?_eq_getElem hjt⟩;have hyj:ys[j]?=some [u0,u1,u2,u3,u4,u5,u6]:=by
    have h1:(ys.drop j)[0]?=(xs.drop j)[0]?:=by rw[hyd]
    simpa[hxj] using h1
   have hrd:=Zad (sp:=sp') hya hyj;have hkt:=Z78 (p:=p) hxj htj;have hne':l≠(h'.ep,112):=by
    have h1:=hlab l (by simp[labs]);have h2:=hs.1;rintro rfl;simp at h1;omega
   simp[h0,h1,h5,h6,hn,hlt,hb',hrd];have hs2:Same h ((h'.setBox (h'.ep,112) [C.d (D.str ByteArray.empty),C.d (D.int IntKind.i64 0),C.d (D.str ByteArray.empty),C.d (D.int IntKind.i64 0),C.d (D.int IntKind.i64 0),C.d (D.int IntKind.i64 0),C.d (D.str ByteArray.empty)]).next.setBox (h'.ep,112) [u0,u1,u2,u3,u4,u5,u6]) [l]:=(Same.setBox (Same.setBox hs (.inr hs.1)).next (.inr hs.1));refine Z02 (HSpec.of_lend (hp tj (List.mem_of_getElem? htj)) ⟨.agg (hf _ hs2 j _ _ hxj htj),hcv _ hs2⟩ rfl ?_);simp[h0,h1,h5,h6,hn];cases hpt:p tj with
   | true=>
     rw[hpt,if_pos rfl] at hkt;simp[h0,h1,h5,h6,hn,hwj];refine Back.of (n':=xs.length - (j+1)) (by omega) ⟨a,j+1,ys,rfl,by omega,by omega,hyl,hya,by rw[hkt,hyk],by rw[← List.drop_drop,hyd,List.drop_drop],by simp[hn],by simp[h0],by simp[h1],by simp[h5],by simp,hs2.next,sp',by simp[hne',hb'],hl'⟩
   | false=>
     rw[hpt] at hkt;simp only[Bool.false_eq_true,if_false] at hkt;have haj2:a < xs.length:=by omega
     have hst:=Z60 (sp:=sp') (k:=a) (f:=0) (vs:=[u0,u1,u2,u3,u4,u5,u6]) (x:=ys[a]'(by omega)) hya (List.getElem?_eq_getElem _) (by simp);have hlen2:=Z6o (sp:=sp') (k:=a) hya (by omega);have hxa:(ys[a]'(by omega)).length=7:=hya.get (List.getElem?_eq_getElem _);have hsc:Z03 (ys[a]'(by omega)) 0 [u0,u1,u2,u3,u4,u5,u6]=[u0,u1,u2,u3,u4,u5,u6]:=by
      match hx:ys[a]'(by omega),hxa with
      | [w0,w1,w2,w3,w4,w5,w6],_=>simp
     rw[hsc] at hst;simp only[Nat.add_zero] at hst;simp[h0,h1,h5,h6,hn,hwj,haj2,hne',hb',hwa];refine⟨hlen2,?_⟩;refine Back.of (n':=xs.length - (j+1)) (by omega) ⟨a+1,j+1,ys.set a [u0,u1,u2,u3,u4,u5,u6],rfl,by omega,by omega,by simpa using hyl,hya.set rfl,?_,?_,by simp[hn],by simp[h0],by simp[h1],by simp,by simp,(hs2.next).setBox (.inl (by simp)),sp',by simp[hst],?_⟩
     ·rw[hkt,← hyk,Z88 (by omega)]
     ·rw[List.drop_set_of_lt (by omega),← List.drop_drop,hyd,List.drop_drop]
     ·rw[Z04 (hya.set rfl),List.length_set,← Z04 (sp:=sp') hya,hl']
  ·obtain rfl:j=xs.length:=by omega
   have hyk2:ys.take a=keep p xs ts:=by
    rw[hyk,List.take_of_length_le (Nat.le_refl _),List.take_of_length_le (by omega)]
   have hac:a < cap:=by omega
   have hale:a≤xs.length:=by omega
   have hyal:(ys.take a).length=a:=by simp;omega
   have hbx:rowBox ys sp'=rowBox (ys.take a) ((ys.drop a).flatten++sp'):=by
    simp only[rowBox,← List.append_assoc,← List.flatten_append,List.take_append_drop]
   have hzl:∀ k:Nat,(List.replicate k [C.d (D.str ByteArray.empty),C.d (D.int IntKind.i64 0),C.d (D.str ByteArray.empty),C.d (D.int IntKind.i64 0),C.d (D.int IntKind.i64 0),C.d (D.int IntKind.i64 0),C.d (D.str ByteArray.empty)]).flatten.length=k * 7:=fun k=>by simp[List.length_flatten]
   have hcp:∀ vs,Z03 (rowBox ys sp') (a * 7) vs=rowBox (keep p xs ts) (Z03 ((ys.drop a).flatten++sp') 0 vs):=fun vs=>by
    have:=Z46 (sp:=(ys.drop a).flatten++sp') (vs:=vs) (hya.take (k:=a))
    rw[hyal,← hbx,hyk2] at this;exact this
   try simp only[Nat.mul_one] at hcp
   simp[h0,h1,h5,h6,hn];refine Z1l ⟨hale,hlen⟩ (fun _=>?_) (fun h=>absurd hac h);simp[h0,h1,h5,h6,hn];refine Z2g Z6n Zaz hb' (by decide) (by rw[hl'];omega) ?_;simp[h0,h1,h5,h6,hn,hlen,hac];refine Z1l (by omega) (fun _=>?_) (fun h=>absurd (by omega) h);simp[hn];rw[hcp];have hln:∀ vs:List C,a * 7+vs.length≤cap * 7→(rowBox (keep p xs ts) (Z03 ((ys.drop a).flatten++sp') 0 vs)).length=cap * 7:=fun vs hvs=>by
    rw[← hcp]
    try simp only[Nat.mul_one] at hvs ⊢
    rw[Z06 (by omega),hl']
   refine hk (.mrow l 0 a cap) _ ⟨hall.keep,?_,.inr ⟨l,cap,Z03 ((ys.drop a).flatten++sp') 0 _,?_,Z5z.trans (if_pos rfl),?_⟩⟩ (hs.setBox (l:=l) (.inl (by simp))) rfl
   ·have:=Zfj (p:=p) (xs:=xs) (ts:=ts);have:=hm.2.1;omega
   ·rw[← hyk2,hyal]
   ·refine hln _ ?_
    first | (rw[hzl];omega) | (simp only[List.length_replicate];omega)
theorem Z6j (h:HS) (c:C) (xs:List (List C)) (ts:List (List D)) (g:FuncId) (caps:List Cap) (dss:List (List D)) (p:List D→Bool) (i0:Int) (hm:MR h 3 c xs) (hlab:∀ k ∈ labs c,k.1 < h.ep) (hl:xs.length=ts.length)
  (ht:∀ t ∈ ts,t.length=3) (hf:∀ h',Same h h' (labs c)→∀ (i:Nat) (x:List C) (t:List D),xs[i]?=some x→ts[i]?=some t→FrzCs h' x t)
  (hcv:∀ h',Same h h' (labs c)→LendVs h' (caps.map capV) (capsOf dss)) (hcf:LendC h (.fn g caps) (.fn g dss))
  (hp:∀ t ∈ ts,PSpec Tryz.prog g (.agg t::capsOf dss) (.one (.d (.bool (p t)))))
  (hidx:PSpec Tryz.prog 128 [.one (.d (.sl ts)),.one (.fn g dss)] (.one (.d (.int .i64 i0)))) (hi0:i0=match ts.findIdx? p with | some i=>(i:Int) | none=>-1) (K:V→HS→Prop)
  (hk:∀ c' h',MR h' 3 c' (keep p xs ts)→Same h h' (labs c)→labs c'=labs c→K (.one c') h') :
  HSpec Tryz.prog 210 [.one c,.one (.fn g caps)] h K:=by
 refine HSpec.of_vc Tryz.func210 rfl (by kernel_rfl) (n:=42) rfl rfl (by simp) ?_;simp;refine Z02 (HSpec.of_lend hidx ⟨.one (.frz (hm.frz hl ht (hf h .refl))),.one hcf,trivial⟩ rfl ?_);simp;refine Z6b (fun he=>?_) (fun hne=>?_)
 ·simp;have hall:∀ t ∈ ts,p t=false:=by
   intro t htm;cases hfi:ts.findIdx? p with
   | none=>simpa using List.findIdx?_eq_none_iff.1 hfi t htm
   | some i=>rw[hi0,hfi] at he;simp at he
  exact hk _ _ (by rw[Z8e hl hall];exact hm.frame fun _ _=>rfl) (Same.refl.next) rfl
 ·obtain⟨i,hfi,rfl⟩:∃ i,ts.findIdx? p=some i∧i0=(i:Int):=by
   cases hfi:ts.findIdx? p with
   | none=>rw[hi0,hfi] at hne;simp at hne
   | some i=>rw[hfi] at hi0;exact⟨i,rfl,hi0⟩
  obtain⟨hit,hpi,hbef⟩:=List.findIdx?_eq_some_iff_getElem.1 hfi;obtain⟨l,cap,sp,rfl,hb,hcap⟩:=hm.block (by omega);have hlim:xs.length≤2097152:=hm.2.1;have hall:=hm.1;have hlen:xs.length≤cap:=by
   have h1:=Z04 (sp:=sp) hall;omega
  have hw0:IntKind.i64.wrap ((i:Int)+1)=(i:Int)+1:=IntWalk.i64_in _ (by omega);have hk0:keep p (xs.take (i+1)) (ts.take (i+1))=xs.take i:=by
   rw[Z78 (x:=xs[i]'(by omega)) (t:=ts[i]) (List.getElem?_eq_getElem _) (List.getElem?_eq_getElem _),if_pos hpi];refine Z8e (by simp;omega) (fun t htm=>?_);obtain⟨j,hj,rfl⟩:=List.getElem_of_mem htm;simp only[List.length_take] at hj;rw[List.getElem_take];simpa using hbef j (by omega)
  simp[hw0];refine Wait.rounds (fun n e h'=>∃ (a j:Nat) (ys:List (List C)),n=xs.length - j∧a < j∧j≤xs.length∧ys.length=xs.length∧AllC 3 ys∧ys.take a=keep p (xs.take j) (ts.take j)∧ys.drop j=xs.drop j ∧
   e.n=42∧e.get 0=.one (.mrow l 0 xs.length cap)∧e.get 1=.one (.fn g caps)∧e.get 5=.one (.d (.int .i64 (a:Int)))∧e.get 6=.one (.d (.int .i64 (j:Int)))∧Same h h' [l]∧∃ sp',h'.box l=some (rowBox ys sp')∧(rowBox ys sp').length=cap * 3) (xs.length - (i+1))
   ⟨i,i+1,xs,rfl,by omega,by omega,rfl,hall,by rw[hk0],rfl,by simp,by simp,by simp,by simp,by simp,Same.refl.next,sp,hb,hcap⟩ ?_
  rintro n e h' ⟨a,j,ys,rfl,haj,hj,hyl,hya,hyk,hyd,hn,h0,h1,h5,h6,hs,sp',hb',hl'⟩;simp[h0,h1,h5,h6,hn];refine Z10 (fun hlt=>?_) (fun hge=>?_)
  ·have hwj:IntKind.i64.wrap ((j:Int)+1)=(j:Int)+1:=IntWalk.i64_in _ (by omega);have hwa:IntKind.i64.wrap ((a:Int)+1)=(a:Int)+1:=IntWalk.i64_in _ (by omega);have hjt:j < ts.length:=by omega
   obtain⟨u0,u1,u2,hxj⟩:∃ u0 u1 u2,xs[j]?=some [u0,u1,u2]:=by
    have h1:xs[j]?=some xs[j]:=List.getElem?_eq_getElem hlt;have h2:=hall.get h1
    match hx:xs[j],h2 with
    | [u0,u1,u2],_=>exact⟨u0,u1,u2,by rw[h1,hx]⟩
   obtain⟨tj,htj⟩:∃ t,ts[j]?=some t:=⟨_,List.getElem?_eq_getElem hjt⟩;have hyj:ys[j]?=some [u0,u1,u2]:=by
    have h1:(ys.drop j)[0]?=(xs.drop j)[0]?:=by rw[hyd]
    simpa[hxj] using h1
   have hrd:=Zad (sp:=sp') hya hyj;have hkt:=Z78 (p:=p) hxj htj;have hne':l≠(h'.ep,112):=by
    have h1:=hlab l (by simp[labs]);have h2:=hs.1;rintro rfl;simp at h1;omega
   simp[h0,h1,h5,h6,hn,hlt,hb',hrd];have hs2:Same h ((h'.setBox (h'.ep,112) [C.d (D.str ByteArray.empty),C.nil,C.d (D.str ByteArray.empty)]).next.setBox (h'.ep,112) [u0,u1,u2]) [l]:=(Same.setBox (Same.setBox hs (.inr hs.1)).next (.inr hs.1));refine Z02 (HSpec.of_lend (hp tj (List.mem_of_getElem? htj)) ⟨.agg (hf _ hs2 j _ _ hxj htj),hcv _ hs2⟩ rfl ?_);simp[h0,h1,h5,h6,hn];cases hpt:p tj with
   | true=>
     rw[hpt,if_pos rfl] at hkt;simp[h0,h1,h5,h6,hn,hwj];refine Back.of (n':=xs.length - (j+1)) (by omega) ⟨a,j+1,ys,rfl,by omega,by omega,hyl,hya,by rw[hkt,hyk],by rw[← List.drop_drop,hyd,List.drop_drop],by simp[hn],by simp[h0],by simp[h1],by simp[h5],by simp,hs2.next,sp',by simp[hne',hb'],hl'⟩
   | false=>
     rw[hpt] at hkt;simp only[Bool.false_eq_true,if_false] at hkt;have haj2:a < xs.length:=by omega
     have hst:=Z60 (sp:=sp') (k:=a) (f:=0) (vs:=[u0,u1,u2]) (x:=ys[a]'(by omega)) hya (List.getElem?_eq_getElem _) (by simp);have hlen2:=Z6o (sp:=sp') (k:=a) hya (by omega);have hxa:(ys[a]'(by omega)).length=3:=hya.get (List.getElem?_eq_getElem _);have hsc:Z03 (ys[a]'(by omega)) 0 [u0,u1,u2]=[u0,u1,u2]:=by
      match hx:ys[a]'(by omega),hxa with
      | [w0,w1,w2],_=>simp
     rw[hsc] at hst;simp only[Nat.add_zero] at hst;simp[h0,h1,h5,h6,hn,hwj,haj2,hne',hb',hwa];refine⟨hlen2,?_⟩;refine Back.of (n':=xs.length - (j+1)) (by omega) ⟨a+1,j+1,ys.set a [u0,u1,u2],rfl,by omega,by omega,by simpa using hyl,hya.set rfl,?_,?_,by simp[hn],by simp[h0],by simp[h1],by simp,by simp,(hs2.next).setBox (.inl (by simp)),sp',by simp[hst],?_⟩
     ·rw[hkt,← hyk,Z88 (by omega)]
     ·rw[List.drop_set_of_lt (by omega),← List.drop_drop,hyd,List.drop_drop]
     ·rw[Z04 (hya.set rfl),List.length_set,← Z04 (sp:=sp') hya,hl']
  ·obtain rfl:j=xs.length:=by omega
   have hyk2:ys.take a=keep p xs ts:=by
    rw[hyk,List.take_of_length_le (Nat.le_refl _),List.take_of_length_le (by omega)]
   have hac:a < cap:=by omega
   have hale:a≤xs.length:=by omega
   have hyal:(ys.take a).length=a:=by simp;omega
   have hbx:rowBox ys sp'=rowBox (ys.take a) ((ys.drop a).flatten++sp'):=by
    simp only[rowBox,← List.append_assoc,← List.flatten_append,List.take_append_drop]
   have hzl:∀ k:Nat,(List.replicate k [C.d (D.str ByteArray.empty),C.nil,C.d (D.str ByteArray.empty)]).flatten.length=k * 3:=fun k=>by simp[List.length_flatten]
   have hcp:∀ vs,Z03 (rowBox ys sp') (a * 3) vs=rowBox (keep p xs ts) (Z03 ((ys.drop a).flatten++sp') 0 vs):=fun vs=>by
    have:=Z46 (sp:=(ys.drop a).flatten++sp') (vs:=vs) (hya.take (k:=a))
    rw[hyal,← hbx,hyk2] at this;exact this
   try simp only[Nat.mul_one] at hcp
   simp[h0,h1,h5,h6,hn];refine Z1l ⟨hale,hlen⟩ (fun _=>?_) (fun h=>absurd hac h);simp[h0,h1,h5,h6,hn];refine Z2g Z86 Zay hb' (by decide) (by rw[hl'];omega) ?_;simp[h0,h1,h5,h6,hn,hlen,hac];refine Z1l (by omega) (fun _=>?_) (fun h=>absurd (by omega) h);simp[hn];rw[hcp];have hln:∀ vs:List C,a * 3+vs.length≤cap * 3→(rowBox (keep p xs ts) (Z03 ((ys.drop a).flatten++sp') 0 vs)).length=cap * 3:=fun vs hvs=>by
    rw[← hcp]
    try simp only[Nat.mul_one] at hvs ⊢
    rw[Z06 (by omega),hl']
   refine hk (.mrow l 0 a cap) _ ⟨hall.keep,?_,.inr ⟨l,cap,Z03 ((ys.drop a).flatten++sp') 0 _,?_,Z5z.trans (if_pos rfl),?_⟩⟩ (hs.setBox (l:=l) (.inl (by simp))) rfl
   ·have:=Zfj (p:=p) (xs:=xs) (ts:=ts);have:=hm.2.1;omega
   ·rw[← hyk2,hyal]
   ·refine hln _ ?_
    first | (rw[hzl];omega) | (simp only[List.length_replicate];omega)
theorem Z7o (h:HS) (c:C) (xs:List (List C)) (ts:List (List D)) (g:FuncId) (caps:List Cap) (dss:List (List D)) (p:List D→Bool) (i0:Int) (hm:MR h 3 c xs) (hlab:∀ k ∈ labs c,k.1 < h.ep) (hl:xs.length=ts.length)
  (ht:∀ t ∈ ts,t.length=3) (hf:∀ h',Same h h' (labs c)→∀ (i:Nat) (x:List C) (t:List D),xs[i]?=some x→ts[i]?=some t→FrzCs h' x t)
  (hcv:∀ h',Same h h' (labs c)→LendVs h' (caps.map capV) (capsOf dss)) (hcf:LendC h (.fn g caps) (.fn g dss))
  (hp:∀ t ∈ ts,PSpec Tryz.prog g (.agg t::capsOf dss) (.one (.d (.bool (p t)))))
  (hidx:PSpec Tryz.prog 46 [.one (.d (.sl ts)),.one (.fn g dss)] (.one (.d (.int .i64 i0)))) (hi0:i0=match ts.findIdx? p with | some i=>(i:Int) | none=>-1) (K:V→HS→Prop)
  (hk:∀ c' h',MR h' 3 c' (keep p xs ts)→Same h h' (labs c)→labs c'=labs c→K (.one c') h') :
  HSpec Tryz.prog 208 [.one c,.one (.fn g caps)] h K:=by
 refine HSpec.of_vc Tryz.func208 rfl (by kernel_rfl) (n:=42) rfl rfl (by simp) ?_;simp;refine Z02 (HSpec.of_lend hidx ⟨.one (.frz (hm.frz hl ht (hf h .refl))),.one hcf,trivial⟩ rfl ?_);simp;refine Z6b (fun he=>?_) (fun hne=>?_)
 ·simp;have hall:∀ t ∈ ts,p t=false:=by
   intro t htm;cases hfi:ts.findIdx? p with
   | none=>simpa using List.findIdx?_eq_none_iff.1 hfi t htm
   | some i=>rw[hi0,hfi] at he;simp at he
  exact hk _ _ (by rw[Z8e hl hall];exact hm.frame fun _ _=>rfl) (Same.refl.next) rfl
 ·obtain⟨i,hfi,rfl⟩:∃ i,ts.findIdx? p=some i∧i0=(i:Int):=by
   cases hfi:ts.findIdx? p with
   | none=>rw[hi0,hfi] at hne;simp at hne
   | some i=>rw[hfi] at hi0;exact⟨i,rfl,hi0⟩
  obtain⟨hit,hpi,hbef⟩:=List.findIdx?_eq_some_iff_getElem.1 hfi;obtain⟨l,cap,sp,rfl,hb,hcap⟩:=hm.block (by omega);have hlim:xs.length≤2097152:=hm.2.1;have hall:=hm.1;have hlen:xs.length≤cap:=by
   have h1:=Z04 (sp:=sp) hall;omega
  have hw0:IntKind.i64.wrap ((i:Int)+1)=(i:Int)+1:=IntWalk.i64_in _ (by omega);have hk0:keep p (xs.take (i+1)) (ts.take (i+1))=xs.take i:=by
   rw[Z78 (x:=xs[i]'(by omega)) (t:=ts[i]) (List.getElem?_eq_getElem _) (List.getElem?_eq_getElem _),if_pos hpi];refine Z8e (by simp;omega) (fun t htm=>?_);obtain⟨j,hj,rfl⟩:=List.getElem_of_mem htm;simp only[List.length_take] at hj;rw[List.getElem_take];simpa using hbef j (by omega)
  simp[hw0];refine Wait.rounds (fun n e h'=>∃ (a j:Nat) (ys:List (List C)),n=xs.length - j∧a < j∧j≤xs.length∧ys.length=xs.length∧AllC 3 ys∧ys.take a=keep p (xs.take j) (ts.take j)∧ys.drop j=xs.drop j ∧
   e.n=42∧e.get 0=.one (.mrow l 0 xs.length cap)∧e.get 1=.one (.fn g caps)∧e.get 5=.one (.d (.int .i64 (a:Int)))∧e.get 6=.one (.d (.int .i64 (j:Int)))∧Same h h' [l]∧∃ sp',h'.box l=some (rowBox ys sp')∧(rowBox ys sp').length=cap * 3) (xs.length - (i+1))
   ⟨i,i+1,xs,rfl,by omega,by omega,rfl,hall,by rw[hk0],rfl,by simp,by simp,by simp,by simp,by simp,Same.refl.next,sp,hb,hcap⟩ ?_
  rintro n e h' ⟨a,j,ys,rfl,haj,hj,hyl,hya,hyk,hyd,hn,h0,h1,h5,h6,hs,sp',hb',hl'⟩;simp[h0,h1,h5,h6,hn];refine Z10 (fun hlt=>?_) (fun hge=>?_)
  ·have hwj:IntKind.i64.wrap ((j:Int)+1)=(j:Int)+1:=IntWalk.i64_in _ (by omega);have hwa:IntKind.i64.wrap ((a:Int)+1)=(a:Int)+1:=IntWalk.i64_in _ (by omega);have hjt:j < ts.length:=by omega
   obtain⟨u0,u1,u2,hxj⟩:∃ u0 u1 u2,xs[j]?=some [u0,u1,u2]:=by
    have h1:xs[j]?=some xs[j]:=List.getElem?_eq_getElem hlt;have h2:=hall.get h1
    match hx:xs[j],h2 with
    | [u0,u1,u2],_=>exact⟨u0,u1,u2,by rw[h1,hx]⟩
   obtain⟨tj,htj⟩:∃ t,ts[j]?=some t:=⟨_,List.getElem?_eq_getElem hjt⟩;have hyj:ys[j]?=some [u0,u1,u2]:=by
    have h1:(ys.drop j)[0]?=(xs.drop j)[0]?:=by rw[hyd]
    simpa[hxj] using h1
   have hrd:=Zad (sp:=sp') hya hyj;have hkt:=Z78 (p:=p) hxj htj;have hne':l≠(h'.ep,112):=by
    have h1:=hlab l (by simp[labs]);have h2:=hs.1;rintro rfl;simp at h1;omega
   simp[h0,h1,h5,h6,hn,hlt,hb',hrd];have hs2:Same h ((h'.setBox (h'.ep,112) [C.d (D.str ByteArray.empty),C.nil,C.nil]).next.setBox (h'.ep,112) [u0,u1,u2]) [l]:=(Same.setBox (Same.setBox hs (.inr hs.1)).next (.inr hs.1));refine Z02 (HSpec.of_lend (hp tj (List.mem_of_getElem? htj)) ⟨.agg (hf _ hs2 j _ _ hxj htj),hcv _ hs2⟩ rfl ?_);simp[h0,h1,h5,h6,hn];cases hpt:p tj with
   | true=>
     rw[hpt,if_pos rfl] at hkt;simp[h0,h1,h5,h6,hn,hwj];refine Back.of (n':=xs.length - (j+1)) (by omega) ⟨a,j+1,ys,rfl,by omega,by omega,hyl,hya,by rw[hkt,hyk],by rw[← List.drop_drop,hyd,List.drop_drop],by simp[hn],by simp[h0],by simp[h1],by simp[h5],by simp,hs2.next,sp',by simp[hne',hb'],hl'⟩
   | false=>
     rw[hpt] at hkt;simp only[Bool.false_eq_true,if_false] at hkt;have haj2:a < xs.length:=by omega
     have hst:=Z60 (sp:=sp') (k:=a) (f:=0) (vs:=[u0,u1,u2]) (x:=ys[a]'(by omega)) hya (List.getElem?_eq_getElem _) (by simp);have hlen2:=Z6o (sp:=sp') (k:=a) hya (by omega);have hxa:(ys[a]'(by omega)).length=3:=hya.get (List.getElem?_eq_getElem _);have hsc:Z03 (ys[a]'(by omega)) 0 [u0,u1,u2]=[u0,u1,u2]:=by
      match hx:ys[a]'(by omega),hxa with
      | [w0,w1,w2],_=>simp
     rw[hsc] at hst;simp only[Nat.add_zero] at hst;simp[h0,h1,h5,h6,hn,hwj,haj2,hne',hb',hwa];refine⟨hlen2,?_⟩;refine Back.of (n':=xs.length - (j+1)) (by omega) ⟨a+1,j+1,ys.set a [u0,u1,u2],rfl,by omega,by omega,by simpa using hyl,hya.set rfl,?_,?_,by simp[hn],by simp[h0],by simp[h1],by simp,by simp,(hs2.next).setBox (.inl (by simp)),sp',by simp[hst],?_⟩
     ·rw[hkt,← hyk,Z88 (by omega)]
     ·rw[List.drop_set_of_lt (by omega),← List.drop_drop,hyd,List.drop_drop]
     ·rw[Z04 (hya.set rfl),List.length_set,← Z04 (sp:=sp') hya,hl']
  ·obtain rfl:j=xs.length:=by omega
   have hyk2:ys.take a=keep p xs ts:=by
    rw[hyk,List.take_of_length_le (Nat.le_refl _),List.take_of_length_le (by omega)]
   have hac:a < cap:=by omega
   have hale:a≤xs.length:=by omega
   have hyal:(ys.take a).length=a:=by simp;omega
   have hbx:rowBox ys sp'=rowBox (ys.take a) ((ys.drop a).flatten++sp'):=by
    simp only[rowBox,← List.append_assoc,← List.flatten_append,List.take_append_drop]
   have hzl:∀ k:Nat,(List.replicate k [C.d (D.str ByteArray.empty),C.nil,C.nil]).flatten.length=k * 3:=fun k=>by simp[List.length_flatten]
   have hcp:∀ vs,Z03 (rowBox ys sp') (a * 3) vs=rowBox (keep p xs ts) (Z03 ((ys.drop a).flatten++sp') 0 vs):=fun vs=>by
    have:=Z46 (sp:=(ys.drop a).flatten++sp') (vs:=vs) (hya.take (k:=a))
    rw[hyal,← hbx,hyk2] at this;exact this
   try simp only[Nat.mul_one] at hcp
   simp[h0,h1,h5,h6,hn];refine Z1l ⟨hale,hlen⟩ (fun _=>?_) (fun h=>absurd hac h);simp[h0,h1,h5,h6,hn];refine Z2g Z87 Zda hb' (by decide) (by rw[hl'];omega) ?_;simp[h0,h1,h5,h6,hn,hlen,hac];refine Z1l (by omega) (fun _=>?_) (fun h=>absurd (by omega) h);simp[hn];rw[hcp];have hln:∀ vs:List C,a * 3+vs.length≤cap * 3→(rowBox (keep p xs ts) (Z03 ((ys.drop a).flatten++sp') 0 vs)).length=cap * 3:=fun vs hvs=>by
    rw[← hcp]
    try simp only[Nat.mul_one] at hvs ⊢
    rw[Z06 (by omega),hl']
   refine hk (.mrow l 0 a cap) _ ⟨hall.keep,?_,.inr ⟨l,cap,Z03 ((ys.drop a).flatten++sp') 0 _,?_,Z5z.trans (if_pos rfl),?_⟩⟩ (hs.setBox (l:=l) (.inl (by simp))) rfl
   ·have:=Zfj (p:=p) (xs:=xs) (ts:=ts);have:=hm.2.1;omega
   ·rw[← hyk2,hyal]
   ·refine hln _ ?_
    first | (rw[hzl];omega) | (simp only[List.length_replicate];omega)
theorem Z7b (h:HS) (c:C) (xs:List (List C)) (i j:Nat) (hm:MR h 7 c xs) (hij:i≤j) (hj:j≤xs.length) (K:V→HS→Prop)
  (hk:∀ c' h',MR h' 7 c' (xs.take i++xs.drop j)→(∀ l,l ∉ labs c→h'.box l=h.box l)→h'.ep=h.ep→h'.arr=h.arr→labs c'=labs c→K (.one c') h') :
  HSpec Tryz.prog 175 [.one c,.one (.d (.int .i64 i)),.one (.d (.int .i64 j))] h K:=by
 obtain⟨hall,hlim,h1 | ⟨l,cap,sp,rfl,hb,hcap⟩⟩:=hm
 ·obtain⟨rfl,hc⟩:=h1;obtain rfl:j=0:=by simpa using hj
  obtain rfl:i=0:=by omega
  rcases hc with rfl | rfl
  ·refine HSpec.of_vc Tryz.func175 rfl (by kernel_rfl) (n:=33) rfl rfl (by simp) ?_;simp;exact hk _ _ (by simpa using MR.nil) (fun _ _=>rfl) rfl rfl rfl
  ·refine HSpec.of_vc Tryz.func175 rfl (by kernel_rfl) (n:=33) rfl rfl (by simp) ?_;simp;exact hk _ _ (by simpa using MR.z) (fun _ _=>rfl) rfl rfl rfl
 ·have hlen:xs.length≤cap:=by
   have h1:=Z04 (sp:=sp) hall;omega
  have hi:i≤xs.length:=by omega
  refine HSpec.of_vc Tryz.func175 rfl (by kernel_rfl) (n:=33) rfl rfl (by simp) ?_;simp;refine Z1l ⟨⟨hij,hj⟩,hlen⟩ (fun _=>?_) (fun _=>?_)
  all_goals
   simp;refine Z6b (fun he=>?_) (fun hne=>?_)
   ·simp;have hij':i=j:=by simp at he;omega
    subst hij';refine hk _ _ ⟨?_,?_,.inr ⟨l,cap,sp,?_,?_,?_⟩⟩ (fun _ _=>rfl) rfl rfl rfl<;>simp[*]
   ·simp;have hlt:i < j:=by
     have:(i:Int)≠j:=by simpa using hne
     omega
    have hjc:j≤cap:=by omega
    have hic:i≤cap:=by omega
    have hc0:0 < cap:=by omega
    refine Wait.of (SWP.draw (Plan.then_ [0,1,2,3,4,5,6,7] .done) follows (by kernel_rfl) ?_);simp[Plan.then_,vcPlan,Z01,Z00,callKind,hjc,hic,hlen,hj,hc0];have fin:∀ (sp1:List C) (h1:HS),(rowBox (xs.take i++xs.drop j) sp1).length=cap * 7→h1.box l=some (rowBox (xs.take i++xs.drop j) sp1)→(∀ k,k≠l→h1.box k=h.box k)→h1.ep=h.ep→h1.arr=h.arr →
      K (.one (.mrow l 0 (i+(xs.length - j)) cap)) h1:=fun sp1 h1 e1 e2 e3 e4 e5=>
     hk _ _ ⟨AllC.append.2 ⟨hall.take,hall.drop⟩,by simp at hlim ⊢;omega,.inr ⟨l,cap,sp1,by simp;omega,e2,e1⟩⟩ (fun k hkl=>e3 k (by simpa[labs] using hkl)) e4 e5 rfl
    have happ:appHdr h 7 (.mrow l 0 i cap)=some (i,cap,(xs.take i).flatten,some (l,0)):=by
     have:=Z4f (off:=0) (k:=i) (cap:=cap) hall hb (by omega)
     simp only[Nat.zero_mul,List.drop_zero] at this;simp only[appHdr,this]
    have hmul:∀ a b:Nat,a≤b→a * 7≤b * 7:=fun a b h=>by omega
    have hxt:(xs.drop j).take (xs.length - j)=xs.drop j:=List.take_of_length_le (by simp);generalize hm:i+(xs.length - j)=m at *;have hm2:m≤xs.length:=by omega
    have hm3:m < xs.length:=by omega
    have hm4:m < cap:=by omega
    have hyl:(xs.take i++xs.drop j).length=m:=by simp;omega
    have hya:AllC 7 (xs.take i++xs.drop j):=AllC.append.2 ⟨hall.take,hall.drop⟩;have hzl:∀ k:Nat,(List.replicate k [C.d (D.str ByteArray.empty),C.d (D.int IntKind.i64 0),C.d (D.str ByteArray.empty),C.d (D.int IntKind.i64 0),C.d (D.int IntKind.i64 0),C.d (D.int IntKind.i64 0),C.d (D.str ByteArray.empty)]).flatten.length=k * 7:=fun k=>by simp[List.length_flatten]
    by_cases hjc2:j < cap
    ·simp[hjc2];refine Z59 Z6n happ (by have:=Z4f (off:=j) (k:=xs.length - j) (cap:=cap - j) hall hb (by omega);rw[hxt] at this;first | exact this | simpa using this) (m:=xs.length - j) rfl (by simp) (by decide) (by decide) (by simp at hlim ⊢;omega) ?_ ?_ (fun h0=>?_) (fun h0 hle=>?_) (fun h0 hgt=>?_)
     ·rw[hall.drop.flatten];simp
     ·rw[hall.take.flatten];simp;omega
     ·have hj2:xs.drop j=[]:=List.drop_eq_nil_of_le (by omega);obtain rfl:i=m:=by omega
      have hb2:∃ sp1,h.box l=some (rowBox (xs.take i++xs.drop j) sp1)∧(rowBox (xs.take i++xs.drop j) sp1).length=cap * 7:=by
       refine⟨(xs.drop i).flatten++sp,?_,?_⟩
       ·rw[hb,hj2];simp[rowBox,← List.append_assoc,← List.flatten_append]
       ·rw[← hcap,hj2];simp[rowBox,← List.append_assoc,← List.flatten_append]
      obtain⟨sp1,hb2,hl2⟩:=hb2;simp[hjc2,hlen,hm2,hm3,hm4];refine Z2g Z6n Zaz hb2 (by decide) (by rw[hl2];omega) ?_;simp;have e2:∀ vs,Z03 (rowBox (xs.take i++xs.drop j) sp1) (i * 7) vs=rowBox (xs.take i++xs.drop j) (Z03 sp1 0 vs):=fun vs=>by have:=Z46 (sp:=sp1) (vs:=vs) hya;rw[hyl] at this;exact this
      try simp only[Nat.mul_one] at e2
      rw[e2];refine fin _ _ ?_ (by simp;rfl) (fun k hk=>by simp[hk]) (by simp) (by simp[HS.setBox]);rw[Z04 hya,Z06 (by rw[Z04 hya,hyl] at hl2;first | (rw[hzl];omega) | (simp only[List.length_replicate];omega)),← Z04 (sp:=sp1) hya,hl2]
     ·rintro l' off he';simp only[Option.some.injEq,Prod.mk.injEq] at he';obtain⟨rfl,rfl⟩:=he';refine⟨_,hb,by rw[hcap];omega,?_⟩;rw[Nat.zero_add,Zbr hall hall.drop hi,hm];have hl2:(rowBox (xs.take i++xs.drop j) (List.drop ((i+(xs.drop j).length) * 7) (rowBox xs sp))).length=cap * 7:=by
       rw[Z04 hya,hyl,List.length_drop,hcap,List.length_drop];omega
      generalize List.drop ((i+(xs.drop j).length) * 7) (rowBox xs sp)=sp1 at *;simp[hjc2,hlen,hm2,hm3,hm4];refine Z2g Z6n Zaz (by simp;rfl) (by decide) (by rw[hl2];omega) ?_;simp;have e2:∀ vs,Z03 (rowBox (xs.take i++xs.drop j) sp1) (m * 7) vs=rowBox (xs.take i++xs.drop j) (Z03 sp1 0 vs):=fun vs=>by have:=Z46 (sp:=sp1) (vs:=vs) hya;rw[hyl] at this;exact this
      try simp only[Nat.mul_one] at e2
      rw[e2];refine fin _ _ ?_ (by simp;rfl) (fun k hk=>by simp[hk]) (by simp) (by simp[HS.setBox]);rw[Z04 hya,Z06 (by rw[Z04 hya,hyl] at hl2;first | (rw[hzl];omega) | (simp only[List.length_replicate];omega)),← Z04 (sp:=sp1) hya,hl2]
     ·omega
    ·simp[hjc2];have hj2:xs.drop j=[]:=List.drop_eq_nil_of_le (by omega);refine Z59 Z6n happ (new:=[]) (m:=0) (by simp[Z0i]) rfl (by simp) (by decide) (by decide) (by simp at hlim ⊢;omega) rfl ?_ (fun h0=>?_) (fun h0=>absurd h0 (by omega)) (fun h0=>absurd h0 (by omega))
     ·rw[hall.take.flatten];simp;omega
     ·obtain rfl:i=m:=by omega
      have hb2:∃ sp1,h.box l=some (rowBox (xs.take i++xs.drop j) sp1)∧(rowBox (xs.take i++xs.drop j) sp1).length=cap * 7:=by
       refine⟨(xs.drop i).flatten++sp,?_,?_⟩
       ·rw[hb,hj2];simp[rowBox,← List.append_assoc,← List.flatten_append]
       ·rw[← hcap,hj2];simp[rowBox,← List.append_assoc,← List.flatten_append]
      obtain⟨sp1,hb2,hl2⟩:=hb2;simp[hjc2,hlen,hm2,hm3,hm4];refine Z2g Z6n Zaz hb2 (by decide) (by rw[hl2];omega) ?_;simp;have e2:∀ vs,Z03 (rowBox (xs.take i++xs.drop j) sp1) (i * 7) vs=rowBox (xs.take i++xs.drop j) (Z03 sp1 0 vs):=fun vs=>by have:=Z46 (sp:=sp1) (vs:=vs) hya;rw[hyl] at this;exact this
      try simp only[Nat.mul_one] at e2
      rw[e2];refine fin _ _ ?_ (by simp;rfl) (fun k hk=>by simp[hk]) (by simp) (by simp[HS.setBox]);rw[Z04 hya,Z06 (by rw[Z04 hya,hyl] at hl2;first | (rw[hzl];omega) | (simp only[List.length_replicate];omega)),← Z04 (sp:=sp1) hya,hl2]
theorem Z5a (h:HS) (c:C) (xs:List (List C)) (i j:Nat) (hm:MR h 3 c xs) (hij:i≤j) (hj:j≤xs.length) (K:V→HS→Prop)
  (hk:∀ c' h',MR h' 3 c' (xs.take i++xs.drop j)→(∀ l,l ∉ labs c→h'.box l=h.box l)→h'.ep=h.ep→h'.arr=h.arr→labs c'=labs c→K (.one c') h') :
  HSpec Tryz.prog 177 [.one c,.one (.d (.int .i64 i)),.one (.d (.int .i64 j))] h K:=by
 obtain⟨hall,hlim,h1 | ⟨l,cap,sp,rfl,hb,hcap⟩⟩:=hm
 ·obtain⟨rfl,hc⟩:=h1;obtain rfl:j=0:=by simpa using hj
  obtain rfl:i=0:=by omega
  rcases hc with rfl | rfl
  ·refine HSpec.of_vc Tryz.func177 rfl (by kernel_rfl) (n:=33) rfl rfl (by simp) ?_;simp;exact hk _ _ (by simpa using MR.nil) (fun _ _=>rfl) rfl rfl rfl
  ·refine HSpec.of_vc Tryz.func177 rfl (by kernel_rfl) (n:=33) rfl rfl (by simp) ?_;simp;exact hk _ _ (by simpa using MR.z) (fun _ _=>rfl) rfl rfl rfl
 ·have hlen:xs.length≤cap:=by
   have h1:=Z04 (sp:=sp) hall;omega
  have hi:i≤xs.length:=by omega
  refine HSpec.of_vc Tryz.func177 rfl (by kernel_rfl) (n:=33) rfl rfl (by simp) ?_;simp;refine Z1l ⟨⟨hij,hj⟩,hlen⟩ (fun _=>?_) (fun _=>?_)
  all_goals
   simp;refine Z6b (fun he=>?_) (fun hne=>?_)
   ·simp;have hij':i=j:=by simp at he;omega
    subst hij';refine hk _ _ ⟨?_,?_,.inr ⟨l,cap,sp,?_,?_,?_⟩⟩ (fun _ _=>rfl) rfl rfl rfl<;>simp[*]
   ·simp;have hlt:i < j:=by
     have:(i:Int)≠j:=by simpa using hne
     omega
    have hjc:j≤cap:=by omega
    have hic:i≤cap:=by omega
    have hc0:0 < cap:=by omega
    refine Wait.of (SWP.draw (Plan.then_ [0,1,2,3,4,5,6,7] .done) follows (by kernel_rfl) ?_);simp[Plan.then_,vcPlan,Z01,Z00,callKind,hjc,hic,hlen,hj,hc0];have fin:∀ (sp1:List C) (h1:HS),(rowBox (xs.take i++xs.drop j) sp1).length=cap * 3→h1.box l=some (rowBox (xs.take i++xs.drop j) sp1)→(∀ k,k≠l→h1.box k=h.box k)→h1.ep=h.ep→h1.arr=h.arr →
      K (.one (.mrow l 0 (i+(xs.length - j)) cap)) h1:=fun sp1 h1 e1 e2 e3 e4 e5=>
     hk _ _ ⟨AllC.append.2 ⟨hall.take,hall.drop⟩,by simp at hlim ⊢;omega,.inr ⟨l,cap,sp1,by simp;omega,e2,e1⟩⟩ (fun k hkl=>e3 k (by simpa[labs] using hkl)) e4 e5 rfl
    have happ:appHdr h 3 (.mrow l 0 i cap)=some (i,cap,(xs.take i).flatten,some (l,0)):=by
     have:=Z4f (off:=0) (k:=i) (cap:=cap) hall hb (by omega)
     simp only[Nat.zero_mul,List.drop_zero] at this;simp only[appHdr,this]
    have hmul:∀ a b:Nat,a≤b→a * 3≤b * 3:=fun a b h=>by omega
    have hxt:(xs.drop j).take (xs.length - j)=xs.drop j:=List.take_of_length_le (by simp);generalize hm:i+(xs.length - j)=m at *;have hm2:m≤xs.length:=by omega
    have hm3:m < xs.length:=by omega
    have hm4:m < cap:=by omega
    have hyl:(xs.take i++xs.drop j).length=m:=by simp;omega
    have hya:AllC 3 (xs.take i++xs.drop j):=AllC.append.2 ⟨hall.take,hall.drop⟩;have hzl:∀ k:Nat,(List.replicate k [C.d (D.str ByteArray.empty),C.nil,C.d (D.str ByteArray.empty)]).flatten.length=k * 3:=fun k=>by simp[List.length_flatten]
    by_cases hjc2:j < cap
    ·simp[hjc2];refine Z59 Z86 happ (by have:=Z4f (off:=j) (k:=xs.length - j) (cap:=cap - j) hall hb (by omega);rw[hxt] at this;first | exact this | simpa using this) (m:=xs.length - j) rfl (by simp) (by decide) (by decide) (by simp at hlim ⊢;omega) ?_ ?_ (fun h0=>?_) (fun h0 hle=>?_) (fun h0 hgt=>?_)
     ·rw[hall.drop.flatten];simp
     ·rw[hall.take.flatten];simp;omega
     ·have hj2:xs.drop j=[]:=List.drop_eq_nil_of_le (by omega);obtain rfl:i=m:=by omega
      have hb2:∃ sp1,h.box l=some (rowBox (xs.take i++xs.drop j) sp1)∧(rowBox (xs.take i++xs.drop j) sp1).length=cap * 3:=by
       refine⟨(xs.drop i).flatten++sp,?_,?_⟩
       ·rw[hb,hj2];simp[rowBox,← List.append_assoc,← List.flatten_append]
       ·rw[← hcap,hj2];simp[rowBox,← List.append_assoc,← List.flatten_append]
      obtain⟨sp1,hb2,hl2⟩:=hb2;simp[hjc2,hlen,hm2,hm3,hm4];refine Z2g Z86 Zay hb2 (by decide) (by rw[hl2];omega) ?_;simp;have e2:∀ vs,Z03 (rowBox (xs.take i++xs.drop j) sp1) (i * 3) vs=rowBox (xs.take i++xs.drop j) (Z03 sp1 0 vs):=fun vs=>by have:=Z46 (sp:=sp1) (vs:=vs) hya;rw[hyl] at this;exact this
      try simp only[Nat.mul_one] at e2
      rw[e2];refine fin _ _ ?_ (by simp;rfl) (fun k hk=>by simp[hk]) (by simp) (by simp[HS.setBox]);rw[Z04 hya,Z06 (by rw[Z04 hya,hyl] at hl2;first | (rw[hzl];omega) | (simp only[List.length_replicate];omega)),← Z04 (sp:=sp1) hya,hl2]
     ·rintro l' off he';simp only[Option.some.injEq,Prod.mk.injEq] at he';obtain⟨rfl,rfl⟩:=he';refine⟨_,hb,by rw[hcap];omega,?_⟩;rw[Nat.zero_add,Zbr hall hall.drop hi,hm];have hl2:(rowBox (xs.take i++xs.drop j) (List.drop ((i+(xs.drop j).length) * 3) (rowBox xs sp))).length=cap * 3:=by
       rw[Z04 hya,hyl,List.length_drop,hcap,List.length_drop];omega
      generalize List.drop ((i+(xs.drop j).length) * 3) (rowBox xs sp)=sp1 at *;simp[hjc2,hlen,hm2,hm3,hm4];refine Z2g Z86 Zay (by simp;rfl) (by decide) (by rw[hl2];omega) ?_;simp;have e2:∀ vs,Z03 (rowBox (xs.take i++xs.drop j) sp1) (m * 3) vs=rowBox (xs.take i++xs.drop j) (Z03 sp1 0 vs):=fun vs=>by have:=Z46 (sp:=sp1) (vs:=vs) hya;rw[hyl] at this;exact this
      try simp only[Nat.mul_one] at e2
      rw[e2];refine fin _ _ ?_ (by simp;rfl) (fun k hk=>by simp[hk]) (by simp) (by simp[HS.setBox]);rw[Z04 hya,Z06 (by rw[Z04 hya,hyl] at hl2;first | (rw[hzl];omega) | (simp only[List.length_replicate];omega)),← Z04 (sp:=sp1) hya,hl2]
     ·omega
    ·simp[hjc2];have hj2:xs.drop j=[]:=List.drop_eq_nil_of_le (by omega);refine Z59 Z86 happ (new:=[]) (m:=0) (by simp[Z0i]) rfl (by simp) (by decide) (by decide) (by simp at hlim ⊢;omega) rfl ?_ (fun h0=>?_) (fun h0=>absurd h0 (by omega)) (fun h0=>absurd h0 (by omega))
     ·rw[hall.take.flatten];simp;omega
     ·obtain rfl:i=m:=by omega
      have hb2:∃ sp1,h.box l=some (rowBox (xs.take i++xs.drop j) sp1)∧(rowBox (xs.take i++xs.drop j) sp1).length=cap * 3:=by
       refine⟨(xs.drop i).flatten++sp,?_,?_⟩
       ·rw[hb,hj2];simp[rowBox,← List.append_assoc,← List.flatten_append]
       ·rw[← hcap,hj2];simp[rowBox,← List.append_assoc,← List.flatten_append]
      obtain⟨sp1,hb2,hl2⟩:=hb2;simp[hjc2,hlen,hm2,hm3,hm4];refine Z2g Z86 Zay hb2 (by decide) (by rw[hl2];omega) ?_;simp;have e2:∀ vs,Z03 (rowBox (xs.take i++xs.drop j) sp1) (i * 3) vs=rowBox (xs.take i++xs.drop j) (Z03 sp1 0 vs):=fun vs=>by have:=Z46 (sp:=sp1) (vs:=vs) hya;rw[hyl] at this;exact this
      try simp only[Nat.mul_one] at e2
      rw[e2];refine fin _ _ ?_ (by simp;rfl) (fun k hk=>by simp[hk]) (by simp) (by simp[HS.setBox]);rw[Z04 hya,Z06 (by rw[Z04 hya,hyl] at hl2;first | (rw[hzl];omega) | (simp only[List.length_replicate];omega)),← Z04 (sp:=sp1) hya,hl2]
theorem Z6i (h:HS) (c:C) (xs:List (List C)) (i j:Nat) (hm:MR h 3 c xs) (hij:i≤j) (hj:j≤xs.length) (K:V→HS→Prop)
  (hk:∀ c' h',MR h' 3 c' (xs.take i++xs.drop j)→(∀ l,l ∉ labs c→h'.box l=h.box l)→h'.ep=h.ep→h'.arr=h.arr→labs c'=labs c→K (.one c') h') :
  HSpec Tryz.prog 179 [.one c,.one (.d (.int .i64 i)),.one (.d (.int .i64 j))] h K:=by
 obtain⟨hall,hlim,h1 | ⟨l,cap,sp,rfl,hb,hcap⟩⟩:=hm
 ·obtain⟨rfl,hc⟩:=h1;obtain rfl:j=0:=by simpa using hj
  obtain rfl:i=0:=by omega
  rcases hc with rfl | rfl
  ·refine HSpec.of_vc Tryz.func179 rfl (by kernel_rfl) (n:=33) rfl rfl (by simp) ?_;simp;exact hk _ _ (by simpa using MR.nil) (fun _ _=>rfl) rfl rfl rfl
  ·refine HSpec.of_vc Tryz.func179 rfl (by kernel_rfl) (n:=33) rfl rfl (by simp) ?_;simp;exact hk _ _ (by simpa using MR.z) (fun _ _=>rfl) rfl rfl rfl
 ·have hlen:xs.length≤cap:=by
   have h1:=Z04 (sp:=sp) hall;omega
  have hi:i≤xs.length:=by omega
  refine HSpec.of_vc Tryz.func179 rfl (by kernel_rfl) (n:=33) rfl rfl (by simp) ?_;simp;refine Z1l ⟨⟨hij,hj⟩,hlen⟩ (fun _=>?_) (fun _=>?_)
  all_goals
   simp;refine Z6b (fun he=>?_) (fun hne=>?_)
   ·simp;have hij':i=j:=by simp at he;omega
    subst hij';refine hk _ _ ⟨?_,?_,.inr ⟨l,cap,sp,?_,?_,?_⟩⟩ (fun _ _=>rfl) rfl rfl rfl<;>simp[*]
   ·simp;have hlt:i < j:=by
     have:(i:Int)≠j:=by simpa using hne
     omega
    have hjc:j≤cap:=by omega
    have hic:i≤cap:=by omega
    have hc0:0 < cap:=by omega
    refine Wait.of (SWP.draw (Plan.then_ [0,1,2,3,4,5,6,7] .done) follows (by kernel_rfl) ?_);simp[Plan.then_,vcPlan,Z01,Z00,callKind,hjc,hic,hlen,hj,hc0];have fin:∀ (sp1:List C) (h1:HS),(rowBox (xs.take i++xs.drop j) sp1).length=cap * 3→h1.box l=some (rowBox (xs.take i++xs.drop j) sp1)→(∀ k,k≠l→h1.box k=h.box k)→h1.ep=h.ep→h1.arr=h.arr →
      K (.one (.mrow l 0 (i+(xs.length - j)) cap)) h1:=fun sp1 h1 e1 e2 e3 e4 e5=>
     hk _ _ ⟨AllC.append.2 ⟨hall.take,hall.drop⟩,by simp at hlim ⊢;omega,.inr ⟨l,cap,sp1,by simp;omega,e2,e1⟩⟩ (fun k hkl=>e3 k (by simpa[labs] using hkl)) e4 e5 rfl
    have happ:appHdr h 3 (.mrow l 0 i cap)=some (i,cap,(xs.take i).flatten,some (l,0)):=by
     have:=Z4f (off:=0) (k:=i) (cap:=cap) hall hb (by omega)
     simp only[Nat.zero_mul,List.drop_zero] at this;simp only[appHdr,this]
    have hmul:∀ a b:Nat,a≤b→a * 3≤b * 3:=fun a b h=>by omega
    have hxt:(xs.drop j).take (xs.length - j)=xs.drop j:=List.take_of_length_le (by simp);generalize hm:i+(xs.length - j)=m at *;have hm2:m≤xs.length:=by omega
    have hm3:m < xs.length:=by omega
    have hm4:m < cap:=by omega
    have hyl:(xs.take i++xs.drop j).length=m:=by simp;omega
    have hya:AllC 3 (xs.take i++xs.drop j):=AllC.append.2 ⟨hall.take,hall.drop⟩;have hzl:∀ k:Nat,(List.replicate k [C.d (D.str ByteArray.empty),C.nil,C.nil]).flatten.length=k * 3:=fun k=>by simp[List.length_flatten]
    by_cases hjc2:j < cap
    ·simp[hjc2];refine Z59 Z87 happ (by have:=Z4f (off:=j) (k:=xs.length - j) (cap:=cap - j) hall hb (by omega);rw[hxt] at this;first | exact this | simpa using this) (m:=xs.length - j) rfl (by simp) (by decide) (by decide) (by simp at hlim ⊢;omega) ?_ ?_ (fun h0=>?_) (fun h0 hle=>?_) (fun h0 hgt=>?_)
     ·rw[hall.drop.flatten];simp
     ·rw[hall.take.flatten];simp;omega
     ·have hj2:xs.drop j=[]:=List.drop_eq_nil_of_le (by omega);obtain rfl:i=m:=by omega
      have hb2:∃ sp1,h.box l=some (rowBox (xs.take i++xs.drop j) sp1)∧(rowBox (xs.take i++xs.drop j) sp1).length=cap * 3:=by
       refine⟨(xs.drop i).flatten++sp,?_,?_⟩
       ·rw[hb,hj2];simp[rowBox,← List.append_assoc,← List.flatten_append]
       ·rw[← hcap,hj2];simp[rowBox,← List.append_assoc,← List.flatten_append]
      obtain⟨sp1,hb2,hl2⟩:=hb2;simp[hjc2,hlen,hm2,hm3,hm4];refine Z2g Z87 Zda hb2 (by decide) (by rw[hl2];omega) ?_;simp;have e2:∀ vs,Z03 (rowBox (xs.take i++xs.drop j) sp1) (i * 3) vs=rowBox (xs.take i++xs.drop j) (Z03 sp1 0 vs):=fun vs=>by have:=Z46 (sp:=sp1) (vs:=vs) hya;rw[hyl] at this;exact this
      try simp only[Nat.mul_one] at e2
      rw[e2];refine fin _ _ ?_ (by simp;rfl) (fun k hk=>by simp[hk]) (by simp) (by simp[HS.setBox]);rw[Z04 hya,Z06 (by rw[Z04 hya,hyl] at hl2;first | (rw[hzl];omega) | (simp only[List.length_replicate];omega)),← Z04 (sp:=sp1) hya,hl2]
     ·rintro l' off he';simp only[Option.some.injEq,Prod.mk.injEq] at he';obtain⟨rfl,rfl⟩:=he';refine⟨_,hb,by rw[hcap];omega,?_⟩;rw[Nat.zero_add,Zbr hall hall.drop hi,hm];have hl2:(rowBox (xs.take i++xs.drop j) (List.drop ((i+(xs.drop j).length) * 3) (rowBox xs sp))).length=cap * 3:=by
       rw[Z04 hya,hyl,List.length_drop,hcap,List.length_drop];omega
      generalize List.drop ((i+(xs.drop j).length) * 3) (rowBox xs sp)=sp1 at *;simp[hjc2,hlen,hm2,hm3,hm4];refine Z2g Z87 Zda (by simp;rfl) (by decide) (by rw[hl2];omega) ?_;simp;have e2:∀ vs,Z03 (rowBox (xs.take i++xs.drop j) sp1) (m * 3) vs=rowBox (xs.take i++xs.drop j) (Z03 sp1 0 vs):=fun vs=>by have:=Z46 (sp:=sp1) (vs:=vs) hya;rw[hyl] at this;exact this
      try simp only[Nat.mul_one] at e2
      rw[e2];refine fin _ _ ?_ (by simp;rfl) (fun k hk=>by simp[hk]) (by simp) (by simp[HS.setBox]);rw[Z04 hya,Z06 (by rw[Z04 hya,hyl] at hl2;first | (rw[hzl];omega) | (simp only[List.length_replicate];omega)),← Z04 (sp:=sp1) hya,hl2]
     ·omega
    ·simp[hjc2];have hj2:xs.drop j=[]:=List.drop_eq_nil_of_le (by omega);refine Z59 Z87 happ (new:=[]) (m:=0) (by simp[Z0i]) rfl (by simp) (by decide) (by decide) (by simp at hlim ⊢;omega) rfl ?_ (fun h0=>?_) (fun h0=>absurd h0 (by omega)) (fun h0=>absurd h0 (by omega))
     ·rw[hall.take.flatten];simp;omega
     ·obtain rfl:i=m:=by omega
      have hb2:∃ sp1,h.box l=some (rowBox (xs.take i++xs.drop j) sp1)∧(rowBox (xs.take i++xs.drop j) sp1).length=cap * 3:=by
       refine⟨(xs.drop i).flatten++sp,?_,?_⟩
       ·rw[hb,hj2];simp[rowBox,← List.append_assoc,← List.flatten_append]
       ·rw[← hcap,hj2];simp[rowBox,← List.append_assoc,← List.flatten_append]
      obtain⟨sp1,hb2,hl2⟩:=hb2;simp[hjc2,hlen,hm2,hm3,hm4];refine Z2g Z87 Zda hb2 (by decide) (by rw[hl2];omega) ?_;simp;have e2:∀ vs,Z03 (rowBox (xs.take i++xs.drop j) sp1) (i * 3) vs=rowBox (xs.take i++xs.drop j) (Z03 sp1 0 vs):=fun vs=>by have:=Z46 (sp:=sp1) (vs:=vs) hya;rw[hyl] at this;exact this
      try simp only[Nat.mul_one] at e2
      rw[e2];refine fin _ _ ?_ (by simp;rfl) (fun k hk=>by simp[hk]) (by simp) (by simp[HS.setBox]);rw[Z04 hya,Z06 (by rw[Z04 hya,hyl] at hl2;first | (rw[hzl];omega) | (simp only[List.length_replicate];omega)),← Z04 (sp:=sp1) hya,hl2]
def TblSh:List Sh:=[.d,.r [.d,.d,.d],.r [.d]]
def FkSh:List Sh:=[.d,.r [.d],.d]
theorem Ow.rowD {h:HS} {n:Nat} {c:C} {ts:List (List D)} {es ss:List Sh} {cs:List C} {ds:List D} {ls:List Lab} (hm:MR h n c (ts.map (·.map C.d))) (hes:es=List.replicate n .d) (ht:∀ t ∈ ts,t.length=n) (hr:Ow h ss cs ds ls):Ow h (.r es::ss) (c::cs) (.sl ts::ds) (labs c++ls):=by
 subst hes
 have:=Ow.row (es:=List.replicate n .d) (c:=c) (qs:=ts.map fun t=>(t.map C.d,t,[])) (by simpa[Function.comp_def] using hm) (fun q hq=>by
  obtain⟨t,h1,rfl⟩:=List.mem_map.1 hq
  have:=Ow.datas (h:=h) (ds:=t)
  simp only[List.map_const',ht t h1] at this;exact this) hr
 have e:∀ us:List (List D),us.flatMap (fun _=>([]:List Lab))=[]:=fun us=>by induction us<;>simp_all
 simpa[Function.comp_def,List.flatMap_map,e] using this
theorem Z1i {c:C}:(labs c).Nodup:=by cases c<;>simp[labs]
def NewOw (h:HS) (sh:List Sh) (ds:List D) (K:V→HS→Prop):Prop:=∀ cs' h' ls',Ow h' sh cs' ds ls'→ls'.Nodup→(∀ k ∈ ls',h.ep≤k.1∧k.1 < h'.ep)→Same h h' []→BoxLe h h'→K (.agg cs') h'
theorem Z5p (h:HS) (cs:List C) (T:Tbl) (hf:∀ h',Same h h' []→FrzCs h' cs T.enc) (hl:T.cols.length≤LIM∧T.pk.length≤LIM) (K:V→HS→Prop)
  (hk:NewOw h TblSh T.enc K) :
  HSpec Tryz.prog 93 [.agg cs] h K:=by
 refine HSpec.good Tryz.func93 rfl (by kernel_rfl) fun hg=>?_;refine HSpec.of_vc Tryz.func93 rfl (by kernel_rfl) (n:=12) rfl rfl (by simp) ?_;have hf0:=hf h .refl
 match cs,hf0 with
 | [c0,c1,c2],hf0=>
 obtain rfl:=hf0.1.flat rfl;simp;refine Wait.cut (Plan.then_ [0,1,2,3,5,6,4,7,8,9] .done) follows (by kernel_rfl) (fun e h'=>∃ cs' ls',e.n=12∧e.get 2=.one (.ptr (h.ep+1,32) 0)∧h'.box (h.ep+1,32)=some cs'∧Ow h' TblSh cs' T.enc ls'∧ls'.Nodup∧(∀ k ∈ ls',h.ep≤k.1∧k.1 < h'.ep)∧Same h h' []) ?_ ?_
 ·simp[Plan.then_,vcPlan,Z01,Z00,callKind];have hs1:Same h ((h.setBox (h.ep,16) [.d (.str T.name),c1,c2]).next.setBox (h.ep+1,32) [C.d (D.str ByteArray.empty),C.nil,C.nil]).next []:=((Same.refl.setBox (.inr (by simp))).next.setBox (.inr (by simp))).next;have hr1:=(hf _ hs1).2.1.rowAt (n:=3) (by simp[D.flat]) (by simpa using hl.1);refine Z02 (Z97 _ _ _ hr1 _ (fun cc h1 hm1 hs2 hl1 hb1=>?_));simp;refine⟨hb1,?_⟩;have hs3:=hs1.trans hs2;have hr2:=(hf _ hs3).2.2.1.rowAt (n:=1) (by simp[D.flat]) (by simpa using hl.2);refine Z02 (Z2t _ _ _ hr2 _ (fun pc h2 hm2 hs4 hl2 hb2=>?_));have hb0:h1.box (h.ep+1,32)=some [C.d (D.str ByteArray.empty),C.nil,C.nil]:=hb1 _ _ (by simp);have hb3:=hb2 _ _ hb0;simp[hb3];refine⟨hb2,CutK.of ?_⟩;simp at hl1;have hc1:∀ k ∈ labs cc,(h2.setBox (h.ep+1,32) [C.d (D.str T.name),cc,pc]).box k=h1.box k:=fun k hk'=>by
   have h3:=hl1 k.1 k.2 hk';have h4:k≠(h.ep+1,32):=by rintro rfl;simp at h3;omega
   simp[h4,hs4.2 k h3.2 (by simp)]
  have hc2:∀ k ∈ labs pc,(h2.setBox (h.ep+1,32) [C.d (D.str T.name),cc,pc]).box k=h2.box k:=fun k hk'=>by
   have h3:=hl2 k hk';have h5:=hs2.1;simp at h5;have h4:k≠(h.ep+1,32):=by rintro rfl;simp at h3;omega
   simp[h4]
  have ho:=Ow.data (h:=h2.setBox (h.ep+1,32) [C.d (D.str T.name),cc,pc]) (c:=.d (.str T.name)) rfl (Ow.rowD (es:=[.d,.d,.d]) (hm1.frame hc1) rfl (by simp) (Ow.rowD (es:=[.d]) (hm2.frame hc2) rfl (by simp) .nil));refine⟨_,_,by simp,by simp,by simp,ho,?_,?_,(hs3.trans hs4).setBox (.inr (by simp))⟩
  ·rw[List.append_nil,List.nodup_append];refine⟨Z1i,Z1i,fun x hx y hy=>?_⟩;rintro rfl;have h3:=hl1 x.1 x.2 hx;have h4:=hl2 x hy;omega
  ·have h5:=hs2.1;have h6:=hs4.1;simp at h5;intro k hk';rw[List.append_nil,List.mem_append] at hk';rcases hk' with hk' | hk'
   ·have:=hl1 k.1 k.2 hk'
    simp;omega
   ·have:=hl2 k hk'
    simp;omega
 ·rintro e h' ⟨cs',ls',hn,h2,hb,ho,hd,hlt,hs⟩;obtain⟨a,b,d,rfl⟩:∃ a b d,cs'=[a,b,d]:=by
   have:=ho.len.1
   match cs',this with
   | [a,b,d],_=>exact⟨a,b,d,rfl⟩
  simp[hn,h2,hb,retH,resVs,resV];exact hk _ _ _ ho hd hlt hs (hs.boxLe hg)
abbrev Q:=List C × List D × List Lab
def plabs (c:C) (qs:List Q):List Lab:=labs c++qs.flatMap (·.2.2)
structure Part (h:HS) (sh:List Sh) (c:C) (qs:List Q) (ds:List (List D)):Prop where
 mr:MR h sh.length c (qs.map (·.1))
 ds:qs.map (·.2.1)=ds
 ow:∀ q ∈ qs,Ow h sh q.1 q.2.1 q.2.2
theorem Part.frame {h h':HS} {sh:List Sh} {c:C} {qs:List Q} {ds:List (List D)} (p:Part h sh c qs ds) (hb:∀ k ∈ plabs c qs,h'.box k=h.box k):Part h' sh c qs ds:=
 ⟨p.mr.frame fun l hl=>hb l (by simp[plabs,hl]),p.ds,fun q hq=>(p.ow q hq).frame fun l hl=>hb l (by
  simp only[plabs,List.mem_append,List.mem_flatMap];exact .inr ⟨q,hq,hl⟩)⟩
theorem Part.frz {h:HS} {sh:List Sh} {c:C} {qs:List Q} {ds:List (List D)} (p:Part h sh c qs ds):Frz h c (.sl ds):=by
 obtain⟨hm,rfl,ho⟩:=p;exact (Ow.row (es:=sh) hm ho .nil).frz.1
def ConSh:List Sh:=[.d,.d,.d,.d,.d,.d,.d]
structure SchC (h:HS) (l:Lab) (S:Sch) (tc fc oc:C) (qt qf qo:List Q):Prop where
 box:h.box l=some [tc,fc,oc]
 t:Part h TblSh tc qt (S.tables.map Tbl.enc)
 f:Part h FkSh fc qf (S.fks.map Fk.enc)
 o:Part h ConSh oc qo (S.cons.map Cons.enc)
 nd:(l::(plabs tc qt++(plabs fc qf++plabs oc qo))).Nodup
 lt:∀ k ∈ l::(plabs tc qt++(plabs fc qf++plabs oc qo)),k.1 < h.ep
def OwS (h:HS) (l:Lab) (S:Sch) (ls:List Lab):Prop:=∃ tc fc oc qt qf qo,ls=plabs tc qt++(plabs fc qf++plabs oc qo)∧SchC h l S tc fc oc qt qf qo
theorem Zdi {ep:Nat} {A X X' B:List Lab} (h:(A++(X++B)).Nodup) (hx:X'.Nodup) (hn:∀ k ∈ X',k ∈ X∨ep≤k.1) (hl:∀ k ∈ A++(X++B),k.1 < ep):(A++(X'++B)).Nodup:=by
 simp only[List.nodup_append,List.mem_append] at h hl ⊢;obtain⟨hA,⟨hX,hB,hXB⟩,hd⟩:=h;refine⟨hA,⟨hx,hB,fun a ha b hb=>?_⟩,fun a ha b hb=>?_⟩
 ·rintro rfl;rcases hn a ha with h1 | h1
  ·exact hXB a h1 a hb rfl
  ·have:=hl a (.inr (.inr hb));omega
 ·rintro rfl;rcases hb with hb | hb
  ·rcases hn a hb with h1 | h1
   ·exact hd a ha a (.inl h1) rfl
   ·have:=hl a (.inl ha);omega
  ·exact hd a ha a (.inr hb) rfl
theorem SchC.ne {h:HS} {l:Lab} {S:Sch} {tc fc oc:C} {qt qf qo:List Q} (s:SchC h l S tc fc oc qt qf qo):l ∉ plabs tc qt∧l ∉ plabs fc qf∧l ∉ plabs oc qo∧(∀ k ∈ plabs tc qt,k ∉ plabs fc qf∧k ∉ plabs oc qo)∧(∀ k ∈ plabs fc qf,k ∉ plabs oc qo):=by
 have:=s.nd
 simp only[List.nodup_cons,List.nodup_append,List.mem_append,not_or] at this;obtain⟨⟨h1,h2,h3⟩,_,⟨_,_,h4⟩,h5⟩:=this;exact⟨h1,h2,h3,fun k hk=>⟨fun h6=>h5 k hk k (.inl h6) rfl,fun h6=>h5 k hk k (.inr h6) rfl⟩,fun k hk h6=>h4 k hk k h6 rfl⟩
theorem SchC.setO {h h':HS} {l:Lab} {S:Sch} {tc fc oc oc':C} {qt qf qo qo':List Q} {os:List Cons} (s:SchC h l S tc fc oc qt qf qo) (hb:h'.box l=some [tc,fc,oc']) (hp:Part h' ConSh oc' qo' (os.map Cons.enc)) (hs:Same h h' (l::plabs oc qo))
  (hnd:(plabs oc' qo').Nodup) (hn:∀ k ∈ plabs oc' qo',k ∈ plabs oc qo∨(h.ep≤k.1∧k.1 < h'.ep)):SchC h' l { S with cons:=os } tc fc oc' qt qf qo':=by
 obtain⟨n1,n2,n3,n4,n5⟩:=s.ne;have hlt:=s.lt;simp only[List.mem_cons,List.mem_append] at hlt;refine⟨hb,s.t.frame fun k hk=>hs.2 k (hlt k (.inr (.inl hk))) ?_,s.f.frame fun k hk=>hs.2 k (hlt k (.inr (.inr (.inl hk)))) ?_,hp,?_,?_⟩
 ·simp only[List.mem_cons,not_or];exact⟨fun he=>n1 (he ▸ hk),(n4 k hk).2⟩
 ·simp only[List.mem_cons,not_or];exact⟨fun he=>n2 (he ▸ hk),n5 k hk⟩
 ·have:=Zdi (ep:=h.ep) (A:=l::(plabs tc qt++plabs fc qf)) (X:=plabs oc qo) (X':=plabs oc' qo') (B:=[]) (by simpa using s.nd) hnd (fun k hk=>(hn k hk).imp_right And.left) (fun k hk=>s.lt k (by simpa using hk))
  simpa using this
 ·intro k hk
  have:=hs.1
  simp only[List.mem_cons,List.mem_append] at hk;rcases hk with hk | hk | hk | hk
  ·have:=hlt k (.inl hk);omega
  ·have:=hlt k (.inr (.inl hk));omega
  ·have:=hlt k (.inr (.inr (.inl hk)));omega
  ·rcases hn k hk with h1 | h1
   ·have:=hlt k (.inr (.inr (.inr h1)));omega
   ·exact h1.2
theorem SchC.setF {h h':HS} {l:Lab} {S:Sch} {tc fc fc' oc:C} {qt qf qf' qo:List Q} {fs:List Fk} (s:SchC h l S tc fc oc qt qf qo) (hb:h'.box l=some [tc,fc',oc]) (hp:Part h' FkSh fc' qf' (fs.map Fk.enc)) (hs:Same h h' (l::plabs fc qf))
  (hnd:(plabs fc' qf').Nodup) (hn:∀ k ∈ plabs fc' qf',k ∈ plabs fc qf∨(h.ep≤k.1∧k.1 < h'.ep)):SchC h' l { S with fks:=fs } tc fc' oc qt qf' qo:=by
 obtain⟨n1,n2,n3,n4,n5⟩:=s.ne;have hlt:=s.lt;simp only[List.mem_cons,List.mem_append] at hlt;refine⟨hb,s.t.frame fun k hk=>hs.2 k (hlt k (.inr (.inl hk))) ?_,hp,s.o.frame fun k hk=>hs.2 k (hlt k (.inr (.inr (.inr hk)))) ?_,?_,?_⟩
 ·simp only[List.mem_cons,not_or];exact⟨fun he=>n1 (he ▸ hk),(n4 k hk).1⟩
 ·simp only[List.mem_cons,not_or];exact⟨fun he=>n3 (he ▸ hk),fun h6=>n5 k h6 hk⟩
 ·have:=Zdi (ep:=h.ep) (A:=l::plabs tc qt) (X:=plabs fc qf) (X':=plabs fc' qf') (B:=plabs oc qo) (by simpa using s.nd) hnd (fun k hk=>(hn k hk).imp_right And.left) (fun k hk=>s.lt k (by simpa using hk))
  simpa using this
 ·intro k hk
  have:=hs.1
  simp only[List.mem_cons,List.mem_append] at hk;rcases hk with hk | hk | hk | hk
  ·have:=hlt k (.inl hk);omega
  ·have:=hlt k (.inr (.inl hk));omega
  ·rcases hn k hk with h1 | h1
   ·have:=hlt k (.inr (.inr (.inl h1)));omega
   ·exact h1.2
  ·have:=hlt k (.inr (.inr (.inr hk)));omega
theorem SchC.setT {h h':HS} {l:Lab} {S:Sch} {tc tc' fc oc:C} {qt qt' qf qo:List Q} {ts:List Tbl} (s:SchC h l S tc fc oc qt qf qo) (hb:h'.box l=some [tc',fc,oc]) (hp:Part h' TblSh tc' qt' (ts.map Tbl.enc)) (hs:Same h h' (l::plabs tc qt))
  (hnd:(plabs tc' qt').Nodup) (hn:∀ k ∈ plabs tc' qt',k ∈ plabs tc qt∨(h.ep≤k.1∧k.1 < h'.ep)):SchC h' l { S with tables:=ts } tc' fc oc qt' qf qo:=by
 obtain⟨n1,n2,n3,n4,n5⟩:=s.ne;have hlt:=s.lt;simp only[List.mem_cons,List.mem_append] at hlt;refine⟨hb,hp,s.f.frame fun k hk=>hs.2 k (hlt k (.inr (.inr (.inl hk)))) ?_,s.o.frame fun k hk=>hs.2 k (hlt k (.inr (.inr (.inr hk)))) ?_,?_,?_⟩
 ·simp only[List.mem_cons,not_or];exact⟨fun he=>n2 (he ▸ hk),fun h6=>(n4 k h6).1 hk⟩
 ·simp only[List.mem_cons,not_or];exact⟨fun he=>n3 (he ▸ hk),fun h6=>(n4 k h6).2 hk⟩
 ·have:=Zdi (ep:=h.ep) (A:=[l]) (X:=plabs tc qt) (X':=plabs tc' qt') (B:=plabs fc qf++plabs oc qo) (by simpa using s.nd) hnd (fun k hk=>(hn k hk).imp_right And.left) (fun k hk=>s.lt k (by simpa using hk))
  simpa using this
 ·intro k hk
  have:=hs.1
  simp only[List.mem_cons,List.mem_append] at hk;rcases hk with hk | hk | hk | hk
  ·have:=hlt k (.inl hk);omega
  ·rcases hn k hk with h1 | h1
   ·have:=hlt k (.inr (.inl h1));omega
   ·exact h1.2
  ·have:=hlt k (.inr (.inr (.inl hk)));omega
  ·have:=hlt k (.inr (.inr (.inr hk)));omega
def KeepS (h:HS) (l:Lab) (ls:List Lab) (S':Sch) (v:V) (K:V→HS→Prop):Prop:=∀ h' ls',OwS h' l S' ls'→Same h h' (l::ls)→(∀ k ∈ ls',k ∈ ls∨h.ep≤k.1)→K v h'
theorem Zhw {α β:Type} {f:α→List β} {xs ys:List α} (h:xs.Sublist ys):(xs.flatMap f).Sublist (ys.flatMap f):=by
 induction h with
 | slnil=>exact .slnil
 | cons a _ ih=>rw[List.flatMap_cons];exact ih.trans (List.sublist_append_right _ _)
 | cons_cons a _ ih=>rw[List.flatMap_cons,List.flatMap_cons];exact (List.Sublist.refl _).append ih
theorem Z94 {c c':C} {qs qs':List Q} (h:qs'.Sublist qs) (hc:labs c'=labs c):(plabs c' qs').Sublist (plabs c qs):=by
 unfold plabs;rw[hc];exact (List.Sublist.refl _).append (Zhw h)
theorem Part.sub {h h2:HS} {sh:List Sh} {c c':C} {qs qs':List Q} {ds:List (List D)} (p:Part h sh c qs ds) (hq:∀ q ∈ qs',q ∈ qs) (hm:MR h2 sh.length c' (qs'.map (·.1))) (hnd:(plabs c qs).Nodup) (hb:∀ k,k ∉ labs c→(∃ q ∈ qs,k ∈ q.2.2)→h2.box k=h.box k):Part h2 sh c' qs' (qs'.map (·.2.1)):=by
 refine⟨hm,rfl,fun q hqm=>(p.ow q (hq q hqm)).frame fun k hk=>hb k (fun hk2=>?_) ⟨q,hq q hqm,hk⟩⟩;simp only[plabs,List.nodup_append] at hnd;exact hnd.2.2 k hk2 k (List.mem_flatMap.2 ⟨q,hq q hqm,hk⟩) rfl
theorem SchC.nds {h:HS} {l:Lab} {S:Sch} {tc fc oc:C} {qt qf qo:List Q} (s:SchC h l S tc fc oc qt qf qo):(plabs tc qt).Nodup∧(plabs fc qf).Nodup∧(plabs oc qo).Nodup:=by
 have:=s.nd
 simp only[List.nodup_cons,List.nodup_append] at this;exact⟨this.2.1,this.2.2.1.1,this.2.2.1.2.1⟩
theorem Zfv {α:Type} {qs:List α} {i j:Nat} (h:i≤j):(qs.take i++qs.drop j).Sublist qs:=by
 have h1:(qs.drop j).Sublist (qs.drop i):=by
  have:qs.drop j=(qs.drop i).drop (j - i):=by rw[List.drop_drop];congr 1;omega
  rw[this];exact List.drop_sublist _ _
 have h2:=(List.Sublist.refl (qs.take i)).append h1
 rwa [List.take_append_drop] at h2
theorem SchC.frame {h h':HS} {l:Lab} {S:Sch} {tc fc oc:C} {qt qf qo:List Q} (s:SchC h l S tc fc oc qt qf qo) (hs:Same h h' []):SchC h' l S tc fc oc qt qf qo:=by
 have hb:∀ k ∈ l::(plabs tc qt++(plabs fc qf++plabs oc qo)),h'.box k=h.box k:=fun k hk=>hs.2 k (s.lt k hk) (by simp);simp only[List.mem_cons,List.mem_append] at hb;exact⟨by rw[hb l (.inl rfl),s.box],s.t.frame fun k hk=>hb k (.inr (.inl hk)),s.f.frame fun k hk=>hb k (.inr (.inr (.inl hk))),s.o.frame fun k hk=>hb k (.inr (.inr (.inr hk))),s.nd,fun k hk=>Nat.lt_of_lt_of_le (s.lt k hk) hs.1⟩
theorem FrzCs.datas {h:HS}:∀ {ds:List D},FrzCs h (ds.map C.d) ds
 | []=>trivial
 | _::_=>⟨.data rfl,FrzCs.datas⟩
end
end Go.Proofs.YthiojhcimecdgaaGreatDoor
section
namespace Go.Proofs.YthiojhcimecdgaaGreatDoor
open Go Go.Am
theorem le_s {n m:Nat} (h:n≤m):n≤m+1:=Nat.le_succ_of_le h
theorem ne_new {l:Lab} {n:Nat} (hl:l.1 < n):∀ m b,n≤m→(l=(m,b))=False:=fun m b h=>eq_false fun he=>by rw[he] at hl;simp at hl;omega
theorem Z6p {l:Lab} {n:Nat} (hl:l.1 < n):∀ m b,n≤m→((m,b)=l)=False:=fun m b h=>eq_false fun he=>by rw[← he] at hl;simp at hl;omega
theorem Zcu {α:Type} {xs:List α} {i:Nat} {x:α} (h:xs[i]?=some x):xs.set i x=xs:=by
 obtain⟨hi,rfl⟩:=List.getElem?_eq_some_iff.1 h;exact List.set_getElem_self hi
theorem Z74 {c:C} {qs:List Q} {i:Nat} {q q':Q} (hi:qs[i]?=some q) (hl:q'.2.2=q.2.2):plabs c (qs.set i q')=plabs c qs:=by
 unfold plabs
 congr 1
 have:(qs.set i q').map (·.2.2)=qs.map (·.2.2):=by
  rw[List.map_set,hl];exact Zcu (by rw[List.getElem?_map,hi];rfl)
 rw[List.flatMap_def,List.flatMap_def,this]
theorem Z75 {c:C} {qs:List Q} {i j:Nat} {q q2:Q} {k:Lab} (hnd:(plabs c qs).Nodup) (hi:qs[i]?=some q) (hj:qs[j]?=some q2) (hne:j≠i) (hk:k ∈ q2.2.2):k ∉ labs c∧k ∉ q.2.2:=by
 simp only[plabs,List.nodup_append] at hnd;refine⟨fun h=>hnd.2.2 k h k (List.mem_flatMap.2 ⟨q2,List.mem_of_getElem? hj,hk⟩) rfl,fun h=>?_⟩;have h1:=(List.pairwise_flatMap.1 hnd.2.1).2;rw[List.pairwise_iff_getElem] at h1;obtain⟨li,ei⟩:=List.getElem?_eq_some_iff.1 hi;obtain⟨lj,ej⟩:=List.getElem?_eq_some_iff.1 hj;rcases Nat.lt_or_gt_of_ne hne with hlt | hlt
 ·exact h1 j i lj li hlt k (by rw[ej];exact hk) k (by rw[ei];exact h) rfl
 ·exact h1 i j li lj hlt k (by rw[ei];exact h) k (by rw[ej];exact hk) rfl
theorem Z4h {c:C} {qs:List Q} {i:Nat} {q:Q} {k:Lab} (hnd:(plabs c qs).Nodup) (hi:qs[i]?=some q) (hk:k ∈ q.2.2):k ∉ labs c:=by
 simp only[plabs,List.nodup_append] at hnd;exact fun h=>hnd.2.2 k h k (List.mem_flatMap.2 ⟨q,List.mem_of_getElem? hi,hk⟩) rfl
theorem Z3i {c:C} {qs:List Q} {i:Nat} {q:Q} {k:Lab} (hi:qs[i]?=some q) (hk:k ∈ q.2.2):k ∈ plabs c qs:=by
 simp only[plabs,List.mem_append,List.mem_flatMap];exact .inr ⟨q,List.mem_of_getElem? hi,hk⟩
theorem Zfb {c:C} {qs:List Q} {i:Nat} {q:Q} (hnd:(plabs c qs).Nodup) (hi:qs[i]?=some q):q.2.2.Nodup:=by
 simp only[plabs,List.nodup_append] at hnd;exact (List.pairwise_flatMap.1 hnd.2.1).1 q (List.mem_of_getElem? hi)
theorem Part.upd {h h':HS} {sh:List Sh} {c:C} {qs:List Q} {ds:List (List D)} {i:Nat} {q q':Q} (P:Part h sh c qs ds) (hi:qs[i]?=some q) (hm:MR h' sh.length c ((qs.map (·.1)).set i q'.1)) (ho:Ow h' sh q'.1 q'.2.1 q'.2.2)
  (hb:∀ j q2,j≠i→qs[j]?=some q2→∀ k ∈ q2.2.2,h'.box k=h.box k):Part h' sh c (qs.set i q') (ds.set i q'.2.1):=by
 refine⟨by rw[List.map_set];exact hm,by rw[List.map_set,P.ds],fun q2 hq=>?_⟩;obtain⟨j,hj⟩:=List.getElem?_of_mem hq
 by_cases hji:j=i
 ·subst hji;have hlt:j < qs.length:=(List.getElem?_eq_some_iff.1 hi).1;rw[List.getElem?_set_self hlt] at hj;cases hj;exact ho
 ·rw[List.getElem?_set_ne (fun h=>hji h.symm)] at hj;exact (P.ow q2 (List.mem_of_getElem? hj)).frame fun k hk=>hb j q2 hji hj k hk
theorem Part.at {h:HS} {sh:List Sh} {c:C} {qs:List Q} {ds:List (List D)} (P:Part h sh c qs ds) {i:Nat} {d:List D} (hi:ds[i]?=some d) :
  ∃ q lr cap sp,qs[i]?=some q∧q.2.1=d∧Ow h sh q.1 d q.2.2∧c=.mrow lr 0 ds.length cap∧h.box lr=some (rowBox (qs.map (·.1)) sp)∧(rowBox (qs.map (·.1)) sp).length=cap * sh.length∧AllC sh.length (qs.map (·.1))∧(qs.map (·.1))[i]?=some q.1:=by
 have hd:=P.ds;subst hd;rw[List.getElem?_map] at hi;cases hq:qs[i]? with
 | none=>rw[hq] at hi;simp at hi
 | some q=>
   rw[hq] at hi;simp only[Option.map_some,Option.some.injEq] at hi;have hlt:i < qs.length:=(List.getElem?_eq_some_iff.1 hq).1;obtain⟨lr,cap,sp,h1,h2,h3⟩:=P.mr.block (by simp;omega);refine⟨q,lr,cap,sp,rfl,hi,hi ▸ P.ow q (List.mem_of_getElem? hq),by simpa using h1,h2,h3,P.mr.1,by rw[List.getElem?_map,hq];rfl⟩
theorem Part.wr {h:HS} {sh:List Sh} {c:C} {qs:List Q} {ds:List (List D)} {i f n cap:Nat} {q:Q} {lr:Lab} {sp vs:List C} {d':List D} (P:Part h sh c qs ds) (hnd:(plabs c qs).Nodup) (hi:qs[i]?=some q) (hc:c=.mrow lr 0 n cap) (hB:h.box lr=some (rowBox (qs.map (·.1)) sp))
  (hlen:(rowBox (qs.map (·.1)) sp).length=cap * sh.length) (hf:f+vs.length≤sh.length) (ho:Ow h sh (Z03 q.1 f vs) d' q.2.2) :
  Part (h.setBox lr (Z03 (rowBox (qs.map (·.1)) sp) (i * sh.length+f) vs)) sh c (qs.set i (Z03 q.1 f vs,d',q.2.2)) (ds.set i d'):=by
 have hx:(qs.map (·.1))[i]?=some q.1:=by rw[List.getElem?_map,hi];rfl
 have hlr:labs c=[lr]:=by rw[hc];rfl
 have hself:∀ k ∈ q.2.2,k≠lr:=fun k hk he=>Z4h hnd hi hk (by rw[hlr,he];simp);refine P.upd (q':=(Z03 q.1 f vs,d',q.2.2)) hi ?_ (ho.frame fun k hk=>by simp[hself k hk]) (fun j q2 hne hj k hk=>?_)
 ·have hset:=Z60 (sp:=sp) (vs:=vs) P.mr.1 hx hf;have hq1:=P.mr.1.get hx;refine⟨P.mr.1.set (by rw[Z06 (by omega)];exact hq1),by simpa using P.mr.2.1,.inr ⟨lr,cap,sp,?_,by simp[hset],?_⟩⟩
  ·rcases P.mr.2.2 with ⟨h1,h2⟩ | ⟨l2,cap2,sp2,h1,_⟩
   ·rw[h1] at hx;simp at hx
   ·rw[hc] at h1 ⊢;simp at h1;simp[h1]
  ·rw[← hset,Z06 ?_,hlen]
   have:=Z6o (sp:=sp) P.mr.1 (List.getElem?_eq_some_iff.1 hx).1
   omega
 ·have:=(Z75 hnd hi hj hne hk).1
  rw[hlr] at this;have h2:k≠lr:=fun he=>this (by simp[he]);simp[h2]
end Go.Proofs.YthiojhcimecdgaaGreatDoor
namespace Go.Am
open Go Go.Proofs.YthiojhcimecdgaaGreatDoor
theorem Ow.flat {h:HS} {ss:List Sh} {cs:List C} {ds:List D} {ls:List Lab} (o:Ow h ss cs ds ls):∀ {n:Nat},ss=List.replicate n .d→(∀ d ∈ ds,d.flat=true)→cs=ds.map C.d∧ls=[]:=by
 induction o with
 | nil=>intro n _ _;exact⟨rfl,rfl⟩
 | @data c x ss cs ds ls hx hr ih=>
   intro n he hf;cases n with
   | zero=>simp at he
   | succ n=>
     simp[List.replicate_succ] at he;obtain⟨h1,h2⟩:=ih he (fun d hd=>hf d (by simp[hd]));have h3:=(Frz.data (h:=h) hx).flat (hf x (by simp));exact⟨by rw[h1,h3];rfl,h2⟩
 | @emp es c ss cs ds ls hx hr ih=>
   intro n he hf;cases n<;>simp[List.replicate_succ] at he
 | @row es c qs ss cs ds ls hm hq hr ihq ih=>
   intro n he hf;cases n<;>simp[List.replicate_succ] at he
end Go.Am
namespace Go.Proofs.YthiojhcimecdgaaGreatDoor
open Go Go.Am
end Go.Proofs.YthiojhcimecdgaaGreatDoor
namespace Go.Am
open Go Go.Proofs.YthiojhcimecdgaaGreatDoor
theorem Ow.inv_part {h:HS} {es ss:List Sh} {cs:List C} {ts:List (List D)} {ds:List D} {ls:List Lab} (o:Ow h (.r es::ss) cs (.sl ts::ds) ls):ts=[]∨∃ (c:C) (qs:List Q) (cs':List C) (ls':List Lab),cs=c::cs'∧ls=plabs c qs++ls'∧Part h es c qs ts∧Ow h ss cs' ds ls':=by
 rcases o.inv_r with ⟨c,cs',ds',rfl,h2,_⟩ | ⟨c,qs,cs',ds',ls',rfl,h2,rfl,hm,hq,hr⟩
 ·simp at h2;exact .inl h2.1
 ·simp at h2;obtain⟨h2,h3⟩:=h2;refine .inr ⟨c,qs,cs',ls',rfl,rfl,⟨hm,h2.symm,hq⟩,?_⟩;rw[h3];exact hr
end Go.Am
namespace Go.Proofs.YthiojhcimecdgaaGreatDoor
open Go Go.Am
end Go.Proofs.YthiojhcimecdgaaGreatDoor
namespace Go.Am
open Go Go.Proofs.YthiojhcimecdgaaGreatDoor
theorem Ow.mk_part {h:HS} {es ss:List Sh} {c:C} {qs:List Q} {cs:List C} {ts:List (List D)} {ds:List D} {ls:List Lab} (P:Part h es c qs ts) (o:Ow h ss cs ds ls):Ow h (.r es::ss) (c::cs) (.sl ts::ds) (plabs c qs++ls):=by
 obtain⟨hm,rfl,hq⟩:=P;exact .row hm hq o
end Go.Am
namespace Go.Proofs.YthiojhcimecdgaaGreatDoor
open Go Go.Am
def Sc (h:HS) (l:Lab) (S:Sch) (tc fc oc:C) (ta fa oa:List Lab):Prop:=∃ qt qf qo,ta=plabs tc qt∧fa=plabs fc qf∧oa=plabs oc qo∧SchC h l S tc fc oc qt qf qo
section
variable {h h':HS} {l:Lab} {S:Sch} {tc fc oc:C} {ta fa oa:List Lab}
theorem Sc.box (s:Sc h l S tc fc oc ta fa oa):h.box l=some [tc,fc,oc]:=by
 obtain⟨_,_,_,_,_,_,s⟩:=s;exact s.box
theorem Sc.frame (s:Sc h l S tc fc oc ta fa oa) (hs:Same h h' []):Sc h' l S tc fc oc ta fa oa:=by
 obtain⟨qt,qf,qo,h1,h2,h3,s⟩:=s;exact⟨qt,qf,qo,h1,h2,h3,s.frame hs⟩
theorem Sc.ows (s:Sc h l S tc fc oc ta fa oa):OwS h l S (ta++(fa++oa)):=by
 obtain⟨qt,qf,qo,rfl,rfl,rfl,s⟩:=s;exact⟨tc,fc,oc,qt,qf,qo,rfl,s⟩
theorem OwS.sc {ls:List Lab} (o:OwS h l S ls):∃ tc fc oc ta fa oa,ls=ta++(fa++oa)∧Sc h l S tc fc oc ta fa oa:=by
 obtain⟨tc,fc,oc,qt,qf,qo,h1,s⟩:=o;exact⟨tc,fc,oc,_,_,_,h1,qt,qf,qo,rfl,rfl,rfl,s⟩
theorem Sc.lt (s:Sc h l S tc fc oc ta fa oa):∀ k ∈ l::(ta++(fa++oa)),k.1 < h.ep:=by
 obtain⟨qt,qf,qo,rfl,rfl,rfl,s⟩:=s;exact s.lt
theorem Sc.nd (s:Sc h l S tc fc oc ta fa oa):(l::(ta++(fa++oa))).Nodup:=by
 obtain⟨qt,qf,qo,rfl,rfl,rfl,s⟩:=s;exact s.nd
theorem Sc.tfrz (s:Sc h l S tc fc oc ta fa oa):Frz h tc (.sl (S.tables.map Tbl.enc)):=by
 obtain⟨qt,qf,qo,rfl,rfl,rfl,s⟩:=s;exact s.t.frz
theorem Sc.ffrz (s:Sc h l S tc fc oc ta fa oa):Frz h fc (.sl (S.fks.map Fk.enc)):=by
 obtain⟨qt,qf,qo,rfl,rfl,rfl,s⟩:=s;exact s.f.frz
theorem Sc.ofrz (s:Sc h l S tc fc oc ta fa oa):Frz h oc (.sl (S.cons.map Cons.enc)):=by
 obtain⟨qt,qf,qo,rfl,rfl,rfl,s⟩:=s;exact s.o.frz
theorem Sc.frz (s:Sc h l S tc fc oc ta fa oa):FrzCs h [tc,fc,oc] S.enc:=⟨s.tfrz,s.ffrz,s.ofrz,trivial⟩
end
end Go.Proofs.YthiojhcimecdgaaGreatDoor
namespace Go.Am
open Go Go.Proofs.YthiojhcimecdgaaGreatDoor
theorem MR.len {h:HS} {n:Nat} {c:C} {xs:List (List C)} (m:MR h n c xs):cLen c=some xs.length:=m.rd.2.1
end Go.Am
namespace Go.Proofs.YthiojhcimecdgaaGreatDoor
open Go Go.Am
theorem Sc.len {h:HS} {l:Lab} {S:Sch} {tc fc oc:C} {ta fa oa:List Lab} (s:Sc h l S tc fc oc ta fa oa):(cLen tc=some S.tables.length∧S.tables.length≤LIM)∧(cLen fc=some S.fks.length∧S.fks.length≤LIM)∧cLen oc=some S.cons.length∧S.cons.length≤LIM:=by
 obtain⟨qt,qf,qo,rfl,rfl,rfl,s⟩:=s;have e1:qt.length=S.tables.length:=by have:=congrArg List.length s.t.ds;simpa using this
 have e2:qf.length=S.fks.length:=by have:=congrArg List.length s.f.ds;simpa using this
 have e3:qo.length=S.cons.length:=by have:=congrArg List.length s.o.ds;simpa using this
 have h1:=s.t.mr.rd;have h2:=s.f.mr.rd;have h3:=s.o.mr.rd;refine⟨⟨?_,?_⟩,⟨?_,?_⟩,?_,?_⟩
 ·rw[h1.2.1];simp[e1]
 ·rw[← e1];simpa using h1.2.2.2
 ·rw[h2.2.1];simp[e2]
 ·rw[← e2];simpa using h2.2.2.2
 ·rw[h3.2.1];simp[e3]
 ·rw[← e3];simpa using h3.2.2.2
theorem Z1a {c:C} {n:Nat} {f:Nat→Prop} (hc:cLen c=some n) (hk:f n):lenK c (k:=⟨f⟩):=by
 unfold lenK;cases c<;>simp[cLen,C.list?] at hc<;>first | (subst hc;exact hk) | skip
 ·rename_i x;cases x<;>simp at hc;subst hc;exact fun _=>hk
 ·subst hc;exact fun _=>hk
 ·subst hc;exact fun _=>hk
 ·subst hc;exact fun _=>hk
theorem Zj6:FkSh.length=3:=rfl
theorem Ze6:TblSh.length=3:=rfl
theorem SchC.wrF {h h':HS} {l:Lab} {S:Sch} {tc fc oc:C} {qt qf qf' qo:List Q} {fs:List Fk} (s:SchC h l S tc fc oc qt qf qo) (hp:Part h' FkSh fc qf' (fs.map Fk.enc)) (hs:Same h h' (plabs fc qf)) (hl:plabs fc qf'=plabs fc qf):SchC h' l { S with fks:=fs } tc fc oc qt qf' qo:=
 s.setF (by rw[hs.2 l (s.lt l (by simp)) s.ne.2.1];exact s.box) hp (hs.mono fun k hk=>by simp[hk]) (by rw[hl];exact s.nds.2.1) (fun k hk=>.inl (hl ▸ hk))
theorem SchC.wrO {h h':HS} {l:Lab} {S:Sch} {tc fc oc:C} {qt qf qo qo':List Q} {os:List Cons} (s:SchC h l S tc fc oc qt qf qo) (hp:Part h' ConSh oc qo' (os.map Cons.enc)) (hs:Same h h' (plabs oc qo)) (hl:plabs oc qo'=plabs oc qo):SchC h' l { S with cons:=os } tc fc oc qt qf qo':=
 s.setO (by rw[hs.2 l (s.lt l (by simp)) s.ne.2.2.1];exact s.box) hp (hs.mono fun k hk=>by simp[hk]) (by rw[hl];exact s.nds.2.2) (fun k hk=>.inl (hl ▸ hk))
end Go.Proofs.YthiojhcimecdgaaGreatDoor
namespace Go.Am
open Go Go.Proofs.YthiojhcimecdgaaGreatDoor
theorem Same.set1 {h:HS} {l:Lab} {cs:List C} {ls:List Lab} (hl:l ∈ ls):Same h (h.setBox l cs) ls:=Same.refl.setBox (.inl hl)
end Go.Am
namespace Go.Proofs.YthiojhcimecdgaaGreatDoor
open Go Go.Am
structure Elem (h:HS) (lr:Lab) (i n:Nat) (x:List C) (B:List C):Prop where
 box:h.box lr=some B
 rd:∀ g m,g+m≤n→takeN m (B.drop (i * n+g))=takeN m (x.drop g)
 rd0:∀ m,m≤n→takeN m (B.drop (i * n))=takeN m x
 le:i * n+n≤B.length
theorem Part.elem {h:HS} {sh:List Sh} {c:C} {qs:List Q} {ds:List (List D)} (P:Part h sh c qs ds) {i:Nat} {d:List D} (hi:ds[i]?=some d) :
  ∃ q lr cap sp,qs[i]?=some q∧q.2.1=d∧Ow h sh q.1 d q.2.2∧c=.mrow lr 0 ds.length cap∧(rowBox (qs.map (·.1)) sp).length=cap * sh.length∧Elem h lr i sh.length q.1 (rowBox (qs.map (·.1)) sp):=by
 obtain⟨q,lr,cap,sp,h1,h2,h3,h4,h5,h6,h7,h8⟩:=P.at hi;refine⟨q,lr,cap,sp,h1,h2,h3,h4,h6,h5,fun g m hg=>Z5j h7 h8 hg,fun m hm=>?_,Z6o h7 (List.getElem?_eq_some_iff.1 h8).1⟩
 have:=Z5j (sp:=sp) (f:=0) (m:=m) h7 h8 (by omega)
 simpa using this
end Go.Proofs.YthiojhcimecdgaaGreatDoor
end
namespace Go.Proofs.YthiojhcimecdgaaGreatDoor
section
open Go Go.Am
theorem Z61 {α β:Type} {f:α→β} {xs:List α} {i:Nat} {x:α} (h:xs[i]?=some x):(xs.map f)[i]?=some (f x):=by rw[List.getElem?_map,h];rfl
theorem Z8b {α β:Type} {f:α→β} {xs:List α} {i:Nat} {x:α}:(xs.set i x).map f=(xs.map f).set i (f x):=List.map_set
theorem Part.elemD {h:HS} {n:Nat} {sh:List Sh} {c:C} {qs:List Q} {ds:List (List D)} (P:Part h sh c qs ds) (hsh:sh=List.replicate n .d) {i:Nat} {d:List D} (hi:ds[i]?=some d) (hf:∀ x ∈ d,x.flat=true) :
  ∃ lr cap B,c=.mrow lr 0 ds.length cap∧Elem h lr i n (d.map C.d) B∧qs[i]?=some (d.map C.d,d,[]) ∧
    (∀ g vs d',(plabs c qs).Nodup→g+vs.length≤n→Z03 (d.map C.d) g vs=d'.map C.d→d'.length=n→∃ qs',plabs c qs'=plabs c qs∧Part (h.setBox lr (Z03 B (i * n+g) vs)) sh c qs' (ds.set i d')):=by
 obtain⟨q,lr,cap,sp,h1,h2,h3,h4,h5,h6⟩:=P.elem hi;have hn:sh.length=n:=by rw[hsh];simp
 obtain⟨e1,e2⟩:=h3.flat hsh hf;have eq:q=(d.map C.d,d,[]):=by rw[← e1,← e2,← h2]
 subst eq;rw[hn] at h5 h6;refine⟨lr,cap,_,h4,h6,h1,fun g vs d' hnd hg hs hd=>?_⟩;refine⟨qs.set i (Z03 (d.map C.d) g vs,d',[]),Z74 h1 rfl,?_⟩
 have:=P.wr (f:=g) (vs:=vs) (d':=d') hnd h1 h4 h6.box (by rw[h5,hn]) (by rw[hn];exact hg) (by
  rw[hs,hsh]
  have:=Ow.datas (h:=h) (ds:=d')
  simp only[List.map_const',hd] at this;exact this)
 rw[hn] at this;exact this
theorem Cons.flat (c:Cons):∀ x ∈ c.enc,x.flat=true:=by simp[D.flat]
theorem Col.flat (c:Col):∀ x ∈ c.enc,x.flat=true:=by simp[D.flat]
theorem Zdy (c:Int):∀ x ∈ encI c,x.flat=true:=by simp[D.flat]
theorem Sc.con {h:HS} {l:Lab} {S:Sch} {tc fc oc:C} {ta fa oa:List Lab} (s:Sc h l S tc fc oc ta fa oa) {i:Nat} {c:Cons} (hi:S.cons[i]?=some c) :
  ∃ lo cap B,oc=.mrow lo 0 S.cons.length cap∧lo ∈ oa∧Elem h lo i 7 (c.enc.map C.d) B ∧
    ∀ g vs c',g+vs.length≤7→Z03 (c.enc.map C.d) g vs=c'.enc.map C.d→Sc (h.setBox lo (Z03 B (i * 7+g) vs)) l { S with cons:=S.cons.set i c' } tc fc oc ta fa oa:=by
 obtain⟨qt,qf,qo,rfl,rfl,rfl,s⟩:=s;obtain⟨lo,cap,B,h1,h2,h3,h4⟩:=s.o.elemD (n:=7) rfl (Z61 hi) c.flat;have hm:lo ∈ plabs oc qo:=by rw[h1];simp[plabs,labs]
 refine⟨lo,cap,B,by simpa using h1,hm,h2,fun g vs c' hg hs=>?_⟩;obtain⟨qo',h5,h6⟩:=h4 g vs c'.enc s.nds.2.2 hg hs rfl;refine⟨qt,qf,qo',rfl,rfl,h5.symm,s.wrO (by rw[Z8b];exact h6) (Same.set1 hm) h5⟩
theorem Sc.fk {h:HS} {l:Lab} {S:Sch} {tc fc oc:C} {ta fa oa:List Lab} (s:Sc h l S tc fc oc ta fa oa) {i:Nat} {f:Fk} (hi:S.fks[i]?=some f) :
  ∃ lf cap B c1,fc=.mrow lf 0 S.fks.length cap∧lf ∈ fa∧Elem h lf i 3 [.d (.str f.table),c1,.d (.str f.ref)] B∧(∀ h',Same h h' []→Frz h' c1 (.sl (f.cols.map encI)))∧(cLen c1=some f.cols.length∧f.cols.length≤LIM) ∧
    (∀ g vs f',f'.cols=f.cols→g+vs.length≤3→Z03 [.d (.str f.table),c1,.d (.str f.ref)] g vs=[.d (.str f'.table),c1,.d (.str f'.ref)]→Sc (h.setBox lf (Z03 B (i * 3+g) vs)) l { S with fks:=S.fks.set i f' } tc fc oc ta fa oa) ∧
    (∀ k v,f.cols[k]?=some v→∃ l2 cap2 B2,c1=.mrow l2 0 f.cols.length cap2∧l2 ∈ fa∧l2≠lf∧Elem h l2 k 1 [.d (.int .i64 v)] B2 ∧
     ∀ v',Sc (h.setBox l2 (Z03 B2 (k * 1) [.d (.int .i64 v')])) l { S with fks:=S.fks.set i { f with cols:=f.cols.set k v' } } tc fc oc ta fa oa):=by
 obtain⟨qt,qf,qo,rfl,rfl,rfl,s⟩:=s;have hnd:=s.nds.2.1;have hlt:∀ k ∈ plabs fc qf,k.1 < h.ep:=fun k hk=>s.lt k (by simp[hk]);obtain⟨q,lf,cap,sp,h1,h2,h3,h4,h5,h6⟩:=s.f.elem (Z61 (f:=Fk.enc) hi);have hm:lf ∈ plabs fc qf:=by rw[h4];simp[plabs,labs]
 rw[Zj6] at h5 h6;obtain⟨qc,qd,ql⟩:=q;simp only at h2 h3 h6;subst h2;obtain⟨c0,x0,cs,ds,rfl,e1,e2,h7⟩:=h3.inv_d;simp only[Fk.enc,List.cons.injEq] at e1;obtain⟨rfl,rfl⟩:=e1;obtain rfl:=(Frz.data (h:=h) e2).flat rfl;have hfz:∀ h',Same h h' []→FrzCs h' cs [.sl (f.cols.map encI),.str f.ref]:=fun h' hs=>(h7.frame fun k hk=>hs.2 k (hlt k (Z3i h1 hk)) (by simp)).frz;have key:∃ c1,cs=[c1,.d (.str f.ref)]∧(cLen c1=some f.cols.length∧f.cols.length≤LIM):=by
  rcases h7.inv_r with ⟨c1,cs',ds',rfl,e3,e4,h8⟩ | ⟨c1,qs1,cs',ds',ls',rfl,e3,_,hm1,_,h8⟩
  ·simp only[List.cons.injEq] at e3;obtain⟨e3,rfl⟩:=e3;obtain⟨c2,x2,cs2,ds2,rfl,e5,e6,h9⟩:=h8.inv_d;simp only[List.cons.injEq] at e5;obtain⟨rfl,rfl⟩:=e5;obtain rfl:=(Frz.data (h:=h) e6).flat rfl;obtain⟨rfl,_,_⟩:=h9.inv_nil;simp at e3;refine⟨c1,rfl,?_,by simp[e3]⟩;cases c1<;>simp[C.toD] at e4<;>subst_vars<;>simp[cLen,C.list?,e3]
  ·simp only[List.cons.injEq] at e3;obtain⟨e3,rfl⟩:=e3;obtain⟨c2,x2,cs2,ds2,rfl,e5,e6,h9⟩:=h8.inv_d;simp only[List.cons.injEq] at e5;obtain⟨rfl,rfl⟩:=e5;obtain rfl:=(Frz.data (h:=h) e6).flat rfl;obtain⟨rfl,_,_⟩:=h9.inv_nil;simp at e3;have e4:=congrArg List.length e3;simp at e4;exact⟨c1,rfl,by rw[MR.len hm1];simp[e4],by rw[e4];simpa using hm1.2.1⟩
 obtain⟨c1,rfl,hcl⟩:=key;refine⟨lf,cap,_,c1,by simpa using h4,hm,h6,fun h' hs=>(hfz h' hs).1,hcl,fun g vs f' hc hg hset=>?_,fun k v hk=>?_⟩
 ·refine⟨qt,qf.set i ([.d (.str f'.table),c1,.d (.str f'.ref)],f'.enc,ql),qo,rfl,(Z74 (q':=(_,f'.enc,ql)) h1 rfl).symm,rfl,s.wrF ?_ (Same.set1 hm) (Z74 (q':=(_,f'.enc,ql)) h1 rfl)⟩
  have:=s.f.wr (f:=g) (vs:=vs) (d':=f'.enc) hnd h1 h4 h6.box h5 hg (by
   rw[hset];refine .data (x:=.str f'.table) rfl ?_;rcases h7.inv_r with ⟨c1,cs',ds',e0,e3,e4,h8⟩ | ⟨c1,qs1,cs',ds',ls',e0,e3,rfl,hm1,hq1,h8⟩
   ·simp at e3 e0;obtain⟨e3,rfl⟩:=e3;obtain⟨rfl,rfl⟩:=e0;obtain⟨c2,x2,cs2,ds2,e4',e5,e6,h9⟩:=h8.inv_d;simp only[List.cons.injEq] at e5 e4';obtain⟨rfl,rfl⟩:=e5;obtain⟨rfl,rfl⟩:=e4';rw[hc,e3];exact .emp e4 (.data (x:=.str f'.ref) rfl h9)
   ·simp at e3 e0;obtain⟨e3,rfl⟩:=e3;obtain⟨rfl,rfl⟩:=e0;obtain⟨c2,x2,cs2,ds2,e4',e5,e6,h9⟩:=h8.inv_d;simp only[List.cons.injEq] at e5 e4';obtain⟨rfl,rfl⟩:=e5;obtain⟨rfl,rfl⟩:=e4';rw[hc,show f.cols.map encI=qs1.map (fun q=>q.2.1) by simpa using e3];exact .row hm1 hq1 (.data (x:=.str f'.ref) rfl h9))
  rw[hset,Zj6] at this;rw[Z8b];exact this
 ·rcases h7.inv_part with e | ⟨c1',qs1,cs',ls',e0,rfl,P1,h8⟩
  ·have:f.cols=[]:=by simpa using e
   rw[this] at hk;simp at hk
  ·simp only[List.cons.injEq] at e0;obtain⟨rfl,rfl⟩:=e0;obtain⟨l2,cap2,B2,k1,k2,k3,k4⟩:=P1.elemD (n:=1) rfl (Z61 (f:=encI) hk) (Zdy v);have hl2:l2 ∈ plabs c1 qs1:=by rw[k1];simp[plabs,labs]
   have hl2q:l2 ∈ plabs fc qf:=Z3i h1 (by simp[hl2]);have hne:l2≠lf:=fun he=>Z4h hnd h1 (k:=l2) (by simp[hl2]) (by rw[he,h4];simp[labs]);have hndq:=Zfb hnd h1;simp only at hndq;refine⟨l2,cap2,B2,by simpa using k1,hl2q,hne,k2,fun v'=>?_⟩;obtain⟨qs1',k5,k6⟩:=k4 0 [.d (.int .i64 v')] [.int .i64 v'] ((List.nodup_append.1 hndq).1) (by simp) (by simp) (by simp);refine⟨qt,qf.set i ([.d (.str f.table),c1,.d (.str f.ref)],({ f with cols:=f.cols.set k v' }:Fk).enc,plabs c1 qs1++ls'),qo,rfl,(Z74 (q':=(_,({ f with cols:=f.cols.set k v' }:Fk).enc,plabs c1 qs1++ls')) h1 rfl).symm,rfl,s.wrF ?_ (Same.set1 hl2q) (Z74 (q':=(_,({ f with cols:=f.cols.set k v' }:Fk).enc,plabs c1 qs1++ls')) h1 rfl)⟩;rw[Z8b];refine s.f.upd (q':=(_,_,_)) h1 ?_ ?_ ?_
   ·have:(qf.map (·.1)).set i [.d (.str f.table),c1,.d (.str f.ref)]=qf.map (·.1):=Zcu (Z61 (f:=fun q:Q=>q.1) h1)
    rw[this];refine s.f.mr.frame fun k hk=>?_
    have:k≠l2:=fun he=>Z4h hnd h1 (k:=l2) (by simp[hl2]) (he ▸ hk)
    simp[this]
   ·refine .data rfl ?_;rw[← k5];simp only[Nat.add_zero] at k6;refine Ow.mk_part (ts:=(f.cols.set k v').map encI) (by rw[Z8b];exact k6) (h8.frame fun k hk=>?_)
    have:k≠l2:=fun he=>(List.nodup_append.1 hndq).2.2 l2 hl2 k hk he.symm
    simp[this]
   ·intro j q2 hj hq2 k hk
    have:=(Z75 hnd h1 hq2 hj hk).2
    have:k≠l2:=fun he=>this (by simp[he,hl2])
    simp[this]
end
end Go.Proofs.YthiojhcimecdgaaGreatDoor
section
namespace Go.Proofs.YthiojhcimecdgaaGreatDoor
open Go Go.Am
end Go.Proofs.YthiojhcimecdgaaGreatDoor
namespace Go.Am
open Go Go.Proofs.YthiojhcimecdgaaGreatDoor
theorem Ow.split {h:HS} {s:Sh} {ss:List Sh} {cs:List C} {x:D} {ds:List D} {ls:List Lab} (o:Ow h (s::ss) cs (x::ds) ls):∃ c cs' l1 l2,cs=c::cs'∧ls=l1++l2∧Ow h [s] [c] [x] l1∧Ow h ss cs' ds l2:=by
 cases o with
 | data hx hr=>exact⟨_,_,[],_,rfl,rfl,.data hx .nil,hr⟩
 | emp hx hr=>exact⟨_,_,[],_,rfl,rfl,.emp hx .nil,hr⟩
 | row hm hq hr=>exact⟨_,_,_,_,rfl,rfl,by simpa using Ow.row hm hq .nil,hr⟩
end Go.Am
namespace Go.Proofs.YthiojhcimecdgaaGreatDoor
open Go Go.Am
end Go.Proofs.YthiojhcimecdgaaGreatDoor
namespace Go.Am
open Go Go.Proofs.YthiojhcimecdgaaGreatDoor
theorem Ow.join {h:HS} {s:Sh} {ss:List Sh} {c:C} {cs:List C} {x:D} {ds:List D} {l1 l2:List Lab} (o:Ow h [s] [c] [x] l1) (o2:Ow h ss cs ds l2):Ow h (s::ss) (c::cs) (x::ds) (l1++l2):=by
 cases o with
 | data hx hr=>obtain⟨_,_,rfl⟩:=hr.inv_nil;exact .data hx o2
 | emp hx hr=>obtain⟨_,_,rfl⟩:=hr.inv_nil;exact .emp hx o2
 | row hm hq hr=>
   obtain⟨_,_,rfl⟩:=hr.inv_nil
   have:=Ow.row hm hq o2
   simpa using this
end Go.Am
namespace Go.Proofs.YthiojhcimecdgaaGreatDoor
open Go Go.Am
end Go.Proofs.YthiojhcimecdgaaGreatDoor
namespace Go.Am
open Go Go.Proofs.YthiojhcimecdgaaGreatDoor
theorem Ow.nlen {h:HS} {es:List Sh} {c:C} {ts:List (List D)} {ls:List Lab} (o:Ow h [.r es] [c] [.sl ts] ls):cLen c=some ts.length∧ts.length≤LIM:=by
 rcases o.inv_r with ⟨c1,cs',ds',e1,e3,e4,h8⟩ | ⟨c1,qs1,cs',ds',ls',e1,e3,_,hm1,_,h8⟩
 ·simp at e1 e3;obtain⟨rfl,rfl⟩:=e1;refine⟨?_,by simp[e3]⟩;cases c<;>simp[C.toD] at e4<;>subst_vars<;>simp[cLen,C.list?,e3]
 ·simp at e1 e3;obtain⟨rfl,rfl⟩:=e1;have e4:=congrArg List.length e3.1;simp at e4;exact⟨by rw[MR.len hm1];simp[e4],by rw[e4];simpa using hm1.2.1⟩
end Go.Am
namespace Go.Proofs.YthiojhcimecdgaaGreatDoor
open Go Go.Am
end Go.Proofs.YthiojhcimecdgaaGreatDoor
namespace Go.Am
open Go Go.Proofs.YthiojhcimecdgaaGreatDoor
theorem Ow.npart {h:HS} {es:List Sh} {c:C} {ts:List (List D)} {ls:List Lab} (o:Ow h [.r es] [c] [.sl ts] ls) (h0:ts≠[]):∃ qs,ls=plabs c qs∧Part h es c qs ts:=by
 rcases o.inv_part with e | ⟨c1,qs1,cs',ls',e0,rfl,P1,h8⟩
 ·exact absurd e h0
 ·simp at e0;obtain⟨rfl,rfl⟩:=e0;obtain⟨_,_,rfl⟩:=h8.inv_nil;exact⟨qs1,by simp,P1⟩
end Go.Am
namespace Go.Proofs.YthiojhcimecdgaaGreatDoor
open Go Go.Am
end Go.Proofs.YthiojhcimecdgaaGreatDoor
namespace Go.Am
open Go Go.Proofs.YthiojhcimecdgaaGreatDoor
theorem Ow.of_part {h:HS} {es:List Sh} {c:C} {qs:List Q} {ts:List (List D)} (P:Part h es c qs ts):Ow h [.r es] [c] [.sl ts] (plabs c qs):=by
 simpa using Ow.mk_part P (.nil)
end Go.Am
namespace Go.Proofs.YthiojhcimecdgaaGreatDoor
open Go Go.Am
end Go.Proofs.YthiojhcimecdgaaGreatDoor
namespace Go.Am
open Go Go.Proofs.YthiojhcimecdgaaGreatDoor
theorem Ow.nlabs {h:HS} {es:List Sh} {c:C} {ts:List (List D)} {ls:List Lab} (o:Ow h [.r es] [c] [.sl ts] ls):∀ k ∈ labs c,k ∈ ls:=by
 rcases o.inv_r with ⟨c1,cs',ds',e1,e3,e4,h8⟩ | ⟨c1,qs1,cs',ds',ls',e1,e3,rfl,hm1,_,h8⟩
 ·simp at e1;obtain⟨rfl,rfl⟩:=e1;cases c<;>simp[C.toD] at e4<;>simp[labs]
 ·simp at e1;obtain⟨rfl,rfl⟩:=e1;intro k hk;simp[hk]
end Go.Am
namespace Go.Proofs.YthiojhcimecdgaaGreatDoor
open Go Go.Am
end Go.Proofs.YthiojhcimecdgaaGreatDoor
namespace Go.Am
open Go Go.Proofs.YthiojhcimecdgaaGreatDoor
theorem Ow.nfrz {h:HS} {es:List Sh} {c:C} {ts:List (List D)} {ls:List Lab} (o:Ow h [.r es] [c] [.sl ts] ls):Frz h c (.sl ts):=o.frz.1
end Go.Am
namespace Go.Proofs.YthiojhcimecdgaaGreatDoor
open Go Go.Am
end Go.Proofs.YthiojhcimecdgaaGreatDoor
namespace Go.Am
open Go Go.Proofs.YthiojhcimecdgaaGreatDoor
theorem Ow.nrow {h:HS} {n:Nat} {es:List Sh} {c:C} {ts:List (List D)} (hm:MR h n c (ts.map (·.map C.d))) (hes:es=List.replicate n .d) (ht:∀ t ∈ ts,t.length=n):Ow h [.r es] [c] [.sl ts] (labs c):=by
 simpa using Ow.rowD hm hes ht .nil
end Go.Am
namespace Go.Proofs.YthiojhcimecdgaaGreatDoor
open Go Go.Am
theorem Zbu {A X X' B:List Lab} (h:(A++(X++B)).Nodup) (hx:X'.Nodup) (hn:∀ k ∈ X',k ∈ X∨k ∉ A++(X++B)):(A++(X'++B)).Nodup:=by
 simp only[List.nodup_append,List.mem_append,not_or] at h hn ⊢;obtain⟨hA,⟨hX,hB,hXB⟩,hd⟩:=h;refine⟨hA,⟨hx,hB,fun a ha b hb=>?_⟩,fun a ha b hb=>?_⟩
 ·rintro rfl;rcases hn a ha with h1 | h1
  ·exact hXB a h1 a hb rfl
  ·exact h1.2.2 hb
 ·rintro rfl;rcases hb with hb | hb
  ·rcases hn a hb with h1 | h1
   ·exact hd a ha a (.inl h1) rfl
   ·exact h1.1 ha
  ·exact hd a ha a (.inr hb) rfl
theorem SchC.setT2 {h h':HS} {l:Lab} {S:Sch} {tc tc' fc oc:C} {qt qt' qf qo:List Q} {ts:List Tbl} (s:SchC h l S tc fc oc qt qf qo) (hb:h'.box l=some [tc',fc,oc]) (hp:Part h' TblSh tc' qt' (ts.map Tbl.enc)) (hs:Same h h' (l::plabs tc qt))
  (hnd:(plabs tc' qt').Nodup) (hn:∀ k ∈ plabs tc' qt',k ∈ plabs tc qt∨(k ∉ l::(plabs tc qt++(plabs fc qf++plabs oc qo))∧k.1 < h'.ep)):SchC h' l { S with tables:=ts } tc' fc oc qt' qf qo:=by
 obtain⟨n1,n2,n3,n4,n5⟩:=s.ne;have hlt:=s.lt;simp only[List.mem_cons,List.mem_append] at hlt;refine⟨hb,hp,s.f.frame fun k hk=>hs.2 k (hlt k (.inr (.inr (.inl hk)))) ?_,s.o.frame fun k hk=>hs.2 k (hlt k (.inr (.inr (.inr hk)))) ?_,?_,?_⟩
 ·simp only[List.mem_cons,not_or];exact⟨fun he=>n2 (he ▸ hk),fun h6=>(n4 k h6).1 hk⟩
 ·simp only[List.mem_cons,not_or];exact⟨fun he=>n3 (he ▸ hk),fun h6=>(n4 k h6).2 hk⟩
 ·have:=Zbu (A:=[l]) (X:=plabs tc qt) (X':=plabs tc' qt') (B:=plabs fc qf++plabs oc qo) (by simpa using s.nd) hnd (fun k hk=>(hn k hk).imp_right fun h=>by simpa using h.1)
  simpa using this
 ·intro k hk
  have:=hs.1
  simp only[List.mem_cons,List.mem_append] at hk;rcases hk with hk | hk | hk | hk
  ·have:=hlt k (.inl hk);omega
  ·rcases hn k hk with h1 | h1
   ·have:=hlt k (.inr (.inl h1));omega
   ·exact h1.2
  ·have:=hlt k (.inr (.inr (.inl hk)));omega
  ·have:=hlt k (.inr (.inr (.inr hk)));omega
theorem SchC.setF2 {h h':HS} {l:Lab} {S:Sch} {tc fc fc' oc:C} {qt qf qf' qo:List Q} {fs:List Fk} (s:SchC h l S tc fc oc qt qf qo) (hb:h'.box l=some [tc,fc',oc]) (hp:Part h' FkSh fc' qf' (fs.map Fk.enc)) (hs:Same h h' (l::plabs fc qf))
  (hnd:(plabs fc' qf').Nodup) (hn:∀ k ∈ plabs fc' qf',k ∈ plabs fc qf∨(k ∉ l::(plabs tc qt++(plabs fc qf++plabs oc qo))∧k.1 < h'.ep)):SchC h' l { S with fks:=fs } tc fc' oc qt qf' qo:=by
 obtain⟨n1,n2,n3,n4,n5⟩:=s.ne;have hlt:=s.lt;simp only[List.mem_cons,List.mem_append] at hlt;refine⟨hb,s.t.frame fun k hk=>hs.2 k (hlt k (.inr (.inl hk))) ?_,hp,s.o.frame fun k hk=>hs.2 k (hlt k (.inr (.inr (.inr hk)))) ?_,?_,?_⟩
 ·simp only[List.mem_cons,not_or];exact⟨fun he=>n1 (he ▸ hk),(n4 k hk).1⟩
 ·simp only[List.mem_cons,not_or];exact⟨fun he=>n3 (he ▸ hk),fun h6=>n5 k h6 hk⟩
 ·have:=Zbu (A:=l::plabs tc qt) (X:=plabs fc qf) (X':=plabs fc' qf') (B:=plabs oc qo) (by simpa using s.nd) hnd (fun k hk=>(hn k hk).imp_right fun h=>by simpa using h.1)
  simpa using this
 ·intro k hk
  have:=hs.1
  simp only[List.mem_cons,List.mem_append] at hk;rcases hk with hk | hk | hk | hk
  ·have:=hlt k (.inl hk);omega
  ·have:=hlt k (.inr (.inl hk));omega
  ·rcases hn k hk with h1 | h1
   ·have:=hlt k (.inr (.inr (.inl h1)));omega
   ·exact h1.2
  ·have:=hlt k (.inr (.inr (.inr hk)));omega
theorem Zqo {α:Type} {xs:List α} {i:Nat} {x:α} (h:xs[i]?=some x) (y:α):xs=xs.take i++x::xs.drop (i+1)∧xs.set i y=xs.take i++y::xs.drop (i+1):=by
 obtain⟨hi,rfl⟩:=List.getElem?_eq_some_iff.1 h;exact⟨by rw[← List.drop_eq_getElem_cons hi,List.take_append_drop],by rw[List.set_eq_take_append_cons_drop,if_pos hi]⟩
theorem Zgd {c:C} {xs:List Q} {i:Nat} {x:Q} (h:xs[i]?=some x) (y:Q):plabs c xs=(labs c++(xs.take i).flatMap (·.2.2))++(x.2.2++(xs.drop (i+1)).flatMap (·.2.2))∧plabs c (xs.set i y)=(labs c++(xs.take i).flatMap (·.2.2))++(y.2.2++(xs.drop (i+1)).flatMap (·.2.2)):=by
 obtain⟨h1,h2⟩:=Zqo h y;refine⟨?_,?_⟩
 ·have:=congrArg (fun zs:List Q=>labs c++zs.flatMap (·.2.2)) h1
  simpa[plabs] using this
 ·rw[plabs,h2];simp
theorem Zgc {c:C} {qs:List Q} {i:Nat} {q q':Q} (hnd:(plabs c qs).Nodup) (hi:qs[i]?=some q) (hq:q'.2.2.Nodup) (hn:∀ k ∈ q'.2.2,k ∈ q.2.2∨k ∉ plabs c qs):(plabs c (qs.set i q')).Nodup:=by
 obtain⟨h1,h2⟩:=Zgd (c:=c) hi q';rw[h1] at hnd hn;rw[h2];exact Zbu hnd hq hn
theorem Z95 {c:C} {qs:List Q} {i:Nat} {q q':Q} (hi:qs[i]?=some q) {k:Lab} (hk:k ∈ plabs c (qs.set i q')):k ∈ plabs c qs∨k ∈ q'.2.2:=by
 obtain⟨h1,h2⟩:=Zgd (c:=c) hi q';rw[h2] at hk;rw[h1];simp only[List.mem_append] at hk ⊢;rcases hk with (h | h) | h | h
 ·exact .inl (.inl (.inl h))
 ·exact .inl (.inl (.inr h))
 ·exact .inr h
 ·exact .inl (.inr (.inr h))
theorem SchC.updT {h h':HS} {l:Lab} {S:Sch} {tc fc oc:C} {qt qf qo:List Q} {i:Nat} {q:Q} {T':Tbl} {cs':List C} {lq':List Lab} (s:SchC h l S tc fc oc qt qf qo) (hi:qt[i]?=some q) (hm:MR h' 3 tc ((qt.map (·.1)).set i cs')) (ho:Ow h' TblSh cs' T'.enc lq')
  (hs:Same h h' (labs tc++q.2.2)) (hq:lq'.Nodup) (hn:∀ k ∈ lq',k ∈ q.2.2∨(k ∉ l::(plabs tc qt++(plabs fc qf++plabs oc qo))∧k.1 < h'.ep)):SchC h' l { S with tables:=S.tables.set i T' } tc fc oc (qt.set i (cs',T'.enc,lq')) qf qo:=by
 have hnd:=s.nds.1;have hlt:∀ k ∈ plabs tc qt,k.1 < h.ep:=fun k hk=>s.lt k (by simp[hk]);have hsub:∀ k ∈ labs tc++q.2.2,k ∈ plabs tc qt:=fun k hk=>by
  rcases List.mem_append.1 hk with h1 | h1
  ·simp[plabs,h1]
  ·exact Z3i hi h1
 have hl:h'.box l=h.box l:=hs.2 l (s.lt l (by simp)) fun hk=>s.ne.1 (hsub l hk);refine s.setT2 (by rw[hl];exact s.box) ?_ (hs.mono fun k hk=>by simp[hsub k hk]) (Zgc hnd hi hq fun k hk=>(hn k hk).imp_right fun h2 h3=>h2.1 (by simp[h3])) (fun k hk=>?_)
 ·rw[Z8b];refine s.t.upd (q':=(cs',T'.enc,lq')) hi hm ho (fun j q2 hj hq2 k hk=>?_);have h1:=Z75 hnd hi hq2 hj hk;refine hs.2 k (hlt k (Z3i hq2 hk)) fun h2=>?_;rcases List.mem_append.1 h2 with h2 | h2
  ·exact h1.1 h2
  ·exact h1.2 h2
 ·rcases Z95 hi hk with h1 | h1
  ·exact .inl h1
  ·rcases hn k h1 with h2 | h2
   ·exact .inl (Z3i hi h2)
   ·exact .inr h2
theorem Elem.set {h:HS} {lr:Lab} {i n:Nat} {x B:List C} (e:Elem h lr i n x B) {g:Nat} {vs:List C} (hx:x.length=n) (hg:g+vs.length≤n):Elem (h.setBox lr (Z03 B (i * n+g) vs)) lr i n (Z03 x g vs) (Z03 B (i * n+g) vs):=by
 have hle:=e.le;have h0:=e.rd0 n (Nat.le_refl _);have ht:takeN n x=some x:=by simp[takeN,hx,List.take_of_length_le]
 rw[ht] at h0;obtain⟨h1,h2⟩:=Z7x h0;have hB:B=B.take (i * n)++(x++B.drop (i * n+n)):=by
  have e3:=List.take_append_drop n (B.drop (i * n));rw[← h2,List.drop_drop] at e3;rw[e3,List.take_append_drop]
 have hA:(B.take (i * n)).length=i * n:=by simp;omega
 have key:Z03 B (i * n+g) vs=B.take (i * n)++(Z03 x g vs++B.drop (i * n+n)):=by
  rw[show Z03 B (i * n+g) vs=Z03 (B.take (i * n)++(x++B.drop (i * n+n))) (i * n+g) vs from congrArg (fun z=>Z03 z (i * n+g) vs) hB];generalize B.take (i * n)=A at hA ⊢;generalize B.drop (i * n+n)=Z;rw[← hA];simp only[Z03];rw[List.take_length_add_append,Nat.add_assoc,List.drop_length_add_append,List.take_append_of_le_length (by omega),List.drop_append_of_le_length (by omega)];simp
 have hsl:(Z03 x g vs).length=n:=by rw[Z06 (by omega)];exact hx
 have rd:∀ g' m,g'+m≤n→takeN m ((Z03 B (i * n+g) vs).drop (i * n+g'))=takeN m ((Z03 x g vs).drop g'):=fun g' m hm=>by
  rw[key];generalize B.take (i * n)=A at hA ⊢;rw[← hA,List.drop_length_add_append,List.drop_append_of_le_length (by omega)];simp only[takeN]
  have:m≤((Z03 x g vs).drop g').length:=by simp;omega
  rw[if_pos (by simp at this ⊢;omega),if_pos this,List.take_append_of_le_length this]
 refine⟨by simp,rd,fun m hm=>?_,?_⟩
 ·have:=rd 0 m (by omega)
  simpa using this
 ·rw[Z06 (by omega)];exact hle
theorem Elem.uniq {h:HS} {lr:Lab} {i n:Nat} {x y B B':List C} (e:Elem h lr i n x B) (e':Elem h lr i n y B') (hx:x.length=n) (hy:y.length=n):x=y∧B=B':=by
 have h1:=e.box;rw[e'.box] at h1;cases h1;have h2:=e.rd0 n (Nat.le_refl _);rw[e'.rd0 n (Nat.le_refl _)] at h2;have tx:takeN n x=some x:=by simp[takeN,hx,List.take_of_length_le]
 have ty:takeN n y=some y:=by simp[takeN,hy,List.take_of_length_le]
 rw[tx,ty] at h2;exact⟨(Option.some.inj h2).symm,rfl⟩
theorem Elem.frame {h h':HS} {lr:Lab} {i n:Nat} {x B:List C} (e:Elem h lr i n x B) (hb:h'.box lr=h.box lr):Elem h' lr i n x B:=⟨by rw[hb];exact e.box,e.rd,e.rd0,e.le⟩
structure TblV (h:HS) (l:Lab) (S:Sch) (tc fc oc:C) (ta fa oa:List Lab) (i:Nat) (T:Tbl) (lt:Lab) (c1 c2:C) (B:List C):Prop where
 el:Elem h lt i 3 [.d (.str T.name),c1,c2] B
 hd:∃ cap,tc=.mrow lt 0 S.tables.length cap
 tm:lt ∈ ta
 f1:∀ h',Same h h' []→Frz h' c1 (.sl (T.cols.map Col.enc))
 f2:∀ h',Same h h' []→Frz h' c2 (.sl (T.pk.map encI))
 n1:cLen c1=some T.cols.length∧T.cols.length≤LIM
 n2:cLen c2=some T.pk.length∧T.pk.length≤LIM
 l1:∀ k ∈ labs c1,k ∈ ta∧k≠lt
 l2:∀ k ∈ labs c2,k ∈ ta∧k≠lt
 l12:∀ k ∈ labs c1,k ∉ labs c2
 m1:T.cols≠[]→MR h 3 c1 (T.cols.map fun c=>c.enc.map C.d)
 m2:T.pk≠[]→MR h 1 c2 (T.pk.map fun c=>(encI c).map C.d)
 e1:∀ (k:Nat) (c:Col),T.cols[k]?=some c→∃ l2 cap2 B2,c1=.mrow l2 0 T.cols.length cap2∧Elem h l2 k 3 (c.enc.map C.d) B2 ∧
  ∀ (g:Nat) (vs:List C) (c':Col),g+vs.length≤3→Z03 (c.enc.map C.d) g vs=c'.enc.map C.d→Sc (h.setBox l2 (Z03 B2 (k * 3+g) vs)) l { S with tables:=S.tables.set i { T with cols:=T.cols.set k c' } } tc fc oc ta fa oa
 e2:∀ (k:Nat) (v:Int),T.pk[k]?=some v→∃ l2 cap2 B2,c2=.mrow l2 0 T.pk.length cap2∧Elem h l2 k 1 [.d (.int .i64 v)] B2 ∧
  ∀ v',Sc (h.setBox l2 (Z03 B2 (k * 1) [.d (.int .i64 v')])) l { S with tables:=S.tables.set i { T with pk:=T.pk.set k v' } } tc fc oc ta fa oa
 s1:∀ (h':HS) (c1':C) (cols':List Col),MR h' 3 c1' (cols'.map fun c=>c.enc.map C.d)→Same h h' (labs c1)→(∀ k ∈ labs c1',k ∈ labs c1∨(k ∉ l::(ta++(fa++oa))∧k.1 < h'.ep)) →
  ∃ ta',Sc (h'.setBox lt (Z03 B (i * 3+1) [c1'])) l { S with tables:=S.tables.set i { T with cols:=cols' } } tc fc oc ta' fa oa∧∀ k ∈ ta',k ∈ ta∨k ∈ labs c1'
 s2:∀ (h':HS) (c2':C) (pk':List Int),MR h' 1 c2' (pk'.map fun c=>(encI c).map C.d)→Same h h' (labs c2)→(∀ k ∈ labs c2',k ∈ labs c2∨(k ∉ l::(ta++(fa++oa))∧k.1 < h'.ep)) →
  ∃ ta',Sc (h'.setBox lt (Z03 B (i * 3+2) [c2'])) l { S with tables:=S.tables.set i { T with pk:=pk' } } tc fc oc ta' fa oa∧∀ k ∈ ta',k ∈ ta∨k ∈ labs c2'
theorem Z56 {α:Type} {f:α→List D} {xs:List α}:(xs.map fun c=>(f c).map C.d)=(xs.map f).map (·.map C.d):=by simp
theorem Part.data {h:HS} {n:Nat} {sh:List Sh} {c:C} {qs:List Q} {ds:List (List D)} (P:Part h sh c qs ds) (hsh:sh=List.replicate n .d) (hf:∀ d ∈ ds,∀ x ∈ d,x.flat=true):MR h n c (ds.map (·.map C.d))∧plabs c qs=labs c:=by
 have hd:=P.ds;subst hd;have key:∀ q ∈ qs,q.1=q.2.1.map C.d∧q.2.2=[]:=fun q hq=>(P.ow q hq).flat hsh (hf q.2.1 (List.mem_map.2 ⟨q,hq,rfl⟩));have e:qs.map (·.1)=(qs.map (·.2.1)).map (·.map C.d):=by
  rw[List.map_map];exact List.map_congr_left fun q hq=>(key q hq).1
 have hn:sh.length=n:=by rw[hsh];simp
 refine⟨by rw[← e,← hn];exact P.mr,?_⟩
 have:qs.flatMap (·.2.2)=[]:=by
  rw[List.flatMap_eq_nil_iff];exact fun q hq=>(key q hq).2
 rw[plabs,this,List.append_nil]
set_option maxHeartbeats 1000000 in
theorem Sc.tbl {h:HS} {l:Lab} {S:Sch} {tc fc oc:C} {ta fa oa:List Lab} (s:Sc h l S tc fc oc ta fa oa) {i:Nat} {T:Tbl} (hi:S.tables[i]?=some T):∃ lt c1 c2 B,TblV h l S tc fc oc ta fa oa i T lt c1 c2 B:=by
 obtain⟨qt,qf,qo,rfl,rfl,rfl,s⟩:=s;have hnd:=s.nds.1;have hlt:∀ k ∈ plabs tc qt,k.1 < h.ep:=fun k hk=>s.lt k (by simp[hk]);obtain⟨q,lt,cap,sp,h1,h2,h3,h4,h5,h6⟩:=s.t.elem (Z61 (f:=Tbl.enc) hi);have hm:lt ∈ plabs tc qt:=by rw[h4];simp[plabs,labs]
 rw[Ze6] at h5 h6;obtain⟨qc,qd,ql⟩:=q;simp only at h2 h3 h6;subst h2;obtain⟨c0,x0,cs,ds,rfl,e1,e2,h7⟩:=h3.inv_d;simp only[Tbl.enc,List.cons.injEq] at e1;obtain⟨rfl,rfl⟩:=e1;obtain rfl:=(Frz.data (h:=h) e2).flat rfl;obtain⟨c1,cs1,lc,lr,rfl,rfl,o1,h8⟩:=h7.split;obtain⟨c2,cs2,lp,lz,rfl,rfl,o2,h9⟩:=h8.split;obtain⟨rfl,_,rfl⟩:=h9.inv_nil;have hndq:=Zfb hnd h1;simp only[List.append_nil,List.nodup_append] at hndq;obtain⟨nd1,nd2,nd12⟩:=hndq;have hself:∀ k,k ∈ lc∨k ∈ lp→k ∈ plabs tc qt∧k≠lt:=fun k hk=>⟨Z3i h1 (by simpa using hk),fun he=>Z4h hnd h1 (k:=k) (by simpa using hk) (by rw[he,h4];simp[labs])⟩;have hset0:(qt.map (·.1)).set i [C.d (.str T.name),c1,c2]=qt.map (·.1):=Zcu (Z61 (f:=fun q:Q=>q.1) h1);have f1':∀ h',(∀ k ∈ lc,h'.box k=h.box k)→Ow h' [.r [.d,.d,.d]] [c1] [.sl (T.cols.map Col.enc)] lc:=fun h' hb=>o1.frame hb;have f2':∀ h',(∀ k ∈ lp,h'.box k=h.box k)→Ow h' [.r [.d]] [c2] [.sl (T.pk.map encI)] lp:=fun h' hb=>o2.frame hb;have mk:∀ {h':HS} {c1' c2':C} {T':Tbl} {a b:List Lab},T'.name=T.name→Ow h' [.r [.d,.d,.d]] [c1'] [.sl (T'.cols.map Col.enc)] a→Ow h' [.r [.d]] [c2'] [.sl (T'.pk.map encI)] b→Ow h' TblSh [.d (.str T.name),c1',c2'] T'.enc (a++b):=fun hn x y=>by
  have:=Ow.data (c:=.d (.str T.name)) (x:=.str T.name) rfl (x.join (y.join .nil))
  rw[List.append_nil] at this;rw[Tbl.enc,hn];exact this
 have nw:∀ {l2:Lab} {B2:List C},l2 ∈ lc∨l2 ∈ lp→Same h (h.setBox l2 B2) (labs tc++(lc++(lp++[]))):=fun hl=>Same.set1 (by simpa using .inr hl);have mrk:∀ {h':HS},(∀ k,h'.box lt=h.box lt)→MR h' 3 tc ((qt.map (·.1)).set i [C.d (.str T.name),c1,c2]):=fun hb=>by
  rw[hset0];exact s.t.mr.frame fun k hk=>by
   rw[h4] at hk;simp[labs] at hk;rw[hk];exact hb lt
 have p1:T.cols≠[]→∃ qs1,lc=plabs c1 qs1∧Part h [.d,.d,.d] c1 qs1 (T.cols.map Col.enc):=fun h0=>o1.npart (by simpa using h0);have p2:T.pk≠[]→∃ qs2,lp=plabs c2 qs2∧Part h [.d] c2 qs2 (T.pk.map encI):=fun h0=>o2.npart (by simpa using h0);have n1:=o1.nlen;have n2:=o2.nlen;refine⟨lt,c1,c2,_,h6,⟨cap,by simpa using h4⟩,hm,fun h' hs=>(f1' h' fun k hk=>hs.2 k (hlt k (hself k (.inl hk)).1) (by simp)).nfrz,fun h' hs=>(f2' h' fun k hk=>hs.2 k (hlt k (hself k (.inr hk)).1) (by simp)).nfrz,by simpa using n1,by simpa using n2,
  fun k hk=>⟨(hself k (.inl (o1.nlabs k hk))).1,(hself k (.inl (o1.nlabs k hk))).2⟩,fun k hk=>⟨(hself k (.inr (o2.nlabs k hk))).1,(hself k (.inr (o2.nlabs k hk))).2⟩,fun k hk hk2=>nd12 k (o1.nlabs k hk) k (o2.nlabs k hk2) rfl,fun h0=>?_,fun h0=>?_,fun k c hk=>?_,fun k v hk=>?_,fun h' c1' cols' hm1 hs1 hl1=>?_,fun h' c2' pk' hm2 hs2 hl2=>?_⟩
 ·obtain⟨qs1,_,P1⟩:=p1 h0;rw[Z56];exact (P1.data (n:=3) rfl (by simp[D.flat])).1
 ·obtain⟨qs2,_,P2⟩:=p2 h0;rw[Z56];exact (P2.data (n:=1) rfl (by simp[D.flat])).1
 ·obtain⟨qs1,rfl,P1⟩:=p1 (fun h0=>by rw[h0] at hk;simp at hk);obtain⟨l2,cap2,B2,k1,k2,k3,k4⟩:=P1.elemD (n:=3) rfl (Z61 (f:=Col.enc) hk) c.flat;have hl2:l2 ∈ plabs c1 qs1:=by rw[k1];simp[plabs,labs]
  refine⟨l2,cap2,B2,by simpa using k1,k2,fun g vs c' hg hset=>?_⟩;obtain⟨qs1',k5,k6⟩:=k4 g vs c'.enc nd1 hg hset rfl;have ho:=mk (h':=h.setBox l2 (Z03 B2 (k * 3+g) vs)) (T':={ T with cols:=T.cols.set k c' }) rfl (by rw[Z8b];exact k5 ▸ Ow.of_part k6) (f2' _ fun k' hk'=>by
   have:k'≠l2:=fun he=>nd12 l2 hl2 k' hk' he.symm
   simp[this])
  have:=s.updT h1 (mrk fun _=>by have:=(hself l2 (.inl hl2)).2;simp[this.symm]) ho (nw (.inl hl2)) (by rw[List.nodup_append];exact⟨nd1,nd2,nd12⟩) (fun k hk=>.inl (by simpa using hk))
  exact⟨_,qf,qo,(Z74 h1 (by simp)).symm,rfl,rfl,this⟩
 ·obtain⟨qs1,rfl,P1⟩:=p2 (fun h0=>by rw[h0] at hk;simp at hk);obtain⟨l2,cap2,B2,k1,k2,k3,k4⟩:=P1.elemD (n:=1) rfl (Z61 (f:=encI) hk) (Zdy v);have hl2:l2 ∈ plabs c2 qs1:=by rw[k1];simp[plabs,labs]
  refine⟨l2,cap2,B2,by simpa using k1,k2,fun v'=>?_⟩;obtain⟨qs1',k5,k6⟩:=k4 0 [.d (.int .i64 v')] [.int .i64 v'] nd2 (by simp) (by simp) (by simp);simp only[Nat.add_zero] at k6;have ho:=mk (h':=h.setBox l2 (Z03 B2 (k * 1) [.d (.int .i64 v')])) (T':={ T with pk:=T.pk.set k v' }) rfl (f1' _ fun k' hk'=>by
   have:k'≠l2:=fun he=>nd12 k' hk' l2 hl2 he
   simp[this]) (by rw[Z8b];exact k5 ▸ Ow.of_part k6)
  have:=s.updT h1 (mrk fun _=>by have:=(hself l2 (.inr hl2)).2;simp[this.symm]) ho (nw (.inr hl2)) (by rw[List.nodup_append];exact⟨nd1,nd2,nd12⟩) (fun k hk=>.inl (by simpa using hk))
  exact⟨_,qf,qo,(Z74 h1 (by simp)).symm,rfl,rfl,this⟩
 ·have hlt2:h'.box lt=h.box lt:=hs1.2 lt (hlt lt hm) fun hk=>(hself lt (.inl (o1.nlabs lt hk))).2 rfl;have hn1:∀ k ∈ labs c1',k≠lt∧k ∉ lp∧(k ∈ lc∨(k ∉ l::(plabs tc qt++(plabs fc qf++plabs oc qo))∧k.1 < h'.ep)):=fun k hk=>by
   rcases hl1 k hk with h2 | h2
   ·have:=o1.nlabs k h2
    exact⟨(hself k (.inl this)).2,fun h3=>nd12 k this k h3 rfl,.inl this⟩
   ·exact⟨fun he=>h2.1 (by simp[he,hm]),fun h3=>h2.1 (by simp[(hself k (.inr h3)).1]),.inr h2⟩
  have ho:=mk (h':=h'.setBox lt (Z03 (rowBox (qt.map (·.1)) sp) (i * 3+1) [c1'])) (c2':=c2) (T':={ T with cols:=cols' }) rfl (Ow.nrow (n:=3) (by
    rw[← Z56];exact hm1.frame fun k hk=>by simp[(hn1 k hk).1]) rfl (by simp)) (f2' _ fun k' hk'=>by
   have h2:=hself k' (.inr hk')
   have:h'.box k'=h.box k':=hs1.2 k' (hlt k' h2.1) fun h3=>nd12 k' (o1.nlabs k' h3) k' hk' rfl
   simp[h2.2,this])
  have hset:=Z60 (sp:=sp) (vs:=[c1']) (f:=1) s.t.mr.1 (Z61 (f:=fun q:Q=>q.1) h1) (by simp[TblSh]);simp only[Ze6] at hset
  have:=s.updT (T':={ T with cols:=cols' }) h1 (h':=h'.setBox lt (Z03 (rowBox (qt.map (·.1)) sp) (i * 3+1) [c1'])) (cs':=[.d (.str T.name),c1',c2]) (lq':=labs c1'++lp) ?_ ho ?_ ?_ ?_
  ·refine⟨_,⟨_,qf,qo,rfl,rfl,rfl,this⟩,fun k hk=>?_⟩;rcases Z95 h1 hk with h2 | h2
   ·exact .inl h2
   ·simp only[List.mem_append] at h2;rcases h2 with h2 | h2
    ·exact .inr h2
    ·exact .inl (hself k (.inr h2)).1
  ·refine⟨s.t.mr.1.set (by simp[TblSh]),by simpa using s.t.mr.2.1,.inr ⟨lt,cap,sp,?_,by simp[hset],?_⟩⟩
   ·have e3:qt.length=S.tables.length:=by have:=congrArg List.length s.t.ds;simpa using this
    rw[h4];simp[e3]
   ·have e4:rowBox ((qt.map (·.1)).set i [.d (.str T.name),c1',c2]) sp=Z03 (rowBox (qt.map (·.1)) sp) (i * 3+1) [c1']:=by rw[hset];simp
    rw[e4,Z06 (by have:=h6.le;simp;omega)];exact h5
  ·exact (hs1.mono fun k hk=>by simp[o1.nlabs k hk]).setBox (.inl (by rw[h4];simp[labs]))
  ·rw[List.nodup_append];exact⟨Z1i,nd2,fun a ha b hb he=>(hn1 a ha).2.1 (he ▸ hb)⟩
  ·intro k hk;rcases List.mem_append.1 hk with h2 | h2
   ·exact (hn1 k h2).2.2.imp (fun h3=>by simp[h3]) id
   ·exact .inl (by simp[h2])
 ·have hlt2:h'.box lt=h.box lt:=hs2.2 lt (hlt lt hm) fun hk=>(hself lt (.inr (o2.nlabs lt hk))).2 rfl;have hn1:∀ k ∈ labs c2',k≠lt∧k ∉ lc∧(k ∈ lp∨(k ∉ l::(plabs tc qt++(plabs fc qf++plabs oc qo))∧k.1 < h'.ep)):=fun k hk=>by
   rcases hl2 k hk with h2 | h2
   ·have:=o2.nlabs k h2
    exact⟨(hself k (.inr this)).2,fun h3=>nd12 k h3 k this rfl,.inl this⟩
   ·exact⟨fun he=>h2.1 (by simp[he,hm]),fun h3=>h2.1 (by simp[(hself k (.inl h3)).1]),.inr h2⟩
  have ho:=mk (h':=h'.setBox lt (Z03 (rowBox (qt.map (·.1)) sp) (i * 3+2) [c2'])) (c1':=c1) (T':={ T with pk:=pk' }) rfl (f1' _ fun k' hk'=>by
   have h2:=hself k' (.inl hk')
   have:h'.box k'=h.box k':=hs2.2 k' (hlt k' h2.1) fun h3=>nd12 k' hk' k' (o2.nlabs k' h3) rfl
   simp[h2.2,this]) (Ow.nrow (n:=1) (by
    rw[← Z56];exact hm2.frame fun k hk=>by simp[(hn1 k hk).1]) rfl (by simp))
  have hset:=Z60 (sp:=sp) (vs:=[c2']) (f:=2) s.t.mr.1 (Z61 (f:=fun q:Q=>q.1) h1) (by simp[TblSh]);simp only[Ze6] at hset
  have:=s.updT (T':={ T with pk:=pk' }) h1 (h':=h'.setBox lt (Z03 (rowBox (qt.map (·.1)) sp) (i * 3+2) [c2'])) (cs':=[.d (.str T.name),c1,c2']) (lq':=lc++labs c2') ?_ ho ?_ ?_ ?_
  ·refine⟨_,⟨_,qf,qo,rfl,rfl,rfl,this⟩,fun k hk=>?_⟩;rcases Z95 h1 hk with h2 | h2
   ·exact .inl h2
   ·simp only[List.mem_append] at h2;rcases h2 with h2 | h2
    ·exact .inl (hself k (.inl h2)).1
    ·exact .inr h2
  ·refine⟨s.t.mr.1.set (by simp[TblSh]),by simpa using s.t.mr.2.1,.inr ⟨lt,cap,sp,?_,by simp[hset],?_⟩⟩
   ·have e3:qt.length=S.tables.length:=by have:=congrArg List.length s.t.ds;simpa using this
    rw[h4];simp[e3]
   ·have e4:rowBox ((qt.map (·.1)).set i [.d (.str T.name),c1,c2']) sp=Z03 (rowBox (qt.map (·.1)) sp) (i * 3+2) [c2']:=by rw[hset];simp
    rw[e4,Z06 (by have:=h6.le;simp;omega)];exact h5
  ·exact (hs2.mono fun k hk=>by simp[o2.nlabs k hk]).setBox (.inl (by rw[h4];simp[labs]))
  ·rw[List.nodup_append];exact⟨nd1,Z1i,fun a ha b hb he=>(hn1 b hb).2.1 (he ▸ ha)⟩
  ·intro k hk;rcases List.mem_append.1 hk with h2 | h2
   ·exact .inl (by simp[h2])
   ·exact (hn1 k h2).2.2.imp (fun h3=>by simp[h3]) id
theorem Sc.tblK {h:HS} {l:Lab} {S:Sch} {fc oc:C} {ta fa oa:List Lab} {lr:Lab} {n cap i:Nat} {B:List C} {T:Tbl} (s:Sc h l S (.mrow lr 0 n cap) fc oc ta fa oa) (hb:h.box lr=some B) (hi:S.tables[i]?=some T):∃ c1 c2,TblV h l S (.mrow lr 0 n cap) fc oc ta fa oa i T lr c1 c2 B:=by
 obtain⟨lt,c1,c2,B2,v⟩:=s.tbl hi;obtain⟨cap2,e⟩:=v.hd;simp at e;obtain⟨rfl,-,-⟩:=e;have e2:=v.el.box;rw[hb] at e2;cases e2;exact⟨c1,c2,v⟩
end Go.Proofs.YthiojhcimecdgaaGreatDoor
end
section
namespace Go.Proofs.YthiojhcimecdgaaGreatDoor
open Go Go.Am
theorem Part.add {h h':HS} {sh:List Sh} {c c':C} {qs:List Q} {ds:List (List D)} {x:List C} {d:List D} {lx:List Lab} (P:Part h sh c qs ds) (hnd:(plabs c qs).Nodup) (hlt:∀ k ∈ plabs c qs,k.1 < h.ep) (hm:MR h' sh.length c' (qs.map (·.1)++[x])) (hs:Same h h' (labs c)) (ho:Ow h' sh x d lx) :
  Part h' sh c' (qs++[(x,d,lx)]) (ds++[d]):=by
 have hd:=P.ds;subst hd;refine⟨by simpa using hm,by simp,fun q hq=>?_⟩;rcases List.mem_append.1 hq with hq | hq
 ·refine (P.ow q hq).frame fun k hk=>?_;obtain⟨i,hi⟩:=List.getElem?_of_mem hq;exact hs.2 k (hlt k (Z3i hi hk)) (Z4h hnd hi hk)
 ·simp at hq;subst hq;exact ho
theorem Zb6 {c c':C} {qs:List Q} {x:List C} {d:List D} {lx:List Lab} {ep:Nat} (hnd:(plabs c qs).Nodup) (hlt:∀ k ∈ plabs c qs,k.1 < ep) (hc:∀ k ∈ labs c',k ∈ labs c∨ep≤k.1) (hx:lx.Nodup) (hx2:∀ k ∈ lx,k ∉ plabs c qs∧k ∉ labs c'):(plabs c' (qs++[(x,d,lx)])).Nodup:=by
 simp only[plabs,List.flatMap_append,List.flatMap_cons,List.flatMap_nil,List.append_nil,List.nodup_append,List.mem_append] at hnd hlt hx2 ⊢;refine⟨Z1i,⟨hnd.2.1,hx,fun a ha b hb he=>(hx2 b hb).1 (.inr (he ▸ ha))⟩,fun a ha b hb he=>?_⟩;subst he;rcases hb with hb | hb
 ·rcases hc a ha with h1 | h1
  ·exact hnd.2.2 a h1 a hb rfl
  ·have:=hlt a (.inr hb);omega
 ·exact (hx2 a hb).2 ha
theorem Z2h {c':C} {qs:List Q} {x:List C} {d:List D} {lx:List Lab} {k:Lab} (hk:k ∈ plabs c' (qs++[(x,d,lx)])):k ∈ labs c'∨k ∈ qs.flatMap (·.2.2)∨k ∈ lx:=by
 simpa[plabs] using hk
def Adds (h:HS) (n:Nat) (c:C) (len:Nat) (sh:List Sh) (own:List Lab) (R:HS→C→List D→List Lab→Prop):Prop:=∃ xs,MR h n c xs∧xs.length=len ∧
 ∀ (h':HS) (c':C) (x:List C) (d:List D) (lx:List Lab),MR h' n c' (xs++[x])→Same h h' (labs c)→(∀ k ∈ labs c',k ∈ labs c∨(h.ep≤k.1∧k.1 < h'.ep))→Ow h' sh x d lx→lx.Nodup→(∀ k ∈ lx,k.1 < h'.ep∧k ∉ own∧k ∉ labs c')→R h' c' d lx
theorem Sc.addT {h:HS} {l:Lab} {S:Sch} {tc fc oc:C} {ta fa oa:List Lab} (s:Sc h l S tc fc oc ta fa oa):Adds h 3 tc S.tables.length TblSh (l::(ta++(fa++oa))) fun h' c' d lx=>∀ T,d=Tbl.enc T →
  ∃ ta',Sc (h'.setBox l [c',fc,oc]) l { S with tables:=S.tables++[T] } c' fc oc ta' fa oa∧∀ k ∈ ta',k ∈ ta∨k ∈ lx∨h.ep≤k.1:=by
 obtain⟨qt,qf,qo,rfl,rfl,rfl,s⟩:=s;have hlen:qt.length=S.tables.length:=by have:=congrArg List.length s.t.ds;simpa using this
 have hlt:∀ k ∈ plabs tc qt,k.1 < h.ep:=fun k hk=>s.lt k (by simp[hk]);refine⟨qt.map (fun q:Q=>q.1),s.t.mr,by simpa using hlen,fun h' c' x d lx hm hs hl ho hx hx2 T hd=>?_⟩;subst hd;have hp:=s.t.add s.nds.1 hlt hm hs ho;have hnl:∀ k ∈ plabs c' (qt++[(x,T.enc,lx)]),k≠l:=fun k hk he=>by
  subst he;rcases Z2h hk with h1 | h1 | h1
  ·rcases hl k h1 with h2 | h2
   ·exact s.ne.1 (by simp[plabs,h2])
   ·have:=s.lt k (by simp);omega
  ·exact s.ne.1 (by simp[plabs];right;simpa using h1)
  ·exact (hx2 k h1).2.1 (by simp)
 refine⟨_,⟨_,qf,qo,rfl,rfl,rfl,s.setT2 (by simp) (qt':=qt++[(x,T.enc,lx)]) (by simpa using hp.frame fun k hk=>by simp[hnl k hk]) ((hs.mono fun k hk=>by simp[plabs,hk]).setBox (.inl (by simp))) (Zb6 s.nds.1 hlt (fun k hk=>(hl k hk).imp_right And.left) hx fun k hk=>⟨fun h2=>(hx2 k hk).2.1 (by simp[h2]),(hx2 k hk).2.2⟩) fun k hk=>?_⟩,fun k hk=>?_⟩
 ·rcases Z2h hk with h1 | h1 | h1
  ·rcases hl k h1 with h2 | h2
   ·exact .inl (by simp[plabs,h2])
   ·exact .inr ⟨fun h3=>by have:=s.lt k h3;omega,by simpa using h2.2⟩
  ·exact .inl (by simp[plabs];right;simpa using h1)
  ·exact .inr ⟨(hx2 k h1).2.1,by simpa using (hx2 k h1).1⟩
 ·rcases Z2h hk with h1 | h1 | h1
  ·rcases hl k h1 with h2 | h2
   ·exact .inl (by simp[plabs,h2])
   ·exact .inr (.inr h2.1)
  ·exact .inl (by simp[plabs];right;simpa using h1)
  ·exact .inr (.inl h1)
theorem Sc.addF {h:HS} {l:Lab} {S:Sch} {tc fc oc:C} {ta fa oa:List Lab} (s:Sc h l S tc fc oc ta fa oa):Adds h 3 fc S.fks.length FkSh (l::(ta++(fa++oa))) fun h' c' d lx=>∀ T,d=Fk.enc T →
  ∃ fa',Sc (h'.setBox l [tc,c',oc]) l { S with fks:=S.fks++[T] } tc c' oc ta fa' oa∧∀ k ∈ fa',k ∈ fa∨k ∈ lx∨h.ep≤k.1:=by
 obtain⟨qt,qf,qo,rfl,rfl,rfl,s⟩:=s;have hlen:qf.length=S.fks.length:=by have:=congrArg List.length s.f.ds;simpa using this
 have hlt:∀ k ∈ plabs fc qf,k.1 < h.ep:=fun k hk=>s.lt k (by simp[hk]);refine⟨qf.map (fun q:Q=>q.1),s.f.mr,by simpa using hlen,fun h' c' x d lx hm hs hl ho hx hx2 T hd=>?_⟩;subst hd;have hp:=s.f.add s.nds.2.1 hlt hm hs ho;have hnl:∀ k ∈ plabs c' (qf++[(x,T.enc,lx)]),k≠l:=fun k hk he=>by
  subst he;rcases Z2h hk with h1 | h1 | h1
  ·rcases hl k h1 with h2 | h2
   ·exact s.ne.2.1 (by simp[plabs,h2])
   ·have:=s.lt k (by simp);omega
  ·exact s.ne.2.1 (by simp[plabs];right;simpa using h1)
  ·exact (hx2 k h1).2.1 (by simp)
 refine⟨_,⟨qt,_,qo,rfl,rfl,rfl,s.setF2 (by simp) (qf':=qf++[(x,T.enc,lx)]) (by simpa using hp.frame fun k hk=>by simp[hnl k hk]) ((hs.mono fun k hk=>by simp[plabs,hk]).setBox (.inl (by simp))) (Zb6 s.nds.2.1 hlt (fun k hk=>(hl k hk).imp_right And.left) hx fun k hk=>⟨fun h2=>(hx2 k hk).2.1 (by simp[h2]),(hx2 k hk).2.2⟩) fun k hk=>?_⟩,fun k hk=>?_⟩
 ·rcases Z2h hk with h1 | h1 | h1
  ·rcases hl k h1 with h2 | h2
   ·exact .inl (by simp[plabs,h2])
   ·exact .inr ⟨fun h3=>by have:=s.lt k h3;omega,by simpa using h2.2⟩
  ·exact .inl (by simp[plabs];right;simpa using h1)
  ·exact .inr ⟨(hx2 k h1).2.1,by simpa using (hx2 k h1).1⟩
 ·rcases Z2h hk with h1 | h1 | h1
  ·rcases hl k h1 with h2 | h2
   ·exact .inl (by simp[plabs,h2])
   ·exact .inr (.inr h2.1)
  ·exact .inl (by simp[plabs];right;simpa using h1)
  ·exact .inr (.inl h1)
theorem Sc.addO {h:HS} {l:Lab} {S:Sch} {tc fc oc:C} {ta fa oa:List Lab} (s:Sc h l S tc fc oc ta fa oa):∃ xs,MR h 7 oc xs∧xs.length=S.cons.length ∧
  ∀ (h':HS) (c':C) (T:Cons),MR h' 7 c' (xs++[T.enc.map C.d])→Same h h' (labs oc)→(∀ k ∈ labs c',k ∈ labs oc∨(h.ep≤k.1∧k.1 < h'.ep)) →
  ∃ oa',Sc (h'.setBox l [tc,fc,c']) l { S with cons:=S.cons++[T] } tc fc c' ta fa oa'∧∀ k ∈ oa',k ∈ oa∨h.ep≤k.1:=by
 obtain⟨qt,qf,qo,rfl,rfl,rfl,s⟩:=s;have hlen:qo.length=S.cons.length:=by have:=congrArg List.length s.o.ds;simpa using this
 have hlt:∀ k ∈ plabs oc qo,k.1 < h.ep:=fun k hk=>s.lt k (by simp[hk]);refine⟨qo.map (fun q:Q=>q.1),s.o.mr,by simpa using hlen,fun h' c' T hm hs hl=>?_⟩;have ho:Ow h' ConSh (T.enc.map C.d) T.enc []:=Ow.datas (ds:=T.enc);have hp:=s.o.add s.nds.2.2 hlt hm hs ho;have hnl:∀ k ∈ plabs c' (qo++[(T.enc.map C.d,T.enc,[])]),k≠l:=fun k hk he=>by
  subst he;rcases Z2h hk with h1 | h1 | h1
  ·rcases hl k h1 with h2 | h2
   ·exact s.ne.2.2.1 (by simp[plabs,h2])
   ·have:=s.lt k (by simp);omega
  ·exact s.ne.2.2.1 (by simp[plabs];right;simpa using h1)
  ·simp at h1
 refine⟨_,⟨qt,qf,_,rfl,rfl,rfl,s.setO (by simp) (qo':=qo++[(T.enc.map C.d,T.enc,[])]) (by simpa using hp.frame fun k hk=>by simp[hnl k hk]) ((hs.mono fun k hk=>by simp[plabs,hk]).setBox (.inl (by simp))) (Zb6 s.nds.2.2 hlt (fun k hk=>(hl k hk).imp_right And.left) List.nodup_nil (by simp)) fun k hk=>?_⟩,fun k hk=>?_⟩
 ·rcases Z2h hk with h1 | h1 | h1
  ·rcases hl k h1 with h2 | h2
   ·exact .inl (by simp[plabs,h2])
   ·exact .inr ⟨h2.1,by simpa using h2.2⟩
  ·exact .inl (by simp[plabs];right;simpa using h1)
  ·simp at h1
 ·rcases Z2h hk with h1 | h1 | h1
  ·rcases hl k h1 with h2 | h2
   ·exact .inl (by simp[plabs,h2])
   ·exact .inr h2.1
  ·exact .inl (by simp[plabs];right;simpa using h1)
  ·simp at h1
end Go.Proofs.YthiojhcimecdgaaGreatDoor
namespace Go.Am
open Go Go.Proofs.YthiojhcimecdgaaGreatDoor
theorem Ow.ofD {h:HS} {ss:List Sh} {cs:List C} {ds:List D} {ls:List Lab} (o:Ow h ss cs ds ls):∀ {xs:List D},toDs cs=some xs→xs=ds∧∀ h',Ow h' ss (ds.map C.d) ds []:=by
 induction o with
 | nil=>intro xs hx;simp at hx;exact⟨hx,fun _=>.nil⟩
 | @data c x ss cs ds ls hx hr ih=>
   intro xs h1;simp only[toDs,hx] at h1;cases h2:toDs cs with
   | none=>rw[h2] at h1;cases h1
   | some ys=>
     rw[h2] at h1;simp at h1;obtain⟨h3,h4⟩:=ih h2;subst h1 h3;exact⟨rfl,fun h'=>.data rfl (h4 h')⟩
 | @emp es c ss cs ds ls hx hr ih=>
   intro xs h1;simp only[toDs,hx] at h1;cases h2:toDs cs with
   | none=>rw[h2] at h1;cases h1
   | some ys=>
     rw[h2] at h1;simp at h1;obtain⟨h3,h4⟩:=ih h2;subst h1 h3;exact⟨rfl,fun h'=>.emp rfl (h4 h')⟩
 | @row es c qs ss cs ds ls hm hq hr ihq ih=>
   intro xs h1;have h0:c.toD=some (.sl [])∧qs=[]∨c.toD=none:=by
    rcases hm.2.2 with ⟨h2,rfl | rfl⟩ | ⟨l,cap,sp,rfl,_,_⟩
    ·exact .inl ⟨rfl,by simpa using h2⟩
    ·exact .inl ⟨rfl,by simpa using h2⟩
    ·exact .inr rfl
   rcases h0 with ⟨h0,rfl⟩ | h0
   ·simp only[toDs,h0] at h1;cases h2:toDs cs with
    | none=>rw[h2] at h1;cases h1
    | some ys=>
      rw[h2] at h1;simp at h1;obtain⟨h3,h4⟩:=ih h2;subst h1 h3;exact⟨rfl,fun h'=>.emp rfl (h4 h')⟩
   ·simp[toDs,h0] at h1
end Go.Am
namespace Go.Proofs.YthiojhcimecdgaaGreatDoor
open Go Go.Am
theorem bld_ow {x:List C} {f:List (List D)→Prop} {g:List C→Prop} {a:Option (List (List D))} {b:Option (List C)} (ha:a=(toDs x).map fun d=>[d]) (hb:b=some x) (h1:∀ d,toDs x=some d→f [d]) (h2:toDs x=none→g x):bldV a b (k:=⟨f⟩) (q:=⟨g⟩):=by
 subst ha hb;cases hx:toDs x with
 | none=>exact h2 hx
 | some d=>exact h1 d hx
end Go.Proofs.YthiojhcimecdgaaGreatDoor
namespace Go.Am
open Go Go.Proofs.YthiojhcimecdgaaGreatDoor
theorem RowAt.own1 {h:HS} {n:Nat} {l:Lab} {d:List D} (hd:d.length=n):RowAt h n (.own l [d]) [d.map C.d]:=by
 refine⟨by simp[Z0i,C.list?,hd],by simp[cLen,C.list?],by simp[AllC,hd],by simp⟩
end Go.Am
namespace Go.Proofs.YthiojhcimecdgaaGreatDoor
open Go Go.Am
end Go.Proofs.YthiojhcimecdgaaGreatDoor
namespace Go.Am
open Go Go.Proofs.YthiojhcimecdgaaGreatDoor
theorem RowAt.new1 {h:HS} {n:Nat} {l:Lab} {x:List C} (hx:x.length=n) (hb:h.box l=some x):RowAt h n (.mrow l 0 1 1) [x]:=by
 have:MR h n (.mrow l 0 1 1) [x]:=⟨by simp[AllC,hx],by simp,.inr ⟨l,1,[],rfl,by simpa[rowBox] using hb,by simp[rowBox,hx]⟩⟩
 exact this.rd
end Go.Am
namespace Go.Proofs.YthiojhcimecdgaaGreatDoor
open Go Go.Am
theorem Sc.hlabs {h:HS} {l:Lab} {S:Sch} {tc fc oc:C} {ta fa oa:List Lab} (s:Sc h l S tc fc oc ta fa oa):(∀ k ∈ labs tc,k ∈ ta)∧(∀ k ∈ labs fc,k ∈ fa)∧(∀ k ∈ labs oc,k ∈ oa):=by
 obtain⟨qt,qf,qo,rfl,rfl,rfl,s⟩:=s;exact⟨fun k hk=>by simp[plabs,hk],fun k hk=>by simp[plabs,hk],fun k hk=>by simp[plabs,hk]⟩
theorem Sc.nl {h:HS} {l:Lab} {S:Sch} {tc fc oc:C} {ta fa oa:List Lab} (s:Sc h l S tc fc oc ta fa oa):l ∉ ta∧l ∉ fa∧l ∉ oa:=by
 obtain⟨qt,qf,qo,rfl,rfl,rfl,s⟩:=s;exact⟨s.ne.1,s.ne.2.1,s.ne.2.2.1⟩
theorem Sc.keep {h h':HS} {l:Lab} {S:Sch} {tc fc oc:C} {ta fa oa ls:List Lab} (s:Sc h l S tc fc oc ta fa oa) (hs:Same h h' ls) (hl:∀ k ∈ ls,k ∈ ta∨k ∈ fa∨k ∈ oa):h'.box l=some [tc,fc,oc]:=by
 rw[hs.2 l (s.lt l (by simp)) fun hk=>?_]
 ·exact s.box
 ·have:=s.nl
  rcases hl l hk with h1 | h1 | h1
  ·exact this.1 h1
  ·exact this.2.1 h1
  ·exact this.2.2 h1
theorem Sc.frame2 {h h':HS} {l:Lab} {S:Sch} {tc fc oc:C} {ta fa oa lz:List Lab} (s:Sc h l S tc fc oc ta fa oa) (hs:Same h h' lz) (hd:∀ k ∈ lz,k ∉ l::(ta++(fa++oa))):Sc h' l S tc fc oc ta fa oa:=by
 obtain⟨qt,qf,qo,rfl,rfl,rfl,s⟩:=s;have hb:∀ k ∈ l::(plabs tc qt++(plabs fc qf++plabs oc qo)),h'.box k=h.box k:=fun k hk=>hs.2 k (s.lt k hk) fun h1=>hd k h1 hk;have hb1:=hb;simp only[List.mem_cons,List.mem_append] at hb;exact⟨qt,qf,qo,rfl,rfl,rfl,by rw[hb l (.inl rfl),s.box],s.t.frame fun k hk=>hb k (.inr (.inl hk)),s.f.frame fun k hk=>hb k (.inr (.inr (.inl hk))),s.o.frame fun k hk=>hb k (.inr (.inr (.inr hk))),s.nd,fun k hk=>Nat.lt_of_lt_of_le (s.lt k hk) hs.1⟩
theorem Sc.fkK {h:HS} {l:Lab} {S:Sch} {tc oc:C} {ta fa oa:List Lab} {lf:Lab} {n cap i:Nat} {B:List C} {f:Fk} (s:Sc h l S tc (.mrow lf 0 n cap) oc ta fa oa) (hb:h.box lf=some B) (hi:S.fks[i]?=some f) :
  lf ∈ fa∧l≠lf∧∃ c1,Elem h lf i 3 [.d (.str f.table),c1,.d (.str f.ref)] B∧(∀ h',Same h h' []→Frz h' c1 (.sl (f.cols.map encI)))∧(cLen c1=some f.cols.length∧f.cols.length≤LIM) ∧
   (∀ nm,Sc (h.setBox lf (Z03 B (i * 3) [.d (.str nm)])) l { S with fks:=S.fks.set i ⟨nm,f.cols,f.ref⟩ } tc (.mrow lf 0 n cap) oc ta fa oa) ∧
   (∀ nm,Sc (h.setBox lf (Z03 B (i * 3+2) [.d (.str nm)])) l { S with fks:=S.fks.set i ⟨f.table,f.cols,nm⟩ } tc (.mrow lf 0 n cap) oc ta fa oa):=by
 obtain⟨lf2,cap2,B2,c1,e,h1,h2,h3,h4,h5,h6⟩:=s.fk hi;simp at e;obtain⟨rfl,-,rfl⟩:=e;have e2:=h2.box;rw[hb] at e2;cases e2;refine⟨h1,fun he=>s.nl.2.1 (he ▸ h1),c1,h2,h3,h4,fun nm=>?_,fun nm=>?_⟩
 ·have:=h5 0 [.d (.str nm)] ⟨nm,f.cols,f.ref⟩ rfl (by simp) (by simp)
  simpa using this
 ·exact h5 2 [.d (.str nm)] ⟨f.table,f.cols,nm⟩ rfl (by simp) (by simp)
theorem Sc.fkH {h:HS} {l:Lab} {S:Sch} {tc fc oc:C} {ta fa oa:List Lab} {i:Nat} {f:Fk} (s:Sc h l S tc fc oc ta fa oa) (hi:S.fks[i]?=some f):∃ lf cap B,fc=.mrow lf 0 S.fks.length cap∧h.box lf=some B∧i * 3+3≤B.length:=by
 obtain⟨lf2,cap2,B2,c1,e,h1,h2,h3,h4,h5,h6⟩:=s.fk hi;exact⟨lf2,cap2,B2,e,h2.box,h2.le⟩
theorem Sc.conH {h:HS} {l:Lab} {S:Sch} {tc fc oc:C} {ta fa oa:List Lab} {i:Nat} {f:Cons} (s:Sc h l S tc fc oc ta fa oa) (hi:S.cons[i]?=some f):∃ lf cap B,oc=.mrow lf 0 S.cons.length cap∧h.box lf=some B∧i * 7+7≤B.length:=by
 obtain⟨lf2,cap2,B2,e,h1,h2,h3⟩:=s.con hi;exact⟨lf2,cap2,B2,e,h2.box,h2.le⟩
theorem Sc.conK {h:HS} {l:Lab} {S:Sch} {tc fc:C} {ta fa oa:List Lab} {lf:Lab} {n cap i:Nat} {B:List C} {f:Cons} (s:Sc h l S tc fc (.mrow lf 0 n cap) ta fa oa) (hb:h.box lf=some B) (hi:S.cons[i]?=some f) :
  lf ∈ oa∧l≠lf∧Elem h lf i 7 (f.enc.map C.d) B ∧
   (∀ nm,Sc (h.setBox lf (Z03 B (i * 7) [.d (.str nm)])) l { S with cons:=S.cons.set i { f with table:=nm } } tc fc (.mrow lf 0 n cap) ta fa oa) ∧
   (∀ nm,Sc (h.setBox lf (Z03 B (i * 7+1) [.d (.int .i64 nm)])) l { S with cons:=S.cons.set i { f with left:=nm } } tc fc (.mrow lf 0 n cap) ta fa oa) ∧
   (∀ nm,Sc (h.setBox lf (Z03 B (i * 7+3) [.d (.int .i64 nm)])) l { S with cons:=S.cons.set i { f with right:=nm } } tc fc (.mrow lf 0 n cap) ta fa oa):=by
 obtain⟨lf2,cap2,B2,e,h1,h2,h3⟩:=s.con hi;simp at e;obtain⟨rfl,-,rfl⟩:=e;have e2:=h2.box;rw[hb] at e2;cases e2;refine⟨h1,fun he=>s.nl.2.2 (he ▸ h1),h2,fun nm=>?_,fun nm=>?_,fun nm=>?_⟩
 ·have:=h3 0 [.d (.str nm)] { f with table:=nm } (by simp) (by simp)
  simpa using this
 ·exact h3 1 [.d (.int .i64 nm)] { f with left:=nm } (by simp) (by simp)
 ·exact h3 3 [.d (.int .i64 nm)] { f with right:=nm } (by simp) (by simp)
end Go.Proofs.YthiojhcimecdgaaGreatDoor
end
namespace Go.Proofs.YthiojhcimecdgaaGreatDoor
section
open Go Go.Am
theorem Zeg {h:HS} {lv l:Lab} {vs:List (List D)} {nv ev off k cap:Nat} {cs:List C} (ha:h.arr lv=some (nv,ev)) (hnv:0 < nv) (hb:h.box l=some cs) (h0:0 < cs.length) :
  XSpec Tryz.prog 149 [.one (.own lv vs),.one (.mrow l off k cap)] h (.one (.d (.bool false))):=by
 intro Γ μ w vals hI hR;obtain⟨hsz,hg⟩:=hR;obtain⟨u0,hu0,r0⟩:=hg 0 _ rfl;obtain⟨u1,hu1,r1⟩:=hg 1 _ rfl;have hv:vals=#[u0,u1]:=by
  apply Array.ext_getElem?;intro i
  match i with
  | 0=>simpa using hu0
  | 1=>simpa using hu1
  | i+2=>rw[Array.getElem?_eq_none (by simp at hsz;omega)];simp
 subst hv;obtain⟨_,g,gcap,hlv,rfl⟩:=(show RepC μ (.own lv vs) u0 from r0);obtain⟨b,kk,hl,rfl,_⟩:=(show RepC μ (.mrow l off k cap) u1 from r1);refine⟨.bool false,?_,RepD.bool _⟩;rw[run_callFunc_extern (fn:=Tryz.f149) Tryz.func149 (by kernel_rfl) (by kernel_rfl) (by kernel_rfl) (e:=Extern.SlicesOverlaps.overlaps #[40,40] #[4]) (by kernel_rfl)];obtain⟨b2,n2,T2,conc2,hl2,_,hh2,hR2,_⟩:=hI.box l cs hb;rw[hl] at hl2;cases hl2;obtain⟨gc,hgc,hrow⟩:=hI.arr lv ev nv ha;rw[hlv] at hgc;cases hgc;cases g with
 | none=>
   have:=(hrow.1 rfl).2
   omega
 | some g=>
   obtain⟨_,T1,cur,hh1,_⟩:=hrow.2 g rfl;have hne:g≠b:=by
    rintro rfl
    have:=hI.inj lv l g gcap kk (.inr (by rw[ha];simp)) (.inl (by rw[hb];simp)) hlv hl
    subst this;exact hI.both lv (by rw[hb];simp) (by rw[ha];simp)
   have hcl:conc2.size=cs.length:=hR2.1;obtain⟨i,z,hu,hi,hsz,_⟩:=Z5l Z45;show Result.andThen (Sem.run Tryz.prog (Extern.SlicesOverlaps.overlaps #[40,40] #[4] #[.slice (some ⟨g,0,none⟩) vs.length gcap,.slice (some ⟨b,off,none⟩) k cap]) w) _=_;rw[Lib.run_overlaps_apart w 40 4 44 hu i.size (fun w=>by simp[sizeOf,typeInfo,hi]) ⟨g,0,none⟩ ⟨b,off,none⟩ vs.length gcap k cap hne T1 T2 cur.size conc2.size (by simp[World.shape?,hh1]) (by simp[World.shape?,hh2]) (by omega) (by simp[World.frozen?,hh1]) (by simp[World.frozen?,hh1])];rfl
def ones (rs:List C):List (List C):=rs.map fun r=>[r]
theorem Zgg:∀ rs:List C,(ones rs).flatten=rs
 | []=>rfl
 | r::rs=>by
   have:=Zgg rs
   simp only[ones] at this;simp[ones,this]
theorem Zoj (rs:List C):AllC 1 (ones rs):=by
 intro x hx;obtain⟨y,_,rfl⟩:=List.mem_map.1 hx;rfl
theorem Zcy (rs:List C):(ones rs).length=rs.length:=by simp[ones]
theorem Zb7 (rs sp:List C):rowBox (ones rs) sp=rs++sp:=by rw[rowBox,Zgg]
theorem Zfd {h:HS} {l:Lab} {cap:Nat} {rs sp:List C} (hb:h.box l=some (rs++sp)) (hl:rs.length+sp.length=cap) (hlim:rs.length≤2097152):MR h 1 (.mrow l 0 rs.length cap) (ones rs):=
 ⟨Zoj rs,by rw[Zcy];exact hlim,.inr ⟨l,cap,sp,by rw[Zcy],by rw[Zb7];exact hb,by rw[Zb7];simp[hl]⟩⟩
theorem Zbt {h:HS} {l:Lab} {cs:List C} {off k cap:Nat} (hb:h.box l=some cs) (hk:off+k≤cs.length):Z0i h 1 (.mrow l off k cap)=some ((cs.drop off).take k):=by
 simp only[Z0i,hb,takeN,Nat.mul_one];rw[if_pos (by simp;omega)]
theorem Z6d {a b vs:List C} {n:Nat} (hn:n=a.length):Z03 (a++b) n vs=a++vs++b.drop vs.length:=by
 subst hn;simp[Z03,List.append_assoc]
theorem Zba {P:Program} {ty el:TypeId} {n by_ off k cap m mk:Nat} {l:Lab} {x:C} {h:HS} {new cs cs':List C} {f:V→HS→Prop} (hel:elT P ty=some (el,n,by_)) (hx:Z0i h n x=some new) (hm:cLen x=some m) (hb:h.box l=some cs) (h0:0 < n) (hnew:new.length=m * n) (hfit:off+k * n≤cs.length)
  (hmk:min m k=mk) (hcs:Z03 cs off (new.take (mk * n))=cs') (hk:f (dint .i64 (mk:Int)) (h.setBox l cs')):copyK P ty (.mrow l off k cap) x h (K:=⟨f⟩):=by
 unfold copyK vcCopy;simp only[hel,hx,hm,hb];refine⟨⟨h0,hnew,hfit⟩,?_⟩;rw[hmk,hcs];exact hk
set_option maxHeartbeats 2000000 in
theorem Zah (h:HS) (c:C) (rs:List C) (lv:Lab) (d:List D) (i:Nat) (hm:MR h 1 c (ones rs)) (hlb:∀ k ∈ labs c,k.1 < h.ep) (hi:i≤rs.length) (ha:h.arr lv=some (1,1)) (hd:d.length=1) (hlim:rs.length+1≤2097152) (K:V→HS→Prop)
  (hk:∀ c' h',MR h' 1 c' (ones (rs.take i++d.map C.d++rs.drop i))→Same h h' (labs c)→(∀ k ∈ labs c',k ∈ labs c∨(h.ep≤k.1∧k.1 < h'.ep))→K (.one c') h') :
  HSpec Tryz.prog 124 [.one c,.one (.d (.int .i64 (i:Int))),.one (.own lv [d])] h K:=by
 obtain⟨v,rfl⟩:∃ v,d=[v]:=by
  match d,hd with
  | [v],_=>exact⟨v,rfl⟩
 refine HSpec.of_vc Tryz.func124 rfl (by kernel_rfl) (n:=95) rfl rfl (by simp) ?_;rcases hm.2.2 with ⟨h1,hcz⟩ | ⟨l,cap,sp,rfl,hb,hcap⟩
 ·have hrs:rs=[]:=by simpa[ones] using h1
  subst hrs;obtain rfl:i=0:=by simpa using hi
  rcases hcz with rfl | rfl
  all_goals
   simp;refine app_mr Z45 (by kernel_rfl) (by decide) (by decide) hm (RowAt.own1 rfl) (by simp[ones]) (fun c' h' hm' hs' hl'=>?_);simp;exact hk _ _ (by simpa[ones] using hm') hs' hl'
 ·rw[Zb7] at hb hcap;rw[Zcy] at hm hk ⊢;simp only[List.length_append,Nat.mul_one] at hcap;simp;refine Z1l ⟨by omega,by omega⟩ (fun _=>?_) (fun _=>?_)
  all_goals
   simp;refine Z6b (fun he=>?_) (fun he=>?_)
   ·have hir:i=rs.length:=by simp at he;omega
    subst hir;simp;refine app_mr Z45 (by kernel_rfl) (by decide) (by decide) hm (RowAt.own1 rfl) (by simp[ones];omega) (fun c' h' hm' hs' hl'=>?_);simp;exact hk _ _ (by simpa[ones] using hm') hs' hl'
   ·have hir:i < rs.length:=by
     have:(i:Int)≠rs.length:=by simpa using he
     omega
    have hw1:IntKind.i64.wrap ((rs.length:Int)+1)=(rs.length:Int)+1:=IntWalk.i64_in _ (by omega);have hw2:IntKind.i64.wrap ((i:Int)+1)=(i:Int)+1:=IntWalk.i64_in _ (by omega);simp[hw1];refine Zmw Z45 ?_;simp[hw1,hw2];refine Z10 (fun hlt=>?_) (fun hge=>?_)
    ·have hlt':cap < rs.length+1:=by omega
     have hic:i≤cap:=by omega
     have hc0:0 < cap:=by omega
     have hw3:IntKind.i64.wrap ((rs.length:Int)+1 - i)=(rs.length:Int)+1 - i:=IntWalk.i64_in _ (by omega);simp[hw1,hw2,hw3];refine Z1l (by omega) (fun _=>?_) (fun h9=>absurd hc0 (by simpa using h9));simp[hw1,hw2,hw3];have hN:i+((rs.length:Int)+1 - i).toNat=rs.length+1:=by omega
     refine Zl2 Z45 (by decide) (kk:=.i64) rfl (by kernel_rfl) (by decide) (by decide) (by omega) (by show (i:Int)+_≤2097152;omega) (by omega) (old:=rs.take i) (by rw[Zbt hb (by simp;omega),List.drop_zero,List.take_append_of_le_length hi]) (by simp;omega) (fun cap' hcap'=>?_);rw[hN] at hcap' ⊢;have hic':i < cap':=by omega
     simp[hw1,hw2,hw3];refine Z1l (by omega) (fun _=>?_) (fun h9=>absurd hic' (by simpa using h9));simp[hw1,hw2,hw3];have htl:(rs.take i).length=i:=by simp;omega
     have hlen:(rs.take i++[C.d v]++rs.drop i).length=rs.length+1:=by simp;omega
     have hz:(0:Int)≤(i:Int)+1:=by omega
     refine Zba (n:=1) (new:=[.d v]) (m:=1) (mk:=1) (cs':=rs.take i++[.d v]++List.replicate (cap' - i - 1) .any) Z45 (by simp[Z0i,C.list?]) (by simp[cLen,C.list?]) (by simp;rfl) (by decide) rfl (by simp;omega) (by omega) (by rw[Z6d htl.symm];simp) ?_;simp[hw1,hw2,hw3];refine Wait.cut (Plan.then_ [0,1,2,3,4,5,6,7,8] .done) follows (by kernel_rfl) (fun e1 h1=>e1.n=95∧e1.get 9=.one (.mrow (h.ep,640) 0 (rs.length+1) cap')∧h1.box (h.ep,640)=some (rs.take i++[.d v]++rs.drop i++List.replicate (cap' - (rs.length+1)) .any)∧Same h h1 []∧h.ep < h1.ep) ?_ ?_
     ·simp[hw1,hw2,hw3,Plan.then_,vcPlan,Z01,Z00,callKind];simp only[hz,if_true];refine Z1l (by simp;omega) (fun _=>?_) (fun h9=>absurd (show i+1 < cap' by omega) (by simpa using h9));simp[hw1,hw2,hw3,Plan.then_,vcPlan,Z01,Z00,callKind];refine Z1l (by omega) (fun _=>?_) (fun h9=>absurd (show i < cap by omega) (by simpa using h9));simp[hw1,hw2,hw3,Plan.then_,vcPlan,Z01,Z00,callKind];have hll:l.1 < h.ep:=hlb l (by simp[labs]);have hne:l≠(h.ep,640):=by rintro rfl;simp at hll
      have htl2:(rs.take i++[C.d v]).length=i+1:=by simp;omega
      have hdi:((rs++sp).drop i).take (rs.length - i)=rs.drop i:=by
       rw[List.drop_append_of_le_length hi,List.take_append_of_le_length (by simp)];exact List.take_of_length_le (by simp)
      refine Zba (n:=1) (new:=rs.drop i) (m:=rs.length - i) (mk:=rs.length - i) (cs:=rs.take i++[.d v]++List.replicate (cap' - i - 1) .any) (cs':=rs.take i++[.d v]++rs.drop i++List.replicate (cap' - (rs.length+1)) .any) Z45
       (by rw[Zbt (cs:=rs++sp) (by simp[hne,hb]) (by simp;omega),hdi]) rfl (by simp) (by decide) (by simp) (by simp;omega) (by omega) ?_ ?_
      ·have e9:cap' - i - 1 - (rs.length - i)=cap' - (rs.length+1):=by omega
       have e10:(rs.drop i).take ((rs.length - i) * 1)=rs.drop i:=List.take_of_length_le (by simp);rw[e10,Z6d htl2.symm];simp[e9]
      ·refine CutK.of ?_;simp;exact (((Same.refl.setBox (.inr (by simp))).next).setBox (.inr (by simp))).setBox (.inr (by simp))
     ·rintro e1 h1 ⟨hn,h9,hb1,hs1,he1⟩;simp[hn,h9];refine hk _ _ ?_ (hs1.mono (by simp)) (by simp[labs];exact .inr (by omega))
      have:=Zfd (cap:=cap') hb1 (by simp;omega) (by simp;omega)
      rw[hlen] at this;simpa using this
    ·have hge':rs.length+1≤cap:=by omega
     have hic:i < cap:=by omega
     have hz:(0:Int)≤(rs.length:Int)+1:=by omega
     have hz2:(0:Int)≤(i:Int)+1:=by omega
     have hN:((rs.length:Int)+1).toNat=rs.length+1:=by omega
     simp[hw1,hw2,hz,hz2,hN];refine Z1l (by omega) (fun _=>?_) (fun h9=>absurd (show 0 < cap by omega) (by simpa using h9));simp[hw1,hw2,hz,hz2,hN];refine Z1l (by omega) (fun _=>?_) (fun h9=>absurd (show i+1 < cap by omega) (by simpa using h9));simp[hw1,hw2,hz,hz2,hN];refine Zr1 (Zeg ha (by decide) hb (by simp;omega)) ?_;simp[hw1,hw2,hz,hz2,hN];obtain⟨s0,sp1,hsp⟩:∃ s0 sp1,sp=s0::sp1:=by
      match sp,hcap with
      | [],h9=>simp at h9;omega
      | s0::sp1,_=>exact⟨s0,sp1,rfl⟩
     subst hsp;simp only[List.length_cons] at hcap;have hll:l.1 < h.ep:=hlb l (by simp[labs]);have htl:(rs.take i).length=i:=by simp;omega
     have htl2:(rs.take (i+1)).length=i+1:=by simp;omega
     have hsrc:((rs++s0::sp1).drop i).take (rs.length+1 - i)=rs.drop i++[s0]:=by
      rw[List.drop_append_of_le_length hi,List.take_append];rw[List.take_of_length_le (by simp;omega)]
      have:rs.length+1 - i - (rs.drop i).length=1:=by simp;omega
      rw[this];rfl
     refine Wait.cut (Plan.then_ [0,1,2,3,4,5,6,7,8] .done) follows (by kernel_rfl) (fun e1 h1=>e1.n=95∧e1.get 0=.one (.mrow l 0 (rs.length+1) cap)∧e1.get 1=.one (.d (.int .i64 (i:Int)))∧e1.get 2=.one (.own lv [[v]])∧h1.box l=some (rs.take (i+1)++rs.drop i++sp1)∧Same h h1 [l]) ?_ ?_
     ·simp[hw1,hw2,hz,hz2,hN,Plan.then_,vcPlan,Z01,Z00,callKind];refine Z1l (by omega) (fun _=>?_) (fun h9=>absurd (show i+1 < cap by omega) (by simpa using h9));simp[hw1,hw2,hz,hz2,hN,Plan.then_,vcPlan,Z01,Z00,callKind];refine Z1l (by omega) (fun _=>?_) (fun h9=>absurd (show i < cap by omega) (by simpa using h9));simp[hw1,hw2,hz,hz2,hN,Plan.then_,vcPlan,Z01,Z00,callKind];refine Zba (n:=1) (new:=rs.drop i++[s0]) (m:=rs.length+1 - i) (mk:=rs.length - i) (cs:=rs++s0::sp1) (cs':=rs.take (i+1)++rs.drop i++sp1) Z45
       (by rw[Zbt (cs:=rs++s0::sp1) (by simp[hb]) (by simp;omega),hsrc]) rfl (by simp[hb]) (by decide) (by simp;omega) (by simp;omega) (by omega) ?_ ?_
      ·have e10:(rs.drop i++[s0]).take ((rs.length - i) * 1)=rs.drop i:=by
        rw[Nat.mul_one,List.take_append_of_le_length (by simp),List.take_of_length_le (by simp)]
       have e11:rs++s0::sp1=rs.take (i+1)++(rs.drop (i+1)++s0::sp1):=by
        rw[← List.append_assoc,List.take_append_drop]
       have e12:(rs.drop (i+1)++s0::sp1).drop (rs.drop i).length=sp1:=by
        have:(rs.drop i).length=(rs.drop (i+1)).length+1:=by simp;omega
        rw[this,← List.drop_drop,List.drop_left];rfl
       rw[e10,e11,Z6d htl2.symm,e12]
      ·refine CutK.of ?_;simp;exact Same.refl.setBox (.inl (by simp))
     ·rintro e1 h1 ⟨hn,h0,h1',h2,hb1,hs1⟩;simp[hn,h0,h1',h2];refine Z1l (by omega) (fun _=>?_) (fun h9=>absurd hic (by simpa using h9));simp[hn,h0,h1',h2];refine Zba (n:=1) (new:=[.d v]) (m:=1) (mk:=1) (cs:=rs.take (i+1)++rs.drop i++sp1) (cs':=rs.take i++[.d v]++rs.drop i++sp1) Z45 (by simp[Z0i,C.list?]) (by simp[cLen,C.list?]) (by simp[hb1]) (by decide) rfl (by simp;omega) (by omega) ?_ ?_
      ·have e13:rs.take (i+1)++rs.drop i++sp1=rs.take i++(rs[i]::(rs.drop i++sp1)):=by
        rw[List.take_succ_eq_append_getElem hir,List.append_assoc,List.append_assoc];rfl
       rw[e13,Z6d htl.symm];simp
      ·simp[hn,h0];refine hk _ _ ?_ ((hs1.setBox (.inl (by simp))).mono (by simp[labs])) (by simp[labs]);have hlen:(rs.take i++[C.d v]++rs.drop i).length=rs.length+1:=by simp;omega
       have:=Zfd (h:=h1.setBox l (rs.take i++[C.d v]++rs.drop i++sp1)) (l:=l) (cap:=cap) (rs:=rs.take i++[C.d v]++rs.drop i) (sp:=sp1) (by simp) (by rw[hlen];omega) (by rw[hlen];omega)
       rw[hlen] at this;simpa using this
end
end Go.Proofs.YthiojhcimecdgaaGreatDoor
section
namespace Go.Am
open Go
@[simp ↓ high] theorem Zl6 {P:Program} {e:Env} {h:HS} {K:Env→HS→Prop} {d:Option Nat} {t:TypeId} {p:String} {af:Array Edge} {g:Option (Nat × Bool)} {ty:Nat} {x i:Operand}:vcOp P { dst:=d,op:=.indexAddr ty x i,type:=t,pos:=p,after:=af,guard:=g } e h K=optV (idxA (elT P ty) (arT P ty) (e.ev x) (e.ev i)) (k:=⟨fun v=>K (e.put d v) h⟩):=by
 rw[← Zft (h:=h)];exact Zec
@[simp] theorem Zp6 {α β:Type} {f:α→β} {xs:List α}:List.take xs.length (xs.map f)=xs.map f:=List.take_of_length_le (by simp)
@[simp] theorem Zrp {l:Lab} {o n c:Nat}:(C.mrow l o n c).list?=none:=rfl
@[simp] theorem le_a2 {a:Nat}:a≤a+1+1:=by omega
@[simp] theorem lt_a2 {a:Nat}:a < a+1+1:=by omega
@[simp] theorem le_a3 {a:Nat}:a≤a+1+1+1:=by omega
@[simp] theorem lt_a3 {a:Nat}:a < a+1+1+1:=by omega
@[simp] theorem le_a4 {a:Nat}:a≤a+1+1+1+1:=by omega
@[simp] theorem lt_a4 {a:Nat}:a < a+1+1+1+1:=by omega
@[simp] theorem le_a5 {a:Nat}:a≤a+1+1+1+1+1:=by omega
@[simp] theorem lt_a5 {a:Nat}:a < a+1+1+1+1+1:=by omega
@[simp] theorem le_a6 {a:Nat}:a≤a+1+1+1+1+1+1:=by omega
@[simp] theorem lt_a6 {a:Nat}:a < a+1+1+1+1+1+1:=by omega
@[simp] theorem le_a7 {a:Nat}:a≤a+1+1+1+1+1+1+1:=by omega
@[simp] theorem lt_a7 {a:Nat}:a < a+1+1+1+1+1+1+1:=by omega
@[simp] theorem le_a8 {a:Nat}:a≤a+1+1+1+1+1+1+1+1:=by omega
@[simp] theorem lt_a8 {a:Nat}:a < a+1+1+1+1+1+1+1+1:=by omega
@[simp] theorem lt_a9 {a:Nat}:a < a+1+1+1+1+1+1+1+1+1:=by omega
@[simp] theorem le_a10 {a:Nat}:a≤a+1+1+1+1+1+1+1+1+1+1:=by omega
@[simp] theorem lt_a10 {a:Nat}:a < a+1+1+1+1+1+1+1+1+1+1:=by omega
section
variable {ρ α β γ σ:Type}
class Con (m:Option α) (P:Program) (f:FuncId) (av:outParam (List AV)) (er:outParam (α→RV)):Prop where
 h:∀ v,Is m v→PSpec P f av (er v)
instance {m:Option α} {P:Program} {f:FuncId} {av:List AV} {er:α→RV}:CoeFun (Con m P f av er) (fun _=>∀ v,Is m v→PSpec P f av (er v)):=⟨fun i=>i.h⟩
class ConF (m:α→Option β) (P:Program) (aenc:outParam (α→AV)) (er:outParam (β→RV)) (g:outParam FuncId) (caps:outParam (List (List D))):Prop where
 h:∀ x v,Is (m x) v→PSpec P g (aenc x::capsOf caps) (er v)
class ConG (m:α→β→Option γ) (P:Program) (aenc:outParam (α→AV)) (benc:outParam (β→AV)) (er:outParam (γ→RV)) (g:outParam FuncId) (caps:outParam (List (List D))):Prop where
 h:∀ x y v,Is (m x y) v→PSpec P g (aenc x::benc y::capsOf caps) (er v)
theorem i_call {P:Program} {f:FuncId} {vs:List V} {av:List AV} {d:Nat} {e:Env} {h:HS} {Kc:Env→HS→Prop} {er:α→RV} {m:Option α} {K:α→Option ρ} {r:ρ} (hm:Is (bindK m K) r) [i:Con m P f av er] (has:toAs h vs=some av)
  (hk:∀ v,Is (K v) r→Kc (e.put (some d) ((er v).toV h.ep d)) ((h.addFr d (er v).fr).next)):callK P f [] vs d e h (K:=⟨Kc⟩):=
 r_call hm i.h has fun v _ hm=>hk v hm
theorem Zqv {P:Program} {g:FuncId} {vs:List V} {aenc:α→AV} {x:α} {caps:List Cap} {cs:List (List D)} {d:Nat} {e:Env} {h:HS} {Kc:Env→HS→Prop} {er:β→RV} {m:α→Option β} {K:β→Option ρ} {r:ρ} (hm:Is (bindK (m x) K) r) [i:ConF m P aenc er g cs] (has:toAs h vs=some [aenc x]) (hcs:capsA h caps=some cs)
  (hk:∀ v,Is (K v) r→Kc (e.put (some d) ((er v).toV h.ep d)) ((h.addFr d (er v).fr).next)):callK P g caps vs d e h (K:=⟨Kc⟩):=
 Zmc hm (i.h x) has hcs fun v _ hm=>hk v hm
theorem Zqu {P:Program} {g:FuncId} {vs:List V} {aenc:α→AV} {benc:β→AV} {x:α} {y:β} {caps:List Cap} {cs:List (List D)} {d:Nat} {e:Env} {h:HS} {Kc:Env→HS→Prop} {er:γ→RV} {m:α→β→Option γ} {K:γ→Option ρ} {r:ρ} (hm:Is (bindK (m x y) K) r) [i:ConG m P aenc benc er g cs] (has:toAs h vs=some [aenc x,benc y]) (hcs:capsA h caps=some cs)
  (hk:∀ v,Is (K v) r→Kc (e.put (some d) ((er v).toV h.ep d)) ((h.addFr d (er v).fr).next)):callK P g caps vs d e h (K:=⟨Kc⟩):=
 Zmc hm (i.h x y) has hcs fun v _ hm=>hk v hm
theorem Zoi {α:Type} {c:Prop} [Decidable c] {v:α} {f:α→Prop} (h:c) (hk:f v):optV (if c then some v else none) (k:=⟨f⟩):=by rw[if_pos h];exact hk
theorem Rd.cases {c:C} {xs:List (List D)} (h:Rd c xs):c=.d (.sl xs)∨(∃ l,c=.own l xs)∨(c=.nil∧xs=[])∨(c=.z∧xs=[]):=by
 have h1:=h.1;cases c with
 | d x=>cases x<;>simp[C.list?] at h1;exact .inl (by rw[h1])
 | own l ys=>simp[C.list?] at h1;exact .inr (.inl ⟨l,by rw[h1]⟩)
 | nil=>simp[C.list?] at h1;exact .inr (.inr (.inl ⟨rfl,h1⟩))
 | z=>simp[C.list?] at h1;exact .inr (.inr (.inr ⟨rfl,h1⟩))
 | _=>simp[C.list?] at h1
def Z6r:List Cap→List Lab
 | []=>[]
 | .lab l::cs=>l::Z6r cs
 | _::cs=>Z6r cs
def labsV:V→List Lab
 | .one (.ptr l _)=>[l]
 | .one (.fn _ cs)=>Z6r cs
 | _=>[]
@[simp] theorem Zsf {l:Lab} {o:Nat}:labsV (.one (.ptr l o))=[l]:=rfl
@[simp] theorem Ztg {f:FuncId} {cs:List Cap}:labsV (.one (.fn f cs))=Z6r cs:=rfl
@[simp] theorem Zu8 {x:D}:labsV (.one (.d x))=[]:=rfl
@[simp] theorem Zsg {l:Lab} {xs:List (List D)}:labsV (.one (.own l xs))=[]:=rfl
@[simp] theorem Zsh:labsV (.one .nil)=[]:=rfl
@[simp] theorem Zu7:labsV (.one .z)=[]:=rfl
@[simp] theorem Ztf {ds:List D}:labsV (.one (.rp ds))=[]:=rfl
@[simp] theorem Zsi:labsV (.one .any)=[]:=rfl
@[simp] theorem Zrq {l:Lab} {o n c:Nat}:labsV (.one (.mrow l o n c))=[]:=rfl
@[simp] theorem Zsj {cs:List C}:labsV (.agg cs)=[]:=rfl
@[simp] theorem Zsd {vs:List V}:labsV (.tup vs)=[]:=rfl
@[simp] theorem Zse:labsV .top=[]:=rfl
@[simp] theorem Zqt:labsV .undef=[]:=rfl
theorem Rd.labs {c:C} {xs:List (List D)} (h:Rd c xs):labsV (.one c)=[]:=by
 rcases h.cases with rfl | ⟨l,rfl⟩ | ⟨rfl,_⟩ | ⟨rfl,_⟩<;>rfl
inductive Car (σ:Type) where
 | d (t:Nat) (f:σ→D)
 | g (t n:Nat) (f:σ→List (List D))
 | r (t:Nat) (f:σ→List (List D))
def CarOK (e:Env) (h:HS) (s:σ):List C→List (Car σ)→Prop
 | _,[]=>True
 | p,.d t f::cs=>e.get t=.one (.d (f s))∧CarOK e h s p cs
 | p,.g t n f::cs=>∃ c,e.get t=.one c∧Grows h n c (f s)∧(∀ c' ∈ p,Apart c' c)∧CarOK e h s (c::p) cs
 | p,.r t f::cs=>∃ c,e.get t=.one c∧Rd c (f s)∧CarOK e h s p cs
def CarUse (e:Env) (h:HS) (s:σ):List C→List (Car σ)→Prop
 | _,[]=>True
 | p,.d t f::cs=>e.get t=.one (.d (f s))∧CarUse e h s p cs
 | p,.g t n f::cs=>∃ c,e.get t=.one c∧Rd c (f s)∧Grows h n c (f s)∧c.list?=some (f s)∧c.toD=some (.sl (f s))∧(∀ h,c.toA h=some (.d (.sl (f s))))∧(∀ (h':HS) (l:Lab),h.ep≤l.1→(C.useUp h' c).arr l=h'.arr l)∧labsV (.one c)=[]∧(∀ (l:Lab) (ys:List (List D)),h.ep≤l.1→Apart (.own l ys) c∧Apart c (.own l ys))∧(∀ c' ∈ p,Apart c' c)∧CarUse e h s (c::p) cs
 | p,.r t f::cs=>∃ c,e.get t=.one c∧Rd c (f s)∧c.list?=some (f s)∧c.toD=some (.sl (f s))∧(∀ h,c.toA h=some (.d (.sl (f s))))∧labsV (.one c)=[]∧CarUse e h s p cs
theorem CarOK.use {e:Env} {h:HS} {s:σ}:∀ {cs:List (Car σ)} {p:List C},CarOK e h s p cs→CarUse e h s p cs
 | [],_,_=>trivial
 | .d _ _::_,_,h=>⟨h.1,h.2.use⟩
 | .g _ _ _::_,_,⟨c,h1,h2,h3,h4⟩=>⟨c,h1,h2.rd,h2,h2.list,h2.toD,h2.toA,h2.useUp_arr,h2.rd.labs,fun _ _ hl=>⟨h2.apart hl,(h2.apart hl).symm⟩,h3,h4.use⟩
 | .r _ _::_,_,⟨c,h1,h2,h4⟩=>⟨c,h1,h2,h2.1,h2.2.1,h2.2.2,h2.labs,h4.use⟩
def Keep (e e':Env):List Nat→Prop
 | []=>e'.n=e.n
 | t::ts=>e'.get t=e.get t∧Keep e e' ts
theorem Z63 {caps:List (List D)}:Z6r (caps.map Cap.rp)=[]:=by
 induction caps with
 | nil=>rfl
 | cons c cs ih=>exact ih
def AllL (p:Lab→Prop):List Lab→Prop
 | []=>True
 | l::ls=>p l∧AllL p ls
theorem AllL.imp {p q:Lab→Prop} (h:∀ l,p l→q l):∀ {ls:List Lab},AllL p ls→AllL q ls
 | [],_=>trivial
 | l::_,a=>⟨h l a.1,a.2.imp h⟩
def LtB (e:Env) (h:HS):List Nat→Prop
 | []=>True
 | t::ts=>AllL (fun l=>l.1 < h.ep) (labsV (e.get t))∧LtB e h ts
def KeepB (e:Env) (h h':HS):List Nat→Prop
 | []=>True
 | t::ts=>AllL (fun l=>h'.box l=h.box l) (labsV (e.get t))∧KeepB e h h' ts
theorem LtB.keep {e:Env} {h h':HS} (hb:∀ l:Lab,l.1 < h.ep→h'.box l=h.box l):∀ {ts:List Nat},LtB e h ts→KeepB e h h' ts
 | [],_=>trivial
 | _::_,a=>⟨a.1.imp hb,a.2.keep hb⟩
def HF (h h':HS):Prop:=h.ep≤h'.ep∧∀ l:Lab,l.1 < h.ep→h'.box l=h.box l
theorem HF.refl {h:HS}:HF h h:=⟨Nat.le_refl _,fun _ _=>rfl⟩
theorem HF.tr {h0 h1 h:HS} (b:HF h1 h) (a:HF h0 h1):HF h0 h:=⟨Nat.le_trans a.1 b.1,fun l hl=>(b.2 l (Nat.lt_of_lt_of_le hl a.1)).trans (a.2 l hl)⟩
theorem HF.next {h h':HS} (a:HF h h'):HF h h'.next:=⟨Nat.le_succ_of_le a.1,a.2⟩
theorem HF.setArr {h h':HS} {l:Lab} {x:Option (Nat × Nat)} (a:HF h h'):HF h (h'.setArr l x):=a
theorem HF.useUp {h h':HS} {c:C} (a:HF h h'):HF h (C.useUp h' c):=by cases c<;>exact a
theorem HF.addFr {h:HS} {d:Nat}:∀ {x:List (Nat × Nat × Nat)} {h':HS},HF h h'→HF h (h'.addFr d x)
 | [],_,a=>a
 | (j,es,n)::r,h',a=>HF.addFr (x:=r) (h':=h'.setArr (h'.ep,16 * d+j+1) (some (n,es))) a
theorem HF.setBox {h h':HS} {l:Lab} {cs:List C} (a:HF h h') (hl:h.ep≤l.1):HF h (h'.setBox l cs):=⟨a.1,fun k hk=>by
 have:k≠l:=by rintro rfl;omega
 simp[HS.setBox,this];exact a.2 k hk⟩
inductive LH (ctr:Nat) (keep:List Nat) (cars:List (Car σ)):Prop where
 | intro
def ctrOf:Code→Nat
 | .seq a _=>ctrOf a
 | .region _ ops _=>match ops.toList with
   | o::_=>match o.op with
     | .binOp _ _ (.tmp t) _ _=>t
     | _=>0
   | []=>0
 | _=>0
def LR (keep:List Nat) (cars:List (Car σ)) (e:Env) (h:HS) (s:σ) (e':Env) (h':HS):Prop:=Keep e e' keep∧HF h h'∧CarOK e' h' s [] cars
theorem Wait.forH {P:Program} {c:Code} {Q:Exit→Env→HS→Prop} {e:Env} {h:HS} {xs:List α} {s0:σ} {body:Nat→α→σ→(σ→Option ρ)→Option ρ} {k:σ→Option ρ} {r:ρ} {ctr:Nat} {keep:List Nat} {cars:List (Car σ)} (_:LH ctr keep cars)
  (_:ctrOf c=ctr) (hm:Is (forK body k xs 0 s0) r) (hl:xs.length≤LIM) (h1:e.get ctr=.one (.d (.int .i64 0))) (h0:CarOK e h s0 [] cars) (hB:LtB e h keep)
  (round:∀ (i:Nat) (s:σ) (e':Env) (h':HS),Keep e e' keep→e'.get ctr=.one (.d (.int .i64 (i:Int)))→CarUse e' h' s [] cars→KeepB e h h' keep→HF h h'→h.ep≤h'.ep→(∀ l:Lab,l.1 < h.ep→h'.box l=h.box l)→i < xs.length→IntKind.i64.wrap ((i:Int)+1)=(i:Int)+1→∀ hlt:i < xs.length,Is (body i xs[i] s (fun s'=>forK body k (xs.drop (i+1)) (i+1) s')) r →
   vc P c (thenQ (fun e' h'=>BackF (I:=⟨fun s' e' h'=>(e'.get ctr=.one (.d (.int .i64 ((i+1:Nat):Int)))∧LR keep cars e h s' e' h')∧Is (forK body k (xs.drop (i+1)) (i+1) s') r⟩) e' h') Q) e' h')
  (fin:∀ (s:σ) (e':Env) (h':HS),Keep e e' keep→e'.get ctr=.one (.d (.int .i64 (xs.length:Int)))→CarUse e' h' s [] cars→KeepB e h h' keep→HF h h'→h.ep≤h'.ep→(∀ l:Lab,l.1 < h.ep→h'.box l=h.box l)→Is (k s) r→vc P c (thenQ (fun _ _=>Never) Q) e' h') :
  Wait P (c:=⟨.loop c⟩) (Q:=⟨Q⟩) e h:=by
 have hk:∀ ts,Keep e e ts:=by intro ts;induction ts with | nil=>rfl | cons t ts ih=>exact⟨rfl,ih⟩
 refine Wait.for (fun i s e' h'=>e'.get ctr=.one (.d (.int .i64 (i:Int)))∧LR keep cars e h s e' h') hm ⟨h1,hk _,.refl,h0⟩ ?_ ?_
 ·rintro i s e' h' ⟨hc,h2,h3,h4⟩ hlt hm;exact round i s e' h' h2 hc h4.use (hB.keep h3.2) h3 h3.1 h3.2 hlt (IntWalk.i64_in _ (by have hl':xs.length≤2097152:=hl;omega)) hlt hm
 ·rintro s e' h' ⟨hc,h2,h3,h4⟩ hm;exact fin s e' h' h2 hc h4.use (hB.keep h3.2) h3 h3.1 h3.2 hm
theorem Wait.countH {P:Program} {c:Code} {Q:Exit→Env→HS→Prop} {e:Env} {h:HS} {N:Int} {s0:σ} {body:Nat→σ→(σ→Option ρ)→Option ρ} {k:σ→Option ρ} {r:ρ} {ctr:Nat} {keep:List Nat} {cars:List (Car σ)} (_:LH ctr keep cars)
  (_:ctrOf c=ctr) (hm:Is (countK body k N.toNat 0 s0) r) (h1:e.get ctr=.one (.d (.int .i64 0))) (h0:CarOK e h s0 [] cars) (hB:LtB e h keep)
  (round:∀ (i:Nat) (s:σ) (e':Env) (h':HS),Keep e e' keep→e'.get ctr=.one (.d (.int .i64 (i:Int)))→CarUse e' h' s [] cars→KeepB e h h' keep→HF h h'→h.ep≤h'.ep→(∀ l:Lab,l.1 < h.ep→h'.box l=h.box l)→(i:Int) < N→Is (body i s (fun s'=>countK body k (N.toNat - (i+1)) (i+1) s')) r →
   vc P c (thenQ (fun e' h'=>BackF (I:=⟨fun s' e' h'=>(e'.get ctr=.one (.d (.int .i64 ((i+1:Nat):Int)))∧LR keep cars e h s' e' h')∧Is (countK body k (N.toNat - (i+1)) (i+1) s') r⟩) e' h') Q) e' h')
  (fin:∀ (i:Nat) (s:σ) (e':Env) (h':HS),Keep e e' keep→e'.get ctr=.one (.d (.int .i64 (i:Int)))→CarUse e' h' s [] cars→KeepB e h h' keep→HF h h'→h.ep≤h'.ep→(∀ l:Lab,l.1 < h.ep→h'.box l=h.box l)→¬ (i:Int) < N→Is (k s) r→vc P c (thenQ (fun _ _=>Never) Q) e' h') :
  Wait P (c:=⟨.loop c⟩) (Q:=⟨Q⟩) e h:=by
 have hk:∀ ts,Keep e e ts:=by intro ts;induction ts with | nil=>rfl | cons t ts ih=>exact⟨rfl,ih⟩
 refine Wait.count (fun i s e' h'=>e'.get ctr=.one (.d (.int .i64 (i:Int)))∧LR keep cars e h s e' h') hm ⟨h1,hk _,.refl,h0⟩ ?_ ?_
 ·rintro i s e' h' ⟨hc,h2,h3,h4⟩ hlt hm;exact round i s e' h' h2 hc h4.use (hB.keep h3.2) h3 h3.1 h3.2 hlt hm
 ·rintro i s e' h' ⟨hc,h2,h3,h4⟩ hge hm;exact fin i s e' h' h2 hc h4.use (hB.keep h3.2) h3 h3.1 h3.2 hge hm
theorem Wait.whileH {P:Program} {c:Code} {Q:Exit→Env→HS→Prop} {e:Env} {h:HS} {m:Nat} {s0:σ} {body:σ→(σ→Option ρ)→Option ρ} {r:ρ} {keep:List Nat} {cars:List (Car σ)} (_:LH 0 keep cars)
  (hm:Is (whileK body m s0) r) (h0:CarOK e h s0 [] cars) (hB:LtB e h keep)
  (round:∀ (n:Nat) (s:σ) (e':Env) (h':HS),Keep e e' keep→CarUse e' h' s [] cars→KeepB e h h' keep→HF h h'→h.ep≤h'.ep→(∀ l:Lab,l.1 < h.ep→h'.box l=h.box l)→Is (body s (fun s'=>whileK body n s')) r →
   vc P c (thenQ (fun e' h'=>BackF (I:=⟨fun s' e' h'=>LR keep cars e h s' e' h'∧Is (whileK body n s') r⟩) e' h') Q) e' h') :
  Wait P (c:=⟨.loop c⟩) (Q:=⟨Q⟩) e h:=by
 have hk:∀ ts,Keep e e ts:=by intro ts;induction ts with | nil=>rfl | cons t ts ih=>exact⟨rfl,ih⟩
 refine Wait.while (fun s e' h'=>LR keep cars e h s e' h') hm ⟨hk _,.refl,h0⟩ ?_;rintro n s e' h' ⟨h2,h3,h4⟩ hm;exact round n s e' h' h2 h4.use (hB.keep h3.2) h3 h3.1 h3.2 hm
theorem BackF.lr {A:σ→Env→HS→Prop} {G:σ→Prop} {s:σ} {e':Env} {h':HS} (hm:G s) (hA:A s e' h'):BackF (I:=⟨fun s e h=>A s e h∧G s⟩) e' h':=⟨s,hA,hm⟩
inductive PH (ids:List Nat) (p:Plan):Prop where
 | intro
theorem Wait.drawH {P:Program} {id:Nat} {ops:Array Oper} {Q:Exit→Env→HS→Prop} {e:Env} {h:HS} {ids:List Nat} {plan:Plan} (_:PH ids plan) (_:id ∈ ids) (hB:planB .any ops plan ops.size (Array.replicate ops.size false)=true) (hm:P.follows .mixedOrders=true)
  (hv:vcPlan P ops.toList (Q .normal) plan e h):Wait P (c:=⟨.region id ops true⟩) (Q:=⟨Q⟩) e h:=Wait.of (SWP.draw plan hm hB hv)
class ElT (P:Program) (ty:TypeId) (el es by_:outParam Nat):Prop where
 h:elT P ty=some (el,es,by_)
class EncE (α:Type) (enc:outParam (α→List D)) (n:outParam Nat):Prop where
 h:∀ y,(enc y).length=n
theorem i_app {P:Program} {ty el:TypeId} {es by_ d:Nat} {c x:C} {h:HS} {Kc:V→HS→Prop} {K:List α→Option ρ} {r:ρ} {enc:α→List D} {xs ys:List α} (hm:Is (appK2 xs ys K) r) [i:ElT P ty el es by_] [j:EncE α enc es] (hc:Grows h es c (xs.map enc)) (hx:x.list?=some (ys.map enc))
  (h0:0 < es∧by_≤4096)
  (hk:xs.length+ys.length≤LIM→Is (K (xs++ys)) r→Grows (((c.useUp h).setArr (h.ep,16 * d) (some ((xs++ys).length,es))).next) es (.own (h.ep,16 * d) ((xs++ys).map enc)) ((xs++ys).map enc) →
   Kc (.one (.own (h.ep,16 * d) ((xs++ys).map enc))) (((c.useUp h).setArr (h.ep,16 * d) (some ((xs++ys).length,es))).next)):appK P ty c x d h (K:=⟨Kc⟩):=
 r_app hm i.h hc hx h0.1 h0.2 j.h hk
theorem ret_m {P:Program} {rs:List ResultVar} {r:RV} {e:Env} {h:HS} (hm:optV (resVs P e h rs) (k:=⟨fun vs=>RetAll h (fun _=>none) vs r⟩)):retOK P rs r e h:=by
 cases hv:resVs P e h rs with
 | none=>rw[hv] at hm;exact hm.elim
 | some vs=>rw[hv] at hm;exact ret0 hv hm
theorem go {m:Option α} {P:Program} {f:FuncId} {fn:Func} {c:Code} {av:List AV} {er:α→RV} {rs:List ResultVar} (n:Nat) (hf:P.funcs[f]?=some fn) (hb:fn.body=some c) (hnm:(fn.name == "runtime.NumGoroutine")=false) (hn:fn.ntmps=n) (hrs:fn.results.toList=rs) (has:av.length≤n)
  (hv:∀ r,Is m r→vc P c (retQ P rs (er r)) (env0 n av) HS.init:=by
   intro r hm
   try simp (maxSteps:=1000000) [*]
   repeat' (first
    | (with_reducible have hq:=r_ret hm
       obtain rfl:=hq
       first
       | (refine ret_m ?_;simp (maxSteps:=1000000) [*];done)
       | (refine Z3g ?_;simp (maxDischargeDepth:=20) (maxSteps:=1000000) [*,GrowsV];done)
       | (refine Z3g ⟨_,?_,Grows.nil⟩;simp (maxSteps:=1000000) [*];done))
    | ((with_reducible refine r_cond hm ?_ ?_)<;>(clear hm;intro hc hm;try simp (maxSteps:=1000000) [*,Plan.then_,vcPlan,Z01,Z00,callKind]))
    | (with_reducible have hq:=Is.bind hm
       clear hq;refine i_call hm ?_ ?_
       ·simp (maxSteps:=1000000) [*];done
       clear hm;intro v hm;try simp (maxSteps:=1000000) [*,Plan.then_,vcPlan,Z01,Z00,callKind])
    | (with_reducible intro hl
       try simp only[List.length_map] at hl
       try simp (maxSteps:=1000000) [*,Plan.then_,vcPlan,Z01,Z00,callKind])
    | (with_reducible have hq:=Is.getN hm
       clear hm;obtain⟨x,hx,hm⟩:=hq
       try simp (maxSteps:=1000000) [*,Plan.then_,vcPlan,Z01,Z00,callKind])
    | (with_reducible have hq:=Is.get hm
       clear hm;obtain⟨x,h0,hx,hm⟩:=hq
       try simp at h0
       try simp at hx
       try simp (maxSteps:=1000000) [*,Plan.then_,vcPlan,Z01,Z00,callKind])
    | (with_reducible have hq:=Is.app hm
       clear hq;refine i_app hm ?_ ?_ ?_ ?_
       ·first
        | exact Grows.nil
        | (simp (maxDischargeDepth:=20) (maxSteps:=1000000) [*];done)
       ·simp (maxSteps:=1000000) [*];done
       ·decide
       clear hm;intro hl hm g;try simp (maxSteps:=1000000) [*,Plan.then_,vcPlan,Z01,Z00,callKind])
    | (with_reducible have hq:=Is.chk hm
       clear hm;obtain⟨hw,hm⟩:=hq
       first
       | replace hw:=Zl3 hw
       | (obtain⟨ha,hb,hd⟩:=hw
          have he:=hb
          try simp at he
          have hf:=hd
          try simp at hf)
       | (have hw2:=hw
          try simp at hw2)
       try simp (maxSteps:=1000000) [*,Plan.then_,vcPlan,Z01,Z00,callKind])
    | ((with_reducible refine Zod hm ?_ ?_)<;>(clear hm;intro hc hm;try simp (maxSteps:=1000000) [*,Plan.then_,vcPlan,Z01,Z00,callKind]))
    | ((with_reducible refine Zcw hm ?_ ?_)<;>(clear hm;intro hc hm;try simp (maxSteps:=1000000) [*,Plan.then_,vcPlan,Z01,Z00,callKind]))
    | (with_reducible have hq:=Is.bind hm
       clear hq;refine Zqv hm ?_ ?_ ?_
       ·simp (maxSteps:=1000000) [*];done
       ·simp (maxSteps:=1000000) [*];done
       clear hm;intro v hm;try simp (maxSteps:=1000000) [*,Plan.then_,vcPlan,Z01,Z00,callKind])
    | (with_reducible have hq:=Is.bind hm
       clear hq;refine Zqu hm ?_ ?_ ?_
       ·simp (maxSteps:=1000000) [*];done
       ·simp (maxSteps:=1000000) [*];done
       clear hm;intro v hm;try simp (maxSteps:=1000000) [*,Plan.then_,vcPlan,Z01,Z00,callKind])
    | (with_reducible have hq:=Is.chr hm
       clear hm;obtain⟨y,h0,hx,hm⟩:=hq
       try simp (maxSteps:=1000000) [*,Plan.then_,vcPlan,Z01,Z00,callKind])
    | (refine BackF.lr hm ⟨?_,?_,?_,?_⟩
       ·simp (maxSteps:=1000000) [*];done
       ·simp (maxSteps:=1000000) [Keep, *];done
       ·repeat' (first | with_reducible exact HF.refl | with_reducible refine HF.next ?_ | with_reducible refine HF.setArr ?_ | with_reducible refine HF.useUp ?_ | with_reducible refine HF.addFr ?_ | with_reducible refine HF.setBox ?_ ?_ | assumption | (apply HF.tr;assumption) | (simp (maxSteps:=1000000) [*];done) | (simp (maxSteps:=1000000) [*];omega))
       ·simp (maxDischargeDepth:=20) (maxSteps:=1000000) [*,CarOK];done)
    | (refine BackF.lr hm ⟨?_,?_,?_⟩
       ·simp (maxSteps:=1000000) [Keep, *];done
       ·repeat' (first | with_reducible exact HF.refl | with_reducible refine HF.next ?_ | with_reducible refine HF.setArr ?_ | with_reducible refine HF.useUp ?_ | with_reducible refine HF.addFr ?_ | with_reducible refine HF.setBox ?_ ?_ | assumption | (apply HF.tr;assumption) | (simp (maxSteps:=1000000) [*];done) | (simp (maxSteps:=1000000) [*];omega))
       ·simp (maxDischargeDepth:=20) (maxSteps:=1000000) [*,CarOK];done)
    | ((first | refine Wait.forH l1 rfl hm ?_ ?_ ?_ ?_ ?_ ?_ | refine Wait.forH l2 rfl hm ?_ ?_ ?_ ?_ ?_ ?_ | refine Wait.forH l3 rfl hm ?_ ?_ ?_ ?_ ?_ ?_ | refine Wait.forH l4 rfl hm ?_ ?_ ?_ ?_ ?_ ?_ | refine Wait.forH l5 rfl hm ?_ ?_ ?_ ?_ ?_ ?_ | refine Wait.forH l6 rfl hm ?_ ?_ ?_ ?_ ?_ ?_)
       ·first | assumption | omega | (simp at *;omega)
       ·simp (maxSteps:=1000000) [*];done
       ·simp (maxDischargeDepth:=20) (maxSteps:=1000000) [*,CarOK];done
       ·simp (maxSteps:=1000000) [LtB,AllL,Z63,Z6r, *]<;>omega
       all_goals first
        | (skip
           clear hm
           with_reducible intro i s e h hk hct hcu hkb hhf hep hbx hlt0 hw hlt hm
           try simp only[CarUse] at hcu
           repeat obtain⟨_,hcu⟩:=hcu
           try simp only[Keep] at hk
           try simp (maxSteps:=1000000) [*] at hk
           have hep':=hep
           try simp at hep'
           try simp (maxSteps:=1000000) [KeepB,AllL,Z63,Z6r, *] at hkb
           try simp (maxSteps:=1000000) [*,Plan.then_,vcPlan,Z01,Z00,callKind])
        | (skip
           clear hm
           with_reducible intro s e h hk hct hcu hkb hhf hep hbx hm
           try simp only[CarUse] at hcu
           repeat obtain⟨_,hcu⟩:=hcu
           try simp only[Keep] at hk
           try simp (maxSteps:=1000000) [*] at hk
           have hep':=hep
           try simp at hep'
           try simp (maxSteps:=1000000) [KeepB,AllL,Z63,Z6r, *] at hkb
           try simp (maxSteps:=1000000) [*,Plan.then_,vcPlan,Z01,Z00,callKind]))
    | ((first | refine Wait.countH l1 rfl hm ?_ ?_ ?_ ?_ ?_ | refine Wait.countH l2 rfl hm ?_ ?_ ?_ ?_ ?_ | refine Wait.countH l3 rfl hm ?_ ?_ ?_ ?_ ?_ | refine Wait.countH l4 rfl hm ?_ ?_ ?_ ?_ ?_ | refine Wait.countH l5 rfl hm ?_ ?_ ?_ ?_ ?_ | refine Wait.countH l6 rfl hm ?_ ?_ ?_ ?_ ?_)
       ·simp (maxSteps:=1000000) [*];done
       ·simp (maxDischargeDepth:=20) (maxSteps:=1000000) [*,CarOK];done
       ·simp (maxSteps:=1000000) [LtB,AllL,Z63,Z6r, *]<;>omega
       all_goals
         clear hm
         with_reducible intro i s e h hk hct hcu hkb hhf hep hbx hlt hm
         try simp only[CarUse] at hcu
         repeat obtain⟨_,hcu⟩:=hcu
         try simp only[Keep] at hk
         try simp (maxSteps:=1000000) [*] at hk
         have hep':=hep
         try simp at hep'
         try simp (maxSteps:=1000000) [KeepB,AllL,Z63,Z6r, *] at hkb
         try simp (maxSteps:=1000000) [*,Plan.then_,vcPlan,Z01,Z00,callKind]
         first
         | (have hq:(i:Int) < _:=hlt
            refine Z10 (fun _=>?_) (fun hn=>absurd ?_ hn);rotate_left
            ·first | omega | (simp at hlt ⊢;omega) | (simp at hlt ⊢;split at hlt<;>split<;>omega)
            simp (maxSteps:=1000000) [*])
         | (have hq:¬ (i:Int) < _:=hlt
            refine Z10 (fun hn=>absurd hn ?_) (fun _=>?_)
            ·first | omega | (intro hn;simp at hlt hn;omega) | (intro hn;simp at hlt hn;split at hlt<;>split at hn<;>omega)
            simp (maxSteps:=1000000) [*])
         | skip)
    | ((first | refine Wait.whileH l1 hm ?_ ?_ ?_ | refine Wait.whileH l2 hm ?_ ?_ ?_ | refine Wait.whileH l3 hm ?_ ?_ ?_ | refine Wait.whileH l4 hm ?_ ?_ ?_ | refine Wait.whileH l5 hm ?_ ?_ ?_ | refine Wait.whileH l6 hm ?_ ?_ ?_)
       ·simp (maxDischargeDepth:=20) (maxSteps:=1000000) [*,CarOK];done
       ·simp (maxSteps:=1000000) [LtB,AllL,Z63,Z6r, *]<;>omega
       clear hm
       with_reducible intro n s e h hk hcu hkb hhf hep hbx hm
       try simp only[CarUse] at hcu
       repeat obtain⟨_,hcu⟩:=hcu
       try simp only[Keep] at hk
       try simp (maxSteps:=1000000) [*] at hk
       have hep':=hep
       try simp at hep'
       try simp (maxSteps:=1000000) [KeepB,AllL,Z63,Z6r, *] at hkb
       try simp (maxSteps:=1000000) [*,Plan.then_,vcPlan,Z01,Z00,callKind])
    | (first
       | (refine Wait.drawH p1 ?_ (by kernel_rfl) follows ?_
          ·decide)
       | (refine Wait.drawH p2 ?_ (by kernel_rfl) follows ?_
          ·decide)
       | (refine Wait.drawH p3 ?_ (by kernel_rfl) follows ?_
          ·decide)
       | (refine Wait.drawH p4 ?_ (by kernel_rfl) follows ?_
          ·decide)
       | (refine Wait.drawH p5 ?_ (by kernel_rfl) follows ?_
          ·decide)
       | (refine Wait.drawH p6 ?_ (by kernel_rfl) follows ?_
          ·decide)
       | (refine Wait.drawH p7 ?_ (by kernel_rfl) follows ?_
          ·decide)
       | (refine Wait.drawH p8 ?_ (by kernel_rfl) follows ?_
          ·decide)
       try simp (maxSteps:=1000000) [*,Plan.then_,vcPlan,Z01,Z00,callKind])
    | (refine⟨fun (_:Lab) (_:List C) hl=>hl,?_⟩;try simp (maxSteps:=1000000) [*,Plan.then_,vcPlan,Z01,Z00,callKind])
    | (refine And.intro ?_ ?_<;>try simp (maxSteps:=1000000) [*,Plan.then_,vcPlan,Z01,Z00,callKind])
    | (refine Z6z (by simp) ?_;try simp (maxSteps:=1000000) [*,Plan.then_,vcPlan,Z01,Z00,callKind])
    | (refine Z8d (by assumption) (fun hl=>?_);try simp only[List.length_map] at hl
       try simp (maxSteps:=1000000) [*,Plan.then_,vcPlan,Z01,Z00,callKind])
    | (refine Zoi ?_ ?_
       ·omega
       try simp (maxSteps:=1000000) [*,Plan.then_,vcPlan,Z01,Z00,callKind])
    | (rcases Rd.cases (by assumption) with hz | ⟨l,hz⟩ | ⟨hz,hy⟩ | ⟨hz,hy⟩
       all_goals
        subst hz
        first
        | (simp_all;done)
        | (try simp (maxSteps:=1000000) [*,Plan.then_,vcPlan,Z01,Z00,callKind])))):Con m P f av er:=
 ⟨fun r hm=>PSpec.of_vc hf hb hnm hn hrs has (hv r hm)⟩
end
end Go.Am
end
namespace Go.Proofs.YthiojhcimecdgaaGreatDoor
section
open Go.Am
instance:ElT Tryz.prog 22 39 1 24:=⟨Zab⟩
instance:ElT Tryz.prog 23 22 1 24:=⟨Zhc⟩
instance:ElT Tryz.prog 28 66 3 64:=⟨Z87⟩
instance:ElT Tryz.prog 29 116 3 56:=⟨Z86⟩
instance:ElT Tryz.prog 30 114 7 80:=⟨Z6n⟩
instance:ElT Tryz.prog 33 122 2 32:=⟨Zm4⟩
instance:ElT Tryz.prog 38 42 2 40:=⟨Zm3⟩
instance:ElT Tryz.prog 39 42 2 40:=⟨Z85⟩
instance:ElT Tryz.prog 40 44 1 24:=⟨Z45⟩
instance:ElT Tryz.prog 43 46 3 32:=⟨Zm2⟩
instance:ElT Tryz.prog 44 46 3 32:=⟨Zbn⟩
instance:ElT Tryz.prog 49 9 1 16:=⟨Z84⟩
instance:ElT Tryz.prog 50 54 4 72:=⟨Z8y⟩
instance:ElT Tryz.prog 63 111 3 32:=⟨Z8x⟩
instance:ElT Tryz.prog 64 3 1 8:=⟨Zaa⟩
instance:ElT Tryz.prog 100 32 3 72:=⟨Z9h⟩
instance:ElT Tryz.prog 107 50 1 24:=⟨Zie⟩
instance:ElT Tryz.prog 119 118 24 352:=⟨Zid⟩
instance:ElT Tryz.prog 120 118 24 352:=⟨Zic⟩
instance:ElT Tryz.prog 126 55 1 8:=⟨Zib⟩
instance:ElT Tryz.prog 142 4 1 1:=⟨Zia⟩
instance:ElT Tryz.prog 149 49 1 24:=⟨Zi9⟩
instance:ElT Tryz.prog 173 177 2 16:=⟨Zi8⟩
instance:ElT Tryz.prog 227 5 1 1:=⟨Zi7⟩
instance:EncE Int encI 1:=⟨fun _=>rfl⟩
instance:EncE Bool encB 1:=⟨fun _=>rfl⟩
instance:EncE ByteArray encS 1:=⟨fun _=>rfl⟩
instance {α:Type} {f:α→List D} {n:Nat} [EncE α f n]:EncE (List α) (encL f) 1:=⟨fun _=>rfl⟩
instance:EncE Db Db.enc 2:=⟨fun _=>rfl⟩
instance:EncE Sch Sch.enc 3:=⟨fun _=>rfl⟩
instance:EncE Gr Gr.enc 4:=⟨fun _=>rfl⟩
instance:EncE Rel Rel.enc 2:=⟨fun _=>rfl⟩
instance:EncE GV GV.enc 3:=⟨fun _=>rfl⟩
instance:EncE Txn Txn.enc 4:=⟨fun _=>rfl⟩
instance:EncE Chg Chg.enc 4:=⟨fun _=>rfl⟩
instance:EncE Tbl Tbl.enc 3:=⟨fun _=>rfl⟩
instance:EncE Col Col.enc 3:=⟨fun _=>rfl⟩
instance:EncE Cons Cons.enc 7:=⟨fun _=>rfl⟩
instance:EncE Fk Fk.enc 3:=⟨fun _=>rfl⟩
instance:EncE Stp Stp.enc 24:=⟨fun _=>rfl⟩
instance:EncE Edg Edg.enc 2:=⟨fun _=>rfl⟩
instance:EncE Hop Hop.enc 2:=⟨fun _=>rfl⟩
end
section
open Go Go.Am Go.RowKit
def Z67 (c : UInt8) : Bool := (decide (97 ≤ c.toNat) && decide (c.toNat ≤ 122)) || (decide (48 ≤ c.toNat) && decide (c.toNat ≤ 57))
def Z4c (s : ByteArray) : Bool := decide (1 ≤ s.size) && decide (s.size ≤ 12) && !(decide (48 ≤ (s.data.toList.headD 0).toNat) && decide ((s.data.toList.headD 0).toNat ≤ 57)) && s.data.toList.all Z67
theorem Zi0 (w : World) (e : TypeId) (s : ByteArray) : Below w.heap.size w (Lib.bytesWorld w e s) := by
  have h1 : (Lib.bytesWorld w e s).heap.size = w.heap.size + 1 := Lib.bytesWorld_size w e s
  refine ⟨?_, ?_, ?_, by omega, fun k hk => Lib.bytesWorld_at_old w e s k hk⟩ <;> simp [Lib.bytesWorld, World.freeze, World.alloc, World.drew, -World.alloc_eq, -World.drew_eq]
theorem Zn0 {s : ByteArray} {k : Nat} (hk : k < s.size) (hf : Z67 s[k] = false) : s.data.toList.all Z67 = false := by
  rw [List.all_eq_false]
  exact ⟨s[k], by obtain ⟨⟨l⟩⟩ := s; exact List.getElem_mem hk, by simpa using hf⟩
theorem Zp2 {s : ByteArray} (h : ∀ k (hk : k < s.size), Z67 s[k] = true) : s.data.toList.all Z67 = true := by
  rw [List.all_eq_true]
  intro x hx
  obtain ⟨⟨l⟩⟩ := s
  obtain ⟨k, hk, rfl⟩ := List.getElem_of_mem hx
  exact h k hk
set_option maxRecDepth 100000 in
set_option maxHeartbeats 1000000 in
theorem Ze2 (s : ByteArray) (w : World) : Calls Tryz.prog 126 #[.string s] w fun e w' => e = .returned (.bool (Z4c s)) ∧ Below w.heap.size w w' := by
  have U9 : Tryz.prog.underlying 9 = some .string := by kernel_rfl
  have U193 : Tryz.prog.underlying 227 = some (.slice 5) := by kernel_rfl
  have U5 : Tryz.prog.underlying 5 = some (.int .u8) := by kernel_rfl
  have kc : ∀ w : World, (convert 9 227 (.string s)).run Tryz.prog w = .ok (.slice (some ⟨w.heap.size, 0, none⟩) s.size (grownCap w s.size 0 5)) (Lib.bytesWorld w 5 s) := fun w => Lib.run_convert_string_bytes w 9 227 5 s U9 U193 U5
  by_cases h1 : (s.size : Int) < 1
  · have hv : Z4c s = false := by simp [Z4c]; omega
    rw [hv]
    go_enter Tryz.func126, Tryz.ntmps126
    go_wp2
    go_ret
    exact ⟨rfl, Below.refl _ _⟩
  by_cases h2 : 12 < (s.size : Int)
  · have hv : Z4c s = false := by simp [Z4c]; omega
    rw [hv]
    go_enter Tryz.func126, Tryz.ntmps126
    go_wp2
    go_ret
    exact ⟨rfl, Below.refl _ _⟩
  have hlt : 0 < s.size := by omega
  have hb : Below w.heap.size w (Lib.bytesWorld w 5 s) := Zi0 w 5 s
  have hcells : ∀ k (hk : k < s.size), (Lib.bytesWorld w 5 s).cell? ⟨w.heap.size, k, none⟩ = some (.int .u8 s[k].toNat) := fun k hk => by
    rw [Lib.bytesWorld_cell w 5 s k hk]
    simp [List.getD_eq_getElem?_getD, hk]
    rfl
  have hhead : s.data.toList.headD 0 = s[0] := by
    obtain ⟨⟨l⟩⟩ := s
    cases l with
    | nil => simp [ByteArray.size] at hlt
    | cons c l => rfl
  have first : (48 ≤ (s[0].toNat : Int) ∧ (s[0].toNat : Int) ≤ 57) → Z4c s = false := fun h => by
    have h5 : 48 ≤ s[0].toNat ∧ s[0].toNat ≤ 57 := by omega
    simp only [Z4c, hhead, h5.1, h5.2]
    simp
  have rest : ¬ (48 ≤ (s[0].toNat : Int) ∧ (s[0].toNat : Int) ≤ 57) → Z4c s = s.data.toList.all Z67 := fun h => by
    have e1 : decide (1 ≤ s.size) = true := by simp; omega
    have e2 : decide (s.size ≤ 12) = true := by simp; omega
    have e3 : (decide (48 ≤ s[0].toNat) && decide (s[0].toNat ≤ 57)) = false := by
      rw [Bool.and_eq_false_iff]; simp; omega
    simp only [Z4c, hhead, e1, e2, e3]
    simp
  have F := Lib.hid first
  have RS := Lib.hid rest
  have HC := Lib.hid hcells
  have HH := Lib.hid hhead
  have HB := Lib.hid hb
  clear first rest hcells hhead hb
  go_enter Tryz.func126, Tryz.ntmps126
  go_wp2
  · have h5 : 48 ≤ (s[0].toNat : Int) := by assumption
    have h6 : (s[0].toNat : Int) ≤ 57 := by assumption
    have h7 := Lib.hid (F.out ⟨h5, h6⟩)
    go_ret
    exact ⟨by rw [h7.out]; rfl, Below.refl _ _⟩
  all_goals
    have hr := RS.out (by omega)
    have HR := Lib.hid hr
    clear hr
    go_loop [26] (fun i => ∃ k : Nat, k ≤ s.size ∧ i = .int .i64 k ∧ ∀ j (hj : j < s.size), j < k → Z67 s[j] = true) (fun i => s.size - (intOf i).toNat)
    case atStart => exact ⟨0, Nat.zero_le _, rfl, fun j hj h => by omega⟩
    case round =>
      obtain ⟨k, hk, rfl, hall⟩ := hrel
      have HA := Lib.hid hall
      clear hall
      by_cases hlt2 : k < s.size
      · have hc1 := HC.out k hlt2
        go_wp2
        all_goals first
          | (go_round
             case rel => exact ⟨k + 1, by omega, by go_num, fun j hj hjk => by
               rcases Nat.lt_or_ge j k with h | h
               · exact HA.out j hj h
               · obtain rfl : j = k := by omega
                 simp only [Z67]; simp; omega⟩
             case measure => simp [intOf]; omega)
          | (have hf : Z67 s[k] = false := by
               simp only [Z67, Bool.or_eq_false_iff, Bool.and_eq_false_iff, decide_eq_false_iff_not]; omega
             have hz := HR.out.trans (Zn0 hlt2 hf)
             go_ret
             exact ⟨by rw [hz]; rfl, HB.out⟩)
      · have hz := HR.out.trans (Zp2 fun j hj => HA.out j hj (by omega))
        have HZ := Lib.hid hz
        clear hz
        go_wp2
        go_ret
        exact ⟨by rw [HZ.out]; rfl, HB.out⟩
def Z3l (s : ByteArray) : Option Bool := some (Z4c s)
theorem Zbf (s : ByteArray) (r : Bool) (hm : Is (Z3l s) r) : PSpec Tryz.prog 126 [.one (.d (.str s))] (.one (.d (.bool r))) := by
  obtain rfl := r_ret hm
  refine ⟨⟨_, Tryz.func126, by kernel_rfl, by kernel_rfl⟩, fun w m t vals hgok hm ht hargs => ?_⟩
  obtain ⟨hs, hg⟩ := hargs
  obtain ⟨u0, h0, r0⟩ := hg 0 _ rfl
  have e0 : u0 = .string s := RepD.str_inv (m := m) r0
  subst e0
  have hv : vals = #[.string s] := by
    apply Array.ext_getElem?
    intro i
    match i with
    | 0 => simpa using h0
    | i + 1 => rw [Array.getElem?_eq_none (by simp at hs; omega)]; simp
  subst hv
  refine (Ze2 s w).mono ?_
  rintro e w' ⟨rfl, hb⟩
  refine ⟨_, m, fun _ => (none, 0), rfl, Sub.refl _, fun _ _ _ _ h => h, fun b o v hv => ?_, hb, RepD.bool _, ⟨fun x hx => by simp [RV.fr, RV1.fr, RC.fr] at hx, fun x hx => by simp [RV.fr, RV1.fr, RC.fr] at hx⟩⟩
  have h1 := hm b o v hv
  have h2 := World.block_lt_of_cell? w ⟨b, o, none⟩ h1
  rw [hb.cell (p := ⟨b, o, none⟩) h2]
  exact h1
end
section
open Go.Am
def Z2x (s_:List GV):Option (List GV):=some s_
theorem Z5e (s_:List GV) (r:List GV) (hm:Is (Z2x s_) r):PSpec Tryz.prog 49 [.one (.d (.sl (s_.map GV.enc)))] (.one (.fresh 0 3 (r.map GV.enc))):=by
 obtain rfl:=r_ret hm;refine bound1 ⟨_,Tryz.func49,by kernel_rfl,by kernel_rfl⟩ (fun hl=>?_);have hxs:∀ x ∈ s_.map GV.enc,x.length=3:=by
  intro x hx;obtain⟨y,_,rfl⟩:=List.mem_map.1 hx;rfl
 generalize s_.map GV.enc=xs at *;refine PSpec.of_vc Tryz.func49 rfl (by kernel_rfl) (n:=8) rfl rfl (by simp) ?_;simp;refine Z7y Zbn rfl (xs:=xs) rfl (fun b hb=>?_);cases b with
 | true=>
   have:xs=[]:=Classical.byContradiction fun h=>by simpa using hb h
   subst this;simp;exact Z3g (by simpa using GrowsV.nil)
 | false=>
   simp;refine Z6z (by simp) ?_;simp;refine Zcc Zbn (Grows.own (by simp) (by simp) (by simp)) rfl (by decide) (by decide) hxs (by simpa using hl) ?_;simp;exact Z3g (by simpa using GrowsV.app (by simp) (by simp) hxs rfl)
instance i_slices_Clone_Value (s_:List GV):Con (Z2x s_) Tryz.prog 49 [.one (.d (.sl (s_.map GV.enc)))] (fun r=>.one (.fresh 0 3 (r.map GV.enc))):=⟨fun r hm=>Z5e s_ r hm⟩
def Z0p (rows:List (List GV)):Option ((List (List GV))):=
 (forK (fun (i2:Nat) (x2:List GV) (s2:(List (List GV))) next_2=>(bindK (Z2x x2) fun v3=>(appK2 s2 [v3] fun _=>(next_2 (s2++[v3]))))) (fun (s2:(List (List GV)))=>(some s2)) rows 0 [])
instance c_relation_Clone (rows:List (List GV)):Con (Z0p rows) Tryz.prog 51 [.one (.d (.sl (rows.map (encL GV.enc))))] (fun r=>.one (.d (.sl (r.map (encL GV.enc))))):=by
 unfold Z0p;have l1:LH (σ:=(List (List GV))) 8 [6,7] [.g 3 1 (fun s=>s.map (encL GV.enc))]:=.intro;exact go 19 Tryz.func51 rfl (by kernel_rfl) rfl rfl (by simp)
def Z2j (t:Tbl) (row:List GV):Option ((List GV)):=
 (forK (fun (i3:Nat) (x3:Int) (s3:(List GV)) next_3=>(bif decide (0≤x3) then (bif decide (x3 < (row.length:Int)) then (getK row x3 fun x8=>(appK2 s3 [x8] fun _=>(next_3 (s3++[x8])))) else (appK2 s3 [(GV.mk 0 0 ByteArray.empty)] fun _=>(next_3 (s3++[(GV.mk 0 0 ByteArray.empty)])))) else (appK2 s3 [(GV.mk 0 0 ByteArray.empty)] fun _=>(next_3 (s3++[(GV.mk 0 0 ByteArray.empty)]))))) (fun (s3:(List GV))=>(some s3)) t.pk 0 [])
instance c_relation_Key (t:Tbl) (row:List GV):Con (Z2j t row) Tryz.prog 17 [.agg t.enc,.one (.d (.sl (row.map GV.enc)))] (fun r=>.one (.fresh 0 3 (r.map GV.enc))):=by
 unfold Z2j;have l1:LH (σ:=(List GV)) 12 [1,10,11] [.g 5 3 (fun s=>s.map GV.enc)]:=.intro;exact go 35 Tryz.func17 rfl (by kernel_rfl) rfl rfl (by simp)
instance i_strings_Compare (a:ByteArray) (b:ByteArray):Con (Z36 a b) Tryz.prog 134 [.one (.d (.str a)),.one (.d (.str b))] (fun r=>.one (.d (.int .i64 r))):=⟨fun r hm=>Zc7 a b r hm⟩
def Z18 (a:Int) (b:Int):Option Int:=
 (bif decide (a < b) then (some (-1)) else (bif decide (b < a) then (some 1) else (some 0)))
instance c_value_compareInts (a:Int) (b:Int):Con (Z18 a b) Tryz.prog 96 [.one (.d (.int .i64 a)),.one (.d (.int .i64 b))] (fun r=>.one (.d (.int .i64 r))):=by
 unfold Z18;exact go 13 Tryz.func96 rfl (by kernel_rfl) rfl rfl (by simp)
def Z1m (a:GV) (b:GV):Option Int:=
 (bindK (Z18 a.kind b.kind) fun v3=>(bif (v3 != 0) then (some v3) else (bindK (Z18 a.int b.int) fun v5=>(bif (v5 != 0) then (some v5) else (bindK (Z36 a.text b.text) fun v7=>(some v7))))))
instance c_value_Compare (a:GV) (b:GV):Con (Z1m a b) Tryz.prog 95 [.agg a.enc,.agg b.enc] (fun r=>.one (.d (.int .i64 r))):=by
 unfold Z1m;exact go 28 Tryz.func95 rfl (by kernel_rfl) rfl rfl (by simp)
def Z2f (a:List GV) (b:List GV):Option Int:=
 (countK (fun (i3:Nat) (s3:Unit) next_3=>(getK a (i3:Int) fun x4=>(getK b (i3:Int) fun x5=>(bindK (Z1m x4 x5) fun v6=>(bif (v6 != 0) then (some v6) else (chkK (okI ((i3:Int)+1)) (next_3 ()))))))) (fun (s3:Unit)=>(bindK (Z18 (a.length:Int) (b.length:Int)) fun v11=>(some v11))) (Int.toNat (if (b.length:Int) < (a.length:Int) then (b.length:Int) else (a.length:Int))) 0 ())
instance c_value_CompareRows (a:List GV) (b:List GV):Con (Z2f a b) Tryz.prog 69 [.one (.d (.sl (a.map GV.enc))),.one (.d (.sl (b.map GV.enc)))] (fun r=>.one (.d (.int .i64 r))):=by
 unfold Z2f;have l1:LH (σ:=Unit) 12 [0,1,11] []:=.intro;have p1:PH [4] (Plan.then_ [0,1,2,3,4,5,6,7,8,9] .done):=.intro;exact go 33 Tryz.func69 rfl (by kernel_rfl) rfl rfl (by simp)
def Z25 (t:Tbl) (rows:List (List GV)) (key:List GV):Option (Int × Bool):=
 (forK (fun (i3:Nat) (x3:List GV) (s3:Unit) next_3=>(bindK (Z2j t x3) fun v4=>(bindK (Z2f v4 key) fun v5=>(bif decide (0≤v5) then (some ((i3:Int),(v5 == 0))) else (next_3 ()))))) (fun (s3:Unit)=>(some ((rows.length:Int),false))) rows 0 ())
instance c_relation_Find (t:Tbl) (rows:List (List GV)) (key:List GV):Con (Z25 t rows key) Tryz.prog 48 [.agg t.enc,.one (.d (.sl (rows.map (encL GV.enc)))),.one (.d (.sl (key.map GV.enc)))] (fun r=>.tup [.one (.d (.int .i64 r.1)),.one (.d (.bool r.2))]):=by
 unfold Z25;have l1:LH (σ:=Unit) 13 [1,2,3,11,12] []:=.intro;exact go 31 Tryz.func48 rfl (by kernel_rfl) rfl rfl (by simp)
end
section
open Go Go.Am
def rowc (row:List GV):C:=.d (.sl (row.map GV.enc))
theorem Z8n (h:HS) (rows out:List (List GV)) (hm:Is (Z0p rows) out) (K:V→HS→Prop)
  (hk:∀ c h',MR h' 1 c (ones (out.map rowc))→Same h h' []→(∀ k ∈ labs c,h.ep≤k.1∧k.1 < h'.ep)→K (.one c) h') :
  HSpec Tryz.prog 51 [.one (.d (.sl (rows.map (encL GV.enc))))] h K:=by
 unfold Z0p at hm;refine HSpec.of_vc Tryz.func51 rfl (by kernel_rfl) (n:=19) rfl rfl (by simp) ?_;simp;intro hil;refine Wait.for (xs:=rows) (s0:=[]) (fun i s e h'=>∃ c,e.n=19∧e.get 3=.one c∧e.get 6=.one (.d (.sl (rows.map (encL GV.enc))))∧e.get 7=.one (.d (.int .i64 (rows.length:Int)))∧e.get 8=.one (.d (.int .i64 (i:Int)))∧MR h' 1 c (ones (s.map rowc))∧Same h h' []∧∀ k ∈ labs c,h.ep≤k.1∧k.1 < h'.ep) hm ⟨.nil,by simp,by simp,by simp,by simp,by simp,by simpa[ones] using MR.nil,.refl,by simp[labs]⟩ ?_ ?_
 ·rintro i s e h' ⟨c,hn,h3,h6,h7,h8,hmr,hs,hl⟩ hlt hm;have hw:IntKind.i64.wrap ((i:Int)+1)=(i:Int)+1:=IntWalk.i64_in _ (by omega);obtain⟨row,hrow,hm⟩:=hm.bind;obtain⟨hap,hm⟩:=hm.chk;have hr:row=rows[i]:=(r_ret hrow).symm;simp[hn,h3,h6,h7,h8,hlt];refine Z09 (Z5e _ row hrow) (by simp) ?_;simp[hn,h3,h6,h7,h8,hlt];have hs2:Same h' ((h'.setArr (h'.ep,225) (some (row.length,3))).next.setArr (h'.ep+1,240) (some (1,1))).next []:=((Same.refl.setArr).next.setArr).next;refine app_mr Z45 (by kernel_rfl) (by decide) (by decide) (hmr.frame fun k hk=>hs2.2 k (hl k hk).2 (by simp)) (RowAt.own1 rfl) (by simpa[ones] using hap) (fun c' h2 hm2 hs3 hl3=>?_);simp[hn,h3,h6,h7,h8,hw];have hs4:Same h h2 []:=(hs.trans hs2).trans' hs3 fun k hk=>.inr (hl k hk).1;refine BackF.of (s++[row]) ⟨⟨c',by simp[hn],by simp[h3],by simp[h6],by simp[h7],by simp,?_,hs4,fun k hk=>?_⟩,hm⟩
  ·simpa[ones,rowc] using hm2
  ·rcases hl3 k hk with h9 | h9
   ·have:=hl k h9
    have:=hs3.1
    simp at this;omega
   ·have:=hs.1
    simp at h9;omega
 ·rintro s e h' ⟨c,hn,h3,h6,h7,h8,hmr,hs,hl⟩ hm;obtain rfl:=r_ret hm;simp[h3,h7,h8,hn];exact hk _ _ hmr hs hl
theorem Zil {h:HS} {c:C} {rows:List (List GV)} {rs:List C} (hm:MR h 1 c (ones rs)) (hl:rs.length=rows.length) (hd:∀ (i:Nat) (r:C) (row:List GV),rs[i]?=some r→rows[i]?=some row→r.toD=some (.sl (row.map GV.enc))):Frz h c (.sl (rows.map (encL GV.enc))):=by
 refine hm.frz (by simp[ones,hl]) (fun t ht=>by obtain⟨y,_,rfl⟩:=List.mem_map.1 ht;rfl) (fun i x t hx ht=>?_);simp only[ones,List.getElem?_map] at hx ht;cases hr:rs[i]? with
 | none=>rw[hr] at hx;cases hx
 | some r=>
   cases hw:rows[i]? with
   | none=>rw[hw] at ht;cases ht
   | some row=>
     rw[hr] at hx;rw[hw] at ht;cases hx;cases ht;exact⟨.data (hd i r row hr hw),trivial⟩
theorem Z8a {h:HS} {c:C} {rows:List (List GV)} (hm:MR h 1 c (ones (rows.map rowc))):Frz h c (.sl (rows.map (encL GV.enc))):=
 Zil hm (by simp) fun i r row hr hw=>by
  rw[List.getElem?_map,hw] at hr;cases hr;rfl
theorem Zik {h:HS} {l:Lab} {cap i:Nat} {rs sp:List C} {x:C} (hb:(rs++sp).length=cap * 1) (hlim:rs.length≤2097152) (hi:i < rs.length):MR (h.setBox l (Z03 (rs++sp) i [x])) 1 (.mrow l 0 rs.length cap) (ones (rs.set i x)):=by
 have e1:rs++sp=rs.take i++(rs[i]::(rs.drop (i+1)++sp)):=by
  rw[← List.cons_append,← List.drop_eq_getElem_cons hi,← List.append_assoc,List.take_append_drop]
 have e2:Z03 (rs++sp) i [x]=rs.set i x++sp:=by
  rw[e1,Z6d (by simp;omega),List.set_eq_take_append_cons_drop,if_pos hi];simp
 rw[e2]
 have:=Zfd (h:=h.setBox l (rs.set i x++sp)) (l:=l) (cap:=cap) (rs:=rs.set i x) (sp:=sp) (by simp) (by simp at hb ⊢;omega) (by simpa using hlim)
 simpa using this
def Z40 (t:Tbl) (rows:List (List GV)) (row:List GV):Option (List (List GV)):=
 bindK (Z0p rows) fun out=>bindK (Z2j t row) fun k=>bindK (Z25 t out k) fun q=>bif q.2 then chkK (0≤q.1∧q.1 < out.length) (some (out.set q.1.toNat row)) else chkK (0≤q.1∧q.1≤out.length∧out.length+1≤2097152) (some (out.take q.1.toNat++[row]++out.drop q.1.toNat))
theorem Zc9 (t:Tbl) (rows:List (List GV)) (row:List GV) (r:List (List GV)) (hm:Is (Z40 t rows row) r) :
  PSpec Tryz.prog 83 [.agg t.enc,.one (.d (.sl (rows.map (encL GV.enc)))),.one (.d (.sl (row.map GV.enc)))] (.one (.d (.sl (r.map (encL GV.enc))))):=by
 unfold Z40 at hm;refine PSpec.of_heap ?_;show HSpec _ _ [.agg (t.enc.map C.d),.one (.d (.sl (rows.map (encL GV.enc)))),.one (.d (.sl (row.map GV.enc)))] HS.init _;refine HSpec.of_vc Tryz.func83 rfl (by kernel_rfl) (n:=34) rfl rfl (by simp) ?_;obtain⟨out,hout,hm⟩:=hm.bind;obtain⟨k,hkv,hm⟩:=hm.bind;obtain⟨q,hqv,hm⟩:=hm.bind;obtain⟨qi,qb⟩:=q;simp only at hm;simp;refine Z02 (Z8n _ rows out hout _ (fun c h1 hm1 hs1 hl1=>?_));have b0:=hs1.2 (0,48) (by simp) (by simp);have hep:=hs1.1;simp at b0 hep;simp;refine Z09 (Z5e row row rfl) (by simp) ?_;simp;refine Wait.cut (Plan.then_ [0,1,2,3,4,5,6,7,8,9,10] .done) follows (by kernel_rfl) (fun e h2=>e.n=34∧e.get 7=.one c∧e.get 8=.one (.d (.int .i64 qi))∧e.get 9=.one (.d (.bool qb))∧e.get 2=.one (.own (h1.ep,209) (row.map GV.enc))∧Same h1 h2 []) ?_ ?_
 ·simp[b0,Plan.then_,vcPlan,Z01,Z00,callKind];refine Z09 (c_relation_Key t row k hkv) (by simp) ?_;simp[b0,Plan.then_,vcPlan,Z01,Z00,callKind];refine⟨fun _ _ x=>x,Z02 (HSpec.of_lend (c_relation_Find t out k (qi,qb) hqv) ⟨.agg (FrzCs.datas (ds:=t.enc)),.one (.frz (Z8a (hm1.frame fun l hl=>?_))),.one (.frz (.data rfl)),trivial⟩ rfl ?_)⟩
  ·rfl
  simp[b0,Plan.then_,vcPlan,Z01,Z00,callKind];refine⟨fun _ _ x=>x,CutK.of ?_⟩;simp;exact ((Same.refl.setArr).next).setArr.next.next
 ·rintro e h2 ⟨hn,h7,h8,h9,h2',hs2⟩;simp[hn,h7,h8,h9,h2'];have hm2:=hm1.frame fun l hl=>hs2.2 l (hl1 l hl).2 (by simp);cases qb with
  | true=>
    simp only[cond_true] at hm;obtain⟨⟨hq0,hql⟩,hm⟩:=hm.chk;obtain rfl:=r_ret hm;obtain⟨qn,rfl⟩:∃ n:Nat,qi=n:=⟨qi.toNat,by omega⟩;have hqi:qn < out.length:=by omega
    obtain⟨l,cap,sp,rfl,hb,hcap⟩:=hm2.block (by simp[ones];omega);rw[Zb7] at hb hcap;simp[hn,h7,h8,h2',hb,hqi,ones];have hm4:=Zik (h:=h2) (l:=l) (i:=qn) (x:=C.own (h1.ep,209) (row.map GV.enc)) hcap (by have:=hm1.2.1;simpa[ones] using this) (by simpa using hqi)
    have:=Zil (rows:=out.set qn row) (by simpa using hm4) (by simp) (fun i r w hr hw=>?_)
    ·refine⟨by simp at hcap;omega,?_⟩;show Frz _ _ _;simpa[encL] using this
    ·rw[List.getElem?_set] at hr hw
     by_cases hqe:qn=i
     ·subst hqe;simp[hqi] at hr hw;subst hr hw;rfl
     ·rw[if_neg hqe,List.getElem?_map] at hr;rw[if_neg hqe] at hw;rw[hw] at hr;cases hr;rfl
  | false=>
    simp only[cond_false] at hm;obtain⟨⟨hq0,hql,hlim⟩,hm⟩:=hm.chk;obtain rfl:=r_ret hm;obtain⟨qn,rfl⟩:∃ n:Nat,qi=n:=⟨qi.toNat,by omega⟩;simp[hn,h7,h8,h2'];refine Z02 (Zah _ c (out.map rowc) _ [.sl (row.map GV.enc)] qn ?_ (fun l hl=>?_) (by simp;omega) ?_ rfl (by simpa using hlim) _ (fun c' h3 hm3 hs3 hl3=>?_))
    ·exact hm2.frame fun l hl=>by simp
    ·have:=hl1 l hl
     have:=hs2.1
     simp;omega
    ·simp
    ·simp[hn];have hrc:ones ((out.map rowc).take qn++[C.d (.sl (row.map GV.enc))]++(out.map rowc).drop qn)=ones ((out.take qn++[row]++out.drop qn).map rowc):=by simp[rowc]
     have hm4:MR h3 1 c' (ones ((out.take qn++[row]++out.drop qn).map rowc)):=hrc ▸ hm3
     have:=Z8a hm4
     show Frz _ _ _;simpa[encL] using this
def Z41 (t:Tbl) (rows:List (List GV)) (key:List GV):Option (List (List GV) × Bool):=
 bindK (Z0p rows) fun out=>bindK (Z25 t out key) fun q=>bif q.2 then chkK (0≤q.1∧q.1 < out.length) (some (out.take q.1.toNat++out.drop (q.1.toNat+1),true)) else some (out,false)
theorem Zca (t:Tbl) (rows:List (List GV)) (key:List GV) (r:List (List GV) × Bool) (hm:Is (Z41 t rows key) r) :
  PSpec Tryz.prog 84 [.agg t.enc,.one (.d (.sl (rows.map (encL GV.enc)))),.one (.d (.sl (key.map GV.enc)))] (.tup [.one (.d (.sl (r.1.map (encL GV.enc)))),.one (.d (.bool r.2))]):=by
 unfold Z41 at hm;refine PSpec.of_heap ?_;show HSpec _ _ [.agg (t.enc.map C.d),.one (.d (.sl (rows.map (encL GV.enc)))),.one (.d (.sl (key.map GV.enc)))] HS.init _;refine HSpec.of_vc Tryz.func84 rfl (by kernel_rfl) (n:=28) rfl rfl (by simp) ?_;obtain⟨out,hout,hm⟩:=hm.bind;obtain⟨q,hqv,hm⟩:=hm.bind;obtain⟨qi,qb⟩:=q;simp only at hm;simp;refine Z02 (Z8n _ rows out hout _ (fun c h1 hm1 hs1 hl1=>?_));have b0:=hs1.2 (0,48) (by simp) (by simp);have hep:=hs1.1;simp at b0 hep;simp[b0];refine Z02 (HSpec.of_lend (c_relation_Find t out key (qi,qb) hqv) ⟨.agg (FrzCs.datas (ds:=t.enc)),.one (.frz (Z8a hm1)),.one (.frz (.data rfl)),trivial⟩ rfl ?_);have hm2:MR h1.next 1 c (ones (out.map rowc)):=hm1.frame fun l hl=>by simp
 simp;cases qb with
 | true=>
   simp only[cond_true] at hm;obtain⟨⟨hq0,hql⟩,hm⟩:=hm.chk;obtain rfl:=r_ret hm;obtain⟨qn,rfl⟩:∃ n:Nat,qi=n:=⟨qi.toNat,by omega⟩;have hlim:=hm1.2.1;rw[Zcy] at hlim;have hw:IntKind.i64.wrap ((qn:Int)+1)=((qn+1:Nat):Int):=IntWalk.i64_in _ (by simp at hlim;omega);simp[hw];refine Z02 (Zai _ c (ones (out.map rowc)) qn (qn+1) hm2 (by omega) (by simp[ones];omega) _ (fun c' h3 hm3 hs3 _ _ _=>?_));have hrc:(ones (out.map rowc)).take qn++(ones (out.map rowc)).drop (qn+1)=ones ((out.take qn++out.drop (qn+1)).map rowc):=by simp[ones]
   have hm4:MR h3 1 c' (ones ((out.take qn++out.drop (qn+1)).map rowc)):=hrc ▸ hm3
   have:=Z8a hm4
   simp[retH,resVs,resV,notTup];refine⟨?_,Frz.data rfl,trivial⟩;show Frz _ _ _;simpa[encL] using this
 | false=>
   simp only[cond_false] at hm;obtain rfl:=r_ret hm;simp[retH,resVs,resV,notTup];exact⟨Z8a hm2,Frz.data rfl,trivial⟩
end
end Go.Proofs.YthiojhcimecdgaaGreatDoor
