/- joined by a program out of 70 texts -/
import Derived.Test.YthiojhcimecdgaaGreatDoorL5
import Derived.Lib.Overlaps
import Derived.Shelf.LaysM
import Derived.Shelf.LaysC
import Derived.Test.YthiojhcimecdgaaGreatDoorProg
import Derived.Shelf.Strconv.Itoa3
import Derived.Lib.AppendIntMem
import Derived.Lib.LaidTab
import Derived.Shelf.Strings.Cut
import Derived.Shelf.Strings.Search3
set_option linter.unusedVariables false
set_option linter.unusedSimpArgs false
set_option maxRecDepth 20000
namespace Go.Proofs.YthiojhcimecdgaaGreatDoor
section
open Go Go.Am
theorem Zec {h:HS} {lv l:Lab} {vs:List (List D)} {nv ev off k cap:Nat} {cs:List C} (ha:h.arr lv=some (nv,ev)) (hnv:0 < nv) (hb:h.box l=some cs) (h0:0 < cs.length) :
  XSpec Tryz.prog 149 [.one (.own lv vs),.one (.mrow l off k cap)] h (.one (.d (.bool false))):=by
 intro Γ μ w vals hI hR;obtain⟨hsz,hg⟩:=hR;obtain⟨u0,hu0,r0⟩:=hg 0 _ rfl;obtain⟨u1,hu1,r1⟩:=hg 1 _ rfl;have hv:vals=#[u0,u1]:=by
  apply Array.ext_getElem?;intro i
  match i with
  | 0=>simpa using hu0
  | 1=>simpa using hu1
  | i+2=>rw[Array.getElem?_eq_none (by simp at hsz;omega)];simp
 subst hv;obtain⟨_,g,gcap,hlv,rfl⟩:=(show RepC μ (.own lv vs) u0 from r0);obtain⟨b,kk,hl,rfl,_⟩:=(show RepC μ (.mrow l off k cap) u1 from r1);refine⟨.bool false,?_,RepD.bool _⟩;rw[run_callFunc_extern (fn:=Tryz.f149) Tryz.func149 (by kernel_rfl) (by kernel_rfl) (by kernel_rfl) (e:=Extern.SlicesOverlaps.overlaps #[40,40] #[4]) (by kernel_rfl)];obtain⟨b2,n2,T2,conc2,hl2,_,hh2,hR2,_⟩:=hI.box l cs hb;rw[hl] at hl2;cases hl2;obtain⟨gc,hgc,hrow⟩:=hI.arr lv ev nv ha;rw[hlv] at hgc;cases hgc;cases g with
 | none=>
   have:=(hrow.1 rfl).2
   omega
 | some g=>
   obtain⟨_,T1,cur,hh1,_⟩:=hrow.2 g rfl;have hne:g≠b:=by
    rintro rfl
    have:=hI.inj lv l g gcap kk (.inr (by rw[ha];simp)) (.inl (by rw[hb];simp)) hlv hl
    subst this;exact hI.both lv (by rw[hb];simp) (by rw[ha];simp)
   have hcl:conc2.size=cs.length:=hR2.1;obtain⟨i,z,hu,hi,hsz,_⟩:=Z5k Z46;show Result.andThen (Sem.run Tryz.prog (Extern.SlicesOverlaps.overlaps #[40,40] #[4] #[.slice (some ⟨g,0,none⟩) vs.length gcap,.slice (some ⟨b,off,none⟩) k cap]) w) _=_;rw[Lib.run_overlaps_apart w 40 4 44 hu i.size (fun w=>by simp[sizeOf,typeInfo,hi]) ⟨g,0,none⟩ ⟨b,off,none⟩ vs.length gcap k cap hne T1 T2 cur.size conc2.size (by simp[World.shape?,hh1]) (by simp[World.shape?,hh2]) (by omega) (by simp[World.frozen?,hh1]) (by simp[World.frozen?,hh1])];rfl
def ones (rs:List C):List (List C):=rs.map fun r=>[r]
theorem Zgc:∀ rs:List C,(ones rs).flatten=rs
 | []=>rfl
 | r::rs=>by
   have:=Zgc rs
   simp only[ones] at this;simp[ones,this]
theorem Zoi (rs:List C):AllC 1 (ones rs):=by
 intro x hx;obtain⟨y,_,rfl⟩:=List.mem_map.1 hx;rfl
theorem Zcu (rs:List C):(ones rs).length=rs.length:=by simp[ones]
theorem Zb2 (rs sp:List C):rowBox (ones rs) sp=rs++sp:=by rw[rowBox,Zgc]
theorem Zfa {h:HS} {l:Lab} {cap:Nat} {rs sp:List C} (hb:h.box l=some (rs++sp)) (hl:rs.length+sp.length=cap) (hlim:rs.length≤2097152):MR h 1 (.mrow l 0 rs.length cap) (ones rs):=
 ⟨Zoi rs,by rw[Zcu];exact hlim,.inr ⟨l,cap,sp,by rw[Zcu],by rw[Zb2];exact hb,by rw[Zb2];simp[hl]⟩⟩
theorem Zbo {h:HS} {l:Lab} {cs:List C} {off k cap:Nat} (hb:h.box l=some cs) (hk:off+k≤cs.length):Z0k h 1 (.mrow l off k cap)=some ((cs.drop off).take k):=by
 simp only[Z0k,hb,takeN,Nat.mul_one];rw[if_pos (by simp;omega)]
theorem Z6c {a b vs:List C} {n:Nat} (hn:n=a.length):Z03 (a++b) n vs=a++vs++b.drop vs.length:=by
 subst hn;simp[Z03,List.append_assoc]
theorem Zb5 {P:Program} {ty el:TypeId} {n by_ off k cap m mk:Nat} {l:Lab} {x:C} {h:HS} {new cs cs':List C} {f:V→HS→Prop} (hel:elT P ty=some (el,n,by_)) (hx:Z0k h n x=some new) (hm:cLen x=some m) (hb:h.box l=some cs) (h0:0 < n) (hnew:new.length=m * n) (hfit:off+k * n≤cs.length)
  (hmk:min m k=mk) (hcs:Z03 cs off (new.take (mk * n))=cs') (hk:f (dint .i64 (mk:Int)) (h.setBox l cs')):copyK P ty (.mrow l off k cap) x h (K:=⟨f⟩):=by
 unfold copyK vcCopy;simp only[hel,hx,hm,hb];refine⟨⟨h0,hnew,hfit⟩,?_⟩;rw[hmk,hcs];exact hk
set_option maxHeartbeats 2000000 in
theorem Zad (h:HS) (c:C) (rs:List C) (lv:Lab) (d:List D) (i:Nat) (hm:MR h 1 c (ones rs)) (hlb:∀ k ∈ labs c,k.1 < h.ep) (hi:i≤rs.length) (ha:h.arr lv=some (1,1)) (hd:d.length=1) (hlim:rs.length+1≤2097152) (K:V→HS→Prop)
  (hk:∀ c' h',MR h' 1 c' (ones (rs.take i++d.map C.d++rs.drop i))→Same h h' (labs c)→(∀ k ∈ labs c',k ∈ labs c∨(h.ep≤k.1∧k.1 < h'.ep))→K (.one c') h') :
  HSpec Tryz.prog 124 [.one c,.one (.d (.int .i64 (i:Int))),.one (.own lv [d])] h K:=by
 obtain⟨v,rfl⟩:∃ v,d=[v]:=by
  match d,hd with
  | [v],_=>exact⟨v,rfl⟩
 refine HSpec.of_vc Tryz.func124 rfl (by kernel_rfl) (n:=95) rfl rfl (by simp) ?_;rcases hm.2.2 with ⟨h1,hcz⟩ | ⟨l,cap,sp,rfl,hb,hcap⟩
 ·have hrs:rs=[]:=by simpa[ones] using h1
  subst hrs;obtain rfl:i=0:=by simpa using hi
  rcases hcz with rfl | rfl
  all_goals
   simp;refine app_mr Z46 (by kernel_rfl) (by decide) (by decide) hm (RowAt.own1 rfl) (by simp[ones]) (fun c' h' hm' hs' hl'=>?_);simp;exact hk _ _ (by simpa[ones] using hm') hs' hl'
 ·rw[Zb2] at hb hcap;rw[Zcu] at hm hk ⊢;simp only[List.length_append,Nat.mul_one] at hcap;simp;refine Z1u ⟨by omega,by omega⟩ (fun _=>?_) (fun _=>?_)
  all_goals
   simp;refine Z6a (fun he=>?_) (fun he=>?_)
   ·have hir:i=rs.length:=by simp at he;omega
    subst hir;simp;refine app_mr Z46 (by kernel_rfl) (by decide) (by decide) hm (RowAt.own1 rfl) (by simp[ones];omega) (fun c' h' hm' hs' hl'=>?_);simp;exact hk _ _ (by simpa[ones] using hm') hs' hl'
   ·have hir:i < rs.length:=by
     have:(i:Int)≠rs.length:=by simpa using he
     omega
    have hw1:IntKind.i64.wrap ((rs.length:Int)+1)=(rs.length:Int)+1:=IntWalk.i64_in _ (by omega);have hw2:IntKind.i64.wrap ((i:Int)+1)=(i:Int)+1:=IntWalk.i64_in _ (by omega);simp[hw1];refine Zmu Z46 ?_;simp[hw1,hw2];refine Z13 (fun hlt=>?_) (fun hge=>?_)
    ·have hlt':cap < rs.length+1:=by omega
     have hic:i≤cap:=by omega
     have hc0:0 < cap:=by omega
     have hw3:IntKind.i64.wrap ((rs.length:Int)+1 - i)=(rs.length:Int)+1 - i:=IntWalk.i64_in _ (by omega);simp[hw1,hw2,hw3];refine Z1u (by omega) (fun _=>?_) (fun h9=>absurd hc0 (by simpa using h9));simp[hw1,hw2,hw3];have hN:i+((rs.length:Int)+1 - i).toNat=rs.length+1:=by omega
     refine Zkw Z46 (by decide) (kk:=.i64) rfl (by kernel_rfl) (by decide) (by decide) (by omega) (by show (i:Int)+_≤2097152;omega) (by omega) (old:=rs.take i) (by rw[Zbo hb (by simp;omega),List.drop_zero,List.take_append_of_le_length hi]) (by simp;omega) (fun cap' hcap'=>?_);rw[hN] at hcap' ⊢;have hic':i < cap':=by omega
     simp[hw1,hw2,hw3];refine Z1u (by omega) (fun _=>?_) (fun h9=>absurd hic' (by simpa using h9));simp[hw1,hw2,hw3];have htl:(rs.take i).length=i:=by simp;omega
     have hlen:(rs.take i++[C.d v]++rs.drop i).length=rs.length+1:=by simp;omega
     have hz:(0:Int)≤(i:Int)+1:=by omega
     refine Zb5 (n:=1) (new:=[.d v]) (m:=1) (mk:=1) (cs':=rs.take i++[.d v]++List.replicate (cap' - i - 1) .any) Z46 (by simp[Z0k,C.list?]) (by simp[cLen,C.list?]) (by simp;rfl) (by decide) rfl (by simp;omega) (by omega) (by rw[Z6c htl.symm];simp) ?_;simp[hw1,hw2,hw3];refine Wait.cut (Plan.then_ [0,1,2,3,4,5,6,7,8] .done) follows (by kernel_rfl) (fun e1 h1=>e1.n=95∧e1.get 9=.one (.mrow (h.ep,640) 0 (rs.length+1) cap')∧h1.box (h.ep,640)=some (rs.take i++[.d v]++rs.drop i++List.replicate (cap' - (rs.length+1)) .any)∧Same h h1 []∧h.ep < h1.ep) ?_ ?_
     ·simp[hw1,hw2,hw3,Plan.then_,vcPlan,Z02,Z00,callKind];simp only[hz,if_true];refine Z1u (by simp;omega) (fun _=>?_) (fun h9=>absurd (show i+1 < cap' by omega) (by simpa using h9));simp[hw1,hw2,hw3,Plan.then_,vcPlan,Z02,Z00,callKind];refine Z1u (by omega) (fun _=>?_) (fun h9=>absurd (show i < cap by omega) (by simpa using h9));simp[hw1,hw2,hw3,Plan.then_,vcPlan,Z02,Z00,callKind];have hll:l.1 < h.ep:=hlb l (by simp[labs]);have hne:l≠(h.ep,640):=by rintro rfl;simp at hll
      have htl2:(rs.take i++[C.d v]).length=i+1:=by simp;omega
      have hdi:((rs++sp).drop i).take (rs.length - i)=rs.drop i:=by
       rw[List.drop_append_of_le_length hi,List.take_append_of_le_length (by simp)];exact List.take_of_length_le (by simp)
      refine Zb5 (n:=1) (new:=rs.drop i) (m:=rs.length - i) (mk:=rs.length - i) (cs:=rs.take i++[.d v]++List.replicate (cap' - i - 1) .any) (cs':=rs.take i++[.d v]++rs.drop i++List.replicate (cap' - (rs.length+1)) .any) Z46
       (by rw[Zbo (cs:=rs++sp) (by simp[hne,hb]) (by simp;omega),hdi]) rfl (by simp) (by decide) (by simp) (by simp;omega) (by omega) ?_ ?_
      ·have e9:cap' - i - 1 - (rs.length - i)=cap' - (rs.length+1):=by omega
       have e10:(rs.drop i).take ((rs.length - i) * 1)=rs.drop i:=List.take_of_length_le (by simp);rw[e10,Z6c htl2.symm];simp[e9]
      ·refine CutK.of ?_;simp;exact (((Same.refl.setBox (.inr (by simp))).next).setBox (.inr (by simp))).setBox (.inr (by simp))
     ·rintro e1 h1 ⟨hn,h9,hb1,hs1,he1⟩;simp[hn,h9];refine hk _ _ ?_ (hs1.mono (by simp)) (by simp[labs];exact .inr (by omega))
      have:=Zfa (cap:=cap') hb1 (by simp;omega) (by simp;omega)
      rw[hlen] at this;simpa using this
    ·have hge':rs.length+1≤cap:=by omega
     have hic:i < cap:=by omega
     have hz:(0:Int)≤(rs.length:Int)+1:=by omega
     have hz2:(0:Int)≤(i:Int)+1:=by omega
     have hN:((rs.length:Int)+1).toNat=rs.length+1:=by omega
     simp[hw1,hw2,hz,hz2,hN];refine Z1u (by omega) (fun _=>?_) (fun h9=>absurd (show 0 < cap by omega) (by simpa using h9));simp[hw1,hw2,hz,hz2,hN];refine Z1u (by omega) (fun _=>?_) (fun h9=>absurd (show i+1 < cap by omega) (by simpa using h9));simp[hw1,hw2,hz,hz2,hN];refine Zr4 (Zec ha (by decide) hb (by simp;omega)) ?_;simp[hw1,hw2,hz,hz2,hN];obtain⟨s0,sp1,hsp⟩:∃ s0 sp1,sp=s0::sp1:=by
      match sp,hcap with
      | [],h9=>simp at h9;omega
      | s0::sp1,_=>exact⟨s0,sp1,rfl⟩
     subst hsp;simp only[List.length_cons] at hcap;have hll:l.1 < h.ep:=hlb l (by simp[labs]);have htl:(rs.take i).length=i:=by simp;omega
     have htl2:(rs.take (i+1)).length=i+1:=by simp;omega
     have hsrc:((rs++s0::sp1).drop i).take (rs.length+1 - i)=rs.drop i++[s0]:=by
      rw[List.drop_append_of_le_length hi,List.take_append];rw[List.take_of_length_le (by simp;omega)]
      have:rs.length+1 - i - (rs.drop i).length=1:=by simp;omega
      rw[this];rfl
     refine Wait.cut (Plan.then_ [0,1,2,3,4,5,6,7,8] .done) follows (by kernel_rfl) (fun e1 h1=>e1.n=95∧e1.get 0=.one (.mrow l 0 (rs.length+1) cap)∧e1.get 1=.one (.d (.int .i64 (i:Int)))∧e1.get 2=.one (.own lv [[v]])∧h1.box l=some (rs.take (i+1)++rs.drop i++sp1)∧Same h h1 [l]) ?_ ?_
     ·simp[hw1,hw2,hz,hz2,hN,Plan.then_,vcPlan,Z02,Z00,callKind];refine Z1u (by omega) (fun _=>?_) (fun h9=>absurd (show i+1 < cap by omega) (by simpa using h9));simp[hw1,hw2,hz,hz2,hN,Plan.then_,vcPlan,Z02,Z00,callKind];refine Z1u (by omega) (fun _=>?_) (fun h9=>absurd (show i < cap by omega) (by simpa using h9));simp[hw1,hw2,hz,hz2,hN,Plan.then_,vcPlan,Z02,Z00,callKind];refine Zb5 (n:=1) (new:=rs.drop i++[s0]) (m:=rs.length+1 - i) (mk:=rs.length - i) (cs:=rs++s0::sp1) (cs':=rs.take (i+1)++rs.drop i++sp1) Z46
       (by rw[Zbo (cs:=rs++s0::sp1) (by simp[hb]) (by simp;omega),hsrc]) rfl (by simp[hb]) (by decide) (by simp;omega) (by simp;omega) (by omega) ?_ ?_
      ·have e10:(rs.drop i++[s0]).take ((rs.length - i) * 1)=rs.drop i:=by
        rw[Nat.mul_one,List.take_append_of_le_length (by simp),List.take_of_length_le (by simp)]
       have e11:rs++s0::sp1=rs.take (i+1)++(rs.drop (i+1)++s0::sp1):=by
        rw[← List.append_assoc,List.take_append_drop]
       have e12:(rs.drop (i+1)++s0::sp1).drop (rs.drop i).length=sp1:=by
        have:(rs.drop i).length=(rs.drop (i+1)).length+1:=by simp;omega
        rw[this,← List.drop_drop,List.drop_left];rfl
       rw[e10,e11,Z6c htl2.symm,e12]
      ·refine CutK.of ?_;simp;exact Same.refl.setBox (.inl (by simp))
     ·rintro e1 h1 ⟨hn,h0,h1',h2,hb1,hs1⟩;simp[hn,h0,h1',h2];refine Z1u (by omega) (fun _=>?_) (fun h9=>absurd hic (by simpa using h9));simp[hn,h0,h1',h2];refine Zb5 (n:=1) (new:=[.d v]) (m:=1) (mk:=1) (cs:=rs.take (i+1)++rs.drop i++sp1) (cs':=rs.take i++[.d v]++rs.drop i++sp1) Z46 (by simp[Z0k,C.list?]) (by simp[cLen,C.list?]) (by simp[hb1]) (by decide) rfl (by simp;omega) (by omega) ?_ ?_
      ·have e13:rs.take (i+1)++rs.drop i++sp1=rs.take i++(rs[i]::(rs.drop i++sp1)):=by
        rw[List.take_succ_eq_append_getElem hir,List.append_assoc,List.append_assoc];rfl
       rw[e13,Z6c htl.symm];simp
      ·simp[hn,h0];refine hk _ _ ?_ ((hs1.setBox (.inl (by simp))).mono (by simp[labs])) (by simp[labs]);have hlen:(rs.take i++[C.d v]++rs.drop i).length=rs.length+1:=by simp;omega
       have:=Zfa (h:=h1.setBox l (rs.take i++[C.d v]++rs.drop i++sp1)) (l:=l) (cap:=cap) (rs:=rs.take i++[C.d v]++rs.drop i) (sp:=sp1) (by simp) (by rw[hlen];omega) (by rw[hlen];omega)
       rw[hlen] at this;simpa using this
end
section
open Go.Am
def Z31 (s_:List GV):Option (List GV):=some s_
theorem Z5d (s_:List GV) (r:List GV) (hm:Is (Z31 s_) r):PSpec Tryz.prog 49 [.one (.d (.sl (s_.map GV.enc)))] (.one (.fresh 0 3 (r.map GV.enc))):=by
 obtain rfl:=r_ret hm;refine bound1 ⟨_,Tryz.func49,by kernel_rfl,by kernel_rfl⟩ (fun hl=>?_);have hxs:∀ x ∈ s_.map GV.enc,x.length=3:=by
  intro x hx;obtain⟨y,_,rfl⟩:=List.mem_map.1 hx;rfl
 generalize s_.map GV.enc=xs at *;refine PSpec.of_vc Tryz.func49 rfl (by kernel_rfl) (n:=8) rfl rfl (by simp) ?_;simp;refine Z8z Zbj rfl (xs:=xs) rfl (fun b hb=>?_);cases b with
 | true=>
   have:xs=[]:=Classical.byContradiction fun h=>by simpa using hb h
   subst this;simp;exact Z4i (by simpa using GrowsV.nil)
 | false=>
   simp;refine Z7y (by simp) ?_;simp;refine Ze0 Zbj (Grows.own (by simp) (by simp) (by simp)) rfl (by decide) (by decide) hxs (by simpa using hl) ?_;simp;exact Z4i (by simpa using GrowsV.app (by simp) (by simp) hxs rfl)
instance i_slices_Clone_Value (s_:List GV):Con (Z31 s_) Tryz.prog 49 [.one (.d (.sl (s_.map GV.enc)))] (fun r=>.one (.fresh 0 3 (r.map GV.enc))):=⟨fun r hm=>Z5d s_ r hm⟩
def Z0r (rows:List (List GV)):Option ((List (List GV))):=
 (forK (fun (i2:Nat) (x2:List GV) (s2:(List (List GV))) next_2=>(bindK (Z31 x2) fun v3=>(appK2 s2 [v3] fun _=>(next_2 (s2++[v3]))))) (fun (s2:(List (List GV)))=>(some s2)) rows 0 [])
instance c_relation_Clone (rows:List (List GV)):Con (Z0r rows) Tryz.prog 51 [.one (.d (.sl (rows.map (encL GV.enc))))] (fun r=>.one (.d (.sl (r.map (encL GV.enc))))):=by
 unfold Z0r;have l1:LH (σ:=(List (List GV))) 8 [6,7] [.g 3 1 (fun s=>s.map (encL GV.enc))]:=.intro;exact go 19 Tryz.func51 rfl (by kernel_rfl) rfl rfl (by simp)
def Z29 (t:Tbl) (rows:List (List GV)) (key:List GV):Option (Int × Bool):=
 (forK (fun (i3:Nat) (x3:List GV) (s3:Unit) next_3=>(bindK (Z2o t x3) fun v4=>(bindK (Z2j v4 key) fun v5=>(bif decide (0≤v5) then (some ((i3:Int),(v5 == 0))) else (next_3 ()))))) (fun (s3:Unit)=>(some ((rows.length:Int),false))) rows 0 ())
instance c_relation_Find (t:Tbl) (rows:List (List GV)) (key:List GV):Con (Z29 t rows key) Tryz.prog 48 [.agg t.enc,.one (.d (.sl (rows.map (encL GV.enc)))),.one (.d (.sl (key.map GV.enc)))] (fun r=>.tup [.one (.d (.int .i64 r.1)),.one (.d (.bool r.2))]):=by
 unfold Z29;have l1:LH (σ:=Unit) 13 [1,2,3,11,12] []:=.intro;exact go 31 Tryz.func48 rfl (by kernel_rfl) rfl rfl (by simp)
end
section
open Go Go.Am
def rowc (row:List GV):C:=.d (.sl (row.map GV.enc))
theorem Z8h (h:HS) (rows out:List (List GV)) (hm:Is (Z0r rows) out) (K:V→HS→Prop)
  (hk:∀ c h',MR h' 1 c (ones (out.map rowc))→Same h h' []→(∀ k ∈ labs c,h.ep≤k.1∧k.1 < h'.ep)→K (.one c) h') :
  HSpec Tryz.prog 51 [.one (.d (.sl (rows.map (encL GV.enc))))] h K:=by
 unfold Z0r at hm;refine HSpec.of_vc Tryz.func51 rfl (by kernel_rfl) (n:=19) rfl rfl (by simp) ?_;simp;intro hil;refine Wait.for (xs:=rows) (s0:=[]) (fun i s e h'=>∃ c,e.n=19∧e.get 3=.one c∧e.get 6=.one (.d (.sl (rows.map (encL GV.enc))))∧e.get 7=.one (.d (.int .i64 (rows.length:Int)))∧e.get 8=.one (.d (.int .i64 (i:Int)))∧MR h' 1 c (ones (s.map rowc))∧Same h h' []∧∀ k ∈ labs c,h.ep≤k.1∧k.1 < h'.ep) hm ⟨.nil,by simp,by simp,by simp,by simp,by simp,by simpa[ones] using MR.nil,.refl,by simp[labs]⟩ ?_ ?_
 ·rintro i s e h' ⟨c,hn,h3,h6,h7,h8,hmr,hs,hl⟩ hlt hm;have hw:IntKind.i64.wrap ((i:Int)+1)=(i:Int)+1:=IntWalk.i64_in _ (by omega);obtain⟨row,hrow,hm⟩:=hm.bind;obtain⟨hap,hm⟩:=hm.chk;have hr:row=rows[i]:=(r_ret hrow).symm;simp[hn,h3,h6,h7,h8,hlt];refine Z0a (Z5d _ row hrow) (by simp) ?_;simp[hn,h3,h6,h7,h8,hlt];have hs2:Same h' ((h'.setArr (h'.ep,225) (some (row.length,3))).next.setArr (h'.ep+1,240) (some (1,1))).next []:=((Same.refl.setArr).next.setArr).next;refine app_mr Z46 (by kernel_rfl) (by decide) (by decide) (hmr.frame fun k hk=>hs2.2 k (hl k hk).2 (by simp)) (RowAt.own1 rfl) (by simpa[ones] using hap) (fun c' h2 hm2 hs3 hl3=>?_);simp[hn,h3,h6,h7,h8,hw];have hs4:Same h h2 []:=(hs.trans hs2).trans' hs3 fun k hk=>.inr (hl k hk).1;refine BackF.of (s++[row]) ⟨⟨c',by simp[hn],by simp[h3],by simp[h6],by simp[h7],by simp,?_,hs4,fun k hk=>?_⟩,hm⟩
  ·simpa[ones,rowc] using hm2
  ·rcases hl3 k hk with h9 | h9
   ·have:=hl k h9
    have:=hs3.1
    simp at this;omega
   ·have:=hs.1
    simp at h9;omega
 ·rintro s e h' ⟨c,hn,h3,h6,h7,h8,hmr,hs,hl⟩ hm;obtain rfl:=r_ret hm;simp[h3,h7,h8,hn];exact hk _ _ hmr hs hl
theorem Zig {h:HS} {c:C} {rows:List (List GV)} {rs:List C} (hm:MR h 1 c (ones rs)) (hl:rs.length=rows.length) (hd:∀ (i:Nat) (r:C) (row:List GV),rs[i]?=some r→rows[i]?=some row→r.toD=some (.sl (row.map GV.enc))):Frz h c (.sl (rows.map (encL GV.enc))):=by
 refine hm.frz (by simp[ones,hl]) (fun t ht=>by obtain⟨y,_,rfl⟩:=List.mem_map.1 ht;rfl) (fun i x t hx ht=>?_);simp only[ones,List.getElem?_map] at hx ht;cases hr:rs[i]? with
 | none=>rw[hr] at hx;cases hx
 | some r=>
   cases hw:rows[i]? with
   | none=>rw[hw] at ht;cases ht
   | some row=>
     rw[hr] at hx;rw[hw] at ht;cases hx;cases ht;exact⟨.data (hd i r row hr hw),trivial⟩
theorem Z86 {h:HS} {c:C} {rows:List (List GV)} (hm:MR h 1 c (ones (rows.map rowc))):Frz h c (.sl (rows.map (encL GV.enc))):=
 Zig hm (by simp) fun i r row hr hw=>by
  rw[List.getElem?_map,hw] at hr;cases hr;rfl
theorem Zif {h:HS} {l:Lab} {cap i:Nat} {rs sp:List C} {x:C} (hb:(rs++sp).length=cap * 1) (hlim:rs.length≤2097152) (hi:i < rs.length):MR (h.setBox l (Z03 (rs++sp) i [x])) 1 (.mrow l 0 rs.length cap) (ones (rs.set i x)):=by
 have e1:rs++sp=rs.take i++(rs[i]::(rs.drop (i+1)++sp)):=by
  rw[← List.cons_append,← List.drop_eq_getElem_cons hi,← List.append_assoc,List.take_append_drop]
 have e2:Z03 (rs++sp) i [x]=rs.set i x++sp:=by
  rw[e1,Z6c (by simp;omega),List.set_eq_take_append_cons_drop,if_pos hi];simp
 rw[e2]
 have:=Zfa (h:=h.setBox l (rs.set i x++sp)) (l:=l) (cap:=cap) (rs:=rs.set i x) (sp:=sp) (by simp) (by simp at hb ⊢;omega) (by simpa using hlim)
 simpa using this
def Z3b (t:Tbl) (rows:List (List GV)) (row:List GV):Option (List (List GV)):=
 bindK (Z0r rows) fun out=>bindK (Z2o t row) fun k=>bindK (Z29 t out k) fun q=>bif q.2 then chkK (0≤q.1∧q.1 < out.length) (some (out.set q.1.toNat row)) else chkK (0≤q.1∧q.1≤out.length∧out.length+1≤2097152) (some (out.take q.1.toNat++[row]++out.drop q.1.toNat))
theorem Zc4 (t:Tbl) (rows:List (List GV)) (row:List GV) (r:List (List GV)) (hm:Is (Z3b t rows row) r) :
  PSpec Tryz.prog 83 [.agg t.enc,.one (.d (.sl (rows.map (encL GV.enc)))),.one (.d (.sl (row.map GV.enc)))] (.one (.d (.sl (r.map (encL GV.enc))))):=by
 unfold Z3b at hm;refine PSpec.of_heap ?_;show HSpec _ _ [.agg (t.enc.map C.d),.one (.d (.sl (rows.map (encL GV.enc)))),.one (.d (.sl (row.map GV.enc)))] HS.init _;refine HSpec.of_vc Tryz.func83 rfl (by kernel_rfl) (n:=34) rfl rfl (by simp) ?_;obtain⟨out,hout,hm⟩:=hm.bind;obtain⟨k,hkv,hm⟩:=hm.bind;obtain⟨q,hqv,hm⟩:=hm.bind;obtain⟨qi,qb⟩:=q;simp only at hm;simp;refine Z01 (Z8h _ rows out hout _ (fun c h1 hm1 hs1 hl1=>?_));have b0:=hs1.2 (0,48) (by simp) (by simp);have hep:=hs1.1;simp at b0 hep;simp;refine Z0a (Z5d row row rfl) (by simp) ?_;simp;refine Wait.cut (Plan.then_ [0,1,2,3,4,5,6,7,8,9,10] .done) follows (by kernel_rfl) (fun e h2=>e.n=34∧e.get 7=.one c∧e.get 8=.one (.d (.int .i64 qi))∧e.get 9=.one (.d (.bool qb))∧e.get 2=.one (.own (h1.ep,209) (row.map GV.enc))∧Same h1 h2 []) ?_ ?_
 ·simp[b0,Plan.then_,vcPlan,Z02,Z00,callKind];refine Z0a (c_relation_Key t row k hkv) (by simp) ?_;simp[b0,Plan.then_,vcPlan,Z02,Z00,callKind];refine⟨fun _ _ x=>x,Z01 (HSpec.of_lend (c_relation_Find t out k (qi,qb) hqv) ⟨.agg (FrzCs.datas (ds:=t.enc)),.one (.frz (Z86 (hm1.frame fun l hl=>?_))),.one (.frz (.data rfl)),trivial⟩ rfl ?_)⟩
  ·rfl
  simp[b0,Plan.then_,vcPlan,Z02,Z00,callKind];refine⟨fun _ _ x=>x,CutK.of ?_⟩;simp;exact ((Same.refl.setArr).next).setArr.next.next
 ·rintro e h2 ⟨hn,h7,h8,h9,h2',hs2⟩;simp[hn,h7,h8,h9,h2'];have hm2:=hm1.frame fun l hl=>hs2.2 l (hl1 l hl).2 (by simp);cases qb with
  | true=>
    simp only[cond_true] at hm;obtain⟨⟨hq0,hql⟩,hm⟩:=hm.chk;obtain rfl:=r_ret hm;obtain⟨qn,rfl⟩:∃ n:Nat,qi=n:=⟨qi.toNat,by omega⟩;have hqi:qn < out.length:=by omega
    obtain⟨l,cap,sp,rfl,hb,hcap⟩:=hm2.block (by simp[ones];omega);rw[Zb2] at hb hcap;simp[hn,h7,h8,h2',hb,hqi,ones];have hm4:=Zif (h:=h2) (l:=l) (i:=qn) (x:=C.own (h1.ep,209) (row.map GV.enc)) hcap (by have:=hm1.2.1;simpa[ones] using this) (by simpa using hqi)
    have:=Zig (rows:=out.set qn row) (by simpa using hm4) (by simp) (fun i r w hr hw=>?_)
    ·refine⟨by simp at hcap;omega,?_⟩;show Frz _ _ _;simpa[encL] using this
    ·rw[List.getElem?_set] at hr hw
     by_cases hqe:qn=i
     ·subst hqe;simp[hqi] at hr hw;subst hr hw;rfl
     ·rw[if_neg hqe,List.getElem?_map] at hr;rw[if_neg hqe] at hw;rw[hw] at hr;cases hr;rfl
  | false=>
    simp only[cond_false] at hm;obtain⟨⟨hq0,hql,hlim⟩,hm⟩:=hm.chk;obtain rfl:=r_ret hm;obtain⟨qn,rfl⟩:∃ n:Nat,qi=n:=⟨qi.toNat,by omega⟩;simp[hn,h7,h8,h2'];refine Z01 (Zad _ c (out.map rowc) _ [.sl (row.map GV.enc)] qn ?_ (fun l hl=>?_) (by simp;omega) ?_ rfl (by simpa using hlim) _ (fun c' h3 hm3 hs3 hl3=>?_))
    ·exact hm2.frame fun l hl=>by simp
    ·have:=hl1 l hl
     have:=hs2.1
     simp;omega
    ·simp
    ·simp[hn];have hrc:ones ((out.map rowc).take qn++[C.d (.sl (row.map GV.enc))]++(out.map rowc).drop qn)=ones ((out.take qn++[row]++out.drop qn).map rowc):=by simp[rowc]
     have hm4:MR h3 1 c' (ones ((out.take qn++[row]++out.drop qn).map rowc)):=hrc ▸ hm3
     have:=Z86 hm4
     show Frz _ _ _;simpa[encL] using this
def Z3c (t:Tbl) (rows:List (List GV)) (key:List GV):Option (List (List GV) × Bool):=
 bindK (Z0r rows) fun out=>bindK (Z29 t out key) fun q=>bif q.2 then chkK (0≤q.1∧q.1 < out.length) (some (out.take q.1.toNat++out.drop (q.1.toNat+1),true)) else some (out,false)
theorem Zc5 (t:Tbl) (rows:List (List GV)) (key:List GV) (r:List (List GV) × Bool) (hm:Is (Z3c t rows key) r) :
  PSpec Tryz.prog 84 [.agg t.enc,.one (.d (.sl (rows.map (encL GV.enc)))),.one (.d (.sl (key.map GV.enc)))] (.tup [.one (.d (.sl (r.1.map (encL GV.enc)))),.one (.d (.bool r.2))]):=by
 unfold Z3c at hm;refine PSpec.of_heap ?_;show HSpec _ _ [.agg (t.enc.map C.d),.one (.d (.sl (rows.map (encL GV.enc)))),.one (.d (.sl (key.map GV.enc)))] HS.init _;refine HSpec.of_vc Tryz.func84 rfl (by kernel_rfl) (n:=28) rfl rfl (by simp) ?_;obtain⟨out,hout,hm⟩:=hm.bind;obtain⟨q,hqv,hm⟩:=hm.bind;obtain⟨qi,qb⟩:=q;simp only at hm;simp;refine Z01 (Z8h _ rows out hout _ (fun c h1 hm1 hs1 hl1=>?_));have b0:=hs1.2 (0,48) (by simp) (by simp);have hep:=hs1.1;simp at b0 hep;simp[b0];refine Z01 (HSpec.of_lend (c_relation_Find t out key (qi,qb) hqv) ⟨.agg (FrzCs.datas (ds:=t.enc)),.one (.frz (Z86 hm1)),.one (.frz (.data rfl)),trivial⟩ rfl ?_);have hm2:MR h1.next 1 c (ones (out.map rowc)):=hm1.frame fun l hl=>by simp
 simp;cases qb with
 | true=>
   simp only[cond_true] at hm;obtain⟨⟨hq0,hql⟩,hm⟩:=hm.chk;obtain rfl:=r_ret hm;obtain⟨qn,rfl⟩:∃ n:Nat,qi=n:=⟨qi.toNat,by omega⟩;have hlim:=hm1.2.1;rw[Zcu] at hlim;have hw:IntKind.i64.wrap ((qn:Int)+1)=((qn+1:Nat):Int):=IntWalk.i64_in _ (by simp at hlim;omega);simp[hw];refine Z01 (Zae _ c (ones (out.map rowc)) qn (qn+1) hm2 (by omega) (by simp[ones];omega) _ (fun c' h3 hm3 hs3 _ _ _=>?_));have hrc:(ones (out.map rowc)).take qn++(ones (out.map rowc)).drop (qn+1)=ones ((out.take qn++out.drop (qn+1)).map rowc):=by simp[ones]
   have hm4:MR h3 1 c' (ones ((out.take qn++out.drop (qn+1)).map rowc)):=hrc ▸ hm3
   have:=Z86 hm4
   simp[retH,resVs,resV,notTup];refine⟨?_,Frz.data rfl,trivial⟩;show Frz _ _ _;simpa[encL] using this
 | false=>
   simp only[cond_false] at hm;obtain rfl:=r_ret hm;simp[retH,resVs,resV,notTup];exact⟨Z86 hm2,Frz.data rfl,trivial⟩
end
section
open Go.Am
def Z0j (inst:List Rel):Option ((List Rel)):=
 (forK (fun (i2:Nat) (x2:Rel) (s2:(List Rel)) next_2=>(bindK (Z0r x2.rows) fun v4=>(appK2 s2 [(Rel.mk x2.table v4)] fun _=>(next_2 (s2++[(Rel.mk x2.table v4)]))))) (fun (s2:(List Rel))=>(some s2)) inst 0 [])
instance c_instance_Clone (inst:List Rel):Con (Z0j inst) Tryz.prog 24 [.one (.d (.sl (inst.map Rel.enc)))] (fun r=>.one (.d (.sl (r.map Rel.enc)))):=by
 unfold Z0j;have l1:LH (σ:=(List Rel)) 8 [6,7] [.g 3 2 (fun s=>s.map Rel.enc)]:=.intro;have p1:PH [5] (Plan.then_ [0,1,2,3,4,5,6,7,8,9] .done):=.intro;exact go 23 Tryz.func24 rfl (by kernel_rfl) rfl rfl (by simp)
end
section
open Go Go.Am
def FZ (h:HS) (c:C) (x:D) (ls:List Lab):Prop:=∀ h',(∀ l ∈ ls,h'.box l=h.box l)→Frz h' c x
theorem FZ.frame {h h':HS} {c:C} {x:D} {ls:List Lab} (f:FZ h c x ls) (hb:∀ l ∈ ls,h'.box l=h.box l):FZ h' c x ls:=fun h2 h2b=>f h2 fun l hl=>(h2b l hl).trans (hb l hl)
def FZs (h:HS) (cs:List C) (ds:List D) (ls:List Lab):Prop:=∀ h',(∀ l ∈ ls,h'.box l=h.box l)→FrzCs h' cs ds
theorem FZs.frame {h h':HS} {cs:List C} {ds:List D} {ls:List Lab} (f:FZs h cs ds ls) (hb:∀ l ∈ ls,h'.box l=h.box l):FZs h' cs ds ls:=fun h2 h2b=>f h2 fun l hl=>(h2b l hl).trans (hb l hl)
abbrev NQ:=List C × List D × List Lab
structure NR (h:HS) (n:Nat) (c:C) (qs:List NQ):Prop where
 mr:MR h n c (qs.map (·.1))
 el:∀ q ∈ qs,FZs h q.1 q.2.1 q.2.2∧q.2.1.length=n
 lt:∀ q ∈ qs,∀ k ∈ q.2.2,k.1 < h.ep∧k ∉ labs c
 lc:∀ k ∈ labs c,k.1 < h.ep
theorem NR.nil {h:HS} {n:Nat}:NR h n .nil []:=⟨MR.nil,by simp,by simp,by simp[labs]⟩
theorem NR.frame {h h':HS} {n:Nat} {c:C} {qs:List NQ} {lx:List Lab} (r:NR h n c qs) (hs:Same h h' lx) (hc:∀ k ∈ labs c,k ∉ lx) (hq:∀ q ∈ qs,∀ k ∈ q.2.2,k ∉ lx):NR h' n c qs:=
 ⟨r.mr.frame fun l hl=>hs.2 l (r.lc l hl) (hc l hl),fun q hqm=>⟨(r.el q hqm).1.frame fun l hl=>hs.2 l (r.lt q hqm l hl).1 (hq q hqm l hl),(r.el q hqm).2⟩,fun q hqm k hk=>⟨Nat.lt_of_lt_of_le (r.lt q hqm k hk).1 hs.1,(r.lt q hqm k hk).2⟩,fun k hk=>Nat.lt_of_lt_of_le (r.lc k hk) hs.1⟩
theorem NR.at {h:HS} {n:Nat} {c:C} {qs:List NQ} (r:NR h n c qs) {k:Nat} {q:NQ} (hq:qs[k]?=some q):∃ l cap sp,c=.mrow l 0 qs.length cap∧h.box l=some (rowBox (qs.map (·.1)) sp)∧(rowBox (qs.map (·.1)) sp).length=cap * n:=by
 have hk:=(List.getElem?_eq_some_iff.1 hq).1;obtain⟨l,cap,sp,h1,h2,h3⟩:=r.mr.block (by simp;omega);exact⟨l,cap,sp,by simpa using h1,h2,h3⟩
theorem NR.put {h:HS} {n:Nat} {l:Lab} {cap:Nat} {qs:List NQ} {sp:List C} (r:NR h n (.mrow l 0 qs.length cap) qs) (hb:h.box l=some (rowBox (qs.map (·.1)) sp)) (hcap:(rowBox (qs.map (·.1)) sp).length=cap * n) {k:Nat} (hk:k < qs.length) {q:NQ} (hn:q.1.length=n) (hd:q.2.1.length=n)
  (hf:FZs (h.setBox l (rowBox ((qs.set k q).map (·.1)) sp)) q.1 q.2.1 q.2.2) (hl:∀ j ∈ q.2.2,j.1 < h.ep∧j≠l):NR (h.setBox l (rowBox ((qs.set k q).map (·.1)) sp)) n (.mrow l 0 (qs.set k q).length cap) (qs.set k q):=by
 have ha:AllC n ((qs.set k q).map (·.1)):=by rw[List.map_set];exact r.mr.1.set hn
 refine⟨⟨ha,by simpa using r.mr.2.1,.inr ⟨l,cap,sp,by simp,by simp,?_⟩⟩,fun p hp=>?_,fun p hp j hj=>?_,fun j hj=>by simpa using r.lc j (by simpa[labs] using hj)⟩
 ·rw[Z04 ha,List.length_map,List.length_set,← hcap,Z04 r.mr.1,List.length_map]
 ·rcases List.mem_or_eq_of_mem_set hp with h1 | rfl
  ·refine⟨(r.el p h1).1.frame fun j hj=>?_,(r.el p h1).2⟩
   have:=(r.lt p h1 j hj).2
   simp only[labs,List.mem_singleton] at this;simp[this]
  ·exact⟨hf,hd⟩
 ·rcases List.mem_or_eq_of_mem_set hp with h1 | rfl
  ·simpa[labs] using r.lt p h1 j hj
  ·simpa[labs] using hl j hj
def relC (x:Rel):List C:=[.d (.str x.table),.d (.sl (x.rows.map (encL GV.enc)))]
theorem Zbu (h:HS) (inst out:List Rel) (hm:Is (Z0j inst) out) (K:V→HS→Prop)
  (hk:∀ c h',MR h' 2 c (out.map relC)→Same h h' []→(∀ k ∈ labs c,h.ep≤k.1∧k.1 < h'.ep)→K (.one c) h') :
  HSpec Tryz.prog 24 [.one (.d (.sl (inst.map Rel.enc)))] h K:=by
 unfold Z0j at hm;refine HSpec.of_vc Tryz.func24 rfl (by kernel_rfl) (n:=23) rfl rfl (by simp) ?_;simp;intro hil;refine Wait.for (xs:=inst) (s0:=[]) (fun i s e h'=>∃ c,e.n=23∧e.get 3=.one c∧e.get 6=.one (.d (.sl (inst.map Rel.enc)))∧e.get 7=.one (.d (.int .i64 (inst.length:Int)))∧e.get 8=.one (.d (.int .i64 (i:Int)))∧MR h' 2 c (s.map relC)∧Same h h' []∧∀ k ∈ labs c,h.ep≤k.1∧k.1 < h'.ep) hm ⟨.nil,by simp,by simp,by simp,by simp,by simp,by simpa using MR.nil,.refl,by simp[labs]⟩ ?_ ?_
 ·rintro i s e h' ⟨c,hn,h3,h6,h7,h8,hmr,hs,hl⟩ hlt hm;have hw:IntKind.i64.wrap ((i:Int)+1)=(i:Int)+1:=IntWalk.i64_in _ (by omega);obtain⟨rows,hrows,hm⟩:=hm.bind;obtain⟨hap,hm⟩:=hm.chk;simp[*];refine Wait.cut (Plan.then_ [0,1,2,3,4,5,6,7,8,9] .done) follows (by kernel_rfl) (fun e1 h1=>∃ c2,e1.n=23∧e1.get 3=.one c2∧e1.get 6=.one (.d (.sl (inst.map Rel.enc)))∧e1.get 7=.one (.d (.int .i64 (inst.length:Int)))∧e1.get 8=.one (.d (.int .i64 (i:Int))) ∧
   MR h1 2 c2 ((s++[Rel.mk inst[i].table rows]).map relC)∧Same h h1 []∧∀ k ∈ labs c2,h.ep≤k.1∧k.1 < h1.ep) ?_ ?_
  ·simp[hn,h3,h6,h7,h8,Plan.then_,vcPlan,Z02,Z00,callKind];have hs1:Same h' ((h'.setBox (h'.ep,80) [C.d (D.str ByteArray.empty),C.nil]).next.setBox (h'.ep,80) [C.d (D.str inst[i].table),C.d (D.sl (List.map (encL GV.enc) inst[i].rows))]) []:=((Same.refl.setBox (.inr (by simp))).next).setBox (.inr (by simp));refine Z0a (c_relation_Clone _ rows hrows) (by simp) ?_;simp[hn,h3,h6,h7,h8,Plan.then_,vcPlan,Z02,Z00,callKind];have hs2:=((hs1.next.setArr (l:=(h'.ep+1+1,304)) (x:=some (1,2))).next);refine⟨fun _ _ x=>x,app_mr Z81 (by kernel_rfl) (by decide) (by decide) (hmr.frame fun l hl9=>hs2.2 l (hl l hl9).2 (by simp)) (RowAt.own1 rfl) (by simpa using hap) (fun c' h2 hm2 hs3 hl3=>?_)⟩;simp[hn,h3,h6,h7,h8,Plan.then_,vcPlan,Z02,Z00,callKind];refine CutK.of ?_;have hs4:Same h h2 []:=(hs.trans hs2).trans' hs3 fun k hk=>.inr (hl k hk).1;refine⟨c',by simp[hn],by simp[hn],by simp[h6,hn],by simp[h7,hn],by simp[h8,hn],by simpa[relC] using hm2,hs4,fun k hk=>?_⟩;rcases hl3 k hk with h9 | h9
   ·have:=hl k h9
    have:=hs3.1
    simp at this;omega
   ·have:=hs.1
    simp at h9;omega
  ·rintro e1 h1 ⟨c2,hn,h3,h6,h7,h8,hmr,hs,hl⟩;simp[hn,h3,h6,h7,h8,hw];exact BackF.of (s++[Rel.mk inst[i].table rows]) ⟨⟨c2,by simp[hn],by simp[h3],by simp[h6],by simp[h7],by simp,hmr,hs,hl⟩,hm⟩
 ·rintro s e h' ⟨c,hn,h3,h6,h7,h8,hmr,hs,hl⟩ hm;obtain rfl:=r_ret hm;simp[h3,h7,h8,hn];exact hk c h' hmr hs hl
end
section
open Go.Am
def Z0q (t:Tbl) (key:List GV):Option Int:=
 (bif ((key.length:Int) != (t.pk.length:Int)) then (some 3) else (forK (fun (i6:Nat) (x6:GV) (s6:Unit) next_6=>(bindK (Z0h x6) fun v8=>(bif (v8 != 0) then (some v8) else (getK t.pk (i6:Int) fun x10=>(getK t.cols x10 fun x11=>(bif (x6.kind != x11.kind) then (some 7) else (next_6 ()))))))) (fun (s6:Unit)=>(some 0)) key 0 ()))
instance c_change_validateKey (t:Tbl) (key:List GV):Con (Z0q t key) Tryz.prog 123 [.agg t.enc,.one (.d (.sl (key.map GV.enc)))] (fun r=>.one (.d (.int .i64 r))):=by
 unfold Z0q;have l1:LH (σ:=Unit) 16 [2,14,15] []:=.intro;have p1:PH [9] (Plan.then_ [0,1,2,3,4,5,6,7,8,9,10,11,12] .done):=.intro;exact go 40 Tryz.func123 rfl (by kernel_rfl) rfl rfl (by simp)
def Z2k (s_:Sch) (c:Chg):Option Int:=
 (bif (c.kind == 1) then (bif decide (0 < c.key.length) then (some 3) else (bif (c.kind == 2) then (bif decide (0 < c.row.length) then (some 3) else (bif (c.kind != 1) then (bif (c.kind != 2) then (some 3) else (bindK (Z05 s_ c.table) fun v11=>(bif !v11.2 then (some 4) else (getK s_.tables v11.1 fun x13=>(bindK (Z0c x13 c.row) fun v14=>(some v14)))))) else (bindK (Z05 s_ c.table) fun v15=>(bif !v15.2 then (some 4) else (getK s_.tables v15.1 fun x17=>(bindK (Z0c x17 c.row) fun v18=>(some v18))))))) else (bif (c.kind != 1) then (bif (c.kind != 2) then (some 3) else (bindK (Z05 s_ c.table) fun v21=>(bif !v21.2 then (some 4) else (getK s_.tables v21.1 fun x23=>(bindK (Z0c x23 c.row) fun v24=>(some v24)))))) else (bindK (Z05 s_ c.table) fun v25=>(bif !v25.2 then (some 4) else (getK s_.tables v25.1 fun x27=>(bindK (Z0c x27 c.row) fun v28=>(some v28)))))))) else (bif (c.kind == 2) then (bif decide (0 < c.row.length) then (some 3) else (bif (c.kind != 1) then (bif (c.kind != 2) then (some 3) else (bindK (Z05 s_ c.table) fun v34=>(bif !v34.2 then (some 4) else (getK s_.tables v34.1 fun x36=>(bindK (Z0q x36 c.key) fun v37=>(some v37)))))) else (bindK (Z05 s_ c.table) fun v38=>(bif !v38.2 then (some 4) else (getK s_.tables v38.1 fun x40=>(bindK (Z0q x40 c.key) fun v41=>(some v41))))))) else (bif (c.kind != 1) then (bif (c.kind != 2) then (some 3) else (bindK (Z05 s_ c.table) fun v44=>(bif !v44.2 then (some 4) else (getK s_.tables v44.1 fun x46=>(bindK (Z0q x46 c.key) fun v47=>(some v47)))))) else (bindK (Z05 s_ c.table) fun v48=>(bif !v48.2 then (some 4) else (getK s_.tables v48.1 fun x50=>(bindK (Z0q x50 c.key) fun v51=>(some v51))))))))
instance c_change_Validate (s_:Sch) (c:Chg):Con (Z2k s_ c) Tryz.prog 82 [.agg s_.enc,.agg c.enc] (fun r=>.one (.d (.int .i64 r))):=by
 unfold Z2k;have p1:PH [7,8] (Plan.then_ [0,1,2,3,4,5,6,7,8] .done):=.intro;exact go 65 Tryz.func82 rfl (by kernel_rfl) rfl rfl (by simp)
end
section
open Go Go.Am
theorem Zob {h:HS} {c:C} {out:List Rel} (hm:MR h 2 c (out.map relC)):Frz h c (.sl (out.map Rel.enc)):=
 hm.frz (by simp) (fun t ht=>by obtain⟨y,_,rfl⟩:=List.mem_map.1 ht;rfl) fun i x t hx ht=>by
  rw[List.getElem?_map] at hx ht;cases hq:out[i]? with
  | none=>rw[hq] at hx;cases hx
  | some q=>
    rw[hq] at hx ht;cases hx;cases ht;exact⟨.data rfl,.data rfl,trivial⟩
def m_chg {ρ:Type} (s:Sch) (x:Chg) (out:List Rel) (next:List Rel→Option ρ) (bad:Int→Option ρ):Option ρ:=
 bindK (Z2k s x) fun e=>bif e != 0 then bad e else bindK (Z05 s x.table) fun q=>getK s.tables q.1 fun T=>getK out q.1 fun o=>
  bif x.kind == 1 then bindK (Z3b T o.rows x.row) fun rows=>bif decide ((24:Int) < rows.length) then bad 2 else next (out.set q.1.toNat ⟨o.table,rows⟩)
  else bindK (Z3c T o.rows x.key) fun d=>bif !d.2 then bad 9 else next (out.set q.1.toNat ⟨o.table,d.1⟩)
def Z1j (s:Sch) (inst:List Rel) (cs:List Chg):Option (List Rel × Int):=
 bindK (Z0i s) fun e=>bif e != 0 then some ([],e) else bindK (Z0b s inst) fun e2=>bif e2 != 0 then some ([],e2) else bif decide ((24:Int) < cs.length) then some ([],2) else
 bindK (Z0j inst) fun out0=>forK (fun (i:Nat) (x:Chg) (out:List Rel) next=>m_chg s x out next fun e=>some ([],e)) (fun out=>some (out,0)) cs 0 out0
theorem Zei (s:Sch) (inst:List Rel) (cs:List Chg) (r:List Rel × Int) (hm:Is (Z1j s inst cs) r) :
  PSpec Tryz.prog 65 [.agg s.enc,.one (.d (.sl (inst.map Rel.enc))),.one (.d (.sl (cs.map Chg.enc)))] (.tup [.one (.d (.sl (r.1.map Rel.enc))),.one (.d (.int .i64 r.2))]):=by
 unfold Z1j at hm;refine PSpec.of_heap ?_;show HSpec _ _ [.agg (s.enc.map C.d),.one (.d (.sl (inst.map Rel.enc))),.one (.d (.sl (cs.map Chg.enc)))] HS.init _;refine HSpec.of_vc Tryz.func65 rfl (by kernel_rfl) (n:=101) rfl rfl (by simp) ?_;obtain⟨ev,hev,hm⟩:=hm.bind;simp;refine Z0a (c_schema_Validate s ev hev) (by simp) ?_;simp;refine r_cond hm ?_ ?_<;>clear hm<;>intro hc1 hm
 ·obtain rfl:=r_ret hm;simp[hc1,retH,resVs,resV,notTup];exact⟨Frz.data rfl,Frz.data rfl,trivial⟩
 obtain⟨ev2,hev2,hm⟩:=hm.bind;simp[hc1];refine Z0a (c_instance_Conforms s inst ev2 hev2) (by simp) ?_;simp;refine r_cond hm ?_ ?_<;>clear hm<;>intro hc2 hm
 ·obtain rfl:=r_ret hm;simp[hc2,retH,resVs,resV,notTup];exact⟨Frz.data rfl,Frz.data rfl,trivial⟩
 simp[hc2];intro hcl;refine r_cond hm ?_ ?_<;>clear hm<;>intro hc3 hm
 ·obtain rfl:=r_ret hm;simp at hc3;simp[hc3,retH,resVs,resV,notTup];exact⟨Frz.data rfl,Frz.data rfl,trivial⟩
 simp at hc3;obtain⟨out0,hout0,hm⟩:=hm.bind;have hc3':¬ (24 < cs.length):=by omega
 simp[hc3'];refine Z01 (Zbu _ inst out0 hout0 _ (fun c h1 hr hs hl=>?_));have b0:=hs.2 (0,48) (by simp) (by simp);have hep:=hs.1;simp at b0 hep;have hl2:∀ k ∈ labs c,1≤k.1∧k.1 < h1.ep:=fun k hk=>by have:=hl k hk;simp at this;omega
 simp;intro _;refine Wait.for (xs:=cs) (s0:=out0) (fun i out e h=>∃ c,MR h 2 c (out.map relC)∧(∀ k ∈ labs c,1≤k.1∧k.1 < h.ep)∧1≤h.ep∧h.box (0,48)=some (s.enc.map C.d)∧e.n=101 ∧
  e.get 3=.one (.ptr (0,48) 0)∧e.get 10=.one c∧e.get 34=.one (.d (.sl (cs.map Chg.enc)))∧e.get 35=.one (.d (.int .i64 (cs.length:Int)))∧e.get 36=.one (.d (.int .i64 (i:Int)))) hm ?_ ?_ ?_
 ·exact⟨c,hr,hl2,by omega,by simpa[Sch.enc] using b0,by simp,by simp,by simp,by simp,by simp,by simp⟩
 ·clear hm hc1 hc2 hr hl2 hl hs b0 hep hout0 c h1 hev hev2 hc3;rintro i out e h ⟨c,hr,hl,hep,b0,hn,h3,h10,h34,h35,h36⟩ hlt hm;have hw:IntKind.i64.wrap ((i:Int)+1)=(i:Int)+1:=IntWalk.i64_in _ (by omega);generalize hNx:(fun s'=>forK (fun (i:Nat) (x:Chg) (out:List Rel) next=>m_chg s x out next fun e=>some ([],e)) (fun out=>some (out,0)) (List.drop (i+1) cs) (i+1) s')=nextN at hm;have hback:∀ o',Is (nextN o') r→Is (forK (fun (i:Nat) (x:Chg) (out:List Rel) next=>m_chg s x out next fun e=>some ([],e)) (fun out=>some (out,0)) (List.drop (i+1) cs) (i+1) o') r:=fun o' h'=>by rw[← hNx] at h';exact h'
  clear hNx;generalize hx:cs[i]=x at hm;have hxi:cs[i]?=some x:=by rw[← hx];exact List.getElem?_eq_getElem hlt
  unfold m_chg at hm;obtain⟨ev3,hev3,hm⟩:=hm.bind;simp only[Sch.enc,List.map_cons,List.map_nil] at b0;simp[hn,h3,h10,h34,h35,h36,b0,hlt,hx];refine Z0a (c_change_Validate s x ev3 hev3) (by simp) ?_;simp[hn,h3,h10,h34,h35,h36,b0];refine r_cond hm ?_ ?_<;>clear hm<;>intro hc4 hm
  ·obtain rfl:=r_ret hm;simp[hn,h3,h10,h34,h35,h36,b0,hc4,retH,resVs,resV,notTup];exact⟨Frz.data rfl,Frz.data rfl,trivial⟩
  obtain⟨q,hqv,hm⟩:=hm.bind;obtain⟨qi,qb⟩:=q;obtain⟨T,hq0,hT,hm⟩:=hm.get;obtain⟨o,_,ho,hm⟩:=hm.get;simp only at hq0 hT ho hm;obtain⟨qn,rfl⟩:∃ n:Nat,qi=n:=⟨qi.toNat,by omega⟩;simp only[Int.toNat_natCast] at hT ho hm;simp[hn,h3,h10,h34,h35,h36,b0,hc4];refine Z0a (c_schema_FindTable s x.table _ hqv) (by simp) ?_;simp[hn,h3,h10,h34,h35,h36,b0,hT];have hiq:qn < out.length:=(List.getElem?_eq_some_iff.1 ho).1;have hx2:(out.map relC)[qn]?=some (relC o):=by rw[List.getElem?_map,ho];rfl
  obtain⟨l,cap,sp,rfl,hb,hcap⟩:=hr.block (by simp<;>omega);rw[List.length_map] at hl hr h10;have hrl:=Z6m (sp:=sp) hr.1 (k:=qn) (by simp<;>omega);have hset:∀ rows:List (List GV),Z03 (rowBox (out.map relC) sp) (qn * 2+1) [.d (.sl (rows.map (encL GV.enc)))]=rowBox ((out.set qn ⟨o.table,rows⟩).map relC) sp:=fun rows=>by
   rw[Z71 hr.1 hx2 (by simp[relC]),List.map_set];simp[Z03,relC]
  have htk:takeN 1 ((rowBox (out.map relC) sp).drop (qn * 2+1))=some [.d (.sl (o.rows.map (encL GV.enc)))]:=by
   have h9:=Z5i (sp:=sp) (f:=1) (m:=1) hr.1 hx2 (by simp[relC]);simpa[takeN,relC] using h9
  have hll:=(hl l (by simp[labs])).2;have hl2:=(hl l (by simp[labs])).1;have hne3:((0,48):Lab)≠l:=by rintro rfl;simp at hl2
  have hall:∀ out:List Rel,AllC 2 (out.map relC):=fun out y hy=>by
   obtain⟨z,_,rfl⟩:=List.mem_map.1 hy;rfl
  have put:∀ (H:HS) (rows:List (List GV)),MR (H.setBox l (rowBox ((out.set qn ⟨o.table,rows⟩).map relC) sp)) 2 (.mrow l 0 out.length cap) ((out.set qn ⟨o.table,rows⟩).map relC):=fun H rows=>
   ⟨hall _,by simpa using hr.2.1,.inr ⟨l,cap,sp,by simp,by simp,by rw[Z04 (hall _),← hcap,Z04 (hall _)];simp⟩⟩
  have hne1:l≠(h.ep,192):=by rintro rfl;simp at hll
  have hne2:l≠(h.ep+1+1+1,256):=by rintro rfl;simp at hll;omega
  have hsH:Same h ((((h.setBox (h.ep,192) [.d (.int .i64 0),.d (.str ByteArray.empty),.nil,.nil]).next.setBox (h.ep,192) [.d (.int .i64 x.kind),.d (.str x.table),.d (.sl (x.key.map GV.enc)),.d (.sl (x.row.map GV.enc))]).next.next.setBox (h.ep+1+1+1,256) [.d (.str ByteArray.empty),.nil,.nil]).next.setBox (h.ep+1+1+1,256) [.d (.str T.name),.d (.sl (T.cols.map Col.enc)),.d (.sl (T.pk.map encI))]) []:=
   ((((Same.refl.setBox (.inr (by simp))).next.setBox (.inr (by simp))).next.next).setBox (.inr (by simp<;>omega))).next.setBox (.inr (by simp<;>omega))
  refine r_cond hm ?_ ?_<;>clear hm<;>intro hc5 hm
  ·obtain⟨rows,hrows,hm⟩:=hm.bind;simp[hn,h3,h10,h34,h35,h36,b0,hc5];refine Wait.cut (Plan.then_ [0,1,2,3,4,5,6,7,8,9,10,11,12,13] .done) follows (by kernel_rfl) (fun e1 h1=>∃ H,Same h H []∧h1=H.setBox l (rowBox ((out.set qn ⟨o.table,rows⟩).map relC) sp)∧1≤h1.ep∧e1.n=101∧e1.get 3=.one (.ptr (0,48) 0)∧e1.get 10=.one (.mrow l 0 out.length cap)∧e1.get 14=.one (.d (.int .i64 (qn:Int)))∧e1.get 34=.one (.d (.sl (cs.map Chg.enc)))∧e1.get 35=.one (.d (.int .i64 (cs.length:Int)))∧e1.get 36=.one (.d (.int .i64 (i:Int)))) ?_ ?_
   ·simp[hn,h3,h10,h34,h35,h36,b0,hc5,hiq,hb,hne1,hne2,htk,Plan.then_,vcPlan,Z02,Z00,callKind];refine Z0a (Zc4 T o.rows x.row rows hrows) (by simp) ?_;simp[hn,h3,h10,h34,h35,h36,b0,hc5,hiq,hb,hne1,hne2,htk,Plan.then_,vcPlan,Z02,Z00,callKind];refine⟨fun _ _ x=>x,by omega,CutK.of ?_⟩;rw[hset];exact⟨_,hsH.next,rfl,by simp<;>omega,by simp[hn],by simp[h3],by simp[h10],by simp[hn],by simp[h34],by simp[h35],by simp[h36]⟩
   ·have hmm:=h10;clear hn h3 h10 h34 h35 h36;rintro e1 h1 ⟨H,hsx,rfl,hep1,hn,h3,h10,h14,h34,h35,h36⟩;have htk2:takeN 1 ((rowBox ((out.set qn ⟨o.table,rows⟩).map relC) sp).drop (qn * 2+1))=some [.d (.sl (rows.map (encL GV.enc)))]:=by
     have h9:=Z5i (sp:=sp) (f:=1) (m:=1) (hall (out.set qn ⟨o.table,rows⟩)) (k:=qn) (x:=relC ⟨o.table,rows⟩) (by rw[List.getElem?_map,List.getElem?_set_self hiq];rfl) (by simp[relC]);simpa[takeN,relC] using h9
    simp only[List.map_set] at htk2;simp[hn,h3,h10,h14,h34,h35,h36,hiq,htk2];intro hrl2;refine r_cond hm ?_ ?_<;>clear hm<;>intro hc6 hm
    ·obtain rfl:=r_ret hm;simp at hc6;simp[hn,h10,hc6,retH,resVs,resV,notTup];exact⟨Frz.data rfl,Frz.data rfl,trivial⟩
    ·simp at hc6;have hc7:¬ (24 < rows.length):=by omega
     simp[hn,h10,hc7,h36,hw];have hb3:h.box (0,48)=some (s.enc.map C.d):=b0;have hput:=put H rows;exact BackF.of (out.set qn ⟨o.table,rows⟩) ⟨⟨.mrow l 0 out.length cap,by simpa only[List.map_set] using hput,fun k hk=>⟨(hl k hk).1,by have:=(hl k hk).2;have:=hsx.1;simp<;>omega⟩,hep1,by simp[hne3];rw[hsx.2 _ (by simp<;>omega) (by simp)];exact hb3,by simp[hn],by simp[h3],by simp[h10],by simp[h34],by simp[h35],by simp[hw]⟩,hback _ hm⟩
  ·obtain⟨d,hd,hm⟩:=hm.bind;simp[hn,h3,h10,h34,h35,h36,b0,hc5];refine Wait.cut (Plan.then_ [0,1,2,3,4,5,6,7,8,9,10,11,12,14,15,13,16,17] .done) follows (by kernel_rfl) (fun e1 h1=>∃ H,Same h H []∧h1=H.setBox l (rowBox ((out.set qn ⟨o.table,d.1⟩).map relC) sp)∧1≤h1.ep∧e1.n=101∧e1.get 3=.one (.ptr (0,48) 0)∧e1.get 10=.one (.mrow l 0 out.length cap)∧e1.get 17=.one (.d (.bool d.2))∧e1.get 34=.one (.d (.sl (cs.map Chg.enc)))∧e1.get 35=.one (.d (.int .i64 (cs.length:Int)))∧e1.get 36=.one (.d (.int .i64 (i:Int)))) ?_ ?_
   ·simp[hn,h3,h10,h34,h35,h36,b0,hc5,hiq,hb,hne1,hne2,htk,Plan.then_,vcPlan,Z02,Z00,callKind];refine Z0a (Zc5 T o.rows x.key d hd) (by simp) ?_;simp[hn,h3,h10,h34,h35,h36,b0,hc5,hiq,hb,hne1,hne2,htk,Plan.then_,vcPlan,Z02,Z00,callKind];refine⟨fun _ _ x=>x,by omega,CutK.of ?_⟩;rw[hset];exact⟨_,hsH.next,rfl,by simp<;>omega,by simp[hn],by simp[h3],by simp[h10],by simp[hn],by simp[h34],by simp[h35],by simp[h36]⟩
   ·clear hn h3 h10 h34 h35 h36;rintro e1 h1 ⟨H,hsx,rfl,hep1,hn,h3,h10,h17,h34,h35,h36⟩;simp[hn,h17];refine r_cond hm ?_ ?_<;>clear hm<;>intro hc6 hm
    ·obtain rfl:=r_ret hm;simp[hn,hc6,retH,resVs,resV,notTup];exact⟨Frz.data rfl,Frz.data rfl,trivial⟩
    ·simp[hn,h36,hw,hc6];have hb3:h.box (0,48)=some (s.enc.map C.d):=b0;have hput:=put H d.1;exact BackF.of (out.set qn ⟨o.table,d.1⟩) ⟨⟨.mrow l 0 out.length cap,by simpa only[List.map_set] using hput,fun k hk=>⟨(hl k hk).1,by have:=(hl k hk).2;have:=hsx.1;simp<;>omega⟩,hep1,by simp[hne3];rw[hsx.2 _ (by simp<;>omega) (by simp)];exact hb3,by simp[hn],by simp[h3],by simp[h10],by simp[h34],by simp[h35],by simp[hw]⟩,hback _ hm⟩
 ·rintro out e h ⟨c,hr,hl,hep,b0,hn,h3,h10,h34,h35,h36⟩ hm;obtain rfl:=r_ret hm;simp[hn,h10,h35,h36,retH,resVs,resV,notTup];refine⟨?_,Frz.data rfl,trivial⟩;show Frz _ _ _;exact Zob hr
theorem Z6k (rows:List (List GV)) (h:rows.length≤1048576):Wp (Z0r rows) fun r=>r=rows:=by
 have hL:=LIM_eq;unfold Z0r;refine Wp.for (fun i (s:List (List GV))=>s=rows.take i) (by simp) ?_ (fun s hs=>Wp.ret (by rw[hs,List.take_length]));intro i x s next hx _ hI hn;have hi:=(List.getElem?_eq_some_iff.1 hx).1;refine Wp.bind (R:=fun y=>y=x) ⟨x,rfl,rfl⟩ fun y _ hy=>?_;subst hy;refine Wp.app (by rw[hI];simp;omega) (hn _ ?_);obtain⟨h8,h9⟩:=List.getElem?_eq_some_iff.1 hx;rw[List.take_succ_eq_append_getElem h8,h9,hI]
theorem Zcj (inst:List Rel) (h:inst.length≤1048576) (hr:∀ x ∈ inst,x.rows.length≤1048576):Wp (Z0j inst) fun r=>r=inst:=by
 have hL:=LIM_eq;unfold Z0j;refine Wp.for (fun i (s:List Rel)=>s=inst.take i) (by simp) ?_ (fun s hs=>Wp.ret (by rw[hs,List.take_length]));intro i x s next hx hm hI hn;have hi:=(List.getElem?_eq_some_iff.1 hx).1;refine Wp.bind (Z6k x.rows (hr x hm)) fun y _ hy=>?_;subst hy;refine Wp.app (by rw[hI];simp;omega) (hn _ ?_);obtain⟨h8,h9⟩:=List.getElem?_eq_some_iff.1 hx;rw[List.take_succ_eq_append_getElem h8,h9,hI]
theorem Zit {a b:Int}:0 < cmpI a b↔b < a:=by
 unfold cmpI;split
 ·simp;omega
 ·split<;>simp[*]
theorem cb_pos:∀ {a b:List UInt8},0 < Lib.compareBytes a b→Lib.compareBytes b a < 0:=by
 intro a
 induction a with
 | nil=>intro b h;cases b<;>simp[Lib.compareBytes] at h
 | cons x a ih=>
   intro b h;cases b with
   | nil=>simp[Lib.compareBytes]
   | cons y b=>
     simp only[Lib.compareBytes,UInt8.lt_iff_toNat_lt] at h ⊢;split at h
     ·simp at h
     ·split at h
      ·rw[if_pos (by omega)];decide
      ·rw[if_neg (by omega),if_neg (by omega)];exact ih h
theorem Zor {a b:GV} (h:0 < cmpV a b):cmpV b a < 0:=by
 rw[Zmq];unfold cmpV at h
 by_cases h1:cmpI a.kind b.kind=0
 ·have e1:=Z6j.1 h1;rw[if_neg (by simp[h1])] at h
  by_cases h2:cmpI a.int b.int=0
  ·have e2:=Z6j.1 h2;rw[if_neg (by simp[h2])] at h;exact .inr ⟨e1.symm,.inr ⟨e2.symm,cb_pos h⟩⟩
  ·rw[if_pos h2] at h;exact .inr ⟨e1.symm,.inl (Zit.1 h)⟩
 ·rw[if_pos h1] at h;exact .inl (Zit.1 h)
theorem Zos:∀ {a b:List GV},0 < cmpR a b→cmpR b a < 0:=by
 intro a
 induction a with
 | nil=>intro b h;cases b<;>simp[cmpR] at h
 | cons x a ih=>
   intro b h;cases b with
   | nil=>simp[cmpR]
   | cons y b=>
     simp only[cmpR] at h ⊢
     by_cases e:cmpV x y=0
     ·have:=Zb8 e
      subst this;rw[if_neg (by simp[e])] at h ⊢;exact ih h
     ·rw[if_pos e] at h;have h2:=Zor h;rw[if_pos (by omega)];exact h2
theorem Zgq:∀ {a b:List GV},cmpR a b=0→a=b:=by
 intro a
 induction a with
 | nil=>intro b h;cases b with
   | nil=>rfl
   | cons y b=>simp[cmpR] at h
 | cons x a ih=>
   intro b h;cases b with
   | nil=>simp[cmpR] at h
   | cons y b=>
     simp only[cmpR] at h
     by_cases e:cmpV x y=0
     ·rw[if_neg (by simp[e])] at h;rw[Zb8 e,ih h]
     ·rw[if_pos e] at h;exact absurd h e
structure Mid (T:Tbl) (rows:List (List GV)) (k:List GV) (a b os:List (List GV)):Prop where
 eq:rows=a++(os++b)
 lo:∀ x ∈ a,cmpR (keyF T x) k < 0
 hi:∀ x ∈ b,cmpR k (keyF T x) < 0
 os:os=[]∨∃ o,os=[o]∧keyF T o=k
theorem w_Find (T:Tbl) (rows:List (List GV)) (key:List GV) (hT:T.pk.length≤6):Wp (Z29 T rows key) fun q=>∃ i:Nat,q.1=i∧i≤rows.length∧(∀ (j:Nat) (row:List GV),j < i→rows[j]?=some row→cmpR (keyF T row) key < 0) ∧
  (q.2=true→∃ row,rows[i]?=some row∧cmpR (keyF T row) key=0)∧(q.2=false→∀ row,rows[i]?=some row→0 < cmpR (keyF T row) key):=by
 unfold Z29;refine Wp.for (fun i _=>∀ (j:Nat) (row:List GV),j < i→rows[j]?=some row→cmpR (keyF T row) key < 0) (by intro j r h;omega) ?_ ?_
 ·intro i x s next hx hm hI hn;refine Wp.bind (w_Key T x (by omega)) fun k _ hk=>?_;subst hk;refine Wp.bind (Zar _ _ (by simp[keyF];omega)) fun c _ hc=>?_;subst hc;refine Wp.cond (fun h=>Wp.ret ⟨i,rfl,by have:=(List.getElem?_eq_some_iff.1 hx).1;omega,hI,fun h9=>⟨x,hx,by simpa using h9⟩,fun h9 row hr=>?_⟩) fun h=>hn () (Z4e hI hx ?_)
  ·rw[hx] at hr;cases hr;have h1:0≤cmpR (keyF T x) key:=by simpa using h
   have h2:cmpR (keyF T x) key≠0:=by simpa using h9
   omega
  ·have:¬ (0≤cmpR (keyF T x) key):=by simpa using h
   omega
 ·intro s hI;exact Wp.ret ⟨rows.length,rfl,Nat.le_refl _,hI,fun h=>by simp at h,fun _ row h=>by rw[List.getElem?_eq_none (Nat.le_refl _)] at h;cases h⟩
theorem Zlz {α:Type} {xs:List α} {i:Nat} {p:α→Prop} (h:∀ (j:Nat) (x:α),j < i→xs[j]?=some x→p x):∀ x ∈ xs.take i,p x:=by
 intro x hx;obtain⟨j,hj,rfl⟩:=List.getElem_of_mem hx;simp only[List.length_take] at hj;rw[List.getElem_take];exact h j _ (by omega) (List.getElem?_eq_getElem (by omega))
theorem Zgd {T:Tbl} {rows:List (List GV)} {k:List GV} {i:Nat} {o:List GV} (ha:AscP T rows) (hlo:∀ (j:Nat) (row:List GV),j < i→rows[j]?=some row→cmpR (keyF T row) k < 0) (ho:rows[i]?=some o) (hk:cmpR (keyF T o) k=0):Mid T rows k (rows.take i) (rows.drop (i+1)) [o]:=by
 obtain⟨h1,h2⟩:=List.getElem?_eq_some_iff.1 ho;have e:rows.drop i=o::rows.drop (i+1):=by rw[List.drop_eq_getElem_cons h1,h2]
 refine⟨by rw[List.singleton_append,← e,List.take_append_drop],Zlz hlo,fun x hx=>?_,.inr ⟨o,rfl,Zgq hk⟩⟩;have hd:AscP T (o::rows.drop (i+1)):=by rw[← e];exact List.Pairwise.sublist (List.drop_sublist _ _) ha
 have:=(List.pairwise_cons.1 hd).1 x hx
 rwa [Zgq hk] at this
theorem Zoj {T:Tbl} {rows:List (List GV)} {k:List GV} {i:Nat} (ha:AscP T rows) (hlo:∀ (j:Nat) (row:List GV),j < i→rows[j]?=some row→cmpR (keyF T row) k < 0) (hi:∀ row,rows[i]?=some row→0 < cmpR (keyF T row) k):Mid T rows k (rows.take i) (rows.drop i) []:=by
 refine⟨by rw[List.nil_append,List.take_append_drop],Zlz hlo,fun x hx=>?_,.inl rfl⟩;rcases Nat.lt_or_ge i rows.length with h1 | h1
 ·have e:=List.drop_eq_getElem_cons h1;have h2:=Zos (hi _ (List.getElem?_eq_getElem h1));have hd:AscP T (rows.drop i):=List.Pairwise.sublist (List.drop_sublist _ _) ha;rw[e] at hx hd;rcases List.mem_cons.1 hx with rfl | h3
  ·exact h2
  ·exact Z9l h2 ((List.pairwise_cons.1 hd).1 x h3)
 ·rw[List.drop_eq_nil_of_le h1] at hx;cases hx
theorem Mid.parts {T:Tbl} {rows:List (List GV)} {k:List GV} {a b os:List (List GV)} (h:Mid T rows k a b os) (ha:AscP T rows):AscP T a∧AscP T b:=by
 rw[h.eq] at ha;have h1:=List.pairwise_append.1 ha;exact⟨h1.1,(List.pairwise_append.1 h1.2.1).2.1⟩
theorem Mid.put {T:Tbl} {rows:List (List GV)} {k row:List GV} {a b os:List (List GV)} (h:Mid T rows k a b os) (ha:AscP T rows) (hk:keyF T row=k):AscP T (a++row::b):=by
 obtain⟨h1,h2⟩:=h.parts ha;subst hk;refine List.pairwise_append.2 ⟨h1,List.pairwise_cons.2 ⟨h.hi,h2⟩,fun x hx y hy=>?_⟩;rcases List.mem_cons.1 hy with rfl | h3
 ·exact h.lo x hx
 ·exact Z9l (h.lo x hx) (h.hi y h3)
theorem Mid.del {T:Tbl} {rows:List (List GV)} {k:List GV} {a b os:List (List GV)} (h:Mid T rows k a b os) (ha:AscP T rows):AscP T (a++b):=by
 obtain⟨h1,h2⟩:=h.parts ha;exact List.pairwise_append.2 ⟨h1,h2,fun x hx y hy=>Z9l (h.lo x hx) (h.hi y hy)⟩
theorem Zn3 (T:Tbl) (rows:List (List GV)) (row:List GV) (hT:T.pk.length≤6) (hl:rows.length≤24) (ha:AscP T rows):Wp (Z3b T rows row) fun out=>∃ a b os,Mid T rows (keyF T row) a b os∧out=a++row::b:=by
 unfold Z3b;refine Wp.bind (Z6k rows (by omega)) fun o _ ho=>?_;subst ho;refine Wp.bind (w_Key T row (by omega)) fun k _ hk=>?_;subst hk;refine Wp.bind (w_Find T o _ hT) fun q _ hq=>?_;obtain⟨i,hi,hil,hlo,ht,hf⟩:=hq;rw[hi];refine Wp.cond (fun h=>?_) fun h=>?_
 ·obtain⟨x,hx,hz⟩:=ht h;have hlt:=(List.getElem?_eq_some_iff.1 hx).1;refine Wp.chk ⟨by omega,by omega⟩ (Wp.ret ⟨_,_,_,Zgd ha hlo hx hz,?_⟩);rw[Int.toNat_natCast,List.set_eq_take_append_cons_drop,if_pos hlt]
 ·refine Wp.chk ⟨by omega,by omega,by omega⟩ (Wp.ret ⟨_,_,_,Zoj ha hlo (hf h),?_⟩);simp
theorem Zn4 (T:Tbl) (rows:List (List GV)) (key:List GV) (hT:T.pk.length≤6) (hl:rows.length≤24) (ha:AscP T rows):Wp (Z3c T rows key) fun q=>q.2=true→∃ a b o,Mid T rows key a b [o]∧q.1=a++b:=by
 unfold Z3c;refine Wp.bind (Z6k rows (by omega)) fun o _ ho=>?_;subst ho;refine Wp.bind (w_Find T o _ hT) fun q _ hq=>?_;obtain⟨i,hi,hil,hlo,ht,hf⟩:=hq;rw[hi];refine Wp.cond (fun h=>?_) fun h=>Wp.ret fun h9=>by simp at h9
 obtain⟨x,hx,hz⟩:=ht h;have hlt:=(List.getElem?_eq_some_iff.1 hx).1;exact Wp.chk ⟨by omega,by omega⟩ (Wp.ret fun _=>⟨_,_,_,Zgd ha hlo hx hz,rfl⟩)
structure CS (S:Sch) (c:Chg) (out out':List Rel) (k:Nat) (T:Tbl) (o:Rel) (rows:List (List GV)):Prop where
 ft:Z05 S c.table=some ((k:Int),true)
 t:S.tables[k]?=some T
 nm:strEq T.name c.table=true
 ok:out[k]?=some o
 eq:out'=out.set k ⟨o.table,rows⟩
 up:c.kind=1→CR T c.row∧∃ a b os,Mid T o.rows (keyF T c.row) a b os∧rows=a++c.row::b
 dl:c.kind≠1→∃ a b x,Mid T o.rows c.key a b [x]∧rows=a++b
 vd:Z2k S c=some 0
theorem CF.set {S:Sch} {out:List Rel} {k:Nat} {T:Tbl} {o:Rel} {rows:List (List GV)} (h:CF S out) (hT:S.tables[k]?=some T) (ho:out[k]?=some o) (hl:rows.length≤24) (hr:∀ row ∈ rows,CR T row) (ha:AscP T rows):CF S (out.set k ⟨o.table,rows⟩):=by
 have at':∀ (i:Nat) (x:Rel),(out.set k ⟨o.table,rows⟩)[i]?=some x→(i=k∧x=⟨o.table,rows⟩)∨(i≠k∧out[i]?=some x):=fun i x hx=>by
  rw[List.getElem?_set] at hx
  by_cases hk:k=i
  ·subst hk
   have:=(List.getElem?_eq_some_iff.1 ho).1
   simp[this] at hx;exact .inl ⟨rfl,hx.symm⟩
  ·rw[if_neg hk] at hx;exact .inr ⟨fun h=>hk h.symm,hx⟩
 refine⟨by simpa using h.len,fun i x T' hx hT'=>?_,fun x hx=>?_,fun i x T' hx hT'=>?_,fun i x T' hx hT'=>?_⟩
 ·rcases at' i x hx with ⟨rfl,rfl⟩ | ⟨_,h1⟩
  ·exact h.name i o T' ho hT'
  ·exact h.name i x T' h1 hT'
 ·obtain⟨i,hi,rfl⟩:=List.getElem_of_mem hx;rcases at' i _ (List.getElem?_eq_getElem hi) with ⟨_,h1⟩ | ⟨_,h1⟩
  ·rw[h1];exact hl
  ·exact h.l24 _ (List.mem_of_getElem? h1)
 ·rcases at' i x hx with ⟨rfl,rfl⟩ | ⟨_,h1⟩
  ·rw[hT] at hT';cases hT';exact hr
  ·exact h.row i x T' h1 hT'
 ·rcases at' i x hx with ⟨rfl,rfl⟩ | ⟨_,h1⟩
  ·rw[hT] at hT';cases hT';exact ha.asc
  ·exact h.asc i x T' h1 hT'
theorem Zew {T:Tbl} (hT:VT T) (key:List GV):Wp (Z0q T key) fun _=>True:=by
 unfold Z0q;refine Wp.cond (fun _=>Wp.ret trivial) fun h=>Wp.for (fun _ _=>True) trivial ?_ fun _ _=>Wp.ret trivial;intro i x s next hx hm _ hn;have hl:key.length=T.pk.length:=by simp at h;omega
 have hi:=(List.getElem?_eq_some_iff.1 hx).1;have hp:T.pk[i]?=some T.pk[i]:=List.getElem?_eq_getElem (by omega);have h1:=hT.pk _ (List.mem_of_getElem? hp);refine Wp.bind (Z4c _) fun _ _ _=>Wp.cond (fun _=>Wp.ret trivial) fun _=>Wp.getN hp (Wp.get h1.1 h1.2 fun _ _ _=>Wp.cond (fun _=>Wp.ret trivial) fun _=>hn () trivial)
theorem Zj3 {S:Sch} (hS:VS S) (c:Chg):Wp (Z2k S c) fun e=>e=0→∃ (k:Nat) (T:Tbl),Z05 S c.table=some ((k:Int),true)∧S.tables[k]?=some T∧strEq T.name c.table=true∧(c.kind=1→CR T c.row):=by
 have ft:∀ (K:Tbl→Option Int),(∀ T ∈ S.tables,Wp (K T) fun e=>e=0→c.kind=1→CR T c.row)→Wp (bindK (Z05 S c.table) fun v=>bif !v.2 then some 4 else getK S.tables v.1 fun x=>K x) fun e=>e=0→∃ (k:Nat) (T:Tbl),Z05 S c.table=some ((k:Int),true)∧S.tables[k]?=some T∧strEq T.name c.table=true∧(c.kind=1→CR T c.row):=fun K hK=>by
  refine Wp.bind (Z3d S c.table) fun v hv0 hv=>Wp.cond (fun _=>Wp.ret (by simp)) fun h=>?_;have h2:v.2=true:=by simpa using h
  obtain⟨hlt,T0,hT0,hn⟩:=hv.2.1 h2;refine Wp.get hv.1 hlt fun T hT hTm=>(hK T hTm).mono fun e _ he h0=>⟨v.1.toNat,T,?_,hT,?_,he h0⟩
  ·rw[hv0,Int.toNat_of_nonneg hv.1,← h2]
  ·rw[hT0] at hT;cases hT;exact hn
 have k1:=ft (fun x=>bindK (Z0c x c.row) fun v=>some v) fun T _=>Wp.bind (Zaq T c.row) fun e _ he=>Wp.ret fun h0 _=>he h0;have k2:c.kind≠1→_:=fun h=>ft (fun x=>bindK (Z0q x c.key) fun v=>some v) fun T hT=>Wp.bind (Zew (hS.tab T hT) c.key) fun _ _ _=>Wp.ret fun _ h1=>absurd h1 h;have r3:∀ {Q:Int→Prop} (_:Q 3),Wp (some (3:Int)) Q:=fun h=>Wp.ret h;unfold Z2k;refine Wp.cond (fun _=>Wp.cond (fun _=>Wp.ret (by simp)) fun _=>Wp.cond (fun _=>Wp.cond (fun _=>Wp.ret (by simp)) fun _=>Wp.cond (fun _=>Wp.cond (fun _=>Wp.ret (by simp)) fun _=>k1) fun _=>k1) fun _=>Wp.cond (fun _=>Wp.cond (fun _=>Wp.ret (by simp)) fun _=>k1) fun _=>k1) fun h=>?_;have h1:c.kind≠1:=by simpa using h
 exact Wp.cond (fun _=>Wp.cond (fun _=>Wp.ret (by simp)) fun _=>Wp.cond (fun _=>Wp.cond (fun _=>Wp.ret (by simp)) fun _=>k2 h1) fun _=>k2 h1) fun _=>Wp.cond (fun _=>Wp.cond (fun _=>Wp.ret (by simp)) fun _=>k2 h1) fun _=>k2 h1
theorem w_chg {ρ:Type} {Q:ρ→Prop} {S:Sch} (hS:VS S) (c:Chg) (out:List Rel) (hC:CF S out) (next:List Rel→Option ρ) (bad:Int→Option ρ) (hb:∀ e,e≠0→Wp (bad e) Q)
  (hn:∀ out' k T o rows,CS S c out out' k T o rows→CF S out'→Wp (next out') Q):Wp (m_chg S c out next bad) Q:=by
 unfold m_chg;refine Wp.bind (Zj3 hS c) fun e he0 he=>Wp.cond (fun h=>hb e (by simpa using h)) fun h0=>?_;obtain rfl:e=0:=by simpa using h0
 obtain⟨k,T,hft,hT,hnm,hcr⟩:=he rfl;rw[hft];show Wp (getK S.tables (k:Int) _) _;have hk:=(List.getElem?_eq_some_iff.1 hT).1;have hol:=hC.len;have ho:out[k]?=some out[k]:=List.getElem?_eq_getElem (by omega);generalize out[k]=o at ho;have hVT:=hS.tab T (List.mem_of_getElem? hT);have h24:=hC.l24 o (List.mem_of_getElem? ho);have hasc:=(hC.asc k o T ho hT).pw;have hrow:=hC.row k o T ho hT;refine Wp.getN hT (Wp.getN ho (Wp.cond (fun h1=>?_) fun h1=>?_))
 ·have hk1:c.kind=1:=by simpa using h1
  refine Wp.bind (Zn3 T o.rows c.row hVT.pk6 h24 hasc) fun rows _ hr=>Wp.cond (fun _=>hb 2 (by decide)) fun h2=>?_;obtain⟨a,b,os,hm,rfl⟩:=hr;refine hn _ k T o _ ⟨hft,hT,hnm,ho,rfl,fun _=>⟨hcr hk1,a,b,os,hm,rfl⟩,fun h=>absurd hk1 h,he0⟩ (hC.set hT ho (by simp at h2;simp;omega) (fun row hr=>?_) (hm.put hasc rfl));rcases List.mem_append.1 hr with h3 | h3
  ·exact hrow row (by rw[hm.eq];simp[h3])
  ·rcases List.mem_cons.1 h3 with rfl | h4
   ·exact hcr hk1
   ·exact hrow row (by rw[hm.eq];simp[h4])
 ·have hk1:c.kind≠1:=by simpa using h1
  refine Wp.bind (Zn4 T o.rows c.key hVT.pk6 h24 hasc) fun d _ hd=>Wp.cond (fun _=>hb 9 (by decide)) fun h2=>?_;obtain⟨a,b,x,hm,hq⟩:=hd (by simpa using h2);have hle:(a++b).length≤24:=by
   have:=congrArg List.length hm.eq
   simp at this;simp;omega
  refine hn _ k T o _ ⟨hft,hT,hnm,ho,rfl,fun h=>absurd h hk1,fun _=>⟨a,b,x,hm,hq⟩,he0⟩ (hC.set hT ho (by rw[hq];exact hle) (fun row hr=>?_) (by rw[hq];exact hm.del hasc));rw[hq] at hr;rcases List.mem_append.1 hr with h3 | h3
  ·exact hrow row (by rw[hm.eq];simp[h3])
  ·exact hrow row (by rw[hm.eq];simp[h3])
inductive Runs (S:Sch) (o:List Rel):List Chg→List Rel→Prop
 | nil:Runs S o [] o
 | snoc {cs:List Chg} {o' o'':List Rel} {c:Chg} {k:Nat} {T:Tbl} {x:Rel} {rows:List (List GV)} (h:Runs S o cs o') (s:CS S c o' o'' k T x rows):Runs S o (cs++[c]) o''
theorem Zbf {S:Sch} (hS:VS S) (inst:List Rel) (cs:List Chg):Wp (Z1j S inst cs) fun q=>q.2=0→CF S inst∧Z0b S inst=some 0∧CF S q.1∧Runs S inst cs q.1:=by
 unfold Z1j;rw[hS.ok];show Wp (bindK (Z0b S inst) _) _;refine Wp.bind (Zj5 S (fun T hT=>(hS.tab T hT).pk6) inst) fun e he0 he=>Wp.cond (fun h=>Wp.ret fun h0=>by simp only at h0;rw[h0] at h;cases h) fun h0=>?_;obtain rfl:e=0:=by simpa using h0
 have hC:=he rfl;have hl:=hC.len;have h6:=hS.t6;refine Wp.cond (fun _=>Wp.ret (by simp)) fun _=>Wp.bind (Zcj inst (by omega) fun x hx=>by have:=hC.l24 x hx;omega) fun o _ ho=>?_;subst ho;refine Wp.for (fun i out=>CF S out∧Runs S o (cs.take i) out) ⟨hC,by simpa using Runs.nil⟩ ?_ fun out hI=>Wp.ret fun _=>⟨hC,he0,hI.1,by simpa using hI.2⟩;rintro i c out next hc hcm ⟨h1,h2⟩ hn;refine w_chg hS c out h1 _ _ (fun e he=>Wp.ret fun h=>absurd h he) fun out' k T x rows hcs hC'=>hn out' ⟨hC',?_⟩;obtain⟨h8,h9⟩:=List.getElem?_eq_some_iff.1 hc;rw[List.take_succ_eq_append_getElem h8,h9];exact .snoc h2 hcs
def mpC (M:Mp) (co cn:C):List C:=M.enc.map C.d++[co,cn,.d (.int .i64 M.err)]
theorem MR.lenK {h:HS} {n:Nat} {c:C} {xs:List (List C)} {f:Nat→Prop} (m:MR h n c xs) (hk:f xs.length):lenK c (k:=⟨f⟩):=by
 rcases m.2.2 with ⟨rfl,rfl | rfl⟩ | ⟨l,cap,sp,rfl,-⟩
 ·simpa using hk
 ·simpa using hk
 ·simpa using hk
def RelAt (h:HS) (c:C) (rs:List Rel):Prop:=∃ xs:List (List C),MR h 2 c xs∧xs.map toDs=rs.map fun r=>some r.enc
structure MpAt (h:HS) (l:Lab) (co cn:C) (M:Mp):Prop where
 box:h.box l=some (mpC M co cn)
 out:RelAt h co M.out
 nc:RelAt h cn M.nc
 lt:∀ k ∈ l::(labs co++labs cn),k.1 < h.ep
 nl:l ∉ labs co∧l ∉ labs cn∧∀ k ∈ labs co,k ∉ labs cn
theorem RelAt.len {h:HS} {c:C} {rs:List Rel} (r:RelAt h c rs):∃ xs:List (List C),MR h 2 c xs∧(xs.map toDs=rs.map fun r=>some r.enc)∧xs.length=rs.length∧∀ (i:Nat) r,rs[i]?=some r→∃ c',xs[i]?=some [.d (.str r.table),c']∧c'.toD=some (.sl (r.rows.map (encL GV.enc))):=by
 obtain⟨xs,m,he⟩:=r;refine⟨xs,m,he,by have:=congrArg List.length he;simpa using this,fun i r hr=>?_⟩;have h1:=congrArg (fun z=>z[i]?) he;simp only[List.getElem?_map,hr,Option.map_some] at h1;cases hx:xs[i]? with
 | none=>rw[hx] at h1;cases h1
 | some x=>
   rw[hx] at h1;have h2:toDs x=some r.enc:=Option.some.inj h1;have hl:x.length=2:=m.1 x (List.mem_of_getElem? hx)
   match x,hl with
   | [a,b],_=>
     simp only[toDs,Rel.enc] at h2;cases ha:a.toD with
     | none=>rw[ha] at h2;cases h2
     | some a'=>
       cases hb:b.toD with
       | none=>rw[ha,hb] at h2;cases h2
       | some b'=>
         rw[ha,hb] at h2;simp at h2;refine⟨b,?_,by rw[hb,h2.2]⟩
         have:a=.d (.str r.table):=by
          obtain⟨rfl,rfl⟩:=h2;cases a with
          | d x=>simp[C.toD] at ha;rw[ha]
          | _=>simp[C.toD] at ha
         rw[this]
theorem RelAt.frame {h h':HS} {c:C} {rs:List Rel} (r:RelAt h c rs) (hb:∀ l ∈ labs c,h'.box l=h.box l):RelAt h' c rs:=by
 obtain⟨xs,m,he⟩:=r;exact⟨xs,m.frame hb,he⟩
theorem RelAt.frz {h:HS} {c:C} {rs:List Rel} (r:RelAt h c rs):Frz h c (.sl (rs.map Rel.enc)):=by
 obtain⟨xs,m,-,hl,he⟩:=r.len;refine m.frz (by simp[hl]) (fun t ht=>by obtain⟨y,_,rfl⟩:=List.mem_map.1 ht;rfl) fun i x t hx ht=>?_;rw[List.getElem?_map] at ht;cases hq:rs[i]? with
 | none=>rw[hq] at ht;cases ht
 | some q=>
   rw[hq] at ht;cases ht;obtain⟨c',h1,h2⟩:=he i q hq;rw[hx] at h1;cases h1;exact⟨.data rfl,.data h2,trivial⟩
theorem MpAt.frame {h h':HS} {l:Lab} {co cn:C} {M:Mp} (m:MpAt h l co cn M) (hs:Same h h' []):MpAt h' l co cn M:=
 ⟨by rw[hs.2 l (m.lt l (by simp)) (by simp)];exact m.box,m.out.frame fun k hk=>hs.2 k (m.lt k (by simp[hk])) (by simp),m.nc.frame fun k hk=>hs.2 k (m.lt k (by simp[hk])) (by simp),
  fun k hk=>Nat.lt_of_lt_of_le (m.lt k hk) hs.1,m.nl⟩
def setR (t:ByteArray) (rows:List (List GV)) (out:List Rel):List Rel:=out.map fun r=>bif strEq r.table t then ⟨r.table,rows⟩ else r
theorem Zo6 {t:ByteArray} {rows:List (List GV)} {out:List Rel}:(setR t rows out).length=out.length:=by simp[setR]
theorem Zm4 {t:ByteArray} {rows:List (List GV)} {out:List Rel} {i:Nat} (hi:i < out.length) :
  (setR t rows (out.take i)++out.drop i)[i]?=some out[i]∧setR t rows (out.take (i+1))++out.drop (i+1)=bif strEq out[i].table t then (setR t rows (out.take i)++out.drop i).set i ⟨out[i].table,rows⟩ else setR t rows (out.take i)++out.drop i:=by
 have h1:(setR t rows (out.take i)).length=i:=by rw[Zo6,List.length_take];omega
 have h2:out.take (i+1)=out.take i++[out[i]]:=by rw[List.take_add_one];simp[hi]
 have h3:out.drop i=out[i]::out.drop (i+1):=List.drop_eq_getElem_cons hi;refine⟨by rw[List.getElem?_append_right (by omega),h1,h3];simp,?_⟩;rw[h2];have h4:setR t rows (out.take i++[out[i]])=setR t rows (out.take i)++[bif strEq out[i].table t then ⟨out[i].table,rows⟩ else out[i]]:=by simp only[setR,List.map_append,List.map_cons,List.map_nil]
 rw[h4,h3];cases strEq out[i].table t with
 | true=>simp only[cond_true];rw[List.set_append_right _ _ (by omega),h1,Nat.sub_self,List.set_cons_zero,List.append_assoc];rfl
 | false=>simp
end
section
open Go.Am
def Z2c (s_:Sch):Option ((List Rel)):=
 (forK (fun (i3:Nat) (x3:Tbl) (s3:(List Rel)) next_3=>(appK2 s3 [(Rel.mk x3.name [])] fun _=>(next_3 (s3++[(Rel.mk x3.name [])])))) (fun (s3:(List Rel))=>(some s3)) s_.tables 0 [])
instance c_instance_Empty (s_:Sch):Con (Z2c s_) Tryz.prog 54 [.agg s_.enc] (fun r=>.one (.d (.sl (r.map Rel.enc)))):=by
 unfold Z2c;have l1:LH (σ:=(List Rel)) 9 [7,8] [.g 3 2 (fun s=>s.map Rel.enc)]:=.intro;exact go 21 Tryz.func54 rfl (by kernel_rfl) rfl rfl (by simp)
end
section
open Go Go.Am
theorem Zqs {h:HS} {c:C} {rs:List Rel} (m:MR h 2 c (rs.map relC)):RelAt h c rs:=⟨_,m,by simp[relC,toDs,Rel.enc,C.toD]⟩
theorem Z8i (h:HS) (S:Sch) (out:List Rel) (hm:Is (Z2c S) out) (K:V→HS→Prop)
  (hk:∀ c h',RelAt h' c out→Same h h' []→(∀ k ∈ labs c,h.ep≤k.1∧k.1 < h'.ep)→BoxLe h h'→K (.one c) h') :
  HSpec Tryz.prog 54 [.agg (S.enc.map C.d)] h K:=by
 refine HSpec.good Tryz.func54 rfl (by kernel_rfl) fun hg=>?_;unfold Z2c at hm;refine HSpec.of_vc Tryz.func54 rfl (by kernel_rfl) (n:=21) rfl rfl (by simp) ?_;simp;intro hil;refine Wait.for (xs:=S.tables) (s0:=[]) (fun i s e h'=>∃ c,e.n=21∧e.get 3=.one c∧e.get 7=.one (.d (.sl (S.tables.map Tbl.enc)))∧e.get 8=.one (.d (.int .i64 (S.tables.length:Int)))∧e.get 9=.one (.d (.int .i64 (i:Int)))∧MR h' 2 c (s.map relC)∧Same h h' []∧∀ k ∈ labs c,h.ep≤k.1∧k.1 < h'.ep) hm ⟨.nil,by simp,by simp,by simp,by simp,by simp,by simpa using MR.nil,(Same.refl.setBox (.inr (by simp))).next,by simp[labs]⟩ ?_ ?_
 ·rintro i s e h' ⟨c,hn,h3,h7,h8,h9,hmr,hs,hl⟩ hlt hm;have hw:IntKind.i64.wrap ((i:Int)+1)=(i:Int)+1:=IntWalk.i64_in _ (by omega);obtain⟨hap,hm⟩:=hm.chk;simp[hn,h3,h7,h8,h9,hlt];have hs2:Same h' (((h'.setBox (h'.ep,80) [.d (.str ByteArray.empty),.nil,.nil]).next.setBox (h'.ep,80) [.d (.str S.tables[i].name),.d (.sl (S.tables[i].cols.map Col.enc)),.d (.sl (S.tables[i].pk.map encI))]).setArr (h'.ep+1,272) (some (1,2))).next []:=(((Same.refl.setBox (.inr (by simp))).next.setBox (.inr (by simp))).setArr).next;refine app_mr Z81 (by kernel_rfl) (by decide) (by decide) (hmr.frame fun k hk=>hs2.2 k (hl k hk).2 (by simp)) (RowAt.own1 rfl) (by simpa using hap) (fun c' h2 hm2 hs3 hl3=>?_);simp[hn,h3,h7,h8,h9,hw];have hs4:Same h h2 []:=(hs.trans hs2).trans' hs3 fun k hk=>.inr (hl k hk).1;refine BackF.of (s++[⟨S.tables[i].name,[]⟩]) ⟨⟨c',by simp[hn],by simp[h3],by simp[h7],by simp[h8],by simp,?_,hs4,fun k hk=>?_⟩,hm⟩
  ·simpa[relC] using hm2
  ·rcases hl3 k hk with h9 | h9
   ·have:=hl k h9
    have:=hs3.1
    simp at this;omega
   ·have:=hs.1
    simp at h9;omega
 ·rintro s e h' ⟨c,hn,h3,h7,h8,h9,hmr,hs,hl⟩ hm;obtain rfl:=r_ret hm;simp[hn,h3,h7,h8,h9];exact hk _ _ (Zqs hmr) hs hl (hs.boxLe hg)
abbrev VSh:List Sh:=[.d,.d,.d]
abbrev RowSh:Sh:=.r VSh
theorem Zhq {α ρ:Type} {k:List α→Option ρ}:∀ (xs:List α) (i:Nat) (s:List α),forK (fun (_:Nat) x s next=>next (s++[x])) k xs i s=k (s++xs)
 | [],i,s=>by simp[forK]
 | x::xs,i,s=>by simp[forK,Zhq xs]
structure OwN (h h':HS) (ss:List Sh) (cs:List C) (ds:List D) (ls:List Lab):Prop where
 ow:Ow h' ss cs ds ls
 nd:ls.Nodup
 new:∀ k ∈ ls,h.ep≤k.1∧k.1 < h'.ep
 same:Same h h' []
def GrowP (h h':HS) (sh:List Sh) (c:C) (ds:List (List D)):Prop:=∃ qs,Part h' sh c qs ds∧(plabs c qs).Nodup∧(∀ k ∈ plabs c qs,h.ep≤k.1∧k.1 < h'.ep)∧Same h h' []
theorem GrowP.nil {h:HS} {sh:List Sh}:GrowP h h sh .nil []:=⟨[],⟨by simpa using MR.nil,rfl,by simp⟩,by simp[plabs,labs],by simp[plabs,labs],.refl⟩
theorem GrowP.step {h h1 h2:HS} {sh:List Sh} {c:C} {ds:List (List D)} (g:GrowP h h1 sh c ds) (hs:Same h1 h2 []):GrowP h h2 sh c ds:=by
 obtain⟨qs,p,nd,hl,s⟩:=g;exact⟨qs,p.frame fun k hk=>hs.2 k (hl k hk).2 (by simp),nd,fun k hk=>⟨(hl k hk).1,Nat.lt_of_lt_of_le (hl k hk).2 hs.1⟩,s.trans hs⟩
theorem GrowP.app {P:Program} {ty el:TypeId} {n by_ dd:Nat} {h h1 h2:HS} {sh:List Sh} {c x:C} {ds:List (List D)} {xc:List C} {d:List D} {lx:List Lab} {K:V→HS→Prop} (g:GrowP h h1 sh c ds) (hs:Same h1 h2 []) (hel:elT P ty=some (el,n,by_)) (hz:(zeT P el).isSome=true) (h0:0 < n) (hb:by_≤4096)
  (hr:RowAt h2 n x [xc]) (hn:sh.length=n) (ho:Ow h2 sh xc d lx) (hlx:lx.Nodup) (hnew:∀ k ∈ lx,h1.ep≤k.1∧k.1 < h2.ep) (hlim:ds.length+1≤LIM)
  (hk:∀ c' h3,GrowP h h3 sh c' (ds++[d])→Same h2 h3 (labs c)→K (.one c') h3):appK P ty c x dd h2 (K:=⟨K⟩):=by
 subst hn;obtain⟨qs,p0,nd,hl0,s0⟩:=g;have p:=p0.frame fun k hk=>hs.2 k (hl0 k hk).2 (by simp);have hl:∀ k ∈ plabs c qs,h.ep≤k.1∧k.1 < h2.ep:=fun k hk=>⟨(hl0 k hk).1,Nat.lt_of_lt_of_le (hl0 k hk).2 hs.1⟩;have s:=s0.trans hs;have hlt:∀ k ∈ plabs c qs,k.1 < h2.ep:=fun k hk=>(hl k hk).2;have hq:qs.length=ds.length:=by rw[← p.ds];simp
 refine app_mr hel hz h0 hb p.mr hr (by simpa[hq] using hlim) fun c' h3 hm hs3 hl3=>?_;have hcn:∀ k ∈ labs c,h.ep≤k.1:=fun k hk=>(hl k (by simp[plabs,hk])).1;have hc1:∀ k ∈ labs c,k.1 < h1.ep:=fun k hk=>(hl0 k (by simp[plabs,hk])).2;have hxo:∀ k ∈ lx,k ∉ labs c:=fun k hk h9=>by have:=hc1 k h9;have:=(hnew k hk).1;omega
 refine hk c' h3 ⟨qs++[(xc,d,lx)],p.add nd hlt hm hs3 (ho.frame fun k hk=>hs3.2 k (hnew k hk).2 (hxo k hk)),?_,fun k hk=>?_,s.trans' hs3 fun k hk=>.inr (hcn k hk)⟩ hs3
 ·refine Zb1 nd hlt (fun k hk=>(hl3 k hk).imp id fun h9=>h9.1) hlx fun k hk=>⟨fun h9=>?_,fun h9=>?_⟩
  ·have:=(hl0 k h9).2;have:=(hnew k hk).1;omega
  ·rcases hl3 k h9 with h8 | h8
   ·exact hxo k hk h8
   ·have:=(hnew k hk).2;omega
 ·rcases Z2m hk with h9 | h9 | h9
  ·rcases hl3 k h9 with h8 | h8
   ·exact⟨hcn k h8,Nat.lt_of_lt_of_le (hl k (by simp[plabs,h8])).2 hs3.1⟩
   ·exact⟨Nat.le_trans s.1 h8.1,h8.2⟩
  ·have:=hl k (by simp only[plabs,List.mem_append];exact .inr h9)
   exact⟨this.1,Nat.lt_of_lt_of_le this.2 hs3.1⟩
  ·have:=hnew k h9
   exact⟨Nat.le_trans s0.1 this.1,Nat.lt_of_lt_of_le this.2 hs3.1⟩
theorem Zpd {h:HS} {c:C} {row:List GV} (m:MR h 3 c ((row.map GV.enc).map (·.map C.d))):Ow h [RowSh] [c] [.sl (row.map GV.enc)] (labs c):=by
 have e1:(row.map fun v=>((v.enc.map C.d,v.enc,[]):List C × List D × List Lab)).flatMap (·.2.2)=[]:=by
  rw[List.flatMap_eq_nil_iff];intro q hq;obtain⟨v,_,rfl⟩:=List.mem_map.1 hq;rfl
 have e2:(row.map fun v=>((v.enc.map C.d,v.enc,[]):List C × List D × List Lab)).map (·.2.1)=row.map GV.enc:=by rw[List.map_map];rfl
 have e3:(row.map fun v=>((v.enc.map C.d,v.enc,[]):List C × List D × List Lab)).map (·.1)=(row.map GV.enc).map (·.map C.d):=by rw[List.map_map,List.map_map];rfl
 have:=Ow.row (h:=h) (es:=VSh) (c:=c) (qs:=row.map fun v=>(v.enc.map C.d,v.enc,[])) (ss:=[]) (cs:=[]) (ds:=[]) (ls:=[]) (by rw[e3];exact m) (fun q hq=>by
  obtain⟨v,_,rfl⟩:=List.mem_map.1 hq;exact Ow.datas (h:=h) (ds:=v.enc)) .nil
 rw[e1,e2,List.append_nil,List.append_nil] at this;exact this
theorem Z3u (h:HS) (row:List GV) (hl:row.length≤2097152) (K:V→HS→Prop) (hk:∀ c h',OwN h h' [RowSh] [c] [.sl (row.map GV.enc)] (labs c)→MR h' 3 c ((row.map GV.enc).map (·.map C.d))→BoxLe h h'→K (.one c) h') :
  HSpec Tryz.prog 49 [.one (.d (.sl (row.map GV.enc)))] h K:=by
 refine Z9t h _ ((row.map GV.enc).map (·.map C.d)) (RowAt.data (fun t ht=>by obtain⟨z,_,rfl⟩:=List.mem_map.1 ht;rfl) (by simpa using hl)) K fun c h' hm hs hl hb=>?_;exact hk c h' ⟨Zpd hm,Z1r,hl,hs⟩ hm hb
theorem Z7x (h:HS) (rows:List (List GV)) (hok:∀ row ∈ rows,row.length≤2097152) (K:V→HS→Prop)
  (hk:∀ c h',GrowP h h' [RowSh] c (rows.map (encL GV.enc))→BoxLe h h'→K (.one c) h') :
  HSpec Tryz.prog 51 [.one (.d (.sl (rows.map (encL GV.enc))))] h K:=by
 refine HSpec.good Tryz.func51 rfl (by kernel_rfl) fun hg=>?_;refine HSpec.of_vc Tryz.func51 rfl (by kernel_rfl) (n:=19) rfl rfl (by simp) ?_;have hm:Is (forK (fun (_:Nat) x s next=>next (s++[x])) (fun s=>some s) rows 0 []) rows:=by rw[Zhq];rfl
 simp;intro hil;refine Wait.for (xs:=rows) (s0:=[]) (fun i s e h'=>∃ c,e.n=19∧e.get 3=.one c∧e.get 6=.one (.d (.sl (rows.map (encL GV.enc))))∧e.get 7=.one (.d (.int .i64 (rows.length:Int)))∧e.get 8=.one (.d (.int .i64 (i:Int)))∧GrowP h h' [RowSh] c (s.map (encL GV.enc))∧s.length=i) hm ⟨.nil,by simp,by simp,by simp,by simp,by simp,.nil,rfl⟩ ?_ ?_
 ·rintro i s e h' ⟨c,hn,h3,h6,h7,h8,hmr,hsl⟩ hlt hm;have hw:IntKind.i64.wrap ((i:Int)+1)=(i:Int)+1:=IntWalk.i64_in _ (by omega);have hri:=hok _ (List.getElem_mem hlt);simp[hn,h3,h6,h7,h8,hlt];refine Z01 (Z3u _ _ hri _ fun c1 h1 ho1 hm1 hb1=>?_);simp[hn,h3,h6,h7,h8,hw];have hs1:=ho1.same;refine bld_ow (x:=[c1]) (by simp only[toDs];cases c1.toD<;>rfl) rfl (fun d hd=>?_) (fun hd=>?_)
  ·obtain⟨rfl,hd2⟩:=ho1.ow.ofD hd;simp[hn,h3,h6,h7,h8,hw];refine GrowP.app hmr (hs1.trans ((Same.refl.setArr).next)) Z46 (by kernel_rfl) (by decide) (by decide) (RowAt.own1 rfl) rfl (hd2 _) (by simp) (by simp) (by simpa using (by omega:s.length+1≤2097152)) fun c' h3' hg' hs3=>?_;simp[hn,h3,h6,h7,h8,hw];exact BackF.of (s++[rows[i]]) ⟨⟨c',by simp[hn],by simp[h3],by simp[h6],by simp[h7],by simp,by simpa[encL] using hg',by simp[hsl]⟩,hm⟩
  ·simp[hn,h3,h6,h7,h8,hw];have hs2:Same h1 ((h1.setBox (h1.ep,240) [c1]).next) []:=(Same.refl.setBox (.inr (by simp))).next;refine GrowP.app hmr (hs1.trans hs2) Z46 (by kernel_rfl) (by decide) (by decide) (RowAt.new1 rfl (by simp)) rfl (ho1.ow.frame fun k hk=>hs2.2 k (ho1.new k hk).2 (by simp)) ho1.nd (fun k hk=>⟨(ho1.new k hk).1,Nat.lt_of_lt_of_le (ho1.new k hk).2 hs2.1⟩) (by simpa using (by omega:s.length+1≤2097152)) fun c' h3' hg' hs3=>?_;simp[hn,h3,h6,h7,h8,hw];exact BackF.of (s++[rows[i]]) ⟨⟨c',by simp[hn],by simp[h3],by simp[h6],by simp[h7],by simp,by simpa[encL] using hg',by simp[hsl]⟩,hm⟩
 ·rintro s e h' ⟨c,hn,h3,h6,h7,h8,hmr,hsl⟩ hm;obtain rfl:=r_ret hm;simp[h3,h7,h8,hn];obtain⟨qs,p,nd,hl,hs⟩:=hmr;exact hk _ _ ⟨qs,p,nd,hl,hs⟩ (hs.boxLe hg)
theorem Zhb {lo:Lab} {n cap i:Nat} {xs:List (List C)} {sp:List C} {rs:List Rel} {r:Rel} {c' cr:C} {rows:List (List GV)} (hall:AllC 2 xs) (hlen:xs.length=n) (hlim:xs.length≤LIM) (hcap:(rowBox xs sp).length=cap * 2)
  (hx:xs[i]?=some [.d (.str r.table),c']) (hr:cr.toD=some (.sl (rows.map (encL GV.enc)))) (he:xs.map toDs=rs.map fun r=>some r.enc) (H:HS) :
  RelAt (H.setBox lo (Z03 (rowBox xs sp) (i * 2+1) [cr])) (.mrow lo 0 n cap) (rs.set i ⟨r.table,rows⟩):=by
 have hs:Z03 (rowBox xs sp) (i * 2+1) [cr]=rowBox (xs.set i [.d (.str r.table),cr]) sp:=by
  rw[Z71 hall hx (by simp)];simp[Z03]
 rw[hs];refine⟨xs.set i [.d (.str r.table),cr],⟨hall.set (by simp),by simpa using hlim,.inr ⟨lo,cap,sp,by simp[hlen],by simp,?_⟩⟩,?_⟩
 ·rw[Z04 (hall.set (by simp)),List.length_set,← hcap,Z04 hall]
 ·rw[List.map_set,List.map_set,he];have e1:toDs [.d (.str r.table),cr]=some [.str r.table,.sl (rows.map (encL GV.enc))]:=by simp only[toDs,hr];rfl
  rw[e1];simp[Rel.enc]
theorem Zgm {ρ:Type} {t:ByteArray} {rows:List (List GV)} {k:List Rel→Option ρ} {out:List Rel} :
  forK (fun (i:Nat) (x:Rel) (s:List Rel) next=>bif strEq x.table t then next (s.set i ⟨x.table,rows⟩) else next s) k out 0 out=k (setR t rows out):=by
 have key:∀ (m i:Nat),out.length - i=m→i≤out.length→forK (fun (i:Nat) (x:Rel) (s:List Rel) next=>bif strEq x.table t then next (s.set i ⟨x.table,rows⟩) else next s) k (out.drop i) i (setR t rows (out.take i)++out.drop i)=k (setR t rows out):=by
  intro m
  induction m with
  | zero=>
    intro i hm hi;obtain rfl:i=out.length:=by omega
    simp[forK]
  | succ m ih=>
    intro i hm hi;have hlt:i < out.length:=by omega
    have h3:out.drop i=out[i]::out.drop (i+1):=List.drop_eq_getElem_cons hlt;have h4:=ih (i+1) (by omega) (by omega);rw[(Zm4 hlt).2] at h4;generalize setR t rows (out.take i)++out.drop i=s at h4 ⊢;rw[h3];simp only[forK];cases hb:strEq out[i].table t with
    | true=>rw[hb] at h4;exact h4
    | false=>rw[hb] at h4;exact h4
 have:=key out.length 0 (by omega) (by omega)
 simpa[setR] using this
theorem Zcm (h:HS) (l:Lab) (co cn cr:C) (M:Mp) (t:ByteArray) (rows:List (List GV)) (m:MpAt h l co cn M) (hr:cr.toD=some (.sl (rows.map (encL GV.enc)))) (K:V→HS→Prop)
  (hk:∀ h',MpAt h' l co cn { M with out:=setR t rows M.out }→Same h h' (labs co)→K (.tup []) h'):HSpec Tryz.prog 238 [.one (.ptr l 0),.one (.d (.str t)),.one cr] h K:=by
 refine HSpec.of_vc Tryz.func238 rfl (by kernel_rfl) (n:=34) rfl rfl (by simp) ?_;have hb:=m.box;simp only[mpC,Mp.enc,Stp.enc,List.map_cons,List.map_nil,List.cons_append,List.nil_append] at hb;obtain⟨xs,mx,-,hlen,hel⟩:=m.out.len;simp[hb];refine MR.lenK mx ?_;simp[hb];have hm:Is (forK (fun (i:Nat) (x:Rel) (s:List Rel) next=>bif strEq x.table t then next (s.set i ⟨x.table,rows⟩) else next s) (fun s=>some s) M.out 0 M.out) (setR t rows M.out):=Zgm;refine Wait.for (xs:=M.out) (s0:=M.out) (fun i s e h'=>e.n=34∧e.get 0=.one (.ptr l 0)∧e.get 1=.one (.d (.str t))∧e.get 2=.one cr∧e.get 11=.one (.d (.int .i64 (M.out.length:Int)))∧e.get 12=.one (.d (.int .i64 (i:Int))) ∧
  MpAt h' l co cn { M with out:=s }∧Same h h' (labs co)∧s.length=M.out.length∧∀ j,i≤j→s[j]?=M.out[j]?) hm ⟨by simp,by simp,by simp,by simp,by simp[hlen],by simp,m,.refl,rfl,fun _ _=>rfl⟩ ?_ ?_
 ·rintro i s e h1 ⟨hn,h0,h1',h2,h11,h12,m1,hs,hsl,hj⟩ hlt hm;have hw:IntKind.i64.wrap ((i:Int)+1)=(i:Int)+1:=IntWalk.i64_in _ (by have:=mx.2.1;simp at this;omega);have hb1:=m1.box;simp only[mpC,Mp.enc,Stp.enc,List.map_cons,List.map_nil,List.cons_append,List.nil_append] at hb1;obtain⟨ys,my,he',hyl,hye⟩:=m1.out.len;have hsi:s[i]?=some M.out[i]:=by rw[hj i (Nat.le_refl _)];exact List.getElem?_eq_getElem hlt
  obtain⟨c',hx,hc'⟩:=hye i _ hsi;have hyi:i < ys.length:=(List.getElem?_eq_some_iff.1 hx).1;obtain⟨lo,cap,sp,rfl,hbo,hcap⟩:=my.block (by omega);have ht0:takeN 1 ((rowBox ys sp).drop (i * 2))=some [.d (.str M.out[i].table)]:=by
   have h9:=Z5i (sp:=sp) (f:=0) (m:=1) my.1 hx (by simp);simpa[takeN] using h9
  have hln:=Z6m (sp:=sp) my.1 (k:=i) hyi;simp[hn,h0,h1',h2,h11,h12,hlt,hb1,hyi,hbo,ht0];refine r_cond hm ?_ ?_<;>clear hm<;>intro hc hm
  ·have hne:=m1.nl.1;simp[labs] at hne;have hle:i * 2+1+1≤(rowBox ys sp).length:=by omega
   simp[hn,h0,h1',h2,h11,h12,hlt,hb1,hyi,hbo,hw,hle];refine BackF.of (s.set i ⟨M.out[i].table,rows⟩) ⟨⟨by simp[hn],by simp[h0],by simp[h1'],by simp[h2],by simp[h11],by simp,⟨?_,?_,?_,?_,m1.nl⟩,?_,by simpa using hsl,?_⟩,hm⟩
   ·simp[hne];exact m1.box
   ·exact Zhb my.1 rfl my.2.1 hcap hx hr he' _
   ·exact m1.nc.frame fun k hkn=>by
     have:=m1.nl.2.2 lo (by simp[labs])
     have:k≠lo:=by rintro rfl;exact this hkn
     simp[this]
   ·intro k hk;simpa using m1.lt k hk
   ·exact hs.trans (Same.refl.setBox (.inl (by simp[labs])))
   ·intro j hij;rw[List.getElem?_set_ne (by omega)];exact hj j (by omega)
  ·simp[hn,h0,h1',h2,h11,h12,hlt,hb1,hyi,hbo,hw];exact BackF.of s ⟨⟨by simp[hn],by simp[h0],by simp[h1'],by simp[h2],by simp[h11],by simp,m1,hs,hsl,fun j hij=>hj j (by omega)⟩,hm⟩
 ·rintro s e h1 ⟨hn,h0,h1',h2,h11,h12,m1,hs,hsl,hj⟩ hm;obtain rfl:=r_ret hm;simp[hn,h0,h1',h2,h11,h12];exact hk _ m1 hs
theorem Z9u (h:HS) (l:Lab) (co cn cr:C) (M:Mp) (t:ByteArray) (rows:List (List GV)) (m:MpAt h l co cn M) (hr:cr.toD=some (.sl (rows.map (encL GV.enc)))) (K:V→HS→Prop)
  (hk:∀ h',MpAt h' l co cn { M with nc:=setR t rows M.nc }→Same h h' (labs cn)→K (.tup []) h'):HSpec Tryz.prog 239 [.one (.ptr l 0),.one (.d (.str t)),.one cr] h K:=by
 refine HSpec.of_vc Tryz.func239 rfl (by kernel_rfl) (n:=34) rfl rfl (by simp) ?_;have hb:=m.box;simp only[mpC,Mp.enc,Stp.enc,List.map_cons,List.map_nil,List.cons_append,List.nil_append] at hb;obtain⟨xs,mx,-,hlen,hel⟩:=m.nc.len;simp[hb];refine MR.lenK mx ?_;simp[hb];have hm:Is (forK (fun (i:Nat) (x:Rel) (s:List Rel) next=>bif strEq x.table t then next (s.set i ⟨x.table,rows⟩) else next s) (fun s=>some s) M.nc 0 M.nc) (setR t rows M.nc):=Zgm;refine Wait.for (xs:=M.nc) (s0:=M.nc) (fun i s e h'=>e.n=34∧e.get 0=.one (.ptr l 0)∧e.get 1=.one (.d (.str t))∧e.get 2=.one cr∧e.get 11=.one (.d (.int .i64 (M.nc.length:Int)))∧e.get 12=.one (.d (.int .i64 (i:Int))) ∧
  MpAt h' l co cn { M with nc:=s }∧Same h h' (labs cn)∧s.length=M.nc.length∧∀ j,i≤j→s[j]?=M.nc[j]?) hm ⟨by simp,by simp,by simp,by simp,by simp[hlen],by simp,m,.refl,rfl,fun _ _=>rfl⟩ ?_ ?_
 ·rintro i s e h1 ⟨hn,h0,h1',h2,h11,h12,m1,hs,hsl,hj⟩ hlt hm;have hw:IntKind.i64.wrap ((i:Int)+1)=(i:Int)+1:=IntWalk.i64_in _ (by have:=mx.2.1;simp at this;omega);have hb1:=m1.box;simp only[mpC,Mp.enc,Stp.enc,List.map_cons,List.map_nil,List.cons_append,List.nil_append] at hb1;obtain⟨ys,my,he',hyl,hye⟩:=m1.nc.len;have hsi:s[i]?=some M.nc[i]:=by rw[hj i (Nat.le_refl _)];exact List.getElem?_eq_getElem hlt
  obtain⟨c',hx,hc'⟩:=hye i _ hsi;have hyi:i < ys.length:=(List.getElem?_eq_some_iff.1 hx).1;obtain⟨lo,cap,sp,rfl,hbo,hcap⟩:=my.block (by omega);have ht0:takeN 1 ((rowBox ys sp).drop (i * 2))=some [.d (.str M.nc[i].table)]:=by
   have h9:=Z5i (sp:=sp) (f:=0) (m:=1) my.1 hx (by simp);simpa[takeN] using h9
  have hln:=Z6m (sp:=sp) my.1 (k:=i) hyi;simp[hn,h0,h1',h2,h11,h12,hlt,hb1,hyi,hbo,ht0];refine r_cond hm ?_ ?_<;>clear hm<;>intro hc hm
  ·have hne:=m1.nl.2.1;simp[labs] at hne;have hle:i * 2+1+1≤(rowBox ys sp).length:=by omega
   simp[hn,h0,h1',h2,h11,h12,hlt,hb1,hyi,hbo,hw,hle];refine BackF.of (s.set i ⟨M.nc[i].table,rows⟩) ⟨⟨by simp[hn],by simp[h0],by simp[h1'],by simp[h2],by simp[h11],by simp,⟨?_,?_,?_,?_,m1.nl⟩,?_,by simpa using hsl,?_⟩,hm⟩
   ·simp[hne];exact m1.box
   ·exact m1.out.frame fun k hkn=>by
     have:=m1.nl.2.2 k hkn
     have:k≠lo:=by rintro rfl;exact this (by simp[labs])
     simp[this]
   ·exact Zhb my.1 rfl my.2.1 hcap hx hr he' _
   ·intro k hk;simpa using m1.lt k hk
   ·exact hs.trans (Same.refl.setBox (.inl (by simp[labs])))
   ·intro j hij;rw[List.getElem?_set_ne (by omega)];exact hj j (by omega)
  ·simp[hn,h0,h1',h2,h11,h12,hlt,hb1,hyi,hbo,hw];exact BackF.of s ⟨⟨by simp[hn],by simp[h0],by simp[h1'],by simp[h2],by simp[h11],by simp,m1,hs,hsl,fun j hij=>hj j (by omega)⟩,hm⟩
 ·rintro s e h1 ⟨hn,h0,h1',h2,h11,h12,m1,hs,hsl,hj⟩ hm;obtain rfl:=r_ret hm;simp[hn,h0,h1',h2,h11,h12];exact hk _ m1 hs
end
end Go.Proofs.YthiojhcimecdgaaGreatDoor
section
namespace Go.Proofs.YthiojhcimecdgaaGreatDoor
open Go Go.Am
class ConM {α:Type} (m:Option α) (M0:outParam Mp) (M1:outParam (α→Mp)) (P:Program) (f:FuncId) (av:outParam (List AV)) (er:outParam (α→V)):Prop where
 h:∀ v,Is m v→∀ (h:HS) (l:Lab) (co cn:C) (vs:List V) (K:V→HS→Prop),MpAt h l co cn M0→toAs h vs=some av→(∀ h',MpAt h' l co cn (M1 v)→Same h h' (labs co++labs cn)→K (er v) h')→HSpec P f (.one (.ptr l 0)::vs) h K
theorem pre_rp {Γ:Ctx} {h:HS} {μ:Mem} {w:World} (hI:Am.Inv Γ h μ w) {l:Lab} {cs:List C} {ds:List D} (hb:h.box l=some cs) (hd:∀ (j:Nat) x,ds[j]?=some x→∃ c,cs[j]?=some c∧c.toD=some x) {b n:Nat} (hl:μ.loc l=some (some b,n)):RepP μ.cell (snap w) ds (.pointer (some ⟨b,0,none⟩)):=by
 obtain⟨b',n',T,conc,hl',_,hh,hR,_⟩:=hI.box l cs hb;rw[hl] at hl';simp only[Option.some.injEq,Prod.mk.injEq] at hl';obtain⟨rfl,rfl⟩:=hl';refine⟨b,0,rfl,fun j x hj=>?_⟩;obtain⟨c,hc,hx⟩:=hd j x hj;obtain⟨u,hu,hr⟩:=hR.2 j c hc;refine⟨u,.inr ?_,Z5a hr hx⟩;simp[snap,World.cell?,hh,hu]
theorem HSpec.of_pre {P:Program} {f:FuncId} {vs:List V} {av:List AV} {ds:List D} {cs:List C} {r:RV} {h:HS} {l:Lab} {K:V→HS→Prop} (d:Nat) (hs:PSpec P f (.one (.rp ds)::av) r) (hb:h.box l=some cs) (hd:∀ (j:Nat) x,ds[j]?=some x→∃ c,cs[j]?=some c∧c.toD=some x)
  (has:toAs h vs=some av) (hk:K (r.toV h.ep d) ((h.addFr d r.fr).next)):HSpec P f (.one (.ptr l 0)::vs) h K:=by
 refine⟨hs.1,fun Γ μ w vals hI hR=>?_⟩;obtain⟨hal,haR⟩:=Zic has;have hargs:Zal μ.cell (snap w) (.one (.rp ds)::av) vals:=by
  refine⟨by rw[hR.1];simp[hal],fun i x hi=>?_⟩;cases i with
  | zero=>
    simp at hi;subst hi;obtain⟨u,hu,hr⟩:=hR.2 0 _ rfl;obtain⟨b,n,hl,rfl⟩:=(show ∃ b n,μ.loc l=some (some b,n)∧u=.pointer (some ⟨b,0,none⟩) from hr);exact⟨_,hu,pre_rp hI hb hd hl⟩
  | succ i=>
    obtain⟨v,hv1,hv2⟩:=haR i x (by simpa using hi);obtain⟨u,hu,hr⟩:=hR.2 (i+1) v (by simpa using hv1);exact⟨u,hu,Zix hI hr hv2⟩
 refine (hs.2 w μ.cell (snap w) _ hI.glob hI.cell (Z6w w) hargs).mono ?_;rintro en w1 ⟨v,m',blk,rfl,hsub,hold,hcell,hbl,hr,hfr⟩;have hle:Mem.Le μ (relab μ h.ep d m' blk):=⟨hsub,rfl,fun l x hl=>by
  have:=hI.lt l (by rw[hl];simp)
  simp only[relab];rw[if_neg (by omega)];exact hl⟩
 exact⟨v,_,_,relab μ h.ep d m' blk,rfl,hk,hI.call d hsub hold hcell hbl hfr,RV_rep hr h.ep d,hle⟩
theorem MpAt.pre {h:HS} {l:Lab} {co cn:C} {M:Mp} (m:MpAt h l co cn M):∃ cs,h.box l=some cs∧∀ (j:Nat) x,M.enc[j]?=some x→∃ c,cs[j]?=some c∧c.toD=some x:=by
 refine⟨_,m.box,fun j x hx=>⟨.d x,?_,rfl⟩⟩;have hj:=(List.getElem?_eq_some_iff.1 hx).1;rw[mpC,List.getElem?_append_left (by simpa using hj),List.getElem?_map,hx];rfl
section
variable {ρ α:Type}
end
theorem Zib {h:HS} {vs:List V} (hv:toAs h vs=some []):vs=[]:=by
 cases vs with
 | nil=>rfl
 | cons v ws=>simp only[toAs] at hv;split at hv<;>cases hv
end Go.Proofs.YthiojhcimecdgaaGreatDoor
end
namespace Go.Proofs.YthiojhcimecdgaaGreatDoor
section
open Go.Am
def Z12 (s_:Sch) (inst:List Rel) (name:ByteArray):Option (Tbl × (List (List GV))):=
 (bindK (Z05 s_ name) fun v3=>(bif !v3.2 then (some ((Tbl.mk ByteArray.empty [] []),[])) else (getK s_.tables v3.1 fun x5=>(bindK (Z3h x5) fun v6=>(bif decide ((inst.length:Int)≤v3.1) then (some (v6,[])) else (getK inst v3.1 fun x10=>(bindK (Z0r x10.rows) fun v11=>(some (v6,v11)))))))))
instance c_instance_Table (s_:Sch) (inst:List Rel) (name:ByteArray):Con (Z12 s_ inst name) Tryz.prog 102 [.agg s_.enc,.one (.d (.sl (inst.map Rel.enc))),.one (.d (.str name))] (fun r=>.tup [.agg (r.1.enc.map RC.d),.one (.d (.sl (r.2.map (encL GV.enc))))]):=by
 unfold Z12;have p1:PH [7] (Plan.then_ [0,1,2,3,4,5,6,7,8] .done):=.intro;exact go 38 Tryz.func102 rfl (by kernel_rfl) rfl rfl (by simp)
end
section
open Go Go.Am
theorem GrowP.nil' {h h':HS} {sh:List Sh} (hs:Same h h' []):GrowP h h' sh .nil []:=GrowP.nil.step hs
theorem GrowP.from2 {h0 h h1 h2:HS} {sh:List Sh} {c:C} {ds:List (List D)} {ls:List Lab} (g:GrowP h h1 sh c ds) (hs:Same h1 h2 ls) (hl:∀ k ∈ ls,k.1 < h.ep) (h0s:Same h0 h2 []) (he:h0.ep≤h.ep):GrowP h0 h2 sh c ds:=by
 obtain⟨qs,p,nd,hq,s⟩:=g;exact⟨qs,p.frame fun k hk=>hs.2 k (hq k hk).2 fun h9=>by have:=hl k h9;have:=(hq k hk).1;omega,nd,fun k hk=>⟨Nat.le_trans he (hq k hk).1,Nat.lt_of_lt_of_le (hq k hk).2 hs.1⟩,h0s⟩
theorem GrowP.same {h h':HS} {sh:List Sh} {c:C} {ds:List (List D)} (g:GrowP h h' sh c ds):Same h h' []:=by
 obtain⟨_,_,_,_,s⟩:=g;exact s
theorem Zab {rows out:List (List GV)} (hm:Is (Z0r rows) out):out=rows:=by
 unfold Z0r at hm;have key:∀ (xs:List (List GV)) (i:Nat) (s:List (List GV)),Is (forK (fun (i3:Nat) (x3:List GV) (s3:List (List GV)) next_3=>bindK (Z31 x3) fun v5=>appK2 s3 [v5] fun _=>next_3 (s3++[v5])) (fun s3=>some s3) xs i s) out→out=s++xs:=by
  intro xs
  induction xs with
  | nil=>intro i s hm;simpa using (r_ret hm).symm
  | cons x xs ih=>
    intro i s hm;simp only[forK] at hm;obtain⟨v,hv,hm⟩:=hm.bind;obtain⟨_,hm⟩:=hm.app
    have:=ih _ _ hm
    have:v=x:=(r_ret hv).symm
    simp_all
 exact key rows 0 [] hm
theorem Zbt (h:HS) (S:Sch) (inst:List Rel) (t:ByteArray) (T:Tbl) (rows:List (List GV)) (hm:Is (Z12 S inst t) (T,rows)) (k:Int) (hk1:Is (Z05 S t) (k,true)) (hok:∀ row ∈ rows,row.length≤2097152) (K:V→HS→Prop)
  (hk:∀ c h',GrowP h h' [RowSh] c (rows.map (encL GV.enc))→BoxLe h h'→K (.tup [.agg (T.enc.map C.d),.one c]) h') :
  HSpec Tryz.prog 102 [.agg (S.enc.map C.d),.one (.d (.sl (inst.map Rel.enc))),.one (.d (.str t))] h K:=by
 refine HSpec.good Tryz.func102 rfl (by kernel_rfl) fun hg=>?_;refine HSpec.of_vc Tryz.func102 rfl (by kernel_rfl) (n:=38) rfl rfl (by simp) ?_;unfold Z12 at hm;obtain⟨kk,hk2,hm⟩:=hm.bind;obtain rfl:kk=(k,true):=Option.some.inj (hk2.symm.trans hk1);simp;refine Z0a ((c_schema_FindTable S t).h (k,true) hk1) (by simp) ?_;simp;obtain⟨x,h0,hx,hm⟩:=Is.get (show Is (getK S.tables k _) _ from hm);obtain⟨x2,hx2,hm⟩:=hm.bind;simp[h0,hx];refine Z0a ((c_schema_CloneTable x).h x2 hx2) (by simp) ?_;simp;intro hl;refine r_cond hm ?_ ?_<;>clear hm<;>intro hc hm
 ·have hq:=r_ret hm;obtain⟨rfl,rfl⟩:=Prod.mk.inj hq;simp[retH,resVs,resV,notTup];have hs:∀ h',Same h h' []→K (.tup [.agg (x2.enc.map C.d),.one .nil]) h':=fun h' hs=>hk .nil h' (GrowP.nil' hs) (hs.boxLe hg);exact hs _ (by repeat' first | exact Same.refl | apply Same.next | apply Same.setArr | (refine Same.setBox ?_ (.inr (by simp))))
 ·obtain⟨y,h1,hy,hm⟩:=hm.get;obtain⟨rows2,hr2,hm⟩:=hm.bind;have hq:=r_ret hm;obtain⟨rfl,rfl⟩:=Prod.mk.inj hq;simp;refine Wait.cut (Plan.then_ [0,1,2,3,4,5,6,7,8] .done) follows (by kernel_rfl) (fun e1 h1=>∃ c,e1.n=38∧e1.get 6=.one (.ptr (h.ep+1,96) 0)∧h1.box (h.ep+1,96)=some [C.d (D.str x2.name),C.d (D.sl (List.map Col.enc x2.cols)),C.d (D.sl (List.map encI x2.pk))]∧e1.get 7=.one c∧GrowP h h1 [RowSh] c (rows2.map (encL GV.enc))) ?_ ?_
  ·simp[Plan.then_,vcPlan,Z02,Z00,callKind,h1,hy];obtain rfl:=Zab hr2;refine Z01 (Z7x _ _ hok _ fun c h2 hg2 hb2=>?_);have hs2:=hg2.same;have b6:=hs2.2 (h.ep+1,96) (by simp) (by simp);simp at b6;simp[Plan.then_,vcPlan,Z02,Z00,callKind,h1,hy];refine⟨hb2,?_⟩;simp[Plan.then_,vcPlan,Z02,Z00,callKind,h1,hy,b6];refine CutK.of ⟨c,by simp,by simp,by simp,by simp,?_⟩;refine GrowP.from2 hg2 (ls:=[(h.ep+1,96)]) (Same.refl.setBox (.inl (by simp))) (by simp) (Same.setBox (Same.trans ?_ hs2) (.inr (by simp))) (by simp<;>omega)
   repeat' first | exact Same.refl | apply Same.next | apply Same.setArr | (refine Same.setBox ?_ (.inr (by simp)))
  ·rintro e1 h1 ⟨c,hn,h6,hb,h7,hg1⟩;simp[retH,resVs,resV,notTup,hn,h6,hb,h7];obtain⟨qs,p,nd,hl,hs⟩:=hg1;exact hk c _ ⟨qs,p,nd,hl,hs⟩ (hs.boxLe hg)
theorem Zcc (h:HS) (l:Lab) (co cn:C) (M:Mp) (t:ByteArray) (T:Tbl) (rows:List (List GV)) (m:MpAt h l co cn M) (hm:Is (Z12 M.src M.inp t) (T,rows)) (k:Int) (hk1:Is (Z05 M.src t) (k,true)) (hok:∀ row ∈ rows,row.length≤2097152) (K:V→HS→Prop)
  (hk:∀ c h',GrowP h h' [RowSh] c (rows.map (encL GV.enc))→BoxLe h h'→K (.tup [.agg (T.enc.map C.d),.one c]) h') :
  HSpec Tryz.prog 234 [.one (.ptr l 0),.one (.d (.str t))] h K:=by
 refine HSpec.good Tryz.func234 rfl (by kernel_rfl) fun hg=>?_;refine HSpec.of_vc Tryz.func234 rfl (by kernel_rfl) (n:=18) rfl rfl (by simp) ?_;have hb:=m.box;have hl1:=m.lt l (List.mem_cons_self ..);have hne:=ne_new hl1;have hne':=Z6n hl1;simp only[mpC,Mp.enc,Stp.enc,List.map_cons,List.map_nil,List.cons_append,List.nil_append] at hb;simp;refine Wait.cut (Plan.then_ [0,1,2,3,4,5,6,7,8,9,10,11,12,13] .done) follows (by kernel_rfl) (fun e1 h1=>∃ c,e1.n=18∧e1.get 4=.one (.ptr (h.ep,64) 0)∧h1.box (h.ep,64)=some (T.enc.map C.d)∧e1.get 5=.one c∧GrowP h h1 [RowSh] c (rows.map (encL GV.enc))) ?_ ?_
 ·simp[Plan.then_,vcPlan,Z02,Z00,callKind,hb,hne,hne'];refine Z01 (Zbt _ M.src M.inp t T rows hm k hk1 hok _ fun c h2 hg2 hb2=>?_);have hs2:=hg2.same;have b4:=hs2.2 (h.ep,64) (by simp) (by simp);simp at b4;simp[Plan.then_,vcPlan,Z02,Z00,callKind,b4];refine⟨hb2,?_⟩
  try simp[Plan.then_,vcPlan,Z02,Z00,callKind,b4]
  refine CutK.of ⟨c,by simp,by simp,by simp,by simp,?_⟩;exact GrowP.from2 hg2 (ls:=[(h.ep,64)]) (Same.refl.setBox (.inl (by simp))) (by simp) (Same.setBox (Same.trans ((Same.refl.setBox (.inr (by simp))).next) hs2) (.inr (by simp))) (by simp)
 ·rintro e1 h1 ⟨c,hn,h4,hb4,h5,hg1⟩;have hb4':=hb4;simp only[Tbl.enc,List.map_cons,List.map_nil] at hb4';simp[retH,resVs,resV,notTup,hn,h4,hb4',h5];exact hk c _ hg1 (hg1.same.boxLe hg)
theorem Zby {h:HS} {n:Nat} {l:Lab} {cs r:List C} {off k cap:Nat} (hb:h.box l=some cs) (hk:off+k * n≤cs.length) (hr:(cs.drop off).take (k * n)=r):Z0k h n (.mrow l off k cap)=some r:=by
 simp only[Z0k,hb,takeN];rw[if_pos (by simp;omega),hr]
end
end Go.Proofs.YthiojhcimecdgaaGreatDoor
section
namespace Go.Am
open Go
open Go.RowKit (Below)
section
variable {P:Program} {w:World} {a:Act} {e:Env} {h:HS} {μ:Mem} {Γ:Ctx}
def HS.only (h:HS) (ls:List Lab):HS:={ h with box:=fun l=>if l ∈ ls then h.box l else none,arr:=fun _=>none }
def HS.sans (h:HS) (ls:List Lab):HS:={ h with box:=fun l=>if l ∈ ls then none else h.box l }
open Classical in
noncomputable def Mem.frz (μ:Mem) (h:HS) (ls:List Lab) (w:World):Mem:=
 { μ with cell:=fun b o=>match μ.cell b o with
   | some v=>some v
   | none=>if ∃ l cs n,l ∈ ls∧h.box l=some cs∧μ.loc l=some (some b,n) then w.cell? ⟨b,o,none⟩ else none }
theorem Mem.frz_cell {ls:List Lab} {b o:Nat} {v:Value} (hv:(μ.frz h ls w).cell b o=some v):μ.cell b o=some v∨((∃ l cs n,l ∈ ls∧h.box l=some cs∧μ.loc l=some (some b,n))∧w.cell? ⟨b,o,none⟩=some v):=by
 simp only[Mem.frz] at hv;cases hx:μ.cell b o with
 | some y=>rw[hx] at hv;exact .inl hv
 | none=>
   rw[hx] at hv;simp only at hv;split at hv
   ·rename_i hq;exact .inr ⟨hq,hv⟩
   ·cases hv
theorem Mem.frz_none {ls:List Lab} {b o:Nat} (h1:μ.cell b o=none) (h2:∀ l cs n,l ∈ ls→h.box l=some cs→μ.loc l=some (some b,n)→False):(μ.frz h ls w).cell b o=none:=by
 simp only[Mem.frz,h1];rw[if_neg];rintro⟨l,cs,n,q1,q2,q3⟩;exact h2 l cs n q1 q2 q3
theorem Mem.frz_le {ls:List Lab}:Mem.Le μ (μ.frz h ls w):=⟨fun b o v hv=>by simp[Mem.frz,hv],rfl,fun _ _ hx=>hx⟩
theorem Inv.only (hI:Inv Γ h μ w) (ls:List Lab):Inv Γ (h.only ls) μ w:=by
 have hb:∀ {l cs},(h.only ls).box l=some cs→h.box l=some cs:=by
  intro l cs hl;simp only[HS.only] at hl;split at hl
  ·exact hl
  ·cases hl
 have hv:∀ {l},(h.only ls).live l→h.live l:=by
  rintro l (hl | hl)
  ·cases hx:(h.only ls).box l with
   | none=>exact absurd hx hl
   | some cs=>exact .inl (by rw[hb hx];simp)
  ·exact absurd rfl hl
 exact⟨hI.cell,hI.tmp,hI.tcell,hI.told,hI.ext,hI.old,hI.below,fun l cs hl=>hI.box l cs (hb hl),fun l es n hl=>by simp[HS.only] at hl,fun l l' b n n' h1 h2=>hI.inj l l' b n n' (hv h1) (hv h2),hI.lt,fun l _ hl=>hl rfl⟩
theorem Inv.frz (hI:Inv Γ h μ w) (ls:List Lab):Inv Γ (h.sans ls) (μ.frz h ls w) w:=by
 have hb:∀ {l cs},(h.sans ls).box l=some cs→h.box l=some cs∧l ∉ ls:=by
  intro l cs hl;simp only[HS.sans] at hl;split at hl
  ·cases hl
  ·exact⟨hl,by assumption⟩
 have hv:∀ {l},(h.sans ls).live l→h.live l:=by
  rintro l (hl | hl)
  ·cases hx:(h.sans ls).box l with
   | none=>exact absurd hx hl
   | some cs=>exact .inl (by rw[(hb hx).1];simp)
  ·exact .inr hl
 refine⟨fun b o v hq=>?_,hI.tmp,hI.tcell,hI.told,fun b o v hq=>Mem.frz_le.cell _ _ _ (hI.ext _ _ _ hq),fun b o v hlt hq=>?_,hI.below,fun l cs hl=>?_,fun l es n hl=>?_,fun l l' b n n' h1 h2=>hI.inj l l' b n n' (hv h1) (hv h2),hI.lt,fun l h1 h2=>?_⟩
 ·rcases Mem.frz_cell hq with h1 | ⟨_,h1⟩
  ·exact hI.cell _ _ _ h1
  ·exact h1
 ·rcases Mem.frz_cell hq with h1 | ⟨⟨l,cs,n,_,q2,q3⟩,_⟩
  ·exact hI.old _ _ _ hlt h1
  ·obtain⟨b',n',T,conc,h1,h2,_⟩:=hI.box l cs q2;rw[q3] at h1;cases h1;omega
 ·obtain⟨h1,h2⟩:=hb hl;obtain⟨b,n,T,conc,q1,q2,q3,q4,q5⟩:=hI.box l cs h1;refine⟨b,n,T,conc,q1,q2,q3,q4.mono Mem.frz_le,fun o=>Mem.frz_none (q5 o) fun l' cs' n' r1 r2 r3=>?_⟩
  have:=hI.inj l l' b n n' (.inl (by rw[h1];simp)) (.inl (by rw[r2];simp)) q1 r3
  subst this;exact h2 r1
 ·obtain⟨gc,q1,q2⟩:=hI.arr l es n hl;refine⟨gc,q1,q2.1,fun g hg=>?_⟩;obtain⟨r1,T,cur,r2,r3,r4,r5,r6⟩:=q2.2 g hg;refine⟨r1,T,cur,r2,r3,r4,r5,fun o ho=>Mem.frz_none (r6 o ho) fun l' cs' n' s1 s2 s3=>?_⟩;have hl':h.arr l≠none:=by
   have:h.arr l=some (n,es):=hl
   rw[this];simp
  obtain⟨g1,g2⟩:=gc;simp only at hg;subst hg
  have:=hI.inj l l' g g2 n' (.inr hl') (.inl (by rw[s2];simp)) q1 s3
  subst this;exact hI.both l (by rw[s2];simp) hl'
 ·cases hx:(h.sans ls).box l with
  | none=>exact h1 hx
  | some cs=>exact hI.both l (by rw[(hb hx).1];simp) h2
theorem Zol (hI:Inv Γ h μ w) (ls:List Lab) {c:C} {x:D} {v:Value} (hf:Frz (h.only ls) c x) (hc:RepC μ c v):RepD (μ.frz h ls w).cell x v:=by
 refine Zhp (hI.only ls) Mem.frz_le.cell (fun l cs b n o u hb hl hu=>?_) hf hc;simp only[HS.only] at hb;split at hb
 ·rename_i hm;obtain⟨b',n',T,conc,q1,_,_,_,q5⟩:=hI.box l cs hb;rw[hl] at q1;simp only[Option.some.injEq,Prod.mk.injEq] at q1;obtain⟨rfl,_⟩:=q1;simp only[Mem.frz,q5 o];rw[if_pos ⟨l,cs,n,hm,hb,hl⟩];exact hu
 ·cases hb
def FrzC (h:HS) (c c':C):Prop:=c=c'∨∃ x,c'=.d x∧Frz h c x
def FrzCs' (h:HS):List C→List C→Prop
 | [],[]=>True
 | c::cs,x::xs=>FrzC h c x∧FrzCs' h cs xs
 | _,_=>False
def FrzV (h:HS):V→V→Prop
 | .one c,.one c'=>FrzC h c c'
 | .agg cs,.agg cs'=>FrzCs' h cs cs'
 | v,v'=>v=v'
def FrzVs' (h:HS):List V→List V→Prop
 | [],[]=>True
 | v::vs,x::xs=>FrzV h v x∧FrzVs' h vs xs
 | _,_=>False
def FrzR (h:HS):V→V→Prop
 | .tup vs,.tup vs'=>FrzVs' h vs vs'
 | v,v'=>FrzV h v v'
theorem FrzCs'.get:∀ {cs cs':List C},FrzCs' h cs cs'→cs.length=cs'.length∧∀ (i:Nat) c',cs'[i]?=some c'→∃ c,cs[i]?=some c∧FrzC h c c'
 | [],[],_=>⟨rfl,fun i x hi=>by simp at hi⟩
 | c::cs,y::xs,hr=>by
   obtain⟨h1,h2⟩:=FrzCs'.get hr.2;refine⟨by simp[h1],fun i x hi=>?_⟩;cases i with
   | zero=>simp at hi;subst hi;exact⟨c,by simp,hr.1⟩
   | succ i=>obtain⟨c',h3,h4⟩:=h2 i x (by simpa using hi);exact⟨c',by simpa using h3,h4⟩
 | [],_::_,hr=>hr.elim
 | _::_,[],hr=>hr.elim
theorem FrzVs'.get:∀ {cs cs':List V},FrzVs' h cs cs'→cs.length=cs'.length∧∀ (i:Nat) c',cs'[i]?=some c'→∃ c,cs[i]?=some c∧FrzV h c c'
 | [],[],_=>⟨rfl,fun i x hi=>by simp at hi⟩
 | c::cs,y::xs,hr=>by
   obtain⟨h1,h2⟩:=FrzVs'.get hr.2;refine⟨by simp[h1],fun i x hi=>?_⟩;cases i with
   | zero=>simp at hi;subst hi;exact⟨c,by simp,hr.1⟩
   | succ i=>obtain⟨c',h3,h4⟩:=h2 i x (by simpa using hi);exact⟨c',by simpa using h3,h4⟩
 | [],_::_,hr=>hr.elim
 | _::_,[],hr=>hr.elim
theorem FrzC.rep (hI:Inv Γ h μ w) (ls:List Lab) {c c':C} {v:Value} (hf:FrzC (h.only ls) c c') (hc:RepC μ c v):RepC (μ.frz h ls w) c' v:=by
 rcases hf with rfl | ⟨x,rfl,hf⟩
 ·exact hc.mono Mem.frz_le
 ·exact Zol hI ls hf hc
theorem FrzV.rep1 (hI:Inv Γ h μ w) (ls:List Lab) {v v':V} {u:Value} (hf:FrzV (h.only ls) v v') (hv:RepV1 μ v u):RepV1 (μ.frz h ls w) v' u:=by
 cases v with
 | one c=>cases v'<;>first | exact FrzC.rep hI ls hf hv | cases hf
 | agg cs=>
   cases v' with
   | agg cs'=>
     obtain⟨vs,h1,h2⟩:=hv;obtain⟨h3,h4⟩:=FrzCs'.get hf;refine⟨vs,h1,by rw[h2.1,h3],fun i c' hi=>?_⟩;obtain⟨c,h5,h6⟩:=h4 i c' hi;obtain⟨u',h7,h8⟩:=h2.2 i c h5;exact⟨u',h7,h6.rep hI ls h8⟩
   | _=>cases hf
 | top=>cases v'<;>first | trivial | cases hf
 | undef=>cases v'<;>first | exact hv | cases hf
 | tup vs=>exact hv.elim
theorem FrzV.rep (hI:Inv Γ h μ w) (ls:List Lab) {v v':V} {u:Value} (hf:FrzV (h.only ls) v v') (hv:RepV μ v u):RepV (μ.frz h ls w) v' u:=by
 cases v with
 | tup vs=>cases v'<;>first | (cases hf;done) | (cases hf;exact hv.mono Mem.frz_le)
 | one c=>have:=FrzV.rep1 (u:=u) hI ls hf (v:=.one c) hv;cases v'<;>first | exact this | cases hf
 | agg c=>have:=FrzV.rep1 (u:=u) hI ls hf (v:=.agg c) hv;cases v'<;>first | exact this | cases hf
 | top=>have:=FrzV.rep1 (u:=u) hI ls hf (v:=.top) hv;cases v'<;>first | exact this | cases hf
 | undef=>have:=FrzV.rep1 (u:=u) hI ls hf (v:=.undef) hv;cases v'<;>first | exact this | cases hf
theorem FrzR.rep (hI:Inv Γ h μ w) (ls:List Lab) {v v':V} {u:Value} (hf:FrzR (h.only ls) v v') (hv:RepV μ v u):RepV (μ.frz h ls w) v' u:=by
 cases v with
 | tup vs=>
   cases v' with
   | tup vs'=>
     obtain⟨us,h1,h2,h3⟩:=hv;obtain⟨h4,h5⟩:=FrzVs'.get hf;refine⟨us,h1,by rw[h2,h4],fun i x hi=>?_⟩;obtain⟨y,h6,h7⟩:=h5 i x hi;obtain⟨u',h8,h9⟩:=h3 i y h6;exact⟨u',h8,h7.rep1 hI ls h9⟩
   | _=>cases hf
 | one c=>exact FrzV.rep (v:=.one c) hI ls (by cases v'<;>exact hf) hv
 | agg c=>exact FrzV.rep (v:=.agg c) hI ls (by cases v'<;>exact hf) hv
 | top=>exact FrzV.rep (v:=.top) hI ls (by cases v'<;>exact hf) hv
 | undef=>exact FrzV.rep (v:=.undef) hI ls (by cases v'<;>exact hf) hv
theorem FrzC.refl {c:C}:FrzC h c c:=.inl rfl
theorem FrzV.refl {v:V}:FrzV h v v:=by
 have hcs:∀ cs:List C,FrzCs' h cs cs:=by intro cs;induction cs with | nil=>trivial | cons c cs ih=>exact⟨.refl,ih⟩
 cases v<;>first | exact .inl rfl | exact hcs _ | rfl
theorem HSpec.frz_args {f:FuncId} {vs vs':List V} {K:V→HS→Prop} (ls:List Lab) (hf:FrzVs' (h.only ls) vs vs') (hs:HSpec P f vs' (h.sans ls) K):HSpec P f vs h K:=by
 refine⟨hs.1,fun Γ μ w vals hI hR=>?_⟩;obtain⟨h4,h5⟩:=FrzVs'.get hf;refine (hs.2 Γ (μ.frz h ls w) w vals (hI.frz ls) ⟨by rw[hR.1,h4],fun i x hi=>?_⟩).mono ?_
 ·obtain⟨y,h6,h7⟩:=h5 i x hi;obtain⟨u',h8,h9⟩:=hR.2 i y h6;exact⟨u',h8,h7.rep hI ls h9⟩
 ·rintro en w' ⟨u,v,h',μ',rfl,hk,hI',hr,hle⟩;exact⟨u,v,h',μ',rfl,hk,hI',hr,Mem.frz_le.trans hle⟩
end
end Go.Am
end
namespace Go.Proofs.YthiojhcimecdgaaGreatDoor
section
open Go.Am
def Z4o (m:Mp) (table:ByteArray):Option Tbl:=
 (bindK (Z05 m.dst table) fun v2=>(getK m.dst.tables v2.1 fun x3=>(some x3)))
instance c_lens_mapping__output (m:Mp) (table:ByteArray):Con (Z4o m table) Tryz.prog 235 [.one (.rp m.enc),.one (.d (.str table))] (fun r=>.agg (r.enc.map RC.d)):=by
 unfold Z4o;exact go 24 Tryz.func235 rfl (by kernel_rfl) rfl rfl (by simp)
def Z5x (m:Mp) (key:List GV):Option ((List GV) × Bool):=
 (getK m.cs.tables 0 fun x1=>(getK m.comp 0 fun x3=>(bindK (Z29 x1 x3.rows key) fun v4=>(bif !v4.2 then (some ([],false)) else (getK x3.rows v4.1 fun x6=>(chkK (0≤(x1.pk.length:Int)∧(x1.pk.length:Int)≤(x6.length:Int)∧(x6.length:Int)≤(x6.length:Int)) (bindK (Z31 ((x6.take x6.length).drop x1.pk.length)) fun v9=>(some (v9,true)))))))))
instance c_lens_mapping__lookup (m:Mp) (key:List GV):Con (Z5x m key) Tryz.prog 236 [.one (.rp m.enc),.one (.d (.sl (key.map GV.enc)))] (fun r=>.tup [.one (.d (.sl (r.1.map GV.enc))),.one (.d (.bool r.2))]):=by
 unfold Z5x;have p1:PH [6] (Plan.then_ [0,1,2,3,4,5,6,7,8,9,10] .done):=.intro;exact go 42 Tryz.func236 rfl (by kernel_rfl) rfl rfl (by simp)
end
section
open Go Go.Am
def RowsOK (rows:List (List GV)):Prop:=rows.length≤2097152∧∀ row ∈ rows,row≠[]∧row.length≤2097152
instance (rows:List (List GV)):Decidable (RowsOK rows):=inferInstanceAs (Decidable (_∧_))
abbrev vcells (row:List GV):List (List C):=(row.map GV.enc).map (·.map C.d)
theorem ow_row {h:HS} {x:C} {row:List GV} {ls:List Lab} (o:Ow h [RowSh] [x] [.sl (row.map GV.enc)] ls) (hne:row≠[]):MR h 3 x (vcells row)∧ls=labs x:=by
 rcases o.inv_r with ⟨c,cs,ds,h1,h2,_⟩ | ⟨c,qs,cs',ds',ls',h1,h2,h3,hm,hq,hr⟩
 ·simp at h2;exact absurd h2.1 hne
 ·obtain⟨rfl,rfl,rfl⟩:=hr.inv_nil;simp only[List.cons.injEq,and_true,D.sl.injEq] at h1 h2;subst h1;have hf:∀ q ∈ qs,q.1=q.2.1.map C.d∧q.2.2=[]:=fun q hqm=>(hq q hqm).flat (n:=3) rfl fun d hd=>by
   have:q.2.1 ∈ row.map GV.enc:=by rw[h2];exact List.mem_map.2 ⟨q,hqm,rfl⟩
   obtain⟨v,_,hv⟩:=List.mem_map.1 this;rw[← hv] at hd;simp at hd;rcases hd with rfl | rfl | rfl<;>rfl
  have e1:qs.map (·.1)=vcells row:=by
   rw[vcells,h2,List.map_map];exact List.map_congr_left fun q hqm=>(hf q hqm).1
  have e2:qs.flatMap (·.2.2)=[]:=by
   rw[List.flatMap_eq_nil_iff];exact fun q hqm=>(hf q hqm).2
  rw[e1] at hm;exact⟨hm,by rw[h3,e2];simp⟩
structure Rest (h:HS) (c:C) (qs:List NQ) (rows:List (List GV)) (i:Nat):Prop where
 mr:MR h 1 c (qs.map (·.1))
 ds:qs.map (·.2.1)=rows.map (encL GV.enc)
 ow:∀ (j:Nat) (q:NQ),i≤j→qs[j]?=some q→Ow h [RowSh] q.1 q.2.1 q.2.2
theorem Rest.of {h h':HS} {c:C} {rows:List (List GV)} (g:GrowP h h' [RowSh] c (rows.map (encL GV.enc))):∃ qs,Rest h' c qs rows 0∧(plabs c qs).Nodup∧∀ k ∈ plabs c qs,h.ep≤k.1∧k.1 < h'.ep:=by
 obtain⟨qs,p,nd,hl,_⟩:=g;exact⟨qs,⟨p.mr,p.ds,fun j q _ hq=>p.ow q (List.mem_of_getElem? hq)⟩,nd,hl⟩
theorem Rest.frame {h h':HS} {c:C} {qs:List NQ} {rows:List (List GV)} {i:Nat} (r:Rest h c qs rows i) (hb:∀ k ∈ plabs c qs,h'.box k=h.box k):Rest h' c qs rows i:=
 ⟨r.mr.frame fun l hl=>hb l (by simp[plabs,hl]),r.ds,fun j q hj hq=>(r.ow j q hj hq).frame fun l hl=>hb l (Z3m hq hl)⟩
theorem Rest.at {h:HS} {c:C} {qs:List NQ} {rows:List (List GV)} {i:Nat} (r:Rest h c qs rows i) (nd:(plabs c qs).Nodup) (hne:∀ row ∈ rows,row≠[]) (hi:i < rows.length) :
  ∃ lr cap sp x,qs[i]?.map (·.1)=some [x]∧c=.mrow lr 0 rows.length cap∧h.box lr=some (rowBox (qs.map (·.1)) sp)∧takeN 1 ((rowBox (qs.map (·.1)) sp).drop (i * 1))=some [x]∧MR h 3 x (vcells rows[i])∧(∀ k ∈ labs x,k ∈ plabs c qs∧k≠lr) ∧
    ∀ h',(∀ k ∈ plabs c qs,k ∉ labs x→h'.box k=h.box k)→Rest h' c qs rows (i+1):=by
 have hlen:qs.length=rows.length:=by have:=congrArg List.length r.ds;simpa using this
 have hq:qs[i]?=some qs[i]:=List.getElem?_eq_getElem (by omega);have ho:=r.ow i _ (Nat.le_refl _) hq;have hd:qs[i].2.1=[.sl (rows[i].map GV.enc)]:=by
  have:=congrArg (fun z=>z[i]?) r.ds
  simp only[List.getElem?_map,hq,List.getElem?_eq_getElem hi,Option.map_some,Option.some.injEq] at this;exact this
 obtain⟨lr,cap,sp,hc,hb,hcap⟩:=r.mr.block (by simp;omega);have h1:qs[i].1.length=1:=r.mr.1 _ (List.mem_map.2 ⟨_,List.getElem_mem _,rfl⟩);obtain⟨x,hx⟩:∃ x,qs[i].1=[x]:=by
  match h9:qs[i].1,h1 with
  | [x],_=>exact⟨x,rfl⟩
 rw[hd,hx] at ho;obtain⟨hm,hls⟩:=ow_row ho (hne _ (List.getElem_mem hi));have hlx:∀ k ∈ labs x,k ∈ plabs c qs∧k ∉ labs c:=fun k hk=>⟨Z3m hq (by rw[hls];exact hk),Z4j nd hq (by rw[hls];exact hk)⟩;refine⟨lr,cap,sp,x,by rw[hq,Option.map_some,hx],by simpa[hlen] using hc,hb,?_,hm,fun k hk=>⟨(hlx k hk).1,fun he=>(hlx k hk).2 (by rw[hc];simp[labs,he])⟩,fun h' hb'=>⟨?_,r.ds,fun j q hj hqj=>?_⟩⟩
 ·have:=Z5i (sp:=sp) (f:=0) (m:=1) r.mr.1 (k:=i) (x:=[x]) (by rw[List.getElem?_map,hq,Option.map_some,hx]) (by simp)
  simpa[takeN] using this
 ·exact r.mr.frame fun l hl=>hb' l (by simp[plabs,hl]) fun h9=>(hlx l h9).2 hl
 ·exact (r.ow j q (by omega) hqj).frame fun l hl=>hb' l (Z3m hqj hl) fun h9=>(Z73 nd hq hqj (by omega) hl).2 (by rw[hls];exact h9)
structure LM (h0 h3:HS) (bs:List (Lab × List C)) (c:C) (qs:List NQ) (rows:List (List GV)) (gs:List (C × List (List GV))) (i:Nat) (h:HS):Prop where
 box:∀ b ∈ bs,h.box b.1=some b.2
 rest:Rest h c qs rows i
 row:∀ g ∈ gs,MR h 1 g.1 (ones (g.2.map rowc))
 same:Same h0 h []
 ep:h3.ep≤h.ep
 lab:∀ g ∈ gs,∀ k ∈ labs g.1,h3.ep≤k.1∧k.1 < h.ep
 dis:(gs.flatMap fun g=>labs g.1).Nodup
 sb:∀ b ∈ bs,b.1.1 < h3.ep∧b.1 ∉ plabs c qs
 sq:∀ k ∈ plabs c qs,h0.ep≤k.1∧k.1 < h3.ep
 nd:(plabs c qs).Nodup
 s0:h0.ep≤h3.ep
 ne:∀ row ∈ rows,row≠[]
theorem LM.new {h0 h3 h h':HS} {bs:List (Lab × List C)} {c:C} {qs:List NQ} {rows:List (List GV)} {gs:List (C × List (List GV))} {i:Nat} (m:LM h0 h3 bs c qs rows gs i h) (hs:Same h h' []):LM h0 h3 bs c qs rows gs i h' where
 box:=fun b hb=>(hs.2 _ (Nat.lt_of_lt_of_le (m.sb b hb).1 m.ep) (by simp)).trans (m.box b hb)
 rest:=m.rest.frame fun k hk=>hs.2 k (Nat.lt_of_lt_of_le (m.sq k hk).2 m.ep) (by simp)
 row:=fun g hg=>(m.row g hg).frame fun k hk=>hs.2 k (m.lab g hg k hk).2 (by simp)
 same:=m.same.trans hs
 ep:=Nat.le_trans m.ep hs.1
 lab:=fun g hg k hk=>⟨(m.lab g hg k hk).1,Nat.lt_of_lt_of_le (m.lab g hg k hk).2 hs.1⟩
 dis:=m.dis
 sb:=m.sb
 sq:=m.sq
 nd:=m.nd
 s0:=m.s0
 ne:=m.ne
theorem LM.at {h0 h3 h:HS} {bs:List (Lab × List C)} {c:C} {qs:List NQ} {rows:List (List GV)} {gs:List (C × List (List GV))} {i:Nat} (m:LM h0 h3 bs c qs rows gs i h) (hi:i < rows.length) :
  ∃ lr cap sp x,qs[i]?.map (·.1)=some [x]∧c=.mrow lr 0 rows.length cap∧h.box lr=some (rowBox (qs.map (·.1)) sp)∧takeN 1 ((rowBox (qs.map (·.1)) sp).drop i)=some [x]∧MR h 3 x (vcells rows[i])∧∀ k ∈ labs x,k.1 < h3.ep:=by
 obtain⟨lr,cap,sp,x,hx,h1,h2,h4,h5,h6,h7⟩:=m.rest.at m.nd m.ne hi;exact⟨lr,cap,sp,x,hx,h1,h2,by simpa using h4,h5,fun k hk=>(m.sq k (h6 k hk).1).2⟩
theorem LM.use {h0 h3 h h':HS} {bs:List (Lab × List C)} {c:C} {qs:List NQ} {rows:List (List GV)} {gs:List (C × List (List GV))} {i:Nat} {x:C} (m:LM h0 h3 bs c qs rows gs i h) (hi:i < rows.length) (hx:qs[i]?.map (·.1)=some [x]) (hs:Same h h' (labs x)):LM h0 h3 bs c qs rows gs (i+1) h':=by
 obtain⟨lr,cap,sp,x',hx',h1,h2,h4,h5,h6,h7⟩:=m.rest.at m.nd m.ne hi;rw[hx] at hx';cases hx';have hg:∀ g ∈ gs,∀ k ∈ labs g.1,k ∉ labs x:=fun g hg k hk h9=>by
  have:=(m.lab g hg k hk).1
  have:=(m.sq k (h6 k h9).1).2
  omega
 exact⟨fun b hb=>(hs.2 _ (Nat.lt_of_lt_of_le (m.sb b hb).1 m.ep) fun h9=>(m.sb b hb).2 (h6 _ h9).1).trans (m.box b hb),h7 h' fun k hk hn=>hs.2 k (Nat.lt_of_lt_of_le (m.sq k hk).2 m.ep) hn,
  fun g hgm=>(m.row g hgm).frame fun k hk=>hs.2 k (m.lab g hgm k hk).2 (hg g hgm k hk),m.same.trans' hs fun k hk=>.inr (m.sq k (h6 k hk).1).1,Nat.le_trans m.ep hs.1,
  fun g hgm k hk=>⟨(m.lab g hgm k hk).1,Nat.lt_of_lt_of_le (m.lab g hgm k hk).2 hs.1⟩,m.dis,m.sb,m.sq,m.nd,m.s0,m.ne⟩
theorem LM.skip {h0 h3 h:HS} {bs:List (Lab × List C)} {c:C} {qs:List NQ} {rows:List (List GV)} {gs:List (C × List (List GV))} {i:Nat} (m:LM h0 h3 bs c qs rows gs i h):LM h0 h3 bs c qs rows gs (i+1) h:=
 { m with rest:=⟨m.rest.mr,m.rest.ds,fun j q hj hq=>m.rest.ow j q (by omega) hq⟩ }
theorem LM.set {h0 h3 h h':HS} {bs:List (Lab × List C)} {c c':C} {qs:List NQ} {rows rs':List (List GV)} {gs:List (C × List (List GV))} {i j:Nat} {g:C × List (List GV)} (m:LM h0 h3 bs c qs rows gs i h) (hj:gs[j]?=some g) (hm:MR h' 1 c' (ones (rs'.map rowc))) (hs:Same h h' (labs g.1)) (hl:∀ k ∈ labs c',k ∈ labs g.1∨(h.ep≤k.1∧k.1 < h'.ep)) :
  LM h0 h3 bs c qs rows (gs.set j (c',rs')) i h':=by
 have hgm:=List.mem_of_getElem? hj;have hjl:=(List.getElem?_eq_some_iff.1 hj).1;have hlab:=m.lab g hgm;have hdis:∀ (k1 k2:Nat) (g1 g2:C × List (List GV)),gs[k1]?=some g1→gs[k2]?=some g2→k1≠k2→∀ k ∈ labs g1.1,k ∉ labs g2.1:=by
  have gen:∀ (xs:List (C × List (List GV))),(xs.flatMap fun g=>labs g.1).Nodup→∀ (k1 k2:Nat) (g1 g2:C × List (List GV)),xs[k1]?=some g1→xs[k2]?=some g2→k1≠k2→∀ k ∈ labs g1.1,k ∉ labs g2.1:=by
   intro xs
   induction xs with
   | nil=>intro _ k1 k2 g1 g2 h1;simp at h1
   | cons y ys ih=>
     intro hn k1 k2 g1 g2 h1 h2 hne k hk h9;rw[List.flatMap_cons,List.nodup_append] at hn;cases k1 with
     | zero=>
       cases k2 with
       | zero=>exact hne rfl
       | succ k2=>
         simp at h1 h2;subst h1;exact hn.2.2 k hk k (List.mem_flatMap.2 ⟨g2,List.mem_of_getElem? h2,h9⟩) rfl
     | succ k1=>
       cases k2 with
       | zero=>
         simp at h1 h2;subst h2;exact hn.2.2 k h9 k (List.mem_flatMap.2 ⟨g1,List.mem_of_getElem? h1,hk⟩) rfl
       | succ k2=>exact ih hn.2.1 k1 k2 g1 g2 (by simpa using h1) (by simpa using h2) (by omega) k hk h9
  exact gen gs m.dis
 have hset:∀ (k1:Nat) (g1:C × List (List GV)),(gs.set j (c',rs'))[k1]?=some g1→(k1=j∧g1=(c',rs'))∨(k1≠j∧gs[k1]?=some g1):=by
  intro k1 g1 h1;rw[List.getElem?_set] at h1
  by_cases he:j=k1
  ·subst he;simp[hjl] at h1;exact .inl ⟨rfl,h1.symm⟩
  ·rw[if_neg he] at h1;exact .inr ⟨fun h9=>he h9.symm,h1⟩
 refine⟨fun b hb=>(hs.2 _ (Nat.lt_of_lt_of_le (m.sb b hb).1 m.ep) fun h9=>?_).trans (m.box b hb),m.rest.frame fun k hk=>hs.2 k (Nat.lt_of_lt_of_le (m.sq k hk).2 m.ep) fun h9=>?_,fun g1 hg1=>?_,m.same.trans' hs fun k hk=>.inr ?_,Nat.le_trans m.ep hs.1,fun g1 hg1 k hk=>?_,?_,m.sb,m.sq,m.nd,m.s0,m.ne⟩
 ·have:=(hlab _ h9).1
  have:=(m.sb b hb).1
  omega
 ·have:=(hlab _ h9).1
  have:=(m.sq k hk).2
  omega
 ·obtain⟨k1,hk1⟩:=List.getElem?_of_mem hg1;rcases hset k1 g1 hk1 with ⟨_,rfl⟩ | ⟨hne,h1⟩
  ·exact hm
  ·exact (m.row g1 (List.mem_of_getElem? h1)).frame fun k hk=>hs.2 k (m.lab g1 (List.mem_of_getElem? h1) k hk).2 (hdis k1 j g1 g h1 hj hne k hk)
 ·have:=(hlab k hk).1
  have:=m.s0
  omega
 ·obtain⟨k1,hk1⟩:=List.getElem?_of_mem hg1;rcases hset k1 g1 hk1 with ⟨_,rfl⟩ | ⟨hne,h1⟩
  ·rcases hl k hk with h9 | h9
   ·exact⟨(hlab k h9).1,Nat.lt_of_lt_of_le (hlab k h9).2 hs.1⟩
   ·exact⟨Nat.le_trans m.ep h9.1,h9.2⟩
  ·have:=m.lab g1 (List.mem_of_getElem? h1) k hk
   exact⟨this.1,Nat.lt_of_lt_of_le this.2 hs.1⟩
 ·
  have nodup_set:∀ (xs:List (C × List (List GV))) (j:Nat),xs[j]?=some g→(xs.flatMap fun g=>labs g.1).Nodup→(∀ g1 ∈ xs,∀ k ∈ labs g1.1,k.1 < h.ep)→((xs.set j (c',rs')).flatMap fun g=>labs g.1).Nodup∧∀ k ∈ ((xs.set j (c',rs')).flatMap fun g=>labs g.1),k ∈ (xs.flatMap fun g=>labs g.1)∨h.ep≤k.1:=by
   intro xs
   induction xs with
   | nil=>intro j h1;simp at h1
   | cons y ys ih=>
     intro j h1 hn hlt;rw[List.flatMap_cons,List.nodup_append] at hn;cases j with
     | zero=>
       simp at h1;subst h1;rw[List.set_cons_zero,List.flatMap_cons,List.flatMap_cons];refine⟨List.nodup_append.2 ⟨Z1r,hn.2.1,fun a ha b hb he=>?_⟩,fun k hk=>?_⟩
       ·subst he;rcases hl a ha with h9 | h9
        ·exact hn.2.2 a h9 a hb rfl
        ·obtain⟨g1,hg1,hk1⟩:=List.mem_flatMap.1 hb
         have:=hlt g1 (by simp[hg1]) a hk1
         omega
       ·rcases List.mem_append.1 hk with h9 | h9
        ·rcases hl k h9 with h8 | h8
         ·exact .inl (List.mem_append_left _ h8)
         ·exact .inr h8.1
        ·exact .inl (List.mem_append_right _ h9)
     | succ j=>
       rw[List.set_cons_succ,List.flatMap_cons,List.flatMap_cons];obtain⟨h3,h4⟩:=ih j (by simpa using h1) hn.2.1 fun g1 hg1=>hlt g1 (by simp[hg1]);refine⟨List.nodup_append.2 ⟨Z1r,h3,fun a ha b hb he=>?_⟩,fun k hk=>?_⟩
       ·subst he;rcases h4 a hb with h9 | h9
        ·exact hn.2.2 a ha a h9 rfl
        ·have:=hlt y (by simp) a ha
         omega
       ·rcases List.mem_append.1 hk with h9 | h9
        ·exact .inl (List.mem_append_left _ h9)
        ·exact (h4 k h9).imp (fun h8=>List.mem_append_right _ h8) id
  exact (nodup_set gs j hj m.dis fun g1 hg1 k hk=>(m.lab g1 hg1 k hk).2).1
theorem LM.app {P:Program} {ty el:TypeId} {by_ dd:Nat} {h0 h3 h:HS} {bs:List (Lab × List C)} {c xc:C} {qs:List NQ} {rows:List (List GV)} {gs:List (C × List (List GV))} {i:Nat} {g:C × List (List GV)} {row:List GV} {K:V→HS→Prop} (j:Nat) (m:LM h0 h3 bs c qs rows gs i h) (hj:gs[j]?=some g) (hel:elT P ty=some (el,1,by_)) (hz:(zeT P el).isSome=true) (hb:by_≤4096)
  (hr:RowAt h 1 xc [[rowc row]]) (hl:g.2.length+1≤LIM) (hk:∀ c' h',LM h0 h3 bs c qs rows (gs.set j (c',g.2++[row])) i h'→Same h h' (labs g.1)→K (.one c') h'):appK P ty g.1 xc dd h (K:=⟨K⟩):=by
 refine app_mr hel hz (by decide) hb (m.row g (List.mem_of_getElem? hj)) hr (by simpa[ones] using hl) fun c' h' hm hs hlb=>?_;exact hk c' h' (m.set hj (by simpa[ones] using hm) hs hlb) hs
theorem Za0 {d:Nat} {e:Env} {h:HS} {l:Lab} {co cn c:C} {M:Mp} {t:ByteArray} {rows:List (List GV)} {Kc:Env→HS→Prop} (m:MpAt h l co cn M) (hm:MR h 1 c (ones (rows.map rowc))) (hc:∀ k ∈ labs c,k ∉ l::(labs co++labs cn))
  (hk:∀ h',MpAt h' l co cn { M with out:=setR t rows M.out }→Same h h' (labs c++labs co)→Kc (e.put (some d) (.tup [])) h'):callK Tryz.prog 238 [] [.one (.ptr l 0),.one (.d (.str t)),.one c] d e h (K:=⟨Kc⟩):=by
 have hs:Same h (h.sans (labs c)) (labs c):=⟨Nat.le_refl _,fun k _ hn=>by simp only[HS.sans];rw[if_neg hn]⟩;have hfr:∀ k ∈ l::(labs co++labs cn),(h.sans (labs c)).box k=h.box k:=fun k hk1=>by
  simp only[HS.sans];rw[if_neg fun h9=>hc k h9 hk1]
 have m2:MpAt (h.sans (labs c)) l co cn M:=⟨by rw[hfr l (by simp)];exact m.box,m.out.frame fun k hk1=>hfr k (by simp[hk1]),m.nc.frame fun k hk1=>hfr k (by simp[hk1]),m.lt,m.nl⟩;refine Z01 ?_;simp only[List.map_nil,List.append_nil];refine HSpec.frz_args (vs':=[.one (.ptr l 0),.one (.d (.str t)),.one (.d (.sl (rows.map (encL GV.enc))))]) (labs c) ⟨.refl,.refl,.inr ⟨_,rfl,Z86 (hm.frame fun k hk1=>by simp only[HS.only];rw[if_pos hk1])⟩,trivial⟩ (Zcm _ l co cn _ M t rows m2 rfl _ fun h' m4 hs4=>?_);exact hk h' m4 ((hs.mono (by simp +contextual)).trans (hs4.mono (by simp +contextual)))
theorem Z7f {d:Nat} {e:Env} {h:HS} {l:Lab} {co cn c:C} {M:Mp} {t:ByteArray} {rows:List (List GV)} {Kc:Env→HS→Prop} (m:MpAt h l co cn M) (hm:MR h 1 c (ones (rows.map rowc))) (hc:∀ k ∈ labs c,k ∉ l::(labs co++labs cn))
  (hk:∀ h',MpAt h' l co cn { M with nc:=setR t rows M.nc }→Same h h' (labs c++labs cn)→Kc (e.put (some d) (.tup [])) h'):callK Tryz.prog 239 [] [.one (.ptr l 0),.one (.d (.str t)),.one c] d e h (K:=⟨Kc⟩):=by
 have hs:Same h (h.sans (labs c)) (labs c):=⟨Nat.le_refl _,fun k _ hn=>by simp only[HS.sans];rw[if_neg hn]⟩;have hfr:∀ k ∈ l::(labs co++labs cn),(h.sans (labs c)).box k=h.box k:=fun k hk1=>by
  simp only[HS.sans];rw[if_neg fun h9=>hc k h9 hk1]
 have m2:MpAt (h.sans (labs c)) l co cn M:=⟨by rw[hfr l (by simp)];exact m.box,m.out.frame fun k hk1=>hfr k (by simp[hk1]),m.nc.frame fun k hk1=>hfr k (by simp[hk1]),m.lt,m.nl⟩;refine Z01 ?_;simp only[List.map_nil,List.append_nil];refine HSpec.frz_args (vs':=[.one (.ptr l 0),.one (.d (.str t)),.one (.d (.sl (rows.map (encL GV.enc))))]) (labs c) ⟨.refl,.refl,.inr ⟨_,rfl,Z86 (hm.frame fun k hk1=>by simp only[HS.only];rw[if_pos hk1])⟩,trivial⟩ (Z9u _ l co cn _ M t rows m2 rfl _ fun h' m4 hs4=>?_);exact hk h' m4 ((hs.mono (by simp +contextual)).trans (hs4.mono (by simp +contextual)))
theorem Zmv {α:Type} {P:Program} {f:FuncId} {vs:List V} {av:List AV} {d:Nat} {e:Env} {h:HS} {l:Lab} {co cn:C} {M:Mp} {Kc:Env→HS→Prop} {er:α→RV} {m:Option α} {x:α} (hx:Is m x) [i:Con m P f (.one (.rp M.enc)::av) er]
  (hp:MpAt h l co cn M) (has:toAs h vs=some av) (hk:Kc (e.put (some d) ((er x).toV h.ep d)) ((h.addFr d (er x).fr).next)):callK P f [] (.one (.ptr l 0)::vs) d e h (K:=⟨Kc⟩):=by
 obtain⟨cs,hbx,hd⟩:=hp.pre;exact Z01 (by simpa using HSpec.of_pre (K:=fun v h'=>Kc (e.put (some d) v) h') d (i.h x hx) hbx hd has hk)
def Z0n (M:Mp):Option Mp:=
 bindK (Z12 M.src M.inp M.step.table) fun q=>bindK (Z05 M.src M.step.table) fun f=>chkK (f.2=true∧RowsOK q.2) <|
 bindK (Z4o M M.step.table) fun T2=>bindK (Z08 T2 M.step.column) fun at_=>
 forK (fun (_:Nat) (_:List GV) (_:List (List GV) × List (List GV)) _=>none)
  (fun s=>some { M with out:=setR M.step.table s.1 M.out,nc:=setR M.step.table s.2 M.nc }) q.2 0 ([],[])
theorem Zag (h0:HS) (l:Lab) (co cn:C) (M M1:Mp) (hm:Is (Z0n M) M1) (m:MpAt h0 l co cn M) (K:V→HS→Prop)
  (hK:∀ h',MpAt h' l co cn M1→Same h0 h' (labs co++labs cn)→K (.tup []) h'):HSpec Tryz.prog 218 [.one (.ptr l 0)] h0 K:=by
 refine HSpec.of_vc Tryz.func218 rfl (by kernel_rfl) (n:=91) rfl rfl (by simp) ?_;unfold Z0n at hm;obtain⟨⟨T,rows⟩,ht,hm⟩:=hm.bind;obtain⟨⟨k,f⟩,hk1,hm⟩:=hm.bind;obtain⟨hfo,hm'⟩:=hm.chk;clear hm;obtain⟨rfl,hok⟩:=hfo;have hm:=hm';clear hm';simp only at hm hok;have hb:=m.box;have hl1:=m.lt l (List.mem_cons_self ..);have hne:=ne_new hl1;have hne':=Z6n hl1;simp only[mpC,Mp.enc,Stp.enc,List.map_cons,List.map_nil,List.cons_append,List.nil_append] at hb;simp;refine Wait.cut (Plan.then_ [0,1,2,3,4,5,6,7,8,9,10,11,12] .done) follows (by kernel_rfl) (fun e1 h1=>∃ ld:Lab,e1.n=91∧e1.get 0=.one (.ptr l 0)∧e1.get 2=.one (.d (.str M.step.table))∧e1.get 3=.one (.ptr ld 0)∧h1.box ld=some (M.step.value.enc.map C.d)∧h0.ep≤ld.1∧ld.1 < h1.ep∧Same h0 h1 []) ?_ ?_
 ·simp[Plan.then_,vcPlan,Z02,Z00,callKind,hb,hne,hne'];refine CutK.of ⟨(h0.ep,48),by simp,by simp,by simp,by simp,by simp,by simp,by simp,?_⟩
  repeat' first | exact Same.refl | apply Same.next | apply Same.setArr | (refine Same.setBox ?_ (.inr (by simp)))
 ·rintro e1 h1 ⟨ld,en,e0,e2,e3,bd,hld,hld2,hs1⟩;simp[en,e0,e2,e3];refine Z01 (Zcc _ l co cn M M.step.table T rows (m.frame hs1) ht k hk1 (fun row hr=>(hok.2 row hr).2) _ fun c h2 hg2 hb2=>?_);simp[en,e0,e2,e3];obtain⟨lt_,hlt_⟩:∃ q,q=(h2.ep,64):=⟨_,rfl⟩;obtain⟨T2,hT2,hm⟩:=hm.bind;refine Wait.cut (Plan.then_ [0,1,3,4,5,6,7,2,8,9,10,11,12,13] .done) follows (by kernel_rfl) (fun E3 h3=>∃ at_:Int × Bool,Is (Z08 T2 M.step.column) at_∧E3.n=91∧E3.get 0=.one (.ptr l 0)∧E3.get 2=.one (.d (.str M.step.table))∧E3.get 3=.one (.ptr ld 0)∧E3.get 4=.one (.ptr (h2.ep,64) 0)∧E3.get 5=.one c∧E3.get 6=.one (.d (.int .i64 at_.1)) ∧
   h3.box ld=some (M.step.value.enc.map C.d)∧h3.box (h2.ep,64)=some (T.enc.map C.d)∧Same h2 h3 []∧h2.ep < h3.ep∧Same h0 h3 []) ?_ ?_
  ·obtain⟨at_,hat,hm⟩:=hm.bind;have hs2:=hs1.trans hg2.same;have m2:=m.frame hs2;have hb2:=m2.box;have bd2:=hg2.same.2 ld hld2 (by simp);rw[bd] at bd2;simp only[mpC,Mp.enc,Stp.enc,List.map_cons,List.map_nil,List.cons_append,List.nil_append] at hb2;have hl2:=m2.lt l (List.mem_cons_self ..);have hn2:=ne_new hl2;have hn2':=Z6n hl2;simp[Plan.then_,vcPlan,Z02,Z00,callKind,hn2,hn2',en,e0,e2,e3,hb2];refine Zmv hT2 (m2.frame ((Same.refl.setBox (.inr (by simp))).next.setBox (.inr (by simp)))) ?_ ?_
   ·simp
   simp[Plan.then_,vcPlan,Z02,Z00,callKind,hn2,hn2',en,e0,e2,e3,hb2];refine⟨fun _ _ x=>x,Z0a ((c_schema_FindColumn T2 M.step.column).h at_ hat) (by simp) ?_⟩;simp[Plan.then_,vcPlan,Z02,Z00,callKind,hn2,hn2',en,e0,e2,e3,hb2];refine⟨fun _ _ x=>x,CutK.of ⟨at_,hat,by simp[en],by simp[e0,en],by simp[e2,en],by simp[e3,en],by simp[en],by simp[en],by simp[en],?_,by simp,?_,by simp,hs2.trans ?_⟩⟩
   ·have hnd:=ne_new (l:=ld) (n:=h2.ep) (Nat.lt_of_lt_of_le hld2 hg2.same.1);simp[bd2,hnd]
   all_goals repeat' first | exact Same.refl | apply Same.next | apply Same.setArr | (refine Same.setBox ?_ (.inr (by simp)))
  ·rintro E3 h3 ⟨at_,hat,en,e0,e2,e3,e4,e5,e6,bd,bt,hs23,hlt3,hs3⟩;obtain⟨at2,hat2,hm⟩:=hm.bind;obtain rfl:at_=at2:=Option.some.inj (hat.symm.trans hat2);simp[en,e0,e2,e3,e4,e5,e6];obtain⟨qs,r0,nd,hlq⟩:=Rest.of hg2;have r3:=r0.frame fun k hk=>hs23.2 k (hlq k hk).2 (by simp);have hqs:qs.length=rows.length:=by have:=congrArg List.length r0.ds;simpa using this
   refine MR.lenK r3.mr ?_;simp[en,e0,e2,e3,e4,e5,e6,hqs];have m3:LM h0 h3 [(ld,M.step.value.enc.map C.d),((h2.ep,64),T.enc.map C.d)] c qs rows [(.nil,[]),(.nil,[])] 0 h3:=
    ⟨by simpa using⟨bd,bt⟩,r3,by simp[ones,MR.nil],hs3,Nat.le_refl _,by simp[labs],by simp[labs],?_,fun k hk=>?_,nd,?_,fun row hr=>(hok.2 row hr).1⟩
   ·refine Wait.for (xs:=rows) (s0:=([],[])) (fun i s e h'=>∃ cO cC,e.n=91∧e.get 0=.one (.ptr l 0)∧e.get 2=.one (.d (.str M.step.table))∧e.get 3=.one (.ptr ld 0)∧e.get 4=.one (.ptr (h2.ep,64) 0)∧e.get 6=.one (.d (.int .i64 at_.1))∧e.get 8=.one cO∧e.get 9=.one cC∧e.get 44=.one c∧e.get 45=.one (.d (.int .i64 (rows.length:Int)))∧e.get 46=.one (.d (.int .i64 (i:Int))) ∧
     LM h0 h3 [(ld,M.step.value.enc.map C.d),((h2.ep,64),T.enc.map C.d)] c qs rows [(cO,s.1),(cC,s.2)] i h'∧s.1.length=i∧s.2.length≤i) hm
     ⟨.nil,.nil,by simp[en],by simp[e0],by simp[e2],by simp[e3],by simp[e4],by simp[e6],by simp,by simp,by simp,by simp,by simp,m3,rfl,by simp⟩ ?_ ?_
    ·rintro i s e h' _ hlt hm;cases hm
    ·rintro s e h' ⟨cO,cC,en,e0,e2,e3,e4,e6,e8,e9,e44,e45,e46,mL,hsO,hsC⟩ hm;obtain rfl:=r_ret hm;simp[en,e0,e2,e3,e4,e6,e8,e9,e44,e45,e46];have hmo:∀ k ∈ l::(labs co++labs cn),k.1 < h0.ep:=m.lt;have h03:=hs3.1;have hgl:=mL.lab;have hO:∀ k ∈ labs cO,h3.ep≤k.1∧k.1 < h'.ep:=hgl _ (List.mem_cons_self ..);have hC:∀ k ∈ labs cC,h3.ep≤k.1∧k.1 < h'.ep:=hgl _ (List.mem_cons_of_mem _ (List.mem_cons_self ..));have hdis:∀ k ∈ labs cC,k ∉ labs cO:=fun k hk h9=>by
      have:=mL.dis
      simp only[List.flatMap_cons,List.flatMap_nil,List.append_nil] at this;exact (List.nodup_append.1 this).2.2 k h9 k hk rfl
     refine Za0 (m.frame mL.same) (mL.row _ (List.mem_cons_self ..)) (fun k hk h9=>by have:=hmo k h9;have:=(hO k hk).1;omega) fun h4 m4 hs4=>?_;simp[en,e0,e2,e3,e4,e6,e8,e9,e44,e45,e46];refine Z7f m4 ((mL.row _ (List.mem_cons_of_mem _ (List.mem_cons_self ..))).frame fun k hk=>hs4.2 k (hC k hk).2 fun h9=>?_) (fun k hk h9=>by have:=hmo k h9;have:=(hC k hk).1;omega) fun h5 m5 hs5=>?_
     ·rcases List.mem_append.1 h9 with h8 | h8
      ·exact hdis k hk h8
      ·have:=hmo k (by simp[h8])
       have:=(hC k hk).1
       omega
     simp[en,e0,e2,e3,e4,e6,e8,e9,e44,e45,e46];refine hK h5 m5 (Same.trans' (Same.trans' (mL.same.mono (by simp)) hs4 fun k hk=>?_) hs5 fun k hk=>?_)
     ·rcases List.mem_append.1 hk with h8 | h8
      ·exact .inr (by have:=(hO k h8).1;omega)
      ·exact .inl (by simp[h8])
     ·rcases List.mem_append.1 hk with h8 | h8
      ·exact .inr (by have:=(hC k h8).1;omega)
      ·exact .inl (by simp[h8])
   ·intro b hb;simp at hb;rcases hb with rfl | rfl
    ·have h12:=hg2.same.1;have h23:=hs23.1;refine⟨by simp;omega,fun h9=>?_⟩
     have:=(hlq _ h9).1
     simp at this;omega
    ·refine⟨by simp;omega,fun h9=>?_⟩
     have:=(hlq _ h9).2
     simp at this
   ·have:=hlq k hk
    have:=hs1.1
    omega
   ·have:=hs3.1
    omega
instance c_lens_mapping__insertColumn (M:Mp):ConM (Z0n M) M (fun r=>r) Tryz.prog 218 [] (fun _=>.tup []):=⟨by
 intro r hm h l co cn vs K hp has hK;obtain rfl:=Zib has;exact Zag h l co cn M r hm hp K hK⟩
def Z0m (M:Mp):Option Mp:=
 bindK (Z12 M.src M.inp M.step.table) fun q=>bindK (Z05 M.src M.step.table) fun f=>chkK (f.2=true∧RowsOK q.2) <|
 bindK (Z08 q.1 M.step.column) fun at_=>
 forK (fun (_:Nat) (_:List GV) (_:List (List GV) × List (List GV)) _=>none)
  (fun s=>some { M with out:=setR M.step.table s.1 M.out,nc:=setR M.step.table s.2 M.nc }) q.2 0 ([],[])
theorem Zaf (h0:HS) (l:Lab) (co cn:C) (M M1:Mp) (hm:Is (Z0m M) M1) (m:MpAt h0 l co cn M) (K:V→HS→Prop)
  (hK:∀ h',MpAt h' l co cn M1→Same h0 h' (labs co++labs cn)→K (.tup []) h'):HSpec Tryz.prog 219 [.one (.ptr l 0)] h0 K:=by
 refine HSpec.of_vc Tryz.func219 rfl (by kernel_rfl) (n:=79) rfl rfl (by simp) ?_;unfold Z0m at hm;obtain⟨⟨T,rows⟩,ht,hm⟩:=hm.bind;obtain⟨⟨k,f⟩,hk1,hm⟩:=hm.bind;obtain⟨hfo,hm'⟩:=hm.chk;clear hm;obtain⟨rfl,hok⟩:=hfo;have hm:=hm';clear hm';simp only at hm hok;have hb:=m.box;have hl1:=m.lt l (List.mem_cons_self ..);have hne:=ne_new hl1;have hne':=Z6n hl1;simp only[mpC,Mp.enc,Stp.enc,List.map_cons,List.map_nil,List.cons_append,List.nil_append] at hb;simp;refine Wait.cut (Plan.then_ [0,1,2,3,4,5,6,7,8,9,10,11,12] .done) follows (by kernel_rfl) (fun e1 h1=>∃ ld:Lab,e1.n=79∧e1.get 0=.one (.ptr l 0)∧e1.get 2=.one (.d (.str M.step.table))∧e1.get 3=.one (.ptr ld 0)∧h1.box ld=some (M.step.value.enc.map C.d)∧h0.ep≤ld.1∧ld.1 < h1.ep∧Same h0 h1 []) ?_ ?_
 ·simp[Plan.then_,vcPlan,Z02,Z00,callKind,hb,hne,hne'];refine CutK.of ⟨(h0.ep,48),by simp,by simp,by simp,by simp,by simp,by simp,by simp,?_⟩
  repeat' first | exact Same.refl | apply Same.next | apply Same.setArr | (refine Same.setBox ?_ (.inr (by simp)))
 ·rintro e1 h1 ⟨ld,en,e0,e2,e3,bd,hld,hld2,hs1⟩;simp[en,e0,e2,e3];refine Z01 (Zcc _ l co cn M M.step.table T rows (m.frame hs1) ht k hk1 (fun row hr=>(hok.2 row hr).2) _ fun c h2 hg2 hb2=>?_);simp[en,e0,e2,e3];refine Wait.cut (Plan.then_ [0,1,2,3,4,5,6,7,8,9,10,11] .done) follows (by kernel_rfl) (fun E3 h3=>∃ at_:Int × Bool,Is (Z08 T M.step.column) at_∧E3.n=79∧E3.get 0=.one (.ptr l 0)∧E3.get 2=.one (.d (.str M.step.table))∧E3.get 3=.one (.ptr ld 0)∧E3.get 4=.one (.ptr (h2.ep,64) 0)∧E3.get 5=.one c∧E3.get 6=.one (.d (.int .i64 at_.1)) ∧
   h3.box ld=some (M.step.value.enc.map C.d)∧h3.box (h2.ep,64)=some (T.enc.map C.d)∧Same h2 h3 []∧h2.ep < h3.ep∧Same h0 h3 []) ?_ ?_
  ·obtain⟨at_,hat,hm⟩:=hm.bind;have hs2:=hs1.trans hg2.same;have m2:=m.frame hs2;have hb2:=m2.box;have bd2:=hg2.same.2 ld hld2 (by simp);rw[bd] at bd2;simp only[mpC,Mp.enc,Stp.enc,List.map_cons,List.map_nil,List.cons_append,List.nil_append] at hb2;have hl2:=m2.lt l (List.mem_cons_self ..);have hn2:=ne_new hl2;have hn2':=Z6n hl2;simp[Plan.then_,vcPlan,Z02,Z00,callKind,hn2,hn2',en,e0,e2,e3,hb2];refine Z0a ((c_schema_FindColumn T M.step.column).h at_ hat) (by simp) ?_;simp[Plan.then_,vcPlan,Z02,Z00,callKind,hn2,hn2',en,e0,e2,e3,hb2]
   first | refine⟨fun _ _ x=>x,CutK.of ?_⟩ | refine CutK.of ?_
   refine⟨at_,hat,by simp[en],by simp[e0,en],by simp[e2,en],by simp[e3,en],by simp[en],by simp[en],by simp[en],?_,by simp,?_,by simp,hs2.trans ?_⟩
   ·have hnd:=ne_new (l:=ld) (n:=h2.ep) (Nat.lt_of_lt_of_le hld2 hg2.same.1);simp[bd2,hnd]
   all_goals repeat' first | exact Same.refl | apply Same.next | apply Same.setArr | (refine Same.setBox ?_ (.inr (by simp)))
  ·rintro E3 h3 ⟨at_,hat,en,e0,e2,e3,e4,e5,e6,bd,bt,hs23,hlt3,hs3⟩;obtain⟨at2,hat2,hm⟩:=hm.bind;obtain rfl:at_=at2:=Option.some.inj (hat.symm.trans hat2);simp[en,e0,e2,e3,e4,e5,e6];obtain⟨qs,r0,nd,hlq⟩:=Rest.of hg2;have r3:=r0.frame fun k hk=>hs23.2 k (hlq k hk).2 (by simp);have hqs:qs.length=rows.length:=by have:=congrArg List.length r0.ds;simpa using this
   refine MR.lenK r3.mr ?_;simp[en,e0,e2,e3,e4,e5,e6,hqs];have m3:LM h0 h3 [(ld,M.step.value.enc.map C.d),((h2.ep,64),T.enc.map C.d)] c qs rows [(.nil,[]),(.nil,[])] 0 h3:=
    ⟨by simpa using⟨bd,bt⟩,r3,by simp[ones,MR.nil],hs3,Nat.le_refl _,by simp[labs],by simp[labs],?_,fun k hk=>?_,nd,?_,fun row hr=>(hok.2 row hr).1⟩
   ·refine Wait.for (xs:=rows) (s0:=([],[])) (fun i s e h'=>∃ cO cC,e.n=79∧e.get 0=.one (.ptr l 0)∧e.get 2=.one (.d (.str M.step.table))∧e.get 3=.one (.ptr ld 0)∧e.get 4=.one (.ptr (h2.ep,64) 0)∧e.get 6=.one (.d (.int .i64 at_.1))∧e.get 8=.one cO∧e.get 9=.one cC∧e.get 38=.one c∧e.get 39=.one (.d (.int .i64 (rows.length:Int)))∧e.get 40=.one (.d (.int .i64 (i:Int))) ∧
     LM h0 h3 [(ld,M.step.value.enc.map C.d),((h2.ep,64),T.enc.map C.d)] c qs rows [(cO,s.1),(cC,s.2)] i h'∧s.1.length=i∧s.2.length≤i) hm
     ⟨.nil,.nil,by simp[en],by simp[e0],by simp[e2],by simp[e3],by simp[e4],by simp[e6],by simp,by simp,by simp,by simp,by simp,m3,rfl,by simp⟩ ?_ ?_
    ·rintro i s e h' _ hlt hm;cases hm
    ·rintro s e h' ⟨cO,cC,en,e0,e2,e3,e4,e6,e8,e9,e38,e39,e40,mL,hsO,hsC⟩ hm;obtain rfl:=r_ret hm;simp[en,e0,e2,e3,e4,e6,e8,e9,e38,e39,e40];have hmo:∀ k ∈ l::(labs co++labs cn),k.1 < h0.ep:=m.lt;have h03:=hs3.1;have hgl:=mL.lab;have hO:∀ k ∈ labs cO,h3.ep≤k.1∧k.1 < h'.ep:=hgl _ (List.mem_cons_self ..);have hC:∀ k ∈ labs cC,h3.ep≤k.1∧k.1 < h'.ep:=hgl _ (List.mem_cons_of_mem _ (List.mem_cons_self ..));have hdis:∀ k ∈ labs cC,k ∉ labs cO:=fun k hk h9=>by
      have:=mL.dis
      simp only[List.flatMap_cons,List.flatMap_nil,List.append_nil] at this;exact (List.nodup_append.1 this).2.2 k h9 k hk rfl
     refine Za0 (m.frame mL.same) (mL.row _ (List.mem_cons_self ..)) (fun k hk h9=>by have:=hmo k h9;have:=(hO k hk).1;omega) fun h4 m4 hs4=>?_;simp[en,e0,e2,e3,e4,e6,e8,e9,e38,e39,e40];refine Z7f m4 ((mL.row _ (List.mem_cons_of_mem _ (List.mem_cons_self ..))).frame fun k hk=>hs4.2 k (hC k hk).2 fun h9=>?_) (fun k hk h9=>by have:=hmo k h9;have:=(hC k hk).1;omega) fun h5 m5 hs5=>?_
     ·rcases List.mem_append.1 h9 with h8 | h8
      ·exact hdis k hk h8
      ·have:=hmo k (by simp[h8])
       have:=(hC k hk).1
       omega
     simp[en,e0,e2,e3,e4,e6,e8,e9,e38,e39,e40];refine hK h5 m5 (Same.trans' (Same.trans' (mL.same.mono (by simp)) hs4 fun k hk=>?_) hs5 fun k hk=>?_)
     ·rcases List.mem_append.1 hk with h8 | h8
      ·exact .inr (by have:=(hO k h8).1;omega)
      ·exact .inl (by simp[h8])
     ·rcases List.mem_append.1 hk with h8 | h8
      ·exact .inr (by have:=(hC k h8).1;omega)
      ·exact .inl (by simp[h8])
   ·intro b hb;simp at hb;rcases hb with rfl | rfl
    ·have h12:=hg2.same.1;have h23:=hs23.1;refine⟨by simp;omega,fun h9=>?_⟩
     have:=(hlq _ h9).1
     simp at this;omega
    ·refine⟨by simp;omega,fun h9=>?_⟩
     have:=(hlq _ h9).2
     simp at this
   ·have:=hlq k hk
    have:=hs1.1
    omega
   ·have:=hs3.1
    omega
instance c_lens_mapping__removeColumn (M:Mp):ConM (Z0m M) M (fun r=>r) Tryz.prog 219 [] (fun _=>.tup []):=⟨by
 intro r hm h l co cn vs K hp has hK;obtain rfl:=Zib has;exact Zaf h l co cn M r hm hp K hK⟩
theorem Z8a (h:HS) (c:C) (xs:List (List C)) (hr:RowAt h 2 c xs) (K:V→HS→Prop)
  (hk:∀ c' h',MR h' 2 c' xs→Same h h' []→(∀ l ∈ labs c',h.ep≤l.1∧l.1 < h'.ep)→BoxLe h h'→K (.one c') h') :
  HSpec Tryz.prog 200 [.one c] h K:=by
 refine HSpec.good Tryz.func200 rfl (by kernel_rfl) fun hg=>?_;refine HSpec.of_vc Tryz.func200 rfl (by kernel_rfl) (n:=8) rfl rfl (by simp) ?_;simp;refine Zbq Z81 hr (fun h1=>?_) ?_
 ·subst h1;simp;exact hk _ _ MR.nil .refl (by simp[labs]) (BoxLe.refl h)
 ·simp;refine Z9j (by simp) ?_;simp;refine Zc6 Z81 (by kernel_rfl) (by decide) (by decide) hr (fun c' h' hm hs hl=>?_);simp;exact hk _ _ hm hs hl (hs.boxLe hg)
def Z43 (M:Mp):Option Mp:=
 chkK (M.step.kind=1∨M.step.kind=2) (bif M.fwd == (M.step.kind == 1) then Z0n M else Z0m M)
theorem Zdl (h0:HS) (l:Lab) (co cn:C) (M M1:Mp) (hm:Is (Z43 M) M1) (m:MpAt h0 l co cn M) (K:V→HS→Prop)
  (hK:∀ h' co' cn',MpAt h' l co' cn' M1→Same h0 h' (l::(labs co++labs cn))→K (.tup []) h'):HSpec Tryz.prog 199 [.one (.ptr l 0)] h0 K:=by
 refine HSpec.of_vc Tryz.func199 rfl (by kernel_rfl) (n:=98) rfl rfl (by simp) ?_;unfold Z43 at hm;obtain⟨hk,hm⟩:=hm.chk;have hb:=m.box;simp only[mpC,Mp.enc,Stp.enc,List.map_cons,List.map_nil,List.cons_append,List.nil_append] at hb;have fin:∀ {f:FuncId} {d:Nat} {e:Env} {m1:Option Mp} [i:ConM m1 M (fun r=>r) Tryz.prog f [] (fun _=>.tup [])],Is m1 M1→∀ Kc:Env→HS→Prop,(∀ h',K (.tup []) h'→Kc (e.put (some d) (.tup [])) h')→callK Tryz.prog f [] [.one (.ptr l 0)] d e h0 (K:=⟨Kc⟩):=by
  intro f d e m1 i hm1 Kc hk1;refine Z01 (by simpa using i.h M1 hm1 h0 l co cn [] _ m rfl fun h' m' hs=>hk1 h' (hK h' co cn m' (hs.mono (by simp +contextual))))
 have hfw:M.fwd=true∨M.fwd=false:=by cases M.fwd<;>simp
 rcases hk with hk | hk<;>rcases hfw with hf | hf<;>rw[hk,hf] at hm
 ·simp[hb,hk,hf];refine fin (m1:=Z0n M) hm _ fun h' hk'=>?_;simpa using hk'
 ·simp[hb,hk,hf];refine fin (m1:=Z0m M) hm _ fun h' hk'=>?_;simpa using hk'
 ·simp[hb,hk,hf];refine fin (m1:=Z0m M) hm _ fun h' hk'=>?_;simpa using hk'
 ·simp[hb,hk,hf];refine fin (m1:=Z0n M) hm _ fun h' hk'=>?_;simpa using hk'
theorem toD_rd {c:C} {xs:List (List D)} (h:c.toD=some (.sl xs)):Rd c xs:=by
 cases c<;>simp[C.toD] at h<;>subst h<;>exact⟨rfl,rfl,fun _=>rfl⟩
def mpIn (M:Mp):List C:=M.step.enc.map C.d++[.d (.bool M.fwd),.d (.sl (M.src.tables.map Tbl.enc)),.d (.sl (M.src.fks.map Fk.enc)),.d (.sl (M.src.cons.map Cons.enc)),.d (.sl (M.dst.tables.map Tbl.enc)),.d (.sl (M.dst.fks.map Fk.enc)),.d (.sl (M.dst.cons.map Cons.enc)),
 .d (.sl (M.cs.tables.map Tbl.enc)),.d (.sl (M.cs.fks.map Fk.enc)),.d (.sl (M.cs.cons.map Cons.enc)),.nil,.nil,.nil,.nil,.d (.int .i64 0)]
def Z9h (M:Mp) (inp comp:List Rel):Option (List Rel × List Rel × Int):=
 bindK (Z0b M.src inp) fun e1=>bif e1 != 0 then some ([],[],e1) else
 bindK (Z0b M.cs comp) fun e2=>bif e2 != 0 then some ([],[],e2) else
 bindK (Z0j inp) fun i2=>bindK (Z0j comp) fun c2=>bindK (Z2c M.dst) fun o=>bindK (Z2c M.cs) fun n=>
 forK (fun (i:Nat) (rel:Rel) (s:List Rel) next=>bindK (Z05 M.src rel.table) fun f=>
  bif f.2 then bindK (Z12 M.src inp rel.table) fun q=>next (s.set i ⟨rel.table,q.2⟩) else next s)
 (fun s=>bindK (Z43 { M with inp:=i2,comp:=c2,out:=s,nc:=n,err:=0 }) fun M2=>chkK (M2.out.length+M2.nc.length≤2097152)
  (forK (fun (_:Nat) (rel:Rel) (e:Int) next=>next (bif decide (24 < rel.rows.length) && (e == 0) then 12 else e))
   (fun e=>bif e != 0 then some ([],[],e) else some (M2.out,M2.nc,0)) (M2.out++M2.nc) 0 M2.err)) o 0 o
theorem Zer (h0:HS) (l:Lab) (M:Mp) (inp comp:List Rel) (r:List Rel × List Rel × Int) (hb:h0.box l=some (mpIn M)) (hl1:l.1 < h0.ep) (hm:Is (Z9h M inp comp) r) (K:V→HS→Prop)
  (hK:∀ c1 c2 h',Frz h' c1 (.sl (r.1.map Rel.enc))→Frz h' c2 (.sl (r.2.1.map Rel.enc))→K (.tup [.one c1,.one c2,.one (.d (.int .i64 r.2.2))]) h') :
  HSpec Tryz.prog 170 [.one (.ptr l 0),.one (.d (.sl (inp.map Rel.enc))),.one (.d (.sl (comp.map Rel.enc)))] h0 K:=by
 refine HSpec.of_vc Tryz.func170 rfl (by kernel_rfl) (n:=150) rfl rfl (by simp) ?_;unfold Z9h at hm;have hne:=ne_new hl1;have hne':=Z6n hl1;simp only[mpIn,Stp.enc,List.map_cons,List.map_nil,List.cons_append,List.nil_append] at hb;obtain⟨e1,he1,hm⟩:=hm.bind;simp[hb];refine Z0a ((c_instance_Conforms M.src inp).h e1 he1) (by simp) ?_;simp;refine r_cond hm ?_ ?_<;>clear hm<;>intro hc1 hm
 ·obtain rfl:=r_ret hm;simp[retH,resVs,resV,notTup];exact hK .nil .nil _ (.data rfl) (.data rfl)
 obtain⟨e2,he2,hm⟩:=hm.bind;simp[hb];refine Z0a ((c_instance_Conforms M.cs comp).h e2 he2) (by simp) ?_;simp;refine r_cond hm ?_ ?_<;>clear hm<;>intro hc2 hm
 ·obtain rfl:=r_ret hm;simp[retH,resVs,resV,notTup];exact hK .nil .nil _ (.data rfl) (.data rfl)
 obtain⟨i2,hi2,hm⟩:=hm.bind;obtain⟨c2,hcc2,hm⟩:=hm.bind;simp[hb];refine Z0a ((c_instance_Clone inp).h i2 hi2) (by simp) ?_;simp[hb];refine Z0a ((c_instance_Clone comp).h c2 hcc2) (by simp) ?_;simp[hb];obtain⟨o,ho,hm⟩:=hm.bind;obtain⟨n,hn,hm⟩:=hm.bind;have hlt2:∀ k,h0.ep≤k→l.1 < k:=fun k hk=>by omega
 refine Wait.cut (Plan.then_ [0,1,2,3,4,5,7,8,9,10,6,11,12,13,14,15,16,17] .done) follows (by kernel_rfl) (fun E1 h1=>∃ co cn,E1.n=150∧E1.get 0=.one (.ptr l 0)∧E1.get 1=.one (.d (.sl (inp.map Rel.enc))) ∧
  MpAt h1 l co cn { M with inp:=i2,comp:=c2,out:=o,nc:=n,err:=0 }∧Same h0 h1 [l]∧∀ k ∈ labs co++labs cn,h0.ep≤k.1) ?_ ?_
 ·simp[Plan.then_,vcPlan,Z02,Z00,callKind];refine Z01 (Z8i _ M.dst o ho _ fun co h1 ro hs1 hla hb1=>?_);have b1:=hs1.2 l (by simp;omega) (by simp);simp at b1;simp[Plan.then_,vcPlan,Z02,Z00,callKind,b1];refine⟨hb1,?_⟩;refine Z01 (Z8i _ M.cs n hn _ fun cn h2 rn hs2 hlb hb2=>?_);have b2:=hs2.2 l (by have:=hs1.1;simp at this;omega) (by simp);rw[b1] at b2;simp[Plan.then_,vcPlan,Z02,Z00,callKind,b2];have hep1:=hs1.1;have hep2:=hs2.1;simp at hep1;have hla':∀ k ∈ labs co,h0.ep≤k.1∧k.1 < h1.ep:=fun k hk=>by have:=hla k hk;simp at this;omega
  have hlb':∀ k ∈ labs cn,h1.ep≤k.1∧k.1 < h2.ep:=fun k hk=>hlb k hk;have hnl:∀ k ∈ labs co,k≠l:=fun k hk he=>by have:=(hla' k hk).1;rw[he] at this;omega
  have hnl2:∀ k ∈ labs cn,k≠l:=fun k hk he=>by have:=(hlb' k hk).1;rw[he] at this;omega
  refine⟨hb2,CutK.of ⟨co,cn,by simp,by simp,by simp,⟨by simp[mpC,Mp.enc,Stp.enc],ro.frame fun k hk=>?_,rn.frame fun k hk=>?_,fun k hk=>?_,?_,?_,?_⟩,?_,fun k hk=>?_⟩⟩
  ·have:=hs2.2 k (hla' k hk).2 (by simp)
   simp[hnl k hk,this]
  ·simp[hnl2 k hk]
  ·simp only[List.mem_cons,List.mem_append] at hk;simp;rcases hk with rfl | hk | hk
   ·omega
   ·have:=(hla' k hk).2;omega
   ·exact (hlb' k hk).2
  ·exact fun h9=>hnl l h9 rfl
  ·exact fun h9=>hnl2 l h9 rfl
  ·exact fun k hk h9=>by have:=(hla' k hk).2;have:=(hlb' k h9).1;omega
  ·refine Same.setBox (Same.setBox ?_ (.inl (by simp))) (.inl (by simp));refine Same.trans ?_ (hs2.mono (by simp));refine Same.trans ?_ (hs1.mono (by simp))
   repeat' first | exact Same.refl | apply Same.next | apply Same.setArr | (refine Same.setBox ?_ (.inl (by simp)))
  ·rcases List.mem_append.1 hk with h9 | h9
   ·exact (hla' k h9).1
   ·have:=(hlb' k h9).1;omega
 ·rintro E1 h1 ⟨co,cn,en,e0,e1',mA,hsA,hlA⟩;have hbA:=mA.box;simp only[mpC,Mp.enc,Stp.enc,List.map_cons,List.map_nil,List.cons_append,List.nil_append] at hbA;obtain⟨xs,mx,-,hlen,hel⟩:=mA.out.len;simp[en,e0,hbA];refine MR.lenK mx ?_;simp[en,e0,hbA];have hon:o.length≤2097152:=by have:=mx.2.1;rw[hlen] at this;simpa using this
  have hl1A:l.1 < h1.ep:=mA.lt l (by simp);refine Wait.for (xs:=o) (s0:=o) (fun i s e h'=>e.n=150∧e.get 0=.one (.ptr l 0)∧e.get 1=.one (.d (.sl (inp.map Rel.enc)))∧e.get 64=.one co∧e.get 65=.one (.d (.int .i64 (o.length:Int)))∧e.get 66=.one (.d (.int .i64 (i:Int))) ∧
   MpAt h' l co cn { M with inp:=i2,comp:=c2,out:=s,nc:=n,err:=0 }∧Same h1 h' (labs co)∧s.length=o.length∧∀ j,i≤j→s[j]?=o[j]?) hm ⟨by simp[en],by simp[e0],by simp[e1'],by simp,by simp[hlen],by simp,mA,.refl,rfl,fun _ _=>rfl⟩ ?_ ?_
  ·rintro i s e h' ⟨en,e0,e1',e64,e65,e66,m1,hs,hsl,hj⟩ hlt hm;have hw:IntKind.i64.wrap ((i:Int)+1)=(i:Int)+1:=IntWalk.i64_in _ (by omega);have hb1:=m1.box;simp only[mpC,Mp.enc,Stp.enc,List.map_cons,List.map_nil,List.cons_append,List.nil_append] at hb1;obtain⟨ys,my,he',hyl,hye⟩:=m1.out.len;have hsi:s[i]?=some o[i]:=by rw[hj i (Nat.le_refl _)];exact List.getElem?_eq_getElem hlt
   obtain⟨c',hx,hc'⟩:=hye i _ hsi;have hyi:i < ys.length:=(List.getElem?_eq_some_iff.1 hx).1;obtain⟨lo,cap,sp,rfl,hbo,hcap⟩:=my.block (by omega);have ht0:takeN 2 ((rowBox ys sp).drop (i * 2))=some [.d (.str o[i].table),c']:=by
    have h9:=Z5i (sp:=sp) (f:=0) (m:=2) my.1 hx (by simp);simpa[takeN] using h9
   have hln:=Z6m (sp:=sp) my.1 (k:=i) hyi;have hlh:l.1 < h'.ep:=m1.lt l (by simp);have hnl:=ne_new hlh;have hnl':=Z6n hlh;have hlo:lo.1 < h'.ep:=m1.lt lo (by simp[labs]);have hno:=ne_new hlo;have hno':=Z6n hlo;obtain⟨f,hf,hm⟩:=hm.bind;simp[en,e0,e1',e64,e65,e66,hlt,hb1,hyi,hbo,ht0];refine Wait.cut (Plan.then_ [0,1,2,3,4,5,6,7,8,9,10,11] .done) follows (by kernel_rfl) (fun e2 h2=>e2.n=150∧e2.get 0=.one (.ptr l 0)∧e2.get 1=.one (.d (.sl (inp.map Rel.enc)))∧e2.get 64=.one (.mrow lo 0 ys.length cap)∧e2.get 65=.one (.d (.int .i64 (o.length:Int)))∧e2.get 66=.one (.d (.int .i64 (i:Int))) ∧
    e2.get 11=.one (.d (.int .i64 (i:Int)))∧e2.get 12=.one (.ptr (h'.ep,192) 0)∧h2.box (h'.ep,192)=some [.d (.str o[i].table),c']∧e2.get 14=.one (.d (.bool f.2))∧Same h' h2 []∧h'.ep < h2.ep) ?_ ?_
   ·simp[Plan.then_,vcPlan,Z02,Z00,callKind,en,e0,e1',e64,e65,e66,hb1,hnl,hnl'];refine Z0a ((c_schema_FindTable M.src o[i].table).h f hf) (by simp) ?_;simp[Plan.then_,vcPlan,Z02,Z00,callKind,en,e0,e1',e64,e65,e66,hb1,hnl,hnl']
    try refine⟨fun _ _ x=>x,?_⟩
    refine CutK.of ⟨by simp[en],by simp[e0,en],by simp[e1',en],by simp[e64,en],by simp[e65,en],by simp[e66,en],by simp[en],by simp[en],by simp,by simp,?_,by simp⟩
    repeat' first | exact Same.refl | apply Same.next | apply Same.setArr | (refine Same.setBox ?_ (.inr (by simp)))
   ·rintro e2 h2 ⟨en,e0,e1',e64,e65,e66,e11,e12,b12,e14,hs2,hep2⟩;have m2:=m1.frame hs2;have hb2:=m2.box;simp only[mpC,Mp.enc,Stp.enc,List.map_cons,List.map_nil,List.cons_append,List.nil_append] at hb2;have hbo2:=(hs2.2 lo hlo (by simp)).trans hbo;simp[en,e0,e1',e64,e65,e66,e11,e12,e14];refine r_cond hm ?_ ?_<;>clear hm<;>intro hc hm
    ·obtain⟨q,hq,hm⟩:=hm.bind;simp[en,e0,e1',e64,e65,e66,e11,e12,e14];have hle:i * 2+1+1≤(rowBox ys sp).length:=by omega
     refine Wait.cut (Plan.then_ [0,1,2,3,4,5,6,7,8,9,10,11,12,13,14,15,16,17,18] .done) follows (by kernel_rfl) (fun e3 h3=>e3.n=150∧e3.get 0=.one (.ptr l 0)∧e3.get 1=.one (.d (.sl (inp.map Rel.enc)))∧e3.get 64=.one (.mrow lo 0 ys.length cap)∧e3.get 65=.one (.d (.int .i64 (o.length:Int)))∧e3.get 66=.one (.d (.int .i64 (i:Int))) ∧
      MpAt h3 l (.mrow lo 0 ys.length cap) cn { M with inp:=i2,comp:=c2,out:=s.set i ⟨o[i].table,q.2⟩,nc:=n,err:=0 }∧Same h' h3 [lo]) ?_ ?_
     ·simp[Plan.then_,vcPlan,Z02,Z00,callKind,en,e0,e1',e64,e65,e66,e11,e12,e14,hb2,b12];refine Z0a ((c_instance_Table M.src inp o[i].table).h q hq) (by simp) ?_;simp[Plan.then_,vcPlan,Z02,Z00,callKind,en,e0,e1',e64,e65,e66,e11,e12,e14,hb2,b12,hyi,hbo2,hle];have hne1:=m1.nl.1;simp[labs] at hne1
      try refine⟨fun _ _ x=>x,?_⟩
      refine CutK.of ⟨by simp[en],by simp[e0,en],by simp[e1',en],by simp[e64,en],by simp[e65,en],by simp[e66,en],⟨?_,?_,?_,?_,m1.nl⟩,?_⟩
      ·simp[hne1];exact m2.box
      ·exact Zhb my.1 rfl my.2.1 hcap hx rfl he' _
      ·exact m2.nc.frame fun k hkn=>by
        have:=m1.nl.2.2 lo (by simp[labs])
        have:k≠lo:=by rintro rfl;exact this hkn
        simp[this]
      ·intro k hk
       have:=m2.lt k hk
       simp;omega
      ·exact ((hs2.mono (by simp)).next).setBox (.inl (by simp))
     ·rintro e3 h3 ⟨en,e0,e1',e64,e65,e66,m3,hs3⟩;simp[en,e0,e1',e64,e65,e66,hw];exact BackF.of (s.set i ⟨o[i].table,q.2⟩) ⟨⟨by simp[en],by simp[e0],by simp[e1'],by simp[e64],by simp[e65],by simp,m3,hs.trans (hs3.mono (by simp[labs])),by simpa using hsl,fun j hij=>by rw[List.getElem?_set_ne (by omega)];exact hj j (by omega)⟩,hm⟩
    ·simp[en,e0,e1',e64,e65,e66,e11,e12,e14,hw];exact BackF.of s ⟨⟨by simp[en],by simp[e0],by simp[e1'],by simp[e64],by simp[e65],by simp,m2,hs.trans (hs2.mono (by simp)),hsl,fun j hij=>hj j (by omega)⟩,hm⟩
  ·rintro s e h' ⟨en,e0,e1',e64,e65,e66,m1,hs,hsl,hj⟩ hm;simp[en,e0,e1',e64,e65,e66];obtain⟨M2,hM2,hm⟩:=hm.bind;obtain⟨hlen2,hm⟩:=hm.chk;refine Z01 (Zdl _ l co cn _ M2 hM2 m1 _ fun h2 co2 cn2 m2 hs2=>?_);have hb2:=m2.box;simp only[mpC,Mp.enc,Stp.enc,List.map_cons,List.map_nil,List.cons_append,List.nil_append] at hb2;obtain⟨xo,mo,hxo,hol,hoe⟩:=m2.out.len;obtain⟨xn,mn,hxn,hnl,hne2⟩:=m2.nc.len;simp[en,e0,e1',e64,e65,e66];refine Wait.cut (Plan.then_ [0,1,2,3,5,6,7,8,11,4,9,10] .done) follows (by kernel_rfl) (fun e3 h3=>∃ ca,e3.n=150∧e3.get 0=.one (.ptr l 0)∧e3.get 112=.one ca∧e3.get 113=.one (.d (.int .i64 ((xo++xn).length:Int)))∧e3.get 114=.one (.d (.int .i64 0))∧MR h3 2 ca (xo++xn)∧Same h2 h3 []∧(∀ k ∈ labs ca,h2.ep≤k.1∧k.1 < h3.ep)) ?_ ?_
   ·simp[Plan.then_,vcPlan,Z02,Z00,callKind,en,e0,hb2];refine Z01 (Z8a _ co2 xo mo.rd _ fun ca h3 ma hsa hla hba=>?_);simp[Plan.then_,vcPlan,Z02,Z00,callKind,en,e0,hb2];refine⟨hba,?_⟩;refine app_mr Z81 (by kernel_rfl) (by decide) (by decide) ma (MR.rd (mn.frame fun k hk=>hsa.2 k (m2.lt k (by simp[hk])) (by simp))) (by rw[hol,hnl];exact hlen2) fun ca2 h4 ma2 hsa2 hla2=>?_;simp[Plan.then_,vcPlan,Z02,Z00,callKind,en,e0,hb2];refine MR.lenK ma2 ?_;simp[Plan.then_,vcPlan,Z02,Z00,callKind,en,e0,hb2];refine CutK.of ⟨ca2,by simp[en],by simp[e0,en],by simp[en],by simp[en],by simp[en],ma2,hsa.trans' hsa2 fun k hk=>.inr (hla k hk).1,fun k hk=>?_⟩;rcases hla2 k hk with h9 | h9
    ·exact⟨(hla k h9).1,Nat.lt_of_lt_of_le (hla k h9).2 hsa2.1⟩
    ·exact⟨Nat.le_trans hsa.1 h9.1,h9.2⟩
   ·rintro e3 h3 ⟨ca,en,e0,e112,e113,e114,ma,hs3,hla⟩;have m3:=m2.frame hs3;have hL:(xo++xn).length=(M2.out++M2.nc).length:=by simp[hol,hnl]
    have hel2:∀ (i:Nat) (rel:Rel),(M2.out++M2.nc)[i]?=some rel→∃ c',(xo++xn)[i]?=some [.d (.str rel.table),c']∧c'.toD=some (.sl (rel.rows.map (encL GV.enc))):=by
     intro i rel hi;rcases Nat.lt_or_ge i M2.out.length with h9 | h9
     ·rw[List.getElem?_append_left h9] at hi;rw[List.getElem?_append_left (by omega)];exact hoe i rel hi
     ·rw[List.getElem?_append_right h9] at hi;rw[List.getElem?_append_right (by omega),hol];exact hne2 _ rel hi
    generalize M2.out++M2.nc=L at hm hL hel2;generalize xo++xn=X at e113 ma hL hel2;refine Wait.for (xs:=L) (s0:=M2.err) (fun i s e h'=>e.n=150∧e.get 0=.one (.ptr l 0)∧e.get 112=.one ca∧e.get 113=.one (.d (.int .i64 (L.length:Int)))∧e.get 114=.one (.d (.int .i64 (i:Int))) ∧
     MpAt h' l co2 cn2 { M2 with err:=s }∧MR h' 2 ca (X)∧∀ k ∈ labs ca,k≠l∧k.1 < h'.ep) hm ⟨by simp[en],by simp[e0],by simp[e112],by simp[e113,hL],by simp[e114],m3,ma,fun k hk=>⟨fun he=>?_,(hla k hk).2⟩⟩ ?_ ?_
    ·have:=(hla k hk).1
     have:=m2.lt l (by simp)
     rw[he] at *;omega
    ·rintro i s e h' ⟨en,e0,e112,e113,e114,m4,ma4,hla4⟩ hlt hm;have hw:IntKind.i64.wrap ((i:Int)+1)=(i:Int)+1:=IntWalk.i64_in _ (by have:=ma4.2.1;rw[hL] at this;simp at this;omega);have hb4:=m4.box;simp only[mpC,Mp.enc,Stp.enc,List.map_cons,List.map_nil,List.cons_append,List.nil_append] at hb4;obtain⟨c',hx,hc'⟩:=hel2 i _ (List.getElem?_eq_getElem hlt);have hyi:i < X.length:=by omega
     obtain⟨la,cap,sp,rfl,hba,hcap⟩:=ma4.block (by omega);have ht0:takeN 2 ((rowBox X sp).drop (i * 2))=some [.d (.str L[i].table),c']:=by
      have h9:=Z5i (sp:=sp) (f:=0) (m:=2) ma4.1 hx (by simp);simpa[takeN] using h9
     have hlh:l.1 < h'.ep:=m4.lt l (by simp);have hnl4:=ne_new hlh;have hnl4':=Z6n hlh;simp[en,e0,e112,e113,e114,hlt,hyi,hba,ht0];refine Z90 (toD_rd hc').1 (fun hll=>?_);simp[en,e0,e112,e113,e114,hb4,hnl4,hnl4'];have same:∀ (h6:HS) (e6:Env),Same h' h6 []→e6.n=150→e6.get 0=.one (.ptr l 0)→e6.get 112=.one (.mrow la 0 X.length cap)→e6.get 113=.one (.d (.int .i64 (L.length:Int)))→e6.get 114=.one (.d (.int .i64 ((i:Int)+1))) →
       (bif decide (24 < L[i].rows.length) && (s == 0) then 12 else s)=s→BackF (I:=⟨fun s' e h=>(e.n=150∧e.get 0=.one (.ptr l 0)∧e.get 112=.one (.mrow la 0 X.length cap)∧e.get 113=.one (.d (.int .i64 (L.length:Int)))∧e.get 114=.one (.d (.int .i64 ((i+1:Nat):Int))) ∧
     MpAt h l co2 cn2 { M2 with err:=s' }∧MR h 2 (.mrow la 0 X.length cap) X∧∀ k ∈ labs (.mrow la 0 X.length cap),k≠l∧k.1 < h.ep)∧Is (forK (fun (_:Nat) (rel:Rel) (e:Int) next=>next (bif decide (24 < rel.rows.length) && (e == 0) then 12 else e)) (fun e=>bif e != 0 then some ([],[],e) else some (M2.out,M2.nc,0)) (L.drop (i+1)) (i+1) s') r⟩) e6 h6:=by
      intro h6 e6 hs6 en6 g0 g112 g113 g114 heq;rw[heq] at hm;exact BackF.of s ⟨⟨en6,g0,g112,g113,by simpa using g114,m4.frame hs6,ma4.frame fun k hk=>hs6.2 k (hla4 k hk).2 (by simp),fun k hk=>⟨(hla4 k hk).1,Nat.lt_of_lt_of_le (hla4 k hk).2 hs6.1⟩⟩,hm⟩
     by_cases hg:24 < L[i].rows.length
     ·have hgI:(24:Int) < (L[i].rows.length:Int):=by omega
      by_cases hz:s=0
      ·subst hz;simp[hg] at hm;simp[en,e0,e112,e113,e114,hw,hb4,hnl4,hnl4',hgI];refine BackF.of 12 ⟨⟨by simp[en],by simp[e0],by simp[e112],by simp[e113],by simp,⟨by simp[mpC,Mp.enc,Stp.enc],m4.out.frame fun k hk=>?_,m4.nc.frame fun k hk=>?_,fun k hk=>?_,m4.nl⟩,ma4.frame fun k hk=>?_,fun k hk=>⟨(hla4 k hk).1,?_⟩⟩,by simpa using hm⟩
       ·have h1:k≠l:=by rintro rfl;exact m4.nl.1 hk
        have h2:=ne_new (l:=k) (n:=h'.ep) (m4.lt k (by simp[hk]));simp[h1,h2]
       ·have h1:k≠l:=by rintro rfl;exact m4.nl.2.1 hk
        have h2:=ne_new (l:=k) (n:=h'.ep) (m4.lt k (by simp[hk]));simp[h1,h2]
       ·have:=m4.lt k hk
        simp;omega
       ·have h1:=(hla4 k hk).1;have h2:=ne_new (l:=k) (n:=h'.ep) (hla4 k hk).2;simp[h1,h2]
       ·have:=(hla4 k hk).2
        simp;omega
      ·have hzb:(s == 0)=false:=by simpa using hz
       simp[en,e0,e112,e113,e114,hw,hb4,hnl4,hnl4',hgI,hzb];refine same _ _ ?_ ?_ ?_ ?_ ?_ ?_ ?_
       ·repeat' first | exact Same.refl | apply Same.next | apply Same.setArr | (refine Same.setBox ?_ (.inr (by simp)))
       ·simp[en]
       ·simp[e0]
       ·simp[e112]
       ·simp[e113]
       ·simp
       ·rw[hzb,Bool.and_false];rfl
     ·have hgI:¬ (24:Int) < (L[i].rows.length:Int):=by omega
      simp[en,e0,e112,e113,e114,hw,hb4,hnl4,hnl4',hgI];refine same _ _ ?_ ?_ ?_ ?_ ?_ ?_ ?_
      ·repeat' first | exact Same.refl | apply Same.next | apply Same.setArr | (refine Same.setBox ?_ (.inr (by simp)))
      ·simp[en]
      ·simp[e0]
      ·simp[e112]
      ·simp[e113]
      ·simp
      ·simp[hg]
    ·rintro s e h' ⟨en,e0,e112,e113,e114,m4,ma4,hla4⟩ hm;have hb4:=m4.box;simp only[mpC,Mp.enc,Stp.enc,List.map_cons,List.map_nil,List.cons_append,List.nil_append] at hb4;simp[en,e0,e112,e113,e114,hb4];refine r_cond hm ?_ ?_<;>clear hm<;>intro hc hm
     ·obtain rfl:=r_ret hm;simp[en,e0,e112,e113,e114,hb4];refine Wait.cut (Plan.then_ [0,1,2,3,4,5,6] .done) follows (by kernel_rfl) (fun e4 h4=>e4.n=150∧e4.get 6=.one .nil∧e4.get 7=.one .nil∧e4.get 8=.one (.d (.int .i64 s))) ?_ ?_
      ·simp[Plan.then_,vcPlan,Z02,Z00,callKind,en,e0,hb4];exact CutK.of (by simp[en])
      ·rintro e4 h4 ⟨en,e6,e7,e8⟩;simp[retH,resVs,resV,notTup,en,e6,e7,e8];exact hK .nil .nil _ (.data rfl) (.data rfl)
     ·obtain rfl:=r_ret hm;simp[en,e0,e112,e113,e114,hb4];refine Wait.cut (Plan.then_ [0,1,2,3,4,5,6,7,8,9,10] .done) follows (by kernel_rfl) (fun e4 h4=>h4=h'∧e4.n=150∧e4.get 6=.one co2∧e4.get 7=.one cn2∧e4.get 8=.one (.d (.int .i64 0))) ?_ ?_
      ·simp[Plan.then_,vcPlan,Z02,Z00,callKind,en,e0,hb4];exact CutK.of ⟨rfl,by simp[en]⟩
      ·rintro e4 h4 ⟨rfl,en,e6,e7,e8⟩;simp[retH,resVs,resV,notTup,en,e6,e7,e8];exact hK co2 cn2 _ m4.out.frz m4.nc.frz
end
end Go.Proofs.YthiojhcimecdgaaGreatDoor
namespace Go.Proofs
section
open Go.Shelf
def Tryz.laysM171_ren:Go.Shelf.Ren:=⟨fun | 171=>217 | 243=>233 | 246=>254 | 283=>268 | 284=>269 | 285=>270 | 286=>271 | 129=>121 | 317=>279 | 318=>280 | 319=>281 | 320=>282 | 337=>288 | 338=>289 | n=>n,fun | 3=>3 | 9=>9 | 2=>2 | 4=>4 | 171=>313 | 0=>0 | 53=>198 | 37=>227 | 5=>5 | 173=>315 | 212=>322 | 51=>196 | 20=>20 | 213=>323 | 46=>153 | 232=>331 | 233=>332 | n=>n,fun | 17=>1 | 18=>2 | 19=>3 | n=>n⟩
theorem Tryz.laysM171:Go.Proofs.LaysM.n171 Tryz.prog Tryz.laysM171_ren:={
 mixed:=by kernel_rfl
 f129:=Tryz.func121.trans (congrArg some (by kernel_rfl))
 f171:=Tryz.func217.trans (congrArg some (by kernel_rfl))
 f243:=Tryz.func233.trans (congrArg some (by kernel_rfl))
 f246:=Tryz.func254.trans (congrArg some (by kernel_rfl))
 f283:=Tryz.func268.trans (congrArg some (by kernel_rfl))
 f284:=Tryz.func269.trans (congrArg some (by kernel_rfl))
 f285:=Tryz.func270.trans (congrArg some (by kernel_rfl))
 f286:=Tryz.func271.trans (congrArg some (by kernel_rfl))
 f317:=Tryz.func279.trans (congrArg some (by kernel_rfl))
 f318:=Tryz.func280.trans (congrArg some (by kernel_rfl))
 f319:=Tryz.func281.trans (congrArg some (by kernel_rfl))
 f320:=Tryz.func282.trans (congrArg some (by kernel_rfl))
 f337:=Tryz.func288.trans (congrArg some (by kernel_rfl))
 f338:=Tryz.func289.trans (congrArg some (by kernel_rfl))
 t0:=Tryz.underlying0
 a0:=Tryz.isAgg0
 z0:=Tryz.sizeOf0
 v0:=Tryz.zeroValue0
 t2:=Tryz.underlying2
 a2:=Tryz.isAgg2
 z2:=Tryz.sizeOf2
 v2:=Tryz.zeroValue2
 t3:=Tryz.underlying3
 a3:=Tryz.isAgg3
 z3:=Tryz.sizeOf3
 v3:=Tryz.zeroValue3
 t4:=Tryz.underlying4
 a4:=Tryz.isAgg4
 z4:=Tryz.sizeOf4
 v4:=Tryz.zeroValue4
 t5:=Tryz.underlying5
 a5:=Tryz.isAgg5
 z5:=Tryz.sizeOf5
 v5:=Tryz.zeroValue5
 t9:=Tryz.underlying9
 a9:=Tryz.isAgg9
 z9:=Tryz.sizeOf9
 v9:=Tryz.zeroValue9
 t20:=Tryz.underlying20
 a20:=Tryz.isAgg20
 z20:=Tryz.sizeOf20
 v20:=Tryz.zeroValue20
 t37:=Tryz.underlying227
 a37:=Tryz.isAgg227
 z37:=Tryz.sizeOf227
 v37:=Tryz.zeroValue227
 t46:=Tryz.underlying153
 a46:=Tryz.isAgg153
 z46:=Tryz.sizeOf153
 v46:=Tryz.zeroValue153
 t51:=Tryz.underlying196
 a51:=Tryz.isAgg196
 z51:=Tryz.sizeOf196
 v51:=Tryz.zeroValue196
 t53:=Tryz.underlying198
 a53:=Tryz.isAgg198
 z53:=Tryz.sizeOf198
 v53:=Tryz.zeroValue198
 t171:=Tryz.underlying313
 a171:=Tryz.isAgg313
 z171:=Tryz.sizeOf313
 v171:=Tryz.zeroValue313
 t173:=Tryz.underlying315
 a173:=Tryz.isAgg315
 z173:=Tryz.sizeOf315
 v173:=Tryz.zeroValue315
 t212:=Tryz.underlying322
 a212:=Tryz.isAgg322
 z212:=Tryz.sizeOf322
 v212:=Tryz.zeroValue322
 t213:=Tryz.underlying323
 a213:=Tryz.isAgg323
 z213:=Tryz.sizeOf323
 t232:=Tryz.underlying331
 a232:=Tryz.isAgg331
 z232:=Tryz.sizeOf331
 v232:=Tryz.zeroValue331
 t233:=Tryz.underlying332
 a233:=Tryz.isAgg332
 z233:=Tryz.sizeOf332
 v233:=Tryz.zeroValue332
 g17:=by kernel_rfl
 g18:=by kernel_rfl
 g19:=by kernel_rfl
 i0:=by kernel_rfl
 i2:=by kernel_rfl
 i3:=by kernel_rfl
 i4:=by kernel_rfl
 i5:=by kernel_rfl
 i9:=by kernel_rfl
 i20:=by kernel_rfl
 i37:=by kernel_rfl
 i46:=by kernel_rfl
 i51:=by kernel_rfl
 i53:=by kernel_rfl
 i171:=by kernel_rfl
 i173:=by kernel_rfl
 i212:=by kernel_rfl
 i232:=by kernel_rfl
 i233:=by kernel_rfl
 m17:=by kernel_rfl
 m18:=by kernel_rfl
 m19:=by kernel_rfl }
def Tryz.lays190_ren:Go.Shelf.Ren:=⟨fun | 190=>63 | 125=>80 | 258=>79 | 128=>120 | 129=>121 | 302=>111 | 303=>112 | 304=>113 | 305=>114 | 306=>115 | 307=>116 | 308=>117 | 309=>118 | 310=>119 | 333=>143 | 329=>144 | 330=>145 | 334=>146 | 335=>147 | 336=>148 | 344=>171 | n=>n,fun | 31=>49 | 9=>9 | 3=>3 | 46=>153 | 0=>0 | 51=>196 | 53=>198 | 4=>4 | 183=>189 | 182=>188 | 131=>60 | 5=>5 | 218=>220 | 222=>224 | 228=>243 | 229=>244 | n=>n,fun | n=>n⟩
theorem Tryz.lays190:Go.Proofs.Lays.n190 Tryz.prog Tryz.lays190_ren:={
 mixed:=by kernel_rfl
 f125:=Tryz.func80.trans (congrArg some (by kernel_rfl))
 f128:=Tryz.func120.trans (congrArg some (by kernel_rfl))
 f129:=Tryz.func121.trans (congrArg some (by kernel_rfl))
 f190:=Tryz.func63.trans (congrArg some (by kernel_rfl))
 f258:=Tryz.func79.trans (congrArg some (by kernel_rfl))
 f302:=Tryz.func111.trans (congrArg some (by kernel_rfl))
 f303:=Tryz.func112.trans (congrArg some (by kernel_rfl))
 f304:=Tryz.func113.trans (congrArg some (by kernel_rfl))
 f305:=Tryz.func114.trans (congrArg some (by kernel_rfl))
 f306:=Tryz.func115.trans (congrArg some (by kernel_rfl))
 f307:=Tryz.func116.trans (congrArg some (by kernel_rfl))
 f308:=Tryz.func117.trans (congrArg some (by kernel_rfl))
 f309:=Tryz.func118.trans (congrArg some (by kernel_rfl))
 f310:=Tryz.func119.trans (congrArg some (by kernel_rfl))
 f329:=Tryz.func144.trans (congrArg some (by kernel_rfl))
 f330:=Tryz.func145.trans (congrArg some (by kernel_rfl))
 f333:=Tryz.func143.trans (congrArg some (by kernel_rfl))
 f334:=Tryz.func146.trans (congrArg some (by kernel_rfl))
 f335:=Tryz.func147.trans (congrArg some (by kernel_rfl))
 f336:=Tryz.func148.trans (congrArg some (by kernel_rfl))
 f344:=Tryz.func171.trans (congrArg some (by kernel_rfl))
 t0:=Tryz.underlying0
 a0:=Tryz.isAgg0
 z0:=Tryz.sizeOf0
 v0:=Tryz.zeroValue0
 t3:=Tryz.underlying3
 a3:=Tryz.isAgg3
 z3:=Tryz.sizeOf3
 v3:=Tryz.zeroValue3
 t4:=Tryz.underlying4
 a4:=Tryz.isAgg4
 z4:=Tryz.sizeOf4
 v4:=Tryz.zeroValue4
 t5:=Tryz.underlying5
 a5:=Tryz.isAgg5
 z5:=Tryz.sizeOf5
 v5:=Tryz.zeroValue5
 t9:=Tryz.underlying9
 a9:=Tryz.isAgg9
 z9:=Tryz.sizeOf9
 v9:=Tryz.zeroValue9
 t31:=Tryz.underlying49
 a31:=Tryz.isAgg49
 z31:=Tryz.sizeOf49
 v31:=Tryz.zeroValue49
 t46:=Tryz.underlying153
 a46:=Tryz.isAgg153
 z46:=Tryz.sizeOf153
 v46:=Tryz.zeroValue153
 t51:=Tryz.underlying196
 a51:=Tryz.isAgg196
 z51:=Tryz.sizeOf196
 v51:=Tryz.zeroValue196
 t53:=Tryz.underlying198
 a53:=Tryz.isAgg198
 z53:=Tryz.sizeOf198
 v53:=Tryz.zeroValue198
 t131:=Tryz.underlying60
 a131:=Tryz.isAgg60
 z131:=Tryz.sizeOf60
 v131:=Tryz.zeroValue60
 t182:=Tryz.underlying188
 a182:=Tryz.isAgg188
 z182:=Tryz.sizeOf188
 v182:=Tryz.zeroValue188
 t183:=Tryz.underlying189
 a183:=Tryz.isAgg189
 z183:=Tryz.sizeOf189
 v183:=Tryz.zeroValue189
 t218:=Tryz.underlying220
 a218:=Tryz.isAgg220
 z218:=Tryz.sizeOf220
 v218:=Tryz.zeroValue220
 t222:=Tryz.underlying224
 a222:=Tryz.isAgg224
 z222:=Tryz.sizeOf224
 v222:=Tryz.zeroValue224
 t228:=Tryz.underlying243
 a228:=Tryz.isAgg243
 z228:=Tryz.sizeOf243
 v228:=Tryz.zeroValue243
 t229:=Tryz.underlying244
 a229:=Tryz.isAgg244
 z229:=Tryz.sizeOf244
 v229:=Tryz.zeroValue244 }
def Tryz.lays194_ren:Go.Shelf.Ren:=⟨fun | 194=>64 | n=>n,fun | 31=>49 | 9=>9 | 3=>3 | 4=>4 | 0=>0 | n=>n,fun | n=>n⟩
theorem Tryz.lays194:Go.Proofs.Lays.n194 Tryz.prog Tryz.lays194_ren:={
 mixed:=by kernel_rfl
 f194:=Tryz.func64.trans (congrArg some (by kernel_rfl))
 t0:=Tryz.underlying0
 a0:=Tryz.isAgg0
 z0:=Tryz.sizeOf0
 v0:=Tryz.zeroValue0
 t3:=Tryz.underlying3
 a3:=Tryz.isAgg3
 z3:=Tryz.sizeOf3
 v3:=Tryz.zeroValue3
 t4:=Tryz.underlying4
 a4:=Tryz.isAgg4
 z4:=Tryz.sizeOf4
 v4:=Tryz.zeroValue4
 t9:=Tryz.underlying9
 a9:=Tryz.isAgg9
 z9:=Tryz.sizeOf9
 v9:=Tryz.zeroValue9
 t31:=Tryz.underlying49
 a31:=Tryz.isAgg49
 z31:=Tryz.sizeOf49
 v31:=Tryz.zeroValue49 }
end
end Go.Proofs
namespace Go.Proofs.YthiojhcimecdgaaGreatDoor
section
open Go Go.Am
open Go.RowKit (Below)
theorem PSpec.of_calls {P:Program} {f:FuncId} {av:List AV} {r:RV} {v:Value} (hok:FnOK P f) (hr:∀ m,RepRV m (fun _=>(none,0)) r v) (hf:r.fr=[])
  (h:∀ (w:World) (m t:CM) (vals:Array Value),GOK w→Zal m t av vals→Calls P f vals w fun e w'=>e=.returned v∧Below w.heap.size w w'):PSpec P f av r:=by
 refine⟨hok,fun w m t vals hg hm ht hargs=>(h w m t vals hg hargs).mono ?_⟩;rintro e w' ⟨rfl,hb⟩;refine⟨v,m,fun _=>(none,0),rfl,Sub.refl _,fun _ _ _ _ h=>h,hm.of_heap fun b o v hv=>hb.block b (hm.lt hv),hb,hr m,?_⟩;rw[hf];exact⟨fun x hx=>by simp at hx,fun x hx=>by simp at hx⟩
theorem Zp0 {m t:CM} {av:List AV} {a:AV} {vals:Array Value} {u:Value} (h:Zal m t [a] vals) (hu:∀ v,RepAV m t a v→v=u):vals=#[u]:=by
 obtain⟨hs,hg⟩:=h;obtain⟨u0,h0,r0⟩:=hg 0 _ rfl
 have:=hu u0 r0
 subst this;apply Array.ext_getElem?;intro i
 match i with
 | 0=>simpa using h0
 | i+1=>rw[Array.getElem?_eq_none (by simp at hs;omega)];simp
theorem tab_of {P:Program} {w:World} {nm:String} {g:Nat} {zs:List Int} (h:∃ T l,w.heap[g]?=some (.cells (zs.map fun z=>Value.int .u64 z).toArray T l)) (hn:P.globalNamed nm=some g):Lib.TabIs P w nm .u64 zs:=by
 obtain⟨T,l,q⟩:=h;unfold Lib.TabIs World.var?;rw[hn];simp[q]
def Z67 (i:Int):Option ByteArray:=chkK (okI i) (some ⟨(Lib.itoa i).toArray⟩)
theorem Za1 (i:Int) (r:ByteArray) (hm:Is (Z67 i) r):PSpec Tryz.prog 217 [.one (.d (.int .i64 i))] (.one (.d (.str r))):=by
 obtain⟨hi,hm⟩:=hm.chk;obtain rfl:=r_ret hm;refine PSpec.of_calls ⟨_,Tryz.func217,by kernel_rfl,by kernel_rfl⟩ (fun m=>RepD.str _) rfl fun w m t vals hg hargs=>?_;obtain rfl:=Zp0 (av:=[]) (u:=.int .i64 i) hargs fun v hv=>RepD.int_inv (m:=m) hv;refine (Any.strconv_Itoa Tryz.laysM171 i hi.1 hi.2 w (tab_of hg.2.1 (by kernel_rfl))).mono ?_;rintro e w' ⟨rfl,k,os,rfl⟩;exact⟨rfl,Lib.below_grow _ _ (Nat.le_refl _) _ _⟩
end
section
open Go.Am
instance i_strconv_Itoa (i:Int):Con (Z67 i) Tryz.prog 217 [.one (.d (.int .i64 i))] (fun r=>.one (.d (.str r))):=⟨fun r hm=>Za1 i r hm⟩
def Z5v (t:Tbl) (columns:List Col):Option Tbl:=
 (forK (fun (i5:Nat) (x5:Int) (s5:(List Col) × (List Int)) next_5=>(getK t.cols x5 fun x6=>(bindK (Z67 (i5:Int)) fun v8=>(chkK (({ data:=#[107] }:ByteArray).size+v8.size≤9223372036854775807) (appK2 s5.1 [(Col.mk (({ data:=#[107] }:ByteArray)++v8) x6.kind x6.nullable)] fun _=>(appK2 s5.2 [(i5:Int)] fun _=>(next_5 ((s5.1++[(Col.mk (({ data:=#[107] }:ByteArray)++v8) x6.kind x6.nullable)]),(s5.2++[(i5:Int)]))))))))) (fun (s5:(List Col) × (List Int))=>(appK2 s5.1 columns fun _=>(some (Tbl.mk t.name (s5.1++columns) s5.2)))) t.pk 0 ([],[]))
theorem Zbb (t:Tbl) (columns:List Col) (r:Tbl) (hm:Is (Z5v t columns) r):PSpec Tryz.prog 196 [.agg t.enc,.one (.d (.sl (columns.map Col.enc)))] (.agg (r.enc.map RC.d)):=by
 unfold Z5v at hm;refine PSpec.of_vc Tryz.func196 rfl (by kernel_rfl) (n:=48) rfl rfl (by simp) ?_
 try simp[*]
 intro hl4;replace hl4:t.pk.length≤2097152:=by simpa using hl4
 refine Wait.for (xs:=t.pk) (s0:=([],[])) (fun i5 s5 e5 h5=>∃ c5_0 c5_1:C,(e5.n=48∧e5.get 1=.one (.d (.sl (columns.map Col.enc)))∧e5.get 2=.one (.ptr (0,32) 0)∧e5.get 4=.one (.ptr (1,64) 0)∧e5.get 5=.one (.ptr (2,80) 0)∧e5.get 13=.one (.d (.sl (t.pk.map encI)))∧e5.get 14=.one (.d (.int .i64 (t.pk.length:Int)))∧e5.get 15=.one (.d (.int .i64 (i5:Int)))∧h5.box (0,32)=some [.d (.str t.name),.d (.sl (t.cols.map Col.enc)),.d (.sl (t.pk.map encI))]∧h5.box (1,64)=some [.d (.str ByteArray.empty),.nil,.nil]∧h5.box (2,80)=some [.d (.str t.name),c5_0,c5_1]∧Grows h5 3 c5_0 (s5.1.map Col.enc)∧Grows h5 1 c5_1 (s5.2.map encI))∧Apart c5_0 c5_1) hm ⟨.nil,.nil,by simp (maxDischargeDepth:=20) [*],(by simp)⟩ ?_ ?_
 ·rintro i5 s5 e5 h5 ⟨c5_0,c5_1,⟨hn5,h5_1,h5_2,h5_4,h5_5,h5_13,h5_14,h5_15,hb5_b1,hb5_b2,hb5_b3,gc5_0,gc5_1⟩,apc5_0_c5_1⟩ hlt5 hm;have hlc5_0:=gc5_0.list;have hdc5_0:=gc5_0.toD;have hac5_0:=gc5_0.toA;have huc5_0:=gc5_0.useUp_arr;have hlc5_1:=gc5_1.list;have hdc5_1:=gc5_1.toD;have hac5_1:=gc5_1.toA;have huc5_1:=gc5_1.useUp_arr;have hw5:IntKind.i64.wrap ((i5:Int)+1)=(i5:Int)+1:=IntWalk.i64_in _ (by omega)
  try simp[*]
  replace hm:=hm.get;obtain⟨x6,h0x6,hxx6,hm⟩:=hm
  try simp[*]
  refine r_call (av:=[.one (.d (.int .i64 (i5:Int)))]) hm (fun v hv=>Za1 _ v hv) (by simp[*]) ?_;clear hm;intro v8 hvv8 hm
  try simp[*]
  replace hm:=hm.chk;obtain⟨hw9,hm⟩:=hm;have hw92:=hw9
  try simp at hw92
  try simp[*]
  refine r_app (xs:=s5.1) (ys:=[(Col.mk (({ data:=#[107] }:ByteArray)++v8) x6.kind x6.nullable)]) (enc:=Col.enc) hm Z8r (by first | exact Grows.nil | (simp (maxDischargeDepth:=20) [*];done) | (simp (maxDischargeDepth:=20) [*];refine⟨?_,by omega⟩;intro hq;subst hq;simp at hz2<;>omega)) (by simp[*]) (by decide) (by decide) (fun _=>rfl) ?_;clear hm;intro hl11 hm g10
  try simp[*]
  refine r_app (xs:=s5.2) (ys:=[(i5:Int)]) (enc:=encI) hm Za5 (by first | exact Grows.nil | (simp (maxDischargeDepth:=20) [*];done) | (simp (maxDischargeDepth:=20) [*];refine⟨?_,by omega⟩;intro hq;subst hq;simp at hz2<;>omega)) (by simp[*]) (by decide) (by decide) (fun _=>rfl) ?_;clear hm;intro hl13 hm g12
  try simp[*]
  exact BackF.of ((s5.1++[(Col.mk (({ data:=#[107] }:ByteArray)++v8) x6.kind x6.nullable)]),(s5.2++[(i5:Int)])) ⟨⟨.own (h5.ep+3,528) ((s5.1++[(Col.mk (({ data:=#[107] }:ByteArray)++v8) x6.kind x6.nullable)]).map Col.enc),.own (h5.ep+5,624) ((s5.2++[(i5:Int)]).map encI),by simp (maxDischargeDepth:=20) [*],(by simp)⟩,hm⟩
 ·rintro s5 e5 h5 ⟨c5_0,c5_1,⟨hn5,h5_1,h5_2,h5_4,h5_5,h5_13,h5_14,h5_15,hb5_b1,hb5_b2,hb5_b3,gc5_0,gc5_1⟩,apc5_0_c5_1⟩ hm;have hlc5_0:=gc5_0.list;have hdc5_0:=gc5_0.toD;have hac5_0:=gc5_0.toA;have huc5_0:=gc5_0.useUp_arr;have hlc5_1:=gc5_1.list;have hdc5_1:=gc5_1.toD;have hac5_1:=gc5_1.toA;have huc5_1:=gc5_1.useUp_arr
  try simp[*]
  refine r_app (xs:=s5.1) (ys:=columns) (enc:=Col.enc) hm Z8r (by first | exact Grows.nil | (simp (maxDischargeDepth:=20) [*];done) | (simp (maxDischargeDepth:=20) [*];refine⟨?_,by omega⟩;intro hq;subst hq;simp at hz2<;>omega)) (by simp[*]) (by decide) (by decide) (fun _=>rfl) ?_;clear hm;intro hl15 hm g14
  try simp[*]
  obtain rfl:=r_ret hm;exact ret0 (vs:=[_]) (by simp[*];try exact rfl) (by simp[*])
def Z40 (c:Col) (name:ByteArray):Option Col:=
 (some (Col.mk name c.kind c.nullable))
instance c_complement_renamed (c:Col) (name:ByteArray):Con (Z40 c name) Tryz.prog 197 [.agg c.enc,.one (.d (.str name))] (fun r=>.agg (r.enc.map RC.d)):=by
 unfold Z40;exact go 8 Tryz.func197 rfl (by kernel_rfl) rfl rfl (by simp)
def Z6f (columns:List Col):Option ((List Col)):=
 (forK (fun (i2:Nat) (x2:Col) (s2:(List Col)) next_2=>(bindK (Z67 (i2:Int)) fun v4=>(chkK (({ data:=#[98] }:ByteArray).size+v4.size≤9223372036854775807) (bindK (Z40 x2 (({ data:=#[98] }:ByteArray)++v4)) fun v6=>(appK2 s2 [v6] fun _=>(next_2 (s2++[v6]))))))) (fun (s2:(List Col))=>(some s2)) columns 0 [])
instance c_complement_numbered (columns:List Col):Con (Z6f columns) Tryz.prog 198 [.one (.d (.sl (columns.map Col.enc)))] (fun r=>.one (.d (.sl (r.map Col.enc)))):=by
 unfold Z6f;have l1:LH (σ:=(List Col)) 8 [6,7] [.g 3 3 (fun s=>s.map Col.enc)]:=.intro;have p1:PH [5] (Plan.then_ [0,1,2,3,4,5,6,7,8] .done):=.intro;exact go 23 Tryz.func198 rfl (by kernel_rfl) rfl rfl (by simp)
set_option maxHeartbeats 2000000
def Z4t (s_:Sch) (target:Sch) (step:Stp):Option Tbl:=
 (bif (step.kind == 10) then none else (bindK (Z05 s_ step.table) fun v7=>(getK s_.tables v7.1 fun x8=>(bif (step.kind == 11) then none else (bindK (Z05 target step.table) fun v12=>(getK target.tables v12.1 fun x13=>(chkK (okI ((x13.cols.length:Int) - 1)) (getK x13.cols ((x13.cols.length:Int) - 1) fun x16=>(bindK (Z08 x8 step.column) fun v18=>(bif (step.kind == 1) then (bindK (Z40 x16 ({ data:=#[111,108,100] })) fun v20=>(bindK (Z5v x8 [v20]) fun v21=>(some v21))) else none))))))))))
theorem Zba (s_:Sch) (target:Sch) (step:Stp) (r:Tbl) (hm:Is (Z4t s_ target step) r):PSpec Tryz.prog 168 [.agg s_.enc,.agg target.enc,.agg step.enc] (.agg (r.enc.map RC.d)):=by
 unfold Z4t at hm;refine PSpec.of_vc Tryz.func168 rfl (by kernel_rfl) (n:=166) rfl rfl (by simp) ?_
 try simp[*]
 refine r_cond hm ?_ ?_<;>clear hm<;>intro hc5 hm
 ·cases hm
 ·try simp[*]
  refine r_call (av:=[.agg s_.enc,.one (.d (.str step.table))]) hm (fun v hv=>c_schema_FindTable _ _ v hv) (by simp[*]) ?_;clear hm;intro v7 hvv7 hm
  try simp[*]
  replace hm:=hm.get;obtain⟨x8,h0x8,hxx8,hm⟩:=hm
  try simp[*]
  refine r_cond hm ?_ ?_<;>clear hm<;>intro hc10 hm
  ·cases hm
  ·try simp[*]
   refine r_call (av:=[.agg target.enc,.one (.d (.str step.table))]) hm (fun v hv=>c_schema_FindTable _ _ v hv) (by simp[*]) ?_;clear hm;intro v12 hvv12 hm
   try simp[*]
   replace hm:=hm.get;obtain⟨x13,h0x13,hxx13,hm⟩:=hm
   try simp[*]
   intro hl14;replace hl14:x13.cols.length≤2097152:=by simpa using hl14
   replace hm:=hm.chk;obtain⟨hw15,hm⟩:=hm;replace hw15:=Zkx hw15
   try simp[*]
   replace hm:=hm.get;obtain⟨x16,h0x16,hxx16,hm⟩:=hm
   try simp at h0x16
   try simp at hxx16
   try simp[*]
   refine r_call (av:=[.agg x8.enc,.one (.d (.str step.column))]) hm (fun v hv=>c_schema_FindColumn _ _ v hv) (by simp[*]) ?_;clear hm;intro v18 hvv18 hm
   try simp[*]
   refine r_cond hm ?_ ?_<;>clear hm<;>intro hc19 hm
   ·try simp[*]
    refine Wait.of (SWP.draw (Plan.then_ [0,1,2,3,4,5] .done) follows (by kernel_rfl) ?_)
    try simp[*,Plan.then_,vcPlan,Z02,Z00,callKind]
    refine r_call (av:=[.agg x16.enc,.one (.d (.str ({ data:=#[111,108,100] })))]) hm (fun v hv=>c_complement_renamed _ _ v hv) (by simp[*]) ?_;clear hm;intro v20 hvv20 hm
    try simp[*,Plan.then_,vcPlan,Z02,Z00,callKind]
    try refine⟨fun (_:Lab) (_:List C) hl=>hl,?_⟩
    refine r_call (av:=[.agg x8.enc,.one (.d (.sl ([v20].map Col.enc)))]) hm (fun v hv=>Zbb _ _ v hv) (by simp[*]) ?_;clear hm;intro v21 hvv21 hm
    try simp[*,Plan.then_,vcPlan,Z02,Z00,callKind]
    try refine⟨fun (_:Lab) (_:List C) hl=>hl,?_⟩
    obtain rfl:=r_ret hm;exact ret0 (vs:=[_]) (by simp[*];try exact rfl) (by simp[*])
   ·cases hm
instance i_complement_table (s_:Sch) (target:Sch) (step:Stp):Con (Z4t s_ target step) Tryz.prog 168 [.agg s_.enc,.agg target.enc,.agg step.enc] (fun r=>.agg (r.enc.map RC.d)):=⟨fun r hm=>Zba s_ target step r hm⟩
def Z5n (s_:Sch) (step:Stp):Option (Sch × Int):=
 (bindK (Z1o s_ step) fun v4=>(bif (v4.2 != 0) then (some ((Sch.mk [] [] []),v4.2)) else (bif (step.kind == 13) then (bindK (Z15 s_) fun v8=>(some ((Sch.mk v8.tables [] []),0))) else (bif (step.kind == 14) then (bindK (Z15 s_) fun v10=>(some ((Sch.mk v10.tables [] []),0))) else (bif (step.kind == 15) then (bindK (Z15 s_) fun v12=>(some ((Sch.mk v12.tables [] []),0))) else (bif (step.kind == 16) then (bindK (Z15 s_) fun v14=>(some ((Sch.mk v14.tables [] []),0))) else (bif (step.kind == 3) then (some ((Sch.mk [] [] []),0)) else (bif (step.kind == 4) then (some ((Sch.mk [] [] []),0)) else (bif (step.kind == 9) then (some ((Sch.mk [] [] []),0)) else (bindK (Z4t s_ v4.1 step) fun v18=>(some ((Sch.mk [v18] [] []),0))))))))))))
instance c_complement_Schema (s_:Sch) (step:Stp):Con (Z5n s_ step) Tryz.prog 138 [.agg s_.enc,.agg step.enc] (fun r=>.tup [.agg (r.1.enc.map RC.d),.one (.d (.int .i64 r.2))]):=by
 unfold Z5n;exact go 40 Tryz.func138 rfl (by kernel_rfl) rfl rfl (by simp)
def Z4k (s_:Sch) (step:Stp):Option (Sch × Sch × Int):=
 (bindK (Z1o s_ step) fun v5=>(bif (v5.2 != 0) then (some ((Sch.mk [] [] []),(Sch.mk [] [] []),v5.2)) else (bindK (Z5n s_ step) fun v8=>(some (v5.1,v8.1,v8.2)))))
theorem Z7q (s_:Sch) (step:Stp) (r:Sch × Sch × Int) (hm:Is (Z4k s_ step) r):PSpec Tryz.prog 98 [.agg s_.enc,.agg step.enc] (.tup [.agg (r.1.enc.map RC.d),.agg (r.2.1.enc.map RC.d),.one (.d (.int .i64 r.2.2))]):=by
 unfold Z4k at hm;refine PSpec.of_vc Tryz.func98 rfl (by kernel_rfl) (n:=30) rfl rfl (by simp) ?_
 try simp[*]
 refine r_call (av:=[.agg s_.enc,.agg step.enc]) hm (fun v hv=>Z57 _ _ v hv) (by simp[*]) ?_;clear hm;intro v5 hvv5 hm
 try simp[*]
 refine r_cond hm ?_ ?_<;>clear hm<;>intro hc7 hm
 ·try simp[*]
  obtain rfl:=r_ret hm;exact ret0 (vs:=[_,_,_]) (by simp[*];try exact⟨rfl,rfl,rfl⟩) (by simp[*])
 ·try simp[*]
  refine r_call (av:=[.agg s_.enc,.agg step.enc]) hm (fun v hv=>c_complement_Schema _ _ v hv) (by simp[*]) ?_;clear hm;intro v8 hvv8 hm
  try simp[*]
  refine Wait.cut (Plan.then_ [0,2] (.two 1 3 (Plan.then_ [3,4,5] .done) (Plan.then_ [1,4,5] .done))) follows (by kernel_rfl) (fun e10 h10=>e10.n=30∧e10.get 4=.one (.ptr (2,64) 0)∧e10.get 5=.one (.ptr (3,80) 0)∧e10.get 6=.one (.d (.int .i64 v8.2))∧h10.box (2,64)=some [.d (.sl (v5.1.tables.map Tbl.enc)),.d (.sl (v5.1.fks.map Fk.enc)),.d (.sl (v5.1.cons.map Cons.enc))]∧h10.box (3,80)=some [.d (.sl (v8.1.tables.map Tbl.enc)),.d (.sl (v8.1.fks.map Fk.enc)),.d (.sl (v8.1.cons.map Cons.enc))]) ?_ ?_
  ·try simp[*,Plan.then_,vcPlan,Z02,Z00,callKind]
   repeat' (first | with_reducible refine And.intro ?_ ?_ | (refine CutK.of ?_;simp[*];done))
  ·rintro e10 h10 ⟨hn10,h10_4,h10_5,h10_6,hb10_b3,hb10_b4⟩
   try simp[*]
   obtain rfl:=r_ret hm;exact ret0 (vs:=[_,_,_]) (by simp[*];try exact⟨rfl,rfl,rfl⟩) (by simp[*])
instance i_lens_schemas (s_:Sch) (step:Stp):Con (Z4k s_ step) Tryz.prog 98 [.agg s_.enc,.agg step.enc] (fun r=>.tup [.agg (r.1.enc.map RC.d),.agg (r.2.1.enc.map RC.d),.one (.d (.int .i64 r.2.2))]):=⟨fun r hm=>Z7q s_ step r hm⟩
def Z53 (step:Stp):Option Stp:=
 (bindK (Z2w step.cols) fun v3=>(bindK (Z3h step.newTable) fun v4=>(bindK (Z2w step.fk.cols) fun v5=>(some (Stp.mk step.kind step.table step.other step.column step.newName step.type v3 step.op step.value v4 step.cons (Fk.mk step.fk.table v5 step.fk.ref))))))
instance c_evolution_Clone (step:Stp):Con (Z53 step) Tryz.prog 137 [.agg step.enc] (fun r=>.agg (r.enc.map RC.d)):=by
 unfold Z53;exact go 18 Tryz.func137 rfl (by kernel_rfl) rfl rfl (by simp)
end
section
open Go Go.Am
def Z7j (S:Sch) (step:Stp) (source comp:List Rel):Option (List Rel × List Rel × Int):=
 bindK (Z4k S step) fun q=>bif q.2.2 != 0 then some ([],[],q.2.2) else
 bindK (Z53 step) fun st=>bindK (Z15 S) fun S2=>Z9h ⟨st,true,S2,q.1,q.2.1,[],[],[],[],0⟩ source comp
def Z74 (S:Sch) (step:Stp) (target comp:List Rel):Option (List Rel × List Rel × Int):=
 bindK (Z4k S step) fun q=>bif q.2.2 != 0 then some ([],[],q.2.2) else
 bindK (Z53 step) fun st=>bindK (Z15 S) fun S2=>Z9h ⟨st,false,q.1,S2,q.2.1,[],[],[],[],0⟩ target comp
theorem Zeg (S:Sch) (step:Stp) (source comp:List Rel) (r:List Rel × List Rel × Int) (hm:Is (Z7j S step source comp) r) :
  PSpec Tryz.prog 140 [.agg S.enc,.agg step.enc,.one (.d (.sl (source.map Rel.enc))),.one (.d (.sl (comp.map Rel.enc)))] (.tup [.one (.d (.sl (r.1.map Rel.enc))),.one (.d (.sl (r.2.1.map Rel.enc))),.one (.d (.int .i64 r.2.2))]):=by
 unfold Z7j at hm;refine PSpec.of_heap ?_;show HSpec _ _ [.agg (S.enc.map C.d),.agg (step.enc.map C.d),.one (.d (.sl (source.map Rel.enc))),.one (.d (.sl (comp.map Rel.enc)))] HS.init _;refine HSpec.of_vc Tryz.func140 rfl (by kernel_rfl) (n:=40) rfl rfl (by simp) ?_;obtain⟨q,hq,hm⟩:=hm.bind;simp;refine Z0a (Z7q S step q hq) (by simp) ?_;simp;refine r_cond hm ?_ ?_<;>clear hm<;>intro hc hm
 ·obtain rfl:=r_ret hm;simp[retH,resVs,resV,notTup];exact⟨.data rfl,.data rfl,.data rfl,trivial⟩
 ·obtain⟨st,hst,hm⟩:=hm.bind;obtain⟨S2,hS2,hm⟩:=hm.bind;simp;refine Wait.cut (Plan.then_ [0,2,4,5,1,3,6,7,8] .done) follows (by kernel_rfl) (fun e1 h1=>∃ l,e1.n=40∧e1.get 2=.one (.d (.sl (source.map Rel.enc)))∧e1.get 3=.one (.d (.sl (comp.map Rel.enc)))∧e1.get 14=.one (.ptr l 0)∧l.1 < h1.ep∧h1.box l=some (mpIn ⟨st,true,S2,q.1,q.2.1,[],[],[],[],0⟩)) ?_ ?_
  ·simp[Plan.then_,vcPlan,Z02,Z00,callKind];refine Z0a ((c_evolution_Clone step).h st hst) (by simp) ?_;simp[Plan.then_,vcPlan,Z02,Z00,callKind]
   try refine⟨fun _ _ x=>x,?_⟩
   refine Z0a (Z5h S S2 hS2) (by simp) ?_;simp[Plan.then_,vcPlan,Z02,Z00,callKind];refine⟨fun _ _ x=>x,?_⟩
   try simp[Plan.then_,vcPlan,Z02,Z00,callKind]
   exact CutK.of ⟨(7,512),by simp,by simp,by simp,by simp,by simp,by simp[mpIn,Stp.enc]⟩
  ·rintro e1 h1 ⟨l,en,e2,e3,e14,hl,hb⟩;simp[en,e2,e3,e14];refine Z01 (Zer _ l _ source comp r hb hl hm _ fun c1 c2 h2 f1 f2=>?_);simp[retH,resVs,resV,notTup,en];exact⟨f1,f2,.data rfl,trivial⟩
theorem Zdy (S:Sch) (step:Stp) (target comp:List Rel) (r:List Rel × List Rel × Int) (hm:Is (Z74 S step target comp) r) :
  PSpec Tryz.prog 141 [.agg S.enc,.agg step.enc,.one (.d (.sl (target.map Rel.enc))),.one (.d (.sl (comp.map Rel.enc)))] (.tup [.one (.d (.sl (r.1.map Rel.enc))),.one (.d (.sl (r.2.1.map Rel.enc))),.one (.d (.int .i64 r.2.2))]):=by
 unfold Z74 at hm;refine PSpec.of_heap ?_;show HSpec _ _ [.agg (S.enc.map C.d),.agg (step.enc.map C.d),.one (.d (.sl (target.map Rel.enc))),.one (.d (.sl (comp.map Rel.enc)))] HS.init _;refine HSpec.of_vc Tryz.func141 rfl (by kernel_rfl) (n:=40) rfl rfl (by simp) ?_;obtain⟨q,hq,hm⟩:=hm.bind;simp;refine Z0a (Z7q S step q hq) (by simp) ?_;simp;refine r_cond hm ?_ ?_<;>clear hm<;>intro hc hm
 ·obtain rfl:=r_ret hm;simp[retH,resVs,resV,notTup];exact⟨.data rfl,.data rfl,.data rfl,trivial⟩
 ·obtain⟨st,hst,hm⟩:=hm.bind;obtain⟨S2,hS2,hm⟩:=hm.bind;simp;refine Wait.cut (Plan.then_ [0,2,3,5,1,4,6,7,8] .done) follows (by kernel_rfl) (fun e1 h1=>∃ l,e1.n=40∧e1.get 2=.one (.d (.sl (target.map Rel.enc)))∧e1.get 3=.one (.d (.sl (comp.map Rel.enc)))∧e1.get 14=.one (.ptr l 0)∧l.1 < h1.ep∧h1.box l=some (mpIn ⟨st,false,q.1,S2,q.2.1,[],[],[],[],0⟩)) ?_ ?_
  ·simp[Plan.then_,vcPlan,Z02,Z00,callKind];refine Z0a ((c_evolution_Clone step).h st hst) (by simp) ?_;simp[Plan.then_,vcPlan,Z02,Z00,callKind]
   try refine⟨fun _ _ x=>x,?_⟩
   refine Z0a (Z5h S S2 hS2) (by simp) ?_;simp[Plan.then_,vcPlan,Z02,Z00,callKind];refine⟨fun _ _ x=>x,?_⟩
   try simp[Plan.then_,vcPlan,Z02,Z00,callKind]
   exact CutK.of ⟨(7,512),by simp,by simp,by simp,by simp,by simp,by simp[mpIn,Stp.enc]⟩
  ·rintro e1 h1 ⟨l,en,e2,e3,e14,hl,hb⟩;simp[en,e2,e3,e14];refine Z01 (Zer _ l _ target comp r hb hl hm _ fun c1 c2 h2 f1 f2=>?_);simp[retH,resVs,resV,notTup,en];exact⟨f1,f2,.data rfl,trivial⟩
def Z4b (h:HS) (c:C) (ds:List D):Prop:=∃ rs,MR h 1 c (ones rs)∧rs.map C.toD=ds.map some
theorem Z4b.frame {h h':HS} {c:C} {ds:List D} (m:Z4b h c ds) (hb:∀ l ∈ labs c,h'.box l=h.box l):Z4b h' c ds:=by
 obtain⟨rs,hm,he⟩:=m;exact⟨rs,hm.frame hb,he⟩
theorem Z4b.frz {h:HS} {c:C} {ds:List D} (m:Z4b h c ds):Frz h c (.sl (ds.map fun d=>[d])):=by
 obtain⟨rs,hm,he⟩:=m;have hl:rs.length=ds.length:=by have:=congrArg List.length he;simpa using this
 refine hm.frz (by simp[ones,hl]) (fun t ht=>by obtain⟨y,_,rfl⟩:=List.mem_map.1 ht;rfl) fun i x t hx ht=>?_;simp only[ones,List.getElem?_map] at hx ht;have h9:=congrArg (fun z=>z[i]?) he;simp only[List.getElem?_map] at h9;cases hr:rs[i]? with
 | none=>rw[hr] at hx;cases hx
 | some r=>
   cases hd:ds[i]? with
   | none=>rw[hd] at ht;cases ht
   | some d=>
     rw[hr] at hx h9;rw[hd] at ht h9;cases hx;cases ht;exact⟨.data (by simpa using h9),trivial⟩
theorem Z4b.at {h:HS} {c:C} {ds:List D} (m:Z4b h c ds) {i:Nat} (hi:i < ds.length):∃ lr cap bs,c=.mrow lr 0 ds.length cap∧h.box lr=some bs∧i+1≤bs.length∧(∃ x,takeN 1 (bs.drop i)=some [x]∧some (x.toD)=some (ds[i]?)) ∧
  ∀ (H:HS) (x:C) (d:D),x.toD=some d→Z4b (H.setBox lr (Z03 bs i [x])) c (ds.set i d):=by
 obtain⟨rs,hm,he⟩:=m;have hl:rs.length=ds.length:=by have:=congrArg List.length he;simpa using this
 obtain⟨lr,cap,sp,hc,hb,hcap⟩:=hm.block (by simp[ones];omega);rw[Zb2] at hb hcap;simp only[ones,List.length_map,hl] at hc;refine⟨lr,cap,rs++sp,hc,hb,by simp;omega,⟨rs[i]'(by omega),?_,?_⟩,fun H x d hx=>⟨rs.set i x,?_,?_⟩⟩
 ·have hd:(rs++sp).drop i=rs[i]'(by omega)::(rs.drop (i+1)++sp):=by
   rw[List.drop_append_of_le_length (by omega),List.drop_eq_getElem_cons (by omega)];rfl
  rw[hd];simp[takeN]
 ·have h9:=congrArg (fun z=>z[i]?) he;simp only[List.getElem?_map,List.getElem?_eq_getElem (show i < rs.length by omega),List.getElem?_eq_getElem hi,Option.map_some,Option.some.injEq] at h9;rw[h9,List.getElem?_eq_getElem hi]
 ·have:=Zif (h:=H) (l:=lr) (cap:=cap) (i:=i) (rs:=rs) (sp:=sp) (x:=x) hcap (by have:=hm.2.1;simpa[ones] using this) (by omega)
  rw[hl] at this;rw[hc];exact this
 ·rw[List.map_set,List.map_set,he,hx]
theorem Z4b.make {h:HS} {l:Lab} {n:Nat} {zc:C} {d:D} (hb:h.box l=some (List.replicate n zc)) (hz:zc.toD=some d) (hn:n≤2097152):Z4b h (.mrow l 0 n n) (List.replicate n d):=by
 refine⟨List.replicate n zc,?_,by simp[hz]⟩
 have:=Zfa (h:=h) (l:=l) (cap:=n) (rs:=List.replicate n zc) (sp:=[]) (by simpa using hb) (by simp) (by simpa using hn)
 simpa using this
def Z5j (S:Sch) (steps:List Stp) (source:List Rel) (comps:List (List Rel)):Option (List Rel × List (List Rel) × Int):=
 bindK (Z1i S steps) fun q=>bif q.2 != 0 then some ([],[],q.2) else bif (comps.length:Int) != (steps.length:Int) then some ([],[],3) else
 bindK (Z0b S source) fun e=>bif e != 0 then some ([],[],e) else bindK (Z0j source) fun inst=>
 forK (fun (i:Nat) (step:Stp) (s:List Rel × List (List Rel)) next=>getK q.1 i fun sch=>getK comps i fun c=>bindK (Z7j sch step s.1 c) fun r=>
  bif r.2.2 != 0 then some ([],[],r.2.2) else next (r.1,s.2.set i r.2.1)) (fun s=>some (s.1,s.2,0)) steps 0 (inst,List.replicate steps.length [])
def Z51 (S:Sch) (steps:List Stp) (target:List Rel) (comps:List (List Rel)):Option (List Rel × List (List Rel) × Int):=
 bindK (Z1i S steps) fun q=>bif q.2 != 0 then some ([],[],q.2) else bif (comps.length:Int) != (steps.length:Int) then some ([],[],3) else
 getK q.1 steps.length fun last=>bindK (Z0b last target) fun e=>bif e != 0 then some ([],[],e) else bindK (Z0j target) fun inst=>
 whileK (fun (s:Int × List Rel × List (List Rel)) next=>bif decide (0≤s.1) then getK q.1 s.1 fun sch=>getK steps s.1 fun step=>getK comps s.1 fun c=>bindK (Z74 sch step s.2.1 c) fun r=>
  bif r.2.2 != 0 then some ([],[],r.2.2) else next (s.1 - 1,r.1,s.2.2.set s.1.toNat r.2.1) else some (s.2.1,s.2.2,0)) (steps.length+1) ((steps.length:Int) - 1,inst,List.replicate steps.length [])
abbrev encI_ (inst:List Rel):D:=.sl (inst.map Rel.enc)
theorem Zcn (S:Sch) (steps:List Stp) (source:List Rel) (comps:List (List Rel)) (r:List Rel × List (List Rel) × Int) (hm:Is (Z5j S steps source comps) r) :
  PSpec Tryz.prog 100 [.agg S.enc,.one (.d (.sl (steps.map Stp.enc))),.one (.d (.sl (source.map Rel.enc))),.one (.d (.sl (comps.map (encL Rel.enc))))] (.tup [.one (.d (.sl (r.1.map Rel.enc))),.one (.d (.sl (r.2.1.map (encL Rel.enc)))),.one (.d (.int .i64 r.2.2))]):=by
 unfold Z5j at hm;refine PSpec.of_heap ?_;show HSpec _ _ [.agg (S.enc.map C.d),.one (.d (.sl (steps.map Stp.enc))),.one (.d (.sl (source.map Rel.enc))),.one (.d (.sl (comps.map (encL Rel.enc))))] HS.init _;refine HSpec.of_vc Tryz.func100 rfl (by kernel_rfl) (n:=74) rfl rfl (by simp) ?_;obtain⟨q,hq,hm⟩:=hm.bind;simp;refine Z0a (Z6r S steps q hq) (by simp) ?_;simp;refine r_cond hm ?_ ?_<;>clear hm<;>intro hc hm
 ·obtain rfl:=r_ret hm;simp[retH,resVs,resV,notTup];exact⟨.data rfl,.data rfl,.data rfl,trivial⟩
 simp;intro hcl hsl;refine r_cond hm ?_ ?_<;>clear hm<;>intro hc2 hm
 ·obtain rfl:=r_ret hm;simp[retH,resVs,resV,notTup];exact⟨.data rfl,.data rfl,.data rfl,trivial⟩
 obtain⟨e,he,hm⟩:=hm.bind;simp;refine Z0a ((c_instance_Conforms S source).h e he) (by simp) ?_;simp;refine r_cond hm ?_ ?_<;>clear hm<;>intro hc3 hm
 ·obtain rfl:=r_ret hm;simp[retH,resVs,resV,notTup];exact⟨.data rfl,.data rfl,.data rfl,trivial⟩
 obtain⟨inst,hi,hm⟩:=hm.bind;simp;refine Z0a ((c_instance_Clone source).h inst hi) (by simp) ?_;simp;intro hsl1;refine⟨by omega,fun hsl2=>?_⟩;refine Wait.for (xs:=steps) (s0:=(inst,List.replicate steps.length [])) (fun i s e h'=>∃ c,e.n=74∧e.get 3=.one (.d (.sl (comps.map (encL Rel.enc))))∧e.get 11=.one (.d (.sl (q.1.map Sch.enc)))∧e.get 14=.one (.d (.sl (s.1.map Rel.enc)))∧e.get 15=.one c ∧
  e.get 43=.one (.d (.sl (steps.map Stp.enc)))∧e.get 44=.one (.d (.int .i64 (steps.length:Int)))∧e.get 45=.one (.d (.int .i64 (i:Int)))∧Z4b h' c (s.2.map encI_)∧s.2.length=steps.length∧∀ k ∈ labs c,k.1 < h'.ep) hm
  ⟨.mrow (4,672) 0 steps.length steps.length,by simp,by simp,by simp,by simp,by simp,by simp,by simp,by simp,?_,by simp,by simp[labs]⟩ ?_ ?_
 ·rw[List.map_replicate];refine Z4b.make (zc:=.nil) ?_ rfl (by omega);simp
 ·rintro i s e h' ⟨c,en,e3,e11,e14,e15,e43,e44,e45,mC,hsn,hlc⟩ hlt hm;have hw:IntKind.i64.wrap ((i:Int)+1)=(i:Int)+1:=IntWalk.i64_in _ (by omega);obtain⟨sch,hsch,hm⟩:=hm.getN;obtain⟨cm,hcm,hm⟩:=hm.getN;obtain⟨r2,hr2,hm⟩:=hm.bind;have hi2:i < (s.2.map encI_).length:=by simp;omega
  obtain⟨lr,cap,bs,rfl,hbr,hbl,-,hset⟩:=mC.at hi2;simp at hi2;have hlr:lr.1 < h'.ep:=hlc lr (by simp[labs]);have hno:=ne_new hlr;have hno':=Z6n hlr;simp[en,e3,e11,e14,e15,e43,e44,e45,hlt];refine Wait.cut (Plan.then_ [0,1,2,3,4,5,6,7,8,9,10,11,12,13,14,15,16,17,18,19,20] .done) follows (by kernel_rfl) (fun e1 h1=>e1.n=74∧e1.get 3=.one (.d (.sl (comps.map (encL Rel.enc))))∧e1.get 11=.one (.d (.sl (q.1.map Sch.enc)))∧e1.get 14=.one (.d (.sl (r2.1.map Rel.enc)))∧e1.get 15=.one (.mrow lr 0 (s.2.map encI_).length cap) ∧
   e1.get 43=.one (.d (.sl (steps.map Stp.enc)))∧e1.get 44=.one (.d (.int .i64 (steps.length:Int)))∧e1.get 45=.one (.d (.int .i64 (i:Int)))∧e1.get 12=.one (.d (.int .i64 r2.2.2))∧Z4b h1 (.mrow lr 0 (s.2.map encI_).length cap) ((s.2.set i r2.2.1).map encI_)∧lr.1 < h1.ep) ?_ ?_
  ·simp[Plan.then_,vcPlan,Z02,Z00,callKind,en,e3,e11,e14,e15,e43,e44,e45,hsch,hcm];refine Z0a (Zeg sch steps[i] s.1 cm r2 hr2) (by simp) ?_;simp[Plan.then_,vcPlan,Z02,Z00,callKind,en,e3,e11,e14,e15,e43,e44,e45,hsch,hcm,hi2,hbr,hno,hno',hbl];refine⟨fun _ _ x=>x,?_⟩
   try simp[Plan.then_,vcPlan,Z02,Z00,callKind,en,e3,e11,e14,e15,e43,e44,e45,hsch,hcm,hi2,hbr,hno,hno',hbl]
   refine CutK.of ⟨by simp[en],by simp[e3,en],by simp[e11,en],by simp[en],by simp[e15,en],by simp[e43,en],by simp[e44,en],by simp[e45,en],by simp[en],?_,?_⟩
   ·rw[List.map_set];exact hset _ _ _ rfl
   ·simp;omega
  ·rintro e1 h1 ⟨en,e3,e11,e14,e15,e43,e44,e45,e12,mC,hlr⟩;simp[en,e3,e11,e14,e15,e43,e44,e45,e12,hw];refine r_cond hm ?_ ?_<;>clear hm<;>intro hc hm
   ·obtain rfl:=r_ret hm;simp[retH,resVs,resV,notTup,en,e12];exact⟨.data rfl,.data rfl,.data rfl,trivial⟩
   ·simp[en,e3,e11,e14,e15,e43,e44,e45,e12,hw];exact BackF.of (r2.1,s.2.set i r2.2.1) ⟨⟨_,by simp[en],by simp[e3],by simp[e11],by simp[e14],by simp[e15],by simp[e43],by simp[e44],by simp,mC,by simpa using hsn,by simpa[labs] using hlr⟩,hm⟩
 ·rintro s e h' ⟨c,en,e3,e11,e14,e15,e43,e44,e45,mC,hsn,hlc⟩ hm;obtain rfl:=r_ret hm;simp[retH,resVs,resV,notTup,en,e3,e11,e14,e15,e43,e44,e45];refine⟨.data rfl,?_,.data rfl,trivial⟩;have e1:(s.2.map encI_).map (fun d=>[d])=s.2.map (encL Rel.enc):=by rw[List.map_map];rfl
  show Frz h' c _;rw[← e1];exact mC.frz
theorem Zc3 (S:Sch) (steps:List Stp) (target:List Rel) (comps:List (List Rel)) (r:List Rel × List (List Rel) × Int) (hm:Is (Z51 S steps target comps) r) :
  PSpec Tryz.prog 101 [.agg S.enc,.one (.d (.sl (steps.map Stp.enc))),.one (.d (.sl (target.map Rel.enc))),.one (.d (.sl (comps.map (encL Rel.enc))))] (.tup [.one (.d (.sl (r.1.map Rel.enc))),.one (.d (.sl (r.2.1.map (encL Rel.enc)))),.one (.d (.int .i64 r.2.2))]):=by
 unfold Z51 at hm;refine PSpec.of_heap ?_;show HSpec _ _ [.agg (S.enc.map C.d),.one (.d (.sl (steps.map Stp.enc))),.one (.d (.sl (target.map Rel.enc))),.one (.d (.sl (comps.map (encL Rel.enc))))] HS.init _;refine HSpec.of_vc Tryz.func101 rfl (by kernel_rfl) (n:=79) rfl rfl (by simp) ?_;obtain⟨q,hq,hm⟩:=hm.bind;simp;refine Z0a (Z6r S steps q hq) (by simp) ?_;simp;refine r_cond hm ?_ ?_<;>clear hm<;>intro hc hm
 ·obtain rfl:=r_ret hm;simp[retH,resVs,resV,notTup];exact⟨.data rfl,.data rfl,.data rfl,trivial⟩
 simp;intro hcl hsl;refine r_cond hm ?_ ?_<;>clear hm<;>intro hc2 hm
 ·obtain rfl:=r_ret hm;simp[retH,resVs,resV,notTup];exact⟨.data rfl,.data rfl,.data rfl,trivial⟩
 obtain⟨last,hlast,hm⟩:=hm.getN;obtain⟨e,he,hm⟩:=hm.bind;simp;intro hsl0;simp[hlast];refine Z0a ((c_instance_Conforms last target).h e he) (by simp) ?_;simp;refine r_cond hm ?_ ?_<;>clear hm<;>intro hc3 hm
 ·obtain rfl:=r_ret hm;simp[retH,resVs,resV,notTup];exact⟨.data rfl,.data rfl,.data rfl,trivial⟩
 obtain⟨inst,hi,hm⟩:=hm.bind;simp;refine Z0a ((c_instance_Clone target).h inst hi) (by simp) ?_;simp;intro hsl1;refine⟨by omega,fun hsl2=>?_⟩;have hw0:IntKind.i64.wrap ((steps.length:Int) - 1)=(steps.length:Int) - 1:=IntWalk.i64_in _ (by omega);simp[hw0];refine Wait.while (fun s e h'=>∃ c,e.n=79∧e.get 1=.one (.d (.sl (steps.map Stp.enc)))∧e.get 3=.one (.d (.sl (comps.map (encL Rel.enc))))∧e.get 11=.one (.d (.sl (q.1.map Sch.enc)))∧e.get 14=.one (.d (.sl (s.2.1.map Rel.enc)))∧e.get 15=.one c ∧
  e.get 16=.one (.d (.int .i64 s.1))∧Z4b h' c (s.2.2.map encI_)∧s.2.2.length=steps.length∧-1≤s.1∧s.1 < (steps.length:Int)∧∀ k ∈ labs c,k.1 < h'.ep) hm
  ⟨.mrow (4,720) 0 steps.length steps.length,by simp,by simp,by simp,by simp,by simp,by simp,by simp,?_,by simp,by simp;omega,by simp;omega,by simp[labs]⟩ ?_
 ·show Z4b _ _ (List.map encI_ (List.replicate steps.length []));rw[List.map_replicate];refine Z4b.make (zc:=.nil) ?_ rfl (by omega);simp
 ·rintro n ⟨i,ins,cs⟩ e h' ⟨c,en,e1,e3,e11,e14,e15,e16,mC,hsn,hi0,hi1,hlc⟩ hm;simp only at e14 e16 mC hsn hi0 hi1 hm;simp[en,e1,e3,e11,e14,e15,e16];refine r_cond hm ?_ ?_<;>clear hm<;>intro hc hm
  ·obtain⟨sch,hi2,hsch,hm⟩:=hm.get;obtain⟨step,-,hstep,hm⟩:=hm.get;obtain⟨cm,-,hcm,hm⟩:=hm.get;obtain⟨r2,hr2,hm⟩:=hm.bind;have hw:IntKind.i64.wrap (i - 1)=i - 1:=IntWalk.i64_in _ (by omega);have hi3:i.toNat < (cs.map encI_).length:=by simp;omega
   obtain⟨lr,cap,bs,rfl,hbr,hbl,-,hset⟩:=mC.at hi3;simp at hi3;have hlr:lr.1 < h'.ep:=hlc lr (by simp[labs]);have hno:=ne_new hlr;have hno':=Z6n hlr;simp[en,e1,e3,e11,e14,e15,e16];refine Wait.cut (Plan.then_ [0,1,2,3,4,5,6,7,8,9,10,11,12,13,14,15,16,17,18,19,20,21,22,23] .done) follows (by kernel_rfl) (fun e2 h2=>e2.n=79∧e2.get 1=.one (.d (.sl (steps.map Stp.enc)))∧e2.get 3=.one (.d (.sl (comps.map (encL Rel.enc))))∧e2.get 11=.one (.d (.sl (q.1.map Sch.enc)))∧e2.get 14=.one (.d (.sl (r2.1.map Rel.enc)))∧e2.get 15=.one (.mrow lr 0 (cs.map encI_).length cap) ∧
    e2.get 16=.one (.d (.int .i64 i))∧e2.get 12=.one (.d (.int .i64 r2.2.2))∧Z4b h2 (.mrow lr 0 (cs.map encI_).length cap) ((cs.set i.toNat r2.2.1).map encI_)∧lr.1 < h2.ep) ?_ ?_
   ·simp[Plan.then_,vcPlan,Z02,Z00,callKind,en,e1,e3,e11,e14,e15,e16,hi2,hsch,hcm,hstep];refine Z0a (Zdy sch step ins cm r2 hr2) (by simp) ?_;simp[Plan.then_,vcPlan,Z02,Z00,callKind,en,e1,e3,e11,e14,e15,e16,hi2,hsch,hcm,hstep,hi3,hbr,hno,hno',hbl]
    try refine⟨fun _ _ x=>x,?_⟩
    try simp[Plan.then_,vcPlan,Z02,Z00,callKind,en,e1,e3,e11,e14,e15,e16,hi2,hsch,hcm,hstep,hi3,hbr,hno,hno',hbl]
    refine CutK.of ⟨by simp[en],by simp[e1,en],by simp[e3,en],by simp[e11,en],by simp[en],by simp[e15,en],by simp[e16,en],by simp[en],?_,?_⟩
    ·rw[List.map_set];exact hset _ _ _ rfl
    ·simp;omega
   ·rintro e2 h2 ⟨en,e1,e3,e11,e14,e15,e16,e12,mC,hlr⟩;simp[en,e1,e3,e11,e14,e15,e16,e12,hw];refine r_cond hm ?_ ?_<;>clear hm<;>intro hc2 hm
    ·obtain rfl:=r_ret hm;simp[retH,resVs,resV,notTup,en,e12];exact⟨.data rfl,.data rfl,.data rfl,trivial⟩
    ·simp[en,e1,e3,e11,e14,e15,e16,e12,hw];exact BackF.of (i - 1,r2.1,cs.set i.toNat r2.2.1) ⟨⟨_,by simp[en],by simp[e1],by simp[e3],by simp[e11],by simp[e14],by simp[e15],by simp,mC,by simpa using hsn,by simp;omega,by simp;omega,by simpa[labs] using hlr⟩,hm⟩
  ·obtain rfl:=r_ret hm;simp[retH,resVs,resV,notTup,en,e1,e3,e11,e14,e15,e16];refine⟨.data rfl,?_,.data rfl,trivial⟩;have e1:(cs.map encI_).map (fun d=>[d])=cs.map (encL Rel.enc):=by rw[List.map_map];rfl
   show Frz h' c _;rw[← e1];exact mC.frz
end
section
open Go.Am


end
section
open Go Go.Am
abbrev encJ_ (l:List (List Rel)):D:=.sl (l.map (encL Rel.enc))
structure MC (h:HS) (gs:List (C × List D)):Prop where
 row:∀ g ∈ gs,Z4b h g.1 g.2
 lt:∀ g ∈ gs,∀ k ∈ labs g.1,k.1 < h.ep
 dis:(gs.flatMap fun g=>labs g.1).Nodup
theorem Zmp:∀ {xs:List (C × List D)},(xs.flatMap fun g=>labs g.1).Nodup→∀ {k1 k2:Nat} {g1 g2:C × List D},xs[k1]?=some g1→xs[k2]?=some g2→k1≠k2→∀ k ∈ labs g1.1,k ∉ labs g2.1
 | [],_,k1,_,_,_,h1,_,_,_,_=>by simp at h1
 | y::ys,hn,0,0,_,_,_,_,hne,_,_=>absurd rfl hne
 | y::ys,hn,0,k2+1,g1,g2,h1,h2,hne,k,hk=>fun h9=>by
   rw[List.flatMap_cons,List.nodup_append] at hn;simp at h1 h2;subst h1;exact hn.2.2 k hk k (List.mem_flatMap.2 ⟨g2,List.mem_of_getElem? h2,h9⟩) rfl
 | y::ys,hn,k1+1,0,g1,g2,h1,h2,hne,k,hk=>fun h9=>by
   rw[List.flatMap_cons,List.nodup_append] at hn;simp at h1 h2;subst h2;exact hn.2.2 k h9 k (List.mem_flatMap.2 ⟨g1,List.mem_of_getElem? h1,hk⟩) rfl
 | y::ys,hn,k1+1,k2+1,g1,g2,h1,h2,hne,k,hk=>by
   rw[List.flatMap_cons,List.nodup_append] at hn;exact Zmp hn.2.1 (by simpa using h1) (by simpa using h2) (by omega) k hk
theorem MC.set {h h':HS} {gs:List (C × List D)} {j:Nat} {g:C × List D} {ds:List D} (m:MC h gs) (hj:gs[j]?=some g) (hc:Z4b h' g.1 ds) (hs:Same h h' (labs g.1)):MC h' (gs.set j (g.1,ds)):=by
 have hjl:=(List.getElem?_eq_some_iff.1 hj).1;have hset:∀ (k1:Nat) (g1:C × List D),(gs.set j (g.1,ds))[k1]?=some g1→(k1=j∧g1=(g.1,ds))∨(k1≠j∧gs[k1]?=some g1):=by
  intro k1 g1 h1;rw[List.getElem?_set] at h1
  by_cases he:j=k1
  ·subst he;simp[hjl] at h1;exact .inl ⟨rfl,h1.symm⟩
  ·rw[if_neg he] at h1;exact .inr ⟨fun h9=>he h9.symm,h1⟩
 refine⟨fun g1 hg1=>?_,fun g1 hg1 k hk=>?_,?_⟩
 ·obtain⟨k1,hk1⟩:=List.getElem?_of_mem hg1;rcases hset k1 g1 hk1 with ⟨_,rfl⟩ | ⟨hne,h1⟩
  ·exact hc
  ·exact (m.row g1 (List.mem_of_getElem? h1)).frame fun k hk=>hs.2 k (m.lt g1 (List.mem_of_getElem? h1) k hk) (Zmp m.dis h1 hj hne k hk)
 ·obtain⟨k1,hk1⟩:=List.getElem?_of_mem hg1;rcases hset k1 g1 hk1 with ⟨_,rfl⟩ | ⟨hne,h1⟩
  ·exact Nat.lt_of_lt_of_le (m.lt g (List.mem_of_getElem? hj) k hk) hs.1
  ·exact Nat.lt_of_lt_of_le (m.lt g1 (List.mem_of_getElem? h1) k hk) hs.1
 ·have:(gs.set j (g.1,ds)).map Prod.fst=gs.map Prod.fst:=by
   rw[List.map_set];refine List.ext_getElem? fun i=>?_;rw[List.getElem?_set]
   by_cases he:j=i
   ·subst he;rw[List.getElem?_map,hj];simp[hjl]
   ·simp[he]
  have e1:∀ xs:List (C × List D),(xs.flatMap fun g=>labs g.1)=(xs.map Prod.fst).flatMap labs:=fun xs=>by rw[List.flatMap_map]
  rw[e1,this,← e1];exact m.dis
theorem MC.at {h:HS} {gs:List (C × List D)} {j i:Nat} {g:C × List D} (m:MC h gs) (hj:gs[j]?=some g) (hi:i < g.2.length):∃ lr cap bs,g.1=.mrow lr 0 g.2.length cap∧h.box lr=some bs∧i+1≤bs.length∧lr.1 < h.ep∧(∃ x,takeN 1 (bs.drop i)=some [x]∧some (x.toD)=some (g.2[i]?)) ∧
  ∀ (h2:HS) (gs':List (C × List D)) (x:C) (d:D),MC h2 gs'→gs'[j]?=some g→x.toD=some d→MC (h2.setBox lr (Z03 bs i [x])) (gs'.set j (g.1,g.2.set i d)):=by
 obtain⟨lr,cap,bs,h1,h2,h3,h4,h5⟩:=(m.row g (List.mem_of_getElem? hj)).at hi;have hl:lr ∈ labs g.1:=by rw[h1];simp[labs]
 refine⟨lr,cap,bs,h1,h2,h3,m.lt g (List.mem_of_getElem? hj) lr hl,h4,fun H gs' x d m' hj' hx=>?_⟩;exact m'.set hj' (h5 H x d hx) (Same.refl.setBox (.inl hl))
abbrev RelSh:List Sh:=[.d,.r [RowSh]]
abbrev InstSh:Sh:=.r RelSh
theorem GrowP.ow {h h':HS} {sh:List Sh} {c:C} {ds:List (List D)} (g:GrowP h h' sh c ds):∃ ls,OwN h h' [.r sh] [c] [.sl ds] ls:=by
 obtain⟨qs,p,nd,hl,s⟩:=g
 have:=Ow.row (ss:=[]) (cs:=[]) (ds:=[]) (ls:=[]) p.mr p.ow .nil
 rw[p.ds] at this;refine⟨plabs c qs,?_,nd,hl,s⟩;simpa[plabs] using this
def InstL (x:List Rel):Prop:=x.length≤2097152∧∀ r ∈ x,r.rows.length≤2097152∧∀ row ∈ r.rows,row.length≤2097152
theorem Zbv (h:HS) (inst:List Rel) (hok:InstL inst) (K:V→HS→Prop)
  (hk:∀ c h',GrowP h h' RelSh c (inst.map Rel.enc)→BoxLe h h'→K (.one c) h') :
  HSpec Tryz.prog 24 [.one (.d (.sl (inst.map Rel.enc)))] h K:=by
 refine HSpec.good Tryz.func24 rfl (by kernel_rfl) fun hg=>?_;refine HSpec.of_vc Tryz.func24 rfl (by kernel_rfl) (n:=23) rfl rfl (by simp) ?_;have hm:Is (forK (fun (_:Nat) x s next=>next (s++[x])) (fun s=>some s) inst 0 []) inst:=by rw[Zhq];rfl
 simp;intro hil;refine Wait.for (xs:=inst) (s0:=[]) (fun i s e h'=>∃ c,e.n=23∧e.get 3=.one c∧e.get 6=.one (.d (.sl (inst.map Rel.enc)))∧e.get 7=.one (.d (.int .i64 (inst.length:Int)))∧e.get 8=.one (.d (.int .i64 (i:Int)))∧GrowP h h' RelSh c (s.map Rel.enc)∧s.length=i) hm ⟨.nil,by simp,by simp,by simp,by simp,by simp,.nil,rfl⟩ ?_ ?_
 ·rintro i s e h' ⟨c,en,e3,e6,e7,e8,g,hsl⟩ hlt hm;have hw:IntKind.i64.wrap ((i:Int)+1)=(i:Int)+1:=IntWalk.i64_in _ (by omega);have hri:=hok.2 _ (List.getElem_mem hlt);simp[en,e3,e6,e7,e8,hlt];refine Wait.cut (Plan.then_ [0,1,2,3,4,5,6,7,8,9] .done) follows (by kernel_rfl) (fun e1 h1=>∃ c2,e1.n=23∧e1.get 3=.one c2∧e1.get 6=.one (.d (.sl (inst.map Rel.enc)))∧e1.get 7=.one (.d (.int .i64 (inst.length:Int)))∧e1.get 8=.one (.d (.int .i64 (i:Int)))∧GrowP h h1 RelSh c2 ((s++[inst[i]]).map Rel.enc)) ?_ ?_
  ·simp[en,e3,e6,e7,e8,Plan.then_,vcPlan,Z02,Z00,callKind];refine Z01 (Z7x _ inst[i].rows hri.2 _ fun c1 h1 g1 hb1=>?_);have hsc:=g1.same;simp[en,e3,e6,e7,e8,Plan.then_,vcPlan,Z02,Z00,callKind];refine⟨hb1,?_⟩;obtain⟨l1,ow1⟩:=g1.ow;have ho:Ow h1 RelSh [.d (.str inst[i].table),c1] (Rel.enc inst[i]) l1:=by
    have:=Ow.data (c:=.d (.str inst[i].table)) (x:=.str inst[i].table) rfl ow1.ow
    exact this
   have hs1:Same h' h1 []:=Same.trans (by repeat' first | exact Same.refl | apply Same.next | apply Same.setArr | (refine Same.setBox ?_ (.inr (by simp)))) hsc;have hnew:∀ k ∈ l1,h'.ep≤k.1∧k.1 < h1.ep:=fun k hk=>by have:=ow1.new k hk;simp at this;omega
   refine bld_ow (x:=[.d (.str inst[i].table),c1]) (by simp only[toDs];cases c1.toD<;>rfl) rfl (fun d hd=>?_) (fun hd=>?_)
   ·obtain⟨rfl,hd2⟩:=ho.ofD hd;simp[en,e3,e6,e7,e8,Plan.then_,vcPlan,Z02,Z00,callKind];refine GrowP.app g (hs1.trans ((Same.refl.setArr).next)) Z81 (by kernel_rfl) (by decide) (by decide) (RowAt.own1 rfl) rfl (hd2 _) (by simp) (by simp) (by simpa using (by omega:s.length+1≤2097152)) fun c' h3' hg' hs3=>?_;simp[en,e3,e6,e7,e8,Plan.then_,vcPlan,Z02,Z00,callKind];exact CutK.of ⟨c',by simp[en],by simp,by simp[e6,en],by simp[e7,en],by simp[e8,en],by simpa using hg'⟩
   ·simp[en,e3,e6,e7,e8,Plan.then_,vcPlan,Z02,Z00,callKind];have hs2:Same h1 ((h1.setBox (h1.ep,304) [.d (.str inst[i].table),c1]).next) []:=(Same.refl.setBox (.inr (by simp))).next;refine GrowP.app g (hs1.trans hs2) Z81 (by kernel_rfl) (by decide) (by decide) (RowAt.new1 rfl (by simp)) rfl (ho.frame fun k hk=>hs2.2 k (hnew k hk).2 (by simp)) ow1.nd (fun k hk=>⟨(hnew k hk).1,Nat.lt_of_lt_of_le (hnew k hk).2 hs2.1⟩) (by simpa using (by omega:s.length+1≤2097152)) fun c' h3' hg' hs3=>?_;simp[en,e3,e6,e7,e8,Plan.then_,vcPlan,Z02,Z00,callKind];exact CutK.of ⟨c',by simp[en],by simp,by simp[e6,en],by simp[e7,en],by simp[e8,en],by simpa using hg'⟩
  ·rintro e1 h1 ⟨c2,en,e3,e6,e7,e8,g1⟩;simp[en,e3,e6,e7,e8,hw];exact BackF.of (s++[inst[i]]) ⟨⟨c2,by simp[en],by simp[e3],by simp[e6],by simp[e7],by simp,g1,by simp[hsl]⟩,hm⟩
 ·rintro s e h' ⟨c,en,e3,e6,e7,e8,g,hsl⟩ hm;obtain rfl:=r_ret hm;simp[e3,e7,e8,en];exact hk _ _ g (g.same.boxLe hg)
def PartR (h:HS) (c:C) (xs:List C):Prop:=MR h 1 c (ones xs)∨(c.toD=some (.sl [])∧xs=[])
theorem PartR.frame {h h':HS} {c:C} {xs:List C} (p:PartR h c xs) (hb:∀ l ∈ labs c,h'.box l=h.box l):PartR h' c xs:=p.imp (fun m=>m.frame hb) id
theorem PartR.rd {h:HS} {c:C} {xs:List C} (p:PartR h c xs):RowAt h 1 c (ones xs):=by
 rcases p with m | ⟨h1,rfl⟩
 ·exact m.rd
 ·have h2:=(toD_rd h1).1;refine⟨?_,?_,by simp[AllC,ones],by simp[ones]⟩
  ·cases c<;>simp[C.list?] at h2<;>simp[Z0k,C.list?,h2,ones]
  ·cases c<;>simp[C.list?] at h2<;>simp[cLen,C.list?,h2,ones]
theorem PartR.le {h:HS} {c:C} {xs:List C} (p:PartR h c xs):xs.length≤2097152:=by
 have:=p.rd.2.2.2
 simpa[ones] using this
abbrev El:=List C × List Lab
structure OwL (h:HS) (sh:List Sh) (x:C) (es:List El):Prop where
 mr:(x.toD=some (.sl [])∧es=[])∨MR h sh.length x (es.map (·.1))
 ow:∀ e ∈ es,∃ ds,Ow h sh e.1 ds e.2
def ells (x:C) (es:List El):List Lab:=labs x++es.flatMap (·.2)
theorem Zmj {x:C} {d:D} (h:x.toD=some d):labs x=[]:=by cases x<;>simp[C.toD] at h<;>rfl
theorem OwL.of {h:HS} {sh:List Sh} {x:C} {ds:List D} {ls:List Lab} (o:Ow h [.r sh] [x] ds ls):∃ es,OwL h sh x es∧ls=ells x es:=by
 rcases o.inv_r with ⟨c,cs,ds',h1,h2,h3,h4⟩ | ⟨c,qs,cs',ds',ls',h1,h2,h3,hm,hq,hr⟩
 ·obtain⟨-,-,rfl⟩:=h4.inv_nil;simp only[List.cons.injEq,and_true] at h1;obtain⟨rfl,_⟩:=h1;exact⟨[],⟨.inl ⟨h3,rfl⟩,by simp⟩,by simp[ells,Zmj h3]⟩
 ·obtain⟨-,-,rfl⟩:=hr.inv_nil;simp only[List.cons.injEq,and_true] at h1;obtain⟨rfl,_⟩:=h1;refine⟨qs.map fun q=>(q.1,q.2.2),⟨.inr (by simpa[Function.comp_def] using hm),fun e he=>?_⟩,by simp[h3,ells,List.flatMap_map]⟩;obtain⟨q,hqm,rfl⟩:=List.mem_map.1 he;exact⟨q.2.1,hq q hqm⟩
theorem OwL.le {h:HS} {sh:List Sh} {x:C} {es:List El} (o:OwL h sh x es):es.length≤2097152:=by
 rcases o.mr with ⟨h1,rfl⟩ | hm
 ·simp
 ·have:=hm.2.1;simpa using this
theorem OwL.block {h:HS} {sh:List Sh} {x:C} {es:List El} (o:OwL h sh x es) {i:Nat} (hi:i < es.length):∃ l cap sp,x=.mrow l 0 es.length cap∧h.box l=some (rowBox (es.map (·.1)) sp)∧takeN sh.length ((rowBox (es.map (·.1)) sp).drop (i * sh.length))=some es[i].1∧(rowBox (es.map (·.1)) sp).length=cap * sh.length∧AllC sh.length (es.map (·.1)):=by
 rcases o.mr with ⟨h1,rfl⟩ | hm
 ·simp at hi
 ·obtain⟨l,cap,sp,h1,h2,h3⟩:=hm.block (by simp;omega);exact⟨l,cap,sp,by simpa using h1,h2,Za9 hm.1 (by rw[List.getElem?_map,List.getElem?_eq_getElem hi];rfl),h3,hm.1⟩
theorem OwL.frame {h h':HS} {sh:List Sh} {x:C} {es:List El} (o:OwL h sh x es) (hlt:∀ k ∈ ells x es,k.1 < h.ep) (hs:Same h h' []):OwL h' sh x es:=by
 refine⟨o.mr.imp id fun m=>m.frame fun l hl=>hs.2 l (hlt l (List.mem_append_left _ hl)) (by simp),fun e he=>?_⟩;obtain⟨ds,hd⟩:=o.ow e he;exact⟨ds,hd.frame fun l hl=>hs.2 l (hlt l (List.mem_append_right _ (List.mem_flatMap.2 ⟨e,he,hl⟩))) (by simp)⟩
end
section
open Go.Am
def Z68 (n:Int):Option GV:=
 (some (GV.mk 1 n ByteArray.empty))
instance c_stemref1_Int (n:Int):Con (Z68 n) Tryz.prog 53 [.one (.d (.int .i64 n))] (fun r=>.agg (r.enc.map RC.d)):=by
 unfold Z68;exact go 5 Tryz.func53 rfl (by kernel_rfl) rfl rfl (by simp)
def Z4l:Option Gr:=
 (bindK (Z68 5) fun v2=>(some (Gr.mk (Sch.mk [(Tbl.mk ({ data:=#[116] }) [(Col.mk ({ data:=#[105,100] }) 1 false),(Col.mk ({ data:=#[110] }) 1 false)] [0])] [] []) [(Edg.mk 0 [(Stp.mk 1 ({ data:=#[116] }) ByteArray.empty ({ data:=#[120] }) ByteArray.empty 1 [] ByteArray.empty v2 (Tbl.mk ByteArray.empty [] []) (Cons.mk ByteArray.empty 0 ByteArray.empty 0 (GV.mk 0 0 ByteArray.empty)) (Fk.mk ByteArray.empty [] ByteArray.empty))])])))
instance c_stemref1_SampleGraph  : Con (Z4l) Tryz.prog 27 [] (fun r=>.agg (r.enc.map RC.d)):=by
 unfold Z4l;exact go 16 Tryz.func27 rfl (by kernel_rfl) rfl rfl (by simp)
def Z4p (s_:Sch) (step:Stp):Option ((List Rel) × Int):=
 (bindK (Z4k s_ step) fun v3=>(bif (v3.2.2 != 0) then (some ([],v3.2.2)) else (bindK (Z2c v3.2.1) fun v7=>(some (v7,0)))))
instance c_lens_EmptyComplement (s_:Sch) (step:Stp):Con (Z4p s_ step) Tryz.prog 71 [.agg s_.enc,.agg step.enc] (fun r=>.tup [.one (.d (.sl (r.1.map Rel.enc))),.one (.d (.int .i64 r.2))]):=by
 unfold Z4p;exact go 21 Tryz.func71 rfl (by kernel_rfl) rfl rfl (by simp)
def Z3w (s_:Sch) (script:List Stp):Option ((List (List Rel)) × Int):=
 (bindK (Z1i s_ script) fun v2=>(bif (v2.2 != 0) then (some ([],v2.2)) else (forK (fun (i5:Nat) (x5:Stp) (s5:(List (List Rel))) next_5=>(getK v2.1 (i5:Int) fun x7=>(bindK (Z4p x7 x5) fun v8=>(bif (v8.2 != 0) then (some ([],v8.2)) else (appK2 s5 [v8.1] fun _=>(next_5 (s5++[v8.1]))))))) (fun (s5:(List (List Rel)))=>(some (s5,0))) script 0 [])))
instance c_script_EmptyComplements (s_:Sch) (script:List Stp):Con (Z3w s_ script) Tryz.prog 55 [.agg s_.enc,.one (.d (.sl (script.map Stp.enc)))] (fun r=>.tup [.one (.d (.sl (r.1.map (encL Rel.enc)))),.one (.d (.int .i64 r.2))]):=by
 unfold Z3w;have l1:LH (σ:=(List (List Rel))) 24 [6,22,23] [.g 8 1 (fun s=>s.map (encL Rel.enc))]:=.intro;have p1:PH [8] (Plan.then_ [0,1,2,3,4,5,6,7,8,9,10] .done):=.intro;exact go 47 Tryz.func55 rfl (by kernel_rfl) rfl rfl (by simp)
def Z69 (g_:Gr):Option (Db × Int):=
 (bindK (Z1p g_) fun v3=>(bif (v3.2 != 0) then (some ((Db.mk [] []),v3.2)) else (forK (fun (i7:Nat) (x7:Sch) (s7:(List (List Rel))) next_7=>(bindK (Z2c x7) fun v9=>(appK2 s7 [v9] fun _=>(next_7 (s7++[v9]))))) (fun (s7:(List (List Rel)))=>(forK (fun (i13:Nat) (x13:Edg) (s13:(List (List (List Rel)))) next_13=>(getK v3.1 x13.parent fun x15=>(bindK (Z3w x15 x13.script) fun v16=>(bif (v16.2 != 0) then (some ((Db.mk [] []),v16.2)) else (appK2 s13 [v16.1] fun _=>(next_13 (s13++[v16.1]))))))) (fun (s13:(List (List (List Rel))))=>(some ((Db.mk s7 s13),0))) g_.edges 0 [])) v3.1 0 [])))
theorem Zeh (g_:Gr) (r:Db × Int) (hm:Is (Z69 g_) r):PSpec Tryz.prog 28 [.agg g_.enc] (.tup [.agg (r.1.enc.map RC.d),.one (.d (.int .i64 r.2))]):=by
 unfold Z69 at hm;refine PSpec.of_vc Tryz.func28 rfl (by kernel_rfl) (n:=66) rfl rfl (by simp) ?_
 try simp[*]
 refine r_call (av:=[.agg g_.enc]) hm (fun v hv=>Z7g _ v hv) (by simp[*]) ?_;clear hm;intro v3 hvv3 hm
 try simp[*]
 refine r_cond hm ?_ ?_<;>clear hm<;>intro hc4 hm
 ·try simp[*]
  obtain rfl:=r_ret hm;exact ret0 (vs:=[_,_]) (by simp[*];try exact⟨rfl,rfl⟩) (by simp[*])
 ·try simp[*]
  intro hl6;replace hl6:v3.1.length≤2097152:=by simpa using hl6
  refine Wait.for (xs:=v3.1) (s0:=[]) (fun i7 s7 e7 h7=>∃ c7_0:C,e7.n=66∧e7.get 1=.one (.ptr (0,16) 0)∧e7.get 2=.one (.ptr (1,32) 0)∧e7.get 4=.one (.d (.sl (v3.1.map Sch.enc)))∧e7.get 6=.one (.ptr (3,96) 0)∧e7.get 22=.one (.d (.sl (v3.1.map Sch.enc)))∧e7.get 23=.one (.d (.int .i64 (v3.1.length:Int)))∧e7.get 24=.one (.d (.int .i64 (i7:Int)))∧h7.box (0,16)=some [.d (.sl (g_.base.tables.map Tbl.enc)),.d (.sl (g_.base.fks.map Fk.enc)),.d (.sl (g_.base.cons.map Cons.enc)),.d (.sl (g_.edges.map Edg.enc))]∧h7.box (1,32)=some [.nil,.nil]∧h7.box (3,96)=some [c7_0,.nil]∧Grows h7 1 c7_0 (s7.map (encL Rel.enc))) hm ⟨.nil,by simp (maxDischargeDepth:=20) [*]⟩ ?_ ?_
  ·rintro i7 s7 e7 h7 ⟨c7_0,hn7,h7_1,h7_2,h7_4,h7_6,h7_22,h7_23,h7_24,hb7_b1,hb7_b2,hb7_b5,gc7_0⟩ hlt7 hm;have hlc7_0:=gc7_0.list;have hdc7_0:=gc7_0.toD;have hac7_0:=gc7_0.toA;have huc7_0:=gc7_0.useUp_arr;have hw7:IntKind.i64.wrap ((i7:Int)+1)=(i7:Int)+1:=IntWalk.i64_in _ (by omega)
   try simp[*]
   refine Wait.of (SWP.draw (Plan.then_ [0,1,2,3,4,5,6,7] .done) follows (by kernel_rfl) ?_)
   try simp[*,Plan.then_,vcPlan,Z02,Z00,callKind]
   refine r_call (av:=[.agg (v3.1[i7]).enc]) hm (fun v hv=>c_instance_Empty _ v hv) (by simp[*]) ?_;clear hm;intro v9 hvv9 hm
   try simp[*,Plan.then_,vcPlan,Z02,Z00,callKind]
   try refine⟨fun (_:Lab) (_:List C) hl=>hl,?_⟩
   refine r_app (xs:=s7) (ys:=[v9]) (enc:=(encL Rel.enc)) hm Za7 (by first | exact Grows.nil | (simp (maxDischargeDepth:=20) [*];done) | (simp (maxDischargeDepth:=20) [*];refine⟨?_,by omega⟩;intro hq;subst hq;simp at hz2<;>omega)) (by simp[*]) (by decide) (by decide) (fun _=>rfl) ?_;clear hm;intro hl11 hm g10
   try simp[*,Plan.then_,vcPlan,Z02,Z00,callKind]
   exact BackF.of (s7++[v9]) ⟨⟨.own (h7.ep+3,528) ((s7++[v9]).map (encL Rel.enc)),by simp (maxDischargeDepth:=20) [*]⟩,hm⟩
  ·rintro s7 e7 h7 ⟨c7_0,hn7,h7_1,h7_2,h7_4,h7_6,h7_22,h7_23,h7_24,hb7_b1,hb7_b2,hb7_b5,gc7_0⟩ hm;have hlc7_0:=gc7_0.list;have hdc7_0:=gc7_0.toD;have hac7_0:=gc7_0.toA;have huc7_0:=gc7_0.useUp_arr
   try simp[*]
   intro hl12;replace hl12:g_.edges.length≤2097152:=by simpa using hl12
   refine Wait.for (xs:=g_.edges) (s0:=[]) (fun i13 s13 e13 h13=>∃ c13_bb5_0 c13_0:C,(e13.n=66∧e13.get 2=.one (.ptr (1,32) 0)∧e13.get 4=.one (.d (.sl (v3.1.map Sch.enc)))∧e13.get 6=.one (.ptr (3,96) 0)∧e13.get 37=.one (.d (.sl (g_.edges.map Edg.enc)))∧e13.get 38=.one (.d (.int .i64 (g_.edges.length:Int)))∧e13.get 39=.one (.d (.int .i64 (i13:Int)))∧h13.box (1,32)=some [.nil,.nil]∧h13.box (3,96)=some [c13_bb5_0,c13_0]∧Grows h13 1 c13_bb5_0 (s7.map (encL Rel.enc))∧Grows h13 1 c13_0 (s13.map (encL (encL Rel.enc))))∧Apart c13_bb5_0 c13_0) hm ⟨c7_0,.nil,by simp (maxDischargeDepth:=20) [*],(by simp)⟩ ?_ ?_
   ·rintro i13 s13 e13 h13 ⟨c13_bb5_0,c13_0,⟨hn13,h13_2,h13_4,h13_6,h13_37,h13_38,h13_39,hb13_b2,hb13_b5,gc13_bb5_0,gc13_0⟩,apc13_bb5_0_c13_0⟩ hlt13 hm;have hlc13_bb5_0:=gc13_bb5_0.list;have hdc13_bb5_0:=gc13_bb5_0.toD;have hac13_bb5_0:=gc13_bb5_0.toA;have huc13_bb5_0:=gc13_bb5_0.useUp_arr;have hlc13_0:=gc13_0.list;have hdc13_0:=gc13_0.toD;have hac13_0:=gc13_0.toA;have huc13_0:=gc13_0.useUp_arr;have hw13:IntKind.i64.wrap ((i13:Int)+1)=(i13:Int)+1:=IntWalk.i64_in _ (by omega)
    try simp[*]
    refine Wait.of (SWP.draw (Plan.then_ [0,1,2,3,4,5,6,7,8,9,10,11,12] .done) follows (by kernel_rfl) ?_)
    try simp[*,Plan.then_,vcPlan,Z02,Z00,callKind]
    replace hm:=hm.get;obtain⟨x15,h0x15,hxx15,hm⟩:=hm
    try simp[*,Plan.then_,vcPlan,Z02,Z00,callKind]
    refine r_call (av:=[.agg x15.enc,.one (.d (.sl ((g_.edges[i13].script).map Stp.enc)))]) hm (fun v hv=>c_script_EmptyComplements _ _ v hv) (by simp[*]) ?_;clear hm;intro v16 hvv16 hm
    try simp[*,Plan.then_,vcPlan,Z02,Z00,callKind]
    try refine⟨fun (_:Lab) (_:List C) hl=>hl,?_⟩
    refine r_cond hm ?_ ?_<;>clear hm<;>intro hc17 hm
    ·try simp[*]
     obtain rfl:=r_ret hm;exact ret0 (vs:=[_,_]) (by simp[*];try exact⟨rfl,rfl⟩) (by simp[*])
    ·try simp[*]
     refine r_app (xs:=s13) (ys:=[v16.1]) (enc:=(encL (encL Rel.enc))) hm Zh7 (by first | exact Grows.nil | (simp (maxDischargeDepth:=20) [*];done) | (simp (maxDischargeDepth:=20) [*];refine⟨?_,by omega⟩;intro hq;subst hq;simp at hz2<;>omega)) (by simp[*]) (by decide) (by decide) (fun _=>rfl) ?_;clear hm;intro hl19 hm g18
     try simp[*]
     exact BackF.of (s13++[v16.1]) ⟨⟨c13_bb5_0,.own (h13.ep+3,992) ((s13++[v16.1]).map (encL (encL Rel.enc))),by simp (maxDischargeDepth:=20) [*],(by first | (simp[*];done) | exact (gc13_bb5_0.apart (by simp)).symm)⟩,hm⟩
   ·rintro s13 e13 h13 ⟨c13_bb5_0,c13_0,⟨hn13,h13_2,h13_4,h13_6,h13_37,h13_38,h13_39,hb13_b2,hb13_b5,gc13_bb5_0,gc13_0⟩,apc13_bb5_0_c13_0⟩ hm;have hlc13_bb5_0:=gc13_bb5_0.list;have hdc13_bb5_0:=gc13_bb5_0.toD;have hac13_bb5_0:=gc13_bb5_0.toA;have huc13_bb5_0:=gc13_bb5_0.useUp_arr;have hlc13_0:=gc13_0.list;have hdc13_0:=gc13_0.toD;have hac13_0:=gc13_0.toA;have huc13_0:=gc13_0.useUp_arr
    try simp[*]
    obtain rfl:=r_ret hm;exact ret0 (vs:=[_,_]) (by simp[*];try exact⟨rfl,rfl⟩) (by simp[*])
instance i_database_New (g_:Gr):Con (Z69 g_) Tryz.prog 28 [.agg g_.enc] (fun r=>.tup [.agg (r.1.enc.map RC.d),.one (.d (.int .i64 r.2))]):=⟨fun r hm=>Zeh g_ r hm⟩
end
section
open Go Go.Am
structure PSt where
 insts:List (List Rel)
 comps:List (List (List Rel))
 errs:List Int
 reached:List Bool
def PSt.rows (s:PSt) (ci cc ce cr:C):List (C × List D):=[(ci,s.insts.map encI_),(cc,s.comps.map encJ_),(ce,s.errs.map fun z=>.int .i64 z),(cr,s.reached.map D.bool)]
end
section
open Go.Am
def Z4m (s_:List (List GV)) (f:(List GV)→Option Bool):Option Int:=
 (forK (fun (i2:Nat) (x2:List GV) (s2:Unit) next_2=>(bindK (f x2) fun v3=>(bif v3 then (some (i2:Int)) else (next_2 ())))) (fun (s2:Unit)=>(some (-1))) s_ 0 ())
instance i_slices_IndexFunc_Row (s_:List (List GV)) (f:(List GV)→Option Bool) {g:FuncId} {caps:List (List D)} [ConF f Tryz.prog (fun x=>.one (.d (.sl (x.map GV.enc)))) (fun v=>.one (.d (.bool v))) g caps]:Con (Z4m s_ f) Tryz.prog 142 [.one (.d (.sl (s_.map (encL GV.enc)))),.one (.fn g caps)] (fun r=>.one (.d (.int .i64 r))):=by
 unfold Z4m;have l1:LH (σ:=Unit) 8 [0,1,7] []:=.intro;exact go 19 Tryz.func142 rfl (by kernel_rfl) rfl rfl (by simp)
def Z2n (s_:List (List GV)) (f:(List GV)→Option Bool):Option Bool:=
 (bindK (Z4m s_ f) fun v1=>(some (decide (0≤v1))))
instance i_slices_ContainsFunc_Row (s_:List (List GV)) (f:(List GV)→Option Bool) {g:FuncId} {caps:List (List D)} [ConF f Tryz.prog (fun x=>.one (.d (.sl (x.map GV.enc)))) (fun v=>.one (.d (.bool v))) g caps]:Con (Z2n s_ f) Tryz.prog 103 [.one (.d (.sl (s_.map (encL GV.enc)))),.one (.fn g caps)] (fun r=>.one (.d (.bool r))):=by
 unfold Z2n;exact go 9 Tryz.func103 rfl (by kernel_rfl) rfl rfl (by simp)
def Z4x (s_:Sch) (inst:List Rel) (fk:Fk) (row:List GV):Option Bool:=
 (bindK (Z12 s_ inst fk.ref) fun v3=>(forK (fun (i6:Nat) (x6:Int) (s6:(List GV)) next_6=>(bif decide (x6 < 0) then (some true) else (bif decide ((row.length:Int)≤x6) then (some true) else (getK row x6 fun x10=>(bif (x10.kind == 0) then (some true) else (appK2 s6 [x10] fun _=>(next_6 (s6++[x10])))))))) (fun (s6:(List GV))=>(bindK (Z29 v3.1 v3.2 s6) fun v14=>(some v14.2))) fk.cols 0 []))
instance c_instance_References (s_:Sch) (inst:List Rel) (fk:Fk) (row:List GV):Con (Z4x s_ inst fk row) Tryz.prog 105 [.agg s_.enc,.one (.d (.sl (inst.map Rel.enc))),.agg fk.enc,.one (.d (.sl (row.map GV.enc)))] (fun r=>.one (.d (.bool r))):=by
 unfold Z4x;have l1:LH (σ:=(List GV)) 27 [3,9,10,25,26] [.g 11 3 (fun s=>s.map GV.enc)]:=.intro;exact go 63 Tryz.func105 rfl (by kernel_rfl) rfl rfl (by simp)
def Z3r (row:List GV) (k0:Sch) (k1:List Rel) (k2:Fk):Option Bool:=
 (bindK (Z4x k0 k1 k2 row) fun v1=>(some !v1))
instance c_instance_Validate_1 (row:List GV) (k0:Sch) (k1:List Rel) (k2:Fk):Con (Z3r row k0 k1 k2) Tryz.prog 104 [.one (.d (.sl (row.map GV.enc))),.one (.rp [.sl (k0.tables.map Tbl.enc),.sl (k0.fks.map Fk.enc),.sl (k0.cons.map Cons.enc)]),.one (.rp [.sl (k1.map Rel.enc)]),.one (.rp [.str k2.table,.sl (k2.cols.map encI),.str k2.ref])] (fun r=>.one (.d (.bool r))):=by
 unfold Z3r;exact go 12 Tryz.func104 rfl (by kernel_rfl) rfl rfl (by simp)
instance f_instance_Validate_1 (k0:Sch) (k1:List Rel) (k2:Fk):ConF (fun x=>Z3r x k0 k1 k2) Tryz.prog (fun x=>.one (.d (.sl (x.map GV.enc)))) (fun r=>.one (.d (.bool r))) 104 [[.sl (k0.tables.map Tbl.enc),.sl (k0.fks.map Fk.enc),.sl (k0.cons.map Cons.enc)],[.sl (k1.map Rel.enc)],[.str k2.table,.sl (k2.cols.map encI),.str k2.ref]]:=⟨fun x=>(c_instance_Validate_1 x k0 k1 k2)⟩
def Z5c (c:Cons) (row:List GV):Option Bool:=
 (bif decide (c.left < 0) then (some true) else (bif decide ((row.length:Int)≤c.left) then (some true) else (bif decide ((row.length:Int)≤c.right) then (some true) else (bif decide (0≤c.right) then (getK row c.right fun x9=>(getK row c.left fun x10=>(bindK (Z1l x10 c.op x9) fun v11=>(bif v11.1 then (some true) else (some (v11.2 != 0)))))) else (getK row c.left fun x13=>(bindK (Z1l x13 c.op c.value) fun v14=>(bif v14.1 then (some true) else (some (v14.2 != 0)))))))))
instance c_instance_Satisfies (c:Cons) (row:List GV):Con (Z5c c row) Tryz.prog 107 [.agg c.enc,.one (.d (.sl (row.map GV.enc)))] (fun r=>.one (.d (.bool r))):=by
 unfold Z5c;have p1:PH [6] (Plan.then_ [0,1,2,3,4,5,6,7,8,9,10,11,12,13] .done):=.intro;exact go 52 Tryz.func107 rfl (by kernel_rfl) rfl rfl (by simp)
def Z3q (row:List GV) (k0:Cons):Option Bool:=
 (bindK (Z5c k0 row) fun v1=>(some !v1))
instance c_instance_Validate_2 (row:List GV) (k0:Cons):Con (Z3q row k0) Tryz.prog 106 [.one (.d (.sl (row.map GV.enc))),.one (.rp [.str k0.table,.int .i64 k0.left,.str k0.op,.int .i64 k0.right,.int .i64 k0.value.kind,.int .i64 k0.value.int,.str k0.value.text])] (fun r=>.one (.d (.bool r))):=by
 unfold Z3q;exact go 8 Tryz.func106 rfl (by kernel_rfl) rfl rfl (by simp)
instance f_instance_Validate_2 (k0:Cons):ConF (fun x=>Z3q x k0) Tryz.prog (fun x=>.one (.d (.sl (x.map GV.enc)))) (fun r=>.one (.d (.bool r))) 106 [[.str k0.table,.int .i64 k0.left,.str k0.op,.int .i64 k0.right,.int .i64 k0.value.kind,.int .i64 k0.value.int,.str k0.value.text]]:=⟨fun x=>(c_instance_Validate_2 x k0)⟩
def Z5l (s_:Sch) (inst:List Rel):Option Int:=
 (bindK (Z0b s_ inst) fun v3=>(bif (v3 != 0) then (some v3) else (forK (fun (i6:Nat) (x6:Fk) (s6:Unit) next_6=>(bindK (Z12 s_ inst x6.table) fun v8=>(bindK (Z2n v8.2 (fun xa_=>Z3r xa_ s_ inst x6)) fun v10=>(bif v10 then (some 10) else (next_6 ()))))) (fun (s6:Unit)=>(forK (fun (i13:Nat) (x13:Cons) (s13:Unit) next_13=>(bindK (Z12 s_ inst x13.table) fun v15=>(bindK (Z2n v15.2 (fun xa_=>Z3q xa_ x13)) fun v17=>(bif v17 then (some 11) else (next_13 ()))))) (fun (s13:Unit)=>(some 0)) s_.cons 0 ())) s_.fks 0 ())))
instance c_instance_Validate (s_:Sch) (inst:List Rel):Con (Z5l s_ inst) Tryz.prog 73 [.agg s_.enc,.one (.d (.sl (inst.map Rel.enc)))] (fun r=>.one (.d (.int .i64 r))):=by
 unfold Z5l;have l1:LH (σ:=Unit) 23 [2,3,21,22] []:=.intro;have l2:LH (σ:=Unit) 42 [2,3,40,41] []:=.intro;exact go 58 Tryz.func73 rfl (by kernel_rfl) rfl rfl (by simp)
instance i_script_Forward (s_:Sch) (script:List Stp) (source:List Rel) (comps:List (List Rel)):Con (Z5j s_ script source comps) Tryz.prog 100 [.agg s_.enc,.one (.d (.sl (script.map Stp.enc))),.one (.d (.sl (source.map Rel.enc))),.one (.d (.sl (comps.map (encL Rel.enc))))] (fun r=>.tup [.one (.d (.sl (r.1.map Rel.enc))),.one (.d (.sl (r.2.1.map (encL Rel.enc)))),.one (.d (.int .i64 r.2.2))]):=⟨fun r hm=>Zcn s_ script source comps r hm⟩
instance i_script_Backward (s_:Sch) (script:List Stp) (target:List Rel) (comps:List (List Rel)):Con (Z51 s_ script target comps) Tryz.prog 101 [.agg s_.enc,.one (.d (.sl (script.map Stp.enc))),.one (.d (.sl (target.map Rel.enc))),.one (.d (.sl (comps.map (encL Rel.enc))))] (fun r=>.tup [.one (.d (.sl (r.1.map Rel.enc))),.one (.d (.sl (r.2.1.map (encL Rel.enc)))),.one (.d (.int .i64 r.2.2))]):=⟨fun r hm=>Zc3 s_ script target comps r hm⟩
def Z3f (s1:List (List Rel)) (s2:List (List Rel)) (eq:(List Rel)→(List Rel)→Option Bool):Option Bool:=
 (bif ((s1.length:Int) != (s2.length:Int)) then (some false) else (forK (fun (i5:Nat) (x5:List Rel) (s5:Unit) next_5=>(getK s2 (i5:Int) fun x6=>(bindK (eq x5 x6) fun v7=>(bif !v7 then (some false) else (next_5 ()))))) (fun (s5:Unit)=>(some true)) s1 0 ()))
instance i_slices_EqualFunc_Instance (s1:List (List Rel)) (s2:List (List Rel)) (eq:(List Rel)→(List Rel)→Option Bool) {g:FuncId} {caps:List (List D)} [ConG eq Tryz.prog (fun x=>.one (.d (.sl (x.map Rel.enc)))) (fun x=>.one (.d (.sl (x.map Rel.enc)))) (fun v=>.one (.d (.bool v))) g caps]:Con (Z3f s1 s2 eq) Tryz.prog 60 [.one (.d (.sl (s1.map (encL Rel.enc)))),.one (.d (.sl (s2.map (encL Rel.enc)))),.one (.fn g caps)] (fun r=>.one (.d (.bool r))):=by
 unfold Z3f;have l1:LH (σ:=Unit) 17 [1,2,15,16] []:=.intro;exact go 32 Tryz.func60 rfl (by kernel_rfl) rfl rfl (by simp)
def Z3e (s1:List Rel) (s2:List Rel) (eq:Rel→Rel→Option Bool):Option Bool:=
 (bif ((s1.length:Int) != (s2.length:Int)) then (some false) else (forK (fun (i5:Nat) (x5:Rel) (s5:Unit) next_5=>(getK s2 (i5:Int) fun x7=>(bindK (eq x5 x7) fun v9=>(bif !v9 then (some false) else (next_5 ()))))) (fun (s5:Unit)=>(some true)) s1 0 ()))
instance i_slices_EqualFunc_Relation (s1:List Rel) (s2:List Rel) (eq:Rel→Rel→Option Bool) {g:FuncId} {caps:List (List D)} [ConG eq Tryz.prog (fun x=>.agg x.enc) (fun x=>.agg x.enc) (fun v=>.one (.d (.bool v))) g caps]:Con (Z3e s1 s2 eq) Tryz.prog 75 [.one (.d (.sl (s1.map Rel.enc))),.one (.d (.sl (s2.map Rel.enc))),.one (.fn g caps)] (fun r=>.one (.d (.bool r))):=by
 unfold Z3e;have l1:LH (σ:=Unit) 17 [1,2,15,16] []:=.intro;exact go 32 Tryz.func75 rfl (by kernel_rfl) rfl rfl (by simp)
def Z4n (s1:List (List GV)) (s2:List (List GV)) (eq:(List GV)→(List GV)→Option Bool):Option Bool:=
 (bif ((s1.length:Int) != (s2.length:Int)) then (some false) else (forK (fun (i5:Nat) (x5:List GV) (s5:Unit) next_5=>(getK s2 (i5:Int) fun x6=>(bindK (eq x5 x6) fun v7=>(bif !v7 then (some false) else (next_5 ()))))) (fun (s5:Unit)=>(some true)) s1 0 ()))
instance i_slices_EqualFunc_Row (s1:List (List GV)) (s2:List (List GV)) (eq:(List GV)→(List GV)→Option Bool) {g:FuncId} {caps:List (List D)} [ConG eq Tryz.prog (fun x=>.one (.d (.sl (x.map GV.enc)))) (fun x=>.one (.d (.sl (x.map GV.enc)))) (fun v=>.one (.d (.bool v))) g caps]:Con (Z4n s1 s2 eq) Tryz.prog 108 [.one (.d (.sl (s1.map (encL GV.enc)))),.one (.d (.sl (s2.map (encL GV.enc)))),.one (.fn g caps)] (fun r=>.one (.d (.bool r))):=by
 unfold Z4n;have l1:LH (σ:=Unit) 17 [1,2,15,16] []:=.intro;exact go 32 Tryz.func108 rfl (by kernel_rfl) rfl rfl (by simp)
def Z5b (s1:List GV) (s2:List GV):Option Bool:=
 (bif ((s1.length:Int) != (s2.length:Int)) then (some false) else (forK (fun (i5:Nat) (x5:GV) (s5:Unit) next_5=>(getK s2 (i5:Int) fun x6=>(bif (!(x5.kind == x6.kind) || (!(x5.int == x6.int) || (!(x5.text == x6.text)))) then (some false) else (next_5 ())))) (fun (s5:Unit)=>(some true)) s1 0 ()))
instance c_slices_Equal_Value (s1:List GV) (s2:List GV):Con (Z5b s1 s2) Tryz.prog 110 [.one (.d (.sl (s1.map GV.enc))),.one (.d (.sl (s2.map GV.enc)))] (fun r=>.one (.d (.bool r))):=by
 unfold Z5b;have l1:LH (σ:=Unit) 13 [0,1,12] []:=.intro;have p1:PH [6] (Plan.then_ [0,1,2,3,4,5,6,7,8] .done):=.intro;exact go 26 Tryz.func110 rfl (by kernel_rfl) rfl rfl (by simp)
def Z4r (x:List GV) (y:List GV):Option Bool:=
 (bindK (Z5b x y) fun v1=>(some v1))
instance c_relation_Equal_1 (x:List GV) (y:List GV):Con (Z4r x y) Tryz.prog 109 [.one (.d (.sl (x.map GV.enc))),.one (.d (.sl (y.map GV.enc)))] (fun r=>.one (.d (.bool r))):=by
 unfold Z4r;exact go 8 Tryz.func109 rfl (by kernel_rfl) rfl rfl (by simp)
instance f_relation_Equal_1  : ConG (fun x y=>Z4r x y) Tryz.prog (fun x=>.one (.d (.sl (x.map GV.enc)))) (fun x=>.one (.d (.sl (x.map GV.enc)))) (fun r=>.one (.d (.bool r))) 109 []:=⟨fun x y=>(c_relation_Equal_1 x y)⟩
def Z6o (a:List (List GV)) (b:List (List GV)):Option Bool:=
 (bindK (Z4n a b (fun xa_ xb_=>Z4r xa_ xb_)) fun v1=>(some v1))
instance c_relation_Equal (a:List (List GV)) (b:List (List GV)):Con (Z6o a b) Tryz.prog 77 [.one (.d (.sl (a.map (encL GV.enc)))),.one (.d (.sl (b.map (encL GV.enc))))] (fun r=>.one (.d (.bool r))):=by
 unfold Z6o;exact go 8 Tryz.func77 rfl (by kernel_rfl) rfl rfl (by simp)
def Z4s (x:Rel) (y:Rel):Option Bool:=
 (bif strEq x.table y.table then (bindK (Z6o x.rows y.rows) fun v4=>(some v4)) else (some false))
instance c_instance_Equal_1 (x:Rel) (y:Rel):Con (Z4s x y) Tryz.prog 76 [.agg x.enc,.agg y.enc] (fun r=>.one (.d (.bool r))):=by
 unfold Z4s;exact go 17 Tryz.func76 rfl (by kernel_rfl) rfl rfl (by simp)
instance f_instance_Equal_1  : ConG (fun x y=>Z4s x y) Tryz.prog (fun x=>.agg x.enc) (fun x=>.agg x.enc) (fun r=>.one (.d (.bool r))) 76 []:=⟨fun x y=>(c_instance_Equal_1 x y)⟩
def Z3l (a:List Rel) (b:List Rel):Option Bool:=
 (bindK (Z3e a b (fun xa_ xb_=>Z4s xa_ xb_)) fun v1=>(some v1))
instance c_instance_Equal (a:List Rel) (b:List Rel):Con (Z3l a b) Tryz.prog 61 [.one (.d (.sl (a.map Rel.enc))),.one (.d (.sl (b.map Rel.enc)))] (fun r=>.one (.d (.bool r))):=by
 unfold Z3l;exact go 8 Tryz.func61 rfl (by kernel_rfl) rfl rfl (by simp)
instance f_instance_Equal  : ConG (fun x y=>Z3l x y) Tryz.prog (fun x=>.one (.d (.sl (x.map Rel.enc)))) (fun x=>.one (.d (.sl (x.map Rel.enc)))) (fun r=>.one (.d (.bool r))) 61 []:=⟨fun x y=>(c_instance_Equal x y)⟩
def Z4a (a:List (List Rel)) (b:List (List Rel)):Option Bool:=
 (bindK (Z3f a b (fun xa_ xb_=>Z3l xa_ xb_)) fun v1=>(some v1))
instance c_database_equalAll (a:List (List Rel)) (b:List (List Rel)):Con (Z4a a b) Tryz.prog 40 [.one (.d (.sl (a.map (encL Rel.enc)))),.one (.d (.sl (b.map (encL Rel.enc))))] (fun r=>.one (.d (.bool r))):=by
 unfold Z4a;exact go 8 Tryz.func40 rfl (by kernel_rfl) rfl rfl (by simp)
end
end Go.Proofs.YthiojhcimecdgaaGreatDoor
