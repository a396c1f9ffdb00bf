/- joined by a program out of 67 texts -/
import Derived.Test.YthiojhcimecdgaaGreatDoorJ3
import Derived.Shelf.LaysM
import Derived.Shelf.LaysC
import Derived.Test.YthiojhcimecdgaaGreatDoorProg
import Derived.Shelf.Strconv.Itoa3
import Derived.Lib.AppendIntMem
import Derived.Lib.LaidTab
import Derived.Shelf.Strings.Cut
import Derived.Shelf.Strings.Search3
set_option linter.unusedVariables false
set_option linter.unusedSimpArgs false
set_option maxRecDepth 20000
section
namespace Go.Proofs.YthiojhcimecdgaaGreatDoor
open Go Go.Am
theorem overlaps_apartValue {h:HS} {lv l:Lab} {vs:List (List D)} {nv ev off k cap:Nat} {cs:List C} (ha:h.arr lv=some (nv,ev)) (hnv:0 < nv) (hb:h.box l=some cs) (h0:0 < cs.length) :
  XSpec Tryz.prog 255 [.one (.own lv vs),.one (.mrow l off k cap)] h (.one (.d (.bool false))):=by
 intro Γ μ w vals hI hR
 obtain⟨hsz,hg⟩:=hR
 obtain⟨u0,hu0,r0⟩:=hg 0 _ rfl
 obtain⟨u1,hu1,r1⟩:=hg 1 _ rfl
 have hv:vals=#[u0,u1]:=by
  apply Array.ext_getElem?
  intro i
  match i with
  | 0=>simpa using hu0
  | 1=>simpa using hu1
  | i+2=>rw[Array.getElem?_eq_none (by simp at hsz;omega)];simp
 subst hv
 obtain⟨_,g,gcap,hlv,rfl⟩:=(show RepC μ (.own lv vs) u0 from r0)
 obtain⟨b,kk,hl,rfl,_⟩:=(show RepC μ (.mrow l off k cap) u1 from r1)
 refine⟨.bool false,?_,RepD.bool _⟩
 rw[run_callFunc_extern (fn:=Tryz.f255) Tryz.func255 (by kernel_rfl) (by kernel_rfl) (by kernel_rfl) (e:=Extern.SlicesOverlaps.overlaps #[43,43] #[4]) (by kernel_rfl)]
 obtain⟨b2,n2,T2,conc2,hl2,_,hh2,hR2,_⟩:=hI.box l cs hb
 rw[hl] at hl2
 cases hl2
 obtain⟨gc,hgc,hrow⟩:=hI.arr lv ev nv ha
 rw[hlv] at hgc
 cases hgc
 cases g with
 | none=>
   have:=(hrow.1 rfl).2
   omega
 | some g=>
   obtain⟨_,T1,cur,hh1,_⟩:=hrow.2 g rfl
   have hne:g≠b:=by
    rintro rfl
    have:=hI.inj lv l g gcap kk (.inr (by rw[ha];simp)) (.inl (by rw[hb];simp)) hlv hl
    subst this
    exact hI.both lv (by rw[hb];simp) (by rw[ha];simp)
   have hcl:conc2.size=cs.length:=hR2.1
   obtain⟨i,z,hu,hi,hsz,_⟩:=elT_some ty_el43
   show Result.andThen (Sem.run Tryz.prog (Extern.SlicesOverlaps.overlaps #[43,43] #[4] #[.slice (some ⟨g,0,none⟩) vs.length gcap,.slice (some ⟨b,off,none⟩) k cap]) w) _=_
   rw[Lib.run_overlaps_apart w 43 4 46 hu i.size (fun w=>by simp[sizeOf,typeInfo,hi]) ⟨g,0,none⟩ ⟨b,off,none⟩ vs.length gcap k cap hne T1 T2 cur.size conc2.size (by simp[World.shape?,hh1]) (by simp[World.shape?,hh2]) (by omega) (by simp[World.frozen?,hh1]) (by simp[World.frozen?,hh1])]
   rfl
theorem flat_mr {h:HS} {n:Nat} {l:Lab} {cap m:Nat} {xs:List (List C)} {cs sp:List C} (hall:AllC n xs) (hb:h.box l=some cs) (hcs:cs=xs.flatten++sp) (hl:cs.length=cap * n) (hm:xs.length=m) (hlim:xs.length≤2097152):MR h n (.mrow l 0 m cap) xs:=by
 subst hcs hm
 exact⟨hall,hlim,.inr ⟨l,cap,sp,rfl,hb,hl⟩⟩
theorem flat_cells {h:HS} {n:Nat} {l:Lab} {cs r:List C} {off k cap:Nat} (hb:h.box l=some cs) (hk:off+k * n≤cs.length) (hr:(cs.drop off).take (k * n)=r):rowCells h n (.mrow l off k cap)=some r:=by
 simp only[rowCells,hb,takeN]
 rw[if_pos (by simp;omega),hr]
set_option maxHeartbeats 4000000 in
theorem h_slices_Insert_Value (h:HS) (c:C) (xs:List (List C)) (lv:Lab) (d:List D) (i:Nat) (hm:MR h 3 c xs) (hlb:∀ k ∈ labs c,k.1 < h.ep) (hi:i≤xs.length) (ha:h.arr lv=some (1,3)) (hd:d.length=3) (hlim:xs.length+1≤2097152) (K:V→HS→Prop)
  (hk:∀ c' h',MR h' 3 c' (xs.take i++[d.map C.d]++xs.drop i)→Same h h' (labs c)→(∀ k ∈ labs c',k ∈ labs c∨(h.ep≤k.1∧k.1 < h'.ep))→K (.one c') h') :
  HSpec Tryz.prog 237 [.one c,.one (.d (.int .i64 (i:Int))),.one (.own lv [d])] h K:=by
 refine HSpec.of_vc Tryz.func237 rfl (by kernel_rfl) (n:=95) rfl rfl (by simp) ?_
 have hV:(d.map C.d).length=3:=by simp[hd]
 have hallN:AllC 3 (xs.take i++[d.map C.d]++xs.drop i):=by
  refine AllC.append.2 ⟨AllC.append.2 ⟨hm.1.take,by intro x hx;rw[List.mem_singleton.1 hx];exact hV⟩,hm.1.drop⟩
 rcases hm.2.2 with ⟨h1,hcz⟩ | ⟨l,cap,sp,rfl,hb,hcap⟩
 ·subst h1
  obtain rfl:i=0:=by simpa using hi
  rcases hcz with rfl | rfl
  all_goals
   simp
   refine zerosK_app ty_sl43 ?_
   refine app_mr ty_el44 (by kernel_rfl) (by decide) (by decide) hm (RowAt.own1 hd) (by simp) (fun c' h' hm' hs' hl'=>?_)
   simp
   exact hk _ _ (by simpa using hm') hs' hl'
 ·obtain⟨A,hA⟩:∃ A,(xs.take i).flatten=A:=⟨_,rfl⟩
  obtain⟨B,hB⟩:∃ B,(xs.drop i).flatten=B:=⟨_,rfl⟩
  have hAl:A.length=i * 3:=by rw[← hA,(AllC.take hm.1).flatten,List.length_take,Nat.min_eq_left hi]
  have hBl:B.length=(xs.length - i) * 3:=by rw[← hB,(AllC.drop hm.1).flatten,List.length_drop]
  have hF:xs.flatten=A++B:=by rw[← hA,← hB,← List.flatten_append,List.take_append_drop]
  have hNF:∀ s:List C,(xs.take i++[d.map C.d]++xs.drop i).flatten++s=A++d.map C.d++B++s:=by intro s;rw[List.flatten_append,List.flatten_append,hA,hB];simp
  have hNl:(xs.take i++[d.map C.d]++xs.drop i).length=xs.length+1:=by simp;omega
  rw[rowBox,hF] at hb hcap
  simp only[List.length_append,hAl,hBl] at hcap
  generalize hV0:d.map C.d=V0 at hk hV hallN hNF hNl
  simp
  refine opt_slice ⟨by omega,by omega⟩ (fun _=>?_) (fun _=>?_)
  all_goals
   simp
   refine condV_of (fun he=>?_) (fun he=>?_)
   ·have hir:i=xs.length:=by simp at he;omega
    subst hir
    simp
    refine zerosK_app ty_sl43 ?_
    refine app_mr ty_el44 (by kernel_rfl) (by decide) (by decide) hm (RowAt.own1 hd) (by simp;omega) (fun c' h' hm' hs' hl'=>?_)
    simp
    exact hk _ _ (by simpa[hV0] using hm') hs' hl'
   ·have hir:i < xs.length:=by
     have:(i:Int)≠xs.length:=by simpa using he
     omega
    have hw1:IntKind.i64.wrap ((xs.length:Int)+1)=(xs.length:Int)+1:=IntWalk.i64_in _ (by omega)
    have hw2:IntKind.i64.wrap ((i:Int)+1)=(i:Int)+1:=IntWalk.i64_in _ (by omega)
    simp[hw1]
    refine capK_mrow ty_el44 ?_
    simp[hw1,hw2]
    refine condV_dec (fun hlt=>?_) (fun hge=>?_)
    ·have hlt':cap < xs.length+1:=by omega
     have hic:i≤cap:=by omega
     have hc0:0 < cap:=by omega
     have hw3:IntKind.i64.wrap ((xs.length:Int)+1 - i)=(xs.length:Int)+1 - i:=IntWalk.i64_in _ (by omega)
     simp[hw1,hw2,hw3]
     refine opt_slice (by omega) (fun _=>?_) (fun h9=>absurd hc0 (by simpa using h9))
     simp[hw1,hw2,hw3]
     have hN:i+((xs.length:Int)+1 - i).toNat=xs.length+1:=by omega
     refine zerosK_mr ty_el44 (by decide) (kk:=.i64) rfl (by kernel_rfl) (by decide) (by decide) (by omega) (by show (i:Int)+_≤2097152;omega) (by omega) (old:=A) (flat_cells hb (by simp only[List.length_append,hAl,hBl];omega) (by rw[List.drop_zero,List.append_assoc,← hAl];simp)) hAl (fun cap' hcap'=>?_)
     rw[hN] at hcap' ⊢
     have hic':i < cap':=by omega
     simp[hw1,hw2,hw3]
     refine opt_slice (by omega) (fun _=>?_) (fun h9=>absurd hic' (by simpa using h9))
     simp[hw1,hw2,hw3]
     have hz:(0:Int)≤(i:Int)+1:=by omega
     refine copyK2_of ty_sl43 ?_
     refine copyK_row (n:=3) (new:=V0) (m:=1) (mk:=1) (cs':=A++V0++List.replicate ((cap' - i) * 3 - 3) .any) ty_el44 (by simp[rowCells,C.list?,hd,hV0]) (by simp[cLen,C.list?]) (by simp;rfl) (by decide) (by simpa using hV) (by simp only[List.length_append,List.length_replicate,hAl];omega) (by omega) (by rw[List.take_of_length_le (by omega),setCells_app hAl.symm,hV];simp) ?_
     simp[hw1,hw2,hw3]
     refine Wait.cut (Plan.then_ [0,1,2,3,4,5,6,7,8] .done) follows (by kernel_rfl) (fun e1 h1=>e1.n=95∧e1.get 9=.one (.mrow (h.ep,640) 0 (xs.length+1) cap')∧h1.box (h.ep,640)=some (A++V0++B++List.replicate ((cap' - (xs.length+1)) * 3) .any)∧Same h h1 []∧h.ep < h1.ep) ?_ ?_
     ·simp[hw1,hw2,hw3,Plan.then_,vcPlan,planOps,isCallAt,callKind]
      simp only[hz,if_true]
      refine opt_slice (by simp;omega) (fun _=>?_) (fun h9=>absurd (show i+1 < cap' by omega) (by simpa using h9))
      simp[hw1,hw2,hw3,Plan.then_,vcPlan,planOps,isCallAt,callKind]
      refine opt_slice (by omega) (fun _=>?_) (fun h9=>absurd (show i < cap by omega) (by simpa using h9))
      simp[hw1,hw2,hw3,Plan.then_,vcPlan,planOps,isCallAt,callKind]
      have hll:l.1 < h.ep:=hlb l (by simp[labs])
      have hne:l≠(h.ep,640):=by rintro rfl;simp at hll
      refine copyK_row (n:=3) (new:=B) (m:=xs.length - i) (mk:=xs.length - i) (cs:=A++V0++List.replicate ((cap' - i) * 3 - 3) .any) (cs':=A++V0++B++List.replicate ((cap' - (xs.length+1)) * 3) .any) ty_el44
       (flat_cells (cs:=A++B++sp) (by simp[hne,hb]) (by simp only[List.length_append,hAl,hBl];omega) (by rw[List.append_assoc,← hAl,List.drop_left,← hBl,List.take_left])) rfl (by simp) (by decide) hBl (by simp only[List.length_append,List.length_replicate,hAl,hV];omega) (by omega) ?_ ?_
      ·rw[← hBl,List.take_of_length_le (Nat.le_refl _),setCells_app (a:=A++V0) (by simp only[List.length_append,hAl,hV];omega),hBl]
       have e9:(cap' - i) * 3 - 3 - (xs.length - i) * 3=(cap' - (xs.length+1)) * 3:=by omega
       simp[e9]
      ·refine CutK.of ?_
       simp
       exact (((Same.refl.setBox (.inr (by simp))).next).setBox (.inr (by simp))).setBox (.inr (by simp))
     ·rintro e1 h1 ⟨hn,h9,hb1,hs1,he1⟩
      simp[hn,h9]
      refine hk _ _ ?_ (hs1.mono (by simp)) (by simp[labs];exact .inr (by omega))
      exact flat_mr hallN hb1 (hNF _).symm (by simp only[List.length_append,List.length_replicate,hAl,hBl,hV];omega) hNl (by rw[hNl];omega)
    ·have hge':xs.length+1≤cap:=by omega
     have hic:i < cap:=by omega
     have hz:(0:Int)≤(xs.length:Int)+1:=by omega
     have hz2:(0:Int)≤(i:Int)+1:=by omega
     have hN:((xs.length:Int)+1).toNat=xs.length+1:=by omega
     simp[hw1,hw2,hz,hz2,hN]
     refine opt_slice (by omega) (fun _=>?_) (fun h9=>absurd (show 0 < cap by omega) (by simpa using h9))
     simp[hw1,hw2,hz,hz2,hN]
     refine opt_slice (by omega) (fun _=>?_) (fun h9=>absurd (show i+1 < cap by omega) (by simpa using h9))
     simp[hw1,hw2,hz,hz2,hN]
     refine callK_x (overlaps_apartValue ha (by decide) hb (by simp only[List.length_append,hAl,hBl];omega)) ?_
     simp[hw1,hw2,hz,hz2,hN]
     obtain⟨s0,sp1,rfl,hs0⟩:∃ s0 sp1,sp=s0++sp1∧s0.length=3:=⟨sp.take 3,sp.drop 3,(List.take_append_drop _ _).symm,by rw[List.length_take];omega⟩
     simp only[List.length_append,hs0] at hcap
     have hll:l.1 < h.ep:=hlb l (by simp[labs])
     obtain⟨b0,B1,rfl,hb0⟩:∃ b0 B1,B=b0++B1∧b0.length=3:=⟨B.take 3,B.drop 3,(List.take_append_drop _ _).symm,by rw[List.length_take];omega⟩
     have hB1:B1.length=(xs.length - i) * 3 - 3:=by simp only[List.length_append,hb0] at hBl;omega
     have hBl':=hBl
     generalize hBB:b0++B1=BB at hBl' hNF
     refine Wait.cut (Plan.then_ [0,1,2,3,4,5,6,7,8] .done) follows (by kernel_rfl) (fun e1 h1=>e1.n=95∧e1.get 0=.one (.mrow l 0 (xs.length+1) cap)∧e1.get 1=.one (.d (.int .i64 (i:Int)))∧e1.get 2=.one (.own lv [d])∧h1.box l=some (A++b0++BB++sp1)∧Same h h1 [l]) ?_ ?_
     ·simp[hw1,hw2,hz,hz2,hN,Plan.then_,vcPlan,planOps,isCallAt,callKind]
      refine opt_slice (by omega) (fun _=>?_) (fun h9=>absurd (show i+1 < cap by omega) (by simpa using h9))
      simp[hw1,hw2,hz,hz2,hN,Plan.then_,vcPlan,planOps,isCallAt,callKind]
      refine opt_slice (by omega) (fun _=>?_) (fun h9=>absurd (show i < cap by omega) (by simpa using h9))
      simp[hw1,hw2,hz,hz2,hN,Plan.then_,vcPlan,planOps,isCallAt,callKind]
      refine copyK_row (n:=3) (new:=BB++s0) (m:=xs.length+1 - i) (mk:=xs.length - i) (cs:=A++(b0++B1)++(s0++sp1)) (cs':=A++b0++BB++sp1) ty_el44
       (flat_cells (cs:=A++(b0++B1)++(s0++sp1)) (by simp[hb]) (by simp only[List.length_append,hAl,hb0,hB1,hs0];omega) (by
        rw[hBB,List.append_assoc,← hAl,List.drop_left,← List.append_assoc]
        have:(xs.length+1 - i) * 3=(BB++s0).length:=by simp only[List.length_append,hBl',hs0];omega
        rw[this,List.take_left])) rfl (by simp[hb]) (by decide) (by simp only[List.length_append,hBl',hs0];omega) (by simp only[List.length_append,hAl,hb0,hB1,hs0];omega) (by omega) ?_ ?_
      ·have e10:(BB++s0).take ((xs.length - i) * 3)=BB:=by rw[← hBl',List.take_left]
       have e11:A++(b0++B1)++(s0++sp1)=(A++b0)++(B1++s0++sp1):=by simp
       have e12:(B1++s0++sp1).drop BB.length=sp1:=by
        have:BB.length=(B1++s0).length:=by rw[hBl'];simp only[List.length_append,hB1,hs0];omega
        rw[this,List.drop_left]
       rw[e10,e11,setCells_app (by simp only[List.length_append,hAl,hb0];omega),e12]
      ·refine CutK.of ?_
       simp
       exact Same.refl.setBox (.inl (by simp))
     ·rintro e1 h1 ⟨hn,h0,h1',h2,hb1,hs1⟩
      simp[hn,h0,h1',h2]
      refine opt_slice (by omega) (fun _=>?_) (fun h9=>absurd hic (by simpa using h9))
      simp[hn,h0,h1',h2]
      refine copyK2_of ty_sl43 ?_
      refine copyK_row (n:=3) (new:=V0) (m:=1) (mk:=1) (cs:=A++b0++BB++sp1) (cs':=A++V0++BB++sp1) ty_el44 (by simp[rowCells,C.list?,hd,hV0]) (by simp[cLen,C.list?]) (by simp[hb1]) (by decide) (by simpa using hV) (by simp only[List.length_append,hAl,hb0,hBl'];omega) (by omega) ?_ ?_
      ·have e13:A++b0++BB++sp1=A++(b0++BB++sp1):=by simp
       have e14:(b0++BB++sp1).drop b0.length=BB++sp1:=by rw[List.append_assoc,List.drop_left]
       rw[List.take_of_length_le (by omega),e13,setCells_app hAl.symm,hV,← hb0,e14]
       simp
      ·simp[hn,h0]
       refine hk _ _ ?_ ((hs1.setBox (.inl (by simp))).mono (by simp[labs])) (by simp[labs])
       exact flat_mr (cs:=A++V0++BB++sp1) (sp:=sp1) hallN (by simp) (hNF _).symm (by simp only[List.length_append,hAl,hBl',hV];omega) hNl (by rw[hNl];omega)
end Go.Proofs.YthiojhcimecdgaaGreatDoor
end
section
namespace Go.Am
open Go
open Go.RowKit (Below)
section
variable {P:Program} {w:World} {a:Act} {e:Env} {h:HS} {μ:Mem} {Γ:Ctx}
def HS.only (h:HS) (ls:List Lab):HS:={ h with box:=fun l=>if l ∈ ls then h.box l else none,arr:=fun _=>none }
def HS.sans (h:HS) (ls:List Lab):HS:={ h with box:=fun l=>if l ∈ ls then none else h.box l }
open Classical in
noncomputable def Mem.frz (μ:Mem) (h:HS) (ls:List Lab) (w:World):Mem:=
 { μ with cell:=fun b o=>match μ.cell b o with
   | some v=>some v
   | none=>if ∃ l cs n,l ∈ ls∧h.box l=some cs∧μ.loc l=some (some b,n) then w.cell? ⟨b,o,none⟩ else none }
theorem Mem.frz_cell {ls:List Lab} {b o:Nat} {v:Value} (hv:(μ.frz h ls w).cell b o=some v):μ.cell b o=some v∨((∃ l cs n,l ∈ ls∧h.box l=some cs∧μ.loc l=some (some b,n))∧w.cell? ⟨b,o,none⟩=some v):=by
 simp only[Mem.frz] at hv
 cases hx:μ.cell b o with
 | some y=>rw[hx] at hv;exact .inl hv
 | none=>
   rw[hx] at hv
   simp only at hv
   split at hv
   ·rename_i hq;exact .inr ⟨hq,hv⟩
   ·cases hv
theorem Mem.frz_none {ls:List Lab} {b o:Nat} (h1:μ.cell b o=none) (h2:∀ l cs n,l ∈ ls→h.box l=some cs→μ.loc l=some (some b,n)→False):(μ.frz h ls w).cell b o=none:=by
 simp only[Mem.frz,h1]
 rw[if_neg]
 rintro⟨l,cs,n,q1,q2,q3⟩
 exact h2 l cs n q1 q2 q3
theorem Mem.frz_le {ls:List Lab}:Mem.Le μ (μ.frz h ls w):=⟨fun b o v hv=>by simp[Mem.frz,hv],rfl,fun _ _ hx=>hx⟩
theorem Inv.only (hI:Inv Γ h μ w) (ls:List Lab):Inv Γ (h.only ls) μ w:=by
 have hb:∀ {l cs},(h.only ls).box l=some cs→h.box l=some cs:=by
  intro l cs hl
  simp only[HS.only] at hl
  split at hl
  ·exact hl
  ·cases hl
 have hv:∀ {l},(h.only ls).live l→h.live l:=by
  rintro l (hl | hl)
  ·cases hx:(h.only ls).box l with
   | none=>exact absurd hx hl
   | some cs=>exact .inl (by rw[hb hx];simp)
  ·exact absurd rfl hl
 exact⟨hI.cell,hI.tmp,hI.tcell,hI.told,hI.ext,hI.old,hI.below,fun l cs hl=>hI.box l cs (hb hl),fun l es n hl=>by simp[HS.only] at hl,fun l l' b n n' h1 h2=>hI.inj l l' b n n' (hv h1) (hv h2),hI.lt,fun l _ hl=>hl rfl⟩
theorem Inv.frz (hI:Inv Γ h μ w) (ls:List Lab):Inv Γ (h.sans ls) (μ.frz h ls w) w:=by
 have hb:∀ {l cs},(h.sans ls).box l=some cs→h.box l=some cs∧l ∉ ls:=by
  intro l cs hl
  simp only[HS.sans] at hl
  split at hl
  ·cases hl
  ·exact⟨hl,by assumption⟩
 have hv:∀ {l},(h.sans ls).live l→h.live l:=by
  rintro l (hl | hl)
  ·cases hx:(h.sans ls).box l with
   | none=>exact absurd hx hl
   | some cs=>exact .inl (by rw[(hb hx).1];simp)
  ·exact .inr hl
 refine⟨fun b o v hq=>?_,hI.tmp,hI.tcell,hI.told,fun b o v hq=>Mem.frz_le.cell _ _ _ (hI.ext _ _ _ hq),fun b o v hlt hq=>?_,hI.below,fun l cs hl=>?_,fun l es n hl=>?_,fun l l' b n n' h1 h2=>hI.inj l l' b n n' (hv h1) (hv h2),hI.lt,fun l h1 h2=>?_⟩
 ·rcases Mem.frz_cell hq with h1 | ⟨_,h1⟩
  ·exact hI.cell _ _ _ h1
  ·exact h1
 ·rcases Mem.frz_cell hq with h1 | ⟨⟨l,cs,n,_,q2,q3⟩,_⟩
  ·exact hI.old _ _ _ hlt h1
  ·obtain⟨b',n',T,conc,h1,h2,_⟩:=hI.box l cs q2
   rw[q3] at h1
   cases h1
   omega
 ·obtain⟨h1,h2⟩:=hb hl
  obtain⟨b,n,T,conc,q1,q2,q3,q4,q5⟩:=hI.box l cs h1
  refine⟨b,n,T,conc,q1,q2,q3,q4.mono Mem.frz_le,fun o=>Mem.frz_none (q5 o) fun l' cs' n' r1 r2 r3=>?_⟩
  have:=hI.inj l l' b n n' (.inl (by rw[h1];simp)) (.inl (by rw[r2];simp)) q1 r3
  subst this
  exact h2 r1
 ·obtain⟨gc,q1,q2⟩:=hI.arr l es n hl
  refine⟨gc,q1,q2.1,fun g hg=>?_⟩
  obtain⟨r1,T,cur,r2,r3,r4,r5,r6⟩:=q2.2 g hg
  refine⟨r1,T,cur,r2,r3,r4,r5,fun o ho=>Mem.frz_none (r6 o ho) fun l' cs' n' s1 s2 s3=>?_⟩
  have hl':h.arr l≠none:=by
   have:h.arr l=some (n,es):=hl
   rw[this];simp
  obtain⟨g1,g2⟩:=gc
  simp only at hg
  subst hg
  have:=hI.inj l l' g g2 n' (.inr hl') (.inl (by rw[s2];simp)) q1 s3
  subst this
  exact hI.both l (by rw[s2];simp) hl'
 ·cases hx:(h.sans ls).box l with
  | none=>exact h1 hx
  | some cs=>exact hI.both l (by rw[(hb hx).1];simp) h2
theorem frz_done (hI:Inv Γ h μ w) (ls:List Lab) {c:C} {x:D} {v:Value} (hf:Frz (h.only ls) c x) (hc:RepC μ c v):RepD (μ.frz h ls w).cell x v:=by
 refine frz_rep (hI.only ls) Mem.frz_le.cell (fun l cs b n o u hb hl hu=>?_) hf hc
 simp only[HS.only] at hb
 split at hb
 ·rename_i hm
  obtain⟨b',n',T,conc,q1,_,_,_,q5⟩:=hI.box l cs hb
  rw[hl] at q1
  simp only[Option.some.injEq,Prod.mk.injEq] at q1
  obtain⟨rfl,_⟩:=q1
  simp only[Mem.frz,q5 o]
  rw[if_pos ⟨l,cs,n,hm,hb,hl⟩]
  exact hu
 ·cases hb
def FrzC (h:HS) (c c':C):Prop:=c=c'∨∃ x,c'=.d x∧Frz h c x
def FrzCs' (h:HS):List C→List C→Prop
 | [],[]=>True
 | c::cs,x::xs=>FrzC h c x∧FrzCs' h cs xs
 | _,_=>False
def FrzV (h:HS):V→V→Prop
 | .one c,.one c'=>FrzC h c c'
 | .agg cs,.agg cs'=>FrzCs' h cs cs'
 | v,v'=>v=v'
def FrzVs' (h:HS):List V→List V→Prop
 | [],[]=>True
 | v::vs,x::xs=>FrzV h v x∧FrzVs' h vs xs
 | _,_=>False
def FrzR (h:HS):V→V→Prop
 | .tup vs,.tup vs'=>FrzVs' h vs vs'
 | v,v'=>FrzV h v v'
theorem FrzCs'.get:∀ {cs cs':List C},FrzCs' h cs cs'→cs.length=cs'.length∧∀ (i:Nat) c',cs'[i]?=some c'→∃ c,cs[i]?=some c∧FrzC h c c'
 | [],[],_=>⟨rfl,fun i x hi=>by simp at hi⟩
 | c::cs,y::xs,hr=>by
   obtain⟨h1,h2⟩:=FrzCs'.get hr.2
   refine⟨by simp[h1],fun i x hi=>?_⟩
   cases i with
   | zero=>simp at hi;subst hi;exact⟨c,by simp,hr.1⟩
   | succ i=>obtain⟨c',h3,h4⟩:=h2 i x (by simpa using hi);exact⟨c',by simpa using h3,h4⟩
 | [],_::_,hr=>hr.elim
 | _::_,[],hr=>hr.elim
theorem FrzVs'.get:∀ {cs cs':List V},FrzVs' h cs cs'→cs.length=cs'.length∧∀ (i:Nat) c',cs'[i]?=some c'→∃ c,cs[i]?=some c∧FrzV h c c'
 | [],[],_=>⟨rfl,fun i x hi=>by simp at hi⟩
 | c::cs,y::xs,hr=>by
   obtain⟨h1,h2⟩:=FrzVs'.get hr.2
   refine⟨by simp[h1],fun i x hi=>?_⟩
   cases i with
   | zero=>simp at hi;subst hi;exact⟨c,by simp,hr.1⟩
   | succ i=>obtain⟨c',h3,h4⟩:=h2 i x (by simpa using hi);exact⟨c',by simpa using h3,h4⟩
 | [],_::_,hr=>hr.elim
 | _::_,[],hr=>hr.elim
theorem FrzC.rep (hI:Inv Γ h μ w) (ls:List Lab) {c c':C} {v:Value} (hf:FrzC (h.only ls) c c') (hc:RepC μ c v):RepC (μ.frz h ls w) c' v:=by
 rcases hf with rfl | ⟨x,rfl,hf⟩
 ·exact hc.mono Mem.frz_le
 ·exact frz_done hI ls hf hc
theorem FrzV.rep1 (hI:Inv Γ h μ w) (ls:List Lab) {v v':V} {u:Value} (hf:FrzV (h.only ls) v v') (hv:RepV1 μ v u):RepV1 (μ.frz h ls w) v' u:=by
 cases v with
 | one c=>cases v'<;>first | exact FrzC.rep hI ls hf hv | cases hf
 | agg cs=>
   cases v' with
   | agg cs'=>
     obtain⟨vs,h1,h2⟩:=hv
     obtain⟨h3,h4⟩:=FrzCs'.get hf
     refine⟨vs,h1,by rw[h2.1,h3],fun i c' hi=>?_⟩
     obtain⟨c,h5,h6⟩:=h4 i c' hi
     obtain⟨u',h7,h8⟩:=h2.2 i c h5
     exact⟨u',h7,h6.rep hI ls h8⟩
   | _=>cases hf
 | top=>cases v'<;>first | trivial | cases hf
 | undef=>cases v'<;>first | exact hv | cases hf
 | tup vs=>exact hv.elim
theorem FrzV.rep (hI:Inv Γ h μ w) (ls:List Lab) {v v':V} {u:Value} (hf:FrzV (h.only ls) v v') (hv:RepV μ v u):RepV (μ.frz h ls w) v' u:=by
 cases v with
 | tup vs=>cases v'<;>first | (cases hf;done) | (cases hf;exact hv.mono Mem.frz_le)
 | one c=>have:=FrzV.rep1 (u:=u) hI ls hf (v:=.one c) hv;cases v'<;>first | exact this | cases hf
 | agg c=>have:=FrzV.rep1 (u:=u) hI ls hf (v:=.agg c) hv;cases v'<;>first | exact this | cases hf
 | top=>have:=FrzV.rep1 (u:=u) hI ls hf (v:=.top) hv;cases v'<;>first | exact this | cases hf
 | undef=>have:=FrzV.rep1 (u:=u) hI ls hf (v:=.undef) hv;cases v'<;>first | exact this | cases hf
theorem FrzR.rep (hI:Inv Γ h μ w) (ls:List Lab) {v v':V} {u:Value} (hf:FrzR (h.only ls) v v') (hv:RepV μ v u):RepV (μ.frz h ls w) v' u:=by
 cases v with
 | tup vs=>
   cases v' with
   | tup vs'=>
     obtain⟨us,h1,h2,h3⟩:=hv
     obtain⟨h4,h5⟩:=FrzVs'.get hf
     refine⟨us,h1,by rw[h2,h4],fun i x hi=>?_⟩
     obtain⟨y,h6,h7⟩:=h5 i x hi
     obtain⟨u',h8,h9⟩:=h3 i y h6
     exact⟨u',h8,h7.rep1 hI ls h9⟩
   | _=>cases hf
 | one c=>exact FrzV.rep (v:=.one c) hI ls (by cases v'<;>exact hf) hv
 | agg c=>exact FrzV.rep (v:=.agg c) hI ls (by cases v'<;>exact hf) hv
 | top=>exact FrzV.rep (v:=.top) hI ls (by cases v'<;>exact hf) hv
 | undef=>exact FrzV.rep (v:=.undef) hI ls (by cases v'<;>exact hf) hv
theorem FrzC.refl {c:C}:FrzC h c c:=.inl rfl
theorem FrzV.refl {v:V}:FrzV h v v:=by
 have hcs:∀ cs:List C,FrzCs' h cs cs:=by intro cs;induction cs with | nil=>trivial | cons c cs ih=>exact⟨.refl,ih⟩
 cases v<;>first | exact .inl rfl | exact hcs _ | rfl
theorem HSpec.frz_args {f:FuncId} {vs vs':List V} {K:V→HS→Prop} (ls:List Lab) (hf:FrzVs' (h.only ls) vs vs') (hs:HSpec P f vs' (h.sans ls) K):HSpec P f vs h K:=by
 refine⟨hs.1,fun Γ μ w vals hI hR=>?_⟩
 obtain⟨h4,h5⟩:=FrzVs'.get hf
 refine (hs.2 Γ (μ.frz h ls w) w vals (hI.frz ls) ⟨by rw[hR.1,h4],fun i x hi=>?_⟩).mono ?_
 ·obtain⟨y,h6,h7⟩:=h5 i x hi
  obtain⟨u',h8,h9⟩:=hR.2 i y h6
  exact⟨u',h8,h7.rep hI ls h9⟩
 ·rintro en w' ⟨u,v,h',μ',rfl,hk,hI',hr,hle⟩
  exact⟨u,v,h',μ',rfl,hk,hI',hr,Mem.frz_le.trans hle⟩
theorem HSpec.frz_res {f:FuncId} {vs:List V} {K:V→HS→Prop} (hs:HSpec P f vs h (fun v h'=>∃ (ls:List Lab) (v':V),FrzR (h'.only ls) v v'∧K v' (h'.sans ls))):HSpec P f vs h K:=by
 refine⟨hs.1,fun Γ μ w vals hI hR=>?_⟩
 refine (hs.2 Γ μ w vals hI hR).mono ?_
 rintro en w' ⟨u,v,h',μ',rfl,⟨ls,v',hf,hk⟩,hI',hr,hle⟩
 exact⟨u,v',_,_,rfl,hk,hI'.frz ls,hf.rep hI' ls hr,hle.trans Mem.frz_le⟩
theorem SWP.frz {c:Code} {Q:Exit→Env→HS→Prop} {t:Nat} {x:C} {d:D} (ls:List Lab) (he:e.get t=.one x) (hf:Frz (h.only ls) x d) (hs:SWP P c Q (e.put (some t) (.one (.d d))) (h.sans ls)):SWP P c Q e h:=by
 intro Γ a w μ hI hE
 refine Code.wp_mono (fun ex a' w'=>?_) (hs Γ a w (μ.frz h ls w) (hI.frz ls) ⟨hE.1,hE.2.1,fun k=>?_⟩)
 ·rintro⟨e',h',μ',hq,hI',hE',hle⟩
  exact⟨e',h',μ',hq,hI',hE',Mem.frz_le.trans hle⟩
 ·by_cases hk:k=t
  ·subst hk
   have:=hE.2.2 k
   rw[he] at this
   simp only[Env.put,if_true]
   exact frz_done hI ls hf this
  ·simp only[Env.put,if_neg hk]
   exact (hE.2.2 k).mono Mem.frz_le
end
end Go.Am
end
section
namespace Go.Proofs.YthiojhcimecdgaaGreatDoor
open Go.Am
set_option maxRecDepth 20000
def m_lens_mapping__output (m:Mp) (table:ByteArray):Option Tbl:=
 (bindK (m_schema_FindTable m.dst table) fun v2=>(getK m.dst.tables v2.1 fun x3=>(some x3)))
instance c_lens_mapping__output (m:Mp) (table:ByteArray):Con (m_lens_mapping__output m table) Tryz.prog 235 [.one (.rp m.enc),.one (.d (.str table))] (fun r=>.agg (r.enc.map RC.d)):=by
 unfold m_lens_mapping__output
 exact go 24 Tryz.func235 rfl (by kernel_rfl) rfl rfl (by simp)
set_option maxRecDepth 20000
def m_lens_mapping__lookup (m:Mp) (key:List GV):Option ((List GV) × Bool):=
 (getK m.cs.tables 0 fun x1=>(getK m.comp 0 fun x3=>(bindK (m_relation_Find x1 x3.rows key) fun v4=>(bif !v4.2 then (some ([],false)) else (getK x3.rows v4.1 fun x6=>(chkK (0≤(x1.pk.length:Int)∧(x1.pk.length:Int)≤(x6.length:Int)∧(x6.length:Int)≤(x6.length:Int)) (bindK (m_slices_Clone_Value ((x6.take x6.length).drop x1.pk.length)) fun v9=>(some (v9,true)))))))))
instance c_lens_mapping__lookup (m:Mp) (key:List GV):Con (m_lens_mapping__lookup m key) Tryz.prog 236 [.one (.rp m.enc),.one (.d (.sl (key.map GV.enc)))] (fun r=>.tup [.one (.d (.sl (r.1.map GV.enc))),.one (.d (.bool r.2))]):=by
 unfold m_lens_mapping__lookup
 have p1:PH [6] (Plan.then_ [0,1,2,3,4,5,6,7,8,9,10] .done):=.intro
 exact go 42 Tryz.func236 rfl (by kernel_rfl) rfl rfl (by simp)
set_option maxRecDepth 20000
def m_slices_IndexFunc_Column (s_:List Col) (f:Col→Option Bool):Option Int:=
 (forK (fun (i2:Nat) (x2:Col) (s2:Unit) next_2=>(bindK (f x2) fun v3=>(bif v3 then (some (i2:Int)) else (next_2 ())))) (fun (s2:Unit)=>(some (-1))) s_ 0 ())
instance i_slices_IndexFunc_Column (s_:List Col) (f:Col→Option Bool) {g:FuncId} {caps:List (List D)} [ConF f Tryz.prog (fun x=>.agg x.enc) (fun v=>.one (.d (.bool v))) g caps]:Con (m_slices_IndexFunc_Column s_ f) Tryz.prog 151 [.one (.d (.sl (s_.map Col.enc))),.one (.fn g caps)] (fun r=>.one (.d (.int .i64 r))):=by
 unfold m_slices_IndexFunc_Column
 have l1:LH (σ:=Unit) 8 [0,1,7] []:=.intro
 exact go 19 Tryz.func151 rfl (by kernel_rfl) rfl rfl (by simp)
set_option maxRecDepth 20000
def m_schema_FindColumn_1 (c:Col) (k0:ByteArray):Option Bool:=
 (some (strEq c.name k0))
instance c_schema_FindColumn_1 (c:Col) (k0:ByteArray):Con (m_schema_FindColumn_1 c k0) Tryz.prog 152 [.agg c.enc,.one (.rp [.str k0])] (fun r=>.one (.d (.bool r))):=by
 unfold m_schema_FindColumn_1
 exact go 8 Tryz.func152 rfl (by kernel_rfl) rfl rfl (by simp)
instance f_schema_FindColumn_1 (k0:ByteArray):ConF (fun x=>m_schema_FindColumn_1 x k0) Tryz.prog (fun x=>.agg x.enc) (fun r=>.one (.d (.bool r))) 152 [[.str k0]]:=⟨fun x=>(c_schema_FindColumn_1 x k0)⟩
set_option maxRecDepth 20000
def m_schema_FindColumn (t:Tbl) (name:ByteArray):Option (Int × Bool):=
 (bindK (m_slices_IndexFunc_Column t.cols (fun xa_=>m_schema_FindColumn_1 xa_ name)) fun v3=>(some ((if v3 < 0 then 0 else v3),decide (0≤v3))))
instance c_schema_FindColumn (t:Tbl) (name:ByteArray):Con (m_schema_FindColumn t name) Tryz.prog 127 [.agg t.enc,.one (.d (.str name))] (fun r=>.tup [.one (.d (.int .i64 r.1)),.one (.d (.bool r.2))]):=by
 unfold m_schema_FindColumn
 exact go 15 Tryz.func127 rfl (by kernel_rfl) rfl rfl (by simp)
end Go.Proofs.YthiojhcimecdgaaGreatDoor
end
section
namespace Go.Proofs.YthiojhcimecdgaaGreatDoor
open Go Go.Am
def RowsOK (rows:List (List GV)):Prop:=rows.length≤2097152∧∀ row ∈ rows,row≠[]∧row.length≤2097152
instance (rows:List (List GV)):Decidable (RowsOK rows):=inferInstanceAs (Decidable (_∧_))
abbrev vcells (row:List GV):List (List C):=(row.map GV.enc).map (·.map C.d)
theorem ow_row {h:HS} {x:C} {row:List GV} {ls:List Lab} (o:Ow h [RowSh] [x] [.sl (row.map GV.enc)] ls) (hne:row≠[]):MR h 3 x (vcells row)∧ls=labs x:=by
 rcases o.inv_r with ⟨c,cs,ds,h1,h2,_⟩ | ⟨c,qs,cs',ds',ls',h1,h2,h3,hm,hq,hr⟩
 ·simp at h2
  exact absurd h2.1 hne
 ·obtain⟨rfl,rfl,rfl⟩:=hr.inv_nil
  simp only[List.cons.injEq,and_true,D.sl.injEq] at h1 h2
  subst h1
  have hf:∀ q ∈ qs,q.1=q.2.1.map C.d∧q.2.2=[]:=fun q hqm=>(hq q hqm).flat (n:=3) rfl fun d hd=>by
   have:q.2.1 ∈ row.map GV.enc:=by rw[h2];exact List.mem_map.2 ⟨q,hqm,rfl⟩
   obtain⟨v,_,hv⟩:=List.mem_map.1 this
   rw[← hv] at hd
   simp at hd
   rcases hd with rfl | rfl | rfl<;>rfl
  have e1:qs.map (·.1)=vcells row:=by
   rw[vcells,h2,List.map_map]
   exact List.map_congr_left fun q hqm=>(hf q hqm).1
  have e2:qs.flatMap (·.2.2)=[]:=by
   rw[List.flatMap_eq_nil_iff]
   exact fun q hqm=>(hf q hqm).2
  rw[e1] at hm
  exact⟨hm,by rw[h3,e2];simp⟩
theorem row_frz {h:HS} {c:C} {row:List GV} (m:MR h 3 c (vcells row)):Frz h c (.sl (row.map GV.enc)):=(vsh_row m).frz.1
structure Rest (h:HS) (c:C) (qs:List NQ) (rows:List (List GV)) (i:Nat):Prop where
 mr:MR h 1 c (qs.map (·.1))
 ds:qs.map (·.2.1)=rows.map (encL GV.enc)
 ow:∀ (j:Nat) (q:NQ),i≤j→qs[j]?=some q→Ow h [RowSh] q.1 q.2.1 q.2.2
theorem Rest.of {h h':HS} {c:C} {rows:List (List GV)} (g:GrowP h h' [RowSh] c (rows.map (encL GV.enc))):∃ qs,Rest h' c qs rows 0∧(plabs c qs).Nodup∧∀ k ∈ plabs c qs,h.ep≤k.1∧k.1 < h'.ep:=by
 obtain⟨qs,p,nd,hl,_⟩:=g
 exact⟨qs,⟨p.mr,p.ds,fun j q _ hq=>p.ow q (List.mem_of_getElem? hq)⟩,nd,hl⟩
theorem Rest.frame {h h':HS} {c:C} {qs:List NQ} {rows:List (List GV)} {i:Nat} (r:Rest h c qs rows i) (hb:∀ k ∈ plabs c qs,h'.box k=h.box k):Rest h' c qs rows i:=
 ⟨r.mr.frame fun l hl=>hb l (by simp[plabs,hl]),r.ds,fun j q hj hq=>(r.ow j q hj hq).frame fun l hl=>hb l (plabs_mem hq hl)⟩
theorem Rest.at {h:HS} {c:C} {qs:List NQ} {rows:List (List GV)} {i:Nat} (r:Rest h c qs rows i) (nd:(plabs c qs).Nodup) (hne:∀ row ∈ rows,row≠[]) (hi:i < rows.length) :
  ∃ lr cap sp x,qs[i]?.map (·.1)=some [x]∧c=.mrow lr 0 rows.length cap∧h.box lr=some (rowBox (qs.map (·.1)) sp)∧takeN 1 ((rowBox (qs.map (·.1)) sp).drop (i * 1))=some [x]∧MR h 3 x (vcells rows[i])∧(∀ k ∈ labs x,k ∈ plabs c qs∧k≠lr) ∧
    ∀ h',(∀ k ∈ plabs c qs,k ∉ labs x→h'.box k=h.box k)→Rest h' c qs rows (i+1):=by
 have hlen:qs.length=rows.length:=by have:=congrArg List.length r.ds;simpa using this
 have hq:qs[i]?=some qs[i]:=List.getElem?_eq_getElem (by omega)
 have ho:=r.ow i _ (Nat.le_refl _) hq
 have hd:qs[i].2.1=[.sl (rows[i].map GV.enc)]:=by
  have:=congrArg (fun z=>z[i]?) r.ds
  simp only[List.getElem?_map,hq,List.getElem?_eq_getElem hi,Option.map_some,Option.some.injEq] at this
  exact this
 obtain⟨lr,cap,sp,hc,hb,hcap⟩:=r.mr.block (by simp;omega)
 have h1:qs[i].1.length=1:=r.mr.1 _ (List.mem_map.2 ⟨_,List.getElem_mem _,rfl⟩)
 obtain⟨x,hx⟩:∃ x,qs[i].1=[x]:=by
  match h9:qs[i].1,h1 with
  | [x],_=>exact⟨x,rfl⟩
 rw[hd,hx] at ho
 obtain⟨hm,hls⟩:=ow_row ho (hne _ (List.getElem_mem hi))
 have hlx:∀ k ∈ labs x,k ∈ plabs c qs∧k ∉ labs c:=fun k hk=>⟨plabs_mem hq (by rw[hls];exact hk),plabs_self nd hq (by rw[hls];exact hk)⟩
 refine⟨lr,cap,sp,x,by rw[hq,Option.map_some,hx],by simpa[hlen] using hc,hb,?_,hm,fun k hk=>⟨(hlx k hk).1,fun he=>(hlx k hk).2 (by rw[hc];simp[labs,he])⟩,fun h' hb'=>⟨?_,r.ds,fun j q hj hqj=>?_⟩⟩
 ·have:=row_take (sp:=sp) (f:=0) (m:=1) r.mr.1 (k:=i) (x:=[x]) (by rw[List.getElem?_map,hq,Option.map_some,hx]) (by simp)
  simpa[takeN] using this
 ·exact r.mr.frame fun l hl=>hb' l (by simp[plabs,hl]) fun h9=>(hlx l h9).2 hl
 ·exact (r.ow j q (by omega) hqj).frame fun l hl=>hb' l (plabs_mem hqj hl) fun h9=>(plabs_other nd hq hqj (by omega) hl).2 (by rw[hls];exact h9)
structure LM (h0 h3:HS) (bs:List (Lab × List C)) (c:C) (qs:List NQ) (rows:List (List GV)) (gs:List (C × List (List GV))) (i:Nat) (h:HS):Prop where
 box:∀ b ∈ bs,h.box b.1=some b.2
 rest:Rest h c qs rows i
 row:∀ g ∈ gs,MR h 1 g.1 (ones (g.2.map rowc))
 same:Same h0 h []
 ep:h3.ep≤h.ep
 lab:∀ g ∈ gs,∀ k ∈ labs g.1,h3.ep≤k.1∧k.1 < h.ep
 dis:(gs.flatMap fun g=>labs g.1).Nodup
 sb:∀ b ∈ bs,b.1.1 < h3.ep∧b.1 ∉ plabs c qs
 sq:∀ k ∈ plabs c qs,h0.ep≤k.1∧k.1 < h3.ep
 nd:(plabs c qs).Nodup
 s0:h0.ep≤h3.ep
 ne:∀ row ∈ rows,row≠[]
theorem LM.new {h0 h3 h h':HS} {bs:List (Lab × List C)} {c:C} {qs:List NQ} {rows:List (List GV)} {gs:List (C × List (List GV))} {i:Nat} (m:LM h0 h3 bs c qs rows gs i h) (hs:Same h h' []):LM h0 h3 bs c qs rows gs i h' where
 box:=fun b hb=>(hs.2 _ (Nat.lt_of_lt_of_le (m.sb b hb).1 m.ep) (by simp)).trans (m.box b hb)
 rest:=m.rest.frame fun k hk=>hs.2 k (Nat.lt_of_lt_of_le (m.sq k hk).2 m.ep) (by simp)
 row:=fun g hg=>(m.row g hg).frame fun k hk=>hs.2 k (m.lab g hg k hk).2 (by simp)
 same:=m.same.trans hs
 ep:=Nat.le_trans m.ep hs.1
 lab:=fun g hg k hk=>⟨(m.lab g hg k hk).1,Nat.lt_of_lt_of_le (m.lab g hg k hk).2 hs.1⟩
 dis:=m.dis
 sb:=m.sb
 sq:=m.sq
 nd:=m.nd
 s0:=m.s0
 ne:=m.ne
theorem LM.at {h0 h3 h:HS} {bs:List (Lab × List C)} {c:C} {qs:List NQ} {rows:List (List GV)} {gs:List (C × List (List GV))} {i:Nat} (m:LM h0 h3 bs c qs rows gs i h) (hi:i < rows.length) :
  ∃ lr cap sp x,qs[i]?.map (·.1)=some [x]∧c=.mrow lr 0 rows.length cap∧h.box lr=some (rowBox (qs.map (·.1)) sp)∧takeN 1 ((rowBox (qs.map (·.1)) sp).drop i)=some [x]∧MR h 3 x (vcells rows[i])∧∀ k ∈ labs x,k.1 < h3.ep:=by
 obtain⟨lr,cap,sp,x,hx,h1,h2,h4,h5,h6,h7⟩:=m.rest.at m.nd m.ne hi
 exact⟨lr,cap,sp,x,hx,h1,h2,by simpa using h4,h5,fun k hk=>(m.sq k (h6 k hk).1).2⟩
theorem LM.row_at {h0 h3 h:HS} {bs:List (Lab × List C)} {c:C} {qs:List NQ} {rows:List (List GV)} {gs:List (C × List (List GV))} {i:Nat} (m:LM h0 h3 bs c qs rows gs i h) (hi:i < rows.length) {x:C} (hx:qs[i]?.map (·.1)=some [x]):MR h 3 x (vcells rows[i]):=by
 obtain⟨_,_,_,x',hx',_,_,_,h5,_⟩:=m.at hi
 rw[hx] at hx'
 cases hx'
 exact h5
theorem LM.use {h0 h3 h h':HS} {bs:List (Lab × List C)} {c:C} {qs:List NQ} {rows:List (List GV)} {gs:List (C × List (List GV))} {i:Nat} {x:C} (m:LM h0 h3 bs c qs rows gs i h) (hi:i < rows.length) (hx:qs[i]?.map (·.1)=some [x]) (hs:Same h h' (labs x)):LM h0 h3 bs c qs rows gs (i+1) h':=by
 obtain⟨lr,cap,sp,x',hx',h1,h2,h4,h5,h6,h7⟩:=m.rest.at m.nd m.ne hi
 rw[hx] at hx'
 cases hx'
 have hg:∀ g ∈ gs,∀ k ∈ labs g.1,k ∉ labs x:=fun g hg k hk h9=>by
  have:=(m.lab g hg k hk).1
  have:=(m.sq k (h6 k h9).1).2
  omega
 exact⟨fun b hb=>(hs.2 _ (Nat.lt_of_lt_of_le (m.sb b hb).1 m.ep) fun h9=>(m.sb b hb).2 (h6 _ h9).1).trans (m.box b hb),h7 h' fun k hk hn=>hs.2 k (Nat.lt_of_lt_of_le (m.sq k hk).2 m.ep) hn,
  fun g hgm=>(m.row g hgm).frame fun k hk=>hs.2 k (m.lab g hgm k hk).2 (hg g hgm k hk),m.same.trans' hs fun k hk=>.inr (m.sq k (h6 k hk).1).1,Nat.le_trans m.ep hs.1,
  fun g hgm k hk=>⟨(m.lab g hgm k hk).1,Nat.lt_of_lt_of_le (m.lab g hgm k hk).2 hs.1⟩,m.dis,m.sb,m.sq,m.nd,m.s0,m.ne⟩
theorem LM.skip {h0 h3 h:HS} {bs:List (Lab × List C)} {c:C} {qs:List NQ} {rows:List (List GV)} {gs:List (C × List (List GV))} {i:Nat} (m:LM h0 h3 bs c qs rows gs i h):LM h0 h3 bs c qs rows gs (i+1) h:=
 { m with rest:=⟨m.rest.mr,m.rest.ds,fun j q hj hq=>m.rest.ow j q (by omega) hq⟩ }
theorem LM.set {h0 h3 h h':HS} {bs:List (Lab × List C)} {c c':C} {qs:List NQ} {rows rs':List (List GV)} {gs:List (C × List (List GV))} {i j:Nat} {g:C × List (List GV)} (m:LM h0 h3 bs c qs rows gs i h) (hj:gs[j]?=some g) (hm:MR h' 1 c' (ones (rs'.map rowc))) (hs:Same h h' (labs g.1)) (hl:∀ k ∈ labs c',k ∈ labs g.1∨(h.ep≤k.1∧k.1 < h'.ep)) :
  LM h0 h3 bs c qs rows (gs.set j (c',rs')) i h':=by
 have hgm:=List.mem_of_getElem? hj
 have hjl:=(List.getElem?_eq_some_iff.1 hj).1
 have hlab:=m.lab g hgm
 have hdis:∀ (k1 k2:Nat) (g1 g2:C × List (List GV)),gs[k1]?=some g1→gs[k2]?=some g2→k1≠k2→∀ k ∈ labs g1.1,k ∉ labs g2.1:=by
  have gen:∀ (xs:List (C × List (List GV))),(xs.flatMap fun g=>labs g.1).Nodup→∀ (k1 k2:Nat) (g1 g2:C × List (List GV)),xs[k1]?=some g1→xs[k2]?=some g2→k1≠k2→∀ k ∈ labs g1.1,k ∉ labs g2.1:=by
   intro xs
   induction xs with
   | nil=>intro _ k1 k2 g1 g2 h1;simp at h1
   | cons y ys ih=>
     intro hn k1 k2 g1 g2 h1 h2 hne k hk h9
     rw[List.flatMap_cons,List.nodup_append] at hn
     cases k1 with
     | zero=>
       cases k2 with
       | zero=>exact hne rfl
       | succ k2=>
         simp at h1 h2
         subst h1
         exact hn.2.2 k hk k (List.mem_flatMap.2 ⟨g2,List.mem_of_getElem? h2,h9⟩) rfl
     | succ k1=>
       cases k2 with
       | zero=>
         simp at h1 h2
         subst h2
         exact hn.2.2 k h9 k (List.mem_flatMap.2 ⟨g1,List.mem_of_getElem? h1,hk⟩) rfl
       | succ k2=>exact ih hn.2.1 k1 k2 g1 g2 (by simpa using h1) (by simpa using h2) (by omega) k hk h9
  exact gen gs m.dis
 have hset:∀ (k1:Nat) (g1:C × List (List GV)),(gs.set j (c',rs'))[k1]?=some g1→(k1=j∧g1=(c',rs'))∨(k1≠j∧gs[k1]?=some g1):=by
  intro k1 g1 h1
  rw[List.getElem?_set] at h1
  by_cases he:j=k1
  ·subst he
   simp[hjl] at h1
   exact .inl ⟨rfl,h1.symm⟩
  ·rw[if_neg he] at h1
   exact .inr ⟨fun h9=>he h9.symm,h1⟩
 refine⟨fun b hb=>(hs.2 _ (Nat.lt_of_lt_of_le (m.sb b hb).1 m.ep) fun h9=>?_).trans (m.box b hb),m.rest.frame fun k hk=>hs.2 k (Nat.lt_of_lt_of_le (m.sq k hk).2 m.ep) fun h9=>?_,fun g1 hg1=>?_,m.same.trans' hs fun k hk=>.inr ?_,Nat.le_trans m.ep hs.1,fun g1 hg1 k hk=>?_,?_,m.sb,m.sq,m.nd,m.s0,m.ne⟩
 ·have:=(hlab _ h9).1
  have:=(m.sb b hb).1
  omega
 ·have:=(hlab _ h9).1
  have:=(m.sq k hk).2
  omega
 ·obtain⟨k1,hk1⟩:=List.getElem?_of_mem hg1
  rcases hset k1 g1 hk1 with ⟨_,rfl⟩ | ⟨hne,h1⟩
  ·exact hm
  ·exact (m.row g1 (List.mem_of_getElem? h1)).frame fun k hk=>hs.2 k (m.lab g1 (List.mem_of_getElem? h1) k hk).2 (hdis k1 j g1 g h1 hj hne k hk)
 ·have:=(hlab k hk).1
  have:=m.s0
  omega
 ·obtain⟨k1,hk1⟩:=List.getElem?_of_mem hg1
  rcases hset k1 g1 hk1 with ⟨_,rfl⟩ | ⟨hne,h1⟩
  ·rcases hl k hk with h9 | h9
   ·exact⟨(hlab k h9).1,Nat.lt_of_lt_of_le (hlab k h9).2 hs.1⟩
   ·exact⟨Nat.le_trans m.ep h9.1,h9.2⟩
  ·have:=m.lab g1 (List.mem_of_getElem? h1) k hk
   exact⟨this.1,Nat.lt_of_lt_of_le this.2 hs.1⟩
 ·
  have nodup_set:∀ (xs:List (C × List (List GV))) (j:Nat),xs[j]?=some g→(xs.flatMap fun g=>labs g.1).Nodup→(∀ g1 ∈ xs,∀ k ∈ labs g1.1,k.1 < h.ep)→((xs.set j (c',rs')).flatMap fun g=>labs g.1).Nodup∧∀ k ∈ ((xs.set j (c',rs')).flatMap fun g=>labs g.1),k ∈ (xs.flatMap fun g=>labs g.1)∨h.ep≤k.1:=by
   intro xs
   induction xs with
   | nil=>intro j h1;simp at h1
   | cons y ys ih=>
     intro j h1 hn hlt
     rw[List.flatMap_cons,List.nodup_append] at hn
     cases j with
     | zero=>
       simp at h1
       subst h1
       rw[List.set_cons_zero,List.flatMap_cons,List.flatMap_cons]
       refine⟨List.nodup_append.2 ⟨labs_nodup,hn.2.1,fun a ha b hb he=>?_⟩,fun k hk=>?_⟩
       ·subst he
        rcases hl a ha with h9 | h9
        ·exact hn.2.2 a h9 a hb rfl
        ·obtain⟨g1,hg1,hk1⟩:=List.mem_flatMap.1 hb
         have:=hlt g1 (by simp[hg1]) a hk1
         omega
       ·rcases List.mem_append.1 hk with h9 | h9
        ·rcases hl k h9 with h8 | h8
         ·exact .inl (List.mem_append_left _ h8)
         ·exact .inr h8.1
        ·exact .inl (List.mem_append_right _ h9)
     | succ j=>
       rw[List.set_cons_succ,List.flatMap_cons,List.flatMap_cons]
       obtain⟨h3,h4⟩:=ih j (by simpa using h1) hn.2.1 fun g1 hg1=>hlt g1 (by simp[hg1])
       refine⟨List.nodup_append.2 ⟨labs_nodup,h3,fun a ha b hb he=>?_⟩,fun k hk=>?_⟩
       ·subst he
        rcases h4 a hb with h9 | h9
        ·exact hn.2.2 a ha a h9 rfl
        ·have:=hlt y (by simp) a ha
         omega
       ·rcases List.mem_append.1 hk with h9 | h9
        ·exact .inl (List.mem_append_left _ h9)
        ·exact (h4 k h9).imp (fun h8=>List.mem_append_right _ h8) id
  exact (nodup_set gs j hj m.dis fun g1 hg1 k hk=>(m.lab g1 hg1 k hk).2).1
theorem LM.app {P:Program} {ty el:TypeId} {by_ dd:Nat} {h0 h3 h:HS} {bs:List (Lab × List C)} {c xc:C} {qs:List NQ} {rows:List (List GV)} {gs:List (C × List (List GV))} {i:Nat} {g:C × List (List GV)} {row:List GV} {K:V→HS→Prop} (j:Nat) (m:LM h0 h3 bs c qs rows gs i h) (hj:gs[j]?=some g) (hel:elT P ty=some (el,1,by_)) (hz:(zeT P el).isSome=true) (hb:by_≤4096)
  (hr:RowAt h 1 xc [[rowc row]]) (hl:g.2.length+1≤LIM) (hk:∀ c' h',LM h0 h3 bs c qs rows (gs.set j (c',g.2++[row])) i h'→Same h h' (labs g.1)→K (.one c') h'):appK P ty g.1 xc dd h (K:=⟨K⟩):=by
 refine app_mr hel hz (by decide) hb (m.row g (List.mem_of_getElem? hj)) hr (by simpa[ones] using hl) fun c' h' hm hs hlb=>?_
 exact hk c' h' (m.set hj (by simpa[ones] using hm) hs hlb) hs
end Go.Proofs.YthiojhcimecdgaaGreatDoor
namespace Go.Am
open Go Go.Proofs.YthiojhcimecdgaaGreatDoor
theorem RowAt.rowc {h:HS} {l:Lab} {ds:List (List D)} {row:List GV} (hd:ds=row.map GV.enc):RowAt h 1 (.own l [[.sl ds]]) [[rowc row]]:=by
 subst hd
 exact RowAt.own1 rfl
end Go.Am
namespace Go.Proofs.YthiojhcimecdgaaGreatDoor
open Go Go.Am
theorem call_setOutput {d:Nat} {e:Env} {h:HS} {l:Lab} {co cn c:C} {M:Mp} {t:ByteArray} {rows:List (List GV)} {Kc:Env→HS→Prop} (m:MpAt h l co cn M) (hm:MR h 1 c (ones (rows.map rowc))) (hc:∀ k ∈ labs c,k ∉ l::(labs co++labs cn))
  (hk:∀ h',MpAt h' l co cn { M with out:=setR t rows M.out }→Same h h' (labs c++labs co)→Kc (e.put (some d) (.tup [])) h'):callK Tryz.prog 238 [] [.one (.ptr l 0),.one (.d (.str t)),.one c] d e h (K:=⟨Kc⟩):=by
 have hs:Same h (h.sans (labs c)) (labs c):=⟨Nat.le_refl _,fun k _ hn=>by simp only[HS.sans];rw[if_neg hn]⟩
 have hfr:∀ k ∈ l::(labs co++labs cn),(h.sans (labs c)).box k=h.box k:=fun k hk1=>by
  simp only[HS.sans]
  rw[if_neg fun h9=>hc k h9 hk1]
 have m2:MpAt (h.sans (labs c)) l co cn M:=⟨by rw[hfr l (by simp)];exact m.box,m.out.frame fun k hk1=>hfr k (by simp[hk1]),m.nc.frame fun k hk1=>hfr k (by simp[hk1]),m.lt,m.nl⟩
 refine callK_heap ?_
 simp only[List.map_nil,List.append_nil]
 refine HSpec.frz_args (vs':=[.one (.ptr l 0),.one (.d (.str t)),.one (.d (.sl (rows.map (encL GV.enc))))]) (labs c) ⟨.refl,.refl,.inr ⟨_,rfl,rowc_frz (hm.frame fun k hk1=>by simp only[HS.only];rw[if_pos hk1])⟩,trivial⟩ (h_lens_setOutput _ l co cn _ M t rows m2 rfl _ fun h' m4 hs4=>?_)
 exact hk h' m4 ((hs.mono (by simp +contextual)).trans (hs4.mono (by simp +contextual)))
theorem call_setComplement {d:Nat} {e:Env} {h:HS} {l:Lab} {co cn c:C} {M:Mp} {t:ByteArray} {rows:List (List GV)} {Kc:Env→HS→Prop} (m:MpAt h l co cn M) (hm:MR h 1 c (ones (rows.map rowc))) (hc:∀ k ∈ labs c,k ∉ l::(labs co++labs cn))
  (hk:∀ h',MpAt h' l co cn { M with nc:=setR t rows M.nc }→Same h h' (labs c++labs cn)→Kc (e.put (some d) (.tup [])) h'):callK Tryz.prog 239 [] [.one (.ptr l 0),.one (.d (.str t)),.one c] d e h (K:=⟨Kc⟩):=by
 have hs:Same h (h.sans (labs c)) (labs c):=⟨Nat.le_refl _,fun k _ hn=>by simp only[HS.sans];rw[if_neg hn]⟩
 have hfr:∀ k ∈ l::(labs co++labs cn),(h.sans (labs c)).box k=h.box k:=fun k hk1=>by
  simp only[HS.sans]
  rw[if_neg fun h9=>hc k h9 hk1]
 have m2:MpAt (h.sans (labs c)) l co cn M:=⟨by rw[hfr l (by simp)];exact m.box,m.out.frame fun k hk1=>hfr k (by simp[hk1]),m.nc.frame fun k hk1=>hfr k (by simp[hk1]),m.lt,m.nl⟩
 refine callK_heap ?_
 simp only[List.map_nil,List.append_nil]
 refine HSpec.frz_args (vs':=[.one (.ptr l 0),.one (.d (.str t)),.one (.d (.sl (rows.map (encL GV.enc))))]) (labs c) ⟨.refl,.refl,.inr ⟨_,rfl,rowc_frz (hm.frame fun k hk1=>by simp only[HS.only];rw[if_pos hk1])⟩,trivial⟩ (h_lens_setComplement _ l co cn _ M t rows m2 rfl _ fun h' m4 hs4=>?_)
 exact hk h' m4 ((hs.mono (by simp +contextual)).trans (hs4.mono (by simp +contextual)))
theorem h_Insert_D (h:HS) (x:C) (row:List GV) (v:GV) (lv:Lab) (n:Nat) (kk:Int) (hkk:kk=n) (hm:MR h 3 x (vcells row)) (hlb:∀ k ∈ labs x,k.1 < h.ep) (hn:n≤row.length) (ha:h.arr lv=some (1,3)) (hlim:row.length+1≤2097152) (K:V→HS→Prop)
  (hk:∀ h',Same h h' (labs x)→K (.one (.d (.sl ((row.take n++[v]++row.drop n).map GV.enc)))) h') :
  HSpec Tryz.prog 237 [.one x,.one (.d (.int .i64 kk)),.one (.own lv [v.enc])] h K:=by
 subst hkk
 refine HSpec.frz_res (h_slices_Insert_Value h x (vcells row) lv v.enc n hm hlb (by simpa[vcells] using hn) ha rfl (by simpa[vcells] using hlim) _ fun c' h' hm' hs hl=>?_)
 refine⟨labs c',.one (.d (.sl ((row.take n++[v]++row.drop n).map GV.enc))),.inr ⟨_,rfl,row_frz (c:=c') ?_⟩,hk _ ⟨hs.1,fun k hk1 hk2=>?_⟩⟩
 ·have e1:(vcells row).take n++[v.enc.map C.d]++(vcells row).drop n=vcells (row.take n++[v]++row.drop n):=by simp[vcells,List.map_take,List.map_drop]
  rw[e1] at hm'
  exact hm'.frame fun k hk=>by simp only[HS.only];rw[if_pos hk]
 ·have h9:k ∉ labs c':=fun h9=>by
   rcases hl k h9 with h8 | h8
   ·exact hk2 h8
   ·omega
  simp only[HS.sans]
  rw[if_neg h9]
  exact hs.2 k hk1 hk2
theorem h_Delete_D (h:HS) (x:C) (row:List GV) (n:Nat) (kk k2:Int) (hkk:kk=n) (hk2:k2=(n+1:Nat)) (hm:MR h 3 x (vcells row)) (hlb:∀ k ∈ labs x,k.1 < h.ep) (hn:n+1≤row.length) (K:V→HS→Prop)
  (hk:∀ h',Same h h' (labs x)→K (.one (.d (.sl ((row.take n++row.drop (n+1)).map GV.enc)))) h') :
  HSpec Tryz.prog 240 [.one x,.one (.d (.int .i64 kk)),.one (.d (.int .i64 k2))] h K:=by
 subst hkk hk2
 refine HSpec.frz_res (h_slices_Delete_Value h x (vcells row) n (n+1) hm (by omega) (by simpa[vcells] using hn) _ fun c' h' hm' hb hep harr hlab=>?_)
 refine⟨labs c',.one (.d (.sl ((row.take n++row.drop (n+1)).map GV.enc))),.inr ⟨_,rfl,row_frz (c:=c') ?_⟩,hk _ ⟨by simp[HS.sans,hep],fun k hk1 hk2=>?_⟩⟩
 ·have e1:(vcells row).take n++(vcells row).drop (n+1)=vcells (row.take n++row.drop (n+1)):=by simp[vcells,List.map_take,List.map_drop]
  rw[e1] at hm'
  exact hm'.frame fun k hk=>by simp only[HS.only];rw[if_pos hk]
 ·have h9:k ∉ labs c':=by rw[hlab];exact hk2
  simp only[HS.sans]
  rw[if_neg h9]
  exact hb k hk2
end Go.Proofs.YthiojhcimecdgaaGreatDoor
end
section
namespace Go.Proofs.YthiojhcimecdgaaGreatDoor
open Go Go.Am
theorem call_lend {α:Type} {P:Program} {f:FuncId} {vs:List V} {av:List AV} {d:Nat} {e:Env} {h:HS} {l:Lab} {co cn:C} {M:Mp} {Kc:Env→HS→Prop} {er:α→RV} {m:Option α} {x:α} (hx:Is m x) [i:Con m P f (.one (.rp M.enc)::av) er]
  (hp:MpAt h l co cn M) (has:toAs h vs=some av) (hk:Kc (e.put (some d) ((er x).toV h.ep d)) ((h.addFr d (er x).fr).next)):callK P f [] (.one (.ptr l 0)::vs) d e h (K:=⟨Kc⟩):=by
 obtain⟨cs,hbx,hd⟩:=hp.pre
 exact callK_heap (by simpa using HSpec.of_pre (K:=fun v h'=>Kc (e.put (some d) v) h') d (i.h x hx) hbx hd has hk)
theorem fresh_flat {a:Nat} {row:List GV}:RV.flat (.one (.fresh a 3 (row.map GV.enc)))=true:=by
 simp[RV.flat,RV1.flat,RC.flat,D.flat]
def insV {ρ:Type} (st:List GV × Bool) (d:GV) (k:GV→Option ρ):Option ρ:=bif st.2 then getK st.1 0 k else k d
theorem insV_cases {ρ:Type} {st:List GV × Bool} {d:GV} {k:GV→Option ρ} {r:ρ} (hm:Is (insV st d k) r):∃ v,Is (k v) r∧(st.2=true→st.1[0]?=some v)∧(st.2=false→v=d):=by
 unfold insV at hm
 cases hs:st.2 with
 | true=>
   rw[hs] at hm
   obtain⟨v,_,hv,hm⟩:=Is.get hm
   exact⟨v,hm,fun _=>(by simpa using hv),fun h=>(by cases h)⟩
 | false=>
   rw[hs] at hm
   exact⟨d,hm,fun h=>(by cases h),fun _=>rfl⟩
def vne (a b:GV):Bool:=!(a.kind == b.kind) || (!(a.int == b.int) || !(a.text == b.text))
def m_lens_mapping__insertColumn (M:Mp):Option Mp:=
 bindK (m_instance_Table M.src M.inp M.step.table) fun q=>bindK (m_schema_FindTable M.src M.step.table) fun f=>chkK (f.2=true∧RowsOK q.2) <|
 bindK (m_lens_mapping__output M M.step.table) fun T2=>bindK (m_schema_FindColumn T2 M.step.column) fun at_=>
 forK (fun (i:Nat) (row:List GV) (s:List (List GV) × List (List GV)) next=>
  bindK (m_relation_Key q.1 row) fun key=>bindK (m_lens_mapping__lookup M key) fun st=>insV st M.step.value fun v=>
  chkK (0≤at_.1∧at_.1≤row.length∧row.length+1≤2097152∧key.length+1≤2097152)
   (next (s.1++[row.take at_.1.toNat++[v]++row.drop at_.1.toNat],bif vne v M.step.value then s.2++[key++[v]] else s.2)))
  (fun s=>some { M with out:=setR M.step.table s.1 M.out,nc:=setR M.step.table s.2 M.nc }) q.2 0 ([],[])
theorem h_lens_insertColumn (h0:HS) (l:Lab) (co cn:C) (M M1:Mp) (hm:Is (m_lens_mapping__insertColumn M) M1) (m:MpAt h0 l co cn M) (K:V→HS→Prop)
  (hK:∀ h',MpAt h' l co cn M1→Same h0 h' (labs co++labs cn)→K (.tup []) h'):HSpec Tryz.prog 218 [.one (.ptr l 0)] h0 K:=by
 refine HSpec.of_vc Tryz.func218 rfl (by kernel_rfl) (n:=91) rfl rfl (by simp) ?_
 unfold m_lens_mapping__insertColumn at hm
 obtain⟨⟨T,rows⟩,ht,hm⟩:=hm.bind
 obtain⟨⟨k,f⟩,hk1,hm⟩:=hm.bind
 obtain⟨hfo,hm'⟩:=hm.chk
 clear hm
 obtain⟨rfl,hok⟩:=hfo
 have hm:=hm'
 clear hm'
 simp only at hm hok
 have hb:=m.box
 have hl1:=m.lt l (List.mem_cons_self ..)
 have hne:=ne_new hl1
 have hne':=ne_new' hl1
 simp only[mpC,Mp.enc,Stp.enc,List.map_cons,List.map_nil,List.cons_append,List.nil_append] at hb
 simp
 refine Wait.cut (Plan.then_ [0,1,2,3,4,5,6,7,8,9,10,11,12] .done) follows (by kernel_rfl) (fun e1 h1=>∃ ld:Lab,e1.n=91∧e1.get 0=.one (.ptr l 0)∧e1.get 2=.one (.d (.str M.step.table))∧e1.get 3=.one (.ptr ld 0)∧h1.box ld=some (M.step.value.enc.map C.d)∧h0.ep≤ld.1∧ld.1 < h1.ep∧Same h0 h1 []) ?_ ?_
 ·simp[Plan.then_,vcPlan,planOps,isCallAt,callKind,hb,hne,hne']
  refine CutK.of ⟨(h0.ep,48),by simp,by simp,by simp,by simp,by simp,by simp,by simp,?_⟩
  repeat' first | exact Same.refl | apply Same.next | apply Same.setArr | (refine Same.setBox ?_ (.inr (by simp)))
 ·rintro e1 h1 ⟨ld,en,e0,e2,e3,bd,hld,hld2,hs1⟩
  simp[en,e0,e2,e3]
  refine callK_heap (h_lens_input _ l co cn M M.step.table T rows (m.frame hs1) ht k hk1 (fun row hr=>(hok.2 row hr).2) _ fun c h2 hg2 hb2=>?_)
  simp[en,e0,e2,e3]
  obtain⟨lt_,hlt_⟩:∃ q,q=(h2.ep,64):=⟨_,rfl⟩
  obtain⟨T2,hT2,hm⟩:=hm.bind
  refine Wait.cut (Plan.then_ [0,1,3,4,5,6,7,2,8,9,10,11,12,13] .done) follows (by kernel_rfl) (fun E3 h3=>∃ at_:Int × Bool,Is (m_schema_FindColumn T2 M.step.column) at_∧E3.n=91∧E3.get 0=.one (.ptr l 0)∧E3.get 2=.one (.d (.str M.step.table))∧E3.get 3=.one (.ptr ld 0)∧E3.get 4=.one (.ptr (h2.ep,64) 0)∧E3.get 5=.one c∧E3.get 6=.one (.d (.int .i64 at_.1)) ∧
   h3.box ld=some (M.step.value.enc.map C.d)∧h3.box (h2.ep,64)=some (T.enc.map C.d)∧Same h2 h3 []∧h2.ep < h3.ep∧Same h0 h3 []) ?_ ?_
  ·obtain⟨at_,hat,hm⟩:=hm.bind
   have hs2:=hs1.trans hg2.same
   have m2:=m.frame hs2
   have hb2:=m2.box
   have bd2:=hg2.same.2 ld hld2 (by simp)
   rw[bd] at bd2
   simp only[mpC,Mp.enc,Stp.enc,List.map_cons,List.map_nil,List.cons_append,List.nil_append] at hb2
   have hl2:=m2.lt l (List.mem_cons_self ..)
   have hn2:=ne_new hl2
   have hn2':=ne_new' hl2
   simp[Plan.then_,vcPlan,planOps,isCallAt,callKind,hn2,hn2',en,e0,e2,e3,hb2]
   refine call_lend hT2 (m2.frame ((Same.refl.setBox (.inr (by simp))).next.setBox (.inr (by simp)))) ?_ ?_
   ·simp
   simp[Plan.then_,vcPlan,planOps,isCallAt,callKind,hn2,hn2',en,e0,e2,e3,hb2]
   refine⟨fun _ _ x=>x,callK_fn ((c_schema_FindColumn T2 M.step.column).h at_ hat) (by simp) ?_⟩
   simp[Plan.then_,vcPlan,planOps,isCallAt,callKind,hn2,hn2',en,e0,e2,e3,hb2]
   refine⟨fun _ _ x=>x,CutK.of ⟨at_,hat,by simp[en],by simp[e0,en],by simp[e2,en],by simp[e3,en],by simp[en],by simp[en],by simp[en],?_,by simp,?_,by simp,hs2.trans ?_⟩⟩
   ·have hnd:=ne_new (l:=ld) (n:=h2.ep) (Nat.lt_of_lt_of_le hld2 hg2.same.1)
    simp[bd2,hnd]
   all_goals repeat' first | exact Same.refl | apply Same.next | apply Same.setArr | (refine Same.setBox ?_ (.inr (by simp)))
  ·rintro E3 h3 ⟨at_,hat,en,e0,e2,e3,e4,e5,e6,bd,bt,hs23,hlt3,hs3⟩
   obtain⟨at2,hat2,hm⟩:=hm.bind
   obtain rfl:at_=at2:=Option.some.inj (hat.symm.trans hat2)
   simp[en,e0,e2,e3,e4,e5,e6]
   obtain⟨qs,r0,nd,hlq⟩:=Rest.of hg2
   have r3:=r0.frame fun k hk=>hs23.2 k (hlq k hk).2 (by simp)
   have hqs:qs.length=rows.length:=by have:=congrArg List.length r0.ds;simpa using this
   refine MR.lenK r3.mr ?_
   simp[en,e0,e2,e3,e4,e5,e6,hqs]
   have m3:LM h0 h3 [(ld,M.step.value.enc.map C.d),((h2.ep,64),T.enc.map C.d)] c qs rows [(.nil,[]),(.nil,[])] 0 h3:=
    ⟨by simpa using⟨bd,bt⟩,r3,by simp[ones,MR.nil],hs3,Nat.le_refl _,by simp[labs],by simp[labs],?_,fun k hk=>?_,nd,?_,fun row hr=>(hok.2 row hr).1⟩
   ·refine Wait.for (xs:=rows) (s0:=([],[])) (fun i s e h'=>∃ cO cC,e.n=91∧e.get 0=.one (.ptr l 0)∧e.get 2=.one (.d (.str M.step.table))∧e.get 3=.one (.ptr ld 0)∧e.get 4=.one (.ptr (h2.ep,64) 0)∧e.get 6=.one (.d (.int .i64 at_.1))∧e.get 8=.one cO∧e.get 9=.one cC∧e.get 44=.one c∧e.get 45=.one (.d (.int .i64 (rows.length:Int)))∧e.get 46=.one (.d (.int .i64 (i:Int))) ∧
     LM h0 h3 [(ld,M.step.value.enc.map C.d),((h2.ep,64),T.enc.map C.d)] c qs rows [(cO,s.1),(cC,s.2)] i h'∧s.1.length=i∧s.2.length≤i) hm
     ⟨.nil,.nil,by simp[en],by simp[e0],by simp[e2],by simp[e3],by simp[e4],by simp[e6],by simp,by simp,by simp,by simp,by simp,m3,rfl,by simp⟩ ?_ ?_
    ·rintro i s e h' ⟨cO,cC,en,e0,e2,e3,e4,e6,e8,e9,e44,e45,e46,mL,hsO,hsC⟩ hlt hm
     have hw:IntKind.i64.wrap ((i:Int)+1)=(i:Int)+1:=IntWalk.i64_in _ (by have:=hok.1;omega)
     obtain⟨key,hkey,hm⟩:=hm.bind
     obtain⟨st,hst,hm⟩:=hm.bind
     obtain⟨lr,cap,sp,x,hxq,rfl,hbr,htk,hmx,hlx⟩:=mL.at hlt
     have bd:=mL.box _ (List.mem_cons_self ..)
     have bt:=mL.box _ (List.mem_cons_of_mem _ (List.mem_cons_self ..))
     have hep:=mL.ep
     simp only[GV.enc,List.map_cons,List.map_nil,Tbl.enc] at bd bt
     simp[en,e0,e2,e3,e4,e6,e8,e9,e44,e45,e46,bd,bt,hlt,hbr,htk]
     refine Wait.cut (Plan.then_ [0,1,3] (.two 2 4 (Plan.then_ [4,5,6] .done) (Plan.then_ [2,5,6] .done))) follows (by kernel_rfl) (fun e1 h1=>∃ lk l13:Lab,e1.n=91∧e1.get 0=.one (.ptr l 0)∧e1.get 2=.one (.d (.str M.step.table))∧e1.get 3=.one (.ptr ld 0)∧e1.get 4=.one (.ptr (h2.ep,64) 0)∧e1.get 6=.one (.d (.int .i64 at_.1))∧e1.get 8=.one cO∧e1.get 9=.one cC∧e1.get 11=.one x∧e1.get 44=.one (.mrow lr 0 rows.length cap)∧e1.get 45=.one (.d (.int .i64 (rows.length:Int)))∧e1.get 46=.one (.d (.int .i64 (i:Int))) ∧
      e1.get 12=.one (.own lk (key.map GV.enc))∧h1.arr lk=some (key.length,3)∧lk.1 < h1.ep∧e1.get 13=.one (.ptr l13 0)∧h1.box l13=some (M.step.value.enc.map C.d)∧h'.ep≤l13.1∧l13.1 < h1.ep∧Same h' h1 []) ?_ ?_
     ·simp[Plan.then_,vcPlan,planOps,isCallAt,callKind,en,e0,e2,e3,e4,e6,e8,e9,e44,e45,e46,bd,bt]
      refine⟨?_,?_⟩
      ·refine callK_heap (HSpec.of_lend ((c_relation_Key T rows[i]).h key hkey) ⟨.agg (FrzCs.datas (ds:=T.enc)),.one (.frz (row_frz hmx)),trivial⟩ fresh_flat ?_)
       simp[Plan.then_,vcPlan,planOps,isCallAt,callKind,en,e0,e2,e3,e4,e6,e8,e9,e44,e45,e46,bd,bt]
       refine⟨fun _ _ x=>x,CutK.of ⟨(h'.ep,1),(h'.ep+1,208),by simp[en],by simp[e0,en],by simp[e2,en],by simp[e3,en],by simp[e4,en],by simp[e6,en],by simp[e8,en],by simp[e9,en],by simp[en],by simp[e44,en],by simp[e45,en],by simp[e46,en],by simp[en],by simp,by simp,by simp[en],by simp,by simp,by simp,?_⟩⟩
       repeat' first | exact Same.refl | apply Same.next | apply Same.setArr | (refine Same.setBox ?_ (.inr (by simp)))
      ·refine callK_heap (HSpec.of_lend ((c_relation_Key T rows[i]).h key hkey) ⟨.agg (FrzCs.datas (ds:=T.enc)),.one (.frz (row_frz (hmx.frame fun k hk=>?_))),trivial⟩ fresh_flat ?_)
       ·have:=ne_new (l:=k) (n:=h'.ep) (Nat.lt_of_lt_of_le (hlx k hk) hep)
        simp[this]
       simp[Plan.then_,vcPlan,planOps,isCallAt,callKind,en,e0,e2,e3,e4,e6,e8,e9,e44,e45,e46,bd,bt]
       first | refine⟨fun _ _ x=>x,CutK.of ?_⟩ | refine CutK.of ?_
       refine⟨(h'.ep+1,1),(h'.ep,208),by simp[en],by simp[e0,en],by simp[e2,en],by simp[e3,en],by simp[e4,en],by simp[e6,en],by simp[e8,en],by simp[e9,en],by simp[en],by simp[e44,en],by simp[e45,en],by simp[e46,en],by simp[en],by simp,by simp,by simp[en],by simp,by simp,by simp,?_⟩
       repeat' first | exact Same.refl | apply Same.next | apply Same.setArr | (refine Same.setBox ?_ (.inr (by simp)))
     ·rintro e1 h1 ⟨lk,l13,en,e0,e2,e3,e4,e6,e8,e9,e11,e44,e45,e46,e12,hak,hlk,e13,b13,hl13,hl13',hs5⟩
      have m1:=mL.new hs5
      have bd1:=m1.box _ (List.mem_cons_self ..)
      have bt1:=m1.box _ (List.mem_cons_of_mem _ (List.mem_cons_self ..))
      have hn13:(ld=l13)=False:=eq_false (by rintro rfl;have:=(mL.sb _ (List.mem_cons_self ..)).1;simp at this;omega)
      have hn13t:((h2.ep,64)=l13)=False:=eq_false (by rintro rfl;have:=(mL.sb _ (List.mem_cons_of_mem _ (List.mem_cons_self ..))).1;simp at this hl13;omega)
      simp only[GV.enc,List.map_cons,List.map_nil,Tbl.enc] at bd1 bt1 b13
      simp[en,e0,e2,e3,e4,e6,e8,e9,e11,e44,e45,e46,e12,e13]
      refine call_lend hst (m.frame m1.same) ?_ ?_
      ·simp
      simp[en,e0,e2,e3,e4,e6,e8,e9,e11,e44,e45,e46,e12,e13]
      obtain⟨v,hm',hvT,hvF⟩:=insV_cases hm
      clear hm
      obtain⟨hck,hm⟩:=Is.chk hm'
      clear hm'
      obtain⟨ha0,ha1,ha2,ha3⟩:=hck
      have hn:at_.1=(at_.1.toNat:Int):=by omega
      have hr1:=hok.1
      have hnk:=ne_new hlk
      have hn':at_.1.toNat≤rows[i].length:=by omega
      refine condV_of (fun hc=>?_) (fun hc=>?_)
      ·have hv:=hvT hc
       simp[en,e0,e2,e3,e4,e6,e8,e9,e11,e44,e45,e46,e12,e13,hv,b13,bd1,bt1,hn13,hn13t]
       refine condV_of (fun hc2=>?_) (fun hc2=>?_)
       ·have hv2:vne v M.step.value=true:=hc2
        rw[hv2] at hm
        simp[en,e0,e2,e3,e4,e6,e8,e9,e11,e44,e45,e46,e12,e13,b13,bd1,bt1,hn13,hn13t]
        refine appK_of (xs:=key.map GV.enc) (ys:=[v.enc]) ty_el44 (Grows.own (by simp[hak,hnk]) (by simp;omega) (by intro y hy;obtain⟨z,_,rfl⟩:=List.mem_map.1 hy;rfl)) rfl (by decide) (by decide) (by simp) (by simp;omega) ?_
        simp[en,e0,e2,e3,e4,e6,e8,e9,e11,e44,e45,e46,e12,e13,b13,bd1,bt1,hn13,hn13t]
        refine LM.app 1 (mL.new ?_) rfl ty_el40 (by kernel_rfl) (by decide) (row:=key++[v]) (RowAt.rowc (by simp)) (by simp;omega) fun c' h7 m7 hs7=>?_
        ·repeat' first | exact hs5 | exact Same.refl | apply Same.next | apply Same.setArr | (refine Same.setBox ?_ (.inr hl13))
        have b7:=hs7.2 l13 (by simp;omega) (fun h9=>by have:=(mL.lab _ (List.mem_cons_of_mem _ (List.mem_cons_self ..)) l13 h9).2;omega)
        simp[b13] at b7
        simp[en,e0,e2,e3,e4,e6,e8,e9,e11,e44,e45,e46,e12,e13,b7,bd1,bt1,hn13,hn13t]
        refine callK_heap (h_Insert_D _ x rows[i] v _ at_.1.toNat _ hn ((LM.new m7 ?_).row_at hlt hxq) (fun k hk=>?_) hn' ?_ ha2 _ fun h9 hs9=>?_)
        ·  repeat' first | exact hs5 | exact Same.refl | apply Same.next | apply Same.setArr | (refine Same.setBox ?_ (.inr hl13))
        ·  have:=hlx k hk
           have:=m7.ep
           simp at this ⊢
           omega
        ·  simp
        have m9:=(LM.new m7 ?_).use hlt hxq hs9
        rotate_left
        ·  repeat' first | exact hs5 | exact Same.refl | apply Same.next | apply Same.setArr | (refine Same.setBox ?_ (.inr hl13))
        simp[en,e0,e2,e3,e4,e6,e8,e9,e11,e44,e45,e46,e12,e13,bd1,bt1,hn13,hn13t,hw]
        refine LM.app 0 (m9.new ?_) rfl ty_el40 (by kernel_rfl) (by decide) (row:=rows[i].take at_.1.toNat++[v]++rows[i].drop at_.1.toNat) (RowAt.rowc (by simp)) (by simp;omega) fun c2 h10 m10 hs10=>?_
        ·  repeat' first | exact hs5 | exact Same.refl | apply Same.next | apply Same.setArr | (refine Same.setBox ?_ (.inr hl13))
        simp[en,e0,e2,e3,e4,e6,e8,e9,e11,e44,e45,e46,e12,e13,bd1,bt1,hn13,hn13t,hw]
        refine BackF.of (s.1++[rows[i].take at_.1.toNat++[v]++rows[i].drop at_.1.toNat],s.2++[key++[v]]) ⟨⟨c2,c',by simp[en],by simp[e0],by simp[e2],by simp[e3],by simp[e4],by simp[e6],by simp,by simp[e9],by simp[e44],by simp[e45],by simp,m10,by simp[hsO],?_⟩,hm⟩
        ·  simp
           omega
       ·have hv2:vne v M.step.value=false:=hc2
        rw[hv2] at hm
        have m7:LM h0 h3 [(ld,M.step.value.enc.map C.d),((h2.ep,64),T.enc.map C.d)] (.mrow lr 0 rows.length cap) qs rows [(cO,s.1),(cC,s.2)] i (h1.next.setBox l13 (v.enc.map C.d)):=mL.new ?_
        rotate_left
        ·repeat' first | exact hs5 | exact Same.refl | apply Same.next | apply Same.setArr | (refine Same.setBox ?_ (.inr hl13))
        simp[en,e0,e2,e3,e4,e6,e8,e9,e11,e44,e45,e46,e12,e13,b13,bd1,bt1,hn13,hn13t]
        refine callK_heap (h_Insert_D _ x rows[i] v _ at_.1.toNat _ hn ((LM.new m7 ?_).row_at hlt hxq) (fun k hk=>?_) hn' ?_ ha2 _ fun h9 hs9=>?_)
        ·  repeat' first | exact hs5 | exact Same.refl | apply Same.next | apply Same.setArr | (refine Same.setBox ?_ (.inr hl13))
        ·  have:=hlx k hk
           have:=m7.ep
           simp at this ⊢
           omega
        ·  simp
        have m9:=(LM.new m7 ?_).use hlt hxq hs9
        rotate_left
        ·  repeat' first | exact hs5 | exact Same.refl | apply Same.next | apply Same.setArr | (refine Same.setBox ?_ (.inr hl13))
        simp[en,e0,e2,e3,e4,e6,e8,e9,e11,e44,e45,e46,e12,e13,bd1,bt1,hn13,hn13t,hw]
        refine LM.app 0 (m9.new ?_) rfl ty_el40 (by kernel_rfl) (by decide) (row:=rows[i].take at_.1.toNat++[v]++rows[i].drop at_.1.toNat) (RowAt.rowc (by simp)) (by simp;omega) fun c2 h10 m10 hs10=>?_
        ·  repeat' first | exact hs5 | exact Same.refl | apply Same.next | apply Same.setArr | (refine Same.setBox ?_ (.inr hl13))
        simp[en,e0,e2,e3,e4,e6,e8,e9,e11,e44,e45,e46,e12,e13,bd1,bt1,hn13,hn13t,hw]
        refine BackF.of (s.1++[rows[i].take at_.1.toNat++[v]++rows[i].drop at_.1.toNat],s.2) ⟨⟨c2,cC,by simp[en],by simp[e0],by simp[e2],by simp[e3],by simp[e4],by simp[e6],by simp,by simp[e9],by simp[e44],by simp[e45],by simp,m10,by simp[hsO],?_⟩,hm⟩
        ·  simp
           omega
      ·have hv:=hvF hc
       rw[← hv] at b13
       simp[en,e0,e2,e3,e4,e6,e8,e9,e11,e44,e45,e46,e12,e13,b13,bd1,bt1,hn13,hn13t]
       refine condV_of (fun hc2=>?_) (fun hc2=>?_)
       ·have hv2:vne v M.step.value=true:=hc2
        rw[hv2] at hm
        simp[en,e0,e2,e3,e4,e6,e8,e9,e11,e44,e45,e46,e12,e13,b13,bd1,bt1,hn13,hn13t]
        refine appK_of (xs:=key.map GV.enc) (ys:=[v.enc]) ty_el44 (Grows.own (by simp[hak,hnk]) (by simp;omega) (by intro y hy;obtain⟨z,_,rfl⟩:=List.mem_map.1 hy;rfl)) rfl (by decide) (by decide) (by simp) (by simp;omega) ?_
        simp[en,e0,e2,e3,e4,e6,e8,e9,e11,e44,e45,e46,e12,e13,b13,bd1,bt1,hn13,hn13t]
        refine LM.app 1 (mL.new ?_) rfl ty_el40 (by kernel_rfl) (by decide) (row:=key++[v]) (RowAt.rowc (by simp)) (by simp;omega) fun c' h7 m7 hs7=>?_
        ·repeat' first | exact hs5 | exact Same.refl | apply Same.next | apply Same.setArr | (refine Same.setBox ?_ (.inr hl13))
        have b7:=hs7.2 l13 (by simp;omega) (fun h9=>by have:=(mL.lab _ (List.mem_cons_of_mem _ (List.mem_cons_self ..)) l13 h9).2;omega)
        simp[b13] at b7
        simp[en,e0,e2,e3,e4,e6,e8,e9,e11,e44,e45,e46,e12,e13,b7,bd1,bt1,hn13,hn13t]
        refine callK_heap (h_Insert_D _ x rows[i] v _ at_.1.toNat _ hn ((LM.new m7 ?_).row_at hlt hxq) (fun k hk=>?_) hn' ?_ ha2 _ fun h9 hs9=>?_)
        ·  repeat' first | exact hs5 | exact Same.refl | apply Same.next | apply Same.setArr | (refine Same.setBox ?_ (.inr hl13))
        ·  have:=hlx k hk
           have:=m7.ep
           simp at this ⊢
           omega
        ·  simp
        have m9:=(LM.new m7 ?_).use hlt hxq hs9
        rotate_left
        ·  repeat' first | exact hs5 | exact Same.refl | apply Same.next | apply Same.setArr | (refine Same.setBox ?_ (.inr hl13))
        simp[en,e0,e2,e3,e4,e6,e8,e9,e11,e44,e45,e46,e12,e13,bd1,bt1,hn13,hn13t,hw]
        refine LM.app 0 (m9.new ?_) rfl ty_el40 (by kernel_rfl) (by decide) (row:=rows[i].take at_.1.toNat++[v]++rows[i].drop at_.1.toNat) (RowAt.rowc (by simp)) (by simp;omega) fun c2 h10 m10 hs10=>?_
        ·  repeat' first | exact hs5 | exact Same.refl | apply Same.next | apply Same.setArr | (refine Same.setBox ?_ (.inr hl13))
        simp[en,e0,e2,e3,e4,e6,e8,e9,e11,e44,e45,e46,e12,e13,bd1,bt1,hn13,hn13t,hw]
        refine BackF.of (s.1++[rows[i].take at_.1.toNat++[v]++rows[i].drop at_.1.toNat],s.2++[key++[v]]) ⟨⟨c2,c',by simp[en],by simp[e0],by simp[e2],by simp[e3],by simp[e4],by simp[e6],by simp,by simp[e9],by simp[e44],by simp[e45],by simp,m10,by simp[hsO],?_⟩,hm⟩
        ·  simp
           omega
       ·have hv2:vne v M.step.value=false:=hc2
        rw[hv2] at hm
        have m7:LM h0 h3 [(ld,M.step.value.enc.map C.d),((h2.ep,64),T.enc.map C.d)] (.mrow lr 0 rows.length cap) qs rows [(cO,s.1),(cC,s.2)] i h1.next:=mL.new ?_
        rotate_left
        ·repeat' first | exact hs5 | exact Same.refl | apply Same.next | apply Same.setArr | (refine Same.setBox ?_ (.inr hl13))
        simp[en,e0,e2,e3,e4,e6,e8,e9,e11,e44,e45,e46,e12,e13,b13,bd1,bt1,hn13,hn13t]
        refine callK_heap (h_Insert_D _ x rows[i] v _ at_.1.toNat _ hn ((LM.new m7 ?_).row_at hlt hxq) (fun k hk=>?_) hn' ?_ ha2 _ fun h9 hs9=>?_)
        ·  repeat' first | exact hs5 | exact Same.refl | apply Same.next | apply Same.setArr | (refine Same.setBox ?_ (.inr hl13))
        ·  have:=hlx k hk
           have:=m7.ep
           simp at this ⊢
           omega
        ·  simp
        have m9:=(LM.new m7 ?_).use hlt hxq hs9
        rotate_left
        ·  repeat' first | exact hs5 | exact Same.refl | apply Same.next | apply Same.setArr | (refine Same.setBox ?_ (.inr hl13))
        simp[en,e0,e2,e3,e4,e6,e8,e9,e11,e44,e45,e46,e12,e13,bd1,bt1,hn13,hn13t,hw]
        refine LM.app 0 (m9.new ?_) rfl ty_el40 (by kernel_rfl) (by decide) (row:=rows[i].take at_.1.toNat++[v]++rows[i].drop at_.1.toNat) (RowAt.rowc (by simp)) (by simp;omega) fun c2 h10 m10 hs10=>?_
        ·  repeat' first | exact hs5 | exact Same.refl | apply Same.next | apply Same.setArr | (refine Same.setBox ?_ (.inr hl13))
        simp[en,e0,e2,e3,e4,e6,e8,e9,e11,e44,e45,e46,e12,e13,bd1,bt1,hn13,hn13t,hw]
        refine BackF.of (s.1++[rows[i].take at_.1.toNat++[v]++rows[i].drop at_.1.toNat],s.2) ⟨⟨c2,cC,by simp[en],by simp[e0],by simp[e2],by simp[e3],by simp[e4],by simp[e6],by simp,by simp[e9],by simp[e44],by simp[e45],by simp,m10,by simp[hsO],?_⟩,hm⟩
        ·  simp
           omega
    ·rintro s e h' ⟨cO,cC,en,e0,e2,e3,e4,e6,e8,e9,e44,e45,e46,mL,hsO,hsC⟩ hm
     obtain rfl:=r_ret hm
     simp[en,e0,e2,e3,e4,e6,e8,e9,e44,e45,e46]
     have hmo:∀ k ∈ l::(labs co++labs cn),k.1 < h0.ep:=m.lt
     have h03:=hs3.1
     have hgl:=mL.lab
     have hO:∀ k ∈ labs cO,h3.ep≤k.1∧k.1 < h'.ep:=hgl _ (List.mem_cons_self ..)
     have hC:∀ k ∈ labs cC,h3.ep≤k.1∧k.1 < h'.ep:=hgl _ (List.mem_cons_of_mem _ (List.mem_cons_self ..))
     have hdis:∀ k ∈ labs cC,k ∉ labs cO:=fun k hk h9=>by
      have:=mL.dis
      simp only[List.flatMap_cons,List.flatMap_nil,List.append_nil] at this
      exact (List.nodup_append.1 this).2.2 k h9 k hk rfl
     refine call_setOutput (m.frame mL.same) (mL.row _ (List.mem_cons_self ..)) (fun k hk h9=>by have:=hmo k h9;have:=(hO k hk).1;omega) fun h4 m4 hs4=>?_
     simp[en,e0,e2,e3,e4,e6,e8,e9,e44,e45,e46]
     refine call_setComplement m4 ((mL.row _ (List.mem_cons_of_mem _ (List.mem_cons_self ..))).frame fun k hk=>hs4.2 k (hC k hk).2 fun h9=>?_) (fun k hk h9=>by have:=hmo k h9;have:=(hC k hk).1;omega) fun h5 m5 hs5=>?_
     ·rcases List.mem_append.1 h9 with h8 | h8
      ·exact hdis k hk h8
      ·have:=hmo k (by simp[h8])
       have:=(hC k hk).1
       omega
     simp[en,e0,e2,e3,e4,e6,e8,e9,e44,e45,e46]
     refine hK h5 m5 (Same.trans' (Same.trans' (mL.same.mono (by simp)) hs4 fun k hk=>?_) hs5 fun k hk=>?_)
     ·rcases List.mem_append.1 hk with h8 | h8
      ·exact .inr (by have:=(hO k h8).1;omega)
      ·exact .inl (by simp[h8])
     ·rcases List.mem_append.1 hk with h8 | h8
      ·exact .inr (by have:=(hC k h8).1;omega)
      ·exact .inl (by simp[h8])
   ·intro b hb
    simp at hb
    rcases hb with rfl | rfl
    ·have h12:=hg2.same.1
     have h23:=hs23.1
     refine⟨by simp;omega,fun h9=>?_⟩
     have:=(hlq _ h9).1
     simp at this
     omega
    ·refine⟨by simp;omega,fun h9=>?_⟩
     have:=(hlq _ h9).2
     simp at this
   ·have:=hlq k hk
    have:=hs1.1
    omega
   ·have:=hs3.1
    omega
instance c_lens_mapping__insertColumn (M:Mp):ConM (m_lens_mapping__insertColumn M) M (fun r=>r) Tryz.prog 218 [] (fun _=>.tup []):=⟨by
 intro r hm h l co cn vs K hp has hK
 obtain rfl:=toAs_nil has
 exact h_lens_insertColumn h l co cn M r hm hp K hK⟩
def m_lens_mapping__removeColumn (M:Mp):Option Mp:=
 bindK (m_instance_Table M.src M.inp M.step.table) fun q=>bindK (m_schema_FindTable M.src M.step.table) fun f=>chkK (f.2=true∧RowsOK q.2) <|
 bindK (m_schema_FindColumn q.1 M.step.column) fun at_=>
 forK (fun (i:Nat) (row:List GV) (s:List (List GV) × List (List GV)) next=>getK row at_.1 fun v=>
  bif vne v M.step.value then bindK (m_relation_Key q.1 row) fun key=>chkK (key.length+1≤2097152) (next (s.1++[row.take at_.1.toNat++row.drop (at_.1.toNat+1)],s.2++[key++[v]]))
  else next (s.1++[row.take at_.1.toNat++row.drop (at_.1.toNat+1)],s.2))
  (fun s=>some { M with out:=setR M.step.table s.1 M.out,nc:=setR M.step.table s.2 M.nc }) q.2 0 ([],[])
theorem h_lens_removeColumn (h0:HS) (l:Lab) (co cn:C) (M M1:Mp) (hm:Is (m_lens_mapping__removeColumn M) M1) (m:MpAt h0 l co cn M) (K:V→HS→Prop)
  (hK:∀ h',MpAt h' l co cn M1→Same h0 h' (labs co++labs cn)→K (.tup []) h'):HSpec Tryz.prog 219 [.one (.ptr l 0)] h0 K:=by
 refine HSpec.of_vc Tryz.func219 rfl (by kernel_rfl) (n:=79) rfl rfl (by simp) ?_
 unfold m_lens_mapping__removeColumn at hm
 obtain⟨⟨T,rows⟩,ht,hm⟩:=hm.bind
 obtain⟨⟨k,f⟩,hk1,hm⟩:=hm.bind
 obtain⟨hfo,hm'⟩:=hm.chk
 clear hm
 obtain⟨rfl,hok⟩:=hfo
 have hm:=hm'
 clear hm'
 simp only at hm hok
 have hb:=m.box
 have hl1:=m.lt l (List.mem_cons_self ..)
 have hne:=ne_new hl1
 have hne':=ne_new' hl1
 simp only[mpC,Mp.enc,Stp.enc,List.map_cons,List.map_nil,List.cons_append,List.nil_append] at hb
 simp
 refine Wait.cut (Plan.then_ [0,1,2,3,4,5,6,7,8,9,10,11,12] .done) follows (by kernel_rfl) (fun e1 h1=>∃ ld:Lab,e1.n=79∧e1.get 0=.one (.ptr l 0)∧e1.get 2=.one (.d (.str M.step.table))∧e1.get 3=.one (.ptr ld 0)∧h1.box ld=some (M.step.value.enc.map C.d)∧h0.ep≤ld.1∧ld.1 < h1.ep∧Same h0 h1 []) ?_ ?_
 ·simp[Plan.then_,vcPlan,planOps,isCallAt,callKind,hb,hne,hne']
  refine CutK.of ⟨(h0.ep,48),by simp,by simp,by simp,by simp,by simp,by simp,by simp,?_⟩
  repeat' first | exact Same.refl | apply Same.next | apply Same.setArr | (refine Same.setBox ?_ (.inr (by simp)))
 ·rintro e1 h1 ⟨ld,en,e0,e2,e3,bd,hld,hld2,hs1⟩
  simp[en,e0,e2,e3]
  refine callK_heap (h_lens_input _ l co cn M M.step.table T rows (m.frame hs1) ht k hk1 (fun row hr=>(hok.2 row hr).2) _ fun c h2 hg2 hb2=>?_)
  simp[en,e0,e2,e3]
  refine Wait.cut (Plan.then_ [0,1,2,3,4,5,6,7,8,9,10,11] .done) follows (by kernel_rfl) (fun E3 h3=>∃ at_:Int × Bool,Is (m_schema_FindColumn T M.step.column) at_∧E3.n=79∧E3.get 0=.one (.ptr l 0)∧E3.get 2=.one (.d (.str M.step.table))∧E3.get 3=.one (.ptr ld 0)∧E3.get 4=.one (.ptr (h2.ep,64) 0)∧E3.get 5=.one c∧E3.get 6=.one (.d (.int .i64 at_.1)) ∧
   h3.box ld=some (M.step.value.enc.map C.d)∧h3.box (h2.ep,64)=some (T.enc.map C.d)∧Same h2 h3 []∧h2.ep < h3.ep∧Same h0 h3 []) ?_ ?_
  ·obtain⟨at_,hat,hm⟩:=hm.bind
   have hs2:=hs1.trans hg2.same
   have m2:=m.frame hs2
   have hb2:=m2.box
   have bd2:=hg2.same.2 ld hld2 (by simp)
   rw[bd] at bd2
   simp only[mpC,Mp.enc,Stp.enc,List.map_cons,List.map_nil,List.cons_append,List.nil_append] at hb2
   have hl2:=m2.lt l (List.mem_cons_self ..)
   have hn2:=ne_new hl2
   have hn2':=ne_new' hl2
   simp[Plan.then_,vcPlan,planOps,isCallAt,callKind,hn2,hn2',en,e0,e2,e3,hb2]
   refine callK_fn ((c_schema_FindColumn T M.step.column).h at_ hat) (by simp) ?_
   simp[Plan.then_,vcPlan,planOps,isCallAt,callKind,hn2,hn2',en,e0,e2,e3,hb2]
   first | refine⟨fun _ _ x=>x,CutK.of ?_⟩ | refine CutK.of ?_
   refine⟨at_,hat,by simp[en],by simp[e0,en],by simp[e2,en],by simp[e3,en],by simp[en],by simp[en],by simp[en],?_,by simp,?_,by simp,hs2.trans ?_⟩
   ·have hnd:=ne_new (l:=ld) (n:=h2.ep) (Nat.lt_of_lt_of_le hld2 hg2.same.1)
    simp[bd2,hnd]
   all_goals repeat' first | exact Same.refl | apply Same.next | apply Same.setArr | (refine Same.setBox ?_ (.inr (by simp)))
  ·rintro E3 h3 ⟨at_,hat,en,e0,e2,e3,e4,e5,e6,bd,bt,hs23,hlt3,hs3⟩
   obtain⟨at2,hat2,hm⟩:=hm.bind
   obtain rfl:at_=at2:=Option.some.inj (hat.symm.trans hat2)
   simp[en,e0,e2,e3,e4,e5,e6]
   obtain⟨qs,r0,nd,hlq⟩:=Rest.of hg2
   have r3:=r0.frame fun k hk=>hs23.2 k (hlq k hk).2 (by simp)
   have hqs:qs.length=rows.length:=by have:=congrArg List.length r0.ds;simpa using this
   refine MR.lenK r3.mr ?_
   simp[en,e0,e2,e3,e4,e5,e6,hqs]
   have m3:LM h0 h3 [(ld,M.step.value.enc.map C.d),((h2.ep,64),T.enc.map C.d)] c qs rows [(.nil,[]),(.nil,[])] 0 h3:=
    ⟨by simpa using⟨bd,bt⟩,r3,by simp[ones,MR.nil],hs3,Nat.le_refl _,by simp[labs],by simp[labs],?_,fun k hk=>?_,nd,?_,fun row hr=>(hok.2 row hr).1⟩
   ·refine Wait.for (xs:=rows) (s0:=([],[])) (fun i s e h'=>∃ cO cC,e.n=79∧e.get 0=.one (.ptr l 0)∧e.get 2=.one (.d (.str M.step.table))∧e.get 3=.one (.ptr ld 0)∧e.get 4=.one (.ptr (h2.ep,64) 0)∧e.get 6=.one (.d (.int .i64 at_.1))∧e.get 8=.one cO∧e.get 9=.one cC∧e.get 38=.one c∧e.get 39=.one (.d (.int .i64 (rows.length:Int)))∧e.get 40=.one (.d (.int .i64 (i:Int))) ∧
     LM h0 h3 [(ld,M.step.value.enc.map C.d),((h2.ep,64),T.enc.map C.d)] c qs rows [(cO,s.1),(cC,s.2)] i h'∧s.1.length=i∧s.2.length≤i) hm
     ⟨.nil,.nil,by simp[en],by simp[e0],by simp[e2],by simp[e3],by simp[e4],by simp[e6],by simp,by simp,by simp,by simp,by simp,m3,rfl,by simp⟩ ?_ ?_
    ·rintro i s e h' ⟨cO,cC,en,e0,e2,e3,e4,e6,e8,e9,e38,e39,e40,mL,hsO,hsC⟩ hlt hm
     have hw:IntKind.i64.wrap ((i:Int)+1)=(i:Int)+1:=IntWalk.i64_in _ (by have:=hok.1;omega)
     obtain⟨v,ha0,hv,hm⟩:=hm.get
     obtain⟨lr,cap,sp,x,hxq,rfl,hbr,htk,hmx,hlx⟩:=mL.at hlt
     have bd:=mL.box _ (List.mem_cons_self ..)
     have bt:=mL.box _ (List.mem_cons_of_mem _ (List.mem_cons_self ..))
     have hep:=mL.ep
     simp only[GV.enc,List.map_cons,List.map_nil,Tbl.enc] at bd bt
     have hn:at_.1=(at_.1.toNat:Int):=by omega
     obtain⟨n,hnn⟩:∃ n:Nat,n=at_.1.toNat:=⟨_,rfl⟩
     rw[← hnn] at hn hv
     have hnl:n < rows[i].length:=(List.getElem?_eq_some_iff.1 hv).1
     obtain⟨lx,capx,spx,hxe,hbx,hcapx⟩:=hmx.block (by rw[vcells,List.length_map,List.length_map];omega)
     have hvx:(vcells rows[i])[n]?=some (v.enc.map C.d):=by rw[vcells,List.getElem?_map,List.getElem?_map,hv];rfl
     have htx:=row_take (sp:=spx) (f:=0) (m:=3) hmx.1 hvx (by simp)
     have htx2:takeN 3 ((v.enc.map C.d).drop 0)=some (v.enc.map C.d):=by simp[takeN]
     rw[htx2,Nat.add_zero] at htx
     have hxl:(vcells rows[i]).length=rows[i].length:=by simp[vcells]
     rw[hxl] at hxe
     simp only[GV.enc,List.map_cons,List.map_nil] at htx
     obtain⟨z,hz⟩:∃ z,z=rowBox (vcells rows[i]) spx:=⟨_,rfl⟩
     rw[← hz] at htx hbx
     have hr1:=hok.1
     have hr2:=(hok.2 _ (List.getElem_mem hlt)).2
     have hw2:IntKind.i64.wrap (at_.1+1)=at_.1+1:=IntWalk.i64_in _ (by omega)
     have hi0:(0:Int)≤at_.1:=ha0
     simp[en,e0,e2,e3,e4,e6,e8,e9,e38,e39,e40,bd,bt,hlt,hbr,htk]
     refine Wait.cut (Plan.then_ [0,1,2,3,4,5] .done) follows (by kernel_rfl) (fun e1 h1=>h1=h'∧e1.n=79∧e1.get 0=.one (.ptr l 0)∧e1.get 2=.one (.d (.str M.step.table))∧e1.get 3=.one (.ptr ld 0)∧e1.get 4=.one (.ptr (h2.ep,64) 0)∧e1.get 6=.one (.d (.int .i64 at_.1))∧e1.get 8=.one cO∧e1.get 9=.one cC∧e1.get 11=.one x∧e1.get 38=.one (.mrow lr 0 rows.length cap)∧e1.get 39=.one (.d (.int .i64 (rows.length:Int)))∧e1.get 40=.one (.d (.int .i64 (i:Int))) ∧
      e1.get 49=.one (.d (.bool (vne v M.step.value)))) ?_ ?_
     ·simp[Plan.then_,vcPlan,planOps,isCallAt,callKind,en,e0,e2,e3,e4,e6,e8,e9,e38,e39,e40,bd,bt,hxe,hbx,hn,hnl,htx]
      refine CutK.of ⟨rfl,?_⟩
      simp[en,e0,e2,e3,e4,e6,e8,e9,e38,e39,e40,hxe,hn,vne]
     ·rintro e1 h1 ⟨rfl,en,e0,e2,e3,e4,e6,e8,e9,e11,e38,e39,e40,e49⟩
      simp[en,e0,e2,e3,e4,e6,e8,e9,e38,e39,e40,e11,e49]
      refine r_cond hm ?_ ?_<;>clear hm<;>intro hc hm
      ·obtain⟨key,hkey,hm⟩:=hm.bind
       obtain⟨hkl,hm⟩:=hm.chk
       simp[en,e0,e2,e3,e4,e6,e8,e9,e38,e39,e40,e11,e49]
       refine Wait.cut (Plan.then_ [0,1,2,4,5,6,7] (.two 3 8 (Plan.then_ [8,9,10,11,12] .done) (Plan.then_ [3,9,10,11,12] .done))) follows (by kernel_rfl) (fun e2 h2'=>∃ c',e2.n=79∧e2.get 0=.one (.ptr l 0)∧e2.get 2=.one (.d (.str M.step.table))∧e2.get 3=.one (.ptr ld 0)∧e2.get 4=.one (.ptr (h2.ep,64) 0)∧e2.get 6=.one (.d (.int .i64 at_.1))∧e2.get 8=.one cO∧e2.get 9=.one c'∧e2.get 11=.one x∧e2.get 38=.one (.mrow lr 0 rows.length cap)∧e2.get 39=.one (.d (.int .i64 (rows.length:Int)))∧e2.get 40=.one (.d (.int .i64 (i:Int))) ∧
        LM h0 h3 [(ld,M.step.value.enc.map C.d),((h2.ep,64),T.enc.map C.d)] (.mrow lr 0 rows.length cap) qs rows [(cO,s.1),(c',s.2++[key++[v]])] i h2') ?_ ?_
       ·simp[Plan.then_,vcPlan,planOps,isCallAt,callKind,en,e0,e2,e3,e4,e6,e8,e9,e38,e39,e40,e11,bd,bt,hxe,hbx,hn,hnl,htx]
        refine⟨?_,?_⟩
        ·refine callK_heap (HSpec.of_lend ((c_relation_Key T rows[i]).h key hkey) ⟨.agg (FrzCs.datas (ds:=T.enc)),.one (.frz (by rw[← hxe];exact row_frz hmx)),trivial⟩ fresh_flat ?_)
         simp[Plan.then_,vcPlan,planOps,isCallAt,callKind,en,e0,e2,e3,e4,e6,e8,e9,e38,e39,e40,e11,bd,bt]
         refine⟨fun _ _ x=>x,?_⟩
         refine appK_of (xs:=key.map GV.enc) (ys:=[v.enc]) ty_el44 (Grows.own (by simp) (by simp) (by intro y hy;obtain⟨z,_,rfl⟩:=List.mem_map.1 hy;rfl)) rfl (by decide) (by decide) (by simp) (by simp;omega) ?_
         simp[Plan.then_,vcPlan,planOps,isCallAt,callKind,en,e0,e2,e3,e4,e6,e8,e9,e38,e39,e40,e11,bd,bt]
         refine LM.app 1 (mL.new ?_) rfl ty_el40 (by kernel_rfl) (by decide) (row:=key++[v]) (RowAt.rowc (by simp)) (by simp;omega) fun c' h7 m7 hs7=>?_
         ·repeat' first | exact Same.refl | apply Same.next | apply Same.setArr | (refine Same.setBox ?_ (.inr (by simp)))
         simp[Plan.then_,vcPlan,planOps,isCallAt,callKind,en,e0,e2,e3,e4,e6,e8,e9,e38,e39,e40,e11,bd,bt]
         refine CutK.of ⟨c',by simp[en],by simp[e0,en],by simp[e2,en],by simp[e3,en],by simp[e4,en],by simp[e6,en],by simp[e8,en],by simp[en],by simp[e11,en,hxe],by simp[e38,en],by simp[e39,en],by simp[e40,en],m7⟩
        ·refine callK_heap (HSpec.of_lend ((c_relation_Key T rows[i]).h key hkey) ⟨.agg (FrzCs.datas (ds:=T.enc)),.one (.frz (by rw[← hxe];exact row_frz (hmx.frame fun k hk=>by simp))),trivial⟩ fresh_flat ?_)
         simp[Plan.then_,vcPlan,planOps,isCallAt,callKind,en,e0,e2,e3,e4,e6,e8,e9,e38,e39,e40,e11,bd,bt]
         try refine⟨fun _ _ x=>x,?_⟩
         refine appK_of (xs:=key.map GV.enc) (ys:=[v.enc]) ty_el44 (Grows.own (by simp) (by simp) (by intro y hy;obtain⟨z,_,rfl⟩:=List.mem_map.1 hy;rfl)) rfl (by decide) (by decide) (by simp) (by simp;omega) ?_
         simp[Plan.then_,vcPlan,planOps,isCallAt,callKind,en,e0,e2,e3,e4,e6,e8,e9,e38,e39,e40,e11,bd,bt]
         refine LM.app 1 (mL.new ?_) rfl ty_el40 (by kernel_rfl) (by decide) (row:=key++[v]) (RowAt.rowc (by simp)) (by simp;omega) fun c' h7 m7 hs7=>?_
         ·repeat' first | exact Same.refl | apply Same.next | apply Same.setArr | (refine Same.setBox ?_ (.inr (by simp)))
         simp[Plan.then_,vcPlan,planOps,isCallAt,callKind,en,e0,e2,e3,e4,e6,e8,e9,e38,e39,e40,e11,bd,bt]
         refine CutK.of ⟨c',by simp[en],by simp[e0,en],by simp[e2,en],by simp[e3,en],by simp[e4,en],by simp[e6,en],by simp[e8,en],by simp[en],by simp[e11,en,hxe],by simp[e38,en],by simp[e39,en],by simp[e40,en],m7⟩
       ·rintro e2 h2' ⟨c',en,e0,e2,e3,e4,e6,e8,e9,e11,e38,e39,e40,m7⟩
        simp[en,e0,e2,e3,e4,e6,e8,e9,e38,e39,e40,e11,hw2]
        refine callK_heap (h_Delete_D _ x rows[i] n _ _ hn (by rw[hn];simp) (m7.row_at hlt hxq) (fun k hk=>?_) hnl _ fun h9 hs9=>?_)
        ·have:=hlx k hk
         have:=m7.ep
         omega
        have m9:=m7.use hlt hxq hs9
        simp[en,e0,e2,e3,e4,e6,e8,e9,e38,e39,e40,e11,hw]
        refine LM.app 0 (m9.new ?_) rfl ty_el40 (by kernel_rfl) (by decide) (row:=rows[i].take n++rows[i].drop (n+1)) (RowAt.rowc (by simp)) (by simp;omega) fun c2 h10 m10 hs10=>?_
        ·repeat' first | exact Same.refl | apply Same.next | apply Same.setArr | (refine Same.setBox ?_ (.inr (by simp)))
        simp[en,e0,e2,e3,e4,e6,e8,e9,e38,e39,e40,e11,hw]
        refine BackF.of (s.1++[rows[i].take n++rows[i].drop (n+1)],s.2++[key++[v]]) ⟨⟨c2,c',by simp[en],by simp[e0],by simp[e2],by simp[e3],by simp[e4],by simp[e6],by simp,by simp[e9],by simp[e38],by simp[e39],by simp,m10,by simp[hsO],by simp;omega⟩,by subst hnn;exact hm⟩
      ·have m7:=mL
       simp[en,e0,e2,e3,e4,e6,e8,e9,e38,e39,e40,e11,hw2]
       refine callK_heap (h_Delete_D _ x rows[i] n _ _ hn (by rw[hn];simp) (m7.row_at hlt hxq) (fun k hk=>?_) hnl _ fun h9 hs9=>?_)
       ·have:=hlx k hk
        have:=m7.ep
        omega
       have m9:=m7.use hlt hxq hs9
       simp[en,e0,e2,e3,e4,e6,e8,e9,e38,e39,e40,e11,hw]
       refine LM.app 0 (m9.new ?_) rfl ty_el40 (by kernel_rfl) (by decide) (row:=rows[i].take n++rows[i].drop (n+1)) (RowAt.rowc (by simp)) (by simp;omega) fun c2 h10 m10 hs10=>?_
       ·repeat' first | exact Same.refl | apply Same.next | apply Same.setArr | (refine Same.setBox ?_ (.inr (by simp)))
       simp[en,e0,e2,e3,e4,e6,e8,e9,e38,e39,e40,e11,hw]
       refine BackF.of (s.1++[rows[i].take n++rows[i].drop (n+1)],s.2) ⟨⟨c2,cC,by simp[en],by simp[e0],by simp[e2],by simp[e3],by simp[e4],by simp[e6],by simp,by simp[e9],by simp[e38],by simp[e39],by simp,m10,by simp[hsO],by simp;omega⟩,by subst hnn;exact hm⟩
    ·rintro s e h' ⟨cO,cC,en,e0,e2,e3,e4,e6,e8,e9,e38,e39,e40,mL,hsO,hsC⟩ hm
     obtain rfl:=r_ret hm
     simp[en,e0,e2,e3,e4,e6,e8,e9,e38,e39,e40]
     have hmo:∀ k ∈ l::(labs co++labs cn),k.1 < h0.ep:=m.lt
     have h03:=hs3.1
     have hgl:=mL.lab
     have hO:∀ k ∈ labs cO,h3.ep≤k.1∧k.1 < h'.ep:=hgl _ (List.mem_cons_self ..)
     have hC:∀ k ∈ labs cC,h3.ep≤k.1∧k.1 < h'.ep:=hgl _ (List.mem_cons_of_mem _ (List.mem_cons_self ..))
     have hdis:∀ k ∈ labs cC,k ∉ labs cO:=fun k hk h9=>by
      have:=mL.dis
      simp only[List.flatMap_cons,List.flatMap_nil,List.append_nil] at this
      exact (List.nodup_append.1 this).2.2 k h9 k hk rfl
     refine call_setOutput (m.frame mL.same) (mL.row _ (List.mem_cons_self ..)) (fun k hk h9=>by have:=hmo k h9;have:=(hO k hk).1;omega) fun h4 m4 hs4=>?_
     simp[en,e0,e2,e3,e4,e6,e8,e9,e38,e39,e40]
     refine call_setComplement m4 ((mL.row _ (List.mem_cons_of_mem _ (List.mem_cons_self ..))).frame fun k hk=>hs4.2 k (hC k hk).2 fun h9=>?_) (fun k hk h9=>by have:=hmo k h9;have:=(hC k hk).1;omega) fun h5 m5 hs5=>?_
     ·rcases List.mem_append.1 h9 with h8 | h8
      ·exact hdis k hk h8
      ·have:=hmo k (by simp[h8])
       have:=(hC k hk).1
       omega
     simp[en,e0,e2,e3,e4,e6,e8,e9,e38,e39,e40]
     refine hK h5 m5 (Same.trans' (Same.trans' (mL.same.mono (by simp)) hs4 fun k hk=>?_) hs5 fun k hk=>?_)
     ·rcases List.mem_append.1 hk with h8 | h8
      ·exact .inr (by have:=(hO k h8).1;omega)
      ·exact .inl (by simp[h8])
     ·rcases List.mem_append.1 hk with h8 | h8
      ·exact .inr (by have:=(hC k h8).1;omega)
      ·exact .inl (by simp[h8])
   ·intro b hb
    simp at hb
    rcases hb with rfl | rfl
    ·have h12:=hg2.same.1
     have h23:=hs23.1
     refine⟨by simp;omega,fun h9=>?_⟩
     have:=(hlq _ h9).1
     simp at this
     omega
    ·refine⟨by simp;omega,fun h9=>?_⟩
     have:=(hlq _ h9).2
     simp at this
   ·have:=hlq k hk
    have:=hs1.1
    omega
   ·have:=hs3.1
    omega
instance c_lens_mapping__removeColumn (M:Mp):ConM (m_lens_mapping__removeColumn M) M (fun r=>r) Tryz.prog 219 [] (fun _=>.tup []):=⟨by
 intro r hm h l co cn vs K hp has hK
 obtain rfl:=toAs_nil has
 exact h_lens_removeColumn h l co cn M r hm hp K hK⟩
theorem h_slices_Clone_Relation (h:HS) (c:C) (xs:List (List C)) (hr:RowAt h 2 c xs) (K:V→HS→Prop)
  (hk:∀ c' h',MR h' 2 c' xs→Same h h' []→(∀ l ∈ labs c',h.ep≤l.1∧l.1 < h'.ep)→BoxLe h h'→K (.one c') h') :
  HSpec Tryz.prog 200 [.one c] h K:=by
 refine HSpec.good Tryz.func200 rfl (by kernel_rfl) fun hg=>?_
 refine HSpec.of_vc Tryz.func200 rfl (by kernel_rfl) (n:=8) rfl rfl (by simp) ?_
 simp
 refine nilK_rd ty_el39 hr (fun h1=>?_) ?_
 ·subst h1
  simp
  exact hk _ _ MR.nil .refl (by simp[labs]) (BoxLe.refl h)
 ·simp
  refine emptyK_z (by simp) ?_
  simp
  refine app_new ty_el39 (by kernel_rfl) (by decide) (by decide) hr (fun c' h' hm hs hl=>?_)
  simp
  exact hk _ _ hm hs hl (hs.boxLe hg)
end Go.Proofs.YthiojhcimecdgaaGreatDoor
end
section
namespace Go.Proofs.YthiojhcimecdgaaGreatDoor
open Go.Am
set_option maxRecDepth 20000
def m_value_Validate (v_:GV):Option Int:=
 (bif (v_.kind == 0) then (bif (v_.int != 0) then (some 3) else (bif !(strEq v_.text ByteArray.empty) then (some 3) else (some 0))) else (bif (v_.kind == 1) then (bif !(strEq v_.text ByteArray.empty) then (some 3) else (bif (v_.kind == 2) then (bif (v_.int != 0) then (bif (v_.int != 1) then (some 1) else (bif decide (v_.int < (-1000000000000)) then (some 1) else (bif decide (1000000000000 < v_.int) then (some 1) else (some 0)))) else (bif decide (v_.int < (-1000000000000)) then (some 1) else (bif decide (1000000000000 < v_.int) then (some 1) else (some 0)))) else (bif decide (v_.int < (-1000000000000)) then (some 1) else (bif decide (1000000000000 < v_.int) then (some 1) else (some 0))))) else (bif (v_.kind == 2) then (bif !(strEq v_.text ByteArray.empty) then (some 3) else (bif (v_.int != 0) then (bif (v_.int != 1) then (some 1) else (bif decide (v_.int < (-1000000000000)) then (some 1) else (bif decide (1000000000000 < v_.int) then (some 1) else (some 0)))) else (bif decide (v_.int < (-1000000000000)) then (some 1) else (bif decide (1000000000000 < v_.int) then (some 1) else (some 0))))) else (bif (v_.kind == 3) then (bif (v_.int != 0) then (some 3) else (bif decide (24 < (v_.text.size:Int)) then (some 2) else (some 0))) else (some 7)))))
instance c_value_Validate (v_:GV):Con (m_value_Validate v_) Tryz.prog 131 [.agg v_.enc] (fun r=>.one (.d (.int .i64 r))):=by
 unfold m_value_Validate
 exact go 53 Tryz.func131 rfl (by kernel_rfl) rfl rfl (by simp)
set_option maxRecDepth 20000
def m_instance_ConformsRow (t:Tbl) (row:List GV):Option Int:=
 (bif ((row.length:Int) != (t.cols.length:Int)) then (some 3) else (forK (fun (i6:Nat) (x6:GV) (s6:Unit) next_6=>(bindK (m_value_Validate x6) fun v8=>(bif (v8 != 0) then (some v8) else (bif (x6.kind == 0) then (getK t.cols (i6:Int) fun x11=>(bif !x11.nullable then (some 8) else (bif (x6.kind != 0) then (bif (x6.kind != x11.kind) then (some 7) else (next_6 ())) else (next_6 ())))) else (bif (x6.kind != 0) then (getK t.cols (i6:Int) fun x16=>(bif (x6.kind != x16.kind) then (some 7) else (next_6 ()))) else (next_6 ())))))) (fun (s6:Unit)=>(some 0)) row 0 ()))
instance c_instance_ConformsRow (t:Tbl) (row:List GV):Con (m_instance_ConformsRow t row) Tryz.prog 122 [.agg t.enc,.one (.d (.sl (row.map GV.enc)))] (fun r=>.one (.d (.int .i64 r))):=by
 unfold m_instance_ConformsRow
 have l1:LH (σ:=Unit) 16 [2,14,15] []:=.intro
 have p1:PH [11] (Plan.then_ [0,1,2,3,4,5,6,7,8,9,10,11,12,13] .done):=.intro
 exact go 53 Tryz.func122 rfl (by kernel_rfl) rfl rfl (by simp)
set_option maxRecDepth 20000
def m_instance_Conforms (s_:Sch) (inst:List Rel):Option Int:=
 (bif ((inst.length:Int) != (s_.tables.length:Int)) then (some 3) else (forK (fun (i6:Nat) (x6:Rel) (s6:Unit) next_6=>(getK s_.tables (i6:Int) fun x8=>(bif !(strEq x6.table x8.name) then (some 3) else (bif decide (24 < (x6.rows.length:Int)) then (some 2) else (forK (fun (i14:Nat) (x14:List GV) (s14:Unit) next_14=>(bindK (m_instance_ConformsRow x8 x14) fun v15=>(bif (v15 != 0) then (some v15) else (bif ((i14:Int) == 0) then (next_14 ()) else (chkK (okI ((i14:Int) - 1)) (getK x6.rows ((i14:Int) - 1) fun x19=>(bindK (m_relation_Key x8 x19) fun v20=>(bindK (m_relation_Key x8 x14) fun v21=>(bindK (m_value_CompareRows v20 v21) fun v22=>(bif (v22 == 0) then (some 9) else (bif decide (0 < v22) then (some 6) else (next_14 ())))))))))))) (fun (s14:Unit)=>(next_6 ())) x6.rows 0 ()))))) (fun (s6:Unit)=>(some 0)) inst 0 ()))
instance c_instance_Conforms (s_:Sch) (inst:List Rel):Con (m_instance_Conforms s_ inst) Tryz.prog 81 [.agg s_.enc,.one (.d (.sl (inst.map Rel.enc)))] (fun r=>.one (.d (.int .i64 r))):=by
 unfold m_instance_Conforms
 have l1:LH (σ:=Unit) 20 [2,18,19] []:=.intro
 have l2:LH (σ:=Unit) 42 [2,6,7,18,19,20,40,41] []:=.intro
 have p1:PH [18] (Plan.then_ [0,1,2,3,4,5,6,8,9,7,10,11,12] .done):=.intro
 exact go 75 Tryz.func81 rfl (by kernel_rfl) rfl rfl (by simp)
end Go.Proofs.YthiojhcimecdgaaGreatDoor
end
section
namespace Go.Proofs.YthiojhcimecdgaaGreatDoor
open Go Go.Am
def m_lens_mapping__dispatch (M:Mp):Option Mp:=
 chkK (M.step.kind=1∨M.step.kind=2) (bif M.fwd == (M.step.kind == 1) then m_lens_mapping__insertColumn M else m_lens_mapping__removeColumn M)
theorem h_lens_dispatch (h0:HS) (l:Lab) (co cn:C) (M M1:Mp) (hm:Is (m_lens_mapping__dispatch M) M1) (m:MpAt h0 l co cn M) (K:V→HS→Prop)
  (hK:∀ h' co' cn',MpAt h' l co' cn' M1→Same h0 h' (l::(labs co++labs cn))→K (.tup []) h'):HSpec Tryz.prog 199 [.one (.ptr l 0)] h0 K:=by
 refine HSpec.of_vc Tryz.func199 rfl (by kernel_rfl) (n:=98) rfl rfl (by simp) ?_
 unfold m_lens_mapping__dispatch at hm
 obtain⟨hk,hm⟩:=hm.chk
 have hb:=m.box
 simp only[mpC,Mp.enc,Stp.enc,List.map_cons,List.map_nil,List.cons_append,List.nil_append] at hb
 have fin:∀ {f:FuncId} {d:Nat} {e:Env} {m1:Option Mp} [i:ConM m1 M (fun r=>r) Tryz.prog f [] (fun _=>.tup [])],Is m1 M1→∀ Kc:Env→HS→Prop,(∀ h',K (.tup []) h'→Kc (e.put (some d) (.tup [])) h')→callK Tryz.prog f [] [.one (.ptr l 0)] d e h0 (K:=⟨Kc⟩):=by
  intro f d e m1 i hm1 Kc hk1
  refine callK_heap (by simpa using i.h M1 hm1 h0 l co cn [] _ m rfl fun h' m' hs=>hk1 h' (hK h' co cn m' (hs.mono (by simp +contextual))))
 have hfw:M.fwd=true∨M.fwd=false:=by cases M.fwd<;>simp
 rcases hk with hk | hk<;>rcases hfw with hf | hf<;>rw[hk,hf] at hm
 ·simp[hb,hk,hf]
  refine fin (m1:=m_lens_mapping__insertColumn M) hm _ fun h' hk'=>?_
  simpa using hk'
 ·simp[hb,hk,hf]
  refine fin (m1:=m_lens_mapping__removeColumn M) hm _ fun h' hk'=>?_
  simpa using hk'
 ·simp[hb,hk,hf]
  refine fin (m1:=m_lens_mapping__removeColumn M) hm _ fun h' hk'=>?_
  simpa using hk'
 ·simp[hb,hk,hf]
  refine fin (m1:=m_lens_mapping__insertColumn M) hm _ fun h' hk'=>?_
  simpa using hk'
theorem toD_rd {c:C} {xs:List (List D)} (h:c.toD=some (.sl xs)):Rd c xs:=by
 cases c<;>simp[C.toD] at h<;>subst h<;>exact⟨rfl,rfl,fun _=>rfl⟩
def mpIn (M:Mp):List C:=M.step.enc.map C.d++[.d (.bool M.fwd),.d (.sl (M.src.tables.map Tbl.enc)),.d (.sl (M.src.fks.map Fk.enc)),.d (.sl (M.src.cons.map Cons.enc)),.d (.sl (M.dst.tables.map Tbl.enc)),.d (.sl (M.dst.fks.map Fk.enc)),.d (.sl (M.dst.cons.map Cons.enc)),
 .d (.sl (M.cs.tables.map Tbl.enc)),.d (.sl (M.cs.fks.map Fk.enc)),.d (.sl (M.cs.cons.map Cons.enc)),.nil,.nil,.nil,.nil,.d (.int .i64 0)]
def m_lens_run (M:Mp) (inp comp:List Rel):Option (List Rel × List Rel × Int):=
 bindK (m_instance_Conforms M.src inp) fun e1=>bif e1 != 0 then some ([],[],e1) else
 bindK (m_instance_Conforms M.cs comp) fun e2=>bif e2 != 0 then some ([],[],e2) else
 bindK (m_instance_Clone inp) fun i2=>bindK (m_instance_Clone comp) fun c2=>bindK (m_instance_Empty M.dst) fun o=>bindK (m_instance_Empty M.cs) fun n=>
 forK (fun (i:Nat) (rel:Rel) (s:List Rel) next=>bindK (m_schema_FindTable M.src rel.table) fun f=>
  bif f.2 then bindK (m_instance_Table M.src inp rel.table) fun q=>next (s.set i ⟨rel.table,q.2⟩) else next s)
 (fun s=>bindK (m_lens_mapping__dispatch { M with inp:=i2,comp:=c2,out:=s,nc:=n,err:=0 }) fun M2=>chkK (M2.out.length+M2.nc.length≤2097152)
  (forK (fun (_:Nat) (rel:Rel) (e:Int) next=>next (bif decide (24 < rel.rows.length) && (e == 0) then 12 else e))
   (fun e=>bif e != 0 then some ([],[],e) else some (M2.out,M2.nc,0)) (M2.out++M2.nc) 0 M2.err)) o 0 o
theorem h_lens_run (h0:HS) (l:Lab) (M:Mp) (inp comp:List Rel) (r:List Rel × List Rel × Int) (hb:h0.box l=some (mpIn M)) (hl1:l.1 < h0.ep) (hm:Is (m_lens_run M inp comp) r) (K:V→HS→Prop)
  (hK:∀ c1 c2 h',Frz h' c1 (.sl (r.1.map Rel.enc))→Frz h' c2 (.sl (r.2.1.map Rel.enc))→K (.tup [.one c1,.one c2,.one (.d (.int .i64 r.2.2))]) h') :
  HSpec Tryz.prog 170 [.one (.ptr l 0),.one (.d (.sl (inp.map Rel.enc))),.one (.d (.sl (comp.map Rel.enc)))] h0 K:=by
 refine HSpec.of_vc Tryz.func170 rfl (by kernel_rfl) (n:=150) rfl rfl (by simp) ?_
 unfold m_lens_run at hm
 have hne:=ne_new hl1
 have hne':=ne_new' hl1
 simp only[mpIn,Stp.enc,List.map_cons,List.map_nil,List.cons_append,List.nil_append] at hb
 obtain⟨e1,he1,hm⟩:=hm.bind
 simp[hb]
 refine callK_fn ((c_instance_Conforms M.src inp).h e1 he1) (by simp) ?_
 simp
 refine r_cond hm ?_ ?_<;>clear hm<;>intro hc1 hm
 ·obtain rfl:=r_ret hm
  simp[retH,resVs,resV,notTup]
  exact hK .nil .nil _ (.data rfl) (.data rfl)
 obtain⟨e2,he2,hm⟩:=hm.bind
 simp[hb]
 refine callK_fn ((c_instance_Conforms M.cs comp).h e2 he2) (by simp) ?_
 simp
 refine r_cond hm ?_ ?_<;>clear hm<;>intro hc2 hm
 ·obtain rfl:=r_ret hm
  simp[retH,resVs,resV,notTup]
  exact hK .nil .nil _ (.data rfl) (.data rfl)
 obtain⟨i2,hi2,hm⟩:=hm.bind
 obtain⟨c2,hcc2,hm⟩:=hm.bind
 simp[hb]
 refine callK_fn ((c_instance_Clone inp).h i2 hi2) (by simp) ?_
 simp[hb]
 refine callK_fn ((c_instance_Clone comp).h c2 hcc2) (by simp) ?_
 simp[hb]
 obtain⟨o,ho,hm⟩:=hm.bind
 obtain⟨n,hn,hm⟩:=hm.bind
 have hlt2:∀ k,h0.ep≤k→l.1 < k:=fun k hk=>by omega
 refine Wait.cut (Plan.then_ [0,1,2,3,4,5,7,8,9,10,6,11,12,13,14,15,16,17] .done) follows (by kernel_rfl) (fun E1 h1=>∃ co cn,E1.n=150∧E1.get 0=.one (.ptr l 0)∧E1.get 1=.one (.d (.sl (inp.map Rel.enc))) ∧
  MpAt h1 l co cn { M with inp:=i2,comp:=c2,out:=o,nc:=n,err:=0 }∧Same h0 h1 [l]∧∀ k ∈ labs co++labs cn,h0.ep≤k.1) ?_ ?_
 ·simp[Plan.then_,vcPlan,planOps,isCallAt,callKind]
  refine callK_heap (h_instance_Empty _ M.dst o ho _ fun co h1 ro hs1 hla hb1=>?_)
  have b1:=hs1.2 l (by simp;omega) (by simp)
  simp at b1
  simp[Plan.then_,vcPlan,planOps,isCallAt,callKind,b1]
  refine⟨hb1,?_⟩
  refine callK_heap (h_instance_Empty _ M.cs n hn _ fun cn h2 rn hs2 hlb hb2=>?_)
  have b2:=hs2.2 l (by have:=hs1.1;simp at this;omega) (by simp)
  rw[b1] at b2
  simp[Plan.then_,vcPlan,planOps,isCallAt,callKind,b2]
  have hep1:=hs1.1
  have hep2:=hs2.1
  simp at hep1
  have hla':∀ k ∈ labs co,h0.ep≤k.1∧k.1 < h1.ep:=fun k hk=>by have:=hla k hk;simp at this;omega
  have hlb':∀ k ∈ labs cn,h1.ep≤k.1∧k.1 < h2.ep:=fun k hk=>hlb k hk
  have hnl:∀ k ∈ labs co,k≠l:=fun k hk he=>by have:=(hla' k hk).1;rw[he] at this;omega
  have hnl2:∀ k ∈ labs cn,k≠l:=fun k hk he=>by have:=(hlb' k hk).1;rw[he] at this;omega
  refine⟨hb2,CutK.of ⟨co,cn,by simp,by simp,by simp,⟨by simp[mpC,Mp.enc,Stp.enc],ro.frame fun k hk=>?_,rn.frame fun k hk=>?_,fun k hk=>?_,?_,?_,?_⟩,?_,fun k hk=>?_⟩⟩
  ·have:=hs2.2 k (hla' k hk).2 (by simp)
   simp[hnl k hk,this]
  ·simp[hnl2 k hk]
  ·simp only[List.mem_cons,List.mem_append] at hk
   simp
   rcases hk with rfl | hk | hk
   ·omega
   ·have:=(hla' k hk).2;omega
   ·exact (hlb' k hk).2
  ·exact fun h9=>hnl l h9 rfl
  ·exact fun h9=>hnl2 l h9 rfl
  ·exact fun k hk h9=>by have:=(hla' k hk).2;have:=(hlb' k h9).1;omega
  ·refine Same.setBox (Same.setBox ?_ (.inl (by simp))) (.inl (by simp))
   refine Same.trans ?_ (hs2.mono (by simp))
   refine Same.trans ?_ (hs1.mono (by simp))
   repeat' first | exact Same.refl | apply Same.next | apply Same.setArr | (refine Same.setBox ?_ (.inl (by simp)))
  ·rcases List.mem_append.1 hk with h9 | h9
   ·exact (hla' k h9).1
   ·have:=(hlb' k h9).1;omega
 ·rintro E1 h1 ⟨co,cn,en,e0,e1',mA,hsA,hlA⟩
  have hbA:=mA.box
  simp only[mpC,Mp.enc,Stp.enc,List.map_cons,List.map_nil,List.cons_append,List.nil_append] at hbA
  obtain⟨xs,mx,-,hlen,hel⟩:=mA.out.len
  simp[en,e0,hbA]
  refine MR.lenK mx ?_
  simp[en,e0,hbA]
  have hon:o.length≤2097152:=by have:=mx.2.1;rw[hlen] at this;simpa using this
  have hl1A:l.1 < h1.ep:=mA.lt l (by simp)
  refine Wait.for (xs:=o) (s0:=o) (fun i s e h'=>e.n=150∧e.get 0=.one (.ptr l 0)∧e.get 1=.one (.d (.sl (inp.map Rel.enc)))∧e.get 64=.one co∧e.get 65=.one (.d (.int .i64 (o.length:Int)))∧e.get 66=.one (.d (.int .i64 (i:Int))) ∧
   MpAt h' l co cn { M with inp:=i2,comp:=c2,out:=s,nc:=n,err:=0 }∧Same h1 h' (labs co)∧s.length=o.length∧∀ j,i≤j→s[j]?=o[j]?) hm ⟨by simp[en],by simp[e0],by simp[e1'],by simp,by simp[hlen],by simp,mA,.refl,rfl,fun _ _=>rfl⟩ ?_ ?_
  ·rintro i s e h' ⟨en,e0,e1',e64,e65,e66,m1,hs,hsl,hj⟩ hlt hm
   have hw:IntKind.i64.wrap ((i:Int)+1)=(i:Int)+1:=IntWalk.i64_in _ (by omega)
   have hb1:=m1.box
   simp only[mpC,Mp.enc,Stp.enc,List.map_cons,List.map_nil,List.cons_append,List.nil_append] at hb1
   obtain⟨ys,my,he',hyl,hye⟩:=m1.out.len
   have hsi:s[i]?=some o[i]:=by rw[hj i (Nat.le_refl _)];exact List.getElem?_eq_getElem hlt
   obtain⟨c',hx,hc'⟩:=hye i _ hsi
   have hyi:i < ys.length:=(List.getElem?_eq_some_iff.1 hx).1
   obtain⟨lo,cap,sp,rfl,hbo,hcap⟩:=my.block (by omega)
   have ht0:takeN 2 ((rowBox ys sp).drop (i * 2))=some [.d (.str o[i].table),c']:=by
    have h9:=row_take (sp:=sp) (f:=0) (m:=2) my.1 hx (by simp)
    simpa[takeN] using h9
   have hln:=row_len (sp:=sp) my.1 (k:=i) hyi
   have hlh:l.1 < h'.ep:=m1.lt l (by simp)
   have hnl:=ne_new hlh
   have hnl':=ne_new' hlh
   have hlo:lo.1 < h'.ep:=m1.lt lo (by simp[labs])
   have hno:=ne_new hlo
   have hno':=ne_new' hlo
   obtain⟨f,hf,hm⟩:=hm.bind
   simp[en,e0,e1',e64,e65,e66,hlt,hb1,hyi,hbo,ht0]
   refine Wait.cut (Plan.then_ [0,1,2,3,4,5,6,7,8,9,10,11] .done) follows (by kernel_rfl) (fun e2 h2=>e2.n=150∧e2.get 0=.one (.ptr l 0)∧e2.get 1=.one (.d (.sl (inp.map Rel.enc)))∧e2.get 64=.one (.mrow lo 0 ys.length cap)∧e2.get 65=.one (.d (.int .i64 (o.length:Int)))∧e2.get 66=.one (.d (.int .i64 (i:Int))) ∧
    e2.get 11=.one (.d (.int .i64 (i:Int)))∧e2.get 12=.one (.ptr (h'.ep,192) 0)∧h2.box (h'.ep,192)=some [.d (.str o[i].table),c']∧e2.get 14=.one (.d (.bool f.2))∧Same h' h2 []∧h'.ep < h2.ep) ?_ ?_
   ·simp[Plan.then_,vcPlan,planOps,isCallAt,callKind,en,e0,e1',e64,e65,e66,hb1,hnl,hnl']
    refine callK_fn ((c_schema_FindTable M.src o[i].table).h f hf) (by simp) ?_
    simp[Plan.then_,vcPlan,planOps,isCallAt,callKind,en,e0,e1',e64,e65,e66,hb1,hnl,hnl']
    try refine⟨fun _ _ x=>x,?_⟩
    refine CutK.of ⟨by simp[en],by simp[e0,en],by simp[e1',en],by simp[e64,en],by simp[e65,en],by simp[e66,en],by simp[en],by simp[en],by simp,by simp,?_,by simp⟩
    repeat' first | exact Same.refl | apply Same.next | apply Same.setArr | (refine Same.setBox ?_ (.inr (by simp)))
   ·rintro e2 h2 ⟨en,e0,e1',e64,e65,e66,e11,e12,b12,e14,hs2,hep2⟩
    have m2:=m1.frame hs2
    have hb2:=m2.box
    simp only[mpC,Mp.enc,Stp.enc,List.map_cons,List.map_nil,List.cons_append,List.nil_append] at hb2
    have hbo2:=(hs2.2 lo hlo (by simp)).trans hbo
    simp[en,e0,e1',e64,e65,e66,e11,e12,e14]
    refine r_cond hm ?_ ?_<;>clear hm<;>intro hc hm
    ·obtain⟨q,hq,hm⟩:=hm.bind
     simp[en,e0,e1',e64,e65,e66,e11,e12,e14]
     have hle:i * 2+1+1≤(rowBox ys sp).length:=by omega
     refine Wait.cut (Plan.then_ [0,1,2,3,4,5,6,7,8,9,10,11,12,13,14,15,16,17,18] .done) follows (by kernel_rfl) (fun e3 h3=>e3.n=150∧e3.get 0=.one (.ptr l 0)∧e3.get 1=.one (.d (.sl (inp.map Rel.enc)))∧e3.get 64=.one (.mrow lo 0 ys.length cap)∧e3.get 65=.one (.d (.int .i64 (o.length:Int)))∧e3.get 66=.one (.d (.int .i64 (i:Int))) ∧
      MpAt h3 l (.mrow lo 0 ys.length cap) cn { M with inp:=i2,comp:=c2,out:=s.set i ⟨o[i].table,q.2⟩,nc:=n,err:=0 }∧Same h' h3 [lo]) ?_ ?_
     ·simp[Plan.then_,vcPlan,planOps,isCallAt,callKind,en,e0,e1',e64,e65,e66,e11,e12,e14,hb2,b12]
      refine callK_fn ((c_instance_Table M.src inp o[i].table).h q hq) (by simp) ?_
      simp[Plan.then_,vcPlan,planOps,isCallAt,callKind,en,e0,e1',e64,e65,e66,e11,e12,e14,hb2,b12,hyi,hbo2,hle]
      have hne1:=m1.nl.1
      simp[labs] at hne1
      try refine⟨fun _ _ x=>x,?_⟩
      refine CutK.of ⟨by simp[en],by simp[e0,en],by simp[e1',en],by simp[e64,en],by simp[e65,en],by simp[e66,en],⟨?_,?_,?_,?_,m1.nl⟩,?_⟩
      ·simp[hne1];exact m2.box
      ·exact rel_put my.1 rfl my.2.1 hcap hx rfl he' _
      ·exact m2.nc.frame fun k hkn=>by
        have:=m1.nl.2.2 lo (by simp[labs])
        have:k≠lo:=by rintro rfl;exact this hkn
        simp[this]
      ·intro k hk
       have:=m2.lt k hk
       simp
       omega
      ·exact ((hs2.mono (by simp)).next).setBox (.inl (by simp))
     ·rintro e3 h3 ⟨en,e0,e1',e64,e65,e66,m3,hs3⟩
      simp[en,e0,e1',e64,e65,e66,hw]
      exact BackF.of (s.set i ⟨o[i].table,q.2⟩) ⟨⟨by simp[en],by simp[e0],by simp[e1'],by simp[e64],by simp[e65],by simp,m3,hs.trans (hs3.mono (by simp[labs])),by simpa using hsl,fun j hij=>by rw[List.getElem?_set_ne (by omega)];exact hj j (by omega)⟩,hm⟩
    ·simp[en,e0,e1',e64,e65,e66,e11,e12,e14,hw]
     exact BackF.of s ⟨⟨by simp[en],by simp[e0],by simp[e1'],by simp[e64],by simp[e65],by simp,m2,hs.trans (hs2.mono (by simp)),hsl,fun j hij=>hj j (by omega)⟩,hm⟩
  ·rintro s e h' ⟨en,e0,e1',e64,e65,e66,m1,hs,hsl,hj⟩ hm
   simp[en,e0,e1',e64,e65,e66]
   obtain⟨M2,hM2,hm⟩:=hm.bind
   obtain⟨hlen2,hm⟩:=hm.chk
   refine callK_heap (h_lens_dispatch _ l co cn _ M2 hM2 m1 _ fun h2 co2 cn2 m2 hs2=>?_)
   have hb2:=m2.box
   simp only[mpC,Mp.enc,Stp.enc,List.map_cons,List.map_nil,List.cons_append,List.nil_append] at hb2
   obtain⟨xo,mo,hxo,hol,hoe⟩:=m2.out.len
   obtain⟨xn,mn,hxn,hnl,hne2⟩:=m2.nc.len
   simp[en,e0,e1',e64,e65,e66]
   refine Wait.cut (Plan.then_ [0,1,2,3,5,6,7,8,11,4,9,10] .done) follows (by kernel_rfl) (fun e3 h3=>∃ ca,e3.n=150∧e3.get 0=.one (.ptr l 0)∧e3.get 112=.one ca∧e3.get 113=.one (.d (.int .i64 ((xo++xn).length:Int)))∧e3.get 114=.one (.d (.int .i64 0))∧MR h3 2 ca (xo++xn)∧Same h2 h3 []∧(∀ k ∈ labs ca,h2.ep≤k.1∧k.1 < h3.ep)) ?_ ?_
   ·simp[Plan.then_,vcPlan,planOps,isCallAt,callKind,en,e0,hb2]
    refine callK_heap (h_slices_Clone_Relation _ co2 xo mo.rd _ fun ca h3 ma hsa hla hba=>?_)
    simp[Plan.then_,vcPlan,planOps,isCallAt,callKind,en,e0,hb2]
    refine⟨hba,?_⟩
    refine app_mr ty_el39 (by kernel_rfl) (by decide) (by decide) ma (MR.rd (mn.frame fun k hk=>hsa.2 k (m2.lt k (by simp[hk])) (by simp))) (by rw[hol,hnl];exact hlen2) fun ca2 h4 ma2 hsa2 hla2=>?_
    simp[Plan.then_,vcPlan,planOps,isCallAt,callKind,en,e0,hb2]
    refine MR.lenK ma2 ?_
    simp[Plan.then_,vcPlan,planOps,isCallAt,callKind,en,e0,hb2]
    refine CutK.of ⟨ca2,by simp[en],by simp[e0,en],by simp[en],by simp[en],by simp[en],ma2,hsa.trans' hsa2 fun k hk=>.inr (hla k hk).1,fun k hk=>?_⟩
    rcases hla2 k hk with h9 | h9
    ·exact⟨(hla k h9).1,Nat.lt_of_lt_of_le (hla k h9).2 hsa2.1⟩
    ·exact⟨Nat.le_trans hsa.1 h9.1,h9.2⟩
   ·rintro e3 h3 ⟨ca,en,e0,e112,e113,e114,ma,hs3,hla⟩
    have m3:=m2.frame hs3
    have hL:(xo++xn).length=(M2.out++M2.nc).length:=by simp[hol,hnl]
    have hel2:∀ (i:Nat) (rel:Rel),(M2.out++M2.nc)[i]?=some rel→∃ c',(xo++xn)[i]?=some [.d (.str rel.table),c']∧c'.toD=some (.sl (rel.rows.map (encL GV.enc))):=by
     intro i rel hi
     rcases Nat.lt_or_ge i M2.out.length with h9 | h9
     ·rw[List.getElem?_append_left h9] at hi
      rw[List.getElem?_append_left (by omega)]
      exact hoe i rel hi
     ·rw[List.getElem?_append_right h9] at hi
      rw[List.getElem?_append_right (by omega),hol]
      exact hne2 _ rel hi
    generalize M2.out++M2.nc=L at hm hL hel2
    generalize xo++xn=X at e113 ma hL hel2
    refine Wait.for (xs:=L) (s0:=M2.err) (fun i s e h'=>e.n=150∧e.get 0=.one (.ptr l 0)∧e.get 112=.one ca∧e.get 113=.one (.d (.int .i64 (L.length:Int)))∧e.get 114=.one (.d (.int .i64 (i:Int))) ∧
     MpAt h' l co2 cn2 { M2 with err:=s }∧MR h' 2 ca (X)∧∀ k ∈ labs ca,k≠l∧k.1 < h'.ep) hm ⟨by simp[en],by simp[e0],by simp[e112],by simp[e113,hL],by simp[e114],m3,ma,fun k hk=>⟨fun he=>?_,(hla k hk).2⟩⟩ ?_ ?_
    ·have:=(hla k hk).1
     have:=m2.lt l (by simp)
     rw[he] at *
     omega
    ·rintro i s e h' ⟨en,e0,e112,e113,e114,m4,ma4,hla4⟩ hlt hm
     have hw:IntKind.i64.wrap ((i:Int)+1)=(i:Int)+1:=IntWalk.i64_in _ (by have:=ma4.2.1;rw[hL] at this;simp at this;omega)
     have hb4:=m4.box
     simp only[mpC,Mp.enc,Stp.enc,List.map_cons,List.map_nil,List.cons_append,List.nil_append] at hb4
     obtain⟨c',hx,hc'⟩:=hel2 i _ (List.getElem?_eq_getElem hlt)
     have hyi:i < X.length:=by omega
     obtain⟨la,cap,sp,rfl,hba,hcap⟩:=ma4.block (by omega)
     have ht0:takeN 2 ((rowBox X sp).drop (i * 2))=some [.d (.str L[i].table),c']:=by
      have h9:=row_take (sp:=sp) (f:=0) (m:=2) ma4.1 hx (by simp)
      simpa[takeN] using h9
     have hlh:l.1 < h'.ep:=m4.lt l (by simp)
     have hnl4:=ne_new hlh
     have hnl4':=ne_new' hlh
     simp[en,e0,e112,e113,e114,hlt,hyi,hba,ht0]
     refine lenK_of (toD_rd hc').1 (fun hll=>?_)
     simp[en,e0,e112,e113,e114,hb4,hnl4,hnl4']
     have same:∀ (h6:HS) (e6:Env),Same h' h6 []→e6.n=150→e6.get 0=.one (.ptr l 0)→e6.get 112=.one (.mrow la 0 X.length cap)→e6.get 113=.one (.d (.int .i64 (L.length:Int)))→e6.get 114=.one (.d (.int .i64 ((i:Int)+1))) →
       (bif decide (24 < L[i].rows.length) && (s == 0) then 12 else s)=s→BackF (I:=⟨fun s' e h=>(e.n=150∧e.get 0=.one (.ptr l 0)∧e.get 112=.one (.mrow la 0 X.length cap)∧e.get 113=.one (.d (.int .i64 (L.length:Int)))∧e.get 114=.one (.d (.int .i64 ((i+1:Nat):Int))) ∧
     MpAt h l co2 cn2 { M2 with err:=s' }∧MR h 2 (.mrow la 0 X.length cap) X∧∀ k ∈ labs (.mrow la 0 X.length cap),k≠l∧k.1 < h.ep)∧Is (forK (fun (_:Nat) (rel:Rel) (e:Int) next=>next (bif decide (24 < rel.rows.length) && (e == 0) then 12 else e)) (fun e=>bif e != 0 then some ([],[],e) else some (M2.out,M2.nc,0)) (L.drop (i+1)) (i+1) s') r⟩) e6 h6:=by
      intro h6 e6 hs6 en6 g0 g112 g113 g114 heq
      rw[heq] at hm
      exact BackF.of s ⟨⟨en6,g0,g112,g113,by simpa using g114,m4.frame hs6,ma4.frame fun k hk=>hs6.2 k (hla4 k hk).2 (by simp),fun k hk=>⟨(hla4 k hk).1,Nat.lt_of_lt_of_le (hla4 k hk).2 hs6.1⟩⟩,hm⟩
     by_cases hg:24 < L[i].rows.length
     ·have hgI:(24:Int) < (L[i].rows.length:Int):=by omega
      by_cases hz:s=0
      ·subst hz
       simp[hg] at hm
       simp[en,e0,e112,e113,e114,hw,hb4,hnl4,hnl4',hgI]
       refine BackF.of 12 ⟨⟨by simp[en],by simp[e0],by simp[e112],by simp[e113],by simp,⟨by simp[mpC,Mp.enc,Stp.enc],m4.out.frame fun k hk=>?_,m4.nc.frame fun k hk=>?_,fun k hk=>?_,m4.nl⟩,ma4.frame fun k hk=>?_,fun k hk=>⟨(hla4 k hk).1,?_⟩⟩,by simpa using hm⟩
       ·have h1:k≠l:=by rintro rfl;exact m4.nl.1 hk
        have h2:=ne_new (l:=k) (n:=h'.ep) (m4.lt k (by simp[hk]))
        simp[h1,h2]
       ·have h1:k≠l:=by rintro rfl;exact m4.nl.2.1 hk
        have h2:=ne_new (l:=k) (n:=h'.ep) (m4.lt k (by simp[hk]))
        simp[h1,h2]
       ·have:=m4.lt k hk
        simp
        omega
       ·have h1:=(hla4 k hk).1
        have h2:=ne_new (l:=k) (n:=h'.ep) (hla4 k hk).2
        simp[h1,h2]
       ·have:=(hla4 k hk).2
        simp
        omega
      ·have hzb:(s == 0)=false:=by simpa using hz
       simp[en,e0,e112,e113,e114,hw,hb4,hnl4,hnl4',hgI,hzb]
       refine same _ _ ?_ ?_ ?_ ?_ ?_ ?_ ?_
       ·repeat' first | exact Same.refl | apply Same.next | apply Same.setArr | (refine Same.setBox ?_ (.inr (by simp)))
       ·simp[en]
       ·simp[e0]
       ·simp[e112]
       ·simp[e113]
       ·simp
       ·rw[hzb,Bool.and_false];rfl
     ·have hgI:¬ (24:Int) < (L[i].rows.length:Int):=by omega
      simp[en,e0,e112,e113,e114,hw,hb4,hnl4,hnl4',hgI]
      refine same _ _ ?_ ?_ ?_ ?_ ?_ ?_ ?_
      ·repeat' first | exact Same.refl | apply Same.next | apply Same.setArr | (refine Same.setBox ?_ (.inr (by simp)))
      ·simp[en]
      ·simp[e0]
      ·simp[e112]
      ·simp[e113]
      ·simp
      ·simp[hg]
    ·rintro s e h' ⟨en,e0,e112,e113,e114,m4,ma4,hla4⟩ hm
     have hb4:=m4.box
     simp only[mpC,Mp.enc,Stp.enc,List.map_cons,List.map_nil,List.cons_append,List.nil_append] at hb4
     simp[en,e0,e112,e113,e114,hb4]
     refine r_cond hm ?_ ?_<;>clear hm<;>intro hc hm
     ·obtain rfl:=r_ret hm
      simp[en,e0,e112,e113,e114,hb4]
      refine Wait.cut (Plan.then_ [0,1,2,3,4,5,6] .done) follows (by kernel_rfl) (fun e4 h4=>e4.n=150∧e4.get 6=.one .nil∧e4.get 7=.one .nil∧e4.get 8=.one (.d (.int .i64 s))) ?_ ?_
      ·simp[Plan.then_,vcPlan,planOps,isCallAt,callKind,en,e0,hb4]
       exact CutK.of (by simp[en])
      ·rintro e4 h4 ⟨en,e6,e7,e8⟩
       simp[retH,resVs,resV,notTup,en,e6,e7,e8]
       exact hK .nil .nil _ (.data rfl) (.data rfl)
     ·obtain rfl:=r_ret hm
      simp[en,e0,e112,e113,e114,hb4]
      refine Wait.cut (Plan.then_ [0,1,2,3,4,5,6,7,8,9,10] .done) follows (by kernel_rfl) (fun e4 h4=>h4=h'∧e4.n=150∧e4.get 6=.one co2∧e4.get 7=.one cn2∧e4.get 8=.one (.d (.int .i64 0))) ?_ ?_
      ·simp[Plan.then_,vcPlan,planOps,isCallAt,callKind,en,e0,hb4]
       exact CutK.of ⟨rfl,by simp[en]⟩
      ·rintro e4 h4 ⟨rfl,en,e6,e7,e8⟩
       simp[retH,resVs,resV,notTup,en,e6,e7,e8]
       exact hK co2 cn2 _ m4.out.frz m4.nc.frz
end Go.Proofs.YthiojhcimecdgaaGreatDoor
end
section
namespace Go.Proofs.YthiojhcimecdgaaGreatDoor
open Go.Am
set_option maxRecDepth 20000
def m_slices_Index_Int (s_:List Int) (v_:Int):Option Int:=
 (forK (fun (i2:Nat) (x2:Int) (s2:Unit) next_2=>(bif (v_ == x2) then (some (i2:Int)) else (next_2 ()))) (fun (s2:Unit)=>(some (-1))) s_ 0 ())
instance c_slices_Index_Int (s_:List Int) (v_:Int):Con (m_slices_Index_Int s_ v_) Tryz.prog 169 [.one (.d (.sl (s_.map encI))),.one (.d (.int .i64 v_))] (fun r=>.one (.d (.int .i64 r))):=by
 unfold m_slices_Index_Int
 have l1:LH (σ:=Unit) 8 [0,1,7] []:=.intro
 exact go 19 Tryz.func169 rfl (by kernel_rfl) rfl rfl (by simp)
set_option maxRecDepth 20000
def m_slices_Contains_Int (s_:List Int) (v_:Int):Option Bool:=
 (bindK (m_slices_Index_Int s_ v_) fun v1=>(some (decide (0≤v1))))
instance c_slices_Contains_Int (s_:List Int) (v_:Int):Con (m_slices_Contains_Int s_ v_) Tryz.prog 139 [.one (.d (.sl (s_.map encI))),.one (.d (.int .i64 v_))] (fun r=>.one (.d (.bool r))):=by
 unfold m_slices_Contains_Int
 exact go 9 Tryz.func139 rfl (by kernel_rfl) rfl rfl (by simp)
end Go.Proofs.YthiojhcimecdgaaGreatDoor
end
section
namespace Go.Proofs
open Go.Shelf
def Tryz.laysM171_ren:Go.Shelf.Ren:=⟨fun | 171=>217 | 243=>233 | 246=>254 | 283=>268 | 284=>269 | 285=>270 | 286=>271 | 129=>121 | 317=>279 | 318=>280 | 319=>281 | 320=>282 | 337=>288 | 338=>289 | n=>n,fun | 3=>3 | 9=>9 | 2=>2 | 4=>4 | 171=>313 | 0=>0 | 53=>198 | 37=>227 | 5=>5 | 173=>315 | 212=>322 | 51=>196 | 20=>20 | 213=>323 | 46=>153 | 232=>331 | 233=>332 | n=>n,fun | 17=>1 | 18=>2 | 19=>3 | n=>n⟩
theorem Tryz.laysM171:Go.Proofs.LaysM.n171 Tryz.prog Tryz.laysM171_ren:={
 mixed:=by kernel_rfl
 f129:=Tryz.func121.trans (congrArg some (by kernel_rfl))
 f171:=Tryz.func217.trans (congrArg some (by kernel_rfl))
 f243:=Tryz.func233.trans (congrArg some (by kernel_rfl))
 f246:=Tryz.func254.trans (congrArg some (by kernel_rfl))
 f283:=Tryz.func268.trans (congrArg some (by kernel_rfl))
 f284:=Tryz.func269.trans (congrArg some (by kernel_rfl))
 f285:=Tryz.func270.trans (congrArg some (by kernel_rfl))
 f286:=Tryz.func271.trans (congrArg some (by kernel_rfl))
 f317:=Tryz.func279.trans (congrArg some (by kernel_rfl))
 f318:=Tryz.func280.trans (congrArg some (by kernel_rfl))
 f319:=Tryz.func281.trans (congrArg some (by kernel_rfl))
 f320:=Tryz.func282.trans (congrArg some (by kernel_rfl))
 f337:=Tryz.func288.trans (congrArg some (by kernel_rfl))
 f338:=Tryz.func289.trans (congrArg some (by kernel_rfl))
 t0:=Tryz.underlying0
 a0:=Tryz.isAgg0
 z0:=Tryz.sizeOf0
 v0:=Tryz.zeroValue0
 t2:=Tryz.underlying2
 a2:=Tryz.isAgg2
 z2:=Tryz.sizeOf2
 v2:=Tryz.zeroValue2
 t3:=Tryz.underlying3
 a3:=Tryz.isAgg3
 z3:=Tryz.sizeOf3
 v3:=Tryz.zeroValue3
 t4:=Tryz.underlying4
 a4:=Tryz.isAgg4
 z4:=Tryz.sizeOf4
 v4:=Tryz.zeroValue4
 t5:=Tryz.underlying5
 a5:=Tryz.isAgg5
 z5:=Tryz.sizeOf5
 v5:=Tryz.zeroValue5
 t9:=Tryz.underlying9
 a9:=Tryz.isAgg9
 z9:=Tryz.sizeOf9
 v9:=Tryz.zeroValue9
 t20:=Tryz.underlying20
 a20:=Tryz.isAgg20
 z20:=Tryz.sizeOf20
 v20:=Tryz.zeroValue20
 t37:=Tryz.underlying227
 a37:=Tryz.isAgg227
 z37:=Tryz.sizeOf227
 v37:=Tryz.zeroValue227
 t46:=Tryz.underlying153
 a46:=Tryz.isAgg153
 z46:=Tryz.sizeOf153
 v46:=Tryz.zeroValue153
 t51:=Tryz.underlying196
 a51:=Tryz.isAgg196
 z51:=Tryz.sizeOf196
 v51:=Tryz.zeroValue196
 t53:=Tryz.underlying198
 a53:=Tryz.isAgg198
 z53:=Tryz.sizeOf198
 v53:=Tryz.zeroValue198
 t171:=Tryz.underlying313
 a171:=Tryz.isAgg313
 z171:=Tryz.sizeOf313
 v171:=Tryz.zeroValue313
 t173:=Tryz.underlying315
 a173:=Tryz.isAgg315
 z173:=Tryz.sizeOf315
 v173:=Tryz.zeroValue315
 t212:=Tryz.underlying322
 a212:=Tryz.isAgg322
 z212:=Tryz.sizeOf322
 v212:=Tryz.zeroValue322
 t213:=Tryz.underlying323
 a213:=Tryz.isAgg323
 z213:=Tryz.sizeOf323
 t232:=Tryz.underlying331
 a232:=Tryz.isAgg331
 z232:=Tryz.sizeOf331
 v232:=Tryz.zeroValue331
 t233:=Tryz.underlying332
 a233:=Tryz.isAgg332
 z233:=Tryz.sizeOf332
 v233:=Tryz.zeroValue332
 g17:=by kernel_rfl
 g18:=by kernel_rfl
 g19:=by kernel_rfl
 i0:=by kernel_rfl
 i2:=by kernel_rfl
 i3:=by kernel_rfl
 i4:=by kernel_rfl
 i5:=by kernel_rfl
 i9:=by kernel_rfl
 i20:=by kernel_rfl
 i37:=by kernel_rfl
 i46:=by kernel_rfl
 i51:=by kernel_rfl
 i53:=by kernel_rfl
 i171:=by kernel_rfl
 i173:=by kernel_rfl
 i212:=by kernel_rfl
 i232:=by kernel_rfl
 i233:=by kernel_rfl
 m17:=by kernel_rfl
 m18:=by kernel_rfl
 m19:=by kernel_rfl }
end Go.Proofs
end
section
namespace Go.Proofs.YthiojhcimecdgaaGreatDoor
open Go Go.Am
open Go.RowKit (Below)
theorem PSpec.of_calls {P:Program} {f:FuncId} {av:List AV} {r:RV} {v:Value} (hok:FnOK P f) (hr:∀ m,RepRV m (fun _=>(none,0)) r v) (hf:r.fr=[])
  (h:∀ (w:World) (m t:CM) (vals:Array Value),GOK w→RepArgs m t av vals→Calls P f vals w fun e w'=>e=.returned v∧Below w.heap.size w w'):PSpec P f av r:=by
 refine⟨hok,fun w m t vals hg hm ht hargs=>(h w m t vals hg hargs).mono ?_⟩
 rintro e w' ⟨rfl,hb⟩
 refine⟨v,m,fun _=>(none,0),rfl,Sub.refl _,fun _ _ _ _ h=>h,hm.of_heap fun b o v hv=>hb.block b (hm.lt hv),hb,hr m,?_⟩
 rw[hf]
 exact⟨fun x hx=>by simp at hx,fun x hx=>by simp at hx⟩
theorem args_one {m t:CM} {av:List AV} {a:AV} {vals:Array Value} {u:Value} (h:RepArgs m t [a] vals) (hu:∀ v,RepAV m t a v→v=u):vals=#[u]:=by
 obtain⟨hs,hg⟩:=h
 obtain⟨u0,h0,r0⟩:=hg 0 _ rfl
 have:=hu u0 r0
 subst this
 apply Array.ext_getElem?
 intro i
 match i with
 | 0=>simpa using h0
 | i+1=>rw[Array.getElem?_eq_none (by simp at hs;omega)];simp
theorem tab_of {P:Program} {w:World} {nm:String} {g:Nat} {zs:List Int} (h:∃ T l,w.heap[g]?=some (.cells (zs.map fun z=>Value.int .u64 z).toArray T l)) (hn:P.globalNamed nm=some g):Lib.TabIs P w nm .u64 zs:=by
 obtain⟨T,l,q⟩:=h
 unfold Lib.TabIs World.var?
 rw[hn]
 simp[q]
def m_strconv_Itoa (i:Int):Option ByteArray:=chkK (okI i) (some ⟨(Lib.itoa i).toArray⟩)
theorem c_strconv_Itoa (i:Int) (r:ByteArray) (hm:Is (m_strconv_Itoa i) r):PSpec Tryz.prog 217 [.one (.d (.int .i64 i))] (.one (.d (.str r))):=by
 obtain⟨hi,hm⟩:=hm.chk
 obtain rfl:=r_ret hm
 refine PSpec.of_calls ⟨_,Tryz.func217,by kernel_rfl,by kernel_rfl⟩ (fun m=>RepD.str _) rfl fun w m t vals hg hargs=>?_
 obtain rfl:=args_one (av:=[]) (u:=.int .i64 i) hargs fun v hv=>RepD.int_inv (m:=m) hv
 refine (Any.strconv_Itoa Tryz.laysM171 i hi.1 hi.2 w (tab_of hg.2.1 (by kernel_rfl))).mono ?_
 rintro e w' ⟨rfl,k,os,rfl⟩
 exact⟨rfl,Lib.below_grow _ _ (Nat.le_refl _) _ _⟩
end Go.Proofs.YthiojhcimecdgaaGreatDoor
end
section
namespace Go.Proofs.YthiojhcimecdgaaGreatDoor
open Go.Am
set_option maxRecDepth 20000
instance i_strconv_Itoa (i:Int):Con (m_strconv_Itoa i) Tryz.prog 217 [.one (.d (.int .i64 i))] (fun r=>.one (.d (.str r))):=⟨fun r hm=>c_strconv_Itoa i r hm⟩
set_option maxRecDepth 20000
def m_complement_keyed (t:Tbl) (columns:List Col):Option Tbl:=
 (forK (fun (i5:Nat) (x5:Int) (s5:(List Col) × (List Int)) next_5=>(getK t.cols x5 fun x6=>(bindK (m_strconv_Itoa (i5:Int)) fun v8=>(chkK (({ data:=#[107] }:ByteArray).size+v8.size≤9223372036854775807) (appK2 s5.1 [(Col.mk (({ data:=#[107] }:ByteArray)++v8) x6.kind x6.nullable)] fun _=>(appK2 s5.2 [(i5:Int)] fun _=>(next_5 ((s5.1++[(Col.mk (({ data:=#[107] }:ByteArray)++v8) x6.kind x6.nullable)]),(s5.2++[(i5:Int)]))))))))) (fun (s5:(List Col) × (List Int))=>(appK2 s5.1 columns fun _=>(some (Tbl.mk t.name (s5.1++columns) s5.2)))) t.pk 0 ([],[]))
theorem c_complement_keyed (t:Tbl) (columns:List Col) (r:Tbl) (hm:Is (m_complement_keyed t columns) r):PSpec Tryz.prog 196 [.agg t.enc,.one (.d (.sl (columns.map Col.enc)))] (.agg (r.enc.map RC.d)):=by
 unfold m_complement_keyed at hm
 refine PSpec.of_vc Tryz.func196 rfl (by kernel_rfl) (n:=48) rfl rfl (by simp) ?_
 try simp[*]
 intro hl4
 replace hl4:t.pk.length≤2097152:=by simpa using hl4
 refine Wait.for (xs:=t.pk) (s0:=([],[])) (fun i5 s5 e5 h5=>∃ c5_0 c5_1:C,(e5.n=48∧e5.get 1=.one (.d (.sl (columns.map Col.enc)))∧e5.get 2=.one (.ptr (0,32) 0)∧e5.get 4=.one (.ptr (1,64) 0)∧e5.get 5=.one (.ptr (2,80) 0)∧e5.get 13=.one (.d (.sl (t.pk.map encI)))∧e5.get 14=.one (.d (.int .i64 (t.pk.length:Int)))∧e5.get 15=.one (.d (.int .i64 (i5:Int)))∧h5.box (0,32)=some [.d (.str t.name),.d (.sl (t.cols.map Col.enc)),.d (.sl (t.pk.map encI))]∧h5.box (1,64)=some [.d (.str ByteArray.empty),.nil,.nil]∧h5.box (2,80)=some [.d (.str t.name),c5_0,c5_1]∧Grows h5 3 c5_0 (s5.1.map Col.enc)∧Grows h5 1 c5_1 (s5.2.map encI))∧Apart c5_0 c5_1) hm ⟨.nil,.nil,by simp (maxDischargeDepth:=20) [*],(by simp)⟩ ?_ ?_
 ·rintro i5 s5 e5 h5 ⟨c5_0,c5_1,⟨hn5,h5_1,h5_2,h5_4,h5_5,h5_13,h5_14,h5_15,hb5_b1,hb5_b2,hb5_b3,gc5_0,gc5_1⟩,apc5_0_c5_1⟩ hlt5 hm
  have hlc5_0:=gc5_0.list
  have hdc5_0:=gc5_0.toD
  have hac5_0:=gc5_0.toA
  have huc5_0:=gc5_0.useUp_arr
  have hlc5_1:=gc5_1.list
  have hdc5_1:=gc5_1.toD
  have hac5_1:=gc5_1.toA
  have huc5_1:=gc5_1.useUp_arr
  have hw5:IntKind.i64.wrap ((i5:Int)+1)=(i5:Int)+1:=IntWalk.i64_in _ (by omega)
  try simp[*]
  replace hm:=hm.get
  obtain⟨x6,h0x6,hxx6,hm⟩:=hm
  try simp[*]
  refine r_call (av:=[.one (.d (.int .i64 (i5:Int)))]) hm (fun v hv=>c_strconv_Itoa _ v hv) (by simp[*]) ?_
  clear hm;intro v8 hvv8 hm
  try simp[*]
  replace hm:=hm.chk
  obtain⟨hw9,hm⟩:=hm
  have hw92:=hw9
  try simp at hw92
  try simp[*]
  refine r_app (xs:=s5.1) (ys:=[(Col.mk (({ data:=#[107] }:ByteArray)++v8) x6.kind x6.nullable)]) (enc:=Col.enc) hm ty_el63 (by first | exact Grows.nil | (simp (maxDischargeDepth:=20) [*];done) | (simp (maxDischargeDepth:=20) [*];refine⟨?_,by omega⟩;intro hq;subst hq;simp at hz2<;>omega)) (by simp[*]) (by decide) (by decide) (fun _=>rfl) ?_
  clear hm;intro hl11 hm g10
  try simp[*]
  refine r_app (xs:=s5.2) (ys:=[(i5:Int)]) (enc:=encI) hm ty_el64 (by first | exact Grows.nil | (simp (maxDischargeDepth:=20) [*];done) | (simp (maxDischargeDepth:=20) [*];refine⟨?_,by omega⟩;intro hq;subst hq;simp at hz2<;>omega)) (by simp[*]) (by decide) (by decide) (fun _=>rfl) ?_
  clear hm;intro hl13 hm g12
  try simp[*]
  exact BackF.of ((s5.1++[(Col.mk (({ data:=#[107] }:ByteArray)++v8) x6.kind x6.nullable)]),(s5.2++[(i5:Int)])) ⟨⟨.own (h5.ep+3,528) ((s5.1++[(Col.mk (({ data:=#[107] }:ByteArray)++v8) x6.kind x6.nullable)]).map Col.enc),.own (h5.ep+5,624) ((s5.2++[(i5:Int)]).map encI),by simp (maxDischargeDepth:=20) [*],(by simp)⟩,hm⟩
 ·rintro s5 e5 h5 ⟨c5_0,c5_1,⟨hn5,h5_1,h5_2,h5_4,h5_5,h5_13,h5_14,h5_15,hb5_b1,hb5_b2,hb5_b3,gc5_0,gc5_1⟩,apc5_0_c5_1⟩ hm
  have hlc5_0:=gc5_0.list
  have hdc5_0:=gc5_0.toD
  have hac5_0:=gc5_0.toA
  have huc5_0:=gc5_0.useUp_arr
  have hlc5_1:=gc5_1.list
  have hdc5_1:=gc5_1.toD
  have hac5_1:=gc5_1.toA
  have huc5_1:=gc5_1.useUp_arr
  try simp[*]
  refine r_app (xs:=s5.1) (ys:=columns) (enc:=Col.enc) hm ty_el63 (by first | exact Grows.nil | (simp (maxDischargeDepth:=20) [*];done) | (simp (maxDischargeDepth:=20) [*];refine⟨?_,by omega⟩;intro hq;subst hq;simp at hz2<;>omega)) (by simp[*]) (by decide) (by decide) (fun _=>rfl) ?_
  clear hm;intro hl15 hm g14
  try simp[*]
  obtain rfl:=r_ret hm
  exact ret0 (vs:=[_]) (by simp[*];try exact rfl) (by simp[*])
instance i_complement_keyed (t:Tbl) (columns:List Col):Con (m_complement_keyed t columns) Tryz.prog 196 [.agg t.enc,.one (.d (.sl (columns.map Col.enc)))] (fun r=>.agg (r.enc.map RC.d)):=⟨fun r hm=>c_complement_keyed t columns r hm⟩
set_option maxRecDepth 20000
def m_complement_renamed (c:Col) (name:ByteArray):Option Col:=
 (some (Col.mk name c.kind c.nullable))
instance c_complement_renamed (c:Col) (name:ByteArray):Con (m_complement_renamed c name) Tryz.prog 197 [.agg c.enc,.one (.d (.str name))] (fun r=>.agg (r.enc.map RC.d)):=by
 unfold m_complement_renamed
 exact go 8 Tryz.func197 rfl (by kernel_rfl) rfl rfl (by simp)
set_option maxRecDepth 20000
def m_complement_numbered (columns:List Col):Option ((List Col)):=
 (forK (fun (i2:Nat) (x2:Col) (s2:(List Col)) next_2=>(bindK (m_strconv_Itoa (i2:Int)) fun v4=>(chkK (({ data:=#[98] }:ByteArray).size+v4.size≤9223372036854775807) (bindK (m_complement_renamed x2 (({ data:=#[98] }:ByteArray)++v4)) fun v6=>(appK2 s2 [v6] fun _=>(next_2 (s2++[v6]))))))) (fun (s2:(List Col))=>(some s2)) columns 0 [])
instance c_complement_numbered (columns:List Col):Con (m_complement_numbered columns) Tryz.prog 198 [.one (.d (.sl (columns.map Col.enc)))] (fun r=>.one (.d (.sl (r.map Col.enc)))):=by
 unfold m_complement_numbered
 have l1:LH (σ:=(List Col)) 8 [6,7] [.g 3 3 (fun s=>s.map Col.enc)]:=.intro
 have p1:PH [5] (Plan.then_ [0,1,2,3,4,5,6,7,8] .done):=.intro
 exact go 23 Tryz.func198 rfl (by kernel_rfl) rfl rfl (by simp)
set_option maxRecDepth 20000
set_option maxHeartbeats 2000000
def m_complement_table (s_:Sch) (target:Sch) (step:Stp):Option Tbl:=
 (bif (step.kind == 10) then (bindK (m_schema_CloneTable step.newTable) fun v6=>(some v6)) else (bindK (m_schema_FindTable s_ step.table) fun v7=>(getK s_.tables v7.1 fun x8=>(bif (step.kind == 11) then (bindK (m_schema_CloneTable x8) fun v11=>(some v11)) else (bindK (m_schema_FindTable target step.table) fun v12=>(getK target.tables v12.1 fun x13=>(chkK (okI ((x13.cols.length:Int) - 1)) (getK x13.cols ((x13.cols.length:Int) - 1) fun x16=>(bindK (m_schema_FindColumn x8 step.column) fun v18=>(bif (step.kind == 1) then (bindK (m_complement_renamed x16 ({ data:=#[111,108,100] })) fun v20=>(bindK (m_complement_keyed x8 [v20]) fun v21=>(some v21))) else (bif (step.kind == 2) then (getK x8.cols v18.1 fun x23=>(bindK (m_complement_renamed x23 ({ data:=#[111,108,100] })) fun v24=>(bindK (m_complement_keyed x8 [v24]) fun v25=>(some v25)))) else (bif (step.kind == 5) then (getK x8.cols v18.1 fun x27=>(getK x13.cols v18.1 fun x28=>(bindK (m_complement_renamed x27 ({ data:=#[111,108,100] })) fun v29=>(bindK (m_complement_renamed x28 ({ data:=#[110,101,119] })) fun v30=>(bindK (m_complement_keyed x8 [v29,v30]) fun v31=>(some v31)))))) else (bif (step.kind == 12) then (getK step.cols 0 fun x33=>(getK x8.cols x33 fun x34=>(getK step.cols 1 fun x35=>(getK x8.cols x35 fun x36=>(bindK (m_complement_renamed x34 ({ data:=#[111,108,100,48] })) fun v37=>(bindK (m_complement_renamed x36 ({ data:=#[111,108,100,49] })) fun v38=>(bindK (m_complement_renamed x16 ({ data:=#[110,101,119] })) fun v39=>(bindK (m_complement_keyed x8 [v37,v38,v39]) fun v40=>(some v40))))))))) else (bif (step.kind == 8) then (bindK (m_complement_keyed x8 [(Col.mk ({ data:=#[111,116,104,101,114] }) 2 false)]) fun v42=>(some v42)) else (bif (step.kind == 7) then (chkK (0≤(x8.cols.length:Int)∧(x8.cols.length:Int)≤(x13.cols.length:Int)∧(x13.cols.length:Int)≤(x13.cols.length:Int)) (bindK (m_complement_numbered ((x13.cols.take x13.cols.length).drop x8.cols.length)) fun v46=>(bindK (m_complement_keyed x8 v46) fun v47=>(some v47)))) else (forK (fun (i49:Nat) (x49:Col) (s49:(List Col)) next_49=>(bindK (m_slices_Contains_Int step.cols (i49:Int)) fun v51=>(bif v51 then (appK2 s49 [x49] fun _=>(next_49 (s49++[x49]))) else (next_49 s49)))) (fun (s49:(List Col))=>(bindK (m_complement_numbered s49) fun v55=>(bindK (m_complement_keyed x8 v55) fun v56=>(some v56)))) x8.cols 0 []))))))))))))))))
theorem c_complement_table (s_:Sch) (target:Sch) (step:Stp) (r:Tbl) (hm:Is (m_complement_table s_ target step) r):PSpec Tryz.prog 168 [.agg s_.enc,.agg target.enc,.agg step.enc] (.agg (r.enc.map RC.d)):=by
 unfold m_complement_table at hm
 refine PSpec.of_vc Tryz.func168 rfl (by kernel_rfl) (n:=166) rfl rfl (by simp) ?_
 try simp[*]
 refine r_cond hm ?_ ?_<;>clear hm<;>intro hc5 hm
 ·try simp[*]
  refine r_call (av:=[.agg step.newTable.enc]) hm (fun v hv=>c_schema_CloneTable _ v hv) (by simp[*]) ?_
  clear hm;intro v6 hvv6 hm
  try simp[*]
  obtain rfl:=r_ret hm
  exact ret0 (vs:=[_]) (by simp[*];try exact rfl) (by simp[*])
 ·try simp[*]
  refine r_call (av:=[.agg s_.enc,.one (.d (.str step.table))]) hm (fun v hv=>c_schema_FindTable _ _ v hv) (by simp[*]) ?_
  clear hm;intro v7 hvv7 hm
  try simp[*]
  replace hm:=hm.get
  obtain⟨x8,h0x8,hxx8,hm⟩:=hm
  try simp[*]
  refine r_cond hm ?_ ?_<;>clear hm<;>intro hc10 hm
  ·try simp[*]
   refine r_call (av:=[.agg x8.enc]) hm (fun v hv=>c_schema_CloneTable _ v hv) (by simp[*]) ?_
   clear hm;intro v11 hvv11 hm
   try simp[*]
   obtain rfl:=r_ret hm
   exact ret0 (vs:=[_]) (by simp[*];try exact rfl) (by simp[*])
  ·try simp[*]
   refine r_call (av:=[.agg target.enc,.one (.d (.str step.table))]) hm (fun v hv=>c_schema_FindTable _ _ v hv) (by simp[*]) ?_
   clear hm;intro v12 hvv12 hm
   try simp[*]
   replace hm:=hm.get
   obtain⟨x13,h0x13,hxx13,hm⟩:=hm
   try simp[*]
   intro hl14
   replace hl14:x13.cols.length≤2097152:=by simpa using hl14
   replace hm:=hm.chk
   obtain⟨hw15,hm⟩:=hm
   replace hw15:=wrap_ok hw15
   try simp[*]
   replace hm:=hm.get
   obtain⟨x16,h0x16,hxx16,hm⟩:=hm
   try simp at h0x16
   try simp at hxx16
   try simp[*]
   refine r_call (av:=[.agg x8.enc,.one (.d (.str step.column))]) hm (fun v hv=>c_schema_FindColumn _ _ v hv) (by simp[*]) ?_
   clear hm;intro v18 hvv18 hm
   try simp[*]
   refine r_cond hm ?_ ?_<;>clear hm<;>intro hc19 hm
   ·try simp[*]
    refine Wait.of (SWP.draw (Plan.then_ [0,1,2,3,4,5] .done) follows (by kernel_rfl) ?_)
    try simp[*,Plan.then_,vcPlan,planOps,isCallAt,callKind]
    refine r_call (av:=[.agg x16.enc,.one (.d (.str ({ data:=#[111,108,100] })))]) hm (fun v hv=>c_complement_renamed _ _ v hv) (by simp[*]) ?_
    clear hm;intro v20 hvv20 hm
    try simp[*,Plan.then_,vcPlan,planOps,isCallAt,callKind]
    try refine⟨fun (_:Lab) (_:List C) hl=>hl,?_⟩
    refine r_call (av:=[.agg x8.enc,.one (.d (.sl ([v20].map Col.enc)))]) hm (fun v hv=>c_complement_keyed _ _ v hv) (by simp[*]) ?_
    clear hm;intro v21 hvv21 hm
    try simp[*,Plan.then_,vcPlan,planOps,isCallAt,callKind]
    try refine⟨fun (_:Lab) (_:List C) hl=>hl,?_⟩
    obtain rfl:=r_ret hm
    exact ret0 (vs:=[_]) (by simp[*];try exact rfl) (by simp[*])
   ·try simp[*]
    refine r_cond hm ?_ ?_<;>clear hm<;>intro hc22 hm
    ·try simp[*]
     refine Wait.of (SWP.draw (Plan.then_ [0,1,2,3,4,5,6,7,8,9] .done) follows (by kernel_rfl) ?_)
     try simp[*,Plan.then_,vcPlan,planOps,isCallAt,callKind]
     replace hm:=hm.get
     obtain⟨x23,h0x23,hxx23,hm⟩:=hm
     try simp[*,Plan.then_,vcPlan,planOps,isCallAt,callKind]
     refine r_call (av:=[.agg x23.enc,.one (.d (.str ({ data:=#[111,108,100] })))]) hm (fun v hv=>c_complement_renamed _ _ v hv) (by simp[*]) ?_
     clear hm;intro v24 hvv24 hm
     try simp[*,Plan.then_,vcPlan,planOps,isCallAt,callKind]
     try refine⟨fun (_:Lab) (_:List C) hl=>hl,?_⟩
     refine r_call (av:=[.agg x8.enc,.one (.d (.sl ([v24].map Col.enc)))]) hm (fun v hv=>c_complement_keyed _ _ v hv) (by simp[*]) ?_
     clear hm;intro v25 hvv25 hm
     try simp[*,Plan.then_,vcPlan,planOps,isCallAt,callKind]
     try refine⟨fun (_:Lab) (_:List C) hl=>hl,?_⟩
     obtain rfl:=r_ret hm
     exact ret0 (vs:=[_]) (by simp[*];try exact rfl) (by simp[*])
    ·try simp[*]
     refine r_cond hm ?_ ?_<;>clear hm<;>intro hc26 hm
     ·try simp[*]
      refine Wait.of (SWP.draw (Plan.then_ [0,1,2,3,4,5,7,8,9,10,6,11,12,13,14] .done) follows (by kernel_rfl) ?_)
      try simp[*,Plan.then_,vcPlan,planOps,isCallAt,callKind]
      replace hm:=hm.get
      obtain⟨x27,h0x27,hxx27,hm⟩:=hm
      try simp[*,Plan.then_,vcPlan,planOps,isCallAt,callKind]
      replace hm:=hm.get
      obtain⟨x28,h0x28,hxx28,hm⟩:=hm
      try simp[*,Plan.then_,vcPlan,planOps,isCallAt,callKind]
      refine r_call (av:=[.agg x27.enc,.one (.d (.str ({ data:=#[111,108,100] })))]) hm (fun v hv=>c_complement_renamed _ _ v hv) (by simp[*]) ?_
      clear hm;intro v29 hvv29 hm
      try simp[*,Plan.then_,vcPlan,planOps,isCallAt,callKind]
      try refine⟨fun (_:Lab) (_:List C) hl=>hl,?_⟩
      refine r_call (av:=[.agg x28.enc,.one (.d (.str ({ data:=#[110,101,119] })))]) hm (fun v hv=>c_complement_renamed _ _ v hv) (by simp[*]) ?_
      clear hm;intro v30 hvv30 hm
      try simp[*,Plan.then_,vcPlan,planOps,isCallAt,callKind]
      try refine⟨fun (_:Lab) (_:List C) hl=>hl,?_⟩
      refine r_call (av:=[.agg x8.enc,.one (.d (.sl ([v29,v30].map Col.enc)))]) hm (fun v hv=>c_complement_keyed _ _ v hv) (by simp[*]) ?_
      clear hm;intro v31 hvv31 hm
      try simp[*,Plan.then_,vcPlan,planOps,isCallAt,callKind]
      try refine⟨fun (_:Lab) (_:List C) hl=>hl,?_⟩
      obtain rfl:=r_ret hm
      exact ret0 (vs:=[_]) (by simp[*];try exact rfl) (by simp[*])
     ·try simp[*]
      refine r_cond hm ?_ ?_<;>clear hm<;>intro hc32 hm
      ·try simp[*]
       refine Wait.of (SWP.draw (Plan.then_ [0,1,2,3,4,5,6,7,8,10,11,12,13,14,15,16,17,19,9,18,20,21,22,23] .done) follows (by kernel_rfl) ?_)
       try simp[*,Plan.then_,vcPlan,planOps,isCallAt,callKind]
       replace hm:=hm.get
       obtain⟨x33,h0x33,hxx33,hm⟩:=hm
       try simp at h0x33
       try simp at hxx33
       try simp[*,Plan.then_,vcPlan,planOps,isCallAt,callKind]
       replace hm:=hm.get
       obtain⟨x34,h0x34,hxx34,hm⟩:=hm
       try simp[*,Plan.then_,vcPlan,planOps,isCallAt,callKind]
       replace hm:=hm.get
       obtain⟨x35,h0x35,hxx35,hm⟩:=hm
       try simp at h0x35
       try simp at hxx35
       try simp[*,Plan.then_,vcPlan,planOps,isCallAt,callKind]
       replace hm:=hm.get
       obtain⟨x36,h0x36,hxx36,hm⟩:=hm
       try simp[*,Plan.then_,vcPlan,planOps,isCallAt,callKind]
       refine r_call (av:=[.agg x34.enc,.one (.d (.str ({ data:=#[111,108,100,48] })))]) hm (fun v hv=>c_complement_renamed _ _ v hv) (by simp[*]) ?_
       clear hm;intro v37 hvv37 hm
       try simp[*,Plan.then_,vcPlan,planOps,isCallAt,callKind]
       try refine⟨fun (_:Lab) (_:List C) hl=>hl,?_⟩
       refine r_call (av:=[.agg x36.enc,.one (.d (.str ({ data:=#[111,108,100,49] })))]) hm (fun v hv=>c_complement_renamed _ _ v hv) (by simp[*]) ?_
       clear hm;intro v38 hvv38 hm
       try simp[*,Plan.then_,vcPlan,planOps,isCallAt,callKind]
       try refine⟨fun (_:Lab) (_:List C) hl=>hl,?_⟩
       refine r_call (av:=[.agg x16.enc,.one (.d (.str ({ data:=#[110,101,119] })))]) hm (fun v hv=>c_complement_renamed _ _ v hv) (by simp[*]) ?_
       clear hm;intro v39 hvv39 hm
       try simp[*,Plan.then_,vcPlan,planOps,isCallAt,callKind]
       try refine⟨fun (_:Lab) (_:List C) hl=>hl,?_⟩
       refine r_call (av:=[.agg x8.enc,.one (.d (.sl ([v37,v38,v39].map Col.enc)))]) hm (fun v hv=>c_complement_keyed _ _ v hv) (by simp[*]) ?_
       clear hm;intro v40 hvv40 hm
       try simp[*,Plan.then_,vcPlan,planOps,isCallAt,callKind]
       try refine⟨fun (_:Lab) (_:List C) hl=>hl,?_⟩
       obtain rfl:=r_ret hm
       exact ret0 (vs:=[_]) (by simp[*];try exact rfl) (by simp[*])
      ·try simp[*]
       refine r_cond hm ?_ ?_<;>clear hm<;>intro hc41 hm
       ·try simp[*]
        refine r_call (av:=[.agg x8.enc,.one (.d (.sl ([(Col.mk ({ data:=#[111,116,104,101,114] }) 2 false)].map Col.enc)))]) hm (fun v hv=>c_complement_keyed _ _ v hv) (by simp[*]) ?_
        clear hm;intro v42 hvv42 hm
        try simp[*]
        obtain rfl:=r_ret hm
        exact ret0 (vs:=[_]) (by simp[*];try exact rfl) (by simp[*])
       ·try simp[*]
        refine r_cond hm ?_ ?_<;>clear hm<;>intro hc43 hm
        ·try simp[*]
         refine Wait.of (SWP.draw (Plan.then_ [0,1,2,3,4,5,6,7,8] .done) follows (by kernel_rfl) ?_)
         try simp[*,Plan.then_,vcPlan,planOps,isCallAt,callKind]
         intro hl44
         replace hl44:x8.cols.length≤2097152:=by simpa using hl44
         replace hm:=hm.chk
         obtain⟨⟨hax45,hbx45,hdx45⟩,hm⟩:=hm
         have hex45:=hbx45;try simp at hex45
         have hfx45:=hdx45;try simp at hfx45
         try simp[*,Plan.then_,vcPlan,planOps,isCallAt,callKind]
         refine r_call (av:=[.one (.d (.sl (((x13.cols.take x13.cols.length).drop x8.cols.length).map Col.enc)))]) hm (fun v hv=>c_complement_numbered _ v hv) (by simp[*]) ?_
         clear hm;intro v46 hvv46 hm
         try simp[*,Plan.then_,vcPlan,planOps,isCallAt,callKind]
         try refine⟨fun (_:Lab) (_:List C) hl=>hl,?_⟩
         refine r_call (av:=[.agg x8.enc,.one (.d (.sl (v46.map Col.enc)))]) hm (fun v hv=>c_complement_keyed _ _ v hv) (by simp[*]) ?_
         clear hm;intro v47 hvv47 hm
         try simp[*,Plan.then_,vcPlan,planOps,isCallAt,callKind]
         try refine⟨fun (_:Lab) (_:List C) hl=>hl,?_⟩
         obtain rfl:=r_ret hm
         exact ret0 (vs:=[_]) (by simp[*];try exact rfl) (by simp[*])
        ·try simp[*]
         intro hl48
         replace hl48:x8.cols.length≤2097152:=by simpa using hl48
         refine Wait.for (xs:=x8.cols) (s0:=[]) (fun i49 s49 e49 h49=>∃ c49_0:C,e49.n=166∧e49.get 5=.one (.ptr (2,80) 0)∧e49.get 6=.one (.ptr (3,96) 0)∧e49.get 9=.one (.ptr (5,144) 0)∧e49.get 16=.one c49_0∧e49.get 146=.one (.d (.sl (x8.cols.map Col.enc)))∧e49.get 147=.one (.d (.int .i64 (x8.cols.length:Int)))∧e49.get 148=.one (.d (.int .i64 (i49:Int)))∧h49.box (2,80)=some [.d (.int .i64 step.kind),.d (.str step.table),.d (.str step.other),.d (.str step.column),.d (.str step.newName),.d (.int .i64 step.type),.d (.sl (step.cols.map encI)),.d (.str step.op),.d (.int .i64 step.value.kind),.d (.int .i64 step.value.int),.d (.str step.value.text),.d (.str step.newTable.name),.d (.sl (step.newTable.cols.map Col.enc)),.d (.sl (step.newTable.pk.map encI)),.d (.str step.cons.table),.d (.int .i64 step.cons.left),.d (.str step.cons.op),.d (.int .i64 step.cons.right),.d (.int .i64 step.cons.value.kind),.d (.int .i64 step.cons.value.int),.d (.str step.cons.value.text),.d (.str step.fk.table),.d (.sl (step.fk.cols.map encI)),.d (.str step.fk.ref)]∧h49.box (3,96)=some [.d (.str ByteArray.empty),.nil,.nil]∧h49.box (5,144)=some [.d (.str x8.name),.d (.sl (x8.cols.map Col.enc)),.d (.sl (x8.pk.map encI))]∧Grows h49 3 c49_0 (s49.map Col.enc)) hm ⟨.nil,by simp (maxDischargeDepth:=20) [*]⟩ ?_ ?_
         ·rintro i49 s49 e49 h49 ⟨c49_0,hn49,h49_5,h49_6,h49_9,h49_16,h49_146,h49_147,h49_148,hb49_b3,hb49_b4,hb49_b9,gc49_0⟩ hlt49 hm
          have hlc49_0:=gc49_0.list
          have hdc49_0:=gc49_0.toD
          have hac49_0:=gc49_0.toA
          have huc49_0:=gc49_0.useUp_arr
          have hw49:IntKind.i64.wrap ((i49:Int)+1)=(i49:Int)+1:=IntWalk.i64_in _ (by omega)
          try simp[*]
          refine r_call (av:=[.one (.d (.sl (step.cols.map encI))),.one (.d (.int .i64 (i49:Int)))]) hm (fun v hv=>c_slices_Contains_Int _ _ v hv) (by simp[*]) ?_
          clear hm;intro v51 hvv51 hm
          try simp[*]
          refine r_cond hm ?_ ?_<;>clear hm<;>intro hc52 hm
          ·try simp[*]
           refine r_app (xs:=s49) (ys:=[x8.cols[i49]]) (enc:=Col.enc) hm ty_el63 (by first | exact Grows.nil | (simp (maxDischargeDepth:=20) [*];done) | (simp (maxDischargeDepth:=20) [*];refine⟨?_,by omega⟩;intro hq;subst hq;simp at hz2<;>omega)) (by simp[*]) (by decide) (by decide) (fun _=>rfl) ?_
           clear hm;intro hl54 hm g53
           try simp[*]
           exact BackF.of (s49++[x8.cols[i49]]) ⟨⟨.own (h49.ep+3,2560) ((s49++[x8.cols[i49]]).map Col.enc),by simp (maxDischargeDepth:=20) [*]⟩,hm⟩
          ·try simp[*]
           exact BackF.of s49 ⟨⟨c49_0,by simp (maxDischargeDepth:=20) [*]⟩,hm⟩
         ·rintro s49 e49 h49 ⟨c49_0,hn49,h49_5,h49_6,h49_9,h49_16,h49_146,h49_147,h49_148,hb49_b3,hb49_b4,hb49_b9,gc49_0⟩ hm
          have hlc49_0:=gc49_0.list
          have hdc49_0:=gc49_0.toD
          have hac49_0:=gc49_0.toA
          have huc49_0:=gc49_0.useUp_arr
          try simp[*]
          refine Wait.of (SWP.draw (Plan.then_ [0,1,2,3,4] .done) follows (by kernel_rfl) ?_)
          try simp[*,Plan.then_,vcPlan,planOps,isCallAt,callKind]
          refine r_call (av:=[.one (.d (.sl (s49.map Col.enc)))]) hm (fun v hv=>c_complement_numbered _ v hv) (by simp[*]) ?_
          clear hm;intro v55 hvv55 hm
          try simp[*,Plan.then_,vcPlan,planOps,isCallAt,callKind]
          try refine⟨fun (_:Lab) (_:List C) hl=>hl,?_⟩
          refine r_call (av:=[.agg x8.enc,.one (.d (.sl (v55.map Col.enc)))]) hm (fun v hv=>c_complement_keyed _ _ v hv) (by simp[*]) ?_
          clear hm;intro v56 hvv56 hm
          try simp[*,Plan.then_,vcPlan,planOps,isCallAt,callKind]
          try refine⟨fun (_:Lab) (_:List C) hl=>hl,?_⟩
          obtain rfl:=r_ret hm
          exact ret0 (vs:=[_]) (by simp[*];try exact rfl) (by simp[*])
instance i_complement_table (s_:Sch) (target:Sch) (step:Stp):Con (m_complement_table s_ target step) Tryz.prog 168 [.agg s_.enc,.agg target.enc,.agg step.enc] (fun r=>.agg (r.enc.map RC.d)):=⟨fun r hm=>c_complement_table s_ target step r hm⟩
set_option maxRecDepth 20000
def m_slices_Clone_Constraint (s_:List Cons):Option (List Cons):=some s_
theorem c_slices_Clone_Constraint (s_:List Cons) (r:List Cons) (hm:Is (m_slices_Clone_Constraint s_) r):PSpec Tryz.prog 92 [.one (.d (.sl (s_.map Cons.enc)))] (.one (.fresh 0 7 (r.map Cons.enc))):=by
 obtain rfl:=r_ret hm
 refine bound1 ⟨_,Tryz.func92,by kernel_rfl,by kernel_rfl⟩ (fun hl=>?_)
 have hxs:∀ x ∈ s_.map Cons.enc,x.length=7:=by
  intro x hx
  obtain⟨y,_,rfl⟩:=List.mem_map.1 hx
  rfl
 generalize s_.map Cons.enc=xs at *
 refine PSpec.of_vc Tryz.func92 rfl (by kernel_rfl) (n:=8) rfl rfl (by simp) ?_
 simp
 refine nilK_list ty_el30 rfl (xs:=xs) rfl (fun b hb=>?_)
 cases b with
 | true=>
   have:xs=[]:=Classical.byContradiction fun h=>by simpa using hb h
   subst this
   simp
   exact ret_growsV (by simpa using GrowsV.nil)
 | false=>
   simp
   refine emptyK_own (by simp) ?_
   simp
   refine appK_of ty_el30 (Grows.own (by simp) (by simp) (by simp)) rfl (by decide) (by decide) hxs (by simpa using hl) ?_
   simp
   exact ret_growsV (by simpa using GrowsV.app (by simp) (by simp) hxs rfl)
instance i_slices_Clone_Constraint (s_:List Cons):Con (m_slices_Clone_Constraint s_) Tryz.prog 92 [.one (.d (.sl (s_.map Cons.enc)))] (fun r=>.one (.fresh 0 7 (r.map Cons.enc))):=⟨fun r hm=>c_slices_Clone_Constraint s_ r hm⟩
set_option maxRecDepth 20000
def m_schema_Clone (s_:Sch):Option Sch:=
 (bindK (m_slices_Clone_Constraint s_.cons) fun v3=>(forK (fun (i6:Nat) (x6:Tbl) (s6:(List Tbl)) next_6=>(bindK (m_schema_CloneTable x6) fun v8=>(appK2 s6 [v8] fun _=>(next_6 (s6++[v8]))))) (fun (s6:(List Tbl))=>(forK (fun (i12:Nat) (x12:Fk) (s12:(List Fk)) next_12=>(bindK (m_slices_Clone_Int x12.cols) fun v14=>(appK2 s12 [(Fk.mk x12.table v14 x12.ref)] fun _=>(next_12 (s12++[(Fk.mk x12.table v14 x12.ref)]))))) (fun (s12:(List Fk))=>(some (Sch.mk s6 s12 v3))) s_.fks 0 [])) s_.tables 0 []))
theorem c_schema_Clone (s_:Sch) (r:Sch) (hm:Is (m_schema_Clone s_) r):PSpec Tryz.prog 67 [.agg s_.enc] (.agg (r.enc.map RC.d)):=by
 unfold m_schema_Clone at hm
 refine PSpec.of_vc Tryz.func67 rfl (by kernel_rfl) (n:=46) rfl rfl (by simp) ?_
 try simp[*]
 refine r_call (av:=[.one (.d (.sl (s_.cons.map Cons.enc)))]) hm (fun v hv=>c_slices_Clone_Constraint _ v hv) (by simp[*]) ?_
 clear hm;intro v3 hvv3 hm
 try simp[*]
 intro hl5
 replace hl5:s_.tables.length≤2097152:=by simpa using hl5
 refine Wait.for (xs:=s_.tables) (s0:=[]) (fun i6 s6 e6 h6=>∃ c6_0 c6_bb4_2:C,(e6.n=46∧e6.get 1=.one (.ptr (0,16) 0)∧e6.get 2=.one (.ptr (1,32) 0)∧e6.get 3=.one (.ptr (3,48) 0)∧e6.get 13=.one (.d (.sl (s_.tables.map Tbl.enc)))∧e6.get 14=.one (.d (.int .i64 (s_.tables.length:Int)))∧e6.get 15=.one (.d (.int .i64 (i6:Int)))∧h6.box (0,16)=some [.d (.sl (s_.tables.map Tbl.enc)),.d (.sl (s_.fks.map Fk.enc)),.d (.sl (s_.cons.map Cons.enc))]∧h6.box (1,32)=some [.nil,.nil,.nil]∧h6.box (3,48)=some [c6_0,.nil,c6_bb4_2]∧Grows h6 3 c6_0 (s6.map Tbl.enc)∧Grows h6 7 c6_bb4_2 (v3.map Cons.enc))∧Apart c6_0 c6_bb4_2) hm ⟨.nil,.own (2,161) (v3.map Cons.enc),by simp (maxDischargeDepth:=20) [*],(by simp)⟩ ?_ ?_
 ·rintro i6 s6 e6 h6 ⟨c6_0,c6_bb4_2,⟨hn6,h6_1,h6_2,h6_3,h6_13,h6_14,h6_15,hb6_b1,hb6_b2,hb6_b4,gc6_0,gc6_bb4_2⟩,apc6_0_c6_bb4_2⟩ hlt6 hm
  have hlc6_0:=gc6_0.list
  have hdc6_0:=gc6_0.toD
  have hac6_0:=gc6_0.toA
  have huc6_0:=gc6_0.useUp_arr
  have hlc6_bb4_2:=gc6_bb4_2.list
  have hdc6_bb4_2:=gc6_bb4_2.toD
  have hac6_bb4_2:=gc6_bb4_2.toA
  have huc6_bb4_2:=gc6_bb4_2.useUp_arr
  have hw6:IntKind.i64.wrap ((i6:Int)+1)=(i6:Int)+1:=IntWalk.i64_in _ (by omega)
  try simp[*]
  refine Wait.of (SWP.draw (Plan.then_ [0,1,2,3,4,5,6,7] .done) follows (by kernel_rfl) ?_)
  try simp[*,Plan.then_,vcPlan,planOps,isCallAt,callKind]
  refine r_call (av:=[.agg (s_.tables[i6]).enc]) hm (fun v hv=>c_schema_CloneTable _ v hv) (by simp[*]) ?_
  clear hm;intro v8 hvv8 hm
  try simp[*,Plan.then_,vcPlan,planOps,isCallAt,callKind]
  try refine⟨fun (_:Lab) (_:List C) hl=>hl,?_⟩
  refine r_app (xs:=s6) (ys:=[v8]) (enc:=Tbl.enc) hm ty_el28 (by first | exact Grows.nil | (simp (maxDischargeDepth:=20) [*];done) | (simp (maxDischargeDepth:=20) [*];refine⟨?_,by omega⟩;intro hq;subst hq;simp at hz2<;>omega)) (by simp[*]) (by decide) (by decide) (fun _=>rfl) ?_
  clear hm;intro hl10 hm g9
  try simp[*,Plan.then_,vcPlan,planOps,isCallAt,callKind]
  exact BackF.of (s6++[v8]) ⟨⟨.own (h6.ep+3,384) ((s6++[v8]).map Tbl.enc),c6_bb4_2,by simp (maxDischargeDepth:=20) [*],(by first | (simp[*];done) | exact gc6_bb4_2.apart (by simp))⟩,hm⟩
 ·rintro s6 e6 h6 ⟨c6_0,c6_bb4_2,⟨hn6,h6_1,h6_2,h6_3,h6_13,h6_14,h6_15,hb6_b1,hb6_b2,hb6_b4,gc6_0,gc6_bb4_2⟩,apc6_0_c6_bb4_2⟩ hm
  have hlc6_0:=gc6_0.list
  have hdc6_0:=gc6_0.toD
  have hac6_0:=gc6_0.toA
  have huc6_0:=gc6_0.useUp_arr
  have hlc6_bb4_2:=gc6_bb4_2.list
  have hdc6_bb4_2:=gc6_bb4_2.toD
  have hac6_bb4_2:=gc6_bb4_2.toA
  have huc6_bb4_2:=gc6_bb4_2.useUp_arr
  try simp[*]
  intro hl11
  replace hl11:s_.fks.length≤2097152:=by simpa using hl11
  refine Wait.for (xs:=s_.fks) (s0:=[]) (fun i12 s12 e12 h12=>∃ c12_bb4_0 c12_0 c12_bb4_2:C,(e12.n=46∧e12.get 2=.one (.ptr (1,32) 0)∧e12.get 3=.one (.ptr (3,48) 0)∧e12.get 28=.one (.d (.sl (s_.fks.map Fk.enc)))∧e12.get 29=.one (.d (.int .i64 (s_.fks.length:Int)))∧e12.get 30=.one (.d (.int .i64 (i12:Int)))∧h12.box (1,32)=some [.nil,.nil,.nil]∧h12.box (3,48)=some [c12_bb4_0,c12_0,c12_bb4_2]∧Grows h12 3 c12_bb4_0 (s6.map Tbl.enc)∧Grows h12 3 c12_0 (s12.map Fk.enc)∧Grows h12 7 c12_bb4_2 (v3.map Cons.enc))∧Apart c12_bb4_0 c12_0∧Apart c12_bb4_0 c12_bb4_2∧Apart c12_0 c12_bb4_2) hm ⟨c6_0,.nil,c6_bb4_2,by simp (maxDischargeDepth:=20) [*],(by simp),(by first | assumption | exact Apart.symm (by assumption)),(by simp)⟩ ?_ ?_
  ·rintro i12 s12 e12 h12 ⟨c12_bb4_0,c12_0,c12_bb4_2,⟨hn12,h12_2,h12_3,h12_28,h12_29,h12_30,hb12_b2,hb12_b4,gc12_bb4_0,gc12_0,gc12_bb4_2⟩,apc12_bb4_0_c12_0,apc12_bb4_0_c12_bb4_2,apc12_0_c12_bb4_2⟩ hlt12 hm
   have hlc12_bb4_0:=gc12_bb4_0.list
   have hdc12_bb4_0:=gc12_bb4_0.toD
   have hac12_bb4_0:=gc12_bb4_0.toA
   have huc12_bb4_0:=gc12_bb4_0.useUp_arr
   have hlc12_0:=gc12_0.list
   have hdc12_0:=gc12_0.toD
   have hac12_0:=gc12_0.toA
   have huc12_0:=gc12_0.useUp_arr
   have hlc12_bb4_2:=gc12_bb4_2.list
   have hdc12_bb4_2:=gc12_bb4_2.toD
   have hac12_bb4_2:=gc12_bb4_2.toA
   have huc12_bb4_2:=gc12_bb4_2.useUp_arr
   have hw12:IntKind.i64.wrap ((i12:Int)+1)=(i12:Int)+1:=IntWalk.i64_in _ (by omega)
   try simp[*]
   refine r_call (av:=[.one (.d (.sl ((s_.fks[i12].cols).map encI)))]) hm (fun v hv=>c_slices_Clone_Int _ v hv) (by simp[*]) ?_
   clear hm;intro v14 hvv14 hm
   try simp[*]
   refine r_app (xs:=s12) (ys:=[(Fk.mk s_.fks[i12].table v14 s_.fks[i12].ref)]) (enc:=Fk.enc) hm ty_el29 (by first | exact Grows.nil | (simp (maxDischargeDepth:=20) [*];done) | (simp (maxDischargeDepth:=20) [*];refine⟨?_,by omega⟩;intro hq;subst hq;simp at hz2<;>omega)) (by simp[*]) (by decide) (by decide) (fun _=>rfl) ?_
   clear hm;intro hl16 hm g15
   try simp[*]
   exact BackF.of (s12++[(Fk.mk s_.fks[i12].table v14 s_.fks[i12].ref)]) ⟨⟨c12_bb4_0,.own (h12.ep+3,672) ((s12++[(Fk.mk s_.fks[i12].table v14 s_.fks[i12].ref)]).map Fk.enc),c12_bb4_2,by simp (maxDischargeDepth:=20) [*],(by first | (simp[*];done) | exact (gc12_bb4_0.apart (by simp)).symm),(by first | assumption | exact Apart.symm (by assumption)),(by first | (simp[*];done) | exact gc12_bb4_2.apart (by simp))⟩,hm⟩
  ·rintro s12 e12 h12 ⟨c12_bb4_0,c12_0,c12_bb4_2,⟨hn12,h12_2,h12_3,h12_28,h12_29,h12_30,hb12_b2,hb12_b4,gc12_bb4_0,gc12_0,gc12_bb4_2⟩,apc12_bb4_0_c12_0,apc12_bb4_0_c12_bb4_2,apc12_0_c12_bb4_2⟩ hm
   have hlc12_bb4_0:=gc12_bb4_0.list
   have hdc12_bb4_0:=gc12_bb4_0.toD
   have hac12_bb4_0:=gc12_bb4_0.toA
   have huc12_bb4_0:=gc12_bb4_0.useUp_arr
   have hlc12_0:=gc12_0.list
   have hdc12_0:=gc12_0.toD
   have hac12_0:=gc12_0.toA
   have huc12_0:=gc12_0.useUp_arr
   have hlc12_bb4_2:=gc12_bb4_2.list
   have hdc12_bb4_2:=gc12_bb4_2.toD
   have hac12_bb4_2:=gc12_bb4_2.toA
   have huc12_bb4_2:=gc12_bb4_2.useUp_arr
   try simp[*]
   obtain rfl:=r_ret hm
   exact ret0 (vs:=[_]) (by simp[*];try exact rfl) (by simp[*])
instance i_schema_Clone (s_:Sch):Con (m_schema_Clone s_) Tryz.prog 67 [.agg s_.enc] (fun r=>.agg (r.enc.map RC.d)):=⟨fun r hm=>c_schema_Clone s_ r hm⟩
set_option maxRecDepth 20000
def m_evolution_removeColumns_1 (column:Int) (k0:List Int):Option Int:=
 (forK (fun (i2:Nat) (x2:Int) (s2:Int) next_2=>(bif decide (x2 < column) then (chkK (okI (s2+1)) (next_2 (s2+1))) else (next_2 s2))) (fun (s2:Int)=>(chkK (okI (column - s2)) (some (column - s2)))) k0 0 0)
instance c_evolution_removeColumns_1 (column:Int) (k0:List Int):Con (m_evolution_removeColumns_1 column k0) Tryz.prog 205 [.one (.d (.int .i64 column)),.one (.rp [.sl (k0.map encI)])] (fun r=>.one (.d (.int .i64 r))):=by
 unfold m_evolution_removeColumns_1
 have l1:LH (σ:=Int) 9 [0,7,8] [.d 4 (fun s=>.int .i64 s)]:=.intro
 exact go 22 Tryz.func205 rfl (by kernel_rfl) rfl rfl (by simp)
instance f_evolution_removeColumns_1 (k0:List Int):ConF (fun x=>m_evolution_removeColumns_1 x k0) Tryz.prog (fun x=>.one (.d (.int .i64 x))) (fun r=>.one (.d (.int .i64 r))) 205 [[.sl (k0.map encI)]]:=⟨fun x=>(c_evolution_removeColumns_1 x k0)⟩
set_option maxRecDepth 20000
def m_evolution_checkDefault (v_:GV) (c:Col):Option Int:=
 (bindK (m_value_Validate v_) fun v3=>(bif (v3 != 0) then (some v3) else (bif (v_.kind == 0) then (bif !c.nullable then (some 8) else (bif (v_.kind != 0) then (bif (v_.kind != c.kind) then (some 7) else (some 0)) else (some 0))) else (bif (v_.kind != 0) then (bif (v_.kind != c.kind) then (some 7) else (some 0)) else (some 0)))))
instance c_evolution_checkDefault (v_:GV) (c:Col):Con (m_evolution_checkDefault v_ c) Tryz.prog 195 [.agg v_.enc,.agg c.enc] (fun r=>.one (.d (.int .i64 r))):=by
 unfold m_evolution_checkDefault
 exact go 29 Tryz.func195 rfl (by kernel_rfl) rfl rfl (by simp)
end Go.Proofs.YthiojhcimecdgaaGreatDoor
end
section
namespace Go.Proofs.YthiojhcimecdgaaGreatDoor
open Go Go.Am
def StpSh:List Sh:=[.d,.d,.d,.d,.d,.d,.r [.d],.d,.d,.d,.d,.d,.r [.d,.d,.d],.r [.d],.d,.d,.d,.d,.d,.d,.d,.d,.r [.d],.d]
def stpC (x:Stp) (x6 x12 x13 x22:C):List C:=[.d (.int .i64 x.kind),.d (.str x.table),.d (.str x.other),.d (.str x.column),.d (.str x.newName),.d (.int .i64 x.type),x6,.d (.str x.op),
 .d (.int .i64 x.value.kind),.d (.int .i64 x.value.int),.d (.str x.value.text),.d (.str x.newTable.name),x12,x13,
 .d (.str x.cons.table),.d (.int .i64 x.cons.left),.d (.str x.cons.op),.d (.int .i64 x.cons.right),.d (.int .i64 x.cons.value.kind),.d (.int .i64 x.cons.value.int),.d (.str x.cons.value.text),
 .d (.str x.fk.table),x22,.d (.str x.fk.ref)]
end Go.Proofs.YthiojhcimecdgaaGreatDoor
namespace Go.Am
open Go Go.Proofs.YthiojhcimecdgaaGreatDoor
theorem Ow.dcons {h:HS} {ss:List Sh} {c:C} {cs:List C} {x:D} {ds:List D} {ls:List Lab} (o:Ow h (.d::ss) cs (x::ds) ls) (hx:x.flat=true):∃ cs',cs=.d x::cs'∧Ow h ss cs' ds ls:=by
 obtain⟨c,y,cs',ds',rfl,e,e2,o'⟩:=o.inv_d
 simp at e
 obtain⟨rfl,rfl⟩:=e
 obtain rfl:=(Frz.data (h:=h) e2).flat hx
 exact⟨cs',rfl,o'⟩
end Go.Am
namespace Go.Proofs.YthiojhcimecdgaaGreatDoor
open Go Go.Am
end Go.Proofs.YthiojhcimecdgaaGreatDoor
namespace Go.Am
open Go Go.Proofs.YthiojhcimecdgaaGreatDoor
theorem Ow.stp {h:HS} {xs:List C} {x:Stp} {ls:List Lab} (o:Ow h StpSh xs x.enc ls):∃ x6 x12 x13 x22 a b c d,xs=stpC x x6 x12 x13 x22∧ls=a++(b++(c++d))∧Ow h [.r [.d]] [x6] [.sl (x.cols.map encI)] a∧Ow h [.r [.d,.d,.d]] [x12] [.sl (x.newTable.cols.map Col.enc)] b∧Ow h [.r [.d]] [x13] [.sl (x.newTable.pk.map encI)] c∧Ow h [.r [.d]] [x22] [.sl (x.fk.cols.map encI)] d:=by
 simp only[StpSh,Stp.enc] at o
 obtain⟨_,rfl,o_0⟩:=o.dcons (c:=.nil) rfl
 obtain⟨_,rfl,o_1⟩:=o_0.dcons (c:=.nil) rfl
 obtain⟨_,rfl,o_2⟩:=o_1.dcons (c:=.nil) rfl
 obtain⟨_,rfl,o_3⟩:=o_2.dcons (c:=.nil) rfl
 obtain⟨_,rfl,o_4⟩:=o_3.dcons (c:=.nil) rfl
 obtain⟨_,rfl,o_5⟩:=o_4.dcons (c:=.nil) rfl
 obtain⟨x6,_,a,_,rfl,rfl,o6,o_6⟩:=o_5.split
 obtain⟨_,rfl,o_7⟩:=o_6.dcons (c:=.nil) rfl
 obtain⟨_,rfl,o_8⟩:=o_7.dcons (c:=.nil) rfl
 obtain⟨_,rfl,o_9⟩:=o_8.dcons (c:=.nil) rfl
 obtain⟨_,rfl,o_10⟩:=o_9.dcons (c:=.nil) rfl
 obtain⟨_,rfl,o_11⟩:=o_10.dcons (c:=.nil) rfl
 obtain⟨x12,_,b,_,rfl,rfl,o12,o_12⟩:=o_11.split
 obtain⟨x13,_,c,_,rfl,rfl,o13,o_13⟩:=o_12.split
 obtain⟨_,rfl,o_14⟩:=o_13.dcons (c:=.nil) rfl
 obtain⟨_,rfl,o_15⟩:=o_14.dcons (c:=.nil) rfl
 obtain⟨_,rfl,o_16⟩:=o_15.dcons (c:=.nil) rfl
 obtain⟨_,rfl,o_17⟩:=o_16.dcons (c:=.nil) rfl
 obtain⟨_,rfl,o_18⟩:=o_17.dcons (c:=.nil) rfl
 obtain⟨_,rfl,o_19⟩:=o_18.dcons (c:=.nil) rfl
 obtain⟨_,rfl,o_20⟩:=o_19.dcons (c:=.nil) rfl
 obtain⟨_,rfl,o_21⟩:=o_20.dcons (c:=.nil) rfl
 obtain⟨x22,_,d,_,rfl,rfl,o22,o_22⟩:=o_21.split
 obtain⟨_,rfl,o_23⟩:=o_22.dcons (c:=.nil) rfl
 obtain⟨rfl,_,rfl⟩:=o_23.inv_nil
 exact⟨x6,x12,x13,x22,a,b,c,d,rfl,by simp,o6,o12,o13,o22⟩
end Go.Am
namespace Go.Proofs.YthiojhcimecdgaaGreatDoor
open Go Go.Am
end Go.Proofs.YthiojhcimecdgaaGreatDoor
namespace Go.Am
open Go Go.Proofs.YthiojhcimecdgaaGreatDoor
theorem Ow.mkStp {h:HS} {x:Stp} {x6 x12 x13 x22:C} {a b c d:List Lab} (o6:Ow h [.r [.d]] [x6] [.sl (x.cols.map encI)] a) (o12:Ow h [.r [.d,.d,.d]] [x12] [.sl (x.newTable.cols.map Col.enc)] b) (o13:Ow h [.r [.d]] [x13] [.sl (x.newTable.pk.map encI)] c) (o22:Ow h [.r [.d]] [x22] [.sl (x.fk.cols.map encI)] d):Ow h StpSh (stpC x x6 x12 x13 x22) x.enc (a++(b++(c++d))):=by
 have e:=o22.join (Ow.data (c:=.d (.str x.fk.ref)) (x:=.str x.fk.ref) rfl .nil)
 have e2:=o13.join (.data (c:=.d (.str x.cons.table)) rfl (.data (c:=.d (.int .i64 x.cons.left)) rfl (.data (c:=.d (.str x.cons.op)) rfl (.data (c:=.d (.int .i64 x.cons.right)) rfl (.data (c:=.d (.int .i64 x.cons.value.kind)) rfl (.data (c:=.d (.int .i64 x.cons.value.int)) rfl (.data (c:=.d (.str x.cons.value.text)) rfl (.data (c:=.d (.str x.fk.table)) rfl e))))))))
 have e3:=o6.join (.data (c:=.d (.str x.op)) rfl (.data (c:=.d (.int .i64 x.value.kind)) rfl (.data (c:=.d (.int .i64 x.value.int)) rfl (.data (c:=.d (.str x.value.text)) rfl (.data (c:=.d (.str x.newTable.name)) rfl (o12.join e2))))))
 have e4:=Ow.data (c:=.d (.int .i64 x.kind)) rfl (.data (c:=.d (.str x.table)) rfl (.data (c:=.d (.str x.other)) rfl (.data (c:=.d (.str x.column)) rfl (.data (c:=.d (.str x.newName)) rfl (.data (c:=.d (.int .i64 x.type)) rfl e3)))))
 simp only[List.append_nil] at e4
 exact e4
end Go.Am
namespace Go.Proofs.YthiojhcimecdgaaGreatDoor
open Go Go.Am
end Go.Proofs.YthiojhcimecdgaaGreatDoor
namespace Go.Am
open Go Go.Proofs.YthiojhcimecdgaaGreatDoor
end Go.Am
namespace Go.Proofs.YthiojhcimecdgaaGreatDoor
open Go Go.Am
end Go.Proofs.YthiojhcimecdgaaGreatDoor
namespace Go.Am
open Go Go.Proofs.YthiojhcimecdgaaGreatDoor
end Go.Am
namespace Go.Proofs.YthiojhcimecdgaaGreatDoor
open Go Go.Am
def m_evolution_addColumn (S:Sch) (i:Nat) (step:Stp):Option (Sch × Int):=
 bindK (m_evolution_checkDefault step.value ⟨step.column,step.type,step.value.kind == 0⟩) fun e=>bif e != 0 then some (S,e) else
 getK S.tables (i:Int) fun T=>chkK (0 < T.cols.length∧T.cols.length < LIM) (some ({ S with tables:=S.tables.set i { T with cols:=T.cols++[⟨step.column,step.type,step.value.kind == 0⟩] } },0))
theorem keep_ta {ta ta' fa oa lx:List Lab} {n:Nat} (h:∀ k ∈ ta',k ∈ ta∨n≤k.1):∀ k ∈ ta'++(fa++oa),k ∈ ta++(fa++oa)∨n≤k.1:=fun k hk=>by
 simp only[List.mem_append] at hk ⊢
 rcases hk with hk | hk | hk
 ·exact (h k hk).imp_left .inl
 ·exact .inl (.inr (.inl hk))
 ·exact .inl (.inr (.inr hk))
theorem h_evolution_addColumn (h:HS) (l:Lab) (tc fc oc x6 x12 x13 x22:C) (ta fa oa:List Lab) (S S':Sch) (i:Nat) (step:Stp) (r:Int) (hm:Is (m_evolution_addColumn S i step) (S',r)) (s:Sc h l S tc fc oc ta fa oa) (K:V→HS→Prop)
  (hk:KeepS h l (ta++(fa++oa)) S' (.one (.d (.int .i64 r))) K) :
  HSpec Tryz.prog 166 [.one (.ptr l 0),.one (.d (.int .i64 (i:Int))),.agg (stpC step x6 x12 x13 x22)] h K:=by
 replace hm:=hm.bind
 obtain⟨ev,hev,hm⟩:=hm
 refine HSpec.of_vc Tryz.func166 rfl (by kernel_rfl) (n:=43) rfl rfl (by simp) ?_
 simp[stpC]
 have hs0:Same h (((h.setBox (h.ep,80) (stpC step x6 x12 x13 x22)).next.setBox (h.ep+1,112) [C.d (D.str ByteArray.empty),C.d (D.int IntKind.i64 0),C.d (D.bool false)]).next.setBox (h.ep+1,112) [C.d (D.str step.column),C.d (D.int IntKind.i64 step.type),C.d (D.bool (step.value.kind == 0))]) []:=(((Same.refl.setBox (.inr (Nat.le_refl _))).next.setBox (.inr (by simp))).next.setBox (.inr (by simp)))
 simp only[stpC] at hs0
 generalize hX:(((h.setBox (h.ep,80) _).next.setBox (h.ep+1,112) _).next.setBox (h.ep+1,112) _)=HX at hs0 ⊢
 have bx7:HX.box (h.ep+1,112)=some [C.d (D.str step.column),C.d (D.int IntKind.i64 step.type),C.d (D.bool (step.value.kind == 0))]:=by rw[← hX];simp
 refine callK_heap (HSpec.of_lend (c_evolution_checkDefault step.value ⟨step.column,step.type,step.value.kind == 0⟩ ev hev) ⟨.agg (FrzCs.datas (ds:=step.value.enc)),.agg (FrzCs.datas (ds:=(⟨step.column,step.type,step.value.kind == 0⟩:Col).enc)),trivial⟩ rfl ?_)
 cases hev0:ev != 0 with
 | true=>
   rw[hev0] at hm
   have e1:=r_ret hm
   simp only[Prod.mk.injEq] at e1
   obtain⟨rfl,rfl⟩:=e1
   have hev1:¬ ev=0:=by simpa using hev0
   simp[hev0,hev1]
   exact hk _ _ (s.frame hs0.next).ows (hs0.next.mono (by simp)) (fun k hk=>.inl hk)
 | false=>
   simp only[hev0,cond_false] at hm
   have hev1:ev=0:=by simpa using hev0
   replace hm:=hm.getN
   obtain⟨T,hi,hm⟩:=hm
   replace hm:=hm.chk
   obtain⟨⟨hc0,hc1⟩,hm⟩:=hm
   have e1:=r_ret hm
   simp only[Prod.mk.injEq] at e1
   obtain⟨rfl,rfl⟩:=e1
   simp[hev0,hev1]
   have s1:=s.frame hs0
   have hb1:=s1.box
   have hlt:i < S.tables.length:=(List.getElem?_eq_some_iff.1 hi).1
   obtain⟨lt,c1,c2,B,tv⟩:=s1.tbl hi
   obtain⟨cap,rfl⟩:=tv.hd
   have bx:=tv.el.box
   have r1:=tv.el.rd 1 1 (by omega)
   have hle:=tv.el.le
   simp at r1
   have hne:=ne_new (s1.lt l (by simp))
   have hnt:=ne_new (s1.lt lt (by simp[tv.tm]))
   refine Wait.cut (Plan.then_ [0,1,2,4,5,6,7,8,9,10,11,12,13] (.two 3 14 (Plan.then_ [14,15,16,17,18] .done) (Plan.then_ [] (.two 3 15 (Plan.then_ [15,16,17,18] .done) (Plan.then_ [3,16,17,18] .done))))) follows (by kernel_rfl) (fun e h'=>e.n=43∧∃ ta',Sc h' l { S with tables:=S.tables.set i { T with cols:=T.cols++[⟨step.column,step.type,step.value.kind == 0⟩] } } (.mrow lt 0 S.tables.length cap) fc oc ta' fa oa∧Same h h' ta∧∀ k ∈ ta',k ∈ ta∨h.ep≤k.1) ?_ ?_
   ·simp[hb1,bx7,hlt,bx,r1,hne,hnt,Plan.then_,vcPlan,planOps,isCallAt,callKind]
    have hs2:Same HX (((HX.next).setArr (HX.ep+1,16 * 39) (some (1,3))).next) []:=(Same.refl.next).setArr.next
    simp only[Nat.reduceMul] at hs2
    obtain⟨c1',c2',tv2⟩:=(s1.frame hs2).tblK (by simpa using bx) hi
    obtain rfl:c1'=c1:=by
     have:=tv2.el.rd 1 1 (by omega)
     simp[r1] at this
     exact this.symm
    have hc2:T.cols.length < 2097152:=hc1
    refine⟨?_,?_,?_⟩
    all_goals
     refine app_mr (by simp;exact⟨rfl,rfl⟩) (by simp) (by simp) (by simp) (tv2.m1 (by intro h0;simp[h0] at hc0)) (RowAt.own1 (by simp)) (by simp<;>omega) (fun c' h' hm' hs3 hl3=>?_)
     have hbl:h'.box lt=some B:=by
      rw[hs3.2 lt ((s1.frame hs2).lt lt (by simp[tv.tm])) fun h2=>(tv2.l1 lt h2).2 rfl]
      simpa using bx
     have hbs:h'.box l=some [.mrow lt 0 S.tables.length cap,fc,oc]:=(s1.frame hs2).keep hs3 fun k hk=>.inl (tv2.l1 k hk).1
     have hep:=hs3.1
     simp at hep
     obtain⟨ta',s4,hta⟩:=tv2.s1 h' c' (T.cols++[⟨step.column,step.type,step.value.kind == 0⟩]) (by simpa using hm') hs3 (fun k hk=>(hl3 k hk).imp_right fun h2=>⟨fun h3=>by have:=(s1.frame hs2).lt k h3;omega,h2.2⟩)
     simp[hlt,hbl,hbs]
     refine⟨by omega,CutK.of ⟨by simp,ta',s4,?_,fun k hk=>?_⟩⟩
     ·exact ((hs0.trans hs2).mono (by simp) |>.trans (hs3.mono fun k hk=>(tv2.l1 k hk).1)).setBox (.inl tv.tm)
     ·rcases hta k hk with h2 | h2
      ·exact .inl h2
      ·rcases hl3 k h2 with h3 | h3
       ·exact .inl (tv2.l1 k h3).1
       ·refine .inr ?_
        have h4:=h3.1
        have h5:=hs0.1
        simp at h4
        omega
   ·rintro e h1 ⟨hn,ta',s4,hs4,hta⟩
    simp[hn]
    exact hk _ _ s4.ows (hs4.mono fun k hk=>by simp[hk]) (keep_ta (lx:=[]) hta)
end Go.Proofs.YthiojhcimecdgaaGreatDoor
end
section
namespace Go.Proofs.YthiojhcimecdgaaGreatDoor
open Go.Am
set_option maxRecDepth 20000
def m_evolution_checkUnused_1 (fk:Fk) (k0:Tbl) (k1:Int):Option Bool:=
 (bif strEq fk.table k0.name then (bindK (m_slices_Contains_Int fk.cols k1) fun v3=>(some v3)) else (some false))
instance c_evolution_checkUnused_1 (fk:Fk) (k0:Tbl) (k1:Int):Con (m_evolution_checkUnused_1 fk k0 k1) Tryz.prog 214 [.agg fk.enc,.one (.rp [.str k0.name,.sl (k0.cols.map Col.enc),.sl (k0.pk.map encI)]),.one (.rp [.int .i64 k1])] (fun r=>.one (.d (.bool r))):=by
 unfold m_evolution_checkUnused_1
 exact go 16 Tryz.func214 rfl (by kernel_rfl) rfl rfl (by simp)
instance f_evolution_checkUnused_1 (k0:Tbl) (k1:Int):ConF (fun x=>m_evolution_checkUnused_1 x k0 k1) Tryz.prog (fun x=>.agg x.enc) (fun r=>.one (.d (.bool r))) 214 [[.str k0.name,.sl (k0.cols.map Col.enc),.sl (k0.pk.map encI)],[.int .i64 k1]]:=⟨fun x=>(c_evolution_checkUnused_1 x k0 k1)⟩
set_option maxRecDepth 20000
def m_slices_IndexFunc_Constraint (s_:List Cons) (f:Cons→Option Bool):Option Int:=
 (forK (fun (i2:Nat) (x2:Cons) (s2:Unit) next_2=>(bindK (f x2) fun v3=>(bif v3 then (some (i2:Int)) else (next_2 ())))) (fun (s2:Unit)=>(some (-1))) s_ 0 ())
instance i_slices_IndexFunc_Constraint (s_:List Cons) (f:Cons→Option Bool) {g:FuncId} {caps:List (List D)} [ConF f Tryz.prog (fun x=>.agg x.enc) (fun v=>.one (.d (.bool v))) g caps]:Con (m_slices_IndexFunc_Constraint s_ f) Tryz.prog 232 [.one (.d (.sl (s_.map Cons.enc))),.one (.fn g caps)] (fun r=>.one (.d (.int .i64 r))):=by
 unfold m_slices_IndexFunc_Constraint
 have l1:LH (σ:=Unit) 8 [0,1,7] []:=.intro
 exact go 19 Tryz.func232 rfl (by kernel_rfl) rfl rfl (by simp)
set_option maxRecDepth 20000
def m_slices_ContainsFunc_Constraint (s_:List Cons) (f:Cons→Option Bool):Option Bool:=
 (bindK (m_slices_IndexFunc_Constraint s_ f) fun v1=>(some (decide (0≤v1))))
instance i_slices_ContainsFunc_Constraint (s_:List Cons) (f:Cons→Option Bool) {g:FuncId} {caps:List (List D)} [ConF f Tryz.prog (fun x=>.agg x.enc) (fun v=>.one (.d (.bool v))) g caps]:Con (m_slices_ContainsFunc_Constraint s_ f) Tryz.prog 215 [.one (.d (.sl (s_.map Cons.enc))),.one (.fn g caps)] (fun r=>.one (.d (.bool r))):=by
 unfold m_slices_ContainsFunc_Constraint
 exact go 9 Tryz.func215 rfl (by kernel_rfl) rfl rfl (by simp)
set_option maxRecDepth 20000
def m_evolution_checkUnused_2 (c:Cons) (k0:Tbl) (k1:Int):Option Bool:=
 (bif strEq c.table k0.name then (bif (c.left == k1) then (some true) else (some (c.right == k1))) else (some false))
instance c_evolution_checkUnused_2 (c:Cons) (k0:Tbl) (k1:Int):Con (m_evolution_checkUnused_2 c k0 k1) Tryz.prog 216 [.agg c.enc,.one (.rp [.str k0.name,.sl (k0.cols.map Col.enc),.sl (k0.pk.map encI)]),.one (.rp [.int .i64 k1])] (fun r=>.one (.d (.bool r))):=by
 unfold m_evolution_checkUnused_2
 exact go 22 Tryz.func216 rfl (by kernel_rfl) rfl rfl (by simp)
instance f_evolution_checkUnused_2 (k0:Tbl) (k1:Int):ConF (fun x=>m_evolution_checkUnused_2 x k0 k1) Tryz.prog (fun x=>.agg x.enc) (fun r=>.one (.d (.bool r))) 216 [[.str k0.name,.sl (k0.cols.map Col.enc),.sl (k0.pk.map encI)],[.int .i64 k1]]:=⟨fun x=>(c_evolution_checkUnused_2 x k0 k1)⟩
set_option maxRecDepth 20000
def m_slices_IndexFunc_Foreignkey (s_:List Fk) (f:Fk→Option Bool):Option Int:=
 (forK (fun (i2:Nat) (x2:Fk) (s2:Unit) next_2=>(bindK (f x2) fun v3=>(bif v3 then (some (i2:Int)) else (next_2 ())))) (fun (s2:Unit)=>(some (-1))) s_ 0 ())
instance i_slices_IndexFunc_Foreignkey (s_:List Fk) (f:Fk→Option Bool) {g:FuncId} {caps:List (List D)} [ConF f Tryz.prog (fun x=>.agg x.enc) (fun v=>.one (.d (.bool v))) g caps]:Con (m_slices_IndexFunc_Foreignkey s_ f) Tryz.prog 128 [.one (.d (.sl (s_.map Fk.enc))),.one (.fn g caps)] (fun r=>.one (.d (.int .i64 r))):=by
 unfold m_slices_IndexFunc_Foreignkey
 have l1:LH (σ:=Unit) 8 [0,1,7] []:=.intro
 exact go 19 Tryz.func128 rfl (by kernel_rfl) rfl rfl (by simp)
set_option maxRecDepth 20000
def m_slices_ContainsFunc_Foreignkey (s_:List Fk) (f:Fk→Option Bool):Option Bool:=
 (bindK (m_slices_IndexFunc_Foreignkey s_ f) fun v1=>(some (decide (0≤v1))))
instance i_slices_ContainsFunc_Foreignkey (s_:List Fk) (f:Fk→Option Bool) {g:FuncId} {caps:List (List D)} [ConF f Tryz.prog (fun x=>.agg x.enc) (fun v=>.one (.d (.bool v))) g caps]:Con (m_slices_ContainsFunc_Foreignkey s_ f) Tryz.prog 87 [.one (.d (.sl (s_.map Fk.enc))),.one (.fn g caps)] (fun r=>.one (.d (.bool r))):=by
 unfold m_slices_ContainsFunc_Foreignkey
 exact go 9 Tryz.func87 rfl (by kernel_rfl) rfl rfl (by simp)
set_option maxRecDepth 20000
def m_evolution_checkUnused (s_:Sch) (t:Tbl) (column:Int):Option Int:=
 (bindK (m_slices_Contains_Int t.pk column) fun v4=>(bif v4 then (some 9) else (bindK (m_slices_ContainsFunc_Foreignkey s_.fks (fun xa_=>m_evolution_checkUnused_1 xa_ t column)) fun v6=>(bif v6 then (some 10) else (bindK (m_slices_ContainsFunc_Constraint s_.cons (fun xa_=>m_evolution_checkUnused_2 xa_ t column)) fun v8=>(bif v8 then (some 11) else (some 0)))))))
instance c_evolution_checkUnused (s_:Sch) (t:Tbl) (column:Int):Con (m_evolution_checkUnused s_ t column) Tryz.prog 194 [.agg s_.enc,.agg t.enc,.one (.d (.int .i64 column))] (fun r=>.one (.d (.int .i64 r))):=by
 unfold m_evolution_checkUnused
 exact go 19 Tryz.func194 rfl (by kernel_rfl) rfl rfl (by simp)
set_option maxRecDepth 20000
def m_slices_Index_Constraint (s_:List Cons) (v_:Cons):Option Int:=
 (forK (fun (i3:Nat) (x3:Cons) (s3:Unit) next_3=>(bif (v_.table == x3.table && (v_.left == x3.left && (v_.op == x3.op && (v_.right == x3.right && (v_.value.kind == x3.value.kind && (v_.value.int == x3.value.int && (v_.value.text == x3.value.text))))))) then (some (i3:Int)) else (next_3 ()))) (fun (s3:Unit)=>(some (-1))) s_ 0 ())
instance c_slices_Index_Constraint (s_:List Cons) (v_:Cons):Con (m_slices_Index_Constraint s_ v_) Tryz.prog 132 [.one (.d (.sl (s_.map Cons.enc))),.agg v_.enc] (fun r=>.one (.d (.int .i64 r))):=by
 unfold m_slices_Index_Constraint
 have l1:LH (σ:=Unit) 8 [0,3,7] []:=.intro
 have p1:PH [4] (Plan.then_ [0,1,2,3,4,5] .done):=.intro
 exact go 19 Tryz.func132 rfl (by kernel_rfl) rfl rfl (by simp)
set_option maxRecDepth 20000
def m_slices_Equal_Int (s1:List Int) (s2:List Int):Option Bool:=
 (bif ((s1.length:Int) != (s2.length:Int)) then (some false) else (forK (fun (i5:Nat) (x5:Int) (s5:Unit) next_5=>(getK s2 (i5:Int) fun x6=>(bif (x5 != x6) then (some false) else (next_5 ())))) (fun (s5:Unit)=>(some true)) s1 0 ()))
instance c_slices_Equal_Int (s1:List Int) (s2:List Int):Con (m_slices_Equal_Int s1 s2) Tryz.prog 129 [.one (.d (.sl (s1.map encI))),.one (.d (.sl (s2.map encI)))] (fun r=>.one (.d (.bool r))):=by
 unfold m_slices_Equal_Int
 have l1:LH (σ:=Unit) 13 [0,1,12] []:=.intro
 have p1:PH [6] (Plan.then_ [0,1,2,3,4,5,6,7,8] .done):=.intro
 exact go 26 Tryz.func129 rfl (by kernel_rfl) rfl rfl (by simp)
set_option maxRecDepth 20000
def m_schema_EqualForeignKeys (a:Fk) (b:Fk):Option Bool:=
 (bif strEq a.table b.table then (bindK (m_slices_Equal_Int a.cols b.cols) fun v4=>(bif v4 then (some (strEq a.ref b.ref)) else (some false))) else (some false))
instance c_schema_EqualForeignKeys (a:Fk) (b:Fk):Con (m_schema_EqualForeignKeys a b) Tryz.prog 89 [.agg a.enc,.agg b.enc] (fun r=>.one (.d (.bool r))):=by
 unfold m_schema_EqualForeignKeys
 exact go 24 Tryz.func89 rfl (by kernel_rfl) rfl rfl (by simp)
instance f_schema_EqualForeignKeys  : ConG (fun x y=>m_schema_EqualForeignKeys x y) Tryz.prog (fun x=>.agg x.enc) (fun x=>.agg x.enc) (fun r=>.one (.d (.bool r))) 89 []:=⟨fun x y=>(c_schema_EqualForeignKeys x y)⟩
set_option maxRecDepth 20000
def m_evolution_dropForeignKey_1 (other:Fk) (k0:Fk):Option Bool:=
 (bindK (m_schema_EqualForeignKeys other k0) fun v2=>(some v2))
instance c_evolution_dropForeignKey_1 (other:Fk) (k0:Fk):Con (m_evolution_dropForeignKey_1 other k0) Tryz.prog 176 [.agg other.enc,.one (.rp [.str k0.table,.sl (k0.cols.map encI),.str k0.ref])] (fun r=>.one (.d (.bool r))):=by
 unfold m_evolution_dropForeignKey_1
 exact go 7 Tryz.func176 rfl (by kernel_rfl) rfl rfl (by simp)
instance f_evolution_dropForeignKey_1 (k0:Fk):ConF (fun x=>m_evolution_dropForeignKey_1 x k0) Tryz.prog (fun x=>.agg x.enc) (fun r=>.one (.d (.bool r))) 176 [[.str k0.table,.sl (k0.cols.map encI),.str k0.ref]]:=⟨fun x=>(c_evolution_dropForeignKey_1 x k0)⟩
set_option maxRecDepth 20000
def m_evolution_removeTable_1 (t:Tbl) (k0:ByteArray):Option Bool:=
 (some (strEq t.name k0))
instance c_evolution_removeTable_1 (t:Tbl) (k0:ByteArray):Con (m_evolution_removeTable_1 t k0) Tryz.prog 209 [.agg t.enc,.one (.rp [.str k0])] (fun r=>.one (.d (.bool r))):=by
 unfold m_evolution_removeTable_1
 exact go 8 Tryz.func209 rfl (by kernel_rfl) rfl rfl (by simp)
instance f_evolution_removeTable_1 (k0:ByteArray):ConF (fun x=>m_evolution_removeTable_1 x k0) Tryz.prog (fun x=>.agg x.enc) (fun r=>.one (.d (.bool r))) 209 [[.str k0]]:=⟨fun x=>(c_evolution_removeTable_1 x k0)⟩
set_option maxRecDepth 20000
def m_evolution_removeTable_2 (fk:Fk) (k0:ByteArray):Option Bool:=
 (some (strEq fk.table k0))
instance c_evolution_removeTable_2 (fk:Fk) (k0:ByteArray):Con (m_evolution_removeTable_2 fk k0) Tryz.prog 211 [.agg fk.enc,.one (.rp [.str k0])] (fun r=>.one (.d (.bool r))):=by
 unfold m_evolution_removeTable_2
 exact go 8 Tryz.func211 rfl (by kernel_rfl) rfl rfl (by simp)
instance f_evolution_removeTable_2 (k0:ByteArray):ConF (fun x=>m_evolution_removeTable_2 x k0) Tryz.prog (fun x=>.agg x.enc) (fun r=>.one (.d (.bool r))) 211 [[.str k0]]:=⟨fun x=>(c_evolution_removeTable_2 x k0)⟩
set_option maxRecDepth 20000
def m_evolution_removeTable_3 (c:Cons) (k0:ByteArray):Option Bool:=
 (some (strEq c.table k0))
instance c_evolution_removeTable_3 (c:Cons) (k0:ByteArray):Con (m_evolution_removeTable_3 c k0) Tryz.prog 213 [.agg c.enc,.one (.rp [.str k0])] (fun r=>.one (.d (.bool r))):=by
 unfold m_evolution_removeTable_3
 exact go 8 Tryz.func213 rfl (by kernel_rfl) rfl rfl (by simp)
instance f_evolution_removeTable_3 (k0:ByteArray):ConF (fun x=>m_evolution_removeTable_3 x k0) Tryz.prog (fun x=>.agg x.enc) (fun r=>.one (.d (.bool r))) 213 [[.str k0]]:=⟨fun x=>(c_evolution_removeTable_3 x k0)⟩
set_option maxRecDepth 20000
def m_evolution_dropTable_1 (fk:Fk) (k0:ByteArray):Option Bool:=
 (bif strEq fk.ref k0 then (some (!(strEq fk.table k0))) else (some false))
instance c_evolution_dropTable_1 (fk:Fk) (k0:ByteArray):Con (m_evolution_dropTable_1 fk k0) Tryz.prog 193 [.agg fk.enc,.one (.rp [.str k0])] (fun r=>.one (.d (.bool r))):=by
 unfold m_evolution_dropTable_1
 exact go 14 Tryz.func193 rfl (by kernel_rfl) rfl rfl (by simp)
instance f_evolution_dropTable_1 (k0:ByteArray):ConF (fun x=>m_evolution_dropTable_1 x k0) Tryz.prog (fun x=>.agg x.enc) (fun r=>.one (.d (.bool r))) 193 [[.str k0]]:=⟨fun x=>(c_evolution_dropTable_1 x k0)⟩
end Go.Proofs.YthiojhcimecdgaaGreatDoor
end
section
namespace Go.Proofs.YthiojhcimecdgaaGreatDoor
open Go Go.Am
theorem keep_filter {p:List D→Bool}:∀ {qs:List Q},keep p (qs.map (·.1)) (qs.map (·.2.1))=(qs.filter fun q=>!p q.2.1).map (·.1)
 | []=>rfl
 | q::qs=>by
   simp only[List.map_cons,keep,List.filter_cons]
   rw[keep_filter]
   cases p q.2.1<;>simp
theorem Part.keep {h h2:HS} {sh:List Sh} {c c':C} {qs:List Q} {ds:List (List D)} {p:List D→Bool} (P:Part h sh c qs ds) (hm:MR h2 sh.length c' (Go.Am.keep p (qs.map (·.1)) ds)) (hnd:(plabs c qs).Nodup) (hlt:∀ k ∈ plabs c qs,k.1 < h.ep) (hs:Same h h2 (labs c)):Part h2 sh c' (qs.filter fun q=>!p q.2.1) (ds.filter fun t=>!p t):=by
 have hd:=P.ds
 subst hd
 rw[keep_filter] at hm
 have:=P.sub (h2:=h2) (c':=c') (qs':=qs.filter fun q=>!p q.2.1) (fun q hq=>(List.mem_filter.1 hq).1) hm hnd (fun k hk ⟨q,hq,hkq⟩=>hs.2 k (hlt k (by
  simp only[plabs,List.mem_append,List.mem_flatMap]
  exact .inr ⟨q,hq,hkq⟩)) hk)
 rw[List.filter_map]
 exact this
theorem Part.setBox {h:HS} {sh:List Sh} {c:C} {qs:List Q} {ds:List (List D)} {l:Lab} {cs:List C} (p:Part h sh c qs ds) (hl:l ∉ plabs c qs):Part (h.setBox l cs) sh c qs ds:=
 p.frame fun k hk=>by
  have:k≠l:=fun he=>hl (he ▸ hk)
  simp[this]
end Go.Proofs.YthiojhcimecdgaaGreatDoor
namespace Go.Am
open Go Go.Proofs.YthiojhcimecdgaaGreatDoor
end Go.Am
namespace Go.Proofs.YthiojhcimecdgaaGreatDoor
open Go Go.Am
theorem KeepS.after {h h1:HS} {l:Lab} {ls:List Lab} {S':Sch} {v:V} {K:V→HS→Prop} (s:Same h h1 []) (hk:KeepS h l ls S' v K):KeepS h1 l ls S' v K:=
 fun h' ls' ho hs hl=>hk h' ls' ho ((s.mono (by simp)).trans hs) fun k hkm=>(hl k hkm).imp_right fun he=>Nat.le_trans s.1 he
theorem OwS.frame {h h':HS} {l:Lab} {S:Sch} {ls:List Lab} (o:OwS h l S ls) (s:Same h h' []):OwS h' l S ls:=by
 obtain⟨tc,fc,oc,qt,qf,qo,rfl,c⟩:=o
 exact⟨tc,fc,oc,qt,qf,qo,rfl,c.frame s⟩
end Go.Proofs.YthiojhcimecdgaaGreatDoor
end
section
namespace Go.Proofs.YthiojhcimecdgaaGreatDoor
open Go.Am
set_option maxRecDepth 20000
def m_evolution_insertTable_1 (a:Tbl) (b:Tbl):Option Int:=
 (bindK (m_strings_Compare a.name b.name) fun v3=>(some v3))
instance c_evolution_insertTable_1 (a:Tbl) (b:Tbl):Con (m_evolution_insertTable_1 a b) Tryz.prog 204 [.agg a.enc,.agg b.enc] (fun r=>.one (.d (.int .i64 r))):=by
 unfold m_evolution_insertTable_1
 exact go 10 Tryz.func204 rfl (by kernel_rfl) rfl rfl (by simp)
instance f_evolution_insertTable_1  : ConG (fun x y=>m_evolution_insertTable_1 x y) Tryz.prog (fun x=>.agg x.enc) (fun x=>.agg x.enc) (fun r=>.one (.d (.int .i64 r))) 204 []:=⟨fun x y=>(c_evolution_insertTable_1 x y)⟩
set_option maxRecDepth 20000
def m_slices_EqualFunc_Foreignkey (s1:List Fk) (s2:List Fk) (eq:Fk→Fk→Option Bool):Option Bool:=
 (bif ((s1.length:Int) != (s2.length:Int)) then (some false) else (forK (fun (i5:Nat) (x5:Fk) (s5:Unit) next_5=>(getK s2 (i5:Int) fun x7=>(bindK (eq x5 x7) fun v9=>(bif !v9 then (some false) else (next_5 ()))))) (fun (s5:Unit)=>(some true)) s1 0 ()))
instance i_slices_EqualFunc_Foreignkey (s1:List Fk) (s2:List Fk) (eq:Fk→Fk→Option Bool) {g:FuncId} {caps:List (List D)} [ConG eq Tryz.prog (fun x=>.agg x.enc) (fun x=>.agg x.enc) (fun v=>.one (.d (.bool v))) g caps]:Con (m_slices_EqualFunc_Foreignkey s1 s2 eq) Tryz.prog 206 [.one (.d (.sl (s1.map Fk.enc))),.one (.d (.sl (s2.map Fk.enc))),.one (.fn g caps)] (fun r=>.one (.d (.bool r))):=by
 unfold m_slices_EqualFunc_Foreignkey
 have l1:LH (σ:=Unit) 17 [1,2,15,16] []:=.intro
 exact go 32 Tryz.func206 rfl (by kernel_rfl) rfl rfl (by simp)
set_option maxRecDepth 20000
def m_slices_Equal_Constraint (s1:List Cons) (s2:List Cons):Option Bool:=
 (bif ((s1.length:Int) != (s2.length:Int)) then (some false) else (forK (fun (i5:Nat) (x5:Cons) (s5:Unit) next_5=>(getK s2 (i5:Int) fun x6=>(bif (!(x5.table == x6.table) || (!(x5.left == x6.left) || (!(x5.op == x6.op) || (!(x5.right == x6.right) || (!(x5.value.kind == x6.value.kind) || (!(x5.value.int == x6.value.int) || (!(x5.value.text == x6.value.text)))))))) then (some false) else (next_5 ())))) (fun (s5:Unit)=>(some true)) s1 0 ()))
instance c_slices_Equal_Constraint (s1:List Cons) (s2:List Cons):Con (m_slices_Equal_Constraint s1 s2) Tryz.prog 207 [.one (.d (.sl (s1.map Cons.enc))),.one (.d (.sl (s2.map Cons.enc)))] (fun r=>.one (.d (.bool r))):=by
 unfold m_slices_Equal_Constraint
 have l1:LH (σ:=Unit) 13 [0,1,12] []:=.intro
 have p1:PH [6] (Plan.then_ [0,1,2,3,4,5,6,7,8] .done):=.intro
 exact go 26 Tryz.func207 rfl (by kernel_rfl) rfl rfl (by simp)
set_option maxRecDepth 20000
def m_evolution_sameRules (s_:Sch) (table:ByteArray) (other:ByteArray):Option Int:=
 (forK (fun (i3:Nat) (x3:Fk) (s3:(List Fk) × (List Fk)) next_3=>(bif strEq x3.ref table then (some 10) else (bif strEq x3.ref other then (some 10) else (bif strEq x3.table table then (appK2 s3.1 [x3] fun _=>(next_3 ((s3.1++[x3]),s3.2))) else (bif strEq x3.table other then (appK2 s3.2 [(Fk.mk table x3.cols x3.ref)] fun _=>(next_3 (s3.1,(s3.2++[(Fk.mk table x3.cols x3.ref)])))) else (next_3 (s3.1,s3.2))))))) (fun (s3:(List Fk) × (List Fk))=>(bindK (m_slices_EqualFunc_Foreignkey s3.1 s3.2 (fun xa_ xb_=>m_schema_EqualForeignKeys xa_ xb_)) fun v13=>(bif !v13 then (some 10) else (forK (fun (i16:Nat) (x16:Cons) (s16:(List Cons) × (List Cons)) next_16=>(bif strEq x16.table table then (appK2 s16.1 [x16] fun _=>(next_16 ((s16.1++[x16]),s16.2))) else (bif strEq x16.table other then (appK2 s16.2 [(Cons.mk table x16.left x16.op x16.right x16.value)] fun _=>(next_16 (s16.1,(s16.2++[(Cons.mk table x16.left x16.op x16.right x16.value)])))) else (next_16 (s16.1,s16.2))))) (fun (s16:(List Cons) × (List Cons))=>(bindK (m_slices_Equal_Constraint s16.1 s16.2) fun v24=>(bif !v24 then (some 11) else (some 0)))) s_.cons 0 ([],[]))))) s_.fks 0 ([],[]))
instance c_evolution_sameRules (s_:Sch) (table:ByteArray) (other:ByteArray):Con (m_evolution_sameRules s_ table other) Tryz.prog 191 [.agg s_.enc,.one (.d (.str table)),.one (.d (.str other))] (fun r=>.one (.d (.int .i64 r))):=by
 unfold m_evolution_sameRules
 have l1:LH (σ:=(List Fk) × (List Fk)) 18 [1,2,3,16,17] [.g 7 3 (fun s=>s.1.map Fk.enc),.g 8 3 (fun s=>s.2.map Fk.enc)]:=.intro
 have l2:LH (σ:=(List Cons) × (List Cons)) 58 [1,2,56,57] [.g 11 7 (fun s=>s.1.map Cons.enc),.g 12 7 (fun s=>s.2.map Cons.enc)]:=.intro
 exact go 85 Tryz.func191 rfl (by kernel_rfl) rfl rfl (by simp)
set_option maxRecDepth 20000
def m_slices_Equal_Column (s1:List Col) (s2:List Col):Option Bool:=
 (bif ((s1.length:Int) != (s2.length:Int)) then (some false) else (forK (fun (i5:Nat) (x5:Col) (s5:Unit) next_5=>(getK s2 (i5:Int) fun x6=>(bif (!(x5.name == x6.name) || (!(x5.kind == x6.kind) || (!(x5.nullable == x6.nullable)))) then (some false) else (next_5 ())))) (fun (s5:Unit)=>(some true)) s1 0 ()))
instance c_slices_Equal_Column (s1:List Col) (s2:List Col):Con (m_slices_Equal_Column s1 s2) Tryz.prog 190 [.one (.d (.sl (s1.map Col.enc))),.one (.d (.sl (s2.map Col.enc)))] (fun r=>.one (.d (.bool r))):=by
 unfold m_slices_Equal_Column
 have l1:LH (σ:=Unit) 13 [0,1,12] []:=.intro
 have p1:PH [6] (Plan.then_ [0,1,2,3,4,5,6,7,8] .done):=.intro
 exact go 26 Tryz.func190 rfl (by kernel_rfl) rfl rfl (by simp)
set_option maxRecDepth 20000
def m_evolution_partitionTable_1 (fk:Fk) (k0:Tbl):Option Bool:=
 (some (strEq fk.ref k0.name))
instance c_evolution_partitionTable_1 (fk:Fk) (k0:Tbl):Con (m_evolution_partitionTable_1 fk k0) Tryz.prog 189 [.agg fk.enc,.one (.rp [.str k0.name,.sl (k0.cols.map Col.enc),.sl (k0.pk.map encI)])] (fun r=>.one (.d (.bool r))):=by
 unfold m_evolution_partitionTable_1
 exact go 9 Tryz.func189 rfl (by kernel_rfl) rfl rfl (by simp)
instance f_evolution_partitionTable_1 (k0:Tbl):ConF (fun x=>m_evolution_partitionTable_1 x k0) Tryz.prog (fun x=>.agg x.enc) (fun r=>.one (.d (.bool r))) 189 [[.str k0.name,.sl (k0.cols.map Col.enc),.sl (k0.pk.map encI)]]:=⟨fun x=>(c_evolution_partitionTable_1 x k0)⟩
set_option maxRecDepth 20000
def m_value_Satisfies (a:GV) (op:ByteArray) (b:GV):Option (Bool × Int):=
 (bif !(strEq op ({ data:=#[61] })) then (bif !(strEq op ({ data:=#[60] })) then (bif !(strEq op ({ data:=#[60,61] })) then (some (false,3)) else (bif (a.kind == 0) then (some (true,0)) else (bif (b.kind == 0) then (some (true,0)) else (bindK (m_value_Compare a b) fun v8=>(bif (v8 == 0) then (some (true,0)) else (bif decide (v8 < 0) then (some (!(strEq op ({ data:=#[61] })),0)) else (some (false,0)))))))) else (bif (a.kind == 0) then (some (true,0)) else (bif (b.kind == 0) then (some (true,0)) else (bindK (m_value_Compare a b) fun v13=>(bif (v13 == 0) then (bif decide (v13 < 0) then (some (!(strEq op ({ data:=#[61] })),0)) else (some (false,0))) else (bif decide (v13 < 0) then (some (!(strEq op ({ data:=#[61] })),0)) else (some (false,0)))))))) else (bif (a.kind == 0) then (some (true,0)) else (bif (b.kind == 0) then (some (true,0)) else (bindK (m_value_Compare a b) fun v19=>(bif (v19 == 0) then (bif !(strEq op ({ data:=#[60] })) then (some (true,0)) else (bif decide (v19 < 0) then (some (!(strEq op ({ data:=#[61] })),0)) else (some (false,0)))) else (bif decide (v19 < 0) then (some (!(strEq op ({ data:=#[61] })),0)) else (some (false,0))))))))
instance c_value_Satisfies (a:GV) (op:ByteArray) (b:GV):Con (m_value_Satisfies a op b) Tryz.prog 130 [.agg a.enc,.one (.d (.str op)),.agg b.enc] (fun r=>.tup [.one (.d (.bool r.1)),.one (.d (.int .i64 r.2))]):=by
 unfold m_value_Satisfies
 exact go 44 Tryz.func130 rfl (by kernel_rfl) rfl rfl (by simp)
end Go.Proofs.YthiojhcimecdgaaGreatDoor
end
section
namespace Go.Proofs.YthiojhcimecdgaaGreatDoor
open Go Go.Am
end Go.Proofs.YthiojhcimecdgaaGreatDoor
namespace Go.Am
open Go Go.Proofs.YthiojhcimecdgaaGreatDoor
theorem MR.at {h:HS} {w:Nat} {c:C} {xs:List (List C)} (m:MR h w c xs) {k:Nat} {x:List C} (hk:xs[k]?=some x):∃ l cap B,c=.mrow l 0 xs.length cap∧h.box l=some B∧takeN w (B.drop (k * w))=some x:=by
 have hlt:=(List.getElem?_eq_some_iff.1 hk).1
 obtain⟨l,cap,sp,rfl,hb,_⟩:=m.block (by omega)
 exact⟨l,cap,_,rfl,hb,row_all m.1 hk⟩
end Go.Am
namespace Go.Proofs.YthiojhcimecdgaaGreatDoor
open Go Go.Am
end Go.Proofs.YthiojhcimecdgaaGreatDoor
namespace Go.Am
open Go Go.Proofs.YthiojhcimecdgaaGreatDoor
end Go.Am
namespace Go.Proofs.YthiojhcimecdgaaGreatDoor
open Go Go.Am
def Old (h:HS) (c0:C) (xs:List (List C)) (n w:Nat):Prop:=∀ k,k < n→∃ l0 cap0 B0 x,c0=.mrow l0 0 n cap0∧l0.1 < h.ep∧h.box l0=some B0∧xs[k]?=some x∧takeN w (B0.drop (k * w))=some x
theorem Old.init {h:HS} {c:C} {xs:List (List C)} {w:Nat} (m:MR h w c xs) (hl:∀ k ∈ labs c,k.1 < h.ep):Old h c xs xs.length w:=fun k hk=>by
 obtain⟨l,cap,B,rfl,hb,ht⟩:=m.at (List.getElem?_eq_getElem hk)
 exact⟨l,cap,B,xs[k],rfl,hl l (by simp[labs]),hb,List.getElem?_eq_getElem hk,ht⟩
theorem Old.frame {h h':HS} {c0:C} {xs:List (List C)} {n w:Nat} (o:Old h c0 xs n w) (hs:Same h h' []):Old h' c0 xs n w:=fun k hk=>by
 obtain⟨l0,cap0,B0,x,h1,h2,h3,h4,h5⟩:=o k hk
 exact⟨l0,cap0,B0,x,h1,Nat.lt_of_lt_of_le h2 hs.1,by rw[hs.2 l0 h2 (by simp)];exact h3,h4,h5⟩
theorem Old.set {h:HS} {c0:C} {xs:List (List C)} {n w:Nat} {l:Lab} {cs:List C} (o:Old h c0 xs n w) (hl:∀ k ∈ labs c0,k≠l):Old (h.setBox l cs) c0 xs n w:=fun k hk=>by
 obtain⟨l0,cap0,B0,x,rfl,h2,h3,h4,h5⟩:=o k hk
 have:=hl l0 (by simp[labs])
 exact⟨l0,cap0,B0,x,rfl,by simpa using h2,by simpa[this] using h3,h4,h5⟩
theorem Old.step {h h':HS} {c0 c c':C} {xs:List (List C)} {x:List C} {n w:Nat} (o:Old h c0 xs n w) (m:MR h w c xs) (m':MR h' w c' (xs++[x])) (hs:(Same h h' (labs c)∧labs c'=labs c)∨(Same h h' []∧∀ k ∈ labs c',h.ep≤k.1∧k.1 < h'.ep)):Old h' c0 (xs++[x]) n w:=fun k hk=>by
 obtain⟨l0,cap0,B0,y,h1,h2,h3,h4,h5⟩:=o k hk
 have hlt:=(List.getElem?_eq_some_iff.1 h4).1
 have hy:(xs++[x])[k]?=some y:=by rw[List.getElem?_append_left hlt];exact h4
 rcases hs with ⟨hs,hl⟩ | ⟨hs,_⟩
 ·by_cases hm:l0 ∈ labs c
  ·obtain⟨l',cap',B',rfl,hb',ht'⟩:=m'.at hy
   rw[← hl] at hm
   simp[labs] at hm
   subst hm
   exact⟨l0,cap0,B',y,h1,Nat.lt_of_lt_of_le h2 hs.1,hb',hy,ht'⟩
  ·exact⟨l0,cap0,B0,y,h1,Nat.lt_of_lt_of_le h2 hs.1,by rw[hs.2 l0 h2 hm];exact h3,hy,h5⟩
 ·exact⟨l0,cap0,B0,y,h1,Nat.lt_of_lt_of_le h2 hs.1,by rw[hs.2 l0 h2 (by simp)];exact h3,hy,h5⟩
end Go.Proofs.YthiojhcimecdgaaGreatDoor
end
section
namespace Go.Proofs.YthiojhcimecdgaaGreatDoor
open Go.Am
set_option maxRecDepth 20000
def m_evolution_sequence (n:Int):Option ((List Int)):=
 (countK (fun (i1:Nat) (s1:(List Int)) next_1=>(appK2 s1 [(i1:Int)] fun _=>(chkK (okI ((i1:Int)+1)) (next_1 (s1++[(i1:Int)]))))) (fun (s1:(List Int))=>(some s1)) (Int.toNat n) 0 [])
instance c_evolution_sequence (n:Int):Con (m_evolution_sequence n) Tryz.prog 184 [.one (.d (.int .i64 n))] (fun r=>.one (.d (.sl (r.map encI)))):=by
 unfold m_evolution_sequence
 have l1:LH (σ:=(List Int)) 6 [5] [.g 3 1 (fun s=>s.map encI)]:=.intro
 exact go 15 Tryz.func184 rfl (by kernel_rfl) rfl rfl (by simp)
set_option maxRecDepth 20000
def m_evolution_splitTable_1 (column:Int) (k0:Int) (k1:Stp):Option Int:=
 (bindK (m_slices_Index_Int k1.cols column) fun v1=>(chkK (okI (k0+v1)) (some (k0+v1))))
instance c_evolution_splitTable_1 (column:Int) (k0:Int) (k1:Stp):Con (m_evolution_splitTable_1 column k0 k1) Tryz.prog 181 [.one (.d (.int .i64 column)),.one (.rp [.int .i64 k0]),.one (.rp [.int .i64 k1.kind,.str k1.table,.str k1.other,.str k1.column,.str k1.newName,.int .i64 k1.type,.sl (k1.cols.map encI),.str k1.op,.int .i64 k1.value.kind,.int .i64 k1.value.int,.str k1.value.text,.str k1.newTable.name,.sl (k1.newTable.cols.map Col.enc),.sl (k1.newTable.pk.map encI),.str k1.cons.table,.int .i64 k1.cons.left,.str k1.cons.op,.int .i64 k1.cons.right,.int .i64 k1.cons.value.kind,.int .i64 k1.cons.value.int,.str k1.cons.value.text,.str k1.fk.table,.sl (k1.fk.cols.map encI),.str k1.fk.ref])] (fun r=>.one (.d (.int .i64 r))):=by
 unfold m_evolution_splitTable_1
 have p1:PH [1] (Plan.then_ [0,1,2,3,4,5,6] .done):=.intro
 exact go 11 Tryz.func181 rfl (by kernel_rfl) rfl rfl (by simp)
instance f_evolution_splitTable_1 (k0:Int) (k1:Stp):ConF (fun x=>m_evolution_splitTable_1 x k0 k1) Tryz.prog (fun x=>.one (.d (.int .i64 x))) (fun r=>.one (.d (.int .i64 r))) 181 [[.int .i64 k0],[.int .i64 k1.kind,.str k1.table,.str k1.other,.str k1.column,.str k1.newName,.int .i64 k1.type,.sl (k1.cols.map encI),.str k1.op,.int .i64 k1.value.kind,.int .i64 k1.value.int,.str k1.value.text,.str k1.newTable.name,.sl (k1.newTable.cols.map Col.enc),.sl (k1.newTable.pk.map encI),.str k1.cons.table,.int .i64 k1.cons.left,.str k1.cons.op,.int .i64 k1.cons.right,.int .i64 k1.cons.value.kind,.int .i64 k1.cons.value.int,.str k1.cons.value.text,.str k1.fk.table,.sl (k1.fk.cols.map encI),.str k1.fk.ref]]:=⟨fun x=>(c_evolution_splitTable_1 x k0 k1)⟩
set_option maxRecDepth 20000
def m_evolution_overlap (columns:List Int) (set:List Int):Option Int:=
 (forK (fun (i2:Nat) (x2:Int) (s2:Int) next_2=>(bindK (m_slices_Contains_Int set x2) fun v3=>(bif v3 then (chkK (okI (s2+1)) (next_2 (s2+1))) else (next_2 s2)))) (fun (s2:Int)=>(bif (s2 == 0) then (some 0) else (bif (s2 == (columns.length:Int)) then (some 2) else (some 1)))) columns 0 0)
instance c_evolution_overlap (columns:List Int) (set:List Int):Con (m_evolution_overlap columns set) Tryz.prog 182 [.one (.d (.sl (columns.map encI))),.one (.d (.sl (set.map encI)))] (fun r=>.one (.d (.int .i64 r))):=by
 unfold m_evolution_overlap
 have l1:LH (σ:=Int) 10 [0,1,8,9] [.d 5 (fun s=>.int .i64 s)]:=.intro
 exact go 27 Tryz.func182 rfl (by kernel_rfl) rfl rfl (by simp)
set_option maxRecDepth 20000
def m_evolution_checkSplit (s_:Sch) (t:Tbl) (step:Stp):Option Int:=
 (forK (fun (i5:Nat) (x5:Int) (s5:Unit) next_5=>(bif decide (x5 < 0) then (some 3) else (bif decide ((t.cols.length:Int)≤x5) then (some 3) else (bif decide (0 < i5) then (chkK (okI ((i5:Int) - 1)) (getK step.cols ((i5:Int) - 1) fun x11=>(bif decide (x5≤x11) then (some 3) else (next_5 ())))) else (next_5 ()))))) (fun (s5:Unit)=>(bif ((step.cols.length:Int) == 0) then (some 3) else (bindK (m_evolution_overlap step.cols t.pk) fun v15=>(bif (v15 != 0) then (some 9) else (bindK (m_schema_FindTable s_ step.other) fun v17=>(bif v17.2 then (some 5) else (some 0))))))) step.cols 0 ())
instance c_evolution_checkSplit (s_:Sch) (t:Tbl) (step:Stp):Con (m_evolution_checkSplit s_ t step) Tryz.prog 180 [.agg s_.enc,.agg t.enc,.agg step.enc] (fun r=>.one (.d (.int .i64 r))):=by
 unfold m_evolution_checkSplit
 have l1:LH (σ:=Unit) 14 [3,4,5,12,13] []:=.intro
 exact go 61 Tryz.func180 rfl (by kernel_rfl) rfl rfl (by simp)
set_option maxRecDepth 20000
def m_evolution_constraintColumns (c:Cons):Option ((List Int)):=
 (bif decide (c.right < 0) then (some [c.left]) else (some [c.left,c.right]))
instance c_evolution_constraintColumns (c:Cons):Con (m_evolution_constraintColumns c) Tryz.prog 183 [.agg c.enc] (fun r=>.one (.d (.sl (r.map encI)))):=by
 unfold m_evolution_constraintColumns
 exact go 14 Tryz.func183 rfl (by kernel_rfl) rfl rfl (by simp)
set_option maxRecDepth 20000
def m_evolution_joinTables_1 (fk:Fk) (k0:ByteArray):Option Bool:=
 (some (strEq fk.ref k0))
instance c_evolution_joinTables_1 (fk:Fk) (k0:ByteArray):Con (m_evolution_joinTables_1 fk k0) Tryz.prog 186 [.agg fk.enc,.one (.rp [.str k0])] (fun r=>.one (.d (.bool r))):=by
 unfold m_evolution_joinTables_1
 exact go 8 Tryz.func186 rfl (by kernel_rfl) rfl rfl (by simp)
instance f_evolution_joinTables_1 (k0:ByteArray):ConF (fun x=>m_evolution_joinTables_1 x k0) Tryz.prog (fun x=>.agg x.enc) (fun r=>.one (.d (.bool r))) 186 [[.str k0]]:=⟨fun x=>(c_evolution_joinTables_1 x k0)⟩
set_option maxRecDepth 20000
def m_evolution_joinTables_2 (column:Int) (k0:Int) (k1:Tbl) (k2:Int):Option Int:=
 (bif decide (column < k0) then (getK k1.pk column fun x2=>(some x2)) else (chkK (okI (k2+column)) (chkK (okI ((k2+column) - k0)) (some ((k2+column) - k0)))))
instance c_evolution_joinTables_2 (column:Int) (k0:Int) (k1:Tbl) (k2:Int):Con (m_evolution_joinTables_2 column k0 k1 k2) Tryz.prog 188 [.one (.d (.int .i64 column)),.one (.rp [.int .i64 k0]),.one (.rp [.str k1.name,.sl (k1.cols.map Col.enc),.sl (k1.pk.map encI)]),.one (.rp [.int .i64 k2])] (fun r=>.one (.d (.int .i64 r))):=by
 unfold m_evolution_joinTables_2
 exact go 19 Tryz.func188 rfl (by kernel_rfl) rfl rfl (by simp)
instance f_evolution_joinTables_2 (k0:Int) (k1:Tbl) (k2:Int):ConF (fun x=>m_evolution_joinTables_2 x k0 k1 k2) Tryz.prog (fun x=>.one (.d (.int .i64 x))) (fun r=>.one (.d (.int .i64 r))) 188 [[.int .i64 k0],[.str k1.name,.sl (k1.cols.map Col.enc),.sl (k1.pk.map encI)],[.int .i64 k2]]:=⟨fun x=>(c_evolution_joinTables_2 x k0 k1 k2)⟩
end Go.Proofs.YthiojhcimecdgaaGreatDoor
end
section
namespace Go.Proofs.YthiojhcimecdgaaGreatDoor
open Go Go.Am
end Go.Proofs.YthiojhcimecdgaaGreatDoor
namespace Go.Am
open Go Go.Proofs.YthiojhcimecdgaaGreatDoor
theorem MR.tail {h:HS} {w:Nat} {l:Lab} {n cap:Nat} {xs:List (List C)} (m:MR h w (.mrow l 0 n cap) xs) (k:Nat) (hk:k≤n):RowAt h w (.mrow l (k * w) (n - k) (cap - k)) (xs.drop k):=by
 have hn:=m.len
 simp[cLen] at hn
 subst hn
 have hb:∃ sp,h.box l=some (rowBox xs sp):=by
  rcases m.2.2 with ⟨_,h2 | h2⟩ | ⟨l',cap',sp,h1,h2,_⟩
  ·cases h2
  ·cases h2
  ·simp at h1
   obtain⟨rfl,rfl⟩:=h1
   exact⟨sp,h2⟩
 obtain⟨sp,hb⟩:=hb
 have hr:=row_cells (off:=k) (k:=xs.length - k) (cap:=cap - k) m.1 hb (by omega)
 refine⟨?_,by simp[cLen],m.1.drop,by have:=m.2.1;simp at this ⊢;omega⟩
 rw[hr,List.take_of_length_le (by simp)]
end Go.Am
namespace Go.Proofs.YthiojhcimecdgaaGreatDoor
open Go Go.Am
end Go.Proofs.YthiojhcimecdgaaGreatDoor
end
section
namespace Go.Am
open Go
open Go.RowKit (Below)
section
variable {P:Program}
end
end Go.Am
end
section
namespace Go.Proofs.YthiojhcimecdgaaGreatDoor
open Go Go.Am
def schOK (S:Sch):Prop:=(S.tables.length≤LIM∧S.fks.length≤LIM∧S.cons.length≤LIM)∧(∀ T ∈ S.tables,T.cols.length≤LIM∧T.pk.length≤LIM)∧∀ f ∈ S.fks,f.cols.length≤LIM
instance (S:Sch):Decidable (schOK S):=inferInstanceAs (Decidable (_∧_∧_))
def stpOK (x:Stp):Prop:=x.cols.length≤LIM∧x.newTable.cols.length≤LIM∧x.newTable.pk.length≤LIM∧x.fk.cols.length≤LIM
instance (x:Stp):Decidable (stpOK x):=inferInstanceAs (Decidable (_∧_))
def NewSch (h:HS) (S:Sch) (K:V→HS→Prop):Prop:=∀ tc fc oc qt qf qo h',Part h' TblSh tc qt (S.tables.map Tbl.enc)→Part h' FkSh fc qf (S.fks.map Fk.enc)→Part h' ConSh oc qo (S.cons.map Cons.enc)→(plabs tc qt++(plabs fc qf++plabs oc qo)).Nodup →
 (∀ k ∈ plabs tc qt++(plabs fc qf++plabs oc qo),h.ep≤k.1∧k.1 < h'.ep)→Same h h' []→K (.agg [tc,fc,oc]) h'
theorem h_evolution_Clone (h:HS) (x:Stp) (hl:stpOK x) (K:V→HS→Prop) (hk:NewOw h StpSh x.enc K) :
  HSpec Tryz.prog 137 [.agg (x.enc.map C.d)] h K:=by
 refine HSpec.good Tryz.func137 rfl (by kernel_rfl) fun hg=>?_
 refine HSpec.of_vc Tryz.func137 rfl (by kernel_rfl) (n:=18) rfl rfl (by simp) ?_
 obtain⟨l1,l2,l3,l4⟩:=hl
 simp
 refine callK_heap (h_slices_Clone_Int _ _ _ (RowAt.data (n:=1) (ts:=x.cols.map encI) (by simp) (by simpa using l1)) _ (fun c6 g1 m6 hs1 hl1 hb1=>?_))
 have hz0:Same h (((h.setBox (h.ep,16) (x.enc.map C.d)).next.setBox (h.ep+1,32) [C.d (D.int IntKind.i64 0),C.d (D.str ByteArray.empty),C.d (D.str ByteArray.empty),C.d (D.str ByteArray.empty),C.d (D.str ByteArray.empty),C.d (D.int IntKind.i64 0),C.nil,C.d (D.str ByteArray.empty),C.d (D.int IntKind.i64 0),C.d (D.int IntKind.i64 0),C.d (D.str ByteArray.empty),C.d (D.str ByteArray.empty),C.nil,C.nil,C.d (D.str ByteArray.empty),C.d (D.int IntKind.i64 0),C.d (D.str ByteArray.empty),C.d (D.int IntKind.i64 0),C.d (D.int IntKind.i64 0),C.d (D.int IntKind.i64 0),C.d (D.str ByteArray.empty),C.d (D.str ByteArray.empty),C.nil,C.d (D.str ByteArray.empty)]).next) []:=(((Same.refl.setBox (.inr (Nat.le_refl _))).next.setBox (.inr (by simp))).next)
 have hs1':=hs1.1
 have b1:=hb1 (h.ep,16) _ (by simp;rfl)
 have b2:=hb1 (h.ep+1,32) _ (by simp;rfl)
 simp only[Stp.enc,List.map_cons,List.map_nil] at hz0
 have hy1:=hz0.trans hs1
 simp at hl1 hs1'
 simp[b1]
 refine callK_heap (h_schema_CloneTable _ (x.newTable.enc.map C.d) x.newTable (fun h' _=>FrzCs.datas (ds:=x.newTable.enc)) ⟨l2,l3⟩ _ (fun cs g2 ls2 o2 nd2 nw2 hs2 hb2'=>?_))
 obtain⟨c12,c13,rfl⟩:∃ c12 c13,cs=[C.d (D.str x.newTable.name),c12,c13]:=by
  have h9:=o2.len.1
  match cs,h9,o2 with
  | [a,b,c],_,hO=>obtain rfl:=hO.frz.1.flat rfl;exact⟨b,c,rfl⟩
 have hs2':=hs2.1
 have b12:=hb2' (h.ep,16) _ (by simp;rfl)
 have b22:=hb2' (h.ep+1,32) _ (by simpa using b2)
 have hy2:Same h g2 []:=(hy1.setBox (l:=(h.ep,16)) (.inr (by simp))).trans hs2
 simp at hs2'
 simp[b12]
 refine callK_heap (h_slices_Clone_Int _ _ _ (RowAt.data (n:=1) (ts:=x.fk.cols.map encI) (by simp) (by simpa using l4)) _ (fun c22 g3 m22 hs3 hl3 hb3=>?_))
 have hs3':=hs3.1
 have b13:=hb3 (h.ep,16) _ (by simp;rfl)
 have b23:=hb3 (h.ep+1,32) _ (by simpa using b22)
 have hy3:Same h g3 []:=(hy2.setBox (l:=(h.ep,16)) (.inr (by simp))).trans hs3
 simp at hl3 hs3'
 simp[b13,b23,retH,resVs,resV]
 have hyF:=(hy3.setBox (l:=(h.ep,16)) (cs:=stpC x c6 c12 c13 c22) (.inr (by simp))).setBox (l:=(h.ep+1,32)) (cs:=stpC x c6 c12 c13 c22) (.inr (by simp))
 have k3:∀ k:Lab,h.ep+2≤k.1→((g3.setBox (h.ep,16) (stpC x c6 c12 c13 c22)).setBox (h.ep+1,32) (stpC x c6 c12 c13 c22)).box k=g3.box k:=fun k hk=>by
  have h1:k≠(h.ep,16):=fun he=>by have h9:k.1=h.ep:=by rw[he]
                                  omega
  have h2:k≠(h.ep+1,32):=fun he=>by have h9:k.1=h.ep+1:=by rw[he]
                                    omega
  simp[h1,h2]
 have k2:∀ k:Lab,h.ep+2≤k.1→k.1 < g2.ep→g3.box k=g2.box k:=fun k hk hk2=>by
  have h1:k≠(h.ep,16):=fun he=>by have h9:k.1=h.ep:=by rw[he]
                                  omega
  rw[hs3.2 k (by simpa using hk2) (by simp)]
  simp[h1]
 have k1:∀ k:Lab,h.ep+2≤k.1→k.1 < g1.ep→g2.box k=g1.box k:=fun k hk hk2=>by
  have h1:k≠(h.ep,16):=fun he=>by have h9:k.1=h.ep:=by rw[he]
                                  omega
  rw[hs2.2 k (by simpa using hk2) (by simp)]
  simp[h1]
 have e6:∀ k ∈ labs c6,h.ep+2≤k.1∧k.1 < g1.ep:=fun k hk=>by have:=hl1 k.1 k.2 hk;omega
 have e2:∀ k ∈ ls2,g1.ep≤k.1∧k.1 < g2.ep:=fun k hk=>by have:=nw2 k hk;simp at this;omega
 have e22:∀ k ∈ labs c22,g2.ep≤k.1∧k.1 < g3.ep:=fun k hk=>by have:=hl3 k.1 k.2 hk;omega
 obtain⟨_,e0,oa⟩:=o2.dcons (c:=.nil) rfl
 simp at e0
 subst e0
 obtain⟨d1,_,la,_,e1,rfl,o12,ob⟩:=oa.split
 simp at e1
 obtain⟨rfl,rfl⟩:=e1
 obtain⟨d2,_,lb,_,e1,rfl,o13,od⟩:=ob.split
 simp at e1
 obtain⟨rfl,rfl⟩:=e1
 obtain⟨_,_,rfl⟩:=od.inv_nil
 simp only[List.append_nil] at e2 nd2
 have o6:Ow ((g3.setBox (h.ep,16) (stpC x c6 c12 c13 c22)).setBox (h.ep+1,32) (stpC x c6 c12 c13 c22)) [.r [.d]] [c6] [.sl (x.cols.map encI)] (labs c6):=Ow.nrow (n:=1) (m6.frame fun k hk=>by have:=e6 k hk;rw[k3 k (by omega),k2 k (by omega) (by omega),k1 k (by omega) (by omega)]) rfl (by simp)
 have o22:Ow ((g3.setBox (h.ep,16) (stpC x c6 c12 c13 c22)).setBox (h.ep+1,32) (stpC x c6 c12 c13 c22)) [.r [.d]] [c22] [.sl (x.fk.cols.map encI)] (labs c22):=Ow.nrow (n:=1) (m22.frame fun k hk=>by have:=e22 k hk;rw[k3 k (by omega)]) rfl (by simp)
 have o12':=o12.frame (h':=((g3.setBox (h.ep,16) (stpC x c6 c12 c13 c22)).setBox (h.ep+1,32) (stpC x c6 c12 c13 c22))) fun k hk=>by have:=e2 k (by simp[hk]);rw[k3 k (by omega),k2 k (by omega) (by omega)]
 have o13':=o13.frame (h':=((g3.setBox (h.ep,16) (stpC x c6 c12 c13 c22)).setBox (h.ep+1,32) (stpC x c6 c12 c13 c22))) fun k hk=>by have:=e2 k (by simp[hk]);rw[k3 k (by omega),k2 k (by omega) (by omega)]
 refine hk (stpC x c6 c12 c13 c22) _ _ (Ow.mkStp o6 o12' o13' o22) ?_ (fun k hk=>?_) hyF (hyF.boxLe hg)
 ·simp only[List.nodup_append,List.mem_append] at nd2 ⊢
  refine⟨labs_nodup,⟨nd2.1,⟨nd2.2.1,labs_nodup,fun a ha b hb he=>?_⟩,fun a ha b hb he=>?_⟩,fun a ha b hb he=>?_⟩
  ·have t1:=e2 a (by simp[ha]);have t2:=e22 b hb;rw[← he] at t2;omega
  ·subst he
   rcases hb with hb | hb
   ·exact nd2.2.2 a ha a hb rfl
   ·have:=e2 a (by simp[ha]);have:=e22 a hb;omega
  ·subst he
   have h6:=e6 a ha
   rcases hb with hb | hb | hb
   ·have:=e2 a (by simp[hb]);omega
   ·have:=e2 a (by simp[hb]);omega
   ·have:=e22 a hb;omega
 ·simp only[List.mem_append] at hk
  have:k.1 < g3.ep∧h.ep≤k.1:=by
   rcases hk with hk | hk | hk | hk
   ·have:=e6 k hk;omega
   ·have:=e2 k (by simp[hk]);omega
   ·have:=e2 k (by simp[hk]);omega
   ·have:=e22 k hk;omega
  simp
  omega
theorem Sc.start {g:HS} {p:Lab} {oc:C} {cons:List Cons} (hb:g.box p=some [.nil,.nil,oc]) (mo:MR g 7 oc (cons.map fun c=>c.enc.map C.d)) (hp:p.1 < g.ep) (hl:∀ k ∈ labs oc,k≠p∧k.1 < g.ep):Sc g p ⟨[],[],cons⟩ .nil .nil oc [] [] (labs oc):=by
 have e:(cons.map fun c=>((c.enc.map C.d,c.enc,[]):Q)).flatMap (·.2.2)=[]:=by rw[List.flatMap_eq_nil_iff];intro q hq;obtain⟨c,_,rfl⟩:=List.mem_map.1 hq;rfl
 have pl:plabs oc (cons.map fun c=>((c.enc.map C.d,c.enc,[]):Q))=labs oc:=by rw[plabs,e,List.append_nil]
 refine⟨[],[],cons.map fun c=>(c.enc.map C.d,c.enc,[]),rfl,rfl,pl.symm,hb,⟨MR.nil,rfl,by simp⟩,⟨MR.nil,rfl,by simp⟩,⟨by simpa[ConSh,Function.comp_def] using mo,by simp[Function.comp_def],fun q hq=>?_⟩,?_,?_⟩
 ·obtain⟨c,_,rfl⟩:=List.mem_map.1 hq
  exact Ow.datas (ds:=c.enc)
 ·rw[pl]
  simp only[plabs,labs,List.flatMap_nil,List.nil_append,List.append_nil,List.nodup_cons]
  exact⟨fun h=>(hl p h).1 rfl,labs_nodup⟩
 ·rw[pl]
  intro k hk
  simp only[plabs,labs,List.flatMap_nil,List.nil_append,List.append_nil,List.mem_cons] at hk
  rcases hk with rfl | hk
  ·exact hp
  ·exact (hl k hk).2
def ClI (h:HS) (p3:Lab) (S:Sch) (S1:Sch) (dat:List C) (e:Env) (g:HS):Prop:=∃ tc fc oc ta fa oa,e.n=46∧e.get 1=.one (.ptr (h.ep,16) 0)∧e.get 2=.one (.ptr (h.ep+1,32) 0)∧e.get 3=.one (.ptr p3 0)∧g.box (h.ep,16)=some dat∧g.box (h.ep+1,32)=some [.nil,.nil,.nil] ∧
 Sc g p3 S1 tc fc oc ta fa oa∧(∀ k ∈ ta++(fa++oa),h.ep+2≤k.1)∧h.ep+2≤p3.1∧Same h g []
set_option maxHeartbeats 1000000 in
theorem h_schema_Clone (h:HS) (S:Sch) (hS:schOK S) (K:V→HS→Prop) (hk:NewSch h S K) :
  HSpec Tryz.prog 67 [.agg (S.enc.map C.d)] h K:=by
 obtain⟨⟨l1,l2,l3⟩,l4,l5⟩:=hS
 have l1':S.tables.length≤2097152:=l1
 have l2':S.fks.length≤2097152:=l2
 refine HSpec.of_vc Tryz.func67 rfl (by kernel_rfl) (n:=46) rfl rfl (by simp) ?_
 simp
 refine callK_heap (h_slices_Clone_Constraint _ _ _ (RowAt.data (n:=7) (ts:=S.cons.map Cons.enc) (by simp) (by simpa using l3)) _ (fun oc g1 mo hs1 hlo hb1=>?_))
 have hz0:Same h (((h.setBox (h.ep,16) (S.enc.map C.d)).next.setBox (h.ep+1,32) [.nil,.nil,.nil]).next) []:=(((Same.refl.setBox (.inr (Nat.le_refl _))).next.setBox (.inr (by simp))).next)
 have b1:=hb1 (h.ep,16) _ (by simp;rfl)
 have b2:=hb1 (h.ep+1,32) _ (by simp;rfl)
 have hs1':=hs1.1
 simp only[Sch.enc,List.map_cons,List.map_nil] at hz0
 have hy1:=hz0.trans hs1
 simp at hs1'
 have hn1:=ne_new (l:=(h.ep,16)) (n:=g1.ep) (by simp<;>omega)
 simp (maxDischargeDepth:=12) [b1,hn1,le_s]
 have hz2:Same g1 ((g1.setBox (g1.ep,48) [.nil,.nil,.nil]).next.setBox (g1.ep,48) [.nil,.nil,oc]) []:=((Same.refl.setBox (.inr (Nat.le_refl _))).next).setBox (.inr (Nat.le_refl _))
 obtain⟨p3,hp3d⟩:∃ p:Lab,p=(g1.ep,48):=⟨_,rfl⟩
 have trivF:∀ (α:Type) (xs:List α) (i:Nat),forK (ρ:=Unit) (fun _ (_:α) (s:Unit) next=>next s) (fun _=>some ()) xs i ()=some ():=fun α xs=>by
  induction xs with
  | nil=>intro i;rfl
  | cons x xs ih=>intro i;exact ih (i+1)
 intro _
 have hg1:Same h ((g1.setBox (g1.ep,48) [.nil,.nil,.nil]).next.setBox (g1.ep,48) [.nil,.nil,oc]) []:=hy1.trans hz2
 have hlo':∀ k ∈ labs oc,h.ep+2≤k.1∧k.1 < g1.ep:=fun k hk=>by have:=hlo k hk;simp at this;omega
 refine Wait.for (xs:=S.tables) (s0:=()) (k:=fun _=>some ()) (body:=fun _ _ s next=>next s) (r:=()) (fun k _ e g=>ClI h p3 S ⟨S.tables.take k,[],S.cons⟩ (S.enc.map C.d) e g∧e.get 13=.one (.d (.sl (S.tables.map Tbl.enc)))∧e.get 14=.one (.d (.int .i64 (S.tables.length:Int)))∧e.get 15=.one (.d (.int .i64 (k:Int)))) (trivF _ _ _) ⟨⟨.nil,.nil,oc,[],[],labs oc,by simp,by simp,by simp,by simp[hp3d],?_,?_,?_,?_,by rw[hp3d];simp<;>omega,hg1⟩,by simp,by simp,by simp⟩ ?_ ?_
 ·rw[hz2.2 _ (by simp<;>omega) (by simp)];simpa using b1
 ·rw[hz2.2 _ (by simp<;>omega) (by simp)];exact b2
 ·rw[hp3d]
  refine Sc.start (by simp) ?_ (by simp) fun k hk=>⟨fun he=>by have:=(hlo' k hk).2;rw[he] at this;simp at this,by have:=(hlo' k hk).2;simp<;>omega⟩
  rw[dmap_len]
  exact mo.frame fun k hk=>hz2.2 k (hlo' k hk).2 (by simp)
 ·simp only[List.nil_append]
  exact fun k hk=>(hlo' k hk).1
 ·rintro k _ e g ⟨⟨tc,fc,oc,ta,fa,oa,hn,h1',h2',h3',b1,b2,s1,hnew,hp3,hs⟩,h13,h14,h15⟩ hlt hm
  have hw:IntKind.i64.wrap ((k:Int)+1)=(k:Int)+1:=IntWalk.i64_in _ (by omega)
  have hT:=l4 _ (List.getElem_mem hlt)
  have hgp:h.ep+2 < g.ep:=by have:=s1.lt p3 (by simp);omega
  have hz4:Same g ((g.setBox (g.ep,80) [C.d (D.str ByteArray.empty),C.nil,C.nil]).next.setBox (g.ep,80) (S.tables[k].enc.map C.d)) []:=((Same.refl.setBox (.inr (Nat.le_refl _))).next).setBox (.inr (Nat.le_refl _))
  simp only[Tbl.enc,List.map_cons,List.map_nil] at hz4
  simp[hn,h13,h14,h15,hlt]
  generalize hX:(g.setBox (g.ep,80) [C.d (D.str ByteArray.empty),C.nil,C.nil]).next.setBox (g.ep,80) _=GZ at hz4 ⊢
  have bz5:GZ.box (g.ep,80)=some (S.tables[k].enc.map C.d):=by rw[← hX];simp
  have bz3:GZ.box p3=some [tc,fc,oc]:=(s1.frame hz4).box
  simp only[Tbl.enc,List.map_cons,List.map_nil] at bz5
  have hg2:=hs.1
  have hgz:=hz4.1
  refine Wait.cut (Plan.then_ [0,1,2,3,4,5,6,7] .done) follows (by kernel_rfl) (fun e g'=>ClI h p3 S ⟨S.tables.take (k+1),[],S.cons⟩ (S.enc.map C.d) e g'∧e.get 13=.one (.d (.sl (S.tables.map Tbl.enc)))∧e.get 14=.one (.d (.int .i64 (S.tables.length:Int)))∧e.get 15=.one (.d (.int .i64 (k:Int)))) ?_ ?_
  ·simp[hn,h3',bz5,bz3,Plan.then_,vcPlan,planOps,isCallAt,callKind]
   refine callK_heap (h_schema_CloneTable _ (S.tables[k].enc.map C.d) S.tables[k] (fun h' _=>FrzCs.datas (ds:=S.tables[k].enc)) hT _ (fun cs g2 ls2 o2 nd2 hnw0 hs2 hb2=>?_))
   have hnw:∀ k ∈ ls2,g.ep≤k.1∧k.1 < g2.ep:=fun k hk=>by have:=hnw0 k hk;omega
   obtain⟨c0,c1,c2,rfl⟩:∃ a b c,cs=[a,b,c]:=by
    have h9:=o2.len.1
    match cs,h9 with
    | [a,b,c],_=>exact⟨a,b,c,rfl⟩
   simp[hn]
   refine⟨hb2,?_⟩
   have hep2:=hs2.1
   refine bld_ow (x:=[c0,c1,c2]) (by simp[toDs];cases c0.toD<;>cases c1.toD<;>cases c2.toD<;>rfl) (by simp) (fun d hd2=>?_) (fun hd2=>?_)
   ·obtain⟨rfl,hT2⟩:=o2.ofD hd2
    have hz5:Same g2 ((g2.setArr (g2.ep,16 * 23) (some (1,3))).next) []:=Same.refl.setArr.next
    simp only[Nat.reduceMul] at hz5
    have s5:=s1.frame ((hz4.trans hs2).trans hz5)
    obtain⟨ys,my,hly,add⟩:=s5.addT
    simp[hn]
    refine app_mr (by simp;exact⟨rfl,rfl⟩) (by simp) (by simp) (by simp) my (RowAt.own1 (by simp)) (by rw[hly];simp at hlt ⊢;omega) (fun c' g' hm' hs6 hl6=>?_)
    have hep6:=hs6.1
    have hep5:=hz5.1
    have hbl:=s5.keep hs6 fun k hk=>.inl (s5.hlabs.1 k hk)
    have hlab:∀ k ∈ labs tc,k ∈ ta:=s1.hlabs.1
    obtain⟨a',s6,ha'⟩:=add g' c' _ _ [] hm' hs6 hl6 (hT2 g') List.nodup_nil (fun k hk=>by
     have h9:=hnw k ((fun k (hk:k ∈ [])=>by simp at hk) k hk)
     refine⟨by omega,fun h8=>by have:=s1.lt k h8;omega,fun h8=>?_⟩
     rcases hl6 k h8 with h7 | h7
     ·have:=s1.lt k (by simp[hlab k h7]);omega
     ·omega) S.tables[k] rfl
    have ft:∀ k:Lab,k.1 < g.ep→k.1 < h.ep+2→g'.box k=g.box k:=fun k hk hk2=>by
     rw[hs6.2 k (by omega) fun h9=>by have:=hnew k (by simp[hlab k h9]);omega]
     exact ((hz4.trans hs2).trans hz5).2 k hk (by simp)
    have hne1:((h.ep,16):Lab)≠p3:=fun he=>by rw[← he] at hp3;have h9:h.ep+2≤h.ep:=hp3;omega
    have hne2:((h.ep+1,32):Lab)≠p3:=fun he=>by rw[← he] at hp3;have h9:h.ep+2≤h.ep+1:=hp3;omega
    simp[hn,h3',hbl]
    refine CutK.of ⟨⟨c',fc,oc,a',fa,oa,by simp[hn],by simp[h1'],by simp[h2'],by simp[h3'],?_,?_,by simpa[List.take_append_getElem hlt] using s6,fun k hk=>?_,hp3,((hs.trans ((hz4.trans hs2).trans hz5)).trans' hs6 fun k hk=>.inr (by have:=hnew k (by simp[hlab k hk]);omega)).setBox (.inr (by omega))⟩,by simp[h13],by simp[h14],by simp[h15]⟩
    ·simpa[hne1,ft (h.ep,16) (by simp<;>omega) (by simp)] using b1
    ·simpa[hne2,ft (h.ep+1,32) (by simp<;>omega) (by simp)] using b2
    ·simp only[List.mem_append] at hk
     rcases hk with hk | hk
     ·rcases ha' k hk with h9 | h9 | h9
      ·exact hnew k (by simp[h9])
      ·have:=hnw k ((fun k (hk:k ∈ [])=>by simp at hk) k h9);omega
      ·omega
     ·exact hnew k (by simp only[List.mem_append];exact .inr hk)
   ·skip
    have hz5:Same g2 ((g2.setBox (g2.ep,16 * 23) [c0,c1,c2]).next) []:=(Same.refl.setBox (.inr (Nat.le_refl _))).next
    simp only[Nat.reduceMul] at hz5
    have s5:=s1.frame ((hz4.trans hs2).trans hz5)
    obtain⟨ys,my,hly,add⟩:=s5.addT
    simp[hn]
    refine app_mr (by simp;exact⟨rfl,rfl⟩) (by simp) (by simp) (by simp) my (RowAt.new1 (x:=[c0,c1,c2]) (by simp) (by simp)) (by rw[hly];simp at hlt ⊢;omega) (fun c' g' hm' hs6 hl6=>?_)
    have hep6:=hs6.1
    have hep5:=hz5.1
    have hbl:=s5.keep hs6 fun k hk=>.inl (s5.hlabs.1 k hk)
    have hlab:∀ k ∈ labs tc,k ∈ ta:=s1.hlabs.1
    obtain⟨a',s6,ha'⟩:=add g' c' _ _ ls2 hm' hs6 hl6 (o2.frame fun k hk=>by have h9:=hnw k hk;rw[hs6.2 k (by omega) fun h8=>by have:=s1.lt k (by simp[s1.hlabs.1 k h8]);omega];exact hz5.2 k h9.2 (by simp)) nd2 (fun k hk=>by
     have h9:=hnw k ((fun _ h=>h) k hk)
     refine⟨by omega,fun h8=>by have:=s1.lt k h8;omega,fun h8=>?_⟩
     rcases hl6 k h8 with h7 | h7
     ·have:=s1.lt k (by simp[hlab k h7]);omega
     ·omega) S.tables[k] rfl
    have ft:∀ k:Lab,k.1 < g.ep→k.1 < h.ep+2→g'.box k=g.box k:=fun k hk hk2=>by
     rw[hs6.2 k (by omega) fun h9=>by have:=hnew k (by simp[hlab k h9]);omega]
     exact ((hz4.trans hs2).trans hz5).2 k hk (by simp)
    have hne1:((h.ep,16):Lab)≠p3:=fun he=>by rw[← he] at hp3;have h9:h.ep+2≤h.ep:=hp3;omega
    have hne2:((h.ep+1,32):Lab)≠p3:=fun he=>by rw[← he] at hp3;have h9:h.ep+2≤h.ep+1:=hp3;omega
    simp[hn,h3',hbl]
    refine CutK.of ⟨⟨c',fc,oc,a',fa,oa,by simp[hn],by simp[h1'],by simp[h2'],by simp[h3'],?_,?_,by simpa[List.take_append_getElem hlt] using s6,fun k hk=>?_,hp3,((hs.trans ((hz4.trans hs2).trans hz5)).trans' hs6 fun k hk=>.inr (by have:=hnew k (by simp[hlab k hk]);omega)).setBox (.inr (by omega))⟩,by simp[h13],by simp[h14],by simp[h15]⟩
    ·simpa[hne1,ft (h.ep,16) (by simp<;>omega) (by simp)] using b1
    ·simpa[hne2,ft (h.ep+1,32) (by simp<;>omega) (by simp)] using b2
    ·simp only[List.mem_append] at hk
     rcases hk with hk | hk
     ·rcases ha' k hk with h9 | h9 | h9
      ·exact hnew k (by simp[h9])
      ·have:=hnw k ((fun _ h=>h) k h9);omega
      ·omega
     ·exact hnew k (by simp only[List.mem_append];exact .inr hk)
  ·rintro e g' ⟨hI,h13,h14,h15⟩
   have hn:=hI
   obtain⟨_,_,_,_,_,_,hn,h1',h2',h3',-⟩:=hn
   simp[hn,h15,hw]
   obtain⟨tc2,fc2,oc2,ta2,fa2,oa2,-,-,-,-,q⟩:=hI
   exact BackF.of () ⟨⟨⟨tc2,fc2,oc2,ta2,fa2,oa2,by simp[hn],by simp[h1'],by simp[h2'],by simp[h3'],q⟩,by simp[h13],by simp[h14],by simp⟩,hm⟩
 ·rintro _ e g ⟨⟨tc,fc,oc,ta,fa,oa,hn,h1',h2',h3',b1,b2,s1,hnew,hp3,hs⟩,h13,h14,h15⟩ _
  rw[List.take_length] at s1
  simp[hn,h1',h14,h15,b1]
  intro _
  refine Wait.for (xs:=S.fks) (s0:=()) (k:=fun _=>some ()) (body:=fun _ _ s next=>next s) (r:=()) (fun k _ e g=>ClI h p3 S ⟨S.tables,S.fks.take k,S.cons⟩ (S.enc.map C.d) e g∧e.get 28=.one (.d (.sl (S.fks.map Fk.enc)))∧e.get 29=.one (.d (.int .i64 (S.fks.length:Int)))∧e.get 30=.one (.d (.int .i64 (k:Int)))) (trivF _ _ _) ⟨⟨tc,fc,oc,ta,fa,oa,by simp[hn],by simp[h1'],by simp[h2'],by simp[h3'],b1,b2,by simpa using s1,hnew,hp3,hs⟩,by simp,by simp,by simp⟩ ?_ ?_
  ·rintro k _ e g ⟨⟨tc,fc,oc,ta,fa,oa,hn,h1',h2',h3',b1,b2,s1,hnew,hp3,hs⟩,h28,h29,h30⟩ hlt hm
   have hw:IntKind.i64.wrap ((k:Int)+1)=(k:Int)+1:=IntWalk.i64_in _ (by omega)
   have hF:=l5 _ (List.getElem_mem hlt)
   have hgp:h.ep+2 < g.ep:=by have:=s1.lt p3 (by simp);omega
   simp[hn,h28,h29,h30,hlt]
   refine callK_heap (h_slices_Clone_Int _ _ _ (RowAt.data (n:=1) (ts:=S.fks[k].cols.map encI) (by simp) (by simpa using hF)) _ (fun pc g2' mp hs2' hlp hb2=>?_))
   have hz4':Same g ((g.setBox (g.ep,112) [C.d (D.str ByteArray.empty),C.nil,C.d (D.str ByteArray.empty)]).next.setBox (g.ep,112) (S.fks[k].enc.map C.d)) []:=((Same.refl.setBox (.inr (Nat.le_refl _))).next).setBox (.inr (Nat.le_refl _))
   have bz7:=hb2 (g.ep,112) _ (by simp;rfl)
   simp only[Fk.enc,List.map_cons,List.map_nil] at hz4'
   have hep2':=hs2'.1
   simp at hep2' hlp
   have hz4:Same g (g2'.setBox (g.ep,112) [.d (.str S.fks[k].table),pc,.d (.str S.fks[k].ref)]) []:=(hz4'.trans hs2').setBox (.inr (Nat.le_refl _))
   have hoF0:Ow (g2'.setBox (g.ep,112) [.d (.str S.fks[k].table),pc,.d (.str S.fks[k].ref)]) FkSh [.d (.str S.fks[k].table),pc,.d (.str S.fks[k].ref)] S.fks[k].enc (labs pc):=by
    refine .data rfl ?_
    have:=Ow.rowD (es:=[.d]) (n:=1) (ts:=S.fks[k].cols.map encI) (mp.frame (h':=g2'.setBox (g.ep,112) [.d (.str S.fks[k].table),pc,.d (.str S.fks[k].ref)]) fun q hq=>by
     have h9:=hlp q.1 q.2 hq
     have:q≠(g.ep,112):=fun he=>by have h8:q.1=g.ep:=by rw[he]
                                   omega
     simp[this]) rfl (by simp) (Ow.data (c:=.d (.str S.fks[k].ref)) (x:=.str S.fks[k].ref) rfl .nil)
    simpa using this
   have hnw0:∀ q ∈ labs pc,g.ep≤q.1∧q.1 < g2'.ep:=fun q hq=>by have:=hlp q.1 q.2 hq;omega
   have b70:(g2'.setBox (g.ep,112) [.d (.str S.fks[k].table),pc,.d (.str S.fks[k].ref)]).box (g.ep,112)=some [.d (.str S.fks[k].table),pc,.d (.str S.fks[k].ref)]:=by simp
   have hepx:(g2'.setBox (g.ep,112) [.d (.str S.fks[k].table),pc,.d (.str S.fks[k].ref)]).ep=g2'.ep:=by simp
   have bz3:(g2'.setBox (g.ep,112) [.d (.str S.fks[k].table),pc,.d (.str S.fks[k].ref)]).box p3=some [tc,fc,oc]:=(s1.frame hz4).box
   try simp at bz7
   simp[hn,bz7]
   have hp3g:=s1.lt p3 (by simp)
   have hnp:¬ p3=(g.ep,112):=fun he=>by rw[he] at hp3g;simp at hp3g
   have bz3':g2'.box p3=some [tc,fc,oc]:=(s1.frame (hz4'.trans hs2')).box
   have hs2:Same (g2'.setBox (g.ep,112) [.d (.str S.fks[k].table),pc,.d (.str S.fks[k].ref)]) (g2'.setBox (g.ep,112) [.d (.str S.fks[k].table),pc,.d (.str S.fks[k].ref)]) []:=.refl
   have hnw:∀ q ∈ labs pc,g.ep≤q.1∧q.1 < (g2'.setBox (g.ep,112) [.d (.str S.fks[k].table),pc,.d (.str S.fks[k].ref)]).ep:=fun q hq=>by have:=hnw0 q hq;omega
   have hg2:=hs.1
   have hgz:=hz4.1
   have hep2:=hs2.1
   simp[hn,h3',hnp,bz3']
   refine bld_ow (x:=[.d (.str S.fks[k].table),pc,.d (.str S.fks[k].ref)]) (by simp[toDs];cases pc.toD<;>rfl) (by simp) (fun d hd2=>?_) (fun hd2=>?_)
   ·obtain⟨rfl,hT2⟩:=hoF0.ofD hd2
    have hz5:Same (g2'.setBox (g.ep,112) [.d (.str S.fks[k].table),pc,.d (.str S.fks[k].ref)]) (((g2'.setBox (g.ep,112) [.d (.str S.fks[k].table),pc,.d (.str S.fks[k].ref)]).setArr (g2'.ep,16 * 41) (some (1,3))).next) []:=Same.refl.setArr.next
    simp only[Nat.reduceMul] at hz5
    have s5:=s1.frame ((hz4.trans hs2).trans hz5)
    obtain⟨ys,my,hly,add⟩:=s5.addF
    simp[hn]
    refine app_mr (by simp;exact⟨rfl,rfl⟩) (by simp) (by simp) (by simp) my (RowAt.own1 (by simp)) (by rw[hly];simp at hlt ⊢;omega) (fun c' g' hm' hs6 hl6=>?_)
    have hep6:=hs6.1
    have hep5:=hz5.1
    have hbl:=s5.keep hs6 fun k hk=>.inr (.inl (s5.hlabs.2.1 k hk))
    have hlab:∀ k ∈ labs fc,k ∈ fa:=s1.hlabs.2.1
    obtain⟨a',s6,ha'⟩:=add g' c' _ _ [] hm' hs6 hl6 (hT2 g') List.nodup_nil (fun k hk=>by
     have h9:=hnw k ((fun q (hq:q ∈ [])=>by simp at hq) k hk)
     refine⟨by omega,fun h8=>by have:=s1.lt k h8;omega,fun h8=>?_⟩
     rcases hl6 k h8 with h7 | h7
     ·have:=s1.lt k (by simp[hlab k h7]);omega
     ·omega) S.fks[k] rfl
    have ft:∀ k:Lab,k.1 < g.ep→k.1 < h.ep+2→g'.box k=g.box k:=fun k hk hk2=>by
     rw[hs6.2 k (by omega) fun h9=>by have:=hnew k (by simp[hlab k h9]);omega]
     exact ((hz4.trans hs2).trans hz5).2 k hk (by simp)
    have hne1:((h.ep,16):Lab)≠p3:=fun he=>by rw[← he] at hp3;have h9:h.ep+2≤h.ep:=hp3;omega
    have hne2:((h.ep+1,32):Lab)≠p3:=fun he=>by rw[← he] at hp3;have h9:h.ep+2≤h.ep+1:=hp3;omega
    simp[hn,h3',hbl,h30,hw]
    refine BackF.of () ⟨⟨⟨tc,c',oc,ta,a',oa,by simp[hn],by simp[h1'],by simp[h2'],by simp[h3'],?_,?_,by simpa[List.take_append_getElem hlt] using s6,fun k hk=>?_,hp3,((hs.trans ((hz4.trans hs2).trans hz5)).trans' hs6 fun k hk=>.inr (by have:=hnew k (by simp[hlab k hk]);omega)).setBox (.inr (by omega))⟩,by simp[h28],by simp[h29],by simp⟩,hm⟩
    ·simpa[hne1,ft (h.ep,16) (by simp<;>omega) (by simp)] using b1
    ·simpa[hne2,ft (h.ep+1,32) (by simp<;>omega) (by simp)] using b2
    ·simp only[List.mem_append] at hk
     rcases hk with hk | hk | hk
     ·exact hnew k (by simp[hk])
     ·rcases ha' k hk with h9 | h9 | h9
      ·exact hnew k (by simp[h9])
      ·have:=hnw k ((fun q (hq:q ∈ [])=>by simp at hq) k h9);omega
      ·omega
     ·exact hnew k (by simp[hk])
   ·skip
    have hz5:Same (g2'.setBox (g.ep,112) [.d (.str S.fks[k].table),pc,.d (.str S.fks[k].ref)]) (((g2'.setBox (g.ep,112) [.d (.str S.fks[k].table),pc,.d (.str S.fks[k].ref)]).setBox (g2'.ep,16 * 41) [.d (.str S.fks[k].table),pc,.d (.str S.fks[k].ref)]).next) []:=(Same.refl.setBox (.inr (Nat.le_refl _))).next
    simp only[Nat.reduceMul] at hz5
    have s5:=s1.frame ((hz4.trans hs2).trans hz5)
    obtain⟨ys,my,hly,add⟩:=s5.addF
    simp[hn]
    refine app_mr (by simp;exact⟨rfl,rfl⟩) (by simp) (by simp) (by simp) my (RowAt.new1 (x:=[.d (.str S.fks[k].table),pc,.d (.str S.fks[k].ref)]) (by simp) (by simp)) (by rw[hly];simp at hlt ⊢;omega) (fun c' g' hm' hs6 hl6=>?_)
    have hep6:=hs6.1
    have hep5:=hz5.1
    have hbl:=s5.keep hs6 fun k hk=>.inr (.inl (s5.hlabs.2.1 k hk))
    have hlab:∀ k ∈ labs fc,k ∈ fa:=s1.hlabs.2.1
    obtain⟨a',s6,ha'⟩:=add g' c' _ _ (labs pc) hm' hs6 hl6 (hoF0.frame fun k hk=>by have h9:=hnw k hk;rw[hs6.2 k (by omega) fun h8=>by have:=s1.lt k (by simp[s1.hlabs.2.1 k h8]);omega];exact hz5.2 k h9.2 (by simp)) labs_nodup (fun k hk=>by
     have h9:=hnw k ((fun _ h=>h) k hk)
     refine⟨by omega,fun h8=>by have:=s1.lt k h8;omega,fun h8=>?_⟩
     rcases hl6 k h8 with h7 | h7
     ·have:=s1.lt k (by simp[hlab k h7]);omega
     ·omega) S.fks[k] rfl
    have ft:∀ k:Lab,k.1 < g.ep→k.1 < h.ep+2→g'.box k=g.box k:=fun k hk hk2=>by
     rw[hs6.2 k (by omega) fun h9=>by have:=hnew k (by simp[hlab k h9]);omega]
     exact ((hz4.trans hs2).trans hz5).2 k hk (by simp)
    have hne1:((h.ep,16):Lab)≠p3:=fun he=>by rw[← he] at hp3;have h9:h.ep+2≤h.ep:=hp3;omega
    have hne2:((h.ep+1,32):Lab)≠p3:=fun he=>by rw[← he] at hp3;have h9:h.ep+2≤h.ep+1:=hp3;omega
    simp[hn,h3',hbl,h30,hw]
    refine BackF.of () ⟨⟨⟨tc,c',oc,ta,a',oa,by simp[hn],by simp[h1'],by simp[h2'],by simp[h3'],?_,?_,by simpa[List.take_append_getElem hlt] using s6,fun k hk=>?_,hp3,((hs.trans ((hz4.trans hs2).trans hz5)).trans' hs6 fun k hk=>.inr (by have:=hnew k (by simp[hlab k hk]);omega)).setBox (.inr (by omega))⟩,by simp[h28],by simp[h29],by simp⟩,hm⟩
    ·simpa[hne1,ft (h.ep,16) (by simp<;>omega) (by simp)] using b1
    ·simpa[hne2,ft (h.ep+1,32) (by simp<;>omega) (by simp)] using b2
    ·simp only[List.mem_append] at hk
     rcases hk with hk | hk | hk
     ·exact hnew k (by simp[hk])
     ·rcases ha' k hk with h9 | h9 | h9
      ·exact hnew k (by simp[h9])
      ·have:=hnw k ((fun _ h=>h) k h9);omega
      ·omega
     ·exact hnew k (by simp[hk])
  ·rintro _ e g ⟨⟨tc,fc,oc,ta,fa,oa,hn,h1',h2',h3',b1,b2,s1,hnew,hp3,hs⟩,h28,h29,h30⟩ _
   rw[List.take_length] at s1
   have hb3:=s1.box
   simp[hn,h2',h3',h29,h30,hb3,b2,retH,resVs,resV]
   obtain⟨qt,qf,qo,rfl,rfl,rfl,sc⟩:=s1
   have hsF:Same h (g.setBox (h.ep+1,32) [tc,fc,oc]) []:=hs.setBox (.inr (by simp))
   have kb:∀ k ∈ plabs tc qt++(plabs fc qf++plabs oc qo),(g.setBox (h.ep+1,32) [tc,fc,oc]).box k=g.box k:=fun k hk=>by
    have h9:=hnew k hk
    have:k≠(h.ep+1,32):=fun he=>by rw[he] at h9;simp at h9
    simp[this]
   simp only[List.mem_append] at kb
   have hndA:=sc.nd
   rw[List.nodup_cons] at hndA
   refine hk tc fc oc qt qf qo _ (sc.t.frame fun k hk=>kb k (.inl hk)) (sc.f.frame fun k hk=>kb k (.inr (.inl hk))) (sc.o.frame fun k hk=>kb k (.inr (.inr hk))) hndA.2 (fun k hk=>⟨by have:=hnew k hk;omega,by have:=sc.lt k (List.mem_cons_of_mem _ hk);simpa using this⟩) hsF
def m_evolution_apply (S:Sch) (x:Stp):Option (Sch × Int):=
 bif x.kind == 13 then none else
 bif x.kind == 14 then none else
 bif x.kind == 15 then none else
 bif x.kind == 16 then none else
 bif x.kind == 10 then none else
 bindK (m_schema_FindTable S x.table) fun v=>bif !v.2 then some (S,4) else
 bif x.kind == 4 then none else
 bif x.kind == 6 then none else
 bif x.kind == 7 then none else
 bif x.kind == 8 then none else
 bif x.kind == 9 then none else
 bif x.kind == 11 then none else
 bif x.kind == 12 then none else
 bif x.kind == 1 then m_evolution_addColumn S v.1.toNat x else none
theorem findTable_nn {S:Sch} {nm:ByteArray} {v:Int × Bool} (h:Is (m_schema_FindTable S nm) v):0≤v.1:=by
 obtain⟨k,_,h⟩:=Is.bind h
 have:=r_ret h
 rw[← this]
 show 0≤(if k < 0 then 0 else k)
 split<;>omega
theorem KeepS.sub {h:HS} {l:Lab} {ls ls':List Lab} {S':Sch} {v:V} {K:V→HS→Prop} (hk:KeepS h l ls S' v K) (hs:∀ k ∈ ls',k ∈ ls):KeepS h l ls' S' v K:=
 fun h' lz ho hm hl=>hk h' lz ho (hm.mono fun k hk=>by simp only[List.mem_cons] at hk ⊢;exact hk.imp_right (hs k)) fun k hk=>(hl k hk).imp_left (hs k)
theorem KeepS.to {h:HS} {l:Lab} {ls:List Lab} {S':Sch} {v:V} {K K':V→HS→Prop} (hk:KeepS h l ls S' v K) (hs:∀ h',K v h'→K' v h'):KeepS h l ls S' v K':=
 fun h' lz ho hm hl=>hs _ (hk h' lz ho hm hl)
set_option maxHeartbeats 2000000 in
theorem h_evolution_apply (h:HS) (l:Lab) (tc fc oc:C) (xs:List C) (ta fa oa lx:List Lab) (S S':Sch) (x:Stp) (r:Int) (hm:Is (m_evolution_apply S x) (S',r)) (s:Sc h l S tc fc oc ta fa oa) (hx:Ow h StpSh xs x.enc lx) (hd:lx.Nodup∧∀ k ∈ lx,k.1 < h.ep∧k ∉ l::(ta++(fa++oa))) (K:V→HS→Prop)
  (hk:KeepS h l (ta++(fa++oa)++lx) S' (.one (.d (.int .i64 r))) K) :
  HSpec Tryz.prog 136 [.one (.ptr l 0),.agg xs] h K:=by
 refine HSpec.good Tryz.func136 rfl (by kernel_rfl) fun hg=>?_
 obtain⟨x6,x12,x13,x22,a6,a12,a13,a22,rfl,rfl,-,-,-,-⟩:=hx.stp
 refine HSpec.of_vc Tryz.func136 rfl (by kernel_rfl) (n:=120) rfl rfl (by simp) ?_
 have hnn:stpC x x6 x12 x13 x22≠[]:=by simp[stpC]
 have hs0:Same h ((h.setBox (h.ep,48) (stpC x x6 x12 x13 x22)).next) []:=(Same.refl.setBox (.inr (Nat.le_refl _))).next
 have s0:=s.frame hs0
 have hb0:=s0.box
 have bx3:(h.setBox (h.ep,48) (stpC x x6 x12 x13 x22)).next.box (h.ep,48)=some (stpC x x6 x12 x13 x22):=by simp
 have hx0:Ow ((h.setBox (h.ep,48) (stpC x x6 x12 x13 x22)).next) StpSh (stpC x x6 x12 x13 x22) x.enc (a6++(a12++(a13++a22))):=hx.frame fun k hk=>hs0.2 k (hd.2 k hk).1 (by simp)
 have hd0:∀ k ∈ a6++(a12++(a13++a22)),k.1 < ((h.setBox (h.ep,48) (stpC x x6 x12 x13 x22)).next).ep∧k ∉ l::(ta++(fa++oa)):=fun k hk=>⟨by have:=(hd.2 k hk).1;simp<;>omega,(hd.2 k hk).2⟩
 have hk0:KeepS ((h.setBox (h.ep,48) (stpC x x6 x12 x13 x22)).next) l (ta++(fa++oa)++(a6++(a12++(a13++a22)))) S' (.one (.d (.int .i64 r))) K:=hk.after hs0
 have hk1:KeepS ((h.setBox (h.ep,48) (stpC x x6 x12 x13 x22)).next) l (ta++(fa++oa)) S' (.one (.d (.int .i64 r))) K:=hk0.sub fun k hk=>List.mem_append_left _ hk
 have e0:takeN 1 (stpC x x6 x12 x13 x22)=some [.d (.int .i64 x.kind)]:=by simp[stpC]
 have e24:takeN 24 (stpC x x6 x12 x13 x22)=some (stpC x x6 x12 x13 x22):=by simp[stpC]
 have e1:takeN 1 ((stpC x x6 x12 x13 x22).drop 1)=some [.d (.str x.table)]:=by simp[stpC]
 have e1':takeN 1 ((stpC x x6 x12 x13 x22).tail)=some [.d (.str x.table)]:=by simp[stpC]
 have e2:takeN 1 ((stpC x x6 x12 x13 x22).drop 2)=some [.d (.str x.other)]:=by simp[stpC]
 have e4:takeN 1 ((stpC x x6 x12 x13 x22).drop 4)=some [.d (.str x.newName)]:=by simp[stpC]
 have e11:takeN 3 ((stpC x x6 x12 x13 x22).drop 11)=some [.d (.str x.newTable.name),x12,x13]:=by simp[stpC]
 have e14:takeN 7 ((stpC x x6 x12 x13 x22).drop 14)=some (x.cons.enc.map C.d):=by simp[stpC]
 have e21:takeN 3 ((stpC x x6 x12 x13 x22).drop 21)=some [.d (.str x.fk.table),x22,.d (.str x.fk.ref)]:=by simp[stpC]
 simp only[Cons.enc,List.map_cons,List.map_nil] at e14
 unfold m_evolution_apply at hm
 simp[hnn,e0]
 cases k13:x.kind == 13 with
 | true=>
   simp only[k13,cond_true] at hm
   cases hm
 | false=>
 simp only[k13,cond_false] at hm
 cases k14:x.kind == 14 with
 | true=>
   simp only[k14,cond_true] at hm
   cases hm
 | false=>
 simp only[k14,cond_false] at hm
 cases k15:x.kind == 15 with
 | true=>
   simp only[k15,cond_true] at hm
   cases hm
 | false=>
 simp only[k15,cond_false] at hm
 cases k16:x.kind == 16 with
 | true=>
   simp only[k16,cond_true] at hm
   cases hm
 | false=>
 simp only[k16,cond_false] at hm
 cases k10:x.kind == 10 with
 | true=>
   simp only[k10,cond_true] at hm
   cases hm
 | false=>
 simp only[k10,cond_false] at hm
 replace hm:=hm.bind
 obtain⟨v,hv,hm⟩:=hm
 obtain⟨n,hn1⟩:∃ n:Nat,v.1=n:=⟨v.1.toNat,by have:=findTable_nn hv;omega⟩
 simp[k13,k14,k15,k16,k10]
 have hepX:h.ep < ((h.setBox (h.ep,48) (stpC x x6 x12 x13 x22)).next).ep:=by simp
 generalize hHX:(h.setBox (h.ep,48) (stpC x x6 x12 x13 x22)).next=HX at *
 refine Wait.cut (Plan.then_ [0,1,2,3,4,5,6,7,8,9,10] .done) follows (by kernel_rfl) (fun e h'=>e.n=120∧e.get 0=.one (.ptr l 0)∧e.get 3=.one (.ptr (h.ep,48) 0)∧e.get 5=.one (.d (.int .i64 v.1))∧e.get 6=.one (.d (.bool v.2))∧h'=HX.next) ?_ ?_
 ·simp[hb0,bx3,e1',Plan.then_,vcPlan,planOps,isCallAt,callKind]
  refine callK_heap (HSpec.of_lend (c_schema_FindTable S x.table v hv) ⟨.agg s0.frz,.one (.frz (.data rfl)),trivial⟩ rfl ?_)
  simp
  exact⟨fun _ _ x=>x,CutK.of (by simp)⟩
 ·rintro e h' ⟨hn,h0,h3,h5,h6,rfl⟩
  have hs1:Same HX HX.next []:=Same.refl.next
  have s1:=s0.frame hs1
  have bx31:HX.next.box (h.ep,48)=some (stpC x x6 x12 x13 x22):=bx3
  have hx1:=hx0.frame (h':=HX.next) fun k hk=>hs1.2 k (hd0 k hk).1 (by simp)
  have hd1:∀ k ∈ a6++(a12++(a13++a22)),k.1 < HX.next.ep∧k ∉ l::(ta++(fa++oa)):=fun k hk=>⟨by have:=(hd0 k hk).1;simp<;>omega,(hd0 k hk).2⟩
  have hk2:=hk1.after hs1
  rw[hn1] at h5
  have hvn:v.1.toNat=n:=by omega
  rw[hvn] at hm
  simp[hn,h6]
  cases hv2:v.2 with
  | false=>
    rw[hv2] at hm
    have e1:=r_ret hm
    simp only[Prod.mk.injEq] at e1
    obtain⟨rfl,rfl⟩:=e1
    simp[hn]
    exact hk2 _ _ s1.ows .refl (fun k hk=>.inl hk)
  | true=>
  simp only[hv2,Bool.not_true,cond_false] at hm
  simp at bx31
  simp[hn,h3,bx31,e0]
  cases k4:x.kind == 4 with
  | true=>
    simp only[k4,cond_true] at hm
    cases hm
  | false=>
  simp only[k4,cond_false] at hm
  cases k6:x.kind == 6 with
  | true=>
    simp only[k6,cond_true] at hm
    cases hm
  | false=>
  simp only[k6,cond_false] at hm
  cases k7:x.kind == 7 with
  | true=>
    simp only[k7,cond_true] at hm
    cases hm
  | false=>
  simp only[k7,cond_false] at hm
  cases k8:x.kind == 8 with
  | true=>
    simp only[k8,cond_true] at hm
    cases hm
  | false=>
  simp only[k8,cond_false] at hm
  cases k9:x.kind == 9 with
  | true=>
    simp only[k9,cond_true] at hm
    cases hm
  | false=>
  simp only[k9,cond_false] at hm
  cases k11:x.kind == 11 with
  | true=>
    simp only[k11,cond_true] at hm
    cases hm
  | false=>
  simp only[k11,cond_false] at hm
  cases k12:x.kind == 12 with
  | true=>
    simp only[k12,cond_true] at hm
    cases hm
  | false=>
  simp only[k12,cond_false] at hm
  cases k1:x.kind == 1 with
  | true=>
    simp only[k1,cond_true] at hm
    simp[k4,k6,k7,k8,k9,k11,k12,k1,hn,h0,h3,h5,bx31,e24]
    refine callK_heap (h_evolution_addColumn _ l tc fc oc x6 x12 x13 x22 ta fa oa S S' n x r hm s1 _ (hk2.to fun h' hK=>?_))
    simp[hn]
    exact hK
  | false=>
  simp only[k1,cond_false] at hm
  cases hm
end Go.Proofs.YthiojhcimecdgaaGreatDoor
end
section
namespace Go.Proofs.YthiojhcimecdgaaGreatDoor
open Go.Am
set_option maxRecDepth 20000
instance i_schema_ValidName (s_:ByteArray):Con (m_schema_ValidName s_) Tryz.prog 126 [.one (.d (.str s_))] (fun r=>.one (.d (.bool r))):=⟨fun r hm=>c_schema_ValidName s_ r hm⟩
set_option maxRecDepth 20000
def m_schema_ValidateTable (t:Tbl):Option Int:=
 (bindK (m_schema_ValidName t.name) fun v2=>(bif !v2 then (some 23) else (bif ((t.cols.length:Int) == 0) then (some 3) else (bif decide (6 < (t.cols.length:Int)) then (some 2) else (forK (fun (i9:Nat) (x9:Col) (s9:Unit) next_9=>(bindK (m_schema_ValidName x9.name) fun v11=>(bif !v11 then (some 23) else (bindK (m_schema_FindColumn t x9.name) fun v13=>(bif decide (v13.1 < (i9:Int)) then (some 5) else (bif decide (x9.kind < 1) then (some 7) else (bif decide (3 < x9.kind) then (some 7) else (next_9 ())))))))) (fun (s9:Unit)=>(forK (fun (i18:Nat) (x18:Int) (s18:Unit) next_18=>(bif decide (x18 < 0) then (some 9) else (bif decide ((t.cols.length:Int)≤x18) then (some 9) else (getK t.cols x18 fun x22=>(bif x22.nullable then (some 9) else (bif decide (0 < i18) then (chkK (okI ((i18:Int) - 1)) (getK t.pk ((i18:Int) - 1) fun x26=>(bif decide (x18≤x26) then (some 9) else (next_18 ())))) else (next_18 ()))))))) (fun (s18:Unit)=>(bif ((t.pk.length:Int) == 0) then (some 9) else (some 0))) t.pk 0 ())) t.cols 0 ())))))
instance c_schema_ValidateTable (t:Tbl):Con (m_schema_ValidateTable t) Tryz.prog 85 [.agg t.enc] (fun r=>.one (.d (.int .i64 r))):=by
 unfold m_schema_ValidateTable
 have l1:LH (σ:=Unit) 24 [1,22,23] []:=.intro
 have l2:LH (σ:=Unit) 55 [1,53,54] []:=.intro
 exact go 96 Tryz.func85 rfl (by kernel_rfl) rfl rfl (by simp)
end Go.Proofs.YthiojhcimecdgaaGreatDoor
end
