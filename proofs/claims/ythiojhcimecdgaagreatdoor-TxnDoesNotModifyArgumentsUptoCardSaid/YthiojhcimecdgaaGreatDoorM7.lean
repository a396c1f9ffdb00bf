/- joined by a program out of 22 texts -/
import Derived.Test.YthiojhcimecdgaaGreatDoorM6
import Derived.Test.YthiojhcimecdgaaGreatDoorCards
import Derived.Test.YthiojhcimecdgaaGreatDoorTie
import Derived.WalkKit
import Derived.ProofKit
import Derived.OpenShut
import Derived.JoinedCond
import Derived.JoinedOf
import Derived.Carry
import Derived.Lay
import Derived.SevenTiedAt
import Derived.Deep.DeepWitnessRowRef
set_option linter.unusedVariables false
set_option linter.unusedSimpArgs false
set_option maxRecDepth 20000
namespace Go.Proofs.YthiojhcimecdgaaGreatDoor
section
open Go Go.Am
def Z0n (g_:Gr) (t:Txn) (changes:List Chg) (table:ByteArray) (key:List GV):Option Bool:=
 bindK Z1f fun w=>bif !w then some w else bindK (Z3c [t.changes,changes]) fun cs=>bindK (Z1r g_ ⟨[t.snapshot],[]⟩ cs) fun b=>bif !b then some w else
 bindK (Z0h t.snapshot) fun sn=>bindK (Z6g t.tables) fun tb=>bindK (Z7h t.changes) fun own=>bindK (Z4u g_ t changes) fun n=>bindK (Z3j g_ t table key) fun l=>
 bindK (Z1u t.snapshot sn) fun a=>bif !a then some false else bindK (Z1v t.tables tb) fun b2=>bif !b2 then some false else Z23 t.changes own
def ChS:List Sh:=[.d,.d,RowSh,RowSh]
theorem ow_two {h:HS} {cs:List C} {ds:List D} {ls:List Lab} (o:Ow h [RowSh,RowSh] cs ds ls):∃ a b ea eb,cs=[a,b]∧OwL h VSh a ea∧OwL h VSh b eb∧ls=ells a ea++ells b eb:=by
 have hl:=o.len.2
 match ds,hl with
 | [x,y],_=>
   obtain⟨a,cs',l1,l2,rfl,rfl,o1,o2⟩:=o.split;obtain⟨b,hb⟩:=Zhi o2;subst hb;obtain⟨ea,h1,rfl⟩:=OwL.of o1;obtain⟨eb,h2,rfl⟩:=OwL.of o2;exact⟨a,b,ea,eb,rfl,h1,h2,rfl⟩
theorem OwL.chg {h:HS} {x:C} {es:List El} (o:OwL h ChS x es) {i:Nat} (hi:i < es.length):∃ va vb ky rw d1 d2 ek er,es[i].1=[va,vb,ky,rw]∧va.toD=some d1∧vb.toD=some d2∧OwL h VSh ky ek∧OwL h VSh rw er∧es[i].2=ells ky ek++ells rw er:=by
 obtain⟨ds,hd⟩:=o.ow _ (List.getElem_mem hi);obtain⟨a,d1,cs1,ds1,h1,_,h3,h4⟩:=hd.inv_d;obtain⟨b,d2,cs2,ds2,h5,_,h7,h8⟩:=h4.inv_d;obtain⟨ky,rw_,ek,er,rfl,o1,o2,hl⟩:=ow_two h8;exact⟨a,b,ky,rw_,d1,d2,ek,er,by rw[h1,h5],h3,h7,o1,o2,hl⟩
theorem OwL.stepC {h h':HS} {x:C} {es:List El} (o:OwL h ChS x es) (nd:(ells x es).Nodup) (hlt:∀ k ∈ ells x es,k.1 < h.ep) {i:Nat} (hi:i < es.length) {va vb ky rw_:C} {d1 d2:D} {ek er er':List El} (hy:es[i].1=[va,vb,ky,rw_]) (h1:va.toD=some d1) (h2:vb.toD=some d2) (ok:OwL h VSh ky ek) (hls:es[i].2=ells ky ek++ells rw_ er)
  (hs:Same h h' (ells rw_ er)) (he:ells rw_ er'=ells rw_ er) (hw:OwL h' VSh rw_ er'):OwL h' ChS x es:=by
 have ndi:(ells ky ek++ells rw_ er).Nodup:=by rw[← hls];exact (Zfs hi).nodup nd
 have hlti:∀ k ∈ ells ky ek++ells rw_ er,k.1 < h.ep:=fun k hk=>hlt k ((Zfs hi).mem (by rw[hls];exact hk));refine o.step nd hlt hi (by rw[hls];exact hs.mono fun k hk=>List.mem_append_right _ hk) ?_;obtain⟨dk,o1⟩:=ok.ow';obtain⟨dw,o2⟩:=hw.ow';have o1':=o1.frame (h':=h') fun k hk=>hs.2 k (hlti k (List.mem_append_left _ hk)) fun h9=>(List.nodup_append.1 ndi).2.2 k hk k h9 rfl;rw[hy,hls,← he]
 match dk,o1'.len.2 with
 | [a],_=>exact⟨_,.data h1 (.data h2 (o1'.join o2))⟩
theorem OwL.val1 {h:HS} {l:Lab} {cap:Nat} {es:List El} {sp:List C} {d:D} (o:OwL h [.d] (.mrow l 0 es.length cap) es) (hb:h.box l=some (rowBox (es.map (·.1)) sp)) (hcap:(rowBox (es.map (·.1)) sp).length=cap * 1) {i:Nat} (hi:i < es.length)
  (hall:AllC 1 (es.map (·.1))) (hl:∀ k ∈ es.flatMap (·.2),k≠l):OwL (h.setBox l (Z03 (rowBox (es.map (·.1)) sp) i [.d d])) [.d] (.mrow l 0 es.length cap) (es.set i ([.d d],[])):=by
 have hx:(es.map (·.1))[i]?=some es[i].1:=by rw[List.getElem?_map,List.getElem?_eq_getElem hi];rfl
 have h9:=Z60 (sp:=sp) (f:=0) (vs:=[C.d d]) hall hx (by simp);have he:es[i].1.length=1:=hall.get hx;have h8:Z03 es[i].1 0 [C.d d]=[C.d d]:=by
  match es[i].1,he with
  | [x],_=>rfl
 rw[h8,Nat.add_zero,Nat.mul_one] at h9;have hm:(es.map (·.1)).set i [C.d d]=(es.set i ([C.d d],[])).map (·.1):=by rw[List.map_set]
 rw[hm] at h9;have ha:AllC 1 ((es.set i ([C.d d],([]:List Lab))).map (·.1)):=by rw[← hm];exact hall.set rfl
 refine⟨.inr ⟨ha,by simpa using o.le,.inr ⟨l,cap,sp,by simp,by rw[h9];simp,?_⟩⟩,fun e he=>?_⟩
 ·show _=cap * 1;rw[Z04 ha,List.length_map,List.length_set,← hcap,Z04 hall,List.length_map]
 ·rcases List.mem_or_eq_of_mem_set he with h1 | rfl
  ·obtain⟨d',hd'⟩:=o.ow e h1;exact⟨d',hd'.frame fun k hk=>by
    have:=hl k (List.mem_flatMap.2 ⟨e,h1,hk⟩)
    simp[this]⟩
  ·exact⟨[d],.data rfl .nil⟩
theorem OwL.flat1 {h:HS} {x:C} {es:List El} (o:OwL h [.d] x es):∀ e ∈ es,e.2=[]:=fun e he=>by
 obtain⟨ds,hd⟩:=o.ow e he;obtain⟨c,x,cs',ds',_,_,_,o2⟩:=hd.inv_d;exact o2.inv_nil.2.2
theorem OwL.frameX {h h':HS} {sh:List Sh} {x:C} {es:List El} {lx:List Lab} (o:OwL h sh x es) (hlt:∀ k ∈ ells x es,k.1 < h.ep) (hs:Same h h' lx) (hd:∀ k ∈ ells x es,k ∉ lx):OwL h' sh x es:=by
 refine⟨o.mr.imp id fun m=>m.frame fun l hl=>hs.2 l (hlt l (List.mem_append_left _ hl)) (hd l (List.mem_append_left _ hl)),fun e he=>?_⟩;obtain⟨ds,h1⟩:=o.ow e he;exact⟨ds,h1.frame fun l hl=>hs.2 l (hlt l (List.mem_append_right _ (List.mem_flatMap.2 ⟨e,he,hl⟩))) (hd l (List.mem_append_right _ (List.mem_flatMap.2 ⟨e,he,hl⟩)))⟩
theorem Zo4 {h:HS} {cs:List C} {n:Txn} {ls:List Lab} (o:Ow h TxSh cs n.enc ls):∃ v ci ct cc li et ec,cs=[v,ci,ct,cc]∧OwL h [.d] ct et∧OwL h ChS cc ec∧ls=li++(ells ct et++ells cc ec):=by
 obtain⟨v,x,cs',ds',rfl,h2,_,o1⟩:=o.inv_d;simp only[Txn.enc,List.cons.injEq] at h2;obtain⟨-,rfl⟩:=h2;obtain⟨ci,cs2,li,l2,rfl,rfl,_,o2⟩:=o1.split;obtain⟨ct,cs3,lt,lc,rfl,rfl,o3,o4⟩:=o2.split;obtain⟨cc,hc⟩:=Zhi o4;subst hc;obtain⟨et,h3,rfl⟩:=OwL.of o3;obtain⟨ec,h4,rfl⟩:=OwL.of o4;exact⟨v,ci,ct,cc,li,et,ec,rfl,h3,h4,rfl⟩
def At32 (e:Env) (h:HS) (g_:Gr) (t:Txn) (changes:List Chg) (table:ByteArray) (key:List GV):Prop:=
 e.n=123∧e.get 2=.one (.d (.sl (changes.map Chg.enc)))∧e.get 3=.one (.d (.str table))∧e.get 4=.one (.d (.sl (key.map GV.enc)))∧e.get 5=.one (.ptr (0,80) 0)∧e.get 6=.one (.ptr (1,96) 0)∧h.box (0,80)=some (g_.enc.map C.d)∧h.box (1,96)=some (t.enc.map C.d)∧1 < h.ep
set_option maxHeartbeats 4000000 in
theorem Zr2 (g_:Gr) (t:Txn) (changes:List Chg) (table:ByteArray) (key:List GV) (r:Bool) (hm:Is (Z0n g_ t changes table key) r) :
  PSpec Tryz.prog 6 [.agg g_.enc,.agg t.enc,.one (.d (.sl (changes.map Chg.enc))),.one (.d (.str table)),.one (.d (.sl (key.map GV.enc)))] (.one (.d (.bool r))):=by
 unfold Z0n at hm;refine PSpec.of_heap ?_;show HSpec _ _ [.agg (g_.enc.map C.d),.agg (t.enc.map C.d),.one (.d (.sl (changes.map Chg.enc))),.one (.d (.str table)),.one (.d (.sl (key.map GV.enc)))] HS.init _;refine HSpec.of_vc Tryz.func6 rfl (by kernel_rfl) (n:=123) rfl rfl (by simp) ?_;obtain⟨w,hw,hm⟩:=hm.bind;simp;cases w with
 | false=>
   simp only[Bool.not_false,cond_true] at hm;obtain rfl:=r_ret hm;refine Wait.cut (Plan.then_ [0,1,2,3,4,5,8,9,10] (.two 6 11 (Plan.then_ [] (.two 7 11 (Plan.then_ [11,12,13,14,15] .done) (Plan.then_ [] (.two 7 12 (Plan.then_ [12,13,14,15] .done) (Plan.then_ [7,13,14,15] .done))))) (Plan.then_ [] (.two 6 12 (Plan.then_ [] (.two 7 12 (Plan.then_ [12,13,14,15] .done) (Plan.then_ [7,13,14,15] .done))) (Plan.then_ [6,7,13,14,15] .done))))) follows (by kernel_rfl) (fun e h=>e.n=123∧e.get 39=.one (.d (.bool true))) ?_ ?_
   ·simp[Plan.then_,vcPlan,Z01,Z00,callKind];refine Z09 (c_stemkeep1_txnWorks.h false hw) (by simp) ?_;simp[Plan.then_,vcPlan,Z01,Z00,callKind]
    all_goals repeat' first
     | exact CutK.of ⟨by simp,by simp⟩
     | exact fun _ _ x=>x
     | with_reducible refine And.intro ?_ ?_
   ·rintro e h ⟨en,e39⟩;simp[en,e39];refine Z09 (c_stemkeep1_txnWorks.h false hw) (by simp) ?_;simp[en,retH,resVs,resV,notTup];exact .data rfl
 | true=>
   simp only[Bool.not_true,cond_false] at hm;obtain⟨cs,hcs,hm⟩:=hm.bind;obtain⟨b,hb,hm⟩:=hm.bind;refine Wait.cut (Plan.then_ [0,1,2,3,4,5,8,9,10] (.two 6 11 (Plan.then_ [] (.two 7 11 (Plan.then_ [11,12,13,14,15] .done) (Plan.then_ [] (.two 7 12 (Plan.then_ [12,13,14,15] .done) (Plan.then_ [7,13,14,15] .done))))) (Plan.then_ [] (.two 6 12 (Plan.then_ [] (.two 7 12 (Plan.then_ [12,13,14,15] .done) (Plan.then_ [7,13,14,15] .done))) (Plan.then_ [6,7,13,14,15] .done))))) follows (by kernel_rfl) (fun e h=>At32 e h g_ t changes table key∧e.get 39=.one (.d (.bool (!b)))) ?_ ?_
   ·simp[Plan.then_,vcPlan,Z01,Z00,callKind];refine Z09 (c_stemkeep1_txnWorks.h true hw) (by simp) ?_;simp[Plan.then_,vcPlan,Z01,Z00,callKind]
    all_goals repeat' first
     | exact fun _ _ x=>x
     | with_reducible refine And.intro ?_ ?_
     | (refine Z09 (Z8u [t.changes,changes] cs hcs) (by simp[toAs,encL]) ?_
        simp[Plan.then_,vcPlan,Z01,Z00,callKind])
     | (refine Z09 ((c_stemkeep1_bounded g_ ⟨[t.snapshot],[]⟩ cs).h b hb) (by simp[toAs,encL]) ?_
        simp[Plan.then_,vcPlan,Z01,Z00,callKind])
    all_goals refine CutK.of ⟨⟨by simp,by simp,by simp,by simp,by simp,by simp,?_,?_,?_⟩,by simp⟩<;>simp
   ·rintro e h ⟨⟨en,e2,e3,e4,e5,e6,b0,b1,hep⟩,e39⟩;simp[en,e39];cases b with
    | false=>
      simp only[Bool.not_false,cond_true] at hm;obtain rfl:=r_ret hm;simp[en];refine Z09 (c_stemkeep1_txnWorks.h true hw) (by simp) ?_;simp[en,retH,resVs,resV,notTup];exact .data rfl
    | true=>
      simp only[Bool.not_true,cond_false] at hm;obtain⟨sn,hsn,hm⟩:=hm.bind;obtain⟨tb,htb,hm⟩:=hm.bind;obtain⟨own,hown,hm⟩:=hm.bind;simp[en];refine Wait.cut (Plan.then_ [0,1,3,4,6,7,2,5,8,9,10,11] .done) follows (by kernel_rfl) (fun e h=>At32 e h g_ t changes table key∧e.get 11=.one (.d (.sl (sn.map Rel.enc)))∧(∃ tl,e.get 12=.one (.own tl (tb.map encS)))∧e.get 13=.one (.d (.sl (own.map Chg.enc)))) ?_ ?_
      ·simp[en,e6,b1,Plan.then_,vcPlan,Z01,Z00,callKind];refine Z09 ((c_instance_Clone t.snapshot).h sn hsn) (by simp) ?_;simp[Plan.then_,vcPlan,Z01,Z00,callKind];refine⟨fun _ _ x=>x,by omega,?_⟩;refine Z09 (Z9f t.tables tb htb) (by simp) ?_;simp[en,Plan.then_,vcPlan,Z01,Z00,callKind];refine⟨fun _ _ x=>x,?_⟩;refine Z09 (Zbe t.changes own hown) (by simp) ?_;simp[en,Plan.then_,vcPlan,Z01,Z00,callKind];refine⟨fun _ _ x=>x,CutK.of ⟨⟨by simp[en],by simp[e2],by simp[e3],by simp[e4],by simp[e5],by simp[e6],by simpa using b0,by simpa using b1,by simp<;>omega⟩,by simp,⟨(h.ep+1,737),by simp⟩,by simp⟩⟩
      ·rintro e h ⟨⟨en,e2,e3,e4,e5,e6,b0,b1,hep⟩,e11,⟨tl,e12⟩,e13⟩;obtain⟨n,hn,hm⟩:=hm.bind;obtain⟨l,hl,hm⟩:=hm.bind;have ht4:∀ a b c d:C,takeN 4 [a,b,c,d]=some [a,b,c,d]:=fun _ _ _ _=>rfl;simp[en,e2,e5,e6,b0,b1,ht4];refine Z02 (Zdp h g_ t changes n hn _ fun cs1 ls1 h1 o1 hb1=>?_);obtain⟨v,ci,ct,cc,li,et,ec,rfl,oT,oC,rfl⟩:=Zo4 o1.ow;have hs1:=o1.same;have hep1:=hs1.1;have nd1:=o1.nd;have new1:=o1.new;clear hb1 o1;simp[en,e2,e3,e4,e5,e6,e11,e12,e13,ht4];refine oC.lenK ?_;simp[en,e2,e3,e4,e5,e6,e11,e12,e13];have hsB:Same h1 ((h1.setBox (h1.ep,224) [C.d (D.int IntKind.i64 0),C.nil,C.nil,C.nil]).next.setBox (h1.ep,224) [v,ci,ct,cc]) []:=((Same.refl.setBox (.inr (Nat.le_refl _))).next).setBox (.inr (Nat.le_refl _));have b14:((h1.setBox (h1.ep,224) [C.d (D.int IntKind.i64 0),C.nil,C.nil,C.nil]).next.setBox (h1.ep,224) [v,ci,ct,cc]).box (h1.ep,224)=some [v,ci,ct,cc]:=by simp
       have hepB:h1.ep < ((h1.setBox (h1.ep,224) [C.d (D.int IntKind.i64 0),C.nil,C.nil,C.nil]).next.setBox (h1.ep,224) [v,ci,ct,cc]).ep:=by simp
       generalize (h1.setBox (h1.ep,224) [C.d (D.int IntKind.i64 0),C.nil,C.nil,C.nil]).next.setBox (h1.ep,224) [v,ci,ct,cc]=HB at hsB b14 hepB;have hlC:∀ k ∈ ells cc ec,h.ep≤k.1∧k.1 < h1.ep:=fun k hk=>new1 k (List.mem_append_right _ (List.mem_append_right _ hk));have hlT:∀ k ∈ ells ct et,h.ep≤k.1∧k.1 < h1.ep:=fun k hk=>new1 k (List.mem_append_right _ (List.mem_append_left _ hk));have ndTC:=(List.nodup_append.1 nd1).2.1;have ndC:(ells cc ec).Nodup:=(List.nodup_append.1 ndTC).2.1;have ndT:(ells ct et).Nodup:=(List.nodup_append.1 ndTC).1;have hTC:∀ k ∈ ells ct et,k ∉ ells cc ec:=fun k hk h9=>(List.nodup_append.1 ndTC).2.2 k hk k h9 rfl;have B0:HB.box (0,80)=some (g_.enc.map C.d):=by rw[hsB.2 _ (by simp;omega) (by simp),hs1.2 _ (by simp;omega) (by simp)];exact b0
       have B1:HB.box (1,96)=some (t.enc.map C.d):=by rw[hsB.2 _ (by simp;omega) (by simp),hs1.2 _ (by simp;omega) (by simp)];exact b1
       have oCB:=oC.frame (fun k hk=>(hlC k hk).2) hsB;have oTB:=oT.frame (fun k hk=>(hlT k hk).2) hsB;have hecl:=oC.le;have hetl:=oT.le;clear b0 b1 oC oT hs1 hsB nd1 new1;refine Wait.for (xs:=ec) (s0:=()) (fun i _ e h'=>(e.n=123∧e.get 3=.one (.d (.str table))∧e.get 4=.one (.d (.sl (key.map GV.enc)))∧e.get 5=.one (.ptr (0,80) 0)∧e.get 6=.one (.ptr (1,96) 0)∧e.get 11=.one (.d (.sl (sn.map Rel.enc)))∧e.get 12=.one (.own tl (tb.map encS))∧e.get 13=.one (.d (.sl (own.map Chg.enc)))∧e.get 14=.one (.ptr (h1.ep,224) 0)) ∧
        e.get 58=.one cc∧e.get 59=.one (.d (.int .i64 (ec.length:Int)))∧e.get 60=.one (.d (.int .i64 (i:Int)))∧OwL h' ChS cc ec∧Same HB h' (ells cc ec)) (Zb0 ec 0) ⟨by simp[en,e3,e4,e5,e6,e11,e12,e13],by simp,by simp,by simp,oCB,.refl⟩ ?_ ?_
       ·rintro i _ e h' ⟨E,e58,e59,e60,o2,s2⟩ hi hm8;have hwi:IntKind.i64.wrap ((i:Int)+1)=(i:Int)+1:=IntWalk.i64_in _ (by omega);obtain⟨l1,cap1,sp1,hc1,hbx1,ht1,-,-⟩:=o2.block hi;obtain⟨va,vb,ky,rw_,d1,d2,ek,er,hy,hd1,hd2,oK,oR,hls⟩:=o2.chg hi;have hsub:∀ k ∈ ells rw_ er,k ∈ ells cc ec:=fun k hk=>(Zfs hi).mem (by rw[hls];exact List.mem_append_right _ hk);have hltC:∀ k ∈ ells cc ec,k.1 < h'.ep:=fun k hk=>by have:=hlC k hk;have:=s2.1;omega
        have hltR:∀ k ∈ ells rw_ er,k.1 < h'.ep:=fun k hk=>hltC k (hsub k hk);have hfl:ells rw_ er=labs rw_:=Zb8 oR.flat;rw[hy] at ht1;simp[ChS] at ht1;simp[E,e58,e59,e60,hi,hc1,hbx1,ht1];refine oR.lenK ?_;have herl:=oR.le;simp[E,e58,e59,e60];have hsC:Same h' ((h'.setBox (h'.ep,272) [C.d (D.int IntKind.i64 0),C.d (D.str ByteArray.empty),C.nil,C.nil]).next.setBox (h'.ep,272) [va,vb,ky,rw_]) []:=((Same.refl.setBox (.inr (Nat.le_refl _))).next).setBox (.inr (Nat.le_refl _));have b17:((h'.setBox (h'.ep,272) [C.d (D.int IntKind.i64 0),C.d (D.str ByteArray.empty),C.nil,C.nil]).next.setBox (h'.ep,272) [va,vb,ky,rw_]).box (h'.ep,272)=some [va,vb,ky,rw_]:=by simp
        have hepC:h'.ep < ((h'.setBox (h'.ep,272) [C.d (D.int IntKind.i64 0),C.d (D.str ByteArray.empty),C.nil,C.nil]).next.setBox (h'.ep,272) [va,vb,ky,rw_]).ep:=by simp
        generalize (h'.setBox (h'.ep,272) [C.d (D.int IntKind.i64 0),C.d (D.str ByteArray.empty),C.nil,C.nil]).next.setBox (h'.ep,272) [va,vb,ky,rw_]=HC at hsC b17 hepC;have oRC:=oR.frame hltR hsC;refine Wait.for (xs:=er) (s0:=()) (fun j _ e h''=>∃ er',(e.n=123∧e.get 3=.one (.d (.str table))∧e.get 4=.one (.d (.sl (key.map GV.enc)))∧e.get 5=.one (.ptr (0,80) 0)∧e.get 6=.one (.ptr (1,96) 0)∧e.get 11=.one (.d (.sl (sn.map Rel.enc)))∧e.get 12=.one (.own tl (tb.map encS))∧e.get 13=.one (.d (.sl (own.map Chg.enc)))∧e.get 14=.one (.ptr (h1.ep,224) 0)) ∧
         e.get 58=.one cc∧e.get 59=.one (.d (.int .i64 (ec.length:Int)))∧e.get 60=.one (.d (.int .i64 (i:Int)))∧e.get 17=.one (.ptr (h'.ep,272) 0)∧e.get 66=.one (.d (.int .i64 (er.length:Int)))∧e.get 67=.one (.d (.int .i64 (j:Int)))∧OwL h'' VSh rw_ er'∧er'.length=er.length∧Same HC h'' (labs rw_)) (Zb0 er 0) ⟨er,by simp[E],by simp[e58,hc1],by simp[e59],by simp[e60],by simp,by simp,by simp,oRC,rfl,.refl⟩ ?_ ?_
        ·rintro j _ e h'' ⟨er',E,e58,e59,e60,e17,e66,e67,o3,hn3,s3⟩ hj hm9;have hwj:IntKind.i64.wrap ((j:Int)+1)=(j:Int)+1:=IntWalk.i64_in _ (by omega);have hj':j < er'.length:=by omega
         obtain⟨l4,cap4,sp4,hc4,hb4,ht4',hcp4,hall4⟩:=o3.block hj';have b17':h''.box (h'.ep,272)=some [va,vb,ky,rw_]:=by
          rw[s3.2 _ (by simpa using hepC) fun h9=>by have:=hltR (h'.ep,272) (by rw[hfl];exact h9);simp at this];exact b17
         simp[E,e58,e59,e60,e17,e66,e67,hj,b17',hc4,hb4,hj',hwj];rw[hc4] at o3;refine⟨by
          have hq:=Z04 (sp:=sp4) hall4;simp at hq ⊢
          omega,BackF.of () ⟨⟨er'.set j ([C.d (D.int IntKind.i64 0),C.d (D.int IntKind.i64 0),C.d (D.str ByteArray.empty)],[]),by simp[E],by simp[e58],by simp[e59],by simp[e60],by simp[e17],by simp[e66],by simp,?_,by simpa using hn3,s3.setBox (.inl (by simp[hc4,labs]))⟩,hm9⟩⟩
         rw[hc4];exact o3.val hb4 hcp4 hj' (ds:=[.int .i64 0,.int .i64 0,.str _]) rfl rfl hall4 fun q hq=>by
          obtain⟨e9,h9,h8⟩:=List.mem_flatMap.1 hq;rw[o3.flat e9 h9] at h8;simp at h8
        ·rintro _ e h'' ⟨er',E,e58,e59,e60,e17,e66,e67,o3,hn3,s3⟩ hm9;simp[E,e58,e59,e60,e17,e66,e67,hwi];have sR:Same h' h'' (ells rw_ er):=by rw[hfl];exact (hsC.mono (by simp)).trans s3
         have hfl':ells rw_ er'=ells rw_ er:=by rw[hfl];exact Zb8 o3.flat
         exact BackF.of () ⟨⟨by simp[E],by simp[e58],by simp[e59],by simp,o2.stepC ndC hltC hi hy hd1 hd2 oK hls sR hfl' o3,s2.trans (sR.mono hsub)⟩,hm8⟩
       ·rintro _ e h' ⟨E,e58,e59,e60,o2,s2⟩ hm9;simp[E,e58,e59,e60];have b14':h'.box (h1.ep,224)=some [v,ci,ct,cc]:=by rw[s2.2 _ hepB fun h9=>by have:=hlC _ h9;simp at this];exact b14
        have B0':h'.box (0,80)=some (g_.enc.map C.d):=by rw[s2.2 _ (by simp;omega) fun h9=>by have:=hlC _ h9;simp at this;omega];exact B0
        have B1':h'.box (1,96)=some (t.enc.map C.d):=by rw[s2.2 _ (by simp;omega) fun h9=>by have:=hlC _ h9;simp at this;omega];exact B1
        have oT2:=oTB.frameX (fun k hk=>by have:=hlT k hk;omega) s2 hTC;have hep2:=s2.1;clear o2 s2 oCB oTB B0 B1 b14 hTC ndTC ndC hlC hecl;have hflT:ells ct et=labs ct:=Zb8 oT2.flat1;simp[E,e58,e59,e60,b14'];refine oT2.lenK ?_;simp[E];refine Wait.for (xs:=et) (s0:=()) (fun i _ e h''=>∃ et',(e.n=123∧e.get 3=.one (.d (.str table))∧e.get 4=.one (.d (.sl (key.map GV.enc)))∧e.get 5=.one (.ptr (0,80) 0)∧e.get 6=.one (.ptr (1,96) 0)∧e.get 11=.one (.d (.sl (sn.map Rel.enc)))∧e.get 12=.one (.own tl (tb.map encS))∧e.get 13=.one (.d (.sl (own.map Chg.enc)))∧e.get 14=.one (.ptr (h1.ep,224) 0)) ∧
         e.get 79=.one (.d (.int .i64 (et.length:Int)))∧e.get 80=.one (.d (.int .i64 (i:Int)))∧OwL h'' [.d] ct et'∧et'.length=et.length∧Same h' h'' (labs ct)) (Zb0 et 0) ⟨et,by simp[E],by simp,by simp,oT2,rfl,.refl⟩ ?_ ?_
        ·rintro i _ e h'' ⟨et',E,e79,e80,o3,hn3,s3⟩ hi hm9;have hwi:IntKind.i64.wrap ((i:Int)+1)=(i:Int)+1:=IntWalk.i64_in _ (by omega);have hi':i < et'.length:=by omega
         obtain⟨l4,cap4,sp4,hc4,hb4,ht4',hcp4,hall4⟩:=o3.block hi';have b14'':h''.box (h1.ep,224)=some [v,ci,ct,cc]:=by
          rw[s3.2 _ (by simp;omega) fun h9=>by have:=hlT _ (by rw[hflT];exact h9);simp at this];exact b14'
         simp[E,e79,e80,hi,b14'',hc4,hb4,hi',hwi];rw[hc4] at o3;refine⟨by
          have hq:=Z04 (sp:=sp4) hall4;simp at hq ⊢
          omega,BackF.of () ⟨⟨et'.set i ([C.d (D.str ByteArray.empty)],[]),by simp[E],by simp[e79],by simp,?_,by simpa using hn3,s3.setBox (.inl (by simp[hc4,labs]))⟩,hm9⟩⟩
         rw[hc4];exact o3.val1 hb4 hcp4 hi' hall4 fun q hq=>by
          obtain⟨e9,h9,h8⟩:=List.mem_flatMap.1 hq;rw[o3.flat1 e9 h9] at h8;simp at h8
        ·rintro _ e h'' ⟨et',E,e79,e80,o3,hn3,s3⟩ hm9;have hep3:=s3.1;have B0'':h''.box (0,80)=some (g_.enc.map C.d):=by rw[s3.2 _ (by simp;omega) fun h9=>by have:=hlT _ (by rw[hflT];exact h9);simp at this;omega];exact B0'
         have B1'':h''.box (1,96)=some (t.enc.map C.d):=by rw[s3.2 _ (by simp;omega) fun h9=>by have:=hlT _ (by rw[hflT];exact h9);simp at this;omega];exact B1'
         clear o3 s3 oT2 B0' B1' b14';simp[E,e79,e80,B0'',B1'',ht4];refine Z02 (Zci h'' g_ t table key l hl _ fun c cs2 l1 ls2 h3 o4 hb4=>?_);obtain⟨c',cs',la,lb,hcc,hll,oc,_⟩:=o4.ow.split;simp only[List.cons.injEq] at hcc;obtain⟨rfl,rfl⟩:=hcc;obtain⟨ek,oK,rfl⟩:=OwL.of oc;have hlK:∀ k ∈ ells c ek,h''.ep≤k.1∧k.1 < h3.ep:=fun k hk=>o4.new k (by rw[hll];exact List.mem_append_left _ hk);have hs4:=o4.same;have hep4:=hs4.1;have C1:h3.box (1,96)=some (t.enc.map C.d):=by rw[hs4.2 _ (by simp;omega) (by simp)];exact B1''
         have hcl4:cs2.length=4:=by have:=o4.ow.len.1;simpa using this
         have h5:∀ a b c d:C,Z03 [a,b,c,d] 0 cs2=cs2:=fun a b c d=>by simp[Z03,hcl4]
         clear hb4 oc hll o4 B0'' B1'';have hflK:ells c ek=labs c:=Zb8 oK.flat;simp[E,hcl4,h5];refine oK.lenK ?_;have hekl:=oK.le;simp[E,h5];have hsD:Same h3 ((h3.setBox (h3.ep,336) [C.d (D.int IntKind.i64 0),C.nil,C.nil,C.nil]).next.setBox (h3.ep,336) cs2) []:=((Same.refl.setBox (.inr (Nat.le_refl _))).next).setBox (.inr (Nat.le_refl _));have hepD:h3.ep≤((h3.setBox (h3.ep,336) [C.d (D.int IntKind.i64 0),C.nil,C.nil,C.nil]).next.setBox (h3.ep,336) cs2).ep:=by simp
         generalize (h3.setBox (h3.ep,336) [C.d (D.int IntKind.i64 0),C.nil,C.nil,C.nil]).next.setBox (h3.ep,336) cs2=HD at hsD hepD;have oKD:=oK.frame (fun k hk=>(hlK k hk).2) hsD;refine Wait.for (xs:=ek) (s0:=()) (fun i _ e h4=>∃ ek',(e.n=123∧e.get 6=.one (.ptr (1,96) 0)∧e.get 11=.one (.d (.sl (sn.map Rel.enc)))∧e.get 12=.one (.own tl (tb.map encS))∧e.get 13=.one (.d (.sl (own.map Chg.enc)))) ∧
          e.get 20=.one c∧e.get 98=.one (.d (.int .i64 (ek.length:Int)))∧e.get 99=.one (.d (.int .i64 (i:Int)))∧OwL h4 VSh c ek'∧ek'.length=ek.length∧Same HD h4 (labs c)) (Zb0 ek 0) ⟨ek,by simp[E],by simp,by simp,by simp,oKD,rfl,.refl⟩ ?_ ?_
         ·rintro i _ e h4 ⟨ek',E,e20,e98,e99,o5,hn5,s5⟩ hi hm8;have hwi:IntKind.i64.wrap ((i:Int)+1)=(i:Int)+1:=IntWalk.i64_in _ (by omega);have hi':i < ek'.length:=by omega
          obtain⟨l4,cap4,sp4,hc4,hb4,ht4',hcp4,hall4⟩:=o5.block hi';simp[E,e20,e98,e99,hi,hc4,hb4,hi',hwi];rw[hc4] at o5;refine⟨by
           have hq:=Z04 (sp:=sp4) hall4;simp at hq ⊢
           omega,BackF.of () ⟨⟨ek'.set i ([C.d (D.int IntKind.i64 0),C.d (D.int IntKind.i64 0),C.d (D.str ByteArray.empty)],[]),by simp[E],by simp[e20,hc4],by simp[e98],by simp,?_,by simpa using hn5,s5.setBox (.inl (by simp[hc4,labs]))⟩,hm8⟩⟩
          rw[hc4];exact o5.val hb4 hcp4 hi' (ds:=[.int .i64 0,.int .i64 0,.str _]) rfl rfl hall4 fun q hq=>by
           obtain⟨e9,h9,h8⟩:=List.mem_flatMap.1 hq;rw[o5.flat e9 h9] at h8;simp at h8
         ·rintro _ e h4 ⟨ek',E,e20,e98,e99,o5,hn5,s5⟩ hm8;have D1:h4.box (1,96)=some (t.enc.map C.d):=by rw[s5.2 _ (by simp;omega) fun h9=>by have:=hlK _ (by rw[hflK];exact h9);simp at this;omega,hsD.2 _ (by simp;omega) (by simp)];exact C1
          obtain⟨a,ha,hm⟩:=hm.bind;simp[E,e20,e98,e99,D1];refine Z09 ((c_stemref1_EqualInstance t.snapshot sn).h a ha) (by simp) ?_;simp[E,D1];cases a with
          | false=>
            obtain rfl:=r_ret hm;simp[E,retH,resVs,resV,notTup];exact .data rfl
          | true=>
            obtain⟨b2,hb2,hm⟩:=hm.bind;simp[E,D1];refine Z09 ((c_slices_Equal_String t.tables tb).h b2 hb2) (by simp[toAs]) ?_;simp[E,D1];cases b2 with
            | false=>
              obtain rfl:=r_ret hm;simp[E,retH,resVs,resV,notTup];exact .data rfl
            | true=>
              simp[E,D1];refine Z09 (Z8k t.changes own r hm) (by simp) ?_;simp[E,D1,retH,resVs,resV,notTup];exact .data rfl
end
end Go.Proofs.YthiojhcimecdgaaGreatDoor
section
namespace Go.Am
open Go
section
variable {ρ α β σ:Type} {Q:ρ→Prop}
def Wp (m:Option ρ) (Q:ρ→Prop):Prop:=∃ r,m=some r∧Q r
theorem Wp.mono {m:Option ρ} {Q Q':ρ→Prop} (h:Wp m Q) (hq:∀ r,m=some r→Q r→Q' r):Wp m Q':=by
 obtain⟨r,h1,h2⟩:=h;exact⟨r,h1,hq r h1 h2⟩
theorem Wp.ret {r:ρ} (h:Q r):Wp (some r) Q:=⟨r,rfl,h⟩
theorem Wp.bind {m:Option α} {K:α→Option ρ} {R:α→Prop} (h:Wp m R) (hk:∀ x,m=some x→R x→Wp (K x) Q):Wp (bindK m K) Q:=by
 obtain⟨x,h1,h2⟩:=h;unfold bindK;subst h1;exact hk x rfl h2
theorem Wp.cond {b:Bool} {A B:Option ρ} (h1:b=true→Wp A Q) (h2:b=false→Wp B Q):Wp (cond b A B) Q:=by
 cases b
 ·exact h2 rfl
 ·exact h1 rfl
theorem Wp.ite {b:Prop} [Decidable b] {A B:Option ρ} (h1:b→Wp A Q) (h2:¬ b→Wp B Q):Wp (if b then A else B) Q:=by
 by_cases hb:b
 ·rw[if_pos hb];exact h1 hb
 ·rw[if_neg hb];exact h2 hb
theorem Wp.chk {b:Prop} [Decidable b] {m:Option ρ} (hb:b) (h:Wp m Q):Wp (chkK b m) Q:=by
 unfold chkK;rw[if_pos hb];exact h
theorem Wp.get {xs:List α} {i:Int} {K:α→Option ρ} (h0:0≤i) (h1:i < xs.length) (hk:∀ x,xs[i.toNat]?=some x→x ∈ xs→Wp (K x) Q):Wp (getK xs i K) Q:=by
 have hl:i.toNat < xs.length:=by omega
 unfold getK;rw[if_pos h0,List.getElem?_eq_getElem hl];exact hk _ (List.getElem?_eq_getElem hl) (List.getElem_mem hl)
theorem Wp.getN {xs:List α} {i:Nat} {x:α} {K:α→Option ρ} (hx:xs[i]?=some x) (hk:Wp (K x) Q):Wp (getK xs (i:Int) K) Q:=by
 unfold getK;rw[if_pos (by omega),show (i:Int).toNat=i by omega,hx];exact hk
theorem Wp.app {xs ys:List α} {K:List α→Option ρ} (h:xs.length+ys.length≤LIM) (hk:Wp (K (xs++ys)) Q):Wp (appK2 xs ys K) Q:=Wp.chk h hk
theorem Wp.for_at {body:Nat→α→σ→(σ→Option ρ)→Option ρ} {k:σ→Option ρ} (ys:List α) (I:Nat→σ→Prop)
  (step:∀ i x s next,ys[i]?=some x→x ∈ ys→I i s→(∀ s',I (i+1) s'→Wp (next s') Q)→Wp (body i x s next) Q) (fin:∀ s,I ys.length s→Wp (k s) Q) :
  ∀ (n i:Nat) (s:σ),i+n=ys.length→I i s→Wp (forK body k (ys.drop i) i s) Q
 | 0,i,s,hn,h0=>by
   have hi:i=ys.length:=by omega
   subst hi;rw[List.drop_length];exact fin s h0
 | n+1,i,s,hn,h0=>by
   have hi:i < ys.length:=by omega
   rw[List.drop_eq_getElem_cons hi];exact step i _ s _ (List.getElem?_eq_getElem hi) (List.getElem_mem hi) h0 fun s' hs'=>Wp.for_at ys I step fin n (i+1) s' (by omega) hs'
theorem Wp.for {body:Nat→α→σ→(σ→Option ρ)→Option ρ} {k:σ→Option ρ} {xs:List α} {s0:σ} (I:Nat→σ→Prop) (h0:I 0 s0)
  (step:∀ i x s next,xs[i]?=some x→x ∈ xs→I i s→(∀ s',I (i+1) s'→Wp (next s') Q)→Wp (body i x s next) Q) (fin:∀ s,I xs.length s→Wp (k s) Q):Wp (forK body k xs 0 s0) Q:=by
 have:=Wp.for_at xs I step fin xs.length 0 s0 (by omega) h0
 rwa [List.drop_zero] at this
theorem Wp.count_at {body:Nat→σ→(σ→Option ρ)→Option ρ} {k:σ→Option ρ} (N:Nat) (I:Nat→σ→Prop)
  (step:∀ i s next,i < N→I i s→(∀ s',I (i+1) s'→Wp (next s') Q)→Wp (body i s next) Q) (fin:∀ s,I N s→Wp (k s) Q) :
  ∀ (n i:Nat) (s:σ),i+n=N→I i s→Wp (countK body k n i s) Q
 | 0,i,s,hn,h0=>by
   have hi:i=N:=by omega
   subst hi;exact fin s h0
 | n+1,i,s,hn,h0=>step i s _ (by omega) h0 fun s' hs'=>Wp.count_at N I step fin n (i+1) s' (by omega) hs'
theorem Wp.count {body:Nat→σ→(σ→Option ρ)→Option ρ} {k:σ→Option ρ} {N:Nat} {s0:σ} (I:Nat→σ→Prop) (h0:I 0 s0)
  (step:∀ i s next,i < N→I i s→(∀ s',I (i+1) s'→Wp (next s') Q)→Wp (body i s next) Q) (fin:∀ s,I N s→Wp (k s) Q):Wp (countK body k N 0 s0) Q:=
 Wp.count_at N I step fin N 0 s0 (by omega) h0
theorem Wp.while {body:σ→(σ→Option ρ)→Option ρ} (I:σ→Prop) (μ:σ→Nat)
  (step:∀ s next,I s→(∀ s',I s'→μ s' < μ s→Wp (next s') Q)→Wp (body s next) Q):∀ (n:Nat) (s:σ),I s→μ s < n→Wp (whileK body n s) Q
 | 0,s,_,h=>by omega
 | n+1,s,hs,h=>step s _ hs fun s' hs' hlt=>Wp.while I μ step n s' hs' (by omega)
def Zi5 (xs:List α) (f:α→Option Bool) (k:Int):Prop:=(k=-1∧∀ x ∈ xs,f x=some false)∨∃ (i:Nat) (x:α),k=i∧xs[i]?=some x∧f x=some true
theorem Zi5.lt {xs:List α} {f:α→Option Bool} {k:Int} (h:Zi5 xs f k):-1≤k∧k < xs.length:=by
 rcases h with ⟨rfl,_⟩ | ⟨i,x,rfl,hx,_⟩
 ·omega
 ·have:=(List.getElem?_eq_some_iff.1 hx).1
  omega
theorem Wp.index {xs:List α} {f:α→Option Bool} (hf:∀ x ∈ xs,Wp (f x) fun _=>True) :
  Wp (forK (fun (i:Nat) (x:α) (s:Unit) next=>bindK (f x) fun v=>bif v then some (i:Int) else next ()) (fun _=>some (-1)) xs 0 ()) (Zi5 xs f):=by
 refine Wp.for (fun i _=>∀ (j:Nat) (x:α),j < i→xs[j]?=some x→f x=some false) (by intro j x h;omega) ?_ ?_
 ·intro i x s next hx hm hI hn;refine Wp.bind (hf x hm) fun b hb _=>Wp.cond ?_ ?_
  ·rintro rfl;exact Wp.ret (.inr ⟨i,x,rfl,hx,hb⟩)
  ·rintro rfl;refine hn () fun j y hj hy=>?_;rcases Nat.lt_or_ge j i with h1 | h1
   ·exact hI j y h1 hy
   ·obtain rfl:j=i:=by omega
    rw[hx] at hy;cases hy;exact hb
 ·intro s hI;refine Wp.ret (.inl ⟨rfl,fun x hx=>?_⟩);obtain⟨j,hj,rfl⟩:=List.getElem_of_mem hx;exact hI j _ hj (List.getElem?_eq_getElem hj)
end
end Go.Am
end
namespace Go.Proofs.YthiojhcimecdgaaGreatDoor
section
open Go Go.Am
theorem Z7f (t:Tbl) (nm:ByteArray):Wp (Z08 t nm) fun v=>0≤v.1∧(v.2=true→v.1 < t.cols.length)∧(v.2=false→v.1=0):=by
 unfold Z08;refine Wp.bind (Wp.index fun x _=>Wp.ret trivial) fun k _ hk=>Wp.ret ?_
 have:=hk.lt
 refine⟨?_,fun h=>?_,fun h=>?_⟩<;>simp at *<;>first | omega | (split<;>omega)
theorem Z2u (S:Sch) (nm:ByteArray):Wp (Z05 S nm) fun v=>0≤v.1∧(v.2=true→v.1 < S.tables.length∧∃ T,S.tables[v.1.toNat]?=some T∧strEq T.name nm=true)∧(v.2=false→∀ T ∈ S.tables,strEq T.name nm=false):=by
 unfold Z05;refine Wp.bind (Wp.index fun x _=>Wp.ret trivial) fun k _ hk=>Wp.ret ?_;have hl:=hk.lt;rcases hk with ⟨rfl,h⟩ | ⟨i,x,rfl,hx,h⟩
 ·refine⟨by simp,fun h=>by simp at h,fun _ T hT=>?_⟩
  have:=h T hT
  simpa[Z27] using this
 ·have h1:¬ ((i:Int) < 0):=by omega
  refine⟨by simp[h1],fun _=>⟨by simp[h1];omega,x,by simp[h1,hx],?_⟩,fun h=>by simp at h⟩;simpa[Z27] using h
structure VT (T:Tbl):Prop where
 cols0:0 < T.cols.length
 cols6:T.cols.length≤6
 pk0:0 < T.pk.length
 pk:∀ v ∈ T.pk,0≤v∧v < T.cols.length
 asc:∀ (i:Nat) (a b:Int),T.pk[i]?=some a→T.pk[i+1]?=some b→a < b
 name:Z4c T.name=true
theorem Zd3 (s:ByteArray):Wp (Z3l s) fun b=>b=Z4c s:=Wp.ret rfl
theorem Zd2 (T:Tbl):Wp (Z2c T) fun e=>e=0→VT T:=by
 unfold Z2c;refine Wp.bind (Zd3 _) fun v _ hv=>Wp.cond (fun _=>Wp.ret (by simp)) fun hv1=>?_;refine Wp.cond (fun _=>Wp.ret (by simp)) fun h1=>Wp.cond (fun _=>Wp.ret (by simp)) fun h2=>?_;have hc0:0 < T.cols.length:=by simp at h1;exact List.length_pos_iff.2 h1
 have hc6:T.cols.length≤6:=by simp at h2;omega
 refine Wp.for (fun _ _=>True) trivial ?_ ?_
 ·intro i x s next hx hm _ hn;refine Wp.bind (Zd3 _) fun v _ _=>Wp.cond (fun _=>Wp.ret (by simp)) fun _=>?_;refine Wp.bind (Z7f _ _) fun v _ _=>Wp.cond (fun _=>Wp.ret (by simp)) fun _=>Wp.cond (fun _=>Wp.ret (by simp)) fun _=>Wp.cond (fun _=>Wp.ret (by simp)) fun _=>hn () trivial
 ·intro s _;refine Wp.for (fun i _=>(∀ (j:Nat) (v:Int),j < i→T.pk[j]?=some v→0≤v∧v < T.cols.length)∧(∀ (j:Nat) (a b:Int),j+1 < i→T.pk[j]?=some a→T.pk[j+1]?=some b→a < b)∧∀ (j:Nat) (v:Int),j < i→T.pk[j]?=some v→(j:Int)≤v) ⟨by intro j v h;omega,by intro j a b h;omega,by intro j v h;omega⟩ ?_ ?_
  ·rintro i x s next hx hm ⟨hI,hJ,hK⟩ hn;refine Wp.cond (fun _=>Wp.ret (by simp)) fun h3=>Wp.cond (fun _=>Wp.ret (by simp)) fun h4=>?_;have h0:0≤x:=by simpa using h3
   have h5:x < T.cols.length:=by simpa using h4
   have hI':∀ (j:Nat) (v:Int),j < i+1→T.pk[j]?=some v→0≤v∧v < T.cols.length:=by
    intro j v hj hv;rcases Nat.lt_or_ge j i with h | h
    ·exact hI j v h hv
    ·obtain rfl:j=i:=by omega
     rw[hx] at hv;cases hv;exact⟨h0,h5⟩
   have hil:=(List.getElem?_eq_some_iff.1 hx).1;refine Wp.get h0 h5 fun c _ _=>Wp.cond (fun _=>Wp.ret (by simp)) fun _=>Wp.cond (fun h6=>?_) fun h6=>hn () ⟨hI',?_,?_⟩
   ·have hi:0 < i:=by simpa using h6
    have hil1:i - 1 < T.pk.length:=by omega
    have hb1:=hI (i - 1) _ (by omega) (List.getElem?_eq_getElem hil1);have hb2:=hK (i - 1) _ (by omega) (List.getElem?_eq_getElem hil1);refine Wp.chk ⟨by omega,by have:=hc6;omega⟩ ?_;refine Wp.get (by omega) (by omega) fun y hy _=>Wp.cond (fun _=>Wp.ret (by simp)) fun h7=>?_;have hyx:y < x:=by simpa using h7
    have hy1:T.pk[i - 1]?=some y:=by rw[← hy];congr 1;omega
    refine hn () ⟨hI',?_,?_⟩
    ·intro j a b hj ha hb;rcases Nat.lt_or_ge (j+1) i with h | h
     ·exact hJ j a b h ha hb
     ·obtain rfl:i=j+1:=by omega
      rw[hx] at hb;cases hb;rw[show j+1 - 1=j by omega,ha] at hy1;cases hy1;exact hyx
    ·intro j v hj hv;rcases Nat.lt_or_ge j i with h | h
     ·exact hK j v h hv
     ·obtain rfl:j=i:=by omega
      rw[hx] at hv;cases hv
      have:=hK (j - 1) y (by omega) hy1
      omega
   ·intro j a b hj
    have:i=0:=by simpa using h6
    omega
   ·intro j v hj hv;have hi0:i=0:=by simpa using h6
    obtain rfl:j=0:=by omega
    subst hi0;rw[hx] at hv;cases hv;omega
  ·rintro s ⟨hI,hJ,_⟩;refine Wp.cond (fun _=>Wp.ret (by simp)) fun h3=>Wp.ret fun _=>?_;have hp:0 < T.pk.length:=by simp at h3;exact List.length_pos_iff.2 h3
   refine⟨hc0,hc6,hp,fun v hv=>?_,fun i a b ha hb=>hJ i a b (List.getElem?_eq_some_iff.1 hb).1 ha hb,by rw[← hv];simpa using hv1⟩;obtain⟨j,hj,rfl⟩:=List.getElem_of_mem hv;exact hI j _ hj (List.getElem?_eq_getElem hj)
theorem Z73 (a b:List Int):Wp (Z14 a b) fun r=>r=true→a=b:=by
 unfold Z14;refine Wp.cond (fun _=>Wp.ret (by simp)) fun h=>?_;have hl:a.length=b.length:=by simp at h;omega
 refine Wp.for (fun i _=>∀ j,j < i→a[j]?=b[j]?) (by intro j h;omega) ?_ ?_
 ·intro i x s next hx hm hI hn;have hi:=(List.getElem?_eq_some_iff.1 hx).1;refine Wp.get (by omega) (by omega) fun y hy _=>Wp.cond (fun _=>Wp.ret (by simp)) fun h2=>hn () fun j hj=>?_;rcases Nat.lt_or_ge j i with h3 | h3
  ·exact hI j h3
  ·obtain rfl:j=i:=by omega
   rw[hx,show (some x:Option Int)=some y by simp at h2;rw[h2],← hy]
   congr 1
 ·intro s hI;refine Wp.ret fun _=>List.ext_getElem? fun j=>?_;rcases Nat.lt_or_ge j a.length with h3 | h3
  ·exact hI j h3
  ·rw[List.getElem?_eq_none h3,List.getElem?_eq_none (by omega)]
theorem Z4p (a b:Fk):Wp (Z0a a b) fun _=>True:=by
 unfold Z0a;exact Wp.cond (fun _=>Wp.bind (Z73 _ _) fun _ _ _=>Wp.cond (fun _=>Wp.ret trivial) fun _=>Wp.ret trivial) fun _=>Wp.ret trivial
theorem Z3y (xs:List Fk) (f:Fk→Option Bool) (hf:∀ x ∈ xs,Wp (f x) fun _=>True):Wp (Z07 xs f) fun _=>True:=by
 unfold Z07 Z0c;exact Wp.bind (Wp.index hf) fun _ _ _=>Wp.ret trivial
theorem Zl5 (a b:GV):Wp (Z1m a b) fun _=>True:=by
 unfold Z1m Z18 Z36
 repeat' first | exact Wp.ret trivial | refine Wp.bind (R:=fun _=>True) ?_ fun _ _ _=>?_ | refine Wp.cond (fun _=>?_) fun _=>?_
theorem Zd4 (a:GV) (op:ByteArray) (b:GV):Wp (Z1c a op b) fun _=>True:=by
 unfold Z1c
 repeat' first | exact Wp.ret trivial | refine Wp.bind (Zl5 _ _) fun _ _ _=>?_ | refine Wp.cond (fun _=>?_) fun _=>?_
theorem Z4b (a:GV):Wp (Z0g a) fun _=>True:=by
 unfold Z0g
 repeat' first | exact Wp.ret trivial | refine Wp.cond (fun _=>?_) fun _=>?_
def VF (f:Fk):Prop:=f.cols.length≤6∧∀ v ∈ f.cols,0≤v∧v < 6
def VO (c:Cons):Prop:=(0≤c.left∧c.left < 6)∧-1≤c.right∧c.right < 6
theorem VT.pk6 {T:Tbl} (h:VT T):T.pk.length≤6:=by
 have:∀ (n:Nat) (v:Int),T.pk[n]?=some v→(n:Int)≤v:=by
  intro n
  induction n with
  | zero=>intro v hv;have:=(h.pk v (List.mem_of_getElem? hv)).1;omega
  | succ n ih=>
    intro v hv;have hn:=(List.getElem?_eq_some_iff.1 hv).1;have h1:=ih _ (List.getElem?_eq_getElem (by omega));have h2:=h.asc n _ v (List.getElem?_eq_getElem (by omega)) hv;omega
 have hp:=h.pk0;have h1:=this (T.pk.length - 1) _ (List.getElem?_eq_getElem (by omega));have h2:=(h.pk _ (List.getElem_mem (show T.pk.length - 1 < T.pk.length by omega))).2;have h3:=h.cols6;omega
theorem Z9s (S:Sch) (hT:∀ T ∈ S.tables,VT T) (f:Fk):Wp (Z0q S f) fun e=>e=0→VF f:=by
 unfold Z0q;refine Wp.bind (Z2u S f.table) fun v _ hv=>Wp.bind (Z2u S f.ref) fun w _ hw=>Wp.cond (fun _=>Wp.ret (by simp)) fun h1=>Wp.cond (fun _=>Wp.ret (by simp)) fun h2=>?_;have h1':v.2=true:=by simpa using h1
 have h2':w.2=true:=by simpa using h2
 refine Wp.get hv.1 (hv.2.1 h1').1 fun T hTx hTm=>Wp.get hw.1 (hw.2.1 h2').1 fun R hRx hRm=>Wp.cond (fun _=>Wp.ret (by simp)) fun h3=>?_;have VTT:=hT T hTm;have VTR:=hT R hRm;have hl:f.cols.length=R.pk.length:=by simp at h3;omega
 refine Wp.for (fun i _=>∀ (j:Nat) (v:Int),j < i→f.cols[j]?=some v→0≤v∧v < 6) (by intro j v h;omega) ?_ ?_
 ·intro i x s next hx hm hI hn;have hi:=(List.getElem?_eq_some_iff.1 hx).1;refine Wp.cond (fun _=>Wp.ret (by simp)) fun h4=>Wp.cond (fun _=>Wp.ret (by simp)) fun h5=>?_;have hx0:0≤x:=by simpa using h4
  have hx1:x < T.cols.length:=by simpa using h5
  refine Wp.get hx0 hx1 fun a _ _=>Wp.get (by omega) (by omega) fun p _ hp=>Wp.get (VTR.pk p hp).1 (VTR.pk p hp).2 fun b _ _=>Wp.cond (fun _=>Wp.ret (by simp)) fun _=>hn () fun j v hj hv'=>?_;rcases Nat.lt_or_ge j i with h6 | h6
  ·exact hI j v h6 hv'
  ·obtain rfl:j=i:=by omega
   rw[hx] at hv';cases hv'
   have:=VTT.cols6
   omega
 ·intro s hI;refine Wp.ret fun _=>⟨by rw[hl];exact VTR.pk6,fun v hv'=>?_⟩;obtain⟨j,hj,rfl⟩:=List.getElem_of_mem hv';exact hI j _ hj (List.getElem?_eq_getElem hj)
theorem Z9t (S:Sch) (hT:∀ T ∈ S.tables,VT T) (c:Cons):Wp (Z19 S c) fun e=>e=0→VO c:=by
 unfold Z19;refine Wp.bind (Z2u S c.table) fun v _ hv=>Wp.cond (fun _=>Wp.ret (by simp)) fun h1=>?_;have h1':v.2=true:=by simpa using h1
 refine Wp.get hv.1 (hv.2.1 h1').1 fun T hTx hTm=>Wp.bind (Zd4 _ _ _) fun q _ _=>?_;have VTT:=hT T hTm;have h6:=VTT.cols6;refine Wp.cond (fun _=>Wp.ret (by simp)) fun h2=>Wp.cond (fun _=>Wp.ret (by simp)) fun h3=>Wp.cond (fun _=>Wp.ret (by simp)) fun _=>Wp.cond (fun _=>Wp.ret (by simp)) fun h4=>Wp.cond (fun _=>Wp.ret (by simp)) fun h5=>?_;have a2:0≤c.left:=by simpa using h2
 have a3:c.left < T.cols.length:=by simpa using h3
 have a4:-1≤c.right:=by simpa using h4
 have a5:c.right < T.cols.length:=by simpa using h5
 have hv0:VO c:=⟨⟨a2,by omega⟩,a4,by omega⟩;refine Wp.cond (fun h7=>?_) fun _=>?_
 ·have a7:0≤c.right:=by simpa using h7
  exact Wp.cond (fun _=>Wp.ret (by simp)) fun _=>Wp.get a2 a3 fun _ _ _=>Wp.get a7 a5 fun _ _ _=>Wp.cond (fun _=>Wp.ret (by simp)) fun _=>Wp.ret fun _=>hv0
 ·exact Wp.get a2 a3 fun _ _ _=>Wp.cond (fun _=>Wp.ret (by simp)) fun _=>Wp.bind (Z4b _) fun _ _ _=>Wp.ret fun _=>hv0
theorem Zd7 (xs:List Cons) (c:Cons):Wp (Z15 xs c) fun _=>True:=by
 unfold Z15 Z11;refine Wp.bind (R:=fun _=>True) (Wp.for (fun _ _=>True) trivial (fun i x s next _ _ _ hn=>Wp.cond (fun _=>Wp.ret trivial) fun _=>hn () trivial) fun _ _=>Wp.ret trivial) fun _ _ _=>Wp.ret trivial
structure VS0 (S:Sch):Prop where
 t6:S.tables.length≤6
 f8:S.fks.length≤8
 o8:S.cons.length≤8
 tab:∀ T ∈ S.tables,VT T
 fk:∀ f ∈ S.fks,VF f
 con:∀ c ∈ S.cons,VO c
theorem Z6v {α:Type} {xs:List α} {p:α→Prop} (h:∀ (j:Nat) (x:α),j < xs.length→xs[j]?=some x→p x):∀ x ∈ xs,p x:=by
 intro x hx;obtain⟨j,hj,rfl⟩:=List.getElem_of_mem hx;exact h j _ hj (List.getElem?_eq_getElem hj)
theorem Z4d {α:Type} {xs:List α} {p:α→Prop} {i:Nat} {x:α} (h:∀ (j:Nat) (y:α),j < i→xs[j]?=some y→p y) (hx:xs[i]?=some x) (hp:p x):∀ (j:Nat) (y:α),j < i+1→xs[j]?=some y→p y:=by
 intro j y hj hy;rcases Nat.lt_or_ge j i with h1 | h1
 ·exact h j y h1 hy
 ·obtain rfl:j=i:=by omega
  rw[hx] at hy;cases hy;exact hp
theorem Zas (S:Sch):Wp (Z0r S) fun e=>e=0→VS0 S:=by
 unfold Z0r;refine Wp.cond (fun _=>Wp.ret (by simp)) fun h1=>Wp.cond (fun _=>Wp.ret (by simp)) fun h2=>Wp.cond (fun _=>Wp.ret (by simp)) fun h3=>?_;have a1:S.tables.length≤6:=by simp at h1;omega
 have a2:S.fks.length≤8:=by simp at h2;omega
 have a3:S.cons.length≤8:=by simp at h3;omega
 refine Wp.for (fun i _=>∀ (j:Nat) (T:Tbl),j < i→S.tables[j]?=some T→VT T) (by intro j T h;omega) ?_ ?_
 ·intro i T s next hx hm hI hn;have hi:=(List.getElem?_eq_some_iff.1 hx).1;refine Wp.bind (Zd2 T) fun e _ he=>Wp.cond (fun h=>Wp.ret (by intro h0;simp[h0] at h)) fun h4=>?_;have hT:VT T:=he (by simpa using h4);refine Wp.cond (fun h5=>?_) fun _=>hn () (Z4d hI hx hT);have h5':0 < i:=by simpa using h5
  exact Wp.chk ⟨by omega,by omega⟩ (Wp.get (by omega) (by omega) fun _ _ _=>Wp.cond (fun _=>Wp.ret (by simp)) fun _=>hn () (Z4d hI hx hT))
 intro s hI;have hT:=Z6v hI;refine Wp.for (fun i _=>∀ (j:Nat) (f:Fk),j < i→S.fks[j]?=some f→VF f) (by intro j T h;omega) ?_ ?_
 ·intro i f s next hx hm hI hn;have hi:=(List.getElem?_eq_some_iff.1 hx).1;refine Wp.bind (Z9s S hT f) fun e _ he=>Wp.cond (fun h=>Wp.ret (by intro h0;simp[h0] at h)) fun h4=>?_;refine Wp.chk ⟨by omega,by omega,by omega⟩ (Wp.bind (Z3y _ _ fun x _=>?_) fun _ _ _=>Wp.cond (fun _=>Wp.ret (by simp)) fun _=>hn () (Z4d hI hx (he (by simpa using h4))));unfold Z3a;exact Wp.bind (Z4p _ _) fun _ _ _=>Wp.ret trivial
 intro s hF;refine Wp.for (fun i _=>∀ (j:Nat) (f:Cons),j < i→S.cons[j]?=some f→VO f) (by intro j T h;omega) ?_ ?_
 ·intro i f s next hx hm hI hn;have hi:=(List.getElem?_eq_some_iff.1 hx).1;refine Wp.bind (Z9t S hT f) fun e _ he=>Wp.cond (fun h=>Wp.ret (by intro h0;simp[h0] at h)) fun h4=>?_;exact Wp.chk ⟨by omega,by omega,by omega⟩ (Wp.bind (Zd7 _ _) fun _ _ _=>Wp.cond (fun _=>Wp.ret (by simp)) fun _=>hn () (Z4d hI hx (he (by simpa using h4))))
 intro s hO;exact Wp.ret fun _=>⟨a1,a2,a3,hT,Z6v hF,Z6v hO⟩
structure VS (S:Sch):Prop extends VS0 S where
 ok:Z0r S=some 0
theorem Z4z (S:Sch):Wp (Z0r S) fun e=>e=0→VS S:=
 (Zas S).mono fun r hr h h0=>{ h h0 with ok:=by rw[hr,h0] }
theorem Zl4 {α β:Type} {xs:List α} {f:α→β} {Q:List β→Prop} {ρ:Type} {R:ρ→Prop} {body:Nat→α→List β→(List β→Option ρ)→Option ρ} {k:List β→Option ρ} (hl:xs.length≤1048576)
  (hb:∀ i x s next,s.length < 1048576→Wp (next (s++[f x])) R→Wp (body i x s next) R) (hk:Wp (k (xs.map f)) R):Wp (forK body k xs 0 []) R:=by
 refine Wp.for (fun i s=>s=(xs.take i).map f) (by simp) ?_ ?_
 ·intro i x s next hx hm hI hn;have hi:=(List.getElem?_eq_some_iff.1 hx).1;subst hI;refine hb i x _ next (by simp;omega) (hn _ ?_);rw[List.take_add_one,hx];simp
 ·intro s hs;rw[hs,List.take_length];exact hk
theorem Za0 (S:Sch) (h1:S.tables.length≤1048576) (h2:S.fks.length≤1048576):Wp (Z12 S) fun r=>r=S:=by
 unfold Z12;refine Wp.bind (R:=fun r=>r=S.cons) (Wp.ret rfl) fun o _ ho=>?_;subst ho;refine Zl4 (f:=id) (Q:=fun _=>True) h1 ?_ ?_
 ·intro i x s next hs hn;refine Wp.bind (R:=fun r=>r=x) (Wp.ret (by cases x;rfl)) fun y _ hy=>?_;subst hy;exact Wp.app (by simp;omega) hn
 ·refine Zl4 (f:=id) (Q:=fun _=>True) h2 ?_ ?_
  ·intro i x s next hs hn;refine Wp.bind (R:=fun r=>r=x.cols) (Wp.ret rfl) fun y _ hy=>?_;subst hy;exact Wp.app (by simp;omega) (by cases x;exact hn)
  ·exact Wp.ret (by cases S;simp)
theorem ba_eq {a b:ByteArray} (h:(a == b)=true):a=b:=by
 cases a with
 | mk d=>cases b with
   | mk e=>
     have h':(d == e)=true:=h;rw[eq_of_beq h']
theorem Za3 (a b:List Col):Wp (Z1w a b) fun r=>r=true→a=b:=by
 unfold Z1w;refine Wp.cond (fun _=>Wp.ret (by simp)) fun h=>?_;have hl:a.length=b.length:=by simp at h;omega
 refine Wp.for (fun i _=>∀ j,j < i→a[j]?=b[j]?) (by intro j h;omega) (fun i x s next hx _ hI hn=>?_) fun s hI=>Wp.ret fun _=>List.ext_getElem? fun j=>?_
 ·have hi:=(List.getElem?_eq_some_iff.1 hx).1;refine Wp.get (by omega) (by omega) fun y hy _=>Wp.cond (fun _=>Wp.ret (by simp)) fun h2=>hn () fun j hj=>?_;rcases Nat.lt_or_ge j i with h3 | h3
  ·exact hI j h3
  ·obtain rfl:j=i:=by omega
   have hy':b[j]?=some y:=by rw[← hy];congr 1
   rw[hx,hy'];obtain⟨n1,k1,l1⟩:=x;obtain⟨n2,k2,l2⟩:=y;simp at h2;obtain⟨e1,e2,e3⟩:=h2;rw[ba_eq e1,e2,e3]
 ·rcases Nat.lt_or_ge j a.length with h3 | h3
  ·exact hI j h3
  ·rw[List.getElem?_eq_none h3,List.getElem?_eq_none (by omega)]
theorem Zf5 (a b:Tbl):Wp (Z2y a b) fun _=>True:=by
 unfold Z2y Z3w;refine Wp.bind (R:=fun _=>True) (Wp.cond (fun _=>Wp.bind (Za3 _ _) fun _ _ _=>Wp.cond (fun _=>Wp.bind (Z73 _ _) fun _ _ _=>Wp.ret trivial) fun _=>Wp.ret trivial) fun _=>Wp.ret trivial) fun _ _ _=>Wp.ret trivial
theorem Z9u (x:Stp):Wp (Z2z x) fun e=>e=0→1≤x.kind∧x.kind≤16:=by
 unfold Z2z;refine Wp.cond (fun _=>Wp.ret (by simp)) fun h1=>Wp.cond (fun _=>Wp.ret (by simp)) fun h2=>Wp.bind (R:=fun _=>True) ?_ fun y _ _=>Wp.bind (R:=fun _=>True) ?_ fun _ _ _=>Wp.cond (fun _=>Wp.ret (by simp)) fun _=>Wp.ret fun _=>⟨by simp at h1;omega,by simp at h2;omega⟩
 ·unfold Z2d
  repeat' first | exact Wp.ret trivial | refine Wp.cond (fun _=>?_) fun _=>?_
 ·unfold Z53
  repeat' first | exact Wp.ret trivial | refine Wp.bind (Z73 _ _) fun _ _ _=>?_ | refine Wp.bind (Zf5 _ _) fun _ _ _=>?_ | refine Wp.bind (Z4p _ _) fun _ _ _=>?_ | refine Wp.cond (fun _=>?_) fun _=>?_
theorem Zd5 (xs:List Int) (v:Int):Wp (Z2p xs v) fun k=>(k=-1∧v ∉ xs)∨(0≤k∧k < xs.length∧v ∈ xs):=by
 unfold Z2p;refine Wp.for (fun i _=>∀ (j:Nat) (y:Int),j < i→xs[j]?=some y→y≠v) (by intro j y h;omega) ?_ ?_
 ·intro i x s next hx hm hI hn;have hi:=(List.getElem?_eq_some_iff.1 hx).1;refine Wp.cond (fun h=>Wp.ret (.inr ⟨by omega,by omega,?_⟩)) fun h=>hn () (Z4d hI hx ?_)
  ·have:v=x:=by simpa using h
   rw[this];exact hm
  ·intro h0;simp[h0] at h
 ·intro s hI;exact Wp.ret (.inl ⟨rfl,fun hv=>Z6v hI v hv rfl⟩)
theorem Z65 (xs:List Int) (v:Int):Wp (Z0v xs v) fun b=>b=true↔v ∈ xs:=by
 unfold Z0v;refine Wp.bind (Zd5 xs v) fun k _ hk=>Wp.ret ?_;rcases hk with ⟨rfl,h⟩ | ⟨h1,_,h⟩
 ·simp[h]
 ·simp[h,h1]
theorem Zd0 (a b:List Int) (hl:a.length≤2097152):Wp (Z1s a b) fun o=>o=0→∀ v ∈ a,v ∉ b:=by
 unfold Z1s;refine Wp.for (fun i s=>(0≤s∧s≤i)∧(s=0→∀ (j:Nat) (v:Int),j < i→a[j]?=some v→v ∉ b)) ⟨by simp,fun _ j v h=>by omega⟩ ?_ ?_
 ·rintro i x s next hx hm ⟨⟨h0,h1⟩,hI⟩ hn;have hi:=(List.getElem?_eq_some_iff.1 hx).1;refine Wp.bind (Z65 _ _) fun c _ hc=>Wp.cond (fun _=>Wp.chk ⟨by omega,by omega⟩ (hn _ ⟨⟨by omega,by omega⟩,fun h=>by omega⟩)) fun h=>hn _ ⟨⟨h0,by omega⟩,fun hs=>Z4d (hI hs) hx fun hb=>by rw[hc.2 hb] at h;cases h⟩
 ·rintro s ⟨_,hI⟩;exact Wp.cond (fun h=>Wp.ret fun _=>Z6v (hI (by simpa using h))) fun _=>Wp.cond (fun _=>Wp.ret (by simp)) fun _=>Wp.ret (by simp)
theorem Zcq (S:Sch) (c:Cons):Wp (Z2b S c) fun q=>q.1.tables=S.tables:=by
 unfold Z2b Z11;refine Wp.bind (R:=fun k=>k < S.cons.length) (Wp.for (fun _ _=>True) trivial (fun i x s next hx _ _ hn=>Wp.cond (fun _=>Wp.ret ?_) fun _=>hn () trivial) fun _ _=>Wp.ret (by omega)) fun k _ hk=>Wp.ite (fun _=>Wp.ret rfl) fun h=>Wp.chk (by omega) (Wp.ret rfl);have hi:=(List.getElem?_eq_some_iff.1 hx).1;omega
theorem Z8m (S:Sch) (c:Fk):Wp (Z0f S c) fun q=>q.1.tables=S.tables∧q.1.cons=S.cons∧∀ f ∈ q.1.fks,f ∈ S.fks:=by
 unfold Z0f Z0c;refine Wp.bind (Wp.index fun x _=>?_) fun k _ hk=>Wp.ite (fun _=>Wp.ret ⟨rfl,rfl,fun _ h=>h⟩) fun h=>Wp.chk (by have:=hk.lt;omega) (Wp.ret ⟨rfl,rfl,fun f hf=>?_⟩)
 ·unfold Z0m;exact Wp.bind (Z4p _ _) fun _ _ _=>Wp.ret trivial
 ·simp only at hf;rcases List.mem_append.1 hf with h1 | h1
  ·exact List.mem_of_mem_take h1
  ·exact List.mem_of_mem_drop h1
end
end Go.Proofs.YthiojhcimecdgaaGreatDoor
section
namespace Go.Proofs.YthiojhcimecdgaaGreatDoor
open Go Go.Am
section
variable {α:Type}
def keepF (rm:List Int):Nat→List α→List α
 | _,[]=>[]
 | i,x::xs=>if (i:Int) ∈ rm then keepF rm (i+1) xs else x::keepF rm (i+1) xs
theorem Zet (rm:List Int) (x:α):∀ (xs:List α) (i:Nat),keepF rm i (xs++[x])=keepF rm i xs++(if ((i+xs.length:Nat):Int) ∈ rm then [] else [x])
 | [],i=>by simp only[List.nil_append,keepF,List.length_nil,Nat.add_zero]
 | y::ys,i=>by
   have h:=Zet rm x ys (i+1);rw[show i+1+ys.length=i+(y::ys).length by simp;omega] at h;simp only[List.cons_append,keepF,h];split
   ·rfl
   ·rfl
theorem Z7w {xs:List α} {i:Nat} {x:α} (h:xs[i]?=some x):xs.take (i+1)=xs.take i++[x]:=by
 rw[List.take_add_one,h];rfl
theorem Zes (rm:List Int) {xs:List α} {i:Nat} {x:α} (h:xs[i]?=some x):keepF rm 0 (xs.take (i+1))=keepF rm 0 (xs.take i)++(if (i:Int) ∈ rm then [] else [x]):=by
 have hi:=(List.getElem?_eq_some_iff.1 h).1;rw[Z7w h,Zet,List.length_take,Nat.min_eq_left (by omega),Nat.zero_add]
end
def shF (rm:List Int) (v:Int):Int:=v - (rm.filter fun r=>decide (r < v)).length
theorem LIM_eq:LIM=2097152:=rfl
theorem w_shF (v:Int) (rm:List Int) (h0:0≤v) (h1:v < 2097152) (hl:rm.length≤2097152):Wp (Z0t v rm) fun r=>r=shF rm v:=by
 unfold Z0t;refine Wp.for (fun i s=>s=((rm.take i).filter fun r=>decide (r < v)).length) (by simp) ?_ ?_
 ·rintro i x s next hx hm rfl hn;have hi:=(List.getElem?_eq_some_iff.1 hx).1;have hb:((rm.take i).filter fun r=>decide (r < v)).length≤i:=Nat.le_trans (List.length_filter_le _ _) (by simp;omega);have e:((rm.take (i+1)).filter fun r=>decide (r < v)).length=((rm.take i).filter fun r=>decide (r < v)).length+(if x < v then 1 else 0):=by
   rw[Z7w hx,List.filter_append,List.length_append]
   by_cases h:x < v<;>simp[h]
  refine Wp.cond (fun h=>Wp.chk ⟨by omega,by omega⟩ (hn _ ?_)) fun h=>hn _ ?_
  ·have h:x < v:=by simpa using h
   rw[e,if_pos h];omega
  ·have h:¬ x < v:=by simpa using h
   rw[e,if_neg h];omega
 ·rintro s rfl;have hb:=List.length_filter_le (fun r=>decide (r < v)) (rm.take rm.length);rw[List.take_length] at hb ⊢;exact Wp.chk ⟨by omega,by omega⟩ (Wp.ret rfl)
def rmT (T:Tbl) (rm:List Int):Tbl:={ T with cols:=keepF rm 0 T.cols,pk:=T.pk.map (shF rm) }
theorem Zjd {α:Type} {xs:List α} {p:Nat→α→Prop} {i:Nat} {x:α} (h:∀ (j:Nat) (y:α),j < i→xs[j]?=some y→p j y) (hx:xs[i]?=some x) (hp:p i x):∀ (j:Nat) (y:α),j < i+1→xs[j]?=some y→p j y:=by
 intro j y hj hy;rcases Nat.lt_or_ge j i with h1 | h1
 ·exact h j y h1 hy
 ·obtain rfl:j=i:=by omega
  rw[hx] at hy;cases hy;exact hp
def DefOK (v:GV) (c:Col):Prop:=Z0g v=some 0∧(v.kind=0→c.nullable=true)∧(v.kind≠0→v.kind=c.kind)
def colZ:Col:=⟨ByteArray.empty,0,false⟩
def colF (T:Tbl) (c:Int):Col:=(T.cols[c.toNat]?).getD colZ
structure SplitOK (T:Tbl) (cs:List Int):Prop where
 ne:cs≠[]
 rng:∀ v ∈ cs,0≤v∧v < T.cols.length
 asc:∀ (i:Nat) (a b:Int),cs[i]?=some a→cs[i+1]?=some b→a < b
 pk:∀ v ∈ cs,v ∉ T.pk
inductive EvT (S:Sch) (ts:List Tbl) (x:Stp):Prop
 | add {i:Nat} {T:Tbl} (k:x.kind=1) (hi:S.tables[i]?=some T) (hn:strEq T.name x.table=true) (hd:DefOK x.value ⟨x.column,x.type,x.value.kind == 0⟩) (e:ts=S.tables.set i { T with cols:=T.cols++[⟨x.column,x.type,x.value.kind == 0⟩] })
 | drop {i:Nat} {T:Tbl} {c:Int} {col:Col} (k:x.kind=2) (hi:S.tables[i]?=some T) (hn:strEq T.name x.table=true) (hc:Z08 T x.column=some (c,true)) (hcol:T.cols[c.toNat]?=some col) (hp:c ∉ T.pk) (hd:DefOK x.value col) (e:ts=S.tables.set i (rmT T [c]))
 | rencol {i:Nat} {T:Tbl} {c:Int} {col:Col} (k:x.kind=3) (hi:S.tables[i]?=some T) (hn:strEq T.name x.table=true) (hcol:T.cols[c.toNat]?=some col) (e:ts=S.tables.set i { T with cols:=T.cols.set c.toNat { col with name:=x.newName } })
 | ren {i:Nat} {T:Tbl} (k:x.kind=4) (hi:S.tables[i]?=some T) (hn:strEq T.name x.table=true) (ho:∀ U ∈ S.tables,strEq U.name x.newName=false) (e:ts=outerS ltT (S.tables.length - 1) 1 (S.tables.take i++S.tables.drop (i+1)++[{ T with name:=x.newName }]))
 | type {i:Nat} {T:Tbl} {c:Int} {col:Col} (k:x.kind=5) (hi:S.tables[i]?=some T) (hn:strEq T.name x.table=true) (hc:Z08 T x.column=some (c,true)) (hcol:T.cols[c.toNat]?=some col) (hp:c ∉ T.pk) (e:ts=S.tables.set i { T with cols:=T.cols.set c.toNat { col with kind:=x.type } })
 | split {i:Nat} {T:Tbl} (k:x.kind=6) (hi:S.tables[i]?=some T) (hn:strEq T.name x.table=true) (ho:∀ U ∈ S.tables,strEq U.name x.other=false) (hs:SplitOK T x.cols) (e:ts=outerS ltT S.tables.length 1 (S.tables.set i (rmT T x.cols)++[⟨x.other,(T.pk++x.cols).map (colF T),seqI T.pk.length⟩]))
 | join {i j:Nat} {T O:Tbl} (k:x.kind=7) (hi:S.tables[i]?=some T) (hn:strEq T.name x.table=true) (hj:S.tables[j]?=some O) (ho:strEq O.name x.other=true) (hij:i≠j) (hp:O.pk=seqI T.pk.length) (hk:∀ (n:Nat) (v:Int),T.pk[n]?=some v→(colF T v).kind=(colF O n).kind) (e:ts=(S.tables.set i { T with cols:=T.cols++O.cols.drop T.pk.length }).take j++(S.tables.set i { T with cols:=T.cols++O.cols.drop T.pk.length }).drop (j+1))
 | part {i:Nat} {T:Tbl} {c:Int} {col:Col} {b:Bool} (k:x.kind=8) (hi:S.tables[i]?=some T) (hn:strEq T.name x.table=true) (hc:Z08 T x.column=some (c,true)) (hcol:T.cols[c.toNat]?=some col) (hq:Z1c x.value x.op x.value=some (b,0)) (hv:Z0g x.value=some 0) (hk:x.value.kind=col.kind) (ho:∀ U ∈ S.tables,strEq U.name x.other=false) (e:ts=outerS ltT S.tables.length 1 (S.tables++[{ T with name:=x.other }]))
 | merge {i j:Nat} {T O:Tbl} (k:x.kind=9) (hi:S.tables[i]?=some T) (hn:strEq T.name x.table=true) (hj:S.tables[j]?=some O) (ho:strEq O.name x.other=true) (hij:i≠j) (hc:T.cols=O.cols) (hp:T.pk=O.pk) (e:ts=(S.tables.set i { T with pk:=T.pk++[(T.cols.length:Int)],cols:=T.cols++[⟨x.column,2,false⟩] }).filter fun t=>!strEq t.name O.name)
 | create (k:x.kind=10) (ho:∀ U ∈ S.tables,strEq U.name x.newTable.name=false) (e:ts=outerS ltT S.tables.length 1 (S.tables++[x.newTable]))
 | droptab (k:x.kind=11) (ho:∃ T ∈ S.tables,strEq T.name x.table=true) (e:ts=S.tables.filter fun t=>!strEq t.name x.table)
 | concat {i:Nat} {T:Tbl} {a b:Int} (k:x.kind=12) (hi:S.tables[i]?=some T) (hn:strEq T.name x.table=true) (hx:x.cols=[a,b]) (ha:0≤a) (hab:a < b) (hb:b < T.cols.length) (hka:(colF T a).kind=3) (hkb:(colF T b).kind=3) (hp:a ∉ T.pk∧b ∉ T.pk) (e:ts=S.tables.set i { rmT T x.cols with cols:=keepF x.cols 0 T.cols++[⟨x.column,3,(colF T a).nullable && (colF T b).nullable⟩] })
 | rule (k:13≤x.kind) (e:ts=S.tables)
end Go.Proofs.YthiojhcimecdgaaGreatDoor
end
section
namespace Go.Proofs.YthiojhcimecdgaaGreatDoor
open Go Go.Am
theorem Z6u (S:Sch) (T:Tbl) (h:S.tables.length < 19):Wp (Z0w S T) fun S'=>S'.fks=S.fks∧S'.cons=S.cons∧S'.tables=outerS ltT S.tables.length 1 (S.tables++[T]):=by
 unfold Z0w;exact Wp.chk h (Wp.ret ⟨rfl,rfl,rfl⟩)
theorem Zf3 (S:Sch) (x:Stp) (h:S.tables.length < 19) (hk:x.kind=10):Wp (Z33 S x.newTable) fun q=>q.2=0→EvT S q.1.tables x:=by
 unfold Z33;exact Wp.bind (Z2u _ _) fun v _ hv=>Wp.cond (fun _=>Wp.ret (by simp)) fun hf=>Wp.bind (Z6u S _ h) fun _ _ he=>Wp.ret fun _=>.create hk (hv.2.2 hf) he.2.2
theorem Zf1 (S:Sch) (i:Nat) (x:Stp) (h:S.tables.length < 19) {T:Tbl} (hT:S.tables[i]?=some T) (hn:strEq T.name x.table=true) (hk:x.kind=4):Wp (Z31 S i x.newName) fun q=>q.2=0→EvT S q.1.tables x:=by
 have hi:=(List.getElem?_eq_some_iff.1 hT).1;have hl:(S.tables.take i++S.tables.drop (i+1)).length=S.tables.length - 1:=by simp;omega
 unfold Z31;refine Wp.bind (Z2u _ _) fun v _ hv=>Wp.cond (fun _=>Wp.ret (by simp)) fun hf=>Wp.getN hT (Wp.bind (Z6u _ _ (by show (S.tables.take i++S.tables.drop (i+1)).length < 19;omega)) fun S1 _ hS1=>?_);have e1:=hS1.2.2;simp only at e1;rw[hl] at e1;refine Wp.count (fun _ (S2:Sch)=>S2.fks.length=S1.fks.length∧S2.tables=S1.tables) ⟨rfl,rfl⟩ ?_ ?_
 ·rintro k S2 next hk ⟨hl,ht⟩ hn;refine Wp.get (by omega) (by omega) fun f _ _=>?_
  repeat' first | exact hn _ ⟨by simpa using hl,ht⟩ | refine Wp.cond (fun _=>?_) fun _=>?_
 ·rintro S2 ⟨_,ht2⟩;refine Wp.count (fun _ (S3:Sch)=>S3.cons.length=S2.cons.length∧S3.tables=S1.tables) ⟨rfl,ht2⟩ ?_ fun S3 h3=>Wp.ret fun _=>.ren hk hT hn (hv.2.2 hf) (h3.2.trans e1);rintro k S3 next hk ⟨hl,ht⟩ hn;refine Wp.get (by omega) (by omega) fun f _ _=>?_
  repeat' first | exact hn _ ⟨by simpa using hl,ht⟩ | refine Wp.cond (fun _=>?_) fun _=>?_
theorem Za1 (S:Sch) (table:ByteArray) (mr:Int→Option Int) (P:Int→Prop) (hmr:∀ v,P v→Wp (mr v) fun _=>True)
  (hf:∀ f ∈ S.fks,strEq f.table table=true→∀ v ∈ f.cols,P v) (ho:∀ c ∈ S.cons,strEq c.table table=true→P c.left∧(0≤c.right→P c.right)) :
  Wp (Z0u S table mr) fun S'=>S'.tables=S.tables∧S'.fks.length=S.fks.length∧S'.cons.length=S.cons.length:=by
 unfold Z0u;refine Wp.count (fun i (S1:Sch)=>S1.tables=S.tables∧S1.cons=S.cons∧S1.fks.length=S.fks.length∧∀ j,i≤j→S1.fks[j]?=S.fks[j]?) ⟨rfl,rfl,rfl,fun _ _=>rfl⟩ ?_ ?_
 ·rintro i S1 next hi ⟨h1,h2,h3,h4⟩ hn;unfold Ziq;refine Wp.get (by omega) (by omega) fun f hfx _=>?_;have hfx':S.fks[i]?=some f:=by rw[← h4 i (Nat.le_refl _),← hfx];congr 1
  refine Wp.cond (fun hst=>?_) fun _=>hn _ ⟨h1,h2,h3,fun j hj=>h4 j (by omega)⟩;have hP:=hf f (List.mem_of_getElem? hfx') hst;refine Wp.count (fun k (S2:Sch)=>S2.tables=S.tables∧S2.cons=S.cons∧S2.fks.length=S.fks.length∧(∀ j,i+1≤j→S2.fks[j]?=S.fks[j]?)∧∃ f',S2.fks[i]?=some f'∧f'.cols.length=f.cols.length∧∀ j,k≤j→f'.cols[j]?=f.cols[j]?)
   ⟨h1,h2,h3,fun j hj=>h4 j (by omega),f,by rw[← hfx];congr 1,rfl,fun _ _=>rfl⟩ ?_ ?_
  ·rintro k S2 next2 hk ⟨g1,g2,g3,g4,f',g5,g6,g7⟩ hn2;refine Wp.getN g5 (Wp.get (by omega) (by omega) fun v hv _=>?_);have hv':f.cols[k]?=some v:=by rw[← g7 k (Nat.le_refl _),← hv];congr 1
   refine Wp.bind (hmr v (hP v (List.mem_of_getElem? hv'))) fun w _ _=>hn2 _ ⟨g1,g2,by simpa using g3,fun j hj=>?_,⟨f'.table,f'.cols.set k w,f'.ref⟩,?_,by simpa using g6,fun j hj=>?_⟩
   ·rw[List.getElem?_set_ne (by omega)];exact g4 j hj
   ·rw[List.getElem?_set_self (by omega)]
   ·simp only;rw[List.getElem?_set_ne (by omega)];exact g7 j (by omega)
  ·rintro S2 ⟨g1,g2,g3,g4,_⟩;exact hn _ ⟨g1,g2,g3,g4⟩
 ·rintro S1 ⟨h1,h2,h3,_⟩;refine Wp.count (fun i (S2:Sch)=>S2.tables=S.tables∧S2.fks.length=S.fks.length∧S2.cons.length=S.cons.length∧∀ j,i≤j→S2.cons[j]?=S.cons[j]?) ⟨h1,h3,by rw[h2],fun _ _=>by rw[h2]⟩ ?_ fun S2 h=>Wp.ret ⟨h.1,h.2.1,h.2.2.1⟩;rintro i S2 next hi ⟨g1,g2,g3,g4⟩ hn;unfold Zip;have hi':i < S.cons.length:=by rw[← h2];exact hi
  refine Wp.get (by omega) (by omega) fun c hc _=>?_;have hc':S.cons[i]?=some c:=by rw[← g4 i (Nat.le_refl _),← hc];congr 1
  refine Wp.cond (fun _=>hn _ ⟨g1,g2,g3,fun j hj=>g4 j (by omega)⟩) fun hst=>?_;have hP:=ho c (List.mem_of_getElem? hc') (by simpa using hst);have hset:∀ c',∀ j,i+1≤j→(S2.cons.set i c')[j]?=S.cons[j]?:=fun c' j hj=>by rw[List.getElem?_set_ne (by omega)];exact g4 j (by omega)
  refine Wp.bind (hmr _ hP.1) fun v _ _=>Wp.cond (fun h=>Wp.bind (hmr _ (hP.2 (by simpa using h))) fun w _ _=>hn _ ⟨g1,g2,by simpa using g3,hset _⟩) fun _=>hn _ ⟨g1,g2,by simpa using g3,hset _⟩
theorem Z72 (S:Sch) (i:Nat) (T:Tbl) (rm:List Int) (hT:S.tables[i]?=some T) (hV:VT T) (hl:rm.length≤2097152)
  (hf:∀ f ∈ S.fks,strEq f.table T.name=true→∀ v ∈ f.cols,0≤v∧v < 6) (ho:∀ c ∈ S.cons,strEq c.table T.name=true→(0≤c.left∧c.left < 6)∧c.right < 6) :
  Wp (Z13 S i rm) fun S'=>S'.tables=S.tables.set i (rmT T rm)∧S'.fks.length=S.fks.length∧S'.cons.length=S.cons.length:=by
 unfold Z13;have hi:=(List.getElem?_eq_some_iff.1 hT).1;have h6:=hV.cols6;refine Wp.getN hT ?_;refine Wp.for (fun k (s:List Col)=>s=keepF rm 0 (T.cols.take k)) rfl ?_ ?_
 ·rintro k c s next hx hm rfl hn;unfold Zgj;refine Wp.bind (Z65 _ _) fun b _ hb=>Wp.cond (fun h=>hn _ ?_) fun h=>hn _ ?_
  ·rw[Zes rm hx,if_neg];exact fun h'=>by rw[hb.2 h'] at h;cases h
  ·rw[Zes rm hx,if_pos (hb.1 (by simpa using h)),List.append_nil]
 rintro cols rfl;rw[List.take_length];refine Wp.count (fun k (S1:Sch)=>S1.fks=S.fks∧S1.cons=S.cons∧S1.tables=S.tables.set i { T with pk:=(T.pk.take k).map (shF rm)++T.pk.drop k }) ⟨rfl,rfl,?_⟩ ?_ ?_
 ·simp only[List.take_zero,List.map_nil,List.nil_append,List.drop_zero];exact (Zcu hT).symm
 ·rintro k S1 next hk ⟨g1,g2,g3⟩ hn;unfold Zgi;have hx:T.pk[k]?=some T.pk[k]:=List.getElem?_eq_getElem hk;have hp:=hV.pk _ (List.getElem_mem hk);refine Wp.getN (x:={ T with pk:=(T.pk.take k).map (shF rm)++T.pk.drop k }) (by rw[g3,List.getElem?_set_self hi]) (Wp.getN (x:=T.pk[k]) ?_ (Wp.bind (w_shF _ rm hp.1 (by omega) hl) fun v _ hv=>hn _ ⟨g1,g2,?_⟩))
  ·rw[List.getElem?_append_right (by simp;omega)];simp[Nat.min_eq_left (Nat.le_of_lt hk)]
  ·subst hv;simp only;rw[g3,List.set_set,Z7w hx,List.map_append]
   congr 2
   rw[List.set_append_right _ _ (by simp;omega)];simp[Nat.min_eq_left (Nat.le_of_lt hk)];rw[List.drop_eq_getElem_cons hk];rfl
 ·rintro S1 ⟨g1,g2,g3⟩;rw[List.take_length,List.drop_length,List.append_nil] at g3;refine Wp.getN (x:={ T with pk:=T.pk.map (shF rm) }) (by rw[g3,List.getElem?_set_self hi]) (Wp.bind (Za1 _ _ _ (fun v=>0≤v∧v < 6) (fun v hv=>(w_shF v rm hv.1 (by omega) hl).mono fun _ _ _=>trivial) ?_ ?_) fun S2 _ hS2=>Wp.ret ⟨?_,?_,?_⟩)
  ·simp only[g1];exact hf
  ·simp only[g2];exact fun c hc he=>⟨(ho c hc he).1,fun h=>⟨h,(ho c hc he).2⟩⟩
  ·rw[hS2.1,g3,List.set_set];rfl
  ·rw[hS2.2.1];simp only[g1]
  ·rw[hS2.2.2];simp only[g2]
theorem Zat (S:Sch) (T:Tbl) (v:Int):Wp (Z1d S T v) fun e=>e=0→v ∉ T.pk:=by
 unfold Z1d Z17 Z0x;refine Wp.bind (Z65 _ _) fun b _ hb=>Wp.cond (fun _=>Wp.ret (by simp)) fun h1=>?_;have hn:v ∉ T.pk:=fun h=>by rw[hb.2 h] at h1;cases h1
 refine Wp.bind (Z3y _ _ fun x _=>?_) fun _ _ _=>Wp.cond (fun _=>Wp.ret (by simp)) fun _=>Wp.bind (R:=fun _=>True) (Wp.bind (Wp.index fun x _=>?_) fun _ _ _=>Wp.ret trivial) fun _ _ _=>Wp.cond (fun _=>Wp.ret (by simp)) fun _=>Wp.ret fun _=>hn
 ·unfold Z1p;exact Wp.cond (fun _=>Wp.bind (Z65 _ _) fun _ _ _=>Wp.ret trivial) fun _=>Wp.ret trivial
 ·unfold Z1o;exact Wp.cond (fun _=>Wp.cond (fun _=>Wp.ret trivial) fun _=>Wp.ret trivial) fun _=>Wp.ret trivial
theorem Za2 (v:GV) (c:Col):Wp (Z16 v c) fun e=>e=0→DefOK v c:=by
 unfold Z16;refine Wp.bind (Z4b _) fun e he _=>Wp.cond (fun h=>Wp.ret fun h0=>by simp[h0] at h) fun h=>?_;obtain rfl:e=0:=by simpa using h
 refine Wp.cond (fun h1=>?_) fun h1=>?_
 ·have k0:v.kind=0:=by simpa using h1
  refine Wp.cond (fun _=>Wp.ret (by simp)) fun h2=>Wp.cond (fun h3=>by simp[k0] at h3) fun _=>Wp.ret fun _=>⟨he,fun _=>by simpa using h2,fun h=>absurd k0 h⟩
 ·have k0:v.kind≠0:=by simpa using h1
  refine Wp.cond (fun h2=>Wp.cond (fun _=>Wp.ret (by simp)) fun h3=>Wp.ret fun _=>⟨he,fun h=>absurd h k0,fun _=>by simpa using h3⟩) fun h2=>by simp[k0] at h2
section
variable {S:Sch} {i:Nat} {T:Tbl}
theorem Zh6 (x:Stp) (hT:S.tables[i]?=some T) (hV:VT T) (hn:strEq T.name x.table=true) (hk:x.kind=1):Wp (Z3q S i x) fun q=>q.2=0→EvT S q.1.tables x:=by
 unfold Z3q;have h1:=hV.cols0;have h2:=hV.cols6;exact Wp.bind (Za2 _ _) fun e _ he=>Wp.cond (fun h=>Wp.ret fun h0=>by simp only at h0;simp[h0] at h) fun h=>Wp.getN hT (Wp.chk ⟨h1,by have:=LIM_eq;omega⟩ (Wp.ret fun _=>.add hk hT hn (he (by simpa using h)) rfl))
theorem VS.hf (h:VS S) (nm:ByteArray):∀ f ∈ S.fks,strEq f.table nm=true→∀ v ∈ f.cols,0≤v∧v < 6:=fun f hf _=>(h.fk f hf).2
theorem VS.ho (h:VS S) (nm:ByteArray):∀ c ∈ S.cons,strEq c.table nm=true→(0≤c.left∧c.left < 6)∧c.right < 6:=fun c hc _=>⟨(h.con c hc).1,(h.con c hc).2.2⟩
theorem Zf4 (x:Stp) (hT:S.tables[i]?=some T) (hS:VS S) (hn:strEq T.name x.table=true) (hk:x.kind=2∨x.kind=3∨x.kind=5):Wp (Z34 S i x) fun q=>q.2=0→EvT S q.1.tables x:=by
 unfold Z34;have hV:=hS.tab T (List.mem_of_getElem? hT);refine Wp.getN hT (Wp.bind (Z7f _ _) fun r hr0 hr=>Wp.cond (fun _=>Wp.ret (by simp)) fun h=>?_);have h':r.2=true:=by simpa using h
 have hr1:=hr.2.1 h';have hc:Z08 T x.column=some (r.1,true):=by rw[hr0,← h']
 refine Wp.cond (fun k3=>Wp.bind (Z7f _ _) fun _ _ _=>Wp.cond (fun _=>Wp.ret (by simp)) fun _=>Wp.get hr.1 hr1 fun _ hcol _=>Wp.ret fun _=>.rencol (by simpa using k3) hT hn hcol rfl) fun k3=>?_;refine Wp.bind (Zat _ _ _) fun e _ he=>Wp.cond (fun h=>Wp.ret fun h0=>by simp only at h0;simp[h0] at h) fun h0=>Wp.cond (fun k5=>Wp.get hr.1 hr1 fun _ hcol _=>Wp.ret fun _=>.type (by simpa using k5) hT hn hc hcol (he (by simpa using h0)) rfl) fun k5=>Wp.get hr.1 hr1 fun _ hcol _=>?_;have k2:x.kind=2:=hk.resolve_right fun h=>h.elim (fun h=>by simp[h] at k3) fun h=>by simp[h] at k5
 exact Wp.bind (Za2 _ _) fun e _ hd=>Wp.cond (fun h=>Wp.ret fun h0=>by simp only at h0;simp[h0] at h) fun hd0=>Wp.bind (Z72 S i T [r.1] hT hV (by simp) (hS.hf _) (hS.ho _)) fun _ _ hr=>Wp.ret fun _=>.drop k2 hT hn hc hcol (he (by simpa using h0)) (hd (by simpa using hd0)) hr.1
theorem Zgm {α:Type} {rm:List Int}:∀ {xs:List α} {i:Nat},(∃ k,k < xs.length∧((i+k:Nat):Int) ∉ rm)→0 < (keepF rm i xs).length
 | [],_,⟨k,h,_⟩=>by simp at h
 | x::xs,i,⟨k,h,h2⟩=>by
   unfold keepF;split
   ·rename_i h3;cases k with
    | zero=>exact absurd h3 h2
    | succ k=>exact Zgm ⟨k,by simpa using h,by rw[show i+1+k=i+(k+1) by omega];exact h2⟩
   ·simp
theorem Zir {α:Type} {rm:List Int}:∀ {xs:List α} {i:Nat},(keepF rm i xs).length≤xs.length
 | [],_=>Nat.le_refl _
 | x::xs,i=>by
   unfold keepF
   have:=Zir (rm:=rm) (xs:=xs) (i:=i+1)
   split<;>simp<;>omega
theorem Zd1 (x:Stp) (hT:S.tables[i]?=some T) (hS:VS S) (hn:strEq T.name x.table=true) (hk:x.kind=12):Wp (Z2n S i x) fun q=>q.2=0→EvT S q.1.tables x:=by
 unfold Z2n;have hV:=hS.tab T (List.mem_of_getElem? hT);have hi:=(List.getElem?_eq_some_iff.1 hT).1;refine Wp.getN hT (Wp.cond (fun _=>Wp.ret (by simp)) fun h1=>?_);have hl:x.cols.length=2:=by simp at h1;omega
 obtain⟨a,b,hab⟩:∃ a b,x.cols=[a,b]:=by
  match x.cols,hl with
  | [a,b],_=>exact⟨a,b,rfl⟩
 rw[hab];refine Wp.get (by omega) (by simp) fun a' ha _=>Wp.cond (fun _=>Wp.ret (by simp)) fun h2=>Wp.get (by omega) (by simp) fun b' hb _=>Wp.cond (fun _=>Wp.ret (by simp)) fun h3=>Wp.cond (fun _=>Wp.ret (by simp)) fun h4=>?_;simp at ha hb h2 h3 h4;subst ha hb;refine Wp.for (fun j nul=>(∀ (k:Nat) (y:Int),k < j→([a,b]:List Int)[k]?=some y→(colF T y).kind=3)∧nul=(([a,b]:List Int).take j).all fun y=>(colF T y).nullable) ⟨by intro j y h;omega,rfl⟩ ?_ fun nul hnul=>?_
 ·rintro j col s next hx hm ⟨hI,rfl⟩ hn;have hc:col=a∨col=b:=by simpa using hm
  refine Wp.get (by omega) (by omega) fun c hcc _=>Wp.cond (fun _=>Wp.ret (by simp)) fun hk3=>hn _ ⟨Z4d hI hx ?_,?_⟩
  ·simpa[colF,hcc] using hk3
  ·rw[Z7w hx,List.all_append];simp[colF,hcc]
 refine Wp.for (fun i _=>∀ (j:Nat) (y:Int),j < i→([a,b]:List Int)[j]?=some y→y ∉ T.pk) (by intro j y h;omega) ?_ fun s hI=>?_
 ·intro j col s next hx hm hI hn;exact Wp.bind (Zat _ _ _) fun e _ he=>Wp.cond (fun h=>Wp.ret fun h0=>by simp only at h0;simp[h0] at h) fun h=>hn () (Z4d hI hx (he (by simpa using h)))
 ·have hU:=Z6v hI;have hK:=Z6v hnul.1;refine Wp.bind (Z72 S i T [a,b] hT hV (by simp) (hS.hf _) (hS.ho _)) fun S1 _ hS1=>?_;have h6:=hV.cols6;have hle:=Zir (rm:=[a,b]) (xs:=T.cols) (i:=0);refine Wp.getN (x:=rmT T [a,b]) (by rw[hS1.1,List.getElem?_set_self hi]) (Wp.chk ⟨?_,by have:=LIM_eq;show (keepF _ _ _).length < _;omega⟩ (Wp.ret fun _=>.concat hk hT hn hab h2 h3 h4 (hK a (by simp)) (hK b (by simp)) ⟨hU a (by simp),hU b (by simp)⟩ ?_))
  ·have hp0:=hV.pk0;have hp:=hV.pk _ (List.getElem_mem hp0);refine Zgm ⟨(T.pk[0]).toNat,by omega,fun hin=>?_⟩;rw[show ((0+(T.pk[0]).toNat:Nat):Int)=T.pk[0] by omega] at hin;exact hU _ hin (List.getElem_mem hp0)
  ·rw[hnul.2,hab];simp only;rw[hS1.1,List.set_set];simp[rmT]
theorem Zh5 (x:Stp) (hT:∃ T ∈ S.tables,strEq T.name x.table=true) (hk:x.kind=11):Wp (Z3p S x.table) fun q=>q.2=0→EvT S q.1.tables x:=by
 unfold Z3p;refine Wp.bind (Z3y _ _ fun x _=>?_) fun _ _ _=>Wp.ite (fun _=>Wp.ret (by simp)) fun _=>Wp.ret fun _=>.droptab hk hT rfl;unfold Z26;exact Wp.cond (fun _=>Wp.ret trivial) fun _=>Wp.ret trivial
end
end Go.Proofs.YthiojhcimecdgaaGreatDoor
end
section
namespace Go.Proofs.YthiojhcimecdgaaGreatDoor
open Go Go.Am
theorem Zkc {a b:ByteArray}:strEq a b=strEq b a:=by
 unfold strEq
 first | exact Bool.beq_comm | exact BEq.comm | exact decide_eq_decide.2 eq_comm
section
variable {S:Sch} {i:Nat} {T:Tbl}
theorem Zg1 (x:Stp) (hl:x.cols.length≤1048576):Wp (Z2e S T x) fun e=>e=0→SplitOK T x.cols∧∀ t ∈ S.tables,strEq t.name x.other=false:=by
 have hL:=LIM_eq;unfold Z2e;refine Wp.for (fun i _=>(∀ (j:Nat) (y:Int),j < i→x.cols[j]?=some y→0≤y∧y < T.cols.length)∧∀ (j:Nat) (a b:Int),j+1 < i→x.cols[j]?=some a→x.cols[j+1]?=some b→a < b) ⟨by intro j y h;omega,by intro j a b h;omega⟩ ?_ ?_
 ·rintro i y s next hx hm ⟨hI,hJ⟩ hn;have hi:=(List.getElem?_eq_some_iff.1 hx).1;refine Wp.cond (fun _=>Wp.ret (by simp)) fun h1=>Wp.cond (fun _=>Wp.ret (by simp)) fun h2=>?_;have hnx:=Z4d hI hx ⟨by simpa using h1,by simpa using h2⟩;refine Wp.cond (fun h3=>?_) fun h3=>hn () ⟨hnx,fun j a b hj ha hb=>by simp at h3;omega⟩;have h3':0 < i:=by simpa using h3
  refine Wp.chk ⟨by omega,by omega⟩ (Wp.get (by omega) (by omega) fun z hz _=>Wp.cond (fun _=>Wp.ret (by simp)) fun h4=>hn () ⟨hnx,fun j a b hj ha hb=>?_⟩);rcases Nat.lt_or_ge (j+1) i with h5 | h5
  ·exact hJ j a b h5 ha hb
  ·obtain rfl:i=j+1:=by omega
   rw[hx] at hb;rw[show (((j+1:Nat):Int) - 1).toNat=j by omega,ha] at hz;cases hb;cases hz;simpa using h4
 ·rintro s ⟨hI,hJ⟩;refine Wp.cond (fun _=>Wp.ret (by simp)) fun h0=>Wp.bind (Zd0 _ _ (by omega)) fun o _ ho=>Wp.cond (fun _=>Wp.ret (by simp)) fun h1=>Wp.bind (Z2u _ _) fun v _ hv=>Wp.cond (fun _=>Wp.ret (by simp)) fun h=>Wp.ret fun _=>⟨⟨fun he=>by simp[he] at h0,Z6v hI,fun n a b ha hb=>hJ n a b (List.getElem?_eq_some_iff.1 hb).1 ha hb,ho (by simpa using h1)⟩,hv.2.2 h⟩
theorem Z7m (v n:Int) (x:Stp) (hl:x.cols.length≤1048576) (h0:0≤n) (h6:n≤6):Wp (Z0s v n x) fun _=>True:=by
 have hL:=LIM_eq;unfold Z0s;refine Wp.bind (Zd5 _ _) fun k _ hk=>Wp.chk ?_ (Wp.ret trivial);rcases hk with ⟨rfl,_⟩ | ⟨h1,h2,_⟩
 ·exact⟨by omega,by omega⟩
 ·exact⟨by omega,by omega⟩
def SpF (S:Sch) (other:ByteArray) (S1:Sch):Prop:=S1.tables=S.tables∧S1.cons=S.cons∧S1.fks.length=S.fks.length∧∀ f ∈ S1.fks,f.cols.length≤6∧(f.table=other∨f ∈ S.fks)
theorem Zhk {α:Type} {xs:List α} {k:Nat} {a b:α} (h:b ∈ xs.set k a):b ∈ xs∨b=a:=List.mem_or_eq_of_mem_set h
theorem Zfz (x:Stp) (hT:S.tables[i]?=some T) (hS:VS S) (hl:x.cols.length≤1048576) (hn:strEq T.name x.table=true) (hkd:x.kind=6):Wp (Z3d S i x) fun q=>q.2=0→EvT S q.1.tables x:=by
 have hnm:=hn;have hL:=LIM_eq;have hV:=hS.tab T (List.mem_of_getElem? hT);have hpk:=hV.pk6;have hc6:=hV.cols6;unfold Z3d;refine Wp.getN hT (Wp.bind (Zg1 x hl) fun e _ he=>Wp.cond (fun h=>Wp.ret fun h0=>by simp only at h0;simp[h0] at h) fun he0=>?_);obtain⟨hsp,hoth⟩:=he (by simpa using he0);have hcol:=hsp.rng;have hne:strEq x.other T.name=false:=by rw[Zkc];exact hoth T (List.mem_of_getElem? hT)
 refine Wp.count (fun _ S1=>SpF S x.other S1) ⟨rfl,rfl,rfl,fun f hf=>⟨(hS.fk f hf).1,.inr hf⟩⟩ ?_ ?_
 ·rintro k S1 next hk ⟨h1,h2,h3,h4⟩ hn;unfold Zin;refine Wp.get (by omega) (by omega) fun f hf hfm=>Wp.cond (fun _=>hn _ ⟨h1,h2,h3,h4⟩) fun _=>?_;have hf6:=(h4 f hfm).1;refine Wp.bind (Zd0 _ _ (by omega)) fun o _ _=>Wp.cond (fun _=>Wp.ret (by simp)) fun _=>Wp.cond (fun _=>?_) fun _=>hn _ ⟨h1,h2,h3,h4⟩;refine Wp.count (fun _ S2=>SpF S x.other S2∧∃ f',S2.fks[k]?=some f'∧f'.cols.length=f.cols.length∧f'.table=x.other) ⟨⟨h1,h2,by simpa using h3,?_⟩,⟨x.other,f.cols,f.ref⟩,List.getElem?_set_self (by omega),rfl,rfl⟩ ?_ fun S2 h=>hn _ h.1
  ·intro g hg;rcases Zhk hg with h | rfl
   ·exact h4 g h
   ·exact⟨hf6,.inl rfl⟩
  ·rintro j S2 next2 hj ⟨⟨g1,g2,g3,g4⟩,f',g5,g6,g7⟩ hn2;unfold Zio;refine Wp.getN g5 (Wp.get (by omega) (by omega) fun v _ _=>Wp.bind (Z7m _ _ _ hl (by omega) (by omega)) fun w _ _=>hn2 _ ⟨⟨g1,g2,by simpa using g3,fun g hg=>?_⟩,⟨f'.table,f'.cols.set j w,f'.ref⟩,List.getElem?_set_self (by omega),by simpa using g6,g7⟩);rcases Zhk hg with h | rfl
   ·exact g4 g h
   ·exact⟨by simp;omega,.inl g7⟩
 rintro S1 ⟨h1,h2,h3,h4⟩;refine Wp.count (fun _ (S2:Sch)=>S2.tables=S.tables∧S2.fks=S1.fks∧S2.cons.length=S.cons.length∧∀ c ∈ S2.cons,c.table=x.other∨c ∈ S.cons) ⟨h1,rfl,by rw[h2],fun c hc=>.inr (h2 ▸ hc)⟩ ?_ ?_
 ·rintro k S2 next hk ⟨g1,g2,g3,g4⟩ hn;rw[h2] at hk;unfold Zim;refine Wp.get (by omega) (by omega) fun c hc hcm=>Wp.cond (fun _=>hn _ ⟨g1,g2,g3,g4⟩) fun _=>?_;refine Wp.bind (R:=fun cc=>cc.length≤2) ?_ fun cc _ hcc=>Wp.bind (Zd0 _ _ (by omega)) fun o _ _=>Wp.cond (fun _=>Wp.ret (by simp)) fun _=>Wp.cond (fun _=>?_) fun _=>hn _ ⟨g1,g2,g3,g4⟩
  ·unfold Z1q;exact Wp.cond (fun _=>Wp.ret (by simp)) fun _=>Wp.ret (by simp)
  ·have hset:∀ c':Cons,c'.table=x.other→∀ d ∈ S2.cons.set k c',d.table=x.other∨d ∈ S.cons:=by
    intro c' hc' d hd;rcases Zhk hd with h | rfl
    ·exact g4 d h
    ·exact .inl hc'
   refine Wp.bind (Z7m _ _ _ hl (by omega) (by omega)) fun v _ _=>Wp.cond (fun _=>Wp.bind (Z7m _ _ _ hl (by omega) (by omega)) fun w _ _=>hn _ ⟨g1,g2,by simpa using g3,hset _ rfl⟩) fun _=>hn _ ⟨g1,g2,by simpa using g3,hset _ rfl⟩
 rintro S2 ⟨g1,g2,g3,g4⟩;refine Wp.chk ?_ (Wp.for (fun j s=>s=((T.pk++x.cols).take j).map (colF T)) rfl ?_ ?_)
 ·omega
 ·rintro j col s next hx hm rfl hn;unfold Zfh;have hb:0≤col∧col < T.cols.length:=by
   rcases List.mem_append.1 hm with h | h
   ·exact hV.pk col h
   ·exact hcol col h
  refine Wp.get hb.1 hb.2 fun c hc _=>hn _ ?_;rw[Z7w hx,List.map_append];simp[colF,hc]
 ·rintro oc rfl;unfold Zbw;refine Wp.bind (Z72 S2 i T x.cols (by rw[g1];exact hT) hV (by omega) ?_ ?_) fun S3 _ hS3=>Wp.bind (Z6u S3 _ ?_) fun S4 _ hS4=>Wp.chk ?_ (Wp.ret fun _=>.split hkd hT hnm hoth hsp ?_)
  ·intro f hf hfe;rw[g2] at hf;rcases (h4 f hf).2 with h | h
   ·rw[h,hne] at hfe;cases hfe
   ·exact (hS.fk f h).2
  ·intro c hc hce;rcases g4 c hc with h | h
   ·rw[h,hne] at hce;cases hce
   ·exact⟨(hS.con c h).1,(hS.con c h).2.2⟩
  ·have:=hS.t6;rw[hS3.1,g1,List.length_set];omega
  ·have:=hS.f8;rw[hS4.1,hS3.2.1,g2,h3];omega
  ·simp only;rw[hS4.2.2,hS3.1,g1,List.length_set,List.take_length]
end
end Go.Proofs.YthiojhcimecdgaaGreatDoor
end
section
namespace Go.Proofs.YthiojhcimecdgaaGreatDoor
open Go Go.Am
theorem VT.pkle {T:Tbl} (h:VT T):T.pk.length≤T.cols.length:=by
 have:∀ (n:Nat) (v:Int),T.pk[n]?=some v→(n:Int)≤v:=by
  intro n
  induction n with
  | zero=>intro v hv;have:=(h.pk v (List.mem_of_getElem? hv)).1;omega
  | succ n ih=>
    intro v hv;have hn:=(List.getElem?_eq_some_iff.1 hv).1;have h1:=ih _ (List.getElem?_eq_getElem (by omega));have h2:=h.asc n _ v (List.getElem?_eq_getElem (by omega)) hv;omega
 have hp:=h.pk0;have h1:=this (T.pk.length - 1) _ (List.getElem?_eq_getElem (by omega));have h2:=(h.pk _ (List.getElem_mem (show T.pk.length - 1 < T.pk.length by omega))).2;omega
section
variable {S:Sch} {i:Nat} {T:Tbl}
theorem Ze9 (v:Int) (h0:0≤v) (h6:v < 6) (n:Nat) (hn:n=T.pk.length) (m:Nat) (hm:m≤6) (hn6:n≤6):Wp (Z1y v n T m) fun _=>True:=by
 subst hn;unfold Z1y;refine Wp.cond (fun h=>?_) fun _=>Wp.chk ⟨by omega,by omega⟩ (Wp.chk ⟨by omega,by omega⟩ (Wp.ret trivial));exact Wp.get h0 (by simpa using h) fun _ _ _=>Wp.ret trivial
theorem Zg0 (x:Stp) (hT:S.tables[i]?=some T) (hS:VS S) (hn:strEq T.name x.table=true) (hkd:x.kind=7):Wp (Z3e S i x.other) fun q=>q.2=0→EvT S q.1.tables x:=by
 have hnm:=hn;have hL:=LIM_eq;have hV:=hS.tab T (List.mem_of_getElem? hT);have hpk:=hV.pk6;have hc6:=hV.cols6;have hc0:=hV.cols0;have hi:=(List.getElem?_eq_some_iff.1 hT).1;unfold Z3e;refine Wp.bind (Z2u S x.other) fun v _ hv=>Wp.cond (fun _=>Wp.ret (by simp)) fun hf=>Wp.getN hT (Wp.get hv.1 (hv.2.1 (by simpa using hf)).1 fun O hO hOm=>Wp.cond (fun _=>Wp.ret (by simp)) fun hiv=>Wp.bind (Z73 _ _) fun b _ hb=>Wp.cond (fun _=>Wp.ret (by simp)) fun hb1=>?_);have hVO:=hS.tab O hOm;have hOpk:O.pk=seqI T.pk.length:=hb (by simpa using hb1);have hOl:T.pk.length≤O.cols.length:=by
  have:=hVO.pkle
  rw[hOpk] at this;simpa[seqI] using this
 have hO6:=hVO.cols6;have hO0:=hVO.cols0;refine Wp.for (fun i _=>∀ (n:Nat) (v:Int),n < i→T.pk[n]?=some v→(colF T v).kind=(colF O n).kind) (by intro n v h;omega) ?_ fun _ hKK=>?_
 ·intro j col s next hx hm hKK hn;have hj:=(List.getElem?_eq_some_iff.1 hx).1;have hp:=hV.pk col hm;unfold Zhp;exact Wp.get hp.1 hp.2 fun a ha _=>Wp.get (by omega) (by omega) fun b hb _=>Wp.cond (fun _=>Wp.ret (by simp)) fun hkk=>hn () (Zjd (p:=fun n v=>(colF T v).kind=(colF O n).kind) hKK hx (by simp only[colF,ha,hb,Option.getD_some];simpa using hkk))
 refine Wp.bind (Z8m S _) fun q _ hq=>Wp.cond (fun _=>Wp.ret (by simp)) fun _=>Wp.bind (Z3y _ _ fun x _=>Wp.ret (by simp)) fun _ _ _=>Wp.cond (fun _=>Wp.ret (by simp)) fun _=>?_;refine Wp.bind (Za1 q.1 x.other _ (fun v=>0≤v∧v < 6) (fun v hv=>Ze9 v hv.1 hv.2 _ rfl _ hc6 hpk) (fun f hf _=>(hS.fk f (hq.2.2 f hf)).2) (fun c hc _=>?_)) fun S2 _ hS2=>?_
 ·rw[hq.2.1] at hc;exact⟨(hS.con c hc).1,fun h=>⟨h,(hS.con c hc).2.2⟩⟩
 refine Wp.count (fun _ (S3:Sch)=>S3.fks.length=S2.fks.length∧S3.tables=S2.tables) ⟨rfl,rfl⟩ ?_ fun S3 h3=>Wp.count (fun _ (S4:Sch)=>S4.cons.length=S3.cons.length∧S4.tables=S2.tables) ⟨rfl,h3.2⟩ ?_ fun S4 h4=>?_
 ·rintro k S3 next hk ⟨hl,ht⟩ hn;unfold Zhm;exact Wp.get (by omega) (by omega) fun _ _ _=>Wp.cond (fun _=>hn _ ⟨by simpa using hl,ht⟩) fun _=>hn _ ⟨hl,ht⟩
 ·rintro k S4 next hk ⟨hl,ht⟩ hn;unfold Zhl;exact Wp.get (by omega) (by omega) fun _ _ _=>Wp.cond (fun _=>hn _ ⟨by simpa using hl,ht⟩) fun _=>hn _ ⟨hl,ht⟩
 ·unfold Zdk;obtain⟨_,O',hO',hOn⟩:=hv.2.1 (by simpa using hf);rw[hO] at hO';cases hO';refine Wp.chk ⟨hOl,hO0,hc0,by omega⟩ (Wp.ret fun _=>.join (j:=v.1.toNat) hkd hT hnm hO hOn ?_ hOpk (fun n v hv=>hKK n v (List.getElem?_eq_some_iff.1 hv).1 hv) ?_)
  ·intro e
   have:(i:Int)=v.1:=by have:=hv.1;omega
   simp[this] at hiv
  ·simp only;rw[h4.2,hS2.1,hq.1]
theorem Zcp (x:Stp) (hT:S.tables[i]?=some T) (hS:VS S) (hn:strEq T.name x.table=true) (hkd:x.kind=8):Wp (Z2a S i x) fun q=>q.2=0→EvT S q.1.tables x:=by
 have hnm:=hn;have hL:=LIM_eq;have h6:=hS.t6;have h8:=hS.f8;have h9:=hS.o8;unfold Z2a;refine Wp.getN hT (Wp.bind (Z7f _ _) fun v hv0 hv=>Wp.cond (fun _=>Wp.ret (by simp)) fun h=>Wp.bind (Zd4 _ _ _) fun q hq _=>Wp.cond (fun h=>Wp.ret fun h0=>by simp only at h0;simp[h0] at h) fun hq0=>Wp.bind (Z4b _) fun e he _=>Wp.cond (fun h=>Wp.ret fun h0=>by simp only at h0;simp[h0] at h) fun he0=>Wp.get hv.1 (hv.2.1 (by simpa using h)) fun col hcol _=>Wp.cond (fun _=>Wp.ret (by simp)) fun hkc=>Wp.bind (Z2u _ _) fun w _ hw=>Wp.cond (fun _=>Wp.ret (by simp)) fun hw0=>Wp.bind (Z3y _ _ fun x _=>Wp.ret trivial) fun _ _ _=>Wp.cond (fun _=>Wp.ret (by simp)) fun _=>?_);have hv2:v.2=true:=by simpa using h
 obtain rfl:e=0:=by simpa using he0
 have hq2:q.2=0:=by simpa using hq0
 refine Wp.for (fun k (S1:Sch)=>S1.tables=S.tables∧S1.cons=S.cons∧S1.fks.length≤S.fks.length+k) ⟨rfl,rfl,by omega⟩ ?_ ?_
 ·rintro k f S1 next hx hm ⟨h1,h2,h3⟩ hn;have hk:=(List.getElem?_eq_some_iff.1 hx).1;unfold Zho;exact Wp.cond (fun _=>Wp.chk (by omega) (hn _ ⟨h1,h2,by simp;omega⟩)) fun _=>hn _ ⟨h1,h2,by omega⟩
 ·rintro S1 ⟨h1,h2,_⟩;refine Wp.for (fun k (S2:Sch)=>S2.tables=S.tables∧S2.cons.length≤S.cons.length+k) ⟨h1,by rw[h2];omega⟩ ?_ ?_
  ·rintro k f S2 next hx hm ⟨g1,g2⟩ hn;have hk:=(List.getElem?_eq_some_iff.1 hx).1;unfold Zhn;exact Wp.cond (fun _=>Wp.chk (by omega) (hn _ ⟨g1,by simp;omega⟩)) fun _=>hn _ ⟨g1,by omega⟩
  ·rintro S2 ⟨g1,_⟩;refine Wp.bind (Z6u _ _ (by rw[g1];omega)) fun _ _ hI=>Wp.ret fun _=>.part (b:=q.1) hkd hT hnm (by rw[hv0,← hv2]) hcol (by rw[hq,← hq2]) he (by simpa using hkc) (hw.2.2 hw0) ?_;simp only;rw[hI.2.2,g1]
theorem Zea (a b:List Fk):Wp (Z0y a b (fun x y=>Z0a x y)) fun _=>True:=by
 unfold Z0y;refine Wp.cond (fun _=>Wp.ret trivial) fun h=>?_;have hl:a.length=b.length:=by simp at h;omega
 refine Wp.for (fun _ _=>True) trivial (fun i x s next hx _ _ hn=>?_) fun _ _=>Wp.ret trivial;have hi:=(List.getElem?_eq_some_iff.1 hx).1;exact Wp.get (by omega) (by omega) fun _ _ _=>Wp.bind (Z4p _ _) fun _ _ _=>Wp.cond (fun _=>Wp.ret trivial) fun _=>hn () trivial
theorem Zg2 (a b:List Cons):Wp (Z1n a b) fun _=>True:=by
 unfold Z1n;refine Wp.cond (fun _=>Wp.ret trivial) fun h=>?_;have hl:a.length=b.length:=by simp at h;omega
 refine Wp.for (fun _ _=>True) trivial (fun i x s next hx _ _ hn=>?_) fun _ _=>Wp.ret trivial;have hi:=(List.getElem?_eq_some_iff.1 hx).1;exact Wp.get (by omega) (by omega) fun _ _ _=>Wp.cond (fun _=>Wp.ret trivial) fun _=>hn () trivial
theorem Zh4 (a b:ByteArray) (hS:VS S):Wp (Z2o S a b) fun _=>True:=by
 have hL:=LIM_eq;have h8:=hS.f8;have h9:=hS.o8;unfold Z2o;refine Wp.for (fun k (s:List Fk × List Fk)=>s.1.length≤k∧s.2.length≤k) (by simp) ?_ ?_
 ·rintro k f s next hx hm ⟨h1,h2⟩ hn;have hk:=(List.getElem?_eq_some_iff.1 hx).1;refine Wp.cond (fun _=>Wp.ret trivial) fun _=>Wp.cond (fun _=>Wp.ret trivial) fun _=>Wp.cond (fun _=>Wp.app (by simp;omega) (hn _ ⟨by simp;omega,by simp;omega⟩)) fun _=>Wp.cond (fun _=>Wp.app (by simp;omega) (hn _ ⟨by simp;omega,by simp;omega⟩)) fun _=>hn _ ⟨by simp;omega,by simp;omega⟩
 ·rintro s _;refine Wp.bind (Zea _ _) fun _ _ _=>Wp.cond (fun _=>Wp.ret trivial) fun _=>?_;refine Wp.for (fun k (s:List Cons × List Cons)=>s.1.length≤k∧s.2.length≤k) (by simp) ?_ ?_
  ·rintro k f s next hx hm ⟨h1,h2⟩ hn;have hk:=(List.getElem?_eq_some_iff.1 hx).1;refine Wp.cond (fun _=>Wp.app (by simp;omega) (hn _ ⟨by simp;omega,by simp;omega⟩)) fun _=>Wp.cond (fun _=>Wp.app (by simp;omega) (hn _ ⟨by simp;omega,by simp;omega⟩)) fun _=>hn _ ⟨by simp;omega,by simp;omega⟩
  ·rintro s _;exact Wp.bind (Zg2 _ _) fun _ _ _=>Wp.cond (fun _=>Wp.ret trivial) fun _=>Wp.ret trivial
theorem Zf2 (x:Stp) (hT:S.tables[i]?=some T) (hS:VS S) (hn:strEq T.name x.table=true) (hkd:x.kind=9):Wp (Z32 S i x) fun q=>q.2=0→EvT S q.1.tables x:=by
 have hL:=LIM_eq;have hV:=hS.tab T (List.mem_of_getElem? hT);have hpk:=hV.pk6;have hp0:=hV.pk0;have hc6:=hV.cols6;have hc0:=hV.cols0;unfold Z32;refine Wp.bind (Z2u S _) fun v _ hv=>Wp.cond (fun _=>Wp.ret (by simp)) fun hf=>Wp.getN hT (Wp.get hv.1 (hv.2.1 (by simpa using hf)).1 fun O hO hOm=>Wp.cond (fun _=>Wp.ret (by simp)) fun hiv=>Wp.bind (Za3 _ _) fun b _ hb=>Wp.cond (fun _=>Wp.ret (by simp)) fun hb0=>Wp.bind (Z73 _ _) fun c _ hc=>Wp.cond (fun _=>Wp.ret (by simp)) fun hc0'=>Wp.bind (Zh4 _ _ hS) fun _ _ _=>Wp.cond (fun h=>Wp.ret fun h0=>by simp only at h0;simp[h0] at h) fun _=>Wp.chk ⟨⟨hp0,by omega⟩,hc0,by omega⟩ (Wp.ret fun _=>?_));obtain⟨_,O',hO',hOn⟩:=hv.2.1 (by simpa using hf);rw[hO] at hO';cases hO';refine .merge (j:=v.1.toNat) hkd hT hn hO hOn (fun e=>?_) (hb (by simpa using hb0)) (hc (by simpa using hc0')) rfl
 have:(i:Int)=v.1:=by have:=hv.1;omega
 simp[this] at hiv
end
theorem Zpa (S:Sch) (x:Stp) (hS:VS S) (hl:x.cols.length≤1048576) (hk:1≤x.kind∧x.kind≤16):Wp (Z43 S x) fun q=>q.2=0→EvT S q.1.tables x:=by
 have hL:=LIM_eq;have h6:=hS.t6;have h8:=hS.f8;have h9:=hS.o8;have kk:∀ {n:Int},(x.kind == n)=true→x.kind=n:=fun h=>by simpa using h
 have nk:∀ {n:Int},(x.kind == n)=false→x.kind≠n:=fun h=>by simpa using h
 unfold Z43;refine Wp.cond (fun h=>Wp.chk (by omega) (Wp.ret fun _=>.rule (by have:=kk h;omega) rfl)) fun n13=>Wp.cond (fun h=>(Zcq _ _).mono fun _ _ he _=>.rule (by have:=kk h;omega) he) fun n14=>Wp.cond (fun h=>Wp.chk (by omega) (Wp.ret fun _=>.rule (by have:=kk h;omega) rfl)) fun n15=>Wp.cond (fun h=>(Z8m _ _).mono fun _ _ he _=>.rule (by have:=kk h;omega) he.1) fun n16=>Wp.cond (fun h=>Zf3 _ _ (by omega) (kk h)) fun n10=>?_;refine Wp.bind (Z2u _ _) fun v _ hv=>Wp.cond (fun _=>Wp.ret (by simp)) fun hf=>?_;obtain⟨hv1,T,hT,hn⟩:=hv.2.1 (by simpa using hf);refine Wp.cond (fun h=>Zf1 _ _ _ (by omega) hT hn (kk h)) fun n4=>Wp.cond (fun h=>Zfz x hT hS hl hn (kk h)) fun n6=>Wp.cond (fun h=>Zg0 x hT hS hn (kk h)) fun n7=>Wp.cond (fun h=>Zcp x hT hS hn (kk h)) fun n8=>Wp.cond (fun h=>Zf2 x hT hS hn (kk h)) fun n9=>Wp.cond (fun h=>Zh5 x ⟨T,List.mem_of_getElem? hT,hn⟩ (kk h)) fun n11=>Wp.cond (fun h=>Zd1 x hT hS hn (kk h)) fun n12=>Wp.cond (fun h=>Zh6 x hT (hS.tab T (List.mem_of_getElem? hT)) hn (kk h)) fun n1=>Zf4 x hT hS hn ?_
 have:=nk n13;have:=nk n14;have:=nk n15;have:=nk n16;have:=nk n10;have:=nk n4;have:=nk n6;have:=nk n7;have:=nk n8;have:=nk n9;have:=nk n11;have:=nk n12;have:=nk n1
 omega
def SmallX (x:Stp):Prop:=x.cols.length≤1048576∧x.newTable.cols.length≤1048576∧x.newTable.pk.length≤1048576∧x.fk.cols.length≤1048576
theorem Zpb (S:Sch) (x:Stp) (hx:SmallX x):Wp (Z1e S x) fun r=>r.2=0→VS r.1∧VS S∧EvT S r.1.tables x:=by
 have hL:=LIM_eq;unfold Z1e;refine Wp.bind (Z4z S) fun e _ he=>Wp.cond (fun h=>Wp.ret fun h0=>?_) fun h1=>Wp.bind (Z9u x) fun e2 _ hk=>Wp.cond (fun h=>Wp.ret fun h0=>?_) fun hk0=>?_
 ·simp only at h0;rw[h0] at h;cases h
 ·simp only at h0;rw[h0] at h;cases h
 have hS:VS S:=he (by simpa using h1);refine Wp.chk ⟨⟨⟨by have:=hS.t6;omega,by have:=hS.f8;omega,by have:=hS.o8;omega⟩,fun T hT=>⟨by have:=(hS.tab T hT).cols6;omega,by have:=(hS.tab T hT).pk6;omega⟩,fun f hf=>by have:=(hS.fk f hf).1;omega⟩,by obtain⟨a,b,c,d⟩:=hx;exact⟨by omega,by omega,by omega,by omega⟩⟩ ?_;refine Wp.bind (Zpa S x hS hx.1 (hk (by simpa using hk0))) fun q _ hE=>Wp.cond (fun h=>Wp.ret fun h0=>?_) fun hq=>Wp.bind (Z4z q.1) fun e3 _ he3=>Wp.cond (fun h=>Wp.ret fun h0=>?_) fun h3=>Wp.ret fun _=>⟨he3 (by simpa using h3),hS,hE (by simpa using hq)⟩
 ·simp only at h0;rw[h0] at h;cases h
 ·simp only at h0;rw[h0] at h;cases h
end Go.Proofs.YthiojhcimecdgaaGreatDoor
end
namespace Go.Proofs.YthiojhcimecdgaaGreatDoor
section
open Go Go.Am
theorem Zis {α:Type} {xs:List α} {x y:α} {i:Nat} (h:(xs++[x])[i]?=some y):xs[i]?=some y∨(i=xs.length∧y=x):=by
 rcases Nat.lt_or_ge i xs.length with h1 | h1
 ·rw[List.getElem?_append_left h1] at h;exact .inl h
 ·have h2:=(List.getElem?_eq_some_iff.1 h).1;obtain rfl:i=xs.length:=by simp at h2;omega
  simp at h;exact .inr ⟨rfl,h.symm⟩
structure ScrOK (S:Sch) (script:List Stp) (all:List Sch):Prop where
 len:all.length=script.length+1
 l6:script.length≤6
 vs:∀ T ∈ all,VS T
 fst:all[0]?=some S
 step:∀ (i:Nat) (x:Stp) (y z:Sch),script[i]?=some x→all[i]?=some y→all[i+1]?=some z→Z1e y x=some (z,0)
theorem Zco (S:Sch) (script:List Stp) (hx:∀ x ∈ script,SmallX x):Wp (Z1b S script) fun r=>r.2=0→ScrOK S script r.1:=by
 have hL:=LIM_eq;unfold Z1b;refine Wp.cond (fun _=>Wp.ret (by simp)) fun h6=>Wp.bind (Z4z S) fun e _ he=>Wp.cond (fun h=>Wp.ret fun h0=>?_) fun h1=>?_
 ·simp only at h0;rw[h0] at h;cases h
 have hS:VS S:=he (by simpa using h1);have hl:script.length≤6:=by simp at h6;omega
 refine Wp.bind (Za0 S (by have:=hS.t6;omega) (by have:=hS.f8;omega)) fun S0 _ hS0=>?_;subst hS0;refine Wp.for (fun i (s:List Sch)=>s.length=i+1∧(∀ T ∈ s,VS T)∧s[0]?=some S0∧∀ (j:Nat) (x:Stp) (y z:Sch),script[j]?=some x→s[j]?=some y→s[j+1]?=some z→Z1e y x=some (z,0)) ⟨rfl,by simpa using hS,rfl,fun j x y z _ _ hz=>by simp at hz⟩ ?_ ?_
 ·rintro i x s next hx1 hm ⟨hs,hv,hf,hI⟩ hn;have hi:=(List.getElem?_eq_some_iff.1 hx1).1;refine Wp.get (by omega) (by omega) fun y hy _=>Wp.bind (Zpb y x (hx x hm)) fun r hr0 hr=>Wp.cond (fun h=>Wp.ret fun h0=>?_) fun h2=>Wp.app (by simp;omega) (hn _ ⟨by simp;omega,fun T hT=>?_,by rw[List.getElem?_append_left (by omega)];exact hf,fun j x' y' z' hx' hy' hz'=>?_⟩)
  ·simp only at h0;rw[h0] at h;cases h
  ·rcases List.mem_append.1 hT with h | h
   ·exact hv T h
   ·rw[List.mem_singleton.1 h];exact (hr (by simpa using h2)).1
  ·have hy2:s[j]?=some y':=by
    rcases Zis hy' with h | ⟨h,_⟩
    ·exact h
    ·have:=(List.getElem?_eq_some_iff.1 hz').1
     simp at this;omega
   rcases Zis hz' with h | ⟨h,rfl⟩
   ·exact hI j x' y' z' hx' hy2 h
   ·obtain rfl:j=i:=by omega
    simp only[Int.toNat_natCast] at hy;rw[hx1] at hx';rw[hy] at hy2;cases hx';cases hy2;rw[hr0,← show r.2=0 by simpa using h2]
 ·rintro s ⟨hs,hv,hf,hI⟩;exact Wp.ret fun _=>⟨hs,hl,hv,hf,hI⟩
theorem Ze8 (S:Sch) (script:List Stp) (hx:∀ x ∈ script,SmallX x):Wp (Z3u S script) fun r=>r.2=0→∃ all,Z1b S script=some (all,0)∧ScrOK S script all∧all[script.length]?=some r.1:=by
 unfold Z3u;refine Wp.bind (Zco S script hx) fun r hr0 hr=>Wp.cond (fun h=>Wp.ret fun h0=>?_) fun h1=>?_
 ·simp only at h0;rw[h0] at h;cases h
 ·have h2:=hr (by simpa using h1);have hl:=h2.len;refine Wp.chk ⟨by have:=h2.l6;omega,by have:=h2.l6;omega⟩ (Wp.get (by omega) (by omega) fun T hT _=>Wp.ret fun _=>⟨r.1,by rw[hr0,← show r.2=0 by simpa using h1],h2,?_⟩);rw[← hT];congr 1;omega
theorem ScrOK.last {S:Sch} {script:List Stp} {all:List Sch} (h:ScrOK S script all) {T:Sch} (hT:all[script.length]?=some T):VS T:=h.vs T (List.mem_of_getElem? hT)
def Zr3 (g:Gr):Prop:=∀ (i:Nat) (e:Edg),g.edges[i]?=some e→0≤e.parent∧e.parent≤i
structure VerOK (g:Gr) (Ss:List Sch):Prop where
 edges:Zr3 g
 l7:g.edges.length≤7
 len:Ss.length=g.edges.length+1
 vs:∀ T ∈ Ss,VS T
 edge:∀ (i:Nat) (e:Edg) (P C:Sch),g.edges[i]?=some e→Ss[e.parent.toNat]?=some P→Ss[i+1]?=some C→Z3u P e.script=some (C,0)
theorem Zar (g:Gr) (hx:∀ e ∈ g.edges,∀ x ∈ e.script,SmallX x):Wp (Z1g g) fun r=>r.2=0→VerOK g r.1:=by
 have hL:=LIM_eq;unfold Z1g;refine Wp.cond (fun _=>Wp.ret (by simp)) fun h6=>Wp.bind (Z4z _) fun e _ he=>Wp.cond (fun h=>Wp.ret fun h0=>?_) fun h1=>?_
 ·simp only at h0;rw[h0] at h;cases h
 have hS:VS g.base:=he (by simpa using h1);have hl:g.edges.length≤7:=by simp at h6;omega
 refine Wp.bind (Za0 g.base (by have:=hS.t6;omega) (by have:=hS.f8;omega)) fun S0 _ hS0=>?_;rw[hS0];refine Wp.for (fun i (s:List Sch)=>s.length=i+1∧(∀ T ∈ s,VS T)∧(∀ (j:Nat) (e:Edg),j < i→g.edges[j]?=some e→0≤e.parent∧e.parent≤j)∧∀ (j:Nat) (e:Edg) (P C:Sch),j < i→g.edges[j]?=some e→s[e.parent.toNat]?=some P→s[j+1]?=some C→Z3u P e.script=some (C,0))
  ⟨rfl,by simpa using hS,by intro j e h;omega,by intro j e P C h;omega⟩ ?_ ?_
 ·rintro i x s next hx1 hm ⟨hs,hv,hI,hE⟩ hn;have hi:=(List.getElem?_eq_some_iff.1 hx1).1;refine Wp.cond (fun _=>Wp.ret (by simp)) fun h2=>Wp.cond (fun _=>Wp.ret (by simp)) fun h3=>?_;have a2:0≤x.parent:=by simpa using h2
  have a3:x.parent≤i:=by simpa using h3
  refine Wp.get (by omega) (by omega) fun y hy _=>Wp.bind (Ze8 y x.script (hx x hm)) fun r hr0 hr=>Wp.cond (fun h=>Wp.ret fun h0=>?_) fun h2=>Wp.app (by simp;omega) (hn _ ⟨by simp;omega,fun T hT=>?_,fun j e hj he=>?_,fun j e P C hj he hP hC=>?_⟩)
  ·simp only at h0;rw[h0] at h;cases h
  ·rcases List.mem_append.1 hT with h | h
   ·exact hv T h
   ·rw[List.mem_singleton.1 h];obtain⟨all,_,ha,hl⟩:=hr (by simpa using h2);exact ha.last hl
  ·rcases Nat.lt_or_ge j i with h | h
   ·exact hI j e h he
   ·obtain rfl:j=i:=by omega
    rw[hx1] at he;cases he;exact⟨a2,a3⟩
  ·rcases Nat.lt_or_ge j i with h | h
   ·have hp:=hI j e h he;rw[List.getElem?_append_left (by omega)] at hP hC;exact hE j e P C h he hP hC
   ·obtain rfl:j=i:=by omega
    rw[hx1] at he;cases he;rw[List.getElem?_append_left (by omega),hy] at hP;rw[List.getElem?_append_right (by omega),hs,Nat.sub_self] at hC;cases hP;cases hC;rw[hr0,← show r.2=0 by simpa using h2]
 ·rintro s ⟨hs,hv,hI,hE⟩;exact Wp.ret fun _=>⟨fun i e he=>hI i e (List.getElem?_eq_some_iff.1 he).1 he,hl,hs,hv,fun i e P C he=>hE i e P C (List.getElem?_eq_some_iff.1 he).1 he⟩
def cmpI (a b:Int):Int:=if a < b then -1 else if b < a then 1 else 0
theorem Z7r (a b:Int):Z18 a b=some (cmpI a b):=by
 unfold Z18 cmpI
 by_cases h1:a < b
 ·simp[h1]
 ·by_cases h2:b < a<;>simp[h1,h2]
def cmpV (a b:GV):Int:=if cmpI a.kind b.kind≠0 then cmpI a.kind b.kind else if cmpI a.int b.int≠0 then cmpI a.int b.int else cmpS a.text b.text
theorem Zkw (a b:GV):Z1m a b=some (cmpV a b):=by
 unfold Z1m Z36 cmpV;rw[Z7r,Z7r];simp only[bindK]
 by_cases h1:cmpI a.kind b.kind=0
 ·by_cases h2:cmpI a.int b.int=0
  ·simp[h1,h2]
  ·have h3:(cmpI a.int b.int != 0)=true:=by simpa using h2
   simp[h1,h2,h3]
 ·have h3:(cmpI a.kind b.kind != 0)=true:=by simpa using h1
  simp[h1,h3]
def cmpR:List GV→List GV→Int
 | [],[]=>0
 | [],_::_=>-1
 | _::_,[]=>1
 | x::xs,y::ys=>if cmpV x y≠0 then cmpV x y else cmpR xs ys
theorem Zav (a b:List GV) (ha:a.length≤2097152):Wp (Z2f a b) fun c=>c=cmpR a b:=by
 unfold Z2f;have hmin:(Int.toNat (if (b.length:Int) < (a.length:Int) then (b.length:Int) else (a.length:Int)))=min a.length b.length:=by
  split<;>omega
 rw[hmin];refine Wp.count (fun i _=>cmpR a b=cmpR (a.drop i) (b.drop i)) (by simp) ?_ ?_
 ·intro i s next hi hI hn;have hia:i < a.length:=by omega
  have hib:i < b.length:=by omega
  refine Wp.getN (List.getElem?_eq_getElem hia) (Wp.getN (List.getElem?_eq_getElem hib) ?_);rw[List.drop_eq_getElem_cons hia,List.drop_eq_getElem_cons hib,cmpR] at hI;rw[Zkw];refine Wp.bind (R:=fun v=>v=cmpV a[i] b[i]) ⟨_,rfl,rfl⟩ fun v _ hv=>?_;subst hv;refine Wp.cond (fun h=>Wp.ret ?_) fun h=>Wp.chk ⟨by omega,by omega⟩ (hn () ?_)
  ·have h':cmpV a[i] b[i]≠0:=by simpa using h
   rw[hI,if_pos h']
  ·have h':cmpV a[i] b[i]=0:=by simpa using h
   rw[hI,if_neg (by simp[h'])]
 ·intro s hI;rw[Z7r];refine Wp.bind (R:=fun v=>v=cmpI a.length b.length) ⟨_,rfl,rfl⟩ fun v _ hv=>Wp.ret ?_;subst hv;rw[hI];unfold cmpI;rcases Nat.lt_trichotomy a.length b.length with h | h | h
  ·have e1:a.drop (min a.length b.length)=[]:=List.drop_eq_nil_of_le (by omega);rw[e1,List.drop_eq_getElem_cons (show min a.length b.length < b.length by omega)];simp[cmpR,h]
  ·have e1:a.drop (min a.length b.length)=[]:=List.drop_eq_nil_of_le (by omega);have e2:b.drop (min a.length b.length)=[]:=List.drop_eq_nil_of_le (by omega);rw[e1,e2];simp[cmpR,h]
  ·have e2:b.drop (min a.length b.length)=[]:=List.drop_eq_nil_of_le (by omega);rw[e2,List.drop_eq_getElem_cons (show min a.length b.length < a.length by omega)];have h3:¬ (a.length < b.length):=by omega
   simp[cmpR,h,h3]
def gvZ:GV:=⟨0,0,ByteArray.empty⟩
def cellF (row:List GV) (c:Int):GV:=if 0≤c then (row[c.toNat]?).getD gvZ else gvZ
def keyF (T:Tbl) (row:List GV):List GV:=T.pk.map (cellF row)
theorem Zdc {α β:Type} {xs:List α} {i:Nat} {x:α} {f:α→β} (h:xs[i]?=some x):(xs.take (i+1)).map f=(xs.take i).map f++[f x]:=by
 obtain⟨h1,h2⟩:=List.getElem?_eq_some_iff.1 h;rw[List.take_succ_eq_append_getElem h1,h2];simp
theorem w_Key (T:Tbl) (row:List GV) (hl:T.pk.length≤2097152):Wp (Z2j T row) fun k=>k=keyF T row:=by
 have hL:=LIM_eq;unfold Z2j;refine Wp.for (fun i (s:List GV)=>s=(T.pk.take i).map (cellF row)) (by simp) ?_ (fun s hs=>Wp.ret (by rw[hs,List.take_length];rfl));intro i x s next hx hm hI hn;have hi:=(List.getElem?_eq_some_iff.1 hx).1;have hsl:s.length≤i:=by rw[hI];simp;omega
 refine Wp.cond (fun h1=>Wp.cond (fun h2=>?_) fun h2=>?_) fun h1=>?_
 ·have a1:0≤x:=by simpa using h1
  have a2:x < row.length:=by simpa using h2
  refine Wp.get a1 a2 fun y hy _=>Wp.app (by simp;omega) (hn _ ?_);rw[Zdc hx,hI];simp[cellF,a1,hy]
 ·have a1:0≤x:=by simpa using h1
  have a2:¬ (x < row.length):=by simpa using h2
  refine Wp.app (by simp;omega) (hn _ ?_);rw[Zdc hx,hI]
  have:row[x.toNat]?=none:=List.getElem?_eq_none (by omega)
  simp[cellF,a1,this,gvZ]
 ·have a1:¬ (0≤x):=by simpa using h1
  refine Wp.app (by simp;omega) (hn _ ?_);rw[Zdc hx,hI];simp[cellF,a1,gvZ]
structure CR (T:Tbl) (row:List GV):Prop where
 len:row.length=T.cols.length
 cell:∀ (i:Nat) (x:GV) (c:Col),row[i]?=some x→T.cols[i]?=some c→Z0g x=some 0∧(x.kind=0→c.nullable=true)∧(x.kind≠0→x.kind=c.kind)
theorem Zbm {α β:Type} {xs:List α} {ys:List β} {p:α→β→Prop} {i:Nat} {x:α} {y:β} (h:∀ (j:Nat) (a:α) (b:β),j < i→xs[j]?=some a→ys[j]?=some b→p a b) (hx:xs[i]?=some x) (hy:ys[i]?=some y) (hp:p x y) :
  ∀ (j:Nat) (a:α) (b:β),j < i+1→xs[j]?=some a→ys[j]?=some b→p a b:=by
 intro j a b hj ha hb;rcases Nat.lt_or_ge j i with h1 | h1
 ·exact h j a b h1 ha hb
 ·obtain rfl:j=i:=by omega
  rw[hx] at ha;rw[hy] at hb;cases ha;cases hb;exact hp
theorem Zau (T:Tbl) (row:List GV):Wp (Z0b T row) fun e=>e=0→CR T row:=by
 unfold Z0b;refine Wp.cond (fun _=>Wp.ret (by simp)) fun h1=>?_;have hl:row.length=T.cols.length:=by simp at h1;omega
 refine Wp.for (fun i _=>∀ (j:Nat) (x:GV) (c:Col),j < i→row[j]?=some x→T.cols[j]?=some c→Z0g x=some 0∧(x.kind=0→c.nullable=true)∧(x.kind≠0→x.kind=c.kind)) (by intro j x c h;omega) ?_ fun s hI=>Wp.ret fun _=>⟨hl,fun i x c hx hc=>hI i x c (List.getElem?_eq_some_iff.1 hx).1 hx hc⟩;intro i x s next hx hm hI hn;have hi:=(List.getElem?_eq_some_iff.1 hx).1;have hic:i < T.cols.length:=by omega
 have hcx:T.cols[i]?=some T.cols[i]:=List.getElem?_eq_getElem hic;generalize T.cols[i]=c at hcx;refine Wp.bind (Z4b x) fun v hv _=>Wp.cond (fun h=>Wp.ret (by intro h0;simp[h0] at h)) fun h2=>?_;obtain rfl:v=0:=by simpa using h2
 refine Wp.cond (fun h3=>?_) fun h3=>?_
 ·have a3:x.kind=0:=by simpa using h3
  refine Wp.getN hcx (Wp.cond (fun _=>Wp.ret (by simp)) fun h4=>Wp.cond (fun h5=>?_) fun _=>hn () (Zbm hI hx hcx ⟨hv,fun _=>by simpa using h4,fun h=>absurd a3 h⟩));simp[a3] at h5
 ·have a3:x.kind≠0:=by simpa using h3
  refine Wp.cond (fun _=>Wp.getN hcx (Wp.cond (fun _=>Wp.ret (by simp)) fun h4=>hn () (Zbm hI hx hcx ⟨hv,fun h=>absurd h a3,fun _=>by simpa using h4⟩))) fun h5=>?_;simp[a3] at h5
def Asc (T:Tbl) (rows:List (List GV)):Prop:=∀ (i:Nat) (a b:List GV),rows[i]?=some a→rows[i+1]?=some b→cmpR (keyF T a) (keyF T b) < 0
structure CF (S:Sch) (inst:List Rel):Prop where
 len:inst.length=S.tables.length
 name:∀ (i:Nat) (x:Rel) (T:Tbl),inst[i]?=some x→S.tables[i]?=some T→strEq x.table T.name=true
 l24:∀ x ∈ inst,x.rows.length≤24
 row:∀ (i:Nat) (x:Rel) (T:Tbl),inst[i]?=some x→S.tables[i]?=some T→∀ row ∈ x.rows,CR T row
 asc:∀ (i:Nat) (x:Rel) (T:Tbl),inst[i]?=some x→S.tables[i]?=some T→Asc T x.rows
theorem Zjb (S:Sch) (hS:∀ T ∈ S.tables,T.pk.length≤6) (inst:List Rel):Wp (Z0d S inst) fun e=>e=0→CF S inst:=by
 unfold Z0d;refine Wp.cond (fun _=>Wp.ret (by simp)) fun h1=>?_;have hl:inst.length=S.tables.length:=by simp at h1;omega
 refine Wp.for (fun i _=>∀ (j:Nat) (x:Rel) (T:Tbl),j < i→inst[j]?=some x→S.tables[j]?=some T→strEq x.table T.name=true∧x.rows.length≤24∧(∀ row ∈ x.rows,CR T row)∧Asc T x.rows) (by intro j x c h;omega) ?_ ?_
 ·intro i x s next hx hm hI hn;have hi:=(List.getElem?_eq_some_iff.1 hx).1;have hic:i < S.tables.length:=by omega
  have hcx:S.tables[i]?=some S.tables[i]:=List.getElem?_eq_getElem hic;have hpk:=hS _ (List.getElem_mem hic);generalize S.tables[i]=T at hcx hpk;refine Wp.getN hcx (Wp.cond (fun _=>Wp.ret (by simp)) fun h2=>Wp.cond (fun _=>Wp.ret (by simp)) fun h3=>?_);have a3:x.rows.length≤24:=by simp at h3;omega
  refine Wp.for (fun i _=>(∀ (j:Nat) (row:List GV),j < i→x.rows[j]?=some row→CR T row)∧∀ (j:Nat) (a b:List GV),j+1 < i→x.rows[j]?=some a→x.rows[j+1]?=some b→cmpR (keyF T a) (keyF T b) < 0) ⟨by intro j r h;omega,by intro j a b h;omega⟩ ?_ ?_
  ·rintro k row s next2 hr hrm ⟨hJ,hK⟩ hn2;have hk:=(List.getElem?_eq_some_iff.1 hr).1;refine Wp.bind (Zau T row) fun e _ he=>Wp.cond (fun h=>Wp.ret (by intro h0;simp[h0] at h)) fun h4=>?_;have hcr:=he (by simpa using h4);refine Wp.cond (fun h5=>hn2 () ⟨Z4d hJ hr hcr,?_⟩) fun h5=>Wp.chk ⟨by omega,by omega⟩ ?_
   ·have hk0:k=0:=by simp at h5;omega
    intro j a b hj;omega
   ·have hk0:k≠0:=by simp at h5;omega
    have hk1:k - 1 < x.rows.length:=by omega
    have hr0:x.rows[k - 1]?=some x.rows[k - 1]:=List.getElem?_eq_getElem hk1;rw[show (k:Int) - 1=((k - 1:Nat):Int) by omega];generalize x.rows[k - 1]=row0 at hr0;refine Wp.getN hr0 (Wp.bind (w_Key T row0 (by omega)) fun k0 _ h0=>Wp.bind (w_Key T row (by omega)) fun k1 _ h1=>?_);subst h0 h1;refine Wp.bind (Zav _ _ (by simp[keyF];omega)) fun c _ hc=>Wp.cond (fun _=>Wp.ret (by simp)) fun h6=>Wp.cond (fun _=>Wp.ret (by simp)) fun h7=>hn2 () ⟨Z4d hJ hr hcr,?_⟩;have a6:c≠0:=by simpa using h6
    have a7:¬ (0 < c):=by simpa using h7
    intro j a b hj ha hb;rcases Nat.lt_or_ge (j+1) k with h | h
    ·exact hK j a b h ha hb
    ·obtain rfl:k=j+1:=by omega
     rw[hr] at hb;rw[show j+1 - 1=j by omega,ha] at hr0;cases hb;cases hr0;rw[← hc];omega
  ·rintro s ⟨hJ,hK⟩;exact hn () (Zbm hI hx hcx ⟨by simpa using h2,a3,Z6v hJ,fun i a b ha hb=>hK i a b (List.getElem?_eq_some_iff.1 hb).1 ha hb⟩)
 ·intro s hI;refine Wp.ret fun _=>⟨hl,fun i x T hx hT=>(hI i x T (List.getElem?_eq_some_iff.1 hx).1 hx hT).1,fun x hx=>?_,fun i x T hx hT=>(hI i x T (List.getElem?_eq_some_iff.1 hx).1 hx hT).2.2.1,fun i x T hx hT=>(hI i x T (List.getElem?_eq_some_iff.1 hx).1 hx hT).2.2.2⟩;obtain⟨i,hi,rfl⟩:=List.getElem_of_mem hx;exact (hI i _ _ hi (List.getElem?_eq_getElem hi) (List.getElem?_eq_getElem (by omega))).2.1
theorem Zmu {a b:Int}:cmpI a b < 0↔a < b:=by
 unfold cmpI;split
 ·simp[*]
 ·split<;>simp[*]
theorem Z6l {a b:Int}:cmpI a b=0↔a=b:=by
 unfold cmpI;split
 ·simp;omega
 ·split
  ·simp;omega
  ·simp;omega
theorem Zr0:∀ {a b:List UInt8},Lib.compareBytes a b=0→a=b:=by
 intro a
 induction a with
 | nil=>intro b h;cases b with
   | nil=>rfl
   | cons y b=>simp[Lib.compareBytes] at h
 | cons x a ih=>
   intro b h;cases b with
   | nil=>simp[Lib.compareBytes] at h
   | cons y b=>
     simp only[Lib.compareBytes] at h;split at h
     ·simp at h
     ·split at h
      ·simp at h
      ·rename_i h1 h2;have h3:¬ (x.toNat < y.toNat):=fun h=>h1 (UInt8.lt_iff_toNat_lt.2 h);have h4:¬ (y.toNat < x.toNat):=fun h=>h2 (UInt8.lt_iff_toNat_lt.2 h)
       have:x=y:=UInt8.toNat_inj.1 (by omega)
       rw[this,ih h]
theorem Zou:∀ {a b c:List UInt8},Lib.compareBytes a b < 0→Lib.compareBytes b c < 0→Lib.compareBytes a c < 0:=by
 intro a
 induction a with
 | nil=>
   intro b c h1 h2;cases c with
   | nil=>cases b<;>simp[Lib.compareBytes] at h1 h2
   | cons z c=>simp[Lib.compareBytes]
 | cons x a ih=>
   intro b c h1 h2;cases b with
   | nil=>simp[Lib.compareBytes] at h1
   | cons y b=>
     cases c with
     | nil=>simp[Lib.compareBytes] at h2
     | cons z c=>
       simp only[Lib.compareBytes,UInt8.lt_iff_toNat_lt] at h1 h2 ⊢;split at h1
       ·split at h2
        ·rw[if_pos (by omega)];decide
        ·split at h2
         ·simp at h2
         ·rw[if_pos (by omega)];decide
       ·split at h1
        ·simp at h1
        ·split at h2
         ·rw[if_pos (by omega)];decide
         ·split at h2
          ·simp at h2
          ·rw[if_neg (by omega),if_neg (by omega)];exact ih h1 h2
theorem Zmt {a b:GV}:cmpV a b < 0↔a.kind < b.kind∨(a.kind=b.kind∧(a.int < b.int∨(a.int=b.int∧cmpS a.text b.text < 0))):=by
 unfold cmpV
 by_cases h1:cmpI a.kind b.kind=0
 ·have e1:=Z6l.1 h1
  by_cases h2:cmpI a.int b.int=0
  ·have e2:=Z6l.1 h2;simp[e1,e2,cmpI]
  ·have e2:a.int≠b.int:=fun h=>h2 (Z6l.2 h);rw[if_neg (by simp[h1]),if_pos h2,Zmu];simp[e1,e2]
 ·have e1:a.kind≠b.kind:=fun h=>h1 (Z6l.2 h);rw[if_pos h1,Zmu];simp[e1]
theorem Zbd {a b:GV} (h:cmpV a b=0):a=b:=by
 unfold cmpV at h
 by_cases h1:cmpI a.kind b.kind=0
 ·by_cases h2:cmpI a.int b.int=0
  ·rw[if_neg (by simp[h1]),if_neg (by simp[h2])] at h;have e3:=Zr0 h;obtain⟨k,n,t⟩:=a;obtain⟨k',n',t'⟩:=b;have e1:=Z6l.1 h1;have e2:=Z6l.1 h2;simp only at e1 e2 e3;subst e1 e2
   have:t=t':=by
    cases t with
    | mk d=>cases t' with
      | mk d'=>
        have:=Array.toList_inj.1 e3
        rw[show d=d' from this]
   rw[this]
  ·rw[if_neg (by simp[h1]),if_pos h2] at h;exact absurd h h2
 ·rw[if_pos h1] at h;exact absurd h h1
theorem Zkx {a b c:GV} (h1:cmpV a b < 0) (h2:cmpV b c < 0):cmpV a c < 0:=by
 rw[Zmt] at h1 h2 ⊢;rcases h1 with h1 | ⟨e1,h1⟩
 ·rcases h2 with h2 | ⟨e2,_⟩
  ·exact .inl (by omega)
  ·exact .inl (by omega)
 ·rcases h2 with h2 | ⟨e2,h2⟩
  ·exact .inl (by omega)
  ·refine .inr ⟨by omega,?_⟩;rcases h1 with h1 | ⟨f1,h1⟩
   ·rcases h2 with h2 | ⟨f2,_⟩
    ·exact .inl (by omega)
    ·exact .inl (by omega)
   ·rcases h2 with h2 | ⟨f2,h2⟩
    ·exact .inl (by omega)
    ·exact .inr ⟨by omega,Zou h1 h2⟩
theorem Z9q:∀ {a b c:List GV},cmpR a b < 0→cmpR b c < 0→cmpR a c < 0:=by
 intro a
 induction a with
 | nil=>
   intro b c h1 h2;cases c with
   | nil=>cases b<;>simp[cmpR] at h1 h2
   | cons z c=>simp[cmpR]
 | cons x a ih=>
   intro b c h1 h2;cases b with
   | nil=>simp[cmpR] at h1
   | cons y b=>
     cases c with
     | nil=>simp[cmpR] at h2
     | cons z c=>
       simp only[cmpR] at h1 h2 ⊢
       by_cases e1:cmpV x y=0
       ·have:=Zbd e1
        subst this;rw[if_neg (by simp[e1])] at h1
        by_cases e2:cmpV x z=0
        ·rw[if_neg (by simp[e2])] at h2 ⊢;exact ih h1 h2
        ·rw[if_pos e2] at h2 ⊢;exact h2
       ·rw[if_pos e1] at h1
        by_cases e2:cmpV y z=0
        ·have:=Zbd e2
         subst this;rw[if_pos e1];exact h1
        ·rw[if_pos e2] at h2
         have:=Zkx h1 h2
         rw[if_pos (by omega)];exact this
def AscP (T:Tbl) (rows:List (List GV)):Prop:=rows.Pairwise fun a b=>cmpR (keyF T a) (keyF T b) < 0
theorem Asc.pw {T:Tbl} {rows:List (List GV)} (h:Asc T rows):AscP T rows:=by
 have key:∀ (n i:Nat) (a b:List GV),rows[i]?=some a→rows[i+1+n]?=some b→cmpR (keyF T a) (keyF T b) < 0:=by
  intro n
  induction n with
  | zero=>intro i a b ha hb;exact h i a b ha hb
  | succ n ih=>
    intro i a b ha hb;have hl:=(List.getElem?_eq_some_iff.1 hb).1;have hc:rows[i+1+n]?=some rows[i+1+n]:=List.getElem?_eq_getElem (by omega);exact Z9q (ih i a _ ha hc) (h (i+1+n) _ b hc hb)
 refine List.pairwise_iff_getElem.2 fun i j hi hj hij=>?_;refine key (j - (i+1)) i _ _ (List.getElem?_eq_getElem hi) ?_;rw[show i+1+(j - (i+1))=j by omega];exact List.getElem?_eq_getElem hj
theorem AscP.asc {T:Tbl} {rows:List (List GV)} (h:AscP T rows):Asc T rows:=by
 intro i a b ha hb;obtain⟨h1,rfl⟩:=List.getElem?_eq_some_iff.1 ha;obtain⟨h2,rfl⟩:=List.getElem?_eq_some_iff.1 hb;exact List.pairwise_iff_getElem.1 h i (i+1) h1 h2 (by omega)
theorem Wp.eq {α:Type} {m:Option α} {v:α} (h:Wp m fun r=>r=v):m=some v:=by
 obtain⟨r,h1,rfl⟩:=h;exact h1
theorem Z6m (rows:List (List GV)) (h:rows.length≤1048576):Wp (Z0p rows) fun r=>r=rows:=by
 have hL:=LIM_eq;unfold Z0p;refine Wp.for (fun i (s:List (List GV))=>s=rows.take i) (by simp) ?_ (fun s hs=>Wp.ret (by rw[hs,List.take_length]));intro i x s next hx _ hI hn;have hi:=(List.getElem?_eq_some_iff.1 hx).1;refine Wp.bind (R:=fun y=>y=x) ⟨x,rfl,rfl⟩ fun y _ hy=>?_;subst hy;refine Wp.app (by rw[hI];simp;omega) (hn _ ?_);obtain⟨h8,h9⟩:=List.getElem?_eq_some_iff.1 hx;rw[List.take_succ_eq_append_getElem h8,h9,hI]
theorem Z8l (inst:List Rel) (h:inst.length≤1048576) (hr:∀ x ∈ inst,x.rows.length≤1048576):Wp (Z0h inst) fun r=>r=inst:=by
 have hL:=LIM_eq;unfold Z0h;refine Wp.for (fun i (s:List Rel)=>s=inst.take i) (by simp) ?_ (fun s hs=>Wp.ret (by rw[hs,List.take_length]));intro i x s next hx hm hI hn;have hi:=(List.getElem?_eq_some_iff.1 hx).1;refine Wp.bind (Z6m x.rows (hr x hm)) fun y _ hy=>?_;subst hy;refine Wp.app (by rw[hI];simp;omega) (hn _ ?_);obtain⟨h8,h9⟩:=List.getElem?_eq_some_iff.1 hx;rw[List.take_succ_eq_append_getElem h8,h9,hI]
theorem Zix {a b:Int}:0 < cmpI a b↔b < a:=by
 unfold cmpI;split
 ·simp;omega
 ·split<;>simp[*]
theorem cb_pos:∀ {a b:List UInt8},0 < Lib.compareBytes a b→Lib.compareBytes b a < 0:=by
 intro a
 induction a with
 | nil=>intro b h;cases b<;>simp[Lib.compareBytes] at h
 | cons x a ih=>
   intro b h;cases b with
   | nil=>simp[Lib.compareBytes]
   | cons y b=>
     simp only[Lib.compareBytes,UInt8.lt_iff_toNat_lt] at h ⊢;split at h
     ·simp at h
     ·split at h
      ·rw[if_pos (by omega)];decide
      ·rw[if_neg (by omega),if_neg (by omega)];exact ih h
theorem Zor {a b:GV} (h:0 < cmpV a b):cmpV b a < 0:=by
 rw[Zmt];unfold cmpV at h
 by_cases h1:cmpI a.kind b.kind=0
 ·have e1:=Z6l.1 h1;rw[if_neg (by simp[h1])] at h
  by_cases h2:cmpI a.int b.int=0
  ·have e2:=Z6l.1 h2;rw[if_neg (by simp[h2])] at h;exact .inr ⟨e1.symm,.inr ⟨e2.symm,cb_pos h⟩⟩
  ·rw[if_pos h2] at h;exact .inr ⟨e1.symm,.inl (Zix.1 h)⟩
 ·rw[if_pos h1] at h;exact .inl (Zix.1 h)
theorem Zos:∀ {a b:List GV},0 < cmpR a b→cmpR b a < 0:=by
 intro a
 induction a with
 | nil=>intro b h;cases b<;>simp[cmpR] at h
 | cons x a ih=>
   intro b h;cases b with
   | nil=>simp[cmpR]
   | cons y b=>
     simp only[cmpR] at h ⊢
     by_cases e:cmpV x y=0
     ·have:=Zbd e
      subst this;rw[if_neg (by simp[e])] at h ⊢;exact ih h
     ·rw[if_pos e] at h;have h2:=Zor h;rw[if_pos (by omega)];exact h2
theorem Zgu:∀ {a b:List GV},cmpR a b=0→a=b:=by
 intro a
 induction a with
 | nil=>intro b h;cases b with
   | nil=>rfl
   | cons y b=>simp[cmpR] at h
 | cons x a ih=>
   intro b h;cases b with
   | nil=>simp[cmpR] at h
   | cons y b=>
     simp only[cmpR] at h
     by_cases e:cmpV x y=0
     ·rw[if_neg (by simp[e])] at h;rw[Zbd e,ih h]
     ·rw[if_pos e] at h;exact absurd h e
structure Mid (T:Tbl) (rows:List (List GV)) (k:List GV) (a b os:List (List GV)):Prop where
 eq:rows=a++(os++b)
 lo:∀ x ∈ a,cmpR (keyF T x) k < 0
 hi:∀ x ∈ b,cmpR k (keyF T x) < 0
 os:os=[]∨∃ o,os=[o]∧keyF T o=k
theorem w_Find (T:Tbl) (rows:List (List GV)) (key:List GV) (hT:T.pk.length≤6):Wp (Z25 T rows key) fun q=>∃ i:Nat,q.1=i∧i≤rows.length∧(∀ (j:Nat) (row:List GV),j < i→rows[j]?=some row→cmpR (keyF T row) key < 0) ∧
  (q.2=true→∃ row,rows[i]?=some row∧cmpR (keyF T row) key=0)∧(q.2=false→∀ row,rows[i]?=some row→0 < cmpR (keyF T row) key):=by
 unfold Z25;refine Wp.for (fun i _=>∀ (j:Nat) (row:List GV),j < i→rows[j]?=some row→cmpR (keyF T row) key < 0) (by intro j r h;omega) ?_ ?_
 ·intro i x s next hx hm hI hn;refine Wp.bind (w_Key T x (by omega)) fun k _ hk=>?_;subst hk;refine Wp.bind (Zav _ _ (by simp[keyF];omega)) fun c _ hc=>?_;subst hc;refine Wp.cond (fun h=>Wp.ret ⟨i,rfl,by have:=(List.getElem?_eq_some_iff.1 hx).1;omega,hI,fun h9=>⟨x,hx,by simpa using h9⟩,fun h9 row hr=>?_⟩) fun h=>hn () (Z4d hI hx ?_)
  ·rw[hx] at hr;cases hr;have h1:0≤cmpR (keyF T x) key:=by simpa using h
   have h2:cmpR (keyF T x) key≠0:=by simpa using h9
   omega
  ·have:¬ (0≤cmpR (keyF T x) key):=by simpa using h
   omega
 ·intro s hI;exact Wp.ret ⟨rows.length,rfl,Nat.le_refl _,hI,fun h=>by simp at h,fun _ row h=>by rw[List.getElem?_eq_none (Nat.le_refl _)] at h;cases h⟩
theorem Zm5 {α:Type} {xs:List α} {i:Nat} {p:α→Prop} (h:∀ (j:Nat) (x:α),j < i→xs[j]?=some x→p x):∀ x ∈ xs.take i,p x:=by
 intro x hx;obtain⟨j,hj,rfl⟩:=List.getElem_of_mem hx;simp only[List.length_take] at hj;rw[List.getElem_take];exact h j _ (by omega) (List.getElem?_eq_getElem (by omega))
theorem Zgh {T:Tbl} {rows:List (List GV)} {k:List GV} {i:Nat} {o:List GV} (ha:AscP T rows) (hlo:∀ (j:Nat) (row:List GV),j < i→rows[j]?=some row→cmpR (keyF T row) k < 0) (ho:rows[i]?=some o) (hk:cmpR (keyF T o) k=0):Mid T rows k (rows.take i) (rows.drop (i+1)) [o]:=by
 obtain⟨h1,h2⟩:=List.getElem?_eq_some_iff.1 ho;have e:rows.drop i=o::rows.drop (i+1):=by rw[List.drop_eq_getElem_cons h1,h2]
 refine⟨by rw[List.singleton_append,← e,List.take_append_drop],Zm5 hlo,fun x hx=>?_,.inr ⟨o,rfl,Zgu hk⟩⟩;have hd:AscP T (o::rows.drop (i+1)):=by rw[← e];exact List.Pairwise.sublist (List.drop_sublist _ _) ha
 have:=(List.pairwise_cons.1 hd).1 x hx
 rwa [Zgu hk] at this
theorem Zok {T:Tbl} {rows:List (List GV)} {k:List GV} {i:Nat} (ha:AscP T rows) (hlo:∀ (j:Nat) (row:List GV),j < i→rows[j]?=some row→cmpR (keyF T row) k < 0) (hi:∀ row,rows[i]?=some row→0 < cmpR (keyF T row) k):Mid T rows k (rows.take i) (rows.drop i) []:=by
 refine⟨by rw[List.nil_append,List.take_append_drop],Zm5 hlo,fun x hx=>?_,.inl rfl⟩;rcases Nat.lt_or_ge i rows.length with h1 | h1
 ·have e:=List.drop_eq_getElem_cons h1;have h2:=Zos (hi _ (List.getElem?_eq_getElem h1));have hd:AscP T (rows.drop i):=List.Pairwise.sublist (List.drop_sublist _ _) ha;rw[e] at hx hd;rcases List.mem_cons.1 hx with rfl | h3
  ·exact h2
  ·exact Z9q h2 ((List.pairwise_cons.1 hd).1 x h3)
 ·rw[List.drop_eq_nil_of_le h1] at hx;cases hx
theorem Mid.parts {T:Tbl} {rows:List (List GV)} {k:List GV} {a b os:List (List GV)} (h:Mid T rows k a b os) (ha:AscP T rows):AscP T a∧AscP T b:=by
 rw[h.eq] at ha;have h1:=List.pairwise_append.1 ha;exact⟨h1.1,(List.pairwise_append.1 h1.2.1).2.1⟩
theorem Mid.put {T:Tbl} {rows:List (List GV)} {k row:List GV} {a b os:List (List GV)} (h:Mid T rows k a b os) (ha:AscP T rows) (hk:keyF T row=k):AscP T (a++row::b):=by
 obtain⟨h1,h2⟩:=h.parts ha;subst hk;refine List.pairwise_append.2 ⟨h1,List.pairwise_cons.2 ⟨h.hi,h2⟩,fun x hx y hy=>?_⟩;rcases List.mem_cons.1 hy with rfl | h3
 ·exact h.lo x hx
 ·exact Z9q (h.lo x hx) (h.hi y h3)
theorem Mid.del {T:Tbl} {rows:List (List GV)} {k:List GV} {a b os:List (List GV)} (h:Mid T rows k a b os) (ha:AscP T rows):AscP T (a++b):=by
 obtain⟨h1,h2⟩:=h.parts ha;exact List.pairwise_append.2 ⟨h1,h2,fun x hx y hy=>Z9q (h.lo x hx) (h.hi y hy)⟩
theorem Zn4 (T:Tbl) (rows:List (List GV)) (row:List GV) (hT:T.pk.length≤6) (hl:rows.length≤24) (ha:AscP T rows):Wp (Z40 T rows row) fun out=>∃ a b os,Mid T rows (keyF T row) a b os∧out=a++row::b:=by
 unfold Z40;refine Wp.bind (Z6m rows (by omega)) fun o _ ho=>?_;subst ho;refine Wp.bind (w_Key T row (by omega)) fun k _ hk=>?_;subst hk;refine Wp.bind (w_Find T o _ hT) fun q _ hq=>?_;obtain⟨i,hi,hil,hlo,ht,hf⟩:=hq;rw[hi];refine Wp.cond (fun h=>?_) fun h=>?_
 ·obtain⟨x,hx,hz⟩:=ht h;have hlt:=(List.getElem?_eq_some_iff.1 hx).1;refine Wp.chk ⟨by omega,by omega⟩ (Wp.ret ⟨_,_,_,Zgh ha hlo hx hz,?_⟩);rw[Int.toNat_natCast,List.set_eq_take_append_cons_drop,if_pos hlt]
 ·refine Wp.chk ⟨by omega,by omega,by omega⟩ (Wp.ret ⟨_,_,_,Zok ha hlo (hf h),?_⟩);simp
theorem Zn5 (T:Tbl) (rows:List (List GV)) (key:List GV) (hT:T.pk.length≤6) (hl:rows.length≤24) (ha:AscP T rows):Wp (Z41 T rows key) fun q=>q.2=true→∃ a b o,Mid T rows key a b [o]∧q.1=a++b:=by
 unfold Z41;refine Wp.bind (Z6m rows (by omega)) fun o _ ho=>?_;subst ho;refine Wp.bind (w_Find T o _ hT) fun q _ hq=>?_;obtain⟨i,hi,hil,hlo,ht,hf⟩:=hq;rw[hi];refine Wp.cond (fun h=>?_) fun h=>Wp.ret fun h9=>by simp at h9
 obtain⟨x,hx,hz⟩:=ht h;have hlt:=(List.getElem?_eq_some_iff.1 hx).1;exact Wp.chk ⟨by omega,by omega⟩ (Wp.ret fun _=>⟨_,_,_,Zgh ha hlo hx hz,rfl⟩)
structure CS (S:Sch) (c:Chg) (out out':List Rel) (k:Nat) (T:Tbl) (o:Rel) (rows:List (List GV)):Prop where
 ft:Z05 S c.table=some ((k:Int),true)
 t:S.tables[k]?=some T
 nm:strEq T.name c.table=true
 ok:out[k]?=some o
 eq:out'=out.set k ⟨o.table,rows⟩
 up:c.kind=1→CR T c.row∧∃ a b os,Mid T o.rows (keyF T c.row) a b os∧rows=a++c.row::b
 dl:c.kind≠1→∃ a b x,Mid T o.rows c.key a b [x]∧rows=a++b
 vd:Z37 S c=some 0
theorem CF.set {S:Sch} {out:List Rel} {k:Nat} {T:Tbl} {o:Rel} {rows:List (List GV)} (h:CF S out) (hT:S.tables[k]?=some T) (ho:out[k]?=some o) (hl:rows.length≤24) (hr:∀ row ∈ rows,CR T row) (ha:AscP T rows):CF S (out.set k ⟨o.table,rows⟩):=by
 have at':∀ (i:Nat) (x:Rel),(out.set k ⟨o.table,rows⟩)[i]?=some x→(i=k∧x=⟨o.table,rows⟩)∨(i≠k∧out[i]?=some x):=fun i x hx=>by
  rw[List.getElem?_set] at hx
  by_cases hk:k=i
  ·subst hk
   have:=(List.getElem?_eq_some_iff.1 ho).1
   simp[this] at hx;exact .inl ⟨rfl,hx.symm⟩
  ·rw[if_neg hk] at hx;exact .inr ⟨fun h=>hk h.symm,hx⟩
 refine⟨by simpa using h.len,fun i x T' hx hT'=>?_,fun x hx=>?_,fun i x T' hx hT'=>?_,fun i x T' hx hT'=>?_⟩
 ·rcases at' i x hx with ⟨rfl,rfl⟩ | ⟨_,h1⟩
  ·exact h.name i o T' ho hT'
  ·exact h.name i x T' h1 hT'
 ·obtain⟨i,hi,rfl⟩:=List.getElem_of_mem hx;rcases at' i _ (List.getElem?_eq_getElem hi) with ⟨_,h1⟩ | ⟨_,h1⟩
  ·rw[h1];exact hl
  ·exact h.l24 _ (List.mem_of_getElem? h1)
 ·rcases at' i x hx with ⟨rfl,rfl⟩ | ⟨_,h1⟩
  ·rw[hT] at hT';cases hT';exact hr
  ·exact h.row i x T' h1 hT'
 ·rcases at' i x hx with ⟨rfl,rfl⟩ | ⟨_,h1⟩
  ·rw[hT] at hT';cases hT';exact ha.asc
  ·exact h.asc i x T' h1 hT'
theorem Zf0 {T:Tbl} (hT:VT T) (key:List GV):Wp (Z0o T key) fun _=>True:=by
 unfold Z0o;refine Wp.cond (fun _=>Wp.ret trivial) fun h=>Wp.for (fun _ _=>True) trivial ?_ fun _ _=>Wp.ret trivial;intro i x s next hx hm _ hn;have hl:key.length=T.pk.length:=by simp at h;omega
 have hi:=(List.getElem?_eq_some_iff.1 hx).1;have hp:T.pk[i]?=some T.pk[i]:=List.getElem?_eq_getElem (by omega);have h1:=hT.pk _ (List.mem_of_getElem? hp);refine Wp.bind (Z4b _) fun _ _ _=>Wp.cond (fun _=>Wp.ret trivial) fun _=>Wp.getN hp (Wp.get h1.1 h1.2 fun _ _ _=>Wp.cond (fun _=>Wp.ret trivial) fun _=>hn () trivial)
theorem Zj8 {S:Sch} (hS:VS S) (c:Chg):Wp (Z37 S c) fun e=>e=0→∃ (k:Nat) (T:Tbl),Z05 S c.table=some ((k:Int),true)∧S.tables[k]?=some T∧strEq T.name c.table=true∧(c.kind=1→CR T c.row):=by
 have ft:∀ (K:Tbl→Option Int),(∀ T ∈ S.tables,Wp (K T) fun e=>e=0→c.kind=1→CR T c.row)→Wp (bindK (Z05 S c.table) fun v=>bif !v.2 then some 4 else getK S.tables v.1 fun x=>K x) fun e=>e=0→∃ (k:Nat) (T:Tbl),Z05 S c.table=some ((k:Int),true)∧S.tables[k]?=some T∧strEq T.name c.table=true∧(c.kind=1→CR T c.row):=fun K hK=>by
  refine Wp.bind (Z2u S c.table) fun v hv0 hv=>Wp.cond (fun _=>Wp.ret (by simp)) fun h=>?_;have h2:v.2=true:=by simpa using h
  obtain⟨hlt,T0,hT0,hn⟩:=hv.2.1 h2;refine Wp.get hv.1 hlt fun T hT hTm=>(hK T hTm).mono fun e _ he h0=>⟨v.1.toNat,T,?_,hT,?_,he h0⟩
  ·rw[hv0,Int.toNat_of_nonneg hv.1,← h2]
  ·rw[hT0] at hT;cases hT;exact hn
 have k1:=ft (fun x=>bindK (Z0b x c.row) fun v=>some v) fun T _=>Wp.bind (Zau T c.row) fun e _ he=>Wp.ret fun h0 _=>he h0;have k2:c.kind≠1→_:=fun h=>ft (fun x=>bindK (Z0o x c.key) fun v=>some v) fun T hT=>Wp.bind (Zf0 (hS.tab T hT) c.key) fun _ _ _=>Wp.ret fun _ h1=>absurd h1 h;have r3:∀ {Q:Int→Prop} (_:Q 3),Wp (some (3:Int)) Q:=fun h=>Wp.ret h;unfold Z37;refine Wp.cond (fun _=>Wp.cond (fun _=>Wp.ret (by simp)) fun _=>Wp.cond (fun _=>Wp.cond (fun _=>Wp.ret (by simp)) fun _=>Wp.cond (fun _=>Wp.cond (fun _=>Wp.ret (by simp)) fun _=>k1) fun _=>k1) fun _=>Wp.cond (fun _=>Wp.cond (fun _=>Wp.ret (by simp)) fun _=>k1) fun _=>k1) fun h=>?_;have h1:c.kind≠1:=by simpa using h
 exact Wp.cond (fun _=>Wp.cond (fun _=>Wp.ret (by simp)) fun _=>Wp.cond (fun _=>Wp.cond (fun _=>Wp.ret (by simp)) fun _=>k2 h1) fun _=>k2 h1) fun _=>Wp.cond (fun _=>Wp.cond (fun _=>Wp.ret (by simp)) fun _=>k2 h1) fun _=>k2 h1
theorem w_chg {ρ:Type} {Q:ρ→Prop} {S:Sch} (hS:VS S) (c:Chg) (out:List Rel) (hC:CF S out) (next:List Rel→Option ρ) (bad:Int→Option ρ) (hb:∀ e,e≠0→Wp (bad e) Q)
  (hn:∀ out' k T o rows,CS S c out out' k T o rows→CF S out'→Wp (next out') Q):Wp (m_chg S c out next bad) Q:=by
 unfold m_chg;refine Wp.bind (Zj8 hS c) fun e he0 he=>Wp.cond (fun h=>hb e (by simpa using h)) fun h0=>?_;obtain rfl:e=0:=by simpa using h0
 obtain⟨k,T,hft,hT,hnm,hcr⟩:=he rfl;rw[hft];show Wp (getK S.tables (k:Int) _) _;have hk:=(List.getElem?_eq_some_iff.1 hT).1;have hol:=hC.len;have ho:out[k]?=some out[k]:=List.getElem?_eq_getElem (by omega);generalize out[k]=o at ho;have hVT:=hS.tab T (List.mem_of_getElem? hT);have h24:=hC.l24 o (List.mem_of_getElem? ho);have hasc:=(hC.asc k o T ho hT).pw;have hrow:=hC.row k o T ho hT;refine Wp.getN hT (Wp.getN ho (Wp.cond (fun h1=>?_) fun h1=>?_))
 ·have hk1:c.kind=1:=by simpa using h1
  refine Wp.bind (Zn4 T o.rows c.row hVT.pk6 h24 hasc) fun rows _ hr=>Wp.cond (fun _=>hb 2 (by decide)) fun h2=>?_;obtain⟨a,b,os,hm,rfl⟩:=hr;refine hn _ k T o _ ⟨hft,hT,hnm,ho,rfl,fun _=>⟨hcr hk1,a,b,os,hm,rfl⟩,fun h=>absurd hk1 h,he0⟩ (hC.set hT ho (by simp at h2;simp;omega) (fun row hr=>?_) (hm.put hasc rfl));rcases List.mem_append.1 hr with h3 | h3
  ·exact hrow row (by rw[hm.eq];simp[h3])
  ·rcases List.mem_cons.1 h3 with rfl | h4
   ·exact hcr hk1
   ·exact hrow row (by rw[hm.eq];simp[h4])
 ·have hk1:c.kind≠1:=by simpa using h1
  refine Wp.bind (Zn5 T o.rows c.key hVT.pk6 h24 hasc) fun d _ hd=>Wp.cond (fun _=>hb 9 (by decide)) fun h2=>?_;obtain⟨a,b,x,hm,hq⟩:=hd (by simpa using h2);have hle:(a++b).length≤24:=by
   have:=congrArg List.length hm.eq
   simp at this;simp;omega
  refine hn _ k T o _ ⟨hft,hT,hnm,ho,rfl,fun h=>absurd h hk1,fun _=>⟨a,b,x,hm,hq⟩,he0⟩ (hC.set hT ho (by rw[hq];exact hle) (fun row hr=>?_) (by rw[hq];exact hm.del hasc));rw[hq] at hr;rcases List.mem_append.1 hr with h3 | h3
  ·exact hrow row (by rw[hm.eq];simp[h3])
  ·exact hrow row (by rw[hm.eq];simp[h3])
inductive Runs (S:Sch) (o:List Rel):List Chg→List Rel→Prop
 | nil:Runs S o [] o
 | snoc {cs:List Chg} {o' o'':List Rel} {c:Chg} {k:Nat} {T:Tbl} {x:Rel} {rows:List (List GV)} (h:Runs S o cs o') (s:CS S c o' o'' k T x rows):Runs S o (cs++[c]) o''
theorem Zj9 {S:Sch} (hS:VS S) (inst:List Rel) (cs:List Chg):Wp (Z4j S inst cs) fun q=>q.2=0→CF S inst∧Z0d S inst=some 0∧CF S q.1∧Runs S inst cs q.1:=by
 unfold Z4j;rw[hS.ok];show Wp (bindK (Z0d S inst) _) _;refine Wp.bind (Zjb S (fun T hT=>(hS.tab T hT).pk6) inst) fun e he0 he=>Wp.cond (fun h=>Wp.ret fun h0=>by simp only at h0;rw[h0] at h;cases h) fun h0=>?_;obtain rfl:e=0:=by simpa using h0
 have hC:=he rfl;have hl:=hC.len;have h6:=hS.t6;refine Wp.cond (fun _=>Wp.ret (by simp)) fun _=>Wp.bind (Z8l inst (by omega) fun x hx=>by have:=hC.l24 x hx;omega) fun o _ ho=>?_;subst ho;refine Wp.for (fun i out=>CF S out∧Runs S o (cs.take i) out) ⟨hC,by simpa using Runs.nil⟩ ?_ fun out hI=>Wp.ret fun _=>⟨hC,he0,hI.1,by simpa using hI.2⟩;rintro i c out next hc hcm ⟨h1,h2⟩ hn;refine w_chg hS c out h1 _ _ (fun e he=>Wp.ret fun h=>absurd h he) fun out' k T x rows hcs hC'=>hn out' ⟨hC',?_⟩;obtain⟨h8,h9⟩:=List.getElem?_eq_some_iff.1 hc;rw[List.take_succ_eq_append_getElem h8,h9];exact .snoc h2 hcs
theorem Zgn {α:Type} {f:α→Option Bool}:∀ (xs:List α) (i:Nat),(∀ x ∈ xs,∃ b,f x=some b)→Wp (forK (fun (i:Nat) (x:α) (s:Unit) next=>bindK (f x) fun v=>bif v then some (i:Int) else next ()) (fun _=>some (-1)) xs i ()) fun _=>True
 | [],i,_=>Wp.ret trivial
 | x::xs,i,h=>by
   obtain⟨b,hb⟩:=h x (by simp);have ih:=Zgn xs (i+1) fun y hy=>h y (by simp[hy]);show Wp (bindK (f x) _) _;rw[hb];cases b
   ·exact ih
   ·exact Wp.ret trivial
theorem Zja (g:Gr) (db:Db) (changes:List Chg) (hl:db.comps.flatten.length+db.insts.length≤2097152):Wp (Z1r g db changes) fun _=>True:=by
 unfold Z1r Z1x;refine Wp.cond (fun _=>Wp.ret trivial) fun _=>Wp.cond (fun _=>Wp.ret trivial) fun _=>Wp.cond (fun _=>Wp.ret trivial) fun _=>Wp.cond (fun _=>Wp.ret trivial) fun _=>?_;refine Wp.bind (R:=fun v=>v=db.comps.flatten) (Wp.chk (by omega) (Wp.ret rfl)) fun v _ hv=>?_;subst hv;refine Wp.bind (R:=fun _=>True) (Wp.chk (by simp only[List.flatten_cons,List.flatten_nil,List.append_nil,List.length_append];exact hl) (Wp.ret trivial)) fun v _ hv=>?_;refine Wp.for (fun _ _=>True) trivial ?_ fun _ _=>Wp.ret trivial;intro i x s next _ _ _ hn;refine Wp.cond (fun _=>Wp.ret trivial) fun _=>Wp.bind (R:=fun _=>True) ?_ fun _ _ _=>Wp.cond (fun _=>Wp.ret trivial) fun _=>hn () trivial;unfold Z1h Z24;exact Wp.bind (Zgn x 0 fun r _=>⟨_,rfl⟩) fun _ _ _=>Wp.ret trivial
theorem Zi1 (b:ByteArray):(b == b)=true:=by
 cases b with
 | mk d=>
   first
    | exact beq_self_eq_true _
    | (show (d == d)=true;exact beq_self_eq_true d)
theorem Zbk (a:List GV):Wp (Z0j a a) fun b=>b=true:=by
 unfold Z0j;refine Wp.cond (fun h=>by simp at h) fun _=>Wp.for (fun _ _=>True) trivial ?_ fun _ _=>Wp.ret rfl;intro i x s next hx _ _ hn;exact Wp.getN hx (Wp.cond (fun h=>by simp[Zi1] at h) fun _=>hn () trivial)
theorem Zh7 (a:List (List GV)):Wp (Z2w a a) fun b=>b=true:=by
 unfold Z2w;refine Wp.cond (fun h=>by simp at h) fun _=>Wp.for (fun _ _=>True) trivial ?_ fun _ _=>Wp.ret rfl;intro i x s next hx _ _ hn;refine Wp.getN hx (Wp.bind (Zbk x) fun b _ hb=>Wp.cond (fun h=>by simp[hb] at h) fun _=>hn () trivial)
theorem Zf9 (b:ByteArray):strEq b b=true:=by
 unfold strEq
 first | exact Zi1 b | simp[Zi1]
theorem Zd6 (a:List Rel):Wp (Z1u a a) fun b=>b=true:=by
 unfold Z1u;refine Wp.cond (fun h=>by simp at h) fun _=>Wp.for (fun _ _=>True) trivial ?_ fun _ _=>Wp.ret rfl;intro i x s next hx _ _ hn;refine Wp.getN hx (Wp.cond (fun h=>by simp[Zf9] at h) fun _=>Wp.bind (Zh7 x.rows) fun b _ hb=>Wp.cond (fun h=>by simp[hb] at h) fun _=>hn () trivial)
end
section
open Go.Am
def Z4g (g_:Gr) (t:Txn) (c:Chg):Option Bool:=
 (bindK (Z1f) fun v4=>(bif !v4 then (bindK (Z1f) fun v6=>(some v6)) else (bindK (Z1r g_ (Db.mk [t.snapshot] []) t.changes) fun v7=>(bif !v7 then (bindK (Z1f) fun v9=>(some v9)) else (bindK (Z4u g_ t [c]) fun v10=>(bif (v10.2 != 0) then (some true) else (bindK (Z1t g_ t.version) fun v13=>(bindK (Z05 v13.1 c.table) fun v15=>(bif !v15.2 then (some false) else (bif (c.kind == 1) then (getK v13.1.tables v15.1 fun x18=>(bindK (Z2j x18 c.row) fun v19=>(bindK (Z3j g_ v10.1 c.table v19) fun v20=>(bif (v20.2.2 == 0) then (bindK (Z0j v20.1 c.row) fun v23=>(some v23)) else (some false))))) else (bindK (Z3j g_ v10.1 c.table c.key) fun v24=>(bif (v24.2.2 == 0) then (bindK (Z0j v24.1 c.row) fun v27=>(some v27)) else (some false)))))))))))))
instance c_stemkeep1_TxnReadsOwnWrites (g_:Gr) (t:Txn) (c:Chg):Con (Z4g g_ t c) Tryz.prog 4 [.agg g_.enc,.agg t.enc,.agg c.enc] (fun r=>.one (.d (.bool r))):=by
 unfold Z4g;have p1:PH [12] (Plan.then_ [0,1,2,3,4,5,6,7,8] .done):=.intro;exact go 87 Tryz.func4 rfl (by kernel_rfl) rfl rfl (by simp)
end
section
open Go Go.Am
set_option maxRecDepth 100000 in
theorem Zo3:Z1f=some true:=by decide +kernel
theorem w_verS (g:Gr) (hx:∀ e ∈ g.edges,∀ x ∈ e.script,SmallX x) (v:Int):Wp (Z1t g v) fun q=>q.2=0→VS q.1:=by
 unfold Z1t;refine Wp.bind (Zar g hx) fun q hq0 hq=>Wp.cond (fun h=>Wp.ret fun h0=>?_) fun h1=>Wp.cond (fun _=>Wp.ret (by simp)) fun h2=>Wp.cond (fun _=>Wp.ret (by simp)) fun h3=>?_
 ·simp only at h0;rw[h0] at h;cases h
 have a2:0≤v:=by simpa using h2
 have a3:v < q.1.length:=by simpa using h3
 exact Wp.get a2 a3 fun S hS hm=>Wp.ret fun _=>(hq (by simpa using h1)).vs S hm
theorem w_Cur (g:Gr) (hx:∀ e ∈ g.edges,∀ x ∈ e.script,SmallX x) (t:Txn):Wp (Z51 g t) fun q=>q.2=0→∃ S,Z1t g t.version=some (S,0)∧VS S∧CF S q.1∧Runs S t.snapshot t.changes q.1:=by
 unfold Z51;refine Wp.bind (w_verS g hx t.version) fun r hr0 hr=>Wp.cond (fun h=>Wp.ret fun h0=>?_) fun h=>?_
 ·simp only at h0;rw[h0] at h;cases h
 obtain⟨S,e⟩:=r;obtain rfl:e=0:=by simpa using h
 exact Wp.bind (Zj9 (hr rfl) t.snapshot t.changes) fun q _ hq=>Wp.ret fun h0=>⟨S,hr0,hr rfl,(hq h0).2.2.1,(hq h0).2.2.2⟩
structure TxB (B:Nat) (t:Txn):Prop where
 sl:t.snapshot.length≤1048576
 sr:∀ r ∈ t.snapshot,r.rows.length≤1048576∧∀ row ∈ r.rows,row.length≤1048576
 tl:t.tables.length≤B
 cl:t.changes.length≤B
 cr:∀ x ∈ t.changes,x.key.length≤1048576∧x.row.length≤1048576
def ChB (cs:List Chg):Prop:=∀ x ∈ cs,x.key.length≤1048576∧x.row.length≤1048576
theorem Zqx (t:Txn) (a:List ByteArray) (b:List Chg):(extF t a b).tables.length≤t.tables.length+a.length:=by
 have:=Zgt (sortB (t.tables++a))
 rw[Z8z,List.length_append] at this;exact this
theorem TxB.ex {B:Nat} {t:Txn} (h:TxB B t) {a:List ByteArray} {cs:List Chg} (hc:ChB cs) (ha:B+a.length≤2097152) (hl:B+cs.length≤2097152):ExOK t a cs:=by
 refine⟨⟨by have:=h.sl;omega,fun r hr=>⟨by have:=(h.sr r hr).1;omega,fun row hrow=>by have:=(h.sr r hr).2 row hrow;omega⟩⟩,⟨by have:=h.cl;simp;omega,fun x hx=>?_⟩,by have:=h.tl;omega⟩;rcases List.mem_append.1 hx with h9 | h9
 ·have:=h.cr x h9;omega
 ·have:=hc x h9;omega
theorem TxB.step {B B':Nat} {t:Txn} (h:TxB B t) {a:List ByteArray} {cs:List Chg} (hc:ChB cs) (ha:B+a.length≤B') (hl:B+cs.length≤B'):TxB B' (extF t a cs):=by
 refine⟨h.sl,h.sr,by have:=Zqx t a cs;have:=h.tl;omega,by have:=h.cl;simp[extF];omega,fun x hx=>?_⟩;rcases List.mem_append.1 hx with h9 | h9
 ·exact h.cr x h9
 ·exact hc x h9
end
section
open Go.Am


set_option maxHeartbeats 2000000
end
section
open Go Go.Am
theorem Zp9 (a:List ByteArray):Wp (Z1v a a) fun b=>b=true:=by
 unfold Z1v;refine Wp.cond (fun h=>by simp at h) fun _=>Wp.for (fun _ _=>True) trivial ?_ fun _ _=>Wp.ret rfl;intro i x s next hx _ _ hn;exact Wp.getN hx (Wp.cond (fun h=>by simp[Zf9] at h) fun _=>hn () trivial)
theorem w_eqC (x:Chg):Wp (m_eqC x x) fun b=>b=true:=by
 unfold m_eqC;refine Wp.cond (fun h=>by simp at h) fun _=>Wp.cond (fun h=>by simp[Zf9] at h) fun _=>Wp.bind (Zbk x.key) fun v _ hv=>Wp.cond (fun h=>by simp[hv] at h) fun _=>Zbk x.row
theorem Zeb (a:List Chg):Wp (Z23 a a) fun b=>b=true:=by
 unfold Z23;refine Wp.cond (fun h=>by simp at h) fun _=>Wp.for (fun _ _=>True) trivial ?_ fun _ _=>Wp.ret rfl;intro i x s next hx _ _ hn;exact Wp.getN hx (Wp.bind (w_eqC x) fun v _ hv=>Wp.cond (fun h=>by simp[hv] at h) fun _=>hn () trivial)
theorem Zj7 (g:Gr) (hx:∀ e ∈ g.edges,∀ x ∈ e.script,SmallX x) (t:Txn) (cs:List Chg) (h:ExOK t (cs.map (·.table)) cs):Wp (Z4u g t cs) fun _=>True:=by
 unfold Z4u;exact Wp.chk h (Wp.cond (fun _=>Wp.ret trivial) fun _=>Wp.bind (w_Cur g hx _) fun q _ _=>Wp.cond (fun _=>Wp.ret trivial) fun _=>Wp.ret trivial)
theorem Zh3 (g:Gr) (hx:∀ e ∈ g.edges,∀ x ∈ e.script,SmallX x) (t:Txn) (table:ByteArray) (key:List GV) (h:ExOK t [table] []):Wp (Z3j g t table key) fun _=>True:=by
 unfold Z3j;refine Wp.bind (w_Cur g hx t) fun c _ hc=>Wp.cond (fun _=>Wp.ret trivial) fun hc0=>?_;obtain⟨S,hv,hS,hC,_⟩:=hc (by simpa using hc0);rw[hv];show Wp (bindK (Z05 S table) _) _;refine Wp.bind (Z2u S table) fun f _ hf=>Wp.cond (fun _=>Wp.ret trivial) fun hf0=>?_;obtain⟨hlt,_⟩:=hf.2.1 (by simpa using hf0);have hl:=hC.len;have h0:=hf.1;refine Wp.chk h (Wp.get h0 hlt fun T hT hTm=>Wp.get h0 (by omega) fun R hR hRm=>?_);have hVT:=hS.tab T hTm;refine Wp.bind (w_Find T R.rows key hVT.pk6) fun q _ hq=>Wp.cond (fun _=>Wp.ret trivial) fun hq0=>?_;obtain⟨i,hi,_,_,ht,_⟩:=hq;obtain⟨row,hrow,_⟩:=ht (by simpa using hq0);rw[hi];have hr:=hC.row f.1.toNat R T hR hT row (List.mem_of_getElem? hrow);exact Wp.getN hrow (Wp.chk (by have:=hr.len;have:=hVT.cols6;omega) (Wp.ret trivial))
theorem law32 (g:Gr) (t:Txn) (changes:List Chg) (table:ByteArray) (key:List GV) (hx:∀ e ∈ g.edges,∀ x ∈ e.script,SmallX x) (ht:TxB 1048576 t) (hc:ChB changes) (hl:changes.length≤1048576):Z0n g t changes table key=some true:=by
 refine Wp.eq ?_;unfold Z0n;rw[Zo3];show Wp (bindK (Z3c [t.changes,changes]) _) _;have c3:Z3c [t.changes,changes]=some (t.changes++changes):=(if_pos (show [t.changes,changes].flatten.length≤2097152 by have:=ht.cl;simp;omega)).trans (by simp);rw[c3];show Wp (bindK (Z1r g ⟨[t.snapshot],[]⟩ (t.changes++changes)) _) _;refine Wp.bind (Zja g ⟨[t.snapshot],[]⟩ (t.changes++changes) (by simp)) fun v hv0 _=>Wp.cond (fun _=>Wp.ret rfl) fun hv1=>?_;refine Wp.bind (Z8l t.snapshot ht.sl fun r hr=>(ht.sr r hr).1) fun sn _ hsn=>?_;subst hsn;refine Wp.bind (R:=fun v=>v=t.tables) ⟨_,rfl,rfl⟩ fun tb _ htb=>?_;subst htb;refine Wp.bind (R:=fun v=>v=t.changes) (Wp.chk ⟨by have:=ht.cl;omega,fun x hx=>by have:=ht.cr x hx;omega⟩ (Wp.ret rfl)) fun own _ hown=>?_;subst hown;refine Wp.bind (Zj7 g hx t changes (ht.ex hc (by simp;omega) (by omega))) fun n _ _=>Wp.bind (Zh3 g hx t table key (ht.ex (fun x hx=>by simp at hx) (by simp) (by simp))) fun l _ _=>?_;refine Wp.bind (Zd6 t.snapshot) fun a _ ha=>?_;subst ha;refine Wp.bind (Zp9 t.tables) fun b _ hb=>?_;subst hb;exact Zeb t.changes
end
end Go.Proofs.YthiojhcimecdgaaGreatDoor
namespace Go.Proofs.YthiojhcimecdgaaGreatDoor.txnDoesNotModifyArguments
section
open Go Go.Am Go.ChangeShapes Go.WideShapes Go.ChangeAt Go.RowKit
theorem own:ownKnob Tryz.prog.godebug=none:=by kernel_rfl
theorem laid:laidOutB Tryz.prog=true:=by kernel_rfl
def plain:List TypeId:=[35,32,28,66,9,63,111,3,4,64,29,116,30,114,46,33,122,120,118,52,39,42,40,44,49,50,54]
theorem Zb5:plainB Tryz.prog plain=true:=by kernel_rfl
theorem small {g:Gr} (h:bd35 1048576 g):∀ e ∈ g.edges,∀ x ∈ e.script,SmallX x:=by
 intro e he x hx;have h1:=(h.2.2 e he).2.2 x hx;obtain⟨_,_,_,_,_,_,hc,_,_,ht,_,hf⟩:=h1;exact⟨hc.1,ht.2.1.1,ht.2.2.1,hf.2.1.1⟩
theorem txB {t:Txn} (y:bd52 1048576 t):TxB 1048576 t:=⟨y.2.1.1,fun r hr=>⟨(y.2.1.2 r hr).2.1,fun row hrow=>((y.2.1.2 r hr).2.2 row hrow).1⟩,y.2.2.1.1,y.2.2.2.1,fun x hx=>⟨((y.2.2.2.2 x hx).2.2.1).1,((y.2.2.2.2 x hx).2.2.2).1⟩⟩
theorem chB {cs:List Chg} (y:bd50 1048576 cs):ChB cs:=fun x hx=>⟨((y.2 x hx).2.2.1).1,((y.2 x hx).2.2.2).1⟩
set_option maxRecDepth 100000 in
theorem Zoq (H:Type) (enc:TypeId × Value→H) (W:World) (base:Nat) (args:Array Value) (ds gs:List (DataW H)) (before:List MemPlace)
  (hval:∀ (j:Nat) t v,Tryz.f6.params[j]?=some t→args[j]?=some v→Value.okWide Tryz.prog W .any base t v)
  (hW:DataW.Whole enc Tryz.prog Tryz.f6.params.toList Rows.txnDoesNotModifyArgumentsSpec.vars false W args.toList ds gs before) (hk:Rows.uptoSmall H (ds++gs)=true) (hL:laidMetH Tryz.prog Rows.txnDoesNotModifyArgumentsUptoRow.laid W) (hsh:W.ShapedOpen Tryz.prog) :
  Calls Tryz.prog 6 args W fun e W'=>∃ v,e=.returned v∧Rows.txnDoesNotModifyArgumentsSpec.post enc Tryz.prog Tryz.f6 false true false false W args v W':=by
 have hW':=hW;have hlt:=hW.lt;obtain⟨p,q,hA0,hV,rfl,hfz,hnd⟩:=hW;have hA:DataW.TrodAll enc Tryz.prog W 0 (fun _=>true) true Tryz.f6.params.toList args.toList ds p:=hA0;rw[Tryz.params6] at hA hval;obtain⟨v0,vs0,d0,ds0,p0,q0,hargs,rfl,rfl,h0,r0⟩:=trodAll_cons hA;obtain⟨v1,vs1,d1,ds1,p1,q1,rfl,rfl,rfl,h1,r1⟩:=trodAll_cons r0;obtain⟨v2,vs2,d2,ds2,p2,q2,rfl,rfl,rfl,h2,r2⟩:=trodAll_cons r1;obtain⟨v3,vs3,d3,ds3,p3,q3,rfl,rfl,rfl,h3,r3⟩:=trodAll_cons r2;obtain⟨v4,vs4,d4,ds4,p4,q4,rfl,rfl,rfl,h4,r4⟩:=trodAll_cons r3;obtain⟨rfl,rfl,rfl⟩:=trodAll_nil r4;obtain rfl:args=#[v0,v1,v2,v3,v4]:=by cases args;simp_all
 obtain⟨rfl,rfl⟩:=trodVars_none hV;have hb:=of_decide_eq_true hk;simp only[List.append_nil,Rows.uptoBulkAll] at hb;obtain⟨cs0,rfl,_⟩:=okWide_struct Tryz.underlying35 (hval 0 35 v0 rfl rfl);obtain⟨cs1,rfl,_⟩:=okWide_struct Tryz.underlying52 (hval 1 52 v1 rfl rfl);obtain⟨a2,len2,cap2,rfl⟩:=okWide_slice Tryz.underlying50 (hval 2 50 v2 rfl rfl);obtain⟨s3,rfl⟩:=okWide_string Tryz.underlying9 (hval 3 9 v3 rfl rfl);obtain⟨a4,len4,cap4,rfl⟩:=okWide_slice Tryz.underlying44 (hval 4 44 v4 rfl rfl);have h0k:=h0;have h1k:=h1;have h2k:=h2;have h3k:=h3;have h4k:=h4;obtain⟨n0,hn0⟩:=h0;obtain⟨n1,hn1⟩:=h1;obtain⟨n2,hn2⟩:=h2;obtain⟨n3,hn3⟩:=h3;obtain⟨n4,hn4⟩:=h4;obtain⟨e0,hr0,ht0,hk0⟩:=Z93 (B:=1048576) Zb5 (by decide) n0 35 _ _ (by decide) hn0 (by simp only;omega);have k0:blkL e0+1≤1048576:=by
  simp only at hk0;omega
 obtain⟨e1,hr1,ht1,hk1⟩:=Z93 (B:=1048576) Zb5 (by decide) n1 52 _ _ (by decide) hn1 (by simp only;omega);have k1:blkL e1+1≤1048576:=by
  simp only at hk1;omega
 obtain⟨e2,hr2,ht2,hk2⟩:=Z93 (B:=1048576) Zb5 (by decide) n2 50 _ _ (by decide) hn2 (by simp only;omega);have k2:blkL e2+1≤1048576:=by
  simp only at hk2;omega
 obtain⟨e3,hr3,ht3,hk3⟩:=Z93 (B:=1048576) Zb5 (by decide) n3 9 _ _ (by decide) hn3 (by simp only;omega);have k3:blkL e3+1≤1048576:=by
  simp only at hk3;omega
 obtain⟨e4,hr4,ht4,hk4⟩:=Z93 (B:=1048576) Zb5 (by decide) n4 44 _ _ (by decide) hn4 (by simp only;omega);have k4:blkL e4+1≤1048576:=by
  simp only at hk4;omega
 have kk:blkL e0+blkL e1+blkL e2+blkL e3+blkL e4≤1048576:=by
  simp only at hk0 hk1 hk2 hk3 hk4;omega
 obtain⟨x0,rfl,y0⟩:=dec35 ht0;obtain⟨x1,rfl,y1⟩:=dec52 ht1;obtain⟨x2,rfl,y2⟩:=dec50 ht2;obtain⟨x3,rfl,y3⟩:=dec9 ht3;obtain⟨x4,rfl,y4⟩:=dec44 ht4;have hS:=Zr2 x0 x1 x2 x3 x4 true (law32 x0 x1 x2 x3 x4 (small y0) (txB y1) (chB y2) y2.1);refine (hS.2 W (cellsOf W) (fun _ _=>none) #[.agg cs0,.agg cs1,.slice a2 len2 cap2,.string s3,.slice a4 len4 cap4] (gok_of rfl hL hsh) (fun _ _ _ h=>h) (fun _ _ _ h=>by cases h) ?_).mono fun e W' hpost=>?_
 ·refine⟨rfl,fun i a hi=>?_⟩
  match i with
  | 0=>
    cases hi;refine⟨.agg cs0,rfl,cs0,rfl,by simpa[Value.cells] using hr0.1,fun j x hj=>?_⟩;obtain⟨u,hu1,hu2⟩:=hr0.2 j x hj;exact⟨u,by simpa[Value.cells] using hu1,hu2⟩
  | 1=>
    cases hi;refine⟨.agg cs1,rfl,cs1,rfl,by simpa[Value.cells] using hr1.1,fun j x hj=>?_⟩;obtain⟨u,hu1,hu2⟩:=hr1.2 j x hj;exact⟨u,by simpa[Value.cells] using hu1,hu2⟩
  | 2=>
    cases hi;obtain⟨u,hu1,hu2⟩:=hr2.2 0 _ rfl;refine⟨.slice a2 len2 cap2,rfl,?_⟩
    have:u=.slice a2 len2 cap2:=by simpa[Value.cells] using hu1.symm
    rw[← this];exact hu2
  | 3=>
    cases hi;obtain⟨u,hu1,hu2⟩:=hr3.2 0 _ rfl;refine⟨.string s3,rfl,?_⟩
    have:u=.string s3:=by simpa[Value.cells] using hu1.symm
    rw[← this];exact hu2
  | 4=>
    cases hi;obtain⟨u,hu1,hu2⟩:=hr4.2 0 _ rfl;refine⟨.slice a4 len4 cap4,rfl,?_⟩
    have:u=.slice a4 len4 cap4:=by simpa[Value.cells] using hu1.symm
    rw[← this];exact hu2
  | i+5=>simp at hi
 obtain⟨v,m',blk,rfl,_,_,_,hbel,hrv,_⟩:=hpost;have hv:v=.bool true:=by cases hrv;rfl
 subst hv;refine⟨_,rfl,[d0,d1,d2,d3,d4],[],p0++(p1++(p2++(p3++(p4++[]))))++[],[],p0++(p1++(p2++(p3++(p4++[])))),[],hW',trodAll_mk1 (shut_bool Tryz.underlying4 true),?_,rfl,hbel.frame _,fun h=>by cases h⟩;have hl0:∀ x ∈ p0,x.block < W.heap.size:=fun x hx=>hlt x (by simp[hx]);have hl1:∀ x ∈ p1,x.block < W.heap.size:=fun x hx=>hlt x (by simp[hx]);have hl2:∀ x ∈ p2,x.block < W.heap.size:=fun x hx=>hlt x (by simp[hx]);have hl3:∀ x ∈ p3,x.block < W.heap.size:=fun x hx=>hlt x (by simp[hx]);have hl4:∀ x ∈ p4,x.block < W.heap.size:=fun x hx=>hlt x (by simp[hx]);exact trodAll_cons_mk (Below.trod laid (by kernel_rfl) (of_decide_eq_true (by kernel_rfl)) h0k hbel hl0) (trodAll_cons_mk (Below.trod laid (by kernel_rfl) (of_decide_eq_true (by kernel_rfl)) h1k hbel hl1) (trodAll_cons_mk (Below.trod laid (by kernel_rfl) (of_decide_eq_true (by kernel_rfl)) h2k hbel hl2) (trodAll_cons_mk (Below.trod laid (by kernel_rfl) (of_decide_eq_true (by kernel_rfl)) h3k hbel hl3) (trodAll_cons_mk (Below.trod laid (by kernel_rfl) (of_decide_eq_true (by kernel_rfl)) h4k hbel hl4) trodAll_mk0))))
theorem Zol (os:Os):laidMet Tryz.prog Rows.txnDoesNotModifyArgumentsUptoRow.laid ((World.laidAll Tryz.prog os Rows.txnDoesNotModifyArgumentsUptoRow.laid).forCall (fun _ _=>0) ⟨#[],#[.agg #[.slice none 0 0,.slice none 0 0,.slice none 0 0,.slice none 0 0],.agg #[.int .i64 0,.slice none 0 0,.slice none 0 0,.slice none 0 0],.slice none 0 0,.string ByteArray.empty,.slice none 0 0],[]⟩).memory:=laidMet_laidAll _ (by kernel_rfl) (by kernel_rfl)
theorem reads (os:Os) {H:Type} (enc:TypeId × Value→H):∃ places,DataW.whole enc Tryz.prog ((World.laidAll Tryz.prog os Rows.txnDoesNotModifyArgumentsUptoRow.laid).forCall (fun _ _=>0) ⟨#[],#[.agg #[.slice none 0 0,.slice none 0 0,.slice none 0 0,.slice none 0 0],.agg #[.int .i64 0,.slice none 0 0,.slice none 0 0,.slice none 0 0],.slice none 0 0,.string ByteArray.empty,.slice none 0 0],[]⟩).memory Tryz.f6.params.toList Rows.txnDoesNotModifyArgumentsSpec.vars false (#[.agg #[.slice none 0 0,.slice none 0 0,.slice none 0 0,.slice none 0 0],.agg #[.int .i64 0,.slice none 0 0,.slice none 0 0,.slice none 0 0],.slice none 0 0,.string ByteArray.empty,.slice none 0 0]:Array Value).toList 8=some ([.agg [.agg [.nil,.nil,.nil],.nil],.agg [.lit (.int .i64 0),.nil,.nil,.nil],.nil,.lit (.string []),.nil],[],places):=⟨[],by kernel_rfl⟩
set_option maxRecDepth 100000 in
theorem lifted (os:Os) (started:os.Started) (H:Type) (enc:TypeId × Value→H) (F:Stop.Interp) :
  ReturnsInHanded {} Tryz.checked os 6 .any ((Rows.OpenSpec.upto Rows.txnDoesNotModifyArgumentsSpec).preRow enc Tryz.prog Tryz.f6 Rows.txnDoesNotModifyArgumentsUptoRow.domain false Rows.txnDoesNotModifyArgumentsUptoRow.laid) (((Rows.OpenSpec.upto Rows.txnDoesNotModifyArgumentsSpec).at F).post enc Tryz.prog Tryz.f6 false true false false):=by
 obtain⟨places,hx⟩:=reads os enc;refine returnsInHanded_of_row (C:=Tryz.checked) (s:=Rows.OpenSpec.upto Rows.txnDoesNotModifyArgumentsSpec) own started (by kernel_rfl) Tryz.func6
  (witness_row_atRef (enc:=enc) (C:=Tryz.checked) false (World.laidAll Tryz.prog os Rows.txnDoesNotModifyArgumentsUptoRow.laid) #[.agg #[.slice none 0 0,.slice none 0 0,.slice none 0 0,.slice none 0 0],.agg #[.int .i64 0,.slice none 0 0,.slice none 0 0,.slice none 0 0],.slice none 0 0,.string ByteArray.empty,.slice none 0 0] (World.laidAll_os _ _ _) (by kernel_rfl) (by kernel_rfl) (by kernel_rfl)
   (OpenSpec.preRow_of_cond 8 hx (by kernel_rfl) (fun k hk=>by cases hk;kernel_rfl) (by kernel_rfl) (Zol os))) ?_
 intro W base args ds gs before hval hW _ hcond _ hL hsh _;exact Zoq H enc W base args ds gs before hval hW (hcond _ rfl) hL hsh
theorem fact1:(Rows.txnDoesNotModifyArgumentsUptoRow.inPlace == Tryz.prog.inPlace 6)=true:=by kernel_rfl
theorem fact2:(Rows.txnDoesNotModifyArgumentsUptoRow.unfollowed == Tryz.prog.unfollowed 6)=true:=by kernel_rfl
theorem fact3:(Rows.txnDoesNotModifyArgumentsUptoRow.recurses == Tryz.prog.recurses 6)=true:=by kernel_rfl
theorem fact4:(Rows.txnDoesNotModifyArgumentsUptoRow.named == Tryz.prog.varsNamed 6)=true:=by kernel_rfl
theorem fact5:(Rows.txnDoesNotModifyArgumentsUptoRow.plainKeys == Tryz.prog.plainKeys)=true:=by kernel_rfl
theorem fact6:Tryz.prog.stopsHeard=true:=by kernel_rfl
theorem fact7:Tryz.prog.mayEnter=true:=by kernel_rfl
theorem fact8:(Rows.txnDoesNotModifyArgumentsUptoRow.lifted == Tryz.prog.liftsFinal)=true:=by kernel_rfl
theorem fact9:(Tryz.prog.make == some Rows.txnDoesNotModifyArgumentsUptoRow.make)=true:=by kernel_rfl
theorem fact10:mapsRowed Tryz.prog=true:=by kernel_rfl
theorem fact11:Rows.txnDoesNotModifyArgumentsUptoRow.wf (OpenSpec.ofChange (Rows.OpenSpec.upto Rows.txnDoesNotModifyArgumentsSpec).bare)=true:=by kernel_rfl
theorem fact12:laidOutB Tryz.prog=true:=by kernel_rfl
theorem fact13:namedTie Tryz.prog Rows.txnDoesNotModifyArgumentsUptoRow.named (Rows.OpenSpec.upto Rows.txnDoesNotModifyArgumentsSpec).bare.vars=true:=by kernel_rfl
theorem fact14:Tryz.pinned.checked.prog.funcNamed Rows.txnDoesNotModifyArgumentsUptoRow.func=some 6:=by kernel_rfl
set_option maxRecDepth 100000 in
theorem closed:joinedFacts Tryz.prog 6 Tryz.f6 (Rows.OpenSpec.upto Rows.txnDoesNotModifyArgumentsSpec).bare Rows.txnDoesNotModifyArgumentsUptoRow=true:=by
 unfold joinedFacts;rw[fact1,fact2,fact3,fact4,fact5,fact6,fact7,fact8,fact9,fact10,fact11,fact12,fact13]
 kernel_rfl
theorem over:Rows.TxnDoesNotModifyArgumentsUptoSaid:=
 OpenClaim.holds_of_cond 6 Tryz.f6 rfl rfl rfl rfl rfl rfl rfl ⟨rfl,rfl,rfl,rfl,rfl⟩ rfl rfl rfl rfl rfl fact14 Tryz.func6 closed
  (of_decide_eq_true (by kernel_rfl)) (by unfold Func.isWrapper;first | (rw[if_pos (by decide +kernel)];kernel_rfl) | (rw[if_neg (by decide +kernel)];exact⟨rfl,rfl⟩))
  (fun os started H enc _ F=>by rw[OpenClaim.pre_eq_preRow];exact lifted os started H enc F)
theorem looked (f:FuncId) (fn:Func) (hf:Tryz.pinned.checked.prog.funcNamed Rows.txnDoesNotModifyArgumentsUptoRow.func=some f) (hfn:Tryz.pinned.checked.prog.funcs[f]?=some fn) :
  true=Tryz.pinned.checked.prog.looks []∧∀ (j:Nat) t,fn.params[j]?=some t→Tryz.pinned.checked.prog.wantsStandIn t=false:=by
 obtain rfl:f=6:=Option.some.inj ((show Tryz.prog.funcNamed Rows.txnDoesNotModifyArgumentsUptoRow.func=some 6 by kernel_rfl).symm.trans hf) |>.symm;obtain rfl:fn=Tryz.f6:=(Option.some.inj (Tryz.func6.symm.trans hfn)).symm;refine⟨by kernel_rfl,fun j t ht=>?_⟩;rw[Tryz.params6] at ht;have hm:t ∈ [35,52,50,9,44]:=by simpa using Array.mem_of_getElem? ht
 have hall:([35,52,50,9,44].all fun u=>!Tryz.prog.wantsStandIn u)=true:=by kernel_rfl
 exact (show Tryz.prog.wantsStandIn t=false by simpa using List.all_eq_true.1 hall t hm)
theorem proved:Rows.TxnDoesNotModifyArgumentsUptoCardSaid:=
 Claim7.holds_tied_plain_at .later [] _ _ _ _ over (fun _ h=>by cases h) (by kernel_rfl) (fun _ h=>by cases h) txnDoesNotModifyArgumentsUpto_row_tie rfl ⟨rfl,rfl⟩ (by kernel_rfl) rfl looked (by kernel_rfl)
end
end Go.Proofs.YthiojhcimecdgaaGreatDoor.txnDoesNotModifyArguments
