/- joined by a program out of 25 texts -/
import Derived.Test.YthiojhcimecdgaaGreatDoorJ5
import Derived.Test.YthiojhcimecdgaaGreatDoorCards
import Derived.Test.YthiojhcimecdgaaGreatDoorTie
import Derived.WalkKit
import Derived.ProofKit
import Derived.OpenShut
import Derived.JoinedCond
import Derived.JoinedOf
import Derived.Carry
import Derived.Lay
import Derived.SevenTiedAt
import Derived.Deep.DeepWitnessRowRef
set_option linter.unusedVariables false
set_option linter.unusedSimpArgs false
set_option maxRecDepth 20000
section
namespace Go.Proofs.YthiojhcimecdgaaGreatDoor
open Go Go.Am
def InstOK (x:List Rel):Prop:=x.length≤2097152∧∀ r ∈ x,r.rows.length≤2097152
instance (x:List Rel):Decidable (InstOK x):=inferInstanceAs (Decidable (_∧_))
def DbOK (db:Db):Prop:=(∀ x ∈ db.insts,InstOK x)∧∀ l ∈ db.comps,l.length≤2097152∧∀ x ∈ l,InstOK x
instance (db:Db):Decidable (DbOK db):=inferInstanceAs (Decidable (_∧_))
theorem fork_copy {α β:Type} {f:α→Option β} {g:α→β→α}:∀ (xs:List α) (i:Nat) (s:List α),s.length+xs.length≤2097152→(∀ x ∈ xs,∃ v,f x=some v∧g x v=x) →
  forK (fun (_:Nat) x s next=>bindK (f x) fun v=>appK2 s [g x v] fun _=>next (s++[g x v])) (fun s=>some s) xs i s=some (s++xs)
 | [],i,s,_,_=>by simp[forK]
 | x::xs,i,s,hs,hf=>by
   obtain⟨v,hv,hg⟩:=hf x (by simp)
   simp only[List.length_cons] at hs
   show bindK (f x) _=_
   rw[hv]
   show appK2 s [g x v] _=_
   rw[hg]
   show chkK _ _=_
   unfold chkK
   rw[if_pos (by simp;omega)]
   show forK _ _ xs (i+1) (s++[x])=_
   rw[fork_copy xs (i+1) (s++[x]) (by simp;omega) fun y hy=>hf y (by simp[hy])]
   simp
theorem rel_clone_ok {rows:List (List GV)} (h:rows.length≤2097152):Is (m_relation_Clone rows) rows:=
 fork_copy (f:=m_slices_Clone_Value) (g:=fun _ v=>v) rows 0 [] (by simpa using h) fun x _=>⟨x,rfl,rfl⟩
theorem inst_clone_ok {x:List Rel} (h:InstOK x):Is (m_instance_Clone x) x:=
 fork_copy (f:=fun r:Rel=>m_relation_Clone r.rows) (g:=fun r v=>⟨r.table,v⟩) x 0 [] (by simpa using h.1) fun r hr=>⟨r.rows,rel_clone_ok (h.2 r hr),rfl⟩
theorem inst_all_ok {l:List (List Rel)} (h:l.length≤2097152) (hx:∀ x ∈ l,InstOK x):Is (m_database_cloneAll l) l:=by
 have:m_database_mapSlice_Instance l (fun xa_=>m_instance_Clone xa_)=some l:=
  fork_copy (f:=fun x=>m_instance_Clone x) (g:=fun _ v=>v) l 0 [] (by simpa using h) fun x hm=>⟨x,inst_clone_ok (hx x hm),rfl⟩
 unfold m_database_cloneAll
 rw[this]
 rfl
def m_database_Probe (g:Gr) (db:Db) (v:Int) (changes:List Chg):Option (Db × List Int × Int):=
 bindK (m_database_Validate g db) fun e=>bif e != 0 then some (⟨[],[]⟩,[],e) else
 bif decide (v < 0) || decide ((db.insts.length:Int)≤v) then some (⟨[],[]⟩,[],4) else
 bindK (m_versions_Schemas g) fun q=>getK q.1 v fun S=>getK db.insts v fun inst=>bindK (m_change_Apply S inst changes) fun r=>
 bif r.2 != 0 then some (⟨[],[]⟩,(List.replicate q.1.length 0).set v.toNat r.2,0) else chkK (DbOK db) <|
 bindK (m_database_propagate g q.1 (db.insts.set v.toNat r.1) db.comps v) fun s=>
 forK (fun (u:Nat) (S2:Sch) (t:List Int × Bool) next=>getK s.reached u fun ru=>getK t.1 u fun eu=>
  bif ru && (eu == 0) then getK s.insts u fun iu=>bindK (m_instance_Validate S2 iu) fun e=>next (t.1.set u e,t.2 || (e != 0)) else next (t.1,t.2 || (eu != 0)))
  (fun t=>bif t.2 then some (⟨[],[]⟩,t.1,0) else some (⟨s.insts,s.comps⟩,t.1,0)) q.1 0 (s.errs,false)
theorem errs_frz {h:HS} {c:C} {errs:List Int} (m:CellsAt h c (errs.map fun z=>.int .i64 z)):Frz h c (.sl (errs.map encI)):=by
 have e1:(errs.map fun z=>D.int .i64 z).map (fun d=>[d])=errs.map encI:=by rw[List.map_map];rfl
 rw[← e1]
 exact m.frz
theorem insts_frz {h:HS} {c:C} {l:List (List Rel)} (m:CellsAt h c (l.map encI_)):Frz h c (.sl (l.map (encL Rel.enc))):=by
 have e1:(l.map encI_).map (fun d=>[d])=l.map (encL Rel.enc):=by rw[List.map_map];rfl
 rw[← e1]
 exact m.frz
theorem comps_frz {h:HS} {c:C} {l:List (List (List Rel))} (m:CellsAt h c (l.map encJ_)):Frz h c (.sl (l.map (encL (encL Rel.enc)))):=by
 have e1:(l.map encJ_).map (fun d=>[d])=l.map (encL (encL Rel.enc)):=by rw[List.map_map];rfl
 rw[← e1]
 exact m.frz
theorem c_database_Probe (g:Gr) (db:Db) (v:Int) (changes:List Chg) (r:Db × List Int × Int) (hm:Is (m_database_Probe g db v changes) r) :
  PSpec Tryz.prog 56 [.agg g.enc,.agg db.enc,.one (.d (.int .i64 v)),.one (.d (.sl (changes.map Chg.enc)))] (.tup [.agg (r.1.enc.map RC.d),.one (.d (.sl (r.2.1.map encI))),.one (.d (.int .i64 r.2.2))]):=by
 unfold m_database_Probe at hm
 refine PSpec.of_heap ?_
 show HSpec _ _ [.agg (g.enc.map C.d),.agg (db.enc.map C.d),.one (.d (.int .i64 v)),.one (.d (.sl (changes.map Chg.enc)))] HS.init _
 refine HSpec.of_vc Tryz.func56 rfl (by kernel_rfl) (n:=127) rfl rfl (by simp) ?_
 obtain⟨e,he,hm⟩:=hm.bind
 simp
 refine callK_fn ((c_database_Validate g db).h e he) (by simp) ?_
 simp
 refine r_cond hm ?_ ?_<;>clear hm<;>intro hc hm
 ·obtain rfl:=r_ret hm
  simp[retH,resVs,resV,notTup]
  exact⟨⟨.data rfl,.data rfl,trivial⟩,.data rfl,.data rfl,trivial⟩
 simp
 have bad:∀ (h':HS),FrzFin h' (.tup [.agg [.nil,.nil],.one .nil,.one (.d (.int .i64 4))]) (.tup [.agg ((⟨[],[]⟩:Db).enc.map RC.d),.one (.d (.sl (([]:List Int).map encI))),.one (.d (.int .i64 4))]):=fun h'=>⟨⟨.data rfl,.data rfl,trivial⟩,.data rfl,.data rfl,trivial⟩
 by_cases hv0:v < 0
 ·simp only[hv0,decide_true,Bool.true_or,cond_true] at hm
  obtain rfl:=r_ret hm
  simp[hv0,retH,resVs,resV,notTup]
  exact bad _
 have hv0':decide (v < 0)=false:=by simp[hv0]
 rw[hv0',Bool.false_or] at hm
 simp[hv0]
 intro hdl
 try simp[hv0]
 refine r_cond hm ?_ ?_<;>clear hm<;>intro hc2 hm
 ·obtain rfl:=r_ret hm
  simp[retH,resVs,resV,notTup]
  exact bad _
 obtain⟨q,hq,hm⟩:=hm.bind
 obtain⟨S,hvv,hS,hm⟩:=hm.get
 obtain⟨inst,-,hin,hm⟩:=hm.get
 obtain⟨r1,hr1,hm⟩:=hm.bind
 simp
 refine callK_fn ((i_versions_Schemas g).h q hq) (by simp) ?_
 simp
 refine Wait.cut (Plan.then_ [0,1,2,3,4,5,6,7,8,9,10,11,12,13,14,15] .done) follows (by kernel_rfl) (fun e1 h1=>e1.n=127∧e1.get 2=.one (.d (.int .i64 v))∧e1.get 4=.one (.ptr (0,64) 0)∧e1.get 5=.one (.ptr (1,80) 0)∧e1.get 8=.one (.ptr (2,128) 0)∧e1.get 12=.one (.d (.sl (q.1.map Sch.enc)))∧e1.get 14=.one (.d (.sl (r1.1.map Rel.enc)))∧e1.get 15=.one (.d (.int .i64 r1.2)) ∧
  h1.box (0,64)=some (g.enc.map C.d)∧h1.box (1,80)=some (db.enc.map C.d)∧h1.box (2,128)=some [.nil,.nil]∧2 < h1.ep) ?_ ?_
 ·simp[Plan.then_,vcPlan,planOps,isCallAt,callKind,hvv,hS,hin]
  refine callK_fn (c_change_Apply S inst changes r1 hr1) (by simp) ?_
  simp[Plan.then_,vcPlan,planOps,isCallAt,callKind,hvv,hS,hin]
  try refine⟨fun _ _ x=>x,?_⟩
  exact CutK.of ⟨by simp,by simp,by simp,by simp,by simp,by simp,by simp,by simp,by simp,by simp,by simp,by simp⟩
 rintro e1 h1 ⟨en,e2,e4,e5,e8,e12,e14,e15,bg,bdb,br,hep1⟩
 simp[en,e2,e4,e5,e8,e12,e14,e15]
 refine r_cond hm ?_ ?_<;>clear hm<;>intro hc3 hm
 ·obtain rfl:=r_ret hm
  simp[en,e2,e4,e5,e8,e12,e14,e15]
  intro hsl
  refine⟨by omega,?_⟩
  have hvq:v.toNat < q.1.length:=(List.getElem?_eq_some_iff.1 hS).1
  have c0:CellsAt (h1.setBox (h1.ep,1008) (List.replicate q.1.length (.d (.int .i64 0)))) (.mrow (h1.ep,1008) 0 q.1.length q.1.length) (List.replicate q.1.length (.int .i64 0)):=CellsAt.make (zc:=.d (.int .i64 0)) (by simp) rfl hsl
  obtain⟨lr,cap,bs,hq1,hq2,hq3,-,hset⟩:=c0.at (i:=v.toNat) (by simpa using hvq)
  simp only[List.length_replicate,C.mrow.injEq,true_and] at hq1
  obtain⟨rfl,rfl⟩:=hq1
  simp at hq2
  subst hq2
  simp only[List.length_replicate] at hq3
  simp[en,e2,e4,e5,e8,e12,e14,e15,hvv,hvq,hq3,br]
  simp[retH,resVs,resV,notTup,en,e2,e4,e5,e8,e12,e14,e15,br]
  refine⟨⟨.data rfl,.data rfl,trivial⟩,?_,.data rfl,trivial⟩
  have e9:(List.replicate q.1.length [D.int IntKind.i64 0]).set v.toNat [D.int IntKind.i64 r1.2]=((List.replicate q.1.length (0:Int)).set v.toNat r1.2).map encI:=by rw[List.map_set,List.map_replicate];rfl
  have e10:((List.replicate q.1.length (0:Int)).set v.toNat r1.2).map (fun z=>D.int .i64 z)=(List.replicate q.1.length (D.int .i64 0)).set v.toNat (.int .i64 r1.2):=by rw[List.map_set,List.map_replicate]
  show Frz _ _ _
  rw[e9]
  refine errs_frz ?_
  rw[e10]
  refine (hset h1 (.d (.int .i64 r1.2)) (.int .i64 r1.2) rfl).frame fun l hl=>?_
  simp[labs] at hl
  subst hl
  simp
 obtain⟨hdb,hm⟩:=hm.chk
 obtain⟨s,hs,hm⟩:=hm.bind
 simp only[Gr.enc,Db.enc,List.map_cons,List.map_nil] at bg bdb
 simp[en,e2,e4,e5,e8,e12,e14,e15,bdb]
 refine callK_heap (h_database_CloneC _ db (fun x hx=>inst_clone_ok (hdb.1 x hx)) (fun l hl=>inst_all_ok (hdb.2 l hl).1 (hdb.2 l hl).2) _ fun ci cc h2 mI mC hl hd hs2=>?_)
 simp[en,e2,e4,e5,e8,e12,e14,e15,bdb]
 have mB:MC h2 [(ci,db.insts.map encI_),(cc,db.comps.map encJ_)]:=by
  refine⟨fun q hq=>?_,fun q hq k hk=>?_,?_⟩
  ·simp only[List.mem_cons,List.not_mem_nil,or_false] at hq
   rcases hq with rfl | rfl
   ·exact mI
   ·exact mC
  ·simp only[List.mem_cons,List.not_mem_nil,or_false] at hq
   rcases hq with rfl | rfl
   ·exact (hl k (by simp[hk])).2
   ·exact (hl k (by simp[hk])).2
  ·simp only[List.flatMap_cons,List.flatMap_nil,List.append_nil]
   exact List.nodup_append.2 ⟨labs_nodup,labs_nodup,fun a ha b hb he=>hd a ha (he ▸ hb)⟩
 have hvi:v.toNat < (db.insts.map encI_).length:=by simpa using (List.getElem?_eq_some_iff.1 hin).1
 obtain⟨li,capi,bi,hci,hbi,hbil,hli,-,hset⟩:=mB.at (j:=0) (i:=v.toNat) rfl hvi
 have hci':ci=.mrow li 0 db.insts.length capi:=by simpa using hci
 subst hci'
 have hvi2:v.toNat < db.insts.length:=by simpa using hvi
 have p1:=ne_new hli
 have p2:=ne_new' hli
 have hep2:=hs2.1
 have hlo:∀ k ∈ labs (.mrow li 0 db.insts.length capi)++labs cc,h1.ep≤k.1∧k.1 < h2.ep:=fun k hk=>hl k hk
 have p3:∀ a b:Nat,a≤2→((a,b)=li)=False:=fun a b ha=>eq_false (by rintro rfl;have:=(hlo (a,b) (by simp[labs])).1;simp at this;omega)
 have b0:=(hs2.2 (0,64) (by simp;omega) (by simp)).trans bg
 have b1:=(hs2.2 (1,80) (by simp;omega) (by simp)).trans bdb
 have b2:=(hs2.2 (2,128) (by simp;omega) (by simp)).trans br
 simp[en,e2,e4,e5,e8,e12,e14,e15,bdb,hvv,hvi2,hbi,hbil,p1,p2,p3,b0,b1,b2]
 have e11:(db.insts.set v.toNat r1.1).map encI_=(db.insts.map encI_).set v.toNat (encI_ r1.1):=List.map_set
 refine callK_heap (h_database_propagate _ g q.1 (db.insts.set v.toNat r1.1) db.comps v (.mrow li 0 db.insts.length capi) cc s hs (by
  rw[e11]
  refine hset _ _ (.d (encI_ r1.1)) (encI_ r1.1) (mB.new ?_) rfl rfl
  repeat' first | exact Same.refl | apply Same.next | apply Same.setArr | (refine Same.setBox ?_ (.inr (by simp)))) _ fun ce cr h3 mP hsP hge=>?_)
 have c2:=hsP.2 (2,128) (by simp;omega) (fun h9=>by have:=(hlo _ h9).1;simp at this;omega)
 have c17:=hsP.2 (h2.ep,272) (by simp) (fun h9=>by have:=(hlo _ h9).2;simp at this)
 have hne2:((2,128):Lab)≠(h2.ep,272):=by intro h9;simp at h9
 simp[p2,p3,b2] at c2 c17
 have hep3:=hsP.1
 simp at hep3
 simp[en,e2,e4,e5,e8,e12,e14,e15]
 intro hql
 have hge2:∀ k ∈ labs ce++labs cr,h2.ep < k.1:=fun k hk=>by have:=hge k hk;simp at this;omega
 have hci3:∀ k ∈ labs (.mrow li 0 db.insts.length capi)++labs cc,h1.ep≤k.1∧k.1 < h2.ep:=hlo
 refine Wait.for (xs:=q.1) (s0:=(s.errs,false)) (fun u t e h'=>e.n=127∧e.get 8=.one (.ptr (2,128) 0)∧e.get 17=.one (.ptr (h2.ep,272) 0)∧e.get 18=.one ce∧e.get 19=.one cr∧e.get 20=.one (.d (.bool t.2))∧e.get 85=.one (.d (.sl (q.1.map Sch.enc)))∧e.get 86=.one (.d (.int .i64 (q.1.length:Int)))∧e.get 87=.one (.d (.int .i64 (u:Int))) ∧
  h'.box (2,128)=some [.nil,.nil]∧h'.box (h2.ep,272)=some [.mrow li 0 db.insts.length capi,cc]∧MC h' ((⟨s.insts,s.comps,t.1,s.reached⟩:PSt).rows (.mrow li 0 db.insts.length capi) cc ce cr)∧h2.ep < h'.ep) hm
  ⟨by simp[en],by simp[e8],by simp,by simp,by simp,by simp,by simp,by simp,by simp,c2,c17,mP,by omega⟩ ?_ ?_
 ·rintro u t e h' ⟨en,e8,e17,e18,e19,e20,e85,e86,e87,b2,b17,mP,hep⟩ hlt hm
  have hw:IntKind.i64.wrap ((u:Int)+1)=(u:Int)+1:=IntWalk.i64_in _ (by omega)
  obtain⟨ru,hru,hm⟩:=hm.getN
  obtain⟨eu,heu,hm⟩:=hm.getN
  have hu1:u < s.reached.length:=(List.getElem?_eq_some_iff.1 hru).1
  have hu2:u < t.1.length:=(List.getElem?_eq_some_iff.1 heu).1
  obtain⟨lr,capr,br,hcr,hbr,hbrl,hlr,⟨xr,htr,hxr⟩,-⟩:=mP.at (j:=3) (i:=u) rfl (by simpa using hu1)
  simp only[List.getElem?_map,hru,Option.map_some,Option.some.injEq] at hxr
  obtain rfl:=toD_bool hxr
  have hcr':cr=.mrow lr 0 s.reached.length capr:=by simpa using hcr
  subst hcr'
  obtain⟨le,cape,be,hce,hbe,hbel,hle,⟨xe,hte,hxe⟩,hsete⟩:=mP.at (j:=2) (i:=u) rfl (by simpa using hu2)
  simp only[List.getElem?_map,heu,Option.map_some,Option.some.injEq] at hxe
  obtain rfl:=toD_int hxe
  have hce':ce=.mrow le 0 t.1.length cape:=by simpa using hce
  have e18':e.get 18=.one (.mrow le 0 t.1.length cape):=by rw[e18,hce']
  have q1:=ne_new' hlr
  have q2:=ne_new' hle
  have q3:=ne_new hlr
  have q4:=ne_new hle
  have q5:∀ b,((h2.ep,b)=le)=False→True:=fun _ _=>trivial
  have hli':li.1 < h'.ep:=mP.lt _ (List.mem_cons_self ..) li (by simp[labs])
  have q6:=ne_new hli'
  have q7:=ne_new' hli'
  have hne8:((2,128):Lab)≠(h'.ep,352):=by intro h9;simp at h9
  have h17:=ne_new (l:=(h2.ep,272)) hep
  have back:∀ (h6:HS) (e6:Env),Same h' h6 []→e6.n=127→e6.get 8=.one (.ptr (2,128) 0)→e6.get 17=.one (.ptr (h2.ep,272) 0)→e6.get 18=.one ce→e6.get 19=.one (.mrow lr 0 s.reached.length capr)→e6.get 20=.one (.d (.bool (t.2 || (eu != 0))))→e6.get 85=.one (.d (.sl (q.1.map Sch.enc)))→e6.get 86=.one (.d (.int .i64 (q.1.length:Int)))→e6.get 87=.one (.d (.int .i64 ((u+1:Nat):Int))) →
    (e6.n=127∧e6.get 8=.one (.ptr (2,128) 0)∧e6.get 17=.one (.ptr (h2.ep,272) 0)∧e6.get 18=.one ce∧e6.get 19=.one (.mrow lr 0 s.reached.length capr)∧e6.get 20=.one (.d (.bool (t.2 || (eu != 0))))∧e6.get 85=.one (.d (.sl (q.1.map Sch.enc)))∧e6.get 86=.one (.d (.int .i64 (q.1.length:Int)))∧e6.get 87=.one (.d (.int .i64 ((u+1:Nat):Int))) ∧
    h6.box (2,128)=some [.nil,.nil]∧h6.box (h2.ep,272)=some [.mrow li 0 db.insts.length capi,cc]∧MC h6 ((⟨s.insts,s.comps,t.1,s.reached⟩:PSt).rows (.mrow li 0 db.insts.length capi) cc ce (.mrow lr 0 s.reached.length capr))∧h2.ep < h6.ep):=fun h6 e6 hs6 g1 g2 g3 g4 g5 g6 g7 g8 g9=>
   ⟨g1,g2,g3,g4,g5,g6,g7,g8,g9,(hs6.2 _ (by simp;omega) (by simp)).trans b2,(hs6.2 _ hep (by simp)).trans b17,mP.new hs6,Nat.lt_of_lt_of_le hep hs6.1⟩
  simp[en,e8,e17,e18',e19,e20,e85,e86,e87,hlt,hu1,hu2,hbr,htr,q3,q1]
  cases ru with
  | false=>
    simp only[Bool.false_and,cond_false] at hm
    cases ht2:t.2
    all_goals
     rw[ht2] at e20
     simp[en,e8,e17,e18',e19,e20,e85,e86,e87,hu2,hbe,hte,q1,q2,q3,q4,hw,Bool.not_false,hbr,htr,hu1]
     refine BackF.of (t.1,t.2 || (eu != 0)) ⟨back _ _ ?_ ?_ ?_ ?_ ?_ ?_ ?_ ?_ ?_ ?_,hm⟩
     ·repeat' first | exact Same.refl | apply Same.next | apply Same.setArr | (refine Same.setBox ?_ (.inr (by simp)))
     ·simp[en]
     ·simp[e8]
     ·simp[e17]
     ·simp[e18',hce']
     ·simp[e19]
     ·simp[ht2]
     ·simp[e85]
     ·simp[e86]
     ·simp
  | true=>
    cases hz:(eu == 0) with
    | false=>
      rw[hz] at hm
      simp only[Bool.and_false,cond_false] at hm
      cases ht2:t.2
      all_goals
       rw[ht2] at e20
       simp[en,e8,e17,e18',e19,e20,e85,e86,e87,hu2,hbe,hte,q1,q2,q3,q4,hw,hz,hbr,htr,hu1]
       refine BackF.of (t.1,t.2 || (eu != 0)) ⟨back _ _ ?_ ?_ ?_ ?_ ?_ ?_ ?_ ?_ ?_ ?_,hm⟩
       ·repeat' first | exact Same.refl | apply Same.next | apply Same.setArr | (refine Same.setBox ?_ (.inr (by simp)))
       ·simp[en]
       ·simp[e8]
       ·simp[e17]
       ·simp[e18',hce']
       ·simp[e19]
       ·simp[ht2]
       ·simp[e85]
       ·simp[e86]
       ·simp
    | true=>
      rw[hz] at hm
      simp only[Bool.and_true,cond_true] at hm
      obtain⟨iu,hiu,hm⟩:=hm.getN
      obtain⟨e2_,he2,hm⟩:=hm.bind
      simp[en,e8,e17,e18',e19,e20,e85,e86,e87,hu2,hbe,hte,q1,q2,q3,q4,hz]
      have hu0:u < s.insts.length:=(List.getElem?_eq_some_iff.1 hiu).1
      obtain⟨li2,capi2,bi2,hci2,hbi2,hbil2,-,⟨xi,hti,hxi⟩,-⟩:=mP.at (j:=0) (i:=u) rfl (by simpa using hu0)
      simp only[List.getElem?_map,hiu,Option.map_some,Option.some.injEq] at hxi
      simp at hci2
      obtain⟨rfl,hil,rfl⟩:=hci2
      have hu0':u < db.insts.length:=by omega
      refine Wait.cut (Plan.then_ [0,1,2,3,4,5,6,7,8,9,10] .done) follows (by kernel_rfl) (fun E2 h4=>E2.n=127∧E2.get 8=.one (.ptr (2,128) 0)∧E2.get 17=.one (.ptr (h2.ep,272) 0)∧E2.get 18=.one (.mrow le 0 t.1.length cape)∧E2.get 19=.one (.mrow lr 0 s.reached.length capr)∧E2.get 20=.one (.d (.bool t.2))∧E2.get 21=.one (.d (.int .i64 (u:Int)))∧E2.get 85=.one (.d (.sl (q.1.map Sch.enc)))∧E2.get 86=.one (.d (.int .i64 (q.1.length:Int)))∧E2.get 87=.one (.d (.int .i64 (u:Int))) ∧
       ∃ hX,Same h' hX []∧h4=hX.setBox le (setCells be u [.d (.int .i64 e2_)])) ?_ ?_
      ·simp[Plan.then_,vcPlan,planOps,isCallAt,callKind,en,e8,e17,e18',e19,e20,e85,e86,e87,b17,h17,hu0',hbi2,hti,q6,q7]
       refine callK_fn ((c_instance_Validate q.1[u] iu).h e2_ he2) (by simp[toAs,V.toA,(toD_rd hxi).2.2]) ?_
       simp[Plan.then_,vcPlan,planOps,isCallAt,callKind,en,e8,e17,e18',e19,e20,e85,e86,e87,b17,h17,hu0',hbi2,hti,q6,q7,hu2,hbel,hbe,q2,q4]
       try refine⟨fun _ _ x=>x,?_⟩
       refine CutK.of ⟨by simp[en],by simp[e8,en],by simp[e17,en],by simp[e18',en],by simp[e19,en],by simp[e20,en],by simp[en],by simp[e85,en],by simp[e86,en],by simp[e87,en],_,?_,rfl⟩
       repeat' first | exact Same.refl | apply Same.next | apply Same.setArr | (refine Same.setBox ?_ (.inr (by simp)))
      ·rintro E2 h4 ⟨en,e8,e17,e18',e19,e20,e21,e85,e86,e87,hX,hsX,rfl⟩
       have m6:=hsete _ _ (.d (.int .i64 e2_)) (.int .i64 e2_) (mP.new hsX) rfl rfl
       have m6':MC (hX.setBox le (setCells be u [.d (.int .i64 e2_)])) ((⟨s.insts,s.comps,t.1.set u e2_,s.reached⟩:PSt).rows (.mrow li 0 db.insts.length capi) cc ce (.mrow lr 0 s.reached.length capr)):=by simpa[PSt.rows,List.map_set] using m6
       obtain⟨le3,cape3,be3,hce3,hbe3,hbel3,-,⟨xe,hte3,hxe3⟩,-⟩:=m6'.at (j:=2) (i:=u) rfl (by simpa using hu2)
       simp only[List.getElem?_map,List.getElem?_set_self hu2,Option.map_some,Option.some.injEq] at hxe3
       obtain rfl:=toD_int hxe3
       rw[hce'] at hce3
       simp at hce3
       obtain⟨rfl,rfl⟩:=hce3
       simp at hbe3
       subst hbe3
       have hlne:∀ k:Lab,k.1≤h2.ep→(k=le)=False:=fun k hk=>eq_false (by rintro rfl;have:=hge2 k (by rw[hce'];simp[labs]);omega)
       have f1:(hX.setBox le (setCells be u [.d (.int .i64 e2_)])).box (2,128)=some [.nil,.nil]:=by simp[hlne (2,128) (by simp;omega)];exact (hsX.2 _ (by simp;omega) (by simp)).trans b2
       have f2:(hX.setBox le (setCells be u [.d (.int .i64 e2_)])).box (h2.ep,272)=some [.mrow li 0 db.insts.length capi,cc]:=by simp[hlne (h2.ep,272) (by simp)];exact (hsX.2 _ hep (by simp)).trans b17
       cases ht2:t.2
       all_goals
        rw[ht2] at e20
        simp[en,e8,e17,e18',e19,e20,e21,e85,e86,e87,hu2,hte3,hw]
        refine BackF.of (t.1.set u e2_,t.2 || (e2_ != 0)) ⟨⟨by simp[en],by simp[e8],by simp[e17],by simp[e18',hce'],by simp[e19],by simp[ht2],by simp[e85],by simp[e86],by simp,f1,f2,m6',by simpa using Nat.lt_of_lt_of_le hep hsX.1⟩,hm⟩
 ·rintro t e h' ⟨en,e8,e17,e18,e19,e20,e85,e86,e87,b2,b17,mP,hep⟩ hm
  have hfr:∀ {cs:List C},∀ k ∈ labs (.mrow li 0 db.insts.length capi)++(labs cc++(labs ce++labs cr)),(h'.setBox (2,128) cs).box k=h'.box k:=fun {cs} k hk=>by
   have:k≠(2,128):=by
    intro h9
    rw[h9] at hk
    rcases List.mem_append.1 hk with h8 | h8
    ·have:=(hlo (2,128) (List.mem_append_left _ h8)).1;simp at this;omega
    ·rcases List.mem_append.1 h8 with h8 | h8
     ·have:=(hlo (2,128) (List.mem_append_right _ h8)).1;simp at this;omega
     ·have:=hge2 (2,128) h8;simp at this;omega
   simp[this]
  simp[en,e8,e17,e18,e19,e20,e85,e86,e87]
  refine r_cond hm ?_ ?_<;>clear hm<;>intro hc5 hm
  ·obtain rfl:=r_ret hm
   simp[en,e8,e17,e18,e19,e20,e85,e86,e87,b2]
   simp[retH,resVs,resV,notTup,en,e8,e18]
   exact⟨⟨.data rfl,.data rfl,trivial⟩,errs_frz ((mP.row _ (List.mem_cons_of_mem _ (List.mem_cons_of_mem _ (List.mem_cons_self ..)))).frame fun k hk=>hfr k (by simp[hk])),.data rfl,trivial⟩
  ·obtain rfl:=r_ret hm
   simp[en,e8,e17,e18,e19,e20,e85,e86,e87,b2,b17]
   simp[retH,resVs,resV,notTup,en,e8,e18]
   exact⟨⟨insts_frz ((mP.row _ (List.mem_cons_self ..)).frame fun k hk=>hfr k (by simp[hk])),comps_frz ((mP.row _ (List.mem_cons_of_mem _ (List.mem_cons_self ..))).frame fun k hk=>hfr k (by simp[hk])),trivial⟩,errs_frz ((mP.row _ (List.mem_cons_of_mem _ (List.mem_cons_of_mem _ (List.mem_cons_self ..)))).frame fun k hk=>hfr k (by simp[hk])),.data rfl,trivial⟩
end Go.Proofs.YthiojhcimecdgaaGreatDoor
end
section
namespace Go.Proofs.YthiojhcimecdgaaGreatDoor
open Go.Am
set_option maxRecDepth 20000
instance i_database_Probe (g_:Gr) (db:Db) (v_:Int) (changes:List Chg):Con (m_database_Probe g_ db v_ changes) Tryz.prog 56 [.agg g_.enc,.agg db.enc,.one (.d (.int .i64 v_)),.one (.d (.sl (changes.map Chg.enc)))] (fun r=>.tup [.agg (r.1.enc.map RC.d),.one (.d (.sl (r.2.1.map encI))),.one (.d (.int .i64 r.2.2))]):=⟨fun r hm=>c_database_Probe g_ db v_ changes r hm⟩
set_option maxRecDepth 20000
def m_database_Write (g_:Gr) (db:Db) (v_:Int) (changes:List Chg):Option (Db × Int × Int):=
 (bindK (m_database_Probe g_ db v_ changes) fun v4=>(bif (v4.2.2 != 0) then (some ((Db.mk [] []),0,v4.2.2)) else (forK (fun (i8:Nat) (x8:Int) (s8:Unit) next_8=>(bif (x8 != 0) then (some ((Db.mk [] []),(i8:Int),x8)) else (next_8 ()))) (fun (s8:Unit)=>(some (v4.1,0,0))) v4.2.1 0 ())))
instance c_database_Write (g_:Gr) (db:Db) (v_:Int) (changes:List Chg):Con (m_database_Write g_ db v_ changes) Tryz.prog 29 [.agg g_.enc,.agg db.enc,.one (.d (.int .i64 v_)),.one (.d (.sl (changes.map Chg.enc)))] (fun r=>.tup [.agg (r.1.enc.map RC.d),.one (.d (.int .i64 r.2.1)),.one (.d (.int .i64 r.2.2))]):=by
 unfold m_database_Write
 have l1:LH (σ:=Unit) 31 [8,11,29,30] []:=.intro
 exact go 43 Tryz.func29 rfl (by kernel_rfl) rfl rfl (by simp)
set_option maxRecDepth 20000
def m_stemref1_Ints (l:List Int):Option ((List GV)):=
 (forK (fun (i2:Nat) (x2:Int) (s2:(List GV)) next_2=>(bindK (m_stemref1_Int x2) fun v3=>(appK2 s2 [v3] fun _=>(next_2 (s2++[v3]))))) (fun (s2:(List GV))=>(some s2)) l 0 [])
instance c_stemref1_Ints (l:List Int):Con (m_stemref1_Ints l) Tryz.prog 33 [.one (.d (.sl (l.map encI)))] (fun r=>.one (.d (.sl (r.map GV.enc)))):=by
 unfold m_stemref1_Ints
 have l1:LH (σ:=(List GV)) 8 [6,7] [.g 3 3 (fun s=>s.map GV.enc)]:=.intro
 exact go 19 Tryz.func33 rfl (by kernel_rfl) rfl rfl (by simp)
set_option maxRecDepth 20000
def m_stemref1_Upsert (l:List Int):Option Chg:=
 (bindK (m_stemref1_Ints l) fun v2=>(some (Chg.mk 1 ({ data:=#[116] }) [] v2)))
instance c_stemref1_Upsert (l:List Int):Con (m_stemref1_Upsert l) Tryz.prog 30 [.one (.d (.sl (l.map encI)))] (fun r=>.agg (r.enc.map RC.d)):=by
 unfold m_stemref1_Upsert
 exact go 6 Tryz.func30 rfl (by kernel_rfl) rfl rfl (by simp)
set_option maxRecDepth 20000
def m_database_Read (g_:Gr) (db:Db) (v_:Int):Option ((List Rel) × Int):=
 (bindK (m_database_Validate g_ db) fun v3=>(bif (v3 != 0) then (some ([],v3)) else (bif decide (v_ < 0) then (some ([],4)) else (bif decide ((db.insts.length:Int)≤v_) then (some ([],4)) else (getK db.insts v_ fun x8=>(bindK (m_instance_Clone x8) fun v9=>(some (v9,0))))))))
instance c_database_Read (g_:Gr) (db:Db) (v_:Int):Con (m_database_Read g_ db v_) Tryz.prog 31 [.agg g_.enc,.agg db.enc,.one (.d (.int .i64 v_))] (fun r=>.tup [.one (.d (.sl (r.1.map Rel.enc))),.one (.d (.int .i64 r.2))]):=by
 unfold m_database_Read
 exact go 30 Tryz.func31 rfl (by kernel_rfl) rfl rfl (by simp)
set_option maxRecDepth 20000
def m_stemref1_EqualRow (a:List GV) (b:List GV):Option Bool:=
 (bif ((a.length:Int) != (b.length:Int)) then (some false) else (forK (fun (i5:Nat) (x5:GV) (s5:Unit) next_5=>(getK b (i5:Int) fun x6=>(bif (!(x5.kind == x6.kind) || (!(x5.int == x6.int) || (!(x5.text == x6.text)))) then (some false) else (next_5 ())))) (fun (s5:Unit)=>(some true)) a 0 ()))
instance c_stemref1_EqualRow (a:List GV) (b:List GV):Con (m_stemref1_EqualRow a b) Tryz.prog 19 [.one (.d (.sl (a.map GV.enc))),.one (.d (.sl (b.map GV.enc)))] (fun r=>.one (.d (.bool r))):=by
 unfold m_stemref1_EqualRow
 have l1:LH (σ:=Unit) 13 [0,1,12] []:=.intro
 have p1:PH [6] (Plan.then_ [0,1,2,3,4,5,6,7,8] .done):=.intro
 exact go 26 Tryz.func19 rfl (by kernel_rfl) rfl rfl (by simp)
set_option maxRecDepth 20000
def m_stemref1_EqualRows (a:List (List GV)) (b:List (List GV)):Option Bool:=
 (bif ((a.length:Int) != (b.length:Int)) then (some false) else (forK (fun (i5:Nat) (x5:List GV) (s5:Unit) next_5=>(getK b (i5:Int) fun x6=>(bindK (m_stemref1_EqualRow x5 x6) fun v7=>(bif !v7 then (some false) else (next_5 ()))))) (fun (s5:Unit)=>(some true)) a 0 ()))
instance c_stemref1_EqualRows (a:List (List GV)) (b:List (List GV)):Con (m_stemref1_EqualRows a b) Tryz.prog 32 [.one (.d (.sl (a.map (encL GV.enc)))),.one (.d (.sl (b.map (encL GV.enc))))] (fun r=>.one (.d (.bool r))):=by
 unfold m_stemref1_EqualRows
 have l1:LH (σ:=Unit) 13 [0,1,12] []:=.intro
 have p1:PH [6] (Plan.then_ [0,1,2,3,4,5,6,7,8,9] .done):=.intro
 exact go 27 Tryz.func32 rfl (by kernel_rfl) rfl rfl (by simp)
set_option maxRecDepth 20000
def m_stemkeep1_databaseWorks:Option Bool:=
 (bindK (m_stemref1_SampleGraph) fun v1=>(bindK (m_database_New v1) fun v3=>(bif (v3.2 != 0) then (some false) else (bindK (m_stemref1_Upsert [1,2]) fun v6=>(bindK (m_database_Write v1 v3.1 0 [v6]) fun v7=>(bif (v7.2.2 != 0) then (some false) else (bindK (m_database_Read v1 v7.1 1) fun v9=>(bif (v9.2 == 0) then (bif ((v9.1.length:Int) == 1) then (getK v9.1 0 fun x13=>(bindK (m_stemref1_Ints [1,2,5]) fun v14=>(bindK (m_stemref1_EqualRows x13.rows [v14]) fun v15=>(some v15)))) else (some false)) else (some false)))))))))
instance c_stemkeep1_databaseWorks  : Con (m_stemkeep1_databaseWorks) Tryz.prog 7 [] (fun r=>.one (.d (.bool r))):=by
 unfold m_stemkeep1_databaseWorks
 have p1:PH [5] (Plan.then_ [0,1,2,3,4,5,6,7,8,9,10,11] .done):=.intro
 have p2:PH [9] (Plan.then_ [0,1,2,3,4,5,6,7,8,9,10,11,12,13,14,15,16,17] .done):=.intro
 exact go 48 Tryz.func7 rfl (by kernel_rfl) rfl rfl (by simp)
set_option maxRecDepth 20000
instance i_slices_Concat_Instance (slices:List (List (List Rel))):Con (m_slices_Concat_Instance slices) Tryz.prog 10 [.one (.d (.sl (slices.map (encL (encL Rel.enc)))))] (fun r=>.one (.d (.sl (r.map (encL Rel.enc))))):=⟨fun r hm=>c_slices_Concat_Instance slices r hm⟩
set_option maxRecDepth 20000
def m_slices_IndexFunc_Relation (s_:List Rel) (f:Rel→Option Bool):Option Int:=
 (forK (fun (i2:Nat) (x2:Rel) (s2:Unit) next_2=>(bindK (f x2) fun v3=>(bif v3 then (some (i2:Int)) else (next_2 ())))) (fun (s2:Unit)=>(some (-1))) s_ 0 ())
instance i_slices_IndexFunc_Relation (s_:List Rel) (f:Rel→Option Bool) {g:FuncId} {caps:List (List D)} [ConF f Tryz.prog (fun x=>.agg x.enc) (fun v=>.one (.d (.bool v))) g caps]:Con (m_slices_IndexFunc_Relation s_ f) Tryz.prog 58 [.one (.d (.sl (s_.map Rel.enc))),.one (.fn g caps)] (fun r=>.one (.d (.int .i64 r))):=by
 unfold m_slices_IndexFunc_Relation
 have l1:LH (σ:=Unit) 8 [0,1,7] []:=.intro
 exact go 19 Tryz.func58 rfl (by kernel_rfl) rfl rfl (by simp)
set_option maxRecDepth 20000
def m_slices_ContainsFunc_Relation (s_:List Rel) (f:Rel→Option Bool):Option Bool:=
 (bindK (m_slices_IndexFunc_Relation s_ f) fun v1=>(some (decide (0≤v1))))
instance i_slices_ContainsFunc_Relation (s_:List Rel) (f:Rel→Option Bool) {g:FuncId} {caps:List (List D)} [ConF f Tryz.prog (fun x=>.agg x.enc) (fun v=>.one (.d (.bool v))) g caps]:Con (m_slices_ContainsFunc_Relation s_ f) Tryz.prog 34 [.one (.d (.sl (s_.map Rel.enc))),.one (.fn g caps)] (fun r=>.one (.d (.bool r))):=by
 unfold m_slices_ContainsFunc_Relation
 exact go 9 Tryz.func34 rfl (by kernel_rfl) rfl rfl (by simp)
set_option maxRecDepth 20000
def m_stemkeep1_bounded_1 (r_:Rel):Option Bool:=
 (some (decide (40 < (r_.rows.length:Int))))
instance c_stemkeep1_bounded_1 (r_:Rel):Con (m_stemkeep1_bounded_1 r_) Tryz.prog 35 [.agg r_.enc] (fun r=>.one (.d (.bool r))):=by
 unfold m_stemkeep1_bounded_1
 exact go 7 Tryz.func35 rfl (by kernel_rfl) rfl rfl (by simp)
instance f_stemkeep1_bounded_1  : ConF (fun x=>m_stemkeep1_bounded_1 x) Tryz.prog (fun x=>.agg x.enc) (fun r=>.one (.d (.bool r))) 35 []:=⟨fun x=>(c_stemkeep1_bounded_1 x)⟩
set_option maxRecDepth 20000
def m_stemkeep1_bounded (g_:Gr) (db:Db) (changes:List Chg):Option Bool:=
 (bif decide (8 < (g_.edges.length:Int)) then (some false) else (bif decide (9 < (db.insts.length:Int)) then (some false) else (bif decide (9 < (db.comps.length:Int)) then (some false) else (bif decide (50 < (changes.length:Int)) then (some false) else (bindK (m_slices_Concat_Instance db.comps) fun v11=>(bindK (m_slices_Concat_Instance [v11,db.insts]) fun v12=>(forK (fun (i14:Nat) (x14:List Rel) (s14:Unit) next_14=>(bif decide (20 < (x14.length:Int)) then (some false) else (bindK (m_slices_ContainsFunc_Relation x14 (fun xa_=>m_stemkeep1_bounded_1 xa_)) fun v17=>(bif v17 then (some false) else (next_14 ()))))) (fun (s14:Unit)=>(some true)) v12 0 ())))))))
instance c_stemkeep1_bounded (g_:Gr) (db:Db) (changes:List Chg):Con (m_stemkeep1_bounded g_ db changes) Tryz.prog 8 [.agg g_.enc,.agg db.enc,.one (.d (.sl (changes.map Chg.enc)))] (fun r=>.one (.d (.bool r))):=by
 unfold m_stemkeep1_bounded
 have l1:LH (σ:=Unit) 38 [36,37] []:=.intro
 have p1:PH [3] (Plan.then_ [0,1,3,4,8,2,5,6,7] .done):=.intro
 exact go 50 Tryz.func8 rfl (by kernel_rfl) rfl rfl (by simp)
set_option maxRecDepth 20000
def m_database_mapSlice_InstanceL (l:List (List (List Rel))) (f:(List (List Rel))→Option (List (List Rel))):Option ((List (List (List Rel)))):=
 (forK (fun (i2:Nat) (x2:List (List Rel)) (s2:(List (List (List Rel)))) next_2=>(bindK (f x2) fun v3=>(appK2 s2 [v3] fun _=>(next_2 (s2++[v3]))))) (fun (s2:(List (List (List Rel))))=>(some s2)) l 0 [])
instance i_database_mapSlice_InstanceL (l:List (List (List Rel))) (f:(List (List Rel))→Option (List (List Rel))) {g:FuncId} {caps:List (List D)} [ConF f Tryz.prog (fun x=>.one (.d (.sl (x.map (encL Rel.enc))))) (fun v=>.one (.d (.sl (v.map (encL Rel.enc))))) g caps]:Con (m_database_mapSlice_InstanceL l f) Tryz.prog 37 [.one (.d (.sl (l.map (encL (encL Rel.enc))))),.one (.fn g caps)] (fun r=>.one (.d (.sl (r.map (encL (encL Rel.enc)))))):=by
 unfold m_database_mapSlice_InstanceL
 have l1:LH (σ:=(List (List (List Rel)))) 10 [1,8,9] [.g 5 1 (fun s=>s.map (encL (encL Rel.enc)))]:=.intro
 exact go 22 Tryz.func37 rfl (by kernel_rfl) rfl rfl (by simp)
set_option maxRecDepth 20000
def m_database_Clone (db:Db):Option Db:=
 (bindK (m_database_cloneAll db.insts) fun v3=>(bindK (m_database_mapSlice_InstanceL db.comps (fun xa_=>m_database_cloneAll xa_)) fun v4=>(some (Db.mk v3 v4))))
instance c_database_Clone (db:Db):Con (m_database_Clone db) Tryz.prog 9 [.agg db.enc] (fun r=>.agg (r.enc.map RC.d)):=by
 unfold m_database_Clone
 have p1:PH [1] (Plan.then_ [0,1,3,4,2,5,6,7] .done):=.intro
 exact go 10 Tryz.func9 rfl (by kernel_rfl) rfl rfl (by simp)
set_option maxRecDepth 20000
def m_stemref1_EqualInstance (a:List Rel) (b:List Rel):Option Bool:=
 (bif ((a.length:Int) != (b.length:Int)) then (some false) else (forK (fun (i5:Nat) (x5:Rel) (s5:Unit) next_5=>(getK b (i5:Int) fun x6=>(bif !(strEq x5.table x6.table) then (some false) else (bindK (m_stemref1_EqualRows x5.rows x6.rows) fun v8=>(bif !v8 then (some false) else (next_5 ())))))) (fun (s5:Unit)=>(some true)) a 0 ()))
instance c_stemref1_EqualInstance (a:List Rel) (b:List Rel):Con (m_stemref1_EqualInstance a b) Tryz.prog 23 [.one (.d (.sl (a.map Rel.enc))),.one (.d (.sl (b.map Rel.enc)))] (fun r=>.one (.d (.bool r))):=by
 unfold m_stemref1_EqualInstance
 have l1:LH (σ:=Unit) 13 [0,1,12] []:=.intro
 have p1:PH [6] (Plan.then_ [0,1,2,3,4,5,6,7,8,9,10,11,12,13,14,15,16,17,18,19,20,21,22,23,24] .done):=.intro
 exact go 42 Tryz.func23 rfl (by kernel_rfl) rfl rfl (by simp)
set_option maxRecDepth 20000
def m_stemref1_EqualInstances (a:List (List Rel)) (b:List (List Rel)):Option Bool:=
 (bif ((a.length:Int) != (b.length:Int)) then (some false) else (forK (fun (i5:Nat) (x5:List Rel) (s5:Unit) next_5=>(getK b (i5:Int) fun x6=>(bindK (m_stemref1_EqualInstance x5 x6) fun v7=>(bif !v7 then (some false) else (next_5 ()))))) (fun (s5:Unit)=>(some true)) a 0 ()))
instance c_stemref1_EqualInstances (a:List (List Rel)) (b:List (List Rel)):Con (m_stemref1_EqualInstances a b) Tryz.prog 39 [.one (.d (.sl (a.map (encL Rel.enc)))),.one (.d (.sl (b.map (encL Rel.enc))))] (fun r=>.one (.d (.bool r))):=by
 unfold m_stemref1_EqualInstances
 have l1:LH (σ:=Unit) 13 [0,1,12] []:=.intro
 have p1:PH [6] (Plan.then_ [0,1,2,3,4,5,6,7,8,9] .done):=.intro
 exact go 27 Tryz.func39 rfl (by kernel_rfl) rfl rfl (by simp)
set_option maxRecDepth 20000
def m_stemref1_EqualDatabase (a:Db) (b:Db):Option Bool:=
 (bindK (m_stemref1_EqualInstances a.insts b.insts) fun v3=>(bif !v3 then (some false) else (bif ((a.comps.length:Int) != (b.comps.length:Int)) then (some false) else (forK (fun (i9:Nat) (x9:List (List Rel)) (s9:Unit) next_9=>(getK b.comps (i9:Int) fun x10=>(bindK (m_stemref1_EqualInstances x9 x10) fun v11=>(bif !v11 then (some false) else (next_9 ()))))) (fun (s9:Unit)=>(some true)) a.comps 0 ()))))
instance c_stemref1_EqualDatabase (a:Db) (b:Db):Con (m_stemref1_EqualDatabase a b) Tryz.prog 11 [.agg a.enc,.agg b.enc] (fun r=>.one (.d (.bool r))):=by
 unfold m_stemref1_EqualDatabase
 have l1:LH (σ:=Unit) 24 [2,3,23] []:=.intro
 have p1:PH [6] (Plan.then_ [0,1,2,3,4,5,6,7,8,9,10,11] .done):=.intro
 exact go 40 Tryz.func11 rfl (by kernel_rfl) rfl rfl (by simp)
set_option maxRecDepth 20000
def m_slices_EqualFunc_InstanceL (s1:List (List (List Rel))) (s2:List (List (List Rel))) (eq:(List (List Rel))→(List (List Rel))→Option Bool):Option Bool:=
 (bif ((s1.length:Int) != (s2.length:Int)) then (some false) else (forK (fun (i5:Nat) (x5:List (List Rel)) (s5:Unit) next_5=>(getK s2 (i5:Int) fun x6=>(bindK (eq x5 x6) fun v7=>(bif !v7 then (some false) else (next_5 ()))))) (fun (s5:Unit)=>(some true)) s1 0 ()))
instance i_slices_EqualFunc_InstanceL (s1:List (List (List Rel))) (s2:List (List (List Rel))) (eq:(List (List Rel))→(List (List Rel))→Option Bool) {g:FuncId} {caps:List (List D)} [ConG eq Tryz.prog (fun x=>.one (.d (.sl (x.map (encL Rel.enc))))) (fun x=>.one (.d (.sl (x.map (encL Rel.enc))))) (fun v=>.one (.d (.bool v))) g caps]:Con (m_slices_EqualFunc_InstanceL s1 s2 eq) Tryz.prog 41 [.one (.d (.sl (s1.map (encL (encL Rel.enc))))),.one (.d (.sl (s2.map (encL (encL Rel.enc))))),.one (.fn g caps)] (fun r=>.one (.d (.bool r))):=by
 unfold m_slices_EqualFunc_InstanceL
 have l1:LH (σ:=Unit) 17 [1,2,15,16] []:=.intro
 exact go 32 Tryz.func41 rfl (by kernel_rfl) rfl rfl (by simp)
set_option maxRecDepth 20000
def m_database_Equal (a:Db) (b:Db):Option Bool:=
 (bindK (m_database_equalAll a.insts b.insts) fun v3=>(bif v3 then (bindK (m_slices_EqualFunc_InstanceL a.comps b.comps (fun xa_ xb_=>m_database_equalAll xa_ xb_)) fun v5=>(some v5)) else (some false)))
instance c_database_Equal (a:Db) (b:Db):Con (m_database_Equal a b) Tryz.prog 12 [.agg a.enc,.agg b.enc] (fun r=>.one (.d (.bool r))):=by
 unfold m_database_Equal
 exact go 17 Tryz.func12 rfl (by kernel_rfl) rfl rfl (by simp)
end Go.Proofs.YthiojhcimecdgaaGreatDoor
end
section
namespace Go.Proofs.YthiojhcimecdgaaGreatDoor
open Go Go.Am
instance (x:List Rel):Decidable (InstL x):=inferInstanceAs (Decidable (_∧_))
def DbL (db:Db):Prop:=(∀ x ∈ db.insts,InstL x)∧(∀ y ∈ db.comps,∀ x ∈ y,InstL x)∧db.comps.flatten.length+db.insts.length≤2097152
instance (db:Db):Decidable (DbL db):=inferInstanceAs (Decidable (_∧_∧_))
def m_stemkeep1_DatabaseCloneIsIndependent (db:Db):Option Bool:=
 bindK m_stemkeep1_databaseWorks fun w=>bif !w then some w else bindK (m_stemkeep1_bounded ⟨⟨[],[],[]⟩,[]⟩ db []) fun b=>bif !b then some w else chkK (DbL db) <|
 bindK (m_database_Clone db) fun d2=>bindK (m_stemref1_EqualDatabase d2 db) fun a=>bif a then m_database_Equal d2 db else some false
def FirstOK (H:HS) (db:Db) (bs:List Lab) (ci cc:C):Prop:=∃ qi qc,Part H [InstSh] ci qi (db.insts.map (encL Rel.enc))∧Part H [.r [InstSh]] cc qc (db.comps.map (encL (encL Rel.enc)))∧(plabs ci qi++plabs cc qc).Nodup∧(∀ k ∈ plabs ci qi++plabs cc qc,k.1 < H.ep∧k ∉ bs)∧∀ b ∈ bs,b.1 < H.ep
theorem FirstOK.mk' {Ha Hb Hc H:HS} {db:Db} {bs:List Lab} {ci cc:C} (g1:GrowP Ha Hb [InstSh] ci (db.insts.map (encL Rel.enc))) (g2:GrowP Hb Hc [.r [InstSh]] cc (db.comps.map (encL (encL Rel.enc)))) (hep:Hc.ep≤H.ep) (hb:∀ b ∈ bs,(b.1 < Ha.ep∨Hc.ep≤b.1)∧b.1 < H.ep)
  (hf:∀ k:Lab,Ha.ep≤k.1→k.1 < Hc.ep→k ∉ bs→H.box k=Hc.box k):FirstOK H db bs ci cc:=by
 obtain⟨qi,p1,nd1,hl1,s1⟩:=g1
 obtain⟨qc,p2,nd2,hl2,s2⟩:=g2
 have hA:∀ k ∈ plabs ci qi,Ha.ep≤k.1∧k.1 < Hc.ep:=fun k hk=>⟨(hl1 k hk).1,Nat.lt_of_lt_of_le (hl1 k hk).2 s2.1⟩
 have hB:∀ k ∈ plabs cc qc,Ha.ep≤k.1∧k.1 < Hc.ep:=fun k hk=>⟨Nat.le_trans s1.1 (hl2 k hk).1,(hl2 k hk).2⟩
 have hnb:∀ k:Lab,Ha.ep≤k.1→k.1 < Hc.ep→k ∉ bs:=fun k h1 h2 h9=>by have:=(hb k h9).1;omega
 refine⟨qi,qc,p1.frame fun k hk=>?_,p2.frame fun k hk=>hf k (hB k hk).1 (hB k hk).2 (hnb k (hB k hk).1 (hB k hk).2),List.nodup_append.2 ⟨nd1,nd2,fun a ha b hb' he=>?_⟩,fun k hk=>?_,fun b hb'=>(hb b hb').2⟩
 ·rw[hf k (hA k hk).1 (hA k hk).2 (hnb k (hA k hk).1 (hA k hk).2)]
  exact s2.2 k (hl1 k hk).2 (by simp)
 ·subst he
  have:=(hl1 a ha).2
  have:=(hl2 a hb').1
  omega
 ·rcases List.mem_append.1 hk with h9 | h9
  ·exact⟨Nat.lt_of_lt_of_le (hA k h9).2 hep,hnb k (hA k h9).1 (hA k h9).2⟩
  ·exact⟨Nat.lt_of_lt_of_le (hB k h9).2 hep,hnb k (hB k h9).1 (hB k h9).2⟩
def L34 (e:Env) (f:Lab→Lab→Prop):Prop:=match e.get 3,e.get 4 with | .one (.ptr a 0),.one (.ptr b 0)=>f a b | _,_=>False
theorem L34.of {e:Env} {f:Lab→Lab→Prop} (h:L34 e f):∃ a b,e.get 3=.one (.ptr a 0)∧e.get 4=.one (.ptr b 0)∧f a b:=by
 unfold L34 at h
 split at h
 ·exact⟨_,_,by assumption,by assumption,h⟩
 ·exact h.elim
theorem labs_nd {c:C}:(labs c).Nodup:=by cases c<;>simp[labs]
theorem ow_sing {h:HS} {s:Sh} {cs:List C} {ds:List D} {ls:List Lab} (o:Ow h [s] cs ds ls):∃ y,cs=[y]:=by
 have:=o.len.1
 match cs,this with
 | [y],_=>exact⟨y,rfl⟩
theorem OwL.one {h:HS} {sh:List Sh} {x:C} {es:List El} (o:OwL h [.r sh] x es) {i:Nat} (hi:i < es.length):∃ y es',es[i].1=[y]∧OwL h sh y es'∧es[i].2=ells y es':=by
 obtain⟨d,hd⟩:=o.ow _ (List.getElem_mem hi)
 obtain⟨y,hy⟩:=ow_sing hd
 rw[hy] at hd
 obtain⟨es',h1,h2⟩:=OwL.of hd
 exact⟨y,es',hy,h1,h2⟩
theorem OwL.step' {h h':HS} {sh:List Sh} {x:C} {es:List El} (o:OwL h [.r sh] x es) (nd:(ells x es).Nodup) (hlt:∀ k ∈ ells x es,k.1 < h.ep) {i:Nat} (hi:i < es.length) {y:C} {es' es'':List El} (hy:es[i].1=[y]) (hls:es[i].2=ells y es') (hs:Same h h' (ells y es')) (he:ells y es''=ells y es') (hw:OwL h' sh y es''):OwL h' [.r sh] x es:=
 o.step nd hlt hi (by rw[hls];exact hs) (by
  obtain⟨d,hd⟩:=hw.ow'
  exact⟨_,by rw[hy,hls,← he];exact hd⟩)
theorem ells_sub {x:C} {es:List El} {i:Nat} (hi:i < es.length):es[i].2.Sublist (ells x es):=
 List.Sublist.trans (by
  induction es generalizing i with
  | nil=>simp at hi
  | cons e es ih=>
    rw[List.flatMap_cons]
    cases i with
    | zero=>exact List.sublist_append_left _ _
    | succ i=>exact (ih (by simpa using hi)).trans (List.sublist_append_right _ _)) (List.sublist_append_right _ _)
theorem OwL.rel {h:HS} {sh:List Sh} {x:C} {es:List El} (o:OwL h [.d,.r sh] x es) {i:Nat} (hi:i < es.length):∃ a b d es',es[i].1=[a,b]∧a.toD=some d∧OwL h sh b es'∧es[i].2=ells b es':=by
 obtain⟨ds,hd⟩:=o.ow _ (List.getElem_mem hi)
 obtain⟨a,d,cs',ds',h1,h2,h3,h4⟩:=hd.inv_d
 obtain⟨b,hb⟩:=ow_sing h4
 subst hb
 obtain⟨es',h5,h6⟩:=OwL.of h4
 exact⟨a,b,d,es',h1,h3,h5,h6⟩
theorem OwL.stepR {h h':HS} {sh:List Sh} {x:C} {es:List El} (o:OwL h [.d,.r sh] x es) (nd:(ells x es).Nodup) (hlt:∀ k ∈ ells x es,k.1 < h.ep) {i:Nat} (hi:i < es.length) {a b:C} {d:D} {es':List El} (hy:es[i].1=[a,b]) (hd:a.toD=some d) (hls:es[i].2=ells b es') (hs:Same h h' (ells b es')) (hw:OwL h' sh b es'):OwL h' [.d,.r sh] x es:=
 o.step nd hlt hi (by rw[hls];exact hs) (by
  obtain⟨ds,h9⟩:=hw.ow'
  exact⟨_,by rw[hy,hls];exact .data hd h9⟩)
def hdC (e:El):C:=e.1.headD .nil
theorem hd_map {h:HS} {s:Sh}:∀ (es:List El),(∀ e ∈ es,∃ ds,Ow h [s] e.1 ds e.2)→es.map (·.1)=ones (es.map hdC)
 | [],_=>rfl
 | e::es,he=>by
   obtain⟨ds,hd⟩:=he e (by simp)
   have hl:=hd.len.1
   have ih:=hd_map es fun e' h'=>he e' (by simp[h'])
   obtain⟨cs,ls⟩:=e
   match cs,hl with
   | [y],_=>simp only[List.map_cons,ih,ones,hdC];rfl
theorem OwL.hd {h:HS} {s:Sh} {x:C} {es:List El} (o:OwL h [s] x es):es.map (·.1)=ones (es.map hdC):=hd_map es o.ow
theorem OwL.partR {h:HS} {s:Sh} {x:C} {es:List El} (o:OwL h [s] x es):PartR h x (es.map hdC):=by
 rcases o.mr with ⟨h1,rfl⟩ | hm
 ·exact .inr ⟨h1,rfl⟩
 ·rw[o.hd] at hm
  exact .inl hm
theorem OwL.ofN {h:HS} {sh:List Sh} {x:C} {dss:List (List D)} {ls:List Lab} (o:Ow h [.r sh] [x] [.sl dss] ls):∃ es,OwL h sh x es∧ls=ells x es∧es.length=dss.length:=by
 rcases o.inv_r with ⟨c,cs,ds',h1,h2,h3,h4⟩ | ⟨c,qs,cs',ds',ls',h1,h2,h3,hm,hq,hr⟩
 ·obtain⟨-,-,rfl⟩:=h4.inv_nil
  simp only[List.cons.injEq,and_true] at h1
  obtain⟨rfl,_⟩:=h1
  simp only[List.cons.injEq,D.sl.injEq] at h2
  exact⟨[],⟨.inl ⟨h3,rfl⟩,by simp⟩,by simp[ells,labs_data h3],by simp[h2.1]⟩
 ·obtain⟨-,-,rfl⟩:=hr.inv_nil
  simp only[List.cons.injEq,and_true] at h1
  obtain⟨rfl,_⟩:=h1
  simp only[List.cons.injEq,D.sl.injEq] at h2
  refine⟨qs.map fun q=>(q.1,q.2.2),⟨.inr (by simpa[Function.comp_def] using hm),fun e he=>?_⟩,by simp[h3,ells,List.flatMap_map],by simp[h2.1]⟩
  obtain⟨q,hqm,rfl⟩:=List.mem_map.1 he
  exact⟨q.2.1,hq q hqm⟩
theorem Part.owL {h:HS} {sh:List Sh} {c:C} {qs:List Q} {ds:List (List D)} (p:Part h sh c qs ds):OwL h sh c (qs.map fun q=>(q.1,q.2.2))∧ells c (qs.map fun q=>(q.1,q.2.2))=plabs c qs:=by
 refine⟨⟨.inr (by simpa[Function.comp_def] using p.mr),fun e he=>?_⟩,by simp[ells,plabs,List.flatMap_map]⟩
 obtain⟨q,hqm,rfl⟩:=List.mem_map.1 he
 exact⟨q.2.1,p.ow q hqm⟩
theorem part_ps {h:HS}:∀ (qs:List Q) (comps:List (List (List Rel))),qs.map (·.2.1)=comps.map (encL (encL Rel.enc))→(∀ q ∈ qs,Ow h [.r [InstSh]] q.1 q.2.1 q.2.2)→∃ ps:List (C × List El),qs.map (·.1)=ones (ps.map (·.1))∧(∀ p ∈ ps,OwL h [InstSh] p.1 p.2)∧qs.flatMap (·.2.2)=ps.flatMap (fun p=>ells p.1 p.2)∧(ps.flatMap (·.2)).length=comps.flatten.length
 | [],comps,hd,_=>by
   have:comps=[]:=by cases comps<;>simp at hd ⊢
   subst this
   exact⟨[],rfl,by simp,by simp,by simp⟩
 | q::qs,[],hd,_=>by simp at hd
 | q::qs,y::comps,hd,hq=>by
   simp only[List.map_cons,List.cons.injEq] at hd
   obtain⟨ps,h1,h2,h3,h4⟩:=part_ps qs comps hd.2 fun q' h'=>hq q' (by simp[h'])
   have o:=hq q (by simp)
   obtain⟨cs,dss,ls⟩:=q
   have hl:=o.len.1
   simp only at hd o hl
   match cs,hl with
   | [x],_=>
     rw[hd.1] at o
     obtain⟨es,o1,rfl,hlen⟩:=OwL.ofN o
     refine⟨(x,es)::ps,by simp[h1,ones],fun p hp=>?_,by simp[h3],by simp[h4,hlen]⟩
     rcases List.mem_cons.1 hp with rfl | hp
     ·exact o1
     ·exact h2 p hp
theorem flat_sub:∀ (ps:List (C × List El)),((ps.flatMap (·.2)).flatMap (·.2)).Sublist (ps.flatMap fun p=>ells p.1 p.2)
 | []=>by simp
 | p::ps=>by
   rw[List.flatMap_cons,List.flatMap_append,List.flatMap_cons]
   exact List.Sublist.append (by rw[ells];exact List.sublist_append_right _ _) (flat_sub ps)
theorem data_nil {h:HS} {x:C} {es:List El} {s:Sh} {d:D} (o:OwL h [s] x es) (hd:x.toD=some d):d=.sl []∧es=[]:=by
 rcases o.mr with ⟨h1,rfl⟩ | hm
 ·rw[hd] at h1;cases h1;exact⟨rfl,rfl⟩
 ·rcases hm.2.2 with ⟨h0,rfl | rfl⟩ | ⟨l,cap,sp,rfl,_⟩
  ·cases hd
   exact⟨rfl,by simpa using h0⟩
  ·cases hd
   exact⟨rfl,by simpa using h0⟩
  ·cases hd
set_option maxHeartbeats 2000000 in
theorem c_stemkeep1_DatabaseCloneIsIndependent (db:Db) (r:Bool) (hm:Is (m_stemkeep1_DatabaseCloneIsIndependent db) r) :
  PSpec Tryz.prog 3 [.agg db.enc] (.one (.d (.bool r))):=by
 unfold m_stemkeep1_DatabaseCloneIsIndependent at hm
 refine PSpec.of_heap ?_
 show HSpec _ _ [.agg (db.enc.map C.d)] HS.init _
 refine HSpec.of_vc Tryz.func3 rfl (by kernel_rfl) (n:=71) rfl rfl (by simp) ?_
 obtain⟨w,hw,hm⟩:=hm.bind
 simp
 refine callK_fn (c_stemkeep1_databaseWorks.h w hw) (by simp) ?_
 simp
 cases w with
 | false=>
   simp only[Bool.not_false,cond_true] at hm
   obtain rfl:=r_ret hm
   simp
   refine callK_fn (c_stemkeep1_databaseWorks.h false hw) (by simp) ?_
   simp[retH,resVs,resV,notTup]
   exact .data rfl
 | true=>
 simp only[Bool.not_true,cond_false] at hm
 obtain⟨b,hb,hm⟩:=hm.bind
 simp
 refine callK_fn ((c_stemkeep1_bounded ⟨⟨[],[],[]⟩,[]⟩ db []).h b hb) (by simp) ?_
 simp
 cases b with
 | false=>
   simp only[Bool.not_false,cond_true] at hm
   obtain rfl:=r_ret hm
   simp
   refine callK_fn (c_stemkeep1_databaseWorks.h true hw) (by simp) ?_
   simp[retH,resVs,resV,notTup]
   exact .data rfl
 | true=>
 simp only[Bool.not_true,cond_false] at hm
 obtain⟨hok,hm⟩:=hm.chk
 obtain⟨d2,hd2,hm⟩:=hm.bind
 simp
 refine Wait.cut (Plan.then_ [0,2] (.three 1 4 5 (Plan.then_ [] (.three 3 4 5 (Plan.then_ [] (.two 4 5 (Plan.then_ [5,6,7] .done) (Plan.then_ [4,6,7] .done))) (Plan.then_ [] (.two 3 5 (Plan.then_ [5,6,7] .done) (Plan.then_ [3,6,7] .done))) (Plan.then_ [] (.two 3 4 (Plan.then_ [4,6,7] .done) (Plan.then_ [3,6,7] .done))))) (Plan.then_ [] (.two 1 5 (Plan.then_ [] (.two 3 5 (Plan.then_ [5,6,7] .done) (Plan.then_ [3,6,7] .done))) (Plan.then_ [1,3,6,7] .done))) (Plan.then_ [] (.two 1 4 (Plan.then_ [] (.two 3 4 (Plan.then_ [4,6,7] .done) (Plan.then_ [3,6,7] .done))) (Plan.then_ [1,3,6,7] .done))))) follows (by kernel_rfl)
  (fun e1 h1=>∃ ci cc l3 l4,e1.get 3=.one (.ptr l3 0)∧e1.get 4=.one (.ptr l4 0)∧e1.n=71∧e1.get 1=.one (.ptr (0,16) 0)∧h1.box (0,16)=some (db.enc.map C.d)∧h1.box l3=some [ci,cc]∧h1.box l4=some (d2.enc.map C.d)∧FirstOK h1 db [(0,16),l3,l4] ci cc) ?_ ?_
 ·simp[Plan.then_,vcPlan,planOps,isCallAt,callKind]
  repeat' with_reducible refine And.intro ?_ ?_
  all_goals
   refine callK_heap (h_database_CloneD _ db hok.1 hok.2.1 _ fun ci cc hM h2 g1 g2 hbl=>?_)
   have hs:=g1.same.trans g2.same
   have he:=hs.1
   have b0:=hs.2 (0,16) (by simp) (by simp)
   have b1:=fun k=>hs.2 (3,k)
   have b2:=fun k=>hs.2 (4,k)
   simp at he b0 b1 b2
   simp[Plan.then_,vcPlan,planOps,isCallAt,callKind]
   repeat' with_reducible refine And.intro ?_ ?_
   all_goals first | exact hbl | (refine callK_fn ((c_database_Clone db).h d2 hd2) (by simp) ?_) | skip
   all_goals simp[Plan.then_,vcPlan,planOps,isCallAt,callKind,b0,b1,b2]
   all_goals repeat' with_reducible refine And.intro ?_ ?_
   all_goals first | exact fun _ _ x=>x | skip
   all_goals refine CutK.of ⟨ci,cc,L34.of ?_⟩
   all_goals simp[L34,b0,b1,b2]
   all_goals
    refine FirstOK.mk' g1 g2 (by simp<;>omega) ?_ fun k k1 k2 k3=>?_
    ·intro b hb'
     simp at hb'
     rcases hb' with rfl | rfl | rfl<;>simp<;>omega
    ·simp only[List.mem_cons,List.not_mem_nil,or_false,not_or] at k3
     simp[k3]
 ·rintro e1 h1 ⟨ci,cc,l3,l4,e3,e4,en,e1',b1,b3,b4,qi,qc,pI,pC,nd,hl,hbs⟩
  refine Wait.cut (Plan.then_ [0,1,3,4,8,2,5,6,7] .done) follows (by kernel_rfl) (fun e2 h2=>∃ c2 es,e2.n=71∧e2.get 1=.one (.ptr (0,16) 0)∧e2.get 4=.one (.ptr l4 0)∧e2.get 31=.one c2∧e2.get 32=.one (.d (.int .i64 ((es.length:Nat):Int)))∧e2.get 33=.one (.d (.int .i64 0))
   ∧ OwL h2 [InstSh] c2 es∧(ells c2 es).Nodup∧(∀ k ∈ ells c2 es,k.1 < h2.ep∧k ∉ [(0,16),l4])∧h2.box (0,16)=some (db.enc.map C.d)∧h2.box l4=some (d2.enc.map C.d)∧(0 < h2.ep∧l4.1 < h2.ep)) ?_ ?_
  ·simp[Plan.then_,vcPlan,planOps,isCallAt,callKind,en,e1',e3,e4,b1,b3,b4]
   obtain⟨ps,hps,hpo,hpl,hplen⟩:=part_ps qc db.comps pC.ds pC.ow
   obtain⟨oI,lI⟩:=pI.owL
   generalize hesI:(qi.map fun q=>(q.1,q.2.2))=esI at oI lI
   have hiLen:esI.length=db.insts.length:=by
    have:=congrArg List.length pI.ds
    rw[← hesI]
    simpa using this
   have hmr:MR h1 1 cc (ones (ps.map (·.1))):=by rw[← hps];exact pC.mr
   have hcl:∀ k ∈ plabs cc qc,k.1 < h1.ep∧k ∉ [(0,16),l3,l4]:=fun k hk=>hl k (List.mem_append_right _ hk)
   have hpm:∀ p ∈ ps,∀ k ∈ ells p.1 p.2,k ∈ plabs cc qc:=fun p hp k hk=>List.mem_append_right _ (by rw[hpl];exact List.mem_flatMap.2 ⟨p,hp,hk⟩)
   have hone:(ps.map fun p=>(p.1,p.2.map hdC)).flatMap (·.2)=(ps.flatMap (·.2)).map hdC:=by simp[List.flatMap_map,List.map_flatMap]
   have htot:(ps.flatMap (·.2)).length+esI.length≤2097152:=by rw[hplen,hiLen];exact hok.2.2
   refine callK_heap (h_slices_ConcatD _ cc (ps.map fun p=>(p.1,p.2.map hdC)) (by simpa[Function.comp_def] using hmr) (fun p hp=>?_) (fun k hk=>(hcl k (List.mem_append_left _ hk)).1) (fun p hp k hk=>?_) (by rw[hone,List.length_map];omega) _ fun c1 h2 m1 hs1 hl1 hb1=>?_)
   ·obtain⟨p',hp',rfl⟩:=List.mem_map.1 hp
    exact (hpo p' hp').partR
   ·obtain⟨p',hp',rfl⟩:=List.mem_map.1 hp
    exact (hcl k (hpm p' hp' k (List.mem_append_left _ hk))).1
   rw[hone] at m1
   have ow1:∀ e ∈ ps.flatMap (·.2),∃ ds,Ow h1 [InstSh] e.1 ds e.2:=fun e he=>by
    obtain⟨p,hp,he⟩:=List.mem_flatMap.1 he
    exact (hpo p hp).ow e he
   have sub1:((ps.flatMap (·.2)).flatMap (·.2)).Sublist (plabs cc qc):=(flat_sub ps).trans (by rw[← hpl];exact List.sublist_append_right _ _)
   generalize ps.flatMap (·.2)=es1 at htot m1 ow1 sub1
   have subI:(esI.flatMap (·.2)).Sublist (plabs ci qi):=by rw[← lI];exact List.sublist_append_right _ _
   have o1:OwL h2 [InstSh] c1 es1:=⟨.inr (by rw[hd_map es1 ow1];exact m1),fun e he=>by
    obtain⟨ds,hd⟩:=ow1 e he
    exact⟨ds,hd.frame fun k hk=>hs1.2 k (hcl k (sub1.mem (List.mem_flatMap.2 ⟨e,he,hk⟩))).1 (by simp)⟩⟩
   have memF:∀ k ∈ (es1++esI).flatMap (·.2),k ∈ plabs ci qi++plabs cc qc:=fun k hk=>by
    rw[List.flatMap_append] at hk
    rcases List.mem_append.1 hk with h9 | h9
    ·exact List.mem_append_right _ (sub1.mem h9)
    ·exact List.mem_append_left _ (subI.mem h9)
   have fin:∀ c2 h',MR h' 1 c2 (ones ((es1++esI).map hdC))→Same h1 h' []→(∀ k ∈ labs c2,h1.ep≤k.1∧k.1 < h'.ep)→OwL h' [InstSh] c2 (es1++esI)∧(ells c2 (es1++esI)).Nodup∧(∀ k ∈ ells c2 (es1++esI),k.1 < h'.ep∧k ∉ [(0,16),l4])∧h'.box (0,16)=some (db.enc.map C.d)∧h'.box l4=some (d2.enc.map C.d)∧(0 < h'.ep∧l4.1 < h'.ep):=fun c2 h' m2 hs2 hl2=>by
    have hep:=hs2.1
    have hb0:=hbs (0,16) (by simp)
    have hb4:=hbs l4 (by simp)
    have owA:∀ e ∈ es1++esI,∃ ds,Ow h1 [InstSh] e.1 ds e.2:=fun e he=>(List.mem_append.1 he).elim (ow1 e) (oI.ow e)
    refine⟨⟨.inr (by rw[hd_map _ owA];exact m2),fun e he=>?_⟩,?_,fun k hk=>?_,by rw[hs2.2 _ hb0 (by simp),b1],by rw[hs2.2 _ hb4 (by simp),b4],by simp at hb0;omega,by omega⟩
    ·obtain⟨ds,hd⟩:=owA e he
     exact⟨ds,hd.frame fun k hk=>hs2.2 k (hl k (memF k (List.mem_flatMap.2 ⟨e,he,hk⟩))).1 (by simp)⟩
    ·refine List.nodup_append.2 ⟨labs_nd,?_,fun a ha b hb he=>?_⟩
     ·rw[List.flatMap_append]
      have nd':=List.nodup_append.1 nd
      exact List.nodup_append.2 ⟨sub1.nodup nd'.2.1,subI.nodup nd'.1,fun a ha b hb he=>nd'.2.2 b (subI.mem hb) a (sub1.mem ha) he.symm⟩
     ·subst he
      have:=(hl2 a ha).1
      have:=(hl a (memF a hb)).1
      omega
    ·rcases List.mem_append.1 hk with h9 | h9
     ·refine⟨(hl2 k h9).2,fun h8=>?_⟩
      have:=(hl2 k h9).1
      simp at h8
      rcases h8 with rfl | rfl
      ·simp at hb0;omega
      ·omega
     ·have:=hl k (memF k h9)
      refine⟨by omega,fun h8=>this.2 ?_⟩
      simp at h8 ⊢
      rcases h8 with h8 | h8
      ·exact .inl h8
      ·exact .inr (.inr h8)
   simp[Plan.then_,vcPlan,planOps,isCallAt,callKind,en,e1',e3,e4,b1,b3,b4]
   refine⟨hb1,?_⟩
   have hs3:Same h2 (h2.setBox (h2.ep,480) [c1,ci]).next []:=(Same.refl.setBox (.inr (by simp))).next
   have go:∀ K',(∀ c2 h',MR h' 1 c2 (ones ((es1++esI).map hdC))→Same h1 h' []→(∀ k ∈ labs c2,h1.ep≤k.1∧k.1 < h'.ep)→BoxLe (h2.setBox (h2.ep,480) [c1,ci]).next h'→K' (.one c2) h')→HSpec Tryz.prog 10 [.one (.mrow (h2.ep,480) 0 2 2)] (h2.setBox (h2.ep,480) [c1,ci]).next K':=fun K' hK'=>by
    have hI2:∀ k ∈ labs ci,k.1 < h1.ep:=fun k hk=>(hl k (List.mem_append_left _ (List.mem_append_left _ hk))).1
    refine h_slices_ConcatD _ _ [(c1,es1.map hdC),(ci,esI.map hdC)] (ones_mr (rs:=[c1,ci]) (sp:=[]) (by simp) (by simp) (by simp)) (fun p hp=>?_) (fun k hk=>by simp[labs] at hk;subst hk;simp) (fun p hp k hk=>?_) (by simpa using htot) _ fun c2 h' m2 hs2 hl2 hb2=>hK' c2 h' (by simpa using m2) ((hs1.trans hs3).trans hs2) (fun k hk=>⟨Nat.le_trans (hs1.trans hs3).1 (hl2 k hk).1,(hl2 k hk).2⟩) hb2
    ·simp only[List.mem_cons,List.not_mem_nil,or_false] at hp
     rcases hp with rfl | rfl
     ·exact o1.partR.frame fun l hl'=>hs3.2 l (hl1 l hl').2 (by simp)
     ·exact oI.partR.frame fun l hl'=>(hs1.trans hs3).2 l (hI2 l hl') (by simp)
    ·simp only[List.mem_cons,List.not_mem_nil,or_false] at hp
     rcases hp with rfl | rfl
     ·exact Nat.lt_of_lt_of_le (hl1 k hk).2 hs3.1
     ·exact Nat.lt_of_lt_of_le (hI2 k hk) (hs1.trans hs3).1
   have hlen12:=htot
   rw[← List.length_append] at hlen12
   cases hc1:c1.toD with
   | none=>
     simp[en]
     refine callK_heap (go _ fun c2 h' m2 hs2 hl2 hb2=>?_)
     simp[Plan.then_,vcPlan,planOps,isCallAt,callKind,en,e1',e3,e4]
     refine⟨hb2,?_⟩
     refine MR.lenK m2 ?_
     simp[Plan.then_,vcPlan,planOps,isCallAt,callKind,en,e1',e3,e4,ones]
     obtain⟨f1,f2,f3,f4,f5,f6⟩:=fin c2 h' m2 hs2 hl2
     exact CutK.of ⟨c2,es1++esI,by simp[en],by simp[e1'],by simp[e4],by simp,by simp,by simp,f1,f2,f3,f4,f5,f6⟩
   | some d1=>
   cases hci:ci.toD with
   | none=>
     simp[en]
     refine callK_heap (go _ fun c2 h' m2 hs2 hl2 hb2=>?_)
     simp[Plan.then_,vcPlan,planOps,isCallAt,callKind,en,e1',e3,e4]
     refine⟨hb2,?_⟩
     refine MR.lenK m2 ?_
     simp[Plan.then_,vcPlan,planOps,isCallAt,callKind,en,e1',e3,e4,ones]
     obtain⟨f1,f2,f3,f4,f5,f6⟩:=fin c2 h' m2 hs2 hl2
     exact CutK.of ⟨c2,es1++esI,by simp[en],by simp[e1'],by simp[e4],by simp,by simp,by simp,f1,f2,f3,f4,f5,f6⟩
   | some dI=>
     obtain⟨rfl,rfl⟩:=data_nil o1 hc1
     obtain⟨rfl,rfl⟩:=data_nil oI hci
     simp[en]
     refine callK_fn (c_slices_Concat_Instance [[],[]] [] rfl) (by simp[toAs,encL]) ?_
     simp[Plan.then_,vcPlan,planOps,isCallAt,callKind,en,e1',e3,e4]
     have hx:Same h1 (h2.setArr (h2.ep,480) (some (2,1))).next.next []:=hs1.trans (Same.refl.setArr.next.next)
     have hep:=hx.1
     have hb0:=hbs (0,16) (by simp)
     have hb4:=hbs l4 (by simp)
     refine⟨fun _ _ x=>x,CutK.of ⟨.d (.sl []),[],by simp[en],by simp[e1'],by simp[e4],by simp,by simp,by simp,⟨.inl ⟨rfl,rfl⟩,by simp⟩,by simp[ells,labs],by simp[ells,labs],by rw[hx.2 _ hb0 (by simp),b1],by rw[hx.2 _ hb4 (by simp),b4],by simp at hb0;omega,by omega⟩⟩
  ·rintro e2 h2 ⟨c2,es,en2,f1,f4,f31,f32,f33,oA,ndA,hlA,g0,g4,hp0,hp4⟩
   clear nd hl hbs pI pC b1 b3 b4 en e1' e3 e4
   have hlim:=oA.le
   have hltA:∀ k ∈ ells c2 es,k.1 < h2.ep:=fun k hk=>(hlA k hk).1
   simp[en2,f31,f32,f33]
   refine Wait.for (xs:=es) (s0:=()) (fun i _ e h'=>e.n=71∧e.get 1=.one (.ptr (0,16) 0)∧e.get 4=.one (.ptr l4 0)∧e.get 31=.one c2∧e.get 32=.one (.d (.int .i64 (es.length:Int)))∧e.get 33=.one (.d (.int .i64 (i:Int)))∧OwL h' [InstSh] c2 es∧Same h2 h' (ells c2 es)) (triv_for es 0) ⟨en2,f1,f4,f31,f32,f33,oA,.refl⟩ ?_ ?_
   ·rintro i _ e h' ⟨en,e1',e4,e31,e32,e33,o1,s1⟩ hi hm8
    have hw:IntKind.i64.wrap ((i:Int)+1)=(i:Int)+1:=IntWalk.i64_in _ (by omega)
    obtain⟨l1,cap1,sp1,hc1,hb1,ht1,-,-⟩:=o1.block hi
    obtain⟨y,es3,hy,oy,hly⟩:=o1.one hi
    have ndy:(ells y es3).Nodup:=by rw[← hly];exact (ells_sub hi).nodup ndA
    have hlty:∀ k ∈ ells y es3,k.1 < h'.ep:=fun k hk=>Nat.lt_of_lt_of_le (hltA k ((ells_sub hi).mem (by rw[hly];exact hk))) s1.1
    have hsuby:∀ k ∈ ells y es3,k ∈ ells c2 es:=fun k hk=>(ells_sub hi).mem (by rw[hly];exact hk)
    rw[hy] at ht1
    simp at ht1
    simp[en,e31,e32,e33,hi,hc1,hb1,ht1]
    refine oy.lenK ?_
    have hlimy:=oy.le
    simp[en,e31,e32,e33]
    refine Wait.for (xs:=es3) (s0:=()) (fun j _ e h''=>e.n=71∧e.get 1=.one (.ptr (0,16) 0)∧e.get 4=.one (.ptr l4 0)∧e.get 31=.one c2∧e.get 32=.one (.d (.int .i64 (es.length:Int)))∧e.get 33=.one (.d (.int .i64 (i:Int)))∧e.get 37=.one y∧e.get 38=.one (.d (.int .i64 (es3.length:Int)))∧e.get 39=.one (.d (.int .i64 (j:Int)))∧OwL h'' RelSh y es3∧Same h' h'' (ells y es3)) (triv_for es3 0) ⟨by simp[en],by simp[e1'],by simp[e4],by simp[e31,hc1],by simp[e32],by simp[e33],by simp,by simp,by simp,oy,.refl⟩ ?_ ?_
    ·rintro j _ e h2' ⟨en,e1',e4,e31,e32,e33,e37,e38,e39,o2,s2⟩ hj hm7
     have hw2:IntKind.i64.wrap ((j:Int)+1)=(j:Int)+1:=IntWalk.i64_in _ (by omega)
     obtain⟨l2,cap2,sp2,hc2,hb2,ht2,-,-⟩:=o2.block hj
     obtain⟨va,vb,vd,es4,hv,hvd,ob,hlb⟩:=o2.rel hj
     have ndb:(ells vb es4).Nodup:=by rw[← hlb];exact (ells_sub hj).nodup ndy
     have hsubb:∀ k ∈ ells vb es4,k ∈ ells y es3:=fun k hk=>(ells_sub hj).mem (by rw[hlb];exact hk)
     have hltb:∀ k ∈ ells vb es4,k.1 < h2'.ep:=fun k hk=>Nat.lt_of_lt_of_le (hlty k (hsubb k hk)) s2.1
     rw[hv] at ht2
     simp at ht2
     simp[en,e31,e32,e33,e37,e38,e39,hj,hc2,hb2,ht2]
     refine ob.lenK ?_
     have hlimb:=ob.le
     simp[en,e31,e32,e33,e37,e38,e39]
     have hsA:Same h2' ((h2'.setBox (h2'.ep,128) [C.d (D.str ByteArray.empty),C.nil]).next.setBox (h2'.ep,128) [va,vb]) []:=(Same.refl.setBox (.inr (by simp))).next.setBox (.inr (by simp))
     generalize (h2'.setBox (h2'.ep,128) [C.d (D.str ByteArray.empty),C.nil]).next.setBox (h2'.ep,128) [va,vb]=HB at hsA
     have ob':=ob.frame hltb hsA
     refine Wait.for (xs:=es4) (s0:=()) (fun k _ e h''=>e.n=71∧e.get 1=.one (.ptr (0,16) 0)∧e.get 4=.one (.ptr l4 0)∧e.get 31=.one c2∧e.get 32=.one (.d (.int .i64 (es.length:Int)))∧e.get 33=.one (.d (.int .i64 (i:Int)))∧e.get 37=.one y∧e.get 38=.one (.d (.int .i64 (es3.length:Int)))∧e.get 39=.one (.d (.int .i64 (j:Int)))∧e.get 44=.one vb∧e.get 45=.one (.d (.int .i64 (es4.length:Int)))∧e.get 46=.one (.d (.int .i64 (k:Int)))∧OwL h'' [RowSh] vb es4∧Same HB h'' (ells vb es4)) (triv_for es4 0) ⟨by simp[en],by simp[e1'],by simp[e4],by simp[e31],by simp[e32],by simp[e33],by simp[e37,hc2],by simp[e38],by simp[e39],by simp,by simp,by simp,ob',.refl⟩ ?_ ?_
     ·rintro k _ e h3' ⟨en,e1',e4,e31,e32,e33,e37,e38,e39,e44,e45,e46,o3,s3⟩ hk hm6
      have hw3:IntKind.i64.wrap ((k:Int)+1)=(k:Int)+1:=IntWalk.i64_in _ (by omega)
      obtain⟨l3',cap3,sp3,hc3,hb3,ht3,-,-⟩:=o3.block hk
      obtain⟨r5,es5,hr,or5,hlr⟩:=o3.one hk
      have ndr:(ells r5 es5).Nodup:=by rw[← hlr];exact (ells_sub hk).nodup ndb
      have hsubr:∀ k ∈ ells r5 es5,k ∈ ells vb es4:=fun q hq=>(ells_sub hk).mem (by rw[hlr];exact hq)
      have hltr:∀ k ∈ ells r5 es5,k.1 < h3'.ep:=fun q hq=>Nat.lt_of_lt_of_le (hltb q (hsubr q hq)) (Nat.le_trans hsA.1 s3.1)
      rw[hr] at ht3
      simp at ht3
      simp[en,e31,e32,e33,e37,e38,e39,e44,e45,e46,hk,hc3,hb3,ht3]
      refine or5.lenK ?_
      have hlimr:=or5.le
      simp[en,e31,e32,e33,e37,e38,e39,e44,e45,e46]
      have hflr:ells r5 es5=labs r5:=flat_ells or5.flat
      refine Wait.for (xs:=es5) (s0:=()) (fun m _ e h''=>∃ es',e.n=71∧e.get 1=.one (.ptr (0,16) 0)∧e.get 4=.one (.ptr l4 0)∧e.get 31=.one c2∧e.get 32=.one (.d (.int .i64 (es.length:Int)))∧e.get 33=.one (.d (.int .i64 (i:Int)))∧e.get 37=.one y∧e.get 38=.one (.d (.int .i64 (es3.length:Int)))∧e.get 39=.one (.d (.int .i64 (j:Int)))∧e.get 44=.one vb∧e.get 45=.one (.d (.int .i64 (es4.length:Int)))∧e.get 46=.one (.d (.int .i64 (k:Int)))∧e.get 10=.one r5∧e.get 51=.one (.d (.int .i64 (es5.length:Int)))∧e.get 52=.one (.d (.int .i64 (m:Int)))∧OwL h'' VSh r5 es'∧es'.length=es5.length∧Same h3' h'' (labs r5)) (triv_for es5 0) ⟨es5,by simp[en],by simp[e1'],by simp[e4],by simp[e31],by simp[e32],by simp[e33],by simp[e37],by simp[e38],by simp[e39],by simp[e44,hc3],by simp[e45],by simp[e46],by simp,by simp,by simp,or5,rfl,.refl⟩ ?_ ?_
      ·rintro m _ e h4' ⟨es',en,e1',e4,e31,e32,e33,e37,e38,e39,e44,e45,e46,e10,e51,e52,o4,hn4,s4⟩ hm0 hm9
       have hw4:IntKind.i64.wrap ((m:Int)+1)=(m:Int)+1:=IntWalk.i64_in _ (by omega)
       have hm':m < es'.length:=by omega
       obtain⟨l4',cap4,sp4,hc4,hb4,ht4,hcp4,hall4⟩:=o4.block hm'
       simp[en,e10,e51,e52,hm0,hm',hc4,hb4,ht4,hw4]
       rw[hc4] at o4
       refine⟨by
        have hq:=rowBox_length (sp:=sp4) hall4
        simp at hq ⊢
        omega,BackF.of () ⟨⟨es'.set m ([C.d (D.int IntKind.i64 3),C.d (D.int IntKind.i64 0),C.d (D.str { data:=#[111,118,101,114,119,114,105,116,116,101,110] })],[]),by simp[en],by simp[e1'],by simp[e4],by simp[e31],by simp[e32],by simp[e33],by simp[e37],by simp[e38],by simp[e39],by simp[e44],by simp[e45],by simp[e46],by simp[e10],by simp[e51],by simp,?_,by simpa using hn4,s4.setBox (.inl (by simp[hc4,labs]))⟩,hm9⟩⟩
       rw[hc4]
       exact o4.val hb4 hcp4 hm' (ds:=[.int .i64 3,.int .i64 0,.str _]) rfl rfl hall4 fun q hq=>by
        obtain⟨e9,h9,h8⟩:=List.mem_flatMap.1 hq
        rw[o4.flat e9 h9] at h8
        simp at h8
      ·rintro _ e h4' ⟨es',en,e1',e4,e31,e32,e33,e37,e38,e39,e44,e45,e46,e10,e51,e52,o4,hn4,s4⟩ hm9
       simp[en,e1',e4,e31,e32,e33,e37,e38,e39,e44,e45,e46,e10,e51,e52,hw3]
       have sR:Same h3' h4' (ells r5 es5):=by rw[hflr];exact s4
       have hfl':ells r5 es'=ells r5 es5:=by rw[hflr];exact flat_ells o4.flat
       exact BackF.of () ⟨⟨by simp[en],by simp[e1'],by simp[e4],by simp[e31],by simp[e32],by simp[e33],by simp[e37],by simp[e38],by simp[e39],by simp[e44],by simp[e45],by simp,o3.step' ndb (fun q hq=>Nat.lt_of_lt_of_le (hltb q hq) (Nat.le_trans hsA.1 s3.1)) hk hr hlr sR hfl' o4,s3.trans (sR.mono hsubr)⟩,hm6⟩
     ·rintro _ e h3' ⟨en,e1',e4,e31,e32,e33,e37,e38,e39,e44,e45,e46,o3,s3⟩ hm9
      simp[en,e1',e4,e31,e32,e33,e37,e38,e39,e44,e45,e46,hw2]
      have sB:Same h2' h3' (ells vb es4):=(hsA.mono (by simp)).trans s3
      exact BackF.of () ⟨⟨by simp[en],by simp[e1'],by simp[e4],by simp[e31],by simp[e32],by simp[e33],by simp[e37],by simp[e38],by simp,o2.stepR ndy (fun k hk=>Nat.lt_of_lt_of_le (hlty k hk) s2.1) hj hv hvd hlb sB o3,s2.trans (sB.mono hsubb)⟩,hm7⟩
    ·rintro _ e h2' ⟨en,e1',e4,e31,e32,e33,e37,e38,e39,o2,s2⟩ hm9
     simp[en,e1',e4,e31,e32,e33,e37,e38,e39,hw]
     exact BackF.of () ⟨⟨by simp[en],by simp[e1'],by simp[e4],by simp[e31],by simp[e32],by simp,o1.step' ndA (fun k hk=>Nat.lt_of_lt_of_le (hltA k hk) s1.1) hi hy hly s2 rfl o2,s1.trans (s2.mono hsuby)⟩,hm8⟩
   ·rintro _ e h' ⟨en,e1',e4,e31,e32,e33,o1,s1⟩ hm9
    have hb0:=s1.2 (0,16) hp0 fun h9=>(hlA _ h9).2 (by simp)
    have hb4:=s1.2 l4 hp4 fun h9=>(hlA _ h9).2 (by simp)
    rw[g0] at hb0
    rw[g4] at hb4
    obtain⟨a,ha,hm⟩:=hm.bind
    simp[en,e1',e4,e31,e32,e33,hb0,hb4]
    refine callK_fn ((c_stemref1_EqualDatabase d2 db).h a ha) (by simp) ?_
    simp[en,e1',e4,hb0,hb4]
    cases a with
    | false=>
      obtain rfl:=r_ret hm
      simp[en,e1',e4,hb0,hb4,retH,resVs,resV,notTup]
      exact .data rfl
    | true=>
      simp only[cond_true] at hm
      simp[en,e1',e4,hb0,hb4]
      refine callK_fn ((c_database_Equal d2 db).h r hm) (by simp) ?_
      simp[en,e1',e4,hb0,hb4,retH,resVs,resV,notTup]
      exact .data rfl
end Go.Proofs.YthiojhcimecdgaaGreatDoor
end
section
namespace Go.Am
open Go
section
variable {ρ α β σ:Type} {Q:ρ→Prop}
def Wp (m:Option ρ) (Q:ρ→Prop):Prop:=∃ r,m=some r∧Q r
theorem Wp.mono {m:Option ρ} {Q Q':ρ→Prop} (h:Wp m Q) (hq:∀ r,m=some r→Q r→Q' r):Wp m Q':=by
 obtain⟨r,h1,h2⟩:=h
 exact⟨r,h1,hq r h1 h2⟩
theorem Wp.ret {r:ρ} (h:Q r):Wp (some r) Q:=⟨r,rfl,h⟩
theorem Wp.bind {m:Option α} {K:α→Option ρ} {R:α→Prop} (h:Wp m R) (hk:∀ x,m=some x→R x→Wp (K x) Q):Wp (bindK m K) Q:=by
 obtain⟨x,h1,h2⟩:=h
 unfold bindK
 subst h1
 exact hk x rfl h2
theorem Wp.cond {b:Bool} {A B:Option ρ} (h1:b=true→Wp A Q) (h2:b=false→Wp B Q):Wp (cond b A B) Q:=by
 cases b
 ·exact h2 rfl
 ·exact h1 rfl
theorem Wp.chk {b:Prop} [Decidable b] {m:Option ρ} (hb:b) (h:Wp m Q):Wp (chkK b m) Q:=by
 unfold chkK;rw[if_pos hb];exact h
theorem Wp.get {xs:List α} {i:Int} {K:α→Option ρ} (h0:0≤i) (h1:i < xs.length) (hk:∀ x,xs[i.toNat]?=some x→x ∈ xs→Wp (K x) Q):Wp (getK xs i K) Q:=by
 have hl:i.toNat < xs.length:=by omega
 unfold getK
 rw[if_pos h0,List.getElem?_eq_getElem hl]
 exact hk _ (List.getElem?_eq_getElem hl) (List.getElem_mem hl)
theorem Wp.getN {xs:List α} {i:Nat} {x:α} {K:α→Option ρ} (hx:xs[i]?=some x) (hk:Wp (K x) Q):Wp (getK xs (i:Int) K) Q:=by
 unfold getK
 rw[if_pos (by omega),show (i:Int).toNat=i by omega,hx]
 exact hk
theorem Wp.app {xs ys:List α} {K:List α→Option ρ} (h:xs.length+ys.length≤LIM) (hk:Wp (K (xs++ys)) Q):Wp (appK2 xs ys K) Q:=Wp.chk h hk
theorem Wp.for_at {body:Nat→α→σ→(σ→Option ρ)→Option ρ} {k:σ→Option ρ} (ys:List α) (I:Nat→σ→Prop)
  (step:∀ i x s next,ys[i]?=some x→x ∈ ys→I i s→(∀ s',I (i+1) s'→Wp (next s') Q)→Wp (body i x s next) Q) (fin:∀ s,I ys.length s→Wp (k s) Q) :
  ∀ (n i:Nat) (s:σ),i+n=ys.length→I i s→Wp (forK body k (ys.drop i) i s) Q
 | 0,i,s,hn,h0=>by
   have hi:i=ys.length:=by omega
   subst hi
   rw[List.drop_length]
   exact fin s h0
 | n+1,i,s,hn,h0=>by
   have hi:i < ys.length:=by omega
   rw[List.drop_eq_getElem_cons hi]
   exact step i _ s _ (List.getElem?_eq_getElem hi) (List.getElem_mem hi) h0 fun s' hs'=>Wp.for_at ys I step fin n (i+1) s' (by omega) hs'
theorem Wp.for {body:Nat→α→σ→(σ→Option ρ)→Option ρ} {k:σ→Option ρ} {xs:List α} {s0:σ} (I:Nat→σ→Prop) (h0:I 0 s0)
  (step:∀ i x s next,xs[i]?=some x→x ∈ xs→I i s→(∀ s',I (i+1) s'→Wp (next s') Q)→Wp (body i x s next) Q) (fin:∀ s,I xs.length s→Wp (k s) Q):Wp (forK body k xs 0 s0) Q:=by
 have:=Wp.for_at xs I step fin xs.length 0 s0 (by omega) h0
 rwa [List.drop_zero] at this
theorem Wp.count_at {body:Nat→σ→(σ→Option ρ)→Option ρ} {k:σ→Option ρ} (N:Nat) (I:Nat→σ→Prop)
  (step:∀ i s next,i < N→I i s→(∀ s',I (i+1) s'→Wp (next s') Q)→Wp (body i s next) Q) (fin:∀ s,I N s→Wp (k s) Q) :
  ∀ (n i:Nat) (s:σ),i+n=N→I i s→Wp (countK body k n i s) Q
 | 0,i,s,hn,h0=>by
   have hi:i=N:=by omega
   subst hi
   exact fin s h0
 | n+1,i,s,hn,h0=>step i s _ (by omega) h0 fun s' hs'=>Wp.count_at N I step fin n (i+1) s' (by omega) hs'
theorem Wp.count {body:Nat→σ→(σ→Option ρ)→Option ρ} {k:σ→Option ρ} {N:Nat} {s0:σ} (I:Nat→σ→Prop) (h0:I 0 s0)
  (step:∀ i s next,i < N→I i s→(∀ s',I (i+1) s'→Wp (next s') Q)→Wp (body i s next) Q) (fin:∀ s,I N s→Wp (k s) Q):Wp (countK body k N 0 s0) Q:=
 Wp.count_at N I step fin N 0 s0 (by omega) h0
theorem Wp.while {body:σ→(σ→Option ρ)→Option ρ} (I:σ→Prop) (μ:σ→Nat)
  (step:∀ s next,I s→(∀ s',I s'→μ s' < μ s→Wp (next s') Q)→Wp (body s next) Q):∀ (n:Nat) (s:σ),I s→μ s < n→Wp (whileK body n s) Q
 | 0,s,_,h=>by omega
 | n+1,s,hs,h=>step s _ hs fun s' hs' hlt=>Wp.while I μ step n s' hs' (by omega)
def FirstAt (xs:List α) (f:α→Option Bool) (k:Int):Prop:=(k=-1∧∀ x ∈ xs,f x=some false)∨∃ (i:Nat) (x:α),k=i∧xs[i]?=some x∧f x=some true
theorem FirstAt.lt {xs:List α} {f:α→Option Bool} {k:Int} (h:FirstAt xs f k):-1≤k∧k < xs.length:=by
 rcases h with ⟨rfl,_⟩ | ⟨i,x,rfl,hx,_⟩
 ·omega
 ·have:=(List.getElem?_eq_some_iff.1 hx).1
  omega
theorem Wp.index {xs:List α} {f:α→Option Bool} (hf:∀ x ∈ xs,Wp (f x) fun _=>True) :
  Wp (forK (fun (i:Nat) (x:α) (s:Unit) next=>bindK (f x) fun v=>bif v then some (i:Int) else next ()) (fun _=>some (-1)) xs 0 ()) (FirstAt xs f):=by
 refine Wp.for (fun i _=>∀ (j:Nat) (x:α),j < i→xs[j]?=some x→f x=some false) (by intro j x h;omega) ?_ ?_
 ·intro i x s next hx hm hI hn
  refine Wp.bind (hf x hm) fun b hb _=>Wp.cond ?_ ?_
  ·rintro rfl
   exact Wp.ret (.inr ⟨i,x,rfl,hx,hb⟩)
  ·rintro rfl
   refine hn () fun j y hj hy=>?_
   rcases Nat.lt_or_ge j i with h1 | h1
   ·exact hI j y h1 hy
   ·obtain rfl:j=i:=by omega
    rw[hx] at hy
    cases hy
    exact hb
 ·intro s hI
  refine Wp.ret (.inl ⟨rfl,fun x hx=>?_⟩)
  obtain⟨j,hj,rfl⟩:=List.getElem_of_mem hx
  exact hI j _ hj (List.getElem?_eq_getElem hj)
end
end Go.Am
end
section
namespace Go.Proofs.YthiojhcimecdgaaGreatDoor
open Go Go.Am
set_option maxRecDepth 100000 in
theorem databaseWorks:m_stemkeep1_databaseWorks=some true:=by decide +kernel
theorem index_tot {α:Type} {f:α→Option Bool}:∀ (xs:List α) (i:Nat),(∀ x ∈ xs,∃ b,f x=some b)→Wp (forK (fun (i:Nat) (x:α) (s:Unit) next=>bindK (f x) fun v=>bif v then some (i:Int) else next ()) (fun _=>some (-1)) xs i ()) fun _=>True
 | [],i,_=>Wp.ret trivial
 | x::xs,i,h=>by
   obtain⟨b,hb⟩:=h x (by simp)
   have ih:=index_tot xs (i+1) fun y hy=>h y (by simp[hy])
   show Wp (bindK (f x) _) _
   rw[hb]
   cases b
   ·exact ih
   ·exact Wp.ret trivial
theorem w_boundedD (g:Gr) (db:Db) (changes:List Chg) (hl:db.comps.flatten.length+db.insts.length≤2097152):Wp (m_stemkeep1_bounded g db changes) fun _=>True:=by
 unfold m_stemkeep1_bounded m_slices_Concat_Instance
 refine Wp.cond (fun _=>Wp.ret trivial) fun _=>Wp.cond (fun _=>Wp.ret trivial) fun _=>Wp.cond (fun _=>Wp.ret trivial) fun _=>Wp.cond (fun _=>Wp.ret trivial) fun _=>?_
 refine Wp.bind (R:=fun v=>v=db.comps.flatten) (Wp.chk (by omega) (Wp.ret rfl)) fun v _ hv=>?_
 subst hv
 refine Wp.bind (R:=fun _=>True) (Wp.chk (by simp only[List.flatten_cons,List.flatten_nil,List.append_nil,List.length_append];exact hl) (Wp.ret trivial)) fun v _ hv=>?_
 refine Wp.for (fun _ _=>True) trivial ?_ fun _ _=>Wp.ret trivial
 intro i x s next _ _ _ hn
 refine Wp.cond (fun _=>Wp.ret trivial) fun _=>Wp.bind (R:=fun _=>True) ?_ fun _ _ _=>Wp.cond (fun _=>Wp.ret trivial) fun _=>hn () trivial
 unfold m_slices_ContainsFunc_Relation m_slices_IndexFunc_Relation
 exact Wp.bind (index_tot x 0 fun r _=>⟨_,rfl⟩) fun _ _ _=>Wp.ret trivial
theorem ba_refl (b:ByteArray):(b == b)=true:=by
 cases b with
 | mk d=>
   first
    | exact beq_self_eq_true _
    | (show (d == d)=true;exact beq_self_eq_true d)
theorem w_EqualRow (a:List GV):Wp (m_stemref1_EqualRow a a) fun b=>b=true:=by
 unfold m_stemref1_EqualRow
 refine Wp.cond (fun h=>by simp at h) fun _=>Wp.for (fun _ _=>True) trivial ?_ fun _ _=>Wp.ret rfl
 intro i x s next hx _ _ hn
 exact Wp.getN hx (Wp.cond (fun h=>by simp[ba_refl] at h) fun _=>hn () trivial)
theorem w_EqualRows (a:List (List GV)):Wp (m_stemref1_EqualRows a a) fun b=>b=true:=by
 unfold m_stemref1_EqualRows
 refine Wp.cond (fun h=>by simp at h) fun _=>Wp.for (fun _ _=>True) trivial ?_ fun _ _=>Wp.ret rfl
 intro i x s next hx _ _ hn
 refine Wp.getN hx (Wp.bind (w_EqualRow x) fun b _ hb=>Wp.cond (fun h=>by simp[hb] at h) fun _=>hn () trivial)
theorem str_refl (b:ByteArray):strEq b b=true:=by
 unfold strEq
 first | exact ba_refl b | simp[ba_refl]
theorem w_EqualInstance (a:List Rel):Wp (m_stemref1_EqualInstance a a) fun b=>b=true:=by
 unfold m_stemref1_EqualInstance
 refine Wp.cond (fun h=>by simp at h) fun _=>Wp.for (fun _ _=>True) trivial ?_ fun _ _=>Wp.ret rfl
 intro i x s next hx _ _ hn
 refine Wp.getN hx (Wp.cond (fun h=>by simp[str_refl] at h) fun _=>Wp.bind (w_EqualRows x.rows) fun b _ hb=>Wp.cond (fun h=>by simp[hb] at h) fun _=>hn () trivial)
theorem w_EqualInstances (a:List (List Rel)):Wp (m_stemref1_EqualInstances a a) fun b=>b=true:=by
 unfold m_stemref1_EqualInstances
 refine Wp.cond (fun h=>by simp at h) fun _=>Wp.for (fun _ _=>True) trivial ?_ fun _ _=>Wp.ret rfl
 intro i x s next hx _ _ hn
 refine Wp.getN hx (Wp.bind (w_EqualInstance x) fun b _ hb=>Wp.cond (fun h=>by simp[hb] at h) fun _=>hn () trivial)
theorem w_EqualDatabase (a:Db):Wp (m_stemref1_EqualDatabase a a) fun b=>b=true:=by
 unfold m_stemref1_EqualDatabase
 refine Wp.bind (w_EqualInstances a.insts) fun b _ hb=>Wp.cond (fun h=>by simp[hb] at h) fun _=>Wp.cond (fun h=>by simp at h) fun _=>Wp.for (fun _ _=>True) trivial ?_ fun _ _=>Wp.ret rfl
 intro i x s next hx _ _ hn
 refine Wp.getN hx (Wp.bind (w_EqualInstances x) fun b _ hb=>Wp.cond (fun h=>by simp[hb] at h) fun _=>hn () trivial)
theorem w_SEqual_Value (a:List GV):Wp (m_slices_Equal_Value a a) fun b=>b=true:=by
 unfold m_slices_Equal_Value
 refine Wp.cond (fun h=>by simp at h) fun _=>Wp.for (fun _ _=>True) trivial ?_ fun _ _=>Wp.ret rfl
 intro i x s next hx _ _ hn
 exact Wp.getN hx (Wp.cond (fun h=>by simp[ba_refl] at h) fun _=>hn () trivial)
theorem w_EF_Row (a:List (List GV)) (eq:List GV→List GV→Option Bool) (he:∀ x ∈ a,Wp (eq x x) fun b=>b=true):Wp (m_slices_EqualFunc_Row a a eq) fun b=>b=true:=by
 unfold m_slices_EqualFunc_Row
 refine Wp.cond (fun h=>by simp at h) fun _=>Wp.for (fun _ _=>True) trivial ?_ fun _ _=>Wp.ret rfl
 intro i x s next hx _ _ hn
 exact Wp.getN hx (Wp.bind (he x (List.mem_of_getElem? hx)) fun b _ hb=>Wp.cond (fun h=>by simp[hb] at h) fun _=>hn () trivial)
theorem w_EF_Relation (a:List Rel) (eq:Rel→Rel→Option Bool) (he:∀ x ∈ a,Wp (eq x x) fun b=>b=true):Wp (m_slices_EqualFunc_Relation a a eq) fun b=>b=true:=by
 unfold m_slices_EqualFunc_Relation
 refine Wp.cond (fun h=>by simp at h) fun _=>Wp.for (fun _ _=>True) trivial ?_ fun _ _=>Wp.ret rfl
 intro i x s next hx _ _ hn
 exact Wp.getN hx (Wp.bind (he x (List.mem_of_getElem? hx)) fun b _ hb=>Wp.cond (fun h=>by simp[hb] at h) fun _=>hn () trivial)
theorem w_EF_Instance (a:List (List Rel)) (eq:List Rel→List Rel→Option Bool) (he:∀ x ∈ a,Wp (eq x x) fun b=>b=true):Wp (m_slices_EqualFunc_Instance a a eq) fun b=>b=true:=by
 unfold m_slices_EqualFunc_Instance
 refine Wp.cond (fun h=>by simp at h) fun _=>Wp.for (fun _ _=>True) trivial ?_ fun _ _=>Wp.ret rfl
 intro i x s next hx _ _ hn
 exact Wp.getN hx (Wp.bind (he x (List.mem_of_getElem? hx)) fun b _ hb=>Wp.cond (fun h=>by simp[hb] at h) fun _=>hn () trivial)
theorem w_EF_InstanceL (a:List (List (List Rel))) (eq:List (List Rel)→List (List Rel)→Option Bool) (he:∀ x ∈ a,Wp (eq x x) fun b=>b=true):Wp (m_slices_EqualFunc_InstanceL a a eq) fun b=>b=true:=by
 unfold m_slices_EqualFunc_InstanceL
 refine Wp.cond (fun h=>by simp at h) fun _=>Wp.for (fun _ _=>True) trivial ?_ fun _ _=>Wp.ret rfl
 intro i x s next hx _ _ hn
 exact Wp.getN hx (Wp.bind (he x (List.mem_of_getElem? hx)) fun b _ hb=>Wp.cond (fun h=>by simp[hb] at h) fun _=>hn () trivial)
theorem w_rel_Equal (a:List (List GV)):Wp (m_relation_Equal a a) fun b=>b=true:=
 Wp.bind (w_EF_Row a _ fun x _=>Wp.bind (w_SEqual_Value x) fun b _ hb=>Wp.ret hb) fun b _ hb=>Wp.ret hb
theorem w_inst_Equal (a:List Rel):Wp (m_instance_Equal a a) fun b=>b=true:=
 Wp.bind (w_EF_Relation a _ fun x _=>by
  unfold m_instance_Equal_1
  rw[str_refl]
  exact Wp.bind (w_rel_Equal x.rows) fun b _ hb=>Wp.ret hb) fun b _ hb=>Wp.ret hb
theorem w_equalAll (a:List (List Rel)):Wp (m_database_equalAll a a) fun b=>b=true:=
 Wp.bind (w_EF_Instance a _ fun x _=>w_inst_Equal x) fun b _ hb=>Wp.ret hb
theorem w_db_Equal (a:Db):Wp (m_database_Equal a a) fun b=>b=true:=by
 unfold m_database_Equal
 refine Wp.bind (w_equalAll a.insts) fun b _ hb=>?_
 subst hb
 exact Wp.bind (w_EF_InstanceL a.comps _ fun x _=>w_equalAll x) fun b _ hb=>Wp.ret hb
def DbB (db:Db):Prop:=DbL db∧db.insts.length≤2097152∧db.comps.length≤2097152∧∀ x ∈ db.comps,x.length≤2097152
theorem db_clone_ok {db:Db} (h:DbB db):m_database_Clone db=some db:=by
 have ok:∀ {x:List Rel},InstL x→InstOK x:=fun h=>⟨h.1,fun r hr=>(h.2 r hr).1⟩
 have h1:m_database_cloneAll db.insts=some db.insts:=inst_all_ok h.2.1 fun x hx=>ok (h.1.1 x hx)
 have h2:m_database_mapSlice_InstanceL db.comps (fun xa_=>m_database_cloneAll xa_)=some db.comps:=
  fork_copy (f:=fun x=>m_database_cloneAll x) (g:=fun _ v=>v) db.comps 0 [] (by simpa using h.2.2.1) fun x hm=>⟨x,inst_all_ok (h.2.2.2 x hm) fun y hy=>ok (h.1.2.1 x hm y hy),rfl⟩
 unfold m_database_Clone
 rw[h1]
 show bindK (m_database_mapSlice_InstanceL db.comps _) _=_
 rw[h2]
 rfl
theorem law17 (db:Db) (h:DbB db):Is (m_stemkeep1_DatabaseCloneIsIndependent db) true:=by
 have:Wp (m_stemkeep1_DatabaseCloneIsIndependent db) fun b=>b=true:=by
  unfold m_stemkeep1_DatabaseCloneIsIndependent
  refine Wp.bind (R:=fun w=>w=true) ⟨true,databaseWorks,rfl⟩ fun w _ hw=>?_
  subst hw
  refine Wp.cond (fun h=>by cases h) fun _=>Wp.bind (w_boundedD _ db [] h.1.2.2) fun b _ _=>Wp.cond (fun _=>Wp.ret rfl) fun _=>Wp.chk h.1 ?_
  refine Wp.bind (R:=fun d=>d=db) ⟨db,db_clone_ok h,rfl⟩ fun d _ hd=>?_
  subst hd
  refine Wp.bind (w_EqualDatabase d) fun a _ ha=>?_
  subst ha
  exact w_db_Equal d
 obtain⟨r,h1,rfl⟩:=this
 exact h1
end Go.Proofs.YthiojhcimecdgaaGreatDoor
end
section
namespace Go.Proofs.YthiojhcimecdgaaGreatDoor.databaseCloneIsIndependent
open Go Go.Am Go.ChangeShapes Go.WideShapes Go.ChangeAt Go.RowKit
theorem own:ownKnob Tryz.prog.godebug=none:=by kernel_rfl
theorem laid:laidOutB Tryz.prog=true:=by kernel_rfl
def plain:List TypeId:=[25,22,39,42,9,40,44,46,3,23]
theorem plain_ok:plainB Tryz.prog plain=true:=by kernel_rfl
theorem flat_blk:∀ (l:List (List (List Rel))),l.flatten.length≤blkLL (l.map (encL (encL Rel.enc)))
 | []=>by simp
 | y::l=>by
   have h1:=flat_blk l
   have h2:=blkLL_len (y.map (encL Rel.enc))
   simp only[List.map_cons,blkLL,encL,blkL,blkD,List.flatten_cons,List.length_append,List.length_map] at h2 ⊢
   omega
theorem dbB {db:Db} (y:bd25 1048576 db) (k:blkL db.enc+1≤1048576):DbB db:=by
 obtain⟨⟨h1,h2⟩,h3,h4⟩:=y
 have iL:∀ x:List Rel,bd39 1048576 x→InstL x:=fun x hx=>⟨Nat.le_trans hx.1 (by decide),fun r hr=>⟨Nat.le_trans (hx.2 r hr).2.1 (by decide),fun row hrow=>Nat.le_trans ((hx.2 r hr).2.2 row hrow).1 (by decide)⟩⟩
 have e1:=flat_blk db.comps
 have e2:=blkLL_len (db.insts.map (encL Rel.enc))
 have e3:blkL db.enc=blkLL (db.insts.map (encL Rel.enc))+(blkLL (db.comps.map (encL (encL Rel.enc)))+0):=rfl
 rw[List.length_map] at e2
 exact⟨⟨fun x hx=>iL x (h2 x hx),fun y hy x hx=>iL x ((h4 y hy).2 x hx),by omega⟩,Nat.le_trans h1 (by decide),Nat.le_trans h3 (by decide),fun x hx=>Nat.le_trans (h4 x hx).1 (by decide)⟩
set_option maxRecDepth 100000 in
theorem contract (H:Type) (enc:TypeId × Value→H) (W:World) (base:Nat) (args:Array Value) (ds gs:List (DataW H)) (before:List MemPlace)
  (hval:∀ (j:Nat) t v,Tryz.f3.params[j]?=some t→args[j]?=some v→Value.okWide Tryz.prog W .any base t v)
  (hW:DataW.Whole enc Tryz.prog Tryz.f3.params.toList Rows.databaseCloneIsIndependentSpec.vars false W args.toList ds gs before) (hk:Rows.uptoSmall H (ds++gs)=true) (hL:laidMetH Tryz.prog Rows.databaseCloneIsIndependentUptoRow.laid W) (hsh:W.ShapedOpen Tryz.prog) :
  Calls Tryz.prog 3 args W fun e W'=>∃ v,e=.returned v∧Rows.databaseCloneIsIndependentSpec.post enc Tryz.prog Tryz.f3 false true false false W args v W':=by
 have hW':=hW
 have hlt:=hW.lt
 obtain⟨p,q,hA0,hV,rfl,hfz,hnd⟩:=hW
 have hA:DataW.TrodAll enc Tryz.prog W 0 (fun _=>true) true Tryz.f3.params.toList args.toList ds p:=hA0
 rw[Tryz.params3] at hA hval
 obtain⟨v0,vs0,d0,ds0,p0,q0,hargs,rfl,rfl,h0,r0⟩:=trodAll_cons hA
 obtain⟨rfl,rfl,rfl⟩:=trodAll_nil r0
 obtain rfl:args=#[v0]:=by cases args;simp_all
 obtain⟨rfl,rfl⟩:=trodVars_none hV
 have hb:=of_decide_eq_true hk
 simp only[List.append_nil,Rows.uptoBulkAll] at hb
 obtain⟨cs0,rfl,_⟩:=okWide_struct Tryz.underlying25 (hval 0 25 v0 rfl rfl)
 have h0k:=h0
 obtain⟨n0,hn0⟩:=h0
 obtain⟨e0,hr0,ht0,hk0⟩:=rep_readK (B:=1048576) plain_ok (by decide) n0 25 _ _ (by decide) hn0 (by simp only;omega)
 have k0:blkL e0+1≤1048576:=by
  simp only at hk0
  omega
 obtain⟨x0,rfl,y0⟩:=dec25 ht0
 have hS:=c_stemkeep1_DatabaseCloneIsIndependent x0 true (law17 x0 (dbB y0 k0))
 refine (hS.2 W (cellsOf W) (fun _ _=>none) #[.agg cs0] (gok_of rfl hL hsh) (fun _ _ _ h=>h) (fun _ _ _ h=>by cases h) ?_).mono fun e W' hpost=>?_
 ·refine⟨rfl,fun i a hi=>?_⟩
  match i with
  | 0=>
    cases hi
    refine⟨.agg cs0,rfl,cs0,rfl,by simpa[Value.cells] using hr0.1,fun j x hj=>?_⟩
    obtain⟨u,hu1,hu2⟩:=hr0.2 j x hj
    exact⟨u,by simpa[Value.cells] using hu1,hu2⟩
  | i+1=>simp at hi
 obtain⟨v,m',blk,rfl,_,_,_,hbel,hrv,_⟩:=hpost
 have hv:v=.bool true:=by cases hrv;rfl
 subst hv
 refine⟨_,rfl,[d0],[],p0++[]++[],[],p0++[],[],hW',trodAll_mk1 (shut_bool Tryz.underlying4 true),?_,rfl,hbel.frame _,fun h=>by cases h⟩
 have hl0:∀ x ∈ p0,x.block < W.heap.size:=fun x hx=>hlt x (by simp[hx])
 exact trodAll_cons_mk (Below.trod laid (by kernel_rfl) (of_decide_eq_true (by kernel_rfl)) h0k hbel hl0) trodAll_mk0
theorem laid_met (os:Os):laidMet Tryz.prog Rows.databaseCloneIsIndependentUptoRow.laid ((World.laidAll Tryz.prog os Rows.databaseCloneIsIndependentUptoRow.laid).forCall (fun _ _=>0) ⟨#[],#[.agg #[.slice none 0 0,.slice none 0 0]],[]⟩).memory:=laidMet_laidAll _ (by kernel_rfl) (by kernel_rfl)
theorem reads (os:Os) {H:Type} (enc:TypeId × Value→H):∃ places,DataW.whole enc Tryz.prog ((World.laidAll Tryz.prog os Rows.databaseCloneIsIndependentUptoRow.laid).forCall (fun _ _=>0) ⟨#[],#[.agg #[.slice none 0 0,.slice none 0 0]],[]⟩).memory Tryz.f3.params.toList Rows.databaseCloneIsIndependentSpec.vars false (#[.agg #[.slice none 0 0,.slice none 0 0]]:Array Value).toList 8=some ([.agg [.nil,.nil]],[],places):=⟨[],by kernel_rfl⟩
set_option maxRecDepth 100000 in
theorem lifted (os:Os) (started:os.Started) (H:Type) (enc:TypeId × Value→H) (F:Stop.Interp) :
  ReturnsInHanded {} Tryz.checked os 3 .any ((Rows.OpenSpec.upto Rows.databaseCloneIsIndependentSpec).preRow enc Tryz.prog Tryz.f3 Rows.databaseCloneIsIndependentUptoRow.domain false Rows.databaseCloneIsIndependentUptoRow.laid) (((Rows.OpenSpec.upto Rows.databaseCloneIsIndependentSpec).at F).post enc Tryz.prog Tryz.f3 false true false false):=by
 obtain⟨places,hx⟩:=reads os enc
 refine returnsInHanded_of_row (C:=Tryz.checked) (s:=Rows.OpenSpec.upto Rows.databaseCloneIsIndependentSpec) own started (by kernel_rfl) Tryz.func3
  (witness_row_atRef (enc:=enc) (C:=Tryz.checked) false (World.laidAll Tryz.prog os Rows.databaseCloneIsIndependentUptoRow.laid) #[.agg #[.slice none 0 0,.slice none 0 0]] (World.laidAll_os _ _ _) (by kernel_rfl) (by kernel_rfl) (by kernel_rfl)
   (OpenSpec.preRow_of_cond 8 hx (by kernel_rfl) (fun k hk=>by cases hk;kernel_rfl) (by kernel_rfl) (laid_met os))) ?_
 intro W base args ds gs before hval hW _ hcond _ hL hsh _
 exact contract H enc W base args ds gs before hval hW (hcond _ rfl) hL hsh
theorem fact1:(Rows.databaseCloneIsIndependentUptoRow.inPlace == Tryz.prog.inPlace 3)=true:=by kernel_rfl
theorem fact2:(Rows.databaseCloneIsIndependentUptoRow.unfollowed == Tryz.prog.unfollowed 3)=true:=by kernel_rfl
theorem fact3:(Rows.databaseCloneIsIndependentUptoRow.recurses == Tryz.prog.recurses 3)=true:=by kernel_rfl
theorem fact4:(Rows.databaseCloneIsIndependentUptoRow.named == Tryz.prog.varsNamed 3)=true:=by kernel_rfl
theorem fact5:(Rows.databaseCloneIsIndependentUptoRow.plainKeys == Tryz.prog.plainKeys)=true:=by kernel_rfl
theorem fact6:Tryz.prog.stopsHeard=true:=by kernel_rfl
theorem fact7:Tryz.prog.mayEnter=true:=by kernel_rfl
theorem fact8:(Rows.databaseCloneIsIndependentUptoRow.lifted == Tryz.prog.liftsFinal)=true:=by kernel_rfl
theorem fact9:(Tryz.prog.make == some Rows.databaseCloneIsIndependentUptoRow.make)=true:=by kernel_rfl
theorem fact10:mapsRowed Tryz.prog=true:=by kernel_rfl
theorem fact11:Rows.databaseCloneIsIndependentUptoRow.wf (OpenSpec.ofChange (Rows.OpenSpec.upto Rows.databaseCloneIsIndependentSpec).bare)=true:=by kernel_rfl
theorem fact12:laidOutB Tryz.prog=true:=by kernel_rfl
theorem fact13:namedTie Tryz.prog Rows.databaseCloneIsIndependentUptoRow.named (Rows.OpenSpec.upto Rows.databaseCloneIsIndependentSpec).bare.vars=true:=by kernel_rfl
theorem fact14:Tryz.pinned.checked.prog.funcNamed Rows.databaseCloneIsIndependentUptoRow.func=some 3:=by kernel_rfl
set_option maxRecDepth 100000 in
theorem closed:joinedFacts Tryz.prog 3 Tryz.f3 (Rows.OpenSpec.upto Rows.databaseCloneIsIndependentSpec).bare Rows.databaseCloneIsIndependentUptoRow=true:=by
 unfold joinedFacts
 rw[fact1,fact2,fact3,fact4,fact5,fact6,fact7,fact8,fact9,fact10,fact11,fact12,fact13]
 kernel_rfl
theorem over:Rows.DatabaseCloneIsIndependentUptoSaid:=
 OpenClaim.holds_of_cond 3 Tryz.f3 rfl rfl rfl rfl rfl rfl rfl ⟨rfl,rfl,rfl,rfl,rfl⟩ rfl rfl rfl rfl rfl fact14 Tryz.func3 closed
  (of_decide_eq_true (by kernel_rfl)) (by unfold Func.isWrapper;first | (rw[if_pos (by decide +kernel)];kernel_rfl) | (rw[if_neg (by decide +kernel)];exact⟨rfl,rfl⟩))
  (fun os started H enc _ F=>by rw[OpenClaim.pre_eq_preRow];exact lifted os started H enc F)
theorem looked (f:FuncId) (fn:Func) (hf:Tryz.pinned.checked.prog.funcNamed Rows.databaseCloneIsIndependentUptoRow.func=some f) (hfn:Tryz.pinned.checked.prog.funcs[f]?=some fn) :
  true=Tryz.pinned.checked.prog.looks []∧∀ (j:Nat) t,fn.params[j]?=some t→Tryz.pinned.checked.prog.wantsStandIn t=false:=by
 obtain rfl:f=3:=Option.some.inj ((show Tryz.prog.funcNamed Rows.databaseCloneIsIndependentUptoRow.func=some 3 by kernel_rfl).symm.trans hf) |>.symm
 obtain rfl:fn=Tryz.f3:=(Option.some.inj (Tryz.func3.symm.trans hfn)).symm
 refine⟨by kernel_rfl,fun j t ht=>?_⟩
 rw[Tryz.params3] at ht
 have hm:t ∈ [25]:=by simpa using Array.mem_of_getElem? ht
 have hall:([25].all fun u=>!Tryz.prog.wantsStandIn u)=true:=by kernel_rfl
 exact (show Tryz.prog.wantsStandIn t=false by simpa using List.all_eq_true.1 hall t hm)
theorem proved:Rows.DatabaseCloneIsIndependentUptoCardSaid:=
 Claim7.holds_tied_plain_at .later [] _ _ _ _ over (fun _ h=>by cases h) (by kernel_rfl) (fun _ h=>by cases h) databaseCloneIsIndependentUpto_row_tie rfl ⟨rfl,rfl⟩ (by kernel_rfl) rfl looked (by kernel_rfl)
end Go.Proofs.YthiojhcimecdgaaGreatDoor.databaseCloneIsIndependent
end
