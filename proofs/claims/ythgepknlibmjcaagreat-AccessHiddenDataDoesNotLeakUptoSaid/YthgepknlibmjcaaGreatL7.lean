/-
  Part 7 of the proof: joined by a program out of 19 texts.
-/
import Derived.Test.YthgepknlibmjcaaGreatL6
import Derived.Test.YthgepknlibmjcaaGreatRows
import Derived.WalkKit
import Derived.ProofKit
import Derived.OpenShut
import Derived.JoinedCond
import Derived.Carry
set_option linter.unusedVariables false
set_option linter.unusedSimpArgs false
set_option maxRecDepth 20000
section
namespace Go.Proofs.YthgepknlibmjcaaGreat
open Go.Am
def m_view_Project (g_:Gr) (rules:List Rule) (user:ByteArray) (v_:Int) (inst:List Rel):Option (Sch × (List Rel) × Int):=
 (bindK (m_access_Validate g_ rules) fun v3=>(bif (v3 != 0) then (some ((Sch.mk [] [] []),[],v3)) else (bindK (m_versions_Schema g_ v_) fun v5=>(bif (v5.2 != 0) then (some ((Sch.mk [] [] []),[],v5.2)) else (forK (fun (i10:Nat) (x10:Tbl) (s10:(List Rel) × (List Tbl)) next_10=>(bindK (m_access_Visible g_ rules user v_ inst x10.name) fun v12=>(bif (v12.2.2 == 17) then (next_10 (s10.1,s10.2)) else (bif (v12.2.2 != 0) then (some ((Sch.mk [] [] []),[],v12.2.2)) else (bindK (m_view_restrict x10 v12.2.1) fun v15=>(appK2 s10.2 [v15] fun _=>(appK2 s10.1 [(Rel.mk x10.name v12.1)] fun _=>(next_10 ((s10.1++[(Rel.mk x10.name v12.1)]),(s10.2++[v15])))))))))) (fun (s10:(List Rel) × (List Tbl))=>(some ((Sch.mk s10.2 [] []),s10.1,0))) v5.1.tables 0 ([],[]))))))
theorem c_view_Project (g_:Gr) (rules:List Rule) (user:ByteArray) (v_:Int) (inst:List Rel) (r:Sch × (List Rel) × Int) (hm:Is (m_view_Project g_ rules user v_ inst) r):PSpec Tryz.prog 22 [.agg g_.enc,.one (.d (.sl (rules.map Rule.enc))),.one (.d (.str user)),.one (.d (.int .i64 v_)),.one (.d (.sl (inst.map Rel.enc)))] (.tup [.agg (r.1.enc.map RC.d),.one (.d (.sl (r.2.1.map Rel.enc))),.one (.d (.int .i64 r.2.2))]):=by
 unfold m_view_Project at hm
 refine PSpec.of_vc Tryz.func22 rfl (by kernel_rfl) (n:=85) rfl rfl (by simp) ?_
 try simp[*]
 refine r_call (av:=[.agg g_.enc,.one (.d (.sl (rules.map Rule.enc)))]) hm (fun v hv=>c_access_Validate _ _ v hv) (by simp[*]) ?_
 clear hm;intro v3 hvv3 hm
 try simp[*]
 refine r_cond hm ?_ ?_<;>clear hm<;>intro hc4 hm
 ·try simp[*]
  obtain rfl:=r_ret hm
  exact ret0 (vs:=[_,_,_]) (by simp[*];try exact⟨rfl,rfl,rfl⟩) (by simp[*])
 ·try simp[*]
  refine r_call (av:=[.agg g_.enc,.one (.d (.int .i64 v_))]) hm (fun v hv=>c_versions_Schema _ _ v hv) (by simp[*]) ?_
  clear hm;intro v5 hvv5 hm
  try simp[*]
  refine r_cond hm ?_ ?_<;>clear hm<;>intro hc7 hm
  ·try simp[*]
   obtain rfl:=r_ret hm
   exact ret0 (vs:=[_,_,_]) (by simp[*];try exact⟨rfl,rfl,rfl⟩) (by simp[*])
  ·try simp[*]
   intro hl9
   replace hl9:v5.1.tables.length≤2097152:=by simpa using hl9
   refine Wait.for (xs:=v5.1.tables) (s0:=([],[])) (fun i10 s10 e10 h10=>∃ c10_0 c10_1:C,(e10.n=85∧e10.get 1=.one (.d (.sl (rules.map Rule.enc)))∧e10.get 2=.one (.d (.str user))∧e10.get 3=.one (.d (.int .i64 v_))∧e10.get 4=.one (.d (.sl (inst.map Rel.enc)))∧e10.get 5=.one (.ptr (0,80) 0)∧e10.get 10=.one (.ptr (1,160) 0)∧e10.get 16=.one (.ptr (5,256) 0)∧e10.get 17=.one c10_0∧e10.get 41=.one (.d (.sl (v5.1.tables.map Tbl.enc)))∧e10.get 42=.one (.d (.int .i64 (v5.1.tables.length:Int)))∧e10.get 43=.one (.d (.int .i64 (i10:Int)))∧h10.box (0,80)=some [.d (.sl (g_.base.tables.map Tbl.enc)),.d (.sl (g_.base.fks.map Fk.enc)),.d (.sl (g_.base.cons.map Cons.enc)),.d (.sl (g_.edges.map Edg.enc))]∧h10.box (1,160)=some [.nil,.nil,.nil]∧h10.box (5,256)=some [c10_1,.nil,.nil]∧Grows h10 2 c10_0 (s10.1.map Rel.enc)∧Grows h10 3 c10_1 (s10.2.map Tbl.enc))∧Apart c10_0 c10_1) hm ⟨.nil,.nil,by simp (maxDischargeDepth:=20) [*],(by simp)⟩ ?_ ?_
   ·rintro i10 s10 e10 h10 ⟨c10_0,c10_1,⟨hn10,h10_1,h10_2,h10_3,h10_4,h10_5,h10_10,h10_16,h10_17,h10_41,h10_42,h10_43,hb10_b1,hb10_b2,hb10_b8,gc10_0,gc10_1⟩,apc10_0_c10_1⟩ hlt10 hm
    have hlc10_0:=gc10_0.list
    have hdc10_0:=gc10_0.toD
    have hac10_0:=gc10_0.toA
    have huc10_0:=gc10_0.useUp_arr
    have hlc10_1:=gc10_1.list
    have hdc10_1:=gc10_1.toD
    have hac10_1:=gc10_1.toA
    have huc10_1:=gc10_1.useUp_arr
    have hw10:IntKind.i64.wrap ((i10:Int)+1)=(i10:Int)+1:=IntWalk.i64_in _ (by omega)
    try simp[*]
    refine r_call (av:=[.agg g_.enc,.one (.d (.sl (rules.map Rule.enc))),.one (.d (.str user)),.one (.d (.int .i64 v_)),.one (.d (.sl (inst.map Rel.enc))),.one (.d (.str (v5.1.tables[i10].name)))]) hm (fun v hv=>c_access_Visible _ _ _ _ _ _ v hv) (by simp[*]) ?_
    clear hm;intro v12 hvv12 hm
    try simp[*]
    refine r_cond hm ?_ ?_<;>clear hm<;>intro hc13 hm
    ·try simp[*]
     exact BackF.of (s10.1,s10.2) ⟨⟨c10_0,c10_1,by simp (maxDischargeDepth:=20) [*],(by first | assumption | exact Apart.symm (by assumption))⟩,hm⟩
    ·try simp[*]
     refine r_cond hm ?_ ?_<;>clear hm<;>intro hc14 hm
     ·try simp[*]
      obtain rfl:=r_ret hm
      exact ret0 (vs:=[_,_,_]) (by simp[*];try exact⟨rfl,rfl,rfl⟩) (by simp[*])
     ·try simp[*]
      refine Wait.of (SWP.draw (Plan.then_ [0,1,2,3,4,5,6,7,8] .done) follows (by kernel_rfl) ?_)
      try simp[*,Plan.then_,vcPlan,planOps,isCallAt,callKind]
      refine r_call (av:=[.agg (v5.1.tables[i10]).enc,.one (.d (.sl (v12.2.1.map encI)))]) hm (fun v hv=>c_view_restrict _ _ v hv) (by simp[*]) ?_
      clear hm;intro v15 hvv15 hm
      try simp[*,Plan.then_,vcPlan,planOps,isCallAt,callKind]
      try refine⟨fun (_:Lab) (_:List C) hl=>hl,?_⟩
      refine r_app (xs:=s10.2) (ys:=[v15]) (enc:=Tbl.enc) hm ty_el22 (by first | exact Grows.nil | (simp (maxDischargeDepth:=20) [*];done) | (simp (maxDischargeDepth:=20) [*];refine⟨?_,by omega⟩;intro hq;subst hq;simp at hz2<;>omega)) (by simp[*]) (by decide) (by decide) (fun _=>rfl) ?_
      clear hm;intro hl17 hm g16
      try simp[*,Plan.then_,vcPlan,planOps,isCallAt,callKind]
      refine r_app (xs:=s10.1) (ys:=[(Rel.mk v5.1.tables[i10].name v12.1)]) (enc:=Rel.enc) hm ty_el45 (by first | exact Grows.nil | (simp (maxDischargeDepth:=20) [*];done) | (simp (maxDischargeDepth:=20) [*];refine⟨?_,by omega⟩;intro hq;subst hq;simp at hz2<;>omega)) (by simp[*]) (by decide) (by decide) (fun _=>rfl) ?_
      clear hm;intro hl19 hm g18
      try simp[*]
      exact BackF.of ((s10.1++[(Rel.mk v5.1.tables[i10].name v12.1)]),(s10.2++[v15])) ⟨⟨.own (h10.ep+6,1296) ((s10.1++[(Rel.mk v5.1.tables[i10].name v12.1)]).map Rel.enc),.own (h10.ep+4,1168) ((s10.2++[v15]).map Tbl.enc),by simp (maxDischargeDepth:=20) [*],(by simp)⟩,hm⟩
   ·rintro s10 e10 h10 ⟨c10_0,c10_1,⟨hn10,h10_1,h10_2,h10_3,h10_4,h10_5,h10_10,h10_16,h10_17,h10_41,h10_42,h10_43,hb10_b1,hb10_b2,hb10_b8,gc10_0,gc10_1⟩,apc10_0_c10_1⟩ hm
    have hlc10_0:=gc10_0.list
    have hdc10_0:=gc10_0.toD
    have hac10_0:=gc10_0.toA
    have huc10_0:=gc10_0.useUp_arr
    have hlc10_1:=gc10_1.list
    have hdc10_1:=gc10_1.toD
    have hac10_1:=gc10_1.toA
    have huc10_1:=gc10_1.useUp_arr
    try simp[*]
    obtain rfl:=r_ret hm
    exact ret0 (vs:=[_,_,_]) (by simp[*];try exact⟨rfl,rfl,rfl⟩) (by simp[*])
end Go.Proofs.YthgepknlibmjcaaGreat
end
section
namespace Go.Proofs.YthgepknlibmjcaaGreat
open Go Go.Am
def colZ:Col:=⟨ByteArray.empty,0,false⟩
def colF (T:Tbl) (c:Int):Col:=(T.cols[c.toNat]?).getD colZ
def pkI (T:Tbl) (cols:List Int) (n:Nat):List Int:=((List.range n).filter fun i=>decide ((cols[i]?).getD (-1) ∈ T.pk)).map fun (i:Nat)=>(i:Int)
def restrF (T:Tbl) (cols:List Int):Tbl:=⟨T.name,cols.map (colF T),pkI T cols cols.length⟩
theorem pkI_succ {T:Tbl} {cols:List Int} {i:Nat} {x:Int} (h:cols[i]?=some x):pkI T cols (i+1)=if x ∈ T.pk then pkI T cols i++[(i:Int)] else pkI T cols i:=by
 unfold pkI
 rw[List.range_succ,List.filter_append,List.map_append]
 by_cases hx:x ∈ T.pk<;>simp[h,hx]
theorem pkI_len (T:Tbl) (cols:List Int) (n:Nat):(pkI T cols n).length≤n:=by
 unfold pkI
 rw[List.length_map]
 exact Nat.le_trans (List.length_filter_le _ _) (by simp)
theorem w_restrict (T:Tbl) (cols:List Int) (hl:cols.length≤1048576) (hc:∀ c ∈ cols,0≤c∧c < T.cols.length):Wp (m_view_restrict T cols) fun t=>t=restrF T cols:=by
 have hL:=LIM_eq
 unfold m_view_restrict
 refine Wp.for (fun i (s:List Col × List Int)=>s=((cols.take i).map (colF T),pkI T cols i)) (by simp[pkI]) ?_ (fun s hs=>Wp.ret (by rw[hs,List.take_length];rfl))
 intro i x s next hx hm hI hn
 have hi:=(List.getElem?_eq_some_iff.1 hx).1
 have h1:=hc x hm
 have hp:=pkI_len T cols i
 refine Wp.get h1.1 h1.2 fun y hy _=>?_
 subst hI
 have hy':colF T x=y:=by simp[colF,hy]
 refine Wp.app (by simp;omega) (Wp.bind (w_Contains_Int _ _) fun b _ hb=>Wp.cond (fun h=>Wp.app (by simp;omega) (hn _ ?_)) fun h=>hn _ ?_)
 ·have hxp:x ∈ T.pk:=hb.1 h
  rw[take_snoc hx,pkI_succ hx,if_pos hxp,hy']
 ·have hxp:x ∉ T.pk:=fun h9=>by have:=hb.2 h9;rw[h] at this;cases this
  rw[take_snoc hx,pkI_succ hx,if_neg hxp,hy']
abbrev Shown:=Tbl × List (List GV) × List Int
structure Proj (g:Gr) (rules:List Rule) (user:ByteArray) (v:Int) (inst:List Rel) (S:Sch) (L:List Shown):Prop where
 hs:m_versions_Schema g v=some (S,0)
 hv:m_access_Validate g rules=some 0
 sub:(L.map (·.1)).Sublist S.tables
 vis:∀ p ∈ L,m_access_Visible g rules user v inst p.1.name=some (p.2.1,p.2.2,0)
def NamesU (S:Sch):Prop:=∀ (i j:Nat) (a b:Tbl),S.tables[i]?=some a→S.tables[j]?=some b→strEq a.name b.name=true→i=j
theorem w_schema_ok (S:Sch):Wp (m_schema_Validate S) fun e=>e=0→(∀ T ∈ S.tables,m_schema_ValidateTable T=some 0)∧∀ (i:Nat) (a b:Tbl),S.tables[i]?=some a→S.tables[i+1]?=some b→strLess b.name a.name=false∧strEq b.name a.name=false:=by
 unfold m_schema_Validate
 refine Wp.cond (fun _=>Wp.ret (by simp)) fun h1=>Wp.cond (fun _=>Wp.ret (by simp)) fun h2=>Wp.cond (fun _=>Wp.ret (by simp)) fun h3=>?_
 have a1:S.tables.length≤6:=by simp at h1;omega
 have a2:S.fks.length≤8:=by simp at h2;omega
 have a3:S.cons.length≤8:=by simp at h3;omega
 refine Wp.for (fun i _=>(∀ (j:Nat) (T:Tbl),j < i→S.tables[j]?=some T→VT T∧m_schema_ValidateTable T=some 0)∧∀ (j:Nat) (a b:Tbl),j+1 < i→S.tables[j]?=some a→S.tables[j+1]?=some b→strLess b.name a.name=false∧strEq b.name a.name=false) ⟨by intro j T h;omega,by intro j a b h;omega⟩ ?_ ?_
 ·rintro i T s next hx hm ⟨hI,hJ⟩ hn
  have hi:=(List.getElem?_eq_some_iff.1 hx).1
  refine Wp.bind (w_ValidateTable T) fun e he0 he=>Wp.cond (fun h=>Wp.ret (by intro h0;simp[h0] at h)) fun h4=>?_
  obtain rfl:e=0:=by simpa using h4
  have hI':=upto_succ hI hx ⟨he rfl,he0⟩
  refine Wp.cond (fun h5=>?_) fun h5=>hn () ⟨hI',fun j a b hj=>?_⟩
  ·have h5':0 < i:=by simpa using h5
   refine Wp.chk ⟨by omega,by omega⟩ (Wp.get (by omega) (by omega) fun y hy _=>Wp.cond (fun _=>Wp.ret (by simp)) fun h6=>hn () ⟨hI',fun j a b hj ha hb=>?_⟩)
   rcases Nat.lt_or_ge (j+1) i with h | h
   ·exact hJ j a b h ha hb
   ·obtain rfl:i=j+1:=by omega
    rw[hx] at hb
    rw[show (((j+1:Nat):Int) - 1).toNat=j by omega,ha] at hy
    cases hb
    cases hy
    simpa using h6
  ·have:¬ (0 < i):=by simpa using h5
   omega
 rintro s ⟨hI,hJ⟩
 have hT:=upto_mem hI
 refine Wp.for (fun _ _=>True) trivial ?_ ?_
 ·intro i f s next hx hm _ hn
  have hi:=(List.getElem?_eq_some_iff.1 hx).1
  refine Wp.bind (w_validateForeignKey S (fun T h=>(hT T h).1) f) fun e _ he=>Wp.cond (fun h=>Wp.ret (by intro h0;simp[h0] at h)) fun h4=>?_
  refine Wp.chk ⟨by omega,by omega,by omega⟩ (Wp.bind (w_ContainsFunc_Fk _ _ fun x _=>?_) fun _ _ _=>Wp.cond (fun _=>Wp.ret (by simp)) fun _=>hn () trivial)
  unfold m_schema_Validate_1
  exact Wp.bind (w_EqualForeignKeys _ _) fun _ _ _=>Wp.ret trivial
 intro s _
 refine Wp.for (fun _ _=>True) trivial ?_ ?_
 ·intro i f s next hx hm _ hn
  have hi:=(List.getElem?_eq_some_iff.1 hx).1
  refine Wp.bind (w_validateConstraint S (fun T h=>(hT T h).1) f) fun e _ he=>Wp.cond (fun h=>Wp.ret (by intro h0;simp[h0] at h)) fun h4=>?_
  exact Wp.chk ⟨by omega,by omega,by omega⟩ (Wp.bind (w_Contains_Cons _ _) fun _ _ _=>Wp.cond (fun _=>Wp.ret (by simp)) fun _=>hn () trivial)
 intro s _
 exact Wp.ret fun _=>⟨fun T h=>(hT T h).2,fun i a b ha hb=>hJ i a b (List.getElem?_eq_some_iff.1 hb).1 ha hb⟩
theorem less_trans:∀ {a b c:List UInt8},Op.bytesLess a b=true→Op.bytesLess b c=true→Op.bytesLess a c=true:=by
 intro a
 induction a with
 | nil=>
   intro b c h1 h2
   cases c with
   | nil=>cases b<;>simp[Op.bytesLess] at h1 h2
   | cons z c=>simp[Op.bytesLess]
 | cons x a ih=>
   intro b c h1 h2
   cases b with
   | nil=>simp[Op.bytesLess] at h1
   | cons y b=>
     cases c with
     | nil=>simp[Op.bytesLess] at h2
     | cons z c=>
       simp only[Op.bytesLess,Bool.or_eq_true,Bool.and_eq_true,decide_eq_true_eq,beq_iff_eq] at h1 h2 ⊢
       rcases h1 with h1 | ⟨rfl,h1⟩<;>rcases h2 with h2 | ⟨rfl,h2⟩
       ·exact .inl (UInt8.lt_trans h1 h2)
       ·exact .inl h1
       ·exact .inl h2
       ·exact .inr ⟨rfl,ih h1 h2⟩
theorem less_irrefl:∀ a:List UInt8,Op.bytesLess a a=false
 | []=>rfl
 | x::a=>by simp[Op.bytesLess,less_irrefl a]
theorem less_total:∀ {a b:List UInt8},Op.bytesLess a b=false→a≠b→Op.bytesLess b a=true:=by
 intro a
 induction a with
 | nil=>
   intro b h1 h2
   cases b with
   | nil=>exact absurd rfl h2
   | cons y b=>simp[Op.bytesLess] at h1
 | cons x a ih=>
   intro b h1 h2
   cases b with
   | nil=>rfl
   | cons y b=>
     simp only[Op.bytesLess,Bool.or_eq_false_iff,Bool.and_eq_false_iff,decide_eq_false_iff_not,beq_eq_false_iff_ne] at h1
     simp only[Op.bytesLess,Bool.or_eq_true,Bool.and_eq_true,decide_eq_true_eq,beq_iff_eq]
     by_cases hxy:x=y
     ·subst hxy
      exact .inr ⟨rfl,ih (h1.2.resolve_left (fun h=>h rfl)) (fun h=>h2 (by rw[h]))⟩
     ·refine .inl ?_
      have h3:¬ (x.toNat < y.toNat):=fun h=>h1.1 (UInt8.lt_iff_toNat_lt.2 h)
      have h4:x.toNat≠y.toNat:=fun h=>hxy (UInt8.toNat_inj.1 h)
      exact UInt8.lt_iff_toNat_lt.2 (by omega)
theorem strEq_iff {a b:ByteArray}:strEq a b=true↔a.toList=b.toList:=by simp[strEq]
def NamesA (ts:List Tbl):Prop:=ts.Pairwise fun a b=>strLess a.name b.name=true
theorem names_of {ts:List Tbl} (h:∀ (i:Nat) (a b:Tbl),ts[i]?=some a→ts[i+1]?=some b→strLess b.name a.name=false∧strEq b.name a.name=false):NamesA ts:=by
 have key:∀ (n i:Nat) (a b:Tbl),ts[i]?=some a→ts[i+1+n]?=some b→strLess a.name b.name=true:=by
  intro n
  induction n with
  | zero=>
    intro i a b ha hb
    obtain⟨h1,h2⟩:=h i a b ha hb
    refine less_total h1 fun h3=>?_
    rw[strEq_iff.2 h3] at h2
    cases h2
  | succ n ih=>
    intro i a b ha hb
    have hl:=(List.getElem?_eq_some_iff.1 hb).1
    have hc:ts[i+1+n]?=some ts[i+1+n]:=List.getElem?_eq_getElem (by omega)
    refine less_trans (ih i a _ ha hc) ?_
    obtain⟨h1,h2⟩:=h (i+1+n) _ b hc hb
    refine less_total h1 fun h3=>?_
    rw[strEq_iff.2 h3] at h2
    cases h2
 refine List.pairwise_iff_getElem.2 fun i j hi hj hij=>?_
 refine key (j - (i+1)) i _ _ (List.getElem?_eq_getElem hi) ?_
 rw[show i+1+(j - (i+1))=j by omega]
 exact List.getElem?_eq_getElem hj
theorem NamesA.uniq {S:Sch} (h:NamesA S.tables):NamesU S:=by
 intro i j a b ha hb he
 obtain⟨hi,rfl⟩:=List.getElem?_eq_some_iff.1 ha
 obtain⟨hj,rfl⟩:=List.getElem?_eq_some_iff.1 hb
 have e:=strEq_iff.1 he
 rcases Nat.lt_trichotomy i j with h1 | h1 | h1
 ·have h2:Op.bytesLess _ _=true:=List.pairwise_iff_getElem.1 h i j hi hj h1
  rw[e,less_irrefl] at h2
  cases h2
 ·exact h1
 ·have h2:Op.bytesLess _ _=true:=List.pairwise_iff_getElem.1 h j i hj hi h1
  rw[← e,less_irrefl] at h2
  cases h2
theorem VS.ord {S:Sch} (h:VS S):NamesA S.tables∧∀ T ∈ S.tables,m_schema_ValidateTable T=some 0:=by
 obtain⟨e,he,hp⟩:=w_schema_ok S
 rw[h.ok] at he
 cases he
 exact⟨names_of (hp rfl).2,(hp rfl).1⟩
theorem vis_tab {g:Gr} {rules:List Rule} {user:ByteArray} {v:Int} {inst:List Rel} {Ss:List Sch} {S:Sch} {r:Rule} {k:Int} {T T':Tbl} {x:Rel} {i:Nat} {nm:ByteArray}
  (h:Vis g rules user v inst nm Ss S r k T' x) (hn:strEq T.name nm=true) (hT:S.tables[i]?=some T):k.toNat=i∧T'=T:=by
 have hU:=((h.rs.vs S (List.mem_of_getElem? h.s)).ord.1).uniq
 obtain⟨q,hq,hp⟩:=w_FindTable S r.table
 rw[h.vr.ft] at hq
 cases hq
 obtain⟨_,T2,h2,h3⟩:=hp.2.1 rfl
 rw[h.vr.t] at h2
 cases h2
 have hl:lkP user v nm r=true:=List.find?_some h.l
 simp only[lkP,Bool.and_eq_true,beq_iff_eq] at hl
 have e:strEq T'.name T.name=true:=by
  have e1:=strEq_iff.1 h3
  have e2:=strEq_iff.1 hl.2.2
  have e3:=strEq_iff.1 hn
  exact strEq_iff.2 (by rw[e1,e2,e3])
 have hki:=hU _ _ _ _ h.vr.t hT e
 refine⟨hki,?_⟩
 have h4:=h.vr.t
 rw[hki,hT] at h4
 cases h4
 rfl
theorem w_Project (g:Gr) (hx:∀ e ∈ g.edges,∀ x ∈ e.script,SmallX x) (rules:List Rule) (user:ByteArray) (v:Int) (inst:List Rel) :
  Wp (m_view_Project g rules user v inst) fun q=>q.2.2=0→∃ S L,Proj g rules user v inst S L∧VS S∧q.1=⟨L.map (fun p=>restrF p.1 p.2.2),[],[]⟩∧q.2.1=L.map (fun p=>⟨p.1.name,p.2.1⟩):=by
 have hL:=LIM_eq
 unfold m_view_Project
 refine Wp.bind (w_access_Validate g hx rules) fun e he1 he=>Wp.cond (fun h=>Wp.ret (by intro h0;simp only at h0;rw[h0] at h;cases h)) fun h1=>?_
 obtain rfl:e=0:=by simpa using h1
 obtain⟨Ss,hR⟩:=he rfl
 refine Wp.bind (w_versions_Schema g hx v) fun q hq1 hq=>Wp.cond (fun h=>Wp.ret (by intro h0;simp only at h0;rw[h0] at h;cases h)) fun h2=>?_
 obtain⟨S,e⟩:=q
 obtain rfl:e=0:=by simpa using h2
 obtain⟨Ss',hss,hV,hv0,hSv⟩:=hq rfl
 have hVS:=hV S (List.mem_of_getElem? hSv)
 have h6:=hVS.t6
 refine Wp.for (fun i (s:List Rel × List Tbl)=>∃ L:List Shown,(L.map (·.1)).Sublist (S.tables.take i)∧(∀ p ∈ L,m_access_Visible g rules user v inst p.1.name=some (p.2.1,p.2.2,0))∧s=(L.map (fun p=>⟨p.1.name,p.2.1⟩),L.map (fun p=>restrF p.1 p.2.2))) ⟨[],by simp,by simp,rfl⟩ ?_ ?_
 ·rintro i T s next hT hm ⟨L,hsub,hvis,rfl⟩ hn
  have hi:=(List.getElem?_eq_some_iff.1 hT).1
  have htk:S.tables.take (i+1)=S.tables.take i++[T]:=by
   obtain⟨h8,h9⟩:=List.getElem?_eq_some_iff.1 hT
   rw[List.take_succ_eq_append_getElem h8,h9]
  have hLl:L.length≤i:=by
   have:=hsub.length_le
   simp at this
   omega
  have hL6:L.length≤6:=by
   have:i < S.tables.length:=hi
   omega
  refine Wp.bind (w_Visible g hx rules user v inst T.name) fun q hq1 hq=>Wp.cond (fun _=>hn _ ⟨L,by rw[htk];exact hsub.trans (List.sublist_append_left _ _),hvis,rfl⟩) fun _=>Wp.cond (fun h=>Wp.ret (by intro h0;simp only at h0;rw[h0] at h;cases h)) fun h3=>?_
  obtain⟨rows,cols,e⟩:=q
  obtain rfl:e=0:=by simpa using h3
  obtain⟨Ss2,S2,r,k,T2,x,hVis,hc,hr⟩:=hq rfl
  have hS2:S2=S:=by
   have:=hVis.hs
   rw[show m_versions_Schema g v=some (S,0) from by assumption] at this
   cases this
   rfl
  subst hS2
  obtain⟨_,hTT⟩:=vis_tab hVis (strEq_iff.2 rfl) hT
  subst hTT
  have hVT:=hVS.tab _ hm
  have hcl:=visC_len hVT hVis.vr.cols
  have h6c:=hVT.cols6
  simp only at hc hr
  refine Wp.bind (w_restrict _ cols (by rw[hc];omega) (by rw[hc];exact visC_in hVT hVis.vr.cols)) fun t _ ht=>Wp.app (by simp;omega) (Wp.app (by simp;omega) (hn _ ⟨L++[(T2,rows,cols)],?_,?_,?_⟩))
  ·rw[htk,List.map_append]
   exact hsub.append (List.Sublist.refl _)
  ·intro p hp
   rcases List.mem_append.1 hp with h | h
   ·exact hvis p h
   ·rw[List.mem_singleton.1 h]
    exact hq1
  ·rw[ht]
   simp
 ·rintro s ⟨L,hsub,hvis,rfl⟩
  rw[List.take_length] at hsub
  exact Wp.ret fun _=>⟨S,L,⟨hq1,he1,hsub,hvis⟩,hVS,rfl,rfl⟩
theorem cmpI_lt {a b:Int}:cmpI a b < 0↔a < b:=by
 unfold cmpI
 split
 ·simp[*]
 ·split<;>simp[*]
theorem cmpI_zero {a b:Int}:cmpI a b=0↔a=b:=by
 unfold cmpI
 split
 ·simp;omega
 ·split
  ·simp;omega
  ·simp;omega
theorem cb_zero:∀ {a b:List UInt8},Lib.compareBytes a b=0→a=b:=by
 intro a
 induction a with
 | nil=>intro b h;cases b with
   | nil=>rfl
   | cons y b=>simp[Lib.compareBytes] at h
 | cons x a ih=>
   intro b h
   cases b with
   | nil=>simp[Lib.compareBytes] at h
   | cons y b=>
     simp only[Lib.compareBytes] at h
     split at h
     ·simp at h
     ·split at h
      ·simp at h
      ·rename_i h1 h2
       have h3:¬ (x.toNat < y.toNat):=fun h=>h1 (UInt8.lt_iff_toNat_lt.2 h)
       have h4:¬ (y.toNat < x.toNat):=fun h=>h2 (UInt8.lt_iff_toNat_lt.2 h)
       have:x=y:=UInt8.toNat_inj.1 (by omega)
       rw[this,ih h]
theorem cb_refl:∀ a:List UInt8,Lib.compareBytes a a=0
 | []=>rfl
 | x::a=>by
   have:¬ (x < x):=fun h=>Nat.lt_irrefl _ (UInt8.lt_iff_toNat_lt.1 h)
   simp[Lib.compareBytes,this,cb_refl a]
theorem cb_trans:∀ {a b c:List UInt8},Lib.compareBytes a b < 0→Lib.compareBytes b c < 0→Lib.compareBytes a c < 0:=by
 intro a
 induction a with
 | nil=>
   intro b c h1 h2
   cases c with
   | nil=>cases b<;>simp[Lib.compareBytes] at h1 h2
   | cons z c=>simp[Lib.compareBytes]
 | cons x a ih=>
   intro b c h1 h2
   cases b with
   | nil=>simp[Lib.compareBytes] at h1
   | cons y b=>
     cases c with
     | nil=>simp[Lib.compareBytes] at h2
     | cons z c=>
       simp only[Lib.compareBytes,UInt8.lt_iff_toNat_lt] at h1 h2 ⊢
       split at h1
       ·split at h2
        ·rw[if_pos (by omega)];decide
        ·split at h2
         ·simp at h2
         ·rw[if_pos (by omega)];decide
       ·split at h1
        ·simp at h1
        ·split at h2
         ·rw[if_pos (by omega)];decide
         ·split at h2
          ·simp at h2
          ·rw[if_neg (by omega),if_neg (by omega)]
           exact ih h1 h2
theorem cmpV_lt {a b:GV}:cmpV a b < 0↔a.kind < b.kind∨(a.kind=b.kind∧(a.int < b.int∨(a.int=b.int∧cmpS a.text b.text < 0))):=by
 unfold cmpV
 by_cases h1:cmpI a.kind b.kind=0
 ·have e1:=cmpI_zero.1 h1
  by_cases h2:cmpI a.int b.int=0
  ·have e2:=cmpI_zero.1 h2
   simp[e1,e2,cmpI]
  ·have e2:a.int≠b.int:=fun h=>h2 (cmpI_zero.2 h)
   rw[if_neg (by simp[h1]),if_pos h2,cmpI_lt]
   simp[e1,e2]
 ·have e1:a.kind≠b.kind:=fun h=>h1 (cmpI_zero.2 h)
  rw[if_pos h1,cmpI_lt]
  simp[e1]
theorem cmpV_zero {a b:GV} (h:cmpV a b=0):a=b:=by
 unfold cmpV at h
 by_cases h1:cmpI a.kind b.kind=0
 ·by_cases h2:cmpI a.int b.int=0
  ·rw[if_neg (by simp[h1]),if_neg (by simp[h2])] at h
   have e3:=cb_zero h
   obtain⟨k,n,t⟩:=a
   obtain⟨k',n',t'⟩:=b
   have e1:=cmpI_zero.1 h1
   have e2:=cmpI_zero.1 h2
   simp only at e1 e2 e3
   subst e1 e2
   have:t=t':=by
    cases t with
    | mk d=>cases t' with
      | mk d'=>
        have:=Array.toList_inj.1 e3
        rw[show d=d' from this]
   rw[this]
  ·rw[if_neg (by simp[h1]),if_pos h2] at h
   exact absurd h h2
 ·rw[if_pos h1] at h
  exact absurd h h1
theorem cmpV_trans {a b c:GV} (h1:cmpV a b < 0) (h2:cmpV b c < 0):cmpV a c < 0:=by
 rw[cmpV_lt] at h1 h2 ⊢
 rcases h1 with h1 | ⟨e1,h1⟩
 ·rcases h2 with h2 | ⟨e2,_⟩
  ·exact .inl (by omega)
  ·exact .inl (by omega)
 ·rcases h2 with h2 | ⟨e2,h2⟩
  ·exact .inl (by omega)
  ·refine .inr ⟨by omega,?_⟩
   rcases h1 with h1 | ⟨f1,h1⟩
   ·rcases h2 with h2 | ⟨f2,_⟩
    ·exact .inl (by omega)
    ·exact .inl (by omega)
   ·rcases h2 with h2 | ⟨f2,h2⟩
    ·exact .inl (by omega)
    ·exact .inr ⟨by omega,cb_trans h1 h2⟩
theorem cmpR_trans:∀ {a b c:List GV},cmpR a b < 0→cmpR b c < 0→cmpR a c < 0:=by
 intro a
 induction a with
 | nil=>
   intro b c h1 h2
   cases c with
   | nil=>cases b<;>simp[cmpR] at h1 h2
   | cons z c=>simp[cmpR]
 | cons x a ih=>
   intro b c h1 h2
   cases b with
   | nil=>simp[cmpR] at h1
   | cons y b=>
     cases c with
     | nil=>simp[cmpR] at h2
     | cons z c=>
       simp only[cmpR] at h1 h2 ⊢
       by_cases e1:cmpV x y=0
       ·have:=cmpV_zero e1
        subst this
        rw[if_neg (by simp[e1])] at h1
        by_cases e2:cmpV x z=0
        ·rw[if_neg (by simp[e2])] at h2 ⊢
         exact ih h1 h2
        ·rw[if_pos e2] at h2 ⊢
         exact h2
       ·rw[if_pos e1] at h1
        by_cases e2:cmpV y z=0
        ·have:=cmpV_zero e2
         subst this
         rw[if_pos e1]
         exact h1
        ·rw[if_pos e2] at h2
         have:=cmpV_trans h1 h2
         rw[if_pos (by omega)]
         exact this
def AscP (T:Tbl) (rows:List (List GV)):Prop:=rows.Pairwise fun a b=>cmpR (keyF T a) (keyF T b) < 0
theorem Asc.pw {T:Tbl} {rows:List (List GV)} (h:Asc T rows):AscP T rows:=by
 have key:∀ (n i:Nat) (a b:List GV),rows[i]?=some a→rows[i+1+n]?=some b→cmpR (keyF T a) (keyF T b) < 0:=by
  intro n
  induction n with
  | zero=>intro i a b ha hb;exact h i a b ha hb
  | succ n ih=>
    intro i a b ha hb
    have hl:=(List.getElem?_eq_some_iff.1 hb).1
    have hc:rows[i+1+n]?=some rows[i+1+n]:=List.getElem?_eq_getElem (by omega)
    exact cmpR_trans (ih i a _ ha hc) (h (i+1+n) _ b hc hb)
 refine List.pairwise_iff_getElem.2 fun i j hi hj hij=>?_
 refine key (j - (i+1)) i _ _ (List.getElem?_eq_getElem hi) ?_
 rw[show i+1+(j - (i+1))=j by omega]
 exact List.getElem?_eq_getElem hj
theorem AscP.asc {T:Tbl} {rows:List (List GV)} (h:AscP T rows):Asc T rows:=by
 intro i a b ha hb
 obtain⟨h1,rfl⟩:=List.getElem?_eq_some_iff.1 ha
 obtain⟨h2,rfl⟩:=List.getElem?_eq_some_iff.1 hb
 exact List.pairwise_iff_getElem.1 h i (i+1) h1 h2 (by omega)
theorem Wp.eq {α:Type} {m:Option α} {v:α} (h:Wp m fun r=>r=v):m=some v:=by
 obtain⟨r,h1,rfl⟩:=h
 exact h1
theorem conformsRow_of {T:Tbl} {row:List GV} (h:CR T row):m_instance_ConformsRow T row=some 0:=by
 refine Wp.eq ?_
 unfold m_instance_ConformsRow
 have hl:=h.len
 refine Wp.cond (fun h1=>by simp[hl] at h1) fun _=>Wp.for (fun _ _=>True) trivial ?_ fun _ _=>Wp.ret rfl
 intro i x s next hx hm _ hn
 have hi:=(List.getElem?_eq_some_iff.1 hx).1
 have hic:i < T.cols.length:=by omega
 have hcx:T.cols[i]?=some T.cols[i]:=List.getElem?_eq_getElem hic
 obtain⟨h1,h2,h3⟩:=h.cell i x _ hx hcx
 generalize T.cols[i]=c at hcx h2 h3
 rw[h1]
 refine Wp.bind (R:=fun v=>v=0) ⟨_,rfl,rfl⟩ fun v _ hv=>?_
 subst hv
 refine Wp.cond (fun h=>by simp at h) fun _=>Wp.cond (fun h4=>?_) fun h4=>?_
 ·have a4:x.kind=0:=by simpa using h4
  refine Wp.getN hcx (Wp.cond (fun h5=>?_) fun _=>Wp.cond (fun h5=>?_) fun _=>hn () trivial)
  ·rw[h2 a4] at h5;cases h5
  ·simp[a4] at h5
 ·have a4:x.kind≠0:=by simpa using h4
  refine Wp.cond (fun _=>Wp.getN hcx (Wp.cond (fun h5=>?_) fun _=>hn () trivial)) fun _=>hn () trivial
  simp[h3 a4] at h5
theorem conforms_of {S:Sch} {inst:List Rel} (hS:∀ T ∈ S.tables,T.pk.length≤6) (h:CF S inst):m_instance_Conforms S inst=some 0:=by
 refine Wp.eq ?_
 unfold m_instance_Conforms
 have hl:=h.len
 refine Wp.cond (fun h1=>by simp[hl] at h1) fun _=>Wp.for (fun _ _=>True) trivial ?_ fun _ _=>Wp.ret rfl
 intro i x s next hx hm _ hn
 have hi:=(List.getElem?_eq_some_iff.1 hx).1
 have hic:i < S.tables.length:=by omega
 have hcx:S.tables[i]?=some S.tables[i]:=List.getElem?_eq_getElem hic
 have hpk:=hS _ (List.getElem_mem hic)
 have h24:=h.l24 x hm
 generalize S.tables[i]=T at hcx hpk
 have hr:=h.row i x T hx hcx
 have ha:=h.asc i x T hx hcx
 refine Wp.getN hcx (Wp.cond (fun h1=>by rw[h.name i x T hx hcx] at h1;cases h1) fun _=>Wp.cond (fun h1=>?_) fun _=>?_)
 ·have:24 < x.rows.length:=by simp at h1;omega
  omega
 refine Wp.for (fun _ _=>True) trivial ?_ fun _ _=>hn () trivial
 intro k row s next2 hrow hrm _ hn2
 have hk:=(List.getElem?_eq_some_iff.1 hrow).1
 rw[conformsRow_of (hr row hrm)]
 refine Wp.bind (R:=fun v=>v=0) ⟨_,rfl,rfl⟩ fun v _ hv=>?_
 subst hv
 refine Wp.cond (fun h=>by simp at h) fun _=>Wp.cond (fun _=>hn2 () trivial) fun h5=>Wp.chk ⟨by omega,by omega⟩ ?_
 have hk0:k≠0:=by simp at h5;omega
 have hk1:k - 1 < x.rows.length:=by omega
 have hr0:x.rows[k - 1]?=some x.rows[k - 1]:=List.getElem?_eq_getElem hk1
 rw[show (k:Int) - 1=((k - 1:Nat):Int) by omega]
 generalize x.rows[k - 1]=row0 at hr0
 have hlt:=ha (k - 1) row0 row hr0 (by rw[show k - 1+1=k by omega];exact hrow)
 refine Wp.getN hr0 (Wp.bind (w_Key T row0 (by omega)) fun k0 _ h0=>Wp.bind (w_Key T row (by omega)) fun k1 _ h1=>?_)
 subst h0 h1
 refine Wp.bind (w_CompareRows _ _ (by simp[keyF];omega)) fun c _ hc=>?_
 subst hc
 refine Wp.cond (fun h=>?_) fun _=>Wp.cond (fun h=>?_) fun _=>hn2 () trivial
 ·have:cmpR (keyF T row0) (keyF T row)=0:=by simpa using h
  omega
 ·have:0 < cmpR (keyF T row0) (keyF T row):=by simpa using h
  omega
structure CT (T:Tbl):Prop where
 nm:∀ c ∈ T.cols,validName c.name=true
 kd:∀ c ∈ T.cols,1≤c.kind∧c.kind≤3
 un:∀ (i j:Nat) (a b:Col),j < i→T.cols[i]?=some a→T.cols[j]?=some b→strEq b.name a.name=false
 nn:∀ p ∈ T.pk,∀ c,T.cols[p.toNat]?=some c→c.nullable=false
theorem findColumn_eq (T:Tbl) (nm:ByteArray):m_schema_FindColumn T nm=some ((if fIdx (fun c=>strEq c.name nm) T.cols < 0 then 0 else fIdx (fun c=>strEq c.name nm) T.cols),decide (0≤fIdx (fun c=>strEq c.name nm) T.cols)):=by
 unfold m_schema_FindColumn m_slices_IndexFunc_Column
 rw[index_eq (f:=fun xa_=>m_schema_FindColumn_1 xa_ nm) (p:=fun c=>strEq c.name nm) fun x _=>rfl]
 rfl
theorem fIdx_ge {α:Type} {p:α→Bool} {xs:List α} {i:Nat} {x:α} (hx:xs[i]?=some x) (hp:p x=true):(i:Int)≤fIdx p xs↔∀ (j:Nat) (y:α),j < i→xs[j]?=some y→p y=false:=by
 unfold fIdx
 obtain⟨hi,rfl⟩:=List.getElem?_eq_some_iff.1 hx
 cases h:xs.findIdx? p with
 | none=>
   have:=List.findIdx?_eq_none_iff.1 h _ (List.getElem_mem hi)
   rw[hp] at this
   cases this
 | some k=>
   obtain⟨h1,h2,h3⟩:=List.findIdx?_eq_some_iff_getElem.1 h
   constructor
   ·intro hik j y hj hy
    obtain⟨h4,rfl⟩:=List.getElem?_eq_some_iff.1 hy
    simpa using h3 j (by simp at hik;omega)
   ·intro hall
    rcases Nat.lt_or_ge k i with h5 | h5
    ·have:=hall k _ h5 (List.getElem?_eq_getElem h1)
     rw[h2] at this
     cases this
    ·simp;omega
theorem upto_succI {α:Type} {xs:List α} {p:Nat→α→Prop} {i:Nat} {x:α} (h:∀ (j:Nat) (y:α),j < i→xs[j]?=some y→p j y) (hx:xs[i]?=some x) (hp:p i x):∀ (j:Nat) (y:α),j < i+1→xs[j]?=some y→p j y:=by
 intro j y hj hy
 rcases Nat.lt_or_ge j i with h1 | h1
 ·exact h j y h1 hy
 ·obtain rfl:j=i:=by omega
  rw[hx] at hy
  cases hy
  exact hp
theorem w_table_ct (T:Tbl):Wp (m_schema_ValidateTable T) fun e=>e=0→CT T:=by
 unfold m_schema_ValidateTable
 refine Wp.bind (w_ValidName _) fun v _ hv=>Wp.cond (fun _=>Wp.ret (by simp)) fun hv1=>?_
 refine Wp.cond (fun _=>Wp.ret (by simp)) fun h1=>Wp.cond (fun _=>Wp.ret (by simp)) fun h2=>?_
 have hc6:T.cols.length≤6:=by simp at h2;omega
 refine Wp.for (fun i _=>(∀ (j:Nat) (c:Col),j < i→T.cols[j]?=some c→validName c.name=true∧1≤c.kind∧c.kind≤3)∧∀ (k j:Nat) (a b:Col),k < i→j < k→T.cols[k]?=some a→T.cols[j]?=some b→strEq b.name a.name=false) ⟨by intro j c h;omega,by intro k j a b h;omega⟩ ?_ ?_
 ·rintro i x s next hx hm ⟨hI,hJ⟩ hn
  refine Wp.bind (w_ValidName _) fun v _ hvn=>Wp.cond (fun _=>Wp.ret (by simp)) fun h3=>?_
  rw[findColumn_eq]
  refine Wp.cond (fun _=>Wp.ret (by simp)) fun h4=>Wp.cond (fun _=>Wp.ret (by simp)) fun h5=>Wp.cond (fun _=>Wp.ret (by simp)) fun h6=>hn () ⟨upto_succ hI hx ⟨?_,?_,?_⟩,?_⟩
  ·rw[← hvn];simpa using h3
  ·simp at h5;omega
  ·simp at h6;omega
  ·intro k j a b hk hj ha hb
   rcases Nat.lt_or_ge k i with h | h
   ·exact hJ k j a b h hj ha hb
   ·obtain rfl:k=i:=by omega
    rw[hx] at ha
    cases ha
    have hself:strEq x.name x.name=true:=strEq_iff.2 rfl
    have h7:=(fIdx_ge (p:=fun c=>strEq c.name x.name) hx hself).1 (by
     have h8:¬ ((if fIdx (fun c=>strEq c.name x.name) T.cols < 0 then 0 else fIdx (fun c=>strEq c.name x.name) T.cols) < (k:Int)):=by simpa using h4
     split at h8
     ·omega
     ·omega)
    exact h7 j b hj hb
 ·rintro s ⟨hI,hJ⟩
  have hC:=upto_mem hI
  refine Wp.for (fun i _=>(∀ (j:Nat) (p:Int),j < i→T.pk[j]?=some p→∀ c,T.cols[p.toNat]?=some c→c.nullable=false)∧∀ (j:Nat) (p:Int),j < i→T.pk[j]?=some p→(j:Int)≤p∧p < T.cols.length) ⟨by intro j p h;omega,by intro j p h;omega⟩ ?_ ?_
  ·rintro i x s next hx hm ⟨hN,hK⟩ hn
   refine Wp.cond (fun _=>Wp.ret (by simp)) fun h3=>Wp.cond (fun _=>Wp.ret (by simp)) fun h4=>?_
   have h0:0≤x:=by simpa using h3
   have h5:x < T.cols.length:=by simpa using h4
   have hil:=(List.getElem?_eq_some_iff.1 hx).1
   refine Wp.get h0 h5 fun c hcx _=>Wp.cond (fun _=>Wp.ret (by simp)) fun hnl=>?_
   have hN':=upto_succ (p:=fun p=>∀ c,T.cols[p.toNat]?=some c→c.nullable=false) hN hx (fun c' hc'=>by rw[hcx] at hc';cases hc';exact hnl)
   refine Wp.cond (fun h6=>?_) fun h6=>hn () ⟨hN',upto_succI (p:=fun j p=>(j:Int)≤p∧p < T.cols.length) hK hx ⟨?_,h5⟩⟩
   ·have hi:0 < i:=by simpa using h6
    have hil1:i - 1 < T.pk.length:=by omega
    have hk1:=hK (i - 1) _ (by omega) (List.getElem?_eq_getElem hil1)
    refine Wp.chk ⟨by omega,by have:=hc6;omega⟩ (Wp.get (by omega) (by omega) fun y hy _=>Wp.cond (fun _=>Wp.ret (by simp)) fun h7=>hn () ⟨hN',upto_succI (p:=fun j p=>(j:Int)≤p∧p < T.cols.length) hK hx ⟨?_,h5⟩⟩)
    have hyx:y < x:=by simpa using h7
    rw[show ((i:Int) - 1).toNat=i - 1 by omega,List.getElem?_eq_getElem hil1] at hy
    cases hy
    omega
   ·have:i=0:=by simpa using h6
    omega
  ·rintro s ⟨hN,_⟩
   refine Wp.cond (fun _=>Wp.ret (by simp)) fun _=>Wp.ret fun _=>⟨fun c hc=>(hC c hc).1,fun c hc=>(hC c hc).2,fun i j a b hj ha hb=>hJ i j a b (List.getElem?_eq_some_iff.1 ha).1 hj ha hb,upto_mem hN⟩
theorem validateTable_of {T:Tbl} (hn:validName T.name=true) (h0:0 < T.cols.length) (h6:T.cols.length≤6) (hc:CT T) (hp0:0 < T.pk.length) (hp:∀ v ∈ T.pk,0≤v∧v < T.cols.length) (ha:∀ (i:Nat) (a b:Int),T.pk[i]?=some a→T.pk[i+1]?=some b→a < b):m_schema_ValidateTable T=some 0:=by
 refine Wp.eq ?_
 unfold m_schema_ValidateTable
 refine Wp.bind (w_ValidName _) fun v _ hv=>?_
 subst hv
 refine Wp.cond (fun h=>by rw[hn] at h;cases h) fun _=>Wp.cond (fun h=>?_) fun _=>Wp.cond (fun h=>?_) fun _=>?_
 ·have:T.cols=[]:=by simpa using h
  rw[this] at h0
  cases h0
 ·simp at h;omega
 refine Wp.for (fun _ _=>True) trivial ?_ ?_
 ·intro i x s next hx hm _ hn
  have hself:strEq x.name x.name=true:=strEq_iff.2 rfl
  have h7:=(fIdx_ge (p:=fun c=>strEq c.name x.name) hx hself).2 fun j y hj hy=>hc.un i j x y hj hx hy
  refine Wp.bind (w_ValidName _) fun v _ hvn=>?_
  subst hvn
  rw[findColumn_eq]
  refine Wp.cond (fun h=>by rw[hc.nm x hm] at h;cases h) fun _=>?_
  have hkd:=hc.kd x hm
  refine Wp.cond (fun h=>?_) fun _=>Wp.cond (fun h=>?_) fun _=>Wp.cond (fun h=>?_) fun _=>hn () trivial
  ·have h8:(if fIdx (fun c=>strEq c.name x.name) T.cols < 0 then 0 else fIdx (fun c=>strEq c.name x.name) T.cols) < (i:Int):=by simpa using h
   split at h8<;>omega
  ·simp at h;omega
  ·simp at h;omega
 ·intro s _
  refine Wp.for (fun _ _=>True) trivial ?_ ?_
  ·intro i x s next hx hm _ hn
   have hil:=(List.getElem?_eq_some_iff.1 hx).1
   have h1:=hp x hm
   refine Wp.cond (fun h=>by simp at h;omega) fun _=>Wp.cond (fun h=>by simp at h;omega) fun _=>Wp.get h1.1 h1.2 fun c hcx _=>Wp.cond (fun h=>by rw[hc.nn x hm c hcx] at h;cases h) fun _=>Wp.cond (fun h=>?_) fun _=>hn () trivial
   have hi:0 < i:=by simpa using h
   have hpl:T.pk.length≤T.cols.length:=asc_len hp ha
   refine Wp.chk ⟨by omega,by omega⟩ (Wp.get (by omega) (by omega) fun y hy _=>Wp.cond (fun h=>?_) fun _=>hn () trivial)
   rw[show ((i:Int) - 1).toNat=i - 1 by omega] at hy
   have:=ha (i - 1) y x hy (by rw[show i - 1+1=i by omega];exact hx)
   simp at h;omega
  ·intro s _
   refine Wp.cond (fun h=>?_) fun _=>Wp.ret rfl
   have:T.pk=[]:=by simpa using h
   rw[this] at hp0
   cases hp0
theorem colF_get {T:Tbl} {c:Int} (h:0≤c∧c < T.cols.length):T.cols[c.toNat]?=some (colF T c):=by
 have hl:c.toNat < T.cols.length:=by omega
 unfold colF
 rw[List.getElem?_eq_getElem hl]
 rfl
theorem cellF_get {row:List GV} {c:Int} (h:0≤c∧c < row.length):row[c.toNat]?=some (cellF row c):=by
 have hl:c.toNat < row.length:=by omega
 unfold cellF
 rw[if_pos h.1,List.getElem?_eq_getElem hl]
 rfl
theorem h_slices_Clone_Row (h:HS) (c:C) (xs:List (List C)) (hr:RowAt h 1 c xs) (K:V→HS→Prop)
  (hk:∀ c' h',MR h' 1 c' xs→Same h h' []→(∀ l ∈ labs c',h.ep≤l.1∧l.1 < h'.ep)→BoxLe h h'→K (.one c') h') :
  HSpec Tryz.prog 86 [.one c] h K:=by
 refine HSpec.good Tryz.func86 rfl (by kernel_rfl) fun hg=>?_
 refine HSpec.of_vc Tryz.func86 rfl (by kernel_rfl) (n:=8) rfl rfl (by simp) ?_
 simp
 refine nilK_rd ty_el52 hr (fun h1=>?_) ?_
 ·subst h1
  simp
  exact hk _ _ MR.nil .refl (by simp[labs]) (BoxLe.refl h)
 ·simp
  refine emptyK_z (by simp) ?_
  simp
  refine app_new ty_el52 (by kernel_rfl) (by decide) (by decide) hr (fun c' h' hm hs hl=>?_)
  simp
  exact hk _ _ hm hs hl (hs.boxLe hg)
theorem h_slices_Clone_Value (h:HS) (c:C) (xs:List (List C)) (hr:RowAt h 3 c xs) (K:V→HS→Prop)
  (hk:∀ c' h',MR h' 3 c' xs→Same h h' []→(∀ l ∈ labs c',h.ep≤l.1∧l.1 < h'.ep)→BoxLe h h'→K (.one c') h') :
  HSpec Tryz.prog 73 [.one c] h K:=by
 refine HSpec.good Tryz.func73 rfl (by kernel_rfl) fun hg=>?_
 refine HSpec.of_vc Tryz.func73 rfl (by kernel_rfl) (n:=8) rfl rfl (by simp) ?_
 simp
 refine nilK_rd ty_el79 hr (fun h1=>?_) ?_
 ·subst h1
  simp
  exact hk _ _ MR.nil .refl (by simp[labs]) (BoxLe.refl h)
 ·simp
  refine emptyK_z (by simp) ?_
  simp
  refine app_new ty_el79 (by kernel_rfl) (by decide) (by decide) hr (fun c' h' hm hs hl=>?_)
  simp
  exact hk _ _ hm hs hl (hs.boxLe hg)
theorem h_slices_Delete_Row (h:HS) (c:C) (xs:List (List C)) (i j:Nat) (hm:MR h 1 c xs) (hij:i≤j) (hj:j≤xs.length) (K:V→HS→Prop)
  (hk:∀ c' h',MR h' 1 c' (xs.take i++xs.drop j)→(∀ l,l ∉ labs c→h'.box l=h.box l)→h'.ep=h.ep→h'.arr=h.arr→labs c'=labs c→K (.one c') h') :
  HSpec Tryz.prog 118 [.one c,.one (.d (.int .i64 i)),.one (.d (.int .i64 j))] h K:=by
 obtain⟨hall,hlim,h1 | ⟨l,cap,sp,rfl,hb,hcap⟩⟩:=hm
 ·obtain⟨rfl,hc⟩:=h1
  obtain rfl:j=0:=by simpa using hj
  obtain rfl:i=0:=by omega
  rcases hc with rfl | rfl
  ·refine HSpec.of_vc Tryz.func118 rfl (by kernel_rfl) (n:=33) rfl rfl (by simp) ?_
   simp
   exact hk _ _ (by simpa using MR.nil) (fun _ _=>rfl) rfl rfl rfl
  ·refine HSpec.of_vc Tryz.func118 rfl (by kernel_rfl) (n:=33) rfl rfl (by simp) ?_
   simp
   exact hk _ _ (by simpa using MR.z) (fun _ _=>rfl) rfl rfl rfl
 ·have hlen:xs.length≤cap:=by
   have h1:=rowBox_length (sp:=sp) hall
   omega
  have hi:i≤xs.length:=by omega
  refine HSpec.of_vc Tryz.func118 rfl (by kernel_rfl) (n:=33) rfl rfl (by simp) ?_
  simp
  refine opt_slice ⟨⟨hij,hj⟩,hlen⟩ (fun _=>?_) (fun _=>?_)
  all_goals
   simp
   refine condV_of (fun he=>?_) (fun hne=>?_)
   ·simp
    have hij':i=j:=by simp at he;omega
    subst hij'
    refine hk _ _ ⟨?_,?_,.inr ⟨l,cap,sp,?_,?_,?_⟩⟩ (fun _ _=>rfl) rfl rfl rfl<;>simp[*]
   ·simp
    have hlt:i < j:=by
     have:(i:Int)≠j:=by simpa using hne
     omega
    have hjc:j≤cap:=by omega
    have hic:i≤cap:=by omega
    have hc0:0 < cap:=by omega
    refine Wait.of (SWP.draw (Plan.then_ [0,1,2,3,4,5,6,7] .done) follows (by kernel_rfl) ?_)
    simp[Plan.then_,vcPlan,planOps,isCallAt,callKind,hjc,hic,hlen,hj,hc0]
    have fin:∀ (sp1:List C) (h1:HS),(rowBox (xs.take i++xs.drop j) sp1).length=cap * 1→h1.box l=some (rowBox (xs.take i++xs.drop j) sp1)→(∀ k,k≠l→h1.box k=h.box k)→h1.ep=h.ep→h1.arr=h.arr →
      K (.one (.mrow l 0 (i+(xs.length - j)) cap)) h1:=fun sp1 h1 e1 e2 e3 e4 e5=>
     hk _ _ ⟨AllC.append.2 ⟨hall.take,hall.drop⟩,by simp at hlim ⊢;omega,.inr ⟨l,cap,sp1,by simp;omega,e2,e1⟩⟩ (fun k hkl=>e3 k (by simpa[labs] using hkl)) e4 e5 rfl
    have happ:appHdr h 1 (.mrow l 0 i cap)=some (i,cap,(xs.take i).flatten,some (l,0)):=by
     have:=row_cells (off:=0) (k:=i) (cap:=cap) hall hb (by omega)
     simp only[Nat.zero_mul,List.drop_zero] at this
     simp only[appHdr,this]
    have hmul:∀ a b:Nat,a≤b→a * 1≤b * 1:=fun a b h=>by omega
    have hxt:(xs.drop j).take (xs.length - j)=xs.drop j:=List.take_of_length_le (by simp)
    generalize hm:i+(xs.length - j)=m at *
    have hm2:m≤xs.length:=by omega
    have hm3:m < xs.length:=by omega
    have hm4:m < cap:=by omega
    have hyl:(xs.take i++xs.drop j).length=m:=by simp;omega
    have hya:AllC 1 (xs.take i++xs.drop j):=AllC.append.2 ⟨hall.take,hall.drop⟩
    have hzl:∀ k:Nat,(List.replicate k [C.nil]).flatten.length=k * 1:=fun k=>by simp[List.length_flatten]
    by_cases hjc2:j < cap
    ·simp[hjc2]
     refine appK_row ty_el52 happ (by have:=row_cells (off:=j) (k:=xs.length - j) (cap:=cap - j) hall hb (by omega);rw[hxt] at this;first | exact this | simpa using this) (m:=xs.length - j) rfl (by simp) (by decide) (by decide) (by simp at hlim ⊢;omega) ?_ ?_ (fun h0=>?_) (fun h0 hle=>?_) (fun h0 hgt=>?_)
     ·rw[hall.drop.flatten];simp
     ·rw[hall.take.flatten];simp;omega
     ·have hj2:xs.drop j=[]:=List.drop_eq_nil_of_le (by omega)
      obtain rfl:i=m:=by omega
      have hb2:∃ sp1,h.box l=some (rowBox (xs.take i++xs.drop j) sp1)∧(rowBox (xs.take i++xs.drop j) sp1).length=cap * 1:=by
       refine⟨(xs.drop i).flatten++sp,?_,?_⟩
       ·rw[hb,hj2];simp[rowBox,← List.append_assoc,← List.flatten_append]
       ·rw[← hcap,hj2];simp[rowBox,← List.append_assoc,← List.flatten_append]
      obtain⟨sp1,hb2,hl2⟩:=hb2
      simp[hjc2,hlen,hm2,hm3,hm4]
      refine clearK_row ty_el52 ty_ze79 hb2 (by decide) (by rw[hl2];omega) ?_
      simp
      have e2:∀ vs,setCells (rowBox (xs.take i++xs.drop j) sp1) (i * 1) vs=rowBox (xs.take i++xs.drop j) (setCells sp1 0 vs):=fun vs=>by have:=row_tail (sp:=sp1) (vs:=vs) hya;rw[hyl] at this;exact this
      try simp only[Nat.mul_one] at e2
      rw[e2]
      refine fin _ _ ?_ (by simp;rfl) (fun k hk=>by simp[hk]) (by simp) (by simp[HS.setBox])
      rw[rowBox_length hya,setCells_length (by rw[rowBox_length hya,hyl] at hl2;first | (rw[hzl];omega) | (simp only[List.length_replicate];omega)),← rowBox_length (sp:=sp1) hya,hl2]
     ·rintro l' off he'
      simp only[Option.some.injEq,Prod.mk.injEq] at he'
      obtain⟨rfl,rfl⟩:=he'
      refine⟨_,hb,by rw[hcap];omega,?_⟩
      rw[Nat.zero_add,row_put hall hall.drop hi,hm]
      have hl2:(rowBox (xs.take i++xs.drop j) (List.drop ((i+(xs.drop j).length) * 1) (rowBox xs sp))).length=cap * 1:=by
       rw[rowBox_length hya,hyl,List.length_drop,hcap,List.length_drop];omega
      generalize List.drop ((i+(xs.drop j).length) * 1) (rowBox xs sp)=sp1 at *
      simp[hjc2,hlen,hm2,hm3,hm4]
      refine clearK_row ty_el52 ty_ze79 (by simp;rfl) (by decide) (by rw[hl2];omega) ?_
      simp
      have e2:∀ vs,setCells (rowBox (xs.take i++xs.drop j) sp1) (m * 1) vs=rowBox (xs.take i++xs.drop j) (setCells sp1 0 vs):=fun vs=>by have:=row_tail (sp:=sp1) (vs:=vs) hya;rw[hyl] at this;exact this
      try simp only[Nat.mul_one] at e2
      rw[e2]
      refine fin _ _ ?_ (by simp;rfl) (fun k hk=>by simp[hk]) (by simp) (by simp[HS.setBox])
      rw[rowBox_length hya,setCells_length (by rw[rowBox_length hya,hyl] at hl2;first | (rw[hzl];omega) | (simp only[List.length_replicate];omega)),← rowBox_length (sp:=sp1) hya,hl2]
     ·omega
    ·simp[hjc2]
     have hj2:xs.drop j=[]:=List.drop_eq_nil_of_le (by omega)
     refine appK_row ty_el52 happ (new:=[]) (m:=0) (by simp[rowCells]) rfl (by simp) (by decide) (by decide) (by simp at hlim ⊢;omega) rfl ?_ (fun h0=>?_) (fun h0=>absurd h0 (by omega)) (fun h0=>absurd h0 (by omega))
     ·rw[hall.take.flatten];simp;omega
     ·obtain rfl:i=m:=by omega
      have hb2:∃ sp1,h.box l=some (rowBox (xs.take i++xs.drop j) sp1)∧(rowBox (xs.take i++xs.drop j) sp1).length=cap * 1:=by
       refine⟨(xs.drop i).flatten++sp,?_,?_⟩
       ·rw[hb,hj2];simp[rowBox,← List.append_assoc,← List.flatten_append]
       ·rw[← hcap,hj2];simp[rowBox,← List.append_assoc,← List.flatten_append]
      obtain⟨sp1,hb2,hl2⟩:=hb2
      simp[hjc2,hlen,hm2,hm3,hm4]
      refine clearK_row ty_el52 ty_ze79 hb2 (by decide) (by rw[hl2];omega) ?_
      simp
      have e2:∀ vs,setCells (rowBox (xs.take i++xs.drop j) sp1) (i * 1) vs=rowBox (xs.take i++xs.drop j) (setCells sp1 0 vs):=fun vs=>by have:=row_tail (sp:=sp1) (vs:=vs) hya;rw[hyl] at this;exact this
      try simp only[Nat.mul_one] at e2
      rw[e2]
      refine fin _ _ ?_ (by simp;rfl) (fun k hk=>by simp[hk]) (by simp) (by simp[HS.setBox])
      rw[rowBox_length hya,setCells_length (by rw[rowBox_length hya,hyl] at hl2;first | (rw[hzl];omega) | (simp only[List.length_replicate];omega)),← rowBox_length (sp:=sp1) hya,hl2]
end Go.Proofs.YthgepknlibmjcaaGreat
end
section
namespace Go.Proofs.YthgepknlibmjcaaGreat
open Go.Am
def m_slices_Clone_Value (s_:List GV):Option (List GV):=some s_
theorem c_slices_Clone_Value (s_:List GV) (r:List GV) (hm:Is (m_slices_Clone_Value s_) r):PSpec Tryz.prog 73 [.one (.d (.sl (s_.map GV.enc)))] (.one (.fresh 0 3 (r.map GV.enc))):=by
 obtain rfl:=r_ret hm
 refine bound1 ⟨_,Tryz.func73,by kernel_rfl,by kernel_rfl⟩ (fun hl=>?_)
 have hxs:∀ x ∈ s_.map GV.enc,x.length=3:=by
  intro x hx
  obtain⟨y,_,rfl⟩:=List.mem_map.1 hx
  rfl
 generalize s_.map GV.enc=xs at *
 refine PSpec.of_vc Tryz.func73 rfl (by kernel_rfl) (n:=8) rfl rfl (by simp) ?_
 simp
 refine nilK_list ty_el79 rfl (xs:=xs) rfl (fun b hb=>?_)
 cases b with
 | true=>
   have:xs=[]:=Classical.byContradiction fun h=>by simpa using hb h
   subst this
   simp
   exact ret_growsV (by simpa using GrowsV.nil)
 | false=>
   simp
   refine emptyK_own (by simp) ?_
   simp
   refine appK_of ty_el79 (Grows.own (by simp) (by simp) (by simp)) rfl (by decide) (by decide) hxs (by simpa using hl) ?_
   simp
   exact ret_growsV (by simpa using GrowsV.app (by simp) (by simp) hxs rfl)
def m_relation_Clone (rows:List (List GV)):Option ((List (List GV))):=
 (forK (fun (i2:Nat) (x2:List GV) (s2:(List (List GV))) next_2=>(bindK (m_slices_Clone_Value x2) fun v3=>(appK2 s2 [v3] fun _=>(next_2 (s2++[v3]))))) (fun (s2:(List (List GV)))=>(some s2)) rows 0 [])
theorem c_relation_Clone (rows:List (List GV)) (r:(List (List GV))) (hm:Is (m_relation_Clone rows) r):PSpec Tryz.prog 113 [.one (.d (.sl (rows.map (encL GV.enc))))] (.one (.d (.sl (r.map (encL GV.enc))))):=by
 unfold m_relation_Clone at hm
 refine PSpec.of_vc Tryz.func113 rfl (by kernel_rfl) (n:=19) rfl rfl (by simp) ?_
 try simp[*]
 intro hl1
 replace hl1:rows.length≤2097152:=by simpa using hl1
 refine Wait.for (xs:=rows) (s0:=[]) (fun i2 s2 e2 h2=>∃ c2_0:C,e2.n=19∧e2.get 3=.one c2_0∧e2.get 6=.one (.d (.sl (rows.map (encL GV.enc))))∧e2.get 7=.one (.d (.int .i64 (rows.length:Int)))∧e2.get 8=.one (.d (.int .i64 (i2:Int)))∧Grows h2 1 c2_0 (s2.map (encL GV.enc))) hm ⟨.nil,by simp (maxDischargeDepth:=20) [*]⟩ ?_ ?_
 ·rintro i2 s2 e2 h2 ⟨c2_0,hn2,h2_3,h2_6,h2_7,h2_8,gc2_0⟩ hlt2 hm
  have hlc2_0:=gc2_0.list
  have hdc2_0:=gc2_0.toD
  have hac2_0:=gc2_0.toA
  have huc2_0:=gc2_0.useUp_arr
  have hw2:IntKind.i64.wrap ((i2:Int)+1)=(i2:Int)+1:=IntWalk.i64_in _ (by omega)
  try simp[*]
  refine r_call (av:=[.one (.d (.sl ((rows[i2]).map GV.enc)))]) hm (fun v hv=>c_slices_Clone_Value _ v hv) (by simp[*]) ?_
  clear hm;intro v3 hvv3 hm
  try simp[*]
  refine r_app (xs:=s2) (ys:=[v3]) (enc:=(encL GV.enc)) hm ty_el52 (by first | exact Grows.nil | (simp (maxDischargeDepth:=20) [*];done) | (simp (maxDischargeDepth:=20) [*];refine⟨?_,by omega⟩;intro hq;subst hq;simp at hz2<;>omega)) (by simp[*]) (by decide) (by decide) (fun _=>rfl) ?_
  clear hm;intro hl5 hm g4
  try simp[*]
  exact BackF.of (s2++[v3]) ⟨⟨.own (h2.ep+2,256) ((s2++[v3]).map (encL GV.enc)),by simp (maxDischargeDepth:=20) [*]⟩,hm⟩
 ·rintro s2 e2 h2 ⟨c2_0,hn2,h2_3,h2_6,h2_7,h2_8,gc2_0⟩ hm
  have hlc2_0:=gc2_0.list
  have hdc2_0:=gc2_0.toD
  have hac2_0:=gc2_0.toA
  have huc2_0:=gc2_0.useUp_arr
  try simp[*]
  obtain rfl:=r_ret hm
  exact ret0 (vs:=[_]) (by simp[*];try exact rfl) (by simp[*])
def m_instance_Clone (inst:List Rel):Option ((List Rel)):=
 (forK (fun (i2:Nat) (x2:Rel) (s2:(List Rel)) next_2=>(bindK (m_relation_Clone x2.rows) fun v4=>(appK2 s2 [(Rel.mk x2.table v4)] fun _=>(next_2 (s2++[(Rel.mk x2.table v4)]))))) (fun (s2:(List Rel))=>(some s2)) inst 0 [])
theorem c_instance_Clone (inst:List Rel) (r:(List Rel)) (hm:Is (m_instance_Clone inst) r):PSpec Tryz.prog 71 [.one (.d (.sl (inst.map Rel.enc)))] (.one (.d (.sl (r.map Rel.enc)))):=by
 unfold m_instance_Clone at hm
 refine PSpec.of_vc Tryz.func71 rfl (by kernel_rfl) (n:=23) rfl rfl (by simp) ?_
 try simp[*]
 intro hl1
 replace hl1:inst.length≤2097152:=by simpa using hl1
 refine Wait.for (xs:=inst) (s0:=[]) (fun i2 s2 e2 h2=>∃ c2_0:C,e2.n=23∧e2.get 3=.one c2_0∧e2.get 6=.one (.d (.sl (inst.map Rel.enc)))∧e2.get 7=.one (.d (.int .i64 (inst.length:Int)))∧e2.get 8=.one (.d (.int .i64 (i2:Int)))∧Grows h2 2 c2_0 (s2.map Rel.enc)) hm ⟨.nil,by simp (maxDischargeDepth:=20) [*]⟩ ?_ ?_
 ·rintro i2 s2 e2 h2 ⟨c2_0,hn2,h2_3,h2_6,h2_7,h2_8,gc2_0⟩ hlt2 hm
  have hlc2_0:=gc2_0.list
  have hdc2_0:=gc2_0.toD
  have hac2_0:=gc2_0.toA
  have huc2_0:=gc2_0.useUp_arr
  have hw2:IntKind.i64.wrap ((i2:Int)+1)=(i2:Int)+1:=IntWalk.i64_in _ (by omega)
  try simp[*]
  refine Wait.of (SWP.draw (Plan.then_ [0,1,2,3,4,5,6,7,8,9] .done) follows (by kernel_rfl) ?_)
  try simp[*,Plan.then_,vcPlan,planOps,isCallAt,callKind]
  refine r_call (av:=[.one (.d (.sl ((inst[i2].rows).map (encL GV.enc))))]) hm (fun v hv=>c_relation_Clone _ v hv) (by simp[*]) ?_
  clear hm;intro v4 hvv4 hm
  try simp[*,Plan.then_,vcPlan,planOps,isCallAt,callKind]
  try refine⟨fun (_:Lab) (_:List C) hl=>hl,?_⟩
  refine r_app (xs:=s2) (ys:=[(Rel.mk inst[i2].table v4)]) (enc:=Rel.enc) hm ty_el45 (by first | exact Grows.nil | (simp (maxDischargeDepth:=20) [*];done) | (simp (maxDischargeDepth:=20) [*];refine⟨?_,by omega⟩;intro hq;subst hq;simp at hz2<;>omega)) (by simp[*]) (by decide) (by decide) (fun _=>rfl) ?_
  clear hm;intro hl6 hm g5
  try simp[*,Plan.then_,vcPlan,planOps,isCallAt,callKind]
  exact BackF.of (s2++[(Rel.mk inst[i2].table v4)]) ⟨⟨.own (h2.ep+3,320) ((s2++[(Rel.mk inst[i2].table v4)]).map Rel.enc),by simp (maxDischargeDepth:=20) [*]⟩,hm⟩
 ·rintro s2 e2 h2 ⟨c2_0,hn2,h2_3,h2_6,h2_7,h2_8,gc2_0⟩ hm
  have hlc2_0:=gc2_0.list
  have hdc2_0:=gc2_0.toD
  have hac2_0:=gc2_0.toA
  have huc2_0:=gc2_0.useUp_arr
  try simp[*]
  obtain rfl:=r_ret hm
  exact ret0 (vs:=[_]) (by simp[*];try exact rfl) (by simp[*])
def m_stemkeep1_shows (visible:List GV) (row:List GV) (columns:List Int):Option Bool:=
 (forK (fun (i2:Nat) (x2:Int) (s2:Unit) next_2=>(bif decide (visible.length≤i2) then (some false) else (getK visible (i2:Int) fun x5=>(getK row x2 fun x6=>(bif (!(x5.kind == x6.kind) || (!(x5.int == x6.int) || (!(x5.text == x6.text)))) then (some false) else (next_2 ())))))) (fun (s2:Unit)=>(some ((visible.length:Int) == (columns.length:Int)))) columns 0 ())
theorem c_stemkeep1_shows (visible:List GV) (row:List GV) (columns:List Int) (r:Bool) (hm:Is (m_stemkeep1_shows visible row columns) r):PSpec Tryz.prog 39 [.one (.d (.sl (visible.map GV.enc))),.one (.d (.sl (row.map GV.enc))),.one (.d (.sl (columns.map encI)))] (.one (.d (.bool r))):=by
 unfold m_stemkeep1_shows at hm
 refine PSpec.of_vc Tryz.func39 rfl (by kernel_rfl) (n:=37) rfl rfl (by simp) ?_
 try simp[*]
 intro hl1
 replace hl1:columns.length≤2097152:=by simpa using hl1
 refine Wait.for (xs:=columns) (s0:=()) (fun i2 s2 e2 h2=>e2.n=37∧e2.get 0=.one (.d (.sl (visible.map GV.enc)))∧e2.get 1=.one (.d (.sl (row.map GV.enc)))∧e2.get 2=.one (.d (.sl (columns.map encI)))∧e2.get 9=.one (.d (.sl (columns.map encI)))∧e2.get 10=.one (.d (.int .i64 (columns.length:Int)))∧e2.get 11=.one (.d (.int .i64 (i2:Int)))) hm (by simp[*]) ?_ ?_
 ·rintro i2 s2 e2 h2 ⟨hn2,h2_0,h2_1,h2_2,h2_9,h2_10,h2_11⟩ hlt2 hm
  have hw2:IntKind.i64.wrap ((i2:Int)+1)=(i2:Int)+1:=IntWalk.i64_in _ (by omega)
  try simp[*]
  refine Wait.of (SWP.draw (Plan.then_ [0,1,2,3,4,5,6,7,8,9,10,11,12,13,14] .done) follows (by kernel_rfl) ?_)
  try simp[*,Plan.then_,vcPlan,planOps,isCallAt,callKind]
  intro hl3
  replace hl3:visible.length≤2097152:=by simpa using hl3
  refine r_guardF hm ?_ ?_<;>clear hm<;>intro hc4 hm
  ·try simp[*,Plan.then_,vcPlan,planOps,isCallAt,callKind]
   obtain rfl:=r_ret hm
   exact ret0 (vs:=[_]) (by simp[*];try exact rfl) (by simp[*])
  ·try simp[*,Plan.then_,vcPlan,planOps,isCallAt,callKind]
   replace hm:=hm.getN
   obtain⟨x5,hxx5,hm⟩:=hm
   try simp[*,Plan.then_,vcPlan,planOps,isCallAt,callKind]
   replace hm:=hm.get
   obtain⟨x6,h0x6,hxx6,hm⟩:=hm
   try simp[*,Plan.then_,vcPlan,planOps,isCallAt,callKind]
   refine r_cond hm ?_ ?_<;>clear hm<;>intro hc7 hm
   ·try simp[*]
    obtain rfl:=r_ret hm
    exact ret0 (vs:=[_]) (by simp[*];try exact rfl) (by simp[*])
   ·try simp[*]
    exact BackF.of () ⟨(by simp[*]),hm⟩
 ·rintro s2 e2 h2 ⟨hn2,h2_0,h2_1,h2_2,h2_9,h2_10,h2_11⟩ hm
  try simp[*]
  intro hl8
  replace hl8:visible.length≤2097152:=by simpa using hl8
  obtain rfl:=r_ret hm
  exact ret0 (vs:=[_]) (by simp[*];try exact rfl) (by simp[*])
def m_stemkeep1_disturb_1 (r_:List GV) (k0:List GV) (k1:List Int):Option Bool:=
 (bindK (m_stemkeep1_shows r_ k0 k1) fun v1=>(some v1))
theorem c_stemkeep1_disturb_1 (r_:List GV) (k0:List GV) (k1:List Int) (r:Bool) (hm:Is (m_stemkeep1_disturb_1 r_ k0 k1) r):PSpec Tryz.prog 72 [.one (.d (.sl (r_.map GV.enc))),.one (.rp [.sl (k0.map GV.enc)]),.one (.rp [.sl (k1.map encI)])] (.one (.d (.bool r))):=by
 unfold m_stemkeep1_disturb_1 at hm
 refine PSpec.of_vc Tryz.func72 rfl (by kernel_rfl) (n:=9) rfl rfl (by simp) ?_
 try simp[*]
 refine r_call (av:=[.one (.d (.sl (r_.map GV.enc))),.one (.d (.sl (k0.map GV.enc))),.one (.d (.sl (k1.map encI)))]) hm (fun v hv=>c_stemkeep1_shows _ _ _ v hv) (by simp[*]) ?_
 clear hm;intro v1 hvv1 hm
 try simp[*]
 obtain rfl:=r_ret hm
 exact ret0 (vs:=[_]) (by simp[*];try exact rfl) (by simp[*])
def m_slices_IndexFunc_Row (s_:List (List GV)) (f:(List GV)→Option Bool):Option Int:=
 (forK (fun (i2:Nat) (x2:List GV) (s2:Unit) next_2=>(bindK (f x2) fun v3=>(bif v3 then (some (i2:Int)) else (next_2 ())))) (fun (s2:Unit)=>(some (-1))) s_ 0 ())
theorem c_slices_IndexFunc_Row (s_:List (List GV)) (g:FuncId) (caps:List (List D)) (f:(List GV)→Option Bool) (hf:∀ xa v,Is (f xa) v→PSpec Tryz.prog g (.one (.d (.sl (xa.map GV.enc)))::capsOf caps) (.one (.d (.bool v)))) (r:Int) (hm:Is (m_slices_IndexFunc_Row s_ f) r):PSpec Tryz.prog 79 [.one (.d (.sl (s_.map (encL GV.enc)))),.one (.fn g caps)] (.one (.d (.int .i64 r))):=by
 unfold m_slices_IndexFunc_Row at hm
 refine PSpec.of_vc Tryz.func79 rfl (by kernel_rfl) (n:=19) rfl rfl (by simp) ?_
 try simp[*]
 intro hl1
 replace hl1:s_.length≤2097152:=by simpa using hl1
 refine Wait.for (xs:=s_) (s0:=()) (fun i2 s2 e2 h2=>e2.n=19∧e2.get 0=.one (.d (.sl (s_.map (encL GV.enc))))∧e2.get 1=.one (.fn g (caps.map Cap.rp))∧e2.get 7=.one (.d (.int .i64 (s_.length:Int)))∧e2.get 8=.one (.d (.int .i64 (i2:Int)))) hm (by simp[*]) ?_ ?_
 ·rintro i2 s2 e2 h2 ⟨hn2,h2_0,h2_1,h2_7,h2_8⟩ hlt2 hm
  have hw2:IntKind.i64.wrap ((i2:Int)+1)=(i2:Int)+1:=IntWalk.i64_in _ (by omega)
  try simp[*]
  refine r_callC (av:=[.one (.d (.sl ((s_[i2]).map GV.enc)))]) (cs:=caps) hm (fun v hv=>hf _ v hv) (by simp[*]) (by simp[*]) ?_
  clear hm;intro v3 hvv3 hm
  try simp[*]
  refine r_cond hm ?_ ?_<;>clear hm<;>intro hc4 hm
  ·try simp[*]
   obtain rfl:=r_ret hm
   exact ret0 (vs:=[_]) (by simp[*];try exact rfl) (by simp[*])
  ·try simp[*]
   exact BackF.of () ⟨(by simp[*]),hm⟩
 ·rintro s2 e2 h2 ⟨hn2,h2_0,h2_1,h2_7,h2_8⟩ hm
  try simp[*]
  obtain rfl:=r_ret hm
  exact ret0 (vs:=[_]) (by simp[*];try exact rfl) (by simp[*])
def m_slices_ContainsFunc_Row (s_:List (List GV)) (f:(List GV)→Option Bool):Option Bool:=
 (bindK (m_slices_IndexFunc_Row s_ f) fun v1=>(some (decide (0≤v1))))
theorem c_slices_ContainsFunc_Row (s_:List (List GV)) (g:FuncId) (caps:List (List D)) (f:(List GV)→Option Bool) (hf:∀ xa v,Is (f xa) v→PSpec Tryz.prog g (.one (.d (.sl (xa.map GV.enc)))::capsOf caps) (.one (.d (.bool v)))) (r:Bool) (hm:Is (m_slices_ContainsFunc_Row s_ f) r):PSpec Tryz.prog 31 [.one (.d (.sl (s_.map (encL GV.enc)))),.one (.fn g caps)] (.one (.d (.bool r))):=by
 unfold m_slices_ContainsFunc_Row at hm
 refine PSpec.of_vc Tryz.func31 rfl (by kernel_rfl) (n:=9) rfl rfl (by simp) ?_
 try simp[*]
 refine r_call (av:=[.one (.d (.sl (s_.map (encL GV.enc)))),.one (.fn g caps)]) hm (fun v hv=>c_slices_IndexFunc_Row _ g caps _ hf v hv) (by simp[*]) ?_
 clear hm;intro v1 hvv1 hm
 try simp[*]
 obtain rfl:=r_ret hm
 exact ret0 (vs:=[_]) (by simp[*];try exact rfl) (by simp[*])
end Go.Proofs.YthgepknlibmjcaaGreat
end
section
namespace Go.Proofs.YthgepknlibmjcaaGreat
open Go Go.Am
def FZ (h:HS) (c:C) (x:D) (ls:List Lab):Prop:=∀ h',(∀ l ∈ ls,h'.box l=h.box l)→Frz h' c x
theorem FZ.data {h:HS} {c:C} {x:D} (hx:c.toD=some x):FZ h c x []:=fun _ _=>.data hx
theorem FZ.frz {h:HS} {c:C} {x:D} {ls:List Lab} (f:FZ h c x ls):Frz h c x:=f h fun _ _=>rfl
theorem FZ.frame {h h':HS} {c:C} {x:D} {ls:List Lab} (f:FZ h c x ls) (hb:∀ l ∈ ls,h'.box l=h.box l):FZ h' c x ls:=fun h2 h2b=>f h2 fun l hl=>(h2b l hl).trans (hb l hl)
def FZs (h:HS) (cs:List C) (ds:List D) (ls:List Lab):Prop:=∀ h',(∀ l ∈ ls,h'.box l=h.box l)→FrzCs h' cs ds
theorem FZs.frame {h h':HS} {cs:List C} {ds:List D} {ls:List Lab} (f:FZs h cs ds ls) (hb:∀ l ∈ ls,h'.box l=h.box l):FZs h' cs ds ls:=fun h2 h2b=>f h2 fun l hl=>(h2b l hl).trans (hb l hl)
abbrev NQ:=List C × List D × List Lab
structure NR (h:HS) (n:Nat) (c:C) (qs:List NQ):Prop where
 mr:MR h n c (qs.map (·.1))
 el:∀ q ∈ qs,FZs h q.1 q.2.1 q.2.2∧q.2.1.length=n
 lt:∀ q ∈ qs,∀ k ∈ q.2.2,k.1 < h.ep∧k ∉ labs c
 lc:∀ k ∈ labs c,k.1 < h.ep
theorem NR.nil {h:HS} {n:Nat}:NR h n .nil []:=⟨MR.nil,by simp,by simp,by simp[labs]⟩
theorem NR.frame {h h':HS} {n:Nat} {c:C} {qs:List NQ} {lx:List Lab} (r:NR h n c qs) (hs:Same h h' lx) (hc:∀ k ∈ labs c,k ∉ lx) (hq:∀ q ∈ qs,∀ k ∈ q.2.2,k ∉ lx):NR h' n c qs:=
 ⟨r.mr.frame fun l hl=>hs.2 l (r.lc l hl) (hc l hl),fun q hqm=>⟨(r.el q hqm).1.frame fun l hl=>hs.2 l (r.lt q hqm l hl).1 (hq q hqm l hl),(r.el q hqm).2⟩,fun q hqm k hk=>⟨Nat.lt_of_lt_of_le (r.lt q hqm k hk).1 hs.1,(r.lt q hqm k hk).2⟩,fun k hk=>Nat.lt_of_lt_of_le (r.lc k hk) hs.1⟩
theorem NR.new {h h':HS} {n:Nat} {c:C} {qs:List NQ} (r:NR h n c qs) (hs:Same h h' []):NR h' n c qs:=r.frame hs (by simp) (by simp)
theorem NR.fz {h:HS} {n:Nat} {c:C} {qs:List NQ} (r:NR h n c qs):FZ h c (.sl (qs.map (·.2.1))) (labs c++qs.flatMap (·.2.2)):=by
 intro h' hb
 have hm:MR h' n c (qs.map (·.1)):=r.mr.frame fun l hl=>hb l (by simp[hl])
 refine hm.frz (by simp) (fun t ht=>?_) (fun i x t hx ht=>?_)
 ·obtain⟨q,hq,rfl⟩:=List.mem_map.1 ht
  exact (r.el q hq).2
 ·rw[List.getElem?_map] at hx ht
  cases hq:qs[i]? with
  | none=>rw[hq] at hx;cases hx
  | some q=>
    rw[hq] at hx ht
    cases hx
    cases ht
    have hqm:=List.mem_of_getElem? hq
    exact (r.el q hqm).1 h' fun l hl=>hb l (List.mem_append_right _ (List.mem_flatMap.2 ⟨q,hqm,hl⟩))
theorem NR.at {h:HS} {n:Nat} {c:C} {qs:List NQ} (r:NR h n c qs) {k:Nat} {q:NQ} (hq:qs[k]?=some q):∃ l cap sp,c=.mrow l 0 qs.length cap∧h.box l=some (rowBox (qs.map (·.1)) sp)∧(rowBox (qs.map (·.1)) sp).length=cap * n:=by
 have hk:=(List.getElem?_eq_some_iff.1 hq).1
 obtain⟨l,cap,sp,h1,h2,h3⟩:=r.mr.block (by simp;omega)
 exact⟨l,cap,sp,by simpa using h1,h2,h3⟩
theorem NR.put {h:HS} {n:Nat} {l:Lab} {cap:Nat} {qs:List NQ} {sp:List C} (r:NR h n (.mrow l 0 qs.length cap) qs) (hb:h.box l=some (rowBox (qs.map (·.1)) sp)) (hcap:(rowBox (qs.map (·.1)) sp).length=cap * n) {k:Nat} (hk:k < qs.length) {q:NQ} (hn:q.1.length=n) (hd:q.2.1.length=n)
  (hf:FZs (h.setBox l (rowBox ((qs.set k q).map (·.1)) sp)) q.1 q.2.1 q.2.2) (hl:∀ j ∈ q.2.2,j.1 < h.ep∧j≠l):NR (h.setBox l (rowBox ((qs.set k q).map (·.1)) sp)) n (.mrow l 0 (qs.set k q).length cap) (qs.set k q):=by
 have ha:AllC n ((qs.set k q).map (·.1)):=by rw[List.map_set];exact r.mr.1.set hn
 refine⟨⟨ha,by simpa using r.mr.2.1,.inr ⟨l,cap,sp,by simp,by simp,?_⟩⟩,fun p hp=>?_,fun p hp j hj=>?_,fun j hj=>by simpa using r.lc j (by simpa[labs] using hj)⟩
 ·rw[rowBox_length ha,List.length_map,List.length_set,← hcap,rowBox_length r.mr.1,List.length_map]
 ·rcases List.mem_or_eq_of_mem_set hp with h1 | rfl
  ·refine⟨(r.el p h1).1.frame fun j hj=>?_,(r.el p h1).2⟩
   have:=(r.lt p h1 j hj).2
   simp only[labs,List.mem_singleton] at this
   simp[this]
  ·exact⟨hf,hd⟩
 ·rcases List.mem_or_eq_of_mem_set hp with h1 | rfl
  ·simpa[labs] using r.lt p h1 j hj
  ·simpa[labs] using hl j hj
theorem NR.app {P:Program} {ty el:TypeId} {n by_ d:Nat} {h:HS} {c x:C} {qs:List NQ} {q:NQ} {K:V→HS→Prop} (hel:elT P ty=some (el,n,by_)) (hz:(zeT P el).isSome=true) (h0:0 < n) (hb:by_≤4096) (r:NR h n c qs) (hr:RowAt h n x [q.1]) (hl:qs.length+1≤LIM) (hn:q.2.1.length=n)
  (hf:FZs h q.1 q.2.1 q.2.2) (hq:∀ k ∈ q.2.2,k.1 < h.ep∧k ∉ labs c)
  (hk:∀ c' h',NR h' n c' (qs++[q])→Same h h' (labs c)→(∀ k ∈ labs c',k ∈ labs c∨(h.ep≤k.1∧k.1 < h'.ep))→K (.one c') h'):appK P ty c x d h (K:=⟨K⟩):=by
 refine app_mr hel hz h0 hb r.mr hr (by simpa using hl) fun c' h' hm hs hlab=>?_
 refine hk c' h' ⟨by simpa using hm,fun p hp=>?_,fun p hp k hk'=>?_,fun k hk'=>?_⟩ hs hlab
 ·rcases List.mem_append.1 hp with h1 | h1
  ·exact⟨(r.el p h1).1.frame fun l hl=>hs.2 l (r.lt p h1 l hl).1 (r.lt p h1 l hl).2,(r.el p h1).2⟩
  ·rw[List.mem_singleton.1 h1]
   exact⟨hf.frame fun l hl=>hs.2 l (hq l hl).1 (hq l hl).2,hn⟩
 ·have hkk:k.1 < h.ep∧k ∉ labs c:=by
   rcases List.mem_append.1 hp with h1 | h1
   ·exact r.lt p h1 k hk'
   ·rw[List.mem_singleton.1 h1] at hk'
    exact hq k hk'
  refine⟨Nat.lt_of_lt_of_le hkk.1 hs.1,fun h9=>?_⟩
  rcases hlab k h9 with h8 | h8
  ·exact hkk.2 h8
  ·omega
 ·rcases hlab k hk' with h8 | h8
  ·exact Nat.lt_of_lt_of_le (r.lc k h8) hs.1
  ·exact h8.2
theorem lenK_mr {h:HS} {n:Nat} {c:C} {xs:List (List C)} {f:Nat→Prop} (m:MR h n c xs) (hk:f xs.length):lenK c (k:=⟨f⟩):=by
 rcases m.2.2 with ⟨rfl,rfl | rfl⟩ | ⟨l,cap,sp,rfl,_,_⟩
 ·simpa using hk
 ·simpa using hk
 ·simpa using hk
def relC (x:Rel):List C:=[.d (.str x.table),.d (.sl (x.rows.map (encL GV.enc)))]
theorem h_instance_Clone (h:HS) (inst out:List Rel) (hm:Is (m_instance_Clone inst) out) (K:V→HS→Prop)
  (hk:∀ c h' (qs:List NQ),NR h' 2 c qs→qs.map (·.2.1)=out.map Rel.enc→Same h h' []→(∀ k ∈ labs c++qs.flatMap (·.2.2),h.ep≤k.1)→K (.one c) h') :
  HSpec Tryz.prog 71 [.one (.d (.sl (inst.map Rel.enc)))] h K:=by
 unfold m_instance_Clone at hm
 refine HSpec.of_vc Tryz.func71 rfl (by kernel_rfl) (n:=23) rfl rfl (by simp) ?_
 simp
 intro hil
 refine Wait.for (xs:=inst) (s0:=[]) (fun i s e h'=>∃ c,e.n=23∧e.get 3=.one c∧e.get 6=.one (.d (.sl (inst.map Rel.enc)))∧e.get 7=.one (.d (.int .i64 (inst.length:Int)))∧e.get 8=.one (.d (.int .i64 (i:Int)))∧MR h' 2 c (s.map relC)∧Same h h' []∧∀ k ∈ labs c,h.ep≤k.1∧k.1 < h'.ep) hm ⟨.nil,by simp,by simp,by simp,by simp,by simp,by simpa using MR.nil,.refl,by simp[labs]⟩ ?_ ?_
 ·rintro i s e h' ⟨c,hn,h3,h6,h7,h8,hmr,hs,hl⟩ hlt hm
  have hw:IntKind.i64.wrap ((i:Int)+1)=(i:Int)+1:=IntWalk.i64_in _ (by omega)
  obtain⟨rows,hrows,hm⟩:=hm.bind
  obtain⟨hap,hm⟩:=hm.chk
  simp[*]
  refine Wait.cut (Plan.then_ [0,1,2,3,4,5,6,7,8,9] .done) follows (by kernel_rfl) (fun e1 h1=>∃ c2,e1.n=23∧e1.get 3=.one c2∧e1.get 6=.one (.d (.sl (inst.map Rel.enc)))∧e1.get 7=.one (.d (.int .i64 (inst.length:Int)))∧e1.get 8=.one (.d (.int .i64 (i:Int))) ∧
   MR h1 2 c2 ((s++[Rel.mk inst[i].table rows]).map relC)∧Same h h1 []∧∀ k ∈ labs c2,h.ep≤k.1∧k.1 < h1.ep) ?_ ?_
  ·simp[hn,h3,h6,h7,h8,Plan.then_,vcPlan,planOps,isCallAt,callKind]
   have hs1:Same h' ((h'.setBox (h'.ep,80) [C.d (D.str ByteArray.empty),C.nil]).next.setBox (h'.ep,80) [C.d (D.str inst[i].table),C.d (D.sl (List.map (encL GV.enc) inst[i].rows))]) []:=((Same.refl.setBox (.inr (by simp))).next).setBox (.inr (by simp))
   refine callK_fn (c_relation_Clone _ rows hrows) (by simp) ?_
   simp[hn,h3,h6,h7,h8,Plan.then_,vcPlan,planOps,isCallAt,callKind]
   have hs2:=((hs1.next.setArr (l:=(h'.ep+1+1,304)) (x:=some (1,2))).next)
   refine⟨fun _ _ x=>x,app_mr ty_el45 (by kernel_rfl) (by decide) (by decide) (hmr.frame fun l hl9=>hs2.2 l (hl l hl9).2 (by simp)) (RowAt.own1 rfl) (by simpa using hap) (fun c' h2 hm2 hs3 hl3=>?_)⟩
   simp[hn,h3,h6,h7,h8,Plan.then_,vcPlan,planOps,isCallAt,callKind]
   refine CutK.of ?_
   have hs4:Same h h2 []:=(hs.trans hs2).trans' hs3 fun k hk=>.inr (hl k hk).1
   refine⟨c',by simp[hn],by simp[hn],by simp[h6,hn],by simp[h7,hn],by simp[h8,hn],by simpa[relC] using hm2,hs4,fun k hk=>?_⟩
   rcases hl3 k hk with h9 | h9
   ·have:=hl k h9
    have:=hs3.1
    simp at this
    omega
   ·have:=hs.1
    simp at h9
    omega
  ·rintro e1 h1 ⟨c2,hn,h3,h6,h7,h8,hmr,hs,hl⟩
   simp[hn,h3,h6,h7,h8,hw]
   exact BackF.of (s++[Rel.mk inst[i].table rows]) ⟨⟨c2,by simp[hn],by simp[h3],by simp[h6],by simp[h7],by simp,hmr,hs,hl⟩,hm⟩
 ·rintro s e h' ⟨c,hn,h3,h6,h7,h8,hmr,hs,hl⟩ hm
  obtain rfl:=r_ret hm
  simp[h3,h7,h8,hn]
  refine hk c h' (s.map fun x=>(relC x,x.enc,[])) ⟨by simpa[Function.comp_def] using hmr,fun q hq=>?_,fun q hq k hk=>?_,fun k hk=>(hl k hk).2⟩ (by simp[Function.comp_def]) hs (fun k hk=>?_)
  ·obtain⟨x,_,rfl⟩:=List.mem_map.1 hq
   exact⟨fun h2 _=>⟨.data rfl,.data rfl,trivial⟩,rfl⟩
  ·obtain⟨x,_,rfl⟩:=List.mem_map.1 hq
   cases hk
  ·rcases List.mem_append.1 hk with h9 | h9
   ·exact (hl k h9).1
   ·obtain⟨q,hq,h8⟩:=List.mem_flatMap.1 h9
    obtain⟨x,_,rfl⟩:=List.mem_map.1 hq
    cases h8
theorem set_labs {qs:List NQ} {i:Nat} {q:NQ} {c:C} {P:Lab→Prop} (h:∀ k ∈ labs c++qs.flatMap (·.2.2),P k) (h':∀ k ∈ q.2.2,P k):∀ k ∈ labs c++(qs.set i q).flatMap (·.2.2),P k:=by
 intro k hk
 rcases List.mem_append.1 hk with h1 | h1
 ·exact h k (List.mem_append_left _ h1)
 ·obtain⟨p,hp,h2⟩:=List.mem_flatMap.1 h1
  rcases List.mem_or_eq_of_mem_set hp with h3 | rfl
  ·exact h k (List.mem_append_right _ (List.mem_flatMap.2 ⟨p,h3,h2⟩))
  ·exact h' k h2
def nz (noise:Int):Int:=IntKind.i64.wrap (Int.tmod (IntKind.u64.wrap noise) 1000)
def m_blur {ρ:Type} (noise:Int) (cols:List Int) (row:List GV) (k:List GV→Option ρ):Option ρ:=
 countK (fun c (w:List GV) next=>bindK (m_slices_Contains_Int cols (c:Int)) fun b=>bif !b then (getK w (c:Int) fun x=>bif (x.kind == 1) then next (w.set c ⟨1,nz noise,ByteArray.empty⟩) else next w) else next w) k row.length 0 row
def m_keep {ρ:Type} (noise:Int) (rows:List (List GV)) (cols:List Int) (row:List GV) (kept:List (List GV)) (next:List (List GV)→Option ρ):Option ρ:=
 chkK (row.length≤2097152) (bindK (m_slices_ContainsFunc_Row rows (fun r=>m_stemkeep1_disturb_1 r row cols)) fun b=>bif !b then next kept else m_blur noise cols row fun row2=>appK2 kept [row2] fun _=>next (kept++[row2]))
def m_dist {ρ:Type} (g:Gr) (rules:List Rule) (user:ByteArray) (v:Int) (inst:List Rel) (noise:Int) (k:Nat) (t:Tbl) (out:List Rel) (next:List Rel→Option ρ):Option ρ:=
 bindK (m_access_Visible g rules user v inst t.name) fun q=>getK out (k:Int) fun o=>bif (q.2.2 != 0) then next (out.set k ⟨o.table,[]⟩) else
  getK inst (k:Int) fun x=>forK (fun (i:Nat) (row:List GV) (kept:List (List GV)) next2=>m_keep noise q.1 q.2.1 row kept next2) (fun kept=>next (out.set k ⟨o.table,kept⟩)) x.rows 0 []
def m_stemkeep1_disturb (g:Gr) (s:Sch) (rules:List Rule) (user:ByteArray) (v:Int) (inst:List Rel) (noise:Int):Option (List Rel):=
 bindK (m_instance_Clone inst) fun out0=>bif ((out0.length:Int) != s.tables.length) then some out0 else bif ((inst.length:Int) != s.tables.length) then some out0 else
 forK (fun (k:Nat) (t:Tbl) (out:List Rel) next=>m_dist g rules user v inst noise k t out next) (fun out=>some out) s.tables 0 out0
theorem c_stemkeep1_disturb (g:Gr) (s:Sch) (rules:List Rule) (user:ByteArray) (v:Int) (inst:List Rel) (noise:Int) (r:List Rel) (hm:Is (m_stemkeep1_disturb g s rules user v inst noise) r) :
  PSpec Tryz.prog 26 [.agg g.enc,.agg s.enc,.one (.d (.sl (rules.map Rule.enc))),.one (.d (.str user)),.one (.d (.int .i64 v)),.one (.d (.sl (inst.map Rel.enc))),.one (.d (.int .i64 noise))] (.one (.d (.sl (r.map Rel.enc)))):=by
 unfold m_stemkeep1_disturb at hm
 refine PSpec.of_heap ?_
 show HSpec _ _ [.agg (g.enc.map C.d),.agg (s.enc.map C.d),.one (.d (.sl (rules.map Rule.enc))),.one (.d (.str user)),.one (.d (.int .i64 v)),.one (.d (.sl (inst.map Rel.enc))),.one (.d (.int .i64 noise))] HS.init _
 refine HSpec.of_vc Tryz.func26 rfl (by kernel_rfl) (n:=122) rfl rfl (by simp) ?_
 obtain⟨out0,hout0,hm⟩:=hm.bind
 simp
 refine callK_heap (h_instance_Clone _ inst out0 hout0 _ (fun c h1 qs hr hq hs hl=>?_))
 have b0:=hs.2 (0,112) (by simp) (by simp)
 have b1:=hs.2 (1,128) (by simp) (by simp)
 have hep:=hs.1
 simp at b0 b1 hep
 have hl2:∀ k ∈ labs c++qs.flatMap (·.2.2),2≤k.1:=fun k hk=>by have:=hl k hk;simpa using this
 clear hl hs
 have hql:qs.length=out0.length:=by simpa using congrArg List.length hq
 simp
 refine lenK_mr hr.mr ?_
 simp[b0,b1,hql]
 intro htl
 have fin:∀ (h:HS) (c:C) (qs:List NQ) (out:List Rel),NR h 2 c qs→qs.map (·.2.1)=out.map Rel.enc→FrzFin h (.one c) (.one (.d (.sl (out.map Rel.enc)))):=fun h c qs out hr hq=>by
  rw[← hq]
  exact hr.fz.frz
 refine r_guardF hm ?_ ?_<;>clear hm<;>intro hc1 hm
 ·simp[b0,b1,hql,hc1]
  obtain rfl:=r_ret hm
  exact fin _ _ _ _ hr hq
 simp[b0,b1,hql,hc1]
 intro hil _
 refine r_cond hm ?_ ?_<;>clear hm<;>intro hc2 hm
 ·simp[b0,b1,hql,hc1,hc2]
  obtain rfl:=r_ret hm
  exact fin _ _ _ _ hr hq
 simp[b0,b1,hql,hc1,hc2]
 intro _
 refine Wait.for (xs:=s.tables) (s0:=out0) (fun i out e h=>∃ c qs,NR h 2 c qs∧qs.map (·.2.1)=out.map Rel.enc∧(∀ k ∈ labs c++qs.flatMap (·.2.2),2≤k.1)∧2≤h.ep∧h.box (0,112)=some (g.enc.map C.d)∧e.n=122 ∧
  e.get 2=.one (.d (.sl (rules.map Rule.enc)))∧e.get 3=.one (.d (.str user))∧e.get 4=.one (.d (.int .i64 v))∧e.get 5=.one (.d (.sl (inst.map Rel.enc)))∧e.get 6=.one (.d (.int .i64 noise))∧e.get 7=.one (.ptr (0,112) 0)∧e.get 15=.one c ∧
  e.get 43=.one (.d (.sl (s.tables.map Tbl.enc)))∧e.get 44=.one (.d (.int .i64 (s.tables.length:Int)))∧e.get 45=.one (.d (.int .i64 (i:Int)))) hm ?_ ?_ ?_
 ·exact⟨c,qs,hr,hq,hl2,by simpa using hep,by simp[b0],by simp,by simp,by simp,by simp,by simp,by simp,by simp,by simp,by simp,by simp,by simp⟩
 ·clear hm hc1 hc2 hr hq hl2 b0 b1 hep hql hout0 c qs h1
  rintro i out e h ⟨c,qs,hr,hq,hl,hep,b0,hn,h2,h3,h4,h5,h6,h7,h15,h43,h44,h45⟩ hlt hm
  have hw:IntKind.i64.wrap ((i:Int)+1)=(i:Int)+1:=IntWalk.i64_in _ (by omega)
  generalize hNx:(fun s'=>forK (fun k t out next=>m_dist g rules user v inst noise k t out next) (fun out=>some out) (List.drop (i+1) s.tables) (i+1) s')=nextN at hm
  have hback:∀ o',Is (nextN o') r→Is (forK (fun k t out next=>m_dist g rules user v inst noise k t out next) (fun out=>some out) (List.drop (i+1) s.tables) (i+1) o') r:=fun o' h'=>by rw[← hNx] at h';exact h'
  clear hNx
  unfold m_dist at hm
  obtain⟨q,hqv,hm⟩:=hm.bind
  obtain⟨rows,cols,ev⟩:=q
  obtain⟨o,ho,hm⟩:=hm.getN
  simp only at hm
  simp only[Gr.enc,List.map_cons,List.map_nil] at b0
  have hil2:i < out.length:=(List.getElem?_eq_some_iff.1 ho).1
  have hqo:qs.length=out.length:=by simpa using congrArg List.length hq
  obtain⟨qe,hqe⟩:∃ qe,qs[i]?=some qe:=⟨_,List.getElem?_eq_getElem (by omega)⟩
  have hqed:qe.2.1=o.enc:=by
   have h9:(qs.map (·.2.1))[i]?=(out.map Rel.enc)[i]?:=by rw[hq]
   rw[List.getElem?_map,List.getElem?_map,hqe,ho] at h9
   simpa using h9
  obtain⟨l,cap,sp,rfl,hb,hcap⟩:=hr.at hqe
  have hx2:(qs.map (·.1))[i]?=some qe.1:=by rw[List.getElem?_map,hqe];rfl
  have hx2l:=hr.mr.1.get hx2
  obtain⟨cr,hqc⟩:∃ cr,qe.1=[.d (.str o.table),cr]:=by
   have hf:=(hr.el qe (List.mem_of_getElem? hqe)).1 h fun _ _=>rfl
   rw[hqed] at hf
   match hc9:qe.1,hx2l,hf with
   | [a,b],_,hf=>
     have:=hf.1.flat rfl
     exact⟨b,by rw[this]⟩
  have hrl:=row_len (sp:=sp) hr.mr.1 (k:=i) (by simp;omega)
  have hset:∀ cn:C,setCells (rowBox (qs.map (·.1)) sp) (i * 2+1) [cn]=rowBox ((qs.map (·.1)).set i [.d (.str o.table),cn]) sp:=fun cn=>by
   rw[row_set hr.mr.1 hx2 (by simp),hqc]
   simp[setCells]
  have hiq:i < qs.length:=by omega
  have hll:=hr.lc l (by simp[labs])
  have hl2:=hl l (by simp[labs])
  have put:∀ (H:HS) (cn:C) (rws:List (List GV)) (ls:List Lab),NR H 2 (.mrow l 0 qs.length cap) qs→H.box l=some (rowBox (qs.map (·.1)) sp)→FZ H cn (.sl (rws.map (encL GV.enc))) ls→(∀ j ∈ ls,2≤j.1∧j.1 < H.ep∧j≠l) →
    ∃ qs',NR (H.setBox l (rowBox ((qs.map (·.1)).set i [.d (.str o.table),cn]) sp)) 2 (.mrow l 0 qs.length cap) qs'∧qs'.map (·.2.1)=(out.set i ⟨o.table,rws⟩).map Rel.enc∧∀ k ∈ labs (.mrow l 0 qs.length cap)++qs'.flatMap (·.2.2),2≤k.1:=by
   intro H cn rws ls hrH hbH hF hls
   have h9:=NR.put (q:=([.d (.str o.table),cn],(Rel.mk o.table rws).enc,ls)) hrH hbH hcap hiq rfl rfl (fun h2 h2b=>⟨.data rfl,hF h2 fun j hj=>(h2b j hj).trans (by simp[(hls j hj).2.2]),trivial⟩) (fun j hj=>(hls j hj).2)
   refine⟨qs.set i ([.d (.str o.table),cn],(Rel.mk o.table rws).enc,ls),by simpa[List.map_set] using h9,?_,set_labs hl fun k hk=>(hls k hk).1⟩
   rw[List.map_set,List.map_set,hq]
  have hne3:((0,112):Lab)≠l:=by rintro rfl;simp at hl2
  have hne1:l≠(h.ep,272):=by rintro rfl;simp at hll
  have hne2:l≠(h.ep+1+1,304):=by rintro rfl;simp at hll;omega
  simp[hn,h2,h3,h4,h5,h6,h7,h15,h43,h44,h45,b0,hlt]
  refine callK_fn (c_access_Visible g rules user v inst s.tables[i].name (rows,cols,ev) hqv) (by simp) ?_
  simp[hn,h2,h3,h4,h5,h6,h7,h15,h43,h44,h45,b0,hlt]
  refine r_cond hm ?_ ?_<;>clear hm<;>intro hc3 hm
  ·simp[hn,h2,h3,h4,h5,h6,h7,h15,h43,h44,h45,b0,hlt,hiq,hne1,hne2,hb]
   refine⟨by omega,?_⟩
   simp[hn,h2,h3,h4,h5,h6,h7,h15,h43,h44,h45,b0,hlt,hw]
   rw[hset]
   have hsH:Same h ((((h.setBox (h.ep,272) [.d (.str ByteArray.empty),.nil,.nil]).next.setBox (h.ep,272) [.d (.str s.tables[i].name),.d (.sl (s.tables[i].cols.map Col.enc)),.d (.sl (s.tables[i].pk.map encI))]).next.setBox (h.ep+1+1,304) [.nil]).next.setBox (h.ep+1+1,304) [.d (.sl (cols.map encI))]) []:=
    (((((Same.refl.setBox (.inr (by simp))).next.setBox (.inr (by simp))).next).setBox (.inr (by simp;omega))).next).setBox (.inr (by simp;omega))
   obtain⟨qs',hN,hmap,hlab⟩:=put _ .nil [] [] (hr.new hsH) (by rw[hsH.2 l hll (by simp)];exact hb) (.data rfl) (by simp)
   exact BackF.of (out.set i ⟨o.table,[]⟩) ⟨⟨_,qs',hN,hmap,hlab,by simp<;>omega,by simp[b0,hne3],by simp[hn],by simp[h2],by simp[h3],by simp[h4],by simp[h5],by simp[h6],by simp[h7],by simp[h15],by simp[h43],by simp[h44],by simp⟩,hback _ hm⟩
  ·obtain⟨x,hxi,hm⟩:=hm.getN
   have hii:i < inst.length:=(List.getElem?_eq_some_iff.1 hxi).1
   have hl19:∀ H:HS,Same h H []→H.box l=some (rowBox (qs.map (·.1)) sp):=fun H hs=>by rw[hs.2 l hll (by simp)];exact hb
   simp[hn,h2,h3,h4,h5,h6,h7,h15,h43,h44,h45,b0,hlt,hxi]
   intro hxl
   refine Wait.for (xs:=x.rows) (s0:=[]) (fun j kept e1 H=>∃ ck ks,NR H 1 ck ks∧ks.map (·.2.1)=kept.map (encL GV.enc)∧(∀ k ∈ labs ck++ks.flatMap (·.2.2),h.ep+3≤k.1)∧Same h H []∧h.ep+3≤H.ep∧H.box (h.ep+1+1,304)=some [.d (.sl (cols.map encI))]∧H.box (0,112)=some (g.enc.map C.d)∧e1.n=122 ∧
    e1.get 2=.one (.d (.sl (rules.map Rule.enc)))∧e1.get 3=.one (.d (.str user))∧e1.get 4=.one (.d (.int .i64 v))∧e1.get 5=.one (.d (.sl (inst.map Rel.enc)))∧e1.get 6=.one (.d (.int .i64 noise))∧e1.get 7=.one (.ptr (0,112) 0)∧e1.get 15=.one (.mrow l 0 qs.length cap) ∧
    e1.get 43=.one (.d (.sl (s.tables.map Tbl.enc)))∧e1.get 44=.one (.d (.int .i64 (s.tables.length:Int)))∧e1.get 45=.one (.d (.int .i64 (i:Int)))∧e1.get 16=.one (.d (.int .i64 (i:Int)))∧e1.get 18=.one (.d (.sl (rows.map (encL GV.enc))))∧e1.get 19=.one (.ptr (h.ep+1+1,304) 0) ∧
    e1.get 21=.one ck∧e1.get 72=.one (.d (.sl (x.rows.map (encL GV.enc))))∧e1.get 73=.one (.d (.int .i64 (x.rows.length:Int)))∧e1.get 74=.one (.d (.int .i64 (j:Int)))) hm ?_ ?_ ?_
   ·have hsH:Same h ((((h.setBox (h.ep,272) [.d (.str ByteArray.empty),.nil,.nil]).next.setBox (h.ep,272) [.d (.str s.tables[i].name),.d (.sl (s.tables[i].cols.map Col.enc)),.d (.sl (s.tables[i].pk.map encI))]).next.setBox (h.ep+1+1,304) [.nil]).next.setBox (h.ep+1+1,304) [.d (.sl (cols.map encI))]) []:=
     (((((Same.refl.setBox (.inr (by simp))).next.setBox (.inr (by simp))).next).setBox (.inr (by simp;omega))).next).setBox (.inr (by simp;omega))
    exact⟨.nil,[],NR.nil,rfl,by simp[labs],hsH,by simp<;>omega,by simp,by simp[b0],by simp[hn],by simp[h2],by simp[h3],by simp[h4],by simp[h5],by simp[h6],by simp[h7],by simp[h15],by simp[h43],by simp[h44],by simp[h45],by simp[hn],by simp[hn],by simp[hn],by simp[hn],by simp[hn],by simp[hn],by simp[hn]⟩
   ·clear hn h2 h3 h4 h5 h6 h7 h15 h43 h44 h45 hm
    rintro j kept e1 H ⟨ck,ks,hks,hkm,hkl,hsH,heH,b19,b0H,hn,h2,h3,h4,h5,h6,h7,h15,h43,h44,h45,h16,h18,h19,h21,h72,h73,h74⟩ hjl hm
    have hwj:IntKind.i64.wrap ((j:Int)+1)=(j:Int)+1:=IntWalk.i64_in _ (by omega)
    generalize hNx:(fun s'=>forK (fun i row kept next2=>m_keep noise rows cols row kept next2) (fun kept=>nextN (out.set i ⟨o.table,kept⟩)) (List.drop (j+1) x.rows) (j+1) s')=nextK at hm
    have hbackK:∀ o',Is (nextK o') r→Is (forK (fun i row kept next2=>m_keep noise rows cols row kept next2) (fun kept=>nextN (out.set i ⟨o.table,kept⟩)) (List.drop (j+1) x.rows) (j+1) o') r:=fun o' h'=>by rw[← hNx] at h';exact h'
    clear hNx
    unfold m_keep at hm
    obtain⟨hrw,hm⟩:=hm.chk
    obtain⟨b,hbv,hm⟩:=hm.bind
    simp[hn,h2,h3,h4,h5,h6,h7,h15,h43,h44,h45,h16,h18,h19,h21,h72,h73,h74,hjl,b19]
    refine callK_fn (c_slices_ContainsFunc_Row rows 72 [[.sl (x.rows[j].map GV.enc)],[.sl (cols.map encI)]] (fun r=>m_stemkeep1_disturb_1 r x.rows[j] cols) (fun xa v hv=>c_stemkeep1_disturb_1 xa x.rows[j] cols v hv) b hbv) (by simp[b19]) ?_
    simp[hn,h2,h3,h4,h5,h6,h7,h15,h43,h44,h45,h16,h18,h19,h21,h72,h73,h74,hjl,b19]
    refine r_cond hm ?_ ?_<;>clear hm<;>intro hc4 hm
    ·simp[hn,h2,h3,h4,h5,h6,h7,h15,h43,h44,h45,h16,h18,h19,h21,h72,h73,h74,hjl,b19,hwj]
     have hs9:Same H (((H.setBox (H.ep,368) [.nil]).next.setBox (H.ep,368) [.d (.sl (x.rows[j].map GV.enc))]).next) []:=(((Same.refl.setBox (.inr (by simp))).next).setBox (.inr (by simp))).next
     exact BackF.of kept ⟨⟨ck,ks,hks.new hs9,hkm,hkl,hsH.trans hs9,by simp<;>omega,by simp[b19],by simp[b0H],by simp[hn],by simp[h2],by simp[h3],by simp[h4],by simp[h5],by simp[h6],by simp[h7],by simp[h15],by simp[h43],by simp[h44],by simp[h45],by simp[h16],by simp[h18],by simp[h19],by simp[h21],by simp[h72],by simp[h73],by simp⟩,hbackK _ hm⟩
    simp[hn,h2,h3,h4,h5,h6,h7,h15,h43,h44,h45,h16,h18,h19,h21,h72,h73,h74,hjl,b19]
    generalize hrow:x.rows[j]=row at hm hrw hbv ⊢
    refine callK_heap (h_slices_Clone_Value _ (.d (.sl (row.map GV.enc))) ((row.map GV.enc).map (·.map C.d)) (RowAt.data (fun t ht=>by obtain⟨y,_,rfl⟩:=List.mem_map.1 ht;rfl) (by simpa using hrw)) _ (fun cw H2 hmw hsw hlw hbw=>?_))
    have e23:=hbw (H.ep,368) [.d (.sl (row.map GV.enc))] (by simp)
    simp[hn,h2,h3,h4,h5,h6,h7,h15,h43,h44,h45,h16,h18,h19,h21,h72,h73,h74,hjl,b19,e23]
    have hne23:(H.ep,368) ∉ labs cw:=fun h9=>by have:=(hlw _ h9).1;simp at this;omega
    refine lenK_mr hmw ?_
    simp only[List.length_map]
    simp[hn,h2,h3,h4,h5,h6,h7,h15,h43,h44,h45,h16,h18,h19,h21,h72,h73,h74,hjl,b19,e23]
    have hs9:Same H ((H.setBox (H.ep,368) [.nil]).next.setBox (H.ep,368) [.d (.sl (row.map GV.enc))]).next []:=(((Same.refl.setBox (.inr (by simp))).next).setBox (.inr (by simp))).next
    have hsB:Same H (H2.setBox (H.ep,368) [cw]) []:=(hs9.trans hsw).setBox (.inr (by simp))
    have heB:=hsB.1
    have hep9:=hsw.1
    simp at heB hep9
    have hlw2:∀ k ∈ labs cw,H.ep+2≤k.1∧k.1 < H2.ep:=fun k hk=>by have:=hlw k hk;simp at this;omega
    have hmB:MR (H2.setBox (H.ep,368) [cw]) 3 cw ((row.map GV.enc).map (·.map C.d)):=hmw.frame fun k hk=>by
     have:k≠(H.ep,368):=by rintro rfl;exact hne23 hk
     simp[this]
    unfold m_blur at hm
    refine Wait.count (N:=(row.length:Int)) (s0:=row) (fun c w e2 H3=>MR H3 3 cw ((w.map GV.enc).map (·.map C.d))∧w.length=row.length∧Same (H2.setBox (H.ep,368) [cw]) H3 (labs cw)∧e2.n=122 ∧
     e2.get 2=.one (.d (.sl (rules.map Rule.enc)))∧e2.get 3=.one (.d (.str user))∧e2.get 4=.one (.d (.int .i64 v))∧e2.get 5=.one (.d (.sl (inst.map Rel.enc)))∧e2.get 6=.one (.d (.int .i64 noise))∧e2.get 7=.one (.ptr (0,112) 0)∧e2.get 15=.one (.mrow l 0 qs.length cap) ∧
     e2.get 43=.one (.d (.sl (s.tables.map Tbl.enc)))∧e2.get 44=.one (.d (.int .i64 (s.tables.length:Int)))∧e2.get 45=.one (.d (.int .i64 (i:Int)))∧e2.get 16=.one (.d (.int .i64 (i:Int)))∧e2.get 18=.one (.d (.sl (rows.map (encL GV.enc))))∧e2.get 19=.one (.ptr (h.ep+1+1,304) 0) ∧
     e2.get 21=.one ck∧e2.get 23=.one (.ptr (H.ep,368) 0)∧e2.get 72=.one (.d (.sl (x.rows.map (encL GV.enc))))∧e2.get 73=.one (.d (.int .i64 (x.rows.length:Int)))∧e2.get 74=.one (.d (.int .i64 (j:Int)))∧e2.get 85=.one (.d (.int .i64 (row.length:Int)))∧e2.get 86=.one (.d (.int .i64 (c:Int)))) (by exact hm) ?_ ?_ ?_
    ·exact⟨hmB,rfl,.refl,by simp[hn],by simp[h2],by simp[h3],by simp[h4],by simp[h5],by simp[h6],by simp[h7],by simp[h15],by simp[h43],by simp[h44],by simp[h45],by simp[h16],by simp[h18],by simp[h19],by simp[h21],by simp[hn],by simp[h72],by simp[h73],by simp[h74],by simp[hn],by simp[hn]⟩
    ·clear hn h2 h3 h4 h5 h6 h7 h15 h43 h44 h45 h16 h18 h19 h21 h72 h73 h74 hm
     rintro c w e2 H3 ⟨hmr3,hwl,hs3,hn,h2,h3,h4,h5,h6,h7,h15,h43,h44,h45,h16,h18,h19,h21,h23,h72,h73,h74,h85,h86⟩ hcl hm
     have hcl':c < row.length:=by simpa using hcl
     have hwc:IntKind.i64.wrap ((c:Int)+1)=(c:Int)+1:=IntWalk.i64_in _ (by omega)
     have c19:H3.box (h.ep+1+1,304)=some [.d (.sl (cols.map encI))]:=by
      rw[hs3.2 _ (by simp;omega) fun h9=>by have:=(hlw2 _ h9).1;simp at this;omega,hsB.2 _ (by simp;omega) (by simp)]
      exact b19
     have c23:H3.box (H.ep,368)=some [cw]:=by
      rw[hs3.2 _ (by simp;omega) hne23]
      simp
     obtain⟨b2,hb2v,hm⟩:=hm.bind
     simp[hn,h2,h3,h4,h5,h6,h7,h15,h43,h44,h45,h16,h18,h19,h21,h23,h72,h73,h74,h85,h86,hcl',c19,c23]
     refine callK_fn (c_slices_Contains_Int cols (c:Int) b2 hb2v) (by simp) ?_
     have hsx:=hs3.next
     simp[hn,h2,h3,h4,h5,h6,h7,h15,h43,h44,h45,h16,h18,h19,h21,h23,h72,h73,h74,h85,h86,hcl',c19,c23]
     refine r_guardT hm ?_ ?_<;>clear hm<;>intro hc5 hm
     ·obtain⟨xv,hxv,hm⟩:=hm.getN
      obtain⟨lw,capw,spw,hcw,hbw3,hcapw⟩:=hmr3.block (by simp;omega)
      simp only[List.length_map,hwl] at hcw
      subst hcw
      have hx3:((w.map GV.enc).map (·.map C.d))[c]?=some (xv.enc.map C.d):=by simp[hxv]
      have hrk:takeN 1 ((rowBox ((w.map GV.enc).map (·.map C.d)) spw).drop (c * 3))=some [.d (.int .i64 xv.kind)]:=by
       have h9:=row_take (sp:=spw) (f:=0) (m:=1) hmr3.1 hx3 (by omega)
       simpa[takeN] using h9
      have hrk':=hrk
      simp only[List.map_map] at hrk'
      simp[hn,h2,h3,h4,h5,h6,h7,h15,h43,h44,h45,h16,h18,h19,h21,h23,h72,h73,h74,h85,h86,hcl',c19,c23,hc5,hbw3,hrk']
      refine r_cond hm ?_ ?_<;>clear hm<;>intro hc6 hm
      ·simp[hn,h2,h3,h4,h5,h6,h7,h15,h43,h44,h45,h16,h18,h19,h21,h23,h72,h73,h74,h85,h86,hcl',c19,c23,hc5,hbw3,hc6]
       refine Wait.cut (Plan.then_ [0,1,2,3,4,5,6,7,8] .done) follows (by kernel_rfl) (fun e3 H4=>MR H4 3 (.mrow lw 0 row.length capw) (((w.set c ⟨1,nz noise,ByteArray.empty⟩).map GV.enc).map (·.map C.d))∧Same H3 H4 [lw]∧e3.n=122 ∧
        e3.get 2=.one (.d (.sl (rules.map Rule.enc)))∧e3.get 3=.one (.d (.str user))∧e3.get 4=.one (.d (.int .i64 v))∧e3.get 5=.one (.d (.sl (inst.map Rel.enc)))∧e3.get 6=.one (.d (.int .i64 noise))∧e3.get 7=.one (.ptr (0,112) 0)∧e3.get 15=.one (.mrow l 0 qs.length cap) ∧
        e3.get 43=.one (.d (.sl (s.tables.map Tbl.enc)))∧e3.get 44=.one (.d (.int .i64 (s.tables.length:Int)))∧e3.get 45=.one (.d (.int .i64 (i:Int)))∧e3.get 16=.one (.d (.int .i64 (i:Int)))∧e3.get 18=.one (.d (.sl (rows.map (encL GV.enc))))∧e3.get 19=.one (.ptr (h.ep+1+1,304) 0) ∧
        e3.get 21=.one ck∧e3.get 23=.one (.ptr (H.ep,368) 0)∧e3.get 72=.one (.d (.sl (x.rows.map (encL GV.enc))))∧e3.get 73=.one (.d (.int .i64 (x.rows.length:Int)))∧e3.get 74=.one (.d (.int .i64 (j:Int)))∧e3.get 85=.one (.d (.int .i64 (row.length:Int)))∧e3.get 86=.one (.d (.int .i64 (c:Int)))) ?_ ?_
       ·simp[hn,h2,h3,h4,h5,h6,h7,h15,h43,h44,h45,h16,h18,h19,h21,h23,h72,h73,h74,h85,h86,hcl',c19,c23,hc5,hbw3,hc6,Plan.then_,vcPlan,planOps,isCallAt,callKind]
        refine callK_fn (c_stemref1_Int (nz noise) ⟨1,nz noise,ByteArray.empty⟩ rfl) (by simp[nz]) ?_
        simp[hn,h2,h3,h4,h5,h6,h7,h15,h43,h44,h45,h16,h18,h19,h21,h23,h72,h73,h74,h85,h86,hcl',c19,c23,hc5,hbw3,hc6,Plan.then_,vcPlan,planOps,isCallAt,callKind]
        have hset3:setCells (rowBox ((w.map GV.enc).map (·.map C.d)) spw) (c * 3) [.d (.int .i64 1),.d (.int .i64 (nz noise)),.d (.str ByteArray.empty)]=rowBox (((w.set c ⟨1,nz noise,ByteArray.empty⟩).map GV.enc).map (·.map C.d)) spw:=by
         rw[row_setAll hmr3.1 (by simp;omega) rfl,List.map_set,List.map_set]
         rfl
        have hlen3:=row_len (sp:=spw) hmr3.1 (k:=c) (by simp;omega)
        have hall3:AllC 3 (((w.set c ⟨1,nz noise,ByteArray.empty⟩).map GV.enc).map (·.map C.d)):=fun y hy=>by
         obtain⟨z,hz,rfl⟩:=List.mem_map.1 hy
         obtain⟨u,_,rfl⟩:=List.mem_map.1 hz
         rfl
        have hcap3:(rowBox (((w.set c ⟨1,nz noise,ByteArray.empty⟩).map GV.enc).map (·.map C.d)) spw).length=capw * 3:=by
         rw[rowBox_length hall3,← hcapw,rowBox_length hmr3.1]
         simp
        simp only[List.map_map] at hset3 hlen3 hcap3
        refine⟨fun _ _ x=>x,by omega,CutK.of ?_⟩
        rw[hset3]
        refine⟨⟨hall3,by simpa[hwl] using hmr3.2.1,.inr ⟨lw,capw,spw,by simp[hwl],by simp,by simpa using hcap3⟩⟩,(Same.refl.next.next).setBox (.inl (by simp)),by simp[hn],by simp[h2],by simp[h3],by simp[h4],by simp[h5],by simp[h6],by simp[h7],by simp[h15],by simp[h43],by simp[h44],by simp[h45],by simp[h16],by simp[h18],by simp[h19],by simp[h21],by simp[h23],by simp[h72],by simp[h73],by simp[h74],by simp[h85],by simp[h86]⟩
       ·clear hn h2 h3 h4 h5 h6 h7 h15 h43 h44 h45 h16 h18 h19 h21 h23 h72 h73 h74 h85 h86
        rintro e3 H4 ⟨hm4,hs4,hn,h2,h3,h4,h5,h6,h7,h15,h43,h44,h45,h16,h18,h19,h21,h23,h72,h73,h74,h85,h86⟩
        simp[hn,h86,hwc]
        exact BackF.of (w.set c ⟨1,nz noise,ByteArray.empty⟩) ⟨⟨hm4,by simpa using hwl,hs3.trans hs4,by simp[hn],by simp[h2],by simp[h3],by simp[h4],by simp[h5],by simp[h6],by simp[h7],by simp[h15],by simp[h43],by simp[h44],by simp[h45],by simp[h16],by simp[h18],by simp[h19],by simp[h21],by simp[h23],by simp[h72],by simp[h73],by simp[h74],by simp[h85],by simp[hwc]⟩,hm⟩
      ·simp[hn,h2,h3,h4,h5,h6,h7,h15,h43,h44,h45,h16,h18,h19,h21,h23,h72,h73,h74,h85,h86,hcl',c19,c23,hc5,hwc,hbw3,hc6]
       exact BackF.of w ⟨⟨hmr3.frame fun _ _=>rfl,hwl,hsx,by simp[hn],by simp[h2],by simp[h3],by simp[h4],by simp[h5],by simp[h6],by simp[h7],by simp[h15],by simp[h43],by simp[h44],by simp[h45],by simp[h16],by simp[h18],by simp[h19],by simp[h21],by simp[h23],by simp[h72],by simp[h73],by simp[h74],by simp[h85],by simp[hwc]⟩,hm⟩
     ·simp[hn,h2,h3,h4,h5,h6,h7,h15,h43,h44,h45,h16,h18,h19,h21,h23,h72,h73,h74,h85,h86,hcl',c19,c23,hc5,hwc]
      exact BackF.of w ⟨⟨hmr3.frame fun _ _=>rfl,hwl,hsx,by simp[hn],by simp[h2],by simp[h3],by simp[h4],by simp[h5],by simp[h6],by simp[h7],by simp[h15],by simp[h43],by simp[h44],by simp[h45],by simp[h16],by simp[h18],by simp[h19],by simp[h21],by simp[h23],by simp[h72],by simp[h73],by simp[h74],by simp[h85],by simp[hwc]⟩,hm⟩
    ·clear hn h2 h3 h4 h5 h6 h7 h15 h43 h44 h45 h16 h18 h19 h21 h72 h73 h74 hm
     rintro c w e2 H3 ⟨hmr3,hwl,hs3,hn,h2,h3,h4,h5,h6,h7,h15,h43,h44,h45,h16,h18,h19,h21,h23,h72,h73,h74,h85,h86⟩ hge hm
     have hge':¬ (c < row.length):=by simpa using hge
     have c23:H3.box (H.ep,368)=some [cw]:=by
      rw[hs3.2 _ (by simp;omega) hne23]
      simp
     obtain⟨hap,hm⟩:=hm.chk
     have hsH3:Same H H3 []:=hsB.trans' hs3 fun k hk=>.inr (by have:=hlw2 k hk;omega)
     have heH3:=hsH3.1
     have heB3:=hs3.1
     simp at heB3
     have done:∀ (Hc:HS) (x:C) (q:NQ) (Kx:V→HS→Prop),Same H3 Hc []→RowAt Hc 1 x [q.1]→q.2.1=[.sl (w.map GV.enc)]→FZs Hc q.1 q.2.1 q.2.2→(∀ k ∈ q.2.2,H.ep+2≤k.1∧k.1 < Hc.ep) →
       (∀ c' h' ks',NR h' 1 c' ks'→ks'.map (·.2.1)=(kept++[w]).map (encL GV.enc)→(∀ k ∈ labs c'++ks'.flatMap (·.2.2),h.ep+3≤k.1)→Same h h' []→Hc.ep≤h'.ep→h'.box (h.ep+1+1,304)=some [.d (.sl (cols.map encI))]→h'.box (0,112)=some (g.enc.map C.d)→Kx (.one c') h') →
       appK Tryz.prog 52 ck x 113 Hc (K:=⟨Kx⟩):=by
      intro Hc x q Kx hsc hrx hqd hfq hql hk
      have hsHc:Same H Hc []:=hsH3.trans hsc
      have heHc:=hsHc.1
      refine NR.app ty_el52 (by kernel_rfl) (by decide) (by decide) (hks.new hsHc) hrx (by have:=congrArg List.length hkm;simp at this hap;show _≤2097152;omega) (by rw[hqd];rfl) hfq (fun k hk=>⟨(hql k hk).2,fun h9=>by have:=hks.lc k h9;have:=(hql k hk).1;omega⟩) fun c' h' hN hs' hl'=>?_
      have hckl:∀ k ∈ labs ck,h.ep+3≤k.1:=fun k hk=>hkl k (List.mem_append_left _ hk)
      have hsh:Same h h' []:=(hsH.trans hsHc).trans' hs' fun k hk=>.inr (by have:=hckl k hk;omega)
      refine hk c' h' _ hN ?_ (fun k hk=>?_) hsh hs'.1 ?_ ?_
      ·rw[List.map_append,List.map_append,hkm]
       simp[hqd]
      ·rcases List.mem_append.1 hk with h9 | h9
       ·rcases hl' k h9 with h8 | h8
        ·exact hckl k h8
        ·omega
       ·rw[List.flatMap_append] at h9
        rcases List.mem_append.1 h9 with h8 | h8
        ·exact hkl k (List.mem_append_right _ h8)
        ·simp at h8
         have:=(hql k h8).1
         omega
      ·rw[hs'.2 _ (by simp;omega) fun h9=>by have:=hckl _ h9;simp at this;omega,hsHc.2 _ (by simp;omega) (by simp)]
       exact b19
      ·rw[hsh.2 _ (by simp;omega) (by simp)]
       exact b0
     rcases hmr3.2.2 with ⟨hw0,rfl | rfl⟩ | ⟨lw,capw,spw,rfl,hbw3,hcapw⟩
     ·have hw1:w=[]:=by simpa using hw0
      simp[hn,h2,h3,h4,h5,h6,h7,h15,h43,h44,h45,h16,h18,h19,h21,h23,h72,h73,h74,h85,h86,c23,hge',hwj]
      refine done _ _ ([.d (.sl [])],[.sl (w.map GV.enc)],[]) _ ((Same.refl.setArr).next) (RowAt.own1 rfl) rfl (fun h2 _=>by rw[hw1];exact⟨.data rfl,trivial⟩) (by simp) (fun c' h' ks' hN hmp hlb hsh hec b19' b0'=>?_)
      simp[hn,h2,h3,h4,h5,h6,h7,h15,h43,h44,h45,h16,h18,h19,h21,h23,h72,h73,h74,h85,h86,c23,hge',hwj]
      exact BackF.of (kept++[w]) ⟨⟨c',ks',hN,hmp,hlb,hsh,by simp at hec;omega,b19',b0',by simp[hn],by simp[h2],by simp[h3],by simp[h4],by simp[h5],by simp[h6],by simp[h7],by simp[h15],by simp[h43],by simp[h44],by simp[h45],by simp[h16],by simp[h18],by simp[h19],by simp[hn],by simp[h72],by simp[h73],by simp[hwj]⟩,hbackK _ hm⟩
     ·have hw1:w=[]:=by simpa using hw0
      simp[hn,h2,h3,h4,h5,h6,h7,h15,h43,h44,h45,h16,h18,h19,h21,h23,h72,h73,h74,h85,h86,c23,hge',hwj]
      refine done _ _ ([.d (.sl [])],[.sl (w.map GV.enc)],[]) _ ((Same.refl.setArr).next) (RowAt.own1 rfl) rfl (fun h2 _=>by rw[hw1];exact⟨.data rfl,trivial⟩) (by simp) (fun c' h' ks' hN hmp hlb hsh hec b19' b0'=>?_)
      simp[hn,h2,h3,h4,h5,h6,h7,h15,h43,h44,h45,h16,h18,h19,h21,h23,h72,h73,h74,h85,h86,c23,hge',hwj]
      exact BackF.of (kept++[w]) ⟨⟨c',ks',hN,hmp,hlb,hsh,by simp at hec;omega,b19',b0',by simp[hn],by simp[h2],by simp[h3],by simp[h4],by simp[h5],by simp[h6],by simp[h7],by simp[h15],by simp[h43],by simp[h44],by simp[h45],by simp[h16],by simp[h18],by simp[h19],by simp[hn],by simp[h72],by simp[h73],by simp[hwj]⟩,hbackK _ hm⟩
     ·simp only[List.length_map] at hks hsw hlw hmw hne23 hsB hmB hlw2 hmr3 hs3 c23 hbw3 hcapw done ⊢
      simp[hn,h2,h3,h4,h5,h6,h7,h15,h43,h44,h45,h16,h18,h19,h21,h23,h72,h73,h74,h85,h86,c23,hge',hwj]
      refine done _ _ ([.mrow lw 0 w.length capw],[.sl (w.map GV.enc)],[lw]) _ ((Same.refl.setBox (.inr (by simp))).next) (RowAt.new1 rfl (by simp)) rfl (fun h2 h2b=>⟨?_,trivial⟩) (fun k hk=>?_) (fun c' h' ks' hN hmp hlb hsh hec b19' b0'=>?_)
      ·have hlwk:=hlw2 lw (by simp[labs])
       have hm2:MR h2 3 (.mrow lw 0 w.length capw) ((w.map GV.enc).map (·.map C.d)):=hmr3.frame fun k hk=>by
        simp only[labs,List.mem_singleton] at hk
        subst hk
        rw[h2b _ (by simp)]
        have:k≠(H3.ep,1792):=by rintro rfl;simp at hlwk;omega
        simp[this]
       exact hm2.frz (List.length_map _) (fun t ht=>by obtain⟨y,_,rfl⟩:=List.mem_map.1 ht;rfl) (fun i x t hx ht=>by
        rw[List.getElem?_map] at hx
        rw[ht] at hx
        simp only[Option.map_some,Option.some.injEq] at hx
        subst hx
        exact frzCs_datas)
      ·have hlwk:=hlw2 lw (by simp[labs])
       simp only[List.mem_singleton] at hk
       subst hk
       simp
       omega
      ·simp[hn,h2,h3,h4,h5,h6,h7,h15,h43,h44,h45,h16,h18,h19,h21,h23,h72,h73,h74,h85,h86,c23,hge',hwj]
       exact BackF.of (kept++[w]) ⟨⟨c',ks',hN,hmp,hlb,hsh,by simp at hec;omega,b19',b0',by simp[hn],by simp[h2],by simp[h3],by simp[h4],by simp[h5],by simp[h6],by simp[h7],by simp[h15],by simp[h43],by simp[h44],by simp[h45],by simp[h16],by simp[h18],by simp[h19],by simp[hn],by simp[h72],by simp[h73],by simp[hwj]⟩,hbackK _ hm⟩
   ·clear hn h2 h3 h4 h5 h6 h7 h15 h43 h44 h45 hm
    rintro kept e1 H ⟨ck,ks,hks,hkm,hkl,hsH,heH,b19,b0H,hn,h2,h3,h4,h5,h6,h7,h15,h43,h44,h45,h16,h18,h19,h21,h72,h73,h74⟩ hm
    have hbH:=hl19 H hsH
    simp[hn,h2,h3,h4,h5,h6,h7,h15,h43,h44,h45,h16,h18,h19,h21,h72,h73,h74,hiq,hbH]
    refine⟨by omega,?_⟩
    rw[hset]
    have hlq:=hr.lc l (by simp[labs])
    have hne9:l≠(h.ep+1+1,304):=hne2
    have hFK:FZ H ck (.sl (kept.map (encL GV.enc))) (labs ck++ks.flatMap (·.2.2)):=by
     rw[← hkm]
     exact hks.fz
    have hlb9:∀ k ∈ labs ck++ks.flatMap (·.2.2),2≤k.1∧k.1 < H.ep∧k≠l:=fun k hk=>by
     have h9:=hkl k hk
     refine⟨by omega,?_,fun h8=>by rw[h8] at h9;omega⟩
     rcases List.mem_append.1 hk with h8 | h8
     ·exact hks.lc k h8
     ·obtain⟨q,hq8,hk8⟩:=List.mem_flatMap.1 h8
      exact (hks.lt q hq8 k hk8).1
    obtain⟨qs',hN,hmap,hlab⟩:=put H ck kept (labs ck++ks.flatMap (·.2.2)) (hr.new hsH) hbH hFK hlb9
    exact BackF.of (out.set i ⟨o.table,kept⟩) ⟨⟨_,qs',hN,hmap,hlab,by simp;omega,by simp[b0H,hne3],by simp[hn],by simp[h2],by simp[h3],by simp[h4],by simp[h5],by simp[h6],by simp[h7],by simp[h15],by simp[h43],by simp[h44],by simp[hw]⟩,hback _ hm⟩
 ·rintro out e h ⟨c,qs,hr,hq,hl,hep,b0,hn,h2,h3,h4,h5,h6,h7,h15,h43,h44,h45⟩ hm
  obtain rfl:=r_ret hm
  simp[hn,h15,h44,h45]
  exact fin _ _ _ _ hr hq
end Go.Proofs.YthgepknlibmjcaaGreat
end
section
namespace Go.Proofs.YthgepknlibmjcaaGreat
open Go.Am
def m_slices_EqualFunc_Table (s1:List Tbl) (s2:List Tbl) (eq:Tbl→Tbl→Option Bool):Option Bool:=
 (bif ((s1.length:Int) != (s2.length:Int)) then (some false) else (forK (fun (i5:Nat) (x5:Tbl) (s5:Unit) next_5=>(getK s2 (i5:Int) fun x7=>(bindK (eq x5 x7) fun v9=>(bif !v9 then (some false) else (next_5 ()))))) (fun (s5:Unit)=>(some true)) s1 0 ()))
theorem c_slices_EqualFunc_Table (s1:List Tbl) (s2:List Tbl) (g:FuncId) (caps:List (List D)) (eq:Tbl→Tbl→Option Bool) (heq:∀ xa xb v,Is (eq xa xb) v→PSpec Tryz.prog g (.agg xa.enc::.agg xb.enc::capsOf caps) (.one (.d (.bool v)))) (r:Bool) (hm:Is (m_slices_EqualFunc_Table s1 s2 eq) r):PSpec Tryz.prog 74 [.one (.d (.sl (s1.map Tbl.enc))),.one (.d (.sl (s2.map Tbl.enc))),.one (.fn g caps)] (.one (.d (.bool r))):=by
 unfold m_slices_EqualFunc_Table at hm
 refine PSpec.of_vc Tryz.func74 rfl (by kernel_rfl) (n:=32) rfl rfl (by simp) ?_
 try simp[*]
 intro hl1
 replace hl1:s1.length≤2097152:=by simpa using hl1
 intro hl2
 replace hl2:s2.length≤2097152:=by simpa using hl2
 refine r_cond hm ?_ ?_<;>clear hm<;>intro hc3 hm
 ·try simp[*]
  obtain rfl:=r_ret hm
  exact ret0 (vs:=[_]) (by simp[*];try exact rfl) (by simp[*])
 ·try simp[*]
  refine Wait.for (xs:=s1) (s0:=()) (fun i5 s5 e5 h5=>e5.n=32∧e5.get 1=.one (.d (.sl (s2.map Tbl.enc)))∧e5.get 2=.one (.fn g (caps.map Cap.rp))∧e5.get 15=.one (.d (.sl (s1.map Tbl.enc)))∧e5.get 16=.one (.d (.int .i64 (s1.length:Int)))∧e5.get 17=.one (.d (.int .i64 (i5:Int)))) hm (by simp[*]) ?_ ?_
  ·rintro i5 s5 e5 h5 ⟨hn5,h5_1,h5_2,h5_15,h5_16,h5_17⟩ hlt5 hm
   have hw5:IntKind.i64.wrap ((i5:Int)+1)=(i5:Int)+1:=IntWalk.i64_in _ (by omega)
   try simp[*]
   replace hm:=hm.getN
   obtain⟨x7,hxx7,hm⟩:=hm
   try simp[*]
   refine r_callC (av:=[.agg (s1[i5]).enc,.agg x7.enc]) (cs:=caps) hm (fun v hv=>heq _ _ v hv) (by simp[*]) (by simp[*]) ?_
   clear hm;intro v9 hvv9 hm
   try simp[*]
   refine r_cond hm ?_ ?_<;>clear hm<;>intro hc10 hm
   ·try simp[*]
    obtain rfl:=r_ret hm
    exact ret0 (vs:=[_]) (by simp[*];try exact rfl) (by simp[*])
   ·try simp[*]
    exact BackF.of () ⟨(by simp[*]),hm⟩
  ·rintro s5 e5 h5 ⟨hn5,h5_1,h5_2,h5_15,h5_16,h5_17⟩ hm
   try simp[*]
   obtain rfl:=r_ret hm
   exact ret0 (vs:=[_]) (by simp[*];try exact rfl) (by simp[*])
def m_schema_Equal (a:Sch) (b:Sch):Option Bool:=
 (bindK (m_slices_EqualFunc_Table a.tables b.tables (fun xa_ xb_=>m_schema_equalTables xa_ xb_)) fun v3=>(bif v3 then (bindK (m_slices_EqualFunc_Foreignkey a.fks b.fks (fun xa_ xb_=>m_schema_EqualForeignKeys xa_ xb_)) fun v5=>(bif v5 then (bindK (m_slices_Equal_Constraint a.cons b.cons) fun v7=>(some v7)) else (some false))) else (some false)))
theorem c_schema_Equal (a:Sch) (b:Sch) (r:Bool) (hm:Is (m_schema_Equal a b) r):PSpec Tryz.prog 27 [.agg a.enc,.agg b.enc] (.one (.d (.bool r))):=by
 unfold m_schema_Equal at hm
 refine PSpec.of_vc Tryz.func27 rfl (by kernel_rfl) (n:=24) rfl rfl (by simp) ?_
 try simp[*]
 refine r_call (av:=[.one (.d (.sl (a.tables.map Tbl.enc))),.one (.d (.sl (b.tables.map Tbl.enc))),.one (.fn 75 [])]) hm (fun v hv=>c_slices_EqualFunc_Table _ _ 75 [] _ (fun xa_ xb_ v hv=>c_schema_equalTables xa_ xb_ v hv) v hv) (by simp[*]) ?_
 clear hm;intro v3 hvv3 hm
 try simp[*]
 refine r_guardT hm ?_ ?_<;>clear hm<;>intro hc4 hm
 ·try simp[*]
  refine r_call (av:=[.one (.d (.sl (a.fks.map Fk.enc))),.one (.d (.sl (b.fks.map Fk.enc))),.one (.fn 68 [])]) hm (fun v hv=>c_slices_EqualFunc_Foreignkey _ _ 68 [] _ (fun xa_ xb_ v hv=>c_schema_EqualForeignKeys xa_ xb_ v hv) v hv) (by simp[*]) ?_
  clear hm;intro v5 hvv5 hm
  try simp[*]
  refine r_guardT hm ?_ ?_<;>clear hm<;>intro hc6 hm
  ·try simp[*]
   refine r_call (av:=[.one (.d (.sl (a.cons.map Cons.enc))),.one (.d (.sl (b.cons.map Cons.enc)))]) hm (fun v hv=>c_slices_Equal_Constraint _ _ v hv) (by simp[*]) ?_
   clear hm;intro v7 hvv7 hm
   try simp[*]
   obtain rfl:=r_ret hm
   exact ret0 (vs:=[_]) (by simp[*];try exact rfl) (by simp[*])
  ·try simp[*]
   obtain rfl:=r_ret hm
   exact ret0 (vs:=[_]) (by simp[*];try exact rfl) (by simp[*])
 ·try simp[*]
  obtain rfl:=r_ret hm
  exact ret0 (vs:=[_]) (by simp[*];try exact rfl) (by simp[*])
def m_stemref1_EqualInstance (a:List Rel) (b:List Rel):Option Bool:=
 (bif ((a.length:Int) != (b.length:Int)) then (some false) else (forK (fun (i5:Nat) (x5:Rel) (s5:Unit) next_5=>(getK b (i5:Int) fun x6=>(bif !(strEq x5.table x6.table) then (some false) else (bindK (m_stemref1_EqualRows x5.rows x6.rows) fun v8=>(bif !v8 then (some false) else (next_5 ())))))) (fun (s5:Unit)=>(some true)) a 0 ()))
theorem c_stemref1_EqualInstance (a:List Rel) (b:List Rel) (r:Bool) (hm:Is (m_stemref1_EqualInstance a b) r):PSpec Tryz.prog 28 [.one (.d (.sl (a.map Rel.enc))),.one (.d (.sl (b.map Rel.enc)))] (.one (.d (.bool r))):=by
 unfold m_stemref1_EqualInstance at hm
 refine PSpec.of_vc Tryz.func28 rfl (by kernel_rfl) (n:=42) rfl rfl (by simp) ?_
 try simp[*]
 intro hl1
 replace hl1:a.length≤2097152:=by simpa using hl1
 intro hl2
 replace hl2:b.length≤2097152:=by simpa using hl2
 refine r_cond hm ?_ ?_<;>clear hm<;>intro hc3 hm
 ·try simp[*]
  obtain rfl:=r_ret hm
  exact ret0 (vs:=[_]) (by simp[*];try exact rfl) (by simp[*])
 ·try simp[*]
  refine Wait.for (xs:=a) (s0:=()) (fun i5 s5 e5 h5=>e5.n=42∧e5.get 0=.one (.d (.sl (a.map Rel.enc)))∧e5.get 1=.one (.d (.sl (b.map Rel.enc)))∧e5.get 12=.one (.d (.int .i64 (a.length:Int)))∧e5.get 13=.one (.d (.int .i64 (i5:Int)))) hm (by simp[*]) ?_ ?_
  ·rintro i5 s5 e5 h5 ⟨hn5,h5_0,h5_1,h5_12,h5_13⟩ hlt5 hm
   have hw5:IntKind.i64.wrap ((i5:Int)+1)=(i5:Int)+1:=IntWalk.i64_in _ (by omega)
   try simp[*]
   refine Wait.of (SWP.draw (Plan.then_ [0,1,2,3,4,5,6,7,8,9,10,11,12,13,14,15,16,17,18,19,20,21,22,23,24] .done) follows (by kernel_rfl) ?_)
   try simp[*,Plan.then_,vcPlan,planOps,isCallAt,callKind]
   replace hm:=hm.getN
   obtain⟨x6,hxx6,hm⟩:=hm
   try simp[*,Plan.then_,vcPlan,planOps,isCallAt,callKind]
   refine r_guardF hm ?_ ?_<;>clear hm<;>intro hc7 hm
   ·try simp[*,Plan.then_,vcPlan,planOps,isCallAt,callKind]
    try refine⟨fun (_:Lab) (_:List C) hl=>hl,?_⟩
    try simp[*,Plan.then_,vcPlan,planOps,isCallAt,callKind]
    obtain rfl:=r_ret hm
    exact ret0 (vs:=[_]) (by simp[*];try exact rfl) (by simp[*])
   ·try simp[*,Plan.then_,vcPlan,planOps,isCallAt,callKind]
    refine r_call (av:=[.one (.d (.sl ((a[i5].rows).map (encL GV.enc)))),.one (.d (.sl (x6.rows.map (encL GV.enc))))]) hm (fun v hv=>c_stemref1_EqualRows _ _ v hv) (by simp[*]) ?_
    clear hm;intro v8 hvv8 hm
    try simp[*,Plan.then_,vcPlan,planOps,isCallAt,callKind]
    try refine⟨fun (_:Lab) (_:List C) hl=>hl,?_⟩
    refine r_cond hm ?_ ?_<;>clear hm<;>intro hc9 hm
    ·try simp[*]
     obtain rfl:=r_ret hm
     exact ret0 (vs:=[_]) (by simp[*];try exact rfl) (by simp[*])
    ·try simp[*]
     exact BackF.of () ⟨(by simp[*]),hm⟩
  ·rintro s5 e5 h5 ⟨hn5,h5_0,h5_1,h5_12,h5_13⟩ hm
   try simp[*]
   obtain rfl:=r_ret hm
   exact ret0 (vs:=[_]) (by simp[*];try exact rfl) (by simp[*])
def m_stemkeep1_AccessHiddenDataDoesNotLeak (g_:Gr) (rules:List Rule) (user:ByteArray) (v_:Int) (inst:List Rel) (noise:Int):Option Bool:=
 (bindK (m_stemkeep1_accessWorks) fun v2=>(bif !v2 then (bindK (m_stemkeep1_accessWorks) fun v4=>(some v4)) else (bindK (m_stemkeep1_bounded g_ (Db.mk [inst] []) []) fun v5=>(bif !v5 then (bindK (m_stemkeep1_accessWorks) fun v7=>(some v7)) else (bindK (m_view_Project g_ rules user v_ inst) fun v8=>(bif (v8.2.2 != 0) then (some true) else (bindK (m_versions_Schema g_ v_) fun v11=>(bindK (m_instance_Conforms v11.1 inst) fun v13=>(bif (v13 != 0) then (some true) else (bindK (m_stemkeep1_disturb g_ v11.1 rules user v_ inst noise) fun v15=>(bindK (m_view_Project g_ rules user v_ v15) fun v16=>(bif (v16.2.2 == 0) then (bindK (m_schema_Equal v8.1 v16.1) fun v19=>(bif v19 then (bindK (m_stemref1_EqualInstance v8.2.1 v16.2.1) fun v21=>(some v21)) else (some false))) else (some false)))))))))))))
theorem c_stemkeep1_AccessHiddenDataDoesNotLeak (g_:Gr) (rules:List Rule) (user:ByteArray) (v_:Int) (inst:List Rel) (noise:Int) (r:Bool) (hm:Is (m_stemkeep1_AccessHiddenDataDoesNotLeak g_ rules user v_ inst noise) r):PSpec Tryz.prog 7 [.agg g_.enc,.one (.d (.sl (rules.map Rule.enc))),.one (.d (.str user)),.one (.d (.int .i64 v_)),.one (.d (.sl (inst.map Rel.enc))),.one (.d (.int .i64 noise))] (.one (.d (.bool r))):=by
 unfold m_stemkeep1_AccessHiddenDataDoesNotLeak at hm
 refine PSpec.of_vc Tryz.func7 rfl (by kernel_rfl) (n:=82) rfl rfl (by simp) ?_
 try simp[*]
 refine r_call (av:=[]) hm (fun v hv=>c_stemkeep1_accessWorks  v hv) (by simp[*]) ?_
 clear hm;intro v2 hvv2 hm
 try simp[*]
 refine r_guardF hm ?_ ?_<;>clear hm<;>intro hc3 hm
 ·try simp[*]
  refine r_call (av:=[]) hm (fun v hv=>c_stemkeep1_accessWorks  v hv) (by simp[*]) ?_
  clear hm;intro v4 hvv4 hm
  try simp[*]
  obtain rfl:=r_ret hm
  exact ret0 (vs:=[_]) (by simp[*];try exact rfl) (by simp[*])
 ·try simp[*]
  refine r_call (av:=[.agg g_.enc,.agg (Db.mk [inst] []).enc,.one (.d (.sl ([].map Chg.enc)))]) hm (fun v hv=>c_stemkeep1_bounded _ _ _ v hv) (by simp[*]) ?_
  clear hm;intro v5 hvv5 hm
  try simp[*]
  refine r_cond hm ?_ ?_<;>clear hm<;>intro hc6 hm
  ·try simp[*]
   refine r_call (av:=[]) hm (fun v hv=>c_stemkeep1_accessWorks  v hv) (by simp[*]) ?_
   clear hm;intro v7 hvv7 hm
   try simp[*]
   obtain rfl:=r_ret hm
   exact ret0 (vs:=[_]) (by simp[*];try exact rfl) (by simp[*])
  ·try simp[*]
   refine r_call (av:=[.agg g_.enc,.one (.d (.sl (rules.map Rule.enc))),.one (.d (.str user)),.one (.d (.int .i64 v_)),.one (.d (.sl (inst.map Rel.enc)))]) hm (fun v hv=>c_view_Project _ _ _ _ _ v hv) (by simp[*]) ?_
   clear hm;intro v8 hvv8 hm
   try simp[*]
   refine r_cond hm ?_ ?_<;>clear hm<;>intro hc10 hm
   ·try simp[*]
    obtain rfl:=r_ret hm
    exact ret0 (vs:=[_]) (by simp[*];try exact rfl) (by simp[*])
   ·try simp[*]
    refine r_call (av:=[.agg g_.enc,.one (.d (.int .i64 v_))]) hm (fun v hv=>c_versions_Schema _ _ v hv) (by simp[*]) ?_
    clear hm;intro v11 hvv11 hm
    try simp[*]
    refine r_call (av:=[.agg v11.1.enc,.one (.d (.sl (inst.map Rel.enc)))]) hm (fun v hv=>c_instance_Conforms _ _ v hv) (by simp[*]) ?_
    clear hm;intro v13 hvv13 hm
    try simp[*]
    refine r_cond hm ?_ ?_<;>clear hm<;>intro hc14 hm
    ·try simp[*]
     obtain rfl:=r_ret hm
     exact ret0 (vs:=[_]) (by simp[*];try exact rfl) (by simp[*])
    ·try simp[*]
     refine Wait.of (SWP.draw (Plan.then_ [0,1,2,3,4,5,6,7,8,9,10] (.two 11 17 (Plan.then_ [] (.two 12 17 (Plan.then_ [13,14,15,16,17,18,19,20] .done) (Plan.then_ [12,13,14,15,16,18,19,20] .done))) (Plan.then_ [11,12,13,14,15,16,18,19,20] .done))) follows (by kernel_rfl) ?_)
     try simp[*,Plan.then_,vcPlan,planOps,isCallAt,callKind]
     refine⟨?_,?_⟩
     ·try simp[*,Plan.then_,vcPlan,planOps,isCallAt,callKind]
      refine r_call (av:=[.agg g_.enc,.agg v11.1.enc,.one (.d (.sl (rules.map Rule.enc))),.one (.d (.str user)),.one (.d (.int .i64 v_)),.one (.d (.sl (inst.map Rel.enc))),.one (.d (.int .i64 noise))]) hm (fun v hv=>c_stemkeep1_disturb _ _ _ _ _ _ _ v hv) (by simp[*]) ?_
      clear hm;intro v15 hvv15 hm
      try simp[*,Plan.then_,vcPlan,planOps,isCallAt,callKind]
      try refine⟨fun (_:Lab) (_:List C) hl=>hl,?_⟩
      refine⟨?_,?_⟩
      ·try simp[*,Plan.then_,vcPlan,planOps,isCallAt,callKind]
       refine r_call (av:=[.agg g_.enc,.one (.d (.sl (rules.map Rule.enc))),.one (.d (.str user)),.one (.d (.int .i64 v_)),.one (.d (.sl (v15.map Rel.enc)))]) hm (fun v hv=>c_view_Project _ _ _ _ _ v hv) (by simp[*]) ?_
       clear hm;intro v16 hvv16 hm
       try simp[*,Plan.then_,vcPlan,planOps,isCallAt,callKind]
       try refine⟨fun (_:Lab) (_:List C) hl=>hl,?_⟩
       refine r_guardT hm ?_ ?_<;>clear hm<;>intro hc18 hm
       ·try simp[*]
        refine r_call (av:=[.agg v8.1.enc,.agg v16.1.enc]) hm (fun v hv=>c_schema_Equal _ _ v hv) (by simp[*]) ?_
        clear hm;intro v19 hvv19 hm
        try simp[*]
        refine r_guardT hm ?_ ?_<;>clear hm<;>intro hc20 hm
        ·try simp[*]
         refine r_call (av:=[.one (.d (.sl (v8.2.1.map Rel.enc))),.one (.d (.sl (v16.2.1.map Rel.enc)))]) hm (fun v hv=>c_stemref1_EqualInstance _ _ v hv) (by simp[*]) ?_
         clear hm;intro v21 hvv21 hm
         try simp[*]
         obtain rfl:=r_ret hm
         exact ret0 (vs:=[_]) (by simp[*];try exact rfl) (by simp[*])
        ·try simp[*]
         obtain rfl:=r_ret hm
         exact ret0 (vs:=[_]) (by simp[*];try exact rfl) (by simp[*])
       ·try simp[*]
        obtain rfl:=r_ret hm
        exact ret0 (vs:=[_]) (by simp[*];try exact rfl) (by simp[*])
      ·try simp[*,Plan.then_,vcPlan,planOps,isCallAt,callKind]
       refine r_call (av:=[.agg g_.enc,.one (.d (.sl (rules.map Rule.enc))),.one (.d (.str user)),.one (.d (.int .i64 v_)),.one (.d (.sl (v15.map Rel.enc)))]) hm (fun v hv=>c_view_Project _ _ _ _ _ v hv) (by simp[*]) ?_
       clear hm;intro v1017 hvv1017 hm
       try simp[*,Plan.then_,vcPlan,planOps,isCallAt,callKind]
       try refine⟨fun (_:Lab) (_:List C) hl=>hl,?_⟩
       refine r_guardT hm ?_ ?_<;>clear hm<;>intro hc1018 hm
       ·try simp[*]
        refine r_call (av:=[.agg v8.1.enc,.agg v1017.1.enc]) hm (fun v hv=>c_schema_Equal _ _ v hv) (by simp[*]) ?_
        clear hm;intro v1019 hvv1019 hm
        try simp[*]
        refine r_guardT hm ?_ ?_<;>clear hm<;>intro hc1020 hm
        ·try simp[*]
         refine r_call (av:=[.one (.d (.sl (v8.2.1.map Rel.enc))),.one (.d (.sl (v1017.2.1.map Rel.enc)))]) hm (fun v hv=>c_stemref1_EqualInstance _ _ v hv) (by simp[*]) ?_
         clear hm;intro v1021 hvv1021 hm
         try simp[*]
         obtain rfl:=r_ret hm
         exact ret0 (vs:=[_]) (by simp[*];try exact rfl) (by simp[*])
        ·try simp[*]
         obtain rfl:=r_ret hm
         exact ret0 (vs:=[_]) (by simp[*];try exact rfl) (by simp[*])
       ·try simp[*]
        obtain rfl:=r_ret hm
        exact ret0 (vs:=[_]) (by simp[*];try exact rfl) (by simp[*])
     ·try simp[*,Plan.then_,vcPlan,planOps,isCallAt,callKind]
      refine r_call (av:=[.agg g_.enc,.agg v11.1.enc,.one (.d (.sl (rules.map Rule.enc))),.one (.d (.str user)),.one (.d (.int .i64 v_)),.one (.d (.sl (inst.map Rel.enc))),.one (.d (.int .i64 noise))]) hm (fun v hv=>c_stemkeep1_disturb _ _ _ _ _ _ _ v hv) (by simp[*]) ?_
      clear hm;intro v1016 hvv1016 hm
      try simp[*,Plan.then_,vcPlan,planOps,isCallAt,callKind]
      try refine⟨fun (_:Lab) (_:List C) hl=>hl,?_⟩
      refine r_call (av:=[.agg g_.enc,.one (.d (.sl (rules.map Rule.enc))),.one (.d (.str user)),.one (.d (.int .i64 v_)),.one (.d (.sl (v1016.map Rel.enc)))]) hm (fun v hv=>c_view_Project _ _ _ _ _ v hv) (by simp[*]) ?_
      clear hm;intro v1017 hvv1017 hm
      try simp[*,Plan.then_,vcPlan,planOps,isCallAt,callKind]
      try refine⟨fun (_:Lab) (_:List C) hl=>hl,?_⟩
      refine r_guardT hm ?_ ?_<;>clear hm<;>intro hc1018 hm
      ·try simp[*]
       refine r_call (av:=[.agg v8.1.enc,.agg v1017.1.enc]) hm (fun v hv=>c_schema_Equal _ _ v hv) (by simp[*]) ?_
       clear hm;intro v1019 hvv1019 hm
       try simp[*]
       refine r_guardT hm ?_ ?_<;>clear hm<;>intro hc1020 hm
       ·try simp[*]
        refine r_call (av:=[.one (.d (.sl (v8.2.1.map Rel.enc))),.one (.d (.sl (v1017.2.1.map Rel.enc)))]) hm (fun v hv=>c_stemref1_EqualInstance _ _ v hv) (by simp[*]) ?_
        clear hm;intro v1021 hvv1021 hm
        try simp[*]
        obtain rfl:=r_ret hm
        exact ret0 (vs:=[_]) (by simp[*];try exact rfl) (by simp[*])
       ·try simp[*]
        obtain rfl:=r_ret hm
        exact ret0 (vs:=[_]) (by simp[*];try exact rfl) (by simp[*])
      ·try simp[*]
       obtain rfl:=r_ret hm
       exact ret0 (vs:=[_]) (by simp[*];try exact rfl) (by simp[*])
end Go.Proofs.YthgepknlibmjcaaGreat
end
section
namespace Go.Proofs.YthgepknlibmjcaaGreat
open Go Go.Am
theorem w_EqualColumn (a:List Col):Wp (m_slices_Equal_Column a a) fun b=>b=true:=by
 unfold m_slices_Equal_Column
 refine Wp.cond (fun h=>by simp at h) fun _=>Wp.for (fun _ _=>True) trivial ?_ fun _ _=>Wp.ret rfl
 intro i x s next hx _ _ hn
 exact Wp.getN hx (Wp.cond (fun h=>by simp[ba_refl] at h) fun _=>hn () trivial)
theorem w_EqualCons (a:List Cons):Wp (m_slices_Equal_Constraint a a) fun b=>b=true:=by
 unfold m_slices_Equal_Constraint
 refine Wp.cond (fun h=>by simp at h) fun _=>Wp.for (fun _ _=>True) trivial ?_ fun _ _=>Wp.ret rfl
 intro i x s next hx _ _ hn
 exact Wp.getN hx (Wp.cond (fun h=>by simp[ba_refl] at h) fun _=>hn () trivial)
theorem strEq_self (a:ByteArray):strEq a a=true:=strEq_iff.2 rfl
theorem w_schemaEqual (S:Sch):Wp (m_schema_Equal S S) fun b=>b=true:=by
 have ht:Wp (m_slices_EqualFunc_Table S.tables S.tables fun xa_ xb_=>m_schema_equalTables xa_ xb_) fun b=>b=true:=by
  unfold m_slices_EqualFunc_Table
  refine Wp.cond (fun h=>by simp at h) fun _=>Wp.for (fun _ _=>True) trivial ?_ fun _ _=>Wp.ret rfl
  intro i x s next hx _ _ hn
  refine Wp.getN hx (Wp.bind (R:=fun b=>b=true) ?_ fun b _ hb=>Wp.cond (fun h=>by simp[hb] at h) fun _=>hn () trivial)
  unfold m_schema_equalTables
  refine Wp.cond (fun _=>Wp.bind (w_EqualColumn _) fun b _ hb=>Wp.cond (fun _=>Wp.bind (w_EqualInt _) fun b _ hb=>Wp.ret hb) fun h=>by rw[hb] at h;cases h) fun h=>by rw[strEq_self] at h;cases h
 have hf:Wp (m_slices_EqualFunc_Foreignkey S.fks S.fks fun xa_ xb_=>m_schema_EqualForeignKeys xa_ xb_) fun b=>b=true:=by
  unfold m_slices_EqualFunc_Foreignkey
  refine Wp.cond (fun h=>by simp at h) fun _=>Wp.for (fun _ _=>True) trivial ?_ fun _ _=>Wp.ret rfl
  intro i x s next hx _ _ hn
  refine Wp.getN hx (Wp.bind (R:=fun b=>b=true) ?_ fun b _ hb=>Wp.cond (fun h=>by simp[hb] at h) fun _=>hn () trivial)
  unfold m_schema_EqualForeignKeys
  refine Wp.cond (fun _=>Wp.bind (w_EqualInt _) fun b _ hb=>Wp.cond (fun _=>Wp.ret (strEq_self _)) fun h=>by rw[hb] at h;cases h) fun h=>by rw[strEq_self] at h;cases h
 unfold m_schema_Equal
 exact Wp.bind ht fun b _ hb=>Wp.cond (fun _=>Wp.bind hf fun b _ hb=>Wp.cond (fun _=>Wp.bind (w_EqualCons _) fun b _ hb=>Wp.ret hb) fun h=>by rw[hb] at h;cases h) fun h=>by rw[hb] at h;cases h
theorem w_EqualInstance (a:List Rel):Wp (m_stemref1_EqualInstance a a) fun b=>b=true:=by
 unfold m_stemref1_EqualInstance
 refine Wp.cond (fun h=>by simp at h) fun _=>Wp.for (fun _ _=>True) trivial ?_ fun _ _=>Wp.ret rfl
 intro i x s next hx _ _ hn
 exact Wp.getN hx (Wp.cond (fun h=>by simp[strEq_self] at h) fun _=>Wp.bind (w_EqualRows _) fun b _ hb=>Wp.cond (fun h=>by simp[hb] at h) fun _=>hn () trivial)
theorem w_relation_Clone (rows:List (List GV)) (h:rows.length≤1048576):Wp (m_relation_Clone rows) fun r=>r=rows:=by
 have hL:=LIM_eq
 unfold m_relation_Clone
 refine Wp.for (fun i (s:List (List GV))=>s=rows.take i) (by simp) ?_ (fun s hs=>Wp.ret (by rw[hs,List.take_length]))
 intro i x s next hx _ hI hn
 have hi:=(List.getElem?_eq_some_iff.1 hx).1
 refine Wp.bind (R:=fun y=>y=x) ⟨x,rfl,rfl⟩ fun y _ hy=>?_
 subst hy
 refine Wp.app (by rw[hI];simp;omega) (hn _ ?_)
 obtain⟨h8,h9⟩:=List.getElem?_eq_some_iff.1 hx
 rw[List.take_succ_eq_append_getElem h8,h9,hI]
theorem w_instance_Clone (inst:List Rel) (h:inst.length≤1048576) (hr:∀ x ∈ inst,x.rows.length≤1048576):Wp (m_instance_Clone inst) fun r=>r=inst:=by
 have hL:=LIM_eq
 unfold m_instance_Clone
 refine Wp.for (fun i (s:List Rel)=>s=inst.take i) (by simp) ?_ (fun s hs=>Wp.ret (by rw[hs,List.take_length]))
 intro i x s next hx hm hI hn
 have hi:=(List.getElem?_eq_some_iff.1 hx).1
 refine Wp.bind (w_relation_Clone x.rows (hr x hm)) fun y _ hy=>?_
 subst hy
 refine Wp.app (by rw[hI];simp;omega) (hn _ ?_)
 obtain⟨h8,h9⟩:=List.getElem?_eq_some_iff.1 hx
 rw[List.take_succ_eq_append_getElem h8,h9,hI]
def blurF (noise:Int) (cols:List Int) (row:List GV):List GV:=row.mapIdx fun i x=>if decide ((i:Int) ∈ cols)=false∧x.kind=1 then ⟨1,nz noise,ByteArray.empty⟩ else x
theorem blurF_len (noise:Int) (cols:List Int) (row:List GV):(blurF noise cols row).length=row.length:=by simp[blurF]
theorem blurF_get (noise:Int) (cols:List Int) (row:List GV) (i:Nat):(blurF noise cols row)[i]?=(row[i]?).map fun x=>if decide ((i:Int) ∈ cols)=false∧x.kind=1 then ⟨1,nz noise,ByteArray.empty⟩ else x:=by
 unfold blurF
 rw[List.getElem?_mapIdx]
theorem w_blur {ρ:Type} {Q:ρ→Prop} (noise:Int) (cols:List Int) (row:List GV) (k:List GV→Option ρ) (hk:Wp (k (blurF noise cols row)) Q):Wp (m_blur noise cols row k) Q:=by
 unfold m_blur
 refine Wp.count (fun c (w:List GV)=>w.length=row.length∧∀ i:Nat,w[i]?=if i < c then (blurF noise cols row)[i]? else row[i]?) ⟨rfl,by simp⟩ ?_ ?_
 ·rintro c w next hc ⟨hl,hw⟩ hn
  have hx:w[c]?=row[c]?:=by rw[hw c,if_neg (by omega)]
  have hr:row[c]?=some row[c]:=List.getElem?_eq_getElem hc
  generalize row[c]=x at hr
  rw[hr] at hx
  have hb:=blurF_get noise cols row c
  rw[hr] at hb
  simp only[Option.map_some] at hb
  have step:∀ w':List GV,w'.length=row.length→(∀ i:Nat,i≠c→w'[i]?=w[i]?)→w'[c]?=(blurF noise cols row)[c]?→Wp (next w') Q:=fun w' h1 h2 h3=>by
   refine hn w' ⟨h1,fun i=>?_⟩
   rcases Nat.lt_trichotomy i c with h | h | h
   ·rw[h2 i (by omega),hw i,if_pos h,if_pos (by omega)]
   ·subst h
    rw[h3,if_pos (by omega)]
   ·rw[h2 i (by omega),hw i,if_neg (by omega),if_neg (by omega)]
  refine Wp.bind (w_Contains_Int _ _) fun b _ hbc=>Wp.cond (fun h=>?_) fun h=>?_
  ·have hnc:((c:Int) ∈ cols)=False:=by
    simp only[eq_iff_iff,iff_false]
    exact fun h9=>by rw[hbc.2 h9] at h;cases h
   refine Wp.getN hx (Wp.cond (fun h2=>?_) fun h2=>?_)
   ·have hk1:x.kind=1:=by simpa using h2
    refine step _ (by simpa using hl) (fun i hi=>List.getElem?_set_ne (fun h=>hi h.symm)) ?_
    rw[List.getElem?_set_self (by omega),hb]
    simp[hnc,hk1]
   ·have hk1:x.kind≠1:=by simpa using h2
    refine step w hl (fun _ _=>rfl) ?_
    rw[hx,hb]
    simp[hk1]
  ·have hc2:(c:Int) ∈ cols:=hbc.1 (by simpa using h)
   refine step w hl (fun _ _=>rfl) ?_
   rw[hx,hb]
   simp[hc2]
 ·rintro w ⟨hl,hw⟩
  have:w=blurF noise cols row:=by
   refine List.ext_getElem? fun i=>?_
   rw[hw i]
   split
   ·rfl
   ·rw[List.getElem?_eq_none (by omega),List.getElem?_eq_none (by rw[blurF_len];omega)]
  rw[this]
  exact hk
theorem blur_cell {noise:Int} {cols:List Int} {row:List GV} {c:Int} (h0:0≤c) (hc:c ∈ cols):cellF (blurF noise cols row) c=cellF row c:=by
 unfold cellF
 rw[if_pos h0,if_pos h0,blurF_get]
 have:((c.toNat:Nat):Int)=c:=by omega
 cases row[c.toNat]? with
 | none=>rfl
 | some x=>simp[this,hc]
theorem nz_range (noise:Int):0≤nz noise∧nz noise < 1000:=by
 unfold nz
 have h1:0≤IntKind.u64.wrap noise:=by
  simp[IntKind.wrap,IntKind.signed,IntKind.bits]
  omega
 have h2:0≤Int.tmod (IntKind.u64.wrap noise) 1000:=Int.tmod_nonneg _ h1
 have h3:Int.tmod (IntKind.u64.wrap noise) 1000 < 1000:=Int.tmod_lt_of_pos _ (by decide)
 rw[IntWalk.i64_in _ (by omega)]
 exact⟨h2,h3⟩
theorem blur_cr {T:Tbl} {noise:Int} {cols:List Int} {row:List GV} (h:CR T row):CR T (blurF noise cols row):=by
 refine⟨by rw[blurF_len];exact h.len,fun i x c hx hc=>?_⟩
 rw[blurF_get] at hx
 cases hr:row[i]? with
 | none=>rw[hr] at hx;cases hx
 | some y=>
   rw[hr] at hx
   obtain⟨h1,h2,h3⟩:=h.cell i y c hr hc
   simp only[Option.map_some,Option.some.injEq] at hx
   split at hx
   ·rename_i hh
    subst hx
    have hn:=nz_range noise
    refine⟨?_,⟨fun h=>?_,fun _=>?_⟩⟩
    ·unfold m_value_Validate
     have e1:¬ (nz noise < -1000000000000):=by omega
     have e2:¬ (1000000000000 < nz noise):=by omega
     have e3:strEq ByteArray.empty ByteArray.empty=true:=strEq_self _
     simp[e1,e2,e3]
    ·simp at h
    ·rw[← h3 (by rw[hh.2];decide),hh.2]
   ·subst hx
    exact⟨h1,h2,h3⟩
theorem getK_congr {α ρ:Type} {xs ys:List α} {i:Int} {K:α→Option ρ} (h:0≤i→xs[i.toNat]?=ys[i.toNat]?):getK xs i K=getK ys i K:=by
 unfold getK
 by_cases h0:0≤i
 ·rw[if_pos h0,if_pos h0,h h0]
 ·rw[if_neg h0,if_neg h0]
theorem sat_congr {T:Tbl} {p:Cons} {a b:List GV} (hT:∀ v ∈ T.pk,0≤v∧v < T.cols.length) (hp:VP T p) (ha:a.length=T.cols.length) (hb:b.length=T.cols.length) (h:∀ c ∈ T.pk,cellF a c=cellF b c):satP p a=satP p b:=by
 have key:∀ c ∈ T.pk,a[c.toNat]?=b[c.toNat]?:=fun c hc=>by
  have h1:=hT c hc
  rw[cellF_get ⟨h1.1,by omega⟩,cellF_get ⟨h1.1,by omega⟩,h c hc]
 have:m_access_satisfies p a=m_access_satisfies p b:=by
  unfold m_access_satisfies
  by_cases h0:0≤p.right
  ·have hr:p.right ∈ T.pk:=by
    rcases hp.right with h1 | h1
    ·omega
    ·exact h1
   simp only[h0,decide_true,cond_true]
   rw[getK_congr fun _=>key _ hr]
   congr 1
   funext x
   exact getK_congr fun _=>key _ hp.left
  ·simp only[h0,decide_false,cond_false]
   exact getK_congr fun _=>key _ hp.left
 unfold satP
 rw[this]
theorem mtch_congr {T:Tbl} {r:Rule} {a b:List GV} (hT:∀ v ∈ T.pk,0≤v∧v < T.cols.length) (hp:∀ p ∈ r.preds,VP T p) (ha:a.length=T.cols.length) (hb:b.length=T.cols.length) (h:∀ c ∈ T.pk,cellF a c=cellF b c):mtch r a=mtch r b:=by
 unfold mtch
 congr 1
 rw[Bool.eq_iff_iff,List.any_eq_true,List.any_eq_true]
 constructor
 ·rintro⟨p,h1,h2⟩
  exact⟨p,h1,by rw[← sat_congr hT (hp p h1) ha hb h];exact h2⟩
 ·rintro⟨p,h1,h2⟩
  exact⟨p,h1,by rw[sat_congr hT (hp p h1) ha hb h];exact h2⟩
theorem gv_eq {a b:GV} (h:(!(a.kind == b.kind) || (!(a.int == b.int) || !(a.text == b.text)))=false):a=b:=by
 obtain⟨k,n,t⟩:=a
 obtain⟨k',n',t'⟩:=b
 simp only[Bool.or_eq_false_iff,Bool.not_eq_false',beq_iff_eq] at h
 obtain⟨h1,h2,h3⟩:=h
 rw[h1,h2,ba_eq h3]
theorem w_shows (r row:List GV) (cols:List Int) (hin:∀ c ∈ cols,0≤c∧c < row.length):Wp (m_stemkeep1_disturb_1 r row cols) fun b=>b=true↔r.length=cols.length∧∀ (i:Nat) (c:Int),cols[i]?=some c→r[i]?=some (cellF row c):=by
 unfold m_stemkeep1_disturb_1
 refine Wp.bind (R:=fun b=>b=true↔r.length=cols.length∧∀ (i:Nat) (c:Int),cols[i]?=some c→r[i]?=some (cellF row c)) ?_ fun b _ hb=>Wp.ret hb
 unfold m_stemkeep1_shows
 refine Wp.for (fun i _=>∀ (j:Nat) (c:Int),j < i→cols[j]?=some c→r[j]?=some (cellF row c)) (by intro j c h;omega) ?_ ?_
 ·intro i c s next hx hm hI hn
  have h1:=hin c hm
  refine Wp.cond (fun h=>Wp.ret ?_) fun h=>?_
  ·have hle:r.length≤i:=by simpa using h
   simp only[Bool.false_eq_true,false_iff]
   rintro⟨_,h2⟩
   have:=(List.getElem?_eq_some_iff.1 (h2 i c hx)).1
   omega
  ·have hlt:i < r.length:=by
    have:¬ (r.length≤i):=by simpa using h
    omega
   have hr:r[i]?=some r[i]:=List.getElem?_eq_getElem hlt
   generalize r[i]=y at hr
   have hc:=cellF_get h1
   refine Wp.getN hr (Wp.get h1.1 h1.2 fun z hz _=>?_)
   rw[hc] at hz
   cases hz
   refine Wp.cond (fun h=>Wp.ret ?_) fun h=>hn () (upto_succI (p:=fun j c=>r[j]?=some (cellF row c)) hI hx (by rw[hr,gv_eq h]))
   simp only[Bool.false_eq_true,false_iff]
   rintro⟨_,h2⟩
   have h3:=h2 i c hx
   rw[hr] at h3
   cases h3
   simp[ba_refl] at h
 ·intro s hI
  refine Wp.ret ?_
  have hC:∀ (i:Nat) (c:Int),cols[i]?=some c→r[i]?=some (cellF row c):=fun i c hx=>hI i c (List.getElem?_eq_some_iff.1 hx).1 hx
  constructor
  ·intro h
   exact⟨by have:(r.length:Int)=cols.length:=by simpa using h
            omega,hC⟩
  ·intro h
   simp[h.1]
theorem projF_inj {cols:List Int} {a b:List GV} (h:∀ (i:Nat) (c:Int),cols[i]?=some c→(projF cols a)[i]?=some (cellF b c)):∀ c ∈ cols,cellF a c=cellF b c:=by
 intro c hc
 obtain⟨i,hi,rfl⟩:=List.getElem_of_mem hc
 have h1:=h i _ (List.getElem?_eq_getElem hi)
 unfold projF at h1
 rw[List.getElem?_map,List.getElem?_eq_getElem hi] at h1
 exact Option.some.inj h1
theorem vis_some {g:Gr} (hx:∀ e ∈ g.edges,∀ x ∈ e.script,SmallX x) {rules:List Rule} {user:ByteArray} {v:Int} {inst:List Rel} {S:Sch} {T:Tbl} {r:Rule} {k:Nat} {x:Rel} (hv:m_access_Validate g rules=some 0) (hs:m_versions_Schema g v=some (S,0)) (hc:m_instance_Conforms S inst=some 0)
  (hT:S.tables[k]?=some T) (hxk:inst[k]?=some x) (hl:lk rules user v T.name=some r) :
  m_access_Visible g rules user v inst T.name=some ((x.rows.filter (mtch r)).map (projF (visC T r)),visC T r,0)∧(∀ p ∈ r.preds,VP T p)∧∀ c ∈ r.cols,0≤c∧c < T.cols.length:=by
 obtain⟨q,hq,h1,h2⟩:=w_Visible2 g hx rules user v inst T.name
 have h0:=h2 S r hv hs hc hl
 obtain⟨Ss,S',r',k',T',x',hV,hcl,hrw⟩:=h1 h0
 have e1:S'=S:=by
  have:=hV.hs
  rw[hs] at this
  cases this
  rfl
 subst e1
 have e2:r'=r:=by
  have:=hV.l
  rw[hl] at this
  cases this
  rfl
 subst e2
 obtain⟨e3,e4⟩:=vis_tab hV (strEq_self _) hT
 subst e4
 have e5:x'=x:=by
  have:=hV.x
  rw[e3,hxk] at this
  cases this
  rfl
 subst e5
 refine⟨?_,hV.vr.pr,hV.vr.cols⟩
 rw[hq]
 obtain⟨a,b,c⟩:=q
 simp only at h0 hcl hrw
 rw[h0,hcl,hrw]
theorem vis_none {g:Gr} {rules:List Rule} {user:ByteArray} {v:Int} {inst:List Rel} {S:Sch} {nm:ByteArray} (hv:m_access_Validate g rules=some 0) (hs:m_versions_Schema g v=some (S,0)) (hc:m_instance_Conforms S inst=some 0) (hl:lk rules user v nm=none) :
  m_access_Visible g rules user v inst nm=some ([],[],17):=by
 unfold m_access_Visible
 rw[hv,hs]
 show (bindK (m_instance_Conforms S inst) _)=_
 rw[hc,lookup_eq,hl]
 rfl
theorem forK_congr {α σ ρ:Type} {body body':Nat→α→σ→(σ→Option ρ)→Option ρ} {k:σ→Option ρ}:∀ (xs:List α) (i:Nat) (s:σ),(∀ (i:Nat) (x:α) (s:σ) next,x ∈ xs→body i x s next=body' i x s next)→forK body k xs i s=forK body' k xs i s
 | [],_,_,_=>rfl
 | x::xs,i,s,h=>by
   simp only[forK]
   rw[h i x s _ (by simp)]
   congr 1
   funext s'
   exact forK_congr xs (i+1) s' fun i y s next hy=>h i y s next (by simp[hy])
def OutAt (rules:List Rule) (user:ByteArray) (v:Int) (noise:Int) (T:Tbl) (x x':Rel):Prop:=
 x'.table=x.table∧((lk rules user v T.name=none∧x'.rows=[])∨∃ r,lk rules user v T.name=some r∧x'.rows=(x.rows.filter (mtch r)).map (blurF noise (visC T r)))
theorem w_disturb {g:Gr} (hx:∀ e ∈ g.edges,∀ x ∈ e.script,SmallX x) {rules:List Rule} {user:ByteArray} {v:Int} {inst:List Rel} {S:Sch} (noise:Int) (hv:m_access_Validate g rules=some 0) (hs:m_versions_Schema g v=some (S,0)) (hc:m_instance_Conforms S inst=some 0) (hVS:VS S) (hCF:CF S inst) :
  Wp (m_stemkeep1_disturb g S rules user v inst noise) fun out=>out.length=inst.length∧∀ (k:Nat) (x:Rel) (T:Tbl),inst[k]?=some x→S.tables[k]?=some T→∃ x',out[k]?=some x'∧OutAt rules user v noise T x x':=by
 have hL:=LIM_eq
 have hil:=hCF.len
 have ht6:=hVS.t6
 unfold m_stemkeep1_disturb
 refine Wp.bind (w_instance_Clone inst (by omega) fun x hx=>by have:=hCF.l24 x hx;omega) fun o _ ho=>?_
 subst ho
 refine Wp.cond (fun h=>by simp[hil] at h) fun _=>Wp.cond (fun h=>by simp[hil] at h) fun _=>?_
 refine Wp.for (fun i (out:List Rel)=>out.length=o.length∧(∀ (k:Nat) (x:Rel) (T:Tbl),k < i→o[k]?=some x→S.tables[k]?=some T→∃ x',out[k]?=some x'∧OutAt rules user v noise T x x')∧∀ k:Nat,i≤k→out[k]?=o[k]?) ⟨rfl,by intro k x T h;omega,fun _ _=>rfl⟩ ?_ ?_
 ·rintro i T out next hT hTm ⟨hol,hI,hJ⟩ hn
  have hit:=(List.getElem?_eq_some_iff.1 hT).1
  have hoi:o[i]?=some o[i]:=List.getElem?_eq_getElem (by omega)
  generalize o[i]=x at hoi
  have hou:out[i]?=some x:=by rw[hJ i (Nat.le_refl _),hoi]
  have step:∀ x':Rel,OutAt rules user v noise T x x'→Wp (next (out.set i x')) _:=fun x' h=>by
   refine hn _ ⟨by simpa using hol,fun k y T2 hk hy hT2=>?_,fun k hk=>?_⟩
   ·rcases Nat.lt_or_ge k i with h1 | h1
    ·rw[List.getElem?_set_ne (by omega)]
     exact hI k y T2 h1 hy hT2
    ·obtain rfl:k=i:=by omega
     rw[hoi] at hy
     rw[hT] at hT2
     cases hy
     cases hT2
     exact⟨x',List.getElem?_set_self (by omega),h⟩
   ·rw[List.getElem?_set_ne (by omega)]
    exact hJ k (by omega)
  unfold m_dist
  cases hl:lk rules user v T.name with
  | none=>
    rw[vis_none hv hs hc hl]
    show Wp (getK out (i:Int) _) _
    refine Wp.getN hou (Wp.cond (fun _=>step _ ⟨rfl,.inl ⟨hl,rfl⟩⟩) fun h=>by simp at h)
  | some r=>
    obtain⟨hvis,hpr,hrc⟩:=vis_some hx hv hs hc hT hoi hl
    rw[hvis]
    show Wp (getK out (i:Int) _) _
    have hVT:=hVS.tab T hTm
    have h6:=hVT.cols6
    have hin:=visC_in hVT hrc
    have hrows:=hCF.row i x T hoi hT
    have h24:=hCF.l24 x (List.mem_of_getElem? hoi)
    refine Wp.getN hou (Wp.cond (fun h=>by simp at h) fun _=>Wp.getN hoi ?_)
    refine Wp.for (fun j (kept:List (List GV))=>kept=((x.rows.take j).filter (mtch r)).map (blurF noise (visC T r))) (by simp) ?_ ?_
    ·intro j row kept next2 hrow hrm hI2 hn2
     have hj:=(List.getElem?_eq_some_iff.1 hrow).1
     have hcr:=hrows row hrm
     have hcl:=hcr.len
     have htk:x.rows.take (j+1)=x.rows.take j++[row]:=by
      obtain⟨h8,h9⟩:=List.getElem?_eq_some_iff.1 hrow
      rw[List.take_succ_eq_append_getElem h8,h9]
     have hkl:kept.length≤24:=by
      rw[hI2,List.length_map]
      refine Nat.le_trans (List.length_filter_le _ _) ?_
      simp;omega
     unfold m_keep
     refine Wp.chk (by omega) ?_
     refine Wp.bind (R:=fun b=>b=mtch r row) ?_ fun b _ hb=>?_
     ·unfold m_slices_ContainsFunc_Row m_slices_IndexFunc_Row
      refine Wp.bind (any_list fun r' _=>w_shows r' row (visC T r) fun c hc=>by have:=hin c hc;omega) fun k _ hk=>Wp.ret ?_
      rcases hk with ⟨h1,r',hr',hlen,hsh⟩ | ⟨h1,h2⟩
      ·simp only[h1,decide_true]
       obtain⟨row',hrow',rfl⟩:=List.mem_map.1 hr'
       obtain⟨h3,h4⟩:=List.mem_filter.1 hrow'
       have h5:=projF_inj hsh
       rw[← h4]
       exact mtch_congr hVT.pk hpr (hrows row' h3).len hcl fun c hc=>h5 c ((visC_mem T r c).2 (.inl hc))
      ·have:¬ (0≤k):=by omega
       simp only[this,decide_false]
       cases hm:mtch r row with
       | false=>rfl
       | true=>
         exfalso
         refine h2 (projF (visC T r) row) (List.mem_map.2 ⟨row,List.mem_filter.2 ⟨hrm,hm⟩,rfl⟩) ⟨by simp[projF],fun i c hc=>?_⟩
         unfold projF
         rw[List.getElem?_map,hc]
         rfl
     ·subst hb
      refine Wp.cond (fun h=>hn2 _ ?_) fun h=>w_blur noise (visC T r) row _ (Wp.app (by simp;omega) (hn2 _ ?_))
      ·rw[htk,List.filter_append,List.map_append,← hI2]
       simp at h
       simp[h]
      ·rw[htk,List.filter_append,List.map_append,← hI2]
       simp at h
       simp[h]
    ·intro kept hk
     rw[List.take_length] at hk
     exact step _ ⟨rfl,.inr ⟨r,hl,hk⟩⟩
 ·rintro out ⟨hol,hI,_⟩
  exact Wp.ret ⟨hol,fun k x T hx hT=>hI k x T (List.getElem?_eq_some_iff.1 hT).1 hx hT⟩
theorem law5 (g:Gr) (hx:∀ e ∈ g.edges,∀ x ∈ e.script,SmallX x) (rules:List Rule) (user:ByteArray) (v:Int) (inst:List Rel) (noise:Int) (hi:inst.length≤1048576) :
  m_stemkeep1_AccessHiddenDataDoesNotLeak g rules user v inst noise=some true:=by
 have hL:=LIM_eq
 have hw:Wp m_stemkeep1_accessWorks fun b=>b=true:=⟨true,accessWorks,rfl⟩
 refine Wp.eq ?_
 unfold m_stemkeep1_AccessHiddenDataDoesNotLeak
 refine Wp.bind hw fun b _ hb=>?_
 subst hb
 refine Wp.cond (fun h=>by cases h) fun _=>Wp.bind (w_bounded g inst [] (by omega)) fun b _ _=>Wp.cond (fun _=>Wp.bind hw fun b _ hb=>Wp.ret hb) fun _=>Wp.bind (w_Project g hx rules user v inst) fun p hpe hp=>Wp.cond (fun _=>Wp.ret rfl) fun h2=>?_
 have hp0:p.2.2=0:=by simpa using h2
 obtain⟨S,L,hP,hVS,_,_⟩:=hp hp0
 rw[hP.hs]
 show Wp (bindK (m_instance_Conforms S inst) _) _
 refine Wp.bind (w_Conforms S (fun T hT=>(hVS.tab T hT).pk6) inst) fun e hce hcf=>Wp.cond (fun _=>Wp.ret rfl) fun h3=>?_
 obtain rfl:e=0:=by simpa using h3
 have hCF:=hcf rfl
 refine Wp.bind (w_disturb hx noise hP.hv hP.hs hce hVS hCF) fun out _ hout=>?_
 obtain⟨hol,hoat⟩:=hout
 have hpk:∀ T ∈ S.tables,T.pk.length≤6:=fun T hT=>(hVS.tab T hT).pk6
 have hil:=hCF.len
 have get:∀ (k:Nat) (x':Rel) (T:Tbl),out[k]?=some x'→S.tables[k]?=some T→∃ x,inst[k]?=some x∧OutAt rules user v noise T x x':=fun k x' T h1 h2=>by
  have hk:=(List.getElem?_eq_some_iff.1 h2).1
  have hxk:inst[k]?=some inst[k]:=List.getElem?_eq_getElem (by omega)
  obtain⟨x2,h3,h4⟩:=hoat k _ T hxk h2
  rw[h1] at h3
  cases h3
  exact⟨_,hxk,h4⟩
 have hCF2:CF S out:=by
  refine⟨by omega,fun k x' T h1 h2=>?_,fun x' hm=>?_,fun k x' T h1 h2 row hrow=>?_,fun k x' T h1 h2=>?_⟩
  ·obtain⟨x,hxk,ht,_⟩:=get k x' T h1 h2
   rw[ht]
   exact hCF.name k x T hxk h2
  ·obtain⟨k,hk,rfl⟩:=List.getElem_of_mem hm
   have h2:S.tables[k]?=some S.tables[k]:=List.getElem?_eq_getElem (by omega)
   obtain⟨x,hxk,_,hr⟩:=get k _ _ (List.getElem?_eq_getElem hk) h2
   have h24:=hCF.l24 x (List.mem_of_getElem? hxk)
   rcases hr with ⟨_,hr⟩ | ⟨r,_,hr⟩
   ·rw[hr];simp
   ·rw[hr,List.length_map]
    exact Nat.le_trans (List.length_filter_le _ _) h24
  ·obtain⟨x,hxk,_,hr⟩:=get k x' T h1 h2
   rcases hr with ⟨_,hr⟩ | ⟨r,_,hr⟩
   ·rw[hr] at hrow;cases hrow
   ·rw[hr] at hrow
    obtain⟨row0,h0,rfl⟩:=List.mem_map.1 hrow
    exact blur_cr (hCF.row k x T hxk h2 row0 (List.mem_filter.1 h0).1)
  ·obtain⟨x,hxk,_,hr⟩:=get k x' T h1 h2
   have hVT:=hVS.tab T (List.mem_of_getElem? h2)
   rcases hr with ⟨_,hr⟩ | ⟨r,_,hr⟩
   ·rw[hr]
    intro i a b ha
    cases ha
   ·rw[hr]
    refine AscP.asc ?_
    unfold AscP
    refine List.Pairwise.map _ (R:=fun a b=>cmpR (keyF T a) (keyF T b) < 0) (fun a b hab=>?_) ((hCF.asc k x T hxk h2).pw.filter _)
    have hkey:∀ row,keyF T (blurF noise (visC T r) row)=keyF T row:=fun row=>by
     unfold keyF
     refine List.map_congr_left fun c hc=>?_
     exact blur_cell (hVT.pk c hc).1 ((visC_mem T r c).2 (.inl hc))
    rw[hkey,hkey]
    exact hab
 have hce2:=conforms_of hpk hCF2
 have hvis:∀ T ∈ S.tables,m_access_Visible g rules user v out T.name=m_access_Visible g rules user v inst T.name:=by
  intro T hTm
  obtain⟨k,hk,rfl⟩:=List.getElem_of_mem hTm
  have hT:S.tables[k]?=some S.tables[k]:=List.getElem?_eq_getElem hk
  have hxk:inst[k]?=some inst[k]:=List.getElem?_eq_getElem (by omega)
  have hok:out[k]?=some out[k]:=List.getElem?_eq_getElem (by omega)
  have hVT:=hVS.tab _ hTm
  obtain⟨x,hx1,_,hr⟩:=get k _ _ hok hT
  rw[hxk] at hx1
  cases hx1
  rcases hr with ⟨hl,hr⟩ | ⟨r,hl,hr⟩
  ·rw[vis_none hP.hv hP.hs hce2 hl,vis_none hP.hv hP.hs hce hl]
  ·obtain⟨h5,hpr,hrc⟩:=vis_some hx hP.hv hP.hs hce hT hxk hl
   rw[(vis_some hx hP.hv hP.hs hce2 hT hok hl).1,h5,hr]
   have hrows:=hCF.row k _ _ hxk hT
   have hall:∀ y ∈ (inst[k].rows.filter (mtch r)).map (blurF noise (visC S.tables[k] r)),mtch r y=true:=fun y hy=>by
    obtain⟨row,h0,rfl⟩:=List.mem_map.1 hy
    obtain⟨h6,h7⟩:=List.mem_filter.1 h0
    rw[← h7]
    refine mtch_congr hVT.pk hpr (by rw[blurF_len];exact (hrows row h6).len) (hrows row h6).len fun c hc=>?_
    exact blur_cell (hVT.pk c hc).1 ((visC_mem _ r c).2 (.inl hc))
   rw[List.filter_eq_self.2 hall,List.map_map]
   congr 2
   refine List.map_congr_left fun row _=>?_
   show projF _ (blurF noise _ row)=_
   unfold projF
   refine List.map_congr_left fun c hc=>?_
   exact blur_cell (visC_in hVT hrc c hc).1 hc
 have hproj:m_view_Project g rules user v out=some p:=by
  rw[← hpe]
  unfold m_view_Project
  rw[hP.hv,hP.hs]
  exact forK_congr _ _ _ fun i T s next hm=>by rw[hvis T hm]
 rw[hproj]
 refine Wp.bind (R:=fun q=>q=p) ⟨_,rfl,rfl⟩ fun q _ hq=>?_
 subst hq
 refine Wp.cond (fun _=>Wp.bind (w_schemaEqual _) fun b _ hb=>Wp.cond (fun _=>Wp.bind (w_EqualInstance _) fun b _ hb=>Wp.ret hb) fun h=>by rw[hb] at h;cases h) fun h=>by simp[hp0] at h
end Go.Proofs.YthgepknlibmjcaaGreat
end
section
namespace Go.Proofs.YthgepknlibmjcaaGreat.accessHiddenDataDoesNotLeak
open Go Go.Am Go.ChangeShapes Go.WideShapes Go.ChangeAt Go.RowKit
theorem own:ownKnob Tryz.prog.godebug=none:=by kernel_rfl
theorem laid:laidOutB Tryz.prog=true:=by kernel_rfl
def plain:List TypeId:=[29,26,22,75,9,73,156,3,4,30,23,131,24,103,100,27,39,37,158,41,43,45,106,52,79]
theorem plain_ok:plainB Tryz.prog plain=true:=by kernel_rfl
theorem small {g:Gr} (h:bd29 1048576 g):∀ e ∈ g.edges,∀ x ∈ e.script,SmallX x:=by
 intro e he x hx
 have h1:=(h.2.2 e he).2.2 x hx
 obtain⟨_,_,_,_,_,_,hc,_,_,ht,_,hf⟩:=h1
 exact⟨hc.1,ht.2.1.1,ht.2.2.1,hf.2.1.1⟩
set_option maxRecDepth 100000 in
theorem contract (H:Type) (enc:TypeId × Value→H) (W:World) (base:Nat) (args:Array Value) (ds gs:List (DataW H)) (before:List MemPlace)
  (hval:∀ (j:Nat) t v,Tryz.f7.params[j]?=some t→args[j]?=some v→Value.okWide Tryz.prog W .any base t v)
  (hW:DataW.Whole enc Tryz.prog Tryz.f7.params.toList Rows.accessHiddenDataDoesNotLeakSpec.vars false W args.toList ds gs before) (hk:Rows.uptoSmall H (ds++gs)=true) :
  Calls Tryz.prog 7 args W fun e W'=>∃ v,e=.returned v∧Rows.accessHiddenDataDoesNotLeakSpec.post enc Tryz.prog Tryz.f7 false true false false W args v W':=by
 have hW':=hW
 have hlt:=hW.lt
 obtain⟨p,q,hA0,hV,rfl,hfz,hnd⟩:=hW
 have hA:DataW.TrodAll enc Tryz.prog W 0 (fun _=>true) true Tryz.f7.params.toList args.toList ds p:=hA0
 rw[Tryz.params7] at hA hval
 obtain⟨v0,vs0,d0,ds0,p0,q0,hargs,rfl,rfl,h0,r0⟩:=trodAll_cons hA
 obtain⟨v1,vs1,d1,ds1,p1,q1,rfl,rfl,rfl,h1,r1⟩:=trodAll_cons r0
 obtain⟨v2,vs2,d2,ds2,p2,q2,rfl,rfl,rfl,h2,r2⟩:=trodAll_cons r1
 obtain⟨v3,vs3,d3,ds3,p3,q3,rfl,rfl,rfl,h3,r3⟩:=trodAll_cons r2
 obtain⟨v4,vs4,d4,ds4,p4,q4,rfl,rfl,rfl,h4,r4⟩:=trodAll_cons r3
 obtain⟨v5,vs5,d5,ds5,p5,q5,rfl,rfl,rfl,h5,r5⟩:=trodAll_cons r4
 obtain⟨rfl,rfl,rfl⟩:=trodAll_nil r5
 obtain rfl:args=#[v0,v1,v2,v3,v4,v5]:=by cases args;simp_all
 obtain⟨rfl,rfl⟩:=trodVars_none hV
 have hb:=of_decide_eq_true hk
 simp only[List.append_nil,Rows.uptoBulkAll] at hb
 obtain⟨cs0,rfl,_⟩:=okWide_struct Tryz.underlying29 (hval 0 29 v0 rfl rfl)
 obtain⟨a1,len1,cap1,rfl⟩:=okWide_slice Tryz.underlying41 (hval 1 41 v1 rfl rfl)
 obtain⟨s2,rfl⟩:=okWide_string Tryz.underlying9 (hval 2 9 v2 rfl rfl)
 obtain⟨i3,rfl⟩:=okWide_int Tryz.underlying3 (hval 3 3 v3 rfl rfl)
 obtain⟨a4,len4,cap4,rfl⟩:=okWide_slice Tryz.underlying45 (hval 4 45 v4 rfl rfl)
 obtain⟨i5,rfl⟩:=okWide_int Tryz.underlying3 (hval 5 3 v5 rfl rfl)
 have h0k:=h0
 have h1k:=h1
 have h2k:=h2
 have h3k:=h3
 have h4k:=h4
 have h5k:=h5
 obtain⟨n0,hn0⟩:=h0
 obtain⟨n1,hn1⟩:=h1
 obtain⟨n2,hn2⟩:=h2
 obtain⟨n3,hn3⟩:=h3
 obtain⟨n4,hn4⟩:=h4
 obtain⟨n5,hn5⟩:=h5
 obtain⟨e0,hr0,ht0⟩:=rep_read (B:=1048576) plain_ok (by decide) n0 29 _ _ (by decide) hn0 (by simp only;omega)
 obtain⟨e1,hr1,ht1⟩:=rep_read (B:=1048576) plain_ok (by decide) n1 41 _ _ (by decide) hn1 (by simp only;omega)
 obtain⟨e2,hr2,ht2⟩:=rep_read (B:=1048576) plain_ok (by decide) n2 9 _ _ (by decide) hn2 (by simp only;omega)
 obtain⟨e3,hr3,ht3⟩:=rep_read (B:=1048576) plain_ok (by decide) n3 3 _ _ (by decide) hn3 (by simp only;omega)
 obtain⟨e4,hr4,ht4⟩:=rep_read (B:=1048576) plain_ok (by decide) n4 45 _ _ (by decide) hn4 (by simp only;omega)
 obtain⟨e5,hr5,ht5⟩:=rep_read (B:=1048576) plain_ok (by decide) n5 3 _ _ (by decide) hn5 (by simp only;omega)
 obtain⟨x0,rfl,y0⟩:=dec29 ht0
 obtain⟨x1,rfl,y1⟩:=dec41 ht1
 obtain⟨x2,rfl,y2⟩:=dec9 ht2
 obtain⟨x3,rfl,y3⟩:=dec3 ht3
 obtain⟨x4,rfl,y4⟩:=dec45 ht4
 obtain⟨x5,rfl,y5⟩:=dec3 ht5
 have hS:=c_stemkeep1_AccessHiddenDataDoesNotLeak x0 x1 x2 x3 x4 x5 true (law5 x0 (small y0) x1 x2 x3 x4 x5 y4.1)
 refine (hS.2 W (cellsOf W) (fun _ _=>none) #[.agg cs0,.slice a1 len1 cap1,.string s2,.int .i64 i3,.slice a4 len4 cap4,.int .i64 i5] (fun _ _ _ h=>h) (fun _ _ _ h=>by cases h) ?_).mono fun e W' hpost=>?_
 ·refine⟨rfl,fun i a hi=>?_⟩
  match i with
  | 0=>
    cases hi
    refine⟨.agg cs0,rfl,cs0,rfl,by simpa[Value.cells] using hr0.1,fun j x hj=>?_⟩
    obtain⟨u,hu1,hu2⟩:=hr0.2 j x hj
    exact⟨u,by simpa[Value.cells] using hu1,hu2⟩
  | 1=>
    cases hi
    obtain⟨u,hu1,hu2⟩:=hr1.2 0 _ rfl
    refine⟨.slice a1 len1 cap1,rfl,?_⟩
    have:u=.slice a1 len1 cap1:=by simpa[Value.cells] using hu1.symm
    rw[← this]
    exact hu2
  | 2=>
    cases hi
    obtain⟨u,hu1,hu2⟩:=hr2.2 0 _ rfl
    refine⟨.string s2,rfl,?_⟩
    have:u=.string s2:=by simpa[Value.cells] using hu1.symm
    rw[← this]
    exact hu2
  | 3=>
    cases hi
    obtain⟨u,hu1,hu2⟩:=hr3.2 0 _ rfl
    refine⟨.int .i64 i3,rfl,?_⟩
    have:u=.int .i64 i3:=by simpa[Value.cells] using hu1.symm
    rw[← this]
    exact hu2
  | 4=>
    cases hi
    obtain⟨u,hu1,hu2⟩:=hr4.2 0 _ rfl
    refine⟨.slice a4 len4 cap4,rfl,?_⟩
    have:u=.slice a4 len4 cap4:=by simpa[Value.cells] using hu1.symm
    rw[← this]
    exact hu2
  | 5=>
    cases hi
    obtain⟨u,hu1,hu2⟩:=hr5.2 0 _ rfl
    refine⟨.int .i64 i5,rfl,?_⟩
    have:u=.int .i64 i5:=by simpa[Value.cells] using hu1.symm
    rw[← this]
    exact hu2
  | i+6=>simp at hi
 obtain⟨v,m',blk,rfl,_,_,_,hbel,hrv,_⟩:=hpost
 have hv:v=.bool true:=by cases hrv;rfl
 subst hv
 refine⟨_,rfl,[d0,d1,d2,d3,d4,d5],[],p0++(p1++(p2++(p3++(p4++(p5++[])))))++[],[],p0++(p1++(p2++(p3++(p4++(p5++[]))))),[],hW',trodAll_mk1 (shut_bool Tryz.underlying4 true),?_,rfl,hbel.frame _,fun h=>by cases h⟩
 have hl0:∀ x ∈ p0,x.block < W.heap.size:=fun x hx=>hlt x (by simp[hx])
 have hl1:∀ x ∈ p1,x.block < W.heap.size:=fun x hx=>hlt x (by simp[hx])
 have hl2:∀ x ∈ p2,x.block < W.heap.size:=fun x hx=>hlt x (by simp[hx])
 have hl3:∀ x ∈ p3,x.block < W.heap.size:=fun x hx=>hlt x (by simp[hx])
 have hl4:∀ x ∈ p4,x.block < W.heap.size:=fun x hx=>hlt x (by simp[hx])
 have hl5:∀ x ∈ p5,x.block < W.heap.size:=fun x hx=>hlt x (by simp[hx])
 exact trodAll_cons_mk (Below.trod laid (by kernel_rfl) (of_decide_eq_true (by kernel_rfl)) h0k hbel hl0) (trodAll_cons_mk (Below.trod laid (by kernel_rfl) (of_decide_eq_true (by kernel_rfl)) h1k hbel hl1) (trodAll_cons_mk (Below.trod laid (by kernel_rfl) (of_decide_eq_true (by kernel_rfl)) h2k hbel hl2) (trodAll_cons_mk (Below.trod laid (by kernel_rfl) (of_decide_eq_true (by kernel_rfl)) h3k hbel hl3) (trodAll_cons_mk (Below.trod laid (by kernel_rfl) (of_decide_eq_true (by kernel_rfl)) h4k hbel hl4) (trodAll_cons_mk (Below.trod laid (by kernel_rfl) (of_decide_eq_true (by kernel_rfl)) h5k hbel hl5) trodAll_mk0)))))
set_option maxRecDepth 100000 in
theorem lifted (os:Os) (started:os.Started) (H:Type) (enc:TypeId × Value→H) (F:Stop.Interp) :
  ReturnsInHanded {} Tryz.checked os 7 .any ((Rows.OpenSpec.upto Rows.accessHiddenDataDoesNotLeakSpec).pre6 enc Tryz.prog Tryz.f7 Rows.accessHiddenDataDoesNotLeakUptoRow.domain false) (((Rows.OpenSpec.upto Rows.accessHiddenDataDoesNotLeakSpec).at F).post enc Tryz.prog Tryz.f7 false true false false):=by
 refine returnsInHanded_of_cond (C:=Tryz.checked) (s:=Rows.OpenSpec.upto Rows.accessHiddenDataDoesNotLeakSpec) (k:=Rows.uptoSmall) rfl own started (by kernel_rfl) Tryz.func7
  (OpenSpec.witness (enc:=enc) (C:=Tryz.checked) (s:=Rows.OpenSpec.upto Rows.accessHiddenDataDoesNotLeakSpec) (k:=Rows.uptoSmall) rfl false ⟨#[],#[.agg #[.slice none 0 0,.slice none 0 0,.slice none 0 0,.slice none 0 0],.slice none 0 0,.string ByteArray.empty,.int .i64 0,.slice none 0 0,.int .i64 0],[]⟩ 8 (by kernel_rfl) (by kernel_rfl) (by kernel_rfl)
   (x:=([.agg [.agg [.nil,.nil,.nil],.nil],.nil,.lit (.string []),.lit (.int .i64 0),.nil,.lit (.int .i64 0)],[],[])) (by kernel_rfl) rfl (by kernel_rfl)) ?_
 intro W base args ds gs before hval hW _ hk _
 exact contract H enc W base args ds gs before hval hW hk
theorem over:Rows.accessHiddenDataDoesNotLeakUptoRow.holds Tryz.pinned (Rows.OpenSpec.upto Rows.accessHiddenDataDoesNotLeakSpec):=
 OpenClaim.holds_of_cond 7 Tryz.f7 rfl rfl rfl rfl rfl rfl rfl ⟨rfl,rfl,rfl,rfl,rfl⟩ rfl rfl rfl rfl rfl (by kernel_rfl) Tryz.func7 (by kernel_rfl)
  (of_decide_eq_true (by kernel_rfl)) (by unfold Func.isWrapper;first | (rw[if_pos (by decide +kernel)];kernel_rfl) | (rw[if_neg (by decide +kernel)];exact⟨rfl,rfl⟩))
  (fun os started H enc _ F=>lifted os started H enc F)
theorem proved:Rows.AccessHiddenDataDoesNotLeakUptoSaid:=over
end Go.Proofs.YthgepknlibmjcaaGreat.accessHiddenDataDoesNotLeak
end
