/-
  Part 5 of the proof: joined by a program out of 23 texts.
-/
import Derived.Test.YthgepknlibmjcaaGreatL4
set_option linter.unusedVariables false
set_option linter.unusedSimpArgs false
set_option maxRecDepth 20000
section
namespace Go.Proofs.YthgepknlibmjcaaGreat
open Go.Am
def m_evolution_splitTable_1 (column:Int) (k0:Int) (k1:Stp):Option Int:=
 (bindK (m_slices_Index_Int k1.cols column) fun v1=>(chkK (okI (k0+v1)) (some (k0+v1))))
theorem c_evolution_splitTable_1 (column:Int) (k0:Int) (k1:Stp) (r:Int) (hm:Is (m_evolution_splitTable_1 column k0 k1) r):PSpec Tryz.prog 180 [.one (.d (.int .i64 column)),.one (.rp [.int .i64 k0]),.one (.rp [.int .i64 k1.kind,.str k1.table,.str k1.other,.str k1.column,.str k1.newName,.int .i64 k1.type,.sl (k1.cols.map encI),.str k1.op,.int .i64 k1.value.kind,.int .i64 k1.value.int,.str k1.value.text,.str k1.newTable.name,.sl (k1.newTable.cols.map Col.enc),.sl (k1.newTable.pk.map encI),.str k1.cons.table,.int .i64 k1.cons.left,.str k1.cons.op,.int .i64 k1.cons.right,.int .i64 k1.cons.value.kind,.int .i64 k1.cons.value.int,.str k1.cons.value.text,.str k1.fk.table,.sl (k1.fk.cols.map encI),.str k1.fk.ref])] (.one (.d (.int .i64 r))):=by
 unfold m_evolution_splitTable_1 at hm
 refine PSpec.of_vc Tryz.func180 rfl (by kernel_rfl) (n:=11) rfl rfl (by simp) ?_
 try simp[*]
 refine Wait.of (SWP.draw (Plan.then_ [0,1,2,3,4,5,6] .done) follows (by kernel_rfl) ?_)
 try simp[*,Plan.then_,vcPlan,planOps,isCallAt,callKind]
 refine r_call (av:=[.one (.d (.sl (k1.cols.map encI))),.one (.d (.int .i64 column))]) hm (fun v hv=>c_slices_Index_Int _ _ v hv) (by simp[*]) ?_
 clear hm;intro v1 hvv1 hm
 try simp[*,Plan.then_,vcPlan,planOps,isCallAt,callKind]
 try refine⟨fun (_:Lab) (_:List C) hl=>hl,?_⟩
 replace hm:=hm.chk
 obtain⟨hw2,hm⟩:=hm
 replace hw2:=wrap_ok hw2
 try simp[*,Plan.then_,vcPlan,planOps,isCallAt,callKind]
 obtain rfl:=r_ret hm
 exact ret0 (vs:=[_]) (by simp[*];try exact rfl) (by simp[*])
def m_evolution_overlap (columns:List Int) (set:List Int):Option Int:=
 (forK (fun (i2:Nat) (x2:Int) (s2:Int) next_2=>(bindK (m_slices_Contains_Int set x2) fun v3=>(bif v3 then (chkK (okI (s2+1)) (next_2 (s2+1))) else (next_2 s2)))) (fun (s2:Int)=>(bif (s2 == 0) then (some 0) else (bif (s2 == (columns.length:Int)) then (some 2) else (some 1)))) columns 0 0)
theorem c_evolution_overlap (columns:List Int) (set:List Int) (r:Int) (hm:Is (m_evolution_overlap columns set) r):PSpec Tryz.prog 181 [.one (.d (.sl (columns.map encI))),.one (.d (.sl (set.map encI)))] (.one (.d (.int .i64 r))):=by
 unfold m_evolution_overlap at hm
 refine PSpec.of_vc Tryz.func181 rfl (by kernel_rfl) (n:=27) rfl rfl (by simp) ?_
 try simp[*]
 intro hl1
 replace hl1:columns.length≤2097152:=by simpa using hl1
 refine Wait.for (xs:=columns) (s0:=0) (fun i2 s2 e2 h2=>e2.n=27∧e2.get 0=.one (.d (.sl (columns.map encI)))∧e2.get 1=.one (.d (.sl (set.map encI)))∧e2.get 5=.one (.d (.int .i64 s2))∧e2.get 8=.one (.d (.sl (columns.map encI)))∧e2.get 9=.one (.d (.int .i64 (columns.length:Int)))∧e2.get 10=.one (.d (.int .i64 (i2:Int)))) hm (by simp[*]) ?_ ?_
 ·rintro i2 s2 e2 h2 ⟨hn2,h2_0,h2_1,h2_5,h2_8,h2_9,h2_10⟩ hlt2 hm
  have hw2:IntKind.i64.wrap ((i2:Int)+1)=(i2:Int)+1:=IntWalk.i64_in _ (by omega)
  try simp[*]
  refine r_call (av:=[.one (.d (.sl (set.map encI))),.one (.d (.int .i64 (columns[i2])))]) hm (fun v hv=>c_slices_Contains_Int _ _ v hv) (by simp[*]) ?_
  clear hm;intro v3 hvv3 hm
  try simp[*]
  refine r_cond hm ?_ ?_<;>clear hm<;>intro hc4 hm
  ·try simp[*]
   replace hm:=hm.chk
   obtain⟨hw5,hm⟩:=hm
   replace hw5:=wrap_ok hw5
   try simp[*]
   exact BackF.of (s2+1) ⟨(by simp[*]),hm⟩
  ·try simp[*]
   exact BackF.of s2 ⟨(by simp[*]),hm⟩
 ·rintro s2 e2 h2 ⟨hn2,h2_0,h2_1,h2_5,h2_8,h2_9,h2_10⟩ hm
  try simp[*]
  refine r_cond hm ?_ ?_<;>clear hm<;>intro hc6 hm
  ·try simp[*]
   obtain rfl:=r_ret hm
   exact ret0 (vs:=[_]) (by simp[*];try exact rfl) (by simp[*])
  ·try simp[*]
   refine r_cond hm ?_ ?_<;>clear hm<;>intro hc8 hm
   ·try simp[*]
    obtain rfl:=r_ret hm
    exact ret0 (vs:=[_]) (by simp[*];try exact rfl) (by simp[*])
   ·try simp[*]
    obtain rfl:=r_ret hm
    exact ret0 (vs:=[_]) (by simp[*];try exact rfl) (by simp[*])
def m_evolution_checkSplit (s_:Sch) (t:Tbl) (step:Stp):Option Int:=
 (forK (fun (i5:Nat) (x5:Int) (s5:Unit) next_5=>(bif decide (x5 < 0) then (some 3) else (bif decide ((t.cols.length:Int)≤x5) then (some 3) else (bif decide (0 < i5) then (chkK (okI ((i5:Int) - 1)) (getK step.cols ((i5:Int) - 1) fun x11=>(bif decide (x5≤x11) then (some 3) else (next_5 ())))) else (next_5 ()))))) (fun (s5:Unit)=>(bif ((step.cols.length:Int) == 0) then (some 3) else (bindK (m_evolution_overlap step.cols t.pk) fun v15=>(bif (v15 != 0) then (some 9) else (bindK (m_schema_FindTable s_ step.other) fun v17=>(bif v17.2 then (some 5) else (some 0))))))) step.cols 0 ())
theorem c_evolution_checkSplit (s_:Sch) (t:Tbl) (step:Stp) (r:Int) (hm:Is (m_evolution_checkSplit s_ t step) r):PSpec Tryz.prog 179 [.agg s_.enc,.agg t.enc,.agg step.enc] (.one (.d (.int .i64 r))):=by
 unfold m_evolution_checkSplit at hm
 refine PSpec.of_vc Tryz.func179 rfl (by kernel_rfl) (n:=61) rfl rfl (by simp) ?_
 try simp[*]
 intro hl4
 replace hl4:step.cols.length≤2097152:=by simpa using hl4
 refine Wait.for (xs:=step.cols) (s0:=()) (fun i5 s5 e5 h5=>e5.n=61∧e5.get 3=.one (.ptr (0,48) 0)∧e5.get 4=.one (.ptr (1,64) 0)∧e5.get 5=.one (.ptr (2,80) 0)∧e5.get 12=.one (.d (.sl (step.cols.map encI)))∧e5.get 13=.one (.d (.int .i64 (step.cols.length:Int)))∧e5.get 14=.one (.d (.int .i64 (i5:Int)))∧h5.box (0,48)=some [.d (.sl (s_.tables.map Tbl.enc)),.d (.sl (s_.fks.map Fk.enc)),.d (.sl (s_.cons.map Cons.enc))]∧h5.box (1,64)=some [.d (.str t.name),.d (.sl (t.cols.map Col.enc)),.d (.sl (t.pk.map encI))]∧h5.box (2,80)=some [.d (.int .i64 step.kind),.d (.str step.table),.d (.str step.other),.d (.str step.column),.d (.str step.newName),.d (.int .i64 step.type),.d (.sl (step.cols.map encI)),.d (.str step.op),.d (.int .i64 step.value.kind),.d (.int .i64 step.value.int),.d (.str step.value.text),.d (.str step.newTable.name),.d (.sl (step.newTable.cols.map Col.enc)),.d (.sl (step.newTable.pk.map encI)),.d (.str step.cons.table),.d (.int .i64 step.cons.left),.d (.str step.cons.op),.d (.int .i64 step.cons.right),.d (.int .i64 step.cons.value.kind),.d (.int .i64 step.cons.value.int),.d (.str step.cons.value.text),.d (.str step.fk.table),.d (.sl (step.fk.cols.map encI)),.d (.str step.fk.ref)]) hm (by simp[*]) ?_ ?_
 ·rintro i5 s5 e5 h5 ⟨hn5,h5_3,h5_4,h5_5,h5_12,h5_13,h5_14,hb5_b1,hb5_b2,hb5_b3⟩ hlt5 hm
  have hw5:IntKind.i64.wrap ((i5:Int)+1)=(i5:Int)+1:=IntWalk.i64_in _ (by omega)
  try simp[*]
  refine r_guardF hm ?_ ?_<;>clear hm<;>intro hc6 hm
  ·try simp[*]
   obtain rfl:=r_ret hm
   exact ret0 (vs:=[_]) (by simp[*];try exact rfl) (by simp[*])
  ·try simp[*]
   intro hl7
   replace hl7:t.cols.length≤2097152:=by simpa using hl7
   refine r_guardF hm ?_ ?_<;>clear hm<;>intro hc8 hm
   ·try simp[*]
    obtain rfl:=r_ret hm
    exact ret0 (vs:=[_]) (by simp[*];try exact rfl) (by simp[*])
   ·try simp[*]
    refine r_guardT hm ?_ ?_<;>clear hm<;>intro hc9 hm
    ·try simp[*]
     replace hm:=hm.chk
     obtain⟨hw10,hm⟩:=hm
     replace hw10:=wrap_ok hw10
     try simp[*]
     replace hm:=hm.get
     obtain⟨x11,h0x11,hxx11,hm⟩:=hm
     try simp at h0x11
     try simp at hxx11
     try simp[*]
     refine r_cond hm ?_ ?_<;>clear hm<;>intro hc12 hm
     ·try simp[*]
      obtain rfl:=r_ret hm
      exact ret0 (vs:=[_]) (by simp[*];try exact rfl) (by simp[*])
     ·try simp[*]
      exact BackF.of () ⟨(by simp[*]),hm⟩
    ·try simp[*]
     exact BackF.of () ⟨(by simp[*]),hm⟩
 ·rintro s5 e5 h5 ⟨hn5,h5_3,h5_4,h5_5,h5_12,h5_13,h5_14,hb5_b1,hb5_b2,hb5_b3⟩ hm
  try simp[*]
  refine r_cond hm ?_ ?_<;>clear hm<;>intro hc14 hm
  ·try simp[*]
   obtain rfl:=r_ret hm
   exact ret0 (vs:=[_]) (by simp[*];try exact rfl) (by simp[*])
  ·try simp[*]
   refine r_call (av:=[.one (.d (.sl (step.cols.map encI))),.one (.d (.sl (t.pk.map encI)))]) hm (fun v hv=>c_evolution_overlap _ _ v hv) (by simp[*]) ?_
   clear hm;intro v15 hvv15 hm
   try simp[*]
   refine r_cond hm ?_ ?_<;>clear hm<;>intro hc16 hm
   ·try simp[*]
    obtain rfl:=r_ret hm
    exact ret0 (vs:=[_]) (by simp[*];try exact rfl) (by simp[*])
   ·try simp[*]
    refine r_call (av:=[.agg s_.enc,.one (.d (.str step.other))]) hm (fun v hv=>c_schema_FindTable _ _ v hv) (by simp[*]) ?_
    clear hm;intro v17 hvv17 hm
    try simp[*]
    refine r_cond hm ?_ ?_<;>clear hm<;>intro hc18 hm
    ·try simp[*]
     obtain rfl:=r_ret hm
     exact ret0 (vs:=[_]) (by simp[*];try exact rfl) (by simp[*])
    ·try simp[*]
     obtain rfl:=r_ret hm
     exact ret0 (vs:=[_]) (by simp[*];try exact rfl) (by simp[*])
def m_evolution_constraintColumns (c:Cons):Option ((List Int)):=
 (bif decide (c.right < 0) then (some [c.left]) else (some [c.left,c.right]))
theorem c_evolution_constraintColumns (c:Cons) (r:(List Int)) (hm:Is (m_evolution_constraintColumns c) r):PSpec Tryz.prog 182 [.agg c.enc] (.one (.d (.sl (r.map encI)))):=by
 unfold m_evolution_constraintColumns at hm
 refine PSpec.of_vc Tryz.func182 rfl (by kernel_rfl) (n:=14) rfl rfl (by simp) ?_
 try simp[*]
 refine r_cond hm ?_ ?_<;>clear hm<;>intro hc2 hm
 ·try simp[*]
  obtain rfl:=r_ret hm
  exact ret0 (vs:=[_]) (by simp[*];try exact rfl) (by simp[*])
 ·try simp[*]
  obtain rfl:=r_ret hm
  exact ret0 (vs:=[_]) (by simp[*];try exact rfl) (by simp[*])
end Go.Proofs.YthgepknlibmjcaaGreat
end
section
namespace Go.Proofs.YthgepknlibmjcaaGreat
open Go Go.Am
def m_splitC (n:Int) (step:Stp) (k:Nat) {ρ:Type} (j:Nat) (S:Sch) (next:Sch→Option ρ):Option ρ:=
 getK S.fks (k:Int) fun f=>getK f.cols (j:Int) fun c=>bindK (m_evolution_splitTable_1 c n step) fun v=>next { S with fks:=S.fks.set k ⟨f.table,f.cols.set j v,f.ref⟩ }
def m_splitF (T:Tbl) (n:Int) (step:Stp) (k:Nat) (S:Sch) (next:Sch→Option (Sch × Int)):Option (Sch × Int):=
 getK S.fks (k:Int) fun f=>bif !(strEq f.table T.name) then next S else
 bindK (m_evolution_overlap f.cols step.cols) fun o=>bif o == 1 then some (S,10) else bif o == 2 then countK (m_splitC n step k) next f.cols.length 0 { S with fks:=S.fks.set k ⟨step.other,f.cols,f.ref⟩ } else next S
def m_splitO (T:Tbl) (n:Int) (step:Stp) (k:Nat) (S:Sch) (next:Sch→Option (Sch × Int)):Option (Sch × Int):=
 getK S.cons (k:Int) fun c=>bif !(strEq c.table T.name) then next S else
 bindK (m_evolution_constraintColumns c) fun cc=>bindK (m_evolution_overlap cc step.cols) fun o=>bif o == 1 then some (S,11) else bif o == 2 then
  bindK (m_evolution_splitTable_1 c.left n step) fun v=>bif decide (0≤c.right) then bindK (m_evolution_splitTable_1 c.right n step) fun w=>next { S with cons:=S.cons.set k { c with table:=step.other,left:=v,right:=w } }
   else next { S with cons:=S.cons.set k { c with table:=step.other,left:=v } }
 else next S
def m_splitT (T:Tbl) {ρ:Type} (_:Nat) (col:Int) (acc:List Col) (next:List Col→Option ρ):Option ρ:=getK T.cols col fun c=>next (acc++[c])
def m_splitEnd (T:Tbl) (step:Stp) (i:Nat) (S:Sch) (ocols:List Col):Option (Sch × Int):=
 bindK (m_evolution_removeColumns S i step.cols) fun S3=>bindK (m_evolution_insertTable S3 ⟨step.other,ocols,seqI T.pk.length⟩) fun S4=>chkK (S4.fks.length < LIM) (some ({ S4 with fks:=S4.fks++[⟨step.other,seqI T.pk.length,T.name⟩] },0))
def m_evolution_splitTable (S:Sch) (i:Nat) (step:Stp):Option (Sch × Int):=
 getK S.tables (i:Int) fun T=>bindK (m_evolution_checkSplit S T step) fun e=>bif e != 0 then some (S,e) else
 countK (m_splitF T T.pk.length step) (fun S1=>countK (m_splitO T T.pk.length step) (fun S2=>chkK (T.pk.length+step.cols.length≤LIM) (forK (m_splitT T) (m_splitEnd T step i S2) (T.pk++step.cols) 0 [])) S1.cons.length 0 S1) S.fks.length 0 S
set_option maxHeartbeats 2000000 in
theorem h_evolution_splitTable (h:HS) (l:Lab) (tc fc oc:C) (xs:List C) (ta fa oa lx:List Lab) (S S':Sch) (i:Nat) (step:Stp) (r:Int) (hm:Is (m_evolution_splitTable S i step) (S',r)) (s:Sc h l S tc fc oc ta fa oa) (hx:Ow h StpSh xs step.enc lx) (hd:∀ k ∈ lx,k.1 < h.ep∧k ∉ l::(ta++(fa++oa))) (K:V→HS→Prop)
  (hk:KeepS h l (ta++(fa++oa)) S' (.one (.d (.int .i64 r))) K) :
  HSpec Tryz.prog 165 [.one (.ptr l 0),.one (.d (.int .i64 (i:Int))),.agg xs] h K:=by
 obtain⟨x6,x12,x13,x22,a6,a12,a13,a22,rfl,rfl,o6,o12,o13,o22⟩:=hx.stp
 replace hm:=hm.getN
 obtain⟨T,hi,hm⟩:=hm
 replace hm:=hm.bind
 obtain⟨ce,hce,hm⟩:=hm
 have hlt:i < S.tables.length:=(List.getElem?_eq_some_iff.1 hi).1
 obtain⟨lt,c1,c2,B,tv⟩:=s.tbl hi
 obtain⟨cap,rfl⟩:=tv.hd
 have hb:=s.box
 have bx:=tv.el.box
 have r0:=tv.el.rd0 3 (by omega)
 simp at r0
 have hne:=ne_new (s.lt l (by simp))
 have hnt:=ne_new (s.lt lt (by simp[tv.tm]))
 have hxf:∀ h',Same h h' []→FrzCs h' [C.d (D.str T.name),c1,c2] T.enc:=fun h' hs=>⟨.data rfl,tv.f1 h' hs,tv.f2 h' hs,trivial⟩
 have hsf:∀ h',Same h h' (l::(ta++(fa++oa)))→Ow h' StpSh (stpC step x6 x12 x13 x22) step.enc (a6++(a12++(a13++a22))):=fun h' hs=>hx.frame fun k hk=>hs.2 k (hd k hk).1 (hd k hk).2
 refine HSpec.of_vc Tryz.func165 rfl (by kernel_rfl) (n:=206) rfl rfl (by simp) ?_
 have hnn:stpC step x6 x12 x13 x22≠[]:=by simp[stpC]
 have hs0:Same h (((h.setBox (h.ep,80) (stpC step x6 x12 x13 x22)).next.setBox (h.ep+1,112) [C.d (D.str ByteArray.empty),C.nil,C.nil]).next.setBox (h.ep+1,112) [C.d (D.str T.name),c1,c2]) []:=(((Same.refl.setBox (.inr (Nat.le_refl _))).next.setBox (.inr (by simp))).next.setBox (.inr (by simp)))
 have e2:takeN 1 ((stpC step x6 x12 x13 x22).drop 2)=some [.d (.str step.other)]:=by simp[stpC]
 have e6:takeN 1 ((stpC step x6 x12 x13 x22).drop 6)=some [x6]:=by simp[stpC]
 have e24:takeN 24 (stpC step x6 x12 x13 x22)=some (stpC step x6 x12 x13 x22):=by simp[stpC]
 simp[hb,hlt,bx,r0,hne,hnt,hnn]
 generalize hX:(((h.setBox (h.ep,80) (stpC step x6 x12 x13 x22)).next.setBox (h.ep+1,112) _).next.setBox (h.ep+1,112) _)=HX at *
 have bx5:HX.box (h.ep,80)=some (stpC step x6 x12 x13 x22):=by rw[← hX];simp
 have bx7:HX.box (h.ep+1,112)=some [C.d (D.str T.name),c1,c2]:=by rw[← hX];simp
 have hep:h.ep+1 < HX.ep:=by rw[← hX];simp
 have s0:=s.frame hs0
 have hb0:=s0.box
 refine Wait.cut (Plan.then_ [0,1,2,3,4,5,6] .done) follows (by kernel_rfl) (fun e h'=>e.n=206∧e.get 0=.one (.ptr l 0)∧e.get 1=.one (.d (.int .i64 (i:Int)))∧e.get 5=.one (.ptr (h.ep,80) 0)∧e.get 7=.one (.ptr (h.ep+1,112) 0)∧e.get 8=.one (.d (.int .i64 ce))∧Same HX h' []) ?_ ?_
 ·simp[hb0,bx5,bx7,e24,Plan.then_,vcPlan,planOps,isCallAt,callKind]
  refine callK_heap (HSpec.of_lend (c_evolution_checkSplit S T step ce hce) ⟨.agg s0.frz,.agg (hxf _ hs0),.agg (hsf _ (hs0.mono (by simp))).frz,trivial⟩ rfl ?_)
  simp
  exact⟨fun _ _ x=>x,CutK.of (by simp[Same.refl.next])⟩
 ·rintro e h1 ⟨hn,h0,h1',h5,h7,h8,hs1⟩
  have hy1:=hs0.trans hs1
  have s1:=s.frame hy1
  have hb1:=s1.box
  have bx51:h1.box (h.ep,80)=some (stpC step x6 x12 x13 x22):=by rw[hs1.2 _ (by simp;omega) (by simp)];exact bx5
  have bx71:h1.box (h.ep+1,112)=some [C.d (D.str T.name),c1,c2]:=by rw[hs1.2 _ (by simpa using hep) (by simp)];exact bx7
  simp[hn,h8]
  cases hce0:ce != 0 with
  | true=>
    simp only[hce0,cond_true] at hm
    have e1:=r_ret hm
    simp only[Prod.mk.injEq] at e1
    obtain⟨rfl,rfl⟩:=e1
    have hw1:¬ ce=0:=by simpa using hce0
    simp[hn,h8,hce0]
    exact hk _ _ s1.ows (hy1.mono (by simp)) (fun k hk=>.inl hk)
  | false=>
    simp only[hce0,cond_false] at hm
    simp[hn,h0,h5,h7,hce0,bx71]
    refine lenK_clen tv.n2.1 ?_
    have hne1:=ne_new (s1.lt l (by simp))
    have h71:=ne_new (l:=(h.ep+1,112)) (n:=h1.ep) (by have:=hs1.1;simp;omega)
    have h51:=ne_new (l:=(h.ep,80)) (n:=h1.ep) (by have:=hs1.1;simp;omega)
    simp (maxDischargeDepth:=12) [hn,h0,h5,h7,hne1,hb1,le_s]
    refine lenK_clen s1.len.2.1.1 ?_
    simp[hn]
    have hz:Same h1 ((h1.setBox (h1.ep,144) [C.d (D.int IntKind.i64 0)]).next.setBox (h1.ep,144) [C.d (D.int IntKind.i64 T.pk.length)]) []:=((Same.refl.setBox (.inr (Nat.le_refl _))).next).setBox (.inr (Nat.le_refl _))
    generalize hX2:(h1.setBox (h1.ep,144) [C.d (D.int IntKind.i64 0)]).next.setBox (h1.ep,144) [C.d (D.int IntKind.i64 T.pk.length)]=HB at hz ⊢
    have bb9:HB.box (h1.ep,144)=some [C.d (D.int IntKind.i64 T.pk.length)]:=by rw[← hX2];simp
    have hepB:h1.ep < HB.ep:=by rw[← hX2];simp
    have hyB:=hy1.trans hz
    have sB:=s.frame hyB
    have hep1:h.ep+1 < h1.ep:=Nat.lt_of_lt_of_le hep hs1.1
    have bbl:HB.box lt=some B:=by rw[hyB.2 _ (s.lt lt (by simp[tv.tm])) (by simp)];exact bx
    have fresh:∀ k:Lab,h.ep≤k.1→k ∉ l::(ta++(fa++oa)):=fun k hk h2=>by have:=s.lt k h2;omega
    have fresh':∀ k:Lab,h.ep≤k.1→k ∉ fa++oa:=fun k hk h2=>fresh k hk (List.mem_cons_of_mem _ (List.mem_append_right _ h2))
    have en:∀ h',Same HB h' (fa++oa)→h'.box (h.ep,80)=some (stpC step x6 x12 x13 x22)∧h'.box (h.ep+1,112)=some [C.d (D.str T.name),c1,c2]∧h'.box (h1.ep,144)=some [C.d (D.int IntKind.i64 T.pk.length)]∧h'.box lt=some B:=fun h' hs'=>by
     refine⟨?_,?_,?_,?_⟩
     ·rw[hs'.2 _ (by simp;omega) (fresh' _ (by simp)),hz.2 _ (by simp;omega) (by simp)];exact bx51
     ·rw[hs'.2 _ (by simp;omega) (fresh' _ (by simp)),hz.2 _ (by simpa using hep1) (by simp)];exact bx71
     ·rw[hs'.2 _ (by simpa using hepB) (fresh' _ (by simp;omega))];exact bb9
     ·refine (hs'.2 lt (sB.lt lt (by simp[tv.tm])) fun h2=>?_).trans bbl
      have h6:=s.nd
      simp only[List.nodup_cons,List.nodup_append] at h6
      exact h6.2.2.2 lt tv.tm lt h2 rfl
    have all:∀ h',Same HB h' (fa++oa)→Same h h' (l::(ta++(fa++oa))):=fun h' hs'=>(hyB.mono (by simp)).trans (hs'.mono fun k hk=>List.mem_cons_of_mem _ (List.mem_append_right _ hk))
    have ef:∀ h',Same HB h' (fa++oa)→FrzCs h' (stpC step x6 x12 x13 x22) step.enc:=fun h' hs'=>(hsf h' (all h' hs')).frz
    have e6f:∀ h',Same HB h' (fa++oa)→Frz h' x6 (.sl (step.cols.map encI)):=fun h' hs'=>(ef h' hs').2.2.2.2.2.2.1
    have lend:∀ h',Same HB h' (fa++oa)→LendVs h' ([Cap.lab (h1.ep,144),Cap.lab (h.ep,80)].map capV) (capsOf [[.int .i64 T.pk.length],step.enc]):=fun h' hs'=>⟨.one (.ptr (en h' hs').2.2.1 (FrzCs.datas (ds:=[.int .i64 T.pk.length]))),.one (.ptr (en h' hs').1 (ef h' hs')),trivial⟩
    refine Wait.count (N:=(S.fks.length:Int)) (s0:=S) (fun k S1 e h2=>e.n=206∧e.get 0=.one (.ptr l 0)∧e.get 1=.one (.d (.int .i64 (i:Int)))∧e.get 5=.one (.ptr (h.ep,80) 0)∧e.get 7=.one (.ptr (h.ep+1,112) 0)∧e.get 9=.one (.ptr (h1.ep,144) 0)∧e.get 10=.one (.fn 180 [.lab (h1.ep,144),.lab (h.ep,80)])∧e.get 43=.one fc∧e.get 44=.one (.d (.int .i64 (S.fks.length:Int)))∧e.get 45=.one (.d (.int .i64 (k:Int)))∧S1.fks.length=S.fks.length∧S1.tables=S.tables∧Sc h2 l S1 (.mrow lt 0 S.tables.length cap) fc oc ta fa oa∧Same HB h2 (fa++oa)) (by simpa using hm) ⟨by simp[hn],by simp[h0],by simp[h1'],by simp[h5],by simp[h7],by simp,by simp,by simp,by simp,by simp,rfl,rfl,sB,.refl⟩ ?_ ?_
    ·rintro k S1 e h2 ⟨hn,h0,h1',h5,h7,h9,h10,h43,h44,h45,hl1,ht1,s2,hs2⟩ hlt2 hm
     replace hm:=Is.getN hm
     obtain⟨f,hf,hm⟩:=hm
     have hltk:k < S.fks.length:=by omega
     have hltk2:k < S1.fks.length:=by omega
     have hfl:=s2.len.2.1.2
     simp only[lim_eq] at hfl
     have hw:IntKind.i64.wrap ((k:Int)+1)=(k:Int)+1:=IntWalk.i64_in _ (by omega)
     obtain⟨lf,cf,Bf,rfl,bxf,hle⟩:=s2.fkH hf
     obtain⟨hlf,hllf,c1f,el,hcf,hcl,w0,-⟩:=s2.fkK bxf hf
     have q0:=el.rd0 3 (by omega)
     have q1:=el.rd 1 1 (by omega)
     simp at q0 q1
     obtain⟨b5,b7,b9,bl⟩:=en h2 hs2
     have hnf:=ne_new (s2.lt lf (by simp[hlf]))
     have hep2:h1.ep < h2.ep:=Nat.lt_of_lt_of_le hepB hs2.1
     have hn5:=ne_new (l:=(h.ep,80)) (n:=h2.ep) (by simp;omega)
     have hn7:=ne_new (l:=(h.ep+1,112)) (n:=h2.ep) (by simp;omega)
     have hzz:Same h2 ((h2.setBox (h2.ep,192) [C.d (D.str ByteArray.empty),C.nil,C.d (D.str ByteArray.empty)]).next.setBox (h2.ep,192) [.d (.str f.table),c1f,.d (.str f.ref)]) []:=((Same.refl.setBox (.inr (Nat.le_refl _))).next).setBox (.inr (Nat.le_refl _))
     cases hbt:strEq f.table T.name with
     | false=>
       simp only[hbt,Bool.not_false,cond_true] at hm
       simp[hn,h0,h5,h7,h43,h44,h45,hltk,hltk2,bxf,q0,b7,hn7,hbt,hw]
       exact BackF.of S1 ⟨⟨by simp[hn],by simp[h0],by simp[h1'],by simp[h5],by simp[h7],by simp[h9],by simp[h10],by simp[h43],by simp[h44],by simp,hl1,ht1,s2.frame hzz,hs2.trans (hzz.mono (by simp))⟩,hm⟩
     | true=>
       simp only[hbt,Bool.not_true,cond_false] at hm
       replace hm:=hm.bind
       obtain⟨o,ho,hm⟩:=hm
       simp (maxDischargeDepth:=12) [hn,h0,h5,h7,h43,h44,h45,hltk,hltk2,bxf,q0,b7,b5,hn5,hn7,hbt,e6,le_s]
       have hy2:=hs2.trans (hzz.mono (by simp))
       generalize hX4:(h2.setBox (h2.ep,192) [C.d (D.str ByteArray.empty),C.nil,C.d (D.str ByteArray.empty)]).next.setBox (h2.ep,192) [.d (.str f.table),c1f,.d (.str f.ref)]=HZ at hzz hy2 ⊢
       have bz12:HZ.box (h2.ep,192)=some [.d (.str f.table),c1f,.d (.str f.ref)]:=by rw[← hX4];simp
       have bzf:HZ.box lf=some Bf:=by rw[hzz.2 lf (s2.lt lf (by simp[hlf])) (by simp)];exact bxf
       have hepz:h2.ep < HZ.ep:=by rw[← hX4];simp
       refine callK_heap (HSpec.of_lend (c_evolution_overlap f.cols step.cols o ho) ⟨.one (.frz (hcf _ hzz)),.one (.frz (e6f _ hy2)),trivial⟩ rfl ?_)
       have hy3:=hy2.next
       have hzz3:=hzz.next
       have s3:=s2.frame hzz3
       have hb3:=s3.box
       cases ho1:o == 1 with
       | true=>
         simp only[ho1,cond_true] at hm
         have e1:=r_ret hm
         simp only[Prod.mk.injEq] at e1
         obtain⟨rfl,rfl⟩:=e1
         simp[hn,ho1]
         exact hk _ _ s3.ows (all _ hy3) (fun k hk=>.inl hk)
       | false=>
         simp only[ho1,cond_false] at hm
         cases ho2:o == 2 with
         | false=>
           simp only[ho2,cond_false] at hm
           simp[hn,h45,ho1,ho2,hw]
           exact BackF.of S1 ⟨⟨by simp[hn],by simp[h0],by simp[h1'],by simp[h5],by simp[h7],by simp[h9],by simp[h10],by simp[h43],by simp[h44],by simp,hl1,ht1,s3,hy3⟩,hm⟩
         | true=>
           simp only[ho2,cond_true] at hm
           simp[hn,ho1,ho2]
           obtain⟨b5',b7',b9',bl'⟩:=en _ hy3
           simp at b5' hb3
           obtain⟨-,-,c1g,el3,-,-,w3,-⟩:=s3.fkK (by simpa using bzf) hf
           obtain rfl:c1g=c1f:=by
            have:=el3.rd 1 1 (by omega)
            simp[q1] at this
            exact this.symm
           refine Wait.cut (Plan.then_ [0,1,2,3,4,5,6,7,8,9] .done) follows (by kernel_rfl) (fun e h3=>e.n=206∧e.get 0=.one (.ptr l 0)∧e.get 1=.one (.d (.int .i64 (i:Int)))∧e.get 5=.one (.ptr (h.ep,80) 0)∧e.get 7=.one (.ptr (h.ep+1,112) 0)∧e.get 9=.one (.ptr (h1.ep,144) 0)∧e.get 10=.one (.fn 180 [.lab (h1.ep,144),.lab (h.ep,80)])∧e.get 43=.one (.mrow lf 0 S1.fks.length cf)∧e.get 44=.one (.d (.int .i64 (S.fks.length:Int)))∧e.get 45=.one (.d (.int .i64 (k:Int)))∧e.get 11=.one (.d (.int .i64 (k:Int)))∧e.get 12=.one (.ptr (h2.ep,192) 0)∧h3.box (h2.ep,192)=some [.d (.str f.table),c1g,.d (.str f.ref)] ∧
            Sc h3 l { S1 with fks:=S1.fks.set k ⟨step.other,f.cols,f.ref⟩ } (.mrow lt 0 S.tables.length cap) (.mrow lf 0 S1.fks.length cf) oc ta fa oa∧h3.box lf=some (setCells Bf (k * 3) [.d (.str step.other)])∧Same HB h3 (fa++oa)) ?_ ?_
           ·simp[hn,h0,h5,hltk2,hb3,b5',bzf,e2,Plan.then_,vcPlan,planOps,isCallAt,callKind]
            refine⟨by omega,CutK.of ⟨by simp[hn],by simp[h0],by simp[h1'],by simp[h5],by simp[h7],by simp[h9],by simp[h10],by simp[h43],by simp[h44],by simp[h45],by simp,by simp,?_,w3 step.other,by simp,hy3.setBox (.inl (by simp[hlf]))⟩⟩
            have:¬ (h2.ep,192)=lf:=fun he=>by have:=hnf h2.ep 192 (Nat.le_refl _);rw[← he] at this;simp at this
            simp[this,bz12]
           ·rintro e h3 ⟨hn,h0,h1',h5,h7,h9,h10,h43,h44,h45,h11,h12,b12,s4,bxf4,hy4⟩
            have el4:=(s2.fkK bxf hf).2.2.choose_spec.1.set (g:=0) (vs:=[.d (.str step.other)]) (by simp) (by simp)
            have r4:takeN 1 ((setCells Bf (k * 3) [.d (.str step.other)]).drop (k * 3+1))=some [c1g]:=by
             have e1:=(s2.fkK bxf hf).2.2.choose_spec.1.rd 1 1 (by omega)
             simp[q1] at e1
             have e2:=el4.rd 1 1 (by omega)
             simp at e2
             rw[e2,e1]
            simp[hn,h12,b12]
            refine lenK_clen hcl.1 ?_
            simp[hn]
            refine Wait.count (N:=(f.cols.length:Int)) (s0:=({ S1 with fks:=S1.fks.set k ⟨step.other,f.cols,f.ref⟩ }:Sch)) (fun j S2 e h4=>e.n=206∧e.get 0=.one (.ptr l 0)∧e.get 1=.one (.d (.int .i64 (i:Int)))∧e.get 5=.one (.ptr (h.ep,80) 0)∧e.get 7=.one (.ptr (h.ep+1,112) 0)∧e.get 9=.one (.ptr (h1.ep,144) 0)∧e.get 10=.one (.fn 180 [.lab (h1.ep,144),.lab (h.ep,80)])∧e.get 43=.one (.mrow lf 0 S1.fks.length cf)∧e.get 44=.one (.d (.int .i64 (S.fks.length:Int)))∧e.get 45=.one (.d (.int .i64 (k:Int)))∧e.get 11=.one (.d (.int .i64 (k:Int)))∧e.get 74=.one c1g∧e.get 75=.one (.d (.int .i64 (f.cols.length:Int)))∧e.get 76=.one (.d (.int .i64 (j:Int))) ∧
             S2.fks.length=S.fks.length∧S2.tables=S.tables∧(∃ f2,S2.fks[k]?=some f2∧f2.cols.length=f.cols.length)∧h4.box lf=some (setCells Bf (k * 3) [.d (.str step.other)])∧Sc h4 l S2 (.mrow lt 0 S.tables.length cap) (.mrow lf 0 S1.fks.length cf) oc ta fa oa∧Same HB h4 (fa++oa)) (by simpa using hm) ⟨by simp[hn],by simp[h0],by simp[h1'],by simp[h5],by simp[h7],by simp[h9],by simp[h10],by simp[h43],by simp[h44],by simp[h45],by simp[h11],by simp,by simp,by simp,by simpa using hl1,ht1,⟨⟨step.other,f.cols,f.ref⟩,by simp[hltk2],rfl⟩,bxf4,s4,hy4⟩ ?_ ?_
            ·rintro j S2 e h4 ⟨hn,h0,h1',h5,h7,h9,h10,h43,h44,h45,h11,h74,h75,h76,hl2,ht2,⟨f2,hf2,hfl2⟩,bx3,s3,hs3⟩ hltj hm
             replace hm:=hm.getN
             obtain⟨f3,hf3,hm⟩:=hm
             rw[hf2] at hf3
             cases hf3
             replace hm:=hm.getN
             obtain⟨v,hv,hm⟩:=hm
             replace hm:=hm.bind
             obtain⟨v',hv',hm⟩:=hm
             have hltj1:j < f.cols.length:=by omega
             have hltj2:j < f2.cols.length:=by omega
             have hcl1:=hcl.2
             simp only[lim_eq] at hcl1
             have hwj:IntKind.i64.wrap ((j:Int)+1)=(j:Int)+1:=IntWalk.i64_in _ (by omega)
             obtain⟨l2,cap2,B2,rfl,hl2m,hl2f,hll2,bx4,r5,hle4,w4⟩:=s3.fkN bx3 hf2 hv r4
             have hb3:=s3.box
             simp[hn,h0,h74,h75,h76,hltj1,hltj2,bx4,r5]
             refine Wait.cut (Plan.then_ [0,1,2,3,4,5,6,7,8,9,10,11,12,13] .done) follows (by kernel_rfl) (fun e h5=>e.n=206∧e.get 0=.one (.ptr l 0)∧e.get 1=.one (.d (.int .i64 (i:Int)))∧e.get 5=.one (.ptr (h.ep,80) 0)∧e.get 7=.one (.ptr (h.ep+1,112) 0)∧e.get 9=.one (.ptr (h1.ep,144) 0)∧e.get 10=.one (.fn 180 [.lab (h1.ep,144),.lab (h.ep,80)])∧e.get 43=.one (.mrow lf 0 S1.fks.length cf)∧e.get 44=.one (.d (.int .i64 (S.fks.length:Int)))∧e.get 45=.one (.d (.int .i64 (k:Int)))∧e.get 11=.one (.d (.int .i64 (k:Int)))∧e.get 74=.one (.mrow l2 0 f2.cols.length cap2)∧e.get 75=.one (.d (.int .i64 (f.cols.length:Int)))∧e.get 76=.one (.d (.int .i64 (j:Int))) ∧
              h5.box lf=some (setCells Bf (k * 3) [.d (.str step.other)])∧Sc h5 l { S2 with fks:=S2.fks.set k ⟨f2.table,f2.cols.set j v',f2.ref⟩ } (.mrow lt 0 S.tables.length cap) (.mrow lf 0 S1.fks.length cf) oc ta fa oa∧Same HB h5 (fa++oa)) ?_ ?_
             ·simp[hb3,hn,h0,h10,h11,h74,h75,h76,hltj1,hltj2,hltk2,bx3,bx4,r4,r5,Plan.then_,vcPlan,planOps,isCallAt,callKind]
              refine callK_heap (HSpec.of_lend (c_evolution_splitTable_1 v T.pk.length step v' hv') ⟨.one (.frz (.data rfl)),lend h4 hs3⟩ rfl ?_)
              simp[hn,hltj2,bx4]
              refine⟨fun _ _ x=>x,by omega,CutK.of ⟨by simp[hn],by simp[h0],by simp[h1'],by simp[h5],by simp[h7],by simp[h9],by simp[h10],by simp[h43],by simp[h44],by simp[h45],by simp[h11],by simp[h74],by simp[h75],by simp[h76],?_,?_,?_⟩⟩
              ·simp[hl2f.symm,bx3]
              ·have:=(s3.frame (Same.refl.next:Same h4 h4.next [])).fkN (by simpa using bx3) hf2 hv r4
               obtain⟨l2',cap2',B2',e1,k2,k3,k4,k5,k6,k7,k8⟩:=this
               simp at e1
               obtain⟨rfl,rfl⟩:=e1
               simp only[next_box,bx4] at k5
               cases k5
               exact k8 v'
              ·exact (hs3.next).setBox (.inl (by simp[hl2m]))
             ·rintro e h5' ⟨hn,h0,h1',h5,h7,h9,h10,h43,h44,h45,h11,h74,h75,h76,bx5',s5,hs5⟩
              simp[hn,h76,hwj]
              have hi2:k < S2.fks.length:=by omega
              exact BackF.of ({ S2 with fks:=S2.fks.set k ⟨f2.table,f2.cols.set j v',f2.ref⟩ }:Sch) ⟨⟨by simp[hn],by simp[h0],by simp[h1'],by simp[h5],by simp[h7],by simp[h9],by simp[h10],by simp[h43],by simp[h44],by simp[h45],by simp[h11],by simp[h74],by simp[h75],by simp,by simpa using hl2,ht2,⟨⟨f2.table,f2.cols.set j v',f2.ref⟩,by simp[hi2],by simpa using hfl2⟩,bx5',s5,hs5⟩,hm⟩
            ·rintro j S2 e h4 ⟨hn,h0,h1',h5,h7,h9,h10,h43,h44,h45,h11,h74,h75,h76,hl2,ht2,⟨f2,hf2,hfl2⟩,bx3,s3,hs3⟩ hge hm
             have hge1:¬ j < f.cols.length:=by omega
             simp[hn,h45,h75,h76,hge1,hw]
             exact BackF.of S2 ⟨⟨by simp[hn],by simp[h0],by simp[h1'],by simp[h5],by simp[h7],by simp[h9],by simp[h10],by simp[h43],by simp[h44],by simp,hl2,ht2,s3,hs3⟩,hm⟩
    ·rintro k S1 e h2 ⟨hn,h0,h1',h5,h7,h9,h10,h43,h44,h45,hl1,ht1,s2,hs2⟩ hge hm
     have hge1:¬ k < S.fks.length:=by omega
     have hb2:=s2.box
     simp[hn,h0,h44,h45,hge1,hb2]
     refine lenK_clen s2.len.2.2.1 ?_
     simp[hn]
     refine Wait.count (N:=(S1.cons.length:Int)) (s0:=S1) (fun k S2 e h3=>e.n=206∧e.get 0=.one (.ptr l 0)∧e.get 1=.one (.d (.int .i64 (i:Int)))∧e.get 5=.one (.ptr (h.ep,80) 0)∧e.get 7=.one (.ptr (h.ep+1,112) 0)∧e.get 9=.one (.ptr (h1.ep,144) 0)∧e.get 10=.one (.fn 180 [.lab (h1.ep,144),.lab (h.ep,80)])∧e.get 99=.one oc∧e.get 100=.one (.d (.int .i64 (S1.cons.length:Int)))∧e.get 101=.one (.d (.int .i64 (k:Int)))∧S2.cons.length=S1.cons.length∧S2.tables=S.tables∧Sc h3 l S2 (.mrow lt 0 S.tables.length cap) fc oc ta fa oa∧Same HB h3 (fa++oa)) (by simpa using hm) ⟨by simp[hn],by simp[h0],by simp[h1'],by simp[h5],by simp[h7],by simp[h9],by simp[h10],by simp,by simp,by simp,rfl,ht1,s2,hs2⟩ ?_ ?_
     ·rintro k S2 e h3 ⟨hn,h0,h1',h5,h7,h9,h10,h99,h100,h101,hl3,ht2,s3,hs3⟩ hlt2 hm
      replace hm:=Is.getN hm
      obtain⟨c,hc,hm⟩:=hm
      have hltk:k < S1.cons.length:=by omega
      have hltk2:k < S2.cons.length:=by omega
      have hfl:=s3.len.2.2.2
      simp only[lim_eq] at hfl
      have hw:IntKind.i64.wrap ((k:Int)+1)=(k:Int)+1:=IntWalk.i64_in _ (by omega)
      obtain⟨lo,co,Bo,rfl,bxo,hle⟩:=s3.conH hc
      obtain⟨hlo,hllo,el,-,-,-⟩:=s3.conK bxo hc
      have q0:=el.rd0 7 (by omega)
      simp at q0
      obtain⟨b5,b7,b9,bl⟩:=en h3 hs3
      have hno:=ne_new (s3.lt lo (by simp[hlo]))
      have hep3:h1.ep < h3.ep:=Nat.lt_of_lt_of_le hepB hs3.1
      have hn5:=ne_new (l:=(h.ep,80)) (n:=h3.ep) (by simp;omega)
      have hn7:=ne_new (l:=(h.ep+1,112)) (n:=h3.ep) (by simp;omega)
      have hzz:Same h3 ((h3.setBox (h3.ep,256) [C.d (D.str ByteArray.empty),C.d (D.int IntKind.i64 0),C.d (D.str ByteArray.empty),C.d (D.int IntKind.i64 0),C.d (D.int IntKind.i64 0),C.d (D.int IntKind.i64 0),C.d (D.str ByteArray.empty)]).next.setBox (h3.ep,256) [C.d (D.str c.table),C.d (D.int IntKind.i64 c.left),C.d (D.str c.op),C.d (D.int IntKind.i64 c.right),C.d (D.int IntKind.i64 c.value.kind),C.d (D.int IntKind.i64 c.value.int),C.d (D.str c.value.text)]) []:=((Same.refl.setBox (.inr (Nat.le_refl _))).next).setBox (.inr (Nat.le_refl _))
      cases hbt:strEq c.table T.name with
      | false=>
        simp only[hbt,Bool.not_false,cond_true] at hm
        simp[hn,h0,h5,h7,h99,h100,h101,hltk,hltk2,bxo,q0,b7,hn7,hbt,hw]
        exact BackF.of S2 ⟨⟨by simp[hn],by simp[h0],by simp[h1'],by simp[h5],by simp[h7],by simp[h9],by simp[h10],by simp[h99],by simp[h100],by simp,hl3,ht2,s3.frame hzz,hs3.trans (hzz.mono (by simp))⟩,hm⟩
      | true=>
        simp only[hbt,Bool.not_true,cond_false] at hm
        replace hm:=hm.bind
        obtain⟨cc,hcc,hm⟩:=hm
        replace hm:=hm.bind
        obtain⟨o,ho,hm⟩:=hm
        simp (maxDischargeDepth:=12) [hn,h0,h5,h7,h99,h100,h101,hltk,hltk2,bxo,q0,b7,b5,hn5,hn7,hbt,e6,le_s]
        have hy2:=hs3.trans (hzz.mono (by simp))
        generalize hX4:((h3.setBox (h3.ep,256) [C.d (D.str ByteArray.empty),C.d (D.int IntKind.i64 0),C.d (D.str ByteArray.empty),C.d (D.int IntKind.i64 0),C.d (D.int IntKind.i64 0),C.d (D.int IntKind.i64 0),C.d (D.str ByteArray.empty)]).next.setBox (h3.ep,256) [C.d (D.str c.table),C.d (D.int IntKind.i64 c.left),C.d (D.str c.op),C.d (D.int IntKind.i64 c.right),C.d (D.int IntKind.i64 c.value.kind),C.d (D.int IntKind.i64 c.value.int),C.d (D.str c.value.text)])=HZ at hzz hy2 ⊢
        have bz16:HZ.box (h3.ep,256)=some [C.d (D.str c.table),C.d (D.int IntKind.i64 c.left),C.d (D.str c.op),C.d (D.int IntKind.i64 c.right),C.d (D.int IntKind.i64 c.value.kind),C.d (D.int IntKind.i64 c.value.int),C.d (D.str c.value.text)]:=by rw[← hX4];simp
        have bzo:HZ.box lo=some Bo:=by rw[hzz.2 lo (s3.lt lo (by simp[hlo])) (by simp)];exact bxo
        have hepz:h3.ep < HZ.ep:=by rw[← hX4];simp
        obtain⟨b5z,-⟩:=en HZ hy2
        have hy4:=hy2.next.next
        have hzz4:=hzz.next.next
        refine Wait.cut (Plan.then_ [0,2,3,1,4] .done) follows (by kernel_rfl) (fun e h4=>e.n=206∧e.get 0=.one (.ptr l 0)∧e.get 1=.one (.d (.int .i64 (i:Int)))∧e.get 5=.one (.ptr (h.ep,80) 0)∧e.get 7=.one (.ptr (h.ep+1,112) 0)∧e.get 9=.one (.ptr (h1.ep,144) 0)∧e.get 10=.one (.fn 180 [.lab (h1.ep,144),.lab (h.ep,80)])∧e.get 99=.one (.mrow lo 0 S2.cons.length co)∧e.get 100=.one (.d (.int .i64 (S1.cons.length:Int)))∧e.get 101=.one (.d (.int .i64 (k:Int)))∧e.get 15=.one (.d (.int .i64 (k:Int)))∧e.get 16=.one (.ptr (h3.ep,256) 0)∧e.get 115=.one (.d (.int .i64 o))∧h4=HZ.next.next) ?_ ?_
        ·simp[hn,h5,bz16,b5z,e6,Plan.then_,vcPlan,planOps,isCallAt,callKind]
         refine callK_fn (c_evolution_constraintColumns c cc hcc) (by simp) ?_
         simp[hn]
         refine⟨fun _ _ x=>x,?_⟩
         refine callK_heap (HSpec.of_lend (c_evolution_overlap cc step.cols o ho) ⟨.one (.frz (.data rfl)),.one (.frz (e6f _ hy2.next)),trivial⟩ rfl ?_)
         simp[hn]
         exact⟨fun _ _ x=>x,CutK.of ⟨by simp[hn],by simp[h0],by simp[h1'],by simp[h5],by simp[h7],by simp[h9],by simp[h10],by simp[h99],by simp[h100],by simp[h101],by simp,by simp,by simp,rfl⟩⟩
        ·rintro e h4 ⟨hn,h0,h1',h5,h7,h9,h10,h99,h100,h101,h15,h16,h115,rfl⟩
         have s4:=s3.frame hzz4
         have hb4:=s4.box
         simp at hb4
         simp[hn,h115]
         cases ho1:o == 1 with
         | true=>
           simp only[ho1,cond_true] at hm
           have e1:=r_ret hm
           simp only[Prod.mk.injEq] at e1
           obtain⟨rfl,rfl⟩:=e1
           simp[hn,ho1]
           exact hk _ _ s4.ows (all _ hy4) (fun k hk=>.inl hk)
         | false=>
           simp only[ho1,cond_false] at hm
           cases ho2:o == 2 with
           | false=>
             simp only[ho2,cond_false] at hm
             simp[hn,h101,h115,ho1,ho2,hw]
             exact BackF.of S2 ⟨⟨by simp[hn],by simp[h0],by simp[h1'],by simp[h5],by simp[h7],by simp[h9],by simp[h10],by simp[h99],by simp[h100],by simp,hl3,ht2,s4,hy4⟩,hm⟩
           | true=>
             simp only[ho2,cond_true] at hm
             replace hm:=hm.bind
             obtain⟨v,hv,hm⟩:=hm
             simp[hn,h115,ho1,ho2]
             obtain⟨-,-,-,w0,-,-⟩:=s4.conK (by simpa using bzo) hc
             have s5:=w0 step.other
             have hc5:({ S2 with cons:=S2.cons.set k { c with table:=step.other } }:Sch).cons[k]?=some { c with table:=step.other }:=by simp[hltk2]
             refine Wait.cut (Plan.then_ [0,1,2,3,4,5,6,7,8,9,10,11,12,13,14,15,16,17,18,19,20,21] .done) follows (by kernel_rfl) (fun e h4=>e.n=206∧e.get 0=.one (.ptr l 0)∧e.get 1=.one (.d (.int .i64 (i:Int)))∧e.get 5=.one (.ptr (h.ep,80) 0)∧e.get 7=.one (.ptr (h.ep+1,112) 0)∧e.get 9=.one (.ptr (h1.ep,144) 0)∧e.get 10=.one (.fn 180 [.lab (h1.ep,144),.lab (h.ep,80)])∧e.get 99=.one (.mrow lo 0 S2.cons.length co)∧e.get 100=.one (.d (.int .i64 (S1.cons.length:Int)))∧e.get 101=.one (.d (.int .i64 (k:Int)))∧e.get 15=.one (.d (.int .i64 (k:Int)))∧e.get 16=.one (.ptr (h3.ep,256) 0)∧h4.box (h3.ep,256)=some [C.d (D.str c.table),C.d (D.int IntKind.i64 c.left),C.d (D.str c.op),C.d (D.int IntKind.i64 c.right),C.d (D.int IntKind.i64 c.value.kind),C.d (D.int IntKind.i64 c.value.int),C.d (D.str c.value.text)] ∧
              (∃ B4,h4.box lo=some B4∧B4.length=Bo.length)∧Sc h4 l { S2 with cons:=S2.cons.set k { c with table:=step.other,left:=v } } (.mrow lt 0 S.tables.length cap) fc (.mrow lo 0 S2.cons.length co) ta fa oa∧Same HB h4 (fa++oa)) ?_ ?_
             ·simp[hn,h0,h5,h10,h15,h16,hltk2,hb4,b5z,bz16,e2,Plan.then_,vcPlan,planOps,isCallAt,callKind]
              refine callK_heap (HSpec.of_lend (c_evolution_splitTable_1 c.left T.pk.length step v hv) ⟨.one (.frz (.data rfl)),lend _ hy4⟩ rfl ?_)
              have sc:=s3.frame hzz4.next
              obtain⟨-,-,-,w0c,-,-⟩:=sc.conK (by simpa using bzo) hc
              obtain⟨-,-,-,-,w1c,-⟩:=(w0c step.other).conK (B:=setCells Bo (k * 7) [.d (.str step.other)]) (by simp) hc5
              have hle5:(setCells Bo (k * 7) [C.d (D.str step.other)]).length=Bo.length:=setCells_length (by simp;omega)
              have hle6:(setCells (setCells Bo (k * 7) [C.d (D.str step.other)]) (k * 7+1) [C.d (D.int IntKind.i64 v)]).length=Bo.length:=by rw[setCells_length (by simp;omega),hle5]
              have hz16:¬ (h3.ep,256)=lo:=fun he=>by have:=hno h3.ep 256 (Nat.le_refl _);rw[← he] at this;simp at this
              simp[hn,hltk2,bzo,hle5]
              refine⟨fun _ _ x=>x,by omega,by omega,CutK.of ⟨by simp[hn],by simp[h0],by simp[h1'],by simp[h5],by simp[h7],by simp[h9],by simp[h10],by simp[h99],by simp[h100],by simp[h101],by simp[h15],by simp[h16],?_,⟨_,by simp,hle6⟩,?_,((hy4.next).setBox (.inl (by simp[hlo]))).setBox (.inl (by simp[hlo]))⟩⟩
              ·simp[hz16,bz16]
              ·simpa using w1c v
             ·rintro e h4 ⟨hn,h0,h1',h5,h7,h9,h10,h99,h100,h101,h15,h16,b16,⟨B4,bo4,hlb4⟩,s6,hy6⟩
              have hc6:({ S2 with cons:=S2.cons.set k { c with table:=step.other,left:=v } }:Sch).cons[k]?=some { c with table:=step.other,left:=v }:=by simp[hltk2]
              cases hr:decide (0≤c.right) with
              | false=>
                simp only[hr,cond_false] at hm
                simp at hr
                have hr2:¬ 0≤c.right:=by omega
                simp[hn,h16,b16,h101,hr2,hw]
                exact BackF.of ({ S2 with cons:=S2.cons.set k { c with table:=step.other,left:=v } }:Sch) ⟨⟨by simp[hn],by simp[h0],by simp[h1'],by simp[h5],by simp[h7],by simp[h9],by simp[h10],by simp[h99],by simp[h100],by simp,by simpa using hl3,ht2,s6,hy6⟩,hm⟩
              | true=>
                simp only[hr,cond_true] at hm
                simp at hr
                replace hm:=hm.bind
                obtain⟨w,hwv,hm⟩:=hm
                have hb6:=s6.box
                simp[hn,h16,b16,hr]
                refine Wait.cut (Plan.then_ [0,1,2,3,4,5,6,7,8,9,10,11] .done) follows (by kernel_rfl) (fun e h4=>e.n=206∧e.get 0=.one (.ptr l 0)∧e.get 1=.one (.d (.int .i64 (i:Int)))∧e.get 5=.one (.ptr (h.ep,80) 0)∧e.get 7=.one (.ptr (h.ep+1,112) 0)∧e.get 9=.one (.ptr (h1.ep,144) 0)∧e.get 10=.one (.fn 180 [.lab (h1.ep,144),.lab (h.ep,80)])∧e.get 99=.one (.mrow lo 0 S2.cons.length co)∧e.get 100=.one (.d (.int .i64 (S1.cons.length:Int)))∧e.get 101=.one (.d (.int .i64 (k:Int))) ∧
                 Sc h4 l { S2 with cons:=S2.cons.set k { c with table:=step.other,left:=v,right:=w } } (.mrow lt 0 S.tables.length cap) fc (.mrow lo 0 S2.cons.length co) ta fa oa∧Same HB h4 (fa++oa)) ?_ ?_
                ·simp[hn,h0,h10,h15,h16,hltk2,hb6,b16,Plan.then_,vcPlan,planOps,isCallAt,callKind]
                 refine callK_heap (HSpec.of_lend (c_evolution_splitTable_1 c.right T.pk.length step w hwv) ⟨.one (.frz (.data rfl)),lend _ hy6⟩ rfl ?_)
                 simp[hn,hltk2,bo4]
                 refine⟨fun _ _ x=>x,by omega,CutK.of ⟨by simp[hn],by simp[h0],by simp[h1'],by simp[h5],by simp[h7],by simp[h9],by simp[h10],by simp[h99],by simp[h100],by simp[h101],?_,hy6.next.setBox (.inl (by simp[hlo]))⟩⟩
                 have:=((s6.frame (Same.refl.next:Same h4 h4.next [])).conK (by simpa using bo4) hc6).2.2.2.2.2 w
                 simpa using this
                ·rintro e h4 ⟨hn,h0,h1',h5,h7,h9,h10,h99,h100,h101,s7,hy7⟩
                 simp[hn,h101,hw]
                 exact BackF.of ({ S2 with cons:=S2.cons.set k { c with table:=step.other,left:=v,right:=w } }:Sch) ⟨⟨by simp[hn],by simp[h0],by simp[h1'],by simp[h5],by simp[h7],by simp[h9],by simp[h10],by simp[h99],by simp[h100],by simp,by simpa using hl3,ht2,s7,hy7⟩,hm⟩
     ·rintro k S2 e h3 ⟨hn,h0,h1',h5,h7,h9,h10,h99,h100,h101,hl3,ht2,s3,hs3⟩ hge hm
      have hge1:¬ k < S1.cons.length:=by omega
      replace hm:=hm.chk
      obtain⟨hlim,hm⟩:=hm
      obtain⟨b5,b7,b9,bl⟩:=en h3 hs3
      have hep3:h1.ep < h3.ep:=Nat.lt_of_lt_of_le hepB hs3.1
      simp[hn,h100,h101,hge1]
      have hplim:T.pk.length≤LIM:=tv.n2.2
      have n5:=ne_new (l:=(h.ep,80)) (n:=h3.ep) (by simp;omega)
      have n7:=ne_new (l:=(h.ep+1,112)) (n:=h3.ep) (by simp;omega)
      have n9:=ne_new (l:=(h1.ep,144)) (n:=h3.ep) (by simpa using hep3)
      refine Wait.cut (Plan.then_ [0,1,2] (.two 3 5 (Plan.then_ [] (.two 4 5 (Plan.then_ [5,6] .done) (Plan.then_ [4,6] .done))) (Plan.then_ [3,4,6] .done))) follows (by kernel_rfl) (fun e h4=>e.n=206∧e.get 0=.one (.ptr l 0)∧e.get 1=.one (.d (.int .i64 (i:Int)))∧e.get 5=.one (.ptr (h.ep,80) 0)∧e.get 7=.one (.ptr (h.ep+1,112) 0)∧e.get 9=.one (.ptr (h1.ep,144) 0)∧Same h3 h4 []∧∃ (p17:Lab) (pc:C),e.get 17=.one (.ptr p17 0)∧h4.box p17=some [.d (.str step.other),.nil,pc]∧(h3.ep≤p17.1∧p17.1 < h4.ep)∧MR h4 1 pc ((seqI T.pk.length).map fun c=>(encI c).map C.d)∧∀ k ∈ labs pc,h3.ep≤k.1∧k.1 < h4.ep∧k≠p17) ?_ ?_
      ·simp (maxDischargeDepth:=12) [hn,h0,h5,h9,b5,b9,e2,n5,n9,le_s,Plan.then_,vcPlan,planOps,isCallAt,callKind]
       refine⟨?_,?_⟩
       ·refine callK_heap (h_evolution_sequence _ T.pk.length hplim _ (fun pc h4 mp hs4 hlp hbox=>?_))
        simp[hn]
        have hep4:=hs4.1
        have hk1:∀ k ∈ labs pc,k≠(h4.ep,272):=fun k hk he=>by have:=(hlp k hk).2;rw[he] at this;simp at this
        refine⟨hbox,?_⟩
        repeat' (with_reducible apply And.intro)
        all_goals
         refine CutK.of ⟨by simp[hn],by simp[h0],by simp[h1'],by simp[h5],by simp[h7],by simp[h9],((hs4.setBox (.inr (by simpa using hep4))).next.setBox (.inr (by simpa using hep4))),(h4.ep,272),pc,by simp,by simp,⟨by simpa using hep4,by simp⟩,mp.frame fun k hk=>by simp[hk1 k hk],fun k hk=>⟨(hlp k hk).1,by have:=(hlp k hk).2;simp;omega,hk1 k hk⟩⟩
       ·have hz5:Same h3 ((h3.setBox (h3.ep,272) [C.d (D.str ByteArray.empty),C.nil,C.nil]).next) []:=(Same.refl.setBox (.inr (Nat.le_refl _))).next
        refine callK_heap (h_evolution_sequence _ T.pk.length hplim _ (fun pc h4 mp hs4 hlp hbox=>?_))
        have hep4:=hs4.1
        simp at hep4
        have hk1:∀ k ∈ labs pc,k≠(h3.ep,272):=fun k hk he=>by have:=(hlp k hk).1;rw[he] at this;exact absurd (show h3.ep+1≤h3.ep by simpa using this) (by omega)
        have b17:h4.box (h3.ep,272)=some [C.d (D.str ByteArray.empty),C.nil,C.nil]:=hbox _ _ (by simp)
        simp[hn,b17]
        refine⟨hbox,?_⟩
        refine CutK.of ⟨by simp[hn],by simp[h0],by simp[h1'],by simp[h5],by simp[h7],by simp[h9],((hz5.trans hs4).setBox (.inr (Nat.le_refl _))),(h3.ep,272),pc,by simp,by simp,⟨by simp,by simp;omega⟩,mp.frame fun k hk=>by simp[hk1 k hk],fun k hk=>⟨by have:=(hlp k hk).1;simp at this;omega,by simpa using (hlp k hk).2,hk1 k hk⟩⟩
      ·rintro e h4 ⟨hn,h0,h1',h5,h7,h9,hs4,p17,pc,h17,b17,hp17,mp,hlp⟩
       have hs34:=hs3.trans (hs4.mono (by simp))
       obtain⟨b54,b74,b94,bl4⟩:=en h4 hs34
       have s4:=s3.frame hs4
       have hi2:S2.tables[i]?=some T:=by rw[ht2];exact hi
       have tvf:∀ h',Same h4 h' []→TblV h' l S2 (.mrow lt 0 S.tables.length cap) fc oc ta fa oa i T lt c1 c2 B:=fun h' hs'=>by
        obtain⟨a1,a2,tv9⟩:=(s4.frame hs').tblK ((en h' (hs34.trans (hs'.mono (by simp)))).2.2.2) hi2
        obtain⟨rfl,rfl⟩:a1=c1∧a2=c2:=by
         have:=tv9.el.rd0 3 (by omega)
         rw[r0] at this
         simp at this
         exact⟨this.1.symm,this.2.symm⟩
        exact tv9
       have hcl6:=(hsf h4 (all _ hs34)).stp
       have o6n:=o6.nlen
       simp at o6n
       simp[hn]
       refine Wait.cut (Plan.then_ [0,1,3,4,7,2,5,6] .done) follows (by kernel_rfl) (fun e h5=>e.n=206∧e.get 0=.one (.ptr l 0)∧e.get 1=.one (.d (.int .i64 (i:Int)))∧e.get 5=.one (.ptr (h.ep,80) 0)∧e.get 7=.one (.ptr (h.ep+1,112) 0)∧e.get 9=.one (.ptr (h1.ep,144) 0)∧Same h4 h5 []∧e.get 17=.one (.ptr p17 0)∧∃ hc:C,e.get 165=.one hc∧e.get 166=.one (.d (.int .i64 ((T.pk++step.cols).length:Int)))∧e.get 167=.one (.d (.int .i64 0))∧MR h5 1 hc ((T.pk++step.cols).map fun c=>(encI c).map C.d)∧∀ k ∈ labs hc,h4.ep≤k.1∧k.1 < h5.ep) ?_ ?_
       ·simp[hn,h0,h5,h7,b54,b74,e6,Plan.then_,vcPlan,planOps,isCallAt,callKind]
        refine callK_heap (h_slices_Clone_Int _ c2 (T.pk.map fun c=>(encI c).map C.d) (by rw[dmap_len];exact ((tvf h4 .refl).f2 _ .refl).rowAt (n:=1) (by simp[D.flat]) (by simpa using hplim)) _ (fun hc g5 mh hs5 hlh hbox=>?_))
        simp[hn]
        refine⟨hbox,?_⟩
        have hf6:=(e6f g5 (hs34.trans (hs5.mono (by simp)))).rowAt (n:=1) (by simp[D.flat]) (by simpa using o6n.2)
        rw[← dmap_len] at hf6
        refine app_mr (by simp;exact⟨rfl,rfl⟩) (by simp) (by simp) (by simp) mh hf6 (by simpa using hlim) (fun hc' g6 mh' hs6 hlh'=>?_)
        simp[hn]
        have mh2:MR g6 1 hc' ((T.pk++step.cols).map fun c=>(encI c).map C.d):=by simpa using mh'
        refine lenK_clen (n:=(T.pk++step.cols).length) (by rw[mh2.len];simp) ?_
        simp[hn]
        have hep5:=hs5.1
        have hep6:=hs6.1
        refine CutK.of ⟨by simp[hn],by simp[h0],by simp[h1'],by simp[h5],by simp[h7],by simp[h9],hs5.trans' hs6 (fun k hk=>.inr (hlh k hk).1),by simp[h17],hc',by simp,by simp,by simp,mh2,fun k hk=>?_⟩
        rcases hlh' k hk with h2 | h2
        ·have:=hlh k h2;omega
        ·omega
       ·rintro e g5 ⟨hn,h0,h1',h5,h7,h9,hs5,h17,hc,h165,h166,h167,mh,hlh⟩
        have hep34:=hs4.1
        have hep45:=hs5.1
        have b175:g5.box p17=some [.d (.str step.other),.nil,pc]:=by rw[hs5.2 p17 hp17.2 (by simp)];exact b17
        have mp5:MR g5 1 pc ((seqI T.pk.length).map fun c=>(encI c).map C.d):=mp.frame fun k hk=>hs5.2 k (hlp k hk).2.1 (by simp)
        refine Wait.for (xs:=T.pk++step.cols) (s0:=[]) (fun k acc e g=>e.n=206∧e.get 0=.one (.ptr l 0)∧e.get 1=.one (.d (.int .i64 (i:Int)))∧e.get 5=.one (.ptr (h.ep,80) 0)∧e.get 7=.one (.ptr (h.ep+1,112) 0)∧e.get 9=.one (.ptr (h1.ep,144) 0)∧Same h4 g [p17]∧e.get 17=.one (.ptr p17 0)∧e.get 165=.one hc∧e.get 166=.one (.d (.int .i64 ((T.pk++step.cols).length:Int)))∧e.get 167=.one (.d (.int .i64 (k:Int)))∧MR g 1 hc ((T.pk++step.cols).map fun c=>(encI c).map C.d)∧MR g 1 pc ((seqI T.pk.length).map fun c=>(encI c).map C.d)∧g5.ep≤g.ep∧acc.length≤k ∧
         ∃ ch,g.box p17=some [.d (.str step.other),ch,pc]∧MR g 3 ch (acc.map fun c=>c.enc.map C.d)∧∀ k ∈ labs ch,g5.ep≤k.1∧k.1 < g.ep) hm ⟨by simp[hn],by simp[h0],by simp[h1'],by simp[h5],by simp[h7],by simp[h9],hs5.mono (by simp),by simp[h17],by simp[h165],by simp[h166],by simp[h167],mh,mp5,Nat.le_refl _,by simp,.nil,b175,MR.nil,by simp[labs]⟩ ?_ ?_
        ·rintro k acc e g ⟨hn,h0,h1',h5,h7,h9,hsg,h17,h165,h166,h167,mh,mp,hepg,hal,ch,b17g,mc,hlc⟩ hltk hm
         simp only[m_splitT] at hm
         replace hm:=hm.get
         obtain⟨c,hc0,hcc,hm⟩:=hm
         have hw:IntKind.i64.wrap ((k:Int)+1)=(k:Int)+1:=IntWalk.i64_in _ (by have:=hlim;simp at hltk this;omega)
         obtain⟨lh,caph,Bh,rfl,bh,rh⟩:=mh.at (k:=k) (x:=[.d (.int .i64 (T.pk++step.cols)[k])]) (by rw[List.getElem?_map,List.getElem?_eq_getElem hltk];rfl)
         simp only[List.length_map] at mh h165
         simp at rh
         obtain⟨n,hn1⟩:∃ n:Nat,(T.pk++step.cols)[k]=n:=⟨((T.pk++step.cols)[k]).toNat,by omega⟩
         rw[hn1] at rh hcc
         simp at hcc
         have hnl:n < T.cols.length:=(List.getElem?_eq_some_iff.1 hcc).1
         have hsg2:Same h3 g []:=hs4.trans' hsg (fun k hk=>.inr (by simp at hk;rw[hk];exact hp17.1))
         have hsg3:=hs3.trans (hsg2.mono (by simp))
         obtain⟨b5g,b7g,b9g,blg⟩:=en g hsg3
         have tvg:TblV g l S2 (.mrow lt 0 S.tables.length cap) fc oc ta fa oa i T lt c1 c2 B:=by
          obtain⟨a1,a2,tv9⟩:=(s3.frame hsg2).tblK blg hi2
          obtain⟨rfl,rfl⟩:a1=c1∧a2=c2:=by
           have:=tv9.el.rd0 3 (by omega)
           rw[r0] at this
           simp at this
           exact⟨this.1.symm,this.2.symm⟩
          exact tv9
         obtain⟨l2,cap2,B2,rfl,el2,-⟩:=tvg.e1 n c hcc
         have bx2:=el2.box
         have q0:=el2.rd0 3 (by omega)
         simp at q0
         have hltk':k < T.pk.length+step.cols.length:=by simpa using hltk
         have hltI:(k:Int) < (T.pk.length:Int)+(step.cols.length:Int):=by omega
         simp[hn,h165,h166,h167,hltk',hltI,bh,rh]
         refine Wait.cut (Plan.then_ [0,1,2,3,4,5,6,7,8,9,10] .done) follows (by kernel_rfl) (fun e g'=>e.n=206∧e.get 0=.one (.ptr l 0)∧e.get 1=.one (.d (.int .i64 (i:Int)))∧e.get 5=.one (.ptr (h.ep,80) 0)∧e.get 7=.one (.ptr (h.ep+1,112) 0)∧e.get 9=.one (.ptr (h1.ep,144) 0)∧Same h4 g' [p17]∧e.get 17=.one (.ptr p17 0)∧e.get 165=.one (.mrow lh 0 (T.pk++step.cols).length caph)∧e.get 166=.one (.d (.int .i64 ((T.pk++step.cols).length:Int)))∧e.get 167=.one (.d (.int .i64 (k:Int)))∧MR g' 1 (.mrow lh 0 (T.pk++step.cols).length caph) ((T.pk++step.cols).map fun c=>(encI c).map C.d)∧MR g' 1 pc ((seqI T.pk.length).map fun c=>(encI c).map C.d)∧g5.ep≤g'.ep ∧
          ∃ ch,g'.box p17=some [.d (.str step.other),ch,pc]∧MR g' 3 ch ((acc++[c]).map fun c=>c.enc.map C.d)∧∀ k ∈ labs ch,g5.ep≤k.1∧k.1 < g'.ep) ?_ ?_
         ·simp[hn,h7,h17,b17g,b7g,hn1,hnl,bx2,q0,Plan.then_,vcPlan,planOps,isCallAt,callKind]
          have hz:Same g ((g.setArr (g.ep,16 * 178) (some (1,3))).next) []:=Same.refl.setArr.next
          simp only[Nat.reduceMul] at hz
          have hlim2:T.pk.length+step.cols.length≤2097152:=hlim
          refine app_mr (by simp;exact⟨rfl,rfl⟩) (by simp) (by simp) (by simp) (mc.frame fun k hk=>hz.2 k (hlc k hk).2 (by simp)) (RowAt.own1 (by simp)) (by simp;omega) (fun c' g' hm' hs6 hl6=>?_)
          have hepz:=hs6.1
          simp at hepz
          have hp5:p17.1 < g5.ep:=Nat.lt_of_lt_of_le hp17.2 hep45
          have hkeep:∀ q:Lab,q.1 < g5.ep→g'.box q=g.box q:=fun q hq=>by
           rw[hs6.2 q (by simp;omega) fun h2=>by have:=(hlc q h2).1;omega]
           exact hz.2 q (by omega) (by simp)
          have b17':g'.box p17=some [.d (.str step.other),ch,pc]:=by rw[hkeep _ hp5];exact b17g
          have hnp:∀ q ∈ labs c',q≠p17∧g5.ep≤q.1∧q.1 < g'.ep:=fun q hq=>by
           rcases hl6 q hq with h2 | h2
           ·have:=hlc q h2;exact⟨fun he=>by rw[he] at this;omega,this.1,by omega⟩
           ·simp at h2;exact⟨fun he=>by rw[he] at h2;omega,by omega,h2.2⟩
          simp[hn,h17,b17']
          refine CutK.of ⟨by simp[hn],by simp[h0],by simp[h1'],by simp[h5],by simp[h7],by simp[h9],((hsg.trans (hz.mono (by simp))).trans' hs6 fun q hq=>.inr (by have:=(hlc q hq).1;omega)).setBox (.inl (by simp)),by simp[h17],by simp[h165],by simp[h166],by simp[h167],mh.frame fun q hq=>?_,mp.frame fun q hq=>?_,by simp;omega,c',by simp,?_,fun q hq=>⟨(hnp q hq).2.1,by simpa using (hnp q hq).2.2⟩⟩
          ·have h2:=hlh q hq
           have:q≠p17:=fun he=>by rw[he] at h2;have:=hp17.2;omega
           simp[this,hkeep q h2.2]
          ·have h2:=hlp q hq
           simp[h2.2.2,hkeep q (by omega)]
          ·refine MR.frame (h:=g') (by simpa using hm') fun q hq=>?_
           simp[(hnp q hq).1]
         ·rintro e g' ⟨hn,h0,h1',h5,h7,h9,hsg,h17,h165,h166,h167,mh,mp,hepg,ch,b17g,mc,hlc⟩
          simp[hn,h167,hw]
          exact BackF.of (acc++[c]) ⟨⟨by simp[hn],by simp[h0],by simp[h1'],by simp[h5],by simp[h7],by simp[h9],hsg,by simp[h17],by simp[h165],by simp[h166],by simp,by rw[List.length_map];exact mh,mp,hepg,by simp;omega,ch,b17g,mc,hlc⟩,hm⟩
        ·rintro ocols e g ⟨hn,h0,h1',h5,h7,h9,hsg,h17,h165,h166,h167,mh,mp,hepg,hal,ch,b17g,mc,hlc⟩ hm
         simp only[m_splitEnd] at hm
         replace hm:=hm.bind
         obtain⟨S3,hm3,hm⟩:=hm
         replace hm:=hm.bind
         obtain⟨S4,hm4,hm⟩:=hm
         replace hm:=hm.chk
         obtain⟨hlim4,hm⟩:=hm
         have e1:=r_ret hm
         simp only[Prod.mk.injEq] at e1
         obtain⟨rfl,rfl⟩:=e1
         have hsg2:Same h3 g []:=hs4.trans' hsg (fun k hk=>.inr (by simp at hk;rw[hk];exact hp17.1))
         have hsg3:=hs3.trans (hsg2.mono (by simp))
         obtain⟨b5g,b7g,b9g,blg⟩:=en g hsg3
         have sg:=s3.frame hsg2
         have hag:=all g hsg3
         simp at h166 h167
         simp[hn,h0,h1',h5,h166,h167,b5g,e6]
         refine callK_heap (h_evolution_removeColumns _ l _ fc oc _ ta fa oa S2 S3 i step.cols hm3 sg (fun h' hs'=>(hsf h' (hag.trans (hs'.mono fun k hk=>List.mem_cons_of_mem _ hk))).frz.2.2.2.2.2.2.1) _ (fun g2 ta2 sg2 hs2' hta2=>?_))
         have hp5:p17.1 < g5.ep:=Nat.lt_of_lt_of_le hp17.2 hep45
         have hepg2:=hs2'.1
         have hkeep:∀ q:Lab,h.ep≤q.1→q.1 < g.ep→g2.box q=g.box q:=fun q hq1 hq2=>hs2'.2 q hq2 fun h2=>fresh q hq1 (List.mem_cons_of_mem _ h2)
         have hhp:h.ep≤h3.ep:=by omega
         have b172:g2.box p17=some [.d (.str step.other),ch,pc]:=by rw[hkeep p17 (by omega) (by omega)];exact b17g
         have mc2:MR g2 3 ch (ocols.map fun c=>c.enc.map C.d):=mc.frame fun q hq=>hkeep q (by have:=(hlc q hq).1;omega) (hlc q hq).2
         have mp2:MR g2 1 pc ((seqI T.pk.length).map fun c=>(encI c).map C.d):=mp.frame fun q hq=>hkeep q (by have:=(hlp q hq).1;omega) (by have:=(hlp q hq).2.1;omega)
         have hT:Ow g2 TblSh [.d (.str step.other),ch,pc] (⟨step.other,ocols,seqI T.pk.length⟩:Tbl).enc (labs ch++(labs pc++[])):=by
          rw[dmap_len] at mc2 mp2
          exact .data rfl ((Ow.nrow (n:=3) mc2 rfl (by simp)).join ((Ow.nrow (n:=1) mp2 rfl (by simp)).join .nil))
         simp[hn,h0,h17,b172]
         refine callK_heap (h_evolution_insertTable _ l _ fc oc ta2 fa oa (labs ch++(labs pc++[])) S3 S4 _ _ hm4 sg2 hT ⟨?_,fun q hq=>?_⟩ _ (fun g3 tc3 ta3 sg3 hs3' hta3=>?_))
         ·rw[List.append_nil,List.nodup_append]
          refine⟨labs_nodup,labs_nodup,fun a ha b hb he=>?_⟩
          have:=(hlc a ha).1;have:=(hlp b hb).2.1;rw[← he] at this;omega
         ·have hq2:h3.ep≤q.1∧q.1 < g.ep:=by
           simp only[List.append_nil,List.mem_append] at hq
           rcases hq with hq | hq
           ·have:=hlc q hq;omega
           ·have:=hlp q hq;omega
          refine⟨by omega,fun h2=>?_⟩
          simp only[List.mem_cons,List.mem_append] at h2
          have hf:=fresh q (by omega)
          simp only[List.mem_cons,List.mem_append,not_or] at hf
          rcases h2 with h2 | h2 | h2 | h2
          ·exact hf.1 h2
          ·rcases hta2 q h2 with h4 | h4
           ·exact hf.2.1 h4
           ·omega
          ·exact hf.2.2.1 h2
          ·exact hf.2.2.2 h2
         ·have hepg3:=hs3'.1
          have hkeep3:∀ q:Lab,h.ep≤q.1→q.1 < g.ep→g3.box q=g.box q:=fun q hq1 hq2=>by
           rw[hs3'.2 q (by omega) fun h2=>?_,hkeep q hq1 hq2]
           have hf:=fresh q hq1
           simp only[List.mem_cons,List.mem_append,not_or] at hf h2
           rcases h2 with h2 | h2
           ·exact hf.1 h2
           ·rcases hta2 q h2 with h4 | h4
            ·exact hf.2.1 h4
            ·omega
          have b53:g3.box (h.ep,80)=some (stpC step x6 x12 x13 x22):=by rw[hkeep3 _ (by simp) (by simp;omega)];exact b5g
          have b73:g3.box (h.ep+1,112)=some [C.d (D.str T.name),c1,c2]:=by rw[hkeep3 _ (by simp) (by simp;omega)];exact b7g
          have b93:g3.box (h1.ep,144)=some [C.d (D.int IntKind.i64 T.pk.length)]:=by rw[hkeep3 _ (by simp;omega) (by simp;omega)];exact b9g
          have hb3:=sg3.box
          have hta4:∀ q ∈ ta3,q ∈ ta∨h.ep≤q.1:=fun q hq=>by
           rcases hta3 q hq with h2 | h2 | h2
           ·exact (hta2 q h2).imp_right fun h=>by omega
           ·simp only[List.append_nil,List.mem_append] at h2
            rcases h2 with h2 | h2
            ·have:=hlc q h2;exact .inr (by omega)
            ·have:=hlp q h2;exact .inr (by omega)
           ·exact .inr (by omega)
          have hall3:Same h g3 (l::(ta++(fa++oa))):=(hag.trans (hs2'.mono fun k hk=>List.mem_cons_of_mem _ hk)).trans' hs3' fun q hq=>by
           simp only[List.mem_cons] at hq
           rcases hq with rfl | hq
           ·exact .inl (by simp)
           ·exact (hta2 q hq).imp (fun h=>by simp[h]) fun h=>by omega
          simp[hn]
          refine Wait.cut (Plan.then_ [0,1,2,3,4,5,6,7,9,10,8,11,12,13,14,15,16] .done) follows (by kernel_rfl) (fun e h'=>e.n=206∧∃ fa' fc',Sc h' l { S4 with fks:=S4.fks++[⟨step.other,seqI T.pk.length,T.name⟩] } tc3 fc' oc ta3 fa' oa∧(∀ k ∈ fa',k ∈ fa∨h.ep≤k.1)∧Same h h' (l::(ta++(fa++oa)))) ?_ ?_
          ·simp[hn,h0,h5,h7,h9,hb3,b53,b73,b93,e2,Plan.then_,vcPlan,planOps,isCallAt,callKind]
           refine callK_heap (h_evolution_sequence _ T.pk.length hplim _ (fun pc2 g4 mp4 hs4' hlp4 hbox4=>?_))
           simp[hn]
           refine⟨hbox4,?_⟩
           have hoF:Ow g4 FkSh [.d (.str step.other),pc2,.d (.str T.name)] (⟨step.other,seqI T.pk.length,T.name⟩:Fk).enc (labs pc2):=by
            refine .data rfl ?_
            have:=Ow.rowD (es:=[.d]) (n:=1) (ts:=(seqI T.pk.length).map encI) (by rw[← dmap_len];exact mp4) rfl (by simp) (Ow.data (c:=.d (.str T.name)) (x:=.str T.name) rfl .nil)
            simpa using this
           have hep34':=hs4'.1
           have hhe:h.ep≤g3.ep:=by omega
           have fin:∀ (h5:HS) (x':List C) (lx:List Lab),Same g4 h5 []→∀ ys:List (List C),ys.length=S4.fks.length→MR h5 3 fc ys →
             (∀ (h':HS) (c':C) (x:List C) (d:List D) (lx:List Lab),MR h' 3 c' (ys++[x])→Same h5 h' (labs fc)→(∀ k ∈ labs c',k ∈ labs fc∨(h5.ep≤k.1∧k.1 < h'.ep))→Ow h' FkSh x d lx→lx.Nodup→(∀ k ∈ lx,k.1 < h'.ep∧k ∉ l::(ta3++(fa++oa))∧k ∉ labs c')→∀ T,d=Fk.enc T→∃ fa',Sc (h'.setBox l [tc3,c',oc]) l { S4 with fks:=S4.fks++[T] } tc3 c' oc ta3 fa' oa∧∀ k ∈ fa',k ∈ fa∨k ∈ lx∨h5.ep≤k.1) →
             (∀ h',(∀ k ∈ labs pc2,h'.box k=g4.box k)→Ow h' FkSh x' (⟨step.other,seqI T.pk.length,T.name⟩:Fk).enc lx)→(∀ k ∈ lx,k ∈ labs pc2)→lx.Nodup→∀ (c':C) (h':HS),MR h' 3 c' (ys++[x'])→Same h5 h' (labs fc)→(∀ k ∈ labs c',k ∈ labs fc∨(h5.ep≤k.1∧k.1 < h'.ep)) →
             h'.box l=some [tc3,fc,oc]∧∃ fa',Sc (h'.setBox l [tc3,c',oc]) l { S4 with fks:=S4.fks++[⟨step.other,seqI T.pk.length,T.name⟩] } tc3 c' oc ta3 fa' oa∧(∀ k ∈ fa',k ∈ fa∨h.ep≤k.1)∧Same h (h'.setBox l [tc3,c',oc]) (l::(ta++(fa++oa))):=by
            intro h5 x' lx hs5' ys hly my add hox hlx hnd c' h' hm' hs6 hl6
            have hep56:=hs6.1
            have hep45':=hs5'.1
            have hfc:∀ k ∈ labs fc,k ∈ fa:=s.hlabs.2.1
            obtain⟨fa',s6,hfa'⟩:=add h' c' x' _ lx hm' hs6 hl6 (hox h' fun k hk=>by
             have h2:=hlp4 k hk
             rw[hs6.2 k (by omega) fun h3=>by have:=sg3.lt k (by simp[hfc k h3]);omega]
             exact hs5'.2 k h2.2 (by simp)) hnd (fun k hk=>by
              have h2:=hlp4 k (hlx k hk)
              refine⟨by omega,fun h3=>by have:=sg3.lt k h3;omega,fun h3=>?_⟩
              rcases hl6 k h3 with h4 | h4
              ·have:=sg3.lt k (by simp[hfc k h4]);omega
              ·omega) _ rfl
            refine⟨(sg3.frame (hs4'.trans hs5')).keep hs6 fun k hk=>.inr (.inl (hfc k hk)),fa',s6,fun k hk=>?_,((hall3.trans ((hs4'.trans hs5').mono (by simp))).trans' hs6 fun k hk=>.inl (by simp[hfc k hk])).setBox (.inl (by simp))⟩
            rcases hfa' k hk with h2 | h2 | h2
            ·exact .inl h2
            ·have:=hlp4 k (hlx k h2);exact .inr (by omega)
            ·exact .inr (by omega)
           refine bld_ow (x:=[.d (.str step.other),pc2,.d (.str T.name)]) (by simp[toDs];cases pc2.toD<;>rfl) (by simp) (fun d hd2=>?_) (fun hd2=>?_)
           ·obtain⟨rfl,hT2⟩:=hoF.ofD hd2
            have hs5':Same g4 ((g4.setArr (g4.ep,16 * 202) (some (1,3))).next) []:=Same.refl.setArr.next
            simp only[Nat.reduceMul] at hs5'
            obtain⟨ys,my,hly,add⟩:=(sg3.frame (hs4'.trans hs5')).addF
            simp[hn]
            refine app_mr (by simp;exact⟨rfl,rfl⟩) (by simp) (by simp) (by simp) my (RowAt.own1 (by simp)) (by rw[hly];exact hlim4) (fun c' h' hm' hs6 hl6=>?_)
            obtain⟨hbl,fa',s6,t1,t2⟩:=fin _ _ [] hs5' ys hly my add (fun h' _=>hT2 h') (by simp) List.nodup_nil c' h' hm' hs6 hl6
            simp[hn,h0,hbl]
            exact CutK.of ⟨by simp[hn],fa',c',s6,t1,t2⟩
           ·skip
            have hs5':Same g4 ((g4.setBox (g4.ep,16 * 202) [.d (.str step.other),pc2,.d (.str T.name)]).next) []:=(Same.refl.setBox (.inr (Nat.le_refl _))).next
            simp only[Nat.reduceMul] at hs5'
            obtain⟨ys,my,hly,add⟩:=(sg3.frame (hs4'.trans hs5')).addF
            simp[hn]
            refine app_mr (by simp;exact⟨rfl,rfl⟩) (by simp) (by simp) (by simp) my (RowAt.new1 (x:=[.d (.str step.other),pc2,.d (.str T.name)]) (by simp) (by simp)) (by rw[hly];exact hlim4) (fun c' h' hm' hs6 hl6=>?_)
            obtain⟨hbl,fa',s6,t1,t2⟩:=fin _ _ (labs pc2) hs5' ys hly my add (fun h' hb'=>hoF.frame hb') (fun _ h=>h) labs_nodup c' h' hm' hs6 hl6
            simp[hn,h0,hbl]
            exact CutK.of ⟨by simp[hn],fa',c',s6,t1,t2⟩
          ·rintro e h' ⟨hn,fa',fc',s7,hfa',hs7⟩
           simp[hn]
           refine hk _ _ s7.ows hs7 fun k hk=>?_
           simp only[List.mem_append] at hk ⊢
           rcases hk with hk | hk | hk
           ·exact (hta4 k hk).imp_left .inl
           ·exact (hfa' k hk).imp_left fun h=>.inr (.inl h)
           ·exact .inl (.inr (.inr hk))
end Go.Proofs.YthgepknlibmjcaaGreat
end
section
namespace Go.Proofs.YthgepknlibmjcaaGreat
open Go.Am
def m_evolution_joinTables_1 (fk:Fk) (k0:ByteArray):Option Bool:=
 (some (strEq fk.ref k0))
theorem c_evolution_joinTables_1 (fk:Fk) (k0:ByteArray) (r:Bool) (hm:Is (m_evolution_joinTables_1 fk k0) r):PSpec Tryz.prog 185 [.agg fk.enc,.one (.rp [.str k0])] (.one (.d (.bool r))):=by
 unfold m_evolution_joinTables_1 at hm
 refine PSpec.of_vc Tryz.func185 rfl (by kernel_rfl) (n:=8) rfl rfl (by simp) ?_
 try simp[*]
 obtain rfl:=r_ret hm
 exact ret0 (vs:=[_]) (by simp[*];try exact rfl) (by simp[*])
def m_evolution_joinTables_2 (column:Int) (k0:Int) (k1:Tbl) (k2:Int):Option Int:=
 (bif decide (column < k0) then (getK k1.pk column fun x2=>(some x2)) else (chkK (okI (k2+column)) (chkK (okI ((k2+column) - k0)) (some ((k2+column) - k0)))))
theorem c_evolution_joinTables_2 (column:Int) (k0:Int) (k1:Tbl) (k2:Int) (r:Int) (hm:Is (m_evolution_joinTables_2 column k0 k1 k2) r):PSpec Tryz.prog 187 [.one (.d (.int .i64 column)),.one (.rp [.int .i64 k0]),.one (.rp [.str k1.name,.sl (k1.cols.map Col.enc),.sl (k1.pk.map encI)]),.one (.rp [.int .i64 k2])] (.one (.d (.int .i64 r))):=by
 unfold m_evolution_joinTables_2 at hm
 refine PSpec.of_vc Tryz.func187 rfl (by kernel_rfl) (n:=19) rfl rfl (by simp) ?_
 try simp[*]
 refine r_cond hm ?_ ?_<;>clear hm<;>intro hc1 hm
 ·try simp[*]
  replace hm:=hm.get
  obtain⟨x2,h0x2,hxx2,hm⟩:=hm
  try simp[*]
  obtain rfl:=r_ret hm
  exact ret0 (vs:=[_]) (by simp[*];try exact rfl) (by simp[*])
 ·try simp[*]
  replace hm:=hm.chk
  obtain⟨hw3,hm⟩:=hm
  replace hw3:=wrap_ok hw3
  try simp[*]
  replace hm:=hm.chk
  obtain⟨hw4,hm⟩:=hm
  replace hw4:=wrap_ok hw4
  try simp[*]
  obtain rfl:=r_ret hm
  exact ret0 (vs:=[_]) (by simp[*];try exact rfl) (by simp[*])
end Go.Proofs.YthgepknlibmjcaaGreat
end
section
namespace Go.Proofs.YthgepknlibmjcaaGreat
open Go Go.Am
theorem countK_inv {σ ρ:Type} {body:Nat→σ→(σ→Option ρ)→Option ρ} {k:σ→Option ρ} (P:σ→Prop) (Q:ρ→Prop) (hb:∀ i s next r,P s→(∀ s' r,P s'→next s'=some r→Q r)→body i s next=some r→Q r) (hk:∀ s r,P s→k s=some r→Q r):∀ n i s r,P s→countK body k n i s=some r→Q r
 | 0,_,s,r,hP,h=>hk s r hP h
 | n+1,i,s,r,hP,h=>hb i s _ r hP (fun s' r' hP' h'=>countK_inv P Q hb hk n (i+1) s' r' hP' h') h
theorem remap_tables {S S':Sch} {table:ByteArray} {mr:Int→Option Int} (h:Is (m_evolution_remapColumns S table mr) S'):S'.tables=S.tables:=by
 refine countK_inv (fun s:Sch=>s.tables=S.tables) (fun s=>s.tables=S.tables) (fun i s next r hP hn hb=>?_) (fun s r hP hk=>?_) _ _ S S' rfl h
 ·obtain⟨f,hf,hb⟩:=Is.getN hb
  cases hc:strEq f.table table with
  | false=>rw[hc] at hb;exact hn _ _ hP hb
  | true=>
    rw[hc] at hb
    refine countK_inv (fun s:Sch=>s.tables=S.tables) (fun s=>s.tables=S.tables) (fun j s next r hP hn hb=>?_) hn _ _ s r hP hb
    obtain⟨f,hf,hb⟩:=Is.getN hb
    obtain⟨v,hv,hb⟩:=Is.getN hb
    obtain⟨v',hv',hb⟩:=hb.bind
    exact hn { s with fks:=s.fks.set i ⟨f.table,f.cols.set j v',f.ref⟩ } _ hP hb
 ·refine countK_inv (fun s:Sch=>s.tables=S.tables) (fun s=>s.tables=S.tables) (fun j s next r hP hn hb=>?_) (fun s r hP hk=>?_) _ _ s r hP hk
  ·obtain⟨c,hc,hb⟩:=Is.getN hb
   cases hct:strEq c.table table with
   | false=>rw[hct] at hb;exact hn _ _ hP hb
   | true=>
     rw[hct] at hb
     obtain⟨v,hv,hb⟩:=Is.bind hb
     cases hr:decide (0≤c.right) with
     | false=>rw[hr] at hb;exact hn { s with cons:=s.cons.set j { c with left:=v } } _ hP hb
     | true=>
       rw[hr] at hb
       obtain⟨w,hw,hb⟩:=Is.bind hb
       exact hn { s with cons:=s.cons.set j { c with left:=v,right:=w } } _ hP hb
  ·obtain rfl:=r_ret hk;exact hP
theorem dropFk_tables {S S':Sch} {c:Fk} {r:Int} (h:Is (m_evolution_dropForeignKey S c) (S',r)):S'.tables=S.tables:=by
 obtain⟨k,hk,h⟩:=h.bind
 split at h
 ·have:=r_ret h
  simp only[Prod.mk.injEq] at this
  rw[← this.1]
 ·obtain⟨_,h⟩:=Is.chk h
  have:=r_ret h
  simp only[Prod.mk.injEq] at this
  rw[← this.1]
theorem Sc.tblFrz {h:HS} {l:Lab} {S:Sch} {tc fc oc:C} {ta fa oa:List Lab} (s:Sc h l S tc fc oc ta fa oa) {i:Nat} {T:Tbl} {lt:Lab} {c1 c2:C} {B:List C} (tv:TblV h l S tc fc oc ta fa oa i T lt c1 c2 B) (hi:S.tables[i]?=some T):∀ h',(∀ k ∈ ta,h'.box k=h.box k)→FrzCs h' [.d (.str T.name),c1,c2] T.enc:=by
 obtain⟨qt,qf,qo,rfl,rfl,rfl,s⟩:=s
 obtain⟨q,lr,cap,sp,h1,h2,h3,h4,h5,h6⟩:=s.t.elem (map_get (f:=Tbl.enc) hi)
 obtain⟨cap',e⟩:=tv.hd
 rw[h4] at e
 simp at e
 obtain⟨rfl,-⟩:=e
 have hu:=h6.uniq tv.el h3.len.1 (by simp[TblSh])
 intro h' hb
 have:=h3.frame (h':=h') fun k hk=>hb k (plabs_mem h1 hk)
 rw[hu.1] at this
 exact this.frz
end Go.Proofs.YthgepknlibmjcaaGreat
namespace Go.Am
open Go Go.Proofs.YthgepknlibmjcaaGreat
theorem MR.tail {h:HS} {w:Nat} {l:Lab} {n cap:Nat} {xs:List (List C)} (m:MR h w (.mrow l 0 n cap) xs) (k:Nat) (hk:k≤n):RowAt h w (.mrow l (k * w) (n - k) (cap - k)) (xs.drop k):=by
 have hn:=m.len
 simp[cLen] at hn
 subst hn
 have hb:∃ sp,h.box l=some (rowBox xs sp):=by
  rcases m.2.2 with ⟨_,h2 | h2⟩ | ⟨l',cap',sp,h1,h2,_⟩
  ·cases h2
  ·cases h2
  ·simp at h1
   obtain⟨rfl,rfl⟩:=h1
   exact⟨sp,h2⟩
 obtain⟨sp,hb⟩:=hb
 have hr:=row_cells (off:=k) (k:=xs.length - k) (cap:=cap - k) m.1 hb (by omega)
 refine⟨?_,by simp[cLen],m.1.drop,by have:=m.2.1;simp at this ⊢;omega⟩
 rw[hr,List.take_of_length_le (by simp)]
end Go.Am
namespace Go.Proofs.YthgepknlibmjcaaGreat
open Go Go.Am
end Go.Proofs.YthgepknlibmjcaaGreat
end
section
namespace Go.Am
open Go
open Go.RowKit (Below)
section
variable {P:Program}
theorem vcG_swapB {c:Prop} {ops:Array Oper} {oi oj:Oper} {e:Env} {h:HS} {v:V} {K:Env→HS→Prop} (hap:oi.apart ops oj=true) (hst:storeKind oj.op=false∨loadKind oi.op=false) (hcc:loadKind oi.op=true→callKind oj.op=true→c) (hr:Real (e.put oi.dst v) h)
  (hv:vcG P ops.toList oj (e.put oi.dst v) h (fun e' h'=>(c→BoxLe h h')∧K e' h')) :
  vcG P ops.toList oj e h (fun e' h'=>(c→BoxLe h h')∧e'.n=e.n∧(∀ t ∈ oi.looksAt ops,e'.get t=e.get t)∧(loadKind oi.op=true→BoxLe h h')∧K (e'.put oi.dst v) h'):=by
 obtain⟨h1,h2,h3⟩:=Oper.apart_spec hap
 have hag:∀ t ∈ oj.looksAt ops,e.get t=(e.put oi.dst v).get t:=fun t ht=>(put_get' (fun d hd he=>h1 d hd (he ▸ ht))).symm
 have fin:∀ u h',(storeKind oj.op=false→callKind oj.op=false→BoxLe h h')→((c→BoxLe h h')∧K ((e.put oi.dst v).put oj.dst u) h') →
   (c→BoxLe h h')∧(e.put oj.dst u).n=e.n∧(∀ t ∈ oi.looksAt ops,(e.put oj.dst u).get t=e.get t)∧(loadKind oi.op=true→BoxLe h h')∧K ((e.put oj.dst u).put oi.dst v) h':=fun u h' hb hk=>
  ⟨hk.1,put_n',fun t ht=>put_get' (fun d hd he=>h3 d hd (he ▸ ht)),fun hl=>by
   cases hc:callKind oj.op with
   | true=>exact hk.1 (hcc hl hc)
   | false=>exact hb (hst.resolve_right (by simp[hl])) hc,by rw[← put_comm' h2];exact hk.2⟩
 obtain⟨hd,hv⟩:=hv
 refine⟨dstOK_n put_n'.symm hd,?_⟩
 have go:vcOp P oj (e.put oi.dst v) h (fun e' h'=>(c→BoxLe h h')∧K e' h')→vcOp P oj e h (fun e' h'=>(c→BoxLe h h')∧e'.n=e.n∧(∀ t ∈ oi.looksAt ops,e'.get t=e.get t)∧(loadKind oi.op=true→BoxLe h h')∧K (e'.put oi.dst v) h'):=fun hs=>
  vcOp_agree hr (ev_agree hag) (fun u h' hb hk=>fin u h' hb hk) hs
 cases hg:oj.guard with
 | none=>simp only[hg] at hv ⊢;exact go hv
 | some gw=>
   obtain⟨j,want⟩:=gw
   simp only[hg] at hv ⊢
   rw[yield_agree hag hg]
   split at hv
   ·exact⟨fun hb=>go (hv.1 hb),fun hb=>fin _ _ (fun _ _=>BoxLe.refl h) (hv.2 hb)⟩
   ·exact fin _ _ (fun _ _=>BoxLe.refl h) hv
   ·exact hv.elim
def vcAnyB (P:Program) (md:Region.Mode) (ops:Array Oper) (bl:Nat→Bool) (K:Env→HS→Prop):Nat→Array Bool→Env→HS→Prop
 | 0,listed,e,h=>Region.ready md ops listed=[]∧(Real e h→K e h)
 | f+1,listed,e,h=>Real e h→(Region.ready md ops listed=[]→K e h) ∧
     ∀ i ∈ Region.ready md ops listed,∃ o,ops[i]?=some o∧vcG P ops.toList o e h (fun e' h'=>((bl i=true∧callKind o.op=true)→BoxLe h h')∧vcAnyB P md ops bl K f (listed.setIfInBounds i true) e' h')
theorem vcAnyB_sound {bl:Nat→Bool} {md:Region.Mode} {ops:Array Oper} {Γ:Ctx} {Q:Exit→Act→World→Prop} {K:Env→HS→Prop} {μ0:Mem} (hN:∀ e' h' μ' a' w',K e' h'→Inv Γ h' μ' w'→EnvRel μ' e' a'→Mem.Le μ0 μ'→Q .normal a' w') :
  ∀ (f:Nat) (listed:Array Bool) {e:Env} {h:HS} {μ:Mem} {a:Act} {w:World},Inv Γ h μ w→EnvRel μ e a→Mem.Le μ0 μ→vcAnyB P md ops bl K f listed e h→wpAny P md ops Q f listed a w
 | 0,listed,e,h,μ,a,w,hI,hE,hle,hv=>⟨hv.1,hN _ _ _ _ _ (hv.2 ⟨_,_,_,_,hI,hE⟩) hI hE hle⟩
 | f+1,listed,e,h,μ,a,w,hI,hE,hle,hv=>by
   obtain⟨h0,h1⟩:=hv ⟨_,_,_,_,hI,hE⟩
   refine⟨fun hr=>hN _ _ _ _ _ (h0 hr) hI hE hle,fun i hi=>?_⟩
   obtain⟨o,ho,hg⟩:=h1 i hi
   exact vcG_sound ho hI hE (fun e' h' μ' a' w' hk hI' hE' hle'=>vcAnyB_sound hN f _ hI' hE' (hle.trans hle') hk.2) hg
theorem vcAnyB_first {bl:Nat→Bool} {md:Region.Mode} {ops:Array Oper} {K:Env→HS→Prop} {i:Nat} {oi:Oper} {v:V} (W:Nat→Bool) (hi:ops[i]?=some oi) (hp:pureKind oi.op=true)
  (hW:∀ j,W j=true→∃ oj,ops[j]?=some oj∧∃ x ∈ oj.after,Region.binds md x=true∧(x.on=i∨W x.on=true)) :
  ∀ (f:Nat) (listed:Array Bool) (e:Env) (h:HS),(∀ j,W j=true→listed.getD j true=false) →
    (∀ j oj,ops[j]?=some oj→j≠i→listed.getD j true=false→W j=false→oi.apart ops oj=true∧(storeKind oj.op=false∨loadKind oi.op=false)∧(loadKind oi.op=true→callKind oj.op=true→bl j=true)) →
    i ∈ Region.ready md ops listed→GivesG P ops oi e h v →
    vcAnyB P md ops bl K f (listed.setIfInBounds i true) (e.put oi.dst v) h→vcAnyB P md ops bl K (f+1) listed e h:=by
 intro f
 induction f with
 | zero=>
   intro listed e h _ _ hr hg H hR
   refine⟨fun h=>(by rw[h] at hr;cases hr),fun j hj=>?_⟩
   by_cases hji:j=i
   ·subst hji;exact⟨oi,hi,hg e h _ rfl (fun _ _=>rfl) (fun _=>BoxLe.refl h) ⟨fun hc=>(by rw[callKind_pure hp] at hc;cases hc.2),H⟩⟩
   ·have:=ready_mono hj hji
    rw[H.1] at this
    cases this
 | succ f ih=>
   intro listed e h hWl hfree hr hg H hR
   have hR':=hg.real hp hR
   refine⟨fun h=>(by rw[h] at hr;cases hr),fun j hj=>?_⟩
   by_cases hji:j=i
   ·subst hji;exact⟨oi,hi,hg e h _ rfl (fun _ _=>rfl) (fun _=>BoxLe.refl h) ⟨fun hc=>(by rw[callKind_pure hp] at hc;cases hc.2),H⟩⟩
   ·obtain⟨oj,hoj,h1⟩:=(H hR').2 j (ready_mono hj hji)
    obtain⟨hjun,oj',hoj',hall⟩:=mem_ready.1 hj
    have:oj'=oj:=Option.some.inj (hoj'.symm.trans hoj)
    subst this
    have unl:∀ k,listed.getD k true=false→listed.getD k false=true→False:=fun k h1 h2=>by
     rcases Nat.lt_or_ge k listed.size with h' | h'
     ·simp[h'] at h1 h2;rw[h1] at h2;cases h2
     ·simp[Array.getElem?_eq_none h'] at h2
    have hnot:W j=false:=by
     cases hw:W j with
     | false=>rfl
     | true=>
       obtain⟨ok,hok,x,hx,hb,hon⟩:=hW j hw
       have:ok=oj':=Option.some.inj (hok.symm.trans hoj)
       subst this
       have h1:=hall x hx hb
       rcases hon with hon | hon
       ·rw[hon] at h1;exact (unl i (mem_ready.1 hr).1 h1).elim
       ·exact (unl _ (hWl _ hon) h1).elim
    obtain⟨hap,hst,hbl⟩:=hfree j oj' hoj hji hjun hnot
    have hfree':∀ k ok,ops[k]?=some ok→k≠i→(listed.setIfInBounds j true).getD k true=false →
      W k=false→oi.apart ops ok=true∧(storeKind ok.op=false∨loadKind oi.op=false)∧(loadKind oi.op=true→callKind ok.op=true→bl k=true):=fun k ok hk hki hun hno=>by
     refine hfree k ok hk hki ?_ hno
     by_cases hjk:j=k
     ·subst hjk;exact hjun
     ·rw[getD_set_ne true hjk] at hun;exact hun
    have hWl':∀ k,W k=true→(listed.setIfInBounds j true).getD k true=false:=fun k hk=>by
     have hjk:j≠k:=by rintro rfl;rw[hnot] at hk;cases hk
     rw[getD_set_ne true hjk];exact hWl k hk
    refine⟨oj',hoj,vcG_mono hR (fun e' h' hk=>?_) (vcG_swapB hap hst (fun hl hc=>⟨hbl hl hc,hc⟩) hR' h1)⟩
    obtain⟨hcb,hn,hag,hb,hk⟩:=hk
    refine⟨hcb,?_⟩
    refine ih (listed.setIfInBounds j true) e' h' hWl' hfree' (ready_mono hr (Ne.symm hji)) (hg.step hn hag hb) ?_
    ·rw[Array.setIfInBounds_comm _ _ hji]
     exact hk
def firstBB (bl:Nat→Bool) (md:Region.Mode) (ops:Array Oper) (listed:Array Bool) (i:Nat):Bool:=
 match ops[i]? with
 | none=>false
 | some oi=>
   let w:=waitsN md ops i ops.size []
   pureKind oi.op && (Region.ready md ops listed).contains i && waitsB md ops i w && w.all (fun j=>!listed.getD j true) && (List.range ops.size).all fun j=>j == i || listed.getD j true || w.contains j || match ops[j]? with
    | some oj=>oi.apart ops oj && ((!storeKind oj.op || !loadKind oi.op) && (!loadKind oi.op || !callKind oj.op || bl j))
    | none=>true
def planBB (bl:Nat→Bool) (md:Region.Mode) (ops:Array Oper):Plan→Nat→Array Bool→Bool
 | .done,f,listed=>f == 0 && (Region.ready md ops listed).isEmpty
 | .one _ _,0,_=>false
 | .one i p,f+1,listed=>(Region.ready md ops listed == [i] || firstBB bl md ops listed i) && planBB bl md ops p f (listed.setIfInBounds i true)
 | .two _ _ _ _,0,_=>false
 | .two i j p q,f+1,listed=>Region.ready md ops listed == [i,j] && planBB bl md ops p f (listed.setIfInBounds i true) && planBB bl md ops q f (listed.setIfInBounds j true)
 | .three _ _ _ _ _ _,0,_=>false
 | .three i j k p q r,f+1,listed=>Region.ready md ops listed == [i,j,k] && planBB bl md ops p f (listed.setIfInBounds i true) && planBB bl md ops q f (listed.setIfInBounds j true) && planBB bl md ops r f (listed.setIfInBounds k true)
 | .four _ _ _ _ _ _ _ _,0,_=>false
 | .four i j k l p q r s,f+1,listed=>Region.ready md ops listed == [i,j,k,l] && planBB bl md ops p f (listed.setIfInBounds i true) && planBB bl md ops q f (listed.setIfInBounds j true) && planBB bl md ops r f (listed.setIfInBounds k true) && planBB bl md ops s f (listed.setIfInBounds l true)
def vcPlanB (P:Program) (ops:List Oper) (bl:Nat→Bool) (K:Env→HS→Prop):Plan→Env→HS→Prop
 | .done,e,h=>K e h
 | .one i p,e,h=>vcOps P ops (planOps ops [i]) e h (fun e' h'=>((bl i=true∧isCallAt ops i=true)→BoxLe h h')∧vcPlanB P ops bl K p e' h')
 | .two i j p q,e,h=>vcOps P ops (planOps ops [i]) e h (fun e' h'=>((bl i=true∧isCallAt ops i=true)→BoxLe h h')∧vcPlanB P ops bl K p e' h')∧vcOps P ops (planOps ops [j]) e h (fun e' h'=>((bl j=true∧isCallAt ops j=true)→BoxLe h h')∧vcPlanB P ops bl K q e' h')
 | .four i j k l p q r s,e,h=>vcOps P ops (planOps ops [i]) e h (fun e' h'=>((bl i=true∧isCallAt ops i=true)→BoxLe h h')∧vcPlanB P ops bl K p e' h')∧vcOps P ops (planOps ops [j]) e h (fun e' h'=>((bl j=true∧isCallAt ops j=true)→BoxLe h h')∧vcPlanB P ops bl K q e' h')∧vcOps P ops (planOps ops [k]) e h (fun e' h'=>((bl k=true∧isCallAt ops k=true)→BoxLe h h')∧vcPlanB P ops bl K r e' h')∧vcOps P ops (planOps ops [l]) e h (fun e' h'=>((bl l=true∧isCallAt ops l=true)→BoxLe h h')∧vcPlanB P ops bl K s e' h')
 | .three i j k p q r,e,h=>vcOps P ops (planOps ops [i]) e h (fun e' h'=>((bl i=true∧isCallAt ops i=true)→BoxLe h h')∧vcPlanB P ops bl K p e' h')∧vcOps P ops (planOps ops [j]) e h (fun e' h'=>((bl j=true∧isCallAt ops j=true)→BoxLe h h')∧vcPlanB P ops bl K q e' h')∧vcOps P ops (planOps ops [k]) e h (fun e' h'=>((bl k=true∧isCallAt ops k=true)→BoxLe h h')∧vcPlanB P ops bl K r e' h')
theorem vcAnyB_of_plan {bl:Nat→Bool} {md:Region.Mode} {ops:Array Oper} {K:Env→HS→Prop}:∀ (p:Plan) (f:Nat) (listed:Array Bool) (e:Env) (h:HS),planBB bl md ops p f listed=true →
  vcPlanB P ops.toList bl K p e h→vcAnyB P md ops bl K f listed e h
 | .done,f,listed,e,h,hB,hv=>by
   unfold planBB at hB
   simp only[Bool.and_eq_true,beq_iff_eq] at hB
   obtain⟨rfl,hB⟩:=hB
   exact⟨by simpa using hB,fun _=>hv⟩
 | .one i p,0,listed,e,h,hB,hv=>by unfold planBB at hB;cases hB
 | .one i p,f+1,listed,e,h,hB,hv=>by
   unfold planBB at hB
   simp only[Bool.and_eq_true,Bool.or_eq_true] at hB
   obtain⟨hB,hrest⟩:=hB
   have ih:=fun e h=>vcAnyB_of_plan (K:=K) p f (listed.setIfInBounds i true) e h hrest
   have hmem:i ∈ Region.ready md ops listed:=by
    rcases hB with hB | hB
    ·rw[eq_of_beq hB];simp
    ·unfold firstBB at hB
     split at hB
     ·cases hB
     ·simp only[Bool.and_eq_true] at hB
      simpa using hB.1.1.1.2
   obtain⟨o,ho,hck,hv'⟩:=vcOps_one hmem hv
   rw[hck] at hv'
   by_cases hR:Real e h
   ·rcases hB with hB | hB
    ·intro _
     refine⟨fun h0=>(by rw[h0] at hmem;cases hmem),fun j hj=>?_⟩
     rw[eq_of_beq hB] at hj
     have:j=i:=by simpa using hj
     subst this
     exact⟨o,ho,vcG_mono hR (fun e' h' hk=>⟨hk.1,ih e' h' hk.2⟩) hv'⟩
    ·unfold firstBB at hB
     simp only[ho,Bool.and_eq_true] at hB
     obtain⟨⟨⟨⟨hp,_⟩,hwB⟩,hwl⟩,hall⟩:=hB
     obtain⟨v,hk,hR',hg⟩:=pureG_elim hp hR hv'
     generalize waitsN md ops i ops.size []=w at hwB hwl hall
     refine vcAnyB_first (fun j=>w.contains j) ho hp (fun j hj=>?_) f listed e h (fun j hj=>?_) (fun j oj hj hne hun hno=>?_) hmem hg (ih _ _ hk.2)
     ·have h1:=List.all_eq_true.1 hwB j (by simpa using hj)
      split at h1
      ·rename_i o ho'
       obtain⟨x,hx,hb⟩:=Array.any_eq_true'.1 h1
       simp only[Bool.and_eq_true,Bool.or_eq_true,beq_iff_eq] at hb
       exact⟨o,ho',x,hx,hb.1,hb.2⟩
      ·cases h1
     ·have h1:=List.all_eq_true.1 hwl j (by simpa using hj)
      simpa using h1
     ·have h1:=List.all_eq_true.1 hall j (List.mem_range.2 (Array.getElem?_eq_some_iff.1 hj).1)
      simp only[hj,Bool.or_eq_true,beq_iff_eq,hne,false_or,hun,Bool.false_eq_true,hno] at h1
      simp only[Bool.and_eq_true,Bool.or_eq_true,Bool.not_eq_true'] at h1
      refine⟨h1.1,h1.2.1,fun hl hc=>?_⟩
      rcases h1.2.2 with (h2 | h2) | h2
      ·rw[h2] at hl;cases hl
      ·rw[h2] at hc;cases hc
      ·exact h2
   ·exact fun hR'=>absurd hR' hR
 | .two i j p q,0,listed,e,h,hB,hv=>by unfold planBB at hB;cases hB
 | .two i j p q,f+1,listed,e,h,hB,hv=>by
   unfold planBB at hB
   simp only[Bool.and_eq_true] at hB
   have hr:Region.ready md ops listed=[i,j]:=eq_of_beq hB.1.1
   intro hR
   refine⟨fun h0=>(by rw[hr] at h0;cases h0),fun k hk=>?_⟩
   have hk':=hk
   rw[hr] at hk'
   simp only[List.mem_cons,List.not_mem_nil,or_false] at hk'
   rcases hk' with rfl | rfl
   ·obtain⟨o,ho,hck,hv'⟩:=vcOps_one hk hv.1
    rw[hck] at hv'
    exact⟨o,ho,vcG_mono hR (fun e' h' hk=>⟨hk.1,vcAnyB_of_plan p f _ e' h' hB.1.2 hk.2⟩) hv'⟩
   ·obtain⟨o,ho,hck,hv'⟩:=vcOps_one hk hv.2
    rw[hck] at hv'
    exact⟨o,ho,vcG_mono hR (fun e' h' hk=>⟨hk.1,vcAnyB_of_plan q f _ e' h' hB.2 hk.2⟩) hv'⟩
 | .three i j l p q r,0,listed,e,h,hB,hv=>by unfold planBB at hB;cases hB
 | .three i j l p q r,f+1,listed,e,h,hB,hv=>by
   unfold planBB at hB
   simp only[Bool.and_eq_true] at hB
   have hr:Region.ready md ops listed=[i,j,l]:=eq_of_beq hB.1.1.1
   intro hR
   refine⟨fun h0=>(by rw[hr] at h0;cases h0),fun k hk=>?_⟩
   have hk':=hk
   rw[hr] at hk'
   simp only[List.mem_cons,List.not_mem_nil,or_false] at hk'
   rcases hk' with rfl | rfl | rfl
   ·obtain⟨o,ho,hck,hv'⟩:=vcOps_one hk hv.1
    rw[hck] at hv'
    exact⟨o,ho,vcG_mono hR (fun e' h' hk=>⟨hk.1,vcAnyB_of_plan p f _ e' h' hB.1.1.2 hk.2⟩) hv'⟩
   ·obtain⟨o,ho,hck,hv'⟩:=vcOps_one hk hv.2.1
    rw[hck] at hv'
    exact⟨o,ho,vcG_mono hR (fun e' h' hk=>⟨hk.1,vcAnyB_of_plan q f _ e' h' hB.1.2 hk.2⟩) hv'⟩
   ·obtain⟨o,ho,hck,hv'⟩:=vcOps_one hk hv.2.2
    rw[hck] at hv'
    exact⟨o,ho,vcG_mono hR (fun e' h' hk=>⟨hk.1,vcAnyB_of_plan r f _ e' h' hB.2 hk.2⟩) hv'⟩
 | .four i j l m p q r s,0,listed,e,h,hB,hv=>by unfold planBB at hB;cases hB
 | .four i j l m p q r s,f+1,listed,e,h,hB,hv=>by
   unfold planBB at hB
   simp only[Bool.and_eq_true] at hB
   have hr:Region.ready md ops listed=[i,j,l,m]:=eq_of_beq hB.1.1.1.1
   intro hR
   refine⟨fun h0=>(by rw[h0] at hr;cases hr),fun k hk=>?_⟩
   have hk':=hk
   rw[hr] at hk'
   simp only[List.mem_cons,List.not_mem_nil,or_false] at hk'
   rcases hk' with rfl | rfl | rfl | rfl
   ·obtain⟨o,ho,hck,hv'⟩:=vcOps_one hk hv.1
    rw[hck] at hv'
    exact⟨o,ho,vcG_mono hR (fun e' h' hk=>⟨hk.1,vcAnyB_of_plan p f _ e' h' hB.1.1.1.2 hk.2⟩) hv'⟩
   ·obtain⟨o,ho,hck,hv'⟩:=vcOps_one hk hv.2.1
    rw[hck] at hv'
    exact⟨o,ho,vcG_mono hR (fun e' h' hk=>⟨hk.1,vcAnyB_of_plan q f _ e' h' hB.1.1.2 hk.2⟩) hv'⟩
   ·obtain⟨o,ho,hck,hv'⟩:=vcOps_one hk hv.2.2.1
    rw[hck] at hv'
    exact⟨o,ho,vcG_mono hR (fun e' h' hk=>⟨hk.1,vcAnyB_of_plan r f _ e' h' hB.1.2 hk.2⟩) hv'⟩
   ·obtain⟨o,ho,hck,hv'⟩:=vcOps_one hk hv.2.2.2
    rw[hck] at hv'
    exact⟨o,ho,vcG_mono hR (fun e' h' hk=>⟨hk.1,vcAnyB_of_plan s f _ e' h' hB.2 hk.2⟩) hv'⟩
theorem SWP.drawB (bl:Nat→Bool) {id:Nat} {ops:Array Oper} {Q:Exit→Env→HS→Prop} {e:Env} {h:HS} (plan:Plan) (hm:P.follows .mixedOrders=true)
  (hB:planBB bl .any ops plan ops.size (Array.replicate ops.size false)=true) (hv:vcPlanB P ops.toList bl (Q .normal) plan e h):SWP P (.region id ops true) Q e h:=by
 intro Γ a w μ hI hE
 exact wp_region_any hm (vcAnyB_sound (Γ:=Γ) (fun e' h' μ' a' w' hk hI' hE' hle=>⟨e',h',μ',hk,hI',hE',hle⟩) ops.size _ (hI.drew) hE (.refl μ) (vcAnyB_of_plan plan _ _ e h hB hv))
end
theorem Wait.cutB {P:Program} {id:Nat} {ops:Array Oper} {Q:Exit→Env→HS→Prop} {e:Env} {h:HS} (bl:Nat→Bool) (plan:Plan) (hm:P.follows .mixedOrders=true)
  (hB:planBB bl .any ops plan ops.size (Array.replicate ops.size false)=true) (J:Env→HS→Prop) (h1:vcPlanB P ops.toList bl (fun e h=>CutK (J:=⟨J⟩) e h) plan e h) (h2:∀ e h,J e h→Q .normal e h) :
  Wait P (c:=⟨.region id ops true⟩) (Q:=⟨Q⟩) e h:=by
 refine SWP.mono (Q:=fun x e h=>match x with | .normal=>J e h | _=>False) (SWP.drawB bl plan hm hB h1) ?_
 intro x e h hq
 cases x with
 | normal=>exact h2 e h hq
 | _=>exact hq.elim
end Go.Am
end
section
namespace Go.Proofs.YthgepknlibmjcaaGreat
open Go Go.Am
def m_joinK (S:Sch) (T O:Tbl) (j:Nat) (col:Int) (_:Unit) (next:Unit→Option (Sch × Int)):Option (Sch × Int):=
 getK T.cols col fun a=>getK O.cols (j:Int) fun b=>bif a.kind != b.kind then some (S,9) else next ()
def m_renF1 (name tn:ByteArray) {ρ:Type} (k:Nat) (S:Sch) (next:Sch→Option ρ):Option ρ:=
 getK S.fks (k:Int) fun f=>bif strEq f.table name then next { S with fks:=S.fks.set k ⟨tn,f.cols,f.ref⟩ } else next S
def m_renO1 (name tn:ByteArray) {ρ:Type} (k:Nat) (S:Sch) (next:Sch→Option ρ):Option ρ:=
 getK S.cons (k:Int) fun c=>bif strEq c.table name then next { S with cons:=S.cons.set k { c with table:=tn } } else next S
def m_joinEnd (T O:Tbl) (i j:Nat) (S:Sch):Option (Sch × Int):=
 chkK (T.pk.length≤O.cols.length∧0 < O.cols.length∧0 < T.cols.length∧T.cols.length+O.cols.length≤LIM) (some ({ S with tables:=(S.tables.set i { T with cols:=T.cols++O.cols.drop T.pk.length }).take j++(S.tables.set i { T with cols:=T.cols++O.cols.drop T.pk.length }).drop (j+1) },0))
def m_evolution_joinTables (S:Sch) (i:Nat) (name:ByteArray):Option (Sch × Int):=
 bindK (m_schema_FindTable S name) fun v=>bif !v.2 then some (S,4) else getK S.tables (i:Int) fun T=>getK S.tables v.1 fun O=>bif ((i:Int) == v.1) then some (S,9) else
 bindK (m_slices_Equal_Int O.pk (seqI T.pk.length)) fun b=>bif !b then some (S,9) else
 forK (m_joinK S T O) (fun _=>bindK (m_evolution_dropForeignKey S ⟨name,seqI T.pk.length,T.name⟩) fun q=>bif q.2 != 0 then some (q.1,10) else
  bindK (m_slices_ContainsFunc_Foreignkey q.1.fks fun fk=>m_evolution_joinTables_1 fk name) fun b=>bif b then some (q.1,10) else
  bindK (m_evolution_remapColumns q.1 name fun c=>m_evolution_joinTables_2 c T.pk.length T T.cols.length) fun S2=>
  countK (m_renF1 name T.name) (fun S3=>countK (m_renO1 name T.name) (m_joinEnd T O i v.1.toNat) S3.cons.length 0 S3) S2.fks.length 0 S2) T.pk 0 ()
set_option maxHeartbeats 2000000 in
theorem h_evolution_joinTables (h:HS) (l:Lab) (tc fc oc:C) (ta fa oa:List Lab) (S S':Sch) (i:Nat) (name:ByteArray) (r:Int) (hm:Is (m_evolution_joinTables S i name) (S',r)) (s:Sc h l S tc fc oc ta fa oa) (K:V→HS→Prop)
  (hk:KeepS h l (ta++(fa++oa)) S' (.one (.d (.int .i64 r))) K) :
  HSpec Tryz.prog 166 [.one (.ptr l 0),.one (.d (.int .i64 (i:Int))),.one (.d (.str name))] h K:=by
 replace hm:=hm.bind
 obtain⟨v,hv,hm⟩:=hm
 have hs0:Same h ((h.setBox (h.ep,80) [.d (.str name)]).next) []:=(Same.refl.setBox (.inr (Nat.le_refl _))).next
 have s0:=s.frame hs0
 have hb0:=s0.box
 have bx5:(h.setBox (h.ep,80) [.d (.str name)]).next.box (h.ep,80)=some [.d (.str name)]:=by simp
 refine HSpec.of_vc Tryz.func166 rfl (by kernel_rfl) (n:=188) rfl rfl (by simp) ?_
 have hbs:=s.box
 have hep:h.ep < ((h.setBox (h.ep,80) [.d (.str name)]).next).ep:=by simp
 simp
 generalize (h.setBox (h.ep,80) [.d (.str name)]).next=HX at *
 refine Wait.cut (Plan.then_ [0,1,2,3,4,5,6,7,8,9] .done) follows (by kernel_rfl) (fun e h'=>e.n=188∧e.get 0=.one (.ptr l 0)∧e.get 1=.one (.d (.int .i64 (i:Int)))∧e.get 5=.one (.ptr (h.ep,80) 0)∧e.get 7=.one (.d (.int .i64 v.1))∧e.get 8=.one (.d (.bool v.2))∧Same HX h' []) ?_ ?_
 ·simp[hb0,bx5,Plan.then_,vcPlan,planOps,isCallAt,callKind]
  refine callK_heap (HSpec.of_lend (c_schema_FindTable S name v hv) ⟨.agg s0.frz,.one (.frz (.data rfl)),trivial⟩ rfl ?_)
  simp
  exact⟨fun _ _ x=>x,CutK.of (by simp[Same.refl.next])⟩
 ·rintro e h1 ⟨hn,h0,h1',h5,h7,h8,hs1⟩
  have bx5':h1.box (h.ep,80)=some [.d (.str name)]:=by rw[hs1.2 _ hep (by simp)];exact bx5
  have s1:=s0.frame hs1
  have hb1:=s1.box
  have hy:=hs0.trans hs1
  simp[hn,h8]
  cases hv2:v.2 with
  | false=>
    rw[hv2] at hm
    have e1:=r_ret hm
    simp only[Prod.mk.injEq] at e1
    obtain⟨rfl,rfl⟩:=e1
    simp[hn]
    exact hk _ _ s1.ows (hy.mono (by simp)) (fun k hk=>.inl hk)
  | true=>
    simp only[hv2,Bool.not_true,cond_false] at hm
    replace hm:=hm.getN
    obtain⟨T,hi,hm⟩:=hm
    replace hm:=hm.get
    obtain⟨O,hv0,hj,hm⟩:=hm
    obtain⟨j,hj1⟩:∃ j:Nat,v.1=j:=⟨v.1.toNat,by omega⟩
    rw[hj1] at h7 hj hm
    simp at hj
    have hlt:i < S.tables.length:=(List.getElem?_eq_some_iff.1 hi).1
    have hltj:j < S.tables.length:=(List.getElem?_eq_some_iff.1 hj).1
    obtain⟨lt,c1,c2,B,tv⟩:=s1.tbl hi
    obtain⟨cap,rfl⟩:=tv.hd
    have bx:=tv.el.box
    have r0:=tv.el.rd0 3 (by omega)
    have r1:=tv.el.rd 1 1 (by omega)
    have r2:=tv.el.rd 2 1 (by omega)
    simp at r0 r1 r2
    obtain⟨d1,d2,tw⟩:=s1.tblK bx hj
    have q0:=tw.el.rd0 3 (by omega)
    simp at q0
    simp
    refine Wait.cut (Plan.then_ [0,1,2,3,4,5,6,7,8,9,11] (.three 10 14 15 (Plan.then_ [12] (.three 13 14 15 (Plan.then_ [] (.two 14 15 (Plan.then_ [15,16,17] .done) (Plan.then_ [14,16,17] .done))) (Plan.then_ [] (.two 13 15 (Plan.then_ [15,16,17] .done) (Plan.then_ [] (.two 13 16 (Plan.then_ [16,17] .done) (Plan.then_ [13,17] .done))))) (Plan.then_ [] (.two 13 14 (Plan.then_ [14,16,17] .done) (Plan.then_ [] (.two 13 16 (Plan.then_ [16,17] .done) (Plan.then_ [13,17] .done))))))) (Plan.then_ [] (.two 10 15 (Plan.then_ [12] (.two 13 15 (Plan.then_ [15,16,17] .done) (Plan.then_ [] (.two 13 16 (Plan.then_ [16,17] .done) (Plan.then_ [13,17] .done))))) (Plan.then_ [] (.two 10 16 (Plan.then_ [12] (.two 13 16 (Plan.then_ [16,17] .done) (Plan.then_ [13,17] .done))) (Plan.then_ [10,12,13,17] .done))))) (Plan.then_ [] (.two 10 14 (Plan.then_ [12] (.two 13 14 (Plan.then_ [14,16,17] .done) (Plan.then_ [] (.two 13 16 (Plan.then_ [16,17] .done) (Plan.then_ [13,17] .done))))) (Plan.then_ [] (.two 10 16 (Plan.then_ [12] (.two 13 16 (Plan.then_ [16,17] .done) (Plan.then_ [13,17] .done))) (Plan.then_ [10,12,13,17] .done))))))) follows (by kernel_rfl) (fun e h'=>e.n=188∧e.get 0=.one (.ptr l 0)∧e.get 1=.one (.d (.int .i64 (i:Int)))∧e.get 5=.one (.ptr (h.ep,80) 0)∧e.get 7=.one (.d (.int .i64 (j:Int)))∧Same h1 h' [] ∧
     ∃ p9 p10:Lab,p9≠p10∧(h1.ep≤p9.1∧p9.1 < h'.ep)∧(h1.ep≤p10.1∧p10.1 < h'.ep)∧e.get 9=.one (.ptr p9 0)∧e.get 10=.one (.ptr p10 0)∧h'.box p9=some [.d (.str T.name),c1,c2]∧h'.box p10=some [.d (.str O.name),d1,d2]) ?_ ?_
    ·have hnl:=ne_new (s1.lt l (by simp))
     have hnt:=ne_new (s1.lt lt (by simp[tv.tm]))
     simp (maxDischargeDepth:=12) [hn,h0,h1',h5,h7,hb1,hlt,hltj,bx,r0,q0,hnl,hnt,le_s,Plan.then_,vcPlan,planOps,isCallAt,callKind]
     repeat' (with_reducible apply And.intro)
     all_goals first
      | (refine CutK.of ⟨?_,?_,?_,?_,?_,(((Same.refl.setBox (.inr ?_)).next.setBox (.inr ?_)).next.setBox (.inr ?_)).setBox (.inr ?_),(h1.ep,144),(h1.ep+1,160),?_,⟨?_,?_⟩,⟨?_,?_⟩,?_,?_,?_,?_⟩
         all_goals first
          | (simp[hn,h0,h1',h5,h7];done)
          | (simp;omega))
      | (refine CutK.of ⟨?_,?_,?_,?_,?_,(((Same.refl.setBox (.inr ?_)).next.setBox (.inr ?_)).next.setBox (.inr ?_)).setBox (.inr ?_),(h1.ep+1,144),(h1.ep,160),?_,⟨?_,?_⟩,⟨?_,?_⟩,?_,?_,?_,?_⟩
         all_goals first
          | (simp[hn,h0,h1',h5,h7];done)
          | (simp;omega))
    ·rintro e h2 ⟨hn,h0,h1',h5,h7,hs2,p9,p10,hp,hp9,hp10,h9,h10,b9,b10⟩
     have s2:=s1.frame hs2
     have hb2:=s2.box
     have hy2:=hy.trans hs2
     have bx52:h2.box (h.ep,80)=some [.d (.str name)]:=by rw[hs2.2 _ (Nat.lt_of_lt_of_le hep hs1.1) (by simp)];exact bx5'
     have bxl2:h2.box lt=some B:=by rw[hs2.2 _ (s1.lt lt (by simp[tv.tm])) (by simp)];exact bx
     have tT:∀ h',Same h2 h' []→TblV h' l S (.mrow lt 0 S.tables.length cap) fc oc ta fa oa i T lt c1 c2 B:=fun h' hs'=>by
      have e9:=hs'.2 lt (s2.lt lt (by simp[tv.tm])) (by simp)
      rw[bxl2] at e9
      obtain⟨a1,a2,tv9⟩:=(s2.frame hs').tblK e9 hi
      obtain⟨rfl,rfl⟩:a1=c1∧a2=c2:=by
       have:=tv9.el.rd0 3 (by omega)
       rw[r0] at this
       simp at this
       exact⟨this.1.symm,this.2.symm⟩
      exact tv9
     have tO:∀ h',Same h2 h' []→TblV h' l S (.mrow lt 0 S.tables.length cap) fc oc ta fa oa j O lt d1 d2 B:=fun h' hs'=>by
      have e9:=hs'.2 lt (s2.lt lt (by simp[tv.tm])) (by simp)
      rw[bxl2] at e9
      obtain⟨a1,a2,tv9⟩:=(s2.frame hs').tblK e9 hj
      obtain⟨rfl,rfl⟩:a1=d1∧a2=d2:=by
       have:=tv9.el.rd0 3 (by omega)
       rw[q0] at this
       simp at this
       exact⟨this.1.symm,this.2.symm⟩
      exact tv9
     simp[hn,h9,b9]
     refine lenK_clen tv.n2.1 ?_
     simp[hn]
     have hz:Same h2 ((h2.setBox (h2.ep,176) [C.d (D.int IntKind.i64 0)]).next.setBox (h2.ep,176) [C.d (D.int IntKind.i64 T.pk.length)]) []:=((Same.refl.setBox (.inr (Nat.le_refl _))).next).setBox (.inr (Nat.le_refl _))
     generalize hX2:(h2.setBox (h2.ep,176) [C.d (D.int IntKind.i64 0)]).next.setBox (h2.ep,176) [C.d (D.int IntKind.i64 T.pk.length)]=HB at hz ⊢
     have bb11:HB.box (h2.ep,176)=some [C.d (D.int IntKind.i64 T.pk.length)]:=by rw[← hX2];simp
     have hepB:h2.ep < HB.ep:=by rw[← hX2];simp
     have hyB:=hy2.trans hz
     have bb9:HB.box p9=some [.d (.str T.name),c1,c2]:=by rw[hz.2 _ hp9.2 (by simp)];exact b9
     have bb10:HB.box p10=some [.d (.str O.name),d1,d2]:=by rw[hz.2 _ hp10.2 (by simp)];exact b10
     have hplim:T.pk.length≤LIM:=tv.n2.2
     have hep1:h.ep < h1.ep:=Nat.lt_of_lt_of_le hep hs1.1
     have hep12:=hs2.1
     have bb5:HB.box (h.ep,80)=some [.d (.str name)]:=by rw[hz.2 _ (by simp;omega) (by simp)];exact bx52
     cases hij:(i:Int) == (j:Int) with
     | true=>
       simp only[hij,cond_true] at hm
       have e1:=r_ret hm
       simp only[Prod.mk.injEq] at e1
       obtain⟨rfl,rfl⟩:=e1
       refine Wait.cut (Plan.then_ [0,1,2,3,4,5,6,7,8,9,10] .done) follows (by kernel_rfl) (fun e h'=>e.n=188∧e.get 55=.one (.d (.bool true))∧h'=HB) ?_ ?_
       ·simp[hn,h1',h7,hij,Plan.then_,vcPlan,planOps,isCallAt,callKind]
        exact⟨BoxLe.refl _,CutK.of ⟨by simp[hn],by simp,rfl⟩⟩
       ·rintro e h3 ⟨hn,h55,rfl⟩
        simp[hn,h55]
        exact hk _ _ (s.frame hyB).ows (hyB.mono (by simp)) (fun k hk=>.inl hk)
     | false=>
       simp only[hij,cond_false] at hm
       replace hm:=hm.bind
       obtain⟨b,hbv,hm⟩:=hm
       have hij1:¬ (i:Int)=(j:Int):=by simpa using hij
       have hij2:¬ i=j:=by omega
       refine Wait.cut (Plan.then_ [0,1,2,3,4,5,6,7,8,9,10] .done) follows (by kernel_rfl) (fun e h'=>e.n=188∧e.get 0=.one (.ptr l 0)∧e.get 1=.one (.d (.int .i64 (i:Int)))∧e.get 5=.one (.ptr (h.ep,80) 0)∧e.get 7=.one (.d (.int .i64 (j:Int)))∧e.get 9=.one (.ptr p9 0)∧e.get 10=.one (.ptr p10 0)∧e.get 11=.one (.ptr (h2.ep,176) 0)∧e.get 55=.one (.d (.bool !b))∧Same HB h' []) ?_ ?_
       ·simp[hn,h1',h7,h10,hij,bb10,bb11,Plan.then_,vcPlan,planOps,isCallAt,callKind]
        refine callK_heap (h_evolution_sequence _ T.pk.length hplim _ (fun pc g mp hs3 hlp hbox=>?_))
        simp[hn]
        refine⟨hbox,?_⟩
        rw[dmap_len] at mp
        refine callK_heap (HSpec.of_lend (c_slices_Equal_Int O.pk (seqI T.pk.length) b hbv) ⟨.one (.frz ((tO g (hz.trans hs3)).f2 _ .refl)),.one (.frz ((Ow.nrow (n:=1) mp rfl (by simp)).nfrz)),trivial⟩ rfl ?_)
        simp[hn]
        exact⟨fun _ _ x=>x,CutK.of ⟨by simp[hn],by simp[h0],by simp[h1'],by simp[h5],by simp[h7],by simp[h9],by simp[h10],by simp,by simp,hs3.next⟩⟩
       ·rintro e h3 ⟨hn,h0,h1',h5,h7,h9,h10,h11,h55,hs3⟩
        have hz3:=hz.trans hs3
        have hy3:=hy2.trans hz3
        have s3:=s.frame hy3
        simp[hn,h55]
        cases b with
        | false=>
          have e1:=r_ret hm
          simp only[Prod.mk.injEq] at e1
          obtain⟨rfl,rfl⟩:=e1
          simp[hn]
          exact hk _ _ s3.ows (hy3.mono (by simp)) (fun k hk=>.inl hk)
        | true=>
          simp only[Bool.not_true,cond_false] at hm
          have b93:h3.box p9=some [.d (.str T.name),c1,c2]:=by rw[hs3.2 _ (by omega) (by simp)];exact bb9
          have b103:h3.box p10=some [.d (.str O.name),d1,d2]:=by rw[hs3.2 _ (by omega) (by simp)];exact bb10
          have b113:h3.box (h2.ep,176)=some [C.d (D.int IntKind.i64 T.pk.length)]:=by rw[hs3.2 _ (by simpa using hepB) (by simp)];exact bb11
          have b53:h3.box (h.ep,80)=some [.d (.str name)]:=by rw[hs3.2 _ (by simp;omega) (by simp)];exact bb5
          simp[hn,h9,b93]
          refine lenK_clen tv.n2.1 ?_
          simp[hn]
          have t3:=tT h3 hz3
          have u3:=tO h3 hz3
          refine Wait.for (xs:=T.pk) (s0:=()) (fun k _ e g=>e.n=188∧e.get 0=.one (.ptr l 0)∧e.get 1=.one (.d (.int .i64 (i:Int)))∧e.get 5=.one (.ptr (h.ep,80) 0)∧e.get 7=.one (.d (.int .i64 (j:Int)))∧e.get 9=.one (.ptr p9 0)∧e.get 10=.one (.ptr p10 0)∧e.get 11=.one (.ptr (h2.ep,176) 0)∧e.get 57=.one c2∧e.get 58=.one (.d (.int .i64 (T.pk.length:Int)))∧e.get 59=.one (.d (.int .i64 (k:Int)))∧g=h3) hm ⟨by simp[hn],by simp[h0],by simp[h1'],by simp[h5],by simp[h7],by simp[h9],by simp[h10],by simp[h11],by simp,by simp,by simp,rfl⟩ ?_ ?_
          ·rintro k _ e g ⟨hn,h0,h1',h5,h7,h9,h10,h11,h57,h58,h59,rfl⟩ hltk hm
           simp only[m_joinK] at hm
           replace hm:=hm.get
           obtain⟨ca,hca0,hca,hm⟩:=hm
           replace hm:=hm.getN
           obtain⟨cb,hcb,hm⟩:=hm
           have hw:IntKind.i64.wrap ((k:Int)+1)=(k:Int)+1:=IntWalk.i64_in _ (by have h9':T.pk.length≤2097152:=hplim;omega)
           obtain⟨lp,cp,Bp,rfl,ep,-⟩:=t3.e2 k _ (List.getElem?_eq_getElem hltk)
           have bp:=ep.box
           have rp:=ep.rd0 1 (by omega)
           obtain⟨n,hn1⟩:∃ n:Nat,T.pk[k]=n:=⟨(T.pk[k]).toNat,by omega⟩
           rw[hn1] at rp hca
           simp at rp hca
           have hnl:n < T.cols.length:=(List.getElem?_eq_some_iff.1 hca).1
           have hkl:k < O.cols.length:=(List.getElem?_eq_some_iff.1 hcb).1
           obtain⟨l1,cp1,B1,rfl,el1,-⟩:=t3.e1 n ca hca
           obtain⟨l2,cp2,B2,rfl,el2,-⟩:=u3.e1 k cb hcb
           have bx1:=el1.box
           have bx2:=el2.box
           have q1:=el1.rd 1 1 (by omega)
           have q2:=el2.rd 1 1 (by omega)
           simp at q1 q2
           simp[hn,h57,h58,h59,hltk,bp,rp]
           refine Wait.cut (Plan.then_ [0,1,2,3,4,5,6,7,8,9,10,11,12] .done) follows (by kernel_rfl) (fun e g'=>e.n=188∧e.get 0=.one (.ptr l 0)∧e.get 1=.one (.d (.int .i64 (i:Int)))∧e.get 5=.one (.ptr (h.ep,80) 0)∧e.get 7=.one (.d (.int .i64 (j:Int)))∧e.get 9=.one (.ptr p9 0)∧e.get 10=.one (.ptr p10 0)∧e.get 11=.one (.ptr (h2.ep,176) 0)∧e.get 57=.one (.mrow lp 0 T.pk.length cp)∧e.get 58=.one (.d (.int .i64 (T.pk.length:Int)))∧e.get 59=.one (.d (.int .i64 (k:Int)))∧e.get 76=.one (.d (.bool (ca.kind != cb.kind)))∧g'=g) ?_ ?_
           ·simp[hn,h9,h10,b93,b103,hn1,hnl,hkl,bx1,bx2,q1,q2,Plan.then_,vcPlan,planOps,isCallAt,callKind]
            exact CutK.of ⟨by simp[hn],by simp[h0],by simp[h1'],by simp[h5],by simp[h7],by simp[h9],by simp[h10],by simp[h11],by simp[h57],by simp[h58],by simp[h59],by simp,rfl⟩
           ·rintro e g' ⟨hn,h0,h1',h5,h7,h9,h10,h11,h57,h58,h59,h76,rfl⟩
            simp[hn,h76]
            cases hkk:ca.kind != cb.kind with
            | true=>
              simp only[hkk,cond_true] at hm
              have e1:=r_ret hm
              simp only[Prod.mk.injEq] at e1
              obtain⟨rfl,rfl⟩:=e1
              simp[hn,hkk]
              exact hk _ _ s3.ows (hy3.mono (by simp)) (fun k hk=>.inl hk)
            | false=>
              simp only[hkk,cond_false] at hm
              simp[hn,h59,hkk,hw]
              exact BackF.of () ⟨⟨by simp[hn],by simp[h0],by simp[h1'],by simp[h5],by simp[h7],by simp[h9],by simp[h10],by simp[h11],by simp[h57],by simp[h58],by simp,rfl⟩,hm⟩
          ·rintro _ e g ⟨hn,h0,h1',h5,h7,h9,h10,h11,h57,h58,h59,rfl⟩ hm
           replace hm:=hm.bind
           obtain⟨q,hq,hm⟩:=hm
           simp[hn,h58,h59]
           have hep3:=hs3.1
           refine Wait.cutB (fun k=>k == 3) (Plan.then_ [0,1,2,4,5,3,6,7,8] .done) follows (by kernel_rfl) (fun e g'=>e.n=188∧e.get 0=.one (.ptr l 0)∧e.get 1=.one (.d (.int .i64 (i:Int)))∧e.get 5=.one (.ptr (h.ep,80) 0)∧e.get 7=.one (.d (.int .i64 (j:Int)))∧e.get 9=.one (.ptr p9 0)∧e.get 10=.one (.ptr p10 0)∧e.get 11=.one (.ptr (h2.ep,176) 0)∧e.get 14=.one (.d (.int .i64 q.2))∧∃ fc' fa',Sc g' l q.1 (.mrow lt 0 S.tables.length cap) fc' oc ta fa' oa∧Same g g' (l::fa)∧(∀ k ∈ fa',k ∈ fa)) ?_ ?_
           ·simp[hn,h0,h5,h9,h11,b53,b93,b113,Plan.then_,vcPlanB,planOps,isCallAt,callKind]
            refine callK_heap (h_evolution_sequence _ T.pk.length hplim _ (fun pc g2 mp hs4 hlp hbox=>?_))
            simp[hn]
            refine⟨hbox,?_⟩
            refine callK_heap (h_evolution_dropForeignKey' g2 l _ fc oc ta fa oa S q.1 ⟨name,seqI T.pk.length,T.name⟩ [.d (.str name),pc,.d (.str T.name)] q.2 hq (s3.frame hs4) (fun h' hs'=>⟨.data rfl,?_,.data rfl,trivial⟩) _ (fun g3 fc' fa' s4 hs5 hfa'=>?_))
            ·rw[dmap_len] at mp
             exact (Ow.nrow (n:=1) (mp.frame fun k hk=>hs'.2 k (hlp k hk).2 (by simp)) rfl (by simp)).nfrz
            ·simp[hn]
             exact CutK.of ⟨by simp[hn],by simp[h0],by simp[h1'],by simp[h5],by simp[h7],by simp[h9],by simp[h10],by simp[h11],by simp,fc',fa',s4,(hs4.mono (by simp)).trans hs5,hfa'⟩
           ·rintro e ga ⟨hn,h0,h1',h5,h7,h9,h10,h11,h14,fc',fa',s4,hs4,hfa'⟩
            obtain⟨S1,q2⟩:=q
            simp only at hq hm h14 s4
            have ht4:=dropFk_tables hq
            have hi4:S1.tables[i]?=some T:=by rw[ht4];exact hi
            have hj4:S1.tables[j]?=some O:=by rw[ht4];exact hj
            have hy4:Same h ga (l::(ta++(fa++oa))):=(hy3.mono (by simp)).trans (hs4.mono fun k hk=>by simp only[List.mem_cons,List.mem_append] at hk ⊢;exact hk.imp_right fun h=>.inr (.inl h))
            have fresh:∀ k:Lab,h.ep≤k.1→k ∉ l::(ta++(fa++oa)):=fun k hk h2=>by have:=s.lt k h2;omega
            have fresh2:∀ k:Lab,h.ep≤k.1→k ∉ l::fa:=fun k hk h2=>fresh k hk (by simp only[List.mem_cons,List.mem_append] at h2 ⊢;exact h2.imp_right fun h=>.inr (.inl h))
            have b94:ga.box p9=some [.d (.str T.name),c1,c2]:=by rw[hs4.2 _ (by omega) (fresh2 _ (by omega))];exact b93
            have b104:ga.box p10=some [.d (.str O.name),d1,d2]:=by rw[hs4.2 _ (by omega) (fresh2 _ (by omega))];exact b103
            have b114:ga.box (h2.ep,176)=some [C.d (D.int IntKind.i64 T.pk.length)]:=by rw[hs4.2 _ (by simp;omega) (fresh2 _ (by simp;omega))];exact b113
            have b54:ga.box (h.ep,80)=some [.d (.str name)]:=by rw[hs4.2 _ (by simp;omega) (fresh2 _ (by simp))];exact b53
            have hep4:=hs4.1
            have hnd:=s.nd
            simp only[List.nodup_cons,List.nodup_append,List.mem_append,not_or] at hnd
            have htaf:∀ k ∈ ta,k≠l∧k ∉ fa∧k ∉ oa:=fun k hk=>⟨fun he=>hnd.1.1 (he ▸ hk),fun h2=>hnd.2.2.2 k hk k (.inl h2) rfl,fun h2=>hnd.2.2.2 k hk k (.inr h2) rfl⟩
            have bl4:ga.box lt=some B:=by
             rw[hs4.2 lt (s3.lt lt (by simp[tv.tm])) (fun h2=>by
              have:=htaf lt tv.tm
              simp only[List.mem_cons] at h2
              exact h2.elim this.1 this.2.1)]
             exact t3.el.box
            have mkT:∀ {h':HS} {S9:Sch} {fc9 oc9:C} {fa9 oa9:List Lab},Sc h' l S9 (.mrow lt 0 S.tables.length cap) fc9 oc9 ta fa9 oa9→S9.tables=S.tables→h'.box lt=some B→TblV h' l S9 (.mrow lt 0 S.tables.length cap) fc9 oc9 ta fa9 oa9 i T lt c1 c2 B∧TblV h' l S9 (.mrow lt 0 S.tables.length cap) fc9 oc9 ta fa9 oa9 j O lt d1 d2 B:=fun {h' S9 fc9 oc9 fa9 oa9} s9 ht9 hb9=>by
             refine⟨?_,?_⟩
             ·obtain⟨a1,a2,tv9⟩:=s9.tblK hb9 (i:=i) (T:=T) (by rw[ht9];exact hi)
              obtain⟨rfl,rfl⟩:a1=c1∧a2=c2:=by
               have:=tv9.el.rd0 3 (by omega)
               rw[r0] at this
               simp at this
               exact⟨this.1.symm,this.2.symm⟩
              exact tv9
             ·obtain⟨a1,a2,tv9⟩:=s9.tblK hb9 (i:=j) (T:=O) (by rw[ht9];exact hj)
              obtain⟨rfl,rfl⟩:a1=d1∧a2=d2:=by
               have:=tv9.el.rd0 3 (by omega)
               rw[q0] at this
               simp at this
               exact⟨this.1.symm,this.2.symm⟩
              exact tv9
            have ks:∀ k ∈ ta++(fa'++oa),k ∈ ta++(fa++oa):=fun k hk=>by simp only[List.mem_append] at hk ⊢;exact hk.imp_right fun h=>h.imp_left (hfa' k)
            simp[hn,h14]
            cases hq0:q2 != 0 with
            | true=>
              simp only[hq0,cond_true] at hm
              have e1:=r_ret hm
              simp only[Prod.mk.injEq] at e1
              obtain⟨rfl,rfl⟩:=e1
              simp[hn,hq0]
              exact hk _ _ s4.ows hy4 (fun k hk=>.inl (ks k hk))
            | false=>
              simp only[hq0,cond_false] at hm
              replace hm:=hm.bind
              obtain⟨b,hbv,hm⟩:=hm
              have hb4:=s4.box
              simp[hn,h0,h5,h14,hq0,hb4]
              refine callK_heap (HSpec.of_lend (c_slices_ContainsFunc_Foreignkey S1.fks 185 [[.str name]] (fun fk=>m_evolution_joinTables_1 fk name) (fun xa v hv=>c_evolution_joinTables_1 xa name v hv) b hbv) ⟨.one (.frz s4.ffrz),.one (.fn rfl ?_),trivial⟩ rfl ?_)
              ·intro jj cp ds hj hd
               cases jj with
               | zero=>
                 simp at hj hd
                 subst hj hd
                 exact⟨_,b54,FrzCs.datas (ds:=[.str name])⟩
               | succ jj=>simp at hj
              ·have hz5:Same ga ga.next []:=Same.refl.next
               have s5:=s4.frame hz5
               simp[hn]
               cases b with
               | true=>
                 have e1:=r_ret hm
                 simp only[Prod.mk.injEq] at e1
                 obtain⟨rfl,rfl⟩:=e1
                 simp[hn]
                 exact hk _ _ s5.ows (hy4.trans (hz5.mono (by simp))) (fun k hk=>.inl (ks k hk))
               | false=>
                 simp only[cond_false] at hm
                 replace hm:=hm.bind
                 obtain⟨S2,hm2,hm⟩:=hm
                 simp[hn,h9,b94]
                 refine lenK_clen tv.n1.1 ?_
                 have h5n:=ne_new (l:=(h.ep,80)) (n:=ga.ep) (by simp;omega)
                 simp (maxDischargeDepth:=12) [hn,h0,h5,h9,h11,h5n,b54,le_s]
                 have hz6:Same ga ((ga.next.setBox (ga.ep+1,240) [C.d (D.int IntKind.i64 0)]).next.setBox (ga.ep+1,240) [C.d (D.int IntKind.i64 T.cols.length)]) []:=((hz5.setBox (.inr (by simp))).next).setBox (.inr (by simp))
                 generalize hX7:(ga.next.setBox (ga.ep+1,240) [C.d (D.int IntKind.i64 0)]).next.setBox (ga.ep+1,240) [C.d (D.int IntKind.i64 T.cols.length)]=HC at hz6 ⊢
                 have s6:=s4.frame hz6
                 have hep6:ga.ep+1 < HC.ep:=by rw[← hX7];simp
                 have b15:HC.box (ga.ep+1,240)=some [C.d (D.int IntKind.i64 T.cols.length)]:=by rw[← hX7];simp
                 have kC:∀ k:Lab,k.1 < ga.ep→HC.box k=ga.box k:=fun k hk=>hz6.2 k hk (by simp)
                 have fr6:∀ k:Lab,h.ep≤k.1→k ∉ fa'++oa:=fun k hk h2=>fresh k hk (by simp only[List.mem_cons,List.mem_append] at h2 ⊢;exact .inr (.inr (h2.imp_left (hfa' k))))
                 have blC:HC.box lt=some B:=by rw[kC lt (s4.lt lt (by simp[tv.tm]))];exact bl4
                 obtain⟨t6,u6⟩:=mkT s6 ht4 blC
                 have lend:∀ h',Same HC h' (fa'++oa)→LendVs h' ([Cap.lab (h2.ep,176),Cap.lab p9,Cap.lab (ga.ep+1,240)].map capV) (capsOf [[.int .i64 T.pk.length],T.enc,[.int .i64 T.cols.length]]):=fun h' hs'=>by
                  refine⟨.one (.ptr (cs:=[C.d (D.int IntKind.i64 T.pk.length)]) ?_ (FrzCs.datas (ds:=[.int .i64 T.pk.length]))),.one (.ptr (cs:=[.d (.str T.name),c1,c2]) ?_ (s6.tblFrz t6 hi4 h' fun k hk=>hs'.2 k (s6.lt k (by simp[hk])) fun h2=>?_)),.one (.ptr (cs:=[C.d (D.int IntKind.i64 T.cols.length)]) ?_ (FrzCs.datas (ds:=[.int .i64 T.cols.length]))),trivial⟩
                  ·rw[hs'.2 _ (by simp;omega) (fr6 _ (by simp;omega)),kC _ (by simp;omega)];exact b114
                  ·rw[hs'.2 _ (by omega) (fr6 _ (by omega)),kC _ (by omega)];exact b94
                  ·have:=htaf k hk
                   rcases List.mem_append.1 h2 with h2 | h2
                   ·exact this.2.1 (hfa' k h2)
                   ·exact this.2.2 h2
                  ·rw[hs'.2 _ (by simpa using hep6) (fr6 _ (by simp;omega))];exact b15
                 refine callK_heap (h_evolution_remapColumns HC l _ fc' oc ta fa' oa S1 S2 name 187 [Cap.lab (h2.ep,176),Cap.lab p9,Cap.lab (ga.ep+1,240)] [[.int .i64 T.pk.length],T.enc,[.int .i64 T.cols.length]] _ hm2 s6 lend (fun x v hv=>c_evolution_joinTables_2 x T.pk.length T T.cols.length v hv) _ (fun g7 s7 hs7=>?_))
                 have ht7:S2.tables=S.tables:=(remap_tables hm2).trans ht4
                 have hb7:=s7.box
                 simp[hn,h0,hb7]
                 refine lenK_clen s7.len.2.1.1 ?_
                 simp[hn]
                 have en2:∀ h',Same HC h' (fa'++oa)→h'.box (h.ep,80)=some [.d (.str name)]∧h'.box p9=some [.d (.str T.name),c1,c2]∧h'.box p10=some [.d (.str O.name),d1,d2]∧h'.box (h2.ep,176)=some [C.d (D.int IntKind.i64 T.pk.length)]∧h'.box lt=some B:=fun h' hs'=>by
                  refine⟨?_,?_,?_,?_,?_⟩
                  ·rw[hs'.2 _ (by simp;omega) (fr6 _ (by simp)),kC _ (by simp;omega)];exact b54
                  ·rw[hs'.2 _ (by omega) (fr6 _ (by omega)),kC _ (by omega)];exact b94
                  ·rw[hs'.2 _ (by omega) (fr6 _ (by omega)),kC _ (by omega)];exact b104
                  ·rw[hs'.2 _ (by simp;omega) (fr6 _ (by simp;omega)),kC _ (by simp;omega)];exact b114
                  ·rw[hs'.2 lt (s6.lt lt (by simp[tv.tm])) fun h2=>?_]
                   ·exact blC
                   ·have:=htaf lt tv.tm
                    rcases List.mem_append.1 h2 with h2 | h2
                    ·exact this.2.1 (hfa' lt h2)
                    ·exact this.2.2 h2
                 refine Wait.count (N:=(S2.fks.length:Int)) (s0:=S2) (fun k S3 e g=>e.n=188∧e.get 0=.one (.ptr l 0)∧e.get 1=.one (.d (.int .i64 (i:Int)))∧e.get 5=.one (.ptr (h.ep,80) 0)∧e.get 7=.one (.d (.int .i64 (j:Int)))∧e.get 9=.one (.ptr p9 0)∧e.get 10=.one (.ptr p10 0)∧e.get 11=.one (.ptr (h2.ep,176) 0)∧e.get 105=.one (.d (.int .i64 (S2.fks.length:Int)))∧e.get 106=.one (.d (.int .i64 (k:Int)))∧S3.fks.length=S2.fks.length∧S3.tables=S.tables∧Sc g l S3 (.mrow lt 0 S.tables.length cap) fc' oc ta fa' oa∧Same HC g (fa'++oa)) (by simpa using hm) ⟨by simp[hn],by simp[h0],by simp[h1'],by simp[h5],by simp[h7],by simp[h9],by simp[h10],by simp[h11],by simp,by simp,rfl,ht7,s7,hs7⟩ ?_ ?_
                 ·rintro k S3 e g ⟨hn,h0,h1',h5,h7,h9,h10,h11,hlen,hcnt,hl3,ht3,s8,hs8⟩ hlt8 hm
                  simp only[m_renF1] at hm
                  replace hm:=hm.getN
                  obtain⟨f,hf,hm⟩:=hm
                  have hltk:k < S2.fks.length:=by omega
                  have hltk2:k < S3.fks.length:=by omega
                  have hfl:=s8.len.2.1.2
                  simp only[lim_eq] at hfl
                  have hw:IntKind.i64.wrap ((k:Int)+1)=(k:Int)+1:=IntWalk.i64_in _ (by omega)
                  have hb8:=s8.box
                  obtain⟨lf,cf,Bf,rfl,bxf,hle⟩:=s8.fkH hf
                  obtain⟨hlf,hllf,c1f,el,-,-,w0,-⟩:=s8.fkK bxf hf
                  have rf:=el.rd0 1 (by omega)
                  simp at rf
                  obtain⟨b58,b98,b108,b118,bl8⟩:=en2 g hs8
                  simp[hn,hlen,hcnt,hltk]
                  refine Wait.cut (Plan.then_ [0,1,2,3,4,5,6,7,8,9] .done) follows (by kernel_rfl) (fun e g'=>e.n=188∧e.get 0=.one (.ptr l 0)∧e.get 1=.one (.d (.int .i64 (i:Int)))∧e.get 5=.one (.ptr (h.ep,80) 0)∧e.get 7=.one (.d (.int .i64 (j:Int)))∧e.get 9=.one (.ptr p9 0)∧e.get 10=.one (.ptr p10 0)∧e.get 11=.one (.ptr (h2.ep,176) 0)∧e.get 105=.one (.d (.int .i64 (S2.fks.length:Int)))∧e.get 106=.one (.d (.int .i64 (k:Int)))∧e.get 16=.one (.d (.int .i64 (k:Int)))∧e.get 118=.one (.d (.bool (strEq f.table name)))∧g'=g) ?_ ?_
                  ·simp[hn,h0,h5,hltk2,hb8,b58,bxf,rf,Plan.then_,vcPlan,planOps,isCallAt,callKind]
                   exact CutK.of ⟨by simp[hn],by simp[h0],by simp[h1'],by simp[h5],by simp[h7],by simp[h9],by simp[h10],by simp[h11],by simp[hlen],by simp[hcnt],by simp,by simp,rfl⟩
                  ·rintro e g' ⟨hn,h0,h1',h5,h7,h9,h10,h11,hlen,hcnt,hidx,hcmp,rfl⟩
                   simp[hn,hcmp]
                   cases hbt:strEq f.table name with
                   | false=>
                     simp only[hbt,cond_false] at hm
                     simp[hn,hcnt,hw]
                     exact BackF.of S3 ⟨⟨by simp[hn],by simp[h0],by simp[h1'],by simp[h5],by simp[h7],by simp[h9],by simp[h10],by simp[h11],by simp[hlen],by simp,hl3,ht3,s8,hs8⟩,hm⟩
                   | true=>
                     simp only[hbt,cond_true] at hm
                     simp[hn]
                     refine Wait.cut (Plan.then_ [0,1,2,3,4,5,6,7,8,9] .done) follows (by kernel_rfl) (fun e g''=>e.n=188∧e.get 0=.one (.ptr l 0)∧e.get 1=.one (.d (.int .i64 (i:Int)))∧e.get 5=.one (.ptr (h.ep,80) 0)∧e.get 7=.one (.d (.int .i64 (j:Int)))∧e.get 9=.one (.ptr p9 0)∧e.get 10=.one (.ptr p10 0)∧e.get 11=.one (.ptr (h2.ep,176) 0)∧e.get 105=.one (.d (.int .i64 (S2.fks.length:Int)))∧e.get 106=.one (.d (.int .i64 (k:Int)))∧Sc g'' l { S3 with fks:=S3.fks.set k ⟨T.name,f.cols,f.ref⟩ } (.mrow lt 0 S.tables.length cap) (.mrow lf 0 S3.fks.length cf) oc ta fa' oa∧Same HC g'' (fa'++oa)) ?_ ?_
                     ·simp[hn,h0,h9,hidx,hltk2,hb8,b98,bxf,Plan.then_,vcPlan,planOps,isCallAt,callKind]
                      exact⟨by omega,CutK.of ⟨by simp[hn],by simp[h0],by simp[h1'],by simp[h5],by simp[h7],by simp[h9],by simp[h10],by simp[h11],by simp[hlen],by simp[hcnt],w0 T.name,hs8.setBox (.inl (by simp[hlf]))⟩⟩
                     ·rintro e g'' ⟨hn,h0,h1',h5,h7,h9,h10,h11,hlen,hcnt,s9,hs9⟩
                      simp[hn,hcnt,hw]
                      exact BackF.of ({ S3 with fks:=S3.fks.set k ⟨T.name,f.cols,f.ref⟩ }:Sch) ⟨⟨by simp[hn],by simp[h0],by simp[h1'],by simp[h5],by simp[h7],by simp[h9],by simp[h10],by simp[h11],by simp[hlen],by simp,by simpa using hl3,ht3,s9,hs9⟩,hm⟩
                 ·rintro k S3 e g ⟨hn,h0,h1',h5,h7,h9,h10,h11,h105,h106,hl3,ht3,s8,hs8⟩ hge hm
                  have hge1:¬ k < S2.fks.length:=by omega
                  have hb8:=s8.box
                  simp[hn,h0,h105,h106,hge1,hb8]
                  refine lenK_clen s8.len.2.2.1 ?_
                  simp[hn]
                  refine Wait.count (N:=(S3.cons.length:Int)) (s0:=S3) (fun k S4 e g=>e.n=188∧e.get 0=.one (.ptr l 0)∧e.get 1=.one (.d (.int .i64 (i:Int)))∧e.get 5=.one (.ptr (h.ep,80) 0)∧e.get 7=.one (.d (.int .i64 (j:Int)))∧e.get 9=.one (.ptr p9 0)∧e.get 10=.one (.ptr p10 0)∧e.get 11=.one (.ptr (h2.ep,176) 0)∧e.get 133=.one (.d (.int .i64 (S3.cons.length:Int)))∧e.get 134=.one (.d (.int .i64 (k:Int)))∧S4.cons.length=S3.cons.length∧S4.tables=S.tables∧Sc g l S4 (.mrow lt 0 S.tables.length cap) fc' oc ta fa' oa∧Same HC g (fa'++oa)) (by simpa using hm) ⟨by simp[hn],by simp[h0],by simp[h1'],by simp[h5],by simp[h7],by simp[h9],by simp[h10],by simp[h11],by simp,by simp,rfl,ht3,s8,hs8⟩ ?_ ?_
                  ·rintro k S4 e g ⟨hn,h0,h1',h5,h7,h9,h10,h11,hlen,hcnt,hl3,ht3,s8,hs8⟩ hlt8 hm
                   simp only[m_renO1] at hm
                   replace hm:=hm.getN
                   obtain⟨f,hf,hm⟩:=hm
                   have hltk:k < S3.cons.length:=by omega
                   have hltk2:k < S4.cons.length:=by omega
                   have hfl:=s8.len.2.2.2
                   simp only[lim_eq] at hfl
                   have hw:IntKind.i64.wrap ((k:Int)+1)=(k:Int)+1:=IntWalk.i64_in _ (by omega)
                   have hb8:=s8.box
                   obtain⟨lf,cf,Bf,rfl,bxf,hle⟩:=s8.conH hf
                   obtain⟨hlf,hllf,el,w0,-,-⟩:=s8.conK bxf hf
                   have rf:=el.rd0 1 (by omega)
                   simp at rf
                   obtain⟨b58,b98,b108,b118,bl8⟩:=en2 g hs8
                   simp[hn,hlen,hcnt,hltk]
                   refine Wait.cut (Plan.then_ [0,1,2,3,4,5,6,7,8,9] .done) follows (by kernel_rfl) (fun e g'=>e.n=188∧e.get 0=.one (.ptr l 0)∧e.get 1=.one (.d (.int .i64 (i:Int)))∧e.get 5=.one (.ptr (h.ep,80) 0)∧e.get 7=.one (.d (.int .i64 (j:Int)))∧e.get 9=.one (.ptr p9 0)∧e.get 10=.one (.ptr p10 0)∧e.get 11=.one (.ptr (h2.ep,176) 0)∧e.get 133=.one (.d (.int .i64 (S3.cons.length:Int)))∧e.get 134=.one (.d (.int .i64 (k:Int)))∧e.get 17=.one (.d (.int .i64 (k:Int)))∧e.get 146=.one (.d (.bool (strEq f.table name)))∧g'=g) ?_ ?_
                   ·simp[hn,h0,h5,hltk2,hb8,b58,bxf,rf,Plan.then_,vcPlan,planOps,isCallAt,callKind]
                    exact CutK.of ⟨by simp[hn],by simp[h0],by simp[h1'],by simp[h5],by simp[h7],by simp[h9],by simp[h10],by simp[h11],by simp[hlen],by simp[hcnt],by simp,by simp,rfl⟩
                   ·rintro e g' ⟨hn,h0,h1',h5,h7,h9,h10,h11,hlen,hcnt,hidx,hcmp,rfl⟩
                    simp[hn,hcmp]
                    cases hbt:strEq f.table name with
                    | false=>
                      simp only[hbt,cond_false] at hm
                      simp[hn,hcnt,hw]
                      exact BackF.of S4 ⟨⟨by simp[hn],by simp[h0],by simp[h1'],by simp[h5],by simp[h7],by simp[h9],by simp[h10],by simp[h11],by simp[hlen],by simp,hl3,ht3,s8,hs8⟩,hm⟩
                    | true=>
                      simp only[hbt,cond_true] at hm
                      simp[hn]
                      refine Wait.cut (Plan.then_ [0,1,2,3,4,5,6,7,8,9] .done) follows (by kernel_rfl) (fun e g''=>e.n=188∧e.get 0=.one (.ptr l 0)∧e.get 1=.one (.d (.int .i64 (i:Int)))∧e.get 5=.one (.ptr (h.ep,80) 0)∧e.get 7=.one (.d (.int .i64 (j:Int)))∧e.get 9=.one (.ptr p9 0)∧e.get 10=.one (.ptr p10 0)∧e.get 11=.one (.ptr (h2.ep,176) 0)∧e.get 133=.one (.d (.int .i64 (S3.cons.length:Int)))∧e.get 134=.one (.d (.int .i64 (k:Int)))∧Sc g'' l { S4 with cons:=S4.cons.set k { f with table:=T.name } } (.mrow lt 0 S.tables.length cap) fc' (.mrow lf 0 S4.cons.length cf) ta fa' oa∧Same HC g'' (fa'++oa)) ?_ ?_
                      ·simp[hn,h0,h9,hidx,hltk2,hb8,b98,bxf,Plan.then_,vcPlan,planOps,isCallAt,callKind]
                       exact⟨by omega,CutK.of ⟨by simp[hn],by simp[h0],by simp[h1'],by simp[h5],by simp[h7],by simp[h9],by simp[h10],by simp[h11],by simp[hlen],by simp[hcnt],w0 T.name,hs8.setBox (.inl (by simp[hlf]))⟩⟩
                      ·rintro e g'' ⟨hn,h0,h1',h5,h7,h9,h10,h11,hlen,hcnt,s9,hs9⟩
                       simp[hn,hcnt,hw]
                       exact BackF.of ({ S4 with cons:=S4.cons.set k { f with table:=T.name } }:Sch) ⟨⟨by simp[hn],by simp[h0],by simp[h1'],by simp[h5],by simp[h7],by simp[h9],by simp[h10],by simp[h11],by simp[hlen],by simp,by simpa using hl3,ht3,s9,hs9⟩,hm⟩
                  ·rintro k S4 e g ⟨hn,h0,h1',h5,h7,h9,h10,h11,h133,h134,hl4,ht4',s9,hs9⟩ hge hm
                   have hge1:¬ k < S3.cons.length:=by omega
                   simp only[m_joinEnd] at hm
                   replace hm:=hm.chk
                   obtain⟨⟨hpo,ho0,hc0,hto⟩,hm⟩:=hm
                   have e1:=r_ret hm
                   simp only[Prod.mk.injEq] at e1
                   obtain⟨rfl,rfl⟩:=e1
                   simp[hn,h133,h134,hge1]
                   obtain⟨b59,b99,b109,b119,bl9⟩:=en2 g hs9
                   obtain⟨t9,u9⟩:=mkT s9 ht4' bl9
                   have hlt9:i < S4.tables.length:=by rw[ht4'];exact hlt
                   have hltj9:j < S4.tables.length:=by rw[ht4'];exact hltj
                   have hb9:=s9.box
                   have htl:S.tables.length=S4.tables.length:=by rw[ht4']
                   obtain⟨lo,cpo,Bo,hd1,-,-⟩:=u9.e1 0 _ (List.getElem?_eq_getElem ho0)
                   have mo:=u9.m1 (by intro h0;simp[h0] at ho0)
                   subst hd1
                   have hcpo:O.cols.length≤cpo:=by
                    rcases mo.2.2 with ⟨h2,_⟩ | ⟨l',cap',sp,h2,h3,h4⟩
                    ·simp at h2;simp[h2] at ho0
                    ·simp at h2
                     obtain⟨rfl,rfl⟩:=h2
                     rw[rowBox_length mo.1] at h4
                     simp at h4
                     omega
                   have hto2:T.cols.length+O.cols.length≤2097152:=hto
                   have r19:=t9.el.rd 1 1 (by omega)
                   simp at r19
                   have hep8:=hs9.1
                   refine Wait.cut (Plan.then_ [0,1,2,4,5,6,7,8,9,10,11,12,13,14,15,16] (.two 3 17 (Plan.then_ [17,18,19,20] .done) (Plan.then_ [3,18,19,20] .done))) follows (by kernel_rfl) (fun e g'=>e.n=188∧e.get 0=.one (.ptr l 0)∧e.get 7=.one (.d (.int .i64 (j:Int)))∧∃ ta',Sc g' l { S4 with tables:=S4.tables.set i { T with cols:=T.cols++O.cols.drop T.pk.length } } (.mrow lt 0 S.tables.length cap) fc' oc ta' fa' oa∧Same g g' ta∧∀ k ∈ ta',k ∈ ta∨g.ep≤k.1) ?_ ?_
                   ·simp[hn,h0,h1',h10,h11,hb9,hlt,hlt9,htl,bl9,r19,b109,b119,Plan.then_,vcPlan,planOps,isCallAt,callKind]
                    refine opt_slice ⟨hpo,hcpo⟩ (fun hlo=>?_) (fun hlo=>?_)
                    ·have hro:=mo.tail T.pk.length hpo
                     have hdl:(O.cols.drop T.pk.length).length≤O.cols.length:=by simp
                     simp[hn,h0,h1',hlt,hlt9,hb9]
                     refine⟨?_,?_⟩
                     all_goals
                      refine app_mr (by simp;exact⟨rfl,rfl⟩) (by simp) (by simp) (by simp) (t9.m1 (by intro h0;simp[h0] at hc0)) hro (by simp;omega) (fun c' g' hm' hs10 hl10=>?_)
                      have hbl:g'.box lt=some B:=by
                       rw[hs10.2 lt (s9.lt lt (by simp[tv.tm])) fun h2=>(t9.l1 lt h2).2 rfl]
                       exact bl9
                      have hbs':g'.box l=some [.mrow lt 0 S.tables.length cap,fc',oc]:=s9.keep hs10 fun k hk=>.inl (t9.l1 k hk).1
                      have hep10:=hs10.1
                      obtain⟨ta',s10,hta⟩:=t9.s1 g' c' (T.cols++O.cols.drop T.pk.length) (by simpa[List.map_drop] using hm') hs10 (fun k hk=>(hl10 k hk).imp_right fun h2=>⟨fun h3=>by have:=s9.lt k h3;omega,h2.2⟩)
                      have hle9:=t9.el.le
                      simp[hn,h0,h1',hlt,hlt9,hbl,hbs']
                      refine⟨by omega,CutK.of ⟨by simp[hn],by simp[h0],by simp[h7],ta',s10,(hs10.mono fun k hk=>(t9.l1 k hk).1).setBox (.inl t9.tm),fun k hk=>?_⟩⟩
                      rcases hta k hk with h2 | h2
                      ·exact .inl h2
                      ·rcases hl10 k h2 with h3 | h3
                       ·exact .inl (t9.l1 k h3).1
                       ·exact .inr h3.1
                    ·have hdrop:O.cols.drop T.pk.length=[]:=List.drop_eq_nil_of_le (by omega)
                     have hro:RowAt g 3 .z ((O.cols.map fun c=>c.enc.map C.d).drop T.pk.length):=by
                      rw[← List.map_drop,hdrop]
                      exact (MR.z).rd
                     simp[hn,h0,h1',hlt,hlt9,hb9]
                     refine⟨?_,?_⟩
                     all_goals
                      refine app_mr (by simp;exact⟨rfl,rfl⟩) (by simp) (by simp) (by simp) (t9.m1 (by intro h0;simp[h0] at hc0)) hro (by simp;omega) (fun c' g' hm' hs10 hl10=>?_)
                      have hbl:g'.box lt=some B:=by
                       rw[hs10.2 lt (s9.lt lt (by simp[tv.tm])) fun h2=>(t9.l1 lt h2).2 rfl]
                       exact bl9
                      have hbs':g'.box l=some [.mrow lt 0 S.tables.length cap,fc',oc]:=s9.keep hs10 fun k hk=>.inl (t9.l1 k hk).1
                      have hep10:=hs10.1
                      obtain⟨ta',s10,hta⟩:=t9.s1 g' c' (T.cols++O.cols.drop T.pk.length) (by simpa[List.map_drop] using hm') hs10 (fun k hk=>(hl10 k hk).imp_right fun h2=>⟨fun h3=>by have:=s9.lt k h3;omega,h2.2⟩)
                      have hle9:=t9.el.le
                      simp[hn,h0,h1',hlt,hlt9,hbl,hbs']
                      refine⟨by omega,CutK.of ⟨by simp[hn],by simp[h0],by simp[h7],ta',s10,(hs10.mono fun k hk=>(t9.l1 k hk).1).setBox (.inl t9.tm),fun k hk=>?_⟩⟩
                      rcases hta k hk with h2 | h2
                      ·exact .inl h2
                      ·rcases hl10 k h2 with h3 | h3
                       ·exact .inl (t9.l1 k h3).1
                       ·exact .inr h3.1
                   ·rintro e g' ⟨hn,h0,h7,ta',s10,hs10,hta'⟩
                    have hj10:(S4.tables.set i { T with cols:=T.cols++O.cols.drop T.pk.length })[j]?=some O:=by
                     rw[List.getElem?_set_ne hij2,ht4'];exact hj
                    obtain⟨xs,a1,a2,lx,lr,capr,Br,e1,e2,e3,e4,e5,e6,e7,e8⟩:=s10.delT (T:=O) hj10
                    have hb10:=s10.box
                    have hli:=s10.len.1.2
                    simp only[lim_eq,List.length_set] at hli e2
                    have hw:IntKind.i64.wrap ((j:Int)+1)=((j+1:Nat):Int):=IntWalk.i64_in _ (by omega)
                    simp[hn,h0,h7,hb10,hw]
                    refine callK_heap (h_slices_Delete_Table _ _ xs j (j+1) e1 (by omega) (by omega) _ (fun c' g2 hm2 hs11 hep hharr hlab=>?_))
                    have hs12:Same g' g2 (labs (.mrow lt 0 S.tables.length cap)):=⟨by rw[hep];exact Nat.le_refl _,fun k _ hk=>hs11 k hk⟩
                    have hbl:g2.box l=some [.mrow lt 0 S.tables.length cap,fc',oc]:=s10.keep hs12 fun k hk=>.inl (s10.hlabs.1 k hk)
                    obtain⟨ta2,s11,ht11,-⟩:=e8 g2 c' hm2 hs12 hlab
                    simp[hn,h0,hbl]
                    have hallC:Same h g (l::(ta++(fa++oa))):=(hy4.trans (hz6.mono (by simp))).trans (hs9.mono fun k hk=>by simp only[List.mem_cons,List.mem_append] at hk ⊢;exact .inr (.inr (hk.imp_left (hfa' k))))
                    have hepC:=hallC.1
                    refine hk _ _ s11.ows ((((hallC.trans (hs10.mono fun k hk=>by simp[hk])).trans' hs12 fun k hk=>?_)).setBox (.inl (by simp))) fun k hk=>?_
                    ·exact (hta' k (s10.hlabs.1 k hk)).imp (fun h=>by simp[h]) fun h=>by omega
                    ·simp only[List.mem_append] at hk
                     rcases hk with hk | hk
                     ·exact (hta' k (ht11 k hk)).imp (fun h=>by simp[h]) fun h=>by omega
                     ·exact .inl (ks k (by simp only[List.mem_append];exact .inr hk))
def schOK (S:Sch):Prop:=(S.tables.length≤LIM∧S.fks.length≤LIM∧S.cons.length≤LIM)∧(∀ T ∈ S.tables,T.cols.length≤LIM∧T.pk.length≤LIM)∧∀ f ∈ S.fks,f.cols.length≤LIM
instance (S:Sch):Decidable (schOK S):=inferInstanceAs (Decidable (_∧_∧_))
def stpOK (x:Stp):Prop:=x.cols.length≤LIM∧x.newTable.cols.length≤LIM∧x.newTable.pk.length≤LIM∧x.fk.cols.length≤LIM
instance (x:Stp):Decidable (stpOK x):=inferInstanceAs (Decidable (_∧_))
def NewSch (h:HS) (S:Sch) (K:V→HS→Prop):Prop:=∀ tc fc oc qt qf qo h',Part h' TblSh tc qt (S.tables.map Tbl.enc)→Part h' FkSh fc qf (S.fks.map Fk.enc)→Part h' ConSh oc qo (S.cons.map Cons.enc)→(plabs tc qt++(plabs fc qf++plabs oc qo)).Nodup →
 (∀ k ∈ plabs tc qt++(plabs fc qf++plabs oc qo),h.ep≤k.1∧k.1 < h'.ep)→Same h h' []→K (.agg [tc,fc,oc]) h'
theorem h_evolution_Clone (h:HS) (x:Stp) (hl:stpOK x) (K:V→HS→Prop) (hk:NewOw h StpSh x.enc K) :
  HSpec Tryz.prog 155 [.agg (x.enc.map C.d)] h K:=by
 refine HSpec.good Tryz.func155 rfl (by kernel_rfl) fun hg=>?_
 refine HSpec.of_vc Tryz.func155 rfl (by kernel_rfl) (n:=18) rfl rfl (by simp) ?_
 obtain⟨l1,l2,l3,l4⟩:=hl
 simp
 refine callK_heap (h_slices_Clone_Int _ _ _ (RowAt.data (n:=1) (ts:=x.cols.map encI) (by simp) (by simpa using l1)) _ (fun c6 g1 m6 hs1 hl1 hb1=>?_))
 have hz0:Same h (((h.setBox (h.ep,16) (x.enc.map C.d)).next.setBox (h.ep+1,32) [C.d (D.int IntKind.i64 0),C.d (D.str ByteArray.empty),C.d (D.str ByteArray.empty),C.d (D.str ByteArray.empty),C.d (D.str ByteArray.empty),C.d (D.int IntKind.i64 0),C.nil,C.d (D.str ByteArray.empty),C.d (D.int IntKind.i64 0),C.d (D.int IntKind.i64 0),C.d (D.str ByteArray.empty),C.d (D.str ByteArray.empty),C.nil,C.nil,C.d (D.str ByteArray.empty),C.d (D.int IntKind.i64 0),C.d (D.str ByteArray.empty),C.d (D.int IntKind.i64 0),C.d (D.int IntKind.i64 0),C.d (D.int IntKind.i64 0),C.d (D.str ByteArray.empty),C.d (D.str ByteArray.empty),C.nil,C.d (D.str ByteArray.empty)]).next) []:=(((Same.refl.setBox (.inr (Nat.le_refl _))).next.setBox (.inr (by simp))).next)
 have hs1':=hs1.1
 have b1:=hb1 (h.ep,16) _ (by simp;rfl)
 have b2:=hb1 (h.ep+1,32) _ (by simp;rfl)
 simp only[Stp.enc,List.map_cons,List.map_nil] at hz0
 have hy1:=hz0.trans hs1
 simp at hl1 hs1'
 simp[b1]
 refine callK_heap (h_schema_CloneTable _ (x.newTable.enc.map C.d) x.newTable (fun h' _=>FrzCs.datas (ds:=x.newTable.enc)) ⟨l2,l3⟩ _ (fun cs g2 ls2 o2 nd2 nw2 hs2 hb2'=>?_))
 obtain⟨c12,c13,rfl⟩:∃ c12 c13,cs=[C.d (D.str x.newTable.name),c12,c13]:=by
  have h9:=o2.len.1
  match cs,h9,o2 with
  | [a,b,c],_,hO=>obtain rfl:=hO.frz.1.flat rfl;exact⟨b,c,rfl⟩
 have hs2':=hs2.1
 have b12:=hb2' (h.ep,16) _ (by simp;rfl)
 have b22:=hb2' (h.ep+1,32) _ (by simpa using b2)
 have hy2:Same h g2 []:=(hy1.setBox (l:=(h.ep,16)) (.inr (by simp))).trans hs2
 simp at hs2'
 simp[b12]
 refine callK_heap (h_slices_Clone_Int _ _ _ (RowAt.data (n:=1) (ts:=x.fk.cols.map encI) (by simp) (by simpa using l4)) _ (fun c22 g3 m22 hs3 hl3 hb3=>?_))
 have hs3':=hs3.1
 have b13:=hb3 (h.ep,16) _ (by simp;rfl)
 have b23:=hb3 (h.ep+1,32) _ (by simpa using b22)
 have hy3:Same h g3 []:=(hy2.setBox (l:=(h.ep,16)) (.inr (by simp))).trans hs3
 simp at hl3 hs3'
 simp[b13,b23,retH,resVs,resV]
 have hyF:=(hy3.setBox (l:=(h.ep,16)) (cs:=stpC x c6 c12 c13 c22) (.inr (by simp))).setBox (l:=(h.ep+1,32)) (cs:=stpC x c6 c12 c13 c22) (.inr (by simp))
 have k3:∀ k:Lab,h.ep+2≤k.1→((g3.setBox (h.ep,16) (stpC x c6 c12 c13 c22)).setBox (h.ep+1,32) (stpC x c6 c12 c13 c22)).box k=g3.box k:=fun k hk=>by
  have h1:k≠(h.ep,16):=fun he=>by have h9:k.1=h.ep:=by rw[he]
                                  omega
  have h2:k≠(h.ep+1,32):=fun he=>by have h9:k.1=h.ep+1:=by rw[he]
                                    omega
  simp[h1,h2]
 have k2:∀ k:Lab,h.ep+2≤k.1→k.1 < g2.ep→g3.box k=g2.box k:=fun k hk hk2=>by
  have h1:k≠(h.ep,16):=fun he=>by have h9:k.1=h.ep:=by rw[he]
                                  omega
  rw[hs3.2 k (by simpa using hk2) (by simp)]
  simp[h1]
 have k1:∀ k:Lab,h.ep+2≤k.1→k.1 < g1.ep→g2.box k=g1.box k:=fun k hk hk2=>by
  have h1:k≠(h.ep,16):=fun he=>by have h9:k.1=h.ep:=by rw[he]
                                  omega
  rw[hs2.2 k (by simpa using hk2) (by simp)]
  simp[h1]
 have e6:∀ k ∈ labs c6,h.ep+2≤k.1∧k.1 < g1.ep:=fun k hk=>by have:=hl1 k.1 k.2 hk;omega
 have e2:∀ k ∈ ls2,g1.ep≤k.1∧k.1 < g2.ep:=fun k hk=>by have:=nw2 k hk;simp at this;omega
 have e22:∀ k ∈ labs c22,g2.ep≤k.1∧k.1 < g3.ep:=fun k hk=>by have:=hl3 k.1 k.2 hk;omega
 obtain⟨_,e0,oa⟩:=o2.dcons (c:=.nil) rfl
 simp at e0
 subst e0
 obtain⟨d1,_,la,_,e1,rfl,o12,ob⟩:=oa.split
 simp at e1
 obtain⟨rfl,rfl⟩:=e1
 obtain⟨d2,_,lb,_,e1,rfl,o13,od⟩:=ob.split
 simp at e1
 obtain⟨rfl,rfl⟩:=e1
 obtain⟨_,_,rfl⟩:=od.inv_nil
 simp only[List.append_nil] at e2 nd2
 have o6:Ow ((g3.setBox (h.ep,16) (stpC x c6 c12 c13 c22)).setBox (h.ep+1,32) (stpC x c6 c12 c13 c22)) [.r [.d]] [c6] [.sl (x.cols.map encI)] (labs c6):=Ow.nrow (n:=1) (m6.frame fun k hk=>by have:=e6 k hk;rw[k3 k (by omega),k2 k (by omega) (by omega),k1 k (by omega) (by omega)]) rfl (by simp)
 have o22:Ow ((g3.setBox (h.ep,16) (stpC x c6 c12 c13 c22)).setBox (h.ep+1,32) (stpC x c6 c12 c13 c22)) [.r [.d]] [c22] [.sl (x.fk.cols.map encI)] (labs c22):=Ow.nrow (n:=1) (m22.frame fun k hk=>by have:=e22 k hk;rw[k3 k (by omega)]) rfl (by simp)
 have o12':=o12.frame (h':=((g3.setBox (h.ep,16) (stpC x c6 c12 c13 c22)).setBox (h.ep+1,32) (stpC x c6 c12 c13 c22))) fun k hk=>by have:=e2 k (by simp[hk]);rw[k3 k (by omega),k2 k (by omega) (by omega)]
 have o13':=o13.frame (h':=((g3.setBox (h.ep,16) (stpC x c6 c12 c13 c22)).setBox (h.ep+1,32) (stpC x c6 c12 c13 c22))) fun k hk=>by have:=e2 k (by simp[hk]);rw[k3 k (by omega),k2 k (by omega) (by omega)]
 refine hk (stpC x c6 c12 c13 c22) _ _ (Ow.mkStp o6 o12' o13' o22) ?_ (fun k hk=>?_) hyF (hyF.boxLe hg)
 ·simp only[List.nodup_append,List.mem_append] at nd2 ⊢
  refine⟨labs_nodup,⟨nd2.1,⟨nd2.2.1,labs_nodup,fun a ha b hb he=>?_⟩,fun a ha b hb he=>?_⟩,fun a ha b hb he=>?_⟩
  ·have t1:=e2 a (by simp[ha]);have t2:=e22 b hb;rw[← he] at t2;omega
  ·subst he
   rcases hb with hb | hb
   ·exact nd2.2.2 a ha a hb rfl
   ·have:=e2 a (by simp[ha]);have:=e22 a hb;omega
  ·subst he
   have h6:=e6 a ha
   rcases hb with hb | hb | hb
   ·have:=e2 a (by simp[hb]);omega
   ·have:=e2 a (by simp[hb]);omega
   ·have:=e22 a hb;omega
 ·simp only[List.mem_append] at hk
  have:k.1 < g3.ep∧h.ep≤k.1:=by
   rcases hk with hk | hk | hk | hk
   ·have:=e6 k hk;omega
   ·have:=e2 k (by simp[hk]);omega
   ·have:=e2 k (by simp[hk]);omega
   ·have:=e22 k hk;omega
  simp
  omega
theorem Sc.start {g:HS} {p:Lab} {oc:C} {cons:List Cons} (hb:g.box p=some [.nil,.nil,oc]) (mo:MR g 7 oc (cons.map fun c=>c.enc.map C.d)) (hp:p.1 < g.ep) (hl:∀ k ∈ labs oc,k≠p∧k.1 < g.ep):Sc g p ⟨[],[],cons⟩ .nil .nil oc [] [] (labs oc):=by
 have e:(cons.map fun c=>((c.enc.map C.d,c.enc,[]):Q)).flatMap (·.2.2)=[]:=by rw[List.flatMap_eq_nil_iff];intro q hq;obtain⟨c,_,rfl⟩:=List.mem_map.1 hq;rfl
 have pl:plabs oc (cons.map fun c=>((c.enc.map C.d,c.enc,[]):Q))=labs oc:=by rw[plabs,e,List.append_nil]
 refine⟨[],[],cons.map fun c=>(c.enc.map C.d,c.enc,[]),rfl,rfl,pl.symm,hb,⟨MR.nil,rfl,by simp⟩,⟨MR.nil,rfl,by simp⟩,⟨by simpa[ConSh,Function.comp_def] using mo,by simp[Function.comp_def],fun q hq=>?_⟩,?_,?_⟩
 ·obtain⟨c,_,rfl⟩:=List.mem_map.1 hq
  exact Ow.datas (ds:=c.enc)
 ·rw[pl]
  simp only[plabs,labs,List.flatMap_nil,List.nil_append,List.append_nil,List.nodup_cons]
  exact⟨fun h=>(hl p h).1 rfl,labs_nodup⟩
 ·rw[pl]
  intro k hk
  simp only[plabs,labs,List.flatMap_nil,List.nil_append,List.append_nil,List.mem_cons] at hk
  rcases hk with rfl | hk
  ·exact hp
  ·exact (hl k hk).2
def ClI (h:HS) (p3:Lab) (S:Sch) (S1:Sch) (dat:List C) (e:Env) (g:HS):Prop:=∃ tc fc oc ta fa oa,e.n=46∧e.get 1=.one (.ptr (h.ep,16) 0)∧e.get 2=.one (.ptr (h.ep+1,32) 0)∧e.get 3=.one (.ptr p3 0)∧g.box (h.ep,16)=some dat∧g.box (h.ep+1,32)=some [.nil,.nil,.nil] ∧
 Sc g p3 S1 tc fc oc ta fa oa∧(∀ k ∈ ta++(fa++oa),h.ep+2≤k.1)∧h.ep+2≤p3.1∧Same h g []
set_option maxHeartbeats 1000000 in
theorem h_schema_Clone (h:HS) (S:Sch) (hS:schOK S) (K:V→HS→Prop) (hk:NewSch h S K) :
  HSpec Tryz.prog 101 [.agg (S.enc.map C.d)] h K:=by
 obtain⟨⟨l1,l2,l3⟩,l4,l5⟩:=hS
 have l1':S.tables.length≤2097152:=l1
 have l2':S.fks.length≤2097152:=l2
 refine HSpec.of_vc Tryz.func101 rfl (by kernel_rfl) (n:=46) rfl rfl (by simp) ?_
 simp
 refine callK_heap (h_slices_Clone_Constraint _ _ _ (RowAt.data (n:=7) (ts:=S.cons.map Cons.enc) (by simp) (by simpa using l3)) _ (fun oc g1 mo hs1 hlo hb1=>?_))
 have hz0:Same h (((h.setBox (h.ep,16) (S.enc.map C.d)).next.setBox (h.ep+1,32) [.nil,.nil,.nil]).next) []:=(((Same.refl.setBox (.inr (Nat.le_refl _))).next.setBox (.inr (by simp))).next)
 have b1:=hb1 (h.ep,16) _ (by simp;rfl)
 have b2:=hb1 (h.ep+1,32) _ (by simp;rfl)
 have hs1':=hs1.1
 simp only[Sch.enc,List.map_cons,List.map_nil] at hz0
 have hy1:=hz0.trans hs1
 simp at hs1'
 have hn1:=ne_new (l:=(h.ep,16)) (n:=g1.ep) (by simp;omega)
 simp (maxDischargeDepth:=12) [b1,hn1,le_s]
 have hz2:Same g1 ((g1.setBox (g1.ep,48) [.nil,.nil,.nil]).next.setBox (g1.ep,48) [.nil,.nil,oc]) []:=((Same.refl.setBox (.inr (Nat.le_refl _))).next).setBox (.inr (Nat.le_refl _))
 obtain⟨p3,hp3d⟩:∃ p:Lab,p=(g1.ep,48):=⟨_,rfl⟩
 have trivF:∀ (α:Type) (xs:List α) (i:Nat),forK (ρ:=Unit) (fun _ (_:α) (s:Unit) next=>next s) (fun _=>some ()) xs i ()=some ():=fun α xs=>by
  induction xs with
  | nil=>intro i;rfl
  | cons x xs ih=>intro i;exact ih (i+1)
 intro _
 have hg1:Same h ((g1.setBox (g1.ep,48) [.nil,.nil,.nil]).next.setBox (g1.ep,48) [.nil,.nil,oc]) []:=hy1.trans hz2
 have hlo':∀ k ∈ labs oc,h.ep+2≤k.1∧k.1 < g1.ep:=fun k hk=>by have:=hlo k hk;simp at this;omega
 refine Wait.for (xs:=S.tables) (s0:=()) (k:=fun _=>some ()) (body:=fun _ _ s next=>next s) (r:=()) (fun k _ e g=>ClI h p3 S ⟨S.tables.take k,[],S.cons⟩ (S.enc.map C.d) e g∧e.get 13=.one (.d (.sl (S.tables.map Tbl.enc)))∧e.get 14=.one (.d (.int .i64 (S.tables.length:Int)))∧e.get 15=.one (.d (.int .i64 (k:Int)))) (trivF _ _ _) ⟨⟨.nil,.nil,oc,[],[],labs oc,by simp,by simp,by simp,by simp[hp3d],?_,?_,?_,?_,by rw[hp3d];simp;omega,hg1⟩,by simp,by simp,by simp⟩ ?_ ?_
 ·rw[hz2.2 _ (by simp;omega) (by simp)];simpa using b1
 ·rw[hz2.2 _ (by simp;omega) (by simp)];exact b2
 ·rw[hp3d]
  refine Sc.start (by simp) ?_ (by simp) fun k hk=>⟨fun he=>by have:=(hlo' k hk).2;rw[he] at this;simp at this,by have:=(hlo' k hk).2;simp;omega⟩
  rw[dmap_len]
  exact mo.frame fun k hk=>hz2.2 k (hlo' k hk).2 (by simp)
 ·simp only[List.nil_append]
  exact fun k hk=>(hlo' k hk).1
 ·rintro k _ e g ⟨⟨tc,fc,oc,ta,fa,oa,hn,h1',h2',h3',b1,b2,s1,hnew,hp3,hs⟩,h13,h14,h15⟩ hlt hm
  have hw:IntKind.i64.wrap ((k:Int)+1)=(k:Int)+1:=IntWalk.i64_in _ (by omega)
  have hT:=l4 _ (List.getElem_mem hlt)
  have hgp:h.ep+2 < g.ep:=by have:=s1.lt p3 (by simp);omega
  have hz4:Same g ((g.setBox (g.ep,80) [C.d (D.str ByteArray.empty),C.nil,C.nil]).next.setBox (g.ep,80) (S.tables[k].enc.map C.d)) []:=((Same.refl.setBox (.inr (Nat.le_refl _))).next).setBox (.inr (Nat.le_refl _))
  simp only[Tbl.enc,List.map_cons,List.map_nil] at hz4
  simp[hn,h13,h14,h15,hlt]
  generalize hX:(g.setBox (g.ep,80) [C.d (D.str ByteArray.empty),C.nil,C.nil]).next.setBox (g.ep,80) _=GZ at hz4 ⊢
  have bz5:GZ.box (g.ep,80)=some (S.tables[k].enc.map C.d):=by rw[← hX];simp
  have bz3:GZ.box p3=some [tc,fc,oc]:=(s1.frame hz4).box
  simp only[Tbl.enc,List.map_cons,List.map_nil] at bz5
  have hg2:=hs.1
  have hgz:=hz4.1
  refine Wait.cut (Plan.then_ [0,1,2,3,4,5,6,7] .done) follows (by kernel_rfl) (fun e g'=>ClI h p3 S ⟨S.tables.take (k+1),[],S.cons⟩ (S.enc.map C.d) e g'∧e.get 13=.one (.d (.sl (S.tables.map Tbl.enc)))∧e.get 14=.one (.d (.int .i64 (S.tables.length:Int)))∧e.get 15=.one (.d (.int .i64 (k:Int)))) ?_ ?_
  ·simp[hn,h3',bz5,bz3,Plan.then_,vcPlan,planOps,isCallAt,callKind]
   refine callK_heap (h_schema_CloneTable _ (S.tables[k].enc.map C.d) S.tables[k] (fun h' _=>FrzCs.datas (ds:=S.tables[k].enc)) hT _ (fun cs g2 ls2 o2 nd2 hnw0 hs2 hb2=>?_))
   have hnw:∀ k ∈ ls2,g.ep≤k.1∧k.1 < g2.ep:=fun k hk=>by have:=hnw0 k hk;omega
   obtain⟨c0,c1,c2,rfl⟩:∃ a b c,cs=[a,b,c]:=by
    have h9:=o2.len.1
    match cs,h9 with
    | [a,b,c],_=>exact⟨a,b,c,rfl⟩
   simp[hn]
   refine⟨hb2,?_⟩
   have hep2:=hs2.1
   refine bld_ow (x:=[c0,c1,c2]) (by simp[toDs];cases c0.toD<;>cases c1.toD<;>cases c2.toD<;>rfl) (by simp) (fun d hd2=>?_) (fun hd2=>?_)
   ·obtain⟨rfl,hT2⟩:=o2.ofD hd2
    have hz5:Same g2 ((g2.setArr (g2.ep,16 * 23) (some (1,3))).next) []:=Same.refl.setArr.next
    simp only[Nat.reduceMul] at hz5
    have s5:=s1.frame ((hz4.trans hs2).trans hz5)
    obtain⟨ys,my,hly,add⟩:=s5.addT
    simp[hn]
    refine app_mr (by simp;exact⟨rfl,rfl⟩) (by simp) (by simp) (by simp) my (RowAt.own1 (by simp)) (by rw[hly];simp at hlt ⊢;omega) (fun c' g' hm' hs6 hl6=>?_)
    have hep6:=hs6.1
    have hep5:=hz5.1
    have hbl:=s5.keep hs6 fun k hk=>.inl (s5.hlabs.1 k hk)
    have hlab:∀ k ∈ labs tc,k ∈ ta:=s1.hlabs.1
    obtain⟨a',s6,ha'⟩:=add g' c' _ _ [] hm' hs6 hl6 (hT2 g') List.nodup_nil (fun k hk=>by
     have h9:=hnw k ((fun k (hk:k ∈ [])=>by simp at hk) k hk)
     refine⟨by omega,fun h8=>by have:=s1.lt k h8;omega,fun h8=>?_⟩
     rcases hl6 k h8 with h7 | h7
     ·have:=s1.lt k (by simp[hlab k h7]);omega
     ·omega) S.tables[k] rfl
    have ft:∀ k:Lab,k.1 < g.ep→k.1 < h.ep+2→g'.box k=g.box k:=fun k hk hk2=>by
     rw[hs6.2 k (by omega) fun h9=>by have:=hnew k (by simp[hlab k h9]);omega]
     exact ((hz4.trans hs2).trans hz5).2 k hk (by simp)
    have hne1:((h.ep,16):Lab)≠p3:=fun he=>by rw[← he] at hp3;have h9:h.ep+2≤h.ep:=hp3;omega
    have hne2:((h.ep+1,32):Lab)≠p3:=fun he=>by rw[← he] at hp3;have h9:h.ep+2≤h.ep+1:=hp3;omega
    simp[hn,h3',hbl]
    refine CutK.of ⟨⟨c',fc,oc,a',fa,oa,by simp[hn],by simp[h1'],by simp[h2'],by simp[h3'],?_,?_,by simpa[List.take_append_getElem hlt] using s6,fun k hk=>?_,hp3,((hs.trans ((hz4.trans hs2).trans hz5)).trans' hs6 fun k hk=>.inr (by have:=hnew k (by simp[hlab k hk]);omega)).setBox (.inr (by omega))⟩,by simp[h13],by simp[h14],by simp[h15]⟩
    ·simpa[hne1,ft (h.ep,16) (by simp;omega) (by simp)] using b1
    ·simpa[hne2,ft (h.ep+1,32) (by simp;omega) (by simp)] using b2
    ·simp only[List.mem_append] at hk
     rcases hk with hk | hk
     ·rcases ha' k hk with h9 | h9 | h9
      ·exact hnew k (by simp[h9])
      ·have:=hnw k ((fun k (hk:k ∈ [])=>by simp at hk) k h9);omega
      ·omega
     ·exact hnew k (by simp only[List.mem_append];exact .inr hk)
   ·skip
    have hz5:Same g2 ((g2.setBox (g2.ep,16 * 23) [c0,c1,c2]).next) []:=(Same.refl.setBox (.inr (Nat.le_refl _))).next
    simp only[Nat.reduceMul] at hz5
    have s5:=s1.frame ((hz4.trans hs2).trans hz5)
    obtain⟨ys,my,hly,add⟩:=s5.addT
    simp[hn]
    refine app_mr (by simp;exact⟨rfl,rfl⟩) (by simp) (by simp) (by simp) my (RowAt.new1 (x:=[c0,c1,c2]) (by simp) (by simp)) (by rw[hly];simp at hlt ⊢;omega) (fun c' g' hm' hs6 hl6=>?_)
    have hep6:=hs6.1
    have hep5:=hz5.1
    have hbl:=s5.keep hs6 fun k hk=>.inl (s5.hlabs.1 k hk)
    have hlab:∀ k ∈ labs tc,k ∈ ta:=s1.hlabs.1
    obtain⟨a',s6,ha'⟩:=add g' c' _ _ ls2 hm' hs6 hl6 (o2.frame fun k hk=>by have h9:=hnw k hk;rw[hs6.2 k (by omega) fun h8=>by have:=s1.lt k (by simp[s1.hlabs.1 k h8]);omega];exact hz5.2 k h9.2 (by simp)) nd2 (fun k hk=>by
     have h9:=hnw k ((fun _ h=>h) k hk)
     refine⟨by omega,fun h8=>by have:=s1.lt k h8;omega,fun h8=>?_⟩
     rcases hl6 k h8 with h7 | h7
     ·have:=s1.lt k (by simp[hlab k h7]);omega
     ·omega) S.tables[k] rfl
    have ft:∀ k:Lab,k.1 < g.ep→k.1 < h.ep+2→g'.box k=g.box k:=fun k hk hk2=>by
     rw[hs6.2 k (by omega) fun h9=>by have:=hnew k (by simp[hlab k h9]);omega]
     exact ((hz4.trans hs2).trans hz5).2 k hk (by simp)
    have hne1:((h.ep,16):Lab)≠p3:=fun he=>by rw[← he] at hp3;have h9:h.ep+2≤h.ep:=hp3;omega
    have hne2:((h.ep+1,32):Lab)≠p3:=fun he=>by rw[← he] at hp3;have h9:h.ep+2≤h.ep+1:=hp3;omega
    simp[hn,h3',hbl]
    refine CutK.of ⟨⟨c',fc,oc,a',fa,oa,by simp[hn],by simp[h1'],by simp[h2'],by simp[h3'],?_,?_,by simpa[List.take_append_getElem hlt] using s6,fun k hk=>?_,hp3,((hs.trans ((hz4.trans hs2).trans hz5)).trans' hs6 fun k hk=>.inr (by have:=hnew k (by simp[hlab k hk]);omega)).setBox (.inr (by omega))⟩,by simp[h13],by simp[h14],by simp[h15]⟩
    ·simpa[hne1,ft (h.ep,16) (by simp;omega) (by simp)] using b1
    ·simpa[hne2,ft (h.ep+1,32) (by simp;omega) (by simp)] using b2
    ·simp only[List.mem_append] at hk
     rcases hk with hk | hk
     ·rcases ha' k hk with h9 | h9 | h9
      ·exact hnew k (by simp[h9])
      ·have:=hnw k ((fun _ h=>h) k h9);omega
      ·omega
     ·exact hnew k (by simp only[List.mem_append];exact .inr hk)
  ·rintro e g' ⟨hI,h13,h14,h15⟩
   have hn:=hI
   obtain⟨_,_,_,_,_,_,hn,h1',h2',h3',-⟩:=hn
   simp[hn,h15,hw]
   obtain⟨tc2,fc2,oc2,ta2,fa2,oa2,-,-,-,-,q⟩:=hI
   exact BackF.of () ⟨⟨⟨tc2,fc2,oc2,ta2,fa2,oa2,by simp[hn],by simp[h1'],by simp[h2'],by simp[h3'],q⟩,by simp[h13],by simp[h14],by simp⟩,hm⟩
 ·rintro _ e g ⟨⟨tc,fc,oc,ta,fa,oa,hn,h1',h2',h3',b1,b2,s1,hnew,hp3,hs⟩,h13,h14,h15⟩ _
  rw[List.take_length] at s1
  simp[hn,h1',h14,h15,b1]
  intro _
  refine Wait.for (xs:=S.fks) (s0:=()) (k:=fun _=>some ()) (body:=fun _ _ s next=>next s) (r:=()) (fun k _ e g=>ClI h p3 S ⟨S.tables,S.fks.take k,S.cons⟩ (S.enc.map C.d) e g∧e.get 28=.one (.d (.sl (S.fks.map Fk.enc)))∧e.get 29=.one (.d (.int .i64 (S.fks.length:Int)))∧e.get 30=.one (.d (.int .i64 (k:Int)))) (trivF _ _ _) ⟨⟨tc,fc,oc,ta,fa,oa,by simp[hn],by simp[h1'],by simp[h2'],by simp[h3'],b1,b2,by simpa using s1,hnew,hp3,hs⟩,by simp,by simp,by simp⟩ ?_ ?_
  ·rintro k _ e g ⟨⟨tc,fc,oc,ta,fa,oa,hn,h1',h2',h3',b1,b2,s1,hnew,hp3,hs⟩,h28,h29,h30⟩ hlt hm
   have hw:IntKind.i64.wrap ((k:Int)+1)=(k:Int)+1:=IntWalk.i64_in _ (by omega)
   have hF:=l5 _ (List.getElem_mem hlt)
   have hgp:h.ep+2 < g.ep:=by have:=s1.lt p3 (by simp);omega
   simp[hn,h28,h29,h30,hlt]
   refine callK_heap (h_slices_Clone_Int _ _ _ (RowAt.data (n:=1) (ts:=S.fks[k].cols.map encI) (by simp) (by simpa using hF)) _ (fun pc g2' mp hs2' hlp hb2=>?_))
   have hz4':Same g ((g.setBox (g.ep,112) [C.d (D.str ByteArray.empty),C.nil,C.d (D.str ByteArray.empty)]).next.setBox (g.ep,112) (S.fks[k].enc.map C.d)) []:=((Same.refl.setBox (.inr (Nat.le_refl _))).next).setBox (.inr (Nat.le_refl _))
   have bz7:=hb2 (g.ep,112) _ (by simp;rfl)
   simp only[Fk.enc,List.map_cons,List.map_nil] at hz4'
   have hep2':=hs2'.1
   simp at hep2' hlp
   have hz4:Same g (g2'.setBox (g.ep,112) [.d (.str S.fks[k].table),pc,.d (.str S.fks[k].ref)]) []:=(hz4'.trans hs2').setBox (.inr (Nat.le_refl _))
   have hoF0:Ow (g2'.setBox (g.ep,112) [.d (.str S.fks[k].table),pc,.d (.str S.fks[k].ref)]) FkSh [.d (.str S.fks[k].table),pc,.d (.str S.fks[k].ref)] S.fks[k].enc (labs pc):=by
    refine .data rfl ?_
    have:=Ow.rowD (es:=[.d]) (n:=1) (ts:=S.fks[k].cols.map encI) (mp.frame (h':=g2'.setBox (g.ep,112) [.d (.str S.fks[k].table),pc,.d (.str S.fks[k].ref)]) fun q hq=>by
     have h9:=hlp q.1 q.2 hq
     have:q≠(g.ep,112):=fun he=>by have h8:q.1=g.ep:=by rw[he]
                                   omega
     simp[this]) rfl (by simp) (Ow.data (c:=.d (.str S.fks[k].ref)) (x:=.str S.fks[k].ref) rfl .nil)
    simpa using this
   have hnw0:∀ q ∈ labs pc,g.ep≤q.1∧q.1 < g2'.ep:=fun q hq=>by have:=hlp q.1 q.2 hq;omega
   have b70:(g2'.setBox (g.ep,112) [.d (.str S.fks[k].table),pc,.d (.str S.fks[k].ref)]).box (g.ep,112)=some [.d (.str S.fks[k].table),pc,.d (.str S.fks[k].ref)]:=by simp
   have hepx:(g2'.setBox (g.ep,112) [.d (.str S.fks[k].table),pc,.d (.str S.fks[k].ref)]).ep=g2'.ep:=by simp
   have bz3:(g2'.setBox (g.ep,112) [.d (.str S.fks[k].table),pc,.d (.str S.fks[k].ref)]).box p3=some [tc,fc,oc]:=(s1.frame hz4).box
   try simp at bz7
   simp[hn,bz7]
   have hp3g:=s1.lt p3 (by simp)
   have hnp:¬ p3=(g.ep,112):=fun he=>by rw[he] at hp3g;simp at hp3g
   have bz3':g2'.box p3=some [tc,fc,oc]:=(s1.frame (hz4'.trans hs2')).box
   have hs2:Same (g2'.setBox (g.ep,112) [.d (.str S.fks[k].table),pc,.d (.str S.fks[k].ref)]) (g2'.setBox (g.ep,112) [.d (.str S.fks[k].table),pc,.d (.str S.fks[k].ref)]) []:=.refl
   have hnw:∀ q ∈ labs pc,g.ep≤q.1∧q.1 < (g2'.setBox (g.ep,112) [.d (.str S.fks[k].table),pc,.d (.str S.fks[k].ref)]).ep:=fun q hq=>by have:=hnw0 q hq;omega
   have hg2:=hs.1
   have hgz:=hz4.1
   have hep2:=hs2.1
   simp[hn,h3',hnp,bz3']
   refine bld_ow (x:=[.d (.str S.fks[k].table),pc,.d (.str S.fks[k].ref)]) (by simp[toDs];cases pc.toD<;>rfl) (by simp) (fun d hd2=>?_) (fun hd2=>?_)
   ·obtain⟨rfl,hT2⟩:=hoF0.ofD hd2
    have hz5:Same (g2'.setBox (g.ep,112) [.d (.str S.fks[k].table),pc,.d (.str S.fks[k].ref)]) (((g2'.setBox (g.ep,112) [.d (.str S.fks[k].table),pc,.d (.str S.fks[k].ref)]).setArr (g2'.ep,16 * 41) (some (1,3))).next) []:=Same.refl.setArr.next
    simp only[Nat.reduceMul] at hz5
    have s5:=s1.frame ((hz4.trans hs2).trans hz5)
    obtain⟨ys,my,hly,add⟩:=s5.addF
    simp[hn]
    refine app_mr (by simp;exact⟨rfl,rfl⟩) (by simp) (by simp) (by simp) my (RowAt.own1 (by simp)) (by rw[hly];simp at hlt ⊢;omega) (fun c' g' hm' hs6 hl6=>?_)
    have hep6:=hs6.1
    have hep5:=hz5.1
    have hbl:=s5.keep hs6 fun k hk=>.inr (.inl (s5.hlabs.2.1 k hk))
    have hlab:∀ k ∈ labs fc,k ∈ fa:=s1.hlabs.2.1
    obtain⟨a',s6,ha'⟩:=add g' c' _ _ [] hm' hs6 hl6 (hT2 g') List.nodup_nil (fun k hk=>by
     have h9:=hnw k ((fun q (hq:q ∈ [])=>by simp at hq) k hk)
     refine⟨by omega,fun h8=>by have:=s1.lt k h8;omega,fun h8=>?_⟩
     rcases hl6 k h8 with h7 | h7
     ·have:=s1.lt k (by simp[hlab k h7]);omega
     ·omega) S.fks[k] rfl
    have ft:∀ k:Lab,k.1 < g.ep→k.1 < h.ep+2→g'.box k=g.box k:=fun k hk hk2=>by
     rw[hs6.2 k (by omega) fun h9=>by have:=hnew k (by simp[hlab k h9]);omega]
     exact ((hz4.trans hs2).trans hz5).2 k hk (by simp)
    have hne1:((h.ep,16):Lab)≠p3:=fun he=>by rw[← he] at hp3;have h9:h.ep+2≤h.ep:=hp3;omega
    have hne2:((h.ep+1,32):Lab)≠p3:=fun he=>by rw[← he] at hp3;have h9:h.ep+2≤h.ep+1:=hp3;omega
    simp[hn,h3',hbl,h30,hw]
    refine BackF.of () ⟨⟨⟨tc,c',oc,ta,a',oa,by simp[hn],by simp[h1'],by simp[h2'],by simp[h3'],?_,?_,by simpa[List.take_append_getElem hlt] using s6,fun k hk=>?_,hp3,((hs.trans ((hz4.trans hs2).trans hz5)).trans' hs6 fun k hk=>.inr (by have:=hnew k (by simp[hlab k hk]);omega)).setBox (.inr (by omega))⟩,by simp[h28],by simp[h29],by simp⟩,hm⟩
    ·simpa[hne1,ft (h.ep,16) (by simp;omega) (by simp)] using b1
    ·simpa[hne2,ft (h.ep+1,32) (by simp;omega) (by simp)] using b2
    ·simp only[List.mem_append] at hk
     rcases hk with hk | hk | hk
     ·exact hnew k (by simp[hk])
     ·rcases ha' k hk with h9 | h9 | h9
      ·exact hnew k (by simp[h9])
      ·have:=hnw k ((fun q (hq:q ∈ [])=>by simp at hq) k h9);omega
      ·omega
     ·exact hnew k (by simp[hk])
   ·skip
    have hz5:Same (g2'.setBox (g.ep,112) [.d (.str S.fks[k].table),pc,.d (.str S.fks[k].ref)]) (((g2'.setBox (g.ep,112) [.d (.str S.fks[k].table),pc,.d (.str S.fks[k].ref)]).setBox (g2'.ep,16 * 41) [.d (.str S.fks[k].table),pc,.d (.str S.fks[k].ref)]).next) []:=(Same.refl.setBox (.inr (Nat.le_refl _))).next
    simp only[Nat.reduceMul] at hz5
    have s5:=s1.frame ((hz4.trans hs2).trans hz5)
    obtain⟨ys,my,hly,add⟩:=s5.addF
    simp[hn]
    refine app_mr (by simp;exact⟨rfl,rfl⟩) (by simp) (by simp) (by simp) my (RowAt.new1 (x:=[.d (.str S.fks[k].table),pc,.d (.str S.fks[k].ref)]) (by simp) (by simp)) (by rw[hly];simp at hlt ⊢;omega) (fun c' g' hm' hs6 hl6=>?_)
    have hep6:=hs6.1
    have hep5:=hz5.1
    have hbl:=s5.keep hs6 fun k hk=>.inr (.inl (s5.hlabs.2.1 k hk))
    have hlab:∀ k ∈ labs fc,k ∈ fa:=s1.hlabs.2.1
    obtain⟨a',s6,ha'⟩:=add g' c' _ _ (labs pc) hm' hs6 hl6 (hoF0.frame fun k hk=>by have h9:=hnw k hk;rw[hs6.2 k (by omega) fun h8=>by have:=s1.lt k (by simp[s1.hlabs.2.1 k h8]);omega];exact hz5.2 k h9.2 (by simp)) labs_nodup (fun k hk=>by
     have h9:=hnw k ((fun _ h=>h) k hk)
     refine⟨by omega,fun h8=>by have:=s1.lt k h8;omega,fun h8=>?_⟩
     rcases hl6 k h8 with h7 | h7
     ·have:=s1.lt k (by simp[hlab k h7]);omega
     ·omega) S.fks[k] rfl
    have ft:∀ k:Lab,k.1 < g.ep→k.1 < h.ep+2→g'.box k=g.box k:=fun k hk hk2=>by
     rw[hs6.2 k (by omega) fun h9=>by have:=hnew k (by simp[hlab k h9]);omega]
     exact ((hz4.trans hs2).trans hz5).2 k hk (by simp)
    have hne1:((h.ep,16):Lab)≠p3:=fun he=>by rw[← he] at hp3;have h9:h.ep+2≤h.ep:=hp3;omega
    have hne2:((h.ep+1,32):Lab)≠p3:=fun he=>by rw[← he] at hp3;have h9:h.ep+2≤h.ep+1:=hp3;omega
    simp[hn,h3',hbl,h30,hw]
    refine BackF.of () ⟨⟨⟨tc,c',oc,ta,a',oa,by simp[hn],by simp[h1'],by simp[h2'],by simp[h3'],?_,?_,by simpa[List.take_append_getElem hlt] using s6,fun k hk=>?_,hp3,((hs.trans ((hz4.trans hs2).trans hz5)).trans' hs6 fun k hk=>.inr (by have:=hnew k (by simp[hlab k hk]);omega)).setBox (.inr (by omega))⟩,by simp[h28],by simp[h29],by simp⟩,hm⟩
    ·simpa[hne1,ft (h.ep,16) (by simp;omega) (by simp)] using b1
    ·simpa[hne2,ft (h.ep+1,32) (by simp;omega) (by simp)] using b2
    ·simp only[List.mem_append] at hk
     rcases hk with hk | hk | hk
     ·exact hnew k (by simp[hk])
     ·rcases ha' k hk with h9 | h9 | h9
      ·exact hnew k (by simp[h9])
      ·have:=hnw k ((fun _ h=>h) k h9);omega
      ·omega
     ·exact hnew k (by simp[hk])
  ·rintro _ e g ⟨⟨tc,fc,oc,ta,fa,oa,hn,h1',h2',h3',b1,b2,s1,hnew,hp3,hs⟩,h28,h29,h30⟩ _
   rw[List.take_length] at s1
   have hb3:=s1.box
   simp[hn,h2',h3',h29,h30,hb3,b2,retH,resVs,resV]
   obtain⟨qt,qf,qo,rfl,rfl,rfl,sc⟩:=s1
   have hsF:Same h (g.setBox (h.ep+1,32) [tc,fc,oc]) []:=hs.setBox (.inr (by simp))
   have kb:∀ k ∈ plabs tc qt++(plabs fc qf++plabs oc qo),(g.setBox (h.ep+1,32) [tc,fc,oc]).box k=g.box k:=fun k hk=>by
    have h9:=hnew k hk
    have:k≠(h.ep+1,32):=fun he=>by rw[he] at h9;simp at h9
    simp[this]
   simp only[List.mem_append] at kb
   have hndA:=sc.nd
   rw[List.nodup_cons] at hndA
   refine hk tc fc oc qt qf qo _ (sc.t.frame fun k hk=>kb k (.inl hk)) (sc.f.frame fun k hk=>kb k (.inr (.inl hk))) (sc.o.frame fun k hk=>kb k (.inr (.inr hk))) hndA.2 (fun k hk=>⟨by have:=hnew k hk;omega,by have:=sc.lt k (List.mem_cons_of_mem _ hk);simpa using this⟩) hsF
def m_evolution_apply (S:Sch) (x:Stp):Option (Sch × Int):=
 bif x.kind == 13 then chkK (S.cons.length < LIM) (some ({ S with cons:=S.cons++[x.cons] },0)) else
 bif x.kind == 14 then m_evolution_dropConstraint S x.cons else
 bif x.kind == 15 then chkK (S.fks.length < LIM) (some ({ S with fks:=S.fks++[x.fk] },0)) else
 bif x.kind == 16 then m_evolution_dropForeignKey S x.fk else
 bif x.kind == 10 then m_evolution_createTable S x.newTable else
 bindK (m_schema_FindTable S x.table) fun v=>bif !v.2 then some (S,4) else
 bif x.kind == 4 then m_evolution_renameTable S v.1.toNat x.newName else
 bif x.kind == 6 then m_evolution_splitTable S v.1.toNat x else
 bif x.kind == 7 then m_evolution_joinTables S v.1.toNat x.other else
 bif x.kind == 8 then m_evolution_partitionTable S v.1.toNat x else
 bif x.kind == 9 then m_evolution_mergeTables S v.1.toNat x else
 bif x.kind == 11 then m_evolution_dropTable S x.table else
 bif x.kind == 12 then m_evolution_concatColumns S v.1.toNat x else
 bif x.kind == 1 then m_evolution_addColumn S v.1.toNat x else m_evolution_alterColumn S v.1.toNat x
theorem findTable_nn {S:Sch} {nm:ByteArray} {v:Int × Bool} (h:Is (m_schema_FindTable S nm) v):0≤v.1:=by
 obtain⟨k,_,h⟩:=Is.bind h
 have:=r_ret h
 rw[← this]
 show 0≤(if k < 0 then 0 else k)
 split<;>omega
theorem KeepS.sub {h:HS} {l:Lab} {ls ls':List Lab} {S':Sch} {v:V} {K:V→HS→Prop} (hk:KeepS h l ls S' v K) (hs:∀ k ∈ ls',k ∈ ls):KeepS h l ls' S' v K:=
 fun h' lz ho hm hl=>hk h' lz ho (hm.mono fun k hk=>by simp only[List.mem_cons] at hk ⊢;exact hk.imp_right (hs k)) fun k hk=>(hl k hk).imp_left (hs k)
theorem KeepS.to {h:HS} {l:Lab} {ls:List Lab} {S':Sch} {v:V} {K K':V→HS→Prop} (hk:KeepS h l ls S' v K) (hs:∀ h',K v h'→K' v h'):KeepS h l ls S' v K':=
 fun h' lz ho hm hl=>hs _ (hk h' lz ho hm hl)
set_option maxHeartbeats 2000000 in
theorem h_evolution_apply (h:HS) (l:Lab) (tc fc oc:C) (xs:List C) (ta fa oa lx:List Lab) (S S':Sch) (x:Stp) (r:Int) (hm:Is (m_evolution_apply S x) (S',r)) (s:Sc h l S tc fc oc ta fa oa) (hx:Ow h StpSh xs x.enc lx) (hd:lx.Nodup∧∀ k ∈ lx,k.1 < h.ep∧k ∉ l::(ta++(fa++oa))) (K:V→HS→Prop)
  (hk:KeepS h l (ta++(fa++oa)++lx) S' (.one (.d (.int .i64 r))) K) :
  HSpec Tryz.prog 154 [.one (.ptr l 0),.agg xs] h K:=by
 refine HSpec.good Tryz.func154 rfl (by kernel_rfl) fun hg=>?_
 obtain⟨x6,x12,x13,x22,a6,a12,a13,a22,rfl,rfl,-,-,-,-⟩:=hx.stp
 refine HSpec.of_vc Tryz.func154 rfl (by kernel_rfl) (n:=120) rfl rfl (by simp) ?_
 have hnn:stpC x x6 x12 x13 x22≠[]:=by simp[stpC]
 have hs0:Same h ((h.setBox (h.ep,48) (stpC x x6 x12 x13 x22)).next) []:=(Same.refl.setBox (.inr (Nat.le_refl _))).next
 have s0:=s.frame hs0
 have hb0:=s0.box
 have bx3:(h.setBox (h.ep,48) (stpC x x6 x12 x13 x22)).next.box (h.ep,48)=some (stpC x x6 x12 x13 x22):=by simp
 have hx0:Ow ((h.setBox (h.ep,48) (stpC x x6 x12 x13 x22)).next) StpSh (stpC x x6 x12 x13 x22) x.enc (a6++(a12++(a13++a22))):=hx.frame fun k hk=>hs0.2 k (hd.2 k hk).1 (by simp)
 have hd0:∀ k ∈ a6++(a12++(a13++a22)),k.1 < ((h.setBox (h.ep,48) (stpC x x6 x12 x13 x22)).next).ep∧k ∉ l::(ta++(fa++oa)):=fun k hk=>⟨by have:=(hd.2 k hk).1;simp;omega,(hd.2 k hk).2⟩
 have hk0:KeepS ((h.setBox (h.ep,48) (stpC x x6 x12 x13 x22)).next) l (ta++(fa++oa)++(a6++(a12++(a13++a22)))) S' (.one (.d (.int .i64 r))) K:=hk.after hs0
 have hk1:KeepS ((h.setBox (h.ep,48) (stpC x x6 x12 x13 x22)).next) l (ta++(fa++oa)) S' (.one (.d (.int .i64 r))) K:=hk0.sub fun k hk=>List.mem_append_left _ hk
 have e0:takeN 1 (stpC x x6 x12 x13 x22)=some [.d (.int .i64 x.kind)]:=by simp[stpC]
 have e24:takeN 24 (stpC x x6 x12 x13 x22)=some (stpC x x6 x12 x13 x22):=by simp[stpC]
 have e1:takeN 1 ((stpC x x6 x12 x13 x22).drop 1)=some [.d (.str x.table)]:=by simp[stpC]
 have e1':takeN 1 ((stpC x x6 x12 x13 x22).tail)=some [.d (.str x.table)]:=by simp[stpC]
 have e2:takeN 1 ((stpC x x6 x12 x13 x22).drop 2)=some [.d (.str x.other)]:=by simp[stpC]
 have e4:takeN 1 ((stpC x x6 x12 x13 x22).drop 4)=some [.d (.str x.newName)]:=by simp[stpC]
 have e11:takeN 3 ((stpC x x6 x12 x13 x22).drop 11)=some [.d (.str x.newTable.name),x12,x13]:=by simp[stpC]
 have e14:takeN 7 ((stpC x x6 x12 x13 x22).drop 14)=some (x.cons.enc.map C.d):=by simp[stpC]
 have e21:takeN 3 ((stpC x x6 x12 x13 x22).drop 21)=some [.d (.str x.fk.table),x22,.d (.str x.fk.ref)]:=by simp[stpC]
 simp only[Cons.enc,List.map_cons,List.map_nil] at e14
 unfold m_evolution_apply at hm
 simp[hnn,e0]
 cases k13:x.kind == 13 with
 | true=>
   simp only[k13,cond_true] at hm
   replace hm:=hm.chk
   obtain⟨hlim,hm⟩:=hm
   have e1:=r_ret hm
   simp only[Prod.mk.injEq] at e1
   obtain⟨rfl,rfl⟩:=e1
   simp[k13]
   generalize (h.setBox (h.ep,48) (stpC x x6 x12 x13 x22)).next=HX at *
   refine Wait.cut (Plan.then_ [0,1,2,3,4,5,6,7,8,9,10,11] .done) follows (by kernel_rfl) (fun e h'=>e.n=120∧∃ oc' oa',Sc h' l { S with cons:=S.cons++[x.cons] } tc fc oc' ta fa oa'∧Same HX h' (l::oa)∧∀ k ∈ oa',k ∈ oa∨HX.ep≤k.1) ?_ ?_
   ·simp[hb0,bx3,e14,Plan.then_,vcPlan,planOps,isCallAt,callKind]
    have hz:Same HX ((HX.setArr (HX.ep,16 * 18) (some (1,7))).next) []:=Same.refl.setArr.next
    simp only[Nat.reduceMul] at hz
    have s1:=s0.frame hz
    obtain⟨ys,my,hly,add⟩:=s1.addO
    refine app_mr (by simp;exact⟨rfl,rfl⟩) (by simp) (by simp) (by simp) my (RowAt.own1 (by simp)) (by rw[hly];exact hlim) (fun c' h' hm' hs6 hl6=>?_)
    have hbl:=s1.keep hs6 fun k hk=>.inr (.inr (s1.hlabs.2.2 k hk))
    obtain⟨oa',s6,hoa'⟩:=add h' c' x.cons (by simpa using hm') hs6 hl6
    have hepz:=hz.1
    simp[hbl]
    exact CutK.of ⟨by simp,c',oa',s6,((hz.mono (by simp)).trans (hs6.mono fun k hk=>List.mem_cons_of_mem _ (s1.hlabs.2.2 k hk))).setBox (.inl (by simp)),fun k hk=>(hoa' k hk).imp_right fun h9=>by omega⟩
   ·rintro e h' ⟨hn,oc',oa',s6,hs6,hoa'⟩
    simp[hn]
    refine hk1 _ _ s6.ows (hs6.mono fun k hk=>by simp only[List.mem_cons,List.mem_append] at hk ⊢;exact hk.imp_right fun h=>.inr (.inr h)) fun k hk=>?_
    simp only[List.mem_append] at hk ⊢
    rcases hk with hk | hk | hk
    ·exact .inl (.inl hk)
    ·exact .inl (.inr (.inl hk))
    ·exact (hoa' k hk).imp_left fun h=>.inr (.inr h)
 | false=>
 simp only[k13,cond_false] at hm
 cases k14:x.kind == 14 with
 | true=>
   simp only[k14,cond_true] at hm
   simp[k13,k14,e14]
   refine callK_heap (h_evolution_dropConstraint _ l _ S S' x.cons r hm s0.ows _ (hk1.to fun h' hK=>?_))
   simp
   exact hK
 | false=>
 simp only[k14,cond_false] at hm
 cases k15:x.kind == 15 with
 | true=>
   simp only[k15,cond_true] at hm
   replace hm:=hm.chk
   obtain⟨hlim,hm⟩:=hm
   have e1:=r_ret hm
   simp only[Prod.mk.injEq] at e1
   obtain⟨rfl,rfl⟩:=e1
   simp[k13,k14,k15]
   obtain⟨y6,y12,y13,y22,b6,b12,b13,b22,f1,f2,p6,p12,p13,p22⟩:=hx0.stp
   obtain⟨rfl,rfl,rfl,rfl⟩:x6=y6∧x12=y12∧x13=y13∧x22=y22:=by simpa[stpC] using f1
   have hnd0:=hd.1
   rw[f2] at hd0 hk0 hnd0
   have hoF:Ow ((h.setBox (h.ep,48) (stpC x x6 x12 x13 x22)).next) FkSh [.d (.str x.fk.table),x22,.d (.str x.fk.ref)] x.fk.enc b22:=by
    have:=Ow.data (c:=.d (.str x.fk.table)) (x:=.str x.fk.table) rfl (p22.join (.data (c:=.d (.str x.fk.ref)) (x:=.str x.fk.ref) rfl .nil))
    simp only[List.append_nil] at this
    exact this
   have hndb:b22.Nodup:=by
    simp only[List.nodup_append] at hnd0
    exact hnd0.2.1.2.1.2.1
   have hdb:∀ k ∈ b22,k.1 < ((h.setBox (h.ep,48) (stpC x x6 x12 x13 x22)).next).ep∧k ∉ l::(ta++(fa++oa)):=fun k hk=>hd0 k (by simp[hk])
   have hk2:=hk0.sub (ls':=ta++(fa++oa)++b22) (fun k hk=>by simp only[List.mem_append] at hk ⊢;exact hk.imp_right fun h=>.inr (.inr (.inr h)))
   clear hk0 hk1 hx0 hd0
   generalize hHX:(h.setBox (h.ep,48) (stpC x x6 x12 x13 x22)).next=HX at *
   refine Wait.cut (Plan.then_ [0,1,2,3,4,5,6,7,8,9,10,11] .done) follows (by kernel_rfl) (fun e h'=>e.n=120∧∃ fc' fa',Sc h' l { S with fks:=S.fks++[x.fk] } tc fc' oc ta fa' oa∧Same HX h' (l::fa)∧∀ k ∈ fa',k ∈ fa∨k ∈ b22∨HX.ep≤k.1) ?_ ?_
   ·simp[hb0,bx3,e21,Plan.then_,vcPlan,planOps,isCallAt,callKind]
    refine bld_ow (x:=[.d (.str x.fk.table),x22,.d (.str x.fk.ref)]) (by simp[toDs];cases x22.toD<;>rfl) (by simp) (fun d hd2=>?_) (fun hd2=>?_)
    ·obtain⟨rfl,hT2⟩:=hoF.ofD hd2
     have hz:Same HX ((HX.setArr (HX.ep,16 * 37) (some (1,3))).next) []:=Same.refl.setArr.next
     simp only[Nat.reduceMul] at hz
     have s1:=s0.frame hz
     obtain⟨ys,my,hly,add⟩:=s1.addF
     simp
     refine app_mr (by simp;exact⟨rfl,rfl⟩) (by simp) (by simp) (by simp) my (RowAt.own1 (by simp)) (by rw[hly];exact hlim) (fun c' h' hm' hs6 hl6=>?_)
     have hbl:=s1.keep hs6 fun k hk=>.inr (.inl (s1.hlabs.2.1 k hk))
     obtain⟨fa',s6,hfa'⟩:=add h' c' _ _ [] hm' hs6 hl6 (hT2 h') List.nodup_nil (by simp) x.fk rfl
     have hepz:=hz.1
     simp[hbl]
     exact CutK.of ⟨by simp,c',fa',s6,((hz.mono (by simp)).trans (hs6.mono fun k hk=>List.mem_cons_of_mem _ (s1.hlabs.2.1 k hk))).setBox (.inl (by simp)),fun k hk=>(hfa' k hk).imp_right fun h9=>.inr (by rcases h9 with h9 | h9;simp at h9;omega)⟩
    ·have hz:Same HX ((HX.setBox (HX.ep,16 * 37) [.d (.str x.fk.table),x22,.d (.str x.fk.ref)]).next) []:=(Same.refl.setBox (.inr (Nat.le_refl _))).next
     simp only[Nat.reduceMul] at hz
     have s1:=s0.frame hz
     obtain⟨ys,my,hly,add⟩:=s1.addF
     simp
     refine app_mr (by simp;exact⟨rfl,rfl⟩) (by simp) (by simp) (by simp) my (RowAt.new1 (x:=[.d (.str x.fk.table),x22,.d (.str x.fk.ref)]) (by simp) (by simp)) (by rw[hly];exact hlim) (fun c' h' hm' hs6 hl6=>?_)
     have hbl:=s1.keep hs6 fun k hk=>.inr (.inl (s1.hlabs.2.1 k hk))
     have hepz:=hz.1
     have hep6:=hs6.1
     obtain⟨fa',s6,hfa'⟩:=add h' c' _ _ b22 hm' hs6 hl6 (hoF.frame fun k hk=>by
      have h9:=hdb k hk
      simp only[List.mem_cons,List.mem_append,not_or] at h9
      rw[hs6.2 k (by omega) fun h8=>h9.2.2.2.1 (s1.hlabs.2.1 k h8)]
      exact hz.2 k h9.1 (by simp)) hndb (fun k hk=>by
      have h9:=hdb k hk
      refine⟨by omega,h9.2,fun h8=>?_⟩
      simp only[List.mem_cons,List.mem_append,not_or] at h9
      rcases hl6 k h8 with h7 | h7
      ·exact h9.2.2.2.1 (s1.hlabs.2.1 k h7)
      ·omega) x.fk rfl
     simp[hbl]
     exact CutK.of ⟨by simp,c',fa',s6,((hz.mono (by simp)).trans (hs6.mono fun k hk=>List.mem_cons_of_mem _ (s1.hlabs.2.1 k hk))).setBox (.inl (by simp)),fun k hk=>(hfa' k hk).imp_right fun h9=>h9.imp_right fun h8=>by omega⟩
   ·rintro e h' ⟨hn,fc',fa',s6,hs6,hfa'⟩
    simp[hn]
    refine hk2 _ _ s6.ows (hs6.mono fun k hk=>by simp only[List.mem_cons,List.mem_append] at hk ⊢;exact hk.imp_right fun h=>.inl (.inr (.inl h))) fun k hk=>?_
    simp only[List.mem_append] at hk ⊢
    rcases hk with hk | hk | hk
    ·exact .inl (.inl (.inl hk))
    ·rcases hfa' k hk with h9 | h9 | h9
     ·exact .inl (.inl (.inr (.inl h9)))
     ·exact .inl (.inr h9)
     ·exact .inr h9
    ·exact .inl (.inl (.inr (.inr hk)))
 | false=>
 simp only[k15,cond_false] at hm
 cases k16:x.kind == 16 with
 | true=>
   simp only[k16,cond_true] at hm
   simp[k13,k14,k15,k16,e21]
   refine callK_heap (h_evolution_dropForeignKey _ l _ S S' x.fk [.d (.str x.fk.table),x22,.d (.str x.fk.ref)] r hm s0.ows (fun h' hs'=>?_) _ (hk1.to fun h' hK=>?_))
   ·have:=(hx0.frame (h':=h') fun k hk=>hs'.2 k (hd0 k hk).1 (by simp)).stp
    obtain⟨y6,y12,y13,y22,b6,b12,b13,b22,f1,f2,p6,p12,p13,p22⟩:=this
    obtain⟨rfl,rfl,rfl,rfl⟩:x6=y6∧x12=y12∧x13=y13∧x22=y22:=by simpa[stpC] using f1
    exact⟨.data rfl,p22.nfrz,.data rfl,trivial⟩
   ·simp
    exact hK
 | false=>
 simp only[k16,cond_false] at hm
 cases k10:x.kind == 10 with
 | true=>
   simp only[k10,cond_true] at hm
   simp[k13,k14,k15,k16,k10,e11]
   obtain⟨y6,y12,y13,y22,b6,b12,b13,b22,f1,f2,p6,p12,p13,p22⟩:=hx0.stp
   obtain⟨rfl,rfl,rfl,rfl⟩:x6=y6∧x12=y12∧x13=y13∧x22=y22:=by simpa[stpC] using f1
   have hnd0:=hd.1
   rw[f2] at hd0 hk0 hnd0
   refine callK_heap (h_evolution_createTable _ l tc fc oc ta fa oa (b12++(b13++[])) S S' x.newTable r _ hm s0 (.data (c:=.d (.str x.newTable.name)) (x:=.str x.newTable.name) rfl (p12.join (p13.join .nil))) ⟨?_,fun k hk=>?_⟩ _ ((hk0.sub fun k hk=>?_).to fun h' hK=>?_))
   ·simp only[List.nodup_append,List.append_nil,List.mem_append] at hnd0 ⊢
    exact⟨hnd0.2.1.1,hnd0.2.1.2.1.1,fun a ha b hb=>hnd0.2.1.2.2 a ha b (.inl hb)⟩
   ·exact hd0 k (by simp only[List.append_nil,List.mem_append] at hk ⊢;exact .inr (hk.imp_right .inl))
   ·simp only[List.append_nil,List.mem_append] at hk ⊢
    exact hk.imp_right fun h=>.inr (h.imp_right .inl)
   ·simp
    exact hK
 | false=>
 simp only[k10,cond_false] at hm
 replace hm:=hm.bind
 obtain⟨v,hv,hm⟩:=hm
 obtain⟨n,hn1⟩:∃ n:Nat,v.1=n:=⟨v.1.toNat,by have:=findTable_nn hv;omega⟩
 simp[k13,k14,k15,k16,k10]
 have hepX:h.ep < ((h.setBox (h.ep,48) (stpC x x6 x12 x13 x22)).next).ep:=by simp
 generalize hHX:(h.setBox (h.ep,48) (stpC x x6 x12 x13 x22)).next=HX at *
 refine Wait.cut (Plan.then_ [0,1,2,3,4,5,6,7,8,9,10] .done) follows (by kernel_rfl) (fun e h'=>e.n=120∧e.get 0=.one (.ptr l 0)∧e.get 3=.one (.ptr (h.ep,48) 0)∧e.get 5=.one (.d (.int .i64 v.1))∧e.get 6=.one (.d (.bool v.2))∧h'=HX.next) ?_ ?_
 ·simp[hb0,bx3,e1',Plan.then_,vcPlan,planOps,isCallAt,callKind]
  refine callK_heap (HSpec.of_lend (c_schema_FindTable S x.table v hv) ⟨.agg s0.frz,.one (.frz (.data rfl)),trivial⟩ rfl ?_)
  simp
  exact⟨fun _ _ x=>x,CutK.of (by simp)⟩
 ·rintro e h' ⟨hn,h0,h3,h5,h6,rfl⟩
  have hs1:Same HX HX.next []:=Same.refl.next
  have s1:=s0.frame hs1
  have bx31:HX.next.box (h.ep,48)=some (stpC x x6 x12 x13 x22):=bx3
  have hx1:=hx0.frame (h':=HX.next) fun k hk=>hs1.2 k (hd0 k hk).1 (by simp)
  have hd1:∀ k ∈ a6++(a12++(a13++a22)),k.1 < HX.next.ep∧k ∉ l::(ta++(fa++oa)):=fun k hk=>⟨by have:=(hd0 k hk).1;simp;omega,(hd0 k hk).2⟩
  have hk2:=hk1.after hs1
  rw[hn1] at h5
  have hvn:v.1.toNat=n:=by omega
  rw[hvn] at hm
  simp[hn,h6]
  cases hv2:v.2 with
  | false=>
    rw[hv2] at hm
    have e1:=r_ret hm
    simp only[Prod.mk.injEq] at e1
    obtain⟨rfl,rfl⟩:=e1
    simp[hn]
    exact hk2 _ _ s1.ows .refl (fun k hk=>.inl hk)
  | true=>
  simp only[hv2,Bool.not_true,cond_false] at hm
  simp at bx31
  simp[hn,h3,bx31,e0]
  cases k4:x.kind == 4 with
  | true=>
    simp only[k4,cond_true] at hm
    simp[k4,hn,h0,h3,h5,bx31,e4]
    refine callK_heap (h_evolution_renameTable _ l tc fc oc ta fa oa S S' n x.newName r hm s1 _ (hk2.to fun h' hK=>?_))
    simp[hn]
    exact hK
  | false=>
  simp only[k4,cond_false] at hm
  cases k6:x.kind == 6 with
  | true=>
    simp only[k6,cond_true] at hm
    simp[k4,k6,hn,h0,h3,h5,bx31,e24]
    refine callK_heap (h_evolution_splitTable _ l tc fc oc _ ta fa oa _ S S' n x r hm s1 hx1 hd1 _ (hk2.to fun h' hK=>?_))
    simp[hn]
    exact hK
  | false=>
  simp only[k6,cond_false] at hm
  cases k7:x.kind == 7 with
  | true=>
    simp only[k7,cond_true] at hm
    simp[k4,k6,k7,hn,h0,h3,h5,bx31,e2]
    refine callK_heap (h_evolution_joinTables _ l tc fc oc ta fa oa S S' n x.other r hm s1 _ (hk2.to fun h' hK=>?_))
    simp[hn]
    exact hK
  | false=>
  simp only[k7,cond_false] at hm
  cases k8:x.kind == 8 with
  | true=>
    simp only[k8,cond_true] at hm
    simp[k4,k6,k7,k8,hn,h0,h3,h5,bx31,e24]
    refine callK_heap (h_evolution_partitionTable _ l tc fc oc x6 x12 x13 x22 ta fa oa S S' n x r hm s1 _ (hk2.to fun h' hK=>?_))
    simp[hn]
    exact hK
  | false=>
  simp only[k8,cond_false] at hm
  cases k9:x.kind == 9 with
  | true=>
    simp only[k9,cond_true] at hm
    simp[k4,k6,k7,k8,k9,hn,h0,h3,h5,bx31,e24]
    refine callK_heap (h_evolution_mergeTables _ l tc fc oc x6 x12 x13 x22 ta fa oa S S' n x r hm s1 _ (hk2.to fun h' hK=>?_))
    simp[hn]
    exact hK
  | false=>
  simp only[k9,cond_false] at hm
  cases k11:x.kind == 11 with
  | true=>
    simp only[k11,cond_true] at hm
    simp[k4,k6,k7,k8,k9,k11,hn,h0,h3,h5,bx31,e1,e1']
    refine callK_heap (h_evolution_dropTable _ l _ S S' x.table r hm s1.ows _ (hk2.to fun h' hK=>?_))
    simp[hn]
    exact hK
  | false=>
  simp only[k11,cond_false] at hm
  cases k12:x.kind == 12 with
  | true=>
    simp only[k12,cond_true] at hm
    simp[k4,k6,k7,k8,k9,k11,k12,hn,h0,h3,h5,bx31,e24]
    refine callK_heap (h_evolution_concatColumns _ l tc fc oc _ ta fa oa _ S S' n x r hm s1 hx1 hd1 _ (hk2.to fun h' hK=>?_))
    simp[hn]
    exact hK
  | false=>
  simp only[k12,cond_false] at hm
  cases k1:x.kind == 1 with
  | true=>
    simp only[k1,cond_true] at hm
    simp[k4,k6,k7,k8,k9,k11,k12,k1,hn,h0,h3,h5,bx31,e24]
    refine callK_heap (h_evolution_addColumn _ l tc fc oc x6 x12 x13 x22 ta fa oa S S' n x r hm s1 _ (hk2.to fun h' hK=>?_))
    simp[hn]
    exact hK
  | false=>
  simp only[k1,cond_false] at hm
  simp[k4,k6,k7,k8,k9,k11,k12,k1,hn,h0,h3,h5,bx31,e24]
  refine callK_heap (h_evolution_alterColumn _ l tc fc oc x6 x12 x13 x22 ta fa oa S S' n x r hm s1 _ (hk2.to fun h' hK=>?_))
  simp[hn]
  exact hK
end Go.Proofs.YthgepknlibmjcaaGreat
end
section
namespace Go.Proofs.YthgepknlibmjcaaGreat
open Go.Am
def m_schema_equalTables (a:Tbl) (b:Tbl):Option Bool:=
 (bif strEq a.name b.name then (bindK (m_slices_Equal_Column a.cols b.cols) fun v4=>(bif v4 then (bindK (m_slices_Equal_Int a.pk b.pk) fun v6=>(some v6)) else (some false))) else (some false))
theorem c_schema_equalTables (a:Tbl) (b:Tbl) (r:Bool) (hm:Is (m_schema_equalTables a b) r):PSpec Tryz.prog 75 [.agg a.enc,.agg b.enc] (.one (.d (.bool r))):=by
 unfold m_schema_equalTables at hm
 refine PSpec.of_vc Tryz.func75 rfl (by kernel_rfl) (n:=24) rfl rfl (by simp) ?_
 try simp[*]
 refine r_guardT hm ?_ ?_<;>clear hm<;>intro hc3 hm
 ·try simp[*]
  refine r_call (av:=[.one (.d (.sl (a.cols.map Col.enc))),.one (.d (.sl (b.cols.map Col.enc)))]) hm (fun v hv=>c_slices_Equal_Column _ _ v hv) (by simp[*]) ?_
  clear hm;intro v4 hvv4 hm
  try simp[*]
  refine r_guardT hm ?_ ?_<;>clear hm<;>intro hc5 hm
  ·try simp[*]
   refine r_call (av:=[.one (.d (.sl (a.pk.map encI))),.one (.d (.sl (b.pk.map encI)))]) hm (fun v hv=>c_slices_Equal_Int _ _ v hv) (by simp[*]) ?_
   clear hm;intro v6 hvv6 hm
   try simp[*]
   obtain rfl:=r_ret hm
   exact ret0 (vs:=[_]) (by simp[*];try exact rfl) (by simp[*])
  ·try simp[*]
   obtain rfl:=r_ret hm
   exact ret0 (vs:=[_]) (by simp[*];try exact rfl) (by simp[*])
 ·try simp[*]
  obtain rfl:=r_ret hm
  exact ret0 (vs:=[_]) (by simp[*];try exact rfl) (by simp[*])
def m_schema_EqualTables (a:Tbl) (b:Tbl):Option Bool:=
 (bindK (m_schema_equalTables a b) fun v3=>(some v3))
theorem c_schema_EqualTables (a:Tbl) (b:Tbl) (r:Bool) (hm:Is (m_schema_EqualTables a b) r):PSpec Tryz.prog 173 [.agg a.enc,.agg b.enc] (.one (.d (.bool r))):=by
 unfold m_schema_EqualTables at hm
 refine PSpec.of_vc Tryz.func173 rfl (by kernel_rfl) (n:=8) rfl rfl (by simp) ?_
 try simp[*]
 refine r_call (av:=[.agg a.enc,.agg b.enc]) hm (fun v hv=>c_schema_equalTables _ _ v hv) (by simp[*]) ?_
 clear hm;intro v3 hvv3 hm
 try simp[*]
 obtain rfl:=r_ret hm
 exact ret0 (vs:=[_]) (by simp[*];try exact rfl) (by simp[*])
def m_evolution_Equal (a:Stp) (b:Stp):Option Bool:=
 (bif (a.kind == b.kind) then (bif strEq a.table b.table then (bif strEq a.other b.other then (bif strEq a.column b.column then (bif strEq a.newName b.newName then (bif (a.type == b.type) then (bindK (m_slices_Equal_Int a.cols b.cols) fun v9=>(bif v9 then (bif strEq a.op b.op then (bif (a.value.kind == b.value.kind && (a.value.int == b.value.int && (a.value.text == b.value.text))) then (bindK (m_schema_EqualTables a.newTable b.newTable) fun v13=>(bif v13 then (bif (a.cons.table == b.cons.table && (a.cons.left == b.cons.left && (a.cons.op == b.cons.op && (a.cons.right == b.cons.right && (a.cons.value.kind == b.cons.value.kind && (a.cons.value.int == b.cons.value.int && (a.cons.value.text == b.cons.value.text))))))) then (bindK (m_schema_EqualForeignKeys a.fk b.fk) fun v16=>(some v16)) else (some false)) else (some false))) else (some false)) else (some false)) else (some false))) else (some false)) else (some false)) else (some false)) else (some false)) else (some false)) else (some false))
theorem c_evolution_Equal (a:Stp) (b:Stp) (r:Bool) (hm:Is (m_evolution_Equal a b) r):PSpec Tryz.prog 159 [.agg a.enc,.agg b.enc] (.one (.d (.bool r))):=by
 unfold m_evolution_Equal at hm
 refine PSpec.of_vc Tryz.func159 rfl (by kernel_rfl) (n:=87) rfl rfl (by simp) ?_
 try simp[*]
 refine r_guardT hm ?_ ?_<;>clear hm<;>intro hc3 hm
 ·try simp[*]
  refine r_guardT hm ?_ ?_<;>clear hm<;>intro hc4 hm
  ·try simp[*]
   refine r_guardT hm ?_ ?_<;>clear hm<;>intro hc5 hm
   ·try simp[*]
    refine r_guardT hm ?_ ?_<;>clear hm<;>intro hc6 hm
    ·try simp[*]
     refine r_guardT hm ?_ ?_<;>clear hm<;>intro hc7 hm
     ·try simp[*]
      refine r_guardT hm ?_ ?_<;>clear hm<;>intro hc8 hm
      ·try simp[*]
       refine r_call (av:=[.one (.d (.sl (a.cols.map encI))),.one (.d (.sl (b.cols.map encI)))]) hm (fun v hv=>c_slices_Equal_Int _ _ v hv) (by simp[*]) ?_
       clear hm;intro v9 hvv9 hm
       try simp[*]
       refine r_guardT hm ?_ ?_<;>clear hm<;>intro hc10 hm
       ·try simp[*]
        refine r_guardT hm ?_ ?_<;>clear hm<;>intro hc11 hm
        ·try simp[*]
         refine r_guardT hm ?_ ?_<;>clear hm<;>intro hc12 hm
         ·try simp[*]
          refine r_call (av:=[.agg a.newTable.enc,.agg b.newTable.enc]) hm (fun v hv=>c_schema_EqualTables _ _ v hv) (by simp[*]) ?_
          clear hm;intro v13 hvv13 hm
          try simp[*]
          refine r_guardT hm ?_ ?_<;>clear hm<;>intro hc14 hm
          ·try simp[*]
           refine r_guardT hm ?_ ?_<;>clear hm<;>intro hc15 hm
           ·try simp[*]
            refine r_call (av:=[.agg a.fk.enc,.agg b.fk.enc]) hm (fun v hv=>c_schema_EqualForeignKeys _ _ v hv) (by simp[*]) ?_
            clear hm;intro v16 hvv16 hm
            try simp[*]
            obtain rfl:=r_ret hm
            exact ret0 (vs:=[_]) (by simp[*];try exact rfl) (by simp[*])
           ·try simp[*]
            obtain rfl:=r_ret hm
            exact ret0 (vs:=[_]) (by simp[*];try exact rfl) (by simp[*])
          ·try simp[*]
           obtain rfl:=r_ret hm
           exact ret0 (vs:=[_]) (by simp[*];try exact rfl) (by simp[*])
         ·try simp[*]
          obtain rfl:=r_ret hm
          exact ret0 (vs:=[_]) (by simp[*];try exact rfl) (by simp[*])
        ·try simp[*]
         obtain rfl:=r_ret hm
         exact ret0 (vs:=[_]) (by simp[*];try exact rfl) (by simp[*])
       ·try simp[*]
        obtain rfl:=r_ret hm
        exact ret0 (vs:=[_]) (by simp[*];try exact rfl) (by simp[*])
      ·try simp[*]
       obtain rfl:=r_ret hm
       exact ret0 (vs:=[_]) (by simp[*];try exact rfl) (by simp[*])
     ·try simp[*]
      obtain rfl:=r_ret hm
      exact ret0 (vs:=[_]) (by simp[*];try exact rfl) (by simp[*])
    ·try simp[*]
     obtain rfl:=r_ret hm
     exact ret0 (vs:=[_]) (by simp[*];try exact rfl) (by simp[*])
   ·try simp[*]
    obtain rfl:=r_ret hm
    exact ret0 (vs:=[_]) (by simp[*];try exact rfl) (by simp[*])
  ·try simp[*]
   obtain rfl:=r_ret hm
   exact ret0 (vs:=[_]) (by simp[*];try exact rfl) (by simp[*])
 ·try simp[*]
  obtain rfl:=r_ret hm
  exact ret0 (vs:=[_]) (by simp[*];try exact rfl) (by simp[*])
def m_evolution_normalized (step:Stp):Option Stp:=
 (bif (step.kind == 1) then (some (Stp.mk step.kind step.table ByteArray.empty step.column ByteArray.empty step.type [] ByteArray.empty step.value (Tbl.mk ByteArray.empty [] []) (Cons.mk ByteArray.empty 0 ByteArray.empty 0 (GV.mk 0 0 ByteArray.empty)) (Fk.mk ByteArray.empty [] ByteArray.empty))) else (bif (step.kind == 2) then (some (Stp.mk step.kind step.table ByteArray.empty step.column ByteArray.empty 0 [] ByteArray.empty step.value (Tbl.mk ByteArray.empty [] []) (Cons.mk ByteArray.empty 0 ByteArray.empty 0 (GV.mk 0 0 ByteArray.empty)) (Fk.mk ByteArray.empty [] ByteArray.empty))) else (bif (step.kind == 3) then (some (Stp.mk step.kind step.table ByteArray.empty step.column step.newName 0 [] ByteArray.empty (GV.mk 0 0 ByteArray.empty) (Tbl.mk ByteArray.empty [] []) (Cons.mk ByteArray.empty 0 ByteArray.empty 0 (GV.mk 0 0 ByteArray.empty)) (Fk.mk ByteArray.empty [] ByteArray.empty))) else (bif (step.kind == 4) then (some (Stp.mk step.kind step.table ByteArray.empty ByteArray.empty step.newName 0 [] ByteArray.empty (GV.mk 0 0 ByteArray.empty) (Tbl.mk ByteArray.empty [] []) (Cons.mk ByteArray.empty 0 ByteArray.empty 0 (GV.mk 0 0 ByteArray.empty)) (Fk.mk ByteArray.empty [] ByteArray.empty))) else (bif (step.kind == 5) then (some (Stp.mk step.kind step.table ByteArray.empty step.column ByteArray.empty step.type [] ByteArray.empty (GV.mk 0 0 ByteArray.empty) (Tbl.mk ByteArray.empty [] []) (Cons.mk ByteArray.empty 0 ByteArray.empty 0 (GV.mk 0 0 ByteArray.empty)) (Fk.mk ByteArray.empty [] ByteArray.empty))) else (bif (step.kind == 6) then (some (Stp.mk step.kind step.table step.other ByteArray.empty ByteArray.empty 0 step.cols ByteArray.empty (GV.mk 0 0 ByteArray.empty) (Tbl.mk ByteArray.empty [] []) (Cons.mk ByteArray.empty 0 ByteArray.empty 0 (GV.mk 0 0 ByteArray.empty)) (Fk.mk ByteArray.empty [] ByteArray.empty))) else (bif (step.kind == 7) then (some (Stp.mk step.kind step.table step.other ByteArray.empty ByteArray.empty 0 [] ByteArray.empty (GV.mk 0 0 ByteArray.empty) (Tbl.mk ByteArray.empty [] []) (Cons.mk ByteArray.empty 0 ByteArray.empty 0 (GV.mk 0 0 ByteArray.empty)) (Fk.mk ByteArray.empty [] ByteArray.empty))) else (bif (step.kind == 8) then (some (Stp.mk step.kind step.table step.other step.column ByteArray.empty 0 [] step.op step.value (Tbl.mk ByteArray.empty [] []) (Cons.mk ByteArray.empty 0 ByteArray.empty 0 (GV.mk 0 0 ByteArray.empty)) (Fk.mk ByteArray.empty [] ByteArray.empty))) else (bif (step.kind == 9) then (some (Stp.mk step.kind step.table step.other step.column ByteArray.empty 0 [] ByteArray.empty (GV.mk 0 0 ByteArray.empty) (Tbl.mk ByteArray.empty [] []) (Cons.mk ByteArray.empty 0 ByteArray.empty 0 (GV.mk 0 0 ByteArray.empty)) (Fk.mk ByteArray.empty [] ByteArray.empty))) else (bif (step.kind == 10) then (some (Stp.mk step.kind ByteArray.empty ByteArray.empty ByteArray.empty ByteArray.empty 0 [] ByteArray.empty (GV.mk 0 0 ByteArray.empty) step.newTable (Cons.mk ByteArray.empty 0 ByteArray.empty 0 (GV.mk 0 0 ByteArray.empty)) (Fk.mk ByteArray.empty [] ByteArray.empty))) else (bif (step.kind == 12) then (some (Stp.mk step.kind step.table ByteArray.empty step.column ByteArray.empty 0 step.cols ByteArray.empty (GV.mk 0 0 ByteArray.empty) (Tbl.mk ByteArray.empty [] []) (Cons.mk ByteArray.empty 0 ByteArray.empty 0 (GV.mk 0 0 ByteArray.empty)) (Fk.mk ByteArray.empty [] ByteArray.empty))) else (bif (step.kind == 13) then (some (Stp.mk step.kind ByteArray.empty ByteArray.empty ByteArray.empty ByteArray.empty 0 [] ByteArray.empty (GV.mk 0 0 ByteArray.empty) (Tbl.mk ByteArray.empty [] []) step.cons (Fk.mk ByteArray.empty [] ByteArray.empty))) else (bif (step.kind == 14) then (some (Stp.mk step.kind ByteArray.empty ByteArray.empty ByteArray.empty ByteArray.empty 0 [] ByteArray.empty (GV.mk 0 0 ByteArray.empty) (Tbl.mk ByteArray.empty [] []) step.cons (Fk.mk ByteArray.empty [] ByteArray.empty))) else (bif (step.kind == 15) then (some (Stp.mk step.kind ByteArray.empty ByteArray.empty ByteArray.empty ByteArray.empty 0 [] ByteArray.empty (GV.mk 0 0 ByteArray.empty) (Tbl.mk ByteArray.empty [] []) (Cons.mk ByteArray.empty 0 ByteArray.empty 0 (GV.mk 0 0 ByteArray.empty)) step.fk)) else (bif (step.kind == 16) then (some (Stp.mk step.kind ByteArray.empty ByteArray.empty ByteArray.empty ByteArray.empty 0 [] ByteArray.empty (GV.mk 0 0 ByteArray.empty) (Tbl.mk ByteArray.empty [] []) (Cons.mk ByteArray.empty 0 ByteArray.empty 0 (GV.mk 0 0 ByteArray.empty)) step.fk)) else (some (Stp.mk step.kind step.table ByteArray.empty ByteArray.empty ByteArray.empty 0 [] ByteArray.empty (GV.mk 0 0 ByteArray.empty) (Tbl.mk ByteArray.empty [] []) (Cons.mk ByteArray.empty 0 ByteArray.empty 0 (GV.mk 0 0 ByteArray.empty)) (Fk.mk ByteArray.empty [] ByteArray.empty))))))))))))))))))
theorem c_evolution_normalized (step:Stp) (r:Stp) (hm:Is (m_evolution_normalized step) r):PSpec Tryz.prog 160 [.agg step.enc] (.agg (r.enc.map RC.d)):=by
 unfold m_evolution_normalized at hm
 refine PSpec.of_vc Tryz.func160 rfl (by kernel_rfl) (n:=115) rfl rfl (by simp) ?_
 try simp[*]
 refine r_cond hm ?_ ?_<;>clear hm<;>intro hc4 hm
 ·try simp[*]
  refine Wait.cut (Plan.then_ [0,1,2,4,6] (.three 3 5 7 (Plan.then_ [] (.two 5 7 (Plan.then_ [7,8,9,10,11] .done) (Plan.then_ [8] (.two 5 9 (Plan.then_ [9,10,11] .done) (Plan.then_ [5,10,11] .done))))) (Plan.then_ [] (.two 3 7 (Plan.then_ [7,8,9,10,11] .done) (Plan.then_ [3,8,9,10,11] .done))) (Plan.then_ [3,8] (.two 5 9 (Plan.then_ [9,10,11] .done) (Plan.then_ [5,10,11] .done))))) follows (by kernel_rfl) (fun e5 h5=>e5.n=115∧e5.get 2=.one (.ptr (1,32) 0)∧e5.get 3=.one (.ptr (2,48) 0)∧h5.box (1,32)=some [.d (.int .i64 0),.d (.str ByteArray.empty),.d (.str ByteArray.empty),.d (.str ByteArray.empty),.d (.str ByteArray.empty),.d (.int .i64 0),.nil,.d (.str ByteArray.empty),.d (.int .i64 0),.d (.int .i64 0),.d (.str ByteArray.empty),.d (.str ByteArray.empty),.nil,.nil,.d (.str ByteArray.empty),.d (.int .i64 0),.d (.str ByteArray.empty),.d (.int .i64 0),.d (.int .i64 0),.d (.int .i64 0),.d (.str ByteArray.empty),.d (.str ByteArray.empty),.nil,.d (.str ByteArray.empty)]∧h5.box (2,48)=some [.d (.int .i64 step.kind),.d (.str step.table),.d (.str ByteArray.empty),.d (.str step.column),.d (.str ByteArray.empty),.d (.int .i64 step.type),.nil,.d (.str ByteArray.empty),.d (.int .i64 step.value.kind),.d (.int .i64 step.value.int),.d (.str step.value.text),.d (.str ByteArray.empty),.nil,.nil,.d (.str ByteArray.empty),.d (.int .i64 0),.d (.str ByteArray.empty),.d (.int .i64 0),.d (.int .i64 0),.d (.int .i64 0),.d (.str ByteArray.empty),.d (.str ByteArray.empty),.nil,.d (.str ByteArray.empty)]) ?_ ?_
  ·try simp[*,Plan.then_,vcPlan,planOps,isCallAt,callKind]
   repeat' (first | with_reducible refine And.intro ?_ ?_ | (refine CutK.of ?_;simp[*];done))
  ·rintro e5 h5 ⟨hn5,h5_2,h5_3,hb5_b2,hb5_b3⟩
   try simp[*]
   obtain rfl:=r_ret hm
   exact ret0 (vs:=[_]) (by simp[*];try exact rfl) (by simp[*])
 ·try simp[*]
  refine r_cond hm ?_ ?_<;>clear hm<;>intro hc6 hm
  ·try simp[*]
   refine Wait.cut (Plan.then_ [0,1,2,4] (.two 3 5 (Plan.then_ [5,6,7] .done) (Plan.then_ [3,6,7] .done))) follows (by kernel_rfl) (fun e7 h7=>e7.n=115∧e7.get 2=.one (.ptr (1,32) 0)∧e7.get 3=.one (.ptr (2,48) 0)∧h7.box (1,32)=some [.d (.int .i64 0),.d (.str ByteArray.empty),.d (.str ByteArray.empty),.d (.str ByteArray.empty),.d (.str ByteArray.empty),.d (.int .i64 0),.nil,.d (.str ByteArray.empty),.d (.int .i64 0),.d (.int .i64 0),.d (.str ByteArray.empty),.d (.str ByteArray.empty),.nil,.nil,.d (.str ByteArray.empty),.d (.int .i64 0),.d (.str ByteArray.empty),.d (.int .i64 0),.d (.int .i64 0),.d (.int .i64 0),.d (.str ByteArray.empty),.d (.str ByteArray.empty),.nil,.d (.str ByteArray.empty)]∧h7.box (2,48)=some [.d (.int .i64 step.kind),.d (.str step.table),.d (.str ByteArray.empty),.d (.str step.column),.d (.str ByteArray.empty),.d (.int .i64 0),.nil,.d (.str ByteArray.empty),.d (.int .i64 step.value.kind),.d (.int .i64 step.value.int),.d (.str step.value.text),.d (.str ByteArray.empty),.nil,.nil,.d (.str ByteArray.empty),.d (.int .i64 0),.d (.str ByteArray.empty),.d (.int .i64 0),.d (.int .i64 0),.d (.int .i64 0),.d (.str ByteArray.empty),.d (.str ByteArray.empty),.nil,.d (.str ByteArray.empty)]) ?_ ?_
   ·try simp[*,Plan.then_,vcPlan,planOps,isCallAt,callKind]
    repeat' (first | with_reducible refine And.intro ?_ ?_ | (refine CutK.of ?_;simp[*];done))
   ·rintro e7 h7 ⟨hn7,h7_2,h7_3,hb7_b2,hb7_b3⟩
    try simp[*]
    obtain rfl:=r_ret hm
    exact ret0 (vs:=[_]) (by simp[*];try exact rfl) (by simp[*])
  ·try simp[*]
   refine r_cond hm ?_ ?_<;>clear hm<;>intro hc8 hm
   ·try simp[*]
    refine Wait.cut (Plan.then_ [0,1,2,4] (.two 3 5 (Plan.then_ [5,6,7] .done) (Plan.then_ [3,6,7] .done))) follows (by kernel_rfl) (fun e9 h9=>e9.n=115∧e9.get 2=.one (.ptr (1,32) 0)∧e9.get 3=.one (.ptr (2,48) 0)∧h9.box (1,32)=some [.d (.int .i64 0),.d (.str ByteArray.empty),.d (.str ByteArray.empty),.d (.str ByteArray.empty),.d (.str ByteArray.empty),.d (.int .i64 0),.nil,.d (.str ByteArray.empty),.d (.int .i64 0),.d (.int .i64 0),.d (.str ByteArray.empty),.d (.str ByteArray.empty),.nil,.nil,.d (.str ByteArray.empty),.d (.int .i64 0),.d (.str ByteArray.empty),.d (.int .i64 0),.d (.int .i64 0),.d (.int .i64 0),.d (.str ByteArray.empty),.d (.str ByteArray.empty),.nil,.d (.str ByteArray.empty)]∧h9.box (2,48)=some [.d (.int .i64 step.kind),.d (.str step.table),.d (.str ByteArray.empty),.d (.str step.column),.d (.str step.newName),.d (.int .i64 0),.nil,.d (.str ByteArray.empty),.d (.int .i64 0),.d (.int .i64 0),.d (.str ByteArray.empty),.d (.str ByteArray.empty),.nil,.nil,.d (.str ByteArray.empty),.d (.int .i64 0),.d (.str ByteArray.empty),.d (.int .i64 0),.d (.int .i64 0),.d (.int .i64 0),.d (.str ByteArray.empty),.d (.str ByteArray.empty),.nil,.d (.str ByteArray.empty)]) ?_ ?_
    ·try simp[*,Plan.then_,vcPlan,planOps,isCallAt,callKind]
     repeat' (first | with_reducible refine And.intro ?_ ?_ | (refine CutK.of ?_;simp[*];done))
    ·rintro e9 h9 ⟨hn9,h9_2,h9_3,hb9_b2,hb9_b3⟩
     try simp[*]
     obtain rfl:=r_ret hm
     exact ret0 (vs:=[_]) (by simp[*];try exact rfl) (by simp[*])
   ·try simp[*]
    refine r_cond hm ?_ ?_<;>clear hm<;>intro hc10 hm
    ·try simp[*]
     obtain rfl:=r_ret hm
     exact ret0 (vs:=[_]) (by simp[*];try exact rfl) (by simp[*])
    ·try simp[*]
     refine r_cond hm ?_ ?_<;>clear hm<;>intro hc11 hm
     ·try simp[*]
      refine Wait.cut (Plan.then_ [0,1,2,4] (.two 3 5 (Plan.then_ [5,6,7] .done) (Plan.then_ [3,6,7] .done))) follows (by kernel_rfl) (fun e12 h12=>e12.n=115∧e12.get 2=.one (.ptr (1,32) 0)∧e12.get 3=.one (.ptr (2,48) 0)∧h12.box (1,32)=some [.d (.int .i64 0),.d (.str ByteArray.empty),.d (.str ByteArray.empty),.d (.str ByteArray.empty),.d (.str ByteArray.empty),.d (.int .i64 0),.nil,.d (.str ByteArray.empty),.d (.int .i64 0),.d (.int .i64 0),.d (.str ByteArray.empty),.d (.str ByteArray.empty),.nil,.nil,.d (.str ByteArray.empty),.d (.int .i64 0),.d (.str ByteArray.empty),.d (.int .i64 0),.d (.int .i64 0),.d (.int .i64 0),.d (.str ByteArray.empty),.d (.str ByteArray.empty),.nil,.d (.str ByteArray.empty)]∧h12.box (2,48)=some [.d (.int .i64 step.kind),.d (.str step.table),.d (.str ByteArray.empty),.d (.str step.column),.d (.str ByteArray.empty),.d (.int .i64 step.type),.nil,.d (.str ByteArray.empty),.d (.int .i64 0),.d (.int .i64 0),.d (.str ByteArray.empty),.d (.str ByteArray.empty),.nil,.nil,.d (.str ByteArray.empty),.d (.int .i64 0),.d (.str ByteArray.empty),.d (.int .i64 0),.d (.int .i64 0),.d (.int .i64 0),.d (.str ByteArray.empty),.d (.str ByteArray.empty),.nil,.d (.str ByteArray.empty)]) ?_ ?_
      ·try simp[*,Plan.then_,vcPlan,planOps,isCallAt,callKind]
       repeat' (first | with_reducible refine And.intro ?_ ?_ | (refine CutK.of ?_;simp[*];done))
      ·rintro e12 h12 ⟨hn12,h12_2,h12_3,hb12_b2,hb12_b3⟩
       try simp[*]
       obtain rfl:=r_ret hm
       exact ret0 (vs:=[_]) (by simp[*];try exact rfl) (by simp[*])
     ·try simp[*]
      refine r_cond hm ?_ ?_<;>clear hm<;>intro hc13 hm
      ·try simp[*]
       refine Wait.cut (Plan.then_ [0,1,2,4] (.two 3 5 (Plan.then_ [5,6,7] .done) (Plan.then_ [3,6,7] .done))) follows (by kernel_rfl) (fun e14 h14=>e14.n=115∧e14.get 2=.one (.ptr (1,32) 0)∧e14.get 3=.one (.ptr (2,48) 0)∧h14.box (1,32)=some [.d (.int .i64 0),.d (.str ByteArray.empty),.d (.str ByteArray.empty),.d (.str ByteArray.empty),.d (.str ByteArray.empty),.d (.int .i64 0),.nil,.d (.str ByteArray.empty),.d (.int .i64 0),.d (.int .i64 0),.d (.str ByteArray.empty),.d (.str ByteArray.empty),.nil,.nil,.d (.str ByteArray.empty),.d (.int .i64 0),.d (.str ByteArray.empty),.d (.int .i64 0),.d (.int .i64 0),.d (.int .i64 0),.d (.str ByteArray.empty),.d (.str ByteArray.empty),.nil,.d (.str ByteArray.empty)]∧h14.box (2,48)=some [.d (.int .i64 step.kind),.d (.str step.table),.d (.str step.other),.d (.str ByteArray.empty),.d (.str ByteArray.empty),.d (.int .i64 0),.d (.sl (step.cols.map encI)),.d (.str ByteArray.empty),.d (.int .i64 0),.d (.int .i64 0),.d (.str ByteArray.empty),.d (.str ByteArray.empty),.nil,.nil,.d (.str ByteArray.empty),.d (.int .i64 0),.d (.str ByteArray.empty),.d (.int .i64 0),.d (.int .i64 0),.d (.int .i64 0),.d (.str ByteArray.empty),.d (.str ByteArray.empty),.nil,.d (.str ByteArray.empty)]) ?_ ?_
       ·try simp[*,Plan.then_,vcPlan,planOps,isCallAt,callKind]
        repeat' (first | with_reducible refine And.intro ?_ ?_ | (refine CutK.of ?_;simp[*];done))
       ·rintro e14 h14 ⟨hn14,h14_2,h14_3,hb14_b2,hb14_b3⟩
        try simp[*]
        obtain rfl:=r_ret hm
        exact ret0 (vs:=[_]) (by simp[*];try exact rfl) (by simp[*])
      ·try simp[*]
       refine r_cond hm ?_ ?_<;>clear hm<;>intro hc15 hm
       ·try simp[*]
        obtain rfl:=r_ret hm
        exact ret0 (vs:=[_]) (by simp[*];try exact rfl) (by simp[*])
       ·try simp[*]
        refine r_cond hm ?_ ?_<;>clear hm<;>intro hc16 hm
        ·try simp[*]
         refine Wait.cut (Plan.then_ [0,1,2,4,6,8] (.four 3 5 7 9 (Plan.then_ [] (.three 5 7 9 (Plan.then_ [] (.two 7 9 (Plan.then_ [9,10,11,12,13,14,15] .done) (Plan.then_ [10] (.two 7 11 (Plan.then_ [11,12,13,14,15] .done) (Plan.then_ [12] (.two 7 13 (Plan.then_ [13,14,15] .done) (Plan.then_ [7,14,15] .done))))))) (Plan.then_ [] (.two 5 9 (Plan.then_ [9,10,11,12,13,14,15] .done) (Plan.then_ [10] (.two 5 11 (Plan.then_ [11,12,13,14,15] .done) (Plan.then_ [5,12,13,14,15] .done))))) (Plan.then_ [10] (.three 5 7 11 (Plan.then_ [] (.two 7 11 (Plan.then_ [11,12,13,14,15] .done) (Plan.then_ [12] (.two 7 13 (Plan.then_ [13,14,15] .done) (Plan.then_ [7,14,15] .done))))) (Plan.then_ [] (.two 5 11 (Plan.then_ [11,12,13,14,15] .done) (Plan.then_ [5,12,13,14,15] .done))) (Plan.then_ [5,12] (.two 7 13 (Plan.then_ [13,14,15] .done) (Plan.then_ [7,14,15] .done))))))) (Plan.then_ [] (.three 3 7 9 (Plan.then_ [] (.two 7 9 (Plan.then_ [9,10,11,12,13,14,15] .done) (Plan.then_ [10] (.two 7 11 (Plan.then_ [11,12,13,14,15] .done) (Plan.then_ [12] (.two 7 13 (Plan.then_ [13,14,15] .done) (Plan.then_ [7,14,15] .done))))))) (Plan.then_ [] (.two 3 9 (Plan.then_ [9,10,11,12,13,14,15] .done) (Plan.then_ [3,10,11,12,13,14,15] .done))) (Plan.then_ [3,10] (.two 7 11 (Plan.then_ [11,12,13,14,15] .done) (Plan.then_ [12] (.two 7 13 (Plan.then_ [13,14,15] .done) (Plan.then_ [7,14,15] .done))))))) (Plan.then_ [] (.three 3 5 9 (Plan.then_ [] (.two 5 9 (Plan.then_ [9,10,11,12,13,14,15] .done) (Plan.then_ [10] (.two 5 11 (Plan.then_ [11,12,13,14,15] .done) (Plan.then_ [5,12,13,14,15] .done))))) (Plan.then_ [] (.two 3 9 (Plan.then_ [9,10,11,12,13,14,15] .done) (Plan.then_ [3,10,11,12,13,14,15] .done))) (Plan.then_ [3,10] (.two 5 11 (Plan.then_ [11,12,13,14,15] .done) (Plan.then_ [5,12,13,14,15] .done))))) (Plan.then_ [3,10] (.three 5 7 11 (Plan.then_ [] (.two 7 11 (Plan.then_ [11,12,13,14,15] .done) (Plan.then_ [12] (.two 7 13 (Plan.then_ [13,14,15] .done) (Plan.then_ [7,14,15] .done))))) (Plan.then_ [] (.two 5 11 (Plan.then_ [11,12,13,14,15] .done) (Plan.then_ [5,12,13,14,15] .done))) (Plan.then_ [5,12] (.two 7 13 (Plan.then_ [13,14,15] .done) (Plan.then_ [7,14,15] .done))))))) follows (by kernel_rfl) (fun e17 h17=>e17.n=115∧e17.get 2=.one (.ptr (1,32) 0)∧e17.get 3=.one (.ptr (2,48) 0)∧h17.box (1,32)=some [.d (.int .i64 0),.d (.str ByteArray.empty),.d (.str ByteArray.empty),.d (.str ByteArray.empty),.d (.str ByteArray.empty),.d (.int .i64 0),.nil,.d (.str ByteArray.empty),.d (.int .i64 0),.d (.int .i64 0),.d (.str ByteArray.empty),.d (.str ByteArray.empty),.nil,.nil,.d (.str ByteArray.empty),.d (.int .i64 0),.d (.str ByteArray.empty),.d (.int .i64 0),.d (.int .i64 0),.d (.int .i64 0),.d (.str ByteArray.empty),.d (.str ByteArray.empty),.nil,.d (.str ByteArray.empty)]∧h17.box (2,48)=some [.d (.int .i64 step.kind),.d (.str step.table),.d (.str step.other),.d (.str step.column),.d (.str ByteArray.empty),.d (.int .i64 0),.nil,.d (.str step.op),.d (.int .i64 step.value.kind),.d (.int .i64 step.value.int),.d (.str step.value.text),.d (.str ByteArray.empty),.nil,.nil,.d (.str ByteArray.empty),.d (.int .i64 0),.d (.str ByteArray.empty),.d (.int .i64 0),.d (.int .i64 0),.d (.int .i64 0),.d (.str ByteArray.empty),.d (.str ByteArray.empty),.nil,.d (.str ByteArray.empty)]) ?_ ?_
         ·try simp[*,Plan.then_,vcPlan,planOps,isCallAt,callKind]
          repeat' (first | with_reducible refine And.intro ?_ ?_ | (refine CutK.of ?_;simp[*];done))
         ·rintro e17 h17 ⟨hn17,h17_2,h17_3,hb17_b2,hb17_b3⟩
          try simp[*]
          obtain rfl:=r_ret hm
          exact ret0 (vs:=[_]) (by simp[*];try exact rfl) (by simp[*])
        ·try simp[*]
         refine r_cond hm ?_ ?_<;>clear hm<;>intro hc18 hm
         ·try simp[*]
          refine Wait.cut (Plan.then_ [0,1,2,4] (.two 3 5 (Plan.then_ [5,6,7] .done) (Plan.then_ [3,6,7] .done))) follows (by kernel_rfl) (fun e19 h19=>e19.n=115∧e19.get 2=.one (.ptr (1,32) 0)∧e19.get 3=.one (.ptr (2,48) 0)∧h19.box (1,32)=some [.d (.int .i64 0),.d (.str ByteArray.empty),.d (.str ByteArray.empty),.d (.str ByteArray.empty),.d (.str ByteArray.empty),.d (.int .i64 0),.nil,.d (.str ByteArray.empty),.d (.int .i64 0),.d (.int .i64 0),.d (.str ByteArray.empty),.d (.str ByteArray.empty),.nil,.nil,.d (.str ByteArray.empty),.d (.int .i64 0),.d (.str ByteArray.empty),.d (.int .i64 0),.d (.int .i64 0),.d (.int .i64 0),.d (.str ByteArray.empty),.d (.str ByteArray.empty),.nil,.d (.str ByteArray.empty)]∧h19.box (2,48)=some [.d (.int .i64 step.kind),.d (.str step.table),.d (.str step.other),.d (.str step.column),.d (.str ByteArray.empty),.d (.int .i64 0),.nil,.d (.str ByteArray.empty),.d (.int .i64 0),.d (.int .i64 0),.d (.str ByteArray.empty),.d (.str ByteArray.empty),.nil,.nil,.d (.str ByteArray.empty),.d (.int .i64 0),.d (.str ByteArray.empty),.d (.int .i64 0),.d (.int .i64 0),.d (.int .i64 0),.d (.str ByteArray.empty),.d (.str ByteArray.empty),.nil,.d (.str ByteArray.empty)]) ?_ ?_
          ·try simp[*,Plan.then_,vcPlan,planOps,isCallAt,callKind]
           repeat' (first | with_reducible refine And.intro ?_ ?_ | (refine CutK.of ?_;simp[*];done))
          ·rintro e19 h19 ⟨hn19,h19_2,h19_3,hb19_b2,hb19_b3⟩
           try simp[*]
           obtain rfl:=r_ret hm
           exact ret0 (vs:=[_]) (by simp[*];try exact rfl) (by simp[*])
         ·try simp[*]
          refine r_cond hm ?_ ?_<;>clear hm<;>intro hc20 hm
          ·try simp[*]
           refine Wait.cut (Plan.then_ [0,2] (.two 1 3 (Plan.then_ [3,4,5] .done) (Plan.then_ [1,4,5] .done))) follows (by kernel_rfl) (fun e21 h21=>e21.n=115∧e21.get 2=.one (.ptr (1,32) 0)∧e21.get 3=.one (.ptr (2,48) 0)∧h21.box (1,32)=some [.d (.int .i64 0),.d (.str ByteArray.empty),.d (.str ByteArray.empty),.d (.str ByteArray.empty),.d (.str ByteArray.empty),.d (.int .i64 0),.nil,.d (.str ByteArray.empty),.d (.int .i64 0),.d (.int .i64 0),.d (.str ByteArray.empty),.d (.str ByteArray.empty),.nil,.nil,.d (.str ByteArray.empty),.d (.int .i64 0),.d (.str ByteArray.empty),.d (.int .i64 0),.d (.int .i64 0),.d (.int .i64 0),.d (.str ByteArray.empty),.d (.str ByteArray.empty),.nil,.d (.str ByteArray.empty)]∧h21.box (2,48)=some [.d (.int .i64 step.kind),.d (.str ByteArray.empty),.d (.str ByteArray.empty),.d (.str ByteArray.empty),.d (.str ByteArray.empty),.d (.int .i64 0),.nil,.d (.str ByteArray.empty),.d (.int .i64 0),.d (.int .i64 0),.d (.str ByteArray.empty),.d (.str step.newTable.name),.d (.sl (step.newTable.cols.map Col.enc)),.d (.sl (step.newTable.pk.map encI)),.d (.str ByteArray.empty),.d (.int .i64 0),.d (.str ByteArray.empty),.d (.int .i64 0),.d (.int .i64 0),.d (.int .i64 0),.d (.str ByteArray.empty),.d (.str ByteArray.empty),.nil,.d (.str ByteArray.empty)]) ?_ ?_
           ·try simp[*,Plan.then_,vcPlan,planOps,isCallAt,callKind]
            repeat' (first | with_reducible refine And.intro ?_ ?_ | (refine CutK.of ?_;simp[*];done))
           ·rintro e21 h21 ⟨hn21,h21_2,h21_3,hb21_b2,hb21_b3⟩
            try simp[*]
            obtain rfl:=r_ret hm
            exact ret0 (vs:=[_]) (by simp[*];try exact rfl) (by simp[*])
          ·try simp[*]
           refine r_cond hm ?_ ?_<;>clear hm<;>intro hc22 hm
           ·try simp[*]
            refine Wait.cut (Plan.then_ [0,1,2,4] (.two 3 5 (Plan.then_ [5,6,7] .done) (Plan.then_ [3,6,7] .done))) follows (by kernel_rfl) (fun e23 h23=>e23.n=115∧e23.get 2=.one (.ptr (1,32) 0)∧e23.get 3=.one (.ptr (2,48) 0)∧h23.box (1,32)=some [.d (.int .i64 0),.d (.str ByteArray.empty),.d (.str ByteArray.empty),.d (.str ByteArray.empty),.d (.str ByteArray.empty),.d (.int .i64 0),.nil,.d (.str ByteArray.empty),.d (.int .i64 0),.d (.int .i64 0),.d (.str ByteArray.empty),.d (.str ByteArray.empty),.nil,.nil,.d (.str ByteArray.empty),.d (.int .i64 0),.d (.str ByteArray.empty),.d (.int .i64 0),.d (.int .i64 0),.d (.int .i64 0),.d (.str ByteArray.empty),.d (.str ByteArray.empty),.nil,.d (.str ByteArray.empty)]∧h23.box (2,48)=some [.d (.int .i64 step.kind),.d (.str step.table),.d (.str ByteArray.empty),.d (.str step.column),.d (.str ByteArray.empty),.d (.int .i64 0),.d (.sl (step.cols.map encI)),.d (.str ByteArray.empty),.d (.int .i64 0),.d (.int .i64 0),.d (.str ByteArray.empty),.d (.str ByteArray.empty),.nil,.nil,.d (.str ByteArray.empty),.d (.int .i64 0),.d (.str ByteArray.empty),.d (.int .i64 0),.d (.int .i64 0),.d (.int .i64 0),.d (.str ByteArray.empty),.d (.str ByteArray.empty),.nil,.d (.str ByteArray.empty)]) ?_ ?_
            ·try simp[*,Plan.then_,vcPlan,planOps,isCallAt,callKind]
             repeat' (first | with_reducible refine And.intro ?_ ?_ | (refine CutK.of ?_;simp[*];done))
            ·rintro e23 h23 ⟨hn23,h23_2,h23_3,hb23_b2,hb23_b3⟩
             try simp[*]
             obtain rfl:=r_ret hm
             exact ret0 (vs:=[_]) (by simp[*];try exact rfl) (by simp[*])
           ·try simp[*]
            refine r_cond hm ?_ ?_<;>clear hm<;>intro hc24 hm
            ·try simp[*]
             refine Wait.cut (Plan.then_ [0,2] (.two 1 3 (Plan.then_ [3,4,5] .done) (Plan.then_ [1,4,5] .done))) follows (by kernel_rfl) (fun e25 h25=>e25.n=115∧e25.get 2=.one (.ptr (1,32) 0)∧e25.get 3=.one (.ptr (2,48) 0)∧h25.box (1,32)=some [.d (.int .i64 0),.d (.str ByteArray.empty),.d (.str ByteArray.empty),.d (.str ByteArray.empty),.d (.str ByteArray.empty),.d (.int .i64 0),.nil,.d (.str ByteArray.empty),.d (.int .i64 0),.d (.int .i64 0),.d (.str ByteArray.empty),.d (.str ByteArray.empty),.nil,.nil,.d (.str ByteArray.empty),.d (.int .i64 0),.d (.str ByteArray.empty),.d (.int .i64 0),.d (.int .i64 0),.d (.int .i64 0),.d (.str ByteArray.empty),.d (.str ByteArray.empty),.nil,.d (.str ByteArray.empty)]∧h25.box (2,48)=some [.d (.int .i64 step.kind),.d (.str ByteArray.empty),.d (.str ByteArray.empty),.d (.str ByteArray.empty),.d (.str ByteArray.empty),.d (.int .i64 0),.nil,.d (.str ByteArray.empty),.d (.int .i64 0),.d (.int .i64 0),.d (.str ByteArray.empty),.d (.str ByteArray.empty),.nil,.nil,.d (.str step.cons.table),.d (.int .i64 step.cons.left),.d (.str step.cons.op),.d (.int .i64 step.cons.right),.d (.int .i64 step.cons.value.kind),.d (.int .i64 step.cons.value.int),.d (.str step.cons.value.text),.d (.str ByteArray.empty),.nil,.d (.str ByteArray.empty)]) ?_ ?_
             ·try simp[*,Plan.then_,vcPlan,planOps,isCallAt,callKind]
              repeat' (first | with_reducible refine And.intro ?_ ?_ | (refine CutK.of ?_;simp[*];done))
             ·rintro e25 h25 ⟨hn25,h25_2,h25_3,hb25_b2,hb25_b3⟩
              try simp[*]
              obtain rfl:=r_ret hm
              exact ret0 (vs:=[_]) (by simp[*];try exact rfl) (by simp[*])
            ·try simp[*]
             refine r_cond hm ?_ ?_<;>clear hm<;>intro hc26 hm
             ·try simp[*]
              refine Wait.cut (Plan.then_ [0,2] (.two 1 3 (Plan.then_ [3,4,5] .done) (Plan.then_ [1,4,5] .done))) follows (by kernel_rfl) (fun e27 h27=>e27.n=115∧e27.get 2=.one (.ptr (1,32) 0)∧e27.get 3=.one (.ptr (2,48) 0)∧h27.box (1,32)=some [.d (.int .i64 0),.d (.str ByteArray.empty),.d (.str ByteArray.empty),.d (.str ByteArray.empty),.d (.str ByteArray.empty),.d (.int .i64 0),.nil,.d (.str ByteArray.empty),.d (.int .i64 0),.d (.int .i64 0),.d (.str ByteArray.empty),.d (.str ByteArray.empty),.nil,.nil,.d (.str ByteArray.empty),.d (.int .i64 0),.d (.str ByteArray.empty),.d (.int .i64 0),.d (.int .i64 0),.d (.int .i64 0),.d (.str ByteArray.empty),.d (.str ByteArray.empty),.nil,.d (.str ByteArray.empty)]∧h27.box (2,48)=some [.d (.int .i64 step.kind),.d (.str ByteArray.empty),.d (.str ByteArray.empty),.d (.str ByteArray.empty),.d (.str ByteArray.empty),.d (.int .i64 0),.nil,.d (.str ByteArray.empty),.d (.int .i64 0),.d (.int .i64 0),.d (.str ByteArray.empty),.d (.str ByteArray.empty),.nil,.nil,.d (.str step.cons.table),.d (.int .i64 step.cons.left),.d (.str step.cons.op),.d (.int .i64 step.cons.right),.d (.int .i64 step.cons.value.kind),.d (.int .i64 step.cons.value.int),.d (.str step.cons.value.text),.d (.str ByteArray.empty),.nil,.d (.str ByteArray.empty)]) ?_ ?_
              ·try simp[*,Plan.then_,vcPlan,planOps,isCallAt,callKind]
               repeat' (first | with_reducible refine And.intro ?_ ?_ | (refine CutK.of ?_;simp[*];done))
              ·rintro e27 h27 ⟨hn27,h27_2,h27_3,hb27_b2,hb27_b3⟩
               try simp[*]
               obtain rfl:=r_ret hm
               exact ret0 (vs:=[_]) (by simp[*];try exact rfl) (by simp[*])
             ·try simp[*]
              refine r_cond hm ?_ ?_<;>clear hm<;>intro hc28 hm
              ·try simp[*]
               refine Wait.cut (Plan.then_ [0,2] (.two 1 3 (Plan.then_ [3,4,5] .done) (Plan.then_ [1,4,5] .done))) follows (by kernel_rfl) (fun e29 h29=>e29.n=115∧e29.get 2=.one (.ptr (1,32) 0)∧e29.get 3=.one (.ptr (2,48) 0)∧h29.box (1,32)=some [.d (.int .i64 0),.d (.str ByteArray.empty),.d (.str ByteArray.empty),.d (.str ByteArray.empty),.d (.str ByteArray.empty),.d (.int .i64 0),.nil,.d (.str ByteArray.empty),.d (.int .i64 0),.d (.int .i64 0),.d (.str ByteArray.empty),.d (.str ByteArray.empty),.nil,.nil,.d (.str ByteArray.empty),.d (.int .i64 0),.d (.str ByteArray.empty),.d (.int .i64 0),.d (.int .i64 0),.d (.int .i64 0),.d (.str ByteArray.empty),.d (.str ByteArray.empty),.nil,.d (.str ByteArray.empty)]∧h29.box (2,48)=some [.d (.int .i64 step.kind),.d (.str ByteArray.empty),.d (.str ByteArray.empty),.d (.str ByteArray.empty),.d (.str ByteArray.empty),.d (.int .i64 0),.nil,.d (.str ByteArray.empty),.d (.int .i64 0),.d (.int .i64 0),.d (.str ByteArray.empty),.d (.str ByteArray.empty),.nil,.nil,.d (.str ByteArray.empty),.d (.int .i64 0),.d (.str ByteArray.empty),.d (.int .i64 0),.d (.int .i64 0),.d (.int .i64 0),.d (.str ByteArray.empty),.d (.str step.fk.table),.d (.sl (step.fk.cols.map encI)),.d (.str step.fk.ref)]) ?_ ?_
               ·try simp[*,Plan.then_,vcPlan,planOps,isCallAt,callKind]
                repeat' (first | with_reducible refine And.intro ?_ ?_ | (refine CutK.of ?_;simp[*];done))
               ·rintro e29 h29 ⟨hn29,h29_2,h29_3,hb29_b2,hb29_b3⟩
                try simp[*]
                obtain rfl:=r_ret hm
                exact ret0 (vs:=[_]) (by simp[*];try exact rfl) (by simp[*])
              ·try simp[*]
               refine r_cond hm ?_ ?_<;>clear hm<;>intro hc30 hm
               ·try simp[*]
                refine Wait.cut (Plan.then_ [0,2] (.two 1 3 (Plan.then_ [3,4,5] .done) (Plan.then_ [1,4,5] .done))) follows (by kernel_rfl) (fun e31 h31=>e31.n=115∧e31.get 2=.one (.ptr (1,32) 0)∧e31.get 3=.one (.ptr (2,48) 0)∧h31.box (1,32)=some [.d (.int .i64 0),.d (.str ByteArray.empty),.d (.str ByteArray.empty),.d (.str ByteArray.empty),.d (.str ByteArray.empty),.d (.int .i64 0),.nil,.d (.str ByteArray.empty),.d (.int .i64 0),.d (.int .i64 0),.d (.str ByteArray.empty),.d (.str ByteArray.empty),.nil,.nil,.d (.str ByteArray.empty),.d (.int .i64 0),.d (.str ByteArray.empty),.d (.int .i64 0),.d (.int .i64 0),.d (.int .i64 0),.d (.str ByteArray.empty),.d (.str ByteArray.empty),.nil,.d (.str ByteArray.empty)]∧h31.box (2,48)=some [.d (.int .i64 step.kind),.d (.str ByteArray.empty),.d (.str ByteArray.empty),.d (.str ByteArray.empty),.d (.str ByteArray.empty),.d (.int .i64 0),.nil,.d (.str ByteArray.empty),.d (.int .i64 0),.d (.int .i64 0),.d (.str ByteArray.empty),.d (.str ByteArray.empty),.nil,.nil,.d (.str ByteArray.empty),.d (.int .i64 0),.d (.str ByteArray.empty),.d (.int .i64 0),.d (.int .i64 0),.d (.int .i64 0),.d (.str ByteArray.empty),.d (.str step.fk.table),.d (.sl (step.fk.cols.map encI)),.d (.str step.fk.ref)]) ?_ ?_
                ·try simp[*,Plan.then_,vcPlan,planOps,isCallAt,callKind]
                 repeat' (first | with_reducible refine And.intro ?_ ?_ | (refine CutK.of ?_;simp[*];done))
                ·rintro e31 h31 ⟨hn31,h31_2,h31_3,hb31_b2,hb31_b3⟩
                 try simp[*]
                 obtain rfl:=r_ret hm
                 exact ret0 (vs:=[_]) (by simp[*];try exact rfl) (by simp[*])
               ·try simp[*]
                obtain rfl:=r_ret hm
                exact ret0 (vs:=[_]) (by simp[*];try exact rfl) (by simp[*])
def m_evolution_Validate (step:Stp):Option Int:=
 (bif decide (step.kind < 1) then (some 3) else (bif decide (16 < step.kind) then (some 3) else (bindK (m_evolution_normalized step) fun v4=>(bindK (m_evolution_Equal step v4) fun v5=>(bif !v5 then (some 3) else (some 0))))))
theorem c_evolution_Validate (step:Stp) (r:Int) (hm:Is (m_evolution_Validate step) r):PSpec Tryz.prog 153 [.agg step.enc] (.one (.d (.int .i64 r))):=by
 unfold m_evolution_Validate at hm
 refine PSpec.of_vc Tryz.func153 rfl (by kernel_rfl) (n:=18) rfl rfl (by simp) ?_
 try simp[*]
 refine Wait.of (SWP.draw (Plan.then_ [0,1,2,3,4,5,6,7,8,9,10,11,12,13,14] .done) follows (by kernel_rfl) ?_)
 try simp[*,Plan.then_,vcPlan,planOps,isCallAt,callKind]
 refine r_guardF hm ?_ ?_<;>clear hm<;>intro hc2 hm
 ·try simp[*,Plan.then_,vcPlan,planOps,isCallAt,callKind]
  try refine⟨fun (_:Lab) (_:List C) hl=>hl,?_⟩
  try simp[*,Plan.then_,vcPlan,planOps,isCallAt,callKind]
  try refine⟨fun (_:Lab) (_:List C) hl=>hl,?_⟩
  try simp[*,Plan.then_,vcPlan,planOps,isCallAt,callKind]
  obtain rfl:=r_ret hm
  exact ret0 (vs:=[_]) (by simp[*];try exact rfl) (by simp[*])
 ·try simp[*,Plan.then_,vcPlan,planOps,isCallAt,callKind]
  refine r_guardF hm ?_ ?_<;>clear hm<;>intro hc3 hm
  ·try simp[*,Plan.then_,vcPlan,planOps,isCallAt,callKind]
   try refine⟨fun (_:Lab) (_:List C) hl=>hl,?_⟩
   try simp[*,Plan.then_,vcPlan,planOps,isCallAt,callKind]
   try refine⟨fun (_:Lab) (_:List C) hl=>hl,?_⟩
   try simp[*,Plan.then_,vcPlan,planOps,isCallAt,callKind]
   obtain rfl:=r_ret hm
   exact ret0 (vs:=[_]) (by simp[*];try exact rfl) (by simp[*])
  ·try simp[*,Plan.then_,vcPlan,planOps,isCallAt,callKind]
   refine r_call (av:=[.agg step.enc]) hm (fun v hv=>c_evolution_normalized _ v hv) (by simp[*]) ?_
   clear hm;intro v4 hvv4 hm
   try simp[*,Plan.then_,vcPlan,planOps,isCallAt,callKind]
   try refine⟨fun (_:Lab) (_:List C) hl=>hl,?_⟩
   refine r_call (av:=[.agg step.enc,.agg v4.enc]) hm (fun v hv=>c_evolution_Equal _ _ v hv) (by simp[*]) ?_
   clear hm;intro v5 hvv5 hm
   try simp[*,Plan.then_,vcPlan,planOps,isCallAt,callKind]
   try refine⟨fun (_:Lab) (_:List C) hl=>hl,?_⟩
   refine r_cond hm ?_ ?_<;>clear hm<;>intro hc6 hm
   ·try simp[*]
    obtain rfl:=r_ret hm
    exact ret0 (vs:=[_]) (by simp[*];try exact rfl) (by simp[*])
   ·try simp[*]
    obtain rfl:=r_ret hm
    exact ret0 (vs:=[_]) (by simp[*];try exact rfl) (by simp[*])
end Go.Proofs.YthgepknlibmjcaaGreat
end
section
namespace Go.Proofs.YthgepknlibmjcaaGreat
open Go Go.Am
def schZ:Sch:=⟨[],[],[]⟩
def m_evolution_Apply (S:Sch) (x:Stp):Option (Sch × Int):=
 bindK (m_schema_Validate S) fun e=>bif e != 0 then some (schZ,e) else bindK (m_evolution_Validate x) fun e2=>bif e2 != 0 then some (schZ,e2) else
 chkK (schOK S∧stpOK x) (bindK (m_evolution_apply S x) fun q=>bif q.2 != 0 then some (schZ,q.2) else bindK (m_schema_Validate q.1) fun e3=>bif e3 != 0 then some (schZ,e3) else some (q.1,0))
theorem frz_fin {h:HS} {cs:List C} {S:Sch} {r:Int} (hf:FrzCs h cs S.enc):FrzFin h (.tup [.agg cs,.one (.d (.int .i64 r))]) (.tup [.agg (S.enc.map RC.d),.one (.d (.int .i64 r))]):=by
 match cs,hf with
 | [a,b,c],hf=>exact⟨⟨hf.1,hf.2.1,hf.2.2.1,trivial⟩,Frz.data rfl,trivial⟩
set_option maxHeartbeats 1000000 in
theorem c_evolution_Apply (S:Sch) (x:Stp) (r:Sch × Int) (hm:Is (m_evolution_Apply S x) r):PSpec Tryz.prog 144 [.agg S.enc,.agg x.enc] (.tup [.agg (r.1.enc.map RC.d),.one (.d (.int .i64 r.2))]):=by
 refine PSpec.of_heap ?_
 obtain⟨R,q⟩:=r
 simp only at hm ⊢
 replace hm:=hm.bind
 obtain⟨ev,hev,hm⟩:=hm
 show HSpec _ _ [.agg (S.enc.map C.d),.agg (x.enc.map C.d)] HS.init _
 refine HSpec.good Tryz.func144 rfl (by kernel_rfl) fun hg=>?_
 refine HSpec.of_vc Tryz.func144 rfl (by kernel_rfl) (n:=39) rfl rfl (by simp) ?_
 simp
 refine callK_heap (HSpec.of_lend (c_schema_Validate S ev hev) ⟨.agg (FrzCs.datas (ds:=S.enc)),trivial⟩ rfl ?_)
 simp
 cases hev0:ev != 0 with
 | true=>
   simp only[hev0,cond_true] at hm
   have e1:=r_ret hm
   simp only[Prod.mk.injEq] at e1
   obtain⟨rfl,rfl⟩:=e1
   simp[hev0,retH,resVs,resV,notTup]
   exact frz_fin ⟨.data rfl,.data rfl,.data rfl,trivial⟩
 | false=>
   simp only[hev0,cond_false] at hm
   replace hm:=hm.bind
   obtain⟨e2,he2,hm⟩:=hm
   simp[hev0]
   refine callK_heap (HSpec.of_lend (c_evolution_Validate x e2 he2) ⟨.agg (FrzCs.datas (ds:=x.enc)),trivial⟩ rfl ?_)
   simp
   cases he20:e2 != 0 with
   | true=>
     simp only[he20,cond_true] at hm
     have e1:=r_ret hm
     simp only[Prod.mk.injEq] at e1
     obtain⟨rfl,rfl⟩:=e1
     simp[he20,retH,resVs,resV,notTup]
     exact frz_fin ⟨.data rfl,.data rfl,.data rfl,trivial⟩
   | false=>
     simp only[he20,cond_false] at hm
     replace hm:=hm.chk
     obtain⟨⟨hS,hx⟩,hm⟩:=hm
     replace hm:=hm.bind
     obtain⟨⟨S1,q1⟩,hm1,hm⟩:=hm
     simp only at hm
     simp[he20]
     refine callK_heap (h_schema_Clone _ S hS _ (fun tc fc oc qt qf qo g1 pt pf po nd new hs1=>?_))
     have b4:=hs1.2 (2,64) (by simp) (by simp)
     have b3:=hs1.2 (1,48) (by simp) (by simp)
     have hep1:=hs1.1
     simp at b4 b3 hep1
     simp[b3]
     have hz:Same g1 ((g1.setBox (g1.ep,128) [.nil,.nil,.nil]).next.setBox (g1.ep,128) [tc,fc,oc]) []:=((Same.refl.setBox (.inr (Nat.le_refl _))).next).setBox (.inr (Nat.le_refl _))
     have sB:Sc ((g1.setBox (g1.ep,128) [.nil,.nil,.nil]).next.setBox (g1.ep,128) [tc,fc,oc]) (g1.ep,128) S tc fc oc (plabs tc qt) (plabs fc qf) (plabs oc qo):=by
      refine⟨qt,qf,qo,rfl,rfl,rfl,by simp,pt.frame fun k hk=>hz.2 k (new k (by simp[hk])).2 (by simp),pf.frame fun k hk=>hz.2 k (new k (by simp[hk])).2 (by simp),po.frame fun k hk=>hz.2 k (new k (by simp[hk])).2 (by simp),?_,fun k hk=>?_⟩
      ·rw[List.nodup_cons]
       exact⟨fun hk=>by have:=(new _ hk).2;simp at this,nd⟩
      ·rcases List.mem_cons.1 hk with rfl | hk
       ·simp
       ·have:=(new k hk).2;simp;omega
     have b4B:((g1.setBox (g1.ep,128) [.nil,.nil,.nil]).next.setBox (g1.ep,128) [tc,fc,oc]).box (2,64)=some [.nil,.nil,.nil]:=by simp[b4]
     have hepB:g1.ep < ((g1.setBox (g1.ep,128) [.nil,.nil,.nil]).next.setBox (g1.ep,128) [tc,fc,oc]).ep:=by simp
     have newB:∀ k ∈ (g1.ep,128)::(plabs tc qt++(plabs fc qf++plabs oc qo)),5≤k.1:=fun k hk=>by
      rcases List.mem_cons.1 hk with rfl | hk
      ·exact hep1
      ·have:=(new k hk).1;simpa using this
     refine callK_heap (h_evolution_Clone _ x hx _ (fun cs g2 lx ox ndx nwx hs2 hb2=>?_))
     have s2:=sB.frame hs2
     have b42:g2.box (2,64)=some [.nil,.nil,.nil]:=by rw[hs2.2 _ (by simp;omega) (by simp)];exact b4B
     simp
     refine callK_heap (h_evolution_apply g2 (g1.ep,128) tc fc oc cs _ _ _ lx S S1 x q1 hm1 s2 ox ⟨ndx,fun k hk=>⟨(nwx k hk).2,fun h9=>by have:=sB.lt k h9;have:=(nwx k hk).1;omega⟩⟩ _ ?_)
     intro g3 ls3 ho3 hs3 hl3
     obtain⟨tc3,fc3,oc3,ta3,fa3,oa3,rfl,s3⟩:=ho3.sc
     have b43:g3.box (2,64)=some [.nil,.nil,.nil]:=by
      rw[hs3.2 _ (by have:=hs2.1;simp at this ⊢;omega) fun h9=>?_]
      ·exact b42
      ·simp only[List.mem_cons,List.mem_append] at h9
       rcases h9 with h9 | h9 | h9
       ·simp at h9
       ·have:=newB (2,64) (by simp only[List.mem_cons,List.mem_append];exact .inr h9);simp at this
       ·have:=(nwx _ h9).1;simp at this;omega
     have hb3:=s3.box
     simp
     cases hq0:q1 != 0 with
     | true=>
       simp only[hq0,cond_true] at hm
       have e1:=r_ret hm
       simp only[Prod.mk.injEq] at e1
       obtain⟨rfl,rfl⟩:=e1
       simp[hq0,b43,retH,resVs,resV,notTup]
       exact frz_fin ⟨.data rfl,.data rfl,.data rfl,trivial⟩
     | false=>
       simp only[hq0,cond_false] at hm
       replace hm:=hm.bind
       obtain⟨e3,he3,hm⟩:=hm
       simp[hq0,hb3]
       refine callK_heap (HSpec.of_lend (c_schema_Validate S1 e3 he3) ⟨.agg s3.frz,trivial⟩ rfl ?_)
       simp
       cases he30:e3 != 0 with
       | true=>
         simp only[he30,cond_true] at hm
         have e1:=r_ret hm
         simp only[Prod.mk.injEq] at e1
         obtain⟨rfl,rfl⟩:=e1
         simp[he30,b43,retH,resVs,resV,notTup]
         exact frz_fin ⟨.data rfl,.data rfl,.data rfl,trivial⟩
       | false=>
         simp only[he30,cond_false] at hm
         have e1:=r_ret hm
         simp only[Prod.mk.injEq] at e1
         obtain⟨rfl,rfl⟩:=e1
         simp[he30,b43,hb3,retH,resVs,resV,notTup]
         refine frz_fin ((s3.frame2 (lz:=[(2,64)]) (Same.refl.next.setBox (.inl (by simp))) fun k hk h9=>?_).frz)
         simp at hk
         subst hk
         simp only[List.mem_cons] at h9
         rcases h9 with h9 | h9
         ·simp at h9
         ·rcases hl3 _ h9 with h8 | h8
          ·rcases List.mem_append.1 h8 with h8 | h8
           ·have:=newB (2,64) (List.mem_cons_of_mem _ h8);simp at this
           ·have:=(nwx _ h8).1;simp at this;omega
          ·have:=hs2.1;simp at this h8;omega
end Go.Proofs.YthgepknlibmjcaaGreat
end
section
namespace Go.Proofs.YthgepknlibmjcaaGreat
open Go.Am
def m_slices_Clone_Constraint (s_:List Cons):Option (List Cons):=some s_
theorem c_slices_Clone_Constraint (s_:List Cons) (r:List Cons) (hm:Is (m_slices_Clone_Constraint s_) r):PSpec Tryz.prog 123 [.one (.d (.sl (s_.map Cons.enc)))] (.one (.fresh 0 7 (r.map Cons.enc))):=by
 obtain rfl:=r_ret hm
 refine bound1 ⟨_,Tryz.func123,by kernel_rfl,by kernel_rfl⟩ (fun hl=>?_)
 have hxs:∀ x ∈ s_.map Cons.enc,x.length=7:=by
  intro x hx
  obtain⟨y,_,rfl⟩:=List.mem_map.1 hx
  rfl
 generalize s_.map Cons.enc=xs at *
 refine PSpec.of_vc Tryz.func123 rfl (by kernel_rfl) (n:=8) rfl rfl (by simp) ?_
 simp
 refine nilK_list ty_el24 rfl (xs:=xs) rfl (fun b hb=>?_)
 cases b with
 | true=>
   have:xs=[]:=Classical.byContradiction fun h=>by simpa using hb h
   subst this
   simp
   exact ret_growsV (by simpa using GrowsV.nil)
 | false=>
   simp
   refine emptyK_own (by simp) ?_
   simp
   refine appK_of ty_el24 (Grows.own (by simp) (by simp) (by simp)) rfl (by decide) (by decide) hxs (by simpa using hl) ?_
   simp
   exact ret_growsV (by simpa using GrowsV.app (by simp) (by simp) hxs rfl)
def m_slices_Clone_Int (s_:List Int):Option (List Int):=some s_
theorem c_slices_Clone_Int (s_:List Int) (r:List Int) (hm:Is (m_slices_Clone_Int s_) r):PSpec Tryz.prog 125 [.one (.d (.sl (s_.map encI)))] (.one (.fresh 0 1 (r.map encI))):=by
 obtain rfl:=r_ret hm
 refine bound1 ⟨_,Tryz.func125,by kernel_rfl,by kernel_rfl⟩ (fun hl=>?_)
 have hxs:∀ x ∈ s_.map encI,x.length=1:=by
  intro x hx
  obtain⟨y,_,rfl⟩:=List.mem_map.1 hx
  rfl
 generalize s_.map encI=xs at *
 refine PSpec.of_vc Tryz.func125 rfl (by kernel_rfl) (n:=8) rfl rfl (by simp) ?_
 simp
 refine nilK_list ty_el30 rfl (xs:=xs) rfl (fun b hb=>?_)
 cases b with
 | true=>
   have:xs=[]:=Classical.byContradiction fun h=>by simpa using hb h
   subst this
   simp
   exact ret_growsV (by simpa using GrowsV.nil)
 | false=>
   simp
   refine emptyK_own (by simp) ?_
   simp
   refine appK_of ty_el30 (Grows.own (by simp) (by simp) (by simp)) rfl (by decide) (by decide) hxs (by simpa using hl) ?_
   simp
   exact ret_growsV (by simpa using GrowsV.app (by simp) (by simp) hxs rfl)
def m_slices_Clone_Column (s_:List Col):Option (List Col):=some s_
theorem c_slices_Clone_Column (s_:List Col) (r:List Col) (hm:Is (m_slices_Clone_Column s_) r):PSpec Tryz.prog 143 [.one (.d (.sl (s_.map Col.enc)))] (.one (.fresh 0 3 (r.map Col.enc))):=by
 obtain rfl:=r_ret hm
 refine bound1 ⟨_,Tryz.func143,by kernel_rfl,by kernel_rfl⟩ (fun hl=>?_)
 have hxs:∀ x ∈ s_.map Col.enc,x.length=3:=by
  intro x hx
  obtain⟨y,_,rfl⟩:=List.mem_map.1 hx
  rfl
 generalize s_.map Col.enc=xs at *
 refine PSpec.of_vc Tryz.func143 rfl (by kernel_rfl) (n:=8) rfl rfl (by simp) ?_
 simp
 refine nilK_list ty_el73 rfl (xs:=xs) rfl (fun b hb=>?_)
 cases b with
 | true=>
   have:xs=[]:=Classical.byContradiction fun h=>by simpa using hb h
   subst this
   simp
   exact ret_growsV (by simpa using GrowsV.nil)
 | false=>
   simp
   refine emptyK_own (by simp) ?_
   simp
   refine appK_of ty_el73 (Grows.own (by simp) (by simp) (by simp)) rfl (by decide) (by decide) hxs (by simpa using hl) ?_
   simp
   exact ret_growsV (by simpa using GrowsV.app (by simp) (by simp) hxs rfl)
def m_schema_CloneTable (t:Tbl):Option Tbl:=
 (bindK (m_slices_Clone_Column t.cols) fun v3=>(bindK (m_slices_Clone_Int t.pk) fun v4=>(some (Tbl.mk t.name v3 v4))))
theorem c_schema_CloneTable (t:Tbl) (r:Tbl) (hm:Is (m_schema_CloneTable t) r):PSpec Tryz.prog 124 [.agg t.enc] (.agg (r.enc.map RC.d)):=by
 unfold m_schema_CloneTable at hm
 refine PSpec.of_vc Tryz.func124 rfl (by kernel_rfl) (n:=12) rfl rfl (by simp) ?_
 try simp[*]
 refine Wait.of (SWP.draw (Plan.then_ [0,1,2,3,5,6,4,7,8,9] .done) follows (by kernel_rfl) ?_)
 try simp[*,Plan.then_,vcPlan,planOps,isCallAt,callKind]
 refine r_call (av:=[.one (.d (.sl (t.cols.map Col.enc)))]) hm (fun v hv=>c_slices_Clone_Column _ v hv) (by simp[*]) ?_
 clear hm;intro v3 hvv3 hm
 try simp[*,Plan.then_,vcPlan,planOps,isCallAt,callKind]
 try refine⟨fun (_:Lab) (_:List C) hl=>hl,?_⟩
 refine r_call (av:=[.one (.d (.sl (t.pk.map encI)))]) hm (fun v hv=>c_slices_Clone_Int _ v hv) (by simp[*]) ?_
 clear hm;intro v4 hvv4 hm
 try simp[*,Plan.then_,vcPlan,planOps,isCallAt,callKind]
 try refine⟨fun (_:Lab) (_:List C) hl=>hl,?_⟩
 obtain rfl:=r_ret hm
 exact ret0 (vs:=[_]) (by simp[*];try exact rfl) (by simp[*])
end Go.Proofs.YthgepknlibmjcaaGreat
end
