/- joined by a program out of 58 texts -/
import Derived.Test.YthiojhcimecdgaaGreatDoorJ4
set_option linter.unusedVariables false
set_option linter.unusedSimpArgs false
set_option maxRecDepth 20000
section
namespace Go.Proofs.YthiojhcimecdgaaGreatDoor
open Go.Am
set_option maxRecDepth 20000
def m_schema_validateForeignKey (s_:Sch) (fk:Fk):Option Int:=
 (bindK (m_schema_FindTable s_ fk.table) fun v3=>(bindK (m_schema_FindTable s_ fk.ref) fun v4=>(bif !v3.2 then (some 4) else (bif !v4.2 then (some 4) else (getK s_.tables v3.1 fun x7=>(getK s_.tables v4.1 fun x8=>(bif ((fk.cols.length:Int) != (x8.pk.length:Int)) then (some 3) else (forK (fun (i34:Nat) (x34:Int) (s34:Unit) next_34=>(bif decide (x34 < 0) then (some 3) else (bif decide ((x7.cols.length:Int)≤x34) then (some 3) else (getK x7.cols x34 fun x38=>(getK x8.pk (i34:Int) fun x39=>(getK x8.cols x39 fun x40=>(bif (x38.kind != x40.kind) then (some 7) else (next_34 ())))))))) (fun (s34:Unit)=>(some 0)) fk.cols 0 ()))))))))
theorem c_schema_validateForeignKey (s_:Sch) (fk:Fk) (r:Int) (hm:Is (m_schema_validateForeignKey s_ fk) r):PSpec Tryz.prog 86 [.agg s_.enc,.agg fk.enc] (.one (.d (.int .i64 r))):=by
 unfold m_schema_validateForeignKey at hm
 refine PSpec.of_vc Tryz.func86 rfl (by kernel_rfl) (n:=85) rfl rfl (by simp) ?_
 try simp[*]
 refine r_call (av:=[.agg s_.enc,.one (.d (.str fk.table))]) hm (fun v hv=>c_schema_FindTable _ _ v hv) (by simp[*]) ?_
 clear hm;intro v3 hvv3 hm
 try simp[*]
 refine r_call (av:=[.agg s_.enc,.one (.d (.str fk.ref))]) hm (fun v hv=>c_schema_FindTable _ _ v hv) (by simp[*]) ?_
 clear hm;intro v4 hvv4 hm
 try simp[*]
 refine r_guardF hm ?_ ?_<;>clear hm<;>intro hc5 hm
 ·try simp[*]
  obtain rfl:=r_ret hm
  exact ret0 (vs:=[_]) (by simp[*];try exact rfl) (by simp[*])
 ·try simp[*]
  refine r_cond hm ?_ ?_<;>clear hm<;>intro hc6 hm
  ·try simp[*]
   obtain rfl:=r_ret hm
   exact ret0 (vs:=[_]) (by simp[*];try exact rfl) (by simp[*])
  ·try simp[*]
   replace hm:=hm.get
   obtain⟨x7,h0x7,hxx7,hm⟩:=hm
   replace hm:=hm.get
   obtain⟨x8,h0x8,hxx8,hm⟩:=hm
   refine Wait.cut (Plan.then_ [0,1,2,3,4,5,7] (.three 6 10 11 (Plan.then_ [8] (.three 9 10 11 (Plan.then_ [] (.two 10 11 (Plan.then_ [11,12,13] .done) (Plan.then_ [10,12,13] .done))) (Plan.then_ [] (.two 9 11 (Plan.then_ [11,12,13] .done) (Plan.then_ [] (.two 9 12 (Plan.then_ [12,13] .done) (Plan.then_ [9,13] .done))))) (Plan.then_ [] (.two 9 10 (Plan.then_ [10,12,13] .done) (Plan.then_ [] (.two 9 12 (Plan.then_ [12,13] .done) (Plan.then_ [9,13] .done))))))) (Plan.then_ [] (.two 6 11 (Plan.then_ [8] (.two 9 11 (Plan.then_ [11,12,13] .done) (Plan.then_ [] (.two 9 12 (Plan.then_ [12,13] .done) (Plan.then_ [9,13] .done))))) (Plan.then_ [] (.two 6 12 (Plan.then_ [8] (.two 9 12 (Plan.then_ [12,13] .done) (Plan.then_ [9,13] .done))) (Plan.then_ [6,8,9,13] .done))))) (Plan.then_ [] (.two 6 10 (Plan.then_ [8] (.two 9 10 (Plan.then_ [10,12,13] .done) (Plan.then_ [] (.two 9 12 (Plan.then_ [12,13] .done) (Plan.then_ [9,13] .done))))) (Plan.then_ [] (.two 6 12 (Plan.then_ [8] (.two 9 12 (Plan.then_ [12,13] .done) (Plan.then_ [9,13] .done))) (Plan.then_ [6,8,9,13] .done))))))) follows (by kernel_rfl) (fun e11 h11=>∃ n11_b9 n11_b10:Nat,e11.n=85∧e11.get 3=.one (.ptr (1,48) 0)∧e11.get 9=.one (.ptr (n11_b9,144) 0)∧e11.get 10=.one (.ptr (n11_b10,160) 0)∧h11.box (1,48)=some [.d (.str fk.table),.d (.sl (fk.cols.map encI)),.d (.str fk.ref)]∧h11.box (n11_b9,144)=some [.d (.str x7.name),.d (.sl (x7.cols.map Col.enc)),.d (.sl (x7.pk.map encI))]∧h11.box (n11_b10,160)=some [.d (.str x8.name),.d (.sl (x8.cols.map Col.enc)),.d (.sl (x8.pk.map encI))]) ?_ ?_
   ·try simp[*,Plan.then_,vcPlan,planOps,isCallAt,callKind]
    repeat' (first | with_reducible refine And.intro ?_ ?_ | (refine CutK.of ⟨4,5,?_⟩;(simp (maxDischargeDepth:=20) [*]);done) | (refine CutK.of ⟨5,4,?_⟩;(simp (maxDischargeDepth:=20) [*]);done))
   ·rintro e11 h11 ⟨n11_b9,n11_b10,hn11,h11_3,h11_9,h11_10,hb11_b2,hb11_b9,hb11_b10⟩
    try simp[*]
    intro hl30
    replace hl30:fk.cols.length≤2097152:=by simpa using hl30
    intro hl31
    replace hl31:x8.pk.length≤2097152:=by simpa using hl31
    refine r_cond hm ?_ ?_<;>clear hm<;>intro hc32 hm
    ·try simp[*]
     obtain rfl:=r_ret hm
     exact ret0 (vs:=[_]) (by simp[*];try exact rfl) (by simp[*])
    ·try simp[*]
     refine Wait.for (xs:=fk.cols) (s0:=()) (fun i34 s34 e34 h34=>e34.n=85∧e34.get 9=.one (.ptr (n11_b9,144) 0)∧e34.get 10=.one (.ptr (n11_b10,160) 0)∧e34.get 51=.one (.d (.sl (fk.cols.map encI)))∧e34.get 52=.one (.d (.int .i64 (fk.cols.length:Int)))∧e34.get 53=.one (.d (.int .i64 (i34:Int)))∧h34.box (n11_b9,144)=some [.d (.str x7.name),.d (.sl (x7.cols.map Col.enc)),.d (.sl (x7.pk.map encI))]∧h34.box (n11_b10,160)=some [.d (.str x8.name),.d (.sl (x8.cols.map Col.enc)),.d (.sl (x8.pk.map encI))]) hm (by simp[*]) ?_ ?_
     ·rintro i34 s34 e34 h34 ⟨hn34,h34_9,h34_10,h34_51,h34_52,h34_53,hb34_b9,hb34_b10⟩ hlt34 hm
      have hw34:IntKind.i64.wrap ((i34:Int)+1)=(i34:Int)+1:=IntWalk.i64_in _ (by omega)
      try simp[*]
      refine r_guardF hm ?_ ?_<;>clear hm<;>intro hc35 hm
      ·try simp[*]
       obtain rfl:=r_ret hm
       exact ret0 (vs:=[_]) (by simp[*];try exact rfl) (by simp[*])
      ·try simp[*]
       intro hl36
       replace hl36:x7.cols.length≤2097152:=by simpa using hl36
       refine r_cond hm ?_ ?_<;>clear hm<;>intro hc37 hm
       ·try simp[*]
        obtain rfl:=r_ret hm
        exact ret0 (vs:=[_]) (by simp[*];try exact rfl) (by simp[*])
       ·try simp[*]
        refine Wait.of (SWP.draw (Plan.then_ [0,1,2,3,4,5,6,7,8,9,10,11,12,13,14,15,16] .done) follows (by kernel_rfl) ?_)
        try simp[*,Plan.then_,vcPlan,planOps,isCallAt,callKind]
        replace hm:=hm.get
        obtain⟨x38,h0x38,hxx38,hm⟩:=hm
        try simp[*,Plan.then_,vcPlan,planOps,isCallAt,callKind]
        replace hm:=hm.getN
        obtain⟨x39,hxx39,hm⟩:=hm
        try simp[*,Plan.then_,vcPlan,planOps,isCallAt,callKind]
        replace hm:=hm.get
        obtain⟨x40,h0x40,hxx40,hm⟩:=hm
        try simp[*,Plan.then_,vcPlan,planOps,isCallAt,callKind]
        refine r_cond hm ?_ ?_<;>clear hm<;>intro hc41 hm
        ·try simp[*]
         obtain rfl:=r_ret hm
         exact ret0 (vs:=[_]) (by simp[*];try exact rfl) (by simp[*])
        ·try simp[*]
         exact BackF.of () ⟨(by simp[*]),hm⟩
     ·rintro s34 e34 h34 ⟨hn34,h34_9,h34_10,h34_51,h34_52,h34_53,hb34_b9,hb34_b10⟩ hm
      try simp[*]
      obtain rfl:=r_ret hm
      exact ret0 (vs:=[_]) (by simp[*];try exact rfl) (by simp[*])
instance i_schema_validateForeignKey (s_:Sch) (fk:Fk):Con (m_schema_validateForeignKey s_ fk) Tryz.prog 86 [.agg s_.enc,.agg fk.enc] (fun r=>.one (.d (.int .i64 r))):=⟨fun r hm=>c_schema_validateForeignKey s_ fk r hm⟩
set_option maxRecDepth 20000
def m_schema_Validate_1 (other:Fk) (k0:Fk):Option Bool:=
 (bindK (m_schema_EqualForeignKeys other k0) fun v2=>(some v2))
instance c_schema_Validate_1 (other:Fk) (k0:Fk):Con (m_schema_Validate_1 other k0) Tryz.prog 88 [.agg other.enc,.one (.rp [.str k0.table,.sl (k0.cols.map encI),.str k0.ref])] (fun r=>.one (.d (.bool r))):=by
 unfold m_schema_Validate_1
 exact go 7 Tryz.func88 rfl (by kernel_rfl) rfl rfl (by simp)
instance f_schema_Validate_1 (k0:Fk):ConF (fun x=>m_schema_Validate_1 x k0) Tryz.prog (fun x=>.agg x.enc) (fun r=>.one (.d (.bool r))) 88 [[.str k0.table,.sl (k0.cols.map encI),.str k0.ref]]:=⟨fun x=>(c_schema_Validate_1 x k0)⟩
set_option maxRecDepth 20000
def m_schema_validateConstraint (s_:Sch) (c:Cons):Option Int:=
 (bindK (m_schema_FindTable s_ c.table) fun v3=>(bif !v3.2 then (some 4) else (getK s_.tables v3.1 fun x5=>(bindK (m_value_Satisfies (GV.mk 0 0 ByteArray.empty) c.op (GV.mk 0 0 ByteArray.empty)) fun v6=>(bif decide (c.left < 0) then (some 3) else (bif decide ((x5.cols.length:Int)≤c.left) then (some 3) else (bif (v6.2 != 0) then (some 3) else (bif decide (c.right < (-1)) then (some 3) else (bif decide ((x5.cols.length:Int)≤c.right) then (some 3) else (bif decide (0≤c.right) then (bif (!(c.value.kind == 0) || (!(c.value.int == 0) || (!(c.value.text == ByteArray.empty)))) then (some 3) else (getK x5.cols c.left fun x16=>(getK x5.cols c.right fun x17=>(bif (x16.kind != x17.kind) then (some 7) else (some 0))))) else (getK x5.cols c.left fun x19=>(bif (c.value.kind != x19.kind) then (some 7) else (bindK (m_value_Validate c.value) fun v21=>(some v21))))))))))))))
instance c_schema_validateConstraint (s_:Sch) (c:Cons):Con (m_schema_validateConstraint s_ c) Tryz.prog 90 [.agg s_.enc,.agg c.enc] (fun r=>.one (.d (.int .i64 r))):=by
 unfold m_schema_validateConstraint
 have p1:PH [9] (Plan.then_ [0,1,2,3,4,5,6,7,8,9,10,11,12] .done):=.intro
 have p2:PH [12] (Plan.then_ [0,1,2,3,4,5,6,7,8,9] .done):=.intro
 exact go 99 Tryz.func90 rfl (by kernel_rfl) rfl rfl (by simp)
set_option maxRecDepth 20000
def m_slices_Contains_Constraint (s_:List Cons) (v_:Cons):Option Bool:=
 (bindK (m_slices_Index_Constraint s_ v_) fun v2=>(some (decide (0≤v2))))
instance c_slices_Contains_Constraint (s_:List Cons) (v_:Cons):Con (m_slices_Contains_Constraint s_ v_) Tryz.prog 91 [.one (.d (.sl (s_.map Cons.enc))),.agg v_.enc] (fun r=>.one (.d (.bool r))):=by
 unfold m_slices_Contains_Constraint
 exact go 9 Tryz.func91 rfl (by kernel_rfl) rfl rfl (by simp)
set_option maxRecDepth 20000
def m_schema_Validate (s_:Sch):Option Int:=
 (bif decide (6 < (s_.tables.length:Int)) then (some 2) else (bif decide (8 < (s_.fks.length:Int)) then (some 2) else (bif decide (8 < (s_.cons.length:Int)) then (some 2) else (forK (fun (i9:Nat) (x9:Tbl) (s9:Unit) next_9=>(bindK (m_schema_ValidateTable x9) fun v11=>(bif (v11 != 0) then (some v11) else (bif decide (0 < i9) then (chkK (okI ((i9:Int) - 1)) (getK s_.tables ((i9:Int) - 1) fun x15=>(bif (strLess x9.name x15.name || strEq x9.name x15.name) then (some 6) else (next_9 ())))) else (next_9 ()))))) (fun (s9:Unit)=>(forK (fun (i18:Nat) (x18:Fk) (s18:Unit) next_18=>(bindK (m_schema_validateForeignKey s_ x18) fun v20=>(bif (v20 != 0) then (some v20) else (chkK (0≤0∧0≤(i18:Int)∧(i18:Int)≤(s_.fks.length:Int)) (bindK (m_slices_ContainsFunc_Foreignkey ((s_.fks.take i18).drop 0) (fun xa_=>m_schema_Validate_1 xa_ x18)) fun v23=>(bif v23 then (some 5) else (next_18 ()))))))) (fun (s18:Unit)=>(forK (fun (i26:Nat) (x26:Cons) (s26:Unit) next_26=>(bindK (m_schema_validateConstraint s_ x26) fun v28=>(bif (v28 != 0) then (some v28) else (chkK (0≤0∧0≤(i26:Int)∧(i26:Int)≤(s_.cons.length:Int)) (bindK (m_slices_Contains_Constraint ((s_.cons.take i26).drop 0) x26) fun v31=>(bif v31 then (some 5) else (next_26 ()))))))) (fun (s26:Unit)=>(some 0)) s_.cons 0 ())) s_.fks 0 ())) s_.tables 0 ()))))
instance c_schema_Validate (s_:Sch):Con (m_schema_Validate s_) Tryz.prog 66 [.agg s_.enc] (fun r=>.one (.d (.int .i64 r))):=by
 unfold m_schema_Validate
 have l1:LH (σ:=Unit) 31 [1,29,30] []:=.intro
 have l2:LH (σ:=Unit) 59 [1,57,58] []:=.intro
 have l3:LH (σ:=Unit) 80 [1,78,79] []:=.intro
 have p1:PH [9] (Plan.then_ [0,1,2,3,4,5,6,7,8,9,10,11,12,13] .done):=.intro
 have p2:PH [27] (Plan.then_ [0,1,2,3,4,5] .done):=.intro
 exact go 98 Tryz.func66 rfl (by kernel_rfl) rfl rfl (by simp)
set_option maxRecDepth 20000
def m_schema_equalTables (a:Tbl) (b:Tbl):Option Bool:=
 (bif strEq a.name b.name then (bindK (m_slices_Equal_Column a.cols b.cols) fun v4=>(bif v4 then (bindK (m_slices_Equal_Int a.pk b.pk) fun v6=>(some v6)) else (some false))) else (some false))
instance c_schema_equalTables (a:Tbl) (b:Tbl):Con (m_schema_equalTables a b) Tryz.prog 202 [.agg a.enc,.agg b.enc] (fun r=>.one (.d (.bool r))):=by
 unfold m_schema_equalTables
 exact go 24 Tryz.func202 rfl (by kernel_rfl) rfl rfl (by simp)
set_option maxRecDepth 20000
def m_schema_EqualTables (a:Tbl) (b:Tbl):Option Bool:=
 (bindK (m_schema_equalTables a b) fun v3=>(some v3))
instance c_schema_EqualTables (a:Tbl) (b:Tbl):Con (m_schema_EqualTables a b) Tryz.prog 174 [.agg a.enc,.agg b.enc] (fun r=>.one (.d (.bool r))):=by
 unfold m_schema_EqualTables
 exact go 8 Tryz.func174 rfl (by kernel_rfl) rfl rfl (by simp)
set_option maxRecDepth 20000
def m_evolution_Equal (a:Stp) (b:Stp):Option Bool:=
 (bif (a.kind == b.kind) then (bif strEq a.table b.table then (bif strEq a.other b.other then (bif strEq a.column b.column then (bif strEq a.newName b.newName then (bif (a.type == b.type) then (bindK (m_slices_Equal_Int a.cols b.cols) fun v9=>(bif v9 then (bif strEq a.op b.op then (bif (a.value.kind == b.value.kind && (a.value.int == b.value.int && (a.value.text == b.value.text))) then (bindK (m_schema_EqualTables a.newTable b.newTable) fun v13=>(bif v13 then (bif (a.cons.table == b.cons.table && (a.cons.left == b.cons.left && (a.cons.op == b.cons.op && (a.cons.right == b.cons.right && (a.cons.value.kind == b.cons.value.kind && (a.cons.value.int == b.cons.value.int && (a.cons.value.text == b.cons.value.text))))))) then (bindK (m_schema_EqualForeignKeys a.fk b.fk) fun v16=>(some v16)) else (some false)) else (some false))) else (some false)) else (some false)) else (some false))) else (some false)) else (some false)) else (some false)) else (some false)) else (some false)) else (some false))
instance c_evolution_Equal (a:Stp) (b:Stp):Con (m_evolution_Equal a b) Tryz.prog 154 [.agg a.enc,.agg b.enc] (fun r=>.one (.d (.bool r))):=by
 unfold m_evolution_Equal
 exact go 87 Tryz.func154 rfl (by kernel_rfl) rfl rfl (by simp)
set_option maxRecDepth 20000
def m_evolution_normalized (step:Stp):Option Stp:=
 (bif (step.kind == 1) then (some (Stp.mk step.kind step.table ByteArray.empty step.column ByteArray.empty step.type [] ByteArray.empty step.value (Tbl.mk ByteArray.empty [] []) (Cons.mk ByteArray.empty 0 ByteArray.empty 0 (GV.mk 0 0 ByteArray.empty)) (Fk.mk ByteArray.empty [] ByteArray.empty))) else (bif (step.kind == 2) then (some (Stp.mk step.kind step.table ByteArray.empty step.column ByteArray.empty 0 [] ByteArray.empty step.value (Tbl.mk ByteArray.empty [] []) (Cons.mk ByteArray.empty 0 ByteArray.empty 0 (GV.mk 0 0 ByteArray.empty)) (Fk.mk ByteArray.empty [] ByteArray.empty))) else (bif (step.kind == 3) then (some (Stp.mk step.kind step.table ByteArray.empty step.column step.newName 0 [] ByteArray.empty (GV.mk 0 0 ByteArray.empty) (Tbl.mk ByteArray.empty [] []) (Cons.mk ByteArray.empty 0 ByteArray.empty 0 (GV.mk 0 0 ByteArray.empty)) (Fk.mk ByteArray.empty [] ByteArray.empty))) else (bif (step.kind == 4) then (some (Stp.mk step.kind step.table ByteArray.empty ByteArray.empty step.newName 0 [] ByteArray.empty (GV.mk 0 0 ByteArray.empty) (Tbl.mk ByteArray.empty [] []) (Cons.mk ByteArray.empty 0 ByteArray.empty 0 (GV.mk 0 0 ByteArray.empty)) (Fk.mk ByteArray.empty [] ByteArray.empty))) else (bif (step.kind == 5) then (some (Stp.mk step.kind step.table ByteArray.empty step.column ByteArray.empty step.type [] ByteArray.empty (GV.mk 0 0 ByteArray.empty) (Tbl.mk ByteArray.empty [] []) (Cons.mk ByteArray.empty 0 ByteArray.empty 0 (GV.mk 0 0 ByteArray.empty)) (Fk.mk ByteArray.empty [] ByteArray.empty))) else (bif (step.kind == 6) then (some (Stp.mk step.kind step.table step.other ByteArray.empty ByteArray.empty 0 step.cols ByteArray.empty (GV.mk 0 0 ByteArray.empty) (Tbl.mk ByteArray.empty [] []) (Cons.mk ByteArray.empty 0 ByteArray.empty 0 (GV.mk 0 0 ByteArray.empty)) (Fk.mk ByteArray.empty [] ByteArray.empty))) else (bif (step.kind == 7) then (some (Stp.mk step.kind step.table step.other ByteArray.empty ByteArray.empty 0 [] ByteArray.empty (GV.mk 0 0 ByteArray.empty) (Tbl.mk ByteArray.empty [] []) (Cons.mk ByteArray.empty 0 ByteArray.empty 0 (GV.mk 0 0 ByteArray.empty)) (Fk.mk ByteArray.empty [] ByteArray.empty))) else (bif (step.kind == 8) then (some (Stp.mk step.kind step.table step.other step.column ByteArray.empty 0 [] step.op step.value (Tbl.mk ByteArray.empty [] []) (Cons.mk ByteArray.empty 0 ByteArray.empty 0 (GV.mk 0 0 ByteArray.empty)) (Fk.mk ByteArray.empty [] ByteArray.empty))) else (bif (step.kind == 9) then (some (Stp.mk step.kind step.table step.other step.column ByteArray.empty 0 [] ByteArray.empty (GV.mk 0 0 ByteArray.empty) (Tbl.mk ByteArray.empty [] []) (Cons.mk ByteArray.empty 0 ByteArray.empty 0 (GV.mk 0 0 ByteArray.empty)) (Fk.mk ByteArray.empty [] ByteArray.empty))) else (bif (step.kind == 10) then (some (Stp.mk step.kind ByteArray.empty ByteArray.empty ByteArray.empty ByteArray.empty 0 [] ByteArray.empty (GV.mk 0 0 ByteArray.empty) step.newTable (Cons.mk ByteArray.empty 0 ByteArray.empty 0 (GV.mk 0 0 ByteArray.empty)) (Fk.mk ByteArray.empty [] ByteArray.empty))) else (bif (step.kind == 12) then (some (Stp.mk step.kind step.table ByteArray.empty step.column ByteArray.empty 0 step.cols ByteArray.empty (GV.mk 0 0 ByteArray.empty) (Tbl.mk ByteArray.empty [] []) (Cons.mk ByteArray.empty 0 ByteArray.empty 0 (GV.mk 0 0 ByteArray.empty)) (Fk.mk ByteArray.empty [] ByteArray.empty))) else (bif (step.kind == 13) then (some (Stp.mk step.kind ByteArray.empty ByteArray.empty ByteArray.empty ByteArray.empty 0 [] ByteArray.empty (GV.mk 0 0 ByteArray.empty) (Tbl.mk ByteArray.empty [] []) step.cons (Fk.mk ByteArray.empty [] ByteArray.empty))) else (bif (step.kind == 14) then (some (Stp.mk step.kind ByteArray.empty ByteArray.empty ByteArray.empty ByteArray.empty 0 [] ByteArray.empty (GV.mk 0 0 ByteArray.empty) (Tbl.mk ByteArray.empty [] []) step.cons (Fk.mk ByteArray.empty [] ByteArray.empty))) else (bif (step.kind == 15) then (some (Stp.mk step.kind ByteArray.empty ByteArray.empty ByteArray.empty ByteArray.empty 0 [] ByteArray.empty (GV.mk 0 0 ByteArray.empty) (Tbl.mk ByteArray.empty [] []) (Cons.mk ByteArray.empty 0 ByteArray.empty 0 (GV.mk 0 0 ByteArray.empty)) step.fk)) else (bif (step.kind == 16) then (some (Stp.mk step.kind ByteArray.empty ByteArray.empty ByteArray.empty ByteArray.empty 0 [] ByteArray.empty (GV.mk 0 0 ByteArray.empty) (Tbl.mk ByteArray.empty [] []) (Cons.mk ByteArray.empty 0 ByteArray.empty 0 (GV.mk 0 0 ByteArray.empty)) step.fk)) else (some (Stp.mk step.kind step.table ByteArray.empty ByteArray.empty ByteArray.empty 0 [] ByteArray.empty (GV.mk 0 0 ByteArray.empty) (Tbl.mk ByteArray.empty [] []) (Cons.mk ByteArray.empty 0 ByteArray.empty 0 (GV.mk 0 0 ByteArray.empty)) (Fk.mk ByteArray.empty [] ByteArray.empty))))))))))))))))))
theorem c_evolution_normalized (step:Stp) (r:Stp) (hm:Is (m_evolution_normalized step) r):PSpec Tryz.prog 155 [.agg step.enc] (.agg (r.enc.map RC.d)):=by
 unfold m_evolution_normalized at hm
 refine PSpec.of_vc Tryz.func155 rfl (by kernel_rfl) (n:=115) rfl rfl (by simp) ?_
 try simp[*]
 refine r_cond hm ?_ ?_<;>clear hm<;>intro hc4 hm
 ·try simp[*]
  refine Wait.cut (Plan.then_ [0,1,2,4,6] (.three 3 5 7 (Plan.then_ [] (.two 5 7 (Plan.then_ [7,8,9,10,11] .done) (Plan.then_ [8] (.two 5 9 (Plan.then_ [9,10,11] .done) (Plan.then_ [5,10,11] .done))))) (Plan.then_ [] (.two 3 7 (Plan.then_ [7,8,9,10,11] .done) (Plan.then_ [3,8,9,10,11] .done))) (Plan.then_ [3,8] (.two 5 9 (Plan.then_ [9,10,11] .done) (Plan.then_ [5,10,11] .done))))) follows (by kernel_rfl) (fun e5 h5=>e5.n=115∧e5.get 2=.one (.ptr (1,32) 0)∧e5.get 3=.one (.ptr (2,48) 0)∧h5.box (1,32)=some [.d (.int .i64 0),.d (.str ByteArray.empty),.d (.str ByteArray.empty),.d (.str ByteArray.empty),.d (.str ByteArray.empty),.d (.int .i64 0),.nil,.d (.str ByteArray.empty),.d (.int .i64 0),.d (.int .i64 0),.d (.str ByteArray.empty),.d (.str ByteArray.empty),.nil,.nil,.d (.str ByteArray.empty),.d (.int .i64 0),.d (.str ByteArray.empty),.d (.int .i64 0),.d (.int .i64 0),.d (.int .i64 0),.d (.str ByteArray.empty),.d (.str ByteArray.empty),.nil,.d (.str ByteArray.empty)]∧h5.box (2,48)=some [.d (.int .i64 step.kind),.d (.str step.table),.d (.str ByteArray.empty),.d (.str step.column),.d (.str ByteArray.empty),.d (.int .i64 step.type),.nil,.d (.str ByteArray.empty),.d (.int .i64 step.value.kind),.d (.int .i64 step.value.int),.d (.str step.value.text),.d (.str ByteArray.empty),.nil,.nil,.d (.str ByteArray.empty),.d (.int .i64 0),.d (.str ByteArray.empty),.d (.int .i64 0),.d (.int .i64 0),.d (.int .i64 0),.d (.str ByteArray.empty),.d (.str ByteArray.empty),.nil,.d (.str ByteArray.empty)]) ?_ ?_
  ·try simp[*,Plan.then_,vcPlan,planOps,isCallAt,callKind]
   repeat' (first | with_reducible refine And.intro ?_ ?_ | (refine CutK.of ?_;simp[*];done))
  ·rintro e5 h5 ⟨hn5,h5_2,h5_3,hb5_b2,hb5_b3⟩
   try simp[*]
   obtain rfl:=r_ret hm
   exact ret0 (vs:=[_]) (by simp[*];try exact rfl) (by simp[*])
 ·try simp[*]
  refine r_cond hm ?_ ?_<;>clear hm<;>intro hc6 hm
  ·try simp[*]
   refine Wait.cut (Plan.then_ [0,1,2,4] (.two 3 5 (Plan.then_ [5,6,7] .done) (Plan.then_ [3,6,7] .done))) follows (by kernel_rfl) (fun e7 h7=>e7.n=115∧e7.get 2=.one (.ptr (1,32) 0)∧e7.get 3=.one (.ptr (2,48) 0)∧h7.box (1,32)=some [.d (.int .i64 0),.d (.str ByteArray.empty),.d (.str ByteArray.empty),.d (.str ByteArray.empty),.d (.str ByteArray.empty),.d (.int .i64 0),.nil,.d (.str ByteArray.empty),.d (.int .i64 0),.d (.int .i64 0),.d (.str ByteArray.empty),.d (.str ByteArray.empty),.nil,.nil,.d (.str ByteArray.empty),.d (.int .i64 0),.d (.str ByteArray.empty),.d (.int .i64 0),.d (.int .i64 0),.d (.int .i64 0),.d (.str ByteArray.empty),.d (.str ByteArray.empty),.nil,.d (.str ByteArray.empty)]∧h7.box (2,48)=some [.d (.int .i64 step.kind),.d (.str step.table),.d (.str ByteArray.empty),.d (.str step.column),.d (.str ByteArray.empty),.d (.int .i64 0),.nil,.d (.str ByteArray.empty),.d (.int .i64 step.value.kind),.d (.int .i64 step.value.int),.d (.str step.value.text),.d (.str ByteArray.empty),.nil,.nil,.d (.str ByteArray.empty),.d (.int .i64 0),.d (.str ByteArray.empty),.d (.int .i64 0),.d (.int .i64 0),.d (.int .i64 0),.d (.str ByteArray.empty),.d (.str ByteArray.empty),.nil,.d (.str ByteArray.empty)]) ?_ ?_
   ·try simp[*,Plan.then_,vcPlan,planOps,isCallAt,callKind]
    repeat' (first | with_reducible refine And.intro ?_ ?_ | (refine CutK.of ?_;simp[*];done))
   ·rintro e7 h7 ⟨hn7,h7_2,h7_3,hb7_b2,hb7_b3⟩
    try simp[*]
    obtain rfl:=r_ret hm
    exact ret0 (vs:=[_]) (by simp[*];try exact rfl) (by simp[*])
  ·try simp[*]
   refine r_cond hm ?_ ?_<;>clear hm<;>intro hc8 hm
   ·try simp[*]
    refine Wait.cut (Plan.then_ [0,1,2,4] (.two 3 5 (Plan.then_ [5,6,7] .done) (Plan.then_ [3,6,7] .done))) follows (by kernel_rfl) (fun e9 h9=>e9.n=115∧e9.get 2=.one (.ptr (1,32) 0)∧e9.get 3=.one (.ptr (2,48) 0)∧h9.box (1,32)=some [.d (.int .i64 0),.d (.str ByteArray.empty),.d (.str ByteArray.empty),.d (.str ByteArray.empty),.d (.str ByteArray.empty),.d (.int .i64 0),.nil,.d (.str ByteArray.empty),.d (.int .i64 0),.d (.int .i64 0),.d (.str ByteArray.empty),.d (.str ByteArray.empty),.nil,.nil,.d (.str ByteArray.empty),.d (.int .i64 0),.d (.str ByteArray.empty),.d (.int .i64 0),.d (.int .i64 0),.d (.int .i64 0),.d (.str ByteArray.empty),.d (.str ByteArray.empty),.nil,.d (.str ByteArray.empty)]∧h9.box (2,48)=some [.d (.int .i64 step.kind),.d (.str step.table),.d (.str ByteArray.empty),.d (.str step.column),.d (.str step.newName),.d (.int .i64 0),.nil,.d (.str ByteArray.empty),.d (.int .i64 0),.d (.int .i64 0),.d (.str ByteArray.empty),.d (.str ByteArray.empty),.nil,.nil,.d (.str ByteArray.empty),.d (.int .i64 0),.d (.str ByteArray.empty),.d (.int .i64 0),.d (.int .i64 0),.d (.int .i64 0),.d (.str ByteArray.empty),.d (.str ByteArray.empty),.nil,.d (.str ByteArray.empty)]) ?_ ?_
    ·try simp[*,Plan.then_,vcPlan,planOps,isCallAt,callKind]
     repeat' (first | with_reducible refine And.intro ?_ ?_ | (refine CutK.of ?_;simp[*];done))
    ·rintro e9 h9 ⟨hn9,h9_2,h9_3,hb9_b2,hb9_b3⟩
     try simp[*]
     obtain rfl:=r_ret hm
     exact ret0 (vs:=[_]) (by simp[*];try exact rfl) (by simp[*])
   ·try simp[*]
    refine r_cond hm ?_ ?_<;>clear hm<;>intro hc10 hm
    ·try simp[*]
     obtain rfl:=r_ret hm
     exact ret0 (vs:=[_]) (by simp[*];try exact rfl) (by simp[*])
    ·try simp[*]
     refine r_cond hm ?_ ?_<;>clear hm<;>intro hc11 hm
     ·try simp[*]
      refine Wait.cut (Plan.then_ [0,1,2,4] (.two 3 5 (Plan.then_ [5,6,7] .done) (Plan.then_ [3,6,7] .done))) follows (by kernel_rfl) (fun e12 h12=>e12.n=115∧e12.get 2=.one (.ptr (1,32) 0)∧e12.get 3=.one (.ptr (2,48) 0)∧h12.box (1,32)=some [.d (.int .i64 0),.d (.str ByteArray.empty),.d (.str ByteArray.empty),.d (.str ByteArray.empty),.d (.str ByteArray.empty),.d (.int .i64 0),.nil,.d (.str ByteArray.empty),.d (.int .i64 0),.d (.int .i64 0),.d (.str ByteArray.empty),.d (.str ByteArray.empty),.nil,.nil,.d (.str ByteArray.empty),.d (.int .i64 0),.d (.str ByteArray.empty),.d (.int .i64 0),.d (.int .i64 0),.d (.int .i64 0),.d (.str ByteArray.empty),.d (.str ByteArray.empty),.nil,.d (.str ByteArray.empty)]∧h12.box (2,48)=some [.d (.int .i64 step.kind),.d (.str step.table),.d (.str ByteArray.empty),.d (.str step.column),.d (.str ByteArray.empty),.d (.int .i64 step.type),.nil,.d (.str ByteArray.empty),.d (.int .i64 0),.d (.int .i64 0),.d (.str ByteArray.empty),.d (.str ByteArray.empty),.nil,.nil,.d (.str ByteArray.empty),.d (.int .i64 0),.d (.str ByteArray.empty),.d (.int .i64 0),.d (.int .i64 0),.d (.int .i64 0),.d (.str ByteArray.empty),.d (.str ByteArray.empty),.nil,.d (.str ByteArray.empty)]) ?_ ?_
      ·try simp[*,Plan.then_,vcPlan,planOps,isCallAt,callKind]
       repeat' (first | with_reducible refine And.intro ?_ ?_ | (refine CutK.of ?_;simp[*];done))
      ·rintro e12 h12 ⟨hn12,h12_2,h12_3,hb12_b2,hb12_b3⟩
       try simp[*]
       obtain rfl:=r_ret hm
       exact ret0 (vs:=[_]) (by simp[*];try exact rfl) (by simp[*])
     ·try simp[*]
      refine r_cond hm ?_ ?_<;>clear hm<;>intro hc13 hm
      ·try simp[*]
       refine Wait.cut (Plan.then_ [0,1,2,4] (.two 3 5 (Plan.then_ [5,6,7] .done) (Plan.then_ [3,6,7] .done))) follows (by kernel_rfl) (fun e14 h14=>e14.n=115∧e14.get 2=.one (.ptr (1,32) 0)∧e14.get 3=.one (.ptr (2,48) 0)∧h14.box (1,32)=some [.d (.int .i64 0),.d (.str ByteArray.empty),.d (.str ByteArray.empty),.d (.str ByteArray.empty),.d (.str ByteArray.empty),.d (.int .i64 0),.nil,.d (.str ByteArray.empty),.d (.int .i64 0),.d (.int .i64 0),.d (.str ByteArray.empty),.d (.str ByteArray.empty),.nil,.nil,.d (.str ByteArray.empty),.d (.int .i64 0),.d (.str ByteArray.empty),.d (.int .i64 0),.d (.int .i64 0),.d (.int .i64 0),.d (.str ByteArray.empty),.d (.str ByteArray.empty),.nil,.d (.str ByteArray.empty)]∧h14.box (2,48)=some [.d (.int .i64 step.kind),.d (.str step.table),.d (.str step.other),.d (.str ByteArray.empty),.d (.str ByteArray.empty),.d (.int .i64 0),.d (.sl (step.cols.map encI)),.d (.str ByteArray.empty),.d (.int .i64 0),.d (.int .i64 0),.d (.str ByteArray.empty),.d (.str ByteArray.empty),.nil,.nil,.d (.str ByteArray.empty),.d (.int .i64 0),.d (.str ByteArray.empty),.d (.int .i64 0),.d (.int .i64 0),.d (.int .i64 0),.d (.str ByteArray.empty),.d (.str ByteArray.empty),.nil,.d (.str ByteArray.empty)]) ?_ ?_
       ·try simp[*,Plan.then_,vcPlan,planOps,isCallAt,callKind]
        repeat' (first | with_reducible refine And.intro ?_ ?_ | (refine CutK.of ?_;simp[*];done))
       ·rintro e14 h14 ⟨hn14,h14_2,h14_3,hb14_b2,hb14_b3⟩
        try simp[*]
        obtain rfl:=r_ret hm
        exact ret0 (vs:=[_]) (by simp[*];try exact rfl) (by simp[*])
      ·try simp[*]
       refine r_cond hm ?_ ?_<;>clear hm<;>intro hc15 hm
       ·try simp[*]
        obtain rfl:=r_ret hm
        exact ret0 (vs:=[_]) (by simp[*];try exact rfl) (by simp[*])
       ·try simp[*]
        refine r_cond hm ?_ ?_<;>clear hm<;>intro hc16 hm
        ·try simp[*]
         refine Wait.cut (Plan.then_ [0,1,2,4,6,8] (.four 3 5 7 9 (Plan.then_ [] (.three 5 7 9 (Plan.then_ [] (.two 7 9 (Plan.then_ [9,10,11,12,13,14,15] .done) (Plan.then_ [10] (.two 7 11 (Plan.then_ [11,12,13,14,15] .done) (Plan.then_ [12] (.two 7 13 (Plan.then_ [13,14,15] .done) (Plan.then_ [7,14,15] .done))))))) (Plan.then_ [] (.two 5 9 (Plan.then_ [9,10,11,12,13,14,15] .done) (Plan.then_ [10] (.two 5 11 (Plan.then_ [11,12,13,14,15] .done) (Plan.then_ [5,12,13,14,15] .done))))) (Plan.then_ [10] (.three 5 7 11 (Plan.then_ [] (.two 7 11 (Plan.then_ [11,12,13,14,15] .done) (Plan.then_ [12] (.two 7 13 (Plan.then_ [13,14,15] .done) (Plan.then_ [7,14,15] .done))))) (Plan.then_ [] (.two 5 11 (Plan.then_ [11,12,13,14,15] .done) (Plan.then_ [5,12,13,14,15] .done))) (Plan.then_ [5,12] (.two 7 13 (Plan.then_ [13,14,15] .done) (Plan.then_ [7,14,15] .done))))))) (Plan.then_ [] (.three 3 7 9 (Plan.then_ [] (.two 7 9 (Plan.then_ [9,10,11,12,13,14,15] .done) (Plan.then_ [10] (.two 7 11 (Plan.then_ [11,12,13,14,15] .done) (Plan.then_ [12] (.two 7 13 (Plan.then_ [13,14,15] .done) (Plan.then_ [7,14,15] .done))))))) (Plan.then_ [] (.two 3 9 (Plan.then_ [9,10,11,12,13,14,15] .done) (Plan.then_ [3,10,11,12,13,14,15] .done))) (Plan.then_ [3,10] (.two 7 11 (Plan.then_ [11,12,13,14,15] .done) (Plan.then_ [12] (.two 7 13 (Plan.then_ [13,14,15] .done) (Plan.then_ [7,14,15] .done))))))) (Plan.then_ [] (.three 3 5 9 (Plan.then_ [] (.two 5 9 (Plan.then_ [9,10,11,12,13,14,15] .done) (Plan.then_ [10] (.two 5 11 (Plan.then_ [11,12,13,14,15] .done) (Plan.then_ [5,12,13,14,15] .done))))) (Plan.then_ [] (.two 3 9 (Plan.then_ [9,10,11,12,13,14,15] .done) (Plan.then_ [3,10,11,12,13,14,15] .done))) (Plan.then_ [3,10] (.two 5 11 (Plan.then_ [11,12,13,14,15] .done) (Plan.then_ [5,12,13,14,15] .done))))) (Plan.then_ [3,10] (.three 5 7 11 (Plan.then_ [] (.two 7 11 (Plan.then_ [11,12,13,14,15] .done) (Plan.then_ [12] (.two 7 13 (Plan.then_ [13,14,15] .done) (Plan.then_ [7,14,15] .done))))) (Plan.then_ [] (.two 5 11 (Plan.then_ [11,12,13,14,15] .done) (Plan.then_ [5,12,13,14,15] .done))) (Plan.then_ [5,12] (.two 7 13 (Plan.then_ [13,14,15] .done) (Plan.then_ [7,14,15] .done))))))) follows (by kernel_rfl) (fun e17 h17=>e17.n=115∧e17.get 2=.one (.ptr (1,32) 0)∧e17.get 3=.one (.ptr (2,48) 0)∧h17.box (1,32)=some [.d (.int .i64 0),.d (.str ByteArray.empty),.d (.str ByteArray.empty),.d (.str ByteArray.empty),.d (.str ByteArray.empty),.d (.int .i64 0),.nil,.d (.str ByteArray.empty),.d (.int .i64 0),.d (.int .i64 0),.d (.str ByteArray.empty),.d (.str ByteArray.empty),.nil,.nil,.d (.str ByteArray.empty),.d (.int .i64 0),.d (.str ByteArray.empty),.d (.int .i64 0),.d (.int .i64 0),.d (.int .i64 0),.d (.str ByteArray.empty),.d (.str ByteArray.empty),.nil,.d (.str ByteArray.empty)]∧h17.box (2,48)=some [.d (.int .i64 step.kind),.d (.str step.table),.d (.str step.other),.d (.str step.column),.d (.str ByteArray.empty),.d (.int .i64 0),.nil,.d (.str step.op),.d (.int .i64 step.value.kind),.d (.int .i64 step.value.int),.d (.str step.value.text),.d (.str ByteArray.empty),.nil,.nil,.d (.str ByteArray.empty),.d (.int .i64 0),.d (.str ByteArray.empty),.d (.int .i64 0),.d (.int .i64 0),.d (.int .i64 0),.d (.str ByteArray.empty),.d (.str ByteArray.empty),.nil,.d (.str ByteArray.empty)]) ?_ ?_
         ·try simp[*,Plan.then_,vcPlan,planOps,isCallAt,callKind]
          repeat' (first | with_reducible refine And.intro ?_ ?_ | (refine CutK.of ?_;simp[*];done))
         ·rintro e17 h17 ⟨hn17,h17_2,h17_3,hb17_b2,hb17_b3⟩
          try simp[*]
          obtain rfl:=r_ret hm
          exact ret0 (vs:=[_]) (by simp[*];try exact rfl) (by simp[*])
        ·try simp[*]
         refine r_cond hm ?_ ?_<;>clear hm<;>intro hc18 hm
         ·try simp[*]
          refine Wait.cut (Plan.then_ [0,1,2,4] (.two 3 5 (Plan.then_ [5,6,7] .done) (Plan.then_ [3,6,7] .done))) follows (by kernel_rfl) (fun e19 h19=>e19.n=115∧e19.get 2=.one (.ptr (1,32) 0)∧e19.get 3=.one (.ptr (2,48) 0)∧h19.box (1,32)=some [.d (.int .i64 0),.d (.str ByteArray.empty),.d (.str ByteArray.empty),.d (.str ByteArray.empty),.d (.str ByteArray.empty),.d (.int .i64 0),.nil,.d (.str ByteArray.empty),.d (.int .i64 0),.d (.int .i64 0),.d (.str ByteArray.empty),.d (.str ByteArray.empty),.nil,.nil,.d (.str ByteArray.empty),.d (.int .i64 0),.d (.str ByteArray.empty),.d (.int .i64 0),.d (.int .i64 0),.d (.int .i64 0),.d (.str ByteArray.empty),.d (.str ByteArray.empty),.nil,.d (.str ByteArray.empty)]∧h19.box (2,48)=some [.d (.int .i64 step.kind),.d (.str step.table),.d (.str step.other),.d (.str step.column),.d (.str ByteArray.empty),.d (.int .i64 0),.nil,.d (.str ByteArray.empty),.d (.int .i64 0),.d (.int .i64 0),.d (.str ByteArray.empty),.d (.str ByteArray.empty),.nil,.nil,.d (.str ByteArray.empty),.d (.int .i64 0),.d (.str ByteArray.empty),.d (.int .i64 0),.d (.int .i64 0),.d (.int .i64 0),.d (.str ByteArray.empty),.d (.str ByteArray.empty),.nil,.d (.str ByteArray.empty)]) ?_ ?_
          ·try simp[*,Plan.then_,vcPlan,planOps,isCallAt,callKind]
           repeat' (first | with_reducible refine And.intro ?_ ?_ | (refine CutK.of ?_;simp[*];done))
          ·rintro e19 h19 ⟨hn19,h19_2,h19_3,hb19_b2,hb19_b3⟩
           try simp[*]
           obtain rfl:=r_ret hm
           exact ret0 (vs:=[_]) (by simp[*];try exact rfl) (by simp[*])
         ·try simp[*]
          refine r_cond hm ?_ ?_<;>clear hm<;>intro hc20 hm
          ·try simp[*]
           refine Wait.cut (Plan.then_ [0,2] (.two 1 3 (Plan.then_ [3,4,5] .done) (Plan.then_ [1,4,5] .done))) follows (by kernel_rfl) (fun e21 h21=>e21.n=115∧e21.get 2=.one (.ptr (1,32) 0)∧e21.get 3=.one (.ptr (2,48) 0)∧h21.box (1,32)=some [.d (.int .i64 0),.d (.str ByteArray.empty),.d (.str ByteArray.empty),.d (.str ByteArray.empty),.d (.str ByteArray.empty),.d (.int .i64 0),.nil,.d (.str ByteArray.empty),.d (.int .i64 0),.d (.int .i64 0),.d (.str ByteArray.empty),.d (.str ByteArray.empty),.nil,.nil,.d (.str ByteArray.empty),.d (.int .i64 0),.d (.str ByteArray.empty),.d (.int .i64 0),.d (.int .i64 0),.d (.int .i64 0),.d (.str ByteArray.empty),.d (.str ByteArray.empty),.nil,.d (.str ByteArray.empty)]∧h21.box (2,48)=some [.d (.int .i64 step.kind),.d (.str ByteArray.empty),.d (.str ByteArray.empty),.d (.str ByteArray.empty),.d (.str ByteArray.empty),.d (.int .i64 0),.nil,.d (.str ByteArray.empty),.d (.int .i64 0),.d (.int .i64 0),.d (.str ByteArray.empty),.d (.str step.newTable.name),.d (.sl (step.newTable.cols.map Col.enc)),.d (.sl (step.newTable.pk.map encI)),.d (.str ByteArray.empty),.d (.int .i64 0),.d (.str ByteArray.empty),.d (.int .i64 0),.d (.int .i64 0),.d (.int .i64 0),.d (.str ByteArray.empty),.d (.str ByteArray.empty),.nil,.d (.str ByteArray.empty)]) ?_ ?_
           ·try simp[*,Plan.then_,vcPlan,planOps,isCallAt,callKind]
            repeat' (first | with_reducible refine And.intro ?_ ?_ | (refine CutK.of ?_;simp[*];done))
           ·rintro e21 h21 ⟨hn21,h21_2,h21_3,hb21_b2,hb21_b3⟩
            try simp[*]
            obtain rfl:=r_ret hm
            exact ret0 (vs:=[_]) (by simp[*];try exact rfl) (by simp[*])
          ·try simp[*]
           refine r_cond hm ?_ ?_<;>clear hm<;>intro hc22 hm
           ·try simp[*]
            refine Wait.cut (Plan.then_ [0,1,2,4] (.two 3 5 (Plan.then_ [5,6,7] .done) (Plan.then_ [3,6,7] .done))) follows (by kernel_rfl) (fun e23 h23=>e23.n=115∧e23.get 2=.one (.ptr (1,32) 0)∧e23.get 3=.one (.ptr (2,48) 0)∧h23.box (1,32)=some [.d (.int .i64 0),.d (.str ByteArray.empty),.d (.str ByteArray.empty),.d (.str ByteArray.empty),.d (.str ByteArray.empty),.d (.int .i64 0),.nil,.d (.str ByteArray.empty),.d (.int .i64 0),.d (.int .i64 0),.d (.str ByteArray.empty),.d (.str ByteArray.empty),.nil,.nil,.d (.str ByteArray.empty),.d (.int .i64 0),.d (.str ByteArray.empty),.d (.int .i64 0),.d (.int .i64 0),.d (.int .i64 0),.d (.str ByteArray.empty),.d (.str ByteArray.empty),.nil,.d (.str ByteArray.empty)]∧h23.box (2,48)=some [.d (.int .i64 step.kind),.d (.str step.table),.d (.str ByteArray.empty),.d (.str step.column),.d (.str ByteArray.empty),.d (.int .i64 0),.d (.sl (step.cols.map encI)),.d (.str ByteArray.empty),.d (.int .i64 0),.d (.int .i64 0),.d (.str ByteArray.empty),.d (.str ByteArray.empty),.nil,.nil,.d (.str ByteArray.empty),.d (.int .i64 0),.d (.str ByteArray.empty),.d (.int .i64 0),.d (.int .i64 0),.d (.int .i64 0),.d (.str ByteArray.empty),.d (.str ByteArray.empty),.nil,.d (.str ByteArray.empty)]) ?_ ?_
            ·try simp[*,Plan.then_,vcPlan,planOps,isCallAt,callKind]
             repeat' (first | with_reducible refine And.intro ?_ ?_ | (refine CutK.of ?_;simp[*];done))
            ·rintro e23 h23 ⟨hn23,h23_2,h23_3,hb23_b2,hb23_b3⟩
             try simp[*]
             obtain rfl:=r_ret hm
             exact ret0 (vs:=[_]) (by simp[*];try exact rfl) (by simp[*])
           ·try simp[*]
            refine r_cond hm ?_ ?_<;>clear hm<;>intro hc24 hm
            ·try simp[*]
             refine Wait.cut (Plan.then_ [0,2] (.two 1 3 (Plan.then_ [3,4,5] .done) (Plan.then_ [1,4,5] .done))) follows (by kernel_rfl) (fun e25 h25=>e25.n=115∧e25.get 2=.one (.ptr (1,32) 0)∧e25.get 3=.one (.ptr (2,48) 0)∧h25.box (1,32)=some [.d (.int .i64 0),.d (.str ByteArray.empty),.d (.str ByteArray.empty),.d (.str ByteArray.empty),.d (.str ByteArray.empty),.d (.int .i64 0),.nil,.d (.str ByteArray.empty),.d (.int .i64 0),.d (.int .i64 0),.d (.str ByteArray.empty),.d (.str ByteArray.empty),.nil,.nil,.d (.str ByteArray.empty),.d (.int .i64 0),.d (.str ByteArray.empty),.d (.int .i64 0),.d (.int .i64 0),.d (.int .i64 0),.d (.str ByteArray.empty),.d (.str ByteArray.empty),.nil,.d (.str ByteArray.empty)]∧h25.box (2,48)=some [.d (.int .i64 step.kind),.d (.str ByteArray.empty),.d (.str ByteArray.empty),.d (.str ByteArray.empty),.d (.str ByteArray.empty),.d (.int .i64 0),.nil,.d (.str ByteArray.empty),.d (.int .i64 0),.d (.int .i64 0),.d (.str ByteArray.empty),.d (.str ByteArray.empty),.nil,.nil,.d (.str step.cons.table),.d (.int .i64 step.cons.left),.d (.str step.cons.op),.d (.int .i64 step.cons.right),.d (.int .i64 step.cons.value.kind),.d (.int .i64 step.cons.value.int),.d (.str step.cons.value.text),.d (.str ByteArray.empty),.nil,.d (.str ByteArray.empty)]) ?_ ?_
             ·try simp[*,Plan.then_,vcPlan,planOps,isCallAt,callKind]
              repeat' (first | with_reducible refine And.intro ?_ ?_ | (refine CutK.of ?_;simp[*];done))
             ·rintro e25 h25 ⟨hn25,h25_2,h25_3,hb25_b2,hb25_b3⟩
              try simp[*]
              obtain rfl:=r_ret hm
              exact ret0 (vs:=[_]) (by simp[*];try exact rfl) (by simp[*])
            ·try simp[*]
             refine r_cond hm ?_ ?_<;>clear hm<;>intro hc26 hm
             ·try simp[*]
              refine Wait.cut (Plan.then_ [0,2] (.two 1 3 (Plan.then_ [3,4,5] .done) (Plan.then_ [1,4,5] .done))) follows (by kernel_rfl) (fun e27 h27=>e27.n=115∧e27.get 2=.one (.ptr (1,32) 0)∧e27.get 3=.one (.ptr (2,48) 0)∧h27.box (1,32)=some [.d (.int .i64 0),.d (.str ByteArray.empty),.d (.str ByteArray.empty),.d (.str ByteArray.empty),.d (.str ByteArray.empty),.d (.int .i64 0),.nil,.d (.str ByteArray.empty),.d (.int .i64 0),.d (.int .i64 0),.d (.str ByteArray.empty),.d (.str ByteArray.empty),.nil,.nil,.d (.str ByteArray.empty),.d (.int .i64 0),.d (.str ByteArray.empty),.d (.int .i64 0),.d (.int .i64 0),.d (.int .i64 0),.d (.str ByteArray.empty),.d (.str ByteArray.empty),.nil,.d (.str ByteArray.empty)]∧h27.box (2,48)=some [.d (.int .i64 step.kind),.d (.str ByteArray.empty),.d (.str ByteArray.empty),.d (.str ByteArray.empty),.d (.str ByteArray.empty),.d (.int .i64 0),.nil,.d (.str ByteArray.empty),.d (.int .i64 0),.d (.int .i64 0),.d (.str ByteArray.empty),.d (.str ByteArray.empty),.nil,.nil,.d (.str step.cons.table),.d (.int .i64 step.cons.left),.d (.str step.cons.op),.d (.int .i64 step.cons.right),.d (.int .i64 step.cons.value.kind),.d (.int .i64 step.cons.value.int),.d (.str step.cons.value.text),.d (.str ByteArray.empty),.nil,.d (.str ByteArray.empty)]) ?_ ?_
              ·try simp[*,Plan.then_,vcPlan,planOps,isCallAt,callKind]
               repeat' (first | with_reducible refine And.intro ?_ ?_ | (refine CutK.of ?_;simp[*];done))
              ·rintro e27 h27 ⟨hn27,h27_2,h27_3,hb27_b2,hb27_b3⟩
               try simp[*]
               obtain rfl:=r_ret hm
               exact ret0 (vs:=[_]) (by simp[*];try exact rfl) (by simp[*])
             ·try simp[*]
              refine r_cond hm ?_ ?_<;>clear hm<;>intro hc28 hm
              ·try simp[*]
               refine Wait.cut (Plan.then_ [0,2] (.two 1 3 (Plan.then_ [3,4,5] .done) (Plan.then_ [1,4,5] .done))) follows (by kernel_rfl) (fun e29 h29=>e29.n=115∧e29.get 2=.one (.ptr (1,32) 0)∧e29.get 3=.one (.ptr (2,48) 0)∧h29.box (1,32)=some [.d (.int .i64 0),.d (.str ByteArray.empty),.d (.str ByteArray.empty),.d (.str ByteArray.empty),.d (.str ByteArray.empty),.d (.int .i64 0),.nil,.d (.str ByteArray.empty),.d (.int .i64 0),.d (.int .i64 0),.d (.str ByteArray.empty),.d (.str ByteArray.empty),.nil,.nil,.d (.str ByteArray.empty),.d (.int .i64 0),.d (.str ByteArray.empty),.d (.int .i64 0),.d (.int .i64 0),.d (.int .i64 0),.d (.str ByteArray.empty),.d (.str ByteArray.empty),.nil,.d (.str ByteArray.empty)]∧h29.box (2,48)=some [.d (.int .i64 step.kind),.d (.str ByteArray.empty),.d (.str ByteArray.empty),.d (.str ByteArray.empty),.d (.str ByteArray.empty),.d (.int .i64 0),.nil,.d (.str ByteArray.empty),.d (.int .i64 0),.d (.int .i64 0),.d (.str ByteArray.empty),.d (.str ByteArray.empty),.nil,.nil,.d (.str ByteArray.empty),.d (.int .i64 0),.d (.str ByteArray.empty),.d (.int .i64 0),.d (.int .i64 0),.d (.int .i64 0),.d (.str ByteArray.empty),.d (.str step.fk.table),.d (.sl (step.fk.cols.map encI)),.d (.str step.fk.ref)]) ?_ ?_
               ·try simp[*,Plan.then_,vcPlan,planOps,isCallAt,callKind]
                repeat' (first | with_reducible refine And.intro ?_ ?_ | (refine CutK.of ?_;simp[*];done))
               ·rintro e29 h29 ⟨hn29,h29_2,h29_3,hb29_b2,hb29_b3⟩
                try simp[*]
                obtain rfl:=r_ret hm
                exact ret0 (vs:=[_]) (by simp[*];try exact rfl) (by simp[*])
              ·try simp[*]
               refine r_cond hm ?_ ?_<;>clear hm<;>intro hc30 hm
               ·try simp[*]
                refine Wait.cut (Plan.then_ [0,2] (.two 1 3 (Plan.then_ [3,4,5] .done) (Plan.then_ [1,4,5] .done))) follows (by kernel_rfl) (fun e31 h31=>e31.n=115∧e31.get 2=.one (.ptr (1,32) 0)∧e31.get 3=.one (.ptr (2,48) 0)∧h31.box (1,32)=some [.d (.int .i64 0),.d (.str ByteArray.empty),.d (.str ByteArray.empty),.d (.str ByteArray.empty),.d (.str ByteArray.empty),.d (.int .i64 0),.nil,.d (.str ByteArray.empty),.d (.int .i64 0),.d (.int .i64 0),.d (.str ByteArray.empty),.d (.str ByteArray.empty),.nil,.nil,.d (.str ByteArray.empty),.d (.int .i64 0),.d (.str ByteArray.empty),.d (.int .i64 0),.d (.int .i64 0),.d (.int .i64 0),.d (.str ByteArray.empty),.d (.str ByteArray.empty),.nil,.d (.str ByteArray.empty)]∧h31.box (2,48)=some [.d (.int .i64 step.kind),.d (.str ByteArray.empty),.d (.str ByteArray.empty),.d (.str ByteArray.empty),.d (.str ByteArray.empty),.d (.int .i64 0),.nil,.d (.str ByteArray.empty),.d (.int .i64 0),.d (.int .i64 0),.d (.str ByteArray.empty),.d (.str ByteArray.empty),.nil,.nil,.d (.str ByteArray.empty),.d (.int .i64 0),.d (.str ByteArray.empty),.d (.int .i64 0),.d (.int .i64 0),.d (.int .i64 0),.d (.str ByteArray.empty),.d (.str step.fk.table),.d (.sl (step.fk.cols.map encI)),.d (.str step.fk.ref)]) ?_ ?_
                ·try simp[*,Plan.then_,vcPlan,planOps,isCallAt,callKind]
                 repeat' (first | with_reducible refine And.intro ?_ ?_ | (refine CutK.of ?_;simp[*];done))
                ·rintro e31 h31 ⟨hn31,h31_2,h31_3,hb31_b2,hb31_b3⟩
                 try simp[*]
                 obtain rfl:=r_ret hm
                 exact ret0 (vs:=[_]) (by simp[*];try exact rfl) (by simp[*])
               ·try simp[*]
                obtain rfl:=r_ret hm
                exact ret0 (vs:=[_]) (by simp[*];try exact rfl) (by simp[*])
instance i_evolution_normalized (step:Stp):Con (m_evolution_normalized step) Tryz.prog 155 [.agg step.enc] (fun r=>.agg (r.enc.map RC.d)):=⟨fun r hm=>c_evolution_normalized step r hm⟩
set_option maxRecDepth 20000
def m_evolution_Validate (step:Stp):Option Int:=
 (bif decide (step.kind < 1) then (some 3) else (bif decide (16 < step.kind) then (some 3) else (bindK (m_evolution_normalized step) fun v4=>(bindK (m_evolution_Equal step v4) fun v5=>(bif !v5 then (some 3) else (some 0))))))
instance c_evolution_Validate (step:Stp):Con (m_evolution_Validate step) Tryz.prog 135 [.agg step.enc] (fun r=>.one (.d (.int .i64 r))):=by
 unfold m_evolution_Validate
 have p1:PH [1] (Plan.then_ [0,1,2,3,4,5,6,7,8,9,10,11,12,13,14] .done):=.intro
 exact go 18 Tryz.func135 rfl (by kernel_rfl) rfl rfl (by simp)
end Go.Proofs.YthiojhcimecdgaaGreatDoor
end
section
namespace Go.Proofs.YthiojhcimecdgaaGreatDoor
open Go Go.Am
def schZ:Sch:=⟨[],[],[]⟩
def m_evolution_Apply (S:Sch) (x:Stp):Option (Sch × Int):=
 bindK (m_schema_Validate S) fun e=>bif e != 0 then some (schZ,e) else bindK (m_evolution_Validate x) fun e2=>bif e2 != 0 then some (schZ,e2) else
 chkK (schOK S∧stpOK x) (bindK (m_evolution_apply S x) fun q=>bif q.2 != 0 then some (schZ,q.2) else bindK (m_schema_Validate q.1) fun e3=>bif e3 != 0 then some (schZ,e3) else some (q.1,0))
theorem frz_fin {h:HS} {cs:List C} {S:Sch} {r:Int} (hf:FrzCs h cs S.enc):FrzFin h (.tup [.agg cs,.one (.d (.int .i64 r))]) (.tup [.agg (S.enc.map RC.d),.one (.d (.int .i64 r))]):=by
 match cs,hf with
 | [a,b,c],hf=>exact⟨⟨hf.1,hf.2.1,hf.2.2.1,trivial⟩,Frz.data rfl,trivial⟩
set_option maxHeartbeats 1000000 in
theorem c_evolution_Apply (S:Sch) (x:Stp) (r:Sch × Int) (hm:Is (m_evolution_Apply S x) r):PSpec Tryz.prog 97 [.agg S.enc,.agg x.enc] (.tup [.agg (r.1.enc.map RC.d),.one (.d (.int .i64 r.2))]):=by
 refine PSpec.of_heap ?_
 obtain⟨R,q⟩:=r
 simp only at hm ⊢
 replace hm:=hm.bind
 obtain⟨ev,hev,hm⟩:=hm
 show HSpec _ _ [.agg (S.enc.map C.d),.agg (x.enc.map C.d)] HS.init _
 refine HSpec.good Tryz.func97 rfl (by kernel_rfl) fun hg=>?_
 refine HSpec.of_vc Tryz.func97 rfl (by kernel_rfl) (n:=39) rfl rfl (by simp) ?_
 simp
 refine callK_heap (HSpec.of_lend (c_schema_Validate S ev hev) ⟨.agg (FrzCs.datas (ds:=S.enc)),trivial⟩ rfl ?_)
 simp
 cases hev0:ev != 0 with
 | true=>
   simp only[hev0,cond_true] at hm
   have e1:=r_ret hm
   simp only[Prod.mk.injEq] at e1
   obtain⟨rfl,rfl⟩:=e1
   simp[hev0,retH,resVs,resV,notTup]
   exact frz_fin ⟨.data rfl,.data rfl,.data rfl,trivial⟩
 | false=>
   simp only[hev0,cond_false] at hm
   replace hm:=hm.bind
   obtain⟨e2,he2,hm⟩:=hm
   simp[hev0]
   refine callK_heap (HSpec.of_lend (c_evolution_Validate x e2 he2) ⟨.agg (FrzCs.datas (ds:=x.enc)),trivial⟩ rfl ?_)
   simp
   cases he20:e2 != 0 with
   | true=>
     simp only[he20,cond_true] at hm
     have e1:=r_ret hm
     simp only[Prod.mk.injEq] at e1
     obtain⟨rfl,rfl⟩:=e1
     simp[he20,retH,resVs,resV,notTup]
     exact frz_fin ⟨.data rfl,.data rfl,.data rfl,trivial⟩
   | false=>
     simp only[he20,cond_false] at hm
     replace hm:=hm.chk
     obtain⟨⟨hS,hx⟩,hm⟩:=hm
     replace hm:=hm.bind
     obtain⟨⟨S1,q1⟩,hm1,hm⟩:=hm
     simp only at hm
     simp[he20]
     refine callK_heap (h_schema_Clone _ S hS _ (fun tc fc oc qt qf qo g1 pt pf po nd new hs1=>?_))
     have b4:=hs1.2 (2,64) (by simp) (by simp)
     have b3:=hs1.2 (1,48) (by simp) (by simp)
     have hep1:=hs1.1
     simp at b4 b3 hep1
     simp[b3]
     have hz:Same g1 ((g1.setBox (g1.ep,128) [.nil,.nil,.nil]).next.setBox (g1.ep,128) [tc,fc,oc]) []:=((Same.refl.setBox (.inr (Nat.le_refl _))).next).setBox (.inr (Nat.le_refl _))
     have sB:Sc ((g1.setBox (g1.ep,128) [.nil,.nil,.nil]).next.setBox (g1.ep,128) [tc,fc,oc]) (g1.ep,128) S tc fc oc (plabs tc qt) (plabs fc qf) (plabs oc qo):=by
      refine⟨qt,qf,qo,rfl,rfl,rfl,by simp,pt.frame fun k hk=>hz.2 k (new k (by simp[hk])).2 (by simp),pf.frame fun k hk=>hz.2 k (new k (by simp[hk])).2 (by simp),po.frame fun k hk=>hz.2 k (new k (by simp[hk])).2 (by simp),?_,fun k hk=>?_⟩
      ·rw[List.nodup_cons]
       exact⟨fun hk=>by have:=(new _ hk).2;simp at this,nd⟩
      ·rcases List.mem_cons.1 hk with rfl | hk
       ·simp
       ·have:=(new k hk).2;simp<;>omega
     have b4B:((g1.setBox (g1.ep,128) [.nil,.nil,.nil]).next.setBox (g1.ep,128) [tc,fc,oc]).box (2,64)=some [.nil,.nil,.nil]:=by simp[b4]
     have hepB:g1.ep < ((g1.setBox (g1.ep,128) [.nil,.nil,.nil]).next.setBox (g1.ep,128) [tc,fc,oc]).ep:=by simp
     have newB:∀ k ∈ (g1.ep,128)::(plabs tc qt++(plabs fc qf++plabs oc qo)),5≤k.1:=fun k hk=>by
      rcases List.mem_cons.1 hk with rfl | hk
      ·exact hep1
      ·have:=(new k hk).1;simpa using this
     refine callK_heap (h_evolution_Clone _ x hx _ (fun cs g2 lx ox ndx nwx hs2 hb2=>?_))
     have s2:=sB.frame hs2
     have b42:g2.box (2,64)=some [.nil,.nil,.nil]:=by rw[hs2.2 _ (by simp<;>omega) (by simp)];exact b4B
     simp
     refine callK_heap (h_evolution_apply g2 (g1.ep,128) tc fc oc cs _ _ _ lx S S1 x q1 hm1 s2 ox ⟨ndx,fun k hk=>⟨(nwx k hk).2,fun h9=>by have:=sB.lt k h9;have:=(nwx k hk).1;omega⟩⟩ _ ?_)
     intro g3 ls3 ho3 hs3 hl3
     obtain⟨tc3,fc3,oc3,ta3,fa3,oa3,rfl,s3⟩:=ho3.sc
     have b43:g3.box (2,64)=some [.nil,.nil,.nil]:=by
      rw[hs3.2 _ (by have:=hs2.1;simp at this ⊢;omega) fun h9=>?_]
      ·exact b42
      ·simp only[List.mem_cons,List.mem_append] at h9
       rcases h9 with h9 | h9 | h9
       ·simp at h9
       ·have:=newB (2,64) (by simp only[List.mem_cons,List.mem_append];exact .inr h9);simp at this
       ·have:=(nwx _ h9).1;simp at this;omega
     have hb3:=s3.box
     simp
     cases hq0:q1 != 0 with
     | true=>
       simp only[hq0,cond_true] at hm
       have e1:=r_ret hm
       simp only[Prod.mk.injEq] at e1
       obtain⟨rfl,rfl⟩:=e1
       simp[hq0,b43,retH,resVs,resV,notTup]
       exact frz_fin ⟨.data rfl,.data rfl,.data rfl,trivial⟩
     | false=>
       simp only[hq0,cond_false] at hm
       replace hm:=hm.bind
       obtain⟨e3,he3,hm⟩:=hm
       simp[hq0,hb3]
       refine callK_heap (HSpec.of_lend (c_schema_Validate S1 e3 he3) ⟨.agg s3.frz,trivial⟩ rfl ?_)
       simp
       cases he30:e3 != 0 with
       | true=>
         simp only[he30,cond_true] at hm
         have e1:=r_ret hm
         simp only[Prod.mk.injEq] at e1
         obtain⟨rfl,rfl⟩:=e1
         simp[he30,b43,retH,resVs,resV,notTup]
         exact frz_fin ⟨.data rfl,.data rfl,.data rfl,trivial⟩
       | false=>
         simp only[he30,cond_false] at hm
         have e1:=r_ret hm
         simp only[Prod.mk.injEq] at e1
         obtain⟨rfl,rfl⟩:=e1
         simp[he30,b43,hb3,retH,resVs,resV,notTup]
         refine frz_fin ((s3.frame2 (lz:=[(2,64)]) (Same.refl.next.setBox (.inl (by simp))) fun k hk h9=>?_).frz)
         simp at hk
         subst hk
         simp only[List.mem_cons] at h9
         rcases h9 with h9 | h9
         ·simp at h9
         ·rcases hl3 _ h9 with h8 | h8
          ·rcases List.mem_append.1 h8 with h8 | h8
           ·have:=newB (2,64) (List.mem_cons_of_mem _ h8);simp at this
           ·have:=(nwx _ h8).1;simp at this;omega
          ·have:=hs2.1;simp at this h8;omega
end Go.Proofs.YthiojhcimecdgaaGreatDoor
end
section
namespace Go.Proofs.YthiojhcimecdgaaGreatDoor
open Go.Am
set_option maxRecDepth 20000
instance i_evolution_Apply (s_:Sch) (step:Stp):Con (m_evolution_Apply s_ step) Tryz.prog 97 [.agg s_.enc,.agg step.enc] (fun r=>.tup [.agg (r.1.enc.map RC.d),.one (.d (.int .i64 r.2))]):=⟨fun r hm=>c_evolution_Apply s_ step r hm⟩
set_option maxRecDepth 20000
def m_complement_Schema (s_:Sch) (step:Stp):Option (Sch × Int):=
 (bindK (m_evolution_Apply s_ step) fun v4=>(bif (v4.2 != 0) then (some ((Sch.mk [] [] []),v4.2)) else (bif (step.kind == 13) then (bindK (m_schema_Clone s_) fun v8=>(some ((Sch.mk v8.tables [] []),0))) else (bif (step.kind == 14) then (bindK (m_schema_Clone s_) fun v10=>(some ((Sch.mk v10.tables [] []),0))) else (bif (step.kind == 15) then (bindK (m_schema_Clone s_) fun v12=>(some ((Sch.mk v12.tables [] []),0))) else (bif (step.kind == 16) then (bindK (m_schema_Clone s_) fun v14=>(some ((Sch.mk v14.tables [] []),0))) else (bif (step.kind == 3) then (some ((Sch.mk [] [] []),0)) else (bif (step.kind == 4) then (some ((Sch.mk [] [] []),0)) else (bif (step.kind == 9) then (some ((Sch.mk [] [] []),0)) else (bindK (m_complement_table s_ v4.1 step) fun v18=>(some ((Sch.mk [v18] [] []),0))))))))))))
instance c_complement_Schema (s_:Sch) (step:Stp):Con (m_complement_Schema s_ step) Tryz.prog 138 [.agg s_.enc,.agg step.enc] (fun r=>.tup [.agg (r.1.enc.map RC.d),.one (.d (.int .i64 r.2))]):=by
 unfold m_complement_Schema
 exact go 40 Tryz.func138 rfl (by kernel_rfl) rfl rfl (by simp)
set_option maxRecDepth 20000
def m_lens_schemas (s_:Sch) (step:Stp):Option (Sch × Sch × Int):=
 (bindK (m_evolution_Apply s_ step) fun v5=>(bif (v5.2 != 0) then (some ((Sch.mk [] [] []),(Sch.mk [] [] []),v5.2)) else (bindK (m_complement_Schema s_ step) fun v8=>(some (v5.1,v8.1,v8.2)))))
theorem c_lens_schemas (s_:Sch) (step:Stp) (r:Sch × Sch × Int) (hm:Is (m_lens_schemas s_ step) r):PSpec Tryz.prog 98 [.agg s_.enc,.agg step.enc] (.tup [.agg (r.1.enc.map RC.d),.agg (r.2.1.enc.map RC.d),.one (.d (.int .i64 r.2.2))]):=by
 unfold m_lens_schemas at hm
 refine PSpec.of_vc Tryz.func98 rfl (by kernel_rfl) (n:=30) rfl rfl (by simp) ?_
 try simp[*]
 refine r_call (av:=[.agg s_.enc,.agg step.enc]) hm (fun v hv=>c_evolution_Apply _ _ v hv) (by simp[*]) ?_
 clear hm;intro v5 hvv5 hm
 try simp[*]
 refine r_cond hm ?_ ?_<;>clear hm<;>intro hc7 hm
 ·try simp[*]
  obtain rfl:=r_ret hm
  exact ret0 (vs:=[_,_,_]) (by simp[*];try exact⟨rfl,rfl,rfl⟩) (by simp[*])
 ·try simp[*]
  refine r_call (av:=[.agg s_.enc,.agg step.enc]) hm (fun v hv=>c_complement_Schema _ _ v hv) (by simp[*]) ?_
  clear hm;intro v8 hvv8 hm
  try simp[*]
  refine Wait.cut (Plan.then_ [0,2] (.two 1 3 (Plan.then_ [3,4,5] .done) (Plan.then_ [1,4,5] .done))) follows (by kernel_rfl) (fun e10 h10=>e10.n=30∧e10.get 4=.one (.ptr (2,64) 0)∧e10.get 5=.one (.ptr (3,80) 0)∧e10.get 6=.one (.d (.int .i64 v8.2))∧h10.box (2,64)=some [.d (.sl (v5.1.tables.map Tbl.enc)),.d (.sl (v5.1.fks.map Fk.enc)),.d (.sl (v5.1.cons.map Cons.enc))]∧h10.box (3,80)=some [.d (.sl (v8.1.tables.map Tbl.enc)),.d (.sl (v8.1.fks.map Fk.enc)),.d (.sl (v8.1.cons.map Cons.enc))]) ?_ ?_
  ·try simp[*,Plan.then_,vcPlan,planOps,isCallAt,callKind]
   repeat' (first | with_reducible refine And.intro ?_ ?_ | (refine CutK.of ?_;simp[*];done))
  ·rintro e10 h10 ⟨hn10,h10_4,h10_5,h10_6,hb10_b3,hb10_b4⟩
   try simp[*]
   obtain rfl:=r_ret hm
   exact ret0 (vs:=[_,_,_]) (by simp[*];try exact⟨rfl,rfl,rfl⟩) (by simp[*])
instance i_lens_schemas (s_:Sch) (step:Stp):Con (m_lens_schemas s_ step) Tryz.prog 98 [.agg s_.enc,.agg step.enc] (fun r=>.tup [.agg (r.1.enc.map RC.d),.agg (r.2.1.enc.map RC.d),.one (.d (.int .i64 r.2.2))]):=⟨fun r hm=>c_lens_schemas s_ step r hm⟩
set_option maxRecDepth 20000
def m_evolution_Clone (step:Stp):Option Stp:=
 (bindK (m_slices_Clone_Int step.cols) fun v3=>(bindK (m_schema_CloneTable step.newTable) fun v4=>(bindK (m_slices_Clone_Int step.fk.cols) fun v5=>(some (Stp.mk step.kind step.table step.other step.column step.newName step.type v3 step.op step.value v4 step.cons (Fk.mk step.fk.table v5 step.fk.ref))))))
instance c_evolution_Clone (step:Stp):Con (m_evolution_Clone step) Tryz.prog 137 [.agg step.enc] (fun r=>.agg (r.enc.map RC.d)):=by
 unfold m_evolution_Clone
 exact go 18 Tryz.func137 rfl (by kernel_rfl) rfl rfl (by simp)
end Go.Proofs.YthiojhcimecdgaaGreatDoor
end
section
namespace Go.Proofs.YthiojhcimecdgaaGreatDoor
open Go Go.Am
def m_lens_Forward (S:Sch) (step:Stp) (source comp:List Rel):Option (List Rel × List Rel × Int):=
 bindK (m_lens_schemas S step) fun q=>bif q.2.2 != 0 then some ([],[],q.2.2) else
 bindK (m_evolution_Clone step) fun st=>bindK (m_schema_Clone S) fun S2=>m_lens_run ⟨st,true,S2,q.1,q.2.1,[],[],[],[],0⟩ source comp
def m_lens_Backward (S:Sch) (step:Stp) (target comp:List Rel):Option (List Rel × List Rel × Int):=
 bindK (m_lens_schemas S step) fun q=>bif q.2.2 != 0 then some ([],[],q.2.2) else
 bindK (m_evolution_Clone step) fun st=>bindK (m_schema_Clone S) fun S2=>m_lens_run ⟨st,false,q.1,S2,q.2.1,[],[],[],[],0⟩ target comp
theorem c_lens_Forward (S:Sch) (step:Stp) (source comp:List Rel) (r:List Rel × List Rel × Int) (hm:Is (m_lens_Forward S step source comp) r) :
  PSpec Tryz.prog 140 [.agg S.enc,.agg step.enc,.one (.d (.sl (source.map Rel.enc))),.one (.d (.sl (comp.map Rel.enc)))] (.tup [.one (.d (.sl (r.1.map Rel.enc))),.one (.d (.sl (r.2.1.map Rel.enc))),.one (.d (.int .i64 r.2.2))]):=by
 unfold m_lens_Forward at hm
 refine PSpec.of_heap ?_
 show HSpec _ _ [.agg (S.enc.map C.d),.agg (step.enc.map C.d),.one (.d (.sl (source.map Rel.enc))),.one (.d (.sl (comp.map Rel.enc)))] HS.init _
 refine HSpec.of_vc Tryz.func140 rfl (by kernel_rfl) (n:=40) rfl rfl (by simp) ?_
 obtain⟨q,hq,hm⟩:=hm.bind
 simp
 refine callK_fn (c_lens_schemas S step q hq) (by simp) ?_
 simp
 refine r_cond hm ?_ ?_<;>clear hm<;>intro hc hm
 ·obtain rfl:=r_ret hm
  simp[retH,resVs,resV,notTup]
  exact⟨.data rfl,.data rfl,.data rfl,trivial⟩
 ·obtain⟨st,hst,hm⟩:=hm.bind
  obtain⟨S2,hS2,hm⟩:=hm.bind
  simp
  refine Wait.cut (Plan.then_ [0,2,4,5,1,3,6,7,8] .done) follows (by kernel_rfl) (fun e1 h1=>∃ l,e1.n=40∧e1.get 2=.one (.d (.sl (source.map Rel.enc)))∧e1.get 3=.one (.d (.sl (comp.map Rel.enc)))∧e1.get 14=.one (.ptr l 0)∧l.1 < h1.ep∧h1.box l=some (mpIn ⟨st,true,S2,q.1,q.2.1,[],[],[],[],0⟩)) ?_ ?_
  ·simp[Plan.then_,vcPlan,planOps,isCallAt,callKind]
   refine callK_fn ((c_evolution_Clone step).h st hst) (by simp) ?_
   simp[Plan.then_,vcPlan,planOps,isCallAt,callKind]
   try refine⟨fun _ _ x=>x,?_⟩
   refine callK_fn (c_schema_Clone S S2 hS2) (by simp) ?_
   simp[Plan.then_,vcPlan,planOps,isCallAt,callKind]
   refine⟨fun _ _ x=>x,?_⟩
   try simp[Plan.then_,vcPlan,planOps,isCallAt,callKind]
   exact CutK.of ⟨(7,512),by simp,by simp,by simp,by simp,by simp,by simp[mpIn,Stp.enc]⟩
  ·rintro e1 h1 ⟨l,en,e2,e3,e14,hl,hb⟩
   simp[en,e2,e3,e14]
   refine callK_heap (h_lens_run _ l _ source comp r hb hl hm _ fun c1 c2 h2 f1 f2=>?_)
   simp[retH,resVs,resV,notTup,en]
   exact⟨f1,f2,.data rfl,trivial⟩
theorem c_lens_Backward (S:Sch) (step:Stp) (target comp:List Rel) (r:List Rel × List Rel × Int) (hm:Is (m_lens_Backward S step target comp) r) :
  PSpec Tryz.prog 141 [.agg S.enc,.agg step.enc,.one (.d (.sl (target.map Rel.enc))),.one (.d (.sl (comp.map Rel.enc)))] (.tup [.one (.d (.sl (r.1.map Rel.enc))),.one (.d (.sl (r.2.1.map Rel.enc))),.one (.d (.int .i64 r.2.2))]):=by
 unfold m_lens_Backward at hm
 refine PSpec.of_heap ?_
 show HSpec _ _ [.agg (S.enc.map C.d),.agg (step.enc.map C.d),.one (.d (.sl (target.map Rel.enc))),.one (.d (.sl (comp.map Rel.enc)))] HS.init _
 refine HSpec.of_vc Tryz.func141 rfl (by kernel_rfl) (n:=40) rfl rfl (by simp) ?_
 obtain⟨q,hq,hm⟩:=hm.bind
 simp
 refine callK_fn (c_lens_schemas S step q hq) (by simp) ?_
 simp
 refine r_cond hm ?_ ?_<;>clear hm<;>intro hc hm
 ·obtain rfl:=r_ret hm
  simp[retH,resVs,resV,notTup]
  exact⟨.data rfl,.data rfl,.data rfl,trivial⟩
 ·obtain⟨st,hst,hm⟩:=hm.bind
  obtain⟨S2,hS2,hm⟩:=hm.bind
  simp
  refine Wait.cut (Plan.then_ [0,2,3,5,1,4,6,7,8] .done) follows (by kernel_rfl) (fun e1 h1=>∃ l,e1.n=40∧e1.get 2=.one (.d (.sl (target.map Rel.enc)))∧e1.get 3=.one (.d (.sl (comp.map Rel.enc)))∧e1.get 14=.one (.ptr l 0)∧l.1 < h1.ep∧h1.box l=some (mpIn ⟨st,false,q.1,S2,q.2.1,[],[],[],[],0⟩)) ?_ ?_
  ·simp[Plan.then_,vcPlan,planOps,isCallAt,callKind]
   refine callK_fn ((c_evolution_Clone step).h st hst) (by simp) ?_
   simp[Plan.then_,vcPlan,planOps,isCallAt,callKind]
   try refine⟨fun _ _ x=>x,?_⟩
   refine callK_fn (c_schema_Clone S S2 hS2) (by simp) ?_
   simp[Plan.then_,vcPlan,planOps,isCallAt,callKind]
   refine⟨fun _ _ x=>x,?_⟩
   try simp[Plan.then_,vcPlan,planOps,isCallAt,callKind]
   exact CutK.of ⟨(7,512),by simp,by simp,by simp,by simp,by simp,by simp[mpIn,Stp.enc]⟩
  ·rintro e1 h1 ⟨l,en,e2,e3,e14,hl,hb⟩
   simp[en,e2,e3,e14]
   refine callK_heap (h_lens_run _ l _ target comp r hb hl hm _ fun c1 c2 h2 f1 f2=>?_)
   simp[retH,resVs,resV,notTup,en]
   exact⟨f1,f2,.data rfl,trivial⟩
end Go.Proofs.YthiojhcimecdgaaGreatDoor
end
section
namespace Go.Proofs.YthiojhcimecdgaaGreatDoor
open Go.Am
set_option maxRecDepth 20000
def m_script_Schemas (s_:Sch) (script:List Stp):Option ((List Sch) × Int):=
 (bif decide (6 < (script.length:Int)) then (some ([],2)) else (bindK (m_schema_Validate s_) fun v4=>(bif (v4 != 0) then (some ([],v4)) else (bindK (m_schema_Clone s_) fun v6=>(forK (fun (i8:Nat) (x8:Stp) (s8:(List Sch)) next_8=>(getK s8 (i8:Int) fun x10=>(bindK (m_evolution_Apply x10 x8) fun v11=>(bif (v11.2 != 0) then (some ([],v11.2)) else (appK2 s8 [v11.1] fun _=>(next_8 (s8++[v11.1]))))))) (fun (s8:(List Sch))=>(some (s8,0))) script 0 [v6])))))
theorem c_script_Schemas (s_:Sch) (script:List Stp) (r:(List Sch) × Int) (hm:Is (m_script_Schemas s_ script) r):PSpec Tryz.prog 70 [.agg s_.enc,.one (.d (.sl (script.map Stp.enc)))] (.tup [.one (.d (.sl (r.1.map Sch.enc))),.one (.d (.int .i64 r.2))]):=by
 unfold m_script_Schemas at hm
 refine PSpec.of_vc Tryz.func70 rfl (by kernel_rfl) (n:=48) rfl rfl (by simp) ?_
 try simp[*]
 intro hl2
 replace hl2:script.length≤2097152:=by simpa using hl2
 refine r_cond hm ?_ ?_<;>clear hm<;>intro hc3 hm
 ·try simp[*]
  obtain rfl:=r_ret hm
  exact ret0 (vs:=[_,_]) (by simp[*];try exact⟨rfl,rfl⟩) (by simp[*])
 ·try simp[*]
  refine r_call (av:=[.agg s_.enc]) hm (fun v hv=>c_schema_Validate _ v hv) (by simp[*]) ?_
  clear hm;intro v4 hvv4 hm
  try simp[*]
  refine r_cond hm ?_ ?_<;>clear hm<;>intro hc5 hm
  ·try simp[*]
   obtain rfl:=r_ret hm
   exact ret0 (vs:=[_,_]) (by simp[*];try exact⟨rfl,rfl⟩) (by simp[*])
  ·try simp[*]
   refine r_call (av:=[.agg s_.enc]) hm (fun v hv=>c_schema_Clone _ v hv) (by simp[*]) ?_
   clear hm;intro v6 hvv6 hm
   try simp[*]
   refine Wait.for (xs:=script) (s0:=[v6]) (fun i8 s8 e8 h8=>∃ c8_0:C,e8.n=48∧e8.get 7=.one c8_0∧e8.get 23=.one (.d (.sl (script.map Stp.enc)))∧e8.get 24=.one (.d (.int .i64 (script.length:Int)))∧e8.get 25=.one (.d (.int .i64 (i8:Int)))∧Grows h8 3 c8_0 (s8.map Sch.enc)) hm ⟨.own (3,352) ([v6].map Sch.enc),by simp (maxDischargeDepth:=20) [*]⟩ ?_ ?_
   ·rintro i8 s8 e8 h8 ⟨c8_0,hn8,h8_7,h8_23,h8_24,h8_25,gc8_0⟩ hlt8 hm
    have hlc8_0:=gc8_0.list
    have hdc8_0:=gc8_0.toD
    have hac8_0:=gc8_0.toA
    have huc8_0:=gc8_0.useUp_arr
    have hw8:IntKind.i64.wrap ((i8:Int)+1)=(i8:Int)+1:=IntWalk.i64_in _ (by omega)
    try simp[*]
    refine Wait.of (SWP.draw (Plan.then_ [0,1,2,3,4] (.two 5 9 (Plan.then_ [6,7,8,9,10,11] .done) (Plan.then_ [5,6,7,8,10,11] .done))) follows (by kernel_rfl) ?_)
    try simp[*,Plan.then_,vcPlan,planOps,isCallAt,callKind]
    replace hm:=hm.getN
    obtain⟨x10,hxx10,hm⟩:=hm
    try simp[*,Plan.then_,vcPlan,planOps,isCallAt,callKind]
    rcases gc8_0.1 with ⟨hzc8_0,hzz⟩ | ⟨lc8_0,hzc8_0,hz1,hz2⟩
    ·exact absurd hxx10 (by simp at hzz;subst hzz;simp)
    try simp[*,Plan.then_,vcPlan,planOps,isCallAt,callKind]
    refine⟨?_,?_⟩
    ·try simp[*,Plan.then_,vcPlan,planOps,isCallAt,callKind]
     refine r_call (av:=[.agg x10.enc,.agg (script[i8]).enc]) hm (fun v hv=>c_evolution_Apply _ _ v hv) (by simp[*]) ?_
     clear hm;intro v11 hvv11 hm
     try simp[*,Plan.then_,vcPlan,planOps,isCallAt,callKind]
     try refine⟨fun (_:Lab) (_:List C) hl=>hl,?_⟩
     refine r_cond hm ?_ ?_<;>clear hm<;>intro hc13 hm
     ·try simp[*]
      obtain rfl:=r_ret hm
      exact ret0 (vs:=[_,_]) (by simp[*];try exact⟨rfl,rfl⟩) (by simp[*])
     ·try simp[*]
      refine r_app (xs:=s8) (ys:=[v11.1]) (enc:=Sch.enc) hm ty_el100 (by first | exact Grows.nil | (simp (maxDischargeDepth:=20) [*];done) | (simp (maxDischargeDepth:=20) [*];refine⟨?_,by omega⟩;intro hq;subst hq;simp at hz2<;>omega)) (by simp[*]) (by decide) (by decide) (fun _=>rfl) ?_
      clear hm;intro hl15 hm g14
      try simp[*]
      exact BackF.of (s8++[v11.1]) ⟨⟨.own (h8.ep+4,720) ((s8++[v11.1]).map Sch.enc),by simp (maxDischargeDepth:=20) [*]⟩,hm⟩
    ·try simp[*,Plan.then_,vcPlan,planOps,isCallAt,callKind]
     refine r_call (av:=[.agg x10.enc,.agg (script[i8]).enc]) hm (fun v hv=>c_evolution_Apply _ _ v hv) (by simp[*]) ?_
     clear hm;intro v1012 hvv1012 hm
     try simp[*,Plan.then_,vcPlan,planOps,isCallAt,callKind]
     try refine⟨fun (_:Lab) (_:List C) hl=>hl,?_⟩
     refine r_cond hm ?_ ?_<;>clear hm<;>intro hc1013 hm
     ·try simp[*]
      obtain rfl:=r_ret hm
      exact ret0 (vs:=[_,_]) (by simp[*];try exact⟨rfl,rfl⟩) (by simp[*])
     ·try simp[*]
      refine r_app (xs:=s8) (ys:=[v1012.1]) (enc:=Sch.enc) hm ty_el100 (by first | exact Grows.nil | (simp (maxDischargeDepth:=20) [*];done) | (simp (maxDischargeDepth:=20) [*];refine⟨?_,by omega⟩;intro hq;subst hq;simp at hz2<;>omega)) (by simp[*]) (by decide) (by decide) (fun _=>rfl) ?_
      clear hm;intro hl1015 hm g1014
      try simp[*]
      exact BackF.of (s8++[v1012.1]) ⟨⟨.own (h8.ep+4,720) ((s8++[v1012.1]).map Sch.enc),by simp (maxDischargeDepth:=20) [*]⟩,hm⟩
   ·rintro s8 e8 h8 ⟨c8_0,hn8,h8_7,h8_23,h8_24,h8_25,gc8_0⟩ hm
    have hlc8_0:=gc8_0.list
    have hdc8_0:=gc8_0.toD
    have hac8_0:=gc8_0.toA
    have huc8_0:=gc8_0.useUp_arr
    try simp[*]
    obtain rfl:=r_ret hm
    exact ret0 (vs:=[_,_]) (by simp[*];try exact⟨rfl,rfl⟩) (by simp[*])
instance i_script_Schemas (s_:Sch) (script:List Stp):Con (m_script_Schemas s_ script) Tryz.prog 70 [.agg s_.enc,.one (.d (.sl (script.map Stp.enc)))] (fun r=>.tup [.one (.d (.sl (r.1.map Sch.enc))),.one (.d (.int .i64 r.2))]):=⟨fun r hm=>c_script_Schemas s_ script r hm⟩
end Go.Proofs.YthiojhcimecdgaaGreatDoor
end
section
namespace Go.Proofs.YthiojhcimecdgaaGreatDoor
open Go Go.Am
def CellsAt (h:HS) (c:C) (ds:List D):Prop:=∃ rs,MR h 1 c (ones rs)∧rs.map C.toD=ds.map some
theorem CellsAt.frame {h h':HS} {c:C} {ds:List D} (m:CellsAt h c ds) (hb:∀ l ∈ labs c,h'.box l=h.box l):CellsAt h' c ds:=by
 obtain⟨rs,hm,he⟩:=m
 exact⟨rs,hm.frame hb,he⟩
theorem CellsAt.frz {h:HS} {c:C} {ds:List D} (m:CellsAt h c ds):Frz h c (.sl (ds.map fun d=>[d])):=by
 obtain⟨rs,hm,he⟩:=m
 have hl:rs.length=ds.length:=by have:=congrArg List.length he;simpa using this
 refine hm.frz (by simp[ones,hl]) (fun t ht=>by obtain⟨y,_,rfl⟩:=List.mem_map.1 ht;rfl) fun i x t hx ht=>?_
 simp only[ones,List.getElem?_map] at hx ht
 have h9:=congrArg (fun z=>z[i]?) he
 simp only[List.getElem?_map] at h9
 cases hr:rs[i]? with
 | none=>rw[hr] at hx;cases hx
 | some r=>
   cases hd:ds[i]? with
   | none=>rw[hd] at ht;cases ht
   | some d=>
     rw[hr] at hx h9
     rw[hd] at ht h9
     cases hx
     cases ht
     exact⟨.data (by simpa using h9),trivial⟩
theorem CellsAt.at {h:HS} {c:C} {ds:List D} (m:CellsAt h c ds) {i:Nat} (hi:i < ds.length):∃ lr cap bs,c=.mrow lr 0 ds.length cap∧h.box lr=some bs∧i+1≤bs.length∧(∃ x,takeN 1 (bs.drop i)=some [x]∧some (x.toD)=some (ds[i]?)) ∧
  ∀ (H:HS) (x:C) (d:D),x.toD=some d→CellsAt (H.setBox lr (setCells bs i [x])) c (ds.set i d):=by
 obtain⟨rs,hm,he⟩:=m
 have hl:rs.length=ds.length:=by have:=congrArg List.length he;simpa using this
 obtain⟨lr,cap,sp,hc,hb,hcap⟩:=hm.block (by simp[ones];omega)
 rw[ones_box] at hb hcap
 simp only[ones,List.length_map,hl] at hc
 refine⟨lr,cap,rs++sp,hc,hb,by simp;omega,⟨rs[i]'(by omega),?_,?_⟩,fun H x d hx=>⟨rs.set i x,?_,?_⟩⟩
 ·have hd:(rs++sp).drop i=rs[i]'(by omega)::(rs.drop (i+1)++sp):=by
   rw[List.drop_append_of_le_length (by omega),List.drop_eq_getElem_cons (by omega)]
   rfl
  rw[hd]
  simp[takeN]
 ·have h9:=congrArg (fun z=>z[i]?) he
  simp only[List.getElem?_map,List.getElem?_eq_getElem (show i < rs.length by omega),List.getElem?_eq_getElem hi,Option.map_some,Option.some.injEq] at h9
  rw[h9,List.getElem?_eq_getElem hi]
 ·have:=ones_set (h:=H) (l:=lr) (cap:=cap) (i:=i) (rs:=rs) (sp:=sp) (x:=x) hcap (by have:=hm.2.1;simpa[ones] using this) (by omega)
  rw[hl] at this
  rw[hc]
  exact this
 ·rw[List.map_set,List.map_set,he,hx]
theorem CellsAt.make {h:HS} {l:Lab} {n:Nat} {zc:C} {d:D} (hb:h.box l=some (List.replicate n zc)) (hz:zc.toD=some d) (hn:n≤2097152):CellsAt h (.mrow l 0 n n) (List.replicate n d):=by
 refine⟨List.replicate n zc,?_,by simp[hz]⟩
 have:=ones_mr (h:=h) (l:=l) (cap:=n) (rs:=List.replicate n zc) (sp:=[]) (by simpa using hb) (by simp) (by simpa using hn)
 simpa using this
def m_script_Forward (S:Sch) (steps:List Stp) (source:List Rel) (comps:List (List Rel)):Option (List Rel × List (List Rel) × Int):=
 bindK (m_script_Schemas S steps) fun q=>bif q.2 != 0 then some ([],[],q.2) else bif (comps.length:Int) != (steps.length:Int) then some ([],[],3) else
 bindK (m_instance_Conforms S source) fun e=>bif e != 0 then some ([],[],e) else bindK (m_instance_Clone source) fun inst=>
 forK (fun (i:Nat) (step:Stp) (s:List Rel × List (List Rel)) next=>getK q.1 i fun sch=>getK comps i fun c=>bindK (m_lens_Forward sch step s.1 c) fun r=>
  bif r.2.2 != 0 then some ([],[],r.2.2) else next (r.1,s.2.set i r.2.1)) (fun s=>some (s.1,s.2,0)) steps 0 (inst,List.replicate steps.length [])
def m_script_Backward (S:Sch) (steps:List Stp) (target:List Rel) (comps:List (List Rel)):Option (List Rel × List (List Rel) × Int):=
 bindK (m_script_Schemas S steps) fun q=>bif q.2 != 0 then some ([],[],q.2) else bif (comps.length:Int) != (steps.length:Int) then some ([],[],3) else
 getK q.1 steps.length fun last=>bindK (m_instance_Conforms last target) fun e=>bif e != 0 then some ([],[],e) else bindK (m_instance_Clone target) fun inst=>
 whileK (fun (s:Int × List Rel × List (List Rel)) next=>bif decide (0≤s.1) then getK q.1 s.1 fun sch=>getK steps s.1 fun step=>getK comps s.1 fun c=>bindK (m_lens_Backward sch step s.2.1 c) fun r=>
  bif r.2.2 != 0 then some ([],[],r.2.2) else next (s.1 - 1,r.1,s.2.2.set s.1.toNat r.2.1) else some (s.2.1,s.2.2,0)) (steps.length+1) ((steps.length:Int) - 1,inst,List.replicate steps.length [])
abbrev encI_ (inst:List Rel):D:=.sl (inst.map Rel.enc)
theorem c_script_Forward (S:Sch) (steps:List Stp) (source:List Rel) (comps:List (List Rel)) (r:List Rel × List (List Rel) × Int) (hm:Is (m_script_Forward S steps source comps) r) :
  PSpec Tryz.prog 100 [.agg S.enc,.one (.d (.sl (steps.map Stp.enc))),.one (.d (.sl (source.map Rel.enc))),.one (.d (.sl (comps.map (encL Rel.enc))))] (.tup [.one (.d (.sl (r.1.map Rel.enc))),.one (.d (.sl (r.2.1.map (encL Rel.enc)))),.one (.d (.int .i64 r.2.2))]):=by
 unfold m_script_Forward at hm
 refine PSpec.of_heap ?_
 show HSpec _ _ [.agg (S.enc.map C.d),.one (.d (.sl (steps.map Stp.enc))),.one (.d (.sl (source.map Rel.enc))),.one (.d (.sl (comps.map (encL Rel.enc))))] HS.init _
 refine HSpec.of_vc Tryz.func100 rfl (by kernel_rfl) (n:=74) rfl rfl (by simp) ?_
 obtain⟨q,hq,hm⟩:=hm.bind
 simp
 refine callK_fn (c_script_Schemas S steps q hq) (by simp) ?_
 simp
 refine r_cond hm ?_ ?_<;>clear hm<;>intro hc hm
 ·obtain rfl:=r_ret hm
  simp[retH,resVs,resV,notTup]
  exact⟨.data rfl,.data rfl,.data rfl,trivial⟩
 simp
 intro hcl hsl
 refine r_cond hm ?_ ?_<;>clear hm<;>intro hc2 hm
 ·obtain rfl:=r_ret hm
  simp[retH,resVs,resV,notTup]
  exact⟨.data rfl,.data rfl,.data rfl,trivial⟩
 obtain⟨e,he,hm⟩:=hm.bind
 simp
 refine callK_fn ((c_instance_Conforms S source).h e he) (by simp) ?_
 simp
 refine r_cond hm ?_ ?_<;>clear hm<;>intro hc3 hm
 ·obtain rfl:=r_ret hm
  simp[retH,resVs,resV,notTup]
  exact⟨.data rfl,.data rfl,.data rfl,trivial⟩
 obtain⟨inst,hi,hm⟩:=hm.bind
 simp
 refine callK_fn ((c_instance_Clone source).h inst hi) (by simp) ?_
 simp
 intro hsl1
 refine⟨by omega,fun hsl2=>?_⟩
 refine Wait.for (xs:=steps) (s0:=(inst,List.replicate steps.length [])) (fun i s e h'=>∃ c,e.n=74∧e.get 3=.one (.d (.sl (comps.map (encL Rel.enc))))∧e.get 11=.one (.d (.sl (q.1.map Sch.enc)))∧e.get 14=.one (.d (.sl (s.1.map Rel.enc)))∧e.get 15=.one c ∧
  e.get 43=.one (.d (.sl (steps.map Stp.enc)))∧e.get 44=.one (.d (.int .i64 (steps.length:Int)))∧e.get 45=.one (.d (.int .i64 (i:Int)))∧CellsAt h' c (s.2.map encI_)∧s.2.length=steps.length∧∀ k ∈ labs c,k.1 < h'.ep) hm
  ⟨.mrow (4,672) 0 steps.length steps.length,by simp,by simp,by simp,by simp,by simp,by simp,by simp,by simp,?_,by simp,by simp[labs]⟩ ?_ ?_
 ·rw[List.map_replicate]
  refine CellsAt.make (zc:=.nil) ?_ rfl (by omega)
  simp
 ·rintro i s e h' ⟨c,en,e3,e11,e14,e15,e43,e44,e45,mC,hsn,hlc⟩ hlt hm
  have hw:IntKind.i64.wrap ((i:Int)+1)=(i:Int)+1:=IntWalk.i64_in _ (by omega)
  obtain⟨sch,hsch,hm⟩:=hm.getN
  obtain⟨cm,hcm,hm⟩:=hm.getN
  obtain⟨r2,hr2,hm⟩:=hm.bind
  have hi2:i < (s.2.map encI_).length:=by simp;omega
  obtain⟨lr,cap,bs,rfl,hbr,hbl,-,hset⟩:=mC.at hi2
  simp at hi2
  have hlr:lr.1 < h'.ep:=hlc lr (by simp[labs])
  have hno:=ne_new hlr
  have hno':=ne_new' hlr
  simp[en,e3,e11,e14,e15,e43,e44,e45,hlt]
  refine Wait.cut (Plan.then_ [0,1,2,3,4,5,6,7,8,9,10,11,12,13,14,15,16,17,18,19,20] .done) follows (by kernel_rfl) (fun e1 h1=>e1.n=74∧e1.get 3=.one (.d (.sl (comps.map (encL Rel.enc))))∧e1.get 11=.one (.d (.sl (q.1.map Sch.enc)))∧e1.get 14=.one (.d (.sl (r2.1.map Rel.enc)))∧e1.get 15=.one (.mrow lr 0 (s.2.map encI_).length cap) ∧
   e1.get 43=.one (.d (.sl (steps.map Stp.enc)))∧e1.get 44=.one (.d (.int .i64 (steps.length:Int)))∧e1.get 45=.one (.d (.int .i64 (i:Int)))∧e1.get 12=.one (.d (.int .i64 r2.2.2))∧CellsAt h1 (.mrow lr 0 (s.2.map encI_).length cap) ((s.2.set i r2.2.1).map encI_)∧lr.1 < h1.ep) ?_ ?_
  ·simp[Plan.then_,vcPlan,planOps,isCallAt,callKind,en,e3,e11,e14,e15,e43,e44,e45,hsch,hcm]
   refine callK_fn (c_lens_Forward sch steps[i] s.1 cm r2 hr2) (by simp) ?_
   simp[Plan.then_,vcPlan,planOps,isCallAt,callKind,en,e3,e11,e14,e15,e43,e44,e45,hsch,hcm,hi2,hbr,hno,hno',hbl]
   refine⟨fun _ _ x=>x,?_⟩
   try simp[Plan.then_,vcPlan,planOps,isCallAt,callKind,en,e3,e11,e14,e15,e43,e44,e45,hsch,hcm,hi2,hbr,hno,hno',hbl]
   refine CutK.of ⟨by simp[en],by simp[e3,en],by simp[e11,en],by simp[en],by simp[e15,en],by simp[e43,en],by simp[e44,en],by simp[e45,en],by simp[en],?_,?_⟩
   ·rw[List.map_set]
    exact hset _ _ _ rfl
   ·simp
    omega
  ·rintro e1 h1 ⟨en,e3,e11,e14,e15,e43,e44,e45,e12,mC,hlr⟩
   simp[en,e3,e11,e14,e15,e43,e44,e45,e12,hw]
   refine r_cond hm ?_ ?_<;>clear hm<;>intro hc hm
   ·obtain rfl:=r_ret hm
    simp[retH,resVs,resV,notTup,en,e12]
    exact⟨.data rfl,.data rfl,.data rfl,trivial⟩
   ·simp[en,e3,e11,e14,e15,e43,e44,e45,e12,hw]
    exact BackF.of (r2.1,s.2.set i r2.2.1) ⟨⟨_,by simp[en],by simp[e3],by simp[e11],by simp[e14],by simp[e15],by simp[e43],by simp[e44],by simp,mC,by simpa using hsn,by simpa[labs] using hlr⟩,hm⟩
 ·rintro s e h' ⟨c,en,e3,e11,e14,e15,e43,e44,e45,mC,hsn,hlc⟩ hm
  obtain rfl:=r_ret hm
  simp[retH,resVs,resV,notTup,en,e3,e11,e14,e15,e43,e44,e45]
  refine⟨.data rfl,?_,.data rfl,trivial⟩
  have e1:(s.2.map encI_).map (fun d=>[d])=s.2.map (encL Rel.enc):=by rw[List.map_map];rfl
  show Frz h' c _
  rw[← e1]
  exact mC.frz
theorem c_script_Backward (S:Sch) (steps:List Stp) (target:List Rel) (comps:List (List Rel)) (r:List Rel × List (List Rel) × Int) (hm:Is (m_script_Backward S steps target comps) r) :
  PSpec Tryz.prog 101 [.agg S.enc,.one (.d (.sl (steps.map Stp.enc))),.one (.d (.sl (target.map Rel.enc))),.one (.d (.sl (comps.map (encL Rel.enc))))] (.tup [.one (.d (.sl (r.1.map Rel.enc))),.one (.d (.sl (r.2.1.map (encL Rel.enc)))),.one (.d (.int .i64 r.2.2))]):=by
 unfold m_script_Backward at hm
 refine PSpec.of_heap ?_
 show HSpec _ _ [.agg (S.enc.map C.d),.one (.d (.sl (steps.map Stp.enc))),.one (.d (.sl (target.map Rel.enc))),.one (.d (.sl (comps.map (encL Rel.enc))))] HS.init _
 refine HSpec.of_vc Tryz.func101 rfl (by kernel_rfl) (n:=79) rfl rfl (by simp) ?_
 obtain⟨q,hq,hm⟩:=hm.bind
 simp
 refine callK_fn (c_script_Schemas S steps q hq) (by simp) ?_
 simp
 refine r_cond hm ?_ ?_<;>clear hm<;>intro hc hm
 ·obtain rfl:=r_ret hm
  simp[retH,resVs,resV,notTup]
  exact⟨.data rfl,.data rfl,.data rfl,trivial⟩
 simp
 intro hcl hsl
 refine r_cond hm ?_ ?_<;>clear hm<;>intro hc2 hm
 ·obtain rfl:=r_ret hm
  simp[retH,resVs,resV,notTup]
  exact⟨.data rfl,.data rfl,.data rfl,trivial⟩
 obtain⟨last,hlast,hm⟩:=hm.getN
 obtain⟨e,he,hm⟩:=hm.bind
 simp
 intro hsl0
 simp[hlast]
 refine callK_fn ((c_instance_Conforms last target).h e he) (by simp) ?_
 simp
 refine r_cond hm ?_ ?_<;>clear hm<;>intro hc3 hm
 ·obtain rfl:=r_ret hm
  simp[retH,resVs,resV,notTup]
  exact⟨.data rfl,.data rfl,.data rfl,trivial⟩
 obtain⟨inst,hi,hm⟩:=hm.bind
 simp
 refine callK_fn ((c_instance_Clone target).h inst hi) (by simp) ?_
 simp
 intro hsl1
 refine⟨by omega,fun hsl2=>?_⟩
 have hw0:IntKind.i64.wrap ((steps.length:Int) - 1)=(steps.length:Int) - 1:=IntWalk.i64_in _ (by omega)
 simp[hw0]
 refine Wait.while (fun s e h'=>∃ c,e.n=79∧e.get 1=.one (.d (.sl (steps.map Stp.enc)))∧e.get 3=.one (.d (.sl (comps.map (encL Rel.enc))))∧e.get 11=.one (.d (.sl (q.1.map Sch.enc)))∧e.get 14=.one (.d (.sl (s.2.1.map Rel.enc)))∧e.get 15=.one c ∧
  e.get 16=.one (.d (.int .i64 s.1))∧CellsAt h' c (s.2.2.map encI_)∧s.2.2.length=steps.length∧-1≤s.1∧s.1 < (steps.length:Int)∧∀ k ∈ labs c,k.1 < h'.ep) hm
  ⟨.mrow (4,720) 0 steps.length steps.length,by simp,by simp,by simp,by simp,by simp,by simp,by simp,?_,by simp,by simp;omega,by simp;omega,by simp[labs]⟩ ?_
 ·show CellsAt _ _ (List.map encI_ (List.replicate steps.length []))
  rw[List.map_replicate]
  refine CellsAt.make (zc:=.nil) ?_ rfl (by omega)
  simp
 ·rintro n ⟨i,ins,cs⟩ e h' ⟨c,en,e1,e3,e11,e14,e15,e16,mC,hsn,hi0,hi1,hlc⟩ hm
  simp only at e14 e16 mC hsn hi0 hi1 hm
  simp[en,e1,e3,e11,e14,e15,e16]
  refine r_cond hm ?_ ?_<;>clear hm<;>intro hc hm
  ·obtain⟨sch,hi2,hsch,hm⟩:=hm.get
   obtain⟨step,-,hstep,hm⟩:=hm.get
   obtain⟨cm,-,hcm,hm⟩:=hm.get
   obtain⟨r2,hr2,hm⟩:=hm.bind
   have hw:IntKind.i64.wrap (i - 1)=i - 1:=IntWalk.i64_in _ (by omega)
   have hi3:i.toNat < (cs.map encI_).length:=by simp;omega
   obtain⟨lr,cap,bs,rfl,hbr,hbl,-,hset⟩:=mC.at hi3
   simp at hi3
   have hlr:lr.1 < h'.ep:=hlc lr (by simp[labs])
   have hno:=ne_new hlr
   have hno':=ne_new' hlr
   simp[en,e1,e3,e11,e14,e15,e16]
   refine Wait.cut (Plan.then_ [0,1,2,3,4,5,6,7,8,9,10,11,12,13,14,15,16,17,18,19,20,21,22,23] .done) follows (by kernel_rfl) (fun e2 h2=>e2.n=79∧e2.get 1=.one (.d (.sl (steps.map Stp.enc)))∧e2.get 3=.one (.d (.sl (comps.map (encL Rel.enc))))∧e2.get 11=.one (.d (.sl (q.1.map Sch.enc)))∧e2.get 14=.one (.d (.sl (r2.1.map Rel.enc)))∧e2.get 15=.one (.mrow lr 0 (cs.map encI_).length cap) ∧
    e2.get 16=.one (.d (.int .i64 i))∧e2.get 12=.one (.d (.int .i64 r2.2.2))∧CellsAt h2 (.mrow lr 0 (cs.map encI_).length cap) ((cs.set i.toNat r2.2.1).map encI_)∧lr.1 < h2.ep) ?_ ?_
   ·simp[Plan.then_,vcPlan,planOps,isCallAt,callKind,en,e1,e3,e11,e14,e15,e16,hi2,hsch,hcm,hstep]
    refine callK_fn (c_lens_Backward sch step ins cm r2 hr2) (by simp) ?_
    simp[Plan.then_,vcPlan,planOps,isCallAt,callKind,en,e1,e3,e11,e14,e15,e16,hi2,hsch,hcm,hstep,hi3,hbr,hno,hno',hbl]
    try refine⟨fun _ _ x=>x,?_⟩
    try simp[Plan.then_,vcPlan,planOps,isCallAt,callKind,en,e1,e3,e11,e14,e15,e16,hi2,hsch,hcm,hstep,hi3,hbr,hno,hno',hbl]
    refine CutK.of ⟨by simp[en],by simp[e1,en],by simp[e3,en],by simp[e11,en],by simp[en],by simp[e15,en],by simp[e16,en],by simp[en],?_,?_⟩
    ·rw[List.map_set]
     exact hset _ _ _ rfl
    ·simp
     omega
   ·rintro e2 h2 ⟨en,e1,e3,e11,e14,e15,e16,e12,mC,hlr⟩
    simp[en,e1,e3,e11,e14,e15,e16,e12,hw]
    refine r_cond hm ?_ ?_<;>clear hm<;>intro hc2 hm
    ·obtain rfl:=r_ret hm
     simp[retH,resVs,resV,notTup,en,e12]
     exact⟨.data rfl,.data rfl,.data rfl,trivial⟩
    ·simp[en,e1,e3,e11,e14,e15,e16,e12,hw]
     exact BackF.of (i - 1,r2.1,cs.set i.toNat r2.2.1) ⟨⟨_,by simp[en],by simp[e1],by simp[e3],by simp[e11],by simp[e14],by simp[e15],by simp,mC,by simpa using hsn,by simp;omega,by simp;omega,by simpa[labs] using hlr⟩,hm⟩
  ·obtain rfl:=r_ret hm
   simp[retH,resVs,resV,notTup,en,e1,e3,e11,e14,e15,e16]
   refine⟨.data rfl,?_,.data rfl,trivial⟩
   have e1:(cs.map encI_).map (fun d=>[d])=cs.map (encL Rel.enc):=by rw[List.map_map];rfl
   show Frz h' c _
   rw[← e1]
   exact mC.frz
end Go.Proofs.YthiojhcimecdgaaGreatDoor
end
section
namespace Go.Proofs.YthiojhcimecdgaaGreatDoor
open Go.Am
set_option maxRecDepth 20000
def m_database_mapSlice_Instance (l:List (List Rel)) (f:(List Rel)→Option (List Rel)):Option ((List (List Rel))):=
 (forK (fun (i2:Nat) (x2:List Rel) (s2:(List (List Rel))) next_2=>(bindK (f x2) fun v3=>(appK2 s2 [v3] fun _=>(next_2 (s2++[v3]))))) (fun (s2:(List (List Rel)))=>(some s2)) l 0 [])
instance i_database_mapSlice_Instance (l:List (List Rel)) (f:(List Rel)→Option (List Rel)) {g:FuncId} {caps:List (List D)} [ConF f Tryz.prog (fun x=>.one (.d (.sl (x.map Rel.enc)))) (fun v=>.one (.d (.sl (v.map Rel.enc)))) g caps]:Con (m_database_mapSlice_Instance l f) Tryz.prog 59 [.one (.d (.sl (l.map (encL Rel.enc)))),.one (.fn g caps)] (fun r=>.one (.d (.sl (r.map (encL Rel.enc))))):=by
 unfold m_database_mapSlice_Instance
 have l1:LH (σ:=(List (List Rel))) 10 [1,8,9] [.g 5 1 (fun s=>s.map (encL Rel.enc))]:=.intro
 exact go 22 Tryz.func59 rfl (by kernel_rfl) rfl rfl (by simp)
set_option maxRecDepth 20000
def m_database_cloneAll (l:List (List Rel)):Option ((List (List Rel))):=
 (bindK (m_database_mapSlice_Instance l (fun xa_=>m_instance_Clone xa_)) fun v1=>(some v1))
instance c_database_cloneAll (l:List (List Rel)):Con (m_database_cloneAll l) Tryz.prog 36 [.one (.d (.sl (l.map (encL Rel.enc))))] (fun r=>.one (.d (.sl (r.map (encL Rel.enc))))):=by
 unfold m_database_cloneAll
 exact go 5 Tryz.func36 rfl (by kernel_rfl) rfl rfl (by simp)
instance f_database_cloneAll  : ConF (fun x=>m_database_cloneAll x) Tryz.prog (fun x=>.one (.d (.sl (x.map (encL Rel.enc))))) (fun r=>.one (.d (.sl (r.map (encL Rel.enc))))) 36 []:=⟨fun x=>(c_database_cloneAll x)⟩
end Go.Proofs.YthiojhcimecdgaaGreatDoor
end
section
namespace Go.Proofs.YthiojhcimecdgaaGreatDoor
open Go Go.Am
abbrev encJ_ (l:List (List Rel)):D:=.sl (l.map (encL Rel.enc))
theorem h_mapSliceI (h:HS) (l:List (List Rel)) (hf:∀ x ∈ l,Is (m_instance_Clone x) x) (K:V→HS→Prop) (hk:∀ c h',CellsAt h' c (l.map encI_)→(∀ k ∈ labs c,h.ep≤k.1∧k.1 < h'.ep)→Same h h' []→BoxLe h h'→K (.one c) h') :
  HSpec Tryz.prog 59 [.one (.d (.sl (l.map (encL Rel.enc)))),.one (.fn 24 [])] h K:=by
 refine HSpec.good Tryz.func59 rfl (by kernel_rfl) fun hg=>?_
 refine HSpec.of_vc Tryz.func59 rfl (by kernel_rfl) (n:=22) rfl rfl (by simp) ?_
 have hm:Is (forK (fun (_:Nat) x s next=>next (s++[x])) (fun s=>some s) l 0 []) l:=by rw[forK_id];rfl
 simp
 intro hil
 refine Wait.for (xs:=l) (s0:=[]) (fun i s e h'=>∃ c,e.n=22∧e.get 1=.one (.fn 24 [])∧e.get 5=.one c∧e.get 8=.one (.d (.sl (l.map (encL Rel.enc))))∧e.get 9=.one (.d (.int .i64 (l.length:Int)))∧e.get 10=.one (.d (.int .i64 (i:Int)))∧CellsAt h' c (s.map encI_)∧s.length=i∧Same h h' []∧∀ k ∈ labs c,h.ep≤k.1∧k.1 < h'.ep) hm
  ⟨.nil,by simp,by simp,by simp,by simp,by simp,by simp,⟨[],by simpa[ones] using MR.nil,rfl⟩,rfl,.refl,by simp[labs]⟩ ?_ ?_
 ·rintro i s e h' ⟨c,en,e1,e5,e8,e9,e10,mC,hsl,hs,hl⟩ hlt hm
  have hw:IntKind.i64.wrap ((i:Int)+1)=(i:Int)+1:=IntWalk.i64_in _ (by omega)
  obtain⟨rs,hmr,he⟩:=mC
  have hrl:rs.length=s.length:=by have:=congrArg List.length he;simpa using this
  simp[en,e1,e5,e8,e9,e10,hlt]
  refine callK_fn ((c_instance_Clone l[i]).h l[i] (hf _ (List.getElem_mem hlt))) (by simp) ?_
  simp[en,e1,e5,e8,e9,e10,hlt]
  refine app_mr ty_el22 (by kernel_rfl) (by decide) (by decide) (hmr.frame fun k hk=>?_) (RowAt.own1 rfl) (by simp[ones];omega) fun c' h2 hm2 hs2 hl2=>?_
  ·simp
  simp[en,e1,e5,e8,e9,e10,hw]
  have hs3:Same h h2 []:=Same.trans' (Same.trans hs ?_) hs2 fun k hk=>.inr (hl k hk).1
  ·refine BackF.of (s++[l[i]]) ⟨⟨c',by simp[en],by simp[e1],by simp,by simp[e8],by simp[e9],by simp,⟨rs++[.d (encI_ l[i])],by simpa[ones] using hm2,by simp[he,C.toD]⟩,by simp[hsl],hs3,fun k hk=>?_⟩,hm⟩
   rcases hl2 k hk with h9 | h9
   ·have:=hl k h9
    have:=hs2.1
    simp at this
    omega
   ·have:=hs.1
    simp at h9
    omega
  ·repeat' first | exact Same.refl | apply Same.next | apply Same.setArr
 ·rintro s e h' ⟨c,en,e1,e5,e8,e9,e10,mC,hsl,hs,hl⟩ hm
  obtain rfl:=r_ret hm
  simp[en,e1,e5,e8,e9,e10]
  exact hk _ _ mC hl hs (hs.boxLe hg)
theorem h_mapSliceJ (h:HS) (l:List (List (List Rel))) (hf:∀ x ∈ l,Is (m_database_cloneAll x) x) (K:V→HS→Prop) (hk:∀ c h',CellsAt h' c (l.map encJ_)→(∀ k ∈ labs c,h.ep≤k.1∧k.1 < h'.ep)→Same h h' []→BoxLe h h'→K (.one c) h') :
  HSpec Tryz.prog 37 [.one (.d (.sl (l.map (encL (encL Rel.enc))))),.one (.fn 36 [])] h K:=by
 refine HSpec.good Tryz.func37 rfl (by kernel_rfl) fun hg=>?_
 refine HSpec.of_vc Tryz.func37 rfl (by kernel_rfl) (n:=22) rfl rfl (by simp) ?_
 have hm:Is (forK (fun (_:Nat) x s next=>next (s++[x])) (fun s=>some s) l 0 []) l:=by rw[forK_id];rfl
 simp
 intro hil
 refine Wait.for (xs:=l) (s0:=[]) (fun i s e h'=>∃ c,e.n=22∧e.get 1=.one (.fn 36 [])∧e.get 5=.one c∧e.get 8=.one (.d (.sl (l.map (encL (encL Rel.enc)))))∧e.get 9=.one (.d (.int .i64 (l.length:Int)))∧e.get 10=.one (.d (.int .i64 (i:Int)))∧CellsAt h' c (s.map encJ_)∧s.length=i∧Same h h' []∧∀ k ∈ labs c,h.ep≤k.1∧k.1 < h'.ep) hm
  ⟨.nil,by simp,by simp,by simp,by simp,by simp,by simp,⟨[],by simpa[ones] using MR.nil,rfl⟩,rfl,.refl,by simp[labs]⟩ ?_ ?_
 ·rintro i s e h' ⟨c,en,e1,e5,e8,e9,e10,mC,hsl,hs,hl⟩ hlt hm
  have hw:IntKind.i64.wrap ((i:Int)+1)=(i:Int)+1:=IntWalk.i64_in _ (by omega)
  obtain⟨rs,hmr,he⟩:=mC
  have hrl:rs.length=s.length:=by have:=congrArg List.length he;simpa using this
  simp[en,e1,e5,e8,e9,e10,hlt]
  refine callK_fn ((c_database_cloneAll l[i]).h l[i] (hf _ (List.getElem_mem hlt))) (by simp) ?_
  simp[en,e1,e5,e8,e9,e10,hlt]
  refine app_mr ty_el23 (by kernel_rfl) (by decide) (by decide) (hmr.frame fun k hk=>?_) (RowAt.own1 rfl) (by simp[ones];omega) fun c' h2 hm2 hs2 hl2=>?_
  ·simp
  simp[en,e1,e5,e8,e9,e10,hw]
  have hs3:Same h h2 []:=Same.trans' (Same.trans hs ?_) hs2 fun k hk=>.inr (hl k hk).1
  ·refine BackF.of (s++[l[i]]) ⟨⟨c',by simp[en],by simp[e1],by simp,by simp[e8],by simp[e9],by simp,⟨rs++[.d (encJ_ l[i])],by simpa[ones] using hm2,by simp[he,C.toD]⟩,by simp[hsl],hs3,fun k hk=>?_⟩,hm⟩
   rcases hl2 k hk with h9 | h9
   ·have:=hl k h9
    have:=hs2.1
    simp at this
    omega
   ·have:=hs.1
    simp at h9
    omega
  ·repeat' first | exact Same.refl | apply Same.next | apply Same.setArr
 ·rintro s e h' ⟨c,en,e1,e5,e8,e9,e10,mC,hsl,hs,hl⟩ hm
  obtain rfl:=r_ret hm
  simp[en,e1,e5,e8,e9,e10]
  exact hk _ _ mC hl hs (hs.boxLe hg)
theorem h_cloneAllC (h:HS) (l:List (List Rel)) (hf:∀ x ∈ l,Is (m_instance_Clone x) x) (K:V→HS→Prop) (hk:∀ c h',CellsAt h' c (l.map encI_)→(∀ k ∈ labs c,h.ep≤k.1∧k.1 < h'.ep)→Same h h' []→BoxLe h h'→K (.one c) h') :
  HSpec Tryz.prog 36 [.one (.d (.sl (l.map (encL Rel.enc))))] h K:=by
 refine HSpec.of_vc Tryz.func36 rfl (by kernel_rfl) (n:=5) rfl rfl (by simp) ?_
 simp
 refine callK_heap (h_mapSliceI h l hf _ fun c h' m hl hs hb=>?_)
 simp
 exact hk c h' m hl hs hb
theorem h_database_CloneC (h:HS) (db:Db) (hf:∀ x ∈ db.insts,Is (m_instance_Clone x) x) (hg:∀ x ∈ db.comps,Is (m_database_cloneAll x) x) (K:V→HS→Prop) (hk:∀ ci cc h',CellsAt h' ci (db.insts.map encI_)→CellsAt h' cc (db.comps.map encJ_)→(∀ k ∈ labs ci++labs cc,h.ep≤k.1∧k.1 < h'.ep)→(∀ k ∈ labs ci,k ∉ labs cc)→Same h h' []→K (.agg [ci,cc]) h') :
  HSpec Tryz.prog 9 [.agg (db.enc.map C.d)] h K:=by
 refine HSpec.of_vc Tryz.func9 rfl (by kernel_rfl) (n:=10) rfl rfl (by simp) ?_
 simp
 refine Wait.cut (Plan.then_ [0,1,3,4,2,5,6,7] .done) follows (by kernel_rfl) (fun e1 h1=>∃ ci cc,e1.n=10∧e1.get 2=.one (.ptr (h.ep+1,32) 0)∧h1.box (h.ep+1,32)=some [ci,cc]∧CellsAt h1 ci (db.insts.map encI_)∧CellsAt h1 cc (db.comps.map encJ_)∧(∀ k ∈ labs ci++labs cc,h.ep≤k.1∧k.1 < h1.ep)∧(∀ k ∈ labs ci,k ∉ labs cc)∧Same h h1 []) ?_ ?_
 ·simp[Plan.then_,vcPlan,planOps,isCallAt,callKind]
  refine callK_heap (h_cloneAllC _ db.insts hf _ fun ci h1 m1 hl1 hs1 hb1=>?_)
  simp[Plan.then_,vcPlan,planOps,isCallAt,callKind]
  refine⟨hb1,callK_heap (h_mapSliceJ _ db.comps hg _ fun cc h2 m2 hl2 hs2 hb2=>?_)⟩
  have b2:=hs2.2 (h.ep+1,32) (by have:=hs1.1;simp at this ⊢;omega) (by simp)
  have b1:=hs1.2 (h.ep+1,32) (by simp) (by simp)
  simp at b1
  rw[b1] at b2
  simp[Plan.then_,vcPlan,planOps,isCallAt,callKind,b2]
  refine⟨hb2,?_⟩
  have hep1:=hs1.1
  have hep2:=hs2.1
  simp at hep1
  have hA:∀ k ∈ labs ci,h.ep+1 < k.1∧k.1 < h1.ep:=fun k hk=>by have:=hl1 k hk;simp at this;omega
  have hB:∀ k ∈ labs cc,h1.ep≤k.1∧k.1 < h2.ep:=fun k hk=>hl2 k hk
  refine CutK.of ⟨ci,cc,by simp,by simp,by simp,m1.frame fun k hk=>?_,m2.frame fun k hk=>?_,fun k hk=>?_,fun k hk h9=>?_,?_⟩
  ·have:=hA k hk
   have h3:k≠(h.ep+1,32):=by rintro rfl;simp at this
   simp[h3]
   exact hs2.2 k this.2 (by simp)
  ·have:=hB k hk
   have h3:k≠(h.ep+1,32):=by rintro rfl;simp at this;omega
   simp[h3]
  ·simp
   rcases List.mem_append.1 hk with h9 | h9
   ·have:=hA k h9;omega
   ·have:=hB k h9;omega
  ·have:=hA k hk
   have:=hB k h9
   omega
  ·refine Same.setBox (Same.trans (Same.trans ?_ hs1) hs2) (.inr (by simp))
   repeat' first | exact Same.refl | apply Same.next | apply Same.setArr | (refine Same.setBox ?_ (.inr (by simp)))
 ·rintro e1 h1 ⟨ci,cc,en,e2,b2,m1,m2,hl,hd,hs⟩
  simp[retH,resVs,resV,notTup,en,e2,b2]
  exact hk ci cc h1 m1 m2 hl hd hs
structure MC (h:HS) (gs:List (C × List D)):Prop where
 row:∀ g ∈ gs,CellsAt h g.1 g.2
 lt:∀ g ∈ gs,∀ k ∈ labs g.1,k.1 < h.ep
 dis:(gs.flatMap fun g=>labs g.1).Nodup
theorem MC.new {h h':HS} {gs:List (C × List D)} (m:MC h gs) (hs:Same h h' []):MC h' gs:=
 ⟨fun g hg=>(m.row g hg).frame fun k hk=>hs.2 k (m.lt g hg k hk) (by simp),fun g hg k hk=>Nat.lt_of_lt_of_le (m.lt g hg k hk) hs.1,m.dis⟩
theorem dis_two:∀ {xs:List (C × List D)},(xs.flatMap fun g=>labs g.1).Nodup→∀ {k1 k2:Nat} {g1 g2:C × List D},xs[k1]?=some g1→xs[k2]?=some g2→k1≠k2→∀ k ∈ labs g1.1,k ∉ labs g2.1
 | [],_,k1,_,_,_,h1,_,_,_,_=>by simp at h1
 | y::ys,hn,0,0,_,_,_,_,hne,_,_=>absurd rfl hne
 | y::ys,hn,0,k2+1,g1,g2,h1,h2,hne,k,hk=>fun h9=>by
   rw[List.flatMap_cons,List.nodup_append] at hn
   simp at h1 h2
   subst h1
   exact hn.2.2 k hk k (List.mem_flatMap.2 ⟨g2,List.mem_of_getElem? h2,h9⟩) rfl
 | y::ys,hn,k1+1,0,g1,g2,h1,h2,hne,k,hk=>fun h9=>by
   rw[List.flatMap_cons,List.nodup_append] at hn
   simp at h1 h2
   subst h2
   exact hn.2.2 k h9 k (List.mem_flatMap.2 ⟨g1,List.mem_of_getElem? h1,hk⟩) rfl
 | y::ys,hn,k1+1,k2+1,g1,g2,h1,h2,hne,k,hk=>by
   rw[List.flatMap_cons,List.nodup_append] at hn
   exact dis_two hn.2.1 (by simpa using h1) (by simpa using h2) (by omega) k hk
theorem MC.set {h h':HS} {gs:List (C × List D)} {j:Nat} {g:C × List D} {ds:List D} (m:MC h gs) (hj:gs[j]?=some g) (hc:CellsAt h' g.1 ds) (hs:Same h h' (labs g.1)):MC h' (gs.set j (g.1,ds)):=by
 have hjl:=(List.getElem?_eq_some_iff.1 hj).1
 have hset:∀ (k1:Nat) (g1:C × List D),(gs.set j (g.1,ds))[k1]?=some g1→(k1=j∧g1=(g.1,ds))∨(k1≠j∧gs[k1]?=some g1):=by
  intro k1 g1 h1
  rw[List.getElem?_set] at h1
  by_cases he:j=k1
  ·subst he
   simp[hjl] at h1
   exact .inl ⟨rfl,h1.symm⟩
  ·rw[if_neg he] at h1
   exact .inr ⟨fun h9=>he h9.symm,h1⟩
 refine⟨fun g1 hg1=>?_,fun g1 hg1 k hk=>?_,?_⟩
 ·obtain⟨k1,hk1⟩:=List.getElem?_of_mem hg1
  rcases hset k1 g1 hk1 with ⟨_,rfl⟩ | ⟨hne,h1⟩
  ·exact hc
  ·exact (m.row g1 (List.mem_of_getElem? h1)).frame fun k hk=>hs.2 k (m.lt g1 (List.mem_of_getElem? h1) k hk) (dis_two m.dis h1 hj hne k hk)
 ·obtain⟨k1,hk1⟩:=List.getElem?_of_mem hg1
  rcases hset k1 g1 hk1 with ⟨_,rfl⟩ | ⟨hne,h1⟩
  ·exact Nat.lt_of_lt_of_le (m.lt g (List.mem_of_getElem? hj) k hk) hs.1
  ·exact Nat.lt_of_lt_of_le (m.lt g1 (List.mem_of_getElem? h1) k hk) hs.1
 ·have:(gs.set j (g.1,ds)).map Prod.fst=gs.map Prod.fst:=by
   rw[List.map_set]
   refine List.ext_getElem? fun i=>?_
   rw[List.getElem?_set]
   by_cases he:j=i
   ·subst he
    rw[List.getElem?_map,hj]
    simp[hjl]
   ·simp[he]
  have e1:∀ xs:List (C × List D),(xs.flatMap fun g=>labs g.1)=(xs.map Prod.fst).flatMap labs:=fun xs=>by rw[List.flatMap_map]
  rw[e1,this,← e1]
  exact m.dis
theorem MC.at {h:HS} {gs:List (C × List D)} {j i:Nat} {g:C × List D} (m:MC h gs) (hj:gs[j]?=some g) (hi:i < g.2.length):∃ lr cap bs,g.1=.mrow lr 0 g.2.length cap∧h.box lr=some bs∧i+1≤bs.length∧lr.1 < h.ep∧(∃ x,takeN 1 (bs.drop i)=some [x]∧some (x.toD)=some (g.2[i]?)) ∧
  ∀ (h2:HS) (gs':List (C × List D)) (x:C) (d:D),MC h2 gs'→gs'[j]?=some g→x.toD=some d→MC (h2.setBox lr (setCells bs i [x])) (gs'.set j (g.1,g.2.set i d)):=by
 obtain⟨lr,cap,bs,h1,h2,h3,h4,h5⟩:=(m.row g (List.mem_of_getElem? hj)).at hi
 have hl:lr ∈ labs g.1:=by rw[h1];simp[labs]
 refine⟨lr,cap,bs,h1,h2,h3,m.lt g (List.mem_of_getElem? hj) lr hl,h4,fun H gs' x d m' hj' hx=>?_⟩
 exact m'.set hj' (h5 H x d hx) (Same.refl.setBox (.inl hl))
abbrev RelSh:List Sh:=[.d,.r [RowSh]]
abbrev InstSh:Sh:=.r RelSh
theorem GrowP.ow {h h':HS} {sh:List Sh} {c:C} {ds:List (List D)} (g:GrowP h h' sh c ds):∃ ls,OwN h h' [.r sh] [c] [.sl ds] ls:=by
 obtain⟨qs,p,nd,hl,s⟩:=g
 have:=Ow.row (ss:=[]) (cs:=[]) (ds:=[]) (ls:=[]) p.mr p.ow .nil
 rw[p.ds] at this
 refine⟨plabs c qs,?_,nd,hl,s⟩
 simpa[plabs] using this
def InstL (x:List Rel):Prop:=x.length≤2097152∧∀ r ∈ x,r.rows.length≤2097152∧∀ row ∈ r.rows,row.length≤2097152
theorem h_instance_CloneD (h:HS) (inst:List Rel) (hok:InstL inst) (K:V→HS→Prop)
  (hk:∀ c h',GrowP h h' RelSh c (inst.map Rel.enc)→BoxLe h h'→K (.one c) h') :
  HSpec Tryz.prog 24 [.one (.d (.sl (inst.map Rel.enc)))] h K:=by
 refine HSpec.good Tryz.func24 rfl (by kernel_rfl) fun hg=>?_
 refine HSpec.of_vc Tryz.func24 rfl (by kernel_rfl) (n:=23) rfl rfl (by simp) ?_
 have hm:Is (forK (fun (_:Nat) x s next=>next (s++[x])) (fun s=>some s) inst 0 []) inst:=by rw[forK_id];rfl
 simp
 intro hil
 refine Wait.for (xs:=inst) (s0:=[]) (fun i s e h'=>∃ c,e.n=23∧e.get 3=.one c∧e.get 6=.one (.d (.sl (inst.map Rel.enc)))∧e.get 7=.one (.d (.int .i64 (inst.length:Int)))∧e.get 8=.one (.d (.int .i64 (i:Int)))∧GrowP h h' RelSh c (s.map Rel.enc)∧s.length=i) hm ⟨.nil,by simp,by simp,by simp,by simp,by simp,.nil,rfl⟩ ?_ ?_
 ·rintro i s e h' ⟨c,en,e3,e6,e7,e8,g,hsl⟩ hlt hm
  have hw:IntKind.i64.wrap ((i:Int)+1)=(i:Int)+1:=IntWalk.i64_in _ (by omega)
  have hri:=hok.2 _ (List.getElem_mem hlt)
  simp[en,e3,e6,e7,e8,hlt]
  refine Wait.cut (Plan.then_ [0,1,2,3,4,5,6,7,8,9] .done) follows (by kernel_rfl) (fun e1 h1=>∃ c2,e1.n=23∧e1.get 3=.one c2∧e1.get 6=.one (.d (.sl (inst.map Rel.enc)))∧e1.get 7=.one (.d (.int .i64 (inst.length:Int)))∧e1.get 8=.one (.d (.int .i64 (i:Int)))∧GrowP h h1 RelSh c2 ((s++[inst[i]]).map Rel.enc)) ?_ ?_
  ·simp[en,e3,e6,e7,e8,Plan.then_,vcPlan,planOps,isCallAt,callKind]
   refine callK_heap (h_relation_CloneO _ inst[i].rows hri.2 _ fun c1 h1 g1 hb1=>?_)
   have hsc:=g1.same
   simp[en,e3,e6,e7,e8,Plan.then_,vcPlan,planOps,isCallAt,callKind]
   refine⟨hb1,?_⟩
   obtain⟨l1,ow1⟩:=g1.ow
   have ho:Ow h1 RelSh [.d (.str inst[i].table),c1] (Rel.enc inst[i]) l1:=by
    have:=Ow.data (c:=.d (.str inst[i].table)) (x:=.str inst[i].table) rfl ow1.ow
    exact this
   have hs1:Same h' h1 []:=Same.trans (by repeat' first | exact Same.refl | apply Same.next | apply Same.setArr | (refine Same.setBox ?_ (.inr (by simp)))) hsc
   have hnew:∀ k ∈ l1,h'.ep≤k.1∧k.1 < h1.ep:=fun k hk=>by have:=ow1.new k hk;simp at this;omega
   refine bld_ow (x:=[.d (.str inst[i].table),c1]) (by simp only[toDs];cases c1.toD<;>rfl) rfl (fun d hd=>?_) (fun hd=>?_)
   ·obtain⟨rfl,hd2⟩:=ho.ofD hd
    simp[en,e3,e6,e7,e8,Plan.then_,vcPlan,planOps,isCallAt,callKind]
    refine GrowP.app g (hs1.trans ((Same.refl.setArr).next)) ty_el39 (by kernel_rfl) (by decide) (by decide) (RowAt.own1 rfl) rfl (hd2 _) (by simp) (by simp) (by simpa using (by omega:s.length+1≤2097152)) fun c' h3' hg' hs3=>?_
    simp[en,e3,e6,e7,e8,Plan.then_,vcPlan,planOps,isCallAt,callKind]
    exact CutK.of ⟨c',by simp[en],by simp,by simp[e6,en],by simp[e7,en],by simp[e8,en],by simpa using hg'⟩
   ·simp[en,e3,e6,e7,e8,Plan.then_,vcPlan,planOps,isCallAt,callKind]
    have hs2:Same h1 ((h1.setBox (h1.ep,304) [.d (.str inst[i].table),c1]).next) []:=(Same.refl.setBox (.inr (by simp))).next
    refine GrowP.app g (hs1.trans hs2) ty_el39 (by kernel_rfl) (by decide) (by decide) (RowAt.new1 rfl (by simp)) rfl (ho.frame fun k hk=>hs2.2 k (hnew k hk).2 (by simp)) ow1.nd (fun k hk=>⟨(hnew k hk).1,Nat.lt_of_lt_of_le (hnew k hk).2 hs2.1⟩) (by simpa using (by omega:s.length+1≤2097152)) fun c' h3' hg' hs3=>?_
    simp[en,e3,e6,e7,e8,Plan.then_,vcPlan,planOps,isCallAt,callKind]
    exact CutK.of ⟨c',by simp[en],by simp,by simp[e6,en],by simp[e7,en],by simp[e8,en],by simpa using hg'⟩
  ·rintro e1 h1 ⟨c2,en,e3,e6,e7,e8,g1⟩
   simp[en,e3,e6,e7,e8,hw]
   exact BackF.of (s++[inst[i]]) ⟨⟨c2,by simp[en],by simp[e3],by simp[e6],by simp[e7],by simp,g1,by simp[hsl]⟩,hm⟩
 ·rintro s e h' ⟨c,en,e3,e6,e7,e8,g,hsl⟩ hm
  obtain rfl:=r_ret hm
  simp[e3,e7,e8,en]
  exact hk _ _ g (g.same.boxLe hg)
theorem h_mapSliceID (h:HS) (l:List (List Rel)) (hf:∀ x ∈ l,InstL x) (K:V→HS→Prop) (hk:∀ c h',GrowP h h' [InstSh] c (l.map (encL Rel.enc))→BoxLe h h'→K (.one c) h') :
  HSpec Tryz.prog 59 [.one (.d (.sl (l.map (encL Rel.enc)))),.one (.fn 24 [])] h K:=by
 refine HSpec.good Tryz.func59 rfl (by kernel_rfl) fun hg=>?_
 refine HSpec.of_vc Tryz.func59 rfl (by kernel_rfl) (n:=22) rfl rfl (by simp) ?_
 have hm:Is (forK (fun (_:Nat) x s next=>next (s++[x])) (fun s=>some s) l 0 []) l:=by rw[forK_id];rfl
 simp
 intro hil
 refine Wait.for (xs:=l) (s0:=[]) (fun i s e h'=>∃ c,e.n=22∧e.get 1=.one (.fn 24 [])∧e.get 5=.one c∧e.get 8=.one (.d (.sl (l.map (encL Rel.enc))))∧e.get 9=.one (.d (.int .i64 (l.length:Int)))∧e.get 10=.one (.d (.int .i64 (i:Int)))∧GrowP h h' [InstSh] c (s.map (encL Rel.enc))∧s.length=i) hm
  ⟨.nil,by simp,by simp,by simp,by simp,by simp,by simp,.nil,rfl⟩ ?_ ?_
 ·rintro i s e h' ⟨c,en,e1,e5,e8,e9,e10,g,hsl⟩ hlt hm
  have hw:IntKind.i64.wrap ((i:Int)+1)=(i:Int)+1:=IntWalk.i64_in _ (by omega)
  simp[en,e1,e5,e8,e9,e10,hlt]
  refine callK_heap (h_instance_CloneD _ l[i] (hf _ (List.getElem_mem hlt)) _ fun c1 h1 g1 hb1=>?_)
  have hs1:=g1.same
  obtain⟨l1,ow1⟩:=g1.ow
  simp[en,e1,e5,e8,e9,e10,hlt]
  refine bld_ow (x:=[c1]) (by simp only[toDs];cases c1.toD<;>rfl) rfl (fun d hd=>?_) (fun hd=>?_)
  ·obtain⟨rfl,hd2⟩:=ow1.ow.ofD hd
   simp[en,e1,e5,e8,e9,e10]
   refine GrowP.app g (hs1.trans ((Same.refl.setArr).next)) ty_el22 (by kernel_rfl) (by decide) (by decide) (RowAt.own1 rfl) rfl (hd2 _) (by simp) (by simp) (by simpa using (by omega:s.length+1≤2097152)) fun c' h3' hg' hs3=>?_
   simp[en,e1,e5,e8,e9,e10,hw]
   exact BackF.of (s++[l[i]]) ⟨⟨c',by simp[en],by simp[e1],by simp,by simp[e8],by simp[e9],by simp,by simpa[encL] using hg',by simp[hsl]⟩,hm⟩
  ·simp[en,e1,e5,e8,e9,e10]
   have hs2:Same h1 ((h1.setBox (h1.ep,288) [c1]).next) []:=(Same.refl.setBox (.inr (by simp))).next
   refine GrowP.app g (hs1.trans hs2) ty_el22 (by kernel_rfl) (by decide) (by decide) (RowAt.new1 rfl (by simp)) rfl (ow1.ow.frame fun k hk=>hs2.2 k (ow1.new k hk).2 (by simp)) ow1.nd (fun k hk=>⟨(ow1.new k hk).1,Nat.lt_of_lt_of_le (ow1.new k hk).2 hs2.1⟩) (by simpa using (by omega:s.length+1≤2097152)) fun c' h3' hg' hs3=>?_
   simp[en,e1,e5,e8,e9,e10,hw]
   exact BackF.of (s++[l[i]]) ⟨⟨c',by simp[en],by simp[e1],by simp,by simp[e8],by simp[e9],by simp,by simpa[encL] using hg',by simp[hsl]⟩,hm⟩
 ·rintro s e h' ⟨c,en,e1,e5,e8,e9,e10,g,hsl⟩ hm
  obtain rfl:=r_ret hm
  simp[en,e1,e5,e8,e9,e10]
  exact hk _ _ g (g.same.boxLe hg)
theorem h_cloneAllD (h:HS) (l:List (List Rel)) (hf:∀ x ∈ l,InstL x) (K:V→HS→Prop) (hk:∀ c h',GrowP h h' [InstSh] c (l.map (encL Rel.enc))→BoxLe h h'→K (.one c) h') :
  HSpec Tryz.prog 36 [.one (.d (.sl (l.map (encL Rel.enc))))] h K:=by
 refine HSpec.of_vc Tryz.func36 rfl (by kernel_rfl) (n:=5) rfl rfl (by simp) ?_
 simp
 refine callK_heap (h_mapSliceID h l hf _ fun c h' g hb=>?_)
 simp
 exact hk c h' g hb
theorem h_mapSliceJD (h:HS) (l:List (List (List Rel))) (hf:∀ y ∈ l,∀ x ∈ y,InstL x) (K:V→HS→Prop) (hk:∀ c h',GrowP h h' [.r [InstSh]] c (l.map (encL (encL Rel.enc)))→BoxLe h h'→K (.one c) h') :
  HSpec Tryz.prog 37 [.one (.d (.sl (l.map (encL (encL Rel.enc))))),.one (.fn 36 [])] h K:=by
 refine HSpec.good Tryz.func37 rfl (by kernel_rfl) fun hg=>?_
 refine HSpec.of_vc Tryz.func37 rfl (by kernel_rfl) (n:=22) rfl rfl (by simp) ?_
 have hm:Is (forK (fun (_:Nat) x s next=>next (s++[x])) (fun s=>some s) l 0 []) l:=by rw[forK_id];rfl
 simp
 intro hil
 refine Wait.for (xs:=l) (s0:=[]) (fun i s e h'=>∃ c,e.n=22∧e.get 1=.one (.fn 36 [])∧e.get 5=.one c∧e.get 8=.one (.d (.sl (l.map (encL (encL Rel.enc)))))∧e.get 9=.one (.d (.int .i64 (l.length:Int)))∧e.get 10=.one (.d (.int .i64 (i:Int)))∧GrowP h h' [.r [InstSh]] c (s.map (encL (encL Rel.enc)))∧s.length=i) hm
  ⟨.nil,by simp,by simp,by simp,by simp,by simp,by simp,.nil,rfl⟩ ?_ ?_
 ·rintro i s e h' ⟨c,en,e1,e5,e8,e9,e10,g,hsl⟩ hlt hm
  have hw:IntKind.i64.wrap ((i:Int)+1)=(i:Int)+1:=IntWalk.i64_in _ (by omega)
  simp[en,e1,e5,e8,e9,e10,hlt]
  refine callK_heap (h_cloneAllD _ l[i] (hf _ (List.getElem_mem hlt)) _ fun c1 h1 g1 hb1=>?_)
  have hs1:=g1.same
  obtain⟨l1,ow1⟩:=g1.ow
  simp[en,e1,e5,e8,e9,e10,hlt]
  refine bld_ow (x:=[c1]) (by simp only[toDs];cases c1.toD<;>rfl) rfl (fun d hd=>?_) (fun hd=>?_)
  ·obtain⟨rfl,hd2⟩:=ow1.ow.ofD hd
   simp[en,e1,e5,e8,e9,e10]
   refine GrowP.app g (hs1.trans ((Same.refl.setArr).next)) ty_el23 (by kernel_rfl) (by decide) (by decide) (RowAt.own1 rfl) rfl (hd2 _) (by simp) (by simp) (by simpa using (by omega:s.length+1≤2097152)) fun c' h3' hg' hs3=>?_
   simp[en,e1,e5,e8,e9,e10,hw]
   exact BackF.of (s++[l[i]]) ⟨⟨c',by simp[en],by simp[e1],by simp,by simp[e8],by simp[e9],by simp,by simpa[encL] using hg',by simp[hsl]⟩,hm⟩
  ·simp[en,e1,e5,e8,e9,e10]
   have hs2:Same h1 ((h1.setBox (h1.ep,288) [c1]).next) []:=(Same.refl.setBox (.inr (by simp))).next
   refine GrowP.app g (hs1.trans hs2) ty_el23 (by kernel_rfl) (by decide) (by decide) (RowAt.new1 rfl (by simp)) rfl (ow1.ow.frame fun k hk=>hs2.2 k (ow1.new k hk).2 (by simp)) ow1.nd (fun k hk=>⟨(ow1.new k hk).1,Nat.lt_of_lt_of_le (ow1.new k hk).2 hs2.1⟩) (by simpa using (by omega:s.length+1≤2097152)) fun c' h3' hg' hs3=>?_
   simp[en,e1,e5,e8,e9,e10,hw]
   exact BackF.of (s++[l[i]]) ⟨⟨c',by simp[en],by simp[e1],by simp,by simp[e8],by simp[e9],by simp,by simpa[encL] using hg',by simp[hsl]⟩,hm⟩
 ·rintro s e h' ⟨c,en,e1,e5,e8,e9,e10,g,hsl⟩ hm
  obtain rfl:=r_ret hm
  simp[en,e1,e5,e8,e9,e10]
  exact hk _ _ g (g.same.boxLe hg)
theorem h_database_CloneD (h:HS) (db:Db) (hf:∀ x ∈ db.insts,InstL x) (hg2:∀ y ∈ db.comps,∀ x ∈ y,InstL x) (K:V→HS→Prop) (hk:∀ ci cc h1 h',GrowP h h1 [InstSh] ci (db.insts.map (encL Rel.enc))→GrowP h1 h' [.r [InstSh]] cc (db.comps.map (encL (encL Rel.enc)))→BoxLe h h'→K (.agg [ci,cc]) h') :
  HSpec Tryz.prog 9 [.agg (db.enc.map C.d)] h K:=by
 refine HSpec.good Tryz.func9 rfl (by kernel_rfl) fun hg=>?_
 refine HSpec.of_vc Tryz.func9 rfl (by kernel_rfl) (n:=10) rfl rfl (by simp) ?_
 simp
 refine Wait.cut (Plan.then_ [0,1,3,4,2,5,6,7] .done) follows (by kernel_rfl) (fun e1 h1=>∃ ci cc hm,e1.n=10∧e1.get 2=.one (.ptr (h.ep+1,32) 0)∧h1.box (h.ep+1,32)=some [ci,cc]∧GrowP h hm [InstSh] ci (db.insts.map (encL Rel.enc))∧GrowP hm h1 [.r [InstSh]] cc (db.comps.map (encL (encL Rel.enc)))) ?_ ?_
 ·simp[Plan.then_,vcPlan,planOps,isCallAt,callKind]
  refine callK_heap (h_cloneAllD _ db.insts hf _ fun ci h1 g1 hb1=>?_)
  simp[Plan.then_,vcPlan,planOps,isCallAt,callKind]
  refine⟨hb1,callK_heap (h_mapSliceJD _ db.comps hg2 _ fun cc h2 g2 hb2=>?_)⟩
  have hs1:=g1.same
  have hs2:=g2.same
  have b2:=hs2.2 (h.ep+1,32) (by have:=hs1.1;simp at this ⊢;omega) (by simp)
  have b1:=hs1.2 (h.ep+1,32) (by simp) (by simp)
  simp at b1
  rw[b1] at b2
  simp[Plan.then_,vcPlan,planOps,isCallAt,callKind,b2]
  refine⟨hb2,?_⟩
  have he1:=hs1.1
  have he2:=hs2.1
  simp at he1
  refine CutK.of ⟨ci,cc,h1.setBox (h.ep+1,32) [ci,cc],by simp,by simp,by simp,GrowP.from2 g1 (ls:=[(h.ep+1,32)]) (Same.refl.setBox (.inl (by simp))) (by simp) (Same.setBox (Same.trans ?_ hs1) (.inr (by simp))) (by simp),GrowP.from2 g2 (ls:=[(h.ep+1,32)]) (Same.refl.setBox (.inl (by simp))) (by simp;omega) ?_ (by simp)⟩
  ·repeat' first | exact Same.refl | apply Same.next | apply Same.setArr | (refine Same.setBox ?_ (.inr (by simp)))
  ·refine⟨by simpa using he2,fun k hk _=>?_⟩
   by_cases hq:k=(h.ep+1,32)
   ·simp[hq]
   ·simp[hq]
    exact hs2.2 k (by simpa using hk) (by simp)
 ·rintro e1 h1 ⟨ci,cc,hm,en,e2,b2,g1,g2⟩
  simp[retH,resVs,resV,notTup,en,e2,b2]
  exact hk ci cc hm h1 g1 g2 ((g1.same.trans g2.same).boxLe hg)
def PartR (h:HS) (c:C) (xs:List C):Prop:=MR h 1 c (ones xs)∨(c.toD=some (.sl [])∧xs=[])
theorem PartR.frame {h h':HS} {c:C} {xs:List C} (p:PartR h c xs) (hb:∀ l ∈ labs c,h'.box l=h.box l):PartR h' c xs:=p.imp (fun m=>m.frame hb) id
theorem PartR.lenK {h:HS} {c:C} {xs:List C} {f:Nat→Prop} (p:PartR h c xs) (hk:f xs.length):lenK c (k:=⟨f⟩):=by
 rcases p with m | ⟨h1,rfl⟩
 ·exact MR.lenK m (by simpa[ones] using hk)
 ·exact lenK_of (toD_rd h1).1 fun _=>hk
theorem PartR.rd {h:HS} {c:C} {xs:List C} (p:PartR h c xs):RowAt h 1 c (ones xs):=by
 rcases p with m | ⟨h1,rfl⟩
 ·exact m.rd
 ·have h2:=(toD_rd h1).1
  refine⟨?_,?_,by simp[AllC,ones],by simp[ones]⟩
  ·cases c<;>simp[C.list?] at h2<;>simp[rowCells,C.list?,h2,ones]
  ·cases c<;>simp[C.list?] at h2<;>simp[cLen,C.list?,h2,ones]
theorem PartR.le {h:HS} {c:C} {xs:List C} (p:PartR h c xs):xs.length≤2097152:=by
 have:=p.rd.2.2.2
 simpa[ones] using this
theorem take_flat_succ {α:Type} {ps:List (C × List α)} {i:Nat} (hi:i < ps.length):(ps.take (i+1)).flatMap (·.2)=(ps.take i).flatMap (·.2)++ps[i].2:=by
 rw[List.take_succ_eq_append_getElem hi,List.flatMap_append,List.flatMap_singleton]
theorem take_flat_le {α:Type} {ps:List (C × List α)} (i:Nat):((ps.take i).flatMap (·.2)).length≤(ps.flatMap (·.2)).length:=by
 have:ps.flatMap (·.2)=(ps.take i).flatMap (·.2)++(ps.drop i).flatMap (·.2):=by rw[← List.flatMap_append,List.take_append_drop]
 rw[this]
 simp
theorem h_slices_ConcatD (h:HS) (cs:C) (ps:List (C × List C)) (hcs:MR h 1 cs (ones (ps.map (·.1)))) (hp:∀ p ∈ ps,PartR h p.1 p.2) (hlt:∀ k ∈ labs cs,k.1 < h.ep) (hlp:∀ p ∈ ps,∀ k ∈ labs p.1,k.1 < h.ep) (htot:(ps.flatMap (·.2)).length≤2097152) (K:V→HS→Prop)
  (hk:∀ c' h',MR h' 1 c' (ones (ps.flatMap (·.2)))→Same h h' []→(∀ k ∈ labs c',h.ep≤k.1∧k.1 < h'.ep)→BoxLe h h'→K (.one c') h') :
  HSpec Tryz.prog 10 [.one cs] h K:=by
 refine HSpec.good Tryz.func10 rfl (by kernel_rfl) fun hg=>?_
 refine HSpec.of_vc Tryz.func10 rfl (by kernel_rfl) (n:=36) rfl rfl (by simp) ?_
 have hlen:ps.length≤2097152:=by have:=hcs.2.1;simpa[ones] using this
 have elem:∀ (h':HS),Same h h' []→∀ i,(hi:i < ps.length)→∃ lr cap bs,cs=.mrow lr 0 ps.length cap∧h'.box lr=some bs∧takeN 1 (bs.drop i)=some [ps[i].1]:=by
  intro h' hs i hi
  have m2:=hcs.frame fun l hl=>hs.2 l (hlt l hl) (by simp)
  obtain⟨lr,cap,sp,hc,hb,hcap⟩:=m2.block (by simp[ones];omega)
  rw[ones_box] at hb
  refine⟨lr,cap,_,by simpa[ones] using hc,hb,?_⟩
  have hd:(ps.map (·.1)++sp).drop i=ps[i].1::((ps.map (·.1)).drop (i+1)++sp):=by
   rw[List.drop_append_of_le_length (by simp;omega),List.drop_eq_getElem_cons (by simpa using hi)]
   simp
  rw[hd]
  simp[takeN]
 have hm1:Is (forK (fun (i:Nat) (p:C × List C) (s:Nat) next=>next (s+p.2.length)) (fun s=>some s) ps 0 0) (ps.flatMap (·.2)).length:=by
  have key:∀ (xs:List (C × List C)) (i s:Nat),forK (fun (i:Nat) (p:C × List C) (s:Nat) next=>next (s+p.2.length)) (fun s=>some s) xs i s=some (s+(xs.flatMap (·.2)).length):=by
   intro xs
   induction xs with
   | nil=>intro i s;simp[forK]
   | cons x xs ih=>intro i s;simp only[forK,ih,List.flatMap_cons,List.length_append];congr 1;omega
  rw[key]
  simp[Is]
 simp
 refine MR.lenK hcs ?_
 simp[ones]
 refine Wait.for (xs:=ps) (s0:=(0:Nat)) (fun i (s:Nat) e h'=>e.n=36∧e.get 0=.one cs∧e.get 3=.one (.d (.int .i64 (s:Int)))∧e.get 9=.one cs∧e.get 10=.one (.d (.int .i64 (ps.length:Int)))∧e.get 11=.one (.d (.int .i64 (i:Int)))∧s=((ps.take i).flatMap (·.2)).length∧Same h h' []) hm1 ⟨by simp,by simp,by simp,by simp,by simp,by simp,by simp,.refl⟩ ?_ ?_
 ·rintro i s e h' ⟨en,e0,e3,e9,e10,e11,hs,hsm⟩ hi hm
  have hw:IntKind.i64.wrap ((i:Int)+1)=(i:Int)+1:=IntWalk.i64_in _ (by omega)
  obtain⟨lr,cap,bs,rfl,hb,ht⟩:=elem h' hsm i hi
  have hpi:=(hp _ (List.getElem_mem hi)).frame fun l hl=>hsm.2 l (hlp _ (List.getElem_mem hi) l hl) (by simp)
  have hle:=take_flat_le (ps:=ps) (i+1)
  rw[take_flat_succ hi,List.length_append,← hs] at hle
  have hw2:IntKind.i64.wrap ((s:Int)+(ps[i].2.length:Int))=(s:Int)+(ps[i].2.length:Int):=IntWalk.i64_in _ (by omega)
  have hnn:¬ ((s:Int)+(ps[i].2.length:Int) < 0):=by omega
  simp[en,e0,e3,e9,e10,e11,hi,hb,ht]
  refine hpi.lenK ?_
  simp[en,e0,e3,e9,e10,e11,hw2,hnn,hw]
  exact BackF.of (s+ps[i].2.length) ⟨⟨by simp[en],by simp[e0],by simp,by simp[e9],by simp[e10],by simp,by rw[take_flat_succ hi,List.length_append,← hs],hsm⟩,hm⟩
 ·rintro s e h' ⟨en,e0,e3,e9,e10,e11,hs,hsm⟩ hm
  rw[List.take_length] at hs
  subst hs
  have htot2:=htot
  generalize (ps.flatMap (·.2)).length=tot at e3 htot2
  simp[en,e0,e3,e9,e10,e11]
  refine callK_heap (h_slices_Grow_Instance _ _ htot2 _ fun ca h1 m1 hs1 hl1=>?_)
  have hsm1:=hsm.trans hs1
  simp[en,e0,e3,e9,e10,e11]
  refine MR.lenK (hcs.frame fun l hl=>hsm1.2 l (hlt l hl) (by simp)) ?_
  simp[ones,en,e0]
  have hm2:Is (forK (fun (_:Nat) x s next=>next (s++[x])) (fun s=>some s) ps 0 []) ps:=by rw[forK_id];rfl
  refine Wait.for (xs:=ps) (s0:=[]) (fun i s e h'=>∃ ca,e.n=36∧e.get 6=.one ca∧e.get 25=.one cs∧e.get 26=.one (.d (.int .i64 (ps.length:Int)))∧e.get 27=.one (.d (.int .i64 (i:Int)))∧MR h' 1 ca (ones ((ps.take i).flatMap (·.2)))∧Same h h' []∧(∀ k ∈ labs ca,h.ep≤k.1∧k.1 < h'.ep)) hm2
   ⟨ca,by simp[en],by simp,by simp,by simp,by simp,by simpa[ones] using m1,hsm1,fun k hk=>⟨Nat.le_trans hsm.1 (hl1 k hk).1,(hl1 k hk).2⟩⟩ ?_ ?_
  ·rintro i s e h' ⟨ca,en,e6,e25,e26,e27,mA,hsA,hlA⟩ hi hm
   have hw:IntKind.i64.wrap ((i:Int)+1)=(i:Int)+1:=IntWalk.i64_in _ (by omega)
   obtain⟨lr,cap,bs,rfl,hb,ht⟩:=elem h' hsA i hi
   have hpi:=(hp _ (List.getElem_mem hi)).frame fun l hl=>hsA.2 l (hlp _ (List.getElem_mem hi) l hl) (by simp)
   have hle:=take_flat_le (ps:=ps) (i+1)
   rw[take_flat_succ hi,List.length_append] at hle
   simp[en,e6,e25,e26,e27,hi,hb,ht]
   refine app_mr ty_el22 (by kernel_rfl) (by decide) (by decide) mA hpi.rd (by simp only[ones,List.length_map];show _≤2097152;omega) fun c' h2 hm2 hs2 hl2=>?_
   simp[en,e6,e25,e26,e27,hw]
   refine BackF.of (s++[ps[i]]) ⟨⟨c',by simp[en],by simp,by simp[e25],by simp[e26],by simp,by rw[take_flat_succ hi];simpa[ones] using hm2,hsA.trans' hs2 fun k hk=>.inr (hlA k hk).1,fun k hk=>?_⟩,hm⟩
   rcases hl2 k hk with h9 | h9
   ·exact⟨(hlA k h9).1,Nat.lt_of_lt_of_le (hlA k h9).2 hs2.1⟩
   ·exact⟨Nat.le_trans hsA.1 h9.1,h9.2⟩
  ·rintro s e h' ⟨ca,en,e6,e25,e26,e27,mA,hsA,hlA⟩ hm
   rw[List.take_length] at mA
   simp[en,e6,e25,e26,e27]
   exact hk ca h' mA hsA hlA (hsA.boxLe hg)
abbrev El:=List C × List Lab
structure OwL (h:HS) (sh:List Sh) (x:C) (es:List El):Prop where
 mr:(x.toD=some (.sl [])∧es=[])∨MR h sh.length x (es.map (·.1))
 ow:∀ e ∈ es,∃ ds,Ow h sh e.1 ds e.2
def ells (x:C) (es:List El):List Lab:=labs x++es.flatMap (·.2)
theorem labs_data {x:C} {d:D} (h:x.toD=some d):labs x=[]:=by cases x<;>simp[C.toD] at h<;>rfl
theorem OwL.of {h:HS} {sh:List Sh} {x:C} {ds:List D} {ls:List Lab} (o:Ow h [.r sh] [x] ds ls):∃ es,OwL h sh x es∧ls=ells x es:=by
 rcases o.inv_r with ⟨c,cs,ds',h1,h2,h3,h4⟩ | ⟨c,qs,cs',ds',ls',h1,h2,h3,hm,hq,hr⟩
 ·obtain⟨-,-,rfl⟩:=h4.inv_nil
  simp only[List.cons.injEq,and_true] at h1
  obtain⟨rfl,_⟩:=h1
  exact⟨[],⟨.inl ⟨h3,rfl⟩,by simp⟩,by simp[ells,labs_data h3]⟩
 ·obtain⟨-,-,rfl⟩:=hr.inv_nil
  simp only[List.cons.injEq,and_true] at h1
  obtain⟨rfl,_⟩:=h1
  refine⟨qs.map fun q=>(q.1,q.2.2),⟨.inr (by simpa[Function.comp_def] using hm),fun e he=>?_⟩,by simp[h3,ells,List.flatMap_map]⟩
  obtain⟨q,hqm,rfl⟩:=List.mem_map.1 he
  exact⟨q.2.1,hq q hqm⟩
theorem pick_ds {h:HS} {sh:List Sh}:∀ (es:List El),(∀ e ∈ es,∃ ds,Ow h sh e.1 ds e.2)→∃ qs:List (List C × List D × List Lab),qs.map (fun q=>(q.1,q.2.2))=es∧∀ q ∈ qs,Ow h sh q.1 q.2.1 q.2.2
 | [],_=>⟨[],rfl,by simp⟩
 | e::es,he=>by
   obtain⟨ds,hd⟩:=he e (by simp)
   obtain⟨qs,h1,h2⟩:=pick_ds es fun e' he'=>he e' (by simp[he'])
   refine⟨(e.1,ds,e.2)::qs,by simp[h1],fun q hq=>?_⟩
   rcases List.mem_cons.1 hq with rfl | hq
   ·exact hd
   ·exact h2 q hq
theorem OwL.ow' {h:HS} {sh:List Sh} {x:C} {es:List El} (o:OwL h sh x es):∃ ds,Ow h [.r sh] [x] ds (ells x es):=by
 rcases o.mr with ⟨h1,rfl⟩ | hm
 ·refine⟨[.sl []],?_⟩
  have:=Ow.emp (h:=h) (es:=sh) (ss:=[]) (cs:=[]) (ds:=[]) (ls:=[]) h1 .nil
  simpa[ells,labs_data h1] using this
 ·obtain⟨qs,rfl,hq⟩:=pick_ds es o.ow
  refine⟨[.sl (qs.map (·.2.1))],?_⟩
  have:=Ow.row (h:=h) (es:=sh) (c:=x) (qs:=qs) (ss:=[]) (cs:=[]) (ds:=[]) (ls:=[]) (by simpa[Function.comp_def] using hm) hq .nil
  simpa[ells,List.flatMap_map] using this
theorem OwL.lenK {h:HS} {sh:List Sh} {x:C} {es:List El} {f:Nat→Prop} (o:OwL h sh x es) (hk:f es.length):lenK x (k:=⟨f⟩):=by
 rcases o.mr with ⟨h1,rfl⟩ | hm
 ·exact lenK_of (toD_rd h1).1 fun _=>hk
 ·exact MR.lenK hm (by simpa using hk)
theorem OwL.le {h:HS} {sh:List Sh} {x:C} {es:List El} (o:OwL h sh x es):es.length≤2097152:=by
 rcases o.mr with ⟨h1,rfl⟩ | hm
 ·simp
 ·have:=hm.2.1;simpa using this
theorem OwL.block {h:HS} {sh:List Sh} {x:C} {es:List El} (o:OwL h sh x es) {i:Nat} (hi:i < es.length):∃ l cap sp,x=.mrow l 0 es.length cap∧h.box l=some (rowBox (es.map (·.1)) sp)∧takeN sh.length ((rowBox (es.map (·.1)) sp).drop (i * sh.length))=some es[i].1∧(rowBox (es.map (·.1)) sp).length=cap * sh.length∧AllC sh.length (es.map (·.1)):=by
 rcases o.mr with ⟨h1,rfl⟩ | hm
 ·simp at hi
 ·obtain⟨l,cap,sp,h1,h2,h3⟩:=hm.block (by simp;omega)
  exact⟨l,cap,sp,by simpa using h1,h2,row_all hm.1 (by rw[List.getElem?_map,List.getElem?_eq_getElem hi];rfl),h3,hm.1⟩
theorem OwL.step {h h':HS} {sh:List Sh} {x:C} {es:List El} (o:OwL h sh x es) (nd:(ells x es).Nodup) (hlt:∀ k ∈ ells x es,k.1 < h.ep) {i:Nat} (hi:i < es.length) (hs:Same h h' es[i].2) (hw:∃ ds,Ow h' sh es[i].1 ds es[i].2):OwL h' sh x es:=by
 have hn:=List.nodup_append.1 nd
 have hmem:∀ k ∈ es[i].2,k ∈ es.flatMap (·.2):=fun k hk=>List.mem_flatMap.2 ⟨_,List.getElem_mem hi,hk⟩
 refine⟨o.mr.imp id fun m=>m.frame fun l hl=>hs.2 l (hlt l (List.mem_append_left _ hl)) fun h9=>hn.2.2 l hl l (hmem l h9) rfl,fun e he=>?_⟩
 obtain⟨j,hj⟩:=List.getElem?_of_mem he
 by_cases hq:j=i
 ·subst hq
  rw[List.getElem?_eq_getElem hi] at hj
  cases hj
  exact hw
 ·obtain⟨ds,hd⟩:=o.ow e he
  refine⟨ds,hd.frame fun l hl=>hs.2 l (hlt l (List.mem_append_right _ (List.mem_flatMap.2 ⟨e,he,hl⟩))) fun h9=>?_⟩
  have gen:∀ (xs:List El),(xs.flatMap (·.2)).Nodup→∀ (j i:Nat) (a b:El),xs[j]?=some a→xs[i]?=some b→j≠i→∀ k ∈ a.2,k ∉ b.2:=by
   intro xs
   induction xs with
   | nil=>intro _ j i a b h1;simp at h1
   | cons y ys ih=>
     intro hn j i a b h1 h2 hne k hk h9
     rw[List.flatMap_cons,List.nodup_append] at hn
     cases j with
     | zero=>
       cases i with
       | zero=>exact hne rfl
       | succ i=>
         simp at h1 h2
         subst h1
         exact hn.2.2 k hk k (List.mem_flatMap.2 ⟨b,List.mem_of_getElem? h2,h9⟩) rfl
     | succ j=>
       cases i with
       | zero=>
         simp at h1 h2
         subst h2
         exact hn.2.2 k h9 k (List.mem_flatMap.2 ⟨a,List.mem_of_getElem? h1,hk⟩) rfl
       | succ i=>exact ih hn.2.1 j i a b (by simpa using h1) (by simpa using h2) (by omega) k hk h9
  exact gen es hn.2.1 j i e es[i] hj (List.getElem?_eq_getElem hi) hq l hl h9
theorem OwL.frame {h h':HS} {sh:List Sh} {x:C} {es:List El} (o:OwL h sh x es) (hlt:∀ k ∈ ells x es,k.1 < h.ep) (hs:Same h h' []):OwL h' sh x es:=by
 refine⟨o.mr.imp id fun m=>m.frame fun l hl=>hs.2 l (hlt l (List.mem_append_left _ hl)) (by simp),fun e he=>?_⟩
 obtain⟨ds,hd⟩:=o.ow e he
 exact⟨ds,hd.frame fun l hl=>hs.2 l (hlt l (List.mem_append_right _ (List.mem_flatMap.2 ⟨e,he,hl⟩))) (by simp)⟩
theorem OwL.val {h:HS} {l:Lab} {cap:Nat} {es:List El} {sp vs:List C} {ds:List D} (o:OwL h VSh (.mrow l 0 es.length cap) es) (hb:h.box l=some (rowBox (es.map (·.1)) sp)) (hcap:(rowBox (es.map (·.1)) sp).length=cap * 3) {i:Nat} (hi:i < es.length) (hv:vs=ds.map C.d) (hd:ds.length=3)
  (hall:AllC 3 (es.map (·.1))) (hl:∀ k ∈ es.flatMap (·.2),k≠l):OwL (h.setBox l (setCells (rowBox (es.map (·.1)) sp) (i * 3) vs)) VSh (.mrow l 0 es.length cap) (es.set i (vs,[])):=by
 have hvl:vs.length=3:=by rw[hv];simpa using hd
 have hx:(es.map (·.1))[i]?=some es[i].1:=by rw[List.getElem?_map,List.getElem?_eq_getElem hi];rfl
 have h9:=row_set (sp:=sp) (f:=0) (vs:=vs) hall hx (by omega)
 have he:es[i].1.length=3:=hall.get hx
 have h8:setCells es[i].1 0 vs=vs:=by simp[setCells,hvl,he]
 rw[h8,Nat.add_zero] at h9
 have hm:(es.map (·.1)).set i vs=(es.set i (vs,[])).map (·.1):=by rw[List.map_set]
 rw[hm] at h9
 have ha:AllC 3 ((es.set i (vs,([]:List Lab))).map (·.1)):=by rw[← hm];exact hall.set hvl
 refine⟨.inr ⟨ha,by simpa using o.le,.inr ⟨l,cap,sp,by simp,by rw[h9];simp,?_⟩⟩,fun e he=>?_⟩
 ·show _=cap * 3
  rw[rowBox_length ha,List.length_map,List.length_set,← hcap,rowBox_length hall,List.length_map]
 ·rcases List.mem_or_eq_of_mem_set he with h1 | rfl
  ·obtain⟨d,hd'⟩:=o.ow e h1
   exact⟨d,hd'.frame fun k hk=>by
    have:=hl k (List.mem_flatMap.2 ⟨e,h1,hk⟩)
    simp[this]⟩
  ·refine⟨ds,?_⟩
   subst hv
   match ds,hd with
   | [a,b,c],_=>exact .data rfl (.data rfl (.data rfl .nil))
theorem ow_v {h:HS} {cs:List C} {ds:List D} {ls:List Lab} (o:Ow h VSh cs ds ls):ls=[]:=by
 obtain⟨c,x,cs',ds',rfl,rfl,_,o⟩:=o.inv_d
 obtain⟨c,x,cs',ds',rfl,rfl,_,o⟩:=o.inv_d
 obtain⟨c,x,cs',ds',rfl,rfl,_,o⟩:=o.inv_d
 exact o.inv_nil.2.2
theorem OwL.flat {h:HS} {x:C} {es:List El} (o:OwL h VSh x es):∀ e ∈ es,e.2=[]:=fun e he=>by
 obtain⟨ds,hd⟩:=o.ow e he
 exact ow_v hd
theorem flat_ells {x:C} {es:List El} (hf:∀ e ∈ es,e.2=[]):ells x es=labs x:=by
 have:es.flatMap (·.2)=[]:=by
  rw[List.flatMap_eq_nil_iff]
  exact hf
 simp[ells,this]
theorem triv_for {α:Type}:∀ (xs:List α) (i:Nat),Is (forK (fun (_:Nat) (_:α) (s:Unit) next=>next s) (fun s=>some s) xs i ()) ()
 | [],_=>rfl
 | _::xs,i=>triv_for xs (i+1)
end Go.Proofs.YthiojhcimecdgaaGreatDoor
end
section
namespace Go.Proofs.YthiojhcimecdgaaGreatDoor
open Go.Am
set_option maxRecDepth 20000
def m_stemref1_Int (n:Int):Option GV:=
 (some (GV.mk 1 n ByteArray.empty))
instance c_stemref1_Int (n:Int):Con (m_stemref1_Int n) Tryz.prog 53 [.one (.d (.int .i64 n))] (fun r=>.agg (r.enc.map RC.d)):=by
 unfold m_stemref1_Int
 exact go 5 Tryz.func53 rfl (by kernel_rfl) rfl rfl (by simp)
set_option maxRecDepth 20000
def m_stemref1_SampleGraph:Option Gr:=
 (bindK (m_stemref1_Int 5) fun v2=>(some (Gr.mk (Sch.mk [(Tbl.mk ({ data:=#[116] }) [(Col.mk ({ data:=#[105,100] }) 1 false),(Col.mk ({ data:=#[110] }) 1 false)] [0])] [] []) [(Edg.mk 0 [(Stp.mk 1 ({ data:=#[116] }) ByteArray.empty ({ data:=#[120] }) ByteArray.empty 1 [] ByteArray.empty v2 (Tbl.mk ByteArray.empty [] []) (Cons.mk ByteArray.empty 0 ByteArray.empty 0 (GV.mk 0 0 ByteArray.empty)) (Fk.mk ByteArray.empty [] ByteArray.empty))])])))
instance c_stemref1_SampleGraph  : Con (m_stemref1_SampleGraph) Tryz.prog 27 [] (fun r=>.agg (r.enc.map RC.d)):=by
 unfold m_stemref1_SampleGraph
 exact go 16 Tryz.func27 rfl (by kernel_rfl) rfl rfl (by simp)
set_option maxRecDepth 20000
def m_script_Apply (s_:Sch) (script:List Stp):Option (Sch × Int):=
 (bindK (m_script_Schemas s_ script) fun v3=>(bif (v3.2 != 0) then (some ((Sch.mk [] [] []),v3.2)) else (chkK (okI ((v3.1.length:Int) - 1)) (getK v3.1 ((v3.1.length:Int) - 1) fun x7=>(some (x7,0))))))
instance c_script_Apply (s_:Sch) (script:List Stp):Con (m_script_Apply s_ script) Tryz.prog 68 [.agg s_.enc,.one (.d (.sl (script.map Stp.enc)))] (fun r=>.tup [.agg (r.1.enc.map RC.d),.one (.d (.int .i64 r.2))]):=by
 unfold m_script_Apply
 exact go 24 Tryz.func68 rfl (by kernel_rfl) rfl rfl (by simp)
set_option maxRecDepth 20000
def m_versions_Schemas (g_:Gr):Option ((List Sch) × Int):=
 (bif decide (8≤(g_.edges.length:Int)) then (some ([],2)) else (bindK (m_schema_Validate g_.base) fun v4=>(bif (v4 != 0) then (some ([],v4)) else (bindK (m_schema_Clone g_.base) fun v6=>(forK (fun (i8:Nat) (x8:Edg) (s8:(List Sch)) next_8=>(bif decide (x8.parent < 0) then (some ([],1)) else (bif decide ((i8:Int) < x8.parent) then (some ([],1)) else (getK s8 x8.parent fun x12=>(bindK (m_script_Apply x12 x8.script) fun v13=>(bif (v13.2 != 0) then (some ([],v13.2)) else (appK2 s8 [v13.1] fun _=>(next_8 (s8++[v13.1]))))))))) (fun (s8:(List Sch))=>(some (s8,0))) g_.edges 0 [v6])))))
theorem c_versions_Schemas (g_:Gr) (r:(List Sch) × Int) (hm:Is (m_versions_Schemas g_) r):PSpec Tryz.prog 45 [.agg g_.enc] (.tup [.one (.d (.sl (r.1.map Sch.enc))),.one (.d (.int .i64 r.2))]):=by
 unfold m_versions_Schemas at hm
 refine PSpec.of_vc Tryz.func45 rfl (by kernel_rfl) (n:=61) rfl rfl (by simp) ?_
 try simp[*]
 intro hl2
 replace hl2:g_.edges.length≤2097152:=by simpa using hl2
 refine r_cond hm ?_ ?_<;>clear hm<;>intro hc3 hm
 ·try simp[*]
  obtain rfl:=r_ret hm
  exact ret0 (vs:=[_,_]) (by simp[*];try exact⟨rfl,rfl⟩) (by simp[*])
 ·try simp[*]
  refine r_call (av:=[.agg g_.base.enc]) hm (fun v hv=>c_schema_Validate _ v hv) (by simp[*]) ?_
  clear hm;intro v4 hvv4 hm
  try simp[*]
  refine r_cond hm ?_ ?_<;>clear hm<;>intro hc5 hm
  ·try simp[*]
   obtain rfl:=r_ret hm
   exact ret0 (vs:=[_,_]) (by simp[*];try exact⟨rfl,rfl⟩) (by simp[*])
  ·try simp[*]
   refine r_call (av:=[.agg g_.base.enc]) hm (fun v hv=>c_schema_Clone _ v hv) (by simp[*]) ?_
   clear hm;intro v6 hvv6 hm
   try simp[*]
   refine Wait.for (xs:=g_.edges) (s0:=[v6]) (fun i8 s8 e8 h8=>∃ c8_0:C,e8.n=61∧e8.get 5=.one c8_0∧e8.get 25=.one (.d (.sl (g_.edges.map Edg.enc)))∧e8.get 26=.one (.d (.int .i64 (g_.edges.length:Int)))∧e8.get 27=.one (.d (.int .i64 (i8:Int)))∧Grows h8 3 c8_0 (s8.map Sch.enc)) hm ⟨.own (3,368) ([v6].map Sch.enc),by simp (maxDischargeDepth:=20) [*]⟩ ?_ ?_
   ·rintro i8 s8 e8 h8 ⟨c8_0,hn8,h8_5,h8_25,h8_26,h8_27,gc8_0⟩ hlt8 hm
    have hlc8_0:=gc8_0.list
    have hdc8_0:=gc8_0.toD
    have hac8_0:=gc8_0.toA
    have huc8_0:=gc8_0.useUp_arr
    have hw8:IntKind.i64.wrap ((i8:Int)+1)=(i8:Int)+1:=IntWalk.i64_in _ (by omega)
    try simp[*]
    refine r_guardF hm ?_ ?_<;>clear hm<;>intro hc10 hm
    ·try simp[*]
     obtain rfl:=r_ret hm
     exact ret0 (vs:=[_,_]) (by simp[*];try exact⟨rfl,rfl⟩) (by simp[*])
    ·try simp[*]
     refine r_cond hm ?_ ?_<;>clear hm<;>intro hc11 hm
     ·try simp[*]
      obtain rfl:=r_ret hm
      exact ret0 (vs:=[_,_]) (by simp[*];try exact⟨rfl,rfl⟩) (by simp[*])
     ·try simp[*]
      refine Wait.of (SWP.draw (Plan.then_ [0,1,2,3,4,5,6] (.two 7 11 (Plan.then_ [8,9,10,11,12,13] .done) (Plan.then_ [7,8,9,10,12,13] .done))) follows (by kernel_rfl) ?_)
      try simp[*,Plan.then_,vcPlan,planOps,isCallAt,callKind]
      replace hm:=hm.get
      obtain⟨x12,h0x12,hxx12,hm⟩:=hm
      try simp[*,Plan.then_,vcPlan,planOps,isCallAt,callKind]
      rcases gc8_0.1 with ⟨hzc8_0,hzz⟩ | ⟨lc8_0,hzc8_0,hz1,hz2⟩
      ·exact absurd hxx12 (by simp at hzz;subst hzz;simp)
      try simp[*,Plan.then_,vcPlan,planOps,isCallAt,callKind]
      refine⟨?_,?_⟩
      ·try simp[*,Plan.then_,vcPlan,planOps,isCallAt,callKind]
       refine r_call (av:=[.agg x12.enc,.one (.d (.sl ((g_.edges[i8].script).map Stp.enc)))]) hm (fun v hv=>c_script_Apply _ _ v hv) (by simp[*]) ?_
       clear hm;intro v13 hvv13 hm
       try simp[*,Plan.then_,vcPlan,planOps,isCallAt,callKind]
       try refine⟨fun (_:Lab) (_:List C) hl=>hl,?_⟩
       refine r_cond hm ?_ ?_<;>clear hm<;>intro hc15 hm
       ·try simp[*]
        obtain rfl:=r_ret hm
        exact ret0 (vs:=[_,_]) (by simp[*];try exact⟨rfl,rfl⟩) (by simp[*])
       ·try simp[*]
        refine r_app (xs:=s8) (ys:=[v13.1]) (enc:=Sch.enc) hm ty_el100 (by first | exact Grows.nil | (simp (maxDischargeDepth:=20) [*];done) | (simp (maxDischargeDepth:=20) [*];refine⟨?_,by omega⟩;intro hq;subst hq;simp at hz2<;>omega)) (by simp[*]) (by decide) (by decide) (fun _=>rfl) ?_
        clear hm;intro hl17 hm g16
        try simp[*]
        exact BackF.of (s8++[v13.1]) ⟨⟨.own (h8.ep+4,928) ((s8++[v13.1]).map Sch.enc),by simp (maxDischargeDepth:=20) [*]⟩,hm⟩
      ·try simp[*,Plan.then_,vcPlan,planOps,isCallAt,callKind]
       refine r_call (av:=[.agg x12.enc,.one (.d (.sl ((g_.edges[i8].script).map Stp.enc)))]) hm (fun v hv=>c_script_Apply _ _ v hv) (by simp[*]) ?_
       clear hm;intro v1014 hvv1014 hm
       try simp[*,Plan.then_,vcPlan,planOps,isCallAt,callKind]
       try refine⟨fun (_:Lab) (_:List C) hl=>hl,?_⟩
       refine r_cond hm ?_ ?_<;>clear hm<;>intro hc1015 hm
       ·try simp[*]
        obtain rfl:=r_ret hm
        exact ret0 (vs:=[_,_]) (by simp[*];try exact⟨rfl,rfl⟩) (by simp[*])
       ·try simp[*]
        refine r_app (xs:=s8) (ys:=[v1014.1]) (enc:=Sch.enc) hm ty_el100 (by first | exact Grows.nil | (simp (maxDischargeDepth:=20) [*];done) | (simp (maxDischargeDepth:=20) [*];refine⟨?_,by omega⟩;intro hq;subst hq;simp at hz2<;>omega)) (by simp[*]) (by decide) (by decide) (fun _=>rfl) ?_
        clear hm;intro hl1017 hm g1016
        try simp[*]
        exact BackF.of (s8++[v1014.1]) ⟨⟨.own (h8.ep+4,928) ((s8++[v1014.1]).map Sch.enc),by simp (maxDischargeDepth:=20) [*]⟩,hm⟩
   ·rintro s8 e8 h8 ⟨c8_0,hn8,h8_5,h8_25,h8_26,h8_27,gc8_0⟩ hm
    have hlc8_0:=gc8_0.list
    have hdc8_0:=gc8_0.toD
    have hac8_0:=gc8_0.toA
    have huc8_0:=gc8_0.useUp_arr
    try simp[*]
    obtain rfl:=r_ret hm
    exact ret0 (vs:=[_,_]) (by simp[*];try exact⟨rfl,rfl⟩) (by simp[*])
instance i_versions_Schemas (g_:Gr):Con (m_versions_Schemas g_) Tryz.prog 45 [.agg g_.enc] (fun r=>.tup [.one (.d (.sl (r.1.map Sch.enc))),.one (.d (.int .i64 r.2))]):=⟨fun r hm=>c_versions_Schemas g_ r hm⟩
set_option maxRecDepth 20000
def m_lens_EmptyComplement (s_:Sch) (step:Stp):Option ((List Rel) × Int):=
 (bindK (m_lens_schemas s_ step) fun v3=>(bif (v3.2.2 != 0) then (some ([],v3.2.2)) else (bindK (m_instance_Empty v3.2.1) fun v7=>(some (v7,0)))))
instance c_lens_EmptyComplement (s_:Sch) (step:Stp):Con (m_lens_EmptyComplement s_ step) Tryz.prog 71 [.agg s_.enc,.agg step.enc] (fun r=>.tup [.one (.d (.sl (r.1.map Rel.enc))),.one (.d (.int .i64 r.2))]):=by
 unfold m_lens_EmptyComplement
 exact go 21 Tryz.func71 rfl (by kernel_rfl) rfl rfl (by simp)
set_option maxRecDepth 20000
def m_script_EmptyComplements (s_:Sch) (script:List Stp):Option ((List (List Rel)) × Int):=
 (bindK (m_script_Schemas s_ script) fun v2=>(bif (v2.2 != 0) then (some ([],v2.2)) else (forK (fun (i5:Nat) (x5:Stp) (s5:(List (List Rel))) next_5=>(getK v2.1 (i5:Int) fun x7=>(bindK (m_lens_EmptyComplement x7 x5) fun v8=>(bif (v8.2 != 0) then (some ([],v8.2)) else (appK2 s5 [v8.1] fun _=>(next_5 (s5++[v8.1]))))))) (fun (s5:(List (List Rel)))=>(some (s5,0))) script 0 [])))
instance c_script_EmptyComplements (s_:Sch) (script:List Stp):Con (m_script_EmptyComplements s_ script) Tryz.prog 55 [.agg s_.enc,.one (.d (.sl (script.map Stp.enc)))] (fun r=>.tup [.one (.d (.sl (r.1.map (encL Rel.enc)))),.one (.d (.int .i64 r.2))]):=by
 unfold m_script_EmptyComplements
 have l1:LH (σ:=(List (List Rel))) 24 [6,22,23] [.g 8 1 (fun s=>s.map (encL Rel.enc))]:=.intro
 have p1:PH [8] (Plan.then_ [0,1,2,3,4,5,6,7,8,9,10] .done):=.intro
 exact go 47 Tryz.func55 rfl (by kernel_rfl) rfl rfl (by simp)
set_option maxRecDepth 20000
def m_database_New (g_:Gr):Option (Db × Int):=
 (bindK (m_versions_Schemas g_) fun v3=>(bif (v3.2 != 0) then (some ((Db.mk [] []),v3.2)) else (forK (fun (i7:Nat) (x7:Sch) (s7:(List (List Rel))) next_7=>(bindK (m_instance_Empty x7) fun v9=>(appK2 s7 [v9] fun _=>(next_7 (s7++[v9]))))) (fun (s7:(List (List Rel)))=>(forK (fun (i13:Nat) (x13:Edg) (s13:(List (List (List Rel)))) next_13=>(getK v3.1 x13.parent fun x15=>(bindK (m_script_EmptyComplements x15 x13.script) fun v16=>(bif (v16.2 != 0) then (some ((Db.mk [] []),v16.2)) else (appK2 s13 [v16.1] fun _=>(next_13 (s13++[v16.1]))))))) (fun (s13:(List (List (List Rel))))=>(some ((Db.mk s7 s13),0))) g_.edges 0 [])) v3.1 0 [])))
theorem c_database_New (g_:Gr) (r:Db × Int) (hm:Is (m_database_New g_) r):PSpec Tryz.prog 28 [.agg g_.enc] (.tup [.agg (r.1.enc.map RC.d),.one (.d (.int .i64 r.2))]):=by
 unfold m_database_New at hm
 refine PSpec.of_vc Tryz.func28 rfl (by kernel_rfl) (n:=66) rfl rfl (by simp) ?_
 try simp[*]
 refine r_call (av:=[.agg g_.enc]) hm (fun v hv=>c_versions_Schemas _ v hv) (by simp[*]) ?_
 clear hm;intro v3 hvv3 hm
 try simp[*]
 refine r_cond hm ?_ ?_<;>clear hm<;>intro hc4 hm
 ·try simp[*]
  obtain rfl:=r_ret hm
  exact ret0 (vs:=[_,_]) (by simp[*];try exact⟨rfl,rfl⟩) (by simp[*])
 ·try simp[*]
  intro hl6
  replace hl6:v3.1.length≤2097152:=by simpa using hl6
  refine Wait.for (xs:=v3.1) (s0:=[]) (fun i7 s7 e7 h7=>∃ c7_0:C,e7.n=66∧e7.get 1=.one (.ptr (0,16) 0)∧e7.get 2=.one (.ptr (1,32) 0)∧e7.get 4=.one (.d (.sl (v3.1.map Sch.enc)))∧e7.get 6=.one (.ptr (3,96) 0)∧e7.get 22=.one (.d (.sl (v3.1.map Sch.enc)))∧e7.get 23=.one (.d (.int .i64 (v3.1.length:Int)))∧e7.get 24=.one (.d (.int .i64 (i7:Int)))∧h7.box (0,16)=some [.d (.sl (g_.base.tables.map Tbl.enc)),.d (.sl (g_.base.fks.map Fk.enc)),.d (.sl (g_.base.cons.map Cons.enc)),.d (.sl (g_.edges.map Edg.enc))]∧h7.box (1,32)=some [.nil,.nil]∧h7.box (3,96)=some [c7_0,.nil]∧Grows h7 1 c7_0 (s7.map (encL Rel.enc))) hm ⟨.nil,by simp (maxDischargeDepth:=20) [*]⟩ ?_ ?_
  ·rintro i7 s7 e7 h7 ⟨c7_0,hn7,h7_1,h7_2,h7_4,h7_6,h7_22,h7_23,h7_24,hb7_b1,hb7_b2,hb7_b5,gc7_0⟩ hlt7 hm
   have hlc7_0:=gc7_0.list
   have hdc7_0:=gc7_0.toD
   have hac7_0:=gc7_0.toA
   have huc7_0:=gc7_0.useUp_arr
   have hw7:IntKind.i64.wrap ((i7:Int)+1)=(i7:Int)+1:=IntWalk.i64_in _ (by omega)
   try simp[*]
   refine Wait.of (SWP.draw (Plan.then_ [0,1,2,3,4,5,6,7] .done) follows (by kernel_rfl) ?_)
   try simp[*,Plan.then_,vcPlan,planOps,isCallAt,callKind]
   refine r_call (av:=[.agg (v3.1[i7]).enc]) hm (fun v hv=>c_instance_Empty _ v hv) (by simp[*]) ?_
   clear hm;intro v9 hvv9 hm
   try simp[*,Plan.then_,vcPlan,planOps,isCallAt,callKind]
   try refine⟨fun (_:Lab) (_:List C) hl=>hl,?_⟩
   refine r_app (xs:=s7) (ys:=[v9]) (enc:=(encL Rel.enc)) hm ty_el22 (by first | exact Grows.nil | (simp (maxDischargeDepth:=20) [*];done) | (simp (maxDischargeDepth:=20) [*];refine⟨?_,by omega⟩;intro hq;subst hq;simp at hz2<;>omega)) (by simp[*]) (by decide) (by decide) (fun _=>rfl) ?_
   clear hm;intro hl11 hm g10
   try simp[*,Plan.then_,vcPlan,planOps,isCallAt,callKind]
   exact BackF.of (s7++[v9]) ⟨⟨.own (h7.ep+3,528) ((s7++[v9]).map (encL Rel.enc)),by simp (maxDischargeDepth:=20) [*]⟩,hm⟩
  ·rintro s7 e7 h7 ⟨c7_0,hn7,h7_1,h7_2,h7_4,h7_6,h7_22,h7_23,h7_24,hb7_b1,hb7_b2,hb7_b5,gc7_0⟩ hm
   have hlc7_0:=gc7_0.list
   have hdc7_0:=gc7_0.toD
   have hac7_0:=gc7_0.toA
   have huc7_0:=gc7_0.useUp_arr
   try simp[*]
   intro hl12
   replace hl12:g_.edges.length≤2097152:=by simpa using hl12
   refine Wait.for (xs:=g_.edges) (s0:=[]) (fun i13 s13 e13 h13=>∃ c13_bb5_0 c13_0:C,(e13.n=66∧e13.get 2=.one (.ptr (1,32) 0)∧e13.get 4=.one (.d (.sl (v3.1.map Sch.enc)))∧e13.get 6=.one (.ptr (3,96) 0)∧e13.get 37=.one (.d (.sl (g_.edges.map Edg.enc)))∧e13.get 38=.one (.d (.int .i64 (g_.edges.length:Int)))∧e13.get 39=.one (.d (.int .i64 (i13:Int)))∧h13.box (1,32)=some [.nil,.nil]∧h13.box (3,96)=some [c13_bb5_0,c13_0]∧Grows h13 1 c13_bb5_0 (s7.map (encL Rel.enc))∧Grows h13 1 c13_0 (s13.map (encL (encL Rel.enc))))∧Apart c13_bb5_0 c13_0) hm ⟨c7_0,.nil,by simp (maxDischargeDepth:=20) [*],(by simp)⟩ ?_ ?_
   ·rintro i13 s13 e13 h13 ⟨c13_bb5_0,c13_0,⟨hn13,h13_2,h13_4,h13_6,h13_37,h13_38,h13_39,hb13_b2,hb13_b5,gc13_bb5_0,gc13_0⟩,apc13_bb5_0_c13_0⟩ hlt13 hm
    have hlc13_bb5_0:=gc13_bb5_0.list
    have hdc13_bb5_0:=gc13_bb5_0.toD
    have hac13_bb5_0:=gc13_bb5_0.toA
    have huc13_bb5_0:=gc13_bb5_0.useUp_arr
    have hlc13_0:=gc13_0.list
    have hdc13_0:=gc13_0.toD
    have hac13_0:=gc13_0.toA
    have huc13_0:=gc13_0.useUp_arr
    have hw13:IntKind.i64.wrap ((i13:Int)+1)=(i13:Int)+1:=IntWalk.i64_in _ (by omega)
    try simp[*]
    refine Wait.of (SWP.draw (Plan.then_ [0,1,2,3,4,5,6,7,8,9,10,11,12] .done) follows (by kernel_rfl) ?_)
    try simp[*,Plan.then_,vcPlan,planOps,isCallAt,callKind]
    replace hm:=hm.get
    obtain⟨x15,h0x15,hxx15,hm⟩:=hm
    try simp[*,Plan.then_,vcPlan,planOps,isCallAt,callKind]
    refine r_call (av:=[.agg x15.enc,.one (.d (.sl ((g_.edges[i13].script).map Stp.enc)))]) hm (fun v hv=>c_script_EmptyComplements _ _ v hv) (by simp[*]) ?_
    clear hm;intro v16 hvv16 hm
    try simp[*,Plan.then_,vcPlan,planOps,isCallAt,callKind]
    try refine⟨fun (_:Lab) (_:List C) hl=>hl,?_⟩
    refine r_cond hm ?_ ?_<;>clear hm<;>intro hc17 hm
    ·try simp[*]
     obtain rfl:=r_ret hm
     exact ret0 (vs:=[_,_]) (by simp[*];try exact⟨rfl,rfl⟩) (by simp[*])
    ·try simp[*]
     refine r_app (xs:=s13) (ys:=[v16.1]) (enc:=(encL (encL Rel.enc))) hm ty_el23 (by first | exact Grows.nil | (simp (maxDischargeDepth:=20) [*];done) | (simp (maxDischargeDepth:=20) [*];refine⟨?_,by omega⟩;intro hq;subst hq;simp at hz2<;>omega)) (by simp[*]) (by decide) (by decide) (fun _=>rfl) ?_
     clear hm;intro hl19 hm g18
     try simp[*]
     exact BackF.of (s13++[v16.1]) ⟨⟨c13_bb5_0,.own (h13.ep+3,992) ((s13++[v16.1]).map (encL (encL Rel.enc))),by simp (maxDischargeDepth:=20) [*],(by first | (simp[*];done) | exact (gc13_bb5_0.apart (by simp)).symm)⟩,hm⟩
   ·rintro s13 e13 h13 ⟨c13_bb5_0,c13_0,⟨hn13,h13_2,h13_4,h13_6,h13_37,h13_38,h13_39,hb13_b2,hb13_b5,gc13_bb5_0,gc13_0⟩,apc13_bb5_0_c13_0⟩ hm
    have hlc13_bb5_0:=gc13_bb5_0.list
    have hdc13_bb5_0:=gc13_bb5_0.toD
    have hac13_bb5_0:=gc13_bb5_0.toA
    have huc13_bb5_0:=gc13_bb5_0.useUp_arr
    have hlc13_0:=gc13_0.list
    have hdc13_0:=gc13_0.toD
    have hac13_0:=gc13_0.toA
    have huc13_0:=gc13_0.useUp_arr
    try simp[*]
    obtain rfl:=r_ret hm
    exact ret0 (vs:=[_,_]) (by simp[*];try exact⟨rfl,rfl⟩) (by simp[*])
instance i_database_New (g_:Gr):Con (m_database_New g_) Tryz.prog 28 [.agg g_.enc] (fun r=>.tup [.agg (r.1.enc.map RC.d),.one (.d (.int .i64 r.2))]):=⟨fun r hm=>c_database_New g_ r hm⟩
set_option maxRecDepth 20000
def m_versions_Schema (g_:Gr) (version:Int):Option (Sch × Int):=
 (bindK (m_versions_Schemas g_) fun v3=>(bif (v3.2 != 0) then (some ((Sch.mk [] [] []),v3.2)) else (bif decide (version < 0) then (some ((Sch.mk [] [] []),1)) else (bif decide ((v3.1.length:Int)≤version) then (some ((Sch.mk [] [] []),1)) else (getK v3.1 version fun x8=>(some (x8,0)))))))
instance c_versions_Schema (g_:Gr) (version:Int):Con (m_versions_Schema g_ version) Tryz.prog 15 [.agg g_.enc,.one (.d (.int .i64 version))] (fun r=>.tup [.agg (r.1.enc.map RC.d),.one (.d (.int .i64 r.2))]):=by
 unfold m_versions_Schema
 exact go 30 Tryz.func15 rfl (by kernel_rfl) rfl rfl (by simp)
end Go.Proofs.YthiojhcimecdgaaGreatDoor
end
section
namespace Go.Proofs.YthiojhcimecdgaaGreatDoor
open Go Go.Am
theorem app_g {P:Program} {ty el:TypeId} {es by_ d:Nat} {h:HS} {c x:C} {K:V→HS→Prop} {xs ys:List (List D)} (hel:elT P ty=some (el,es,by_)) (g:Grows h es c xs) (hx:x.list?=some ys) (h0:0 < es) (hb:by_≤4096) (hy:∀ y ∈ ys,y.length=es) (hl:xs.length+ys.length≤LIM)
  (hk:∀ c' h',Grows h' es c' (xs++ys)→h'.box=h.box→h'.ep=h.ep+1→(∀ es2 c2 xs2,Grows h es2 c2 xs2→Apart c c2→Grows h' es2 c2 xs2∧Apart c' c2)→K (.one c') h'):appK P ty c x d h (K:=⟨K⟩):=by
 have hall:∀ y ∈ xs++ys,y.length=es:=fun y hy'=>(List.mem_append.1 hy').elim (g.2 y) (hy y)
 refine appK_of hel g hx h0 hb hy hl (hk _ _ (Grows.own (by simp[HS.setArr,HS.next]) (by show h.ep < (C.useUp h c).ep+1;rw[useUp_ep];omega) hall) (by cases c<;>rfl) (by show (C.useUp h c).ep+1=_;rw[useUp_ep]) fun es2 c2 xs2 g2 ha=>⟨?_,g2.apart (Nat.le_refl _)⟩)
 exact ((g2.useUp ha).setArr' (by rw[useUp_ep];exact Nat.le_refl _)).next
def m_versions_Traverse (g:Gr) (version:Int):Option (List Hop × Int):=
 bindK (m_versions_Schema g version) fun v2=>bif v2.2 != 0 then some ([],v2.2) else
 whileK (fun (s:List Int × List Hop × Int) next=>bif decide (s.2.2 < (s.1.length:Int)) then
  forK (fun (i:Nat) (edge:Edg) (t:List Int × List Hop) next2=>getK t.1 s.2.2 fun x=>bindK (m_slices_Contains_Int t.1 ((i:Int)+1)) fun a=>bindK (m_slices_Contains_Int t.1 edge.parent) fun b=>
   chkK (t.1.length+1≤2097152∧t.2.length+1≤2097152) (bif (edge.parent == x) && !a then next2 (t.1++[(i:Int)+1],t.2++[⟨(i:Int),false⟩]) else bif (((i:Int)+1) == x) && !b then next2 (t.1++[edge.parent],t.2++[⟨(i:Int),true⟩]) else next2 t))
   (fun t=>next (t.1,t.2,s.2.2+1)) g.edges 0 (s.1,s.2.1)
  else some (s.2.1,0)) FUEL ([version],[],0)
theorem c_versions_Traverse (g:Gr) (version:Int) (r:List Hop × Int) (hm:Is (m_versions_Traverse g version) r) :
  PSpec Tryz.prog 99 [.agg g.enc,.one (.d (.int .i64 version))] (.tup [.one (.d (.sl (r.1.map Hop.enc))),.one (.d (.int .i64 r.2))]):=by
 unfold m_versions_Traverse at hm
 refine PSpec.of_heap ?_
 show HSpec _ _ [.agg (g.enc.map C.d),.one (.d (.int .i64 version))] HS.init _
 refine HSpec.of_vc Tryz.func99 rfl (by kernel_rfl) (n:=90) rfl rfl (by simp) ?_
 obtain⟨v2,hv2,hm⟩:=hm.bind
 simp
 refine callK_fn ((c_versions_Schema g version).h v2 hv2) (by simp) ?_
 simp
 refine r_cond hm ?_ ?_<;>clear hm<;>intro hc hm
 ·obtain rfl:=r_ret hm
  simp[retH,resVs,resV,notTup]
  exact⟨.data rfl,.data rfl,trivial⟩
 simp
 refine Wait.while (fun s e h'=>∃ cq co,e.n=90∧e.get 2=.one (.ptr (0,32) 0)∧e.get 8=.one cq∧e.get 9=.one co∧e.get 10=.one (.d (.int .i64 s.2.2))∧h'.box (0,32)=some [.d (.sl (g.base.tables.map Tbl.enc)),.d (.sl (g.base.fks.map Fk.enc)),.d (.sl (g.base.cons.map Cons.enc)),.d (.sl (g.edges.map Edg.enc))]∧0 < h'.ep∧Grows h' 1 cq (s.1.map encI)∧Grows h' 2 co (s.2.1.map Hop.enc)∧Apart cq co∧0≤s.2.2) hm
  ⟨.own (3,368) [encI version],.nil,by simp,by simp,by simp,by simp,by simp,by simp,by simp,Grows.own (by simp) (by simp) (by simp),Grows.nil,by rw[apart_nil'];trivial,by simp⟩ ?_
 rintro n ⟨queue,out,k⟩ e h' ⟨cq,co,en,e2,e8,e9,e10,bg,hep0,gQ,gO,hap,hkk⟩ hm
 simp only at e10 gQ gO hkk hm
 simp[en,e2,e8,e9,e10]
 refine lenK_of gQ.list (fun hlq=>?_)
 simp only[List.length_map] at hlq
 have hlq2:queue.length≤2097152:=hlq
 simp[en,e2,e8,e9,e10]
 refine r_cond hm ?_ ?_<;>clear hm<;>intro hc hm
 ·simp[en,e2,e8,e9,e10,bg]
  intro hel
  have hk0:k < (queue.length:Int):=by simpa using hc
  refine Wait.for (xs:=g.edges) (s0:=(queue,out)) (fun i t e h'=>∃ cq co,e.n=90∧e.get 2=.one (.ptr (0,32) 0)∧e.get 8=.one cq∧e.get 9=.one co∧e.get 10=.one (.d (.int .i64 k))∧e.get 31=.one (.d (.sl (g.edges.map Edg.enc)))∧e.get 32=.one (.d (.int .i64 (g.edges.length:Int)))∧e.get 33=.one (.d (.int .i64 (i:Int))) ∧
   h'.box (0,32)=some [.d (.sl (g.base.tables.map Tbl.enc)),.d (.sl (g.base.fks.map Fk.enc)),.d (.sl (g.base.cons.map Cons.enc)),.d (.sl (g.edges.map Edg.enc))]∧0 < h'.ep∧Grows h' 1 cq (t.1.map encI)∧Grows h' 2 co (t.2.map Hop.enc)∧Apart cq co) hm ⟨cq,co,by simp[en],by simp[e2],by simp[e8],by simp[e9],by simp[e10],by simp,by simp,by simp,bg,hep0,gQ,gO,hap⟩ ?_ ?_
  ·rintro i t e h' ⟨cq,co,en,e2,e8,e9,e10,e31,e32,e33,bg,hep0,gQ,gO,hap⟩ hlt hm
   have hw:IntKind.i64.wrap ((i:Int)+1)=(i:Int)+1:=IntWalk.i64_in _ (by omega)
   obtain⟨x,hk1,hx,hm⟩:=hm.get
   obtain⟨a,ha,hm⟩:=hm.bind
   obtain⟨b,hb,hm⟩:=hm.bind
   obtain⟨⟨hl1,hl2⟩,hm⟩:=hm.chk
   have hxq:(t.1.map encI)[k.toNat]?=some [.int .i64 x]:=by rw[List.getElem?_map,hx];rfl
   have hcl:=gQ.list
   simp[en,e2,e8,e9,e10,e31,e32,e33,hlt]
   refine Wait.cut (Plan.then_ [0,1,2,3,4,5,6,7,8,9,10,11,12,13,14] .done) follows (by kernel_rfl) (fun e1 h1=>e1.n=90∧e1.get 2=.one (.ptr (0,32) 0)∧e1.get 8=.one cq∧e1.get 9=.one co∧e1.get 10=.one (.d (.int .i64 k))∧e1.get 31=.one (.d (.sl (g.edges.map Edg.enc)))∧e1.get 32=.one (.d (.int .i64 (g.edges.length:Int)))∧e1.get 33=.one (.d (.int .i64 (i:Int))) ∧
    e1.get 11=.one (.d (.int .i64 (i:Int)))∧e1.get 12=.one (.ptr (h'.ep,192) 0)∧h1.box (h'.ep,192)=some [.d (.int .i64 g.edges[i].parent),.d (.sl (g.edges[i].script.map Stp.enc))]∧h1.box (0,32)=some [.d (.sl (g.base.tables.map Tbl.enc)),.d (.sl (g.base.fks.map Fk.enc)),.d (.sl (g.base.cons.map Cons.enc)),.d (.sl (g.edges.map Edg.enc))]∧h'.ep < h1.ep∧Grows h1 1 cq (t.1.map encI)∧Grows h1 2 co (t.2.map Hop.enc)∧e1.get 38=.one (.d (.bool ((g.edges[i].parent == x) && !a)))) ?_ ?_
   ·have b0:((0,32):Lab)≠(h'.ep,192):=by simp
    cases hp:(g.edges[i].parent == x) with
    | true=>
      simp[Plan.then_,vcPlan,planOps,isCallAt,callKind,en,e2,e8,e9,e10,e31,e32,e33,hcl,hk1,hxq,hp,hw]
      refine callK_fn ((c_slices_Contains_Int t.1 ((i:Int)+1)).h a ha) (by simp[toAs,V.toA,gQ.toA]) ?_
      simp[Plan.then_,vcPlan,planOps,isCallAt,callKind,en,e2,e8,e9,e10,e31,e32,e33,hcl,hk1,hxq,hp,hw]
      try refine⟨fun _ _ x=>x,?_⟩
      refine CutK.of ⟨by simp[en],by simp[e2,en],by simp[e8,en],by simp[e9,en],by simp[e10,en],by simp[e31,en],by simp[e32,en],by simp[e33,en],by simp[en],by simp[en],by simp,by simp[bg],by simp,gQ.setBox.next.setBox.next,gO.setBox.next.setBox.next,by simp[en]⟩
    | false=>
      simp[Plan.then_,vcPlan,planOps,isCallAt,callKind,en,e2,e8,e9,e10,e31,e32,e33,hcl,hk1,hxq,hp,hw]
      try refine⟨fun _ _ x=>x,?_⟩
      refine CutK.of ⟨by simp[en],by simp[e2,en],by simp[e8,en],by simp[e9,en],by simp[e10,en],by simp[e31,en],by simp[e32,en],by simp[e33,en],by simp[en],by simp[en],by simp,by simp[bg],by simp,gQ.setBox.next.setBox,gO.setBox.next.setBox,by simp[en]⟩
   ·rintro e1 h1 ⟨en,e2,e8,e9,e10,e31,e32,e33,e11,e12,be,bg,hep1,gQ,gO,e38⟩
    simp[en,e2,e8,e9,e10,e31,e32,e33,e11,e12,e38]
    refine r_cond hm ?_ ?_<;>clear hm<;>intro hc1 hm
    ·simp[en,e2,e8,e9,e10,e31,e32,e33,e11,e12]
     refine app_g (xs:=t.2.map Hop.enc) (ys:=[Hop.enc ⟨(i:Int),false⟩]) ty_el173 (gO.setArr' (by simp)).next rfl (by decide) (by decide) (by simp) (by simp;omega) fun c2 h4 gO2 hbo hep hoth=>?_
     obtain⟨gQ2,hap2⟩:=hoth 1 cq (t.1.map encI) (gQ.setArr' (by simp)).next hap.symm
     have b4:h4.box (0,32)=some [.d (.sl (g.base.tables.map Tbl.enc)),.d (.sl (g.base.fks.map Fk.enc)),.d (.sl (g.base.cons.map Cons.enc)),.d (.sl (g.edges.map Edg.enc))]:=by rw[hbo];simpa using bg
     have be4:h4.box (h'.ep,192)=some [.d (.int .i64 g.edges[i].parent),.d (.sl (g.edges[i].script.map Stp.enc))]:=by rw[hbo];simpa using be
     simp at hep
     simp[en,e2,e8,e9,e10,e31,e32,e33,e11,e12,b4,be4,hw]
     refine app_g (xs:=t.1.map encI) (ys:=[encI ((i:Int)+1)]) ty_el64 (gQ2.setArr' (by simp)).next rfl (by decide) (by decide) (by simp) (by simp;omega) fun c3 h5 gQ3 hbo5 hep5 hoth5=>?_
     obtain⟨gO3,hap3⟩:=hoth5 2 c2 _ (gO2.setArr' (by simp)).next hap2.symm
     have b5:h5.box (0,32)=some [.d (.sl (g.base.tables.map Tbl.enc)),.d (.sl (g.base.fks.map Fk.enc)),.d (.sl (g.base.cons.map Cons.enc)),.d (.sl (g.edges.map Edg.enc))]:=by rw[hbo5];simpa using b4
     simp at hep5
     simp[en,e2,e8,e9,e10,e31,e32,e33,e11,e12,b5,hw]
     exact BackF.of (t.1++[(i:Int)+1],t.2++[⟨(i:Int),false⟩]) ⟨⟨c3,c2,by simp[en],by simp[e2],by simp,by simp,by simp[e10],by simp[e31],by simp[e32],by simp,b5,by omega,by simpa using gQ3,by simpa using gO3,hap3⟩,hm⟩
    ·have hcl:=gQ.list
     simp[en,e2,e8,e9,e10,e31,e32,e33,e11,e12,be,hcl,hk1,hxq,hw]
     cases hp:(((i:Int)+1) == x) with
     | true=>
       rw[hp] at hm
       simp[en,e2,e8,e9,e10,e31,e32,e33,e11,e12,be,hcl,hk1,hxq,hw,hp]
       refine callK_fn ((c_slices_Contains_Int t.1 g.edges[i].parent).h b hb) (by simp[toAs,V.toA,gQ.toA]) ?_
       simp[en,e2,e8,e9,e10,e31,e32,e33,e11,e12,be,hcl,hk1,hxq,hw,hp]
       refine r_cond hm ?_ ?_<;>clear hm<;>intro hc2 hm
       ·simp[en,e2,e8,e9,e10,e31,e32,e33,e11,e12]
        refine app_g (xs:=t.2.map Hop.enc) (ys:=[Hop.enc ⟨(i:Int),true⟩]) ty_el173 (gO.next.setArr' (by simp)).next rfl (by decide) (by decide) (by simp) (by simp;omega) fun c2 h4 gO2 hbo hep hoth=>?_
        obtain⟨gQ2,hap2⟩:=hoth 1 cq (t.1.map encI) (gQ.next.setArr' (by simp)).next hap.symm
        have b4:h4.box (0,32)=some [.d (.sl (g.base.tables.map Tbl.enc)),.d (.sl (g.base.fks.map Fk.enc)),.d (.sl (g.base.cons.map Cons.enc)),.d (.sl (g.edges.map Edg.enc))]:=by rw[hbo];simpa using bg
        have be4:h4.box (h'.ep,192)=some [.d (.int .i64 g.edges[i].parent),.d (.sl (g.edges[i].script.map Stp.enc))]:=by rw[hbo];simpa using be
        simp at hep
        simp[en,e2,e8,e9,e10,e31,e32,e33,e11,e12,b4,be4,hw]
        refine app_g (xs:=t.1.map encI) (ys:=[encI (g.edges[i].parent)]) ty_el64 (gQ2.setArr' (by simp)).next rfl (by decide) (by decide) (by simp) (by simp;omega) fun c3 h5 gQ3 hbo5 hep5 hoth5=>?_
        obtain⟨gO3,hap3⟩:=hoth5 2 c2 _ (gO2.setArr' (by simp)).next hap2.symm
        have b5:h5.box (0,32)=some [.d (.sl (g.base.tables.map Tbl.enc)),.d (.sl (g.base.fks.map Fk.enc)),.d (.sl (g.base.cons.map Cons.enc)),.d (.sl (g.edges.map Edg.enc))]:=by rw[hbo5];simpa using b4
        simp at hep5
        simp[en,e2,e8,e9,e10,e31,e32,e33,e11,e12,b5,hw]
        exact BackF.of (t.1++[g.edges[i].parent],t.2++[⟨(i:Int),true⟩]) ⟨⟨c3,c2,by simp[en],by simp[e2],by simp,by simp,by simp[e10],by simp[e31],by simp[e32],by simp,b5,by omega,by simpa using gQ3,by simpa using gO3,hap3⟩,hm⟩
       ·try simp[en,e2,e8,e9,e10,e31,e32,e33,e11,e12,hw]
        exact BackF.of t ⟨⟨cq,co,by simp[en],by simp[e2],by simp[e8],by simp[e9],by simp[e10],by simp[e31],by simp[e32],by simp,by first | exact bg | simpa using bg,by first | exact hep0 | (simp<;>omega) | omega,gQ.next,gO.next,hap⟩,hm⟩
     | false=>
       rw[hp] at hm
       simp[en,e2,e8,e9,e10,e31,e32,e33,e11,e12,be,hcl,hk1,hxq,hw,hp]
       exact BackF.of t ⟨⟨cq,co,by simp[en],by simp[e2],by simp[e8],by simp[e9],by simp[e10],by simp[e31],by simp[e32],by simp,by first | exact bg | simpa using bg,by first | exact hep0 | (simp<;>omega) | omega,gQ,gO,hap⟩,hm⟩
  ·rintro t e h' ⟨cq,co,en,e2,e8,e9,e10,e31,e32,e33,bg,hep0,gQ,gO,hap⟩ hm
   have hw:IntKind.i64.wrap (k+1)=k+1:=IntWalk.i64_in _ (by omega)
   simp[en,e2,e8,e9,e10,e31,e32,e33,hw]
   exact BackF.of (t.1,t.2,k+1) ⟨⟨cq,co,by simp[en],by simp[e2],by simp[e8],by simp[e9],by simp,bg,hep0,gQ,gO,hap,by simp;omega⟩,hm⟩
 ·obtain rfl:=r_ret hm
  simp[retH,resVs,resV,notTup,en,e2,e8,e9,e10]
  exact⟨.data gO.toD,.data rfl,trivial⟩
theorem toD_int {x:C} {k:IntKind} {n:Int} (h:x.toD=some (.int k n)):x=.d (.int k n):=by
 cases x<;>simp[C.toD] at h
 rw[h]
theorem toD_bool {x:C} {b:Bool} (h:x.toD=some (.bool b)):x=.d (.bool b):=by
 cases x<;>simp[C.toD] at h
 rw[h]
structure PSt where
 insts:List (List Rel)
 comps:List (List (List Rel))
 errs:List Int
 reached:List Bool
def PSt.rows (s:PSt) (ci cc ce cr:C):List (C × List D):=[(ci,s.insts.map encI_),(cc,s.comps.map encJ_),(ce,s.errs.map fun z=>.int .i64 z),(cr,s.reached.map D.bool)]
def m_carry (b:Bool) (S:Sch) (steps:List Stp) (x:List Rel) (c:List (List Rel)):Option (List Rel × List (List Rel) × Int):=bif b then m_script_Backward S steps x c else m_script_Forward S steps x c
def m_hop {ρ:Type} (schemas:List Sch) (edge:Edg) (hop:Hop) (n f:Int) (s:PSt) (next:PSt→Option ρ):Option ρ:=
 getK s.reached n fun rn=>bif !rn then next s else getK s.errs n fun en=>bif en != 0 then next s else chkK (0≤f∧f < s.reached.length∧f < s.errs.length) <|
  getK schemas edge.parent fun sch=>getK s.insts n fun inst=>getK s.comps hop.edge fun cm=>bindK (m_carry hop.back sch edge.script inst cm) fun r=>
   bif r.2.2 == 0 then chkK (f < s.insts.length) (next ⟨s.insts.set f.toNat r.1,s.comps.set hop.edge.toNat r.2.1,s.errs.set f.toNat r.2.2,s.reached.set f.toNat true⟩)
   else next ⟨s.insts,s.comps,s.errs.set f.toNat r.2.2,s.reached.set f.toNat true⟩
def m_database_propagate (g:Gr) (schemas:List Sch) (insts:List (List Rel)) (comps:List (List (List Rel))) (v:Int):Option PSt:=
 chkK (0≤v∧v < schemas.length) <| bindK (m_versions_Traverse g v) fun T=>
 forK (fun (_:Nat) (hop:Hop) (s:PSt) next=>getK g.edges hop.edge fun edge=>chkK (okI (hop.edge+1)) <|
  m_hop schemas edge hop (bif hop.back then hop.edge+1 else edge.parent) (bif hop.back then edge.parent else hop.edge+1) s next) (fun s=>some s) T.1 0
  ⟨insts,comps,List.replicate schemas.length 0,(List.replicate schemas.length false).set v.toNat true⟩
theorem h_database_propagate (h:HS) (g:Gr) (schemas:List Sch) (insts:List (List Rel)) (comps:List (List (List Rel))) (v:Int) (ci cc:C) (r:PSt) (hm:Is (m_database_propagate g schemas insts comps v) r) (mC:MC h [(ci,insts.map encI_),(cc,comps.map encJ_)]) (K:V→HS→Prop)
  (hK:∀ ce cr h',MC h' (r.rows ci cc ce cr)→Same h h' (labs ci++labs cc)→(∀ k ∈ labs ce++labs cr,h.ep≤k.1)→K (.tup [.one ce,.one cr]) h') :
  HSpec Tryz.prog 72 [.agg (g.enc.map C.d),.one (.d (.sl (schemas.map Sch.enc))),.agg [ci,cc],.one (.d (.int .i64 v))] h K:=by
 refine HSpec.of_vc Tryz.func72 rfl (by kernel_rfl) (n:=118) rfl rfl (by simp) ?_
 unfold m_database_propagate at hm
 obtain⟨⟨hv0,hv1⟩,hm⟩:=hm.chk
 obtain⟨T,hT,hm⟩:=hm.bind
 have mk:∀ (H:HS) (le lr:Lab),schemas.length≤2097152→H.box le=some (List.replicate schemas.length (.d (.int .i64 0)))→H.box lr=some (List.replicate schemas.length (.d (.bool false)))→le≠lr→h.ep+1 < le.1→le.1 < H.ep→h.ep+1 < lr.1→lr.1 < H.ep→Same h H [] →
   MC H ((⟨insts,comps,List.replicate schemas.length 0,List.replicate schemas.length false⟩:PSt).rows ci cc (.mrow le 0 schemas.length schemas.length) (.mrow lr 0 schemas.length schemas.length)):=by
  intro H le lr hn b1 b2 hne g1 g2 g3 g4 hs
  have m2:=mC.new hs
  have hlt:=mC.lt
  have hd:=mC.dis
  simp only[List.flatMap_cons,List.flatMap_nil,List.append_nil] at hd
  have hi:∀ k ∈ labs ci,k.1 < h.ep:=hlt _ (List.mem_cons_self ..)
  have hc:∀ k ∈ labs cc,k.1 < h.ep:=hlt _ (List.mem_cons_of_mem _ (List.mem_cons_self ..))
  have c1:=CellsAt.make b1 (d:=.int .i64 0) rfl hn
  have c2:=CellsAt.make b2 (d:=.bool false) rfl hn
  refine⟨fun q hq=>?_,fun q hq k hk=>?_,?_⟩
  ·simp only[PSt.rows,List.map_replicate,List.mem_cons,List.not_mem_nil,or_false] at hq
   rcases hq with rfl | rfl | rfl | rfl
   ·exact m2.row _ (List.mem_cons_self ..)
   ·exact m2.row _ (List.mem_cons_of_mem _ (List.mem_cons_self ..))
   ·exact c1
   ·exact c2
  ·have hep:=hs.1
   simp only[PSt.rows,List.map_replicate,List.mem_cons,List.not_mem_nil,or_false] at hq
   rcases hq with rfl | rfl | rfl | rfl
   ·have:=hi k hk;omega
   ·have:=hc k hk;omega
   ·simp only[labs,List.mem_singleton] at hk;rw[hk];exact g2
   ·simp only[labs,List.mem_singleton] at hk;rw[hk];exact g4
  ·simp only[PSt.rows,List.flatMap_cons,List.flatMap_nil,List.append_nil,labs]
   have hn:=List.nodup_append.1 hd
   refine List.nodup_append.2 ⟨hn.1,List.nodup_append.2 ⟨hn.2.1,by simp[hne],fun a ha b hb he=>?_⟩,fun a ha b hb he=>?_⟩
   ·subst he
    have:=hc a ha
    simp at hb
    rcases hb with rfl | rfl<;>omega
   ·subst he
    have:=hi a ha
    simp at hb
    rcases hb with hb | rfl | rfl
    ·exact hn.2.2 a ha a hb rfl
    ·omega
    ·omega
 simp
 refine Wait.cut (Plan.then_ [0,1,3,4] (.two 2 5 (Plan.then_ [6,5,7] .done) (Plan.then_ [2,6,7] .done))) follows (by kernel_rfl) (fun e1 h1=>∃ ce cr,e1.n=118∧e1.get 1=.one (.d (.sl (schemas.map Sch.enc)))∧e1.get 3=.one (.d (.int .i64 v))∧e1.get 4=.one (.ptr (h.ep,64) 0)∧e1.get 6=.one (.ptr (h.ep+1,96) 0)∧e1.get 8=.one ce∧e1.get 9=.one cr ∧
  h1.box (h.ep,64)=some (g.enc.map C.d)∧h1.box (h.ep+1,96)=some [ci,cc]∧MC h1 ((⟨insts,comps,List.replicate schemas.length 0,List.replicate schemas.length false⟩:PSt).rows ci cc ce cr)∧Same h h1 []∧(∀ k ∈ labs ce++labs cr,h.ep+1 < k.1)∧h.ep+1 < h1.ep) ?_ ?_
 ·simp[Plan.then_,vcPlan,planOps,isCallAt,callKind]
  intro hsl
  refine⟨⟨by omega,CutK.of ⟨.mrow (h.ep+1+1,368) 0 schemas.length schemas.length,.mrow (h.ep+1+1+1,416) 0 schemas.length schemas.length,by simp,by simp,by simp,by simp,by simp,by simp,by simp,by simp,by simp,mk _ (h.ep+1+1,368) (h.ep+1+1+1,416) hsl (by simp) (by simp) (by simp) (by simp) (by simp) (by simp) (by simp) ?_,?_,by simp[labs],by simp⟩⟩,?_⟩
  ·repeat' first | exact Same.refl | apply Same.next | apply Same.setArr | (refine Same.setBox ?_ (.inr (by simp)))
  ·repeat' first | exact Same.refl | apply Same.next | apply Same.setArr | (refine Same.setBox ?_ (.inr (by simp)))
  refine⟨by omega,CutK.of ⟨.mrow (h.ep+1+1+1,368) 0 schemas.length schemas.length,.mrow (h.ep+1+1,416) 0 schemas.length schemas.length,by simp,by simp,by simp,by simp,by simp,by simp,by simp,by simp,by simp,mk _ (h.ep+1+1+1,368) (h.ep+1+1,416) hsl (by simp) (by simp) (by simp) (by simp) (by simp) (by simp) (by simp) ?_,?_,by simp[labs],by simp⟩⟩
  ·repeat' first | exact Same.refl | apply Same.next | apply Same.setArr | (refine Same.setBox ?_ (.inr (by simp)))
  ·repeat' first | exact Same.refl | apply Same.next | apply Same.setArr | (refine Same.setBox ?_ (.inr (by simp)))
 ·rintro e1 h1 ⟨ce,cr,en,e1',e3,e4,e6,e8,e9,bg,bd,mP,hs1,hln,hep1⟩
  have hvn:v.toNat < (List.map D.bool (List.replicate schemas.length false)).length:=by simp;omega
  obtain⟨lr,cap,bs,hcr,hbr,hbl,hlr,-,hset⟩:=mP.at (j:=3) rfl hvn
  simp only[List.length_map,List.length_replicate] at hcr
  have hno:=ne_new hlr
  have hvn2:v.toNat < schemas.length:=by omega
  have hnl:((h.ep,64)=lr)=False:=eq_false (by rintro rfl;have h9:h.ep+1 < h.ep:=hln (h.ep,64) (by rw[hcr];simp[labs]);omega)
  have hnd:((h.ep+1,96)=lr)=False:=eq_false (by rintro rfl;have h9:h.ep+1 < h.ep+1:=hln (h.ep+1,96) (by rw[hcr];simp[labs]);omega)
  have m1:=hset h1 _ (.d (.bool true)) (.bool true) mP rfl rfl
  have e9':e1.get 9=.one (.mrow lr 0 schemas.length cap):=by rw[e9,hcr]
  simp only[Gr.enc,List.map_cons,List.map_nil] at bg
  simp[en,e1',e3,e4,e6,e8,e9',hv0,hvn2,hbr,hbl,bg,hnl]
  refine callK_fn (c_versions_Traverse g v T hT) (by simp) ?_
  simp[en,e1',e3,e4,e6,e8,e9',hv0,hvn2,hbr,hbl,bg,hnl]
  intro hTl
  have hci:∀ k ∈ labs ci,k.1 < h.ep:=mC.lt _ (List.mem_cons_self ..)
  have hcc:∀ k ∈ labs cc,k.1 < h.ep:=mC.lt _ (List.mem_cons_of_mem _ (List.mem_cons_self ..))
  have hce:∀ k ∈ labs ce,h.ep+1 < k.1:=fun k hk=>hln k (by simp[hk])
  have hcr2:∀ k ∈ labs cr,h.ep+1 < k.1:=fun k hk=>hln k (by simp[hk])
  have m1':MC (h1.setBox lr (setCells bs v.toNat [.d (.bool true)])) ((⟨insts,comps,List.replicate schemas.length 0,(List.replicate schemas.length false).set v.toNat true⟩:PSt).rows ci cc ce cr):=by
   have e9:(List.map D.bool (List.replicate schemas.length false)).set v.toNat (.bool true)=((List.replicate schemas.length false).set v.toNat true).map D.bool:=by rw[List.map_set]
   simpa[PSt.rows,e9] using m1
  rw[← hcr]
  refine Wait.for (xs:=T.1) (fun i s e h'=>e.n=118∧e.get 1=.one (.d (.sl (schemas.map Sch.enc)))∧e.get 4=.one (.ptr (h.ep,64) 0)∧e.get 6=.one (.ptr (h.ep+1,96) 0)∧e.get 8=.one ce∧e.get 9=.one cr∧e.get 36=.one (.d (.sl (T.1.map Hop.enc)))∧e.get 37=.one (.d (.int .i64 (T.1.length:Int)))∧e.get 38=.one (.d (.int .i64 (i:Int))) ∧
   h'.box (h.ep,64)=some (g.enc.map C.d)∧h'.box (h.ep+1,96)=some [ci,cc]∧MC h' (s.rows ci cc ce cr)∧Same h h' (labs ci++labs cc)∧h.ep+1 < h'.ep) hm
   ⟨by simp[en],by simp[e1'],by simp[e4],by simp[e6],by simp[e8],by simp[e9],by simp,by simp,by simp,by simp[hnl,bg],by simp[hnd,bd],m1'.new (by repeat' first | exact Same.refl | apply Same.next),?_,by simp;omega⟩ ?_ ?_
  ·refine (Same.setBox (hs1.mono (by simp)) (.inr ?_)).next
   have:=hcr2 lr (by rw[hcr];simp[labs])
   omega
  ·rintro i s e h' ⟨en,e1',e4,e6,e8,e9,e36,e37,e38,bg,bd,mP,hs,hep⟩ hlt hm
   have hw:IntKind.i64.wrap ((i:Int)+1)=(i:Int)+1:=IntWalk.i64_in _ (by omega)
   obtain⟨edge,he0,hedge,hm⟩:=hm.get
   obtain⟨hok,hm⟩:=hm.chk
   have hw2:=wrap_ok hok
   simp only[Gr.enc,List.map_cons,List.map_nil] at bg
   simp[en,e1',e4,e6,e8,e9,e36,e37,e38,hlt,bg,he0,hedge]
   refine Wait.cut (Plan.then_ [0,1,2,3,4,5,6] .done) follows (by kernel_rfl) (fun E2 h2=>E2.n=118∧E2.get 1=.one (.d (.sl (schemas.map Sch.enc)))∧E2.get 4=.one (.ptr (h.ep,64) 0)∧E2.get 6=.one (.ptr (h.ep+1,96) 0)∧E2.get 8=.one ce∧E2.get 9=.one cr∧E2.get 36=.one (.d (.sl (T.1.map Hop.enc)))∧E2.get 37=.one (.d (.int .i64 (T.1.length:Int)))∧E2.get 38=.one (.d (.int .i64 (i:Int)))∧E2.get 13=.one (.ptr (h'.ep,208) 0)∧E2.get 14=.one (.ptr (h'.ep+1,224) 0)∧h2.box (h'.ep,208)=some [.d (.int .i64 T.1[i].edge),.d (.bool T.1[i].back)]∧h2.box (h'.ep+1,224)=some [.d (.int .i64 edge.parent),.d (.sl (edge.script.map Stp.enc))]∧E2.get 15=.one (.d (.int .i64 edge.parent))∧E2.get 16=.one (.d (.int .i64 (T.1[i].edge+1)))∧Same h' h2 []∧h'.ep+1 < h2.ep) ?_ ?_
   ·simp[Plan.then_,vcPlan,planOps,isCallAt,callKind,en,e1',e4,e6,e8,e9,e36,e37,e38,hw2]
    refine CutK.of ⟨by simp[en],by simp[e1',en],by simp[e4,en],by simp[e6,en],by simp[e8,en],by simp[e9,en],by simp[e36,en],by simp[e37,en],by simp[e38,en],by simp[en],by simp[en],by simp,by simp,by simp[en],by simp[en],?_,by simp⟩
    repeat' first | exact Same.refl | apply Same.next | apply Same.setArr | (refine Same.setBox ?_ (.inr (by simp)))
   ·rintro E2 h2 ⟨en,e1',e4,e6,e8,e9,e36,e37,e38,e13,e14,b13,b14,e15,e16,hs12,hep2⟩
    have mP2:=mP.new hs12
    have bg2:=(hs12.2 (h.ep,64) (by simp;omega) (by simp)).trans bg
    have bd2:=(hs12.2 (h.ep+1,96) (by simp;omega) (by simp)).trans bd
    have hs2:=hs.trans (hs12.mono (by simp))
    cases hbk:T.1[i].back with
    | false=>
      rw[hbk] at hm b13
      simp only[cond_true,cond_false] at hm
      simp[en,e1',e4,e6,e8,e9,e36,e37,e38,e13,e14,e15,e16,b13]
      unfold m_hop at hm
      obtain⟨rn,hn0,hrn,hm⟩:=hm.get
      have hnr:(edge.parent).toNat < (s.reached.map D.bool).length:=by simpa using (List.getElem?_eq_some_iff.1 hrn).1
      obtain⟨lr,capr,br,hcr,hbr,hbrl,hlr,⟨xr,htr,hxr⟩,hsetr⟩:=mP2.at (j:=3) rfl hnr
      simp only[List.getElem?_map,hrn,Option.map_some,Option.some.injEq] at hxr
      obtain rfl:=toD_bool hxr
      have hcr':cr=.mrow lr 0 s.reached.length capr:=by simpa using hcr
      subst hcr'
      have hnr':(edge.parent).toNat < s.reached.length:=by simpa using hnr
      simp[en,e1',e4,e6,e8,e9,e36,e37,e38,e13,e14,e15,e16,b13,hn0,hnr',hbr,htr]
      cases rn with
      | false=>
        simp only[Bool.not_false,cond_true] at hm
        simp[en,e1',e4,e6,e8,e9,e36,e37,e38,e13,e14,e15,e16,b13,hw]
        exact BackF.of s ⟨⟨by simp[en],by simp[e1'],by simp[e4],by simp[e6],by simp[e8],by simp[e9],by simp[e36],by simp[e37],by simp,by simpa using bg2,bd2,mP2,hs2,by omega⟩,hm⟩
      | true=>
        simp only[Bool.not_true,cond_false] at hm
        obtain⟨en_,-,hen,hm⟩:=hm.get
        have hne:(edge.parent).toNat < (s.errs.map fun z=>D.int .i64 z).length:=by simpa using (List.getElem?_eq_some_iff.1 hen).1
        obtain⟨le,cape,be,hce',hbe,hbel,hle,⟨xe,hte,hxe⟩,hsete⟩:=mP2.at (j:=2) rfl hne
        simp only[List.getElem?_map,hen,Option.map_some,Option.some.injEq] at hxe
        obtain rfl:=toD_int hxe
        have hce2:ce=.mrow le 0 s.errs.length cape:=by simpa using hce'
        subst hce2
        have hne':(edge.parent).toNat < s.errs.length:=by simpa using hne
        simp[en,e1',e4,e6,e8,e9,e36,e37,e38,e13,e14,e15,e16,b13,hn0,hne',hbe,hte]
        refine r_cond hm ?_ ?_<;>clear hm<;>intro hc2 hm
        ·simp[en,e1',e4,e6,e8,e9,e36,e37,e38,e13,e14,e15,e16,b13,hw]
         exact BackF.of s ⟨⟨by simp[en],by simp[e1'],by simp[e4],by simp[e6],by simp[e8],by simp[e9],by simp[e36],by simp[e37],by simp,by simpa using bg2,bd2,mP2,hs2,by omega⟩,hm⟩
        ·obtain⟨⟨hf0,hf1,hf2⟩,hm⟩:=hm.chk
         obtain⟨sch,hp0,hsch,hm⟩:=hm.get
         obtain⟨inst,-,hin,hm⟩:=hm.get
         obtain⟨cm,-,hcm,hm⟩:=hm.get
         obtain⟨r2,hr2,hm⟩:=hm.bind
         rw[hbk] at hr2
         have hfr:(T.1[i].edge+1).toNat < s.reached.length:=by omega
         have hfe:(T.1[i].edge+1).toNat < s.errs.length:=by omega
         have hni:(edge.parent).toNat < s.insts.length:=(List.getElem?_eq_some_iff.1 hin).1
         have hnc:T.1[i].edge.toNat < s.comps.length:=(List.getElem?_eq_some_iff.1 hcm).1
         obtain⟨lr',capr',br',hcq,hbr',hbrl',-,-,hsetf⟩:=mP2.at (j:=3) (i:=(T.1[i].edge+1).toNat) rfl (by simpa using hfr)
         simp at hcq
         obtain⟨rfl,rfl⟩:=hcq
         obtain rfl:=Option.some.inj (hbr.symm.trans hbr')
         obtain⟨le',cape',be',hcq,hbe',hbel',-,-,hsetef⟩:=mP2.at (j:=2) (i:=(T.1[i].edge+1).toNat) rfl (by simpa using hfe)
         simp at hcq
         obtain⟨rfl,rfl⟩:=hcq
         obtain rfl:=Option.some.inj (hbe.symm.trans hbe')
         obtain⟨li,capi,bi,hcq,hbi,hbil,hli,⟨xi,hti,hxi⟩,-⟩:=mP2.at (j:=0) (i:=(edge.parent).toNat) rfl (by simpa using hni)
         have hcq':ci=.mrow li 0 s.insts.length capi:=by simpa using hcq
         subst hcq'
         simp only[List.getElem?_map,hin,Option.map_some,Option.some.injEq] at hxi
         obtain⟨lc,capc,bc,hcq,hbc,hbcl,hlc,⟨xc,htc,hxc⟩,hsetc⟩:=mP2.at (j:=1) (i:=T.1[i].edge.toNat) rfl (by simpa using hnc)
         have hcq':cc=.mrow lc 0 s.comps.length capc:=by simpa using hcq
         subst hcq'
         simp only[List.getElem?_map,hcm,Option.map_some,Option.some.injEq] at hxc
         have hlr0:lr.1 < h'.ep:=mP.lt _ (List.mem_cons_of_mem _ (List.mem_cons_of_mem _ (List.mem_cons_of_mem _ (List.mem_cons_self ..)))) lr (by simp[labs])
         have hle0:le.1 < h'.ep:=mP.lt _ (List.mem_cons_of_mem _ (List.mem_cons_of_mem _ (List.mem_cons_self ..))) le (by simp[labs])
         have q1:=ne_new' hlr0
         have q2:=ne_new' hle0
         have hr1:h.ep+1 < lr.1:=hcr2 lr (by simp[labs])
         have he1:h.ep+1 < le.1:=hce le (by simp[labs])
         have q3:((h.ep+1,96)=lr)=False:=eq_false (by rintro rfl;simp at hr1)
         have q4:((h.ep+1,96)=le)=False:=eq_false (by rintro rfl;simp at he1)
         have q5:(li=lr)=False:=eq_false (fun hq=>dis_two mP2.dis (k1:=0) (k2:=3) rfl rfl (by decide) li (by simp[labs]) (by simp[labs,hq]))
         have q6:(lc=lr)=False:=eq_false (fun hq=>dis_two mP2.dis (k1:=1) (k2:=3) rfl rfl (by decide) lc (by simp[labs]) (by simp[labs,hq]))
         have q7:(le=lr)=False:=eq_false (fun hq=>dis_two mP2.dis (k1:=2) (k2:=3) rfl rfl (by decide) le (by simp[labs]) (by simp[labs,hq]))
         have q8:(li=le)=False:=eq_false (fun hq=>dis_two mP2.dis (k1:=0) (k2:=2) rfl rfl (by decide) li (by simp[labs]) (by simp[labs,hq]))
         have q9:(lc=le)=False:=eq_false (fun hq=>dis_two mP2.dis (k1:=1) (k2:=2) rfl rfl (by decide) lc (by simp[labs]) (by simp[labs,hq]))
         have q10:(lc=li)=False:=eq_false (fun hq=>dis_two mP2.dis (k1:=1) (k2:=0) rfl rfl (by decide) lc (by simp[labs]) (by simp[labs,hq]))
         have m3:=hsetf h2 _ (.d (.bool true)) (.bool true) mP2 rfl rfl
         simp[en,e1',e4,e6,e8,e9,e36,e37,e38,e13,e14,e15,e16,b13,b14,hf0,hfr,hbr,hbrl',q1,q2,q3,q4,bd2]
         refine Wait.cut (Plan.then_ [0,1,2,3,4,5,6,7,8,9,10,11,12,13,14,15,16,17,18,19,20,21,22,23,24,25,26] .done) follows (by kernel_rfl) (fun E3 h4=>E3.n=118∧E3.get 1=.one (.d (.sl (schemas.map Sch.enc)))∧E3.get 4=.one (.ptr (h.ep,64) 0)∧E3.get 6=.one (.ptr (h.ep+1,96) 0)∧E3.get 8=.one (.mrow le 0 s.errs.length cape)∧E3.get 9=.one (.mrow lr 0 s.reached.length capr)∧E3.get 36=.one (.d (.sl (T.1.map Hop.enc)))∧E3.get 37=.one (.d (.int .i64 (T.1.length:Int)))∧E3.get 38=.one (.d (.int .i64 (i:Int))) ∧
          E3.get 13=.one (.ptr (h'.ep,208) 0)∧E3.get 16=.one (.d (.int .i64 (T.1[i].edge+1)))∧E3.get 18=.one (.d (.sl (r2.1.map Rel.enc)))∧E3.get 19=.one (.d (.sl (r2.2.1.map (encL Rel.enc))))∧E3.get 20=.one (.d (.int .i64 r2.2.2))∧Same (h2.setBox lr (setCells br (T.1[i].edge+1).toNat [.d (.bool true)])) h4 []) ?_ ?_
         ·simp[Plan.then_,vcPlan,planOps,isCallAt,callKind,en,e1',e4,e6,e8,e9,e36,e37,e38,e13,e14,e15,e16,b13,b14,hp0,hsch,hn0,hni,he0,hnc,hbi,hbc,hti,htc,q1,q2,q3,q4,q5,q6,q7,q8,q9,q10,bd2]
          refine callK_fn (c_script_Forward sch edge.script inst cm r2 hr2) (by simp[toAs,V.toA,(toD_rd hxi).2.2,(toD_rd hxc).2.2]) ?_
          simp[Plan.then_,vcPlan,planOps,isCallAt,callKind,en,e1',e4,e6,e8,e9,e36,e37,e38,e13,e14,e15,e16,b13,b14,hp0,hsch,hn0,hni,he0,hnc,hbi,hbc,hti,htc,q1,q2,q3,q4,q5,q6,q7,q8,q9,q10,bd2]
          try refine⟨fun _ _ x=>x,?_⟩
          refine CutK.of ⟨by simp[en],by simp[e1',en],by simp[e4,en],by simp[e6,en],by simp[e8,en],by simp[e9,en],by simp[e36,en],by simp[e37,en],by simp[e38,en],by simp[e13,en],by simp[e16,e15,en],by simp[en],by simp[en],by simp[en],?_⟩
          repeat' first | exact Same.refl | apply Same.next | apply Same.setArr
         ·rintro E3 h4 ⟨en,e1',e4,e6,e8,e9,e36,e37,e38,e13,e16,e18,e19,e20,hs34⟩
          have m4:=m3.new hs34
          have m5:=hsetef h4 _ (.d (.int .i64 r2.2.2)) (.int .i64 r2.2.2) m4 rfl rfl
          have old:∀ k:Lab,k.1 < h2.ep→k≠lr→h4.box k=h2.box k:=fun k hk hq=>by
           have:=hs34.2 k (by simpa using hk) (by simp)
           rw[this]
           simp[hq]
          have hb4e:=(old le hle (by simpa using q7)).trans hbe
          have hb4i:=(old li hli (by simpa using q5)).trans hbi
          have hb4c:=(old lc hlc (by simpa using q6)).trans hbc
          have b134:=(old (h'.ep,208) (by show h'.ep < h2.ep;omega) (by intro hq;have h9:=hlr0;rw[← hq] at h9;exact absurd h9 (Nat.lt_irrefl _))).trans b13
          have bd4:=(old (h.ep+1,96) (by show h.ep+1 < h2.ep;omega) (fun hq=>by rw[q3] at hq;exact hq)).trans bd2
          have bg4:=(old (h.ep,64) (by show h.ep < h2.ep;omega) (by intro hq;have h9:=hr1;rw[← hq] at h9;have h9:h.ep+1 < h.ep:=h9;omega)).trans bg2
          have hq64:((h.ep,64)=le)=False:=eq_false (by rintro rfl;have h9:h.ep+1 < h.ep:=he1;omega)
          have hep4:=hs34.1
          simp at hep4
          have hs4:Same h (h4.setBox le (setCells be (T.1[i].edge+1).toNat [.d (.int .i64 r2.2.2)])) (labs (.mrow li 0 s.insts.length capi)++labs (.mrow lc 0 s.comps.length capc)):=
           Same.setBox (Same.trans (Same.setBox hs2 (.inr (by omega))) (hs34.mono (by simp))) (.inr (by omega))
          simp[en,e1',e4,e6,e8,e9,e36,e37,e38,e13,e16,e18,e19,e20,hf0,hfe,hb4e,hbel',q2,q4]
          refine r_cond hm ?_ ?_<;>clear hm<;>intro hc3 hm
          ·obtain⟨hfi0,hm⟩:=hm.chk
           have hfi:(T.1[i].edge+1).toNat < s.insts.length:=by omega
           obtain⟨li',capi',bi',hcq,hbi',hbil',-,-,hsetif⟩:=mP2.at (j:=0) (i:=(T.1[i].edge+1).toNat) rfl (by simpa using hfi)
           simp at hcq
           obtain⟨rfl,rfl⟩:=hcq
           obtain rfl:=Option.some.inj (hbi.symm.trans hbi')
           have m6:=hsetif _ _ (.d (encI_ r2.1)) (encI_ r2.1) m5 rfl rfl
           have m7:=hsetc _ _ (.d (encJ_ r2.2.1)) (encJ_ r2.2.1) m6 rfl rfl
           have hli0:li.1 < h.ep:=hci li (by simp[labs])
           have hlc0:lc.1 < h.ep:=hcc lc (by simp[labs])
           have p1:=ne_new' hli0
           have p2:=ne_new' hlc0
           have p3:=ne_new hli0
           have p4:=ne_new hlc0
           have p5:((h'.ep,208)=li)=False:=eq_false (by rintro rfl;simp at hli0;omega)
           have p6:((h'.ep,208)=lc)=False:=eq_false (by rintro rfl;simp at hlc0;omega)
           simp[en,e1',e4,e6,e8,e9,e36,e37,e38,e13,e16,e18,e19,e20,hf0,hfe,hb4e,hbel',q2,q4]
           refine Wait.cut (Plan.then_ [0,1,2,3,5,7,8,9] (.three 4 6 10 (Plan.then_ [] (.two 6 10 (Plan.then_ [10,11,12] .done) (Plan.then_ [6,11,12] .done))) (Plan.then_ [] (.two 4 10 (Plan.then_ [10,11,12] .done) (Plan.then_ [4,11,12] .done))) (Plan.then_ [4,6,11,12] .done))) follows (by kernel_rfl) (fun E4 h5=>E4.n=118∧E4.get 1=.one (.d (.sl (schemas.map Sch.enc)))∧E4.get 4=.one (.ptr (h.ep,64) 0)∧E4.get 6=.one (.ptr (h.ep+1,96) 0)∧E4.get 8=.one (.mrow le 0 s.errs.length cape)∧E4.get 9=.one (.mrow lr 0 s.reached.length capr)∧E4.get 36=.one (.d (.sl (T.1.map Hop.enc)))∧E4.get 37=.one (.d (.int .i64 (T.1.length:Int)))∧E4.get 38=.one (.d (.int .i64 (i:Int))) ∧
            h5=((h4.setBox le (setCells be (T.1[i].edge+1).toNat [.d (.int .i64 r2.2.2)])).setBox li (setCells bi (T.1[i].edge+1).toNat [.d (encI_ r2.1)])).setBox lc (setCells bc T.1[i].edge.toNat [.d (encJ_ r2.2.1)])) ?_ ?_
           ·simp[Plan.then_,vcPlan,planOps,isCallAt,callKind,en,e1',e4,e6,e8,e9,e36,e37,e38,e13,e16,e18,e19,e20,hf0,hfi,he0,hnc,hb4e,hb4i,hb4c,hbil',hbcl,b134,bd4,q2,q4,q5,q6,q7,q8,q9,q10,p1,p2,p3,p4,p5,p6]
            repeat' with_reducible refine And.intro ?_ ?_
            all_goals first
             | (refine CutK.of ⟨by simp[en],by simp[e1',en],by simp[e4,en],by simp[e6,en],by simp[e8,en],by simp[e9,en],by simp[e36,en],by simp[e37,en],by simp[e38,en],rfl⟩)
           ·rintro E4 h5 ⟨en,e1',e4,e6,e8,e9,e36,e37,e38,rfl⟩
            simp[en,e1',e4,e6,e8,e9,e36,e37,e38,hw]
            refine BackF.of _ ⟨⟨by simp[en],by simp[e1'],by simp[e4],by simp[e6],by simp[e8],by simp[e9],by simp[e36],by simp[e37],by simp,?_,?_,?_,?_,?_⟩,hm⟩
            ·simp[p1,p2,hq64]
             simpa using bg4
            ·simp[p1,p2,q4]
             exact bd4
            ·simpa[PSt.rows,List.map_set] using m7
            ·exact (hs4.setBox (.inl (by simp[labs]))).setBox (.inl (by simp[labs]))
            ·simp
             omega
          ·simp[en,e1',e4,e6,e8,e9,e36,e37,e38,e13,e16,e18,e19,e20,hw]
           refine BackF.of _ ⟨⟨by simp[en],by simp[e1'],by simp[e4],by simp[e6],by simp[e8],by simp[e9],by simp[e36],by simp[e37],by simp,?_,?_,?_,hs4,?_⟩,hm⟩
           ·simp[hq64]
            simpa using bg4
           ·simp[q4]
            exact bd4
           ·simpa[PSt.rows,List.map_set] using m5
           ·simp
            omega
    | true=>
      rw[hbk] at hm b13
      simp only[cond_true,cond_false] at hm
      simp[en,e1',e4,e6,e8,e9,e36,e37,e38,e13,e14,e15,e16,b13]
      unfold m_hop at hm
      obtain⟨rn,hn0,hrn,hm⟩:=hm.get
      have hnr:(T.1[i].edge+1).toNat < (s.reached.map D.bool).length:=by simpa using (List.getElem?_eq_some_iff.1 hrn).1
      obtain⟨lr,capr,br,hcr,hbr,hbrl,hlr,⟨xr,htr,hxr⟩,hsetr⟩:=mP2.at (j:=3) rfl hnr
      simp only[List.getElem?_map,hrn,Option.map_some,Option.some.injEq] at hxr
      obtain rfl:=toD_bool hxr
      have hcr':cr=.mrow lr 0 s.reached.length capr:=by simpa using hcr
      subst hcr'
      have hnr':(T.1[i].edge+1).toNat < s.reached.length:=by simpa using hnr
      simp[en,e1',e4,e6,e8,e9,e36,e37,e38,e13,e14,e15,e16,b13,hn0,hnr',hbr,htr]
      cases rn with
      | false=>
        simp only[Bool.not_false,cond_true] at hm
        simp[en,e1',e4,e6,e8,e9,e36,e37,e38,e13,e14,e15,e16,b13,hw]
        exact BackF.of s ⟨⟨by simp[en],by simp[e1'],by simp[e4],by simp[e6],by simp[e8],by simp[e9],by simp[e36],by simp[e37],by simp,by simpa using bg2,bd2,mP2,hs2,by omega⟩,hm⟩
      | true=>
        simp only[Bool.not_true,cond_false] at hm
        obtain⟨en_,-,hen,hm⟩:=hm.get
        have hne:(T.1[i].edge+1).toNat < (s.errs.map fun z=>D.int .i64 z).length:=by simpa using (List.getElem?_eq_some_iff.1 hen).1
        obtain⟨le,cape,be,hce',hbe,hbel,hle,⟨xe,hte,hxe⟩,hsete⟩:=mP2.at (j:=2) rfl hne
        simp only[List.getElem?_map,hen,Option.map_some,Option.some.injEq] at hxe
        obtain rfl:=toD_int hxe
        have hce2:ce=.mrow le 0 s.errs.length cape:=by simpa using hce'
        subst hce2
        have hne':(T.1[i].edge+1).toNat < s.errs.length:=by simpa using hne
        simp[en,e1',e4,e6,e8,e9,e36,e37,e38,e13,e14,e15,e16,b13,hn0,hne',hbe,hte]
        refine r_cond hm ?_ ?_<;>clear hm<;>intro hc2 hm
        ·simp[en,e1',e4,e6,e8,e9,e36,e37,e38,e13,e14,e15,e16,b13,hw]
         exact BackF.of s ⟨⟨by simp[en],by simp[e1'],by simp[e4],by simp[e6],by simp[e8],by simp[e9],by simp[e36],by simp[e37],by simp,by simpa using bg2,bd2,mP2,hs2,by omega⟩,hm⟩
        ·obtain⟨⟨hf0,hf1,hf2⟩,hm⟩:=hm.chk
         obtain⟨sch,hp0,hsch,hm⟩:=hm.get
         obtain⟨inst,-,hin,hm⟩:=hm.get
         obtain⟨cm,-,hcm,hm⟩:=hm.get
         obtain⟨r2,hr2,hm⟩:=hm.bind
         rw[hbk] at hr2
         have hfr:(edge.parent).toNat < s.reached.length:=by omega
         have hfe:(edge.parent).toNat < s.errs.length:=by omega
         have hni:(T.1[i].edge+1).toNat < s.insts.length:=(List.getElem?_eq_some_iff.1 hin).1
         have hnc:T.1[i].edge.toNat < s.comps.length:=(List.getElem?_eq_some_iff.1 hcm).1
         obtain⟨lr',capr',br',hcq,hbr',hbrl',-,-,hsetf⟩:=mP2.at (j:=3) (i:=(edge.parent).toNat) rfl (by simpa using hfr)
         simp at hcq
         obtain⟨rfl,rfl⟩:=hcq
         obtain rfl:=Option.some.inj (hbr.symm.trans hbr')
         obtain⟨le',cape',be',hcq,hbe',hbel',-,-,hsetef⟩:=mP2.at (j:=2) (i:=(edge.parent).toNat) rfl (by simpa using hfe)
         simp at hcq
         obtain⟨rfl,rfl⟩:=hcq
         obtain rfl:=Option.some.inj (hbe.symm.trans hbe')
         obtain⟨li,capi,bi,hcq,hbi,hbil,hli,⟨xi,hti,hxi⟩,-⟩:=mP2.at (j:=0) (i:=(T.1[i].edge+1).toNat) rfl (by simpa using hni)
         have hcq':ci=.mrow li 0 s.insts.length capi:=by simpa using hcq
         subst hcq'
         simp only[List.getElem?_map,hin,Option.map_some,Option.some.injEq] at hxi
         obtain⟨lc,capc,bc,hcq,hbc,hbcl,hlc,⟨xc,htc,hxc⟩,hsetc⟩:=mP2.at (j:=1) (i:=T.1[i].edge.toNat) rfl (by simpa using hnc)
         have hcq':cc=.mrow lc 0 s.comps.length capc:=by simpa using hcq
         subst hcq'
         simp only[List.getElem?_map,hcm,Option.map_some,Option.some.injEq] at hxc
         have hlr0:lr.1 < h'.ep:=mP.lt _ (List.mem_cons_of_mem _ (List.mem_cons_of_mem _ (List.mem_cons_of_mem _ (List.mem_cons_self ..)))) lr (by simp[labs])
         have hle0:le.1 < h'.ep:=mP.lt _ (List.mem_cons_of_mem _ (List.mem_cons_of_mem _ (List.mem_cons_self ..))) le (by simp[labs])
         have q1:=ne_new' hlr0
         have q2:=ne_new' hle0
         have hr1:h.ep+1 < lr.1:=hcr2 lr (by simp[labs])
         have he1:h.ep+1 < le.1:=hce le (by simp[labs])
         have q3:((h.ep+1,96)=lr)=False:=eq_false (by rintro rfl;simp at hr1)
         have q4:((h.ep+1,96)=le)=False:=eq_false (by rintro rfl;simp at he1)
         have q5:(li=lr)=False:=eq_false (fun hq=>dis_two mP2.dis (k1:=0) (k2:=3) rfl rfl (by decide) li (by simp[labs]) (by simp[labs,hq]))
         have q6:(lc=lr)=False:=eq_false (fun hq=>dis_two mP2.dis (k1:=1) (k2:=3) rfl rfl (by decide) lc (by simp[labs]) (by simp[labs,hq]))
         have q7:(le=lr)=False:=eq_false (fun hq=>dis_two mP2.dis (k1:=2) (k2:=3) rfl rfl (by decide) le (by simp[labs]) (by simp[labs,hq]))
         have q8:(li=le)=False:=eq_false (fun hq=>dis_two mP2.dis (k1:=0) (k2:=2) rfl rfl (by decide) li (by simp[labs]) (by simp[labs,hq]))
         have q9:(lc=le)=False:=eq_false (fun hq=>dis_two mP2.dis (k1:=1) (k2:=2) rfl rfl (by decide) lc (by simp[labs]) (by simp[labs,hq]))
         have q10:(lc=li)=False:=eq_false (fun hq=>dis_two mP2.dis (k1:=1) (k2:=0) rfl rfl (by decide) lc (by simp[labs]) (by simp[labs,hq]))
         have m3:=hsetf h2 _ (.d (.bool true)) (.bool true) mP2 rfl rfl
         simp[en,e1',e4,e6,e8,e9,e36,e37,e38,e13,e14,e15,e16,b13,b14,hf0,hfr,hbr,hbrl',q1,q2,q3,q4,bd2]
         refine Wait.cut (Plan.then_ [0,1,2,3,4,5,6,7,8,9,10,11,12,13,14,15,16,17,18,19,20,21,22,23,24,25,26] .done) follows (by kernel_rfl) (fun E3 h4=>E3.n=118∧E3.get 1=.one (.d (.sl (schemas.map Sch.enc)))∧E3.get 4=.one (.ptr (h.ep,64) 0)∧E3.get 6=.one (.ptr (h.ep+1,96) 0)∧E3.get 8=.one (.mrow le 0 s.errs.length cape)∧E3.get 9=.one (.mrow lr 0 s.reached.length capr)∧E3.get 36=.one (.d (.sl (T.1.map Hop.enc)))∧E3.get 37=.one (.d (.int .i64 (T.1.length:Int)))∧E3.get 38=.one (.d (.int .i64 (i:Int))) ∧
          E3.get 13=.one (.ptr (h'.ep,208) 0)∧E3.get 16=.one (.d (.int .i64 (edge.parent)))∧E3.get 18=.one (.d (.sl (r2.1.map Rel.enc)))∧E3.get 19=.one (.d (.sl (r2.2.1.map (encL Rel.enc))))∧E3.get 20=.one (.d (.int .i64 r2.2.2))∧Same (h2.setBox lr (setCells br (edge.parent).toNat [.d (.bool true)])) h4 []) ?_ ?_
         ·simp[Plan.then_,vcPlan,planOps,isCallAt,callKind,en,e1',e4,e6,e8,e9,e36,e37,e38,e13,e14,e15,e16,b13,b14,hp0,hsch,hn0,hni,he0,hnc,hbi,hbc,hti,htc,q1,q2,q3,q4,q5,q6,q7,q8,q9,q10,bd2]
          refine callK_fn (c_script_Backward sch edge.script inst cm r2 hr2) (by simp[toAs,V.toA,(toD_rd hxi).2.2,(toD_rd hxc).2.2]) ?_
          simp[Plan.then_,vcPlan,planOps,isCallAt,callKind,en,e1',e4,e6,e8,e9,e36,e37,e38,e13,e14,e15,e16,b13,b14,hp0,hsch,hn0,hni,he0,hnc,hbi,hbc,hti,htc,q1,q2,q3,q4,q5,q6,q7,q8,q9,q10,bd2]
          try refine⟨fun _ _ x=>x,?_⟩
          refine CutK.of ⟨by simp[en],by simp[e1',en],by simp[e4,en],by simp[e6,en],by simp[e8,en],by simp[e9,en],by simp[e36,en],by simp[e37,en],by simp[e38,en],by simp[e13,en],by simp[e16,e15,en],by simp[en],by simp[en],by simp[en],?_⟩
          repeat' first | exact Same.refl | apply Same.next | apply Same.setArr
         ·rintro E3 h4 ⟨en,e1',e4,e6,e8,e9,e36,e37,e38,e13,e16,e18,e19,e20,hs34⟩
          have m4:=m3.new hs34
          have m5:=hsetef h4 _ (.d (.int .i64 r2.2.2)) (.int .i64 r2.2.2) m4 rfl rfl
          have old:∀ k:Lab,k.1 < h2.ep→k≠lr→h4.box k=h2.box k:=fun k hk hq=>by
           have:=hs34.2 k (by simpa using hk) (by simp)
           rw[this]
           simp[hq]
          have hb4e:=(old le hle (by simpa using q7)).trans hbe
          have hb4i:=(old li hli (by simpa using q5)).trans hbi
          have hb4c:=(old lc hlc (by simpa using q6)).trans hbc
          have b134:=(old (h'.ep,208) (by show h'.ep < h2.ep;omega) (by intro hq;have h9:=hlr0;rw[← hq] at h9;exact absurd h9 (Nat.lt_irrefl _))).trans b13
          have bd4:=(old (h.ep+1,96) (by show h.ep+1 < h2.ep;omega) (fun hq=>by rw[q3] at hq;exact hq)).trans bd2
          have bg4:=(old (h.ep,64) (by show h.ep < h2.ep;omega) (by intro hq;have h9:=hr1;rw[← hq] at h9;have h9:h.ep+1 < h.ep:=h9;omega)).trans bg2
          have hq64:((h.ep,64)=le)=False:=eq_false (by rintro rfl;have h9:h.ep+1 < h.ep:=he1;omega)
          have hep4:=hs34.1
          simp at hep4
          have hs4:Same h (h4.setBox le (setCells be (edge.parent).toNat [.d (.int .i64 r2.2.2)])) (labs (.mrow li 0 s.insts.length capi)++labs (.mrow lc 0 s.comps.length capc)):=
           Same.setBox (Same.trans (Same.setBox hs2 (.inr (by omega))) (hs34.mono (by simp))) (.inr (by omega))
          simp[en,e1',e4,e6,e8,e9,e36,e37,e38,e13,e16,e18,e19,e20,hf0,hfe,hb4e,hbel',q2,q4]
          refine r_cond hm ?_ ?_<;>clear hm<;>intro hc3 hm
          ·obtain⟨hfi0,hm⟩:=hm.chk
           have hfi:(edge.parent).toNat < s.insts.length:=by omega
           obtain⟨li',capi',bi',hcq,hbi',hbil',-,-,hsetif⟩:=mP2.at (j:=0) (i:=(edge.parent).toNat) rfl (by simpa using hfi)
           simp at hcq
           obtain⟨rfl,rfl⟩:=hcq
           obtain rfl:=Option.some.inj (hbi.symm.trans hbi')
           have m6:=hsetif _ _ (.d (encI_ r2.1)) (encI_ r2.1) m5 rfl rfl
           have m7:=hsetc _ _ (.d (encJ_ r2.2.1)) (encJ_ r2.2.1) m6 rfl rfl
           have hli0:li.1 < h.ep:=hci li (by simp[labs])
           have hlc0:lc.1 < h.ep:=hcc lc (by simp[labs])
           have p1:=ne_new' hli0
           have p2:=ne_new' hlc0
           have p3:=ne_new hli0
           have p4:=ne_new hlc0
           have p5:((h'.ep,208)=li)=False:=eq_false (by rintro rfl;simp at hli0;omega)
           have p6:((h'.ep,208)=lc)=False:=eq_false (by rintro rfl;simp at hlc0;omega)
           simp[en,e1',e4,e6,e8,e9,e36,e37,e38,e13,e16,e18,e19,e20,hf0,hfe,hb4e,hbel',q2,q4]
           refine Wait.cut (Plan.then_ [0,1,2,3,5,7,8,9] (.three 4 6 10 (Plan.then_ [] (.two 6 10 (Plan.then_ [10,11,12] .done) (Plan.then_ [6,11,12] .done))) (Plan.then_ [] (.two 4 10 (Plan.then_ [10,11,12] .done) (Plan.then_ [4,11,12] .done))) (Plan.then_ [4,6,11,12] .done))) follows (by kernel_rfl) (fun E4 h5=>E4.n=118∧E4.get 1=.one (.d (.sl (schemas.map Sch.enc)))∧E4.get 4=.one (.ptr (h.ep,64) 0)∧E4.get 6=.one (.ptr (h.ep+1,96) 0)∧E4.get 8=.one (.mrow le 0 s.errs.length cape)∧E4.get 9=.one (.mrow lr 0 s.reached.length capr)∧E4.get 36=.one (.d (.sl (T.1.map Hop.enc)))∧E4.get 37=.one (.d (.int .i64 (T.1.length:Int)))∧E4.get 38=.one (.d (.int .i64 (i:Int))) ∧
            h5=((h4.setBox le (setCells be (edge.parent).toNat [.d (.int .i64 r2.2.2)])).setBox li (setCells bi (edge.parent).toNat [.d (encI_ r2.1)])).setBox lc (setCells bc T.1[i].edge.toNat [.d (encJ_ r2.2.1)])) ?_ ?_
           ·simp[Plan.then_,vcPlan,planOps,isCallAt,callKind,en,e1',e4,e6,e8,e9,e36,e37,e38,e13,e16,e18,e19,e20,hf0,hfi,he0,hnc,hb4e,hb4i,hb4c,hbil',hbcl,b134,bd4,q2,q4,q5,q6,q7,q8,q9,q10,p1,p2,p3,p4,p5,p6]
            repeat' with_reducible refine And.intro ?_ ?_
            all_goals first
             | (refine CutK.of ⟨by simp[en],by simp[e1',en],by simp[e4,en],by simp[e6,en],by simp[e8,en],by simp[e9,en],by simp[e36,en],by simp[e37,en],by simp[e38,en],rfl⟩)
           ·rintro E4 h5 ⟨en,e1',e4,e6,e8,e9,e36,e37,e38,rfl⟩
            simp[en,e1',e4,e6,e8,e9,e36,e37,e38,hw]
            refine BackF.of _ ⟨⟨by simp[en],by simp[e1'],by simp[e4],by simp[e6],by simp[e8],by simp[e9],by simp[e36],by simp[e37],by simp,?_,?_,?_,?_,?_⟩,hm⟩
            ·simp[p1,p2,hq64]
             simpa using bg4
            ·simp[p1,p2,q4]
             exact bd4
            ·simpa[PSt.rows,List.map_set] using m7
            ·exact (hs4.setBox (.inl (by simp[labs]))).setBox (.inl (by simp[labs]))
            ·simp
             omega
          ·simp[en,e1',e4,e6,e8,e9,e36,e37,e38,e13,e16,e18,e19,e20,hw]
           refine BackF.of _ ⟨⟨by simp[en],by simp[e1'],by simp[e4],by simp[e6],by simp[e8],by simp[e9],by simp[e36],by simp[e37],by simp,?_,?_,?_,hs4,?_⟩,hm⟩
           ·simp[hq64]
            simpa using bg4
           ·simp[q4]
            exact bd4
           ·simpa[PSt.rows,List.map_set] using m5
           ·simp
            omega
  ·rintro s e h' ⟨en,e1',e4,e6,e8,e9,e36,e37,e38,bg,bd,mP,hs,hep⟩ hm
   obtain rfl:=r_ret hm
   simp[en,e1',e4,e6,e8,e9,e36,e37,e38,retH,resVs,resV,notTup]
   exact hK ce cr h' mP hs fun k hk=>by have:=hln k hk;omega
end Go.Proofs.YthiojhcimecdgaaGreatDoor
end
section
namespace Go.Proofs.YthiojhcimecdgaaGreatDoor
open Go.Am
set_option maxRecDepth 20000
def m_slices_IndexFunc_Row (s_:List (List GV)) (f:(List GV)→Option Bool):Option Int:=
 (forK (fun (i2:Nat) (x2:List GV) (s2:Unit) next_2=>(bindK (f x2) fun v3=>(bif v3 then (some (i2:Int)) else (next_2 ())))) (fun (s2:Unit)=>(some (-1))) s_ 0 ())
instance i_slices_IndexFunc_Row (s_:List (List GV)) (f:(List GV)→Option Bool) {g:FuncId} {caps:List (List D)} [ConF f Tryz.prog (fun x=>.one (.d (.sl (x.map GV.enc)))) (fun v=>.one (.d (.bool v))) g caps]:Con (m_slices_IndexFunc_Row s_ f) Tryz.prog 142 [.one (.d (.sl (s_.map (encL GV.enc)))),.one (.fn g caps)] (fun r=>.one (.d (.int .i64 r))):=by
 unfold m_slices_IndexFunc_Row
 have l1:LH (σ:=Unit) 8 [0,1,7] []:=.intro
 exact go 19 Tryz.func142 rfl (by kernel_rfl) rfl rfl (by simp)
set_option maxRecDepth 20000
def m_slices_ContainsFunc_Row (s_:List (List GV)) (f:(List GV)→Option Bool):Option Bool:=
 (bindK (m_slices_IndexFunc_Row s_ f) fun v1=>(some (decide (0≤v1))))
instance i_slices_ContainsFunc_Row (s_:List (List GV)) (f:(List GV)→Option Bool) {g:FuncId} {caps:List (List D)} [ConF f Tryz.prog (fun x=>.one (.d (.sl (x.map GV.enc)))) (fun v=>.one (.d (.bool v))) g caps]:Con (m_slices_ContainsFunc_Row s_ f) Tryz.prog 103 [.one (.d (.sl (s_.map (encL GV.enc)))),.one (.fn g caps)] (fun r=>.one (.d (.bool r))):=by
 unfold m_slices_ContainsFunc_Row
 exact go 9 Tryz.func103 rfl (by kernel_rfl) rfl rfl (by simp)
set_option maxRecDepth 20000
def m_instance_References (s_:Sch) (inst:List Rel) (fk:Fk) (row:List GV):Option Bool:=
 (bindK (m_instance_Table s_ inst fk.ref) fun v3=>(forK (fun (i6:Nat) (x6:Int) (s6:(List GV)) next_6=>(bif decide (x6 < 0) then (some true) else (bif decide ((row.length:Int)≤x6) then (some true) else (getK row x6 fun x10=>(bif (x10.kind == 0) then (some true) else (appK2 s6 [x10] fun _=>(next_6 (s6++[x10])))))))) (fun (s6:(List GV))=>(bindK (m_relation_Find v3.1 v3.2 s6) fun v14=>(some v14.2))) fk.cols 0 []))
instance c_instance_References (s_:Sch) (inst:List Rel) (fk:Fk) (row:List GV):Con (m_instance_References s_ inst fk row) Tryz.prog 105 [.agg s_.enc,.one (.d (.sl (inst.map Rel.enc))),.agg fk.enc,.one (.d (.sl (row.map GV.enc)))] (fun r=>.one (.d (.bool r))):=by
 unfold m_instance_References
 have l1:LH (σ:=(List GV)) 27 [3,9,10,25,26] [.g 11 3 (fun s=>s.map GV.enc)]:=.intro
 exact go 63 Tryz.func105 rfl (by kernel_rfl) rfl rfl (by simp)
set_option maxRecDepth 20000
def m_instance_Validate_1 (row:List GV) (k0:Sch) (k1:List Rel) (k2:Fk):Option Bool:=
 (bindK (m_instance_References k0 k1 k2 row) fun v1=>(some !v1))
instance c_instance_Validate_1 (row:List GV) (k0:Sch) (k1:List Rel) (k2:Fk):Con (m_instance_Validate_1 row k0 k1 k2) Tryz.prog 104 [.one (.d (.sl (row.map GV.enc))),.one (.rp [.sl (k0.tables.map Tbl.enc),.sl (k0.fks.map Fk.enc),.sl (k0.cons.map Cons.enc)]),.one (.rp [.sl (k1.map Rel.enc)]),.one (.rp [.str k2.table,.sl (k2.cols.map encI),.str k2.ref])] (fun r=>.one (.d (.bool r))):=by
 unfold m_instance_Validate_1
 exact go 12 Tryz.func104 rfl (by kernel_rfl) rfl rfl (by simp)
instance f_instance_Validate_1 (k0:Sch) (k1:List Rel) (k2:Fk):ConF (fun x=>m_instance_Validate_1 x k0 k1 k2) Tryz.prog (fun x=>.one (.d (.sl (x.map GV.enc)))) (fun r=>.one (.d (.bool r))) 104 [[.sl (k0.tables.map Tbl.enc),.sl (k0.fks.map Fk.enc),.sl (k0.cons.map Cons.enc)],[.sl (k1.map Rel.enc)],[.str k2.table,.sl (k2.cols.map encI),.str k2.ref]]:=⟨fun x=>(c_instance_Validate_1 x k0 k1 k2)⟩
set_option maxRecDepth 20000
def m_instance_Satisfies (c:Cons) (row:List GV):Option Bool:=
 (bif decide (c.left < 0) then (some true) else (bif decide ((row.length:Int)≤c.left) then (some true) else (bif decide ((row.length:Int)≤c.right) then (some true) else (bif decide (0≤c.right) then (getK row c.right fun x9=>(getK row c.left fun x10=>(bindK (m_value_Satisfies x10 c.op x9) fun v11=>(bif v11.1 then (some true) else (some (v11.2 != 0)))))) else (getK row c.left fun x13=>(bindK (m_value_Satisfies x13 c.op c.value) fun v14=>(bif v14.1 then (some true) else (some (v14.2 != 0)))))))))
instance c_instance_Satisfies (c:Cons) (row:List GV):Con (m_instance_Satisfies c row) Tryz.prog 107 [.agg c.enc,.one (.d (.sl (row.map GV.enc)))] (fun r=>.one (.d (.bool r))):=by
 unfold m_instance_Satisfies
 have p1:PH [6] (Plan.then_ [0,1,2,3,4,5,6,7,8,9,10,11,12,13] .done):=.intro
 exact go 52 Tryz.func107 rfl (by kernel_rfl) rfl rfl (by simp)
set_option maxRecDepth 20000
def m_instance_Validate_2 (row:List GV) (k0:Cons):Option Bool:=
 (bindK (m_instance_Satisfies k0 row) fun v1=>(some !v1))
instance c_instance_Validate_2 (row:List GV) (k0:Cons):Con (m_instance_Validate_2 row k0) Tryz.prog 106 [.one (.d (.sl (row.map GV.enc))),.one (.rp [.str k0.table,.int .i64 k0.left,.str k0.op,.int .i64 k0.right,.int .i64 k0.value.kind,.int .i64 k0.value.int,.str k0.value.text])] (fun r=>.one (.d (.bool r))):=by
 unfold m_instance_Validate_2
 exact go 8 Tryz.func106 rfl (by kernel_rfl) rfl rfl (by simp)
instance f_instance_Validate_2 (k0:Cons):ConF (fun x=>m_instance_Validate_2 x k0) Tryz.prog (fun x=>.one (.d (.sl (x.map GV.enc)))) (fun r=>.one (.d (.bool r))) 106 [[.str k0.table,.int .i64 k0.left,.str k0.op,.int .i64 k0.right,.int .i64 k0.value.kind,.int .i64 k0.value.int,.str k0.value.text]]:=⟨fun x=>(c_instance_Validate_2 x k0)⟩
set_option maxRecDepth 20000
def m_instance_Validate (s_:Sch) (inst:List Rel):Option Int:=
 (bindK (m_instance_Conforms s_ inst) fun v3=>(bif (v3 != 0) then (some v3) else (forK (fun (i6:Nat) (x6:Fk) (s6:Unit) next_6=>(bindK (m_instance_Table s_ inst x6.table) fun v8=>(bindK (m_slices_ContainsFunc_Row v8.2 (fun xa_=>m_instance_Validate_1 xa_ s_ inst x6)) fun v10=>(bif v10 then (some 10) else (next_6 ()))))) (fun (s6:Unit)=>(forK (fun (i13:Nat) (x13:Cons) (s13:Unit) next_13=>(bindK (m_instance_Table s_ inst x13.table) fun v15=>(bindK (m_slices_ContainsFunc_Row v15.2 (fun xa_=>m_instance_Validate_2 xa_ x13)) fun v17=>(bif v17 then (some 11) else (next_13 ()))))) (fun (s13:Unit)=>(some 0)) s_.cons 0 ())) s_.fks 0 ())))
instance c_instance_Validate (s_:Sch) (inst:List Rel):Con (m_instance_Validate s_ inst) Tryz.prog 73 [.agg s_.enc,.one (.d (.sl (inst.map Rel.enc)))] (fun r=>.one (.d (.int .i64 r))):=by
 unfold m_instance_Validate
 have l1:LH (σ:=Unit) 23 [2,3,21,22] []:=.intro
 have l2:LH (σ:=Unit) 42 [2,3,40,41] []:=.intro
 exact go 58 Tryz.func73 rfl (by kernel_rfl) rfl rfl (by simp)
set_option maxRecDepth 20000
instance i_script_Forward (s_:Sch) (script:List Stp) (source:List Rel) (comps:List (List Rel)):Con (m_script_Forward s_ script source comps) Tryz.prog 100 [.agg s_.enc,.one (.d (.sl (script.map Stp.enc))),.one (.d (.sl (source.map Rel.enc))),.one (.d (.sl (comps.map (encL Rel.enc))))] (fun r=>.tup [.one (.d (.sl (r.1.map Rel.enc))),.one (.d (.sl (r.2.1.map (encL Rel.enc)))),.one (.d (.int .i64 r.2.2))]):=⟨fun r hm=>c_script_Forward s_ script source comps r hm⟩
set_option maxRecDepth 20000
instance i_script_Backward (s_:Sch) (script:List Stp) (target:List Rel) (comps:List (List Rel)):Con (m_script_Backward s_ script target comps) Tryz.prog 101 [.agg s_.enc,.one (.d (.sl (script.map Stp.enc))),.one (.d (.sl (target.map Rel.enc))),.one (.d (.sl (comps.map (encL Rel.enc))))] (fun r=>.tup [.one (.d (.sl (r.1.map Rel.enc))),.one (.d (.sl (r.2.1.map (encL Rel.enc)))),.one (.d (.int .i64 r.2.2))]):=⟨fun r hm=>c_script_Backward s_ script target comps r hm⟩
set_option maxRecDepth 20000
def m_slices_EqualFunc_Instance (s1:List (List Rel)) (s2:List (List Rel)) (eq:(List Rel)→(List Rel)→Option Bool):Option Bool:=
 (bif ((s1.length:Int) != (s2.length:Int)) then (some false) else (forK (fun (i5:Nat) (x5:List Rel) (s5:Unit) next_5=>(getK s2 (i5:Int) fun x6=>(bindK (eq x5 x6) fun v7=>(bif !v7 then (some false) else (next_5 ()))))) (fun (s5:Unit)=>(some true)) s1 0 ()))
instance i_slices_EqualFunc_Instance (s1:List (List Rel)) (s2:List (List Rel)) (eq:(List Rel)→(List Rel)→Option Bool) {g:FuncId} {caps:List (List D)} [ConG eq Tryz.prog (fun x=>.one (.d (.sl (x.map Rel.enc)))) (fun x=>.one (.d (.sl (x.map Rel.enc)))) (fun v=>.one (.d (.bool v))) g caps]:Con (m_slices_EqualFunc_Instance s1 s2 eq) Tryz.prog 60 [.one (.d (.sl (s1.map (encL Rel.enc)))),.one (.d (.sl (s2.map (encL Rel.enc)))),.one (.fn g caps)] (fun r=>.one (.d (.bool r))):=by
 unfold m_slices_EqualFunc_Instance
 have l1:LH (σ:=Unit) 17 [1,2,15,16] []:=.intro
 exact go 32 Tryz.func60 rfl (by kernel_rfl) rfl rfl (by simp)
set_option maxRecDepth 20000
def m_slices_EqualFunc_Relation (s1:List Rel) (s2:List Rel) (eq:Rel→Rel→Option Bool):Option Bool:=
 (bif ((s1.length:Int) != (s2.length:Int)) then (some false) else (forK (fun (i5:Nat) (x5:Rel) (s5:Unit) next_5=>(getK s2 (i5:Int) fun x7=>(bindK (eq x5 x7) fun v9=>(bif !v9 then (some false) else (next_5 ()))))) (fun (s5:Unit)=>(some true)) s1 0 ()))
instance i_slices_EqualFunc_Relation (s1:List Rel) (s2:List Rel) (eq:Rel→Rel→Option Bool) {g:FuncId} {caps:List (List D)} [ConG eq Tryz.prog (fun x=>.agg x.enc) (fun x=>.agg x.enc) (fun v=>.one (.d (.bool v))) g caps]:Con (m_slices_EqualFunc_Relation s1 s2 eq) Tryz.prog 75 [.one (.d (.sl (s1.map Rel.enc))),.one (.d (.sl (s2.map Rel.enc))),.one (.fn g caps)] (fun r=>.one (.d (.bool r))):=by
 unfold m_slices_EqualFunc_Relation
 have l1:LH (σ:=Unit) 17 [1,2,15,16] []:=.intro
 exact go 32 Tryz.func75 rfl (by kernel_rfl) rfl rfl (by simp)
set_option maxRecDepth 20000
def m_slices_EqualFunc_Row (s1:List (List GV)) (s2:List (List GV)) (eq:(List GV)→(List GV)→Option Bool):Option Bool:=
 (bif ((s1.length:Int) != (s2.length:Int)) then (some false) else (forK (fun (i5:Nat) (x5:List GV) (s5:Unit) next_5=>(getK s2 (i5:Int) fun x6=>(bindK (eq x5 x6) fun v7=>(bif !v7 then (some false) else (next_5 ()))))) (fun (s5:Unit)=>(some true)) s1 0 ()))
instance i_slices_EqualFunc_Row (s1:List (List GV)) (s2:List (List GV)) (eq:(List GV)→(List GV)→Option Bool) {g:FuncId} {caps:List (List D)} [ConG eq Tryz.prog (fun x=>.one (.d (.sl (x.map GV.enc)))) (fun x=>.one (.d (.sl (x.map GV.enc)))) (fun v=>.one (.d (.bool v))) g caps]:Con (m_slices_EqualFunc_Row s1 s2 eq) Tryz.prog 108 [.one (.d (.sl (s1.map (encL GV.enc)))),.one (.d (.sl (s2.map (encL GV.enc)))),.one (.fn g caps)] (fun r=>.one (.d (.bool r))):=by
 unfold m_slices_EqualFunc_Row
 have l1:LH (σ:=Unit) 17 [1,2,15,16] []:=.intro
 exact go 32 Tryz.func108 rfl (by kernel_rfl) rfl rfl (by simp)
set_option maxRecDepth 20000
def m_slices_Equal_Value (s1:List GV) (s2:List GV):Option Bool:=
 (bif ((s1.length:Int) != (s2.length:Int)) then (some false) else (forK (fun (i5:Nat) (x5:GV) (s5:Unit) next_5=>(getK s2 (i5:Int) fun x6=>(bif (!(x5.kind == x6.kind) || (!(x5.int == x6.int) || (!(x5.text == x6.text)))) then (some false) else (next_5 ())))) (fun (s5:Unit)=>(some true)) s1 0 ()))
instance c_slices_Equal_Value (s1:List GV) (s2:List GV):Con (m_slices_Equal_Value s1 s2) Tryz.prog 110 [.one (.d (.sl (s1.map GV.enc))),.one (.d (.sl (s2.map GV.enc)))] (fun r=>.one (.d (.bool r))):=by
 unfold m_slices_Equal_Value
 have l1:LH (σ:=Unit) 13 [0,1,12] []:=.intro
 have p1:PH [6] (Plan.then_ [0,1,2,3,4,5,6,7,8] .done):=.intro
 exact go 26 Tryz.func110 rfl (by kernel_rfl) rfl rfl (by simp)
set_option maxRecDepth 20000
def m_relation_Equal_1 (x:List GV) (y:List GV):Option Bool:=
 (bindK (m_slices_Equal_Value x y) fun v1=>(some v1))
instance c_relation_Equal_1 (x:List GV) (y:List GV):Con (m_relation_Equal_1 x y) Tryz.prog 109 [.one (.d (.sl (x.map GV.enc))),.one (.d (.sl (y.map GV.enc)))] (fun r=>.one (.d (.bool r))):=by
 unfold m_relation_Equal_1
 exact go 8 Tryz.func109 rfl (by kernel_rfl) rfl rfl (by simp)
instance f_relation_Equal_1  : ConG (fun x y=>m_relation_Equal_1 x y) Tryz.prog (fun x=>.one (.d (.sl (x.map GV.enc)))) (fun x=>.one (.d (.sl (x.map GV.enc)))) (fun r=>.one (.d (.bool r))) 109 []:=⟨fun x y=>(c_relation_Equal_1 x y)⟩
set_option maxRecDepth 20000
def m_relation_Equal (a:List (List GV)) (b:List (List GV)):Option Bool:=
 (bindK (m_slices_EqualFunc_Row a b (fun xa_ xb_=>m_relation_Equal_1 xa_ xb_)) fun v1=>(some v1))
instance c_relation_Equal (a:List (List GV)) (b:List (List GV)):Con (m_relation_Equal a b) Tryz.prog 77 [.one (.d (.sl (a.map (encL GV.enc)))),.one (.d (.sl (b.map (encL GV.enc))))] (fun r=>.one (.d (.bool r))):=by
 unfold m_relation_Equal
 exact go 8 Tryz.func77 rfl (by kernel_rfl) rfl rfl (by simp)
set_option maxRecDepth 20000
def m_instance_Equal_1 (x:Rel) (y:Rel):Option Bool:=
 (bif strEq x.table y.table then (bindK (m_relation_Equal x.rows y.rows) fun v4=>(some v4)) else (some false))
instance c_instance_Equal_1 (x:Rel) (y:Rel):Con (m_instance_Equal_1 x y) Tryz.prog 76 [.agg x.enc,.agg y.enc] (fun r=>.one (.d (.bool r))):=by
 unfold m_instance_Equal_1
 exact go 17 Tryz.func76 rfl (by kernel_rfl) rfl rfl (by simp)
instance f_instance_Equal_1  : ConG (fun x y=>m_instance_Equal_1 x y) Tryz.prog (fun x=>.agg x.enc) (fun x=>.agg x.enc) (fun r=>.one (.d (.bool r))) 76 []:=⟨fun x y=>(c_instance_Equal_1 x y)⟩
set_option maxRecDepth 20000
def m_instance_Equal (a:List Rel) (b:List Rel):Option Bool:=
 (bindK (m_slices_EqualFunc_Relation a b (fun xa_ xb_=>m_instance_Equal_1 xa_ xb_)) fun v1=>(some v1))
instance c_instance_Equal (a:List Rel) (b:List Rel):Con (m_instance_Equal a b) Tryz.prog 61 [.one (.d (.sl (a.map Rel.enc))),.one (.d (.sl (b.map Rel.enc)))] (fun r=>.one (.d (.bool r))):=by
 unfold m_instance_Equal
 exact go 8 Tryz.func61 rfl (by kernel_rfl) rfl rfl (by simp)
instance f_instance_Equal  : ConG (fun x y=>m_instance_Equal x y) Tryz.prog (fun x=>.one (.d (.sl (x.map Rel.enc)))) (fun x=>.one (.d (.sl (x.map Rel.enc)))) (fun r=>.one (.d (.bool r))) 61 []:=⟨fun x y=>(c_instance_Equal x y)⟩
set_option maxRecDepth 20000
def m_database_equalAll (a:List (List Rel)) (b:List (List Rel)):Option Bool:=
 (bindK (m_slices_EqualFunc_Instance a b (fun xa_ xb_=>m_instance_Equal xa_ xb_)) fun v1=>(some v1))
instance c_database_equalAll (a:List (List Rel)) (b:List (List Rel)):Con (m_database_equalAll a b) Tryz.prog 40 [.one (.d (.sl (a.map (encL Rel.enc)))),.one (.d (.sl (b.map (encL Rel.enc))))] (fun r=>.one (.d (.bool r))):=by
 unfold m_database_equalAll
 exact go 8 Tryz.func40 rfl (by kernel_rfl) rfl rfl (by simp)
instance f_database_equalAll  : ConG (fun x y=>m_database_equalAll x y) Tryz.prog (fun x=>.one (.d (.sl (x.map (encL Rel.enc))))) (fun x=>.one (.d (.sl (x.map (encL Rel.enc))))) (fun r=>.one (.d (.bool r))) 40 []:=⟨fun x y=>(c_database_equalAll x y)⟩
set_option maxRecDepth 20000
def m_database_consistent (s_:Sch) (sc:List Stp) (parent:List Rel) (child:List Rel) (complements:List (List Rel)):Option Bool:=
 (bindK (m_script_Forward s_ sc parent complements) fun v2=>(bindK (m_script_Backward s_ sc child complements) fun v3=>(bif (v2.2.2 == 0) then (bif (v3.2.2 == 0) then (bindK (m_instance_Equal v2.1 child) fun v6=>(bif v6 then (bindK (m_instance_Equal v3.1 parent) fun v8=>(bif v8 then (bindK (m_database_equalAll v2.2.1 complements) fun v10=>(bif v10 then (bindK (m_database_equalAll v3.2.1 complements) fun v12=>(some v12)) else (some false))) else (some false))) else (some false))) else (some false)) else (some false))))
instance c_database_consistent (s_:Sch) (sc:List Stp) (parent:List Rel) (child:List Rel) (complements:List (List Rel)):Con (m_database_consistent s_ sc parent child complements) Tryz.prog 74 [.agg s_.enc,.one (.d (.sl (sc.map Stp.enc))),.one (.d (.sl (parent.map Rel.enc))),.one (.d (.sl (child.map Rel.enc))),.one (.d (.sl (complements.map (encL Rel.enc))))] (fun r=>.one (.d (.bool r))):=by
 unfold m_database_consistent
 exact go 61 Tryz.func74 rfl (by kernel_rfl) rfl rfl (by simp)
set_option maxRecDepth 20000
def m_database_Validate (g_:Gr) (db:Db):Option Int:=
 (bindK (m_versions_Schemas g_) fun v3=>(bif (v3.2 != 0) then (some v3.2) else (bif ((db.insts.length:Int) != (v3.1.length:Int)) then (some 3) else (bif ((db.comps.length:Int) != (g_.edges.length:Int)) then (some 3) else (forK (fun (i12:Nat) (x12:Sch) (s12:Unit) next_12=>(getK db.insts (i12:Int) fun x14=>(bindK (m_instance_Validate x12 x14) fun v15=>(bif (v15 != 0) then (some v15) else (next_12 ()))))) (fun (s12:Unit)=>(forK (fun (i18:Nat) (x18:Edg) (s18:Unit) next_18=>(getK v3.1 x18.parent fun x20=>(getK db.insts x18.parent fun x21=>(getK db.insts (i18+1:Int) fun x22=>(getK db.comps (i18:Int) fun x23=>(bindK (m_database_consistent x20 x18.script x21 x22 x23) fun v24=>(bif !v24 then (some 13) else (next_18 ())))))))) (fun (s18:Unit)=>(some 0)) g_.edges 0 ())) v3.1 0 ())))))
instance c_database_Validate (g_:Gr) (db:Db):Con (m_database_Validate g_ db) Tryz.prog 57 [.agg g_.enc,.agg db.enc] (fun r=>.one (.d (.int .i64 r))):=by
 unfold m_database_Validate
 have l1:LH (σ:=Unit) 37 [2,3,5,35,36] []:=.intro
 have l2:LH (σ:=Unit) 56 [3,5,54,55] []:=.intro
 have p1:PH [9] (Plan.then_ [0,1,2,3,4,5,6,7] .done):=.intro
 have p2:PH [16] (Plan.then_ [0,1,2,3,4,5,6,7,8,9,10,11,12,13,14,15,16,17,18,19,20,21,22,23,24,25] .done):=.intro
 exact go 88 Tryz.func57 rfl (by kernel_rfl) rfl rfl (by simp)
set_option maxRecDepth 20000
def m_change_validateKey (t:Tbl) (key:List GV):Option Int:=
 (bif ((key.length:Int) != (t.pk.length:Int)) then (some 3) else (forK (fun (i6:Nat) (x6:GV) (s6:Unit) next_6=>(bindK (m_value_Validate x6) fun v8=>(bif (v8 != 0) then (some v8) else (getK t.pk (i6:Int) fun x10=>(getK t.cols x10 fun x11=>(bif (x6.kind != x11.kind) then (some 7) else (next_6 ()))))))) (fun (s6:Unit)=>(some 0)) key 0 ()))
instance c_change_validateKey (t:Tbl) (key:List GV):Con (m_change_validateKey t key) Tryz.prog 123 [.agg t.enc,.one (.d (.sl (key.map GV.enc)))] (fun r=>.one (.d (.int .i64 r))):=by
 unfold m_change_validateKey
 have l1:LH (σ:=Unit) 16 [2,14,15] []:=.intro
 have p1:PH [9] (Plan.then_ [0,1,2,3,4,5,6,7,8,9,10,11,12] .done):=.intro
 exact go 40 Tryz.func123 rfl (by kernel_rfl) rfl rfl (by simp)
set_option maxRecDepth 20000
def m_change_Validate (s_:Sch) (c:Chg):Option Int:=
 (bif (c.kind == 1) then (bif decide (0 < c.key.length) then (some 3) else (bif (c.kind == 2) then (bif decide (0 < c.row.length) then (some 3) else (bif (c.kind != 1) then (bif (c.kind != 2) then (some 3) else (bindK (m_schema_FindTable s_ c.table) fun v11=>(bif !v11.2 then (some 4) else (getK s_.tables v11.1 fun x13=>(bindK (m_instance_ConformsRow x13 c.row) fun v14=>(some v14)))))) else (bindK (m_schema_FindTable s_ c.table) fun v15=>(bif !v15.2 then (some 4) else (getK s_.tables v15.1 fun x17=>(bindK (m_instance_ConformsRow x17 c.row) fun v18=>(some v18))))))) else (bif (c.kind != 1) then (bif (c.kind != 2) then (some 3) else (bindK (m_schema_FindTable s_ c.table) fun v21=>(bif !v21.2 then (some 4) else (getK s_.tables v21.1 fun x23=>(bindK (m_instance_ConformsRow x23 c.row) fun v24=>(some v24)))))) else (bindK (m_schema_FindTable s_ c.table) fun v25=>(bif !v25.2 then (some 4) else (getK s_.tables v25.1 fun x27=>(bindK (m_instance_ConformsRow x27 c.row) fun v28=>(some v28)))))))) else (bif (c.kind == 2) then (bif decide (0 < c.row.length) then (some 3) else (bif (c.kind != 1) then (bif (c.kind != 2) then (some 3) else (bindK (m_schema_FindTable s_ c.table) fun v34=>(bif !v34.2 then (some 4) else (getK s_.tables v34.1 fun x36=>(bindK (m_change_validateKey x36 c.key) fun v37=>(some v37)))))) else (bindK (m_schema_FindTable s_ c.table) fun v38=>(bif !v38.2 then (some 4) else (getK s_.tables v38.1 fun x40=>(bindK (m_change_validateKey x40 c.key) fun v41=>(some v41))))))) else (bif (c.kind != 1) then (bif (c.kind != 2) then (some 3) else (bindK (m_schema_FindTable s_ c.table) fun v44=>(bif !v44.2 then (some 4) else (getK s_.tables v44.1 fun x46=>(bindK (m_change_validateKey x46 c.key) fun v47=>(some v47)))))) else (bindK (m_schema_FindTable s_ c.table) fun v48=>(bif !v48.2 then (some 4) else (getK s_.tables v48.1 fun x50=>(bindK (m_change_validateKey x50 c.key) fun v51=>(some v51))))))))
instance c_change_Validate (s_:Sch) (c:Chg):Con (m_change_Validate s_ c) Tryz.prog 82 [.agg s_.enc,.agg c.enc] (fun r=>.one (.d (.int .i64 r))):=by
 unfold m_change_Validate
 have p1:PH [7,8] (Plan.then_ [0,1,2,3,4,5,6,7,8] .done):=.intro
 exact go 65 Tryz.func82 rfl (by kernel_rfl) rfl rfl (by simp)
end Go.Proofs.YthiojhcimecdgaaGreatDoor
end
section
namespace Go.Proofs.YthiojhcimecdgaaGreatDoor
open Go Go.Am
@[simp] theorem take_map_len {α β:Type} (f:α→β) (xs:List α):List.take xs.length (xs.map f)=xs.map f:=List.take_of_length_le (by simp)
theorem relC_frz {h:HS} {c:C} {out:List Rel} (hm:MR h 2 c (out.map relC)):Frz h c (.sl (out.map Rel.enc)):=
 hm.frz (by simp) (fun t ht=>by obtain⟨y,_,rfl⟩:=List.mem_map.1 ht;rfl) fun i x t hx ht=>by
  rw[List.getElem?_map] at hx ht
  cases hq:out[i]? with
  | none=>rw[hq] at hx;cases hx
  | some q=>
    rw[hq] at hx ht
    cases hx
    cases ht
    exact⟨.data rfl,.data rfl,trivial⟩
def m_chg {ρ:Type} (s:Sch) (x:Chg) (out:List Rel) (next:List Rel→Option ρ) (bad:Int→Option ρ):Option ρ:=
 bindK (m_change_Validate s x) fun e=>bif e != 0 then bad e else bindK (m_schema_FindTable s x.table) fun q=>getK s.tables q.1 fun T=>getK out q.1 fun o=>
  bif x.kind == 1 then bindK (m_relation_Upsert T o.rows x.row) fun rows=>bif decide ((24:Int) < rows.length) then bad 2 else next (out.set q.1.toNat ⟨o.table,rows⟩)
  else bindK (m_relation_Delete T o.rows x.key) fun d=>bif !d.2 then bad 9 else next (out.set q.1.toNat ⟨o.table,d.1⟩)
def m_change_Apply (s:Sch) (inst:List Rel) (cs:List Chg):Option (List Rel × Int):=
 bindK (m_schema_Validate s) fun e=>bif e != 0 then some ([],e) else bindK (m_instance_Conforms s inst) fun e2=>bif e2 != 0 then some ([],e2) else bif decide ((24:Int) < cs.length) then some ([],2) else
 bindK (m_instance_Clone inst) fun out0=>forK (fun (i:Nat) (x:Chg) (out:List Rel) next=>m_chg s x out next fun e=>some ([],e)) (fun out=>some (out,0)) cs 0 out0
theorem c_change_Apply (s:Sch) (inst:List Rel) (cs:List Chg) (r:List Rel × Int) (hm:Is (m_change_Apply s inst cs) r) :
  PSpec Tryz.prog 65 [.agg s.enc,.one (.d (.sl (inst.map Rel.enc))),.one (.d (.sl (cs.map Chg.enc)))] (.tup [.one (.d (.sl (r.1.map Rel.enc))),.one (.d (.int .i64 r.2))]):=by
 unfold m_change_Apply at hm
 refine PSpec.of_heap ?_
 show HSpec _ _ [.agg (s.enc.map C.d),.one (.d (.sl (inst.map Rel.enc))),.one (.d (.sl (cs.map Chg.enc)))] HS.init _
 refine HSpec.of_vc Tryz.func65 rfl (by kernel_rfl) (n:=101) rfl rfl (by simp) ?_
 obtain⟨ev,hev,hm⟩:=hm.bind
 simp
 refine callK_fn (c_schema_Validate s ev hev) (by simp) ?_
 simp
 refine r_cond hm ?_ ?_<;>clear hm<;>intro hc1 hm
 ·obtain rfl:=r_ret hm
  simp[hc1,retH,resVs,resV,notTup]
  exact⟨Frz.data rfl,Frz.data rfl,trivial⟩
 obtain⟨ev2,hev2,hm⟩:=hm.bind
 simp[hc1]
 refine callK_fn (c_instance_Conforms s inst ev2 hev2) (by simp) ?_
 simp
 refine r_cond hm ?_ ?_<;>clear hm<;>intro hc2 hm
 ·obtain rfl:=r_ret hm
  simp[hc2,retH,resVs,resV,notTup]
  exact⟨Frz.data rfl,Frz.data rfl,trivial⟩
 simp[hc2]
 intro hcl
 refine r_cond hm ?_ ?_<;>clear hm<;>intro hc3 hm
 ·obtain rfl:=r_ret hm
  simp at hc3
  simp[hc3,retH,resVs,resV,notTup]
  exact⟨Frz.data rfl,Frz.data rfl,trivial⟩
 simp at hc3
 obtain⟨out0,hout0,hm⟩:=hm.bind
 have hc3':¬ (24 < cs.length):=by omega
 simp[hc3']
 refine callK_heap (h_instance_CloneR _ inst out0 hout0 _ (fun c h1 hr hs hl=>?_))
 have b0:=hs.2 (0,48) (by simp) (by simp)
 have hep:=hs.1
 simp at b0 hep
 have hl2:∀ k ∈ labs c,1≤k.1∧k.1 < h1.ep:=fun k hk=>by have:=hl k hk;simp at this;omega
 simp
 intro _
 refine Wait.for (xs:=cs) (s0:=out0) (fun i out e h=>∃ c,MR h 2 c (out.map relC)∧(∀ k ∈ labs c,1≤k.1∧k.1 < h.ep)∧1≤h.ep∧h.box (0,48)=some (s.enc.map C.d)∧e.n=101 ∧
  e.get 3=.one (.ptr (0,48) 0)∧e.get 10=.one c∧e.get 34=.one (.d (.sl (cs.map Chg.enc)))∧e.get 35=.one (.d (.int .i64 (cs.length:Int)))∧e.get 36=.one (.d (.int .i64 (i:Int)))) hm ?_ ?_ ?_
 ·exact⟨c,hr,hl2,by omega,by simpa[Sch.enc] using b0,by simp,by simp,by simp,by simp,by simp,by simp⟩
 ·clear hm hc1 hc2 hr hl2 hl hs b0 hep hout0 c h1 hev hev2 hc3
  rintro i out e h ⟨c,hr,hl,hep,b0,hn,h3,h10,h34,h35,h36⟩ hlt hm
  have hw:IntKind.i64.wrap ((i:Int)+1)=(i:Int)+1:=IntWalk.i64_in _ (by omega)
  generalize hNx:(fun s'=>forK (fun (i:Nat) (x:Chg) (out:List Rel) next=>m_chg s x out next fun e=>some ([],e)) (fun out=>some (out,0)) (List.drop (i+1) cs) (i+1) s')=nextN at hm
  have hback:∀ o',Is (nextN o') r→Is (forK (fun (i:Nat) (x:Chg) (out:List Rel) next=>m_chg s x out next fun e=>some ([],e)) (fun out=>some (out,0)) (List.drop (i+1) cs) (i+1) o') r:=fun o' h'=>by rw[← hNx] at h';exact h'
  clear hNx
  generalize hx:cs[i]=x at hm
  have hxi:cs[i]?=some x:=by rw[← hx];exact List.getElem?_eq_getElem hlt
  unfold m_chg at hm
  obtain⟨ev3,hev3,hm⟩:=hm.bind
  simp only[Sch.enc,List.map_cons,List.map_nil] at b0
  simp[hn,h3,h10,h34,h35,h36,b0,hlt,hx]
  refine callK_fn (c_change_Validate s x ev3 hev3) (by simp) ?_
  simp[hn,h3,h10,h34,h35,h36,b0]
  refine r_cond hm ?_ ?_<;>clear hm<;>intro hc4 hm
  ·obtain rfl:=r_ret hm
   simp[hn,h3,h10,h34,h35,h36,b0,hc4,retH,resVs,resV,notTup]
   exact⟨Frz.data rfl,Frz.data rfl,trivial⟩
  obtain⟨q,hqv,hm⟩:=hm.bind
  obtain⟨qi,qb⟩:=q
  obtain⟨T,hq0,hT,hm⟩:=hm.get
  obtain⟨o,_,ho,hm⟩:=hm.get
  simp only at hq0 hT ho hm
  obtain⟨qn,rfl⟩:∃ n:Nat,qi=n:=⟨qi.toNat,by omega⟩
  simp only[Int.toNat_natCast] at hT ho hm
  simp[hn,h3,h10,h34,h35,h36,b0,hc4]
  refine callK_fn (c_schema_FindTable s x.table _ hqv) (by simp) ?_
  simp[hn,h3,h10,h34,h35,h36,b0,hT]
  have hiq:qn < out.length:=(List.getElem?_eq_some_iff.1 ho).1
  have hx2:(out.map relC)[qn]?=some (relC o):=by rw[List.getElem?_map,ho];rfl
  obtain⟨l,cap,sp,rfl,hb,hcap⟩:=hr.block (by simp<;>omega)
  rw[List.length_map] at hl hr h10
  have hrl:=row_len (sp:=sp) hr.1 (k:=qn) (by simp<;>omega)
  have hset:∀ rows:List (List GV),setCells (rowBox (out.map relC) sp) (qn * 2+1) [.d (.sl (rows.map (encL GV.enc)))]=rowBox ((out.set qn ⟨o.table,rows⟩).map relC) sp:=fun rows=>by
   rw[row_set hr.1 hx2 (by simp[relC]),List.map_set]
   simp[setCells,relC]
  have htk:takeN 1 ((rowBox (out.map relC) sp).drop (qn * 2+1))=some [.d (.sl (o.rows.map (encL GV.enc)))]:=by
   have h9:=row_take (sp:=sp) (f:=1) (m:=1) hr.1 hx2 (by simp[relC])
   simpa[takeN,relC] using h9
  have hll:=(hl l (by simp[labs])).2
  have hl2:=(hl l (by simp[labs])).1
  have hne3:((0,48):Lab)≠l:=by rintro rfl;simp at hl2
  have hall:∀ out:List Rel,AllC 2 (out.map relC):=fun out y hy=>by
   obtain⟨z,_,rfl⟩:=List.mem_map.1 hy
   rfl
  have put:∀ (H:HS) (rows:List (List GV)),MR (H.setBox l (rowBox ((out.set qn ⟨o.table,rows⟩).map relC) sp)) 2 (.mrow l 0 out.length cap) ((out.set qn ⟨o.table,rows⟩).map relC):=fun H rows=>
   ⟨hall _,by simpa using hr.2.1,.inr ⟨l,cap,sp,by simp,by simp,by rw[rowBox_length (hall _),← hcap,rowBox_length (hall _)];simp⟩⟩
  have hne1:l≠(h.ep,192):=by rintro rfl;simp at hll
  have hne2:l≠(h.ep+1+1+1,256):=by rintro rfl;simp at hll;omega
  have hsH:Same h ((((h.setBox (h.ep,192) [.d (.int .i64 0),.d (.str ByteArray.empty),.nil,.nil]).next.setBox (h.ep,192) [.d (.int .i64 x.kind),.d (.str x.table),.d (.sl (x.key.map GV.enc)),.d (.sl (x.row.map GV.enc))]).next.next.setBox (h.ep+1+1+1,256) [.d (.str ByteArray.empty),.nil,.nil]).next.setBox (h.ep+1+1+1,256) [.d (.str T.name),.d (.sl (T.cols.map Col.enc)),.d (.sl (T.pk.map encI))]) []:=
   ((((Same.refl.setBox (.inr (by simp))).next.setBox (.inr (by simp))).next.next).setBox (.inr (by simp<;>omega))).next.setBox (.inr (by simp<;>omega))
  refine r_cond hm ?_ ?_<;>clear hm<;>intro hc5 hm
  ·obtain⟨rows,hrows,hm⟩:=hm.bind
   simp[hn,h3,h10,h34,h35,h36,b0,hc5]
   refine Wait.cut (Plan.then_ [0,1,2,3,4,5,6,7,8,9,10,11,12,13] .done) follows (by kernel_rfl) (fun e1 h1=>∃ H,Same h H []∧h1=H.setBox l (rowBox ((out.set qn ⟨o.table,rows⟩).map relC) sp)∧1≤h1.ep∧e1.n=101∧e1.get 3=.one (.ptr (0,48) 0)∧e1.get 10=.one (.mrow l 0 out.length cap)∧e1.get 14=.one (.d (.int .i64 (qn:Int)))∧e1.get 34=.one (.d (.sl (cs.map Chg.enc)))∧e1.get 35=.one (.d (.int .i64 (cs.length:Int)))∧e1.get 36=.one (.d (.int .i64 (i:Int)))) ?_ ?_
   ·simp[hn,h3,h10,h34,h35,h36,b0,hc5,hiq,hb,hne1,hne2,htk,Plan.then_,vcPlan,planOps,isCallAt,callKind]
    refine callK_fn (c_relation_Upsert T o.rows x.row rows hrows) (by simp) ?_
    simp[hn,h3,h10,h34,h35,h36,b0,hc5,hiq,hb,hne1,hne2,htk,Plan.then_,vcPlan,planOps,isCallAt,callKind]
    refine⟨fun _ _ x=>x,by omega,CutK.of ?_⟩
    rw[hset]
    exact⟨_,hsH.next,rfl,by simp<;>omega,by simp[hn],by simp[h3],by simp[h10],by simp[hn],by simp[h34],by simp[h35],by simp[h36]⟩
   ·have hmm:=h10
    clear hn h3 h10 h34 h35 h36
    rintro e1 h1 ⟨H,hsx,rfl,hep1,hn,h3,h10,h14,h34,h35,h36⟩
    have htk2:takeN 1 ((rowBox ((out.set qn ⟨o.table,rows⟩).map relC) sp).drop (qn * 2+1))=some [.d (.sl (rows.map (encL GV.enc)))]:=by
     have h9:=row_take (sp:=sp) (f:=1) (m:=1) (hall (out.set qn ⟨o.table,rows⟩)) (k:=qn) (x:=relC ⟨o.table,rows⟩) (by rw[List.getElem?_map,List.getElem?_set_self hiq];rfl) (by simp[relC])
     simpa[takeN,relC] using h9
    simp only[List.map_set] at htk2
    simp[hn,h3,h10,h14,h34,h35,h36,hiq,htk2]
    intro hrl2
    refine r_cond hm ?_ ?_<;>clear hm<;>intro hc6 hm
    ·obtain rfl:=r_ret hm
     simp at hc6
     simp[hn,h10,hc6,retH,resVs,resV,notTup]
     exact⟨Frz.data rfl,Frz.data rfl,trivial⟩
    ·simp at hc6
     have hc7:¬ (24 < rows.length):=by omega
     simp[hn,h10,hc7,h36,hw]
     have hb3:h.box (0,48)=some (s.enc.map C.d):=b0
     have hput:=put H rows
     exact BackF.of (out.set qn ⟨o.table,rows⟩) ⟨⟨.mrow l 0 out.length cap,by simpa only[List.map_set] using hput,fun k hk=>⟨(hl k hk).1,by have:=(hl k hk).2;have:=hsx.1;simp<;>omega⟩,hep1,by simp[hne3];rw[hsx.2 _ (by simp<;>omega) (by simp)];exact hb3,by simp[hn],by simp[h3],by simp[h10],by simp[h34],by simp[h35],by simp[hw]⟩,hback _ hm⟩
  ·obtain⟨d,hd,hm⟩:=hm.bind
   simp[hn,h3,h10,h34,h35,h36,b0,hc5]
   refine Wait.cut (Plan.then_ [0,1,2,3,4,5,6,7,8,9,10,11,12,14,15,13,16,17] .done) follows (by kernel_rfl) (fun e1 h1=>∃ H,Same h H []∧h1=H.setBox l (rowBox ((out.set qn ⟨o.table,d.1⟩).map relC) sp)∧1≤h1.ep∧e1.n=101∧e1.get 3=.one (.ptr (0,48) 0)∧e1.get 10=.one (.mrow l 0 out.length cap)∧e1.get 17=.one (.d (.bool d.2))∧e1.get 34=.one (.d (.sl (cs.map Chg.enc)))∧e1.get 35=.one (.d (.int .i64 (cs.length:Int)))∧e1.get 36=.one (.d (.int .i64 (i:Int)))) ?_ ?_
   ·simp[hn,h3,h10,h34,h35,h36,b0,hc5,hiq,hb,hne1,hne2,htk,Plan.then_,vcPlan,planOps,isCallAt,callKind]
    refine callK_fn (c_relation_Delete T o.rows x.key d hd) (by simp) ?_
    simp[hn,h3,h10,h34,h35,h36,b0,hc5,hiq,hb,hne1,hne2,htk,Plan.then_,vcPlan,planOps,isCallAt,callKind]
    refine⟨fun _ _ x=>x,by omega,CutK.of ?_⟩
    rw[hset]
    exact⟨_,hsH.next,rfl,by simp<;>omega,by simp[hn],by simp[h3],by simp[h10],by simp[hn],by simp[h34],by simp[h35],by simp[h36]⟩
   ·clear hn h3 h10 h34 h35 h36
    rintro e1 h1 ⟨H,hsx,rfl,hep1,hn,h3,h10,h17,h34,h35,h36⟩
    simp[hn,h17]
    refine r_cond hm ?_ ?_<;>clear hm<;>intro hc6 hm
    ·obtain rfl:=r_ret hm
     simp[hn,hc6,retH,resVs,resV,notTup]
     exact⟨Frz.data rfl,Frz.data rfl,trivial⟩
    ·simp[hn,h36,hw,hc6]
     have hb3:h.box (0,48)=some (s.enc.map C.d):=b0
     have hput:=put H d.1
     exact BackF.of (out.set qn ⟨o.table,d.1⟩) ⟨⟨.mrow l 0 out.length cap,by simpa only[List.map_set] using hput,fun k hk=>⟨(hl k hk).1,by have:=(hl k hk).2;have:=hsx.1;simp<;>omega⟩,hep1,by simp[hne3];rw[hsx.2 _ (by simp<;>omega) (by simp)];exact hb3,by simp[hn],by simp[h3],by simp[h10],by simp[h34],by simp[h35],by simp[hw]⟩,hback _ hm⟩
 ·rintro out e h ⟨c,hr,hl,hep,b0,hn,h3,h10,h34,h35,h36⟩ hm
  obtain rfl:=r_ret hm
  simp[hn,h10,h35,h36,retH,resVs,resV,notTup]
  refine⟨?_,Frz.data rfl,trivial⟩
  show Frz _ _ _
  exact relC_frz hr
end Go.Proofs.YthiojhcimecdgaaGreatDoor
end
section
namespace Go.Proofs.YthiojhcimecdgaaGreatDoor
open Go.Am
set_option maxRecDepth 20000
instance i_change_Apply (s_:Sch) (inst:List Rel) (changes:List Chg):Con (m_change_Apply s_ inst changes) Tryz.prog 65 [.agg s_.enc,.one (.d (.sl (inst.map Rel.enc))),.one (.d (.sl (changes.map Chg.enc)))] (fun r=>.tup [.one (.d (.sl (r.1.map Rel.enc))),.one (.d (.int .i64 r.2))]):=⟨fun r hm=>c_change_Apply s_ inst changes r hm⟩
end Go.Proofs.YthiojhcimecdgaaGreatDoor
end
