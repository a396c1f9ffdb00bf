/- joined by a program out of 53 texts -/
import Derived.Test.YthgepknlibmjcaaGreatM5
import Derived.Lib.Overlaps
set_option linter.unusedVariables false
set_option linter.unusedSimpArgs false
set_option maxRecDepth 20000
section
namespace Go.Proofs.YthgepknlibmjcaaGreat
open Go.Am
def Z2t (schemas:List Sch) (r_:Rule):Option Int:=
 (bindK (Z3u r_.user) fun v2=>(bif !v2 then (some 23) else (bif decide (r_.version < 0) then (some 1) else (bif decide ((schemas.length:Int)≤r_.version) then (some 1) else (getK schemas r_.version fun x7=>(bindK (Z05 x7 r_.table) fun v8=>(bif !v8.2 then (some 4) else (getK x7.tables v8.1 fun x10=>(forK (fun (i13:Nat) (x13:Int) (s13:Unit) next_13=>(bif decide (x13 < 0) then (some 3) else (bif decide ((x10.cols.length:Int)≤x13) then (some 3) else (bif decide (0 < i13) then (chkK (okI ((i13:Int) - 1)) (getK r_.cols ((i13:Int) - 1) fun x19=>(bif decide (x13≤x19) then (some 3) else (next_13 ())))) else (next_13 ()))))) (fun (s13:Unit)=>(bif r_.write then (bindK (Z28 x10 r_) fun v23=>(bif decide (v23.length < x10.cols.length) then (some 17) else (bif decide (8 < (r_.preds.length:Int)) then (some 2) else (forK (fun (i29:Nat) (x29:Cons) (s29:Unit) next_29=>(bindK (Z0r x10 x29) fun v31=>(bif (v31 != 0) then (some v31) else (next_29 ())))) (fun (s29:Unit)=>(some 0)) r_.preds 0 ())))) else (bif decide (8 < (r_.preds.length:Int)) then (some 2) else (forK (fun (i36:Nat) (x36:Cons) (s36:Unit) next_36=>(bindK (Z0r x10 x36) fun v38=>(bif (v38 != 0) then (some v38) else (next_36 ())))) (fun (s36:Unit)=>(some 0)) r_.preds 0 ())))) r_.cols 0 ())))))))))
theorem Zav (schemas:List Sch) (r_:Rule) (r:Int) (hm:Is (Z2t schemas r_) r):PSpec Tryz.prog 55 [.one (.d (.sl (schemas.map Sch.enc))),.agg r_.enc] (.one (.d (.int .i64 r))):=by
 unfold Z2t at hm
 refine PSpec.of_vc Tryz.func55 rfl (by kernel_rfl) (n:=111) rfl rfl (by simp) ?_
 try simp[*]
 refine r_call (av:=[.one (.d (.str r_.user))]) hm (fun v hv=>Z6j _ v hv) (by simp[*]) ?_
 clear hm;intro v2 hvv2 hm
 try simp[*]
 refine r_cond hm ?_ ?_<;>clear hm<;>intro hc3 hm
 ·try simp[*]
  obtain rfl:=r_ret hm
  exact ret0 (vs:=[_]) (by simp[*];try exact rfl) (by simp[*])
 ·try simp[*]
  refine Z0b hm ?_ ?_<;>clear hm<;>intro hc4 hm
  ·try simp[*]
   obtain rfl:=r_ret hm
   exact ret0 (vs:=[_]) (by simp[*];try exact rfl) (by simp[*])
  ·try simp[*]
   intro hl5
   replace hl5:schemas.length≤2097152:=by simpa using hl5
   refine r_cond hm ?_ ?_<;>clear hm<;>intro hc6 hm
   ·try simp[*]
    obtain rfl:=r_ret hm
    exact ret0 (vs:=[_]) (by simp[*];try exact rfl) (by simp[*])
   ·try simp[*]
    refine Wait.of (SWP.draw (Plan.then_ [0,1,2,3,4,5,6,7,8,9,10,11,12] .done) follows (by kernel_rfl) ?_)
    try simp[*,Plan.then_,vcPlan,Z01,Z00,callKind]
    replace hm:=hm.get
    obtain⟨x7,h0x7,hxx7,hm⟩:=hm
    try simp[*,Plan.then_,vcPlan,Z01,Z00,callKind]
    refine r_call (av:=[.agg x7.enc,.one (.d (.str r_.table))]) hm (fun v hv=>Z06 _ _ v hv) (by simp[*]) ?_
    clear hm;intro v8 hvv8 hm
    try simp[*,Plan.then_,vcPlan,Z01,Z00,callKind]
    try refine⟨fun (_:Lab) (_:List C) hl=>hl,?_⟩
    refine r_cond hm ?_ ?_<;>clear hm<;>intro hc9 hm
    ·try simp[*]
     obtain rfl:=r_ret hm
     exact ret0 (vs:=[_]) (by simp[*];try exact rfl) (by simp[*])
    ·try simp[*]
     replace hm:=hm.get
     obtain⟨x10,h0x10,hxx10,hm⟩:=hm
     try simp[*]
     intro hl12
     replace hl12:r_.cols.length≤2097152:=by simpa using hl12
     refine Wait.for (xs:=r_.cols) (s0:=()) (fun i13 s13 e13 h13=>e13.n=111∧e13.get 3=.one (.ptr (0,48) 0)∧e13.get 7=.one (.ptr (3,112) 0)∧e13.get 50=.one (.d (.sl (r_.cols.map encI)))∧e13.get 51=.one (.d (.int .i64 (r_.cols.length:Int)))∧e13.get 52=.one (.d (.int .i64 (i13:Int)))∧h13.box (0,48)=some [.d (.str r_.user),.d (.int .i64 r_.version),.d (.str r_.table),.d (.sl (r_.cols.map encI)),.d (.sl (r_.preds.map Cons.enc)),.d (.bool r_.write)]∧h13.box (3,112)=some [.d (.str x10.name),.d (.sl (x10.cols.map Col.enc)),.d (.sl (x10.pk.map encI))]) hm (by simp[*]) ?_ ?_
     ·rintro i13 s13 e13 h13 ⟨hn13,h13_3,h13_7,h13_50,h13_51,h13_52,hb13_b1,hb13_b11⟩ hlt13 hm
      have hw13:IntKind.i64.wrap ((i13:Int)+1)=(i13:Int)+1:=IntWalk.i64_in _ (by omega)
      try simp[*]
      refine Z0b hm ?_ ?_<;>clear hm<;>intro hc14 hm
      ·try simp[*]
       obtain rfl:=r_ret hm
       exact ret0 (vs:=[_]) (by simp[*];try exact rfl) (by simp[*])
      ·try simp[*]
       intro hl15
       replace hl15:x10.cols.length≤2097152:=by simpa using hl15
       refine Z0b hm ?_ ?_<;>clear hm<;>intro hc16 hm
       ·try simp[*]
        obtain rfl:=r_ret hm
        exact ret0 (vs:=[_]) (by simp[*];try exact rfl) (by simp[*])
       ·try simp[*]
        refine Z08 hm ?_ ?_<;>clear hm<;>intro hc17 hm
        ·try simp[*]
         replace hm:=hm.chk
         obtain⟨hw18,hm⟩:=hm
         replace hw18:=Z6o hw18
         try simp[*]
         replace hm:=hm.get
         obtain⟨x19,h0x19,hxx19,hm⟩:=hm
         try simp at h0x19
         try simp at hxx19
         try simp[*]
         refine r_cond hm ?_ ?_<;>clear hm<;>intro hc20 hm
         ·try simp[*]
          obtain rfl:=r_ret hm
          exact ret0 (vs:=[_]) (by simp[*];try exact rfl) (by simp[*])
         ·try simp[*]
          exact BackF.of () ⟨(by simp[*]),hm⟩
        ·try simp[*]
         exact BackF.of () ⟨(by simp[*]),hm⟩
     ·rintro s13 e13 h13 ⟨hn13,h13_3,h13_7,h13_50,h13_51,h13_52,hb13_b1,hb13_b11⟩ hm
      try simp[*]
      refine Wait.of (SWP.draw (Plan.then_ [0,1,2,3,4,7,8,9,5,6,10,11] .done) follows (by kernel_rfl) ?_)
      try simp[*,Plan.then_,vcPlan,Z01,Z00,callKind]
      refine Z08 hm ?_ ?_<;>clear hm<;>intro hc21 hm
      ·try simp[*,Plan.then_,vcPlan,Z01,Z00,callKind]
       intro hl22
       replace hl22:x10.cols.length≤2097152:=by simpa using hl22
       refine r_call (av:=[.agg x10.enc,.agg r_.enc]) hm (fun v hv=>Z6l _ _ v hv) (by simp[*]) ?_
       clear hm;intro v23 hvv23 hm
       try simp[*,Plan.then_,vcPlan,Z01,Z00,callKind]
       try refine⟨fun (_:Lab) (_:List C) hl=>hl,?_⟩
       intro hl24
       replace hl24:v23.length≤2097152:=by simpa using hl24
       refine r_cond hm ?_ ?_<;>clear hm<;>intro hc25 hm
       ·try simp[*]
        obtain rfl:=r_ret hm
        exact ret0 (vs:=[_]) (by simp[*];try exact rfl) (by simp[*])
       ·try simp[*]
        intro hl26
        replace hl26:r_.preds.length≤2097152:=by simpa using hl26
        refine r_cond hm ?_ ?_<;>clear hm<;>intro hc27 hm
        ·try simp[*]
         obtain rfl:=r_ret hm
         exact ret0 (vs:=[_]) (by simp[*];try exact rfl) (by simp[*])
        ·try simp[*]
         refine Wait.for (xs:=r_.preds) (s0:=()) (fun i29 s29 e29 h29=>e29.n=111∧e29.get 7=.one (.ptr (3,112) 0)∧e29.get 98=.one (.d (.sl (r_.preds.map Cons.enc)))∧e29.get 99=.one (.d (.int .i64 (r_.preds.length:Int)))∧e29.get 100=.one (.d (.int .i64 (i29:Int)))∧h29.box (3,112)=some [.d (.str x10.name),.d (.sl (x10.cols.map Col.enc)),.d (.sl (x10.pk.map encI))]) hm (by simp[*]) ?_ ?_
         ·rintro i29 s29 e29 h29 ⟨hn29,h29_7,h29_98,h29_99,h29_100,hb29_b11⟩ hlt29 hm
          have hw29:IntKind.i64.wrap ((i29:Int)+1)=(i29:Int)+1:=IntWalk.i64_in _ (by omega)
          try simp[*]
          refine r_call (av:=[.agg x10.enc,.agg (r_.preds[i29]).enc]) hm (fun v hv=>Z5i _ _ v hv) (by simp[*]) ?_
          clear hm;intro v31 hvv31 hm
          try simp[*]
          refine r_cond hm ?_ ?_<;>clear hm<;>intro hc32 hm
          ·try simp[*]
           obtain rfl:=r_ret hm
           exact ret0 (vs:=[_]) (by simp[*];try exact rfl) (by simp[*])
          ·try simp[*]
           exact BackF.of () ⟨(by simp[*]),hm⟩
         ·rintro s29 e29 h29 ⟨hn29,h29_7,h29_98,h29_99,h29_100,hb29_b11⟩ hm
          try simp[*]
          obtain rfl:=r_ret hm
          exact ret0 (vs:=[_]) (by simp[*];try exact rfl) (by simp[*])
      ·try simp[*,Plan.then_,vcPlan,Z01,Z00,callKind]
       try refine⟨fun (_:Lab) (_:List C) hl=>hl,?_⟩
       try simp[*,Plan.then_,vcPlan,Z01,Z00,callKind]
       intro hl33
       replace hl33:r_.preds.length≤2097152:=by simpa using hl33
       refine r_cond hm ?_ ?_<;>clear hm<;>intro hc34 hm
       ·try simp[*]
        obtain rfl:=r_ret hm
        exact ret0 (vs:=[_]) (by simp[*];try exact rfl) (by simp[*])
       ·try simp[*]
        refine Wait.for (xs:=r_.preds) (s0:=()) (fun i36 s36 e36 h36=>e36.n=111∧e36.get 7=.one (.ptr (3,112) 0)∧e36.get 98=.one (.d (.sl (r_.preds.map Cons.enc)))∧e36.get 99=.one (.d (.int .i64 (r_.preds.length:Int)))∧e36.get 100=.one (.d (.int .i64 (i36:Int)))∧h36.box (3,112)=some [.d (.str x10.name),.d (.sl (x10.cols.map Col.enc)),.d (.sl (x10.pk.map encI))]) hm (by simp[*]) ?_ ?_
        ·rintro i36 s36 e36 h36 ⟨hn36,h36_7,h36_98,h36_99,h36_100,hb36_b11⟩ hlt36 hm
         have hw36:IntKind.i64.wrap ((i36:Int)+1)=(i36:Int)+1:=IntWalk.i64_in _ (by omega)
         try simp[*]
         refine r_call (av:=[.agg x10.enc,.agg (r_.preds[i36]).enc]) hm (fun v hv=>Z5i _ _ v hv) (by simp[*]) ?_
         clear hm;intro v38 hvv38 hm
         try simp[*]
         refine r_cond hm ?_ ?_<;>clear hm<;>intro hc39 hm
         ·try simp[*]
          obtain rfl:=r_ret hm
          exact ret0 (vs:=[_]) (by simp[*];try exact rfl) (by simp[*])
         ·try simp[*]
          exact BackF.of () ⟨(by simp[*]),hm⟩
        ·rintro s36 e36 h36 ⟨hn36,h36_7,h36_98,h36_99,h36_100,hb36_b11⟩ hm
         try simp[*]
         obtain rfl:=r_ret hm
         exact ret0 (vs:=[_]) (by simp[*];try exact rfl) (by simp[*])
def Z0n (g_:Gr) (rules:List Rule):Option Int:=
 (bindK (Z1p g_) fun v2=>(bif (v2.2 != 0) then (some v2.2) else (bif decide (40 < (rules.length:Int)) then (some 2) else (forK (fun (i7:Nat) (x7:Rule) (s7:Unit) next_7=>(bindK (Z2t v2.1 x7) fun v9=>(bif (v9 != 0) then (some v9) else (chkK (0≤0∧0≤(i7:Int)∧(i7:Int)≤(rules.length:Int)) (bindK (Z3k ((rules.take i7).drop 0) x7.user x7.version x7.table) fun v12=>(bif v12.2 then (some 5) else (next_7 ()))))))) (fun (s7:Unit)=>(some 0)) rules 0 ()))))
theorem Z9d (g_:Gr) (rules:List Rule) (r:Int) (hm:Is (Z0n g_ rules) r):PSpec Tryz.prog 18 [.agg g_.enc,.one (.d (.sl (rules.map Rule.enc)))] (.one (.d (.int .i64 r))):=by
 unfold Z0n at hm
 refine PSpec.of_vc Tryz.func18 rfl (by kernel_rfl) (n:=51) rfl rfl (by simp) ?_
 try simp[*]
 refine r_call (av:=[.agg g_.enc]) hm (fun v hv=>Z8f _ v hv) (by simp[*]) ?_
 clear hm;intro v2 hvv2 hm
 try simp[*]
 refine r_cond hm ?_ ?_<;>clear hm<;>intro hc3 hm
 ·try simp[*]
  obtain rfl:=r_ret hm
  exact ret0 (vs:=[_]) (by simp[*];try exact rfl) (by simp[*])
 ·try simp[*]
  intro hl4
  replace hl4:rules.length≤2097152:=by simpa using hl4
  refine r_cond hm ?_ ?_<;>clear hm<;>intro hc5 hm
  ·try simp[*]
   obtain rfl:=r_ret hm
   exact ret0 (vs:=[_]) (by simp[*];try exact rfl) (by simp[*])
  ·try simp[*]
   refine Wait.for (xs:=rules) (s0:=()) (fun i7 s7 e7 h7=>e7.n=51∧e7.get 1=.one (.d (.sl (rules.map Rule.enc)))∧e7.get 5=.one (.d (.sl (v2.1.map Sch.enc)))∧e7.get 23=.one (.d (.sl (rules.map Rule.enc)))∧e7.get 24=.one (.d (.int .i64 (rules.length:Int)))∧e7.get 25=.one (.d (.int .i64 (i7:Int)))) hm (by simp[*]) ?_ ?_
   ·rintro i7 s7 e7 h7 ⟨hn7,h7_1,h7_5,h7_23,h7_24,h7_25⟩ hlt7 hm
    have hw7:IntKind.i64.wrap ((i7:Int)+1)=(i7:Int)+1:=IntWalk.i64_in _ (by omega)
    try simp[*]
    refine r_call (av:=[.one (.d (.sl (v2.1.map Sch.enc))),.agg (rules[i7]).enc]) hm (fun v hv=>Zav _ _ v hv) (by simp[*]) ?_
    clear hm;intro v9 hvv9 hm
    try simp[*]
    refine r_cond hm ?_ ?_<;>clear hm<;>intro hc10 hm
    ·try simp[*]
     obtain rfl:=r_ret hm
     exact ret0 (vs:=[_]) (by simp[*];try exact rfl) (by simp[*])
    ·try simp[*]
     refine Wait.of (SWP.draw (Plan.then_ [0,1,2,3,4,5,6,7,8] (.two 9 13 (Plan.then_ [10,11,12,13,14,15] .done) (Plan.then_ [9,10,11,12,14,15] .done))) follows (by kernel_rfl) ?_)
     try simp[*,Plan.then_,vcPlan,Z01,Z00,callKind]
     replace hm:=hm.chk
     obtain⟨⟨hax11,hbx11,hdx11⟩,hm⟩:=hm
     have hex11:=hbx11;try simp at hex11
     have hfx11:=hdx11;try simp at hfx11
     try simp[*,Plan.then_,vcPlan,Z01,Z00,callKind]
     refine⟨?_,?_⟩
     ·try simp[*,Plan.then_,vcPlan,Z01,Z00,callKind]
      refine r_call (av:=[.one (.d (.sl (((rules.take i7).drop 0).map Rule.enc))),.one (.d (.str (rules[i7].user))),.one (.d (.int .i64 (rules[i7].version))),.one (.d (.str (rules[i7].table)))]) hm (fun v hv=>Z6m _ _ _ _ v hv) (by simp[*]) ?_
      clear hm;intro v12 hvv12 hm
      try simp[*,Plan.then_,vcPlan,Z01,Z00,callKind]
      try refine⟨fun (_:Lab) (_:List C) hl=>hl,?_⟩
      refine r_cond hm ?_ ?_<;>clear hm<;>intro hc14 hm
      ·try simp[*]
       obtain rfl:=r_ret hm
       exact ret0 (vs:=[_]) (by simp[*];try exact rfl) (by simp[*])
      ·try simp[*]
       exact BackF.of () ⟨(by simp[*]),hm⟩
     ·try simp[*,Plan.then_,vcPlan,Z01,Z00,callKind]
      refine r_call (av:=[.one (.d (.sl (((rules.take i7).drop 0).map Rule.enc))),.one (.d (.str (rules[i7].user))),.one (.d (.int .i64 (rules[i7].version))),.one (.d (.str (rules[i7].table)))]) hm (fun v hv=>Z6m _ _ _ _ v hv) (by simp[*]) ?_
      clear hm;intro v1013 hvv1013 hm
      try simp[*,Plan.then_,vcPlan,Z01,Z00,callKind]
      try refine⟨fun (_:Lab) (_:List C) hl=>hl,?_⟩
      refine r_cond hm ?_ ?_<;>clear hm<;>intro hc1014 hm
      ·try simp[*]
       obtain rfl:=r_ret hm
       exact ret0 (vs:=[_]) (by simp[*];try exact rfl) (by simp[*])
      ·try simp[*]
       exact BackF.of () ⟨(by simp[*]),hm⟩
   ·rintro s7 e7 h7 ⟨hn7,h7_1,h7_5,h7_23,h7_24,h7_25⟩ hm
    try simp[*]
    obtain rfl:=r_ret hm
    exact ret0 (vs:=[_]) (by simp[*];try exact rfl) (by simp[*])
def Z0f (t:Tbl) (row:List GV):Option Int:=
 (bif ((row.length:Int) != (t.cols.length:Int)) then (some 3) else (forK (fun (i6:Nat) (x6:GV) (s6:Unit) next_6=>(bindK (Z0d x6) fun v8=>(bif (v8 != 0) then (some v8) else (bif (x6.kind == 0) then (getK t.cols (i6:Int) fun x11=>(bif !x11.nullable then (some 8) else (bif (x6.kind != 0) then (bif (x6.kind != x11.kind) then (some 7) else (next_6 ())) else (next_6 ())))) else (bif (x6.kind != 0) then (getK t.cols (i6:Int) fun x16=>(bif (x6.kind != x16.kind) then (some 7) else (next_6 ()))) else (next_6 ())))))) (fun (s6:Unit)=>(some 0)) row 0 ()))
theorem Z2f (t:Tbl) (row:List GV) (r:Int) (hm:Is (Z0f t row) r):PSpec Tryz.prog 61 [.agg t.enc,.one (.d (.sl (row.map GV.enc)))] (.one (.d (.int .i64 r))):=by
 unfold Z0f at hm
 refine PSpec.of_vc Tryz.func61 rfl (by kernel_rfl) (n:=53) rfl rfl (by simp) ?_
 try simp[*]
 intro hl2
 replace hl2:row.length≤2097152:=by simpa using hl2
 intro hl3
 replace hl3:t.cols.length≤2097152:=by simpa using hl3
 refine r_cond hm ?_ ?_<;>clear hm<;>intro hc4 hm
 ·try simp[*]
  obtain rfl:=r_ret hm
  exact ret0 (vs:=[_]) (by simp[*];try exact rfl) (by simp[*])
 ·try simp[*]
  refine Wait.for (xs:=row) (s0:=()) (fun i6 s6 e6 h6=>e6.n=53∧e6.get 2=.one (.ptr (0,32) 0)∧e6.get 14=.one (.d (.sl (row.map GV.enc)))∧e6.get 15=.one (.d (.int .i64 (row.length:Int)))∧e6.get 16=.one (.d (.int .i64 (i6:Int)))∧h6.box (0,32)=some [.d (.str t.name),.d (.sl (t.cols.map Col.enc)),.d (.sl (t.pk.map encI))]) hm (by simp[*]) ?_ ?_
  ·rintro i6 s6 e6 h6 ⟨hn6,h6_2,h6_14,h6_15,h6_16,hb6_b1⟩ hlt6 hm
   have hw6:IntKind.i64.wrap ((i6:Int)+1)=(i6:Int)+1:=IntWalk.i64_in _ (by omega)
   try simp[*]
   refine r_call (av:=[.agg (row[i6]).enc]) hm (fun v hv=>Z1a _ v hv) (by simp[*]) ?_
   clear hm;intro v8 hvv8 hm
   try simp[*]
   refine r_cond hm ?_ ?_<;>clear hm<;>intro hc9 hm
   ·try simp[*]
    obtain rfl:=r_ret hm
    exact ret0 (vs:=[_]) (by simp[*];try exact rfl) (by simp[*])
   ·try simp[*]
    refine Z08 hm ?_ ?_<;>clear hm<;>intro hc10 hm
    ·try simp[*]
     replace hm:=hm.getN
     obtain⟨x11,hxx11,hm⟩:=hm
     try simp[*]
     refine r_cond hm ?_ ?_<;>clear hm<;>intro hc12 hm
     ·try simp[*]
      obtain rfl:=r_ret hm
      exact ret0 (vs:=[_]) (by simp[*];try exact rfl) (by simp[*])
     ·try simp[*]
      refine Wait.of (SWP.draw (Plan.then_ [0,1,2,3,4,5,6,7,8,9,10,11,12,13] .done) follows (by kernel_rfl) ?_)
      try simp[*,Plan.then_,vcPlan,Z01,Z00,callKind]
      refine Z08 hm ?_ ?_<;>clear hm<;>intro hc13 hm
      ·try simp[*,Plan.then_,vcPlan,Z01,Z00,callKind]
       refine r_cond hm ?_ ?_<;>clear hm<;>intro hc14 hm
       ·try simp[*]
        obtain rfl:=r_ret hm
        exact ret0 (vs:=[_]) (by simp[*];try exact rfl) (by simp[*])
       ·try simp[*]
        exact BackF.of () ⟨(by simp[*]),hm⟩
      ·try simp[*,Plan.then_,vcPlan,Z01,Z00,callKind]
       exact BackF.of () ⟨(by simp[*]),hm⟩
    ·try simp[*]
     refine Wait.of (SWP.draw (Plan.then_ [0,1,2,3,4,5,6,7,8,9,10,11,12,13] .done) follows (by kernel_rfl) ?_)
     try simp[*,Plan.then_,vcPlan,Z01,Z00,callKind]
     refine Z08 hm ?_ ?_<;>clear hm<;>intro hc15 hm
     ·try simp[*,Plan.then_,vcPlan,Z01,Z00,callKind]
      replace hm:=hm.getN
      obtain⟨x16,hxx16,hm⟩:=hm
      try simp[*,Plan.then_,vcPlan,Z01,Z00,callKind]
      refine r_cond hm ?_ ?_<;>clear hm<;>intro hc17 hm
      ·try simp[*]
       obtain rfl:=r_ret hm
       exact ret0 (vs:=[_]) (by simp[*];try exact rfl) (by simp[*])
      ·try simp[*]
       exact BackF.of () ⟨(by simp[*]),hm⟩
     ·try simp[*,Plan.then_,vcPlan,Z01,Z00,callKind]
      exact BackF.of () ⟨(by simp[*]),hm⟩
  ·rintro s6 e6 h6 ⟨hn6,h6_2,h6_14,h6_15,h6_16,hb6_b1⟩ hm
   try simp[*]
   obtain rfl:=r_ret hm
   exact ret0 (vs:=[_]) (by simp[*];try exact rfl) (by simp[*])
def Z2h (a:List GV) (b:List GV):Option Int:=
 (countK (fun (i3:Nat) (s3:Unit) next_3=>(getK a (i3:Int) fun x4=>(getK b (i3:Int) fun x5=>(bindK (Z1s x4 x5) fun v6=>(bif (v6 != 0) then (some v6) else (chkK (okI ((i3:Int)+1)) (next_3 ()))))))) (fun (s3:Unit)=>(bindK (Z1h (a.length:Int) (b.length:Int)) fun v11=>(some v11))) (Int.toNat (if (b.length:Int) < (a.length:Int) then (b.length:Int) else (a.length:Int))) 0 ())
theorem Z7z (a:List GV) (b:List GV) (r:Int) (hm:Is (Z2h a b) r):PSpec Tryz.prog 62 [.one (.d (.sl (a.map GV.enc))),.one (.d (.sl (b.map GV.enc)))] (.one (.d (.int .i64 r))):=by
 unfold Z2h at hm
 refine PSpec.of_vc Tryz.func62 rfl (by kernel_rfl) (n:=33) rfl rfl (by simp) ?_
 try simp[*]
 intro hl1
 replace hl1:a.length≤2097152:=by simpa using hl1
 intro hl2
 replace hl2:b.length≤2097152:=by simpa using hl2
 refine Wait.count (N:=(if (b.length:Int) < (a.length:Int) then (b.length:Int) else (a.length:Int))) (s0:=()) (fun i3 s3 e3 h3=>e3.n=33∧e3.get 0=.one (.d (.sl (a.map GV.enc)))∧e3.get 1=.one (.d (.sl (b.map GV.enc)))∧e3.get 11=.one (.d (.int .i64 (if (b.length:Int) < (a.length:Int) then (b.length:Int) else (a.length:Int))))∧e3.get 12=.one (.d (.int .i64 (i3:Int)))) hm (by simp[*]) ?_ ?_
 ·rintro i3 s3 e3 h3 ⟨hn3,h3_0,h3_1,h3_11,h3_12⟩ hlt3 hm
  try simp[*]
  try (refine Z15 (fun _=>?_) (fun hn=>(hn (by first | omega | (simp at hlt3 ⊢;omega) | (simp at hlt3 ⊢;split at hlt3<;>split<;>omega))).elim);simp[*])
  refine Wait.of (SWP.draw (Plan.then_ [0,1,2,3,4,5,6,7,8,9] .done) follows (by kernel_rfl) ?_)
  try simp[*,Plan.then_,vcPlan,Z01,Z00,callKind]
  replace hm:=hm.getN
  obtain⟨x4,hxx4,hm⟩:=hm
  try simp[*,Plan.then_,vcPlan,Z01,Z00,callKind]
  replace hm:=hm.getN
  obtain⟨x5,hxx5,hm⟩:=hm
  try simp[*,Plan.then_,vcPlan,Z01,Z00,callKind]
  refine r_call (av:=[.agg x4.enc,.agg x5.enc]) hm (fun v hv=>Z6i _ _ v hv) (by simp[*]) ?_
  clear hm;intro v6 hvv6 hm
  try simp[*,Plan.then_,vcPlan,Z01,Z00,callKind]
  try refine⟨fun (_:Lab) (_:List C) hl=>hl,?_⟩
  refine r_cond hm ?_ ?_<;>clear hm<;>intro hc7 hm
  ·try simp[*]
   obtain rfl:=r_ret hm
   exact ret0 (vs:=[_]) (by simp[*];try exact rfl) (by simp[*])
  ·try simp[*]
   replace hm:=hm.chk
   obtain⟨hw8,hm⟩:=hm
   replace hw8:=Z6o hw8
   try simp[*]
   exact BackF.of () ⟨(by simp[*]),hm⟩
 ·rintro i3 s3 e3 h3 ⟨hn3,h3_0,h3_1,h3_11,h3_12⟩ hge3 hm
  try simp[*]
  try (refine Z15 (fun hn=>((by first | omega | (simp at hge3 hn;omega) | (simp at hge3 hn;split at hge3<;>split at hn<;>omega)):False).elim) (fun _=>?_);simp[*])
  refine r_call (av:=[.one (.d (.int .i64 (a.length:Int))),.one (.d (.int .i64 (b.length:Int)))]) hm (fun v hv=>Z62 _ _ v hv) (by simp[*]) ?_
  clear hm;intro v11 hvv11 hm
  try simp[*]
  obtain rfl:=r_ret hm
  exact ret0 (vs:=[_]) (by simp[*];try exact rfl) (by simp[*])
def Z2k (t:Tbl) (row:List GV):Option ((List GV)):=
 (forK (fun (i3:Nat) (x3:Int) (s3:(List GV)) next_3=>(bif decide (0≤x3) then (bif decide (x3 < (row.length:Int)) then (getK row x3 fun x8=>(appK2 s3 [x8] fun _=>(next_3 (s3++[x8])))) else (appK2 s3 [(GV.mk 0 0 ByteArray.empty)] fun _=>(next_3 (s3++[(GV.mk 0 0 ByteArray.empty)])))) else (appK2 s3 [(GV.mk 0 0 ByteArray.empty)] fun _=>(next_3 (s3++[(GV.mk 0 0 ByteArray.empty)]))))) (fun (s3:(List GV))=>(some s3)) t.pk 0 [])
theorem Z5s (t:Tbl) (row:List GV) (r:(List GV)) (hm:Is (Z2k t row) r):PSpec Tryz.prog 63 [.agg t.enc,.one (.d (.sl (row.map GV.enc)))] (.one (.fresh 0 3 (r.map GV.enc))):=by
 unfold Z2k at hm
 refine PSpec.of_vc Tryz.func63 rfl (by kernel_rfl) (n:=35) rfl rfl (by simp) ?_
 try simp[*]
 intro hl2
 replace hl2:t.pk.length≤2097152:=by simpa using hl2
 refine Wait.for (xs:=t.pk) (s0:=[]) (fun i3 s3 e3 h3=>∃ c3_0:C,e3.n=35∧e3.get 1=.one (.d (.sl (row.map GV.enc)))∧e3.get 5=.one c3_0∧e3.get 10=.one (.d (.sl (t.pk.map encI)))∧e3.get 11=.one (.d (.int .i64 (t.pk.length:Int)))∧e3.get 12=.one (.d (.int .i64 (i3:Int)))∧Grows h3 3 c3_0 (s3.map GV.enc)) hm ⟨.nil,by simp (maxDischargeDepth:=20) [*]⟩ ?_ ?_
 ·rintro i3 s3 e3 h3 ⟨c3_0,hn3,h3_1,h3_5,h3_10,h3_11,h3_12,gc3_0⟩ hlt3 hm
  have hlc3_0:=gc3_0.list
  have hdc3_0:=gc3_0.toD
  have hac3_0:=gc3_0.toA
  have huc3_0:=gc3_0.useUp_arr
  have hw3:IntKind.i64.wrap ((i3:Int)+1)=(i3:Int)+1:=IntWalk.i64_in _ (by omega)
  try simp[*]
  refine Z08 hm ?_ ?_<;>clear hm<;>intro hc5 hm
  ·try simp[*]
   intro hl6
   replace hl6:row.length≤2097152:=by simpa using hl6
   refine r_cond hm ?_ ?_<;>clear hm<;>intro hc7 hm
   ·try simp[*]
    replace hm:=hm.get
    obtain⟨x8,h0x8,hxx8,hm⟩:=hm
    try simp[*]
    refine r_app (xs:=s3) (ys:=[x8]) (enc:=GV.enc) hm Za9 (by first | exact Grows.nil | (simp (maxDischargeDepth:=20) [*];done) | (simp (maxDischargeDepth:=20) [*];refine⟨?_,by omega⟩;intro hq;subst hq;simp at hz2<;>omega)) (by simp[*]) (by decide) (by decide) (fun _=>rfl) ?_
    clear hm;intro hl10 hm g9
    try simp[*]
    exact BackF.of (s3++[x8]) ⟨⟨.own (h3.ep+2,512) ((s3++[x8]).map GV.enc),by simp (maxDischargeDepth:=20) [*]⟩,hm⟩
   ·try simp[*]
    refine r_app (xs:=s3) (ys:=[(GV.mk 0 0 ByteArray.empty)]) (enc:=GV.enc) hm Za9 (by first | exact Grows.nil | (simp (maxDischargeDepth:=20) [*];done) | (simp (maxDischargeDepth:=20) [*];refine⟨?_,by omega⟩;intro hq;subst hq;simp at hz2<;>omega)) (by simp[*]) (by decide) (by decide) (fun _=>rfl) ?_
    clear hm;intro hl12 hm g11
    try simp[*]
    exact BackF.of (s3++[(GV.mk 0 0 ByteArray.empty)]) ⟨⟨.own (h3.ep+2,512) ((s3++[(GV.mk 0 0 ByteArray.empty)]).map GV.enc),by simp (maxDischargeDepth:=20) [*]⟩,hm⟩
  ·try simp[*]
   refine r_app (xs:=s3) (ys:=[(GV.mk 0 0 ByteArray.empty)]) (enc:=GV.enc) hm Za9 (by first | exact Grows.nil | (simp (maxDischargeDepth:=20) [*];done) | (simp (maxDischargeDepth:=20) [*];refine⟨?_,by omega⟩;intro hq;subst hq;simp at hz2<;>omega)) (by simp[*]) (by decide) (by decide) (fun _=>rfl) ?_
   clear hm;intro hl14 hm g13
   try simp[*]
   exact BackF.of (s3++[(GV.mk 0 0 ByteArray.empty)]) ⟨⟨.own (h3.ep+2,512) ((s3++[(GV.mk 0 0 ByteArray.empty)]).map GV.enc),by simp (maxDischargeDepth:=20) [*]⟩,hm⟩
 ·rintro s3 e3 h3 ⟨c3_0,hn3,h3_1,h3_5,h3_10,h3_11,h3_12,gc3_0⟩ hm
  have hlc3_0:=gc3_0.list
  have hdc3_0:=gc3_0.toD
  have hac3_0:=gc3_0.toA
  have huc3_0:=gc3_0.useUp_arr
  try simp[*]
  obtain rfl:=r_ret hm
  exact Z54 (by first | (simp (maxDischargeDepth:=20) [*,GrowsV];done) | exact⟨_,by simp[*];rfl,(by first | exact Grows.nil | (simp (maxDischargeDepth:=20) [*];done) | (simp (maxDischargeDepth:=20) [*];refine⟨?_,by omega⟩;intro hq;subst hq;simp at hz2<;>omega))⟩)
def Z0c (s_:Sch) (inst:List Rel):Option Int:=
 (bif ((inst.length:Int) != (s_.tables.length:Int)) then (some 3) else (forK (fun (i6:Nat) (x6:Rel) (s6:Unit) next_6=>(getK s_.tables (i6:Int) fun x8=>(bif !(strEq x6.table x8.name) then (some 3) else (bif decide (24 < (x6.rows.length:Int)) then (some 2) else (forK (fun (i14:Nat) (x14:List GV) (s14:Unit) next_14=>(bindK (Z0f x8 x14) fun v15=>(bif (v15 != 0) then (some v15) else (bif ((i14:Int) == 0) then (next_14 ()) else (chkK (okI ((i14:Int) - 1)) (getK x6.rows ((i14:Int) - 1) fun x19=>(bindK (Z2k x8 x19) fun v20=>(bindK (Z2k x8 x14) fun v21=>(bindK (Z2h v20 v21) fun v22=>(bif (v22 == 0) then (some 9) else (bif decide (0 < v22) then (some 6) else (next_14 ())))))))))))) (fun (s14:Unit)=>(next_6 ())) x6.rows 0 ()))))) (fun (s6:Unit)=>(some 0)) inst 0 ()))
theorem Z85 (s_:Sch) (inst:List Rel) (r:Int) (hm:Is (Z0c s_ inst) r):PSpec Tryz.prog 23 [.agg s_.enc,.one (.d (.sl (inst.map Rel.enc)))] (.one (.d (.int .i64 r))):=by
 unfold Z0c at hm
 refine PSpec.of_vc Tryz.func23 rfl (by kernel_rfl) (n:=75) rfl rfl (by simp) ?_
 try simp[*]
 intro hl2
 replace hl2:inst.length≤2097152:=by simpa using hl2
 intro hl3
 replace hl3:s_.tables.length≤2097152:=by simpa using hl3
 refine r_cond hm ?_ ?_<;>clear hm<;>intro hc4 hm
 ·try simp[*]
  obtain rfl:=r_ret hm
  exact ret0 (vs:=[_]) (by simp[*];try exact rfl) (by simp[*])
 ·try simp[*]
  refine Wait.for (xs:=inst) (s0:=()) (fun i6 s6 e6 h6=>e6.n=75∧e6.get 2=.one (.ptr (0,32) 0)∧e6.get 18=.one (.d (.sl (inst.map Rel.enc)))∧e6.get 19=.one (.d (.int .i64 (inst.length:Int)))∧e6.get 20=.one (.d (.int .i64 (i6:Int)))∧h6.box (0,32)=some [.d (.sl (s_.tables.map Tbl.enc)),.d (.sl (s_.fks.map Fk.enc)),.d (.sl (s_.cons.map Cons.enc))]) hm (by simp[*]) ?_ ?_
  ·rintro i6 s6 e6 h6 ⟨hn6,h6_2,h6_18,h6_19,h6_20,hb6_b1⟩ hlt6 hm
   have hw6:IntKind.i64.wrap ((i6:Int)+1)=(i6:Int)+1:=IntWalk.i64_in _ (by omega)
   try simp[*]
   replace hm:=hm.getN
   obtain⟨x8,hxx8,hm⟩:=hm
   try simp[*]
   refine r_cond hm ?_ ?_<;>clear hm<;>intro hc10 hm
   ·try simp[*]
    obtain rfl:=r_ret hm
    exact ret0 (vs:=[_]) (by simp[*];try exact rfl) (by simp[*])
   ·try simp[*]
    intro hl11
    replace hl11:inst[i6].rows.length≤2097152:=by simpa using hl11
    refine r_cond hm ?_ ?_<;>clear hm<;>intro hc12 hm
    ·try simp[*]
     obtain rfl:=r_ret hm
     exact ret0 (vs:=[_]) (by simp[*];try exact rfl) (by simp[*])
    ·try simp[*]
     refine Wait.for (xs:=inst[i6].rows) (s0:=()) (fun i14 s14 e14 h14=>e14.n=75∧e14.get 2=.one (.ptr (0,32) 0)∧e14.get 6=.one (.ptr (h6.ep,96) 0)∧e14.get 7=.one (.ptr (h6.ep+1,112) 0)∧e14.get 18=.one (.d (.sl (inst.map Rel.enc)))∧e14.get 19=.one (.d (.int .i64 (inst.length:Int)))∧e14.get 20=.one (.d (.int .i64 (i6:Int)))∧e14.get 40=.one (.d (.sl (inst[i6].rows.map (encL GV.enc))))∧e14.get 41=.one (.d (.int .i64 (inst[i6].rows.length:Int)))∧e14.get 42=.one (.d (.int .i64 (i14:Int)))∧h14.box (0,32)=some [.d (.sl (s_.tables.map Tbl.enc)),.d (.sl (s_.fks.map Fk.enc)),.d (.sl (s_.cons.map Cons.enc))]∧h14.box (h6.ep,96)=some [.d (.str inst[i6].table),.d (.sl (inst[i6].rows.map (encL GV.enc)))]∧h14.box (h6.ep+1,112)=some [.d (.str x8.name),.d (.sl (x8.cols.map Col.enc)),.d (.sl (x8.pk.map encI))]) hm (by simp[*]) ?_ ?_
     ·rintro i14 s14 e14 h14 ⟨hn14,h14_2,h14_6,h14_7,h14_18,h14_19,h14_20,h14_40,h14_41,h14_42,hb14_b1,hb14_b7,hb14_b9⟩ hlt14 hm
      have hw14:IntKind.i64.wrap ((i14:Int)+1)=(i14:Int)+1:=IntWalk.i64_in _ (by omega)
      try simp[*]
      refine r_call (av:=[.agg x8.enc,.one (.d (.sl ((inst[i6].rows[i14]).map GV.enc)))]) hm (fun v hv=>Z2f _ _ v hv) (by simp[*]) ?_
      clear hm;intro v15 hvv15 hm
      try simp[*]
      refine r_cond hm ?_ ?_<;>clear hm<;>intro hc16 hm
      ·try simp[*]
       obtain rfl:=r_ret hm
       exact ret0 (vs:=[_]) (by simp[*];try exact rfl) (by simp[*])
      ·try simp[*]
       refine r_cond hm ?_ ?_<;>clear hm<;>intro hc17 hm
       ·try simp[*]
        exact BackF.of () ⟨(by simp[*]),hm⟩
       ·try simp[*]
        refine Wait.of (SWP.draw (Plan.then_ [0,1,2,3,4,5,6,8,9,7,10,11,12] .done) follows (by kernel_rfl) ?_)
        try simp[*,Plan.then_,vcPlan,Z01,Z00,callKind]
        replace hm:=hm.chk
        obtain⟨hw18,hm⟩:=hm
        replace hw18:=Z6o hw18
        try simp[*,Plan.then_,vcPlan,Z01,Z00,callKind]
        replace hm:=hm.get
        obtain⟨x19,h0x19,hxx19,hm⟩:=hm
        try simp at h0x19
        try simp at hxx19
        try simp[*,Plan.then_,vcPlan,Z01,Z00,callKind]
        refine r_call (av:=[.agg x8.enc,.one (.d (.sl (x19.map GV.enc)))]) hm (fun v hv=>Z5s _ _ v hv) (by simp[*]) ?_
        clear hm;intro v20 hvv20 hm
        try simp[*,Plan.then_,vcPlan,Z01,Z00,callKind]
        try refine⟨fun (_:Lab) (_:List C) hl=>hl,?_⟩
        refine r_call (av:=[.agg x8.enc,.one (.d (.sl ((inst[i6].rows[i14]).map GV.enc)))]) hm (fun v hv=>Z5s _ _ v hv) (by simp[*]) ?_
        clear hm;intro v21 hvv21 hm
        try simp[*,Plan.then_,vcPlan,Z01,Z00,callKind]
        try refine⟨fun (_:Lab) (_:List C) hl=>hl,?_⟩
        refine r_call (av:=[.one (.d (.sl (v20.map GV.enc))),.one (.d (.sl (v21.map GV.enc)))]) hm (fun v hv=>Z7z _ _ v hv) (by simp[*]) ?_
        clear hm;intro v22 hvv22 hm
        try simp[*,Plan.then_,vcPlan,Z01,Z00,callKind]
        try refine⟨fun (_:Lab) (_:List C) hl=>hl,?_⟩
        refine r_cond hm ?_ ?_<;>clear hm<;>intro hc23 hm
        ·try simp[*]
         obtain rfl:=r_ret hm
         exact ret0 (vs:=[_]) (by simp[*];try exact rfl) (by simp[*])
        ·try simp[*]
         refine r_cond hm ?_ ?_<;>clear hm<;>intro hc24 hm
         ·try simp[*]
          obtain rfl:=r_ret hm
          exact ret0 (vs:=[_]) (by simp[*];try exact rfl) (by simp[*])
         ·try simp[*]
          exact BackF.of () ⟨(by simp[*]),hm⟩
     ·rintro s14 e14 h14 ⟨hn14,h14_2,h14_6,h14_7,h14_18,h14_19,h14_20,h14_40,h14_41,h14_42,hb14_b1,hb14_b7,hb14_b9⟩ hm
      try simp[*]
      exact BackF.of () ⟨(by simp[*]),hm⟩
  ·rintro s6 e6 h6 ⟨hn6,h6_2,h6_18,h6_19,h6_20,hb6_b1⟩ hm
   try simp[*]
   obtain rfl:=r_ret hm
   exact ret0 (vs:=[_]) (by simp[*];try exact rfl) (by simp[*])
def Z13 (p:Cons) (row:List GV):Option Bool:=
 (bif decide (0≤p.right) then (getK row p.right fun x4=>(getK row p.left fun x5=>(bindK (Z1z x5 p.op x4) fun v6=>(some v6.1)))) else (getK row p.left fun x7=>(bindK (Z1z x7 p.op p.value) fun v8=>(some v8.1))))
theorem Zch (p:Cons) (row:List GV) (r:Bool) (hm:Is (Z13 p row) r):PSpec Tryz.prog 100 [.agg p.enc,.one (.d (.sl (row.map GV.enc)))] (.one (.d (.bool r))):=by
 unfold Z13 at hm
 refine PSpec.of_vc Tryz.func100 rfl (by kernel_rfl) (n:=31) rfl rfl (by simp) ?_
 try simp[*]
 refine r_cond hm ?_ ?_<;>clear hm<;>intro hc3 hm
 ·try simp[*]
  replace hm:=hm.get
  obtain⟨x4,h0x4,hxx4,hm⟩:=hm
  try simp[*]
  refine Wait.of (SWP.draw (Plan.then_ [0,1,2,3,4,5,6,7,8,9,10,11,12,13] .done) follows (by kernel_rfl) ?_)
  try simp[*,Plan.then_,vcPlan,Z01,Z00,callKind]
  replace hm:=hm.get
  obtain⟨x5,h0x5,hxx5,hm⟩:=hm
  try simp[*,Plan.then_,vcPlan,Z01,Z00,callKind]
  refine r_call (av:=[.agg x5.enc,.one (.d (.str p.op)),.agg x4.enc]) hm (fun v hv=>Z5e _ _ _ v hv) (by simp[*]) ?_
  clear hm;intro v6 hvv6 hm
  try simp[*,Plan.then_,vcPlan,Z01,Z00,callKind]
  try refine⟨fun (_:Lab) (_:List C) hl=>hl,?_⟩
  obtain rfl:=r_ret hm
  exact ret0 (vs:=[_]) (by simp[*];try exact rfl) (by simp[*])
 ·try simp[*]
  refine Wait.of (SWP.draw (Plan.then_ [0,1,2,3,4,5,6,7,8,9,10,11,12,13] .done) follows (by kernel_rfl) ?_)
  try simp[*,Plan.then_,vcPlan,Z01,Z00,callKind]
  replace hm:=hm.get
  obtain⟨x7,h0x7,hxx7,hm⟩:=hm
  try simp[*,Plan.then_,vcPlan,Z01,Z00,callKind]
  refine r_call (av:=[.agg x7.enc,.one (.d (.str p.op)),.agg p.value.enc]) hm (fun v hv=>Z5e _ _ _ v hv) (by simp[*]) ?_
  clear hm;intro v8 hvv8 hm
  try simp[*,Plan.then_,vcPlan,Z01,Z00,callKind]
  try refine⟨fun (_:Lab) (_:List C) hl=>hl,?_⟩
  obtain rfl:=r_ret hm
  exact ret0 (vs:=[_]) (by simp[*];try exact rfl) (by simp[*])
def Z4t (p:Cons) (k0:List GV):Option Bool:=
 (bindK (Z13 p k0) fun v2=>(some !v2))
theorem Zci (p:Cons) (k0:List GV) (r:Bool) (hm:Is (Z4t p k0) r):PSpec Tryz.prog 99 [.agg p.enc,.one (.rp [.sl (k0.map GV.enc)])] (.one (.d (.bool r))):=by
 unfold Z4t at hm
 refine PSpec.of_vc Tryz.func99 rfl (by kernel_rfl) (n:=8) rfl rfl (by simp) ?_
 try simp[*]
 refine r_call (av:=[.agg p.enc,.one (.d (.sl (k0.map GV.enc)))]) hm (fun v hv=>Zch _ _ v hv) (by simp[*]) ?_
 clear hm;intro v2 hvv2 hm
 try simp[*]
 obtain rfl:=r_ret hm
 exact ret0 (vs:=[_]) (by simp[*];try exact rfl) (by simp[*])
def Z3q (r_:Rule) (row:List GV):Option Bool:=
 (bindK (Z0k r_.preds (fun xa_=>Z4t xa_ row)) fun v3=>(some !v3))
theorem Z7c (r_:Rule) (row:List GV) (r:Bool) (hm:Is (Z3q r_ row) r):PSpec Tryz.prog 52 [.agg r_.enc,.one (.d (.sl (row.map GV.enc)))] (.one (.d (.bool r))):=by
 unfold Z3q at hm
 refine PSpec.of_vc Tryz.func52 rfl (by kernel_rfl) (n:=10) rfl rfl (by simp) ?_
 try simp[*]
 refine r_call (av:=[.one (.d (.sl (r_.preds.map Cons.enc))),.one (.fn 99 [[.sl (row.map GV.enc)]])]) hm (fun v hv=>Z41 _ 99 [[.sl (row.map GV.enc)]] _ (fun xa_ v hv=>Zci xa_ _ v hv) v hv) (by simp[*]) ?_
 clear hm;intro v3 hvv3 hm
 try simp[*]
 obtain rfl:=r_ret hm
 exact ret0 (vs:=[_]) (by simp[*];try exact rfl) (by simp[*])
def Z4m (row:List GV) (columns:List Int):Option ((List GV)):=
 (forK (fun (i2:Nat) (x2:Int) (s2:(List GV)) next_2=>(getK row x2 fun x3=>(appK2 s2 [x3] fun _=>(next_2 (s2++[x3]))))) (fun (s2:(List GV))=>(some s2)) columns 0 [])
theorem Zdl (row:List GV) (columns:List Int) (r:(List GV)) (hm:Is (Z4m row columns) r):PSpec Tryz.prog 53 [.one (.d (.sl (row.map GV.enc))),.one (.d (.sl (columns.map encI)))] (.one (.d (.sl (r.map GV.enc)))):=by
 unfold Z4m at hm
 refine PSpec.of_vc Tryz.func53 rfl (by kernel_rfl) (n:=23) rfl rfl (by simp) ?_
 try simp[*]
 intro hl1
 replace hl1:columns.length≤2097152:=by simpa using hl1
 refine Wait.for (xs:=columns) (s0:=[]) (fun i2 s2 e2 h2=>∃ c2_0:C,e2.n=23∧e2.get 0=.one (.d (.sl (row.map GV.enc)))∧e2.get 5=.one c2_0∧e2.get 8=.one (.d (.sl (columns.map encI)))∧e2.get 9=.one (.d (.int .i64 (columns.length:Int)))∧e2.get 10=.one (.d (.int .i64 (i2:Int)))∧Grows h2 3 c2_0 (s2.map GV.enc)) hm ⟨.nil,by simp (maxDischargeDepth:=20) [*]⟩ ?_ ?_
 ·rintro i2 s2 e2 h2 ⟨c2_0,hn2,h2_0,h2_5,h2_8,h2_9,h2_10,gc2_0⟩ hlt2 hm
  have hlc2_0:=gc2_0.list
  have hdc2_0:=gc2_0.toD
  have hac2_0:=gc2_0.toA
  have huc2_0:=gc2_0.useUp_arr
  have hw2:IntKind.i64.wrap ((i2:Int)+1)=(i2:Int)+1:=IntWalk.i64_in _ (by omega)
  try simp[*]
  replace hm:=hm.get
  obtain⟨x3,h0x3,hxx3,hm⟩:=hm
  try simp[*]
  refine r_app (xs:=s2) (ys:=[x3]) (enc:=GV.enc) hm Za9 (by first | exact Grows.nil | (simp (maxDischargeDepth:=20) [*];done) | (simp (maxDischargeDepth:=20) [*];refine⟨?_,by omega⟩;intro hq;subst hq;simp at hz2<;>omega)) (by simp[*]) (by decide) (by decide) (fun _=>rfl) ?_
  clear hm;intro hl5 hm g4
  try simp[*]
  exact BackF.of (s2++[x3]) ⟨⟨.own (h2.ep+1,320) ((s2++[x3]).map GV.enc),by simp (maxDischargeDepth:=20) [*]⟩,hm⟩
 ·rintro s2 e2 h2 ⟨c2_0,hn2,h2_0,h2_5,h2_8,h2_9,h2_10,gc2_0⟩ hm
  have hlc2_0:=gc2_0.list
  have hdc2_0:=gc2_0.toD
  have hac2_0:=gc2_0.toA
  have huc2_0:=gc2_0.useUp_arr
  try simp[*]
  obtain rfl:=r_ret hm
  exact ret0 (vs:=[_]) (by simp[*];try exact rfl) (by simp[*])
def Z0o (g_:Gr) (rules:List Rule) (user:ByteArray) (v_:Int) (inst:List Rel) (table:ByteArray):Option ((List (List GV)) × (List Int) × Int):=
 (bindK (Z0n g_ rules) fun v2=>(bif (v2 != 0) then (some ([],[],v2)) else (bindK (Z0h g_ v_) fun v4=>(bif (v4.2 != 0) then (some ([],[],v4.2)) else (bindK (Z0c v4.1 inst) fun v7=>(bif (v7 != 0) then (some ([],[],v7)) else (bindK (Z3k rules user v_ table) fun v9=>(bif !v9.2 then (some ([],[],17)) else (bindK (Z05 v4.1 table) fun v12=>(getK v4.1.tables v12.1 fun x13=>(bindK (Z28 x13 v9.1) fun v14=>(getK inst v12.1 fun x15=>(forK (fun (i17:Nat) (x17:List GV) (s17:(List (List GV))) next_17=>(bindK (Z3q v9.1 x17) fun v18=>(bif v18 then (bindK (Z4m x17 v14) fun v20=>(appK2 s17 [v20] fun _=>(next_17 (s17++[v20])))) else (next_17 s17)))) (fun (s17:(List (List GV)))=>(some (s17,v14,0))) x15.rows 0 [])))))))))))))
theorem Z7d (g_:Gr) (rules:List Rule) (user:ByteArray) (v_:Int) (inst:List Rel) (table:ByteArray) (r:(List (List GV)) × (List Int) × Int) (hm:Is (Z0o g_ rules user v_ inst table) r):PSpec Tryz.prog 17 [.agg g_.enc,.one (.d (.sl (rules.map Rule.enc))),.one (.d (.str user)),.one (.d (.int .i64 v_)),.one (.d (.sl (inst.map Rel.enc))),.one (.d (.str table))] (.tup [.one (.d (.sl (r.1.map (encL GV.enc)))),.one (.d (.sl (r.2.1.map encI))),.one (.d (.int .i64 r.2.2))]):=by
 unfold Z0o at hm
 refine PSpec.of_vc Tryz.func17 rfl (by kernel_rfl) (n:=93) rfl rfl (by simp) ?_
 try simp[*]
 refine r_call (av:=[.agg g_.enc,.one (.d (.sl (rules.map Rule.enc)))]) hm (fun v hv=>Z9d _ _ v hv) (by simp[*]) ?_
 clear hm;intro v2 hvv2 hm
 try simp[*]
 refine r_cond hm ?_ ?_<;>clear hm<;>intro hc3 hm
 ·try simp[*]
  obtain rfl:=r_ret hm
  exact ret0 (vs:=[_,_,_]) (by simp[*];try exact⟨rfl,rfl,rfl⟩) (by simp[*])
 ·try simp[*]
  refine r_call (av:=[.agg g_.enc,.one (.d (.int .i64 v_))]) hm (fun v hv=>Z5d _ _ v hv) (by simp[*]) ?_
  clear hm;intro v4 hvv4 hm
  try simp[*]
  refine r_cond hm ?_ ?_<;>clear hm<;>intro hc6 hm
  ·try simp[*]
   obtain rfl:=r_ret hm
   exact ret0 (vs:=[_,_,_]) (by simp[*];try exact⟨rfl,rfl,rfl⟩) (by simp[*])
  ·try simp[*]
   refine r_call (av:=[.agg v4.1.enc,.one (.d (.sl (inst.map Rel.enc)))]) hm (fun v hv=>Z85 _ _ v hv) (by simp[*]) ?_
   clear hm;intro v7 hvv7 hm
   try simp[*]
   refine r_cond hm ?_ ?_<;>clear hm<;>intro hc8 hm
   ·try simp[*]
    obtain rfl:=r_ret hm
    exact ret0 (vs:=[_,_,_]) (by simp[*];try exact⟨rfl,rfl,rfl⟩) (by simp[*])
   ·try simp[*]
    refine r_call (av:=[.one (.d (.sl (rules.map Rule.enc))),.one (.d (.str user)),.one (.d (.int .i64 v_)),.one (.d (.str table))]) hm (fun v hv=>Z6m _ _ _ _ v hv) (by simp[*]) ?_
    clear hm;intro v9 hvv9 hm
    try simp[*]
    refine r_cond hm ?_ ?_<;>clear hm<;>intro hc11 hm
    ·try simp[*]
     obtain rfl:=r_ret hm
     exact ret0 (vs:=[_,_,_]) (by simp[*];try exact⟨rfl,rfl,rfl⟩) (by simp[*])
    ·try simp[*]
     refine r_call (av:=[.agg v4.1.enc,.one (.d (.str table))]) hm (fun v hv=>Z06 _ _ v hv) (by simp[*]) ?_
     clear hm;intro v12 hvv12 hm
     try simp[*]
     refine Wait.of (SWP.draw (Plan.then_ [0,1,2,3,4,5,6,7] .done) follows (by kernel_rfl) ?_)
     try simp[*,Plan.then_,vcPlan,Z01,Z00,callKind]
     replace hm:=hm.get
     obtain⟨x13,h0x13,hxx13,hm⟩:=hm
     try simp[*,Plan.then_,vcPlan,Z01,Z00,callKind]
     refine r_call (av:=[.agg x13.enc,.agg v9.1.enc]) hm (fun v hv=>Z6l _ _ v hv) (by simp[*]) ?_
     clear hm;intro v14 hvv14 hm
     try simp[*,Plan.then_,vcPlan,Z01,Z00,callKind]
     try refine⟨fun (_:Lab) (_:List C) hl=>hl,?_⟩
     replace hm:=hm.get
     obtain⟨x15,h0x15,hxx15,hm⟩:=hm
     try simp[*]
     intro hl16
     replace hl16:x15.rows.length≤2097152:=by simpa using hl16
     refine Wait.for (xs:=x15.rows) (s0:=[]) (fun i17 s17 e17 h17=>∃ c17_0:C,e17.n=93∧e17.get 19=.one (.ptr (6,304) 0)∧e17.get 23=.one (.d (.sl (v14.map encI)))∧e17.get 24=.one c17_0∧e17.get 75=.one (.d (.sl (x15.rows.map (encL GV.enc))))∧e17.get 76=.one (.d (.int .i64 (x15.rows.length:Int)))∧e17.get 77=.one (.d (.int .i64 (i17:Int)))∧h17.box (6,304)=some [.d (.str v9.1.user),.d (.int .i64 v9.1.version),.d (.str v9.1.table),.d (.sl (v9.1.cols.map encI)),.d (.sl (v9.1.preds.map Cons.enc)),.d (.bool v9.1.write)]∧Grows h17 1 c17_0 (s17.map (encL GV.enc))) hm ⟨.nil,by simp (maxDischargeDepth:=20) [*]⟩ ?_ ?_
     ·rintro i17 s17 e17 h17 ⟨c17_0,hn17,h17_19,h17_23,h17_24,h17_75,h17_76,h17_77,hb17_b10,gc17_0⟩ hlt17 hm
      have hlc17_0:=gc17_0.list
      have hdc17_0:=gc17_0.toD
      have hac17_0:=gc17_0.toA
      have huc17_0:=gc17_0.useUp_arr
      have hw17:IntKind.i64.wrap ((i17:Int)+1)=(i17:Int)+1:=IntWalk.i64_in _ (by omega)
      try simp[*]
      refine r_call (av:=[.agg v9.1.enc,.one (.d (.sl ((x15.rows[i17]).map GV.enc)))]) hm (fun v hv=>Z7c _ _ v hv) (by simp[*]) ?_
      clear hm;intro v18 hvv18 hm
      try simp[*]
      refine r_cond hm ?_ ?_<;>clear hm<;>intro hc19 hm
      ·try simp[*]
       refine r_call (av:=[.one (.d (.sl ((x15.rows[i17]).map GV.enc))),.one (.d (.sl (v14.map encI)))]) hm (fun v hv=>Zdl _ _ v hv) (by simp[*]) ?_
       clear hm;intro v20 hvv20 hm
       try simp[*]
       refine r_app (xs:=s17) (ys:=[v20]) (enc:=(encL GV.enc)) hm Z3y (by first | exact Grows.nil | (simp (maxDischargeDepth:=20) [*];done) | (simp (maxDischargeDepth:=20) [*];refine⟨?_,by omega⟩;intro hq;subst hq;simp at hz2<;>omega)) (by simp[*]) (by decide) (by decide) (fun _=>rfl) ?_
       clear hm;intro hl22 hm g21
       try simp[*]
       exact BackF.of (s17++[v20]) ⟨⟨.own (h17.ep+3,1424) ((s17++[v20]).map (encL GV.enc)),by simp (maxDischargeDepth:=20) [*]⟩,hm⟩
      ·try simp[*]
       exact BackF.of s17 ⟨⟨c17_0,by simp (maxDischargeDepth:=20) [*]⟩,hm⟩
     ·rintro s17 e17 h17 ⟨c17_0,hn17,h17_19,h17_23,h17_24,h17_75,h17_76,h17_77,hb17_b10,gc17_0⟩ hm
      have hlc17_0:=gc17_0.list
      have hdc17_0:=gc17_0.toD
      have hac17_0:=gc17_0.toA
      have huc17_0:=gc17_0.useUp_arr
      try simp[*]
      obtain rfl:=r_ret hm
      exact ret0 (vs:=[_,_,_]) (by simp[*];try exact⟨rfl,rfl,rfl⟩) (by simp[*])
end Go.Proofs.YthgepknlibmjcaaGreat
end
section
namespace Go.Proofs.YthgepknlibmjcaaGreat
open Go Go.Am
section
variable {α:Type}
def fIdx (p:α→Bool) (xs:List α):Int:=match xs.findIdx? p with
 | some k=>(k:Int)
 | none=>-1
theorem Zj4 {f:α→Option Bool} {p:α→Bool}:∀ (xs:List α) (i:Nat),(∀ x ∈ xs,f x=some (p x)) →
  forK (fun (i:Nat) (x:α) (s:Unit) next=>bindK (f x) fun v=>bif v then some (i:Int) else next ()) (fun _=>some (-1)) xs i ()=some (match xs.findIdx? p with | some k=>((i+k:Nat):Int) | none=>-1)
 | [],i,_=>rfl
 | x::xs,i,h=>by
   have ih:=Zj4 xs (i+1) fun y hy=>h y (by simp[hy])
   rw[forK,h x (by simp),List.findIdx?_cons]
   show (bif p x then some (i:Int) else _)=_
   cases hp:p x with
   | true=>simp
   | false=>
     simp only[cond_false,ih]
     cases xs.findIdx? p with
     | none=>simp
     | some k=>
       show some (((i+1+k:Nat):Int))=some (((i+(k+1):Nat):Int))
       rw[show i+1+k=i+(k+1) by omega]
theorem Zgc {f:α→Option Bool} {p:α→Bool} {xs:List α} (h:∀ x ∈ xs,f x=some (p x)) :
  forK (fun (i:Nat) (x:α) (s:Unit) next=>bindK (f x) fun v=>bif v then some (i:Int) else next ()) (fun _=>some (-1)) xs 0 ()=some (fIdx p xs):=by
 rw[Zj4 xs 0 h]
 unfold fIdx
 cases xs.findIdx? p<;>simp
theorem Zt6 (p:α→Bool):∀ xs:List α,decide (0≤fIdx p xs)=xs.any p:=by
 intro xs
 unfold fIdx
 cases h:xs.findIdx? p with
 | none=>
   have:=List.findIdx?_eq_none_iff.1 h
   have h2:xs.any p=false:=List.any_eq_false.2 fun x hx=>by simp[this x hx]
   rw[h2];rfl
 | some k=>
   obtain⟨h1,h2,_⟩:=List.findIdx?_eq_some_iff_getElem.1 h
   have h3:xs.any p=true:=List.any_eq_true.2 ⟨_,List.getElem_mem h1,h2⟩
   rw[h3];simp
theorem Zt5 (p:α→Bool):∀ xs:List α,(fIdx p xs < 0∧xs.find? p=none)∨(0≤fIdx p xs∧fIdx p xs < xs.length∧∃ x,xs[(fIdx p xs).toNat]?=some x∧xs.find? p=some x):=by
 intro xs
 unfold fIdx
 cases h:xs.findIdx? p with
 | none=>
   refine .inl ⟨by simp,List.find?_eq_none.2 fun x hx=>?_⟩
   simpa using List.findIdx?_eq_none_iff.1 h x hx
 | some k=>
   obtain⟨h1,h2,h3⟩:=List.findIdx?_eq_some_iff_getElem.1 h
   refine .inr ⟨by simp,by simp;omega,xs[k],by simp[h1],?_⟩
   rw[List.find?_eq_some_iff_getElem]
   exact⟨h2,k,h1,rfl,fun j hj=>by simpa using h3 j hj⟩
end
def lkP (u:ByteArray) (v:Int) (t:ByteArray) (r:Rule):Bool:=strEq r.user u && (r.version == v && strEq r.table t)
def lk (rules:List Rule) (u:ByteArray) (v:Int) (t:ByteArray):Option Rule:=rules.find? (lkP u v t)
theorem Zt2 (r:Rule) (u:ByteArray) (v:Int) (t:ByteArray):Z4d r u v t=some (lkP u v t r):=by
 unfold Z4d lkP
 cases strEq r.user u<;>cases (r.version == v)<;>rfl
theorem Z94 (rules:List Rule) (u:ByteArray) (v:Int) (t:ByteArray):Z3k rules u v t=some (match lk rules u v t with | some r=>(r,true) | none=>(Rule.mk ByteArray.empty 0 ByteArray.empty [] [] false,false)):=by
 unfold Z3k Z38
 rw[Zgc (p:=lkP u v t) fun x _=>Zt2 x u v t]
 unfold lk
 rcases Zt5 (lkP u v t) rules with ⟨h1,h2⟩ | ⟨h1,h2,x,h3,h4⟩
 ·simp[bindK,h1,h2]
 ·have h5:¬ (fIdx (lkP u v t) rules < 0):=by omega
  simp[bindK,h5,h4,getK,h1,h3]
def visC (T:Tbl) (r:Rule):List Int:=dd (sortI (T.pk++r.cols))
structure VP (T:Tbl) (p:Cons):Prop where
 left:p.left ∈ T.pk
 right:p.right=-1∨p.right ∈ T.pk
theorem Zbj (T:Tbl) (p:Cons):Wp (Z0r T p) fun e=>e=0→VP T p:=by
 have key:Wp (bindK (Z09 T.pk p.left) fun v18=>(bif !v18 then (some 9) else (bif (p.right != (-1)) then (bindK (Z09 T.pk p.right) fun v21=>(bif !v21 then (some 9) else (bif (p.right == (-1)) then (bindK (Z0d p.value) fun v24=>(some v24)) else (bif (!(p.value.kind == 0) || (!(p.value.int == 0) || (!(p.value.text == ByteArray.empty)))) then (some 3) else (some 0))))) else (bif (p.right == (-1)) then (bindK (Z0d p.value) fun v27=>(some v27)) else (bif (!(p.value.kind == 0) || (!(p.value.int == 0) || (!(p.value.text == ByteArray.empty)))) then (some 3) else (some (0:Int))))))) fun e=>e=0→VP T p:=by
  refine Wp.bind (Z4o _ _) fun b _ hb=>Wp.cond (fun _=>Wp.ret (by simp)) fun h1=>?_
  have hl:p.left ∈ T.pk:=hb.1 (by simpa using h1)
  refine Wp.cond (fun h2=>Wp.bind (Z4o _ _) fun b _ hb=>Wp.cond (fun _=>Wp.ret (by simp)) fun h3=>?_) fun h2=>?_
  ·have hr:VP T p:=⟨hl,.inr (hb.1 (by simpa using h3))⟩
   exact Wp.cond (fun _=>Wp.bind (Z32 _) fun _ _ _=>Wp.ret fun _=>hr) fun _=>Wp.cond (fun _=>Wp.ret fun _=>hr) fun _=>Wp.ret fun _=>hr
  ·have hr:VP T p:=⟨hl,.inl (by simpa using h2)⟩
   exact Wp.cond (fun _=>Wp.bind (Z32 _) fun _ _ _=>Wp.ret fun _=>hr) fun _=>Wp.cond (fun _=>Wp.ret fun _=>hr) fun _=>Wp.ret fun _=>hr
 unfold Z0r
 exact Wp.cond (fun _=>Wp.ret (by simp)) fun _=>Wp.cond (fun _=>Wp.cond (fun _=>Wp.cond (fun _=>Wp.ret (by simp)) fun _=>key) fun _=>key) fun _=>key
structure VR (Ss:List Sch) (r:Rule) (S:Sch) (k:Int) (T:Tbl):Prop where
 v0:0≤r.version
 s:Ss[r.version.toNat]?=some S
 ft:Z05 S r.table=some (k,true)
 k0:0≤k
 t:S.tables[k.toNat]?=some T
 cols:∀ c ∈ r.cols,0≤c∧c < T.cols.length
 asc:∀ (i:Nat) (a b:Int),r.cols[i]?=some a→r.cols[i+1]?=some b→a < b
 pr:∀ p ∈ r.preds,VP T p
 wr:r.write=true→T.cols.length≤(visC T r).length
theorem Zp8 {xs:List Int} {n:Nat} (h0:∀ c ∈ xs,0≤c∧c < n) (h1:∀ (i:Nat) (a b:Int),xs[i]?=some a→xs[i+1]?=some b→a < b):xs.length≤n:=by
 have:∀ (k:Nat) (v:Int),xs[k]?=some v→(k:Int)≤v:=by
  intro k
  induction k with
  | zero=>intro v hv;have:=(h0 v (List.mem_of_getElem? hv)).1;omega
  | succ k ih=>
    intro v hv
    have hn:=(List.getElem?_eq_some_iff.1 hv).1
    have e1:=ih _ (List.getElem?_eq_getElem (by omega))
    have e2:=h1 k _ v (List.getElem?_eq_getElem (by omega)) hv
    omega
 rcases Nat.eq_zero_or_pos xs.length with h | h
 ·omega
 ·have e1:=this (xs.length - 1) _ (List.getElem?_eq_getElem (by omega))
  have e2:=(h0 _ (List.getElem_mem (show xs.length - 1 < xs.length by omega))).2
  omega
theorem Z9u {T:Tbl} {r:Rule} (hT:VT T) (h0:∀ c ∈ r.cols,0≤c∧c < T.cols.length) (h1:∀ (i:Nat) (a b:Int),r.cols[i]?=some a→r.cols[i+1]?=some b→a < b):Wp (Z28 T r) fun c=>c=visC T r:=by
 unfold Z28
 have e1:=Zp8 h0 h1
 have e2:=hT.pk6
 have e3:=hT.cols6
 exact Wp.chk (by omega) (Wp.ret rfl)
theorem Zez (Ss:List Sch) (hS:∀ S ∈ Ss,VS S) (r:Rule):Wp (Z2t Ss r) fun e=>e=0→∃ S k T,VR Ss r S k T:=by
 unfold Z2t
 refine Wp.bind (Zbk _) fun v _ _=>Wp.cond (fun _=>Wp.ret (by simp)) fun _=>Wp.cond (fun _=>Wp.ret (by simp)) fun h1=>Wp.cond (fun _=>Wp.ret (by simp)) fun h2=>?_
 have a1:0≤r.version:=by simpa using h1
 have a2:r.version < Ss.length:=by simpa using h2
 refine Wp.get a1 a2 fun S hS1 hSm=>Wp.bind (Z2g S r.table) fun q hq0 hq=>Wp.cond (fun _=>Wp.ret (by simp)) fun h3=>?_
 have a3:q.2=true:=by simpa using h3
 refine Wp.get hq.1 (hq.2.1 a3).1 fun T hT1 hTm=>?_
 have hVS:=hS S hSm
 have hVT:=hVS.tab T hTm
 have h6:=hVT.cols6
 obtain⟨k,kb⟩:=q
 simp only at a3 hT1 hq hq0
 subst a3
 refine Wp.for (fun i _=>(∀ (j:Nat) (c:Int),j < i→r.cols[j]?=some c→0≤c∧c < T.cols.length)∧(∀ (j:Nat) (a b:Int),j+1 < i→r.cols[j]?=some a→r.cols[j+1]?=some b→a < b)∧(∀ (j:Nat) (c:Int),j < i→r.cols[j]?=some c→(j:Int)≤c)∧i≤6) ⟨by intro j c h;omega,by intro j a b h;omega,by intro j c h;omega,by omega⟩ ?_ ?_
 ·rintro i x s next hx hm ⟨hI,hJ,hL,h6i⟩ hn
  refine Wp.cond (fun _=>Wp.ret (by simp)) fun h4=>Wp.cond (fun _=>Wp.ret (by simp)) fun h5=>?_
  have b1:0≤x:=by simpa using h4
  have b2:x < T.cols.length:=by simpa using h5
  have hil:=(List.getElem?_eq_some_iff.1 hx).1
  have fin:(∀ a:Int,0 < i→r.cols[i - 1]?=some a→a < x)→Wp (next ()) _:=fun hlt=>by
   have hL':∀ (j:Nat) (c:Int),j < i+1→r.cols[j]?=some c→(j:Int)≤c:=Z33 (p:=fun _=>True) (by simp) hx trivial |> fun _=>by
    intro j c hj hc
    rcases Nat.lt_or_ge j i with h | h
    ·exact hL j c h hc
    ·obtain rfl:j=i:=by omega
     rw[hx] at hc
     cases hc
     rcases Nat.eq_zero_or_pos j with rfl | hp
     ·simpa using b1
     ·have e1:=hL (j - 1) _ (by omega) (List.getElem?_eq_getElem (by omega))
      have e2:=hlt _ hp (List.getElem?_eq_getElem (by omega))
      omega
   refine hn () ⟨Z33 hI hx ⟨b1,b2⟩,?_,hL',?_⟩
   ·intro j a b hj ha hb
    rcases Nat.lt_or_ge (j+1) i with h | h
    ·exact hJ j a b h ha hb
    ·obtain rfl:i=j+1:=by omega
     rw[hx] at hb
     cases hb
     exact hlt a (by omega) (by simpa using ha)
   ·have:=hL' i x (by omega) hx
    omega
  refine Wp.cond (fun h6=>?_) fun h6=>fin fun a h9=>?_
  ·have hi:0 < i:=by simpa using h6
   refine Wp.chk ⟨by omega,by omega⟩ (Wp.get (by omega) (by omega) fun y hy _=>Wp.cond (fun _=>Wp.ret (by simp)) fun h7=>fin fun a _ ha=>?_)
   have hyx:y < x:=by simpa using h7
   rw[show ((i:Int) - 1).toNat=i - 1 by omega,ha] at hy
   cases hy
   exact hyx
  ·have:¬ (0 < i):=by simpa using h6
   omega
 rintro s ⟨hI,hJ,_,_⟩
 have hc:=Z5x hI
 have ha:∀ (i:Nat) (a b:Int),r.cols[i]?=some a→r.cols[i+1]?=some b→a < b:=fun i a b x y=>hJ i a b (List.getElem?_eq_some_iff.1 y).1 x y
 have tail:(r.write=true→T.cols.length≤(visC T r).length)→Wp (bif decide (8 < (r.preds.length:Int)) then (some 2) else (forK (fun (i29:Nat) (x29:Cons) (s29:Unit) next_29=>(bindK (Z0r T x29) fun v31=>(bif (v31 != 0) then (some v31) else (next_29 ())))) (fun (s29:Unit)=>(some (0:Int))) r.preds 0 ())) fun e=>e=0→∃ S k T,VR Ss r S k T:=fun hw=>by
  refine Wp.cond (fun _=>Wp.ret (by simp)) fun _=>Wp.for (fun i _=>∀ (j:Nat) (p:Cons),j < i→r.preds[j]?=some p→VP T p) (by intro j p h;omega) ?_ ?_
  ·intro i x s next hx hm hI hn
   refine Wp.bind (Zbj T x) fun e _ he=>Wp.cond (fun h=>Wp.ret (by intro h0;simp[h0] at h)) fun h4=>hn () (Z33 hI hx (he (by simpa using h4)))
  ·intro s hP
   exact Wp.ret fun _=>⟨S,k,T,a1,hS1,hq0,hq.1,hT1,hc,ha,Z5x hP,hw⟩
 refine Wp.cond (fun hw=>?_) fun hw=>tail fun h=>by rw[h] at hw;cases hw
 refine Wp.bind (Z9u hVT hc ha) fun c _ hcc=>Wp.cond (fun _=>Wp.ret (by simp)) fun h7=>tail fun _=>?_
 subst hcc
 simpa using h7
structure VRs (g:Gr) (rules:List Rule) (Ss:List Sch):Prop where
 ss:Z1p g=some (Ss,0)
 vs:∀ S ∈ Ss,VS S
 l40:rules.length≤40
 r:∀ r ∈ rules,∃ S k T,VR Ss r S k T
 uni:∀ (i:Nat) (r:Rule),rules[i]?=some r→lk (rules.take i) r.user r.version r.table=none
theorem Z90 (g:Gr) (hx:∀ e ∈ g.edges,∀ x ∈ e.script,SmallX x) (rules:List Rule):Wp (Z0n g rules) fun e=>e=0→∃ Ss,VRs g rules Ss:=by
 unfold Z0n
 refine Wp.bind (Z8b g hx) fun q hq0 hq=>Wp.cond (fun h=>Wp.ret fun h0=>?_) fun h1=>Wp.cond (fun _=>Wp.ret (by simp)) fun h2=>?_
 ·rw[h0] at h;cases h
 obtain⟨Ss,e⟩:=q
 obtain rfl:e=0:=by simpa using h1
 obtain⟨_,_,_,hV⟩:=hq rfl
 have a2:rules.length≤40:=by simp at h2;omega
 refine Wp.for (fun i _=>(∀ (j:Nat) (r:Rule),j < i→rules[j]?=some r→∃ S k T,VR Ss r S k T)∧∀ (j:Nat) (r:Rule),j < i→rules[j]?=some r→lk (rules.take j) r.user r.version r.table=none) ⟨by intro j p h;omega,by intro j p h;omega⟩ ?_ ?_
 ·rintro i x s next hx1 hm ⟨hI,hJ⟩ hn
  have hil:=(List.getElem?_eq_some_iff.1 hx1).1
  refine Wp.bind (Zez Ss hV x) fun e _ he=>Wp.cond (fun h=>Wp.ret (by intro h0;simp[h0] at h)) fun h4=>Wp.chk ⟨by omega,by omega,by omega⟩ ?_
  rw[Z94,List.drop_zero]
  have hv:=he (by simpa using h4)
  cases hl:lk (rules.take i) x.user x.version x.table with
  | some y=>exact⟨5,rfl,by simp⟩
  | none=>
    refine hn () ⟨Z33 hI hx1 hv,fun j r hj hr=>?_⟩
    rcases Nat.lt_or_ge j i with h | h
    ·exact hJ j r h hr
    ·obtain rfl:j=i:=by omega
     rw[hx1] at hr
     cases hr
     exact hl
 ·rintro s ⟨hI,hJ⟩
  exact Wp.ret fun _=>⟨Ss,hq0,hV,a2,Z5x hI,fun i r hr=>hJ i r (List.getElem?_eq_some_iff.1 hr).1 hr⟩
theorem Z52 (g:Gr) (hx:∀ e ∈ g.edges,∀ x ∈ e.script,SmallX x) (v:Int):Wp (Z0h g v) fun q=>q.2=0→∃ Ss,Z1p g=some (Ss,0)∧(∀ S ∈ Ss,VS S)∧0≤v∧Ss[v.toNat]?=some q.1:=by
 unfold Z0h
 refine Wp.bind (Z8b g hx) fun q hq0 hq=>Wp.cond (fun h=>Wp.ret fun h0=>?_) fun h1=>Wp.cond (fun _=>Wp.ret (by simp)) fun h2=>Wp.cond (fun _=>Wp.ret (by simp)) fun h3=>?_
 ·simp only at h0;rw[h0] at h;cases h
 obtain⟨Ss,e⟩:=q
 obtain rfl:e=0:=by simpa using h1
 obtain⟨_,_,_,hV⟩:=hq rfl
 have a2:0≤v:=by simpa using h2
 have a3:v < Ss.length:=by simpa using h3
 exact Wp.get a2 a3 fun S hS _=>Wp.ret fun _=>⟨Ss,hq0,hV,a2,hS⟩
end Go.Proofs.YthgepknlibmjcaaGreat
end
section
namespace Go.Proofs.YthgepknlibmjcaaGreat
open Go Go.Am
def cmpI (a b:Int):Int:=if a < b then -1 else if b < a then 1 else 0
theorem Z8q (a b:Int):Z1h a b=some (cmpI a b):=by
 unfold Z1h cmpI
 by_cases h1:a < b
 ·simp[h1]
 ·by_cases h2:b < a<;>simp[h1,h2]
def cmpV (a b:GV):Int:=if cmpI a.kind b.kind≠0 then cmpI a.kind b.kind else if cmpI a.int b.int≠0 then cmpI a.int b.int else cmpS a.text b.text
theorem Zmc (a b:GV):Z1s a b=some (cmpV a b):=by
 unfold Z1s Z47 cmpV
 rw[Z8q,Z8q]
 simp only[bindK]
 by_cases h1:cmpI a.kind b.kind=0
 ·by_cases h2:cmpI a.int b.int=0
  ·simp[h1,h2]
  ·have h3:(cmpI a.int b.int != 0)=true:=by simpa using h2
   simp[h1,h2,h3]
 ·have h3:(cmpI a.kind b.kind != 0)=true:=by simpa using h1
  simp[h1,h3]
def cmpR:List GV→List GV→Int
 | [],[]=>0
 | [],_::_=>-1
 | _::_,[]=>1
 | x::xs,y::ys=>if cmpV x y≠0 then cmpV x y else cmpR xs ys
theorem Z9f (a b:List GV) (ha:a.length≤2097152):Wp (Z2h a b) fun c=>c=cmpR a b:=by
 unfold Z2h
 have hmin:(Int.toNat (if (b.length:Int) < (a.length:Int) then (b.length:Int) else (a.length:Int)))=min a.length b.length:=by
  split<;>omega
 rw[hmin]
 refine Wp.count (fun i _=>cmpR a b=cmpR (a.drop i) (b.drop i)) (by simp) ?_ ?_
 ·intro i s next hi hI hn
  have hia:i < a.length:=by omega
  have hib:i < b.length:=by omega
  refine Wp.getN (List.getElem?_eq_getElem hia) (Wp.getN (List.getElem?_eq_getElem hib) ?_)
  rw[List.drop_eq_getElem_cons hia,List.drop_eq_getElem_cons hib,cmpR] at hI
  rw[Zmc]
  refine Wp.bind (R:=fun v=>v=cmpV a[i] b[i]) ⟨_,rfl,rfl⟩ fun v _ hv=>?_
  subst hv
  refine Wp.cond (fun h=>Wp.ret ?_) fun h=>Wp.chk ⟨by omega,by omega⟩ (hn () ?_)
  ·have h':cmpV a[i] b[i]≠0:=by simpa using h
   rw[hI,if_pos h']
  ·have h':cmpV a[i] b[i]=0:=by simpa using h
   rw[hI,if_neg (by simp[h'])]
 ·intro s hI
  rw[Z8q]
  refine Wp.bind (R:=fun v=>v=cmpI a.length b.length) ⟨_,rfl,rfl⟩ fun v _ hv=>Wp.ret ?_
  subst hv
  rw[hI]
  unfold cmpI
  rcases Nat.lt_trichotomy a.length b.length with h | h | h
  ·have e1:a.drop (min a.length b.length)=[]:=List.drop_eq_nil_of_le (by omega)
   rw[e1,List.drop_eq_getElem_cons (show min a.length b.length < b.length by omega)]
   simp[cmpR,h]
  ·have e1:a.drop (min a.length b.length)=[]:=List.drop_eq_nil_of_le (by omega)
   have e2:b.drop (min a.length b.length)=[]:=List.drop_eq_nil_of_le (by omega)
   rw[e1,e2]
   simp[cmpR,h]
  ·have e2:b.drop (min a.length b.length)=[]:=List.drop_eq_nil_of_le (by omega)
   rw[e2,List.drop_eq_getElem_cons (show min a.length b.length < a.length by omega)]
   have h3:¬ (a.length < b.length):=by omega
   simp[cmpR,h,h3]
def gvZ:GV:=⟨0,0,ByteArray.empty⟩
def cellF (row:List GV) (c:Int):GV:=if 0≤c then (row[c.toNat]?).getD gvZ else gvZ
def keyF (T:Tbl) (row:List GV):List GV:=T.pk.map (cellF row)
theorem Zc5 {α β:Type} {xs:List α} {i:Nat} {x:α} {f:α→β} (h:xs[i]?=some x):(xs.take (i+1)).map f=(xs.take i).map f++[f x]:=by
 obtain⟨h1,h2⟩:=List.getElem?_eq_some_iff.1 h
 rw[List.take_succ_eq_append_getElem h1,h2]
 simp
theorem w_Key (T:Tbl) (row:List GV) (hl:T.pk.length≤2097152):Wp (Z2k T row) fun k=>k=keyF T row:=by
 have hL:=LIM_eq
 unfold Z2k
 refine Wp.for (fun i (s:List GV)=>s=(T.pk.take i).map (cellF row)) (by simp) ?_ (fun s hs=>Wp.ret (by rw[hs,List.take_length];rfl))
 intro i x s next hx hm hI hn
 have hi:=(List.getElem?_eq_some_iff.1 hx).1
 have hsl:s.length≤i:=by rw[hI];simp;omega
 refine Wp.cond (fun h1=>Wp.cond (fun h2=>?_) fun h2=>?_) fun h1=>?_
 ·have a1:0≤x:=by simpa using h1
  have a2:x < row.length:=by simpa using h2
  refine Wp.get a1 a2 fun y hy _=>Wp.app (by simp;omega) (hn _ ?_)
  rw[Zc5 hx,hI]
  simp[cellF,a1,hy]
 ·have a1:0≤x:=by simpa using h1
  have a2:¬ (x < row.length):=by simpa using h2
  refine Wp.app (by simp;omega) (hn _ ?_)
  rw[Zc5 hx,hI]
  have:row[x.toNat]?=none:=List.getElem?_eq_none (by omega)
  simp[cellF,a1,this,gvZ]
 ·have a1:¬ (0≤x):=by simpa using h1
  refine Wp.app (by simp;omega) (hn _ ?_)
  rw[Zc5 hx,hI]
  simp[cellF,a1,gvZ]
structure CR (T:Tbl) (row:List GV):Prop where
 len:row.length=T.cols.length
 cell:∀ (i:Nat) (x:GV) (c:Col),row[i]?=some x→T.cols[i]?=some c→Z0d x=some 0∧(x.kind=0→c.nullable=true)∧(x.kind≠0→x.kind=c.kind)
theorem Zcm {α β:Type} {xs:List α} {ys:List β} {p:α→β→Prop} {i:Nat} {x:α} {y:β} (h:∀ (j:Nat) (a:α) (b:β),j < i→xs[j]?=some a→ys[j]?=some b→p a b) (hx:xs[i]?=some x) (hy:ys[i]?=some y) (hp:p x y) :
  ∀ (j:Nat) (a:α) (b:β),j < i+1→xs[j]?=some a→ys[j]?=some b→p a b:=by
 intro j a b hj ha hb
 rcases Nat.lt_or_ge j i with h1 | h1
 ·exact h j a b h1 ha hb
 ·obtain rfl:j=i:=by omega
  rw[hx] at ha
  rw[hy] at hb
  cases ha
  cases hb
  exact hp
theorem Zbz (T:Tbl) (row:List GV):Wp (Z0f T row) fun e=>e=0→CR T row:=by
 unfold Z0f
 refine Wp.cond (fun _=>Wp.ret (by simp)) fun h1=>?_
 have hl:row.length=T.cols.length:=by simp at h1;omega
 refine Wp.for (fun i _=>∀ (j:Nat) (x:GV) (c:Col),j < i→row[j]?=some x→T.cols[j]?=some c→Z0d x=some 0∧(x.kind=0→c.nullable=true)∧(x.kind≠0→x.kind=c.kind)) (by intro j x c h;omega) ?_ fun s hI=>Wp.ret fun _=>⟨hl,fun i x c hx hc=>hI i x c (List.getElem?_eq_some_iff.1 hx).1 hx hc⟩
 intro i x s next hx hm hI hn
 have hi:=(List.getElem?_eq_some_iff.1 hx).1
 have hic:i < T.cols.length:=by omega
 have hcx:T.cols[i]?=some T.cols[i]:=List.getElem?_eq_getElem hic
 generalize T.cols[i]=c at hcx
 refine Wp.bind (Z32 x) fun v hv _=>Wp.cond (fun h=>Wp.ret (by intro h0;simp[h0] at h)) fun h2=>?_
 obtain rfl:v=0:=by simpa using h2
 refine Wp.cond (fun h3=>?_) fun h3=>?_
 ·have a3:x.kind=0:=by simpa using h3
  refine Wp.getN hcx (Wp.cond (fun _=>Wp.ret (by simp)) fun h4=>Wp.cond (fun h5=>?_) fun _=>hn () (Zcm hI hx hcx ⟨hv,fun _=>by simpa using h4,fun h=>absurd a3 h⟩))
  simp[a3] at h5
 ·have a3:x.kind≠0:=by simpa using h3
  refine Wp.cond (fun _=>Wp.getN hcx (Wp.cond (fun _=>Wp.ret (by simp)) fun h4=>hn () (Zcm hI hx hcx ⟨hv,fun h=>absurd h a3,fun _=>by simpa using h4⟩))) fun h5=>?_
  simp[a3] at h5
def Asc (T:Tbl) (rows:List (List GV)):Prop:=∀ (i:Nat) (a b:List GV),rows[i]?=some a→rows[i+1]?=some b→cmpR (keyF T a) (keyF T b) < 0
structure CF (S:Sch) (inst:List Rel):Prop where
 len:inst.length=S.tables.length
 name:∀ (i:Nat) (x:Rel) (T:Tbl),inst[i]?=some x→S.tables[i]?=some T→strEq x.table T.name=true
 l24:∀ x ∈ inst,x.rows.length≤24
 row:∀ (i:Nat) (x:Rel) (T:Tbl),inst[i]?=some x→S.tables[i]?=some T→∀ row ∈ x.rows,CR T row
 asc:∀ (i:Nat) (x:Rel) (T:Tbl),inst[i]?=some x→S.tables[i]?=some T→Asc T x.rows
theorem Zfe (S:Sch) (hS:∀ T ∈ S.tables,T.pk.length≤6) (inst:List Rel):Wp (Z0c S inst) fun e=>e=0→CF S inst:=by
 unfold Z0c
 refine Wp.cond (fun _=>Wp.ret (by simp)) fun h1=>?_
 have hl:inst.length=S.tables.length:=by simp at h1;omega
 refine Wp.for (fun i _=>∀ (j:Nat) (x:Rel) (T:Tbl),j < i→inst[j]?=some x→S.tables[j]?=some T→strEq x.table T.name=true∧x.rows.length≤24∧(∀ row ∈ x.rows,CR T row)∧Asc T x.rows) (by intro j x c h;omega) ?_ ?_
 ·intro i x s next hx hm hI hn
  have hi:=(List.getElem?_eq_some_iff.1 hx).1
  have hic:i < S.tables.length:=by omega
  have hcx:S.tables[i]?=some S.tables[i]:=List.getElem?_eq_getElem hic
  have hpk:=hS _ (List.getElem_mem hic)
  generalize S.tables[i]=T at hcx hpk
  refine Wp.getN hcx (Wp.cond (fun _=>Wp.ret (by simp)) fun h2=>Wp.cond (fun _=>Wp.ret (by simp)) fun h3=>?_)
  have a3:x.rows.length≤24:=by simp at h3;omega
  refine Wp.for (fun i _=>(∀ (j:Nat) (row:List GV),j < i→x.rows[j]?=some row→CR T row)∧∀ (j:Nat) (a b:List GV),j+1 < i→x.rows[j]?=some a→x.rows[j+1]?=some b→cmpR (keyF T a) (keyF T b) < 0) ⟨by intro j r h;omega,by intro j a b h;omega⟩ ?_ ?_
  ·rintro k row s next2 hr hrm ⟨hJ,hK⟩ hn2
   have hk:=(List.getElem?_eq_some_iff.1 hr).1
   refine Wp.bind (Zbz T row) fun e _ he=>Wp.cond (fun h=>Wp.ret (by intro h0;simp[h0] at h)) fun h4=>?_
   have hcr:=he (by simpa using h4)
   refine Wp.cond (fun h5=>hn2 () ⟨Z33 hJ hr hcr,?_⟩) fun h5=>Wp.chk ⟨by omega,by omega⟩ ?_
   ·have hk0:k=0:=by simp at h5;omega
    intro j a b hj;omega
   ·have hk0:k≠0:=by simp at h5;omega
    have hk1:k - 1 < x.rows.length:=by omega
    have hr0:x.rows[k - 1]?=some x.rows[k - 1]:=List.getElem?_eq_getElem hk1
    rw[show (k:Int) - 1=((k - 1:Nat):Int) by omega]
    generalize x.rows[k - 1]=row0 at hr0
    refine Wp.getN hr0 (Wp.bind (w_Key T row0 (by omega)) fun k0 _ h0=>Wp.bind (w_Key T row (by omega)) fun k1 _ h1=>?_)
    subst h0 h1
    refine Wp.bind (Z9f _ _ (by simp[keyF];omega)) fun c _ hc=>Wp.cond (fun _=>Wp.ret (by simp)) fun h6=>Wp.cond (fun _=>Wp.ret (by simp)) fun h7=>hn2 () ⟨Z33 hJ hr hcr,?_⟩
    have a6:c≠0:=by simpa using h6
    have a7:¬ (0 < c):=by simpa using h7
    intro j a b hj ha hb
    rcases Nat.lt_or_ge (j+1) k with h | h
    ·exact hK j a b h ha hb
    ·obtain rfl:k=j+1:=by omega
     rw[hr] at hb
     rw[show j+1 - 1=j by omega,ha] at hr0
     cases hb
     cases hr0
     rw[← hc]
     omega
  ·rintro s ⟨hJ,hK⟩
   exact hn () (Zcm hI hx hcx ⟨by simpa using h2,a3,Z5x hJ,fun i a b ha hb=>hK i a b (List.getElem?_eq_some_iff.1 hb).1 ha hb⟩)
 ·intro s hI
  refine Wp.ret fun _=>⟨hl,fun i x T hx hT=>(hI i x T (List.getElem?_eq_some_iff.1 hx).1 hx hT).1,fun x hx=>?_,fun i x T hx hT=>(hI i x T (List.getElem?_eq_some_iff.1 hx).1 hx hT).2.2.1,fun i x T hx hT=>(hI i x T (List.getElem?_eq_some_iff.1 hx).1 hx hT).2.2.2⟩
  obtain⟨i,hi,rfl⟩:=List.getElem_of_mem hx
  exact (hI i _ _ hi (List.getElem?_eq_getElem hi) (List.getElem?_eq_getElem (by omega))).2.1
def satP (p:Cons) (row:List GV):Bool:=match Z13 p row with
 | some b=>b
 | none=>false
def mtch (r:Rule) (row:List GV):Bool:=!(r.preds.any fun p=>!(satP p row))
theorem sat_eq {T:Tbl} {p:Cons} {row:List GV} (hT:∀ v ∈ T.pk,0≤v∧v < T.cols.length) (hp:VP T p) (hl:row.length=T.cols.length):Z13 p row=some (satP p row):=by
 have:Wp (Z13 p row) fun _=>True:=by
  unfold Z13
  have h1:=hT _ hp.left
  refine Wp.cond (fun h=>?_) fun _=>Wp.get h1.1 (by omega) fun _ _ _=>Wp.bind (Z9e _ _ _) fun _ _ _=>Wp.ret trivial
  have h0:0≤p.right:=by simpa using h
  rcases hp.right with h2 | h2
  ·omega
  ·have h3:=hT _ h2
   exact Wp.get h3.1 (by omega) fun _ _ _=>Wp.get h1.1 (by omega) fun _ _ _=>Wp.bind (Z9e _ _ _) fun _ _ _=>Wp.ret trivial
 obtain⟨b,hb,_⟩:=this
 unfold satP
 rw[hb]
theorem Zfj {T:Tbl} {r:Rule} {row:List GV} (hT:∀ v ∈ T.pk,0≤v∧v < T.cols.length) (hp:∀ p ∈ r.preds,VP T p) (hl:row.length=T.cols.length):Z3q r row=some (mtch r row):=by
 unfold Z3q Z0k Z18
 rw[Zgc (p:=fun p=>!(satP p row)) fun p hpm=>?_]
 ·simp only[bindK]
  rw[Zt6]
  rfl
 ·unfold Z4t
  rw[sat_eq hT (hp p hpm) hl]
  rfl
def projF (cols:List Int) (row:List GV):List GV:=cols.map (cellF row)
theorem Zmk (row:List GV) (cols:List Int) (hl:cols.length≤2097152) (hc:∀ c ∈ cols,0≤c∧c < row.length):Wp (Z4m row cols) fun r=>r=projF cols row:=by
 have hL:=LIM_eq
 unfold Z4m
 refine Wp.for (fun i (s:List GV)=>s=(cols.take i).map (cellF row)) (by simp) ?_ (fun s hs=>Wp.ret (by rw[hs,List.take_length];rfl))
 intro i x s next hx hm hI hn
 have hi:=(List.getElem?_eq_some_iff.1 hx).1
 have hsl:s.length≤i:=by rw[hI];simp;omega
 have h1:=hc x hm
 refine Wp.get h1.1 h1.2 fun y hy _=>Wp.app (by simp;omega) (hn _ ?_)
 rw[Zc5 hx,hI]
 simp[cellF,h1.1,hy]
end Go.Proofs.YthgepknlibmjcaaGreat
end
section
namespace Go.Proofs.YthgepknlibmjcaaGreat
open Go.Am
def Z3i (a:List GV) (b:List GV):Option Bool:=
 (bif ((a.length:Int) != (b.length:Int)) then (some false) else (forK (fun (i5:Nat) (x5:GV) (s5:Unit) next_5=>(getK b (i5:Int) fun x6=>(bif (!(x5.kind == x6.kind) || (!(x5.int == x6.int) || (!(x5.text == x6.text)))) then (some false) else (next_5 ())))) (fun (s5:Unit)=>(some true)) a 0 ()))
theorem Zbt (a:List GV) (b:List GV) (r:Bool) (hm:Is (Z3i a b) r):PSpec Tryz.prog 56 [.one (.d (.sl (a.map GV.enc))),.one (.d (.sl (b.map GV.enc)))] (.one (.d (.bool r))):=by
 unfold Z3i at hm
 refine PSpec.of_vc Tryz.func56 rfl (by kernel_rfl) (n:=26) rfl rfl (by simp) ?_
 try simp[*]
 intro hl1
 replace hl1:a.length≤2097152:=by simpa using hl1
 intro hl2
 replace hl2:b.length≤2097152:=by simpa using hl2
 refine r_cond hm ?_ ?_<;>clear hm<;>intro hc3 hm
 ·try simp[*]
  obtain rfl:=r_ret hm
  exact ret0 (vs:=[_]) (by simp[*];try exact rfl) (by simp[*])
 ·try simp[*]
  refine Wait.for (xs:=a) (s0:=()) (fun i5 s5 e5 h5=>e5.n=26∧e5.get 0=.one (.d (.sl (a.map GV.enc)))∧e5.get 1=.one (.d (.sl (b.map GV.enc)))∧e5.get 12=.one (.d (.int .i64 (a.length:Int)))∧e5.get 13=.one (.d (.int .i64 (i5:Int)))) hm (by simp[*]) ?_ ?_
  ·rintro i5 s5 e5 h5 ⟨hn5,h5_0,h5_1,h5_12,h5_13⟩ hlt5 hm
   have hw5:IntKind.i64.wrap ((i5:Int)+1)=(i5:Int)+1:=IntWalk.i64_in _ (by omega)
   try simp[*]
   refine Wait.of (SWP.draw (Plan.then_ [0,1,2,3,4,5,6,7,8] .done) follows (by kernel_rfl) ?_)
   try simp[*,Plan.then_,vcPlan,Z01,Z00,callKind]
   replace hm:=hm.getN
   obtain⟨x6,hxx6,hm⟩:=hm
   try simp[*,Plan.then_,vcPlan,Z01,Z00,callKind]
   refine r_cond hm ?_ ?_<;>clear hm<;>intro hc7 hm
   ·try simp[*]
    obtain rfl:=r_ret hm
    exact ret0 (vs:=[_]) (by simp[*];try exact rfl) (by simp[*])
   ·try simp[*]
    exact BackF.of () ⟨(by simp[*]),hm⟩
  ·rintro s5 e5 h5 ⟨hn5,h5_0,h5_1,h5_12,h5_13⟩ hm
   try simp[*]
   obtain rfl:=r_ret hm
   exact ret0 (vs:=[_]) (by simp[*];try exact rfl) (by simp[*])
def Z29 (a:List (List GV)) (b:List (List GV)):Option Bool:=
 (bif ((a.length:Int) != (b.length:Int)) then (some false) else (forK (fun (i5:Nat) (x5:List GV) (s5:Unit) next_5=>(getK b (i5:Int) fun x6=>(bindK (Z3i x5 x6) fun v7=>(bif !v7 then (some false) else (next_5 ()))))) (fun (s5:Unit)=>(some true)) a 0 ()))
theorem Z7h (a:List (List GV)) (b:List (List GV)) (r:Bool) (hm:Is (Z29 a b) r):PSpec Tryz.prog 19 [.one (.d (.sl (a.map (encL GV.enc)))),.one (.d (.sl (b.map (encL GV.enc))))] (.one (.d (.bool r))):=by
 unfold Z29 at hm
 refine PSpec.of_vc Tryz.func19 rfl (by kernel_rfl) (n:=27) rfl rfl (by simp) ?_
 try simp[*]
 intro hl1
 replace hl1:a.length≤2097152:=by simpa using hl1
 intro hl2
 replace hl2:b.length≤2097152:=by simpa using hl2
 refine r_cond hm ?_ ?_<;>clear hm<;>intro hc3 hm
 ·try simp[*]
  obtain rfl:=r_ret hm
  exact ret0 (vs:=[_]) (by simp[*];try exact rfl) (by simp[*])
 ·try simp[*]
  refine Wait.for (xs:=a) (s0:=()) (fun i5 s5 e5 h5=>e5.n=27∧e5.get 0=.one (.d (.sl (a.map (encL GV.enc))))∧e5.get 1=.one (.d (.sl (b.map (encL GV.enc))))∧e5.get 12=.one (.d (.int .i64 (a.length:Int)))∧e5.get 13=.one (.d (.int .i64 (i5:Int)))) hm (by simp[*]) ?_ ?_
  ·rintro i5 s5 e5 h5 ⟨hn5,h5_0,h5_1,h5_12,h5_13⟩ hlt5 hm
   have hw5:IntKind.i64.wrap ((i5:Int)+1)=(i5:Int)+1:=IntWalk.i64_in _ (by omega)
   try simp[*]
   refine Wait.of (SWP.draw (Plan.then_ [0,1,2,3,4,5,6,7,8,9] .done) follows (by kernel_rfl) ?_)
   try simp[*,Plan.then_,vcPlan,Z01,Z00,callKind]
   replace hm:=hm.getN
   obtain⟨x6,hxx6,hm⟩:=hm
   try simp[*,Plan.then_,vcPlan,Z01,Z00,callKind]
   refine r_call (av:=[.one (.d (.sl ((a[i5]).map GV.enc))),.one (.d (.sl (x6.map GV.enc)))]) hm (fun v hv=>Zbt _ _ v hv) (by simp[*]) ?_
   clear hm;intro v7 hvv7 hm
   try simp[*,Plan.then_,vcPlan,Z01,Z00,callKind]
   try refine⟨fun (_:Lab) (_:List C) hl=>hl,?_⟩
   refine r_cond hm ?_ ?_<;>clear hm<;>intro hc8 hm
   ·try simp[*]
    obtain rfl:=r_ret hm
    exact ret0 (vs:=[_]) (by simp[*];try exact rfl) (by simp[*])
   ·try simp[*]
    exact BackF.of () ⟨(by simp[*]),hm⟩
  ·rintro s5 e5 h5 ⟨hn5,h5_0,h5_1,h5_12,h5_13⟩ hm
   try simp[*]
   obtain rfl:=r_ret hm
   exact ret0 (vs:=[_]) (by simp[*];try exact rfl) (by simp[*])
def Z5m (n:Int):Option GV:=
 (some (GV.mk 1 n ByteArray.empty))
theorem Z8r (n:Int) (r:GV) (hm:Is (Z5m n) r):PSpec Tryz.prog 44 [.one (.d (.int .i64 n))] (.agg (r.enc.map RC.d)):=by
 unfold Z5m at hm
 refine PSpec.of_vc Tryz.func44 rfl (by kernel_rfl) (n:=5) rfl rfl (by simp) ?_
 try simp[*]
 obtain rfl:=r_ret hm
 exact ret0 (vs:=[_]) (by simp[*];try exact rfl) (by simp[*])
def Z4r:Option Gr:=
 (bindK (Z5m 5) fun v2=>(some (Gr.mk (Sch.mk [(Tbl.mk ({ data:=#[116] }) [(Col.mk ({ data:=#[105,100] }) 1 false),(Col.mk ({ data:=#[110] }) 1 false)] [0])] [] []) [(Edg.mk 0 [(Stp.mk 1 ({ data:=#[116] }) ByteArray.empty ({ data:=#[120] }) ByteArray.empty 1 [] ByteArray.empty v2 (Tbl.mk ByteArray.empty [] []) (Cons.mk ByteArray.empty 0 ByteArray.empty 0 (GV.mk 0 0 ByteArray.empty)) (Fk.mk ByteArray.empty [] ByteArray.empty))])])))
theorem Za1  (r:Gr) (hm:Is (Z4r) r):PSpec Tryz.prog 41 [] (.agg (r.enc.map RC.d)):=by
 unfold Z4r at hm
 refine PSpec.of_vc Tryz.func41 rfl (by kernel_rfl) (n:=16) rfl rfl (by simp) ?_
 try simp[*]
 refine r_call (av:=[.one (.d (.int .i64 5))]) hm (fun v hv=>Z8r _ v hv) (by simp[*]) ?_
 clear hm;intro v2 hvv2 hm
 try simp[*]
 obtain rfl:=r_ret hm
 exact ret0 (vs:=[_]) (by simp[*];try exact rfl) (by simp[*])
def Z4x (l:List Int):Option ((List GV)):=
 (forK (fun (i2:Nat) (x2:Int) (s2:(List GV)) next_2=>(bindK (Z5m x2) fun v3=>(appK2 s2 [v3] fun _=>(next_2 (s2++[v3]))))) (fun (s2:(List GV))=>(some s2)) l 0 [])
theorem Z80 (l:List Int) (r:(List GV)) (hm:Is (Z4x l) r):PSpec Tryz.prog 45 [.one (.d (.sl (l.map encI)))] (.one (.d (.sl (r.map GV.enc)))):=by
 unfold Z4x at hm
 refine PSpec.of_vc Tryz.func45 rfl (by kernel_rfl) (n:=19) rfl rfl (by simp) ?_
 try simp[*]
 intro hl1
 replace hl1:l.length≤2097152:=by simpa using hl1
 refine Wait.for (xs:=l) (s0:=[]) (fun i2 s2 e2 h2=>∃ c2_0:C,e2.n=19∧e2.get 3=.one c2_0∧e2.get 6=.one (.d (.sl (l.map encI)))∧e2.get 7=.one (.d (.int .i64 (l.length:Int)))∧e2.get 8=.one (.d (.int .i64 (i2:Int)))∧Grows h2 3 c2_0 (s2.map GV.enc)) hm ⟨.nil,by simp (maxDischargeDepth:=20) [*]⟩ ?_ ?_
 ·rintro i2 s2 e2 h2 ⟨c2_0,hn2,h2_3,h2_6,h2_7,h2_8,gc2_0⟩ hlt2 hm
  have hlc2_0:=gc2_0.list
  have hdc2_0:=gc2_0.toD
  have hac2_0:=gc2_0.toA
  have huc2_0:=gc2_0.useUp_arr
  have hw2:IntKind.i64.wrap ((i2:Int)+1)=(i2:Int)+1:=IntWalk.i64_in _ (by omega)
  try simp[*]
  refine r_call (av:=[.one (.d (.int .i64 (l[i2])))]) hm (fun v hv=>Z8r _ v hv) (by simp[*]) ?_
  clear hm;intro v3 hvv3 hm
  try simp[*]
  refine r_app (xs:=s2) (ys:=[v3]) (enc:=GV.enc) hm Za9 (by first | exact Grows.nil | (simp (maxDischargeDepth:=20) [*];done) | (simp (maxDischargeDepth:=20) [*];refine⟨?_,by omega⟩;intro hq;subst hq;simp at hz2<;>omega)) (by simp[*]) (by decide) (by decide) (fun _=>rfl) ?_
  clear hm;intro hl5 hm g4
  try simp[*]
  exact BackF.of (s2++[v3]) ⟨⟨.own (h2.ep+2,256) ((s2++[v3]).map GV.enc),by simp (maxDischargeDepth:=20) [*]⟩,hm⟩
 ·rintro s2 e2 h2 ⟨c2_0,hn2,h2_3,h2_6,h2_7,h2_8,gc2_0⟩ hm
  have hlc2_0:=gc2_0.list
  have hdc2_0:=gc2_0.toD
  have hac2_0:=gc2_0.toA
  have huc2_0:=gc2_0.useUp_arr
  try simp[*]
  obtain rfl:=r_ret hm
  exact ret0 (vs:=[_]) (by simp[*];try exact rfl) (by simp[*])
def Z0g:Option Bool:=
 (bindK (Z4r) fun v1=>(bindK (Z5m 10) fun v3=>(bindK (Z4x [1,2,5]) fun v4=>(bindK (Z4x [10,2,5]) fun v5=>(bindK (Z0o v1 [(Rule.mk ({ data:=#[97,110,110] }) 1 ({ data:=#[116] }) [1] [(Cons.mk ({ data:=#[116] }) 0 ({ data:=#[60] }) (-1) v3)] false)] ({ data:=#[97,110,110] }) 1 [(Rel.mk ({ data:=#[116] }) [v4,v5])] ({ data:=#[116] })) fun v6=>(bif (v6.2.2 == 0) then (bindK (Z4x [1,2]) fun v8=>(bindK (Z29 v6.1 [v8]) fun v9=>(bif v9 then (bindK (Z12 v6.2.1 [0,1]) fun v11=>(some v11)) else (some false)))) else (some false)))))))
theorem Z1n  (r:Bool) (hm:Is (Z0g) r):PSpec Tryz.prog 14 [] (.one (.d (.bool r))):=by
 unfold Z0g at hm
 refine PSpec.of_vc Tryz.func14 rfl (by kernel_rfl) (n:=43) rfl rfl (by simp) ?_
 try simp[*]
 refine r_call (av:=[]) hm (fun v hv=>Za1  v hv) (by simp[*]) ?_
 clear hm;intro v1 hvv1 hm
 try simp[*]
 refine r_call (av:=[.one (.d (.int .i64 10))]) hm (fun v hv=>Z8r _ v hv) (by simp[*]) ?_
 clear hm;intro v3 hvv3 hm
 try simp[*]
 refine r_call (av:=[.one (.d (.sl ([1,2,5].map encI)))]) hm (fun v hv=>Z80 _ v hv) (by simp[*]) ?_
 clear hm;intro v4 hvv4 hm
 try simp[*]
 refine r_call (av:=[.one (.d (.sl ([10,2,5].map encI)))]) hm (fun v hv=>Z80 _ v hv) (by simp[*]) ?_
 clear hm;intro v5 hvv5 hm
 try simp[*]
 refine r_call (av:=[.agg v1.enc,.one (.d (.sl ([(Rule.mk ({ data:=#[97,110,110] }) 1 ({ data:=#[116] }) [1] [(Cons.mk ({ data:=#[116] }) 0 ({ data:=#[60] }) (-1) v3)] false)].map Rule.enc))),.one (.d (.str ({ data:=#[97,110,110] }))),.one (.d (.int .i64 1)),.one (.d (.sl ([(Rel.mk ({ data:=#[116] }) [v4,v5])].map Rel.enc))),.one (.d (.str ({ data:=#[116] })))]) hm (fun v hv=>Z7d _ _ _ _ _ _ v hv) (by simp[*]) ?_
 clear hm;intro v6 hvv6 hm
 try simp[*]
 refine Z08 hm ?_ ?_<;>clear hm<;>intro hc7 hm
 ·try simp[*]
  refine r_call (av:=[.one (.d (.sl ([1,2].map encI)))]) hm (fun v hv=>Z80 _ v hv) (by simp[*]) ?_
  clear hm;intro v8 hvv8 hm
  try simp[*]
  refine r_call (av:=[.one (.d (.sl (v6.1.map (encL GV.enc)))),.one (.d (.sl ([v8].map (encL GV.enc))))]) hm (fun v hv=>Z7h _ _ v hv) (by simp[*]) ?_
  clear hm;intro v9 hvv9 hm
  try simp[*]
  refine Z08 hm ?_ ?_<;>clear hm<;>intro hc10 hm
  ·try simp[*]
   refine r_call (av:=[.one (.d (.sl (v6.2.1.map encI))),.one (.d (.sl ([0,1].map encI)))]) hm (fun v hv=>Z31 _ _ v hv) (by simp[*]) ?_
   clear hm;intro v11 hvv11 hm
   try simp[*]
   obtain rfl:=r_ret hm
   exact ret0 (vs:=[_]) (by simp[*];try exact rfl) (by simp[*])
  ·try simp[*]
   obtain rfl:=r_ret hm
   exact ret0 (vs:=[_]) (by simp[*];try exact rfl) (by simp[*])
 ·try simp[*]
  obtain rfl:=r_ret hm
  exact ret0 (vs:=[_]) (by simp[*];try exact rfl) (by simp[*])
def Z26 (s_:List Rel) (f:Rel→Option Bool):Option Int:=
 (forK (fun (i2:Nat) (x2:Rel) (s2:Unit) next_2=>(bindK (f x2) fun v3=>(bif v3 then (some (i2:Int)) else (next_2 ())))) (fun (s2:Unit)=>(some (-1))) s_ 0 ())
theorem Z82 (s_:List Rel) (g:FuncId) (caps:List (List D)) (f:Rel→Option Bool) (hf:∀ xa v,Is (f xa) v→PSpec Tryz.prog g (.agg xa.enc::capsOf caps) (.one (.d (.bool v)))) (r:Int) (hm:Is (Z26 s_ f) r):PSpec Tryz.prog 90 [.one (.d (.sl (s_.map Rel.enc))),.one (.fn g caps)] (.one (.d (.int .i64 r))):=by
 unfold Z26 at hm
 refine PSpec.of_vc Tryz.func90 rfl (by kernel_rfl) (n:=19) rfl rfl (by simp) ?_
 try simp[*]
 intro hl1
 replace hl1:s_.length≤2097152:=by simpa using hl1
 refine Wait.for (xs:=s_) (s0:=()) (fun i2 s2 e2 h2=>e2.n=19∧e2.get 0=.one (.d (.sl (s_.map Rel.enc)))∧e2.get 1=.one (.fn g (caps.map Cap.rp))∧e2.get 7=.one (.d (.int .i64 (s_.length:Int)))∧e2.get 8=.one (.d (.int .i64 (i2:Int)))) hm (by simp[*]) ?_ ?_
 ·rintro i2 s2 e2 h2 ⟨hn2,h2_0,h2_1,h2_7,h2_8⟩ hlt2 hm
  have hw2:IntKind.i64.wrap ((i2:Int)+1)=(i2:Int)+1:=IntWalk.i64_in _ (by omega)
  try simp[*]
  refine Z9i (av:=[.agg (s_[i2]).enc]) (cs:=caps) hm (fun v hv=>hf _ v hv) (by simp[*]) (by simp[*]) ?_
  clear hm;intro v3 hvv3 hm
  try simp[*]
  refine r_cond hm ?_ ?_<;>clear hm<;>intro hc4 hm
  ·try simp[*]
   obtain rfl:=r_ret hm
   exact ret0 (vs:=[_]) (by simp[*];try exact rfl) (by simp[*])
  ·try simp[*]
   exact BackF.of () ⟨(by simp[*]),hm⟩
 ·rintro s2 e2 h2 ⟨hn2,h2_0,h2_1,h2_7,h2_8⟩ hm
  try simp[*]
  obtain rfl:=r_ret hm
  exact ret0 (vs:=[_]) (by simp[*];try exact rfl) (by simp[*])
def Z1q (s_:List Rel) (f:Rel→Option Bool):Option Bool:=
 (bindK (Z26 s_ f) fun v1=>(some (decide (0≤v1))))
theorem Z78 (s_:List Rel) (g:FuncId) (caps:List (List D)) (f:Rel→Option Bool) (hf:∀ xa v,Is (f xa) v→PSpec Tryz.prog g (.agg xa.enc::capsOf caps) (.one (.d (.bool v)))) (r:Bool) (hm:Is (Z1q s_ f) r):PSpec Tryz.prog 47 [.one (.d (.sl (s_.map Rel.enc))),.one (.fn g caps)] (.one (.d (.bool r))):=by
 unfold Z1q at hm
 refine PSpec.of_vc Tryz.func47 rfl (by kernel_rfl) (n:=9) rfl rfl (by simp) ?_
 try simp[*]
 refine r_call (av:=[.one (.d (.sl (s_.map Rel.enc))),.one (.fn g caps)]) hm (fun v hv=>Z82 _ g caps _ hf v hv) (by simp[*]) ?_
 clear hm;intro v1 hvv1 hm
 try simp[*]
 obtain rfl:=r_ret hm
 exact ret0 (vs:=[_]) (by simp[*];try exact rfl) (by simp[*])
def Z4y (r_:Rel):Option Bool:=
 (some (decide (40 < (r_.rows.length:Int))))
theorem Zap (r_:Rel) (r:Bool) (hm:Is (Z4y r_) r):PSpec Tryz.prog 48 [.agg r_.enc] (.one (.d (.bool r))):=by
 unfold Z4y at hm
 refine PSpec.of_vc Tryz.func48 rfl (by kernel_rfl) (n:=7) rfl rfl (by simp) ?_
 try simp[*]
 intro hl2
 replace hl2:r_.rows.length≤2097152:=by simpa using hl2
 obtain rfl:=r_ret hm
 exact ret0 (vs:=[_]) (by simp[*];try exact rfl) (by simp[*])
def Z2i (g_:Gr) (db:Db) (changes:List Chg):Option Bool:=
 (bif decide (8 < (g_.edges.length:Int)) then (some false) else (bif decide (9 < (db.insts.length:Int)) then (some false) else (bif decide (9 < (db.comps.length:Int)) then (some false) else (bif decide (50 < (changes.length:Int)) then (some false) else (bindK (Z2x db.comps) fun v11=>(bindK (Z2x [v11,db.insts]) fun v12=>(forK (fun (i14:Nat) (x14:List Rel) (s14:Unit) next_14=>(bif decide (20 < (x14.length:Int)) then (some false) else (bindK (Z1q x14 (fun xa_=>Z4y xa_)) fun v17=>(bif v17 then (some false) else (next_14 ()))))) (fun (s14:Unit)=>(some true)) v12 0 ())))))))
theorem Z81 (g_:Gr) (db:Db) (changes:List Chg) (r:Bool) (hm:Is (Z2i g_ db changes) r):PSpec Tryz.prog 15 [.agg g_.enc,.agg db.enc,.one (.d (.sl (changes.map Chg.enc)))] (.one (.d (.bool r))):=by
 unfold Z2i at hm
 refine PSpec.of_vc Tryz.func15 rfl (by kernel_rfl) (n:=50) rfl rfl (by simp) ?_
 try simp[*]
 intro hl3
 replace hl3:g_.edges.length≤2097152:=by simpa using hl3
 refine Z0b hm ?_ ?_<;>clear hm<;>intro hc4 hm
 ·try simp[*]
  obtain rfl:=r_ret hm
  exact ret0 (vs:=[_]) (by simp[*];try exact rfl) (by simp[*])
 ·try simp[*]
  intro hl5
  replace hl5:db.insts.length≤2097152:=by simpa using hl5
  refine Z0b hm ?_ ?_<;>clear hm<;>intro hc6 hm
  ·try simp[*]
   obtain rfl:=r_ret hm
   exact ret0 (vs:=[_]) (by simp[*];try exact rfl) (by simp[*])
  ·try simp[*]
   intro hl7
   replace hl7:db.comps.length≤2097152:=by simpa using hl7
   refine Z0b hm ?_ ?_<;>clear hm<;>intro hc8 hm
   ·try simp[*]
    obtain rfl:=r_ret hm
    exact ret0 (vs:=[_]) (by simp[*];try exact rfl) (by simp[*])
   ·try simp[*]
    intro hl9
    replace hl9:changes.length≤2097152:=by simpa using hl9
    refine r_cond hm ?_ ?_<;>clear hm<;>intro hc10 hm
    ·try simp[*]
     obtain rfl:=r_ret hm
     exact ret0 (vs:=[_]) (by simp[*];try exact rfl) (by simp[*])
    ·try simp[*]
     refine Wait.of (SWP.draw (Plan.then_ [0,1,3,4,8,2,5,6,7] .done) follows (by kernel_rfl) ?_)
     try simp[*,Plan.then_,vcPlan,Z01,Z00,callKind]
     refine r_call (av:=[.one (.d (.sl (db.comps.map (encL (encL Rel.enc)))))]) hm (fun v hv=>Z67 _ v hv) (by simp[*]) ?_
     clear hm;intro v11 hvv11 hm
     try simp[*,Plan.then_,vcPlan,Z01,Z00,callKind]
     try refine⟨fun (_:Lab) (_:List C) hl=>hl,?_⟩
     refine r_call (av:=[.one (.d (.sl ([v11,db.insts].map (encL (encL Rel.enc)))))]) hm (fun v hv=>Z67 _ v hv) (by simp[*]) ?_
     clear hm;intro v12 hvv12 hm
     try simp[*,Plan.then_,vcPlan,Z01,Z00,callKind]
     try refine⟨fun (_:Lab) (_:List C) hl=>hl,?_⟩
     intro hl13
     replace hl13:v12.length≤2097152:=by simpa using hl13
     refine Wait.for (xs:=v12) (s0:=()) (fun i14 s14 e14 h14=>e14.n=50∧e14.get 36=.one (.d (.sl (v12.map (encL Rel.enc))))∧e14.get 37=.one (.d (.int .i64 (v12.length:Int)))∧e14.get 38=.one (.d (.int .i64 (i14:Int)))) hm (by simp[*]) ?_ ?_
     ·rintro i14 s14 e14 h14 ⟨hn14,h14_36,h14_37,h14_38⟩ hlt14 hm
      have hw14:IntKind.i64.wrap ((i14:Int)+1)=(i14:Int)+1:=IntWalk.i64_in _ (by omega)
      try simp[*]
      intro hl15
      replace hl15:v12[i14].length≤2097152:=by simpa using hl15
      refine Z0b hm ?_ ?_<;>clear hm<;>intro hc16 hm
      ·try simp[*]
       obtain rfl:=r_ret hm
       exact ret0 (vs:=[_]) (by simp[*];try exact rfl) (by simp[*])
      ·try simp[*]
       refine r_call (av:=[.one (.d (.sl ((v12[i14]).map Rel.enc))),.one (.fn 48 [])]) hm (fun v hv=>Z78 _ 48 [] _ (fun xa_ v hv=>Zap xa_ v hv) v hv) (by simp[*]) ?_
       clear hm;intro v17 hvv17 hm
       try simp[*]
       refine r_cond hm ?_ ?_<;>clear hm<;>intro hc18 hm
       ·try simp[*]
        obtain rfl:=r_ret hm
        exact ret0 (vs:=[_]) (by simp[*];try exact rfl) (by simp[*])
       ·try simp[*]
        exact BackF.of () ⟨(by simp[*]),hm⟩
     ·rintro s14 e14 h14 ⟨hn14,h14_36,h14_37,h14_38⟩ hm
      try simp[*]
      obtain rfl:=r_ret hm
      exact ret0 (vs:=[_]) (by simp[*];try exact rfl) (by simp[*])
end Go.Proofs.YthgepknlibmjcaaGreat
end
section
namespace Go.Proofs.YthgepknlibmjcaaGreat
open Go Go.Am
theorem Zcc:∀ (j i:Nat) (ws:List Int),i < ws.length→j≤i→(∀ (a b:Nat) (x y:Int),a < b→b≤i→b≠j→ws[a]?=some x→ws[b]?=some y→x≤y) →
  ∀ (a b:Nat) (x y:Int),a < b→b≤i→(innerS ltI j ws)[a]?=some x→(innerS ltI j ws)[b]?=some y→x≤y
 | 0,i,ws,hi,hj,h=>fun a b x y hab hb hx hy=>h a b x y hab hb (by omega) hx hy
 | j+1,i,ws,hi,hj,h=>by
   unfold innerS
   have e1:ws[j+1]?=some ws[j+1]:=List.getElem?_eq_getElem (by omega)
   have e0:ws[j]?=some ws[j]:=List.getElem?_eq_getElem (by omega)
   generalize ws[j+1]=x1 at e1
   generalize ws[j]=x0 at e0
   rw[e1,e0]
   simp only
   by_cases hlt:ltI x1 x0=true
   ·rw[if_pos hlt]
    have hlt':x1 < x0:=by simpa[ltI] using hlt
    refine Zcc j i _ (by simpa using hi) (by omega) ?_
    have g:∀ (k:Nat) (z:Int),((ws.set (j+1) x0).set j x1)[k]?=some z→(k=j∧z=x1)∨(k=j+1∧z=x0)∨(k≠j∧k≠j+1∧ws[k]?=some z):=by
     intro k z hk
     rcases Nat.decEq k j with h1 | h1
     ·rw[List.getElem?_set_ne (fun h=>h1 h.symm)] at hk
      rcases Nat.decEq k (j+1) with h2 | h2
      ·rw[List.getElem?_set_ne (fun h=>h2 h.symm)] at hk
       exact .inr (.inr ⟨h1,h2,hk⟩)
      ·subst h2
       rw[List.getElem?_set_self (by omega)] at hk
       cases hk
       exact .inr (.inl ⟨rfl,rfl⟩)
     ·subst h1
      rw[List.getElem?_set_self (by simp;omega)] at hk
      cases hk
      exact .inl ⟨rfl,rfl⟩
    intro a b x y hab hb hbj hx hy
    rcases g b y hy with ⟨rfl,rfl⟩ | ⟨rfl,rfl⟩ | ⟨hb1,hb2,hy'⟩
    ·exact absurd rfl hbj
    ·rcases g a x hx with ⟨rfl,rfl⟩ | ⟨rfl,rfl⟩ | ⟨ha1,ha2,hx'⟩
     ·omega
     ·omega
     ·exact h a j x _ (by omega) (by omega) (by omega) hx' e0
    ·rcases g a x hx with ⟨rfl,rfl⟩ | ⟨rfl,rfl⟩ | ⟨ha1,ha2,hx'⟩
     ·exact h (a+1) b _ y (by omega) hb hb2 e1 hy'
     ·exact h j b _ y (by omega) hb hb2 e0 hy'
     ·exact h a b x y hab hb hb2 hx' hy'
   ·rw[if_neg hlt]
    have hge:x0≤x1:=by
     have:¬ (x1 < x0):=by simpa[ltI] using hlt
     omega
    intro a b x y hab hb hx hy
    rcases Nat.decEq b (j+1) with hbj | hbj
    ·exact h a b x y hab hb hbj hx hy
    ·subst hbj
     rw[e1] at hy
     cases hy
     rcases Nat.decEq a j with h1 | h1
     ·have:=h a j x x0 (by omega) (by omega) (by omega) hx e0
      omega
     ·subst h1
      rw[e0] at hx
      cases hx
      exact hge
theorem Zca:∀ (n i:Nat) (ws:List Int),i+n=ws.length→(∀ (a b:Nat) (x y:Int),a < b→b < i→ws[a]?=some x→ws[b]?=some y→x≤y) →
  ∀ (a b:Nat) (x y:Int),a < b→(outerS ltI n i ws)[a]?=some x→(outerS ltI n i ws)[b]?=some y→x≤y
 | 0,i,ws,hn,h=>fun a b x y hab hx hy=>h a b x y hab (by have:=(List.getElem?_eq_some_iff.1 hy).1;simp only[outerS] at this;omega) hx hy
 | n+1,i,ws,hn,h=>by
   rw[outerS]
   have hl:(innerS ltI i ws).length=ws.length:=(Zbn ltI i ws).length_eq
   refine Zca n (i+1) _ (by rw[hl];omega) ?_
   intro a b x y hab hb hx hy
   exact Zcc i i ws (by omega) (Nat.le_refl _) (fun a b x y hab hb hbi hx hy=>h a b x y hab (by omega) hx hy) a b x y hab (by omega) hx hy
theorem Zgz (xs:List Int):(sortI xs).Pairwise (·≤·):=by
 rw[List.pairwise_iff_getElem]
 intro a b ha hb hab
 rcases Nat.eq_zero_or_pos xs.length with h0 | h0
 ·rw[Zog] at ha;omega
 ·exact Zca (xs.length - 1) 1 xs (by omega) (fun a b x y hab hb hx hy=>by omega) a b _ _ hab (List.getElem?_eq_getElem ha) (List.getElem?_eq_getElem hb)
theorem Zof (xs:List Int) (v:Int):v ∈ sortI xs↔v ∈ xs:=(Z9k ltI _ _ xs).mem_iff
theorem dd_mem:∀ (xs:List Int) (v:Int),v ∈ dd xs↔v ∈ xs
 | [],v=>Iff.rfl
 | [x],v=>Iff.rfl
 | x::y::r,v=>by
   have ih:=dd_mem (y::r) v
   simp only[dd]
   split
   ·rename_i h
    subst h
    rw[ih]
    simp
   ·rw[List.mem_cons,ih]
    exact List.mem_cons.symm
theorem dd_asc:∀ (xs:List Int),xs.Pairwise (·≤·)→(dd xs).Pairwise (· < ·)
 | [],_=>List.Pairwise.nil
 | [x],_=>by simp[dd]
 | x::y::r,h=>by
   have h1:=List.pairwise_cons.1 h
   have ih:=dd_asc (y::r) h1.2
   simp only[dd]
   split
   ·exact ih
   ·rename_i hne
    refine List.pairwise_cons.2 ⟨fun z hz=>?_,ih⟩
    rw[dd_mem] at hz
    have h2:=h1.1 y (by simp)
    have h3:y≤z:=by
     rcases List.mem_cons.1 hz with rfl | hz
     ·omega
     ·exact (List.pairwise_cons.1 h1.2).1 z hz
    omega
theorem Ziv (T:Tbl) (r:Rule) (v:Int):v ∈ visC T r↔v ∈ T.pk∨v ∈ r.cols:=by
 unfold visC
 rw[dd_mem,Zof,List.mem_append]
theorem Zpk (T:Tbl) (r:Rule):(visC T r).Pairwise (· < ·):=dd_asc _ (Zgz _)
theorem Zfx {T:Tbl} {r:Rule} (hT:VT T) (hc:∀ c ∈ r.cols,0≤c∧c < T.cols.length):∀ c ∈ visC T r,0≤c∧c < T.cols.length:=fun c h=>by
 rcases (Ziv T r c).1 h with h | h
 ·exact hT.pk c h
 ·exact hc c h
theorem Zpj {T:Tbl} {r:Rule} (hT:VT T) (hc:∀ c ∈ r.cols,0≤c∧c < T.cols.length):(visC T r).length≤T.cols.length:=by
 refine Zp8 (Zfx hT hc) fun i a b ha hb=>?_
 obtain⟨h1,rfl⟩:=List.getElem?_eq_some_iff.1 ha
 obtain⟨h2,rfl⟩:=List.getElem?_eq_some_iff.1 hb
 exact List.pairwise_iff_getElem.1 (Zpk T r) i (i+1) h1 h2 (by omega)
structure Vis (g:Gr) (rules:List Rule) (user:ByteArray) (v:Int) (inst:List Rel) (table:ByteArray) (Ss:List Sch) (S:Sch) (r:Rule) (k:Int) (T:Tbl) (x:Rel):Prop where
 rs:VRs g rules Ss
 v0:0≤v
 s:Ss[v.toNat]?=some S
 cf:CF S inst
 l:lk rules user v table=some r
 vr:VR Ss r S k T
 x:inst[k.toNat]?=some x
 hv:Z0n g rules=some 0
 hs:Z0h g v=some (S,0)
 hc:Z0c S inst=some 0
theorem Zd0 {S:Sch} {a b:ByteArray} (h:strEq a b=true):Z05 S a=Z05 S b:=by
 have hab:a.toList=b.toList:=by simpa[strEq] using h
 have key:∀ (f f':Tbl→Option Bool),(∀ t,f t=f' t)→f=f':=fun f f' h=>funext h
 unfold Z05 Z2w
 rw[key (fun xa_=>Z1e xa_ a) (fun xa_=>Z1e xa_ b) fun t=>by simp[Z1e,strEq,hab]]
theorem Zjj (g:Gr) (hx:∀ e ∈ g.edges,∀ x ∈ e.script,SmallX x) (rules:List Rule) (user:ByteArray) (v:Int) (inst:List Rel) (table:ByteArray) :
  Wp (Z0o g rules user v inst table) fun q=>(q.2.2=0→∃ Ss S r k T x,Vis g rules user v inst table Ss S r k T x∧q.2.1=visC T r∧q.1=(x.rows.filter (mtch r)).map (projF (visC T r))) ∧
   ∀ S r,Z0n g rules=some 0→Z0h g v=some (S,0)→Z0c S inst=some 0→lk rules user v table=some r→q.2.2=0:=by
 have hL:=LIM_eq
 unfold Z0o
 refine Wp.bind (Z90 g hx rules) fun e he1 he=>Wp.cond (fun h=>Wp.ret (And.intro (by intro h0;simp only at h0;rw[h0] at h;cases h) (fun _ _ h9 _ _ _=>by rw[he1] at h9;cases h9;rfl))) fun h1=>?_
 obtain rfl:e=0:=by simpa using h1
 obtain⟨Ss,hR⟩:=he rfl
 refine Wp.bind (Z52 g hx v) fun q hq1 hq=>Wp.cond (fun h=>Wp.ret (And.intro (by intro h0;simp only at h0;rw[h0] at h;cases h) (fun _ _ _ h9 _ _=>by rw[hq1] at h9;cases h9;rfl))) fun h2=>?_
 obtain⟨S,e⟩:=q
 obtain rfl:e=0:=by simpa using h2
 obtain⟨Ss',hss,_,hv0,hSv⟩:=hq rfl
 have:=hR.ss
 rw[this] at hss
 cases hss
 have hSm:=List.mem_of_getElem? hSv
 have hVS:=hR.vs _ hSm
 refine Wp.bind (Zfe S (fun T hT=>(hVS.tab T hT).pk6) inst) fun e he1' he=>Wp.cond (fun h=>Wp.ret (And.intro (by intro h0;simp only at h0;rw[h0] at h;cases h) (fun _ _ _ h8 h9 _=>by rw[hq1] at h8;cases h8;rw[he1'] at h9;cases h9;rfl))) fun h3=>?_
 obtain rfl:e=0:=by simpa using h3
 have hCF:=he rfl
 rw[Z94]
 cases hl:lk rules user v table with
 | none=>exact⟨_,rfl,by simp,fun _ _ _ _ _ h9=>by cases h9⟩
 | some r=>
   have hrm:r ∈ rules:=List.mem_of_find?_eq_some hl
   have hrp:lkP user v table r=true:=List.find?_some hl
   obtain⟨S',k,T,hVR⟩:=hR.r r hrm
   simp only[lkP,Bool.and_eq_true,beq_iff_eq] at hrp
   obtain⟨hu,hrv,hrt⟩:=hrp
   have hS':=hVR.s
   rw[hrv,hSv] at hS'
   cases hS'
   have hft:Z05 S table=some (k,true):=by rw[← Zd0 hrt];exact hVR.ft
   show Wp (bindK (Z05 S table) _) _
   rw[hft]
   have hTm:=List.mem_of_getElem? hVR.t
   have hVT:=hVS.tab T hTm
   have hkl:=(List.getElem?_eq_some_iff.1 hVR.t).1
   have hkl2:k.toNat < inst.length:=by rw[hCF.len];exact hkl
   have hk0:=hVR.k0
   have hkk:k=((k.toNat:Nat):Int):=by omega
   obtain⟨x,hx⟩:∃ x,inst[k.toNat]?=some x:=⟨_,List.getElem?_eq_getElem hkl2⟩
   show Wp (getK S.tables k _) _
   rw[hkk]
   refine Wp.getN hVR.t (Wp.bind (Z9u hVT hVR.cols hVR.asc) fun c _ hc=>Wp.getN hx ?_)
   subst hc
   have hrow:=hCF.row _ _ _ hx hVR.t
   have h24:=hCF.l24 x (List.mem_of_getElem? hx)
   have hvl:=Zpj hVT hVR.cols
   have h6:=hVT.cols6
   refine Wp.for (fun i (s:List (List GV))=>s=((x.rows.take i).filter (mtch r)).map (projF (visC T r))) (by simp) ?_ ?_
   ·intro i row s next hi hm hI hn
    have hil:=(List.getElem?_eq_some_iff.1 hi).1
    have hcr:=hrow row hm
    rw[Zfj hVT.pk hVR.pr hcr.len]
    have htk:x.rows.take (i+1)=x.rows.take i++[row]:=by
     obtain⟨h8,h9⟩:=List.getElem?_eq_some_iff.1 hi
     rw[List.take_succ_eq_append_getElem h8,h9]
    have hsl:s.length≤24:=by
     rw[hI,List.length_map]
     refine Nat.le_trans (List.length_filter_le _ _) ?_
     simp;omega
    show Wp (bif mtch r row then _ else _) _
    refine Wp.cond (fun hb=>Wp.bind (Zmk row (visC T r) (by omega) fun c hc=>by have:=Zfx hVT hVR.cols c hc;have:=hcr.len;omega) fun p _ hp=>Wp.app (by simp;omega) (hn _ ?_)) fun hb=>hn _ ?_
    ·rw[htk,List.filter_append,List.map_append,← hI,hp]
     simp[hb]
    ·rw[htk,List.filter_append,List.map_append,← hI]
     simp[hb]
   ·intro s hs
    rw[List.take_length] at hs
    exact Wp.ret ⟨fun _=>⟨Ss,S,r,k,T,x,⟨hR,hv0,hSv,hCF,hl,hVR,hx,he1,hq1,he1'⟩,rfl,hs⟩,fun _ _ _ _ _ _=>rfl⟩
set_option maxRecDepth 100000 in
theorem Zex:Z0g=some true:=by decide +kernel
theorem Zgu (g:Gr) (inst:List Rel) (changes:List Chg) (hl:inst.length≤2097152):Wp (Z2i g ⟨[inst],[]⟩ changes) fun _=>True:=by
 unfold Z2i Z2x
 refine Wp.cond (fun _=>Wp.ret trivial) fun _=>Wp.cond (fun _=>Wp.ret trivial) fun _=>Wp.cond (fun _=>Wp.ret trivial) fun _=>Wp.cond (fun _=>Wp.ret trivial) fun _=>?_
 refine Wp.bind (R:=fun v=>v=[]) (Wp.chk (by simp) (Wp.ret rfl)) fun v _ hv=>?_
 subst hv
 refine Wp.bind (R:=fun v=>v=[inst]) (Wp.chk (by simp) (Wp.ret rfl)) fun v _ hv=>?_
 refine Wp.for (fun _ _=>True) trivial ?_ fun _ _=>Wp.ret trivial
 intro i x s next _ _ _ hn
 refine Wp.cond (fun _=>Wp.ret trivial) fun _=>Wp.bind (R:=fun _=>True) ?_ fun _ _ _=>Wp.cond (fun _=>Wp.ret trivial) fun _=>hn () trivial
 unfold Z1q Z26
 refine Wp.bind (R:=fun _=>True) ⟨_,Zgc (p:=fun r=>decide (40 < (r.rows.length:Int))) fun x _=>rfl,trivial⟩ fun _ _ _=>Wp.ret trivial
theorem Zp7 (b:ByteArray):(b == b)=true:=by
 cases b with
 | mk d=>
   first
    | exact beq_self_eq_true _
    | (show (d == d)=true;exact beq_self_eq_true d)
theorem Zjk (a:List GV):Wp (Z3i a a) fun b=>b=true:=by
 unfold Z3i
 refine Wp.cond (fun h=>by simp at h) fun _=>Wp.for (fun _ _=>True) trivial ?_ fun _ _=>Wp.ret rfl
 intro i x s next hx _ _ hn
 exact Wp.getN hx (Wp.cond (fun h=>by simp[Zp7] at h) fun _=>hn () trivial)
theorem Zhv (a:List (List GV)):Wp (Z29 a a) fun b=>b=true:=by
 unfold Z29
 refine Wp.cond (fun h=>by simp at h) fun _=>Wp.for (fun _ _=>True) trivial ?_ fun _ _=>Wp.ret rfl
 intro i x s next hx _ _ hn
 refine Wp.getN hx (Wp.bind (Zjk x) fun b _ hb=>Wp.cond (fun h=>by simp[hb] at h) fun _=>hn () trivial)
theorem ba_eq {a b:ByteArray} (h:(a == b)=true):a=b:=by
 cases a with
 | mk d=>cases b with
   | mk e=>
     have h':(d == e)=true:=h
     rw[eq_of_beq h']
theorem Zjc {α:Type} {xs:List α} {f:α→Option Bool} {P:α→Prop} (hf:∀ x ∈ xs,Wp (f x) fun b=>b=true↔P x):Wp (forK (fun (i:Nat) (x:α) (s:Unit) next=>bindK (f x) fun v=>bif v then some (i:Int) else next ()) (fun _=>some (-1)) xs 0 ()) fun k=>(0≤k∧∃ x ∈ xs,P x)∨(k < 0∧∀ x ∈ xs,¬ P x):=by
 refine Wp.mono (Wp.index fun x hx=>(hf x hx).mono fun _ _ _=>trivial) fun k _ hk=>?_
 rcases hk with ⟨rfl,h⟩ | ⟨i,x,rfl,hx,h⟩
 ·refine .inr ⟨by omega,fun x hx hp=>?_⟩
  obtain⟨b,hb,hbp⟩:=hf x hx
  rw[h x hx] at hb
  cases hb
  exact absurd (hbp.2 hp) (by simp)
 ·obtain⟨b,hb,hbp⟩:=hf x (List.mem_of_getElem? hx)
  rw[h] at hb
  cases hb
  exact .inl ⟨by omega,x,List.mem_of_getElem? hx,hbp.1 rfl⟩
abbrev Shown:=Tbl × List (List GV) × List Int
structure Proj (g:Gr) (rules:List Rule) (user:ByteArray) (v:Int) (inst:List Rel) (S:Sch) (L:List Shown):Prop where
 hs:Z0h g v=some (S,0)
 hv:Z0n g rules=some 0
 sub:(L.map (·.1)).Sublist S.tables
 vis:∀ p ∈ L,Z0o g rules user v inst p.1.name=some (p.2.1,p.2.2,0)
def NamesU (S:Sch):Prop:=∀ (i j:Nat) (a b:Tbl),S.tables[i]?=some a→S.tables[j]?=some b→strEq a.name b.name=true→i=j
theorem Zhq (S:Sch):Wp (Z0m S) fun e=>e=0→(∀ T ∈ S.tables,Z0v T=some 0)∧∀ (i:Nat) (a b:Tbl),S.tables[i]?=some a→S.tables[i+1]?=some b→Z7v b.name a.name=false∧strEq b.name a.name=false:=by
 unfold Z0m
 refine Wp.cond (fun _=>Wp.ret (by simp)) fun h1=>Wp.cond (fun _=>Wp.ret (by simp)) fun h2=>Wp.cond (fun _=>Wp.ret (by simp)) fun h3=>?_
 have a1:S.tables.length≤6:=by simp at h1;omega
 have a2:S.fks.length≤8:=by simp at h2;omega
 have a3:S.cons.length≤8:=by simp at h3;omega
 refine Wp.for (fun i _=>(∀ (j:Nat) (T:Tbl),j < i→S.tables[j]?=some T→VT T∧Z0v T=some 0)∧∀ (j:Nat) (a b:Tbl),j+1 < i→S.tables[j]?=some a→S.tables[j+1]?=some b→Z7v b.name a.name=false∧strEq b.name a.name=false) ⟨by intro j T h;omega,by intro j a b h;omega⟩ ?_ ?_
 ·rintro i T s next hx hm ⟨hI,hJ⟩ hn
  have hi:=(List.getElem?_eq_some_iff.1 hx).1
  refine Wp.bind (Za6 T) fun e he0 he=>Wp.cond (fun h=>Wp.ret (by intro h0;simp[h0] at h)) fun h4=>?_
  obtain rfl:e=0:=by simpa using h4
  have hI':=Z33 hI hx ⟨he rfl,he0⟩
  refine Wp.cond (fun h5=>?_) fun h5=>hn () ⟨hI',fun j a b hj=>?_⟩
  ·have h5':0 < i:=by simpa using h5
   refine Wp.chk ⟨by omega,by omega⟩ (Wp.get (by omega) (by omega) fun y hy _=>Wp.cond (fun _=>Wp.ret (by simp)) fun h6=>hn () ⟨hI',fun j a b hj ha hb=>?_⟩)
   rcases Nat.lt_or_ge (j+1) i with h | h
   ·exact hJ j a b h ha hb
   ·obtain rfl:i=j+1:=by omega
    rw[hx] at hb
    rw[show (((j+1:Nat):Int) - 1).toNat=j by omega,ha] at hy
    cases hb
    cases hy
    simpa using h6
  ·have:¬ (0 < i):=by simpa using h5
   omega
 rintro s ⟨hI,hJ⟩
 have hT:=Z5x hI
 refine Wp.for (fun _ _=>True) trivial ?_ ?_
 ·intro i f s next hx hm _ hn
  have hi:=(List.getElem?_eq_some_iff.1 hx).1
  refine Wp.bind (Z7e S (fun T h=>(hT T h).1) f) fun e _ he=>Wp.cond (fun h=>Wp.ret (by intro h0;simp[h0] at h)) fun h4=>?_
  refine Wp.chk ⟨by omega,by omega,by omega⟩ (Wp.bind (Z3f _ _ fun x _=>?_) fun _ _ _=>Wp.cond (fun _=>Wp.ret (by simp)) fun _=>hn () trivial)
  unfold Z3j
  exact Wp.bind (Z3s _ _) fun _ _ _=>Wp.ret trivial
 intro s _
 refine Wp.for (fun _ _=>True) trivial ?_ ?_
 ·intro i f s next hx hm _ hn
  have hi:=(List.getElem?_eq_some_iff.1 hx).1
  refine Wp.bind (Z7f S (fun T h=>(hT T h).1) f) fun e _ he=>Wp.cond (fun h=>Wp.ret (by intro h0;simp[h0] at h)) fun h4=>?_
  exact Wp.chk ⟨by omega,by omega,by omega⟩ (Wp.bind (Za7 _ _) fun _ _ _=>Wp.cond (fun _=>Wp.ret (by simp)) fun _=>hn () trivial)
 intro s _
 exact Wp.ret fun _=>⟨fun T h=>(hT T h).2,fun i a b ha hb=>hJ i a b (List.getElem?_eq_some_iff.1 hb).1 ha hb⟩
theorem Zm4:∀ {a b c:List UInt8},Op.bytesLess a b=true→Op.bytesLess b c=true→Op.bytesLess a c=true:=by
 intro a
 induction a with
 | nil=>
   intro b c h1 h2
   cases c with
   | nil=>cases b<;>simp[Op.bytesLess] at h1 h2
   | cons z c=>simp[Op.bytesLess]
 | cons x a ih=>
   intro b c h1 h2
   cases b with
   | nil=>simp[Op.bytesLess] at h1
   | cons y b=>
     cases c with
     | nil=>simp[Op.bytesLess] at h2
     | cons z c=>
       simp only[Op.bytesLess,Bool.or_eq_true,Bool.and_eq_true,decide_eq_true_eq,beq_iff_eq] at h1 h2 ⊢
       rcases h1 with h1 | ⟨rfl,h1⟩<;>rcases h2 with h2 | ⟨rfl,h2⟩
       ·exact .inl (UInt8.lt_trans h1 h2)
       ·exact .inl h1
       ·exact .inl h2
       ·exact .inr ⟨rfl,ih h1 h2⟩
theorem Zbm:∀ a:List UInt8,Op.bytesLess a a=false
 | []=>rfl
 | x::a=>by simp[Op.bytesLess,Zbm a]
theorem Zfk:∀ {a b:List UInt8},Op.bytesLess a b=false→a≠b→Op.bytesLess b a=true:=by
 intro a
 induction a with
 | nil=>
   intro b h1 h2
   cases b with
   | nil=>exact absurd rfl h2
   | cons y b=>simp[Op.bytesLess] at h1
 | cons x a ih=>
   intro b h1 h2
   cases b with
   | nil=>rfl
   | cons y b=>
     simp only[Op.bytesLess,Bool.or_eq_false_iff,Bool.and_eq_false_iff,decide_eq_false_iff_not,beq_eq_false_iff_ne] at h1
     simp only[Op.bytesLess,Bool.or_eq_true,Bool.and_eq_true,decide_eq_true_eq,beq_iff_eq]
     by_cases hxy:x=y
     ·subst hxy
      exact .inr ⟨rfl,ih (h1.2.resolve_left (fun h=>h rfl)) (fun h=>h2 (by rw[h]))⟩
     ·refine .inl ?_
      have h3:¬ (x.toNat < y.toNat):=fun h=>h1.1 (UInt8.lt_iff_toNat_lt.2 h)
      have h4:x.toNat≠y.toNat:=fun h=>hxy (UInt8.toNat_inj.1 h)
      exact UInt8.lt_iff_toNat_lt.2 (by omega)
theorem Z45 {a b:ByteArray}:strEq a b=true↔a.toList=b.toList:=by simp[strEq]
def NamesA (ts:List Tbl):Prop:=ts.Pairwise fun a b=>Z7v a.name b.name=true
theorem Zt0 {ts:List Tbl} (h:∀ (i:Nat) (a b:Tbl),ts[i]?=some a→ts[i+1]?=some b→Z7v b.name a.name=false∧strEq b.name a.name=false):NamesA ts:=by
 have key:∀ (n i:Nat) (a b:Tbl),ts[i]?=some a→ts[i+1+n]?=some b→Z7v a.name b.name=true:=by
  intro n
  induction n with
  | zero=>
    intro i a b ha hb
    obtain⟨h1,h2⟩:=h i a b ha hb
    refine Zfk h1 fun h3=>?_
    rw[Z45.2 h3] at h2
    cases h2
  | succ n ih=>
    intro i a b ha hb
    have hl:=(List.getElem?_eq_some_iff.1 hb).1
    have hc:ts[i+1+n]?=some ts[i+1+n]:=List.getElem?_eq_getElem (by omega)
    refine Zm4 (ih i a _ ha hc) ?_
    obtain⟨h1,h2⟩:=h (i+1+n) _ b hc hb
    refine Zfk h1 fun h3=>?_
    rw[Z45.2 h3] at h2
    cases h2
 refine List.pairwise_iff_getElem.2 fun i j hi hj hij=>?_
 refine key (j - (i+1)) i _ _ (List.getElem?_eq_getElem hi) ?_
 rw[show i+1+(j - (i+1))=j by omega]
 exact List.getElem?_eq_getElem hj
theorem NamesA.uniq {S:Sch} (h:NamesA S.tables):NamesU S:=by
 intro i j a b ha hb he
 obtain⟨hi,rfl⟩:=List.getElem?_eq_some_iff.1 ha
 obtain⟨hj,rfl⟩:=List.getElem?_eq_some_iff.1 hb
 have e:=Z45.1 he
 rcases Nat.lt_trichotomy i j with h1 | h1 | h1
 ·have h2:Op.bytesLess _ _=true:=List.pairwise_iff_getElem.1 h i j hi hj h1
  rw[e,Zbm] at h2
  cases h2
 ·exact h1
 ·have h2:Op.bytesLess _ _=true:=List.pairwise_iff_getElem.1 h j i hj hi h1
  rw[← e,Zbm] at h2
  cases h2
theorem VS.ord {S:Sch} (h:VS S):NamesA S.tables∧∀ T ∈ S.tables,Z0v T=some 0:=by
 obtain⟨e,he,hp⟩:=Zhq S
 rw[h.ok] at he
 cases he
 exact⟨Zt0 (hp rfl).2,(hp rfl).1⟩
theorem Ztt {g:Gr} {rules:List Rule} {user:ByteArray} {v:Int} {inst:List Rel} {Ss:List Sch} {S:Sch} {r:Rule} {k:Int} {T T':Tbl} {x:Rel} {i:Nat} {nm:ByteArray}
  (h:Vis g rules user v inst nm Ss S r k T' x) (hn:strEq T.name nm=true) (hT:S.tables[i]?=some T):k.toNat=i∧T'=T:=by
 have hU:=((h.rs.vs S (List.mem_of_getElem? h.s)).ord.1).uniq
 obtain⟨q,hq,hp⟩:=Z2g S r.table
 rw[h.vr.ft] at hq
 cases hq
 obtain⟨_,T2,h2,h3⟩:=hp.2.1 rfl
 rw[h.vr.t] at h2
 cases h2
 have hl:lkP user v nm r=true:=List.find?_some h.l
 simp only[lkP,Bool.and_eq_true,beq_iff_eq] at hl
 have e:strEq T'.name T.name=true:=by
  have e1:=Z45.1 h3
  have e2:=Z45.1 hl.2.2
  have e3:=Z45.1 hn
  exact Z45.2 (by rw[e1,e2,e3])
 have hki:=hU _ _ _ _ h.vr.t hT e
 refine⟨hki,?_⟩
 have h4:=h.vr.t
 rw[hki,hT] at h4
 cases h4
 rfl
theorem Zp2 {a b:Int}:cmpI a b < 0↔a < b:=by
 unfold cmpI
 split
 ·simp[*]
 ·split<;>simp[*]
theorem Z76 {a b:Int}:cmpI a b=0↔a=b:=by
 unfold cmpI
 split
 ·simp;omega
 ·split
  ·simp;omega
  ·simp;omega
theorem cb_zero:∀ {a b:List UInt8},Lib.compareBytes a b=0→a=b:=by
 intro a
 induction a with
 | nil=>intro b h;cases b with
   | nil=>rfl
   | cons y b=>simp[Lib.compareBytes] at h
 | cons x a ih=>
   intro b h
   cases b with
   | nil=>simp[Lib.compareBytes] at h
   | cons y b=>
     simp only[Lib.compareBytes] at h
     split at h
     ·simp at h
     ·split at h
      ·simp at h
      ·rename_i h1 h2
       have h3:¬ (x.toNat < y.toNat):=fun h=>h1 (UInt8.lt_iff_toNat_lt.2 h)
       have h4:¬ (y.toNat < x.toNat):=fun h=>h2 (UInt8.lt_iff_toNat_lt.2 h)
       have:x=y:=UInt8.toNat_inj.1 (by omega)
       rw[this,ih h]
theorem Ztb:∀ {a b c:List UInt8},Lib.compareBytes a b < 0→Lib.compareBytes b c < 0→Lib.compareBytes a c < 0:=by
 intro a
 induction a with
 | nil=>
   intro b c h1 h2
   cases c with
   | nil=>cases b<;>simp[Lib.compareBytes] at h1 h2
   | cons z c=>simp[Lib.compareBytes]
 | cons x a ih=>
   intro b c h1 h2
   cases b with
   | nil=>simp[Lib.compareBytes] at h1
   | cons y b=>
     cases c with
     | nil=>simp[Lib.compareBytes] at h2
     | cons z c=>
       simp only[Lib.compareBytes,UInt8.lt_iff_toNat_lt] at h1 h2 ⊢
       split at h1
       ·split at h2
        ·rw[if_pos (by omega)];decide
        ·split at h2
         ·simp at h2
         ·rw[if_pos (by omega)];decide
       ·split at h1
        ·simp at h1
        ·split at h2
         ·rw[if_pos (by omega)];decide
         ·split at h2
          ·simp at h2
          ·rw[if_neg (by omega),if_neg (by omega)]
           exact ih h1 h2
theorem Zp1 {a b:GV}:cmpV a b < 0↔a.kind < b.kind∨(a.kind=b.kind∧(a.int < b.int∨(a.int=b.int∧cmpS a.text b.text < 0))):=by
 unfold cmpV
 by_cases h1:cmpI a.kind b.kind=0
 ·have e1:=Z76.1 h1
  by_cases h2:cmpI a.int b.int=0
  ·have e2:=Z76.1 h2
   simp[e1,e2,cmpI]
  ·have e2:a.int≠b.int:=fun h=>h2 (Z76.2 h)
   rw[if_neg (by simp[h1]),if_pos h2,Zp2]
   simp[e1,e2]
 ·have e1:a.kind≠b.kind:=fun h=>h1 (Z76.2 h)
  rw[if_pos h1,Zp2]
  simp[e1]
theorem Zcg {a b:GV} (h:cmpV a b=0):a=b:=by
 unfold cmpV at h
 by_cases h1:cmpI a.kind b.kind=0
 ·by_cases h2:cmpI a.int b.int=0
  ·rw[if_neg (by simp[h1]),if_neg (by simp[h2])] at h
   have e3:=cb_zero h
   obtain⟨k,n,t⟩:=a
   obtain⟨k',n',t'⟩:=b
   have e1:=Z76.1 h1
   have e2:=Z76.1 h2
   simp only at e1 e2 e3
   subst e1 e2
   have:t=t':=by
    cases t with
    | mk d=>cases t' with
      | mk d'=>
        have:=Array.toList_inj.1 e3
        rw[show d=d' from this]
   rw[this]
  ·rw[if_neg (by simp[h1]),if_pos h2] at h
   exact absurd h h2
 ·rw[if_pos h1] at h
  exact absurd h h1
theorem Zmd {a b c:GV} (h1:cmpV a b < 0) (h2:cmpV b c < 0):cmpV a c < 0:=by
 rw[Zp1] at h1 h2 ⊢
 rcases h1 with h1 | ⟨e1,h1⟩
 ·rcases h2 with h2 | ⟨e2,_⟩
  ·exact .inl (by omega)
  ·exact .inl (by omega)
 ·rcases h2 with h2 | ⟨e2,h2⟩
  ·exact .inl (by omega)
  ·refine .inr ⟨by omega,?_⟩
   rcases h1 with h1 | ⟨f1,h1⟩
   ·rcases h2 with h2 | ⟨f2,_⟩
    ·exact .inl (by omega)
    ·exact .inl (by omega)
   ·rcases h2 with h2 | ⟨f2,h2⟩
    ·exact .inl (by omega)
    ·exact .inr ⟨by omega,Ztb h1 h2⟩
theorem Zb3:∀ {a b c:List GV},cmpR a b < 0→cmpR b c < 0→cmpR a c < 0:=by
 intro a
 induction a with
 | nil=>
   intro b c h1 h2
   cases c with
   | nil=>cases b<;>simp[cmpR] at h1 h2
   | cons z c=>simp[cmpR]
 | cons x a ih=>
   intro b c h1 h2
   cases b with
   | nil=>simp[cmpR] at h1
   | cons y b=>
     cases c with
     | nil=>simp[cmpR] at h2
     | cons z c=>
       simp only[cmpR] at h1 h2 ⊢
       by_cases e1:cmpV x y=0
       ·have:=Zcg e1
        subst this
        rw[if_neg (by simp[e1])] at h1
        by_cases e2:cmpV x z=0
        ·rw[if_neg (by simp[e2])] at h2 ⊢
         exact ih h1 h2
        ·rw[if_pos e2] at h2 ⊢
         exact h2
       ·rw[if_pos e1] at h1
        by_cases e2:cmpV y z=0
        ·have:=Zcg e2
         subst this
         rw[if_pos e1]
         exact h1
        ·rw[if_pos e2] at h2
         have:=Zmd h1 h2
         rw[if_pos (by omega)]
         exact this
def AscP (T:Tbl) (rows:List (List GV)):Prop:=rows.Pairwise fun a b=>cmpR (keyF T a) (keyF T b) < 0
theorem Asc.pw {T:Tbl} {rows:List (List GV)} (h:Asc T rows):AscP T rows:=by
 have key:∀ (n i:Nat) (a b:List GV),rows[i]?=some a→rows[i+1+n]?=some b→cmpR (keyF T a) (keyF T b) < 0:=by
  intro n
  induction n with
  | zero=>intro i a b ha hb;exact h i a b ha hb
  | succ n ih=>
    intro i a b ha hb
    have hl:=(List.getElem?_eq_some_iff.1 hb).1
    have hc:rows[i+1+n]?=some rows[i+1+n]:=List.getElem?_eq_getElem (by omega)
    exact Zb3 (ih i a _ ha hc) (h (i+1+n) _ b hc hb)
 refine List.pairwise_iff_getElem.2 fun i j hi hj hij=>?_
 refine key (j - (i+1)) i _ _ (List.getElem?_eq_getElem hi) ?_
 rw[show i+1+(j - (i+1))=j by omega]
 exact List.getElem?_eq_getElem hj
theorem AscP.asc {T:Tbl} {rows:List (List GV)} (h:AscP T rows):Asc T rows:=by
 intro i a b ha hb
 obtain⟨h1,rfl⟩:=List.getElem?_eq_some_iff.1 ha
 obtain⟨h2,rfl⟩:=List.getElem?_eq_some_iff.1 hb
 exact List.pairwise_iff_getElem.1 h i (i+1) h1 h2 (by omega)
theorem Wp.eq {α:Type} {m:Option α} {v:α} (h:Wp m fun r=>r=v):m=some v:=by
 obtain⟨r,h1,rfl⟩:=h
 exact h1
theorem Zfa {T:Tbl} {row:List GV} (h:CR T row):Z0f T row=some 0:=by
 refine Wp.eq ?_
 unfold Z0f
 have hl:=h.len
 refine Wp.cond (fun h1=>by simp[hl] at h1) fun _=>Wp.for (fun _ _=>True) trivial ?_ fun _ _=>Wp.ret rfl
 intro i x s next hx hm _ hn
 have hi:=(List.getElem?_eq_some_iff.1 hx).1
 have hic:i < T.cols.length:=by omega
 have hcx:T.cols[i]?=some T.cols[i]:=List.getElem?_eq_getElem hic
 obtain⟨h1,h2,h3⟩:=h.cell i x _ hx hcx
 generalize T.cols[i]=c at hcx h2 h3
 rw[h1]
 refine Wp.bind (R:=fun v=>v=0) ⟨_,rfl,rfl⟩ fun v _ hv=>?_
 subst hv
 refine Wp.cond (fun h=>by simp at h) fun _=>Wp.cond (fun h4=>?_) fun h4=>?_
 ·have a4:x.kind=0:=by simpa using h4
  refine Wp.getN hcx (Wp.cond (fun h5=>?_) fun _=>Wp.cond (fun h5=>?_) fun _=>hn () trivial)
  ·rw[h2 a4] at h5;cases h5
  ·simp[a4] at h5
 ·have a4:x.kind≠0:=by simpa using h4
  refine Wp.cond (fun _=>Wp.getN hcx (Wp.cond (fun h5=>?_) fun _=>hn () trivial)) fun _=>hn () trivial
  simp[h3 a4] at h5
theorem Zem {S:Sch} {inst:List Rel} (hS:∀ T ∈ S.tables,T.pk.length≤6) (h:CF S inst):Z0c S inst=some 0:=by
 refine Wp.eq ?_
 unfold Z0c
 have hl:=h.len
 refine Wp.cond (fun h1=>by simp[hl] at h1) fun _=>Wp.for (fun _ _=>True) trivial ?_ fun _ _=>Wp.ret rfl
 intro i x s next hx hm _ hn
 have hi:=(List.getElem?_eq_some_iff.1 hx).1
 have hic:i < S.tables.length:=by omega
 have hcx:S.tables[i]?=some S.tables[i]:=List.getElem?_eq_getElem hic
 have hpk:=hS _ (List.getElem_mem hic)
 have h24:=h.l24 x hm
 generalize S.tables[i]=T at hcx hpk
 have hr:=h.row i x T hx hcx
 have ha:=h.asc i x T hx hcx
 refine Wp.getN hcx (Wp.cond (fun h1=>by rw[h.name i x T hx hcx] at h1;cases h1) fun _=>Wp.cond (fun h1=>?_) fun _=>?_)
 ·have:24 < x.rows.length:=by simp at h1;omega
  omega
 refine Wp.for (fun _ _=>True) trivial ?_ fun _ _=>hn () trivial
 intro k row s next2 hrow hrm _ hn2
 have hk:=(List.getElem?_eq_some_iff.1 hrow).1
 rw[Zfa (hr row hrm)]
 refine Wp.bind (R:=fun v=>v=0) ⟨_,rfl,rfl⟩ fun v _ hv=>?_
 subst hv
 refine Wp.cond (fun h=>by simp at h) fun _=>Wp.cond (fun _=>hn2 () trivial) fun h5=>Wp.chk ⟨by omega,by omega⟩ ?_
 have hk0:k≠0:=by simp at h5;omega
 have hk1:k - 1 < x.rows.length:=by omega
 have hr0:x.rows[k - 1]?=some x.rows[k - 1]:=List.getElem?_eq_getElem hk1
 rw[show (k:Int) - 1=((k - 1:Nat):Int) by omega]
 generalize x.rows[k - 1]=row0 at hr0
 have hlt:=ha (k - 1) row0 row hr0 (by rw[show k - 1+1=k by omega];exact hrow)
 refine Wp.getN hr0 (Wp.bind (w_Key T row0 (by omega)) fun k0 _ h0=>Wp.bind (w_Key T row (by omega)) fun k1 _ h1=>?_)
 subst h0 h1
 refine Wp.bind (Z9f _ _ (by simp[keyF];omega)) fun c _ hc=>?_
 subst hc
 refine Wp.cond (fun h=>?_) fun _=>Wp.cond (fun h=>?_) fun _=>hn2 () trivial
 ·have:cmpR (keyF T row0) (keyF T row)=0:=by simpa using h
  omega
 ·have:0 < cmpR (keyF T row0) (keyF T row):=by simpa using h
  omega
structure CT (T:Tbl):Prop where
 nm:∀ c ∈ T.cols,Z44 c.name=true
 kd:∀ c ∈ T.cols,1≤c.kind∧c.kind≤3
 un:∀ (i j:Nat) (a b:Col),j < i→T.cols[i]?=some a→T.cols[j]?=some b→strEq b.name a.name=false
 nn:∀ p ∈ T.pk,∀ c,T.cols[p.toNat]?=some c→c.nullable=false
theorem Zjm {α:Type} {xs:List α} {p:Nat→α→Prop} {i:Nat} {x:α} (h:∀ (j:Nat) (y:α),j < i→xs[j]?=some y→p j y) (hx:xs[i]?=some x) (hp:p i x):∀ (j:Nat) (y:α),j < i+1→xs[j]?=some y→p j y:=by
 intro j y hj hy
 rcases Nat.lt_or_ge j i with h1 | h1
 ·exact h j y h1 hy
 ·obtain rfl:j=i:=by omega
  rw[hx] at hy
  cases hy
  exact hp
theorem Zeq {row:List GV} {c:Int} (h:0≤c∧c < row.length):row[c.toNat]?=some (cellF row c):=by
 have hl:c.toNat < row.length:=by omega
 unfold cellF
 rw[if_pos h.1,List.getElem?_eq_getElem hl]
 rfl
end Go.Proofs.YthgepknlibmjcaaGreat
end
section
namespace Go.Proofs.YthgepknlibmjcaaGreat
open Go.Am
def Z7g (s_:List GV):Option (List GV):=some s_
theorem Z5l (s_:List GV) (r:List GV) (hm:Is (Z7g s_) r):PSpec Tryz.prog 73 [.one (.d (.sl (s_.map GV.enc)))] (.one (.fresh 0 3 (r.map GV.enc))):=by
 obtain rfl:=r_ret hm
 refine bound1 ⟨_,Tryz.func73,by kernel_rfl,by kernel_rfl⟩ (fun hl=>?_)
 have hxs:∀ x ∈ s_.map GV.enc,x.length=3:=by
  intro x hx
  obtain⟨y,_,rfl⟩:=List.mem_map.1 hx
  rfl
 generalize s_.map GV.enc=xs at *
 refine PSpec.of_vc Tryz.func73 rfl (by kernel_rfl) (n:=8) rfl rfl (by simp) ?_
 simp
 refine Zag Za9 rfl (xs:=xs) rfl (fun b hb=>?_)
 cases b with
 | true=>
   have:xs=[]:=Classical.byContradiction fun h=>by simpa using hb h
   subst this
   simp
   exact Z54 (by simpa using GrowsV.nil)
 | false=>
   simp
   refine Zb1 (by simp) ?_
   simp
   refine Zev Za9 (Grows.own (by simp) (by simp) (by simp)) rfl (by decide) (by decide) hxs (by simpa using hl) ?_
   simp
   exact Z54 (by simpa using GrowsV.app (by simp) (by simp) hxs rfl)
def Z1u (rows:List (List GV)):Option ((List (List GV))):=
 (forK (fun (i2:Nat) (x2:List GV) (s2:(List (List GV))) next_2=>(bindK (Z7g x2) fun v3=>(appK2 s2 [v3] fun _=>(next_2 (s2++[v3]))))) (fun (s2:(List (List GV)))=>(some s2)) rows 0 [])
theorem Zdk (rows:List (List GV)) (r:(List (List GV))) (hm:Is (Z1u rows) r):PSpec Tryz.prog 113 [.one (.d (.sl (rows.map (encL GV.enc))))] (.one (.d (.sl (r.map (encL GV.enc))))):=by
 unfold Z1u at hm
 refine PSpec.of_vc Tryz.func113 rfl (by kernel_rfl) (n:=19) rfl rfl (by simp) ?_
 try simp[*]
 intro hl1
 replace hl1:rows.length≤2097152:=by simpa using hl1
 refine Wait.for (xs:=rows) (s0:=[]) (fun i2 s2 e2 h2=>∃ c2_0:C,e2.n=19∧e2.get 3=.one c2_0∧e2.get 6=.one (.d (.sl (rows.map (encL GV.enc))))∧e2.get 7=.one (.d (.int .i64 (rows.length:Int)))∧e2.get 8=.one (.d (.int .i64 (i2:Int)))∧Grows h2 1 c2_0 (s2.map (encL GV.enc))) hm ⟨.nil,by simp (maxDischargeDepth:=20) [*]⟩ ?_ ?_
 ·rintro i2 s2 e2 h2 ⟨c2_0,hn2,h2_3,h2_6,h2_7,h2_8,gc2_0⟩ hlt2 hm
  have hlc2_0:=gc2_0.list
  have hdc2_0:=gc2_0.toD
  have hac2_0:=gc2_0.toA
  have huc2_0:=gc2_0.useUp_arr
  have hw2:IntKind.i64.wrap ((i2:Int)+1)=(i2:Int)+1:=IntWalk.i64_in _ (by omega)
  try simp[*]
  refine r_call (av:=[.one (.d (.sl ((rows[i2]).map GV.enc)))]) hm (fun v hv=>Z5l _ v hv) (by simp[*]) ?_
  clear hm;intro v3 hvv3 hm
  try simp[*]
  refine r_app (xs:=s2) (ys:=[v3]) (enc:=(encL GV.enc)) hm Z3y (by first | exact Grows.nil | (simp (maxDischargeDepth:=20) [*];done) | (simp (maxDischargeDepth:=20) [*];refine⟨?_,by omega⟩;intro hq;subst hq;simp at hz2<;>omega)) (by simp[*]) (by decide) (by decide) (fun _=>rfl) ?_
  clear hm;intro hl5 hm g4
  try simp[*]
  exact BackF.of (s2++[v3]) ⟨⟨.own (h2.ep+2,256) ((s2++[v3]).map (encL GV.enc)),by simp (maxDischargeDepth:=20) [*]⟩,hm⟩
 ·rintro s2 e2 h2 ⟨c2_0,hn2,h2_3,h2_6,h2_7,h2_8,gc2_0⟩ hm
  have hlc2_0:=gc2_0.list
  have hdc2_0:=gc2_0.toD
  have hac2_0:=gc2_0.toA
  have huc2_0:=gc2_0.useUp_arr
  try simp[*]
  obtain rfl:=r_ret hm
  exact ret0 (vs:=[_]) (by simp[*];try exact rfl) (by simp[*])
def Z4l (inst:List Rel):Option ((List Rel)):=
 (forK (fun (i2:Nat) (x2:Rel) (s2:(List Rel)) next_2=>(bindK (Z1u x2.rows) fun v4=>(appK2 s2 [(Rel.mk x2.table v4)] fun _=>(next_2 (s2++[(Rel.mk x2.table v4)]))))) (fun (s2:(List Rel))=>(some s2)) inst 0 [])
def Z3g (visible:List GV) (row:List GV) (columns:List Int):Option Bool:=
 (forK (fun (i2:Nat) (x2:Int) (s2:Unit) next_2=>(bif decide (visible.length≤i2) then (some false) else (getK visible (i2:Int) fun x5=>(getK row x2 fun x6=>(bif (!(x5.kind == x6.kind) || (!(x5.int == x6.int) || (!(x5.text == x6.text)))) then (some false) else (next_2 ())))))) (fun (s2:Unit)=>(some ((visible.length:Int) == (columns.length:Int)))) columns 0 ())
theorem Z99 (visible:List GV) (row:List GV) (columns:List Int) (r:Bool) (hm:Is (Z3g visible row columns) r):PSpec Tryz.prog 39 [.one (.d (.sl (visible.map GV.enc))),.one (.d (.sl (row.map GV.enc))),.one (.d (.sl (columns.map encI)))] (.one (.d (.bool r))):=by
 unfold Z3g at hm
 refine PSpec.of_vc Tryz.func39 rfl (by kernel_rfl) (n:=37) rfl rfl (by simp) ?_
 try simp[*]
 intro hl1
 replace hl1:columns.length≤2097152:=by simpa using hl1
 refine Wait.for (xs:=columns) (s0:=()) (fun i2 s2 e2 h2=>e2.n=37∧e2.get 0=.one (.d (.sl (visible.map GV.enc)))∧e2.get 1=.one (.d (.sl (row.map GV.enc)))∧e2.get 2=.one (.d (.sl (columns.map encI)))∧e2.get 9=.one (.d (.sl (columns.map encI)))∧e2.get 10=.one (.d (.int .i64 (columns.length:Int)))∧e2.get 11=.one (.d (.int .i64 (i2:Int)))) hm (by simp[*]) ?_ ?_
 ·rintro i2 s2 e2 h2 ⟨hn2,h2_0,h2_1,h2_2,h2_9,h2_10,h2_11⟩ hlt2 hm
  have hw2:IntKind.i64.wrap ((i2:Int)+1)=(i2:Int)+1:=IntWalk.i64_in _ (by omega)
  try simp[*]
  refine Wait.of (SWP.draw (Plan.then_ [0,1,2,3,4,5,6,7,8,9,10,11,12,13,14] .done) follows (by kernel_rfl) ?_)
  try simp[*,Plan.then_,vcPlan,Z01,Z00,callKind]
  intro hl3
  replace hl3:visible.length≤2097152:=by simpa using hl3
  refine Z0b hm ?_ ?_<;>clear hm<;>intro hc4 hm
  ·try simp[*,Plan.then_,vcPlan,Z01,Z00,callKind]
   obtain rfl:=r_ret hm
   exact ret0 (vs:=[_]) (by simp[*];try exact rfl) (by simp[*])
  ·try simp[*,Plan.then_,vcPlan,Z01,Z00,callKind]
   replace hm:=hm.getN
   obtain⟨x5,hxx5,hm⟩:=hm
   try simp[*,Plan.then_,vcPlan,Z01,Z00,callKind]
   replace hm:=hm.get
   obtain⟨x6,h0x6,hxx6,hm⟩:=hm
   try simp[*,Plan.then_,vcPlan,Z01,Z00,callKind]
   refine r_cond hm ?_ ?_<;>clear hm<;>intro hc7 hm
   ·try simp[*]
    obtain rfl:=r_ret hm
    exact ret0 (vs:=[_]) (by simp[*];try exact rfl) (by simp[*])
   ·try simp[*]
    exact BackF.of () ⟨(by simp[*]),hm⟩
 ·rintro s2 e2 h2 ⟨hn2,h2_0,h2_1,h2_2,h2_9,h2_10,h2_11⟩ hm
  try simp[*]
  intro hl8
  replace hl8:visible.length≤2097152:=by simpa using hl8
  obtain rfl:=r_ret hm
  exact ret0 (vs:=[_]) (by simp[*];try exact rfl) (by simp[*])
def Z71 (r_:List GV) (k0:List GV) (k1:List Int):Option Bool:=
 (bindK (Z3g r_ k0 k1) fun v1=>(some v1))
end Go.Proofs.YthgepknlibmjcaaGreat
end
section
namespace Go.Proofs.YthgepknlibmjcaaGreat
open Go Go.Am
theorem Zls (a:ByteArray):strEq a a=true:=Z45.2 rfl
theorem Z79 (rows:List (List GV)) (h:rows.length≤1048576):Wp (Z1u rows) fun r=>r=rows:=by
 have hL:=LIM_eq
 unfold Z1u
 refine Wp.for (fun i (s:List (List GV))=>s=rows.take i) (by simp) ?_ (fun s hs=>Wp.ret (by rw[hs,List.take_length]))
 intro i x s next hx _ hI hn
 have hi:=(List.getElem?_eq_some_iff.1 hx).1
 refine Wp.bind (R:=fun y=>y=x) ⟨x,rfl,rfl⟩ fun y _ hy=>?_
 subst hy
 refine Wp.app (by rw[hI];simp;omega) (hn _ ?_)
 obtain⟨h8,h9⟩:=List.getElem?_eq_some_iff.1 hx
 rw[List.take_succ_eq_append_getElem h8,h9,hI]
theorem Zdg (inst:List Rel) (h:inst.length≤1048576) (hr:∀ x ∈ inst,x.rows.length≤1048576):Wp (Z4l inst) fun r=>r=inst:=by
 have hL:=LIM_eq
 unfold Z4l
 refine Wp.for (fun i (s:List Rel)=>s=inst.take i) (by simp) ?_ (fun s hs=>Wp.ret (by rw[hs,List.take_length]))
 intro i x s next hx hm hI hn
 have hi:=(List.getElem?_eq_some_iff.1 hx).1
 refine Wp.bind (Z79 x.rows (hr x hm)) fun y _ hy=>?_
 subst hy
 refine Wp.app (by rw[hI];simp;omega) (hn _ ?_)
 obtain⟨h8,h9⟩:=List.getElem?_eq_some_iff.1 hx
 rw[List.take_succ_eq_append_getElem h8,h9,hI]
theorem Zcz {α ρ:Type} {xs ys:List α} {i:Int} {K:α→Option ρ} (h:0≤i→xs[i.toNat]?=ys[i.toNat]?):getK xs i K=getK ys i K:=by
 unfold getK
 by_cases h0:0≤i
 ·rw[if_pos h0,if_pos h0,h h0]
 ·rw[if_neg h0,if_neg h0]
theorem Zh0 {T:Tbl} {p:Cons} {a b:List GV} (hT:∀ v ∈ T.pk,0≤v∧v < T.cols.length) (hp:VP T p) (ha:a.length=T.cols.length) (hb:b.length=T.cols.length) (h:∀ c ∈ T.pk,cellF a c=cellF b c):satP p a=satP p b:=by
 have key:∀ c ∈ T.pk,a[c.toNat]?=b[c.toNat]?:=fun c hc=>by
  have h1:=hT c hc
  rw[Zeq ⟨h1.1,by omega⟩,Zeq ⟨h1.1,by omega⟩,h c hc]
 have:Z13 p a=Z13 p b:=by
  unfold Z13
  by_cases h0:0≤p.right
  ·have hr:p.right ∈ T.pk:=by
    rcases hp.right with h1 | h1
    ·omega
    ·exact h1
   simp only[h0,decide_true,cond_true]
   rw[Zcz fun _=>key _ hr]
   congr 1
   funext x
   exact Zcz fun _=>key _ hp.left
  ·simp only[h0,decide_false,cond_false]
   exact Zcz fun _=>key _ hp.left
 unfold satP
 rw[this]
theorem Zfi {T:Tbl} {r:Rule} {a b:List GV} (hT:∀ v ∈ T.pk,0≤v∧v < T.cols.length) (hp:∀ p ∈ r.preds,VP T p) (ha:a.length=T.cols.length) (hb:b.length=T.cols.length) (h:∀ c ∈ T.pk,cellF a c=cellF b c):mtch r a=mtch r b:=by
 unfold mtch
 congr 1
 rw[Bool.eq_iff_iff,List.any_eq_true,List.any_eq_true]
 constructor
 ·rintro⟨p,h1,h2⟩
  exact⟨p,h1,by rw[← Zh0 hT (hp p h1) ha hb h];exact h2⟩
 ·rintro⟨p,h1,h2⟩
  exact⟨p,h1,by rw[Zh0 hT (hp p h1) ha hb h];exact h2⟩
theorem gv_eq {a b:GV} (h:(!(a.kind == b.kind) || (!(a.int == b.int) || !(a.text == b.text)))=false):a=b:=by
 obtain⟨k,n,t⟩:=a
 obtain⟨k',n',t'⟩:=b
 simp only[Bool.or_eq_false_iff,Bool.not_eq_false',beq_iff_eq] at h
 obtain⟨h1,h2,h3⟩:=h
 rw[h1,h2,ba_eq h3]
theorem Zmj (r row:List GV) (cols:List Int) (hin:∀ c ∈ cols,0≤c∧c < row.length):Wp (Z71 r row cols) fun b=>b=true↔r.length=cols.length∧∀ (i:Nat) (c:Int),cols[i]?=some c→r[i]?=some (cellF row c):=by
 unfold Z71
 refine Wp.bind (R:=fun b=>b=true↔r.length=cols.length∧∀ (i:Nat) (c:Int),cols[i]?=some c→r[i]?=some (cellF row c)) ?_ fun b _ hb=>Wp.ret hb
 unfold Z3g
 refine Wp.for (fun i _=>∀ (j:Nat) (c:Int),j < i→cols[j]?=some c→r[j]?=some (cellF row c)) (by intro j c h;omega) ?_ ?_
 ·intro i c s next hx hm hI hn
  have h1:=hin c hm
  refine Wp.cond (fun h=>Wp.ret ?_) fun h=>?_
  ·have hle:r.length≤i:=by simpa using h
   simp only[Bool.false_eq_true,false_iff]
   rintro⟨_,h2⟩
   have:=(List.getElem?_eq_some_iff.1 (h2 i c hx)).1
   omega
  ·have hlt:i < r.length:=by
    have:¬ (r.length≤i):=by simpa using h
    omega
   have hr:r[i]?=some r[i]:=List.getElem?_eq_getElem hlt
   generalize r[i]=y at hr
   have hc:=Zeq h1
   refine Wp.getN hr (Wp.get h1.1 h1.2 fun z hz _=>?_)
   rw[hc] at hz
   cases hz
   refine Wp.cond (fun h=>Wp.ret ?_) fun h=>hn () (Zjm (p:=fun j c=>r[j]?=some (cellF row c)) hI hx (by rw[hr,gv_eq h]))
   simp only[Bool.false_eq_true,false_iff]
   rintro⟨_,h2⟩
   have h3:=h2 i c hx
   rw[hr] at h3
   cases h3
   simp[Zp7] at h
 ·intro s hI
  refine Wp.ret ?_
  have hC:∀ (i:Nat) (c:Int),cols[i]?=some c→r[i]?=some (cellF row c):=fun i c hx=>hI i c (List.getElem?_eq_some_iff.1 hx).1 hx
  constructor
  ·intro h
   exact⟨by have:(r.length:Int)=cols.length:=by simpa using h
            omega,hC⟩
  ·intro h
   simp[h.1]
theorem Zol {cols:List Int} {a b:List GV} (h:∀ (i:Nat) (c:Int),cols[i]?=some c→(projF cols a)[i]?=some (cellF b c)):∀ c ∈ cols,cellF a c=cellF b c:=by
 intro c hc
 obtain⟨i,hi,rfl⟩:=List.getElem_of_mem hc
 have h1:=h i _ (List.getElem?_eq_getElem hi)
 unfold projF at h1
 rw[List.getElem?_map,List.getElem?_eq_getElem hi] at h1
 exact Option.some.inj h1
theorem Ziu {g:Gr} (hx:∀ e ∈ g.edges,∀ x ∈ e.script,SmallX x) {rules:List Rule} {user:ByteArray} {v:Int} {inst:List Rel} {S:Sch} {T:Tbl} {r:Rule} {k:Nat} {x:Rel} (hv:Z0n g rules=some 0) (hs:Z0h g v=some (S,0)) (hc:Z0c S inst=some 0)
  (hT:S.tables[k]?=some T) (hxk:inst[k]?=some x) (hl:lk rules user v T.name=some r) :
  Z0o g rules user v inst T.name=some ((x.rows.filter (mtch r)).map (projF (visC T r)),visC T r,0)∧(∀ p ∈ r.preds,VP T p)∧∀ c ∈ r.cols,0≤c∧c < T.cols.length:=by
 obtain⟨q,hq,h1,h2⟩:=Zjj g hx rules user v inst T.name
 have h0:=h2 S r hv hs hc hl
 obtain⟨Ss,S',r',k',T',x',hV,hcl,hrw⟩:=h1 h0
 have e1:S'=S:=by
  have:=hV.hs
  rw[hs] at this
  cases this
  rfl
 subst e1
 have e2:r'=r:=by
  have:=hV.l
  rw[hl] at this
  cases this
  rfl
 subst e2
 obtain⟨e3,e4⟩:=Ztt hV (Zls _) hT
 subst e4
 have e5:x'=x:=by
  have:=hV.x
  rw[e3,hxk] at this
  cases this
  rfl
 subst e5
 refine⟨?_,hV.vr.pr,hV.vr.cols⟩
 rw[hq]
 obtain⟨a,b,c⟩:=q
 simp only at h0 hcl hrw
 rw[h0,hcl,hrw]
theorem Zpi {g:Gr} {rules:List Rule} {user:ByteArray} {v:Int} {inst:List Rel} {S:Sch} {nm:ByteArray} (hv:Z0n g rules=some 0) (hs:Z0h g v=some (S,0)) (hc:Z0c S inst=some 0) (hl:lk rules user v nm=none) :
  Z0o g rules user v inst nm=some ([],[],17):=by
 unfold Z0o
 rw[hv,hs]
 show (bindK (Z0c S inst) _)=_
 rw[hc,Z94,hl]
 rfl
theorem Zcd (h:HS) (c:C) (xs:List (List C)) (hr:RowAt h 1 c xs) (K:V→HS→Prop)
  (hk:∀ c' h',MR h' 1 c' xs→Same h h' []→(∀ l ∈ labs c',h.ep≤l.1∧l.1 < h'.ep)→BoxLe h h'→K (.one c') h') :
  HSpec Tryz.prog 86 [.one c] h K:=by
 refine HSpec.good Tryz.func86 rfl (by kernel_rfl) fun hg=>?_
 refine HSpec.of_vc Tryz.func86 rfl (by kernel_rfl) (n:=8) rfl rfl (by simp) ?_
 simp
 refine Zg6 Z3y hr (fun h1=>?_) ?_
 ·subst h1
  simp
  exact hk _ _ MR.nil .refl (by simp[labs]) (BoxLe.refl h)
 ·simp
  refine Zdq (by simp) ?_
  simp
  refine Zgn Z3y (by kernel_rfl) (by decide) (by decide) hr (fun c' h' hm hs hl=>?_)
  simp
  exact hk _ _ hm hs hl (hs.boxLe hg)
theorem Zbq (h:HS) (c:C) (xs:List (List C)) (i j:Nat) (hm:MR h 1 c xs) (hij:i≤j) (hj:j≤xs.length) (K:V→HS→Prop)
  (hk:∀ c' h',MR h' 1 c' (xs.take i++xs.drop j)→(∀ l,l ∉ labs c→h'.box l=h.box l)→h'.ep=h.ep→h'.arr=h.arr→labs c'=labs c→K (.one c') h') :
  HSpec Tryz.prog 118 [.one c,.one (.d (.int .i64 i)),.one (.d (.int .i64 j))] h K:=by
 obtain⟨hall,hlim,h1 | ⟨l,cap,sp,rfl,hb,hcap⟩⟩:=hm
 ·obtain⟨rfl,hc⟩:=h1
  obtain rfl:j=0:=by simpa using hj
  obtain rfl:i=0:=by omega
  rcases hc with rfl | rfl
  ·refine HSpec.of_vc Tryz.func118 rfl (by kernel_rfl) (n:=33) rfl rfl (by simp) ?_
   simp
   exact hk _ _ (by simpa using MR.nil) (fun _ _=>rfl) rfl rfl rfl
  ·refine HSpec.of_vc Tryz.func118 rfl (by kernel_rfl) (n:=33) rfl rfl (by simp) ?_
   simp
   exact hk _ _ (by simpa using MR.z) (fun _ _=>rfl) rfl rfl rfl
 ·have hlen:xs.length≤cap:=by
   have h1:=Z04 (sp:=sp) hall
   omega
  have hi:i≤xs.length:=by omega
  refine HSpec.of_vc Tryz.func118 rfl (by kernel_rfl) (n:=33) rfl rfl (by simp) ?_
  simp
  refine Z14 ⟨⟨hij,hj⟩,hlen⟩ (fun _=>?_) (fun _=>?_)
  all_goals
   simp
   refine Z5c (fun he=>?_) (fun hne=>?_)
   ·simp
    have hij':i=j:=by simp at he;omega
    subst hij'
    refine hk _ _ ⟨?_,?_,.inr ⟨l,cap,sp,?_,?_,?_⟩⟩ (fun _ _=>rfl) rfl rfl rfl<;>simp[*]
   ·simp
    have hlt:i < j:=by
     have:(i:Int)≠j:=by simpa using hne
     omega
    have hjc:j≤cap:=by omega
    have hic:i≤cap:=by omega
    have hc0:0 < cap:=by omega
    refine Wait.of (SWP.draw (Plan.then_ [0,1,2,3,4,5,6,7] .done) follows (by kernel_rfl) ?_)
    simp[Plan.then_,vcPlan,Z01,Z00,callKind,hjc,hic,hlen,hj,hc0]
    have fin:∀ (sp1:List C) (h1:HS),(rowBox (xs.take i++xs.drop j) sp1).length=cap * 1→h1.box l=some (rowBox (xs.take i++xs.drop j) sp1)→(∀ k,k≠l→h1.box k=h.box k)→h1.ep=h.ep→h1.arr=h.arr →
      K (.one (.mrow l 0 (i+(xs.length - j)) cap)) h1:=fun sp1 h1 e1 e2 e3 e4 e5=>
     hk _ _ ⟨AllC.append.2 ⟨hall.take,hall.drop⟩,by simp at hlim ⊢;omega,.inr ⟨l,cap,sp1,by simp;omega,e2,e1⟩⟩ (fun k hkl=>e3 k (by simpa[labs] using hkl)) e4 e5 rfl
    have happ:appHdr h 1 (.mrow l 0 i cap)=some (i,cap,(xs.take i).flatten,some (l,0)):=by
     have:=Z4j (off:=0) (k:=i) (cap:=cap) hall hb (by omega)
     simp only[Nat.zero_mul,List.drop_zero] at this
     simp only[appHdr,this]
    have hmul:∀ a b:Nat,a≤b→a * 1≤b * 1:=fun a b h=>by omega
    have hxt:(xs.drop j).take (xs.length - j)=xs.drop j:=List.take_of_length_le (by simp)
    generalize hm:i+(xs.length - j)=m at *
    have hm2:m≤xs.length:=by omega
    have hm3:m < xs.length:=by omega
    have hm4:m < cap:=by omega
    have hyl:(xs.take i++xs.drop j).length=m:=by simp;omega
    have hya:AllC 1 (xs.take i++xs.drop j):=AllC.append.2 ⟨hall.take,hall.drop⟩
    have hzl:∀ k:Nat,(List.replicate k [C.nil]).flatten.length=k * 1:=fun k=>by simp[List.length_flatten]
    by_cases hjc2:j < cap
    ·simp[hjc2]
     refine Z5f Z3y happ (by have:=Z4j (off:=j) (k:=xs.length - j) (cap:=cap - j) hall hb (by omega);rw[hxt] at this;first | exact this | simpa using this) (m:=xs.length - j) rfl (by simp) (by decide) (by decide) (by simp at hlim ⊢;omega) ?_ ?_ (fun h0=>?_) (fun h0 hle=>?_) (fun h0 hgt=>?_)
     ·rw[hall.drop.flatten];simp
     ·rw[hall.take.flatten];simp;omega
     ·have hj2:xs.drop j=[]:=List.drop_eq_nil_of_le (by omega)
      obtain rfl:i=m:=by omega
      have hb2:∃ sp1,h.box l=some (rowBox (xs.take i++xs.drop j) sp1)∧(rowBox (xs.take i++xs.drop j) sp1).length=cap * 1:=by
       refine⟨(xs.drop i).flatten++sp,?_,?_⟩
       ·rw[hb,hj2];simp[rowBox,← List.append_assoc,← List.flatten_append]
       ·rw[← hcap,hj2];simp[rowBox,← List.append_assoc,← List.flatten_append]
      obtain⟨sp1,hb2,hl2⟩:=hb2
      simp[hjc2,hlen,hm2,hm3,hm4]
      refine Z22 Z3y Zdy hb2 (by decide) (by rw[hl2];omega) ?_
      simp
      have e2:∀ vs,Z03 (rowBox (xs.take i++xs.drop j) sp1) (i * 1) vs=rowBox (xs.take i++xs.drop j) (Z03 sp1 0 vs):=fun vs=>by have:=Z3t (sp:=sp1) (vs:=vs) hya;rw[hyl] at this;exact this
      try simp only[Nat.mul_one] at e2
      rw[e2]
      refine fin _ _ ?_ (by simp;rfl) (fun k hk=>by simp[hk]) (by simp) (by simp[HS.setBox])
      rw[Z04 hya,Z07 (by rw[Z04 hya,hyl] at hl2;first | (rw[hzl];omega) | (simp only[List.length_replicate];omega)),← Z04 (sp:=sp1) hya,hl2]
     ·rintro l' off he'
      simp only[Option.some.injEq,Prod.mk.injEq] at he'
      obtain⟨rfl,rfl⟩:=he'
      refine⟨_,hb,by rw[hcap];omega,?_⟩
      rw[Nat.zero_add,Zcp hall hall.drop hi,hm]
      have hl2:(rowBox (xs.take i++xs.drop j) (List.drop ((i+(xs.drop j).length) * 1) (rowBox xs sp))).length=cap * 1:=by
       rw[Z04 hya,hyl,List.length_drop,hcap,List.length_drop];omega
      generalize List.drop ((i+(xs.drop j).length) * 1) (rowBox xs sp)=sp1 at *
      simp[hjc2,hlen,hm2,hm3,hm4]
      refine Z22 Z3y Zdy (by simp;rfl) (by decide) (by rw[hl2];omega) ?_
      simp
      have e2:∀ vs,Z03 (rowBox (xs.take i++xs.drop j) sp1) (m * 1) vs=rowBox (xs.take i++xs.drop j) (Z03 sp1 0 vs):=fun vs=>by have:=Z3t (sp:=sp1) (vs:=vs) hya;rw[hyl] at this;exact this
      try simp only[Nat.mul_one] at e2
      rw[e2]
      refine fin _ _ ?_ (by simp;rfl) (fun k hk=>by simp[hk]) (by simp) (by simp[HS.setBox])
      rw[Z04 hya,Z07 (by rw[Z04 hya,hyl] at hl2;first | (rw[hzl];omega) | (simp only[List.length_replicate];omega)),← Z04 (sp:=sp1) hya,hl2]
     ·omega
    ·simp[hjc2]
     have hj2:xs.drop j=[]:=List.drop_eq_nil_of_le (by omega)
     refine Z5f Z3y happ (new:=[]) (m:=0) (by simp[Z11]) rfl (by simp) (by decide) (by decide) (by simp at hlim ⊢;omega) rfl ?_ (fun h0=>?_) (fun h0=>absurd h0 (by omega)) (fun h0=>absurd h0 (by omega))
     ·rw[hall.take.flatten];simp;omega
     ·obtain rfl:i=m:=by omega
      have hb2:∃ sp1,h.box l=some (rowBox (xs.take i++xs.drop j) sp1)∧(rowBox (xs.take i++xs.drop j) sp1).length=cap * 1:=by
       refine⟨(xs.drop i).flatten++sp,?_,?_⟩
       ·rw[hb,hj2];simp[rowBox,← List.append_assoc,← List.flatten_append]
       ·rw[← hcap,hj2];simp[rowBox,← List.append_assoc,← List.flatten_append]
      obtain⟨sp1,hb2,hl2⟩:=hb2
      simp[hjc2,hlen,hm2,hm3,hm4]
      refine Z22 Z3y Zdy hb2 (by decide) (by rw[hl2];omega) ?_
      simp
      have e2:∀ vs,Z03 (rowBox (xs.take i++xs.drop j) sp1) (i * 1) vs=rowBox (xs.take i++xs.drop j) (Z03 sp1 0 vs):=fun vs=>by have:=Z3t (sp:=sp1) (vs:=vs) hya;rw[hyl] at this;exact this
      try simp only[Nat.mul_one] at e2
      rw[e2]
      refine fin _ _ ?_ (by simp;rfl) (fun k hk=>by simp[hk]) (by simp) (by simp[HS.setBox])
      rw[Z04 hya,Z07 (by rw[Z04 hya,hyl] at hl2;first | (rw[hzl];omega) | (simp only[List.length_replicate];omega)),← Z04 (sp:=sp1) hya,hl2]
theorem Zf6 {h:HS} {lv l:Lab} {vs:List (List D)} {nv ev off k cap:Nat} {cs:List C} (ha:h.arr lv=some (nv,ev)) (hnv:0 < nv) (hb:h.box l=some cs) (h0:0 < cs.length) :
  XSpec Tryz.prog 130 [.one (.own lv vs),.one (.mrow l off k cap)] h (.one (.d (.bool false))):=by
 intro Γ μ w vals hI hR
 obtain⟨hsz,hg⟩:=hR
 obtain⟨u0,hu0,r0⟩:=hg 0 _ rfl
 obtain⟨u1,hu1,r1⟩:=hg 1 _ rfl
 have hv:vals=#[u0,u1]:=by
  apply Array.ext_getElem?
  intro i
  match i with
  | 0=>simpa using hu0
  | 1=>simpa using hu1
  | i+2=>rw[Array.getElem?_eq_none (by simp at hsz;omega)];simp
 subst hv
 obtain⟨_,g,gcap,hlv,rfl⟩:=(show RepC μ (.own lv vs) u0 from r0)
 obtain⟨b,kk,hl,rfl,_⟩:=(show RepC μ (.mrow l off k cap) u1 from r1)
 refine⟨.bool false,?_,RepD.bool _⟩
 rw[run_callFunc_extern (fn:=Tryz.f130) Tryz.func130 (by kernel_rfl) (by kernel_rfl) (by kernel_rfl) (e:=Extern.SlicesOverlaps.overlaps #[52,52] #[4]) (by kernel_rfl)]
 obtain⟨b2,n2,T2,conc2,hl2,_,hh2,hR2,_⟩:=hI.box l cs hb
 rw[hl] at hl2
 cases hl2
 obtain⟨gc,hgc,hrow⟩:=hI.arr lv ev nv ha
 rw[hlv] at hgc
 cases hgc
 cases g with
 | none=>
   have:=(hrow.1 rfl).2
   omega
 | some g=>
   obtain⟨_,T1,cur,hh1,_⟩:=hrow.2 g rfl
   have hne:g≠b:=by
    rintro rfl
    have:=hI.inj lv l g gcap kk (.inr (by rw[ha];simp)) (.inl (by rw[hb];simp)) hlv hl
    subst this
    exact hI.both lv (by rw[hb];simp) (by rw[ha];simp)
   have hcl:conc2.size=cs.length:=hR2.1
   obtain⟨i,z,hu,hi,hsz,_⟩:=Z6h Z3y
   show Result.andThen (Sem.run Tryz.prog (Extern.SlicesOverlaps.overlaps #[52,52] #[4] #[.slice (some ⟨g,0,none⟩) vs.length gcap,.slice (some ⟨b,off,none⟩) k cap]) w) _=_
   rw[Lib.run_overlaps_apart w 52 4 79 hu i.size (fun w=>by simp[sizeOf,typeInfo,hi]) ⟨g,0,none⟩ ⟨b,off,none⟩ vs.length gcap k cap hne T1 T2 cur.size conc2.size (by simp[World.shape?,hh1]) (by simp[World.shape?,hh2]) (by omega) (by simp[World.frozen?,hh1]) (by simp[World.frozen?,hh1])]
   rfl
def ones (rs:List C):List (List C):=rs.map fun r=>[r]
theorem Zh8:∀ rs:List C,(ones rs).flatten=rs
 | []=>rfl
 | r::rs=>by
   have:=Zh8 rs
   simp only[ones] at this
   simp[ones,this]
theorem Zsz (rs:List C):AllC 1 (ones rs):=by
 intro x hx
 obtain⟨y,_,rfl⟩:=List.mem_map.1 hx
 rfl
theorem Zdo (rs:List C):(ones rs).length=rs.length:=by simp[ones]
theorem Zdp (rs sp:List C):rowBox (ones rs) sp=rs++sp:=by rw[rowBox,Zh8]
theorem Zi9 {h:HS} {l:Lab} {cap:Nat} {rs sp:List C} (hb:h.box l=some (rs++sp)) (hl:rs.length+sp.length=cap) (hlim:rs.length≤2097152):MR h 1 (.mrow l 0 rs.length cap) (ones rs):=
 ⟨Zsz rs,by rw[Zdo];exact hlim,.inr ⟨l,cap,sp,by rw[Zdo],by rw[Zdp];exact hb,by rw[Zdp];simp[hl]⟩⟩
theorem Zcr {h:HS} {l:Lab} {cs:List C} {off k cap:Nat} (hb:h.box l=some cs) (hk:off+k≤cs.length):Z11 h 1 (.mrow l off k cap)=some ((cs.drop off).take k):=by
 simp only[Z11,hb,takeN,Nat.mul_one]
 rw[if_pos (by simp;omega)]
theorem Z6x {a b vs:List C} {n:Nat} (hn:n=a.length):Z03 (a++b) n vs=a++vs++b.drop vs.length:=by
 subst hn
 simp[Z03,List.append_assoc]
theorem Zcf {P:Program} {ty el:TypeId} {n by_ off k cap m mk:Nat} {l:Lab} {x:C} {h:HS} {new cs cs':List C} {f:V→HS→Prop} (hel:elT P ty=some (el,n,by_)) (hx:Z11 h n x=some new) (hm:cLen x=some m) (hb:h.box l=some cs) (h0:0 < n) (hnew:new.length=m * n) (hfit:off+k * n≤cs.length)
  (hmk:min m k=mk) (hcs:Z03 cs off (new.take (mk * n))=cs') (hk:f (dint .i64 (mk:Int)) (h.setBox l cs')):copyK P ty (.mrow l off k cap) x h (K:=⟨f⟩):=by
 unfold copyK vcCopy
 simp only[hel,hx,hm,hb]
 refine⟨⟨h0,hnew,hfit⟩,?_⟩
 rw[hmk,hcs]
 exact hk
set_option maxHeartbeats 2000000 in
theorem Zbp (h:HS) (c:C) (rs:List C) (lv:Lab) (d:List D) (i:Nat) (hm:MR h 1 c (ones rs)) (hlb:∀ k ∈ labs c,k.1 < h.ep) (hi:i≤rs.length) (ha:h.arr lv=some (1,1)) (hd:d.length=1) (hlim:rs.length+1≤2097152) (K:V→HS→Prop)
  (hk:∀ c' h',MR h' 1 c' (ones (rs.take i++d.map C.d++rs.drop i))→Same h h' (labs c)→(∀ k ∈ labs c',k ∈ labs c∨(h.ep≤k.1∧k.1 < h'.ep))→K (.one c') h') :
  HSpec Tryz.prog 117 [.one c,.one (.d (.int .i64 (i:Int))),.one (.own lv [d])] h K:=by
 obtain⟨v,rfl⟩:∃ v,d=[v]:=by
  match d,hd with
  | [v],_=>exact⟨v,rfl⟩
 refine HSpec.of_vc Tryz.func117 rfl (by kernel_rfl) (n:=95) rfl rfl (by simp) ?_
 rcases hm.2.2 with ⟨h1,hcz⟩ | ⟨l,cap,sp,rfl,hb,hcap⟩
 ·have hrs:rs=[]:=by simpa[ones] using h1
  subst hrs
  obtain rfl:i=0:=by simpa using hi
  rcases hcz with rfl | rfl
  all_goals
   simp
   refine app_mr Z3y (by kernel_rfl) (by decide) (by decide) hm (RowAt.own1 rfl) (by simp[ones]) (fun c' h' hm' hs' hl'=>?_)
   simp
   exact hk _ _ (by simpa[ones] using hm') hs' hl'
 ·rw[Zdp] at hb hcap
  rw[Zdo] at hm hk ⊢
  simp only[List.length_append,Nat.mul_one] at hcap
  simp
  refine Z14 ⟨by omega,by omega⟩ (fun _=>?_) (fun _=>?_)
  all_goals
   simp
   refine Z5c (fun he=>?_) (fun he=>?_)
   ·have hir:i=rs.length:=by simp at he;omega
    subst hir
    simp
    refine app_mr Z3y (by kernel_rfl) (by decide) (by decide) hm (RowAt.own1 rfl) (by simp[ones];omega) (fun c' h' hm' hs' hl'=>?_)
    simp
    exact hk _ _ (by simpa[ones] using hm') hs' hl'
   ·have hir:i < rs.length:=by
     have:(i:Int)≠rs.length:=by simpa using he
     omega
    have hw1:IntKind.i64.wrap ((rs.length:Int)+1)=(rs.length:Int)+1:=IntWalk.i64_in _ (by omega)
    have hw2:IntKind.i64.wrap ((i:Int)+1)=(i:Int)+1:=IntWalk.i64_in _ (by omega)
    simp[hw1]
    refine Zp5 Z3y ?_
    simp[hw1,hw2]
    refine Z15 (fun hlt=>?_) (fun hge=>?_)
    ·have hlt':cap < rs.length+1:=by omega
     have hic:i≤cap:=by omega
     have hc0:0 < cap:=by omega
     have hw3:IntKind.i64.wrap ((rs.length:Int)+1 - i)=(rs.length:Int)+1 - i:=IntWalk.i64_in _ (by omega)
     simp[hw1,hw2,hw3]
     refine Z14 (by omega) (fun _=>?_) (fun h9=>absurd hc0 (by simpa using h9))
     simp[hw1,hw2,hw3]
     have hN:i+((rs.length:Int)+1 - i).toNat=rs.length+1:=by omega
     refine Zmi Z3y (by decide) (kk:=.i64) rfl (by kernel_rfl) (by decide) (by decide) (by omega) (by show (i:Int)+_≤2097152;omega) (by omega) (old:=rs.take i) (by rw[Zcr hb (by simp;omega),List.drop_zero,List.take_append_of_le_length hi]) (by simp;omega) (fun cap' hcap'=>?_)
     rw[hN] at hcap' ⊢
     have hic':i < cap':=by omega
     simp[hw1,hw2,hw3]
     refine Z14 (by omega) (fun _=>?_) (fun h9=>absurd hic' (by simpa using h9))
     simp[hw1,hw2,hw3]
     have htl:(rs.take i).length=i:=by simp;omega
     have hlen:(rs.take i++[C.d v]++rs.drop i).length=rs.length+1:=by simp;omega
     have hz:(0:Int)≤(i:Int)+1:=by omega
     refine Zcf (n:=1) (new:=[.d v]) (m:=1) (mk:=1) (cs':=rs.take i++[.d v]++List.replicate (cap' - i - 1) .any) Z3y (by simp[Z11,C.list?]) (by simp[cLen,C.list?]) (by simp;rfl) (by decide) rfl (by simp;omega) (by omega) (by rw[Z6x htl.symm];simp) ?_
     simp[hw1,hw2,hw3]
     refine Wait.cut (Plan.then_ [0,1,2,3,4,5,6,7,8] .done) follows (by kernel_rfl) (fun e1 h1=>e1.n=95∧e1.get 9=.one (.mrow (h.ep,640) 0 (rs.length+1) cap')∧h1.box (h.ep,640)=some (rs.take i++[.d v]++rs.drop i++List.replicate (cap' - (rs.length+1)) .any)∧Same h h1 []∧h.ep < h1.ep) ?_ ?_
     ·simp[hw1,hw2,hw3,Plan.then_,vcPlan,Z01,Z00,callKind]
      simp only[hz,if_true]
      refine Z14 (by simp;omega) (fun _=>?_) (fun h9=>absurd (show i+1 < cap' by omega) (by simpa using h9))
      simp[hw1,hw2,hw3,Plan.then_,vcPlan,Z01,Z00,callKind]
      refine Z14 (by omega) (fun _=>?_) (fun h9=>absurd (show i < cap by omega) (by simpa using h9))
      simp[hw1,hw2,hw3,Plan.then_,vcPlan,Z01,Z00,callKind]
      have hll:l.1 < h.ep:=hlb l (by simp[labs])
      have hne:l≠(h.ep,640):=by rintro rfl;simp at hll
      have htl2:(rs.take i++[C.d v]).length=i+1:=by simp;omega
      have hdi:((rs++sp).drop i).take (rs.length - i)=rs.drop i:=by
       rw[List.drop_append_of_le_length hi,List.take_append_of_le_length (by simp)]
       exact List.take_of_length_le (by simp)
      refine Zcf (n:=1) (new:=rs.drop i) (m:=rs.length - i) (mk:=rs.length - i) (cs:=rs.take i++[.d v]++List.replicate (cap' - i - 1) .any) (cs':=rs.take i++[.d v]++rs.drop i++List.replicate (cap' - (rs.length+1)) .any) Z3y
       (by rw[Zcr (cs:=rs++sp) (by simp[hne,hb]) (by simp;omega),hdi]) rfl (by simp) (by decide) (by simp) (by simp;omega) (by omega) ?_ ?_
      ·have e9:cap' - i - 1 - (rs.length - i)=cap' - (rs.length+1):=by omega
       have e10:(rs.drop i).take ((rs.length - i) * 1)=rs.drop i:=List.take_of_length_le (by simp)
       rw[e10,Z6x htl2.symm]
       simp[e9]
      ·refine CutK.of ?_
       simp
       exact (((Same.refl.setBox (.inr (by simp))).next).setBox (.inr (by simp))).setBox (.inr (by simp))
     ·rintro e1 h1 ⟨hn,h9,hb1,hs1,he1⟩
      simp[hn,h9]
      refine hk _ _ ?_ (hs1.mono (by simp)) (by simp[labs];exact .inr (by omega))
      have:=Zi9 (cap:=cap') hb1 (by simp;omega) (by simp;omega)
      rw[hlen] at this
      simpa using this
    ·have hge':rs.length+1≤cap:=by omega
     have hic:i < cap:=by omega
     have hz:(0:Int)≤(rs.length:Int)+1:=by omega
     have hz2:(0:Int)≤(i:Int)+1:=by omega
     have hN:((rs.length:Int)+1).toNat=rs.length+1:=by omega
     simp[hw1,hw2,hz,hz2,hN]
     refine Z14 (by omega) (fun _=>?_) (fun h9=>absurd (show 0 < cap by omega) (by simpa using h9))
     simp[hw1,hw2,hz,hz2,hN]
     refine Z14 (by omega) (fun _=>?_) (fun h9=>absurd (show i+1 < cap by omega) (by simpa using h9))
     simp[hw1,hw2,hz,hz2,hN]
     refine callK_x (Zf6 ha (by decide) hb (by simp;omega)) ?_
     simp[hw1,hw2,hz,hz2,hN]
     obtain⟨s0,sp1,hsp⟩:∃ s0 sp1,sp=s0::sp1:=by
      match sp,hcap with
      | [],h9=>simp at h9;omega
      | s0::sp1,_=>exact⟨s0,sp1,rfl⟩
     subst hsp
     simp only[List.length_cons] at hcap
     have hll:l.1 < h.ep:=hlb l (by simp[labs])
     have htl:(rs.take i).length=i:=by simp;omega
     have htl2:(rs.take (i+1)).length=i+1:=by simp;omega
     have hsrc:((rs++s0::sp1).drop i).take (rs.length+1 - i)=rs.drop i++[s0]:=by
      rw[List.drop_append_of_le_length hi,List.take_append]
      rw[List.take_of_length_le (by simp;omega)]
      have:rs.length+1 - i - (rs.drop i).length=1:=by simp;omega
      rw[this]
      rfl
     refine Wait.cut (Plan.then_ [0,1,2,3,4,5,6,7,8] .done) follows (by kernel_rfl) (fun e1 h1=>e1.n=95∧e1.get 0=.one (.mrow l 0 (rs.length+1) cap)∧e1.get 1=.one (.d (.int .i64 (i:Int)))∧e1.get 2=.one (.own lv [[v]])∧h1.box l=some (rs.take (i+1)++rs.drop i++sp1)∧Same h h1 [l]) ?_ ?_
     ·simp[hw1,hw2,hz,hz2,hN,Plan.then_,vcPlan,Z01,Z00,callKind]
      refine Z14 (by omega) (fun _=>?_) (fun h9=>absurd (show i+1 < cap by omega) (by simpa using h9))
      simp[hw1,hw2,hz,hz2,hN,Plan.then_,vcPlan,Z01,Z00,callKind]
      refine Z14 (by omega) (fun _=>?_) (fun h9=>absurd (show i < cap by omega) (by simpa using h9))
      simp[hw1,hw2,hz,hz2,hN,Plan.then_,vcPlan,Z01,Z00,callKind]
      refine Zcf (n:=1) (new:=rs.drop i++[s0]) (m:=rs.length+1 - i) (mk:=rs.length - i) (cs:=rs++s0::sp1) (cs':=rs.take (i+1)++rs.drop i++sp1) Z3y
       (by rw[Zcr (cs:=rs++s0::sp1) (by simp[hb]) (by simp;omega),hsrc]) rfl (by simp[hb]) (by decide) (by simp;omega) (by simp;omega) (by omega) ?_ ?_
      ·have e10:(rs.drop i++[s0]).take ((rs.length - i) * 1)=rs.drop i:=by
        rw[Nat.mul_one,List.take_append_of_le_length (by simp),List.take_of_length_le (by simp)]
       have e11:rs++s0::sp1=rs.take (i+1)++(rs.drop (i+1)++s0::sp1):=by
        rw[← List.append_assoc,List.take_append_drop]
       have e12:(rs.drop (i+1)++s0::sp1).drop (rs.drop i).length=sp1:=by
        have:(rs.drop i).length=(rs.drop (i+1)).length+1:=by simp;omega
        rw[this,← List.drop_drop,List.drop_left]
        rfl
       rw[e10,e11,Z6x htl2.symm,e12]
      ·refine CutK.of ?_
       simp
       exact Same.refl.setBox (.inl (by simp))
     ·rintro e1 h1 ⟨hn,h0,h1',h2,hb1,hs1⟩
      simp[hn,h0,h1',h2]
      refine Z14 (by omega) (fun _=>?_) (fun h9=>absurd hic (by simpa using h9))
      simp[hn,h0,h1',h2]
      refine Zcf (n:=1) (new:=[.d v]) (m:=1) (mk:=1) (cs:=rs.take (i+1)++rs.drop i++sp1) (cs':=rs.take i++[.d v]++rs.drop i++sp1) Z3y (by simp[Z11,C.list?]) (by simp[cLen,C.list?]) (by simp[hb1]) (by decide) rfl (by simp;omega) (by omega) ?_ ?_
      ·have e13:rs.take (i+1)++rs.drop i++sp1=rs.take i++(rs[i]::(rs.drop i++sp1)):=by
        rw[List.take_succ_eq_append_getElem hir,List.append_assoc,List.append_assoc]
        rfl
       rw[e13,Z6x htl.symm]
       simp
      ·simp[hn,h0]
       refine hk _ _ ?_ ((hs1.setBox (.inl (by simp))).mono (by simp[labs])) (by simp[labs])
       have hlen:(rs.take i++[C.d v]++rs.drop i).length=rs.length+1:=by simp;omega
       have:=Zi9 (h:=h1.setBox l (rs.take i++[C.d v]++rs.drop i++sp1)) (l:=l) (cap:=cap) (rs:=rs.take i++[C.d v]++rs.drop i) (sp:=sp1) (by simp) (by rw[hlen];omega) (by rw[hlen];omega)
       rw[hlen] at this
       simpa using this
end Go.Proofs.YthgepknlibmjcaaGreat
end
section
namespace Go.Proofs.YthgepknlibmjcaaGreat
open Go.Am
def Z49 (t:Tbl) (rows:List (List GV)) (key:List GV):Option (Int × Bool):=
 (forK (fun (i3:Nat) (x3:List GV) (s3:Unit) next_3=>(bindK (Z2k t x3) fun v4=>(bindK (Z2h v4 key) fun v5=>(bif decide (0≤v5) then (some ((i3:Int),(v5 == 0))) else (next_3 ()))))) (fun (s3:Unit)=>(some ((rows.length:Int),false))) rows 0 ())
theorem Zas (t:Tbl) (rows:List (List GV)) (key:List GV) (r:Int × Bool) (hm:Is (Z49 t rows key) r):PSpec Tryz.prog 116 [.agg t.enc,.one (.d (.sl (rows.map (encL GV.enc)))),.one (.d (.sl (key.map GV.enc)))] (.tup [.one (.d (.int .i64 r.1)),.one (.d (.bool r.2))]):=by
 unfold Z49 at hm
 refine PSpec.of_vc Tryz.func116 rfl (by kernel_rfl) (n:=31) rfl rfl (by simp) ?_
 try simp[*]
 intro hl2
 replace hl2:rows.length≤2097152:=by simpa using hl2
 refine Wait.for (xs:=rows) (s0:=()) (fun i3 s3 e3 h3=>e3.n=31∧e3.get 1=.one (.d (.sl (rows.map (encL GV.enc))))∧e3.get 2=.one (.d (.sl (key.map GV.enc)))∧e3.get 3=.one (.ptr (0,48) 0)∧e3.get 11=.one (.d (.sl (rows.map (encL GV.enc))))∧e3.get 12=.one (.d (.int .i64 (rows.length:Int)))∧e3.get 13=.one (.d (.int .i64 (i3:Int)))∧h3.box (0,48)=some [.d (.str t.name),.d (.sl (t.cols.map Col.enc)),.d (.sl (t.pk.map encI))]) hm (by simp[*]) ?_ ?_
 ·rintro i3 s3 e3 h3 ⟨hn3,h3_1,h3_2,h3_3,h3_11,h3_12,h3_13,hb3_b1⟩ hlt3 hm
  have hw3:IntKind.i64.wrap ((i3:Int)+1)=(i3:Int)+1:=IntWalk.i64_in _ (by omega)
  try simp[*]
  refine r_call (av:=[.agg t.enc,.one (.d (.sl ((rows[i3]).map GV.enc)))]) hm (fun v hv=>Z5s _ _ v hv) (by simp[*]) ?_
  clear hm;intro v4 hvv4 hm
  try simp[*]
  refine r_call (av:=[.one (.d (.sl (v4.map GV.enc))),.one (.d (.sl (key.map GV.enc)))]) hm (fun v hv=>Z7z _ _ v hv) (by simp[*]) ?_
  clear hm;intro v5 hvv5 hm
  try simp[*]
  refine r_cond hm ?_ ?_<;>clear hm<;>intro hc6 hm
  ·try simp[*]
   obtain rfl:=r_ret hm
   exact ret0 (vs:=[_,_]) (by simp[*];try exact⟨rfl,rfl⟩) (by simp[*])
  ·try simp[*]
   exact BackF.of () ⟨(by simp[*]),hm⟩
 ·rintro s3 e3 h3 ⟨hn3,h3_1,h3_2,h3_3,h3_11,h3_12,h3_13,hb3_b1⟩ hm
  try simp[*]
  obtain rfl:=r_ret hm
  exact ret0 (vs:=[_,_]) (by simp[*];try exact⟨rfl,rfl⟩) (by simp[*])
end Go.Proofs.YthgepknlibmjcaaGreat
end
section
namespace Go.Proofs.YthgepknlibmjcaaGreat
open Go Go.Am
def rowc (row:List GV):C:=.d (.sl (row.map GV.enc))
theorem Z9w (h:HS) (rows out:List (List GV)) (hm:Is (Z1u rows) out) (K:V→HS→Prop)
  (hk:∀ c h',MR h' 1 c (ones (out.map rowc))→Same h h' []→(∀ k ∈ labs c,h.ep≤k.1∧k.1 < h'.ep)→K (.one c) h') :
  HSpec Tryz.prog 113 [.one (.d (.sl (rows.map (encL GV.enc))))] h K:=by
 unfold Z1u at hm
 refine HSpec.of_vc Tryz.func113 rfl (by kernel_rfl) (n:=19) rfl rfl (by simp) ?_
 simp
 intro hil
 refine Wait.for (xs:=rows) (s0:=[]) (fun i s e h'=>∃ c,e.n=19∧e.get 3=.one c∧e.get 6=.one (.d (.sl (rows.map (encL GV.enc))))∧e.get 7=.one (.d (.int .i64 (rows.length:Int)))∧e.get 8=.one (.d (.int .i64 (i:Int)))∧MR h' 1 c (ones (s.map rowc))∧Same h h' []∧∀ k ∈ labs c,h.ep≤k.1∧k.1 < h'.ep) hm ⟨.nil,by simp,by simp,by simp,by simp,by simp,by simpa[ones] using MR.nil,.refl,by simp[labs]⟩ ?_ ?_
 ·rintro i s e h' ⟨c,hn,h3,h6,h7,h8,hmr,hs,hl⟩ hlt hm
  have hw:IntKind.i64.wrap ((i:Int)+1)=(i:Int)+1:=IntWalk.i64_in _ (by omega)
  obtain⟨row,hrow,hm⟩:=hm.bind
  obtain⟨hap,hm⟩:=hm.chk
  have hr:row=rows[i]:=(r_ret hrow).symm
  simp[hn,h3,h6,h7,h8,hlt]
  refine Z3e (Z5l _ row hrow) (by simp) ?_
  simp[hn,h3,h6,h7,h8,hlt]
  have hs2:Same h' ((h'.setArr (h'.ep,225) (some (row.length,3))).next.setArr (h'.ep+1,240) (some (1,1))).next []:=((Same.refl.setArr).next.setArr).next
  refine app_mr Z3y (by kernel_rfl) (by decide) (by decide) (hmr.frame fun k hk=>hs2.2 k (hl k hk).2 (by simp)) (RowAt.own1 rfl) (by simpa[ones] using hap) (fun c' h2 hm2 hs3 hl3=>?_)
  simp[hn,h3,h6,h7,h8,hw]
  have hs4:Same h h2 []:=(hs.trans hs2).trans' hs3 fun k hk=>.inr (hl k hk).1
  refine BackF.of (s++[row]) ⟨⟨c',by simp[hn],by simp[h3],by simp[h6],by simp[h7],by simp,?_,hs4,fun k hk=>?_⟩,hm⟩
  ·simpa[ones,rowc] using hm2
  ·rcases hl3 k hk with h9 | h9
   ·have:=hl k h9
    have:=hs3.1
    simp at this
    omega
   ·have:=hs.1
    simp at h9
    omega
 ·rintro s e h' ⟨c,hn,h3,h6,h7,h8,hmr,hs,hl⟩ hm
  obtain rfl:=r_ret hm
  simp[h3,h7,h8,hn]
  exact hk _ _ hmr hs hl
theorem Zix {h:HS} {c:C} {rows:List (List GV)} {rs:List C} (hm:MR h 1 c (ones rs)) (hl:rs.length=rows.length) (hd:∀ (i:Nat) (r:C) (row:List GV),rs[i]?=some r→rows[i]?=some row→r.toD=some (.sl (row.map GV.enc))):Frz h c (.sl (rows.map (encL GV.enc))):=by
 refine hm.frz (by simp[ones,hl]) (fun t ht=>by obtain⟨y,_,rfl⟩:=List.mem_map.1 ht;rfl) (fun i x t hx ht=>?_)
 simp only[ones,List.getElem?_map] at hx ht
 cases hr:rs[i]? with
 | none=>rw[hr] at hx;cases hx
 | some r=>
   cases hw:rows[i]? with
   | none=>rw[hw] at ht;cases ht
   | some row=>
     rw[hr] at hx
     rw[hw] at ht
     cases hx
     cases ht
     exact⟨.data (hd i r row hr hw),trivial⟩
theorem Zay {h:HS} {c:C} {rows:List (List GV)} (hm:MR h 1 c (ones (rows.map rowc))):Frz h c (.sl (rows.map (encL GV.enc))):=
 Zix hm (by simp) fun i r row hr hw=>by
  rw[List.getElem?_map,hw] at hr
  cases hr
  rfl
theorem Zsy {h:HS} {l:Lab} {cap i:Nat} {rs sp:List C} {x:C} (hb:(rs++sp).length=cap * 1) (hlim:rs.length≤2097152) (hi:i < rs.length):MR (h.setBox l (Z03 (rs++sp) i [x])) 1 (.mrow l 0 rs.length cap) (ones (rs.set i x)):=by
 have e1:rs++sp=rs.take i++(rs[i]::(rs.drop (i+1)++sp)):=by
  rw[← List.cons_append,← List.drop_eq_getElem_cons hi,← List.append_assoc,List.take_append_drop]
 have e2:Z03 (rs++sp) i [x]=rs.set i x++sp:=by
  rw[e1,Z6x (by simp;omega),List.set_eq_take_append_cons_drop,if_pos hi]
  simp
 rw[e2]
 have:=Zi9 (h:=h.setBox l (rs.set i x++sp)) (l:=l) (cap:=cap) (rs:=rs.set i x) (sp:=sp) (by simp) (by simp at hb ⊢;omega) (by simpa using hlim)
 simpa using this
def Z48 (t:Tbl) (rows:List (List GV)) (row:List GV):Option (List (List GV)):=
 bindK (Z1u rows) fun out=>bindK (Z2k t row) fun k=>bindK (Z49 t out k) fun q=>bif q.2 then chkK (0≤q.1∧q.1 < out.length) (some (out.set q.1.toNat row)) else chkK (0≤q.1∧q.1≤out.length∧out.length+1≤2097152) (some (out.take q.1.toNat++[row]++out.drop q.1.toNat))
theorem Zd3 (t:Tbl) (rows:List (List GV)) (row:List GV) (r:List (List GV)) (hm:Is (Z48 t rows row) r) :
  PSpec Tryz.prog 82 [.agg t.enc,.one (.d (.sl (rows.map (encL GV.enc)))),.one (.d (.sl (row.map GV.enc)))] (.one (.d (.sl (r.map (encL GV.enc))))):=by
 unfold Z48 at hm
 refine PSpec.of_heap ?_
 show HSpec _ _ [.agg (t.enc.map C.d),.one (.d (.sl (rows.map (encL GV.enc)))),.one (.d (.sl (row.map GV.enc)))] HS.init _
 refine HSpec.of_vc Tryz.func82 rfl (by kernel_rfl) (n:=34) rfl rfl (by simp) ?_
 obtain⟨out,hout,hm⟩:=hm.bind
 obtain⟨k,hkv,hm⟩:=hm.bind
 obtain⟨q,hqv,hm⟩:=hm.bind
 obtain⟨qi,qb⟩:=q
 simp only at hm
 simp
 refine Z02 (Z9w _ rows out hout _ (fun c h1 hm1 hs1 hl1=>?_))
 have b0:=hs1.2 (0,48) (by simp) (by simp)
 have hep:=hs1.1
 simp at b0 hep
 simp
 refine Z3e (Z5l row row rfl) (by simp) ?_
 simp
 refine Wait.cut (Plan.then_ [0,1,2,3,4,5,6,7,8,9,10] .done) follows (by kernel_rfl) (fun e h2=>e.n=34∧e.get 7=.one c∧e.get 8=.one (.d (.int .i64 qi))∧e.get 9=.one (.d (.bool qb))∧e.get 2=.one (.own (h1.ep,209) (row.map GV.enc))∧Same h1 h2 []) ?_ ?_
 ·simp[b0,Plan.then_,vcPlan,Z01,Z00,callKind]
  refine Z3e (Z5s t row k hkv) (by simp) ?_
  simp[b0,Plan.then_,vcPlan,Z01,Z00,callKind]
  refine⟨fun _ _ x=>x,Z02 (HSpec.of_lend (Zas t out k (qi,qb) hqv) ⟨.agg (FrzCs.datas (ds:=t.enc)),.one (.frz (Zay (hm1.frame fun l hl=>?_))),.one (.frz (.data rfl)),trivial⟩ rfl ?_)⟩
  ·rfl
  simp[b0,Plan.then_,vcPlan,Z01,Z00,callKind]
  refine⟨fun _ _ x=>x,CutK.of ?_⟩
  simp
  exact ((Same.refl.setArr).next).setArr.next.next
 ·rintro e h2 ⟨hn,h7,h8,h9,h2',hs2⟩
  simp[hn,h7,h8,h9,h2']
  have hm2:=hm1.frame fun l hl=>hs2.2 l (hl1 l hl).2 (by simp)
  cases qb with
  | true=>
    simp only[cond_true] at hm
    obtain⟨⟨hq0,hql⟩,hm⟩:=hm.chk
    obtain rfl:=r_ret hm
    obtain⟨qn,rfl⟩:∃ n:Nat,qi=n:=⟨qi.toNat,by omega⟩
    have hqi:qn < out.length:=by omega
    obtain⟨l,cap,sp,rfl,hb,hcap⟩:=hm2.block (by simp[ones];omega)
    rw[Zdp] at hb hcap
    simp[hn,h7,h8,h2',hb,hqi,ones]
    have hm4:=Zsy (h:=h2) (l:=l) (i:=qn) (x:=C.own (h1.ep,209) (row.map GV.enc)) hcap (by have:=hm1.2.1;simpa[ones] using this) (by simpa using hqi)
    have:=Zix (rows:=out.set qn row) (by simpa using hm4) (by simp) (fun i r w hr hw=>?_)
    ·refine⟨by simp at hcap;omega,?_⟩
     show Frz _ _ _
     simpa[encL] using this
    ·rw[List.getElem?_set] at hr hw
     by_cases hqe:qn=i
     ·subst hqe
      simp[hqi] at hr hw
      subst hr hw
      rfl
     ·rw[if_neg hqe,List.getElem?_map] at hr
      rw[if_neg hqe] at hw
      rw[hw] at hr
      cases hr
      rfl
  | false=>
    simp only[cond_false] at hm
    obtain⟨⟨hq0,hql,hlim⟩,hm⟩:=hm.chk
    obtain rfl:=r_ret hm
    obtain⟨qn,rfl⟩:∃ n:Nat,qi=n:=⟨qi.toNat,by omega⟩
    simp[hn,h7,h8,h2']
    refine Z02 (Zbp _ c (out.map rowc) _ [.sl (row.map GV.enc)] qn ?_ (fun l hl=>?_) (by simp;omega) ?_ rfl (by simpa using hlim) _ (fun c' h3 hm3 hs3 hl3=>?_))
    ·exact hm2.frame fun l hl=>by simp
    ·have:=hl1 l hl
     have:=hs2.1
     simp
     omega
    ·simp
    ·simp[hn]
     have hrc:ones ((out.map rowc).take qn++[C.d (.sl (row.map GV.enc))]++(out.map rowc).drop qn)=ones ((out.take qn++[row]++out.drop qn).map rowc):=by simp[rowc]
     have hm4:MR h3 1 c' (ones ((out.take qn++[row]++out.drop qn).map rowc)):=hrc ▸ hm3
     have:=Zay hm4
     show Frz _ _ _
     simpa[encL] using this
def Z4a (t:Tbl) (rows:List (List GV)) (key:List GV):Option (List (List GV) × Bool):=
 bindK (Z1u rows) fun out=>bindK (Z49 t out key) fun q=>bif q.2 then chkK (0≤q.1∧q.1 < out.length) (some (out.take q.1.toNat++out.drop (q.1.toNat+1),true)) else some (out,false)
theorem Zd4 (t:Tbl) (rows:List (List GV)) (key:List GV) (r:List (List GV) × Bool) (hm:Is (Z4a t rows key) r) :
  PSpec Tryz.prog 83 [.agg t.enc,.one (.d (.sl (rows.map (encL GV.enc)))),.one (.d (.sl (key.map GV.enc)))] (.tup [.one (.d (.sl (r.1.map (encL GV.enc)))),.one (.d (.bool r.2))]):=by
 unfold Z4a at hm
 refine PSpec.of_heap ?_
 show HSpec _ _ [.agg (t.enc.map C.d),.one (.d (.sl (rows.map (encL GV.enc)))),.one (.d (.sl (key.map GV.enc)))] HS.init _
 refine HSpec.of_vc Tryz.func83 rfl (by kernel_rfl) (n:=28) rfl rfl (by simp) ?_
 obtain⟨out,hout,hm⟩:=hm.bind
 obtain⟨q,hqv,hm⟩:=hm.bind
 obtain⟨qi,qb⟩:=q
 simp only at hm
 simp
 refine Z02 (Z9w _ rows out hout _ (fun c h1 hm1 hs1 hl1=>?_))
 have b0:=hs1.2 (0,48) (by simp) (by simp)
 have hep:=hs1.1
 simp at b0 hep
 simp[b0]
 refine Z02 (HSpec.of_lend (Zas t out key (qi,qb) hqv) ⟨.agg (FrzCs.datas (ds:=t.enc)),.one (.frz (Zay hm1)),.one (.frz (.data rfl)),trivial⟩ rfl ?_)
 have hm2:MR h1.next 1 c (ones (out.map rowc)):=hm1.frame fun l hl=>by simp
 simp
 cases qb with
 | true=>
   simp only[cond_true] at hm
   obtain⟨⟨hq0,hql⟩,hm⟩:=hm.chk
   obtain rfl:=r_ret hm
   obtain⟨qn,rfl⟩:∃ n:Nat,qi=n:=⟨qi.toNat,by omega⟩
   have hlim:=hm1.2.1
   rw[Zdo] at hlim
   have hw:IntKind.i64.wrap ((qn:Int)+1)=((qn+1:Nat):Int):=IntWalk.i64_in _ (by simp at hlim;omega)
   simp[hw]
   refine Z02 (Zbq _ c (ones (out.map rowc)) qn (qn+1) hm2 (by omega) (by simp[ones];omega) _ (fun c' h3 hm3 hs3 _ _ _=>?_))
   have hrc:(ones (out.map rowc)).take qn++(ones (out.map rowc)).drop (qn+1)=ones ((out.take qn++out.drop (qn+1)).map rowc):=by simp[ones]
   have hm4:MR h3 1 c' (ones ((out.take qn++out.drop (qn+1)).map rowc)):=hrc ▸ hm3
   have:=Zay hm4
   simp[retH,resVs,resV,notTup]
   refine⟨?_,Frz.data rfl,trivial⟩
   show Frz _ _ _
   simpa[encL] using this
 | false=>
   simp only[cond_false] at hm
   obtain rfl:=r_ret hm
   simp[retH,resVs,resV,notTup]
   exact⟨Zay hm2,Frz.data rfl,trivial⟩
end Go.Proofs.YthgepknlibmjcaaGreat
end
section
namespace Go.Proofs.YthgepknlibmjcaaGreat
open Go.Am
def Z2d (s_:List (List GV)) (f:(List GV)→Option Bool):Option Int:=
 (forK (fun (i2:Nat) (x2:List GV) (s2:Unit) next_2=>(bindK (f x2) fun v3=>(bif v3 then (some (i2:Int)) else (next_2 ())))) (fun (s2:Unit)=>(some (-1))) s_ 0 ())
theorem Z6n (s_:List (List GV)) (g:FuncId) (caps:List (List D)) (f:(List GV)→Option Bool) (hf:∀ xa v,Is (f xa) v→PSpec Tryz.prog g (.one (.d (.sl (xa.map GV.enc)))::capsOf caps) (.one (.d (.bool v)))) (r:Int) (hm:Is (Z2d s_ f) r):PSpec Tryz.prog 79 [.one (.d (.sl (s_.map (encL GV.enc)))),.one (.fn g caps)] (.one (.d (.int .i64 r))):=by
 unfold Z2d at hm
 refine PSpec.of_vc Tryz.func79 rfl (by kernel_rfl) (n:=19) rfl rfl (by simp) ?_
 try simp[*]
 intro hl1
 replace hl1:s_.length≤2097152:=by simpa using hl1
 refine Wait.for (xs:=s_) (s0:=()) (fun i2 s2 e2 h2=>e2.n=19∧e2.get 0=.one (.d (.sl (s_.map (encL GV.enc))))∧e2.get 1=.one (.fn g (caps.map Cap.rp))∧e2.get 7=.one (.d (.int .i64 (s_.length:Int)))∧e2.get 8=.one (.d (.int .i64 (i2:Int)))) hm (by simp[*]) ?_ ?_
 ·rintro i2 s2 e2 h2 ⟨hn2,h2_0,h2_1,h2_7,h2_8⟩ hlt2 hm
  have hw2:IntKind.i64.wrap ((i2:Int)+1)=(i2:Int)+1:=IntWalk.i64_in _ (by omega)
  try simp[*]
  refine Z9i (av:=[.one (.d (.sl ((s_[i2]).map GV.enc)))]) (cs:=caps) hm (fun v hv=>hf _ v hv) (by simp[*]) (by simp[*]) ?_
  clear hm;intro v3 hvv3 hm
  try simp[*]
  refine r_cond hm ?_ ?_<;>clear hm<;>intro hc4 hm
  ·try simp[*]
   obtain rfl:=r_ret hm
   exact ret0 (vs:=[_]) (by simp[*];try exact rfl) (by simp[*])
  ·try simp[*]
   exact BackF.of () ⟨(by simp[*]),hm⟩
 ·rintro s2 e2 h2 ⟨hn2,h2_0,h2_1,h2_7,h2_8⟩ hm
  try simp[*]
  obtain rfl:=r_ret hm
  exact ret0 (vs:=[_]) (by simp[*];try exact rfl) (by simp[*])
def Z1c (s_:List (List GV)) (f:(List GV)→Option Bool):Option Bool:=
 (bindK (Z2d s_ f) fun v1=>(some (decide (0≤v1))))
theorem Z5r (s_:List (List GV)) (g:FuncId) (caps:List (List D)) (f:(List GV)→Option Bool) (hf:∀ xa v,Is (f xa) v→PSpec Tryz.prog g (.one (.d (.sl (xa.map GV.enc)))::capsOf caps) (.one (.d (.bool v)))) (r:Bool) (hm:Is (Z1c s_ f) r):PSpec Tryz.prog 31 [.one (.d (.sl (s_.map (encL GV.enc)))),.one (.fn g caps)] (.one (.d (.bool r))):=by
 unfold Z1c at hm
 refine PSpec.of_vc Tryz.func31 rfl (by kernel_rfl) (n:=9) rfl rfl (by simp) ?_
 try simp[*]
 refine r_call (av:=[.one (.d (.sl (s_.map (encL GV.enc)))),.one (.fn g caps)]) hm (fun v hv=>Z6n _ g caps _ hf v hv) (by simp[*]) ?_
 clear hm;intro v1 hvv1 hm
 try simp[*]
 obtain rfl:=r_ret hm
 exact ret0 (vs:=[_]) (by simp[*];try exact rfl) (by simp[*])
end Go.Proofs.YthgepknlibmjcaaGreat
end
section
namespace Go.Proofs.YthgepknlibmjcaaGreat
open Go Go.Am
def FZ (h:HS) (c:C) (x:D) (ls:List Lab):Prop:=∀ h',(∀ l ∈ ls,h'.box l=h.box l)→Frz h' c x
theorem FZ.frame {h h':HS} {c:C} {x:D} {ls:List Lab} (f:FZ h c x ls) (hb:∀ l ∈ ls,h'.box l=h.box l):FZ h' c x ls:=fun h2 h2b=>f h2 fun l hl=>(h2b l hl).trans (hb l hl)
def FZs (h:HS) (cs:List C) (ds:List D) (ls:List Lab):Prop:=∀ h',(∀ l ∈ ls,h'.box l=h.box l)→FrzCs h' cs ds
theorem FZs.frame {h h':HS} {cs:List C} {ds:List D} {ls:List Lab} (f:FZs h cs ds ls) (hb:∀ l ∈ ls,h'.box l=h.box l):FZs h' cs ds ls:=fun h2 h2b=>f h2 fun l hl=>(h2b l hl).trans (hb l hl)
abbrev NQ:=List C × List D × List Lab
structure NR (h:HS) (n:Nat) (c:C) (qs:List NQ):Prop where
 mr:MR h n c (qs.map (·.1))
 el:∀ q ∈ qs,FZs h q.1 q.2.1 q.2.2∧q.2.1.length=n
 lt:∀ q ∈ qs,∀ k ∈ q.2.2,k.1 < h.ep∧k ∉ labs c
 lc:∀ k ∈ labs c,k.1 < h.ep
theorem NR.nil {h:HS} {n:Nat}:NR h n .nil []:=⟨MR.nil,by simp,by simp,by simp[labs]⟩
theorem NR.frame {h h':HS} {n:Nat} {c:C} {qs:List NQ} {lx:List Lab} (r:NR h n c qs) (hs:Same h h' lx) (hc:∀ k ∈ labs c,k ∉ lx) (hq:∀ q ∈ qs,∀ k ∈ q.2.2,k ∉ lx):NR h' n c qs:=
 ⟨r.mr.frame fun l hl=>hs.2 l (r.lc l hl) (hc l hl),fun q hqm=>⟨(r.el q hqm).1.frame fun l hl=>hs.2 l (r.lt q hqm l hl).1 (hq q hqm l hl),(r.el q hqm).2⟩,fun q hqm k hk=>⟨Nat.lt_of_lt_of_le (r.lt q hqm k hk).1 hs.1,(r.lt q hqm k hk).2⟩,fun k hk=>Nat.lt_of_lt_of_le (r.lc k hk) hs.1⟩
theorem NR.put {h:HS} {n:Nat} {l:Lab} {cap:Nat} {qs:List NQ} {sp:List C} (r:NR h n (.mrow l 0 qs.length cap) qs) (hb:h.box l=some (rowBox (qs.map (·.1)) sp)) (hcap:(rowBox (qs.map (·.1)) sp).length=cap * n) {k:Nat} (hk:k < qs.length) {q:NQ} (hn:q.1.length=n) (hd:q.2.1.length=n)
  (hf:FZs (h.setBox l (rowBox ((qs.set k q).map (·.1)) sp)) q.1 q.2.1 q.2.2) (hl:∀ j ∈ q.2.2,j.1 < h.ep∧j≠l):NR (h.setBox l (rowBox ((qs.set k q).map (·.1)) sp)) n (.mrow l 0 (qs.set k q).length cap) (qs.set k q):=by
 have ha:AllC n ((qs.set k q).map (·.1)):=by rw[List.map_set];exact r.mr.1.set hn
 refine⟨⟨ha,by simpa using r.mr.2.1,.inr ⟨l,cap,sp,by simp,by simp,?_⟩⟩,fun p hp=>?_,fun p hp j hj=>?_,fun j hj=>by simpa using r.lc j (by simpa[labs] using hj)⟩
 ·rw[Z04 ha,List.length_map,List.length_set,← hcap,Z04 r.mr.1,List.length_map]
 ·rcases List.mem_or_eq_of_mem_set hp with h1 | rfl
  ·refine⟨(r.el p h1).1.frame fun j hj=>?_,(r.el p h1).2⟩
   have:=(r.lt p h1 j hj).2
   simp only[labs,List.mem_singleton] at this
   simp[this]
  ·exact⟨hf,hd⟩
 ·rcases List.mem_or_eq_of_mem_set hp with h1 | rfl
  ·simpa[labs] using r.lt p h1 j hj
  ·simpa[labs] using hl j hj
def relC (x:Rel):List C:=[.d (.str x.table),.d (.sl (x.rows.map (encL GV.enc)))]
theorem Zcw (h:HS) (inst out:List Rel) (hm:Is (Z4l inst) out) (K:V→HS→Prop)
  (hk:∀ c h',MR h' 2 c (out.map relC)→Same h h' []→(∀ k ∈ labs c,h.ep≤k.1∧k.1 < h'.ep)→K (.one c) h') :
  HSpec Tryz.prog 71 [.one (.d (.sl (inst.map Rel.enc)))] h K:=by
 unfold Z4l at hm
 refine HSpec.of_vc Tryz.func71 rfl (by kernel_rfl) (n:=23) rfl rfl (by simp) ?_
 simp
 intro hil
 refine Wait.for (xs:=inst) (s0:=[]) (fun i s e h'=>∃ c,e.n=23∧e.get 3=.one c∧e.get 6=.one (.d (.sl (inst.map Rel.enc)))∧e.get 7=.one (.d (.int .i64 (inst.length:Int)))∧e.get 8=.one (.d (.int .i64 (i:Int)))∧MR h' 2 c (s.map relC)∧Same h h' []∧∀ k ∈ labs c,h.ep≤k.1∧k.1 < h'.ep) hm ⟨.nil,by simp,by simp,by simp,by simp,by simp,by simpa using MR.nil,.refl,by simp[labs]⟩ ?_ ?_
 ·rintro i s e h' ⟨c,hn,h3,h6,h7,h8,hmr,hs,hl⟩ hlt hm
  have hw:IntKind.i64.wrap ((i:Int)+1)=(i:Int)+1:=IntWalk.i64_in _ (by omega)
  obtain⟨rows,hrows,hm⟩:=hm.bind
  obtain⟨hap,hm⟩:=hm.chk
  simp[*]
  refine Wait.cut (Plan.then_ [0,1,2,3,4,5,6,7,8,9] .done) follows (by kernel_rfl) (fun e1 h1=>∃ c2,e1.n=23∧e1.get 3=.one c2∧e1.get 6=.one (.d (.sl (inst.map Rel.enc)))∧e1.get 7=.one (.d (.int .i64 (inst.length:Int)))∧e1.get 8=.one (.d (.int .i64 (i:Int))) ∧
   MR h1 2 c2 ((s++[Rel.mk inst[i].table rows]).map relC)∧Same h h1 []∧∀ k ∈ labs c2,h.ep≤k.1∧k.1 < h1.ep) ?_ ?_
  ·simp[hn,h3,h6,h7,h8,Plan.then_,vcPlan,Z01,Z00,callKind]
   have hs1:Same h' ((h'.setBox (h'.ep,80) [C.d (D.str ByteArray.empty),C.nil]).next.setBox (h'.ep,80) [C.d (D.str inst[i].table),C.d (D.sl (List.map (encL GV.enc) inst[i].rows))]) []:=((Same.refl.setBox (.inr (by simp))).next).setBox (.inr (by simp))
   refine Z3e (Zdk _ rows hrows) (by simp) ?_
   simp[hn,h3,h6,h7,h8,Plan.then_,vcPlan,Z01,Z00,callKind]
   have hs2:=((hs1.next.setArr (l:=(h'.ep+1+1,304)) (x:=some (1,2))).next)
   refine⟨fun _ _ x=>x,app_mr Zoc (by kernel_rfl) (by decide) (by decide) (hmr.frame fun l hl9=>hs2.2 l (hl l hl9).2 (by simp)) (RowAt.own1 rfl) (by simpa using hap) (fun c' h2 hm2 hs3 hl3=>?_)⟩
   simp[hn,h3,h6,h7,h8,Plan.then_,vcPlan,Z01,Z00,callKind]
   refine CutK.of ?_
   have hs4:Same h h2 []:=(hs.trans hs2).trans' hs3 fun k hk=>.inr (hl k hk).1
   refine⟨c',by simp[hn],by simp[hn],by simp[h6,hn],by simp[h7,hn],by simp[h8,hn],by simpa[relC] using hm2,hs4,fun k hk=>?_⟩
   rcases hl3 k hk with h9 | h9
   ·have:=hl k h9
    have:=hs3.1
    simp at this
    omega
   ·have:=hs.1
    simp at h9
    omega
  ·rintro e1 h1 ⟨c2,hn,h3,h6,h7,h8,hmr,hs,hl⟩
   simp[hn,h3,h6,h7,h8,hw]
   exact BackF.of (s++[Rel.mk inst[i].table rows]) ⟨⟨c2,by simp[hn],by simp[h3],by simp[h6],by simp[h7],by simp,hmr,hs,hl⟩,hm⟩
 ·rintro s e h' ⟨c,hn,h3,h6,h7,h8,hmr,hs,hl⟩ hm
  obtain rfl:=r_ret hm
  simp[h3,h7,h8,hn]
  exact hk c h' hmr hs hl
end Go.Proofs.YthgepknlibmjcaaGreat
end
section
namespace Go.Proofs.YthgepknlibmjcaaGreat
open Go.Am
def Z0x (t:Tbl) (key:List GV):Option Int:=
 (bif ((key.length:Int) != (t.pk.length:Int)) then (some 3) else (forK (fun (i6:Nat) (x6:GV) (s6:Unit) next_6=>(bindK (Z0d x6) fun v8=>(bif (v8 != 0) then (some v8) else (getK t.pk (i6:Int) fun x10=>(getK t.cols x10 fun x11=>(bif (x6.kind != x11.kind) then (some 7) else (next_6 ()))))))) (fun (s6:Unit)=>(some 0)) key 0 ()))
theorem Z43 (t:Tbl) (key:List GV) (r:Int) (hm:Is (Z0x t key) r):PSpec Tryz.prog 115 [.agg t.enc,.one (.d (.sl (key.map GV.enc)))] (.one (.d (.int .i64 r))):=by
 unfold Z0x at hm
 refine PSpec.of_vc Tryz.func115 rfl (by kernel_rfl) (n:=40) rfl rfl (by simp) ?_
 try simp[*]
 intro hl2
 replace hl2:key.length≤2097152:=by simpa using hl2
 intro hl3
 replace hl3:t.pk.length≤2097152:=by simpa using hl3
 refine r_cond hm ?_ ?_<;>clear hm<;>intro hc4 hm
 ·try simp[*]
  obtain rfl:=r_ret hm
  exact ret0 (vs:=[_]) (by simp[*];try exact rfl) (by simp[*])
 ·try simp[*]
  refine Wait.for (xs:=key) (s0:=()) (fun i6 s6 e6 h6=>e6.n=40∧e6.get 2=.one (.ptr (0,32) 0)∧e6.get 14=.one (.d (.sl (key.map GV.enc)))∧e6.get 15=.one (.d (.int .i64 (key.length:Int)))∧e6.get 16=.one (.d (.int .i64 (i6:Int)))∧h6.box (0,32)=some [.d (.str t.name),.d (.sl (t.cols.map Col.enc)),.d (.sl (t.pk.map encI))]) hm (by simp[*]) ?_ ?_
  ·rintro i6 s6 e6 h6 ⟨hn6,h6_2,h6_14,h6_15,h6_16,hb6_b1⟩ hlt6 hm
   have hw6:IntKind.i64.wrap ((i6:Int)+1)=(i6:Int)+1:=IntWalk.i64_in _ (by omega)
   try simp[*]
   refine r_call (av:=[.agg (key[i6]).enc]) hm (fun v hv=>Z1a _ v hv) (by simp[*]) ?_
   clear hm;intro v8 hvv8 hm
   try simp[*]
   refine r_cond hm ?_ ?_<;>clear hm<;>intro hc9 hm
   ·try simp[*]
    obtain rfl:=r_ret hm
    exact ret0 (vs:=[_]) (by simp[*];try exact rfl) (by simp[*])
   ·try simp[*]
    refine Wait.of (SWP.draw (Plan.then_ [0,1,2,3,4,5,6,7,8,9,10,11,12] .done) follows (by kernel_rfl) ?_)
    try simp[*,Plan.then_,vcPlan,Z01,Z00,callKind]
    replace hm:=hm.getN
    obtain⟨x10,hxx10,hm⟩:=hm
    try simp[*,Plan.then_,vcPlan,Z01,Z00,callKind]
    replace hm:=hm.get
    obtain⟨x11,h0x11,hxx11,hm⟩:=hm
    try simp[*,Plan.then_,vcPlan,Z01,Z00,callKind]
    refine r_cond hm ?_ ?_<;>clear hm<;>intro hc12 hm
    ·try simp[*]
     obtain rfl:=r_ret hm
     exact ret0 (vs:=[_]) (by simp[*];try exact rfl) (by simp[*])
    ·try simp[*]
     exact BackF.of () ⟨(by simp[*]),hm⟩
  ·rintro s6 e6 h6 ⟨hn6,h6_2,h6_14,h6_15,h6_16,hb6_b1⟩ hm
   try simp[*]
   obtain rfl:=r_ret hm
   exact ret0 (vs:=[_]) (by simp[*];try exact rfl) (by simp[*])
def Z4c (s_:Sch) (c:Chg):Option Int:=
 (bif (c.kind == 1) then (bif decide (0 < c.key.length) then (some 3) else (bif (c.kind == 2) then (bif decide (0 < c.row.length) then (some 3) else (bif (c.kind != 1) then (bif (c.kind != 2) then (some 3) else (bindK (Z05 s_ c.table) fun v11=>(bif !v11.2 then (some 4) else (getK s_.tables v11.1 fun x13=>(bindK (Z0f x13 c.row) fun v14=>(some v14)))))) else (bindK (Z05 s_ c.table) fun v15=>(bif !v15.2 then (some 4) else (getK s_.tables v15.1 fun x17=>(bindK (Z0f x17 c.row) fun v18=>(some v18))))))) else (bif (c.kind != 1) then (bif (c.kind != 2) then (some 3) else (bindK (Z05 s_ c.table) fun v21=>(bif !v21.2 then (some 4) else (getK s_.tables v21.1 fun x23=>(bindK (Z0f x23 c.row) fun v24=>(some v24)))))) else (bindK (Z05 s_ c.table) fun v25=>(bif !v25.2 then (some 4) else (getK s_.tables v25.1 fun x27=>(bindK (Z0f x27 c.row) fun v28=>(some v28)))))))) else (bif (c.kind == 2) then (bif decide (0 < c.row.length) then (some 3) else (bif (c.kind != 1) then (bif (c.kind != 2) then (some 3) else (bindK (Z05 s_ c.table) fun v34=>(bif !v34.2 then (some 4) else (getK s_.tables v34.1 fun x36=>(bindK (Z0x x36 c.key) fun v37=>(some v37)))))) else (bindK (Z05 s_ c.table) fun v38=>(bif !v38.2 then (some 4) else (getK s_.tables v38.1 fun x40=>(bindK (Z0x x40 c.key) fun v41=>(some v41))))))) else (bif (c.kind != 1) then (bif (c.kind != 2) then (some 3) else (bindK (Z05 s_ c.table) fun v44=>(bif !v44.2 then (some 4) else (getK s_.tables v44.1 fun x46=>(bindK (Z0x x46 c.key) fun v47=>(some v47)))))) else (bindK (Z05 s_ c.table) fun v48=>(bif !v48.2 then (some 4) else (getK s_.tables v48.1 fun x50=>(bindK (Z0x x50 c.key) fun v51=>(some v51))))))))
theorem Zd6 (s_:Sch) (c:Chg) (r:Int) (hm:Is (Z4c s_ c) r):PSpec Tryz.prog 81 [.agg s_.enc,.agg c.enc] (.one (.d (.int .i64 r))):=by
 unfold Z4c at hm
 refine PSpec.of_vc Tryz.func81 rfl (by kernel_rfl) (n:=65) rfl rfl (by simp) ?_
 try simp[*]
 refine Z08 hm ?_ ?_<;>clear hm<;>intro hc3 hm
 ·try simp[*]
  intro hl4
  replace hl4:c.key.length≤2097152:=by simpa using hl4
  refine Z0b hm ?_ ?_<;>clear hm<;>intro hc5 hm
  ·try simp[*]
   obtain rfl:=r_ret hm
   exact ret0 (vs:=[_]) (by simp[*];try exact rfl) (by simp[*])
  ·try simp[*]
   refine Z08 hm ?_ ?_<;>clear hm<;>intro hc6 hm
   ·try simp[*]
    intro hl7
    replace hl7:c.row.length≤2097152:=by simpa using hl7
    refine Z0b hm ?_ ?_<;>clear hm<;>intro hc8 hm
    ·try simp[*]
     obtain rfl:=r_ret hm
     exact ret0 (vs:=[_]) (by simp[*];try exact rfl) (by simp[*])
    ·try simp[*]
     refine Z08 hm ?_ ?_<;>clear hm<;>intro hc9 hm
     ·try simp[*]
      refine r_cond hm ?_ ?_<;>clear hm<;>intro hc10 hm
      ·try simp[*]
       obtain rfl:=r_ret hm
       exact ret0 (vs:=[_]) (by simp[*];try exact rfl) (by simp[*])
      ·try simp[*]
       refine r_call (av:=[.agg s_.enc,.one (.d (.str c.table))]) hm (fun v hv=>Z06 _ _ v hv) (by simp[*]) ?_
       clear hm;intro v11 hvv11 hm
       try simp[*]
       refine r_cond hm ?_ ?_<;>clear hm<;>intro hc12 hm
       ·try simp[*]
        obtain rfl:=r_ret hm
        exact ret0 (vs:=[_]) (by simp[*];try exact rfl) (by simp[*])
       ·try simp[*]
        refine Wait.of (SWP.draw (Plan.then_ [0,1,2,3,4,5,6,7,8] .done) follows (by kernel_rfl) ?_)
        try simp[*,Plan.then_,vcPlan,Z01,Z00,callKind]
        replace hm:=hm.get
        obtain⟨x13,h0x13,hxx13,hm⟩:=hm
        try simp[*,Plan.then_,vcPlan,Z01,Z00,callKind]
        refine r_call (av:=[.agg x13.enc,.one (.d (.sl (c.row.map GV.enc)))]) hm (fun v hv=>Z2f _ _ v hv) (by simp[*]) ?_
        clear hm;intro v14 hvv14 hm
        try simp[*,Plan.then_,vcPlan,Z01,Z00,callKind]
        try refine⟨fun (_:Lab) (_:List C) hl=>hl,?_⟩
        obtain rfl:=r_ret hm
        exact ret0 (vs:=[_]) (by simp[*];try exact rfl) (by simp[*])
     ·try simp[*]
      refine r_call (av:=[.agg s_.enc,.one (.d (.str c.table))]) hm (fun v hv=>Z06 _ _ v hv) (by simp[*]) ?_
      clear hm;intro v15 hvv15 hm
      try simp[*]
      refine r_cond hm ?_ ?_<;>clear hm<;>intro hc16 hm
      ·try simp[*]
       obtain rfl:=r_ret hm
       exact ret0 (vs:=[_]) (by simp[*];try exact rfl) (by simp[*])
      ·try simp[*]
       refine Wait.of (SWP.draw (Plan.then_ [0,1,2,3,4,5,6,7,8] .done) follows (by kernel_rfl) ?_)
       try simp[*,Plan.then_,vcPlan,Z01,Z00,callKind]
       replace hm:=hm.get
       obtain⟨x17,h0x17,hxx17,hm⟩:=hm
       try simp[*,Plan.then_,vcPlan,Z01,Z00,callKind]
       refine r_call (av:=[.agg x17.enc,.one (.d (.sl (c.row.map GV.enc)))]) hm (fun v hv=>Z2f _ _ v hv) (by simp[*]) ?_
       clear hm;intro v18 hvv18 hm
       try simp[*,Plan.then_,vcPlan,Z01,Z00,callKind]
       try refine⟨fun (_:Lab) (_:List C) hl=>hl,?_⟩
       obtain rfl:=r_ret hm
       exact ret0 (vs:=[_]) (by simp[*];try exact rfl) (by simp[*])
   ·try simp[*]
    refine Z08 hm ?_ ?_<;>clear hm<;>intro hc19 hm
    ·try simp[*]
     refine r_cond hm ?_ ?_<;>clear hm<;>intro hc20 hm
     ·try simp[*]
      obtain rfl:=r_ret hm
      exact ret0 (vs:=[_]) (by simp[*];try exact rfl) (by simp[*])
     ·try simp[*]
      refine r_call (av:=[.agg s_.enc,.one (.d (.str c.table))]) hm (fun v hv=>Z06 _ _ v hv) (by simp[*]) ?_
      clear hm;intro v21 hvv21 hm
      try simp[*]
      refine r_cond hm ?_ ?_<;>clear hm<;>intro hc22 hm
      ·try simp[*]
       obtain rfl:=r_ret hm
       exact ret0 (vs:=[_]) (by simp[*];try exact rfl) (by simp[*])
      ·try simp[*]
       refine Wait.of (SWP.draw (Plan.then_ [0,1,2,3,4,5,6,7,8] .done) follows (by kernel_rfl) ?_)
       try simp[*,Plan.then_,vcPlan,Z01,Z00,callKind]
       replace hm:=hm.get
       obtain⟨x23,h0x23,hxx23,hm⟩:=hm
       try simp[*,Plan.then_,vcPlan,Z01,Z00,callKind]
       refine r_call (av:=[.agg x23.enc,.one (.d (.sl (c.row.map GV.enc)))]) hm (fun v hv=>Z2f _ _ v hv) (by simp[*]) ?_
       clear hm;intro v24 hvv24 hm
       try simp[*,Plan.then_,vcPlan,Z01,Z00,callKind]
       try refine⟨fun (_:Lab) (_:List C) hl=>hl,?_⟩
       obtain rfl:=r_ret hm
       exact ret0 (vs:=[_]) (by simp[*];try exact rfl) (by simp[*])
    ·try simp[*]
     refine r_call (av:=[.agg s_.enc,.one (.d (.str c.table))]) hm (fun v hv=>Z06 _ _ v hv) (by simp[*]) ?_
     clear hm;intro v25 hvv25 hm
     try simp[*]
     refine r_cond hm ?_ ?_<;>clear hm<;>intro hc26 hm
     ·try simp[*]
      obtain rfl:=r_ret hm
      exact ret0 (vs:=[_]) (by simp[*];try exact rfl) (by simp[*])
     ·try simp[*]
      refine Wait.of (SWP.draw (Plan.then_ [0,1,2,3,4,5,6,7,8] .done) follows (by kernel_rfl) ?_)
      try simp[*,Plan.then_,vcPlan,Z01,Z00,callKind]
      replace hm:=hm.get
      obtain⟨x27,h0x27,hxx27,hm⟩:=hm
      try simp[*,Plan.then_,vcPlan,Z01,Z00,callKind]
      refine r_call (av:=[.agg x27.enc,.one (.d (.sl (c.row.map GV.enc)))]) hm (fun v hv=>Z2f _ _ v hv) (by simp[*]) ?_
      clear hm;intro v28 hvv28 hm
      try simp[*,Plan.then_,vcPlan,Z01,Z00,callKind]
      try refine⟨fun (_:Lab) (_:List C) hl=>hl,?_⟩
      obtain rfl:=r_ret hm
      exact ret0 (vs:=[_]) (by simp[*];try exact rfl) (by simp[*])
 ·try simp[*]
  refine Z08 hm ?_ ?_<;>clear hm<;>intro hc29 hm
  ·try simp[*]
   intro hl30
   replace hl30:c.row.length≤2097152:=by simpa using hl30
   refine Z0b hm ?_ ?_<;>clear hm<;>intro hc31 hm
   ·try simp[*]
    obtain rfl:=r_ret hm
    exact ret0 (vs:=[_]) (by simp[*];try exact rfl) (by simp[*])
   ·try simp[*]
    refine Z08 hm ?_ ?_<;>clear hm<;>intro hc32 hm
    ·try simp[*]
     refine r_cond hm ?_ ?_<;>clear hm<;>intro hc33 hm
     ·try simp[*]
      obtain rfl:=r_ret hm
      exact ret0 (vs:=[_]) (by simp[*];try exact rfl) (by simp[*])
     ·try simp[*]
      refine r_call (av:=[.agg s_.enc,.one (.d (.str c.table))]) hm (fun v hv=>Z06 _ _ v hv) (by simp[*]) ?_
      clear hm;intro v34 hvv34 hm
      try simp[*]
      refine r_cond hm ?_ ?_<;>clear hm<;>intro hc35 hm
      ·try simp[*]
       obtain rfl:=r_ret hm
       exact ret0 (vs:=[_]) (by simp[*];try exact rfl) (by simp[*])
      ·try simp[*]
       refine Wait.of (SWP.draw (Plan.then_ [0,1,2,3,4,5,6,7,8] .done) follows (by kernel_rfl) ?_)
       try simp[*,Plan.then_,vcPlan,Z01,Z00,callKind]
       replace hm:=hm.get
       obtain⟨x36,h0x36,hxx36,hm⟩:=hm
       try simp[*,Plan.then_,vcPlan,Z01,Z00,callKind]
       refine r_call (av:=[.agg x36.enc,.one (.d (.sl (c.key.map GV.enc)))]) hm (fun v hv=>Z43 _ _ v hv) (by simp[*]) ?_
       clear hm;intro v37 hvv37 hm
       try simp[*,Plan.then_,vcPlan,Z01,Z00,callKind]
       try refine⟨fun (_:Lab) (_:List C) hl=>hl,?_⟩
       obtain rfl:=r_ret hm
       exact ret0 (vs:=[_]) (by simp[*];try exact rfl) (by simp[*])
    ·try simp[*]
     refine r_call (av:=[.agg s_.enc,.one (.d (.str c.table))]) hm (fun v hv=>Z06 _ _ v hv) (by simp[*]) ?_
     clear hm;intro v38 hvv38 hm
     try simp[*]
     refine r_cond hm ?_ ?_<;>clear hm<;>intro hc39 hm
     ·try simp[*]
      obtain rfl:=r_ret hm
      exact ret0 (vs:=[_]) (by simp[*];try exact rfl) (by simp[*])
     ·try simp[*]
      refine Wait.of (SWP.draw (Plan.then_ [0,1,2,3,4,5,6,7,8] .done) follows (by kernel_rfl) ?_)
      try simp[*,Plan.then_,vcPlan,Z01,Z00,callKind]
      replace hm:=hm.get
      obtain⟨x40,h0x40,hxx40,hm⟩:=hm
      try simp[*,Plan.then_,vcPlan,Z01,Z00,callKind]
      refine r_call (av:=[.agg x40.enc,.one (.d (.sl (c.key.map GV.enc)))]) hm (fun v hv=>Z43 _ _ v hv) (by simp[*]) ?_
      clear hm;intro v41 hvv41 hm
      try simp[*,Plan.then_,vcPlan,Z01,Z00,callKind]
      try refine⟨fun (_:Lab) (_:List C) hl=>hl,?_⟩
      obtain rfl:=r_ret hm
      exact ret0 (vs:=[_]) (by simp[*];try exact rfl) (by simp[*])
  ·try simp[*]
   refine Z08 hm ?_ ?_<;>clear hm<;>intro hc42 hm
   ·try simp[*]
    refine r_cond hm ?_ ?_<;>clear hm<;>intro hc43 hm
    ·try simp[*]
     obtain rfl:=r_ret hm
     exact ret0 (vs:=[_]) (by simp[*];try exact rfl) (by simp[*])
    ·try simp[*]
     refine r_call (av:=[.agg s_.enc,.one (.d (.str c.table))]) hm (fun v hv=>Z06 _ _ v hv) (by simp[*]) ?_
     clear hm;intro v44 hvv44 hm
     try simp[*]
     refine r_cond hm ?_ ?_<;>clear hm<;>intro hc45 hm
     ·try simp[*]
      obtain rfl:=r_ret hm
      exact ret0 (vs:=[_]) (by simp[*];try exact rfl) (by simp[*])
     ·try simp[*]
      refine Wait.of (SWP.draw (Plan.then_ [0,1,2,3,4,5,6,7,8] .done) follows (by kernel_rfl) ?_)
      try simp[*,Plan.then_,vcPlan,Z01,Z00,callKind]
      replace hm:=hm.get
      obtain⟨x46,h0x46,hxx46,hm⟩:=hm
      try simp[*,Plan.then_,vcPlan,Z01,Z00,callKind]
      refine r_call (av:=[.agg x46.enc,.one (.d (.sl (c.key.map GV.enc)))]) hm (fun v hv=>Z43 _ _ v hv) (by simp[*]) ?_
      clear hm;intro v47 hvv47 hm
      try simp[*,Plan.then_,vcPlan,Z01,Z00,callKind]
      try refine⟨fun (_:Lab) (_:List C) hl=>hl,?_⟩
      obtain rfl:=r_ret hm
      exact ret0 (vs:=[_]) (by simp[*];try exact rfl) (by simp[*])
   ·try simp[*]
    refine r_call (av:=[.agg s_.enc,.one (.d (.str c.table))]) hm (fun v hv=>Z06 _ _ v hv) (by simp[*]) ?_
    clear hm;intro v48 hvv48 hm
    try simp[*]
    refine r_cond hm ?_ ?_<;>clear hm<;>intro hc49 hm
    ·try simp[*]
     obtain rfl:=r_ret hm
     exact ret0 (vs:=[_]) (by simp[*];try exact rfl) (by simp[*])
    ·try simp[*]
     refine Wait.of (SWP.draw (Plan.then_ [0,1,2,3,4,5,6,7,8] .done) follows (by kernel_rfl) ?_)
     try simp[*,Plan.then_,vcPlan,Z01,Z00,callKind]
     replace hm:=hm.get
     obtain⟨x50,h0x50,hxx50,hm⟩:=hm
     try simp[*,Plan.then_,vcPlan,Z01,Z00,callKind]
     refine r_call (av:=[.agg x50.enc,.one (.d (.sl (c.key.map GV.enc)))]) hm (fun v hv=>Z43 _ _ v hv) (by simp[*]) ?_
     clear hm;intro v51 hvv51 hm
     try simp[*,Plan.then_,vcPlan,Z01,Z00,callKind]
     try refine⟨fun (_:Lab) (_:List C) hl=>hl,?_⟩
     obtain rfl:=r_ret hm
     exact ret0 (vs:=[_]) (by simp[*];try exact rfl) (by simp[*])
end Go.Proofs.YthgepknlibmjcaaGreat
end
section
namespace Go.Proofs.YthgepknlibmjcaaGreat
open Go Go.Am
@[simp] theorem Zto {α β:Type} (f:α→β) (xs:List α):List.take xs.length (xs.map f)=xs.map f:=List.take_of_length_le (by simp)
theorem Zst {h:HS} {c:C} {out:List Rel} (hm:MR h 2 c (out.map relC)):Frz h c (.sl (out.map Rel.enc)):=
 hm.frz (by simp) (fun t ht=>by obtain⟨y,_,rfl⟩:=List.mem_map.1 ht;rfl) fun i x t hx ht=>by
  rw[List.getElem?_map] at hx ht
  cases hq:out[i]? with
  | none=>rw[hq] at hx;cases hx
  | some q=>
    rw[hq] at hx ht
    cases hx
    cases ht
    exact⟨.data rfl,.data rfl,trivial⟩
def m_chg {ρ:Type} (s:Sch) (x:Chg) (out:List Rel) (next:List Rel→Option ρ) (bad:Int→Option ρ):Option ρ:=
 bindK (Z4c s x) fun e=>bif e != 0 then bad e else bindK (Z05 s x.table) fun q=>getK s.tables q.1 fun T=>getK out q.1 fun o=>
  bif x.kind == 1 then bindK (Z48 T o.rows x.row) fun rows=>bif decide ((24:Int) < rows.length) then bad 2 else next (out.set q.1.toNat ⟨o.table,rows⟩)
  else bindK (Z4a T o.rows x.key) fun d=>bif !d.2 then bad 9 else next (out.set q.1.toNat ⟨o.table,d.1⟩)
def Z4q (s:Sch) (inst:List Rel) (cs:List Chg):Option (List Rel × Int):=
 bindK (Z0m s) fun e=>bif e != 0 then some ([],e) else bindK (Z0c s inst) fun e2=>bif e2 != 0 then some ([],e2) else bif decide ((24:Int) < cs.length) then some ([],2) else
 bindK (Z4l inst) fun out0=>forK (fun (i:Nat) (x:Chg) (out:List Rel) next=>m_chg s x out next fun e=>some ([],e)) (fun out=>some (out,0)) cs 0 out0
theorem Zbh (s:Sch) (inst:List Rel) (cs:List Chg) (r:List Rel × Int) (hm:Is (Z4q s inst cs) r) :
  PSpec Tryz.prog 35 [.agg s.enc,.one (.d (.sl (inst.map Rel.enc))),.one (.d (.sl (cs.map Chg.enc)))] (.tup [.one (.d (.sl (r.1.map Rel.enc))),.one (.d (.int .i64 r.2))]):=by
 unfold Z4q at hm
 refine PSpec.of_heap ?_
 show HSpec _ _ [.agg (s.enc.map C.d),.one (.d (.sl (inst.map Rel.enc))),.one (.d (.sl (cs.map Chg.enc)))] HS.init _
 refine HSpec.of_vc Tryz.func35 rfl (by kernel_rfl) (n:=101) rfl rfl (by simp) ?_
 obtain⟨ev,hev,hm⟩:=hm.bind
 simp
 refine Z3e (Z4e s ev hev) (by simp) ?_
 simp
 refine r_cond hm ?_ ?_<;>clear hm<;>intro hc1 hm
 ·obtain rfl:=r_ret hm
  simp[hc1,retH,resVs,resV,notTup]
  exact⟨Frz.data rfl,Frz.data rfl,trivial⟩
 obtain⟨ev2,hev2,hm⟩:=hm.bind
 simp[hc1]
 refine Z3e (Z85 s inst ev2 hev2) (by simp) ?_
 simp
 refine r_cond hm ?_ ?_<;>clear hm<;>intro hc2 hm
 ·obtain rfl:=r_ret hm
  simp[hc2,retH,resVs,resV,notTup]
  exact⟨Frz.data rfl,Frz.data rfl,trivial⟩
 simp[hc2]
 intro hcl
 refine r_cond hm ?_ ?_<;>clear hm<;>intro hc3 hm
 ·obtain rfl:=r_ret hm
  simp at hc3
  simp[hc3,retH,resVs,resV,notTup]
  exact⟨Frz.data rfl,Frz.data rfl,trivial⟩
 simp at hc3
 obtain⟨out0,hout0,hm⟩:=hm.bind
 have hc3':¬ (24 < cs.length):=by omega
 simp[hc3']
 refine Z02 (Zcw _ inst out0 hout0 _ (fun c h1 hr hs hl=>?_))
 have b0:=hs.2 (0,48) (by simp) (by simp)
 have hep:=hs.1
 simp at b0 hep
 have hl2:∀ k ∈ labs c,1≤k.1∧k.1 < h1.ep:=fun k hk=>by have:=hl k hk;simp at this;omega
 simp
 intro _
 refine Wait.for (xs:=cs) (s0:=out0) (fun i out e h=>∃ c,MR h 2 c (out.map relC)∧(∀ k ∈ labs c,1≤k.1∧k.1 < h.ep)∧1≤h.ep∧h.box (0,48)=some (s.enc.map C.d)∧e.n=101 ∧
  e.get 3=.one (.ptr (0,48) 0)∧e.get 10=.one c∧e.get 34=.one (.d (.sl (cs.map Chg.enc)))∧e.get 35=.one (.d (.int .i64 (cs.length:Int)))∧e.get 36=.one (.d (.int .i64 (i:Int)))) hm ?_ ?_ ?_
 ·exact⟨c,hr,hl2,by omega,by simpa[Sch.enc] using b0,by simp,by simp,by simp,by simp,by simp,by simp⟩
 ·clear hm hc1 hc2 hr hl2 hl hs b0 hep hout0 c h1 hev hev2 hc3
  rintro i out e h ⟨c,hr,hl,hep,b0,hn,h3,h10,h34,h35,h36⟩ hlt hm
  have hw:IntKind.i64.wrap ((i:Int)+1)=(i:Int)+1:=IntWalk.i64_in _ (by omega)
  generalize hNx:(fun s'=>forK (fun (i:Nat) (x:Chg) (out:List Rel) next=>m_chg s x out next fun e=>some ([],e)) (fun out=>some (out,0)) (List.drop (i+1) cs) (i+1) s')=nextN at hm
  have hback:∀ o',Is (nextN o') r→Is (forK (fun (i:Nat) (x:Chg) (out:List Rel) next=>m_chg s x out next fun e=>some ([],e)) (fun out=>some (out,0)) (List.drop (i+1) cs) (i+1) o') r:=fun o' h'=>by rw[← hNx] at h';exact h'
  clear hNx
  generalize hx:cs[i]=x at hm
  have hxi:cs[i]?=some x:=by rw[← hx];exact List.getElem?_eq_getElem hlt
  unfold m_chg at hm
  obtain⟨ev3,hev3,hm⟩:=hm.bind
  simp only[Sch.enc,List.map_cons,List.map_nil] at b0
  simp[hn,h3,h10,h34,h35,h36,b0,hlt,hx]
  refine Z3e (Zd6 s x ev3 hev3) (by simp) ?_
  simp[hn,h3,h10,h34,h35,h36,b0]
  refine r_cond hm ?_ ?_<;>clear hm<;>intro hc4 hm
  ·obtain rfl:=r_ret hm
   simp[hn,h3,h10,h34,h35,h36,b0,hc4,retH,resVs,resV,notTup]
   exact⟨Frz.data rfl,Frz.data rfl,trivial⟩
  obtain⟨q,hqv,hm⟩:=hm.bind
  obtain⟨qi,qb⟩:=q
  obtain⟨T,hq0,hT,hm⟩:=hm.get
  obtain⟨o,_,ho,hm⟩:=hm.get
  simp only at hq0 hT ho hm
  obtain⟨qn,rfl⟩:∃ n:Nat,qi=n:=⟨qi.toNat,by omega⟩
  simp only[Int.toNat_natCast] at hT ho hm
  simp[hn,h3,h10,h34,h35,h36,b0,hc4]
  refine Z3e (Z06 s x.table _ hqv) (by simp) ?_
  simp[hn,h3,h10,h34,h35,h36,b0,hT]
  have hiq:qn < out.length:=(List.getElem?_eq_some_iff.1 ho).1
  have hx2:(out.map relC)[qn]?=some (relC o):=by rw[List.getElem?_map,ho];rfl
  obtain⟨l,cap,sp,rfl,hb,hcap⟩:=hr.block (by simp;omega)
  rw[List.length_map] at hl hr h10
  have hrl:=Z7w (sp:=sp) hr.1 (k:=qn) (by simp;omega)
  have hset:∀ rows:List (List GV),Z03 (rowBox (out.map relC) sp) (qn * 2+1) [.d (.sl (rows.map (encL GV.enc)))]=rowBox ((out.set qn ⟨o.table,rows⟩).map relC) sp:=fun rows=>by
   rw[Z9h hr.1 hx2 (by simp[relC]),List.map_set]
   simp[Z03,relC]
  have htk:takeN 1 ((rowBox (out.map relC) sp).drop (qn * 2+1))=some [.d (.sl (o.rows.map (encL GV.enc)))]:=by
   have h9:=Zc8 (sp:=sp) (f:=1) (m:=1) hr.1 hx2 (by simp[relC])
   simpa[takeN,relC] using h9
  have hll:=(hl l (by simp[labs])).2
  have hl2:=(hl l (by simp[labs])).1
  have hne3:((0,48):Lab)≠l:=by rintro rfl;simp at hl2
  have hall:∀ out:List Rel,AllC 2 (out.map relC):=fun out y hy=>by
   obtain⟨z,_,rfl⟩:=List.mem_map.1 hy
   rfl
  have put:∀ (H:HS) (rows:List (List GV)),MR (H.setBox l (rowBox ((out.set qn ⟨o.table,rows⟩).map relC) sp)) 2 (.mrow l 0 out.length cap) ((out.set qn ⟨o.table,rows⟩).map relC):=fun H rows=>
   ⟨hall _,by simpa using hr.2.1,.inr ⟨l,cap,sp,by simp,by simp,by rw[Z04 (hall _),← hcap,Z04 (hall _)];simp⟩⟩
  have hne1:l≠(h.ep,192):=by rintro rfl;simp at hll
  have hne2:l≠(h.ep+1+1+1,256):=by rintro rfl;simp at hll;omega
  have hsH:Same h ((((h.setBox (h.ep,192) [.d (.int .i64 0),.d (.str ByteArray.empty),.nil,.nil]).next.setBox (h.ep,192) [.d (.int .i64 x.kind),.d (.str x.table),.d (.sl (x.key.map GV.enc)),.d (.sl (x.row.map GV.enc))]).next.next.setBox (h.ep+1+1+1,256) [.d (.str ByteArray.empty),.nil,.nil]).next.setBox (h.ep+1+1+1,256) [.d (.str T.name),.d (.sl (T.cols.map Col.enc)),.d (.sl (T.pk.map encI))]) []:=
   ((((Same.refl.setBox (.inr (by simp))).next.setBox (.inr (by simp))).next.next).setBox (.inr (by simp;omega))).next.setBox (.inr (by simp;omega))
  refine r_cond hm ?_ ?_<;>clear hm<;>intro hc5 hm
  ·obtain⟨rows,hrows,hm⟩:=hm.bind
   simp[hn,h3,h10,h34,h35,h36,b0,hc5]
   refine Wait.cut (Plan.then_ [0,1,2,3,4,5,6,7,8,9,10,11,12,13] .done) follows (by kernel_rfl) (fun e1 h1=>∃ H,Same h H []∧h1=H.setBox l (rowBox ((out.set qn ⟨o.table,rows⟩).map relC) sp)∧1≤h1.ep∧e1.n=101∧e1.get 3=.one (.ptr (0,48) 0)∧e1.get 10=.one (.mrow l 0 out.length cap)∧e1.get 14=.one (.d (.int .i64 (qn:Int)))∧e1.get 34=.one (.d (.sl (cs.map Chg.enc)))∧e1.get 35=.one (.d (.int .i64 (cs.length:Int)))∧e1.get 36=.one (.d (.int .i64 (i:Int)))) ?_ ?_
   ·simp[hn,h3,h10,h34,h35,h36,b0,hc5,hiq,hb,hne1,hne2,htk,Plan.then_,vcPlan,Z01,Z00,callKind]
    refine Z3e (Zd3 T o.rows x.row rows hrows) (by simp) ?_
    simp[hn,h3,h10,h34,h35,h36,b0,hc5,hiq,hb,hne1,hne2,htk,Plan.then_,vcPlan,Z01,Z00,callKind]
    refine⟨fun _ _ x=>x,by omega,CutK.of ?_⟩
    rw[hset]
    exact⟨_,hsH.next,rfl,by simp<;>omega,by simp[hn],by simp[h3],by simp[h10],by simp[hn],by simp[h34],by simp[h35],by simp[h36]⟩
   ·have hmm:=h10
    clear hn h3 h10 h34 h35 h36
    rintro e1 h1 ⟨H,hsx,rfl,hep1,hn,h3,h10,h14,h34,h35,h36⟩
    have htk2:takeN 1 ((rowBox ((out.set qn ⟨o.table,rows⟩).map relC) sp).drop (qn * 2+1))=some [.d (.sl (rows.map (encL GV.enc)))]:=by
     have h9:=Zc8 (sp:=sp) (f:=1) (m:=1) (hall (out.set qn ⟨o.table,rows⟩)) (k:=qn) (x:=relC ⟨o.table,rows⟩) (by rw[List.getElem?_map,List.getElem?_set_self hiq];rfl) (by simp[relC])
     simpa[takeN,relC] using h9
    simp only[List.map_set] at htk2
    simp[hn,h3,h10,h14,h34,h35,h36,hiq,htk2]
    intro hrl2
    refine r_cond hm ?_ ?_<;>clear hm<;>intro hc6 hm
    ·obtain rfl:=r_ret hm
     simp at hc6
     simp[hn,h10,hc6,retH,resVs,resV,notTup]
     exact⟨Frz.data rfl,Frz.data rfl,trivial⟩
    ·simp at hc6
     have hc7:¬ (24 < rows.length):=by omega
     simp[hn,h10,hc7,h36,hw]
     have hb3:h.box (0,48)=some (s.enc.map C.d):=b0
     have hput:=put H rows
     exact BackF.of (out.set qn ⟨o.table,rows⟩) ⟨⟨.mrow l 0 out.length cap,by simpa only[List.map_set] using hput,fun k hk=>⟨(hl k hk).1,by have:=(hl k hk).2;have:=hsx.1;simp;omega⟩,hep1,by simp[hne3];rw[hsx.2 _ (by simp;omega) (by simp)];exact hb3,by simp[hn],by simp[h3],by simp[h10],by simp[h34],by simp[h35],by simp[hw]⟩,hback _ hm⟩
  ·obtain⟨d,hd,hm⟩:=hm.bind
   simp[hn,h3,h10,h34,h35,h36,b0,hc5]
   refine Wait.cut (Plan.then_ [0,1,2,3,4,5,6,7,8,9,10,11,12,14,15,13,16,17] .done) follows (by kernel_rfl) (fun e1 h1=>∃ H,Same h H []∧h1=H.setBox l (rowBox ((out.set qn ⟨o.table,d.1⟩).map relC) sp)∧1≤h1.ep∧e1.n=101∧e1.get 3=.one (.ptr (0,48) 0)∧e1.get 10=.one (.mrow l 0 out.length cap)∧e1.get 17=.one (.d (.bool d.2))∧e1.get 34=.one (.d (.sl (cs.map Chg.enc)))∧e1.get 35=.one (.d (.int .i64 (cs.length:Int)))∧e1.get 36=.one (.d (.int .i64 (i:Int)))) ?_ ?_
   ·simp[hn,h3,h10,h34,h35,h36,b0,hc5,hiq,hb,hne1,hne2,htk,Plan.then_,vcPlan,Z01,Z00,callKind]
    refine Z3e (Zd4 T o.rows x.key d hd) (by simp) ?_
    simp[hn,h3,h10,h34,h35,h36,b0,hc5,hiq,hb,hne1,hne2,htk,Plan.then_,vcPlan,Z01,Z00,callKind]
    refine⟨fun _ _ x=>x,by omega,CutK.of ?_⟩
    rw[hset]
    exact⟨_,hsH.next,rfl,by simp<;>omega,by simp[hn],by simp[h3],by simp[h10],by simp[hn],by simp[h34],by simp[h35],by simp[h36]⟩
   ·clear hn h3 h10 h34 h35 h36
    rintro e1 h1 ⟨H,hsx,rfl,hep1,hn,h3,h10,h17,h34,h35,h36⟩
    simp[hn,h17]
    refine r_cond hm ?_ ?_<;>clear hm<;>intro hc6 hm
    ·obtain rfl:=r_ret hm
     simp[hn,hc6,retH,resVs,resV,notTup]
     exact⟨Frz.data rfl,Frz.data rfl,trivial⟩
    ·simp[hn,h36,hw,hc6]
     have hb3:h.box (0,48)=some (s.enc.map C.d):=b0
     have hput:=put H d.1
     exact BackF.of (out.set qn ⟨o.table,d.1⟩) ⟨⟨.mrow l 0 out.length cap,by simpa only[List.map_set] using hput,fun k hk=>⟨(hl k hk).1,by have:=(hl k hk).2;have:=hsx.1;simp;omega⟩,hep1,by simp[hne3];rw[hsx.2 _ (by simp;omega) (by simp)];exact hb3,by simp[hn],by simp[h3],by simp[h10],by simp[h34],by simp[h35],by simp[hw]⟩,hback _ hm⟩
 ·rintro out e h ⟨c,hr,hl,hep,b0,hn,h3,h10,h34,h35,h36⟩ hm
  obtain rfl:=r_ret hm
  simp[hn,h10,h35,h36,retH,resVs,resV,notTup]
  refine⟨?_,Frz.data rfl,trivial⟩
  show Frz _ _ _
  exact Zst hr
theorem Zj9 {a b:Int}:0 < cmpI a b↔b < a:=by
 unfold cmpI
 split
 ·simp;omega
 ·split<;>simp[*]
theorem cb_pos:∀ {a b:List UInt8},0 < Lib.compareBytes a b→Lib.compareBytes b a < 0:=by
 intro a
 induction a with
 | nil=>intro b h;cases b<;>simp[Lib.compareBytes] at h
 | cons x a ih=>
   intro b h
   cases b with
   | nil=>simp[Lib.compareBytes]
   | cons y b=>
     simp only[Lib.compareBytes,UInt8.lt_iff_toNat_lt] at h ⊢
     split at h
     ·simp at h
     ·split at h
      ·rw[if_pos (by omega)];decide
      ·rw[if_neg (by omega),if_neg (by omega)]
       exact ih h
theorem Zt9 {a b:GV} (h:0 < cmpV a b):cmpV b a < 0:=by
 rw[Zp1]
 unfold cmpV at h
 by_cases h1:cmpI a.kind b.kind=0
 ·have e1:=Z76.1 h1
  rw[if_neg (by simp[h1])] at h
  by_cases h2:cmpI a.int b.int=0
  ·have e2:=Z76.1 h2
   rw[if_neg (by simp[h2])] at h
   exact .inr ⟨e1.symm,.inr ⟨e2.symm,cb_pos h⟩⟩
  ·rw[if_pos h2] at h
   exact .inr ⟨e1.symm,.inl (Zj9.1 h)⟩
 ·rw[if_pos h1] at h
  exact .inl (Zj9.1 h)
theorem Zta:∀ {a b:List GV},0 < cmpR a b→cmpR b a < 0:=by
 intro a
 induction a with
 | nil=>intro b h;cases b<;>simp[cmpR] at h
 | cons x a ih=>
   intro b h
   cases b with
   | nil=>simp[cmpR]
   | cons y b=>
     simp only[cmpR] at h ⊢
     by_cases e:cmpV x y=0
     ·have:=Zcg e
      subst this
      rw[if_neg (by simp[e])] at h ⊢
      exact ih h
     ·rw[if_pos e] at h
      have h2:=Zt9 h
      rw[if_pos (by omega)]
      exact h2
theorem Zhi:∀ {a b:List GV},cmpR a b=0→a=b:=by
 intro a
 induction a with
 | nil=>intro b h;cases b with
   | nil=>rfl
   | cons y b=>simp[cmpR] at h
 | cons x a ih=>
   intro b h
   cases b with
   | nil=>simp[cmpR] at h
   | cons y b=>
     simp only[cmpR] at h
     by_cases e:cmpV x y=0
     ·rw[if_neg (by simp[e])] at h
      rw[Zcg e,ih h]
     ·rw[if_pos e] at h
      exact absurd h e
structure Mid (T:Tbl) (rows:List (List GV)) (k:List GV) (a b os:List (List GV)):Prop where
 eq:rows=a++(os++b)
 lo:∀ x ∈ a,cmpR (keyF T x) k < 0
 hi:∀ x ∈ b,cmpR k (keyF T x) < 0
 os:os=[]∨∃ o,os=[o]∧keyF T o=k
theorem w_Find (T:Tbl) (rows:List (List GV)) (key:List GV) (hT:T.pk.length≤6):Wp (Z49 T rows key) fun q=>∃ i:Nat,q.1=i∧i≤rows.length∧(∀ (j:Nat) (row:List GV),j < i→rows[j]?=some row→cmpR (keyF T row) key < 0) ∧
  (q.2=true→∃ row,rows[i]?=some row∧cmpR (keyF T row) key=0)∧(q.2=false→∀ row,rows[i]?=some row→0 < cmpR (keyF T row) key):=by
 unfold Z49
 refine Wp.for (fun i _=>∀ (j:Nat) (row:List GV),j < i→rows[j]?=some row→cmpR (keyF T row) key < 0) (by intro j r h;omega) ?_ ?_
 ·intro i x s next hx hm hI hn
  refine Wp.bind (w_Key T x (by omega)) fun k _ hk=>?_
  subst hk
  refine Wp.bind (Z9f _ _ (by simp[keyF];omega)) fun c _ hc=>?_
  subst hc
  refine Wp.cond (fun h=>Wp.ret ⟨i,rfl,by have:=(List.getElem?_eq_some_iff.1 hx).1;omega,hI,fun h9=>⟨x,hx,by simpa using h9⟩,fun h9 row hr=>?_⟩) fun h=>hn () (Z33 hI hx ?_)
  ·rw[hx] at hr
   cases hr
   have h1:0≤cmpR (keyF T x) key:=by simpa using h
   have h2:cmpR (keyF T x) key≠0:=by simpa using h9
   omega
  ·have:¬ (0≤cmpR (keyF T x) key):=by simpa using h
   omega
 ·intro s hI
  exact Wp.ret ⟨rows.length,rfl,Nat.le_refl _,hI,fun h=>by simp at h,fun _ row h=>by rw[List.getElem?_eq_none (Nat.le_refl _)] at h;cases h⟩
theorem Zod {α:Type} {xs:List α} {i:Nat} {p:α→Prop} (h:∀ (j:Nat) (x:α),j < i→xs[j]?=some x→p x):∀ x ∈ xs.take i,p x:=by
 intro x hx
 obtain⟨j,hj,rfl⟩:=List.getElem_of_mem hx
 simp only[List.length_take] at hj
 rw[List.getElem_take]
 exact h j _ (by omega) (List.getElem?_eq_getElem (by omega))
theorem Zh9 {T:Tbl} {rows:List (List GV)} {k:List GV} {i:Nat} {o:List GV} (ha:AscP T rows) (hlo:∀ (j:Nat) (row:List GV),j < i→rows[j]?=some row→cmpR (keyF T row) k < 0) (ho:rows[i]?=some o) (hk:cmpR (keyF T o) k=0):Mid T rows k (rows.take i) (rows.drop (i+1)) [o]:=by
 obtain⟨h1,h2⟩:=List.getElem?_eq_some_iff.1 ho
 have e:rows.drop i=o::rows.drop (i+1):=by rw[List.drop_eq_getElem_cons h1,h2]
 refine⟨by rw[List.singleton_append,← e,List.take_append_drop],Zod hlo,fun x hx=>?_,.inr ⟨o,rfl,Zhi hk⟩⟩
 have hd:AscP T (o::rows.drop (i+1)):=by rw[← e];exact List.Pairwise.sublist (List.drop_sublist _ _) ha
 have:=(List.pairwise_cons.1 hd).1 x hx
 rwa [Zhi hk] at this
theorem Zt1 {T:Tbl} {rows:List (List GV)} {k:List GV} {i:Nat} (ha:AscP T rows) (hlo:∀ (j:Nat) (row:List GV),j < i→rows[j]?=some row→cmpR (keyF T row) k < 0) (hi:∀ row,rows[i]?=some row→0 < cmpR (keyF T row) k):Mid T rows k (rows.take i) (rows.drop i) []:=by
 refine⟨by rw[List.nil_append,List.take_append_drop],Zod hlo,fun x hx=>?_,.inl rfl⟩
 rcases Nat.lt_or_ge i rows.length with h1 | h1
 ·have e:=List.drop_eq_getElem_cons h1
  have h2:=Zta (hi _ (List.getElem?_eq_getElem h1))
  have hd:AscP T (rows.drop i):=List.Pairwise.sublist (List.drop_sublist _ _) ha
  rw[e] at hx hd
  rcases List.mem_cons.1 hx with rfl | h3
  ·exact h2
  ·exact Zb3 h2 ((List.pairwise_cons.1 hd).1 x h3)
 ·rw[List.drop_eq_nil_of_le h1] at hx
  cases hx
theorem Mid.parts {T:Tbl} {rows:List (List GV)} {k:List GV} {a b os:List (List GV)} (h:Mid T rows k a b os) (ha:AscP T rows):AscP T a∧AscP T b:=by
 rw[h.eq] at ha
 have h1:=List.pairwise_append.1 ha
 exact⟨h1.1,(List.pairwise_append.1 h1.2.1).2.1⟩
theorem Mid.put {T:Tbl} {rows:List (List GV)} {k row:List GV} {a b os:List (List GV)} (h:Mid T rows k a b os) (ha:AscP T rows) (hk:keyF T row=k):AscP T (a++row::b):=by
 obtain⟨h1,h2⟩:=h.parts ha
 subst hk
 refine List.pairwise_append.2 ⟨h1,List.pairwise_cons.2 ⟨h.hi,h2⟩,fun x hx y hy=>?_⟩
 rcases List.mem_cons.1 hy with rfl | h3
 ·exact h.lo x hx
 ·exact Zb3 (h.lo x hx) (h.hi y h3)
theorem Mid.del {T:Tbl} {rows:List (List GV)} {k:List GV} {a b os:List (List GV)} (h:Mid T rows k a b os) (ha:AscP T rows):AscP T (a++b):=by
 obtain⟨h1,h2⟩:=h.parts ha
 exact List.pairwise_append.2 ⟨h1,h2,fun x hx y hy=>Zb3 (h.lo x hx) (h.hi y hy)⟩
theorem Zpg (T:Tbl) (rows:List (List GV)) (row:List GV) (hT:T.pk.length≤6) (hl:rows.length≤24) (ha:AscP T rows):Wp (Z48 T rows row) fun out=>∃ a b os,Mid T rows (keyF T row) a b os∧out=a++row::b:=by
 unfold Z48
 refine Wp.bind (Z79 rows (by omega)) fun o _ ho=>?_
 subst ho
 refine Wp.bind (w_Key T row (by omega)) fun k _ hk=>?_
 subst hk
 refine Wp.bind (w_Find T o _ hT) fun q _ hq=>?_
 obtain⟨i,hi,hil,hlo,ht,hf⟩:=hq
 rw[hi]
 refine Wp.cond (fun h=>?_) fun h=>?_
 ·obtain⟨x,hx,hz⟩:=ht h
  have hlt:=(List.getElem?_eq_some_iff.1 hx).1
  refine Wp.chk ⟨by omega,by omega⟩ (Wp.ret ⟨_,_,_,Zh9 ha hlo hx hz,?_⟩)
  rw[Int.toNat_natCast,List.set_eq_take_append_cons_drop,if_pos hlt]
 ·refine Wp.chk ⟨by omega,by omega,by omega⟩ (Wp.ret ⟨_,_,_,Zt1 ha hlo (hf h),?_⟩)
  simp
theorem Zph (T:Tbl) (rows:List (List GV)) (key:List GV) (hT:T.pk.length≤6) (hl:rows.length≤24) (ha:AscP T rows):Wp (Z4a T rows key) fun q=>q.2=true→∃ a b o,Mid T rows key a b [o]∧q.1=a++b:=by
 unfold Z4a
 refine Wp.bind (Z79 rows (by omega)) fun o _ ho=>?_
 subst ho
 refine Wp.bind (w_Find T o _ hT) fun q _ hq=>?_
 obtain⟨i,hi,hil,hlo,ht,hf⟩:=hq
 rw[hi]
 refine Wp.cond (fun h=>?_) fun h=>Wp.ret fun h9=>by simp at h9
 obtain⟨x,hx,hz⟩:=ht h
 have hlt:=(List.getElem?_eq_some_iff.1 hx).1
 exact Wp.chk ⟨by omega,by omega⟩ (Wp.ret fun _=>⟨_,_,_,Zh9 ha hlo hx hz,rfl⟩)
theorem gv_all (row:List GV):AllC 3 ((row.map GV.enc).map (·.map C.d)):=fun y hy=>by
 obtain⟨z,hz,rfl⟩:=List.mem_map.1 hy
 obtain⟨u,_,rfl⟩:=List.mem_map.1 hz
 rfl
theorem gv_frz {h:HS} {l:Lab} {n cap:Nat} {row:List GV} (hn:row.length=n) (hm:MR h 3 (.mrow l 0 n cap) ((row.map GV.enc).map (·.map C.d))):Frz h (.mrow l 0 n cap) (.sl (row.map GV.enc)):=
 hm.frz (by simp) (fun t ht=>by obtain⟨y,_,rfl⟩:=List.mem_map.1 ht;rfl) fun i x t hx ht=>by
  rw[List.getElem?_map,ht] at hx
  simp only[Option.map_some,Option.some.injEq] at hx
  subst hx
  exact FrzCs.datas
def m_auth (T:Tbl) (r:Rule) (key:List GV):Option Int:=
 bif (key.length:Int) != T.pk.length then some 3 else forK (fun (i:Nat) (p:Int) (row:List GV) next=>getK key i fun x=>chkK (0≤p∧p < row.length) (next (row.set p.toNat x)))
  (fun row=>bindK (Z3q r row) fun b=>bif !b then some 17 else some 0) T.pk 0 (List.replicate T.cols.length ⟨0,0,ByteArray.empty⟩)
def Z3x (s:Sch) (rules:List Rule) (user:ByteArray) (v:Int) (c:Chg):Option Int:=
 bindK (Z3k rules user v c.table) fun q=>bif !q.2 then some 17 else bif !q.1.write then some 17 else bindK (Z05 s c.table) fun p=>getK s.tables p.1 fun T=>
  bif c.kind == 1 then (bif (c.row.length:Int) != T.cols.length then some 3 else bindK (Z2k T c.row) fun key=>m_auth T q.1 key) else m_auth T q.1 c.key
theorem Zcj (s:Sch) (rules:List Rule) (user:ByteArray) (v:Int) (c:Chg) (r:Int) (hm:Is (Z3x s rules user v c) r) :
  PSpec Tryz.prog 80 [.agg s.enc,.one (.d (.sl (rules.map Rule.enc))),.one (.d (.str user)),.one (.d (.int .i64 v)),.agg c.enc] (.one (.d (.int .i64 r))):=by
 unfold Z3x at hm
 refine PSpec.of_heap ?_
 show HSpec _ _ [.agg (s.enc.map C.d),.one (.d (.sl (rules.map Rule.enc))),.one (.d (.str user)),.one (.d (.int .i64 v)),.agg (c.enc.map C.d)] HS.init _
 refine HSpec.of_vc Tryz.func80 rfl (by kernel_rfl) (n:=94) rfl rfl (by simp) ?_
 obtain⟨q,hq,hm⟩:=hm.bind
 obtain⟨ru,gr⟩:=q
 simp only at hm
 simp
 refine Z3e (Z6m rules user v c.table _ hq) (by simp) ?_
 simp
 refine Z0b hm ?_ ?_<;>clear hm<;>intro hc1 hm
 ·obtain rfl:=r_ret hm
  simp[hc1]
  exact Frz.data rfl
 simp[hc1]
 refine r_cond hm ?_ ?_<;>clear hm<;>intro hc2 hm
 ·obtain rfl:=r_ret hm
  simp[hc2]
  exact Frz.data rfl
 replace hm:=hm.bind
 obtain⟨⟨pi,pb⟩,hp,hm⟩:=hm
 replace hm:=hm.get
 obtain⟨T,hp0,hT,hm⟩:=hm
 simp only at hp0 hT hm
 obtain⟨pn,rfl⟩:∃ n:Nat,pi=n:=⟨pi.toNat,by omega⟩
 simp only[Int.toNat_natCast] at hT
 simp[hc2]
 refine Z3e (Z06 s c.table _ hp) (by simp) ?_
 simp[hT]
 refine r_cond hm ?_ ?_<;>clear hm<;>intro hc3 hm
 ·simp[hc3]
  intro hcl hrl
  refine r_cond hm ?_ ?_<;>clear hm<;>intro hc4 hm
  ·obtain rfl:=r_ret hm
   simp[hc4]
   exact Frz.data rfl
  obtain⟨key,hkey,hm⟩:=hm.bind
  simp[hc4]
  refine Z3e (Z5s T c.row key hkey) (by simp) ?_
  simp
  intro hkl hpl
  unfold m_auth at hm
  refine r_cond hm ?_ ?_<;>clear hm<;>intro hc5 hm
  ·obtain rfl:=r_ret hm
   simp[hc5]
   exact Frz.data rfl
  simp[hc5]
  intro hTl
  refine⟨by omega,fun hpl2=>?_⟩
  refine Wait.for (xs:=T.pk) (s0:=List.replicate T.cols.length ⟨0,0,ByteArray.empty⟩) (fun i row e h=>row.length=T.cols.length∧MR h 3 (.mrow (7,1168) 0 T.cols.length T.cols.length) ((row.map GV.enc).map (·.map C.d))∧h.box (7,1168)=some (rowBox ((row.map GV.enc).map (·.map C.d)) [])∧h.box (3,176)=some (ru.enc.map C.d)∧e.n=94 ∧
   e.get 11=.one (.ptr (3,176) 0)∧e.get 16=.one (.own (6,1009) (key.map GV.enc))∧e.get 17=.one (.mrow (7,1168) 0 T.cols.length T.cols.length)∧e.get 75=.one (.d (.sl (T.pk.map encI)))∧e.get 76=.one (.d (.int .i64 (T.pk.length:Int)))∧e.get 77=.one (.d (.int .i64 (i:Int)))) hm ?_ ?_ ?_
  ·have h0:(List.replicate T.cols.length [C.d (.int .i64 0),C.d (.int .i64 0),C.d (.str ByteArray.empty)])=((List.replicate T.cols.length (GV.mk 0 0 ByteArray.empty)).map GV.enc).map (·.map C.d):=by simp[GV.enc]
   have h1:∀ h:HS,h.box (7,1168)=some ((List.replicate T.cols.length [C.d (.int .i64 0),C.d (.int .i64 0),C.d (.str ByteArray.empty)]).flatten)→h.box (7,1168)=some (rowBox (((List.replicate T.cols.length (GV.mk 0 0 ByteArray.empty)).map GV.enc).map (·.map C.d)) []):=fun h h9=>by
    rw[h9,h0,rowBox,List.append_nil]
   refine⟨by simp,⟨gv_all _,by simpa using hTl,.inr ⟨(7,1168),T.cols.length,[],by simp,h1 _ (by simp),by rw[Z04 (gv_all _)];simp⟩⟩,h1 _ (by simp),by simp[Rule.enc],by simp,by simp,by simp,by simp,by simp,by simp,by simp⟩
  ·clear hm
   rintro i row e h ⟨hrl9,hmr,hb,b11,hn,h11,h16,h17,h75,h76,h77⟩ hlt hm
   have hw:IntKind.i64.wrap ((i:Int)+1)=(i:Int)+1:=IntWalk.i64_in _ (by omega)
   obtain⟨x,hx,hm⟩:=hm.getN
   obtain⟨⟨hp0,hp1⟩,hm⟩:=hm.chk
   have hcd:0≤T.pk[i]∧T.pk[i].toNat < T.cols.length:=⟨hp0,by omega⟩
   have hlen3:=Z7w (sp:=[]) hmr.1 (k:=T.pk[i].toNat) (by simp;omega)
   have hset3:Z03 (rowBox ((row.map GV.enc).map (·.map C.d)) []) (T.pk[i].toNat * 3) (x.enc.map C.d)=rowBox (((row.set T.pk[i].toNat x).map GV.enc).map (·.map C.d)) []:=by
    rw[Z93 hmr.1 (by simp;omega) rfl,List.map_set,List.map_set]
   have hmr3:∀ h:HS,h.box (7,1168)=some (rowBox (((row.set T.pk[i].toNat x).map GV.enc).map (·.map C.d)) [])→MR h 3 (.mrow (7,1168) 0 T.cols.length T.cols.length) (((row.set T.pk[i].toNat x).map GV.enc).map (·.map C.d)):=fun h h9=>
    ⟨gv_all _,by simp[hrl9];exact hTl,.inr ⟨(7,1168),T.cols.length,[],by simp[hrl9],h9,by rw[Z04 (gv_all _)];simp[hrl9]⟩⟩
   simp only[List.map_map,GV.enc,List.map_cons,List.map_nil] at hb hlen3 hset3
   simp[hn,h11,h16,h17,h75,h76,h77,hlt,hx,hb,hcd]
   refine⟨by omega,?_⟩
   rw[hset3]
   exact BackF.of (row.set T.pk[i].toNat x) ⟨⟨by simpa using hrl9,hmr3 _ (by simp),by simp,by simp[b11],by simp[hn],by simp[h11],by simp[h16],by simp[h17],by simp[h75],by simp[h76],by simp[hw]⟩,hm⟩
  ·clear hm
   rintro row e h ⟨hrl9,hmr,hb,b11,hn,h11,h16,h17,h75,h76,h77⟩ hm
   obtain⟨b,hbv,hm⟩:=hm.bind
   simp only[Rule.enc,List.map_cons,List.map_nil] at b11
   simp[hn,h11,h16,h17,h75,h76,h77,b11]
   refine Z02 (HSpec.of_lend (Z7c ru row b hbv) ⟨.agg (FrzCs.datas (ds:=ru.enc)),.one (.frz (gv_frz hrl9 hmr)),trivial⟩ rfl ?_)
   simp[hn,h11,h16,h17,h75,h76,h77,b11]
   refine r_cond hm ?_ ?_<;>clear hm<;>intro hc6 hm
   ·obtain rfl:=r_ret hm
    simp[hn,hc6]
    exact Frz.data rfl
   ·obtain rfl:=r_ret hm
    simp[hn,hc6]
    exact Frz.data rfl
 ·generalize c.key=key at hm ⊢
  simp[hc3]
  intro hkl hpl
  unfold m_auth at hm
  refine r_cond hm ?_ ?_<;>clear hm<;>intro hc5 hm
  ·obtain rfl:=r_ret hm
   simp[hc5]
   exact Frz.data rfl
  simp[hc5]
  intro hTl
  refine⟨by omega,fun hpl2=>?_⟩
  refine Wait.for (xs:=T.pk) (s0:=List.replicate T.cols.length ⟨0,0,ByteArray.empty⟩) (fun i row e h=>row.length=T.cols.length∧MR h 3 (.mrow (6,1168) 0 T.cols.length T.cols.length) ((row.map GV.enc).map (·.map C.d))∧h.box (6,1168)=some (rowBox ((row.map GV.enc).map (·.map C.d)) [])∧h.box (3,176)=some (ru.enc.map C.d)∧e.n=94 ∧
   e.get 11=.one (.ptr (3,176) 0)∧e.get 16=.one (.d (.sl (key.map GV.enc)))∧e.get 17=.one (.mrow (6,1168) 0 T.cols.length T.cols.length)∧e.get 75=.one (.d (.sl (T.pk.map encI)))∧e.get 76=.one (.d (.int .i64 (T.pk.length:Int)))∧e.get 77=.one (.d (.int .i64 (i:Int)))) hm ?_ ?_ ?_
  ·have h0:(List.replicate T.cols.length [C.d (.int .i64 0),C.d (.int .i64 0),C.d (.str ByteArray.empty)])=((List.replicate T.cols.length (GV.mk 0 0 ByteArray.empty)).map GV.enc).map (·.map C.d):=by simp[GV.enc]
   have h1:∀ h:HS,h.box (6,1168)=some ((List.replicate T.cols.length [C.d (.int .i64 0),C.d (.int .i64 0),C.d (.str ByteArray.empty)]).flatten)→h.box (6,1168)=some (rowBox (((List.replicate T.cols.length (GV.mk 0 0 ByteArray.empty)).map GV.enc).map (·.map C.d)) []):=fun h h9=>by
    rw[h9,h0,rowBox,List.append_nil]
   refine⟨by simp,⟨gv_all _,by simpa using hTl,.inr ⟨(6,1168),T.cols.length,[],by simp,h1 _ (by simp),by rw[Z04 (gv_all _)];simp⟩⟩,h1 _ (by simp),by simp[Rule.enc],by simp,by simp,by simp,by simp,by simp,by simp,by simp⟩
  ·clear hm
   rintro i row e h ⟨hrl9,hmr,hb,b11,hn,h11,h16,h17,h75,h76,h77⟩ hlt hm
   have hw:IntKind.i64.wrap ((i:Int)+1)=(i:Int)+1:=IntWalk.i64_in _ (by omega)
   obtain⟨x,hx,hm⟩:=hm.getN
   obtain⟨⟨hp0,hp1⟩,hm⟩:=hm.chk
   have hcd:0≤T.pk[i]∧T.pk[i].toNat < T.cols.length:=⟨hp0,by omega⟩
   have hlen3:=Z7w (sp:=[]) hmr.1 (k:=T.pk[i].toNat) (by simp;omega)
   have hset3:Z03 (rowBox ((row.map GV.enc).map (·.map C.d)) []) (T.pk[i].toNat * 3) (x.enc.map C.d)=rowBox (((row.set T.pk[i].toNat x).map GV.enc).map (·.map C.d)) []:=by
    rw[Z93 hmr.1 (by simp;omega) rfl,List.map_set,List.map_set]
   have hmr3:∀ h:HS,h.box (6,1168)=some (rowBox (((row.set T.pk[i].toNat x).map GV.enc).map (·.map C.d)) [])→MR h 3 (.mrow (6,1168) 0 T.cols.length T.cols.length) (((row.set T.pk[i].toNat x).map GV.enc).map (·.map C.d)):=fun h h9=>
    ⟨gv_all _,by simp[hrl9];exact hTl,.inr ⟨(6,1168),T.cols.length,[],by simp[hrl9],h9,by rw[Z04 (gv_all _)];simp[hrl9]⟩⟩
   simp only[List.map_map,GV.enc,List.map_cons,List.map_nil] at hb hlen3 hset3
   simp[hn,h11,h16,h17,h75,h76,h77,hlt,hx,hb,hcd]
   refine⟨by omega,?_⟩
   rw[hset3]
   exact BackF.of (row.set T.pk[i].toNat x) ⟨⟨by simpa using hrl9,hmr3 _ (by simp),by simp,by simp[b11],by simp[hn],by simp[h11],by simp[h16],by simp[h17],by simp[h75],by simp[h76],by simp[hw]⟩,hm⟩
  ·clear hm
   rintro row e h ⟨hrl9,hmr,hb,b11,hn,h11,h16,h17,h75,h76,h77⟩ hm
   obtain⟨b,hbv,hm⟩:=hm.bind
   simp only[Rule.enc,List.map_cons,List.map_nil] at b11
   simp[hn,h11,h16,h17,h75,h76,h77,b11]
   refine Z02 (HSpec.of_lend (Z7c ru row b hbv) ⟨.agg (FrzCs.datas (ds:=ru.enc)),.one (.frz (gv_frz hrl9 hmr)),trivial⟩ rfl ?_)
   simp[hn,h11,h16,h17,h75,h76,h77,b11]
   refine r_cond hm ?_ ?_<;>clear hm<;>intro hc6 hm
   ·obtain rfl:=r_ret hm
    simp[hn,hc6]
    exact Frz.data rfl
   ·obtain rfl:=r_ret hm
    simp[hn,hc6]
    exact Frz.data rfl
end Go.Proofs.YthgepknlibmjcaaGreat
end
section
namespace Go.Proofs.YthgepknlibmjcaaGreat
open Go.Am
def Z2z (g_:Gr) (rules:List Rule) (user:ByteArray) (v_:Int) (changes:List Chg):Option Int:=
 (bindK (Z0n g_ rules) fun v2=>(bif (v2 != 0) then (some v2) else (bindK (Z0h g_ v_) fun v4=>(bif (v4.2 != 0) then (some v4.2) else (bif decide (24 < (changes.length:Int)) then (some 2) else (forK (fun (i10:Nat) (x10:Chg) (s10:Unit) next_10=>(bindK (Z3x v4.1 rules user v_ x10) fun v12=>(bif (v12 != 0) then (some v12) else (next_10 ())))) (fun (s10:Unit)=>(some 0)) changes 0 ()))))))
theorem Z8j (g_:Gr) (rules:List Rule) (user:ByteArray) (v_:Int) (changes:List Chg) (r:Int) (hm:Is (Z2z g_ rules user v_ changes) r):PSpec Tryz.prog 34 [.agg g_.enc,.one (.d (.sl (rules.map Rule.enc))),.one (.d (.str user)),.one (.d (.int .i64 v_)),.one (.d (.sl (changes.map Chg.enc)))] (.one (.d (.int .i64 r))):=by
 unfold Z2z at hm
 refine PSpec.of_vc Tryz.func34 rfl (by kernel_rfl) (n:=51) rfl rfl (by simp) ?_
 try simp[*]
 refine r_call (av:=[.agg g_.enc,.one (.d (.sl (rules.map Rule.enc)))]) hm (fun v hv=>Z9d _ _ v hv) (by simp[*]) ?_
 clear hm;intro v2 hvv2 hm
 try simp[*]
 refine r_cond hm ?_ ?_<;>clear hm<;>intro hc3 hm
 ·try simp[*]
  obtain rfl:=r_ret hm
  exact ret0 (vs:=[_]) (by simp[*];try exact rfl) (by simp[*])
 ·try simp[*]
  refine r_call (av:=[.agg g_.enc,.one (.d (.int .i64 v_))]) hm (fun v hv=>Z5d _ _ v hv) (by simp[*]) ?_
  clear hm;intro v4 hvv4 hm
  try simp[*]
  refine r_cond hm ?_ ?_<;>clear hm<;>intro hc6 hm
  ·try simp[*]
   obtain rfl:=r_ret hm
   exact ret0 (vs:=[_]) (by simp[*];try exact rfl) (by simp[*])
  ·try simp[*]
   intro hl7
   replace hl7:changes.length≤2097152:=by simpa using hl7
   refine r_cond hm ?_ ?_<;>clear hm<;>intro hc8 hm
   ·try simp[*]
    obtain rfl:=r_ret hm
    exact ret0 (vs:=[_]) (by simp[*];try exact rfl) (by simp[*])
   ·try simp[*]
    refine Wait.for (xs:=changes) (s0:=()) (fun i10 s10 e10 h10=>e10.n=51∧e10.get 1=.one (.d (.sl (rules.map Rule.enc)))∧e10.get 2=.one (.d (.str user))∧e10.get 3=.one (.d (.int .i64 v_))∧e10.get 12=.one (.ptr (3,192) 0)∧e10.get 35=.one (.d (.sl (changes.map Chg.enc)))∧e10.get 36=.one (.d (.int .i64 (changes.length:Int)))∧e10.get 37=.one (.d (.int .i64 (i10:Int)))∧h10.box (3,192)=some [.d (.sl (v4.1.tables.map Tbl.enc)),.d (.sl (v4.1.fks.map Fk.enc)),.d (.sl (v4.1.cons.map Cons.enc))]) hm (by simp[*]) ?_ ?_
    ·rintro i10 s10 e10 h10 ⟨hn10,h10_1,h10_2,h10_3,h10_12,h10_35,h10_36,h10_37,hb10_b5⟩ hlt10 hm
     have hw10:IntKind.i64.wrap ((i10:Int)+1)=(i10:Int)+1:=IntWalk.i64_in _ (by omega)
     try simp[*]
     refine r_call (av:=[.agg v4.1.enc,.one (.d (.sl (rules.map Rule.enc))),.one (.d (.str user)),.one (.d (.int .i64 v_)),.agg (changes[i10]).enc]) hm (fun v hv=>Zcj _ _ _ _ _ v hv) (by simp[*]) ?_
     clear hm;intro v12 hvv12 hm
     try simp[*]
     refine r_cond hm ?_ ?_<;>clear hm<;>intro hc13 hm
     ·try simp[*]
      obtain rfl:=r_ret hm
      exact ret0 (vs:=[_]) (by simp[*];try exact rfl) (by simp[*])
     ·try simp[*]
      exact BackF.of () ⟨(by simp[*]),hm⟩
    ·rintro s10 e10 h10 ⟨hn10,h10_1,h10_2,h10_3,h10_12,h10_35,h10_36,h10_37,hb10_b5⟩ hm
     try simp[*]
     obtain rfl:=r_ret hm
     exact ret0 (vs:=[_]) (by simp[*];try exact rfl) (by simp[*])
end Go.Proofs.YthgepknlibmjcaaGreat
end
section
namespace Go.Proofs.YthgepknlibmjcaaGreat
open Go Go.Am
structure CS (S:Sch) (c:Chg) (out out':List Rel) (k:Nat) (T:Tbl) (o:Rel) (rows:List (List GV)):Prop where
 ft:Z05 S c.table=some ((k:Int),true)
 t:S.tables[k]?=some T
 nm:strEq T.name c.table=true
 ok:out[k]?=some o
 eq:out'=out.set k ⟨o.table,rows⟩
 up:c.kind=1→CR T c.row∧∃ a b os,Mid T o.rows (keyF T c.row) a b os∧rows=a++c.row::b
 dl:c.kind≠1→∃ a b x,Mid T o.rows c.key a b [x]∧rows=a++b
theorem CF.set {S:Sch} {out:List Rel} {k:Nat} {T:Tbl} {o:Rel} {rows:List (List GV)} (h:CF S out) (hT:S.tables[k]?=some T) (ho:out[k]?=some o) (hl:rows.length≤24) (hr:∀ row ∈ rows,CR T row) (ha:AscP T rows):CF S (out.set k ⟨o.table,rows⟩):=by
 have at':∀ (i:Nat) (x:Rel),(out.set k ⟨o.table,rows⟩)[i]?=some x→(i=k∧x=⟨o.table,rows⟩)∨(i≠k∧out[i]?=some x):=fun i x hx=>by
  rw[List.getElem?_set] at hx
  by_cases hk:k=i
  ·subst hk
   have:=(List.getElem?_eq_some_iff.1 ho).1
   simp[this] at hx
   exact .inl ⟨rfl,hx.symm⟩
  ·rw[if_neg hk] at hx
   exact .inr ⟨fun h=>hk h.symm,hx⟩
 refine⟨by simpa using h.len,fun i x T' hx hT'=>?_,fun x hx=>?_,fun i x T' hx hT'=>?_,fun i x T' hx hT'=>?_⟩
 ·rcases at' i x hx with ⟨rfl,rfl⟩ | ⟨_,h1⟩
  ·exact h.name i o T' ho hT'
  ·exact h.name i x T' h1 hT'
 ·obtain⟨i,hi,rfl⟩:=List.getElem_of_mem hx
  rcases at' i _ (List.getElem?_eq_getElem hi) with ⟨_,h1⟩ | ⟨_,h1⟩
  ·rw[h1];exact hl
  ·exact h.l24 _ (List.mem_of_getElem? h1)
 ·rcases at' i x hx with ⟨rfl,rfl⟩ | ⟨_,h1⟩
  ·rw[hT] at hT';cases hT';exact hr
  ·exact h.row i x T' h1 hT'
 ·rcases at' i x hx with ⟨rfl,rfl⟩ | ⟨_,h1⟩
  ·rw[hT] at hT';cases hT';exact ha.asc
  ·exact h.asc i x T' h1 hT'
theorem Zfr {T:Tbl} (hT:VT T) (key:List GV):Wp (Z0x T key) fun _=>True:=by
 unfold Z0x
 refine Wp.cond (fun _=>Wp.ret trivial) fun h=>Wp.for (fun _ _=>True) trivial ?_ fun _ _=>Wp.ret trivial
 intro i x s next hx hm _ hn
 have hl:key.length=T.pk.length:=by simp at h;omega
 have hi:=(List.getElem?_eq_some_iff.1 hx).1
 have hp:T.pk[i]?=some T.pk[i]:=List.getElem?_eq_getElem (by omega)
 have h1:=hT.pk _ (List.mem_of_getElem? hp)
 refine Wp.bind (Z32 _) fun _ _ _=>Wp.cond (fun _=>Wp.ret trivial) fun _=>Wp.getN hp (Wp.get h1.1 h1.2 fun _ _ _=>Wp.cond (fun _=>Wp.ret trivial) fun _=>hn () trivial)
theorem Zji {S:Sch} (hS:VS S) (c:Chg):Wp (Z4c S c) fun e=>e=0→∃ (k:Nat) (T:Tbl),Z05 S c.table=some ((k:Int),true)∧S.tables[k]?=some T∧strEq T.name c.table=true∧(c.kind=1→CR T c.row):=by
 have ft:∀ (K:Tbl→Option Int),(∀ T ∈ S.tables,Wp (K T) fun e=>e=0→c.kind=1→CR T c.row)→Wp (bindK (Z05 S c.table) fun v=>bif !v.2 then some 4 else getK S.tables v.1 fun x=>K x) fun e=>e=0→∃ (k:Nat) (T:Tbl),Z05 S c.table=some ((k:Int),true)∧S.tables[k]?=some T∧strEq T.name c.table=true∧(c.kind=1→CR T c.row):=fun K hK=>by
  refine Wp.bind (Z2g S c.table) fun v hv0 hv=>Wp.cond (fun _=>Wp.ret (by simp)) fun h=>?_
  have h2:v.2=true:=by simpa using h
  obtain⟨hlt,T0,hT0,hn⟩:=hv.2.1 h2
  refine Wp.get hv.1 hlt fun T hT hTm=>(hK T hTm).mono fun e _ he h0=>⟨v.1.toNat,T,?_,hT,?_,he h0⟩
  ·rw[hv0,Int.toNat_of_nonneg hv.1,← h2]
  ·rw[hT0] at hT;cases hT;exact hn
 have k1:=ft (fun x=>bindK (Z0f x c.row) fun v=>some v) fun T _=>Wp.bind (Zbz T c.row) fun e _ he=>Wp.ret fun h0 _=>he h0
 have k2:c.kind≠1→_:=fun h=>ft (fun x=>bindK (Z0x x c.key) fun v=>some v) fun T hT=>Wp.bind (Zfr (hS.tab T hT) c.key) fun _ _ _=>Wp.ret fun _ h1=>absurd h1 h
 have r3:∀ {Q:Int→Prop} (_:Q 3),Wp (some (3:Int)) Q:=fun h=>Wp.ret h
 unfold Z4c
 refine Wp.cond (fun _=>Wp.cond (fun _=>Wp.ret (by simp)) fun _=>Wp.cond (fun _=>Wp.cond (fun _=>Wp.ret (by simp)) fun _=>Wp.cond (fun _=>Wp.cond (fun _=>Wp.ret (by simp)) fun _=>k1) fun _=>k1) fun _=>Wp.cond (fun _=>Wp.cond (fun _=>Wp.ret (by simp)) fun _=>k1) fun _=>k1) fun h=>?_
 have h1:c.kind≠1:=by simpa using h
 exact Wp.cond (fun _=>Wp.cond (fun _=>Wp.ret (by simp)) fun _=>Wp.cond (fun _=>Wp.cond (fun _=>Wp.ret (by simp)) fun _=>k2 h1) fun _=>k2 h1) fun _=>Wp.cond (fun _=>Wp.cond (fun _=>Wp.ret (by simp)) fun _=>k2 h1) fun _=>k2 h1
theorem w_chg {ρ:Type} {Q:ρ→Prop} {S:Sch} (hS:VS S) (c:Chg) (out:List Rel) (hC:CF S out) (next:List Rel→Option ρ) (bad:Int→Option ρ) (hb:∀ e,e≠0→Wp (bad e) Q)
  (hn:∀ out' k T o rows,CS S c out out' k T o rows→CF S out'→Wp (next out') Q):Wp (m_chg S c out next bad) Q:=by
 unfold m_chg
 refine Wp.bind (Zji hS c) fun e _ he=>Wp.cond (fun h=>hb e (by simpa using h)) fun h0=>?_
 obtain⟨k,T,hft,hT,hnm,hcr⟩:=he (by simpa using h0)
 rw[hft]
 show Wp (getK S.tables (k:Int) _) _
 have hk:=(List.getElem?_eq_some_iff.1 hT).1
 have hol:=hC.len
 have ho:out[k]?=some out[k]:=List.getElem?_eq_getElem (by omega)
 generalize out[k]=o at ho
 have hVT:=hS.tab T (List.mem_of_getElem? hT)
 have h24:=hC.l24 o (List.mem_of_getElem? ho)
 have hasc:=(hC.asc k o T ho hT).pw
 have hrow:=hC.row k o T ho hT
 refine Wp.getN hT (Wp.getN ho (Wp.cond (fun h1=>?_) fun h1=>?_))
 ·have hk1:c.kind=1:=by simpa using h1
  refine Wp.bind (Zpg T o.rows c.row hVT.pk6 h24 hasc) fun rows _ hr=>Wp.cond (fun _=>hb 2 (by decide)) fun h2=>?_
  obtain⟨a,b,os,hm,rfl⟩:=hr
  refine hn _ k T o _ ⟨hft,hT,hnm,ho,rfl,fun _=>⟨hcr hk1,a,b,os,hm,rfl⟩,fun h=>absurd hk1 h⟩ (hC.set hT ho (by simp at h2;simp;omega) (fun row hr=>?_) (hm.put hasc rfl))
  rcases List.mem_append.1 hr with h3 | h3
  ·exact hrow row (by rw[hm.eq];simp[h3])
  ·rcases List.mem_cons.1 h3 with rfl | h4
   ·exact hcr hk1
   ·exact hrow row (by rw[hm.eq];simp[h4])
 ·have hk1:c.kind≠1:=by simpa using h1
  refine Wp.bind (Zph T o.rows c.key hVT.pk6 h24 hasc) fun d _ hd=>Wp.cond (fun _=>hb 9 (by decide)) fun h2=>?_
  obtain⟨a,b,x,hm,hq⟩:=hd (by simpa using h2)
  have hle:(a++b).length≤24:=by
   have:=congrArg List.length hm.eq
   simp at this
   simp
   omega
  refine hn _ k T o _ ⟨hft,hT,hnm,ho,rfl,fun h=>absurd h hk1,fun _=>⟨a,b,x,hm,hq⟩⟩ (hC.set hT ho (by rw[hq];exact hle) (fun row hr=>?_) (by rw[hq];exact hm.del hasc))
  rw[hq] at hr
  rcases List.mem_append.1 hr with h3 | h3
  ·exact hrow row (by rw[hm.eq];simp[h3])
  ·exact hrow row (by rw[hm.eq];simp[h3])
inductive Runs (S:Sch) (o:List Rel):List Chg→List Rel→Prop
 | nil:Runs S o [] o
 | snoc {cs:List Chg} {o' o'':List Rel} {c:Chg} {k:Nat} {T:Tbl} {x:Rel} {rows:List (List GV)} (h:Runs S o cs o') (s:CS S c o' o'' k T x rows):Runs S o (cs++[c]) o''
theorem Zfd {S:Sch} (hS:VS S) (inst:List Rel) (cs:List Chg):Wp (Z4q S inst cs) fun q=>q.2=0→CF S inst∧Z0c S inst=some 0∧CF S q.1∧Runs S inst cs q.1:=by
 unfold Z4q
 rw[hS.ok]
 show Wp (bindK (Z0c S inst) _) _
 refine Wp.bind (Zfe S (fun T hT=>(hS.tab T hT).pk6) inst) fun e he0 he=>Wp.cond (fun h=>Wp.ret fun h0=>by simp only at h0;rw[h0] at h;cases h) fun h0=>?_
 obtain rfl:e=0:=by simpa using h0
 have hC:=he rfl
 have hl:=hC.len
 have h6:=hS.t6
 refine Wp.cond (fun _=>Wp.ret (by simp)) fun _=>Wp.bind (Zdg inst (by omega) fun x hx=>by have:=hC.l24 x hx;omega) fun o _ ho=>?_
 subst ho
 refine Wp.for (fun i out=>CF S out∧Runs S o (cs.take i) out) ⟨hC,by simpa using Runs.nil⟩ ?_ fun out hI=>Wp.ret fun _=>⟨hC,he0,hI.1,by simpa using hI.2⟩
 rintro i c out next hc hcm ⟨h1,h2⟩ hn
 refine w_chg hS c out h1 _ _ (fun e he=>Wp.ret fun h=>absurd h he) fun out' k T x rows hcs hC'=>hn out' ⟨hC',?_⟩
 obtain⟨h8,h9⟩:=List.getElem?_eq_some_iff.1 hc
 rw[List.take_succ_eq_append_getElem h8,h9]
 exact .snoc h2 hcs
theorem asc_lt {xs:List Int} (h:∀ (i:Nat) (a b:Int),xs[i]?=some a→xs[i+1]?=some b→a < b):∀ (n i:Nat) (a b:Int),xs[i]?=some a→xs[i+1+n]?=some b→a < b:=by
 intro n
 induction n with
 | zero=>intro i a b ha hb;exact h i a b ha hb
 | succ n ih=>
   intro i a b ha hb
   have hl:=(List.getElem?_eq_some_iff.1 hb).1
   have hc:xs[i+1+n]?=some xs[i+1+n]:=List.getElem?_eq_getElem (by omega)
   have e1:=ih i a _ ha hc
   have e2:=h (i+1+n) _ b hc hb
   omega
theorem Zp4 {row:List GV} {p q:Int} {x:GV} (hp:0≤p) (hq:p < row.length) (h0:0≤q):cellF (row.set p.toNat x) q=if p=q then x else cellF row q:=by
 unfold cellF
 rw[if_pos h0,if_pos h0,List.getElem?_set]
 by_cases h:p=q
 ·subst h
  rw[if_pos rfl,if_pos (by omega),if_pos rfl]
  rfl
 ·rw[if_neg (by omega),if_neg h]
theorem w_auth {T:Tbl} {r:Rule} (hT:VT T) (hp:∀ p ∈ r.preds,VP T p) (key:List GV):Wp (m_auth T r key) fun e=>e=0→∃ row:List GV,row.length=T.cols.length∧keyF T row=key∧mtch r row=true:=by
 unfold m_auth
 refine Wp.cond (fun _=>Wp.ret (by simp)) fun h=>?_
 have hl:key.length=T.pk.length:=by simp at h;omega
 refine Wp.for (fun i (row:List GV)=>row.length=T.cols.length∧∀ (j:Nat) (p:Int),j < i→T.pk[j]?=some p→key[j]?=some (cellF row p)) ⟨by simp,by intro j p h;omega⟩ ?_ ?_
 ·rintro i p row next hx hm ⟨h1,h2⟩ hn
  have hi:=(List.getElem?_eq_some_iff.1 hx).1
  have hk:key[i]?=some key[i]:=List.getElem?_eq_getElem (by omega)
  have h3:=hT.pk p hm
  refine Wp.getN hk (Wp.chk ⟨h3.1,by omega⟩ (hn _ ⟨by simpa using h1,fun j q hj hq=>?_⟩))
  have h4:=hT.pk q (List.mem_of_getElem? hq)
  rw[Zp4 h3.1 (by omega) h4.1]
  rcases Nat.lt_or_ge j i with h5 | h5
  ·have h6:=asc_lt hT.asc (i - (j+1)) j q p hq (by rw[show j+1+(i - (j+1))=i by omega];exact hx)
   rw[if_neg (by omega)]
   exact h2 j q h5 hq
  ·obtain rfl:j=i:=by omega
   rw[hx] at hq
   cases hq
   rw[if_pos rfl]
   exact hk
 ·rintro row ⟨h1,h2⟩
  rw[Zfj hT.pk hp h1]
  show Wp (bif !(mtch r row) then _ else _) _
  refine Wp.cond (fun _=>Wp.ret (by simp)) fun h3=>Wp.ret fun _=>⟨row,h1,?_,by simpa using h3⟩
  refine List.ext_getElem? fun j=>?_
  unfold keyF
  rw[List.getElem?_map]
  rcases Nat.lt_or_ge j T.pk.length with h4 | h4
  ·have hq:T.pk[j]?=some T.pk[j]:=List.getElem?_eq_getElem h4
   rw[hq,h2 j _ h4 hq]
   rfl
  ·rw[List.getElem?_eq_none h4,List.getElem?_eq_none (by omega)]
   rfl
theorem rule_at {g:Gr} {rules:List Rule} {Ss:List Sch} {S:Sch} {v:Int} {user nm:ByteArray} {r:Rule} (hR:VRs g rules Ss) (hS:Ss[v.toNat]?=some S) (hl:lk rules user v nm=some r):∃ k T,VR Ss r S k T∧Z05 S nm=some (k,true):=by
 have hp:lkP user v nm r=true:=List.find?_some hl
 simp only[lkP,Bool.and_eq_true,beq_iff_eq] at hp
 obtain⟨S',k,T,h⟩:=hR.r r (List.mem_of_find?_eq_some hl)
 have e:S'=S:=by
  have:=h.s
  rw[hp.2.1,hS] at this
  cases this
  rfl
 subst e
 exact⟨k,T,h,by rw[← Zd0 hp.2.2];exact h.ft⟩
structure AU (S:Sch) (rules:List Rule) (user:ByteArray) (v:Int) (c:Chg) (r:Rule) (T:Tbl) (row:List GV):Prop where
 l:lk rules user v c.table=some r
 ft:∃ k:Int,Z05 S c.table=some (k,true)∧S.tables[k.toNat]?=some T
 pr:∀ p ∈ r.preds,VP T p
 len:row.length=T.cols.length
 m:mtch r row=true
 up:c.kind=1→c.row.length=T.cols.length∧keyF T row=keyF T c.row
 dl:c.kind≠1→keyF T row=c.key
theorem Zht {g:Gr} {rules:List Rule} {Ss:List Sch} {S:Sch} {v:Int} {user:ByteArray} (hR:VRs g rules Ss) (hS:Ss[v.toNat]?=some S) (hV:VS S) (c:Chg):Wp (Z3x S rules user v c) fun e=>e=0→∃ r T row,AU S rules user v c r T row:=by
 unfold Z3x
 rw[Z94]
 cases hl:lk rules user v c.table with
 | none=>exact⟨17,rfl,by simp⟩
 | some r=>
   refine Wp.bind (R:=fun q=>q=(r,true)) ⟨_,rfl,rfl⟩ fun q _ hq=>?_
   subst hq
   refine Wp.cond (fun h=>by cases h) fun _=>Wp.cond (fun _=>Wp.ret (by simp)) fun _=>?_
   obtain⟨k,T,hr,hft⟩:=rule_at hR hS hl
   rw[hft]
   show Wp (getK S.tables k _) _
   have hT:=hV.tab T (List.mem_of_getElem? hr.t)
   have hk:=(List.getElem?_eq_some_iff.1 hr.t).1
   refine Wp.get hr.k0 (by have:=hr.k0;omega) fun T' hT' _=>?_
   obtain rfl:T=T':=by
    have:=hr.t
    rw[hT'] at this
    cases this
    rfl
   refine Wp.cond (fun h1=>Wp.cond (fun _=>Wp.ret (by simp)) fun h2=>Wp.bind (w_Key T c.row (by have:=hT.pk6;omega)) fun key _ hkey=>(w_auth hT hr.pr key).mono fun e _ he h0=>?_) fun h1=>(w_auth hT hr.pr c.key).mono fun e _ he h0=>?_
   ·have hk1:c.kind=1:=by simpa using h1
    obtain⟨row,a1,a2,a3⟩:=he h0
    exact⟨r,T,row,hl,⟨k,hft,hr.t⟩,hr.pr,a1,a3,fun _=>⟨by simp at h2;omega,by rw[a2,hkey]⟩,fun h=>absurd hk1 h⟩
   ·have hk1:c.kind≠1:=by simpa using h1
    obtain⟨row,a1,a2,a3⟩:=he h0
    exact⟨r,T,row,hl,⟨k,hft,hr.t⟩,hr.pr,a1,a3,fun h=>absurd h hk1,fun _=>a2⟩
theorem Zdv (g:Gr) (hx:∀ e ∈ g.edges,∀ x ∈ e.script,SmallX x) (rules:List Rule) (user:ByteArray) (v:Int) (cs:List Chg):Wp (Z2z g rules user v cs) fun e=>e=0→∃ Ss S,VRs g rules Ss∧Z0n g rules=some 0∧Z0h g v=some (S,0)∧Ss[v.toNat]?=some S∧VS S ∧
  ∀ c ∈ cs,∃ r T row,AU S rules user v c r T row:=by
 unfold Z2z
 refine Wp.bind (Z90 g hx rules) fun e he0 he=>Wp.cond (fun h=>Wp.ret fun h0=>by rw[h0] at h;cases h) fun h0=>?_
 obtain rfl:e=0:=by simpa using h0
 obtain⟨Ss,hR⟩:=he rfl
 refine Wp.bind (Z52 g hx v) fun q hq0 hq=>Wp.cond (fun h=>Wp.ret fun h0=>by rw[h0] at h;cases h) fun h1=>Wp.cond (fun _=>Wp.ret (by simp)) fun _=>?_
 obtain⟨S,e2⟩:=q
 obtain rfl:e2=0:=by simpa using h1
 obtain⟨Ss',hs1,hs2,hv0,hSv⟩:=hq rfl
 have hSS:=hR.ss
 rw[hs1] at hSS
 cases hSS
 have hV:=hs2 S (List.mem_of_getElem? hSv)
 refine Wp.for (fun i _=>∀ (j:Nat) (c:Chg),j < i→cs[j]?=some c→∃ r T row,AU S rules user v c r T row) (by intro j c h;omega) ?_ fun _ hI=>Wp.ret fun _=>⟨Ss,S,hR,he0,hq0,hSv,hV,Z5x hI⟩
 intro i c s next hc hcm hI hn
 exact Wp.bind (Zht hR hSv hV c) fun e _ he=>Wp.cond (fun h=>Wp.ret fun h0=>by rw[h0] at h;cases h) fun h2=>hn () (Z33 hI hc (he (by simpa using h2)))
theorem Zm5 {T:Tbl} {a b:List GV} (h:keyF T a=keyF T b):∀ c ∈ T.pk,cellF a c=cellF b c:=List.map_inj_left.1 h
theorem AU.row {S:Sch} {rules:List Rule} {user:ByteArray} {v:Int} {c:Chg} {r:Rule} {T:Tbl} {row:List GV} (h:AU S rules user v c r T row) (hT:VT T) {y:List GV} (hy:y.length=T.cols.length) (hk:keyF T y=if c.kind=1 then keyF T c.row else c.key):mtch r y=true:=by
 rw[← h.m]
 refine Zfi hT.pk h.pr hy h.len (Zm5 ?_)
 rw[hk]
 by_cases h1:c.kind=1
 ·rw[if_pos h1,(h.up h1).2]
 ·rw[if_neg h1,h.dl h1]
end Go.Proofs.YthgepknlibmjcaaGreat
end
section
namespace Go.Proofs.YthgepknlibmjcaaGreat
open Go.Am
def Z2j (s_:List Chg) (f:Chg→Option Bool):Option Int:=
 (forK (fun (i2:Nat) (x2:Chg) (s2:Unit) next_2=>(bindK (f x2) fun v3=>(bif v3 then (some (i2:Int)) else (next_2 ())))) (fun (s2:Unit)=>(some (-1))) s_ 0 ())
theorem Z8t (s_:List Chg) (g:FuncId) (caps:List (List D)) (f:Chg→Option Bool) (hf:∀ xa v,Is (f xa) v→PSpec Tryz.prog g (.agg xa.enc::capsOf caps) (.one (.d (.bool v)))) (r:Int) (hm:Is (Z2j s_ f) r):PSpec Tryz.prog 84 [.one (.d (.sl (s_.map Chg.enc))),.one (.fn g caps)] (.one (.d (.int .i64 r))):=by
 unfold Z2j at hm
 refine PSpec.of_vc Tryz.func84 rfl (by kernel_rfl) (n:=19) rfl rfl (by simp) ?_
 try simp[*]
 intro hl1
 replace hl1:s_.length≤2097152:=by simpa using hl1
 refine Wait.for (xs:=s_) (s0:=()) (fun i2 s2 e2 h2=>e2.n=19∧e2.get 0=.one (.d (.sl (s_.map Chg.enc)))∧e2.get 1=.one (.fn g (caps.map Cap.rp))∧e2.get 7=.one (.d (.int .i64 (s_.length:Int)))∧e2.get 8=.one (.d (.int .i64 (i2:Int)))) hm (by simp[*]) ?_ ?_
 ·rintro i2 s2 e2 h2 ⟨hn2,h2_0,h2_1,h2_7,h2_8⟩ hlt2 hm
  have hw2:IntKind.i64.wrap ((i2:Int)+1)=(i2:Int)+1:=IntWalk.i64_in _ (by omega)
  try simp[*]
  refine Z9i (av:=[.agg (s_[i2]).enc]) (cs:=caps) hm (fun v hv=>hf _ v hv) (by simp[*]) (by simp[*]) ?_
  clear hm;intro v3 hvv3 hm
  try simp[*]
  refine r_cond hm ?_ ?_<;>clear hm<;>intro hc4 hm
  ·try simp[*]
   obtain rfl:=r_ret hm
   exact ret0 (vs:=[_]) (by simp[*];try exact rfl) (by simp[*])
  ·try simp[*]
   exact BackF.of () ⟨(by simp[*]),hm⟩
 ·rintro s2 e2 h2 ⟨hn2,h2_0,h2_1,h2_7,h2_8⟩ hm
  try simp[*]
  obtain rfl:=r_ret hm
  exact ret0 (vs:=[_]) (by simp[*];try exact rfl) (by simp[*])
def Z23 (s_:List Chg) (f:Chg→Option Bool):Option Bool:=
 (bindK (Z2j s_ f) fun v1=>(some (decide (0≤v1))))
theorem Z7o (s_:List Chg) (g:FuncId) (caps:List (List D)) (f:Chg→Option Bool) (hf:∀ xa v,Is (f xa) v→PSpec Tryz.prog g (.agg xa.enc::capsOf caps) (.one (.d (.bool v)))) (r:Bool) (hm:Is (Z23 s_ f) r):PSpec Tryz.prog 36 [.one (.d (.sl (s_.map Chg.enc))),.one (.fn g caps)] (.one (.d (.bool r))):=by
 unfold Z23 at hm
 refine PSpec.of_vc Tryz.func36 rfl (by kernel_rfl) (n:=9) rfl rfl (by simp) ?_
 try simp[*]
 refine r_call (av:=[.one (.d (.sl (s_.map Chg.enc))),.one (.fn g caps)]) hm (fun v hv=>Z8t _ g caps _ hf v hv) (by simp[*]) ?_
 clear hm;intro v1 hvv1 hm
 try simp[*]
 obtain rfl:=r_ret hm
 exact ret0 (vs:=[_]) (by simp[*];try exact rfl) (by simp[*])
def Z0w (d:Chg) (k0:Chg):Option Bool:=
 (some (strEq d.table k0.table))
theorem Z5k (d:Chg) (k0:Chg) (r:Bool) (hm:Is (Z0w d k0) r):PSpec Tryz.prog 37 [.agg d.enc,.one (.rp [.int .i64 k0.kind,.str k0.table,.sl (k0.key.map GV.enc),.sl (k0.row.map GV.enc)])] (.one (.d (.bool r))):=by
 unfold Z0w at hm
 refine PSpec.of_vc Tryz.func37 rfl (by kernel_rfl) (n:=9) rfl rfl (by simp) ?_
 try simp[*]
 obtain rfl:=r_ret hm
 exact ret0 (vs:=[_]) (by simp[*];try exact rfl) (by simp[*])
def Z1o (r_:List GV) (k0:Chg) (k1:List Int):Option Bool:=
 (bindK (Z3g r_ k0.row k1) fun v1=>(some v1))
theorem Z5j (r_:List GV) (k0:Chg) (k1:List Int) (r:Bool) (hm:Is (Z1o r_ k0 k1) r):PSpec Tryz.prog 38 [.one (.d (.sl (r_.map GV.enc))),.one (.rp [.int .i64 k0.kind,.str k0.table,.sl (k0.key.map GV.enc),.sl (k0.row.map GV.enc)]),.one (.rp [.sl (k1.map encI)])] (.one (.d (.bool r))):=by
 unfold Z1o at hm
 refine PSpec.of_vc Tryz.func38 rfl (by kernel_rfl) (n:=10) rfl rfl (by simp) ?_
 try simp[*]
 refine r_call (av:=[.one (.d (.sl (r_.map GV.enc))),.one (.d (.sl (k0.row.map GV.enc))),.one (.d (.sl (k1.map encI)))]) hm (fun v hv=>Z99 _ _ _ v hv) (by simp[*]) ?_
 clear hm;intro v1 hvv1 hm
 try simp[*]
 obtain rfl:=r_ret hm
 exact ret0 (vs:=[_]) (by simp[*];try exact rfl) (by simp[*])
def Z16 (g_:Gr) (rules:List Rule) (user:ByteArray) (v_:Int) (inst:List Rel) (changes:List Chg):Option Bool:=
 (bindK (Z0g) fun v2=>(bif !v2 then (bindK (Z0g) fun v4=>(some v4)) else (bindK (Z2i g_ (Db.mk [inst] []) changes) fun v5=>(bif !v5 then (bindK (Z0g) fun v7=>(some v7)) else (bindK (Z0h g_ v_) fun v8=>(bif (v8.2 != 0) then (some true) else (bindK (Z2z g_ rules user v_ changes) fun v11=>(bif (v11 != 0) then (some true) else (bindK (Z4q v8.1 inst changes) fun v13=>(bif (v13.2 != 0) then (some true) else (forK (fun (i16:Nat) (x16:Chg) (s16:Unit) next_16=>(bif (x16.kind != 1) then (next_16 ()) else (chkK (0≤(i16+1:Int)∧(i16+1:Int)≤(changes.length:Int)∧(changes.length:Int)≤(changes.length:Int)) (bindK (Z23 ((changes.take changes.length).drop (i16+1)) (fun xa_=>Z0w xa_ x16)) fun v20=>(bif v20 then (next_16 ()) else (bindK (Z0o g_ rules user v_ v13.1 x16.table) fun v22=>(bif (v22.2.2 != 0) then (some false) else (bindK (Z1c v22.1 (fun xa_=>Z1o xa_ x16 v22.2.1)) fun v25=>(bif !v25 then (some false) else (next_16 ())))))))))) (fun (s16:Unit)=>(some true)) changes 0 ())))))))))))
theorem Z63 (g_:Gr) (rules:List Rule) (user:ByteArray) (v_:Int) (inst:List Rel) (changes:List Chg) (r:Bool) (hm:Is (Z16 g_ rules user v_ inst changes) r):PSpec Tryz.prog 9 [.agg g_.enc,.one (.d (.sl (rules.map Rule.enc))),.one (.d (.str user)),.one (.d (.int .i64 v_)),.one (.d (.sl (inst.map Rel.enc))),.one (.d (.sl (changes.map Chg.enc)))] (.one (.d (.bool r))):=by
 unfold Z16 at hm
 refine PSpec.of_vc Tryz.func9 rfl (by kernel_rfl) (n:=98) rfl rfl (by simp) ?_
 try simp[*]
 refine r_call (av:=[]) hm (fun v hv=>Z1n  v hv) (by simp[*]) ?_
 clear hm;intro v2 hvv2 hm
 try simp[*]
 refine Z0b hm ?_ ?_<;>clear hm<;>intro hc3 hm
 ·try simp[*]
  refine r_call (av:=[]) hm (fun v hv=>Z1n  v hv) (by simp[*]) ?_
  clear hm;intro v4 hvv4 hm
  try simp[*]
  obtain rfl:=r_ret hm
  exact ret0 (vs:=[_]) (by simp[*];try exact rfl) (by simp[*])
 ·try simp[*]
  refine r_call (av:=[.agg g_.enc,.agg (Db.mk [inst] []).enc,.one (.d (.sl (changes.map Chg.enc)))]) hm (fun v hv=>Z81 _ _ _ v hv) (by simp[*]) ?_
  clear hm;intro v5 hvv5 hm
  try simp[*]
  refine r_cond hm ?_ ?_<;>clear hm<;>intro hc6 hm
  ·try simp[*]
   refine r_call (av:=[]) hm (fun v hv=>Z1n  v hv) (by simp[*]) ?_
   clear hm;intro v7 hvv7 hm
   try simp[*]
   obtain rfl:=r_ret hm
   exact ret0 (vs:=[_]) (by simp[*];try exact rfl) (by simp[*])
  ·try simp[*]
   refine r_call (av:=[.agg g_.enc,.one (.d (.int .i64 v_))]) hm (fun v hv=>Z5d _ _ v hv) (by simp[*]) ?_
   clear hm;intro v8 hvv8 hm
   try simp[*]
   refine Z0b hm ?_ ?_<;>clear hm<;>intro hc10 hm
   ·try simp[*]
    obtain rfl:=r_ret hm
    exact ret0 (vs:=[_]) (by simp[*];try exact rfl) (by simp[*])
   ·try simp[*]
    refine r_call (av:=[.agg g_.enc,.one (.d (.sl (rules.map Rule.enc))),.one (.d (.str user)),.one (.d (.int .i64 v_)),.one (.d (.sl (changes.map Chg.enc)))]) hm (fun v hv=>Z8j _ _ _ _ _ v hv) (by simp[*]) ?_
    clear hm;intro v11 hvv11 hm
    try simp[*]
    refine r_cond hm ?_ ?_<;>clear hm<;>intro hc12 hm
    ·try simp[*]
     obtain rfl:=r_ret hm
     exact ret0 (vs:=[_]) (by simp[*];try exact rfl) (by simp[*])
    ·try simp[*]
     refine r_call (av:=[.agg v8.1.enc,.one (.d (.sl (inst.map Rel.enc))),.one (.d (.sl (changes.map Chg.enc)))]) hm (fun v hv=>Zbh _ _ _ v hv) (by simp[*]) ?_
     clear hm;intro v13 hvv13 hm
     try simp[*]
     refine r_cond hm ?_ ?_<;>clear hm<;>intro hc14 hm
     ·try simp[*]
      obtain rfl:=r_ret hm
      exact ret0 (vs:=[_]) (by simp[*];try exact rfl) (by simp[*])
     ·try simp[*]
      intro hl15
      replace hl15:changes.length≤2097152:=by simpa using hl15
      refine Wait.for (xs:=changes) (s0:=()) (fun i16 s16 e16 h16=>e16.n=98∧e16.get 1=.one (.d (.sl (rules.map Rule.enc)))∧e16.get 2=.one (.d (.str user))∧e16.get 3=.one (.d (.int .i64 v_))∧e16.get 5=.one (.d (.sl (changes.map Chg.enc)))∧e16.get 6=.one (.ptr (0,96) 0)∧e16.get 15=.one (.d (.sl (v13.1.map Rel.enc)))∧e16.get 59=.one (.d (.sl (changes.map Chg.enc)))∧e16.get 60=.one (.d (.int .i64 (changes.length:Int)))∧e16.get 61=.one (.d (.int .i64 (i16:Int)))∧h16.box (0,96)=some [.d (.sl (g_.base.tables.map Tbl.enc)),.d (.sl (g_.base.fks.map Fk.enc)),.d (.sl (g_.base.cons.map Cons.enc)),.d (.sl (g_.edges.map Edg.enc))]) hm (by simp[*]) ?_ ?_
      ·rintro i16 s16 e16 h16 ⟨hn16,h16_1,h16_2,h16_3,h16_5,h16_6,h16_15,h16_59,h16_60,h16_61,hb16_b1⟩ hlt16 hm
       have hw16:IntKind.i64.wrap ((i16:Int)+1)=(i16:Int)+1:=IntWalk.i64_in _ (by omega)
       try simp[*]
       refine Z0b hm ?_ ?_<;>clear hm<;>intro hc18 hm
       ·try simp[*]
        exact BackF.of () ⟨(by simp[*]),hm⟩
       ·try simp[*]
        replace hm:=hm.chk
        obtain⟨⟨hax19,hbx19,hdx19⟩,hm⟩:=hm
        have hex19:=hbx19;try simp at hex19
        have hfx19:=hdx19;try simp at hfx19
        have hgx19:(i16+1)≤changes.length:=by omega
        try simp[*]
        refine r_call (av:=[.one (.d (.sl (((changes.take changes.length).drop (i16+1)).map Chg.enc))),.one (.fn 37 [[.int .i64 changes[i16].kind,.str changes[i16].table,.sl (changes[i16].key.map GV.enc),.sl (changes[i16].row.map GV.enc)]])]) hm (fun v hv=>Z7o _ 37 [[.int .i64 changes[i16].kind,.str changes[i16].table,.sl (changes[i16].key.map GV.enc),.sl (changes[i16].row.map GV.enc)]] _ (fun xa_ v hv=>Z5k xa_ _ v hv) v hv) (by simp[*]) ?_
        clear hm;intro v20 hvv20 hm
        try simp[*]
        refine r_cond hm ?_ ?_<;>clear hm<;>intro hc21 hm
        ·try simp[*]
         exact BackF.of () ⟨(by simp[*]),hm⟩
        ·try simp[*]
         refine r_call (av:=[.agg g_.enc,.one (.d (.sl (rules.map Rule.enc))),.one (.d (.str user)),.one (.d (.int .i64 v_)),.one (.d (.sl (v13.1.map Rel.enc))),.one (.d (.str (changes[i16].table)))]) hm (fun v hv=>Z7d _ _ _ _ _ _ v hv) (by simp[*]) ?_
         clear hm;intro v22 hvv22 hm
         try simp[*]
         refine Z0b hm ?_ ?_<;>clear hm<;>intro hc24 hm
         ·try simp[*]
          obtain rfl:=r_ret hm
          exact ret0 (vs:=[_]) (by simp[*];try exact rfl) (by simp[*])
         ·try simp[*]
          refine r_call (av:=[.one (.d (.sl (v22.1.map (encL GV.enc)))),.one (.fn 38 [[.int .i64 changes[i16].kind,.str changes[i16].table,.sl (changes[i16].key.map GV.enc),.sl (changes[i16].row.map GV.enc)],[.sl (v22.2.1.map encI)]])]) hm (fun v hv=>Z5r _ 38 [[.int .i64 changes[i16].kind,.str changes[i16].table,.sl (changes[i16].key.map GV.enc),.sl (changes[i16].row.map GV.enc)],[.sl (v22.2.1.map encI)]] _ (fun xa_ v hv=>Z5j xa_ _ _ v hv) v hv) (by simp[*]) ?_
          clear hm;intro v25 hvv25 hm
          try simp[*]
          refine r_cond hm ?_ ?_<;>clear hm<;>intro hc26 hm
          ·try simp[*]
           obtain rfl:=r_ret hm
           exact ret0 (vs:=[_]) (by simp[*];try exact rfl) (by simp[*])
          ·try simp[*]
           exact BackF.of () ⟨(by simp[*]),hm⟩
      ·rintro s16 e16 h16 ⟨hn16,h16_1,h16_2,h16_3,h16_5,h16_6,h16_15,h16_59,h16_60,h16_61,hb16_b1⟩ hm
       try simp[*]
       obtain rfl:=r_ret hm
       exact ret0 (vs:=[_]) (by simp[*];try exact rfl) (by simp[*])
end Go.Proofs.YthgepknlibmjcaaGreat
end
section
namespace Go.Proofs.YthgepknlibmjcaaGreat
open Go Go.Am
theorem Runs.last {S:Sch} {o o':List Rel} {cs:List Chg} (h:Runs S o cs o'):∀ (i:Nat) (c:Chg),cs[i]?=some c→c.kind=1→(∀ (j:Nat) (d:Chg),i < j→cs[j]?=some d→strEq d.table c.table=false) →
  ∃ (k:Nat) (T:Tbl) (x:Rel),Z05 S c.table=some ((k:Int),true)∧S.tables[k]?=some T∧strEq T.name c.table=true∧o'[k]?=some x∧c.row ∈ x.rows:=by
 induction h with
 | nil=>intro i c h;simp at h
 | @snoc cs o1 o2 c1 k1 T1 x1 rows1 h s ih=>
   intro i c hc hk hl
   rcases Nat.lt_or_ge i cs.length with hi | hi
   ·rw[List.getElem?_append_left hi] at hc
    obtain⟨k,T,x,h1,h2,h3,h4,h5⟩:=ih i c hc hk fun j d hj hd=>hl j d hj (by rw[List.getElem?_append_left (List.getElem?_eq_some_iff.1 hd).1];exact hd)
    have hne:=hl cs.length c1 hi (by simp)
    refine⟨k,T,x,h1,h2,h3,?_,h5⟩
    rw[s.eq,List.getElem?_set_ne ?_]
    ·exact h4
    ·rintro rfl
     have h6:=s.t
     rw[h2] at h6
     cases h6
     have e1:=Z45.1 h3
     have e2:=Z45.1 s.nm
     rw[Z45.2 (by rw[← e1,← e2])] at hne
     cases hne
   ·have e:i=cs.length:=by
     have:=(List.getElem?_eq_some_iff.1 hc).1
     simp at this
     omega
    subst e
    simp at hc
    subst hc
    obtain⟨_,a,b,os,_,hr⟩:=s.up hk
    have hlt:=(List.getElem?_eq_some_iff.1 s.ok).1
    exact⟨k1,T1,_,s.ft,s.t,s.nm,by rw[s.eq];exact List.getElem?_set_self hlt,by rw[hr];simp⟩
theorem Zj3 {rules:List Rule} {u:ByteArray} {v:Int} {a b:ByteArray} (h:strEq a b=true):lk rules u v a=lk rules u v b:=by
 have hab:a.toList=b.toList:=Z45.1 h
 unfold lk
 congr 1
 funext r
 simp[lkP,strEq,hab]
theorem Zmn {g:Gr} {rules:List Rule} {user:ByteArray} {v:Int} {inst:List Rel} {a b:ByteArray} (h:strEq a b=true):Z0o g rules user v inst a=Z0o g rules user v inst b:=by
 unfold Z0o
 rw[Z94,Z94,Zj3 h]
 simp only[Zd0 h]
theorem law7 (g:Gr) (hx:∀ e ∈ g.edges,∀ x ∈ e.script,SmallX x) (rules:List Rule) (user:ByteArray) (v:Int) (inst:List Rel) (changes:List Chg) (hi:inst.length≤1048576) :
  Z16 g rules user v inst changes=some true:=by
 have hw:Wp Z0g fun b=>b=true:=⟨true,Zex,rfl⟩
 refine Wp.eq ?_
 unfold Z16
 refine Wp.bind hw fun b _ hb=>?_
 subst hb
 refine Wp.cond (fun h=>by cases h) fun _=>Wp.bind (Zgu g inst changes (by omega)) fun b _ _=>Wp.cond (fun _=>Wp.bind hw fun b _ hb=>Wp.ret hb) fun _=>Wp.bind (Z52 g hx v) fun q hq0 _=>Wp.cond (fun _=>Wp.ret rfl) fun h1=>
  Wp.bind (Zdv g hx rules user v changes) fun e _ he=>Wp.cond (fun _=>Wp.ret rfl) fun h2=>?_
 obtain⟨Ss,S,hR,hv,hs,hSv,hV,hau⟩:=he (by simpa using h2)
 rw[hs] at hq0
 cases hq0
 refine Wp.bind (Zfd hV inst changes) fun p _ hp=>Wp.cond (fun _=>Wp.ret rfl) fun h3=>?_
 obtain⟨_,_,hC,hrun⟩:=hp (by simpa using h3)
 have hpk:∀ T ∈ S.tables,T.pk.length≤6:=fun T hT=>(hV.tab T hT).pk6
 have hce:=Zem hpk hC
 refine Wp.for (fun _ _=>True) trivial ?_ fun _ _=>Wp.ret rfl
 intro i c s next hc hcm _ hn
 have hil:=(List.getElem?_eq_some_iff.1 hc).1
 refine Wp.cond (fun _=>hn () trivial) fun h4=>Wp.chk ⟨by omega,by omega,by omega⟩ ?_
 have hk1:c.kind=1:=by simpa using h4
 unfold Z23 Z2j
 refine Wp.bind (R:=fun b=>b=false→∀ d ∈ changes.drop (i+1),strEq d.table c.table=false) (Wp.bind (Wp.index fun x _=>Wp.ret trivial) fun k _ hk=>Wp.ret ?_) fun b _ hb=>Wp.cond (fun _=>hn () trivial) fun h5=>?_
 ·intro h d hd
  rcases hk with ⟨rfl,hk⟩ | ⟨j,x,rfl,_,_⟩
  ·have:=hk d (by simpa using hd)
   simpa[Z0w] using this
  ·simp at h
 have hlater:=hb h5
 obtain⟨k,T,x,hft,hT,hnm,hxk,hrow⟩:=hrun.last i c hc hk1 fun j d hj hd=>by
  refine hlater d ?_
  refine List.mem_of_getElem? (i:=j - (i+1)) ?_
  rw[List.getElem?_drop,show i+1+(j - (i+1))=j by omega]
  exact hd
 obtain⟨r,T',rowA,hA⟩:=hau c hcm
 have eT:T'=T:=by
  obtain⟨k',h6,h7⟩:=hA.ft
  rw[hft] at h6
  cases h6
  rw[Int.toNat_natCast,hT] at h7
  cases h7
  rfl
 subst eT
 have hVT:=hV.tab T' (List.mem_of_getElem? hT)
 have hl:lk rules user v T'.name=some r:=by rw[Zj3 hnm];exact hA.l
 obtain⟨hvis,hpr,hcols⟩:=Ziu hx hv hs hce hT hxk hl
 rw[← Zmn hnm,hvis]
 have hm:mtch r c.row=true:=hA.row hVT (hA.up hk1).1 (by rw[if_pos hk1])
 refine Wp.bind (R:=fun q=>q=((x.rows.filter (mtch r)).map (projF (visC T' r)),visC T' r,(0:Int))) ⟨_,rfl,rfl⟩ fun q _ hq=>?_
 subst hq
 refine Wp.cond (fun h=>by cases h) fun _=>?_
 unfold Z1c Z2d
 have hin:=Zfx hVT hcols
 refine Wp.bind (R:=fun b=>b=true) (Wp.bind (Zjc fun r' _=>Zmj r' c.row (visC T' r) fun c' hc'=>by have:=hin c' hc';rw[(hA.up hk1).1];exact this) fun k _ hk=>Wp.ret ?_) fun b _ hb=>Wp.cond (fun h=>by rw[hb] at h;cases h) fun _=>hn () trivial
 rcases hk with ⟨h1,_⟩ | ⟨_,h2⟩
 ·simpa using h1
 ·refine absurd ?_ (h2 (projF (visC T' r) c.row) (List.mem_map.2 ⟨c.row,List.mem_filter.2 ⟨hrow,hm⟩,rfl⟩))
  exact⟨by simp[projF],fun i c' hc'=>by unfold projF;rw[List.getElem?_map,hc'];rfl⟩
end Go.Proofs.YthgepknlibmjcaaGreat
end
