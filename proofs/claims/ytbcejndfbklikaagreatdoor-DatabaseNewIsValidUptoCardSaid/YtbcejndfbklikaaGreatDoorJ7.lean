/- DatabaseNewIsValid holds. -/
import Derived.Test.YtbcejndfbklikaaGreatDoorJ6
import Derived.Test.YtbcejndfbklikaaGreatDoorCards
import Derived.Test.YtbcejndfbklikaaGreatDoorTie
import Derived.ProofKit
import Derived.OpenShut
import Derived.Lay
import Derived.Deep.DeepWitnessRowRef
set_option linter.unusedVariables false
set_option linter.unusedSimpArgs false
set_option maxRecDepth 20000
open Go.Proofs.Tryz(prog)
open ByteArray(empty)
namespace Go.Proofs.YtbcejndfbklikaaGreatDoor
section
open Go Go.Am
def comC (S:Sch) (x:Stp):Sch:=((Z1m S x).getD (⟨[],[],[]⟩,0)).1
theorem Zhz {S S':Sch} {x:Stp} (hx:SmallX x) (hap:Z0f S x=some (S',0)):StepOK S S' (comC S x) x:=by
 obtain⟨C,h⟩:=stepOK hx hap;have hs:=h.sch;unfold Z2z at hs;rw[hap] at hs;obtain⟨q,hq,hs⟩:=Is.bind (m:=Z1m S x) (K:=fun v8=>some (S',v8.1,v8.2)) hs;have e:=Option.some.inj hs;simp only[Y07] at e
 have:comC S x=q.1:=by unfold comC;rw[show Z1m S x=some q from hq];rfl
 rw[this,e.2.1];exact h
def EC (all:List Sch) (script:List Stp):List (List Rel):=List.zipWith (fun y x=>EI (comC y x)) all script
theorem EC_at {all:List Sch} {script:List Stp} {i:Nat} {y:Sch} {x:Stp} (h1:all[i]? = some y) (h2:script[i]? = some x):(EC all script)[i]? = some (EI (comC y x)):=by
 simp[EC,List.getElem?_zipWith,h1,h2]
theorem EC_len {S:Sch} {all:List Sch} {script:List Stp} (h:ScrOK S script all):(EC all script).length=script.length:=by
 have:=h.len
 simp[EC];omega
theorem ScrOK.ex {S:Sch} {all:List Sch} {script:List Stp} (h:ScrOK S script all) {i:Nat} (hi:i<=script.length):∃ y,all[i]? = some y:=⟨_,Y01 (by have:=h.len;omega)⟩
theorem Znz {S S' C:Sch} {x:Stp} (h:StepOK S S' C x):Wp (Z2o S x) fun r=>r=(EI C,0):=by
 have:=h.c.len
 unfold Z2o;refine Wp.bind (R:=fun q=>q=(S',C,0)) ⟨_,h.sch,rfl⟩ fun q _ hq=>?_;subst hq;exact Wp.cond (fun h=>by simp at h) fun _=>Wp.bind (Zd1 C (by omega)) fun o _ ho=>Wp.ret (by rw[ho])
theorem Zax {S:Sch} {script:List Stp} {all:List Sch} (hx:∀ x ∈ script,SmallX x) (hs:Z0i S script=some (all,0)) (h:ScrOK S script all):Wp (Z1w S script) fun r=>r=(EC all script,0):=by
 have hL:=LIM_eq;have hl:=EC_len h;have h6:=h.l6;unfold Z1w;refine Wp.bind (R:=fun q=>q=(all,0)) ⟨_,hs,rfl⟩ fun q _ hq=>?_;subst hq;refine Wp.cond (fun h=>by simp at h) fun _=>?_;refine Wp.for (fun i (s:List (List Rel))=>s=(EC all script).take i) (by simp) ?_ fun s hs=>Wp.ret (by rw[hs,<- hl,Y1b]);intro i x s next hxi hm hs1 hn;have hi:=(Y00.1 hxi).1;obtain⟨y,hy⟩:=h.ex (Y31 hi);obtain⟨z,hz⟩:=h.ex (i:=i+1) (by omega);have so:=Zhz (hx x hm) (h.step i x y z hxi hy hz);refine Wp.getN hy (Wp.bind (Znz so) fun r _ hr=>?_);subst hr;refine Wp.cond (fun h=>by simp at h) fun _=>Wp.app (by rw[hs1];simp;omega) (hn _ ?_);have hE:=EC_at hy hxi;obtain⟨h8,h9⟩:=Y00.1 hE;rw[Y10 h8,h9,hs1]
theorem Zch {S T:Sch} {script:List Stp} {all:List Sch} (hx:∀ x ∈ script,SmallX x) (hs:Z0i S script=some (all,0)) (h:ScrOK S script all) (hT:all[script.length]? = some T):Wp (Z3f S script (EI S) (EC all script)) fun r=>r=(EI T,EC all script,0):=by
 have hl:=EC_len h;have h6:=h.l6;have hS:=(h.vs S (Y03 h.fst)).t6;unfold Z3f;refine Wp.bind (R:=fun q=>q=(all,0)) ⟨_,hs,rfl⟩ fun q _ hq=>?_;subst hq;refine Wp.cond (fun h=>by simp at h) fun _=>Wp.cond (fun h=>by simp[hl] at h) fun _=>Wp.bind (Z7l S) fun e _ he=>Wp.cond (fun h=>by simp[he] at h) fun _=>Wp.bind (Zcr S (by omega)) fun inst _ hinst=>?_;subst hinst;refine Wp.for (fun i (s:List Rel × List (List Rel))=>(∃ y,all[i]? = some y/\s.1=EI y)/\s.2=(EC all script).take i++List.replicate (script.length - i) []) ⟨⟨S,h.fst,rfl⟩,by simp⟩ ?_ ?_
 .intro i x s next hxi hm hI hn;obtain⟨⟨y,hy,h1⟩,h2⟩:=hI;have hi:=(Y00.1 hxi).1;obtain⟨z,hz⟩:=h.ex (i:=i+1) (by omega);have so:=Zhz (hx x hm) (h.step i x y z hxi hy hz);have hE:=EC_at hy hxi;obtain⟨h8,h9⟩:=Y00.1 hE;refine Wp.getN hy (Wp.getN hE (Wp.bind (R:=fun r=>r=(EI z,EI (comC y x),0)) (by rw[h1];exact⟨_,Zlt so,rfl⟩) fun r _ hr=>?_));subst hr;refine Wp.cond (fun h=>by simp at h) fun _=>hn _ ⟨⟨z,hz,rfl⟩,?_⟩;rw[h2,Y10 h8,h9];have e:script.length - i=(script.length - (i+1))+1:=by omega
  rw[e,Y2i,Y2o _ _ (by simp;omega)];have e2:i - ((EC all script).take i).length=0:=by simp;omega
  rw[e2];simp
 .intro s hI;obtain⟨⟨y,hy,h1⟩,h2⟩:=hI;rw[hT] at hy;cases hy;refine Wp.ret ?_;rw[h1,h2,<- hl];simp
theorem Zbh {S T:Sch} {script:List Stp} {all:List Sch} (hx:∀ x ∈ script,SmallX x) (hs:Z0i S script=some (all,0)) (h:ScrOK S script all) (hT:all[script.length]? = some T):Wp (Z2s S script (EI T) (EC all script)) fun r=>r=(EI S,EC all script,0):=by
 have hl:=EC_len h;have h6:=h.l6;have hT6:=(h.vs T (Y03 hT)).t6;unfold Z2s;refine Wp.bind (R:=fun q=>q=(all,0)) ⟨_,hs,rfl⟩ fun q _ hq=>?_;subst hq;refine Wp.cond (fun h=>by simp at h) fun _=>Wp.cond (fun h=>by simp[hl] at h) fun _=>Wp.getN hT (Wp.bind (Z7l T) fun e _ he=>Wp.cond (fun h=>by simp[he] at h) fun _=>Wp.bind (Zcr T (by omega)) fun inst _ hinst=>?_);subst hinst;refine Wp.while (fun (s:Int × List Rel × List (List Rel))=>∃ n:Nat,n<=script.length/\s.1=(n:Int) - 1/\(∃ y,all[n]? = some y/\s.2.1=EI y)/\s.2.2=List.replicate n []++(EC all script).drop n) (fun s=>(s.1+1).toNat) ?_ _ _ ⟨script.length,Y09 _,rfl,⟨T,hT,rfl⟩,by rw[<- hl];simp⟩ (by simp);rintro⟨k,inst,cs⟩ next ⟨n,hn,hk,⟨y,hy,h1⟩,h2⟩ hnx;simp only at hk h1 h2;subst hk h1 h2;refine Wp.cond (fun hc=>?_) fun hc=>?_
 .have hn0:0 < n:=by simp at hc;omega
  obtain⟨j,rfl⟩:∃ j,n=j+1:=⟨n - 1,by omega⟩;have hj:j < script.length:=by omega
  have ej:((j+1:Nat):Int) - 1=(j:Int):=by omega
  have hxj:script[j]? = some script[j]:=Y01 hj;obtain⟨w,hw⟩:=h.ex (Y31 hj);have so:=Zhz (hx _ (Y0p hj)) (h.step j _ w y hxj hw hy);have hE:=EC_at hw hxj;obtain⟨h8,h9⟩:=Y00.1 hE;simp only[ej];refine Wp.getN hw (Wp.getN hxj (Wp.getN hE (Wp.bind (R:=fun r=>r=(EI w,EI (comC w script[j]),0)) ⟨_,Zjs so,rfl⟩ fun r _ hr=>?_)));subst hr;refine Wp.cond (fun h=>by simp at h) fun _=>hnx _ ⟨j,by omega,rfl,⟨w,hw,rfl⟩,?_⟩ (by simp);rw[List.replicate_succ',Y0n,Y2o _ _ (by simp)];rw[Y14 h8,h9];simp
 .have hn0:n=0:=by simp at hc;omega
  subst hn0;rw[h.fst] at hy;cases hy;exact Wp.ret (by simp)
end
section
open Go.Am
def Z4g (g_:Gr):Option (Db × Int):=
 (bindK (Z0o g_) fun v3=>(bif (v3.2 != 0) then (some ((Db.mk [] []),v3.2)) else (forK (fun (i7:Nat) (x7:Sch) (s7:(List (List Rel))) next_7=>(bindK (Z19 x7) fun v9=>(appK2 s7 [v9] fun _=>(next_7 (s7++[v9]))))) (fun (s7:(List (List Rel)))=>(forK (fun (i13:Nat) (x13:Edg) (s13:(List (List (List Rel)))) next_13=>(getK v3.1 x13.parent fun x15=>(bindK (Z1w x15 x13.script) fun v16=>(bif (v16.2 != 0) then (some ((Db.mk [] []),v16.2)) else (appK2 s13 [v16.1] fun _=>(next_13 (s13++[v16.1]))))))) (fun (s13:(List (List (List Rel))))=>(some ((Db.mk s7 s13),0))) g_.edges 0 [])) v3.1 0 [])))
theorem Zef (g_:Gr) (r:Db × Int) (hm:Is (Z4g g_) r):PSpec prog 20 [.agg g_.enc] (.tup [.agg (r.1.enc.map RC.d),.one (.d (.int .i64 r.2))]):=by
 unfold Z4g at hm;refine PSpec.of_vc Tryz.func20 rfl (by kernel_rfl) (n:=66) rfl rfl (by simp) ?_
 try simp[*]
 refine r_call (av:=[.agg g_.enc]) hm (fun v hv=>Z81 _ v hv) (by simp[*]) ?_;clear hm;intro v3 hvv3 hm
 try simp[*]
 refine r_cond hm ?_ ?_<;>clear hm<;>intro hc4 hm
 .try simp[*]
  obtain rfl:=r_ret hm;exact ret0 (vs:=[_,_]) (by simp[*];try exact⟨rfl,rfl⟩) (by simp[*])
 .try simp[*]
  intro hl6;replace hl6:v3.1.length<=2097152:=by simpa using hl6
  refine Wait.for (xs:=v3.1) (s0:=[]) (fun i7 s7 e7 h7=>∃ c7_0:C,e7.n=66/\e7.get 1=.one (.ptr (0,16) 0)/\e7.get 2=.one (.ptr (1,32) 0)/\e7.get 4=.one (.d (.sl (v3.1.map Sch.enc)))/\e7.get 6=.one (.ptr (3,96) 0)/\e7.get 22=.one (.d (.sl (v3.1.map Sch.enc)))/\e7.get 23=.one (.d (.int .i64 (v3.1.length:Int)))/\e7.get 24=.one (.d (.int .i64 (i7:Int)))/\h7.box (0,16)=some [.d (.sl (g_.base.tables.map Tbl.enc)),.d (.sl (g_.base.fks.map Fk.enc)),.d (.sl (g_.base.cons.map Cons.enc)),.d (.sl (g_.edges.map Edg.enc))]/\h7.box (1,32)=some [.nil,.nil]/\h7.box (3,96)=some [c7_0,.nil]/\Grows h7 1 c7_0 (s7.map (encL Rel.enc))) hm ⟨.nil,by simp (maxDischargeDepth:=20) [*]⟩ ?_ ?_
  .rintro i7 s7 e7 h7 ⟨c7_0,hn7,h7_1,h7_2,h7_4,h7_6,h7_22,h7_23,h7_24,hb7_b1,hb7_b2,hb7_b5,gc7_0⟩ hlt7 hm;have hlc7_0:=gc7_0.list;have hdc7_0:=gc7_0.toD;have hac7_0:=gc7_0.toA;have huc7_0:=gc7_0.useUp_arr;have hw7:IntKind.i64.wrap ((i7:Int)+1)=(i7:Int)+1:=Y0a _ (by omega)
   try simp[*]
   refine Wait.of (SWP.draw (Plan.then_ [0,1,2,3,4,5,6,7] .done) follows (by kernel_rfl) ?_)
   try simp[*]
   refine r_call (av:=[.agg (v3.1[i7]).enc]) hm (fun v hv=>c_instance_Empty _ v hv) (by simp[*]) ?_;clear hm;intro v9 hvv9 hm
   try simp[*]
   try refine⟨fun (_:Lab) (_:List C) hl=>hl,?_⟩
   refine r_app (xs:=s7) (ys:=[v9]) (enc:=(encL Rel.enc)) hm Zff (by first | exact Grows.nil | (simp (maxDischargeDepth:=20) [*];done) | (simp (maxDischargeDepth:=20) [*];refine⟨?_,by omega⟩;intro hq;subst hq;simp at hz2<;>omega)) (by simp[*]) (by decide) (by decide) (fun _=>rfl) ?_;clear hm;intro hl11 hm g10
   try simp[*]
   exact BackF.of (s7++[v9]) ⟨⟨.own (h7.ep+3,528) ((s7++[v9]).map (encL Rel.enc)),by simp (maxDischargeDepth:=20) [*]⟩,hm⟩
  .rintro s7 e7 h7 ⟨c7_0,hn7,h7_1,h7_2,h7_4,h7_6,h7_22,h7_23,h7_24,hb7_b1,hb7_b2,hb7_b5,gc7_0⟩ hm;have hlc7_0:=gc7_0.list;have hdc7_0:=gc7_0.toD;have hac7_0:=gc7_0.toA;have huc7_0:=gc7_0.useUp_arr
   try simp[*]
   intro hl12;replace hl12:g_.edges.length<=2097152:=by simpa using hl12
   refine Wait.for (xs:=g_.edges) (s0:=[]) (fun i13 s13 e13 h13=>∃ c13_bb5_0 c13_0:C,(e13.n=66/\e13.get 2=.one (.ptr (1,32) 0)/\e13.get 4=.one (.d (.sl (v3.1.map Sch.enc)))/\e13.get 6=.one (.ptr (3,96) 0)/\e13.get 37=.one (.d (.sl (g_.edges.map Edg.enc)))/\e13.get 38=.one (.d (.int .i64 (g_.edges.length:Int)))/\e13.get 39=.one (.d (.int .i64 (i13:Int)))/\h13.box (1,32)=some [.nil,.nil]/\h13.box (3,96)=some [c13_bb5_0,c13_0]/\Grows h13 1 c13_bb5_0 (s7.map (encL Rel.enc))/\Grows h13 1 c13_0 (s13.map (encL (encL Rel.enc))))/\Apart c13_bb5_0 c13_0) hm ⟨c7_0,.nil,by simp (maxDischargeDepth:=20) [*],(by simp)⟩ ?_ ?_
   .rintro i13 s13 e13 h13 ⟨c13_bb5_0,c13_0,⟨hn13,h13_2,h13_4,h13_6,h13_37,h13_38,h13_39,hb13_b2,hb13_b5,gc13_bb5_0,gc13_0⟩,apc13_bb5_0_c13_0⟩ hlt13 hm;have hlc13_bb5_0:=gc13_bb5_0.list;have hdc13_bb5_0:=gc13_bb5_0.toD;have hac13_bb5_0:=gc13_bb5_0.toA;have huc13_bb5_0:=gc13_bb5_0.useUp_arr;have hlc13_0:=gc13_0.list;have hdc13_0:=gc13_0.toD;have hac13_0:=gc13_0.toA;have huc13_0:=gc13_0.useUp_arr;have hw13:IntKind.i64.wrap ((i13:Int)+1)=(i13:Int)+1:=Y0a _ (by omega)
    try simp[*]
    refine Wait.of (SWP.draw (Plan.then_ [0,1,2,3,4,5,6,7,8,9,10,11,12] .done) follows (by kernel_rfl) ?_)
    try simp[*]
    replace hm:=hm.get;obtain⟨x15,h0x15,hxx15,hm⟩:=hm
    try simp[*]
    refine r_call (av:=[.agg x15.enc,.one (.d (.sl ((g_.edges[i13].script).map Stp.enc)))]) hm (fun v hv=>c_script_EmptyComplements _ _ v hv) (by simp[*]) ?_;clear hm;intro v16 hvv16 hm
    try simp[*]
    try refine⟨fun (_:Lab) (_:List C) hl=>hl,?_⟩
    refine r_cond hm ?_ ?_<;>clear hm<;>intro hc17 hm
    .try simp[*]
     obtain rfl:=r_ret hm;exact ret0 (vs:=[_,_]) (by simp[*];try exact⟨rfl,rfl⟩) (by simp[*])
    .try simp[*]
     refine r_app (xs:=s13) (ys:=[v16.1]) (enc:=(encL (encL Rel.enc))) hm Zfe (by first | exact Grows.nil | (simp (maxDischargeDepth:=20) [*];done) | (simp (maxDischargeDepth:=20) [*];refine⟨?_,by omega⟩;intro hq;subst hq;simp at hz2<;>omega)) (by simp[*]) (by decide) (by decide) (fun _=>rfl) ?_;clear hm;intro hl19 hm g18
     try simp[*]
     exact BackF.of (s13++[v16.1]) ⟨⟨c13_bb5_0,.own (h13.ep+3,992) ((s13++[v16.1]).map (encL (encL Rel.enc))),by simp (maxDischargeDepth:=20) [*],(by first | (simp[*];done) | exact (gc13_bb5_0.apart (by simp)).symm)⟩,hm⟩
   .rintro s13 e13 h13 ⟨c13_bb5_0,c13_0,⟨hn13,h13_2,h13_4,h13_6,h13_37,h13_38,h13_39,hb13_b2,hb13_b5,gc13_bb5_0,gc13_0⟩,apc13_bb5_0_c13_0⟩ hm;have hlc13_bb5_0:=gc13_bb5_0.list;have hdc13_bb5_0:=gc13_bb5_0.toD;have hac13_bb5_0:=gc13_bb5_0.toA;have huc13_bb5_0:=gc13_bb5_0.useUp_arr;have hlc13_0:=gc13_0.list;have hdc13_0:=gc13_0.toD;have hac13_0:=gc13_0.toA;have huc13_0:=gc13_0.useUp_arr
    try simp[*]
    obtain rfl:=r_ret hm;exact ret0 (vs:=[_,_]) (by simp[*];try exact⟨rfl,rfl⟩) (by simp[*])
instance i_database_New (g_:Gr):Con (Z4g g_) prog 20 [.agg g_.enc] (fun r=>.tup [.agg (r.1.enc.map RC.d),.one (.d (.int .i64 r.2))]):=⟨fun r hm=>Zef g_ r hm⟩
instance i_script_Forward (s_:Sch) (script:List Stp) (source:List Rel) (comps:List (List Rel)):Con (Z3f s_ script source comps) prog 57 [.agg s_.enc,.one (.d (.sl (script.map Stp.enc))),.one (.d (.sl (source.map Rel.enc))),.one (.d (.sl (comps.map (encL Rel.enc))))] (fun r=>.tup [.one (.d (.sl (r.1.map Rel.enc))),.one (.d (.sl (r.2.1.map (encL Rel.enc)))),.one (.d (.int .i64 r.2.2))]):=⟨fun r hm=>Z8y s_ script source comps r hm⟩
instance i_script_Backward (s_:Sch) (script:List Stp) (target:List Rel) (comps:List (List Rel)):Con (Z2s s_ script target comps) prog 58 [.agg s_.enc,.one (.d (.sl (script.map Stp.enc))),.one (.d (.sl (target.map Rel.enc))),.one (.d (.sl (comps.map (encL Rel.enc))))] (fun r=>.tup [.one (.d (.sl (r.1.map Rel.enc))),.one (.d (.sl (r.2.1.map (encL Rel.enc)))),.one (.d (.int .i64 r.2.2))]):=⟨fun r hm=>Z8j s_ script target comps r hm⟩
def Z2e (s1:List (List Rel)) (s2:List (List Rel)) (eq:(List Rel)->(List Rel)->Option Bool):Option Bool:=
 (bif ((s1.length:Int) != (s2.length:Int)) then (some false) else (forK (fun (i5:Nat) (x5:List Rel) (s5:Unit) next_5=>(getK s2 (i5:Int) fun x6=>(bindK (eq x5 x6) fun v7=>(bif !v7 then (some false) else (next_5 ()))))) (fun (s5:Unit)=>(some true)) s1 0 ()))
instance i_slices_EqualFunc_Instance (s1:List (List Rel)) (s2:List (List Rel)) (eq:(List Rel)->(List Rel)->Option Bool) {g:FuncId} {caps:List (List D)} [ConG eq prog (fun x=>.one (.d (.sl (x.map Rel.enc)))) (fun x=>.one (.d (.sl (x.map Rel.enc)))) (fun v=>.one (.d (.bool v))) g caps]:Con (Z2e s1 s2 eq) prog 94 [.one (.d (.sl (s1.map (encL Rel.enc)))),.one (.d (.sl (s2.map (encL Rel.enc)))),.one (.fn g caps)] (fun r=>.one (.d (.bool r))):=by
 unfold Z2e;have l1:LH (σ:=Unit) 17 [1,2,15,16] []:=.intro;exact go 32 Tryz.func94 rfl (by kernel_rfl) rfl rfl (by simp)
def Z2v (a:List (List Rel)) (b:List (List Rel)):Option Bool:=
 (bindK (Z2e a b (fun xa_ xb_=>Z1z xa_ xb_)) fun v1=>(some v1))
instance c_database_equalAll (a:List (List Rel)) (b:List (List Rel)):Con (Z2v a b) prog 60 [.one (.d (.sl (a.map (encL Rel.enc)))),.one (.d (.sl (b.map (encL Rel.enc))))] (fun r=>.one (.d (.bool r))):=by
 unfold Z2v;exact go 8 Tryz.func60 rfl (by kernel_rfl) rfl rfl (by simp)
def Z37 (s_:Sch) (sc:List Stp) (parent:List Rel) (child:List Rel) (complements:List (List Rel)):Option Bool:=
 (bindK (Z3f s_ sc parent complements) fun v2=>(bindK (Z2s s_ sc child complements) fun v3=>(bif (v2.2.2 == 0) then (bif (v3.2.2 == 0) then (bindK (Z1z v2.1 child) fun v6=>(bif v6 then (bindK (Z1z v3.1 parent) fun v8=>(bif v8 then (bindK (Z2v v2.2.1 complements) fun v10=>(bif v10 then (bindK (Z2v v3.2.1 complements) fun v12=>(some v12)) else (some false))) else (some false))) else (some false))) else (some false)) else (some false))))
instance c_database_consistent (s_:Sch) (sc:List Stp) (parent:List Rel) (child:List Rel) (complements:List (List Rel)):Con (Z37 s_ sc parent child complements) prog 32 [.agg s_.enc,.one (.d (.sl (sc.map Stp.enc))),.one (.d (.sl (parent.map Rel.enc))),.one (.d (.sl (child.map Rel.enc))),.one (.d (.sl (complements.map (encL Rel.enc))))] (fun r=>.one (.d (.bool r))):=by
 unfold Z37;exact go 61 Tryz.func32 rfl (by kernel_rfl) rfl rfl (by simp)
def Z23 (g_:Gr) (db:Db):Option Int:=
 (bindK (Z0o g_) fun v3=>(bif (v3.2 != 0) then (some v3.2) else (bif ((db.insts.length:Int) != (v3.1.length:Int)) then (some 3) else (bif ((db.comps.length:Int) != (g_.edges.length:Int)) then (some 3) else (forK (fun (i12:Nat) (x12:Sch) (s12:Unit) next_12=>(getK db.insts (i12:Int) fun x14=>(bindK (Z2u x12 x14) fun v15=>(bif (v15 != 0) then (some v15) else (next_12 ()))))) (fun (s12:Unit)=>(forK (fun (i18:Nat) (x18:Edg) (s18:Unit) next_18=>(getK v3.1 x18.parent fun x20=>(getK db.insts x18.parent fun x21=>(getK db.insts (i18+1:Int) fun x22=>(getK db.comps (i18:Int) fun x23=>(bindK (Z37 x20 x18.script x21 x22 x23) fun v24=>(bif !v24 then (some 13) else (next_18 ())))))))) (fun (s18:Unit)=>(some 0)) g_.edges 0 ())) v3.1 0 ())))))
instance c_database_Validate (g_:Gr) (db:Db):Con (Z23 g_ db) prog 12 [.agg g_.enc,.agg db.enc] (fun r=>.one (.d (.int .i64 r))):=by
 unfold Z23;have l1:LH (σ:=Unit) 37 [2,3,5,35,36] []:=.intro;have l2:LH (σ:=Unit) 56 [3,5,54,55] []:=.intro;have p1:PH [9] (Plan.then_ [0,1,2,3,4,5,6,7] .done):=.intro;have p2:PH [16] (Plan.then_ [0,1,2,3,4,5,6,7,8,9,10,11,12,13,14,15,16,17,18,19,20,21,22,23,24,25] .done):=.intro;exact go 88 Tryz.func12 rfl (by kernel_rfl) rfl rfl (by simp)
end
section
open Go Go.Am
def ECe (P:Sch) (script:List Stp):List (List Rel):=EC ((Z0i P script).getD ([],0)).1 script
structure EdgeOK (P T:Sch) (script:List Stp) (all:List Sch):Prop where
 s:Z0i P script=some (all,0)
 ok:ScrOK P script all
 l:all[script.length]? = some T
 e:ECe P script=EC all script
theorem edgeOK {P T:Sch} {script:List Stp} (hx:∀ x ∈ script,SmallX x) (h:Z3r P script=some (T,0)):∃ all,EdgeOK P T script all:=by
 obtain⟨r,hr,hq⟩:=Za4 P script hx;rw[h] at hr;cases hr;obtain⟨all,h1,h2,h3⟩:=hq rfl;exact⟨all,h1,h2,h3,by unfold ECe;rw[h1];rfl⟩
theorem Zek (l:List (List Rel)) (h:∀ r ∈ l,∃ S,r=EI S):Wp (Z2v l l) fun b=>b=true:=by
 unfold Z2v Z2e;refine Wp.bind (R:=fun b=>b=true) ?_ fun b _ hb=>Wp.ret hb;refine Wp.cond (fun h=>by simp at h) fun _=>?_;refine Wp.for (fun _ _=>True) trivial ?_ fun _ _=>Wp.ret rfl;intro i x s next hx hm _ hn;obtain⟨S,rfl⟩:=h x hm;refine Wp.getN hx (Wp.bind (Zcq S) fun b _ hb=>?_);rw[hb];exact hn () trivial
theorem EC_mem {all:List Sch} {script:List Stp}:∀ r ∈ EC all script,∃ S,r=EI S:=by
 intro r hr;obtain⟨i,hi,rfl⟩:=Y1g hr;simp[EC];exact⟨_,rfl⟩
theorem Zgi {P T:Sch} {script:List Stp} {all:List Sch} (hx:∀ x ∈ script,SmallX x) (h:EdgeOK P T script all):Wp (Z37 P script (EI P) (EI T) (EC all script)) fun b=>b=true:=by
 unfold Z37;refine Wp.bind (Zch hx h.s h.ok h.l) fun f _ hf=>Wp.bind (Zbh hx h.s h.ok h.l) fun b _ hb=>?_;subst hf hb;refine Wp.cond (fun _=>Wp.cond (fun _=>?_) fun h=>by simp at h) fun h=>by simp at h
 refine Wp.bind (Zcq T) fun b _ hb=>Wp.cond (fun _=>?_) fun h=>by rw[hb] at h;cases h
 refine Wp.bind (Zcq P) fun b _ hb=>Wp.cond (fun _=>?_) fun h=>by rw[hb] at h;cases h
 refine Wp.bind (Zek _ EC_mem) fun b _ hb=>Wp.cond (fun _=>?_) fun h=>by rw[hb] at h;cases h
 exact Wp.bind (Zek _ EC_mem) fun b _ hb=>Wp.ret hb
structure DbE (g:Gr) (Ss:List Sch) (db:Db):Prop where
 i:db.insts=Ss.map EI
 len:db.comps.length=g.edges.length
 c:∀ (j:Nat) (e:Edg) (P:Sch),g.edges[j]? = some e->Ss[e.parent.toNat]? = some P->db.comps[j]? = some (ECe P e.script)
theorem w_New (g:Gr) (hx:∀ e ∈ g.edges,∀ x ∈ e.script,SmallX x):Wp (Z4g g) fun r=>∃ Ss e,Z0o g=some (Ss,e)/\((e≠0/\r.2=e)\/(e=0/\r.2=0/\VerOK g Ss/\DbE g Ss r.1)):=by
 have hL:=LIM_eq;obtain⟨⟨Ss,e⟩,hs,hv⟩:=Zar g hx;unfold Z4g;refine Wp.bind (R:=fun q=>q=(Ss,e)) ⟨_,hs,rfl⟩ fun q _ hq=>?_;subst hq;refine Wp.cond (fun h=>Wp.ret ⟨Ss,e,hs,.inl ⟨by simpa using h,rfl⟩⟩) fun h=>?_;obtain rfl:e=0:=by simpa using h
 have hV:VerOK g Ss:=hv rfl;have h7:=hV.l7;have hl:=hV.len;refine Wp.for (fun i (s:List (List Rel))=>s=(Ss.map EI).take i) (by simp) ?_ ?_
 .intro i x s next hxi hm hI hn;have hi:=(Y00.1 hxi).1;have h6:=(hV.vs x hm).t6;refine Wp.bind (Zd1 x (by omega)) fun o _ ho=>Wp.app (by rw[hI];simp;omega) (hn _ ?_);have h8:i < (Ss.map EI).length:=by simpa using hi
  obtain⟨_,h9⟩:=Y00.1 hxi;rw[Y10 h8,hI,ho];simp[h9]
 .intro s hs1;have hs2:s=Ss.map EI:=by rw[hs1,Y0l (by simp)]
  refine Wp.for (fun i (t:List (List (List Rel)))=>t.length=i/\∀ (j:Nat) (e:Edg) (P:Sch),j < i->g.edges[j]? = some e->Ss[e.parent.toNat]? = some P->t[j]? = some (ECe P e.script)) ⟨rfl,by omega⟩ ?_ ?_
  .intro i x t next hxi hm hI hn;have hi:=(Y00.1 hxi).1;have hp:=hV.edges i x hxi;refine Wp.get hp.1 (by show x.parent < (Ss.length:Int);omega) fun P hP _=>?_;have hC:Ss[i+1]? = some Ss[i+1]:=Y01 (by omega);obtain⟨all,ek⟩:=edgeOK (hx x hm) (hV.edge i x P _ hxi hP hC);refine Wp.bind (Zax (hx x hm) ek.s ek.ok) fun r _ hr=>?_;subst hr;refine Wp.cond (fun h=>by simp at h) fun _=>Wp.app (by simp;omega) (hn _ ⟨by simp[hI.1],fun j e' P' hj he hP'=>?_⟩);rcases Y0t j i with h1 | h1
   .rw[Y0j (by omega)];exact hI.2 j e' P' h1 he hP'
   .obtain rfl:j=i:=by omega
    rw[hxi] at he;cases he;rw[hP] at hP';cases hP';rw[ek.e,Y13 (by omega)];simp[hI.1]
  .intro t hI;exact Wp.ret ⟨Ss,0,hs,.inr ⟨rfl,rfl,hV,hs2,hI.1,fun j e P he hP=>hI.2 j e P (Y00.1 he).1 he hP⟩⟩
theorem Zqf {g:Gr} (hx:∀ e ∈ g.edges,∀ x ∈ e.script,SmallX x) {Ss:List Sch} {db:Db} (hs:Z0o g=some (Ss,0)) (hV:VerOK g Ss) (hD:DbE g Ss db):Wp (Z23 g db) fun e=>e=0:=by
 have h7:=hV.l7;have hl:=hV.len;have hi:=hD.i;have hc:=hD.len;have at_:∀ (j:Nat) (S:Sch),Ss[j]? = some S->db.insts[j]? = some (EI S):=fun j S h=>by rw[hi];simp[h]
 unfold Z23;refine Wp.bind (R:=fun q=>q=(Ss,0)) ⟨_,hs,rfl⟩ fun q _ hq=>?_;subst hq;refine Wp.cond (fun h=>by simp at h) fun _=>Wp.cond (fun h=>by simp[hi] at h) fun _=>Wp.cond (fun h=>by simp[hc] at h) fun _=>?_;refine Wp.for (fun _ _=>True) trivial ?_ fun _ _=>?_
 .intro i x s next hxi hm _ hn;have h6:=(hV.vs x hm).t6;refine Wp.getN (at_ i x hxi) (Wp.bind (Zhs x (by omega)) fun e _ he=>Wp.cond (fun h=>by simp[he] at h) fun _=>hn () trivial)
 .refine Wp.for (fun _ _=>True) trivial ?_ fun _ _=>Wp.ret rfl;intro i x s next hxi hm _ hn;have hil:=(Y00.1 hxi).1;have hp:=hV.edges i x hxi;obtain⟨n,hn0⟩:∃ n:Nat,x.parent=(n:Int):=⟨x.parent.toNat,by omega⟩;have hnl:n < Ss.length:=by omega
  have hP:Ss[n]? = some Ss[n]:=Y01 hnl;have hC:Ss[i+1]? = some Ss[i+1]:=Y01 (by omega);have hP':Ss[x.parent.toNat]? = some Ss[n]:=by rw[hn0];simp
  obtain⟨all,ek⟩:=edgeOK (hx x hm) (hV.edge i x _ _ hxi hP' hC);have hcm:=hD.c i x _ hxi hP';rw[ek.e] at hcm;rw[hn0];refine Wp.getN hP (Wp.getN (at_ n _ hP) (Wp.getN (i:=i+1) (at_ (i+1) _ hC) (Wp.getN hcm (Wp.bind (Zgi (hx x hm) ek) fun b _ hb=>Wp.cond (fun h=>by simp[hb] at h) fun _=>hn () trivial))))
theorem DbE.rows {g:Gr} {Ss:List Sch} {db:Db} (h:DbE g Ss db):∀ inst ∈ db.insts,∀ r ∈ inst,r.rows=[]:=by
 intro inst hm r hr;rw[h.i] at hm;obtain⟨S,_,rfl⟩:=Y0m.1 hm;exact Z8t S r hr
end
section
open Go.Am
def Z2b (l:List (List Rel)) (f:(List Rel)->Option (List Rel)):Option ((List (List Rel))):=
 (forK (fun (i2:Nat) (x2:List Rel) (s2:(List (List Rel))) next_2=>(bindK (f x2) fun v3=>(appK2 s2 [v3] fun _=>(next_2 (s2++[v3]))))) (fun (s2:(List (List Rel)))=>(some s2)) l 0 [])
instance i_database_mapSlice_Instance (l:List (List Rel)) (f:(List Rel)->Option (List Rel)) {g:FuncId} {caps:List (List D)} [ConF f prog (fun x=>.one (.d (.sl (x.map Rel.enc)))) (fun v=>.one (.d (.sl (v.map Rel.enc)))) g caps]:Con (Z2b l f) prog 105 [.one (.d (.sl (l.map (encL Rel.enc)))),.one (.fn g caps)] (fun r=>.one (.d (.sl (r.map (encL Rel.enc))))):=by
 unfold Z2b;have l1:LH (σ:=(List (List Rel))) 10 [1,8,9] [.g 5 1 (fun s=>s.map (encL Rel.enc))]:=.intro;exact go 22 Tryz.func105 rfl (by kernel_rfl) rfl rfl (by simp)
def Z2w (l:List (List Rel)):Option ((List (List Rel))):=
 (bindK (Z2b l (fun xa_=>Z07 xa_)) fun v1=>(some v1))
instance c_database_cloneAll (l:List (List Rel)):Con (Z2w l) prog 79 [.one (.d (.sl (l.map (encL Rel.enc))))] (fun r=>.one (.d (.sl (r.map (encL Rel.enc))))):=by
 unfold Z2w;exact go 5 Tryz.func79 rfl (by kernel_rfl) rfl rfl (by simp)
end
section
open Go Go.Am
abbrev encJ_ (l:List (List Rel)):D:=.sl (l.map (encL Rel.enc))
theorem Zic (h:HS) (l:List (List Rel)) (hf:∀ x ∈ l,Is (Z07 x) x) (K:V->HS->Prop) (hk:∀ c h',Z1o h' c (l.map encI_)->(∀ k ∈ labs c,h.ep<=k.1/\k.1 < h'.ep)->Same h h' []->BoxLe h h'->K (.one c) h') :
  HSpec prog 105 [.one (.d (.sl (l.map (encL Rel.enc)))),.one (.fn 35 [])] h K:=by
 refine HSpec.good Tryz.func105 rfl (by kernel_rfl) fun hg=>?_;refine HSpec.of_vc Tryz.func105 rfl (by kernel_rfl) (n:=22) rfl rfl (by simp) ?_;have hm:Is (forK (fun (_:Nat) x s next=>next (s++[x])) (fun s=>some s) l 0 []) l:=by rw[Zg3];rfl
 simp;intro hil;refine Wait.for (xs:=l) (s0:=[]) (fun i s e h'=>∃ c,e.n=22/\e.get 1=.one (.fn 35 [])/\e.get 5=.one c/\e.get 8=.one (.d (.sl (l.map (encL Rel.enc))))/\e.get 9=.one (.d (.int .i64 (l.length:Int)))/\e.get 10=.one (.d (.int .i64 (i:Int)))/\Z1o h' c (s.map encI_)/\s.length=i/\Same h h' []/\∀ k ∈ labs c,h.ep<=k.1/\k.1 < h'.ep) hm
  ⟨.nil,by simp,by simp,by simp,by simp,by simp,by simp,⟨[],by simpa[ones] using MR.nil,rfl⟩,rfl,.refl,by simp[labs]⟩ ?_ ?_
 .rintro i s e h' ⟨c,en,e1,e5,e8,e9,e10,mC,hsl,hs,hl⟩ hlt hm;have hw:IntKind.i64.wrap ((i:Int)+1)=(i:Int)+1:=Y0a _ (by omega);obtain⟨rs,hmr,he⟩:=mC;have hrl:rs.length=s.length:=by have:=congrArg List.length he;simpa using this
  simp[en,e1,e5,e8,e9,e10,hlt];refine Z08 ((c_instance_Clone l[i]).h l[i] (hf _ (Y0p hlt))) (by simp) ?_;simp[en,e1,e5,e8,e9,e10,hlt];refine app_mr Zff (by kernel_rfl) (by decide) (by decide) (hmr.frame fun k hk=>?_) (RowAt.own1 rfl) (by simp[ones];omega) fun c' h2 hm2 hs2 hl2=>?_
  .simp
  simp[en,e1,e5,e8,e9,e10,hw];have hs3:Same h h2 []:=Same.trans' (Same.trans hs ?_) hs2 fun k hk=>.inr (hl k hk).1
  .refine BackF.of (s++[l[i]]) ⟨⟨c',by simp[en],by simp[e1],by simp,by simp[e8],by simp[e9],by simp,⟨rs++[.d (encI_ l[i])],by simpa[ones] using hm2,by simp[he,C.toD]⟩,by simp[hsl],hs3,fun k hk=>?_⟩,hm⟩;rcases hl2 k hk with h9 | h9
   .have:=hl k h9
    have:=hs2.1
    simp at this;omega
   .have:=hs.1
    simp at h9;omega
  .repeat' first | exact Same.refl | apply Same.next | apply Same.setArr
 .rintro s e h' ⟨c,en,e1,e5,e8,e9,e10,mC,hsl,hs,hl⟩ hm;obtain rfl:=r_ret hm;simp[en,e1,e5,e8,e9,e10];exact hk _ _ mC hl hs (hs.boxLe hg)
theorem Zib (h:HS) (l:List (List (List Rel))) (hf:∀ x ∈ l,Is (Z2w x) x) (K:V->HS->Prop) (hk:∀ c h',Z1o h' c (l.map encJ_)->(∀ k ∈ labs c,h.ep<=k.1/\k.1 < h'.ep)->Same h h' []->BoxLe h h'->K (.one c) h') :
  HSpec prog 80 [.one (.d (.sl (l.map (encL (encL Rel.enc))))),.one (.fn 79 [])] h K:=by
 refine HSpec.good Tryz.func80 rfl (by kernel_rfl) fun hg=>?_;refine HSpec.of_vc Tryz.func80 rfl (by kernel_rfl) (n:=22) rfl rfl (by simp) ?_;have hm:Is (forK (fun (_:Nat) x s next=>next (s++[x])) (fun s=>some s) l 0 []) l:=by rw[Zg3];rfl
 simp;intro hil;refine Wait.for (xs:=l) (s0:=[]) (fun i s e h'=>∃ c,e.n=22/\e.get 1=.one (.fn 79 [])/\e.get 5=.one c/\e.get 8=.one (.d (.sl (l.map (encL (encL Rel.enc)))))/\e.get 9=.one (.d (.int .i64 (l.length:Int)))/\e.get 10=.one (.d (.int .i64 (i:Int)))/\Z1o h' c (s.map encJ_)/\s.length=i/\Same h h' []/\∀ k ∈ labs c,h.ep<=k.1/\k.1 < h'.ep) hm
  ⟨.nil,by simp,by simp,by simp,by simp,by simp,by simp,⟨[],by simpa[ones] using MR.nil,rfl⟩,rfl,.refl,by simp[labs]⟩ ?_ ?_
 .rintro i s e h' ⟨c,en,e1,e5,e8,e9,e10,mC,hsl,hs,hl⟩ hlt hm;have hw:IntKind.i64.wrap ((i:Int)+1)=(i:Int)+1:=Y0a _ (by omega);obtain⟨rs,hmr,he⟩:=mC;have hrl:rs.length=s.length:=by have:=congrArg List.length he;simpa using this
  simp[en,e1,e5,e8,e9,e10,hlt];refine Z08 ((c_database_cloneAll l[i]).h l[i] (hf _ (Y0p hlt))) (by simp) ?_;simp[en,e1,e5,e8,e9,e10,hlt];refine app_mr Zfe (by kernel_rfl) (by decide) (by decide) (hmr.frame fun k hk=>?_) (RowAt.own1 rfl) (by simp[ones];omega) fun c' h2 hm2 hs2 hl2=>?_
  .simp
  simp[en,e1,e5,e8,e9,e10,hw];have hs3:Same h h2 []:=Same.trans' (Same.trans hs ?_) hs2 fun k hk=>.inr (hl k hk).1
  .refine BackF.of (s++[l[i]]) ⟨⟨c',by simp[en],by simp[e1],by simp,by simp[e8],by simp[e9],by simp,⟨rs++[.d (encJ_ l[i])],by simpa[ones] using hm2,by simp[he,C.toD]⟩,by simp[hsl],hs3,fun k hk=>?_⟩,hm⟩;rcases hl2 k hk with h9 | h9
   .have:=hl k h9
    have:=hs2.1
    simp at this;omega
   .have:=hs.1
    simp at h9;omega
  .repeat' first | exact Same.refl | apply Same.next | apply Same.setArr
 .rintro s e h' ⟨c,en,e1,e5,e8,e9,e10,mC,hsl,hs,hl⟩ hm;obtain rfl:=r_ret hm;simp[en,e1,e5,e8,e9,e10];exact hk _ _ mC hl hs (hs.boxLe hg)
theorem Zid (h:HS) (l:List (List Rel)) (hf:∀ x ∈ l,Is (Z07 x) x) (K:V->HS->Prop) (hk:∀ c h',Z1o h' c (l.map encI_)->(∀ k ∈ labs c,h.ep<=k.1/\k.1 < h'.ep)->Same h h' []->BoxLe h h'->K (.one c) h') :
  HSpec prog 79 [.one (.d (.sl (l.map (encL Rel.enc))))] h K:=by
 refine HSpec.of_vc Tryz.func79 rfl (by kernel_rfl) (n:=5) rfl rfl (by simp) ?_;simp;refine Z00 (Zic h l hf _ fun c h' m hl hs hb=>?_);simp;exact hk c h' m hl hs hb
theorem Zbz (h:HS) (db:Db) (hf:∀ x ∈ db.insts,Is (Z07 x) x) (hg:∀ x ∈ db.comps,Is (Z2w x) x) (K:V->HS->Prop) (hk:∀ ci cc h',Z1o h' ci (db.insts.map encI_)->Z1o h' cc (db.comps.map encJ_)->(∀ k ∈ labs ci++labs cc,h.ep<=k.1/\k.1 < h'.ep)->(∀ k ∈ labs ci,k ∉ labs cc)->Same h h' []->K (.agg [ci,cc]) h') :
  HSpec prog 41 [.agg (db.enc.map C.d)] h K:=by
 refine HSpec.of_vc Tryz.func41 rfl (by kernel_rfl) (n:=10) rfl rfl (by simp) ?_;simp;refine Wait.cut (Plan.then_ [0,1,3,4,2,5,6,7] .done) follows (by kernel_rfl) (fun e1 h1=>∃ ci cc,e1.n=10/\e1.get 2=.one (.ptr (h.ep+1,32) 0)/\h1.box (h.ep+1,32)=some [ci,cc]/\Z1o h1 ci (db.insts.map encI_)/\Z1o h1 cc (db.comps.map encJ_)/\(∀ k ∈ labs ci++labs cc,h.ep<=k.1/\k.1 < h1.ep)/\(∀ k ∈ labs ci,k ∉ labs cc)/\Same h h1 []) ?_ ?_
 .simp;refine Z00 (Zid _ db.insts hf _ fun ci h1 m1 hl1 hs1 hb1=>?_);simp;refine⟨hb1,Z00 (Zib _ db.comps hg _ fun cc h2 m2 hl2 hs2 hb2=>?_)⟩;have b2:=hs2.2 (h.ep+1,32) (by have:=hs1.1;simp at this |-;omega) (by simp);have b1:=hs1.2 (h.ep+1,32) (by simp) (by simp);simp at b1;rw[b1] at b2;simp[b2];refine⟨hb2,?_⟩;have hep1:=hs1.1;have hep2:=hs2.1;simp at hep1;have hA:∀ k ∈ labs ci,h.ep+1 < k.1/\k.1 < h1.ep:=fun k hk=>by have:=hl1 k hk;simp at this;omega
  have hB:∀ k ∈ labs cc,h1.ep<=k.1/\k.1 < h2.ep:=fun k hk=>hl2 k hk;refine CutK.of ⟨ci,cc,by simp,by simp,by simp,m1.frame fun k hk=>?_,m2.frame fun k hk=>?_,fun k hk=>?_,fun k hk h9=>?_,?_⟩
  .have:=hA k hk
   have h3:k≠(h.ep+1,32):=by rintro rfl;simp at this
   simp[h3];exact hs2.2 k this.2 (by simp)
  .have:=hB k hk
   have h3:k≠(h.ep+1,32):=by rintro rfl;simp at this;omega
   simp[h3]
  .simp;rcases Y02.1 hk with h9 | h9
   .have:=hA k h9;omega
   .have:=hB k h9;omega
  .have:=hA k hk
   have:=hB k h9
   omega
  .refine Same.setBox (Same.trans (Same.trans ?_ hs1) hs2) (.inr (by simp))
   repeat' first | exact Same.refl | apply Same.next | apply Same.setArr | (refine Same.setBox ?_ (.inr (by simp)))
 .rintro e1 h1 ⟨ci,cc,en,e2,b2,m1,m2,hl,hd,hs⟩;simp[retH,resVs,resV,notTup,en,e2,b2];exact hk ci cc h1 m1 m2 hl hd hs
structure MC (h:HS) (gs:List (C × List D)):Prop where
 row:∀ g ∈ gs,Z1o h g.1 g.2
 lt:∀ g ∈ gs,∀ k ∈ labs g.1,k.1 < h.ep
 dis:(gs.flatMap fun g=>labs g.1).Nodup
theorem MC.new {h h':HS} {gs:List (C × List D)} (m:MC h gs) (hs:Same h h' []):MC h' gs:=
 ⟨fun g hg=>(m.row g hg).frame fun k hk=>hs.2 k (m.lt g hg k hk) (by simp),fun g hg k hk=>Y04 (m.lt g hg k hk) hs.1,m.dis⟩
theorem Z6a:∀ {xs:List (C × List D)},(xs.flatMap fun g=>labs g.1).Nodup->∀ {k1 k2:Nat} {g1 g2:C × List D},xs[k1]? = some g1->xs[k2]? = some g2->k1≠k2->∀ k ∈ labs g1.1,k ∉ labs g2.1
 | [],_,k1,_,_,_,h1,_,_,_,_=>by simp at h1
 | y::ys,hn,0,0,_,_,_,_,hne,_,_=>absurd rfl hne
 | y::ys,hn,0,k2+1,g1,g2,h1,h2,hne,k,hk=>fun h9=>by
   rw[Y0r,Y0e] at hn;simp at h1 h2;subst h1;exact hn.2.2 k hk k (Y0w.2 ⟨g2,Y03 h2,h9⟩) rfl
 | y::ys,hn,k1+1,0,g1,g2,h1,h2,hne,k,hk=>fun h9=>by
   rw[Y0r,Y0e] at hn;simp at h1 h2;subst h2;exact hn.2.2 k h9 k (Y0w.2 ⟨g1,Y03 h1,hk⟩) rfl
 | y::ys,hn,k1+1,k2+1,g1,g2,h1,h2,hne,k,hk=>by
   rw[Y0r,Y0e] at hn;exact Z6a hn.2.1 (by simpa using h1) (by simpa using h2) (by omega) k hk
theorem MC.set {h h':HS} {gs:List (C × List D)} {j:Nat} {g:C × List D} {ds:List D} (m:MC h gs) (hj:gs[j]? = some g) (hc:Z1o h' g.1 ds) (hs:Same h h' (labs g.1)):MC h' (gs.set j (g.1,ds)):=by
 have hjl:=(Y00.1 hj).1;have hset:∀ (k1:Nat) (g1:C × List D),(gs.set j (g.1,ds))[k1]? = some g1->(k1=j/\g1=(g.1,ds))\/(k1≠j/\gs[k1]? = some g1):=by
  intro k1 g1 h1;rw[Y2s] at h1
  by_cases he:j=k1
  .subst he;simp[hjl] at h1;exact .inl ⟨rfl,h1.symm⟩
  .rw[if_neg he] at h1;exact .inr ⟨fun h9=>he h9.symm,h1⟩
 refine⟨fun g1 hg1=>?_,fun g1 hg1 k hk=>?_,?_⟩
 .obtain⟨k1,hk1⟩:=Y1c hg1;rcases hset k1 g1 hk1 with ⟨_,rfl⟩ | ⟨hne,h1⟩
  .exact hc
  .exact (m.row g1 (Y03 h1)).frame fun k hk=>hs.2 k (m.lt g1 (Y03 h1) k hk) (Z6a m.dis h1 hj hne k hk)
 .obtain⟨k1,hk1⟩:=Y1c hg1;rcases hset k1 g1 hk1 with ⟨_,rfl⟩ | ⟨hne,h1⟩
  .exact Y04 (m.lt g (Y03 hj) k hk) hs.1
  .exact Y04 (m.lt g1 (Y03 h1) k hk) hs.1
 .have:(gs.set j (g.1,ds)).map Prod.fst=gs.map Prod.fst:=by
   rw[Y11];refine Y2r fun i=>?_;rw[Y2s]
   by_cases he:j=i
   .subst he;rw[Y0b,hj];simp[hjl]
   .simp[he]
  have e1:∀ xs:List (C × List D),(xs.flatMap fun g=>labs g.1)=(xs.map Prod.fst).flatMap labs:=fun xs=>by rw[List.flatMap_map]
  rw[e1,this,<- e1];exact m.dis
theorem MC.at {h:HS} {gs:List (C × List D)} {j i:Nat} {g:C × List D} (m:MC h gs) (hj:gs[j]? = some g) (hi:i < g.2.length):∃ lr cap bs,g.1=.mrow lr 0 g.2.length cap/\h.box lr=some bs/\i+1<=bs.length/\lr.1 < h.ep/\(∃ x,takeN 1 (bs.drop i)=some [x]/\some (x.toD)=some (g.2[i]?)) /\
  ∀ (h2:HS) (gs':List (C × List D)) (x:C) (d:D),MC h2 gs'->gs'[j]? = some g->x.toD=some d->MC (h2.setBox lr (Z01 bs i [x])) (gs'.set j (g.1,g.2.set i d)):=by
 obtain⟨lr,cap,bs,h1,h2,h3,h4,h5⟩:=(m.row g (Y03 hj)).at hi;have hl:lr ∈ labs g.1:=by rw[h1];simp[labs]
 refine⟨lr,cap,bs,h1,h2,h3,m.lt g (Y03 hj) lr hl,h4,fun H gs' x d m' hj' hx=>?_⟩;exact m'.set hj' (h5 H x d hx) (Same.refl.setBox (.inl hl))
theorem app_g {P:Program} {ty el:TypeId} {es by_ d:Nat} {h:HS} {c x:C} {K:V->HS->Prop} {xs ys:List (List D)} (hel:elT P ty=some (el,es,by_)) (g:Grows h es c xs) (hx:x.list? = some ys) (h0:0 < es) (hb:by_<=4096) (hy:∀ y ∈ ys,y.length=es) (hl:xs.length+ys.length<=LIM)
  (hk:∀ c' h',Grows h' es c' (xs++ys)->h'.box=h.box->h'.ep=h.ep+1->(∀ es2 c2 xs2,Grows h es2 c2 xs2->Apart c c2->Grows h' es2 c2 xs2/\Apart c' c2)->K (.one c') h'):appK P ty c x d h (K:=⟨K⟩):=by
 have hall:∀ y ∈ xs++ys,y.length=es:=fun y hy'=>(Y02.1 hy').elim (g.2 y) (hy y);refine Z8b hel g hx h0 hb hy hl (hk _ _ (Grows.own (by simp[HS.setArr,HS.next]) (by show h.ep < (C.useUp h c).ep+1;rw[Z9t];omega) hall) (by cases c<;>rfl) (by show (C.useUp h c).ep+1=_;rw[Z9t]) fun es2 c2 xs2 g2 ha=>⟨?_,g2.apart (Y09 _)⟩);exact ((g2.useUp ha).setArr' (by rw[Z9t];exact Y09 _)).next
def Z5z (g:Gr) (version:Int):Option (List Hop × Int):=
 bindK (Z6d g version) fun v2=>bif v2.2 != 0 then some ([],v2.2) else
 whileK (fun (s:List Int × List Hop × Int) next=>bif decide (s.2.2 < (s.1.length:Int)) then
  forK (fun (i:Nat) (edge:Edg) (t:List Int × List Hop) next2=>getK t.1 s.2.2 fun x=>bindK (Z0d t.1 ((i:Int)+1)) fun a=>bindK (Z0d t.1 edge.parent) fun b=>
   chkK (t.1.length+1<=2097152/\t.2.length+1<=2097152) (bif (edge.parent == x) && !a then next2 (t.1++[(i:Int)+1],t.2++[⟨(i:Int),false⟩]) else bif (((i:Int)+1) == x) && !b then next2 (t.1++[edge.parent],t.2++[⟨(i:Int),true⟩]) else next2 t))
   (fun t=>next (t.1,t.2,s.2.2+1)) g.edges 0 (s.1,s.2.1)
  else some (s.2.1,0)) FUEL ([version],[],0)
theorem Zap (g:Gr) (version:Int) (r:List Hop × Int) (hm:Is (Z5z g version) r) :
  PSpec prog 81 [.agg g.enc,.one (.d (.int .i64 version))] (.tup [.one (.d (.sl (r.1.map Hop.enc))),.one (.d (.int .i64 r.2))]):=by
 unfold Z5z at hm;refine PSpec.of_heap ?_;show HSpec _ _ [.agg (g.enc.map C.d),.one (.d (.int .i64 version))] HS.init _;refine HSpec.of_vc Tryz.func81 rfl (by kernel_rfl) (n:=90) rfl rfl (by simp) ?_;obtain⟨v2,hv2,hm⟩:=hm.bind;simp;refine Z08 ((c_versions_Schema g version).h v2 hv2) (by simp) ?_;simp;refine r_cond hm ?_ ?_<;>clear hm<;>intro hc hm
 .obtain rfl:=r_ret hm;simp[retH,resVs,resV,notTup];exact⟨.data rfl,.data rfl,trivial⟩
 simp;refine Wait.while (fun s e h'=>∃ cq co,e.n=90/\e.get 2=.one (.ptr (0,32) 0)/\e.get 8=.one cq/\e.get 9=.one co/\e.get 10=.one (.d (.int .i64 s.2.2))/\h'.box (0,32)=some [.d (.sl (g.base.tables.map Tbl.enc)),.d (.sl (g.base.fks.map Fk.enc)),.d (.sl (g.base.cons.map Cons.enc)),.d (.sl (g.edges.map Edg.enc))]/\0 < h'.ep/\Grows h' 1 cq (s.1.map encI)/\Grows h' 2 co (s.2.1.map Hop.enc)/\Apart cq co/\0<=s.2.2) hm
  ⟨.own (3,368) [encI version],.nil,by simp,by simp,by simp,by simp,by simp,by simp,by simp,Grows.own (by simp) (by simp) (by simp),Grows.nil,by rw[Zf3];trivial,by simp⟩ ?_
 rintro n ⟨queue,out,k⟩ e h' ⟨cq,co,en,e2,e8,e9,e10,bg,hep0,gQ,gO,hap,hkk⟩ hm;simp only at e10 gQ gO hkk hm;simp[en,e2,e8,e9,e10];refine Zfv gQ.list (fun hlq=>?_);simp only[Y0z] at hlq;have hlq2:queue.length<=2097152:=hlq;simp[en,e2,e8,e9,e10];refine r_cond hm ?_ ?_<;>clear hm<;>intro hc hm
 .simp[en,e2,e8,e9,e10,bg];intro hel;have hk0:k < (queue.length:Int):=by simpa using hc
  refine Wait.for (xs:=g.edges) (s0:=(queue,out)) (fun i t e h'=>∃ cq co,e.n=90/\e.get 2=.one (.ptr (0,32) 0)/\e.get 8=.one cq/\e.get 9=.one co/\e.get 10=.one (.d (.int .i64 k))/\e.get 31=.one (.d (.sl (g.edges.map Edg.enc)))/\e.get 32=.one (.d (.int .i64 (g.edges.length:Int)))/\e.get 33=.one (.d (.int .i64 (i:Int))) /\
   h'.box (0,32)=some [.d (.sl (g.base.tables.map Tbl.enc)),.d (.sl (g.base.fks.map Fk.enc)),.d (.sl (g.base.cons.map Cons.enc)),.d (.sl (g.edges.map Edg.enc))]/\0 < h'.ep/\Grows h' 1 cq (t.1.map encI)/\Grows h' 2 co (t.2.map Hop.enc)/\Apart cq co) hm ⟨cq,co,by simp[en],by simp[e2],by simp[e8],by simp[e9],by simp[e10],by simp,by simp,by simp,bg,hep0,gQ,gO,hap⟩ ?_ ?_
  .rintro i t e h' ⟨cq,co,en,e2,e8,e9,e10,e31,e32,e33,bg,hep0,gQ,gO,hap⟩ hlt hm;have hw:IntKind.i64.wrap ((i:Int)+1)=(i:Int)+1:=Y0a _ (by omega);obtain⟨x,hk1,hx,hm⟩:=hm.get;obtain⟨a,ha,hm⟩:=hm.bind;obtain⟨b,hb,hm⟩:=hm.bind;obtain⟨⟨hl1,hl2⟩,hm⟩:=hm.chk;have hxq:(t.1.map encI)[k.toNat]? = some [.int .i64 x]:=by rw[Y0b,hx];rfl
   have hcl:=gQ.list;simp[en,e2,e8,e9,e10,e31,e32,e33,hlt];refine Wait.cut (Plan.then_ [0,1,2,3,4,5,6,7,8,9,10,11,12,13,14] .done) follows (by kernel_rfl) (fun e1 h1=>e1.n=90/\e1.get 2=.one (.ptr (0,32) 0)/\e1.get 8=.one cq/\e1.get 9=.one co/\e1.get 10=.one (.d (.int .i64 k))/\e1.get 31=.one (.d (.sl (g.edges.map Edg.enc)))/\e1.get 32=.one (.d (.int .i64 (g.edges.length:Int)))/\e1.get 33=.one (.d (.int .i64 (i:Int))) /\
    e1.get 11=.one (.d (.int .i64 (i:Int)))/\e1.get 12=.one (.ptr (h'.ep,192) 0)/\h1.box (h'.ep,192)=some [.d (.int .i64 g.edges[i].parent),.d (.sl (g.edges[i].script.map Stp.enc))]/\h1.box (0,32)=some [.d (.sl (g.base.tables.map Tbl.enc)),.d (.sl (g.base.fks.map Fk.enc)),.d (.sl (g.base.cons.map Cons.enc)),.d (.sl (g.edges.map Edg.enc))]/\h'.ep < h1.ep/\Grows h1 1 cq (t.1.map encI)/\Grows h1 2 co (t.2.map Hop.enc)/\e1.get 38=.one (.d (.bool ((g.edges[i].parent == x) && !a)))) ?_ ?_
   .have b0:((0,32):Lab)≠(h'.ep,192):=by simp
    cases hp:(g.edges[i].parent == x) with
    | true=>
      simp[en,e2,e8,e9,e10,e31,e32,e33,hcl,hk1,hxq,hp,hw];refine Z08 ((c_slices_Contains_Int t.1 ((i:Int)+1)).h a ha) (by simp[toAs,V.toA,gQ.toA]) ?_;simp[en,e2,e8,e9,e10,e31,e32,e33,hcl,hk1,hxq,hp,hw]
      try refine⟨fun _ _ x=>x,?_⟩
      refine CutK.of ⟨by simp[en],by simp[e2,en],by simp[e8,en],by simp[e9,en],by simp[e10,en],by simp[e31,en],by simp[e32,en],by simp[e33,en],by simp[en],by simp[en],by simp,by simp[bg],by simp,gQ.setBox.next.setBox.next,gO.setBox.next.setBox.next,by simp[en]⟩
    | false=>
      simp[en,e2,e8,e9,e10,e31,e32,e33,hcl,hk1,hxq,hp,hw]
      try refine⟨fun _ _ x=>x,?_⟩
      refine CutK.of ⟨by simp[en],by simp[e2,en],by simp[e8,en],by simp[e9,en],by simp[e10,en],by simp[e31,en],by simp[e32,en],by simp[e33,en],by simp[en],by simp[en],by simp,by simp[bg],by simp,gQ.setBox.next.setBox,gO.setBox.next.setBox,by simp[en]⟩
   .rintro e1 h1 ⟨en,e2,e8,e9,e10,e31,e32,e33,e11,e12,be,bg,hep1,gQ,gO,e38⟩;simp[en,e2,e8,e9,e10,e31,e32,e33,e11,e12,e38];refine r_cond hm ?_ ?_<;>clear hm<;>intro hc1 hm
    .simp[en,e2,e8,e9,e10,e31,e32,e33,e11,e12];refine app_g (xs:=t.2.map Hop.enc) (ys:=[Hop.enc ⟨(i:Int),false⟩]) Zcs (gO.setArr' (by simp)).next rfl (by decide) (by decide) (by simp) (by simp;omega) fun c2 h4 gO2 hbo hep hoth=>?_;obtain⟨gQ2,hap2⟩:=hoth 1 cq (t.1.map encI) (gQ.setArr' (by simp)).next hap.symm;have b4:h4.box (0,32)=some [.d (.sl (g.base.tables.map Tbl.enc)),.d (.sl (g.base.fks.map Fk.enc)),.d (.sl (g.base.cons.map Cons.enc)),.d (.sl (g.edges.map Edg.enc))]:=by rw[hbo];simpa using bg
     have be4:h4.box (h'.ep,192)=some [.d (.int .i64 g.edges[i].parent),.d (.sl (g.edges[i].script.map Stp.enc))]:=by rw[hbo];simpa using be
     simp at hep;simp[en,e2,e8,e9,e10,e31,e32,e33,e11,e12,b4,be4,hw];refine app_g (xs:=t.1.map encI) (ys:=[encI ((i:Int)+1)]) Z96 (gQ2.setArr' (by simp)).next rfl (by decide) (by decide) (by simp) (by simp;omega) fun c3 h5 gQ3 hbo5 hep5 hoth5=>?_;obtain⟨gO3,hap3⟩:=hoth5 2 c2 _ (gO2.setArr' (by simp)).next hap2.symm;have b5:h5.box (0,32)=some [.d (.sl (g.base.tables.map Tbl.enc)),.d (.sl (g.base.fks.map Fk.enc)),.d (.sl (g.base.cons.map Cons.enc)),.d (.sl (g.edges.map Edg.enc))]:=by rw[hbo5];simpa using b4
     simp at hep5;simp[en,e2,e8,e9,e10,e31,e32,e33,e11,e12,b5,hw];exact BackF.of (t.1++[(i:Int)+1],t.2++[⟨(i:Int),false⟩]) ⟨⟨c3,c2,by simp[en],by simp[e2],by simp,by simp,by simp[e10],by simp[e31],by simp[e32],by simp,b5,by omega,by simpa using gQ3,by simpa using gO3,hap3⟩,hm⟩
    .have hcl:=gQ.list;simp[en,e2,e8,e9,e10,e31,e32,e33,e11,e12,be,hcl,hk1,hxq,hw];cases hp:(((i:Int)+1) == x) with
     | true=>
       rw[hp] at hm;simp[en,e2,e8,e9,e10,e31,e32,e33,e11,e12,be,hcl,hk1,hxq,hw,hp];refine Z08 ((c_slices_Contains_Int t.1 g.edges[i].parent).h b hb) (by simp[toAs,V.toA,gQ.toA]) ?_;simp[en,e2,e8,e9,e10,e31,e32,e33,e11,e12,be,hcl,hk1,hxq,hw,hp];refine r_cond hm ?_ ?_<;>clear hm<;>intro hc2 hm
       .simp[en,e2,e8,e9,e10,e31,e32,e33,e11,e12];refine app_g (xs:=t.2.map Hop.enc) (ys:=[Hop.enc ⟨(i:Int),true⟩]) Zcs (gO.next.setArr' (by simp)).next rfl (by decide) (by decide) (by simp) (by simp;omega) fun c2 h4 gO2 hbo hep hoth=>?_;obtain⟨gQ2,hap2⟩:=hoth 1 cq (t.1.map encI) (gQ.next.setArr' (by simp)).next hap.symm;have b4:h4.box (0,32)=some [.d (.sl (g.base.tables.map Tbl.enc)),.d (.sl (g.base.fks.map Fk.enc)),.d (.sl (g.base.cons.map Cons.enc)),.d (.sl (g.edges.map Edg.enc))]:=by rw[hbo];simpa using bg
        have be4:h4.box (h'.ep,192)=some [.d (.int .i64 g.edges[i].parent),.d (.sl (g.edges[i].script.map Stp.enc))]:=by rw[hbo];simpa using be
        simp at hep;simp[en,e2,e8,e9,e10,e31,e32,e33,e11,e12,b4,be4,hw];refine app_g (xs:=t.1.map encI) (ys:=[encI (g.edges[i].parent)]) Z96 (gQ2.setArr' (by simp)).next rfl (by decide) (by decide) (by simp) (by simp;omega) fun c3 h5 gQ3 hbo5 hep5 hoth5=>?_;obtain⟨gO3,hap3⟩:=hoth5 2 c2 _ (gO2.setArr' (by simp)).next hap2.symm;have b5:h5.box (0,32)=some [.d (.sl (g.base.tables.map Tbl.enc)),.d (.sl (g.base.fks.map Fk.enc)),.d (.sl (g.base.cons.map Cons.enc)),.d (.sl (g.edges.map Edg.enc))]:=by rw[hbo5];simpa using b4
        simp at hep5;simp[en,e2,e8,e9,e10,e31,e32,e33,e11,e12,b5,hw];exact BackF.of (t.1++[g.edges[i].parent],t.2++[⟨(i:Int),true⟩]) ⟨⟨c3,c2,by simp[en],by simp[e2],by simp,by simp,by simp[e10],by simp[e31],by simp[e32],by simp,b5,by omega,by simpa using gQ3,by simpa using gO3,hap3⟩,hm⟩
       .try simp[en,e2,e8,e9,e10,e31,e32,e33,e11,e12,hw]
        exact BackF.of t ⟨⟨cq,co,by simp[en],by simp[e2],by simp[e8],by simp[e9],by simp[e10],by simp[e31],by simp[e32],by simp,by first | exact bg | simpa using bg,by first | exact hep0 | (simp<;>omega) | omega,gQ.next,gO.next,hap⟩,hm⟩
     | false=>
       rw[hp] at hm;simp[en,e2,e8,e9,e10,e31,e32,e33,e11,e12,be,hcl,hk1,hxq,hw,hp];exact BackF.of t ⟨⟨cq,co,by simp[en],by simp[e2],by simp[e8],by simp[e9],by simp[e10],by simp[e31],by simp[e32],by simp,by first | exact bg | simpa using bg,by first | exact hep0 | (simp<;>omega) | omega,gQ,gO,hap⟩,hm⟩
  .rintro t e h' ⟨cq,co,en,e2,e8,e9,e10,e31,e32,e33,bg,hep0,gQ,gO,hap⟩ hm;have hw:IntKind.i64.wrap (k+1)=k+1:=Y0a _ (by omega);simp[en,e2,e8,e9,e10,e31,e32,e33,hw];exact BackF.of (t.1,t.2,k+1) ⟨⟨cq,co,by simp[en],by simp[e2],by simp[e8],by simp[e9],by simp,bg,hep0,gQ,gO,hap,by simp;omega⟩,hm⟩
 .obtain rfl:=r_ret hm;simp[retH,resVs,resV,notTup,en,e2,e8,e9,e10];exact⟨.data gO.toD,.data rfl,trivial⟩
theorem Zfg {x:C} {k:IntKind} {n:Int} (h:x.toD=some (.int k n)):x=.d (.int k n):=by
 cases x<;>simp[C.toD] at h;rw[h]
theorem Zfh {x:C} {b:Bool} (h:x.toD=some (.bool b)):x=.d (.bool b):=by
 cases x<;>simp[C.toD] at h;rw[h]
structure PSt where
 insts:List (List Rel)
 comps:List (List (List Rel))
 errs:List Int
 reached:List Bool
def PSt.rows (s:PSt) (ci cc ce cr:C):List (C × List D):=[(ci,s.insts.map encI_),(cc,s.comps.map encJ_),(ce,s.errs.map fun z=>.int .i64 z),(cr,s.reached.map D.bool)]
def Zrt (b:Bool) (S:Sch) (steps:List Stp) (x:List Rel) (c:List (List Rel)):Option (List Rel × List (List Rel) × Int):=bif b then Z2s S steps x c else Z3f S steps x c
def m_hop {ρ:Type} (schemas:List Sch) (edge:Edg) (hop:Hop) (n f:Int) (s:PSt) (next:PSt->Option ρ):Option ρ:=
 getK s.reached n fun rn=>bif !rn then next s else getK s.errs n fun en=>bif en != 0 then next s else chkK (0<=f/\f < s.reached.length/\f < s.errs.length) <|
  getK schemas edge.parent fun sch=>getK s.insts n fun inst=>getK s.comps hop.edge fun cm=>bindK (Zrt hop.back sch edge.script inst cm) fun r=>
   bif r.2.2 == 0 then chkK (f < s.insts.length) (next ⟨s.insts.set f.toNat r.1,s.comps.set hop.edge.toNat r.2.1,s.errs.set f.toNat r.2.2,s.reached.set f.toNat true⟩)
   else next ⟨s.insts,s.comps,s.errs.set f.toNat r.2.2,s.reached.set f.toNat true⟩
def Z5p (g:Gr) (schemas:List Sch) (insts:List (List Rel)) (comps:List (List (List Rel))) (v:Int):Option PSt:=
 chkK (0<=v/\v < schemas.length) <| bindK (Z5z g v) fun T=>
 forK (fun (_:Nat) (hop:Hop) (s:PSt) next=>getK g.edges hop.edge fun edge=>chkK (okI (hop.edge+1)) <|
  m_hop schemas edge hop (bif hop.back then hop.edge+1 else edge.parent) (bif hop.back then edge.parent else hop.edge+1) s next) (fun s=>some s) T.1 0
  ⟨insts,comps,List.replicate schemas.length 0,(List.replicate schemas.length false).set v.toNat true⟩
theorem Za3 (h:HS) (g:Gr) (schemas:List Sch) (insts:List (List Rel)) (comps:List (List (List Rel))) (v:Int) (ci cc:C) (r:PSt) (hm:Is (Z5p g schemas insts comps v) r) (mC:MC h [(ci,insts.map encI_),(cc,comps.map encJ_)]) (K:V->HS->Prop)
  (hK:∀ ce cr h',MC h' (r.rows ci cc ce cr)->Same h h' (labs ci++labs cc)->(∀ k ∈ labs ce++labs cr,h.ep<=k.1)->K (.tup [.one ce,.one cr]) h') :
  HSpec prog 42 [.agg (g.enc.map C.d),.one (.d (.sl (schemas.map Sch.enc))),.agg [ci,cc],.one (.d (.int .i64 v))] h K:=by
 refine HSpec.of_vc Tryz.func42 rfl (by kernel_rfl) (n:=118) rfl rfl (by simp) ?_;unfold Z5p at hm;obtain⟨⟨hv0,hv1⟩,hm⟩:=hm.chk;obtain⟨T,hT,hm⟩:=hm.bind;have mk:∀ (H:HS) (le lr:Lab),schemas.length<=2097152->H.box le=some (List.replicate schemas.length (.d (.int .i64 0)))->H.box lr=some (List.replicate schemas.length (.d (.bool false)))->le≠lr->h.ep+1 < le.1->le.1 < H.ep->h.ep+1 < lr.1->lr.1 < H.ep->Same h H [] ->
   MC H ((⟨insts,comps,List.replicate schemas.length 0,List.replicate schemas.length false⟩:PSt).rows ci cc (.mrow le 0 schemas.length schemas.length) (.mrow lr 0 schemas.length schemas.length)):=by
  intro H le lr hn b1 b2 hne g1 g2 g3 g4 hs;have m2:=mC.new hs;have hlt:=mC.lt;have hd:=mC.dis;simp only[Y0r,Y26,Y0k] at hd;have hi:∀ k ∈ labs ci,k.1 < h.ep:=hlt _ (Y05 ..);have hc:∀ k ∈ labs cc,k.1 < h.ep:=hlt _ (Y0c _ (Y05 ..));have c1:=Z1o.make b1 (d:=.int .i64 0) rfl hn;have c2:=Z1o.make b2 (d:=.bool false) rfl hn;refine⟨fun q hq=>?_,fun q hq k hk=>?_,?_⟩
  .simp only[PSt.rows,Y2e,Y08,Y1x,or_false] at hq;rcases hq with rfl | rfl | rfl | rfl
   .exact m2.row _ (Y05 ..)
   .exact m2.row _ (Y0c _ (Y05 ..))
   .exact c1
   .exact c2
  .have hep:=hs.1;simp only[PSt.rows,Y2e,Y08,Y1x,or_false] at hq;rcases hq with rfl | rfl | rfl | rfl
   .have:=hi k hk;omega
   .have:=hc k hk;omega
   .simp only[labs,Y20] at hk;rw[hk];exact g2
   .simp only[labs,Y20] at hk;rw[hk];exact g4
  .simp only[PSt.rows,Y0r,Y26,Y0k,labs];have hn:=Y0e.1 hd;refine Y0e.2 ⟨hn.1,Y0e.2 ⟨hn.2.1,by simp[hne],fun a ha b hb he=>?_⟩,fun a ha b hb he=>?_⟩
   .subst he
    have:=hc a ha
    simp at hb;rcases hb with rfl | rfl<;>omega
   .subst he
    have:=hi a ha
    simp at hb;rcases hb with hb | rfl | rfl
    .exact hn.2.2 a ha a hb rfl
    .omega
    .omega
 simp;refine Wait.cut (Plan.then_ [0,1,3,4] (.two 2 5 (Plan.then_ [6,5,7] .done) (Plan.then_ [2,6,7] .done))) follows (by kernel_rfl) (fun e1 h1=>∃ ce cr,e1.n=118/\e1.get 1=.one (.d (.sl (schemas.map Sch.enc)))/\e1.get 3=.one (.d (.int .i64 v))/\e1.get 4=.one (.ptr (h.ep,64) 0)/\e1.get 6=.one (.ptr (h.ep+1,96) 0)/\e1.get 8=.one ce/\e1.get 9=.one cr /\
  h1.box (h.ep,64)=some (g.enc.map C.d)/\h1.box (h.ep+1,96)=some [ci,cc]/\MC h1 ((⟨insts,comps,List.replicate schemas.length 0,List.replicate schemas.length false⟩:PSt).rows ci cc ce cr)/\Same h h1 []/\(∀ k ∈ labs ce++labs cr,h.ep+1 < k.1)/\h.ep+1 < h1.ep) ?_ ?_
 .simp;intro hsl;refine⟨⟨by omega,CutK.of ⟨.mrow (h.ep+1+1,368) 0 schemas.length schemas.length,.mrow (h.ep+1+1+1,416) 0 schemas.length schemas.length,by simp,by simp,by simp,by simp,by simp,by simp,by simp,by simp,by simp,mk _ (h.ep+1+1,368) (h.ep+1+1+1,416) hsl (by simp) (by simp) (by simp) (by simp) (by simp) (by simp) (by simp) ?_,?_,by simp[labs],by simp⟩⟩,?_⟩
  .repeat' first | exact Same.refl | apply Same.next | apply Same.setArr | (refine Same.setBox ?_ (.inr (by simp)))
  .repeat' first | exact Same.refl | apply Same.next | apply Same.setArr | (refine Same.setBox ?_ (.inr (by simp)))
  refine⟨by omega,CutK.of ⟨.mrow (h.ep+1+1+1,368) 0 schemas.length schemas.length,.mrow (h.ep+1+1,416) 0 schemas.length schemas.length,by simp,by simp,by simp,by simp,by simp,by simp,by simp,by simp,by simp,mk _ (h.ep+1+1+1,368) (h.ep+1+1,416) hsl (by simp) (by simp) (by simp) (by simp) (by simp) (by simp) (by simp) ?_,?_,by simp[labs],by simp⟩⟩
  .repeat' first | exact Same.refl | apply Same.next | apply Same.setArr | (refine Same.setBox ?_ (.inr (by simp)))
  .repeat' first | exact Same.refl | apply Same.next | apply Same.setArr | (refine Same.setBox ?_ (.inr (by simp)))
 .rintro e1 h1 ⟨ce,cr,en,e1',e3,e4,e6,e8,e9,bg,bd,mP,hs1,hln,hep1⟩;have hvn:v.toNat < (List.map D.bool (List.replicate schemas.length false)).length:=by simp;omega
  obtain⟨lr,cap,bs,hcr,hbr,hbl,hlr,-,hset⟩:=mP.at (j:=3) rfl hvn;simp only[Y0z,Y1l] at hcr;have hno:=ne_new hlr;have hvn2:v.toNat < schemas.length:=by omega
  have hnl:((h.ep,64)=lr)=False:=eq_false (by rintro rfl;have h9:h.ep+1 < h.ep:=hln (h.ep,64) (by rw[hcr];simp[labs]);omega);have hnd:((h.ep+1,96)=lr)=False:=eq_false (by rintro rfl;have h9:h.ep+1 < h.ep+1:=hln (h.ep+1,96) (by rw[hcr];simp[labs]);omega);have m1:=hset h1 _ (.d (.bool true)) (.bool true) mP rfl rfl;have e9':e1.get 9=.one (.mrow lr 0 schemas.length cap):=by rw[e9,hcr]
  simp only[Gr.enc,Y0d,Y0g] at bg;simp[en,e1',e3,e4,e6,e8,e9',hv0,hvn2,hbr,hbl,bg,hnl];refine Z08 (Zap g v T hT) (by simp) ?_;simp[en,e1',e3,e4,e6,e8,e9',hv0,hvn2,hbr,hbl,bg,hnl];intro hTl;have hci:∀ k ∈ labs ci,k.1 < h.ep:=mC.lt _ (Y05 ..);have hcc:∀ k ∈ labs cc,k.1 < h.ep:=mC.lt _ (Y0c _ (Y05 ..));have hce:∀ k ∈ labs ce,h.ep+1 < k.1:=fun k hk=>hln k (by simp[hk]);have hcr2:∀ k ∈ labs cr,h.ep+1 < k.1:=fun k hk=>hln k (by simp[hk]);have m1':MC (h1.setBox lr (Z01 bs v.toNat [.d (.bool true)])) ((⟨insts,comps,List.replicate schemas.length 0,(List.replicate schemas.length false).set v.toNat true⟩:PSt).rows ci cc ce cr):=by
   have e9:(List.map D.bool (List.replicate schemas.length false)).set v.toNat (.bool true)=((List.replicate schemas.length false).set v.toNat true).map D.bool:=by rw[Y11]
   simpa[PSt.rows,e9] using m1
  rw[<- hcr];refine Wait.for (xs:=T.1) (fun i s e h'=>e.n=118/\e.get 1=.one (.d (.sl (schemas.map Sch.enc)))/\e.get 4=.one (.ptr (h.ep,64) 0)/\e.get 6=.one (.ptr (h.ep+1,96) 0)/\e.get 8=.one ce/\e.get 9=.one cr/\e.get 36=.one (.d (.sl (T.1.map Hop.enc)))/\e.get 37=.one (.d (.int .i64 (T.1.length:Int)))/\e.get 38=.one (.d (.int .i64 (i:Int))) /\
   h'.box (h.ep,64)=some (g.enc.map C.d)/\h'.box (h.ep+1,96)=some [ci,cc]/\MC h' (s.rows ci cc ce cr)/\Same h h' (labs ci++labs cc)/\h.ep+1 < h'.ep) hm
   ⟨by simp[en],by simp[e1'],by simp[e4],by simp[e6],by simp[e8],by simp[e9],by simp,by simp,by simp,by simp[hnl,bg],by simp[hnd,bd],m1'.new (by repeat' first | exact Same.refl | apply Same.next),?_,by simp;omega⟩ ?_ ?_
  .refine (Same.setBox (hs1.mono (by simp)) (.inr ?_)).next
   have:=hcr2 lr (by rw[hcr];simp[labs])
   omega
  .rintro i s e h' ⟨en,e1',e4,e6,e8,e9,e36,e37,e38,bg,bd,mP,hs,hep⟩ hlt hm;have hw:IntKind.i64.wrap ((i:Int)+1)=(i:Int)+1:=Y0a _ (by omega);obtain⟨edge,he0,hedge,hm⟩:=hm.get;obtain⟨hok,hm⟩:=hm.chk;have hw2:=Zf4 hok;simp only[Gr.enc,Y0d,Y0g] at bg;simp[en,e1',e4,e6,e8,e9,e36,e37,e38,hlt,bg,he0,hedge];refine Wait.cut (Plan.then_ [0,1,2,3,4,5,6] .done) follows (by kernel_rfl) (fun E2 h2=>E2.n=118/\E2.get 1=.one (.d (.sl (schemas.map Sch.enc)))/\E2.get 4=.one (.ptr (h.ep,64) 0)/\E2.get 6=.one (.ptr (h.ep+1,96) 0)/\E2.get 8=.one ce/\E2.get 9=.one cr/\E2.get 36=.one (.d (.sl (T.1.map Hop.enc)))/\E2.get 37=.one (.d (.int .i64 (T.1.length:Int)))/\E2.get 38=.one (.d (.int .i64 (i:Int)))/\E2.get 13=.one (.ptr (h'.ep,208) 0)/\E2.get 14=.one (.ptr (h'.ep+1,224) 0)/\h2.box (h'.ep,208)=some [.d (.int .i64 T.1[i].edge),.d (.bool T.1[i].back)]/\h2.box (h'.ep+1,224)=some [.d (.int .i64 edge.parent),.d (.sl (edge.script.map Stp.enc))]/\E2.get 15=.one (.d (.int .i64 edge.parent))/\E2.get 16=.one (.d (.int .i64 (T.1[i].edge+1)))/\Same h' h2 []/\h'.ep+1 < h2.ep) ?_ ?_
   .simp[en,e1',e4,e6,e8,e9,e36,e37,e38,hw2];refine CutK.of ⟨by simp[en],by simp[e1',en],by simp[e4,en],by simp[e6,en],by simp[e8,en],by simp[e9,en],by simp[e36,en],by simp[e37,en],by simp[e38,en],by simp[en],by simp[en],by simp,by simp,by simp[en],by simp[en],?_,by simp⟩
    repeat' first | exact Same.refl | apply Same.next | apply Same.setArr | (refine Same.setBox ?_ (.inr (by simp)))
   .rintro E2 h2 ⟨en,e1',e4,e6,e8,e9,e36,e37,e38,e13,e14,b13,b14,e15,e16,hs12,hep2⟩;have mP2:=mP.new hs12;have bg2:=(hs12.2 (h.ep,64) (by simp;omega) (by simp)).trans bg;have bd2:=(hs12.2 (h.ep+1,96) (by simp;omega) (by simp)).trans bd;have hs2:=hs.trans (hs12.mono (by simp));cases hbk:T.1[i].back with
    | false=>
      rw[hbk] at hm b13;simp only[cond_true,cond_false] at hm;simp[en,e1',e4,e6,e8,e9,e36,e37,e38,e13,e14,e15,e16,b13];unfold m_hop at hm;obtain⟨rn,hn0,hrn,hm⟩:=hm.get;have hnr:(edge.parent).toNat < (s.reached.map D.bool).length:=by simpa using (Y00.1 hrn).1
      obtain⟨lr,capr,br,hcr,hbr,hbrl,hlr,⟨xr,htr,hxr⟩,hsetr⟩:=mP2.at (j:=3) rfl hnr;simp only[Y0b,hrn,Y0h,Y06] at hxr;obtain rfl:=Zfh hxr;have hcr':cr=.mrow lr 0 s.reached.length capr:=by simpa using hcr
      subst hcr';have hnr':(edge.parent).toNat < s.reached.length:=by simpa using hnr
      simp[en,e1',e4,e6,e8,e9,e36,e37,e38,e13,e14,e15,e16,b13,hn0,hnr',hbr,htr];cases rn with
      | false=>
        simp only[Y29,cond_true] at hm;simp[en,e1',e4,e6,e8,e9,e36,e37,e38,e13,e14,e15,e16,b13,hw];exact BackF.of s ⟨⟨by simp[en],by simp[e1'],by simp[e4],by simp[e6],by simp[e8],by simp[e9],by simp[e36],by simp[e37],by simp,by simpa using bg2,bd2,mP2,hs2,by omega⟩,hm⟩
      | true=>
        simp only[Y1v,cond_false] at hm;obtain⟨en_,-,hen,hm⟩:=hm.get;have hne:(edge.parent).toNat < (s.errs.map fun z=>D.int .i64 z).length:=by simpa using (Y00.1 hen).1
        obtain⟨le,cape,be,hce',hbe,hbel,hle,⟨xe,hte,hxe⟩,hsete⟩:=mP2.at (j:=2) rfl hne;simp only[Y0b,hen,Y0h,Y06] at hxe;obtain rfl:=Zfg hxe;have hce2:ce=.mrow le 0 s.errs.length cape:=by simpa using hce'
        subst hce2;have hne':(edge.parent).toNat < s.errs.length:=by simpa using hne
        simp[en,e1',e4,e6,e8,e9,e36,e37,e38,e13,e14,e15,e16,b13,hn0,hne',hbe,hte];refine r_cond hm ?_ ?_<;>clear hm<;>intro hc2 hm
        .simp[en,e1',e4,e6,e8,e9,e36,e37,e38,e13,e14,e15,e16,b13,hw];exact BackF.of s ⟨⟨by simp[en],by simp[e1'],by simp[e4],by simp[e6],by simp[e8],by simp[e9],by simp[e36],by simp[e37],by simp,by simpa using bg2,bd2,mP2,hs2,by omega⟩,hm⟩
        .obtain⟨⟨hf0,hf1,hf2⟩,hm⟩:=hm.chk;obtain⟨sch,hp0,hsch,hm⟩:=hm.get;obtain⟨inst,-,hin,hm⟩:=hm.get;obtain⟨cm,-,hcm,hm⟩:=hm.get;obtain⟨r2,hr2,hm⟩:=hm.bind;rw[hbk] at hr2;have hfr:(T.1[i].edge+1).toNat < s.reached.length:=by omega
         have hfe:(T.1[i].edge+1).toNat < s.errs.length:=by omega
         have hni:(edge.parent).toNat < s.insts.length:=(Y00.1 hin).1;have hnc:T.1[i].edge.toNat < s.comps.length:=(Y00.1 hcm).1;obtain⟨lr',capr',br',hcq,hbr',hbrl',-,-,hsetf⟩:=mP2.at (j:=3) (i:=(T.1[i].edge+1).toNat) rfl (by simpa using hfr);simp at hcq;obtain⟨rfl,rfl⟩:=hcq;obtain rfl:=Option.some.inj (hbr.symm.trans hbr');obtain⟨le',cape',be',hcq,hbe',hbel',-,-,hsetef⟩:=mP2.at (j:=2) (i:=(T.1[i].edge+1).toNat) rfl (by simpa using hfe);simp at hcq;obtain⟨rfl,rfl⟩:=hcq;obtain rfl:=Option.some.inj (hbe.symm.trans hbe');obtain⟨li,capi,bi,hcq,hbi,hbil,hli,⟨xi,hti,hxi⟩,-⟩:=mP2.at (j:=0) (i:=(edge.parent).toNat) rfl (by simpa using hni);have hcq':ci=.mrow li 0 s.insts.length capi:=by simpa using hcq
         subst hcq';simp only[Y0b,hin,Y0h,Y06] at hxi;obtain⟨lc,capc,bc,hcq,hbc,hbcl,hlc,⟨xc,htc,hxc⟩,hsetc⟩:=mP2.at (j:=1) (i:=T.1[i].edge.toNat) rfl (by simpa using hnc);have hcq':cc=.mrow lc 0 s.comps.length capc:=by simpa using hcq
         subst hcq';simp only[Y0b,hcm,Y0h,Y06] at hxc;have hlr0:lr.1 < h'.ep:=mP.lt _ (Y0c _ (Y0c _ (Y0c _ (Y05 ..)))) lr (by simp[labs]);have hle0:le.1 < h'.ep:=mP.lt _ (Y0c _ (Y0c _ (Y05 ..))) le (by simp[labs]);have q1:=Z05 hlr0;have q2:=Z05 hle0;have hr1:h.ep+1 < lr.1:=hcr2 lr (by simp[labs]);have he1:h.ep+1 < le.1:=hce le (by simp[labs]);have q3:((h.ep+1,96)=lr)=False:=eq_false (by rintro rfl;simp at hr1);have q4:((h.ep+1,96)=le)=False:=eq_false (by rintro rfl;simp at he1);have q5:(li=lr)=False:=eq_false (fun hq=>Z6a mP2.dis (k1:=0) (k2:=3) rfl rfl (by decide) li (by simp[labs]) (by simp[labs,hq]));have q6:(lc=lr)=False:=eq_false (fun hq=>Z6a mP2.dis (k1:=1) (k2:=3) rfl rfl (by decide) lc (by simp[labs]) (by simp[labs,hq]));have q7:(le=lr)=False:=eq_false (fun hq=>Z6a mP2.dis (k1:=2) (k2:=3) rfl rfl (by decide) le (by simp[labs]) (by simp[labs,hq]));have q8:(li=le)=False:=eq_false (fun hq=>Z6a mP2.dis (k1:=0) (k2:=2) rfl rfl (by decide) li (by simp[labs]) (by simp[labs,hq]));have q9:(lc=le)=False:=eq_false (fun hq=>Z6a mP2.dis (k1:=1) (k2:=2) rfl rfl (by decide) lc (by simp[labs]) (by simp[labs,hq]));have q10:(lc=li)=False:=eq_false (fun hq=>Z6a mP2.dis (k1:=1) (k2:=0) rfl rfl (by decide) lc (by simp[labs]) (by simp[labs,hq]));have m3:=hsetf h2 _ (.d (.bool true)) (.bool true) mP2 rfl rfl;simp[en,e1',e4,e6,e8,e9,e36,e37,e38,e13,e14,e15,e16,b13,b14,hf0,hfr,hbr,hbrl',q1,q2,q3,q4,bd2];refine Wait.cut (Plan.then_ [0,1,2,3,4,5,6,7,8,9,10,11,12,13,14,15,16,17,18,19,20,21,22,23,24,25,26] .done) follows (by kernel_rfl) (fun E3 h4=>E3.n=118/\E3.get 1=.one (.d (.sl (schemas.map Sch.enc)))/\E3.get 4=.one (.ptr (h.ep,64) 0)/\E3.get 6=.one (.ptr (h.ep+1,96) 0)/\E3.get 8=.one (.mrow le 0 s.errs.length cape)/\E3.get 9=.one (.mrow lr 0 s.reached.length capr)/\E3.get 36=.one (.d (.sl (T.1.map Hop.enc)))/\E3.get 37=.one (.d (.int .i64 (T.1.length:Int)))/\E3.get 38=.one (.d (.int .i64 (i:Int))) /\
          E3.get 13=.one (.ptr (h'.ep,208) 0)/\E3.get 16=.one (.d (.int .i64 (T.1[i].edge+1)))/\E3.get 18=.one (.d (.sl (r2.1.map Rel.enc)))/\E3.get 19=.one (.d (.sl (r2.2.1.map (encL Rel.enc))))/\E3.get 20=.one (.d (.int .i64 r2.2.2))/\Same (h2.setBox lr (Z01 br (T.1[i].edge+1).toNat [.d (.bool true)])) h4 []) ?_ ?_
         .simp[en,e1',e4,e6,e8,e9,e36,e37,e38,e13,e14,e15,e16,b13,b14,hp0,hsch,hn0,hni,he0,hnc,hbi,hbc,hti,htc,q1,q2,q3,q4,q5,q6,q7,q8,q9,q10,bd2];refine Z08 (Z8y sch edge.script inst cm r2 hr2) (by simp[toAs,V.toA,(toD_rd hxi).2.2,(toD_rd hxc).2.2]) ?_;simp[en,e1',e4,e6,e8,e9,e36,e37,e38,e13,e14,e15,e16,b13,b14,hp0,hsch,hn0,hni,he0,hnc,hbi,hbc,hti,htc,q1,q2,q3,q4,q5,q6,q7,q8,q9,q10,bd2]
          try refine⟨fun _ _ x=>x,?_⟩
          refine CutK.of ⟨by simp[en],by simp[e1',en],by simp[e4,en],by simp[e6,en],by simp[e8,en],by simp[e9,en],by simp[e36,en],by simp[e37,en],by simp[e38,en],by simp[e13,en],by simp[e16,e15,en],by simp[en],by simp[en],by simp[en],?_⟩
          repeat' first | exact Same.refl | apply Same.next | apply Same.setArr
         .rintro E3 h4 ⟨en,e1',e4,e6,e8,e9,e36,e37,e38,e13,e16,e18,e19,e20,hs34⟩;have m4:=m3.new hs34;have m5:=hsetef h4 _ (.d (.int .i64 r2.2.2)) (.int .i64 r2.2.2) m4 rfl rfl;have old:∀ k:Lab,k.1 < h2.ep->k≠lr->h4.box k=h2.box k:=fun k hk hq=>by
           have:=hs34.2 k (by simpa using hk) (by simp)
           rw[this];simp[hq]
          have hb4e:=(old le hle (by simpa using q7)).trans hbe;have hb4i:=(old li hli (by simpa using q5)).trans hbi;have hb4c:=(old lc hlc (by simpa using q6)).trans hbc;have b134:=(old (h'.ep,208) (by show h'.ep < h2.ep;omega) (by intro hq;have h9:=hlr0;rw[<- hq] at h9;exact absurd h9 (Nat.lt_irrefl _))).trans b13;have bd4:=(old (h.ep+1,96) (by show h.ep+1 < h2.ep;omega) (fun hq=>by rw[q3] at hq;exact hq)).trans bd2;have bg4:=(old (h.ep,64) (by show h.ep < h2.ep;omega) (by intro hq;have h9:=hr1;rw[<- hq] at h9;have h9:h.ep+1 < h.ep:=h9;omega)).trans bg2;have hq64:((h.ep,64)=le)=False:=eq_false (by rintro rfl;have h9:h.ep+1 < h.ep:=he1;omega);have hep4:=hs34.1;simp at hep4;have hs4:Same h (h4.setBox le (Z01 be (T.1[i].edge+1).toNat [.d (.int .i64 r2.2.2)])) (labs (.mrow li 0 s.insts.length capi)++labs (.mrow lc 0 s.comps.length capc)):=
           Same.setBox (Same.trans (Same.setBox hs2 (.inr (by omega))) (hs34.mono (by simp))) (.inr (by omega))
          simp[en,e1',e4,e6,e8,e9,e36,e37,e38,e13,e16,e18,e19,e20,hf0,hfe,hb4e,hbel',q2,q4];refine r_cond hm ?_ ?_<;>clear hm<;>intro hc3 hm
          .obtain⟨hfi0,hm⟩:=hm.chk;have hfi:(T.1[i].edge+1).toNat < s.insts.length:=by omega
           obtain⟨li',capi',bi',hcq,hbi',hbil',-,-,hsetif⟩:=mP2.at (j:=0) (i:=(T.1[i].edge+1).toNat) rfl (by simpa using hfi);simp at hcq;obtain⟨rfl,rfl⟩:=hcq;obtain rfl:=Option.some.inj (hbi.symm.trans hbi');have m6:=hsetif _ _ (.d (encI_ r2.1)) (encI_ r2.1) m5 rfl rfl;have m7:=hsetc _ _ (.d (encJ_ r2.2.1)) (encJ_ r2.2.1) m6 rfl rfl;have hli0:li.1 < h.ep:=hci li (by simp[labs]);have hlc0:lc.1 < h.ep:=hcc lc (by simp[labs]);have p1:=Z05 hli0;have p2:=Z05 hlc0;have p3:=ne_new hli0;have p4:=ne_new hlc0;have p5:((h'.ep,208)=li)=False:=eq_false (by rintro rfl;simp at hli0;omega);have p6:((h'.ep,208)=lc)=False:=eq_false (by rintro rfl;simp at hlc0;omega);simp[en,e1',e4,e6,e8,e9,e36,e37,e38,e13,e16,e18,e19,e20,hf0,hfe,hb4e,hbel',q2,q4];refine Wait.cut (Plan.then_ [0,1,2,3,5,7,8,9] (.three 4 6 10 (Plan.then_ [] (.two 6 10 (Plan.then_ [10,11,12] .done) (Plan.then_ [6,11,12] .done))) (Plan.then_ [] (.two 4 10 (Plan.then_ [10,11,12] .done) (Plan.then_ [4,11,12] .done))) (Plan.then_ [4,6,11,12] .done))) follows (by kernel_rfl) (fun E4 h5=>E4.n=118/\E4.get 1=.one (.d (.sl (schemas.map Sch.enc)))/\E4.get 4=.one (.ptr (h.ep,64) 0)/\E4.get 6=.one (.ptr (h.ep+1,96) 0)/\E4.get 8=.one (.mrow le 0 s.errs.length cape)/\E4.get 9=.one (.mrow lr 0 s.reached.length capr)/\E4.get 36=.one (.d (.sl (T.1.map Hop.enc)))/\E4.get 37=.one (.d (.int .i64 (T.1.length:Int)))/\E4.get 38=.one (.d (.int .i64 (i:Int))) /\
            h5=((h4.setBox le (Z01 be (T.1[i].edge+1).toNat [.d (.int .i64 r2.2.2)])).setBox li (Z01 bi (T.1[i].edge+1).toNat [.d (encI_ r2.1)])).setBox lc (Z01 bc T.1[i].edge.toNat [.d (encJ_ r2.2.1)])) ?_ ?_
           .simp[en,e1',e4,e6,e8,e9,e36,e37,e38,e13,e16,e18,e19,e20,hf0,hfi,he0,hnc,hb4e,hb4i,hb4c,hbil',hbcl,b134,bd4,q2,q4,q5,q6,q7,q8,q9,q10,p1,p2,p3,p4,p5,p6]
            repeat' with_reducible refine And.intro ?_ ?_
            all_goals first
             | (refine CutK.of ⟨by simp[en],by simp[e1',en],by simp[e4,en],by simp[e6,en],by simp[e8,en],by simp[e9,en],by simp[e36,en],by simp[e37,en],by simp[e38,en],rfl⟩)
           .rintro E4 h5 ⟨en,e1',e4,e6,e8,e9,e36,e37,e38,rfl⟩;simp[en,e1',e4,e6,e8,e9,e36,e37,e38,hw];refine BackF.of _ ⟨⟨by simp[en],by simp[e1'],by simp[e4],by simp[e6],by simp[e8],by simp[e9],by simp[e36],by simp[e37],by simp,?_,?_,?_,?_,?_⟩,hm⟩
            .simp[p1,p2,hq64];simpa using bg4
            .simp[p1,p2,q4];exact bd4
            .simpa[PSt.rows,Y11] using m7
            .exact (hs4.setBox (.inl (by simp[labs]))).setBox (.inl (by simp[labs]))
            .simp;omega
          .simp[en,e1',e4,e6,e8,e9,e36,e37,e38,e13,e16,e18,e19,e20,hw];refine BackF.of _ ⟨⟨by simp[en],by simp[e1'],by simp[e4],by simp[e6],by simp[e8],by simp[e9],by simp[e36],by simp[e37],by simp,?_,?_,?_,hs4,?_⟩,hm⟩
           .simp[hq64];simpa using bg4
           .simp[q4];exact bd4
           .simpa[PSt.rows,Y11] using m5
           .simp;omega
    | true=>
      rw[hbk] at hm b13;simp only[cond_true,cond_false] at hm;simp[en,e1',e4,e6,e8,e9,e36,e37,e38,e13,e14,e15,e16,b13];unfold m_hop at hm;obtain⟨rn,hn0,hrn,hm⟩:=hm.get;have hnr:(T.1[i].edge+1).toNat < (s.reached.map D.bool).length:=by simpa using (Y00.1 hrn).1
      obtain⟨lr,capr,br,hcr,hbr,hbrl,hlr,⟨xr,htr,hxr⟩,hsetr⟩:=mP2.at (j:=3) rfl hnr;simp only[Y0b,hrn,Y0h,Y06] at hxr;obtain rfl:=Zfh hxr;have hcr':cr=.mrow lr 0 s.reached.length capr:=by simpa using hcr
      subst hcr';have hnr':(T.1[i].edge+1).toNat < s.reached.length:=by simpa using hnr
      simp[en,e1',e4,e6,e8,e9,e36,e37,e38,e13,e14,e15,e16,b13,hn0,hnr',hbr,htr];cases rn with
      | false=>
        simp only[Y29,cond_true] at hm;simp[en,e1',e4,e6,e8,e9,e36,e37,e38,e13,e14,e15,e16,b13,hw];exact BackF.of s ⟨⟨by simp[en],by simp[e1'],by simp[e4],by simp[e6],by simp[e8],by simp[e9],by simp[e36],by simp[e37],by simp,by simpa using bg2,bd2,mP2,hs2,by omega⟩,hm⟩
      | true=>
        simp only[Y1v,cond_false] at hm;obtain⟨en_,-,hen,hm⟩:=hm.get;have hne:(T.1[i].edge+1).toNat < (s.errs.map fun z=>D.int .i64 z).length:=by simpa using (Y00.1 hen).1
        obtain⟨le,cape,be,hce',hbe,hbel,hle,⟨xe,hte,hxe⟩,hsete⟩:=mP2.at (j:=2) rfl hne;simp only[Y0b,hen,Y0h,Y06] at hxe;obtain rfl:=Zfg hxe;have hce2:ce=.mrow le 0 s.errs.length cape:=by simpa using hce'
        subst hce2;have hne':(T.1[i].edge+1).toNat < s.errs.length:=by simpa using hne
        simp[en,e1',e4,e6,e8,e9,e36,e37,e38,e13,e14,e15,e16,b13,hn0,hne',hbe,hte];refine r_cond hm ?_ ?_<;>clear hm<;>intro hc2 hm
        .simp[en,e1',e4,e6,e8,e9,e36,e37,e38,e13,e14,e15,e16,b13,hw];exact BackF.of s ⟨⟨by simp[en],by simp[e1'],by simp[e4],by simp[e6],by simp[e8],by simp[e9],by simp[e36],by simp[e37],by simp,by simpa using bg2,bd2,mP2,hs2,by omega⟩,hm⟩
        .obtain⟨⟨hf0,hf1,hf2⟩,hm⟩:=hm.chk;obtain⟨sch,hp0,hsch,hm⟩:=hm.get;obtain⟨inst,-,hin,hm⟩:=hm.get;obtain⟨cm,-,hcm,hm⟩:=hm.get;obtain⟨r2,hr2,hm⟩:=hm.bind;rw[hbk] at hr2;have hfr:(edge.parent).toNat < s.reached.length:=by omega
         have hfe:(edge.parent).toNat < s.errs.length:=by omega
         have hni:(T.1[i].edge+1).toNat < s.insts.length:=(Y00.1 hin).1;have hnc:T.1[i].edge.toNat < s.comps.length:=(Y00.1 hcm).1;obtain⟨lr',capr',br',hcq,hbr',hbrl',-,-,hsetf⟩:=mP2.at (j:=3) (i:=(edge.parent).toNat) rfl (by simpa using hfr);simp at hcq;obtain⟨rfl,rfl⟩:=hcq;obtain rfl:=Option.some.inj (hbr.symm.trans hbr');obtain⟨le',cape',be',hcq,hbe',hbel',-,-,hsetef⟩:=mP2.at (j:=2) (i:=(edge.parent).toNat) rfl (by simpa using hfe);simp at hcq;obtain⟨rfl,rfl⟩:=hcq;obtain rfl:=Option.some.inj (hbe.symm.trans hbe');obtain⟨li,capi,bi,hcq,hbi,hbil,hli,⟨xi,hti,hxi⟩,-⟩:=mP2.at (j:=0) (i:=(T.1[i].edge+1).toNat) rfl (by simpa using hni);have hcq':ci=.mrow li 0 s.insts.length capi:=by simpa using hcq
         subst hcq';simp only[Y0b,hin,Y0h,Y06] at hxi;obtain⟨lc,capc,bc,hcq,hbc,hbcl,hlc,⟨xc,htc,hxc⟩,hsetc⟩:=mP2.at (j:=1) (i:=T.1[i].edge.toNat) rfl (by simpa using hnc);have hcq':cc=.mrow lc 0 s.comps.length capc:=by simpa using hcq
         subst hcq';simp only[Y0b,hcm,Y0h,Y06] at hxc;have hlr0:lr.1 < h'.ep:=mP.lt _ (Y0c _ (Y0c _ (Y0c _ (Y05 ..)))) lr (by simp[labs]);have hle0:le.1 < h'.ep:=mP.lt _ (Y0c _ (Y0c _ (Y05 ..))) le (by simp[labs]);have q1:=Z05 hlr0;have q2:=Z05 hle0;have hr1:h.ep+1 < lr.1:=hcr2 lr (by simp[labs]);have he1:h.ep+1 < le.1:=hce le (by simp[labs]);have q3:((h.ep+1,96)=lr)=False:=eq_false (by rintro rfl;simp at hr1);have q4:((h.ep+1,96)=le)=False:=eq_false (by rintro rfl;simp at he1);have q5:(li=lr)=False:=eq_false (fun hq=>Z6a mP2.dis (k1:=0) (k2:=3) rfl rfl (by decide) li (by simp[labs]) (by simp[labs,hq]));have q6:(lc=lr)=False:=eq_false (fun hq=>Z6a mP2.dis (k1:=1) (k2:=3) rfl rfl (by decide) lc (by simp[labs]) (by simp[labs,hq]));have q7:(le=lr)=False:=eq_false (fun hq=>Z6a mP2.dis (k1:=2) (k2:=3) rfl rfl (by decide) le (by simp[labs]) (by simp[labs,hq]));have q8:(li=le)=False:=eq_false (fun hq=>Z6a mP2.dis (k1:=0) (k2:=2) rfl rfl (by decide) li (by simp[labs]) (by simp[labs,hq]));have q9:(lc=le)=False:=eq_false (fun hq=>Z6a mP2.dis (k1:=1) (k2:=2) rfl rfl (by decide) lc (by simp[labs]) (by simp[labs,hq]));have q10:(lc=li)=False:=eq_false (fun hq=>Z6a mP2.dis (k1:=1) (k2:=0) rfl rfl (by decide) lc (by simp[labs]) (by simp[labs,hq]));have m3:=hsetf h2 _ (.d (.bool true)) (.bool true) mP2 rfl rfl;simp[en,e1',e4,e6,e8,e9,e36,e37,e38,e13,e14,e15,e16,b13,b14,hf0,hfr,hbr,hbrl',q1,q2,q3,q4,bd2];refine Wait.cut (Plan.then_ [0,1,2,3,4,5,6,7,8,9,10,11,12,13,14,15,16,17,18,19,20,21,22,23,24,25,26] .done) follows (by kernel_rfl) (fun E3 h4=>E3.n=118/\E3.get 1=.one (.d (.sl (schemas.map Sch.enc)))/\E3.get 4=.one (.ptr (h.ep,64) 0)/\E3.get 6=.one (.ptr (h.ep+1,96) 0)/\E3.get 8=.one (.mrow le 0 s.errs.length cape)/\E3.get 9=.one (.mrow lr 0 s.reached.length capr)/\E3.get 36=.one (.d (.sl (T.1.map Hop.enc)))/\E3.get 37=.one (.d (.int .i64 (T.1.length:Int)))/\E3.get 38=.one (.d (.int .i64 (i:Int))) /\
          E3.get 13=.one (.ptr (h'.ep,208) 0)/\E3.get 16=.one (.d (.int .i64 (edge.parent)))/\E3.get 18=.one (.d (.sl (r2.1.map Rel.enc)))/\E3.get 19=.one (.d (.sl (r2.2.1.map (encL Rel.enc))))/\E3.get 20=.one (.d (.int .i64 r2.2.2))/\Same (h2.setBox lr (Z01 br (edge.parent).toNat [.d (.bool true)])) h4 []) ?_ ?_
         .simp[en,e1',e4,e6,e8,e9,e36,e37,e38,e13,e14,e15,e16,b13,b14,hp0,hsch,hn0,hni,he0,hnc,hbi,hbc,hti,htc,q1,q2,q3,q4,q5,q6,q7,q8,q9,q10,bd2];refine Z08 (Z8j sch edge.script inst cm r2 hr2) (by simp[toAs,V.toA,(toD_rd hxi).2.2,(toD_rd hxc).2.2]) ?_;simp[en,e1',e4,e6,e8,e9,e36,e37,e38,e13,e14,e15,e16,b13,b14,hp0,hsch,hn0,hni,he0,hnc,hbi,hbc,hti,htc,q1,q2,q3,q4,q5,q6,q7,q8,q9,q10,bd2]
          try refine⟨fun _ _ x=>x,?_⟩
          refine CutK.of ⟨by simp[en],by simp[e1',en],by simp[e4,en],by simp[e6,en],by simp[e8,en],by simp[e9,en],by simp[e36,en],by simp[e37,en],by simp[e38,en],by simp[e13,en],by simp[e16,e15,en],by simp[en],by simp[en],by simp[en],?_⟩
          repeat' first | exact Same.refl | apply Same.next | apply Same.setArr
         .rintro E3 h4 ⟨en,e1',e4,e6,e8,e9,e36,e37,e38,e13,e16,e18,e19,e20,hs34⟩;have m4:=m3.new hs34;have m5:=hsetef h4 _ (.d (.int .i64 r2.2.2)) (.int .i64 r2.2.2) m4 rfl rfl;have old:∀ k:Lab,k.1 < h2.ep->k≠lr->h4.box k=h2.box k:=fun k hk hq=>by
           have:=hs34.2 k (by simpa using hk) (by simp)
           rw[this];simp[hq]
          have hb4e:=(old le hle (by simpa using q7)).trans hbe;have hb4i:=(old li hli (by simpa using q5)).trans hbi;have hb4c:=(old lc hlc (by simpa using q6)).trans hbc;have b134:=(old (h'.ep,208) (by show h'.ep < h2.ep;omega) (by intro hq;have h9:=hlr0;rw[<- hq] at h9;exact absurd h9 (Nat.lt_irrefl _))).trans b13;have bd4:=(old (h.ep+1,96) (by show h.ep+1 < h2.ep;omega) (fun hq=>by rw[q3] at hq;exact hq)).trans bd2;have bg4:=(old (h.ep,64) (by show h.ep < h2.ep;omega) (by intro hq;have h9:=hr1;rw[<- hq] at h9;have h9:h.ep+1 < h.ep:=h9;omega)).trans bg2;have hq64:((h.ep,64)=le)=False:=eq_false (by rintro rfl;have h9:h.ep+1 < h.ep:=he1;omega);have hep4:=hs34.1;simp at hep4;have hs4:Same h (h4.setBox le (Z01 be (edge.parent).toNat [.d (.int .i64 r2.2.2)])) (labs (.mrow li 0 s.insts.length capi)++labs (.mrow lc 0 s.comps.length capc)):=
           Same.setBox (Same.trans (Same.setBox hs2 (.inr (by omega))) (hs34.mono (by simp))) (.inr (by omega))
          simp[en,e1',e4,e6,e8,e9,e36,e37,e38,e13,e16,e18,e19,e20,hf0,hfe,hb4e,hbel',q2,q4];refine r_cond hm ?_ ?_<;>clear hm<;>intro hc3 hm
          .obtain⟨hfi0,hm⟩:=hm.chk;have hfi:(edge.parent).toNat < s.insts.length:=by omega
           obtain⟨li',capi',bi',hcq,hbi',hbil',-,-,hsetif⟩:=mP2.at (j:=0) (i:=(edge.parent).toNat) rfl (by simpa using hfi);simp at hcq;obtain⟨rfl,rfl⟩:=hcq;obtain rfl:=Option.some.inj (hbi.symm.trans hbi');have m6:=hsetif _ _ (.d (encI_ r2.1)) (encI_ r2.1) m5 rfl rfl;have m7:=hsetc _ _ (.d (encJ_ r2.2.1)) (encJ_ r2.2.1) m6 rfl rfl;have hli0:li.1 < h.ep:=hci li (by simp[labs]);have hlc0:lc.1 < h.ep:=hcc lc (by simp[labs]);have p1:=Z05 hli0;have p2:=Z05 hlc0;have p3:=ne_new hli0;have p4:=ne_new hlc0;have p5:((h'.ep,208)=li)=False:=eq_false (by rintro rfl;simp at hli0;omega);have p6:((h'.ep,208)=lc)=False:=eq_false (by rintro rfl;simp at hlc0;omega);simp[en,e1',e4,e6,e8,e9,e36,e37,e38,e13,e16,e18,e19,e20,hf0,hfe,hb4e,hbel',q2,q4];refine Wait.cut (Plan.then_ [0,1,2,3,5,7,8,9] (.three 4 6 10 (Plan.then_ [] (.two 6 10 (Plan.then_ [10,11,12] .done) (Plan.then_ [6,11,12] .done))) (Plan.then_ [] (.two 4 10 (Plan.then_ [10,11,12] .done) (Plan.then_ [4,11,12] .done))) (Plan.then_ [4,6,11,12] .done))) follows (by kernel_rfl) (fun E4 h5=>E4.n=118/\E4.get 1=.one (.d (.sl (schemas.map Sch.enc)))/\E4.get 4=.one (.ptr (h.ep,64) 0)/\E4.get 6=.one (.ptr (h.ep+1,96) 0)/\E4.get 8=.one (.mrow le 0 s.errs.length cape)/\E4.get 9=.one (.mrow lr 0 s.reached.length capr)/\E4.get 36=.one (.d (.sl (T.1.map Hop.enc)))/\E4.get 37=.one (.d (.int .i64 (T.1.length:Int)))/\E4.get 38=.one (.d (.int .i64 (i:Int))) /\
            h5=((h4.setBox le (Z01 be (edge.parent).toNat [.d (.int .i64 r2.2.2)])).setBox li (Z01 bi (edge.parent).toNat [.d (encI_ r2.1)])).setBox lc (Z01 bc T.1[i].edge.toNat [.d (encJ_ r2.2.1)])) ?_ ?_
           .simp[en,e1',e4,e6,e8,e9,e36,e37,e38,e13,e16,e18,e19,e20,hf0,hfi,he0,hnc,hb4e,hb4i,hb4c,hbil',hbcl,b134,bd4,q2,q4,q5,q6,q7,q8,q9,q10,p1,p2,p3,p4,p5,p6]
            repeat' with_reducible refine And.intro ?_ ?_
            all_goals first
             | (refine CutK.of ⟨by simp[en],by simp[e1',en],by simp[e4,en],by simp[e6,en],by simp[e8,en],by simp[e9,en],by simp[e36,en],by simp[e37,en],by simp[e38,en],rfl⟩)
           .rintro E4 h5 ⟨en,e1',e4,e6,e8,e9,e36,e37,e38,rfl⟩;simp[en,e1',e4,e6,e8,e9,e36,e37,e38,hw];refine BackF.of _ ⟨⟨by simp[en],by simp[e1'],by simp[e4],by simp[e6],by simp[e8],by simp[e9],by simp[e36],by simp[e37],by simp,?_,?_,?_,?_,?_⟩,hm⟩
            .simp[p1,p2,hq64];simpa using bg4
            .simp[p1,p2,q4];exact bd4
            .simpa[PSt.rows,Y11] using m7
            .exact (hs4.setBox (.inl (by simp[labs]))).setBox (.inl (by simp[labs]))
            .simp;omega
          .simp[en,e1',e4,e6,e8,e9,e36,e37,e38,e13,e16,e18,e19,e20,hw];refine BackF.of _ ⟨⟨by simp[en],by simp[e1'],by simp[e4],by simp[e6],by simp[e8],by simp[e9],by simp[e36],by simp[e37],by simp,?_,?_,?_,hs4,?_⟩,hm⟩
           .simp[hq64];simpa using bg4
           .simp[q4];exact bd4
           .simpa[PSt.rows,Y11] using m5
           .simp;omega
  .rintro s e h' ⟨en,e1',e4,e6,e8,e9,e36,e37,e38,bg,bd,mP,hs,hep⟩ hm;obtain rfl:=r_ret hm;simp[en,e1',e4,e6,e8,e9,e36,e37,e38,retH,resVs,resV,notTup];exact hK ce cr h' mP hs fun k hk=>by have:=hln k hk;omega
end
section
open Go.Am

end
section
open Go Go.Am
def InstOK (x:List Rel):Prop:=x.length<=2097152/\∀ r ∈ x,r.rows.length<=2097152
instance (x:List Rel):Decidable (InstOK x):=inferInstanceAs (Decidable (_/\_))
def DbOK (db:Db):Prop:=(∀ x ∈ db.insts,InstOK x)/\∀ l ∈ db.comps,l.length<=2097152/\∀ x ∈ l,InstOK x
instance (db:Db):Decidable (DbOK db):=inferInstanceAs (Decidable (_/\_))
theorem Zb9 {α β:Type} {f:α->Option β} {g:α->β->α}:∀ (xs:List α) (i:Nat) (s:List α),s.length+xs.length<=2097152->(∀ x ∈ xs,∃ v,f x=some v/\g x v=x) ->
  forK (fun (_:Nat) x s next=>bindK (f x) fun v=>appK2 s [g x v] fun _=>next (s++[g x v])) (fun s=>some s) xs i s=some (s++xs)
 | [],i,s,_,_=>by simp[forK]
 | x::xs,i,s,hs,hf=>by
   obtain⟨v,hv,hg⟩:=hf x (by simp);simp only[Y22] at hs;show bindK (f x) _=_;rw[hv];show appK2 s [g x v] _=_;rw[hg];show chkK _ _=_;unfold chkK;rw[if_pos (by simp;omega)];show forK _ _ xs (i+1) (s++[x])=_;rw[Zb9 xs (i+1) (s++[x]) (by simp;omega) fun y hy=>hf y (by simp[hy])];simp
theorem Zgu {rows:List (List GV)} (h:rows.length<=2097152):Is (Z0j rows) rows:=
 Zb9 (f:=Z2h) (g:=fun _ v=>v) rows 0 [] (by simpa using h) fun x _=>⟨x,rfl,rfl⟩
theorem Zb8 {x:List Rel} (h:InstOK x):Is (Z07 x) x:=
 Zb9 (f:=fun r:Rel=>Z0j r.rows) (g:=fun r v=>⟨r.table,v⟩) x 0 [] (by simpa using h.1) fun r hr=>⟨r.rows,Zgu (h.2 r hr),rfl⟩
theorem Zia {l:List (List Rel)} (h:l.length<=2097152) (hx:∀ x ∈ l,InstOK x):Is (Z2w l) l:=by
 have:Z2b l (fun xa_=>Z07 xa_)=some l:=
  Zb9 (f:=fun x=>Z07 x) (g:=fun _ v=>v) l 0 [] (by simpa using h) fun x hm=>⟨x,Zb8 (hx x hm),rfl⟩
 unfold Z2w;rw[this];rfl
def Z5y (g:Gr) (db:Db) (v:Int) (changes:List Chg):Option (Db × List Int × Int):=
 bindK (Z23 g db) fun e=>bif e != 0 then some (⟨[],[]⟩,[],e) else
 bif decide (v < 0) || decide ((db.insts.length:Int)<=v) then some (⟨[],[]⟩,[],4) else
 bindK (Z0o g) fun q=>getK q.1 v fun S=>getK db.insts v fun inst=>bindK (Z85 S inst changes) fun r=>
 bif r.2 != 0 then some (⟨[],[]⟩,(List.replicate q.1.length 0).set v.toNat r.2,0) else chkK (DbOK db) <|
 bindK (Z5p g q.1 (db.insts.set v.toNat r.1) db.comps v) fun s=>
 forK (fun (u:Nat) (S2:Sch) (t:List Int × Bool) next=>getK s.reached u fun ru=>getK t.1 u fun eu=>
  bif ru && (eu == 0) then getK s.insts u fun iu=>bindK (Z2u S2 iu) fun e=>next (t.1.set u e,t.2 || (e != 0)) else next (t.1,t.2 || (eu != 0)))
  (fun t=>bif t.2 then some (⟨[],[]⟩,t.1,0) else some (⟨s.insts,s.comps⟩,t.1,0)) q.1 0 (s.errs,false)
theorem Zg6 {h:HS} {c:C} {errs:List Int} (m:Z1o h c (errs.map fun z=>.int .i64 z)):Frz h c (.sl (errs.map encI)):=by
 have e1:(errs.map fun z=>D.int .i64 z).map (fun d=>[d])=errs.map encI:=by rw[Y28];rfl
 rw[<- e1];exact m.frz
theorem Znc {h:HS} {c:C} {l:List (List Rel)} (m:Z1o h c (l.map encI_)):Frz h c (.sl (l.map (encL Rel.enc))):=by
 have e1:(l.map encI_).map (fun d=>[d])=l.map (encL Rel.enc):=by rw[Y28];rfl
 rw[<- e1];exact m.frz
theorem Znk {h:HS} {c:C} {l:List (List (List Rel))} (m:Z1o h c (l.map encJ_)):Frz h c (.sl (l.map (encL (encL Rel.enc)))):=by
 have e1:(l.map encJ_).map (fun d=>[d])=l.map (encL (encL Rel.enc)):=by rw[Y28];rfl
 rw[<- e1];exact m.frz
theorem Zco (g:Gr) (db:Db) (v:Int) (changes:List Chg) (r:Db × List Int × Int) (hm:Is (Z5y g db v changes) r) :
  PSpec prog 18 [.agg g.enc,.agg db.enc,.one (.d (.int .i64 v)),.one (.d (.sl (changes.map Chg.enc)))] (.tup [.agg (r.1.enc.map RC.d),.one (.d (.sl (r.2.1.map encI))),.one (.d (.int .i64 r.2.2))]):=by
 unfold Z5y at hm;refine PSpec.of_heap ?_;show HSpec _ _ [.agg (g.enc.map C.d),.agg (db.enc.map C.d),.one (.d (.int .i64 v)),.one (.d (.sl (changes.map Chg.enc)))] HS.init _;refine HSpec.of_vc Tryz.func18 rfl (by kernel_rfl) (n:=127) rfl rfl (by simp) ?_;obtain⟨e,he,hm⟩:=hm.bind;simp;refine Z08 ((c_database_Validate g db).h e he) (by simp) ?_;simp;refine r_cond hm ?_ ?_<;>clear hm<;>intro hc hm
 .obtain rfl:=r_ret hm;simp[retH,resVs,resV,notTup];exact⟨⟨.data rfl,.data rfl,trivial⟩,.data rfl,.data rfl,trivial⟩
 simp;have bad:∀ (h':HS),FrzFin h' (.tup [.agg [.nil,.nil],.one .nil,.one (.d (.int .i64 4))]) (.tup [.agg ((⟨[],[]⟩:Db).enc.map RC.d),.one (.d (.sl (([]:List Int).map encI))),.one (.d (.int .i64 4))]):=fun h'=>⟨⟨.data rfl,.data rfl,trivial⟩,.data rfl,.data rfl,trivial⟩
 by_cases hv0:v < 0
 .simp only[hv0,decide_true,Bool.true_or,cond_true] at hm;obtain rfl:=r_ret hm;simp[hv0,retH,resVs,resV,notTup];exact bad _
 have hv0':decide (v < 0)=false:=by simp[hv0]
 rw[hv0',Bool.false_or] at hm;simp[hv0];intro hdl
 try simp[hv0]
 refine r_cond hm ?_ ?_<;>clear hm<;>intro hc2 hm
 .obtain rfl:=r_ret hm;simp[retH,resVs,resV,notTup];exact bad _
 obtain⟨q,hq,hm⟩:=hm.bind;obtain⟨S,hvv,hS,hm⟩:=hm.get;obtain⟨inst,-,hin,hm⟩:=hm.get;obtain⟨r1,hr1,hm⟩:=hm.bind;simp;refine Z08 ((i_versions_Schemas g).h q hq) (by simp) ?_;simp;refine Wait.cut (Plan.then_ [0,1,2,3,4,5,6,7,8,9,10,11,12,13,14,15] .done) follows (by kernel_rfl) (fun e1 h1=>e1.n=127/\e1.get 2=.one (.d (.int .i64 v))/\e1.get 4=.one (.ptr (0,64) 0)/\e1.get 5=.one (.ptr (1,80) 0)/\e1.get 8=.one (.ptr (2,128) 0)/\e1.get 12=.one (.d (.sl (q.1.map Sch.enc)))/\e1.get 14=.one (.d (.sl (r1.1.map Rel.enc)))/\e1.get 15=.one (.d (.int .i64 r1.2)) /\
  h1.box (0,64)=some (g.enc.map C.d)/\h1.box (1,80)=some (db.enc.map C.d)/\h1.box (2,128)=some [.nil,.nil]/\2 < h1.ep) ?_ ?_
 .simp[hvv,hS,hin];refine Z08 (Zeg S inst changes r1 hr1) (by simp) ?_;simp[hvv,hS,hin]
  try refine⟨fun _ _ x=>x,?_⟩
  exact CutK.of ⟨by simp,by simp,by simp,by simp,by simp,by simp,by simp,by simp,by simp,by simp,by simp,by simp⟩
 rintro e1 h1 ⟨en,e2,e4,e5,e8,e12,e14,e15,bg,bdb,br,hep1⟩;simp[en,e2,e4,e5,e8,e12,e14,e15];refine r_cond hm ?_ ?_<;>clear hm<;>intro hc3 hm
 .obtain rfl:=r_ret hm;simp[en,e2,e4,e5,e8,e12,e14,e15];intro hsl;refine⟨by omega,?_⟩;have hvq:v.toNat < q.1.length:=(Y00.1 hS).1;have c0:Z1o (h1.setBox (h1.ep,1008) (List.replicate q.1.length (.d (.int .i64 0)))) (.mrow (h1.ep,1008) 0 q.1.length q.1.length) (List.replicate q.1.length (.int .i64 0)):=Z1o.make (zc:=.d (.int .i64 0)) (by simp) rfl hsl;obtain⟨lr,cap,bs,hq1,hq2,hq3,-,hset⟩:=c0.at (i:=v.toNat) (by simpa using hvq);simp only[Y1l,C.mrow.injEq,true_and] at hq1;obtain⟨rfl,rfl⟩:=hq1;simp at hq2;subst hq2;simp only[Y1l] at hq3;simp[en,e2,e4,e5,e8,e12,e14,e15,hvv,hvq,hq3,br];simp[retH,resVs,resV,notTup,en,e2,e4,e5,e8,e12,e14,e15,br];refine⟨⟨.data rfl,.data rfl,trivial⟩,?_,.data rfl,trivial⟩;have e9:(List.replicate q.1.length [D.int IntKind.i64 0]).set v.toNat [D.int IntKind.i64 r1.2]=((List.replicate q.1.length (0:Int)).set v.toNat r1.2).map encI:=by rw[Y11,Y2e];rfl
  have e10:((List.replicate q.1.length (0:Int)).set v.toNat r1.2).map (fun z=>D.int .i64 z)=(List.replicate q.1.length (D.int .i64 0)).set v.toNat (.int .i64 r1.2):=by rw[Y11,Y2e]
  show Frz _ _ _;rw[e9];refine Zg6 ?_;rw[e10];refine (hset h1 (.d (.int .i64 r1.2)) (.int .i64 r1.2) rfl).frame fun l hl=>?_;simp[labs] at hl;subst hl;simp
 obtain⟨hdb,hm⟩:=hm.chk;obtain⟨s,hs,hm⟩:=hm.bind;simp only[Gr.enc,Db.enc,Y0d,Y0g] at bg bdb;simp[en,e2,e4,e5,e8,e12,e14,e15,bdb];refine Z00 (Zbz _ db (fun x hx=>Zb8 (hdb.1 x hx)) (fun l hl=>Zia (hdb.2 l hl).1 (hdb.2 l hl).2) _ fun ci cc h2 mI mC hl hd hs2=>?_);simp[en,e2,e4,e5,e8,e12,e14,e15,bdb];have mB:MC h2 [(ci,db.insts.map encI_),(cc,db.comps.map encJ_)]:=by
  refine⟨fun q hq=>?_,fun q hq k hk=>?_,?_⟩
  .simp only[Y08,Y1x,or_false] at hq;rcases hq with rfl | rfl
   .exact mI
   .exact mC
  .simp only[Y08,Y1x,or_false] at hq;rcases hq with rfl | rfl
   .exact (hl k (by simp[hk])).2
   .exact (hl k (by simp[hk])).2
  .simp only[Y0r,Y26,Y0k];exact Y0e.2 ⟨Z1t,Z1t,fun a ha b hb he=>hd a ha (he ▸ hb)⟩
 have hvi:v.toNat < (db.insts.map encI_).length:=by simpa using (Y00.1 hin).1
 obtain⟨li,capi,bi,hci,hbi,hbil,hli,-,hset⟩:=mB.at (j:=0) (i:=v.toNat) rfl hvi;have hci':ci=.mrow li 0 db.insts.length capi:=by simpa using hci
 subst hci';have hvi2:v.toNat < db.insts.length:=by simpa using hvi
 have p1:=ne_new hli;have p2:=Z05 hli;have hep2:=hs2.1;have hlo:∀ k ∈ labs (.mrow li 0 db.insts.length capi)++labs cc,h1.ep<=k.1/\k.1 < h2.ep:=fun k hk=>hl k hk;have p3:∀ a b:Nat,a<=2->((a,b)=li)=False:=fun a b ha=>eq_false (by rintro rfl;have:=(hlo (a,b) (by simp[labs])).1;simp at this;omega);have b0:=(hs2.2 (0,64) (by simp;omega) (by simp)).trans bg;have b1:=(hs2.2 (1,80) (by simp;omega) (by simp)).trans bdb;have b2:=(hs2.2 (2,128) (by simp;omega) (by simp)).trans br;simp[en,e2,e4,e5,e8,e12,e14,e15,bdb,hvv,hvi2,hbi,hbil,p1,p2,p3,b0,b1,b2];have e11:(db.insts.set v.toNat r1.1).map encI_=(db.insts.map encI_).set v.toNat (encI_ r1.1):=Y11;refine Z00 (Za3 _ g q.1 (db.insts.set v.toNat r1.1) db.comps v (.mrow li 0 db.insts.length capi) cc s hs (by
  rw[e11];refine hset _ _ (.d (encI_ r1.1)) (encI_ r1.1) (mB.new ?_) rfl rfl
  repeat' first | exact Same.refl | apply Same.next | apply Same.setArr | (refine Same.setBox ?_ (.inr (by simp)))) _ fun ce cr h3 mP hsP hge=>?_)
 have c2:=hsP.2 (2,128) (by simp;omega) (fun h9=>by have:=(hlo _ h9).1;simp at this;omega);have c17:=hsP.2 (h2.ep,272) (by simp) (fun h9=>by have:=(hlo _ h9).2;simp at this);have hne2:((2,128):Lab)≠(h2.ep,272):=by intro h9;simp at h9
 simp[p2,p3,b2] at c2 c17;have hep3:=hsP.1;simp at hep3;simp[en,e2,e4,e5,e8,e12,e14,e15];intro hql;have hge2:∀ k ∈ labs ce++labs cr,h2.ep < k.1:=fun k hk=>by have:=hge k hk;simp at this;omega
 have hci3:∀ k ∈ labs (.mrow li 0 db.insts.length capi)++labs cc,h1.ep<=k.1/\k.1 < h2.ep:=hlo;refine Wait.for (xs:=q.1) (s0:=(s.errs,false)) (fun u t e h'=>e.n=127/\e.get 8=.one (.ptr (2,128) 0)/\e.get 17=.one (.ptr (h2.ep,272) 0)/\e.get 18=.one ce/\e.get 19=.one cr/\e.get 20=.one (.d (.bool t.2))/\e.get 85=.one (.d (.sl (q.1.map Sch.enc)))/\e.get 86=.one (.d (.int .i64 (q.1.length:Int)))/\e.get 87=.one (.d (.int .i64 (u:Int))) /\
  h'.box (2,128)=some [.nil,.nil]/\h'.box (h2.ep,272)=some [.mrow li 0 db.insts.length capi,cc]/\MC h' ((⟨s.insts,s.comps,t.1,s.reached⟩:PSt).rows (.mrow li 0 db.insts.length capi) cc ce cr)/\h2.ep < h'.ep) hm
  ⟨by simp[en],by simp[e8],by simp,by simp,by simp,by simp,by simp,by simp,by simp,c2,c17,mP,by omega⟩ ?_ ?_
 .rintro u t e h' ⟨en,e8,e17,e18,e19,e20,e85,e86,e87,b2,b17,mP,hep⟩ hlt hm;have hw:IntKind.i64.wrap ((u:Int)+1)=(u:Int)+1:=Y0a _ (by omega);obtain⟨ru,hru,hm⟩:=hm.getN;obtain⟨eu,heu,hm⟩:=hm.getN;have hu1:u < s.reached.length:=(Y00.1 hru).1;have hu2:u < t.1.length:=(Y00.1 heu).1;obtain⟨lr,capr,br,hcr,hbr,hbrl,hlr,⟨xr,htr,hxr⟩,-⟩:=mP.at (j:=3) (i:=u) rfl (by simpa using hu1);simp only[Y0b,hru,Y0h,Y06] at hxr;obtain rfl:=Zfh hxr;have hcr':cr=.mrow lr 0 s.reached.length capr:=by simpa using hcr
  subst hcr';obtain⟨le,cape,be,hce,hbe,hbel,hle,⟨xe,hte,hxe⟩,hsete⟩:=mP.at (j:=2) (i:=u) rfl (by simpa using hu2);simp only[Y0b,heu,Y0h,Y06] at hxe;obtain rfl:=Zfg hxe;have hce':ce=.mrow le 0 t.1.length cape:=by simpa using hce
  have e18':e.get 18=.one (.mrow le 0 t.1.length cape):=by rw[e18,hce']
  have q1:=Z05 hlr;have q2:=Z05 hle;have q3:=ne_new hlr;have q4:=ne_new hle;have q5:∀ b,((h2.ep,b)=le)=False->True:=fun _ _=>trivial;have hli':li.1 < h'.ep:=mP.lt _ (Y05 ..) li (by simp[labs]);have q6:=ne_new hli';have q7:=Z05 hli';have hne8:((2,128):Lab)≠(h'.ep,352):=by intro h9;simp at h9
  have h17:=ne_new (l:=(h2.ep,272)) hep;have back:∀ (h6:HS) (e6:Env),Same h' h6 []->e6.n=127->e6.get 8=.one (.ptr (2,128) 0)->e6.get 17=.one (.ptr (h2.ep,272) 0)->e6.get 18=.one ce->e6.get 19=.one (.mrow lr 0 s.reached.length capr)->e6.get 20=.one (.d (.bool (t.2 || (eu != 0))))->e6.get 85=.one (.d (.sl (q.1.map Sch.enc)))->e6.get 86=.one (.d (.int .i64 (q.1.length:Int)))->e6.get 87=.one (.d (.int .i64 ((u+1:Nat):Int))) ->
    (e6.n=127/\e6.get 8=.one (.ptr (2,128) 0)/\e6.get 17=.one (.ptr (h2.ep,272) 0)/\e6.get 18=.one ce/\e6.get 19=.one (.mrow lr 0 s.reached.length capr)/\e6.get 20=.one (.d (.bool (t.2 || (eu != 0))))/\e6.get 85=.one (.d (.sl (q.1.map Sch.enc)))/\e6.get 86=.one (.d (.int .i64 (q.1.length:Int)))/\e6.get 87=.one (.d (.int .i64 ((u+1:Nat):Int))) /\
    h6.box (2,128)=some [.nil,.nil]/\h6.box (h2.ep,272)=some [.mrow li 0 db.insts.length capi,cc]/\MC h6 ((⟨s.insts,s.comps,t.1,s.reached⟩:PSt).rows (.mrow li 0 db.insts.length capi) cc ce (.mrow lr 0 s.reached.length capr))/\h2.ep < h6.ep):=fun h6 e6 hs6 g1 g2 g3 g4 g5 g6 g7 g8 g9=>
   ⟨g1,g2,g3,g4,g5,g6,g7,g8,g9,(hs6.2 _ (by simp;omega) (by simp)).trans b2,(hs6.2 _ hep (by simp)).trans b17,mP.new hs6,Y04 hep hs6.1⟩
  simp[en,e8,e17,e18',e19,e20,e85,e86,e87,hlt,hu1,hu2,hbr,htr,q3,q1];cases ru with
  | false=>
    simp only[Bool.false_and,cond_false] at hm;cases ht2:t.2
    all_goals
     rw[ht2] at e20;simp[en,e8,e17,e18',e19,e20,e85,e86,e87,hu2,hbe,hte,q1,q2,q3,q4,hw,Y29,hbr,htr,hu1];refine BackF.of (t.1,t.2 || (eu != 0)) ⟨back _ _ ?_ ?_ ?_ ?_ ?_ ?_ ?_ ?_ ?_ ?_,hm⟩
     .repeat' first | exact Same.refl | apply Same.next | apply Same.setArr | (refine Same.setBox ?_ (.inr (by simp)))
     .simp[en]
     .simp[e8]
     .simp[e17]
     .simp[e18',hce']
     .simp[e19]
     .simp[ht2]
     .simp[e85]
     .simp[e86]
     .simp
  | true=>
    cases hz:(eu == 0) with
    | false=>
      rw[hz] at hm;simp only[Bool.and_false,cond_false] at hm;cases ht2:t.2
      all_goals
       rw[ht2] at e20;simp[en,e8,e17,e18',e19,e20,e85,e86,e87,hu2,hbe,hte,q1,q2,q3,q4,hw,hz,hbr,htr,hu1];refine BackF.of (t.1,t.2 || (eu != 0)) ⟨back _ _ ?_ ?_ ?_ ?_ ?_ ?_ ?_ ?_ ?_ ?_,hm⟩
       .repeat' first | exact Same.refl | apply Same.next | apply Same.setArr | (refine Same.setBox ?_ (.inr (by simp)))
       .simp[en]
       .simp[e8]
       .simp[e17]
       .simp[e18',hce']
       .simp[e19]
       .simp[ht2]
       .simp[e85]
       .simp[e86]
       .simp
    | true=>
      rw[hz] at hm;simp only[Bool.and_true,cond_true] at hm;obtain⟨iu,hiu,hm⟩:=hm.getN;obtain⟨e2_,he2,hm⟩:=hm.bind;simp[en,e8,e17,e18',e19,e20,e85,e86,e87,hu2,hbe,hte,q1,q2,q3,q4,hz];have hu0:u < s.insts.length:=(Y00.1 hiu).1;obtain⟨li2,capi2,bi2,hci2,hbi2,hbil2,-,⟨xi,hti,hxi⟩,-⟩:=mP.at (j:=0) (i:=u) rfl (by simpa using hu0);simp only[Y0b,hiu,Y0h,Y06] at hxi;simp at hci2;obtain⟨rfl,hil,rfl⟩:=hci2;have hu0':u < db.insts.length:=by omega
      refine Wait.cut (Plan.then_ [0,1,2,3,4,5,6,7,8,9,10] .done) follows (by kernel_rfl) (fun E2 h4=>E2.n=127/\E2.get 8=.one (.ptr (2,128) 0)/\E2.get 17=.one (.ptr (h2.ep,272) 0)/\E2.get 18=.one (.mrow le 0 t.1.length cape)/\E2.get 19=.one (.mrow lr 0 s.reached.length capr)/\E2.get 20=.one (.d (.bool t.2))/\E2.get 21=.one (.d (.int .i64 (u:Int)))/\E2.get 85=.one (.d (.sl (q.1.map Sch.enc)))/\E2.get 86=.one (.d (.int .i64 (q.1.length:Int)))/\E2.get 87=.one (.d (.int .i64 (u:Int))) /\
       ∃ hX,Same h' hX []/\h4=hX.setBox le (Z01 be u [.d (.int .i64 e2_)])) ?_ ?_
      .simp[en,e8,e17,e18',e19,e20,e85,e86,e87,b17,h17,hu0',hbi2,hti,q6,q7];refine Z08 ((c_instance_Validate q.1[u] iu).h e2_ he2) (by simp[toAs,V.toA,(toD_rd hxi).2.2]) ?_;simp[en,e8,e17,e18',e19,e20,e85,e86,e87,b17,h17,hu0',hbi2,hti,q6,q7,hu2,hbel,hbe,q2,q4]
       try refine⟨fun _ _ x=>x,?_⟩
       refine CutK.of ⟨by simp[en],by simp[e8,en],by simp[e17,en],by simp[e18',en],by simp[e19,en],by simp[e20,en],by simp[en],by simp[e85,en],by simp[e86,en],by simp[e87,en],_,?_,rfl⟩
       repeat' first | exact Same.refl | apply Same.next | apply Same.setArr | (refine Same.setBox ?_ (.inr (by simp)))
      .rintro E2 h4 ⟨en,e8,e17,e18',e19,e20,e21,e85,e86,e87,hX,hsX,rfl⟩;have m6:=hsete _ _ (.d (.int .i64 e2_)) (.int .i64 e2_) (mP.new hsX) rfl rfl;have m6':MC (hX.setBox le (Z01 be u [.d (.int .i64 e2_)])) ((⟨s.insts,s.comps,t.1.set u e2_,s.reached⟩:PSt).rows (.mrow li 0 db.insts.length capi) cc ce (.mrow lr 0 s.reached.length capr)):=by simpa[PSt.rows,Y11] using m6
       obtain⟨le3,cape3,be3,hce3,hbe3,hbel3,-,⟨xe,hte3,hxe3⟩,-⟩:=m6'.at (j:=2) (i:=u) rfl (by simpa using hu2);simp only[Y0b,Y19 hu2,Y0h,Y06] at hxe3;obtain rfl:=Zfg hxe3;rw[hce'] at hce3;simp at hce3;obtain⟨rfl,rfl⟩:=hce3;simp at hbe3;subst hbe3;have hlne:∀ k:Lab,k.1<=h2.ep->(k=le)=False:=fun k hk=>eq_false (by rintro rfl;have:=hge2 k (by rw[hce'];simp[labs]);omega);have f1:(hX.setBox le (Z01 be u [.d (.int .i64 e2_)])).box (2,128)=some [.nil,.nil]:=by simp[hlne (2,128) (by simp;omega)];exact (hsX.2 _ (by simp;omega) (by simp)).trans b2
       have f2:(hX.setBox le (Z01 be u [.d (.int .i64 e2_)])).box (h2.ep,272)=some [.mrow li 0 db.insts.length capi,cc]:=by simp[hlne (h2.ep,272) (by simp)];exact (hsX.2 _ hep (by simp)).trans b17
       cases ht2:t.2
       all_goals
        rw[ht2] at e20;simp[en,e8,e17,e18',e19,e20,e21,e85,e86,e87,hu2,hte3,hw];refine BackF.of (t.1.set u e2_,t.2 || (e2_ != 0)) ⟨⟨by simp[en],by simp[e8],by simp[e17],by simp[e18',hce'],by simp[e19],by simp[ht2],by simp[e85],by simp[e86],by simp,f1,f2,m6',by simpa using Y04 hep hsX.1⟩,hm⟩
 .rintro t e h' ⟨en,e8,e17,e18,e19,e20,e85,e86,e87,b2,b17,mP,hep⟩ hm;have hfr:∀ {cs:List C},∀ k ∈ labs (.mrow li 0 db.insts.length capi)++(labs cc++(labs ce++labs cr)),(h'.setBox (2,128) cs).box k=h'.box k:=fun {cs} k hk=>by
   have:k≠(2,128):=by
    intro h9;rw[h9] at hk;rcases Y02.1 hk with h8 | h8
    .have:=(hlo (2,128) (Y21 _ h8)).1;simp at this;omega
    .rcases Y02.1 h8 with h8 | h8
     .have:=(hlo (2,128) (Y1m _ h8)).1;simp at this;omega
     .have:=hge2 (2,128) h8;simp at this;omega
   simp[this]
  simp[en,e8,e17,e18,e19,e20,e85,e86,e87];refine r_cond hm ?_ ?_<;>clear hm<;>intro hc5 hm
  .obtain rfl:=r_ret hm;simp[en,e8,e17,e18,e19,e20,e85,e86,e87,b2];simp[retH,resVs,resV,notTup,en,e8,e18];exact⟨⟨.data rfl,.data rfl,trivial⟩,Zg6 ((mP.row _ (Y0c _ (Y0c _ (Y05 ..)))).frame fun k hk=>hfr k (by simp[hk])),.data rfl,trivial⟩
  .obtain rfl:=r_ret hm;simp[en,e8,e17,e18,e19,e20,e85,e86,e87,b2,b17];simp[retH,resVs,resV,notTup,en,e8,e18];exact⟨⟨Znc ((mP.row _ (Y05 ..)).frame fun k hk=>hfr k (by simp[hk])),Znk ((mP.row _ (Y0c _ (Y05 ..))).frame fun k hk=>hfr k (by simp[hk])),trivial⟩,Zg6 ((mP.row _ (Y0c _ (Y0c _ (Y05 ..)))).frame fun k hk=>hfr k (by simp[hk])),.data rfl,trivial⟩
end
section
open Go.Am
instance i_database_Probe (g_:Gr) (db:Db) (v_:Int) (changes:List Chg):Con (Z5y g_ db v_ changes) prog 18 [.agg g_.enc,.agg db.enc,.one (.d (.int .i64 v_)),.one (.d (.sl (changes.map Chg.enc)))] (fun r=>.tup [.agg (r.1.enc.map RC.d),.one (.d (.sl (r.2.1.map encI))),.one (.d (.int .i64 r.2.2))]):=⟨fun r hm=>Zco g_ db v_ changes r hm⟩
def Z6z (g_:Gr) (db:Db) (v_:Int) (changes:List Chg):Option (Db × Int × Int):=
 (bindK (Z5y g_ db v_ changes) fun v4=>(bif (v4.2.2 != 0) then (some ((Db.mk [] []),0,v4.2.2)) else (forK (fun (i8:Nat) (x8:Int) (s8:Unit) next_8=>(bif (x8 != 0) then (some ((Db.mk [] []),(i8:Int),x8)) else (next_8 ()))) (fun (s8:Unit)=>(some (v4.1,0,0))) v4.2.1 0 ())))
instance c_database_Write (g_:Gr) (db:Db) (v_:Int) (changes:List Chg):Con (Z6z g_ db v_ changes) prog 11 [.agg g_.enc,.agg db.enc,.one (.d (.int .i64 v_)),.one (.d (.sl (changes.map Chg.enc)))] (fun r=>.tup [.agg (r.1.enc.map RC.d),.one (.d (.int .i64 r.2.1)),.one (.d (.int .i64 r.2.2))]):=by
 unfold Z6z;have l1:LH (σ:=Unit) 31 [8,11,29,30] []:=.intro;exact go 43 Tryz.func11 rfl (by kernel_rfl) rfl rfl (by simp)
def Z7q (g_:Gr) (db:Db) (v_:Int):Option ((List Rel) × Int):=
 (bindK (Z23 g_ db) fun v3=>(bif (v3 != 0) then (some ([],v3)) else (bif decide (v_ < 0) then (some ([],4)) else (bif decide ((db.insts.length:Int)<=v_) then (some ([],4)) else (getK db.insts v_ fun x8=>(bindK (Z07 x8) fun v9=>(some (v9,0))))))))
instance c_database_Read (g_:Gr) (db:Db) (v_:Int):Con (Z7q g_ db v_) prog 15 [.agg g_.enc,.agg db.enc,.one (.d (.int .i64 v_))] (fun r=>.tup [.one (.d (.sl (r.1.map Rel.enc))),.one (.d (.int .i64 r.2))]):=by
 unfold Z7q;exact go 30 Tryz.func15 rfl (by kernel_rfl) rfl rfl (by simp)
def Z6k (n:Int):Option GV:=
 (some (GV.mk 1 n empty))
instance c_stemref1_Int (n:Int):Con (Z6k n) prog 45 [.one (.d (.int .i64 n))] (fun r=>.agg (r.enc.map RC.d)):=by
 unfold Z6k;exact go 5 Tryz.func45 rfl (by kernel_rfl) rfl rfl (by simp)
def Z4z:Option Gr:=
 (bindK (Z6k 5) fun v2=>(some (Gr.mk (Sch.mk [(Tbl.mk ({ data:=#[116] }) [(Col.mk ({ data:=#[105,100] }) 1 false),(Col.mk ({ data:=#[110] }) 1 false)] [0])] [] []) [(Edg.mk 0 [(Stp.mk 1 ({ data:=#[116] }) empty ({ data:=#[120] }) empty 1 [] empty v2 (Tbl.mk empty [] []) (Cons.mk empty 0 empty 0 (GV.mk 0 0 empty)) (Fk.mk empty [] empty))])])))
instance c_stemref1_SampleGraph  : Con (Z4z) prog 23 [] (fun r=>.agg (r.enc.map RC.d)):=by
 unfold Z4z;exact go 16 Tryz.func23 rfl (by kernel_rfl) rfl rfl (by simp)
def Z66 (l:List Int):Option ((List GV)):=
 (forK (fun (i2:Nat) (x2:Int) (s2:(List GV)) next_2=>(bindK (Z6k x2) fun v3=>(appK2 s2 [v3] fun _=>(next_2 (s2++[v3]))))) (fun (s2:(List GV))=>(some s2)) l 0 [])
instance c_stemref1_Ints (l:List Int):Con (Z66 l) prog 26 [.one (.d (.sl (l.map encI)))] (fun r=>.one (.d (.sl (r.map GV.enc)))):=by
 unfold Z66;have l1:LH (σ:=(List GV)) 8 [6,7] [.g 3 3 (fun s=>s.map GV.enc)]:=.intro;exact go 19 Tryz.func26 rfl (by kernel_rfl) rfl rfl (by simp)
def Z6e (l:List Int):Option Chg:=
 (bindK (Z66 l) fun v2=>(some (Chg.mk 1 ({ data:=#[116] }) [] v2)))
instance c_stemref1_Upsert (l:List Int):Con (Z6e l) prog 24 [.one (.d (.sl (l.map encI)))] (fun r=>.agg (r.enc.map RC.d)):=by
 unfold Z6e;exact go 6 Tryz.func24 rfl (by kernel_rfl) rfl rfl (by simp)
def Z60 (a:List GV) (b:List GV):Option Bool:=
 (bif ((a.length:Int) != (b.length:Int)) then (some false) else (forK (fun (i5:Nat) (x5:GV) (s5:Unit) next_5=>(getK b (i5:Int) fun x6=>(bif (!(x5.kind == x6.kind) || (!(x5.int == x6.int) || (!(x5.text == x6.text)))) then (some false) else (next_5 ())))) (fun (s5:Unit)=>(some true)) a 0 ()))
instance c_stemref1_EqualRow (a:List GV) (b:List GV):Con (Z60 a b) prog 46 [.one (.d (.sl (a.map GV.enc))),.one (.d (.sl (b.map GV.enc)))] (fun r=>.one (.d (.bool r))):=by
 unfold Z60;have l1:LH (σ:=Unit) 13 [0,1,12] []:=.intro;have p1:PH [6] (Plan.then_ [0,1,2,3,4,5,6,7,8] .done):=.intro;exact go 26 Tryz.func46 rfl (by kernel_rfl) rfl rfl (by simp)
def Z5m (a:List (List GV)) (b:List (List GV)):Option Bool:=
 (bif ((a.length:Int) != (b.length:Int)) then (some false) else (forK (fun (i5:Nat) (x5:List GV) (s5:Unit) next_5=>(getK b (i5:Int) fun x6=>(bindK (Z60 x5 x6) fun v7=>(bif !v7 then (some false) else (next_5 ()))))) (fun (s5:Unit)=>(some true)) a 0 ()))
instance c_stemref1_EqualRows (a:List (List GV)) (b:List (List GV)):Con (Z5m a b) prog 25 [.one (.d (.sl (a.map (encL GV.enc)))),.one (.d (.sl (b.map (encL GV.enc))))] (fun r=>.one (.d (.bool r))):=by
 unfold Z5m;have l1:LH (σ:=Unit) 13 [0,1,12] []:=.intro;have p1:PH [6] (Plan.then_ [0,1,2,3,4,5,6,7,8,9] .done):=.intro;exact go 27 Tryz.func25 rfl (by kernel_rfl) rfl rfl (by simp)
def Z1a:Option Bool:=
 (bindK (Z4z) fun v1=>(bindK (Z4g v1) fun v3=>(bif (v3.2 != 0) then (some false) else (bindK (Z6e [1,2]) fun v6=>(bindK (Z6z v1 v3.1 0 [v6]) fun v7=>(bif (v7.2.2 != 0) then (some false) else (bindK (Z7q v1 v7.1 1) fun v9=>(bif (v9.2 == 0) then (bif ((v9.1.length:Int) == 1) then (getK v9.1 0 fun x13=>(bindK (Z66 [1,2,5]) fun v14=>(bindK (Z5m x13.rows [v14]) fun v15=>(some v15)))) else (some false)) else (some false)))))))))
instance c_stemkeep1_databaseWorks  : Con (Z1a) prog 9 [] (fun r=>.one (.d (.bool r))):=by
 unfold Z1a;have p1:PH [5] (Plan.then_ [0,1,2,3,4,5,6,7,8,9,10,11] .done):=.intro;have p2:PH [9] (Plan.then_ [0,1,2,3,4,5,6,7,8,9,10,11,12,13,14,15,16,17] .done):=.intro;exact go 48 Tryz.func9 rfl (by kernel_rfl) rfl rfl (by simp)
def Z0r (g_:Gr):Option Bool:=
 (bindK (Z4g g_) fun v2=>(bindK (Z1a) fun v4=>(bif !v4 then (bindK (Z1a) fun v6=>(bif v6 then (bindK (Z3v g_) fun v8=>(some (v2.2 == v8))) else (some false))) else (bif (v2.2 != 0) then (bindK (Z1a) fun v10=>(bif v10 then (bindK (Z3v g_) fun v12=>(some (v2.2 == v12))) else (some false))) else (forK (fun (i14:Nat) (x14:List Rel) (s14:Int) next_14=>(forK (fun (i16:Nat) (x16:Rel) (s16:Int) next_16=>(chkK (okI (s16+(x16.rows.length:Int))) (next_16 (s16+(x16.rows.length:Int))))) (fun (s16:Int)=>(next_14 s16)) x14 0 s14)) (fun (s14:Int)=>(bindK (Z23 g_ v2.1) fun v20=>(bif (v20 == 0) then (some (s14 == 0)) else (some false)))) v2.1.insts 0 0)))))
instance c_stemkeep1_DatabaseNewIsValid (g_:Gr):Con (Z0r g_) prog 7 [.agg g_.enc] (fun r=>.one (.d (.bool r))):=by
 unfold Z0r;have l1:LH (σ:=Int) 31 [1,3,29,30] [.d 5 (fun s=>.int .i64 s)]:=.intro;have l2:LH (σ:=Int) 37 [1,3,29,30,31,35,36] [.d 5 (fun s=>.int .i64 s)]:=.intro;exact go 56 Tryz.func7 rfl (by kernel_rfl) rfl rfl (by simp)
end
section
open Go Go.Am
set_option maxRecDepth 100000 in
theorem Zbb:Z1a=some true:=by decide +kernel
theorem law18 (g:Gr) (hx:∀ e ∈ g.edges,∀ x ∈ e.script,SmallX x):Is (Z0r g) true:=by
 refine Wp.eq (m:=Z0r g) ?_;unfold Z0r;refine Wp.bind (w_New g hx) fun r _ hr=>Wp.bind (R:=fun w=>w=true) ⟨true,Zbb,rfl⟩ fun w _ hw=>?_;subst hw;obtain⟨Ss,e,hs,hr⟩:=hr;refine Wp.cond (fun h=>by simp at h) fun _=>?_;rcases hr with ⟨he,hr⟩ | ⟨rfl,hr,hV,hD⟩
 .refine Wp.cond (fun _=>?_) fun h=>by simp[hr] at h;exact absurd h he
  refine Wp.bind (R:=fun w=>w=true) ⟨true,Zbb,rfl⟩ fun w _ hw=>?_;subst hw;refine Wp.cond (fun _=>?_) fun h=>by simp at h
  unfold Z3v;exact Wp.bind (R:=fun q=>q=e) (Wp.bind (R:=fun q=>q=(Ss,e)) ⟨_,hs,rfl⟩ fun q _ hq=>Wp.ret (by rw[hq])) fun q _ hq=>Wp.ret (by simp[hq,hr])
 .refine Wp.cond (fun h=>by simp[hr] at h) fun _=>?_;refine Wp.for (fun _ s=>s=0) rfl ?_ fun s hs0=>?_
  .intro i x s next _ hm hI hn;refine Wp.for (fun _ s=>s=0) hI ?_ fun s h=>hn s h;intro j y s next' _ hm' hI' hn';have h0:y.rows=[]:=hD.rows x hm y hm';subst hI';rw[h0];exact Wp.chk (by decide) (hn' _ rfl)
  .subst hs0;exact Wp.bind (Zqf hx hs hV hD) fun e _ he=>Wp.cond (fun _=>Wp.ret rfl) fun h=>by simp[he] at h
theorem Zs1 (g:Gr) (r:Bool) (h:Is (Z0r g) r):PSpec prog 7 [.agg g.enc] (.one (.d (.bool r))):=(c_stemkeep1_DatabaseNewIsValid g).h r h
end
end Go.Proofs.YtbcejndfbklikaaGreatDoor
namespace Go.Proofs.YtbcejndfbklikaaGreatDoor.L
section
open Go Go.Am Go.ChangeShapes Go.WideShapes Go.ChangeAt Go.RowKit
theorem own:ownKnob prog.godebug=none:=by kernel_rfl
theorem laid:laidOutB prog=true:=by kernel_rfl
def plain:List TypeId:=[29,26,22,100,9,97,113,3,4,98,23,120,24,118,115,27,90,88,122]
theorem Zpd:plainB prog plain=true:=by kernel_rfl
theorem small {g:Gr} (h:bd29 1048576 g):∀ e ∈ g.edges,∀ x ∈ e.script,SmallX x:=by
 intro e he x hx;have h1:=(h.2.2 e he).2.2 x hx;obtain⟨_,_,_,_,_,_,hc,_,_,ht,_,hf⟩:=h1;exact⟨hc.1,ht.2.1.1,ht.2.2.1,hf.2.1.1⟩
set_option maxRecDepth 100000 in
theorem Zps (H:Type) (enc:TypeId × Value->H) (W:World) (base:Nat) (args:Array Value) (ds gs:List (DataW H)) (before:List MemPlace)
  (hval:∀ (j:Nat) t v,Tryz.f7.params[j]? = some t->args[j]? = some v->Value.okWide prog W .any base t v)
  (hW:DataW.Whole enc prog Tryz.f7.params.toList Rows.databaseNewIsValidSpec.vars false W args.toList ds gs before) (hk:Rows.uptoSmall H (ds++gs)=true) (hL:laidMetH prog Rows.databaseNewIsValidUptoRow.laid W) (hsh:W.ShapedOpen prog) :
  Calls prog 7 args W fun e W'=>∃ v,e=.returned v/\Rows.databaseNewIsValidSpec.post enc prog Tryz.f7 false true false false W args v W':=by
 have hW':=hW;have hlt:=hW.lt;obtain⟨p,q,hA0,hV,rfl,hfz,hnd⟩:=hW;have hA:DataW.TrodAll enc prog W 0 (fun _=>true) true Tryz.f7.params.toList args.toList ds p:=hA0;rw[Tryz.params7] at hA hval;obtain⟨v0,vs0,d0,ds0,p0,q0,hargs,rfl,rfl,h0,r0⟩:=trodAll_cons hA;obtain⟨rfl,rfl,rfl⟩:=trodAll_nil r0;obtain rfl:args=#[v0]:=by cases args;simp_all
 obtain⟨rfl,rfl⟩:=trodVars_none hV;have hb:=of_decide_eq_true hk;simp only[Y0k,Rows.uptoBulkAll] at hb;obtain⟨cs0,rfl,_⟩:=okWide_struct Tryz.underlying29 (hval 0 29 v0 rfl rfl);have h0k:=h0;obtain⟨n0,hn0⟩:=h0;obtain⟨e0,hr0,ht0,hk0⟩:=Zmy (B:=1048576) Zpd (by decide) n0 29 _ _ (by decide) hn0 (by simp only;omega);have k0:blkL e0+1<=1048576:=by
  simp only at hk0;omega
 have kk:blkL e0<=1048576:=by
  simp only at hk0;omega
 obtain⟨x0,rfl,y0⟩:=dec29 ht0;have hS:=Zs1 x0 true (law18 x0 (small y0));refine (hS.2 W (cellsOf W) (fun _ _=>none) #[.agg cs0] (gok_of rfl hL hsh) (fun _ _ _ h=>h) (fun _ _ _ h=>by cases h) ?_).mono fun e W' hpost=>?_
 .refine⟨rfl,fun i a hi=>?_⟩
  match i with
  | 0=>
    cases hi;refine⟨.agg cs0,rfl,cs0,rfl,by simpa[Value.cells] using hr0.1,fun j x hj=>?_⟩;obtain⟨u,hu1,hu2⟩:=hr0.2 j x hj;exact⟨u,by simpa[Value.cells] using hu1,hu2⟩
  | i+1=>simp at hi
 obtain⟨v,m',blk,rfl,_,_,_,hbel,hrv,_⟩:=hpost;have hv:v=.bool true:=by cases hrv;rfl
 subst hv;refine⟨_,rfl,[d0],[],p0++[]++[],[],p0++[],[],hW',trodAll_mk1 (shut_bool Tryz.underlying4 true),?_,rfl,hbel.frame _,fun h=>by cases h⟩;have hl0:∀ x ∈ p0,x.block < W.heap.size:=fun x hx=>hlt x (by simp[hx]);exact trodAll_cons_mk (Below.trod laid (by kernel_rfl) (of_decide_eq_true (by kernel_rfl)) h0k hbel hl0) trodAll_mk0
theorem Zpl (os:Os):laidMet prog Rows.databaseNewIsValidUptoRow.laid ((World.laidAll prog os Rows.databaseNewIsValidUptoRow.laid).forCall (fun _ _=>0) ⟨#[],#[.agg #[.slice none 0 0,.slice none 0 0,.slice none 0 0,.slice none 0 0]],[]⟩).memory:=laidMet_laidAll _ (by kernel_rfl) (by kernel_rfl)
theorem reads (os:Os) {H:Type} (enc:TypeId × Value->H):∃ places,DataW.whole enc prog ((World.laidAll prog os Rows.databaseNewIsValidUptoRow.laid).forCall (fun _ _=>0) ⟨#[],#[.agg #[.slice none 0 0,.slice none 0 0,.slice none 0 0,.slice none 0 0]],[]⟩).memory Tryz.f7.params.toList Rows.databaseNewIsValidSpec.vars false (#[.agg #[.slice none 0 0,.slice none 0 0,.slice none 0 0,.slice none 0 0]]:Array Value).toList 8=some ([.agg [.agg [.nil,.nil,.nil],.nil]],[],places):=⟨[],by kernel_rfl⟩
set_option maxRecDepth 100000 in
theorem lifted (os:Os) (started:os.Started) (H:Type) (enc:TypeId × Value->H) (F:Stop.Interp) :
  ReturnsInHanded {} Tryz.checked os 7 .any ((Rows.OpenSpec.upto Rows.databaseNewIsValidSpec).preRow enc prog Tryz.f7 Rows.databaseNewIsValidUptoRow.domain false Rows.databaseNewIsValidUptoRow.laid) (((Rows.OpenSpec.upto Rows.databaseNewIsValidSpec).at F).post enc prog Tryz.f7 false true false false):=by
 obtain⟨places,hx⟩:=reads os enc;refine returnsInHanded_of_row (C:=Tryz.checked) (s:=Rows.OpenSpec.upto Rows.databaseNewIsValidSpec) own started (by kernel_rfl) Tryz.func7
  (witness_row_atRef (enc:=enc) (C:=Tryz.checked) false (World.laidAll prog os Rows.databaseNewIsValidUptoRow.laid) #[.agg #[.slice none 0 0,.slice none 0 0,.slice none 0 0,.slice none 0 0]] (World.laidAll_os _ _ _) (by kernel_rfl) (by kernel_rfl) (by kernel_rfl)
   (OpenSpec.preRow_of_cond 8 hx (by kernel_rfl) (fun k hk=>by cases hk;kernel_rfl) (by kernel_rfl) (Zpl os))) ?_
 intro W base args ds gs before hval hW _ hcond _ hL hsh _;exact Zps H enc W base args ds gs before hval hW (hcond _ rfl) hL hsh
theorem f1:(Rows.databaseNewIsValidUptoRow.inPlace == prog.inPlace 7)=true:=by kernel_rfl
theorem f2:(Rows.databaseNewIsValidUptoRow.unfollowed == prog.unfollowed 7)=true:=by kernel_rfl
theorem f3:(Rows.databaseNewIsValidUptoRow.recurses == prog.recurses 7)=true:=by kernel_rfl
theorem f4:(Rows.databaseNewIsValidUptoRow.named == prog.varsNamed 7)=true:=by kernel_rfl
theorem f5:(Rows.databaseNewIsValidUptoRow.plainKeys == prog.plainKeys)=true:=by kernel_rfl
theorem f6:prog.stopsHeard=true:=by kernel_rfl
theorem f7:prog.mayEnter=true:=by kernel_rfl
theorem f8:(Rows.databaseNewIsValidUptoRow.lifted == prog.liftsFinal)=true:=by kernel_rfl
theorem f9:(prog.make == some Rows.databaseNewIsValidUptoRow.make)=true:=by kernel_rfl
theorem f10:mapsRowed prog=true:=by kernel_rfl
theorem f11:Rows.databaseNewIsValidUptoRow.wf (OpenSpec.ofChange (Rows.OpenSpec.upto Rows.databaseNewIsValidSpec).bare)=true:=by kernel_rfl
theorem f12:laidOutB prog=true:=by kernel_rfl
theorem f13:namedTie prog Rows.databaseNewIsValidUptoRow.named (Rows.OpenSpec.upto Rows.databaseNewIsValidSpec).bare.vars=true:=by kernel_rfl
theorem f14:Tryz.pinned.checked.prog.funcNamed Rows.databaseNewIsValidUptoRow.func=some 7:=by kernel_rfl
set_option maxRecDepth 100000 in
theorem closed:joinedFacts prog 7 Tryz.f7 (Rows.OpenSpec.upto Rows.databaseNewIsValidSpec).bare Rows.databaseNewIsValidUptoRow=true:=by
 unfold joinedFacts;rw[f1,f2,f3,f4,f5,f6,f7,f8,f9,f10,f11,f12,f13]
 kernel_rfl
theorem over:Rows.DatabaseNewIsValidUptoSaid:=
 OpenClaim.holds_of_cond 7 Tryz.f7 rfl rfl rfl rfl rfl rfl rfl ⟨rfl,rfl,rfl,rfl,rfl⟩ rfl rfl rfl rfl rfl f14 Tryz.func7 closed
  (of_decide_eq_true (by kernel_rfl)) (by unfold Func.isWrapper;first | (rw[if_pos (by decide +kernel)];kernel_rfl) | (rw[if_neg (by decide +kernel)];exact⟨rfl,rfl⟩))
  (fun os started H enc _ F=>by rw[OpenClaim.pre_eq_preRow];exact lifted os started H enc F)
theorem looked (f:FuncId) (fn:Func) (hf:Tryz.pinned.checked.prog.funcNamed Rows.databaseNewIsValidUptoRow.func=some f) (hfn:Tryz.pinned.checked.prog.funcs[f]? = some fn) :
  true=Tryz.pinned.checked.prog.looks []/\∀ (j:Nat) t,fn.params[j]? = some t->Tryz.pinned.checked.prog.wantsStandIn t=false:=by
 obtain rfl:f=7:=Option.some.inj ((show prog.funcNamed Rows.databaseNewIsValidUptoRow.func=some 7 by kernel_rfl).symm.trans hf) |>.symm;obtain rfl:fn=Tryz.f7:=(Option.some.inj (Tryz.func7.symm.trans hfn)).symm;refine⟨by kernel_rfl,fun j t ht=>?_⟩;rw[Tryz.params7] at ht;have hm:t ∈ [29]:=by simpa using Array.mem_of_getElem? ht
 have hall:([29].all fun u=>!prog.wantsStandIn u)=true:=by kernel_rfl
 exact (show prog.wantsStandIn t=false by simpa using Y1a.1 hall t hm)
theorem proved:Rows.DatabaseNewIsValidUptoCardSaid:=
 Claim7.holds_tied_plain_at .later [] _ _ _ _ over (fun _ h=>by cases h) (by kernel_rfl) (fun _ h=>by cases h) databaseNewIsValidUpto_row_tie rfl ⟨rfl,rfl⟩ (by kernel_rfl) rfl looked (by kernel_rfl)
end
end Go.Proofs.YtbcejndfbklikaaGreatDoor.L
