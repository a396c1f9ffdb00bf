/- joined by a program out of 7 texts -/
import Derived.Test.YthgepknlibmjcaaGreatM6
import Derived.Test.YthgepknlibmjcaaGreatRows
import Derived.WalkKit
import Derived.ProofKit
import Derived.OpenShut
import Derived.JoinedCond
import Derived.Carry
set_option linter.unusedVariables false
set_option linter.unusedSimpArgs false
set_option maxRecDepth 20000
section
namespace Go.Proofs.YthgepknlibmjcaaGreat.accessWritesStayVisible
open Go Go.Am Go.ChangeShapes Go.WideShapes Go.ChangeAt Go.RowKit
theorem own:ownKnob Tryz.prog.godebug=none:=by kernel_rfl
theorem laid:laidOutB Tryz.prog=true:=by kernel_rfl
def plain:List TypeId:=[29,26,22,75,9,73,156,3,4,30,23,131,24,103,100,27,39,37,158,41,43,45,106,52,79,84,89]
theorem Z55:plainB Tryz.prog plain=true:=by kernel_rfl
theorem small {g:Gr} (h:bd29 1048576 g):∀ e ∈ g.edges,∀ x ∈ e.script,SmallX x:=by
 intro e he x hx
 have h1:=(h.2.2 e he).2.2 x hx
 obtain⟨_,_,_,_,_,_,hc,_,_,ht,_,hf⟩:=h1
 exact⟨hc.1,ht.2.1.1,ht.2.2.1,hf.2.1.1⟩
set_option maxRecDepth 100000 in
theorem Zgk (H:Type) (enc:TypeId × Value→H) (W:World) (base:Nat) (args:Array Value) (ds gs:List (DataW H)) (before:List MemPlace)
  (hval:∀ (j:Nat) t v,Tryz.f9.params[j]?=some t→args[j]?=some v→Value.okWide Tryz.prog W .any base t v)
  (hW:DataW.Whole enc Tryz.prog Tryz.f9.params.toList Rows.accessWritesStayVisibleSpec.vars false W args.toList ds gs before) (hk:Rows.uptoSmall H (ds++gs)=true) :
  Calls Tryz.prog 9 args W fun e W'=>∃ v,e=.returned v∧Rows.accessWritesStayVisibleSpec.post enc Tryz.prog Tryz.f9 false true false false W args v W':=by
 have hW':=hW
 have hlt:=hW.lt
 obtain⟨p,q,hA0,hV,rfl,hfz,hnd⟩:=hW
 have hA:DataW.TrodAll enc Tryz.prog W 0 (fun _=>true) true Tryz.f9.params.toList args.toList ds p:=hA0
 rw[Tryz.params9] at hA hval
 obtain⟨v0,vs0,d0,ds0,p0,q0,hargs,rfl,rfl,h0,r0⟩:=trodAll_cons hA
 obtain⟨v1,vs1,d1,ds1,p1,q1,rfl,rfl,rfl,h1,r1⟩:=trodAll_cons r0
 obtain⟨v2,vs2,d2,ds2,p2,q2,rfl,rfl,rfl,h2,r2⟩:=trodAll_cons r1
 obtain⟨v3,vs3,d3,ds3,p3,q3,rfl,rfl,rfl,h3,r3⟩:=trodAll_cons r2
 obtain⟨v4,vs4,d4,ds4,p4,q4,rfl,rfl,rfl,h4,r4⟩:=trodAll_cons r3
 obtain⟨v5,vs5,d5,ds5,p5,q5,rfl,rfl,rfl,h5,r5⟩:=trodAll_cons r4
 obtain⟨rfl,rfl,rfl⟩:=trodAll_nil r5
 obtain rfl:args=#[v0,v1,v2,v3,v4,v5]:=by cases args;simp_all
 obtain⟨rfl,rfl⟩:=trodVars_none hV
 have hb:=of_decide_eq_true hk
 simp only[List.append_nil,Rows.uptoBulkAll] at hb
 obtain⟨cs0,rfl,_⟩:=okWide_struct Tryz.underlying29 (hval 0 29 v0 rfl rfl)
 obtain⟨a1,len1,cap1,rfl⟩:=okWide_slice Tryz.underlying41 (hval 1 41 v1 rfl rfl)
 obtain⟨s2,rfl⟩:=okWide_string Tryz.underlying9 (hval 2 9 v2 rfl rfl)
 obtain⟨i3,rfl⟩:=okWide_int Tryz.underlying3 (hval 3 3 v3 rfl rfl)
 obtain⟨a4,len4,cap4,rfl⟩:=okWide_slice Tryz.underlying45 (hval 4 45 v4 rfl rfl)
 obtain⟨a5,len5,cap5,rfl⟩:=okWide_slice Tryz.underlying84 (hval 5 84 v5 rfl rfl)
 have h0k:=h0
 have h1k:=h1
 have h2k:=h2
 have h3k:=h3
 have h4k:=h4
 have h5k:=h5
 obtain⟨n0,hn0⟩:=h0
 obtain⟨n1,hn1⟩:=h1
 obtain⟨n2,hn2⟩:=h2
 obtain⟨n3,hn3⟩:=h3
 obtain⟨n4,hn4⟩:=h4
 obtain⟨n5,hn5⟩:=h5
 obtain⟨e0,hr0,ht0⟩:=Z5y (B:=1048576) Z55 (by decide) n0 29 _ _ (by decide) hn0 (by simp only;omega)
 obtain⟨e1,hr1,ht1⟩:=Z5y (B:=1048576) Z55 (by decide) n1 41 _ _ (by decide) hn1 (by simp only;omega)
 obtain⟨e2,hr2,ht2⟩:=Z5y (B:=1048576) Z55 (by decide) n2 9 _ _ (by decide) hn2 (by simp only;omega)
 obtain⟨e3,hr3,ht3⟩:=Z5y (B:=1048576) Z55 (by decide) n3 3 _ _ (by decide) hn3 (by simp only;omega)
 obtain⟨e4,hr4,ht4⟩:=Z5y (B:=1048576) Z55 (by decide) n4 45 _ _ (by decide) hn4 (by simp only;omega)
 obtain⟨e5,hr5,ht5⟩:=Z5y (B:=1048576) Z55 (by decide) n5 84 _ _ (by decide) hn5 (by simp only;omega)
 obtain⟨x0,rfl,y0⟩:=dec29 ht0
 obtain⟨x1,rfl,y1⟩:=dec41 ht1
 obtain⟨x2,rfl,y2⟩:=dec9 ht2
 obtain⟨x3,rfl,y3⟩:=dec3 ht3
 obtain⟨x4,rfl,y4⟩:=dec45 ht4
 obtain⟨x5,rfl,y5⟩:=dec84 ht5
 have hS:=Z63 x0 x1 x2 x3 x4 x5 true (law7 x0 (small y0) x1 x2 x3 x4 x5 y4.1)
 refine (hS.2 W (cellsOf W) (fun _ _=>none) #[.agg cs0,.slice a1 len1 cap1,.string s2,.int .i64 i3,.slice a4 len4 cap4,.slice a5 len5 cap5] (fun _ _ _ h=>h) (fun _ _ _ h=>by cases h) ?_).mono fun e W' hpost=>?_
 ·refine⟨rfl,fun i a hi=>?_⟩
  match i with
  | 0=>
    cases hi
    refine⟨.agg cs0,rfl,cs0,rfl,by simpa[Value.cells] using hr0.1,fun j x hj=>?_⟩
    obtain⟨u,hu1,hu2⟩:=hr0.2 j x hj
    exact⟨u,by simpa[Value.cells] using hu1,hu2⟩
  | 1=>
    cases hi
    obtain⟨u,hu1,hu2⟩:=hr1.2 0 _ rfl
    refine⟨.slice a1 len1 cap1,rfl,?_⟩
    have:u=.slice a1 len1 cap1:=by simpa[Value.cells] using hu1.symm
    rw[← this]
    exact hu2
  | 2=>
    cases hi
    obtain⟨u,hu1,hu2⟩:=hr2.2 0 _ rfl
    refine⟨.string s2,rfl,?_⟩
    have:u=.string s2:=by simpa[Value.cells] using hu1.symm
    rw[← this]
    exact hu2
  | 3=>
    cases hi
    obtain⟨u,hu1,hu2⟩:=hr3.2 0 _ rfl
    refine⟨.int .i64 i3,rfl,?_⟩
    have:u=.int .i64 i3:=by simpa[Value.cells] using hu1.symm
    rw[← this]
    exact hu2
  | 4=>
    cases hi
    obtain⟨u,hu1,hu2⟩:=hr4.2 0 _ rfl
    refine⟨.slice a4 len4 cap4,rfl,?_⟩
    have:u=.slice a4 len4 cap4:=by simpa[Value.cells] using hu1.symm
    rw[← this]
    exact hu2
  | 5=>
    cases hi
    obtain⟨u,hu1,hu2⟩:=hr5.2 0 _ rfl
    refine⟨.slice a5 len5 cap5,rfl,?_⟩
    have:u=.slice a5 len5 cap5:=by simpa[Value.cells] using hu1.symm
    rw[← this]
    exact hu2
  | i+6=>simp at hi
 obtain⟨v,m',blk,rfl,_,_,_,hbel,hrv,_⟩:=hpost
 have hv:v=.bool true:=by cases hrv;rfl
 subst hv
 refine⟨_,rfl,[d0,d1,d2,d3,d4,d5],[],p0++(p1++(p2++(p3++(p4++(p5++[])))))++[],[],p0++(p1++(p2++(p3++(p4++(p5++[]))))),[],hW',trodAll_mk1 (shut_bool Tryz.underlying4 true),?_,rfl,hbel.frame _,fun h=>by cases h⟩
 have hl0:∀ x ∈ p0,x.block < W.heap.size:=fun x hx=>hlt x (by simp[hx])
 have hl1:∀ x ∈ p1,x.block < W.heap.size:=fun x hx=>hlt x (by simp[hx])
 have hl2:∀ x ∈ p2,x.block < W.heap.size:=fun x hx=>hlt x (by simp[hx])
 have hl3:∀ x ∈ p3,x.block < W.heap.size:=fun x hx=>hlt x (by simp[hx])
 have hl4:∀ x ∈ p4,x.block < W.heap.size:=fun x hx=>hlt x (by simp[hx])
 have hl5:∀ x ∈ p5,x.block < W.heap.size:=fun x hx=>hlt x (by simp[hx])
 exact trodAll_cons_mk (Below.trod laid (by kernel_rfl) (of_decide_eq_true (by kernel_rfl)) h0k hbel hl0) (trodAll_cons_mk (Below.trod laid (by kernel_rfl) (of_decide_eq_true (by kernel_rfl)) h1k hbel hl1) (trodAll_cons_mk (Below.trod laid (by kernel_rfl) (of_decide_eq_true (by kernel_rfl)) h2k hbel hl2) (trodAll_cons_mk (Below.trod laid (by kernel_rfl) (of_decide_eq_true (by kernel_rfl)) h3k hbel hl3) (trodAll_cons_mk (Below.trod laid (by kernel_rfl) (of_decide_eq_true (by kernel_rfl)) h4k hbel hl4) (trodAll_cons_mk (Below.trod laid (by kernel_rfl) (of_decide_eq_true (by kernel_rfl)) h5k hbel hl5) trodAll_mk0)))))
set_option maxRecDepth 100000 in
theorem lifted (os:Os) (started:os.Started) (H:Type) (enc:TypeId × Value→H) (F:Stop.Interp) :
  ReturnsInHanded {} Tryz.checked os 9 .any ((Rows.OpenSpec.upto Rows.accessWritesStayVisibleSpec).pre6 enc Tryz.prog Tryz.f9 Rows.accessWritesStayVisibleUptoRow.domain false) (((Rows.OpenSpec.upto Rows.accessWritesStayVisibleSpec).at F).post enc Tryz.prog Tryz.f9 false true false false):=by
 refine returnsInHanded_of_cond (C:=Tryz.checked) (s:=Rows.OpenSpec.upto Rows.accessWritesStayVisibleSpec) (k:=Rows.uptoSmall) rfl own started (by kernel_rfl) Tryz.func9
  (OpenSpec.witness (enc:=enc) (C:=Tryz.checked) (s:=Rows.OpenSpec.upto Rows.accessWritesStayVisibleSpec) (k:=Rows.uptoSmall) rfl false ⟨#[],#[.agg #[.slice none 0 0,.slice none 0 0,.slice none 0 0,.slice none 0 0],.slice none 0 0,.string ByteArray.empty,.int .i64 0,.slice none 0 0,.slice none 0 0],[]⟩ 8 (by kernel_rfl) (by kernel_rfl) (by kernel_rfl)
   (x:=([.agg [.agg [.nil,.nil,.nil],.nil],.nil,.lit (.string []),.lit (.int .i64 0),.nil,.nil],[],[])) (by kernel_rfl) rfl (by kernel_rfl)) ?_
 intro W base args ds gs before hval hW _ hk _
 exact Zgk H enc W base args ds gs before hval hW hk
theorem over:Rows.accessWritesStayVisibleUptoRow.holds Tryz.pinned (Rows.OpenSpec.upto Rows.accessWritesStayVisibleSpec):=
 OpenClaim.holds_of_cond 9 Tryz.f9 rfl rfl rfl rfl rfl rfl rfl ⟨rfl,rfl,rfl,rfl,rfl⟩ rfl rfl rfl rfl rfl (by kernel_rfl) Tryz.func9 (by kernel_rfl)
  (of_decide_eq_true (by kernel_rfl)) (by unfold Func.isWrapper;first | (rw[if_pos (by decide +kernel)];kernel_rfl) | (rw[if_neg (by decide +kernel)];exact⟨rfl,rfl⟩))
  (fun os started H enc _ F=>lifted os started H enc F)
theorem proved:Rows.AccessWritesStayVisibleUptoSaid:=over
end Go.Proofs.YthgepknlibmjcaaGreat.accessWritesStayVisible
end
section
namespace Go.Proofs.YthgepknlibmjcaaGreat
open Go Go.Am
theorem Z9n (h:HS) (c:C) (xs:List (List C)) (ts:List (List D)) (g:FuncId) (caps:List Cap) (dss:List (List D)) (p:List D→Bool) (i0:Int) (hm:MR h 1 c xs) (hlab:∀ k ∈ labs c,k.1 < h.ep) (hl:xs.length=ts.length)
  (ht:∀ t ∈ ts,t.length=1) (hf:∀ h',Same h h' (labs c)→∀ (i:Nat) (x:List C) (t:List D),xs[i]?=some x→ts[i]?=some t→FrzCs h' x t)
  (hcv:∀ h',Same h h' (labs c)→LendVs h' (caps.map capV) (capsOf dss)) (hcf:LendC h (.fn g caps) (.fn g dss))
  (hp:∀ d:D,[d] ∈ ts→PSpec Tryz.prog g (.one (.d d)::capsOf dss) (.one (.d (.bool (p [d])))))
  (hidx:PSpec Tryz.prog 79 [.one (.d (.sl ts)),.one (.fn g dss)] (.one (.d (.int .i64 i0)))) (hi0:i0=match ts.findIdx? p with | some i=>(i:Int) | none=>-1) (K:V→HS→Prop)
  (hk:∀ c' h',MR h' 1 c' (keep p xs ts)→Same h h' (labs c)→labs c'=labs c→K (.one c') h') :
  HSpec Tryz.prog 85 [.one c,.one (.fn g caps)] h K:=by
 refine HSpec.of_vc Tryz.func85 rfl (by kernel_rfl) (n:=42) rfl rfl (by simp) ?_
 simp
 refine Z02 (HSpec.of_lend hidx ⟨.one (.frz (hm.frz hl ht (hf h .refl))),.one hcf,trivial⟩ rfl ?_)
 simp
 refine Z5c (fun he=>?_) (fun hne=>?_)
 ·simp
  have hall:∀ t ∈ ts,p t=false:=by
   intro t htm
   cases hfi:ts.findIdx? p with
   | none=>simpa using List.findIdx?_eq_none_iff.1 hfi t htm
   | some i=>rw[hi0,hfi] at he;simp at he
  exact hk _ _ (by rw[Z7l hl hall];exact hm.frame fun _ _=>rfl) (Same.refl.next) rfl
 ·obtain⟨i,hfi,rfl⟩:∃ i,ts.findIdx? p=some i∧i0=(i:Int):=by
   cases hfi:ts.findIdx? p with
   | none=>rw[hi0,hfi] at hne;simp at hne
   | some i=>rw[hfi] at hi0;exact⟨i,rfl,hi0⟩
  obtain⟨hit,hpi,hbef⟩:=List.findIdx?_eq_some_iff_getElem.1 hfi
  obtain⟨l,cap,sp,rfl,hb,hcap⟩:=hm.block (by omega)
  have hlim:xs.length≤2097152:=hm.2.1
  have hall:=hm.1
  have hlen:xs.length≤cap:=by
   have h1:=Z04 (sp:=sp) hall
   omega
  have hw0:IntKind.i64.wrap ((i:Int)+1)=(i:Int)+1:=IntWalk.i64_in _ (by omega)
  have hk0:keep p (xs.take (i+1)) (ts.take (i+1))=xs.take i:=by
   rw[Z6f (x:=xs[i]'(by omega)) (t:=ts[i]) (List.getElem?_eq_getElem _) (List.getElem?_eq_getElem _),if_pos hpi]
   refine Z7l (by simp;omega) (fun t htm=>?_)
   obtain⟨j,hj,rfl⟩:=List.getElem_of_mem htm
   simp only[List.length_take] at hj
   rw[List.getElem_take]
   simpa using hbef j (by omega)
  simp[hw0]
  refine Wait.rounds (fun n e h'=>∃ (a j:Nat) (ys:List (List C)),n=xs.length - j∧a < j∧j≤xs.length∧ys.length=xs.length∧AllC 1 ys∧ys.take a=keep p (xs.take j) (ts.take j)∧ys.drop j=xs.drop j ∧
   e.n=42∧e.get 0=.one (.mrow l 0 xs.length cap)∧e.get 1=.one (.fn g caps)∧e.get 5=.one (.d (.int .i64 (a:Int)))∧e.get 6=.one (.d (.int .i64 (j:Int)))∧Same h h' [l]∧∃ sp',h'.box l=some (rowBox ys sp')∧(rowBox ys sp').length=cap * 1) (xs.length - (i+1))
   ⟨i,i+1,xs,rfl,by omega,by omega,rfl,hall,by rw[hk0],rfl,by simp,by simp,by simp,by simp,by simp,Same.refl.next,sp,hb,hcap⟩ ?_
  rintro n e h' ⟨a,j,ys,rfl,haj,hj,hyl,hya,hyk,hyd,hn,h0,h1,h5,h6,hs,sp',hb',hl'⟩
  simp[h0,h1,h5,h6,hn]
  refine Z15 (fun hlt=>?_) (fun hge=>?_)
  ·have hwj:IntKind.i64.wrap ((j:Int)+1)=(j:Int)+1:=IntWalk.i64_in _ (by omega)
   have hwa:IntKind.i64.wrap ((a:Int)+1)=(a:Int)+1:=IntWalk.i64_in _ (by omega)
   have hjt:j < ts.length:=by omega
   obtain⟨u0,hxj⟩:∃ u0,xs[j]?=some [u0]:=by
    have h1:xs[j]?=some xs[j]:=List.getElem?_eq_getElem hlt
    have h2:=hall.get h1
    match hx:xs[j],h2 with
    | [u0],_=>exact⟨u0,by rw[h1,hx]⟩
   obtain⟨tj,htj⟩:∃ t,ts[j]?=some t:=⟨_,List.getElem?_eq_getElem hjt⟩
   have hyj:ys[j]?=some [u0]:=by
    have h1:(ys.drop j)[0]?=(xs.drop j)[0]?:=by rw[hyd]
    simpa[hxj] using h1
   have hrd:=Zad (sp:=sp') hya hyj
   have hkt:=Z6f (p:=p) hxj htj
   obtain⟨d,rfl⟩:∃ d,tj=[d]:=by
    match tj,ht tj (List.mem_of_getElem? htj) with
    | [d],_=>exact⟨d,rfl⟩
   try simp only[Nat.mul_one] at hrd
   simp[h0,h1,h5,h6,hn,hlt,hb',hrd]
   refine Z02 (HSpec.of_lend (hp d (List.mem_of_getElem? htj)) ⟨.one (.frz (hf _ hs j _ _ hxj htj).1),hcv _ hs⟩ rfl ?_)
   simp[h0,h1,h5,h6,hn]
   cases hpt:p [d] with
   | true=>
     rw[hpt,if_pos rfl] at hkt
     simp[h0,h1,h5,h6,hn,hwj]
     refine Back.of (n':=xs.length - (j+1)) (by omega) ⟨a,j+1,ys,rfl,by omega,by omega,hyl,hya,by rw[hkt,hyk],by rw[← List.drop_drop,hyd,List.drop_drop],by simp[hn],by simp[h0],by simp[h1],by simp[h5],by simp,hs.next,sp',by simp[hb'],hl'⟩
   | false=>
     rw[hpt] at hkt
     simp only[Bool.false_eq_true,if_false] at hkt
     have haj2:a < xs.length:=by omega
     have hst:=Z9h (sp:=sp') (k:=a) (f:=0) (vs:=[u0]) (x:=ys[a]'(by omega)) hya (List.getElem?_eq_getElem _) (by simp)
     have hlen2:=Z7w (sp:=sp') (k:=a) hya (by omega)
     have hxa:(ys[a]'(by omega)).length=1:=hya.get (List.getElem?_eq_getElem _)
     have hsc:Z03 (ys[a]'(by omega)) 0 [u0]=[u0]:=by
      match hx:ys[a]'(by omega),hxa with
      | [w0],_=>simp
     rw[hsc] at hst
     simp only[Nat.add_zero,Nat.mul_one] at hst hlen2
     simp[h0,h1,h5,h6,hn,hwj,haj2,hb',hwa]
     refine⟨hlen2,?_⟩
     refine Back.of (n':=xs.length - (j+1)) (by omega) ⟨a+1,j+1,ys.set a [u0],rfl,by omega,by omega,by simpa using hyl,hya.set rfl,?_,?_,by simp[hn],by simp[h0],by simp[h1],by simp,by simp,(hs.next).setBox (.inl (by simp)),sp',by simp[hst],?_⟩
     ·rw[hkt,← hyk,Z6c (by omega)]
     ·rw[List.drop_set_of_lt (by omega),← List.drop_drop,hyd,List.drop_drop]
     ·rw[Z04 (hya.set rfl),List.length_set,← Z04 (sp:=sp') hya,hl']
  ·obtain rfl:j=xs.length:=by omega
   have hyk2:ys.take a=keep p xs ts:=by
    rw[hyk,List.take_of_length_le (Nat.le_refl _),List.take_of_length_le (by omega)]
   have hac:a < cap:=by omega
   have hale:a≤xs.length:=by omega
   have hyal:(ys.take a).length=a:=by simp;omega
   have hbx:rowBox ys sp'=rowBox (ys.take a) ((ys.drop a).flatten++sp'):=by
    simp only[rowBox,← List.append_assoc,← List.flatten_append,List.take_append_drop]
   have hzl:∀ k:Nat,(List.replicate k [C.nil]).flatten.length=k * 1:=fun k=>by simp[List.length_flatten]
   have hcp:∀ vs,Z03 (rowBox ys sp') (a * 1) vs=rowBox (keep p xs ts) (Z03 ((ys.drop a).flatten++sp') 0 vs):=fun vs=>by
    have:=Z3t (sp:=(ys.drop a).flatten++sp') (vs:=vs) (hya.take (k:=a))
    rw[hyal,← hbx,hyk2] at this
    exact this
   try simp only[Nat.mul_one] at hcp
   simp[h0,h1,h5,h6,hn]
   refine Z14 ⟨hale,hlen⟩ (fun _=>?_) (fun h=>absurd hac h)
   simp[h0,h1,h5,h6,hn]
   refine Z22 Z3y Zdy hb' (by decide) (by rw[hl'];omega) ?_
   simp[h0,h1,h5,h6,hn,hlen,hac]
   refine Z14 (by omega) (fun _=>?_) (fun h=>absurd (by omega) h)
   simp[hn]
   rw[hcp]
   have hln:∀ vs:List C,a * 1+vs.length≤cap * 1→(rowBox (keep p xs ts) (Z03 ((ys.drop a).flatten++sp') 0 vs)).length=cap * 1:=fun vs hvs=>by
    rw[← hcp]
    try simp only[Nat.mul_one] at hvs ⊢
    rw[Z07 (by omega),hl',Nat.mul_one]
   refine hk (.mrow l 0 a cap) _ ⟨hall.keep,?_,.inr ⟨l,cap,Z03 ((ys.drop a).flatten++sp') 0 _,?_,Z6q.trans (if_pos rfl),?_⟩⟩ (hs.setBox (l:=l) (.inl (by simp))) rfl
   ·have:=Zeb (p:=p) (xs:=xs) (ts:=ts);have:=hm.2.1;omega
   ·rw[← hyk2,hyal]
   ·refine hln _ ?_
    first | (rw[hzl];omega) | (simp only[List.length_replicate];omega)
end Go.Proofs.YthgepknlibmjcaaGreat
end
section
namespace Go.Proofs.YthgepknlibmjcaaGreat
open Go.Am
def Z3l (r_:List GV) (k0:List GV) (k1:List Int):Option Bool:=
 (bindK (Z3g r_ k0 k1) fun v1=>(some v1))
theorem Za2 (r_:List GV) (k0:List GV) (k1:List Int) (r:Bool) (hm:Is (Z3l r_ k0 k1) r):PSpec Tryz.prog 88 [.one (.d (.sl (r_.map GV.enc))),.one (.rp [.sl (k0.map GV.enc)]),.one (.rp [.sl (k1.map encI)])] (.one (.d (.bool r))):=by
 unfold Z3l at hm
 refine PSpec.of_vc Tryz.func88 rfl (by kernel_rfl) (n:=9) rfl rfl (by simp) ?_
 try simp[*]
 refine r_call (av:=[.one (.d (.sl (r_.map GV.enc))),.one (.d (.sl (k0.map GV.enc))),.one (.d (.sl (k1.map encI)))]) hm (fun v hv=>Z99 _ _ _ v hv) (by simp[*]) ?_
 clear hm;intro v1 hvv1 hm
 try simp[*]
 obtain rfl:=r_ret hm
 exact ret0 (vs:=[_]) (by simp[*];try exact rfl) (by simp[*])
end Go.Proofs.YthgepknlibmjcaaGreat
end
section
namespace Go.Proofs.YthgepknlibmjcaaGreat
open Go Go.Am
def Z0e (row:List GV) (rows:List (List GV)) (cols:List Int):Option Bool:=Z1c rows fun r=>Z3l r row cols
theorem Z7i (row:List GV) (rows:List (List GV)) (cols:List Int) (r:Bool) (hm:Is (Z0e row rows cols) r) :
  PSpec Tryz.prog 87 [.one (.d (.sl (row.map GV.enc))),.one (.rp [.sl (rows.map (encL GV.enc))]),.one (.rp [.sl (cols.map encI)])] (.one (.d (.bool r))):=by
 refine PSpec.of_vc Tryz.func87 rfl (by kernel_rfl) (n:=8) rfl rfl (by simp) ?_
 simp
 refine Z3e (Z5r rows 88 [[.sl (row.map GV.enc)],[.sl (cols.map encI)]] (fun r=>Z3l r row cols) (fun xa v hv=>Za2 xa row cols v hv) r hm) (by simp) ?_
 simp
 exact ret0 (vs:=[_]) (by simp[*];try exact rfl) (by simp[*])
def unV:List D→GV
 | [.int _ k,.int _ n,.str t]=>⟨k,n,t⟩
 | _=>⟨0,0,ByteArray.empty⟩
def unR:List D→List GV
 | [.sl xs]=>xs.map unV
 | _=>[]
theorem Zhz (row:List GV):unR [.sl (row.map GV.enc)]=row:=by
 simp[unR,Function.comp_def,unV,GV.enc]
theorem Zhc (q:List GV→Bool):∀ rows:List (List GV),keep (fun t=>q (unR t)) (ones (rows.map rowc)) (rows.map (encL GV.enc))=ones ((rows.filter fun r=>!q r).map rowc)
 | []=>rfl
 | row::rows=>by
   have ih:=Zhc q rows
   simp only[ones] at ih ⊢
   simp only[List.map_cons,keep,encL,Zhz]
   cases h:q row
   ·simp[h,← ih,encL]
   ·simp[h,← ih,encL]
theorem Zhd {f:List GV→Option Bool} {p:List GV→Bool}:∀ (xs:List (List GV)) (i:Nat),(∀ x ∈ xs,f x=some (p x))→forK (fun (i2:Nat) (x2:List GV) (s2:Unit) next_2=>(bindK (f x2) fun v3=>(bif v3 then (some (i2:Int)) else (next_2 ())))) (fun (s2:Unit)=>(some (-1))) xs i ()=some (match xs.findIdx? p with | some j=>((i+j:Nat):Int) | none=>-1)
 | [],i,_=>by simp[forK]
 | x::xs,i,hf=>by
   rw[forK,hf x (by simp),List.findIdx?_cons]
   show (bif p x then some (i:Int) else _)=_
   cases hp:p x with
   | true=>simp
   | false=>
     have:=Zhd xs (i+1) fun y hy=>hf y (by simp[hy])
     simp only[cond_false]
     rw[this]
     cases hx:xs.findIdx? p with
     | none=>simp
     | some j=>simp only[Option.map_some];rw[show i+1+j=i+(j+1) by omega];rfl
def Z2u (g:Gr) (rules:List Rule) (user:ByteArray) (v:Int) (inst:List Rel) (t:Tbl) (k:Int):Option (List (List GV)):=
 bindK (Z0o g rules user v inst t.name) fun q=>getK inst k fun x=>bif q.2.2 != 0 then some x.rows else
  chkK (∀ row ∈ x.rows,(Z0e row q.1 q.2.1).isSome=true) (chkK (x.rows.length≤2097152) (some (x.rows.filter fun row=>!(Z0e row q.1 q.2.1).getD false)))
theorem Z8g (g:Gr) (rules:List Rule) (user:ByteArray) (v:Int) (inst:List Rel) (t:Tbl) (k:Int) (r:List (List GV)) (hm:Is (Z2u g rules user v inst t k) r) :
  PSpec Tryz.prog 40 [.agg g.enc,.one (.d (.sl (rules.map Rule.enc))),.one (.d (.str user)),.one (.d (.int .i64 v)),.one (.d (.sl (inst.map Rel.enc))),.agg t.enc,.one (.d (.int .i64 k))] (.one (.d (.sl (r.map (encL GV.enc))))):=by
 unfold Z2u at hm
 refine PSpec.of_heap ?_
 show HSpec _ _ [.agg (g.enc.map C.d),.one (.d (.sl (rules.map Rule.enc))),.one (.d (.str user)),.one (.d (.int .i64 v)),.one (.d (.sl (inst.map Rel.enc))),.agg (t.enc.map C.d),.one (.d (.int .i64 k))] HS.init _
 refine HSpec.of_vc Tryz.func40 rfl (by kernel_rfl) (n:=45) rfl rfl (by simp) ?_
 obtain⟨q,hq,hm⟩:=hm.bind
 obtain⟨rows,cols,ev⟩:=q
 replace hm:=hm.get
 obtain⟨x,hk0,hx,hm⟩:=hm
 simp only at hm
 simp
 refine Z3e (Z7d g rules user v inst t.name _ hq) (by simp) ?_
 simp
 refine r_cond hm ?_ ?_<;>clear hm<;>intro hc1 hm
 ·obtain rfl:=r_ret hm
  simp[hc1,hx,hk0]
  exact Frz.data rfl
 obtain⟨hall,hm⟩:=hm.chk
 obtain⟨hlim,hm⟩:=hm.chk
 obtain rfl:=r_ret hm
 simp[hc1,hx,hk0]
 refine Z02 (Zcd _ (.d (.sl (x.rows.map (encL GV.enc)))) (ones (x.rows.map rowc)) ?_ _ (fun c h1 hm1 hs1 hl1 hb1=>?_))
 ·have:=RowAt.data (h:=HS.init) (n:=1) (ts:=x.rows.map (encL GV.enc)) (by simp[encL]) (by simpa using hlim)
  have e1:(x.rows.map (encL GV.enc)).map (·.map C.d)=ones (x.rows.map rowc):=by simp[ones,rowc,encL,Function.comp_def]
  rw[e1] at this
  exact this
 simp
 have b15:=hb1 (3,240) [.d (.sl (rows.map (encL GV.enc)))] (by simp)
 have b16:=hb1 (4,256) [.d (.sl (cols.map encI))] (by simp)
 have hep:=hs1.1
 simp at hep
 have hlc:∀ k ∈ labs c,5≤k.1∧k.1 < h1.ep:=fun k hk=>by have:=hl1 k hk;simp at this;omega
 have hfm:∀ row ∈ x.rows,Z0e row rows cols=some ((Z0e row rows cols).getD false):=fun row hr=>by
  have:=hall row hr
  cases h9:Z0e row rows cols with
  | none=>rw[h9] at this;cases this
  | some b=>rfl
 have c15:(3,240) ∉ labs c:=fun h9=>by have:=(hlc _ h9).1;simp at this
 have c16:(4,256) ∉ labs c:=fun h9=>by have:=(hlc _ h9).1;simp at this
 refine Z02 (Z9n h1 c (ones (x.rows.map rowc)) (x.rows.map (encL GV.enc)) 87 [.lab (3,240),.lab (4,256)] [[.sl (rows.map (encL GV.enc))],[.sl (cols.map encI)]] (fun t=>(Z0e (unR t) rows cols).getD false) _ hm1 (fun k hk=>(hlc k hk).2)
  (by simp[ones]) (by simp[encL]) ?_ ?_ ?_ ?_ (Z6n x.rows 87 [[.sl (rows.map (encL GV.enc))],[.sl (cols.map encI)]] (fun row=>Z0e row rows cols) (fun xa v hv=>Z7i xa rows cols v hv) _ (Zhd x.rows 0 hfm)) ?_ _ (fun c' h' hm' hs' hl'=>?_))
 ·intro h' _ i y t hy ht
  simp only[ones,List.getElem?_map] at hy ht
  cases hr:x.rows[i]? with
  | none=>rw[hr] at hy;cases hy
  | some row=>
    rw[hr] at hy ht
    cases hy
    cases ht
    exact⟨.data rfl,trivial⟩
 ·intro h' hs
  exact⟨.one (.ptr ((hs.2 _ (by simp;omega) c15).trans b15) (FrzCs.datas (ds:=[.sl (rows.map (encL GV.enc))]))),.one (.ptr ((hs.2 _ (by simp;omega) c16).trans b16) (FrzCs.datas (ds:=[.sl (cols.map encI)]))),trivial⟩
 ·refine .fn rfl fun i cp ds hi hd=>?_
  match i with
  | 0=>
    simp at hi hd
    subst hi hd
    exact⟨_,b15,FrzCs.datas (ds:=[.sl (rows.map (encL GV.enc))])⟩
  | 1=>
    simp at hi hd
    subst hi hd
    exact⟨_,b16,FrzCs.datas (ds:=[.sl (cols.map encI)])⟩
  | i+2=>simp at hi
 ·intro d hd
  obtain⟨row,hrow,h9⟩:=List.mem_map.1 hd
  simp only[encL,List.cons.injEq,and_true] at h9
  subst h9
  exact Z7i row rows cols _ (by rw[Zhz];exact hfm row hrow)
 ·rw[List.findIdx?_map]
  have e1:((fun t=>(Z0e (unR t) rows cols).getD false) ∘ encL GV.enc)=fun row=>(Z0e row rows cols).getD false:=by
   funext row
   simp only[Function.comp_def,encL,Zhz]
  rw[e1]
  cases x.rows.findIdx? (fun row=>(Z0e row rows cols).getD false)<;>simp
 ·rw[Zhc (fun row=>(Z0e row rows cols).getD false)] at hm'
  simp
  exact Zay hm'
end Go.Proofs.YthgepknlibmjcaaGreat
end
section
namespace Go.Proofs.YthgepknlibmjcaaGreat
open Go.Am
def Z0p (g_:Gr) (rules:List Rule) (user:ByteArray) (v_:Int) (inst:List Rel) (changes:List Chg):Option Bool:=
 (bindK (Z0g) fun v2=>(bif !v2 then (bindK (Z0g) fun v4=>(some v4)) else (bindK (Z2i g_ (Db.mk [inst] []) changes) fun v5=>(bif !v5 then (bindK (Z0g) fun v7=>(some v7)) else (bindK (Z0h g_ v_) fun v8=>(bif (v8.2 != 0) then (some true) else (bindK (Z2z g_ rules user v_ changes) fun v11=>(bif (v11 != 0) then (some true) else (bindK (Z4q v8.1 inst changes) fun v13=>(bif (v13.2 != 0) then (some true) else (forK (fun (i16:Nat) (x16:Tbl) (s16:Unit) next_16=>(bindK (Z2u g_ rules user v_ inst x16 (i16:Int)) fun v18=>(bindK (Z2u g_ rules user v_ v13.1 x16 (i16:Int)) fun v19=>(bindK (Z29 v18 v19) fun v20=>(bif !v20 then (some false) else (next_16 ())))))) (fun (s16:Unit)=>(some true)) v8.1.tables 0 ())))))))))))
theorem Z4v (g_:Gr) (rules:List Rule) (user:ByteArray) (v_:Int) (inst:List Rel) (changes:List Chg) (r:Bool) (hm:Is (Z0p g_ rules user v_ inst changes) r):PSpec Tryz.prog 10 [.agg g_.enc,.one (.d (.sl (rules.map Rule.enc))),.one (.d (.str user)),.one (.d (.int .i64 v_)),.one (.d (.sl (inst.map Rel.enc))),.one (.d (.sl (changes.map Chg.enc)))] (.one (.d (.bool r))):=by
 unfold Z0p at hm
 refine PSpec.of_vc Tryz.func10 rfl (by kernel_rfl) (n:=83) rfl rfl (by simp) ?_
 try simp[*]
 refine r_call (av:=[]) hm (fun v hv=>Z1n  v hv) (by simp[*]) ?_
 clear hm;intro v2 hvv2 hm
 try simp[*]
 refine Z0b hm ?_ ?_<;>clear hm<;>intro hc3 hm
 ·try simp[*]
  refine r_call (av:=[]) hm (fun v hv=>Z1n  v hv) (by simp[*]) ?_
  clear hm;intro v4 hvv4 hm
  try simp[*]
  obtain rfl:=r_ret hm
  exact ret0 (vs:=[_]) (by simp[*];try exact rfl) (by simp[*])
 ·try simp[*]
  refine r_call (av:=[.agg g_.enc,.agg (Db.mk [inst] []).enc,.one (.d (.sl (changes.map Chg.enc)))]) hm (fun v hv=>Z81 _ _ _ v hv) (by simp[*]) ?_
  clear hm;intro v5 hvv5 hm
  try simp[*]
  refine r_cond hm ?_ ?_<;>clear hm<;>intro hc6 hm
  ·try simp[*]
   refine r_call (av:=[]) hm (fun v hv=>Z1n  v hv) (by simp[*]) ?_
   clear hm;intro v7 hvv7 hm
   try simp[*]
   obtain rfl:=r_ret hm
   exact ret0 (vs:=[_]) (by simp[*];try exact rfl) (by simp[*])
  ·try simp[*]
   refine r_call (av:=[.agg g_.enc,.one (.d (.int .i64 v_))]) hm (fun v hv=>Z5d _ _ v hv) (by simp[*]) ?_
   clear hm;intro v8 hvv8 hm
   try simp[*]
   refine Z0b hm ?_ ?_<;>clear hm<;>intro hc10 hm
   ·try simp[*]
    obtain rfl:=r_ret hm
    exact ret0 (vs:=[_]) (by simp[*];try exact rfl) (by simp[*])
   ·try simp[*]
    refine r_call (av:=[.agg g_.enc,.one (.d (.sl (rules.map Rule.enc))),.one (.d (.str user)),.one (.d (.int .i64 v_)),.one (.d (.sl (changes.map Chg.enc)))]) hm (fun v hv=>Z8j _ _ _ _ _ v hv) (by simp[*]) ?_
    clear hm;intro v11 hvv11 hm
    try simp[*]
    refine r_cond hm ?_ ?_<;>clear hm<;>intro hc12 hm
    ·try simp[*]
     obtain rfl:=r_ret hm
     exact ret0 (vs:=[_]) (by simp[*];try exact rfl) (by simp[*])
    ·try simp[*]
     refine r_call (av:=[.agg v8.1.enc,.one (.d (.sl (inst.map Rel.enc))),.one (.d (.sl (changes.map Chg.enc)))]) hm (fun v hv=>Zbh _ _ _ v hv) (by simp[*]) ?_
     clear hm;intro v13 hvv13 hm
     try simp[*]
     refine r_cond hm ?_ ?_<;>clear hm<;>intro hc14 hm
     ·try simp[*]
      obtain rfl:=r_ret hm
      exact ret0 (vs:=[_]) (by simp[*];try exact rfl) (by simp[*])
     ·try simp[*]
      intro hl15
      replace hl15:v8.1.tables.length≤2097152:=by simpa using hl15
      refine Wait.for (xs:=v8.1.tables) (s0:=()) (fun i16 s16 e16 h16=>e16.n=83∧e16.get 1=.one (.d (.sl (rules.map Rule.enc)))∧e16.get 2=.one (.d (.str user))∧e16.get 3=.one (.d (.int .i64 v_))∧e16.get 4=.one (.d (.sl (inst.map Rel.enc)))∧e16.get 6=.one (.ptr (0,96) 0)∧e16.get 15=.one (.d (.sl (v13.1.map Rel.enc)))∧e16.get 57=.one (.d (.sl (v8.1.tables.map Tbl.enc)))∧e16.get 58=.one (.d (.int .i64 (v8.1.tables.length:Int)))∧e16.get 59=.one (.d (.int .i64 (i16:Int)))∧h16.box (0,96)=some [.d (.sl (g_.base.tables.map Tbl.enc)),.d (.sl (g_.base.fks.map Fk.enc)),.d (.sl (g_.base.cons.map Cons.enc)),.d (.sl (g_.edges.map Edg.enc))]) hm (by simp[*]) ?_ ?_
      ·rintro i16 s16 e16 h16 ⟨hn16,h16_1,h16_2,h16_3,h16_4,h16_6,h16_15,h16_57,h16_58,h16_59,hb16_b1⟩ hlt16 hm
       have hw16:IntKind.i64.wrap ((i16:Int)+1)=(i16:Int)+1:=IntWalk.i64_in _ (by omega)
       try simp[*]
       refine Wait.of (SWP.draw (Plan.then_ [0,1,2,3,4,5,6,8,9,10,11,12,13,14,7,15,16,17] .done) follows (by kernel_rfl) ?_)
       try simp[*,Plan.then_,vcPlan,Z01,Z00,callKind]
       refine r_call (av:=[.agg g_.enc,.one (.d (.sl (rules.map Rule.enc))),.one (.d (.str user)),.one (.d (.int .i64 v_)),.one (.d (.sl (inst.map Rel.enc))),.agg (v8.1.tables[i16]).enc,.one (.d (.int .i64 (i16:Int)))]) hm (fun v hv=>Z8g _ _ _ _ _ _ _ v hv) (by simp[*]) ?_
       clear hm;intro v18 hvv18 hm
       try simp[*,Plan.then_,vcPlan,Z01,Z00,callKind]
       try refine⟨fun (_:Lab) (_:List C) hl=>hl,?_⟩
       refine r_call (av:=[.agg g_.enc,.one (.d (.sl (rules.map Rule.enc))),.one (.d (.str user)),.one (.d (.int .i64 v_)),.one (.d (.sl (v13.1.map Rel.enc))),.agg (v8.1.tables[i16]).enc,.one (.d (.int .i64 (i16:Int)))]) hm (fun v hv=>Z8g _ _ _ _ _ _ _ v hv) (by simp[*]) ?_
       clear hm;intro v19 hvv19 hm
       try simp[*,Plan.then_,vcPlan,Z01,Z00,callKind]
       try refine⟨fun (_:Lab) (_:List C) hl=>hl,?_⟩
       refine r_call (av:=[.one (.d (.sl (v18.map (encL GV.enc)))),.one (.d (.sl (v19.map (encL GV.enc))))]) hm (fun v hv=>Z7h _ _ v hv) (by simp[*]) ?_
       clear hm;intro v20 hvv20 hm
       try simp[*,Plan.then_,vcPlan,Z01,Z00,callKind]
       try refine⟨fun (_:Lab) (_:List C) hl=>hl,?_⟩
       refine r_cond hm ?_ ?_<;>clear hm<;>intro hc21 hm
       ·try simp[*]
        obtain rfl:=r_ret hm
        exact ret0 (vs:=[_]) (by simp[*];try exact rfl) (by simp[*])
       ·try simp[*]
        exact BackF.of () ⟨(by simp[*]),hm⟩
      ·rintro s16 e16 h16 ⟨hn16,h16_1,h16_2,h16_3,h16_4,h16_6,h16_15,h16_57,h16_58,h16_59,hb16_b1⟩ hm
       try simp[*]
       obtain rfl:=r_ret hm
       exact ret0 (vs:=[_]) (by simp[*];try exact rfl) (by simp[*])
end Go.Proofs.YthgepknlibmjcaaGreat
end
section
namespace Go.Proofs.YthgepknlibmjcaaGreat
open Go Go.Am
theorem Zot {rules:List Rule} {u:ByteArray} {v:Int} {a b:ByteArray} (h:strEq a b=true):lk rules u v a=lk rules u v b:=by
 have hab:a.toList=b.toList:=Z45.1 h
 unfold lk
 congr 1
 funext r
 simp[lkP,strEq,hab]
def Hid (rules:List Rule) (user:ByteArray) (v:Int) (T:Tbl) (x:Rel) (rows:List (List GV)):Prop:=
 (lk rules user v T.name=none→rows=x.rows)∧∀ r,lk rules user v T.name=some r→rows=x.rows.filter fun row=>!mtch r row
theorem Zit {g:Gr} (hx:∀ e ∈ g.edges,∀ x ∈ e.script,SmallX x) {rules:List Rule} {user:ByteArray} {v:Int} {inst:List Rel} {S:Sch} {k:Nat} {T:Tbl} {x:Rel} (hv:Z0n g rules=some 0) (hs:Z0h g v=some (S,0)) (hc:Z0c S inst=some 0) (hV:VS S) (hC:CF S inst)
  (hT:S.tables[k]?=some T) (hxk:inst[k]?=some x):Wp (Z2u g rules user v inst T (k:Int)) (Hid rules user v T x):=by
 have hL:=LIM_eq
 unfold Z2u
 cases hl:lk rules user v T.name with
 | none=>
   rw[Zpi hv hs hc hl]
   refine Wp.bind (R:=fun q=>q=(([]:List (List GV)),([]:List Int),(17:Int))) ⟨_,rfl,rfl⟩ fun q _ hq=>?_
   subst hq
   exact Wp.getN hxk (Wp.cond (fun _=>Wp.ret ⟨fun _=>rfl,fun r h=>by rw[hl] at h;cases h⟩) fun h=>by simp at h)
 | some r=>
   obtain⟨hvis,hpr,hcols⟩:=Ziu hx hv hs hc hT hxk hl
   rw[hvis]
   refine Wp.bind (R:=fun q=>q=((x.rows.filter (mtch r)).map (projF (visC T r)),visC T r,(0:Int))) ⟨_,rfl,rfl⟩ fun q _ hq=>?_
   subst hq
   have hVT:=hV.tab T (List.mem_of_getElem? hT)
   have hin:=Zfx hVT hcols
   have hrows:=hC.row k x T hxk hT
   have h24:=hC.l24 x (List.mem_of_getElem? hxk)
   have hsh:∀ row ∈ x.rows,Z0e row ((x.rows.filter (mtch r)).map (projF (visC T r))) (visC T r)=some (mtch r row):=fun row hrm=>by
    have hcl:=(hrows row hrm).len
    refine Wp.eq ?_
    unfold Z0e Z1c Z2d
    refine Wp.bind (Zjc fun r' _=>Zmj r' row (visC T r) fun c hc=>by have:=hin c hc;omega) fun k _ hk=>Wp.ret ?_
    rcases hk with ⟨h1,r',hr',hlen,hsh⟩ | ⟨h1,h2⟩
    ·simp only[h1,decide_true]
     obtain⟨row',hrow',rfl⟩:=List.mem_map.1 hr'
     obtain⟨h3,h4⟩:=List.mem_filter.1 hrow'
     have h5:=Zol hsh
     rw[← h4]
     exact Zfi hVT.pk hpr (hrows row' h3).len hcl fun c hc=>h5 c ((Ziv T r c).2 (.inl hc))
    ·have:¬ (0≤k):=by omega
     simp only[this,decide_false]
     cases hm:mtch r row with
     | false=>rfl
     | true=>
       exfalso
       refine h2 (projF (visC T r) row) (List.mem_map.2 ⟨row,List.mem_filter.2 ⟨hrm,hm⟩,rfl⟩) ⟨by simp[projF],fun i c hc=>?_⟩
       unfold projF
       rw[List.getElem?_map,hc]
       rfl
   refine Wp.getN hxk (Wp.cond (fun h=>by simp at h) fun _=>Wp.chk (fun row hr=>by simp only;rw[hsh row hr];rfl) (Wp.chk (by omega) (Wp.ret ⟨fun h=>(by rw[hl] at h;cases h),fun r' h=>?_⟩)))
   rw[hl] at h
   cases h
   refine List.filter_congr fun row hr=>?_
   simp only
   rw[hsh row hr]
   rfl
theorem Runs.keep {S:Sch} (hV:VS S) {rules:List Rule} {user:ByteArray} {v:Int} {o o':List Rel} {cs:List Chg} (h:Runs S o cs o'):(∀ c ∈ cs,∃ r T row,AU S rules user v c r T row)→∀ (k:Nat) (T:Tbl) (x:Rel),S.tables[k]?=some T→o[k]?=some x→(∀ row ∈ x.rows,row.length=T.cols.length) →
  ∃ x',o'[k]?=some x'∧(∀ row ∈ x'.rows,row.length=T.cols.length)∧(lk rules user v T.name=none→x'.rows=x.rows)∧∀ r,lk rules user v T.name=some r→(x'.rows.filter fun row=>!mtch r row)=x.rows.filter fun row=>!mtch r row:=by
 induction h with
 | nil=>exact fun _ k T x _ hx hl=>⟨x,hx,hl,fun _=>rfl,fun _ _=>rfl⟩
 | @snoc cs o1 o2 c k1 T1 x1 rows1 h s ih=>
   intro hau k T x hT hx hl
   obtain⟨x',h1,h2,h3,h4⟩:=ih (fun c' hc'=>hau c' (List.mem_append_left _ hc')) k T x hT hx hl
   by_cases hk:k1=k
   ·subst hk
    have hT1:T=T1:=by
     have h9:=s.t
     rw[hT] at h9
     exact Option.some.inj h9
    subst hT1
    have ho:=s.ok
    rw[h1] at ho
    cases ho
    have hlt:=(List.getElem?_eq_some_iff.1 s.ok).1
    obtain⟨r,T',rowA,hA⟩:=hau c (List.mem_append_right _ (by simp))
    have eT:T=T':=by
     obtain⟨k',h6,h7⟩:=hA.ft
     rw[s.ft] at h6
     cases h6
     rw[Int.toNat_natCast,hT] at h7
     exact Option.some.inj h7
    subst eT
    have hVT:=hV.tab T (List.mem_of_getElem? hT)
    have hlk:lk rules user v T.name=some r:=by rw[Zot s.nm];exact hA.l
    refine⟨_,by rw[s.eq];exact List.getElem?_set_self hlt,?_⟩
    simp only
    by_cases hk1:c.kind=1
    ·obtain⟨hcr,a,b,os,hm,rfl⟩:=s.up hk1
     have e:=hm.eq
     refine⟨fun row hr=>?_,fun h=>(by rw[hlk] at h;cases h),fun r' hr'=>?_⟩
     ·rcases List.mem_append.1 hr with h5 | h5
      ·exact h2 row (by rw[e];simp[h5])
      ·rcases List.mem_cons.1 h5 with rfl | h6
       ·exact hcr.len
       ·exact h2 row (by rw[e];simp[h6])
     ·rw[hlk] at hr'
      cases hr'
      rw[← h4 r hlk,e]
      have hrow:mtch r c.row=true:=hA.row hVT hcr.len (by rw[if_pos hk1])
      have hos:(os.filter fun row=>!mtch r row)=[]:=by
       rcases hm.os with rfl | ⟨y,rfl,hy⟩
       ·rfl
       ·have:mtch r y=true:=hA.row hVT (h2 y (by rw[e];simp)) (by rw[if_pos hk1,hy])
        simp[this]
      simp[hrow,hos]
    ·obtain⟨a,b,y,hm,rfl⟩:=s.dl hk1
     have e:=hm.eq
     refine⟨fun row hr=>?_,fun h=>(by rw[hlk] at h;cases h),fun r' hr'=>?_⟩
     ·rcases List.mem_append.1 hr with h5 | h5
      ·exact h2 row (by rw[e];simp[h5])
      ·exact h2 row (by rw[e];simp[h5])
     ·rw[hlk] at hr'
      cases hr'
      rw[← h4 r hlk,e]
      have hy:keyF T y=c.key:=by
       rcases hm.os with h5 | ⟨z,h5,h6⟩
       ·cases h5
       ·cases h5;exact h6
      have:mtch r y=true:=hA.row hVT (h2 y (by rw[e];simp)) (by rw[if_neg hk1,hy])
      simp[this]
   ·exact⟨x',by rw[s.eq,List.getElem?_set_ne hk];exact h1,h2,h3,h4⟩
theorem law8 (g:Gr) (hx:∀ e ∈ g.edges,∀ x ∈ e.script,SmallX x) (rules:List Rule) (user:ByteArray) (v:Int) (inst:List Rel) (changes:List Chg) (hi:inst.length≤1048576) :
  Z0p g rules user v inst changes=some true:=by
 have hw:Wp Z0g fun b=>b=true:=⟨true,Zex,rfl⟩
 refine Wp.eq ?_
 unfold Z0p
 refine Wp.bind hw fun b _ hb=>?_
 subst hb
 refine Wp.cond (fun h=>by cases h) fun _=>Wp.bind (Zgu g inst changes (by omega)) fun b _ _=>Wp.cond (fun _=>Wp.bind hw fun b _ hb=>Wp.ret hb) fun _=>Wp.bind (Z52 g hx v) fun q hq0 _=>Wp.cond (fun _=>Wp.ret rfl) fun h1=>
  Wp.bind (Zdv g hx rules user v changes) fun e _ he=>Wp.cond (fun _=>Wp.ret rfl) fun h2=>?_
 obtain⟨Ss,S,hR,hv,hs,hSv,hV,hau⟩:=he (by simpa using h2)
 rw[hs] at hq0
 cases hq0
 refine Wp.bind (Zfd hV inst changes) fun p _ hp=>Wp.cond (fun _=>Wp.ret rfl) fun h3=>?_
 obtain⟨hC0,hc0,hC,hrun⟩:=hp (by simpa using h3)
 have hpk:∀ T ∈ S.tables,T.pk.length≤6:=fun T hT=>(hV.tab T hT).pk6
 have hce:=Zem hpk hC
 refine Wp.for (fun _ _=>True) trivial ?_ fun _ _=>Wp.ret rfl
 intro k T s next hT hTm _ hn
 simp only at hT hTm
 have hk:=(List.getElem?_eq_some_iff.1 hT).1
 have hl0:=hC0.len
 have hxk:inst[k]?=some inst[k]:=List.getElem?_eq_getElem (by omega)
 generalize inst[k]=x at hxk
 obtain⟨x',hx',hlen,hnone,hsome⟩:=hrun.keep hV hau k T x hT hxk fun row hr=>(hC0.row k x T hxk hT row hr).len
 refine Wp.bind (Zit hx hv hs hc0 hV hC0 hT hxk) fun a _ ha=>Wp.bind (Zit hx hv hs hce hV hC hT hx') fun b _ hb=>?_
 have hab:a=b:=by
  cases hl:lk rules user v T.name with
  | none=>rw[ha.1 hl,hb.1 hl,hnone hl]
  | some r=>rw[ha.2 r hl,hb.2 r hl,hsome r hl]
 subst hab
 exact Wp.bind (Zhv a) fun b _ hb=>Wp.cond (fun h=>by simp[hb] at h) fun _=>hn () trivial
end Go.Proofs.YthgepknlibmjcaaGreat
end
section
namespace Go.Proofs.YthgepknlibmjcaaGreat.accessHiddenRowsAreUntouched
open Go Go.Am Go.ChangeShapes Go.WideShapes Go.ChangeAt Go.RowKit
theorem own:ownKnob Tryz.prog.godebug=none:=by kernel_rfl
theorem laid:laidOutB Tryz.prog=true:=by kernel_rfl
def plain:List TypeId:=[29,26,22,75,9,73,156,3,4,30,23,131,24,103,100,27,39,37,158,41,43,45,106,52,79,84,89]
theorem Z55:plainB Tryz.prog plain=true:=by kernel_rfl
theorem small {g:Gr} (h:bd29 1048576 g):∀ e ∈ g.edges,∀ x ∈ e.script,SmallX x:=by
 intro e he x hx
 have h1:=(h.2.2 e he).2.2 x hx
 obtain⟨_,_,_,_,_,_,hc,_,_,ht,_,hf⟩:=h1
 exact⟨hc.1,ht.2.1.1,ht.2.2.1,hf.2.1.1⟩
set_option maxRecDepth 100000 in
theorem Zgk (H:Type) (enc:TypeId × Value→H) (W:World) (base:Nat) (args:Array Value) (ds gs:List (DataW H)) (before:List MemPlace)
  (hval:∀ (j:Nat) t v,Tryz.f10.params[j]?=some t→args[j]?=some v→Value.okWide Tryz.prog W .any base t v)
  (hW:DataW.Whole enc Tryz.prog Tryz.f10.params.toList Rows.accessHiddenRowsAreUntouchedSpec.vars false W args.toList ds gs before) (hk:Rows.uptoSmall H (ds++gs)=true) :
  Calls Tryz.prog 10 args W fun e W'=>∃ v,e=.returned v∧Rows.accessHiddenRowsAreUntouchedSpec.post enc Tryz.prog Tryz.f10 false true false false W args v W':=by
 have hW':=hW
 have hlt:=hW.lt
 obtain⟨p,q,hA0,hV,rfl,hfz,hnd⟩:=hW
 have hA:DataW.TrodAll enc Tryz.prog W 0 (fun _=>true) true Tryz.f10.params.toList args.toList ds p:=hA0
 rw[Tryz.params10] at hA hval
 obtain⟨v0,vs0,d0,ds0,p0,q0,hargs,rfl,rfl,h0,r0⟩:=trodAll_cons hA
 obtain⟨v1,vs1,d1,ds1,p1,q1,rfl,rfl,rfl,h1,r1⟩:=trodAll_cons r0
 obtain⟨v2,vs2,d2,ds2,p2,q2,rfl,rfl,rfl,h2,r2⟩:=trodAll_cons r1
 obtain⟨v3,vs3,d3,ds3,p3,q3,rfl,rfl,rfl,h3,r3⟩:=trodAll_cons r2
 obtain⟨v4,vs4,d4,ds4,p4,q4,rfl,rfl,rfl,h4,r4⟩:=trodAll_cons r3
 obtain⟨v5,vs5,d5,ds5,p5,q5,rfl,rfl,rfl,h5,r5⟩:=trodAll_cons r4
 obtain⟨rfl,rfl,rfl⟩:=trodAll_nil r5
 obtain rfl:args=#[v0,v1,v2,v3,v4,v5]:=by cases args;simp_all
 obtain⟨rfl,rfl⟩:=trodVars_none hV
 have hb:=of_decide_eq_true hk
 simp only[List.append_nil,Rows.uptoBulkAll] at hb
 obtain⟨cs0,rfl,_⟩:=okWide_struct Tryz.underlying29 (hval 0 29 v0 rfl rfl)
 obtain⟨a1,len1,cap1,rfl⟩:=okWide_slice Tryz.underlying41 (hval 1 41 v1 rfl rfl)
 obtain⟨s2,rfl⟩:=okWide_string Tryz.underlying9 (hval 2 9 v2 rfl rfl)
 obtain⟨i3,rfl⟩:=okWide_int Tryz.underlying3 (hval 3 3 v3 rfl rfl)
 obtain⟨a4,len4,cap4,rfl⟩:=okWide_slice Tryz.underlying45 (hval 4 45 v4 rfl rfl)
 obtain⟨a5,len5,cap5,rfl⟩:=okWide_slice Tryz.underlying84 (hval 5 84 v5 rfl rfl)
 have h0k:=h0
 have h1k:=h1
 have h2k:=h2
 have h3k:=h3
 have h4k:=h4
 have h5k:=h5
 obtain⟨n0,hn0⟩:=h0
 obtain⟨n1,hn1⟩:=h1
 obtain⟨n2,hn2⟩:=h2
 obtain⟨n3,hn3⟩:=h3
 obtain⟨n4,hn4⟩:=h4
 obtain⟨n5,hn5⟩:=h5
 obtain⟨e0,hr0,ht0⟩:=Z5y (B:=1048576) Z55 (by decide) n0 29 _ _ (by decide) hn0 (by simp only;omega)
 obtain⟨e1,hr1,ht1⟩:=Z5y (B:=1048576) Z55 (by decide) n1 41 _ _ (by decide) hn1 (by simp only;omega)
 obtain⟨e2,hr2,ht2⟩:=Z5y (B:=1048576) Z55 (by decide) n2 9 _ _ (by decide) hn2 (by simp only;omega)
 obtain⟨e3,hr3,ht3⟩:=Z5y (B:=1048576) Z55 (by decide) n3 3 _ _ (by decide) hn3 (by simp only;omega)
 obtain⟨e4,hr4,ht4⟩:=Z5y (B:=1048576) Z55 (by decide) n4 45 _ _ (by decide) hn4 (by simp only;omega)
 obtain⟨e5,hr5,ht5⟩:=Z5y (B:=1048576) Z55 (by decide) n5 84 _ _ (by decide) hn5 (by simp only;omega)
 obtain⟨x0,rfl,y0⟩:=dec29 ht0
 obtain⟨x1,rfl,y1⟩:=dec41 ht1
 obtain⟨x2,rfl,y2⟩:=dec9 ht2
 obtain⟨x3,rfl,y3⟩:=dec3 ht3
 obtain⟨x4,rfl,y4⟩:=dec45 ht4
 obtain⟨x5,rfl,y5⟩:=dec84 ht5
 have hS:=Z4v x0 x1 x2 x3 x4 x5 true (law8 x0 (small y0) x1 x2 x3 x4 x5 y4.1)
 refine (hS.2 W (cellsOf W) (fun _ _=>none) #[.agg cs0,.slice a1 len1 cap1,.string s2,.int .i64 i3,.slice a4 len4 cap4,.slice a5 len5 cap5] (fun _ _ _ h=>h) (fun _ _ _ h=>by cases h) ?_).mono fun e W' hpost=>?_
 ·refine⟨rfl,fun i a hi=>?_⟩
  match i with
  | 0=>
    cases hi
    refine⟨.agg cs0,rfl,cs0,rfl,by simpa[Value.cells] using hr0.1,fun j x hj=>?_⟩
    obtain⟨u,hu1,hu2⟩:=hr0.2 j x hj
    exact⟨u,by simpa[Value.cells] using hu1,hu2⟩
  | 1=>
    cases hi
    obtain⟨u,hu1,hu2⟩:=hr1.2 0 _ rfl
    refine⟨.slice a1 len1 cap1,rfl,?_⟩
    have:u=.slice a1 len1 cap1:=by simpa[Value.cells] using hu1.symm
    rw[← this]
    exact hu2
  | 2=>
    cases hi
    obtain⟨u,hu1,hu2⟩:=hr2.2 0 _ rfl
    refine⟨.string s2,rfl,?_⟩
    have:u=.string s2:=by simpa[Value.cells] using hu1.symm
    rw[← this]
    exact hu2
  | 3=>
    cases hi
    obtain⟨u,hu1,hu2⟩:=hr3.2 0 _ rfl
    refine⟨.int .i64 i3,rfl,?_⟩
    have:u=.int .i64 i3:=by simpa[Value.cells] using hu1.symm
    rw[← this]
    exact hu2
  | 4=>
    cases hi
    obtain⟨u,hu1,hu2⟩:=hr4.2 0 _ rfl
    refine⟨.slice a4 len4 cap4,rfl,?_⟩
    have:u=.slice a4 len4 cap4:=by simpa[Value.cells] using hu1.symm
    rw[← this]
    exact hu2
  | 5=>
    cases hi
    obtain⟨u,hu1,hu2⟩:=hr5.2 0 _ rfl
    refine⟨.slice a5 len5 cap5,rfl,?_⟩
    have:u=.slice a5 len5 cap5:=by simpa[Value.cells] using hu1.symm
    rw[← this]
    exact hu2
  | i+6=>simp at hi
 obtain⟨v,m',blk,rfl,_,_,_,hbel,hrv,_⟩:=hpost
 have hv:v=.bool true:=by cases hrv;rfl
 subst hv
 refine⟨_,rfl,[d0,d1,d2,d3,d4,d5],[],p0++(p1++(p2++(p3++(p4++(p5++[])))))++[],[],p0++(p1++(p2++(p3++(p4++(p5++[]))))),[],hW',trodAll_mk1 (shut_bool Tryz.underlying4 true),?_,rfl,hbel.frame _,fun h=>by cases h⟩
 have hl0:∀ x ∈ p0,x.block < W.heap.size:=fun x hx=>hlt x (by simp[hx])
 have hl1:∀ x ∈ p1,x.block < W.heap.size:=fun x hx=>hlt x (by simp[hx])
 have hl2:∀ x ∈ p2,x.block < W.heap.size:=fun x hx=>hlt x (by simp[hx])
 have hl3:∀ x ∈ p3,x.block < W.heap.size:=fun x hx=>hlt x (by simp[hx])
 have hl4:∀ x ∈ p4,x.block < W.heap.size:=fun x hx=>hlt x (by simp[hx])
 have hl5:∀ x ∈ p5,x.block < W.heap.size:=fun x hx=>hlt x (by simp[hx])
 exact trodAll_cons_mk (Below.trod laid (by kernel_rfl) (of_decide_eq_true (by kernel_rfl)) h0k hbel hl0) (trodAll_cons_mk (Below.trod laid (by kernel_rfl) (of_decide_eq_true (by kernel_rfl)) h1k hbel hl1) (trodAll_cons_mk (Below.trod laid (by kernel_rfl) (of_decide_eq_true (by kernel_rfl)) h2k hbel hl2) (trodAll_cons_mk (Below.trod laid (by kernel_rfl) (of_decide_eq_true (by kernel_rfl)) h3k hbel hl3) (trodAll_cons_mk (Below.trod laid (by kernel_rfl) (of_decide_eq_true (by kernel_rfl)) h4k hbel hl4) (trodAll_cons_mk (Below.trod laid (by kernel_rfl) (of_decide_eq_true (by kernel_rfl)) h5k hbel hl5) trodAll_mk0)))))
set_option maxRecDepth 100000 in
theorem lifted (os:Os) (started:os.Started) (H:Type) (enc:TypeId × Value→H) (F:Stop.Interp) :
  ReturnsInHanded {} Tryz.checked os 10 .any ((Rows.OpenSpec.upto Rows.accessHiddenRowsAreUntouchedSpec).pre6 enc Tryz.prog Tryz.f10 Rows.accessHiddenRowsAreUntouchedUptoRow.domain false) (((Rows.OpenSpec.upto Rows.accessHiddenRowsAreUntouchedSpec).at F).post enc Tryz.prog Tryz.f10 false true false false):=by
 refine returnsInHanded_of_cond (C:=Tryz.checked) (s:=Rows.OpenSpec.upto Rows.accessHiddenRowsAreUntouchedSpec) (k:=Rows.uptoSmall) rfl own started (by kernel_rfl) Tryz.func10
  (OpenSpec.witness (enc:=enc) (C:=Tryz.checked) (s:=Rows.OpenSpec.upto Rows.accessHiddenRowsAreUntouchedSpec) (k:=Rows.uptoSmall) rfl false ⟨#[],#[.agg #[.slice none 0 0,.slice none 0 0,.slice none 0 0,.slice none 0 0],.slice none 0 0,.string ByteArray.empty,.int .i64 0,.slice none 0 0,.slice none 0 0],[]⟩ 8 (by kernel_rfl) (by kernel_rfl) (by kernel_rfl)
   (x:=([.agg [.agg [.nil,.nil,.nil],.nil],.nil,.lit (.string []),.lit (.int .i64 0),.nil,.nil],[],[])) (by kernel_rfl) rfl (by kernel_rfl)) ?_
 intro W base args ds gs before hval hW _ hk _
 exact Zgk H enc W base args ds gs before hval hW hk
theorem over:Rows.accessHiddenRowsAreUntouchedUptoRow.holds Tryz.pinned (Rows.OpenSpec.upto Rows.accessHiddenRowsAreUntouchedSpec):=
 OpenClaim.holds_of_cond 10 Tryz.f10 rfl rfl rfl rfl rfl rfl rfl ⟨rfl,rfl,rfl,rfl,rfl⟩ rfl rfl rfl rfl rfl (by kernel_rfl) Tryz.func10 (by kernel_rfl)
  (of_decide_eq_true (by kernel_rfl)) (by unfold Func.isWrapper;first | (rw[if_pos (by decide +kernel)];kernel_rfl) | (rw[if_neg (by decide +kernel)];exact⟨rfl,rfl⟩))
  (fun os started H enc _ F=>lifted os started H enc F)
theorem proved:Rows.AccessHiddenRowsAreUntouchedUptoSaid:=over
end Go.Proofs.YthgepknlibmjcaaGreat.accessHiddenRowsAreUntouched
end
