/- joined by a program out of 52 texts -/
import Derived.Test.YtbcejndfbklikaaGreatDoorJ4
import Derived.Lib.Overlaps
set_option linter.unusedVariables false
set_option linter.unusedSimpArgs false
set_option maxRecDepth 20000
open Go.Proofs.Tryz(prog)
open ByteArray(empty)
namespace Go.Proofs.YtbcejndfbklikaaGreatDoor
section
open Go Go.Am
def Z4o (S:Sch) (x:Stp):Option (Sch × Int):=
 bif x.kind == 13 then chkK (S.cons.length < LIM) (some ({ S with cons:=S.cons++[x.cons] },0)) else
 bif x.kind == 14 then Z2n S x.cons else
 bif x.kind == 15 then chkK (S.fks.length < LIM) (some ({ S with fks:=S.fks++[x.fk] },0)) else
 bif x.kind == 16 then Z0s S x.fk else
 bif x.kind == 10 then Z3n S x.newTable else
 bindK (Z02 S x.table) fun v=>bif !v.2 then some (S,4) else
 bif x.kind == 4 then Z3l S v.1.toNat x.newName else
 bif x.kind == 6 then Z3w S v.1.toNat x else
 bif x.kind == 7 then Z3x S v.1.toNat x.other else
 bif x.kind == 8 then Z2m S v.1.toNat x else
 bif x.kind == 9 then Z3m S v.1.toNat x else
 bif x.kind == 11 then Z49 S x.table else
 bif x.kind == 12 then Z34 S v.1.toNat x else
 bif x.kind == 1 then Z4a S v.1.toNat x else Z3o S v.1.toNat x
theorem Zhb {S:Sch} {nm:ByteArray} {v:Int × Bool} (h:Is (Z02 S nm) v):0<=v.1:=by
 obtain⟨k,_,h⟩:=Is.bind h
 have:=r_ret h
 rw[<- this];show 0<=(if k < 0 then 0 else k)
 split<;>omega
theorem KeepS.sub {h:HS} {l:Lab} {ls ls':List Lab} {S':Sch} {v:V} {K:V->HS->Prop} (hk:KeepS h l ls S' v K) (hs:∀ k ∈ ls',k ∈ ls):KeepS h l ls' S' v K:=
 fun h' lz ho hm hl=>hk h' lz ho (hm.mono fun k hk=>by simp only[Y08] at hk |-;exact hk.imp_right (hs k)) fun k hk=>(hl k hk).imp_left (hs k)
theorem KeepS.to {h:HS} {l:Lab} {ls:List Lab} {S':Sch} {v:V} {K K':V->HS->Prop} (hk:KeepS h l ls S' v K) (hs:∀ h',K v h'->K' v h'):KeepS h l ls S' v K':=
 fun h' lz ho hm hl=>hs _ (hk h' lz ho hm hl)
set_option maxHeartbeats 2000000 in
theorem Zbx (h:HS) (l:Lab) (tc fc oc:C) (xs:List C) (ta fa oa lx:List Lab) (S S':Sch) (x:Stp) (r:Int) (hm:Is (Z4o S x) (S',r)) (s:Sc h l S tc fc oc ta fa oa) (hx:Ow h StpSh xs x.enc lx) (hd:lx.Nodup/\∀ k ∈ lx,k.1 < h.ep/\k ∉ l::(ta++(fa++oa))) (K:V->HS->Prop)
  (hk:KeepS h l (ta++(fa++oa)++lx) S' (.one (.d (.int .i64 r))) K) :
  HSpec prog 121 [.one (.ptr l 0),.agg xs] h K:=by
 refine HSpec.good Tryz.func121 rfl (by kernel_rfl) fun hg=>?_;obtain⟨x6,x12,x13,x22,a6,a12,a13,a22,rfl,rfl,-,-,-,-⟩:=hx.stp;refine HSpec.of_vc Tryz.func121 rfl (by kernel_rfl) (n:=120) rfl rfl (by simp) ?_;have hnn:stpC x x6 x12 x13 x22≠[]:=by simp[stpC]
 have hs0:Same h ((h.setBox (h.ep,48) (stpC x x6 x12 x13 x22)).next) []:=(Same.refl.setBox (.inr (Y09 _))).next;have s0:=s.frame hs0;have hb0:=s0.box;have bx3:(h.setBox (h.ep,48) (stpC x x6 x12 x13 x22)).next.box (h.ep,48)=some (stpC x x6 x12 x13 x22):=by simp
 have hx0:Ow ((h.setBox (h.ep,48) (stpC x x6 x12 x13 x22)).next) StpSh (stpC x x6 x12 x13 x22) x.enc (a6++(a12++(a13++a22))):=hx.frame fun k hk=>hs0.2 k (hd.2 k hk).1 (by simp);have hd0:∀ k ∈ a6++(a12++(a13++a22)),k.1 < ((h.setBox (h.ep,48) (stpC x x6 x12 x13 x22)).next).ep/\k ∉ l::(ta++(fa++oa)):=fun k hk=>⟨by have:=(hd.2 k hk).1;simp<;>omega,(hd.2 k hk).2⟩;have hk0:KeepS ((h.setBox (h.ep,48) (stpC x x6 x12 x13 x22)).next) l (ta++(fa++oa)++(a6++(a12++(a13++a22)))) S' (.one (.d (.int .i64 r))) K:=hk.after hs0;have hk1:KeepS ((h.setBox (h.ep,48) (stpC x x6 x12 x13 x22)).next) l (ta++(fa++oa)) S' (.one (.d (.int .i64 r))) K:=hk0.sub fun k hk=>Y21 _ hk;have e0:takeN 1 (stpC x x6 x12 x13 x22)=some [.d (.int .i64 x.kind)]:=by simp[stpC]
 have e24:takeN 24 (stpC x x6 x12 x13 x22)=some (stpC x x6 x12 x13 x22):=by simp[stpC]
 have e1:takeN 1 ((stpC x x6 x12 x13 x22).drop 1)=some [.d (.str x.table)]:=by simp[stpC]
 have e1':takeN 1 ((stpC x x6 x12 x13 x22).tail)=some [.d (.str x.table)]:=by simp[stpC]
 have e2:takeN 1 ((stpC x x6 x12 x13 x22).drop 2)=some [.d (.str x.other)]:=by simp[stpC]
 have e4:takeN 1 ((stpC x x6 x12 x13 x22).drop 4)=some [.d (.str x.newName)]:=by simp[stpC]
 have e11:takeN 3 ((stpC x x6 x12 x13 x22).drop 11)=some [.d (.str x.newTable.name),x12,x13]:=by simp[stpC]
 have e14:takeN 7 ((stpC x x6 x12 x13 x22).drop 14)=some (x.cons.enc.map C.d):=by simp[stpC]
 have e21:takeN 3 ((stpC x x6 x12 x13 x22).drop 21)=some [.d (.str x.fk.table),x22,.d (.str x.fk.ref)]:=by simp[stpC]
 simp only[Cons.enc,Y0d,Y0g] at e14;unfold Z4o at hm;simp[hnn,e0];cases k13:x.kind == 13 with
 | true=>
   simp only[k13,cond_true] at hm;replace hm:=hm.chk;obtain⟨hlim,hm⟩:=hm;have e1:=r_ret hm;simp only[Y07] at e1;obtain⟨rfl,rfl⟩:=e1;simp[k13];generalize (h.setBox (h.ep,48) (stpC x x6 x12 x13 x22)).next=HX at *;refine Wait.cut (Plan.then_ [0,1,2,3,4,5,6,7,8,9,10,11] .done) follows (by kernel_rfl) (fun e h'=>e.n=120/\∃ oc' oa',Sc h' l { S with cons:=S.cons++[x.cons] } tc fc oc' ta fa oa'/\Same HX h' (l::oa)/\∀ k ∈ oa',k ∈ oa\/HX.ep<=k.1) ?_ ?_
   .simp[hb0,bx3,e14];have hz:Same HX ((HX.setArr (HX.ep,16 * 18) (some (1,7))).next) []:=Same.refl.setArr.next;simp only[Nat.reduceMul] at hz;have s1:=s0.frame hz;obtain⟨ys,my,hly,add⟩:=s1.addO;refine app_mr (by simp;exact⟨rfl,rfl⟩) (by simp) (by simp) (by simp) my (RowAt.own1 (by simp)) (by rw[hly];exact hlim) (fun c' h' hm' hs6 hl6=>?_);have hbl:=s1.keep hs6 fun k hk=>.inr (.inr (s1.hlabs.2.2 k hk));obtain⟨oa',s6,hoa'⟩:=add h' c' x.cons (by simpa using hm') hs6 hl6;have hepz:=hz.1;simp[hbl];exact CutK.of ⟨by simp,c',oa',s6,((hz.mono (by simp)).trans (hs6.mono fun k hk=>Y0c _ (s1.hlabs.2.2 k hk))).setBox (.inl (by simp)),fun k hk=>(hoa' k hk).imp_right fun h9=>by omega⟩
   .rintro e h' ⟨hn,oc',oa',s6,hs6,hoa'⟩;simp[hn];refine hk1 _ _ s6.ows (hs6.mono fun k hk=>by simp only[Y08,Y02] at hk |-;exact hk.imp_right fun h=>.inr (.inr h)) fun k hk=>?_;simp only[Y02] at hk |-;rcases hk with hk | hk | hk
    .exact .inl (.inl hk)
    .exact .inl (.inr (.inl hk))
    .exact (hoa' k hk).imp_left fun h=>.inr (.inr h)
 | false=>
 simp only[k13,cond_false] at hm;cases k14:x.kind == 14 with
 | true=>
   simp only[k14,cond_true] at hm;simp[k13,k14,e14];refine Z00 (Z7x _ l _ S S' x.cons r hm s0.ows _ (hk1.to fun h' hK=>?_));simp;exact hK
 | false=>
 simp only[k14,cond_false] at hm;cases k15:x.kind == 15 with
 | true=>
   simp only[k15,cond_true] at hm;replace hm:=hm.chk;obtain⟨hlim,hm⟩:=hm;have e1:=r_ret hm;simp only[Y07] at e1;obtain⟨rfl,rfl⟩:=e1;simp[k13,k14,k15];obtain⟨y6,y12,y13,y22,b6,b12,b13,b22,f1,f2,p6,p12,p13,p22⟩:=hx0.stp;obtain⟨rfl,rfl,rfl,rfl⟩:x6=y6/\x12=y12/\x13=y13/\x22=y22:=by simpa[stpC] using f1
   have hnd0:=hd.1;rw[f2] at hd0 hk0 hnd0;have hoF:Ow ((h.setBox (h.ep,48) (stpC x x6 x12 x13 x22)).next) FkSh [.d (.str x.fk.table),x22,.d (.str x.fk.ref)] x.fk.enc b22:=by
    have:=Ow.data (c:=.d (.str x.fk.table)) (x:=.str x.fk.table) rfl (p22.join (.data (c:=.d (.str x.fk.ref)) (x:=.str x.fk.ref) rfl .nil))
    simp only[Y0k] at this;exact this
   have hndb:b22.Nodup:=by
    simp only[Y0e] at hnd0;exact hnd0.2.1.2.1.2.1
   have hdb:∀ k ∈ b22,k.1 < ((h.setBox (h.ep,48) (stpC x x6 x12 x13 x22)).next).ep/\k ∉ l::(ta++(fa++oa)):=fun k hk=>hd0 k (by simp[hk]);have hk2:=hk0.sub (ls':=ta++(fa++oa)++b22) (fun k hk=>by simp only[Y02] at hk |-;exact hk.imp_right fun h=>.inr (.inr (.inr h)));clear hk0 hk1 hx0 hd0;generalize hHX:(h.setBox (h.ep,48) (stpC x x6 x12 x13 x22)).next=HX at *;refine Wait.cut (Plan.then_ [0,1,2,3,4,5,6,7,8,9,10,11] .done) follows (by kernel_rfl) (fun e h'=>e.n=120/\∃ fc' fa',Sc h' l { S with fks:=S.fks++[x.fk] } tc fc' oc ta fa' oa/\Same HX h' (l::fa)/\∀ k ∈ fa',k ∈ fa\/k ∈ b22\/HX.ep<=k.1) ?_ ?_
   .simp[hb0,bx3,e21];refine bld_ow (x:=[.d (.str x.fk.table),x22,.d (.str x.fk.ref)]) (by simp[toDs];cases x22.toD<;>rfl) (by simp) (fun d hd2=>?_) (fun hd2=>?_)
    .obtain⟨rfl,hT2⟩:=hoF.ofD hd2;have hz:Same HX ((HX.setArr (HX.ep,16 * 37) (some (1,3))).next) []:=Same.refl.setArr.next;simp only[Nat.reduceMul] at hz;have s1:=s0.frame hz;obtain⟨ys,my,hly,add⟩:=s1.addF;simp;refine app_mr (by simp;exact⟨rfl,rfl⟩) (by simp) (by simp) (by simp) my (RowAt.own1 (by simp)) (by rw[hly];exact hlim) (fun c' h' hm' hs6 hl6=>?_);have hbl:=s1.keep hs6 fun k hk=>.inr (.inl (s1.hlabs.2.1 k hk));obtain⟨fa',s6,hfa'⟩:=add h' c' _ _ [] hm' hs6 hl6 (hT2 h') Y2k (by simp) x.fk rfl;have hepz:=hz.1;simp[hbl];exact CutK.of ⟨by simp,c',fa',s6,((hz.mono (by simp)).trans (hs6.mono fun k hk=>Y0c _ (s1.hlabs.2.1 k hk))).setBox (.inl (by simp)),fun k hk=>(hfa' k hk).imp_right fun h9=>.inr (by rcases h9 with h9 | h9;simp at h9;omega)⟩
    .have hz:Same HX ((HX.setBox (HX.ep,16 * 37) [.d (.str x.fk.table),x22,.d (.str x.fk.ref)]).next) []:=(Same.refl.setBox (.inr (Y09 _))).next;simp only[Nat.reduceMul] at hz;have s1:=s0.frame hz;obtain⟨ys,my,hly,add⟩:=s1.addF;simp;refine app_mr (by simp;exact⟨rfl,rfl⟩) (by simp) (by simp) (by simp) my (RowAt.new1 (x:=[.d (.str x.fk.table),x22,.d (.str x.fk.ref)]) (by simp) (by simp)) (by rw[hly];exact hlim) (fun c' h' hm' hs6 hl6=>?_);have hbl:=s1.keep hs6 fun k hk=>.inr (.inl (s1.hlabs.2.1 k hk));have hepz:=hz.1;have hep6:=hs6.1;obtain⟨fa',s6,hfa'⟩:=add h' c' _ _ b22 hm' hs6 hl6 (hoF.frame fun k hk=>by
      have h9:=hdb k hk;simp only[Y08,Y02,not_or] at h9;rw[hs6.2 k (by omega) fun h8=>h9.2.2.2.1 (s1.hlabs.2.1 k h8)];exact hz.2 k h9.1 (by simp)) hndb (fun k hk=>by
      have h9:=hdb k hk;refine⟨by omega,h9.2,fun h8=>?_⟩;simp only[Y08,Y02,not_or] at h9;rcases hl6 k h8 with h7 | h7
      .exact h9.2.2.2.1 (s1.hlabs.2.1 k h7)
      .omega) x.fk rfl
     simp[hbl];exact CutK.of ⟨by simp,c',fa',s6,((hz.mono (by simp)).trans (hs6.mono fun k hk=>Y0c _ (s1.hlabs.2.1 k hk))).setBox (.inl (by simp)),fun k hk=>(hfa' k hk).imp_right fun h9=>h9.imp_right fun h8=>by omega⟩
   .rintro e h' ⟨hn,fc',fa',s6,hs6,hfa'⟩;simp[hn];refine hk2 _ _ s6.ows (hs6.mono fun k hk=>by simp only[Y08,Y02] at hk |-;exact hk.imp_right fun h=>.inl (.inr (.inl h))) fun k hk=>?_;simp only[Y02] at hk |-;rcases hk with hk | hk | hk
    .exact .inl (.inl (.inl hk))
    .rcases hfa' k hk with h9 | h9 | h9
     .exact .inl (.inl (.inr (.inl h9)))
     .exact .inl (.inr h9)
     .exact .inr h9
    .exact .inl (.inl (.inr (.inr hk)))
 | false=>
 simp only[k15,cond_false] at hm;cases k16:x.kind == 16 with
 | true=>
   simp only[k16,cond_true] at hm;simp[k13,k14,k15,k16,e21];refine Z00 (Z7w _ l _ S S' x.fk [.d (.str x.fk.table),x22,.d (.str x.fk.ref)] r hm s0.ows (fun h' hs'=>?_) _ (hk1.to fun h' hK=>?_))
   .have:=(hx0.frame (h':=h') fun k hk=>hs'.2 k (hd0 k hk).1 (by simp)).stp
    obtain⟨y6,y12,y13,y22,b6,b12,b13,b22,f1,f2,p6,p12,p13,p22⟩:=this;obtain⟨rfl,rfl,rfl,rfl⟩:x6=y6/\x12=y12/\x13=y13/\x22=y22:=by simpa[stpC] using f1
    exact⟨.data rfl,p22.nfrz,.data rfl,trivial⟩
   .simp;exact hK
 | false=>
 simp only[k16,cond_false] at hm;cases k10:x.kind == 10 with
 | true=>
   simp only[k10,cond_true] at hm;simp[k13,k14,k15,k16,k10,e11];obtain⟨y6,y12,y13,y22,b6,b12,b13,b22,f1,f2,p6,p12,p13,p22⟩:=hx0.stp;obtain⟨rfl,rfl,rfl,rfl⟩:x6=y6/\x12=y12/\x13=y13/\x22=y22:=by simpa[stpC] using f1
   have hnd0:=hd.1;rw[f2] at hd0 hk0 hnd0;refine Z00 (Z8q _ l tc fc oc ta fa oa (b12++(b13++[])) S S' x.newTable r _ hm s0 (.data (c:=.d (.str x.newTable.name)) (x:=.str x.newTable.name) rfl (p12.join (p13.join .nil))) ⟨?_,fun k hk=>?_⟩ _ ((hk0.sub fun k hk=>?_).to fun h' hK=>?_))
   .simp only[Y0e,Y0k,Y02] at hnd0 |-;exact⟨hnd0.2.1.1,hnd0.2.1.2.1.1,fun a ha b hb=>hnd0.2.1.2.2 a ha b (.inl hb)⟩
   .exact hd0 k (by simp only[Y0k,Y02] at hk |-;exact .inr (hk.imp_right .inl))
   .simp only[Y0k,Y02] at hk |-;exact hk.imp_right fun h=>.inr (h.imp_right .inl)
   .simp;exact hK
 | false=>
 simp only[k10,cond_false] at hm;replace hm:=hm.bind;obtain⟨v,hv,hm⟩:=hm;obtain⟨n,hn1⟩:∃ n:Nat,v.1=n:=⟨v.1.toNat,by have:=Zhb hv;omega⟩;simp[k13,k14,k15,k16,k10];have hepX:h.ep < ((h.setBox (h.ep,48) (stpC x x6 x12 x13 x22)).next).ep:=by simp
 generalize hHX:(h.setBox (h.ep,48) (stpC x x6 x12 x13 x22)).next=HX at *;refine Wait.cut (Plan.then_ [0,1,2,3,4,5,6,7,8,9,10] .done) follows (by kernel_rfl) (fun e h'=>e.n=120/\e.get 0=.one (.ptr l 0)/\e.get 3=.one (.ptr (h.ep,48) 0)/\e.get 5=.one (.d (.int .i64 v.1))/\e.get 6=.one (.d (.bool v.2))/\h'=HX.next) ?_ ?_
 .simp[hb0,bx3,e1'];refine Z00 (HSpec.of_lend (c_schema_FindTable S x.table v hv) ⟨.agg s0.frz,.one (.frz (.data rfl)),trivial⟩ rfl ?_);simp;exact⟨fun _ _ x=>x,CutK.of (by simp)⟩
 .rintro e h' ⟨hn,h0,h3,h5,h6,rfl⟩;have hs1:Same HX HX.next []:=Same.refl.next;have s1:=s0.frame hs1;have bx31:HX.next.box (h.ep,48)=some (stpC x x6 x12 x13 x22):=bx3;have hx1:=hx0.frame (h':=HX.next) fun k hk=>hs1.2 k (hd0 k hk).1 (by simp);have hd1:∀ k ∈ a6++(a12++(a13++a22)),k.1 < HX.next.ep/\k ∉ l::(ta++(fa++oa)):=fun k hk=>⟨by have:=(hd0 k hk).1;simp<;>omega,(hd0 k hk).2⟩;have hk2:=hk1.after hs1;rw[hn1] at h5;have hvn:v.1.toNat=n:=by omega
  rw[hvn] at hm;simp[hn,h6];cases hv2:v.2 with
  | false=>
    rw[hv2] at hm;have e1:=r_ret hm;simp only[Y07] at e1;obtain⟨rfl,rfl⟩:=e1;simp[hn];exact hk2 _ _ s1.ows .refl (fun k hk=>.inl hk)
  | true=>
  simp only[hv2,Y1v,cond_false] at hm;simp at bx31;simp[hn,h3,bx31,e0];cases k4:x.kind == 4 with
  | true=>
    simp only[k4,cond_true] at hm;simp[k4,hn,h0,h3,h5,bx31,e4];refine Z00 (Z8o _ l tc fc oc ta fa oa S S' n x.newName r hm s1 _ (hk2.to fun h' hK=>?_));simp[hn];exact hK
  | false=>
  simp only[k4,cond_false] at hm;cases k6:x.kind == 6 with
  | true=>
    simp only[k6,cond_true] at hm;simp[k4,k6,hn,h0,h3,h5,bx31,e24];refine Z00 (Z8z _ l tc fc oc _ ta fa oa _ S S' n x r hm s1 hx1 hd1 _ (hk2.to fun h' hK=>?_));simp[hn];exact hK
  | false=>
  simp only[k6,cond_false] at hm;cases k7:x.kind == 7 with
  | true=>
    simp only[k7,cond_true] at hm;simp[k4,k6,k7,hn,h0,h3,h5,bx31,e2];refine Z00 (Z90 _ l tc fc oc ta fa oa S S' n x.other r hm s1 _ (hk2.to fun h' hK=>?_));simp[hn];exact hK
  | false=>
  simp only[k7,cond_false] at hm;cases k8:x.kind == 8 with
  | true=>
    simp only[k8,cond_true] at hm;simp[k4,k6,k7,k8,hn,h0,h3,h5,bx31,e24];refine Z00 (Z7v _ l tc fc oc x6 x12 x13 x22 ta fa oa S S' n x r hm s1 _ (hk2.to fun h' hK=>?_));simp[hn];exact hK
  | false=>
  simp only[k8,cond_false] at hm;cases k9:x.kind == 9 with
  | true=>
    simp only[k9,cond_true] at hm;simp[k4,k6,k7,k8,k9,hn,h0,h3,h5,bx31,e24];refine Z00 (Z8p _ l tc fc oc x6 x12 x13 x22 ta fa oa S S' n x r hm s1 _ (hk2.to fun h' hK=>?_));simp[hn];exact hK
  | false=>
  simp only[k9,cond_false] at hm;cases k11:x.kind == 11 with
  | true=>
    simp only[k11,cond_true] at hm;simp[k4,k6,k7,k8,k9,k11,hn,h0,h3,h5,bx31,e1,e1'];refine Z00 (Z9k _ l _ S S' x.table r hm s1.ows _ (hk2.to fun h' hK=>?_));simp[hn];exact hK
  | false=>
  simp only[k11,cond_false] at hm;cases k12:x.kind == 12 with
  | true=>
    simp only[k12,cond_true] at hm;simp[k4,k6,k7,k8,k9,k11,k12,hn,h0,h3,h5,bx31,e24];refine Z00 (Z88 _ l tc fc oc _ ta fa oa _ S S' n x r hm s1 hx1 hd1 _ (hk2.to fun h' hK=>?_));simp[hn];exact hK
  | false=>
  simp only[k12,cond_false] at hm;cases k1:x.kind == 1 with
  | true=>
    simp only[k1,cond_true] at hm;simp[k4,k6,k7,k8,k9,k11,k12,k1,hn,h0,h3,h5,bx31,e24];refine Z00 (Z9l _ l tc fc oc x6 x12 x13 x22 ta fa oa S S' n x r hm s1 _ (hk2.to fun h' hK=>?_));simp[hn];exact hK
  | false=>
  simp only[k1,cond_false] at hm;simp[k4,k6,k7,k8,k9,k11,k12,k1,hn,h0,h3,h5,bx31,e24];refine Z00 (Z8r _ l tc fc oc x6 x12 x13 x22 ta fa oa S S' n x r hm s1 _ (hk2.to fun h' hK=>?_));simp[hn];exact hK
end
section
open Go.Am
def Z4i (a:Tbl) (b:Tbl):Option Bool:=
 (bif strEq a.name b.name then (bindK (Z25 a.cols b.cols) fun v4=>(bif v4 then (bindK (Z1g a.pk b.pk) fun v6=>(some v6)) else (some false))) else (some false))
instance c_schema_equalTables (a:Tbl) (b:Tbl):Con (Z4i a b) prog 199 [.agg a.enc,.agg b.enc] (fun r=>.one (.d (.bool r))):=by
 unfold Z4i;exact go 24 Tryz.func199 rfl (by kernel_rfl) rfl rfl (by simp)
def Z3i (a:Tbl) (b:Tbl):Option Bool:=
 (bindK (Z4i a b) fun v3=>(some v3))
instance c_schema_EqualTables (a:Tbl) (b:Tbl):Con (Z3i a b) prog 156 [.agg a.enc,.agg b.enc] (fun r=>.one (.d (.bool r))):=by
 unfold Z3i;exact go 8 Tryz.func156 rfl (by kernel_rfl) rfl rfl (by simp)
def Z5e (a:Stp) (b:Stp):Option Bool:=
 (bif (a.kind == b.kind) then (bif strEq a.table b.table then (bif strEq a.other b.other then (bif strEq a.column b.column then (bif strEq a.newName b.newName then (bif (a.type == b.type) then (bindK (Z1g a.cols b.cols) fun v9=>(bif v9 then (bif strEq a.op b.op then (bif (a.value.kind == b.value.kind && (a.value.int == b.value.int && (a.value.text == b.value.text))) then (bindK (Z3i a.newTable b.newTable) fun v13=>(bif v13 then (bif (a.cons.table == b.cons.table && (a.cons.left == b.cons.left && (a.cons.op == b.cons.op && (a.cons.right == b.cons.right && (a.cons.value.kind == b.cons.value.kind && (a.cons.value.int == b.cons.value.int && (a.cons.value.text == b.cons.value.text))))))) then (bindK (Z0b a.fk b.fk) fun v16=>(some v16)) else (some false)) else (some false))) else (some false)) else (some false)) else (some false))) else (some false)) else (some false)) else (some false)) else (some false)) else (some false)) else (some false))
instance c_evolution_Equal (a:Stp) (b:Stp):Con (Z5e a b) prog 127 [.agg a.enc,.agg b.enc] (fun r=>.one (.d (.bool r))):=by
 unfold Z5e;exact go 87 Tryz.func127 rfl (by kernel_rfl) rfl rfl (by simp)
end
section
open Go Go.Am
def nzS (x:Stp):Stp:=⟨x.kind,x.table,empty,empty,empty,0,[],empty,⟨0,0,empty⟩,⟨empty,[],[]⟩,⟨empty,0,empty,0,⟨0,0,empty⟩⟩,⟨empty,[],empty⟩⟩
def Z2p (x:Stp):Option Stp:=
 bif x.kind == 1 then some { nzS x with column:=x.column,type:=x.type,value:=x.value } else
 bif x.kind == 2 then some { nzS x with column:=x.column,value:=x.value } else
 bif x.kind == 3 then some { nzS x with column:=x.column,newName:=x.newName } else
 bif x.kind == 4 then some { nzS x with newName:=x.newName } else
 bif x.kind == 5 then some { nzS x with column:=x.column,type:=x.type } else
 bif x.kind == 6 then some { nzS x with other:=x.other,cols:=x.cols } else
 bif x.kind == 7 then some { nzS x with other:=x.other } else
 bif x.kind == 8 then some { nzS x with other:=x.other,column:=x.column,op:=x.op,value:=x.value } else
 bif x.kind == 9 then some { nzS x with other:=x.other,column:=x.column } else
 bif x.kind == 10 then some { nzS x with table:=empty,newTable:=x.newTable } else
 bif x.kind == 12 then some { nzS x with column:=x.column,cols:=x.cols } else
 bif x.kind == 13 then some { nzS x with table:=empty,cons:=x.cons } else
 bif x.kind == 14 then some { nzS x with table:=empty,cons:=x.cons } else
 bif x.kind == 15 then some { nzS x with table:=empty,fk:=x.fk } else
 bif x.kind == 16 then some { nzS x with table:=empty,fk:=x.fk } else
 some (nzS x)
theorem Zeo {h:HS} {ren:Nat->Option Lab}:∀ {cs:List C} {ds:List D},toDs cs=some ds->RetCs h ren cs (ds.map RC.d)
 | [],ds,hd=>by simp[toDs] at hd;subst hd;trivial
 | c::cs,ds,hd=>by
   cases h1:c.toD<;>cases h2:toDs cs<;>simp[toDs,h1,h2] at hd;subst hd;exact⟨h1,Zeo h2⟩
theorem Zix:∀ {cs:List C} {ds:List D},toDs cs=some ds->cs.length=ds.length
 | [],ds,hd=>by simp[toDs] at hd;subst hd;rfl
 | c::cs,ds,hd=>by
   cases h1:c.toD<;>cases h2:toDs cs<;>simp[toDs,h1,h2] at hd;subst hd;simp[Zix h2]
theorem cutN {P:Program} {id:Nat} {ops:Array Oper} {Q:Exit->Env->HS->Prop} {e:Env} {h:HS} (n:Nat) (_:ops.size=n) (plan:Plan) (hm:P.follows .mixedOrders=true)
  (hB:planB .any ops plan ops.size (Array.replicate ops.size false)=true) (J:Env->HS->Prop) (h1:vcPlan P ops.toList (fun e h=>CutK (J:=⟨J⟩) e h) plan e h) (h2:∀ e h,J e h->Q .normal e h) :
  Wait P (c:=⟨.region id ops true⟩) (Q:=⟨Q⟩) e h:=Wait.cut plan hm hB J h1 h2
set_option maxHeartbeats 4000000 in
theorem Z92 (x:Stp) (r:Stp) (hm:Is (Z2p x) r):PSpec prog 128 [.agg x.enc] (.agg (r.enc.map RC.d)):=by
 unfold Z2p at hm;obtain⟨NX,hN⟩:∃ NX:Env->HS->Prop,NX=fun e h=>e.n=115/\e.get 2=.one (.ptr (1,32) 0)/\e.get 3=.one (.ptr (2,48) 0)/\(∃ cs,h.box (1,32)=some cs/\cs.length=24)/\∃ cs,h.box (2,48)=some cs/\toDs cs=some r.enc:=⟨_,rfl⟩;refine PSpec.of_vc Tryz.func128 rfl (by kernel_rfl) (n:=115) rfl rfl (by simp) ?_;simp
 repeat' (first
  | ((with_reducible refine r_cond hm ?_ ?_)<;>(clear hm;intro hc hm;simp[hc]))
  | (with_reducible have hr:=r_ret hm
     clear hm
     first
     | (subst hr
        exact ret0 (vs:=[_]) (by simp;exact rfl) (by simp[nzS,RetAll,RetV1,RetCs,RetC,C.toD,Stp.enc]))
     | (skip
        first
        | refine cutN 6 rfl (Plan.then_ [0,2] (.two 1 3 (Plan.then_ [3,4,5] .done) (Plan.then_ [1,4,5] .done))) follows (by kernel_rfl) NX ?_ ?_
        | refine cutN 8 rfl (Plan.then_ [0,1,2,4] (.two 3 5 (Plan.then_ [5,6,7] .done) (Plan.then_ [3,6,7] .done))) follows (by kernel_rfl) NX ?_ ?_
        | refine cutN 12 rfl (Plan.then_ [0,1,2,4,6] (.three 3 5 7 (Plan.then_ [] (.two 5 7 (Plan.then_ [7,8,9,10,11] .done) (Plan.then_ [8] (.two 5 9 (Plan.then_ [9,10,11] .done) (Plan.then_ [5,10,11] .done))))) (Plan.then_ [] (.two 3 7 (Plan.then_ [7,8,9,10,11] .done) (Plan.then_ [3,8,9,10,11] .done))) (Plan.then_ [3,8] (.two 5 9 (Plan.then_ [9,10,11] .done) (Plan.then_ [5,10,11] .done))))) follows (by kernel_rfl) NX ?_ ?_
        | refine cutN 16 rfl (Plan.then_ [0,1,2,4,6,8] (.four 3 5 7 9 (Plan.then_ [] (.three 5 7 9 (Plan.then_ [] (.two 7 9 (Plan.then_ [9,10,11,12,13,14,15] .done) (Plan.then_ [10] (.two 7 11 (Plan.then_ [11,12,13,14,15] .done) (Plan.then_ [12] (.two 7 13 (Plan.then_ [13,14,15] .done) (Plan.then_ [7,14,15] .done))))))) (Plan.then_ [] (.two 5 9 (Plan.then_ [9,10,11,12,13,14,15] .done) (Plan.then_ [10] (.two 5 11 (Plan.then_ [11,12,13,14,15] .done) (Plan.then_ [5,12,13,14,15] .done))))) (Plan.then_ [10] (.three 5 7 11 (Plan.then_ [] (.two 7 11 (Plan.then_ [11,12,13,14,15] .done) (Plan.then_ [12] (.two 7 13 (Plan.then_ [13,14,15] .done) (Plan.then_ [7,14,15] .done))))) (Plan.then_ [] (.two 5 11 (Plan.then_ [11,12,13,14,15] .done) (Plan.then_ [5,12,13,14,15] .done))) (Plan.then_ [5,12] (.two 7 13 (Plan.then_ [13,14,15] .done) (Plan.then_ [7,14,15] .done))))))) (Plan.then_ [] (.three 3 7 9 (Plan.then_ [] (.two 7 9 (Plan.then_ [9,10,11,12,13,14,15] .done) (Plan.then_ [10] (.two 7 11 (Plan.then_ [11,12,13,14,15] .done) (Plan.then_ [12] (.two 7 13 (Plan.then_ [13,14,15] .done) (Plan.then_ [7,14,15] .done))))))) (Plan.then_ [] (.two 3 9 (Plan.then_ [9,10,11,12,13,14,15] .done) (Plan.then_ [3,10,11,12,13,14,15] .done))) (Plan.then_ [3,10] (.two 7 11 (Plan.then_ [11,12,13,14,15] .done) (Plan.then_ [12] (.two 7 13 (Plan.then_ [13,14,15] .done) (Plan.then_ [7,14,15] .done))))))) (Plan.then_ [] (.three 3 5 9 (Plan.then_ [] (.two 5 9 (Plan.then_ [9,10,11,12,13,14,15] .done) (Plan.then_ [10] (.two 5 11 (Plan.then_ [11,12,13,14,15] .done) (Plan.then_ [5,12,13,14,15] .done))))) (Plan.then_ [] (.two 3 9 (Plan.then_ [9,10,11,12,13,14,15] .done) (Plan.then_ [3,10,11,12,13,14,15] .done))) (Plan.then_ [3,10] (.two 5 11 (Plan.then_ [11,12,13,14,15] .done) (Plan.then_ [5,12,13,14,15] .done))))) (Plan.then_ [3,10] (.three 5 7 11 (Plan.then_ [] (.two 7 11 (Plan.then_ [11,12,13,14,15] .done) (Plan.then_ [12] (.two 7 13 (Plan.then_ [13,14,15] .done) (Plan.then_ [7,14,15] .done))))) (Plan.then_ [] (.two 5 11 (Plan.then_ [11,12,13,14,15] .done) (Plan.then_ [5,12,13,14,15] .done))) (Plan.then_ [5,12] (.two 7 13 (Plan.then_ [13,14,15] .done) (Plan.then_ [7,14,15] .done))))))) follows (by kernel_rfl) NX ?_ ?_
        .simp
         repeat' (first | with_reducible refine And.intro ?_ ?_ | (refine CutK.of ?_;rw[hN];exact⟨by simp,by simp,by simp,⟨_,by simp;rfl,rfl⟩,_,by simp;rfl,by rw[<- hr];simp[nzS,toDs,C.toD,Stp.enc]⟩))
        .intro e5 h5 hq;rw[hN] at hq;obtain⟨hn,h2,h3,⟨zs,hz,hzl⟩,cs,hb,hcs⟩:=hq;have hl:=Zix hcs;have hT:takeN 24 cs=some cs:=by rw[takeN,if_pos (by simp[hl,Stp.enc]),Y0l (by simp[hl,Stp.enc])]
         simp[hn,h2,h3,hz,hb,hT,hzl];have hq:Z01 zs 0 cs=cs:=by simp[Z01,hl,hzl,Stp.enc]
         exact⟨by simp[hl,Stp.enc],ret0 (vs:=[.agg cs]) (by simp[hn,h2,hq,hT]) (Zeo hcs)⟩)))
end
section
open Go.Am
instance i_evolution_normalized (step:Stp):Con (Z2p step) prog 128 [.agg step.enc] (fun r=>.agg (r.enc.map RC.d)):=⟨fun r hm=>Z92 step r hm⟩
def Z3j (step:Stp):Option Int:=
 (bif decide (step.kind < 1) then (some 3) else (bif decide (16 < step.kind) then (some 3) else (bindK (Z2p step) fun v4=>(bindK (Z5e step v4) fun v5=>(bif !v5 then (some 3) else (some 0))))))
instance c_evolution_Validate (step:Stp):Con (Z3j step) prog 120 [.agg step.enc] (fun r=>.one (.d (.int .i64 r))):=by
 unfold Z3j;have p1:PH [1] (Plan.then_ [0,1,2,3,4,5,6,7,8,9,10,11,12,13,14] .done):=.intro;exact go 18 Tryz.func120 rfl (by kernel_rfl) rfl rfl (by simp)
end
section
open Go Go.Am
def schZ:Sch:=⟨[],[],[]⟩
def Z0f (S:Sch) (x:Stp):Option (Sch × Int):=
 bindK (Z0n S) fun e=>bif e != 0 then some (schZ,e) else bindK (Z3j x) fun e2=>bif e2 != 0 then some (schZ,e2) else
 chkK (schOK S/\stpOK x) (bindK (Z4o S x) fun q=>bif q.2 != 0 then some (schZ,q.2) else bindK (Z0n q.1) fun e3=>bif e3 != 0 then some (schZ,e3) else some (q.1,0))
theorem Zdp {h:HS} {cs:List C} {S:Sch} {r:Int} (hf:FrzCs h cs S.enc):FrzFin h (.tup [.agg cs,.one (.d (.int .i64 r))]) (.tup [.agg (S.enc.map RC.d),.one (.d (.int .i64 r))]):=by
 match cs,hf with
 | [a,b,c],hf=>exact⟨⟨hf.1,hf.2.1,hf.2.2.1,trivial⟩,Frz.data rfl,trivial⟩
set_option maxHeartbeats 1000000 in
theorem Z5j (S:Sch) (x:Stp) (r:Sch × Int) (hm:Is (Z0f S x) r):PSpec prog 107 [.agg S.enc,.agg x.enc] (.tup [.agg (r.1.enc.map RC.d),.one (.d (.int .i64 r.2))]):=by
 refine PSpec.of_heap ?_;obtain⟨R,q⟩:=r;simp only at hm |-;replace hm:=hm.bind;obtain⟨ev,hev,hm⟩:=hm;show HSpec _ _ [.agg (S.enc.map C.d),.agg (x.enc.map C.d)] HS.init _;refine HSpec.good Tryz.func107 rfl (by kernel_rfl) fun hg=>?_;refine HSpec.of_vc Tryz.func107 rfl (by kernel_rfl) (n:=39) rfl rfl (by simp) ?_;simp;refine Z00 (HSpec.of_lend (c_schema_Validate S ev hev) ⟨.agg (FrzCs.datas (ds:=S.enc)),trivial⟩ rfl ?_);simp;cases hev0:ev != 0 with
 | true=>
   simp only[hev0,cond_true] at hm;have e1:=r_ret hm;simp only[Y07] at e1;obtain⟨rfl,rfl⟩:=e1;simp[hev0,retH,resVs,resV,notTup];exact Zdp ⟨.data rfl,.data rfl,.data rfl,trivial⟩
 | false=>
   simp only[hev0,cond_false] at hm;replace hm:=hm.bind;obtain⟨e2,he2,hm⟩:=hm;simp[hev0];refine Z00 (HSpec.of_lend (c_evolution_Validate x e2 he2) ⟨.agg (FrzCs.datas (ds:=x.enc)),trivial⟩ rfl ?_);simp;cases he20:e2 != 0 with
   | true=>
     simp only[he20,cond_true] at hm;have e1:=r_ret hm;simp only[Y07] at e1;obtain⟨rfl,rfl⟩:=e1;simp[he20,retH,resVs,resV,notTup];exact Zdp ⟨.data rfl,.data rfl,.data rfl,trivial⟩
   | false=>
     simp only[he20,cond_false] at hm;replace hm:=hm.chk;obtain⟨⟨hS,hx⟩,hm⟩:=hm;replace hm:=hm.bind;obtain⟨⟨S1,q1⟩,hm1,hm⟩:=hm;simp only at hm;simp[he20];refine Z00 (Zea _ S hS _ (fun tc fc oc qt qf qo g1 pt pf po nd new hs1=>?_));have b4:=hs1.2 (2,64) (by simp) (by simp);have b3:=hs1.2 (1,48) (by simp) (by simp);have hep1:=hs1.1;simp at b4 b3 hep1;simp[b3];have hz:Same g1 ((g1.setBox (g1.ep,128) [.nil,.nil,.nil]).next.setBox (g1.ep,128) [tc,fc,oc]) []:=((Same.refl.setBox (.inr (Y09 _))).next).setBox (.inr (Y09 _));have sB:Sc ((g1.setBox (g1.ep,128) [.nil,.nil,.nil]).next.setBox (g1.ep,128) [tc,fc,oc]) (g1.ep,128) S tc fc oc (plabs tc qt) (plabs fc qf) (plabs oc qo):=by
      refine⟨qt,qf,qo,rfl,rfl,rfl,by simp,pt.frame fun k hk=>hz.2 k (new k (by simp[hk])).2 (by simp),pf.frame fun k hk=>hz.2 k (new k (by simp[hk])).2 (by simp),po.frame fun k hk=>hz.2 k (new k (by simp[hk])).2 (by simp),?_,fun k hk=>?_⟩
      .rw[Y1z];exact⟨fun hk=>by have:=(new _ hk).2;simp at this,nd⟩
      .rcases Y08.1 hk with rfl | hk
       .simp
       .have:=(new k hk).2;simp<;>omega
     have b4B:((g1.setBox (g1.ep,128) [.nil,.nil,.nil]).next.setBox (g1.ep,128) [tc,fc,oc]).box (2,64)=some [.nil,.nil,.nil]:=by simp[b4]
     have hepB:g1.ep < ((g1.setBox (g1.ep,128) [.nil,.nil,.nil]).next.setBox (g1.ep,128) [tc,fc,oc]).ep:=by simp
     have newB:∀ k ∈ (g1.ep,128)::(plabs tc qt++(plabs fc qf++plabs oc qo)),5<=k.1:=fun k hk=>by
      rcases Y08.1 hk with rfl | hk
      .exact hep1
      .have:=(new k hk).1;simpa using this
     refine Z00 (Zby _ x hx _ (fun cs g2 lx ox ndx nwx hs2 hb2=>?_));have s2:=sB.frame hs2;have b42:g2.box (2,64)=some [.nil,.nil,.nil]:=by rw[hs2.2 _ (by simp<;>omega) (by simp)];exact b4B
     simp;refine Z00 (Zbx g2 (g1.ep,128) tc fc oc cs _ _ _ lx S S1 x q1 hm1 s2 ox ⟨ndx,fun k hk=>⟨(nwx k hk).2,fun h9=>by have:=sB.lt k h9;have:=(nwx k hk).1;omega⟩⟩ _ ?_);intro g3 ls3 ho3 hs3 hl3;obtain⟨tc3,fc3,oc3,ta3,fa3,oa3,rfl,s3⟩:=ho3.sc;have b43:g3.box (2,64)=some [.nil,.nil,.nil]:=by
      rw[hs3.2 _ (by have:=hs2.1;simp at this |-;omega) fun h9=>?_]
      .exact b42
      .simp only[Y08,Y02] at h9;rcases h9 with h9 | h9 | h9
       .simp at h9
       .have:=newB (2,64) (by simp only[Y08,Y02];exact .inr h9);simp at this
       .have:=(nwx _ h9).1;simp at this;omega
     have hb3:=s3.box;simp;cases hq0:q1 != 0 with
     | true=>
       simp only[hq0,cond_true] at hm;have e1:=r_ret hm;simp only[Y07] at e1;obtain⟨rfl,rfl⟩:=e1;simp[hq0,b43,retH,resVs,resV,notTup];exact Zdp ⟨.data rfl,.data rfl,.data rfl,trivial⟩
     | false=>
       simp only[hq0,cond_false] at hm;replace hm:=hm.bind;obtain⟨e3,he3,hm⟩:=hm;simp[hq0,hb3];refine Z00 (HSpec.of_lend (c_schema_Validate S1 e3 he3) ⟨.agg s3.frz,trivial⟩ rfl ?_);simp;cases he30:e3 != 0 with
       | true=>
         simp only[he30,cond_true] at hm;have e1:=r_ret hm;simp only[Y07] at e1;obtain⟨rfl,rfl⟩:=e1;simp[he30,b43,retH,resVs,resV,notTup];exact Zdp ⟨.data rfl,.data rfl,.data rfl,trivial⟩
       | false=>
         simp only[he30,cond_false] at hm;have e1:=r_ret hm;simp only[Y07] at e1;obtain⟨rfl,rfl⟩:=e1;simp[he30,b43,hb3,retH,resVs,resV,notTup];refine Zdp ((s3.frame2 (lz:=[(2,64)]) (Same.refl.next.setBox (.inl (by simp))) fun k hk h9=>?_).frz);simp at hk;subst hk;simp only[Y08] at h9;rcases h9 with h9 | h9
         .simp at h9
         .rcases hl3 _ h9 with h8 | h8
          .rcases Y02.1 h8 with h8 | h8
           .have:=newB (2,64) (Y0c _ h8);simp at this
           .have:=(nwx _ h8).1;simp at this;omega
          .have:=hs2.1;simp at this h8;omega
end
section
open Go.Am
def Z5v (s_:List Cons):Option (List Cons):=some s_
theorem Z89 (s_:List Cons) (r:List Cons) (hm:Is (Z5v s_) r):PSpec prog 84 [.one (.d (.sl (s_.map Cons.enc)))] (.one (.fresh 0 7 (r.map Cons.enc))):=by
 obtain rfl:=r_ret hm;refine bound1 ⟨_,Tryz.func84,by kernel_rfl,by kernel_rfl⟩ (fun hl=>?_);have hxs:∀ x ∈ s_.map Cons.enc,x.length=7:=by
  intro x hx;obtain⟨y,_,rfl⟩:=Y0m.1 hx;rfl
 generalize s_.map Cons.enc=xs at *;refine PSpec.of_vc Tryz.func84 rfl (by kernel_rfl) (n:=8) rfl rfl (by simp) ?_;simp;refine Z9d Zac rfl (xs:=xs) rfl (fun b hb=>?_);cases b with
 | true=>
   have:xs=[]:=Classical.byContradiction fun h=>by simpa using hb h
   subst this;simp;exact Z4u (by simpa using GrowsV.nil)
 | false=>
   simp;refine Z7g (by simp) ?_;simp;refine Z8b Zac (Grows.own (by simp) (by simp) (by simp)) rfl (by decide) (by decide) hxs (by simpa using hl) ?_;simp;exact Z4u (by simpa using GrowsV.app (by simp) (by simp) hxs rfl)
def Z58 (s_:List Col):Option (List Col):=some s_
theorem Z9q (s_:List Col) (r:List Col) (hm:Is (Z58 s_) r):PSpec prog 109 [.one (.d (.sl (s_.map Col.enc)))] (.one (.fresh 0 3 (r.map Col.enc))):=by
 obtain rfl:=r_ret hm;refine bound1 ⟨_,Tryz.func109,by kernel_rfl,by kernel_rfl⟩ (fun hl=>?_);have hxs:∀ x ∈ s_.map Col.enc,x.length=3:=by
  intro x hx;obtain⟨y,_,rfl⟩:=Y0m.1 hx;rfl
 generalize s_.map Col.enc=xs at *;refine PSpec.of_vc Tryz.func109 rfl (by kernel_rfl) (n:=8) rfl rfl (by simp) ?_;simp;refine Z9d Z97 rfl (xs:=xs) rfl (fun b hb=>?_);cases b with
 | true=>
   have:xs=[]:=Classical.byContradiction fun h=>by simpa using hb h
   subst this;simp;exact Z4u (by simpa using GrowsV.nil)
 | false=>
   simp;refine Z7g (by simp) ?_;simp;refine Z8b Z97 (Grows.own (by simp) (by simp) (by simp)) rfl (by decide) (by decide) hxs (by simpa using hl) ?_;simp;exact Z4u (by simpa using GrowsV.app (by simp) (by simp) hxs rfl)
instance i_slices_Clone_Column (s_:List Col):Con (Z58 s_) prog 109 [.one (.d (.sl (s_.map Col.enc)))] (fun r=>.one (.fresh 0 3 (r.map Col.enc))):=⟨fun r hm=>Z9q s_ r hm⟩
def Z3a (s_:List Int):Option (List Int):=some s_
theorem Z82 (s_:List Int) (r:List Int) (hm:Is (Z3a s_) r):PSpec prog 86 [.one (.d (.sl (s_.map encI)))] (.one (.fresh 0 1 (r.map encI))):=by
 obtain rfl:=r_ret hm;refine bound1 ⟨_,Tryz.func86,by kernel_rfl,by kernel_rfl⟩ (fun hl=>?_);have hxs:∀ x ∈ s_.map encI,x.length=1:=by
  intro x hx;obtain⟨y,_,rfl⟩:=Y0m.1 hx;rfl
 generalize s_.map encI=xs at *;refine PSpec.of_vc Tryz.func86 rfl (by kernel_rfl) (n:=8) rfl rfl (by simp) ?_;simp;refine Z9d Z96 rfl (xs:=xs) rfl (fun b hb=>?_);cases b with
 | true=>
   have:xs=[]:=Classical.byContradiction fun h=>by simpa using hb h
   subst this;simp;exact Z4u (by simpa using GrowsV.nil)
 | false=>
   simp;refine Z7g (by simp) ?_;simp;refine Z8b Z96 (Grows.own (by simp) (by simp) (by simp)) rfl (by decide) (by decide) hxs (by simpa using hl) ?_;simp;exact Z4u (by simpa using GrowsV.app (by simp) (by simp) hxs rfl)
instance i_slices_Clone_Int (s_:List Int):Con (Z3a s_) prog 86 [.one (.d (.sl (s_.map encI)))] (fun r=>.one (.fresh 0 1 (r.map encI))):=⟨fun r hm=>Z82 s_ r hm⟩
def Z21 (t:Tbl):Option Tbl:=
 (bindK (Z58 t.cols) fun v3=>(bindK (Z3a t.pk) fun v4=>(some (Tbl.mk t.name v3 v4))))
instance c_schema_CloneTable (t:Tbl):Con (Z21 t) prog 85 [.agg t.enc] (fun r=>.agg (r.enc.map RC.d)):=by
 unfold Z21;have p1:PH [1] (Plan.then_ [0,1,2,3,5,6,4,7,8,9] .done):=.intro;exact go 12 Tryz.func85 rfl (by kernel_rfl) rfl rfl (by simp)
def Z15 (s_:Sch):Option Sch:=
 (bindK (Z5v s_.cons) fun v3=>(forK (fun (i6:Nat) (x6:Tbl) (s6:(List Tbl)) next_6=>(bindK (Z21 x6) fun v8=>(appK2 s6 [v8] fun _=>(next_6 (s6++[v8]))))) (fun (s6:(List Tbl))=>(forK (fun (i12:Nat) (x12:Fk) (s12:(List Fk)) next_12=>(bindK (Z3a x12.cols) fun v14=>(appK2 s12 [(Fk.mk x12.table v14 x12.ref)] fun _=>(next_12 (s12++[(Fk.mk x12.table v14 x12.ref)]))))) (fun (s12:(List Fk))=>(some (Sch.mk s6 s12 v3))) s_.fks 0 [])) s_.tables 0 []))
theorem Z5x (s_:Sch) (r:Sch) (hm:Is (Z15 s_) r):PSpec prog 49 [.agg s_.enc] (.agg (r.enc.map RC.d)):=by
 unfold Z15 at hm;refine PSpec.of_vc Tryz.func49 rfl (by kernel_rfl) (n:=46) rfl rfl (by simp) ?_
 try simp[*]
 refine r_call (av:=[.one (.d (.sl (s_.cons.map Cons.enc)))]) hm (fun v hv=>Z89 _ v hv) (by simp[*]) ?_;clear hm;intro v3 hvv3 hm
 try simp[*]
 intro hl5;replace hl5:s_.tables.length<=2097152:=by simpa using hl5
 refine Wait.for (xs:=s_.tables) (s0:=[]) (fun i6 s6 e6 h6=>∃ c6_0 c6_bb4_2:C,(e6.n=46/\e6.get 1=.one (.ptr (0,16) 0)/\e6.get 2=.one (.ptr (1,32) 0)/\e6.get 3=.one (.ptr (3,48) 0)/\e6.get 13=.one (.d (.sl (s_.tables.map Tbl.enc)))/\e6.get 14=.one (.d (.int .i64 (s_.tables.length:Int)))/\e6.get 15=.one (.d (.int .i64 (i6:Int)))/\h6.box (0,16)=some [.d (.sl (s_.tables.map Tbl.enc)),.d (.sl (s_.fks.map Fk.enc)),.d (.sl (s_.cons.map Cons.enc))]/\h6.box (1,32)=some [.nil,.nil,.nil]/\h6.box (3,48)=some [c6_0,.nil,c6_bb4_2]/\Grows h6 3 c6_0 (s6.map Tbl.enc)/\Grows h6 7 c6_bb4_2 (v3.map Cons.enc))/\Apart c6_0 c6_bb4_2) hm ⟨.nil,.own (2,161) (v3.map Cons.enc),by simp (maxDischargeDepth:=20) [*],(by simp)⟩ ?_ ?_
 .rintro i6 s6 e6 h6 ⟨c6_0,c6_bb4_2,⟨hn6,h6_1,h6_2,h6_3,h6_13,h6_14,h6_15,hb6_b1,hb6_b2,hb6_b4,gc6_0,gc6_bb4_2⟩,apc6_0_c6_bb4_2⟩ hlt6 hm;have hlc6_0:=gc6_0.list;have hdc6_0:=gc6_0.toD;have hac6_0:=gc6_0.toA;have huc6_0:=gc6_0.useUp_arr;have hlc6_bb4_2:=gc6_bb4_2.list;have hdc6_bb4_2:=gc6_bb4_2.toD;have hac6_bb4_2:=gc6_bb4_2.toA;have huc6_bb4_2:=gc6_bb4_2.useUp_arr;have hw6:IntKind.i64.wrap ((i6:Int)+1)=(i6:Int)+1:=Y0a _ (by omega)
  try simp[*]
  refine Wait.of (SWP.draw (Plan.then_ [0,1,2,3,4,5,6,7] .done) follows (by kernel_rfl) ?_)
  try simp[*]
  refine r_call (av:=[.agg (s_.tables[i6]).enc]) hm (fun v hv=>c_schema_CloneTable _ v hv) (by simp[*]) ?_;clear hm;intro v8 hvv8 hm
  try simp[*]
  try refine⟨fun (_:Lab) (_:List C) hl=>hl,?_⟩
  refine r_app (xs:=s6) (ys:=[v8]) (enc:=Tbl.enc) hm Zd6 (by first | exact Grows.nil | (simp (maxDischargeDepth:=20) [*];done) | (simp (maxDischargeDepth:=20) [*];refine⟨?_,by omega⟩;intro hq;subst hq;simp at hz2<;>omega)) (by simp[*]) (by decide) (by decide) (fun _=>rfl) ?_;clear hm;intro hl10 hm g9
  try simp[*]
  exact BackF.of (s6++[v8]) ⟨⟨.own (h6.ep+3,384) ((s6++[v8]).map Tbl.enc),c6_bb4_2,by simp (maxDischargeDepth:=20) [*],(by first | (simp[*];done) | exact gc6_bb4_2.apart (by simp))⟩,hm⟩
 .rintro s6 e6 h6 ⟨c6_0,c6_bb4_2,⟨hn6,h6_1,h6_2,h6_3,h6_13,h6_14,h6_15,hb6_b1,hb6_b2,hb6_b4,gc6_0,gc6_bb4_2⟩,apc6_0_c6_bb4_2⟩ hm;have hlc6_0:=gc6_0.list;have hdc6_0:=gc6_0.toD;have hac6_0:=gc6_0.toA;have huc6_0:=gc6_0.useUp_arr;have hlc6_bb4_2:=gc6_bb4_2.list;have hdc6_bb4_2:=gc6_bb4_2.toD;have hac6_bb4_2:=gc6_bb4_2.toA;have huc6_bb4_2:=gc6_bb4_2.useUp_arr
  try simp[*]
  intro hl11;replace hl11:s_.fks.length<=2097152:=by simpa using hl11
  refine Wait.for (xs:=s_.fks) (s0:=[]) (fun i12 s12 e12 h12=>∃ c12_bb4_0 c12_0 c12_bb4_2:C,(e12.n=46/\e12.get 2=.one (.ptr (1,32) 0)/\e12.get 3=.one (.ptr (3,48) 0)/\e12.get 28=.one (.d (.sl (s_.fks.map Fk.enc)))/\e12.get 29=.one (.d (.int .i64 (s_.fks.length:Int)))/\e12.get 30=.one (.d (.int .i64 (i12:Int)))/\h12.box (1,32)=some [.nil,.nil,.nil]/\h12.box (3,48)=some [c12_bb4_0,c12_0,c12_bb4_2]/\Grows h12 3 c12_bb4_0 (s6.map Tbl.enc)/\Grows h12 3 c12_0 (s12.map Fk.enc)/\Grows h12 7 c12_bb4_2 (v3.map Cons.enc))/\Apart c12_bb4_0 c12_0/\Apart c12_bb4_0 c12_bb4_2/\Apart c12_0 c12_bb4_2) hm ⟨c6_0,.nil,c6_bb4_2,by simp (maxDischargeDepth:=20) [*],(by simp),(by first | assumption | exact Apart.symm (by assumption)),(by simp)⟩ ?_ ?_
  .rintro i12 s12 e12 h12 ⟨c12_bb4_0,c12_0,c12_bb4_2,⟨hn12,h12_2,h12_3,h12_28,h12_29,h12_30,hb12_b2,hb12_b4,gc12_bb4_0,gc12_0,gc12_bb4_2⟩,apc12_bb4_0_c12_0,apc12_bb4_0_c12_bb4_2,apc12_0_c12_bb4_2⟩ hlt12 hm;have hlc12_bb4_0:=gc12_bb4_0.list;have hdc12_bb4_0:=gc12_bb4_0.toD;have hac12_bb4_0:=gc12_bb4_0.toA;have huc12_bb4_0:=gc12_bb4_0.useUp_arr;have hlc12_0:=gc12_0.list;have hdc12_0:=gc12_0.toD;have hac12_0:=gc12_0.toA;have huc12_0:=gc12_0.useUp_arr;have hlc12_bb4_2:=gc12_bb4_2.list;have hdc12_bb4_2:=gc12_bb4_2.toD;have hac12_bb4_2:=gc12_bb4_2.toA;have huc12_bb4_2:=gc12_bb4_2.useUp_arr;have hw12:IntKind.i64.wrap ((i12:Int)+1)=(i12:Int)+1:=Y0a _ (by omega)
   try simp[*]
   refine r_call (av:=[.one (.d (.sl ((s_.fks[i12].cols).map encI)))]) hm (fun v hv=>Z82 _ v hv) (by simp[*]) ?_;clear hm;intro v14 hvv14 hm
   try simp[*]
   refine r_app (xs:=s12) (ys:=[(Fk.mk s_.fks[i12].table v14 s_.fks[i12].ref)]) (enc:=Fk.enc) hm Zd5 (by first | exact Grows.nil | (simp (maxDischargeDepth:=20) [*];done) | (simp (maxDischargeDepth:=20) [*];refine⟨?_,by omega⟩;intro hq;subst hq;simp at hz2<;>omega)) (by simp[*]) (by decide) (by decide) (fun _=>rfl) ?_;clear hm;intro hl16 hm g15
   try simp[*]
   exact BackF.of (s12++[(Fk.mk s_.fks[i12].table v14 s_.fks[i12].ref)]) ⟨⟨c12_bb4_0,.own (h12.ep+3,672) ((s12++[(Fk.mk s_.fks[i12].table v14 s_.fks[i12].ref)]).map Fk.enc),c12_bb4_2,by simp (maxDischargeDepth:=20) [*],(by first | (simp[*];done) | exact (gc12_bb4_0.apart (by simp)).symm),(by first | assumption | exact Apart.symm (by assumption)),(by first | (simp[*];done) | exact gc12_bb4_2.apart (by simp))⟩,hm⟩
  .rintro s12 e12 h12 ⟨c12_bb4_0,c12_0,c12_bb4_2,⟨hn12,h12_2,h12_3,h12_28,h12_29,h12_30,hb12_b2,hb12_b4,gc12_bb4_0,gc12_0,gc12_bb4_2⟩,apc12_bb4_0_c12_0,apc12_bb4_0_c12_bb4_2,apc12_0_c12_bb4_2⟩ hm;have hlc12_bb4_0:=gc12_bb4_0.list;have hdc12_bb4_0:=gc12_bb4_0.toD;have hac12_bb4_0:=gc12_bb4_0.toA;have huc12_bb4_0:=gc12_bb4_0.useUp_arr;have hlc12_0:=gc12_0.list;have hdc12_0:=gc12_0.toD;have hac12_0:=gc12_0.toA;have huc12_0:=gc12_0.useUp_arr;have hlc12_bb4_2:=gc12_bb4_2.list;have hdc12_bb4_2:=gc12_bb4_2.toD;have hac12_bb4_2:=gc12_bb4_2.toA;have huc12_bb4_2:=gc12_bb4_2.useUp_arr
   try simp[*]
   obtain rfl:=r_ret hm;exact ret0 (vs:=[_]) (by simp[*];try exact rfl) (by simp[*])
instance i_schema_Clone (s_:Sch):Con (Z15 s_) prog 49 [.agg s_.enc] (fun r=>.agg (r.enc.map RC.d)):=⟨fun r hm=>Z5x s_ r hm⟩
end
section
open Go Go.Am
theorem Zls {α β:Type} {xs:List α} {f:α->β} {Q:List β->Prop} {ρ:Type} {R:ρ->Prop} {body:Nat->α->List β->(List β->Option ρ)->Option ρ} {k:List β->Option ρ} (hl:xs.length<=1048576)
  (hb:∀ i x s next,s.length < 1048576->Wp (next (s++[f x])) R->Wp (body i x s next) R) (hk:Wp (k (xs.map f)) R):Wp (forK body k xs 0 []) R:=by
 refine Wp.for (fun i s=>s=(xs.take i).map f) (by simp) ?_ ?_
 .intro i x s next hx hm hI hn;have hi:=(Y00.1 hx).1;subst hI;refine hb i x _ next (by simp;omega) (hn _ ?_);rw[List.take_add_one,hx];simp
 .intro s hs;rw[hs,Y1b];exact hk
theorem Z5r (S:Sch) (h1:S.tables.length<=1048576) (h2:S.fks.length<=1048576):Wp (Z15 S) fun r=>r=S:=by
 unfold Z15;refine Wp.bind (R:=fun r=>r=S.cons) (Wp.ret rfl) fun o _ ho=>?_;subst ho;refine Zls (f:=id) (Q:=fun _=>True) h1 ?_ ?_
 .intro i x s next hs hn;refine Wp.bind (R:=fun r=>r=x) (Wp.ret (by cases x;rfl)) fun y _ hy=>?_;subst hy;exact Wp.app (by simp;omega) hn
 .refine Zls (f:=id) (Q:=fun _=>True) h2 ?_ ?_
  .intro i x s next hs hn;refine Wp.bind (R:=fun r=>r=x.cols) (Wp.ret rfl) fun y _ hy=>?_;subst hy;exact Wp.app (by simp;omega) (by cases x;exact hn)
  .exact Wp.ret (by cases S;simp)
theorem ba_eq {a b:ByteArray} (h:(a == b)=true):a=b:=by
 cases a with
 | mk d=>cases b with
   | mk e=>
     have h':(d == e)=true:=h;rw[eq_of_beq h']
theorem Za7 (a b:List Col):Wp (Z25 a b) fun r=>r=true->a=b:=by
 unfold Z25;refine Wp.cond (fun _=>Wp.ret (by simp)) fun h=>?_;have hl:a.length=b.length:=by simp at h;omega
 refine Wp.for (fun i _=>∀ j,j < i->a[j]? = b[j]?) (by intro j h;omega) (fun i x s next hx _ hI hn=>?_) fun s hI=>Wp.ret fun _=>Y2r fun j=>?_
 .have hi:=(Y00.1 hx).1;refine Wp.get (by omega) (by omega) fun y hy _=>Wp.cond (fun _=>Wp.ret (by simp)) fun h2=>hn () fun j hj=>?_;rcases Y0t j i with h3 | h3
  .exact hI j h3
  .obtain rfl:j=i:=by omega
   have hy':b[j]? = some y:=by rw[<- hy];congr 1
   rw[hx,hy'];obtain⟨n1,k1,l1⟩:=x;obtain⟨n2,k2,l2⟩:=y;simp at h2;obtain⟨e1,e2,e3⟩:=h2;rw[ba_eq e1,e2,e3]
 .rcases Y0t j a.length with h3 | h3
  .exact hI j h3
  .rw[Y1t h3,Y1t (by omega)]
theorem Zf9 (a b:Tbl):Wp (Z3i a b) fun _=>True:=by
 unfold Z3i Z4i;refine Wp.bind (R:=fun _=>True) (Wp.cond (fun _=>Wp.bind (Za7 _ _) fun _ _ _=>Wp.cond (fun _=>Wp.bind (Z7k _ _) fun _ _ _=>Wp.ret trivial) fun _=>Wp.ret trivial) fun _=>Wp.ret trivial) fun _ _ _=>Wp.ret trivial
theorem Z74 (x:Stp):Wp (Z3j x) fun e=>e=0->1<=x.kind/\x.kind<=16:=by
 unfold Z3j;refine Wp.cond (fun _=>Wp.ret (by simp)) fun h1=>Wp.cond (fun _=>Wp.ret (by simp)) fun h2=>Wp.bind (R:=fun _=>True) ?_ fun y _ _=>Wp.bind (R:=fun _=>True) ?_ fun _ _ _=>Wp.cond (fun _=>Wp.ret (by simp)) fun _=>Wp.ret fun _=>⟨by simp at h1;omega,by simp at h2;omega⟩
 .unfold Z2p
  repeat' first | exact Wp.ret trivial | refine Wp.cond (fun _=>?_) fun _=>?_
 .unfold Z5e
  repeat' first | exact Wp.ret trivial | refine Wp.bind (Z7k _ _) fun _ _ _=>?_ | refine Wp.bind (Zf9 _ _) fun _ _ _=>?_ | refine Wp.bind (Z40 _ _) fun _ _ _=>?_ | refine Wp.cond (fun _=>?_) fun _=>?_
theorem Zd0 (xs:List Int) (v:Int):Wp (Z38 xs v) fun k=>(k=-1/\v ∉ xs)\/(0<=k/\k < xs.length/\v ∈ xs):=by
 unfold Z38;refine Wp.for (fun i _=>∀ (j:Nat) (y:Int),j < i->xs[j]? = some y->y≠v) (by intro j y h;omega) ?_ ?_
 .intro i x s next hx hm hI hn;have hi:=(Y00.1 hx).1;refine Wp.cond (fun h=>Wp.ret (.inr ⟨by omega,by omega,?_⟩)) fun h=>hn () (Z5u hI hx ?_)
  .have:v=x:=by simpa using h
   rw[this];exact hm
  .intro h0;simp[h0] at h
 .intro s hI;exact Wp.ret (.inl ⟨rfl,fun hv=>Z77 hI v hv rfl⟩)
theorem Z5s (xs:List Int) (v:Int):Wp (Z0d xs v) fun b=>b=true↔v ∈ xs:=by
 unfold Z0d;refine Wp.bind (Zd0 xs v) fun k _ hk=>Wp.ret ?_;rcases hk with ⟨rfl,h⟩ | ⟨h1,_,h⟩
 .simp[h]
 .simp[h,h1]
theorem Zcw (a b:List Int) (hl:a.length<=2097152):Wp (Z22 a b) fun o=>o=0->∀ v ∈ a,v ∉ b:=by
 unfold Z22;refine Wp.for (fun i s=>(0<=s/\s<=i)/\(s=0->∀ (j:Nat) (v:Int),j < i->a[j]? = some v->v ∉ b)) ⟨by simp,fun _ j v h=>by omega⟩ ?_ ?_
 .rintro i x s next hx hm ⟨⟨h0,h1⟩,hI⟩ hn;have hi:=(Y00.1 hx).1;refine Wp.bind (Z5s _ _) fun c _ hc=>Wp.cond (fun _=>Wp.chk ⟨by omega,by omega⟩ (hn _ ⟨⟨by omega,by omega⟩,fun h=>by omega⟩)) fun h=>hn _ ⟨⟨h0,by omega⟩,fun hs=>Z5u (hI hs) hx fun hb=>by rw[hc.2 hb] at h;cases h⟩
 .rintro s ⟨_,hI⟩;exact Wp.cond (fun h=>Wp.ret fun _=>Z77 (hI (by simpa using h))) fun _=>Wp.cond (fun _=>Wp.ret (by simp)) fun _=>Wp.ret (by simp)
theorem Zcl (S:Sch) (c:Cons):Wp (Z2n S c) fun q=>q.1.tables=S.tables:=by
 unfold Z2n Z1b;refine Wp.bind (R:=fun k=>k < S.cons.length) (Wp.for (fun _ _=>True) trivial (fun i x s next hx _ _ hn=>Wp.cond (fun _=>Wp.ret ?_) fun _=>hn () trivial) fun _ _=>Wp.ret (by omega)) fun k _ hk=>Wp.ite (fun _=>Wp.ret rfl) fun h=>Wp.chk (by omega) (Wp.ret rfl);have hi:=(Y00.1 hx).1;omega
theorem Z8u (S:Sch) (c:Fk):Wp (Z0s S c) fun q=>q.1.tables=S.tables/\q.1.cons=S.cons/\∀ f ∈ q.1.fks,f ∈ S.fks:=by
 unfold Z0s Z0h;refine Wp.bind (Wp.index fun x _=>?_) fun k _ hk=>Wp.ite (fun _=>Wp.ret ⟨rfl,rfl,fun _ h=>h⟩) fun h=>Wp.chk (by have:=hk.lt;omega) (Wp.ret ⟨rfl,rfl,fun f hf=>?_⟩)
 .unfold Z0v;exact Wp.bind (Z40 _ _) fun _ _ _=>Wp.ret trivial
 .simp only at hf;rcases Y02.1 hf with h1 | h1
  .exact Y2t h1
  .exact List.mem_of_mem_drop h1
end
end Go.Proofs.YtbcejndfbklikaaGreatDoor
section
namespace Go.Proofs.YtbcejndfbklikaaGreatDoor
open Go Go.Am
section
variable {α:Type}
def keepF (rm:List Int):Nat->List α->List α
 | _,[]=>[]
 | i,x::xs=>if (i:Int) ∈ rm then keepF rm (i+1) xs else x::keepF rm (i+1) xs
theorem Zet (rm:List Int) (x:α):∀ (xs:List α) (i:Nat),keepF rm i (xs++[x])=keepF rm i xs++(if ((i+xs.length:Nat):Int) ∈ rm then [] else [x])
 | [],i=>by simp only[Y0v,keepF,List.length_nil,Y1q]
 | y::ys,i=>by
   have h:=Zet rm x ys (i+1);rw[show i+1+ys.length=i+(y::ys).length by simp;omega] at h;simp only[Y0s,keepF,h];split
   .rfl
   .rfl
theorem Z8e {xs:List α} {i:Nat} {x:α} (h:xs[i]? = some x):xs.take (i+1)=xs.take i++[x]:=by
 rw[List.take_add_one,h];rfl
theorem Zes (rm:List Int) {xs:List α} {i:Nat} {x:α} (h:xs[i]? = some x):keepF rm 0 (xs.take (i+1))=keepF rm 0 (xs.take i)++(if (i:Int) ∈ rm then [] else [x]):=by
 have hi:=(Y00.1 h).1;rw[Z8e h,Zet,Y12,Nat.min_eq_left (by omega),Y25]
end
def shF (rm:List Int) (v:Int):Int:=v - (rm.filter fun r=>decide (r < v)).length
theorem LIM_eq:LIM=2097152:=rfl
theorem w_shF (v:Int) (rm:List Int) (h0:0<=v) (h1:v < 2097152) (hl:rm.length<=2097152):Wp (Z13 v rm) fun r=>r=shF rm v:=by
 unfold Z13;refine Wp.for (fun i s=>s=((rm.take i).filter fun r=>decide (r < v)).length) (by simp) ?_ ?_
 .rintro i x s next hx hm rfl hn;have hi:=(Y00.1 hx).1;have hb:((rm.take i).filter fun r=>decide (r < v)).length<=i:=Y0y (List.length_filter_le _ _) (by simp;omega);have e:((rm.take (i+1)).filter fun r=>decide (r < v)).length=((rm.take i).filter fun r=>decide (r < v)).length+(if x < v then 1 else 0):=by
   rw[Z8e hx,List.filter_append,Y0f]
   by_cases h:x < v<;>simp[h]
  refine Wp.cond (fun h=>Wp.chk ⟨by omega,by omega⟩ (hn _ ?_)) fun h=>hn _ ?_
  .have h:x < v:=by simpa using h
   rw[e,if_pos h];omega
  .have h:¬ x < v:=by simpa using h
   rw[e,if_neg h];omega
 .rintro s rfl;have hb:=List.length_filter_le (fun r=>decide (r < v)) (rm.take rm.length);rw[Y1b] at hb |-;exact Wp.chk ⟨by omega,by omega⟩ (Wp.ret rfl)
def rmT (T:Tbl) (rm:List Int):Tbl:={ T with cols:=keepF rm 0 T.cols,pk:=T.pk.map (shF rm) }
theorem Zju {α:Type} {xs:List α} {p:Nat->α->Prop} {i:Nat} {x:α} (h:∀ (j:Nat) (y:α),j < i->xs[j]? = some y->p j y) (hx:xs[i]? = some x) (hp:p i x):∀ (j:Nat) (y:α),j < i+1->xs[j]? = some y->p j y:=by
 intro j y hj hy;rcases Y0t j i with h1 | h1
 .exact h j y h1 hy
 .obtain rfl:j=i:=by omega
  rw[hx] at hy;cases hy;exact hp
def DefOK (v:GV) (c:Col):Prop:=Z0y v=some 0/\(v.kind=0->c.nullable=true)/\(v.kind≠0->v.kind=c.kind)
def colZ:Col:=⟨ByteArray.empty,0,false⟩
def colF (T:Tbl) (c:Int):Col:=(T.cols[c.toNat]?).getD colZ
structure SplitOK (T:Tbl) (cs:List Int):Prop where
 ne:cs≠[]
 rng:∀ v ∈ cs,0<=v/\v < T.cols.length
 asc:∀ (i:Nat) (a b:Int),cs[i]? = some a->cs[i+1]? = some b->a < b
 pk:∀ v ∈ cs,v ∉ T.pk
inductive EvT (S:Sch) (ts:List Tbl) (x:Stp):Prop
 | add {i:Nat} {T:Tbl} (k:x.kind=1) (hi:S.tables[i]? = some T) (hn:strEq T.name x.table=true) (hd:DefOK x.value ⟨x.column,x.type,x.value.kind == 0⟩) (e:ts=S.tables.set i { T with cols:=T.cols++[⟨x.column,x.type,x.value.kind == 0⟩] })
 | drop {i:Nat} {T:Tbl} {c:Int} {col:Col} (k:x.kind=2) (hi:S.tables[i]? = some T) (hn:strEq T.name x.table=true) (hc:Z03 T x.column=some (c,true)) (hcol:T.cols[c.toNat]? = some col) (hp:c ∉ T.pk) (hd:DefOK x.value col) (e:ts=S.tables.set i (rmT T [c]))
 | rencol {i:Nat} {T:Tbl} {c:Int} {col:Col} (k:x.kind=3) (hi:S.tables[i]? = some T) (hn:strEq T.name x.table=true) (hcol:T.cols[c.toNat]? = some col) (e:ts=S.tables.set i { T with cols:=T.cols.set c.toNat { col with name:=x.newName } })
 | ren {i:Nat} {T:Tbl} (k:x.kind=4) (hi:S.tables[i]? = some T) (hn:strEq T.name x.table=true) (ho:∀ U ∈ S.tables,strEq U.name x.newName=false) (e:ts=outerS ltT (S.tables.length - 1) 1 (S.tables.take i++S.tables.drop (i+1)++[{ T with name:=x.newName }]))
 | type {i:Nat} {T:Tbl} {c:Int} {col:Col} (k:x.kind=5) (hi:S.tables[i]? = some T) (hn:strEq T.name x.table=true) (hc:Z03 T x.column=some (c,true)) (hcol:T.cols[c.toNat]? = some col) (hp:c ∉ T.pk) (e:ts=S.tables.set i { T with cols:=T.cols.set c.toNat { col with kind:=x.type } })
 | split {i:Nat} {T:Tbl} (k:x.kind=6) (hi:S.tables[i]? = some T) (hn:strEq T.name x.table=true) (ho:∀ U ∈ S.tables,strEq U.name x.other=false) (hs:SplitOK T x.cols) (e:ts=outerS ltT S.tables.length 1 (S.tables.set i (rmT T x.cols)++[⟨x.other,(T.pk++x.cols).map (colF T),seqI T.pk.length⟩]))
 | join {i j:Nat} {T O:Tbl} (k:x.kind=7) (hi:S.tables[i]? = some T) (hn:strEq T.name x.table=true) (hj:S.tables[j]? = some O) (ho:strEq O.name x.other=true) (hij:i≠j) (hp:O.pk=seqI T.pk.length) (hk:∀ (n:Nat) (v:Int),T.pk[n]? = some v->(colF T v).kind=(colF O n).kind) (e:ts=(S.tables.set i { T with cols:=T.cols++O.cols.drop T.pk.length }).take j++(S.tables.set i { T with cols:=T.cols++O.cols.drop T.pk.length }).drop (j+1))
 | part {i:Nat} {T:Tbl} {c:Int} {col:Col} {b:Bool} (k:x.kind=8) (hi:S.tables[i]? = some T) (hn:strEq T.name x.table=true) (hc:Z03 T x.column=some (c,true)) (hcol:T.cols[c.toNat]? = some col) (hq:Z1p x.value x.op x.value=some (b,0)) (hv:Z0y x.value=some 0) (hk:x.value.kind=col.kind) (ho:∀ U ∈ S.tables,strEq U.name x.other=false) (e:ts=outerS ltT S.tables.length 1 (S.tables++[{ T with name:=x.other }]))
 | merge {i j:Nat} {T O:Tbl} (k:x.kind=9) (hi:S.tables[i]? = some T) (hn:strEq T.name x.table=true) (hj:S.tables[j]? = some O) (ho:strEq O.name x.other=true) (hij:i≠j) (hc:T.cols=O.cols) (hp:T.pk=O.pk) (e:ts=(S.tables.set i { T with pk:=T.pk++[(T.cols.length:Int)],cols:=T.cols++[⟨x.column,2,false⟩] }).filter fun t=>!strEq t.name O.name)
 | create (k:x.kind=10) (ho:∀ U ∈ S.tables,strEq U.name x.newTable.name=false) (e:ts=outerS ltT S.tables.length 1 (S.tables++[x.newTable]))
 | droptab (k:x.kind=11) (ho:∃ T ∈ S.tables,strEq T.name x.table=true) (e:ts=S.tables.filter fun t=>!strEq t.name x.table)
 | concat {i:Nat} {T:Tbl} {a b:Int} (k:x.kind=12) (hi:S.tables[i]? = some T) (hn:strEq T.name x.table=true) (hx:x.cols=[a,b]) (ha:0<=a) (hab:a < b) (hb:b < T.cols.length) (hka:(colF T a).kind=3) (hkb:(colF T b).kind=3) (hp:a ∉ T.pk/\b ∉ T.pk) (e:ts=S.tables.set i { rmT T x.cols with cols:=keepF x.cols 0 T.cols++[⟨x.column,3,(colF T a).nullable && (colF T b).nullable⟩] })
 | rule (k:13<=x.kind) (e:ts=S.tables)
end Go.Proofs.YtbcejndfbklikaaGreatDoor
end
section
namespace Go.Proofs.YtbcejndfbklikaaGreatDoor
open Go Go.Am
theorem Z76 (S:Sch) (T:Tbl) (h:S.tables.length < 19):Wp (Z16 S T) fun S'=>S'.fks=S.fks/\S'.cons=S.cons/\S'.tables=outerS ltT S.tables.length 1 (S.tables++[T]):=by
 unfold Z16;exact Wp.chk h (Wp.ret ⟨rfl,rfl,rfl⟩)
theorem Zf7 (S:Sch) (x:Stp) (h:S.tables.length < 19) (hk:x.kind=10):Wp (Z3n S x.newTable) fun q=>q.2=0->EvT S q.1.tables x:=by
 unfold Z3n;exact Wp.bind (Z1d _ _) fun v _ hv=>Wp.cond (fun _=>Wp.ret (by simp)) fun hf=>Wp.bind (Z76 S _ h) fun _ _ he=>Wp.ret fun _=>.create hk (hv.2.2 hf) he.2.2
theorem Zf5 (S:Sch) (i:Nat) (x:Stp) (h:S.tables.length < 19) {T:Tbl} (hT:S.tables[i]? = some T) (hn:strEq T.name x.table=true) (hk:x.kind=4):Wp (Z3l S i x.newName) fun q=>q.2=0->EvT S q.1.tables x:=by
 have hi:=(Y00.1 hT).1;have hl:(S.tables.take i++S.tables.drop (i+1)).length=S.tables.length - 1:=by simp;omega
 unfold Z3l;refine Wp.bind (Z1d _ _) fun v _ hv=>Wp.cond (fun _=>Wp.ret (by simp)) fun hf=>Wp.getN hT (Wp.bind (Z76 _ _ (by show (S.tables.take i++S.tables.drop (i+1)).length < 19;omega)) fun S1 _ hS1=>?_);have e1:=hS1.2.2;simp only at e1;rw[hl] at e1;refine Wp.count (fun _ (S2:Sch)=>S2.fks.length=S1.fks.length/\S2.tables=S1.tables) ⟨rfl,rfl⟩ ?_ ?_
 .rintro k S2 next hk ⟨hl,ht⟩ hn;refine Wp.get (by omega) (by omega) fun f _ _=>?_
  repeat' first | exact hn _ ⟨by simpa using hl,ht⟩ | refine Wp.cond (fun _=>?_) fun _=>?_
 .rintro S2 ⟨_,ht2⟩;refine Wp.count (fun _ (S3:Sch)=>S3.cons.length=S2.cons.length/\S3.tables=S1.tables) ⟨rfl,ht2⟩ ?_ fun S3 h3=>Wp.ret fun _=>.ren hk hT hn (hv.2.2 hf) (h3.2.trans e1);rintro k S3 next hk ⟨hl,ht⟩ hn;refine Wp.get (by omega) (by omega) fun f _ _=>?_
  repeat' first | exact hn _ ⟨by simpa using hl,ht⟩ | refine Wp.cond (fun _=>?_) fun _=>?_
theorem Za5 (S:Sch) (table:ByteArray) (mr:Int->Option Int) (P:Int->Prop) (hmr:∀ v,P v->Wp (mr v) fun _=>True)
  (hf:∀ f ∈ S.fks,strEq f.table table=true->∀ v ∈ f.cols,P v) (ho:∀ c ∈ S.cons,strEq c.table table=true->P c.left/\(0<=c.right->P c.right)) :
  Wp (Z14 S table mr) fun S'=>S'.tables=S.tables/\S'.fks.length=S.fks.length/\S'.cons.length=S.cons.length:=by
 unfold Z14;refine Wp.count (fun i (S1:Sch)=>S1.tables=S.tables/\S1.cons=S.cons/\S1.fks.length=S.fks.length/\∀ j,i<=j->S1.fks[j]? = S.fks[j]?) ⟨rfl,rfl,rfl,fun _ _=>rfl⟩ ?_ ?_
 .rintro i S1 next hi ⟨h1,h2,h3,h4⟩ hn;unfold Zjb;refine Wp.get (by omega) (by omega) fun f hfx _=>?_;have hfx':S.fks[i]? = some f:=by rw[<- h4 i (Y09 _),<- hfx];congr 1
  refine Wp.cond (fun hst=>?_) fun _=>hn _ ⟨h1,h2,h3,fun j hj=>h4 j (by omega)⟩;have hP:=hf f (Y03 hfx') hst;refine Wp.count (fun k (S2:Sch)=>S2.tables=S.tables/\S2.cons=S.cons/\S2.fks.length=S.fks.length/\(∀ j,i+1<=j->S2.fks[j]? = S.fks[j]?)/\∃ f',S2.fks[i]? = some f'/\f'.cols.length=f.cols.length/\∀ j,k<=j->f'.cols[j]? = f.cols[j]?)
   ⟨h1,h2,h3,fun j hj=>h4 j (by omega),f,by rw[<- hfx];congr 1,rfl,fun _ _=>rfl⟩ ?_ ?_
  .rintro k S2 next2 hk ⟨g1,g2,g3,g4,f',g5,g6,g7⟩ hn2;refine Wp.getN g5 (Wp.get (by omega) (by omega) fun v hv _=>?_);have hv':f.cols[k]? = some v:=by rw[<- g7 k (Y09 _),<- hv];congr 1
   refine Wp.bind (hmr v (hP v (Y03 hv'))) fun w _ _=>hn2 _ ⟨g1,g2,by simpa using g3,fun j hj=>?_,⟨f'.table,f'.cols.set k w,f'.ref⟩,?_,by simpa using g6,fun j hj=>?_⟩
   .rw[Y1d (by omega)];exact g4 j hj
   .rw[Y19 (by omega)]
   .simp only;rw[Y1d (by omega)];exact g7 j (by omega)
  .rintro S2 ⟨g1,g2,g3,g4,_⟩;exact hn _ ⟨g1,g2,g3,g4⟩
 .rintro S1 ⟨h1,h2,h3,_⟩;refine Wp.count (fun i (S2:Sch)=>S2.tables=S.tables/\S2.fks.length=S.fks.length/\S2.cons.length=S.cons.length/\∀ j,i<=j->S2.cons[j]? = S.cons[j]?) ⟨h1,h3,by rw[h2],fun _ _=>by rw[h2]⟩ ?_ fun S2 h=>Wp.ret ⟨h.1,h.2.1,h.2.2.1⟩;rintro i S2 next hi ⟨g1,g2,g3,g4⟩ hn;unfold Zja;have hi':i < S.cons.length:=by rw[<- h2];exact hi
  refine Wp.get (by omega) (by omega) fun c hc _=>?_;have hc':S.cons[i]? = some c:=by rw[<- g4 i (Y09 _),<- hc];congr 1
  refine Wp.cond (fun _=>hn _ ⟨g1,g2,g3,fun j hj=>g4 j (by omega)⟩) fun hst=>?_;have hP:=ho c (Y03 hc') (by simpa using hst);have hset:∀ c',∀ j,i+1<=j->(S2.cons.set i c')[j]? = S.cons[j]?:=fun c' j hj=>by rw[Y1d (by omega)];exact g4 j (by omega)
  refine Wp.bind (hmr _ hP.1) fun v _ _=>Wp.cond (fun h=>Wp.bind (hmr _ (hP.2 (by simpa using h))) fun w _ _=>hn _ ⟨g1,g2,by simpa using g3,hset _⟩) fun _=>hn _ ⟨g1,g2,by simpa using g3,hset _⟩
theorem Z7j (S:Sch) (i:Nat) (T:Tbl) (rm:List Int) (hT:S.tables[i]? = some T) (hV:VT T) (hl:rm.length<=2097152)
  (hf:∀ f ∈ S.fks,strEq f.table T.name=true->∀ v ∈ f.cols,0<=v/\v < 6) (ho:∀ c ∈ S.cons,strEq c.table T.name=true->(0<=c.left/\c.left < 6)/\c.right < 6) :
  Wp (Z1c S i rm) fun S'=>S'.tables=S.tables.set i (rmT T rm)/\S'.fks.length=S.fks.length/\S'.cons.length=S.cons.length:=by
 unfold Z1c;have hi:=(Y00.1 hT).1;have h6:=hV.cols6;refine Wp.getN hT ?_;refine Wp.for (fun k (s:List Col)=>s=keepF rm 0 (T.cols.take k)) rfl ?_ ?_
 .rintro k c s next hx hm rfl hn;unfold Zh2;refine Wp.bind (Z5s _ _) fun b _ hb=>Wp.cond (fun h=>hn _ ?_) fun h=>hn _ ?_
  .rw[Zes rm hx,if_neg];exact fun h'=>by rw[hb.2 h'] at h;cases h
  .rw[Zes rm hx,if_pos (hb.1 (by simpa using h)),Y0k]
 rintro cols rfl;rw[Y1b];refine Wp.count (fun k (S1:Sch)=>S1.fks=S.fks/\S1.cons=S.cons/\S1.tables=S.tables.set i { T with pk:=(T.pk.take k).map (shF rm)++T.pk.drop k }) ⟨rfl,rfl,?_⟩ ?_ ?_
 .simp only[List.take_zero,Y0g,Y0v,Y27];exact (Zb1 hT).symm
 .rintro k S1 next hk ⟨g1,g2,g3⟩ hn;unfold Zh1;have hx:T.pk[k]? = some T.pk[k]:=Y01 hk;have hp:=hV.pk _ (Y0p hk);refine Wp.getN (x:={ T with pk:=(T.pk.take k).map (shF rm)++T.pk.drop k }) (by rw[g3,Y19 hi]) (Wp.getN (x:=T.pk[k]) ?_ (Wp.bind (w_shF _ rm hp.1 (by omega) hl) fun v _ hv=>hn _ ⟨g1,g2,?_⟩))
  .rw[Y13 (by simp;omega)];simp[Nat.min_eq_left (Y31 hk)]
  .subst hv;simp only;rw[g3,List.set_set,Z8e hx,Y2c]
   congr 2
   rw[Y2o _ _ (by simp;omega)];simp[Nat.min_eq_left (Y31 hk)];rw[Y14 hk];rfl
 .rintro S1 ⟨g1,g2,g3⟩;rw[Y1b,List.drop_length,Y0k] at g3;refine Wp.getN (x:={ T with pk:=T.pk.map (shF rm) }) (by rw[g3,Y19 hi]) (Wp.bind (Za5 _ _ _ (fun v=>0<=v/\v < 6) (fun v hv=>(w_shF v rm hv.1 (by omega) hl).mono fun _ _ _=>trivial) ?_ ?_) fun S2 _ hS2=>Wp.ret ⟨?_,?_,?_⟩)
  .simp only[g1];exact hf
  .simp only[g2];exact fun c hc he=>⟨(ho c hc he).1,fun h=>⟨h,(ho c hc he).2⟩⟩
  .rw[hS2.1,g3,List.set_set];rfl
  .rw[hS2.2.1];simp only[g1]
  .rw[hS2.2.2];simp only[g2]
theorem Zav (S:Sch) (T:Tbl) (v:Int):Wp (Z1q S T v) fun e=>e=0->v ∉ T.pk:=by
 unfold Z1q Z1j Z17;refine Wp.bind (Z5s _ _) fun b _ hb=>Wp.cond (fun _=>Wp.ret (by simp)) fun h1=>?_;have hn:v ∉ T.pk:=fun h=>by rw[hb.2 h] at h1;cases h1
 refine Wp.bind (Z3t _ _ fun x _=>?_) fun _ _ _=>Wp.cond (fun _=>Wp.ret (by simp)) fun _=>Wp.bind (R:=fun _=>True) (Wp.bind (Wp.index fun x _=>?_) fun _ _ _=>Wp.ret trivial) fun _ _ _=>Wp.cond (fun _=>Wp.ret (by simp)) fun _=>Wp.ret fun _=>hn
 .unfold Z1y;exact Wp.cond (fun _=>Wp.bind (Z5s _ _) fun _ _ _=>Wp.ret trivial) fun _=>Wp.ret trivial
 .unfold Z1x;exact Wp.cond (fun _=>Wp.cond (fun _=>Wp.ret trivial) fun _=>Wp.ret trivial) fun _=>Wp.ret trivial
theorem Za6 (v:GV) (c:Col):Wp (Z1i v c) fun e=>e=0->DefOK v c:=by
 unfold Z1i;refine Wp.bind (Z6w _) fun e he _=>Wp.cond (fun h=>Wp.ret fun h0=>by simp[h0] at h) fun h=>?_;obtain rfl:e=0:=by simpa using h
 refine Wp.cond (fun h1=>?_) fun h1=>?_
 .have k0:v.kind=0:=by simpa using h1
  refine Wp.cond (fun _=>Wp.ret (by simp)) fun h2=>Wp.cond (fun h3=>by simp[k0] at h3) fun _=>Wp.ret fun _=>⟨he,fun _=>by simpa using h2,fun h=>absurd k0 h⟩
 .have k0:v.kind≠0:=by simpa using h1
  refine Wp.cond (fun h2=>Wp.cond (fun _=>Wp.ret (by simp)) fun h3=>Wp.ret fun _=>⟨he,fun h=>absurd h k0,fun _=>by simpa using h3⟩) fun h2=>by simp[k0] at h2
section
variable {S:Sch} {i:Nat} {T:Tbl}
theorem Zhr (x:Stp) (hT:S.tables[i]? = some T) (hV:VT T) (hn:strEq T.name x.table=true) (hk:x.kind=1):Wp (Z4a S i x) fun q=>q.2=0->EvT S q.1.tables x:=by
 unfold Z4a;have h1:=hV.cols0;have h2:=hV.cols6;exact Wp.bind (Za6 _ _) fun e _ he=>Wp.cond (fun h=>Wp.ret fun h0=>by simp only at h0;simp[h0] at h) fun h=>Wp.getN hT (Wp.chk ⟨h1,by have:=LIM_eq;omega⟩ (Wp.ret fun _=>.add hk hT hn (he (by simpa using h)) rfl))
theorem VS.hf (h:VS S) (nm:ByteArray):∀ f ∈ S.fks,strEq f.table nm=true->∀ v ∈ f.cols,0<=v/\v < 6:=fun f hf _=>(h.fk f hf).2
theorem VS.ho (h:VS S) (nm:ByteArray):∀ c ∈ S.cons,strEq c.table nm=true->(0<=c.left/\c.left < 6)/\c.right < 6:=fun c hc _=>⟨(h.con c hc).1,(h.con c hc).2.2⟩
theorem Zf8 (x:Stp) (hT:S.tables[i]? = some T) (hS:VS S) (hn:strEq T.name x.table=true) (hk:x.kind=2\/x.kind=3\/x.kind=5):Wp (Z3o S i x) fun q=>q.2=0->EvT S q.1.tables x:=by
 unfold Z3o;have hV:=hS.tab T (Y03 hT);refine Wp.getN hT (Wp.bind (Z3q _ _) fun r hr0 hr=>Wp.cond (fun _=>Wp.ret (by simp)) fun h=>?_);have h':r.2=true:=by simpa using h
 have hr1:=hr.2.1 h';have hc:Z03 T x.column=some (r.1,true):=by rw[hr0,<- h']
 refine Wp.cond (fun k3=>Wp.bind (Z3q _ _) fun _ _ _=>Wp.cond (fun _=>Wp.ret (by simp)) fun _=>Wp.get hr.1 hr1 fun _ hcol _=>Wp.ret fun _=>.rencol (by simpa using k3) hT hn hcol rfl) fun k3=>?_;refine Wp.bind (Zav _ _ _) fun e _ he=>Wp.cond (fun h=>Wp.ret fun h0=>by simp only at h0;simp[h0] at h) fun h0=>Wp.cond (fun k5=>Wp.get hr.1 hr1 fun _ hcol _=>Wp.ret fun _=>.type (by simpa using k5) hT hn hc hcol (he (by simpa using h0)) rfl) fun k5=>Wp.get hr.1 hr1 fun _ hcol _=>?_;have k2:x.kind=2:=hk.resolve_right fun h=>h.elim (fun h=>by simp[h] at k3) fun h=>by simp[h] at k5
 exact Wp.bind (Za6 _ _) fun e _ hd=>Wp.cond (fun h=>Wp.ret fun h0=>by simp only at h0;simp[h0] at h) fun hd0=>Wp.bind (Z7j S i T [r.1] hT hV (by simp) (hS.hf _) (hS.ho _)) fun _ _ hr=>Wp.ret fun _=>.drop k2 hT hn hc hcol (he (by simpa using h0)) (hd (by simpa using hd0)) hr.1
theorem Zh3 {α:Type} {rm:List Int}:∀ {xs:List α} {i:Nat},(∃ k,k < xs.length/\((i+k:Nat):Int) ∉ rm)->0 < (keepF rm i xs).length
 | [],_,⟨k,h,_⟩=>by simp at h
 | x::xs,i,⟨k,h,h2⟩=>by
   unfold keepF;split
   .rename_i h3;cases k with
    | zero=>exact absurd h3 h2
    | succ k=>exact Zh3 ⟨k,by simpa using h,by rw[show i+1+k=i+(k+1) by omega];exact h2⟩
   .simp
theorem Zjc {α:Type} {rm:List Int}:∀ {xs:List α} {i:Nat},(keepF rm i xs).length<=xs.length
 | [],_=>Y09 _
 | x::xs,i=>by
   unfold keepF
   have:=Zjc (rm:=rm) (xs:=xs) (i:=i+1)
   split<;>simp<;>omega
theorem Zcx (x:Stp) (hT:S.tables[i]? = some T) (hS:VS S) (hn:strEq T.name x.table=true) (hk:x.kind=12):Wp (Z34 S i x) fun q=>q.2=0->EvT S q.1.tables x:=by
 unfold Z34;have hV:=hS.tab T (Y03 hT);have hi:=(Y00.1 hT).1;refine Wp.getN hT (Wp.cond (fun _=>Wp.ret (by simp)) fun h1=>?_);have hl:x.cols.length=2:=by simp at h1;omega
 obtain⟨a,b,hab⟩:∃ a b,x.cols=[a,b]:=by
  match x.cols,hl with
  | [a,b],_=>exact⟨a,b,rfl⟩
 rw[hab];refine Wp.get (by omega) (by simp) fun a' ha _=>Wp.cond (fun _=>Wp.ret (by simp)) fun h2=>Wp.get (by omega) (by simp) fun b' hb _=>Wp.cond (fun _=>Wp.ret (by simp)) fun h3=>Wp.cond (fun _=>Wp.ret (by simp)) fun h4=>?_;simp at ha hb h2 h3 h4;subst ha hb;refine Wp.for (fun j nul=>(∀ (k:Nat) (y:Int),k < j->([a,b]:List Int)[k]? = some y->(colF T y).kind=3)/\nul=(([a,b]:List Int).take j).all fun y=>(colF T y).nullable) ⟨by intro j y h;omega,rfl⟩ ?_ fun nul hnul=>?_
 .rintro j col s next hx hm ⟨hI,rfl⟩ hn;have hc:col=a\/col=b:=by simpa using hm
  refine Wp.get (by omega) (by omega) fun c hcc _=>Wp.cond (fun _=>Wp.ret (by simp)) fun hk3=>hn _ ⟨Z5u hI hx ?_,?_⟩
  .simpa[colF,hcc] using hk3
  .rw[Z8e hx,List.all_append];simp[colF,hcc]
 refine Wp.for (fun i _=>∀ (j:Nat) (y:Int),j < i->([a,b]:List Int)[j]? = some y->y ∉ T.pk) (by intro j y h;omega) ?_ fun s hI=>?_
 .intro j col s next hx hm hI hn;exact Wp.bind (Zav _ _ _) fun e _ he=>Wp.cond (fun h=>Wp.ret fun h0=>by simp only at h0;simp[h0] at h) fun h=>hn () (Z5u hI hx (he (by simpa using h)))
 .have hU:=Z77 hI;have hK:=Z77 hnul.1;refine Wp.bind (Z7j S i T [a,b] hT hV (by simp) (hS.hf _) (hS.ho _)) fun S1 _ hS1=>?_;have h6:=hV.cols6;have hle:=Zjc (rm:=[a,b]) (xs:=T.cols) (i:=0);refine Wp.getN (x:=rmT T [a,b]) (by rw[hS1.1,Y19 hi]) (Wp.chk ⟨?_,by have:=LIM_eq;show (keepF _ _ _).length < _;omega⟩ (Wp.ret fun _=>.concat hk hT hn hab h2 h3 h4 (hK a (by simp)) (hK b (by simp)) ⟨hU a (by simp),hU b (by simp)⟩ ?_))
  .have hp0:=hV.pk0;have hp:=hV.pk _ (Y0p hp0);refine Zh3 ⟨(T.pk[0]).toNat,by omega,fun hin=>?_⟩;rw[show ((0+(T.pk[0]).toNat:Nat):Int)=T.pk[0] by omega] at hin;exact hU _ hin (Y0p hp0)
  .rw[hnul.2,hab];simp only;rw[hS1.1,List.set_set];simp[rmT]
theorem Zhq (x:Stp) (hT:∃ T ∈ S.tables,strEq T.name x.table=true) (hk:x.kind=11):Wp (Z49 S x.table) fun q=>q.2=0->EvT S q.1.tables x:=by
 unfold Z49;refine Wp.bind (Z3t _ _ fun x _=>?_) fun _ _ _=>Wp.ite (fun _=>Wp.ret (by simp)) fun _=>Wp.ret fun _=>.droptab hk hT rfl;unfold Z2f;exact Wp.cond (fun _=>Wp.ret trivial) fun _=>Wp.ret trivial
end
end Go.Proofs.YtbcejndfbklikaaGreatDoor
end
section
namespace Go.Proofs.YtbcejndfbklikaaGreatDoor
open Go Go.Am
theorem Zkz {a b:ByteArray}:strEq a b=strEq b a:=by
 unfold strEq
 first | exact Bool.beq_comm | exact BEq.comm | exact decide_eq_decide.2 eq_comm
section
variable {S:Sch} {i:Nat} {T:Tbl}
theorem Zgk (x:Stp) (hl:x.cols.length<=1048576):Wp (Z2q S T x) fun e=>e=0->SplitOK T x.cols/\∀ t ∈ S.tables,strEq t.name x.other=false:=by
 have hL:=LIM_eq;unfold Z2q;refine Wp.for (fun i _=>(∀ (j:Nat) (y:Int),j < i->x.cols[j]? = some y->0<=y/\y < T.cols.length)/\∀ (j:Nat) (a b:Int),j+1 < i->x.cols[j]? = some a->x.cols[j+1]? = some b->a < b) ⟨by intro j y h;omega,by intro j a b h;omega⟩ ?_ ?_
 .rintro i y s next hx hm ⟨hI,hJ⟩ hn;have hi:=(Y00.1 hx).1;refine Wp.cond (fun _=>Wp.ret (by simp)) fun h1=>Wp.cond (fun _=>Wp.ret (by simp)) fun h2=>?_;have hnx:=Z5u hI hx ⟨by simpa using h1,by simpa using h2⟩;refine Wp.cond (fun h3=>?_) fun h3=>hn () ⟨hnx,fun j a b hj ha hb=>by simp at h3;omega⟩;have h3':0 < i:=by simpa using h3
  refine Wp.chk ⟨by omega,by omega⟩ (Wp.get (by omega) (by omega) fun z hz _=>Wp.cond (fun _=>Wp.ret (by simp)) fun h4=>hn () ⟨hnx,fun j a b hj ha hb=>?_⟩);rcases Y0t (j+1) i with h5 | h5
  .exact hJ j a b h5 ha hb
  .obtain rfl:i=j+1:=by omega
   rw[hx] at hb;rw[show (((j+1:Nat):Int) - 1).toNat=j by omega,ha] at hz;cases hb;cases hz;simpa using h4
 .rintro s ⟨hI,hJ⟩;refine Wp.cond (fun _=>Wp.ret (by simp)) fun h0=>Wp.bind (Zcw _ _ (by omega)) fun o _ ho=>Wp.cond (fun _=>Wp.ret (by simp)) fun h1=>Wp.bind (Z1d _ _) fun v _ hv=>Wp.cond (fun _=>Wp.ret (by simp)) fun h=>Wp.ret fun _=>⟨⟨fun he=>by simp[he] at h0,Z77 hI,fun n a b ha hb=>hJ n a b (Y00.1 hb).1 ha hb,ho (by simpa using h1)⟩,hv.2.2 h⟩
theorem Z83 (v n:Int) (x:Stp) (hl:x.cols.length<=1048576) (h0:0<=n) (h6:n<=6):Wp (Z12 v n x) fun _=>True:=by
 have hL:=LIM_eq;unfold Z12;refine Wp.bind (Zd0 _ _) fun k _ hk=>Wp.chk ?_ (Wp.ret trivial);rcases hk with ⟨rfl,_⟩ | ⟨h1,h2,_⟩
 .exact⟨by omega,by omega⟩
 .exact⟨by omega,by omega⟩
def SpF (S:Sch) (other:ByteArray) (S1:Sch):Prop:=S1.tables=S.tables/\S1.cons=S.cons/\S1.fks.length=S.fks.length/\∀ f ∈ S1.fks,f.cols.length<=6/\(f.table=other\/f ∈ S.fks)
theorem Zi4 {α:Type} {xs:List α} {k:Nat} {a b:α} (h:b ∈ xs.set k a):b ∈ xs\/b=a:=Y2f h
theorem Zgg (x:Stp) (hT:S.tables[i]? = some T) (hS:VS S) (hl:x.cols.length<=1048576) (hn:strEq T.name x.table=true) (hkd:x.kind=6):Wp (Z3w S i x) fun q=>q.2=0->EvT S q.1.tables x:=by
 have hnm:=hn;have hL:=LIM_eq;have hV:=hS.tab T (Y03 hT);have hpk:=hV.pk6;have hc6:=hV.cols6;unfold Z3w;refine Wp.getN hT (Wp.bind (Zgk x hl) fun e _ he=>Wp.cond (fun h=>Wp.ret fun h0=>by simp only at h0;simp[h0] at h) fun he0=>?_);obtain⟨hsp,hoth⟩:=he (by simpa using he0);have hcol:=hsp.rng;have hne:strEq x.other T.name=false:=by rw[Zkz];exact hoth T (Y03 hT)
 refine Wp.count (fun _ S1=>SpF S x.other S1) ⟨rfl,rfl,rfl,fun f hf=>⟨(hS.fk f hf).1,.inr hf⟩⟩ ?_ ?_
 .rintro k S1 next hk ⟨h1,h2,h3,h4⟩ hn;unfold Zj8;refine Wp.get (by omega) (by omega) fun f hf hfm=>Wp.cond (fun _=>hn _ ⟨h1,h2,h3,h4⟩) fun _=>?_;have hf6:=(h4 f hfm).1;refine Wp.bind (Zcw _ _ (by omega)) fun o _ _=>Wp.cond (fun _=>Wp.ret (by simp)) fun _=>Wp.cond (fun _=>?_) fun _=>hn _ ⟨h1,h2,h3,h4⟩;refine Wp.count (fun _ S2=>SpF S x.other S2/\∃ f',S2.fks[k]? = some f'/\f'.cols.length=f.cols.length/\f'.table=x.other) ⟨⟨h1,h2,by simpa using h3,?_⟩,⟨x.other,f.cols,f.ref⟩,Y19 (by omega),rfl,rfl⟩ ?_ fun S2 h=>hn _ h.1
  .intro g hg;rcases Zi4 hg with h | rfl
   .exact h4 g h
   .exact⟨hf6,.inl rfl⟩
  .rintro j S2 next2 hj ⟨⟨g1,g2,g3,g4⟩,f',g5,g6,g7⟩ hn2;unfold Zj9;refine Wp.getN g5 (Wp.get (by omega) (by omega) fun v _ _=>Wp.bind (Z83 _ _ _ hl (by omega) (by omega)) fun w _ _=>hn2 _ ⟨⟨g1,g2,by simpa using g3,fun g hg=>?_⟩,⟨f'.table,f'.cols.set j w,f'.ref⟩,Y19 (by omega),by simpa using g6,g7⟩);rcases Zi4 hg with h | rfl
   .exact g4 g h
   .exact⟨by simp;omega,.inl g7⟩
 rintro S1 ⟨h1,h2,h3,h4⟩;refine Wp.count (fun _ (S2:Sch)=>S2.tables=S.tables/\S2.fks=S1.fks/\S2.cons.length=S.cons.length/\∀ c ∈ S2.cons,c.table=x.other\/c ∈ S.cons) ⟨h1,rfl,by rw[h2],fun c hc=>.inr (h2 ▸ hc)⟩ ?_ ?_
 .rintro k S2 next hk ⟨g1,g2,g3,g4⟩ hn;rw[h2] at hk;unfold Zj7;refine Wp.get (by omega) (by omega) fun c hc hcm=>Wp.cond (fun _=>hn _ ⟨g1,g2,g3,g4⟩) fun _=>?_;refine Wp.bind (R:=fun cc=>cc.length<=2) ?_ fun cc _ hcc=>Wp.bind (Zcw _ _ (by omega)) fun o _ _=>Wp.cond (fun _=>Wp.ret (by simp)) fun _=>Wp.cond (fun _=>?_) fun _=>hn _ ⟨g1,g2,g3,g4⟩
  .unfold Z20;exact Wp.cond (fun _=>Wp.ret (by simp)) fun _=>Wp.ret (by simp)
  .have hset:∀ c':Cons,c'.table=x.other->∀ d ∈ S2.cons.set k c',d.table=x.other\/d ∈ S.cons:=by
    intro c' hc' d hd;rcases Zi4 hd with h | rfl
    .exact g4 d h
    .exact .inl hc'
   refine Wp.bind (Z83 _ _ _ hl (by omega) (by omega)) fun v _ _=>Wp.cond (fun _=>Wp.bind (Z83 _ _ _ hl (by omega) (by omega)) fun w _ _=>hn _ ⟨g1,g2,by simpa using g3,hset _ rfl⟩) fun _=>hn _ ⟨g1,g2,by simpa using g3,hset _ rfl⟩
 rintro S2 ⟨g1,g2,g3,g4⟩;refine Wp.chk ?_ (Wp.for (fun j s=>s=((T.pk++x.cols).take j).map (colF T)) rfl ?_ ?_)
 .omega
 .rintro j col s next hx hm rfl hn;unfold Zfu;have hb:0<=col/\col < T.cols.length:=by
   rcases Y02.1 hm with h | h
   .exact hV.pk col h
   .exact hcol col h
  refine Wp.get hb.1 hb.2 fun c hc _=>hn _ ?_;rw[Z8e hx,Y2c];simp[colF,hc]
 .rintro oc rfl;unfold Zbs;refine Wp.bind (Z7j S2 i T x.cols (by rw[g1];exact hT) hV (by omega) ?_ ?_) fun S3 _ hS3=>Wp.bind (Z76 S3 _ ?_) fun S4 _ hS4=>Wp.chk ?_ (Wp.ret fun _=>.split hkd hT hnm hoth hsp ?_)
  .intro f hf hfe;rw[g2] at hf;rcases (h4 f hf).2 with h | h
   .rw[h,hne] at hfe;cases hfe
   .exact (hS.fk f h).2
  .intro c hc hce;rcases g4 c hc with h | h
   .rw[h,hne] at hce;cases hce
   .exact⟨(hS.con c h).1,(hS.con c h).2.2⟩
  .have:=hS.t6;rw[hS3.1,g1,Y2b];omega
  .have:=hS.f8;rw[hS4.1,hS3.2.1,g2,h3];omega
  .simp only;rw[hS4.2.2,hS3.1,g1,Y2b,Y1b]
end
end Go.Proofs.YtbcejndfbklikaaGreatDoor
end
section
namespace Go.Proofs.YtbcejndfbklikaaGreatDoor
open Go Go.Am
theorem VT.pkle {T:Tbl} (h:VT T):T.pk.length<=T.cols.length:=by
 have:∀ (n:Nat) (v:Int),T.pk[n]? = some v->(n:Int)<=v:=by
  intro n
  induction n with
  | zero=>intro v hv;have:=(h.pk v (Y03 hv)).1;omega
  | succ n ih=>
    intro v hv;have hn:=(Y00.1 hv).1;have h1:=ih _ (Y01 (by omega));have h2:=h.asc n _ v (Y01 (by omega)) hv;omega
 have hp:=h.pk0;have h1:=this (T.pk.length - 1) _ (Y01 (by omega));have h2:=(h.pk _ (Y0p (show T.pk.length - 1 < T.pk.length by omega))).2;omega
section
variable {S:Sch} {i:Nat} {T:Tbl}
theorem Ze3 (v:Int) (h0:0<=v) (h6:v < 6) (n:Nat) (hn:n=T.pk.length) (m:Nat) (hm:m<=6) (hn6:n<=6):Wp (Z28 v n T m) fun _=>True:=by
 subst hn;unfold Z28;refine Wp.cond (fun h=>?_) fun _=>Wp.chk ⟨by omega,by omega⟩ (Wp.chk ⟨by omega,by omega⟩ (Wp.ret trivial));exact Wp.get h0 (by simpa using h) fun _ _ _=>Wp.ret trivial
theorem Zgh (x:Stp) (hT:S.tables[i]? = some T) (hS:VS S) (hn:strEq T.name x.table=true) (hkd:x.kind=7):Wp (Z3x S i x.other) fun q=>q.2=0->EvT S q.1.tables x:=by
 have hnm:=hn;have hL:=LIM_eq;have hV:=hS.tab T (Y03 hT);have hpk:=hV.pk6;have hc6:=hV.cols6;have hc0:=hV.cols0;have hi:=(Y00.1 hT).1;unfold Z3x;refine Wp.bind (Z1d S x.other) fun v _ hv=>Wp.cond (fun _=>Wp.ret (by simp)) fun hf=>Wp.getN hT (Wp.get hv.1 (hv.2.1 (by simpa using hf)).1 fun O hO hOm=>Wp.cond (fun _=>Wp.ret (by simp)) fun hiv=>Wp.bind (Z7k _ _) fun b _ hb=>Wp.cond (fun _=>Wp.ret (by simp)) fun hb1=>?_);have hVO:=hS.tab O hOm;have hOpk:O.pk=seqI T.pk.length:=hb (by simpa using hb1);have hOl:T.pk.length<=O.cols.length:=by
  have:=hVO.pkle
  rw[hOpk] at this;simpa[seqI] using this
 have hO6:=hVO.cols6;have hO0:=hVO.cols0;refine Wp.for (fun i _=>∀ (n:Nat) (v:Int),n < i->T.pk[n]? = some v->(colF T v).kind=(colF O n).kind) (by intro n v h;omega) ?_ fun _ hKK=>?_
 .intro j col s next hx hm hKK hn;have hj:=(Y00.1 hx).1;have hp:=hV.pk col hm;unfold Zi9;exact Wp.get hp.1 hp.2 fun a ha _=>Wp.get (by omega) (by omega) fun b hb _=>Wp.cond (fun _=>Wp.ret (by simp)) fun hkk=>hn () (Zju (p:=fun n v=>(colF T v).kind=(colF O n).kind) hKK hx (by simp only[colF,ha,hb,Option.getD_some];simpa using hkk))
 refine Wp.bind (Z8u S _) fun q _ hq=>Wp.cond (fun _=>Wp.ret (by simp)) fun _=>Wp.bind (Z3t _ _ fun x _=>Wp.ret (by simp)) fun _ _ _=>Wp.cond (fun _=>Wp.ret (by simp)) fun _=>?_;refine Wp.bind (Za5 q.1 x.other _ (fun v=>0<=v/\v < 6) (fun v hv=>Ze3 v hv.1 hv.2 _ rfl _ hc6 hpk) (fun f hf _=>(hS.fk f (hq.2.2 f hf)).2) (fun c hc _=>?_)) fun S2 _ hS2=>?_
 .rw[hq.2.1] at hc;exact⟨(hS.con c hc).1,fun h=>⟨h,(hS.con c hc).2.2⟩⟩
 refine Wp.count (fun _ (S3:Sch)=>S3.fks.length=S2.fks.length/\S3.tables=S2.tables) ⟨rfl,rfl⟩ ?_ fun S3 h3=>Wp.count (fun _ (S4:Sch)=>S4.cons.length=S3.cons.length/\S4.tables=S2.tables) ⟨rfl,h3.2⟩ ?_ fun S4 h4=>?_
 .rintro k S3 next hk ⟨hl,ht⟩ hn;unfold Zi6;exact Wp.get (by omega) (by omega) fun _ _ _=>Wp.cond (fun _=>hn _ ⟨by simpa using hl,ht⟩) fun _=>hn _ ⟨hl,ht⟩
 .rintro k S4 next hk ⟨hl,ht⟩ hn;unfold Zi5;exact Wp.get (by omega) (by omega) fun _ _ _=>Wp.cond (fun _=>hn _ ⟨by simpa using hl,ht⟩) fun _=>hn _ ⟨hl,ht⟩
 .unfold Zde;obtain⟨_,O',hO',hOn⟩:=hv.2.1 (by simpa using hf);rw[hO] at hO';cases hO';refine Wp.chk ⟨hOl,hO0,hc0,by omega⟩ (Wp.ret fun _=>.join (j:=v.1.toNat) hkd hT hnm hO hOn ?_ hOpk (fun n v hv=>hKK n v (Y00.1 hv).1 hv) ?_)
  .intro e
   have:(i:Int)=v.1:=by have:=hv.1;omega
   simp[this] at hiv
  .simp only;rw[h4.2,hS2.1,hq.1]
theorem Zcj (x:Stp) (hT:S.tables[i]? = some T) (hS:VS S) (hn:strEq T.name x.table=true) (hkd:x.kind=8):Wp (Z2m S i x) fun q=>q.2=0->EvT S q.1.tables x:=by
 have hnm:=hn;have hL:=LIM_eq;have h6:=hS.t6;have h8:=hS.f8;have h9:=hS.o8;unfold Z2m;refine Wp.getN hT (Wp.bind (Z3q _ _) fun v hv0 hv=>Wp.cond (fun _=>Wp.ret (by simp)) fun h=>Wp.bind (Zcz _ _ _) fun q hq _=>Wp.cond (fun h=>Wp.ret fun h0=>by simp only at h0;simp[h0] at h) fun hq0=>Wp.bind (Z6w _) fun e he _=>Wp.cond (fun h=>Wp.ret fun h0=>by simp only at h0;simp[h0] at h) fun he0=>Wp.get hv.1 (hv.2.1 (by simpa using h)) fun col hcol _=>Wp.cond (fun _=>Wp.ret (by simp)) fun hkc=>Wp.bind (Z1d _ _) fun w _ hw=>Wp.cond (fun _=>Wp.ret (by simp)) fun hw0=>Wp.bind (Z3t _ _ fun x _=>Wp.ret trivial) fun _ _ _=>Wp.cond (fun _=>Wp.ret (by simp)) fun _=>?_);have hv2:v.2=true:=by simpa using h
 obtain rfl:e=0:=by simpa using he0
 have hq2:q.2=0:=by simpa using hq0
 refine Wp.for (fun k (S1:Sch)=>S1.tables=S.tables/\S1.cons=S.cons/\S1.fks.length<=S.fks.length+k) ⟨rfl,rfl,by omega⟩ ?_ ?_
 .rintro k f S1 next hx hm ⟨h1,h2,h3⟩ hn;have hk:=(Y00.1 hx).1;unfold Zi8;exact Wp.cond (fun _=>Wp.chk (by omega) (hn _ ⟨h1,h2,by simp;omega⟩)) fun _=>hn _ ⟨h1,h2,by omega⟩
 .rintro S1 ⟨h1,h2,_⟩;refine Wp.for (fun k (S2:Sch)=>S2.tables=S.tables/\S2.cons.length<=S.cons.length+k) ⟨h1,by rw[h2];omega⟩ ?_ ?_
  .rintro k f S2 next hx hm ⟨g1,g2⟩ hn;have hk:=(Y00.1 hx).1;unfold Zi7;exact Wp.cond (fun _=>Wp.chk (by omega) (hn _ ⟨g1,by simp;omega⟩)) fun _=>hn _ ⟨g1,by omega⟩
  .rintro S2 ⟨g1,_⟩;refine Wp.bind (Z76 _ _ (by rw[g1];omega)) fun _ _ hI=>Wp.ret fun _=>.part (b:=q.1) hkd hT hnm (by rw[hv0,<- hv2]) hcol (by rw[hq,<- hq2]) he (by simpa using hkc) (hw.2.2 hw0) ?_;simp only;rw[hI.2.2,g1]
theorem Ze4 (a b:List Fk):Wp (Z18 a b (fun x y=>Z0b x y)) fun _=>True:=by
 unfold Z18;refine Wp.cond (fun _=>Wp.ret trivial) fun h=>?_;have hl:a.length=b.length:=by simp at h;omega
 refine Wp.for (fun _ _=>True) trivial (fun i x s next hx _ _ hn=>?_) fun _ _=>Wp.ret trivial;have hi:=(Y00.1 hx).1;exact Wp.get (by omega) (by omega) fun _ _ _=>Wp.bind (Z40 _ _) fun _ _ _=>Wp.cond (fun _=>Wp.ret trivial) fun _=>hn () trivial
theorem Zgl (a b:List Cons):Wp (Z1v a b) fun _=>True:=by
 unfold Z1v;refine Wp.cond (fun _=>Wp.ret trivial) fun h=>?_;have hl:a.length=b.length:=by simp at h;omega
 refine Wp.for (fun _ _=>True) trivial (fun i x s next hx _ _ hn=>?_) fun _ _=>Wp.ret trivial;have hi:=(Y00.1 hx).1;exact Wp.get (by omega) (by omega) fun _ _ _=>Wp.cond (fun _=>Wp.ret trivial) fun _=>hn () trivial
theorem Zhn (a b:ByteArray) (hS:VS S):Wp (Z36 S a b) fun _=>True:=by
 have hL:=LIM_eq;have h8:=hS.f8;have h9:=hS.o8;unfold Z36;refine Wp.for (fun k (s:List Fk × List Fk)=>s.1.length<=k/\s.2.length<=k) (by simp) ?_ ?_
 .rintro k f s next hx hm ⟨h1,h2⟩ hn;have hk:=(Y00.1 hx).1;refine Wp.cond (fun _=>Wp.ret trivial) fun _=>Wp.cond (fun _=>Wp.ret trivial) fun _=>Wp.cond (fun _=>Wp.app (by simp;omega) (hn _ ⟨by simp;omega,by simp;omega⟩)) fun _=>Wp.cond (fun _=>Wp.app (by simp;omega) (hn _ ⟨by simp;omega,by simp;omega⟩)) fun _=>hn _ ⟨by simp;omega,by simp;omega⟩
 .rintro s _;refine Wp.bind (Ze4 _ _) fun _ _ _=>Wp.cond (fun _=>Wp.ret trivial) fun _=>?_;refine Wp.for (fun k (s:List Cons × List Cons)=>s.1.length<=k/\s.2.length<=k) (by simp) ?_ ?_
  .rintro k f s next hx hm ⟨h1,h2⟩ hn;have hk:=(Y00.1 hx).1;refine Wp.cond (fun _=>Wp.app (by simp;omega) (hn _ ⟨by simp;omega,by simp;omega⟩)) fun _=>Wp.cond (fun _=>Wp.app (by simp;omega) (hn _ ⟨by simp;omega,by simp;omega⟩)) fun _=>hn _ ⟨by simp;omega,by simp;omega⟩
  .rintro s _;exact Wp.bind (Zgl _ _) fun _ _ _=>Wp.cond (fun _=>Wp.ret trivial) fun _=>Wp.ret trivial
theorem Zf6 (x:Stp) (hT:S.tables[i]? = some T) (hS:VS S) (hn:strEq T.name x.table=true) (hkd:x.kind=9):Wp (Z3m S i x) fun q=>q.2=0->EvT S q.1.tables x:=by
 have hL:=LIM_eq;have hV:=hS.tab T (Y03 hT);have hpk:=hV.pk6;have hp0:=hV.pk0;have hc6:=hV.cols6;have hc0:=hV.cols0;unfold Z3m;refine Wp.bind (Z1d S _) fun v _ hv=>Wp.cond (fun _=>Wp.ret (by simp)) fun hf=>Wp.getN hT (Wp.get hv.1 (hv.2.1 (by simpa using hf)).1 fun O hO hOm=>Wp.cond (fun _=>Wp.ret (by simp)) fun hiv=>Wp.bind (Za7 _ _) fun b _ hb=>Wp.cond (fun _=>Wp.ret (by simp)) fun hb0=>Wp.bind (Z7k _ _) fun c _ hc=>Wp.cond (fun _=>Wp.ret (by simp)) fun hc0'=>Wp.bind (Zhn _ _ hS) fun _ _ _=>Wp.cond (fun h=>Wp.ret fun h0=>by simp only at h0;simp[h0] at h) fun _=>Wp.chk ⟨⟨hp0,by omega⟩,hc0,by omega⟩ (Wp.ret fun _=>?_));obtain⟨_,O',hO',hOn⟩:=hv.2.1 (by simpa using hf);rw[hO] at hO';cases hO';refine .merge (j:=v.1.toNat) hkd hT hn hO hOn (fun e=>?_) (hb (by simpa using hb0)) (hc (by simpa using hc0')) rfl
 have:(i:Int)=v.1:=by have:=hv.1;omega
 simp[this] at hiv
end
theorem Zqe (S:Sch) (x:Stp) (hS:VS S) (hl:x.cols.length<=1048576) (hk:1<=x.kind/\x.kind<=16):Wp (Z4o S x) fun q=>q.2=0->EvT S q.1.tables x:=by
 have hL:=LIM_eq;have h6:=hS.t6;have h8:=hS.f8;have h9:=hS.o8;have kk:∀ {n:Int},(x.kind == n)=true->x.kind=n:=fun h=>by simpa using h
 have nk:∀ {n:Int},(x.kind == n)=false->x.kind≠n:=fun h=>by simpa using h
 unfold Z4o;refine Wp.cond (fun h=>Wp.chk (by omega) (Wp.ret fun _=>.rule (by have:=kk h;omega) rfl)) fun n13=>Wp.cond (fun h=>(Zcl _ _).mono fun _ _ he _=>.rule (by have:=kk h;omega) he) fun n14=>Wp.cond (fun h=>Wp.chk (by omega) (Wp.ret fun _=>.rule (by have:=kk h;omega) rfl)) fun n15=>Wp.cond (fun h=>(Z8u _ _).mono fun _ _ he _=>.rule (by have:=kk h;omega) he.1) fun n16=>Wp.cond (fun h=>Zf7 _ _ (by omega) (kk h)) fun n10=>?_;refine Wp.bind (Z1d _ _) fun v _ hv=>Wp.cond (fun _=>Wp.ret (by simp)) fun hf=>?_;obtain⟨hv1,T,hT,hn⟩:=hv.2.1 (by simpa using hf);refine Wp.cond (fun h=>Zf5 _ _ _ (by omega) hT hn (kk h)) fun n4=>Wp.cond (fun h=>Zgg x hT hS hl hn (kk h)) fun n6=>Wp.cond (fun h=>Zgh x hT hS hn (kk h)) fun n7=>Wp.cond (fun h=>Zcj x hT hS hn (kk h)) fun n8=>Wp.cond (fun h=>Zf6 x hT hS hn (kk h)) fun n9=>Wp.cond (fun h=>Zhq x ⟨T,Y03 hT,hn⟩ (kk h)) fun n11=>Wp.cond (fun h=>Zcx x hT hS hn (kk h)) fun n12=>Wp.cond (fun h=>Zhr x hT (hS.tab T (Y03 hT)) hn (kk h)) fun n1=>Zf8 x hT hS hn ?_
 have:=nk n13;have:=nk n14;have:=nk n15;have:=nk n16;have:=nk n10;have:=nk n4;have:=nk n6;have:=nk n7;have:=nk n8;have:=nk n9;have:=nk n11;have:=nk n12;have:=nk n1
 omega
def SmallX (x:Stp):Prop:=x.cols.length<=1048576/\x.newTable.cols.length<=1048576/\x.newTable.pk.length<=1048576/\x.fk.cols.length<=1048576
theorem Zlv (S:Sch) (x:Stp) (hx:SmallX x):Wp (Z0f S x) fun r=>r.2=0->VS r.1/\VS S/\EvT S r.1.tables x:=by
 have hL:=LIM_eq;unfold Z0f;refine Wp.bind (Z5c S) fun e _ he=>Wp.cond (fun h=>Wp.ret fun h0=>?_) fun h1=>Wp.bind (Z74 x) fun e2 _ hk=>Wp.cond (fun h=>Wp.ret fun h0=>?_) fun hk0=>?_
 .simp only at h0;rw[h0] at h;cases h
 .simp only at h0;rw[h0] at h;cases h
 have hS:VS S:=he (by simpa using h1);refine Wp.chk ⟨⟨⟨by have:=hS.t6;omega,by have:=hS.f8;omega,by have:=hS.o8;omega⟩,fun T hT=>⟨by have:=(hS.tab T hT).cols6;omega,by have:=(hS.tab T hT).pk6;omega⟩,fun f hf=>by have:=(hS.fk f hf).1;omega⟩,by obtain⟨a,b,c,d⟩:=hx;exact⟨by omega,by omega,by omega,by omega⟩⟩ ?_;refine Wp.bind (Zqe S x hS hx.1 (hk (by simpa using hk0))) fun q _ hE=>Wp.cond (fun h=>Wp.ret fun h0=>?_) fun hq=>Wp.bind (Z5c q.1) fun e3 _ he3=>Wp.cond (fun h=>Wp.ret fun h0=>?_) fun h3=>Wp.ret fun _=>⟨he3 (by simpa using h3),hS,hE (by simpa using hq)⟩
 .simp only at h0;rw[h0] at h;cases h
 .simp only at h0;rw[h0] at h;cases h
end Go.Proofs.YtbcejndfbklikaaGreatDoor
end
namespace Go.Proofs.YtbcejndfbklikaaGreatDoor
section
open Go.Am
instance i_evolution_Apply (s_:Sch) (step:Stp):Con (Z0f s_ step) prog 107 [.agg s_.enc,.agg step.enc] (fun r=>.tup [.agg (r.1.enc.map RC.d),.one (.d (.int .i64 r.2))]):=⟨fun r hm=>Z5j s_ step r hm⟩
def Z0i (s_:Sch) (script:List Stp):Option ((List Sch) × Int):=
 (bif decide (6 < (script.length:Int)) then (some ([],2)) else (bindK (Z0n s_) fun v4=>(bif (v4 != 0) then (some ([],v4)) else (bindK (Z15 s_) fun v6=>(forK (fun (i8:Nat) (x8:Stp) (s8:(List Sch)) next_8=>(getK s8 (i8:Int) fun x10=>(bindK (Z0f x10 x8) fun v11=>(bif (v11.2 != 0) then (some ([],v11.2)) else (appK2 s8 [v11.1] fun _=>(next_8 (s8++[v11.1]))))))) (fun (s8:(List Sch))=>(some (s8,0))) script 0 [v6])))))
theorem Z71 (s_:Sch) (script:List Stp) (r:(List Sch) × Int) (hm:Is (Z0i s_ script) r):PSpec prog 82 [.agg s_.enc,.one (.d (.sl (script.map Stp.enc)))] (.tup [.one (.d (.sl (r.1.map Sch.enc))),.one (.d (.int .i64 r.2))]):=by
 unfold Z0i at hm;refine PSpec.of_vc Tryz.func82 rfl (by kernel_rfl) (n:=48) rfl rfl (by simp) ?_
 try simp[*]
 intro hl2;replace hl2:script.length<=2097152:=by simpa using hl2
 refine r_cond hm ?_ ?_<;>clear hm<;>intro hc3 hm
 .try simp[*]
  obtain rfl:=r_ret hm;exact ret0 (vs:=[_,_]) (by simp[*];try exact⟨rfl,rfl⟩) (by simp[*])
 .try simp[*]
  refine r_call (av:=[.agg s_.enc]) hm (fun v hv=>c_schema_Validate _ v hv) (by simp[*]) ?_;clear hm;intro v4 hvv4 hm
  try simp[*]
  refine r_cond hm ?_ ?_<;>clear hm<;>intro hc5 hm
  .try simp[*]
   obtain rfl:=r_ret hm;exact ret0 (vs:=[_,_]) (by simp[*];try exact⟨rfl,rfl⟩) (by simp[*])
  .try simp[*]
   refine r_call (av:=[.agg s_.enc]) hm (fun v hv=>Z5x _ v hv) (by simp[*]) ?_;clear hm;intro v6 hvv6 hm
   try simp[*]
   refine Wait.for (xs:=script) (s0:=[v6]) (fun i8 s8 e8 h8=>∃ c8_0:C,e8.n=48/\e8.get 7=.one c8_0/\e8.get 23=.one (.d (.sl (script.map Stp.enc)))/\e8.get 24=.one (.d (.int .i64 (script.length:Int)))/\e8.get 25=.one (.d (.int .i64 (i8:Int)))/\Grows h8 3 c8_0 (s8.map Sch.enc)) hm ⟨.own (3,352) ([v6].map Sch.enc),by simp (maxDischargeDepth:=20) [*]⟩ ?_ ?_
   .rintro i8 s8 e8 h8 ⟨c8_0,hn8,h8_7,h8_23,h8_24,h8_25,gc8_0⟩ hlt8 hm;have hlc8_0:=gc8_0.list;have hdc8_0:=gc8_0.toD;have hac8_0:=gc8_0.toA;have huc8_0:=gc8_0.useUp_arr;have hw8:IntKind.i64.wrap ((i8:Int)+1)=(i8:Int)+1:=Y0a _ (by omega)
    try simp[*]
    refine Wait.of (SWP.draw (Plan.then_ [0,1,2,3,4] (.two 5 9 (Plan.then_ [6,7,8,9,10,11] .done) (Plan.then_ [5,6,7,8,10,11] .done))) follows (by kernel_rfl) ?_)
    try simp[*]
    replace hm:=hm.getN;obtain⟨x10,hxx10,hm⟩:=hm
    try simp[*]
    rcases gc8_0.1 with ⟨hzc8_0,hzz⟩ | ⟨lc8_0,hzc8_0,hz1,hz2⟩
    .exact absurd hxx10 (by simp at hzz;subst hzz;simp)
    try simp[*]
    refine⟨?_,?_⟩
    .try simp[*]
     refine r_call (av:=[.agg x10.enc,.agg (script[i8]).enc]) hm (fun v hv=>Z5j _ _ v hv) (by simp[*]) ?_;clear hm;intro v11 hvv11 hm
     try simp[*]
     try refine⟨fun (_:Lab) (_:List C) hl=>hl,?_⟩
     refine r_cond hm ?_ ?_<;>clear hm<;>intro hc13 hm
     .try simp[*]
      obtain rfl:=r_ret hm;exact ret0 (vs:=[_,_]) (by simp[*];try exact⟨rfl,rfl⟩) (by simp[*])
     .try simp[*]
      refine r_app (xs:=s8) (ys:=[v11.1]) (enc:=Sch.enc) hm Zbj (by first | exact Grows.nil | (simp (maxDischargeDepth:=20) [*];done) | (simp (maxDischargeDepth:=20) [*];refine⟨?_,by omega⟩;intro hq;subst hq;simp at hz2<;>omega)) (by simp[*]) (by decide) (by decide) (fun _=>rfl) ?_;clear hm;intro hl15 hm g14
      try simp[*]
      exact BackF.of (s8++[v11.1]) ⟨⟨.own (h8.ep+4,720) ((s8++[v11.1]).map Sch.enc),by simp (maxDischargeDepth:=20) [*]⟩,hm⟩
    .try simp[*]
     refine r_call (av:=[.agg x10.enc,.agg (script[i8]).enc]) hm (fun v hv=>Z5j _ _ v hv) (by simp[*]) ?_;clear hm;intro v1012 hvv1012 hm
     try simp[*]
     try refine⟨fun (_:Lab) (_:List C) hl=>hl,?_⟩
     refine r_cond hm ?_ ?_<;>clear hm<;>intro hc1013 hm
     .try simp[*]
      obtain rfl:=r_ret hm;exact ret0 (vs:=[_,_]) (by simp[*];try exact⟨rfl,rfl⟩) (by simp[*])
     .try simp[*]
      refine r_app (xs:=s8) (ys:=[v1012.1]) (enc:=Sch.enc) hm Zbj (by first | exact Grows.nil | (simp (maxDischargeDepth:=20) [*];done) | (simp (maxDischargeDepth:=20) [*];refine⟨?_,by omega⟩;intro hq;subst hq;simp at hz2<;>omega)) (by simp[*]) (by decide) (by decide) (fun _=>rfl) ?_;clear hm;intro hl1015 hm g1014
      try simp[*]
      exact BackF.of (s8++[v1012.1]) ⟨⟨.own (h8.ep+4,720) ((s8++[v1012.1]).map Sch.enc),by simp (maxDischargeDepth:=20) [*]⟩,hm⟩
   .rintro s8 e8 h8 ⟨c8_0,hn8,h8_7,h8_23,h8_24,h8_25,gc8_0⟩ hm;have hlc8_0:=gc8_0.list;have hdc8_0:=gc8_0.toD;have hac8_0:=gc8_0.toA;have huc8_0:=gc8_0.useUp_arr
    try simp[*]
    obtain rfl:=r_ret hm;exact ret0 (vs:=[_,_]) (by simp[*];try exact⟨rfl,rfl⟩) (by simp[*])
instance i_script_Schemas (s_:Sch) (script:List Stp):Con (Z0i s_ script) prog 82 [.agg s_.enc,.one (.d (.sl (script.map Stp.enc)))] (fun r=>.tup [.one (.d (.sl (r.1.map Sch.enc))),.one (.d (.int .i64 r.2))]):=⟨fun r hm=>Z71 s_ script r hm⟩
def Z3r (s_:Sch) (script:List Stp):Option (Sch × Int):=
 (bindK (Z0i s_ script) fun v3=>(bif (v3.2 != 0) then (some ((Sch.mk [] [] []),v3.2)) else (chkK (okI ((v3.1.length:Int) - 1)) (getK v3.1 ((v3.1.length:Int) - 1) fun x7=>(some (x7,0))))))
instance c_script_Apply (s_:Sch) (script:List Stp):Con (Z3r s_ script) prog 50 [.agg s_.enc,.one (.d (.sl (script.map Stp.enc)))] (fun r=>.tup [.agg (r.1.enc.map RC.d),.one (.d (.int .i64 r.2))]):=by
 unfold Z3r;exact go 24 Tryz.func50 rfl (by kernel_rfl) rfl rfl (by simp)
def Z0o (g_:Gr):Option ((List Sch) × Int):=
 (bif decide (8<=(g_.edges.length:Int)) then (some ([],2)) else (bindK (Z0n g_.base) fun v4=>(bif (v4 != 0) then (some ([],v4)) else (bindK (Z15 g_.base) fun v6=>(forK (fun (i8:Nat) (x8:Edg) (s8:(List Sch)) next_8=>(bif decide (x8.parent < 0) then (some ([],1)) else (bif decide ((i8:Int) < x8.parent) then (some ([],1)) else (getK s8 x8.parent fun x12=>(bindK (Z3r x12 x8.script) fun v13=>(bif (v13.2 != 0) then (some ([],v13.2)) else (appK2 s8 [v13.1] fun _=>(next_8 (s8++[v13.1]))))))))) (fun (s8:(List Sch))=>(some (s8,0))) g_.edges 0 [v6])))))
theorem Z81 (g_:Gr) (r:(List Sch) × Int) (hm:Is (Z0o g_) r):PSpec prog 30 [.agg g_.enc] (.tup [.one (.d (.sl (r.1.map Sch.enc))),.one (.d (.int .i64 r.2))]):=by
 unfold Z0o at hm;refine PSpec.of_vc Tryz.func30 rfl (by kernel_rfl) (n:=61) rfl rfl (by simp) ?_
 try simp[*]
 intro hl2;replace hl2:g_.edges.length<=2097152:=by simpa using hl2
 refine r_cond hm ?_ ?_<;>clear hm<;>intro hc3 hm
 .try simp[*]
  obtain rfl:=r_ret hm;exact ret0 (vs:=[_,_]) (by simp[*];try exact⟨rfl,rfl⟩) (by simp[*])
 .try simp[*]
  refine r_call (av:=[.agg g_.base.enc]) hm (fun v hv=>c_schema_Validate _ v hv) (by simp[*]) ?_;clear hm;intro v4 hvv4 hm
  try simp[*]
  refine r_cond hm ?_ ?_<;>clear hm<;>intro hc5 hm
  .try simp[*]
   obtain rfl:=r_ret hm;exact ret0 (vs:=[_,_]) (by simp[*];try exact⟨rfl,rfl⟩) (by simp[*])
  .try simp[*]
   refine r_call (av:=[.agg g_.base.enc]) hm (fun v hv=>Z5x _ v hv) (by simp[*]) ?_;clear hm;intro v6 hvv6 hm
   try simp[*]
   refine Wait.for (xs:=g_.edges) (s0:=[v6]) (fun i8 s8 e8 h8=>∃ c8_0:C,e8.n=61/\e8.get 5=.one c8_0/\e8.get 25=.one (.d (.sl (g_.edges.map Edg.enc)))/\e8.get 26=.one (.d (.int .i64 (g_.edges.length:Int)))/\e8.get 27=.one (.d (.int .i64 (i8:Int)))/\Grows h8 3 c8_0 (s8.map Sch.enc)) hm ⟨.own (3,368) ([v6].map Sch.enc),by simp (maxDischargeDepth:=20) [*]⟩ ?_ ?_
   .rintro i8 s8 e8 h8 ⟨c8_0,hn8,h8_5,h8_25,h8_26,h8_27,gc8_0⟩ hlt8 hm;have hlc8_0:=gc8_0.list;have hdc8_0:=gc8_0.toD;have hac8_0:=gc8_0.toA;have huc8_0:=gc8_0.useUp_arr;have hw8:IntKind.i64.wrap ((i8:Int)+1)=(i8:Int)+1:=Y0a _ (by omega)
    try simp[*]
    refine Zb5 hm ?_ ?_<;>clear hm<;>intro hc10 hm
    .try simp[*]
     obtain rfl:=r_ret hm;exact ret0 (vs:=[_,_]) (by simp[*];try exact⟨rfl,rfl⟩) (by simp[*])
    .try simp[*]
     refine r_cond hm ?_ ?_<;>clear hm<;>intro hc11 hm
     .try simp[*]
      obtain rfl:=r_ret hm;exact ret0 (vs:=[_,_]) (by simp[*];try exact⟨rfl,rfl⟩) (by simp[*])
     .try simp[*]
      refine Wait.of (SWP.draw (Plan.then_ [0,1,2,3,4,5,6] (.two 7 11 (Plan.then_ [8,9,10,11,12,13] .done) (Plan.then_ [7,8,9,10,12,13] .done))) follows (by kernel_rfl) ?_)
      try simp[*]
      replace hm:=hm.get;obtain⟨x12,h0x12,hxx12,hm⟩:=hm
      try simp[*]
      rcases gc8_0.1 with ⟨hzc8_0,hzz⟩ | ⟨lc8_0,hzc8_0,hz1,hz2⟩
      .exact absurd hxx12 (by simp at hzz;subst hzz;simp)
      try simp[*]
      refine⟨?_,?_⟩
      .try simp[*]
       refine r_call (av:=[.agg x12.enc,.one (.d (.sl ((g_.edges[i8].script).map Stp.enc)))]) hm (fun v hv=>c_script_Apply _ _ v hv) (by simp[*]) ?_;clear hm;intro v13 hvv13 hm
       try simp[*]
       try refine⟨fun (_:Lab) (_:List C) hl=>hl,?_⟩
       refine r_cond hm ?_ ?_<;>clear hm<;>intro hc15 hm
       .try simp[*]
        obtain rfl:=r_ret hm;exact ret0 (vs:=[_,_]) (by simp[*];try exact⟨rfl,rfl⟩) (by simp[*])
       .try simp[*]
        refine r_app (xs:=s8) (ys:=[v13.1]) (enc:=Sch.enc) hm Zbj (by first | exact Grows.nil | (simp (maxDischargeDepth:=20) [*];done) | (simp (maxDischargeDepth:=20) [*];refine⟨?_,by omega⟩;intro hq;subst hq;simp at hz2<;>omega)) (by simp[*]) (by decide) (by decide) (fun _=>rfl) ?_;clear hm;intro hl17 hm g16
        try simp[*]
        exact BackF.of (s8++[v13.1]) ⟨⟨.own (h8.ep+4,928) ((s8++[v13.1]).map Sch.enc),by simp (maxDischargeDepth:=20) [*]⟩,hm⟩
      .try simp[*]
       refine r_call (av:=[.agg x12.enc,.one (.d (.sl ((g_.edges[i8].script).map Stp.enc)))]) hm (fun v hv=>c_script_Apply _ _ v hv) (by simp[*]) ?_;clear hm;intro v1014 hvv1014 hm
       try simp[*]
       try refine⟨fun (_:Lab) (_:List C) hl=>hl,?_⟩
       refine r_cond hm ?_ ?_<;>clear hm<;>intro hc1015 hm
       .try simp[*]
        obtain rfl:=r_ret hm;exact ret0 (vs:=[_,_]) (by simp[*];try exact⟨rfl,rfl⟩) (by simp[*])
       .try simp[*]
        refine r_app (xs:=s8) (ys:=[v1014.1]) (enc:=Sch.enc) hm Zbj (by first | exact Grows.nil | (simp (maxDischargeDepth:=20) [*];done) | (simp (maxDischargeDepth:=20) [*];refine⟨?_,by omega⟩;intro hq;subst hq;simp at hz2<;>omega)) (by simp[*]) (by decide) (by decide) (fun _=>rfl) ?_;clear hm;intro hl1017 hm g1016
        try simp[*]
        exact BackF.of (s8++[v1014.1]) ⟨⟨.own (h8.ep+4,928) ((s8++[v1014.1]).map Sch.enc),by simp (maxDischargeDepth:=20) [*]⟩,hm⟩
   .rintro s8 e8 h8 ⟨c8_0,hn8,h8_5,h8_25,h8_26,h8_27,gc8_0⟩ hm;have hlc8_0:=gc8_0.list;have hdc8_0:=gc8_0.toD;have hac8_0:=gc8_0.toA;have huc8_0:=gc8_0.useUp_arr
    try simp[*]
    obtain rfl:=r_ret hm;exact ret0 (vs:=[_,_]) (by simp[*];try exact⟨rfl,rfl⟩) (by simp[*])
instance i_versions_Schemas (g_:Gr):Con (Z0o g_) prog 30 [.agg g_.enc] (fun r=>.tup [.one (.d (.sl (r.1.map Sch.enc))),.one (.d (.int .i64 r.2))]):=⟨fun r hm=>Z81 g_ r hm⟩
def Z3v (g_:Gr):Option Int:=
 (bindK (Z0o g_) fun v2=>(some v2.2))
instance c_versions_Validate (g_:Gr):Con (Z3v g_) prog 21 [.agg g_.enc] (fun r=>.one (.d (.int .i64 r))):=by
 unfold Z3v;exact go 11 Tryz.func21 rfl (by kernel_rfl) rfl rfl (by simp)
def Z6d (g_:Gr) (version:Int):Option (Sch × Int):=
 (bindK (Z0o g_) fun v3=>(bif (v3.2 != 0) then (some ((Sch.mk [] [] []),v3.2)) else (bif decide (version < 0) then (some ((Sch.mk [] [] []),1)) else (bif decide ((v3.1.length:Int)<=version) then (some ((Sch.mk [] [] []),1)) else (getK v3.1 version fun x8=>(some (x8,0)))))))
instance c_versions_Schema (g_:Gr) (version:Int):Con (Z6d g_ version) prog 13 [.agg g_.enc,.one (.d (.int .i64 version))] (fun r=>.tup [.agg (r.1.enc.map RC.d),.one (.d (.int .i64 r.2))]):=by
 unfold Z6d;exact go 30 Tryz.func13 rfl (by kernel_rfl) rfl rfl (by simp)
end
section
open Go Go.Am
theorem Zjd {α:Type} {xs:List α} {x y:α} {i:Nat} (h:(xs++[x])[i]? = some y):xs[i]? = some y\/(i=xs.length/\y=x):=by
 rcases Y0t i xs.length with h1 | h1
 .rw[Y0j h1] at h;exact .inl h
 .have h2:=(Y00.1 h).1;obtain rfl:i=xs.length:=by simp at h2;omega
  simp at h;exact .inr ⟨rfl,h.symm⟩
structure ScrOK (S:Sch) (script:List Stp) (all:List Sch):Prop where
 len:all.length=script.length+1
 l6:script.length<=6
 vs:∀ T ∈ all,VS T
 fst:all[0]? = some S
 step:∀ (i:Nat) (x:Stp) (y z:Sch),script[i]? = some x->all[i]? = some y->all[i+1]? = some z->Z0f y x=some (z,0)
theorem Zcg (S:Sch) (script:List Stp) (hx:∀ x ∈ script,SmallX x):Wp (Z0i S script) fun r=>r.2=0->ScrOK S script r.1:=by
 have hL:=LIM_eq;unfold Z0i;refine Wp.cond (fun _=>Wp.ret (by simp)) fun h6=>Wp.bind (Z5c S) fun e _ he=>Wp.cond (fun h=>Wp.ret fun h0=>?_) fun h1=>?_
 .simp only at h0;rw[h0] at h;cases h
 have hS:VS S:=he (by simpa using h1);have hl:script.length<=6:=by simp at h6;omega
 refine Wp.bind (Z5r S (by have:=hS.t6;omega) (by have:=hS.f8;omega)) fun S0 _ hS0=>?_;subst hS0;refine Wp.for (fun i (s:List Sch)=>s.length=i+1/\(∀ T ∈ s,VS T)/\s[0]? = some S0/\∀ (j:Nat) (x:Stp) (y z:Sch),script[j]? = some x->s[j]? = some y->s[j+1]? = some z->Z0f y x=some (z,0)) ⟨rfl,by simpa using hS,rfl,fun j x y z _ _ hz=>by simp at hz⟩ ?_ ?_
 .rintro i x s next hx1 hm ⟨hs,hv,hf,hI⟩ hn;have hi:=(Y00.1 hx1).1;refine Wp.get (by omega) (by omega) fun y hy _=>Wp.bind (Zlv y x (hx x hm)) fun r hr0 hr=>Wp.cond (fun h=>Wp.ret fun h0=>?_) fun h2=>Wp.app (by simp;omega) (hn _ ⟨by simp;omega,fun T hT=>?_,by rw[Y0j (by omega)];exact hf,fun j x' y' z' hx' hy' hz'=>?_⟩)
  .simp only at h0;rw[h0] at h;cases h
  .rcases Y02.1 hT with h | h
   .exact hv T h
   .rw[Y20.1 h];exact (hr (by simpa using h2)).1
  .have hy2:s[j]? = some y':=by
    rcases Zjd hy' with h | ⟨h,_⟩
    .exact h
    .have:=(Y00.1 hz').1
     simp at this;omega
   rcases Zjd hz' with h | ⟨h,rfl⟩
   .exact hI j x' y' z' hx' hy2 h
   .obtain rfl:j=i:=by omega
    simp only[Int.toNat_natCast] at hy;rw[hx1] at hx';rw[hy] at hy2;cases hx';cases hy2;rw[hr0,<- show r.2=0 by simpa using h2]
 .rintro s ⟨hs,hv,hf,hI⟩;exact Wp.ret fun _=>⟨hs,hl,hv,hf,hI⟩
theorem Za4 (S:Sch) (script:List Stp) (hx:∀ x ∈ script,SmallX x):Wp (Z3r S script) fun r=>r.2=0->∃ all,Z0i S script=some (all,0)/\ScrOK S script all/\all[script.length]? = some r.1:=by
 unfold Z3r;refine Wp.bind (Zcg S script hx) fun r hr0 hr=>Wp.cond (fun h=>Wp.ret fun h0=>?_) fun h1=>?_
 .simp only at h0;rw[h0] at h;cases h
 .have h2:=hr (by simpa using h1);have hl:=h2.len;refine Wp.chk ⟨by have:=h2.l6;omega,by have:=h2.l6;omega⟩ (Wp.get (by omega) (by omega) fun T hT _=>Wp.ret fun _=>⟨r.1,by rw[hr0,<- show r.2=0 by simpa using h1],h2,?_⟩);rw[<- hT];congr 1;omega
theorem ScrOK.last {S:Sch} {script:List Stp} {all:List Sch} (h:ScrOK S script all) {T:Sch} (hT:all[script.length]? = some T):VS T:=h.vs T (Y03 hT)
def Zs3 (g:Gr):Prop:=∀ (i:Nat) (e:Edg),g.edges[i]? = some e->0<=e.parent/\e.parent<=i
structure VerOK (g:Gr) (Ss:List Sch):Prop where
 edges:Zs3 g
 l7:g.edges.length<=7
 len:Ss.length=g.edges.length+1
 vs:∀ T ∈ Ss,VS T
 edge:∀ (i:Nat) (e:Edg) (P C:Sch),g.edges[i]? = some e->Ss[e.parent.toNat]? = some P->Ss[i+1]? = some C->Z3r P e.script=some (C,0)
theorem Zar (g:Gr) (hx:∀ e ∈ g.edges,∀ x ∈ e.script,SmallX x):Wp (Z0o g) fun r=>r.2=0->VerOK g r.1:=by
 have hL:=LIM_eq;unfold Z0o;refine Wp.cond (fun _=>Wp.ret (by simp)) fun h6=>Wp.bind (Z5c _) fun e _ he=>Wp.cond (fun h=>Wp.ret fun h0=>?_) fun h1=>?_
 .simp only at h0;rw[h0] at h;cases h
 have hS:VS g.base:=he (by simpa using h1);have hl:g.edges.length<=7:=by simp at h6;omega
 refine Wp.bind (Z5r g.base (by have:=hS.t6;omega) (by have:=hS.f8;omega)) fun S0 _ hS0=>?_;rw[hS0];refine Wp.for (fun i (s:List Sch)=>s.length=i+1/\(∀ T ∈ s,VS T)/\(∀ (j:Nat) (e:Edg),j < i->g.edges[j]? = some e->0<=e.parent/\e.parent<=j)/\∀ (j:Nat) (e:Edg) (P C:Sch),j < i->g.edges[j]? = some e->s[e.parent.toNat]? = some P->s[j+1]? = some C->Z3r P e.script=some (C,0))
  ⟨rfl,by simpa using hS,by intro j e h;omega,by intro j e P C h;omega⟩ ?_ ?_
 .rintro i x s next hx1 hm ⟨hs,hv,hI,hE⟩ hn;have hi:=(Y00.1 hx1).1;refine Wp.cond (fun _=>Wp.ret (by simp)) fun h2=>Wp.cond (fun _=>Wp.ret (by simp)) fun h3=>?_;have a2:0<=x.parent:=by simpa using h2
  have a3:x.parent<=i:=by simpa using h3
  refine Wp.get (by omega) (by omega) fun y hy _=>Wp.bind (Za4 y x.script (hx x hm)) fun r hr0 hr=>Wp.cond (fun h=>Wp.ret fun h0=>?_) fun h2=>Wp.app (by simp;omega) (hn _ ⟨by simp;omega,fun T hT=>?_,fun j e hj he=>?_,fun j e P C hj he hP hC=>?_⟩)
  .simp only at h0;rw[h0] at h;cases h
  .rcases Y02.1 hT with h | h
   .exact hv T h
   .rw[Y20.1 h];obtain⟨all,_,ha,hl⟩:=hr (by simpa using h2);exact ha.last hl
  .rcases Y0t j i with h | h
   .exact hI j e h he
   .obtain rfl:j=i:=by omega
    rw[hx1] at he;cases he;exact⟨a2,a3⟩
  .rcases Y0t j i with h | h
   .have hp:=hI j e h he;rw[Y0j (by omega)] at hP hC;exact hE j e P C h he hP hC
   .obtain rfl:j=i:=by omega
    rw[hx1] at he;cases he;rw[Y0j (by omega),hy] at hP;rw[Y13 (by omega),hs,Nat.sub_self] at hC;cases hP;cases hC;rw[hr0,<- show r.2=0 by simpa using h2]
 .rintro s ⟨hs,hv,hI,hE⟩;exact Wp.ret fun _=>⟨fun i e he=>hI i e (Y00.1 he).1 he,hl,hs,hv,fun i e P C he=>hE i e P C (Y00.1 he).1 he⟩
end
section
open Go.Am
def Z1e (t:Tbl) (row:List GV):Option Int:=
 (bif ((row.length:Int) != (t.cols.length:Int)) then (some 3) else (forK (fun (i6:Nat) (x6:GV) (s6:Unit) next_6=>(bindK (Z0y x6) fun v8=>(bif (v8 != 0) then (some v8) else (bif (x6.kind == 0) then (getK t.cols (i6:Int) fun x11=>(bif !x11.nullable then (some 8) else (bif (x6.kind != 0) then (bif (x6.kind != x11.kind) then (some 7) else (next_6 ())) else (next_6 ())))) else (bif (x6.kind != 0) then (getK t.cols (i6:Int) fun x16=>(bif (x6.kind != x16.kind) then (some 7) else (next_6 ()))) else (next_6 ())))))) (fun (s6:Unit)=>(some 0)) row 0 ()))
instance c_instance_ConformsRow (t:Tbl) (row:List GV):Con (Z1e t row) prog 68 [.agg t.enc,.one (.d (.sl (row.map GV.enc)))] (fun r=>.one (.d (.int .i64 r))):=by
 unfold Z1e;have l1:LH (σ:=Unit) 16 [2,14,15] []:=.intro;have p1:PH [11] (Plan.then_ [0,1,2,3,4,5,6,7,8,9,10,11,12,13] .done):=.intro;exact go 53 Tryz.func68 rfl (by kernel_rfl) rfl rfl (by simp)
def Z4p (a:List GV) (b:List GV):Option Int:=
 (countK (fun (i3:Nat) (s3:Unit) next_3=>(getK a (i3:Int) fun x4=>(getK b (i3:Int) fun x5=>(bindK (Z35 x4 x5) fun v6=>(bif (v6 != 0) then (some v6) else (chkK (okI ((i3:Int)+1)) (next_3 ()))))))) (fun (s3:Unit)=>(bindK (Z2r (a.length:Int) (b.length:Int)) fun v11=>(some v11))) (Int.toNat (if (b.length:Int) < (a.length:Int) then (b.length:Int) else (a.length:Int))) 0 ())
instance c_value_CompareRows (a:List GV) (b:List GV):Con (Z4p a b) prog 69 [.one (.d (.sl (a.map GV.enc))),.one (.d (.sl (b.map GV.enc)))] (fun r=>.one (.d (.int .i64 r))):=by
 unfold Z4p;have l1:LH (σ:=Unit) 12 [0,1,11] []:=.intro;have p1:PH [4] (Plan.then_ [0,1,2,3,4,5,6,7,8,9] .done):=.intro;exact go 33 Tryz.func69 rfl (by kernel_rfl) rfl rfl (by simp)
def Z3s (t:Tbl) (row:List GV):Option ((List GV)):=
 (forK (fun (i3:Nat) (x3:Int) (s3:(List GV)) next_3=>(bif decide (0<=x3) then (bif decide (x3 < (row.length:Int)) then (getK row x3 fun x8=>(appK2 s3 [x8] fun _=>(next_3 (s3++[x8])))) else (appK2 s3 [(GV.mk 0 0 empty)] fun _=>(next_3 (s3++[(GV.mk 0 0 empty)])))) else (appK2 s3 [(GV.mk 0 0 empty)] fun _=>(next_3 (s3++[(GV.mk 0 0 empty)]))))) (fun (s3:(List GV))=>(some s3)) t.pk 0 [])
instance c_relation_Key (t:Tbl) (row:List GV):Con (Z3s t row) prog 70 [.agg t.enc,.one (.d (.sl (row.map GV.enc)))] (fun r=>.one (.fresh 0 3 (r.map GV.enc))):=by
 unfold Z3s;have l1:LH (σ:=(List GV)) 12 [1,10,11] [.g 5 3 (fun s=>s.map GV.enc)]:=.intro;exact go 35 Tryz.func70 rfl (by kernel_rfl) rfl rfl (by simp)
def Z0t (s_:Sch) (inst:List Rel):Option Int:=
 (bif ((inst.length:Int) != (s_.tables.length:Int)) then (some 3) else (forK (fun (i6:Nat) (x6:Rel) (s6:Unit) next_6=>(getK s_.tables (i6:Int) fun x8=>(bif !(strEq x6.table x8.name) then (some 3) else (bif decide (24 < (x6.rows.length:Int)) then (some 2) else (forK (fun (i14:Nat) (x14:List GV) (s14:Unit) next_14=>(bindK (Z1e x8 x14) fun v15=>(bif (v15 != 0) then (some v15) else (bif ((i14:Int) == 0) then (next_14 ()) else (chkK (okI ((i14:Int) - 1)) (getK x6.rows ((i14:Int) - 1) fun x19=>(bindK (Z3s x8 x19) fun v20=>(bindK (Z3s x8 x14) fun v21=>(bindK (Z4p v20 v21) fun v22=>(bif (v22 == 0) then (some 9) else (bif decide (0 < v22) then (some 6) else (next_14 ())))))))))))) (fun (s14:Unit)=>(next_6 ())) x6.rows 0 ()))))) (fun (s6:Unit)=>(some 0)) inst 0 ()))
instance c_instance_Conforms (s_:Sch) (inst:List Rel):Con (Z0t s_ inst) prog 34 [.agg s_.enc,.one (.d (.sl (inst.map Rel.enc)))] (fun r=>.one (.d (.int .i64 r))):=by
 unfold Z0t;have l1:LH (σ:=Unit) 20 [2,18,19] []:=.intro;have l2:LH (σ:=Unit) 42 [2,6,7,18,19,20,40,41] []:=.intro;have p1:PH [18] (Plan.then_ [0,1,2,3,4,5,6,8,9,7,10,11,12] .done):=.intro;exact go 75 Tryz.func34 rfl (by kernel_rfl) rfl rfl (by simp)
end
section
open Go Go.Am
def cmpI (a b:Int):Int:=if a < b then -1 else if b < a then 1 else 0
def cmpV (a b:GV):Int:=if cmpI a.kind b.kind≠0 then cmpI a.kind b.kind else if cmpI a.int b.int≠0 then cmpI a.int b.int else cmpS a.text b.text
def cmpR:List GV->List GV->Int
 | [],[]=>0
 | [],_::_=>-1
 | _::_,[]=>1
 | x::xs,y::ys=>if cmpV x y≠0 then cmpV x y else cmpR xs ys
def gvZ:GV:=⟨0,0,empty⟩
def cellF (row:List GV) (c:Int):GV:=if 0<=c then (row[c.toNat]?).getD gvZ else gvZ
def keyF (T:Tbl) (row:List GV):List GV:=T.pk.map (cellF row)
structure CR (T:Tbl) (row:List GV):Prop where
 len:row.length=T.cols.length
 cell:∀ (i:Nat) (x:GV) (c:Col),row[i]? = some x->T.cols[i]? = some c->Z0y x=some 0/\(x.kind=0->c.nullable=true)/\(x.kind≠0->x.kind=c.kind)
def Asc (T:Tbl) (rows:List (List GV)):Prop:=∀ (i:Nat) (a b:List GV),rows[i]? = some a->rows[i+1]? = some b->cmpR (keyF T a) (keyF T b) < 0
structure CF (S:Sch) (inst:List Rel):Prop where
 len:inst.length=S.tables.length
 name:∀ (i:Nat) (x:Rel) (T:Tbl),inst[i]? = some x->S.tables[i]? = some T->strEq x.table T.name=true
 l24:∀ x ∈ inst,x.rows.length<=24
 row:∀ (i:Nat) (x:Rel) (T:Tbl),inst[i]? = some x->S.tables[i]? = some T->∀ row ∈ x.rows,CR T row
 asc:∀ (i:Nat) (x:Rel) (T:Tbl),inst[i]? = some x->S.tables[i]? = some T->Asc T x.rows
def NamesU (S:Sch):Prop:=∀ (i j:Nat) (a b:Tbl),S.tables[i]? = some a->S.tables[j]? = some b->strEq a.name b.name=true->i=j
theorem Zhm (S:Sch):Wp (Z0n S) fun e=>e=0->(∀ T ∈ S.tables,Z0w T=some 0)/\∀ (i:Nat) (a b:Tbl),S.tables[i]? = some a->S.tables[i+1]? = some b->Z6x b.name a.name=false/\strEq b.name a.name=false:=by
 unfold Z0n;refine Wp.cond (fun _=>Wp.ret (by simp)) fun h1=>Wp.cond (fun _=>Wp.ret (by simp)) fun h2=>Wp.cond (fun _=>Wp.ret (by simp)) fun h3=>?_;have a1:S.tables.length<=6:=by simp at h1;omega
 have a2:S.fks.length<=8:=by simp at h2;omega
 have a3:S.cons.length<=8:=by simp at h3;omega
 refine Wp.for (fun i _=>(∀ (j:Nat) (T:Tbl),j < i->S.tables[j]? = some T->VT T/\Z0w T=some 0)/\∀ (j:Nat) (a b:Tbl),j+1 < i->S.tables[j]? = some a->S.tables[j+1]? = some b->Z6x b.name a.name=false/\strEq b.name a.name=false) ⟨by intro j T h;omega,by intro j a b h;omega⟩ ?_ ?_
 .rintro i T s next hx hm ⟨hI,hJ⟩ hn;have hi:=(Y00.1 hx).1;refine Wp.bind (Z93 T) fun e he0 he=>Wp.cond (fun h=>Wp.ret (by intro h0;simp[h0] at h)) fun h4=>?_;obtain rfl:e=0:=by simpa using h4
  have hI':=Z5u hI hx ⟨he rfl,he0⟩;refine Wp.cond (fun h5=>?_) fun h5=>hn () ⟨hI',fun j a b hj=>?_⟩
  .have h5':0 < i:=by simpa using h5
   refine Wp.chk ⟨by omega,by omega⟩ (Wp.get (by omega) (by omega) fun y hy _=>Wp.cond (fun _=>Wp.ret (by simp)) fun h6=>hn () ⟨hI',fun j a b hj ha hb=>?_⟩);rcases Y0t (j+1) i with h | h
   .exact hJ j a b h ha hb
   .obtain rfl:i=j+1:=by omega
    rw[hx] at hb;rw[show (((j+1:Nat):Int) - 1).toNat=j by omega,ha] at hy;cases hb;cases hy;simpa using h6
  .have:¬ (0 < i):=by simpa using h5
   omega
 rintro s ⟨hI,hJ⟩;have hT:=Z77 hI;refine Wp.for (fun _ _=>True) trivial ?_ ?_
 .intro i f s next hx hm _ hn;have hi:=(Y00.1 hx).1;refine Wp.bind (Z72 S (fun T h=>(hT T h).1) f) fun e _ he=>Wp.cond (fun h=>Wp.ret (by intro h0;simp[h0] at h)) fun h4=>?_;refine Wp.chk ⟨by omega,by omega,by omega⟩ (Wp.bind (Z3t _ _ fun x _=>?_) fun _ _ _=>Wp.cond (fun _=>Wp.ret (by simp)) fun _=>hn () trivial);unfold Z2t;exact Wp.bind (Z40 _ _) fun _ _ _=>Wp.ret trivial
 intro s _;refine Wp.for (fun _ _=>True) trivial ?_ ?_
 .intro i f s next hx hm _ hn;have hi:=(Y00.1 hx).1;refine Wp.bind (Z73 S (fun T h=>(hT T h).1) f) fun e _ he=>Wp.cond (fun h=>Wp.ret (by intro h0;simp[h0] at h)) fun h4=>?_;exact Wp.chk ⟨by omega,by omega,by omega⟩ (Wp.bind (Z94 _ _) fun _ _ _=>Wp.cond (fun _=>Wp.ret (by simp)) fun _=>hn () trivial)
 intro s _;exact Wp.ret fun _=>⟨fun T h=>(hT T h).2,fun i a b ha hb=>hJ i a b (Y00.1 hb).1 ha hb⟩
theorem Zlb:∀ {a b c:List UInt8},Op.bytesLess a b=true->Op.bytesLess b c=true->Op.bytesLess a c=true:=by
 intro a
 induction a with
 | nil=>
   intro b c h1 h2;cases c with
   | nil=>cases b<;>simp[Op.bytesLess] at h1 h2
   | cons z c=>simp[Op.bytesLess]
 | cons x a ih=>
   intro b c h1 h2;cases b with
   | nil=>simp[Op.bytesLess] at h1
   | cons y b=>
     cases c with
     | nil=>simp[Op.bytesLess] at h2
     | cons z c=>
       simp only[Op.bytesLess,Y1o,Y0q,decide_eq_true_eq,beq_iff_eq] at h1 h2 |-;rcases h1 with h1 | ⟨rfl,h1⟩<;>rcases h2 with h2 | ⟨rfl,h2⟩
       .exact .inl (UInt8.lt_trans h1 h2)
       .exact .inl h1
       .exact .inl h2
       .exact .inr ⟨rfl,ih h1 h2⟩
theorem Zai:∀ a:List UInt8,Op.bytesLess a a=false
 | []=>rfl
 | x::a=>by simp[Op.bytesLess,Zai a]
theorem Zer:∀ {a b:List UInt8},Op.bytesLess a b=false->a≠b->Op.bytesLess b a=true:=by
 intro a
 induction a with
 | nil=>
   intro b h1 h2;cases b with
   | nil=>exact absurd rfl h2
   | cons y b=>simp[Op.bytesLess] at h1
 | cons x a ih=>
   intro b h1 h2;cases b with
   | nil=>rfl
   | cons y b=>
     simp only[Op.bytesLess,Bool.or_eq_false_iff,Bool.and_eq_false_iff,decide_eq_false_iff_not,beq_eq_false_iff_ne] at h1;simp only[Op.bytesLess,Y1o,Y0q,decide_eq_true_eq,beq_iff_eq]
     by_cases hxy:x=y
     .subst hxy;exact .inr ⟨rfl,ih (h1.2.resolve_left (fun h=>h rfl)) (fun h=>h2 (by rw[h]))⟩
     .refine .inl ?_;have h3:¬ (x.toNat < y.toNat):=fun h=>h1.1 (UInt8.lt_iff_toNat_lt.2 h);have h4:x.toNat≠y.toNat:=fun h=>hxy (UInt8.toNat_inj.1 h);exact UInt8.lt_iff_toNat_lt.2 (by omega)
theorem Z7n {a b:ByteArray}:strEq a b=true↔a.toList=b.toList:=by simp[strEq]
def NamesA (ts:List Tbl):Prop:=ts.Pairwise fun a b=>Z6x a.name b.name=true
theorem Zpj {ts:List Tbl} (h:∀ (i:Nat) (a b:Tbl),ts[i]? = some a->ts[i+1]? = some b->Z6x b.name a.name=false/\strEq b.name a.name=false):NamesA ts:=by
 have key:∀ (n i:Nat) (a b:Tbl),ts[i]? = some a->ts[i+1+n]? = some b->Z6x a.name b.name=true:=by
  intro n
  induction n with
  | zero=>
    intro i a b ha hb;obtain⟨h1,h2⟩:=h i a b ha hb;refine Zer h1 fun h3=>?_;rw[Z7n.2 h3] at h2;cases h2
  | succ n ih=>
    intro i a b ha hb;have hl:=(Y00.1 hb).1;have hc:ts[i+1+n]? = some ts[i+1+n]:=Y01 (by omega);refine Zlb (ih i a _ ha hc) ?_;obtain⟨h1,h2⟩:=h (i+1+n) _ b hc hb;refine Zer h1 fun h3=>?_;rw[Z7n.2 h3] at h2;cases h2
 refine Y24.2 fun i j hi hj hij=>?_;refine key (j - (i+1)) i _ _ (Y01 hi) ?_;rw[show i+1+(j - (i+1))=j by omega];exact Y01 hj
theorem NamesA.uniq {S:Sch} (h:NamesA S.tables):NamesU S:=by
 intro i j a b ha hb he;obtain⟨hi,rfl⟩:=Y00.1 ha;obtain⟨hj,rfl⟩:=Y00.1 hb;have e:=Z7n.1 he;rcases Nat.lt_trichotomy i j with h1 | h1 | h1
 .have h2:Op.bytesLess _ _=true:=Y24.1 h i j hi hj h1;rw[e,Zai] at h2;cases h2
 .exact h1
 .have h2:Op.bytesLess _ _=true:=Y24.1 h j i hj hi h1;rw[<- e,Zai] at h2;cases h2
theorem VS.ord {S:Sch} (h:VS S):NamesA S.tables/\∀ T ∈ S.tables,Z0w T=some 0:=by
 obtain⟨e,he,hp⟩:=Zhm S;rw[h.ok] at he;cases he;exact⟨Zpj (hp rfl).2,(hp rfl).1⟩
theorem Zno {a b:Int}:cmpI a b < 0↔a < b:=by
 unfold cmpI;split
 .simp[*]
 .split<;>simp[*]
theorem Z6u {a b:Int}:cmpI a b=0↔a=b:=by
 unfold cmpI;split
 .simp;omega
 .split
  .simp;omega
  .simp;omega
theorem Zs0:∀ {a b:List UInt8},Lib.compareBytes a b=0->a=b:=by
 intro a
 induction a with
 | nil=>intro b h;cases b with
   | nil=>rfl
   | cons y b=>simp[Lib.compareBytes] at h
 | cons x a ih=>
   intro b h;cases b with
   | nil=>simp[Lib.compareBytes] at h
   | cons y b=>
     simp only[Lib.compareBytes] at h;split at h
     .simp at h
     .split at h
      .simp at h
      .rename_i h1 h2;have h3:¬ (x.toNat < y.toNat):=fun h=>h1 (UInt8.lt_iff_toNat_lt.2 h);have h4:¬ (y.toNat < x.toNat):=fun h=>h2 (UInt8.lt_iff_toNat_lt.2 h)
       have:x=y:=UInt8.toNat_inj.1 (by omega)
       rw[this,ih h]
theorem Znq:∀ a:List UInt8,Lib.compareBytes a a=0
 | []=>rfl
 | x::a=>by
   have:¬ (x < x):=fun h=>Nat.lt_irrefl _ (UInt8.lt_iff_toNat_lt.1 h)
   simp[Lib.compareBytes,this,Znq a]
theorem Zpv:∀ {a b c:List UInt8},Lib.compareBytes a b < 0->Lib.compareBytes b c < 0->Lib.compareBytes a c < 0:=by
 intro a
 induction a with
 | nil=>
   intro b c h1 h2;cases c with
   | nil=>cases b<;>simp[Lib.compareBytes] at h1 h2
   | cons z c=>simp[Lib.compareBytes]
 | cons x a ih=>
   intro b c h1 h2;cases b with
   | nil=>simp[Lib.compareBytes] at h1
   | cons y b=>
     cases c with
     | nil=>simp[Lib.compareBytes] at h2
     | cons z c=>
       simp only[Lib.compareBytes,UInt8.lt_iff_toNat_lt] at h1 h2 |-;split at h1
       .split at h2
        .rw[if_pos (by omega)];decide
        .split at h2
         .simp at h2
         .rw[if_pos (by omega)];decide
       .split at h1
        .simp at h1
        .split at h2
         .rw[if_pos (by omega)];decide
         .split at h2
          .simp at h2
          .rw[if_neg (by omega),if_neg (by omega)];exact ih h1 h2
theorem Znm {a b:GV}:cmpV a b < 0↔a.kind < b.kind\/(a.kind=b.kind/\(a.int < b.int\/(a.int=b.int/\cmpS a.text b.text < 0))):=by
 unfold cmpV
 by_cases h1:cmpI a.kind b.kind=0
 .have e1:=Z6u.1 h1
  by_cases h2:cmpI a.int b.int=0
  .have e2:=Z6u.1 h2;simp[e1,e2,cmpI]
  .have e2:a.int≠b.int:=fun h=>h2 (Z6u.2 h);rw[if_neg (by simp[h1]),if_pos h2,Zno];simp[e1,e2]
 .have e1:a.kind≠b.kind:=fun h=>h1 (Z6u.2 h);rw[if_pos h1,Zno];simp[e1]
theorem Zdv {a b:GV} (h:cmpV a b=0):a=b:=by
 unfold cmpV at h
 by_cases h1:cmpI a.kind b.kind=0
 .by_cases h2:cmpI a.int b.int=0
  .rw[if_neg (by simp[h1]),if_neg (by simp[h2])] at h;have e3:=Zs0 h;obtain⟨k,n,t⟩:=a;obtain⟨k',n',t'⟩:=b;have e1:=Z6u.1 h1;have e2:=Z6u.1 h2;simp only at e1 e2 e3;subst e1 e2
   have:t=t':=by
    cases t with
    | mk d=>cases t' with
      | mk d'=>
        have:=Array.toList_inj.1 e3
        rw[show d=d' from this]
   rw[this]
  .rw[if_neg (by simp[h1]),if_pos h2] at h;exact absurd h h2
 .rw[if_pos h1] at h;exact absurd h h1
theorem Zll {a b c:GV} (h1:cmpV a b < 0) (h2:cmpV b c < 0):cmpV a c < 0:=by
 rw[Znm] at h1 h2 |-;rcases h1 with h1 | ⟨e1,h1⟩
 .rcases h2 with h2 | ⟨e2,_⟩
  .exact .inl (by omega)
  .exact .inl (by omega)
 .rcases h2 with h2 | ⟨e2,h2⟩
  .exact .inl (by omega)
  .refine .inr ⟨by omega,?_⟩;rcases h1 with h1 | ⟨f1,h1⟩
   .rcases h2 with h2 | ⟨f2,_⟩
    .exact .inl (by omega)
    .exact .inl (by omega)
   .rcases h2 with h2 | ⟨f2,h2⟩
    .exact .inl (by omega)
    .exact .inr ⟨by omega,Zpv h1 h2⟩
theorem Zez:∀ {a b c:List GV},cmpR a b < 0->cmpR b c < 0->cmpR a c < 0:=by
 intro a
 induction a with
 | nil=>
   intro b c h1 h2;cases c with
   | nil=>cases b<;>simp[cmpR] at h1 h2
   | cons z c=>simp[cmpR]
 | cons x a ih=>
   intro b c h1 h2;cases b with
   | nil=>simp[cmpR] at h1
   | cons y b=>
     cases c with
     | nil=>simp[cmpR] at h2
     | cons z c=>
       simp only[cmpR] at h1 h2 |-
       by_cases e1:cmpV x y=0
       .have:=Zdv e1
        subst this;rw[if_neg (by simp[e1])] at h1
        by_cases e2:cmpV x z=0
        .rw[if_neg (by simp[e2])] at h2 |-;exact ih h1 h2
        .rw[if_pos e2] at h2 |-;exact h2
       .rw[if_pos e1] at h1
        by_cases e2:cmpV y z=0
        .have:=Zdv e2
         subst this;rw[if_pos e1];exact h1
        .rw[if_pos e2] at h2
         have:=Zll h1 h2
         rw[if_pos (by omega)];exact this
def AscP (T:Tbl) (rows:List (List GV)):Prop:=rows.Pairwise fun a b=>cmpR (keyF T a) (keyF T b) < 0
theorem AscP.asc {T:Tbl} {rows:List (List GV)} (h:AscP T rows):Asc T rows:=by
 intro i a b ha hb;obtain⟨h1,rfl⟩:=Y00.1 ha;obtain⟨h2,rfl⟩:=Y00.1 hb;exact Y24.1 h i (i+1) h1 h2 (by omega)
theorem Wp.eq {α:Type} {m:Option α} {v:α} (h:Wp m fun r=>r=v):m=some v:=by
 obtain⟨r,h1,rfl⟩:=h;exact h1
theorem Za2 (h:HS) (c:C) (xs:List (List C)) (hr:RowAt h 3 c xs) (K:V->HS->Prop)
  (hk:∀ c' h',MR h' 3 c' xs->Same h h' []->(∀ l ∈ labs c',h.ep<=l.1/\l.1 < h'.ep)->BoxLe h h'->K (.one c') h') :
  HSpec prog 75 [.one c] h K:=by
 have F:=Tryz.func75;have EL:=@Z4y;exact Z9o
theorem Zal (h:HS) (c:C) (xs:List (List C)) (i j:Nat) (hm:MR h 1 c xs) (hij:i<=j) (hj:j<=xs.length) (K:V->HS->Prop)
  (hk:∀ c' h',MR h' 1 c' (xs.take i++xs.drop j)->(∀ l,l ∉ labs c->h'.box l=h.box l)->h'.ep=h.ep->h'.arr=h.arr->labs c'=labs c->K (.one c') h') :
  HSpec prog 78 [.one c,.one (.d (.int .i64 i)),.one (.d (.int .i64 j))] h K:=by
 have F:=Tryz.func78;have EL:=@Z3e;have ZE:=@Zm2;exact Zdu
theorem Z9g (h:HS) (c:C) (xs:List (List C)) (i j:Nat) (hm:MR h 3 c xs) (hij:i<=j) (hj:j<=xs.length) (K:V->HS->Prop)
  (hk:∀ c' h',MR h' 3 c' (xs.take i++xs.drop j)->(∀ l,l ∉ labs c->h'.box l=h.box l)->h'.ep=h.ep->h'.arr=h.arr->labs c'=labs c->K (.one c') h') :
  HSpec prog 187 [.one c,.one (.d (.int .i64 i)),.one (.d (.int .i64 j))] h K:=by
 have F:=Tryz.func187;have EL:=@Z4y;have ZE:=@Zit;exact Zdu
theorem Ze9 {h:HS} {lv l:Lab} {vs:List (List D)} {nv ev off k cap:Nat} {cs:List C} (ha:h.arr lv=some (nv,ev)) (hnv:0 < nv) (hb:h.box l=some cs) (h0:0 < cs.length) :
  XSpec prog 103 [.one (.own lv vs),.one (.mrow l off k cap)] h (.one (.d (.bool false))):=by
 intro Γ μ w vals hI hR;obtain⟨hsz,hg⟩:=hR;obtain⟨u0,hu0,r0⟩:=hg 0 _ rfl;obtain⟨u1,hu1,r1⟩:=hg 1 _ rfl;have hv:vals=#[u0,u1]:=by
  apply Y2m;intro i
  match i with
  | 0=>simpa using hu0
  | 1=>simpa using hu1
  | i+2=>rw[Y1r (by simp at hsz;omega)];simp
 subst hv;obtain⟨_,g,gcap,hlv,rfl⟩:=(show RepC μ (.own lv vs) u0 from r0);obtain⟨b,kk,hl,rfl,_⟩:=(show RepC μ (.mrow l off k cap) u1 from r1);refine⟨.bool false,?_,RepD.bool _⟩;rw[run_callFunc_extern (fn:=Tryz.f103) Tryz.func103 (by kernel_rfl) (by kernel_rfl) (by kernel_rfl) (e:=Extern.SlicesOverlaps.overlaps #[60,60] #[4]) (by kernel_rfl)];obtain⟨b2,n2,T2,conc2,hl2,_,hh2,hR2,_⟩:=hI.box l cs hb;rw[hl] at hl2;cases hl2;obtain⟨gc,hgc,hrow⟩:=hI.arr lv ev nv ha;rw[hlv] at hgc;cases hgc;cases g with
 | none=>
   have:=(hrow.1 rfl).2
   omega
 | some g=>
   obtain⟨_,T1,cur,hh1,_⟩:=hrow.2 g rfl;have hne:g≠b:=by
    rintro rfl
    have:=hI.inj lv l g gcap kk (.inr (by rw[ha];simp)) (.inl (by rw[hb];simp)) hlv hl
    subst this;exact hI.both lv (by rw[hb];simp) (by rw[ha];simp)
   have hcl:conc2.size=cs.length:=hR2.1;obtain⟨i,z,hu,hi,hsz,_⟩:=Z5h Z3e;show Result.andThen (Sem.run prog (Extern.SlicesOverlaps.overlaps #[60,60] #[4] #[.slice (some ⟨g,0,none⟩) vs.length gcap,.slice (some ⟨b,off,none⟩) k cap]) w) _=_;rw[Lib.run_overlaps_apart w 60 4 74 hu i.size (fun w=>by simp[sizeOf,typeInfo,hi]) ⟨g,0,none⟩ ⟨b,off,none⟩ vs.length gcap k cap hne T1 T2 cur.size conc2.size (by simp[World.shape?,hh1]) (by simp[World.shape?,hh2]) (by omega) (by simp[World.frozen?,hh1]) (by simp[World.frozen?,hh1])];rfl
def ones (rs:List C):List (List C):=rs.map fun r=>[r]
theorem Zh0:∀ rs:List C,(ones rs).flatten=rs
 | []=>rfl
 | r::rs=>by
   have:=Zh0 rs
   simp only[ones] at this;simp[ones,this]
theorem Zpi (rs:List C):AllC 1 (ones rs):=by
 intro x hx;obtain⟨y,_,rfl⟩:=Y0m.1 hx;rfl
theorem Zcv (rs:List C):(ones rs).length=rs.length:=by simp[ones]
theorem Zb7 (rs sp:List C):rowBox (ones rs) sp=rs++sp:=by rw[rowBox,Zh0]
theorem Zfq {h:HS} {l:Lab} {cap:Nat} {rs sp:List C} (hb:h.box l=some (rs++sp)) (hl:rs.length+sp.length=cap) (hlim:rs.length<=2097152):MR h 1 (.mrow l 0 rs.length cap) (ones rs):=
 ⟨Zpi rs,by rw[Zcv];exact hlim,.inr ⟨l,cap,sp,by rw[Zcv],by rw[Zb7];exact hb,by rw[Zb7];simp[hl]⟩⟩
theorem Zbp {h:HS} {l:Lab} {cs:List C} {off k cap:Nat} (hb:h.box l=some cs) (hk:off+k<=cs.length):Z0x h 1 (.mrow l off k cap)=some ((cs.drop off).take k):=by
 simp only[Z0x,hb,takeN,Nat.mul_one];rw[if_pos (by simp;omega)]
theorem Z41 {a b vs:List C} {n:Nat} (hn:n=a.length):Z01 (a++b) n vs=a++vs++b.drop vs.length:=by
 subst hn;simp[Z01,Y0n]
theorem Z6t {P:Program} {ty el:TypeId} {n by_ off k cap m mk:Nat} {l:Lab} {x:C} {h:HS} {new cs cs':List C} {f:V->HS->Prop} (hel:elT P ty=some (el,n,by_)) (hx:Z0x h n x=some new) (hm:cLen x=some m) (hb:h.box l=some cs) (h0:0 < n) (hnew:new.length=m * n) (hfit:off+k * n<=cs.length)
  (hmk:min m k=mk) (hcs:Z01 cs off (new.take (mk * n))=cs') (hk:f (dint .i64 (mk:Int)) (h.setBox l cs')):copyK P ty (.mrow l off k cap) x h (K:=⟨f⟩):=by
 unfold copyK vcCopy;simp only[hel,hx,hm,hb];refine⟨⟨h0,hnew,hfit⟩,?_⟩;rw[hmk,hcs];exact hk
set_option maxHeartbeats 2000000 in
theorem Zak (h:HS) (c:C) (rs:List C) (lv:Lab) (d:List D) (i:Nat) (hm:MR h 1 c (ones rs)) (hlb:∀ k ∈ labs c,k.1 < h.ep) (hi:i<=rs.length) (ha:h.arr lv=some (1,1)) (hd:d.length=1) (hlim:rs.length+1<=2097152) (K:V->HS->Prop)
  (hk:∀ c' h',MR h' 1 c' (ones (rs.take i++d.map C.d++rs.drop i))->Same h h' (labs c)->(∀ k ∈ labs c',k ∈ labs c\/(h.ep<=k.1/\k.1 < h'.ep))->K (.one c') h') :
  HSpec prog 77 [.one c,.one (.d (.int .i64 (i:Int))),.one (.own lv [d])] h K:=by
 obtain⟨v,rfl⟩:∃ v,d=[v]:=by
  match d,hd with
  | [v],_=>exact⟨v,rfl⟩
 refine HSpec.of_vc Tryz.func77 rfl (by kernel_rfl) (n:=95) rfl rfl (by simp) ?_;rcases hm.2.2 with ⟨h1,hcz⟩ | ⟨l,cap,sp,rfl,hb,hcap⟩
 .have hrs:rs=[]:=by simpa[ones] using h1
  subst hrs;obtain rfl:i=0:=by simpa using hi
  rcases hcz with rfl | rfl
  all_goals
   simp;refine app_mr Z3e (by kernel_rfl) (by decide) (by decide) hm (RowAt.own1 rfl) (by simp[ones]) (fun c' h' hm' hs' hl'=>?_);simp;exact hk _ _ (by simpa[ones] using hm') hs' hl'
 .rw[Zb7] at hb hcap;rw[Zcv] at hm hk |-;simp only[Y0f,Nat.mul_one] at hcap;simp;refine Z1f ⟨by omega,by omega⟩ (fun _=>?_) (fun _=>?_)
  all_goals
   simp;refine Z79 (fun he=>?_) (fun he=>?_)
   .have hir:i=rs.length:=by simp at he;omega
    subst hir;simp;refine app_mr Z3e (by kernel_rfl) (by decide) (by decide) hm (RowAt.own1 rfl) (by simp[ones];omega) (fun c' h' hm' hs' hl'=>?_);simp;exact hk _ _ (by simpa[ones] using hm') hs' hl'
   .have hir:i < rs.length:=by
     have:(i:Int)≠rs.length:=by simpa using he
     omega
    have hw1:IntKind.i64.wrap ((rs.length:Int)+1)=(rs.length:Int)+1:=Y0a _ (by omega);have hw2:IntKind.i64.wrap ((i:Int)+1)=(i:Int)+1:=Y0a _ (by omega);simp[hw1];refine Zhe Z3e ?_;simp[hw1,hw2];refine Z4d (fun hlt=>?_) (fun hge=>?_)
    .have hlt':cap < rs.length+1:=by omega
     have hic:i<=cap:=by omega
     have hc0:0 < cap:=by omega
     have hw3:IntKind.i64.wrap ((rs.length:Int)+1 - i)=(rs.length:Int)+1 - i:=Y0a _ (by omega);simp[hw1,hw2,hw3];refine Z1f (by omega) (fun _=>?_) (fun h9=>absurd hc0 (by simpa using h9));simp[hw1,hw2,hw3];have hN:i+((rs.length:Int)+1 - i).toNat=rs.length+1:=by omega
     refine Zgf Z3e (by decide) (kk:=.i64) rfl (by kernel_rfl) (by decide) (by decide) (by omega) (by show (i:Int)+_<=2097152;omega) (by omega) (old:=rs.take i) (by rw[Zbp hb (by simp;omega),Y27,Y1f hi]) (by simp;omega) (fun cap' hcap'=>?_);rw[hN] at hcap' |-;have hic':i < cap':=by omega
     simp[hw1,hw2,hw3];refine Z1f (by omega) (fun _=>?_) (fun h9=>absurd hic' (by simpa using h9));simp[hw1,hw2,hw3];have htl:(rs.take i).length=i:=by simp;omega
     have hlen:(rs.take i++[C.d v]++rs.drop i).length=rs.length+1:=by simp;omega
     have hz:(0:Int)<=(i:Int)+1:=by omega
     refine Z6t (n:=1) (new:=[.d v]) (m:=1) (mk:=1) (cs':=rs.take i++[.d v]++List.replicate (cap' - i - 1) .any) Z3e (by simp[Z0x,C.list?]) (by simp[cLen,C.list?]) (by simp;rfl) (by decide) rfl (by simp;omega) (by omega) (by rw[Z41 htl.symm];simp) ?_;simp[hw1,hw2,hw3];refine Wait.cut (Plan.then_ [0,1,2,3,4,5,6,7,8] .done) follows (by kernel_rfl) (fun e1 h1=>e1.n=95/\e1.get 9=.one (.mrow (h.ep,640) 0 (rs.length+1) cap')/\h1.box (h.ep,640)=some (rs.take i++[.d v]++rs.drop i++List.replicate (cap' - (rs.length+1)) .any)/\Same h h1 []/\h.ep < h1.ep) ?_ ?_
     .simp[hw1,hw2,hw3];simp only[hz,if_true];refine Z1f (by simp;omega) (fun _=>?_) (fun h9=>absurd (show i+1 < cap' by omega) (by simpa using h9));simp[hw1,hw2,hw3];refine Z1f (by omega) (fun _=>?_) (fun h9=>absurd (show i < cap by omega) (by simpa using h9));simp[hw1,hw2,hw3];have hll:l.1 < h.ep:=hlb l (by simp[labs]);have hne:l≠(h.ep,640):=by rintro rfl;simp at hll
      have htl2:(rs.take i++[C.d v]).length=i+1:=by simp;omega
      have hdi:((rs++sp).drop i).take (rs.length - i)=rs.drop i:=by
       rw[Y1e hi,Y1f (by simp)];exact Y0l (by simp)
      refine Z6t (n:=1) (new:=rs.drop i) (m:=rs.length - i) (mk:=rs.length - i) (cs:=rs.take i++[.d v]++List.replicate (cap' - i - 1) .any) (cs':=rs.take i++[.d v]++rs.drop i++List.replicate (cap' - (rs.length+1)) .any) Z3e
       (by rw[Zbp (cs:=rs++sp) (by simp[hne,hb]) (by simp;omega),hdi]) rfl (by simp) (by decide) (by simp) (by simp;omega) (by omega) ?_ ?_
      .have e9:cap' - i - 1 - (rs.length - i)=cap' - (rs.length+1):=by omega
       have e10:(rs.drop i).take ((rs.length - i) * 1)=rs.drop i:=Y0l (by simp);rw[e10,Z41 htl2.symm];simp[e9]
      .refine CutK.of ?_;simp;exact (((Same.refl.setBox (.inr (by simp))).next).setBox (.inr (by simp))).setBox (.inr (by simp))
     .rintro e1 h1 ⟨hn,h9,hb1,hs1,he1⟩;simp[hn,h9];refine hk _ _ ?_ (hs1.mono (by simp)) (by simp[labs];exact .inr (by omega))
      have:=Zfq (cap:=cap') hb1 (by simp;omega) (by simp;omega)
      rw[hlen] at this;simpa using this
    .have hge':rs.length+1<=cap:=by omega
     have hic:i < cap:=by omega
     have hz:(0:Int)<=(rs.length:Int)+1:=by omega
     have hz2:(0:Int)<=(i:Int)+1:=by omega
     have hN:((rs.length:Int)+1).toNat=rs.length+1:=by omega
     simp[hw1,hw2,hz,hz2,hN];refine Z1f (by omega) (fun _=>?_) (fun h9=>absurd (show 0 < cap by omega) (by simpa using h9));simp[hw1,hw2,hz,hz2,hN];refine Z1f (by omega) (fun _=>?_) (fun h9=>absurd (show i+1 < cap by omega) (by simpa using h9));simp[hw1,hw2,hz,hz2,hN];refine Znr (Ze9 ha (by decide) hb (by simp;omega)) ?_;simp[hw1,hw2,hz,hz2,hN];obtain⟨s0,sp1,hsp⟩:∃ s0 sp1,sp=s0::sp1:=by
      match sp,hcap with
      | [],h9=>simp at h9;omega
      | s0::sp1,_=>exact⟨s0,sp1,rfl⟩
     subst hsp;simp only[Y22] at hcap;have hll:l.1 < h.ep:=hlb l (by simp[labs]);have htl:(rs.take i).length=i:=by simp;omega
     have htl2:(rs.take (i+1)).length=i+1:=by simp;omega
     have hsrc:((rs++s0::sp1).drop i).take (rs.length+1 - i)=rs.drop i++[s0]:=by
      rw[Y1e hi,List.take_append];rw[Y0l (by simp;omega)]
      have:rs.length+1 - i - (rs.drop i).length=1:=by simp;omega
      rw[this];rfl
     refine Wait.cut (Plan.then_ [0,1,2,3,4,5,6,7,8] .done) follows (by kernel_rfl) (fun e1 h1=>e1.n=95/\e1.get 0=.one (.mrow l 0 (rs.length+1) cap)/\e1.get 1=.one (.d (.int .i64 (i:Int)))/\e1.get 2=.one (.own lv [[v]])/\h1.box l=some (rs.take (i+1)++rs.drop i++sp1)/\Same h h1 [l]) ?_ ?_
     .simp[hw1,hw2,hz,hz2,hN];refine Z1f (by omega) (fun _=>?_) (fun h9=>absurd (show i+1 < cap by omega) (by simpa using h9));simp[hw1,hw2,hz,hz2,hN];refine Z1f (by omega) (fun _=>?_) (fun h9=>absurd (show i < cap by omega) (by simpa using h9));simp[hw1,hw2,hz,hz2,hN];refine Z6t (n:=1) (new:=rs.drop i++[s0]) (m:=rs.length+1 - i) (mk:=rs.length - i) (cs:=rs++s0::sp1) (cs':=rs.take (i+1)++rs.drop i++sp1) Z3e
       (by rw[Zbp (cs:=rs++s0::sp1) (by simp[hb]) (by simp;omega),hsrc]) rfl (by simp[hb]) (by decide) (by simp;omega) (by simp;omega) (by omega) ?_ ?_
      .have e10:(rs.drop i++[s0]).take ((rs.length - i) * 1)=rs.drop i:=by
        rw[Nat.mul_one,Y1f (by simp),Y0l (by simp)]
       have e11:rs++s0::sp1=rs.take (i+1)++(rs.drop (i+1)++s0::sp1):=by
        rw[<- Y0n,Y17]
       have e12:(rs.drop (i+1)++s0::sp1).drop (rs.drop i).length=sp1:=by
        have:(rs.drop i).length=(rs.drop (i+1)).length+1:=by simp;omega
        rw[this,<- Y1p,Y2v];rfl
       rw[e10,e11,Z41 htl2.symm,e12]
      .refine CutK.of ?_;simp;exact Same.refl.setBox (.inl (by simp))
     .rintro e1 h1 ⟨hn,h0,h1',h2,hb1,hs1⟩;simp[hn,h0,h1',h2];refine Z1f (by omega) (fun _=>?_) (fun h9=>absurd hic (by simpa using h9));simp[hn,h0,h1',h2];refine Z6t (n:=1) (new:=[.d v]) (m:=1) (mk:=1) (cs:=rs.take (i+1)++rs.drop i++sp1) (cs':=rs.take i++[.d v]++rs.drop i++sp1) Z3e (by simp[Z0x,C.list?]) (by simp[cLen,C.list?]) (by simp[hb1]) (by decide) rfl (by simp;omega) (by omega) ?_ ?_
      .have e13:rs.take (i+1)++rs.drop i++sp1=rs.take i++(rs[i]::(rs.drop i++sp1)):=by
        rw[Y10 hir,Y0n,Y0n];rfl
       rw[e13,Z41 htl.symm];simp
      .simp[hn,h0];refine hk _ _ ?_ ((hs1.setBox (.inl (by simp))).mono (by simp[labs])) (by simp[labs]);have hlen:(rs.take i++[C.d v]++rs.drop i).length=rs.length+1:=by simp;omega
       have:=Zfq (h:=h1.setBox l (rs.take i++[C.d v]++rs.drop i++sp1)) (l:=l) (cap:=cap) (rs:=rs.take i++[C.d v]++rs.drop i) (sp:=sp1) (by simp) (by rw[hlen];omega) (by rw[hlen];omega)
       rw[hlen] at this;simpa using this
end
section
open Go.Am
def Z2h (s_:List GV):Option (List GV):=some s_
theorem Z5q (s_:List GV) (r:List GV) (hm:Is (Z2h s_) r):PSpec prog 75 [.one (.d (.sl (s_.map GV.enc)))] (.one (.fresh 0 3 (r.map GV.enc))):=by
 obtain rfl:=r_ret hm;refine bound1 ⟨_,Tryz.func75,by kernel_rfl,by kernel_rfl⟩ (fun hl=>?_);have hxs:∀ x ∈ s_.map GV.enc,x.length=3:=by
  intro x hx;obtain⟨y,_,rfl⟩:=Y0m.1 hx;rfl
 generalize s_.map GV.enc=xs at *;refine PSpec.of_vc Tryz.func75 rfl (by kernel_rfl) (n:=8) rfl rfl (by simp) ?_;simp;refine Z9d Z4y rfl (xs:=xs) rfl (fun b hb=>?_);cases b with
 | true=>
   have:xs=[]:=Classical.byContradiction fun h=>by simpa using hb h
   subst this;simp;exact Z4u (by simpa using GrowsV.nil)
 | false=>
   simp;refine Z7g (by simp) ?_;simp;refine Z8b Z4y (Grows.own (by simp) (by simp) (by simp)) rfl (by decide) (by decide) hxs (by simpa using hl) ?_;simp;exact Z4u (by simpa using GrowsV.app (by simp) (by simp) hxs rfl)
instance i_slices_Clone_Value (s_:List GV):Con (Z2h s_) prog 75 [.one (.d (.sl (s_.map GV.enc)))] (fun r=>.one (.fresh 0 3 (r.map GV.enc))):=⟨fun r hm=>Z5q s_ r hm⟩
def Z0j (rows:List (List GV)):Option ((List (List GV))):=
 (forK (fun (i2:Nat) (x2:List GV) (s2:(List (List GV))) next_2=>(bindK (Z2h x2) fun v3=>(appK2 s2 [v3] fun _=>(next_2 (s2++[v3]))))) (fun (s2:(List (List GV)))=>(some s2)) rows 0 [])
instance c_relation_Clone (rows:List (List GV)):Con (Z0j rows) prog 71 [.one (.d (.sl (rows.map (encL GV.enc))))] (fun r=>.one (.d (.sl (r.map (encL GV.enc))))):=by
 unfold Z0j;have l1:LH (σ:=(List (List GV))) 8 [6,7] [.g 3 1 (fun s=>s.map (encL GV.enc))]:=.intro;exact go 19 Tryz.func71 rfl (by kernel_rfl) rfl rfl (by simp)
def Z4m (t:Tbl) (rows:List (List GV)) (key:List GV):Option (Int × Bool):=
 (forK (fun (i3:Nat) (x3:List GV) (s3:Unit) next_3=>(bindK (Z3s t x3) fun v4=>(bindK (Z4p v4 key) fun v5=>(bif decide (0<=v5) then (some ((i3:Int),(v5 == 0))) else (next_3 ()))))) (fun (s3:Unit)=>(some ((rows.length:Int),false))) rows 0 ())
instance c_relation_Find (t:Tbl) (rows:List (List GV)) (key:List GV):Con (Z4m t rows key) prog 76 [.agg t.enc,.one (.d (.sl (rows.map (encL GV.enc)))),.one (.d (.sl (key.map GV.enc)))] (fun r=>.tup [.one (.d (.int .i64 r.1)),.one (.d (.bool r.2))]):=by
 unfold Z4m;have l1:LH (σ:=Unit) 13 [1,2,3,11,12] []:=.intro;exact go 31 Tryz.func76 rfl (by kernel_rfl) rfl rfl (by simp)
end
section
open Go Go.Am
def rowc (row:List GV):C:=.d (.sl (row.map GV.enc))
theorem Z8v (h:HS) (rows out:List (List GV)) (hm:Is (Z0j rows) out) (K:V->HS->Prop)
  (hk:∀ c h',MR h' 1 c (ones (out.map rowc))->Same h h' []->(∀ k ∈ labs c,h.ep<=k.1/\k.1 < h'.ep)->K (.one c) h') :
  HSpec prog 71 [.one (.d (.sl (rows.map (encL GV.enc))))] h K:=by
 unfold Z0j at hm;refine HSpec.of_vc Tryz.func71 rfl (by kernel_rfl) (n:=19) rfl rfl (by simp) ?_;simp;intro hil;refine Wait.for (xs:=rows) (s0:=[]) (fun i s e h'=>∃ c,e.n=19/\e.get 3=.one c/\e.get 6=.one (.d (.sl (rows.map (encL GV.enc))))/\e.get 7=.one (.d (.int .i64 (rows.length:Int)))/\e.get 8=.one (.d (.int .i64 (i:Int)))/\MR h' 1 c (ones (s.map rowc))/\Same h h' []/\∀ k ∈ labs c,h.ep<=k.1/\k.1 < h'.ep) hm ⟨.nil,by simp,by simp,by simp,by simp,by simp,by simpa[ones] using MR.nil,.refl,by simp[labs]⟩ ?_ ?_
 .rintro i s e h' ⟨c,hn,h3,h6,h7,h8,hmr,hs,hl⟩ hlt hm;have hw:IntKind.i64.wrap ((i:Int)+1)=(i:Int)+1:=Y0a _ (by omega);obtain⟨row,hrow,hm⟩:=hm.bind;obtain⟨hap,hm⟩:=hm.chk;have hr:row=rows[i]:=(r_ret hrow).symm;simp[hn,h3,h6,h7,h8,hlt];refine Z08 (Z5q _ row hrow) (by simp) ?_;simp[hn,h3,h6,h7,h8,hlt];have hs2:Same h' ((h'.setArr (h'.ep,225) (some (row.length,3))).next.setArr (h'.ep+1,240) (some (1,1))).next []:=((Same.refl.setArr).next.setArr).next;refine app_mr Z3e (by kernel_rfl) (by decide) (by decide) (hmr.frame fun k hk=>hs2.2 k (hl k hk).2 (by simp)) (RowAt.own1 rfl) (by simpa[ones] using hap) (fun c' h2 hm2 hs3 hl3=>?_);simp[hn,h3,h6,h7,h8,hw];have hs4:Same h h2 []:=(hs.trans hs2).trans' hs3 fun k hk=>.inr (hl k hk).1;refine BackF.of (s++[row]) ⟨⟨c',by simp[hn],by simp[h3],by simp[h6],by simp[h7],by simp,?_,hs4,fun k hk=>?_⟩,hm⟩
  .simpa[ones,rowc] using hm2
  .rcases hl3 k hk with h9 | h9
   .have:=hl k h9
    have:=hs3.1
    simp at this;omega
   .have:=hs.1
    simp at h9;omega
 .rintro s e h' ⟨c,hn,h3,h6,h7,h8,hmr,hs,hl⟩ hm;obtain rfl:=r_ret hm;simp[h3,h7,h8,hn];exact hk _ _ hmr hs hl
theorem Zj5 {h:HS} {c:C} {rows:List (List GV)} {rs:List C} (hm:MR h 1 c (ones rs)) (hl:rs.length=rows.length) (hd:∀ (i:Nat) (r:C) (row:List GV),rs[i]? = some r->rows[i]? = some row->r.toD=some (.sl (row.map GV.enc))):Frz h c (.sl (rows.map (encL GV.enc))):=by
 refine hm.frz (by simp[ones,hl]) (fun t ht=>by obtain⟨y,_,rfl⟩:=Y0m.1 ht;rfl) (fun i x t hx ht=>?_);simp only[ones,Y0b] at hx ht;cases hr:rs[i]? with
 | none=>rw[hr] at hx;cases hx
 | some r=>
   cases hw:rows[i]? with
   | none=>rw[hw] at ht;cases ht
   | some row=>
     rw[hr] at hx;rw[hw] at ht;cases hx;cases ht;exact⟨.data (hd i r row hr hw),trivial⟩
theorem Z8k {h:HS} {c:C} {rows:List (List GV)} (hm:MR h 1 c (ones (rows.map rowc))):Frz h c (.sl (rows.map (encL GV.enc))):=
 Zj5 hm (by simp) fun i r row hr hw=>by
  rw[Y0b,hw] at hr;cases hr;rfl
theorem Zj4 {h:HS} {l:Lab} {cap i:Nat} {rs sp:List C} {x:C} (hb:(rs++sp).length=cap * 1) (hlim:rs.length<=2097152) (hi:i < rs.length):MR (h.setBox l (Z01 (rs++sp) i [x])) 1 (.mrow l 0 rs.length cap) (ones (rs.set i x)):=by
 have e1:rs++sp=rs.take i++(rs[i]::(rs.drop (i+1)++sp)):=by
  rw[<- Y0s,<- Y14 hi,<- Y0n,Y17]
 have e2:Z01 (rs++sp) i [x]=rs.set i x++sp:=by
  rw[e1,Z41 (by simp;omega),List.set_eq_take_append_cons_drop,if_pos hi];simp
 rw[e2]
 have:=Zfq (h:=h.setBox l (rs.set i x++sp)) (l:=l) (cap:=cap) (rs:=rs.set i x) (sp:=sp) (by simp) (by simp at hb |-;omega) (by simpa using hlim)
 simpa using this
def Z6f (t:Tbl) (rows:List (List GV)) (row:List GV):Option (List (List GV)):=
 bindK (Z0j rows) fun out=>bindK (Z3s t row) fun k=>bindK (Z4m t out k) fun q=>bif q.2 then chkK (0<=q.1/\q.1 < out.length) (some (out.set q.1.toNat row)) else chkK (0<=q.1/\q.1<=out.length/\out.length+1<=2097152) (some (out.take q.1.toNat++[row]++out.drop q.1.toNat))
theorem Zc4 (t:Tbl) (rows:List (List GV)) (row:List GV) (r:List (List GV)) (hm:Is (Z6f t rows row) r) :
  PSpec prog 38 [.agg t.enc,.one (.d (.sl (rows.map (encL GV.enc)))),.one (.d (.sl (row.map GV.enc)))] (.one (.d (.sl (r.map (encL GV.enc))))):=by
 unfold Z6f at hm;refine PSpec.of_heap ?_;show HSpec _ _ [.agg (t.enc.map C.d),.one (.d (.sl (rows.map (encL GV.enc)))),.one (.d (.sl (row.map GV.enc)))] HS.init _;refine HSpec.of_vc Tryz.func38 rfl (by kernel_rfl) (n:=34) rfl rfl (by simp) ?_;obtain⟨out,hout,hm⟩:=hm.bind;obtain⟨k,hkv,hm⟩:=hm.bind;obtain⟨q,hqv,hm⟩:=hm.bind;obtain⟨qi,qb⟩:=q;simp only at hm;simp;refine Z00 (Z8v _ rows out hout _ (fun c h1 hm1 hs1 hl1=>?_));have b0:=hs1.2 (0,48) (by simp) (by simp);have hep:=hs1.1;simp at b0 hep;simp;refine Z08 (Z5q row row rfl) (by simp) ?_;simp;refine Wait.cut (Plan.then_ [0,1,2,3,4,5,6,7,8,9,10] .done) follows (by kernel_rfl) (fun e h2=>e.n=34/\e.get 7=.one c/\e.get 8=.one (.d (.int .i64 qi))/\e.get 9=.one (.d (.bool qb))/\e.get 2=.one (.own (h1.ep,209) (row.map GV.enc))/\Same h1 h2 []) ?_ ?_
 .simp[b0];refine Z08 (c_relation_Key t row k hkv) (by simp) ?_;simp[b0];refine⟨fun _ _ x=>x,Z00 (HSpec.of_lend (c_relation_Find t out k (qi,qb) hqv) ⟨.agg (FrzCs.datas (ds:=t.enc)),.one (.frz (Z8k (hm1.frame fun l hl=>?_))),.one (.frz (.data rfl)),trivial⟩ rfl ?_)⟩
  .rfl
  simp[b0];refine⟨fun _ _ x=>x,CutK.of ?_⟩;simp;exact ((Same.refl.setArr).next).setArr.next.next
 .rintro e h2 ⟨hn,h7,h8,h9,h2',hs2⟩;simp[hn,h7,h8,h9,h2'];have hm2:=hm1.frame fun l hl=>hs2.2 l (hl1 l hl).2 (by simp);cases qb with
  | true=>
    simp only[cond_true] at hm;obtain⟨⟨hq0,hql⟩,hm⟩:=hm.chk;obtain rfl:=r_ret hm;obtain⟨qn,rfl⟩:∃ n:Nat,qi=n:=⟨qi.toNat,by omega⟩;have hqi:qn < out.length:=by omega
    obtain⟨l,cap,sp,rfl,hb,hcap⟩:=hm2.block (by simp[ones];omega);rw[Zb7] at hb hcap;simp[hn,h7,h8,h2',hb,hqi,ones];have hm4:=Zj4 (h:=h2) (l:=l) (i:=qn) (x:=C.own (h1.ep,209) (row.map GV.enc)) hcap (by have:=hm1.2.1;simpa[ones] using this) (by simpa using hqi)
    have:=Zj5 (rows:=out.set qn row) (by simpa using hm4) (by simp) (fun i r w hr hw=>?_)
    .refine⟨by simp at hcap;omega,?_⟩;show Frz _ _ _;simpa[encL] using this
    .rw[Y2s] at hr hw
     by_cases hqe:qn=i
     .subst hqe;simp[hqi] at hr hw;subst hr hw;rfl
     .rw[if_neg hqe,Y0b] at hr;rw[if_neg hqe] at hw;rw[hw] at hr;cases hr;rfl
  | false=>
    simp only[cond_false] at hm;obtain⟨⟨hq0,hql,hlim⟩,hm⟩:=hm.chk;obtain rfl:=r_ret hm;obtain⟨qn,rfl⟩:∃ n:Nat,qi=n:=⟨qi.toNat,by omega⟩;simp[hn,h7,h8,h2'];refine Z00 (Zak _ c (out.map rowc) _ [.sl (row.map GV.enc)] qn ?_ (fun l hl=>?_) (by simp;omega) ?_ rfl (by simpa using hlim) _ (fun c' h3 hm3 hs3 hl3=>?_))
    .exact hm2.frame fun l hl=>by simp
    .have:=hl1 l hl
     have:=hs2.1
     simp;omega
    .simp
    .simp[hn];have hrc:ones ((out.map rowc).take qn++[C.d (.sl (row.map GV.enc))]++(out.map rowc).drop qn)=ones ((out.take qn++[row]++out.drop qn).map rowc):=by simp[rowc]
     have hm4:MR h3 1 c' (ones ((out.take qn++[row]++out.drop qn).map rowc)):=hrc ▸ hm3
     have:=Z8k hm4
     show Frz _ _ _;simpa[encL] using this
def Z6g (t:Tbl) (rows:List (List GV)) (key:List GV):Option (List (List GV) × Bool):=
 bindK (Z0j rows) fun out=>bindK (Z4m t out key) fun q=>bif q.2 then chkK (0<=q.1/\q.1 < out.length) (some (out.take q.1.toNat++out.drop (q.1.toNat+1),true)) else some (out,false)
theorem Zc5 (t:Tbl) (rows:List (List GV)) (key:List GV) (r:List (List GV) × Bool) (hm:Is (Z6g t rows key) r) :
  PSpec prog 39 [.agg t.enc,.one (.d (.sl (rows.map (encL GV.enc)))),.one (.d (.sl (key.map GV.enc)))] (.tup [.one (.d (.sl (r.1.map (encL GV.enc)))),.one (.d (.bool r.2))]):=by
 unfold Z6g at hm;refine PSpec.of_heap ?_;show HSpec _ _ [.agg (t.enc.map C.d),.one (.d (.sl (rows.map (encL GV.enc)))),.one (.d (.sl (key.map GV.enc)))] HS.init _;refine HSpec.of_vc Tryz.func39 rfl (by kernel_rfl) (n:=28) rfl rfl (by simp) ?_;obtain⟨out,hout,hm⟩:=hm.bind;obtain⟨q,hqv,hm⟩:=hm.bind;obtain⟨qi,qb⟩:=q;simp only at hm;simp;refine Z00 (Z8v _ rows out hout _ (fun c h1 hm1 hs1 hl1=>?_));have b0:=hs1.2 (0,48) (by simp) (by simp);have hep:=hs1.1;simp at b0 hep;simp[b0];refine Z00 (HSpec.of_lend (c_relation_Find t out key (qi,qb) hqv) ⟨.agg (FrzCs.datas (ds:=t.enc)),.one (.frz (Z8k hm1)),.one (.frz (.data rfl)),trivial⟩ rfl ?_);have hm2:MR h1.next 1 c (ones (out.map rowc)):=hm1.frame fun l hl=>by simp
 simp;cases qb with
 | true=>
   simp only[cond_true] at hm;obtain⟨⟨hq0,hql⟩,hm⟩:=hm.chk;obtain rfl:=r_ret hm;obtain⟨qn,rfl⟩:∃ n:Nat,qi=n:=⟨qi.toNat,by omega⟩;have hlim:=hm1.2.1;rw[Zcv] at hlim;have hw:IntKind.i64.wrap ((qn:Int)+1)=((qn+1:Nat):Int):=Y0a _ (by simp at hlim;omega);simp[hw];refine Z00 (Zal _ c (ones (out.map rowc)) qn (qn+1) hm2 (by omega) (by simp[ones];omega) _ (fun c' h3 hm3 hs3 _ _ _=>?_));have hrc:(ones (out.map rowc)).take qn++(ones (out.map rowc)).drop (qn+1)=ones ((out.take qn++out.drop (qn+1)).map rowc):=by simp[ones]
   have hm4:MR h3 1 c' (ones ((out.take qn++out.drop (qn+1)).map rowc)):=hrc ▸ hm3
   have:=Z8k hm4
   simp[retH,resVs,resV,notTup];refine⟨?_,Frz.data rfl,trivial⟩;show Frz _ _ _;simpa[encL] using this
 | false=>
   simp only[cond_false] at hm;obtain rfl:=r_ret hm;simp[retH,resVs,resV,notTup];exact⟨Z8k hm2,Frz.data rfl,trivial⟩
end
section
open Go.Am
def Z07 (inst:List Rel):Option ((List Rel)):=
 (forK (fun (i2:Nat) (x2:Rel) (s2:(List Rel)) next_2=>(bindK (Z0j x2.rows) fun v4=>(appK2 s2 [(Rel.mk x2.table v4)] fun _=>(next_2 (s2++[(Rel.mk x2.table v4)]))))) (fun (s2:(List Rel))=>(some s2)) inst 0 [])
instance c_instance_Clone (inst:List Rel):Con (Z07 inst) prog 35 [.one (.d (.sl (inst.map Rel.enc)))] (fun r=>.one (.d (.sl (r.map Rel.enc)))):=by
 unfold Z07;have l1:LH (σ:=(List Rel)) 8 [6,7] [.g 3 2 (fun s=>s.map Rel.enc)]:=.intro;have p1:PH [5] (Plan.then_ [0,1,2,3,4,5,6,7,8,9] .done):=.intro;exact go 23 Tryz.func35 rfl (by kernel_rfl) rfl rfl (by simp)
instance f_instance_Clone  : ConF (fun x=>Z07 x) prog (fun x=>.one (.d (.sl (x.map Rel.enc)))) (fun r=>.one (.d (.sl (r.map Rel.enc)))) 35 []:=⟨fun x=>(c_instance_Clone x)⟩
end
section
open Go Go.Am
def FZ (h:HS) (c:C) (x:D) (ls:List Lab):Prop:=∀ h',(∀ l ∈ ls,h'.box l=h.box l)->Frz h' c x
theorem FZ.frame {h h':HS} {c:C} {x:D} {ls:List Lab} (f:FZ h c x ls) (hb:∀ l ∈ ls,h'.box l=h.box l):FZ h' c x ls:=fun h2 h2b=>f h2 fun l hl=>(h2b l hl).trans (hb l hl)
def FZs (h:HS) (cs:List C) (ds:List D) (ls:List Lab):Prop:=∀ h',(∀ l ∈ ls,h'.box l=h.box l)->FrzCs h' cs ds
theorem FZs.frame {h h':HS} {cs:List C} {ds:List D} {ls:List Lab} (f:FZs h cs ds ls) (hb:∀ l ∈ ls,h'.box l=h.box l):FZs h' cs ds ls:=fun h2 h2b=>f h2 fun l hl=>(h2b l hl).trans (hb l hl)
abbrev NQ:=List C × List D × List Lab
structure NR (h:HS) (n:Nat) (c:C) (qs:List NQ):Prop where
 mr:MR h n c (qs.map (·.1))
 el:∀ q ∈ qs,FZs h q.1 q.2.1 q.2.2/\q.2.1.length=n
 lt:∀ q ∈ qs,∀ k ∈ q.2.2,k.1 < h.ep/\k ∉ labs c
 lc:∀ k ∈ labs c,k.1 < h.ep
theorem NR.nil {h:HS} {n:Nat}:NR h n .nil []:=⟨MR.nil,by simp,by simp,by simp[labs]⟩
theorem NR.frame {h h':HS} {n:Nat} {c:C} {qs:List NQ} {lx:List Lab} (r:NR h n c qs) (hs:Same h h' lx) (hc:∀ k ∈ labs c,k ∉ lx) (hq:∀ q ∈ qs,∀ k ∈ q.2.2,k ∉ lx):NR h' n c qs:=
 ⟨r.mr.frame fun l hl=>hs.2 l (r.lc l hl) (hc l hl),fun q hqm=>⟨(r.el q hqm).1.frame fun l hl=>hs.2 l (r.lt q hqm l hl).1 (hq q hqm l hl),(r.el q hqm).2⟩,fun q hqm k hk=>⟨Y04 (r.lt q hqm k hk).1 hs.1,(r.lt q hqm k hk).2⟩,fun k hk=>Y04 (r.lc k hk) hs.1⟩
theorem NR.put {h:HS} {n:Nat} {l:Lab} {cap:Nat} {qs:List NQ} {sp:List C} (r:NR h n (.mrow l 0 qs.length cap) qs) (hb:h.box l=some (rowBox (qs.map (·.1)) sp)) (hcap:(rowBox (qs.map (·.1)) sp).length=cap * n) {k:Nat} (hk:k < qs.length) {q:NQ} (hn:q.1.length=n) (hd:q.2.1.length=n)
  (hf:FZs (h.setBox l (rowBox ((qs.set k q).map (·.1)) sp)) q.1 q.2.1 q.2.2) (hl:∀ j ∈ q.2.2,j.1 < h.ep/\j≠l):NR (h.setBox l (rowBox ((qs.set k q).map (·.1)) sp)) n (.mrow l 0 (qs.set k q).length cap) (qs.set k q):=by
 have ha:AllC n ((qs.set k q).map (·.1)):=by rw[Y11];exact r.mr.1.set hn
 refine⟨⟨ha,by simpa using r.mr.2.1,.inr ⟨l,cap,sp,by simp,by simp,?_⟩⟩,fun p hp=>?_,fun p hp j hj=>?_,fun j hj=>by simpa using r.lc j (by simpa[labs] using hj)⟩
 .rw[Z0e ha,Y0z,Y2b,<- hcap,Z0e r.mr.1,Y0z]
 .rcases Y2f hp with h1 | rfl
  .refine⟨(r.el p h1).1.frame fun j hj=>?_,(r.el p h1).2⟩
   have:=(r.lt p h1 j hj).2
   simp only[labs,Y20] at this;simp[this]
  .exact⟨hf,hd⟩
 .rcases Y2f hp with h1 | rfl
  .simpa[labs] using r.lt p h1 j hj
  .simpa[labs] using hl j hj
def relC (x:Rel):List C:=[.d (.str x.table),.d (.sl (x.rows.map (encL GV.enc)))]
theorem Zbv (h:HS) (inst out:List Rel) (hm:Is (Z07 inst) out) (K:V->HS->Prop)
  (hk:∀ c h',MR h' 2 c (out.map relC)->Same h h' []->(∀ k ∈ labs c,h.ep<=k.1/\k.1 < h'.ep)->K (.one c) h') :
  HSpec prog 35 [.one (.d (.sl (inst.map Rel.enc)))] h K:=by
 unfold Z07 at hm;refine HSpec.of_vc Tryz.func35 rfl (by kernel_rfl) (n:=23) rfl rfl (by simp) ?_;simp;intro hil;refine Wait.for (xs:=inst) (s0:=[]) (fun i s e h'=>∃ c,e.n=23/\e.get 3=.one c/\e.get 6=.one (.d (.sl (inst.map Rel.enc)))/\e.get 7=.one (.d (.int .i64 (inst.length:Int)))/\e.get 8=.one (.d (.int .i64 (i:Int)))/\MR h' 2 c (s.map relC)/\Same h h' []/\∀ k ∈ labs c,h.ep<=k.1/\k.1 < h'.ep) hm ⟨.nil,by simp,by simp,by simp,by simp,by simp,by simpa using MR.nil,.refl,by simp[labs]⟩ ?_ ?_
 .rintro i s e h' ⟨c,hn,h3,h6,h7,h8,hmr,hs,hl⟩ hlt hm;have hw:IntKind.i64.wrap ((i:Int)+1)=(i:Int)+1:=Y0a _ (by omega);obtain⟨rows,hrows,hm⟩:=hm.bind;obtain⟨hap,hm⟩:=hm.chk;simp[*];refine Wait.cut (Plan.then_ [0,1,2,3,4,5,6,7,8,9] .done) follows (by kernel_rfl) (fun e1 h1=>∃ c2,e1.n=23/\e1.get 3=.one c2/\e1.get 6=.one (.d (.sl (inst.map Rel.enc)))/\e1.get 7=.one (.d (.int .i64 (inst.length:Int)))/\e1.get 8=.one (.d (.int .i64 (i:Int))) /\
   MR h1 2 c2 ((s++[Rel.mk inst[i].table rows]).map relC)/\Same h h1 []/\∀ k ∈ labs c2,h.ep<=k.1/\k.1 < h1.ep) ?_ ?_
  .simp[hn,h3,h6,h7,h8];have hs1:Same h' ((h'.setBox (h'.ep,80) [C.d (D.str empty),C.nil]).next.setBox (h'.ep,80) [C.d (D.str inst[i].table),C.d (D.sl (List.map (encL GV.enc) inst[i].rows))]) []:=((Same.refl.setBox (.inr (by simp))).next).setBox (.inr (by simp));refine Z08 (c_relation_Clone _ rows hrows) (by simp) ?_;simp[hn,h3,h6,h7,h8];have hs2:=((hs1.next.setArr (l:=(h'.ep+1+1,304)) (x:=some (1,2))).next);refine⟨fun _ _ x=>x,app_mr Zab (by kernel_rfl) (by decide) (by decide) (hmr.frame fun l hl9=>hs2.2 l (hl l hl9).2 (by simp)) (RowAt.own1 rfl) (by simpa using hap) (fun c' h2 hm2 hs3 hl3=>?_)⟩;simp[hn,h3,h6,h7,h8];refine CutK.of ?_;have hs4:Same h h2 []:=(hs.trans hs2).trans' hs3 fun k hk=>.inr (hl k hk).1;refine⟨c',by simp[hn],by simp[hn],by simp[h6,hn],by simp[h7,hn],by simp[h8,hn],by simpa[relC] using hm2,hs4,fun k hk=>?_⟩;rcases hl3 k hk with h9 | h9
   .have:=hl k h9
    have:=hs3.1
    simp at this;omega
   .have:=hs.1
    simp at h9;omega
  .rintro e1 h1 ⟨c2,hn,h3,h6,h7,h8,hmr,hs,hl⟩;simp[hn,h3,h6,h7,h8,hw];exact BackF.of (s++[Rel.mk inst[i].table rows]) ⟨⟨c2,by simp[hn],by simp[h3],by simp[h6],by simp[h7],by simp,hmr,hs,hl⟩,hm⟩
 .rintro s e h' ⟨c,hn,h3,h6,h7,h8,hmr,hs,hl⟩ hm;obtain rfl:=r_ret hm;simp[h3,h7,h8,hn];exact hk c h' hmr hs hl
end
section
open Go.Am
def Z2j (t:Tbl) (key:List GV):Option Int:=
 (bif ((key.length:Int) != (t.pk.length:Int)) then (some 3) else (forK (fun (i6:Nat) (x6:GV) (s6:Unit) next_6=>(bindK (Z0y x6) fun v8=>(bif (v8 != 0) then (some v8) else (getK t.pk (i6:Int) fun x10=>(getK t.cols x10 fun x11=>(bif (x6.kind != x11.kind) then (some 7) else (next_6 ()))))))) (fun (s6:Unit)=>(some 0)) key 0 ()))
instance c_change_validateKey (t:Tbl) (key:List GV):Con (Z2j t key) prog 72 [.agg t.enc,.one (.d (.sl (key.map GV.enc)))] (fun r=>.one (.d (.int .i64 r))):=by
 unfold Z2j;have l1:LH (σ:=Unit) 16 [2,14,15] []:=.intro;have p1:PH [9] (Plan.then_ [0,1,2,3,4,5,6,7,8,9,10,11,12] .done):=.intro;exact go 40 Tryz.func72 rfl (by kernel_rfl) rfl rfl (by simp)
def Z5f (s_:Sch) (c:Chg):Option Int:=
 (bif (c.kind == 1) then (bif decide (0 < c.key.length) then (some 3) else (bif (c.kind == 2) then (bif decide (0 < c.row.length) then (some 3) else (bif (c.kind != 1) then (bif (c.kind != 2) then (some 3) else (bindK (Z02 s_ c.table) fun v11=>(bif !v11.2 then (some 4) else (getK s_.tables v11.1 fun x13=>(bindK (Z1e x13 c.row) fun v14=>(some v14)))))) else (bindK (Z02 s_ c.table) fun v15=>(bif !v15.2 then (some 4) else (getK s_.tables v15.1 fun x17=>(bindK (Z1e x17 c.row) fun v18=>(some v18))))))) else (bif (c.kind != 1) then (bif (c.kind != 2) then (some 3) else (bindK (Z02 s_ c.table) fun v21=>(bif !v21.2 then (some 4) else (getK s_.tables v21.1 fun x23=>(bindK (Z1e x23 c.row) fun v24=>(some v24)))))) else (bindK (Z02 s_ c.table) fun v25=>(bif !v25.2 then (some 4) else (getK s_.tables v25.1 fun x27=>(bindK (Z1e x27 c.row) fun v28=>(some v28)))))))) else (bif (c.kind == 2) then (bif decide (0 < c.row.length) then (some 3) else (bif (c.kind != 1) then (bif (c.kind != 2) then (some 3) else (bindK (Z02 s_ c.table) fun v34=>(bif !v34.2 then (some 4) else (getK s_.tables v34.1 fun x36=>(bindK (Z2j x36 c.key) fun v37=>(some v37)))))) else (bindK (Z02 s_ c.table) fun v38=>(bif !v38.2 then (some 4) else (getK s_.tables v38.1 fun x40=>(bindK (Z2j x40 c.key) fun v41=>(some v41))))))) else (bif (c.kind != 1) then (bif (c.kind != 2) then (some 3) else (bindK (Z02 s_ c.table) fun v44=>(bif !v44.2 then (some 4) else (getK s_.tables v44.1 fun x46=>(bindK (Z2j x46 c.key) fun v47=>(some v47)))))) else (bindK (Z02 s_ c.table) fun v48=>(bif !v48.2 then (some 4) else (getK s_.tables v48.1 fun x50=>(bindK (Z2j x50 c.key) fun v51=>(some v51))))))))
instance c_change_Validate (s_:Sch) (c:Chg):Con (Z5f s_ c) prog 36 [.agg s_.enc,.agg c.enc] (fun r=>.one (.d (.int .i64 r))):=by
 unfold Z5f;have p1:PH [7,8] (Plan.then_ [0,1,2,3,4,5,6,7,8] .done):=.intro;exact go 65 Tryz.func36 rfl (by kernel_rfl) rfl rfl (by simp)
end
section
open Go Go.Am
theorem Zpc {h:HS} {c:C} {out:List Rel} (hm:MR h 2 c (out.map relC)):Frz h c (.sl (out.map Rel.enc)):=
 hm.frz (by simp) (fun t ht=>by obtain⟨y,_,rfl⟩:=Y0m.1 ht;rfl) fun i x t hx ht=>by
  rw[Y0b] at hx ht;cases hq:out[i]? with
  | none=>rw[hq] at hx;cases hx
  | some q=>
    rw[hq] at hx ht;cases hx;cases ht;exact⟨.data rfl,.data rfl,trivial⟩
def m_chg {ρ:Type} (s:Sch) (x:Chg) (out:List Rel) (next:List Rel->Option ρ) (bad:Int->Option ρ):Option ρ:=
 bindK (Z5f s x) fun e=>bif e != 0 then bad e else bindK (Z02 s x.table) fun q=>getK s.tables q.1 fun T=>getK out q.1 fun o=>
  bif x.kind == 1 then bindK (Z6f T o.rows x.row) fun rows=>bif decide ((24:Int) < rows.length) then bad 2 else next (out.set q.1.toNat ⟨o.table,rows⟩)
  else bindK (Z6g T o.rows x.key) fun d=>bif !d.2 then bad 9 else next (out.set q.1.toNat ⟨o.table,d.1⟩)
def Z85 (s:Sch) (inst:List Rel) (cs:List Chg):Option (List Rel × Int):=
 bindK (Z0n s) fun e=>bif e != 0 then some ([],e) else bindK (Z0t s inst) fun e2=>bif e2 != 0 then some ([],e2) else bif decide ((24:Int) < cs.length) then some ([],2) else
 bindK (Z07 inst) fun out0=>forK (fun (i:Nat) (x:Chg) (out:List Rel) next=>m_chg s x out next fun e=>some ([],e)) (fun out=>some (out,0)) cs 0 out0
theorem Zeg (s:Sch) (inst:List Rel) (cs:List Chg) (r:List Rel × Int) (hm:Is (Z85 s inst cs) r) :
  PSpec prog 14 [.agg s.enc,.one (.d (.sl (inst.map Rel.enc))),.one (.d (.sl (cs.map Chg.enc)))] (.tup [.one (.d (.sl (r.1.map Rel.enc))),.one (.d (.int .i64 r.2))]):=by
 unfold Z85 at hm;refine PSpec.of_heap ?_;show HSpec _ _ [.agg (s.enc.map C.d),.one (.d (.sl (inst.map Rel.enc))),.one (.d (.sl (cs.map Chg.enc)))] HS.init _;refine HSpec.of_vc Tryz.func14 rfl (by kernel_rfl) (n:=101) rfl rfl (by simp) ?_;obtain⟨ev,hev,hm⟩:=hm.bind;simp;refine Z08 (c_schema_Validate s ev hev) (by simp) ?_;simp;refine r_cond hm ?_ ?_<;>clear hm<;>intro hc1 hm
 .obtain rfl:=r_ret hm;simp[hc1,retH,resVs,resV,notTup];exact⟨Frz.data rfl,Frz.data rfl,trivial⟩
 obtain⟨ev2,hev2,hm⟩:=hm.bind;simp[hc1];refine Z08 (c_instance_Conforms s inst ev2 hev2) (by simp) ?_;simp;refine r_cond hm ?_ ?_<;>clear hm<;>intro hc2 hm
 .obtain rfl:=r_ret hm;simp[hc2,retH,resVs,resV,notTup];exact⟨Frz.data rfl,Frz.data rfl,trivial⟩
 simp[hc2];intro hcl;refine r_cond hm ?_ ?_<;>clear hm<;>intro hc3 hm
 .obtain rfl:=r_ret hm;simp at hc3;simp[hc3,retH,resVs,resV,notTup];exact⟨Frz.data rfl,Frz.data rfl,trivial⟩
 simp at hc3;obtain⟨out0,hout0,hm⟩:=hm.bind;have hc3':¬ (24 < cs.length):=by omega
 simp[hc3'];refine Z00 (Zbv _ inst out0 hout0 _ (fun c h1 hr hs hl=>?_));have b0:=hs.2 (0,48) (by simp) (by simp);have hep:=hs.1;simp at b0 hep;have hl2:∀ k ∈ labs c,1<=k.1/\k.1 < h1.ep:=fun k hk=>by have:=hl k hk;simp at this;omega
 simp;intro _;refine Wait.for (xs:=cs) (s0:=out0) (fun i out e h=>∃ c,MR h 2 c (out.map relC)/\(∀ k ∈ labs c,1<=k.1/\k.1 < h.ep)/\1<=h.ep/\h.box (0,48)=some (s.enc.map C.d)/\e.n=101 /\
  e.get 3=.one (.ptr (0,48) 0)/\e.get 10=.one c/\e.get 34=.one (.d (.sl (cs.map Chg.enc)))/\e.get 35=.one (.d (.int .i64 (cs.length:Int)))/\e.get 36=.one (.d (.int .i64 (i:Int)))) hm ?_ ?_ ?_
 .exact⟨c,hr,hl2,by omega,by simpa[Sch.enc] using b0,by simp,by simp,by simp,by simp,by simp,by simp⟩
 .clear hm hc1 hc2 hr hl2 hl hs b0 hep hout0 c h1 hev hev2 hc3;rintro i out e h ⟨c,hr,hl,hep,b0,hn,h3,h10,h34,h35,h36⟩ hlt hm;have hw:IntKind.i64.wrap ((i:Int)+1)=(i:Int)+1:=Y0a _ (by omega);generalize hNx:(fun s'=>forK (fun (i:Nat) (x:Chg) (out:List Rel) next=>m_chg s x out next fun e=>some ([],e)) (fun out=>some (out,0)) (List.drop (i+1) cs) (i+1) s')=nextN at hm;have hback:∀ o',Is (nextN o') r->Is (forK (fun (i:Nat) (x:Chg) (out:List Rel) next=>m_chg s x out next fun e=>some ([],e)) (fun out=>some (out,0)) (List.drop (i+1) cs) (i+1) o') r:=fun o' h'=>by rw[<- hNx] at h';exact h'
  clear hNx;generalize hx:cs[i]=x at hm;have hxi:cs[i]? = some x:=by rw[<- hx];exact Y01 hlt
  unfold m_chg at hm;obtain⟨ev3,hev3,hm⟩:=hm.bind;simp only[Sch.enc,Y0d,Y0g] at b0;simp[hn,h3,h10,h34,h35,h36,b0,hlt,hx];refine Z08 (c_change_Validate s x ev3 hev3) (by simp) ?_;simp[hn,h3,h10,h34,h35,h36,b0];refine r_cond hm ?_ ?_<;>clear hm<;>intro hc4 hm
  .obtain rfl:=r_ret hm;simp[hn,h3,h10,h34,h35,h36,b0,hc4,retH,resVs,resV,notTup];exact⟨Frz.data rfl,Frz.data rfl,trivial⟩
  obtain⟨q,hqv,hm⟩:=hm.bind;obtain⟨qi,qb⟩:=q;obtain⟨T,hq0,hT,hm⟩:=hm.get;obtain⟨o,_,ho,hm⟩:=hm.get;simp only at hq0 hT ho hm;obtain⟨qn,rfl⟩:∃ n:Nat,qi=n:=⟨qi.toNat,by omega⟩;simp only[Int.toNat_natCast] at hT ho hm;simp[hn,h3,h10,h34,h35,h36,b0,hc4];refine Z08 (c_schema_FindTable s x.table _ hqv) (by simp) ?_;simp[hn,h3,h10,h34,h35,h36,b0,hT];have hiq:qn < out.length:=(Y00.1 ho).1;have hx2:(out.map relC)[qn]? = some (relC o):=by rw[Y0b,ho];rfl
  obtain⟨l,cap,sp,rfl,hb,hcap⟩:=hr.block (by simp<;>omega);rw[Y0z] at hl hr h10;have hrl:=Z84 (sp:=sp) hr.1 (k:=qn) (by simp<;>omega);have hset:∀ rows:List (List GV),Z01 (rowBox (out.map relC) sp) (qn * 2+1) [.d (.sl (rows.map (encL GV.enc)))]=rowBox ((out.set qn ⟨o.table,rows⟩).map relC) sp:=fun rows=>by
   rw[Z9a hr.1 hx2 (by simp[relC]),Y11];simp[Z01,relC]
  have htk:takeN 1 ((rowBox (out.map relC) sp).drop (qn * 2+1))=some [.d (.sl (o.rows.map (encL GV.enc)))]:=by
   have h9:=Z54 (sp:=sp) (f:=1) (m:=1) hr.1 hx2 (by simp[relC]);simpa[takeN,relC] using h9
  have hll:=(hl l (by simp[labs])).2;have hl2:=(hl l (by simp[labs])).1;have hne3:((0,48):Lab)≠l:=by rintro rfl;simp at hl2
  have hall:∀ out:List Rel,AllC 2 (out.map relC):=fun out y hy=>by
   obtain⟨z,_,rfl⟩:=Y0m.1 hy;rfl
  have put:∀ (H:HS) (rows:List (List GV)),MR (H.setBox l (rowBox ((out.set qn ⟨o.table,rows⟩).map relC) sp)) 2 (.mrow l 0 out.length cap) ((out.set qn ⟨o.table,rows⟩).map relC):=fun H rows=>
   ⟨hall _,by simpa using hr.2.1,.inr ⟨l,cap,sp,by simp,by simp,by rw[Z0e (hall _),<- hcap,Z0e (hall _)];simp⟩⟩
  have hne1:l≠(h.ep,192):=by rintro rfl;simp at hll
  have hne2:l≠(h.ep+1+1+1,256):=by rintro rfl;simp at hll;omega
  have hsH:Same h ((((h.setBox (h.ep,192) [.d (.int .i64 0),.d (.str empty),.nil,.nil]).next.setBox (h.ep,192) [.d (.int .i64 x.kind),.d (.str x.table),.d (.sl (x.key.map GV.enc)),.d (.sl (x.row.map GV.enc))]).next.next.setBox (h.ep+1+1+1,256) [.d (.str empty),.nil,.nil]).next.setBox (h.ep+1+1+1,256) [.d (.str T.name),.d (.sl (T.cols.map Col.enc)),.d (.sl (T.pk.map encI))]) []:=
   ((((Same.refl.setBox (.inr (by simp))).next.setBox (.inr (by simp))).next.next).setBox (.inr (by simp<;>omega))).next.setBox (.inr (by simp<;>omega))
  refine r_cond hm ?_ ?_<;>clear hm<;>intro hc5 hm
  .obtain⟨rows,hrows,hm⟩:=hm.bind;simp[hn,h3,h10,h34,h35,h36,b0,hc5];refine Wait.cut (Plan.then_ [0,1,2,3,4,5,6,7,8,9,10,11,12,13] .done) follows (by kernel_rfl) (fun e1 h1=>∃ H,Same h H []/\h1=H.setBox l (rowBox ((out.set qn ⟨o.table,rows⟩).map relC) sp)/\1<=h1.ep/\e1.n=101/\e1.get 3=.one (.ptr (0,48) 0)/\e1.get 10=.one (.mrow l 0 out.length cap)/\e1.get 14=.one (.d (.int .i64 (qn:Int)))/\e1.get 34=.one (.d (.sl (cs.map Chg.enc)))/\e1.get 35=.one (.d (.int .i64 (cs.length:Int)))/\e1.get 36=.one (.d (.int .i64 (i:Int)))) ?_ ?_
   .simp[hn,h3,h10,h34,h35,h36,b0,hc5,hiq,hb,hne1,hne2,htk];refine Z08 (Zc4 T o.rows x.row rows hrows) (by simp) ?_;simp[hn,h3,h10,h34,h35,h36,b0,hc5,hiq,hb,hne1,hne2,htk];refine⟨fun _ _ x=>x,by omega,CutK.of ?_⟩;rw[hset];exact⟨_,hsH.next,rfl,by simp<;>omega,by simp[hn],by simp[h3],by simp[h10],by simp[hn],by simp[h34],by simp[h35],by simp[h36]⟩
   .have hmm:=h10;clear hn h3 h10 h34 h35 h36;rintro e1 h1 ⟨H,hsx,rfl,hep1,hn,h3,h10,h14,h34,h35,h36⟩;have htk2:takeN 1 ((rowBox ((out.set qn ⟨o.table,rows⟩).map relC) sp).drop (qn * 2+1))=some [.d (.sl (rows.map (encL GV.enc)))]:=by
     have h9:=Z54 (sp:=sp) (f:=1) (m:=1) (hall (out.set qn ⟨o.table,rows⟩)) (k:=qn) (x:=relC ⟨o.table,rows⟩) (by rw[Y0b,Y19 hiq];rfl) (by simp[relC]);simpa[takeN,relC] using h9
    simp only[Y11] at htk2;simp[hn,h3,h10,h14,h34,h35,h36,hiq,htk2];intro hrl2;refine r_cond hm ?_ ?_<;>clear hm<;>intro hc6 hm
    .obtain rfl:=r_ret hm;simp at hc6;simp[hn,h10,hc6,retH,resVs,resV,notTup];exact⟨Frz.data rfl,Frz.data rfl,trivial⟩
    .simp at hc6;have hc7:¬ (24 < rows.length):=by omega
     simp[hn,h10,hc7,h36,hw];have hb3:h.box (0,48)=some (s.enc.map C.d):=b0;have hput:=put H rows;exact BackF.of (out.set qn ⟨o.table,rows⟩) ⟨⟨.mrow l 0 out.length cap,by simpa only[Y11] using hput,fun k hk=>⟨(hl k hk).1,by have:=(hl k hk).2;have:=hsx.1;simp<;>omega⟩,hep1,by simp[hne3];rw[hsx.2 _ (by simp<;>omega) (by simp)];exact hb3,by simp[hn],by simp[h3],by simp[h10],by simp[h34],by simp[h35],by simp[hw]⟩,hback _ hm⟩
  .obtain⟨d,hd,hm⟩:=hm.bind;simp[hn,h3,h10,h34,h35,h36,b0,hc5];refine Wait.cut (Plan.then_ [0,1,2,3,4,5,6,7,8,9,10,11,12,14,15,13,16,17] .done) follows (by kernel_rfl) (fun e1 h1=>∃ H,Same h H []/\h1=H.setBox l (rowBox ((out.set qn ⟨o.table,d.1⟩).map relC) sp)/\1<=h1.ep/\e1.n=101/\e1.get 3=.one (.ptr (0,48) 0)/\e1.get 10=.one (.mrow l 0 out.length cap)/\e1.get 17=.one (.d (.bool d.2))/\e1.get 34=.one (.d (.sl (cs.map Chg.enc)))/\e1.get 35=.one (.d (.int .i64 (cs.length:Int)))/\e1.get 36=.one (.d (.int .i64 (i:Int)))) ?_ ?_
   .simp[hn,h3,h10,h34,h35,h36,b0,hc5,hiq,hb,hne1,hne2,htk];refine Z08 (Zc5 T o.rows x.key d hd) (by simp) ?_;simp[hn,h3,h10,h34,h35,h36,b0,hc5,hiq,hb,hne1,hne2,htk];refine⟨fun _ _ x=>x,by omega,CutK.of ?_⟩;rw[hset];exact⟨_,hsH.next,rfl,by simp<;>omega,by simp[hn],by simp[h3],by simp[h10],by simp[hn],by simp[h34],by simp[h35],by simp[h36]⟩
   .clear hn h3 h10 h34 h35 h36;rintro e1 h1 ⟨H,hsx,rfl,hep1,hn,h3,h10,h17,h34,h35,h36⟩;simp[hn,h17];refine r_cond hm ?_ ?_<;>clear hm<;>intro hc6 hm
    .obtain rfl:=r_ret hm;simp[hn,hc6,retH,resVs,resV,notTup];exact⟨Frz.data rfl,Frz.data rfl,trivial⟩
    .simp[hn,h36,hw,hc6];have hb3:h.box (0,48)=some (s.enc.map C.d):=b0;have hput:=put H d.1;exact BackF.of (out.set qn ⟨o.table,d.1⟩) ⟨⟨.mrow l 0 out.length cap,by simpa only[Y11] using hput,fun k hk=>⟨(hl k hk).1,by have:=(hl k hk).2;have:=hsx.1;simp<;>omega⟩,hep1,by simp[hne3];rw[hsx.2 _ (by simp<;>omega) (by simp)];exact hb3,by simp[hn],by simp[h3],by simp[h10],by simp[h34],by simp[h35],by simp[hw]⟩,hback _ hm⟩
 .rintro out e h ⟨c,hr,hl,hep,b0,hn,h3,h10,h34,h35,h36⟩ hm;obtain rfl:=r_ret hm;simp[hn,h10,h35,h36,retH,resVs,resV,notTup];refine⟨?_,Frz.data rfl,trivial⟩;show Frz _ _ _;exact Zpc hr
theorem Z7c (a:ByteArray):strEq a a=true:=Z7n.2 rfl
theorem Zci (rows:List (List GV)) (h:rows.length<=1048576):Wp (Z0j rows) fun r=>r=rows:=by
 have hL:=LIM_eq;unfold Z0j;refine Wp.for (fun i (s:List (List GV))=>s=rows.take i) (by simp) ?_ (fun s hs=>Wp.ret (by rw[hs,Y1b]));intro i x s next hx _ hI hn;have hi:=(Y00.1 hx).1;refine Wp.bind (R:=fun y=>y=x) ⟨x,rfl,rfl⟩ fun y _ hy=>?_;subst hy;refine Wp.app (by rw[hI];simp;omega) (hn _ ?_);obtain⟨h8,h9⟩:=Y00.1 hx;rw[Y10 h8,h9,hI]
theorem Zck (inst:List Rel) (h:inst.length<=1048576) (hr:∀ x ∈ inst,x.rows.length<=1048576):Wp (Z07 inst) fun r=>r=inst:=by
 have hL:=LIM_eq;unfold Z07;refine Wp.for (fun i (s:List Rel)=>s=inst.take i) (by simp) ?_ (fun s hs=>Wp.ret (by rw[hs,Y1b]));intro i x s next hx hm hI hn;have hi:=(Y00.1 hx).1;refine Wp.bind (Zci x.rows (hr x hm)) fun y _ hy=>?_;subst hy;refine Wp.app (by rw[hI];simp;omega) (hn _ ?_);obtain⟨h8,h9⟩:=Y00.1 hx;rw[Y10 h8,h9,hI]
theorem Zji {a b:Int}:0 < cmpI a b↔b < a:=by
 unfold cmpI;split
 .simp;omega
 .split<;>simp[*]
theorem cb_pos:∀ {a b:List UInt8},0 < Lib.compareBytes a b->Lib.compareBytes b a < 0:=by
 intro a
 induction a with
 | nil=>intro b h;cases b<;>simp[Lib.compareBytes] at h
 | cons x a ih=>
   intro b h;cases b with
   | nil=>simp[Lib.compareBytes]
   | cons y b=>
     simp only[Lib.compareBytes,UInt8.lt_iff_toNat_lt] at h |-;split at h
     .simp at h
     .split at h
      .rw[if_pos (by omega)];decide
      .rw[if_neg (by omega),if_neg (by omega)];exact ih h
theorem Zpt {a b:GV} (h:0 < cmpV a b):cmpV b a < 0:=by
 rw[Znm];unfold cmpV at h
 by_cases h1:cmpI a.kind b.kind=0
 .have e1:=Z6u.1 h1;rw[if_neg (by simp[h1])] at h
  by_cases h2:cmpI a.int b.int=0
  .have e2:=Z6u.1 h2;rw[if_neg (by simp[h2])] at h;exact .inr ⟨e1.symm,.inr ⟨e2.symm,cb_pos h⟩⟩
  .rw[if_pos h2] at h;exact .inr ⟨e1.symm,.inl (Zji.1 h)⟩
 .rw[if_pos h1] at h;exact .inl (Zji.1 h)
theorem Znl (a:GV):cmpV a a=0:=by
 unfold cmpV;rw[if_neg (by simp[cmpI]),if_neg (by simp[cmpI])];exact Znq _
theorem Zpu:∀ {a b:List GV},0 < cmpR a b->cmpR b a < 0:=by
 intro a
 induction a with
 | nil=>intro b h;cases b<;>simp[cmpR] at h
 | cons x a ih=>
   intro b h;cases b with
   | nil=>simp[cmpR]
   | cons y b=>
     simp only[cmpR] at h |-
     by_cases e:cmpV x y=0
     .have:=Zdv e
      subst this;rw[if_neg (by simp[e])] at h |-;exact ih h
     .rw[if_pos e] at h;have h2:=Zpt h;rw[if_pos (by omega)];exact h2
structure Mid (T:Tbl) (rows:List (List GV)) (k:List GV) (a b os:List (List GV)):Prop where
 eq:rows=a++(os++b)
 lo:∀ x ∈ a,cmpR (keyF T x) k < 0
 hi:∀ x ∈ b,cmpR k (keyF T x) < 0
 os:os=[]\/∃ o,os=[o]/\keyF T o=k
theorem Mid.parts {T:Tbl} {rows:List (List GV)} {k:List GV} {a b os:List (List GV)} (h:Mid T rows k a b os) (ha:AscP T rows):AscP T a/\AscP T b:=by
 rw[h.eq] at ha;have h1:=List.pairwise_append.1 ha;exact⟨h1.1,(List.pairwise_append.1 h1.2.1).2.1⟩
theorem Mid.put {T:Tbl} {rows:List (List GV)} {k row:List GV} {a b os:List (List GV)} (h:Mid T rows k a b os) (ha:AscP T rows) (hk:keyF T row=k):AscP T (a++row::b):=by
 obtain⟨h1,h2⟩:=h.parts ha;subst hk;refine List.pairwise_append.2 ⟨h1,List.pairwise_cons.2 ⟨h.hi,h2⟩,fun x hx y hy=>?_⟩;rcases Y08.1 hy with rfl | h3
 .exact h.lo x hx
 .exact Zez (h.lo x hx) (h.hi y h3)
structure CS (S:Sch) (c:Chg) (out out':List Rel) (k:Nat) (T:Tbl) (o:Rel) (rows:List (List GV)):Prop where
 ft:Z02 S c.table=some ((k:Int),true)
 t:S.tables[k]? = some T
 nm:strEq T.name c.table=true
 ok:out[k]? = some o
 eq:out'=out.set k ⟨o.table,rows⟩
 up:c.kind=1->CR T c.row/\∃ a b os,Mid T o.rows (keyF T c.row) a b os/\rows=a++c.row::b
 dl:c.kind≠1->∃ a b x,Mid T o.rows c.key a b [x]/\rows=a++b
 vd:Z5f S c=some 0
theorem CF.set {S:Sch} {out:List Rel} {k:Nat} {T:Tbl} {o:Rel} {rows:List (List GV)} (h:CF S out) (hT:S.tables[k]? = some T) (ho:out[k]? = some o) (hl:rows.length<=24) (hr:∀ row ∈ rows,CR T row) (ha:AscP T rows):CF S (out.set k ⟨o.table,rows⟩):=by
 have at':∀ (i:Nat) (x:Rel),(out.set k ⟨o.table,rows⟩)[i]? = some x->(i=k/\x=⟨o.table,rows⟩)\/(i≠k/\out[i]? = some x):=fun i x hx=>by
  rw[Y2s] at hx
  by_cases hk:k=i
  .subst hk
   have:=(Y00.1 ho).1
   simp[this] at hx;exact .inl ⟨rfl,hx.symm⟩
  .rw[if_neg hk] at hx;exact .inr ⟨fun h=>hk h.symm,hx⟩
 refine⟨by simpa using h.len,fun i x T' hx hT'=>?_,fun x hx=>?_,fun i x T' hx hT'=>?_,fun i x T' hx hT'=>?_⟩
 .rcases at' i x hx with ⟨rfl,rfl⟩ | ⟨_,h1⟩
  .exact h.name i o T' ho hT'
  .exact h.name i x T' h1 hT'
 .obtain⟨i,hi,rfl⟩:=Y1g hx;rcases at' i _ (Y01 hi) with ⟨_,h1⟩ | ⟨_,h1⟩
  .rw[h1];exact hl
  .exact h.l24 _ (Y03 h1)
 .rcases at' i x hx with ⟨rfl,rfl⟩ | ⟨_,h1⟩
  .rw[hT] at hT';cases hT';exact hr
  .exact h.row i x T' h1 hT'
 .rcases at' i x hx with ⟨rfl,rfl⟩ | ⟨_,h1⟩
  .rw[hT] at hT';cases hT';exact ha.asc
  .exact h.asc i x T' h1 hT'
inductive Runs (S:Sch) (o:List Rel):List Chg->List Rel->Prop
 | nil:Runs S o [] o
 | snoc {cs:List Chg} {o' o'':List Rel} {c:Chg} {k:Nat} {T:Tbl} {x:Rel} {rows:List (List GV)} (h:Runs S o cs o') (s:CS S c o' o'' k T x rows):Runs S o (cs++[c]) o''
def mpC (M:Mp) (co cn:C):List C:=M.enc.map C.d++[co,cn,.d (.int .i64 M.err)]
theorem MR.lenK {h:HS} {n:Nat} {c:C} {xs:List (List C)} {f:Nat->Prop} (m:MR h n c xs) (hk:f xs.length):lenK c (k:=⟨f⟩):=by
 rcases m.2.2 with ⟨rfl,rfl | rfl⟩ | ⟨l,cap,sp,rfl,-⟩
 .simpa using hk
 .simpa using hk
 .simpa using hk
def RelAt (h:HS) (c:C) (rs:List Rel):Prop:=∃ xs:List (List C),MR h 2 c xs/\xs.map toDs=rs.map fun r=>some r.enc
structure MpAt (h:HS) (l:Lab) (co cn:C) (M:Mp):Prop where
 box:h.box l=some (mpC M co cn)
 out:RelAt h co M.out
 nc:RelAt h cn M.nc
 lt:∀ k ∈ l::(labs co++labs cn),k.1 < h.ep
 nl:l ∉ labs co/\l ∉ labs cn/\∀ k ∈ labs co,k ∉ labs cn
theorem RelAt.len {h:HS} {c:C} {rs:List Rel} (r:RelAt h c rs):∃ xs:List (List C),MR h 2 c xs/\(xs.map toDs=rs.map fun r=>some r.enc)/\xs.length=rs.length/\∀ (i:Nat) r,rs[i]? = some r->∃ c',xs[i]? = some [.d (.str r.table),c']/\c'.toD=some (.sl (r.rows.map (encL GV.enc))):=by
 obtain⟨xs,m,he⟩:=r;refine⟨xs,m,he,by have:=congrArg List.length he;simpa using this,fun i r hr=>?_⟩;have h1:=congrArg (fun z=>z[i]?) he;simp only[Y0b,hr,Y0h] at h1;cases hx:xs[i]? with
 | none=>rw[hx] at h1;cases h1
 | some x=>
   rw[hx] at h1;have h2:toDs x=some r.enc:=Option.some.inj h1;have hl:x.length=2:=m.1 x (Y03 hx)
   match x,hl with
   | [a,b],_=>
     simp only[toDs,Rel.enc] at h2;cases ha:a.toD with
     | none=>rw[ha] at h2;cases h2
     | some a'=>
       cases hb:b.toD with
       | none=>rw[ha,hb] at h2;cases h2
       | some b'=>
         rw[ha,hb] at h2;simp at h2;refine⟨b,?_,by rw[hb,h2.2]⟩
         have:a=.d (.str r.table):=by
          obtain⟨rfl,rfl⟩:=h2;cases a with
          | d x=>simp[C.toD] at ha;rw[ha]
          | _=>simp[C.toD] at ha
         rw[this]
theorem RelAt.frame {h h':HS} {c:C} {rs:List Rel} (r:RelAt h c rs) (hb:∀ l ∈ labs c,h'.box l=h.box l):RelAt h' c rs:=by
 obtain⟨xs,m,he⟩:=r;exact⟨xs,m.frame hb,he⟩
theorem RelAt.frz {h:HS} {c:C} {rs:List Rel} (r:RelAt h c rs):Frz h c (.sl (rs.map Rel.enc)):=by
 obtain⟨xs,m,-,hl,he⟩:=r.len;refine m.frz (by simp[hl]) (fun t ht=>by obtain⟨y,_,rfl⟩:=Y0m.1 ht;rfl) fun i x t hx ht=>?_;rw[Y0b] at ht;cases hq:rs[i]? with
 | none=>rw[hq] at ht;cases ht
 | some q=>
   rw[hq] at ht;cases ht;obtain⟨c',h1,h2⟩:=he i q hq;rw[hx] at h1;cases h1;exact⟨.data rfl,.data h2,trivial⟩
theorem MpAt.frame {h h':HS} {l:Lab} {co cn:C} {M:Mp} (m:MpAt h l co cn M) (hs:Same h h' []):MpAt h' l co cn M:=
 ⟨by rw[hs.2 l (m.lt l (by simp)) (by simp)];exact m.box,m.out.frame fun k hk=>hs.2 k (m.lt k (by simp[hk])) (by simp),m.nc.frame fun k hk=>hs.2 k (m.lt k (by simp[hk])) (by simp),
  fun k hk=>Y04 (m.lt k hk) hs.1,m.nl⟩
def setR (t:ByteArray) (rows:List (List GV)) (out:List Rel):List Rel:=out.map fun r=>bif strEq r.table t then ⟨r.table,rows⟩ else r
theorem Zp8 {t:ByteArray} {rows:List (List GV)} {out:List Rel}:(setR t rows out).length=out.length:=by simp[setR]
theorem Zmv {t:ByteArray} {rows:List (List GV)} {out:List Rel} {i:Nat} (hi:i < out.length) :
  (setR t rows (out.take i)++out.drop i)[i]? = some out[i]/\setR t rows (out.take (i+1))++out.drop (i+1)=bif strEq out[i].table t then (setR t rows (out.take i)++out.drop i).set i ⟨out[i].table,rows⟩ else setR t rows (out.take i)++out.drop i:=by
 have h1:(setR t rows (out.take i)).length=i:=by rw[Zp8,Y12];omega
 have h2:out.take (i+1)=out.take i++[out[i]]:=by rw[List.take_add_one];simp[hi]
 have h3:out.drop i=out[i]::out.drop (i+1):=Y14 hi;refine⟨by rw[Y13 (by omega),h1,h3];simp,?_⟩;rw[h2];have h4:setR t rows (out.take i++[out[i]])=setR t rows (out.take i)++[bif strEq out[i].table t then ⟨out[i].table,rows⟩ else out[i]]:=by simp only[setR,Y2c,Y0d,Y0g]
 rw[h4,h3];cases strEq out[i].table t with
 | true=>simp only[cond_true];rw[Y2o _ _ (by omega),h1,Nat.sub_self,List.set_cons_zero,Y0n];rfl
 | false=>simp
end
section
open Go.Am
def Z19 (s_:Sch):Option ((List Rel)):=
 (forK (fun (i3:Nat) (x3:Tbl) (s3:(List Rel)) next_3=>(appK2 s3 [(Rel.mk x3.name [])] fun _=>(next_3 (s3++[(Rel.mk x3.name [])])))) (fun (s3:(List Rel))=>(some s3)) s_.tables 0 [])
instance c_instance_Empty (s_:Sch):Con (Z19 s_) prog 43 [.agg s_.enc] (fun r=>.one (.d (.sl (r.map Rel.enc)))):=by
 unfold Z19;have l1:LH (σ:=(List Rel)) 9 [7,8] [.g 3 2 (fun s=>s.map Rel.enc)]:=.intro;exact go 21 Tryz.func43 rfl (by kernel_rfl) rfl rfl (by simp)
end
section
open Go Go.Am
theorem Zmz {h:HS} {c:C} {rs:List Rel} (m:MR h 2 c (rs.map relC)):RelAt h c rs:=⟨_,m,by simp[relC,toDs,Rel.enc,C.toD]⟩
theorem Z8x (h:HS) (S:Sch) (out:List Rel) (hm:Is (Z19 S) out) (K:V->HS->Prop)
  (hk:∀ c h',RelAt h' c out->Same h h' []->(∀ k ∈ labs c,h.ep<=k.1/\k.1 < h'.ep)->BoxLe h h'->K (.one c) h') :
  HSpec prog 43 [.agg (S.enc.map C.d)] h K:=by
 refine HSpec.good Tryz.func43 rfl (by kernel_rfl) fun hg=>?_;unfold Z19 at hm;refine HSpec.of_vc Tryz.func43 rfl (by kernel_rfl) (n:=21) rfl rfl (by simp) ?_;simp;intro hil;refine Wait.for (xs:=S.tables) (s0:=[]) (fun i s e h'=>∃ c,e.n=21/\e.get 3=.one c/\e.get 7=.one (.d (.sl (S.tables.map Tbl.enc)))/\e.get 8=.one (.d (.int .i64 (S.tables.length:Int)))/\e.get 9=.one (.d (.int .i64 (i:Int)))/\MR h' 2 c (s.map relC)/\Same h h' []/\∀ k ∈ labs c,h.ep<=k.1/\k.1 < h'.ep) hm ⟨.nil,by simp,by simp,by simp,by simp,by simp,by simpa using MR.nil,(Same.refl.setBox (.inr (by simp))).next,by simp[labs]⟩ ?_ ?_
 .rintro i s e h' ⟨c,hn,h3,h7,h8,h9,hmr,hs,hl⟩ hlt hm;have hw:IntKind.i64.wrap ((i:Int)+1)=(i:Int)+1:=Y0a _ (by omega);obtain⟨hap,hm⟩:=hm.chk;simp[hn,h3,h7,h8,h9,hlt];have hs2:Same h' (((h'.setBox (h'.ep,80) [.d (.str empty),.nil,.nil]).next.setBox (h'.ep,80) [.d (.str S.tables[i].name),.d (.sl (S.tables[i].cols.map Col.enc)),.d (.sl (S.tables[i].pk.map encI))]).setArr (h'.ep+1,272) (some (1,2))).next []:=(((Same.refl.setBox (.inr (by simp))).next.setBox (.inr (by simp))).setArr).next;refine app_mr Zab (by kernel_rfl) (by decide) (by decide) (hmr.frame fun k hk=>hs2.2 k (hl k hk).2 (by simp)) (RowAt.own1 rfl) (by simpa using hap) (fun c' h2 hm2 hs3 hl3=>?_);simp[hn,h3,h7,h8,h9,hw];have hs4:Same h h2 []:=(hs.trans hs2).trans' hs3 fun k hk=>.inr (hl k hk).1;refine BackF.of (s++[⟨S.tables[i].name,[]⟩]) ⟨⟨c',by simp[hn],by simp[h3],by simp[h7],by simp[h8],by simp,?_,hs4,fun k hk=>?_⟩,hm⟩
  .simpa[relC] using hm2
  .rcases hl3 k hk with h9 | h9
   .have:=hl k h9
    have:=hs3.1
    simp at this;omega
   .have:=hs.1
    simp at h9;omega
 .rintro s e h' ⟨c,hn,h3,h7,h8,h9,hmr,hs,hl⟩ hm;obtain rfl:=r_ret hm;simp[hn,h3,h7,h8,h9];exact hk _ _ (Zmz hmr) hs hl (hs.boxLe hg)
abbrev VSh:List Sh:=[.d,.d,.d]
abbrev RowSh:Sh:=.r VSh
theorem Zg3 {α ρ:Type} {k:List α->Option ρ}:∀ (xs:List α) (i:Nat) (s:List α),forK (fun (_:Nat) x s next=>next (s++[x])) k xs i s=k (s++xs)
 | [],i,s=>by simp[forK]
 | x::xs,i,s=>by simp[forK,Zg3 xs]
structure OwN (h h':HS) (ss:List Sh) (cs:List C) (ds:List D) (ls:List Lab):Prop where
 ow:Ow h' ss cs ds ls
 nd:ls.Nodup
 new:∀ k ∈ ls,h.ep<=k.1/\k.1 < h'.ep
 same:Same h h' []
def GrowP (h h':HS) (sh:List Sh) (c:C) (ds:List (List D)):Prop:=∃ qs,Part h' sh c qs ds/\(plabs c qs).Nodup/\(∀ k ∈ plabs c qs,h.ep<=k.1/\k.1 < h'.ep)/\Same h h' []
theorem GrowP.nil {h:HS} {sh:List Sh}:GrowP h h sh .nil []:=⟨[],⟨by simpa using MR.nil,rfl,by simp⟩,by simp[plabs,labs],by simp[plabs,labs],.refl⟩
theorem GrowP.step {h h1 h2:HS} {sh:List Sh} {c:C} {ds:List (List D)} (g:GrowP h h1 sh c ds) (hs:Same h1 h2 []):GrowP h h2 sh c ds:=by
 obtain⟨qs,p,nd,hl,s⟩:=g;exact⟨qs,p.frame fun k hk=>hs.2 k (hl k hk).2 (by simp),nd,fun k hk=>⟨(hl k hk).1,Y04 (hl k hk).2 hs.1⟩,s.trans hs⟩
theorem GrowP.app {P:Program} {ty el:TypeId} {n by_ dd:Nat} {h h1 h2:HS} {sh:List Sh} {c x:C} {ds:List (List D)} {xc:List C} {d:List D} {lx:List Lab} {K:V->HS->Prop} (g:GrowP h h1 sh c ds) (hs:Same h1 h2 []) (hel:elT P ty=some (el,n,by_)) (hz:(zeT P el).isSome=true) (h0:0 < n) (hb:by_<=4096)
  (hr:RowAt h2 n x [xc]) (hn:sh.length=n) (ho:Ow h2 sh xc d lx) (hlx:lx.Nodup) (hnew:∀ k ∈ lx,h1.ep<=k.1/\k.1 < h2.ep) (hlim:ds.length+1<=LIM)
  (hk:∀ c' h3,GrowP h h3 sh c' (ds++[d])->Same h2 h3 (labs c)->K (.one c') h3):appK P ty c x dd h2 (K:=⟨K⟩):=by
 subst hn;obtain⟨qs,p0,nd,hl0,s0⟩:=g;have p:=p0.frame fun k hk=>hs.2 k (hl0 k hk).2 (by simp);have hl:∀ k ∈ plabs c qs,h.ep<=k.1/\k.1 < h2.ep:=fun k hk=>⟨(hl0 k hk).1,Y04 (hl0 k hk).2 hs.1⟩;have s:=s0.trans hs;have hlt:∀ k ∈ plabs c qs,k.1 < h2.ep:=fun k hk=>(hl k hk).2;have hq:qs.length=ds.length:=by rw[<- p.ds];simp
 refine app_mr hel hz h0 hb p.mr hr (by simpa[hq] using hlim) fun c' h3 hm hs3 hl3=>?_;have hcn:∀ k ∈ labs c,h.ep<=k.1:=fun k hk=>(hl k (by simp[plabs,hk])).1;have hc1:∀ k ∈ labs c,k.1 < h1.ep:=fun k hk=>(hl0 k (by simp[plabs,hk])).2;have hxo:∀ k ∈ lx,k ∉ labs c:=fun k hk h9=>by have:=hc1 k h9;have:=(hnew k hk).1;omega
 refine hk c' h3 ⟨qs++[(xc,d,lx)],p.add nd hlt hm hs3 (ho.frame fun k hk=>hs3.2 k (hnew k hk).2 (hxo k hk)),?_,fun k hk=>?_,s.trans' hs3 fun k hk=>.inr (hcn k hk)⟩ hs3
 .refine Zb6 nd hlt (fun k hk=>(hl3 k hk).imp id fun h9=>h9.1) hlx fun k hk=>⟨fun h9=>?_,fun h9=>?_⟩
  .have:=(hl0 k h9).2;have:=(hnew k hk).1;omega
  .rcases hl3 k h9 with h8 | h8
   .exact hxo k hk h8
   .have:=(hnew k hk).2;omega
 .rcases Z2x hk with h9 | h9 | h9
  .rcases hl3 k h9 with h8 | h8
   .exact⟨hcn k h8,Y04 (hl k (by simp[plabs,h8])).2 hs3.1⟩
   .exact⟨Y0y s.1 h8.1,h8.2⟩
  .have:=hl k (by simp only[plabs,Y02];exact .inr h9)
   exact⟨this.1,Y04 this.2 hs3.1⟩
  .have:=hnew k h9
   exact⟨Y0y s0.1 this.1,Y04 this.2 hs3.1⟩
theorem Zlw {h:HS} {c:C} {row:List GV} (m:MR h 3 c ((row.map GV.enc).map (·.map C.d))):Ow h [RowSh] [c] [.sl (row.map GV.enc)] (labs c):=by
 have e1:(row.map fun v=>((v.enc.map C.d,v.enc,[]):List C × List D × List Lab)).flatMap (·.2.2)=[]:=by
  rw[Y2j];intro q hq;obtain⟨v,_,rfl⟩:=Y0m.1 hq;rfl
 have e2:(row.map fun v=>((v.enc.map C.d,v.enc,[]):List C × List D × List Lab)).map (·.2.1)=row.map GV.enc:=by rw[Y28];rfl
 have e3:(row.map fun v=>((v.enc.map C.d,v.enc,[]):List C × List D × List Lab)).map (·.1)=(row.map GV.enc).map (·.map C.d):=by rw[Y28,Y28];rfl
 have:=Ow.row (h:=h) (es:=VSh) (c:=c) (qs:=row.map fun v=>(v.enc.map C.d,v.enc,[])) (ss:=[]) (cs:=[]) (ds:=[]) (ls:=[]) (by rw[e3];exact m) (fun q hq=>by
  obtain⟨v,_,rfl⟩:=Y0m.1 hq;exact Ow.datas (h:=h) (ds:=v.enc)) .nil
 rw[e1,e2,Y0k,Y0k] at this;exact this
theorem Z9h (h:HS) (row:List GV) (hl:row.length<=2097152) (K:V->HS->Prop) (hk:∀ c h',OwN h h' [RowSh] [c] [.sl (row.map GV.enc)] (labs c)->MR h' 3 c ((row.map GV.enc).map (·.map C.d))->BoxLe h h'->K (.one c) h') :
  HSpec prog 75 [.one (.d (.sl (row.map GV.enc)))] h K:=by
 refine Za2 h _ ((row.map GV.enc).map (·.map C.d)) (RowAt.data (fun t ht=>by obtain⟨z,_,rfl⟩:=Y0m.1 ht;rfl) (by simpa using hl)) K fun c h' hm hs hl hb=>?_;exact hk c h' ⟨Zlw hm,Z1t,hl,hs⟩ hm hb
theorem Zbt (h:HS) (rows:List (List GV)) (hok:∀ row ∈ rows,row.length<=2097152) (K:V->HS->Prop)
  (hk:∀ c h',GrowP h h' [RowSh] c (rows.map (encL GV.enc))->BoxLe h h'->K (.one c) h') :
  HSpec prog 71 [.one (.d (.sl (rows.map (encL GV.enc))))] h K:=by
 refine HSpec.good Tryz.func71 rfl (by kernel_rfl) fun hg=>?_;refine HSpec.of_vc Tryz.func71 rfl (by kernel_rfl) (n:=19) rfl rfl (by simp) ?_;have hm:Is (forK (fun (_:Nat) x s next=>next (s++[x])) (fun s=>some s) rows 0 []) rows:=by rw[Zg3];rfl
 simp;intro hil;refine Wait.for (xs:=rows) (s0:=[]) (fun i s e h'=>∃ c,e.n=19/\e.get 3=.one c/\e.get 6=.one (.d (.sl (rows.map (encL GV.enc))))/\e.get 7=.one (.d (.int .i64 (rows.length:Int)))/\e.get 8=.one (.d (.int .i64 (i:Int)))/\GrowP h h' [RowSh] c (s.map (encL GV.enc))/\s.length=i) hm ⟨.nil,by simp,by simp,by simp,by simp,by simp,.nil,rfl⟩ ?_ ?_
 .rintro i s e h' ⟨c,hn,h3,h6,h7,h8,hmr,hsl⟩ hlt hm;have hw:IntKind.i64.wrap ((i:Int)+1)=(i:Int)+1:=Y0a _ (by omega);have hri:=hok _ (Y0p hlt);simp[hn,h3,h6,h7,h8,hlt];refine Z00 (Z9h _ _ hri _ fun c1 h1 ho1 hm1 hb1=>?_);simp[hn,h3,h6,h7,h8,hw];have hs1:=ho1.same;refine bld_ow (x:=[c1]) (by simp only[toDs];cases c1.toD<;>rfl) rfl (fun d hd=>?_) (fun hd=>?_)
  .obtain⟨rfl,hd2⟩:=ho1.ow.ofD hd;simp[hn,h3,h6,h7,h8,hw];refine GrowP.app hmr (hs1.trans ((Same.refl.setArr).next)) Z3e (by kernel_rfl) (by decide) (by decide) (RowAt.own1 rfl) rfl (hd2 _) (by simp) (by simp) (by simpa using (by omega:s.length+1<=2097152)) fun c' h3' hg' hs3=>?_;simp[hn,h3,h6,h7,h8,hw];exact BackF.of (s++[rows[i]]) ⟨⟨c',by simp[hn],by simp[h3],by simp[h6],by simp[h7],by simp,by simpa[encL] using hg',by simp[hsl]⟩,hm⟩
  .simp[hn,h3,h6,h7,h8,hw];have hs2:Same h1 ((h1.setBox (h1.ep,240) [c1]).next) []:=(Same.refl.setBox (.inr (by simp))).next;refine GrowP.app hmr (hs1.trans hs2) Z3e (by kernel_rfl) (by decide) (by decide) (RowAt.new1 rfl (by simp)) rfl (ho1.ow.frame fun k hk=>hs2.2 k (ho1.new k hk).2 (by simp)) ho1.nd (fun k hk=>⟨(ho1.new k hk).1,Y04 (ho1.new k hk).2 hs2.1⟩) (by simpa using (by omega:s.length+1<=2097152)) fun c' h3' hg' hs3=>?_;simp[hn,h3,h6,h7,h8,hw];exact BackF.of (s++[rows[i]]) ⟨⟨c',by simp[hn],by simp[h3],by simp[h6],by simp[h7],by simp,by simpa[encL] using hg',by simp[hsl]⟩,hm⟩
 .rintro s e h' ⟨c,hn,h3,h6,h7,h8,hmr,hsl⟩ hm;obtain rfl:=r_ret hm;simp[h3,h7,h8,hn];obtain⟨qs,p,nd,hl,hs⟩:=hmr;exact hk _ _ ⟨qs,p,nd,hl,hs⟩ (hs.boxLe hg)
theorem Zi1 {lo:Lab} {n cap i:Nat} {xs:List (List C)} {sp:List C} {rs:List Rel} {r:Rel} {c' cr:C} {rows:List (List GV)} (hall:AllC 2 xs) (hlen:xs.length=n) (hlim:xs.length<=LIM) (hcap:(rowBox xs sp).length=cap * 2)
  (hx:xs[i]? = some [.d (.str r.table),c']) (hr:cr.toD=some (.sl (rows.map (encL GV.enc)))) (he:xs.map toDs=rs.map fun r=>some r.enc) (H:HS) :
  RelAt (H.setBox lo (Z01 (rowBox xs sp) (i * 2+1) [cr])) (.mrow lo 0 n cap) (rs.set i ⟨r.table,rows⟩):=by
 have hs:Z01 (rowBox xs sp) (i * 2+1) [cr]=rowBox (xs.set i [.d (.str r.table),cr]) sp:=by
  rw[Z9a hall hx (by simp)];simp[Z01]
 rw[hs];refine⟨xs.set i [.d (.str r.table),cr],⟨hall.set (by simp),by simpa using hlim,.inr ⟨lo,cap,sp,by simp[hlen],by simp,?_⟩⟩,?_⟩
 .rw[Z0e (hall.set (by simp)),Y2b,<- hcap,Z0e hall]
 .rw[Y11,Y11,he];have e1:toDs [.d (.str r.table),cr]=some [.str r.table,.sl (rows.map (encL GV.enc))]:=by simp only[toDs,hr];rfl
  rw[e1];simp[Rel.enc]
theorem Zha {ρ:Type} {t:ByteArray} {rows:List (List GV)} {k:List Rel->Option ρ} {out:List Rel} :
  forK (fun (i:Nat) (x:Rel) (s:List Rel) next=>bif strEq x.table t then next (s.set i ⟨x.table,rows⟩) else next s) k out 0 out=k (setR t rows out):=by
 have key:∀ (m i:Nat),out.length - i=m->i<=out.length->forK (fun (i:Nat) (x:Rel) (s:List Rel) next=>bif strEq x.table t then next (s.set i ⟨x.table,rows⟩) else next s) k (out.drop i) i (setR t rows (out.take i)++out.drop i)=k (setR t rows out):=by
  intro m
  induction m with
  | zero=>
    intro i hm hi;obtain rfl:i=out.length:=by omega
    simp[forK]
  | succ m ih=>
    intro i hm hi;have hlt:i < out.length:=by omega
    have h3:out.drop i=out[i]::out.drop (i+1):=Y14 hlt;have h4:=ih (i+1) (by omega) (by omega);rw[(Zmv hlt).2] at h4;generalize setR t rows (out.take i)++out.drop i=s at h4 |-;rw[h3];simp only[forK];cases hb:strEq out[i].table t with
    | true=>rw[hb] at h4;exact h4
    | false=>rw[hb] at h4;exact h4
 have:=key out.length 0 (by omega) (by omega)
 simpa[setR] using this
theorem Z8w (h:HS) (l:Lab) (co cn cr:C) (M:Mp) (t:ByteArray) (rows:List (List GV)) (m:MpAt h l co cn M) (hr:cr.toD=some (.sl (rows.map (encL GV.enc)))) (K:V->HS->Prop)
  (hk:∀ h',MpAt h' l co cn { M with out:=setR t rows M.out }->Same h h' (labs co)->K (.tup []) h'):HSpec prog 185 [.one (.ptr l 0),.one (.d (.str t)),.one cr] h K:=by
 refine HSpec.of_vc Tryz.func185 rfl (by kernel_rfl) (n:=34) rfl rfl (by simp) ?_;have hb:=m.box;simp only[mpC,Mp.enc,Stp.enc,Y0d,Y0g,Y0s,Y0v] at hb;obtain⟨xs,mx,-,hlen,hel⟩:=m.out.len;simp[hb];refine MR.lenK mx ?_;simp[hb];have hm:Is (forK (fun (i:Nat) (x:Rel) (s:List Rel) next=>bif strEq x.table t then next (s.set i ⟨x.table,rows⟩) else next s) (fun s=>some s) M.out 0 M.out) (setR t rows M.out):=Zha;refine Wait.for (xs:=M.out) (s0:=M.out) (fun i s e h'=>e.n=34/\e.get 0=.one (.ptr l 0)/\e.get 1=.one (.d (.str t))/\e.get 2=.one cr/\e.get 11=.one (.d (.int .i64 (M.out.length:Int)))/\e.get 12=.one (.d (.int .i64 (i:Int))) /\
  MpAt h' l co cn { M with out:=s }/\Same h h' (labs co)/\s.length=M.out.length/\∀ j,i<=j->s[j]? = M.out[j]?) hm ⟨by simp,by simp,by simp,by simp,by simp[hlen],by simp,m,.refl,rfl,fun _ _=>rfl⟩ ?_ ?_
 .rintro i s e h1 ⟨hn,h0,h1',h2,h11,h12,m1,hs,hsl,hj⟩ hlt hm;have hw:IntKind.i64.wrap ((i:Int)+1)=(i:Int)+1:=Y0a _ (by have:=mx.2.1;simp at this;omega);have hb1:=m1.box;simp only[mpC,Mp.enc,Stp.enc,Y0d,Y0g,Y0s,Y0v] at hb1;obtain⟨ys,my,he',hyl,hye⟩:=m1.out.len;have hsi:s[i]? = some M.out[i]:=by rw[hj i (Y09 _)];exact Y01 hlt
  obtain⟨c',hx,hc'⟩:=hye i _ hsi;have hyi:i < ys.length:=(Y00.1 hx).1;obtain⟨lo,cap,sp,rfl,hbo,hcap⟩:=my.block (by omega);have ht0:takeN 1 ((rowBox ys sp).drop (i * 2))=some [.d (.str M.out[i].table)]:=by
   have h9:=Z54 (sp:=sp) (f:=0) (m:=1) my.1 hx (by simp);simpa[takeN] using h9
  have hln:=Z84 (sp:=sp) my.1 (k:=i) hyi;simp[hn,h0,h1',h2,h11,h12,hlt,hb1,hyi,hbo,ht0];refine r_cond hm ?_ ?_<;>clear hm<;>intro hc hm
  .have hne:=m1.nl.1;simp[labs] at hne;have hle:i * 2+1+1<=(rowBox ys sp).length:=by omega
   simp[hn,h0,h1',h2,h11,h12,hlt,hb1,hyi,hbo,hw,hle];refine BackF.of (s.set i ⟨M.out[i].table,rows⟩) ⟨⟨by simp[hn],by simp[h0],by simp[h1'],by simp[h2],by simp[h11],by simp,⟨?_,?_,?_,?_,m1.nl⟩,?_,by simpa using hsl,?_⟩,hm⟩
   .simp[hne];exact m1.box
   .exact Zi1 my.1 rfl my.2.1 hcap hx hr he' _
   .exact m1.nc.frame fun k hkn=>by
     have:=m1.nl.2.2 lo (by simp[labs])
     have:k≠lo:=by rintro rfl;exact this hkn
     simp[this]
   .intro k hk;simpa using m1.lt k hk
   .exact hs.trans (Same.refl.setBox (.inl (by simp[labs])))
   .intro j hij;rw[Y1d (by omega)];exact hj j (by omega)
  .simp[hn,h0,h1',h2,h11,h12,hlt,hb1,hyi,hbo,hw];exact BackF.of s ⟨⟨by simp[hn],by simp[h0],by simp[h1'],by simp[h2],by simp[h11],by simp,m1,hs,hsl,fun j hij=>hj j (by omega)⟩,hm⟩
 .rintro s e h1 ⟨hn,h0,h1',h2,h11,h12,m1,hs,hsl,hj⟩ hm;obtain rfl:=r_ret hm;simp[hn,h0,h1',h2,h11,h12];exact hk _ m1 hs
theorem Z75 (h:HS) (l:Lab) (co cn cr:C) (M:Mp) (t:ByteArray) (rows:List (List GV)) (m:MpAt h l co cn M) (hr:cr.toD=some (.sl (rows.map (encL GV.enc)))) (K:V->HS->Prop)
  (hk:∀ h',MpAt h' l co cn { M with nc:=setR t rows M.nc }->Same h h' (labs cn)->K (.tup []) h'):HSpec prog 186 [.one (.ptr l 0),.one (.d (.str t)),.one cr] h K:=by
 refine HSpec.of_vc Tryz.func186 rfl (by kernel_rfl) (n:=34) rfl rfl (by simp) ?_;have hb:=m.box;simp only[mpC,Mp.enc,Stp.enc,Y0d,Y0g,Y0s,Y0v] at hb;obtain⟨xs,mx,-,hlen,hel⟩:=m.nc.len;simp[hb];refine MR.lenK mx ?_;simp[hb];have hm:Is (forK (fun (i:Nat) (x:Rel) (s:List Rel) next=>bif strEq x.table t then next (s.set i ⟨x.table,rows⟩) else next s) (fun s=>some s) M.nc 0 M.nc) (setR t rows M.nc):=Zha;refine Wait.for (xs:=M.nc) (s0:=M.nc) (fun i s e h'=>e.n=34/\e.get 0=.one (.ptr l 0)/\e.get 1=.one (.d (.str t))/\e.get 2=.one cr/\e.get 11=.one (.d (.int .i64 (M.nc.length:Int)))/\e.get 12=.one (.d (.int .i64 (i:Int))) /\
  MpAt h' l co cn { M with nc:=s }/\Same h h' (labs cn)/\s.length=M.nc.length/\∀ j,i<=j->s[j]? = M.nc[j]?) hm ⟨by simp,by simp,by simp,by simp,by simp[hlen],by simp,m,.refl,rfl,fun _ _=>rfl⟩ ?_ ?_
 .rintro i s e h1 ⟨hn,h0,h1',h2,h11,h12,m1,hs,hsl,hj⟩ hlt hm;have hw:IntKind.i64.wrap ((i:Int)+1)=(i:Int)+1:=Y0a _ (by have:=mx.2.1;simp at this;omega);have hb1:=m1.box;simp only[mpC,Mp.enc,Stp.enc,Y0d,Y0g,Y0s,Y0v] at hb1;obtain⟨ys,my,he',hyl,hye⟩:=m1.nc.len;have hsi:s[i]? = some M.nc[i]:=by rw[hj i (Y09 _)];exact Y01 hlt
  obtain⟨c',hx,hc'⟩:=hye i _ hsi;have hyi:i < ys.length:=(Y00.1 hx).1;obtain⟨lo,cap,sp,rfl,hbo,hcap⟩:=my.block (by omega);have ht0:takeN 1 ((rowBox ys sp).drop (i * 2))=some [.d (.str M.nc[i].table)]:=by
   have h9:=Z54 (sp:=sp) (f:=0) (m:=1) my.1 hx (by simp);simpa[takeN] using h9
  have hln:=Z84 (sp:=sp) my.1 (k:=i) hyi;simp[hn,h0,h1',h2,h11,h12,hlt,hb1,hyi,hbo,ht0];refine r_cond hm ?_ ?_<;>clear hm<;>intro hc hm
  .have hne:=m1.nl.2.1;simp[labs] at hne;have hle:i * 2+1+1<=(rowBox ys sp).length:=by omega
   simp[hn,h0,h1',h2,h11,h12,hlt,hb1,hyi,hbo,hw,hle];refine BackF.of (s.set i ⟨M.nc[i].table,rows⟩) ⟨⟨by simp[hn],by simp[h0],by simp[h1'],by simp[h2],by simp[h11],by simp,⟨?_,?_,?_,?_,m1.nl⟩,?_,by simpa using hsl,?_⟩,hm⟩
   .simp[hne];exact m1.box
   .exact m1.out.frame fun k hkn=>by
     have:=m1.nl.2.2 k hkn
     have:k≠lo:=by rintro rfl;exact this (by simp[labs])
     simp[this]
   .exact Zi1 my.1 rfl my.2.1 hcap hx hr he' _
   .intro k hk;simpa using m1.lt k hk
   .exact hs.trans (Same.refl.setBox (.inl (by simp[labs])))
   .intro j hij;rw[Y1d (by omega)];exact hj j (by omega)
  .simp[hn,h0,h1',h2,h11,h12,hlt,hb1,hyi,hbo,hw];exact BackF.of s ⟨⟨by simp[hn],by simp[h0],by simp[h1'],by simp[h2],by simp[h11],by simp,m1,hs,hsl,fun j hij=>hj j (by omega)⟩,hm⟩
 .rintro s e h1 ⟨hn,h0,h1',h2,h11,h12,m1,hs,hsl,hj⟩ hm;obtain rfl:=r_ret hm;simp[hn,h0,h1',h2,h11,h12];exact hk _ m1 hs
end
end Go.Proofs.YtbcejndfbklikaaGreatDoor
section
namespace Go.Proofs.YtbcejndfbklikaaGreatDoor
open Go Go.Am
theorem MpAt.hf {h h':HS} {l:Lab} {co cn:C} {M:Mp} (a:HF h h') (m:MpAt h l co cn M):MpAt h' l co cn M:=m.frame ⟨a.1,fun k hk _=>a.2 k hk⟩
theorem Same.hf {h0 h h':HS} {ls:List Lab} (s:Same h0 h ls) (a:HF h h'):Same h0 h' ls:=s.trans ⟨a.1,fun k hk _=>a.2 k hk⟩
class ConM {α:Type} (m:Option α) (M0:outParam Mp) (M1:outParam (α->Mp)) (P:Program) (f:FuncId) (av:outParam (List AV)) (er:outParam (α->V)):Prop where
 h:∀ v,Is m v->∀ (h:HS) (l:Lab) (co cn:C) (vs:List V) (K:V->HS->Prop),MpAt h l co cn M0->toAs h vs=some av->(∀ h',MpAt h' l co cn (M1 v)->Same h h' (labs co++labs cn)->K (er v) h')->HSpec P f (.one (.ptr l 0)::vs) h K
theorem pre_rp {Γ:Ctx} {h:HS} {μ:Mem} {w:World} (hI:Am.Inv Γ h μ w) {l:Lab} {cs:List C} {ds:List D} (hb:h.box l=some cs) (hd:∀ (j:Nat) x,ds[j]? = some x->∃ c,cs[j]? = some c/\c.toD=some x) {b n:Nat} (hl:μ.loc l=some (some b,n)):RepP μ.cell (snap w) ds (.pointer (some ⟨b,0,none⟩)):=by
 obtain⟨b',n',T,conc,hl',_,hh,hR,_⟩:=hI.box l cs hb;rw[hl] at hl';simp only[Y06,Y07] at hl';obtain⟨rfl,rfl⟩:=hl';refine⟨b,0,rfl,fun j x hj=>?_⟩;obtain⟨c,hc,hx⟩:=hd j x hj;obtain⟨u,hu,hr⟩:=hR.2 j c hc;refine⟨u,.inr ?_,Z5l hr hx⟩;simp[snap,World.cell?,hh,hu]
theorem HSpec.of_pre {P:Program} {f:FuncId} {vs:List V} {av:List AV} {ds:List D} {cs:List C} {r:RV} {h:HS} {l:Lab} {K:V->HS->Prop} (d:Nat) (hs:PSpec P f (.one (.rp ds)::av) r) (hb:h.box l=some cs) (hd:∀ (j:Nat) x,ds[j]? = some x->∃ c,cs[j]? = some c/\c.toD=some x)
  (has:toAs h vs=some av) (hk:K (r.toV h.ep d) ((h.addFr d r.fr).next)):HSpec P f (.one (.ptr l 0)::vs) h K:=by
 refine⟨hs.1,fun Γ μ w vals hI hR=>?_⟩;obtain⟨hal,haR⟩:=Ziz has;have hargs:Zc6 μ.cell (snap w) (.one (.rp ds)::av) vals:=by
  refine⟨by rw[hR.1];simp[hal],fun i x hi=>?_⟩;cases i with
  | zero=>
    simp at hi;subst hi;obtain⟨u,hu,hr⟩:=hR.2 0 _ rfl;obtain⟨b,n,hl,rfl⟩:=(show ∃ b n,μ.loc l=some (some b,n)/\u=.pointer (some ⟨b,0,none⟩) from hr);exact⟨_,hu,pre_rp hI hb hd hl⟩
  | succ i=>
    obtain⟨v,hv1,hv2⟩:=haR i x (by simpa using hi);obtain⟨u,hu,hr⟩:=hR.2 (i+1) v (by simpa using hv1);exact⟨u,hu,Zjm hI hr hv2⟩
 refine (hs.2 w μ.cell (snap w) _ hI.glob hI.cell (Z9v w) hargs).mono ?_;rintro en w1 ⟨v,m',blk,rfl,hsub,hold,hcell,hbl,hr,hfr⟩;have hle:Mem.Le μ (relab μ h.ep d m' blk):=⟨hsub,rfl,fun l x hl=>by
  have:=hI.lt l (by rw[hl];simp)
  simp only[relab];rw[if_neg (by omega)];exact hl⟩
 exact⟨v,_,_,relab μ h.ep d m' blk,rfl,hk,hI.call d hsub hold hcell hbl hfr,RV_rep hr h.ep d,hle⟩
theorem MpAt.pre {h:HS} {l:Lab} {co cn:C} {M:Mp} (m:MpAt h l co cn M):∃ cs,h.box l=some cs/\∀ (j:Nat) x,M.enc[j]? = some x->∃ c,cs[j]? = some c/\c.toD=some x:=by
 refine⟨_,m.box,fun j x hx=>⟨.d x,?_,rfl⟩⟩;have hj:=(Y00.1 hx).1;rw[mpC,Y0j (by simpa using hj),Y0b,hx];rfl
def scal:List AV->Prop
 | []=>True
 | .one (.d (.bool _))::vs=>scal vs
 | .one (.d (.int _ _))::vs=>scal vs
 | .one (.d (.str _))::vs=>scal vs
 | _=>False
theorem Zb3 {h:HS} {v:V} {x:D} (hx:∀ xs,x≠.sl xs) (hv:v.toA h=some (.one (.d x))):v=.one (.d x):=by
 cases v with
 | one c=>
   cases hc:c.toA h with
   | none=>simp[V.toA,hc] at hv
   | some a=>
     simp[V.toA,hc] at hv;subst hv;cases c with
     | d y=>simp[C.toA] at hc;rw[hc]
     | own l xs=>simp[C.toA] at hc;exact absurd hc.symm (hx _)
     | nil=>simp[C.toA] at hc;exact absurd hc.symm (hx _)
     | z=>simp[C.toA] at hc;exact absurd hc.symm (hx _)
     | ptr l off=>
       cases off with
       | succ n=>simp[C.toA] at hc
       | zero=>simp only[C.toA] at hc;cases hb:h.box l<;>simp[hb] at hc
     | fn f caps=>simp only[C.toA] at hc;cases hd:capsA h caps<;>simp[hd] at hc
     | _=>simp[C.toA] at hc
 | agg cs=>cases hd:toDs cs<;>simp[V.toA,hd] at hv
 | _=>simp[V.toA] at hv
theorem Zmr {h:HS}:∀ {av:List AV} {vs:List V},scal av->toAs h vs=some av->vs=av.map AV.toV:=by
 intro av
 induction av with
 | nil=>
   intro vs _ hv;cases vs with
   | nil=>rfl
   | cons v vs=>simp only[toAs] at hv;split at hv<;>cases hv
 | cons a av ih=>
   intro vs hs hv;cases vs with
   | nil=>simp[toAs] at hv
   | cons v vs=>
     simp only[toAs] at hv;cases hx:v.toA h with
     | none=>rw[hx] at hv;cases hv
     | some x=>
       cases hxs:toAs h vs with
       | none=>rw[hx,hxs] at hv;cases hv
       | some xs=>
         rw[hx,hxs] at hv;simp at hv;obtain⟨rfl,rfl⟩:=hv;cases x with
         | agg ds=>exact hs.elim
         | one y=>cases y with
           | d z=>cases z with
             | bool b=>rw[Zb3 (by intro _ e;cases e) hx,ih hs hxs];rfl
             | int k n=>rw[Zb3 (by intro _ e;cases e) hx,ih hs hxs];rfl
             | str s=>rw[Zb3 (by intro _ e;cases e) hx,ih hs hxs];rfl
             | _=>exact hs.elim
           | _=>exact hs.elim
end Go.Proofs.YtbcejndfbklikaaGreatDoor
namespace Go.Am
open Go Go.Proofs.YtbcejndfbklikaaGreatDoor
theorem Grows.setArrA {h:HS} {es:Nat} {c:C} {xs:List (List D)} {a b:Nat} {x:Option (Nat × Nat)} (g:Grows h es c xs) (ha:∀ ys,Apart (.own (a,b) ys) c):Grows (h.setArr (a,b) x) es c xs:=by
 rcases g.1 with ⟨rfl,rfl⟩ | ⟨l,rfl,h1,h2⟩
 .exact .nil
 .have hne:l≠(a,b):=fun he=>ha xs l xs xs (by rw[he]) rfl;exact .own (by simp only[HS.setArr];rw[if_neg hne];exact h1) h2 g.2
end Go.Am
namespace Go.Proofs.YtbcejndfbklikaaGreatDoor
open Go Go.Am
section
variable {ρ α:Type}
theorem i_lend {P:Program} {f:FuncId} {vs:List V} {av:List AV} {d:Nat} {e:Env} {hb h:HS} {l:Lab} {co cn:C} {M:Mp} {Kc:Env->HS->Prop} {er:α->RV} {m:Option α} {K:α->Option ρ} {r:ρ} (hm:Is (bindK m K) r) [i:Con m P f (.one (.rp M.enc)::av) er]
  (hp:MpAt hb l co cn M) (hf:HF hb h) (has:toAs h vs=some av)
  (hk:∀ v,Is (K v) r->Kc (e.put (some d) ((er v).toV h.ep d)) ((h.addFr d (er v).fr).next)):callK P f [] (.one (.ptr l 0)::vs) d e h (K:=⟨Kc⟩):=by
 obtain⟨x,hx,hm⟩:=hm.bind;obtain⟨cs,hbx,hd⟩:=(MpAt.hf hf hp).pre;refine Z00 (by simpa using HSpec.of_pre (K:=fun v h'=>Kc (e.put (some d) v) h') d (i.h x hx) hbx hd has (hk x hm))
theorem Zrv {P:Program} {f:FuncId} {vs:List V} {av:List AV} {d:Nat} {e:Env} {h0 hb h:HS} {l:Lab} {co cn:C} {M0:Mp} {M1:α->Mp} {Kc:Env->HS->Prop} {er:α->V} {m:Option α} {K:α->Option ρ} {r:ρ} (hm:Is (bindK m K) r) [i:ConM m M0 M1 P f av er]
  (hp:MpAt hb l co cn M0) (hS:Same h0 hb (labs co++labs cn)) (hf:HF hb h) (has:toAs h vs=some av)
  (hk:∀ v h',MpAt h' l co cn (M1 v)->Same h0 h' (labs co++labs cn)->Same h h' (labs co++labs cn)->Is (K v) r->Kc (e.put (some d) (er v)) h'):callK P f [] (.one (.ptr l 0)::vs) d e h (K:=⟨Kc⟩):=by
 obtain⟨x,hx,hm⟩:=hm.bind;refine Z00 (by simpa using i.h x hx h l co cn vs _ (MpAt.hf hf hp) has fun h' hp' hs=>hk x h' hp' ((Same.hf hS hf).trans hs) hs hm)
theorem goM {m:Option α} {M0:Mp} {M1:α->Mp} {P:Program} {f:FuncId} {fn:Func} {c:Code} {av:List AV} {er:α->V} {rs:List ResultVar} (n:Nat) (hf:P.funcs[f]? = some fn) (hb:fn.body=some c) (hnm:(fn.name == "runtime.NumGoroutine")=false) (hn:fn.ntmps=n) (hrs:fn.results.toList=rs) (hsc:scal av) (has':av.length+1<=n)
  (hv:∀ r,Is m r->∀ (h:HS) (l:Lab) (co cn:C) (K:V->HS->Prop),MpAt h l co cn M0->(∀ h',MpAt h' l co cn (M1 r)->Same h h' (labs co++labs cn)->K (er r) h')->vc P c (retH P rs K) (envV n (.one (.ptr l 0)::av.map AV.toV)) h:=by
   intro r hm h l co cn K hp hK;have hl1:=hp.lt l (Y05 ..);have hS:Same h h (labs co++labs cn):=Same.refl;have hne:=ne_new hl1;have hne':=Z05 hl1;have hbx0:=hp.box;simp only[mpC,Mp.enc,Stp.enc,Y0d,Y0g,Y0s,Y0v] at hbx0
   try simp (maxSteps:=1000000) [*]
   repeat' (first
    | (with_reducible have hq:=r_ret hm
       obtain rfl:=hq;refine hK _ (MpAt.hf ?_ hp) (Same.hf hS ?_)
       all_goals
        repeat' (first | with_reducible exact HF.refl | with_reducible refine HF.next ?_ | with_reducible refine HF.setArr ?_ | with_reducible refine HF.useUp ?_ | with_reducible refine HF.addFr ?_ | with_reducible refine HF.setBox ?_ ?_ | assumption | (apply HF.tr;assumption) | (simp (maxSteps:=1000000) [*];done) | (simp (maxSteps:=1000000) [*];omega)))
    | (with_reducible have hq:=Is.bind hm
       clear hq;refine i_lend hm hp ?_ ?_ ?_
       .repeat' (first | with_reducible exact HF.refl | with_reducible refine HF.next ?_ | with_reducible refine HF.setArr ?_ | with_reducible refine HF.useUp ?_ | with_reducible refine HF.addFr ?_ | with_reducible refine HF.setBox ?_ ?_ | assumption | (apply HF.tr;assumption) | (simp (maxSteps:=1000000) [*];done) | (simp (maxSteps:=1000000) [*];omega))
       .simp (maxSteps:=1000000) [*];done
       clear hm;intro v hm;try simp (maxSteps:=1000000) [*])
    | (with_reducible have hq:=Is.bind hm
       clear hq;refine Zrv hm hp hS ?_ ?_ ?_
       .repeat' (first | with_reducible exact HF.refl | with_reducible refine HF.next ?_ | with_reducible refine HF.setArr ?_ | with_reducible refine HF.useUp ?_ | with_reducible refine HF.addFr ?_ | with_reducible refine HF.setBox ?_ ?_ | assumption | (apply HF.tr;assumption) | (simp (maxSteps:=1000000) [*];done) | (simp (maxSteps:=1000000) [*];omega))
       .simp (maxSteps:=1000000) [*];done
       clear hm hp hS;intro v h hp hS hSx hm;have hl1:=hp.lt l (Y05 ..);have hne:=ne_new hl1;have hne':=Z05 hl1;have hbx0:=hp.box;simp only[mpC,Mp.enc,Stp.enc,Y0d,Y0g,Y0s,Y0v] at hbx0
       try simp (maxSteps:=1000000) [*])
    | ((with_reducible refine r_cond hm ?_ ?_)<;>(clear hm;intro hc hm;try simp (maxSteps:=1000000) [*]))
    | (with_reducible have hq:=Is.bind hm
       clear hq;refine i_call hm ?_ ?_
       .simp (maxSteps:=1000000) [*];done
       clear hm;intro v hm;try simp (maxSteps:=1000000) [*])
    | (with_reducible intro hl
       try simp only[Y0z] at hl
       try simp (maxSteps:=1000000) [*])
    | (with_reducible have hq:=Is.getN hm
       clear hm;obtain⟨x,hx,hm⟩:=hq
       try simp (maxSteps:=1000000) [*])
    | (with_reducible have hq:=Is.get hm
       clear hm;obtain⟨x,h0,hx,hm⟩:=hq
       try simp at h0
       try simp at hx
       try simp (maxSteps:=1000000) [*])
    | (with_reducible have hq:=Is.app hm
       clear hq;refine i_app hm ?_ ?_ ?_ ?_
       .first
        | exact Grows.nil
        | (simp (maxDischargeDepth:=20) (maxSteps:=1000000) [*];done)
        | (simp (maxDischargeDepth:=20) (maxSteps:=1000000) [Grows.setArrA, *];done)
       .first | (simp (maxSteps:=1000000) [*];done) | (simp (maxSteps:=1000000) [GV.enc, *];done)
       .decide
       clear hm;intro hl hm g;try simp (maxSteps:=1000000) [*])
    | (with_reducible have hq:=Is.chk hm
       clear hm;obtain⟨hw,hm⟩:=hq
       first
       | replace hw:=Zf4 hw
       | (obtain⟨ha,hb,hd⟩:=hw
          have he:=hb
          try simp at he
          have hf:=hd
          try simp at hf)
       | (have hw2:=hw
          try simp at hw2)
       try simp (maxSteps:=1000000) [*])
    | ((with_reducible refine Zj2 hm ?_ ?_)<;>(clear hm;intro hc hm;try simp (maxSteps:=1000000) [*]))
    | ((with_reducible refine Zb5 hm ?_ ?_)<;>(clear hm;intro hc hm;try simp (maxSteps:=1000000) [*]))
    | (with_reducible have hq:=Is.bind hm
       clear hq;refine Zne hm ?_ ?_ ?_
       .simp (maxSteps:=1000000) [*];done
       .simp (maxSteps:=1000000) [*];done
       clear hm;intro v hm;try simp (maxSteps:=1000000) [*])
    | (with_reducible have hq:=Is.bind hm
       clear hq;refine Znd hm ?_ ?_ ?_
       .simp (maxSteps:=1000000) [*];done
       .simp (maxSteps:=1000000) [*];done
       clear hm;intro v hm;try simp (maxSteps:=1000000) [*])
    | (with_reducible have hq:=Is.chr hm
       clear hm;obtain⟨y,h0,hx,hm⟩:=hq
       try simp (maxSteps:=1000000) [*])
    | (refine BackF.lr hm ⟨?_,?_,?_,?_⟩
       .simp (maxSteps:=1000000) [*];done
       .simp (maxSteps:=1000000) [Keep, *];done
       .repeat' (first | with_reducible exact HF.refl | with_reducible refine HF.next ?_ | with_reducible refine HF.setArr ?_ | with_reducible refine HF.useUp ?_ | with_reducible refine HF.addFr ?_ | with_reducible refine HF.setBox ?_ ?_ | assumption | (apply HF.tr;assumption) | (simp (maxSteps:=1000000) [*];done) | (simp (maxSteps:=1000000) [*];omega))
       .first | (simp (maxDischargeDepth:=20) (maxSteps:=1000000) [*,CarOK];done) | (simp (maxDischargeDepth:=20) (maxSteps:=1000000) [Grows.setArrA, *,CarOK];done))
    | (refine BackF.lr hm ⟨?_,?_,?_⟩
       .simp (maxSteps:=1000000) [Keep, *];done
       .repeat' (first | with_reducible exact HF.refl | with_reducible refine HF.next ?_ | with_reducible refine HF.setArr ?_ | with_reducible refine HF.useUp ?_ | with_reducible refine HF.addFr ?_ | with_reducible refine HF.setBox ?_ ?_ | assumption | (apply HF.tr;assumption) | (simp (maxSteps:=1000000) [*];done) | (simp (maxSteps:=1000000) [*];omega))
       .first | (simp (maxDischargeDepth:=20) (maxSteps:=1000000) [*,CarOK];done) | (simp (maxDischargeDepth:=20) (maxSteps:=1000000) [Grows.setArrA, *,CarOK];done))
    | ((first | refine Wait.forH l1 rfl hm ?_ ?_ ?_ ?_ ?_ ?_ | refine Wait.forH l2 rfl hm ?_ ?_ ?_ ?_ ?_ ?_ | refine Wait.forH l3 rfl hm ?_ ?_ ?_ ?_ ?_ ?_ | refine Wait.forH l4 rfl hm ?_ ?_ ?_ ?_ ?_ ?_ | refine Wait.forH l5 rfl hm ?_ ?_ ?_ ?_ ?_ ?_ | refine Wait.forH l6 rfl hm ?_ ?_ ?_ ?_ ?_ ?_)
       .first | assumption | omega | (simp at *;omega)
       .simp (maxSteps:=1000000) [*];done
       .simp (maxDischargeDepth:=20) (maxSteps:=1000000) [*,CarOK];done
       .simp (maxSteps:=1000000) [LtB,AllL,Z3d,Z4s, *]<;>omega
       all_goals first
        | (skip
           clear hm
           with_reducible intro i s e h hk hct hcu hkb hhf hep hbx hlt0 hw hlt hm
           try simp only[CarUse] at hcu
           repeat obtain⟨_,hcu⟩:=hcu
           try simp only[Keep] at hk
           try simp (maxSteps:=1000000) [*] at hk
           have hep':=hep
           try simp at hep'
           rcases Y0t l.1 h.ep with hl1 | hl1;rotate_left
           .exfalso;omega
           have hne:=ne_new hl1;have hne':=Z05 hl1
           try simp (maxSteps:=1000000) [KeepB,AllL,Z3d,Z4s, *] at hkb
           try simp (maxSteps:=1000000) [*])
        | (skip
           clear hm
           with_reducible intro s e h hk hct hcu hkb hhf hep hbx hm
           try simp only[CarUse] at hcu
           repeat obtain⟨_,hcu⟩:=hcu
           try simp only[Keep] at hk
           try simp (maxSteps:=1000000) [*] at hk
           have hep':=hep
           try simp at hep'
           rcases Y0t l.1 h.ep with hl1 | hl1;rotate_left
           .exfalso;omega
           have hne:=ne_new hl1;have hne':=Z05 hl1
           try simp (maxSteps:=1000000) [KeepB,AllL,Z3d,Z4s, *] at hkb
           try simp (maxSteps:=1000000) [*]))
    | ((first | refine Wait.countH l1 rfl hm ?_ ?_ ?_ ?_ ?_ | refine Wait.countH l2 rfl hm ?_ ?_ ?_ ?_ ?_ | refine Wait.countH l3 rfl hm ?_ ?_ ?_ ?_ ?_ | refine Wait.countH l4 rfl hm ?_ ?_ ?_ ?_ ?_ | refine Wait.countH l5 rfl hm ?_ ?_ ?_ ?_ ?_ | refine Wait.countH l6 rfl hm ?_ ?_ ?_ ?_ ?_)
       .simp (maxSteps:=1000000) [*];done
       .simp (maxDischargeDepth:=20) (maxSteps:=1000000) [*,CarOK];done
       .simp (maxSteps:=1000000) [LtB,AllL,Z3d,Z4s, *]<;>omega
       all_goals
         clear hm
         with_reducible intro i s e h hk hct hcu hkb hhf hep hbx hlt hm
         try simp only[CarUse] at hcu
         repeat obtain⟨_,hcu⟩:=hcu
         try simp only[Keep] at hk
         try simp (maxSteps:=1000000) [*] at hk
         have hep':=hep
         try simp at hep'
         rcases Y0t l.1 h.ep with hl1 | hl1;rotate_left
         .exfalso;omega
         have hne:=ne_new hl1;have hne':=Z05 hl1
         try simp (maxSteps:=1000000) [KeepB,AllL,Z3d,Z4s, *] at hkb
         try simp (maxSteps:=1000000) [*]
         first
         | (have hq:(i:Int) < _:=hlt
            refine Z4d (fun _=>?_) (fun hn=>absurd ?_ hn);rotate_left
            .first | omega | (simp at hlt |-;omega) | (simp at hlt |-;split at hlt<;>split<;>omega)
            simp (maxSteps:=1000000) [*])
         | (have hq:¬ (i:Int) < _:=hlt
            refine Z4d (fun hn=>absurd hn ?_) (fun _=>?_)
            .first | omega | (intro hn;simp at hlt hn;omega) | (intro hn;simp at hlt hn;split at hlt<;>split at hn<;>omega)
            simp (maxSteps:=1000000) [*])
         | skip)
    | ((first | refine Wait.whileH l1 hm ?_ ?_ ?_ | refine Wait.whileH l2 hm ?_ ?_ ?_ | refine Wait.whileH l3 hm ?_ ?_ ?_ | refine Wait.whileH l4 hm ?_ ?_ ?_ | refine Wait.whileH l5 hm ?_ ?_ ?_ | refine Wait.whileH l6 hm ?_ ?_ ?_)
       .simp (maxDischargeDepth:=20) (maxSteps:=1000000) [*,CarOK];done
       .simp (maxSteps:=1000000) [LtB,AllL,Z3d,Z4s, *]<;>omega
       clear hm
       with_reducible intro n s e h hk hcu hkb hhf hep hbx hm
       try simp only[CarUse] at hcu
       repeat obtain⟨_,hcu⟩:=hcu
       try simp only[Keep] at hk
       try simp (maxSteps:=1000000) [*] at hk
       have hep':=hep
       try simp at hep'
       rcases Y0t l.1 h.ep with hl1 | hl1;rotate_left
       .exfalso;omega
       have hne:=ne_new hl1;have hne':=Z05 hl1
       try simp (maxSteps:=1000000) [KeepB,AllL,Z3d,Z4s, *] at hkb
       try simp (maxSteps:=1000000) [*])
    | (first
       | (refine Wait.drawH p1 ?_ (by kernel_rfl) follows ?_
          .decide)
       | (refine Wait.drawH p2 ?_ (by kernel_rfl) follows ?_
          .decide)
       | (refine Wait.drawH p3 ?_ (by kernel_rfl) follows ?_
          .decide)
       | (refine Wait.drawH p4 ?_ (by kernel_rfl) follows ?_
          .decide)
       | (refine Wait.drawH p5 ?_ (by kernel_rfl) follows ?_
          .decide)
       | (refine Wait.drawH p6 ?_ (by kernel_rfl) follows ?_
          .decide)
       | (refine Wait.drawH p7 ?_ (by kernel_rfl) follows ?_
          .decide)
       | (refine Wait.drawH p8 ?_ (by kernel_rfl) follows ?_
          .decide)
       try simp (maxSteps:=1000000) [*])
    | (refine⟨fun (_:Lab) (_:List C) hl=>hl,?_⟩;try simp (maxSteps:=1000000) [*])
    | (refine And.intro ?_ ?_<;>try simp (maxSteps:=1000000) [*])
    | (refine Z7g (by simp) ?_;try simp (maxSteps:=1000000) [*])
    | (refine Zfv (by assumption) (fun hl=>?_);try simp only[Y0z] at hl
       try simp (maxSteps:=1000000) [*])
    | (refine Zj3 ?_ ?_
       .omega
       try simp (maxSteps:=1000000) [*])
    | (rcases Rd.cases (by assumption) with hz | ⟨l,hz⟩ | ⟨hz,hy⟩ | ⟨hz,hy⟩
       all_goals
        subst hz
        first
        | (simp_all;done)
        | (try simp (maxSteps:=1000000) [*])))):ConM m M0 M1 P f av er:=
 ⟨fun r hm h l co cn vs K hp has hK=>by
  obtain rfl:=Zmr hsc has;exact HSpec.of_vc hf hb hnm hn hrs (by simpa using has') (hv r hm h l co cn K hp hK)⟩
end
def Z30 (M:Mp) (t:ByteArray) (rows:List (List GV)):Option Mp:=some { M with out:=setR t rows M.out }
def Z3g (M:Mp) (t:ByteArray) (rows:List (List GV)):Option Mp:=some { M with nc:=setR t rows M.nc }
theorem Zgp {h:HS} {vs:List V} {a:AV} {av:List AV} (hv:toAs h vs=some (a::av)):∃ v ws,vs=v::ws/\v.toA h=some a/\toAs h ws=some av:=by
 cases vs with
 | nil=>cases hv
 | cons v ws=>
   simp only[toAs] at hv;cases h1:v.toA h with
   | none=>rw[h1] at hv;cases hv
   | some x=>
     cases h2:toAs h ws with
     | none=>rw[h1,h2] at hv;cases hv
     | some xs=>rw[h1,h2] at hv;cases hv;exact⟨v,ws,rfl,h1,h2⟩
theorem Zfi {h:HS} {vs:List V} (hv:toAs h vs=some []):vs=[]:=by
 cases vs with
 | nil=>rfl
 | cons v ws=>simp only[toAs] at hv;split at hv<;>cases hv
theorem Ziy {h:HS} {vs:List V} {a b:AV} (hv:toAs h vs=some [a,b]):∃ v w,vs=[v,w]/\v.toA h=some a/\w.toA h=some b:=by
 obtain⟨v,ws,rfl,h1,h2⟩:=Zgp hv;obtain⟨w,us,rfl,h3,h4⟩:=Zgp h2;obtain rfl:=Zfi h4;exact⟨v,w,rfl,h1,h3⟩
theorem toA_sl {h:HS} {v:V} {xs:List (List D)} (hv:v.toA h=some (.one (.d (.sl xs)))):∃ c,v=.one c/\c.toD=some (.sl xs):=by
 cases v with
 | one c=>
   refine⟨c,rfl,?_⟩;cases hc:c.toA h with
   | none=>simp (maxSteps:=1000000) [V.toA,hc] at hv
   | some a=>
     simp (maxSteps:=1000000) [V.toA,hc] at hv;subst hv;cases c with
     | d y=>simp (maxSteps:=1000000) [C.toA] at hc;rw[hc];rfl
     | own l ys=>simp (maxSteps:=1000000) [C.toA] at hc;rw[hc];rfl
     | nil=>simp (maxSteps:=1000000) [C.toA] at hc;rw[hc];rfl
     | z=>simp (maxSteps:=1000000) [C.toA] at hc;rw[hc];rfl
     | ptr l off=>
       cases off with
       | succ n=>simp (maxSteps:=1000000) [C.toA] at hc
       | zero=>simp only[C.toA] at hc;cases hb:h.box l<;>simp (maxSteps:=1000000) [hb] at hc
     | fn f caps=>simp only[C.toA] at hc;cases hd:capsA h caps<;>simp (maxSteps:=1000000) [hd] at hc
     | _=>simp (maxSteps:=1000000) [C.toA] at hc
 | agg cs=>cases hd:toDs cs<;>simp (maxSteps:=1000000) [V.toA,hd] at hv
 | _=>simp (maxSteps:=1000000) [V.toA] at hv
instance c_lens_mapping__setOutput (M:Mp) (t:ByteArray) (rows:List (List GV)):ConM (Z30 M t rows) M (fun r=>r) Tryz.prog 185 [.one (.d (.str t)),.one (.d (.sl (rows.map (encL GV.enc))))] (fun _=>.tup []):=⟨by
 intro r hm h l co cn vs K hp has hK;obtain rfl:=r_ret hm;obtain⟨v,w,rfl,hv,hw⟩:=Ziy has;obtain rfl:=Zb3 (by intro _ e;cases e) hv;obtain⟨cr,rfl,hcr⟩:=toA_sl hw;exact Z8w h l co cn cr M t rows hp hcr K fun h' h1 h2=>hK h' h1 (h2.mono (by simp +contextual))⟩
instance c_lens_mapping__setComplement (M:Mp) (t:ByteArray) (rows:List (List GV)):ConM (Z3g M t rows) M (fun r=>r) Tryz.prog 186 [.one (.d (.str t)),.one (.d (.sl (rows.map (encL GV.enc))))] (fun _=>.tup []):=⟨by
 intro r hm h l co cn vs K hp has hK;obtain rfl:=r_ret hm;obtain⟨v,w,rfl,hv,hw⟩:=Ziy has;obtain rfl:=Zb3 (by intro _ e;cases e) hv;obtain⟨cr,rfl,hcr⟩:=toA_sl hw;exact Z75 h l co cn cr M t rows hp hcr K fun h' h1 h2=>hK h' h1 (h2.mono (by simp +contextual))⟩
end Go.Proofs.YtbcejndfbklikaaGreatDoor
end
namespace Go.Proofs.YtbcejndfbklikaaGreatDoor
section
open Go.Am
def Z06 (s_:Sch) (inst:List Rel) (name:ByteArray):Option (Tbl × (List (List GV))):=
 (bindK (Z02 s_ name) fun v3=>(bif !v3.2 then (some ((Tbl.mk empty [] []),[])) else (getK s_.tables v3.1 fun x5=>(bindK (Z21 x5) fun v6=>(bif decide ((inst.length:Int)<=v3.1) then (some (v6,[])) else (getK inst v3.1 fun x10=>(bindK (Z0j x10.rows) fun v11=>(some (v6,v11)))))))))
instance c_instance_Table (s_:Sch) (inst:List Rel) (name:ByteArray):Con (Z06 s_ inst name) prog 51 [.agg s_.enc,.one (.d (.sl (inst.map Rel.enc))),.one (.d (.str name))] (fun r=>.tup [.agg (r.1.enc.map RC.d),.one (.d (.sl (r.2.map (encL GV.enc))))]):=by
 unfold Z06;have p1:PH [7] (Plan.then_ [0,1,2,3,4,5,6,7,8] .done):=.intro;exact go 38 Tryz.func51 rfl (by kernel_rfl) rfl rfl (by simp)
end
section
open Go Go.Am
theorem GrowP.nil' {h h':HS} {sh:List Sh} (hs:Same h h' []):GrowP h h' sh .nil []:=GrowP.nil.step hs
theorem GrowP.from2 {h0 h h1 h2:HS} {sh:List Sh} {c:C} {ds:List (List D)} {ls:List Lab} (g:GrowP h h1 sh c ds) (hs:Same h1 h2 ls) (hl:∀ k ∈ ls,k.1 < h.ep) (h0s:Same h0 h2 []) (he:h0.ep<=h.ep):GrowP h0 h2 sh c ds:=by
 obtain⟨qs,p,nd,hq,s⟩:=g;exact⟨qs,p.frame fun k hk=>hs.2 k (hq k hk).2 fun h9=>by have:=hl k h9;have:=(hq k hk).1;omega,nd,fun k hk=>⟨Y0y he (hq k hk).1,Y04 (hq k hk).2 hs.1⟩,h0s⟩
theorem GrowP.same {h h':HS} {sh:List Sh} {c:C} {ds:List (List D)} (g:GrowP h h' sh c ds):Same h h' []:=by
 obtain⟨_,_,_,_,s⟩:=g;exact s
theorem Zah {rows out:List (List GV)} (hm:Is (Z0j rows) out):out=rows:=by
 unfold Z0j at hm;have key:∀ (xs:List (List GV)) (i:Nat) (s:List (List GV)),Is (forK (fun (i3:Nat) (x3:List GV) (s3:List (List GV)) next_3=>bindK (Z2h x3) fun v5=>appK2 s3 [v5] fun _=>next_3 (s3++[v5])) (fun s3=>some s3) xs i s) out->out=s++xs:=by
  intro xs
  induction xs with
  | nil=>intro i s hm;simpa using (r_ret hm).symm
  | cons x xs ih=>
    intro i s hm;simp only[forK] at hm;obtain⟨v,hv,hm⟩:=hm.bind;obtain⟨_,hm⟩:=hm.app
    have:=ih _ _ hm
    have:v=x:=(r_ret hv).symm
    simp_all
 exact key rows 0 [] hm
theorem Zbu (h:HS) (S:Sch) (inst:List Rel) (t:ByteArray) (T:Tbl) (rows:List (List GV)) (hm:Is (Z06 S inst t) (T,rows)) (k:Int) (hk1:Is (Z02 S t) (k,true)) (hok:∀ row ∈ rows,row.length<=2097152) (K:V->HS->Prop)
  (hk:∀ c h',GrowP h h' [RowSh] c (rows.map (encL GV.enc))->BoxLe h h'->K (.tup [.agg (T.enc.map C.d),.one c]) h') :
  HSpec prog 51 [.agg (S.enc.map C.d),.one (.d (.sl (inst.map Rel.enc))),.one (.d (.str t))] h K:=by
 refine HSpec.good Tryz.func51 rfl (by kernel_rfl) fun hg=>?_;refine HSpec.of_vc Tryz.func51 rfl (by kernel_rfl) (n:=38) rfl rfl (by simp) ?_;unfold Z06 at hm;obtain⟨kk,hk2,hm⟩:=hm.bind;obtain rfl:kk=(k,true):=Option.some.inj (hk2.symm.trans hk1);simp;refine Z08 ((c_schema_FindTable S t).h (k,true) hk1) (by simp) ?_;simp;obtain⟨x,h0,hx,hm⟩:=Is.get (show Is (getK S.tables k _) _ from hm);obtain⟨x2,hx2,hm⟩:=hm.bind;simp[h0,hx];refine Z08 ((c_schema_CloneTable x).h x2 hx2) (by simp) ?_;simp;intro hl;refine r_cond hm ?_ ?_<;>clear hm<;>intro hc hm
 .have hq:=r_ret hm;obtain⟨rfl,rfl⟩:=Prod.mk.inj hq;simp[retH,resVs,resV,notTup];have hs:∀ h',Same h h' []->K (.tup [.agg (x2.enc.map C.d),.one .nil]) h':=fun h' hs=>hk .nil h' (GrowP.nil' hs) (hs.boxLe hg);exact hs _ (by repeat' first | exact Same.refl | apply Same.next | apply Same.setArr | (refine Same.setBox ?_ (.inr (by simp))))
 .obtain⟨y,h1,hy,hm⟩:=hm.get;obtain⟨rows2,hr2,hm⟩:=hm.bind;have hq:=r_ret hm;obtain⟨rfl,rfl⟩:=Prod.mk.inj hq;simp;refine Wait.cut (Plan.then_ [0,1,2,3,4,5,6,7,8] .done) follows (by kernel_rfl) (fun e1 h1=>∃ c,e1.n=38/\e1.get 6=.one (.ptr (h.ep+1,96) 0)/\h1.box (h.ep+1,96)=some [C.d (D.str x2.name),C.d (D.sl (List.map Col.enc x2.cols)),C.d (D.sl (List.map encI x2.pk))]/\e1.get 7=.one c/\GrowP h h1 [RowSh] c (rows2.map (encL GV.enc))) ?_ ?_
  .simp[h1,hy];obtain rfl:=Zah hr2;refine Z00 (Zbt _ _ hok _ fun c h2 hg2 hb2=>?_);have hs2:=hg2.same;have b6:=hs2.2 (h.ep+1,96) (by simp) (by simp);simp at b6;simp[h1,hy];refine⟨hb2,?_⟩;simp[h1,hy,b6];refine CutK.of ⟨c,by simp,by simp,by simp,by simp,?_⟩;refine GrowP.from2 hg2 (ls:=[(h.ep+1,96)]) (Same.refl.setBox (.inl (by simp))) (by simp) (Same.setBox (Same.trans ?_ hs2) (.inr (by simp))) (by simp<;>omega)
   repeat' first | exact Same.refl | apply Same.next | apply Same.setArr | (refine Same.setBox ?_ (.inr (by simp)))
  .rintro e1 h1 ⟨c,hn,h6,hb,h7,hg1⟩;simp[retH,resVs,resV,notTup,hn,h6,hb,h7];obtain⟨qs,p,nd,hl,hs⟩:=hg1;exact hk c _ ⟨qs,p,nd,hl,hs⟩ (hs.boxLe hg)
theorem Z7z (h:HS) (l:Lab) (co cn:C) (M:Mp) (t:ByteArray) (T:Tbl) (rows:List (List GV)) (m:MpAt h l co cn M) (hm:Is (Z06 M.src M.inp t) (T,rows)) (k:Int) (hk1:Is (Z02 M.src t) (k,true)) (hok:∀ row ∈ rows,row.length<=2097152) (K:V->HS->Prop)
  (hk:∀ c h',GrowP h h' [RowSh] c (rows.map (encL GV.enc))->BoxLe h h'->K (.tup [.agg (T.enc.map C.d),.one c]) h') :
  HSpec prog 181 [.one (.ptr l 0),.one (.d (.str t))] h K:=by
 refine HSpec.good Tryz.func181 rfl (by kernel_rfl) fun hg=>?_;refine HSpec.of_vc Tryz.func181 rfl (by kernel_rfl) (n:=18) rfl rfl (by simp) ?_;have hb:=m.box;have hl1:=m.lt l (Y05 ..);have hne:=ne_new hl1;have hne':=Z05 hl1;simp only[mpC,Mp.enc,Stp.enc,Y0d,Y0g,Y0s,Y0v] at hb;simp;refine Wait.cut (Plan.then_ [0,1,2,3,4,5,6,7,8,9,10,11,12,13] .done) follows (by kernel_rfl) (fun e1 h1=>∃ c,e1.n=18/\e1.get 4=.one (.ptr (h.ep,64) 0)/\h1.box (h.ep,64)=some (T.enc.map C.d)/\e1.get 5=.one c/\GrowP h h1 [RowSh] c (rows.map (encL GV.enc))) ?_ ?_
 .simp[hb,hne,hne'];refine Z00 (Zbu _ M.src M.inp t T rows hm k hk1 hok _ fun c h2 hg2 hb2=>?_);have hs2:=hg2.same;have b4:=hs2.2 (h.ep,64) (by simp) (by simp);simp at b4;simp[b4];refine⟨hb2,?_⟩
  try simp[b4]
  refine CutK.of ⟨c,by simp,by simp,by simp,by simp,?_⟩;exact GrowP.from2 hg2 (ls:=[(h.ep,64)]) (Same.refl.setBox (.inl (by simp))) (by simp) (Same.setBox (Same.trans ((Same.refl.setBox (.inr (by simp))).next) hs2) (.inr (by simp))) (by simp)
 .rintro e1 h1 ⟨c,hn,h4,hb4,h5,hg1⟩;have hb4':=hb4;simp only[Tbl.enc,Y0d,Y0g] at hb4';simp[retH,resVs,resV,notTup,hn,h4,hb4',h5];exact hk c _ hg1 (hg1.same.boxLe hg)
theorem Zaf {h:HS} {lv l:Lab} {vs:List (List D)} {nv ev off k cap:Nat} {cs:List C} (ha:h.arr lv=some (nv,ev)) (hnv:0 < nv) (hb:h.box l=some cs) (h0:0 < cs.length) :
  XSpec prog 215 [.one (.own lv vs),.one (.mrow l off k cap)] h (.one (.d (.bool false))):=by
 intro Γ μ w vals hI hR;obtain⟨hsz,hg⟩:=hR;obtain⟨u0,hu0,r0⟩:=hg 0 _ rfl;obtain⟨u1,hu1,r1⟩:=hg 1 _ rfl;have hv:vals=#[u0,u1]:=by
  apply Y2m;intro i
  match i with
  | 0=>simpa using hu0
  | 1=>simpa using hu1
  | i+2=>rw[Y1r (by simp at hsz;omega)];simp
 subst hv;obtain⟨_,g,gcap,hlv,rfl⟩:=(show RepC μ (.own lv vs) u0 from r0);obtain⟨b,kk,hl,rfl,_⟩:=(show RepC μ (.mrow l off k cap) u1 from r1);refine⟨.bool false,?_,RepD.bool _⟩;rw[run_callFunc_extern (fn:=Tryz.f215) Tryz.func215 (by kernel_rfl) (by kernel_rfl) (by kernel_rfl) (e:=Extern.SlicesOverlaps.overlaps #[73,73] #[4]) (by kernel_rfl)];obtain⟨b2,n2,T2,conc2,hl2,_,hh2,hR2,_⟩:=hI.box l cs hb;rw[hl] at hl2;cases hl2;obtain⟨gc,hgc,hrow⟩:=hI.arr lv ev nv ha;rw[hlv] at hgc;cases hgc;cases g with
 | none=>
   have:=(hrow.1 rfl).2
   omega
 | some g=>
   obtain⟨_,T1,cur,hh1,_⟩:=hrow.2 g rfl;have hne:g≠b:=by
    rintro rfl
    have:=hI.inj lv l g gcap kk (.inr (by rw[ha];simp)) (.inl (by rw[hb];simp)) hlv hl
    subst this;exact hI.both lv (by rw[hb];simp) (by rw[ha];simp)
   have hcl:conc2.size=cs.length:=hR2.1;obtain⟨i,z,hu,hi,hsz,_⟩:=Z5h Zhy;show Result.andThen (Sem.run prog (Extern.SlicesOverlaps.overlaps #[73,73] #[4] #[.slice (some ⟨g,0,none⟩) vs.length gcap,.slice (some ⟨b,off,none⟩) k cap]) w) _=_;rw[Lib.run_overlaps_apart w 73 4 115 hu i.size (fun w=>by simp[sizeOf,typeInfo,hi]) ⟨g,0,none⟩ ⟨b,off,none⟩ vs.length gcap k cap hne T1 T2 cur.size conc2.size (by simp[World.shape?,hh1]) (by simp[World.shape?,hh2]) (by omega) (by simp[World.frozen?,hh1]) (by simp[World.frozen?,hh1])];rfl
theorem Zni {h:HS} {n:Nat} {l:Lab} {cap m:Nat} {xs:List (List C)} {cs sp:List C} (hall:AllC n xs) (hb:h.box l=some cs) (hcs:cs=xs.flatten++sp) (hl:cs.length=cap * n) (hm:xs.length=m) (hlim:xs.length<=2097152):MR h n (.mrow l 0 m cap) xs:=by
 subst hcs hm;exact⟨hall,hlim,.inr ⟨l,cap,sp,rfl,hb,hl⟩⟩
theorem Z7f {h:HS} {n:Nat} {l:Lab} {cs r:List C} {off k cap:Nat} (hb:h.box l=some cs) (hk:off+k * n<=cs.length) (hr:(cs.drop off).take (k * n)=r):Z0x h n (.mrow l off k cap)=some r:=by
 simp only[Z0x,hb,takeN];rw[if_pos (by simp;omega),hr]
set_option maxHeartbeats 4000000 in
theorem Z9f (h:HS) (c:C) (xs:List (List C)) (lv:Lab) (d:List D) (i:Nat) (hm:MR h 3 c xs) (hlb:∀ k ∈ labs c,k.1 < h.ep) (hi:i<=xs.length) (ha:h.arr lv=some (1,3)) (hd:d.length=3) (hlim:xs.length+1<=2097152) (K:V->HS->Prop)
  (hk:∀ c' h',MR h' 3 c' (xs.take i++[d.map C.d]++xs.drop i)->Same h h' (labs c)->(∀ k ∈ labs c',k ∈ labs c\/(h.ep<=k.1/\k.1 < h'.ep))->K (.one c') h') :
  HSpec prog 184 [.one c,.one (.d (.int .i64 (i:Int))),.one (.own lv [d])] h K:=by
 refine HSpec.of_vc Tryz.func184 rfl (by kernel_rfl) (n:=95) rfl rfl (by simp) ?_;have hV:(d.map C.d).length=3:=by simp[hd]
 have hallN:AllC 3 (xs.take i++[d.map C.d]++xs.drop i):=by
  refine AllC.append.2 ⟨AllC.append.2 ⟨hm.1.take,by intro x hx;rw[Y20.1 hx];exact hV⟩,hm.1.drop⟩
 rcases hm.2.2 with ⟨h1,hcz⟩ | ⟨l,cap,sp,rfl,hb,hcap⟩
 .subst h1;obtain rfl:i=0:=by simpa using hi
  rcases hcz with rfl | rfl
  all_goals
   simp;refine Zeh Zd4 ?_;refine app_mr Z4y (by kernel_rfl) (by decide) (by decide) hm (RowAt.own1 hd) (by simp) (fun c' h' hm' hs' hl'=>?_);simp;exact hk _ _ (by simpa using hm') hs' hl'
 .obtain⟨A,hA⟩:∃ A,(xs.take i).flatten=A:=⟨_,rfl⟩;obtain⟨B,hB⟩:∃ B,(xs.drop i).flatten=B:=⟨_,rfl⟩;have hAl:A.length=i * 3:=by rw[<- hA,(AllC.take hm.1).flatten,Y12,Nat.min_eq_left hi]
  have hBl:B.length=(xs.length - i) * 3:=by rw[<- hB,(AllC.drop hm.1).flatten,Y1u]
  have hF:xs.flatten=A++B:=by rw[<- hA,<- hB,<- Y2a,Y17]
  have hNF:∀ s:List C,(xs.take i++[d.map C.d]++xs.drop i).flatten++s=A++d.map C.d++B++s:=by intro s;rw[Y2a,Y2a,hA,hB];simp
  have hNl:(xs.take i++[d.map C.d]++xs.drop i).length=xs.length+1:=by simp;omega
  rw[rowBox,hF] at hb hcap;simp only[Y0f,hAl,hBl] at hcap;generalize hV0:d.map C.d=V0 at hk hV hallN hNF hNl;simp;refine Z1f ⟨by omega,by omega⟩ (fun _=>?_) (fun _=>?_)
  all_goals
   simp;refine Z79 (fun he=>?_) (fun he=>?_)
   .have hir:i=xs.length:=by simp at he;omega
    subst hir;simp;refine Zeh Zd4 ?_;refine app_mr Z4y (by kernel_rfl) (by decide) (by decide) hm (RowAt.own1 hd) (by simp;omega) (fun c' h' hm' hs' hl'=>?_);simp;exact hk _ _ (by simpa[hV0] using hm') hs' hl'
   .have hir:i < xs.length:=by
     have:(i:Int)≠xs.length:=by simpa using he
     omega
    have hw1:IntKind.i64.wrap ((xs.length:Int)+1)=(xs.length:Int)+1:=Y0a _ (by omega);have hw2:IntKind.i64.wrap ((i:Int)+1)=(i:Int)+1:=Y0a _ (by omega);simp[hw1];refine Zhe Z4y ?_;simp[hw1,hw2];refine Z4d (fun hlt=>?_) (fun hge=>?_)
    .have hlt':cap < xs.length+1:=by omega
     have hic:i<=cap:=by omega
     have hc0:0 < cap:=by omega
     have hw3:IntKind.i64.wrap ((xs.length:Int)+1 - i)=(xs.length:Int)+1 - i:=Y0a _ (by omega);simp[hw1,hw2,hw3];refine Z1f (by omega) (fun _=>?_) (fun h9=>absurd hc0 (by simpa using h9));simp[hw1,hw2,hw3];have hN:i+((xs.length:Int)+1 - i).toNat=xs.length+1:=by omega
     refine Zgf Z4y (by decide) (kk:=.i64) rfl (by kernel_rfl) (by decide) (by decide) (by omega) (by show (i:Int)+_<=2097152;omega) (by omega) (old:=A) (Z7f hb (by simp only[Y0f,hAl,hBl];omega) (by rw[Y27,Y0n,<- hAl];simp)) hAl (fun cap' hcap'=>?_);rw[hN] at hcap' |-;have hic':i < cap':=by omega
     simp[hw1,hw2,hw3];refine Z1f (by omega) (fun _=>?_) (fun h9=>absurd hic' (by simpa using h9));simp[hw1,hw2,hw3];have hz:(0:Int)<=(i:Int)+1:=by omega
     refine Zhd Zd4 ?_;refine Z6t (n:=3) (new:=V0) (m:=1) (mk:=1) (cs':=A++V0++List.replicate ((cap' - i) * 3 - 3) .any) Z4y (by simp[Z0x,C.list?,hd,hV0]) (by simp[cLen,C.list?]) (by simp;rfl) (by decide) (by simpa using hV) (by simp only[Y0f,Y1l,hAl];omega) (by omega) (by rw[Y0l (by omega),Z41 hAl.symm,hV];simp) ?_;simp[hw1,hw2,hw3];refine Wait.cut (Plan.then_ [0,1,2,3,4,5,6,7,8] .done) follows (by kernel_rfl) (fun e1 h1=>e1.n=95/\e1.get 9=.one (.mrow (h.ep,640) 0 (xs.length+1) cap')/\h1.box (h.ep,640)=some (A++V0++B++List.replicate ((cap' - (xs.length+1)) * 3) .any)/\Same h h1 []/\h.ep < h1.ep) ?_ ?_
     .simp[hw1,hw2,hw3];simp only[hz,if_true];refine Z1f (by simp;omega) (fun _=>?_) (fun h9=>absurd (show i+1 < cap' by omega) (by simpa using h9));simp[hw1,hw2,hw3];refine Z1f (by omega) (fun _=>?_) (fun h9=>absurd (show i < cap by omega) (by simpa using h9));simp[hw1,hw2,hw3];have hll:l.1 < h.ep:=hlb l (by simp[labs]);have hne:l≠(h.ep,640):=by rintro rfl;simp at hll
      refine Z6t (n:=3) (new:=B) (m:=xs.length - i) (mk:=xs.length - i) (cs:=A++V0++List.replicate ((cap' - i) * 3 - 3) .any) (cs':=A++V0++B++List.replicate ((cap' - (xs.length+1)) * 3) .any) Z4y
       (Z7f (cs:=A++B++sp) (by simp[hne,hb]) (by simp only[Y0f,hAl,hBl];omega) (by rw[Y0n,<- hAl,Y2v,<- hBl,Y2u])) rfl (by simp) (by decide) hBl (by simp only[Y0f,Y1l,hAl,hV];omega) (by omega) ?_ ?_
      .rw[<- hBl,Y0l (Y09 _),Z41 (a:=A++V0) (by simp only[Y0f,hAl,hV];omega),hBl];have e9:(cap' - i) * 3 - 3 - (xs.length - i) * 3=(cap' - (xs.length+1)) * 3:=by omega
       simp[e9]
      .refine CutK.of ?_;simp;exact (((Same.refl.setBox (.inr (by simp))).next).setBox (.inr (by simp))).setBox (.inr (by simp))
     .rintro e1 h1 ⟨hn,h9,hb1,hs1,he1⟩;simp[hn,h9];refine hk _ _ ?_ (hs1.mono (by simp)) (by simp[labs];exact .inr (by omega));exact Zni hallN hb1 (hNF _).symm (by simp only[Y0f,Y1l,hAl,hBl,hV];omega) hNl (by rw[hNl];omega)
    .have hge':xs.length+1<=cap:=by omega
     have hic:i < cap:=by omega
     have hz:(0:Int)<=(xs.length:Int)+1:=by omega
     have hz2:(0:Int)<=(i:Int)+1:=by omega
     have hN:((xs.length:Int)+1).toNat=xs.length+1:=by omega
     simp[hw1,hw2,hz,hz2,hN];refine Z1f (by omega) (fun _=>?_) (fun h9=>absurd (show 0 < cap by omega) (by simpa using h9));simp[hw1,hw2,hz,hz2,hN];refine Z1f (by omega) (fun _=>?_) (fun h9=>absurd (show i+1 < cap by omega) (by simpa using h9));simp[hw1,hw2,hz,hz2,hN];refine Znr (Zaf ha (by decide) hb (by simp only[Y0f,hAl,hBl];omega)) ?_;simp[hw1,hw2,hz,hz2,hN];obtain⟨s0,sp1,rfl,hs0⟩:∃ s0 sp1,sp=s0++sp1/\s0.length=3:=⟨sp.take 3,sp.drop 3,(Y17 _ _).symm,by rw[Y12];omega⟩;simp only[Y0f,hs0] at hcap;have hll:l.1 < h.ep:=hlb l (by simp[labs]);obtain⟨b0,B1,rfl,hb0⟩:∃ b0 B1,B=b0++B1/\b0.length=3:=⟨B.take 3,B.drop 3,(Y17 _ _).symm,by rw[Y12];omega⟩;have hB1:B1.length=(xs.length - i) * 3 - 3:=by simp only[Y0f,hb0] at hBl;omega
     have hBl':=hBl;generalize hBB:b0++B1=BB at hBl' hNF;refine Wait.cut (Plan.then_ [0,1,2,3,4,5,6,7,8] .done) follows (by kernel_rfl) (fun e1 h1=>e1.n=95/\e1.get 0=.one (.mrow l 0 (xs.length+1) cap)/\e1.get 1=.one (.d (.int .i64 (i:Int)))/\e1.get 2=.one (.own lv [d])/\h1.box l=some (A++b0++BB++sp1)/\Same h h1 [l]) ?_ ?_
     .simp[hw1,hw2,hz,hz2,hN];refine Z1f (by omega) (fun _=>?_) (fun h9=>absurd (show i+1 < cap by omega) (by simpa using h9));simp[hw1,hw2,hz,hz2,hN];refine Z1f (by omega) (fun _=>?_) (fun h9=>absurd (show i < cap by omega) (by simpa using h9));simp[hw1,hw2,hz,hz2,hN];refine Z6t (n:=3) (new:=BB++s0) (m:=xs.length+1 - i) (mk:=xs.length - i) (cs:=A++(b0++B1)++(s0++sp1)) (cs':=A++b0++BB++sp1) Z4y
       (Z7f (cs:=A++(b0++B1)++(s0++sp1)) (by simp[hb]) (by simp only[Y0f,hAl,hb0,hB1,hs0];omega) (by
        rw[hBB,Y0n,<- hAl,Y2v,<- Y0n]
        have:(xs.length+1 - i) * 3=(BB++s0).length:=by simp only[Y0f,hBl',hs0];omega
        rw[this,Y2u])) rfl (by simp[hb]) (by decide) (by simp only[Y0f,hBl',hs0];omega) (by simp only[Y0f,hAl,hb0,hB1,hs0];omega) (by omega) ?_ ?_
      .have e10:(BB++s0).take ((xs.length - i) * 3)=BB:=by rw[<- hBl',Y2u]
       have e11:A++(b0++B1)++(s0++sp1)=(A++b0)++(B1++s0++sp1):=by simp
       have e12:(B1++s0++sp1).drop BB.length=sp1:=by
        have:BB.length=(B1++s0).length:=by rw[hBl'];simp only[Y0f,hB1,hs0];omega
        rw[this,Y2v]
       rw[e10,e11,Z41 (by simp only[Y0f,hAl,hb0];omega),e12]
      .refine CutK.of ?_;simp;exact Same.refl.setBox (.inl (by simp))
     .rintro e1 h1 ⟨hn,h0,h1',h2,hb1,hs1⟩;simp[hn,h0,h1',h2];refine Z1f (by omega) (fun _=>?_) (fun h9=>absurd hic (by simpa using h9));simp[hn,h0,h1',h2];refine Zhd Zd4 ?_;refine Z6t (n:=3) (new:=V0) (m:=1) (mk:=1) (cs:=A++b0++BB++sp1) (cs':=A++V0++BB++sp1) Z4y (by simp[Z0x,C.list?,hd,hV0]) (by simp[cLen,C.list?]) (by simp[hb1]) (by decide) (by simpa using hV) (by simp only[Y0f,hAl,hb0,hBl'];omega) (by omega) ?_ ?_
      .have e13:A++b0++BB++sp1=A++(b0++BB++sp1):=by simp
       have e14:(b0++BB++sp1).drop b0.length=BB++sp1:=by rw[Y0n,Y2v]
       rw[Y0l (by omega),e13,Z41 hAl.symm,hV,<- hb0,e14];simp
      .simp[hn,h0];refine hk _ _ ?_ ((hs1.setBox (.inl (by simp))).mono (by simp[labs])) (by simp[labs]);exact Zni (cs:=A++V0++BB++sp1) (sp:=sp1) hallN (by simp) (hNF _).symm (by simp only[Y0f,hAl,hBl',hV];omega) hNl (by rw[hNl];omega)
end
end Go.Proofs.YtbcejndfbklikaaGreatDoor
