/- joined by a program out of 60 texts -/
import Derived.Test.YtbledgpconnopaaGreatDoorK4
import Derived.Shelf.LaysM
import Derived.Shelf.LaysC
import Derived.Test.YtbledgpconnopaaGreatDoorProg
import Derived.Shelf.Strconv.Itoa3
import Derived.Lib.AppendIntMem
import Derived.Lib.LaidTab
import Derived.Shelf.Strings.Cut
import Derived.Shelf.Strings.Search3
import Derived.Shelf.Strconv.AtoiAll
import Derived.WalkKit
set_option linter.unusedVariables false
set_option linter.unusedSimpArgs false
set_option maxRecDepth 20000
open Go Go.Proofs
open Go.Proofs.Tryz(prog)
open ByteArray(empty)
namespace Go.Am
section
def Ve(rows:List (List GV)):Option ((List (List GV))):=
 Zc (λ(i2:Nat) (x2:List GV) (s2:(List (List GV))) next_2=>Z1 (CC x2) λv3=>W0 s2 [v3] λ_=>next_2 (s2++[v3])) (λ(s2:(List (List GV)))=>some s2) rows 0 []
instance S5(rows:List (List GV)):Con (Ve rows) prog 85 [.one (.d (.sl (rows.map (Z6 GV.enc))))] (λr=>.one (.d (.sl (r.map (Z6 GV.enc))))):=by
 unfold Ve;have l1:LH (σ:=(List (List GV))) 8 [6,7] [.g 3 1 (λs=>s.map (Z6 GV.enc))]:=.intro;exact go 19 Tryz.func85
def Uj(t:Tbl)(rows:List (List GV))(key:List GV):Option (Int×Bool):=
 Zc (λ(i3:Nat) (x3:List GV) (s3:Unit) next_3=>Z1 (Vl t x3) λv4=>Z1 (CG v4 key) λv5=>bif decide (0<=v5) then some ((i3:Int),(v5==0)) else next_3 ()) (λ(s3:Unit)=>some ((rows.length:Int),false)) rows 0 ()
instance D0(t:Tbl)(rows:List (List GV))(key:List GV):Con (Uj t rows key) prog 90 [.agg t.enc,.one (.d (.sl (rows.map (Z6 GV.enc)))),.one (.d (.sl (key.map GV.enc)))] (λr=>.tup [.one (.d (.int .i64 r.1)),.one (.d (.bool r.2))]):=by unfold Uj;have l1:LH (σ:=Unit) 13 [1,2,3,11,12] []:=.intro;exact go 31 Tryz.func90
def rowc(row:List GV):C:=.d (.sl (row.map GV.enc))
theorem II(h:HS)(rows out:List (List GV))(hm:Is (Ve rows) out)(K:V->HS->Prop)
  (hk:∀c h',MR h' 1 c (Zn (out.map rowc))->Z0 h h' []->(∀k∈labs c,h.ep<=k.1/\k.1<h'.ep)->K (.one c) h'):
  Z3 prog 85 [.l (rows.map (Z6 GV.enc))] h K:=by
 unfold Ve at hm;refine Z3.ov Tryz.func85 ?_;simp;intro af;refine Z4.for (xs:=rows) (s0:=[]) (λi s e h'=>∃c,En e 19 [(3,.one c),(6,.l (rows.map (Z6 GV.enc))),(7,.i (rows.length:Int)),(8,.i (i:Int))]/\MR h' 1 c (Zn (s.map rowc))/\Z0 h h' []/\∀k∈labs c,h.ep<=k.1/\k.1<h'.ep) hm ⟨.nil,sI,by simpa[Zn] using MR.nil,.refl,by simp[labs]⟩ ?_ ?_;rintro i s e h' ⟨c,hE,ab,hs,hl⟩ hlt hm;have hw:IntKind.i64.wrap ((i:Int)+1)=(i:Int)+1:=Y5 _ oM;obtain⟨row,aa,hm⟩:=hm.bind;obtain⟨ac,hm⟩:=hm.chk;have hr:row=rows[i]:=(Zh aa).symm;simp[hE,hlt];refine Zq (CE _ row aa) sI ?_;simp[hE,hlt];have hs2:Z0 h' ((h'.qC (h'.ep,225) (some (row.length,3))).next.qC (h'.ep+1,240) (some (1,1))).next []:=((Z0.refl.qC).next.qC).next;refine W5 ZQ kR dE dE (ab.frame λk hk=>hs2.2 k (hl k hk).2 sI) (Zk.qU rfl) (by simpa[Zn] using ac) (λc' h2 hm2 hs3 ad=>?_);simp[hE,hw];have ae:Z0 h h2 []:=(hs.trans hs2).trans' hs3 λk hk=>.inr (hl k hk).1;refine Ze.of (s++[row]) ⟨⟨c',by simp[hE],?_,ae,λk hk=>?_⟩,hm⟩;simpa[Zn,rowc] using hm2;rcases ad k hk with h9|h9
 have:=hl k h9
 have:=hs3.1
 simp at this;omega
 have:=hs.1
 simp at h9;omega;rintro s e h' ⟨c,hE,ab,hs,hl⟩ hm;obtain rfl:=Zh hm;simp[hE];exact hk _ _ ab hs hl
theorem O3{h:HS}{c:C}{rows:List (List GV)}{rs:List C}(hm:MR h 1 c (Zn rs))(hl:rs.length=rows.length)(hd:∀(i:Nat) (r:C) (row:List GV),rs[i]?=some r->rows[i]?=some row->r.toD=some (.sl (row.map GV.enc))):Frz h c (.sl (rows.map (Z6 GV.enc))):=by
 refine hm.frz (by simp[Zn,hl]) (λt ht=>by obtain⟨y,_,rfl⟩:=Yi.1 ht;rfl) (λi x t hx ht=>?_);simp only[Zn,Y8] at hx ht;cases hr:rs[i]? with
 |none=>rw[hr] at hx;cases hx
 |some r=>?_
 cases hw:rows[i]? with
 |none=>rw[hw] at ht;cases ht
 |some row=>?_
 rw[hr] at hx;rw[hw] at ht;cases hx;cases ht;exact⟨.data (hd i r row hr hw),trivial⟩
theorem C0{h:HS}{c:C}{rows:List (List GV)}(hm:MR h 1 c (Zn (rows.map rowc))):Frz h c (.sl (rows.map (Z6 GV.enc))):=
 O3 hm sI λi r row hr hw=>by rw[Y8,hw] at hr;cases hr;rfl
theorem O2{h:HS}{l:Z2}{cap i:Nat}{rs sp:List C}{x:C}(hb:(rs++sp).length=cap*1)(hlim:rs.length<=2097152)(hi:i<rs.length):MR (h.qA l (Zg (rs++sp) i [x])) 1 (.mrow l 0 rs.length cap) (Zn (rs.set i x)):=by
 have e1:rs++sp=rs.take i++(rs[i]::(rs.drop (i+1)++sp)):=by rw[<-Yk,<-Ys hi,<-Yy,YI]
 have e2:Zg (rs++sp) i [x]=rs.set i x++sp:=by rw[e1,AQ sO,Xc,if_pos hi];simp
 rw[e2]
 have:=Hl (h:=h.qA l (rs.set i x++sp)) (l:=l) (cap:=cap) (rs:=rs.set i x) (sp:=sp) sI (by simp at hb|-;omega) (by simpa using hlim)
 simpa using this
def UP(t:Tbl)(rows:List (List GV))(row:List GV):Option (List (List GV)):=
 Z1 (Ve rows) λout=>Z1 (Vl t row) λk=>Z1 (Uj t out k) λq=>bif q.2 then Zp (0<=q.1/\q.1<out.length) (some (out.set q.1.toNat row)) else Zp (0<=q.1/\q.1<=out.length/\out.length+1<=2097152) (some (out.take q.1.toNat++[row]++out.drop q.1.toNat))
theorem Eo(t:Tbl)(rows:List (List GV))(row:List GV)(r:List (List GV))(hm:Is (UP t rows row) r):
  Zj prog 51 [.agg t.enc,.l (rows.map (Z6 GV.enc)),.l (row.map GV.enc)] (.l (r.map (Z6 GV.enc))):=by
 unfold UP at hm;refine Zj.of_heap ?_;show Z3 _ _ [.agg (t.enc.map C.d),.l (rows.map (Z6 GV.enc)),.l (row.map GV.enc)] HS.init _;refine Z3.ov Tryz.func51 ?_;obtain⟨out,ad,hm⟩:=hm.bind;obtain⟨k,ah,hm⟩:=hm.bind;obtain⟨q,aj,hm⟩:=hm.bind;obtain⟨qi,qb⟩:=q;simp only at hm;simp;refine Za (II _ rows out ad _ (λc h1 ab ae af=>?_));have b0:=ae.2 (0,48) sI sI;have ag:=ae.1;simp at b0 ag;simp;refine Zq (CE row row rfl) sI ?_;simp;refine Z4.cu [0,1,2,3,4,5,6,7,8,9,10] (λe h2=>En e 34 [(7,.one c),(8,.i qi),(9,.b qb),(2,.one (.own (h1.ep,209) (row.map GV.enc)))]/\Z0 h1 h2 []) ?_ ?_;simp[b0];refine Zq (Uk t row k ah) sI ?_;simp[b0];refine⟨λ_ _ x=>x,Za (Z3.qD (D0 t out k (qi,qb) aj) ⟨.agg (Zx.qL (ds:=t.enc)),.one (.frz (C0 (ab.frame λl hl=>?_))),.one (.frz (.data rfl)),trivial⟩ rfl ?_)⟩;rfl;simp[b0];refine⟨λ_ _ x=>x,Zb.of ?_⟩;simp;exact((Z0.refl.qC).next).qC.next.next;rintro e h2 ⟨hE,hs2⟩;simp[hE];have hm2:=ab.frame λl hl=>hs2.2 l (af l hl).2 sI;cases qb with|true=>?_|false=>?_;simp only[cond_true] at hm;obtain⟨⟨al,am⟩,hm⟩:=hm.chk;obtain rfl:=Zh hm;obtain⟨qn,rfl⟩:∃n:Nat,qi=n:=⟨qi.toNat,oM⟩;have aa:qn<out.length:=oM
 obtain⟨l,cap,sp,rfl,hb,hcap⟩:=hm2.block (by simp[Zn];omega);rw[F8] at hb hcap;simp[hE,hb,aa,Zn];have hm4:=O2 (h:=h2) (l:=l) (i:=qn) (x:=C.own (h1.ep,209) (row.map GV.enc)) hcap (by have:=ab.2.1;simpa[Zn] using this) (by simpa using aa)
 have:=O3 (rows:=out.set qn row) (by simpa using hm4) sI (λi r w hr hw=>?_)
 refine⟨by simp at hcap;omega,?_⟩;show Frz _ _ _;simpa[Z6] using this;rw[Xq] at hr hw;by_cases ac:qn=i;subst ac;simp[aa] at hr hw;subst hr hw;rfl;rw[if_neg ac,Y8] at hr;rw[if_neg ac] at hw;rw[hw] at hr;cases hr;rfl;simp only[cond_false] at hm;obtain⟨⟨al,am,hlim⟩,hm⟩:=hm.chk;obtain rfl:=Zh hm;obtain⟨qn,rfl⟩:∃n:Nat,qi=n:=⟨qi.toNat,oM⟩;simp[hE];refine Za (Rj _ c (out.map rowc) _ [.sl (row.map GV.enc)] qn ?_ (λl hl=>?_) sO ?_ rfl (by simpa using hlim) _ (λc' h3 hm3 hs3 ap=>?_));exact hm2.frame λl hl=>sI
 have:=af l hl
 have:=hs2.1
 simp;omega;simp;simp[hE];have ak:Zn ((out.map rowc).take qn++[C.d (.sl (row.map GV.enc))]++(out.map rowc).drop qn)=Zn ((out.take qn++[row]++out.drop qn).map rowc):=by simp[rowc]
 have hm4:MR h3 1 c' (Zn ((out.take qn++[row]++out.drop qn).map rowc)):=ak▸hm3
 have:=C0 hm4
 show Frz _ _ _;simpa[Z6] using this
def El(t:Tbl)(rows:List (List GV))(key:List GV):Option (List (List GV)×Bool):=
 Z1 (Ve rows) λout=>Z1 (Uj t out key) λq=>bif q.2 then Zp (0<=q.1/\q.1<out.length) (some (out.take q.1.toNat++out.drop (q.1.toNat+1),true)) else some (out,false)
theorem RR(t:Tbl)(rows:List (List GV))(key:List GV)(r:List (List GV)×Bool)(hm:Is (El t rows key) r):
  Zj prog 52 [.agg t.enc,.l (rows.map (Z6 GV.enc)),.l (key.map GV.enc)] (.tup [.l (r.1.map (Z6 GV.enc)),.b r.2]):=by
 unfold El at hm;refine Zj.of_heap ?_;show Z3 _ _ [.agg (t.enc.map C.d),.l (rows.map (Z6 GV.enc)),.l (key.map GV.enc)] HS.init _;refine Z3.ov Tryz.func52 ?_;obtain⟨out,ab,hm⟩:=hm.bind;obtain⟨q,ae,hm⟩:=hm.bind;obtain⟨qi,qb⟩:=q;simp only at hm;simp;refine Za (II _ rows out ab _ (λc h1 aa ac ag=>?_));have b0:=ac.2 (0,48) sI sI;have ad:=ac.1;simp at b0 ad;simp[b0];refine Za (Z3.qD (D0 t out key (qi,qb) ae) ⟨.agg (Zx.qL (ds:=t.enc)),.one (.frz (C0 aa)),.one (.frz (.data rfl)),trivial⟩ rfl ?_);have hm2:MR h1.next 1 c (Zn (out.map rowc)):=aa.frame λl hl=>sI
 simp;cases qb with|true=>?_|false=>?_;simp only[cond_true] at hm;obtain⟨⟨ah,aj⟩,hm⟩:=hm.chk;obtain rfl:=Zh hm;obtain⟨qn,rfl⟩:∃n:Nat,qi=n:=⟨qi.toNat,oM⟩;have hlim:=aa.2.1;rw[Hb] at hlim;have hw:IntKind.i64.wrap ((qn:Int)+1)=((qn+1:Nat):Int):=Y5 _ (by simp at hlim;omega);simp[hw];refine Za (Rl _ c (Zn (out.map rowc)) qn (qn+1) hm2 oM (by simp[Zn];omega) _ (λc' h3 hm3 hs3 _ _ _=>?_));have af:(Zn (out.map rowc)).take qn++(Zn (out.map rowc)).drop (qn+1)=Zn ((out.take qn++out.drop (qn+1)).map rowc):=by simp[Zn]
 have hm4:MR h3 1 c' (Zn ((out.take qn++out.drop (qn+1)).map rowc)):=af▸hm3
 have:=C0 hm4
 simp[ZG,Zz,ZL,ZR];refine⟨?_,Frz.data rfl,trivial⟩;show Frz _ _ _;simpa[Z6] using this;simp only[cond_false] at hm;obtain rfl:=Zh hm;simp[ZG,Zz,ZL,ZR];exact⟨C0 hm2,Frz.data rfl,trivial⟩
def V9(inst:List Rel):Option ((List Rel)):=
 Zc (λ(i2:Nat) (x2:Rel) (s2:(List Rel)) next_2=>Z1 (Ve x2.rows) λv4=>W0 s2 [(Rel.mk x2.table v4)] λ_=>next_2 (s2++[(Rel.mk x2.table v4)])) (λ(s2:(List Rel))=>some s2) inst 0 []
instance CX(inst:List Rel):Con (V9 inst) prog 48 [.one (.d (.sl (inst.map Rel.enc)))] (λr=>.one (.d (.sl (r.map Rel.enc)))):=by
 unfold V9;have l1:LH (σ:=(List Rel)) 8 [6,7] [.g 3 2 (λs=>s.map Rel.enc)]:=.intro;have p1:PH [5] (Plan.qB [0,1,2,3,4,5,6,7,8,9] .done):=.intro;exact go 23 Tryz.func48
instance Zbz  :ConF (λx=>V9 x) prog (λx=>.one (.d (.sl (x.map Rel.enc)))) (λr=>.one (.d (.sl (r.map Rel.enc)))) 48 []:=⟨λx=>(CX x)⟩
def FZ(h:HS)(c:C)(x:D)(ls:List Z2):Prop:=∀h',(∀l∈ls,h'.box l=h.box l)->Frz h' c x
theorem FZ.frame{h h':HS}{c:C}{x:D}{ls:List Z2}(f:FZ h c x ls)(hb:∀l∈ls,h'.box l=h.box l):FZ h' c x ls:=λh2 aa=>f h2 λl hl=>(aa l hl).trans (hb l hl)
def FO(h:HS)(cs:List C)(ds:List D)(ls:List Z2):Prop:=∀h',(∀l∈ls,h'.box l=h.box l)->Zx h' cs ds
theorem FO.frame{h h':HS}{cs:List C}{ds:List D}{ls:List Z2}(f:FO h cs ds ls)(hb:∀l∈ls,h'.box l=h.box l):FO h' cs ds ls:=λh2 aa=>f h2 λl hl=>(aa l hl).trans (hb l hl)
abbrev NQ:=List C×List D×List Z2
structure NR(h:HS)(n:Nat)(c:C)(qs:List NQ):Prop where
 mr:MR h n c (qs.map (·.1))
 el:∀q∈qs,FO h q.1 q.2.1 q.2.2/\q.2.1.length=n
 lt:∀q∈qs,∀k∈q.2.2,k.1<h.ep/\k∉labs c
 lc:∀k∈labs c,k.1<h.ep
theorem NR.nil{h:HS}{n:Nat}:NR h n .nil []:=⟨MR.nil,sI,sI,by simp[labs]⟩
theorem NR.frame{h h':HS}{n:Nat}{c:C}{qs:List NQ}{lx:List Z2}(r:NR h n c qs)(hs:Z0 h h' lx)(hc:∀k∈labs c,k∉lx)(hq:∀q∈qs,∀k∈q.2.2,k∉lx):NR h' n c qs:=
 ⟨r.mr.frame λl hl=>hs.2 l (r.lc l hl) (hc l hl),λq aa=>⟨(r.el q aa).1.frame λl hl=>hs.2 l (r.lt q aa l hl).1 (hq q aa l hl),(r.el q aa).2⟩,λq aa k hk=>⟨Y3 (r.lt q aa k hk).1 hs.1,(r.lt q aa k hk).2⟩,λk hk=>Y3 (r.lc k hk) hs.1⟩
theorem NR.put{h:HS}{n:Nat}{l:Z2}{cap:Nat}{qs:List NQ}{sp:List C}(r:NR h n (.mrow l 0 qs.length cap) qs)(hb:h.box l=some (Z8 (qs.map (·.1)) sp))(hcap:(Z8 (qs.map (·.1)) sp).length=cap*n){k:Nat}(hk:k<qs.length){q:NQ}(hn:q.1.length=n)(hd:q.2.1.length=n)
  (hf:FO (h.qA l (Z8 ((qs.set k q).map (·.1)) sp)) q.1 q.2.1 q.2.2)(hl:∀j∈q.2.2,j.1<h.ep/\j≠l):NR (h.qA l (Z8 ((qs.set k q).map (·.1)) sp)) n (.mrow l 0 (qs.set k q).length cap) (qs.set k q):=by
 have ha:Zr n ((qs.set k q).map (·.1)):=by rw[YD];exact r.mr.1.set hn
 refine⟨⟨ha,by simpa using r.mr.2.1,.inr ⟨l,cap,sp,sI,sI,?_⟩⟩,λp hp=>?_,λp hp j hj=>?_,λj hj=>by simpa using r.lc j (by simpa[labs] using hj)⟩;rw[WL ha,Yh,YT,<-hcap,WL r.mr.1,Yh];rcases YU hp with h1|rfl;refine⟨(r.el p h1).1.frame λj hj=>?_,(r.el p h1).2⟩
 have:=(r.lt p h1 j hj).2
 simp only[labs,Yu] at this;simp[this];exact⟨hf,hd⟩;rcases YU hp with h1|rfl;simpa[labs] using r.lt p h1 j hj;simpa[labs] using hl j hj
def WN(x:Rel):List C:=[.d (.str x.table),.d (.sl (x.rows.map (Z6 GV.enc)))]
theorem RG(h:HS)(inst out:List Rel)(hm:Is (V9 inst) out)(K:V->HS->Prop)
  (hk:∀c h',MR h' 2 c (out.map WN)->Z0 h h' []->(∀k∈labs c,h.ep<=k.1/\k.1<h'.ep)->K (.one c) h'):
  Z3 prog 48 [.l (inst.map Rel.enc)] h K:=by
 unfold V9 at hm;refine Z3.ov Tryz.func48 ?_;simp;intro ah;refine Z4.for (xs:=inst) (s0:=[]) (λi s e h'=>∃c,En e 23 [(3,.one c),(6,.l (inst.map Rel.enc)),(7,.i (inst.length:Int)),(8,.i (i:Int))]/\MR h' 2 c (s.map WN)/\Z0 h h' []/\∀k∈labs c,h.ep<=k.1/\k.1<h'.ep) hm ⟨.nil,sI,by simpa using MR.nil,.refl,by simp[labs]⟩ ?_ ?_;rintro i s e h' ⟨c,hE,aa,hs,hl⟩ hlt hm;have hw:IntKind.i64.wrap ((i:Int)+1)=(i:Int)+1:=Y5 _ oM;obtain⟨rows,ab,hm⟩:=hm.bind;obtain⟨ad,hm⟩:=hm.chk;simp[*];refine Z4.cu [0,1,2,3,4,5,6,7,8,9] (λE h1=>∃c2,Ek e E [(3,.one c2)] [6,7,8]/\
  MR h1 2 c2 ((s++[Rel.mk inst[i].table rows]).map WN)/\Z0 h h1 []/\∀k∈labs c2,h.ep<=k.1/\k.1<h1.ep) ?_ ?_
 simp[hE];have ac:Z0 h' ((h'.qA (h'.ep,80) [C.d (D.str empty),C.nil]).next.qA (h'.ep,80) [C.d (D.str inst[i].table),C.d (D.sl (List.map (Z6 GV.enc) inst[i].rows))]) []:=((Z0.refl.qA (.inr sI)).next).qA (.inr sI);refine Zq (S5 _ rows ab) sI ?_;simp[hE];have hs2:=((ac.next.qC (l:=(h'.ep+1+1,304)) (x:=some (1,2))).next);refine⟨λ_ _ x=>x,W5 Bt kR dE dE (aa.frame λl af=>hs2.2 l (hl l af).2 sI) (Zk.qU rfl) (by simpa using ad) (λc' h2 hm2 hs3 ae=>?_)⟩;simp[hE];refine Zb.of ?_;have ag:Z0 h h2 []:=(hs.trans hs2).trans' hs3 λk hk=>.inr (hl k hk).1;refine⟨c',by simp[hE],by simpa[WN] using hm2,ag,λk hk=>?_⟩;rcases ae k hk with h9|h9
 have:=hl k h9
 have:=hs3.1
 simp at this;omega
 have:=hs.1
 simp at h9;omega;rintro e1 h1 ⟨c2,hF,aa,hs,hl⟩;have hE:=hF.an hE;simp[hE,hw];exact Ze.of (s++[Rel.mk inst[i].table rows]) ⟨⟨c2,by simp[hE],aa,hs,hl⟩,hm⟩;rintro s e h' ⟨c,hE,aa,hs,hl⟩ hm;obtain rfl:=Zh hm;simp[hE];exact hk c h' aa hs hl
def AK(t:Tbl)(key:List GV):Option Int:=
 bif ((key.length:Int) !=(t.pk.length:Int)) then some 3 else Zc (λ(i6:Nat) (x6:GV) (s6:Unit) next_6=>Z1 (WD x6) λv8=>bif (v8 !=0) then some v8 else Z7 t.pk (i6:Int) λx10=>Z7 t.cols x10 λx11=>bif (x6.kind !=x11.kind) then some 7 else next_6 ()) (λ(s6:Unit)=>some 0) key 0 ()
instance Zb8(t:Tbl)(key:List GV):Con (AK t key) prog 86 [.agg t.enc,.one (.d (.sl (key.map GV.enc)))] (λr=>.one (.d (.int .i64 r))):=by unfold AK;have l1:LH (σ:=Unit) 16 [2,14,15] []:=.intro;have p1:PH [9] (Plan.qB [0,1,2,3,4,5,6,7,8,9,10,11,12] .done):=.intro;exact go 40 Tryz.func86
def CU(s_:Sch)(c:Chg):Option Int:=
 bif (c.kind==1) then bif decide (0<c.key.length) then some 3 else(bif (c.kind==2) then bif decide (0<c.row.length) then some 3 else(bif (c.kind !=1) then bif (c.kind !=2) then some 3 else(Z1 (ZY s_ c.table) λv11=>bif !v11.2 then some 4 else Z7 s_.tables v11.1 λx13=>Z1 (A9 x13 c.row) λv14=>some v14) else Z1 (ZY s_ c.table) λv15=>bif !v15.2 then some 4 else Z7 s_.tables v15.1 λx17=>Z1 (A9 x17 c.row) λv18=>some v18) else bif (c.kind !=1) then bif (c.kind !=2) then some 3 else(Z1 (ZY s_ c.table) λv21=>bif !v21.2 then some 4 else Z7 s_.tables v21.1 λx23=>Z1 (A9 x23 c.row) λv24=>some v24) else Z1 (ZY s_ c.table) λv25=>bif !v25.2 then some 4 else Z7 s_.tables v25.1 λx27=>Z1 (A9 x27 c.row) λv28=>some v28) else bif (c.kind==2) then bif decide (0<c.row.length) then some 3 else(bif (c.kind !=1) then bif (c.kind !=2) then some 3 else(Z1 (ZY s_ c.table) λv34=>bif !v34.2 then some 4 else Z7 s_.tables v34.1 λx36=>Z1 (AK x36 c.key) λv37=>some v37) else Z1 (ZY s_ c.table) λv38=>bif !v38.2 then some 4 else Z7 s_.tables v38.1 λx40=>Z1 (AK x40 c.key) λv41=>some v41) else bif (c.kind !=1) then bif (c.kind !=2) then some 3 else(Z1 (ZY s_ c.table) λv44=>bif !v44.2 then some 4 else Z7 s_.tables v44.1 λx46=>Z1 (AK x46 c.key) λv47=>some v47) else Z1 (ZY s_ c.table) λv48=>bif !v48.2 then some 4 else Z7 s_.tables v48.1 λx50=>Z1 (AK x50 c.key) λv51=>some v51
instance RT(s_:Sch)(c:Chg):Con (CU s_ c) prog 49 [.agg s_.enc,.agg c.enc] (λr=>.one (.d (.int .i64 r))):=by unfold CU;have p1:PH [7,8] (Plan.qB [0,1,2,3,4,5,6,7,8] .done):=.intro;exact go 65 Tryz.func49
theorem Z4w{h:HS}{c:C}{out:List Rel}(hm:MR h 2 c (out.map WN)):Frz h c (.sl (out.map Rel.enc)):=
 hm.frz sI (λt ht=>by obtain⟨y,_,rfl⟩:=Yi.1 ht;rfl) λi x t hx ht=>by
  rw[Y8] at hx ht;cases hq:out[i]? with
  |none=>rw[hq] at hx;cases hx
  |some q=>?_
  rw[hq] at hx ht;cases hx;cases ht;exact⟨.data rfl,.data rfl,trivial⟩
def Dx{ρ:Type}(s:Sch)(x:Chg)(out:List Rel)(next:List Rel->Option ρ)(bad:Int->Option ρ):Option ρ:=
 Z1 (CU s x) λe=>bif e !=0 then bad e else Z1 (ZY s x.table) λq=>Z7 s.tables q.1 λT=>Z7 out q.1 λo=>
  bif x.kind==1 then Z1 (UP T o.rows x.row) λrows=>bif decide ((24:Int)<rows.length) then bad 2 else next (out.set q.1.toNat ⟨o.table,rows⟩)
  else Z1 (El T o.rows x.key) λd=>bif !d.2 then bad 9 else next (out.set q.1.toNat ⟨o.table,d.1⟩)
def Ev(s:Sch)(inst:List Rel)(cs:List Chg):Option (List Rel×Int):=
 Z1 (Ug s) λe=>bif e !=0 then some ([],e) else Z1 (VH s inst) λe2=>bif e2 !=0 then some ([],e2) else bif decide ((24:Int)<cs.length) then some ([],2) else
 Z1 (V9 inst) λaa=>Zc (λ(i:Nat) (x:Chg) (out:List Rel) next=>Dx s x out next λe=>some ([],e)) (λout=>some (out,0)) cs 0 aa
theorem Sz(s:Sch)(inst:List Rel)(cs:List Chg)(r:List Rel×Int)(hm:Is (Ev s inst cs) r):
  Zj prog 19 [.agg s.enc,.l (inst.map Rel.enc),.l (cs.map Chg.enc)] (.tup [.l (r.1.map Rel.enc),.i r.2]):=by
 unfold Ev at hm;refine Zj.of_heap ?_;show Z3 _ _ [.agg (s.enc.map C.d),.l (inst.map Rel.enc),.l (cs.map Chg.enc)] HS.init _;refine Z3.ov Tryz.func19 ?_;obtain⟨ev,bh,hm⟩:=hm.bind;simp;refine Zq (IF s ev bh) sI ?_;simp;refine Zy hm ?_ ?_<;>clear hm<;>intro bc hm;obtain rfl:=Zh hm;simp[bc,ZG,Zz,ZL,ZR];exact⟨Frz.data rfl,Frz.data rfl,trivial⟩;obtain⟨bl,ay,hm⟩:=hm.bind;simp[bc];refine Zq (Ee s inst bl ay) sI ?_;simp;refine Zy hm ?_ ?_<;>clear hm<;>intro ba hm;obtain rfl:=Zh hm;simp[ba,ZG,Zz,ZL,ZR];exact⟨Frz.data rfl,Frz.data rfl,trivial⟩;simp[ba];intro bw;refine Zy hm ?_ ?_<;>clear hm<;>intro aw hm;obtain rfl:=Zh hm;simp at aw;simp[aw,ZG,Zz,ZL,ZR];exact⟨Frz.data rfl,Frz.data rfl,trivial⟩;simp at aw;obtain⟨az,al,hm⟩:=hm.bind;have bj:¬(24<cs.length):=oM
 simp[bj];refine Za (RG _ inst az al _ (λc h1 hr hs hl=>?_));have b0:=hs.2 (0,48) sI sI;have au:=hs.1;simp at b0 au;have hl2:∀k∈labs c,1<=k.1/\k.1<h1.ep:=λk hk=>by have:=hl k hk;simp at this;omega
 simp;intro _;refine Z4.for (xs:=cs) (s0:=az) (λi out e h=>∃c,MR h 2 c (out.map WN)/\(∀k∈labs c,1<=k.1/\k.1<h.ep)/\1<=h.ep/\h.box (0,48)=some (s.enc.map C.d)/\e.n=101/\
  e.get 3=.p (0,48)/\e.get 10=.one c/\e.get 34=.l (cs.map Chg.enc)/\e.get 35=.i (cs.length:Int)/\e.get 36=.i (i:Int)) hm ?_ ?_ ?_
 exact⟨c,hr,hl2,oM,by simpa[Sch.enc] using b0,sI,sI,sI,sI,sI,sI⟩
 .clear hm bc ba hr hl2 hl hs b0 au al c h1 bh ay aw;rintro i out e h ⟨c,hr,hl,au,b0,hn,h3,aa,ad,ac,ab⟩ hlt hm;have hw:IntKind.i64.wrap ((i:Int)+1)=(i:Int)+1:=Y5 _ oM;generalize hNx:(λs'=>Zc (λ(i:Nat) (x:Chg) (out:List Rel) next=>Dx s x out next λe=>some ([],e)) (λout=>some (out,0)) (List.drop (i+1) cs) (i+1) s')=nextN at hm;have am:∀o',Is (nextN o') r->Is (Zc (λ(i:Nat) (x:Chg) (out:List Rel) next=>Dx s x out next λe=>some ([],e)) (λout=>some (out,0)) (List.drop (i+1) cs) (i+1) o') r:=λo' h'=>by rw[<-hNx] at h';exact h'
  clear hNx;generalize hx:cs[i]=x at hm;have bv:cs[i]?=some x:=by rw[<-hx];exact Y1 hlt
  unfold Dx at hm;obtain⟨bo,bg,hm⟩:=hm.bind;simp only[Sch.enc,Yb,Yd] at b0;simp[hn,h3,aa,ad,ac,ab,b0,hlt,hx];refine Zq (RT s x bo bg) sI ?_;simp[hn,h3,aa,ad,ac,ab,b0];refine Zy hm ?_ ?_<;>clear hm<;>intro bi hm;obtain rfl:=Zh hm;simp[hn,h3,aa,ad,ac,ab,b0,bi,ZG,Zz,ZL,ZR];exact⟨Frz.data rfl,Frz.data rfl,trivial⟩;obtain⟨q,bn,hm⟩:=hm.bind;obtain⟨qi,qb⟩:=q;obtain⟨T,bp,hT,hm⟩:=hm.get;obtain⟨o,_,ho,hm⟩:=hm.get;simp only at bp hT ho hm;obtain⟨qn,rfl⟩:∃n:Nat,qi=n:=⟨qi.toNat,oM⟩;simp only[Xk] at hT ho hm;simp[hn,h3,aa,ad,ac,ab,b0,bi];refine Zq (UO s x.table _ bn) sI ?_;simp[hn,h3,aa,ad,ac,ab,b0,hT];have ah:qn<out.length:=(Y0.1 ho).1;have be:(out.map WN)[qn]?=some (WN o):=by rw[Y8,ho];rfl
  obtain⟨l,cap,sp,rfl,hb,hcap⟩:=hr.block (by simp<;>omega);rw[Yh] at hl hr aa;have bu:=Up (sp:=sp) hr.1 (k:=qn) (by simp<;>omega);have a7:∀rows:List (List GV),Zg (Z8 (out.map WN) sp) (qn*2+1) [.d (.sl (rows.map (Z6 GV.enc)))]=Z8 ((out.set qn ⟨o.table,rows⟩).map WN) sp:=λrows=>by rw[Ar hr.1 be (by simp[WN]),YD];simp[Zg,WN]
  have ar:Zl 1 ((Z8 (out.map WN) sp).drop (qn*2+1))=some [.d (.sl (o.rows.map (Z6 GV.enc)))]:=by have h9:=Vf (sp:=sp) (f:=1) (m:=1) hr.1 be (by simp[WN]);simpa[Zl,WN] using h9
  have bf:=(hl l (by simp[labs])).2;have hl2:=(hl l (by simp[labs])).1;have ax:((0,48):Z2)≠l:=by rintro rfl;simp at hl2
  have hall:∀out:List Rel,Zr 2 (out.map WN):=λout y hy=>by obtain⟨z,_,rfl⟩:=Yi.1 hy;rfl
  have put:∀(H:HS) (rows:List (List GV)),MR (H.qA l (Z8 ((out.set qn ⟨o.table,rows⟩).map WN) sp)) 2 (.mrow l 0 out.length cap) ((out.set qn ⟨o.table,rows⟩).map WN):=λH rows=>
   ⟨hall _,by simpa using hr.2.1,.inr ⟨l,cap,sp,sI,sI,by rw[WL (hall _),<-hcap,WL (hall _)];simp⟩⟩
  have af:l≠(h.ep,192):=by rintro rfl;simp at bf
  have ae:l≠(h.ep+1+1+1,256):=by rintro rfl;simp at bf;omega
  have bd:Z0 h ((((h.qA (h.ep,192) [.d (.int .i64 0),.d (.str empty),.nil,.nil]).next.qA (h.ep,192) [.d (.int .i64 x.kind),.d (.str x.table),.d (.sl (x.key.map GV.enc)),.d (.sl (x.row.map GV.enc))]).next.next.qA (h.ep+1+1+1,256) [.d (.str empty),.nil,.nil]).next.qA (h.ep+1+1+1,256) [.d (.str T.name),.d (.sl (T.cols.map Col.enc)),.d (.sl (T.pk.map Zd))]) []:=
   ((((Z0.refl.qA (.inr sI)).next.qA (.inr sI)).next.next).qA (.inr (by simp<;>omega))).next.qA (.inr (by simp<;>omega))
  refine Zy hm ?_ ?_<;>clear hm<;>intro ag hm;obtain⟨rows,a8,hm⟩:=hm.bind;simp[hn,h3,aa,ad,ac,ab,b0,ag];refine Z4.cu [0,1,2,3,4,5,6,7,8,9,10,11,12,13] (λe1 h1=>∃H,Z0 h H []/\h1=H.qA l (Z8 ((out.set qn ⟨o.table,rows⟩).map WN) sp)/\1<=h1.ep/\e1.n=101/\e1.get 3=.p (0,48)/\e1.get 10=.one (.mrow l 0 out.length cap)/\e1.get 14=.i (qn:Int)/\e1.get 34=.l (cs.map Chg.enc)/\e1.get 35=.i (cs.length:Int)/\e1.get 36=.i (i:Int)) ?_ ?_;simp[hn,h3,aa,ad,ac,ab,b0,ag,ah,hb,af,ae,ar];refine Zq (Eo T o.rows x.row rows a8) sI ?_;simp[hn,h3,aa,ad,ac,ab,b0,ag,ah,hb,af,ae,ar];refine⟨λ_ _ x=>x,oM,Zb.of ?_⟩;rw[a7];exact⟨_,bd.next,rfl,by simp<;>omega,by simp[hn],by simp[h3],by simp[aa],by simp[hn],by simp[ad],by simp[ac],by simp[ab]⟩;have bt:=aa;clear hn h3 aa ad ac ab;rintro e1 h1 ⟨H,ap,rfl,ak,hn,h3,aa,bk,ad,ac,ab⟩;have a1:Zl 1 ((Z8 ((out.set qn ⟨o.table,rows⟩).map WN) sp).drop (qn*2+1))=some [.d (.sl (rows.map (Z6 GV.enc)))]:=by have h9:=Vf (sp:=sp) (f:=1) (m:=1) (hall (out.set qn ⟨o.table,rows⟩)) (k:=qn) (x:=WN ⟨o.table,rows⟩) (by rw[Y8,YL ah];rfl) (by simp[WN]);simpa[Zl,WN] using h9
  simp only[YD] at a1;simp[hn,h3,aa,bk,ad,ac,ab,ah,a1];intro br;refine Zy hm ?_ ?_<;>clear hm<;>intro aj hm;obtain rfl:=Zh hm;simp at aj;simp[hn,aa,aj,ZG,Zz,ZL,ZR];exact⟨Frz.data rfl,Frz.data rfl,trivial⟩;simp at aj;have bq:¬(24<rows.length):=oM
  simp[hn,aa,bq,ab,hw];have bb:h.box (0,48)=some (s.enc.map C.d):=b0;have aq:=put H rows;exact Ze.of (out.set qn ⟨o.table,rows⟩) ⟨⟨.mrow l 0 out.length cap,by simpa only[YD] using aq,λk hk=>⟨(hl k hk).1,by have:=(hl k hk).2;have:=ap.1;simp<;>omega⟩,ak,by simp[ax];rw[ap.2 _ (by simp<;>omega) sI];exact bb,by simp[hn],by simp[h3],by simp[aa],by simp[ad],by simp[ac],by simp[hw]⟩,am _ hm⟩;obtain⟨d,hd,hm⟩:=hm.bind;simp[hn,h3,aa,ad,ac,ab,b0,ag];refine Z4.cu [0,1,2,3,4,5,6,7,8,9,10,11,12,14,15,13,16,17] (λe1 h1=>∃H,Z0 h H []/\h1=H.qA l (Z8 ((out.set qn ⟨o.table,d.1⟩).map WN) sp)/\1<=h1.ep/\e1.n=101/\e1.get 3=.p (0,48)/\e1.get 10=.one (.mrow l 0 out.length cap)/\e1.get 17=.b d.2/\e1.get 34=.l (cs.map Chg.enc)/\e1.get 35=.i (cs.length:Int)/\e1.get 36=.i (i:Int)) ?_ ?_;simp[hn,h3,aa,ad,ac,ab,b0,ag,ah,hb,af,ae,ar];refine Zq (RR T o.rows x.key d hd) sI ?_;simp[hn,h3,aa,ad,ac,ab,b0,ag,ah,hb,af,ae,ar];refine⟨λ_ _ x=>x,oM,Zb.of ?_⟩;rw[a7];exact⟨_,bd.next,rfl,by simp<;>omega,by simp[hn],by simp[h3],by simp[aa],by simp[hn],by simp[ad],by simp[ac],by simp[ab]⟩;clear hn h3 aa ad ac ab;rintro e1 h1 ⟨H,ap,rfl,ak,hn,h3,aa,bm,ad,ac,ab⟩;simp[hn,bm];refine Zy hm ?_ ?_<;>clear hm<;>intro aj hm;obtain rfl:=Zh hm;simp[hn,aj,ZG,Zz,ZL,ZR];exact⟨Frz.data rfl,Frz.data rfl,trivial⟩;simp[hn,ab,hw,aj];have bb:h.box (0,48)=some (s.enc.map C.d):=b0;have aq:=put H d.1;exact Ze.of (out.set qn ⟨o.table,d.1⟩) ⟨⟨.mrow l 0 out.length cap,by simpa only[YD] using aq,λk hk=>⟨(hl k hk).1,by have:=(hl k hk).2;have:=ap.1;simp<;>omega⟩,ak,by simp[ax];rw[ap.2 _ (by simp<;>omega) sI];exact bb,by simp[hn],by simp[h3],by simp[aa],by simp[ad],by simp[ac],by simp[hw]⟩,am _ hm⟩
 rintro out e h ⟨c,hr,hl,au,b0,hn,h3,aa,ad,ac,ab⟩ hm;obtain rfl:=Zh hm;simp[hn,aa,ac,ab,ZG,Zz,ZL,ZR];refine⟨?_,Frz.data rfl,trivial⟩;show Frz _ _ _;exact Z4w hr
theorem MJ(a):strEq a a=true:=D9.2 rfl
theorem Bc(rows)(h:rows.length<=1048576):Wp (Ve rows) λr=>r=rows:=by
 unfold Ve;refine Wp.for (λi s=>s=rows.take i) sI ?_ (λs hs=>Wp.ret (by rw[hs,Yp]));intro i x s next hx _ hI hn
 have hi:=(Y0.1 hx).1;refine Wp.bind ⟨x,rfl,rfl⟩ λy _ hy=>?_;subst hy;refine Wp.app (by rw[hI];simp;omega) (hn _ ?_);obtain⟨h8,h9⟩:=Y0.1 hx;rw[Yl h8,h9,hI]
theorem Ep(inst)(h:inst.length<=1048576)(hr:∀x∈inst,x.rows.length<=1048576):Wp (V9 inst) λr=>r=inst:=by
 unfold V9;refine Wp.for (λi s=>s=inst.take i) sI ?_ (λs hs=>Wp.ret (by rw[hs,Yp]));intro i x s next hx hm hI hn
 have hi:=(Y0.1 hx).1;refine Wp.bind (Bc x.rows (hr x hm)) λy _ hy=>?_;subst hy;refine Wp.app (by rw[hI];simp;omega) (hn _ ?_);obtain⟨h8,h9⟩:=Y0.1 hx;rw[Yl h8,h9,hI]
theorem Px{a b:GV}(h:(!(a.kind==b.kind)||(!(a.int==b.int)||!(a.text==b.text)))=false):a=b:=by obtain⟨k,n,t⟩:=a;obtain⟨k',n',t'⟩:=b;simp only[XZ,Bool.not_eq_false',beq_iff_eq] at h;obtain⟨h1,h2,h3⟩:=h;rw[h1,h2,PD h3]
theorem Oj{a b:Int}:0<WB a b↔b<a:=by
 unfold WB;split
 simp;omega
 split<;>simp[*]
theorem Z87:∀{a b:List UInt8},0<Lib.compareBytes a b->Lib.compareBytes b a<0:=by
 intro a
 induction a with
 |nil=>intro b h;cases b<;>simp[Lib.compareBytes] at h
 |cons x a ih=>?_
 intro b h;cases b with
 |nil=>simp[Lib.compareBytes]
 |cons y b=>?_
 simp only[Lib.compareBytes,UInt8.lt_iff_toNat_lt] at h|-;split at h;simp at h;split at h;rw[if_pos oM];decide;rw[if_neg oM,if_neg oM];exact ih h
theorem Z5d{a b}(h:0<WO a b):WO b a<0:=by rw[OX];unfold WO at h;by_cases h1:WB a.kind b.kind=0;have e1:=Bl.1 h1;rw[if_neg (by simp[h1])] at h;by_cases h2:WB a.int b.int=0;have e2:=Bl.1 h2;rw[if_neg (by simp[h2])] at h;exact .inr ⟨e1.symm,.inr ⟨e2.symm,Z87 h⟩⟩;rw[if_pos h2] at h;exact .inr ⟨e1.symm,.inl (Oj.1 h)⟩;rw[if_pos h1] at h;exact .inl (Oj.1 h)
theorem Z38(a):WO a a=0:=by unfold WO;rw[if_neg (by simp[WB]),if_neg (by simp[WB])];exact OZ _
theorem Oi:∀{a b:List GV},0<ZN a b->ZN b a<0:=by
 intro a
 induction a with
 |nil=>intro b h;cases b<;>simp[ZN] at h
 |cons x a ih=>?_
 intro b h;cases b with
 |nil=>simp[ZN]
 |cons y b=>?_
 simp only[ZN] at h|-;by_cases e:WO x y=0
 have:=H5 e
 subst this;rw[if_neg (by simp[e])] at h|-;exact ih h;rw[if_pos e] at h;have h2:=Z5d h;rw[if_pos oM];exact h2
theorem EX:∀{a b:List GV},ZN a b=0->a=b:=by
 intro a
 induction a with
 |nil=>intro b h;cases b with
   |nil=>rfl
   |cons y b=>simp[ZN] at h
 |cons x a ih=>?_
 intro b h;cases b with
 |nil=>simp[ZN] at h
 |cons y b=>?_
 simp only[ZN] at h;by_cases e:WO x y=0;rw[if_neg (by simp[e])] at h;rw[H5 e,ih h];rw[if_pos e] at h;exact absurd h e
structure Mid(T:Tbl)(rows:List (List GV))(k:List GV)(a b os:List (List GV)):Prop where
 eq:rows=a++(os++b)
 lo:∀x∈a,ZN (ZF T x) k<0
 hi:∀x∈b,ZN k (ZF T x)<0
 os:os=[]\/∃o,os=[o]/\ZF T o=k
theorem Bx(T rows key)(hT:T.pk.length<=6):Wp (Uj T rows key) λq=>∃i:Nat,q.1=i/\i<=rows.length/\(∀j row,j<i->rows[j]?=some row->ZN (ZF T row) key<0)/\
  (q.2=true->∃row,rows[i]?=some row/\ZN (ZF T row) key=0)/\(q.2=false->∀row,rows[i]?=some row->0<ZN (ZF T row) key):=by
 unfold Uj;refine Wp.for (λi _=>∀j row,j<i->rows[j]?=some row->ZN (ZF T row) key<0) (by intro j r h;omega) ?_ ?_
 .intro i x _ next hx _ hI hn
  refine Wp.bind (VP T x oM) λk _ hk=>?_;subst hk;refine Wp.bind (Ma _ _ (by simp[ZF];omega)) λc _ hc=>?_;subst hc;refine Wp.cond (λh=>Wp.ret ⟨i,rfl,by have:=(Y0.1 hx).1;omega,hI,λh9=>⟨x,hx,by simpa using h9⟩,λh9 row hr=>?_⟩) λh=>hn () (Ul hI hx ?_);rw[hx] at hr;cases hr;have h1:0<=ZN (ZF T x) key:=by simpa using h
  have h2:ZN (ZF T x) key≠0:=by simpa using h9
  omega
  have:¬(0<=ZN (ZF T x) key):=by simpa using h
  omega
 intro _ hI;exact Wp.ret ⟨rows.length,rfl,Y7 _,hI,λh=>by simp at h,λ_ row h=>by rw[YK (Y7 _)] at h;cases h⟩
theorem OG{α:Type}{xs:List α}{i:Nat}{p:α->Prop}(h:∀j x,j<i->xs[j]?=some x->p x):∀x∈xs.take i,p x:=by intro x hx;obtain⟨j,hj,rfl⟩:=Yz hx;simp only[YE] at hj;rw[List.getElem_take];exact h j _ oM (Y1 oM)
theorem Jq{T:Tbl}{rows k}{i:Nat}{o}(ha:Wh T rows)(aa:∀j row,j<i->rows[j]?=some row->ZN (ZF T row) k<0)(ho:rows[i]?=some o)(hk:ZN (ZF T o) k=0):Mid T rows k (rows.take i) (rows.drop (i+1)) [o]:=by
 obtain⟨h1,h2⟩:=Y0.1 ho;have e:rows.drop i=o::rows.drop (i+1):=by rw[Ys h1,h2]
 refine⟨by rw[List.singleton_append,<-e,YI],OG aa,λx hx=>?_,.inr ⟨o,rfl,EX hk⟩⟩;have hd:Wh T (o::rows.drop (i+1)):=by rw[<-e];exact List.Pairwise.sublist (List.drop_sublist _ _) ha
 have:=(Xi.1 hd).1 x hx
 rwa [EX hk] at this
theorem JX{T:Tbl}{rows k}{i:Nat}(ha:Wh T rows)(aa:∀j row,j<i->rows[j]?=some row->ZN (ZF T row) k<0)(hi:∀row,rows[i]?=some row->0<ZN (ZF T row) k):Mid T rows k (rows.take i) (rows.drop i) []:=by
 refine⟨by rw[Yn,YI],OG aa,λx hx=>?_,.inl rfl⟩;rcases YA i rows.length with h1|h1;have e:=Ys h1;have h2:=Oi (hi _ (Y1 h1));have hd:Wh T (rows.drop i):=List.Pairwise.sublist (List.drop_sublist _ _) ha;rw[e] at hx hd;rcases Y9.1 hx with rfl|h3;exact h2;exact EP h2 ((Xi.1 hd).1 x h3);rw[YQ h1] at hx;cases hx
theorem Mid.parts{T rows k a b os}(h:Mid T rows k a b os)(ha:Wh T rows):Wh T a/\Wh T b:=by rw[h.eq] at ha;have h1:=XQ.1 ha;exact⟨h1.1,(XQ.1 h1.2.1).2.1⟩
theorem Mid.put{T rows k row}{a b os:List (List GV)}(h:Mid T rows k a b os)(ha:Wh T rows)(hk:ZF T row=k):Wh T (a++row::b):=by
 obtain⟨h1,h2⟩:=h.parts ha;subst hk;refine XQ.2 ⟨h1,Xi.2 ⟨h.hi,h2⟩,λx hx y hy=>?_⟩;rcases Y9.1 hy with rfl|h3;exact h.lo x hx;exact EP (h.lo x hx) (h.hi y h3)
theorem Mid.del{T rows k a b os}(h:Mid T rows k a b os)(ha:Wh T rows):Wh T (a++b):=by
 obtain⟨h1,h2⟩:=h.parts ha;exact XQ.2 ⟨h1,h2,λx hx y hy=>EP (h.lo x hx) (h.hi y hy)⟩
theorem Z3i(T rows row)(hT:T.pk.length<=6)(hl:rows.length<=24)(ha:Wh T rows):Wp (UP T rows row) λout=>∃a b os,Mid T rows (ZF T row) a b os/\out=a++row::b:=by
 unfold UP;refine Wp.bind (Bc rows oM) λo _ ho=>?_;subst ho;refine Wp.bind (VP T row oM) λk _ hk=>?_;subst hk;refine Wp.bind (Bx T o _ hT) λq _ hq=>?_;obtain⟨i,hi,ab,aa,ht,hf⟩:=hq;rw[hi];refine Wp.cond (λh=>?_) λh=>?_;obtain⟨x,hx,hz⟩:=ht h;have hlt:=(Y0.1 hx).1;refine Wp.chk ⟨oM,oM⟩ (Wp.ret ⟨_,_,_,Jq ha aa hx hz,?_⟩);rw[Xk,Xc,if_pos hlt];refine Wp.chk ⟨oM,oM,oM⟩ (Wp.ret ⟨_,_,_,JX ha aa (hf h),?_⟩);simp
theorem Z3j(T rows key)(hT:T.pk.length<=6)(hl:rows.length<=24)(ha:Wh T rows):Wp (El T rows key) λq=>q.2=true->∃a b o,Mid T rows key a b [o]/\q.1=a++b:=by
 unfold El;refine Wp.bind (Bc rows oM) λo _ ho=>?_;subst ho;refine Wp.bind (Bx T o _ hT) λq _ hq=>?_;obtain⟨i,hi,_,aa,ht,_⟩:=hq;rw[hi];refine Wp.cond (λh=>?_) λ_=>Wp.ret λh9=>by simp at h9
 obtain⟨x,hx,hz⟩:=ht h;have hlt:=(Y0.1 hx).1;exact Wp.chk ⟨oM,oM⟩ (Wp.ret λ_=>⟨_,_,_,Jq ha aa hx hz,rfl⟩)
structure CS(S:Sch)(c:Chg)(out out':List Rel)(k:Nat)(T:Tbl)(o:Rel)(rows:List (List GV)):Prop where
 ft:ZY S c.table=some ((k:Int),true)
 t:S.tables[k]?=some T
 nm:strEq T.name c.table=true
 ok:out[k]?=some o
 eq:out'=out.set k ⟨o.table,rows⟩
 up:c.kind=1->CR T c.row/\∃a b os,Mid T o.rows (ZF T c.row) a b os/\rows=a++c.row::b
 dl:c.kind≠1->∃a b x,Mid T o.rows c.key a b [x]/\rows=a++b
 vd:CU S c=some 0
theorem CF.set{S out}{k:Nat}{T o rows}(h:CF S out)(hT:S.tables[k]?=some T)(ho:out[k]?=some o)(hl:rows.length<=24)(hr:∀row∈rows,CR T row)(ha:Wh T rows):CF S (out.set k ⟨o.table,rows⟩):=by
 have at':∀(i:Nat) (x:Rel),(out.set k ⟨o.table,rows⟩)[i]?=some x->(i=k/\x=⟨o.table,rows⟩)\/(i≠k/\out[i]?=some x):=λi x hx=>by
  rw[Xq] at hx;by_cases hk:k=i;subst hk
  have:=(Y0.1 ho).1
  simp[this] at hx;exact .inl ⟨rfl,hx.symm⟩;rw[if_neg hk] at hx;exact .inr ⟨λh=>hk h.symm,hx⟩
 refine⟨by simpa using h.len,λi x T' hx hT'=>?_,λx hx=>?_,λi x T' hx hT'=>?_,λi x T' hx hT'=>?_⟩;rcases at' i x hx with⟨rfl,rfl⟩|⟨_,h1⟩;exact h.name i o T' ho hT';exact h.name i x T' h1 hT';obtain⟨i,hi,rfl⟩:=Yz hx;rcases at' i _ (Y1 hi) with⟨_,h1⟩|⟨_,h1⟩;rw[h1];exact hl;exact h.l24 _ (Y4 h1);rcases at' i x hx with⟨rfl,rfl⟩|⟨_,h1⟩;rw[hT] at hT';cases hT';exact hr;exact h.row i x T' h1 hT';rcases at' i x hx with⟨rfl,rfl⟩|⟨_,h1⟩;rw[hT] at hT';cases hT';exact ha.asc;exact h.asc i x T' h1 hT'
theorem SA{T}(hT:VT T)(key):Wp (AK T key) λ_=>True:=by
 unfold AK;refine Wp.cond (λ_=>Wp.ret trivial) λh=>Wp.for (λ_ _=>True) trivial ?_ λ_ _=>Wp.ret trivial;intro i x _ next hx _ _ hn
 have hl:key.length=T.pk.length:=by simp at h;omega
 have hi:=(Y0.1 hx).1;have hp:T.pk[i]?=some T.pk[i]:=Y1 oM;have h1:=hT.pk _ (Y4 hp);refine Wp.bind (CV _) λ_ _ _=>Wp.cond (λ_=>Wp.ret trivial) λ_=>Wp.qG hp (Wp.get h1.1 h1.2 λ_ _ _=>Wp.cond (λ_=>Wp.ret trivial) λ_=>hn () trivial)
theorem TJ{S}(hS:VS S)(c):Wp (CU S c) λe=>e=0->∃(k:Nat) (T:Tbl),ZY S c.table=some ((k:Int),true)/\S.tables[k]?=some T/\strEq T.name c.table=true/\(c.kind=1->CR T c.row):=by
 have ft:∀(K:Tbl->Option Int),(∀T∈S.tables,Wp (K T) λe=>e=0->c.kind=1->CR T c.row)->Wp (Z1 (ZY S c.table) λv=>bif !v.2 then some 4 else Z7 S.tables v.1 λx=>K x) λe=>e=0->∃(k:Nat) (T:Tbl),ZY S c.table=some ((k:Int),true)/\S.tables[k]?=some T/\strEq T.name c.table=true/\(c.kind=1->CR T c.row):=λK hK=>by
  refine Wp.bind (VI S c.table) λv ab hv=>Wp.cr λh=>?_;have h2:v.2=true:=by simpa using h
  obtain⟨hlt,T0,aa,hn⟩:=hv.2.1 h2;refine Wp.get hv.1 hlt λT hT hTm=>(hK T hTm).mono λe _ he h0=>⟨v.1.toNat,T,?_,hT,?_,he h0⟩;rw[ab,Int.toNat_of_nonneg hv.1,<-h2];rw[aa] at hT;cases hT;exact hn
 have k1:=ft (λx=>Z1 (A9 x c.row) λv=>some v) λT _=>Wp.bind (M9 T c.row) λe _ he=>Wp.ret λh0 _=>he h0;have k2:c.kind≠1->_:=λh=>ft (λx=>Z1 (AK x c.key) λv=>some v) λT hT=>Wp.bind (SA (hS.tab T hT) c.key) λ_ _ _=>Wp.ret λ_ h1=>absurd h1 h;unfold CU;refine Wp.cond (λ_=>Wp.cr λ_=>Wp.cond (λ_=>Wp.cr λ_=>Wp.cond (λ_=>Wp.cr λ_=>k1) λ_=>k1) λ_=>Wp.cond (λ_=>Wp.cr λ_=>k1) λ_=>k1) λh=>?_;have h1:c.kind≠1:=by simpa using h
 exact Wp.cond (λ_=>Wp.cr λ_=>Wp.cond (λ_=>Wp.cr λ_=>k2 h1) λ_=>k2 h1) λ_=>Wp.cond (λ_=>Wp.cr λ_=>k2 h1) λ_=>k2 h1
theorem Z8c{ρ:Type}{Q:ρ->Prop}{S:Sch}(hS:VS S)(c:Chg)(out:List Rel)(hC:CF S out)(next)(bad)(hb:∀e,e≠0->Wp (bad e) Q)
  (hn:∀out' k T o rows,CS S c out out' k T o rows->CF S out'->Wp (next out') Q):Wp (Dx S c out next bad) Q:=by
 unfold Dx;refine Wp.bind (TJ hS c) λe ah he=>Wp.cond (λh=>hb e (by simpa using h)) λh0=>?_;obtain rfl:e=0:=by simpa using h0
 obtain⟨k,T,ad,hT,aj,af⟩:=he rfl;rw[ad];show Wp (Z7 S.tables (k:Int) _) _;have hk:=(Y0.1 hT).1;have al:=hC.len;have ho:out[k]?=some out[k]:=Y1 oM;generalize out[k]=o at ho;have ae:=hS.tab T (Y4 hT);have ag:=hC.l24 o (Y4 ho);have aa:=(hC.asc k o T ho hT).pw;have ab:=hC.row k o T ho hT;refine Wp.qG hT (Wp.qG ho (Wp.cond (λh1=>?_) λh1=>?_));have ac:c.kind=1:=by simpa using h1
 refine Wp.bind (Z3i T o.rows c.row ae.pk6 ag aa) λrows _ hr=>Wp.cond (λ_=>hb 2 dE) λh2=>?_;obtain⟨a,b,os,hm,rfl⟩:=hr;refine hn _ k T o _ ⟨ad,hT,aj,ho,rfl,λ_=>⟨af ac,a,b,os,hm,rfl⟩,λh=>absurd ac h,ah⟩ (hC.set hT ho (by simp at h2;simp;omega) (λrow hr=>?_) (hm.put aa rfl));rcases Y2.1 hr with h3|h3;exact ab row (by rw[hm.eq];simp[h3]);rcases Y9.1 h3 with rfl|h4;exact af ac;exact ab row (by rw[hm.eq];simp[h4]);have ac:c.kind≠1:=by simpa using h1
 refine Wp.bind (Z3j T o.rows c.key ae.pk6 ag aa) λd _ hd=>Wp.cond (λ_=>hb 9 dE) λh2=>?_;obtain⟨a,b,x,hm,hq⟩:=hd (by simpa using h2);have ak:(a++b).length<=24:=by
  have:=congrArg List.length hm.eq
  simp at this;simp;omega
 refine hn _ k T o _ ⟨ad,hT,aj,ho,rfl,λh=>absurd h ac,λ_=>⟨a,b,x,hm,hq⟩,ah⟩ (hC.set hT ho (by rw[hq];exact ak) (λrow hr=>?_) (by rw[hq];exact hm.del aa));rw[hq] at hr;rcases Y2.1 hr with h3|h3;exact ab row (by rw[hm.eq];simp[h3]);exact ab row (by rw[hm.eq];simp[h3])
inductive Runs(S:Sch)(o:List Rel):List Chg->List Rel->Prop
 |nil:Runs S o [] o
 |snoc {cs:List Chg} {o' o'':List Rel} {c:Chg} {k:Nat} {T:Tbl} {x:Rel} {rows:List (List GV)} (h:Runs S o cs o') (s:CS S c o' o'' k T x rows):Runs S o (cs++[c]) o''
theorem TK{S:Sch}(hS:VS S)(inst)(cs):Wp (Ev S inst cs) λq=>q.2=0->CF S inst/\VH S inst=some 0/\CF S q.1/\Runs S inst cs q.1:=by
 unfold Ev;rw[hS.ok];show Wp (Z1 (VH S inst) _) _;refine Wp.bind (D3 S (λT hT=>(hS.tab T hT).pk6) inst) λe ac he=>Wp.cond (λh=>Wp.ret λh0=>by simp only at h0;rw[h0] at h;cases h) λh0=>?_;obtain rfl:e=0:=by simpa using h0
 have hC:=he rfl;have hl:=hC.len;have h6:=hS.t6;refine Wp.cr λ_=>Wp.bind (Ep inst oM λx hx=>by have:=hC.l24 x hx;omega) λo _ ho=>?_;subst ho;refine Wp.for (λi out=>CF S out/\Runs S o (cs.take i) out) ⟨hC,by simpa using Runs.nil⟩ ?_ λout hI=>Wp.ret λ_=>⟨hC,ac,hI.1,by simpa using hI.2⟩;rintro i c out next hc _ ⟨h1,h2⟩ hn
 refine Z8c hS c out h1 _ _ (λe he=>Wp.ret λh=>absurd h he) λaa k T x rows hcs ab=>hn aa ⟨ab,?_⟩;obtain⟨h8,h9⟩:=Y0.1 hc;rw[Yl h8,h9];exact .snoc h2 hcs
end
end Go.Am
section
namespace Go.Am
section
variable{α β:Type}
def WH(κ:α->List GV)(rows:List α):Prop:=rows.Pairwise λa b=>ZN (κ a) (κ b)<0
theorem H6(a:List GV):ZN a a=0:=by
 have h1:¬ZN a a<0:=λh=>by
  induction a with
  |nil=>simp[ZN] at h
  |cons x xs ih=>?_
  simp only[ZN,Z38] at h;exact ih (by simpa using h)
 have h2:¬0<ZN a a:=λh=>h1 (Oi h);omega
theorem F9{a:List GV}:¬ZN a a<0:=by rw[H6];omega
theorem WH.ext{κ:α->List GV}:∀{a b:List α},WH κ a->WH κ b->(∀x,x∈a↔x∈b)->a=b
 |[],[],_,_,_=>rfl
 |[],y::_,_,_,h=>absurd ((h y).2 (Y6 ..)) (by simp)
 |x::_,[],_,_,h=>absurd ((h x).1 (Y6 ..)) (by simp)
 |x::xs,y::ys,ha,hb,h=>by
   have aa:=Xi.1 ha;have hb':=Xi.1 hb;have ab:x=y:=by rcases Y9.1 ((h x).1 (Y6 ..)) with e|e;exact e;rcases Y9.1 ((h y).2 (Y6 ..)) with e2|e2;exact e2.symm;exact absurd (EP (aa.1 y e2) (hb'.1 x e)) F9
   subst ab;rw[WH.ext aa.2 hb'.2 λz=>⟨λhz=>?_,λhz=>?_⟩];rcases Y9.1 ((h z).1 (Yc _ hz)) with e|e;subst e;exact absurd (aa.1 z hz) F9;exact e;rcases Y9.1 ((h z).2 (Yc _ hz)) with e|e;subst e;exact absurd (hb'.1 z hz) F9;exact e
theorem WH.inj{κ:α->List GV}:∀{rows:List α},WH κ rows->∀{a b:α},a∈rows->b∈rows->κ a=κ b->a=b
 |[],_,_,_,h,_,_=>absurd h (by simp)
 |x::xs,ha,a,b,h1,h2,he=>by have aa:=Xi.1 ha;rcases Y9.1 h1 with e1|e1<;>rcases Y9.1 h2 with e2|e2;rw[e1,e2];subst e1;exact absurd (aa.1 b e2) (by rw[he];exact F9);subst e2;exact absurd (aa.1 a e1) (by rw[he];exact F9);exact WH.inj aa.2 e1 e2 he
theorem WH.map{κ:α->List GV}{κ':β->List GV}{f:α->β}{rows:List α}(ha:WH κ rows)(hk:∀r∈rows,κ' (f r)=κ r):WH κ' (rows.map f):=by
 unfold WH;rw[List.pairwise_map];exact ha.imp_of_mem λh1 h2 h=>by rw[hk _ h1,hk _ h2];exact h
theorem WH.filterMap{κ:α->List GV}{κ':β->List GV}{f:α->Option β}{rows:List α}(ha:WH κ rows)(hk:∀r∈rows,∀x,f r=some x->κ' x=κ r):WH κ' (rows.filterMap f):=by
 induction rows with
 |nil=>exact List.Pairwise.nil
 |cons r rs ih=>?_
 have aa:=Xi.1 ha;have h1:=ih aa.2 λr hr=>hk r (Yc _ hr);rw[List.filterMap_cons];cases hf:f r with
 |none=>exact h1
 |some x=>?_
 refine Xi.2 ⟨λy hy=>?_,h1⟩;obtain⟨z,hz,ab⟩:=List.mem_filterMap.1 hy;rw[hk r (Y6 ..) x hf,hk z (Yc _ hz) y ab];exact aa.1 z hz
theorem WH.filter{κ:α->List GV}{p:α->Bool}{rows:List α}(ha:WH κ rows):WH κ (rows.filter p):=List.Pairwise.filter p ha
def VR(κ:α->List GV)(rows:List α)(k:List GV):Option α:=rows.find? λr=>ZN (κ r) k==0
theorem Hd{κ:α->List GV}{rows:List α}{k:List GV}{r:α}(h:VR κ rows k=some r):r∈rows/\κ r=k:=
 ⟨List.mem_of_find?_eq_some h,EX (by have:=List.find?_some h;simpa using this)⟩
theorem Nr{κ:α->List GV}{rows:List α}{k:List GV}:VR κ rows k=none↔∀r∈rows,κ r≠k:=by
 unfold VR;rw[List.find?_eq_none];exact⟨λh r hr e=>h r hr (by rw[e,H6];rfl),λh r hr e=>h r hr (EX (by simpa using e))⟩
theorem Z2x{κ:α->List GV}{rows:List α}(ha:WH κ rows){r:α}(hr:r∈rows):VR κ rows (κ r)=some r:=by
 cases h:VR κ rows (κ r) with
 |none=>exact absurd rfl (Nr.1 h r hr)
 |some x=>rw[ha.inj (Hd h).1 hr (Hd h).2]
end
end Go.Am
end
section
namespace Go.Am
section
abbrev ZC:=List GV
structure ColL(κ κ' κc:ZC->List GV)(F G:Option ZC->ZC->ZC×Option ZC)(V V' VC:ZC->Prop)(R:ZC->Option ZC->ZC->Prop):Prop where
 fok:∀r o,V r->(∀e,o=some e->VC e/\κc e=κ r)->R r (F o r).2 (F o r).1
 gok:∀r o,V' r->(∀e,o=some e->VC e/\κc e=κ' r)->R (G o r).1 (G o r).2 r
 fR:∀{r c r'},R r c r'->F c r=(r',c)
 gR:∀{r c r'},R r c r'->G c r'=(r,c)
 key:∀{r c r'},R r c r'->κ' r'=κ r/\∀e,c=some e->κc e=κ r
 val:∀{r c r'},R r c r'->V r/\V' r'/\∀e,c=some e->VC e
def PL(F:Option ZC->ZC->ZC×Option ZC)(κ κc:ZC->List GV)(rows comp:List ZC):List ZC×List ZC:=
 (rows.map λr=>(F (VR κc comp (κ r)) r).1,rows.filterMap λr=>(F (VR κc comp (κ r)) r).2)
def FL(R:ZC->Option ZC->ZC->Prop)(κ:ZC->List GV)(rows comp rows':List ZC):Prop:=
 ∃ts:List (ZC×Option ZC×ZC),(∀t∈ts,R t.1 t.2.1 t.2.2)/\WH (λt=>κ t.1) ts/\rows=ts.map (·.1)/\comp=ts.filterMap (·.2.1)/\rows'=ts.map (·.2.2)
variable{κ κ' κc:ZC->List GV}{F G:Option ZC->ZC->ZC×Option ZC}{V V' VC:ZC->Prop}{R:ZC->Option ZC->ZC->Prop}{rows comp rows':List ZC}
theorem ColL.symm(h:ColL κ κ' κc F G V V' VC R):ColL κ' κ κc G F V' V VC (λa c b=>R b c a) where
 fok:=h.gok
 gok:=h.fok
 fR:=h.gR
 gR:=h.fR
 key:=λhr=>⟨(h.key hr).1.symm,λe he=>by rw[(h.key hr).1];exact(h.key hr).2 e he⟩
 val:=λhr=>⟨(h.val hr).2.1,(h.val hr).1,(h.val hr).2.2⟩
theorem FL.symm(h:ColL κ κ' κc F G V V' VC R)(hc:FL R κ rows comp rows'):FL (λa c b=>R b c a) κ' rows' comp rows:=by
 obtain⟨ts,h1,h2,rfl,rfl,rfl⟩:=hc;refine⟨ts.map λt=>(t.2.2,t.2.1,t.1),λt ht=>?_,?_,?_,?_,?_⟩;obtain⟨u,hu,rfl⟩:=Yi.1 ht;exact h1 u hu;exact WH.map h2 λt ht=>(h.key (h1 t ht)).1;rw[Xe];rfl;rw[List.filterMap_map];rfl;rw[Xe];rfl
theorem FL.right(h:ColL κ κ' κc F G V V' VC R)(hc:FL R κ rows comp rows'):WH κ' rows'/\(∀r∈rows',V' r)/\rows'.length=rows.length/\WH κc comp/\(∀e∈comp,VC e)/\comp.length<=rows.length:=by
 obtain⟨ts,h1,h2,rfl,rfl,rfl⟩:=hc;refine⟨WH.map h2 λt ht=>(h.key (h1 t ht)).1,λr hr=>?_,sI,WH.filterMap h2 λt ht e he=>(h.key (h1 t ht)).2 e he,λe he=>?_,?_⟩;obtain⟨t,ht,rfl⟩:=Yi.1 hr;exact(h.val (h1 t ht)).2.1;obtain⟨t,ht,aa⟩:=List.mem_filterMap.1 he;exact(h.val (h1 t ht)).2.2 e aa;rw[Yh];exact List.length_filterMap_le _ _
end
end Go.Am
end
namespace Go.Am
section
def Wt(M:Mp)(co cn:C):List C:=M.enc.map C.d++[co,cn,.d (.int .i64 M.err)]
theorem MR.lenK{h:HS}{n:Nat}{c:C}{xs:List (List C)}{f:Nat->Prop}(m:MR h n c xs)(hk:f xs.length):lenK c (k:=⟨f⟩):=by rcases m.2.2 with⟨rfl,rfl|rfl⟩|⟨l,cap,sp,rfl,-⟩;simpa using hk;simpa using hk;simpa using hk
def Vp(h:HS)(c:C)(rs:List Rel):Prop:=∃xs:List (List C),MR h 2 c xs/\xs.map Zt=rs.map λr=>some r.enc
structure MpAt(h:HS)(l:Z2)(co cn:C)(M:Mp):Prop where
 box:h.box l=some (Wt M co cn)
 out:Vp h co M.out
 nc:Vp h cn M.nc
 lt:∀k∈l::(labs co++labs cn),k.1<h.ep
 nl:l∉labs co/\l∉labs cn/\∀k∈labs co,k∉labs cn
theorem Vp.len{h:HS}{c:C}{rs:List Rel}(r:Vp h c rs):∃xs:List (List C),MR h 2 c xs/\(xs.map Zt=rs.map λr=>some r.enc)/\xs.length=rs.length/\∀(i:Nat) r,rs[i]?=some r->∃c',xs[i]?=some [.d (.str r.table),c']/\c'.toD=some (.sl (r.rows.map (Z6 GV.enc))):=by
 obtain⟨xs,m,he⟩:=r;refine⟨xs,m,he,by have:=congrArg List.length he;simpa using this,λi r hr=>?_⟩;have h1:=congrArg (λz=>z[i]?) he;simp only[Y8,hr,Yj] at h1;cases hx:xs[i]? with
 |none=>rw[hx] at h1;cases h1
 |some x=>?_
 rw[hx] at h1;have h2:Zt x=some r.enc:=Option.some.inj h1;have hl:x.length=2:=m.1 x (Y4 hx)
 match x,hl with
 |[a,b],_=>
   simp only[Zt,Rel.enc] at h2;cases ha:a.toD with
   |none=>rw[ha] at h2;cases h2
   |some a'=>
     cases hb:b.toD with
     |none=>rw[ha,hb] at h2;cases h2
     |some b'=>
       rw[ha,hb] at h2;simp at h2;refine⟨b,?_,by rw[hb,h2.2]⟩
       have:a=.d (.str r.table):=by
        obtain⟨rfl,rfl⟩:=h2;cases a with
        |d x=>simp[C.toD] at ha;rw[ha]
        |_=>simp[C.toD] at ha
       rw[this]
theorem Vp.frame{h h':HS}{c:C}{rs:List Rel}(r:Vp h c rs)(hb:∀l∈labs c,h'.box l=h.box l):Vp h' c rs:=by obtain⟨xs,m,he⟩:=r;exact⟨xs,m.frame hb,he⟩
theorem Vp.frz{h:HS}{c:C}{rs:List Rel}(r:Vp h c rs):Frz h c (.sl (rs.map Rel.enc)):=by
 obtain⟨xs,m,-,hl,he⟩:=r.len;refine m.frz (by simp[hl]) (λt ht=>by obtain⟨y,_,rfl⟩:=Yi.1 ht;rfl) λi x t hx ht=>?_;rw[Y8] at ht;cases hq:rs[i]? with
 |none=>rw[hq] at ht;cases ht
 |some q=>?_
 rw[hq] at ht;cases ht;obtain⟨c',h1,h2⟩:=he i q hq;rw[hx] at h1;cases h1;exact⟨.data rfl,.data h2,trivial⟩
theorem MpAt.frame{h h':HS}{l:Z2}{co cn:C}{M:Mp}(m:MpAt h l co cn M)(hs:Z0 h h' []):MpAt h' l co cn M:=
 ⟨by rw[hs.2 l (m.lt l sI) sI];exact m.box,m.out.frame λk hk=>hs.2 k (m.lt k (by simp[hk])) sI,m.nc.frame λk hk=>hs.2 k (m.lt k (by simp[hk])) sI,
  λk hk=>Y3 (m.lt k hk) hs.1,m.nl⟩
def ZI(t:ByteArray)(rows:List (List GV))(out:List Rel):List Rel:=out.map λr=>bif strEq r.table t then⟨r.table,rows⟩ else r
theorem WE{t:ByteArray}{rows:List (List GV)}{out:List Rel}:(ZI t rows out).length=out.length:=by simp[ZI]
theorem Z2p{t:ByteArray}{rows:List (List GV)}{out:List Rel}{i:Nat}(hi:i<out.length):
  (ZI t rows (out.take i)++out.drop i)[i]?=some out[i]/\ZI t rows (out.take (i+1))++out.drop (i+1)=bif strEq out[i].table t then(ZI t rows (out.take i)++out.drop i).set i ⟨out[i].table,rows⟩ else ZI t rows (out.take i)++out.drop i:=by
 have h1:(ZI t rows (out.take i)).length=i:=by rw[WE,YE];omega
 have h2:out.take (i+1)=out.take i++[out[i]]:=by rw[List.take_add_one];simp[hi]
 have h3:out.drop i=out[i]::out.drop (i+1):=Ys hi;refine⟨by rw[YM oM,h1,h3];simp,?_⟩;rw[h2];have h4:ZI t rows (out.take i++[out[i]])=ZI t rows (out.take i)++[bif strEq out[i].table t then⟨out[i].table,rows⟩ else out[i]]:=by simp only[ZI,YP,Yb,Yd]
 rw[h4,h3];cases strEq out[i].table t with
 |true=>simp only[cond_true];rw[List.set_append_right _ _ oM,h1,Nat.sub_self,List.set_cons_zero,Yy];rfl
 |false=>simp
theorem Hk{lo}{n cap i:Nat}{xs sp}{rs:List Rel}{r:Rel}{c' cr rows}(hall:Zr 2 xs)(hlen:xs.length=n)(hlim:xs.length<=Zs)(hcap:(Z8 xs sp).length=cap*2)
  (hx:xs[i]?=some [.d (.str r.table),c'])(hr:cr.toD=some (.sl (rows.map (Z6 GV.enc))))(he:xs.map Zt=rs.map λr=>some r.enc)(H:HS):
  Vp (H.qA lo (Zg (Z8 xs sp) (i*2+1) [cr])) (.mrow lo 0 n cap) (rs.set i ⟨r.table,rows⟩):=by
 have hs:Zg (Z8 xs sp) (i*2+1) [cr]=Z8 (xs.set i [.d (.str r.table),cr]) sp:=by rw[Ar hall hx sI];simp[Zg]
 rw[hs];refine⟨xs.set i [.d (.str r.table),cr],⟨hall.set sI,by simpa using hlim,.inr ⟨lo,cap,sp,by simp[hlen],sI,?_⟩⟩,?_⟩;rw[WL (hall.set sI),YT,<-hcap,WL hall];rw[YD,YD,he];have e1:Zt [.d (.str r.table),cr]=some [.str r.table,.sl (rows.map (Z6 GV.enc))]:=by simp only[Zt,hr];rfl
 rw[e1];simp[Rel.enc]
theorem Ny{ρ:Type}{t rows}{k:List Rel->Option ρ}{out}:
  Zc (λi x s next=>bif strEq x.table t then next (s.set i ⟨x.table,rows⟩) else next s) k out 0 out=k (ZI t rows out):=by
 have key:∀m i,out.length-i=m->i<=out.length->Zc (λi x s next=>bif strEq x.table t then next (s.set i ⟨x.table,rows⟩) else next s) k (out.drop i) i (ZI t rows (out.take i)++out.drop i)=k (ZI t rows out):=by
  intro m
  induction m with|zero=>?_|succ m ih=>?_
  intro i hm hi;obtain rfl:i=out.length:=oM;simp[Zc];intro i hm hi;have hlt:i<out.length:=oM
  have h3:=Ys hlt;have h4:=ih (i+1) oM oM;rw[(Z2p hlt).2] at h4;generalize ZI t rows (out.take i)++out.drop i=s at h4|-;rw[h3];simp only[Zc];cases hb:strEq out[i].table t with
  |true=>rw[hb] at h4;exact h4
  |false=>rw[hb] at h4;exact h4
 have:=key out.length 0 oM oM
 simpa[ZI] using this
theorem IJ(h:HS)(l:Z2)(co cn cr:C)(M)(t)(rows:List (List GV))(m:MpAt h l co cn M)(hr:cr.toD=some (.sl (rows.map (Z6 GV.enc))))(K:V->HS->Prop)
  (hk:∀h',MpAt h' l co cn {M with out:=ZI t rows M.out}->Z0 h h' (labs co)->K (.tup []) h'):Z3 prog 222 [.p l,.s t,.one cr] h K:=by
 refine Z3.qN Tryz.func222 rfl kR rfl rfl sI ?_;have hb:=m.box;simp only[Wt,Mp.enc,Stp.enc,Yb,Yd,Yk,Yn] at hb;obtain⟨xs,mx,-,hlen,_⟩:=m.out.len;simp[hb];refine MR.lenK mx ?_;simp;have hm:Is (Zc (λ(i:Nat) (x:Rel) (s:List Rel) next=>bif strEq x.table t then next (s.set i ⟨x.table,rows⟩) else next s) (λs=>some s) M.out 0 M.out) (ZI t rows M.out):=Ny;refine Z4.for (λi s e h'=>En e 34 [(0,.p l),(1,.s t),(2,.one cr),(11,.i M.out.length),(12,.i i)]/\
  MpAt h' l co cn {M with out:=s}/\Z0 h h' (labs co)/\s.length=M.out.length/\∀j,i<=j->s[j]?=M.out[j]?) hm ⟨by simp[hlen],m,.refl,rfl,λ_ _=>rfl⟩ ?_ ?_
 rintro i s e h1 ⟨hE,m1,hs,ab,hj⟩ hlt hm;have hw:IntKind.i64.wrap ((i:Int)+1)=(i:Int)+1:=Y5 _ (by have:=mx.2.1;simp at this;omega);have ac:=m1.box;simp only[Wt,Mp.enc,Stp.enc,Yb,Yd,Yk,Yn] at ac;obtain⟨ys,my,he',hyl,aj⟩:=m1.out.len;have af:s[i]?=some M.out[i]:=by rw[hj i (Y7 _)];exact Y1 hlt
 obtain⟨c',hx,_⟩:=aj i _ af;have aa:=(Y0.1 hx).1;obtain⟨lo,cap,sp,rfl,ad,hcap⟩:=my.block oM;have ag:Zl 1 ((Z8 ys sp).drop (i*2))=some [.d (.str M.out[i].table)]:=by have h9:=Vf (sp:=sp) (f:=0) (m:=1) my.1 hx sI;simpa[Zl] using h9
 have ak:=Up (sp:=sp) my.1 aa;simp[hE,hlt,ac,aa,ad,ag];refine Zy hm ?_ ?_<;>clear hm<;>intro _ hm;have hne:=m1.nl.1;simp[labs] at hne;have ah:i*2+1+1<=(Z8 ys sp).length:=oM
 simp[hE,ac,aa,ad,hw,ah];refine Ze.of (s.set i ⟨M.out[i].table,rows⟩) ⟨⟨by simp[hE],⟨?_,?_,?_,?_,m1.nl⟩,?_,by simpa using ab,?_⟩,hm⟩;simp[hne];exact m1.box;exact Hk my.1 rfl my.2.1 hcap hx hr he' _;exact m1.nc.frame λk ae=>by
  have:=m1.nl.2.2 lo (by simp[labs])
  have:k≠lo:=by rintro rfl;exact this ae
  simp[this]
 intro k hk;simpa using m1.lt k hk;exact hs.trans (Z0.refl.qA (.inl (by simp[labs])));intro j hij;rw[YS oM];exact hj j oM;simp[hE,hw];exact Ze.of s ⟨⟨by simp[hE],m1,hs,ab,λj hij=>hj j oM⟩,hm⟩;rintro s e h1 ⟨hE,m1,hs,ab,hj⟩ hm;obtain rfl:=Zh hm;simp[hE];exact hk _ m1 hs
theorem Iz(h:HS)(l:Z2)(co cn cr:C)(M)(t)(rows:List (List GV))(m:MpAt h l co cn M)(hr:cr.toD=some (.sl (rows.map (Z6 GV.enc))))(K:V->HS->Prop)
  (hk:∀h',MpAt h' l co cn {M with nc:=ZI t rows M.nc}->Z0 h h' (labs cn)->K (.tup []) h'):Z3 prog 223 [.p l,.s t,.one cr] h K:=by
 refine Z3.qN Tryz.func223 rfl kR rfl rfl sI ?_;have hb:=m.box;simp only[Wt,Mp.enc,Stp.enc,Yb,Yd,Yk,Yn] at hb;obtain⟨xs,mx,-,hlen,_⟩:=m.nc.len;simp[hb];refine MR.lenK mx ?_;simp;have hm:Is (Zc (λ(i:Nat) (x:Rel) (s:List Rel) next=>bif strEq x.table t then next (s.set i ⟨x.table,rows⟩) else next s) (λs=>some s) M.nc 0 M.nc) (ZI t rows M.nc):=Ny;refine Z4.for (λi s e h'=>En e 34 [(0,.p l),(1,.s t),(2,.one cr),(11,.i M.nc.length),(12,.i i)]/\
  MpAt h' l co cn {M with nc:=s}/\Z0 h h' (labs cn)/\s.length=M.nc.length/\∀j,i<=j->s[j]?=M.nc[j]?) hm ⟨by simp[hlen],m,.refl,rfl,λ_ _=>rfl⟩ ?_ ?_
 rintro i s e h1 ⟨hE,m1,hs,ab,hj⟩ hlt hm;have hw:IntKind.i64.wrap ((i:Int)+1)=(i:Int)+1:=Y5 _ (by have:=mx.2.1;simp at this;omega);have ac:=m1.box;simp only[Wt,Mp.enc,Stp.enc,Yb,Yd,Yk,Yn] at ac;obtain⟨ys,my,he',hyl,aj⟩:=m1.nc.len;have af:s[i]?=some M.nc[i]:=by rw[hj i (Y7 _)];exact Y1 hlt
 obtain⟨c',hx,_⟩:=aj i _ af;have aa:=(Y0.1 hx).1;obtain⟨lo,cap,sp,rfl,ad,hcap⟩:=my.block oM;have ag:Zl 1 ((Z8 ys sp).drop (i*2))=some [.d (.str M.nc[i].table)]:=by have h9:=Vf (sp:=sp) (f:=0) (m:=1) my.1 hx sI;simpa[Zl] using h9
 have ak:=Up (sp:=sp) my.1 aa;simp[hE,hlt,ac,aa,ad,ag];refine Zy hm ?_ ?_<;>clear hm<;>intro _ hm;have hne:=m1.nl.2.1;simp[labs] at hne;have ah:i*2+1+1<=(Z8 ys sp).length:=oM
 simp[hE,ac,aa,ad,hw,ah];refine Ze.of (s.set i ⟨M.nc[i].table,rows⟩) ⟨⟨by simp[hE],⟨?_,?_,?_,?_,m1.nl⟩,?_,by simpa using ab,?_⟩,hm⟩;simp[hne];exact m1.box;exact m1.out.frame λk ae=>by
  have:=m1.nl.2.2 k ae
  have:k≠lo:=by rintro rfl;exact this (by simp[labs])
  simp[this]
 exact Hk my.1 rfl my.2.1 hcap hx hr he' _;intro k hk;simpa using m1.lt k hk;exact hs.trans (Z0.refl.qA (.inl (by simp[labs])));intro j hij;rw[YS oM];exact hj j oM;simp[hE,hw];exact Ze.of s ⟨⟨by simp[hE],m1,hs,ab,λj hij=>hj j oM⟩,hm⟩;rintro s e h1 ⟨hE,m1,hs,ab,hj⟩ hm;obtain rfl:=Zh hm;simp[hE];exact hk _ m1 hs
theorem Z88{a b:ByteArray}(h:a.toList=b.toList):a=b:=by
 have e:∀x:ByteArray,x.toList=x.data.toList:=λx=>Go.ByteArray.toList_eq x;rw[e,e] at h;cases a;cases b
 congr 1
 exact Array.toList_inj.1 h
theorem Wf{a b:ByteArray}:strEq a b=true↔a=b:=⟨λh=>Z88 (D9.1 h),by rintro rfl;exact D9.2 rfl⟩
abbrev RN:=ByteArray->List (List GV)
def mkI(S:Sch)(ρ:RN):List Rel:=S.tables.map λT=>⟨T.name,ρ T.name⟩
def By(inst:List Rel):RN:=λn=>match inst.find? λx=>strEq x.table n with
 |some x=>x.rows
 |none=>[]
def KL(S:Sch)(n:ByteArray):Option Tbl:=S.tables.find? λT=>strEq T.name n
theorem Z2i{S:Sch}{n:ByteArray}{T:Tbl}(h:KL S n=some T):T∈S.tables/\T.name=n:=
 ⟨List.mem_of_find?_eq_some h,Wf.1 (by have:=List.find?_some h;simpa using this)⟩
theorem Bm{S:Sch}(hA:WT S.tables){T:Tbl}(h:T∈S.tables):KL S T.name=some T:=by
 cases e:KL S T.name with
 |none=>exact absurd (Wf.2 rfl) (by have:=List.find?_eq_none.1 e T h;simpa using this)
 |some U=>?_
 obtain⟨h1,h2⟩:=Z2i e;obtain⟨i,hi,rfl⟩:=Yz h;obtain⟨j,hj,rfl⟩:=Yz h1;obtain rfl:=hA.uniq j i _ _ (Y1 hj) (Y1 hi) (Wf.2 h2);rfl
structure RO(T:Tbl)(rows:List (List GV)):Prop where
 l24:rows.length<=24
 row:∀r∈rows,CR T r
 asc:WH (ZF T) rows
def RI(S:Sch)(ρ:RN):Prop:=∀T∈S.tables,RO T (ρ T.name)
theorem CF.mkI{S:Sch}{inst:List Rel}(h:CF S inst)(hA:WT S.tables):inst=mkI S (By inst)/\RI S (By inst):=by
 have af:inst.map Rel.table=S.tables.map Tbl.name:=by
  refine Xy λi=>?_;rw[Y8,Y8];by_cases hi:i<S.tables.length;have aa:i<inst.length:=by rw[h.len];exact hi
  have:=Wf.1 (h.name i _ _ (Y1 aa) (Y1 hi))
  rw[Y1 hi,Y1 aa,Yj,Yj,this];rw[YK (by rw[h.len];omega),YK oM];rfl
 have key:∀(i:Nat) (x:Rel) (T:Tbl),inst[i]?=some x->S.tables[i]?=some T->By inst T.name=x.rows:=λi x T hx hT=>by
  have he:=Wf.1 (h.name i x T hx hT);unfold By;cases e:inst.find? (λx=>strEq x.table T.name) with
  |none=>exact absurd (List.find?_eq_none.1 e x (Y4 hx)) (by simp[Wf.2 he])
  |some y=>?_
  have hy:=List.mem_of_find?_eq_some e;have ae:=List.find?_some e;obtain⟨j,hj,rfl⟩:=Yz hy;have ad:j<S.tables.length:=by rw[<-h.len];exact hj
  have ac:S.tables[j]?=some S.tables[j]:=Y1 ad;have h3:=Wf.1 (h.name j _ _ (Y1 hj) ac);obtain rfl:=hA.uniq j i _ _ ac hT (Wf.2 (by rw[<-h3];exact Wf.1 (by simpa using ae)));rw[Y1 hj] at hx;cases hx;rfl
 refine⟨Xy λi=>?_,λT hT=>?_⟩;simp only[Go.Am.mkI,Y8];by_cases hi:i<S.tables.length;have aa:i<inst.length:=by rw[h.len];exact hi
 have hx:=Y1 aa;have hT:=Y1 hi
 have:=Wf.1 (h.name i _ _ hx hT)
 rw[hx,hT,Yj,key i _ _ hx hT,<-this];rw[YK (by rw[h.len];omega),YK oM];rfl;obtain⟨i,hi,rfl⟩:=Yz hT;have aa:i<inst.length:=by rw[h.len];exact hi
 have hx:inst[i]?=some inst[i]:=Y1 aa;have ab:=Y1 hi;rw[key i _ _ hx ab];exact⟨h.l24 _ (Y4 hx),h.row i _ _ hx ab,(h.asc i _ _ hx ab).pw⟩
theorem Z53{ts:List Tbl}(hA:WT ts){i:Nat}{T T':Tbl}(hT:ts[i]?=some T)(U:Tbl):U∈ts.set i T'↔U=T'\/(U∈ts/\U.name≠T.name):=by
 have hi:=(Y0.1 hT).1;constructor;intro h;obtain⟨j,hj⟩:=X7.1 h;by_cases e:i=j;subst e;rw[YL hi] at hj;cases hj;exact .inl rfl;rw[YS e] at hj;exact .inr ⟨Y4 hj,λhn=>e (WT.uniq (S:=⟨ts,[],[]⟩) hA i j T U hT hj (Wf.2 hn.symm))⟩;rintro(rfl|⟨h,hn⟩);exact X7.2 ⟨i,YL hi⟩;obtain⟨j,hj⟩:=X7.1 h;refine X7.2 ⟨j,?_⟩;rw[YS,hj];rintro rfl;rw[hT] at hj;cases hj;exact hn rfl
theorem Z54{ts:List Tbl}(hA:WT ts){i:Nat}{T:Tbl}(hT:ts[i]?=some T)(U:Tbl):U∈ts.take i++ts.drop (i+1)↔U∈ts/\U.name≠T.name:=by
 have hi:=(Y0.1 hT).1;constructor;intro h;rcases Y2.1 h with h|h;obtain⟨j,hj⟩:=X7.1 h;have aa:=(Y0.1 hj).1;simp only[YE] at aa;rw[XE oM] at hj;exact⟨Y4 hj,λhn=>by have:=WT.uniq (S:=⟨ts,[],[]⟩) hA i j T U hT hj (Wf.2 hn.symm);omega⟩;obtain⟨j,hj⟩:=X7.1 h;rw[YJ] at hj;exact⟨Y4 hj,λhn=>by have:=WT.uniq (S:=⟨ts,[],[]⟩) hA i _ T U hT hj (Wf.2 hn.symm);omega⟩;rintro⟨h,hn⟩;obtain⟨j,hj⟩:=X7.1 h;rcases Nat.lt_trichotomy j i with h1|h1|h1;exact Xn _ (X7.2 ⟨j,by rw[XE h1];exact hj⟩);subst h1;rw[hT] at hj;cases hj;exact absurd rfl hn;exact X6 _ (X7.2 ⟨j-(i+1),by rw[YJ,show i+1+(j-(i+1))=j by omega];exact hj⟩)
theorem Fg{n:Nat}{ts:List Tbl}{T:Tbl}(U:Tbl):U∈WG UI n 1 (ts++[T])↔U=T\/U∈ts:=by rw[(IX UI n 1 (ts++[T])).mem_iff,Y2,Yu];exact Or.comm
def PW(S:Sch)(ts:List Tbl)(aa:List ByteArray)(news:List Tbl):Prop:=∀U,U∈ts↔U∈news\/(U∈S.tables/\U.name∉aa)
theorem PW.set{S:Sch}(hA:WT S.tables){i:Nat}{T T':Tbl}{n:ByteArray}(hT:S.tables[i]?=some T)(hn:strEq T.name n=true):PW S (S.tables.set i T') [n] [T']:=λU=>by rw[Z53 hA hT,<-Wf.1 hn];simp
theorem Z2o{ts:List Tbl}(hA:WT ts){i:Nat}{T T':Tbl}(hT:ts[i]?=some T)(hn:T'.name=T.name):WT (ts.set i T'):=by
 have e:(ts.set i T').map Tbl.name=ts.map Tbl.name:=by rw[YD,hn];exact F3 (by rw[Y8,hT];rfl)
 have h1:∀us:List Tbl,WT us↔(us.map Tbl.name).Pairwise λa b=>Uz a b=true:=λus=>by unfold WT;rw[List.pairwise_map]
 rw[h1,e,<-h1];exact hA
def UF(r:Rel):List C:=[.d (.str r.table),.nil]
theorem OM{h:HS}{c:C}{rs:List Rel}(m:MR h 2 c (rs.map UF))(he:∀r∈rs,r.rows=[]):Vp h c rs:=⟨_,m,by
 rw[Xe];refine XH λr hr=>?_;simp[UF,Zt,Rel.enc,C.toD,he r hr]⟩
def Uu(s_:Sch):Option ((List Rel)):=
 (Zc (λ(i3:Nat) (x3:Tbl) (s3:(List Rel)) next_3=>(W0 s3 [(Rel.mk x3.name [])] λ_=>(next_3 (s3++[(Rel.mk x3.name [])])))) (λ(s3:(List Rel))=>(some s3)) s_.tables 0 [])
theorem LF(h:HS)(S:Sch)(out:List Rel)(hm:Is (Uu S) out)(K:V->HS->Prop)
  (hk:∀c h',MR h' 2 c (out.map UF)->(∀r∈out,r.rows=[])->Z0 h h' []->(∀k∈labs c,h.ep<=k.1/\k.1<h'.ep)->Zo h h'->K (.one c) h'):
  Z3 prog 59 [.agg (S.enc.map C.d)] h K:=by
 refine Z3.jE Tryz.func59 rfl kR λhg=>?_;unfold Uu at hm;refine Z3.ov Tryz.func59 ?_;simp;intro ae;refine Z4.for (xs:=S.tables) (s0:=[]) (λi s e h'=>∃c,En e 21 [(3,.one c),(7,.l (S.tables.map Tbl.enc)),(8,.i (S.tables.length:Int)),(9,.i (i:Int))]/\MR h' 2 c (s.map UF)/\(∀r∈s,r.rows=[])/\Z0 h h' []/\∀k∈labs c,h.ep<=k.1/\k.1<h'.ep) hm ⟨.nil,sI,by simpa using MR.nil,sI,(Z0.refl.qA (.inr sI)).next,by simp[labs]⟩ ?_ ?_;rintro i s e h' ⟨c,hE,aa,he,hs,hl⟩ hlt hm;have hw:IntKind.i64.wrap ((i:Int)+1)=(i:Int)+1:=Y5 _ oM;obtain⟨ab,hm⟩:=hm.chk;simp[hE,hlt];have hs2:Z0 h' (((h'.qA (h'.ep,80) [.d (.str empty),.nil,.nil]).next.qA (h'.ep,80) [.d (.str S.tables[i].name),.d (.sl (S.tables[i].cols.map Col.enc)),.d (.sl (S.tables[i].pk.map Zd))]).qA (h'.ep+1,272) [.d (.str S.tables[i].name),.nil]).next []:=(((Z0.refl.qA (.inr sI)).next.qA (.inr sI)).qA (.inr sI)).next;refine W5 Bt kR dE dE (aa.frame λk hk=>hs2.2 k (hl k hk).2 sI) (Zk.jY (x:=UF ⟨S.tables[i].name,[]⟩) rfl (by simp[UF])) (by simpa using ab) (λc' h2 hm2 hs3 ac=>?_);simp[hE,hw];have ad:Z0 h h2 []:=(hs.trans hs2).trans' hs3 λk hk=>.inr (hl k hk).1;refine Ze.of (s++[⟨S.tables[i].name,[]⟩]) ⟨⟨c',by simp[hE],?_,λr hr=>?_,ad,λk hk=>?_⟩,hm⟩;simpa using hm2;rcases Y2.1 hr with h9|h9;exact he r h9;rw[Yu.1 h9];rcases ac k hk with h9|h9
 have:=hl k h9
 have:=hs3.1
 simp at this;omega
 have:=hs.1
 simp at h9;omega;rintro s e h' ⟨c,hE,aa,he,hs,hl⟩ hm;obtain rfl:=Zh hm;simp[hE];exact hk _ _ aa he hs hl (hs.jA hg)
theorem LP(h:HS)(S:Sch)(out:List Rel)(hm:Is (Uu S) out)(K:V->HS->Prop)
  (hk:∀c h',Vp h' c out->Z0 h h' []->(∀k∈labs c,h.ep<=k.1/\k.1<h'.ep)->Zo h h'->K (.one c) h'):
  Z3 prog 59 [.agg (S.enc.map C.d)] h K:=
 LF h S out hm K λc h' mr he=>hk c h' (OM mr he)
theorem IK(S:Sch)(out:List Rel)(hm:Is (Uu S) out):Zj prog 59 [.agg S.enc] (.l (out.map Rel.enc)):=
 Zj.of_heap (LP HS.init S out hm _ λc h' r hs hl hb=>r.frz)
abbrev Q1:List Sh:=[.d,.d,.d]
abbrev A0:Sh:=.r Q1
theorem Fm{α ρ:Type}{k:List α->Option ρ}:∀(xs:List α) (i:Nat) (s:List α),Zc (λ(_:Nat) x s next=>next (s++[x])) k xs i s=k (s++xs)
 |[],i,s=>by simp[Zc]
 |x::xs,i,s=>by simp[Zc,Fm xs]
structure OwN(h h':HS)(ss:List Sh)(cs:List C)(ds:List D)(ls:List Z2):Prop where
 ow:Ow h' ss cs ds ls
 nd:ls.Nodup
 new:∀k∈ls,h.ep<=k.1/\k.1<h'.ep
 same:Z0 h h' []
def Ww(h h':HS)(sh:List Sh)(c:C)(ds:List (List D)):Prop:=∃qs,Part h' sh c qs ds/\(Z5 c qs).Nodup/\(∀k∈Z5 c qs,h.ep<=k.1/\k.1<h'.ep)/\Z0 h h' []
theorem Ww.nil{h:HS}{sh:List Sh}:Ww h h sh .nil []:=⟨[],⟨by simpa using MR.nil,rfl,sI⟩,by simp[Z5,labs],by simp[Z5,labs],.refl⟩
theorem Ww.step{h h1 h2:HS}{sh:List Sh}{c:C}{ds:List (List D)}(g:Ww h h1 sh c ds)(hs:Z0 h1 h2 []):Ww h h2 sh c ds:=by
 obtain⟨qs,p,nd,hl,s⟩:=g;exact⟨qs,p.frame λk hk=>hs.2 k (hl k hk).2 sI,nd,λk hk=>⟨(hl k hk).1,Y3 (hl k hk).2 hs.1⟩,s.trans hs⟩
theorem Ww.app{P:Program}{ty el:TypeId}{n ae dd:Nat}{h h1 h2:HS}{sh:List Sh}{c x:C}{ds:List (List D)}{xc:List C}{d:List D}{lx:List Z2}{K:V->HS->Prop}(g:Ww h h1 sh c ds)(hs:Z0 h1 h2 [])(ah:Zv P ty=some (el,n,ae))(hz:(ZP P el).isSome=true)(h0:0<n)(hb:ae<=4096)
  (hr:Zk h2 n x [xc])(hn:sh.length=n)(ho:Ow h2 sh xc d lx)(ag:lx.Nodup)(aa:∀k∈lx,h1.ep<=k.1/\k.1<h2.ep)(hlim:ds.length+1<=Zs)
  (hk:∀c' h3,Ww h h3 sh c' (ds++[d])->Z0 h2 h3 (labs c)->K (.one c') h3):Vv P ty c x dd h2 (K:=⟨K⟩):=by
 subst hn;obtain⟨qs,p0,nd,ab,s0⟩:=g;have p:=p0.frame λk hk=>hs.2 k (ab k hk).2 sI;have hl:∀k∈Z5 c qs,h.ep<=k.1/\k.1<h2.ep:=λk hk=>⟨(ab k hk).1,Y3 (ab k hk).2 hs.1⟩;have s:=s0.trans hs;have hlt:∀k∈Z5 c qs,k.1<h2.ep:=λk hk=>(hl k hk).2;have hq:qs.length=ds.length:=by rw[<-p.ds];simp
 refine W5 ah hz h0 hb p.mr hr (by simpa[hq] using hlim) λc' h3 hm hs3 ac=>?_;have af:∀k∈labs c,h.ep<=k.1:=λk hk=>(hl k (by simp[Z5,hk])).1;have aj:∀k∈labs c,k.1<h1.ep:=λk hk=>(ab k (by simp[Z5,hk])).2;have ad:∀k∈lx,k∉labs c:=λk hk h9=>by have:=aj k h9;have:=(aa k hk).1;omega
 refine hk c' h3 ⟨qs++[(xc,d,lx)],p.add nd hlt hm hs3 (ho.frame λk hk=>hs3.2 k (aa k hk).2 (ad k hk)),?_,λk hk=>?_,s.trans' hs3 λk hk=>.inr (af k hk)⟩ hs3;refine H1 nd hlt (λk hk=>(ac k hk).imp id λh9=>h9.1) ag λk hk=>⟨λh9=>?_,λh9=>?_⟩
 have:=(ab k h9).2;have:=(aa k hk).1;omega
 rcases ac k h9 with h8|h8;exact ad k hk h8
 have:=(aa k hk).2;omega
 rcases Ag hk with h9|h9|h9;rcases ac k h9 with h8|h8;exact⟨af k h8,Y3 (hl k (by simp[Z5,h8])).2 hs3.1⟩;exact⟨Yv s.1 h8.1,h8.2⟩
 have:=hl k (by simp only[Z5,Y2];exact .inr h9)
 exact⟨this.1,Y3 this.2 hs3.1⟩
 have:=aa k h9
 exact⟨Yv s0.1 this.1,Y3 this.2 hs3.1⟩
theorem OB{h:HS}{c:C}{row:List GV}(m:MR h 3 c ((row.map GV.enc).map (·.map C.d))):Ow h [A0] [c] [.sl (row.map GV.enc)] (labs c):=by
 have e1:(row.map λv=>((v.enc.map C.d,v.enc,[]):List C×List D×List Z2)).flatMap (·.2.2)=[]:=by rw[Xw];intro q hq;obtain⟨v,_,rfl⟩:=Yi.1 hq;rfl
 have e2:(row.map λv=>((v.enc.map C.d,v.enc,[]):List C×List D×List Z2)).map (·.2.1)=row.map GV.enc:=by rw[Xe];rfl
 have e3:(row.map λv=>((v.enc.map C.d,v.enc,[]):List C×List D×List Z2)).map (·.1)=(row.map GV.enc).map (·.map C.d):=by rw[Xe,Xe];rfl
 have:=Ow.row (h:=h) (es:=Q1) (c:=c) (qs:=row.map λv=>(v.enc.map C.d,v.enc,[])) (ss:=[]) (cs:=[]) (ds:=[]) (ls:=[]) (by rw[e3];exact m) (λq hq=>by obtain⟨v,_,rfl⟩:=Yi.1 hq;exact Ow.qL (h:=h) (ds:=v.enc)) .nil
 rw[e1,e2,Ym,Ym] at this;exact this
theorem QW(h:HS)(row:List GV)(hl:row.length<=2097152)(K:V->HS->Prop)(hk:∀c h',OwN h h' [A0] [c] [.sl (row.map GV.enc)] (labs c)->MR h' 3 c ((row.map GV.enc).map (·.map C.d))->Zo h h'->K (.one c) h'):
  Z3 prog 89 [.l (row.map GV.enc)] h K:=by
 refine Rc h _ ((row.map GV.enc).map (·.map C.d)) (Zk.data (λt ht=>by obtain⟨z,_,rfl⟩:=Yi.1 ht;rfl) (by simpa using hl)) K λc h' hm hs hl hb=>?_;exact hk c h' ⟨OB hm,Va,hl,hs⟩ hm hb
theorem RE(h:HS)(rows:List (List GV))(ag:∀row∈rows,row.length<=2097152)(K:V->HS->Prop)
  (hk:∀c h',Ww h h' [A0] c (rows.map (Z6 GV.enc))->Zo h h'->K (.one c) h'):
  Z3 prog 85 [.l (rows.map (Z6 GV.enc))] h K:=by
 refine Z3.jE Tryz.func85 rfl kR λhg=>?_;refine Z3.ov Tryz.func85 ?_;have hm:Is (Zc (λ(_:Nat) x s next=>next (s++[x])) (λs=>some s) rows 0 []) rows:=by rw[Fm];rfl
 simp;intro al;refine Z4.for (xs:=rows) (s0:=[]) (λi s e h'=>∃c,En e 19 [(3,.one c),(6,.l (rows.map (Z6 GV.enc))),(7,.i (rows.length:Int)),(8,.i (i:Int))]/\Ww h h' [A0] c (s.map (Z6 GV.enc))/\s.length=i) hm ⟨.nil,sI,.nil,rfl⟩ ?_ ?_;rintro i s e h' ⟨c,hE,ab,ac⟩ hlt hm;have hw:IntKind.i64.wrap ((i:Int)+1)=(i:Int)+1:=Y5 _ oM;have aj:=ag _ (Yf hlt);simp[hE,hlt];refine Za (QW _ _ aj _ λc1 h1 aa am ak=>?_);simp[hE,hw];have ae:=aa.same;refine Cc (x:=[c1]) (by simp only[Zt];cases c1.toD<;>rfl) rfl (λd hd=>?_) (λhd=>?_);obtain⟨rfl,af⟩:=aa.ow.ofD hd;simp[hE,hw];refine Ww.app ab (ae.trans ((Z0.refl.qC).next)) ZQ kR dE dE (Zk.qU rfl) rfl (af _) sI sI (by simpa using(by omega:s.length+1<=2097152)) λc' ah ad hs3=>?_;simp[hE,hw];exact Ze.of (s++[rows[i]]) ⟨⟨c',by simp[hE],by simpa[Z6] using ad,by simp[ac]⟩,hm⟩;simp[hE,hw];have hs2:Z0 h1 ((h1.qA (h1.ep,240) [c1]).next) []:=(Z0.refl.qA (.inr sI)).next;refine Ww.app ab (ae.trans hs2) ZQ kR dE dE (Zk.jY rfl sI) rfl (aa.ow.frame λk hk=>hs2.2 k (aa.new k hk).2 sI) aa.nd (λk hk=>⟨(aa.new k hk).1,Y3 (aa.new k hk).2 hs2.1⟩) (by simpa using(by omega:s.length+1<=2097152)) λc' ah ad hs3=>?_;simp[hE,hw];exact Ze.of (s++[rows[i]]) ⟨⟨c',by simp[hE],by simpa[Z6] using ad,by simp[ac]⟩,hm⟩;rintro s e h' ⟨c,hE,ab,ac⟩ hm;obtain rfl:=Zh hm;simp[hE];obtain⟨qs,p,nd,hl,hs⟩:=ab;exact hk _ _ ⟨qs,p,nd,hl,hs⟩ (hs.jA hg)
end
end Go.Am
section
namespace Go.Am
theorem MpAt.hf{h h' l co cn M}(a:HF h h')(m:MpAt h l co cn M):MpAt h' l co cn M:=m.frame ⟨a.1,λk hk _=>a.2 k hk⟩
theorem Z0.hf{h0 h h' ls}(s:Z0 h0 h ls)(a:HF h h'):Z0 h0 h' ls:=s.trans ⟨a.1,λk hk _=>a.2 k hk⟩
class ConM{α:Type}(m:Option α)(M0:outParam Mp)(M1:outParam (α->Mp))(P:Program)(f:FuncId)(av:outParam (List AV))(er:outParam (α->V)):Prop where
 h:∀v,Is m v->∀h l co cn vs K,MpAt h l co cn M0->W1 h vs=some av->(∀h',MpAt h' l co cn (M1 v)->Z0 h h' (labs co++labs cn)->K (er v) h')->Z3 P f (.p l::vs) h K
theorem Z7p{Γ h μ w}(hI:Am.Inv Γ h μ w){l cs ds}(hb:h.box l=some cs)(hd:∀(j:Nat) x,ds[j]?=some x->∃c,cs[j]?=some c/\c.toD=some x){b n}(hl:μ.loc l=some (some b,n)):VE μ.cell (Wx w) ds (.pointer (some ⟨b,0,none⟩)):=by
 obtain⟨b',n',T,conc,hl',_,hh,hR,_⟩:=hI.box l cs hb;rw[hl] at hl';simp only[Ya,Yt] at hl';obtain⟨rfl,rfl⟩:=hl';refine⟨b,0,rfl,λj x hj=>?_⟩;obtain⟨c,hc,hx⟩:=hd j x hj;obtain⟨u,hu,hr⟩:=hR.2 j c hc;refine⟨u,.inr ?_,Vz hr hx⟩;simp[Wx,World.cell?,hh,hu]
theorem Z3.wC{P f vs av ds}{cs:List C}{r h l}{K:V->HS->Prop}(d)(hs:Zj P f (.one (.rp ds)::av) r)(hb:h.box l=some cs)(hd:∀(j:Nat) x,ds[j]?=some x->∃c,cs[j]?=some c/\c.toD=some x)
  (has:W1 h vs=some av)(hk:K (r.toV h.ep d) ((h.qM d r.fr).next)):Z3 P f (.p l::vs) h K:=by
 refine⟨hs.1,λΓ μ w vals hI hR=>?_⟩;obtain⟨am,af⟩:=JO has;have ab:Bw μ.cell (Wx w) (.one (.rp ds)::av) vals:=by
  refine⟨by rw[hR.1];simp[am],λi x hi=>?_⟩;cases i with|zero=>?_|succ i=>?_;simp at hi;subst hi;obtain⟨u,hu,hr⟩:=hR.2 0 _ rfl;obtain⟨b,n,hl,rfl⟩:=(show∃b n,μ.loc l=some (some b,n)/\u=.pointer (some ⟨b,0,none⟩) from hr);exact⟨_,hu,Z7p hI hb hd hl⟩;obtain⟨v,ak,ag⟩:=af i x (by simpa using hi);obtain⟨u,hu,hr⟩:=hR.2 (i+1) v (by simpa using ak);exact⟨u,hu,Kf hI hr ag⟩
 refine(hs.2 w μ.cell (Wx w) _ hI.glob hI.cell (EJ w) ab).mono ?_;rintro en w1 ⟨v,m',ad,rfl,aa,ae,ac,ah,hr,aj⟩;have al:Mem.Le μ (WU μ h.ep d m' ad):=⟨aa,rfl,λl x hl=>by
  have:=hI.lt l (by rw[hl];simp)
  simp only[WU];rw[if_neg oM];exact hl⟩
 exact⟨v,_,_,WU μ h.ep d m' ad,rfl,hk,hI.call d aa ae ac ah aj,HE hr h.ep d,al⟩
theorem MpAt.pre{h l co cn M}(m:MpAt h l co cn M):∃cs,h.box l=some cs/\∀(j:Nat) x,M.enc[j]?=some x->∃c,cs[j]?=some c/\c.toD=some x:=by
 refine⟨_,m.box,λj x hx=>⟨.d x,?_,rfl⟩⟩;have hj:=(Y0.1 hx).1;rw[Wt,Yq (by simpa using hj),Y8,hx];rfl
def FE:List AV->Prop
 |[]=>True
 | .one (.d (.bool _))::vs=>FE vs
 | .one (.d (.int _ _))::vs=>FE vs
 | .one (.d (.str _))::vs=>FE vs
 |_=>False
theorem F5{h}{v:V}{x}(hx:∀xs,x≠.sl xs)(hv:v.toA h=some (.one (.d x))):v=.one (.d x):=by
 cases v with
 |one c=>?_
 |agg cs=>cases hd:Zt cs<;>simp[V.toA,hd] at hv
 |_=>simp[V.toA] at hv
 cases hc:c.toA h with
 |none=>simp[V.toA,hc] at hv
 |some a=>?_
 simp[V.toA,hc] at hv;subst hv;cases c with
 |d y=>simp[C.toA] at hc;rw[hc]
 |own l xs=>simp[C.toA] at hc;exact absurd hc.symm (hx _)
 |nil=>simp[C.toA] at hc;exact absurd hc.symm (hx _)
 |z=>simp[C.toA] at hc;exact absurd hc.symm (hx _)
 |ptr l off=>?_
 |fn f caps=>simp only[C.toA] at hc;cases hd:Vi h caps<;>simp[hd] at hc
 |_=>simp[C.toA] at hc
 cases off with
 |succ n=>simp[C.toA] at hc
 |zero=>simp only[C.toA] at hc;cases hb:h.box l<;>simp[hb] at hc
theorem Z2h{h:HS}:∀{av:List AV} {vs:List V},FE av->W1 h vs=some av->vs=av.map AV.toV:=by
 intro av
 induction av with|nil=>?_|cons a av ih=>?_
 intro vs _ hv;cases vs with
 |nil=>rfl
 |cons v vs=>simp only[W1] at hv;split at hv<;>cases hv
 intro vs hs hv;cases vs with
 |nil=>simp[W1] at hv
 |cons v vs=>?_
 simp only[W1] at hv;cases hx:v.toA h with
 |none=>rw[hx] at hv;cases hv
 |some x=>?_
 cases hxs:W1 h vs with
 |none=>rw[hx,hxs] at hv;cases hv
 |some xs=>?_
 rw[hx,hxs] at hv;simp at hv;obtain⟨rfl,rfl⟩:=hv;cases x with
 |agg ds=>exact hs.elim
 |one y=>cases y with
   |d z=>cases z with
     |bool b=>rw[F5 (by intro _ e;cases e) hx,ih hs hxs];rfl
     |int k n=>rw[F5 (by intro _ e;cases e) hx,ih hs hxs];rfl
     |str s=>rw[F5 (by intro _ e;cases e) hx,ih hs hxs];rfl
     |_=>exact hs.elim
   |_=>exact hs.elim
theorem Zi.rA{h es c xs a b x}(g:Zi h es c xs)(ha:∀ys,Ws (.own (a,b) ys) c):Zi (h.qC (a,b) x) es c xs:=by
 rcases g.1 with⟨rfl,rfl⟩|⟨l,rfl,h1,h2⟩;exact .nil;have hne:l≠(a,b):=λhe=>ha xs l xs xs (by rw[he]) rfl;exact .own (by simp only[HS.qC];rw[if_neg hne];exact h1) h2 g.2
section
variable{ρ α:Type}
theorem Z7t{P f vs av d e hb h l co cn M}{Kc:Env->HS->Prop}{er:α->RV}{m K}{r:ρ}(hm:Is (Z1 m K) r)[i:Con m P f (.one (.rp M.enc)::av) er]
  (hp:MpAt hb l co cn M)(hf:HF hb h)(has:W1 h vs=some av)
  (hk:∀v,Is (K v) r->Kc (e.put (some d) ((er v).toV h.ep d)) ((h.qM d (er v).fr).next)):V4 P f [] (.p l::vs) d e h (K:=⟨Kc⟩):=by
 obtain⟨x,hx,hm⟩:=hm.bind;obtain⟨cs,aa,hd⟩:=(MpAt.hf hf hp).pre;refine Za (by simpa using Z3.wC (K:=λv h'=>Kc (e.put (some d) v) h') d (i.h x hx) aa hd has (hk x hm))
theorem Z72{P f vs av d e h0 hb h l co cn M0 M1 Kc}{er:α->V}{m K}{r:ρ}(hm:Is (Z1 m K) r)[i:ConM m M0 M1 P f av er]
  (hp:MpAt hb l co cn M0)(hS:Z0 h0 hb (labs co++labs cn))(hf:HF hb h)(has:W1 h vs=some av)
  (hk:∀v h',MpAt h' l co cn (M1 v)->Z0 h0 h' (labs co++labs cn)->Z0 h h' (labs co++labs cn)->Is (K v) r->Kc (e.put (some d) (er v)) h'):V4 P f [] (.p l::vs) d e h (K:=⟨Kc⟩):=by
 obtain⟨x,hx,hm⟩:=hm.bind;refine Za (by simpa using i.h x hx h l co cn vs _ (MpAt.hf hf hp) has λh' aa hs=>hk x h' aa ((Z0.hf hS hf).trans hs) hs hm)
theorem Q0{m M0 M1 P f fn c av}{er:α->V}{rs}(n)(hf:P.funcs[f]?=some fn)(hb:fn.body=some c)(am:(fn.name== "runtime.NumGoroutine")=false)(hn:fn.ntmps=n)(al:fn.results.toList=rs)(hsc:FE av)(ak:av.length+1<=n)
  (hv:∀r,Is m r->∀h l co cn K,MpAt h l co cn M0->(∀h',MpAt h' l co cn (M1 r)->Z0 h h' (labs co++labs cn)->K (er r) h')->vc P c (ZG P rs K) (BG n (.p l::av.map AV.toV)) h:=by
   intro r hm h l co cn K hp hK;have aa:=hp.lt l (Y6 ..);have hS:Z0 h h (labs co++labs cn):=Z0.refl;have hne:=Zm aa;have hne':=ZO aa;have af:=hp.box;simp only[Wt,Mp.enc,Stp.enc,Yb,Yd,Yk,Yn] at af
   try simp(maxSteps:=1000000) [*]
   repeat' (first
    | (with_reducible have hq:=Zh hm
       obtain rfl:=hq;refine hK _ (MpAt.hf ?_ hp) (Z0.hf hS ?_)
       all_goals
        repeat' (first|with_reducible exact HF.refl|with_reducible refine HF.next ?_|with_reducible refine HF.qC ?_|with_reducible refine HF.qI ?_|with_reducible refine HF.qM ?_|with_reducible refine HF.qA ?_ ?_|assumption|(apply HF.tr;assumption)|(simp(maxSteps:=1000000) [*];done)|(simp(maxSteps:=1000000) [*];omega)))
    | (with_reducible have hq:=Is.bind hm
       clear hq;refine Z7t hm hp ?_ ?_ ?_
       .repeat' (first|with_reducible exact HF.refl|with_reducible refine HF.next ?_ | with_reducible refine HF.qC ?_ | with_reducible refine HF.qI ?_ | with_reducible refine HF.qM ?_ | with_reducible refine HF.qA ?_ ?_ | assumption | (apply HF.tr;assumption) | (simp (maxSteps:=1000000) [*];done) | (simp (maxSteps:=1000000) [*];omega))
       .simp (maxSteps:=1000000) [*];done
       clear hm;intro v hm;try simp (maxSteps:=1000000) [*])
    | (with_reducible have hq:=Is.bind hm
       clear hq;refine Z72 hm hp hS ?_ ?_ ?_
       .repeat' (first | with_reducible exact HF.refl | with_reducible refine HF.next ?_ | with_reducible refine HF.qC ?_ | with_reducible refine HF.qI ?_ | with_reducible refine HF.qM ?_ | with_reducible refine HF.qA ?_ ?_ | assumption | (apply HF.tr;assumption) | (simp (maxSteps:=1000000) [*];done) | (simp (maxSteps:=1000000) [*];omega))
       .simp (maxSteps:=1000000) [*];done
       clear hm hp hS;intro v h hp hS ar hm;have aa:=hp.lt l (Y6 ..);have hne:=Zm aa;have hne':=ZO aa;have af:=hp.box;simp only[Wt,Mp.enc,Stp.enc,Yb,Yd,Yk,Yn] at af
       try simp (maxSteps:=1000000) [*])
    | ((with_reducible refine Zy hm ?_ ?_)<;>(clear hm;intro hc hm;try simp (maxSteps:=1000000) [*]))
    | (with_reducible have hq:=Is.bind hm
       clear hq;refine Pi hm ?_ ?_
       .simp (maxSteps:=1000000) [*];done
       clear hm;intro v hm;try simp (maxSteps:=1000000) [*])
    | (with_reducible intro hl
       try simp only[Yh] at hl
       try simp (maxSteps:=1000000) [*])
    | (with_reducible have hq:=Is.qG hm
       clear hm;obtain⟨x,hx,hm⟩:=hq
       try simp (maxSteps:=1000000) [*])
    | (with_reducible have hq:=Is.get hm
       clear hm;obtain⟨x,h0,hx,hm⟩:=hq
       try simp at h0
       try simp at hx
       try simp (maxSteps:=1000000) [*])
    | (with_reducible have hq:=Is.app hm
       clear hq;refine Pw hm ?_ ?_ ?_ ?_
       .first
        | exact Zi.nil
        | (simp (maxDischargeDepth:=20) (maxSteps:=1000000) [*];done)
        | (simp (maxDischargeDepth:=20) (maxSteps:=1000000) [Zi.rA, *];done)
       .first | (simp (maxSteps:=1000000) [*];done) | (simp (maxSteps:=1000000) [GV.enc, *];done)
       .decide
       clear hm;intro hl hm g;try simp (maxSteps:=1000000) [*])
    | (with_reducible have hq:=Is.chk hm
       clear hm;obtain⟨hw,hm⟩:=hq
       first
       | replace hw:=Kg hw
       | (obtain⟨ha,hb,hd⟩:=hw
          have he:=hb
          try simp at he
          have hf:=hd
          try simp at hf)
       | (have ap:=hw
          try simp at ap)
       try simp (maxSteps:=1000000) [*])
    | ((with_reducible refine F7 hm ?_ ?_)<;>(clear hm;intro hc hm;try simp (maxSteps:=1000000) [*]))
    | ((with_reducible refine H9 hm ?_ ?_)<;>(clear hm;intro hc hm;try simp (maxSteps:=1000000) [*]))
    | (with_reducible have hq:=Is.bind hm
       clear hq;refine OT hm ?_ ?_ ?_
       .simp (maxSteps:=1000000) [*];done
       .simp (maxSteps:=1000000) [*];done
       clear hm;intro v hm;try simp (maxSteps:=1000000) [*])
    | (with_reducible have hq:=Is.bind hm
       clear hq;refine OS hm ?_ ?_ ?_
       .simp (maxSteps:=1000000) [*];done
       .simp (maxSteps:=1000000) [*];done
       clear hm;intro v hm;try simp (maxSteps:=1000000) [*])
    | (with_reducible have hq:=Is.chr hm
       clear hm;obtain⟨y,h0,hx,hm⟩:=hq
       try simp (maxSteps:=1000000) [*])
    | (refine Ze.lr hm ⟨?_,?_,?_,?_⟩
       .simp (maxSteps:=1000000) [*];done
       .simp (maxSteps:=1000000) [V6, *];done
       .repeat' (first | with_reducible exact HF.refl | with_reducible refine HF.next ?_ | with_reducible refine HF.qC ?_ | with_reducible refine HF.qI ?_ | with_reducible refine HF.qM ?_ | with_reducible refine HF.qA ?_ ?_ | assumption | (apply HF.tr;assumption) | (simp (maxSteps:=1000000) [*];done) | (simp (maxSteps:=1000000) [*];omega))
       .first | (simp (maxDischargeDepth:=20) (maxSteps:=1000000) [*,V5];done) | (simp (maxDischargeDepth:=20) (maxSteps:=1000000) [Zi.rA, *,V5];done))
    | (refine Ze.lr hm ⟨?_,?_,?_⟩
       .simp (maxSteps:=1000000) [V6, *];done
       .repeat' (first | with_reducible exact HF.refl | with_reducible refine HF.next ?_ | with_reducible refine HF.qC ?_ | with_reducible refine HF.qI ?_ | with_reducible refine HF.qM ?_ | with_reducible refine HF.qA ?_ ?_ | assumption | (apply HF.tr;assumption) | (simp (maxSteps:=1000000) [*];done) | (simp (maxSteps:=1000000) [*];omega))
       .first | (simp (maxDischargeDepth:=20) (maxSteps:=1000000) [*,V5];done) | (simp (maxDischargeDepth:=20) (maxSteps:=1000000) [Zi.rA, *,V5];done))
    | ((first | refine Z4.jP l1 rfl hm ?_ ?_ ?_ ?_ ?_ ?_ | refine Z4.jP l2 rfl hm ?_ ?_ ?_ ?_ ?_ ?_ | refine Z4.jP l3 rfl hm ?_ ?_ ?_ ?_ ?_ ?_ | refine Z4.jP l4 rfl hm ?_ ?_ ?_ ?_ ?_ ?_ | refine Z4.jP l5 rfl hm ?_ ?_ ?_ ?_ ?_ ?_ | refine Z4.jP l6 rfl hm ?_ ?_ ?_ ?_ ?_ ?_)
       .first | assumption | omega | (simp at *;omega)
       .simp (maxSteps:=1000000) [*];done
       .simp (maxDischargeDepth:=20) (maxSteps:=1000000) [*,V5];done
       .simp (maxSteps:=1000000) [UJ,Vc,VX,Vg, *]<;>omega
       all_goals first
        | (skip
           clear hm
           with_reducible intro i s e h hk aj ab ae ah ad ag aq hw hlt hm
           try simp only[Vt] at ab
           repeat obtain⟨_,ab⟩:=ab
           try simp only[V6] at hk
           try simp (maxSteps:=1000000) [*] at hk
           have ac:=ad
           try simp at ac
           rcases YA l.1 h.ep with aa | aa;rotate_left
           .exfalso;omega
           have hne:=Zm aa;have hne':=ZO aa
           try simp (maxSteps:=1000000) [VQ,Vc,VX,Vg, *] at ae
           try simp (maxSteps:=1000000) [*])
        | (skip
           clear hm
           with_reducible intro s e h hk aj ab ae ah ad ag hm
           try simp only[Vt] at ab
           repeat obtain⟨_,ab⟩:=ab
           try simp only[V6] at hk
           try simp (maxSteps:=1000000) [*] at hk
           have ac:=ad
           try simp at ac
           rcases YA l.1 h.ep with aa | aa;rotate_left
           .exfalso;omega
           have hne:=Zm aa;have hne':=ZO aa
           try simp (maxSteps:=1000000) [VQ,Vc,VX,Vg, *] at ae
           try simp (maxSteps:=1000000) [*]))
    | ((first | refine Z4.qY l1 rfl hm ?_ ?_ ?_ ?_ ?_ | refine Z4.qY l2 rfl hm ?_ ?_ ?_ ?_ ?_ | refine Z4.qY l3 rfl hm ?_ ?_ ?_ ?_ ?_ | refine Z4.qY l4 rfl hm ?_ ?_ ?_ ?_ ?_ | refine Z4.qY l5 rfl hm ?_ ?_ ?_ ?_ ?_ | refine Z4.qY l6 rfl hm ?_ ?_ ?_ ?_ ?_)
       .simp (maxSteps:=1000000) [*];done
       .simp (maxDischargeDepth:=20) (maxSteps:=1000000) [*,V5];done
       .simp (maxSteps:=1000000) [UJ,Vc,VX,Vg, *]<;>omega
       all_goals
         clear hm
         with_reducible intro i s e h hk aj ab ae ah ad ag hlt hm
         try simp only[Vt] at ab
         repeat obtain⟨_,ab⟩:=ab
         try simp only[V6] at hk
         try simp (maxSteps:=1000000) [*] at hk
         have ac:=ad
         try simp at ac
         rcases YA l.1 h.ep with aa | aa;rotate_left
         .exfalso;omega
         have hne:=Zm aa;have hne':=ZO aa
         try simp (maxSteps:=1000000) [VQ,Vc,VX,Vg, *] at ae
         try simp (maxSteps:=1000000) [*]
         first
         | (have hq:(i:Int) < _:=hlt
            refine WR (λ_=>?_) (λhn=>absurd ?_ hn);rotate_left
            .first | omega | (simp at hlt |-;omega) | (simp at hlt |-;split at hlt<;>split<;>omega)
            simp (maxSteps:=1000000) [*])
         | (have hq:¬ (i:Int) < _:=hlt
            refine WR (λhn=>absurd hn ?_) (λ_=>?_)
            .first | omega | (intro hn;simp at hlt hn;omega) | (intro hn;simp at hlt hn;split at hlt<;>split at hn<;>omega)
            simp (maxSteps:=1000000) [*])
         | skip)
    | ((first | refine Z4.qZ l1 hm ?_ ?_ ?_ | refine Z4.qZ l2 hm ?_ ?_ ?_ | refine Z4.qZ l3 hm ?_ ?_ ?_ | refine Z4.qZ l4 hm ?_ ?_ ?_ | refine Z4.qZ l5 hm ?_ ?_ ?_ | refine Z4.qZ l6 hm ?_ ?_ ?_)
       .simp (maxDischargeDepth:=20) (maxSteps:=1000000) [*,V5];done
       .simp (maxSteps:=1000000) [UJ,Vc,VX,Vg, *]<;>omega
       clear hm
       with_reducible intro n s e h hk ab ae ah ad ag hm
       try simp only[Vt] at ab
       repeat obtain⟨_,ab⟩:=ab
       try simp only[V6] at hk
       try simp (maxSteps:=1000000) [*] at hk
       have ac:=ad
       try simp at ac
       rcases YA l.1 h.ep with aa | aa;rotate_left
       .exfalso;omega
       have hne:=Zm aa;have hne':=ZO aa
       try simp (maxSteps:=1000000) [VQ,Vc,VX,Vg, *] at ae
       try simp (maxSteps:=1000000) [*])
    | (first
       | (refine Z4.qX p1 ?_ (by kernel_rfl) follows ?_
          .decide)
       | (refine Z4.qX p2 ?_ (by kernel_rfl) follows ?_
          .decide)
       | (refine Z4.qX p3 ?_ (by kernel_rfl) follows ?_
          .decide)
       | (refine Z4.qX p4 ?_ (by kernel_rfl) follows ?_
          .decide)
       | (refine Z4.qX p5 ?_ (by kernel_rfl) follows ?_
          .decide)
       | (refine Z4.qX p6 ?_ (by kernel_rfl) follows ?_
          .decide)
       | (refine Z4.qX p7 ?_ (by kernel_rfl) follows ?_
          .decide)
       | (refine Z4.qX p8 ?_ (by kernel_rfl) follows ?_
          .decide)
       try simp (maxSteps:=1000000) [*])
    | (refine⟨λ_ _ hl=>hl,?_⟩;try simp (maxSteps:=1000000) [*])
    | (refine And.intro ?_ ?_<;>try simp (maxSteps:=1000000) [*])
    | (refine D6 (by simp) ?_;try simp (maxSteps:=1000000) [*])
    | (refine As (by assumption) (λhl=>?_);try simp only[Yh] at hl
       try simp (maxSteps:=1000000) [*])
    | (refine JT ?_ ?_
       .omega
       try simp (maxSteps:=1000000) [*])
    | (rcases Rd.cases (by assumption) with hz | ⟨l,hz⟩ | ⟨hz,hy⟩ | ⟨hz,hy⟩
       all_goals
        subst hz
        first
        | (simp_all;done)
        | (try simp (maxSteps:=1000000) [*])))):ConM m M0 M1 P f av er:=
 ⟨λr hm h l co cn vs K hp has hK=>by obtain rfl:=Z2h hsc has;exact Z3.qN hf hb am hn al (by simpa using ak) (hv r hm h l co cn K hp hK)⟩
end
def G4(M:Mp)(t:ByteArray)(rows:List (List GV)):Option Mp:=some {M with out:=ZI t rows M.out}
def Ic(M:Mp)(t:ByteArray)(rows:List (List GV)):Option Mp:=some {M with nc:=ZI t rows M.nc}
theorem Nf{h vs a av}(hv:W1 h vs=some (a::av)):∃v ws,vs=v::ws/\v.toA h=some a/\W1 h ws=some av:=by
 cases vs with
 |nil=>cases hv
 |cons v ws=>?_
 simp only[W1] at hv;cases h1:v.toA h with
 |none=>rw[h1] at hv;cases hv
 |some x=>?_
 cases h2:W1 h ws with
 |none=>rw[h1,h2] at hv;cases hv
 |some xs=>rw[h1,h2] at hv;cases hv;exact⟨v,ws,rfl,h1,h2⟩
theorem JN{h vs}(hv:W1 h vs=some []):vs=[]:=by
 cases vs with
 |nil=>rfl
 |cons v ws=>simp only[W1] at hv;split at hv<;>cases hv
theorem NY{h vs a b}(hv:W1 h vs=some [a,b]):∃v w,vs=[v,w]/\v.toA h=some a/\w.toA h=some b:=by obtain⟨v,ws,rfl,h1,h2⟩:=Nf hv;obtain⟨w,us,rfl,h3,h4⟩:=Nf h2;obtain rfl:=JN h4;exact⟨v,w,rfl,h1,h3⟩
theorem Pb{h}{v:V}{xs}(hv:v.toA h=some (.l xs)):∃c,v=.one c/\c.toD=some (.sl xs):=by
 cases v with
 |one c=>?_
 |agg cs=>cases hd:Zt cs<;>simp(maxSteps:=1000000) [V.toA,hd] at hv
 |_=>simp(maxSteps:=1000000) [V.toA] at hv
 refine⟨c,rfl,?_⟩;cases hc:c.toA h with
 |none=>simp(maxSteps:=1000000) [V.toA,hc] at hv
 |some a=>?_
 simp(maxSteps:=1000000) [V.toA,hc] at hv;subst hv;cases c with
 |d y=>simp(maxSteps:=1000000) [C.toA] at hc;rw[hc];rfl
 |own l ys=>simp(maxSteps:=1000000) [C.toA] at hc;rw[hc];rfl
 |nil=>simp(maxSteps:=1000000) [C.toA] at hc;rw[hc];rfl
 |z=>simp(maxSteps:=1000000) [C.toA] at hc;rw[hc];rfl
 |ptr l off=>?_
 |fn f caps=>simp only[C.toA] at hc;cases hd:Vi h caps<;>simp(maxSteps:=1000000) [hd] at hc
 |_=>simp(maxSteps:=1000000) [C.toA] at hc
 cases off with
 |succ n=>simp(maxSteps:=1000000) [C.toA] at hc
 |zero=>simp only[C.toA] at hc;cases hb:h.box l<;>simp(maxSteps:=1000000) [hb] at hc
instance Zaa(M:Mp)(t:ByteArray)(rows:List (List GV)):ConM (G4 M t rows) M (λr=>r) Tryz.prog 222 [.s t,.l (rows.map (Z6 GV.enc))] (λ_=>.tup []):=⟨by
 intro r hm h l co cn vs K hp has hK;obtain rfl:=Zh hm;obtain⟨v,w,rfl,hv,hw⟩:=NY has;obtain rfl:=F5 (by intro _ e;cases e) hv;obtain⟨cr,rfl,aa⟩:=Pb hw;exact IJ h l co cn cr M t rows hp aa K λh' h1 h2=>hK h' h1 (h2.mono (by simp+contextual))⟩
instance Z9o(M:Mp)(t:ByteArray)(rows:List (List GV)):ConM (Ic M t rows) M (λr=>r) Tryz.prog 223 [.s t,.l (rows.map (Z6 GV.enc))] (λ_=>.tup []):=⟨by
 intro r hm h l co cn vs K hp has hK;obtain rfl:=Zh hm;obtain⟨v,w,rfl,hv,hw⟩:=NY has;obtain rfl:=F5 (by intro _ e;cases e) hv;obtain⟨cr,rfl,aa⟩:=Pb hw;exact Iz h l co cn cr M t rows hp aa K λh' h1 h2=>hK h' h1 (h2.mono (by simp+contextual))⟩
end Go.Am
end
namespace Go.Am
section
def WZ(s_:Sch)(inst:List Rel)(name:ByteArray):Option (Tbl×(List (List GV))):=
 Z1 (ZY s_ name) λv3=>bif !v3.2 then some ((Tbl.mk empty [] []),[]) else Z7 s_.tables v3.1 λx5=>Z1 (BS x5) λv6=>bif decide ((inst.length:Int)<=v3.1) then some (v6,[]) else Z7 inst v3.1 λx10=>Z1 (Ve x10.rows) λv11=>some (v6,v11)
instance S6(s_:Sch)(inst:List Rel)(name:ByteArray):Con (WZ s_ inst name) prog 97 [.agg s_.enc,.one (.d (.sl (inst.map Rel.enc))),.one (.d (.str name))] (λr=>.tup [.agg (r.1.enc.map RC.d),.one (.d (.sl (r.2.map (Z6 GV.enc))))]):=by unfold WZ;have p1:PH [7] (Plan.qB [0,1,2,3,4,5,6,7,8] .done):=.intro;exact go 38 Tryz.func97
theorem Ww.xH{h h':HS}{sh:List Sh}(hs:Z0 h h' []):Ww h h' sh .nil []:=Ww.nil.step hs
theorem Ww.wO{h0 h h1 h2:HS}{sh:List Sh}{c:C}{ds:List (List D)}{ls:List Z2}(g:Ww h h1 sh c ds)(hs:Z0 h1 h2 ls)(hl:∀k∈ls,k.1<h.ep)(aa:Z0 h0 h2 [])(he:h0.ep<=h.ep):Ww h0 h2 sh c ds:=by
 obtain⟨qs,p,nd,hq,s⟩:=g;exact⟨qs,p.frame λk hk=>hs.2 k (hq k hk).2 λh9=>by have:=hl k h9;have:=(hq k hk).1;omega,nd,λk hk=>⟨Yv he (hq k hk).1,Y3 (hq k hk).2 hs.1⟩,aa⟩
theorem Ww.same{h h':HS}{sh:List Sh}{c:C}{ds:List (List D)}(g:Ww h h' sh c ds):Z0 h h' []:=by obtain⟨_,_,_,_,s⟩:=g;exact s
theorem Lt{rows out:List (List GV)}(hm:Is (Ve rows) out):out=rows:=by
 unfold Ve at hm;have key:∀(xs:List (List GV)) (i:Nat) (s:List (List GV)),Is (Zc (λ(i3:Nat) (x3:List GV) (s3:List (List GV)) next_3=>Z1 (CC x3) λv5=>W0 s3 [v5] λ_=>next_3 (s3++[v5])) (λs3=>some s3) xs i s) out->out=s++xs:=by
  intro xs
  induction xs with
  |nil=>intro i s hm;simpa using(Zh hm).symm
  |cons x xs ih=>?_
  intro i s hm;simp only[Zc] at hm;obtain⟨v,hv,hm⟩:=hm.bind;obtain⟨_,hm⟩:=hm.app
  have:=ih _ _ hm
  have:v=x:=(Zh hv).symm
  simp_all
 exact key rows 0 [] hm
theorem RF(h:HS)(S:Sch)(inst:List Rel)(t:ByteArray)(T:Tbl)(rows:List (List GV))(hm:Is (WZ S inst t) (T,rows))(k:Int)(ab:Is (ZY S t) (k,true))(ad:∀row∈rows,row.length<=2097152)(K:V->HS->Prop)
  (hk:∀c h',Ww h h' [A0] c (rows.map (Z6 GV.enc))->Zo h h'->K (.tup [.agg (T.enc.map C.d),.one c]) h'):
  Z3 prog 97 [.agg (S.enc.map C.d),.l (inst.map Rel.enc),.s t] h K:=by
 refine Z3.jE Tryz.func97 rfl kR λhg=>?_;refine Z3.ov Tryz.func97 ?_;unfold WZ at hm;obtain⟨kk,ae,hm⟩:=hm.bind;obtain rfl:kk=(k,true):=Option.some.inj (ae.symm.trans ab);simp;refine Zq ((UO S t).h (k,true) ab) sI ?_;simp;obtain⟨x,h0,hx,hm⟩:=Is.get (show Is (Z7 S.tables k _) _ from hm);obtain⟨x2,af,hm⟩:=hm.bind;simp[h0,hx];refine Zq ((Lu x).h x2 af) sI ?_;simp;intro hl;refine Zy hm ?_ ?_<;>clear hm<;>intro hc hm;have hq:=Zh hm;obtain⟨rfl,rfl⟩:=Prod.mk.inj hq;simp[ZG,Zz,ZL,ZR];have hs:∀h',Z0 h h' []->K (.tup [.agg (x2.enc.map C.d),.one .nil]) h':=λh' hs=>hk .nil h' (Ww.xH hs) (hs.jA hg);exact hs _ sm;obtain⟨y,h1,hy,hm⟩:=hm.get;obtain⟨aa,ag,hm⟩:=hm.bind;have hq:=Zh hm;obtain⟨rfl,rfl⟩:=Prod.mk.inj hq;simp;refine Z4.cu [0,1,2,3,4,5,6,7,8] (λe1 h1=>∃c,e1.n=38/\e1.get 6=.p (h.ep+1,96)/\h1.box (h.ep+1,96)=some [C.d (D.str x2.name),C.d (D.sl (List.map Col.enc x2.cols)),C.d (D.sl (List.map Zd x2.pk))]/\e1.get 7=.one c/\Ww h h1 [A0] c (aa.map (Z6 GV.enc))) ?_ ?_;simp[h1,hy];obtain rfl:=Lt ag;refine Za (RE _ _ ad _ λc h2 ac hb2=>?_);have hs2:=ac.same;have b6:=hs2.2 (h.ep+1,96) sI sI;simp at b6;simp[h1,hy];refine⟨hb2,?_⟩;simp[h1,hy,b6];refine Zb.of ⟨c,sI,sI,sI,sI,?_⟩;refine Ww.wO ac (ls:=[(h.ep+1,96)]) (Z0.refl.qA (.inl sI)) sI (Z0.qA (Z0.trans ?_ hs2) (.inr sI)) (by simp<;>omega);exact sm;rintro e1 h1 ⟨c,hn,h6,hb,h7,ah⟩;simp[ZG,Zz,ZL,ZR,hn,h6,hb,h7];obtain⟨qs,p,nd,hl,hs⟩:=ah;exact hk c _ ⟨qs,p,nd,hl,hs⟩ (hs.jA hg)
theorem IU(h:HS)(l:Z2)(co cn:C)(M:Mp)(t:ByteArray)(T:Tbl)(rows:List (List GV))(m:MpAt h l co cn M)(hm:Is (WZ M.src M.inp t) (T,rows))(k:Int)(ag:Is (ZY M.src t) (k,true))(ae:∀row∈rows,row.length<=2097152)(K:V->HS->Prop)
  (hk:∀c h',Ww h h' [A0] c (rows.map (Z6 GV.enc))->Zo h h'->K (.tup [.agg (T.enc.map C.d),.one c]) h'):
  Z3 prog 218 [.p l,.s t] h K:=by
 refine Z3.jE Tryz.func218 rfl kR λhg=>?_;refine Z3.ov Tryz.func218 ?_;have hb:=m.box;have ab:=m.lt l (Y6 ..);have hne:=Zm ab;have hne':=ZO ab;simp only[Wt,Mp.enc,Stp.enc,Yb,Yd,Yk,Yn] at hb;simp;refine Z4.cu [0,1,2,3,4,5,6,7,8,9,10,11,12,13] (λe1 h1=>∃c,e1.n=18/\e1.get 4=.p (h.ep,64)/\h1.box (h.ep,64)=some (T.enc.map C.d)/\e1.get 5=.one c/\Ww h h1 [A0] c (rows.map (Z6 GV.enc))) ?_ ?_;simp[hb,hne,hne'];refine Za (RF _ M.src M.inp t T rows hm k ag ae _ λc h2 ad hb2=>?_);have hs2:=ad.same;have b4:=hs2.2 (h.ep,64) sI sI;simp at b4;simp[b4];refine⟨hb2,?_⟩
 try simp[b4]
 refine Zb.of ⟨c,sI,sI,sI,sI,?_⟩;exact Ww.wO ad (ls:=[(h.ep,64)]) (Z0.refl.qA (.inl sI)) sI (Z0.qA (Z0.trans ((Z0.refl.qA (.inr sI)).next) hs2) (.inr sI)) sI;rintro e1 h1 ⟨c,hn,h4,af,h5,ac⟩;have aa:=af;simp only[Tbl.enc,Yb,Yd] at aa;simp[ZG,Zz,ZL,ZR,hn,h4,aa,h5];exact hk c _ ac (ac.same.jA hg)
theorem Ri{h:HS}{lv l:Z2}{vs:List (List D)}{nv ev off k cap:Nat}{cs:List C}(ha:h.arr lv=some (nv,ev))(ap:0<nv)(hb:h.box l=some cs)(h0:0<cs.length):
  Dz prog 239 [.one (.own lv vs),.one (.mrow l off k cap)] h (.b false):=by
 intro Γ μ w vals hI hR;obtain⟨ag,hg⟩:=hR;obtain⟨u0,al,r0⟩:=hg 0 _ rfl;obtain⟨u1,ah,r1⟩:=hg 1 _ rfl;have hv:vals=#[u0,u1]:=by
  apply XB;intro i
  match i with
  |0=>simpa using al
  |1=>simpa using ah
  |i+2=>rw[X3 (by simp at ag;omega)];simp
 subst hv;obtain⟨_,g,ab,af,rfl⟩:=(show ZX μ (.own lv vs) u0 from r0);obtain⟨b,kk,hl,rfl,_⟩:=(show ZX μ (.mrow l off k cap) u1 from r1);refine⟨.bool false,?_,RepD.bool _⟩;rw[run_callFunc_extern (fn:=Tryz.f239) Tryz.func239 kR kR kR (e:=Extern.SlicesOverlaps.overlaps #[51,51] #[4]) kR];obtain⟨b2,n2,T2,aa,hl2,_,aj,ak,_⟩:=hI.box l cs hb;rw[hl] at hl2;cases hl2;obtain⟨gc,ae,ac⟩:=hI.arr lv ev nv ha;rw[af] at ae;cases ae;cases g with|none=>?_|some g=>?_
 have:=(ac.1 rfl).2
 omega;obtain⟨_,T1,cur,ad,_⟩:=ac.2 g rfl;have hne:g≠b:=by
  rintro rfl
  have:=hI.inj lv l g ab kk (.inr (by rw[ha];simp)) (.inl (by rw[hb];simp)) af hl
  subst this;exact hI.both lv (by rw[hb];simp) (by rw[ha];simp)
 have am:aa.size=cs.length:=ak.1;obtain⟨i,z,hu,hi,ag,_⟩:=Un Kj;show Result.andThen (Sem.run prog (Extern.SlicesOverlaps.overlaps #[51,51] #[4] #[.slice (some ⟨g,0,none⟩) vs.length ab,.slice (some ⟨b,off,none⟩) k cap]) w) _=_;rw[Lib.run_overlaps_apart w 51 4 127 hu i.size (λw=>by simp[sizeOf,typeInfo,hi]) ⟨g,0,none⟩ ⟨b,off,none⟩ vs.length ab k cap hne T1 T2 cur.size aa.size (by simp[World.shape?,ad]) (by simp[World.shape?,aj]) oM (by simp[World.frozen?,ad]) (by simp[World.frozen?,ad])];rfl
theorem OV{h:HS}{n:Nat}{l:Z2}{cap m:Nat}{xs:List (List C)}{cs sp:List C}(hall:Zr n xs)(hb:h.box l=some cs)(aa:cs=xs.flatten++sp)(hl:cs.length=cap*n)(hm:xs.length=m)(hlim:xs.length<=2097152):MR h n (.mrow l 0 m cap) xs:=by subst aa hm;exact⟨hall,hlim,.inr ⟨l,cap,sp,rfl,hb,hl⟩⟩
theorem J0{h:HS}{n:Nat}{l:Z2}{cs r:List C}{off k cap:Nat}(hb:h.box l=some cs)(hk:off+k*n<=cs.length)(hr:(cs.drop off).take (k*n)=r):Wg h n (.mrow l off k cap)=some r:=by simp only[Wg,hb,Zl];rw[if_pos sO,hr]
set_option maxHeartbeats 4000000 in
theorem QT(h:HS)(c:C)(xs:List (List C))(lv:Z2)(d:List D)(i:Nat)(hm:MR h 3 c xs)(a8:∀k∈labs c,k.1<h.ep)(hi:i<=xs.length)(ha:h.arr lv=some (1,3))(hd:d.length=3)(hlim:xs.length+1<=2097152)(K:V->HS->Prop)
  (hk:∀c' h',MR h' 3 c' (xs.take i++[d.map C.d]++xs.drop i)->Z0 h h' (labs c)->(∀k∈labs c',k∈labs c\/(h.ep<=k.1/\k.1<h'.ep))->K (.one c') h'):
  Z3 prog 221 [.one c,.i (i:Int),.one (.own lv [d])] h K:=by
 refine Z3.ov Tryz.func221 ?_;have hV:(d.map C.d).length=3:=by simp[hd]
 have ag:Zr 3 (xs.take i++[d.map C.d]++xs.drop i):=by refine Zr.append.2 ⟨Zr.append.2 ⟨hm.1.take,by intro x hx;rw[Yu.1 hx];exact hV⟩,hm.1.drop⟩
 rcases hm.2.2 with⟨h1,bf⟩|⟨l,cap,sp,rfl,hb,hcap⟩
 .subst h1;obtain rfl:i=0:=by simpa using hi
  rcases bf with rfl|rfl
  all_goals
   simp;refine ME Fb ?_;refine W5 Wv kR dE dE hm (Zk.qU hd) sI (λc' h' ap aq hl'=>?_);simp;exact hk _ _ (by simpa using ap) aq hl'
 obtain⟨A,hA⟩:∃A,(xs.take i).flatten=A:=⟨_,rfl⟩;obtain⟨B,hB⟩:∃B,(xs.drop i).flatten=B:=⟨_,rfl⟩;have aa:A.length=i*3:=by rw[<-hA,(Zr.take hm.1).flatten,YE,Nat.min_eq_left hi]
 have ae:B.length=(xs.length-i)*3:=by rw[<-hB,(Zr.drop hm.1).flatten,YZ]
 have hF:xs.flatten=A++B:=by rw[<-hA,<-hB,<-Xo,YI]
 have am:∀s:List C,(xs.take i++[d.map C.d]++xs.drop i).flatten++s=A++d.map C.d++B++s:=by intro s;rw[Xo,Xo,hA,hB];simp
 have al:(xs.take i++[d.map C.d]++xs.drop i).length=xs.length+1:=sO;rw[Z8,hF] at hb hcap;simp only[Ye,aa,ae] at hcap;generalize hV0:d.map C.d=V0 at hk hV ag am al;simp;refine WM ⟨oM,oM⟩ (λ_=>?_) (λ_=>?_)
 all_goals
  simp;refine Aq (λhe=>?_) (λhe=>?_);have a1:i=xs.length:=by simp at he;omega
  subst a1;simp;refine ME Fb ?_;refine W5 Wv kR dE dE hm (Zk.qU hd) sO (λc' h' ap aq hl'=>?_);simp;exact hk _ _ (by simpa[hV0] using ap) aq hl';have a1:i<xs.length:=by
   have:(i:Int)≠xs.length:=by simpa using he
   omega
  have ab:IntKind.i64.wrap ((xs.length:Int)+1)=(xs.length:Int)+1:=Y5 _ oM;have ac:IntKind.i64.wrap ((i:Int)+1)=(i:Int)+1:=Y5 _ oM;simp[ab];refine NC Wv ?_;simp[ab,ac];refine WR (λhlt=>?_) (λhge=>?_);have bg:cap<xs.length+1:=oM
  have hic:i<=cap:=oM;have hc0:0<cap:=oM;have af:IntKind.i64.wrap ((xs.length:Int)+1-i)=(xs.length:Int)+1-i:=Y5 _ oM;simp[ab,ac,af];refine WM oM (λ_=>?_) (λh9=>absurd hc0 (by simpa using h9));simp[ab,ac,af];have hN:i+((xs.length:Int)+1-i).toNat=xs.length+1:=oM
  refine N6 Wv dE (kk:=.i64) rfl kR dE dE oM (by show(i:Int)+_<=2097152;omega) oM (old:=A) (J0 hb (by simp only[Ye,aa,ae];omega) (by rw[Xx,Yy,<-aa];simp)) aa (λcap' aw=>?_);rw[hN] at aw|-;have az:i<cap':=oM
  simp[ab,ac,af];refine WM oM (λ_=>?_) (λh9=>absurd az (by simpa using h9));simp[ab,ac,af];have hz:(0:Int)<=(i:Int)+1:=oM
  refine NB Fb ?_;refine Bk (n:=3) (new:=V0) (m:=1) (mk:=1) (cs':=A++V0++List.replicate ((cap'-i)*3-3) .any) Wv (by simp[Wg,C.qE,hd,hV0]) (by simp[ZW,C.qE]) (by simp;rfl) dE (by simpa using hV) (by simp only[Ye,X1,aa];omega) oM (by rw[Yr oM,AQ aa.symm,hV];simp) ?_;simp[ab,ac,af];refine Z4.cu [0,1,2,3,4,5,6,7,8] (λe1 h1=>e1.n=95/\e1.get 9=.one (.mrow (h.ep,640) 0 (xs.length+1) cap')/\h1.box (h.ep,640)=some (A++V0++B++List.replicate ((cap'-(xs.length+1))*3) .any)/\Z0 h h1 []/\h.ep<h1.ep) ?_ ?_;simp[ab,ac,af];simp only[hz,if_true];refine WM sO (λ_=>?_) (λh9=>absurd (oM:i+1<cap') (by simpa using h9));simp[ab,ac,af];refine WM oM (λ_=>?_) (λh9=>absurd (oM:i<cap) (by simpa using h9));simp[ab,ac,af];have ay:l.1<h.ep:=a8 l (by simp[labs]);have hne:l≠(h.ep,640):=by rintro rfl;simp at ay
  refine Bk (n:=3) (new:=B) (m:=xs.length-i) (mk:=xs.length-i) (cs:=A++V0++List.replicate ((cap'-i)*3-3) .any) (cs':=A++V0++B++List.replicate ((cap'-(xs.length+1))*3) .any) Wv
   (J0 (cs:=A++B++sp) (by simp[hne,hb]) (by simp only[Ye,aa,ae];omega) (by rw[Yy,<-aa,XI,<-ae,XS])) rfl sI dE ae (by simp only[Ye,X1,aa,hV];omega) oM ?_ ?_
  rw[<-ae,Yr (Y7 _),AQ (a:=A++V0) (by simp only[Ye,aa,hV];omega),ae];have e9:(cap'-i)*3-3-(xs.length-i)*3=(cap'-(xs.length+1))*3:=oM
  simp[e9];refine Zb.of ?_;simp;exact(((Z0.refl.qA (.inr sI)).next).qA (.inr sI)).qA (.inr sI);rintro e1 h1 ⟨hn,h9,ax,au,bi⟩;simp[hn,h9];refine hk _ _ ?_ (au.mn) (by simp[labs];exact .inr oM);exact OV ag ax (am _).symm (by simp only[Ye,X1,aa,ae,hV];omega) al (by rw[al];omega);have bh:xs.length+1<=cap:=oM
  have hic:i<cap:=oM;have hz:(0:Int)<=(xs.length:Int)+1:=oM;have ah:(0:Int)<=(i:Int)+1:=oM;have hN:((xs.length:Int)+1).toNat=xs.length+1:=oM;simp[ab,ac,hz,ah,hN];refine WM oM (λ_=>?_) (λh9=>absurd (oM:0<cap) (by simpa using h9));simp[ab,ac,hz,ah,hN];refine WM oM (λ_=>?_) (λh9=>absurd (oM:i+1<cap) (by simpa using h9));simp[ab,ac,hz,ah,hN];refine P0 (Ri ha dE hb (by simp only[Ye,aa,ae];omega)) ?_;simp[ab,ac,hz,ah,hN];obtain⟨s0,sp1,rfl,aj⟩:∃s0 sp1,sp=s0++sp1/\s0.length=3:=⟨sp.take 3,sp.drop 3,(YI _ _).symm,by rw[YE];omega⟩;simp only[Ye,aj] at hcap;have ay:l.1<h.ep:=a8 l (by simp[labs]);obtain⟨b0,B1,rfl,ak⟩:∃b0 B1,B=b0++B1/\b0.length=3:=⟨B.take 3,B.drop 3,(YI _ _).symm,by rw[YE];omega⟩;have ar:B1.length=(xs.length-i)*3-3:=by simp only[Ye,ak] at ae;omega
  have ad:=ae;generalize hBB:b0++B1=BB at ad am;refine Z4.cu [0,1,2,3,4,5,6,7,8] (λe1 h1=>e1.n=95/\e1.get 0=.one (.mrow l 0 (xs.length+1) cap)/\e1.get 1=.i (i:Int)/\e1.get 2=.one (.own lv [d])/\h1.box l=some (A++b0++BB++sp1)/\Z0 h h1 [l]) ?_ ?_;simp[ab,ac,hz,ah,hN];refine WM oM (λ_=>?_) (λh9=>absurd (oM:i+1<cap) (by simpa using h9));simp[ab,ac,hz,ah,hN];refine WM oM (λ_=>?_) (λh9=>absurd (oM:i<cap) (by simpa using h9));simp[ab,ac,hz,ah,hN];refine Bk (n:=3) (new:=BB++s0) (m:=xs.length+1-i) (mk:=xs.length-i) (cs:=A++(b0++B1)++(s0++sp1)) (cs':=A++b0++BB++sp1) Wv
   (J0 (cs:=A++(b0++B1)++(s0++sp1)) (by simp[hb]) (by simp only[Ye,aa,ak,ar,aj];omega) (by
    rw[hBB,Yy,<-aa,XI,<-Yy]
    have:(xs.length+1-i)*3=(BB++s0).length:=by simp only[Ye,ad,aj];omega
    rw[this,XS])) rfl (by simp[hb]) dE (by simp only[Ye,ad,aj];omega) (by simp only[Ye,aa,ak,ar,aj];omega) oM ?_ ?_
  have bd:(BB++s0).take ((xs.length-i)*3)=BB:=by rw[<-ad,XS]
  have ba:A++(b0++B1)++(s0++sp1)=(A++b0)++(B1++s0++sp1):=sI;have be:(B1++s0++sp1).drop BB.length=sp1:=by
   have:BB.length=(B1++s0).length:=by rw[ad];simp only[Ye,ar,aj];omega
   rw[this,XI]
  rw[bd,ba,AQ (by simp only[Ye,aa,ak];omega),be];refine Zb.of ?_;simp;exact Z0.refl.qA (.inl sI);rintro e1 h1 ⟨hn,h0,a7,h2,ax,au⟩;simp[hn,h0,a7,h2];refine WM oM (λ_=>?_) (λh9=>absurd hic (by simpa using h9));simp[hn,h0,a7,h2];refine NB Fb ?_;refine Bk (n:=3) (new:=V0) (m:=1) (mk:=1) (cs:=A++b0++BB++sp1) (cs':=A++V0++BB++sp1) Wv (by simp[Wg,C.qE,hd,hV0]) (by simp[ZW,C.qE]) (by simp[ax]) dE (by simpa using hV) (by simp only[Ye,aa,ak,ad];omega) oM ?_ ?_;have bc:A++b0++BB++sp1=A++(b0++BB++sp1):=sI
  have bb:(b0++BB++sp1).drop b0.length=BB++sp1:=by rw[Yy,XI]
  rw[Yr oM,bc,AQ aa.symm,hV,<-ak,bb];simp;simp[hn,h0];refine hk _ _ ?_ ((au.qA (.inl sI)).mono (by simp[labs])) (by simp[labs]);exact OV (cs:=A++V0++BB++sp1) (sp:=sp1) ag sI (am _).symm (by simp only[Ye,aa,ad,hV];omega) al (by rw[al];omega)
end
end Go.Am
section
namespace Go.Am
open Go.RowKit (Below)
section
variable{P:Program}{w:World}{a:Act}{e:Env}{h:HS}{μ:Mem}{Γ:Ctx}
def HS.only(h:HS)(ls:List Z2):HS:={h with box:=λl=>if l∈ls then h.box l else none,arr:=λ_=>none}
def HS.qQ(h:HS)(ls:List Z2):HS:={h with box:=λl=>if l∈ls then none else h.box l}
open Classical in
noncomputable def Mem.frz (μ:Mem) (h:HS) (ls:List Z2) (w:World):Mem:=
 {μ with cell:=λb o=>match μ.cell b o with
   |some v=>some v
   |none=>if∃l cs n,l∈ls/\h.box l=some cs/\μ.loc l=some (some b,n) then w.cell? ⟨b,o,none⟩ else none}
theorem Mem.rF{ls}{b o:Nat}{v}(hv:(μ.frz h ls w).cell b o=some v):μ.cell b o=some v\/((∃l cs n,l∈ls/\h.box l=some cs/\μ.loc l=some (some b,n))/\w.cell? ⟨b,o,none⟩=some v):=by
 simp only[Mem.frz] at hv;cases hx:μ.cell b o with
 |some y=>rw[hx] at hv;exact .inl hv
 |none=>?_
 rw[hx] at hv;simp only at hv;split at hv;rename_i hq;exact .inr ⟨hq,hv⟩;cases hv
theorem Mem.rG{ls}{b o:Nat}(h1:μ.cell b o=none)(h2:∀l cs n,l∈ls->h.box l=some cs->μ.loc l=some (some b,n)->False):(μ.frz h ls w).cell b o=none:=by simp only[Mem.frz,h1];rw[if_neg];rintro⟨l,cs,n,q1,q2,q3⟩;exact h2 l cs n q1 q2 q3
theorem Mem.jG{ls}:Mem.Le μ (μ.frz h ls w):=⟨λb o v hv=>by simp[Mem.frz,hv],rfl,λ_ _ hx=>hx⟩
theorem Inv.only(hI:Inv Γ h μ w)(ls):Inv Γ (h.only ls) μ w:=by
 have hb:∀{l cs},(h.only ls).box l=some cs->h.box l=some cs:=by intro l cs hl;simp only[HS.only] at hl;split at hl;exact hl;cases hl
 have hv:∀{l},(h.only ls).live l->h.live l:=by
  rintro l (hl|hl);cases hx:(h.only ls).box l with
  |none=>exact absurd hx hl
  |some cs=>exact .inl (by rw[hb hx];simp)
  exact absurd rfl hl
 exact⟨hI.cell,hI.tmp,hI.tcell,hI.told,hI.ext,hI.old,hI.below,λl cs hl=>hI.box l cs (hb hl),λl es n hl=>by simp[HS.only] at hl,λl l' b n n' h1 h2=>hI.inj l l' b n n' (hv h1) (hv h2),hI.lt,λl _ hl=>hl rfl⟩
theorem Inv.frz(hI:Inv Γ h μ w)(ls):Inv Γ (h.qQ ls) (μ.frz h ls w) w:=by
 have hb:∀{l cs},(h.qQ ls).box l=some cs->h.box l=some cs/\l∉ls:=by intro l cs hl;simp only[HS.qQ] at hl;split at hl;cases hl;exact⟨hl,by assumption⟩
 have hv:∀{l},(h.qQ ls).live l->h.live l:=by
  rintro l (hl|hl);cases hx:(h.qQ ls).box l with
  |none=>exact absurd hx hl
  |some cs=>exact .inl (by rw[(hb hx).1];simp)
  exact .inr hl
 refine⟨λb o v hq=>?_,hI.tmp,hI.tcell,hI.told,λb o v hq=>Mem.jG.cell _ _ _ (hI.ext _ _ _ hq),λb o v hlt hq=>?_,hI.below,λl cs hl=>?_,λl es n hl=>?_,λl l' b n n' h1 h2=>hI.inj l l' b n n' (hv h1) (hv h2),hI.lt,λl h1 h2=>?_⟩;rcases Mem.rF hq with h1|⟨_,h1⟩;exact hI.cell _ _ _ h1;exact h1;rcases Mem.rF hq with h1|⟨⟨l,cs,n,_,q2,q3⟩,_⟩;exact hI.old _ _ _ hlt h1;obtain⟨b',n',T,conc,h1,h2,_⟩:=hI.box l cs q2;rw[q3] at h1;cases h1;omega;obtain⟨h1,h2⟩:=hb hl;obtain⟨b,n,T,conc,q1,q2,q3,q4,q5⟩:=hI.box l cs h1;refine⟨b,n,T,conc,q1,q2,q3,q4.mono Mem.jG,λo=>Mem.rG (q5 o) λl' cs' n' r1 r2 r3=>?_⟩
 have:=hI.inj l l' b n n' (.inl (by rw[h1];simp)) (.inl (by rw[r2];simp)) q1 r3
 subst this;exact h2 r1;obtain⟨gc,q1,q2⟩:=hI.arr l es n hl;refine⟨gc,q1,q2.1,λg hg=>?_⟩;obtain⟨r1,T,cur,r2,r3,r4,r5,r6⟩:=q2.2 g hg;refine⟨r1,T,cur,r2,r3,r4,r5,λo ho=>Mem.rG (r6 o ho) λl' cs' n' s1 s2 s3=>?_⟩;have hl':h.arr l≠none:=by
  have:h.arr l=some (n,es):=hl
  rw[this];simp
 obtain⟨g1,g2⟩:=gc;simp only at hg;subst hg
 have:=hI.inj l l' g g2 n' (.inr hl') (.inl (by rw[s2];simp)) q1 s3
 subst this;exact hI.both l (by rw[s2];simp) hl';cases hx:(h.qQ ls).box l with
 |none=>exact h1 hx
 |some cs=>exact hI.both l (by rw[(hb hx).1];simp) h2
theorem Z57(hI:Inv Γ h μ w)(ls){c x v}(hf:Frz (h.only ls) c x)(hc:ZX μ c v):RepD (μ.frz h ls w).cell x v:=by
 refine Kv (hI.only ls) Mem.jG.cell (λl cs b n o u hb hl hu=>?_) hf hc;simp only[HS.only] at hb;split at hb;rename_i hm;obtain⟨b',n',T,conc,q1,_,_,_,q5⟩:=hI.box l cs hb;rw[hl] at q1;simp only[Ya,Yt] at q1;obtain⟨rfl,_⟩:=q1;simp only[Mem.frz,q5 o];rw[if_pos ⟨l,cs,n,hm,hb,hl⟩];exact hu;cases hb
def BI(h:HS)(c c':C):Prop:=c=c'\/∃x,c'=.d x/\Frz h c x
def Us(h:HS):List C->List C->Prop
 |[],[]=>True
 |c::cs,x::xs=>BI h c x/\Us h cs xs
 |_,_=>False
def Vx(h:HS):V->V->Prop
 | .one c,.one c'=>BI h c c'
 | .agg cs,.agg cs'=>Us h cs cs'
 |v,v'=>v=v'
def AT(h:HS):List V->List V->Prop
 |[],[]=>True
 |v::vs,x::xs=>Vx h v x/\AT h vs xs
 |_,_=>False
def FK(h:HS):V->V->Prop
 | .tup vs,.tup vs'=>AT h vs vs'
 |v,v'=>Vx h v v'
theorem Us.get:∀{cs cs':List C},Us h cs cs'->cs.length=cs'.length/\∀(i:Nat) c',cs'[i]?=some c'->∃c,cs[i]?=some c/\BI h c c'
 |[],[],_=>⟨rfl,λi x hi=>by simp at hi⟩
 |c::cs,y::xs,hr=>by
   obtain⟨h1,h2⟩:=Us.get hr.2;refine⟨by simp[h1],λi x hi=>?_⟩;cases i with
   |zero=>simp at hi;subst hi;exact⟨c,sI,hr.1⟩
   |succ i=>obtain⟨c',h3,h4⟩:=h2 i x (by simpa using hi);exact⟨c',by simpa using h3,h4⟩
 |[],_::_,hr=>hr.elim
 |_::_,[],hr=>hr.elim
theorem AT.get:∀{cs cs':List V},AT h cs cs'->cs.length=cs'.length/\∀(i:Nat) c',cs'[i]?=some c'->∃c,cs[i]?=some c/\Vx h c c'
 |[],[],_=>⟨rfl,λi x hi=>by simp at hi⟩
 |c::cs,y::xs,hr=>by
   obtain⟨h1,h2⟩:=AT.get hr.2;refine⟨by simp[h1],λi x hi=>?_⟩;cases i with
   |zero=>simp at hi;subst hi;exact⟨c,sI,hr.1⟩
   |succ i=>obtain⟨c',h3,h4⟩:=h2 i x (by simpa using hi);exact⟨c',by simpa using h3,h4⟩
 |[],_::_,hr=>hr.elim
 |_::_,[],hr=>hr.elim
theorem BI.rep(hI:Inv Γ h μ w)(ls){c c' v}(hf:BI (h.only ls) c c')(hc:ZX μ c v):ZX (μ.frz h ls w) c' v:=by rcases hf with rfl|⟨x,rfl,hf⟩;exact hc.mono Mem.jG;exact Z57 hI ls hf hc
theorem Vx.wD(hI:Inv Γ h μ w)(ls){v v' u}(hf:Vx (h.only ls) v v')(hv:Ay μ v u):Ay (μ.frz h ls w) v' u:=by
 cases v with
 |one c=>cases v'<;>first|exact BI.rep hI ls hf hv|cases hf
 |agg cs=>?_
 |top=>cases v'<;>first|trivial|cases hf
 |undef=>cases v'<;>first|exact hv|cases hf
 |tup vs=>exact hv.elim
 cases v' with
 |agg cs'=>?_
 |_=>cases hf
 obtain⟨vs,h1,h2⟩:=hv;obtain⟨h3,h4⟩:=Us.get hf;refine⟨vs,h1,by rw[h2.1,h3],λi c' hi=>?_⟩;obtain⟨c,h5,h6⟩:=h4 i c' hi;obtain⟨u',h7,h8⟩:=h2.2 i c h5;exact⟨u',h7,h6.rep hI ls h8⟩
theorem Vx.rep(hI:Inv Γ h μ w)(ls){v v' u}(hf:Vx (h.only ls) v v')(hv:ZS μ v u):ZS (μ.frz h ls w) v' u:=by
 cases v with
 |tup vs=>cases v'<;>first|(cases hf;done)|(cases hf;exact hv.mono Mem.jG)
 |one c=>have:=Vx.wD hI ls hf hv;cases v'<;>first|exact this|cases hf
 |agg c=>have:=Vx.wD hI ls hf hv;cases v'<;>first|exact this|cases hf
 |top=>have:=Vx.wD (u:=u) hI ls hf hv;cases v'<;>first|exact this|cases hf
 |undef=>have:=Vx.wD hI ls hf hv;cases v'<;>first|exact this|cases hf
theorem FK.rep(hI:Inv Γ h μ w)(ls){v v' u}(hf:FK (h.only ls) v v')(hv:ZS μ v u):ZS (μ.frz h ls w) v' u:=by
 cases v with
 |tup vs=>?_
 |one c=>exact Vx.rep hI ls (by cases v'<;>exact hf) hv
 |agg c=>exact Vx.rep hI ls (by cases v'<;>exact hf) hv
 |top=>exact Vx.rep hI ls (by cases v'<;>exact hf) hv
 |undef=>exact Vx.rep hI ls (by cases v'<;>exact hf) hv
 cases v' with
 |tup vs'=>?_
 |_=>cases hf
 obtain⟨us,h1,h2,h3⟩:=hv;obtain⟨h4,h5⟩:=AT.get hf;refine⟨us,h1,by rw[h2,h4],λi x hi=>?_⟩;obtain⟨y,h6,h7⟩:=h5 i x hi;obtain⟨u',h8,h9⟩:=h3 i y h6;exact⟨u',h8,h7.wD hI ls h9⟩
theorem BI.refl{c}:BI h c c:=.inl rfl
theorem Vx.refl{v}:Vx h v v:=by
 have aa:∀cs:List C,Us h cs cs:=by intro cs;induction cs with|nil=>trivial|cons c cs ih=>exact⟨.refl,ih⟩
 cases v<;>first|exact .inl rfl|exact aa _|rfl
theorem Z3.jQ{f:FuncId}{vs vs' K}(ls)(hf:AT (h.only ls) vs vs')(hs:Z3 P f vs' (h.qQ ls) K):Z3 P f vs h K:=by
 refine⟨hs.1,λΓ μ w vals hI hR=>?_⟩;obtain⟨h4,h5⟩:=AT.get hf;refine(hs.2 Γ (μ.frz h ls w) w vals (hI.frz ls) ⟨by rw[hR.1,h4],λi x hi=>?_⟩).mono ?_;obtain⟨y,h6,h7⟩:=h5 i x hi;obtain⟨u',h8,h9⟩:=hR.2 i y h6;exact⟨u',h8,h7.rep hI ls h9⟩;rintro en w' ⟨u,v,h',μ',rfl,hk,aa,hr,ab⟩;exact⟨u,v,h',μ',rfl,hk,aa,hr,Mem.jG.trans ab⟩
theorem Z3.rP{f:FuncId}{vs}{K:V->HS->Prop}(hs:Z3 P f vs h (λv h'=>∃ls v',FK (h'.only ls) v v'/\K v' (h'.qQ ls))):Z3 P f vs h K:=by
 refine⟨hs.1,λΓ μ w vals hI hR=>?_⟩;refine(hs.2 Γ μ w vals hI hR).mono ?_;rintro en w' ⟨u,v,h',μ',rfl,⟨ls,v',hf,hk⟩,aa,hr,ab⟩;exact⟨u,v',_,_,rfl,hk,aa.frz ls,hf.rep aa ls hr,ab.trans Mem.jG⟩
end
end Go.Am
end
namespace Go.Am
section
def UL(m:Mp)(table:ByteArray):Option Tbl:=
 Z1 (ZY m.dst table) λv2=>Z7 m.dst.tables v2.1 λx3=>some x3
instance Zao(m:Mp)(table:ByteArray):Con (UL m table) prog 219 [.one (.rp m.enc),.one (.d (.str table))] (λr=>.agg (r.enc.map RC.d)):=by unfold UL;exact go 24 Tryz.func219
def A8(m:Mp)(key:List GV):Option ((List GV)×Bool):=
 Z7 m.cs.tables 0 λx1=>Z7 m.comp 0 λx3=>Z1 (Uj x1 x3.rows key) λv4=>bif !v4.2 then some ([],false) else Z7 x3.rows v4.1 λx6=>Zp (0<=(x1.pk.length:Int)/\(x1.pk.length:Int)<=(x6.length:Int)/\(x6.length:Int)<=(x6.length:Int)) (Z1 (CC ((x6.take x6.length).drop x1.pk.length)) λv9=>some (v9,true))
instance Zap(m:Mp)(key:List GV):Con (A8 m key) prog 220 [.one (.rp m.enc),.one (.d (.sl (key.map GV.enc)))] (λr=>.tup [.one (.d (.sl (r.1.map GV.enc))),.one (.d (.bool r.2))]):=by unfold A8;have p1:PH [6] (Plan.qB [0,1,2,3,4,5,6,7,8,9,10] .done):=.intro;exact go 42 Tryz.func220
def Dt(rows:List (List GV)):Prop:=rows.length<=2097152/\∀row∈rows,row≠[]/\row.length<=2097152
instance(rows:List (List GV)):Decidable (Dt rows):=inferInstanceAs (Decidable (_/\_))
abbrev Wj(row:List GV):List (List C):=(row.map GV.enc).map (·.map C.d)
theorem Z7q{h x row ls}(o:Ow h [A0] [x] [.sl (row.map GV.enc)] ls)(hne:row≠[]):MR h 3 x (Wj row)/\ls=labs x:=by
 rcases o.jV with⟨c,cs,ds,_,h2,_⟩|⟨c,qs,cs',ab,ls',h1,h2,h3,hm,hq,hr⟩;simp at h2;exact absurd h2.1 hne;obtain⟨rfl,rfl,rfl⟩:=hr.qV;simp only[List.cons.injEq,and_true,D.sl.injEq] at h1 h2;subst h1;have hf:=λq aa=>(hq q aa).flat (n:=3) rfl λd hd=>by
  have:q.2.1∈row.map GV.enc:=by rw[h2];exact Yi.2 ⟨q,aa,rfl⟩
  obtain⟨v,_,hv⟩:=Yi.1 this;rw[<-hv] at hd;simp at hd;rcases hd with rfl|rfl|rfl<;>rfl
 have e1:qs.map (·.1)=Wj row:=by
  rw[Wj,h2,Xe];exact XH λq aa=>(hf q aa).1
 have e2:qs.flatMap (·.2.2)=[]:=by
  rw[Xw];exact λq aa=>(hf q aa).2
 rw[e1] at hm;exact⟨hm,by rw[h3,e2];simp⟩
theorem C7{h c row}(m:MR h 3 c (Wj row)):Frz h c (.sl (row.map GV.enc)):=(OB m).frz.1
structure Rest(h:HS)(c:C)(qs:List NQ)(rows:List (List GV))(i:Nat):Prop where
 mr:MR h 1 c (qs.map (·.1))
 ds:qs.map (·.2.1)=rows.map (Z6 GV.enc)
 ow:∀j q,i<=j->qs[j]?=some q->Ow h [A0] q.1 q.2.1 q.2.2
theorem Rest.of{h h' c rows}(g:Ww h h' [A0] c (rows.map (Z6 GV.enc))):∃qs,Rest h' c qs rows 0/\(Z5 c qs).Nodup/\∀k∈Z5 c qs,h.ep<=k.1/\k.1<h'.ep:=by
 obtain⟨qs,p,nd,hl,_⟩:=g;exact⟨qs,⟨p.mr,p.ds,λj q _ hq=>p.ow q (Y4 hq)⟩,nd,hl⟩
theorem Rest.frame{h h' c qs rows}{i:Nat}(r:Rest h c qs rows i)(hb:∀k∈Z5 c qs,h'.box k=h.box k):Rest h' c qs rows i:=
 ⟨r.mr.frame λl hl=>hb l (by simp[Z5,hl]),r.ds,λj q hj hq=>(r.ow j q hj hq).frame λl hl=>hb l (VY hq hl)⟩
theorem Rest.at{h c qs rows}{i:Nat}(r:Rest h c qs rows i)(nd:(Z5 c qs).Nodup)(hne:∀row∈rows,row≠[])(hi):
  ∃lr cap sp x,qs[i]?.map (·.1)=some [x]/\c=.mrow lr 0 rows.length cap/\h.box lr=some (Z8 (qs.map (·.1)) sp)/\Zl 1 ((Z8 (qs.map (·.1)) sp).drop (i*1))=some [x]/\MR h 3 x (Wj rows[i])/\(∀k∈labs x,k∈Z5 c qs/\k≠lr)/\
    ∀h',(∀k∈Z5 c qs,k∉labs x->h'.box k=h.box k)->Rest h' c qs rows (i+1):=by
 have hlen:qs.length=rows.length:=by have:=congrArg List.length r.ds;simpa using this
 have hq:qs[i]?=some qs[i]:=Y1 oM;have ho:=r.ow i _ (Y7 _) hq;have hd:qs[i].2.1=[.sl (rows[i].map GV.enc)]:=by
  have:=congrArg (λz=>z[i]?) r.ds
  simp only[Y8,hq,Y1 hi,Yj,Ya] at this;exact this
 obtain⟨lr,cap,sp,hc,hb,hcap⟩:=r.mr.block sO;have h1:qs[i].1.length=1:=r.mr.1 _ (Yi.2 ⟨_,Yf _,rfl⟩);obtain⟨x,hx⟩:∃x,qs[i].1=[x]:=by
  match _:qs[i].1,h1 with
  |[x],_=>exact⟨x,rfl⟩
 rw[hd,hx] at ho;obtain⟨hm,ac⟩:=Z7q ho (hne _ (Yf hi));have aa:∀k∈labs x,k∈Z5 c qs/\k∉labs c:=λk hk=>⟨VY hq (by rw[ac];exact hk),Ak nd hq (by rw[ac];exact hk)⟩;refine⟨lr,cap,sp,x,by rw[hq,Yj,hx],by simpa[hlen] using hc,hb,?_,hm,λk hk=>⟨(aa k hk).1,λhe=>(aa k hk).2 (by rw[hc];simp[labs,he])⟩,λh' hb'=>⟨?_,r.ds,λj q hj ab=>?_⟩⟩
 have:=Vf (sp:=sp) (f:=0) (m:=1) r.mr.1 (by rw[Y8,hq,Yj,hx]) sI
 simpa[Zl] using this;exact r.mr.frame λl hl=>hb' l (by simp[Z5,hl]) λh9=>(aa l h9).2 hl;exact(r.ow j q oM ab).frame λl hl=>hb' l (VY ab hl) λh9=>(EF nd hq ab oM hl).2 (by rw[ac];exact h9)
structure LM(h0 h3:HS)(bs:List (Z2×List C))(c:C)(qs:List NQ)(rows:List (List GV))(gs:List (C×List (List GV)))(i:Nat)(h:HS):Prop where
 box:∀b∈bs,h.box b.1=some b.2
 rest:Rest h c qs rows i
 row:∀g∈gs,MR h 1 g.1 (Zn (g.2.map rowc))
 same:Z0 h0 h []
 ep:h3.ep<=h.ep
 lab:∀g∈gs,∀k∈labs g.1,h3.ep<=k.1/\k.1<h.ep
 dis:(gs.flatMap λg=>labs g.1).Nodup
 sb:∀b∈bs,b.1.1<h3.ep/\b.1∉Z5 c qs
 sq:∀k∈Z5 c qs,h0.ep<=k.1/\k.1<h3.ep
 nd:(Z5 c qs).Nodup
 s0:h0.ep<=h3.ep
 ne:∀row∈rows,row≠[]
theorem LM.new{h0 h3 h h' bs c qs rows gs}{i:Nat}(m:LM h0 h3 bs c qs rows gs i h)(hs:Z0 h h' []):LM h0 h3 bs c qs rows gs i h' where
 box:=λb hb=>(hs.2 _ (Y3 (m.sb b hb).1 m.ep) sI).trans (m.box b hb)
 rest:=m.rest.frame λk hk=>hs.2 k (Y3 (m.sq k hk).2 m.ep) sI
 row:=λg hg=>(m.row g hg).frame λk hk=>hs.2 k (m.lab g hg k hk).2 sI
 same:=m.same.trans hs
 ep:=Yv m.ep hs.1
 lab:=λg hg k hk=>⟨(m.lab g hg k hk).1,Y3 (m.lab g hg k hk).2 hs.1⟩
 dis:=m.dis
 sb:=m.sb
 sq:=m.sq
 nd:=m.nd
 s0:=m.s0
 ne:=m.ne
theorem LM.at{h0 h3 h bs c qs}{rows:List (List GV)}{gs:List (C×List (List GV))}{i:Nat}(m:LM h0 h3 bs c qs rows gs i h)(hi):
  ∃lr cap sp x,qs[i]?.map (·.1)=some [x]/\c=.mrow lr 0 rows.length cap/\h.box lr=some (Z8 (qs.map (·.1)) sp)/\Zl 1 ((Z8 (qs.map (·.1)) sp).drop i)=some [x]/\MR h 3 x (Wj rows[i])/\∀k∈labs x,k.1<h3.ep:=by
 obtain⟨lr,cap,sp,x,hx,h1,h2,h4,h5,h6,_⟩:=m.rest.at m.nd m.ne hi;exact⟨lr,cap,sp,x,hx,h1,h2,by simpa using h4,h5,λk hk=>(m.sq k (h6 k hk).1).2⟩
theorem LM.jO{h0 h3 h bs c qs rows gs}{i:Nat}(m:LM h0 h3 bs c qs rows gs i h)(hi){x}(hx:qs[i]?.map (·.1)=some [x]):MR h 3 x (Wj rows[i]):=by obtain⟨_,_,_,x',aa,_,_,_,h5,_⟩:=m.at hi;rw[hx] at aa;cases aa;exact h5
theorem LM.use{h0 h3 h h' bs c qs rows}{gs:List (C×List (List GV))}{i:Nat}{x:C}(m:LM h0 h3 bs c qs rows gs i h)(hi:i<rows.length)(hx:qs[i]?.map (·.1)=some [x])(hs:Z0 h h' (labs x)):LM h0 h3 bs c qs rows gs (i+1) h':=by
 obtain⟨lr,cap,sp,x',ab,h1,h2,h4,h5,h6,h7⟩:=m.rest.at m.nd m.ne hi;rw[hx] at ab;cases ab;have hg:∀g∈gs,∀k∈labs g.1,k∉labs x:=λg hg k hk h9=>by
  have:=(m.lab g hg k hk).1
  have:=(m.sq k (h6 k h9).1).2
  omega
 exact⟨λb hb=>(hs.2 _ (Y3 (m.sb b hb).1 m.ep) λh9=>(m.sb b hb).2 (h6 _ h9).1).trans (m.box b hb),h7 h' λk hk hn=>hs.2 k (Y3 (m.sq k hk).2 m.ep) hn,
  λg aa=>(m.row g aa).frame λk hk=>hs.2 k (m.lab g aa k hk).2 (hg g aa k hk),m.same.trans' hs λk hk=>.inr (m.sq k (h6 k hk).1).1,Yv m.ep hs.1,
  λg aa k hk=>⟨(m.lab g aa k hk).1,Y3 (m.lab g aa k hk).2 hs.1⟩,m.dis,m.sb,m.sq,m.nd,m.s0,m.ne⟩
theorem LM.skip{h0 h3 h bs c qs rows gs}{i:Nat}(m:LM h0 h3 bs c qs rows gs i h):LM h0 h3 bs c qs rows gs (i+1) h:=
 {m with rest:=⟨m.rest.mr,m.rest.ds,λj q hj hq=>m.rest.ow j q oM hq⟩}
theorem LM.set{h0 h3 h h' bs c c' qs rows rs'}{gs:List (C×List (List GV))}{i j:Nat}{g}(m:LM h0 h3 bs c qs rows gs i h)(hj:gs[j]?=some g)(hm:MR h' 1 c' (Zn (rs'.map rowc)))(hs:Z0 h h' (labs g.1))(hl:∀k∈labs c',k∈labs g.1\/(h.ep<=k.1/\k.1<h'.ep)):
  LM h0 h3 bs c qs rows (gs.set j (c',rs')) i h':=by
 have ah:=Y4 hj;have ag:=(Y0.1 hj).1;have hlab:=m.lab g ah;have ae:∀(k1 k2:Nat) g1 g2,gs[k1]?=some g1->gs[k2]?=some g2->k1≠k2->∀k∈labs g1.1,k∉labs g2.1:=by
  have af:∀(xs:List (C×List (List GV))),(xs.flatMap λg=>labs g.1).Nodup->∀(k1 k2:Nat) g1 g2,xs[k1]?=some g1->xs[k2]?=some g2->k1≠k2->∀k∈labs g1.1,k∉labs g2.1:=by
   intro xs
   induction xs with
   |nil=>intro _ k1 k2 g1 g2 h1;simp at h1
   |cons y ys ih=>?_
   intro hn k1 k2 g1 g2 h1 h2 hne k hk h9;rw[YB,Yg] at hn;cases k1 with|zero=>?_|succ k1=>?_;cases k2 with
   |zero=>exact hne rfl
   |succ k2=>?_
   simp at h1 h2;subst h1;exact hn.2.2 k hk k (Yx.2 ⟨g2,Y4 h2,h9⟩) rfl;cases k2 with
   |zero=>?_
   |succ k2=>exact ih hn.2.1 k1 k2 g1 g2 (by simpa using h1) (by simpa using h2) oM k hk h9
   simp at h1 h2;subst h2;exact hn.2.2 k h9 k (Yx.2 ⟨g1,Y4 h1,hk⟩) rfl
  exact af gs m.dis
 have ad:∀k1 g1,(gs.set j (c',rs'))[k1]?=some g1->(k1=j/\g1=(c',rs'))\/(k1≠j/\gs[k1]?=some g1):=by
  intro k1 g1 h1;rw[Xq] at h1;by_cases he:j=k1;subst he;simp[ag] at h1;exact .inl ⟨rfl,h1.symm⟩;rw[if_neg he] at h1;exact .inr ⟨λh9=>he h9.symm,h1⟩
 refine⟨λb hb=>(hs.2 _ (Y3 (m.sb b hb).1 m.ep) λh9=>?_).trans (m.box b hb),m.rest.frame λk hk=>hs.2 k (Y3 (m.sq k hk).2 m.ep) λh9=>?_,λg1 aa=>?_,m.same.trans' hs λk hk=>.inr ?_,Yv m.ep hs.1,λg1 aa k hk=>?_,?_,m.sb,m.sq,m.nd,m.s0,m.ne⟩
 have:=(hlab _ h9).1
 have:=(m.sb b hb).1
 omega
 have:=(hlab _ h9).1
 have:=(m.sq k hk).2
 omega;obtain⟨k1,ac⟩:=YR aa;rcases ad k1 g1 ac with⟨_,rfl⟩|⟨hne,h1⟩;exact hm;exact(m.row g1 (Y4 h1)).frame λk hk=>hs.2 k (m.lab g1 (Y4 h1) k hk).2 (ae k1 j g1 g h1 hj hne k hk)
 have:=(hlab k hk).1
 have:=m.s0
 omega;obtain⟨k1,ac⟩:=YR aa;rcases ad k1 g1 ac with⟨_,rfl⟩|⟨_,h1⟩;rcases hl k hk with h9|h9;exact⟨(hlab k h9).1,Y3 (hlab k h9).2 hs.1⟩;exact⟨Yv m.ep h9.1,h9.2⟩
 have:=m.lab g1 (Y4 h1) k hk
 exact⟨this.1,Y3 this.2 hs.1⟩
 
 have ab:∀(xs:List (C×List (List GV))) j,xs[j]?=some g->(xs.flatMap λg=>labs g.1).Nodup->(∀g1∈xs,∀k∈labs g1.1,k.1<h.ep)->((xs.set j (c',rs')).flatMap λg=>labs g.1).Nodup/\∀k∈((xs.set j (c',rs')).flatMap λg=>labs g.1),k∈(xs.flatMap λg=>labs g.1)\/h.ep<=k.1:=by
  intro xs
  induction xs with
  |nil=>intro j h1;simp at h1
  |cons y ys ih=>?_
  intro j h1 hn hlt;rw[YB,Yg] at hn;cases j with|zero=>?_|succ j=>?_;simp at h1;subst h1;rw[List.set_cons_zero,YB,YB];refine⟨Yg.2 ⟨Va,hn.2.1,λa ha b hb he=>?_⟩,λk hk=>?_⟩;subst he;rcases hl a ha with h9|h9;exact hn.2.2 a h9 a hb rfl;obtain⟨g1,aa,ac⟩:=Yx.1 hb
  have:=hlt g1 (by simp[aa]) a ac
  omega;rcases Y2.1 hk with h9|h9;rcases hl k h9 with h8|h8;exact .inl (Xn _ h8);exact .inr h8.1;exact .inl (X6 _ h9);rw[List.set_cons_succ,YB,YB];obtain⟨h3,h4⟩:=ih j (by simpa using h1) hn.2.1 λg1 aa=>hlt g1 (by simp[aa]);refine⟨Yg.2 ⟨Va,h3,λa ha b hb he=>?_⟩,λk hk=>?_⟩;subst he;rcases h4 a hb with h9|h9;exact hn.2.2 a ha a h9 rfl
  have:=hlt y sI a ha
  omega;rcases Y2.1 hk with h9|h9;exact .inl (Xn _ h9);exact(h4 k h9).imp (λh8=>X6 _ h8) id
 exact(ab gs j hj m.dis λg1 aa k hk=>(m.lab g1 aa k hk).2).1
theorem LM.app{P ty el}{aa dd:Nat}{h0 h3 h bs c xc qs rows gs}{i:Nat}{g row K}(j:Nat)(m:LM h0 h3 bs c qs rows gs i h)(hj:gs[j]?=some g)(ab:Zv P ty=some (el,1,aa))(hz:(ZP P el).isSome=true)(hb:aa<=4096)
  (hr:Zk h 1 xc [[rowc row]])(hl:g.2.length+1<=Zs)(hk:∀c' h',LM h0 h3 bs c qs rows (gs.set j (c',g.2++[row])) i h'->Z0 h h' (labs g.1)->K (.one c') h'):Vv P ty g.1 xc dd h (K:=⟨K⟩):=by
 refine W5 ab hz dE hb (m.row g (Y4 hj)) hr (by simpa[Zn] using hl) λc' h' hm hs ac=>?_;exact hk c' h' (m.set hj (by simpa[Zn] using hm) hs ac) hs
theorem Zk.rowc{h l ds row}(hd:ds=row.map GV.enc):Zk h 1 (.own l [[.sl ds]]) [[rowc row]]:=by subst hd;exact Zk.qU rfl
theorem GC{d:Nat}{e h l co cn c M t rows Kc}(m:MpAt h l co cn M)(hm:MR h 1 c (Zn (rows.map rowc)))(hc:∀k∈labs c,k∉l::(labs co++labs cn))
  (hk:∀h',MpAt h' l co cn {M with out:=ZI t rows M.out}->Z0 h h' (labs c++labs co)->Kc (e.put (some d) (.tup [])) h'):V4 prog 222 [] [.p l,.s t,.one c] d e h (K:=⟨Kc⟩):=by
 have hs:Z0 h (h.qQ (labs c)) (labs c):=⟨Y7 _,λk _ hn=>by simp only[HS.qQ];rw[if_neg hn]⟩;have ab:∀k∈l::(labs co++labs cn),(h.qQ (labs c)).box k=h.box k:=λk aa=>by
  simp only[HS.qQ];rw[if_neg λh9=>hc k h9 aa]
 have m2:MpAt (h.qQ (labs c)) l co cn M:=⟨by rw[ab l sI];exact m.box,m.out.frame λk aa=>ab k (by simp[aa]),m.nc.frame λk aa=>ab k (by simp[aa]),m.lt,m.nl⟩;refine Za ?_;simp only[Yd,Ym];refine Z3.jQ (vs':=[.p l,.s t,.l (rows.map (Z6 GV.enc))]) (labs c) ⟨.refl,.refl,.inr ⟨_,rfl,C0 (hm.frame λk aa=>by simp only[HS.only];rw[if_pos aa])⟩,trivial⟩ (IJ _ l co cn _ M t rows m2 rfl _ λh' m4 ac=>?_);exact hk h' m4 ((hs.mono (by simp+contextual)).trans (ac.mono (by simp+contextual)))
theorem ID{d:Nat}{e h l co cn c M t rows Kc}(m:MpAt h l co cn M)(hm:MR h 1 c (Zn (rows.map rowc)))(hc:∀k∈labs c,k∉l::(labs co++labs cn))
  (hk:∀h',MpAt h' l co cn {M with nc:=ZI t rows M.nc}->Z0 h h' (labs c++labs cn)->Kc (e.put (some d) (.tup [])) h'):V4 prog 223 [] [.p l,.s t,.one c] d e h (K:=⟨Kc⟩):=by
 have hs:Z0 h (h.qQ (labs c)) (labs c):=⟨Y7 _,λk _ hn=>by simp only[HS.qQ];rw[if_neg hn]⟩;have ab:∀k∈l::(labs co++labs cn),(h.qQ (labs c)).box k=h.box k:=λk aa=>by
  simp only[HS.qQ];rw[if_neg λh9=>hc k h9 aa]
 have m2:MpAt (h.qQ (labs c)) l co cn M:=⟨by rw[ab l sI];exact m.box,m.out.frame λk aa=>ab k (by simp[aa]),m.nc.frame λk aa=>ab k (by simp[aa]),m.lt,m.nl⟩;refine Za ?_;simp only[Yd,Ym];refine Z3.jQ (vs':=[.p l,.s t,.l (rows.map (Z6 GV.enc))]) (labs c) ⟨.refl,.refl,.inr ⟨_,rfl,C0 (hm.frame λk aa=>by simp only[HS.only];rw[if_pos aa])⟩,trivial⟩ (Iz _ l co cn _ M t rows m2 rfl _ λh' m4 ac=>?_);exact hk h' m4 ((hs.mono (by simp+contextual)).trans (ac.mono (by simp+contextual)))
theorem GQ(h x row v lv)(n:Nat)(kk:Int)(ae:kk=n)(hm:MR h 3 x (Wj row))(ad:∀k∈labs x,k.1<h.ep)(hn:n<=row.length)(ha:h.arr lv=some (1,3))(hlim:row.length+1<=2097152)(K)
  (hk:∀h',Z0 h h' (labs x)->K (.l ((row.take n++[v]++row.drop n).map GV.enc)) h'):
  Z3 prog 221 [.one x,.i kk,.one (.own lv [v.enc])] h K:=by
 subst ae;refine Z3.rP (QT h x (Wj row) lv v.enc n hm ad (by simpa[Wj] using hn) ha rfl (by simpa[Wj] using hlim) _ λc' h' aa hs hl=>?_);refine⟨labs c',.l ((row.take n++[v]++row.drop n).map GV.enc),.inr ⟨_,rfl,C7 ?_⟩,hk _ ⟨hs.1,λk ac ab=>?_⟩⟩;have e1:(Wj row).take n++[v.enc.map C.d]++(Wj row).drop n=Wj (row.take n++[v]++row.drop n):=by simp[Wj,Xs,Xg]
 rw[e1] at aa;exact aa.frame λk hk=>by simp only[HS.only];rw[if_pos hk]
 have h9:k∉labs c':=λh9=>by rcases hl k h9 with h8|h8;exact ab h8;omega
 simp only[HS.qQ];rw[if_neg h9];exact hs.2 k ac ab
theorem MW(h x row)(n:Nat)(kk k2:Int)(ad:kk=n)(aa:k2=(n+1:Nat))(hm:MR h 3 x (Wj row))(af:∀k∈labs x,k.1<h.ep)(hn:n+1<=row.length)(K)
  (hk:∀h',Z0 h h' (labs x)->K (.l ((row.take n++row.drop (n+1)).map GV.enc)) h'):
  Z3 prog 224 [.one x,.i kk,.i k2] h K:=by
 subst ad aa;refine Z3.rP (QU h x (Wj row) n (n+1) hm oM (by simpa[Wj] using hn) _ λc' h' ab hb ac ae hlab=>?_);refine⟨labs c',.l ((row.take n++row.drop (n+1)).map GV.enc),.inr ⟨_,rfl,C7 ?_⟩,hk _ ⟨by simp[HS.qQ,ac],λk _ aa=>?_⟩⟩;have e1:(Wj row).take n++(Wj row).drop (n+1)=Wj (row.take n++row.drop (n+1)):=by simp[Wj,Xs,Xg]
 rw[e1] at ab;exact ab.frame λk hk=>by simp only[HS.only];rw[if_pos hk]
 have h9:k∉labs c':=by rw[hlab];exact aa
 simp only[HS.qQ];rw[if_neg h9];exact hb k aa
theorem WS{α:Type}{P:Program}{f:FuncId}{vs:List V}{av:List AV}{d:Nat}{e:Env}{h:HS}{l:Z2}{co cn:C}{M:Mp}{Kc:Env->HS->Prop}{er:α->RV}{m:Option α}{x:α}(hx:Is m x)[i:Con m P f (.one (.rp M.enc)::av) er]
  (hp:MpAt h l co cn M)(has:W1 h vs=some av)(hk:Kc (e.put (some d) ((er x).toV h.ep d)) ((h.qM d (er x).fr).next)):V4 P f [] (.p l::vs) d e h (K:=⟨Kc⟩):=by
 obtain⟨cs,aa,hd⟩:=hp.pre;exact Za (by simpa using Z3.wC (K:=λv h'=>Kc (e.put (some d) v) h') d (i.h x hx) aa hd has hk)
theorem GS{a:Nat}{row:List GV}:RV.flat (.one (.fresh a 3 (row.map GV.enc)))=true:=by simp[RV.flat,RV1.flat,RC.flat,D.flat]
def HT{ρ:Type}(st:List GV×Bool)(d:GV)(k:GV->Option ρ):Option ρ:=bif st.2 then Z7 st.1 0 k else k d
theorem Z1f{ρ:Type}{st:List GV×Bool}{d:GV}{k:GV->Option ρ}{r:ρ}(hm:Is (HT st d k) r):∃v,Is (k v) r/\(st.2=true->st.1[0]?=some v)/\(st.2=false->v=d):=by
 unfold HT at hm;cases hs:st.2 with|true=>?_|false=>?_;rw[hs] at hm;obtain⟨v,_,hv,hm⟩:=Is.get hm;exact⟨v,hm,λ_=>(by simpa using hv),λh=>(by cases h)⟩;rw[hs] at hm;exact⟨d,hm,λh=>(by cases h),λ_=>rfl⟩
def Vk(a b:GV):Bool:=!(a.kind==b.kind)||(!(a.int==b.int)||!(a.text==b.text))
def AH(M:Mp):Option Mp:=
 Z1 (WZ M.src M.inp M.step.table) λq=>Z1 (ZY M.src M.step.table) λf=>Zp (f.2=true/\Dt q.2)<|
 Z1 (UL M M.step.table) λT2=>Z1 (W7 T2 M.step.column) λat_=>
 Zc (λ(i:Nat) (row:List GV) (s:List (List GV)×List (List GV)) next=>
  Z1 (Vl q.1 row) λkey=>Z1 (A8 M key) λst=>HT st M.step.value λv=>
  Zp (0<=at_.1/\at_.1<=row.length/\row.length+1<=2097152/\key.length+1<=2097152)
   (next (s.1++[row.take at_.1.toNat++[v]++row.drop at_.1.toNat],bif Vk v M.step.value then s.2++[key++[v]] else s.2)))
  (λs=>some {M with out:=ZI M.step.table s.1 M.out,nc:=ZI M.step.table s.2 M.nc}) q.2 0 ([],[])
theorem Rn(h0:HS)(l:Z2)(co cn:C)(M M1:Mp)(hm:Is (AH M) M1)(m:MpAt h0 l co cn M)(K:V->HS->Prop)
  (hK:∀h',MpAt h' l co cn M1->Z0 h0 h' (labs co++labs cn)->K (.tup []) h'):Z3 prog 189 [.p l] h0 K:=by
 refine Z3.ov Tryz.func189 ?_;unfold AH at hm;obtain⟨⟨T,rows⟩,ht,hm⟩:=hm.bind;obtain⟨⟨k,f⟩,bz,hm⟩:=hm.bind;obtain⟨b4,au⟩:=hm.chk;clear hm;obtain⟨rfl,az⟩:=b4;have hm:=au;clear au;simp only at hm az;have hb:=m.box;have bu:=m.lt l (Y6 ..);have hne:=Zm bu;have hne':=ZO bu;simp only[Wt,Mp.enc,Stp.enc,Yb,Yd,Yk,Yn] at hb;simp;refine Z4.cu [0,1,2,3,4,5,6,7,8,9,10,11,12] (λe1 h1=>∃ld:Z2,En e1 91 [(0,.p l),(2,.s M.step.table),(3,.p ld)]/\h1.box ld=some (M.step.value.enc.map C.d)/\h0.ep<=ld.1/\ld.1<h1.ep/\Z0 h0 h1 []) ?_ ?_;simp[hb,hne,hne'];refine Zb.of ⟨(h0.ep,48),sI,sI,sI,sI,?_⟩;exact sm;rintro e1 h1 ⟨ld,hE,bd,cm,bf,bh⟩;simp[hE];refine Za (IU _ l co cn M M.step.table T rows (m.frame bh) ht k bz (λrow hr=>(az.2 row hr).2) _ λc h2 ax hb2=>?_);simp[hE];obtain⟨cp,ce⟩:∃q,q=(h2.ep,64):=⟨_,rfl⟩;obtain⟨T2,b1,hm⟩:=hm.bind;refine Z4.cu [0,1,3,4,5,6,7,2,8,9,10,11,12,13] (λE h3=>∃at_:Int×Bool,Is (W7 T2 M.step.column) at_/\Ek e1 E [(4,.p (h2.ep,64)),(5,.one c),(6,.i at_.1)] [0,2,3]/\
  h3.box ld=some (M.step.value.enc.map C.d)/\h3.box (h2.ep,64)=some (T.enc.map C.d)/\Z0 h2 h3 []/\h2.ep<h3.ep/\Z0 h0 h3 []) ?_ ?_
 .obtain⟨at_,a8,hm⟩:=hm.bind;have hs2:=bh.trans ax.same;have m2:=m.frame hs2;have hb2:=m2.box;have bo:=ax.same.2 ld bf sI;rw[bd] at bo;simp only[Wt,Mp.enc,Stp.enc,Yb,Yd,Yk,Yn] at hb2;have hl2:=m2.lt l (Y6 ..);have bi:=Zm hl2;have ay:=ZO hl2;simp[bi,ay,hE,hb2];refine WS b1 (m2.frame ((Z0.refl.qA (.inr sI)).next.qA (.inr sI))) ?_ ?_;simp;simp[bi,ay,hE,hb2];refine⟨λ_ _ x=>x,Zq ((Ed T2 M.step.column).h at_ a8) sI ?_⟩;simp[bi,ay,hE,hb2];refine⟨λ_ _ x=>x,Zb.of ⟨at_,a8,by simp[hE],?_,sI,?_,sI,hs2.trans ?_⟩⟩;have b9:=Zm (l:=ld) (n:=h2.ep) (Y3 bf ax.same.1);simp[bo,b9]
  all_goals exact sm
 rintro E3 h3 ⟨at_,a8,hF,bd,bt,bc,cf,hs3⟩;have hE:=hF.an hE;obtain⟨at2,bm,hm⟩:=hm.bind;obtain rfl:at_=at2:=Option.some.inj (a8.symm.trans bm);simp[hE];obtain⟨qs,r0,nd,a7⟩:=Rest.of ax;have r3:=r0.frame λk hk=>bc.2 k (a7 k hk).2 sI;have cb:qs.length=rows.length:=by have:=congrArg List.length r0.ds;simpa using this
 refine MR.lenK r3.mr ?_;simp[hE,cb];have m3:LM h0 h3 [(ld,M.step.value.enc.map C.d),((h2.ep,64),T.enc.map C.d)] c qs rows [(.nil,[]),(.nil,[])] 0 h3:=
  ⟨by simpa using⟨bd,bt⟩,r3,by simp[Zn,MR.nil],hs3,Y7 _,by simp[labs],by simp[labs],?_,λk hk=>?_,nd,?_,λrow hr=>(az.2 row hr).1⟩
 .refine Z4.for (xs:=rows) (s0:=([],[])) (λi s E h'=>∃cO cC,Ek E3 E [(8,.one cO),(9,.one cC),(44,.one c),(45,.i (rows.length:Int)),(46,.i (i:Int))] [0,2,3,4,6]/\
   LM h0 h3 [(ld,M.step.value.enc.map C.d),((h2.ep,64),T.enc.map C.d)] c qs rows [(cO,s.1),(cC,s.2)] i h'/\s.1.length=i/\s.2.length<=i) hm
   ⟨.nil,.nil,by simp[hE],m3,rfl,sI⟩ ?_ ?_
  .rintro i s e h' ⟨cO,cC,hF,mL,a1,b6⟩ hlt hm;have hE:=hF.an hE;have hw:IntKind.i64.wrap ((i:Int)+1)=(i:Int)+1:=Y5 _ (by have:=az.1;omega);obtain⟨key,be,hm⟩:=hm.bind;obtain⟨st,hst,hm⟩:=hm.bind;obtain⟨lr,cap,sp,x,al,rfl,b5,b0,bn,ar⟩:=mL.at hlt;have bd:=mL.box _ (Y6 ..);have bt:=mL.box _ (Yc _ (Y6 ..));have cc:=mL.ep;simp only[GV.enc,Yb,Yd,Tbl.enc] at bd bt;simp[hE,bd,bt,hlt,b5,b0];refine Z4.cut (Plan.qB [0,1,3] (.two 2 4 (Plan.qB [4,5,6] .done) (Plan.qB [2,5,6] .done))) follows kR (λE h1=>∃lk aj:Z2,Ek e E [(11,.one x),(44,.one (.mrow lr 0 rows.length cap))] [0,2,3,4,6,8,9,45,46]/\
    E.get 12=.one (.own lk (key.map GV.enc))/\h1.arr lk=some (key.length,3)/\lk.1<h1.ep/\E.get 13=.p aj/\h1.box aj=some (M.step.value.enc.map C.d)/\h'.ep<=aj.1/\aj.1<h1.ep/\Z0 h' h1 []) ?_ ?_
   simp[hE,bd,bt];refine⟨?_,?_⟩;refine Za (Z3.qD ((Uk T rows[i]).h key be) ⟨.agg (Zx.qL (ds:=T.enc)),.one (.frz (C7 bn)),trivial⟩ GS ?_);simp[hE,bd,bt];refine⟨λ_ _ x=>x,Zb.of ⟨(h'.ep,1),(h'.ep+1,208),by simp[hE],by simp[hE],sI,sI,by simp[hE],sI,sI,sI,?_⟩⟩;exact sm;refine Za (Z3.qD ((Uk T rows[i]).h key be) ⟨.agg (Zx.qL (ds:=T.enc)),.one (.frz (C7 (bn.frame λk hk=>?_))),trivial⟩ GS ?_)
   have:=Zm (l:=k) (n:=h'.ep) (Y3 (ar k hk) cc)
   simp[this];simp[hE,bd,bt]
   first|refine⟨λ_ _ x=>x,Zb.of ?_⟩|refine Zb.of ?_
   refine⟨(h'.ep+1,1),(h'.ep,208),by simp[hE],by simp[hE],sI,sI,by simp[hE],sI,sI,sI,?_⟩;exact sm;rintro e1 h1 ⟨lk,aj,hF,ae,bl,ca,ad,ak,ac,bw,af⟩;have hE:=hF.an hE;have m1:=mL.new af;have ah:=m1.box _ (Y6 ..);have ag:=m1.box _ (Yc _ (Y6 ..));have ab:(ld=aj)=False:=eq_false (by rintro rfl;have:=(mL.sb _ (Y6 ..)).1;simp at this;omega);have aa:((h2.ep,64)=aj)=False:=eq_false (by rintro rfl;have:=(mL.sb _ (Yc _ (Y6 ..))).1;simp at this ac;omega);simp only[GV.enc,Yb,Yd,Tbl.enc] at ah ag ak;simp[hE,ae,ad];refine WS hst (m.frame m1.same) ?_ ?_;simp;simp[hE,ae,ad];obtain⟨v,au,b3,b8⟩:=Z1f hm;clear hm;obtain⟨cd,hm⟩:=Is.chk au;clear au;obtain⟨ck,cg,bb,ch⟩:=cd;have hn:at_.1=(at_.1.toNat:Int):=oM
   have cl:=az.1;have bq:=Zm ca;have ba:at_.1.toNat<=rows[i].length:=oM
   refine Aq (λhc=>?_) (λhc=>?_)
   .have hv:=b3 hc;simp[hE,ae,ad,hv,ak,ah,ag,ab,aa];refine Aq (λaq=>?_) (λaq=>?_)
    .have am:Vk v M.step.value=true:=aq;rw[am] at hm;simp[hE,ae,ad,ak,ah,ag,ab,aa];refine U3 (xs:=key.map GV.enc) (ys:=[v.enc]) Wv (Zi.own (by simp[bl,bq]) sO (by intro y hy;obtain⟨z,_,rfl⟩:=Yi.1 hy;rfl)) rfl dE dE sI sO ?_;simp[hE,ae,ad,ak,ah,ag,ab,aa];refine LM.app 1 (mL.new ?_) rfl ZQ kR dE (row:=key++[v]) (Zk.rowc sI) sO λc' h7 m7 bk=>?_
     .repeat' first|exact af|exact Z0.refl|apply Z0.next|apply Z0.qC|(refine Z0.qA ?_ (.inr ac))
     have b7:=bk.2 aj sO (λh9=>by have:=(mL.lab _ (Yc _ (Y6 ..)) aj h9).2;omega);simp[ak] at b7;simp[hE,ae,ad,b7,ah,ag,ab,aa];refine Za (GQ _ x rows[i] v _ at_.1.toNat _ hn ((LM.new m7 ?_).jO hlt al) (λk hk=>?_) ba ?_ bb _ λh9 ap=>?_)
     .repeat' first|exact af|exact Z0.refl|apply Z0.next|apply Z0.qC|(refine Z0.qA ?_ (.inr ac))
     have:=ar k hk
     have:=m7.ep
     simp at this|-;omega;simp;have m9:=(LM.new m7 ?_).use hlt al ap;rotate_left
     .repeat' first|exact af|exact Z0.refl|apply Z0.next|apply Z0.qC|(refine Z0.qA ?_ (.inr ac))
     simp[hE,ae,ad,ah,ag,ab,aa,hw];refine LM.app 0 (m9.new ?_) rfl ZQ kR dE (row:=rows[i].take at_.1.toNat++[v]++rows[i].drop at_.1.toNat) (Zk.rowc sI) sO λc2 bg m10 aw=>?_
     .repeat' first|exact af|exact Z0.refl|apply Z0.next|apply Z0.qC|(refine Z0.qA ?_ (.inr ac))
     simp[hE,ae,ad,ah,ag,ab,aa,hw];refine Ze.of (s.1++[rows[i].take at_.1.toNat++[v]++rows[i].drop at_.1.toNat],s.2++[key++[v]]) ⟨⟨c2,c',by simp[hE],m10,by simp[a1],?_⟩,hm⟩;simp;omega
    have am:Vk v M.step.value=false:=aq;rw[am] at hm;have m7:LM h0 h3 [(ld,M.step.value.enc.map C.d),((h2.ep,64),T.enc.map C.d)] (.mrow lr 0 rows.length cap) qs rows [(cO,s.1),(cC,s.2)] i (h1.next.qA aj (v.enc.map C.d)):=mL.new ?_;rotate_left
    .repeat' first|exact af|exact Z0.refl|apply Z0.next|apply Z0.qC|(refine Z0.qA ?_ (.inr ac))
    simp[hE,ae,ad,ak,ah,ag,ab,aa];refine Za (GQ _ x rows[i] v _ at_.1.toNat _ hn ((LM.new m7 ?_).jO hlt al) (λk hk=>?_) ba ?_ bb _ λh9 ap=>?_)
    .repeat' first|exact af|exact Z0.refl|apply Z0.next|apply Z0.qC|(refine Z0.qA ?_ (.inr ac))
    have:=ar k hk
    have:=m7.ep
    simp at this|-;omega;simp;have m9:=(LM.new m7 ?_).use hlt al ap;rotate_left
    .repeat' first|exact af|exact Z0.refl|apply Z0.next|apply Z0.qC|(refine Z0.qA ?_ (.inr ac))
    simp[hE,ae,ad,ah,ag,ab,aa,hw];refine LM.app 0 (m9.new ?_) rfl ZQ kR dE (row:=rows[i].take at_.1.toNat++[v]++rows[i].drop at_.1.toNat) (Zk.rowc sI) sO λc2 bg m10 aw=>?_
    .repeat' first|exact af|exact Z0.refl|apply Z0.next|apply Z0.qC|(refine Z0.qA ?_ (.inr ac))
    simp[hE,ae,ad,ah,ag,ab,aa,hw];refine Ze.of (s.1++[rows[i].take at_.1.toNat++[v]++rows[i].drop at_.1.toNat],s.2) ⟨⟨c2,cC,by simp[hE],m10,by simp[a1],?_⟩,hm⟩;simp;omega
   have hv:=b8 hc;rw[<-hv] at ak;simp[hE,ae,ad,ak,ah,ag,ab,aa];refine Aq (λaq=>?_) (λaq=>?_)
   .have am:Vk v M.step.value=true:=aq;rw[am] at hm;simp[hE,ae,ad,ak,ah,ag,ab,aa];refine U3 (xs:=key.map GV.enc) (ys:=[v.enc]) Wv (Zi.own (by simp[bl,bq]) sO (by intro y hy;obtain⟨z,_,rfl⟩:=Yi.1 hy;rfl)) rfl dE dE sI sO ?_;simp[hE,ae,ad,ak,ah,ag,ab,aa];refine LM.app 1 (mL.new ?_) rfl ZQ kR dE (row:=key++[v]) (Zk.rowc sI) sO λc' h7 m7 bk=>?_
    .repeat' first|exact af|exact Z0.refl|apply Z0.next|apply Z0.qC|(refine Z0.qA ?_ (.inr ac))
    have b7:=bk.2 aj sO (λh9=>by have:=(mL.lab _ (Yc _ (Y6 ..)) aj h9).2;omega);simp[ak] at b7;simp[hE,ae,ad,b7,ah,ag,ab,aa];refine Za (GQ _ x rows[i] v _ at_.1.toNat _ hn ((LM.new m7 ?_).jO hlt al) (λk hk=>?_) ba ?_ bb _ λh9 ap=>?_)
    .repeat' first|exact af|exact Z0.refl|apply Z0.next|apply Z0.qC|(refine Z0.qA ?_ (.inr ac))
    have:=ar k hk
    have:=m7.ep
    simp at this|-;omega;simp;have m9:=(LM.new m7 ?_).use hlt al ap;rotate_left
    .repeat' first|exact af|exact Z0.refl|apply Z0.next|apply Z0.qC|(refine Z0.qA ?_ (.inr ac))
    simp[hE,ae,ad,ah,ag,ab,aa,hw];refine LM.app 0 (m9.new ?_) rfl ZQ kR dE (row:=rows[i].take at_.1.toNat++[v]++rows[i].drop at_.1.toNat) (Zk.rowc sI) sO λc2 bg m10 aw=>?_
    .repeat' first|exact af|exact Z0.refl|apply Z0.next|apply Z0.qC|(refine Z0.qA ?_ (.inr ac))
    simp[hE,ae,ad,ah,ag,ab,aa,hw];refine Ze.of (s.1++[rows[i].take at_.1.toNat++[v]++rows[i].drop at_.1.toNat],s.2++[key++[v]]) ⟨⟨c2,c',by simp[hE],m10,by simp[a1],?_⟩,hm⟩;simp;omega
   have am:Vk v M.step.value=false:=aq;rw[am] at hm;have m7:LM h0 h3 [(ld,M.step.value.enc.map C.d),((h2.ep,64),T.enc.map C.d)] (.mrow lr 0 rows.length cap) qs rows [(cO,s.1),(cC,s.2)] i h1.next:=mL.new ?_;rotate_left
   .repeat' first|exact af|exact Z0.refl|apply Z0.next|apply Z0.qC|(refine Z0.qA ?_ (.inr ac))
   simp[hE,ae,ad,ak,ah,ag,ab,aa];refine Za (GQ _ x rows[i] v _ at_.1.toNat _ hn ((LM.new m7 ?_).jO hlt al) (λk hk=>?_) ba ?_ bb _ λh9 ap=>?_)
   .repeat' first|exact af|exact Z0.refl|apply Z0.next|apply Z0.qC|(refine Z0.qA ?_ (.inr ac))
   have:=ar k hk
   have:=m7.ep
   simp at this|-;omega;simp;have m9:=(LM.new m7 ?_).use hlt al ap;rotate_left
   .repeat' first|exact af|exact Z0.refl|apply Z0.next|apply Z0.qC|(refine Z0.qA ?_ (.inr ac))
   simp[hE,ae,ad,ah,ag,ab,aa,hw];refine LM.app 0 (m9.new ?_) rfl ZQ kR dE (row:=rows[i].take at_.1.toNat++[v]++rows[i].drop at_.1.toNat) (Zk.rowc sI) sO λc2 bg m10 aw=>?_
   .repeat' first|exact af|exact Z0.refl|apply Z0.next|apply Z0.qC|(refine Z0.qA ?_ (.inr ac))
   simp[hE,ae,ad,ah,ag,ab,aa,hw];refine Ze.of (s.1++[rows[i].take at_.1.toNat++[v]++rows[i].drop at_.1.toNat],s.2) ⟨⟨c2,cC,by simp[hE],m10,by simp[a1],?_⟩,hm⟩;simp;omega
  rintro s e h' ⟨cO,cC,hF,mL,a1,b6⟩ hm;have hE:=hF.an hE;obtain rfl:=Zh hm;simp[hE];have bj:∀k∈l::(labs co++labs cn),k.1<h0.ep:=m.lt;have cj:=hs3.1;have bv:=mL.lab;have hO:∀k∈labs cO,h3.ep<=k.1/\k.1<h'.ep:=bv _ (Y6 ..);have hC:∀k∈labs cC,h3.ep<=k.1/\k.1<h'.ep:=bv _ (Yc _ (Y6 ..));have br:∀k∈labs cC,k∉labs cO:=λk hk h9=>by
   have:=mL.dis
   simp only[YB,Xv,Ym] at this;exact(Yg.1 this).2.2 k h9 k hk rfl
  refine GC (m.frame mL.same) (mL.row _ (Y6 ..)) (λk hk h9=>by have:=bj k h9;have:=(hO k hk).1;omega) λh4 m4 bp=>?_;simp[hE];refine ID m4 ((mL.row _ (Yc _ (Y6 ..))).frame λk hk=>bp.2 k (hC k hk).2 λh9=>?_) (λk hk h9=>by have:=bj k h9;have:=(hC k hk).1;omega) λh5 m5 af=>?_;rcases Y2.1 h9 with h8|h8;exact br k hk h8
  have:=bj k (by simp[h8])
  have:=(hC k hk).1
  omega;simp[hE];refine hK h5 m5 (Z0.trans' (Z0.trans' (mL.same.mn) bp λk hk=>?_) af λk hk=>?_);rcases Y2.1 hk with h8|h8;exact .inr (by have:=(hO k h8).1;omega);exact .inl (by simp[h8]);rcases Y2.1 hk with h8|h8;exact .inr (by have:=(hC k h8).1;omega);exact .inl (by simp[h8])
 intro b hb;simp at hb;rcases hb with rfl|rfl;have ci:=ax.same.1;have cq:=bc.1;refine⟨sO,λh9=>?_⟩
 have:=(a7 _ h9).1
 simp at this;omega;refine⟨sO,λh9=>?_⟩
 have:=(a7 _ h9).2
 simp at this
 have:=a7 k hk
 have:=bh.1
 omega
 have:=hs3.1
 omega
instance Z9v(M:Mp):ConM (AH M) M (λr=>r) prog 189 [] (λ_=>.tup []):=⟨by intro r hm h l co cn vs K hp has hK;obtain rfl:=JN has;exact Rn h l co cn M r hm hp K hK⟩
def AG(M:Mp):Option Mp:=
 Z1 (WZ M.src M.inp M.step.table) λq=>Z1 (ZY M.src M.step.table) λf=>Zp (f.2=true/\Dt q.2)<|
 Z1 (W7 q.1 M.step.column) λat_=>
 Zc (λ(i:Nat) (row:List GV) (s:List (List GV)×List (List GV)) next=>Z7 row at_.1 λv=>
  bif Vk v M.step.value then Z1 (Vl q.1 row) λkey=>Zp (key.length+1<=2097152) (next (s.1++[row.take at_.1.toNat++row.drop (at_.1.toNat+1)],s.2++[key++[v]]))
  else next (s.1++[row.take at_.1.toNat++row.drop (at_.1.toNat+1)],s.2))
  (λs=>some {M with out:=ZI M.step.table s.1 M.out,nc:=ZI M.step.table s.2 M.nc}) q.2 0 ([],[])
theorem Rm(h0:HS)(l:Z2)(co cn:C)(M M1:Mp)(hm:Is (AG M) M1)(m:MpAt h0 l co cn M)(K:V->HS->Prop)
  (hK:∀h',MpAt h' l co cn M1->Z0 h0 h' (labs co++labs cn)->K (.tup []) h'):Z3 prog 190 [.p l] h0 K:=by
 refine Z3.ov Tryz.func190 ?_;unfold AG at hm;obtain⟨⟨T,rows⟩,ht,hm⟩:=hm.bind;obtain⟨⟨k,f⟩,bk,hm⟩:=hm.bind;obtain⟨bq,a1⟩:=hm.chk;clear hm;obtain⟨rfl,ab⟩:=bq;have hm:=a1;clear a1;simp only at hm ab;have hb:=m.box;have bi:=m.lt l (Y6 ..);have hne:=Zm bi;have hne':=ZO bi;simp only[Wt,Mp.enc,Stp.enc,Yb,Yd,Yk,Yn] at hb;simp;refine Z4.cu [0,1,2,3,4,5,6,7,8,9,10,11,12] (λe1 h1=>∃ld:Z2,En e1 79 [(0,.p l),(2,.s M.step.table),(3,.p ld)]/\h1.box ld=some (M.step.value.enc.map C.d)/\h0.ep<=ld.1/\ld.1<h1.ep/\Z0 h0 h1 []) ?_ ?_;simp[hb,hne,hne'];refine Zb.of ⟨(h0.ep,48),sI,sI,sI,sI,?_⟩;exact sm;rintro e1 h1 ⟨ld,hE,bd,b9,am,au⟩;simp[hE];refine Za (IU _ l co cn M M.step.table T rows (m.frame au) ht k bk (λrow hr=>(ab.2 row hr).2) _ λc h2 ad hb2=>?_);simp[hE];refine Z4.cu [0,1,2,3,4,5,6,7,8,9,10,11] (λE h3=>∃at_:Int×Bool,Is (W7 T M.step.column) at_/\Ek e1 E [(4,.p (h2.ep,64)),(5,.one c),(6,.i at_.1)] [0,2,3]/\
  h3.box ld=some (M.step.value.enc.map C.d)/\h3.box (h2.ep,64)=some (T.enc.map C.d)/\Z0 h2 h3 []/\h2.ep<h3.ep/\Z0 h0 h3 []) ?_ ?_
 .obtain⟨at_,af,hm⟩:=hm.bind;have hs2:=au.trans ad.same;have m2:=m.frame hs2;have hb2:=m2.box;have bb:=ad.same.2 ld am sI;rw[bd] at bb;simp only[Wt,Mp.enc,Stp.enc,Yb,Yd,Yk,Yn] at hb2;have hl2:=m2.lt l (Y6 ..);have bf:=Zm hl2;have ap:=ZO hl2;simp[bf,ap,hE,hb2];refine Zq ((Ed T M.step.column).h at_ af) sI ?_;simp[bf,ap,hE,hb2]
  first|refine⟨λ_ _ x=>x,Zb.of ?_⟩|refine Zb.of ?_
  refine⟨at_,af,by simp[hE],?_,sI,?_,sI,hs2.trans ?_⟩;have bw:=Zm (l:=ld) (n:=h2.ep) (Y3 am ad.same.1);simp[bb,bw]
  all_goals exact sm
 rintro E3 h3 ⟨at_,af,hF,bd,bt,ak,b3,hs3⟩;have hE:=hF.an hE;obtain⟨at2,a8,hm⟩:=hm.bind;obtain rfl:at_=at2:=Option.some.inj (af.symm.trans a8);simp[hE];obtain⟨qs,r0,nd,ae⟩:=Rest.of ad;have r3:=r0.frame λk hk=>ak.2 k (ae k hk).2 sI;have bz:qs.length=rows.length:=by have:=congrArg List.length r0.ds;simpa using this
 refine MR.lenK r3.mr ?_;simp[hE,bz];have m3:LM h0 h3 [(ld,M.step.value.enc.map C.d),((h2.ep,64),T.enc.map C.d)] c qs rows [(.nil,[]),(.nil,[])] 0 h3:=
  ⟨by simpa using⟨bd,bt⟩,r3,by simp[Zn,MR.nil],hs3,Y7 _,by simp[labs],by simp[labs],?_,λk hk=>?_,nd,?_,λrow hr=>(ab.2 row hr).1⟩
 refine Z4.for (xs:=rows) (s0:=([],[])) (λi s E h'=>∃cO cC,Ek E3 E [(8,.one cO),(9,.one cC),(38,.one c),(39,.i (rows.length:Int)),(40,.i (i:Int))] [0,2,3,4,6]/\
  LM h0 h3 [(ld,M.step.value.enc.map C.d),((h2.ep,64),T.enc.map C.d)] c qs rows [(cO,s.1),(cC,s.2)] i h'/\s.1.length=i/\s.2.length<=i) hm
  ⟨.nil,.nil,by simp[hE],m3,rfl,sI⟩ ?_ ?_
 rintro i s e h' ⟨cO,cC,hF,mL,ay,bu⟩ hlt hm;have hE:=hF.an hE;have hw:IntKind.i64.wrap ((i:Int)+1)=(i:Int)+1:=Y5 _ (by have:=ab.1;omega);obtain⟨v,bv,hv,hm⟩:=hm.get;obtain⟨lr,cap,sp,x,aj,rfl,br,bm,ag,az⟩:=mL.at hlt;have bd:=mL.box _ (Y6 ..);have bt:=mL.box _ (Yc _ (Y6 ..));have ca:=mL.ep;simp only[GV.enc,Yb,Yd,Tbl.enc] at bd bt;have hn:at_.1=(at_.1.toNat:Int):=oM
 obtain⟨n,ax⟩:∃n:Nat,n=at_.1.toNat:=⟨_,rfl⟩;rw[<-ax] at hn hv;have ah:n<rows[i].length:=(Y0.1 hv).1;obtain⟨lx,b1,spx,aa,ar,bl⟩:=ag.block (by rw[Wj,Yh,Yh];omega);have bp:(Wj rows[i])[n]?=some (v.enc.map C.d):=by rw[Wj,Y8,Y8,hv];rfl
 have ac:=Vf (sp:=spx) (f:=0) (m:=3) ag.1 bp sI;have bg:Zl 3 ((v.enc.map C.d).drop 0)=some (v.enc.map C.d):=by simp[Zl]
 rw[bg,YY] at ac;have hxl:(Wj rows[i]).length=rows[i].length:=by simp[Wj]
 rw[hxl] at aa;simp only[GV.enc,Yb,Yd] at ac;obtain⟨z,hz⟩:∃z,z=Z8 (Wj rows[i]) spx:=⟨_,rfl⟩;rw[<-hz] at ac ar;have b8:=ab.1;have b5:=(ab.2 _ (Yf hlt)).2;have a7:IntKind.i64.wrap (at_.1+1)=at_.1+1:=Y5 _ oM;have hi0:(0:Int)<=at_.1:=bv;simp[hE,bd,bt,hlt,br,bm];refine Z4.cu [0,1,2,3,4,5] (λE h1=>h1=h'/\Ek e E [(11,.one x),(38,.one (.mrow lr 0 rows.length cap)),(49,.b (Vk v M.step.value))] [0,2,3,4,6,8,9,39,40]) ?_ ?_;simp[hE,bd,bt,aa,ar,hn,ah,ac];refine Zb.of ⟨rfl,?_⟩;simp[hE,aa,hn,Vk];rintro e1 h1 ⟨rfl,hF⟩;have hE:=hF.an hE;simp[hE];refine Zy hm ?_ ?_<;>clear hm<;>intro hc hm;obtain⟨key,al,hm⟩:=hm.bind;obtain⟨b4,hm⟩:=hm.chk;simp[hE];refine Z4.cut (Plan.qB [0,1,2,4,5,6,7] (.two 3 8 (Plan.qB [8,9,10,11,12] .done) (Plan.qB [3,9,10,11,12] .done))) follows kR (λE be=>∃c',Ek e1 E [(9,.one c')] [0,2,3,4,6,8,11,38,39,40]/\
  LM h0 h3 [(ld,M.step.value.enc.map C.d),((h2.ep,64),T.enc.map C.d)] (.mrow lr 0 rows.length cap) qs rows [(cO,s.1),(c',s.2++[key++[v]])] i be) ?_ ?_
 simp[hE,bd,bt,aa,ar,hn,ah,ac];refine⟨?_,?_⟩;refine Za (Z3.qD ((Uk T rows[i]).h key al) ⟨.agg (Zx.qL (ds:=T.enc)),.one (.frz (by rw[<-aa];exact C7 ag)),trivial⟩ GS ?_);simp[hE,bd,bt];refine⟨λ_ _ x=>x,?_⟩;refine U3 (xs:=key.map GV.enc) (ys:=[v.enc]) Wv (Zi.own sI sI (by intro y hy;obtain⟨z,_,rfl⟩:=Yi.1 hy;rfl)) rfl dE dE sI sO ?_;simp[hE,bd,bt];refine LM.app 1 (mL.new ?_) rfl ZQ kR dE (row:=key++[v]) (Zk.rowc sI) sO λc' h7 m7 b0=>?_;exact sm;simp[hE,bd,bt];refine Zb.of ⟨c',by simp[hE,aa],m7⟩;refine Za (Z3.qD ((Uk T rows[i]).h key al) ⟨.agg (Zx.qL (ds:=T.enc)),.one (.frz (by rw[<-aa];exact C7 (ag.frame λk hk=>sI))),trivial⟩ GS ?_);simp[hE,bd,bt]
 try refine⟨λ_ _ x=>x,?_⟩
 refine U3 (xs:=key.map GV.enc) (ys:=[v.enc]) Wv (Zi.own sI sI (by intro y hy;obtain⟨z,_,rfl⟩:=Yi.1 hy;rfl)) rfl dE dE sI sO ?_;simp[hE,bd,bt];refine LM.app 1 (mL.new ?_) rfl ZQ kR dE (row:=key++[v]) (Zk.rowc sI) sO λc' h7 m7 b0=>?_;exact sm;simp[hE,bd,bt];refine Zb.of ⟨c',by simp[hE,aa],m7⟩;rintro e2 be ⟨c',hF,m7⟩;have hE:=hF.an hE;simp[hE,a7];refine Za (MW _ x rows[i] n _ _ hn (by rw[hn];simp) (m7.jO hlt aj) (λk hk=>?_) ah _ λh9 aq=>?_)
 have:=az k hk
 have:=m7.ep
 omega;have m9:=m7.use hlt aj aq;simp[hE,hw];refine LM.app 0 (m9.new ?_) rfl ZQ kR dE (row:=rows[i].take n++rows[i].drop (n+1)) (Zk.rowc sI) sO λc2 bo m10 ba=>?_;exact sm;simp[hE,hw];refine Ze.of (s.1++[rows[i].take n++rows[i].drop (n+1)],s.2++[key++[v]]) ⟨⟨c2,c',by simp[hE],m10,by simp[ay],sO⟩,by subst ax;exact hm⟩;have m7:=mL;simp[hE,a7];refine Za (MW _ x rows[i] n _ _ hn (by rw[hn];simp) (m7.jO hlt aj) (λk hk=>?_) ah _ λh9 aq=>?_)
 have:=az k hk
 have:=m7.ep
 omega;have m9:=m7.use hlt aj aq;simp[hE,hw];refine LM.app 0 (m9.new ?_) rfl ZQ kR dE (row:=rows[i].take n++rows[i].drop (n+1)) (Zk.rowc sI) sO λc2 bo m10 ba=>?_;exact sm;simp[hE,hw];refine Ze.of (s.1++[rows[i].take n++rows[i].drop (n+1)],s.2) ⟨⟨c2,cC,by simp[hE],m10,by simp[ay],sO⟩,by subst ax;exact hm⟩;rintro s e h' ⟨cO,cC,hF,mL,ay,bu⟩ hm;have hE:=hF.an hE;obtain rfl:=Zh hm;simp[hE];have aw:∀k∈l::(labs co++labs cn),k.1<h0.ep:=m.lt;have b7:=hs3.1;have bj:=mL.lab;have hO:∀k∈labs cO,h3.ep<=k.1/\k.1<h'.ep:=bj _ (Y6 ..);have hC:∀k∈labs cC,h3.ep<=k.1/\k.1<h'.ep:=bj _ (Yc _ (Y6 ..));have bh:∀k∈labs cC,k∉labs cO:=λk hk h9=>by
  have:=mL.dis
  simp only[YB,Xv,Ym] at this;exact(Yg.1 this).2.2 k h9 k hk rfl
 refine GC (m.frame mL.same) (mL.row _ (Y6 ..)) (λk hk h9=>by have:=aw k h9;have:=(hO k hk).1;omega) λh4 m4 bc=>?_;simp[hE];refine ID m4 ((mL.row _ (Yc _ (Y6 ..))).frame λk hk=>bc.2 k (hC k hk).2 λh9=>?_) (λk hk h9=>by have:=aw k h9;have:=(hC k hk).1;omega) λh5 m5 bn=>?_;rcases Y2.1 h9 with h8|h8;exact bh k hk h8
 have:=aw k (by simp[h8])
 have:=(hC k hk).1
 omega;simp[hE];refine hK h5 m5 (Z0.trans' (Z0.trans' (mL.same.mn) bc λk hk=>?_) bn λk hk=>?_);rcases Y2.1 hk with h8|h8;exact .inr (by have:=(hO k h8).1;omega);exact .inl (by simp[h8]);rcases Y2.1 hk with h8|h8;exact .inr (by have:=(hC k h8).1;omega);exact .inl (by simp[h8]);intro b hb;simp at hb;rcases hb with rfl|rfl;have b6:=ad.same.1;have cb:=ak.1;refine⟨sO,λh9=>?_⟩
 have:=(ae _ h9).1
 simp at this;omega;refine⟨sO,λh9=>?_⟩
 have:=(ae _ h9).2
 simp at this
 have:=ae k hk
 have:=au.1
 omega
 have:=hs3.1
 omega
instance Z9t(M:Mp):ConM (AG M) M (λr=>r) prog 190 [] (λ_=>.tup []):=⟨by intro r hm h l co cn vs K hp has hK;obtain rfl:=JN has;exact Rm h l co cn M r hm hp K hK⟩
theorem MpAt.bx{h:HS}{l:Z2}{co cn:C}{M:Mp}(m:MpAt h l co cn M):h.box l=some [.d (.int .i64 M.step.kind),.d (.str M.step.table),.d (.str M.step.other),.d (.str M.step.column),.d (.str M.step.newName),.d (.int .i64 M.step.type),.d (.sl (M.step.cols.map Zd)),.d (.str M.step.op),
  .d (.int .i64 M.step.value.kind),.d (.int .i64 M.step.value.int),.d (.str M.step.value.text),.d (.str M.step.newTable.name),.d (.sl (M.step.newTable.cols.map Col.enc)),.d (.sl (M.step.newTable.pk.map Zd)),
  .d (.str M.step.cons.table),.d (.int .i64 M.step.cons.left),.d (.str M.step.cons.op),.d (.int .i64 M.step.cons.right),.d (.int .i64 M.step.cons.value.kind),.d (.int .i64 M.step.cons.value.int),.d (.str M.step.cons.value.text),
  .d (.str M.step.fk.table),.d (.sl (M.step.fk.cols.map Zd)),.d (.str M.step.fk.ref),
  .d (.bool M.fwd),.d (.sl (M.src.tables.map Tbl.enc)),.d (.sl (M.src.fks.map Fk.enc)),.d (.sl (M.src.cons.map Cons.enc)),.d (.sl (M.dst.tables.map Tbl.enc)),.d (.sl (M.dst.fks.map Fk.enc)),.d (.sl (M.dst.cons.map Cons.enc)),
  .d (.sl (M.cs.tables.map Tbl.enc)),.d (.sl (M.cs.fks.map Fk.enc)),.d (.sl (M.cs.cons.map Cons.enc)),.d (.sl (M.inp.map Rel.enc)),.d (.sl (M.comp.map Rel.enc)),co,cn,.d (.int .i64 M.err)]:=m.box
abbrev R3:=List (List GV)×List (List GV)×List (List GV)
theorem Ff{c:C}{x:D}(hc:c.toD=some x)(h:HS):c.toA h=some (.d x):=by
 cases c<;>simp[C.toD] at hc<;>subst hc<;>rfl
theorem Z3.xD{P:Program}{f:FuncId}{vs:List V}{av:List AV}{r:RV}{h:HS}{K:V->HS->Prop}(d:Nat)(hs:Zj P f av r)(has:W1 h vs=some av)(hk:K (r.toV h.ep d) ((h.qM d r.fr).next)):Z3 P f vs h K:=by
 refine⟨hs.1,λΓ μ w vals hI hR=>?_⟩;obtain⟨am,af⟩:=JO has;have ab:Bw μ.cell (Wx w) av vals:=⟨by rw[hR.1];simp[am],λi x hi=>by obtain⟨v,ak,ag⟩:=af i x hi;obtain⟨u,hu,hr⟩:=hR.2 i v ak;exact⟨u,hu,Kf hI hr ag⟩⟩
 refine(hs.2 w μ.cell (Wx w) _ hI.glob hI.cell (EJ w) ab).mono ?_;rintro en w1 ⟨v,m',ad,rfl,aa,ae,ac,ah,hr,aj⟩;have al:Mem.Le μ (WU μ h.ep d m' ad):=⟨aa,rfl,λl x hl=>by
  have:=hI.lt l (by rw[hl];simp)
  simp only[WU];rw[if_neg oM];exact hl⟩
 exact⟨v,_,_,WU μ h.ep d m' ad,rfl,hk,hI.call d aa ae ac ah aj,HE hr h.ep d,al⟩
theorem Z3a{P:Program}{f:FuncId}{vs vs':List V}{av:List AV}{r:RV}{d:Nat}{e:Env}{h:HS}{Kc:Env->HS->Prop}(ls:List Z2)(hf:AT (h.only ls) vs vs')(hs:Zj P f av r)(has:W1 (h.qQ ls) vs'=some av)
  (hk:Kc (e.put (some d) (r.toV h.ep d)) (((h.qQ ls).qM d r.fr).next)):V4 P f [] vs d e h (K:=⟨Kc⟩):=
 Za (by simpa using Z3.jQ ls hf (Z3.xD (K:=λv h'=>Kc (e.put (some d) v) h') d hs has hk))
theorem Z0.qQ{h:HS}{ls:List Z2}:Z0 h (h.qQ ls) ls:=⟨Y7 _,λk _ hn=>by simp only[HS.qQ];rw[if_neg hn]⟩
structure GR(h0 h:HS)(gs:List (C×List (List GV))):Prop where
 row:∀g∈gs,MR h 1 g.1 (Zn (g.2.map rowc))
 lab:∀g∈gs,∀k∈labs g.1,h0.ep<=k.1/\k.1<h.ep
 dis:(gs.flatMap λg=>labs g.1).Nodup
theorem LM.gr{h0 h3 h:HS}{bs:List (Z2×List C)}{c:C}{qs:List NQ}{rows:List (List GV)}{gs:List (C×List (List GV))}{i:Nat}(m:LM h0 h3 bs c qs rows gs i h):GR h0 h gs:=
 ⟨m.row,λg hg k hk=>⟨Yv m.s0 (m.lab g hg k hk).1,(m.lab g hg k hk).2⟩,m.dis⟩
theorem GR.step{h0 h h':HS}{g:C×List (List GV)}{gs:List (C×List (List GV))}{ls:List Z2}(r:GR h0 h (g::gs))(hs:Z0 h h' (labs g.1++ls))(hl:∀k∈ls,k.1<h0.ep):GR h0 h' gs:=by
 have hn:=r.dis;rw[YB,Yg] at hn;refine⟨λx hx=>(r.row x (by simp[hx])).frame λk hk=>hs.2 k (r.lab x (by simp[hx]) k hk).2 λh9=>?_,λx hx k hk=>⟨(r.lab x (by simp[hx]) k hk).1,Y3 (r.lab x (by simp[hx]) k hk).2 hs.1⟩,hn.2.1⟩;rcases Y2.1 h9 with h8|h8;exact hn.2.2 k h8 k (Yx.2 ⟨x,hx,hk⟩) rfl
 have:=hl k h8
 have:=(r.lab x (by simp[hx]) k hk).1
 omega
theorem GR.same{h0 h h':HS}{g:C×List (List GV)}{gs:List (C×List (List GV))}{ls ls':List Z2}(r:GR h0 h (g::gs))(hs:Z0 h h' (labs g.1++ls))(aa:Z0 h0 h ls')(hl:∀k∈ls,k∈ls'):Z0 h0 h' ls':=
 aa.trans' hs λk hk=>by rcases Y2.1 hk with h8|h8;exact .inr (r.lab g (Y6 ..) k h8).1;exact .inl (hl k h8)
theorem Bi{d:Nat}{e:Env}{h0 h:HS}{l:Z2}{co cn:C}{M:Mp}{t:ByteArray}{g:C×List (List GV)}{gs:List (C×List (List GV))}{ls:List Z2}{Kc:Env->HS->Prop}(m:MpAt h l co cn M)(aa:∀k∈l::(labs co++labs cn),k.1<h0.ep)(hs:Z0 h0 h ls)(r:GR h0 h (g::gs))
  (hk:∀h',MpAt h' l co cn {M with out:=ZI t g.2 M.out}->Z0 h0 h' ls->GR h0 h' gs->Kc (e.put (some d) (.tup [])) h')(ac:∀k∈labs co++labs cn,k∈ls:=by first|exact λ_ h=>h|exact λ_ h=>Yc _ h):V4 prog 222 [] [.one (.ptr l 0),.s t,.one g.1] d e h (K:=⟨Kc⟩):=
 GC m (r.row g (Y6 ..)) (λk hk h9=>by have:=aa k h9;have:=(r.lab g (Y6 ..) k hk).1;omega) λh' m' ab=>
  hk h' m' (r.same ab hs λk hk=>ac k (by simp[hk])) (r.step ab λk hk=>aa k (by simp[hk]))
theorem ER{d:Nat}{e:Env}{h0 h:HS}{l:Z2}{co cn:C}{M:Mp}{t:ByteArray}{g:C×List (List GV)}{gs:List (C×List (List GV))}{ls:List Z2}{Kc:Env->HS->Prop}(m:MpAt h l co cn M)(aa:∀k∈l::(labs co++labs cn),k.1<h0.ep)(hs:Z0 h0 h ls)(r:GR h0 h (g::gs))
  (hk:∀h',MpAt h' l co cn {M with nc:=ZI t g.2 M.nc}->Z0 h0 h' ls->GR h0 h' gs->Kc (e.put (some d) (.tup [])) h')(ac:∀k∈labs co++labs cn,k∈ls:=by first|exact λ_ h=>h|exact λ_ h=>Yc _ h):V4 prog 223 [] [.one (.ptr l 0),.s t,.one g.1] d e h (K:=⟨Kc⟩):=
 ID m (r.row g (Y6 ..)) (λk hk h9=>by have:=aa k h9;have:=(r.lab g (Y6 ..) k hk).1;omega) λh' m' ab=>
  hk h' m' (r.same ab hs λk hk=>ac k (by simp[hk])) (r.step ab λk hk=>aa k (by simp[hk]))
theorem MpAt.rO{h:HS}{l:Z2}{co cn:C}{M:Mp}(m:MpAt h l co cn M)(k:Int):MpAt (h.qA l (Wt {M with err:=k} co cn)) l co cn {M with err:=k}:=
 ⟨sI,m.out.frame λk hk=>by simp[HS.qA,show k≠l from λhe=>m.nl.1 (he▸hk)],m.nc.frame λk hk=>by simp[HS.qA,show k≠l from λhe=>m.nl.2.1 (he▸hk)],m.lt,m.nl⟩
abbrev LG(h0 h3:HS)(bs:List (Z2×List C))(gs:List (C×List (List GV)))(h:HS):Prop:=LM h0 h3 bs .nil [] [] gs 0 h
def Vd(m:Mp)(table:ByteArray):Option (Tbl×(List (List GV))):=
 Z1 (WZ m.src m.inp table) λv2=>some (v2.1,v2.2)
instance Zay(m:Mp)(table:ByteArray):Con (Vd m table) prog 218 [.one (.rp m.enc),.one (.d (.str table))] (λr=>.tup [.agg (r.1.enc.map RC.d),.one (.d (.sl (r.2.map (Z6 GV.enc))))]):=by unfold Vd;have p1:PH [1] (Plan.qB [0,1,2,3,4,5,6,7,8,9,10,11,12,13] .done):=.intro;exact go 18 Tryz.func218
def Cw(m:Mp)(t:Tbl)(row:List GV):Option Bool:=
 Z1 (W7 t m.step.column) λv2=>Z7 row v2.1 λx3=>Z1 (Aa x3 m.step.op m.step.value) λv4=>some !v4.1
instance Zag(m:Mp)(t:Tbl)(row:List GV):Con (Cw m t row) prog 231 [.one (.rp m.enc),.agg t.enc,.one (.d (.sl (row.map GV.enc)))] (λr=>.one (.d (.bool r))):=by unfold Cw;have p1:PH [1] (Plan.qB [0,1,2,3,4,5,6,7,8,9,10,11] .done):=.intro;have p2:PH [2] (Plan.qB [0,1,2,3,4,5,6,7,8,9,10,11,12,13,14,15,16,17,18,19] .done):=.intro;exact go 41 Tryz.func231
def BX(b:Bool):Option GV:=
 bif b then some (GV.mk 2 1 empty) else some (GV.mk 2 0 empty)
instance GE(b:Bool):Con (BX b) prog 232 [.one (.d (.bool b))] (λr=>.agg (r.enc.map RC.d)):=by unfold BX;exact go 8 Tryz.func232
def PK(o:Bool)(row:List GV)(s:R3):R3:=bif o then(s.1,s.2.1++[row],s.2.2) else(s.1++[row],s.2.1,s.2.2)
def Jv(M:Mp)(T:Tbl){ρ:Type}(_:Nat)(row:List GV)(s:R3)(next:R3->Option ρ):Option ρ:=
 Z1 (Vl T row) λkey=>Z1 (Cw M T row) λo=>Z1 (A8 M key) λst=>
 Z1 (bif st.2 then Z7 st.1 0 λv=>Z1 (BX o) λb=>some (Vk v b) else some false) λc=>
 bif c then Z1 (BX (!o)) λb=>Zp (key.length+1<=2097152) (next (PK (!o) row (s.1,s.2.1,s.2.2++[key++[b]]))) else next (PK o row s)
def EG(M:Mp):Option Mp:=
 Z1 (Vd M M.step.table) λq=>Zp (q.2.length<=2097152)<|
 Zc (Jv M q.1) (λs=>some {M with out:=ZI M.step.other s.2.1 (ZI M.step.table s.1 M.out),nc:=ZI M.step.table s.2.2 M.nc}) q.2 0 ([],[],[])
theorem Ty(h0:HS)(l:Z2)(co cn:C)(M M1:Mp)(hm:Is (EG M) M1)(m:MpAt h0 l co cn M)(K:V->HS->Prop)
  (hK:∀h',MpAt h' l co cn M1->Z0 h0 h' (labs co++labs cn)->K (.tup []) h'):Z3 prog 195 [.p l] h0 K:=by
 refine Z3.ov Tryz.func195 ?_;unfold EG at hm;obtain⟨⟨T,rows⟩,ht,hm⟩:=hm.bind;obtain⟨hlim,hm⟩:=hm.chk;simp only at hlim hm;have hl:=(m.lt l (Y6 ..));simp[m.bx,Zm hl,ZO hl];refine WS ht m ?_ ?_;simp;simp[Zm hl,ZO hl];intro hlim;have hs3:Z0 h0 ((h0.next.qA (h0.ep+1,32) [C.d (D.str empty),C.nil,C.nil]).next.qA (h0.ep+1,32) (T.enc.map C.d)) []:=by exact sm
 obtain⟨h3,ab⟩:∃h3,h3=(h0.next.qA (h0.ep+1,32) [C.d (D.str empty),C.nil,C.nil]).next.qA (h0.ep+1,32) (T.enc.map C.d):=⟨_,rfl⟩;have ak:h3.box (h0.ep+1,32)=some (T.enc.map C.d):=by rw[ab];simp
 have ag:h0.ep+1<h3.ep:=by rw[ab];simp
 have hh:=ab;simp only[Tbl.enc,Yb,Yd] at hh;rw[<-ab] at hs3;rw[<-hh];have m3:LM h0 h3 [((h0.ep+1,32),T.enc.map C.d)] .nil [] [] [(.nil,[]),(.nil,[]),(.nil,[])] 0 h3:=
  ⟨by simpa using ak,⟨MR.nil,rfl,sI⟩,by simp[Zn,MR.nil],hs3,Y7 _,by simp[labs],by simp[labs],by simpa[Z5,labs] using ag,by simp[Z5,labs],by simp[Z5,labs],hs3.1,sI⟩
 refine Z4.for (xs:=rows) (s0:=(([],[],[]):R3)) (λi s e h'=>∃cF cS cC,En e 95 [(0,.p l),(2,.p (h0.ep+1,32)),(4,.one cF),(5,.one cS),(6,.one cC),(23,.l (rows.map (Z6 GV.enc))),(24,.i (rows.length:Int)),(25,.i (i:Int))]/\
   LM h0 h3 [((h0.ep+1,32),T.enc.map C.d)] .nil [] [] [(cF,s.1),(cS,s.2.1),(cC,s.2.2)] 0 h'/\s.1.length<=i/\s.2.1.length<=i/\s.2.2.length<=i) hm
   ⟨.nil,.nil,.nil,sI,m3,sI,sI,sI⟩ ?_ ?_
 rintro i s e h' ⟨cF,cS,cC,hE,mL,n1,n2,n3⟩ hlt hm;have hw:IntKind.i64.wrap ((i:Int)+1)=(i:Int)+1:=Y5 _ oM;unfold Jv at hm;obtain⟨key,af,hm⟩:=hm.bind;obtain⟨o,ho,hm⟩:=hm.bind;obtain⟨st,hst,hm⟩:=hm.bind;obtain⟨c,hc,hm⟩:=hm.bind;have mM:=m.frame mL.same;have bt:=mL.box _ (Y6 ..);simp only[Tbl.enc,Yb,Yd] at bt;simp[hE,hlt,bt];refine Zq ((Uk T rows[i]).h key af) sI ?_;simp[hE,bt];refine WS ho (mM.frame Z0.refl.qC.next) sI ?_;simp[hE,bt];refine WS hst (mM.frame Z0.refl.qC.next.next) sI ?_;simp[hE,bt];refine Z4.cu [0,1,2,3,4,5,6,7,8] (λE h1=>Ek e E [(8,.l (rows[i].map GV.enc)),(9,.one (.own (h'.ep,497) (key.map GV.enc))),(10,.b o),(50,.b c)] [0,2,4,5,6,23,24,25]/\
  h1.arr (h'.ep,497)=some (key.length,3)/\Z0 h' h1 []/\h'.ep<h1.ep) ?_ ?_
 simp[hE];refine F7 hc ?_ ?_<;>clear hc<;>intro aa hc;replace hc:=Is.get hc;obtain⟨v,-,hv,hc⟩:=hc;obtain⟨b,hb,hc⟩:=hc.bind;obtain rfl:=Zh hc;simp at hv;simp[hE,aa,hv];refine Zq ((GE o).h b hb) sI ?_;simp[hE,aa,hv];refine⟨λ_ _ x=>x,Zb.of ?_⟩;simp[hE,Vk];exact sm;obtain rfl:=Zh hc;simp[hE,aa]
 first|refine Zb.of ?_|refine⟨λ_ _ x=>x,Zb.of ?_⟩
 simp[hE];exact sm;rintro e1 h1 ⟨hF,ha,ah,ap⟩;have hE:=hF.an hE;have ac:=mL.new ah;simp[hE];refine Zy hm ?_ ?_<;>clear hm<;>intro ar hm;obtain⟨b,hb,hm⟩:=hm.bind;obtain⟨aq,hm⟩:=hm.chk;simp[hE];refine Zq ((GE (!o)).h b hb) sI ?_;simp[hE];refine U3 (xs:=key.map GV.enc) (ys:=[b.enc]) Wv (Zi.own (by simp[ha]) sO (by intro y hy;obtain⟨z,_,rfl⟩:=Yi.1 hy;rfl)) rfl dE dE sI sO ?_;simp[hE];refine LM.app 2 (ac.new ?_) rfl ZQ kR dE (row:=key++[b]) (Zk.rowc sI) sO λae h2 m2 hs2=>?_;exact sm;replace m2:LM h0 h3 [((h0.ep+1,32),T.enc.map C.d)] .nil [] [] [(cF,s.1),(cS,s.2.1),(ae,s.2.2++[key++[b]])] 0 h2:=m2;have n4:(s.2.2++[key++[b]]).length<=i+1:=sO
 generalize s.2.2++[key++[b]]=sC at hm m2 n4;generalize hq:(!o)=q at hm;simp[hE,hq];cases q;simp[hE];refine LM.app 0 (m2.new Z0.refl.qC.next) rfl ZQ kR dE (row:=rows[i]) (Zk.rowc rfl) sO λc2 h4 m4 ad=>?_;simp[hE,hw];exact Ze.of (s.1++[rows[i]],s.2.1,sC) ⟨⟨c2,cS,ae,by simp[hE],m4,sO,sO,n4⟩,hm⟩;simp[hE];refine LM.app 1 (m2.new Z0.refl.qC.next) rfl ZQ kR dE (row:=rows[i]) (Zk.rowc rfl) sO λc2 h4 m4 ad=>?_;simp[hE,hw];exact Ze.of (s.1,s.2.1++[rows[i]],sC) ⟨⟨cF,c2,ae,by simp[hE],m4,sO,sO,n4⟩,hm⟩;simp[hE];cases o;simp[hE];refine LM.app 0 (ac.new Z0.refl.qC.next) rfl ZQ kR dE (row:=rows[i]) (Zk.rowc rfl) sO λc2 h4 m4 ad=>?_;simp[hE,hw];exact Ze.of (s.1++[rows[i]],s.2.1,s.2.2) ⟨⟨c2,cS,cC,by simp[hE],m4,sO,sO,sO⟩,hm⟩;simp[hE];refine LM.app 1 (ac.new Z0.refl.qC.next) rfl ZQ kR dE (row:=rows[i]) (Zk.rowc rfl) sO λc2 h4 m4 ad=>?_;simp[hE,hw];exact Ze.of (s.1,s.2.1++[rows[i]],s.2.2) ⟨⟨cF,c2,cC,by simp[hE],m4,sO,sO,sO⟩,hm⟩;rintro s e h' ⟨cF,cS,cC,hE,mL,-⟩ hm;obtain rfl:=Zh hm;have mM:=m.frame mL.same;simp[hE,mM.bx];refine Bi mM m.lt (mL.same.mn) mL.gr λh5 m5 am g5=>?_;simp[hE,m5.bx];refine Bi m5 m.lt am g5 λh6 m6 aj g6=>?_;simp[hE,m6.bx];refine ER m6 m.lt aj g6 λh7 m7 al _=>?_;simp[hE];exact hK h7 m7 al
def A3(m:Mp)(wide:Tbl):Option ((List Int)):=
 bif (m.step.kind==6) then some m.step.cols else Z7 m.cs.tables 0 λx3=>Zp (W9 ((x3.cols.length:Int)-(x3.pk.length:Int))) (WI (λ(i8:Nat) (s8:(List Int)) next_8=>Zp (W9 ((wide.cols.length:Int)-((x3.cols.length:Int)-(x3.pk.length:Int)))) (Zp (W9 (((wide.cols.length:Int)-((x3.cols.length:Int)-(x3.pk.length:Int)))+(i8:Int))) (W0 s8 [(((wide.cols.length:Int)-((x3.cols.length:Int)-(x3.pk.length:Int)))+(i8:Int))] λ_=>Zp (W9 ((i8:Int)+1)) (next_8 (s8++[(((wide.cols.length:Int)-((x3.cols.length:Int)-(x3.pk.length:Int)))+(i8:Int))]))))) (λ(s8:(List Int))=>some s8) (Int.toNat ((x3.cols.length:Int)-(x3.pk.length:Int))) 0 [])
instance Z9u(m:Mp)(wide:Tbl):Con (A3 m wide) prog 229 [.one (.rp m.enc),.agg wide.enc] (λr=>.one (.d (.sl (r.map Zd)))):=by
 unfold A3;have l1:LH (σ:=(List Int)) 35 [3,6,34] [.g 7 1 (λs=>s.map Zd)]:=.intro;exact go 50 Tryz.func229

def AJ(s1:List GV)(s2:List GV):Option Bool:=
 bif ((s1.length:Int) !=(s2.length:Int)) then some false else Zc (λ(i5:Nat) (x5:GV) (s5:Unit) next_5=>Z7 s2 (i5:Int) λx6=>bif (!(x5.kind==x6.kind)||(!(x5.int==x6.int)||(!(x5.text==x6.text)))) then some false else next_5 ()) (λ(s5:Unit)=>some true) s1 0 ()
instance IA(s1:List GV)(s2:List GV):Con (AJ s1 s2) prog 109 [.one (.d (.sl (s1.map GV.enc))),.one (.d (.sl (s2.map GV.enc)))] (λr=>.one (.d (.bool r))):=by unfold AJ;have l1:LH (σ:=Unit) 13 [0,1,12] []:=.intro;have p1:PH [6] (Plan.qB [0,1,2,3,4,5,6,7,8] .done):=.intro;exact go 26 Tryz.func109
theorem P5{P:Program}{ty el:TypeId}{aa d:Nat}{h:HS}{c c2:C}{lv:Z2}{xs zs:List GV}{v:GV}{K:V->HS->Prop}(ab:Zv P ty=some (el,3,aa))(hb:aa<=4096)(g:Zi h 3 c (xs.map GV.enc))(g2:Zi h 3 c2 (zs.map GV.enc))(ha:Ws c c2)(hl:xs.length+1<=2097152)
  (hk:∀c' h',Zi h' 3 c' ((xs++[v]).map GV.enc)->Zi h' 3 c2 (zs.map GV.enc)->Ws c' c2->Z0 h h' []->K (.one c') h'):Vv P ty c (.own lv [v.enc]) d h (K:=⟨K⟩):=by
 have hu:(C.qI h c).box=h.box/\(C.qI h c).ep=h.ep:=by cases c<;>exact⟨rfl,rfl⟩
 refine U3 (xs:=xs.map GV.enc) (ys:=[v.enc]) ab g rfl dE hb (by simp[GV.enc]) (by simpa using hl) ?_;have e1:xs.map GV.enc++[v.enc]=(xs++[v]).map GV.enc:=sI
 rw[e1];refine hk _ _ (Zi.app hu.2.symm λy hy=>?_) ((g2.qI ha).qC (by simp[hu.2])).next (g2.apart (Y7 _)) ⟨by simp[hu.2],λk _ _=>by simp[hu.1]⟩;obtain⟨z,_,rfl⟩:=Yi.1 hy;rfl
def K0{ρ:Type}(at_:List Int)(row:List GV)(k:List GV×List GV->Option ρ):Option ρ:=
 Zc (λ(i:Nat) (v:GV) (s:List GV×List GV) next=>Z1 (Ue at_ (i:Int)) λb=>bif b then next (s.1++[v],s.2) else next (s.1,s.2++[v])) k row 0 ([],[])
def Jc(M:Mp)(T:Tbl)(at_:List Int){ρ:Type}(_:Nat)(row:List GV)(s:R3)(next:R3->Option ρ):Option ρ:=
 Zp (row.length<=2097151)<|Z1 (Vl T row) λkey=>K0 at_ row λmr=>Z1 (A8 M key) λst=>
 Z1 (bif st.2 then Z1 (AJ st.1 mr.1) λb=>some b else some false) λc=>
 Z1 (DZ [key,mr.1]) λaa=>bif c then next (s.1++[mr.2],s.2.1,s.2.2++[aa]) else next (s.1++[mr.2],s.2.1++[aa],s.2.2)
def Dk(M:Mp):Option Mp:=
 Z1 (Vd M M.step.table) λq=>Z1 (A3 M q.1) λat_=>Zp (q.2.length<=2097152)<|
 Zc (Jc M q.1 at_) (λs=>some {M with out:=ZI M.step.other s.2.1 (ZI M.step.table s.1 M.out),nc:=ZI M.step.table s.2.2 M.nc}) q.2 0 ([],[],[])
theorem OU(h0:HS)(l:Z2)(co cn:C)(M M1:Mp)(hm:Is (Dk M) M1)(m:MpAt h0 l co cn M)(K:V->HS->Prop)
  (hK:∀h',MpAt h' l co cn M1->Z0 h0 h' (labs co++labs cn)->K (.tup []) h'):Z3 prog 193 [.p l] h0 K:=by
 refine Z3.ov Tryz.func193 ?_;unfold Dk at hm;obtain⟨⟨T,rows⟩,ht,hm⟩:=hm.bind;obtain⟨at_,aq,hm⟩:=hm.bind;obtain⟨hlim,hm⟩:=hm.chk;simp only at hlim hm aq;have hl:=(m.lt l (Y6 ..));simp[m.bx,Zm hl,ZO hl];refine WS ht m ?_ ?_;simp;simp[Zm hl,ZO hl];have hs3:Z0 h0 ((h0.next.qA (h0.ep+1,32) [C.d (D.str empty),C.nil,C.nil]).next.qA (h0.ep+1,32) (T.enc.map C.d)) []:=by exact sm
 obtain⟨h3,ag⟩:∃h3,h3=(h0.next.qA (h0.ep+1,32) [C.d (D.str empty),C.nil,C.nil]).next.qA (h0.ep+1,32) (T.enc.map C.d):=⟨_,rfl⟩;have aj:h3.box (h0.ep+1,32)=some (T.enc.map C.d):=by rw[ag];simp
 have al:h0.ep+1<h3.ep:=by rw[ag];simp
 have hh:=ag;simp only[Tbl.enc,Yb,Yd] at hh;rw[<-ag] at hs3;rw[<-hh];refine WS aq (m.frame hs3) sI ?_;simp;intro _;replace aj:h3.next.box (h0.ep+1,32)=some (T.enc.map C.d):=aj;replace al:h0.ep+1<h3.next.ep:=sO;replace hs3:=hs3.next;generalize h3.next=h3 at hs3 aj al|-;clear hh ag;have m3:LG h0 h3 [((h0.ep+1,32),T.enc.map C.d)] [(.nil,[]),(.nil,[]),(.nil,[])] h3:=
  ⟨by simpa using aj,⟨MR.nil,rfl,sI⟩,by simp[Zn,MR.nil],hs3,Y7 _,by simp[labs],by simp[labs],by simpa[Z5,labs] using al,by simp[Z5,labs],by simp[Z5,labs],hs3.1,sI⟩
 refine Z4.for (xs:=rows) (s0:=(([],[],[]):R3)) (λi s e h'=>∃cF cS cC,En e 113 [(0,.p l),(2,.p (h0.ep+1,32)),(4,.l (at_.map Zd)),(5,.one cF),(6,.one cS),(7,.one cC),(30,.l (rows.map (Z6 GV.enc))),(31,.i (rows.length:Int)),(32,.i (i:Int))]/\
   LG h0 h3 [((h0.ep+1,32),T.enc.map C.d)] [(cF,s.1),(cS,s.2.1),(cC,s.2.2)] h'/\s.1.length<=i/\s.2.1.length<=i/\s.2.2.length<=i) hm
   ⟨.nil,.nil,.nil,sI,m3,sI,sI,sI⟩ ?_ ?_
 rintro i s e h' ⟨cF,cS,cC,hE,mL,n1,n2,n3⟩ hlt hm;have hw:IntKind.i64.wrap ((i:Int)+1)=(i:Int)+1:=Y5 _ oM;unfold Jc at hm;obtain⟨a1,hm⟩:=hm.chk;obtain⟨key,au,hm⟩:=hm.bind;have bt:=mL.box _ (Y6 ..);simp only[Tbl.enc,Yb,Yd] at bt;simp[hE,hlt,bt];refine Zq ((Uk T rows[i]).h key au) sI ?_;simp[hE,bt];intro _;have aw:=mL.new (h':=(h'.qC (h'.ep,16*38+1) (some (key.length,3))).next) Z0.refl.qC.next;refine Z4.for (xs:=rows[i]) (s0:=(([],[]):List GV×List GV)) (λj q E ab=>∃cM cR,Ek e E [(10,.one (.own (h'.ep,609) (key.map GV.enc))),(11,.one cM),(12,.one cR)] [0,2,4,5,6,7,30,31,32]/\
  E.get 39=.l (rows[i].map GV.enc)/\E.get 40=.i (rows[i].length:Int)/\E.get 41=.i (j:Int)/\LG h0 h3 [((h0.ep+1,32),T.enc.map C.d)] [(cF,s.1),(cS,s.2.1),(cC,s.2.2)] ab/\Zi ab 3 cM (q.1.map GV.enc)/\Zi ab 3 cR (q.2.map GV.enc)/\Ws cM cR/\q.1.length<=j/\q.2.length<=j) hm
  ⟨.nil,.nil,by simp[hE],sI,sI,sI,aw,.nil,.nil,by simp[NF],sI,sI⟩ ?_ ?_
 rintro j q e ab ⟨cM,cR,hF,ac,ad,ae,mL,gM,gR,hA,q1,q2⟩ hlj hm;have hE:=hF.an hE;have ap:IntKind.i64.wrap ((j:Int)+1)=(j:Int)+1:=Y5 _ oM;obtain⟨b,hb,hm⟩:=hm.bind;simp[hE,ac,ad,ae,hlj];refine Zq ((Gn at_ j).h b hb) sI ?_;simp[hE,ac,ad,ae];have hx:Z0 ab ((ab.qA (ab.ep,224) [C.d (D.int IntKind.i64 0),C.d (D.int IntKind.i64 0),C.d (D.str empty)]).next.qA (ab.ep,224) (rows[i][j].enc.map C.d)).next []:=((Z0.refl.qA (.inr sI)).next.qA (.inr sI)).next;have gx:∀{c:C} {xs:List (List D)},Zi ab 3 c xs->Zi (((ab.qA (ab.ep,224) [C.d (D.int IntKind.i64 0),C.d (D.int IntKind.i64 0),C.d (D.str empty)]).next.qA (ab.ep,224) (rows[i][j].enc.map C.d)).next) 3 c xs:=λg=>(g.qA.next.qA).next;simp only[GV.enc,Yb,Yd] at hx gx;refine Zy hm ?_ ?_<;>clear hm<;>intro hb2 hm;simp[hE,ac,ad,ae];refine P5 (v:=rows[i][j]) (xs:=q.1) (zs:=q.2) (c2:=cR) Wv dE ?_ ?_ hA oM λc2 h5 g5 g6 am af=>?_;exact((gx gM).qC sI).next;exact((gx gR).qC sI).next;simp[hE,ac,ad,ae,ap];refine Ze.of (q.1++[rows[i][j]],q.2) ⟨⟨c2,cR,by simp[hE],by simp[ac],by simp[ad],sI,(mL.new (hx.trans ?_)).new af,g5,g6,am,sO,sO⟩,hm⟩;exact Z0.refl.qC.next;simp[hE,ac,ad,ae];refine P5 (v:=rows[i][j]) (xs:=q.2) (zs:=q.1) (c2:=cM) Wv dE ?_ ?_ hA.symm oM λc2 h5 g5 g6 am af=>?_;exact((gx gR).qC sI).next;exact((gx gM).qC sI).next;simp[hE,ac,ad,ae,ap];refine Ze.of (q.1,q.2++[rows[i][j]]) ⟨⟨cM,c2,by simp[hE],by simp[ac],by simp[ad],sI,(mL.new (hx.trans ?_)).new af,g6,g5,am.symm,sO,sO⟩,hm⟩;exact Z0.refl.qC.next;rintro q e ab ⟨cM,cR,hF,ac,ad,ae,mL,gM,gR,hA,q1,q2⟩ hm;have hE:=hF.an hE;obtain⟨st,hst,hm⟩:=hm.bind;obtain⟨c,hc,hm⟩:=hm.bind;obtain⟨aa,ak,hm⟩:=hm.bind;have dR:=gR.toD;have dM:=gM.toD;have aM:=gM.toA;have lM:=gM.list;simp[hE,ac,ad,ae,dR]
 refine LM.app 0 (mL.new Z0.refl.qC.next) rfl ZQ kR dE (row:=q.2) (Zk.rowc rfl) sO λah h5 m5 af=>?_;replace m5:LG h0 h3 [((h0.ep+1,32),T.enc.map C.d)] [(ah,s.1++[q.2]),(cS,s.2.1),(cC,s.2.2)] h5:=m5;simp[hE];refine WS hst (m.frame m5.same) sI ?_;simp[hE];refine F7 hc ?_ ?_<;>clear hc<;>intro hs2 hc;obtain⟨b,hb,hc⟩:=hc.bind;obtain rfl:=Zh hc;simp[hE,hs2];refine Zq ((IA st.1 q.1).h b hb) (by simp[aM]) ?_;simp[hE,hs2];refine Zy hm ?_ ?_<;>clear hm<;>intro az hm;simp[hE,dM];refine Zq ((E6 [key,q.1] aa ak)) (by simp[Z6]) ?_;simp[hE];refine LM.app 2 (m5.new ?_) rfl ZQ kR dE (row:=aa) (Zk.rowc rfl) sO λc9 h9 m9 ar=>?_;exact sm;simp[hE,hw];exact Ze.of (s.1++[q.2],s.2.1,s.2.2++[aa]) ⟨⟨ah,cS,c9,by simp[hE],m9,sO,sO,sO⟩,hm⟩;simp[hE,dM];refine Zq ((E6 [key,q.1] aa ak)) (by simp[Z6]) ?_;simp[hE];refine LM.app 1 (m5.new ?_) rfl ZQ kR dE (row:=aa) (Zk.rowc rfl) sO λc9 h9 m9 ar=>?_;exact sm;simp[hE,hw];exact Ze.of (s.1++[q.2],s.2.1++[aa],s.2.2) ⟨⟨ah,c9,cC,by simp[hE],m9,sO,sO,sO⟩,hm⟩;obtain rfl:=Zh hc;simp only[cond_false] at hm;simp[hE,hs2];simp[hE,dM];refine Zq ((E6 [key,q.1] aa ak)) (by simp[Z6]) ?_;simp[hE];refine LM.app 1 (m5.new ?_) rfl ZQ kR dE (row:=aa) (Zk.rowc rfl) sO λc9 h9 m9 ar=>?_;exact sm;simp[hE,hw];exact Ze.of (s.1++[q.2],s.2.1++[aa],s.2.2) ⟨⟨ah,c9,cC,by simp[hE],m9,sO,sO,sO⟩,hm⟩;rintro s e h' ⟨cF,cS,cC,hE,mL,-⟩ hm;obtain rfl:=Zh hm;have mM:=m.frame mL.same;simp[hE,mM.bx];refine Bi mM m.lt (mL.same.mn) mL.gr λh5 m5 af g5=>?_;simp[hE,m5.bx];refine Bi m5 m.lt af g5 λh6 m6 ax g6=>?_;simp[hE,m6.bx];refine ER m6 m.lt ax g6 λh7 m7 ay _=>?_;simp[hE];exact hK h7 m7 ay
def Ah(kind:Int)(nullable:Bool):Option GV:=
 bif nullable then some (GV.mk 0 0 empty) else bif decide (kind<1) then some (GV.mk 0 0 empty) else bif decide (3<kind) then some (GV.mk 0 0 empty) else some (GV.mk kind 0 empty)
instance Zcs(kind:Int)(nullable:Bool):Con (Ah kind nullable) prog 242 [.one (.d (.int .i64 kind)),.one (.d (.bool nullable))] (λr=>.agg (r.enc.map RC.d)):=by unfold Ah;exact go 17 Tryz.func242
def DV(m:Mp)(key:List GV)(wide:Tbl)(at_:List Int):Option ((List GV)):=
 Z1 (A8 m key) λv2=>bif v2.2 then some v2.1 else Zc (λ(i5:Nat) (x5:Int) (s5:(List GV)) next_5=>Z7 wide.cols x5 λx6=>Z1 (Ah x6.kind x6.nullable) λv7=>W0 s5 [v7] λ_=>next_5 (s5++[v7])) (λ(s5:(List GV))=>some s5) at_ 0 []
instance Zaf(m:Mp)(key:List GV)(wide:Tbl)(at_:List Int):Con (DV m key wide at_) prog 230 [.one (.rp m.enc),.one (.d (.sl (key.map GV.enc))),.agg wide.enc,.one (.d (.sl (at_.map Zd)))] (λr=>.one (.d (.sl (r.map GV.enc)))):=by
 unfold DV;have l1:LH (σ:=(List GV)) 24 [6,22,23] [.g 11 3 (λs=>s.map GV.enc)]:=.intro;have p1:PH [8] (Plan.qB [0,1,2,3,4,5,6,7,8,9,10,11,12,13,14,15,16] .done):=.intro;exact go 46 Tryz.func230
def Bg(row:List GV)(removed:List Int)(inserted:List Int)(values:List GV)(width:Int):Option ((List GV)):=
 Zc (λ(i2:Nat) (x2:GV) (s2:(List GV)) next_2=>Z1 (Ue removed (i2:Int)) λv4=>bif !v4 then W0 s2 [x2] λ_=>(next_2 (s2++[x2])) else next_2 s2) (λ(s2:(List GV))=>WI (λ(i8:Nat) (s8:(List GV)×(List GV)) next_8=>Z1 (BU inserted (i8:Int)) λv9=>bif decide (0<=v9) then Z7 values v9 λx11=>(W0 s8.1 [x11] λ_=>Zp (W9 ((i8:Int)+1)) (next_8 ((s8.1++[x11]),s8.2))) else Z7 s8.2 0 λx15=>W0 s8.1 [x15] λ_=>Zp (0<=1/\1<=(s8.2.length:Int)/\(s8.2.length:Int)<=(s8.2.length:Int)) (Zp (W9 ((i8:Int)+1)) (next_8 ((s8.1++[x15]),((s8.2.take s8.2.length).drop 1))))) (λ(s8:(List GV)×(List GV))=>some s8.1) (Int.toNat width) 0 ([],s2)) row 0 []
instance GD(row:List GV)(removed:List Int)(inserted:List Int)(values:List GV)(width:Int):Con (Bg row removed inserted values width) prog 228 [.one (.d (.sl (row.map GV.enc))),.one (.d (.sl (removed.map Zd))),.one (.d (.sl (inserted.map Zd))),.one (.d (.sl (values.map GV.enc))),.one (.d (.int .i64 width))] (λr=>.one (.d (.sl (r.map GV.enc)))):=by
 unfold Bg;have l1:LH (σ:=(List GV)) 19 [1,2,3,4,17,18] [.g 11 3 (λs=>s.map GV.enc)]:=.intro;have l2:LH (σ:=(List GV)×(List GV)) 34 [2,3,33] [.g 14 3 (λs=>s.1.map GV.enc),.r 11 (λs=>s.2.map GV.enc)]:=.intro;exact go 59 Tryz.func228
abbrev N2:=Nat×List (List GV)×List (List GV)
def Jw(M:Mp)(T O:Tbl)(os:List (List GV))(W:Tbl)(at_:List Int){ρ:Type}(_:Nat)(row:List GV)(s:N2)(next:N2->Option ρ):Option ρ:=
 Z1 (Vl T row) λkey=>Z1 (Uj O os key) λf=>
 bif f.2 then Z7 os f.1 λy=>Zp (T.pk.length<=y.length/\y.length<=2097152)<|Z1 (Bg row [] at_ (y.drop T.pk.length) W.cols.length) λr=>next (s.1+1,s.2.1++[r],s.2.2)
 else Z1 (DV M key W at_) λmv=>Z1 (DZ [key,mv]) λr2=>Z1 (Bg row [] at_ mv W.cols.length) λr=>next (s.1,s.2.1++[r],s.2.2++[r2])
def Dp(M:Mp):Option Mp:=
 Z1 (Vd M M.step.table) λq=>Z1 (Vd M M.step.other) λp=>Z1 (UL M M.step.table) λW=>Z1 (A3 M W) λat_=>Zp (q.2.length<=2097152)<|
 Zc (Jw M q.1 p.1 p.2 W at_) (λs=>some {M with out:=ZI M.step.table s.2.1 M.out,nc:=ZI M.step.table s.2.2 M.nc,err:=bif decide (s.1<p.2.length) then 12 else M.err}) q.2 0 (0,[],[])
theorem Pj(h0 l co cn M M1)(hm:Is (Dp M) M1)(m:MpAt h0 l co cn M)(K)
  (hK:∀h',MpAt h' l co cn M1->Z0 h0 h' (l::(labs co++labs cn))->K (.tup []) h'):Z3 prog 194 [.p l] h0 K:=by
 refine Z3.qN Tryz.func194 rfl kR rfl rfl sI ?_;unfold Dp at hm;obtain⟨⟨T,rows⟩,ht,hm⟩:=hm.bind;obtain⟨⟨O,os⟩,ho,hm⟩:=hm.bind;obtain⟨W,hW,hm⟩:=hm.bind;obtain⟨at_,ah,hm⟩:=hm.bind;obtain⟨hlim,hm⟩:=hm.chk;simp only at hlim hm ah;have hl:=(m.lt l (Y6 ..));have hne:=Zm hl;have hne':=ZO hl;have S:∀{a b:Nat} {cs cs':List C} {h:HS},Z0 h0 h []->h.ep=a->Z0 h0 ((h.qA (a,b) cs).next.qA (a,b) cs') []:=λ{a b cs cs' h} s e=>by subst e;exact s.trans ((Z0.refl.qA (.inr sI)).next.qA (.inr sI))
 simp[m.bx];refine WS ht m sI ?_;simp[m.bx,hne];refine WS ho (m.frame (S Z0.refl.next sI)) sI ?_;simp[m.bx,hne];refine WS hW (m.frame (S (S Z0.refl.next sI).next sI)) sI ?_;simp;refine WS ah (m.frame (S (S (S Z0.refl.next sI).next sI).next sI)) sI ?_;simp;intro _ _;generalize hH:HS.next _=h3;have hs3:Z0 h0 h3 []:=by rw[<-hH];exact sm
 have b1:h3.box (h0.ep+1,32)=some (T.enc.map C.d):=by rw[<-hH];simp
 have b2:h3.box (h0.ep+1+1+1,64)=some (O.enc.map C.d):=by rw[<-hH];simp
 have b3:h3.box (h0.ep+1+1+1+1+1,96)=some (W.enc.map C.d):=by rw[<-hH];simp
 have aq:h0.ep+6<h3.ep:=by rw[<-hH];simp
 obtain⟨bs,aa⟩:∃bs,bs=[((h0.ep+1,32),T.enc.map C.d),((h0.ep+1+1+1,64),O.enc.map C.d),((h0.ep+1+1+1+1+1,96),W.enc.map C.d)]:=⟨_,rfl⟩;have m3:LG h0 h3 bs [(.nil,[]),(.nil,[])] h3:=
  ⟨by rw[aa];simpa using⟨b1,b2,b3⟩,⟨MR.nil,rfl,sI⟩,by simp[Zn,MR.nil],hs3,Y7 _,by simp[labs],by simp[labs],by rw[aa];simp[Z5,labs];omega,by simp[Z5,labs],by simp[Z5,labs],hs3.1,sI⟩
 clear hH;refine Z4.for (λi s e h'=>∃cO cC,En e 123 [(0,.p l),(2,.p (h0.ep+1,32)),(4,.p (h0.ep+1+1+1,64)),(5,.l (os.map (Z6 GV.enc))),(6,.p (h0.ep+1+1+1+1+1,96)),(7,.l (at_.map Zd)),(8,.i T.pk.length),(9,.i s.1),(10,.one cO),(11,.one cC)]/\
   e.get 51=.l (rows.map (Z6 GV.enc))/\e.get 52=.i rows.length/\e.get 53=.i i/\LG h0 h3 bs [(cO,s.2.1),(cC,s.2.2)] h'/\s.1<=i/\s.2.1.length<=i/\s.2.2.length<=i) hm
   ⟨.nil,.nil,sI,sI,sI,sI,m3,sI,sI,sI⟩ ?_ ?_
 rintro i s e h' ⟨cO,cC,hE,ad,ab,ac,mL,n0,n1,n2⟩ hlt hm;have hw:IntKind.i64.wrap ((i:Int)+1)=(i:Int)+1:=Y5 _ oM;have am:IntKind.i64.wrap ((s.1:Int)+1)=(s.1:Int)+1:=Y5 _ oM;unfold Jw at hm;obtain⟨key,ag,hm⟩:=hm.bind;obtain⟨f,hf,hm⟩:=hm.bind;have c1:=mL.box _ (by rw[aa];simp;exact .inl rfl);have c2:=mL.box _ (by rw[aa];simp;exact .inr (.inl rfl));have c3:=mL.box _ (by rw[aa];simp;exact .inr (.inr rfl));simp only[Tbl.enc,Yb,Yd] at c1 c2 c3;simp[hE,ad,ab,ac,hlt,c1];refine Zq ((Uk T rows[i]).h key ag) sI ?_;simp[hE,c2];refine Zq ((D0 O os key).h f hf) sI ?_;simp[hE];refine Zy hm ?_ ?_<;>clear hm<;>intro _ hm;obtain⟨y,ap,hy,hm⟩:=hm.get;obtain⟨⟨hyl,_⟩,hm⟩:=hm.chk;obtain⟨r,hr,hm⟩:=hm.bind;simp[hE,am,ap,hy,hyl];refine Zq (CE (y.drop T.pk.length) _ rfl) (by simp[Xg]) ?_;simp[hE,c3];intro _;refine Zq ((GD rows[i] [] at_ (y.drop T.pk.length) W.cols.length).h r hr) (by simp[Xg]) ?_;simp[hE];refine LM.app 0 (mL.new ?_) rfl ZQ kR dE (Zk.rowc rfl) sO λc9 h9 m9 _=>?_;exact sm;simp[hE,ac,hw];exact Ze.of (s.1+1,s.2.1++[r],s.2.2) ⟨⟨c9,cC,by simp[hE],by simp[ad],by simp[ab],sI,m9,sO,sO,sO⟩,hm⟩;obtain⟨mv,aj,hm⟩:=hm.bind;obtain⟨r2,al,hm⟩:=hm.bind;obtain⟨r,hr,hm⟩:=hm.bind;simp[hE,c3];refine WS aj (m.frame (mL.same.trans Z0.refl.qC.next.next)) sI ?_;simp[hE];refine Zq (E6 [key,mv] r2 al) (by simp[Z6]) ?_;simp[hE];refine LM.app 1 (mL.new ?_) rfl ZQ kR dE (Zk.rowc rfl) sO λc8 h8 m8 _=>?_;exact sm;replace m8:LG h0 h3 bs [(cO,s.2.1),(c8,s.2.2++[r2])] h8:=m8;have c3:=m8.box _ (by rw[aa];simp;exact .inr (.inr rfl));simp only[Tbl.enc,Yb,Yd] at c3;simp[hE,c3];intro _;refine Zq ((GD rows[i] [] at_ mv W.cols.length).h r hr) sI ?_;simp[hE];refine LM.app 0 (m8.new ?_) rfl ZQ kR dE (Zk.rowc rfl) sO λc9 h9 m9 _=>?_
 exact sm;simp[hE,ac,hw];exact Ze.of (s.1,s.2.1++[r],s.2.2++[r2]) ⟨⟨c9,c8,by simp[hE],by simp[ad],by simp[ab],sI,m9,sO,sO,sO⟩,hm⟩;rintro s e h' ⟨cO,cC,hE,ad,ab,ac,mL,-⟩ hm;obtain rfl:=Zh hm;have mM:=m.frame mL.same;simp[hE,ab,ac];intro _;refine Aq (λhb=>?_) (λhb=>?_);simp only[hb,cond_true] at hK;have ak:Z0 h0 (h'.qA l (Wt {M with err:=12} co cn)) (l::(labs co++labs cn)):=(mL.same.mn).qA (.inl sI);have gx:GR h0 (h'.qA l (Wt {M with err:=12} co cn)) [(cO,s.2.1),(cC,s.2.2)]:=⟨λg hg=>(mL.gr.row g hg).frame λk hk=>by simp[HS.qA,show k≠l from λhe=>by have:=(mL.gr.lab g hg k hk).1;rw[he] at this;omega],mL.gr.lab,mL.gr.dis⟩;simp[hE,mM.bx];refine Bi (mM.rO 12) m.lt ak gx λh6 m6 ae g6=>?_;simp[hE,m6.bx];refine ER m6 m.lt ae g6 λh7 m7 af _=>?_;simp;exact hK h7 m7 af;simp only[hb,cond_false] at hK;simp[hE,mM.bx];refine Bi mM m.lt (mL.same.mn) mL.gr λh6 m6 ae g6=>?_;simp[hE,m6.bx];refine ER m6 m.lt ae g6 λh7 m7 af _=>?_;simp;exact hK h7 m7 (af.mono (by simp+contextual))

theorem Pg{d:Nat}{e:Env}{h:HS}{l:Z2}{co cn c:C}{M:Mp}{t:ByteArray}{rows:List (List GV)}{Kc:Env->HS->Prop}(m:MpAt h l co cn M)(hc:c.toD=some (.sl (rows.map (Z6 GV.enc))))
  (hk:∀h',MpAt h' l co cn {M with out:=ZI t rows M.out}->Z0 h h' (labs co)->Kc (e.put (some d) (.tup [])) h'):V4 prog 222 [] [.p l,.s t,.one c] d e h (K:=⟨Kc⟩):=
 Za (by simpa using IJ h l co cn c M t rows m hc _ λh' m' hs=>hk h' m' hs)
def I8{ρ:Type}(M:Mp)(t:ByteArray)(k:Tbl×List (List GV)->Option ρ):Option ρ:=
 Z1 (WZ M.src M.inp t) λq=>Z1 (ZY M.src t) λf=>Zp (f.2=true/\Dt q.2) (k q)
theorem Z99{ρ:Type}{M:Mp}{t:ByteArray}{k:Tbl×List (List GV)->Option ρ}{r:ρ}(hm:Is (I8 M t k) r):∃T rows i,Is (WZ M.src M.inp t) (T,rows)/\Is (ZY M.src t) (i,true)/\Dt rows/\Is (k (T,rows)) r:=by unfold I8 at hm;replace hm:=hm.bind;obtain⟨⟨T,rows⟩,ht,hm⟩:=hm;replace hm:=hm.bind;obtain⟨⟨i,f⟩,aa,hm⟩:=hm;replace hm:=hm.chk;obtain⟨⟨hf,hr⟩,hm⟩:=hm;simp only at hf;subst hf;exact⟨T,rows,i,ht,aa,hr,hm⟩
def Jf(W:Tbl)(b:Bool){ρ:Type}(_:Nat)(row:List GV)(s:List (List GV))(next:List (List GV)->Option ρ):Option ρ:=
 Z1 (BX b) λv=>Zp (row.length+1<=2097152)<|Z1 (UP W s (row++[v])) next
def Je(M:Mp)(W:Tbl){ρ:Type}(i:Nat)(t:ByteArray)(s:List (List GV))(next:List (List GV)->Option ρ):Option ρ:=
 I8 M t λq=>Zc (Jf W ((i:Int)==1)) next q.2 0 s
def Fi(M:Mp):Option Mp:=
 Z1 (UL M M.step.table) λW=>Zc (Je M W) (λs=>some {M with out:=ZI M.step.table s M.out}) [M.step.table,M.step.other] 0 []
theorem Z74(h0:HS)(l:Z2)(co cn:C)(M M1:Mp)(hm:Is (Fi M) M1)(m:MpAt h0 l co cn M)(K:V->HS->Prop)
  (hK:∀h',MpAt h' l co cn M1->Z0 h0 h' (labs co++labs cn)->K (.tup []) h'):Z3 prog 197 [.p l] h0 K:=by
 refine Z3.ov Tryz.func197 ?_;unfold Fi at hm;replace hm:=hm.bind;obtain⟨W,hW,hm⟩:=hm;have hl:=(m.lt l (Y6 ..));have hne:=Zm hl;have hne':=ZO hl;simp[m.bx,hne,hne'];refine WS hW m sI ?_;simp[m.bx,hne,hne'];refine Z4.cu [0,5,12,1,2,3,4,6,7,8,9,10,11] (λe1 h1=>En e1 65 [(0,.p l),(2,.p (h0.ep+1,32)),(3,.one .nil),(27,.one (.own (h0.ep+1+1,432) [[.str M.step.table],[.str M.step.other]])),(28,.i 2),(29,.i 0)]/\
  h1.box (h0.ep+1,32)=some (W.enc.map C.d)/\h0.ep+1<h1.ep/\Z0 h0 h1 []) ?_ ?_
 simp[m.bx,hne,hne'];refine Zb.of ⟨sI,sI,sI,?_⟩;exact sm;rintro e1 h1 ⟨hE,bW,aa,ab⟩;simp[hE];refine Z4.for (xs:=[M.step.table,M.step.other]) (s0:=([]:List (List GV))) (λi s E h=>∃c3,Ek e1 E [(3,.one c3),(29,.i (i:Int))] [0,2,27,28]/\
  c3.toD=some (.sl (s.map (Z6 GV.enc)))/\h.box (h0.ep+1,32)=some (W.enc.map C.d)/\h0.ep+1<h.ep/\Z0 h0 h []) hm
  ⟨.nil,by simp[hE],rfl,bW,aa,ab⟩ ?_ ?_
 .rintro i s e h ⟨c3,hF,ac,bW,aa,ab⟩ hlt hm;have hE:=hF.an hE;have hw:IntKind.i64.wrap ((i:Int)+1)=(i:Int)+1:=Y5 _ (by simp at hlt;omega);obtain⟨T,rows,k,ag,ak,aj,hm⟩:=Z99 hm;obtain⟨t,hx,ht⟩:∃t:ByteArray,[[D.str M.step.table],[D.str M.step.other]][i]?=some [D.str t]/\t=[M.step.table,M.step.other][i]:=by simp at hlt;rcases(by omega:i=0\/i=1) with rfl|rfl<;>exact⟨_,rfl,rfl⟩
  rw[<-ht] at ag ak;have m1:=m.frame ab;have ar:(i:Int)<2:=by simp at hlt;omega
  simp[hE,ar,hx];refine Za (IU _ l co cn M t T rows m1 ag k ak (λrow hr=>(aj.2 row hr).2) _ λc h2 am hb2=>?_);have hs2:=am.same;have al:=hs2.2 (h0.ep+1,32) (by simpa using aa) sI;rw[bW] at al;simp[hE];obtain⟨qs,r0,nd,ad⟩:=Rest.of am;have bf:qs.length=rows.length:=by have:=congrArg List.length r0.ds;simpa using this
  have ap:Z0 h2 ((h2.qA (h2.ep,96) [C.d (D.str empty),C.nil,C.nil]).next.qA (h2.ep,96) (T.enc.map C.d)) []:=(Z0.refl.qA (.inr sI)).next.qA (.inr sI);generalize hH:HS.qA (h2.qA (h2.ep,96) _).next _ _=h3;have ae:Z0 h2 h3 []:=by rw[<-hH];exact ap
  have bi:h2.ep<h3.ep:=by rw[<-hH];simp
  clear hH ap;refine MR.lenK r0.mr ?_;simp[hE,bf];have ah:=hs2.trans ae;have m3:LM h h3 [((h0.ep+1,32),W.enc.map C.d)] c qs rows [] 0 h3:=
   ⟨by simpa using(ae.2 _ (Y3 aa hs2.1) sI).trans al,r0.frame λk hk=>ae.2 k (ad k hk).2 sI,sI,ah,Y7 _,sI,sI,by intro b hb;simp at hb;subst hb;exact⟨by have:=ah.1;simp;omega,λh9=>by have:=(ad _ h9).1;simp at this;omega⟩,λk hk=>⟨(ad k hk).1,Y3 (ad k hk).2 ae.1⟩,nd,ah.1,λrow hr=>(aj.2 row hr).1⟩
  refine Z4.for (xs:=rows) (s0:=s) (λj q E h'=>∃c3,Ek e E [(3,.one c3),(4,.i (i:Int)),(40,.one c),(41,.i (rows.length:Int)),(42,.i (j:Int))] [0,2,27,28,29]/\
   c3.toD=some (.sl (q.map (Z6 GV.enc)))/\LM h h3 [((h0.ep+1,32),W.enc.map C.d)] c qs rows [] j h') hm
   ⟨c3,by simp[hE],ac,m3⟩ ?_ ?_
  .rintro j q e h' ⟨c3,hF,ac,mL⟩ af hm;have hE:=hF.an hE;have a1:IntKind.i64.wrap ((j:Int)+1)=(j:Int)+1:=Y5 _ (by have:=aj.1;omega);unfold Jf at hm;replace hm:=hm.bind;obtain⟨v,hv,hm⟩:=hm;replace hm:=hm.chk;obtain⟨bj,hm⟩:=hm;replace hm:=hm.bind;obtain⟨out,au,hm⟩:=hm;obtain⟨lr,cap,sp,x,aq,rfl,bc,az,ba,bh⟩:=mL.at af;have bW:=mL.box _ (Y6 ..);simp only[Tbl.enc,Yb,Yd] at bW;simp[hE,af,bc,az];refine Z4.jU (λi=>i==5) (Plan.qB [1,2,3,4] (.two 0 5 (Plan.qB [5,6,7,8,9] .done) (Plan.qB [] (.two 0 6 (Plan.qB [6,7,8,9] .done) (Plan.qB [] (.two 0 7 (Plan.qB [7,8,9] .done) (Plan.qB [0,8,9] .done))))))) follows kR (λE h1=>∃c9,Ek e E [(3,.one c9),(40,.one (.mrow lr 0 rows.length cap))] [0,2,4,27,28,29,41,42]/\
    c9.toD=some (.sl (out.map (Z6 GV.enc)))/\Z0 h' h1 (labs x)) ?_ ?_
   .simp[Plan.qB,Wc,planOps,isCallAt,callKind,hE,bW]
    repeat' (first
     | (refine Zq ((GE ((i:Int)==1)).h v hv) sI ?_
        simp[Plan.qB,Wc,planOps,isCallAt,callKind,hE,bW])
     | (refine W5 Wv kR dE dE (ba.frame λ_ _=>rfl) (Zk.qU rfl) (by simp[Wj];omega) λc8 h8 bg bb ay=>?_
        have ax:Z0 h' h8 (labs x):=Z0.trans (Z0.mono (ls:=[]) sm sI) bb;have aw:=(mL.use af aq ax).box _ (Y6 ..);simp only[Tbl.enc,Yb,Yd] at aw;simp[Plan.qB,Wc,planOps,isCallAt,callKind,hE,aw])
     |refine⟨λ_ _ x=>x,?_⟩
     |with_reducible refine And.intro ?_ ?_)
    all_goals
     refine Z3a (labs c8) (vs':=[.agg (W.enc.map C.d),.one c3,.l ((rows[j]++[v]).map GV.enc)]) ⟨.refl,.refl,.inr ⟨_,rfl,C7 (c:=c8) ?_⟩,trivial⟩ (Eo W q (rows[j]++[v]) out au) (by simp[Ff ac]) ?_;have e9:Wj rows[j]++[v.enc.map C.d]=Wj (rows[j]++[v]):=by simp[Wj]
     rw[<-e9];exact bg.frame λk hk=>by simp only[HS.only];rw[if_pos hk]
     simp[Plan.qB,Wc,planOps,isCallAt,callKind,hE];refine Zb.of ⟨.d (.sl (out.map (Z6 GV.enc))),by simp[hE],rfl,(ax.trans' Z0.qQ λk hk=>?_).next⟩;rcases ay k hk with h9|h9;exact .inl h9;refine .inr ?_;simp at h9;omega
   rintro e1 h1 ⟨c9,hF,bd,a7⟩;have hE:=hF.an hE;simp[hE,a1];exact Ze.of out ⟨⟨c9,by simp[hE],bd,mL.use af aq a7⟩,hm⟩
  rintro q e h' ⟨c3,hF,ac,mL⟩ hm;have hE:=hF.an hE;simp[hE,hw];have a8:=mL.box _ (Y6 ..);exact Ze.of q ⟨⟨c3,by simp[hE],ac,a8,by have:=mL.same.1;omega,ab.trans mL.same⟩,hm⟩
 rintro s e h ⟨c3,hF,ac,bW,aa,ab⟩ hm;have hE:=hF.an hE;obtain rfl:=Zh hm;have m1:=m.frame ab;simp[hE,m1.bx];refine Pg m1 ac λh6 m6 be=>?_;simp;exact hK h6 m6 ((ab.mn).trans (be.mono (by simp+contextual)))
theorem LG.put{h0 h3 h:HS}{bs:List (Z2×List C)}{gs:List (C×List (List GV))}{l:Z2}{cs:List C}(m:LG h0 h3 bs gs h)(h1:h0.ep<=l.1)(h2:l.1<h3.ep)(hb:∀b∈bs,b.1≠l):LG h0 h3 bs gs (h.qA l cs) where
 box:=λb aa=>by simp[HS.qA,hb b aa];exact m.box b aa
 rest:=⟨MR.nil,rfl,sI⟩
 row:=λg hg=>(m.row g hg).frame λk hk=>by
  have:k≠l:=by rintro rfl;have:=(m.lab g hg k hk).1;omega
  simp[HS.qA,this]
 same:=m.same.qA (.inr h1)
 ep:=m.ep
 lab:=m.lab
 dis:=m.dis
 sb:=m.sb
 sq:=m.sq
 nd:=m.nd
 s0:=m.s0
 ne:=m.ne
theorem Z7d:ZP prog 284=some [.nil,.nil]:=kR
def JY{ρ:Type}(_:Nat)(row:List GV)(s:List (List GV)×List (List GV))(next:List (List GV)×List (List GV)->Option ρ):Option ρ:=
 Zp (row.length<=2097152)<|Z7 row (row.length-1:Int) λv=>bif v.int==0 then next (s.1++[row.take (row.length-1)],s.2) else Zp (v.int=1) (next (s.1,s.2++[row.take (row.length-1)]))
def EV(M:Mp):Option Mp:=
 Z1 (Vd M M.step.table) λq=>Zp (q.2.length<=2097152)<|Zc JY (λs=>some {M with out:=ZI M.step.other s.2 (ZI M.step.table s.1 M.out)}) q.2 0 ([],[])
theorem Z32(h0:HS)(l:Z2)(co cn:C)(M M1:Mp)(hm:Is (EV M) M1)(m:MpAt h0 l co cn M)(K:V->HS->Prop)
  (hK:∀h',MpAt h' l co cn M1->Z0 h0 h' (labs co++labs cn)->K (.tup []) h'):Z3 prog 198 [.p l] h0 K:=by
 refine Z3.ov Tryz.func198 ?_;unfold EV at hm;obtain⟨⟨T,rows⟩,ht,hm⟩:=hm.bind;obtain⟨hlim,hm⟩:=hm.chk;simp only at hlim hm;have hl:=(m.lt l (Y6 ..));simp[m.bx,Zm hl,ZO hl];refine WS ht m sI ?_;simp[m.bx,Zm hl,ZO hl,Z7d];intro _;generalize hH:HS.next _=h3;have hs3:Z0 h0 h3 []:=by rw[<-hH];exact sm
 have bA:h3.box (h0.ep+1+1,64)=some [.nil,.nil]:=by rw[<-hH];simp
 have ak:h0.ep+2<h3.ep:=by rw[<-hH];simp
 clear hH;have m3:LG h0 h3 [] [(.nil,[]),(.nil,[])] h3:=
  ⟨sI,⟨MR.nil,rfl,sI⟩,by simp[Zn,MR.nil],hs3,Y7 _,by simp[labs],by simp[labs],sI,by simp[Z5,labs],by simp[Z5,labs],hs3.1,sI⟩
 refine Z4.for (xs:=rows) (s0:=(([],[]):List (List GV)×List (List GV))) (λi s e h'=>∃c0 c1,En e 64 [(0,.p l),(4,.p (h0.ep+1+1,64)),(18,.l (rows.map (Z6 GV.enc))),(19,.i (rows.length:Int)),(20,.i (i:Int))]/\
   h'.box (h0.ep+1+1,64)=some [c0,c1]/\LG h0 h3 [] [(c0,s.1),(c1,s.2)] h'/\s.1.length<=i/\s.2.length<=i) hm
   ⟨.nil,.nil,sI,bA,m3,sI,sI⟩ ?_ ?_
 .rintro i s e h' ⟨c0,c1,hE,bA,mL,n1,n2⟩ hlt hm;have hw:IntKind.i64.wrap ((i:Int)+1)=(i:Int)+1:=Y5 _ oM;unfold JY at hm;obtain⟨ap,hm⟩:=hm.chk;obtain⟨v,al,hv,hm⟩:=hm.get;have am:IntKind.i64.wrap ((rows[i].length:Int)-1)=(rows[i].length:Int)-1:=Y5 _ oM;obtain⟨n,hn⟩:∃n:Nat,(rows[i].length:Int)-1=(n:Int):=⟨rows[i].length-1,oM⟩;have ag:rows[i].length-1=n:=oM
  have ab:IntKind.i64.wrap (n:Int)=(n:Int):=Y5 _ oM;rw[hn] at hv;rw[ag] at hm;simp at hv;have ad:n<=rows[i].length:=oM
  simp[hE,hlt];intro _;cases hvi0:v.int==0 with
  |true=>
    rw[hvi0] at hm;simp only[cond_true] at hm;have ac:v.int=0:=by simpa using hvi0
    refine Z4.cut (Plan.qB [0,1,2,3,5,6,7,8,9,10,11,12,13,14] (.two 4 15 (Plan.qB [15,16,17,18] .done) (Plan.qB [] (.two 4 16 (Plan.qB [16,17,18] .done) (Plan.qB [4,17,18] .done))))) follows kR (λE h1=>∃c9,Ek e E [] [0,4,18,19,20]/\
     h1.box (h0.ep+1+1,64)=some [c9,c1]/\LG h0 h3 [] [(c9,s.1++[rows[i].take n]),(c1,s.2)] h1) ?_ ?_
    .simp[hE,ab,hn,hv,ac,ad,bA];have af:=mL.ep;refine⟨?_,?_,?_⟩
     all_goals
      refine LM.app 0 (mL.new Z0.refl.qC.next) rfl ZQ kR dE (row:=rows[i].take n) (Zk.rowc (by simp[Xs])) sO λc9 h9 m9 ae=>?_;have b9:h9.box (h0.ep+1+1,64)=some [c0,c1]:=(ae.2 _ sO λhk=>by have:=(mL.lab (c0,s.1) sI _ hk).1;simp at this<;>omega).trans bA;simp[hE,ab,hn,hv,ac,ad,b9];refine Zb.of ⟨c9,by simp[hE],sI,LG.put m9 (by simp<;>omega) (by simp<;>omega) sI⟩
    rintro e1 h1 ⟨c9,hF,bA,mL⟩;have hE:=hF.an hE;simp[hE,hw];exact Ze.of (s.1++[rows[i].take n],s.2) ⟨⟨_,_,by simp[hE],bA,mL,sO,sO⟩,hm⟩
  |false=>?_
  rw[hvi0] at hm;simp only[cond_false] at hm;obtain⟨ac,hm⟩:=hm.chk;refine Z4.cut (Plan.qB [0,1,2,3,5,6,7,8,9,10,11,12,13,14] (.two 4 15 (Plan.qB [15,16,17,18] .done) (Plan.qB [] (.two 4 16 (Plan.qB [16,17,18] .done) (Plan.qB [4,17,18] .done))))) follows kR (λE h1=>∃c9,Ek e E [] [0,4,18,19,20]/\
   h1.box (h0.ep+1+1,64)=some [c0,c9]/\LG h0 h3 [] [(c0,s.1),(c9,s.2++[rows[i].take n])] h1) ?_ ?_
  .simp[hE,ab,hn,hv,ac,ad,bA];have af:=mL.ep;refine⟨?_,?_,?_⟩
   all_goals
    refine LM.app 1 (mL.new Z0.refl.qC.next) rfl ZQ kR dE (row:=rows[i].take n) (Zk.rowc (by simp[Xs])) sO λc9 h9 m9 ae=>?_;have b9:h9.box (h0.ep+1+1,64)=some [c0,c1]:=(ae.2 _ sO λhk=>by have:=(mL.lab (c1,s.2) sI _ hk).1;simp at this<;>omega).trans bA;simp[hE,ab,hn,hv,ac,ad,b9];refine Zb.of ⟨c9,by simp[hE],sI,LG.put m9 (by simp<;>omega) (by simp<;>omega) sI⟩
  rintro e1 h1 ⟨c9,hF,bA,mL⟩;have hE:=hF.an hE;simp[hE,hw];exact Ze.of (s.1,s.2++[rows[i].take n]) ⟨⟨_,_,by simp[hE],bA,mL,sO,sO⟩,hm⟩
 rintro s e h' ⟨c0,c1,hE,bA,mL,-⟩ hm;obtain rfl:=Zh hm;have mM:=m.frame mL.same;have af:=mL.ep;have gr:=mL.gr;have ah:(h0.ep+1+1,64)∉labs c0++labs co:=λhk=>by
  rcases Y2.1 hk with hk|hk
  have:=(mL.lab (c0,s.1) sI _ hk).1;simp at this<;>omega
  have:=m.lt _ (Yc _ (Xn _ hk));simp at this<;>omega
 simp[hE];refine Z4.jU (λ_=>false) (Plan.qB [0,1,6,7,2,3,4,5,8] .done) follows kR (λE h4=>Ek e E [] [0,4]/\h4.box (h0.ep+1+1,64)=some [c0,c1]/\MpAt h4 l co cn {M with out:=ZI M.step.table s.1 M.out}/\Z0 h0 h4 (labs co++labs cn)/\GR h0 h4 [(c1,s.2)]) ?_ ?_;simp[Plan.qB,Wc,planOps,isCallAt,callKind,hE,bA,mM.bx];refine GC mM (gr.row (c0,s.1) sI) (λk hk h9=>by have:=m.lt k h9;have:=(gr.lab (c0,s.1) sI k hk).1;omega) λh5 m5 aa=>?_;simp[Plan.qB,Wc,planOps,isCallAt,callKind];exact Zb.of ⟨by simp[hE],(aa.2 _ sO ah).trans bA,m5,gr.same aa (mL.same.mn) λk hk=>by simp[hk],gr.step aa λk hk=>m.lt k (by simp[hk])⟩;rintro e1 h4 ⟨hF,b4,m4,aj,g4⟩;have hE:=hF.an hE;simp[hE,b4,m4.bx];refine Z4.jU (λ_=>false) (Plan.qB [0,1,6,7,2,3,4,5,8] .done) follows kR (λe5 h5=>MpAt h5 l co cn {M with out:=ZI M.step.other s.2 (ZI M.step.table s.1 M.out)}/\Z0 h0 h5 (labs co++labs cn)) ?_ ?_;simp[Plan.qB,Wc,planOps,isCallAt,callKind,hE,b4,m4.bx];refine Bi m4 m.lt aj g4 λh5 m5 aa _=>?_;simp[Plan.qB,Wc,planOps,isCallAt,callKind];exact Zb.of ⟨m5,aa⟩;rintro e5 h5 ⟨m5,aa⟩;simp;exact hK h5 m5 aa
def Dh(M:Mp)(T:Tbl)(comp:List (List GV))(row:List GV)(o:Bool):Option (List (List GV)):=
 Z1 (Cw M T row) λb=>bif b !=o then Z7 M.cs.tables 0 λct=>Z1 (Vl T row) λkey=>Z1 (BX o) λv=>Zp (key.length+1<=2097152) (Z1 (UP ct comp (key++[v])) some) else some comp
theorem Ob(h:HS)(lm lt lc l:Z2)(co cn cc:C)(M:Mp)(T:Tbl)(comp r:List (List GV))(row:List GV)(o:Bool)(hm:Is (Dh M T comp row o) r)(m:MpAt h l co cn M)(bm:h.box lm=some [.ptr l 0])(bt:h.box lt=some (T.enc.map C.d))(bc:h.box lc=some [cc])(aa:cc.toD=some (.sl (comp.map (Z6 GV.enc))))
  (hl:lm.1<h.ep/\lt.1<h.ep/\lc.1<h.ep)(K:V->HS->Prop)(hK:∀h' c',c'.toD=some (.sl (r.map (Z6 GV.enc)))->h'.box lc=some [c']->Z0 h h' [lc]->K (.tup []) h'):
  Z3 prog 233 [.l (row.map GV.enc),.b o,.p lm,.p lt,.p lc] h K:=by
 refine Z3.ov Tryz.func233 ?_;unfold Dh at hm;obtain⟨b,hb,hm⟩:=hm.bind;have n1:=Zm hl.1;have n2:=Zm hl.2.1;have n3:=Zm hl.2.2;have ae:=m.bx;simp only[Tbl.enc,Yb,Yd] at bt;simp[bm,bt];refine WS hb m sI ?_;simp;refine Zy hm ?_ ?_<;>clear hm<;>intro hc hm;replace hm:=Is.get hm;obtain⟨ct,-,ad,hm⟩:=hm;obtain⟨key,ac,hm⟩:=hm.bind;obtain⟨v,hv,hm⟩:=hm.bind;obtain⟨af,hm⟩:=hm.chk;obtain⟨out,ab,hm⟩:=hm.bind;obtain rfl:=Zh hm;simp at ad;refine Z4.jU (λ_=>true) (Plan.qB [0,1,2,3,4,5,6,7,8,9,11,10,12,13,14,15,16] .done) follows kR (λe' h'=>∃c',c'.toD=some (.sl (out.map (Z6 GV.enc)))/\h'.box lc=some [c']/\Z0 h h' [lc]) ?_ ?_;simp[Plan.qB,Wc,planOps,callKind,bm,bt,bc,ae,ad];refine Zq ((Uk T row).h key ac) sI ?_;simp[Plan.qB,Wc,planOps,callKind];refine⟨λ_ _ x=>x,?_⟩;refine Zq ((GE o).h v hv) sI ?_;simp[Plan.qB,Wc,planOps,callKind];refine⟨λ_ _ x=>x,?_⟩;refine U3 (xs:=key.map GV.enc) (ys:=[v.enc]) Wv (Zi.own sI sI (by intro y hy;obtain⟨z,_,rfl⟩:=Yi.1 hy;rfl)) rfl dE dE sI sO ?_;simp[Plan.qB,Wc,planOps,callKind];refine⟨λ_ _ x=>x,?_⟩;refine Zq (Eo ct comp (key++[v]) out ab) (by simp[Ff aa]) ?_;simp[Plan.qB,Wc,planOps,callKind,bc];refine⟨λ_ _ x=>x,Zb.of ⟨.d (.sl (out.map (Z6 GV.enc))),rfl,sI,Z0.qA ?_ (.inl sI)⟩⟩;exact sm;rintro e' h' ⟨c',h1,h2,h3⟩;simp;exact hK h' c' h1 h2 h3;obtain rfl:=Zh hm;simp;exact hK _ cc aa bc Z0.refl.next
theorem Z7n{d:Nat}{e:Env}{h:HS}{l:Z2}{co cn c:C}{M:Mp}{t:ByteArray}{rows:List (List GV)}{Kc:Env->HS->Prop}(m:MpAt h l co cn M)(hc:c.toD=some (.sl (rows.map (Z6 GV.enc))))
  (hk:∀h',MpAt h' l co cn {M with nc:=ZI t rows M.nc}->Z0 h h' (labs cn)->Kc (e.put (some d) (.tup [])) h'):V4 prog 223 [] [.p l,.s t,.one c] d e h (K:=⟨Kc⟩):=
 Za (by simpa using Iz h l co cn c M t rows m hc _ λh' m' hs=>hk h' m' hs)
def JZ(M:Mp)(T:Tbl)(rows:List (List GV))(_:Nat)(row:List GV)(s:List (List GV)×List (List GV))(next:List (List GV)×List (List GV)->Option Mp):Option Mp:=
 Z1 (Vl T row) λkey=>Z1 (Uj T rows key) λf=>bif f.2 then some {M with err:=13} else
 Z1 (Dh M T s.2 row true) λcomp=>Z1 (UP T s.1 row) λout=>next (out,comp)
def Fh(M:Mp):Option Mp:=
 Z1 (Vd M M.step.table) λq=>Z1 (Vd M M.step.other) λp=>Zp (q.2.length<=2097152/\p.2.length<=2097152)<|
 Zc (λ(_:Nat) (row:List GV) (s:List (List GV)) next=>Z1 (Dh M q.1 s row false) next)
  (λs=>Zc (JZ M q.1 q.2) (λs=>some {M with out:=ZI M.step.table s.1 M.out,nc:=ZI M.step.table s.2 M.nc}) p.2 0 (q.2,s)) q.2 0 []
theorem Z73(h0:HS)(l:Z2)(co cn:C)(M M1:Mp)(hm:Is (Fh M) M1)(m:MpAt h0 l co cn M)(K:V->HS->Prop)
  (hK:∀h',MpAt h' l co cn M1->Z0 h0 h' (l::(labs co++labs cn))->K (.tup []) h'):Z3 prog 196 [.p l] h0 K:=by
 refine Z3.ov Tryz.func196 ?_;unfold Fh at hm;obtain⟨⟨T,rows⟩,ht,hm⟩:=hm.bind;obtain⟨⟨O,os⟩,ho,hm⟩:=hm.bind;obtain⟨⟨be,hl2⟩,hm⟩:=hm.chk;simp only at be hl2 hm;have hl:=(m.lt l (Y6 ..));simp[m.bx,Zm hl,ZO hl];refine Z4.cut (Plan.qB [0,1,2,3,4,5] (.two 6 10 (Plan.qB [7,8,9,10,11,12] .done) (Plan.qB [6,7,8,9,11,12] .done))) follows kR (λe h=>∃lt:Z2,En e 90 [(1,.p (h0.ep,16)),(2,.p lt),(3,.l (rows.map (Z6 GV.enc)))]/\h.box (h0.ep,16)=some [.ptr l 0]/\h.box lt=some (T.enc.map C.d)/\lt.1<h.ep/\h0.ep<h.ep/\Z0 h0 h []) ?_ ?_
 .simp[m.bx,Zm hl,ZO hl];refine⟨?_,?_⟩
  all_goals
   refine WS ht (m.frame ?_) sI ?_;exact sm;simp;refine⟨λ_ _ x=>x,Zb.of ⟨_,by simp;rfl,sI,sI,sI,sI,?_⟩⟩;exact sm
 rintro e h1 ⟨lt,hE,bm,bt,hlt,a8,ay⟩;have m1:=m.frame ay;have hl':=(m1.lt l (Y6 ..));simp[hE,bm];refine Z4.cut (Plan.qB [0,1,2,3,4,5] (.two 6 10 (Plan.qB [7,8,9,10,11,12] .done) (Plan.qB [6,7,8,9,11,12] .done))) follows kR (λE h=>Ek e E [(5,.l (os.map (Z6 GV.enc)))] [1,2,3]/\Z0 h1 h []) ?_ ?_
 .simp[hE,bm,m1.bx,Zm hl',ZO hl'];refine⟨?_,?_⟩
  all_goals
   refine WS ho (m1.frame ?_) sI ?_;exact sm;simp[hE];refine⟨λ_ _ x=>x,Zb.of ⟨by simp[hE],?_⟩⟩;exact sm
 rintro e h2 ⟨hF,hs2⟩;have hE:=hF.an hE;have m2:=m1.frame hs2;have bd:=(hs2.2 (h0.ep,16) a8 sI).trans bm;have bf:=(hs2.2 lt hlt sI).trans bt;have al:=Y3 hlt hs2.1;have a1:=Y3 a8 hs2.1;simp[hE];intro _;obtain⟨h3,ak⟩:∃h3,h3=(h2.qA (h2.ep,96) [.nil]).next:=⟨_,rfl⟩;have hs3:Z0 h2 h3 []:=by rw[ak];exact(Z0.refl.qA (.inr sI)).next
 have bh:h3.box (h2.ep,96)=some [.nil]:=by rw[ak];simp
 have bi:h2.ep<h3.ep:=by rw[ak];simp
 have ba:=(ay.trans hs2).trans hs3;rw[<-ak];clear ak;have at_:∀h',Z0 h3 h' [(h2.ep,96)]->MpAt h' l co cn M/\h'.box (h0.ep,16)=some [.ptr l 0]/\h'.box lt=some (T.enc.map C.d)/\Z0 h0 h' []/\((h0.ep,16):Z2).1<h'.ep/\lt.1<h'.ep/\h2.ep<h'.ep:=λh' hs=>by
  have ag:Z0 h0 h' []:=ba.trans' hs λk hk=>.inr (by simp at hk;subst hk;exact(ay.trans hs2).1)
  have:=hs.1
  exact⟨m.frame ag,(hs.2 _ (by simp<;>omega) (by intro h9;simp at h9<;>omega)).trans ((hs3.2 _ a1 sI).trans bd),(hs.2 _ oM (by intro h9;simp at h9;rw[h9] at al;exact absurd al sI)).trans ((hs3.2 _ al sI).trans bf),ag,sO,oM,oM⟩
 refine Z4.for (xs:=rows) (s0:=([]:List (List GV))) (λi s E h'=>∃cc,Ek e E [(6,.p (h2.ep,96)),(7,.one (.fn 233 [.lab (h0.ep,16),.lab lt,.lab (h2.ep,96)])),(36,.l (rows.map (Z6 GV.enc))),(37,.i (rows.length:Int)),(38,.i (i:Int))] [1,2,3,5]/\h'.box (h2.ep,96)=some [cc]/\cc.toD=some (.sl (s.map (Z6 GV.enc)))/\Z0 h3 h' [(h2.ep,96)]) hm
  ⟨.nil,by simp[hE],bh,rfl,.refl⟩ ?_ ?_
 rintro i s e h' ⟨cc,hF,bc,af,aa⟩ hlt9 hm;have hE:=hF.an hE;have hw:IntKind.i64.wrap ((i:Int)+1)=(i:Int)+1:=Y5 _ oM;obtain⟨s',ag,hm⟩:=hm.bind;obtain⟨mM,ac,ad,aj,l1,l2,l3⟩:=at_ h' aa;simp[hE,hlt9];refine Za ?_;simp[WX];refine Ob h' (h0.ep,16) lt (h2.ep,96) l co cn cc M T s s' rows[i] false ag mM ac ad bc af ⟨l1,l2,l3⟩ _ λh5 c' ax au ae=>?_;simp[hE,hw];exact Ze.of s' ⟨⟨c',by simp[hE],au,ax,aa.trans ae⟩,hm⟩;rintro s e h' ⟨cc,hF,bc,af,aa⟩ hm;have hE:=hF.an hE;simp[hE];intro _;refine Z4.for (xs:=os) (s0:=((rows,s):List (List GV)×List (List GV))) (λi s E h'=>∃am cc,Ek e E [(10,.one am),(47,.l (os.map (Z6 GV.enc))),(48,.i (os.length:Int)),(49,.i (i:Int))] [1,2,3,6,7]/\am.toD=some (.sl (s.1.map (Z6 GV.enc)))/\h'.box (h2.ep,96)=some [cc]/\cc.toD=some (.sl (s.2.map (Z6 GV.enc)))/\Z0 h3 h' [(h2.ep,96)]) hm
  ⟨.d (.sl (rows.map (Z6 GV.enc))),cc,by simp[hE],rfl,bc,af,aa⟩ ?_ ?_
 rintro i s e h' ⟨am,cc,hF,aw,bc,af,aa⟩ hlt9 hm;have hE:=hF.an hE;have hw:IntKind.i64.wrap ((i:Int)+1)=(i:Int)+1:=Y5 _ oM;unfold JZ at hm;obtain⟨key,az,hm⟩:=hm.bind;obtain⟨f,hf,hm⟩:=hm.bind;obtain⟨mM,ac,ad,aj,l1,l2,l3⟩:=at_ h' aa;have ab:=ad;simp only[Tbl.enc,Yb,Yd] at ab;simp[hE,hlt9];refine Z4.cu [0,1,2,3,4,5,6,7,8,9,10] (λE h9=>Ek e E [(12,.l (os[i].map GV.enc)),(14,.b f.2)] [1,2,3,6,7,10,47,48,49]/\Z0 h' h9 []) ?_ ?_;simp[hE,ab];refine Zq ((Uk T os[i]).h key az) sI ?_;simp[hE,ab];refine⟨λ_ _ x=>x,?_⟩;refine Zq ((D0 T rows key).h f hf) sI ?_;simp[hE,ab];refine⟨λ_ _ x=>x,Zb.of ⟨by simp[hE],Z0.refl.qC.next.next⟩⟩;rintro e h9 ⟨hF,ah⟩;have hE:=hF.an hE;have aq:=aa.trans (ah.mn);obtain⟨mM,ac,ad,aj,l1,l2,l3⟩:=at_ h9 aq;have ar:=(ah.2 (h2.ep,96) (by have:=aa.1;simp;omega) sI).trans bc;have ab:=ad;simp only[Tbl.enc,Yb,Yd] at ab;simp[hE];refine Zy hm ?_ ?_<;>clear hm<;>intro bj hm;obtain rfl:=Zh hm;simp[hE,ac,mM.bx];exact hK _ (mM.rO 13) ((aj.mn).qA (.inl sI));obtain⟨s',ag,hm⟩:=hm.bind;obtain⟨out,a7,hm⟩:=hm.bind;simp[hE];refine Za ?_;simp[WX];refine Ob h9 (h0.ep,16) lt (h2.ep,96) l co cn cc M T s.2 s' os[i] true ag mM ac ad ar af ⟨l1,l2,l3⟩ _ λh5 c' ax au ae=>?_;have ap:=aq.trans ae;obtain⟨mM,ac,ad,aj,l1,l2,l3⟩:=at_ h5 ap;have ab:=ad;simp only[Tbl.enc,Yb,Yd] at ab;simp[hE,ab];refine Zq (Eo T s.1 os[i] out a7) (by simp[Ff aw]) ?_;simp[hE,hw];exact Ze.of (out,s') ⟨⟨.d (.sl (out.map (Z6 GV.enc))),c',by simp[hE],rfl,au,ax,ap.trans Z0.refl.next⟩,hm⟩;rintro s e h' ⟨am,cc,hF,aw,bc,af,aa⟩ hm;have hE:=hF.an hE;obtain rfl:=Zh hm;obtain⟨mM,ac,ad,aj,l1,l2,l3⟩:=at_ h' aa;simp[hE];refine Z4.jU (λ_=>false) (Plan.qB [0,1,2,3,4,5,6,7] .done) follows kR (λE h9=>Ek e E [] [1,6]/\MpAt h9 l co cn {M with out:=ZI M.step.table s.1 M.out}/\Z0 h' h9 (labs co)) ?_ ?_
 simp[Plan.qB,Wc,planOps,isCallAt,callKind,hE,ac,mM.bx];refine Pg mM aw λh5 m5 ae=>?_;simp[Plan.qB,Wc,planOps,isCallAt,callKind,hE];exact Zb.of ⟨by simp[hE],m5,ae⟩;rintro e h9 ⟨hF,m9,ah⟩;have hE:=hF.an hE;have nl:∀k:Z2,h0.ep<=k.1->k∉labs co:=λk hk h8=>by
  have:=m.lt k (by simp[h8])
  omega
 have bb:=(ah.2 (h0.ep,16) sO (nl _ sI)).trans ac;have ar:=(ah.2 (h2.ep,96) sO (nl _ sO)).trans bc;simp[hE];refine Z4.jU (λ_=>false) (Plan.qB [0,1,2,3,4,5,6,7] .done) follows kR (λe h7=>MpAt h7 l co cn {M with out:=ZI M.step.table s.1 M.out,nc:=ZI M.step.table s.2 M.nc}/\Z0 h9 h7 (labs cn)) ?_ ?_;simp[Plan.qB,Wc,planOps,isCallAt,callKind,hE,bb,ar,m9.bx];refine Z7n m9 af λh5 m5 ae=>?_;simp[Plan.qB,Wc,planOps,isCallAt,callKind,hE];exact Zb.of ⟨m5,ae⟩;rintro e h7 ⟨m7,bg⟩;simp;exact hK h7 m7 (((aj.mn).trans (ah.mono (by simp+contextual))).trans (bg.mono (by simp+contextual)))
def B3(m:Mp):Option ((List Int)×(List Int)):=
 Z1 (Vd m m.step.table) λv1=>Z1 (UL m m.step.table) λv3=>Z1 (W7 v1.1 m.step.column) λv5=>Z1 (W7 v3 m.step.column) λv6=>bif (m.step.kind==5) then some ([v5.1],[v6.1]) else bif m.fwd then Zp (W9 ((v3.cols.length:Int)-1)) (some (m.step.cols,[((v3.cols.length:Int)-1)])) else Zp (W9 ((v1.1.cols.length:Int)-1)) (some ([((v1.1.cols.length:Int)-1)],m.step.cols))
instance Z9i(m:Mp):Con (B3 m) prog 225 [.one (.rp m.enc)] (λr=>.tup [.one (.d (.sl (r.1.map Zd))),.one (.d (.sl (r.2.map Zd)))]):=by unfold B3;have p1:PH [3,4] (Plan.qB [0,1,2,3,4,5,6,7,8,9,10,11] .done):=.intro;have p2:PH [8] (Plan.qB [0,1,2,3,4,5,6,7,8,10,9,11] .done):=.intro;have p3:PH [9] (Plan.qB [0,1,2,3,5,6,7,8,9,4,10,11] .done):=.intro;exact go 82 Tryz.func225
end
end Go.Am
namespace Go.Proofs
section
open Go.Shelf
def Tryz.jX:Go.Shelf.Ren:=⟨λ|171=>217|243=>238|246=>253|283=>261|284=>262|285=>263|286=>264|129=>272|317=>271|318=>273|319=>274|320=>275|337=>279|338=>280|n=>n,λ|3=>3|9=>9|2=>2|4=>4|171=>308|0=>0|53=>309|37=>214|5=>5|173=>312|212=>320|51=>321|20=>20|213=>322|46=>218|232=>333|233=>334|n=>n,λ|17=>1|18=>2|19=>3|n=>n⟩
theorem Tryz.rK:Go.Proofs.LaysM.n171 Tryz.prog Tryz.jX:={
 mixed:=kR
 f129:=Tryz.func272.trans (congrArg some kR)
 f171:=Tryz.func217.trans (congrArg some kR)
 f243:=Tryz.func238.trans (congrArg some kR)
 f246:=Tryz.func253.trans (congrArg some kR)
 f283:=Tryz.func261.trans (congrArg some kR)
 f284:=Tryz.func262.trans (congrArg some kR)
 f285:=Tryz.func263.trans (congrArg some kR)
 f286:=Tryz.func264.trans (congrArg some kR)
 f317:=Tryz.func271.trans (congrArg some kR)
 f318:=Tryz.func273.trans (congrArg some kR)
 f319:=Tryz.func274.trans (congrArg some kR)
 f320:=Tryz.func275.trans (congrArg some kR)
 f337:=Tryz.func279.trans (congrArg some kR)
 f338:=Tryz.func280.trans (congrArg some kR)
 t0:=Tryz.underlying0
 a0:=Tryz.isAgg0
 z0:=Tryz.sizeOf0
 v0:=Tryz.zeroValue0
 t2:=Tryz.underlying2
 a2:=Tryz.isAgg2
 z2:=Tryz.sizeOf2
 v2:=Tryz.zeroValue2
 t3:=Tryz.underlying3
 a3:=Tryz.isAgg3
 z3:=Tryz.sizeOf3
 v3:=Tryz.zeroValue3
 t4:=Tryz.underlying4
 a4:=Tryz.isAgg4
 z4:=Tryz.sizeOf4
 v4:=Tryz.zeroValue4
 t5:=Tryz.underlying5
 a5:=Tryz.isAgg5
 z5:=Tryz.sizeOf5
 v5:=Tryz.zeroValue5
 t9:=Tryz.underlying9
 a9:=Tryz.isAgg9
 z9:=Tryz.sizeOf9
 v9:=Tryz.zeroValue9
 t20:=Tryz.underlying20
 a20:=Tryz.isAgg20
 z20:=Tryz.sizeOf20
 v20:=Tryz.zeroValue20
 t37:=Tryz.underlying214
 a37:=Tryz.isAgg214
 z37:=Tryz.sizeOf214
 v37:=Tryz.zeroValue214
 t46:=Tryz.underlying218
 a46:=Tryz.isAgg218
 z46:=Tryz.sizeOf218
 v46:=Tryz.zeroValue218
 t51:=Tryz.underlying321
 a51:=Tryz.isAgg321
 z51:=Tryz.sizeOf321
 v51:=Tryz.zeroValue321
 t53:=Tryz.underlying309
 a53:=Tryz.isAgg309
 z53:=Tryz.sizeOf309
 v53:=Tryz.zeroValue309
 t171:=Tryz.underlying308
 a171:=Tryz.isAgg308
 z171:=Tryz.sizeOf308
 v171:=Tryz.zeroValue308
 t173:=Tryz.underlying312
 a173:=Tryz.isAgg312
 z173:=Tryz.sizeOf312
 v173:=Tryz.zeroValue312
 t212:=Tryz.underlying320
 a212:=Tryz.isAgg320
 z212:=Tryz.sizeOf320
 v212:=Tryz.zeroValue320
 t213:=Tryz.underlying322
 a213:=Tryz.isAgg322
 z213:=Tryz.sizeOf322
 t232:=Tryz.underlying333
 a232:=Tryz.isAgg333
 z232:=Tryz.sizeOf333
 v232:=Tryz.zeroValue333
 t233:=Tryz.underlying334
 a233:=Tryz.isAgg334
 z233:=Tryz.sizeOf334
 v233:=Tryz.zeroValue334
 g17:=kR
 g18:=kR
 g19:=kR
 i0:=kR
 i2:=kR
 i3:=kR
 i4:=kR
 i5:=kR
 i9:=kR
 i20:=kR
 i37:=kR
 i46:=kR
 i51:=kR
 i53:=kR
 i171:=kR
 i173:=kR
 i212:=kR
 i232:=kR
 i233:=kR
 m17:=kR
 m18:=kR
 m19:=by kernel_rfl}
def Tryz.rI:Go.Shelf.Ren:=⟨λ|144=>258|143=>268|219=>278|217=>286|225=>287|224=>288|267=>289|266=>293|314=>294|n=>n,λ|9=>9|4=>4|3=>3|5=>5|46=>218|146=>341|51=>321|n=>n,λ|1=>0|n=>n⟩
theorem Tryz.wH:Go.Proofs.Lays.n144 Tryz.prog Tryz.rI:={
 mixed:=kR
 f143:=Tryz.func268.trans (congrArg some kR)
 f144:=Tryz.func258.trans (congrArg some kR)
 f217:=Tryz.func286.trans (congrArg some kR)
 f219:=Tryz.func278.trans (congrArg some kR)
 f224:=Tryz.func288.trans (congrArg some kR)
 f225:=Tryz.func287.trans (congrArg some kR)
 f266:=Tryz.func293.trans (congrArg some kR)
 f267:=Tryz.func289.trans (congrArg some kR)
 f314:=Tryz.func294.trans (congrArg some kR)
 t3:=Tryz.underlying3
 a3:=Tryz.isAgg3
 z3:=Tryz.sizeOf3
 v3:=Tryz.zeroValue3
 t4:=Tryz.underlying4
 a4:=Tryz.isAgg4
 z4:=Tryz.sizeOf4
 v4:=Tryz.zeroValue4
 t5:=Tryz.underlying5
 a5:=Tryz.isAgg5
 z5:=Tryz.sizeOf5
 v5:=Tryz.zeroValue5
 t9:=Tryz.underlying9
 a9:=Tryz.isAgg9
 z9:=Tryz.sizeOf9
 v9:=Tryz.zeroValue9
 t46:=Tryz.underlying218
 a46:=Tryz.isAgg218
 z46:=Tryz.sizeOf218
 v46:=Tryz.zeroValue218
 t51:=Tryz.underlying321
 a51:=Tryz.isAgg321
 z51:=Tryz.sizeOf321
 v51:=Tryz.zeroValue321
 t146:=Tryz.underlying341
 a146:=Tryz.isAgg341
 z146:=Tryz.sizeOf341
 v146:=Tryz.zeroValue341
 g1:=by kernel_rfl}
def Tryz.rJ:Go.Shelf.Ren:=⟨λ|145=>259|220=>269|219=>278|217=>286|225=>287|224=>288|267=>289|266=>293|314=>294|n=>n,λ|9=>9|4=>4|59=>306|3=>3|5=>5|46=>218|146=>341|51=>321|n=>n,λ|1=>0|n=>n⟩
theorem Tryz.wI:Go.Proofs.Lays.n145 Tryz.prog Tryz.rJ:={
 mixed:=kR
 f145:=Tryz.func259.trans (congrArg some kR)
 f217:=Tryz.func286.trans (congrArg some kR)
 f219:=Tryz.func278.trans (congrArg some kR)
 f220:=Tryz.func269.trans (congrArg some kR)
 f224:=Tryz.func288.trans (congrArg some kR)
 f225:=Tryz.func287.trans (congrArg some kR)
 f266:=Tryz.func293.trans (congrArg some kR)
 f267:=Tryz.func289.trans (congrArg some kR)
 f314:=Tryz.func294.trans (congrArg some kR)
 t3:=Tryz.underlying3
 a3:=Tryz.isAgg3
 z3:=Tryz.sizeOf3
 v3:=Tryz.zeroValue3
 t4:=Tryz.underlying4
 a4:=Tryz.isAgg4
 z4:=Tryz.sizeOf4
 v4:=Tryz.zeroValue4
 t5:=Tryz.underlying5
 a5:=Tryz.isAgg5
 z5:=Tryz.sizeOf5
 v5:=Tryz.zeroValue5
 t9:=Tryz.underlying9
 a9:=Tryz.isAgg9
 z9:=Tryz.sizeOf9
 v9:=Tryz.zeroValue9
 t46:=Tryz.underlying218
 a46:=Tryz.isAgg218
 z46:=Tryz.sizeOf218
 v46:=Tryz.zeroValue218
 t51:=Tryz.underlying321
 a51:=Tryz.isAgg321
 z51:=Tryz.sizeOf321
 v51:=Tryz.zeroValue321
 t59:=Tryz.underlying306
 a59:=Tryz.isAgg306
 z59:=Tryz.sizeOf306
 v59:=Tryz.zeroValue306
 t146:=Tryz.underlying341
 a146:=Tryz.isAgg341
 z146:=Tryz.sizeOf341
 v146:=Tryz.zeroValue341
 g1:=by kernel_rfl}
def Tryz.jL:Go.Shelf.Ren:=⟨λ|172=>267|244=>276|245=>277|247=>281|279=>282|280=>283|281=>284|282=>285|287=>290|316=>291|171=>217|205=>292|321=>295|322=>296|243=>238|246=>253|283=>261|284=>262|285=>263|286=>264|129=>272|317=>271|318=>273|319=>274|320=>275|337=>279|338=>280|n=>n,λ|9=>9|3=>3|75=>316|76=>317|4=>4|5=>5|167=>326|37=>214|0=>0|85=>327|2=>2|168=>329|53=>309|175=>335|46=>218|210=>339|127=>344|145=>347|143=>345|21=>21|171=>308|173=>312|212=>320|51=>321|20=>20|213=>322|232=>333|233=>334|80=>348|n=>n,λ|15=>4|16=>5|17=>1|18=>2|19=>3|n=>n⟩
theorem Tryz.jS:Go.Proofs.LaysC.n172 Tryz.prog Tryz.jL:={
 mixed:=kR
 f129:=Tryz.func272.trans (congrArg some kR)
 f171:=Tryz.func217.trans (congrArg some kR)
 f172:=Tryz.func267.trans (congrArg some kR)
 f205:=Tryz.func292.trans (congrArg some kR)
 f243:=Tryz.func238.trans (congrArg some kR)
 f244:=Tryz.func276.trans (congrArg some kR)
 f245:=Tryz.func277.trans (congrArg some kR)
 f246:=Tryz.func253.trans (congrArg some kR)
 f247:=Tryz.func281.trans (congrArg some kR)
 f279:=Tryz.func282.trans (congrArg some kR)
 f280:=Tryz.func283.trans (congrArg some kR)
 f281:=Tryz.func284.trans (congrArg some kR)
 f282:=Tryz.func285.trans (congrArg some kR)
 f283:=Tryz.func261.trans (congrArg some kR)
 f284:=Tryz.func262.trans (congrArg some kR)
 f285:=Tryz.func263.trans (congrArg some kR)
 f286:=Tryz.func264.trans (congrArg some kR)
 f287:=Tryz.func290.trans (congrArg some kR)
 f316:=Tryz.func291.trans (congrArg some kR)
 f317:=Tryz.func271.trans (congrArg some kR)
 f318:=Tryz.func273.trans (congrArg some kR)
 f319:=Tryz.func274.trans (congrArg some kR)
 f320:=Tryz.func275.trans (congrArg some kR)
 f321:=Tryz.func295.trans (congrArg some kR)
 f322:=Tryz.func296.trans (congrArg some kR)
 f337:=Tryz.func279.trans (congrArg some kR)
 f338:=Tryz.func280.trans (congrArg some kR)
 t0:=Tryz.underlying0
 a0:=Tryz.isAgg0
 z0:=Tryz.sizeOf0
 v0:=Tryz.zeroValue0
 t2:=Tryz.underlying2
 a2:=Tryz.isAgg2
 z2:=Tryz.sizeOf2
 v2:=Tryz.zeroValue2
 t3:=Tryz.underlying3
 a3:=Tryz.isAgg3
 z3:=Tryz.sizeOf3
 v3:=Tryz.zeroValue3
 t4:=Tryz.underlying4
 a4:=Tryz.isAgg4
 z4:=Tryz.sizeOf4
 v4:=Tryz.zeroValue4
 t5:=Tryz.underlying5
 a5:=Tryz.isAgg5
 z5:=Tryz.sizeOf5
 v5:=Tryz.zeroValue5
 t9:=Tryz.underlying9
 a9:=Tryz.isAgg9
 z9:=Tryz.sizeOf9
 v9:=Tryz.zeroValue9
 t20:=Tryz.underlying20
 a20:=Tryz.isAgg20
 z20:=Tryz.sizeOf20
 v20:=Tryz.zeroValue20
 t21:=Tryz.underlying21
 a21:=Tryz.isAgg21
 z21:=Tryz.sizeOf21
 v21:=Tryz.zeroValue21
 t37:=Tryz.underlying214
 a37:=Tryz.isAgg214
 z37:=Tryz.sizeOf214
 v37:=Tryz.zeroValue214
 t46:=Tryz.underlying218
 a46:=Tryz.isAgg218
 z46:=Tryz.sizeOf218
 v46:=Tryz.zeroValue218
 t51:=Tryz.underlying321
 a51:=Tryz.isAgg321
 z51:=Tryz.sizeOf321
 v51:=Tryz.zeroValue321
 t53:=Tryz.underlying309
 a53:=Tryz.isAgg309
 z53:=Tryz.sizeOf309
 v53:=Tryz.zeroValue309
 t75:=Tryz.underlying316
 a75:=Tryz.isAgg316
 z75:=Tryz.sizeOf316
 v75:=Tryz.zeroValue316
 t76:=Tryz.underlying317
 a76:=Tryz.isAgg317
 z76:=Tryz.sizeOf317
 v76:=Tryz.zeroValue317
 t85:=Tryz.underlying327
 a85:=Tryz.isAgg327
 z85:=Tryz.sizeOf327
 v85:=Tryz.zeroValue327
 t127:=Tryz.underlying344
 a127:=Tryz.isAgg344
 z127:=Tryz.sizeOf344
 v127:=Tryz.zeroValue344
 t143:=Tryz.underlying345
 a143:=Tryz.isAgg345
 z143:=Tryz.sizeOf345
 v143:=Tryz.zeroValue345
 t145:=Tryz.underlying347
 a145:=Tryz.isAgg347
 z145:=Tryz.sizeOf347
 v145:=Tryz.zeroValue347
 t167:=Tryz.underlying326
 a167:=Tryz.isAgg326
 z167:=Tryz.sizeOf326
 v167:=Tryz.zeroValue326
 t168:=Tryz.underlying329
 a168:=Tryz.isAgg329
 z168:=Tryz.sizeOf329
 v168:=Tryz.zeroValue329
 t171:=Tryz.underlying308
 a171:=Tryz.isAgg308
 z171:=Tryz.sizeOf308
 v171:=Tryz.zeroValue308
 t173:=Tryz.underlying312
 a173:=Tryz.isAgg312
 z173:=Tryz.sizeOf312
 v173:=Tryz.zeroValue312
 t175:=Tryz.underlying335
 a175:=Tryz.isAgg335
 z175:=Tryz.sizeOf335
 v175:=Tryz.zeroValue335
 t210:=Tryz.underlying339
 a210:=Tryz.isAgg339
 z210:=Tryz.sizeOf339
 v210:=Tryz.zeroValue339
 t212:=Tryz.underlying320
 a212:=Tryz.isAgg320
 z212:=Tryz.sizeOf320
 v212:=Tryz.zeroValue320
 t213:=Tryz.underlying322
 a213:=Tryz.isAgg322
 z213:=Tryz.sizeOf322
 t232:=Tryz.underlying333
 a232:=Tryz.isAgg333
 z232:=Tryz.sizeOf333
 v232:=Tryz.zeroValue333
 t233:=Tryz.underlying334
 a233:=Tryz.isAgg334
 z233:=Tryz.sizeOf334
 v233:=Tryz.zeroValue334
 g15:=kR
 g16:=kR
 g17:=kR
 g18:=kR
 g19:=kR
 t80:=Tryz.underlying348
 a80:=Tryz.isAgg348
 z80:=Tryz.sizeOf348
 v80:=Tryz.zeroValue348
 i0:=kR
 i2:=kR
 i3:=kR
 i4:=kR
 i5:=kR
 i9:=kR
 i20:=kR
 i21:=kR
 i37:=kR
 i46:=kR
 i51:=kR
 i53:=kR
 i75:=kR
 i76:=kR
 i80:=kR
 i85:=kR
 i127:=kR
 i143:=kR
 i145:=kR
 i167:=kR
 i168:=kR
 i171:=kR
 i173:=kR
 i175:=kR
 i210:=kR
 i212:=kR
 i232:=kR
 i233:=kR
 m15:=kR
 m16:=kR
 m17:=kR
 m18:=kR
 m19:=kR
 c0:=kR
 c2:=kR
 c3:=kR
 c4:=kR
 c5:=kR
 c9:=kR
 c20:=kR
 c21:=kR
 c37:=kR
 c46:=kR
 c51:=kR
 c53:=kR
 c75:=kR
 c76:=kR
 c80:=kR
 c85:=kR
 c127:=kR
 c143:=kR
 c145:=kR
 c167:=kR
 c168:=kR
 c171:=kR
 c173:=kR
 c175:=kR
 c210:=kR
 c212:=kR
 c213:=kR
 c232:=kR
 c233:=by kernel_rfl}
end
end Go.Proofs
namespace Go.Am
section
open Go.RowKit (Below)
theorem Zj.jM{P f av r v}(ab:I7 P f)(hr:∀m,Az m (λ_=>(none,0)) r v)(hf:r.fr=[])
  (h:∀w m t vals,AF w->Bw m t av vals->Calls P f vals w λe w'=>e=.returned v/\Below w.heap.size w w'):Zj P f av r:=by
 refine⟨ab,λw m t vals hg hm _ aa=>(h w m t vals hg aa).mono ?_⟩;rintro e w' ⟨rfl,hb⟩;refine⟨v,m,λ_=>(none,0),rfl,Wq.refl _,λ_ _ _ _ h=>h,hm.of_heap λb o v hv=>hb.block b (hm.lt hv),hb,hr m,?_⟩;rw[hf];exact⟨λx hx=>by simp at hx,λx hx=>by simp at hx⟩
theorem Oo{m t}{av:List AV}{a vals u}(h:Bw m t [a] vals)(hu:∀v,Ci m t a v->v=u):vals=#[u]:=by
 obtain⟨hs,hg⟩:=h;obtain⟨u0,h0,r0⟩:=hg 0 _ rfl
 have:=hu u0 r0
 subst this;apply XB;intro i
 match i with
 |0=>simpa using h0
 |i+1=>rw[X3 (by simp at hs;omega)];simp
theorem Pc{P w nm}{g:Nat}{zs}(h:∃T l,w.heap[g]?=some (.cells (zs.map λz=>Value.int .u64 z).toArray T l))(hn:P.globalNamed nm=some g):Lib.TabIs P w nm .u64 zs:=by obtain⟨T,l,q⟩:=h;unfold Lib.TabIs World.var?;rw[hn];simp[q]
def Bd(i:Int):Option ByteArray:=Zp (W9 i) (some ⟨(Lib.itoa i).toArray⟩)
theorem M6(i:Int)(r:ByteArray)(hm:Is (Bd i) r):Zj prog 217 [.i i] (.s r):=by
 obtain⟨hi,hm⟩:=hm.chk;obtain rfl:=Zh hm;refine Zj.jM ⟨_,Tryz.func217,kR,kR⟩ (λm=>RepD.str _) rfl λw m t vals hg aa=>?_;obtain rfl:=Oo (av:=[]) aa λv hv=>RepD.qP hv;refine(Any.strconv_Itoa Tryz.rK i hi.1 hi.2 w (Pc hg.2.1 kR)).mono ?_;rintro e w' ⟨rfl,k,os,rfl⟩;exact⟨rfl,Lib.below_grow _ _ (Y7 _) _ _⟩
theorem On{m t}{av:List AV}{a b vals u v}(h:Bw m t [a,b] vals)(hu:∀x,Ci m t a x->x=u)(hv:∀x,Ci m t b x->x=v):vals=#[u,v]:=by
 obtain⟨hs,hg⟩:=h;obtain⟨u0,h0,r0⟩:=hg 0 _ rfl;obtain⟨u1,h1,r1⟩:=hg 1 _ rfl;have e0:=hu u0 r0;have e1:=hv u1 r1;subst e0 e1;apply XB;intro i
 match i with
 |0=>simpa using h0
 |1=>simpa using h1
 |i+2=>rw[X3 (by simp at hs;omega)];simp
theorem Z70(m blk a b c):Az m blk (.tup [.s a,.s b,.b c]) (.tuple #[.string a,.string b,.bool c]):=by
 refine⟨_,rfl,rfl,λi x hx=>?_⟩
 match i,hx with
 |0,hx=>cases hx;exact⟨_,rfl,RepD.str _⟩
 |1,hx=>cases hx;exact⟨_,rfl,RepD.str _⟩
 |2,hx=>cases hx;exact⟨_,rfl,RepD.bool _⟩
def GG(s aa:ByteArray):Option (ByteArray×ByteArray×Bool):=Zp (s.size<4294967281) (some (⟨(Lib.cut s.data.toList aa.data.toList).1.toArray⟩,⟨(Lib.cut s.data.toList aa.data.toList).2.1.toArray⟩,(Lib.cut s.data.toList aa.data.toList).2.2))
theorem SP(s ab:ByteArray)(r)(hm:Is (GG s ab) r):Zj prog 259 [.s s,.s ab] (.tup [.s r.1,.s r.2.1,.b r.2.2]):=by
 obtain⟨hi,hm⟩:=hm.chk;obtain rfl:=Zh hm;refine Zj.jM ⟨_,Tryz.func259,kR,kR⟩ (λm=>Z70 m _ _ _ _) rfl λw m t vals hg aa=>?_;obtain rfl:=On (av:=[]) aa (λv hv=>RepD.qR hv) (λv hv=>RepD.qR hv);obtain⟨mx,ac⟩:=hg.2.2.2.2;refine(Any.strings_Cut Tryz.wI s ab mx w hi ac).mono ?_;rintro e w' ⟨rfl,n,rfl⟩;exact⟨rfl,rfl,rfl,rfl,Y7 _,λ_ _=>rfl⟩
def Ly(s sub:ByteArray):Option Bool:=Zp (s.size<4294967281) (some (Lib.contains s.data.toList sub.data.toList))
theorem Rv(s sub:ByteArray)(r)(hm:Is (Ly s sub) r):Zj prog 258 [.s s,.s sub] (.b r):=by
 obtain⟨hi,hm⟩:=hm.chk;obtain rfl:=Zh hm;refine Zj.jM ⟨_,Tryz.func258,kR,kR⟩ (λm=>RepD.bool _) rfl λw m t vals hg aa=>?_;obtain rfl:=On (av:=[]) aa (λv hv=>RepD.qR hv) (λv hv=>RepD.qR hv);obtain⟨mx,ab⟩:=hg.2.2.2.2;refine(Any.strings_Contains Tryz.wH s sub mx w hi ab).mono ?_;rintro e w' ⟨rfl,rfl⟩;exact⟨rfl,Go.RowKit.Below.refl _ _⟩
end
section
instance Zc9(i:Int):Con (Bd i) prog 217 [.one (.d (.int .i64 i))] (λr=>.one (.d (.str r))):=⟨λr hm=>M6 i r hm⟩
def Ie(b:Bool):Option ByteArray:=
 bif b then some ({data:=#[116,114,117,101]}) else some ({data:=#[102,97,108,115,101]})
instance Z9p(b:Bool):Con (Ie b) prog 266 [.one (.d (.bool b))] (λr=>.one (.d (.str r))):=by unfold Ie;exact go 4 Tryz.func266
def Gp(b:Bool):Option ByteArray:=
 Z1 (Ie b) λv1=>some v1
instance Zb3(b:Bool):Con (Gp b) prog 255 [.one (.d (.bool b))] (λr=>.one (.d (.str r))):=by unfold Gp;exact go 5 Tryz.func255
def Ej(s_:ByteArray):Option (GV×Bool):=
 bif strEq s_ ({data:=#[116,114,117,101]}) then some ((GV.mk 2 1 empty),true) else bif strEq s_ ({data:=#[102,97,108,115,101]}) then some ((GV.mk 2 0 empty),true) else some ((GV.mk 0 0 empty),false)
instance Zbr(s_:ByteArray):Con (Ej s_) prog 256 [.one (.d (.str s_))] (λr=>.tup [.agg (r.1.enc.map RC.d),.one (.d (.bool r.2))]):=by unfold Ej;exact go 12 Tryz.func256
end
section
open Go.RowKit (Below)
def Ut(s:ByteArray):GV×Bool:=match Lib.atoiAll s.data.toList with
 | .ok n=>if Lib.itoa n=s.toList/\-1000000000000<=n/\n<=1000000000000 then(⟨1,n,empty⟩,true) else(GV.zero,false)
 |_=>(GV.zero,false)
def Gx(s:ByteArray):Option (GV×Bool):=Zp (s.size<=281474976710656) (some (Ut s))
theorem Z3c(w:World)(o:Obj):(w.alloc o).heap[w.heap.size]?=some o:=by show(w.heap.push o)[w.heap.size]?=_;rw[Array.getElem?_push,if_pos rfl]
theorem N5{w:World}{o:Obj}{b k:Nat}{v:Value}(hb:b<w.heap.size)(hv:w.cell? ⟨b,k,none⟩=some v):(w.alloc o).cell? ⟨b,k,none⟩=some v:=
 ((Below.refl w.heap.size w).alloc (Y7 _) o).cell (p:=⟨b,k,none⟩) hb▸hv
theorem Hy{w w':World}{a b c:Value}{T:TypeId}(hb:Below (w.alloc (.cells #[a,b,c] T)).heap.size (w.alloc (.cells #[a,b,c] T)) w'):
  (w'.cell? ⟨w.heap.size,0,none⟩=some a/\w'.cell? ⟨w.heap.size,1,none⟩=some b/\w'.cell? ⟨w.heap.size,2,none⟩=some c)/\w'.frozen? ⟨w.heap.size,0,none⟩=false/\w'.frozen? ⟨w.heap.size,1,none⟩=false/\w'.frozen? ⟨w.heap.size,2,none⟩=false:=by
 have h:=(hb.block w.heap.size sI).trans (Z3c w (Obj.cells #[a,b,c] T));simp[World.cell?,World.frozen?,h]
theorem Sw(s:ByteArray)(hs:s.size<=281474976710656)(w:World)(hg:AF w):
  Calls prog 257 #[.string s] w λe w'=>e=.returned (.tuple #[.agg #[.int .i64 (Ut s).1.kind,.int .i64 (Ut s).1.int,.string (Ut s).1.text],.bool (Ut s).2])/\Below w.heap.size w w':=by
 have aa:∀{w':World} {a b c:Value} {T:TypeId} {x y z:Value},Below (w.alloc (.cells #[a,b,c] T)).heap.size (w.alloc (.cells #[a,b,c] T)) w'->Below w.heap.size w (((w'.setCell ⟨w.heap.size,0,none⟩ x).setCell ⟨w.heap.size,1,none⟩ y).setCell ⟨w.heap.size,2,none⟩ z):=λhb=>
  (((((Below.refl _ _).alloc (Y7 _) _).trans (hb.mono sI)).setCell (Y7 _) _).setCell (Y7 _) _).setCell (Y7 _) _
 rcases h:Lib.atoiAll s.data.toList with n|_|_
 .obtain⟨aj,af⟩:=Lib.atoiAll_bounds h;have ag:∀{a:World} {w':World},(w'=a\/∃t,w'=Lib.bytesWorld a (Tryz.jL.t 5) t)->Below a.heap.size a w':=λhw=>hw.elim (λe=>e▸Below.refl _ _) λ⟨t,e⟩=>e▸Lib.bytesWorld_below _ _ _;have ae:∀{o:Obj} {b:World},Below (w.alloc o).heap.size (w.alloc o) b->∀k os,Below (w.alloc o).heap.size (w.alloc o) (Go.Sort.grow (b.drewN k) os):=λhb k os=>hb.trans (Lib.below_grow _ _ hb.size k os);have ah:∀{o:Obj} {w':World},Below (w.alloc o).heap.size (w.alloc o) w'->AF w':=λhb=>hg.below (((Below.refl _ _).alloc (Y7 _) _).trans (hb.mono sI));have ad:¬(Lib.itoa n=s.toList/\-1000000000000<=n/\n<=1000000000000)->Ut s=(GV.zero,false):=λhx=>by simp only[Ut,h,if_neg hx]
  have ab:(Lib.itoa n=s.toList/\-1000000000000<=n/\n<=1000000000000)->Ut s=(⟨1,n,empty⟩,true):=λhx=>by simp only[Ut,h,if_pos hx]
  go_enter Tryz.func257,Tryz.ntmps257
  go_wp2_with (first
   |(go_at_call 267;refine(Any.strconv_Atoi_ok Tryz.jS s oM n h _).mono ?_;rintro e w' ⟨rfl,hW⟩;have hb:=ag hW;clear hW;obtain⟨⟨c0,c1,c2⟩,f0,f1,f2⟩:=Hy hb)
   |(go_at_call 217;refine(Any.strconv_Itoa Tryz.rK n aj af _ (Pc (ah (by assumption)).2.1 kR)).mono ?_;rintro e w2 ⟨rfl,k,os,ac⟩;have hb2:=ae (by assumption) k os;rw[<-ac] at hb2;clear ac;obtain⟨⟨d0,d1,d2⟩,g0,g1,g2⟩:=Hy hb2))
  all_goals first
   | (refine bodyPost_ret (v:=.tuple #[.agg #[.int .i64 0,.int .i64 0,.string empty],.bool false]) ?_ rfl ⟨?_,aa hb2⟩
      .simp[results,Tryz.results257,go_sem,d0,d1,d2];done
      .rw[ad]
       .rfl
       .rintro⟨x1,x2,x3⟩
        first
        |omega
        |contradiction)
   | (refine bodyPost_ret (v:=.tuple #[.agg #[.int .i64 1,.int .i64 n,.string empty],.bool true]) ?_ rfl ⟨?_,aa hb2⟩
      .simp[results,Tryz.results257,go_sem,d0,d1,d2];done
      .rw[ab];refine⟨?_,?_,?_⟩
       .assumption
       .omega
       .omega)
 .obtain⟨te,pe,hv⟩:=hg.2.2.1;have hp:Ut s=(GV.zero,false):=by simp[Ut,h]
  go_enter Tryz.func257,Tryz.ntmps257
  go_wp2_with (go_at_call 267;refine(Any.strconv_Atoi_syntax Tryz.jS s hs h (.iface te pe) _ ?_ (.inr ⟨te,pe,rfl⟩)).mono ?_;rotate_left;rintro e w' ⟨N,rfl,hN,hc,hb⟩;obtain⟨⟨c0,c1,c2⟩,f0,f1,f2⟩:=Hy hb;clear hc hN)
  .exact bodyPost_ret (v:=.tuple #[.agg #[.int .i64 0,.int .i64 0,.string empty],.bool false]) (by simp[results,Tryz.results257,go_sem,c0,c1,c2]) rfl ⟨by rw[hp];rfl,aa hb⟩
  .exact N5 (Y3 dE hg.1) hv
 .obtain⟨te,pe,hv⟩:=hg.2.2.2.1;have hp:Ut s=(GV.zero,false):=by simp[Ut,h]
  go_enter Tryz.func257,Tryz.ntmps257
  go_wp2_with (go_at_call 267;refine(Any.strconv_Atoi_range Tryz.jS s hs h (.iface te pe) _ ?_ (.inr ⟨te,pe,rfl⟩)).mono ?_;rotate_left;rintro e w' ⟨N,rfl,hN,hc,hb⟩;obtain⟨⟨c0,c1,c2⟩,f0,f1,f2⟩:=Hy hb;clear hc hN;generalize Lib.atoiSat s.data.toList=sat)
  .exact bodyPost_ret (v:=.tuple #[.agg #[.int .i64 0,.int .i64 0,.string empty],.bool false]) (by simp[results,Tryz.results257,go_sem,c0,c1,c2]) rfl ⟨by rw[hp];rfl,aa hb⟩
  .exact N5 (Y3 dE hg.1) hv
theorem Z7o(m:CM)(aa:Nat->Option Nat×Nat)(v:GV)(c:Bool):Az m aa (.tup [.agg (v.enc.map RC.d),.b c]) (.tuple #[.agg #[.int .i64 v.kind,.int .i64 v.int,.string v.text],.bool c]):=by
 refine⟨_,rfl,rfl,λi x hx=>?_⟩
 match i,hx with
 |0,hx=>
   cases hx;refine⟨_,rfl,_,rfl,rfl,λj c hc=>?_⟩
   match j,hc with
   |0,hc=>cases hc;exact⟨_,rfl,RepD.int _ _⟩
   |1,hc=>cases hc;exact⟨_,rfl,RepD.int _ _⟩
   |2,hc=>cases hc;exact⟨_,rfl,RepD.str _⟩
 |1,hx=>cases hx;exact⟨_,rfl,RepD.bool _⟩
theorem RY(s:ByteArray)(r:GV×Bool)(hm:Is (Gx s) r):Zj prog 257 [.s s] (.tup [.agg (r.1.enc.map RC.d),.b r.2]):=by
 obtain⟨hi,hm⟩:=hm.chk;obtain rfl:=Zh hm;refine Zj.jM ⟨_,Tryz.func257,kR,kR⟩ (λm=>Z7o m _ _ _) rfl λw m t vals hg aa=>?_;obtain rfl:=Oo (av:=[]) (u:=.string s) aa λv hv=>RepD.qR (m:=m) hv;exact Sw s hi w hg
end
section
instance Zbu(s_:ByteArray):Con (Gx s_) prog 257 [.one (.d (.str s_))] (λr=>.tup [.agg (r.1.enc.map RC.d),.one (.d (.bool r.2))]):=⟨λr hm=>RY s_ r hm⟩
def CZ(v_:GV)(kind:Int):Option (GV×Bool):=
 Z1 (WD v_) λv3=>bif (v3 !=0) then some ((GV.mk 0 0 empty),false) else bif decide (kind<1) then some ((GV.mk 0 0 empty),false) else bif decide (3<kind) then some ((GV.mk 0 0 empty),false) else bif (v_.kind==0) then some (v_,true) else bif (v_.kind==kind) then some (v_,true) else bif (kind==3) then bif (v_.kind==1) then Z1 (Bd v_.int) λv11=>(some ((GV.mk kind 0 v11),true)) else(Z1 (Gp (v_.int==1)) λv12=>some ((GV.mk kind 0 v12),true)) else bif (v_.kind==3) then bif (kind==2) then Z1 (Ej v_.text) λv15=>(some (v15.1,v15.2)) else(Z1 (Gx v_.text) λv16=>some (v16.1,v16.2)) else bif (v_.int==0) then some ((GV.mk kind v_.int empty),true) else bif (v_.int==1) then some ((GV.mk kind v_.int empty),true) else some ((GV.mk 0 0 empty),false)
instance Zc4(v_:GV)(kind:Int):Con (CZ v_ kind) prog 241 [.agg v_.enc,.one (.d (.int .i64 kind))] (λr=>.tup [.agg (r.1.enc.map RC.d),.one (.d (.bool r.2))]):=by unfold CZ;exact go 86 Tryz.func241

def Ey(values:List GV)(aa:Bool):Option ((List GV)×Bool):=
 Z7 values 0 λx=>Z7 values 1 λy=>bif x.kind==0&&(y.kind==0&&aa) then some ([⟨0,0,empty⟩],true) else
 Zp (x.text.size+({data:=#[32]}:ByteArray).size<=9223372036854775807/\(x.text++({data:=#[32]}:ByteArray)).size+y.text.size<=9223372036854775807)<|Z1 (Ly x.text {data:=#[32]}) λc=>
 some ([⟨3,0,(x.text++({data:=#[32]}:ByteArray)++y.text).extract 0 (if 24<(x.text++({data:=#[32]}:ByteArray)++y.text).size then 24 else(x.text++({data:=#[32]}:ByteArray)++y.text).size)⟩],
  x.kind==3&&(y.kind==3&&(decide ((x.text++({data:=#[32]}:ByteArray)++y.text).size<=24)&&!c)))
set_option maxHeartbeats 1000000 in
instance SQ(values:List GV)(aa:Bool):Con (Ey values aa) prog 243 [.l (values.map GV.enc),.b aa] (λr=>.tup [.l (r.1.map GV.enc),.b r.2]):=⟨by
 intro r hm;replace hm:=Is.get hm;obtain⟨x,-,hx,hm⟩:=hm;replace hm:=Is.get hm;obtain⟨y,-,hy,hm⟩:=hm;simp at hx hy;refine Zj.qN Tryz.func243 rfl kR (n:=68) rfl rfl sI ?_;simp[hx,hy];cases h1:x.kind==0<;>cases h2:y.kind==0<;>cases aa<;>simp only[h1,h2,Bool.and_true,Bool.and_false,cond_true,cond_false] at hm<;>simp[h1,h2,hx,hy]
 all_goals first
  | (obtain rfl:=Zh hm
     refine KO ?_;simp
     done)
  | (replace hm:=hm.chk
     obtain⟨⟨ha,hb⟩,hm⟩:=hm;obtain⟨c,hc,hm⟩:=hm.bind;obtain rfl:=Zh hm;refine Z4.qX (PH.intro:PH [3] (Plan.qB [0,1,2,3,4,5,6,7,8,9,10] .done)) dE kR follows ?_;have hb2:=hb;rw[ByteArray.size_append] at hb2;simp[hx,hy,ha,hb,hb2];generalize hs:x.text++({data:=#[32]}:ByteArray)++y.text=s;obtain⟨b,h5,h6⟩:∃b,decide (s.size<=24)=b/\decide ((s.size:Int)<=24)=b:=⟨_,rfl,decide_eq_decide.2 oM⟩;have e1:(if(24:Int)<s.size then(24:Int) else s.size)=((if 24<s.size then 24 else s.size:Nat):Int):=by split<;>split<;>omega
     have e2:(if 24<s.size then 24 else s.size)<=s.size:=by split<;>omega
     generalize(if 24<s.size then 24 else s.size)=q at e1 e2|-;cases h3:x.kind==3<;>cases h4:y.kind==3<;>cases b<;>simp[h3,h4,h5,h6,hx,hy]
     all_goals
      try
       refine Zq (Rv x.text _ c hc) sI ?_;simp[hx,hy]
      rw[e1];refine JT ⟨oM,oM⟩ ?_;simp[h3,h4,h5,h6,hx,hy];refine KO ?_;simp[h3,h4,h5,hx,hy]
      done)⟩
instance Zck(values:List GV)(nullable:Bool):Con (Ey values nullable) prog 243 [.one (.d (.sl (values.map GV.enc))),.one (.d (.bool nullable))] (λr=>.tup [.one (.d (.sl (r.1.map GV.enc))),.one (.d (.bool r.2))]):=⟨λr hm=>SQ values nullable r hm⟩
instance Zcj(s_:ByteArray)(sep:ByteArray):Con (GG s_ sep) prog 259 [.one (.d (.str s_)),.one (.d (.str sep))] (λr=>.tup [.one (.d (.str r.1)),.one (.d (.str r.2.1)),.one (.d (.bool r.2.2))]):=⟨λr hm=>SP s_ sep r hm⟩
end
end Go.Am
