import Derived.Test.YtfhpobpaahhfbaaGreatDoorK6
import Derived.Test.YtfhpobpaahhfbaaGreatDoorCards
import Derived.Test.YtfhpobpaahhfbaaGreatDoorTie
import Derived.ProofKit
import Derived.OpenShut
import Derived.Lay
import Derived.Deep.DeepWitnessRowRef
set_option linter.all false
set_option maxRecDepth 20000
open Go Go.Proofs
open Go.Proofs.Tryz
open ByteArray(empty)
open Go.IntKind(i64)
namespace Go.Am
section
def HO(row:aE)(k0:Sch)(k1:List J)(k2:Fk):aB Bool:=
 Z1 (D9 k0 k1 k2 row) λv1=>some !v1
instance Z00(row:aE)(k0:Sch)(k1:List J)(k2:Fk):Con (HO row k0 k1 k2) prog 79 [.one (.d (.sl (row.map GV.z))),.one (.rp [.sl (k0.q.map E.z),.sl (k0.b.map Fk.z),.sl (k0.cons.map Cons.z)]),.one (.rp [.sl (k1.map J.z)]),.one (.rp [.str k2.u,.sl (k2.j.map Zg),.str k2.ref])] (λr=>.one (.d (.bool r))):=by unfold HO;exact go 12 func79
instance Zgw(k0:Sch)(k1:List J)(k2:Fk):ConF (λx=>HO x k0 k1 k2) prog (λx=>.one (.d (.sl (x.map GV.z)))) (λr=>.one (.d (.bool r))) 79 [[.sl (k0.q.map E.z),.sl (k0.b.map Fk.z),.sl (k0.cons.map Cons.z)],[.sl (k1.map J.z)],[.str k2.u,.sl (k2.j.map Zg),.str k2.ref]]:=⟨λx=>(Z00 x k0 k1 k2)⟩
def HN(row:aE)(k0:Cons):aB Bool:=
 Z1 (Dc k0 row) λv1=>some !v1
instance TZ(row:aE)(k0:Cons):Con (HN row k0) prog 81 [.one (.d (.sl (row.map GV.z))),.one (.rp [.str k0.u,.int .i64 k0.left,.str k0.op,.int .i64 k0.right,.int .i64 k0.value.g,.int .i64 k0.value.int,.str k0.value.text])] (λr=>.one (.d (.bool r))):=by unfold HN;exact go 8 func81
instance Zgv(k0:Cons):ConF (λx=>HN x k0) prog (λx=>.one (.d (.sl (x.map GV.z)))) (λr=>.one (.d (.bool r))) 81 [[.str k0.u,.int .i64 k0.left,.str k0.op,.int .i64 k0.right,.int .i64 k0.value.g,.int .i64 k0.value.int,.str k0.value.text]]:=⟨λx=>(TZ x k0)⟩
def Bs(s_:Sch)(inst:List J):aB Int:=
 Z1 (VE s_ inst) λv3=>bif (v3 !=0) then some v3 else Zd (λ(i6:Nat) (x6:Fk) (s6:Unit) next_6=>Z1 (Vv s_ inst x6.u) λv8=>Z1 (BX v8.2 (λxa_=>HO xa_ s_ inst x6)) λv10=>bif v10 then some 10 else next_6 ()) (λ(s6:Unit)=>Zd (λ(i13:Nat) (x13:Cons) (s13:Unit) next_13=>Z1 (Vv s_ inst x13.u) λv15=>Z1 (BX v15.2 (λxa_=>HN xa_ x13)) λv17=>bif v17 then some 11 else next_13 ()) (λ(s13:Unit)=>some 0) s_.cons 0 ()) s_.b 0 ()
instance Z0h(s_:Sch)(inst:List J):Con (Bs s_ inst) prog 46 [.agg s_.z,.one (.d (.sl (inst.map J.z)))] (λr=>.one (.d (.int .i64 r))):=by unfold Bs;have l1:LH (σ:=Unit) 23 [2,3,21,22] []:=.intro;have l2:LH (σ:=Unit) 42 [2,3,40,41] []:=.intro;exact go 58 func46
def JN(s1:List (List J))(s2:List (List J))(eq:(List J)->(List J)->aB Bool):aB Bool:=
 bif ((s1.length:Int) !=(s2.length:Int)) then some false else Zd (λ(i5:Nat) (x5:List J) (s5:Unit) next_5=>Za s2 (i5:Int) λx6=>Z1 (eq x5 x6) λv7=>bif !v7 then some false else next_5 ()) (λ(s5:Unit)=>some true) s1 0 ()
instance Zfz(s1:List (List J))(s2:List (List J))(eq:(List J)->(List J)->aB Bool){g:FuncId}{caps:List aC}[ConG eq prog (λx=>.one (.d (.sl (x.map J.z)))) (λx=>.one (.d (.sl (x.map J.z)))) (λv=>.one (.d (.bool v))) g caps]:Con (JN s1 s2 eq) prog 121 [.one (.d (.sl (s1.map (Z7 J.z)))),.one (.d (.sl (s2.map (Z7 J.z)))),.one (.fn g caps)] (λr=>.one (.d (.bool r))):=by unfold JN;have l1:LH (σ:=Unit) 17 [1,2,15,16] []:=.intro;exact go 32 func121
def Ej(a:List (List J))(b:List (List J)):aB Bool:=
 Z1 (JN a b (λxa_ xb_=>C3 xa_ xb_)) λv1=>some v1
instance Zhe(a:List (List J))(b:List (List J)):Con (Ej a b) prog 102 [.one (.d (.sl (a.map (Z7 J.z)))),.one (.d (.sl (b.map (Z7 J.z))))] (λr=>.one (.d (.bool r))):=by unfold Ej;exact go 8 func102
instance Zht(s_:Sch)(script:List Stp)(source:List J)(comps:List (List J)):Con (UF s_ script source comps) prog 75 [.agg s_.z,.one (.d (.sl (script.map Stp.z))),.one (.d (.sl (source.map J.z))),.one (.d (.sl (comps.map (Z7 J.z))))] (λr=>.tup [.one (.d (.sl (r.1.map J.z))),.one (.d (.sl (r.2.1.map (Z7 J.z)))),.one (.d (.int .i64 r.2.2))]):=⟨λr hm=>NA s_ script source comps r hm⟩
instance Zhn(s_:Sch)(script:List Stp)(target:List J)(comps:List (List J)):Con (UD s_ script target comps) prog 76 [.agg s_.z,.one (.d (.sl (script.map Stp.z))),.one (.d (.sl (target.map J.z))),.one (.d (.sl (comps.map (Z7 J.z))))] (λr=>.tup [.one (.d (.sl (r.1.map J.z))),.one (.d (.sl (r.2.1.map (Z7 J.z)))),.one (.d (.int .i64 r.2.2))]):=⟨λr hm=>Nv s_ script target comps r hm⟩
def Da(s_:Sch)(sc:List Stp)(parent:List J)(child:List J)(complements:List (List J)):aB Bool:=
 Z1 (UF s_ sc parent complements) λv2=>Z1 (UD s_ sc child complements) λv3=>bif (v2.2.2==0) then bif (v3.2.2==0) then Z1 (C3 v2.1 child) λv6=>(bif v6 then Z1 (C3 v3.1 parent) λv8=>(bif v8 then Z1 (Ej v2.2.1 complements) λv10=>(bif v10 then Z1 (Ej v3.2.1 complements) λv12=>(some v12) else some false) else some false) else some false) else(some false) else some false
instance Zgz(s_:Sch)(sc:List Stp)(parent:List J)(child:List J)(complements:List (List J)):Con (Da s_ sc parent child complements) prog 70 [.agg s_.z,.one (.d (.sl (sc.map Stp.z))),.one (.d (.sl (parent.map J.z))),.one (.d (.sl (child.map J.z))),.one (.d (.sl (complements.map (Z7 J.z))))] (λr=>.one (.d (.bool r))):=by unfold Da;exact go 61 func70
def C0(g_:Gr)(db:Db):aB Int:=
 Z1 (Ar g_) λv3=>bif (v3.2 !=0) then some v3.2 else bif ((db.insts.length:Int) !=(v3.1.length:Int)) then some 3 else bif ((db.comps.length:Int) !=(g_.n.length:Int)) then some 3 else Zd (λ(i12:Nat) (x12:Sch) (s12:Unit) next_12=>Za db.insts (i12:Int) λx14=>Z1 (Bs x12 x14) λv15=>bif (v15 !=0) then some v15 else next_12 ()) (λ(s12:Unit)=>Zd (λ(i18:Nat) (x18:Edg) (s18:Unit) next_18=>Za v3.1 x18.m λx20=>Za db.insts x18.m λx21=>Za db.insts (i18+1:Int) λx22=>Za db.comps (i18:Int) λx23=>Z1 (Da x20 x18.script x21 x22 x23) λv24=>bif !v24 then some 13 else next_18 ()) (λ(s18:Unit)=>some 0) g_.n 0 ()) v3.1 0 ()
instance Z0i(g_:Gr)(db:Db):Con (C0 g_ db) prog 39 [.agg g_.z,.agg db.z] (λr=>.one (.d (.int .i64 r))):=by unfold C0;have l1:LH (σ:=Unit) 37 [2,3,5,35,36] []:=.intro;have l2:LH (σ:=Unit) 56 [3,5,54,55] []:=.intro;have p1:PH [9] (Y.qB aN .done):=.intro;have p2:PH [16] (Y.qB [0,1,2,3,4,5,6,7,8,9,10,11,12,13,14,15,16,17,18,19,20,21,22,23,24,25] .done):=.intro;exact go 88 func39
instance Zic(s_:Sch)(inst:List J)(changes:List Chg):Con (Co s_ inst changes) prog 10 [.agg s_.z,.one (.d (.sl (inst.map J.z))),.one (.d (.sl (changes.map Chg.z)))] (λr=>.tup [.one (.d (.sl (r.1.map J.z))),.one (.d (.int .i64 r.2))]):=⟨λr hm=>NO s_ inst changes r hm⟩
def H0(x:List J):Prop:=x.length<=2097152/\∀r∈x,r.rows.length<=2097152
instance(x:List J):Decidable (H0 x):=inferInstanceAs (Decidable (_/\_))
def MV(a:Db):Prop:=(∀x∈a.insts,H0 x)/\∀l∈a.comps,l.length<=2097152/\∀x∈l,H0 x
instance(db:Db):Decidable (MV db):=inferInstanceAs (Decidable (_/\_))
def Ix{α β:Type}{f:α->aB β}{g:α->β->α}:∀(a:List α) (i:Nat) (s:List α),s.length+a.length<=2097152->(∀x∈a,∃v,f x=some v/\g x v=x)->
  Zd (λ(_:Nat) x s next=>Z1 (f x) λv=>Wn s [g x v] λ_=>next (s++[g x v])) (λs=>some s) a i s=some (s++a)
 |[],i,s,_,_=>by simp[Zd]
 |x::a,i,s,c,hf=>by
   have⟨v,d,b⟩:=hf x I;simp only[YM] at c;show Z1 (f x) _=_;rw[d];show Wn s [g x v] _=_;rw[b];show Zp _ _=_;unfold Zp;rw[if_pos sO];show Zd _ _ a (i+1) (s++[x])=_;rw[Ix a (i+1) (s++[x]) sO λy e=>hf y (by simp[e])];simp
def Z2t{a:List aE}(h:a.length<=2097152):Is (VG a) a:=
 Ix (f:=Ee) (g:=λ_ v=>v) a 0 [] (sU h) λx _=>⟨x,rfl,rfl⟩
def NV{x:List J}(h:H0 x):Is (Vw x) x:=
 Ix (f:=λr:J=>VG r.rows) (g:=λr v=>⟨r.u,v⟩) x 0 [] (sU h.1) λr a=>⟨r.rows,Z2t (h.2 r a),rfl⟩
def Z3i{l:List (List J)}(h:l.length<=2097152)(c:∀x∈l,H0 x):Is (Dg l) l:=by
 have:Hr l (λa=>Vw a)=some l:=
  Ix (f:=λx=>Vw x) (g:=λ_ v=>v) l 0 [] (sU h) λx b=>⟨x,NV (c x b),rfl⟩
 unfold Dg;rw[this];rfl
def Di(g:Gr)(a:Db)(v:Int)(d:List Chg):aB (Db×List Int×Int):=
 Z1 (C0 g a) λe=>bif e !=0 then some (⟨[],[]⟩,[],e) else
 bif decide (v<0)||decide ((a.insts.length:Int)<=v) then some (⟨[],[]⟩,[],4) else
 Z1 (Ar g) λq=>Za q.1 v λS=>Za a.insts v λb=>Z1 (Co S b d) λr=>
 bif r.2 !=0 then some (⟨[],[]⟩,(List.replicate q.1.length 0).set v.toNat r.2,0) else Zp (MV a)<|
 Z1 (FM g q.1 (a.insts.set v.toNat r.1) a.comps v) λs=>
 Zd (λ(u:Nat) (S2:Sch) (t:List Int×Bool) next=>Za s.reached u λh=>Za t.1 u λc=>
  bif h&&(c==0) then Za s.insts u λf=>Z1 (Bs S2 f) λe=>next (t.1.set u e,t.2||(e !=0)) else next (t.1,t.2||(c !=0)))
  (λt=>bif t.2 then some (⟨[],[]⟩,t.1,0) else some (⟨s.insts,s.comps⟩,t.1,0)) q.1 0 (s.errs,false)
def LC{h:HS}{c:C}{a:List Int}(m:Wt h c (a.map λz=>.int .i64 z)):Frz h c (.sl (a.map Zg)):=by
 have b:(a.map λz=>D.int .i64 z).map (λd=>[d])=a.map Zg:=by rw[YY];rfl
 rw[<-b];exact m.frz
def Z7n{h:HS}{c:C}{l:List (List J)}(m:Wt h c (l.map Wq)):Frz h c (.sl (l.map (Z7 J.z))):=by
 have a:(l.map Wq).map (λd=>[d])=l.map (Z7 J.z):=by rw[YY];rfl
 rw[<-a];exact m.frz
def Z7x{h:HS}{c:C}{l:List (List (List J))}(m:Wt h c (l.map Um)):Frz h c (.sl (l.map (Z7 (Z7 J.z)))):=by
 have a:(l.map Um).map (λd=>[d])=l.map (Z7 (Z7 J.z)):=by rw[YY];rfl
 rw[<-a];exact m.frz
def Z1d(g:Gr)(o:Db)(v:Int)(aa:List Chg)(r:Db×List Int×Int)(hm:Is (Di g o v aa) r):
  Zq prog 24 [.agg g.z,.agg o.z,.i v,.l (aa.map Chg.z)] (.tup [.agg (r.1.z.map RC.d),.l (r.2.1.map Zg),.i r.2.2]):=by
 unfold Di at hm;refine Zq.of_heap ?_;show Z5 _ _ [.agg (g.z.map C.d),.agg (o.z.map C.d),.i v,.l (aa.map Chg.z)] HS.init _;refine Z5.ov func24 ?_;have⟨e,he,hm⟩:=hm.bind;simp;refine Zx ((Z0i g o).h e he) I ?_;simp;refine ZP hm ?_ ?_<;>clear hm<;>intro hc hm;obtain rfl:=Zk hm;simp[ZS,ZK,ZX,W5];exact⟨⟨.data rfl,.data rfl,trivial⟩,.data rfl,.data rfl,trivial⟩;simp;have bad:∀(h':HS),F8 h' (.tup [.agg [.nil,.nil],.one .nil,.i 4]) (.tup [.agg ((⟨[],[]⟩:Db).z.map RC.d),.l (([]:List Int).map Zg),.i 4]):=λh'=>⟨⟨.data rfl,.data rfl,trivial⟩,.data rfl,.data rfl,trivial⟩;by_cases hv0:v<0;simp only[hv0,decide_true,Bool.true_or,cond_true] at hm;obtain rfl:=Zk hm;simp[hv0,ZS,ZK,ZX,W5];exact bad _;have ca:decide (v<0)=false:=by simp[hv0]
 rw[ca,Bool.false_or] at hm;simp[hv0];intro dn
 try simp[hv0]
 refine ZP hm ?_ ?_<;>clear hm<;>intro dm hm;obtain rfl:=Zk hm;simp[ZS,ZK,ZX,W5];exact bad _;have⟨q,W,hm⟩:=hm.bind;have⟨S,ar,hS,hm⟩:=hm.get;obtain⟨inst,-,bh,hm⟩:=hm.get;have⟨F,cp,hm⟩:=hm.bind;simp;refine Zx ((Ns g).h q W) I ?_;simp;refine Z6.cu aZ (λe1 L=>En e1 127 [(2,.i v),(4,.p (0,64)),(5,.p (1,80)),(8,.p (2,128)),(12,.l (q.1.map Sch.z)),(14,.l (F.1.map J.z)),(15,.i F.2)]/\
  L.a (0,64)=some (g.z.map C.d)/\L.a (1,80)=some (o.z.map C.d)/\L.a (2,128)=some [.nil,.nil]/\2<L.p) ?_ ?_
 simp[ar,hS,bh];refine Zx (NO S inst aa F cp) I ?_;simp[ar,hS,bh]
 try refine⟨λ_ _ x=>x,?_⟩
 exact Ze.of ⟨I,I,I,I,I⟩;rintro e1 L ⟨n,bg,aj,br,di⟩;simp[n];refine ZP hm ?_ ?_<;>clear hm<;>intro dp hm;obtain rfl:=Zk hm;simp[n];intro cw;refine⟨X,?_⟩;have cb:v.toNat<q.1.length:=(Y0.1 hS).1;have c0:Wt (L.xV (L.p,1008) (List.replicate q.1.length (.d (.int .i64 0)))) (.mrow (L.p,1008) 0 q.1.length q.1.length) (List.replicate q.1.length (.int .i64 0)):=Wt.make (zc:=.d (.int .i64 0)) I rfl cw;obtain⟨lr,cap,bs,cj,b6,bv,-,ah⟩:=c0.at (i:=v.toNat) (sU cb);simp only[Xi,C.mrow.injEq,true_and] at cj;obtain⟨rfl,rfl⟩:=cj;simp at b6;subst b6;simp only[Xi] at bv;simp[n,ar,cb,bv,br];simp[ZS,ZK,ZX,W5,n,br];refine⟨⟨.data rfl,.data rfl,trivial⟩,?_,.data rfl,trivial⟩;have e9:(List.replicate q.1.length [D.int i64 0]).set v.toNat [D.int i64 F.2]=((List.replicate q.1.length (0:Int)).set v.toNat F.2).map Zg:=by rw[YJ,Y35];rfl
 have c8:((List.replicate q.1.length (0:Int)).set v.toNat F.2).map (λz=>D.int .i64 z)=(List.replicate q.1.length (D.int .i64 0)).set v.toNat (.int .i64 F.2):=by rw[YJ,Y35]
 show Frz _ _ _;rw[e9];refine LC ?_;rw[c8];refine(ah L (.d (.int .i64 F.2)) (.int .i64 F.2) rfl).frame λl hl=>?_;simp[Z] at hl;subst hl;simp;have⟨bb,hm⟩:=hm.chk;have⟨s,hs,hm⟩:=hm.bind;simp only[Gr.z,Db.z,Yb,Yf] at bg aj;simp[n,aj];refine Zc (Z10 _ o (λx hx=>NV (bb.1 x hx)) (λl hl=>Z3i (bb.2 l hl).1 (bb.2 l hl).2) _ λci K A mI mC hl hd O=>?_);simp[n,aj];have mB:MC A [(ci,o.insts.map Wq),(K,o.comps.map Um)]:=by
  refine⟨λq W=>?_,λq W k y=>?_,?_⟩;simp only[Y5,Xn,or_false] at W;rcases W with rfl|rfl;exact mI;exact mC;simp only[Y5,Xn,or_false] at W;rcases W with rfl|rfl;exact(hl k (by simp[y])).2;exact(hl k (by simp[y])).2;simp only[YI,XS,Ym];exact Yk.2 ⟨Vx,Vx,λa ha b hb he=>hd a ha (he▸hb)⟩
 have b3:v.toNat<(o.insts.map Wq).length:=sU ((Y0.1 bh).1);obtain⟨E,f,bi,cx,cn,cl,ch,-,ah⟩:=mB.at (j:=0) (i:=v.toNat) rfl b3;have bm:ci=.mrow E 0 o.insts.length f:=sU cx;subst bm;have bq:v.toNat < o.insts.length:=sU b3;have p1:=Zv ch;have p2:=W1 ch;have dj:=O.1;have ae:∀ k ∈ Z (.mrow E 0 o.insts.length f)++Z K,L.p<=k.1/\k.1 < A.p:=λk y=>hl k y;have p3:∀ a b:Nat,a<=2->((a,b)=E)=False:=λa b ha=>eq_false (by rintro rfl;have:=(ae (a,b) (by simp[Z])).1;simp at this;omega);have b0:=(O.2 (0,64) sO I).trans bg;have b1:=(O.2 (1,80) sO I).trans aj;have P:=(O.2 (2,128) sO I).trans br;simp[n,aj,ar,bq,cn,cl,p1,p2,p3,b0,b1,P];have da:(o.insts.set v.toNat F.1).map Wq=(o.insts.map Wq).set v.toNat (Wq F.1):=YJ;refine Zc (Z04 _ g q.1 (o.insts.set v.toNat F.1) o.comps v (.mrow E 0 o.insts.length f) K s hs (by
  rw[da];refine ah _ _ (.d (Wq F.1)) (Wq F.1) (mB.new ?_) rfl rfl;exact sm) _ λU cr h3 G bj hge=>?_)
 have c2:=bj.2 (2,128) sO (λh9=>by have:=(ae _ h9).1;simp at this;omega);have b7:=bj.2 (A.p,272) I (λh9=>by have:=(ae _ h9).2;simp at this);have dk:((2,128):Z2)≠(A.p,272):=by intro h9;simp at h9
 simp[p2,p3,P] at c2 b7;have bn:=bj.1;simp at bn;simp[n];intro dr;have a7:∀ k ∈ Z U++Z cr,A.p < k.1:=λk y=>by have:=hge k y;simp at this;omega
 have df:∀ k ∈ Z (.mrow E 0 o.insts.length f)++Z K,L.p<=k.1/\k.1 < A.p:=ae;refine Z6.for (xs:=q.1) (s0:=(s.errs,false)) (λu t e h'=>En e 127 [(8,.p (2,128)),(17,.p (A.p,272)),(18,.one U),(19,.one cr),(20,.b t.2),(85,.l (q.1.map Sch.z)),(86,.i (q.1.length:Int)),(87,.i (u:Int))] /\
  h'.a (2,128)=some [.nil,.nil]/\h'.a (A.p,272)=some [.mrow E 0 o.insts.length f,K]/\MC h' ((⟨s.insts,s.comps,t.1,s.reached⟩:PSt).rows (.mrow E 0 o.insts.length f) K U cr)/\A.p < h'.p) hm
  ⟨by simp[n],c2,b7,G,X⟩ ?_ ?_
 .rintro u t e h' ⟨n,P,af,G,ag⟩ hlt hm;have hw:IntKind.i64.wrap ((u:Int)+1)=(u:Int)+1:=Y6 _ X;have ⟨ru,cg,hm⟩:=hm.qQ;have ⟨eu,bw,hm⟩:=hm.qQ;have ap:u < s.reached.length:=(Y0.1 cg).1;have N:u < t.1.length:=(Y0.1 bw).1;obtain⟨lr,B,br,de,bd,dg,bt,⟨xr,ba,ck⟩,-⟩:=G.at (j:=3) (i:=u) rfl (sU ap);simp only[Y9,cg,Yp,Ya] at ck;obtain rfl:=Lc ck;have bp:cr=.mrow lr 0 s.reached.length B:=sU de;subst bp;have ⟨T,R,be,dc,aq,bu,b5,⟨xe,bf,bz⟩,bc⟩:=G.at (j:=2) (i:=u) rfl (sU N);simp only[Y9,bw,Yp,Ya] at bz;obtain rfl:=IQ bz;have Y:U=.mrow T 0 t.1.length R:=sU dc;rw[Y] at n;have q1:=W1 bt;have q2:=W1 b5;have q3:=Zv bt;have q4:=Zv b5;have q5:∀ b,((A.p,b)=T)=False->True:=λ_ _=>trivial;have a8:E.1 < h'.p:=G.lt _ (Y8 ..) E (by simp[Z]);have q6:=Zv a8;have q7:=W1 a8;have dh:((2,128):Z2)≠(h'.p,352):=by intro h9;simp at h9
  have b9:=Zv (l:=(A.p,272)) ag;have Q:∀ h6:HS,Z0 h' h6 []->h6.a (2,128)=some [.nil,.nil]/\h6.a (A.p,272)=some [.mrow E 0 o.insts.length f,K]/\MC h6 ((⟨s.insts,s.comps,t.1,s.reached⟩:PSt).rows (.mrow E 0 o.insts.length f) K U (.mrow lr 0 s.reached.length B))/\A.p < h6.p:=λh6 al=>
   ⟨(al.2 _ sO I).trans P,(al.2 _ ag I).trans af,G.new al,Y4 ag al.1⟩
  simp[n,hlt,ap,N,bd,ba,q3,q1];cases ru with
  |false=>
    simp only[Bool.false_and,cond_false] at hm;cases ht2:t.2
    all_goals
     rw[ht2] at n;simp[n,N,aq,bf,q1,q2,q3,q4,hw,XO,bd,ba,ap];refine Zj.of (t.1,t.2 || (eu != 0)) ⟨⟨by simp[n,Y,ht2],Q _ ?_⟩,hm⟩;exact sm
  |true=>?_
  cases hz:(eu == 0) with
  |false=>
    rw[hz] at hm;simp only[Y07,cond_false] at hm;cases ht2:t.2
    all_goals
     rw[ht2] at n;simp[n,N,aq,bf,q1,q2,q3,q4,hw,hz,bd,ba,ap];refine Zj.of (t.1,t.2 || (eu != 0)) ⟨⟨by simp[n,Y,ht2],Q _ ?_⟩,hm⟩;exact sm
  |true=>?_
  rw[hz] at hm;simp only[Bool.and_true,cond_true] at hm;have ⟨iu,bk,hm⟩:=hm.qQ;have ⟨M,dd,hm⟩:=hm.bind;simp[n,N,aq,bf,q1,q2,q3,q4,hz];have cy:u < s.insts.length:=(Y0.1 bk).1;obtain⟨dq,c6,dl,ay,aw,cq,-,⟨xi,cm,b4⟩,-⟩:=G.at (j:=0) (i:=u) rfl (sU cy);simp only[Y9,bk,Yp,Ya] at b4;simp at ay;obtain⟨rfl,dw,rfl⟩:=ay;have ax:u < o.insts.length:=X
  refine Z6.cu aQ (λeq0 h4=>Ek e eq0 [(18,.one (.mrow T 0 t.1.length R)),(19,.one (.mrow lr 0 s.reached.length B)),(21,.i (u:Int))] [8,17,20,85,86,87] /\
   ∃ hX,Z0 h' hX []/\h4=hX.xV T (Zi be u [.d (.int .i64 M)])) ?_ ?_
  simp[n,af,b9,ax,aw,cm,q6,q7];refine Zx ((Z0h q.1[u] iu).h M dd) (by simp[Wi,V.toA,(F3 b4).2.2]) ?_;simp[n,af,b9,ax,aw,cm,q6,q7,N,bu,aq,q2,q4]
  try refine⟨λ_ _ x=>x,?_⟩
  refine Ze.of ⟨by simp[n],_,?_,rfl⟩;exact sm;rintro E2 h4 ⟨hF,hX,am,rfl⟩;have n:=hF.an n;have m6:=bc _ _ (.d (.int .i64 M)) (.int .i64 M) (G.new am) rfl rfl;have cd:MC (hX.xV T (Zi be u [.d (.int .i64 M)])) ((⟨s.insts,s.comps,t.1.set u M,s.reached⟩:PSt).rows (.mrow E 0 o.insts.length f) K U (.mrow lr 0 s.reached.length B)):=by simpa[PSt.rows,YJ] using m6
  obtain⟨dx,c7,dv,ak,au,cz,-,⟨xe,b8,a1⟩,-⟩:=cd.at (j:=2) (i:=u) rfl (sU N);simp only[Y9,Yr N,Yp,Ya] at a1;obtain rfl:=IQ a1;rw[Y] at ak;simp at ak;obtain⟨rfl,rfl⟩:=ak;simp at au;subst au;have az:∀ k:Z2,k.1<=A.p->(k=T)=False:=λk y=>eq_false (by rintro rfl;have:=a7 k (by rw[Y];simp[Z]);omega);have f1:(hX.xV T (Zi be u [.d (.int .i64 M)])).a (2,128)=some [.nil,.nil]:=by simp[az (2,128) sO];exact (am.2 _ sO I).trans P
  have f2:(hX.xV T (Zi be u [.d (.int .i64 M)])).a (A.p,272)=some [.mrow E 0 o.insts.length f,K]:=by simp[az (A.p,272) I];exact (am.2 _ ag I).trans af
  cases ht2:t.2
  all_goals
   rw[ht2] at n;simp[n,N,b8,hw];refine Zj.of (t.1.set u M,t.2 || (M != 0)) ⟨⟨by simp[n,Y,ht2],f1,f2,cd,sU (Y4 ag am.1)⟩,hm⟩
 rintro t e h' ⟨n,P,af,G,ag⟩ hm;have ao:∀ {cs:aD},∀ k ∈ Z (.mrow E 0 o.insts.length f)++(Z K++(Z U++Z cr)),(h'.xV (2,128) cs).a k=h'.a k:=λ{cs} k y=>by
  have:k≠(2,128):=by
   intro h9;rw[h9] at y;rcases Y3.1 y with h8 | h8
   have:=(ae (2,128) (YV _ h8)).1;simp at this;omega
   rcases Y3.1 h8 with h8 | h8
   have:=(ae (2,128) (Xj _ h8)).1;simp at this;omega
   have:=a7 (2,128) h8;simp at this;omega
  simp[this]
 simp[n];refine ZP hm ?_ ?_<;>clear hm<;>intro dt hm;obtain rfl:=Zk hm;simp[n,P];simp[ZS,ZK,ZX,W5,n];exact⟨⟨.data rfl,.data rfl,trivial⟩,LC ((G.row _ (Yc _ (Yc _ (Y8 ..)))).frame λk y=>ao k (by simp[y])),.data rfl,trivial⟩;obtain rfl:=Zk hm;simp[n,P,af];simp[ZS,ZK,ZX,W5,n];exact⟨⟨Z7n ((G.row _ (Y8 ..)).frame λk y=>ao k (by simp[y])),Z7x ((G.row _ (Yc _ (Y8 ..))).frame λk y=>ao k (by simp[y])),trivial⟩,LC ((G.row _ (Yc _ (Yc _ (Y8 ..)))).frame λk y=>ao k (by simp[y])),.data rfl,trivial⟩
def O8{S}(n:VS S)(a):Wp (Bs S a) λe=>e=0->CF S a/\VE S a=some 0:=by
 have g:=λT p=>(n.tab T p).pk6;unfold Bs;refine X0 (Cp S g a) λe r h=>X1 (λj=>X2 λo=>by rw[o] at j;cases j) λj=>?_;obtain rfl:e=0:=sU j;have k:=h rfl;have m:∀{u:List aE} {f:aE->aB Bool},(∀x,Wp (f x) λ_=>True)->Wp (BX u f) λ_=>True:=λs=>by
  unfold BX D8;exact X0 ((Xc λx _=>s x).mono λ_ _ _=>trivial) λ_ _ _=>X2 trivial
 refine X6 (λ_ _=>True) trivial ?_ λ_ _=>X6 (λ_ _=>True) trivial ?_ λ_ _=>X2 λ_=>⟨k,r⟩
 .intro i f _ next _ t _ l
  refine X0 (Mj g k.l24 f.u) λq _ _=>X0 (m λd=>?_) λb _ _=>X7 λ_=>l () trivial;exact X0 (NZ g k.l24 (n.fk f t).1 d) λ_ _ _=>X2 trivial
 intro i c _ next _ _ _ l
 refine X0 (Mj g k.l24 c.u) λq _ _=>X0 (m λd=>?_) λb _ _=>X7 λ_=>l () trivial;exact X0 (Pz c d) λ_ _ _=>X2 trivial
def IM(a b):Wp (Ej a b) λr=>r=true↔a=b:=by
 unfold Ej;exact X0 (My λx y=>ER x y) λr _ c=>X2 c
def Z2m{S d}(l:∀x∈d,U7 x)(a b)(c):Wp (Da S d a b c) λr=>r=true->UF S d a c=some (b,c,0)/\UD S d b c=some (a,c,0)/\SB d.length (b,c,0):=by
 unfold Da;refine X0 (J6 S d l a c) λp z n=>X0 (Mk S d l b c) λq k af=>X1 (λe=>X1 (λf=>X0 (ER _ _) λg _ s=>X1 (λu=>X0 (ER _ _) λh _ o=>X1 (λv=>X0 (IM _ _) λi _ m=>X1 (λw=>X0 (IM _ _) λj _ t=>X2 λy=>?_) λ_=>X2 I) λ_=>X2 I) λ_=>X2 I) λ_=>X2 I) λ_=>X2 I;have g:=s.1 u;have h:=o.1 v;have i:=m.1 w;have j:=t.1 y;have e:p.2.2=0:=sU e;have f:q.2.2=0:=sU f;have⟨p1,p2,p3⟩:=p;have⟨q1,q2,q3⟩:=q;simp only at g h i j e f;subst g h i e f;rw[j] at k;exact⟨z,k,(n rfl).1⟩
structure DbV(g:Gr)(db:Db)(Ss:List Sch):Prop where
 ver:VerOK g Ss
 sch:Ar g=some (Ss,0)
 li:db.insts.length=Ss.length
 lc:db.comps.length=g.n.length
 inst:∀(i:Nat) S x,Ss[i]?=some S->db.insts[i]?=some x->Bs S x=some 0/\CF S x/\VE S x=some 0
 edge:∀i e P a b c,g.n[i]?=some e->Ss[e.m.toNat]?=some P->db.insts[e.m.toNat]?=some a->db.insts[i+1]?=some b->db.comps[i]?=some c->UF P e.script a c=some (b,c,0)/\UD P e.script b c=some (a,c,0)/\SB e.script.length (b,c,0)
def F6(g:Gr):Prop:=∀e∈g.n,∀x∈e.script,U7 x
def Z2l{g}(v:F6 g)(d):Wp (C0 g d) λe=>e=0->∃J,DbV g d J:=by
 unfold C0;refine X0 (Z0k g v) λq N Z=>X1 (λh=>X2 λz=>by rw[z] at h;cases h) λh=>?_;have f:q.2=0:=sU h;have u:=Z f;refine X7 λy=>X7 λw=>?_;have y:d.insts.length=q.1.length:=by simp at y;omega
 have w:d.comps.length=g.n.length:=by simp at w;omega
 refine X6 (λi _=>∀(j:Nat) S x,j<i->q.1[j]?=some S->d.insts[j]?=some x->Bs S x=some 0/\CF S x/\VE S x=some 0) (λj S x h=>absurd h (XB _)) ?_ ?_
 .intro i S _ next s C A F
  have W:=(Y0.1 s).1;refine X3 X X λx M _=>X0 (O8 (u.vs S C) x) λe t O=>X1 (λh=>X2 λz=>by rw[z] at h;cases h) λh=>F () λj I x9 Y k l=>?_;obtain rfl:e=0:=sU h;rcases Yx j i with h9|h9;exact A j I x9 h9 k l;obtain rfl:j=i:=X
  rw[s] at k;cases k
  have:d.insts[j]?=some x:=sU M
  rw[this] at l;cases l;exact⟨t,O rfl⟩
 intro _ A;refine X6 (λi _=>∀j e P a b c,j<i->g.n[j]?=some e->q.1[e.m.toNat]?=some P->d.insts[e.m.toNat]?=some a->d.insts[j+1]?=some b->d.comps[j]?=some c->UF P e.script a c=some (b,c,0)/\UD P e.script b c=some (a,c,0)/\SB e.script.length (b,c,0)) (λj e P a b c h=>absurd h (XB _)) ?_ ?_
 .intro i e _ next t L B F
  have W:=(Y0.1 t).1;have G:=u.n i e t;have ag:=u.len;refine X3 G.1 X λP U _=>X3 G.1 X λa V _=>X3 X X λb D _=>X3 X X λc E _=>X0 (Z2m (v e L) a b c) λr _ hr=>X7 λh=>F () λj T H K Q R Y m f n o p=>?_;rcases Yx j i with h9|h9;exact B j T H K Q R h9 m f n o p;obtain rfl:j=i:=X
  rw[t] at m;cases m;have D:d.insts[j+1]?=some b:=sU D;have E:d.comps[j]?=some c:=sU E;rw[U] at f;rw[V] at n;rw[D] at o;rw[E] at p;cases f;cases n;cases o;cases p;exact hr (sU h)
 intro _ B;refine X2 λ_=>⟨q.1,u,by rw[N,<-f],y,w,λi S x s v=>A i S x (Y0.1 s).1 s v,λi e P a b c m f n o p=>B i e P a b c (Y0.1 m).1 m f n o p⟩
def DbV.ok{g e c}(v:DbV g e c):MV e:=by
 have hl:=v.ver.len;refine⟨λx h=>?_,λl n=>?_⟩;obtain⟨i,b,rfl⟩:=Yo h;have d:i<c.length:=by rw[<-v.li];exact b
 have k:c[i]?=some c[i]:=Y1 d;have a:=(v.inst i _ _ k (Y1 b)).2.1.rb (v.ver.vs _ (Y2 k));exact⟨by have:=a.1;omega,λr f=>by have:=a.2 r f;omega⟩;obtain⟨i,b,rfl⟩:=Yo n;have d:i<g.n.length:=by rw[<-v.lc];exact b
 have m:=Y1 d;have hp:=v.ver.n i _ m;have ac:=v.li;have a:=(v.edge i _ _ _ _ _ m (Y1 X) (Y1 X) (Y1 X) (Y1 b)).2.2;have h6:=a.2.2.2;have h7:e.comps[i].length=g.n[i].script.length:=a.2.1;refine⟨X,λx h=>?_⟩;have j:=a.2.2.1 x h;exact⟨by have:=j.1;omega,λr f=>by have:=j.2 r f;omega⟩
def Ze6{l:List Int}{n:Nat}(h:l.Nodup)(b:∀v∈l,0<=v/\v<=(n:Int)):l.length<=n+1:=by
 have a:l.length<=(ZZ (n+1)).length:=List.Nodup.length_le_of_subset h λv c=>by
  have:=b v c
  simp only[ZZ,Yi,XV];exact⟨v.toNat,X,X⟩
 rwa [Cy] at a
def Zrp{g:Gr}{m:List Sch}(y:VerOK g m)(L:Ar g=some (m,0)){v:Int}(F:0<=v)(G:v<m.length):Wp (FO g v) λr=>∀h∈r.1,0<=h.edge/\h.edge<g.n.length:=by
 have h7:=y.l7;have hl:=y.len;unfold FO;refine X0 (R:=λq=>q.2=0) ?_ λq _ K=>X1 (λh=>by rw[K] at h;cases h) λ_=>?_;unfold Dh;refine Xb L ?_;refine X9 rfl<|X9 sO<|X9 sO<|X3 F G λS _ _=>X2 rfl;have z:∀(t:List Int×List Hop),t.1.Nodup/\(∀v∈t.1,0<=v/\v<=(g.n.length:Int))/\t.2.length<=t.1.length/\(∀h∈t.2,0<=h.edge/\h.edge<(g.n.length:Int))->t.1.length<=8:=λt h=>by have:=Ze6 h.1 h.2.1;omega
 refine Xd (λs:List Int×List Hop×Int=>(s.1.Nodup/\(∀v∈s.1,0<=v/\v<=g.n.length)/\s.2.1.length<=s.1.length/\(∀h∈s.2.1,0<=h.edge/\h.edge<g.n.length))/\0<=s.2.2) (λs=>(9-s.2.2).toNat) ?_ Fp _ ⟨⟨I,sO,I,I⟩,I⟩ (by simp[Fp]);rintro⟨a,b,k⟩ next ⟨o,B⟩ hn
 simp only at o B;refine X1 (λf=>?_) λ_=>X2 o.2.2.2;have f:k<a.length:=sU f;refine X6 (λ_ t=>(t.1.Nodup/\(∀v∈t.1,0<=v/\v<=g.n.length)/\t.2.length<=t.1.length/\(∀h∈t.2,0<=h.edge/\h.edge<g.n.length))/\k<t.1.length) ⟨o,f⟩ ?_ ?_;intro i e t nx A _ j n;have hi:=(Y0.1 A).1;have hp:=y.n i e A;have H:=z t j.1;have⟨⟨t1,t2,t3,t4⟩,t5⟩:=j;have d:∀v (h:Hop),v∉t.1->0<=v/\v<=g.n.length->h.edge=i->((t.1++[v]).Nodup/\(∀w∈t.1++[v],0<=w/\w<=g.n.length)/\(t.2++[h]).length<=(t.1++[v]).length/\(∀l∈t.2++[h],0<=l.edge/\l.edge<g.n.length))/\k<(t.1++[v]).length:=by
  intro v h E D C;refine⟨⟨?_,λw M=>?_,sO,λl J=>?_⟩,sO⟩;rw[Yk];refine⟨t1,I,λa p b u=>?_⟩;rw[Yj.1 u];exact λc=>E (c▸p);rcases Y3.1 M with c|c;exact t2 w c;rw[Yj.1 c];exact D;rcases Y3.1 J with c|c;exact t4 l c;rw[Yj.1 c,C];omega
 refine X3 B t5 λx _ _=>X0 (C4 t.1 (i+1)) λa9 _ p=>X0 (C4 t.1 e.m) λb9 _ u=>X4 ⟨X,X⟩ (X1 (λh=>n _ ?_) λ_=>X1 (λh=>n _ ?_) λ_=>n _ ⟨⟨t1,t2,t3,t4⟩,t5⟩);simp at h;exact d _ ⟨i,false⟩ (λc=>by rw[p.2 c] at h;cases h.2) X rfl;simp at h;exact d _ ⟨i,true⟩ (λc=>by rw[u.2 c] at h;cases h.2) X rfl;intro t j;have H:=z t j.1;exact hn _ ⟨j.1,by simp only;omega⟩ (by simp only;omega)
structure PrL(g:Gr)(Ss:List Sch)(s:PSt):Prop where
 i:s.insts.length=Ss.length
 c:s.comps.length=g.n.length
 e:s.errs.length=Ss.length
 r:s.reached.length=Ss.length
def Zas{b S d}(e:∀x∈d,U7 x)(a)(c):Wp (EZ b S d a c) λ_=>True:=by
 unfold EZ;exact X1 (λ_=>(Mk S d e a c).mono λ_ _ _=>trivial) λ_=>(J6 S d e a c).mono λ_ _ _=>trivial
def WO(g:Gr)(h:Hop):Int:=bif h.back then((g.n[h.edge.toNat]?).map Edg.m).getD 0 else h.edge+1
def Fc(g:Gr)(h:Hop):Int:=bif h.back then h.edge+1 else((g.n[h.edge.toNat]?).map Edg.m).getD 0
structure TI(g:Gr)(v:Int)(Q:List Int)(H:List Hop):Prop where
 nd:Q.Nodup
 rng:∀u∈Q,0<=u/\u<=(g.n.length:Int)
 Zqi:Q=v::H.map (WO g)
 edge:∀h∈H,0<=h.edge/\h.edge<(g.n.length:Int)
 near:∀t h,H[t]?=some h->Fc g h∈Q.take (t+1)
 dist:(H.map Hop.edge).Nodup
structure TF(g:Gr)(v:Int)(H:List Hop):Prop where
 ti:TI g v (v::H.map (WO g)) H
 all:∀u:Nat,u<=g.n.length->(u:Int)∈v::H.map (WO g)
def TF.n{g}{v:Int}{H}(t:TF g v H){i:Nat}(k:i<g.n.length):∃h∈H,h.edge=i:=by
 refine Classical.byContradiction λe=>?_;have c:(ZZ (g.n.length+1)).length<=(v::H.map (WO g)).length:=List.Nodup.length_le_of_subset (by
  unfold ZZ List.Nodup;rw[Y05];exact List.pairwise_lt_range.imp λh=>X) λu a=>by
  simp only[ZZ,Yi,XV] at a;obtain⟨m,b,rfl⟩:=a;exact t.all m X
 rw[Cy] at c;simp only[YM,Yd] at c;have d:((i:Int)::H.map Hop.edge).length<=(ZZ g.n.length).length:=List.Nodup.length_le_of_subset (by
  refine XF.2 ⟨λf=>?_,t.ti.dist⟩;have⟨h,b,j⟩:=Yi.1 f;exact e ⟨h,b,j⟩) λu a=>by
  simp only[ZZ,Yi,XV];rcases Y5.1 a with rfl|a;exact⟨i,k,rfl⟩;obtain⟨h,b,rfl⟩:=Yi.1 a
  have:=t.ti.edge h b
  exact⟨h.edge.toNat,X,X⟩
 rw[Cy] at d;simp only[YM,Yd] at d;omega
def qs(g:Gr)(v:Int)(H:List Hop)(t:Nat):List Int:=(v::H.map (WO g)).take (t+1)
def I2(n:Int):aB GV:=
 some (GV.mk 1 n empty)
instance Zid(n:Int):Con (I2 n) prog 36 [.one (.d (.int .i64 n))] (λr=>.agg (r.z.map RC.d)):=by unfold I2;exact go 5 func36
def JX:aB Gr:=
 Z1 (I2 5) λv2=>some (Gr.mk (Sch.mk [(E.mk ({data:=#[116]}) [(Col.mk ({data:=#[105,100]}) 1 false),(Col.mk ({data:=#[110]}) 1 false)] [0])] [] []) [(Edg.mk 0 [(Stp.mk 1 ({data:=#[116]}) empty ({data:=#[120]}) empty 1 [] empty v2 (E.mk empty [] []) (Cons.mk empty 0 empty 0 (GV.mk 0 0 empty)) (Fk.mk empty [] empty))])])
instance Zgm  :Con (JX) prog 14 [] (λr=>.agg (r.z.map RC.d)):=by unfold JX;exact go 16 func14
instance Zhu(s_:Sch):Con (As s_) prog 37 [.agg s_.z] (λr=>.one (.d (.sl (r.map J.z)))):=⟨λr hm=>Ke s_ r hm⟩
def JZ(s_:Sch)(step:Stp):aB ((List J)×Int):=
 Z1 (Bx s_ step) λv3=>bif (v3.2.2 !=0) then some ([],v3.2.2) else Z1 (As v3.2.1) λv7=>some (v7,0)
instance Zgq(s_:Sch)(step:Stp):Con (JZ s_ step) prog 69 [.agg s_.z,.agg step.z] (λr=>.tup [.one (.d (.sl (r.1.map J.z))),.one (.d (.int .i64 r.2))]):=by unfold JZ;exact go 21 func69
def JQ(s_:Sch)(script:List Stp):aB ((List (List J))×Int):=
 Z1 (Bu s_ script) λv2=>bif (v2.2 !=0) then some ([],v2.2) else Zd (λ(i5:Nat) (x5:Stp) (s5:(List (List J))) next_5=>Za v2.1 (i5:Int) λx7=>Z1 (JZ x7 x5) λv8=>bif (v8.2 !=0) then some ([],v8.2) else Wn s5 [v8.1] λ_=>next_5 (s5++[v8.1])) (λ(s5:(List (List J)))=>some (s5,0)) script 0 []
instance Tg(s_:Sch)(script:List Stp):Con (JQ s_ script) prog 38 [.agg s_.z,.one (.d (.sl (script.map Stp.z)))] (λr=>.tup [.one (.d (.sl (r.1.map (Z7 J.z)))),.one (.d (.int .i64 r.2))]):=by
 unfold JQ;have l1:LH (σ:=(List (List J))) 24 [6,22,23] [.g 8 1 (λs=>s.map (Z7 J.z))]:=.intro;have p1:PH [8] (Y.qB aQ .done):=.intro;exact go 47 func38
def I3(g_:Gr):aB (Db×Int):=
 Z1 (Ar g_) λv3=>bif (v3.2 !=0) then some ((Db.mk [] []),v3.2) else Zd (λ(i7:Nat) (x7:Sch) (s7:(List (List J))) next_7=>Z1 (As x7) λv9=>Wn s7 [v9] λ_=>next_7 (s7++[v9])) (λ(s7:(List (List J)))=>Zd (λ(i13:Nat) (x13:Edg) (s13:(List (List (List J)))) next_13=>Za v3.1 x13.m λx15=>Z1 (JQ x15 x13.script) λv16=>bif (v16.2 !=0) then some ((Db.mk [] []),v16.2) else Wn s13 [v16.1] λ_=>next_13 (s13++[v16.1])) (λ(s13:(List (List (List J))))=>some ((Db.mk s7 s13),0)) g_.n 0 []) v3.1 0 []
def Z1y(g_:Gr)(r:Db×Int)(hm:Is (I3 g_) r):Zq prog 15 [.agg g_.z] (.tup [.agg (r.1.z.map RC.d),.one (.d (.int .i64 r.2))]):=by
 unfold I3 at hm;refine Zq.qM func15 rfl (by kernel_rfl) (n:=66) rfl rfl (by simp) ?_
 try simp[*]
 refine AC (av:=[.agg g_.z]) hm (λv hv=>Ns _ v hv) (by simp[*]) ?_;clear hm;intro v3 hvv3 hm
 try simp[*]
 refine ZP hm ?_ ?_<;>clear hm<;>intro hc4 hm
 .try simp[*]
  obtain rfl:=Zk hm;exact U0 (vs:=[_,_]) (by simp[*];try exact⟨rfl,rfl⟩) (by simp[*])
 .try simp[*]
  intro hl6;replace hl6:v3.1.length<=2097152:=by simpa using hl6
  refine Z6.for (xs:=v3.1) (s0:=[]) (λi7 s7 e7 h7=>∃c7_0:C,e7.n=66/\e7.get 1=.one (.ptr (0,16) 0)/\e7.get 2=.one (.ptr (1,32) 0)/\e7.get 4=.one (.d (.sl (v3.1.map Sch.z)))/\e7.get 6=.one (.ptr (3,96) 0)/\e7.get 22=.one (.d (.sl (v3.1.map Sch.z)))/\e7.get 23=.one (.d (.int .i64 (v3.1.length:Int)))/\e7.get 24=.one (.d (.int .i64 (i7:Int)))/\h7.a (0,16)=some [.d (.sl (g_.base.q.map E.z)),.d (.sl (g_.base.b.map Fk.z)),.d (.sl (g_.base.cons.map Cons.z)),.d (.sl (g_.n.map Edg.z))]/\h7.a (1,32)=some [.nil,.nil]/\h7.a (3,96)=some [c7_0,.nil]/\Zm h7 1 c7_0 (s7.map (Z7 J.z))) hm ⟨.nil,by simp(maxDischargeDepth:=20) [*]⟩ ?_ ?_
  .rintro i7 s7 e7 h7 ⟨c7_0,hn7,h7_1,h7_2,h7_4,h7_6,h7_22,h7_23,h7_24,hb7_b1,hb7_b2,hb7_b5,gc7_0⟩ hlt7 hm;have hlc7_0:=gc7_0.list;have hdc7_0:=gc7_0.toD;have hac7_0:=gc7_0.toA;have huc7_0:=gc7_0.qG;have hw7:IntKind.i64.wrap ((i7:Int)+1)=(i7:Int)+1:=Y6 _ (by omega)
   try simp[*]
   refine Z6.of (Wy.draw (Y.qB aN .done) follows (by kernel_rfl) ?_)
   try simp[*]
   refine AC (av:=[.agg (v3.1[i7]).z]) hm (λv hv=>Ke _ v hv) (by simp[*]) ?_;clear hm;intro v9 hvv9 hm
   try simp[*]
   try refine⟨λ(_:Z2) (_:aD) hl=>hl,?_⟩
   refine CK (xs:=s7) (ys:=[v9]) (enc:=(Z7 J.z)) hm CC (by first|exact Zm.nil|(simp(maxDischargeDepth:=20) [*];done)|(simp(maxDischargeDepth:=20) [*];refine⟨?_,by omega⟩;intro hq;subst hq;simp at hz2<;>omega)) (by simp[*]) (by decide) (by decide) (λ_=>rfl) ?_;clear hm;intro hl11 hm g10
   try simp[*]
   exact Zj.of (s7++[v9]) ⟨⟨.own (h7.p+3,528) ((s7++[v9]).map (Z7 J.z)),by simp(maxDischargeDepth:=20) [*]⟩,hm⟩
  .rintro s7 e7 h7 ⟨c7_0,hn7,h7_1,h7_2,h7_4,h7_6,h7_22,h7_23,h7_24,hb7_b1,hb7_b2,hb7_b5,gc7_0⟩ hm;have hlc7_0:=gc7_0.list;have hdc7_0:=gc7_0.toD;have hac7_0:=gc7_0.toA;have huc7_0:=gc7_0.qG
   try simp[*]
   intro hl12;replace hl12:g_.n.length<=2097152:=by simpa using hl12
   refine Z6.for (xs:=g_.n) (s0:=[]) (λi13 s13 e13 h13=>∃c13_bb5_0 c13_0:C,(e13.n=66/\e13.get 2=.one (.ptr (1,32) 0)/\e13.get 4=.one (.d (.sl (v3.1.map Sch.z)))/\e13.get 6=.one (.ptr (3,96) 0)/\e13.get 37=.one (.d (.sl (g_.n.map Edg.z)))/\e13.get 38=.one (.d (.int .i64 (g_.n.length:Int)))/\e13.get 39=.one (.d (.int .i64 (i13:Int)))/\h13.a (1,32)=some [.nil,.nil]/\h13.a (3,96)=some [c13_bb5_0,c13_0]/\Zm h13 1 c13_bb5_0 (s7.map (Z7 J.z))/\Zm h13 1 c13_0 (s13.map (Z7 (Z7 J.z))))/\WM c13_bb5_0 c13_0) hm ⟨c7_0,.nil,by simp(maxDischargeDepth:=20) [*],(by simp)⟩ ?_ ?_
   .rintro i13 s13 e13 h13 ⟨c13_bb5_0,c13_0,⟨hn13,h13_2,h13_4,h13_6,h13_37,h13_38,h13_39,hb13_b2,hb13_b5,gc13_bb5_0,gc13_0⟩,apc13_bb5_0_c13_0⟩ hlt13 hm;have hlc13_bb5_0:=gc13_bb5_0.list;have hdc13_bb5_0:=gc13_bb5_0.toD;have hac13_bb5_0:=gc13_bb5_0.toA;have huc13_bb5_0:=gc13_bb5_0.qG;have hlc13_0:=gc13_0.list;have hdc13_0:=gc13_0.toD;have hac13_0:=gc13_0.toA;have huc13_0:=gc13_0.qG;have hw13:IntKind.i64.wrap ((i13:Int)+1)=(i13:Int)+1:=Y6 _ (by omega)
    try simp[*]
    refine Z6.of (Wy.draw (Y.qB aI .done) follows (by kernel_rfl) ?_)
    try simp[*]
    replace hm:=hm.get;obtain⟨x15,h0x15,hxx15,hm⟩:=hm
    try simp[*]
    refine AC (av:=[.agg x15.z,.one (.d (.sl ((g_.n[i13].script).map Stp.z)))]) hm (λv hv=>Tg _ _ v hv) (by simp[*]) ?_;clear hm;intro v16 hvv16 hm
    try simp[*]
    try refine⟨λ(_:Z2) (_:aD) hl=>hl,?_⟩
    refine ZP hm ?_ ?_<;>clear hm<;>intro hc17 hm
    .try simp[*]
     obtain rfl:=Zk hm;exact U0 (vs:=[_,_]) (by simp[*];try exact⟨rfl,rfl⟩) (by simp[*])
    .try simp[*]
     refine CK (xs:=s13) (ys:=[v16.1]) (enc:=(Z7 (Z7 J.z))) hm IP (by first|exact Zm.nil|(simp(maxDischargeDepth:=20) [*];done)|(simp(maxDischargeDepth:=20) [*];refine⟨?_,by omega⟩;intro hq;subst hq;simp at hz2<;>omega)) (by simp[*]) (by decide) (by decide) (λ_=>rfl) ?_;clear hm;intro hl19 hm g18
     try simp[*]
     exact Zj.of (s13++[v16.1]) ⟨⟨c13_bb5_0,.own (h13.p+3,992) ((s13++[v16.1]).map (Z7 (Z7 J.z))),by simp(maxDischargeDepth:=20) [*],(by first|(simp[*];done)|exact(gc13_bb5_0.apart (by simp)).symm)⟩,hm⟩
   .rintro s13 e13 h13 ⟨c13_bb5_0,c13_0,⟨hn13,h13_2,h13_4,h13_6,h13_37,h13_38,h13_39,hb13_b2,hb13_b5,gc13_bb5_0,gc13_0⟩,apc13_bb5_0_c13_0⟩ hm;have hlc13_bb5_0:=gc13_bb5_0.list;have hdc13_bb5_0:=gc13_bb5_0.toD;have hac13_bb5_0:=gc13_bb5_0.toA;have huc13_bb5_0:=gc13_bb5_0.qG;have hlc13_0:=gc13_0.list;have hdc13_0:=gc13_0.toD;have hac13_0:=gc13_0.toA;have huc13_0:=gc13_0.qG
    try simp[*]
    obtain rfl:=Zk hm;exact U0 (vs:=[_,_]) (by simp[*];try exact⟨rfl,rfl⟩) (by simp[*])
instance Zib(g_:Gr):Con (I3 g_) prog 15 [.agg g_.z] (λr=>.tup [.agg (r.1.z.map RC.d),.one (.d (.int .i64 r.2))]):=⟨λr hm=>Z1y g_ r hm⟩
def I0(l:List Int):aB (aE):=
 Zd (λ(i2:Nat) (x2:Int) (s2:aE) next_2=>Z1 (I2 x2) λv3=>Wn s2 [v3] λ_=>next_2 (s2++[v3])) (λ(s2:aE)=>some s2) l 0 []
instance Zi5(l:List Int):Con (I0 l) prog 19 [.one (.d (.sl (l.map Zg)))] (λr=>.one (.d (.sl (r.map GV.z)))):=by
 unfold I0;have l1:LH (σ:=aE) 8 [6,7] [.g 3 3 (λs=>s.map GV.z)]:=.intro;exact go 19 func19
def K6(l:List Int):aB Chg:=
 Z1 (I0 l) λv2=>some (Chg.mk 1 ({data:=#[116]}) [] v2)
instance Zhq(l:List Int):Con (K6 l) prog 16 [.one (.d (.sl (l.map Zg)))] (λr=>.agg (r.z.map RC.d)):=by unfold K6;exact go 6 func16
def Ex(g_:Gr)(db:Db)(v_:Int):aB ((List J)×Int):=
 Z1 (C0 g_ db) λv3=>bif (v3 !=0) then some ([],v3) else bif decide (v_<0) then some ([],4) else bif decide ((db.insts.length:Int)<=v_) then some ([],4) else Za db.insts v_ λx8=>Z1 (Vw x8) λv9=>some (v9,0)
instance Zi6(g_:Gr)(db:Db)(v_:Int):Con (Ex g_ db v_) prog 17 [.agg g_.z,.agg db.z,.one (.d (.int .i64 v_))] (λr=>.tup [.one (.d (.sl (r.1.map J.z))),.one (.d (.int .i64 r.2))]):=by unfold Ex;exact go 30 func17
def FP(a:aE)(b:aE):aB Bool:=
 bif ((a.length:Int) !=(b.length:Int)) then some false else Zd (λ(i5:Nat) (x5:GV) (s5:Unit) next_5=>Za b (i5:Int) λx6=>bif (!(x5.g==x6.g)||(!(x5.int==x6.int)||(!(x5.text==x6.text)))) then some false else next_5 ()) (λ(s5:Unit)=>some true) a 0 ()
instance Zhc(a:aE)(b:aE):Con (FP a b) prog 40 [.one (.d (.sl (a.map GV.z))),.one (.d (.sl (b.map GV.z)))] (λr=>.one (.d (.bool r))):=by unfold FP;have l1:LH (σ:=Unit) 13 [0,1,12] []:=.intro;have p1:PH [6] (Y.qB aG .done):=.intro;exact go 26 func40
def Ed(a:List aE)(b:List aE):aB Bool:=
 bif ((a.length:Int) !=(b.length:Int)) then some false else Zd (λ(i5:Nat) (x5:aE) (s5:Unit) next_5=>Za b (i5:Int) λx6=>Z1 (FP x5 x6) λv7=>bif !v7 then some false else next_5 ()) (λ(s5:Unit)=>some true) a 0 ()
instance Zh3(a:List aE)(b:List aE):Con (Ed a b) prog 18 [.one (.d (.sl (a.map (Z7 GV.z)))),.one (.d (.sl (b.map (Z7 GV.z))))] (λr=>.one (.d (.bool r))):=by unfold Ed;have l1:LH (σ:=Unit) 13 [0,1,12] []:=.intro;have p1:PH [6] (Y.qB aJ .done):=.intro;exact go 27 func18
instance Zhv(g_:Gr)(db:Db)(v_:Int)(changes:List Chg):Con (Di g_ db v_ changes) prog 24 [.agg g_.z,.agg db.z,.one (.d (.int .i64 v_)),.one (.d (.sl (changes.map Chg.z)))] (λr=>.tup [.agg (r.1.z.map RC.d),.one (.d (.sl (r.2.1.map Zg))),.one (.d (.int .i64 r.2.2))]):=⟨λr hm=>Z1d g_ db v_ changes r hm⟩
def Bv(g_:Gr)(db:Db)(v_:Int)(changes:List Chg):aB (Db×Int×Int):=
 Z1 (Di g_ db v_ changes) λv4=>bif (v4.2.2 !=0) then some ((Db.mk [] []),0,v4.2.2) else Zd (λ(i8:Nat) (x8:Int) (s8:Unit) next_8=>bif (x8 !=0) then some ((Db.mk [] []),(i8:Int),x8) else next_8 ()) (λ(s8:Unit)=>some (v4.1,0,0)) v4.2.1 0 ()
instance Zhz(g_:Gr)(db:Db)(v_:Int)(changes:List Chg):Con (Bv g_ db v_ changes) prog 8 [.agg g_.z,.agg db.z,.one (.d (.int .i64 v_)),.one (.d (.sl (changes.map Chg.z)))] (λr=>.tup [.agg (r.1.z.map RC.d),.one (.d (.int .i64 r.2.1)),.one (.d (.int .i64 r.2.2))]):=by unfold Bv;have l1:LH (σ:=Unit) 31 [8,11,29,30] []:=.intro;exact go 43 func8
def UC:aB Bool:=
 Z1 (JX) λv1=>Z1 (I3 v1) λv3=>bif (v3.2 !=0) then some false else Z1 (K6 [1,2]) λv6=>Z1 (Bv v1 v3.1 0 [v6]) λv7=>bif (v7.2.2 !=0) then some false else Z1 (Ex v1 v7.1 1) λv9=>bif (v9.2==0) then bif ((v9.1.length:Int)==1) then Za v9.1 0 λx13=>(Z1 (I0 [1,2,5]) λv14=>Z1 (Ed x13.rows [v14]) λv15=>some v15) else(some false) else some false
instance Zga  :Con (UC) prog 5 [] (λr=>.one (.d (.bool r))):=by unfold UC;have p1:PH [5] (Y.qB aV .done):=.intro;have p2:PH [9] (Y.qB aP .done):=.intro;exact go 48 func5
instance Zge(slices:List (List (List J))):Con (FC slices) prog 20 [.one (.d (.sl (slices.map (Z7 (Z7 J.z)))))] (λr=>.one (.d (.sl (r.map (Z7 J.z))))):=⟨λr hm=>To slices r hm⟩
def Hs(s_:List J)(f:J->aB Bool):aB Int:=
 Zd (λ(i2:Nat) (x2:J) (s2:Unit) next_2=>Z1 (f x2) λv3=>bif v3 then some (i2:Int) else next_2 ()) (λ(s2:Unit)=>some (-1)) s_ 0 ()
instance Zfx(s_:List J)(f:J->aB Bool){g:FuncId}{caps:List aC}[ConF f prog (λx=>.agg x.z) (λv=>.one (.d (.bool v))) g caps]:Con (Hs s_ f) prog 42 [.one (.d (.sl (s_.map J.z))),.one (.fn g caps)] (λr=>.one (.d (.int .i64 r))):=by unfold Hs;have l1:LH (σ:=Unit) 8 [0,1,7] []:=.intro;exact go 19 func42
def Ho(s_:List J)(f:J->aB Bool):aB Bool:=
 Z1 (Hs s_ f) λv1=>some (decide (0<=v1))
instance Zfm(s_:List J)(f:J->aB Bool){g:FuncId}{caps:List aC}[ConF f prog (λx=>.agg x.z) (λv=>.one (.d (.bool v))) g caps]:Con (Ho s_ f) prog 21 [.one (.d (.sl (s_.map J.z))),.one (.fn g caps)] (λr=>.one (.d (.bool r))):=by unfold Ho;exact go 9 func21
def HL(r_:J):aB Bool:=
 some (decide (40<(r_.rows.length:Int)))
instance TV(r_:J):Con (HL r_) prog 22 [.agg r_.z] (λr=>.one (.d (.bool r))):=by unfold HL;exact go 7 func22
instance Zgt  :ConF (λx=>HL x) prog (λx=>.agg x.z) (λr=>.one (.d (.bool r))) 22 []:=⟨λx=>(TV x)⟩
def Dd(g_:Gr)(db:Db)(changes:List Chg):aB Bool:=
 bif decide (8<(g_.n.length:Int)) then some false else bif decide (9<(db.insts.length:Int)) then some false else bif decide (9<(db.comps.length:Int)) then some false else bif decide (50<(changes.length:Int)) then some false else Z1 (FC db.comps) λv11=>Z1 (FC [v11,db.insts]) λv12=>Zd (λ(i14:Nat) (x14:List J) (s14:Unit) next_14=>bif decide (20<(x14.length:Int)) then some false else Z1 (Ho x14 (λxa_=>HL xa_)) λv17=>bif v17 then some false else next_14 ()) (λ(s14:Unit)=>some true) v12 0 ()
instance Zhd(g_:Gr)(db:Db)(changes:List Chg):Con (Dd g_ db changes) prog 6 [.agg g_.z,.agg db.z,.one (.d (.sl (changes.map Chg.z)))] (λr=>.one (.d (.bool r))):=by unfold Dd;have l1:LH (σ:=Unit) 38 [36,37] []:=.intro;have p1:PH [3] (Y.qB [0,1,3,4,8,2,5,6,7] .done):=.intro;exact go 50 func6
set_option maxRecDepth 100000 in
def NY:UC=some true:=by decide+kernel
def Pi{α:Type}{f:α->aB Bool}:∀(a:List α) (i:Nat),(∀x∈a,∃b,f x=some b)->Wp (Zd (λ(i:Nat) (x:α) (s:Unit) next=>Z1 (f x) λv=>bif v then some (i:Int) else next ()) (λ_=>some (-1)) a i ()) λ_=>True
 |[],i,_=>X2 trivial
 |x::a,i,h=>by
   have⟨b,c⟩:=h x I;have e:=Pi a (i+1) λy d=>h y (by simp[d]);show Wp (Z1 (f x) _) _;rw[c];cases b;exact e;exact X2 trivial
def Z3y(g:Gr)(a:Db)(c:List Chg)(d:a.comps.flatten.length+a.insts.length<=2097152):Wp (Dd g a c) λ_=>True:=by
 unfold Dd FC;refine X1 (λ_=>X2 trivial) λ_=>X1 (λ_=>X2 trivial) λ_=>X1 (λ_=>X2 trivial) λ_=>X1 (λ_=>X2 trivial) λ_=>?_;refine X0 (R:=λv=>v=a.comps.flatten) (X4 X (X2 rfl)) λv _ b=>?_;subst b;refine X0 (R:=λ_=>True) (X4 (by simp only[XC,Y3t,Ym,Ye];exact d) (X2 trivial)) λv _ b=>?_;refine X6 (λ_ _=>True) trivial ?_ λ_ _=>X2 trivial;intro i x s next _ _ _ e
 refine X1 (λ_=>X2 trivial) λ_=>X0 (R:=λ_=>True) ?_ λ_ _ _=>X1 (λ_=>X2 trivial) λ_=>e () trivial;unfold Ho Hs;exact X0 (Pi x 0 λr _=>⟨_,rfl⟩) λ_ _ _=>X2 trivial
def Z75{g b}(e:Ar g=some (b,0)){v:Int}(d:0<=v){S}(c:b[v.toNat]?=some S):Dh g v=some (S,0):=by
 have h1:=(Y0.1 c).1;refine Ww ?_;unfold Dh;refine Xb e ?_;refine X9 rfl<|X9 sO<|X9 sO<|X3 d (by simp only;omega) λT a _=>X2 ?_;simp only at a;rw[c] at a;cases a;rfl
def fe:Nat->List Int->aB (Int×Int)
 |_,[]=>none
 |i,x::xs=>bif x !=0 then some (i,x) else fe (i+1) xs
def RK{ρ:Type}{A:Int->Int->aB ρ}{B:aB ρ}:∀(a:List Int) (i:Nat),Zd (λ(i:Nat) (x:Int) (_:Unit) next=>bif x !=0 then A (i:Int) x else next ()) (λ_=>B) a i ()=match fe i a with
  |some q=>A q.1 q.2
  |none=>B
 |[],_=>rfl
 |x::a,i=>by
   have b:=RK (A:=A) (B:=B) a (i+1);show(bif x !=0 then A (i:Int) x else Zd _ _ a (i+1) ())=_;unfold fe;cases h:x !=0 with
   |true=>simp
   |false=>simp only[cond_false];exact b
def Rc:∀{a:List Int} {i:Nat} {q:Int×Int},fe i a=some q->q.2≠0
 |[],_,_,h=>by cases h
 |x::a,i,q,h=>by
   unfold fe at h;cases hx:x !=0 with
   |true=>rw[hx] at h;cases h;simpa using hx
   |false=>rw[hx] at h;exact Rc h
def Re:∀{a:List Int} {i:Nat},fe i a=none->∀x∈a,x=0
 |[],_,_,_,h=>by cases h
 |x::a,i,h,y,hy=>by
   unfold fe at h;cases hx:x !=0 with
   |true=>rw[hx] at h;cases h
   |false=>?_
   rw[hx] at h;rcases Y5.1 hy with rfl|hy;simpa using hx;exact Re h y hy
def Z87{g:Gr}{b:Db}{v:Int}{a:List Chg}{p:Db×List Int×Int}(h:Di g b v a=some p):Bv g b v a=some (bif p.2.2 !=0 then(⟨[],[]⟩,0,p.2.2) else match fe 0 p.2.1 with
  |some q=>(⟨[],[]⟩,q.1,q.2)
  |none=>(p.1,0,0)):=by
 unfold Bv;rw[h];show(bif p.2.2 !=0 then _ else _)=_;cases hp:p.2.2 !=0 with
 |true=>rfl
 |false=>?_
 simp only[cond_false];rw[RK (A:=λk e=>some ((⟨[],[]⟩:Db),k,e))];cases fe 0 p.2.1<;>rfl
end
section
open Classical in
def Zp0{T:E}{c:List Z8}{r:Z8}{a b n:List Z8}(d:Mid T c (Z3 T r) a b n)(l:Wv T c)(κ:aE):ZR (Z3 T) (a++r::b) κ=if Z3 T r=κ then some r else ZR (Z3 T) c κ:=by
 have g:=d.put l rfl;by_cases h:Z3 T r=κ;rw[if_pos h,<-h];exact Z7i g I;rw[if_neg h];cases hz:ZR (Z3 T) c κ with|none=>?_|some z=>?_;have f:=Cs.1 hz;refine Cs.2 λz k=>?_;rcases Y3.1 k with h1|h1;exact f z (by rw[d.eq];simp[h1]);rcases Y5.1 h1 with rfl|h2;exact h;exact f z (by rw[d.eq];simp[h2]);have⟨i,j⟩:=Ut hz
 have:z∈a++r::b:=by rw[d.eq] at i;rcases Y3.1 i with h1|h1;simp[h1];rcases Y3.1 h1 with h2|h2;rcases d.os with e|⟨o,e,m⟩;rw[e] at h2;cases h2;rw[e,Yj] at h2;subst h2;exact absurd (m.symm.trans j) h;simp[h2]
 rw[<-j];exact Z7i g this
end
section
def E6(a:List J)(b:List J):aB Bool:=
 bif ((a.length:Int) !=(b.length:Int)) then some false else Zd (λ(i5:Nat) (x5:J) (s5:Unit) next_5=>Za b (i5:Int) λx6=>bif !(Z9 x5.u x6.u) then some false else Z1 (Ed x5.rows x6.rows) λv8=>bif !v8 then some false else next_5 ()) (λ(s5:Unit)=>some true) a 0 ()
instance Zgf(a:List J)(b:List J):Con (E6 a b) prog 12 [.one (.d (.sl (a.map J.z))),.one (.d (.sl (b.map J.z)))] (λr=>.one (.d (.bool r))):=by unfold E6;have l1:LH (σ:=Unit) 13 [0,1,12] []:=.intro;have p1:PH [6] (Y.qB [0,1,2,3,4,5,6,7,8,9,10,11,12,13,14,15,16,17,18,19,20,21,22,23,24] .done):=.intro;exact go 42 func12
structure PrU(insts:List (List J))(s:PSt):Prop where
 same:∀u:Nat,s.reached[u]?=some false->s.insts[u]?=insts[u]?
def Zrj{g h}(R:F6 g)(o:VerOK g h)(x:Ar g=some (h,0)){v:Int}(A:0<=v)(B:v<h.length){b d}(O:b.length=h.length)(M:d.length=g.n.length):
  Wp (FM g h b d v) λs=>PrL g h s/\PrU b s/\s.reached[v.toNat]?=some true:=by
 have hl:=o.len;unfold FM;refine X4 ⟨A,B⟩ (X0 (Zrp o x A B) λT _ L=>X6 (λ_ s=>PrL g h s/\PrU b s/\s.reached[v.toNat]?=some true) ⟨⟨O,M,I,I⟩,⟨λu _=>rfl⟩,by simp only;rw[Yr (by rw[Xi];omega)]⟩ ?_ λs x=>X2 x);intro k t s next _ P p m
 have w:=L t P;refine X3 w.1 w.2 λe N G=>X4 (by simp only[Wm];have:=o.l7;omega) ?_;have Q:=o.n _ e N;have E:=p.1.i;have C:=p.1.c;have D:=p.1.e;have F:=p.1.r;have l:∀n f:Int,0<=n->n<h.length->0<=f->f<h.length->Wp (H3 h e t n f s next) _:=λn f q ah H ag=>by
  have y:∀(i:List (List J)),(∀u:Nat,u≠f.toNat->i[u]?=s.insts[u]?)->∀u:Nat,(s.reached.set f.toNat true)[u]?=some false->i[u]?=b[u]?:=λi K u j=>by by_cases hq:u=f.toNat;subst hq;rw[Yr X] at j;cases j;rw[Ys X] at j;rw[K u hq];exact p.2.1.same u j
  have z:(s.reached.set f.toNat true)[v.toNat]?=some true:=by by_cases hq:f.toNat=v.toNat;rw[hq,Yr X];rw[Ys hq];exact p.2.2
  unfold H3;refine X3 q X λrn _ _=>X1 (λ_=>m s p) λ_=>X3 q X λen _ _=>X1 (λ_=>m s p) λ_=>X4 ⟨H,X,X⟩ ?_;refine X3 Q.1 X λS _ _=>X3 q X λa _ _=>X3 w.1 X λc _ _=>X0 (Zas (R e G) a c) λr _ _=>X1 (λ_=>X4 X (m _ ⟨⟨by simp[E],by simp[C],by simp[D],by simp[F]⟩,⟨y _ λu j=>by simp only;rw[Ys X]⟩,z⟩)) λ_=>m _ ⟨⟨E,C,by simp[D],by simp[F]⟩,⟨y _ λu j=>rfl⟩,z⟩
 cases t.back with
 |true=>exact l _ _ sO sO sO sO
 |false=>exact l _ _ sO sO sO sO
def Ztb{g:Gr}(D:F6 g)(H:Db)(v:Int)(O:List Chg):Wp (Di g H v O) λq=>q.2.2=0->(∀e∈q.2.1,e=0)->∃f,DbV g H f/\q.1.insts.length=f.length/\(0<=v/\v<f.length)/\∀(u:Nat) S x,f[u]?=some S->q.1.insts[u]?=some x->CF S x/\VE S x=some 0:=by
 unfold Di;refine X0 (Z2l D H) λe _ he=>X1 (λh=>X2 λQ=>by simp only at Q;rw[Q] at h;cases h) λh=>?_;obtain⟨f,d⟩:=he (by simpa using h);have hl:=d.ver.len;have h7:=d.ver.l7;have ak:=d.li;refine X7 λC=>?_;have o:0<=v/\v<f.length:=by simp at C;omega
 refine X0 (Wb d.sch) λq _ hq=>?_;subst hq;refine X3 o.1 o.2 λS _ B=>X3 o.1 X λz _ _=>X0 (Z3x (d.ver.vs S B) z O) λr _ _=>X1 (λC=>X2 λ_ k=>?_) λ_=>?_;exfalso;have M:r.2∈(List.replicate f.length (0:Int)).set v.toNat r.2:=Y2 (by rw[Yr (by rw[Xi];omega)])
 have:=k _ M
 rw[this] at C;cases C;refine X4 d.ok (X0 (Zrj D d.ver d.sch o.1 o.2 (by simp[ak]) d.lc) λs _ p=>?_);have pi:=p.1.i;have pe:=p.1.e;have pr:=p.1.r;refine X6 (λi t=>t.1.length=f.length/\(t.2=true->∃(j:Nat) (e:Int),j<i/\t.1[j]?=some e/\e≠0)/\(t.2=false->∀(j:Nat) S x,j<i->f[j]?=some S->s.insts[j]?=some x->CF S x/\VE S x=some 0)) ⟨pe,I,λ_ j S x n=>absurd n (XB _)⟩ ?_ ?_
 .intro i S2 t next y M m R
  have hi:i<f.length:=(Y0.1 y).1;refine X3 X X λru w _=>X3 X X λP Z _=>X1 (λL=>X3 X X λT F _=>X0 (O8 (d.ver.vs S2 M) T) λe9 _ V=>R _ ⟨by simp[m.1],λc=>?_,λc=>?_⟩) λL=>R _ ⟨m.1,λc=>?_,λc=>?_⟩;cases h2:t.2 with|true=>?_|false=>?_;obtain⟨j,J,n,G,l⟩:=m.2.1 h2;exact⟨j,J,X,by simp;rw[Ys X];exact G,l⟩;simp only[h2] at c;exact⟨i,e9,X,by simp only[Yn];rw[Yr X],by simpa using c⟩;simp only[Y38] at c;intro j A E n b a;rcases Yx j i with h9|h9;exact m.2.2 c.1 j A E h9 b a;obtain rfl:j=i:=X
  rw[y] at b;cases b;have F:s.insts[j]?=some T:=by simpa using F
  rw[F] at a;cases a;exact V (by simpa using c.2);cases h2:t.2 with|true=>?_|false=>?_;obtain⟨j,J,n,G,l⟩:=m.2.1 h2;exact⟨j,J,X,G,l⟩;simp only[h2] at c;exact⟨i,P,X,by simpa using Z,by simpa using c⟩;simp only[Y38] at c;intro j A E n b a;rcases Yx j i with h9|h9;exact m.2.2 c.1 j A E h9 b a;obtain rfl:j=i:=X
  have Y:(P==0)=true:=by simpa using c.2
  rw[Y] at L;have U:ru=false:=by simpa using L
  subst U;have w:s.reached[j]?=some false:=by simpa using w
  have N:=p.2.1.same j w;have W:v.toNat≠j:=λh8=>by rw[h8] at p;rw[p.2.2] at w;cases w
  rw[Ys W] at N;rw[N] at a;exact(d.inst j A E b a).2
 intro t m;refine X1 (λK=>X2 λ_ k=>?_) λK=>X2 λ_ _=>⟨f,d,pi,o,λu S x B D=>m.2.2 K u S x (Y0.1 B).1 B D⟩;obtain⟨j,e,-,n,l⟩:=m.2.1 K;exact absurd (k e (Y2 n)) l
def Zqr{g:Gr}(f:F6 g)(c:Db)(v:Int)(d:List Chg):Wp (Bv g c v d) λq=>(q.2.2=0->∃b,DbV g c b/\q.1.insts.length=b.length/\(0<=v/\v<b.length)/\∀(u:Nat) S x,b[u]?=some S->q.1.insts[u]?=some x->CF S x/\VE S x=some 0)/\(q.2.2≠0->q.1=⟨[],[]⟩):=by
 obtain⟨p,e,h⟩:=Ztb f c v d;refine⟨_,Z87 e,?_⟩;cases h0:p.2.2 !=0 with
 |true=>exact⟨(λa=>by simp only[cond_true] at a;rw[a] at h0;cases h0),λ_=>rfl⟩
 |false=>?_
 simp only[cond_false];cases hf:fe 0 p.2.1 with
 |some q=>exact⟨λa=>absurd a (Rc hf),λ_=>rfl⟩
 |none=>exact⟨λ_=>h (by simpa using h0) (Re hf),λa=>absurd rfl a⟩
def Ztc(x y:aE):Wp (FP x y) λr=>r=true↔x=y:=EO x y
def Zso(x y:List aE):Wp (Ed x y) λr=>r=true↔x=y:=My Ztc
def Zsp(a b:List J):Wp (E6 a b) λr=>r=true↔a=b:=by
 unfold E6;refine X1 (λh=>X2 ?_) λh=>?_
 have:a.length≠b.length:=by simp at h;omega
 simp only[YX,false_iff];exact λc=>this (by rw[c]);have q:a.length=b.length:=by simp at h;omega
 refine X6 (λi _=>a.take i=b.take i) rfl ?_ λs d=>X2 ?_
 .intro i x s next u hm d t
  obtain⟨p,j⟩:=Y0.1 u;have o:b[i]?=some b[i]:=Y1 X;have g:x≠b[i]->a≠b:=λn c=>n (by rw[<-j];simp[c]);refine X5 o (X1 (λh=>X2 ?_) λh=>X0 (Zso x.rows b[i].rows) λv _ k=>X1 (λh=>X2 ?_) λm=>t () ?_);simp only[YX,false_iff];refine g λc=>?_;rw[c,ED] at h;cases h;simp only[YX,false_iff];refine g λc=>?_;rw[k.2 (by rw[c])] at h;cases h;have e:=ZD.1 (show Z9 x.u b[i].u=true by simpa using h);have f:=k.1 (by simpa using m);have l:x=b[i]:=by cases hq:b[i];rw[hq] at e f;cases x;simp at e f;rw[e,f]
  rw[Yg p,Yg (X:i<b.length),d,j,l]
 rw[Yl,q,Yl] at d;simp[d]
set_option maxHeartbeats 4000000
def Zpz(t:E)(a:List aE)(b:List aE):aB ((List Chg)):=
 AB (λ(s2:(List aE)×(List Chg)×(List aE)) next_2=>Zp (Wm ((s2.2.2.length:Int)+(s2.1.length:Int))) (bif decide (0<((s2.2.2.length:Int)+(s2.1.length:Int))) then bif ((s2.2.2.length:Int)==0) then Za s2.1 0 λx9=>(Z1 (Ee x9) λv10=>Wn s2.2.1 [(Chg.mk 1 t.y [] v10)] λ_=>Zp (0<=1/\1<=(s2.1.length:Int)/\(s2.1.length:Int)<=(s2.1.length:Int)) (next_2 (((s2.1.take s2.1.length).drop 1),(s2.2.1++[(Chg.mk 1 t.y [] v10)]),s2.2.2))) else(bif ((s2.1.length:Int)==0) then Za s2.2.2 0 λx16=>(Z1 (VU t x16) λv17=>Wn s2.2.1 [(Chg.mk 2 t.y v17 [])] λ_=>Zp (0<=1/\1<=(s2.2.2.length:Int)/\(s2.2.2.length:Int)<=(s2.2.2.length:Int)) (next_2 (s2.1,(s2.2.1++[(Chg.mk 2 t.y v17 [])]),((s2.2.2.take s2.2.2.length).drop 1)))) else Za s2.2.2 0 λx21=>Za s2.1 0 λx22=>Z1 (VU t x21) λv23=>Z1 (VU t x22) λv24=>Z1 (Eh v23 v24) λv25=>bif decide (v25<0) then Z1 (VU t x21) λv27=>(Wn s2.2.1 [(Chg.mk 2 t.y v27 [])] λ_=>Zp (0<=1/\1<=(s2.2.2.length:Int)/\(s2.2.2.length:Int)<=(s2.2.2.length:Int)) (next_2 (s2.1,(s2.2.1++[(Chg.mk 2 t.y v27 [])]),((s2.2.2.take s2.2.2.length).drop 1)))) else bif decide (0<v25) then Z1 (Ee x22) λv32=>(Wn s2.2.1 [(Chg.mk 1 t.y [] v32)] λ_=>Zp (0<=1/\1<=(s2.1.length:Int)/\(s2.1.length:Int)<=(s2.1.length:Int)) (next_2 (((s2.1.take s2.1.length).drop 1),(s2.2.1++[(Chg.mk 1 t.y [] v32)]),s2.2.2))) else Z1 (BY x21 x22) λv36=>bif !v36 then Z1 (Ee x22) λv38=>(Wn s2.2.1 [(Chg.mk 1 t.y [] v38)] λ_=>Zp (0<=1/\1<=(s2.2.2.length:Int)/\(s2.2.2.length:Int)<=(s2.2.2.length:Int)) (Zp (0<=1/\1<=(s2.1.length:Int)/\(s2.1.length:Int)<=(s2.1.length:Int)) (next_2 (((s2.1.take s2.1.length).drop 1),(s2.2.1++[(Chg.mk 1 t.y [] v38)]),((s2.2.2.take s2.2.2.length).drop 1))))) else Zp (0<=1/\1<=(s2.2.2.length:Int)/\(s2.2.2.length:Int)<=(s2.2.2.length:Int)) (Zp (0<=1/\1<=(s2.1.length:Int)/\(s2.1.length:Int)<=(s2.1.length:Int)) (next_2 (((s2.1.take s2.1.length).drop 1),s2.2.1,((s2.2.2.take s2.2.2.length).drop 1))))) else some s2.2.1)) Fp (b,[],a)
instance Zvc(t:E)(a:List aE)(b:List aE):Con (Zpz t a b) prog 43 [.agg t.z,.one (.d (.sl (a.map (Z7 GV.z)))),.one (.d (.sl (b.map (Z7 GV.z))))] (λr=>.one (.d (.sl (r.map Chg.z)))):=by
 unfold Zpz;have l1:LH (σ:=(List aE)×(List Chg)×(List aE)) 0 [3] [.d 2 (λs=>.sl (s.1.map (Z7 GV.z))),.g 7 4 (λs=>s.2.1.map Chg.z),.d 1 (λs=>.sl (s.2.2.map (Z7 GV.z)))]:=.intro;have p1:PH [10,16] (Y.qB aQ .done):=.intro;have p2:PH [13] (Y.qB aV .done):=.intro;have p3:PH [4] (Y.qB [0,1,2,3,5,6,7,8,4,9,10,11] .done):=.intro;have p4:PH [9] (Y.qB aN .done):=.intro;have p5:PH [11] (Y.qB aK .done):=.intro;exact go 88 func43
def two(a b:List J):List (List J):=[a,b]
def Zpp(S:Sch)(a b:List J):aB (List Chg×Int):=
 Z1 (UE S) λf=>bif f !=0 then some ([],f) else Zd (λ(_:Nat) (j:List J) (s5:Unit) next_5=>Z1 (VE S j) λg=>bif g !=0 then some ([],g) else next_5 ()) (λ(_:Unit)=>Zd (λ(e:Nat) (k:E) (c:List Chg) next_9=>Za a (e:Int) λh=>Za b (e:Int) λi=>Z1 (Zpz k h.rows i.rows) λd=>Wn c d λ_=>next_9 (c++d)) (λ(c:List Chg)=>some (c,0)) S.q 0 []) (two a b) 0 ()
theorem Zrh(S:Sch)(a b:List J):Con (Zpp S a b) prog 23 [.agg S.z,.l (a.map J.z),.l (b.map J.z)] (λr=>.tup [.l (r.1.map Chg.z),.i r.2]):=by
 unfold Zpp;have l1:LH (σ:=Unit) 24 [1,2,3,22,23] []:=.intro;have l2:LH (σ:=(List Chg)) 38 [1,2,36,37] [.g 12 4 (λs=>s.map Chg.z)]:=.intro;have p1:PH [15] (Y.qB aX .done):=.intro;have q1:(two a b).length<=Zz:=by simp[two]
 have q2:∀(i:Nat) (h:i<(two a b).length),[[D.sl (List.map J.z a)],[D.sl (List.map J.z b)]][i]?=some [D.sl (List.map J.z (two a b)[i])]:=λi h=>by
  match i,h with
  |0,_=>rfl
  |1,_=>rfl
  |n+2,h=>simp[two] at h;omega
 have q3:∀i:Nat,i<(two a b).length->(i:Int)<2:=λi h=>by simp[two] at h;omega
 have q4:((two a b).length:Int)=2:=rfl;exact go 59 func23
def Zri(S:Sch)(a b:List J)(r:List Chg×Int)(c:Is (Zpp S a b) r):Zq prog 23 [.agg S.z,.l (a.map J.z),.l (b.map J.z)] (.tup [.l (r.1.map Chg.z),.i r.2]):=(Zrh S a b).h r c
end
end Go.Am
section
namespace Go.Am
variable{α:Type}{kd:α->Int}
def kk(kd:α->Int)(a:List α)(i:Nat):Int:=((a[i]?).map kd).getD 0
def Zph{a:List α}{i:Nat}{x}(h:a[i]?=some x):kk kd a i=kd x:=by unfold kk;rw[h];rfl
def Zrd(kd:α->Int)(a b:List α):Prop:=∀κ,a.filter (λx=>kd x==κ)=b.filter (λx=>kd x==κ)
def Zqy:∀{us:List α} {j:Nat} {x y:α},us[j+1]?=some x->us[j]?=some y->kd x≠kd y->Zrd kd ((us.set (j+1) y).set j x) us
 |[],j,_,_,h,_,_=>by simp at h
 |[_],j,_,_,h,_,_=>by simp at h
 |a::b::us,0,x,y,h,c,hne=>λκ=>by
   simp at h c;subst h c;simp only[List.set_cons_succ,List.set_cons_zero,XG];by_cases h1:kd b=κ
   have:¬kd a=κ:=λh=>hne (h1.trans h.symm)
   simp[h1,this];simp[h1]
 |a::us,j+1,x,y,h,c,hne=>λκ=>by have d:=Zqy (us:=us) (j:=j) (x:=x) (y:=y) (by simpa using h) (by simpa using c) hne κ;simp only[List.set_cons_succ,XG];rw[d]
structure Seg(kd:α->Int)(a b:Nat)(us vs:List α):Prop where
 len:vs.length=us.length
 out:∀i,i<a\/b<=i->vs[i]?=us[i]?
 cls:Zrd kd vs us
def Seg.refl{a b}{c:List α}:Seg kd a b c c:=⟨rfl,λ_ _=>rfl,λ_=>rfl⟩
def Seg.trans{a b}{c d e:List α}(s:Seg kd a b c d)(t:Seg kd a b d e):Seg kd a b c e:=⟨t.len.trans s.len,λi h=>(t.out i h).trans (s.out i h),λκ=>(t.cls κ).trans (s.cls κ)⟩
def Seg.mono{a b c d}{e f:List α}(s:Seg kd a b e f)(ha:c<=a)(hb:b<=d):Seg kd c d e f:=⟨s.len,λi h=>s.out i X,s.cls⟩
def Seg.sk{a b}{c d:List α}(s:Seg kd a b c d){i}(h:i<a\/b<=i):kk kd d i=kk kd c i:=by unfold kk;rw[s.out i h]
def Seg.mem{a b}{e c:List α}(s:Seg kd a b e c)(hb:b<=e.length){p}(h1:a<=p)(h2:p<b):∃q,a<=q/\q<b/\c[p]?=e[q]?:=by
 have hl:=s.len;have k:c.take a=e.take a:=YU λi=>by rw[Xk,Xk];split;exact s.out i (.inl ‹_›);rfl
 have l:c.drop b=e.drop b:=YU λi=>by rw[YO,YO];exact s.out _ (.inr X)
 have h:∀d:List α,d=d.take a++((d.drop a).take (b-a)++d.drop b):=λd=>by
  have:d.drop b=(d.drop a).drop (b-a):=by rw[Xr];congr 1;omega
  rw[this,Yy,Yy]
 have g:c[p]?=some (c[p]'X):=Y1 X;generalize c[p]'X=x at g;have n:x∈(c.drop a).take (b-a):=Y2 (i:=p-a) (by rw[Xk,if_pos X,YO,show a+(p-a)=p by omega,g])
 have f:=s.cls (kd x);rw[h c,h e,k,l] at f;simp only[Y03,List.append_cancel_left_eq,List.append_cancel_right_eq] at f;have j:x∈((c.drop a).take (b-a)).filter (λz=>kd z==kd x):=Y3b.2 ⟨n,I⟩;rw[f] at j;obtain⟨q,o,m⟩:=Yo (Y3b.1 j).1;simp only[YA,Xm] at o;refine⟨a+q,X,X,?_⟩;rw[g,<-m,XX,List.getElem_drop,Y1]
def Seg.at{a b}{e f:List α}(s:Seg kd a b e f)(hb:b<=e.length){p}(g:a<=p)(j:p<b):∃q,a<=q/\q<b/\kk kd f p=kk kd e q:=by obtain⟨q,k,n,h⟩:=s.mem hb g j;exact⟨q,k,n,by unfold kk;rw[h]⟩
def Zpb(kd:α->Int)(c:List α)(a b:Nat):Prop:=∀i j,a<=i->i<=j->j<b->kk kd c j<=kk kd c i
def Zpl(kd:α->Int)(c:List α)(a b k:Nat):Prop:=∀i j,a<=i->i<=j->j<b->i≠k->j≠k->kk kd c j<=kk kd c i
def Zpl.srt{c:List α}{a b k}(h:Zpl kd c a b k)(f:∀p,a<=p->p<k->kk kd c k<=kk kd c p)(g:∀q,k<q->q<b->kk kd c q<=kk kd c k):Zpb kd c a b:=λi j d l e=>by by_cases e1:i=k;by_cases e2:j=k;rw[e1,e2];exact Int.le_refl _;rw[e1];exact g j X e;by_cases e2:j=k;rw[e2];exact f i d X;exact h i j d l e e1 e2
def Zpe(a:List α)(j:Nat)(x y:α):List α:=(a.set (j+1) y).set j x
def Zpi{c:List α}{j:Nat}{x y:α}(d:c[j+1]?=some x)(e:c[j]?=some y)(i:Nat):kk kd (Zpe c j x y) i=kk kd c (if i=j then j+1 else if i=j+1 then j else i):=by have hl:=(Y0.1 d).1;unfold kk Zpe;by_cases a:i=j;rw[if_pos a,d,a,Yr sO];rw[if_neg a,Ys (Ne.symm a)];by_cases b:i=j+1;rw[if_pos b,e,b,Yr X];rw[if_neg b,Ys (Ne.symm b)]
def Zqe{c:List α}{j a b:Nat}{x y:α}(d:c[j+1]?=some x)(e:c[j]?=some y)(h3:kd y<kd x)(ha:a<=j)(hb:j+1<b):Seg kd a b c (Zpe c j x y):=
 ⟨by simp[Zpe],λi h=>by unfold Zpe;rw[Ys X,Ys X],Zqy d e X⟩
def Zpl.down{d:List α}{a b j:Nat}{x y:α}(h:Zpl kd d a b (j+1))(e:d[j+1]?=some x)(f:d[j]?=some y)(n:a<=j):Zpl kd (Zpe d j x y) a b j:=λp q g m i k l=>by rw[Zpi e f,Zpi e f,if_neg k,if_neg l];by_cases c:p=j+1;by_cases e4:q=j+1;rw[if_pos c,if_pos e4];exact Int.le_refl _;rw[if_pos c,if_neg e4];exact h j q n X i X e4;by_cases e4:q=j+1;rw[if_neg c,if_pos e4];exact h p j g X X c X;rw[if_neg c,if_neg e4];exact h p q g m i c e4
def Zpl.up{e:List α}{a b j:Nat}{x y:α}(h:Zpl kd e a b j)(i:e[j+1]?=some x)(k:e[j]?=some y)(o:j+1<b):Zpl kd (Zpe e j x y) a b (j+1):=λp q l n m f g=>by rw[Zpi i k,Zpi i k];by_cases d:p=j;by_cases c:q=j;rw[if_pos d,if_pos c];exact Int.le_refl _;rw[if_pos d,if_neg c,if_neg g];exact h (j+1) q X X m X c;by_cases c:q=j;rw[if_neg d,if_neg f,if_pos c];exact h p (j+1) l X o d X;rw[if_neg d,if_neg f,if_neg c,if_neg g];exact h p q l n m d c
def Zpf(s m e:Nat)(a b:List α):Prop:=b.length=a.length/\∀k,b[k]?=if s<=k/\k<s+(e-m) then a[k-s+m]? else if s+(e-m)<=k/\k<e then a[k-(e-m)]? else a[k]?
def Zpt(a b n:Nat)(c d:List α):Prop:=d.length=c.length/\∀k,d[k]?=if a<=k/\k<a+n then c[k-a+b]? else if b<=k/\k<b+n then c[k-b+a]? else c[k]?
def Zpf.rk{s m e:Nat}{a b:List α}(h:Zpf s m e a b)(k:Nat):kk kd b k=kk kd a (if s<=k/\k<s+(e-m) then k-s+m else if s+(e-m)<=k/\k<e then k-(e-m) else k):=by
 unfold kk;rw[h.2 k];split;rfl
 split<;>rfl
def Zr3{s m e:Nat}{a l:List α}(h:Zpf s m e a l)(h1:s<=m)(h2:m<=e)(h3:e<=a.length)(d:∀p q,s<=p->p<m->m<=q->q<e->kk kd a p<kk kd a q):Seg kd s e a l:=by
 refine⟨h.1,λi hi=>by rw[h.2 i,if_neg X,if_neg X],λκ=>?_⟩;have t:a=a.take s++((a.drop s).take (m-s)++((a.drop m).take (e-m)++a.drop e)):=by
  have u:a.drop e=(a.drop m).drop (e-m):=by rw[Xr];congr 1;omega
  have v:a.drop m=(a.drop s).drop (m-s):=by rw[Xr];congr 1;omega
  rw[u,Yy,v,Yy,Yy]
 have r:l=a.take s++((a.drop m).take (e-m)++((a.drop s).take (m-s)++a.drop e)):=YU λk=>by
  rw[h.2 k];simp only[Xp,Xk,YO,YA,Xm]
  repeat' split
  all_goals first|rfl|(exfalso;omega)|(congr 1;omega)
 have b:((a.drop s).take (m-s)).filter (λx=>kd x==κ)=[]\/((a.drop m).take (e-m)).filter (λx=>kd x==κ)=[]:=by
  refine Classical.byContradiction λf=>?_;rw[not_or] at f;obtain⟨x,g⟩:=Y01 _ f.1;obtain⟨y,j⟩:=Y01 _ f.2;rw[Y3b] at g j;obtain⟨p,w,n⟩:=Yo g.1;obtain⟨q,z,o⟩:=Yo j.1;simp only[YA,Xm] at w z;rw[XX,List.getElem_drop] at n o
  have:=d (s+p) (m+q) X X X X
  rw[Zph (x:=x) (by rw[<-n,Y1]),Zph (x:=y) (by rw[<-o,Y1])] at this;have h8:kd x=κ:=by simpa using g.2
  have c:kd y=κ:=by simpa using j.2
  omega
 rw[r]
 conv=>rhs;rw[t]
 simp only[Y03];rcases b with c|c<;>simp[c]
def Zux{i j m:Nat}{b c d:List α}(h1:j<i)(h2:i<=m)(h:Zpt (m-i) m j b c)(a:Zpf (m-i+j) m (m+j) c d):Zpf (m-i) m (m+j) b d:=by
 refine⟨a.1.trans h.1,λk=>?_⟩;rw[a.2 k];simp only[h.2]
 repeat' split
 all_goals first|rfl|(exfalso;omega)|(congr 1;omega)
def Zuw{i j m:Nat}{b c d:List α}(h1:i<j)(h2:i<=m)(h:Zpt (m-i) (m+j-i) i b c)(a:Zpf (m-i) m (m+(j-i)) c d):Zpf (m-i) m (m+j) b d:=by
 refine⟨a.1.trans h.1,λk=>?_⟩;rw[a.2 k];simp only[h.2]
 repeat' split
 all_goals first|rfl|(exfalso;omega)|(congr 1;omega)
def Zuv{i m:Nat}{a b:List α}(h2:i<=m)(h:Zpt (m-i) m i a b):Zpf (m-i) m (m+i) a b:=by
 refine⟨h.1,λk=>?_⟩;rw[h.2 k]
 repeat' split
 all_goals first|rfl|(exfalso;omega)|(congr 1;omega)
structure Cut(kd:α->Int)(us:List α)(a s m e b:Nat):Prop where
 lo:a<=s
 sm:s<=m
 me:m<=e
 eb:e<=b
 l:Zpb kd us a m
 r:Zpb kd us m b
 c1:s=a\/e=b\/kk kd us e<=kk kd us (s-1)
 c2:s=m\/e=m\/kk kd us s<kk kd us (e-1)
def Cut.lt{d:List α}{a s m e b}(c:Cut kd d a s m e b):∀p q,s<=p->p<m->m<=q->q<e->kk kd d p<kk kd d q:=λp q f g i h4=>by
 have:=c.lo
 have:=c.eb
 rcases c.c2 with h|h|h;omega;omega
 have:=c.l s p X f g
 have:=c.r q (e-1) i X X
 omega
def Cut.parts{o g:List α}{a s m e b}(c:Cut kd o a s m e b)(h:Zpf s m e o g):Zpb kd g a s/\Zpb kd g s (s+(e-m))/\Zpb kd g (s+(e-m)) e/\Zpb kd g e b/\∀p q,a<=p->p<s+(e-m)->s+(e-m)<=q->q<b->kk kd g q<=kk kd g p:=by
 have h1:=c.lo;have h2:=c.sm;have r:=c.me;have h4:=c.eb;have d:=h.rk (kd:=kd);refine⟨λi j f k l=>?_,λi j f k l=>?_,λi j f k l=>?_,λi j f k l=>?_,λp q f k l n=>?_⟩;rw[d,d,if_neg X,if_neg X,if_neg X,if_neg X];exact c.l i j f k X;rw[d,d,if_pos X,if_pos X];exact c.r _ _ X X X;rw[d,d,if_neg X,if_pos X,if_neg X,if_pos X];exact c.l _ _ X X X;rw[d,d,if_neg X,if_neg X,if_neg X,if_neg X];exact c.r i j X k l;rw[d,d];by_cases h5:p<s;rw[if_neg (c:=s<=q/\q<s+(e-m)) X,if_neg (c:=s<=p/\p<s+(e-m)) X,if_neg (c:=s+(e-m)<=p/\p<e) X];split;exact c.l _ _ f X X;rcases c.c1 with h|h|h;omega;omega
 have:=c.l p (s-1) f X X
 have:=c.r e q r X n
 omega;rw[if_neg (c:=s<=q/\q<s+(e-m)) X,if_pos (c:=s<=p/\p<s+(e-m)) X];split
 have:=c.lt (q-(e-m)) (p-s+m) X X X X
 omega;exact c.r _ _ X X n
def Zpb.glue{f k n:List α}{a c b}(h:b<=f.length)(x:∀p q,a<=p->p<c->c<=q->q<b->kk kd f q<=kk kd f p)(g:Seg kd a c f k)(B:Zpb kd k a c)(e:Seg kd c b k n)(C:Zpb kd n c b):Zpb kd n a b:=λi j o r s=>by by_cases g1:j<c;rw[e.sk (.inl g1),e.sk (.inl X)];exact B i j o r g1;by_cases g2:c<=i;exact C i j g2 r s;obtain⟨q,t,A,u⟩:=e.at (by have:=g.len;omega) (p:=j) X s;obtain⟨p,w,y,v⟩:=g.at X (p:=i) o X;rw[u,g.sk (.inr t),e.sk (.inl X),v];exact x p q w y t A
def Zun{b:List α}{a}:Zpb kd b a (a+1):=λi j h1 h2 h3=>by obtain rfl:i=j:=(by omega);exact Int.le_refl _
def Zqw{c d:Int}(m:c<d):∀{a:List α},(∀x∈a,kd x=c\/kd x=d)->Zpb kd a 0 a.length->a=a.filter (λx=>kd x==d)++a.filter (λx=>kd x==c)
 |[],_,_=>rfl
 |x::a,f,hs=>by
   have n:Zpb kd a 0 a.length:=λi j h1 h2 h3=>by
    have:=hs (i+1) (j+1) X X sO
    simpa[kk] using this
   have g:=Zqw m (λy b=>f y (by simp[b])) n;rcases f x I with h|h;have e:∀y∈a,kd y=c:=λy b=>by
    obtain⟨i,l,rfl⟩:=Yo b
    have:=hs 0 (i+1) X X sO
    simp[kk,l] at this;rcases f a[i] I with h9|h9;exact h9;omega
   have k:a.filter (λy=>kd y==d)=[]:=Y3k.2 λy b=>by rw[e y b];simp;omega
   rw[k,Yv] at g;rw[List.filter_cons_of_neg sO,k,List.filter_cons_of_pos (by simp[h]),Yv,<-g];rw[List.filter_cons_of_pos (by simp[h]),List.filter_cons_of_neg sO,Yt,<-g]
def Zu1{k1 k2:Int}(d:k1<k2){a b:List α}(g:∀x∈a,kd x=k1\/kd x=k2)(s:Seg kd 0 a.length a b)(h:Zpb kd b 0 a.length):b=a.filter (λx=>kd x==k2)++a.filter (λx=>kd x==k1):=by
 have f:=s.len;rw[<-s.cls,<-s.cls];refine Zqw d (λx j=>?_) (by rwa [f]);obtain⟨i,c,rfl⟩:=Yo j;obtain⟨q,-,q2,e⟩:=s.mem (Y7 _) (p:=i) X X;rw[Y1 c] at e;exact g _ (Y2 e.symm)
end Go.Am
end
namespace Go.Am
section
def Zpd(x:Chg):aD:=x.z.map C.d
def Zpn{us:List Chg}:Zy 4 (us.map Zpd):=λx a=>by obtain⟨y,_,rfl⟩:=Yi.1 a;rfl
def Zv1{a:List Chg}{i:Nat}{x}(h:a[i]?=some x):(a.map Zpd)[i]?=some (Zpd x):=by rw[Y9,h];rfl
def Zpg{a:List Chg}{sp}{i:Nat}{x}(h:a[i]?=some x):Zs 4 ((Zb (a.map Zpd) sp).drop (i*4))=some (Zpd x):=IV Zpn (Zv1 h)
def Zpq{a:List Chg}{b}{i:Nat}{x}(c:i<a.length):Zi (Zb (a.map Zpd) b) (i*4) (Zpd x)=Zb ((a.set i x).map Zpd) b:=by rw[Oz Zpn (by simpa using c) rfl,YJ]
def Zps{a:List Chg}{c}{i:Nat}(b:i<a.length):i*4+4<=(Zb (a.map Zpd) c).length:=Ah Zpn (by simpa using b)
def Seg.sub{a b}{e c:List Chg}(s:Seg Chg.g a b e c){x}(h:x∈c):x∈e:=by
 have d:x∈c.filter (λz=>z.g==x.g):=Y3b.2 ⟨h,I⟩;rw[s.cls] at d;exact(Y3b.1 d).1
structure Chs(h:HS)(l:Z2)(cap:Nat)(us:List Chg):Prop where
 a:∃sp,h.a l=some (Zb (us.map Zpd) sp)/\(Zb (us.map Zpd) sp).length=cap*4
 lim:us.length<=2097152
def Zpw(G:FuncId)(a:List Chg):Prop:=∀x∈a,∀y∈a,Zq prog G [.agg x.z,.agg y.z] (.i (y.g-x.g))
def Zpw.seg{G a b}{c d:List Chg}(h:Zpw G c)(s:Seg Chg.g a b c d):Zpw G d:=λx e y f=>h x (s.sub e) y (s.sub f)
def Zqq(h l c us)(a b:Nat)(G)(hc:Chs h l c us)(ba:a<=b)(hb:b<=us.length)(hG:Zpw G us)(K)
  (hk:∀g S,Seg Chg.g a b us S->Zpb Chg.g S a b->Chs g l c S->Z0 h g [l]->K (.tup []) g):
  Z5 prog 97 [.one (.mrow l 0 us.length c),.i a,.i b,.one (.fn G [])] h K:=by
 refine Z5.qM func97 rfl kR rfl rfl I ?_;have hlim:=hc.lim;have a1:IntKind.i64.wrap ((a:Int)+1)=((a+1:Nat):Int):=Y6 _ X;simp;refine Z6.rounds (λn e g=>∃(i:Nat) (d:List Chg),n=b+1-i/\a<i/\Seg Chg.g a b us d/\Zpb Chg.g d a i/\En e 53 [(0,.one (.mrow l 0 us.length c)),(1,.i a),(2,.i b),(3,.one (.fn G [])),(8,.i i)]/\Z0 h g [l]/\Chs g l c d) (b-a)
  ⟨a+1,us,X,X,.refl,Zun,by simp[a1],.refl,hc⟩ ?_
 rintro n e g ⟨i,d,rfl,bc,t,M,r,C,w⟩;have V:=t.len;simp[r];refine Vy (λhlt=>?_) (λhge=>?_);simp[r];refine Z6.rounds (λn e g=>∃(j:Nat) (d:List Chg),n=j/\a<=j/\j<=i/\Seg Chg.g a b us d/\Zpl Chg.g d a (i+1) j/\(∀q,j<q->q<i+1->kk Chg.g d q<=kk Chg.g d j)/\En e 53 [(0,.one (.mrow l 0 us.length c)),(1,.i a),(2,.i b),(3,.one (.fn G [])),(8,.i i),(9,.i j)]/\Z0 h g [l]/\Chs g l c d) i
  ⟨i,d,rfl,X,Y7 _,t,λp q m z h3 h4 h5=>M p q m z X,X,by simp[r],C,w⟩ ?_
 clear r C w M t V;rintro j e g ⟨_,d,rfl,haj,bb,t,H,N,r,C,w⟩;have V:=t.len;have T:=Y6 (i+1) X;have D:Zpb Chg.g d a (i+1)->∀o m,En o 53 [(0,.one (.mrow l 0 us.length c)),(1,.i a),(2,.i b),(3,.one (.fn G [])),(8,.i ((i+1:Nat):Int))]->Z0 h m [l]->Chs m l c d->∃(L:Nat) (d:List Chg),b+1-(i+1)=b+1-L/\a<L/\Seg Chg.g a b us d/\Zpb Chg.g d a L/\En o 53 [(0,.one (.mrow l 0 us.length c)),(1,.i a),(2,.i b),(3,.one (.fn G [])),(8,.i L)]/\Z0 h m [l]/\Chs m l c d:=λs o m g1 g2 g3=>⟨i+1,d,rfl,X,t,s,g1,g2,g3⟩;by_cases hja:j=a;subst hja;refine Z6.cu aF (λo B=>B=g/\En o 53 [(0,.one (.mrow l 0 us.length c)),(1,.i j),(2,.i b),(3,.one (.fn G [])),(8,.i i),(34,.b false)]) ?_ ?_;simp[r];exact⟨λ_ x y=>y,Ze.of (by simp[r])⟩;rintro o B ⟨rfl,u⟩;simp[u];exact AQ.of (n':=b+1-(i+1)) X (D (H.srt (λp m z=>X) N) _ _ (by simp[u,T]) C w);obtain⟨k,rfl⟩:∃k,j=k+1:=⟨j-1,X⟩;have⟨sp,ax,E⟩:=w.a;have v:d[k+1]?=some (d[k+1]'X):=Y1 X;have f:d[k]?=some (d[k]'X):=Y1 X;generalize d[k+1]'X=q1 at v;generalize d[k]'X=F at f;have A:IntKind.i64.wrap (k:Int)=(k:Int):=Y6 _ X;have U:k+1<us.length:=X
 have au:k<us.length:=X;have hz:0<=(k:Int)+1:=X;have az:(a:Int)<(k:Int)+1:=X;have k1:=Zph (kd:=Chg.g) v;have k0:=Zph (kd:=Chg.g) f;have Z:=Zpg (sp:=sp) v;have Y:=Zpg (sp:=sp) f;refine Z6.cu aF (λo B=>Z0 h B [l]/\B.a l=g.a l/\En o 53 [(0,.one (.mrow l 0 us.length c)),(1,.i a),(2,.i b),(3,.one (.fn G [])),(8,.i i),(9,.i ((k+1:Nat):Int)),(34,.b (decide (F.g-q1.g<0)))]) ?_ ?_;simp[r,hz,az,U,au,A,ax,Z,Y];refine Zx ((hG.seg t) q1 (Y2 v) F (Y2 f)) (by simp[Zpd]) ?_;simp[r];have ay:=C.w;exact⟨λ_ _ x=>x,Ze.of (by simp[r,ay])⟩;rintro o B ⟨W,O,u⟩;rw[ax] at O;simp[u];refine Vy (λa8=>?_) (λa7=>?_);simp;refine Z6.cu aP (λJ P=>Z0 h P [l]/\En J 53 [(0,.one (.mrow l 0 us.length c)),(1,.i a),(2,.i b),(3,.one (.fn G [])),(8,.i i),(9,.i ((k+1:Nat):Int))]/\P.a l=some (Zb ((Zpe d k q1 F).map Zpd) sp)) ?_ ?_;simp[u,hz,U,au,A,O,Z,Y];rw[Zpq X,Zpq sO];refine⟨⟨rfl,Zps X⟩,⟨rfl,Zps sO⟩,Ze.of ⟨(W.xV (.inl I)).xV (.inl I),by simp[u],by simp[Zpe]⟩⟩;rintro J P ⟨R,aw,Q⟩;simp[aw,A];refine AQ.of (n':=k) X ⟨k,Zpe d k q1 F,rfl,X,X,t.trans (Zqe v f X X X),H.down v f X,λq m z=>?_,by simp[aw],R,⟨sp,Q,?_⟩,by simp[Zpe];omega⟩;rw[Zpi v f,Zpi v f,if_pos rfl,if_neg X];split;omega;exact N q X z;have o:=V2 (sp:=sp) (Zpn (us:=Zpe d k q1 F));have J:=V2 (sp:=sp) (Zpn (us:=d));simp[Zpe] at o J|-;omega;simp[u];refine AQ.of (n':=b+1-(i+1)) X (D (H.srt (λp m z=>?_) N) _ _ (by simp[u,T]) W ⟨⟨sp,O,E⟩,w.lim⟩);by_cases h9:p=k;rw[h9];omega
 have:=H p k m X X X X
 omega;simp;refine hk _ _ t (λp q m z h3=>M p q m z ?_) w C;omega
def Zpt.step{α:Type}{f c:List α}{a b n i:Nat}{x y:α}(h:Zpt a b i f c)(hi:i<n)(aa:a+n<=b)(d:c[a+i]?=some x)(e:c[b+i]?=some y):Zpt a b (i+1) f ((c.set (a+i) y).set (b+i) x):=by
 have l1:=(Y0.1 d).1;have l2:=(Y0.1 e).1;rw[h.2,if_neg X,if_neg X] at d e;refine⟨by simpa using h.1,λk=>?_⟩;by_cases e1:k=b+i;subst e1;rw[Yr sO,if_neg X,if_pos X,<-d]
 congr 1;omega
 rw[Ys (Ne.symm e1)];by_cases e2:k=a+i;subst e2;rw[Yr X,if_pos X,<-e]
 congr 1;omega
 rw[Ys (Ne.symm e2),h.2 k]
 repeat' split
 all_goals first|rfl|(exfalso;omega)
def Zqh(h l c us)(a b n:Nat)(L:C)(z:Chs h l c us)(H:a+n<=b)(hb:b+n<=us.length)(K)
  (N:∀f B,Zpt a b n us B->Chs f l c B->Z0 h f [l]->K (.tup []) f):
  Z5 prog 126 [.one (.mrow l 0 us.length c),.i a,.i b,.i n,.one L] h K:=by
 refine Z5.qM func126 rfl kR rfl rfl I ?_;have hlim:=z.lim;simp;refine Z6.rounds (λq e f=>∃(i:Nat) (d:List Chg),q=n-i/\i<=n/\Zpt a b i us d/\En e 38 [(0,.one (.mrow l 0 us.length c)),(1,.i a),(2,.i b),(3,.i n),(10,.i i)]/\Z0 h f [l]/\Chs f l c d) n
  ⟨0,us,X,X,⟨rfl,λk=>by rw[if_neg X,if_neg X]⟩,I,.refl,z⟩ ?_
 rintro q e f ⟨i,d,rfl,al,o,j,A,w⟩;have am:=o.1;simp[j];refine Vy (λr=>?_) (λhge=>?_);have⟨sp,G,hcap⟩:=w.a;have t:d[a+i]?=some (d[a+i]'X):=Y1 X;have u:d[b+i]?=some (d[b+i]'X):=Y1 X;generalize d[a+i]'X=x at t;generalize d[b+i]'X=y at u;have J:=Zpg (sp:=sp) t;have F:=Zpg (sp:=sp) u;have S:IntKind.i64.wrap ((a:Int)+(i:Int))=(a:Int)+i:=Y6 _ X;have T:IntKind.i64.wrap ((b:Int)+(i:Int))=(b:Int)+i:=Y6 _ X;have Q:((a:Int)+(i:Int)).toNat=a+i:=X
 have R:((b:Int)+(i:Int)).toNat=b+i:=X;have U:IntKind.i64.wrap ((i:Int)+1)=((i+1:Nat):Int):=Y6 _ X;have O:(a:Int)+i<us.length:=X
 have P:(b:Int)+i<us.length:=X;have E:a+i<us.length:=X;have D:b+i<us.length:=X;have V:(0:Int)<=(a:Int)+i:=X;have W:(0:Int)<=(b:Int)+i:=X;simp[j];refine Z6.cu bB (λg m=>Z0 h m [l]/\En g 38 [(0,.one (.mrow l 0 us.length c)),(1,.i a),(2,.i b),(3,.i n),(10,.i i)]/\m.a l=some (Zb (((d.set (a+i) y).set (b+i) x).map Zpd) sp)) ?_ ?_;simp[j,S,T,Q,R,O,P,E,D,V,W,G,J,F];rw[Zpq X,Zpq sO];exact⟨⟨rfl,Zps X⟩,⟨rfl,Zps sO⟩,Ze.of ⟨(A.xV (.inl I)).xV (.inl I),by simp[j],I⟩⟩;rintro g m ⟨s,v,p⟩;simp[v,U];refine AQ.of (n':=n-(i+1)) X ⟨i+1,_,rfl,X,o.step r H t u,by simp[v],s,⟨sp,p,?_⟩,sO⟩;have M:=V2 (sp:=sp) (Zpn (us:=(d.set (a+i) y).set (b+i) x));have g:=V2 (sp:=sp) (Zpn (us:=d));simp at M g|-;omega;simp;obtain rfl:i=n:=X
 exact N _ _ o w A
def Zr6(h l a n)(s m e:Nat)(t:C)(E:Chs h l a n)(ap:s<m)(ao:m<e)(he:e<=n.length)(K)
  (Q:∀d b,Zpf s m e n b->Chs d l a b->Z0 h d [l]->K (.tup []) d):
  Z5 prog 113 [.one (.mrow l 0 n.length a),.i s,.i m,.i e,.one t] h K:=by
 refine Z5.qM func113 rfl kR rfl rfl I ?_;have hlim:=E.lim;have R:IntKind.i64.wrap ((m:Int)-(s:Int))=((m-s:Nat):Int):=by rw[Y6 _ X];omega
 have S:IntKind.i64.wrap ((e:Int)-(m:Int))=((e-m:Nat):Int):=by rw[Y6 _ X];omega
 simp[R,S];refine Z6.rounds (λq B d=>∃(i j:Nat) (o:List Chg),q=i+j/\0<i/\0<j/\i<=m/\m+j<=n.length/\o.length=n.length/\(∀b,Zpf (m-i) m (m+j) o b->Zpf s m e n b)/\En B 58 [(0,.one (.mrow l 0 n.length a)),(2,.i m),(4,.one t),(10,.i i),(11,.i j)]/\Z0 h d [l]/\Chs d l a o) (m-s+(e-m))
  ⟨m-s,e-m,n,rfl,X,X,X,X,rfl,λb k=>by rwa [show m-(m-s)=s by omega,show m+(e-m)=e by omega] at k,I,.refl,E⟩ ?_
 rintro q B d ⟨i,j,o,rfl,O,P,v,L,r,w,f,z,x⟩;have y:IntKind.i64.wrap ((m:Int)-(i:Int))=((m-i:Nat):Int):=by rw[Y6 _ X];omega
 have H:IntKind.i64.wrap ((m:Int)+(j:Int))=((m+j:Nat):Int):=by rw[Y6 _ X];omega
 simp[f];refine BJ (λu=>?_) (λM=>?_);have u:i≠j:=by simp at u;omega
 simp[f];refine Vy (λg=>?_) (λhge=>?_);have g:j<i:=X
 have J:IntKind.i64.wrap ((i:Int)-(j:Int))=((i-j:Nat):Int):=by rw[Y6 _ X];omega
 simp[f,y]
 have:=Zqh d l a o (m-i) m j t x X X
 rw[r] at this;refine Zc (this _ λD b k p c=>?_);simp[f,J];exact AQ.of (n':=i-j+j) X ⟨i-j,j,b,rfl,X,P,X,L,by rw[k.1,r],λA F=>w A (Zux g v k (by rwa [show m-i+j=m-(i-j) by omega])),by simp[f],z.trans c,p⟩;have g:i<j:=X
 have N:IntKind.i64.wrap ((j:Int)-(i:Int))=((j-i:Nat):Int):=by rw[Y6 _ X];omega
 have G:IntKind.i64.wrap ((m:Int)+(j:Int)-(i:Int))=((m+j-i:Nat):Int):=by rw[Y6 _ X];omega
 simp[f,y,H,G]
 have:=Zqh d l a o (m-i) (m+j-i) i t x X X
 rw[r] at this;refine Zc (this _ λD b k p c=>?_);simp[f,N];exact AQ.of (n':=i+(j-i)) X ⟨i,j-i,b,rfl,O,X,v,X,by rw[k.1,r],λA F=>w A (Zuw g v k F),by simp[f],z.trans c,p⟩;obtain rfl:i=j:=by simp at M;omega
 simp[f,y]
 have:=Zqh d l a o (m-i) m i t x X X
 rw[r] at this;refine Zc (this _ λD b k p c=>?_);simp;exact Q _ _ (w b (Zuv v k)) p (z.trans c)
def Chs.swap{h d:HS}{l:Z2}{a:Nat}{c b:List Chg}{sp:aD}(i:Chs h l a c)(hcap:(Zb (c.map Zpd) sp).length=a*4)(g:d.a l=some (Zb (b.map Zpd) sp))(hl:b.length=c.length):Chs d l a b:=by refine⟨⟨sp,g,?_⟩,by have:=i.lim;omega⟩;have e:=V2 (sp:=sp) (Zpn (us:=b));have f:=V2 (sp:=sp) (Zpn (us:=c));simp at e f;omega
def Zq1(i j:Nat)(h:i+j<=4194304):IntKind.i64.wrap ((IntKind.u64.wrap ((i:Int)+(j:Int))).fdiv (2^min 1 IntKind.u64.bits))=(((i+j)/2:Nat):Int):=by
 have a:IntKind.u64.wrap ((i:Int)+(j:Int))=(i:Int)+j:=IntWalk.u64_in _ X;rw[a];have b:((i:Int)+(j:Int)).fdiv (2^min 1 IntKind.u64.bits)=(((i+j)/2:Nat):Int):=by show((i:Int)+(j:Int)).fdiv 2=_;rw[Int.fdiv_eq_ediv_of_nonneg _ X];omega
 rw[b];exact Y6 _ X
def Zpb.keep{e f:List Chg}{a c d b}(h:Zpb Chg.g e d b)(s:Seg Chg.g a c e f)(hc:c<=d):Zpb Chg.g f d b:=λi j g k l=>by rw[s.sk (.inr X),s.sk (.inr X)];exact h i j g k l
def Zpb.pick{b:List Chg}{a s c}(h:s=a\/s=c)(d:Zpb Chg.g b a s)(e:Zpb Chg.g b s c):Zpb Chg.g b a c:=by rcases h with rfl|rfl;exact e;exact d
set_option maxHeartbeats 4000000 in
def Zr5:∀(N:Nat) (h:HS) (l:Z2) (g:Nat) (f:List Chg) (a m b:Nat) (G:FuncId),b-a<=N->Chs h l g f->a<m->m<b->b<=f.length->Zpw G f->Zpb Chg.g f a m->Zpb Chg.g f m b->∀K:V->HS->Prop,(∀v B,Seg Chg.g a b f B->Zpb Chg.g B a b->Chs v l g B->Z0 h v [l]->K (.tup []) v)->
  Z5 prog 98 [.one (.mrow l 0 f.length g),.i a,.i m,.i b,.one (.fn G [])] h K:=by
 intro N
 induction N with
 |zero=>intro h l g f a m b G hN _ Q S;omega
 |succ N ih=>?_
 intro h l g f a m b G hN hc ham hmb hb hG s1 s2 K hk;refine Z5.qM func98 rfl kR rfl rfl I ?_;have hlim:=hc.lim;have w1:IntKind.i64.wrap ((m:Int)-(a:Int))=(m:Int)-a:=Y6 _ X;simp[w1];refine BJ (λhe=>?_) (λhne=>?_);obtain rfl:m=a+1:=by simp at he;omega
 simp;refine Z6.rounds (λq e v=>∃i j:Nat,q=j-i/\a+1<=i/\i<=j/\j<=b/\(i=a+1\/kk Chg.g f a<kk Chg.g f (i-1))/\(j=b\/kk Chg.g f j<=kk Chg.g f a)/\En e 220 [(0,.one (.mrow l 0 f.length g)),(1,.i a),(4,.one (.fn G [])),(10,.i i),(11,.i j)]/\Z0 h v [l]/\Chs v l g f) (b-(a+1))
  ⟨a+1,b,rfl,X,X,X,.inl rfl,.inl rfl,I,.refl,hc⟩ ?_
 rintro q e v ⟨i,j,rfl,b0,hij,b1,ag,ae,t,D,E⟩;simp[t];refine Vy (λhlt=>?_) (λhge=>?_);have bb:IntKind.i64.wrap ((i:Int)+(j:Int))=(i:Int)+j:=Y6 _ X;have ac:=Zq1 i j X;obtain⟨c,a8⟩:∃c,c=(i+j)/2:=⟨_,rfl⟩;rw[<-a8] at ac;have hic:i<=c/\c<j:=X
 have⟨sp,Y,z⟩:=E.a;have T:f[c]?=some (f[c]'X):=Y1 X;have U:f[a]?=some (f[a]'X):=Y1 X;generalize f[c]'X=x at T;generalize f[a]'X=y at U;have kx:=Zph (kd:=Chg.g) T;have ky:=Zph (kd:=Chg.g) U;have bd:=Zpg (sp:=sp) T;have a7:=Zpg (sp:=sp) U;have bc:c<f.length:=X
 have ba:a<f.length:=X;have a1:IntKind.i64.wrap ((c:Int)+1)=((c+1:Nat):Int):=Y6 _ X;simp[t,bb,ac];refine Z6.cu aQ (λJ R=>Z0 h R [l]/\R.a l=v.a l/\En J 220 [(0,.one (.mrow l 0 f.length g)),(1,.i a),(4,.one (.fn G [])),(10,.i i),(11,.i j),(12,.i c),(50,.b (decide (y.g-x.g<0)))]) ?_ ?_;simp[t,Y,bd,a7,bc,ba];refine Zx (hG x (Y2 T) y (Y2 U)) (by simp[Zpd]) ?_;have aw:=D.w;simp[t];exact⟨λ_ _ x=>x,Ze.of (by simp[t,aw])⟩;rintro J R ⟨aj,am,H⟩;rw[Y] at am;have ap:Chs R l g f:=⟨⟨sp,am,z⟩,E.lim⟩;simp[H];refine Vy (λC=>?_) (λC=>?_);simp[H,a1];exact AQ.of (n':=j-(c+1)) X ⟨c+1,j,rfl,X,X,X,.inr (by rw[Y04,kx,ky];omega),ae,by simp[H],aj,ap⟩;simp[H];exact AQ.of (n':=c-i) X ⟨i,c,rfl,X,X,X,ag,.inr (by rw[kx,ky];omega),by simp[H],aj,ap⟩;obtain rfl:i=j:=X
 have b7:IntKind.i64.wrap ((i:Int)-1)=(i:Int)-1:=Y6 _ X;simp[t];refine Z6.rounds (λq e v=>∃(k:Nat) (u:List Chg),q=b-k/\a<=k/\k<b/\(k=a\/k+1<=i)/\Seg Chg.g a b f u/\Zpl Chg.g u a b k/\kk Chg.g u k=kk Chg.g f a/\(∀p,a<=p->p<k->kk Chg.g f a<kk Chg.g u p)/\(∀q,k<q->kk Chg.g u q=kk Chg.g f q)/\En e 220 [(0,.one (.mrow l 0 f.length g)),(10,.i i),(13,.i k)]/\Z0 h v [l]/\Chs v l g u) (b-a)
  ⟨a,f,rfl,X,X,.inl rfl,.refl,λp q Q S h3 h4 h5=>s2 p q X S h3,rfl,λp Q S=>X,λ_ _=>rfl,by simp[t],D,E⟩ ?_
 clear t D E;rintro q e v ⟨k,u,rfl,cb,cd,b9,aq,au,kw,bf,bg,t,D,E⟩;have bi:=aq.len;simp[t,b7];refine Vy (λhlt=>?_) (λhge=>?_);have hlt:k+1<i:=X
 have⟨sp,Y,z⟩:=E.a;have W:u[k+1]?=some (u[k+1]'X):=Y1 X;have A:u[k]?=some (u[k]'X):=Y1 X;generalize u[k+1]'X=x1 at W;generalize u[k]'X=x0 at A;have k1:=Zph (kd:=Chg.g) W;have k0:=Zph (kd:=Chg.g) A;have bu:=Zpg (sp:=sp) W;have bt:=Zpg (sp:=sp) A;have bp:k+1<f.length:=X
 have bv:k<f.length:=X;have bk:IntKind.i64.wrap ((k:Int)+1)=(k:Int)+1:=Y6 _ X;have tk:((k:Int)+1).toNat=k+1:=X
 have hz:(0:Int)<=(k:Int)+1:=X;have gr:x0.g<x1.g:=by have Q:=bg (k+1) X;have S:=s2 (k+1) (i-1) X X X;rcases ag with C|C;omega;omega
 simp[t];refine Z6.cu aP (λe2 ax=>Z0 h ax [l]/\En e2 220 [(0,.one (.mrow l 0 f.length g)),(10,.i i),(13,.i k)]/\ax.a l=some (Zb ((Zpe u k x1 x0).map Zpd) sp)) ?_ ?_;simp[t,hz,tk,bp,bv,bk,Y,bu,bt];rw[Zpq X,Zpq sO];refine⟨⟨rfl,Zps X⟩,⟨rfl,Zps sO⟩,Ze.of ⟨(D.xV (.inl I)).xV (.inl I),by simp[t],?_⟩⟩;rw[List.set_comm _ _ X];simp[Zpe];rintro e2 ax ⟨Z,bm,hb2⟩;simp[bm,bk];refine AQ.of (n':=b-(k+1)) X ⟨k+1,Zpe u k x1 x0,rfl,X,X,.inr X,aq.trans (Zqe W A gr X X),au.up W A X,?_,λp Q S=>?_,λq Q=>?_,by simp[bm],Z,E.swap z hb2 (by simp[Zpe])⟩;rw[Zpi W A,if_neg X,if_pos rfl,kw];rw[Zpi W A];by_cases J:p=k;rw[if_pos J];omega;rw[if_neg J,if_neg X];exact bf p Q X;rw[Zpi W A,if_neg X,if_neg X];exact bg q X;simp;refine hk _ _ aq (au.srt (λp Q S=>by have:=bf p Q S;omega) (λq Q S=>?_)) E D;rw[bg q Q,kw];rcases ae with C|C;omega
 have:=s2 i q X X S
 omega;have hm2:a+2<=m:=by
  have C:¬m=a+1:=λC=>by simp[C] at hne;omega
  omega
 have w2:IntKind.i64.wrap ((b:Int)-(m:Int))=(b:Int)-m:=Y6 _ X;simp[w2];refine BJ (λhe=>?_) (λbz=>?_);obtain rfl:b=m+1:=by simp at he;omega
 simp;refine Z6.rounds (λq e v=>∃i j:Nat,q=j-i/\a<=i/\i<=j/\j<=m/\(i=a\/kk Chg.g f m<=kk Chg.g f (i-1))/\(j=m\/kk Chg.g f j<kk Chg.g f m)/\En e 220 [(0,.one (.mrow l 0 f.length g)),(2,.i m),(4,.one (.fn G [])),(14,.i i),(15,.i j)]/\Z0 h v [l]/\Chs v l g f) (m-a)
  ⟨a,m,rfl,X,X,X,.inl rfl,.inl rfl,I,.refl,hc⟩ ?_
 rintro q e v ⟨i,j,rfl,b0,hij,b1,ag,ae,t,D,E⟩;simp[t];refine Vy (λhlt=>?_) (λhge=>?_);have bb:IntKind.i64.wrap ((i:Int)+(j:Int))=(i:Int)+j:=Y6 _ X;have ac:=Zq1 i j X;obtain⟨c,a8⟩:∃c,c=(i+j)/2:=⟨_,rfl⟩;rw[<-a8] at ac;have hic:i<=c/\c<j:=X
 have⟨sp,Y,z⟩:=E.a;have T:f[c]?=some (f[c]'X):=Y1 X;have U:f[m]?=some (f[m]'X):=Y1 X;generalize f[c]'X=x at T;generalize f[m]'X=y at U;have kx:=Zph (kd:=Chg.g) T;have ky:=Zph (kd:=Chg.g) U;have bd:=Zpg (sp:=sp) T;have a7:=Zpg (sp:=sp) U;have bc:c<f.length:=X
 have ba:m<f.length:=X;have a1:IntKind.i64.wrap ((c:Int)+1)=((c+1:Nat):Int):=Y6 _ X;simp[t,bb,ac];refine Z6.cu aV (λJ R=>Z0 h R [l]/\R.a l=v.a l/\En J 220 [(0,.one (.mrow l 0 f.length g)),(2,.i m),(4,.one (.fn G [])),(14,.i i),(15,.i j),(16,.i c),(103,.b (!decide (x.g-y.g<0)))]) ?_ ?_;simp[t,Y,bd,a7,bc,ba];refine Zx (hG y (Y2 U) x (Y2 T)) (by simp[Zpd]) ?_;have aw:=D.w;simp[t];exact⟨λ_ _ x=>x,Ze.of (by simp[t,aw])⟩;rintro J R ⟨aj,am,H⟩;rw[Y] at am;have ap:Chs R l g f:=⟨⟨sp,am,z⟩,E.lim⟩;simp[H];refine BJ (λC=>?_) (λC=>?_);have C:y.g<=x.g:=by simp at C;omega
 simp[H,a1];exact AQ.of (n':=j-(c+1)) X ⟨c+1,j,rfl,X,X,X,.inr (by rw[Y04,kx,ky];omega),ae,by simp[H],aj,ap⟩;have C:x.g<y.g:=by simp at C;omega
 simp[H];exact AQ.of (n':=c-i) X ⟨i,c,rfl,X,X,X,ag,.inr (by rw[kx,ky];omega),by simp[H],aj,ap⟩;obtain rfl:i=j:=X;simp[t];refine Z6.rounds (λq e v=>∃(k:Nat) (u:List Chg),q=k/\i<=k/\k<=m/\Seg Chg.g a (m+1) f u/\Zpl Chg.g u a (m+1) k/\kk Chg.g u k=kk Chg.g f m/\(∀q,k<q->q<m+1->kk Chg.g u q<kk Chg.g f m)/\(∀p,p<k->kk Chg.g u p=kk Chg.g f p)/\En e 220 [(0,.one (.mrow l 0 f.length g)),(14,.i i),(17,.i k)]/\Z0 h v [l]/\Chs v l g u) m
  ⟨m,f,rfl,X,X,.refl,λp q Q S h3 h4 h5=>s1 p q Q S X,rfl,λp Q S=>X,λ_ _=>rfl,by simp[t],D,E⟩ ?_
 clear t D E;rintro k e v ⟨_,u,rfl,cc,ca,aq,au,kw,bg,bf,t,D,E⟩;have bi:=aq.len;simp[t];refine Vy (λhlt=>?_) (λhge=>?_);obtain⟨M,rfl⟩:∃M,k=M+1:=⟨k-1,X⟩;have⟨sp,Y,z⟩:=E.a;have W:u[M+1]?=some (u[M+1]'X):=Y1 X;have A:u[M]?=some (u[M]'X):=Y1 X;generalize u[M+1]'X=x1 at W;generalize u[M]'X=x0 at A;have k1:=Zph (kd:=Chg.g) W;have k0:=Zph (kd:=Chg.g) A;have bu:=Zpg (sp:=sp) W;have bt:=Zpg (sp:=sp) A;have bp:M+1<f.length:=X
 have bv:M<f.length:=X;have bk:IntKind.i64.wrap (M:Int)=(M:Int):=Y6 _ X;have hz:(0:Int)<=(M:Int)+1:=X
 have gr:x0.g<x1.g:=by have Q:=bf M X;have S:=s1 i M X X X;rcases ae with C|C;omega;omega
 simp[t];refine Z6.cu aP (λe2 ax=>Z0 h ax [l]/\En e2 220 [(0,.one (.mrow l 0 f.length g)),(14,.i i),(17,.i ((M+1:Nat):Int))]/\ax.a l=some (Zb ((Zpe u M x1 x0).map Zpd) sp)) ?_ ?_;simp[t,hz,bp,bv,bk,Y,bu,bt];rw[Zpq X,Zpq sO];exact⟨⟨rfl,Zps X⟩,⟨rfl,Zps sO⟩,Ze.of ⟨(D.xV (.inl I)).xV (.inl I),by simp[t],by simp[Zpe]⟩⟩;rintro e2 ax ⟨Z,bm,hb2⟩;simp[bm,bk];refine AQ.of (n':=M) X ⟨M,Zpe u M x1 x0,rfl,X,X,aq.trans (Zqe W A gr X X),au.down W A X,?_,λq Q S=>?_,λp Q=>?_,by simp[bm],Z,E.swap z hb2 (by simp[Zpe])⟩;rw[Zpi W A,if_pos rfl,kw];rw[Zpi W A,if_neg X];by_cases J:q=M+1;rw[if_pos J];omega;rw[if_neg J];exact bg q X S;rw[Zpi W A,if_neg X,if_neg X];exact bf p X;simp;obtain rfl:k=i:=X;refine hk _ _ aq (au.srt (λp Q S=>?_) (λq Q S=>by have:=bg q Q S;omega)) E D;rw[bf p S,kw];rcases ag with C|C;omega
 have:=s1 p (k-1) Q X X
 omega;have hm3:m+2<=b:=by
  have C:¬b=m+1:=λC=>by simp[C] at bz;omega
  omega
 have b4:IntKind.i64.wrap ((a:Int)+(b:Int))=(a:Int)+b:=Y6 _ X;have ac:=Zq1 a b X;obtain⟨o,b3⟩:∃c,c=(a+b)/2:=⟨_,rfl⟩;rw[<-b3] at ac;obtain⟨n,hn⟩:∃n,n=o+m:=⟨_,rfl⟩;have wn:IntKind.i64.wrap ((o:Int)+(m:Int))=(n:Int):=by rw[Y6 _ X];omega
 obtain⟨p,hp⟩:∃p,n=p+1:=⟨n-1,X⟩;have wp:IntKind.i64.wrap ((n:Int)-1)=(p:Int):=by rw[Y6 _ X];omega
 simp[b4,ac,wn];refine Vy (λb2=>?_) (λb2=>?_)
 .obtain⟨F,b5⟩:∃F,n=F+b:=⟨n-b,X⟩;obtain⟨L,e2⟩:∃L,L=o:=⟨_,rfl⟩;have J:IntKind.i64.wrap ((n:Int)-(b:Int))=(F:Int):=by rw[Y6 _ X];omega
  have f1:a<=F:=X;have f2:F<=L:=X;have f3:L<=m:=X;have f4:L<=o:=X;have f5:n<=F+b:=X;have f6:F=a\/n=F+b:=.inr b5;have f7:L=m\/n=L+m:=.inr X;simp[J,wp];refine Z6.rounds (λq e v=>∃s r:Nat,q=r-s/\F<=s/\s<=r/\r<=L/\(s=F\/kk Chg.g f (n-s)<=kk Chg.g f (s-1))/\(r=L\/kk Chg.g f r<kk Chg.g f (p-r))/\En e 220 [(0,.one (.mrow l 0 f.length g)),(1,.i a),(2,.i m),(3,.i b),(4,.one (.fn G [])),(18,.i o),(19,.i n),(20,.i s),(21,.i r),(22,.i p)]/\Z0 h v [l]/\Chs v l g f) (L-F)
   ⟨F,L,rfl,X,X,X,.inl rfl,.inl rfl,by simp[J,e2],.refl,hc⟩ ?_
  rintro q e v ⟨s,r,rfl,g1,g2,g3,ag,ae,t,D,E⟩;simp[t];refine Vy (λhlt=>?_) (λhge=>?_);have bb:IntKind.i64.wrap ((s:Int)+(r:Int))=(s:Int)+r:=Y6 _ X;have ac:=Zq1 s r X;obtain⟨c,a8⟩:∃c,c=(s+r)/2:=⟨_,rfl⟩;rw[<-a8] at ac;have hic:s<=c/\c<r:=X
  obtain⟨d,hd⟩:∃d,p=c+d:=⟨p-c,X⟩;have b8:d<b:=X
  have bn:IntKind.i64.wrap ((p:Int)-(c:Int))=(d:Int):=by rw[Y6 _ X];omega
  have⟨sp,Y,z⟩:=E.a;have T:f[c]?=some (f[c]'X):=Y1 X;have U:f[d]?=some (f[d]'X):=Y1 X;generalize f[c]'X=x at T;generalize f[d]'X=y at U;have kx:=Zph (kd:=Chg.g) T;have ky:=Zph (kd:=Chg.g) U;have bd:=Zpg (sp:=sp) T;have a7:=Zpg (sp:=sp) U;have bc:c<f.length:=X
  have ba:d<f.length:=X;have a1:IntKind.i64.wrap ((c:Int)+1)=((c+1:Nat):Int):=Y6 _ X;simp[t,bb,ac];refine Z6.cu aL (λJ R=>Z0 h R [l]/\R.a l=v.a l/\En J 220 [(0,.one (.mrow l 0 f.length g)),(1,.i a),(2,.i m),(3,.i b),(4,.one (.fn G [])),(18,.i o),(19,.i n),(20,.i s),(21,.i r),(22,.i p),(23,.i c),(171,.b (!decide (x.g-y.g<0)))]) ?_ ?_;simp[t,bn,Y,bd,a7,bc,ba];refine Zx (hG y (Y2 U) x (Y2 T)) (by simp[Zpd]) ?_;have aw:=D.w;simp[t];exact⟨λ_ _ x=>x,Ze.of (by simp[t,aw])⟩;rintro J R ⟨aj,am,H⟩;rw[Y] at am;have ap:Chs R l g f:=⟨⟨sp,am,z⟩,E.lim⟩;simp[H];refine BJ (λC=>?_) (λC=>?_);have C:y.g<=x.g:=by simp at C;omega
  simp[H,a1];exact AQ.of (n':=r-(c+1)) X ⟨c+1,r,rfl,X,X,X,.inr (by rw[Y04,show n-(c+1)=d by omega,kx,ky];omega),ae,by simp[H],aj,ap⟩;have C:x.g<y.g:=by simp at C;omega
  simp[H];exact AQ.of (n':=c-s) X ⟨s,c,rfl,X,X,X,ag,.inr (by rw[show p-c=d by omega,kx,ky];omega),by simp[H],aj,ap⟩;obtain rfl:s=r:=X;obtain⟨w,b6⟩:∃w,n=s+w:=⟨n-s,X⟩;have bw:IntKind.i64.wrap ((n:Int)-(s:Int))=(w:Int):=by rw[Y6 _ X];omega
  have cut:Cut Chg.g f a s m w b:=by refine⟨X,X,X,X,s1,s2,?_,?_⟩;rw[show n-s=w by omega] at ag;omega;rw[show p-s=w-1 by omega] at ae;omega
  have bq:s+(w-m)=o:=X;have bh:¬(s<m/\m<w)->Zpf s m w f f:=λhn=>⟨rfl,λk=>by
   split
   congr 1;omega
   split
   congr 1;omega
   rfl⟩
  simp[t,bw];rcases(X:(s<m/\m<w)\/(s<m/\¬m<w)\/¬s<m) with⟨q1,q2⟩|⟨q1,q2⟩|q1
  focus
   simp[t,q1,q2];refine Zc (Zr6 v l g f s m w (.fn G []) E q1 q2 X _ λv B hv ak Z=>?_);have D:=D.trans Z
  rotate_left
  focus
   simp[t,q1,q2];obtain⟨B,hv,ak⟩:∃B,Zpf s m w f B/\Chs v l g B:=⟨f,bh X,E⟩
  rotate_left
  focus
   simp[t,q1];obtain⟨B,hv,ak⟩:∃B,Zpf s m w f B/\Chs v l g B:=⟨f,bh X,E⟩
  all_goals
   have bj:B.length=f.length:=hv.1;have al:Seg Chg.g a b f B:=(Zr3 hv X X X cut.lt).mono X X;have⟨r1,r2,r3,r4,rx⟩:=cut.parts hv;rw[bq] at r2 r3 rx
   try simp[t]
   rcases(X:(a<s/\s<o)\/(a<s/\¬s<o)\/¬a<s) with⟨q3,q4⟩|⟨q3,q4⟩|q3
   focus
    simp[t,q3,q4]
    have:=ih _ l g B a s o G X ak q3 q4 X (hG.seg al) r1 r2
    rw[bj] at this;refine Zc (this _ λv u O so ao hs3=>?_);have D:=D.trans hs3
   rotate_left
   focus
    simp[t,q3,q4];obtain⟨u,O,so,ao⟩:∃u,Seg Chg.g a o B u/\Zpb Chg.g u a o/\Chs _ l g u:=⟨B,.refl,.pick X r1 r2,ak⟩
   rotate_left
   focus
    simp[t,q3];obtain⟨u,O,so,ao⟩:∃u,Seg Chg.g a o B u/\Zpb Chg.g u a o/\Chs _ l g u:=⟨B,.refl,.pick X r1 r2,ak⟩
   all_goals
    have bi:=O.len
    try simp[t]
    rcases(X:(o<w/\w<b)\/(o<w/\¬w<b)\/¬o<w) with⟨q5,q6⟩|⟨q5,q6⟩|q5
    focus
     simp[t,q5,q6]
     have:=ih _ l g u o w b G X ao q5 q6 X ((hG.seg al).seg O) (r3.keep O (Y7 _)) (r4.keep O X)
     rw[bi,bj] at this;refine Zc (this _ λv P ar az ay br=>?_);have D:=D.trans br
    rotate_left
    focus
     simp[t,q5,q6];obtain⟨P,ar,az,ay⟩:∃P,Seg Chg.g o b u P/\Zpb Chg.g P o b/\Chs _ l g P:=⟨u,.refl,(Zpb.pick X r3 r4).keep O (Y7 _),ao⟩
    rotate_left
    focus
     simp[t,q5];obtain⟨P,ar,az,ay⟩:∃P,Seg Chg.g o b u P/\Zpb Chg.g P o b/\Chs _ l g P:=⟨u,.refl,(Zpb.pick X r3 r4).keep O (Y7 _),ao⟩
    all_goals
     try simp
     exact hk _ _ (al.trans ((O.mono (Y7 _) X).trans (ar.mono X (Y7 _)))) (Zpb.glue X rx O so ar az) ay D
 obtain⟨F,J⟩:∃F,F=a:=⟨_,rfl⟩;obtain⟨L,e2⟩:∃L,L=m:=⟨_,rfl⟩;have f1:a<=F:=X
 have f2:F<=L:=X;have f3:L<=m:=X;have f4:L<=o:=X;have f5:n<=F+b:=X;have f6:F=a\/n=F+b:=.inl J;have f7:L=m\/n=L+m:=.inl e2;simp[wp];refine Z6.rounds (λq e v=>∃s r:Nat,q=r-s/\F<=s/\s<=r/\r<=L/\(s=F\/kk Chg.g f (n-s)<=kk Chg.g f (s-1))/\(r=L\/kk Chg.g f r<kk Chg.g f (p-r))/\En e 220 [(0,.one (.mrow l 0 f.length g)),(1,.i a),(2,.i m),(3,.i b),(4,.one (.fn G [])),(18,.i o),(19,.i n),(20,.i s),(21,.i r),(22,.i p)]/\Z0 h v [l]/\Chs v l g f) (L-F)
  ⟨F,L,rfl,X,X,X,.inl rfl,.inl rfl,by simp[J,e2],.refl,hc⟩ ?_
 rintro q e v ⟨s,r,rfl,g1,g2,g3,ag,ae,t,D,E⟩;simp[t];refine Vy (λhlt=>?_) (λhge=>?_);have bb:IntKind.i64.wrap ((s:Int)+(r:Int))=(s:Int)+r:=Y6 _ X;have ac:=Zq1 s r X;obtain⟨c,a8⟩:∃c,c=(s+r)/2:=⟨_,rfl⟩;rw[<-a8] at ac;have hic:s<=c/\c<r:=X
 obtain⟨d,hd⟩:∃d,p=c+d:=⟨p-c,X⟩;have b8:d<b:=X
 have bn:IntKind.i64.wrap ((p:Int)-(c:Int))=(d:Int):=by rw[Y6 _ X];omega
 have⟨sp,Y,z⟩:=E.a;have T:f[c]?=some (f[c]'X):=Y1 X;have U:f[d]?=some (f[d]'X):=Y1 X;generalize f[c]'X=x at T;generalize f[d]'X=y at U;have kx:=Zph (kd:=Chg.g) T;have ky:=Zph (kd:=Chg.g) U;have bd:=Zpg (sp:=sp) T;have a7:=Zpg (sp:=sp) U;have bc:c<f.length:=X
 have ba:d<f.length:=X;have a1:IntKind.i64.wrap ((c:Int)+1)=((c+1:Nat):Int):=Y6 _ X;simp[t,bb,ac];refine Z6.cu aL (λJ R=>Z0 h R [l]/\R.a l=v.a l/\En J 220 [(0,.one (.mrow l 0 f.length g)),(1,.i a),(2,.i m),(3,.i b),(4,.one (.fn G [])),(18,.i o),(19,.i n),(20,.i s),(21,.i r),(22,.i p),(23,.i c),(171,.b (!decide (x.g-y.g<0)))]) ?_ ?_;simp[t,bn,Y,bd,a7,bc,ba];refine Zx (hG y (Y2 U) x (Y2 T)) (by simp[Zpd]) ?_;have aw:=D.w;simp[t];exact⟨λ_ _ x=>x,Ze.of (by simp[t,aw])⟩;rintro J R ⟨aj,am,H⟩;rw[Y] at am;have ap:Chs R l g f:=⟨⟨sp,am,z⟩,E.lim⟩;simp[H];refine BJ (λC=>?_) (λC=>?_);have C:y.g<=x.g:=by simp at C;omega
 simp[H,a1];exact AQ.of (n':=r-(c+1)) X ⟨c+1,r,rfl,X,X,X,.inr (by rw[Y04,show n-(c+1)=d by omega,kx,ky];omega),ae,by simp[H],aj,ap⟩;have C:x.g<y.g:=by simp at C;omega
 simp[H];exact AQ.of (n':=c-s) X ⟨s,c,rfl,X,X,X,ag,.inr (by rw[show p-c=d by omega,kx,ky];omega),by simp[H],aj,ap⟩;obtain rfl:s=r:=X;obtain⟨w,b6⟩:∃w,n=s+w:=⟨n-s,X⟩;have bw:IntKind.i64.wrap ((n:Int)-(s:Int))=(w:Int):=by rw[Y6 _ X];omega
 have cut:Cut Chg.g f a s m w b:=by refine⟨X,X,X,X,s1,s2,?_,?_⟩;rw[show n-s=w by omega] at ag;omega;rw[show p-s=w-1 by omega] at ae;omega
 have bq:s+(w-m)=o:=X;have bh:¬(s<m/\m<w)->Zpf s m w f f:=λhn=>⟨rfl,λk=>by
  split
  congr 1;omega
  split
  congr 1;omega
  rfl⟩
 simp[t,bw];rcases(X:(s<m/\m<w)\/(s<m/\¬m<w)\/¬s<m) with⟨q1,q2⟩|⟨q1,q2⟩|q1
 focus
  simp[t,q1,q2];refine Zc (Zr6 v l g f s m w (.fn G []) E q1 q2 X _ λv B hv ak Z=>?_);have D:=D.trans Z
 rotate_left
 focus
  simp[t,q1,q2];obtain⟨B,hv,ak⟩:∃B,Zpf s m w f B/\Chs v l g B:=⟨f,bh X,E⟩
 rotate_left
 focus
  simp[t,q1];obtain⟨B,hv,ak⟩:∃B,Zpf s m w f B/\Chs v l g B:=⟨f,bh X,E⟩
 all_goals
  have bj:B.length=f.length:=hv.1;have al:Seg Chg.g a b f B:=(Zr3 hv X X X cut.lt).mono X X;have⟨r1,r2,r3,r4,rx⟩:=cut.parts hv;rw[bq] at r2 r3 rx
  try simp[t]
  rcases(X:(a<s/\s<o)\/(a<s/\¬s<o)\/¬a<s) with⟨q3,q4⟩|⟨q3,q4⟩|q3
  focus
   simp[t,q3,q4]
   have:=ih _ l g B a s o G X ak q3 q4 X (hG.seg al) r1 r2
   rw[bj] at this;refine Zc (this _ λv u O so ao hs3=>?_);have D:=D.trans hs3
  rotate_left
  focus
   simp[t,q3,q4];obtain⟨u,O,so,ao⟩:∃u,Seg Chg.g a o B u/\Zpb Chg.g u a o/\Chs _ l g u:=⟨B,.refl,.pick X r1 r2,ak⟩
  rotate_left
  focus
   simp[t,q3];obtain⟨u,O,so,ao⟩:∃u,Seg Chg.g a o B u/\Zpb Chg.g u a o/\Chs _ l g u:=⟨B,.refl,.pick X r1 r2,ak⟩
  all_goals
   have bi:=O.len
   try simp[t]
   rcases(X:(o<w/\w<b)\/(o<w/\¬w<b)\/¬o<w) with⟨q5,q6⟩|⟨q5,q6⟩|q5
   focus
    simp[t,q5,q6]
    have:=ih _ l g u o w b G X ao q5 q6 X ((hG.seg al).seg O) (r3.keep O (Y7 _)) (r4.keep O X)
    rw[bi,bj] at this;refine Zc (this _ λv P ar az ay br=>?_);have D:=D.trans br
   rotate_left
   focus
    simp[t,q5,q6];obtain⟨P,ar,az,ay⟩:∃P,Seg Chg.g o b u P/\Zpb Chg.g P o b/\Chs _ l g P:=⟨u,.refl,(Zpb.pick X r3 r4).keep O (Y7 _),ao⟩
   rotate_left
   focus
    simp[t,q5];obtain⟨P,ar,az,ay⟩:∃P,Seg Chg.g o b u P/\Zpb Chg.g P o b/\Chs _ l g P:=⟨u,.refl,(Zpb.pick X r3 r4).keep O (Y7 _),ao⟩
   all_goals
    try simp
    exact hk _ _ (al.trans ((O.mono (Y7 _) X).trans (ar.mono X (Y7 _)))) (Zpb.glue X rx O so ar az) ay D
def Zrg(h:HS)(c:C)(a:List aD)(hr:Zr h 4 c a)(K:V->HS->Prop)
  (hk:∀c' h',MR h' 4 c' a->Z0 h h' []->(∀l∈Z c',h.p<=l.1/\l.1<h'.p)->ZG h h'->K (.one c') h'):
  Z5 prog 33 [.one c] h K:=by
 have F:=func33;have EL:=@QH;exact Gu
def Bk(b:List Chg)(s n:Nat):Prop:=∀a,s∣a->Zpb Chg.g b a (min (a+s) n)
def Zqa(b:List Chg)(s c n:Nat):Prop:=∀a,s∣a->c<=a->Zpb Chg.g b a (min (a+s) n)
def Zr4{s a b:Nat}(c:s∣a)(d:s∣b)(h:a<b):a+s<=b:=by
 obtain⟨x,rfl⟩:=c;obtain⟨y,rfl⟩:=d;have e:x<y:=Nat.lt_of_mul_lt_mul_left h
 have:=Nat.mul_le_mul_left s (show x+1<=y from e)
 rwa [Nat.mul_add,Y08] at this
def Bk.add{m d:List Chg}{s a b}(h:Bk m s a)(l:s∣a)(hb:b<=a+s)(aa:a<=b)(g:Seg Chg.g a b m d)(r:Zpb Chg.g d a b):Bk d s b:=λe c i j f k h3=>by
 rcases Y06 e a with q|q|q
 have:=Zr4 c l q
 rw[g.sk (.inl X),g.sk (.inl X)];exact h e c i j f k X;subst q;exact r i j f k X
 have:=Zr4 l c q
 omega
def Zqa.w{c d:List Chg}{s a b n}(h:Zqa c s a n)(aa:a<=b)(g:Seg Chg.g a b c d):Zqa d s b n:=λe f h0 i j k l m=>by rw[g.sk (.inr X),g.sk (.inr X)];exact h e f X i j k l m
set_option maxHeartbeats 4000000 in
def Zt7(h l c)(D:List Chg)(n:Nat)(G)(M:D.length=n)(S:Chs h l c D)(L:Zpw G D)(K)
  (Z:∀h' z,Seg Chg.g 0 n D z->Zpb Chg.g z 0 n->Chs h' l c z->Z0 h h' [l]->K (.tup []) h'):
  Z5 prog 67 [.one (.mrow l 0 n c),.i n,.one (.fn G [])] h K:=by
 refine Z5.qM func67 rfl kR rfl rfl I ?_;have hlim:=S.lim;simp;refine Z6.rounds (λq e h'=>∃(a b:Nat) (g:List Chg),q=n-a/\a<=n/\b=a+20/\20∣a/\Seg Chg.g 0 n D g/\Bk g 20 a/\En e 63 [(0,.one (.mrow l 0 n c)),(1,.i n),(2,.one (.fn G [])),(6,.i 20),(7,.i a),(8,.i b)]/\Z0 h h' [l]/\Chs h' l c g) n
  ⟨0,20,D,rfl,X,rfl,⟨0,rfl⟩,.refl,λa _ i j r o E=>X,I,.refl,S⟩ ?_
 rintro q e h' ⟨a,b,g,rfl,W,R,C,k,x,f,y,v⟩;have B:=k.len;simp[f];refine Vy (λV=>?_) (λU=>?_);have F:IntKind.i64.wrap ((b:Int)+20)=((b+20:Nat):Int):=Y6 _ X;simp[f]
 have:=Zqq h' l c g a b G v X X (L.seg k)
 rw[B,M] at this;refine Zc (this _ λo z u so A p=>?_);simp[f,F];exact AQ.of (n':=n-b) X ⟨b,b+20,z,rfl,X,rfl,X,k.trans (u.mono X X),x.add C X X u so,by simp[f,F],y.trans p,A⟩;simp[f]
 have:=Zqq h' l c g a n G v X X (L.seg k)
 rw[B,M] at this;refine Zc (this _ λo z u so A p=>?_);simp[f];refine Z6.rounds (λq e h'=>∃(s:Nat) (g:List Chg),q=n-s/\0<s/\s<=4194304/\Seg Chg.g 0 n D g/\Bk g s n/\En e 63 [(0,.one (.mrow l 0 n c)),(1,.i n),(2,.one (.fn G [])),(6,.i s)]/\Z0 h h' [l]/\Chs h' l c g) (n-20)
  ⟨20,z,rfl,X,X,k.trans (u.mono X X),x.add C X X u so,by simp[f],y.trans p,A⟩ ?_
 clear f y v k x B this u so A p;rintro q e h' ⟨s,g,rfl,ao,ap,k,x,f,y,v⟩;have B:=k.len;simp[f];refine Vy (λhlt=>?_) (λhge=>?_);obtain⟨t,ht⟩:∃t,t=s+s:=⟨_,rfl⟩;have P:IntKind.i64.wrap (2*(s:Int))=(t:Int):=by rw[Y6 _ X];omega
 have J:IntKind.i64.wrap ((s:Int)*2)=(t:Int):=by rw[Y6 _ X];omega
 simp[f,P];refine Z6.rounds (λq e h'=>∃(a b:Nat) (g:List Chg),q=n-a/\a<=n/\b=a+t/\t∣a/\Seg Chg.g 0 n D g/\Bk g t a/\Zqa g s a n/\En e 63 [(0,.one (.mrow l 0 n c)),(1,.i n),(2,.one (.fn G [])),(6,.i s),(7,.i a),(8,.i b)]/\Z0 h h' [l]/\Chs h' l c g) n
  ⟨0,t,g,rfl,X,X,Nat.dvd_zero t,k,λa _ i j r o E=>X,λa d _=>x a d,by simp[f,P],y,v⟩ ?_
 clear f y v k x B;rintro q e h' ⟨a,b,g,rfl,W,R,C,k,x,N,f,y,v⟩;have B:=k.len;obtain⟨m,hm⟩:∃m,m=a+s:=⟨_,rfl⟩;have T:IntKind.i64.wrap ((a:Int)+(s:Int))=(m:Int):=by rw[Y6 _ X];omega
 have Q:s∣a:=Nat.dvd_trans ⟨2,X⟩ C;have Y:s∣m:=by rw[hm];exact Nat.dvd_add Q (Nat.dvd_refl s)
 have O:=N a Q (Y7 _);have sm:=N m Y X;simp[f];refine Vy (λV=>?_) (λU=>?_);have F:IntKind.i64.wrap ((b:Int)+(t:Int))=((b+t:Nat):Int):=Y6 _ X;simp[f,T]
 have:=Zr5 (b-a) h' l c g a m b G (Y7 _) v X X X (L.seg k) (λi j r o E=>O i j r o X) (λi j r o E=>sm i j r o X)
 rw[B,M] at this;refine Zc (this _ λo z u so A p=>?_);simp[f,P,F];exact AQ.of (n':=n-b) X ⟨b,b+t,z,rfl,X,rfl,by rw[R];exact Nat.dvd_add C (Nat.dvd_refl t),k.trans (u.mono X X),x.add C X X u so,N.w X u,by simp[f,F],y.trans p,A⟩;simp[f,T];refine Vy (λam=>?_) (λal=>?_);simp[f]
 have:=Zr5 (n-a) h' l c g a m n G (Y7 _) v X X X (L.seg k) (λi j r o E=>O i j r o X) (λi j r o E=>sm i j r o X)
 rw[B,M] at this;refine Zc (this _ λo z u so A p=>?_);simp[f,J];exact AQ.of (n':=n-t) X ⟨t,z,rfl,X,X,k.trans (u.mono X X),x.add C X X u so,by simp[f,J],y.trans p,A⟩;simp[f,J];exact AQ.of (n':=n-t) X ⟨t,g,rfl,X,X,k,x.add C X X .refl (λi j r o E=>O i j r o X),by simp[f,J],y,v⟩;simp;exact Z _ _ k (λi j r o E=>x 0 (Nat.dvd_zero s) i j r o X) v y
def Zuo(h l a)(b:List Chg)(G)(i:Chs h l a b)(g:Zpw G b)(K)
  (j:∀c d,Seg Chg.g 0 b.length b d->Zpb Chg.g d 0 b.length->Chs c l a d->Z0 h c [l]->K (.tup []) c):
  Z5 prog 34 [.one (.mrow l 0 b.length a),.one (.fn G [])] h K:=by
 refine Z5.qM func34 rfl kR rfl rfl I ?_;simp;refine Zc (Zt7 h l a b b.length G rfl i g _ λc d k so f e=>?_);simp;exact j _ _ k so f e
def Zut(x y:Chg)(hx:0<=x.g/\x.g<=1000)(hy:0<=y.g/\y.g<=1000):Zq prog 35 [.agg x.z,.agg y.z] (.i (y.g-x.g)):=by have a:IntKind.i64.wrap (y.g-x.g)=y.g-x.g:=Y6 _ X;refine Zq.of_heap ?_;show Z5 _ _ [.agg (x.z.map C.d),.agg (y.z.map C.d)] HS.init _;refine Z5.ov func35 ?_;simp[Chg.z,a];exact .data rfl
def Zt8(h:HS)(c:C)(G:FuncId)(K:V->HS->Prop)(d:K (.tup []) h):
  Z5 prog 97 [.one c,.i 0,.i 0,.one (.fn G [])] h K:=by
 refine Z5.qM func97 rfl kR rfl rfl I ?_;have w:IntKind.i64.wrap 1=1:=dE
 simp[w];refine Z6.rounds (λq e a=>a=h/\En e 53 [(2,.i 0),(8,.i 1)]) 0 ⟨rfl,I⟩ ?_;rintro q e a ⟨rfl,b⟩;simp[b];exact d
def Zup(h:HS)(c:C)(G:FuncId)(g:c=.nil\/c=.z)(K:V->HS->Prop)(d:K (.tup []) h):
  Z5 prog 34 [.one c,.one (.fn G [])] h K:=by
 have j:∀K:V->HS->Prop,K (.tup []) h->Z5 prog 67 [.one c,.i 0,.one (.fn G [])] h K:=λK d=>by
  refine Z5.qM func67 rfl kR rfl rfl I ?_;simp;refine Z6.rounds (λq e b=>b=h/\En e 63 [(0,.one c),(1,.i 0),(2,.one (.fn G [])),(6,.i 20),(7,.i 0),(8,.i 20)]) 0 ⟨rfl,I⟩ ?_;rintro q e b ⟨rfl,a⟩;simp[a];refine Zc (Zt8 b c G _ ?_);simp[a];refine Z6.rounds (λq e f=>f=b/\En e 63 [(1,.i 0),(6,.i 20)]) 0 ⟨rfl,by simp[a]⟩ ?_;rintro q e f ⟨rfl,a⟩;simp[a];exact d
 refine Z5.qM func34 rfl kR rfl rfl I ?_;rcases g with rfl|rfl
 all_goals
  simp;refine Zc (j _ ?_);simp;exact d
def Zpc(a:List Chg):List Chg:=a.filter (λx=>x.g==2)++a.filter (λx=>x.g==1)
def Zpo(a:List Chg):aB (List Chg):=Zp (a.length<=2097152/\∀x∈a,x.g=1\/x.g=2) (some (Zpc a))
def Zrf(b:List Chg)(r:List Chg)(j:Is (Zpo b) r):Zq prog 11 [.l (b.map Chg.z)] (.l (r.map Chg.z)):=by
 obtain⟨⟨u,q⟩,j⟩:=j.chk;obtain rfl:=Zk j;refine Zq.of_heap ?_;show Z5 _ _ [.l (b.map Chg.z)] HS.init _;refine Z5.ov func11 ?_;simp;refine Zc (Zrg _ _ (b.map Zpd) ?_ _ λc p j hs hl2 hb=>?_)
 have:=Zr.data (h:=HS.init) (n:=4) (ts:=b.map Chg.z) (λt d=>by obtain⟨x,_,rfl⟩:=Yi.1 d;rfl) (by simpa using u)
 rw[YY] at this;exact this;simp;have o:∀a (k:List Chg),MR a 4 c (k.map Zpd)->F8 a (.one c) (.l (k.map Chg.z)):=λa k m=>m.frz I (λt d=>by obtain⟨x,_,rfl⟩:=Yi.1 d;rfl) λi x t f d=>by
  rw[Y9] at f d;cases h9:k[i]? with
  |none=>rw[h9] at f;simp at f
  |some y=>?_
  rw[h9] at f d;simp at f d;subst f d;exact⟨.data rfl,.data rfl,.data rfl,.data rfl,trivial⟩
 rcases j.2.2 with⟨C,a⟩|⟨l,g,G,rfl,a,D⟩;obtain rfl:b=[]:=by simpa using C
 refine Zc (Zup p c _ a _ ?_);simp;exact o p [] j;have E:Chs p l g b:=⟨⟨G,a,D⟩,u⟩;rw[Yd];refine Zc (Zuo p l g b _ E (λx f y F=>Zut x y (by have:=q x f;omega) (by have:=q y F;omega)) _ λa k v so s hs2=>?_);simp;have⟨w,B,A⟩:=s.a;have z:=v.len;have e:=Zu1 (k1:=1) (k2:=2) X q v so
 have:=o a k ⟨Zpn,by simpa using s.lim,.inr ⟨l,g,w,by simp[z],B,A⟩⟩
 rw[e,Yd] at this;exact this
structure DI(T:E)(a b p A q B:List Z8)(o:List Chg):Prop where
 ea:a=p++A
 eb:b=q++B
 pB:∀r∈p,∀z∈B,ZO (Z3 T r) (Z3 T z)<0
 qA:∀r∈q,∀z∈A,ZO (Z3 T r) (Z3 T z)<0
 snd:∀c∈o,c.u=T.y/\((c.g=1/\c.key=[]/\c.row∈q)\/(c.g=2/\c.row=[]/\(∃r∈p,c.key=Z3 T r)/\∀z∈b,Z3 T z≠c.key))
 cq:∀r∈q,r∈a\/∃c∈o,c.g=1/\c.row=r
 cp:∀r∈p,(∃z∈b,Z3 T z=Z3 T r)\/∃c∈o,c.g=2/\c.key=Z3 T r
 nd:o.Pairwise λc d=>c.g=2->d.g=2->c.key≠d.key
def DI.nil{T a b}:DI T a b [] a [] b []:=⟨rfl,rfl,I,I,I,I,I,List.Pairwise.nil⟩
def DI.del{T a b p x A q B o}(v:Wv T a)(h:DI T a b p (x::A) q B o)(n:∀z∈B,ZO (Z3 T x) (Z3 T z)<0):DI T a b (p++[x]) A q B (o++[⟨2,T.y,Z3 T x,[]⟩]):=by
 have u:∀r∈p,ZO (Z3 T r) (Z3 T x)<0:=λr g=>by
  have:=v
  rw[h.ea] at this;exact(Y3q.1 this).2.2 r g x I
 refine⟨by simp[h.ea],h.eb,λr g z j=>?_,λr g z j=>h.qA r g z (by simp[j]),λc l=>?_,λr g=>(h.cq r g).imp id λ⟨c,f,i⟩=>⟨c,by simp[f],i⟩,λr g=>?_,?_⟩;rcases Y3.1 g with f|f;exact h.pB r f z j;rw[Yj.1 f];exact n z j;rcases Y3.1 l with f|f;obtain⟨t,i⟩:=h.snd c f;exact⟨t,i.imp id λ⟨k,C,⟨r,g,m⟩,y⟩=>⟨k,C,⟨r,by simp[g],m⟩,y⟩⟩;rw[Yj.1 f];refine⟨rfl,.inr ⟨rfl,rfl,⟨x,I,rfl⟩,λz j e=>?_⟩⟩;rw[h.eb] at j;rcases Y3.1 j with i|i
 have:=h.qA z i x I;rw[e] at this;exact Uu this
 have:=n z i;rw[e] at this;exact Uu this
 rcases Y3.1 g with f|f;exact(h.cp r f).imp id λ⟨c,f,i⟩=>⟨c,by simp[f],i⟩;rw[Yj.1 f];exact .inr ⟨⟨2,T.y,Z3 T x,[]⟩,I,rfl,rfl⟩;refine Y3q.2 ⟨h.nd,Xt _ _,λc l d w s k2 e=>?_⟩;rw[Yj.1 w] at e;rcases(h.snd c l).2 with⟨k,_⟩|⟨_,_,⟨r,g,m⟩,_⟩;rw[k] at s;cases s
 have:=u r g
 rw[<-m,e] at this;exact Uu this
def DI.up{T a b p A q y B o}(h:DI T a b p A q (y::B) o)(n:∀z∈A,ZO (Z3 T y) (Z3 T z)<0):DI T a b p A (q++[y]) B (o++[⟨1,T.y,[],y⟩]):=by
 refine⟨h.ea,by simp[h.eb],λr g z j=>h.pB r g z (by simp[j]),λr g z j=>?_,λc l=>?_,λr g=>?_,λr g=>(h.cp r g).imp id λ⟨c,f,i⟩=>⟨c,by simp[f],i⟩,?_⟩;rcases Y3.1 g with f|f;exact h.qA r f z j;rw[Yj.1 f];exact n z j;rcases Y3.1 l with f|f;obtain⟨t,i⟩:=h.snd c f;exact⟨t,i.imp (λ⟨k,u,g⟩=>⟨k,u,by simp[g]⟩) id⟩;rw[Yj.1 f];exact⟨rfl,.inl ⟨rfl,rfl,I⟩⟩;rcases Y3.1 g with f|f;exact(h.cq r f).imp id λ⟨c,f,i⟩=>⟨c,by simp[f],i⟩;rw[Yj.1 f];exact .inr ⟨⟨1,T.y,[],y⟩,I,rfl,rfl⟩;refine Y3q.2 ⟨h.nd,Xt _ _,λc l d s k1 m e=>?_⟩;rw[Yj.1 s] at m;cases m
def DI.eq{T a b p x A q y B o}(G:Wv T a)(H:Wv T b)(h:DI T a b p (x::A) q (y::B) o)(v:Z3 T x=Z3 T y){u}(s:(u=o/\x=y)\/u=o++[⟨1,T.y,[],y⟩]):DI T a b (p++[x]) A (q++[y]) B u:=by
 have E:∀z∈A,ZO (Z3 T y) (Z3 T z)<0:=λz i=>by
  have:=G
  rw[h.ea] at this;rw[<-v];exact(YT.1 (Y3q.1 this).2.1).1 z i
 have F:∀z∈B,ZO (Z3 T x) (Z3 T z)<0:=λz i=>by
  have:=H
  rw[h.eb] at this;rw[v];exact(YT.1 (Y3q.1 this).2.1).1 z i
 have D:y∈b:=by rw[h.eb];simp
 have n:∀c∈o,c∈u:=λc l=>by rcases s with⟨rfl,_⟩|rfl<;>simp[l]
 refine⟨by simp[h.ea],by simp[h.eb],λr g z i=>?_,λr g z i=>?_,λc l=>?_,λr g=>?_,λr g=>?_,?_⟩;rcases Y3.1 g with f|f;exact h.pB r f z (by simp[i]);rw[Yj.1 f];exact F z i;rcases Y3.1 g with f|f;exact h.qA r f z (by simp[i]);rw[Yj.1 f];exact E z i;have m:c∈o->_:=λf=>by
  obtain⟨t,j⟩:=h.snd c f;exact(⟨t,j.imp (λ⟨k,w,g⟩=>⟨k,w,by simp[g]⟩) λ⟨k,w,⟨r,g,K⟩,L⟩=>⟨k,w,⟨r,by simp[g],K⟩,L⟩⟩:c.u=T.y/\((c.g=1/\c.key=[]/\c.row∈q++[y])\/(c.g=2/\c.row=[]/\(∃r∈p++[x],c.key=Z3 T r)/\∀z∈b,Z3 T z≠c.key)))
 rcases s with⟨rfl,_⟩|rfl;exact m l;rcases Y3.1 l with f|f;exact m f;rw[Yj.1 f];exact⟨rfl,.inl ⟨rfl,rfl,I⟩⟩;rcases Y3.1 g with f|f;exact(h.cq r f).imp id λ⟨c,f,j⟩=>⟨c,n c f,j⟩;rw[Yj.1 f];rcases s with⟨rfl,e⟩|rfl;exact .inl (by rw[h.ea,<-e];simp);exact .inr ⟨⟨1,T.y,[],y⟩,I,rfl,rfl⟩;rcases Y3.1 g with f|f;exact(h.cp r f).imp id λ⟨c,f,j⟩=>⟨c,n c f,j⟩;rw[Yj.1 f];exact .inl ⟨y,D,v.symm⟩;rcases s with⟨rfl,_⟩|rfl;exact h.nd;refine Y3q.2 ⟨h.nd,Xt _ _,λc l d J k1 C e=>?_⟩;rw[Yj.1 J] at C;cases C
def Zrk(T:E)(hT:T.pk.length<=6)(a b:List aE)(la:a.length<=24)(lb:b.length<=24)(j:Wv T a)(G:Wv T b):Wp (Zpz T a b) λr=>r.length<=48/\DI T a b a [] b [] r:=by
 have hL:=VX;unfold Zpz;refine Xd (λs=>s.2.1.length+s.1.length+s.2.2.length<=48/\∃p q,DI T a b p s.2.2 q s.1 s.2.1) (λs=>s.1.length+s.2.2.length) ?_ _ _ ⟨sO,[],[],DI.nil⟩ (by simp[Fp];omega);have g:∀(u:Z8) (f:List Z8),List.drop 1 (List.take (u::f).length (u::f))=f:=λu f=>I
 rintro⟨B,o,A⟩ next ⟨l,p,q,e⟩ hn
 simp only at l e;refine X4 (by simp only[Wm];omega) (X1 (λh=>X1 (λt=>?_) λt=>X1 (λv=>?_) λv=>?_) λh=>X2 ⟨by show o.length<=48;omega,?_⟩);have D:A=[]:=Y02.1 (by simpa using t);subst D;cases B with
 |nil=>simp at h
 |cons y B=>?_
 simp only[YM,Y3a] at l;refine X5 (i:=0) rfl (X0 (Wb rfl) λz _ d=>X8 sO (X4 sO (hn _ ⟨sO,p,q++[y],?_⟩ I)));simp only[g];rw[d];exact e.up I;have F:B=[]:=Y02.1 (by simpa using v);subst F;cases A with
 |nil=>simp at h
 |cons x A=>?_
 simp only[YM,Y3a] at l;refine X5 (i:=0) rfl (X0 (Ua T x X) λz _ d=>X8 sO (X4 sO (hn _ ⟨sO,p++[x],q,?_⟩ I)));simp only[g];rw[d];exact e.del j I;cases A with
 |nil=>simp at t
 |cons x A=>?_
 cases B with
 |nil=>simp at v
 |cons y B=>?_
 simp only[YM] at l;refine X5 (i:=0) rfl (X5 (i:=0) rfl (X0 (Ua T x X) λU _ H=>X0 (Ua T y X) λV _ P=>X0 (Kk U V (by rw[H];simp[Z3];omega)) λc _ n=>?_));rw[H,P] at n;have O:∀{f:List Z8} {u:Z8} {W:List Z8},Wv T (W++u::f)->∀z∈f,ZO (Z3 T u) (Z3 T z)<0:=λm z d=>(YT.1 (Y3q.1 m).2.1).1 z d;have K:=j;have k:=G;rw[e.ea] at K;rw[e.eb] at k;refine X1 (λw=>?_) λw=>X1 (λC=>?_) λC=>?_;have Q:c<0:=by simpa using w
 refine X0 (Ua T x X) λz _ d=>X8 sO (X4 sO (hn _ ⟨sO,p++[x],q,?_⟩ I));simp only[g];rw[d];refine e.del j λz d=>?_;rcases Y5.1 d with rfl|d
 rwa [<-n]
 exact Dn (by rwa [<-n]) (O k z d);have Q:0<c:=by simpa using C
 have J:=Qi (show 0<ZO (Z3 T x) (Z3 T y) by rwa [<-n]);refine X0 (Wb rfl) λz _ d=>X8 sO (X4 sO (hn _ ⟨sO,p,q++[y],?_⟩ I));simp only[g];rw[d];refine e.up λz d=>?_;rcases Y5.1 d with rfl|d;exact J;exact Dn J (O K z d);have N:Z3 T x=Z3 T y:=Gs (by simp at w C;omega);refine X0 (EO x y) λq9 _ S=>X1 (λm=>?_) λm=>?_;refine X0 (Wb rfl) λz _ d=>X8 sO (X4 sO (X4 sO (hn _ ⟨sO,p++[x],q++[y],?_⟩ sO)));simp only[g];rw[d];exact e.eq j G N (.inr rfl);have R:x=y:=S.1 (by simpa using m);refine X4 sO (X4 sO (hn _ ⟨sO,p++[x],q++[y],?_⟩ sO));simp only[g];exact e.eq j G N (.inl ⟨rfl,R⟩);have D:A=[]:=Y02.1 (by simp at h;omega);have F:B=[]:=Y02.1 (by simp at h;omega);subst D F;have L:=e.ea;have M:=e.eb;simp only[Ym] at L M;subst L M;exact e
structure DX(S:Sch)(a b:List J)(n:Nat)(cs:List Chg):Prop where
 len:cs.length<=48*n
 snd:∀c∈cs,∃(k:Nat) (T:E) (x y:J),k<n/\S.q[k]?=some T/\a[k]?=some x/\b[k]?=some y/\c.u=T.y/\((c.g=1/\c.key=[]/\c.row∈y.rows)\/(c.g=2/\c.row=[]/\(∃r∈x.rows,c.key=Z3 T r)/\∀z∈y.rows,Z3 T z≠c.key))
 cq:∀(k:Nat) (T:E) (x y:J),k<n->S.q[k]?=some T->a[k]?=some x->b[k]?=some y->∀r∈y.rows,r∈x.rows\/∃c∈cs,c.u=T.y/\c.g=1/\c.row=r
 cp:∀(k:Nat) (T:E) (x y:J),k<n->S.q[k]?=some T->a[k]?=some x->b[k]?=some y->∀r∈x.rows,(∃z∈y.rows,Z3 T z=Z3 T r)\/∃c∈cs,c.u=T.y/\c.g=2/\c.key=Z3 T r
 nd:cs.Pairwise λc d=>c.g=2->d.g=2->c.u=d.u->c.key≠d.key
def DX.kinds{S a b n d}(h:DX S a b n d):∀c∈d,c.g=1\/c.g=2:=λc f=>by obtain⟨k,T,x,y,-,-,-,-,-,e⟩:=h.snd c f;exact e.imp (·.1) (·.1)
def Zu7{S:Sch}(F:VS S){a b:List J}(H:CF S a)(K:CF S b)(N:VE S a=some 0)(O:VE S b=some 0):Wp (Zpp S a b) λq=>q.2=0/\DX S a b S.q.length q.1:=by
 have hL:=VX;have h6:=F.t6;have ad:=H.len;have ae:=K.len;have Q:=F.ord.1.uniq;unfold Zpp;refine X0 (Wb F.ok) λe _ L=>?_;subst L;refine X1 (λh=>by cases h) λ_=>X6 (λ_ _=>True) trivial ?_ λ_ _=>X6 (λi (s:List Chg)=>DX S a b i s) ⟨I,I,λk T x y h=>absurd h (XB _),λk T x y h=>absurd h (XB _),List.Pairwise.nil⟩ ?_ λs o=>X2 ⟨rfl,o⟩
 .intro i x s next ac D _ M
  have C:VE S x=some 0:=by have D:x∈[a,b]:=D;rcases Y5.1 D with rfl|D;exact N;rw[Yj.1 D];exact O
  refine X0 (Wb C) λe _ L=>?_;subst L;exact X1 (λh=>by cases h) λ_=>M () trivial
 intro i T s next v G o M
 have hi:=(Y0.1 v).1;have l:a[i]?=some a[i]:=Y1 X;have t:b[i]?=some b[i]:=Y1 X;generalize a[i]=x at l;generalize b[i]=y at t;have hl:=o.len;refine X5 l (X5 t (X0 (Zrk T (F.tab T G).pk6 _ _ (H.l24 _ (Y2 l)) (K.l24 _ (Y2 t)) (H.asc i x T l v).pw (K.asc i y T t v).pw) λr _ V=>X8 X (M _ ?_)));obtain⟨ab,u⟩:=V;refine⟨sO,λc C=>?_,λk p w A U g j m z E=>?_,λk p w A U g j m z E=>?_,?_⟩;rcases Y3.1 C with f|f;obtain⟨k,p,w,A,n,B⟩:=o.snd c f;exact⟨k,p,w,A,X,B⟩;exact⟨i,T,x,y,X,v,l,t,u.snd c f⟩;rcases Yx k i with h9|h9;exact(o.cq k p w A h9 g j m z E).imp id λ⟨c,f,n⟩=>⟨c,by simp[f],n⟩;obtain rfl:k=i:=X
 rw[v] at g;cases g;rw[l] at j;cases j;rw[t] at m;cases m;exact(u.cq z E).imp id λ⟨c,f,n⟩=>⟨c,by simp[f],(u.snd c f).1,n⟩;rcases Yx k i with h9|h9;exact(o.cp k p w A h9 g j m z E).imp id λ⟨c,f,n⟩=>⟨c,by simp[f],n⟩;obtain rfl:k=i:=X
 rw[v] at g;cases g;rw[l] at j;cases j;rw[t] at m;cases m;exact(u.cp z E).imp id λ⟨c,f,n⟩=>⟨c,by simp[f],(u.snd c f).1,n⟩;refine Y3q.2 ⟨o.nd,u.nd.imp λf n B _=>f n B,λc C d R k1 k2 e=>?_⟩;exfalso;obtain⟨k,p,w,A,n,B,-,-,P,-⟩:=o.snd c C
 have:=(u.snd d R).1
 rw[P,this] at e
 have:=Q k i p T B v (by rw[e];exact ED _)
 omega
end
end Go.Am
section
namespace Go.Am
def Zsq(T c d)(n:T.pk.length<=6)(hl:c.length<=24)(k:Wv T c)(p:ZR (Z3 T) c d≠none):Wp (FY T c d) λq=>q.2=true/\∃a b o,Mid T c d a b [o]/\q.1=a++b:=by
 unfold FY;refine X0 (Cl c X) λo _ s=>?_;subst s;refine X0 (GT T o _ n) λq _ t=>?_;have⟨i,r,_,j,u,m⟩:=t;rw[r];refine X1 (λh=>?_) λh=>?_;have⟨x,l,f⟩:=u h;have hlt:=(Y0.1 l).1;exact X4 ⟨X,X⟩ (X2 ⟨rfl,_,_,_,KM k j l f,rfl⟩);exfalso;have g:=Ln k j (m h);refine p (Cs.2 λz f e=>?_);rw[g.eq,Yv] at f;rcases Y3.1 f with h1|h1
 have:=g.lo z h1;rw[e] at this;exact Uu this
 have:=g.hi z h1;rw[e] at this;exact Uu this
open Classical in
def Zu3{T:E}{c k a b o}(d:Mid T c k a b [o])(n:Wv T c)(κ:aE):ZR (Z3 T) (a++b) κ=if k=κ then none else ZR (Z3 T) c κ:=by
 have r:=d.del n;by_cases h:k=κ;rw[if_pos h];subst h;refine Cs.2 λz f e=>?_;rcases Y3.1 f with h1|h1
 have:=d.lo z h1;rw[e] at this;exact Uu this
 have:=d.hi z h1;rw[e] at this;exact Uu this
 rw[if_neg h];cases f:ZR (Z3 T) c κ with|none=>?_|some z=>?_;have p:=Cs.1 f;refine Cs.2 λz l=>p z ?_;rw[d.eq];rcases Y3.1 l with h1|h1<;>simp[h1];have⟨i,j⟩:=Ut f;have q:Z3 T o=k:=by rcases d.os with g|⟨o',g,m⟩;cases g;cases g;exact m
 have:z∈a++b:=by rw[d.eq] at i;rcases Y3.1 i with h1|h1;simp[h1];rcases Y3.1 h1 with h2|h2;rw[Yj] at h2;subst h2;exact absurd (q.symm.trans j) h;simp[h2]
 rw[<-j];exact Z7i r this
def Zu2{T:E}{a b:List Z8}(d:Wv T a)(e:Wv T b)(h:∀κ,ZR (Z3 T) a κ=ZR (Z3 T) b κ):a=b:=
 ZJ.ext d e λx=>⟨λc=>(Ut ((h _).symm.trans (Z7i d c))).1,λc=>(Ut ((h _).trans (Z7i e c))).1⟩
def Zu6{T:E}{a b:List Z8}(c:Wv T a)(h:∀x∈a,ZR (Z3 T) b (Z3 T x)≠none):a.length<=b.length:=by
 have:=List.Nodup.length_le_of_subset (l₁:=a.map (Z3 T)) (l₂:=b.map (Z3 T)) (Y05.2 (c.imp λh e=>by rw[e] at h;exact Uu h)) λk d=>by
  obtain⟨x,f,rfl⟩:=Yi.1 d;cases hz:ZR (Z3 T) b (Z3 T x) with
  |none=>exact absurd hz (h x f)
  |some z=>?_
  have⟨g,i⟩:=Ut hz;exact Yi.2 ⟨z,g,i⟩
 simpa using this
def Zr2{α:Type}(p q:α->Bool)(h:∀x,p x=true->q x=false):∀xs:List α,(xs.filter p).length+(xs.filter q).length<=xs.length
 |[]=>by simp
 |x::xs=>by have ih:=Zr2 p q h xs;have a:=h x;cases h1:p x<;>cases h2:q x<;>simp[h1,h2] at a|-<;>omega
def Zu5(a:List Chg):(Zpc a).length<=a.length:=by
 unfold Zpc;rw[Ye];exact Zr2 _ _ (λx h=>by have:x.g=2:=sU h;simp[this]) a
def Zu4{a:List Chg}{c}(h:c∈Zpc a):c∈a:=by rcases Y3.1 h with h1|h1<;>exact(Y3b.1 h1).1
def Zuq{a:List Chg}{i:Nat}{c}(h:(Zpc a)[i]?=some c)(hc:c.g=1){d}(g:d∈a)(f:d.g=2):d∈(Zpc a).take i:=by
 unfold Zpc at h|-;rcases Yx i (a.filter (λx=>x.g==2)).length with h9|h9;rw[Yu h9] at h
 have:c.g=2:=sU (Y3b.1 (Y2 h)).2
 omega;have k:d∈a.filter (λx=>x.g==2):=Y3b.2 ⟨g,by simp[f]⟩;obtain⟨j,b,e⟩:=Yo k;refine Y2 (i:=j) ?_;rw[Y39 X,Yu b,Y1 b,e]
def Zus{S a b n}{f:List Chg}(D:DX S a b n f){i:Nat}{c}(h:(Zpc f)[i]?=some c)(o:c.g=2){d}(g:d∈(Zpc f).take i):d.g=2/\(d.u=c.u->d.key≠c.key):=by
 have l:=D.nd.filter (λx=>x.g==2);unfold Zpc at h g;rcases Yx i (f.filter (λx=>x.g==2)).length with h9|h9;rw[Yu h9] at h;rw[Xg X] at g;have k:d.g=2:=sU (Y3b.1 (XE g)).2;generalize f.filter (λx=>x.g==2)=us at h g l h9;obtain⟨j,p,e⟩:=Yo g;simp only[YA] at p;rw[XX] at e;have m:=(Y0.1 h).2
 have:=YK.1 l j i X h9 X
 rw[e,m] at this;exact⟨k,this k o⟩;rw[YC h9] at h
 have:c.g=1:=sU (Y3b.1 (Y2 h)).2
 omega
def Zpj(T:E)(c:Chg):aE:=if c.g=1 then Z3 T c.row else c.key
def Zpk(T:E)(a:List Chg)(κ:aE):Prop:=∃c∈a,c.u=T.y/\Zpj T c=κ
def Zqz{T cs c κ}:Zpk T (cs++[c]) κ↔Zpk T cs κ\/(c.u=T.y/\Zpj T c=κ):=by
 constructor;rintro⟨d,b,h⟩;rcases Y3.1 b with a|a;exact .inl ⟨d,a,h⟩;rw[Yj.1 a] at h;exact .inr h;rintro(⟨d,b,h⟩|h);exact⟨d,by simp[b],h⟩;exact⟨c,I,h⟩
def DX.rest{S a b n i}(D:DX S a b n i){k:Nat}{T x y}(m:k<n)(l:S.q[k]?=some T)(o:a[k]?=some x)(p:b[k]?=some y)(s:Wv T x.rows){κ}(h:¬Zpk T i κ):ZR (Z3 T) x.rows κ=ZR (Z3 T) y.rows κ:=by
 cases hz:ZR (Z3 T) y.rows κ with|some r=>?_|none=>?_;have⟨u,q⟩:=Ut hz;rcases D.cq k T x y m l o p r u with d|⟨c,d,f,j,g⟩;rw[<-q];exact Z7i s d;exact absurd ⟨c,d,f,by unfold Zpj;rw[if_pos j,g,q]⟩ h;refine Cs.2 λr t e=>?_;rcases D.cp k T x y m l o p r t with⟨z,d,f⟩|⟨c,d,f,j,g⟩;exact Cs.1 hz z d (f.trans e);exact h ⟨c,d,f,by unfold Zpj;rw[if_neg X,g,e]⟩
def AI(S:Sch)(a b:List J)(done:List Chg)(c:List J):Prop:=c.length=a.length/\∀(k:Nat) T x y w,S.q[k]?=some T->a[k]?=some x->b[k]?=some y->c[k]?=some w->w.u=x.u/\Wv T w.rows/\w.rows.length<=24/\∀κ,(Zpk T done κ->ZR (Z3 T) w.rows κ=ZR (Z3 T) y.rows κ)/\(¬Zpk T done κ->ZR (Z3 T) w.rows κ=ZR (Z3 T) x.rows κ)
def Zrl{S}(j:VS S){T}(k:T∈S.q){r}(m:CR T r):BZ T (Z3 T r)=some 0:=by
 have l:=j.tab T k;have hp:=l.pk6;refine Ww ?_;unfold BZ;refine X9 (by simp[Z3])<|X6 (λ_ _=>True) trivial ?_ λ_ _=>X2 rfl;intro i v _ next e hm _ s
 have q:=(Y0.1 e).1;have o:i<T.pk.length:=by simpa[Z3] using q
 have a:T.pk[i]?=some T.pk[i]:=Y1 o;generalize T.pk[i]=κ at a;have n:v=Zu r κ:=by unfold Z3 at e;rw[Y9,a] at e;exact(Option.some.inj e).symm
 have b:=l.pk _ (Y2 a);have ae:=m.len;have d:=m.cell _ _ _ (Zta ⟨b.1,X⟩) (Zqx b);rw[<-n] at d;have h:=Sa j k (Y2 a);have f:v.g≠0:=λp=>by rw[d.2.1 p] at h;cases h
 refine Xb d.1 ?_;refine X9 rfl<|X5 a (X3 b.1 b.2 λc g _=>X9 ?_ (s () trivial));rw[Zqx b] at g;cases g;simp[d.2.2 f]
def Ztd{S T}{c:Chg}{k:Nat}(a:Wg S c.u=some ((k:Int),true))(d:S.q[k]?=some T)(e:c.g=1)(g:c.key=[])(f:CR T c.row):Et S c=some 0:=by have b:Aq T c.row=some 0:=Z1v f;unfold Et;rw[a];simp[e,g,Z1,Za,d,b]
def Zte{S T}{c:Chg}{k:Nat}(a:Wg S c.u=some ((k:Int),true))(b:S.q[k]?=some T)(d:c.g=2)(f:c.row=[])(e:BZ T c.key=some 0):Et S c=some 0:=by unfold Et;rw[a];simp[d,f,Z1,Za,b,e]
def Zsn{S:Sch}(L:VS S){a b:List J}(H:CF S a)(P:CF S b){j}(D:DX S a b S.q.length j)(a8:j.length<=24):Co S a (Zpc j)=some (b,0):=by
 have ba:=H.len;have bc:=P.len;have hU:=L.ord.1.uniq;have bb:=Zu5 j;have t6:=L.t6;refine Ww ?_;unfold Co;refine Xb L.ok ?_;refine X9 rfl<|Xb (Ie (λT f=>(L.tab T f).pk6) H) ?_;refine X9 rfl<|X9 sO<|X0 (Cm a X λr Q=>by have:=H.l24 r Q;omega) λU _ az=>?_;subst az;refine X6 (λi g=>AI S U b ((Zpc j).take i) g) ⟨rfl,λk T x y w f l n C=>by rw[l] at C;cases C;exact⟨rfl,(H.asc k x T l f).pw,H.l24 _ (Y2 l),λκ=>⟨λ⟨c,h,_⟩=>by simp at h,λ_=>rfl⟩⟩⟩ ?_ λg ho=>X2 ?_
 .intro i c g next aj aw ho hn
  have⟨o1,o2⟩:=ho;obtain⟨k,T,x,y,ax,f,l,n,ad,hc⟩:=D.snd c (Zu4 aw);have ah:=Y2 f;obtain⟨t,Y,am⟩:=Cz L.ord.1 ah;obtain rfl:t=k:=hU _ _ _ _ am f (ED _);clear am;rw[<-ad] at Y;have hi:=Y0.1 aj;have C:g[t]?=some g[t]:=Y1 X;generalize g[t]=w at C;have⟨w1,O,w3,R⟩:=o2 t T x y w f l n C;have ar:=(L.tab T ah).pk6;have ay:=(P.asc t y T n f).pw;have ak:=(H.asc t x T l f).pw;have ag:(Zpc j).take (i+1)=(Zpc j).take i++[c]:=by rw[Yg hi.1,hi.2]
  have upd:∀v:List Z8,(∀κ,ZR (Z3 T) v κ=ZR (Z3 T) w.rows κ\/Zpj T c=κ)->ZR (Z3 T) v (Zpj T c)=ZR (Z3 T) y.rows (Zpj T c)->∀κ,(Zpk T ((Zpc j).take (i+1)) κ->ZR (Z3 T) v κ=ZR (Z3 T) y.rows κ)/\(¬Zpk T ((Zpc j).take (i+1)) κ->ZR (Z3 T) v κ=ZR (Z3 T) x.rows κ):=λv s A κ=>by
   rw[ag,Zqz];by_cases e:Zpj T c=κ;rw[<-e];exact⟨λ_=>A,λm=>absurd (.inr ⟨ad,rfl⟩) m⟩;rw[(s κ).resolve_right e];exact⟨λm=>(R κ).1 (m.resolve_right λK=>e K.2),λm=>(R κ).2 λK=>m (.inl K)⟩
  have W:∀v:List Z8,Wv T v->v.length<=24->(∀κ,(Zpk T ((Zpc j).take (i+1)) κ->ZR (Z3 T) v κ=ZR (Z3 T) y.rows κ)/\(¬Zpk T ((Zpc j).take (i+1)) κ->ZR (Z3 T) v κ=ZR (Z3 T) x.rows κ))->AI S U b ((Zpc j).take (i+1)) (g.set (t:Int).toNat ⟨w.u,v⟩):=λv s A F=>by
   refine⟨by rwa [Xf],λk' T' x' y' w' G M N E=>?_⟩;rw[Yn] at E;by_cases e:k'=t;subst e;rw[f] at G;cases G;rw[l] at M;cases M;rw[n] at N;cases N;rw[Yr X] at E;cases E;exact⟨w1,s,A,F⟩;rw[Ys (Ne.symm e)] at E;have⟨q1,q2,q3,q4⟩:=o2 k' T' x' y' w' G M N E;refine⟨q1,q2,q3,λκ=>?_⟩;have hne:¬c.u=T'.y:=λm=>e (hU k' t T' T G f (by rw[<-m,ad];exact ED _));rw[ag,Zqz];exact⟨λm=>(q4 κ).1 (m.resolve_right λK=>hne K.1),λm=>(q4 κ).2 λK=>m (.inl K)⟩
  unfold Fe;rcases hc with⟨I,ao,ab⟩|⟨I,ab,⟨r0,aq,ap⟩,a1⟩;have V:Zpj T c=Z3 T c.row:=if_pos I;refine Xb (Ztd Y f I ao (P.row t y T n f _ ab)) ?_;refine X9 rfl<|Xb Y ?_;refine X5 f (X5 C (X1 (λ_=>?_) λh=>by rw[I] at h;cases h));refine X0 (Ir T w.rows c.row ar X O) λrows _ Q=>?_;obtain⟨g1,g2,p,q,os,hm,rfl⟩:=Q;have Z:=Zp0 hm O;have af:=upd _ (λκ=>by rw[Z];by_cases e:Z3 T c.row=κ;exact .inr (V.trans e);exact .inl (if_neg e)) (by rw[V,Z,if_pos rfl];exact(Z7i ay ab).symm)
  have B:(p++c.row::q).length<=24:=by
   refine YE (Zu6 (b:=y.rows) g1 λz hz m=>?_) (P.l24 _ (Y2 n));have ae:=Z7i g1 hz;by_cases e:Zpk T ((Zpc j).take (i+1)) (Z3 T z);rw[(af _).1 e,m] at ae;cases ae;rw[(af _).2 e] at ae;have⟨z1,_⟩:=Ut ae;rcases D.cp t T x y ax f l n z z1 with⟨u,s,A⟩|⟨d,s,A,F,h4⟩;exact Cs.1 m u s A;refine e ⟨d,?_,A,by unfold Zpj;rw[if_neg X,h4]⟩;rw[ag];exact YV _ (Zuq aj I s F)
  exact X1 (λh=>by simp only[decide_eq_true_eq] at h;omega) λ_=>hn _ (W _ g1 B af);have V:Zpj T c=c.key:=if_neg X;have al:=Zrl L ah (H.row t x T l f _ aq);rw[<-ap] at al;have au:¬Zpk T ((Zpc j).take i) c.key:=λ⟨d,s,A,F⟩=>by
   have⟨d1,d2⟩:=Zus D aj I s;refine d2 (A.trans ad.symm) ?_;unfold Zpj at F
   rwa [if_neg X] at F
  have a7:ZR (Z3 T) w.rows c.key≠none:=by rw[(R _).2 au,ap,Z7i ak aq];simp
  refine Xb (Zte Y f I ab al) ?_;refine X9 rfl<|Xb Y ?_;refine X5 f (X5 C (X1 (λh=>by rw[I] at h;cases h) λ_=>?_));refine X0 (Zsq T w.rows c.key ar w3 O a7) λd _ hd=>?_;obtain⟨d1,p,q,o,hm,d2⟩:=hd;have Z:=Zu3 hm O;have B:(p++q).length<=24:=by
   have:=congrArg List.length hm.eq
   simp at this;simp;omega
  refine X9 (by simp[d1]) (hn _ ?_);rw[d2];refine W _ (hm.del O) B (upd _ (λκ=>?_) ?_);rw[Z];by_cases e:c.key=κ;exact .inr (V.trans e);exact .inl (if_neg e);rw[V,Z,if_pos rfl];exact(Cs.2 a1).symm
 have⟨o1,o2⟩:=ho;refine Prod.ext (show g=b from ?_) rfl;refine YU λk=>?_;rcases Yx k S.q.length with h|h;have f:S.q[k]?=some S.q[k]:=Y1 h;have l:U[k]?=some U[k]:=Y1 X;have n:b[k]?=some b[k]:=Y1 X;have C:g[k]?=some g[k]:=Y1 X;generalize S.q[k]=T at f;generalize U[k]=x at l;generalize b[k]=y at n;generalize g[k]=w at C;have⟨w1,O,w3,R⟩:=o2 k T x y w f l n C;have ak:=(H.asc k x T l f).pw;have n1:=ZD.1 (H.y k x T l f);have n2:=ZD.1 (P.y k y T n f);have Q:w.rows=y.rows:=Zu2 O (P.asc k y T n f).pw λκ=>by
  by_cases e:Zpk T ((Zpc j).take (Zpc j).length) κ;exact(R κ).1 e;rw[(R κ).2 e];refine D.rest h f l n ak λ⟨c,s,A⟩=>e ⟨c,?_,A⟩;rw[Yl];unfold Zpc;rcases D.kinds c s with F|F;exact Xj _ (Y3b.2 ⟨s,by simp[F]⟩);exact YV _ (Y3b.2 ⟨s,by simp[F]⟩)
 rw[C,n];cases w;cases y;simp only at w1 n2 Q;rw[w1,n1,n2,Q];rw[Yq X,Yq X]
end Go.Am
end
namespace Go.Am
section
instance Zv9(changes:List Chg):Con (Zpo changes) prog 11 [.one (.d (.sl (changes.map Chg.z)))] (λr=>.one (.d (.sl (r.map Chg.z)))):=⟨λr hm=>Zrf changes r hm⟩
instance Zvd(s_:Sch)(a:List J)(b:List J):Con (Zpp s_ a b) prog 23 [.agg s_.z,.one (.d (.sl (a.map J.z))),.one (.d (.sl (b.map J.z)))] (λr=>.tup [.one (.d (.sl (r.1.map Chg.z))),.one (.d (.int .i64 r.2))]):=⟨λr hm=>Zri s_ a b r hm⟩
def Zpy(g_:Gr)(db:Db)(v_:Int)(changes:List Chg)(u:Int):aB ((List Chg)×Int×Int):=
 Z1 (Bv g_ db v_ changes) λv3=>bif (v3.2.2 !=0) then some ([],v3.2.1,v3.2.2) else bif decide (u<0) then some ([],0,4) else bif decide ((db.insts.length:Int)<=u) then some ([],0,4) else Z1 (Dh g_ u) λv9=>bif (v9.2 !=0) then some ([],0,v9.2) else Za v3.1.insts u λx12=>Za db.insts u λx13=>Z1 (Zpp v9.1 x12 x13) λv14=>some (v14.1,0,v14.2)
instance Zva(g_:Gr)(db:Db)(v_:Int)(changes:List Chg)(u:Int):Con (Zpy g_ db v_ changes u) prog 7 [.agg g_.z,.agg db.z,.one (.d (.int .i64 v_)),.one (.d (.sl (changes.map Chg.z))),.one (.d (.int .i64 u))] (λr=>.tup [.one (.d (.sl (r.1.map Chg.z))),.one (.d (.int .i64 r.2.1)),.one (.d (.int .i64 r.2.2))]):=by unfold Zpy;have p1:PH [9] (Y.qB aF .done):=.intro;exact go 66 func7
def Zq4(g_:Gr)(db:Db)(v_:Int)(changes:List Chg):aB Bool:=
 Z1 (UC) λv3=>bif !v3 then Z1 (UC) λv5=>(some v5) else Z1 (Dd g_ db changes) λv6=>bif !v6 then Z1 (UC) λv8=>(some v8) else Z1 (Zpy g_ db v_ changes v_) λv9=>Z1 (Bv g_ db v_ changes) λv10=>bif (v9.2.2 !=0) then some (v9.2.2==v10.2.2) else bif (v10.2.2 !=0) then some (v9.2.2==v10.2.2) else bif decide (24<(v9.1.length:Int)) then some (v9.2.2==v10.2.2) else bif decide (v_<0) then some false else bif decide ((db.insts.length:Int)<=v_) then some false else bif decide ((v10.1.insts.length:Int)<=v_) then some false else Z1 (Dh g_ v_) λv21=>Za v10.1.insts v_ λx23=>Z1 (Zpo v9.1) λv24=>Z1 (Co v21.1 x23 v24) λv25=>bif (v25.2==0) then Za db.insts v_ λx27=>(Z1 (E6 v25.1 x27) λv28=>some v28) else some false
instance Zre(g_:Gr)(db:Db)(v_:Int)(changes:List Chg):Con (Zq4 g_ db v_ changes) prog 3 [.agg g_.z,.agg db.z,.one (.d (.int .i64 v_)),.one (.d (.sl (changes.map Chg.z)))] (λr=>.one (.d (.bool r))):=by unfold Zq4;have p1:PH [10] (Y.qB aL .done):=.intro;exact go 106 func3
def Zqb(g_:Gr)(db:Db)(v_:Int)(changes:List Chg):aB ((List (List Chg))×Int×Int):=
 Z1 (Bv g_ db v_ changes) λv3=>bif (v3.2.2 !=0) then some ([],v3.2.1,v3.2.2) else Z1 (Ar g_) λv6=>Zd (λ(i8:Nat) (x8:Sch) (s8:(List (List Chg))) next_8=>Za db.insts (i8:Int) λx10=>Za v3.1.insts (i8:Int) λx11=>Z1 (Zpp x8 x10 x11) λv12=>bif (v12.2 !=0) then some ([],0,v12.2) else Wn s8 [v12.1] λ_=>next_8 (s8++[v12.1])) (λ(s8:(List (List Chg)))=>some (s8,0,0)) v6.1 0 []
instance Zvb(g_:Gr)(db:Db)(v_:Int)(changes:List Chg):Con (Zqb g_ db v_ changes) prog 13 [.agg g_.z,.agg db.z,.one (.d (.int .i64 v_)),.one (.d (.sl (changes.map Chg.z)))] (λr=>.tup [.one (.d (.sl (r.1.map (Z7 Chg.z)))),.one (.d (.int .i64 r.2.1)),.one (.d (.int .i64 r.2.2))]):=by
 unfold Zqb;have l1:LH (σ:=(List (List Chg))) 41 [5,11,39,40] [.g 16 1 (λs=>s.map (Z7 Chg.z))]:=.intro;have p1:PH [9] (Y.qB aF .done):=.intro;exact go 70 func13
set_option maxHeartbeats 4000000
def Zqp(g_:Gr)(db:Db)(v_:Int)(changes:List Chg):aB Bool:=
 Z1 (UC) λv3=>bif !v3 then Z1 (UC) λv5=>(some v5) else Z1 (Dd g_ db changes) λv6=>bif !v6 then Z1 (UC) λv8=>(some v8) else Z1 (Zqb g_ db v_ changes) λv9=>Z1 (Bv g_ db v_ changes) λv10=>bif (v9.2.2 !=v10.2.2) then some false else bif (v9.2.2==0) then bif ((v9.1.length:Int) !=(v10.1.insts.length:Int)) then some false else(bif ((v9.1.length:Int) !=(db.insts.length:Int)) then some false else bif (v9.2.2 !=0) then bif decide (0<v9.1.length) then some false else(Zd (λ(i24:Nat) (x24:List Chg) (s24:Unit) next_24=>Z1 (Dh g_ (i24:Int)) λv25=>Za db.insts (i24:Int) λx27=>Z1 (Zpo x24) λv28=>Z1 (Co v25.1 x27 v28) λv29=>bif decide ((x24.length:Int)<=24) then bif (v29.2 !=0) then some false else(Za v10.1.insts (i24:Int) λx33=>Z1 (E6 v29.1 x33) λv34=>bif !v34 then some false else next_24 ()) else next_24 ()) (λ(s24:Unit)=>some true) v9.1 0 ()) else Zd (λ(i37:Nat) (x37:List Chg) (s37:Unit) next_37=>Z1 (Dh g_ (i37:Int)) λv38=>Za db.insts (i37:Int) λx40=>Z1 (Zpo x37) λv41=>Z1 (Co v38.1 x40 v41) λv42=>bif decide ((x37.length:Int)<=24) then bif (v42.2 !=0) then some false else(Za v10.1.insts (i37:Int) λx46=>Z1 (E6 v42.1 x46) λv47=>bif !v47 then some false else next_37 ()) else next_37 ()) (λ(s37:Unit)=>some true) v9.1 0 ()) else bif (v9.2.2 !=0) then bif decide (0<v9.1.length) then some false else(Zd (λ(i53:Nat) (x53:List Chg) (s53:Unit) next_53=>Z1 (Dh g_ (i53:Int)) λv54=>Za db.insts (i53:Int) λx56=>Z1 (Zpo x53) λv57=>Z1 (Co v54.1 x56 v57) λv58=>bif decide ((x53.length:Int)<=24) then bif (v58.2 !=0) then some false else(Za v10.1.insts (i53:Int) λx62=>Z1 (E6 v58.1 x62) λv63=>bif !v63 then some false else next_53 ()) else next_53 ()) (λ(s53:Unit)=>some true) v9.1 0 ()) else Zd (λ(i66:Nat) (x66:List Chg) (s66:Unit) next_66=>Z1 (Dh g_ (i66:Int)) λv67=>Za db.insts (i66:Int) λx69=>Z1 (Zpo x66) λv70=>Z1 (Co v67.1 x69 v70) λv71=>bif decide ((x66.length:Int)<=24) then bif (v71.2 !=0) then some false else(Za v10.1.insts (i66:Int) λx75=>Z1 (E6 v71.1 x75) λv76=>bif !v76 then some false else next_66 ()) else next_66 ()) (λ(s66:Unit)=>some true) v9.1 0 ()
instance Zv8(g_:Gr)(db:Db)(v_:Int)(changes:List Chg):Con (Zqp g_ db v_ changes) prog 4 [.agg g_.z,.agg db.z,.one (.d (.int .i64 v_)),.one (.d (.sl (changes.map Chg.z)))] (λr=>.one (.d (.bool r))):=by unfold Zqp;have l1:LH (σ:=Unit) 83 [4,5,12,81,82] []:=.intro;have p1:PH [11] (Y.qB aL .done):=.intro;exact go 124 func4
def Zuu:Wp (Z1 UC λv=>some v) λr=>r=true:=X0 (Wb NY) λ_ _ a=>X2 a
def Zur{S a b n c}(D:DX S a b n c)(hn:n<=6):Zpo c=some (Zpc c):=by
 unfold Zpo Zp
 have:=D.len
 rw[if_pos ⟨X,D.kinds⟩]
def Zvf{g:Gr}(N:F6 g)(e:Db)(v:Int)(t:List Chg){W:Db×Int×Int}(F:Bv g e v t=some W):Wp (Zqb g e v t) λq=>q.2.2=W.2.2/\(W.2.2≠0->q.1=[])/\(W.2.2=0->∃c,DbV g e c/\W.1.insts.length=c.length/\q.1.length=c.length/\∀(u:Nat) S a b d,c[u]?=some S->e.insts[u]?=some a->W.1.insts[u]?=some b->q.1[u]?=some d->CF S a/\CF S b/\DX S a b S.q.length d):=by
 have hL:=VX;obtain⟨W',E,J⟩:=Zqr N e v t;rw[F] at E;cases E;unfold Zqb;refine X0 (Wb F) λq _ L=>?_;subst L;refine X1 (λh=>X2 ⟨rfl,λ_=>rfl,λn=>by rw[n] at h;cases h⟩) λh=>?_;have n:q.2.2=0:=by simpa using h
 obtain⟨c,f,I,-,B⟩:=J.1 n;have hl:=f.ver.len;have h7:=f.ver.l7;have ad:=f.li;refine X0 (Wb f.sch) λz _ O=>?_;subst O;refine X6 (λi (s:List (List Chg))=>s.length=i/\∀(u:Nat) S a b d,c[u]?=some S->e.insts[u]?=some a->q.1.insts[u]?=some b->s[u]?=some d->CF S a/\CF S b/\DX S a b S.q.length d) ⟨rfl,λu S a b d _ _ _ h=>by simp at h⟩ ?_ λs m=>X2 ⟨n.symm,λw=>absurd n w,λ_=>⟨c,f,I,m.1,m.2⟩⟩;intro i S s next o x m K
 have hi:i<c.length:=(Y0.1 o).1;have k:e.insts[i]?=some e.insts[i]:=Y1 X;have p:q.1.insts[i]?=some q.1.insts[i]:=Y1 X;have C:=(f.inst i S _ o k).2;have D:=B i S _ o p;refine X5 k (X5 p (X0 (Zu7 (f.ver.vs S x) C.1 D.1 C.2 D.2) λr _ G=>X1 (λh=>by rw[G.1] at h;cases h) λ_=>X8 sO (K _ ⟨by simp[m.1],λu H a b d j y A l=>?_⟩)));rcases Yx u i with w|w;rw[Yu X] at l;exact m.2 u H a b d j y A l;have M:u=i:=by
  have:=(Y0.1 l).1
  simp at this;omega
 subst M;rw[YC X,m.1] at l;simp at l;rw[k] at y;rw[p] at A;rw[o] at j;cases y;cases A;cases j;rw[<-l];exact⟨C.1,D.1,G.2⟩
def Zvg(g:Gr)(c:Db)(v:Int)(j:List Chg)(z:F6 g)(E:c.comps.flatten.length+c.insts.length<=2097152):Zqp g c v j=some true:=by
 refine Ww ?_;unfold Zqp;refine Xb NY ?_;obtain⟨W,w,-⟩:=Zqr z c v j;refine X9 rfl<|X0 (Z3y g c j E) λb _ _=>X1 (λ_=>Zuu) λ_=>X0 (Zvf z c v j w) λq _ f=>Xb w ?_;refine X9 (by rw[f.1];simp) ?_;refine X1 (λe=>?_) λe=>?_
 .have e:q.2.2=0:=by simpa using e
  have u:W.2.2=0:=by rw[<-f.1];exact e
  obtain⟨l,n,l1,l2,C⟩:=f.2.2 u;have ab:=n.li;refine X9 sO<|X9 sO<|X9 (by simp[e])<|X6 (λ_ _=>True) trivial ?_ λ_ _=>X2 rfl;intro i d s next x hm _ t
  have hi:=(Y0.1 x).1;have k:l[i]?=some l[i]:=Y1 X;have o:c.insts[i]?=some c.insts[i]:=Y1 X;have p:W.1.insts[i]?=some W.1.insts[i]:=Y1 X;generalize l[i]=S at k;generalize c.insts[i]=a at o;generalize W.1.insts[i]=b at p;obtain⟨A,B,D⟩:=C i S a b d k o p x;have m:=n.ver.vs S (Y2 k);refine Xb (Z75 n.sch X (by simpa using k)) ?_;refine X5 o (Xb (Zur D m.t6) ?_);rcases Yx 24 d.length with h9|h9;exact X0 (Z3x m a _) λr _ _=>X9 sO (t () trivial);refine Xb (Zsn m A B D h9) ?_;refine X1 (λ_=>X9 rfl<|X5 p (X0 (Zsp b b) λr _ F=>X9 (by rw[F.2 rfl];rfl) (t () trivial))) λ_=>t () trivial
 have e:q.2.2≠0:=by simpa using e
 have y:=f.2.1 (by rw[<-f.1];exact e);refine X1 (λ_=>X9 (by rw[y];rfl) ?_) λh=>absurd (by simpa using h) e;rw[y];exact X2 rfl
def Zc1{P:Program}{B n:Nat}{t:TypeId}{a:aC}(c:P.underlying t=some (.int .i64))(h:ZY P B n t a):∃v:Int,a=Zg v:=by
 cases n with
 |zero=>cases h
 |succ n=>simp only[ZY,c] at h;obtain⟨v,b,_⟩:=h;exact⟨v,b⟩
def Z9i{P:Program}{B n:Nat}{t:TypeId}{a:aC}(b:P.underlying t=some .bool)(h:ZY P B n t a):∃v:Bool,a=Jw v:=by
 cases n with
 |zero=>cases h
 |succ n=>simp only[ZY,b] at h;exact h
def Z55{P:Program}{B n:Nat}{t:TypeId}{a:aC}(b:P.underlying t=some .string)(h:ZY P B n t a):∃v:aA,a=Hf v:=by
 cases n with
 |zero=>cases h
 |succ n=>simp only[ZY,b] at h;exact h
def Ac{P:Program}{B n:Nat}{t e:TypeId}{b:aC}(g:P.underlying t=some (.slice e))(h:ZY P B n t b):∃m a,b=[.sl a]/\a.length<=B/\∀x∈a,ZY P B m e x:=by
 cases n with
 |zero=>cases h
 |succ n=>simp only[ZY,g] at h;obtain⟨a,c,d,f⟩:=h;exact⟨n,a,c,d,f⟩
def Av{P:Program}{B n:Nat}{t:TypeId}{b:Array Field}{a:aC}(c:P.underlying t=some (.struct b))(h:ZY P B n t a):∃m,Jp (ZY P B m) b.toList a:=by
 cases n with
 |zero=>cases h
 |succ n=>simp only[ZY,c] at h;exact⟨n,h⟩
def UM{α:Type}{enc:α->aC}{S:α->Prop}:∀{b:List aC},(∀x∈b,∃v,x=enc v/\S v)->∃a:List α,b=a.map enc/\a.length=b.length/\∀v∈a,S v
 |[],_=>⟨[],rfl,rfl,by simp⟩
 |x::b,h=>by
   obtain⟨v,c,d⟩:=h x I;obtain⟨a,e,f,g⟩:=UM λy i=>h y (Yc _ i);exact⟨v::a,by simp[c,<-e],by simp[f],by simpa using⟨d,g⟩⟩
def Bg{B n:Nat}{a:aC}(h:ZY prog B n 3 a):∃v:Int,a=Zg v/\True:=by obtain⟨v,b⟩:=Zc1 Tryz.underlying3 h;exact⟨v,b,trivial⟩
def UU{B n:Nat}{a:aC}(h:ZY prog B n 9 a):∃v:aA,a=Hf v/\True:=by obtain⟨v,b⟩:=Z55 Tryz.underlying9 h;exact⟨v,b,trivial⟩
def MO(B:Nat)(x:GV):Prop:=True/\True/\True
def Zel{B n:Nat}{b:aC}(h:ZY prog B n 97 b):∃v:GV,b=v.z/\MO B v:=by obtain⟨m,a⟩:=Av Tryz.underlying97 h;obtain⟨a0,r0,f,t0,a⟩:=a;obtain⟨l,q,c⟩:=Bg t0;obtain⟨a1,r1,g,t1,a⟩:=a;obtain⟨o,r,d⟩:=Bg t1;obtain⟨a2,k,i,t2,a⟩:=a;obtain⟨p,s,e⟩:=UU t2;have j:k=[]:=a;subst q r s;refine⟨⟨l,o,p⟩,?_,c,d,e⟩;rw[f,g,i,j];rfl
def Zf9{B n:Nat}{a:aC}(h:ZY prog B n 4 a):∃v:Bool,a=Jw v/\True:=by obtain⟨v,b⟩:=Z9i Tryz.underlying4 h;exact⟨v,b,trivial⟩
def Zqm(B:Nat)(x:Col):Prop:=True/\True/\True
def Zv3{B n:Nat}{b:aC}(h:ZY prog B n 95 b):∃v:Col,b=v.z/\Zqm B v:=by obtain⟨m,a⟩:=Av Tryz.underlying95 h;obtain⟨a0,r0,f,t0,a⟩:=a;obtain⟨l,q,c⟩:=UU t0;obtain⟨a1,r1,g,t1,a⟩:=a;obtain⟨o,r,d⟩:=Bg t1;obtain⟨a2,k,i,t2,a⟩:=a;obtain⟨p,s,e⟩:=Zf9 t2;have j:k=[]:=a;subst q r s;refine⟨⟨l,o,p⟩,?_,c,d,e⟩;rw[f,g,i,j];rfl
def Zrb(B:Nat)(a:List Col):Prop:=a.length<=B/\∀x∈a,Zqm B x
def Zv4{B n:Nat}{a:aC}(h:ZY prog B n 85 a):∃v:List Col,a=[.sl (v.map Col.z)]/\Zrb B v:=by
 obtain⟨m,xs,rfl,d,e⟩:=Ac Tryz.underlying85 h;obtain⟨f,rfl,h1,c⟩:=UM (enc:=Col.z) (S:=λx=>Zqm B x) λx b=>Zv3 (e x b);exact⟨f,rfl,by simpa using d,c⟩
def Zq9(B:Nat)(a:List Int):Prop:=a.length<=B/\∀x∈a,True
def Zqj{B n:Nat}{a:aC}(h:ZY prog B n 86 a):∃v:List Int,a=[.sl (v.map Zg)]/\Zq9 B v:=by
 obtain⟨m,xs,rfl,d,e⟩:=Ac Tryz.underlying86 h;obtain⟨f,rfl,h1,c⟩:=UM (enc:=Zg) (S:=λx=>True) λx b=>Bg (e x b);exact⟨f,rfl,by simpa using d,c⟩
def Zq8(B:Nat)(x:E):Prop:=True/\Zrb B x.j/\Zq9 B x.pk
def Zr9{B n:Nat}{b:aC}(h:ZY prog B n 88 b):∃v:E,b=v.z/\Zq8 B v:=by obtain⟨m,a⟩:=Av Tryz.underlying88 h;obtain⟨a0,r0,f,t0,a⟩:=a;obtain⟨l,q,c⟩:=UU t0;obtain⟨a1,r1,g,t1,a⟩:=a;obtain⟨o,r,d⟩:=Zv4 t1;obtain⟨a2,k,i,t2,a⟩:=a;obtain⟨p,s,e⟩:=Zqj t2;have j:k=[]:=a;subst q r s;refine⟨⟨l,o,p⟩,?_,c,d,e⟩;rw[f,g,i,j];rfl
def Zq6(B:Nat)(x:Fk):Prop:=True/\Zq9 B x.j/\True
def Zr7{B n:Nat}{b:aC}(h:ZY prog B n 102 b):∃v:Fk,b=v.z/\Zq6 B v:=by obtain⟨m,a⟩:=Av Tryz.underlying102 h;obtain⟨a0,r0,f,t0,a⟩:=a;obtain⟨l,q,c⟩:=UU t0;obtain⟨a1,r1,g,t1,a⟩:=a;obtain⟨o,r,d⟩:=Zqj t1;obtain⟨a2,k,i,t2,a⟩:=a;obtain⟨p,s,e⟩:=UU t2;have j:k=[]:=a;subst q r s;refine⟨⟨l,o,p⟩,?_,c,d,e⟩;rw[f,g,i,j];rfl
def Zq7(B:Nat)(x:Cons):Prop:=True/\True/\True/\True/\MO B x.value
def Zr8{B n:Nat}{b:aC}(h:ZY prog B n 100 b):∃v:Cons,b=v.z/\Zq7 B v:=by obtain⟨m,a⟩:=Av Tryz.underlying100 h;obtain⟨a0,r0,i,t0,a⟩:=a;obtain⟨r,x,c⟩:=UU t0;obtain⟨a1,r1,j,t1,a⟩:=a;obtain⟨s,y,d⟩:=Bg t1;obtain⟨a2,r2,k,t2,a⟩:=a;obtain⟨t,z,e⟩:=UU t2;obtain⟨a3,r3,l,t3,a⟩:=a;obtain⟨u,A,f⟩:=Bg t3;obtain⟨a4,q,o,t4,a⟩:=a;obtain⟨w,C,g⟩:=Zel t4;have p:q=[]:=a;subst x y z A C;refine⟨⟨r,s,t,u,w⟩,?_,c,d,e,f,g⟩;rw[i,j,k,l,o,p];rfl
def SC(B:Nat)(a:List E):Prop:=a.length<=B/\∀x∈a,Zq8 B x
def Zez{B n:Nat}{a:aC}(h:ZY prog B n 22 a):∃v:List E,a=[.sl (v.map E.z)]/\SC B v:=by
 obtain⟨m,xs,rfl,d,e⟩:=Ac Tryz.underlying22 h;obtain⟨f,rfl,h1,c⟩:=UM (enc:=E.z) (S:=λx=>Zq8 B x) λx b=>Zr9 (e x b);exact⟨f,rfl,by simpa using d,c⟩
def SA(B:Nat)(a:List Fk):Prop:=a.length<=B/\∀x∈a,Zq6 B x
def Zey{B n:Nat}{a:aC}(h:ZY prog B n 23 a):∃v:List Fk,a=[.sl (v.map Fk.z)]/\SA B v:=by
 obtain⟨m,xs,rfl,d,e⟩:=Ac Tryz.underlying23 h;obtain⟨f,rfl,h1,c⟩:=UM (enc:=Fk.z) (S:=λx=>Zq6 B x) λx b=>Zr7 (e x b);exact⟨f,rfl,by simpa using d,c⟩
def Sz(B:Nat)(a:List Cons):Prop:=a.length<=B/\∀x∈a,Zq7 B x
def Zex{B n:Nat}{a:aC}(h:ZY prog B n 24 a):∃v:List Cons,a=[.sl (v.map Cons.z)]/\Sz B v:=by
 obtain⟨m,xs,rfl,d,e⟩:=Ac Tryz.underlying24 h;obtain⟨f,rfl,h1,c⟩:=UM (enc:=Cons.z) (S:=λx=>Zq7 B x) λx b=>Zr8 (e x b);exact⟨f,rfl,by simpa using d,c⟩
def Sy(B:Nat)(x:Sch):Prop:=SC B x.q/\SA B x.b/\Sz B x.cons
def Zew{B n:Nat}{b:aC}(h:ZY prog B n 26 b):∃v:Sch,b=v.z/\Sy B v:=by obtain⟨m,a⟩:=Av Tryz.underlying26 h;obtain⟨a0,r0,f,t0,a⟩:=a;obtain⟨l,q,c⟩:=Zez t0;obtain⟨a1,r1,g,t1,a⟩:=a;obtain⟨o,r,d⟩:=Zey t1;obtain⟨a2,k,i,t2,a⟩:=a;obtain⟨p,s,e⟩:=Zex t2;have j:k=[]:=a;subst q r s;refine⟨⟨l,o,p⟩,?_,c,d,e⟩;rw[f,g,i,j];rfl
def Si(B:Nat)(x:Stp):Prop:=True/\True/\True/\True/\True/\True/\Zq9 B x.j/\True/\MO B x.value/\Zq8 B x.v/\Zq7 B x.cons/\Zq6 B x.fk
def Zdo{B n:Nat}{b:aC}(h:ZY prog B n 104 b):∃v:Stp,b=v.z/\Si B v:=by obtain⟨m,a⟩:=Av Tryz.underlying104 h;obtain⟨a0,r0,A,t0,a⟩:=a;obtain⟨M,W,p⟩:=Bg t0;obtain⟨a1,r1,C,t1,a⟩:=a;obtain⟨N,X,q⟩:=UU t1;obtain⟨a2,r2,E,t2,a⟩:=a;obtain⟨O,Y,r⟩:=UU t2;obtain⟨a3,r3,F,t3,a⟩:=a;obtain⟨P,Z,s⟩:=UU t3;obtain⟨a4,r4,G,t4,a⟩:=a;obtain⟨Q,w4,t⟩:=UU t4;obtain⟨a5,r5,H,t5,a⟩:=a;obtain⟨R,w5,u⟩:=Bg t5;obtain⟨a6,r6,I,t6,a⟩:=a;obtain⟨S,w6,w⟩:=Zqj t6;obtain⟨a7,r7,J,t7,a⟩:=a;obtain⟨T,w7,x⟩:=UU t7;obtain⟨a8,r8,K,t8,a⟩:=a;obtain⟨U,w8,y⟩:=Zel t8;obtain⟨a9,r9,L,t9,a⟩:=a;obtain⟨V,w9,z⟩:=Zr9 t9;obtain⟨ao,am,k,t10,a⟩:=a;obtain⟨d,j,i⟩:=Zr8 t10;obtain⟨al,o,c,t11,a⟩:=a;obtain⟨f,e,g⟩:=Zr7 t11;have l:o=[]:=a;subst W X Y Z w4 w5 w6 w7 w8 w9 j e;refine⟨⟨M,N,O,P,Q,R,S,T,U,V,d,f⟩,?_,p,q,r,s,t,u,w,x,y,z,i,g⟩;rw[A,C,E,F,G,H,I,J,K,L,k,c,l];rfl
def Zra(B:Nat)(a:List Stp):Prop:=a.length<=B/\∀x∈a,Si B x
def Zv0{B n:Nat}{a:aC}(h:ZY prog B n 106 a):∃v:List Stp,a=[.sl (v.map Stp.z)]/\Zra B v:=by
 obtain⟨m,xs,rfl,d,e⟩:=Ac Tryz.underlying106 h;obtain⟨f,rfl,h1,c⟩:=UM (enc:=Stp.z) (S:=λx=>Si B x) λx b=>Zdo (e x b);exact⟨f,rfl,by simpa using d,c⟩
def Zql(B:Nat)(x:Edg):Prop:=True/\Zra B x.script
def Zuz{B n:Nat}{b:aC}(h:ZY prog B n 108 b):∃v:Edg,b=v.z/\Zql B v:=by obtain⟨m,a⟩:=Av Tryz.underlying108 h;obtain⟨a0,r0,e,t0,a⟩:=a;obtain⟨j,l,c⟩:=Bg t0;obtain⟨a1,i,f,t1,a⟩:=a;obtain⟨k,o,d⟩:=Zv0 t1;have g:i=[]:=a;subst l o;refine⟨⟨j,k⟩,?_,c,d⟩;rw[e,f,g];rfl
def Sx(B:Nat)(a:List Edg):Prop:=a.length<=B/\∀x∈a,Zql B x
def Zev{B n:Nat}{a:aC}(h:ZY prog B n 27 a):∃v:List Edg,a=[.sl (v.map Edg.z)]/\Sx B v:=by
 obtain⟨m,xs,rfl,d,e⟩:=Ac Tryz.underlying27 h;obtain⟨f,rfl,h1,c⟩:=UM (enc:=Edg.z) (S:=λx=>Zql B x) λx b=>Zuz (e x b);exact⟨f,rfl,by simpa using d,c⟩
def Sw(B:Nat)(x:Gr):Prop:=Sy B x.base/\Sx B x.n
def Zeu{B n:Nat}{b:aC}(h:ZY prog B n 29 b):∃v:Gr,b=v.z/\Sw B v:=by obtain⟨m,a⟩:=Av Tryz.underlying29 h;obtain⟨a0,r0,e,t0,a⟩:=a;obtain⟨j,l,c⟩:=Zew t0;obtain⟨a1,i,f,t1,a⟩:=a;obtain⟨k,o,d⟩:=Zev t1;have g:i=[]:=a;subst l o;refine⟨⟨j,k⟩,?_,c,d⟩;rw[e,f,g];rfl
def Zq3(B:Nat)(a:aE):Prop:=a.length<=B/\∀x∈a,MO B x
def Zqk{B n:Nat}{a:aC}(h:ZY prog B n 58 a):∃v:aE,a=[.sl (v.map GV.z)]/\Zq3 B v:=by
 obtain⟨m,xs,rfl,d,e⟩:=Ac Tryz.underlying58 h;obtain⟨f,rfl,h1,c⟩:=UM (enc:=GV.z) (S:=λx=>MO B x) λx b=>Zel (e x b);exact⟨f,rfl,by simpa using d,c⟩
def Zrc(B:Nat)(a:List aE):Prop:=a.length<=B/\∀x∈a,Zq3 B x
def Zv6{B n:Nat}{a:aC}(h:ZY prog B n 64 a):∃v:List aE,a=[.sl (v.map (Z7 GV.z))]/\Zrc B v:=by
 obtain⟨m,xs,rfl,d,e⟩:=Ac Tryz.underlying64 h;obtain⟨f,rfl,h1,c⟩:=UM (enc:=(Z7 GV.z)) (S:=λx=>Zq3 B x) λx b=>Zqk (e x b);exact⟨f,rfl,by simpa using d,c⟩
def Zqn(B:Nat)(x:J):Prop:=True/\Zrc B x.rows
def Zv5{B n:Nat}{b:aC}(h:ZY prog B n 66 b):∃v:J,b=v.z/\Zqn B v:=by obtain⟨m,a⟩:=Av Tryz.underlying66 h;obtain⟨a0,r0,e,t0,a⟩:=a;obtain⟨j,l,c⟩:=UU t0;obtain⟨a1,i,f,t1,a⟩:=a;obtain⟨k,o,d⟩:=Zv6 t1;have g:i=[]:=a;subst l o;refine⟨⟨j,k⟩,?_,c,d⟩;rw[e,f,g];rfl
def Zqo(B:Nat)(x:Chg):Prop:=True/\True/\Zq3 B x.key/\Zq3 B x.row
def Zv7{B n:Nat}{b:aC}(h:ZY prog B n 60 b):∃v:Chg,b=v.z/\Zqo B v:=by obtain⟨m,a⟩:=Av Tryz.underlying60 h;obtain⟨a0,r0,g,t0,a⟩:=a;obtain⟨p,t,c⟩:=Bg t0;obtain⟨a1,r1,i,t1,a⟩:=a;obtain⟨q,u,d⟩:=UU t1;obtain⟨a2,r2,j,t2,a⟩:=a;obtain⟨r,w,e⟩:=Zqk t2;obtain⟨a3,o,k,t3,a⟩:=a;obtain⟨s,x,f⟩:=Zqk t3;have l:o=[]:=a;subst t u w x;refine⟨⟨p,q,r,s⟩,?_,c,d,e,f⟩;rw[g,i,j,k,l];rfl
def MS(B:Nat)(a:List J):Prop:=a.length<=B/\∀x∈a,Zqn B x
def Zeq{B n:Nat}{a:aC}(h:ZY prog B n 45 a):∃v:List J,a=[.sl (v.map J.z)]/\MS B v:=by
 obtain⟨m,xs,rfl,d,e⟩:=Ac Tryz.underlying45 h;obtain⟨f,rfl,h1,c⟩:=UM (enc:=J.z) (S:=λx=>Zqn B x) λx b=>Zv5 (e x b);exact⟨f,rfl,by simpa using d,c⟩
def JB(B:Nat)(a:List (List J)):Prop:=a.length<=B/\∀x∈a,MS B x
def Sg{B n:Nat}{a:aC}(h:ZY prog B n 30 a):∃v:List (List J),a=[.sl (v.map (Z7 J.z))]/\JB B v:=by
 obtain⟨m,xs,rfl,d,e⟩:=Ac Tryz.underlying30 h;obtain⟨f,rfl,h1,c⟩:=UM (enc:=(Z7 J.z)) (S:=λx=>MS B x) λx b=>Zeq (e x b);exact⟨f,rfl,by simpa using d,c⟩
def Sv(B:Nat)(a:List (List (List J))):Prop:=a.length<=B/\∀x∈a,JB B x
def Zet{B n:Nat}{a:aC}(h:ZY prog B n 31 a):∃v:List (List (List J)),a=[.sl (v.map (Z7 (Z7 J.z)))]/\Sv B v:=by
 obtain⟨m,xs,rfl,d,e⟩:=Ac Tryz.underlying31 h;obtain⟨f,rfl,h1,c⟩:=UM (enc:=(Z7 (Z7 J.z))) (S:=λx=>JB B x) λx b=>Sg (e x b);exact⟨f,rfl,by simpa using d,c⟩
def Zfc(B:Nat)(x:Db):Prop:=JB B x.insts/\Sv B x.comps
def Zes{B n:Nat}{b:aC}(h:ZY prog B n 33 b):∃v:Db,b=v.z/\Zfc B v:=by obtain⟨m,a⟩:=Av Tryz.underlying33 h;obtain⟨a0,r0,e,t0,a⟩:=a;obtain⟨j,l,c⟩:=Sg t0;obtain⟨a1,i,f,t1,a⟩:=a;obtain⟨k,o,d⟩:=Zet t1;have g:i=[]:=a;subst l o;refine⟨⟨j,k⟩,?_,c,d⟩;rw[e,f,g];rfl
def Zfb(B:Nat)(a:List Chg):Prop:=a.length<=B/\∀x∈a,Zqo B x
def Zer{B n:Nat}{a:aC}(h:ZY prog B n 34 a):∃v:List Chg,a=[.sl (v.map Chg.z)]/\Zfb B v:=by
 obtain⟨m,xs,rfl,d,e⟩:=Ac Tryz.underlying34 h;obtain⟨f,rfl,h1,c⟩:=UM (enc:=Chg.z) (S:=λx=>Zqo B x) λx b=>Zv7 (e x b);exact⟨f,rfl,by simpa using d,c⟩
def Gh{P:Program}{w:World}:∀{l:List (String×DataW Unit)} {c:List MemPlace},DataW.LaidVars P w l c->∀n d,(n,d)∈l->
  ∃g t a b p,P.globalNamed n=some g/\(P.globals[g]?).map (·.type)=some t/\w.var? P n=some a/\DataW.trod (λ_=>()) P w 0 (λ_=>true) false b t a.toList=some (d,p)
 |[],_,_,_,_,hm=>by cases hm
 |(n',d')::r,c,h,n,d,hm=>by obtain⟨g,t,a,b,p,q,f,i,j,k,m,_⟩:=h;rcases Y5.1 hm with e|e;cases e;exact⟨g,t,a,b,p,f,i,j,k⟩;exact Gh m n d e
def It{P:Program}{w:World}{n:String}{g:Nat}{a:Array Value}(b:P.globalNamed n=some g)(h:w.var? P n=some a):∃T l,w.heap[g]?=some (.cells a T l):=by unfold World.var? at h;rw[b] at h;simp only[Option.bind_some] at h;split at h;cases h;exact⟨_,_,by assumption⟩;cases h
def OR{w:World}{g:Nat}{v:Value}{T:TypeId}{l:Nat×Nat}{a:Array Value}(h:w.heap[g]?=some (.cells a T l))(b:a.toList=[v]):w.cell? ⟨g,0,none⟩=some v:=by
 have:a[0]?=some v:=by rw[<-Array.getElem?_toList,b];rfl
 unfold World.cell?;simp[h,this]
def Dw{α:Type}{x:aB α}{a b:α}(h:x=some a)(k:x=some b):b=a:=Option.some.inj (k.symm.trans h)
def Zdf{W:World}{l:List (String×DataW Unit)}(A:l=Proofs.YtfhpobpaahhfbaaGreatDoor.Rows.propagationInverseRestoresUptoRow.laid)(h:laidMetH prog l W)(n:W.ShapedOpen prog):BV W:=by
 subst A;rw[MakeChecks.laidMetH_plain _ _ _ kR] at h;obtain⟨_,b,_⟩:=h;obtain⟨ga,ta,ca,_,_,c,_,j,_⟩:=Gh b _ _ (.tail _ (.head _));obtain rfl:=Dw (a:=3) kR c;obtain⟨Ta,la,k⟩:=It c j;obtain⟨gb,tb,cb,fb,pb,d,p,q,r⟩:=Gh b _ _ (.tail _ (.tail _ (.head _)));obtain rfl:=Dw (a:=1) kR d;obtain rfl:=Dw (a:=296) kR p;obtain⟨i,C,s⟩:=It d q;have x:=Lib.cells_of_tab (zs:=Lib.pow10Tab) Tryz.underlying296 Tryz.underlying285 kR kR r;obtain⟨gc,tc,cc,fc,pc,e,u,v,w⟩:=Gh b _ _ (.tail _ (.tail _ (.tail _ (.tail _ (.head _)))));obtain rfl:=Dw (a:=4) kR e;obtain rfl:=Dw (a:=292) kR u;obtain⟨Tc,lc,f⟩:=It e v;obtain⟨_,D,vc,y,_⟩:=iface_of_trod Tryz.underlying292 w;obtain⟨gd,td,cd,fd,pd,d1,d2,d3,d4⟩:=Gh b _ _ (.tail _ (.tail _ (.tail _ (.head _))));obtain rfl:=Dw (a:=5) kR d1;obtain rfl:=Dw (a:=292) kR d2;obtain⟨Td,ld,d5⟩:=It d1 d3;obtain⟨_,E,F,z,_⟩:=iface_of_trod Tryz.underlying292 d4;obtain⟨m,B⟩:=cell_of_shapedOpen_int (P:=prog) (g:=0) (t:=3) (zero:=#[.int .i64 0]) n (of_decide_eq_true kR) kR rfl kR kR Tryz.underlying3;have o:6<=W.heap.size:=by
  have:=(YQ.1 k).1
  have:=(YQ.1 f).1
  have:=(YQ.1 d5).1
  omega
 refine⟨o,⟨i,C,?_⟩,⟨D,vc,OR f y⟩,⟨E,F,OR d5 z⟩,⟨m,B⟩⟩;rw[s,<-x]
end
end Go.Am
namespace Go.Proofs.YtfhpobpaahhfbaaGreatDoor.propagationChangesApply
section
open Go Go.Am Go.ChangeShapes Go.WideShapes Go.ChangeAt Go.RowKit
abbrev aR:=Rows.propagationChangesApplyUptoRow
abbrev aS:=Rows.propagationChangesApplySpec
abbrev aW:Array Value:=#[.agg #[.slice none 0 0,.slice none 0 0,.slice none 0 0,.slice none 0 0],.agg #[.slice none 0 0,.slice none 0 0],.int .i64 0,.slice none 0 0]
theorem own:ownKnob Tryz.prog.godebug=none:=kR
theorem laid:laidOutB Tryz.prog=true:=kR
def Ze5:List TypeId:=[29,26,22,88,9,85,95,3,4,86,23,102,24,100,97,27,108,106,104,33,30,45,66,64,58,31,34,60]
theorem ID:RF Tryz.prog Ze5=true:=kR
theorem Ze1{g:Gr}(h:Sw 1048576 g):∀e∈g.n,∀x∈e.script,U7 x:=by intro e d x i;have b:=(h.2.2 e d).2.2 x i;obtain⟨_,_,_,_,_,_,c,_,_,a,_,f⟩:=b;exact⟨c.1,a.2.1.1,a.2.2.1,f.2.1.1⟩
theorem Qb:∀(l:List (List (List J))),l.flatten.length<=AM (l.map (Z7 (Z7 J.z)))
 |[]=>by simp
 |y::l=>by have h1:=Qb l;have a:=L4 (y.map (Z7 J.z));simp only[Yb,AM,Z7,WQ,DT,XC,Ye,Yd] at a|-;omega
theorem Zff{a:Db}(k:WQ a.z+1<=1048576):a.comps.flatten.length+a.insts.length<=2097152:=by have e1:=Qb a.comps;have b:=L4 (a.insts.map (Z7 J.z));have e3:WQ a.z=AM (a.insts.map (Z7 J.z))+(AM (a.comps.map (Z7 (Z7 J.z)))+0):=rfl;rw[Yd] at b;omega
set_option maxRecDepth 100000 in
theorem Zae(H:Type)(m:TypeId×Value->H)(W:World)(aj:Nat)(b:Array Value)(D Y:List (DataW H))(d:List MemPlace)
  (r:∀(j:Nat) t v,f4.params[j]?=some t->b[j]?=some v->Value.okWide Tryz.prog W .any aj t v)
  (E:DataW.Whole m Tryz.prog f4.params.toList aS.vars false W b.toList D Y d)(hk:Rows.uptoSmall H (D++Y)=true)(hL:laidMetH Tryz.prog aR.laid W)(bg:W.ShapedOpen Tryz.prog):
  Calls Tryz.prog 4 b W λe N=>∃v,e=.returned v/\aS.post m Tryz.prog f4 false true false false W b v N:=by
 have ba:=E;have f:=E.lt;obtain⟨p,q,ay,hV,rfl,bz,bv⟩:=E;have hA:DataW.TrodAll m Tryz.prog W 0 (λ_=>true) true f4.params.toList b.toList D p:=ay;rw[params4] at hA r;obtain⟨v0,bw,d0,bp,J,q0,a7,rfl,rfl,Z,r0⟩:=trodAll_cons hA;obtain⟨v1,bn,d1,bu,K,q1,rfl,rfl,rfl,h1,r1⟩:=trodAll_cons r0;obtain⟨v2,br,d2,b0,L,q2,rfl,rfl,rfl,h2,r2⟩:=trodAll_cons r1;obtain⟨v3,bq,d3,bm,M,q3,rfl,rfl,rfl,h3,r3⟩:=trodAll_cons r2;obtain⟨rfl,rfl,rfl⟩:=trodAll_nil r3;obtain rfl:b=#[v0,v1,v2,v3]:=by cases b;simp_all
 obtain⟨rfl,rfl⟩:=trodVars_none hV;have hb:=of_decide_eq_true hk;simp only[Ym,Rows.uptoBulkAll] at hb;obtain⟨l,rfl,_⟩:=okWide_struct Tryz.underlying29 (r 0 29 v0 rfl rfl);obtain⟨C,rfl,_⟩:=okWide_struct Tryz.underlying33 (r 1 33 v1 rfl rfl);obtain⟨I,rfl⟩:=okWide_int Tryz.underlying3 (r 2 3 v2 rfl rfl);obtain⟨z,A,c,rfl⟩:=okWide_slice Tryz.underlying34 (r 3 34 v3 rfl rfl);have aw:=Z;have az:=h1;have ax:=h2;have ar:=h3;obtain⟨n0,bj⟩:=Z;obtain⟨n1,au⟩:=h1;obtain⟨n2,bd⟩:=h2;obtain⟨n3,a1⟩:=h3;obtain⟨T,Q,bk,y⟩:=Iv (B:=1048576) ID dE n0 29 _ _ dE bj (by simp only;omega);have k0:WQ T+1<=1048576:=by simp only at y;omega
 obtain⟨U,R,a8,P⟩:=Iv (B:=1048576) ID dE n1 33 _ _ dE au (by simp only;omega);have k1:WQ U+1<=1048576:=by simp only at P;omega
 obtain⟨V,aq,bc,O⟩:=Iv (B:=1048576) ID dE n2 3 _ _ dE bd (by simp only;omega);have k2:WQ V+1<=1048576:=by simp only at O;omega
 obtain⟨X,bf,bi,S⟩:=Iv (B:=1048576) ID dE n3 34 _ _ dE a1 (by simp only;omega);have k3:WQ X+1<=1048576:=by simp only at S;omega
 have kk:WQ T+WQ U+WQ V+WQ X<=1048576:=by simp only at y P O S;omega
 obtain⟨x0,rfl,y0⟩:=Zeu bk;obtain⟨x1,rfl,y1⟩:=Zes a8;obtain⟨x2,rfl,y2⟩:=Bg bc;obtain⟨x3,rfl,y3⟩:=Zer bi;have hS:=(Zv8 x0 x1 x2 x3).h true (Zvg x0 x1 x2 x3 (Ze1 y0) (Zff k1));refine(hS.2 W (cellsOf W) (λ_ _=>none) #[.agg l,.agg C,.int .i64 I,.slice z A c] (Zdf rfl hL bg) (λ_ _ _ h=>h) (λ_ _ _ h=>by cases h) ?_).mono λe N n=>?_;refine⟨rfl,λi a w=>?_⟩
 match i with
 |0=>
   cases w;refine⟨.agg l,rfl,l,rfl,by simpa[Value.cells] using Q.1,λj x F=>?_⟩;obtain⟨u,g,k⟩:=Q.2 j x F;exact⟨u,by simpa[Value.cells] using g,k⟩
 |1=>
   cases w;refine⟨.agg C,rfl,C,rfl,by simpa[Value.cells] using R.1,λj x F=>?_⟩;obtain⟨u,g,k⟩:=R.2 j x F;exact⟨u,by simpa[Value.cells] using g,k⟩
 |2=>
   cases w;obtain⟨u,g,k⟩:=aq.2 0 _ rfl;refine⟨.int .i64 I,rfl,?_⟩
   have:u=.int .i64 I:=by simpa[Value.cells] using g.symm
   rw[<-this];exact k
 |3=>
   cases w;obtain⟨u,g,k⟩:=bf.2 0 _ rfl;refine⟨.slice z A c,rfl,?_⟩
   have:u=.slice z A c:=by simpa[Value.cells] using g.symm
   rw[<-this];exact k
 |i+4=>simp at w
 obtain⟨v,m',bt,rfl,_,_,_,s,ao,_⟩:=n;have hv:v=.bool true:=by cases ao;rfl
 subst hv;refine⟨_,rfl,[d0,d1,d2,d3],[],J++(K++(L++(M++[])))++[],[],J++(K++(L++(M++[]))),[],ba,trodAll_mk1 (shut_bool Tryz.underlying4 true),?_,rfl,s.frame _,λh=>by cases h⟩;have ap:∀x∈J,x.block<W.heap.size:=λx o=>f x (by simp[o]);have bh:∀x∈K,x.block<W.heap.size:=λx o=>f x (by simp[o]);have G:∀x∈L,x.block<W.heap.size:=λx o=>f x (by simp[o]);have bb:∀x∈M,x.block<W.heap.size:=λx o=>f x (by simp[o]);exact trodAll_cons_mk (Below.trod laid kR (of_decide_eq_true kR) aw s ap) (trodAll_cons_mk (Below.trod laid kR (of_decide_eq_true kR) az s bh) (trodAll_cons_mk (Below.trod laid kR (of_decide_eq_true kR) ax s G) (trodAll_cons_mk (Below.trod laid kR (of_decide_eq_true kR) ar s bb) trodAll_mk0)))
theorem Za4(a:Os):laidMet Tryz.prog aR.laid ((World.laidAll Tryz.prog a aR.laid).forCall (λ_ _=>0) ⟨#[],aW,[]⟩).memory:=laidMet_laidAll _ kR kR
theorem Ze4(c:Os){H:Type}(b:TypeId×Value->H):∃a,DataW.whole b Tryz.prog ((World.laidAll Tryz.prog c aR.laid).forCall (λ_ _=>0) ⟨#[],aW,[]⟩).memory f4.params.toList aS.vars false (aW:Array Value).toList 8=some ([.agg [.agg [.nil,.nil,.nil],.nil],.agg [.nil,.nil],.lit (.int .i64 0),.nil],[],a):=⟨[],kR⟩
set_option maxRecDepth 100000 in
theorem lifted(o:Os)(b:o.Started)(H:Type)(enc:TypeId×Value->H)(F:Stop.Interp):
  ReturnsInHanded {} Tryz.checked o 4 .any ((Rows.OpenSpec.upto aS).preRow enc Tryz.prog f4 aR.domain false aR.laid) (((Rows.OpenSpec.upto aS).at F).post enc Tryz.prog f4 false true false false):=by
 obtain⟨places,hx⟩:=Ze4 o enc;refine returnsInHanded_of_row (C:=Tryz.checked) (s:=Rows.OpenSpec.upto aS) own b kR func4
  (witness_row_atRef (enc:=enc) (C:=Tryz.checked) false (World.laidAll Tryz.prog o aR.laid) aW (World.laidAll_os _ _ _) kR kR kR
   (OpenSpec.preRow_of_cond 8 hx kR (λk u=>by cases u;kernel_rfl) kR (Za4 o))) ?_
 intro W j g ds q e n t _ f _ r p _;exact Zae H enc W j g ds q e n t (f _ rfl) r p
theorem Zek:(aR.inPlace==Tryz.prog.inPlace 4)=true:=kR
theorem Zej:(aR.unfollowed==Tryz.prog.unfollowed 4)=true:=kR
theorem Zei:(aR.recurses==Tryz.prog.recurses 4)=true:=kR
theorem Zeh:(aR.named==Tryz.prog.varsNamed 4)=true:=kR
theorem Zeg:(aR.plainKeys==Tryz.prog.plainKeys)=true:=kR
theorem Zef:Tryz.prog.stopsHeard=true:=kR
theorem Zee:Tryz.prog.mayEnter=true:=kR
theorem Zed:(aR.lifted==Tryz.prog.liftsFinal)=true:=kR
theorem Zec:(Tryz.prog.make==some aR.make)=true:=kR
theorem Zdl:mapsRowed Tryz.prog=true:=kR
theorem Zdk:aR.wf (OpenSpec.ofChange (Rows.OpenSpec.upto aS).bare)=true:=kR
theorem Zdj:laidOutB Tryz.prog=true:=kR
theorem Zdi:namedTie Tryz.prog aR.named (Rows.OpenSpec.upto aS).bare.vars=true:=kR
theorem Zdh:Tryz.pinned.checked.prog.funcNamed aR.func=some 4:=kR
set_option maxRecDepth 100000 in
theorem Zds:joinedFacts Tryz.prog 4 f4 (Rows.OpenSpec.upto aS).bare aR=true:=by
 unfold joinedFacts;rw[Zek,Zej,Zei,Zeh,Zeg,Zef,Zee,Zed,Zec,Zdl,Zdk,Zdj,Zdi]
 kernel_rfl
theorem Zf7:Rows.PropagationChangesApplyUptoSaid:=
 OpenClaim.holds_of_cond 4 f4 rfl rfl rfl rfl rfl rfl rfl ⟨rfl,rfl,rfl,rfl,rfl⟩ rfl rfl rfl rfl rfl Zdh func4 Zds
  (of_decide_eq_true kR) (by unfold Func.isWrapper;first|(rw[if_pos (by decide+kernel)];kernel_rfl)|(rw[if_neg (by decide+kernel)];exact⟨rfl,rfl⟩))
  (λc a H b _ F=>by rw[OpenClaim.pre_eq_preRow];exact lifted c a H b F)
theorem Zdc(f:FuncId)(b:Func)(e:Tryz.pinned.checked.prog.funcNamed aR.func=some f)(d:Tryz.pinned.checked.prog.funcs[f]?=some b):
  true=Tryz.pinned.checked.prog.looks []/\∀(j:Nat) t,b.params[j]?=some t->Tryz.pinned.checked.prog.wantsStandIn t=false:=by
 obtain rfl:f=4:=Option.some.inj ((kR:Tryz.prog.funcNamed aR.func=some 4).symm.trans e)|>.symm;obtain rfl:b=f4:=(Option.some.inj (func4.symm.trans d)).symm;refine⟨kR,λj t c=>?_⟩;rw[params4] at c;have g:t∈[29,33,3,34]:=by simpa using Array.mem_of_getElem? c
 have a:([29,33,3,34].all λu=>!Tryz.prog.wantsStandIn u)=true:=kR;exact(show Tryz.prog.wantsStandIn t=false by simpa using Xu.1 a t g)
theorem Zuy:Tryz.pinned.checked.prog.funcs.any Func.goes=false:=kR
theorem Zt9{P:Program}(h:P.funcs.any Func.goes=false)(f:FuncId):P.goes f=false:=by
 unfold Program.goes;rw[h,Y07,Bool.or_false,List.any_eq_false];intro g _;cases hg:P.funcs[g]? with
 |none=>simp
 |some fn=>?_
 rw[Array.any_eq_false] at h;obtain⟨a,rfl⟩:=YQ.1 hg;simpa using h g a
theorem Zro{c:OpenClaim}{P:Program}(h:P.funcs.any Func.goes=false)(a:c.start=.entering):false=c.goesBy P:=by
 unfold OpenClaim.goesBy Program.goesAt Program.goesFrom;rw[a];cases P.funcNamed c.func with
 |none=>rfl
 |some f=>simp[Zt9 h]
theorem Zml:Rows.PropagationChangesApplyUptoCardSaid:=
 Claim7.holds_tied_plain_at .later [] _ _ _ _ Zf7 (λ_ h=>by cases h) kR (λ_ h=>by cases h) propagationChangesApplyUpto_row_tie rfl ⟨rfl,rfl⟩ kR rfl Zdc (Zro Zuy rfl)
end
end Go.Proofs.YtfhpobpaahhfbaaGreatDoor.propagationChangesApply
