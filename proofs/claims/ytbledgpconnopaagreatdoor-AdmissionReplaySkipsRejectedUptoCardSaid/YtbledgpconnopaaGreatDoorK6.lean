/- joined by a program out of 55 texts -/
import Derived.Test.YtbledgpconnopaaGreatDoorK5
set_option linter.unusedVariables false
set_option linter.unusedSimpArgs false
set_option maxRecDepth 20000
open Go Go.Proofs
open Go.Proofs.Tryz(prog)
open ByteArray(empty)
namespace Go.Am
section
def EM(v_:GV)(firstNullable:Bool)(secondNullable:Bool):Option ((List GV)×Bool):=
 bif (v_.kind==0) then Z1 (Ah 3 firstNullable) λv3=>(Z1 (Ah 3 secondNullable) λv4=>bif firstNullable then some ([v3,v4],secondNullable) else some ([v3,v4],false)) else Z1 (GG v_.text ({data:=#[32]})) λv6=>bif !v6.2.2 then Z1 (Ah 3 secondNullable) λv9=>(some ([(GV.mk 3 0 v6.1),v9],v6.2.2)) else some ([(GV.mk 3 0 v6.1),(GV.mk 3 0 v6.2.1)],v6.2.2)
instance Zdt(v_:GV)(firstNullable:Bool)(secondNullable:Bool):Con (EM v_ firstNullable secondNullable) prog 244 [.agg v_.enc,.one (.d (.bool firstNullable)),.one (.d (.bool secondNullable))] (λr=>.tup [.one (.d (.sl (r.1.map GV.enc))),.one (.d (.bool r.2))]):=by unfold EM;exact go 42 Tryz.func244
set_option maxHeartbeats 4000000
def A7(m:Mp)(values:List GV):Option ((List GV)×Bool):=
 Z7 m.cs.tables 0 λx1=>Zp (0<=(x1.pk.length:Int)/\(x1.pk.length:Int)<=(x1.cols.length:Int)/\(x1.cols.length:Int)<=(x1.cols.length:Int)) (bif (m.step.kind==5) then Z7 ((x1.cols.take x1.cols.length).drop x1.pk.length) 0 λx6=>(bif m.fwd then Z7 ((x1.cols.take x1.cols.length).drop x1.pk.length) 1 λx9=>(Z7 values 0 λx10=>Z1 (CZ x10 x9.kind) λv11=>bif v11.2 then some ([v11.1],true) else Z1 (Ah x9.kind x9.nullable) λv14=>some ([v14],false)) else Z7 values 0 λx1015=>Z1 (CZ x1015 x6.kind) λv1016=>bif v1016.2 then some ([v1016.1],true) else Z1 (Ah x6.kind x6.nullable) λv1019=>some ([v1019],false)) else bif m.fwd then Z7 ((x1.cols.take x1.cols.length).drop x1.pk.length) 2 λx2021=>(Z1 (Ey values x2021.nullable) λv2022=>some (v2022.1,v2022.2)) else Z7 values 0 λx2023=>Z7 ((x1.cols.take x1.cols.length).drop x1.pk.length) 0 λx2024=>Z7 ((x1.cols.take x1.cols.length).drop x1.pk.length) 1 λx2025=>Z1 (EM x2023 x2024.nullable x2025.nullable) λv2026=>some (v2026.1,v2026.2))
instance Zah(m:Mp)(values:List GV):Con (A7 m values) prog 226 [.one (.rp m.enc),.one (.d (.sl (values.map GV.enc)))] (λr=>.tup [.one (.d (.sl (r.1.map GV.enc))),.one (.d (.bool r.2))]):=by unfold A7;have p1:PH [7] (Plan.qB [0,1,2,3,4] (.two 5 9 (Plan.qB [6,7,8,9,10,11] .done) (Plan.qB [5,6,7,8,10,11] .done))):=.intro;have p2:PH [13] (Plan.qB [0,1,2,3,4,5,6,7,8,9,10,11,12,13,14,15] .done):=.intro;exact go 84 Tryz.func226
abbrev R2:=List (List GV)×List (List GV)
theorem Z7a{P ty el}{aa d:Nat}{h c lv xs v K}(ab:Zv P ty=some (el,3,aa))(hb:aa<=4096)(g:Zi h 3 c (xs.map GV.enc))(hl:xs.length+1<=2097152)
  (hk:∀c' h',Zi h' 3 c' ((xs++[v]).map GV.enc)->Z0 h h' []->K (.one c') h'):Vv P ty c (.own lv [v.enc]) d h (K:=⟨K⟩):=by
 have hu:(C.qI h c).box=h.box/\(C.qI h c).ep=h.ep:=by cases c<;>exact⟨rfl,rfl⟩
 refine U3 ab g rfl dE hb (by simp[GV.enc]) (by simpa using hl) ?_;have e1:xs.map GV.enc++[v.enc]=(xs++[v]).map GV.enc:=sI
 rw[e1];refine hk _ _ (Zi.app hu.2.symm λy hy=>?_) ⟨sI,λk _ _=>sI⟩;obtain⟨z,_,rfl⟩:=Yi.1 hy;rfl
def sw{α:Type}(b:Bool)(x y:α):α×α:=bif b then(x,y) else(y,x)
def K3(aa:Bool)(n:Nat)(hv:List GV)(cv st:List GV×Bool):Option (List GV×Bool):=
 bif st.2 then Zp (n<=st.1.length)<|Z1 (AJ (sw aa (st.1.take n) (st.1.drop n)).1 hv) λeq=>bif eq then
  Z1 (bif cv.2 then Z1 (AJ cv.1 (sw aa (st.1.take n) (st.1.drop n)).2) λb=>some b else some false) λex=>some ((sw aa (st.1.take n) (st.1.drop n)).2,ex)
 else some cv else some cv
def K4{ρ:Type}(at_:List Int)(row:List GV)(k:List GV->Option ρ):Option ρ:=
 Zc (λ_ j s next=>Z7 row j λv=>next (s++[v])) k at_ 0 []
def Kt(M:Mp)(T:Tbl)(ai ao:List Int)(w:Nat)(n:Nat){ρ:Type}(_:Nat)(row:List GV)(s:R2)(next:R2->Option ρ):Option ρ:=
 Z1 (Vl T row) λkey=>K4 ai row λhv=>Z1 (A7 M hv) λcv=>Z1 (A8 M key) λst=>Z1 (K3 M.fwd n hv cv st) λp=>
 Z1 (bif !p.2 then Z1 (DZ [key,(sw M.fwd hv p.1).1,(sw M.fwd hv p.1).2]) λr=>some (s.2++[r]) else some s.2) λcomp=>
 Z1 (Bg row ai ao p.1 w) λr=>next (s.1++[r],comp)
def CW(M:Mp):Option Mp:=
 Z1 (Vd M M.step.table) λq=>Z1 (B3 M) λa=>Z7 M.cs.tables 0 λct=>Z1 (UL M M.step.table) λW=>
 Zp (q.2.length<=2097152/\a.1.length<=2097152/\ct.pk.length+1<=ct.cols.length/\ct.cols.length<=2097152)<|
 Zc (Kt M q.1 a.1 a.2 W.cols.length (ct.cols.length-ct.pk.length-1)) (λs=>some {M with out:=ZI M.step.table s.1 M.out,nc:=ZI M.step.table s.2 M.nc}) q.2 0 ([],[])
set_option maxHeartbeats 2000000 in
theorem Gy(h0 l co cn M M1)(hm:Is (CW M) M1)(m:MpAt h0 l co cn M)(K)
  (hK:∀h',MpAt h' l co cn M1->Z0 h0 h' (labs co++labs cn)->K (.tup []) h'):Z3 prog 192 [.p l] h0 K:=by
 refine Z3.qN Tryz.func192 rfl kR rfl rfl sI ?_;unfold CW at hm;replace hm:=hm.bind;obtain⟨⟨T,rows⟩,ht,hm⟩:=hm;replace hm:=hm.bind;obtain⟨⟨ai,ao⟩,ha,hm⟩:=hm;replace hm:=Is.get hm;obtain⟨ct,-,ah,hm⟩:=hm;replace hm:=hm.bind;obtain⟨W,hW,hm⟩:=hm;replace hm:=hm.chk;obtain⟨⟨ar,hl2,az,ay⟩,hm⟩:=hm;simp only at ar hl2 hm;simp at ah;have hl:=(m.lt l (Y6 ..));have hne:=Zm hl;have hne':=ZO hl;have S:∀{a b:Nat} {cs cs':List C} {h:HS},Z0 h0 h []->h.ep=a->Z0 h0 ((h.qA (a,b) cs).next.qA (a,b) cs') []:=λ{a b cs cs' h} s e=>by subst e;exact s.trans ((Z0.refl.qA (.inr sI)).next.qA (.inr sI))
 have aq:IntKind.i64.wrap ((ct.cols.length:Int)-ct.pk.length)=(ct.cols.length:Int)-ct.pk.length:=Y5 _ oM;have ae:IntKind.i64.wrap (ct.cols.length-ct.pk.length-1)=((ct.cols.length-ct.pk.length-1:Nat):Int):=by rw[Y5 _ oM];omega
 generalize ct.cols.length-ct.pk.length-1=n at hm ae;simp[m.bx];refine WS ht m sI ?_;simp;refine WS ha (m.frame (S Z0.refl.next sI)) sI ?_;simp[m.bx,hne,ah];refine WS hW (m.frame (S (S Z0.refl.next sI).next sI)) sI ?_;simp[aq,ae];intro _ _ _ _;generalize hH:HS.next _=h3;have hs3:Z0 h0 h3 []:=by rw[<-hH];exact sm
 have b1:h3.box (h0.ep+1,48)=some (T.enc.map C.d):=by rw[<-hH];simp
 have ax:h0.ep+2<h3.ep:=by rw[<-hH];simp
 clear hH;have m3:LG h0 h3 [((h0.ep+1,48),T.enc.map C.d)] [(.nil,[]),(.nil,[])] h3:=
  ⟨by simpa using b1,⟨MR.nil,rfl,sI⟩,by simp[Zn,MR.nil],hs3,Y7 _,by simp[labs],by simp[labs],by simp[Z5,labs];omega,by simp[Z5,labs],by simp[Z5,labs],hs3.1,sI⟩
 refine Z4.for (λi s e h'=>∃cO cC,En e 159 [(0,.p l),(2,.s M.step.table),(3,.p (h0.ep+1,48)),(5,.l (ai.map Zd)),(6,.l (ao.map Zd)),(8,.i W.cols.length),(9,.i n),(10,.one cO),(11,.one cC),(62,.l (rows.map (Z6 GV.enc))),(63,.i rows.length),(64,.i i)]/\LG h0 h3 [((h0.ep+1,48),T.enc.map C.d)] [(cO,s.1),(cC,s.2)] h'/\s.1.length<=i/\s.2.length<=i) hm
   ⟨.nil,.nil,sI,m3,sI,sI⟩ ?_ ?_
 .rintro i s e h' ⟨cO,cC,hE,mL,n1,n2⟩ hlt hm;have hw:IntKind.i64.wrap ((i:Int)+1)=(i:Int)+1:=Y5 _ oM;unfold Kt at hm;replace hm:=hm.bind;obtain⟨key,ag,hm⟩:=hm;have bt:=mL.box _ (Y6 ..);simp only[Tbl.enc,Yb,Yd] at bt;simp[hE,hlt,bt];refine Zq ((Uk T rows[i]).h key ag) sI ?_;simp[hE];intro _;have am:=mL.new (h':=(h'.qC (h'.ep,1121) (some (key.length,3))).next) Z0.refl.qC.next;refine Z4.for (λj q E aa=>∃cH,Ek e E [(13,.l (rows[i].map GV.enc)),(14,.one (.own (h'.ep,1121) (key.map GV.enc))),(15,.one cH),(71,.l (ai.map Zd)),(72,.i ai.length),(73,.i j)] [0,2,3,5,6,8,9,10,11,62,63,64]/\
    LG h0 h3 [((h0.ep+1,48),T.enc.map C.d)] [(cO,s.1),(cC,s.2)] aa/\Zi aa 3 cH (q.map GV.enc)/\q.length<=j) hm
    ⟨.nil,by simp[hE],am,.nil,sI⟩ ?_ ?_
  .rintro j q e aa ⟨cH,hF,mL,gH,q1⟩ au hm;have hE:=hF.an hE;have hwj:IntKind.i64.wrap ((j:Int)+1)=(j:Int)+1:=Y5 _ oM;replace hm:=hm.get;obtain⟨v,ap,hv,hm⟩:=hm;simp[hE,au,ap,hv];refine Z7a Wv dE (gH.qC sI).next oM λc2 h5 g5 ad=>?_;simp[hE,hwj];exact Ze.of (q++[v]) ⟨⟨c2,by simp[hE],(mL.new Z0.refl.qC.next).new ad,g5,sO⟩,hm⟩
  .rintro q e aa ⟨cH,hF,mL,gH,_⟩ hm;have hE:=hF.an hE;replace hm:=hm.bind;obtain⟨cv,hcv,hm⟩:=hm;replace hm:=hm.bind;obtain⟨st,hst,hm⟩:=hm;replace hm:=hm.bind;obtain⟨p,hp,hm⟩:=hm;replace hm:=hm.bind;obtain⟨comp,hcomp,hm⟩:=hm;replace hm:=hm.bind;obtain⟨r,hr,hm⟩:=hm;have aH:=gH.toA;have dH:=gH.toD;have mM:=m.frame mL.same;have af:=mM.bx;simp[hE];refine WS hcv mM (by simp[aH]) ?_;simp[hE];refine WS hst (mM.frame Z0.refl.next) sI ?_;simp[hE];unfold K3 at hp;have FW:M.fwd=true\/M.fwd=false:=by cases M.fwd<;>simp
   cases hok:st.2<;>rcases FW with ab|ab<;>simp only[hok,ab,sw,cond_true,cond_false] at hp hcomp<;>simp[hE]
   all_goals first
    | (with_reducible have hq:=Zh hp
       subst hq)
    | (replace hp:=hp.chk
       obtain⟨hn,hp⟩:=hp;replace hp:=hp.bind;obtain⟨eq,al,hp⟩:=hp;refine Z4.of (Wi.draw (Plan.qB [0,1,2,3,4,5,6,7] .done) follows kR ?_);simp[hE,hn,af,ab];refine Zq ((IA _ q).h eq al) (by simp[aH,Xs,Xg]) ?_;simp;cases eq
       all_goals first
        | (simp only[cond_false] at hp
           have hq:=Zh hp;subst hq;simp[hE])
        | (simp only[cond_true] at hp
           replace hp:=hp.bind;obtain⟨ex,hex,hp⟩:=hp;have hq:=Zh hp;subst hq;simp[hE];refine F7 hex ?_ ?_<;>clear hex<;>intro aj hex
           all_goals first
            | (have hq:=Zh hex
               subst hq;simp[hE,aj])
            | (replace hex:=hex.bind
               obtain⟨b,hb,hex⟩:=hex;obtain rfl:=Zh hex;simp[hE,aj];refine Zq ((IA cv.1 _).h b hb) (by simp[Xs,Xg]) ?_;simp[hE])
           all_goals
            first
             | (refine Zq (CE (st.1.drop n) _ rfl) ?_ ?_
                .simp[Xg];done)
             | (refine Zq (CE (st.1.take n) _ rfl) ?_ ?_
                .simp[Xs];done)
            simp[hE]))
   all_goals first
    | (with_reducible refine Zy hcomp ?_ ?_<;>clear hcomp<;>intro _ hcomp)
    | (simp only[Xr,cond_true] at hcomp)
   all_goals first
    | (have hq:=Zh hcomp
       subst hq;simp[hE];refine Zq ((GD rows[i] ai ao _ W.cols.length).h r hr) sI ?_;simp[hE];refine LM.app 0 (mL.new ?_) rfl ZQ kR dE (Zk.rowc rfl) sO λc9 h9 m9 _=>?_
       .exact sm
       simp[hE,hw];exact Ze.of (s.1++[r],s.2) ⟨⟨c9,cC,by simp[hE],m9,sO,sO⟩,hm⟩)
    | (replace hcomp:=hcomp.bind
       obtain⟨ac,ak,hcomp⟩:=hcomp;have hq:=Zh hcomp;subst hq
       try simp[hE,af,ab,dH]
       refine Zq (E6 _ ac ak) (by simp[Z6]) ?_;simp[hE];refine LM.app 1 (mL.new ?_) rfl ZQ kR dE (Zk.rowc rfl) sO λc8 h8 m8 _=>?_
       .exact sm
       simp[hE];refine Zq ((GD rows[i] ai ao _ W.cols.length).h r hr) sI ?_;simp[hE];refine LM.app 0 (m8.new ?_) rfl ZQ kR dE (Zk.rowc rfl) sO λc9 h9 m9 _=>?_
       .exact sm
       simp[hE,hw];exact Ze.of (s.1++[r],s.2++[ac]) ⟨⟨c9,c8,by simp[hE],m9,sO,sO⟩,hm⟩)
 .rintro s e h' ⟨cO,cC,hE,mL,-⟩ hm;obtain rfl:=Zh hm;have mM:=m.frame mL.same;simp[hE];refine Bi mM m.lt (mL.same.mn) mL.gr λh5 m5 ad g5=>?_;simp[hE];refine ER m5 m.lt ad g5 λh7 m7 aw _=>?_;simp;exact hK h7 m7 aw
theorem Z4.skip{P:Program}{c:Code}{Q:Exit->Env->HS->Prop}{e:Env}{h:HS}(fin:vc P c (V3 (λ_ _=>FD) Q) e h):Z4 P (c:=⟨.loop c⟩) (Q:=⟨Q⟩) e h:=by
 refine Wi.rQ (λn e' h'=>n=0/\e'=e/\h'=h) 0 ⟨rfl,rfl,rfl⟩ ?_;rintro n e' h' ⟨rfl,rfl,rfl⟩;exact(VZ _ _ _ _ fin).mono (D4 λ_ _ hf=>(hf:False).elim)
theorem S2{h:HS}{b:Nat}{cs cs':List C}:Z0 h ((h.qA (h.ep,b) cs).next.qA (h.ep,b) cs') []:=by exact sm
theorem Pv{c:C}{f:Nat->Prop}(h:c.toD=some (.sl []))(hk:f 0):lenK c (k:=⟨f⟩):=by
 cases c<;>simp[C.toD] at h<;>(try subst h)<;>simpa using hk
theorem Th(h:HS)(c v:C)(hc:c.toD=some (.sl []))(K:V->HS->Prop)(hk:∀h',Z0 h h' []->Zo h h'->K (.i (-1)) h'):
  Z3 prog 129 [.one c,.one v] h K:=by
 refine Z3.jE Tryz.func129 rfl kR λhg=>?_;refine Z3.ov Tryz.func129 ?_;simp;refine Pv hc ?_;simp;refine Z4.skip ?_;simp;exact hk h .refl λ_ _ x=>x
theorem SJ(h:HS)(c v:C)(hc:c.toD=some (.sl []))(K:V->HS->Prop)(hk:∀h',Z0 h h' []->Zo h h'->K (.one c) h'):
  Z3 prog 247 [.one c,.one v] h K:=by
 refine Z3.jE Tryz.func247 rfl kR λhg=>?_;refine Z3.ov Tryz.func247 ?_;simp;refine Za (Th _ c v hc _ λh' hs hb=>?_);simp;exact hk h' hs hb
theorem MpAt.wU{h h':HS}{l:Z2}{co cn c:C}{M:Mp}{o:List Rel}(m:MpAt h l co cn M)(s:Z0 h h' [])(r:Vp h' c o)(hl:∀k∈labs c,h.ep<=k.1/\k.1<h'.ep):
  MpAt (h'.qA l (Wt {M with out:=o} c cn)) l c cn {M with out:=o}/\Z0 h (h'.qA l (Wt {M with out:=o} c cn)) [l]:=by
 have hlt:=m.lt;have aa:=s.1;have nk:∀k∈labs c,k≠l:=λk hk h9=>by subst h9;have:=(hl k hk).1;have:=hlt k (Y6 ..);omega
 refine⟨⟨sI,r.frame λk hk=>by simp[nk k hk],(m.frame s).nc.frame λk hk=>?_,λk hk=>?_,λh9=>nk l h9 rfl,m.nl.2.1,λk hk h9=>?_⟩,(s.mn).qA (.inl sI)⟩
 have:k≠l:=λh9=>m.nl.2.1 (h9▸hk)
 simp[this];simp only[Y9,Y2] at hk;simp;rcases hk with rfl|hk|hk
 have:=hlt k (Y6 ..);omega
 exact(hl k hk).2
 have:=hlt k (by simp[hk]);omega
 have:=(hl k hk).1
 have:=hlt k (by simp[h9])
 omega
abbrev GI:=ByteArray×C×List (List GV)
structure IR(h0 h:HS)(c:C)(gs:List GI):Prop where
 mr:MR h 2 c (gs.map λg=>[.d (.str g.1),g.2.1])
 row:∀g∈gs,(g.2.1.toD=some (.sl [])/\g.2.2=[])\/MR h 1 g.2.1 (Zn (g.2.2.map rowc))
 lc:∀k∈labs c,h0.ep<=k.1/\k.1<h.ep
 lg:∀g∈gs,∀k∈labs g.2.1,h0.ep<=k.1/\k.1<h.ep/\k∉labs c
 dis:(gs.flatMap λg=>labs g.2.1).Nodup
 same:Z0 h0 h []
theorem IR.nil{h:HS}:IR h h .nil []:=⟨MR.nil,sI,by simp[labs],sI,sI,.refl⟩
theorem IR.new{h0 h h':HS}{c:C}{gs:List GI}(r:IR h0 h c gs)(hs:Z0 h h' []):IR h0 h' c gs:=
 ⟨r.mr.frame λk hk=>hs.2 k (r.lc k hk).2 sI,λg hg=>(r.row g hg).imp id λm=>m.frame λk hk=>hs.2 k (r.lg g hg k hk).2.1 sI,λk hk=>⟨(r.lc k hk).1,Y3 (r.lc k hk).2 hs.1⟩,λg hg k hk=>⟨(r.lg g hg k hk).1,Y3 (r.lg g hg k hk).2.1 hs.1,(r.lg g hg k hk).2.2⟩,r.dis,r.same.trans hs⟩
theorem IR.app{P:Program}{ty el:TypeId}{ac d:Nat}{h0 h h1:HS}{c x c1:C}{gs:List GI}{t:ByteArray}{rows:List (List GV)}{K:V->HS->Prop}(r:IR h0 h c gs)(hs:Z0 h h1 [])(ad:Zv P ty=some (el,2,ac))(hz:(ZP P el).isSome=true)(hb:ac<=4096)(hx:Zk h1 2 x [[.d (.str t),c1]])
  (hr:(c1.toD=some (.sl [])/\rows=[])\/MR h1 1 c1 (Zn (rows.map rowc)))(ab:∀k∈labs c1,h.ep<=k.1/\k.1<h1.ep)(hlen:gs.length+1<=2097152)(hk:∀c' h',IR h0 h' c' (gs++[(t,c1,rows)])->K (.one c') h'):Vv P ty c x d h1 (K:=⟨K⟩):=by
 have r1:=r.new hs;refine W5 ad hz dE hb r1.mr hx (by simpa using hlen) λc' h' m aa hl'=>hk c' h' ⟨by simpa using m,?_,?_,?_,?_,?_⟩;intro g hg;rcases Y2.1 hg with h2|h2;exact(r1.row g h2).imp id λm=>m.frame λk hk=>aa.2 k (r1.lg g h2 k hk).2.1 (r1.lg g h2 k hk).2.2;obtain rfl:=Yu.1 h2;refine hr.imp id λm=>m.frame λk hk=>aa.2 k (ab k hk).2 λh9=>?_
 have:=(r.lc k h9).2
 have:=(ab k hk).1
 omega;intro k hk;rcases hl' k hk with h2|h2;exact⟨(r1.lc k h2).1,Y3 (r1.lc k h2).2 aa.1⟩;exact⟨Yv r1.same.1 h2.1,h2.2⟩;intro g hg k hk;rcases Y2.1 hg with h2|h2;have h3:=r1.lg g h2 k hk;refine⟨h3.1,Y3 h3.2.1 aa.1,λh9=>?_⟩;rcases hl' k h9 with h4|h4;exact h3.2.2 h4;omega;obtain rfl:=Yu.1 h2;have h3:=ab k hk;refine⟨Yv r.same.1 h3.1,Y3 h3.2 aa.1,λh9=>?_⟩;rcases hl' k h9 with h4|h4
 have:=(r.lc k h4).2
 omega;omega;rw[List.flatMap_append,Yg];refine⟨r.dis,by simpa using Va,λa ha b hb2=>?_⟩;rintro rfl;obtain⟨g,hg,hk⟩:=Yx.1 ha;have h3:=(r.lg g hg a hk).2.1;have h4:=(ab a (by simpa using hb2)).1;omega;exact r1.same.trans' aa λk hk=>.inr (r1.lc k hk).1
def W4(gs:List GI):List Rel:=gs.map λg=>⟨g.1,g.2.2⟩
theorem Z78{x:List C}{f:List (List D)->Prop}{g:List C->Prop}{a:Option (List (List D))}{b:Option (List C)}(ha:a=(Ce x).map λd=>[d])(hb:b=some x)(h1:∀d,Zt x=some d->f [d])(h2:g x):DF a b (k:=⟨f⟩) (q:=⟨g⟩):=by
 subst ha hb;cases h:Ce x with
 |none=>exact h2
 |some d=>exact h1 d (O9 h)
theorem RH(h:HS)(inst:List Rel)(hm:∀r∈inst,Is (Ve r.rows) r.rows)(hlen:inst.length<=2097152)(K:V->HS->Prop)
  (hk:∀c h' gs,IR h h' c gs->W4 gs=inst->Zo h h'->K (.one c) h'):
  Z3 prog 48 [.l (inst.map Rel.enc)] h K:=by
 refine Z3.jE Tryz.func48 rfl kR λhg=>?_;refine Z3.ov Tryz.func48 ?_;have hf:Is (Zc (λ(_:Nat) x s next=>next (s++[x])) (λs=>some s) inst 0 []) inst:=by rw[Fm];rfl
 simp;intro aq;refine Z4.for (xs:=inst) (s0:=[]) (λi s e h'=>∃c gs,En e 23 [(3,.one c),(6,.l (inst.map Rel.enc)),(7,.i (inst.length:Int)),(8,.i (i:Int))]/\IR h h' c gs/\W4 gs=s/\s.length=i) hf ⟨.nil,[],sI,.nil,rfl,rfl⟩ ?_ ?_;rintro i s e h' ⟨c,gs,hE,g,aa,ac⟩ hlt hf;have hw:IntKind.i64.wrap ((i:Int)+1)=(i:Int)+1:=Y5 _ oM;have au:gs.length=i:=by rw[<-ac,<-aa];simp[W4]
 simp[hE,hlt];refine Z4.cu [0,1,2,3,4,5,6,7,8,9] (λE h1=>∃c2 ab,Ek e E [(3,.one c2)] [6,7,8]/\IR h h1 c2 ab/\W4 ab=s++[inst[i]]) ?_ ?_;simp[hE];have ae:Z0 h' ((h'.qA (h'.ep,80) [C.d (D.str empty),C.nil]).next.qA (h'.ep,80) [C.d (D.str inst[i].table),C.d (D.sl (List.map (Z6 GV.enc) inst[i].rows))]) []:=S2;refine Za (Z3.jE Tryz.func85 rfl kR λam=>II _ inst[i].rows inst[i].rows (hm _ (Yf hlt)) _ λc1 h1 g1 hsc ah=>?_);have aj:=hsc.jA am;simp[hE];refine⟨aj,?_⟩;have af:=ae.trans hsc;have hl2:∀k∈labs c1,h'.ep<=k.1/\k.1<h1.ep:=λk hk=>by have:=ah k hk;have:=ae.1;omega
 have ag:W4 (gs++[(inst[i].table,c1,inst[i].rows)])=s++[inst[i]]:=by simp[W4] at aa|-;exact aa
 refine Z78 (x:=[.d (.str inst[i].table),c1]) (by cases hz:BJ [.d (.str inst[i].table),c1]<;>simp[Ce,hz,Zt]<;>cases c1.toD<;>rfl) rfl (λd hd=>?_) ?_;have h9:c1.toD=some (.sl [])/\inst[i].rows=[]/\d=[.str inst[i].table,.sl []]:=by rcases g1.2.2 with⟨h2,rfl|rfl⟩|⟨lo,cap,sp,rfl,-,-⟩;simp[Zt,C.toD] at hd;exact⟨rfl,by simpa[Zn] using h2,hd.symm⟩;simp[Zt,C.toD] at hd;exact⟨rfl,by simpa[Zn] using h2,hd.symm⟩;simp[Zt,C.toD] at hd
 obtain⟨ar,ak,rfl⟩:=h9;simp[hE];refine IR.app (t:=inst[i].table) (c1:=.d (.sl [])) (rows:=[]) g (af.trans ((Z0.refl.qC).next)) Bt kR dE (Zk.qU rfl) (.inl ⟨rfl,rfl⟩) (by simp[labs]) oM λc' al ad=>?_;simp[hE];refine Zb.of ⟨c',_,by simp[hE],ad,?_⟩;rw[<-ag,ak];simp[W4];simp[hE];have hs2:Z0 h1 ((h1.qA (h1.ep,304) [.d (.str inst[i].table),c1]).next) []:=(Z0.refl.qA (.inr sI)).next;refine IR.app (t:=inst[i].table) (c1:=c1) (rows:=inst[i].rows) g (af.trans hs2) Bt kR dE (Zk.jY rfl sI) (.inr (g1.frame λk hk=>hs2.2 k (hl2 k hk).2 sI)) (λk hk=>⟨(hl2 k hk).1,Y3 (hl2 k hk).2 hs2.1⟩) oM λc' al ad=>?_;simp[hE];exact Zb.of ⟨c',_,by simp[hE],ad,ag⟩;rintro e1 h1 ⟨c2,ab,hF,g1,ap⟩;have hE:=hF.an hE;simp[hE,hw];exact Ze.of (s++[inst[i]]) ⟨⟨c2,ab,by simp[hE],g1,ap,by simp[ac]⟩,hf⟩;rintro s e h' ⟨c,gs,hE,g,aa,ac⟩ hf;obtain rfl:=Zh hf;simp[hE];exact hk _ _ _ g aa (g.same.jA hg)
def DM(x:List GV)(k0:List GV):Option Bool:=
 Z1 (AJ x k0) λv1=>some v1
instance Qb(x:List GV)(k0:List GV):Con (DM x k0) prog 249 [.one (.d (.sl (x.map GV.enc))),.one (.rp [.sl (k0.map GV.enc)])] (λr=>.one (.d (.bool r))):=by unfold DM;exact go 7 Tryz.func249
instance Z9n(k0:List GV):ConF (λx=>DM x k0) prog (λx=>.one (.d (.sl (x.map GV.enc)))) (λr=>.one (.d (.bool r))) 249 [[.sl (k0.map GV.enc)]]:=⟨λx=>(Qb x k0)⟩
def Cy(s_:List (List GV))(f:(List GV)->Option Bool):Option Int:=
 Zc (λ(i2:Nat) (x2:List GV) (s2:Unit) next_2=>Z1 (f x2) λv3=>bif v3 then some (i2:Int) else next_2 ()) (λ(s2:Unit)=>some (-1)) s_ 0 ()
instance QH(s_:List (List GV))(f:(List GV)->Option Bool){g:FuncId}{caps:List (List D)}[ConF f prog (λx=>.one (.d (.sl (x.map GV.enc)))) (λv=>.one (.d (.bool v))) g caps]:Con (Cy s_ f) prog 129 [.one (.d (.sl (s_.map (Z6 GV.enc)))),.one (.fn g caps)] (λr=>.one (.d (.int .i64 r))):=by unfold Cy;have l1:LH (σ:=Unit) 8 [0,1,7] []:=.intro;exact go 19 Tryz.func129
theorem QN(s_:List (List GV))(g:FuncId)(caps:List (List D))(f:(List GV)->Option Bool)(hf:∀xa v,Is (f xa) v->Zj prog g (.one (.d (.sl (xa.map GV.enc)))::We caps) (.one (.d (.bool v))))(r:Int)(hm:Is (Cy s_ f) r):Zj prog 129 [.one (.d (.sl (s_.map (Z6 GV.enc)))),.one (.fn g caps)] (.one (.d (.int .i64 r))):=
 haveI:ConF f prog (λx=>.one (.d (.sl (x.map GV.enc)))) (λv=>.one (.d (.bool v))) g caps:=⟨hf⟩
 (QH s_ f).h r hm
def B5(s_:List (List GV))(f:(List GV)->Option Bool):Option Bool:=
 Z1 (Cy s_ f) λv1=>some (decide (0<=v1))
instance Za3(s_:List (List GV))(f:(List GV)->Option Bool){g:FuncId}{caps:List (List D)}[ConF f prog (λx=>.one (.d (.sl (x.map GV.enc)))) (λv=>.one (.d (.bool v))) g caps]:Con (B5 s_ f) prog 98 [.one (.d (.sl (s_.map (Z6 GV.enc)))),.one (.fn g caps)] (λr=>.one (.d (.bool r))):=by unfold B5;exact go 9 Tryz.func98
def UK(row:List GV)(k0:List (List GV)):Option Bool:=
 Z1 (B5 k0 (λxa_=>DM xa_ row)) λv2=>some v2
instance Lb(row:List GV)(k0:List (List GV)):Con (UK row k0) prog 248 [.one (.d (.sl (row.map GV.enc))),.one (.rp [.sl (k0.map (Z6 GV.enc))])] (λr=>.one (.d (.bool r))):=by unfold UK;exact go 7 Tryz.func248
def PY:List D->GV
 |[.int _ k,.int _ n,.str t]=>⟨k,n,t⟩
 |_=>⟨0,0,empty⟩
def FM:List D->List GV
 |[.sl xs]=>xs.map PY
 |_=>[]
theorem Kh(row:List GV):FM [.sl (row.map GV.enc)]=row:=by simp[FM,Function.comp_def,PY,GV.enc]
theorem Ns(q:List GV->Bool):∀rows:List (List GV),keep (λt=>q (FM t)) (Zn (rows.map rowc)) (rows.map (Z6 GV.enc))=Zn ((rows.filter λr=>!q r).map rowc)
 |[]=>rfl
 |row::rows=>by have ih:=Ns q rows;simp only[Zn] at ih|-;simp only[Yb,keep,Z6,Kh];cases h:q row;simp[h,<-ih,Z6];simp[h,<-ih,Z6]
theorem Nx{f:List GV->Option Bool}{p:List GV->Bool}:∀(xs:List (List GV)) (i:Nat),(∀x∈xs,f x=some (p x))->Zc (λ(i2:Nat) (x2:List GV) (s2:Unit) next_2=>(Z1 (f x2) λv3=>(bif v3 then(some (i2:Int)) else(next_2 ())))) (λ(s2:Unit)=>(some (-1))) xs i ()=some (match xs.findIdx? p with|some j=>((i+j:Nat):Int)|none=>-1)
 |[],i,_=>by simp[Zc]
 |x::xs,i,hf=>by
   rw[Zc,hf x (by simp),List.findIdx?_cons];show(bif p x then some (i:Int) else _)=_;cases hp:p x with
   |true=>simp
   |false=>?_
   have:=Nx xs (i+1) λy hy=>hf y (by simp[hy])
   simp only[cond_false];rw[this];cases hx:xs.findIdx? p with
   |none=>simp
   |some j=>simp only[Yj];rw[show i+1+j=i+(j+1) by omega];rfl
def inWs(ws:List (List GV))(row:List GV):Bool:=(UK row ws).getD false
def WY(h:HS)(c:C)(rows:List (List GV)):Prop:=(c.toD=some (.sl [])/\rows=[])\/MR h 1 c (Zn (rows.map rowc))
theorem WY.lenK{h:HS}{c:C}{rows:List (List GV)}{f:Nat->Prop}(r:WY h c rows)(hk:f rows.length):lenK c (k:=⟨f⟩):=by rcases r with⟨h1,rfl⟩|m;exact Pv h1 hk;exact MR.lenK m (by simpa[Zn] using hk)
theorem Tf(h:HS)(b:Z2)(c cw:C)(rows ws:List (List GV))(hb:h.box b=some [cw])(ad:∀h',Z0 h h' (labs c)->Frz h' cw (.sl (ws.map (Z6 GV.enc))))(ag:b.1<h.ep)(hn:b∉labs c)(ae:∀k∈labs c,k.1<h.ep)(r:WY h c rows)(hall:∀row∈rows,(UK row ws).isSome=true)(K:V->HS->Prop)
  (hk:∀c' h',WY h' c' (rows.filter λx=>!inWs ws x)->Z0 h h' (labs c)->labs c'=labs c->K (.one c') h'):
  Z3 prog 247 [.one c,.one (.fn 248 [.lab b])] h K:=by
 rcases r with⟨h1,rfl⟩|m;exact SJ h c _ h1 K λh' hs hb=>hk c h' (.inl ⟨h1,rfl⟩) (hs.mn) rfl;have aa:∀row∈rows,UK row ws=some (inWs ws row):=λrow hr=>by
  have:=hall row hr
  unfold inWs;cases h9:UK row ws with
  |none=>rw[h9] at this;cases this
  |some b=>rfl
 refine QA h c (Zn (rows.map rowc)) (rows.map (Z6 GV.enc)) 248 [.lab b] [[.sl (ws.map (Z6 GV.enc))]] (λt=>inWs ws (FM t)) _ m ae
  (by simp[Zn]) (by simp[Z6]) ?_ ?_ ?_ ?_ (QN rows 248 [[.sl (ws.map (Z6 GV.enc))]] (λrow=>UK row ws) (λxa v hv=>(Lb xa ws).h v hv) _ (Nx rows 0 aa)) ?_ _ (λc' h' ab af hl'=>?_)
 intro h' _ i y t hy ht;simp only[Zn,Y8] at hy ht;cases hr:rows[i]? with
 |none=>rw[hr] at hy;cases hy
 |some row=>?_
 rw[hr] at hy ht;cases hy;cases ht;exact⟨.data rfl,trivial⟩;intro h' hs;exact⟨.one (.ptr ((hs.2 _ ag hn).trans hb) ⟨ad h' hs,trivial⟩),trivial⟩;refine .fn rfl λi cp ds hi hd=>?_
 match i with
 |0=>
   simp at hi hd;subst hi hd;exact⟨_,hb,ad h .refl,trivial⟩
 |i+1=>simp at hi
 intro t ht;obtain⟨row,ac,rfl⟩:=Yi.1 ht;simp only[Z6,PE,Kh];exact(Lb row ws).h _ (aa row ac);rw[List.findIdx?_map];have e1:((λt=>inWs ws (FM t))∘Z6 GV.enc)=inWs ws:=by funext row;simp only[Function.comp_def,Z6,Kh]
 rw[e1];cases rows.findIdx? (inWs ws)<;>simp;rw[Ns (inWs ws)] at ab;exact hk c' h' (.inr ab) af hl'
theorem IR.apart{h0 h:HS}{c:C}{gs:List GI}(r:IR h0 h c gs){i j:Nat}(hi:i<gs.length)(hj:j<gs.length)(hij:i≠j):∀k∈labs gs[i].2.1,k∉labs gs[j].2.1:=by have h1:=(YV.1 (XN.1 r.dis).2);intro k hk aa;rcases Nat.lt_or_gt_of_ne hij with h2|h2;exact h1 i j hi hj h2 k hk k aa rfl;exact h1 j i hj hi h2 k aa k hk rfl
theorem WY.frame{h h':HS}{c:C}{rows:List (List GV)}(r:WY h c rows)(hb:∀k∈labs c,h'.box k=h.box k):WY h' c rows:=r.imp id λm=>m.frame hb
theorem IR.put{h0 h h1:HS}{lo:Z2}{cap i:Nat}{sp:List C}{gs:List GI}{c':C}{rows:List (List GV)}(r:IR h0 h (.mrow lo 0 gs.length cap) gs)(hi:i<gs.length)(hs:Z0 h h1 (lo::labs gs[i].2.1))
  (bo:h1.box lo=some (Z8 ((gs.map λg=>[.d (.str g.1),g.2.1]).set i [.d (.str gs[i].1),c']) sp))(hcap:(Z8 (gs.map λg=>[C.d (.str g.1),g.2.1]) sp).length=cap*2)(hr:WY h1 c' rows)(hl:∀k∈labs c',k∈labs gs[i].2.1\/(h.ep<=k.1/\k.1<h1.ep)):
  IR h0 h1 (.mrow lo 0 gs.length cap) (gs.set i (gs[i].1,c',rows)):=by
 have hall:=r.mr.1.set (k:=i) (x:=[.d (.str gs[i].1),c']) rfl;have ab:∀g∈gs.set i (gs[i].1,c',rows),g=(gs[i].1,c',rows)\/∃j,∃hj:j<gs.length,j≠i/\g=gs[j]:=λg hg=>by
  obtain⟨j,hj,he⟩:=Yz hg;rw[List.getElem_set] at he;rw[YT] at hj;split at he;exact .inl he.symm;rename_i h9;exact .inr ⟨j,hj,λh8=>h9 h8.symm,he.symm⟩
 have ac:=r.lc lo (by simp[labs]);refine⟨⟨by rw[YD];exact hall,by have:=r.mr.2.1;simpa using this,.inr ⟨lo,cap,sp,sI,by rw[YD];exact bo,?_⟩⟩,?_,λk hk=>⟨(r.lc k hk).1,Y3 (r.lc k hk).2 hs.1⟩,?_,?_,?_⟩;rw[YD,WL hall,YT,<-WL (sp:=sp) r.mr.1,hcap];intro g hg;rcases ab g hg with rfl|⟨j,hj,aa,rfl⟩;exact hr;refine WY.frame (r.row _ (Yf hj)) λk hk=>hs.2 k (r.lg _ (Yf hj) k hk).2.1 λh9=>?_;rcases Y9.1 h9 with rfl|h9;exact(r.lg _ (Yf hj) k hk).2.2 (by simp[labs]);exact r.apart hj hi aa k hk h9;intro g hg k hk;rcases ab g hg with rfl|⟨j,hj,aa,rfl⟩;rcases hl k hk with h2|h2;have h3:=r.lg _ (Yf hi) k h2;exact⟨h3.1,Y3 h3.2.1 hs.1,h3.2.2⟩;exact⟨Yv r.same.1 h2.1,h2.2,λh9=>by have:=(r.lc k h9).2;omega⟩;have h3:=r.lg _ (Yf hj) k hk;exact⟨h3.1,Y3 h3.2.1 hs.1,h3.2.2⟩;have key:∀j (hj:j<gs.length),j≠i->∀x∈labs c',x∉labs gs[j].2.1:=λj hj aa x hx h9=>by
  rcases hl x hx with h2|h2;exact r.apart hi hj (Ne.symm aa) x h2 h9
  have:=(r.lg _ (Yf hj) x h9).2.1;omega
 refine XN.2 ⟨λg hg=>Va,YV.2 λa b ha hb ad x hx y hy=>?_⟩;rw[YT] at ha hb;simp only[List.getElem_set] at hx hy;split at hx<;>split at hy;omega;rintro rfl;exact key b hb oM x hx hy;rintro rfl;exact key a ha oM x hy hx;rintro rfl;exact r.apart ha hb oM x hx hy;refine r.same.trans' hs λk hk=>.inr ?_;rcases Y9.1 hk with rfl|h9;exact ac.1;exact(r.lg _ (Yf hi) k h9).1
theorem Z33(h0 h:HS)(l9:Z2)(c cw:C)(gs:List GI)(ws:List (List GV))(i:Nat)(al:h.box l9=some [c])(ad:l9.1<h.ep)(ar:l9∉labs c)(aw:∀g∈gs,l9∉labs g.2.1)(r:IR h0 h c gs)(hi:i<gs.length)
  (au:∀h',Z0 h h' (labs gs[i].2.1)->Frz h' cw (.sl (ws.map (Z6 GV.enc))))(hall:∀row∈gs[i].2.2,(UK row ws).isSome=true)(K:V->HS->Prop)
  (hk:∀h' c',IR h0 h' c (gs.set i (gs[i].1,c',gs[i].2.2.filter λx=>!inWs ws x))->h'.box l9=some [c]->Z0 h h' (labs c++labs gs[i].2.1)->labs c'=labs gs[i].2.1->K (.b (decide ((gs[i].2.2.filter λx=>!inWs ws x).length<gs[i].2.2.length))) h'):
  Z3 prog 246 [.i (i:Int),.one cw,.p l9] h K:=by
 refine Z3.ov Tryz.func246 ?_;obtain⟨lo,cap,sp,hc,hb,hcap⟩:=r.mr.block sO;rw[Yh] at hc;subst hc;obtain⟨xs,ac⟩:∃xs:List (List C),xs=gs.map λg=>[.d (.str g.1),g.2.1]:=⟨_,rfl⟩;have af:=r.mr;rw[<-ac] at hb hcap af;have hxl:xs.length=gs.length:=by simp[ac]
 have hx:xs[i]?=some [.d (.str gs[i].1),gs[i].2.1]:=by simp[ac,hi]
 have t1:=Vf (sp:=sp) (f:=1) (m:=1) af.1 hx sI;have az:=Up (sp:=sp) af.1 (k:=i) oM;have ae:=(r.lc lo (by simp[labs])).2;have ak:WY h gs[i].2.1 gs[i].2.2:=r.row _ (Yf hi);have ag:=r.lg _ (Yf hi);have ay:=aw _ (Yf hi);have aj:lo∉labs gs[i].2.1:=λh9=>(ag lo h9).2.2 (by simp[labs]);have ap:l9≠lo:=λh9=>ar (by simp[labs,h9]);replace t1:Zl 1 ((Z8 xs sp).drop (i*2+1))=some [gs[i].2.1]:=by rw[t1];rfl
 simp[al,Zm ad,ZO ad,hb,hi,t1,Zm ae,ZO ae];refine ak.lenK ?_;simp;have ah:Z0 h (h.qA (h.ep,64) [cw]).next []:=by exact sm
 have ax:WY (h.qA (h.ep,64) [cw]).next gs[i].2.1 gs[i].2.2:=ak.imp id λm=>m.frame λk hk=>ah.2 k (ag k hk).2.1 sI;have key:∀(h2:HS),Z0 (h.qA (h.ep,64) [cw]).next h2 (labs gs[i].2.1)->h2.box l9=some [C.mrow lo 0 gs.length cap]/\h2.box lo=some (Z8 xs sp)/\Z0 h h2 (labs gs[i].2.1):=λh2 hs=>by have hs3:Z0 h h2 (labs gs[i].2.1):=(ah.mn).trans hs;exact⟨(hs3.2 l9 ad ay).trans al,(hs3.2 lo ae aj).trans hb,hs3⟩
 have put:∀(c':C),Zg (Z8 xs sp) (i*2+1) [c']=Z8 (xs.set i [.d (.str gs[i].1),c']) sp:=λc'=>Ar (sp:=sp) (f:=1) (vs:=[c']) af.1 hx sI;have call:∀(K':V->HS->Prop),(∀c' h2,WY h2 c' (gs[i].2.2.filter λx=>!inWs ws x)->Z0 h h2 (labs gs[i].2.1)->labs c'=labs gs[i].2.1->h2.box l9=some [C.mrow lo 0 gs.length cap]->h2.box lo=some (Z8 xs sp)->K' (.one c') h2)->Z3 prog 247 [.one gs[i].2.1,.one (.fn 248 [.lab (h.ep,64)])] (h.qA (h.ep,64) [cw]).next K':=λK' hK'=>
  Tf _ (h.ep,64) gs[i].2.1 cw gs[i].2.2 ws sI (λh' aa=>au h' ((ah.mn).trans aa)) sI (λh9=>by have:=(ag _ h9).2.1;simp at this) (λk hk=>Y3 (ag k hk).2.1 ah.1) ax hall K' λc' h2 ab aa hl'=>hK' c' h2 ab (key h2 aa).2.2 hl' (key h2 aa).1 (key h2 aa).2.1
 refine Z4.jU (λk=>k !=8) (Plan.qB [1,2,3,4,5,6,7] (.two 0 8 (Plan.qB [8,9,10,11] .done) (Plan.qB [0,9,10,11] .done))) follows kR (λe1 h1=>∃c',e1.n=32/\e1.get 0=.i (i:Int)/\e1.get 2=.p l9/\e1.get 6=.i (gs[i].2.2.length:Int)/\h1.box l9=some [.mrow lo 0 gs.length cap]/\h1.box lo=some (Z8 (xs.set i [.d (.str gs[i].1),c']) sp)/\WY h1 c' (gs[i].2.2.filter λx=>!inWs ws x)/\labs c'=labs gs[i].2.1/\Z0 h h1 (lo::labs gs[i].2.1)) ?_ ?_
 .simp[Plan.qB,Wc,planOps,isCallAt,callKind,al,Zm ad,ZO ad,hb,hi,t1,Zm ae,ZO ae];constructor
  all_goals
   refine Za (call _ λc' h2 ab aa hl' b9 bo=>?_);simp[Plan.qB,Wc,planOps,isCallAt,callKind,b9,bo,hi];refine⟨oM,?_⟩;rw[put];have hb2:∀k∈labs c',(h2.qA lo (Z8 (xs.set i [.d (.str gs[i].1),c']) sp)).box k=h2.box k:=λk hk=>by simp[HS.qA,show k≠lo from λh9=>aj (by rw[<-hl',<-h9];exact hk)]
   exact Zb.of ⟨c',sI,sI,sI,sI,by simp[HS.qA,ap,b9],sI,ab.frame hb2,hl',Z0.qA (aa.mono λk hk=>Yc _ hk) (.inl sI)⟩
 rintro e1 h1 ⟨c',en,e0,e2,e6,b9,bo,ab,hl',hs⟩;have aq:(xs.set i [C.d (.str gs[i].1),c'])[i]?=some [.d (.str gs[i].1),c']:=by simp[hxl,hi]
 have am:=af.1.set (k:=i) (x:=[C.d (.str gs[i].1),c']) rfl;have t2:=Vf (sp:=sp) (f:=1) (m:=1) am aq sI;replace t2:Zl 1 ((Z8 (xs.set i [C.d (.str gs[i].1),c']) sp).drop (i*2+1))=some [c']:=by rw[t2];rfl
 simp[en,e0,e2,e6,b9,bo,hi,t2];refine ab.lenK ?_;simp[en,e0,e2,e6];have h8:=hk h1 c' (IR.put r hi hs (by rw[<-ac];exact bo) (by rw[<-ac];exact hcap) ab λk hk=>.inl (hl'▸hk)) b9 (hs.mono λk hk=>by simpa[labs] using hk) hl';simpa using h8
def BQ(s_:Sch)(inst:List Rel)(fk:Fk)(row:List GV):Option Bool:=
 Z1 (WZ s_ inst fk.ref) λv3=>Zc (λ(i6:Nat) (x6:Int) (s6:(List GV)) next_6=>bif decide (x6<0) then some true else bif decide ((row.length:Int)<=x6) then some true else Z7 row x6 λx10=>bif (x10.kind==0) then some true else W0 s6 [x10] λ_=>next_6 (s6++[x10])) (λ(s6:(List GV))=>Z1 (Uj v3.1 v3.2 s6) λv14=>some v14.2) fk.cols 0 []
instance R9(s_:Sch)(inst:List Rel)(fk:Fk)(row:List GV):Con (BQ s_ inst fk row) prog 100 [.agg s_.enc,.one (.d (.sl (inst.map Rel.enc))),.agg fk.enc,.one (.d (.sl (row.map GV.enc)))] (λr=>.one (.d (.bool r))):=by
 unfold BQ;have l1:LH (σ:=(List GV)) 27 [3,9,10,25,26] [.g 11 3 (λs=>s.map GV.enc)]:=.intro;exact go 63 Tryz.func100
def BR(c:Cons)(row:List GV):Option Bool:=
 bif decide (c.left<0) then some true else bif decide ((row.length:Int)<=c.left) then some true else bif decide ((row.length:Int)<=c.right) then some true else bif decide (0<=c.right) then Z7 row c.right λx9=>(Z7 row c.left λx10=>Z1 (Aa x10 c.op x9) λv11=>bif v11.1 then some true else some (v11.2 !=0)) else Z7 row c.left λx13=>Z1 (Aa x13 c.op c.value) λv14=>bif v14.1 then some true else some (v14.2 !=0)
instance Rg(c:Cons)(row:List GV):Con (BR c row) prog 102 [.agg c.enc,.one (.d (.sl (row.map GV.enc)))] (λr=>.one (.d (.bool r))):=by unfold BR;have p1:PH [6] (Plan.qB [0,1,2,3,4,5,6,7,8,9,10,11,12,13] .done):=.intro;exact go 52 Tryz.func102
theorem WY.frz{h:HS}{c:C}{rows:List (List GV)}(r:WY h c rows):Frz h c (.sl (rows.map (Z6 GV.enc))):=by
 rcases r with⟨h1,rfl⟩|m;exact .data h1;refine m.frz (by simp[Zn]) (by simp[Z6]) λi y t hy ht=>?_;simp only[Zn,Y8] at hy ht;cases hr:rows[i]? with
 |none=>rw[hr] at hy;cases hy
 |some row=>?_
 rw[hr] at hy ht;cases hy;cases ht;exact⟨.data rfl,trivial⟩
theorem IR.frz{h0 h:HS}{c:C}{gs:List GI}(r:IR h0 h c gs):Frz h c (.sl ((W4 gs).map Rel.enc)):=by
 refine r.mr.frz (by simp[W4]) (λt ht=>by obtain⟨y,_,rfl⟩:=Yi.1 ht;rfl) λi y t hy ht=>?_;simp only[W4,Y8] at hy ht;cases hr:gs[i]? with
 |none=>rw[hr] at hy;cases hy
 |some g=>?_
 rw[hr] at hy ht;cases hy;cases ht;exact⟨.data rfl,WY.frz (r.row g (Y4 hr)),trivial⟩
def Hc(S:Sch)(inst:List Rel)(t:ByteArray)(row:List GV)(f:Fk)(s:Bool):Option Bool:=
 bif s then some true else bif strEq f.table t then Z1 (BQ S inst f row) λv=>some !v else some false
def Jt{ρ:Type}(S:Sch)(inst:List Rel)(t:ByteArray)(row:List GV)(b:Bool)(k:Bool->Option ρ):Option ρ:=
 Zc (λ(_:Nat) (f:Fk) (s:Bool) next=>Z1 (Hc S inst t row f s) next) k S.fks 0 b
def Js(M:Mp)(S:Sch)(inst:List Rel)(t:ByteArray){ρ:Type}(_:Nat)(row:List GV)(s:List (List GV))(next:List (List GV)->Option ρ):Option ρ:=
 Z1 (bif (M.step.kind==13||M.step.kind==14)&&strEq M.step.cons.table t then Z1 (BR M.step.cons row) λv=>some !v else some false) λb=>
 Jt S inst t row b λb=>bif b then next (s++[row]) else next s
def Hw(M:Mp)(S:Sch)(inst:List Rel)(t:ByteArray)(rows:List (List GV)):Option (List (List GV)):=
 Zp (rows.length<=2097152)<|Zc (Js M S inst t) (λs=>some s) rows 0 []
theorem Te(h0 h:HS)(l:Z2)(co cn c:C)(M:Mp)(S:Sch)(gs:List GI)(i:Nat)(out:List (List GV))(m:MpAt h l co cn M)(r:IR h0 h c gs)(hi:i<gs.length)(hm:Is (Hw M S (W4 gs) gs[i].1 gs[i].2.2) out)(K:V->HS->Prop)
  (hk:∀c' h',MR h' 1 c' (Zn (out.map rowc))->Z0 h h' []->(∀k∈labs c',h.ep<=k.1/\k.1<h'.ep)->K (.one c') h'):
  Z3 prog 250 [.p l,.agg (S.enc.map C.d),.one c,.i (i:Int)] h K:=by
 refine Z3.ov Tryz.func250 ?_;obtain⟨hlim,hm⟩:=hm.chk;have hl:=m.lt l (Y6 ..);obtain⟨lo,cap,sp,hc,hb,hcap⟩:=r.mr.block sO;rw[Yh] at hc;subst hc;have hx:(gs.map λg=>[C.d (.str g.1),g.2.1])[i]?=some [.s gs[i].1,gs[i].2.1]:=by simp[hi]
 have t1:Zl 1 ((Z8 (gs.map λg=>[C.d (.str g.1),g.2.1]) sp).drop (i*2+1))=some [gs[i].2.1]:=by rw[Vf (f:=1) (m:=1) r.mr.1 hx sI];rfl
 have t0:Zl 1 ((Z8 (gs.map λg=>[C.d (.str g.1),g.2.1]) sp).drop (i*2))=some [.s gs[i].1]:=by have:=Vf (sp:=sp) (f:=0) (m:=1) r.mr.1 hx sI;rw[YY] at this;rw[this];rfl
 have ad:=(r.lc lo (by simp[labs])).2;have ax:WY h gs[i].2.1 gs[i].2.2:=r.row _ (Yf hi);obtain⟨kd,ap⟩:∃kd,(M.step.kind==13||M.step.kind==14)=kd:=⟨_,rfl⟩;have ah:Z0 h (h.qA (h.ep,80) (S.enc.map C.d)).next []:=by exact sm
 obtain⟨h1,af⟩:∃h1,h1=(h.qA (h.ep,80) (S.enc.map C.d)).next:=⟨_,rfl⟩;have b5:h1.box (h.ep,80)=some (S.enc.map C.d):=by rw[af];simp
 have e5:h.ep<h1.ep:=by rw[af];simp
 rw[<-af] at ah;have hh:=af;simp only[Sch.enc,Yb,Yd] at hh b5;rcases Bool.eq_false_or_eq_true (M.step.kind==13) with ae|ae
 all_goals
  simp[m.bx,Zm hl,ZO hl,ae,hb,hi,t1,Zm ad,ZO ad];refine ax.lenK ?_;simp;rw[<-hh];refine Z4.for (xs:=gs[i].2.2) (s0:=[]) (λj s e h'=>∃c',En e 99 [(0,.p l),(2,.one (.mrow lo 0 gs.length cap)),(3,.i (i:Int)),(5,.p (h.ep,80)),(9,.b kd),(10,.one c'),(34,.one gs[i].2.1),(35,.i (gs[i].2.2.length:Int)),(36,.i (j:Int))]/\
   MR h' 1 c' (Zn (s.map rowc))/\Z0 h1 h' []/\(∀k∈labs c',h1.ep<=k.1/\k.1<h'.ep)/\s.length<=j) hm ⟨.nil,by simp[<-ap,ae],by simpa[Zn] using MR.nil,.refl,by simp[labs],sI⟩ ?_ ?_
  rintro j s e h' ⟨c',hE,mc,hs2,ab,ba⟩ hlt hm;have hw:IntKind.i64.wrap ((j:Int)+1)=(j:Int)+1:=Y5 _ oM;have hS:=ah.trans hs2;have m':=m.frame hS;have r':=r.new hS;have hb':=(hS.2 lo ad sI).trans hb;have bg:=(hs2.2 (h.ep,80) e5 sI).trans b5;obtain⟨lr,capr,ar,aj,bb,a1⟩:∃lr cap sp,gs[i].2.1=.mrow lr 0 gs[i].2.2.length cap/\h'.box lr=some (Z8 (Zn (gs[i].2.2.map rowc)) sp)/\(Z8 (Zn (gs[i].2.2.map rowc)) sp).length=cap*1:=by rcases r'.row _ (Yf hi) with⟨-,h9⟩|h9;rw[h9] at hlt;simp at hlt;obtain⟨lr,cap,sp,h1,h2,h3⟩:=h9.block (by simp[Zn];omega);exact⟨lr,cap,sp,by rw[h1];simp[Zn],h2,h3⟩
  rw[aj] at hE;have az:(Zn (gs[i].2.2.map rowc))[j]?=some [rowc gs[i].2.2[j]]:=by simp[Zn,hlt]
  have tr:=Vf (sp:=ar) (f:=0) (m:=1) ((r'.row _ (Yf hi)).elim (λh9=>by rw[h9.2] at hlt;simp at hlt) λh9=>h9.1) az sI;replace tr:Zl 1 ((Z8 (Zn (gs[i].2.2.map rowc)) ar).drop j)=some [rowc gs[i].2.2[j]]:=by simpa[Zl] using tr
  unfold Js at hm;obtain⟨b,hbb,hm⟩:=hm.bind;simp[hE,hlt,bb,tr];have bj:=m'.lt l (Y6 ..);have bi:=Y3 ad hS.1;rw[ap] at hbb;refine Z4.cu [0,1,2,8,9,10,11,12,3,4,5,6,7,13,14,15,16,21,17,18,19,20,22,23,24,25] (λE h2=>Ek e E [(12,.one (rowc gs[i].2.2[j])),(13,.b b),(34,.one (.mrow lr 0 gs[i].2.2.length capr))] [0,2,3,5,9,10,35,36]/\Z0 h' h2 []) ?_ ?_;cases kd with|false=>?_|true=>?_;obtain rfl:=Zh hbb;simp[hE];exact⟨λ_ _ x=>x,Zb.of ⟨by simp[hE],.refl⟩⟩;cases hst:strEq M.step.cons.table gs[i].1 with|false=>?_|true=>?_;rw[hst] at hbb;obtain rfl:=Zh hbb;simp[hE,m'.bx,hb',hi,t0,hst];exact⟨λ_ _ x=>x,Zb.of ⟨by simp[hE],.refl⟩⟩;rw[hst] at hbb;replace hbb:=Is.bind (m:=BR M.step.cons gs[i].2.2[j]) hbb;obtain⟨v,hv,hbb⟩:=hbb;obtain rfl:=Zh hbb;simp[hE,m'.bx,hb',hi,t0,hst];refine Zq ((Rg M.step.cons gs[i].2.2[j]).h v hv) (by simp[rowc]) ?_;simp[hE];exact⟨λ_ _ x=>x,Zb.of ⟨by simp[hE],Z0.refl.next⟩⟩;clear hbb;rintro e1 h2 ⟨hF,hs3⟩;have hE:=hF.an hE;have am:=(hs3.2 (h.ep,80) (Y3 e5 hs2.1) sI).trans bg;simp[hE,am];intro bk;unfold Jt at hm;refine Z4.for (xs:=S.fks) (s0:=b) (λq s2 E h3=>Ek e1 E [(13,.b s2),(66,.l (S.fks.map Fk.enc)),(67,.i (S.fks.length:Int)),(68,.i (q:Int))] [0,2,3,5,9,10,12,34,35,36]/\Z0 h2 h3 []) hm ⟨by simp[hE],.refl⟩ ?_ ?_;clear hm;rintro q s2 e h3 ⟨hF,aa⟩ hlq hm;have hE:=hF.an hE;have a7:IntKind.i64.wrap ((q:Int)+1)=(q:Int)+1:=Y5 _ oM;obtain⟨s3,hs3',hm⟩:=hm.bind;have ac:=(hS.trans hs3).trans aa;have r3:=r.new ac;have bh:=(ac.2 lo ad sI).trans hb;have bf:=(aa.2 (h.ep,80) (Y3 (Y3 e5 hs2.1) hs3.1) sI).trans am;have aq:=Y3 ad ac.1;have bc:h.ep<h3.ep:=Y3 (Y3 (Y3 e5 hs2.1) hs3.1) aa.1
  simp[hE,hlq];obtain⟨h4,ag⟩:∃h4,h4=(h3.qA (h3.ep,240) [C.d (D.str empty),C.nil,C.d (D.str empty)]).next.qA (h3.ep,240) (S.fks[q].enc.map C.d):=⟨_,rfl⟩;have hA:Z0 h3 h4 []:=by rw[ag];exact S2
  have ak:h4.box (h3.ep,240)=some (S.fks[q].enc.map C.d):=by rw[ag];simp
  have au:=(hA.2 lo aq sI).trans bh;have ay:=(hA.2 (h.ep,80) bc sI).trans bf;have r4:=r3.new hA;simp only[Fk.enc,Yb,Yd] at ag ak
  try simp only[Fk.enc,Yb,Yd]
  rw[<-ag];refine Z4.cu [0,1,2,3,4,5,6,7,8,9,10,11,12,13,14,15,16,17,18,19] (λE h5=>Ek e E [(13,.b s3)] [0,2,3,5,9,10,12,34,35,36,66,67,68]/\Z0 h4 h5 []) ?_ ?_;cases s2 with|true=>?_|false=>?_;obtain rfl:=Zh hs3';simp[hE];exact⟨λ_ _ x=>x,Zb.of ⟨by simp[hE],.refl⟩⟩;cases hst:strEq S.fks[q].table gs[i].1 with|false=>?_|true=>?_;unfold Hc at hs3';rw[hst] at hs3';obtain rfl:=Zh hs3';simp[hE,ak,ay,au,hi,t0,hst];exact⟨λ_ _ x=>x,Zb.of ⟨by simp[hE],.refl⟩⟩;unfold Hc at hs3';rw[hst] at hs3';replace hs3':=Is.bind (m:=BQ S (W4 gs) S.fks[q] gs[i].2.2[j]) hs3';obtain⟨v,hv,hs3'⟩:=hs3';obtain rfl:=Zh hs3';simp[hE,ak,ay,au,hi,t0,hst];refine Za (Z3.qD ((R9 S (W4 gs) S.fks[q] gs[i].2.2[j]).h v hv) ⟨.agg (Zx.qL (ds:=S.enc)),.one (.frz r4.frz),.agg (Zx.qL (ds:=S.fks[q].enc)),.one (.frz (.data rfl)),trivial⟩ (by simp[RV.flat,RV1.flat,RC.flat,D.flat]) ?_);simp[hE];exact⟨λ_ _ x=>x,Zb.of ⟨by simp[hE],Z0.refl.next⟩⟩;rintro e1 h5 ⟨hF,be⟩;have hE:=hF.an hE;simp[hE,a7];exact Ze.of s3 ⟨⟨by simp[hE],(aa.trans hA).trans be⟩,hm⟩;rintro s2 e h3 ⟨hF,aa⟩ hm;have hE:=hF.an hE;have aw:MR h3 1 c' (Zn (s.map rowc)):=mc.frame λk hk=>(hs3.trans aa).2 k (ab k hk).2 sI;have ac:=(hs2.trans hs3).trans aa;have bd:=(hs3.trans aa).1;simp[hE];refine Zy hm ?_ ?_<;>clear hm<;>intro hb2 hm;subst hb2;simp[hE,rowc,C.toD];refine W5 (xs:=Zn (s.map rowc)) (ys:=[[rowc gs[i].2.2[j]]]) ZQ kR dE dE (aw.frame λk hk=>rfl) (Zk.rowc rfl) (by simp[Zn];omega) λc2 h5 m5 al a8=>?_;simp[hE,hw];refine Ze.of (s++[gs[i].2.2[j]]) ⟨⟨c2,by simp[hE,aj],by simpa[Zn] using m5,?_,?_,sO⟩,hm⟩;exact(ac.trans Z0.refl.qC.next).trans' al λk hk=>.inr (ab k hk).1;intro k hk;have h8:=al.1;have h9:=ac.1;simp at h8;rcases a8 k hk with h7|h7
  have:=ab k h7
  omega;simp at h7;omega;subst hb2;simp[hE,hw];exact Ze.of s ⟨⟨c',by simp[hE,aj],aw,ac,λk hk=>⟨(ab k hk).1,Y3 (ab k hk).2 bd⟩,oM⟩,hm⟩;rintro s e h' ⟨c',hE,mc,hs2,ab,ba⟩ hm;obtain rfl:=Zh hm;simp[hE];exact hk c' h' mc (ah.trans hs2) λk hk=>⟨Yv ah.1 (ab k hk).1,(ab k hk).2⟩
structure VisJ(h h1:HS)(lb l:Z2)(co cn c:C)(M:Mp)(S:Sch)(gs:List GI)(h':HS):Prop where
 b5:h'.box (h.ep,80)=some (S.enc.map C.d)
 b9:h'.box lb=some [c]
 r:IR h1 h' c gs
 m:MpAt h l co cn M
 s:Z0 h h' []
 e:h.ep<h1.ep
 e9:lb.1<h'.ep
 n9:lb∉labs c
 g9:∀g∈gs,lb∉labs g.2.1
theorem VisJ.step{h h0 h1 h2:HS}{lb l:Z2}{co cn c:C}{M:Mp}{S:Sch}{gs:List GI}(v:VisJ h h0 lb l co cn c M S gs h1)(s:Z0 h1 h2 []):VisJ h h0 lb l co cn c M S gs h2:=
 ⟨by rw[s.2 _ (Y3 v.e v.r.same.1) sI,v.b5],by rw[s.2 _ v.e9 sI,v.b9],v.r.new s,v.m,v.s.trans s,v.e,Y3 v.e9 s.1,v.n9,v.g9⟩
def FG(inst:List Rel)(i:Int)(ws:List (List GV)):Option (List Rel×Bool):=
 Z7 inst i λx=>Zp (∀row∈x.rows,(UK row ws).isSome=true) (some (inst.set i.toNat ⟨x.table,x.rows.filter λx=>!inWs ws x⟩,decide ((x.rows.filter λx=>!inWs ws x).length<x.rows.length)))
theorem VisJ.rem{h h0 h1:HS}{lb l:Z2}{co cn c cw:C}{M:Mp}{S:Sch}{gs:List GI}{ws:List (List GV)}{i:Nat}{q:List Rel×Bool}(v:VisJ h h0 lb l co cn c M S gs h1)(hm:Is (FG (W4 gs) (i:Int) ws) q)(K:V->HS->Prop)
  (ab:∀hi:i<gs.length,∀h',Z0 h1 h' (labs gs[i].2.1)->Frz h' cw (.sl (ws.map (Z6 GV.enc))))(hk:∀gs' h',W4 gs'=q.1->VisJ h h0 lb l co cn c M S gs' h'->K (.b q.2) h'):
  Z3 prog 246 [.i (i:Int),.one cw,.p lb] h1 K:=by
 replace hm:=Is.get hm;obtain⟨x,-,hx,hm⟩:=hm;obtain⟨hall,hm⟩:=hm.chk;obtain rfl:=Zh hm;simp at hx;have hi:i<gs.length:=by
  have:=(Y0.1 hx).1
  simpa[W4] using this
 obtain rfl:(⟨gs[i].1,gs[i].2.2⟩:Rel)=x:=by
  have:(W4 gs)[i]?=some ⟨gs[i].1,gs[i].2.2⟩:=by simp[W4,hi]
  rw[this] at hx;exact Option.some.inj hx
 refine Z33 h0 h1 lb c cw gs ws i v.b9 v.e9 v.n9 v.g9 v.r hi (ab hi) hall K λh' c' r' aa hs hl=>?_;refine hk _ h' (by simp[W4,YD]) ⟨?_,aa,r',v.m,?_,v.e,Y3 v.e9 hs.1,v.n9,λg hg=>?_⟩;refine(hs.2 _ (Y3 v.e v.r.same.1) λh9=>?_).trans v.b5;rcases Y2.1 h9 with h8|h8
 have:=(v.r.lc _ h8).1
 have:=v.e
 simp at*;omega
 have:=(v.r.lg _ (Yf hi) _ h8).1
 have:=v.e
 simp at*;omega;refine v.s.trans' hs λk hk=>.inr ?_
 have:=v.e
 rcases Y2.1 hk with h8|h8
 have:=(v.r.lc _ h8).1
 omega
 have:=(v.r.lg _ (Yf hi) _ h8).1
 omega;rcases YU hg with h9|rfl;exact v.g9 g h9;rw[hl];exact v.g9 _ (Yf hi)
def Jb(M:Mp)(S:Sch)(s:List Rel×Bool)(next:List Rel×Bool->Option (List Rel)):Option (List Rel):=
 bif s.2 then Zc (λ(i:Nat) (_:Rel) (q:List Rel×Bool) nx=>Z7 q.1 (i:Int) λx=>Z1 (Hw M S q.1 x.table x.rows) λws=>Z1 (FG q.1 (i:Int) ws) λz=>nx (z.1,bif z.2 then true else q.2)) next s.1 0 (s.1,false) else some s.1
def Dd(M:Mp)(S:Sch)(inst hid:List Rel):Option (List Rel):=
 Zp (inst.length<=2097152/\∀r∈inst,(Ve r.rows).isSome=true)<|
 Zc (λ(i:Nat) (x:Rel) (s:List Rel) next=>Z1 (FG s (i:Int) x.rows) λq=>next q.1) (λs=>UA (Jb M S) DH (s,true)) hid 0 inst
theorem Z31(h:HS)(l:Z2)(co cn:C)(M:Mp)(S:Sch)(inst hid out:List Rel)(hm:Is (Dd M S inst hid) out)(m:MpAt h l co cn M)(K:V->HS->Prop)
  (hk:∀c h1 h' gs,W4 gs=out->h.ep<=h1.ep->IR h1 h' c gs->Z0 h h' []->Zo h h'->K (.one c) h'):
  Z3 prog 235 [.p l,.agg (S.enc.map C.d),.l (inst.map Rel.enc),.l (hid.map Rel.enc)] h K:=by
 refine Z3.jE Tryz.func235 rfl kR λhg=>?_;refine Z3.ov Tryz.func235 ?_;obtain⟨⟨hlen,al⟩,hm⟩:=hm.chk;have af:∀r∈inst,Is (Ve r.rows) r.rows:=λr hr=>by
  have:=al r hr
  obtain⟨o,ho⟩:=Option.isSome_iff_exists.1 this;have h9:Is (Ve r.rows) o:=ho
  have:=Lt h9
  rw[this] at h9;exact h9
 have hl:=m.lt l (Y6 ..);simp[m.bx,Zm hl,ZO hl];have hA:Z0 h (h.qA (h.ep,80) (S.enc.map C.d)).next []:=by exact sm
 obtain⟨h1,ab⟩:∃h1,h1=(h.qA (h.ep,80) (S.enc.map C.d)).next:=⟨_,rfl⟩;have b5:h1.box (h.ep,80)=some (S.enc.map C.d):=by rw[ab];simp
 have e5:h.ep<h1.ep:=by rw[ab];simp
 rw[<-ab] at hA
 try simp only[Sch.enc,Yb,Yd] at ab
 rw[<-ab];refine Za (RH _ inst af hlen _ λc h2 gs rc aa bl=>?_);have ah:=(rc.same.2 _ e5 sI).trans b5;simp[ah];intro au;obtain⟨h3,ad⟩:∃h3,h3=(h2.qA (h2.ep,144) [C.nil]).next.qA (h2.ep,144) [c]:=⟨_,rfl⟩;rw[<-ad];have hB:Z0 h2 h3 []:=ad▸S2;have v3:VisJ h h1 (h2.ep,144) l co cn c M S gs h3:=
  ⟨(hB.2 _ (Y3 e5 rc.same.1) sI).trans ah,by rw[ad];simp,rc.new hB,m,(hA.trans rc.same).trans hB,e5,by rw[ad];simp,λh9=>by have:=(rc.lc _ h9).2;simp at this,λg hg h9=>by have:=(rc.lg g hg _ h9).2.1;simp at this⟩
 refine Z4.for (xs:=hid) (s0:=inst) (λi s e h'=>∃gs,En e 47 [(0,.p l),(5,.p (h.ep,80)),(9,.p (h2.ep,144)),(10,.one (.fn 246 [.lab (h2.ep,144)])),(18,.l (hid.map Rel.enc)),(19,.i (hid.length:Int)),(20,.i (i:Int))]/\W4 gs=s/\VisJ h h1 (h2.ep,144) l co cn c M S gs h') hm ⟨gs,sI,aa,v3⟩ ?_ ?_;rintro i s e h' ⟨gs,hE,rfl,v⟩ hlt hm;have hw:IntKind.i64.wrap ((i:Int)+1)=(i:Int)+1:=Y5 _ oM;obtain⟨q,hq,hm⟩:=hm.bind;simp[hE,hlt,Rel.enc];refine Za ?_;simp[WX];have hS:Z0 h' _ []:=S2 (h:=h') (b:=192) (cs:=[C.d (D.str empty),C.nil]) (cs':=[C.d (D.str hid[i].table),C.d (D.sl (List.map (Z6 GV.enc) hid[i].rows))]);refine(v.step hS).rem hq _ (λ_ _ _=>.data rfl) λac h4 aq v4=>?_;simp[hE,hw];refine Ze.of q.1 ⟨⟨ac,by simp[hE],aq,v4⟩,hm⟩;rintro s e h' ⟨gs,hE,aa,v⟩ hm;simp[hE];refine Z4.jN (λs E h'=>∃gs,Ek e E [(13,.b s.2)] [0,5,9,10]/\W4 gs=s.1/\VisJ h h1 (h2.ep,144) l co cn c M S gs h') hm ⟨gs,by simp[hE],aa,v⟩ ?_;clear hm aa v gs;rintro n s e h' ⟨gs,hF,aa,v⟩ hm;have hE:=hF.an hE;simp[hE];unfold Jb at hm;refine Zy hm ?_ ?_<;>clear hm<;>intro hb hm;simp[hE,v.b9];refine MR.lenK v.r.mr ?_;have ak:gs.length=s.1.length:=by rw[<-aa];simp[W4]
 have ar:s.1.length<=2097152:=by have:=v.r.mr.2.1;simp at this;omega
 simp[hE,ak];refine Z4.for (xs:=s.1) (s0:=(s.1,false)) (λi q E h'=>∃gs,Ek e E [(13,.b q.2),(33,.i (s.1.length:Int)),(34,.i (i:Int))] [0,5,9,10]/\W4 gs=q.1/\VisJ h h1 (h2.ep,144) l co cn c M S gs h') hm ⟨gs,by simp[hE],aa,v⟩ ?_ ?_;clear hm aa v ak gs;rintro i q e h' ⟨gs,hF,aa,v⟩ hlt hm;have hE:=hF.an hE;have hw:IntKind.i64.wrap ((i:Int)+1)=(i:Int)+1:=Y5 _ oM;replace hm:=Is.get hm;obtain⟨x,-,hx,hm⟩:=hm;obtain⟨ws,ae,hm⟩:=hm.bind;obtain⟨z,hz,hm⟩:=hm.bind;simp at hx;rw[<-aa] at hx ae hz;have hi:i<gs.length:=by
  have:=(Y0.1 hx).1
  simpa[W4] using this
 obtain rfl:(⟨gs[i].1,gs[i].2.2⟩:Rel)=x:=by
  have:(W4 gs)[i]?=some ⟨gs[i].1,gs[i].2.2⟩:=by simp[W4,hi]
  rw[this] at hx;exact Option.some.inj hx
 simp[hE,hlt,v.b5,v.b9]
 try simp[v.b5,Sch.enc]
 refine Za (Te h1 _ l co cn c M S gs i ws (v.m.frame v.s) v.r hi ae _ λcw h4 mw ap aj=>?_);have v4:=v.step ap;simp[hE];refine Za ?_;simp[WX];refine v4.rem hz _ (λ_ h5 am=>WY.frz (.inr (mw.frame λk hk=>am.2 k (aj k hk).2 λh9=>?_))) λac h6 ag v6=>?_
 have:=(v.r.lg _ (Yf hi) k h9).2.1
 have:=(aj k hk).1
 omega;obtain⟨z1,z2⟩:=z;cases z2 with|true=>?_|false=>?_;simp[hE,hw];refine Ze.of (z1,true) ⟨⟨ac,by simp[hE],ag,v6⟩,hm⟩;simp[hE,hw];refine Ze.of (z1,q.2) ⟨⟨ac,by simp[hE],ag,v6⟩,hm⟩;rintro q e h' ⟨gs,hF,aa,v⟩ hm;have hE:=hF.an hE;simp[hE];refine Ze.of q ⟨⟨gs,by simp[hE],aa,v⟩,hm⟩;obtain rfl:=Zh hm;simp[hE,hb,v.b9];exact hk c h1 h' gs aa oM v.r v.s (v.s.jA hg)
theorem Inv.wT{Γ:Ctx}{h:HS}{μ:Mem}{w:World}(hI:Inv Γ h μ w)(ls:List Z2){lo:Z2}{cs cs':List C}(hb:h.box lo=some cs)(ab:lo∉ls)(hf:∀conc,ZA μ cs conc->ZA (μ.frz h ls w) cs' conc):Inv Γ ((h.qQ ls).qA lo cs') (μ.frz h ls w) w:=by
 have h1:=hI.frz ls;have aa:(h.qQ ls).box lo=some cs:=by simp only[HS.qQ];rw[if_neg ab];exact hb
 have hv:∀{l},((h.qQ ls).qA lo cs').live l->(h.qQ ls).live l:=by rintro l (hl|hl);by_cases he:l=lo;subst he;exact .inl (by rw[aa];simp);exact .inl (by simpa[he] using hl);exact .inr hl
 refine⟨h1.cell,h1.tmp,h1.tcell,h1.told,h1.ext,h1.old,h1.below,λl ac hl=>?_,h1.arr,λl l' b n n' q1 q2=>h1.inj l l' b n n' (hv q1) (hv q2),h1.lt,λl q1 q2=>?_⟩;by_cases he:l=lo;subst he;simp at hl;subst hl;obtain⟨b,n,T,conc,q1,q2,q3,q4,q5⟩:=h1.box l cs aa;obtain⟨b',n',T',conc',p1,p2,p3,p4,p5⟩:=hI.box l cs hb;have e1:μ.loc l=some (some b,n):=q1;rw[p1] at e1;cases e1;rw[q3] at p3;cases p3;exact⟨b,n,T,conc,q1,q2,q3,hf _ p4,q5⟩;exact h1.box l ac (by simpa[he] using hl);refine h1.both l ?_ q2;by_cases he:l=lo;subst he;rw[aa];simp;simpa[he] using q1
theorem Z3.jW{P:Program}{f:FuncId}{vs:List V}{h:HS}{K:V->HS->Prop}(hs:Z3 P f vs h (λv h'=>K v h'\/∃(ls:List Z2) (lo:Z2) (cs cs':List C),h'.box lo=some cs/\lo∉ls/\Us (h'.only ls) cs cs'/\FK (h'.only ls) v v/\K v ((h'.qQ ls).qA lo cs'))):Z3 P f vs h K:=by
 refine⟨hs.1,λΓ μ w vals hI hR=>?_⟩;refine(hs.2 Γ μ w vals hI hR).mono ?_;rintro en w' ⟨u,v,h',μ',rfl,hk|⟨ls,lo,cs,cs',hb,ac,hf,hv,hk⟩,aa,hr,ab⟩;exact⟨u,v,_,_,rfl,hk,aa,hr,ab⟩;exact⟨u,v,_,_,rfl,hk,aa.wT ls hb ac (λconc hc=>by
  obtain⟨h3,h4⟩:=Us.get hf;refine⟨by rw[hc.1,h3],λi c' hi=>?_⟩;obtain⟨c,h5,h6⟩:=h4 i c' hi;obtain⟨u',h7,h8⟩:=hc.2 i c h5;exact⟨u',h7,h6.rep aa ls h8⟩),hv.rep aa ls hr,ab.trans Mem.jG⟩
theorem IR.rE{h0 h:HS}{c:C}{gs:List GI}(r:IR h0 h c gs):∀(xs:List GI),(∀g∈xs,g∈gs)->∀sp,Us (h.only (gs.flatMap λg=>labs g.2.1)) (Z8 (xs.map λg=>[C.d (.str g.1),g.2.1]) sp) (Z8 (xs.map λg=>[C.d (.str g.1),.d (.sl (g.2.2.map (Z6 GV.enc)))]) sp)
 |[],_,sp=>by
   show Us _ (Z8 [] sp) (Z8 [] sp);simp only[Z8,List.flatten_nil,Yn]
   induction sp with
   |nil=>trivial
   |cons c cs ih=>exact⟨.refl,ih⟩
 |g::xs,hx,sp=>by
   have ih:=IR.rE r xs (λy hy=>hx y (Yc _ hy)) sp;have hg:=hx g (Y6 ..);refine⟨.refl,.inr ⟨_,rfl,WY.frz ((r.row g hg).imp id λm=>m.frame λk hk=>?_)⟩,ih⟩;simp only[HS.only];rw[if_pos (Yx.2 ⟨g,hg,hk⟩)]
theorem IR.rel{h0 h:HS}{c:C}{gs:List GI}(r:IR h0 h c gs)(hz:gs≠[]):∃(ls:List Z2) (lo:Z2) (cs cs':List C),h.box lo=some cs/\lo∉ls/\Us (h.only ls) cs cs'/\lo∈labs c/\(∀k∈ls,∃g∈gs,k∈labs g.2.1)/\Vp ((h.qQ ls).qA lo cs') c (W4 gs):=by
 obtain⟨lo,cap,sp,rfl,hb,hcap⟩:=r.mr.block (by simpa using XG.2 hz);have hn:lo∉gs.flatMap λg=>labs g.2.1:=λh9=>by obtain⟨g,hg,aa⟩:=Yx.1 h9;exact(r.lg g hg lo aa).2.2 (by simp[labs])
 have hall:Zr 2 (gs.map λg=>[C.d (.str g.1),.d (.sl (g.2.2.map (Z6 GV.enc)))]):=λx hx=>by obtain⟨g,_,rfl⟩:=Yi.1 hx;rfl
 refine⟨_,lo,_,_,hb,hn,r.rE gs (λ_ hg=>hg) sp,by simp[labs],λk hk=>Yx.1 hk,_,⟨hall,by have:=r.mr.2.1;simpa using this,.inr ⟨lo,cap,sp,sI,sI,?_⟩⟩,?_⟩;rw[WL hall,Yh,<-hcap,WL r.mr.1,Yh];simp[W4,Zt,Rel.enc,C.toD]
theorem MU(h:HS)(l:Z2)(co cn:C)(M:Mp)(S:Sch)(inst hid out:List Rel)(hm:Is (Dd M S inst hid) out)(m:MpAt h l co cn M)(K:V->HS->Prop)
  (hk:∀c h',Vp h' c out->Z0 h h' []->(∀k∈labs c,h.ep<=k.1/\k.1<h'.ep)->K (.one c) h'):
  Z3 prog 235 [.p l,.agg (S.enc.map C.d),.l (inst.map Rel.enc),.l (hid.map Rel.enc)] h K:=by
 refine Z3.jW (Z31 h l co cn M S inst hid out hm m _ λc h1 h' gs ab he r hs bl=>?_);by_cases hz:gs=[]
 left
 subst hz;refine hk c h' ⟨[],by simpa using r.mr,by rw[<-ab];rfl⟩ hs λk hk=>⟨Yv he (r.lc k hk).1,(r.lc k hk).2⟩
 right
 obtain⟨ls,lo,cs,cs',hb,hn,hf,aa,ad,hr⟩:=r.rel hz;have aa:=r.lc lo aa;refine⟨ls,lo,cs,cs',hb,hn,hf,.inl rfl,hk _ _ (ab▸hr) ?_ λk hk=>?_⟩;refine⟨by simpa[HS.qQ] using hs.1,λk hk _=>?_⟩;have h9:k≠lo:=λh9=>by have:=aa.1;subst h9;omega
 have h8:k∉ls:=λh8=>by
  obtain⟨g,hg,ac⟩:=ad k h8
  have:=(r.lg g hg k ac).1
  omega
 simp[h9];simp only[HS.qQ];rw[if_neg h8];exact hs.2 k hk sI
 have:=r.lc k hk
 exact⟨oM,by simpa[HS.qQ] using this.2⟩
def isRow:C->Bool
 | .nil=>true
 | .z=>true
 | .mrow _ _ _ _=>true
 |_=>false
theorem MR.isRow{h:HS}{n:Nat}{c:C}{xs:List (List C)}(m:MR h n c xs):Go.Am.isRow c=true:=by rcases m.2.2 with⟨-,rfl|rfl⟩|⟨l,cap,sp,rfl,-⟩<;>rfl
theorem WY.mr{h:HS}{c:C}{rows:List (List GV)}(r:WY h c rows)(hc:isRow c=true):MR h 1 c (Zn (rows.map rowc)):=by rcases r with⟨h1,rfl⟩|m;cases c<;>simp[isRow,C.toD] at hc h1;exact MR.nil;exact MR.z;exact m
structure MpI(h1 h:HS)(l:Z2)(co cn:C)(M:Mp)(gs:List GI):Prop where
 box:h.box l=some (Wt M co cn)
 out:Vp h co M.out
 ir:IR HS.init h cn gs
 gi:W4 gs=M.nc
 ng:∀g∈gs,(∀k∈labs g.2.1,h1.ep<=k.1)/\isRow g.2.1=true
 e1:∀k∈l::(labs co++labs cn),k.1<h1.ep
 s:Z0 h1 h (labs co++labs cn)
 nl:l∉labs co/\l∉labs cn/\∀k∈labs co,k∉labs cn
theorem MpI.of{h:HS}{l:Z2}{co cn:C}{M:Mp}(m:MpAt h l co cn M)(hN:MR h 2 cn (M.nc.map UF))(he:∀r∈M.nc,r.rows=[]):MpI h h l co cn M (M.nc.map λr=>(r.table,.nil,[])):=by
 have hg:∀g∈(M.nc.map λr=>((r.table,.nil,[]):GI)),g.2.1=.nil/\g.2.2=[]:=λg hg=>by obtain⟨r,-,rfl⟩:=Yi.1 hg;exact⟨rfl,rfl⟩
 refine⟨m.box,m.out,⟨by rw[Xe];exact hN,λg h1=>.inr (by rw[(hg g h1).1,(hg g h1).2];exact MR.nil),λk hk=>⟨XX _,m.lt k (by simp[hk])⟩,λg h1 k hk=>by simp[(hg g h1).1,labs] at hk,?_,⟨XX _,λk hk=>absurd hk (XW _)⟩⟩,?_,λg h1=>by simp[(hg g h1).1,labs,isRow],m.lt,.refl,m.nl⟩;rw[show((M.nc.map λr=>((r.table,.nil,[]):GI)).flatMap λg=>labs g.2.1)=[] from Xw.2 λg h1=>by rw[(hg g h1).1];rfl];exact .nil;simp only[W4,Xe];exact(XH λr hr=>by simp[<-he r hr]).trans (List.map_id _)
theorem MpI.frame{h1 h h':HS}{l:Z2}{co cn:C}{M:Mp}{gs:List GI}(m:MpI h1 h l co cn M gs)(hs:Z0 h h' []):MpI h1 h' l co cn M gs:=
 have lt:∀k∈l::(labs co++labs cn),k.1<h.ep:=λk hk=>Y3 (m.e1 k hk) m.s.1
 ⟨by rw[hs.2 l (lt l sI) sI];exact m.box,m.out.frame λk hk=>hs.2 k (lt k (by simp[hk])) sI,m.ir.new hs,m.gi,m.ng,m.e1,m.s.trans (hs.mn),m.nl⟩
theorem MpI.put{h1 h h2:HS}{l lo:Z2}{co c':C}{M:Mp}{gs:List GI}{cap i:Nat}{sp:List C}{rows:List (List GV)}(m:MpI h1 h l co (.mrow lo 0 gs.length cap) M gs)(hi:i<gs.length)(hs:Z0 h h2 (lo::labs gs[i].2.1))
  (bo:h2.box lo=some (Z8 ((gs.map λg=>[.d (.str g.1),g.2.1]).set i [.d (.str gs[i].1),c']) sp))(hcap:(Z8 (gs.map λg=>[C.d (.str g.1),g.2.1]) sp).length=cap*2)(hr:MR h2 1 c' (Zn (rows.map rowc)))(hl:∀k∈labs c',k∈labs gs[i].2.1\/(h.ep<=k.1/\k.1<h2.ep)):
  MpI h1 h2 l co (.mrow lo 0 gs.length cap) {M with nc:=M.nc.set i ⟨gs[i].1,rows⟩} (gs.set i (gs[i].1,c',rows)):=by
 have lt:∀k∈l::(labs co++labs (.mrow lo 0 gs.length cap)),k.1<h.ep:=λk hk=>Y3 (m.e1 k hk) m.s.1;have nk:∀k∈l::labs co,k∉lo::labs gs[i].2.1:=λk hk h9=>by rcases Y9.1 h9 with rfl|h9;rcases Y9.1 hk with rfl|hk;exact m.nl.2.1 (by simp[labs]);exact m.nl.2.2 k hk (by simp[labs]);have h3:=(m.ng _ (Yf hi)).1 k h9;have h4:=m.e1 k (by rcases Y9.1 hk with rfl|hk<;>simp[*]);omega
 refine⟨by rw[hs.2 l (lt l sI) (nk l sI)];exact m.box,m.out.frame λk hk=>hs.2 k (lt k (by simp[hk])) (nk k (by simp[hk])),m.ir.put hi hs bo hcap (.inr hr) hl,by simp[W4,YD,<-m.gi],λg hg=>?_,m.e1,m.s.trans' hs λk hk=>?_,m.nl⟩;rcases YU hg with h9|rfl;exact m.ng g h9;refine⟨λk hk=>?_,hr.isRow⟩;rcases hl k hk with h9|h9;exact(m.ng _ (Yf hi)).1 k h9;exact Yv m.s.1 h9.1;rcases Y9.1 hk with rfl|h9;exact .inl (by simp[labs]);exact .inr ((m.ng _ (Yf hi)).1 k h9)
theorem MpI.done{h1 h:HS}{l:Z2}{co cn:C}{M:Mp}{gs:List GI}{K:V->HS->Prop}(m:MpI h1 h l co cn M gs)(hK:∀h',MpAt h' l co cn M->Z0 h1 h' (labs co++labs cn)->K (.tup []) h'):
  K (.tup []) h\/∃(ls:List Z2) (lo:Z2) (cs cs':List C),h.box lo=some cs/\lo∉ls/\Us (h.only ls) cs cs'/\FK (h.only ls) (.tup []) (.tup [])/\K (.tup []) ((h.qQ ls).qA lo cs'):=by
 have lt:∀k∈l::(labs co++labs cn),k.1<h.ep:=λk hk=>Y3 (m.e1 k hk) m.s.1;by_cases hz:gs=[]
 left
 subst hz;exact hK h ⟨m.box,m.out,⟨[],by simpa using m.ir.mr,by rw[<-m.gi];rfl⟩,lt,m.nl⟩ m.s
 right
 obtain⟨ls,lo,cs,cs',hb,hn,hf,aa,ad,hr⟩:=m.ir.rel hz;have hb':∀k,k.1<h1.ep->k≠lo->((h.qQ ls).qA lo cs').box k=h.box k:=λk hk h9=>by
  have h8:k∉ls:=λh8=>by
   obtain⟨g,hg,ac⟩:=ad k h8
   have:=(m.ng g hg).1 k ac
   omega
  simp[h9];simp only[HS.qQ];rw[if_neg h8]
 refine⟨ls,lo,cs,cs',hb,hn,hf,trivial,hK _ ⟨?_,?_,m.gi▸hr,λk hk=>by simpa[HS.qQ] using lt k hk,m.nl⟩ ⟨by simpa[HS.qQ] using m.s.1,λk hk ab=>?_⟩⟩;rw[hb' l (m.e1 l sI) λh9=>m.nl.2.1 (h9▸aa)];exact m.box;exact m.out.frame λk hk=>hb' k (m.e1 k (by simp[hk])) λh9=>m.nl.2.2 k hk (h9▸aa);rw[hb' k hk λh9=>ab (by simp[h9,aa])];exact m.s.2 k hk ab
def Ii(s1:List Rel)(s2:List Rel)(eq:Rel->Rel->Option Bool):Option Bool:=
 bif ((s1.length:Int) !=(s2.length:Int)) then some false else Zc (λ(i5:Nat) (x5:Rel) (s5:Unit) next_5=>Z7 s2 (i5:Int) λx7=>Z1 (eq x5 x7) λv9=>bif !v9 then some false else next_5 ()) (λ(s5:Unit)=>some true) s1 0 ()
instance Z9x(s1:List Rel)(s2:List Rel)(eq:Rel->Rel->Option Bool){g:FuncId}{caps:List (List D)}[ConG eq prog (λx=>.agg x.enc) (λx=>.agg x.enc) (λv=>.one (.d (.bool v))) g caps]:Con (Ii s1 s2 eq) prog 68 [.one (.d (.sl (s1.map Rel.enc))),.one (.d (.sl (s2.map Rel.enc))),.one (.fn g caps)] (λr=>.one (.d (.bool r))):=by unfold Ii;have l1:LH (σ:=Unit) 17 [1,2,15,16] []:=.intro;exact go 32 Tryz.func68
def Iw(s1:List (List GV))(s2:List (List GV))(eq:(List GV)->(List GV)->Option Bool):Option Bool:=
 bif ((s1.length:Int) !=(s2.length:Int)) then some false else Zc (λ(i5:Nat) (x5:List GV) (s5:Unit) next_5=>Z7 s2 (i5:Int) λx6=>Z1 (eq x5 x6) λv7=>bif !v7 then some false else next_5 ()) (λ(s5:Unit)=>some true) s1 0 ()
instance Zai(s1:List (List GV))(s2:List (List GV))(eq:(List GV)->(List GV)->Option Bool){g:FuncId}{caps:List (List D)}[ConG eq prog (λx=>.one (.d (.sl (x.map GV.enc)))) (λx=>.one (.d (.sl (x.map GV.enc)))) (λv=>.one (.d (.bool v))) g caps]:Con (Iw s1 s2 eq) prog 107 [.one (.d (.sl (s1.map (Z6 GV.enc)))),.one (.d (.sl (s2.map (Z6 GV.enc)))),.one (.fn g caps)] (λr=>.one (.d (.bool r))):=by unfold Iw;have l1:LH (σ:=Unit) 17 [1,2,15,16] []:=.intro;exact go 32 Tryz.func107
def Eh(x:List GV)(y:List GV):Option Bool:=
 Z1 (AJ x y) λv1=>some v1
instance Rx(x:List GV)(y:List GV):Con (Eh x y) prog 108 [.one (.d (.sl (x.map GV.enc))),.one (.d (.sl (y.map GV.enc)))] (λr=>.one (.d (.bool r))):=by unfold Eh;exact go 8 Tryz.func108
instance Zbk  :ConG (λx y=>Eh x y) prog (λx=>.one (.d (.sl (x.map GV.enc)))) (λx=>.one (.d (.sl (x.map GV.enc)))) (λr=>.one (.d (.bool r))) 108 []:=⟨λx y=>(Rx x y)⟩
def Er(a:List (List GV))(b:List (List GV)):Option Bool:=
 Z1 (Iw a b (λxa_ xb_=>Eh xa_ xb_)) λv1=>some v1
instance Zc0(a:List (List GV))(b:List (List GV)):Con (Er a b) prog 70 [.one (.d (.sl (a.map (Z6 GV.enc)))),.one (.d (.sl (b.map (Z6 GV.enc))))] (λr=>.one (.d (.bool r))):=by unfold Er;exact go 8 Tryz.func70
def CL(x:Rel)(y:Rel):Option Bool:=
 bif strEq x.table y.table then Z1 (Er x.rows y.rows) λv4=>(some v4) else some false
instance Ry(x:Rel)(y:Rel):Con (CL x y) prog 69 [.agg x.enc,.agg y.enc] (λr=>.one (.d (.bool r))):=by unfold CL;exact go 17 Tryz.func69
instance Zbl  :ConG (λx y=>CL x y) prog (λx=>.agg x.enc) (λx=>.agg x.enc) (λr=>.one (.d (.bool r))) 69 []:=⟨λx y=>(Ry x y)⟩
def Ad(a:List Rel)(b:List Rel):Option Bool:=
 Z1 (Ii a b (λxa_ xb_=>CL xa_ xb_)) λv1=>some v1
instance LU(a:List Rel)(b:List Rel):Con (Ad a b) prog 42 [.one (.d (.sl (a.map Rel.enc))),.one (.d (.sl (b.map Rel.enc)))] (λr=>.one (.d (.bool r))):=by unfold Ad;exact go 8 Tryz.func42
instance Zby  :ConG (λx y=>Ad x y) prog (λx=>.one (.d (.sl (x.map Rel.enc)))) (λx=>.one (.d (.sl (x.map Rel.enc)))) (λr=>.one (.d (.bool r))) 42 []:=⟨λx y=>(LU x y)⟩
theorem MpI.app{ty el}{ab d i:Nat}{h1 h h2 l co cn x M gs row K}(m:MpI h1 h l co cn M gs)(hi)(hs:Z0 h h2 [])
  (af:Zv prog ty=some (el,1,ab))(hz:(ZP prog el).isSome=true)(ac:ab<=4096)(hx:Zk h2 1 x [[rowc row]])(hlen:gs[i].2.2.length+1<=2097152)
  (hk:∀c' h5 lo cap sp,cn=.mrow lo 0 gs.length cap->h5.box l=some (Wt M co cn)->h5.box lo=some (Z8 (gs.map λg=>[.s g.1,g.2.1]) sp)->
   MpI h1 (h5.qA lo (Z8 ((gs.map λg=>[.s g.1,g.2.1]).set i [.s gs[i].1,c']) sp)) l co cn {M with nc:=M.nc.set i ⟨gs[i].1,gs[i].2.2++[row]⟩} (gs.set i (gs[i].1,c',gs[i].2.2++[row]))->Z0 h2 h5 (labs gs[i].2.1)->(∀k∈labs c',k∈labs gs[i].2.1\/h2.ep<=k.1)->K (.one c') h5):
  Vv prog ty gs[i].2.1 x d h2 (K:=⟨K⟩):=by
 have m2:=m.frame hs;obtain⟨lo,cap,sp,hc,hb,hcap⟩:=m2.ir.mr.block sO;rw[Yh] at hc;subst hc;have aa:=m.ng _ (Yf hi);have ah:=m2.ir.lg _ (Yf hi);have ae:=m2.ir.lc lo (by simp[labs]);have lt:=λk hk=>Y3 (m2.e1 k hk) m2.s.1;have nl:l∉labs gs[i].2.1:=λh9=>by
  have:=aa.1 l h9
  have:=m.e1 l sI
  omega
 have no:=λh9=>(ah lo h9).2.2 (by simp[labs]);refine Ho af hz dE ac (WY.mr (m2.ir.row _ (Yf hi)) aa.2) hx (by simpa[Zn] using hlen) λc' h5 mr hl=>?_;have hS:Z0 h2 h5 (labs gs[i].2.1):=by rcases hl with⟨h9,-⟩|⟨h9,-⟩;exact h9;exact h9.mn
 have hl':∀k∈labs c',k∈labs gs[i].2.1\/(h2.ep<=k.1/\k.1<h5.ep):=λk hk=>by rcases hl with⟨-,h9⟩|⟨-,h9⟩;exact .inl (h9▸hk);exact .inr (h9 k hk)
 have ag:∀k∈labs c',k≠lo:=λk ad h9=>by subst h9;rcases hl' _ ad with h8|h8;exact no h8;omega
 have b5:h5.box lo=some (Z8 (gs.map λg=>[.s g.1,g.2.1]) sp):=by rw[hS.2 lo ae.2 no,hb]
 refine hk c' h5 lo cap sp rfl (by rw[hS.2 l (lt l sI) nl,m2.box]) b5 (m2.put hi ((hS.mono (by simp+contextual)).qA (.inl sI)) sI hcap ?_ hl') hS λk hk=>(hl' k hk).imp id (·.1);rw[show Zn ((gs[i].2.2++[row]).map rowc)=Zn (gs[i].2.2.map rowc)++[[rowc row]] by simp[Zn]];exact mr.frame λk hk=>by simp[ag k hk]
theorem UV{h:HS}{l co cn M}(hb:h.box l=some (Wt M co cn)):h.box l=some (M.enc.map C.d++[co,cn,.i M.err]):=hb
theorem Vp.at_{h c rs}{i:Nat}{o}(r:Vp h c rs)(hi:rs[i]?=some o):∃lo cap sp xs c',c=.mrow lo 0 xs.length cap/\xs.length=rs.length/\MR h 2 c xs/\h.box lo=some (Z8 xs sp)/\xs[i]?=some [.s o.table,c']/\Zl 1 ((Z8 xs sp).drop (i*2+1))=some [c']/\c'.toD=some (.sl (o.rows.map (Z6 GV.enc)))/\i<xs.length/\(Z8 xs sp).length=cap*2/\xs.map Zt=rs.map λr=>some r.enc:=by obtain⟨xs,mr,he,hl,hx⟩:=r.len;obtain⟨c',h1,h2⟩:=hx i o hi;have hlt:=(Y0.1 h1).1;obtain⟨lo,cap,sp,hc,hb,hcap⟩:=mr.block oM;exact⟨lo,cap,sp,xs,c',hc,hl,mr,hb,h1,by rw[Vf mr.1 h1 sI];rfl,h2,hlt,hcap,he⟩
def Jy(T:Tbl)(out:List Rel)(i:Nat){ρ:Type}(_:Nat)(row:List GV)(N:List Rel)(nx:List Rel->Option ρ):Option ρ:=
 Z7 out i λo=>Z1 (Vl T row) λkey=>Z1 (Uj T o.rows key) λq=>bif !q.2 then
 Z7 N i λc=>Zp (c.rows.length+1<=2097152) (nx (N.set i ⟨c.table,c.rows++[row]⟩)) else nx N
def EN(M:Mp):Option Mp:=
 Z1 (Dd M M.dst M.inp M.comp) λout=>
 Zc (λi t N next=>Z7 M.inp i λx=>Zc (Jy t out i) next x.rows 0 N) (λN=>some {M with out:=out,nc:=N}) M.src.tables 0 M.nc
theorem GP(h0:HS)(l:Z2)(co cn:C)(M M1:Mp)(hm:Is (EN M) M1)(m:MpAt h0 l co cn M)(hN:MR h0 2 cn (M.nc.map UF))(he:∀r∈M.nc,r.rows=[])(K:V->HS->Prop)
  (hK:∀h' co' bl,MpAt h' l co' bl M1->Z0 h0 h' (l::(labs co++labs cn))->K (.tup []) h'):Z3 prog 200 [.p l] h0 K:=by
 refine Z3.jW ?_;refine Z3.qN Tryz.func200 rfl kR rfl rfl sI ?_;obtain⟨out,ho,hm⟩:=hm.bind;have hl:=m.lt l (Y6 ..);simp;refine Z4.cu [0,1,2,3,4,5,6,7,8,9,10,11,12,13,14,15,16,17] (λe h=>∃c,En e 88 [(0,.p l)]/\MpAt h l c cn {M with out:=out}/\MR h 2 cn (M.nc.map UF)/\Z0 h0 h (l::(labs co++labs cn))/\∀k∈labs c,h0.ep<=k.1) ?_ ?_;simp[m.bx];refine Za (Z3.jE Tryz.func235 rfl kR λhg=>MU _ l co cn M M.dst M.inp M.comp out ho m _ λc h2 r hs2 ak=>?_);simp[(m.frame hs2).bx];refine⟨hs2.jA hg,?_⟩;have hn:=m.wU hs2 r ak;refine Zb.of ⟨c,sI,hn.1,?_,hn.2.mono (by simp+contextual),λk hk=>(ak k hk).1⟩;refine(hN.frame λk hk=>hs2.2 k (m.lt k (by simp[hk])) sI).frame λk hk=>?_
 have:k≠l:=λh9=>m.nl.2.1 (h9▸hk)
 simp[this];rintro e h1 ⟨c,hE,m1,bi,bk,ak⟩;simp[hE,m1.bx];intro bt;refine Z4.for (λi N e h'=>∃gs,En e 88 [(0,.p l),(29,.l (M.src.tables.map Tbl.enc)),(30,.i M.src.tables.length),(31,.i i)]/\MpI h1 h' l c cn {M with out:=out,nc:=N} gs) hm ⟨_,by simp[hE],MpI.of m1 bi he⟩ ?_ ?_
 .clear hm;rintro i N e h' ⟨gs,hE,mI⟩ hlt hm;have hw:IntKind.i64.wrap ((i:Int)+1)=(i:Int)+1:=Y5 _ oM;obtain⟨x,-,hx,hm⟩:=Is.get hm;simp at hx;have bb:=(Y0.1 hx).1;have bd:=(Y0.1 hx).2;have bn:=Y3 (mI.e1 l sI) mI.s.1;have bm:=mI.s.1;have hb:=UV mI.box;simp only[Mp.enc,Stp.enc,Yb,Yd,Yk,Yn] at hb;simp[hE,hlt,hb,Zm bn,Tbl.enc,bb,bd,Rel.enc];intro hxl;obtain⟨h2,af⟩:∃h2,h2=(h'.qA (h'.ep,48) [C.d (D.str empty),C.nil,C.nil]).next.qA (h'.ep,48) [C.d (D.str M.src.tables[i].name),C.d (D.sl (List.map Col.enc M.src.tables[i].cols)),C.d (D.sl (List.map Zd M.src.tables[i].pk))]:=⟨_,rfl⟩;rw[<-af];have hS:=af▸S2;have b2:h2.box (h'.ep,48)=some [C.d (D.str M.src.tables[i].name),C.d (D.sl (List.map Col.enc M.src.tables[i].cols)),C.d (D.sl (List.map Zd M.src.tables[i].pk))]:=by rw[af];simp
  have e2:h'.ep<h2.ep:=by rw[af];simp
  clear af;refine Z4.for (λj N e h3=>∃gs,En e 88 [(0,.p l),(2,.i i),(3,.p (h'.ep,48)),(29,.l (M.src.tables.map Tbl.enc)),(30,.i M.src.tables.length),(31,.i i),(43,.l (x.rows.map (Z6 GV.enc))),(44,.i x.rows.length),(45,.i j)]/\MpI h1 h3 l c cn {M with out:=out,nc:=N} gs/\h3.box (h'.ep,48)=some [C.d (D.str M.src.tables[i].name),C.d (D.sl (List.map Col.enc M.src.tables[i].cols)),C.d (D.sl (List.map Zd M.src.tables[i].pk))]/\h'.ep<h3.ep/\∀g∈gs,(h'.ep,48)∉labs g.2.1) hm ⟨gs,by simp[hE],mI.frame hS,b2,e2,λg hg h9=>by have:=(mI.ir.lg g hg _ h9).2.1;simp at this⟩ ?_ ?_
  .clear hm hE;rintro j N e h3 ⟨gs,hE,mI,b3,e3,n3⟩ hj hm;have aw:IntKind.i64.wrap ((j:Int)+1)=(j:Int)+1:=Y5 _ oM;unfold Jy at hm;obtain⟨o,-,a8,hm⟩:=Is.get hm;obtain⟨key,ay,hm⟩:=hm.bind;obtain⟨q,hq,hm⟩:=hm.bind;simp at a8;obtain⟨lo,cap,sp,xs,c9,bh,-,mr,bf,bz,t1,bj,a7,hcap,-⟩:=mI.out.at_ a8;subst bh;have bw:=Y3 (mI.e1 l sI) mI.s.1;have bq:=Y3 (mI.e1 lo (by simp[labs])) mI.s.1;have hb:=UV mI.box;simp only[Mp.enc,Stp.enc,Yb,Yd,Yk,Yn] at hb;simp[hE,hj];refine Z4.cu [0,1,2,3,4,5,6,7,8,9,10,11,12,13,14,15,16,17] (λe h4=>En e 88 [(0,.p l),(2,.i i),(3,.p (h'.ep,48)),(5,.l (x.rows[j].map GV.enc)),(7,.b q.2),(29,.l (M.src.tables.map Tbl.enc)),(30,.i M.src.tables.length),(31,.i i),(43,.l (x.rows.map (Z6 GV.enc))),(44,.i x.rows.length),(45,.i j)]/\Z0 h3 h4 []) ?_ ?_;simp[hE,hb,b3,bf,t1,a7];refine Zq ((Uk M.src.tables[i] x.rows[j]).h key ay) sI ?_;simp[hE];refine⟨λ_ _ x=>x,?_⟩;refine Zq ((D0 M.src.tables[i] o.rows key).h q hq) (by simp[Ff bj]) ?_;simp[hE];refine⟨λ_ _ x=>x,Zb.of ⟨by simp[hE],?_⟩⟩;exact sm;rintro e h4 ⟨hE,al⟩;have aa:=mI.frame al;have b4:=(al.2 _ e3 sI).trans b3;have e4:=Y3 e3 al.1;simp[hE];refine Zy hm ?_ ?_<;>clear hm<;>intro hf hm
   .obtain⟨g,-,hg,hm⟩:=Is.get hm;obtain⟨az,hm⟩:=hm.chk;simp at hg;have bc:W4 gs=N:=aa.gi;rw[<-bc] at hg;have ac:i<gs.length:=by
     have:=(Y0.1 hg).1
     simpa[W4] using this
    obtain rfl:(⟨gs[i].1,gs[i].2.2⟩:Rel)=g:=by
     have:(W4 gs)[i]?=some ⟨gs[i].1,gs[i].2.2⟩:=by simp[W4,ac]
     rw[this] at hg;exact Option.some.inj hg
    have hb:=UV aa.box;simp only[Mp.enc,Stp.enc,Yb,Yd,Yk,Yn] at hb;obtain⟨ln,ba,ax,au,bo,bg⟩:=aa.ir.mr.block sO;rw[Yh] at au;subst au;have hxn:(gs.map λg=>[C.d (.str g.1),g.2.1])[i]?=some [.s gs[i].1,gs[i].2.1]:=by simp[ac]
    have tn:=Vf (sp:=ax) (f:=1) (m:=1) aa.ir.mr.1 hxn sI;replace tn:Zl 1 ((Z8 (gs.map λg=>[C.d (.str g.1),g.2.1]) ax).drop (i*2+1))=some [gs[i].2.1]:=by rw[tn];rfl
    have key:∀(h5 h6:HS) (c':C) (ab:List C),Z0 h4 h5 []->Z0 h5 h6 (labs gs[i].2.1)->(∀k∈labs c',k∈labs gs[i].2.1\/h5.ep<=k.1)->i*2+1+1<=(Z8 (gs.map λg=>[C.d (.str g.1),g.2.1]) ab).length/\Zg (Z8 (gs.map λg=>[C.d (.str g.1),g.2.1]) ab) (i*2+1) [c']=Z8 ((gs.map λg=>[C.d (.str g.1),g.2.1]).set i [.s gs[i].1,c']) ab/\
      (∀cs,(h6.qA ln cs).box (h'.ep,48)=some [C.d (D.str M.src.tables[i].name),C.d (D.sl (List.map Col.enc M.src.tables[i].cols)),C.d (D.sl (List.map Zd M.src.tables[i].pk))])/\(∀cs,h'.ep<(h6.qA ln cs).ep)/\∀g∈gs.set i (gs[i].1,c',gs[i].2.2++[x.rows[j]]),(h'.ep,48)∉labs g.2.1:=λh5 h6 c' ab ad ae ag=>by
     have bv:=Up (sp:=ab) aa.ir.mr.1 (by simpa using ac);have hne:((h'.ep,48):Z2)≠ln:=λh9=>by
      have:=aa.e1 ln (by simp[labs])
      have:=mI.s.1
      have:=bm
      rw[<-h9] at*;simp at*;omega
     have a1:=n3 _ (Yf ac);have br:=ad.1;have bu:=ae.1;refine⟨oM,Ar aa.ir.mr.1 hxn sI,λcs=>?_,λcs=>?_,λg hg h9=>?_⟩;simp only[HS.qA,if_neg hne];exact(ae.2 _ sO a1).trans ((ad.2 _ e4 sI).trans b4);simp;omega;rcases YU hg with h8|rfl;exact n3 g h8 h9;rcases ag _ h9 with h8|h8;exact a1 h8;simp at h8;omega
    simp[hE,hf];refine Z4.jU (λk=>k !=16) (Plan.qB [0,1,2,4,5,6,7,8,9,10,11,12,13] (.two 3 14 (Plan.qB [14,15,16,17,18,19] .done) (.two 3 15 (Plan.qB [15,16,17,18,19] .done) (.two 3 16 (Plan.qB [16,17,18,19] .done) (Plan.qB [3,17,18,19] .done))))) follows kR (λe h5=>∃aj,En e 88 [(0,.p l),(2,.i i),(3,.p (h'.ep,48)),(29,.l (M.src.tables.map Tbl.enc)),(30,.i M.src.tables.length),(31,.i i),(43,.l (x.rows.map (Z6 GV.enc))),(44,.i x.rows.length),(45,.i j)]/\MpI h1 h5 l (.mrow lo 0 xs.length cap) (.mrow ln 0 gs.length ba) {M with out:=out,nc:=N.set i ⟨gs[i].1,gs[i].2.2++[x.rows[j]]⟩} aj/\h5.box (h'.ep,48)=some [C.d (D.str M.src.tables[i].name),C.d (D.sl (List.map Col.enc M.src.tables[i].cols)),C.d (D.sl (List.map Zd M.src.tables[i].pk))]/\h'.ep<h5.ep/\∀g∈aj,(h'.ep,48)∉labs g.2.1) ?_ ?_
    .simp[Plan.qB,Wc,planOps,hE,hb,bo,tn,ac];refine⟨?_,?_⟩
     all_goals
      refine Zq ((Ls x.rows[j]).h x.rows[j] rfl) sI ?_;simp[hE,hb]
     refine⟨λ_ _ x=>x,?_⟩;have ad:Z0 h4 ((h4.qC (h4.ep,1297) (some (x.rows[j].length,3))).next.qC (h4.ep+1,1312) (some (1,1))).next []:=Z0.refl.qC.next.qC.next;refine aa.app ac ad ZQ kR dE (Zk.qU rfl) az λc' h6 bp cap2 ab am ap ar aq ae ag=>?_;cases am;obtain⟨k1,k2,k3,k4,k5⟩:=key _ h6 c' ab ad ae ag;have ah:=UV ap;simp only[Mp.enc,Stp.enc,Yb,Yd,Yk,Yn] at ah;simp[hE,ar,ac];refine⟨k1,?_⟩;rw[k2];exact Zb.of ⟨_,by simp[hE],aq,k3 _,k4 _,k5⟩;refine⟨λ_ _ x=>x,?_,?_,?_⟩
     all_goals
      have ad:Z0 h4 ((h4.qC (h4.ep,1297) (some (x.rows[j].length,3))).next.qC (h4.ep+1,1312) (some (1,1))).next []:=Z0.refl.qC.next.qC.next;refine aa.app ac ad ZQ kR dE (Zk.qU rfl) az λc' h6 bp cap2 ab am ap ar aq ae ag=>?_;cases am;obtain⟨k1,k2,k3,k4,k5⟩:=key _ h6 c' ab ad ae ag;have ah:=UV ap;simp only[Mp.enc,Stp.enc,Yb,Yd,Yk,Yn] at ah;simp[hE,ah,ar,ac];refine⟨k1,?_⟩;rw[k2];exact Zb.of ⟨_,by simp[hE],aq,k3 _,k4 _,k5⟩
    rintro e h5 ⟨aj,hE,be,b5,e5,n5⟩;simp[hE,aw];exact Ze.of (N.set i ⟨gs[i].1,gs[i].2.2++[x.rows[j]]⟩) ⟨⟨aj,by simp[hE],be,b5,e5,n5⟩,hm⟩
   simp[hE,hf,aw];exact Ze.of N ⟨⟨gs,by simp[hE],aa,b4,e4,n3⟩,hm⟩
  clear hm hE;rintro N e h3 ⟨gs,hE,mI,_,_,_⟩ hm;simp[hE,hw];exact Ze.of N ⟨⟨gs,by simp[hE],mI⟩,hm⟩
 clear hm;rintro N e h' ⟨gs,hE,mI⟩ hm;obtain rfl:=Zh hm;have h9:=mI.done λh2 m2 hs2=>hK h2 _ _ m2 (bk.trans' hs2 λk hk=>by rcases Y2.1 hk with h9|h9;exact .inr (ak k h9);exact .inl (by simp[h9]))
 simpa[hE] using h9
theorem MpI.xL{h1 h l lo cn c' cr M gs xs sp}{cap i:Nat}{o:Rel}{rows}(m:MpI h1 h l (.mrow lo 0 xs.length cap) cn M gs)(hall:Zr 2 xs)(hlim:xs.length<=Zs)(hcap:(Z8 xs sp).length=cap*2)
  (hx:xs[i]?=some [.d (.str o.table),c'])(hr:cr.toD=some (.sl (rows.map (Z6 GV.enc))))(he:xs.map Zt=M.out.map λr=>some r.enc):
  MpI h1 (h.qA lo (Zg (Z8 xs sp) (i*2+1) [cr])) l (.mrow lo 0 xs.length cap) cn {M with out:=M.out.set i ⟨o.table,rows⟩} gs:=by
 have hl:=m.e1 lo (by simp[labs]);have ab:l≠lo:=λh9=>m.nl.1 (by simp[labs,h9]);have aa:∀k,k≠lo->(h.qA lo (Zg (Z8 xs sp) (i*2+1) [cr])).box k=h.box k:=λk hk=>by simp[hk]
 have ac:∀k∈labs cn,k≠lo:=λk hk h9=>m.nl.2.2 lo (by simp[labs]) (h9▸hk);refine⟨by rw[aa l ab];exact m.box,Hk hall rfl hlim hcap hx hr he _,⟨m.ir.mr.frame λk hk=>aa k (ac k hk),λg hg=>WY.frame (m.ir.row g hg) λk hk=>aa k λh9=>?_,m.ir.lc,m.ir.lg,m.ir.dis,⟨XX _,λk hk=>absurd hk (XW _)⟩⟩,m.gi,m.ng,m.e1,m.s.qA (.inl (by simp[labs])),m.nl⟩
 have:=(m.ng g hg).1 k hk
 subst h9;omega
def Ju(T:Tbl)(inp:List Rel)(i:Nat){ρ:Type}(_:Nat)(row:List GV)(s:List Rel×List Rel)(nx:List Rel×List Rel->Option ρ):Option ρ:=
 Z7 inp i λo=>Z1 (Vl T row) λkey=>Z1 (Uj T o.rows key) λq=>bif !q.2 then
 Z7 s.2 i λc=>Zp (c.rows.length+1<=2097152) (Z7 s.1 i λu=>Z1 (UP T u.rows row) λrs=>nx (s.1.set i ⟨u.table,rs⟩,s.2.set i ⟨c.table,c.rows++[row]⟩)) else nx s
def EK(M:Mp):Option Mp:=
 Z1 (Uu M.src) λz=>Z1 (Dd M M.src M.inp z) λv=>Z1 (Ad v M.inp) λq=>bif !q then some {M with err:=12} else
 Zc (λi t s next=>Z7 M.comp i λx=>Zc (Ju t M.inp i) next x.rows 0 s) (λs=>some {M with out:=s.1,nc:=s.2}) M.src.tables 0 (M.out,M.nc)
theorem GO(h0 l co cn M M1)(hm:Is (EK M) M1)(m:MpAt h0 l co cn M)(hN:MR h0 2 cn (M.nc.map UF))(he:∀r∈M.nc,r.rows=[])(K)
  (hK:∀h' co' bo,MpAt h' l co' bo M1->Z0 h0 h' (l::(labs co++labs cn))->K (.tup []) h'):Z3 prog 201 [.p l] h0 K:=by
 refine Z3.jW ?_;refine Z3.qN Tryz.func201 rfl kR rfl rfl sI ?_;obtain⟨z,hz,hm⟩:=hm.bind;obtain⟨v,hv,hm⟩:=hm.bind;obtain⟨q,hq,hm⟩:=hm.bind;have hl:=m.lt l (Y6 ..);simp;refine Z4.cu [0,1,2,3,4,5,6,7,8,9,10,11,12,15,16,17,18,13,14,19,20] (λe h=>En e 113 [(0,.p l),(28,.b (!q))]/\Z0 h0 h []) ?_ ?_;simp[m.bx];refine Zq (IK M.src z hz) sI ?_;simp;refine⟨λ_ _ x=>x,?_⟩;have hA:Z0 h0 h0.next []:=.next .refl;refine Za (Z3.jE Tryz.func235 rfl kR λhg=>MU _ l co cn M M.src M.inp z v hv (m.frame hA) _ λc h2 r hs2 _=>?_);have m2:=m.frame (hA.trans hs2);simp;refine⟨hs2.jA hg,?_⟩;refine Za (Z3.qD ((LU v M.inp).h q hq) ⟨.one (.frz r.frz),.one (.frz (.data rfl)),trivial⟩ (by simp[RV.flat,RV1.flat,RC.flat,D.flat]) ?_);simp;refine⟨λ_ _ x=>x,Zb.of ⟨sI,(hA.trans hs2).next⟩⟩;rintro e h1 ⟨hE,ap⟩;have m1:=m.frame ap;have bl:=hN.frame λk hk=>ap.2 k (m.lt k (by simp[hk])) sI;simp[hE];refine Zy hm ?_ ?_<;>clear hm<;>intro bz hm;obtain rfl:=Zh hm;simp[hE,m1.bx];exact .inl (hK _ _ _ (m1.rO 12) ((ap.mn).qA (.inl sI)));simp[hE,m1.bx];intro b1;refine Z4.for (λi s e h'=>∃gs,En e 113 [(0,.p l),(36,.l (M.src.tables.map Tbl.enc)),(37,.i M.src.tables.length),(38,.i i)]/\MpI h1 h' l co cn {M with out:=s.1,nc:=s.2} gs) hm ⟨_,by simp[hE],MpI.of m1 bl he⟩ ?_ ?_
 .clear hm;rintro i s e h' ⟨gs,hE,mI⟩ hlt hm;have hw:IntKind.i64.wrap ((i:Int)+1)=(i:Int)+1:=Y5 _ oM;obtain⟨x,-,hx,hm⟩:=Is.get hm;simp at hx;have bf:=(Y0.1 hx).1;have bh:=(Y0.1 hx).2;have bq:=Y3 (mI.e1 l sI) mI.s.1;have bd:=mI.s.1;have hb:=UV mI.box;simp only[Mp.enc,Stp.enc,Yb,Yd,Yk,Yn] at hb;simp[hE,hlt,hb,Zm bq,Tbl.enc,bf,bh,Rel.enc];intro hxl;obtain⟨h2,ah⟩:∃h2,h2=(h'.qA (h'.ep,48) [C.d (D.str empty),C.nil,C.nil]).next.qA (h'.ep,48) [C.d (D.str M.src.tables[i].name),C.d (D.sl (List.map Col.enc M.src.tables[i].cols)),C.d (D.sl (List.map Zd M.src.tables[i].pk))]:=⟨_,rfl⟩;rw[<-ah];have hS:=ah▸S2;have b2:h2.box (h'.ep,48)=some [C.d (D.str M.src.tables[i].name),C.d (D.sl (List.map Col.enc M.src.tables[i].cols)),C.d (D.sl (List.map Zd M.src.tables[i].pk))]:=by rw[ah];simp
  have e2:h'.ep<h2.ep:=by rw[ah];simp
  clear ah;refine Z4.for (λj s e h3=>∃gs,En e 113 [(0,.p l),(2,.i i),(3,.p (h'.ep,48)),(36,.l (M.src.tables.map Tbl.enc)),(37,.i M.src.tables.length),(38,.i i),(50,.l (x.rows.map (Z6 GV.enc))),(51,.i x.rows.length),(52,.i j)]/\MpI h1 h3 l co cn {M with out:=s.1,nc:=s.2} gs/\h3.box (h'.ep,48)=some [C.d (D.str M.src.tables[i].name),C.d (D.sl (List.map Col.enc M.src.tables[i].cols)),C.d (D.sl (List.map Zd M.src.tables[i].pk))]/\h'.ep<h3.ep/\∀g∈gs,(h'.ep,48)∉labs g.2.1) hm ⟨gs,by simp[hE],mI.frame hS,b2,e2,λg hg h9=>by have:=(mI.ir.lg g hg _ h9).2.1;simp at this⟩ ?_ ?_
  .clear hm hE;rintro j s e h3 ⟨gs,hE,mI,b3,e3,n3⟩ hj hm;have a7:IntKind.i64.wrap ((j:Int)+1)=(j:Int)+1:=Y5 _ oM;unfold Ju at hm;obtain⟨o,-,ay,hm⟩:=Is.get hm;obtain⟨key,ba,hm⟩:=hm.bind;obtain⟨q,hq,hm⟩:=hm.bind;simp at ay;have bu:=(Y0.1 ay).1;have br:=(Y0.1 ay).2;have b8:=Y3 (mI.e1 l sI) mI.s.1;have hb:=UV mI.box;simp only[Mp.enc,Stp.enc,Yb,Yd,Yk,Yn] at hb;simp[hE,hj];refine Z4.cu [0,1,2,3,4,5,6,7,8,9,10,11,12,13,14,15,16,17] (λe h4=>En e 113 [(0,.p l),(2,.i i),(3,.p (h'.ep,48)),(5,.l (x.rows[j].map GV.enc)),(7,.b q.2),(36,.l (M.src.tables.map Tbl.enc)),(37,.i M.src.tables.length),(38,.i i),(50,.l (x.rows.map (Z6 GV.enc))),(51,.i x.rows.length),(52,.i j)]/\Z0 h3 h4 []) ?_ ?_;simp[hE,hb,b3,bu,br,Rel.enc];refine Zq ((Uk M.src.tables[i] x.rows[j]).h key ba) sI ?_;simp[hE];refine⟨λ_ _ x=>x,?_⟩;refine Zq ((D0 M.src.tables[i] o.rows key).h q hq) sI ?_;simp[hE];refine⟨λ_ _ x=>x,Zb.of ⟨by simp[hE],?_⟩⟩;exact sm;rintro e h4 ⟨hE,ar⟩;have aa:=mI.frame ar;have b4:=(ar.2 _ e3 sI).trans b3;have e4:=Y3 e3 ar.1;simp[hE];refine Zy hm ?_ ?_<;>clear hm<;>intro hf hm
   .obtain⟨g,-,hg,hm⟩:=Is.get hm;obtain⟨bb,hm⟩:=hm.chk;obtain⟨u,-,hu,hm⟩:=Is.get hm;obtain⟨rs,bi,hm⟩:=hm.bind;simp at hg hu;have bg:W4 gs=s.2:=aa.gi;rw[<-bg] at hg;have ac:i<gs.length:=by
     have:=(Y0.1 hg).1
     simpa[W4] using this
    obtain rfl:(⟨gs[i].1,gs[i].2.2⟩:Rel)=g:=by
     have:(W4 gs)[i]?=some ⟨gs[i].1,gs[i].2.2⟩:=by simp[W4,ac]
     rw[this] at hg;exact Option.some.inj hg
    have hb:=UV aa.box;simp only[Mp.enc,Stp.enc,Yb,Yd,Yk,Yn] at hb;obtain⟨ln,aq,a8,az,bt,bj⟩:=aa.ir.mr.block sO;rw[Yh] at az;subst az;have hxn:(gs.map λg=>[C.d (.str g.1),g.2.1])[i]?=some [.d (.str gs[i].1),gs[i].2.1]:=by simp[ac]
    have tn:=Vf (sp:=a8) (f:=1) (m:=1) aa.ir.mr.1 hxn sI;replace tn:Zl 1 ((Z8 (gs.map λg=>[C.d (.str g.1),g.2.1]) a8).drop (i*2+1))=some [gs[i].2.1]:=by rw[tn];rfl
    have key:∀(h5 h6:HS) (c':C) (ab:List C),Z0 h4 h5 []->Z0 h5 h6 (labs gs[i].2.1)->(∀k∈labs c',k∈labs gs[i].2.1\/h5.ep<=k.1)->i*2+1+1<=(Z8 (gs.map λg=>[C.d (.str g.1),g.2.1]) ab).length/\Zg (Z8 (gs.map λg=>[C.d (.str g.1),g.2.1]) ab) (i*2+1) [c']=Z8 ((gs.map λg=>[C.d (.str g.1),g.2.1]).set i [.d (.str gs[i].1),c']) ab/\
      (∀cs,(h6.qA ln cs).box (h'.ep,48)=some [C.d (D.str M.src.tables[i].name),C.d (D.sl (List.map Col.enc M.src.tables[i].cols)),C.d (D.sl (List.map Zd M.src.tables[i].pk))])/\(∀cs,h'.ep<(h6.qA ln cs).ep)/\∀g∈gs.set i (gs[i].1,c',gs[i].2.2++[x.rows[j]]),(h'.ep,48)∉labs g.2.1:=λh5 h6 c' ab ad af aj=>by
     have bm:=Up (sp:=ab) aa.ir.mr.1 (by simpa using ac);have hne:((h'.ep,48):Z2)≠ln:=λh9=>by
      have:=aa.e1 ln (by simp[labs])
      have:=mI.s.1
      have:=bd
      rw[<-h9] at*;simp at*;omega
     have bc:=n3 _ (Yf ac);have b0:=ad.1;have b7:=af.1;refine⟨oM,Ar aa.ir.mr.1 hxn sI,λcs=>?_,λcs=>?_,λg hg h9=>?_⟩;simp only[HS.qA,if_neg hne];exact(af.2 _ sO bc).trans ((ad.2 _ e4 sI).trans b4);simp;omega;rcases YU hg with h8|rfl;exact n3 g h8 h9;rcases aj _ h9 with h8|h8;exact bc h8;simp at h8;omega
    simp[hE,hf];refine Z4.jU (λk=>k !=16) (Plan.qB [0,1,2,4,5,6,7,8,9,10,11,12,13] (.two 3 14 (Plan.qB [14,15,16,17,18,19] .done) (.two 3 15 (Plan.qB [15,16,17,18,19] .done) (.two 3 16 (Plan.qB [16,17,18,19] .done) (Plan.qB [3,17,18,19] .done))))) follows kR (λe h5=>∃ag,En e 113 [(0,.p l),(2,.i i),(3,.p (h'.ep,48)),(5,.l (x.rows[j].map GV.enc)),(36,.l (M.src.tables.map Tbl.enc)),(37,.i M.src.tables.length),(38,.i i),(50,.l (x.rows.map (Z6 GV.enc))),(51,.i x.rows.length),(52,.i j)]/\MpI h1 h5 l co (.mrow ln 0 gs.length aq) {M with out:=s.1,nc:=s.2.set i ⟨gs[i].1,gs[i].2.2++[x.rows[j]]⟩} ag/\h5.box (h'.ep,48)=some [C.d (D.str M.src.tables[i].name),C.d (D.sl (List.map Col.enc M.src.tables[i].cols)),C.d (D.sl (List.map Zd M.src.tables[i].pk))]/\h'.ep<h5.ep/\∀g∈ag,(h'.ep,48)∉labs g.2.1) ?_ ?_
    .simp[Plan.qB,Wc,planOps,hE,hb,bt,tn,ac];refine⟨?_,?_⟩
     all_goals
      refine Zq ((Ls x.rows[j]).h x.rows[j] rfl) sI ?_;simp[hE,hb]
     refine⟨λ_ _ x=>x,?_⟩;have ad:Z0 h4 ((h4.qC (h4.ep,1409) (some (x.rows[j].length,3))).next.qC (h4.ep+1,1424) (some (1,1))).next []:=Z0.refl.qC.next.qC.next;refine aa.app ac ad ZQ kR dE (Zk.qU rfl) bb λc' h6 bv cap2 ab au aw ax al af aj=>?_;cases au;obtain⟨k1,k2,k3,k4,k5⟩:=key _ h6 c' ab ad af aj;have am:=UV aw;simp only[Mp.enc,Stp.enc,Yb,Yd,Yk,Yn] at am;simp[hE,ax,ac];refine⟨k1,?_⟩;rw[k2];exact Zb.of ⟨_,by simp[hE],al,k3 _,k4 _,k5⟩;refine⟨λ_ _ x=>x,?_,?_,?_⟩
     all_goals
      have ad:Z0 h4 ((h4.qC (h4.ep,1409) (some (x.rows[j].length,3))).next.qC (h4.ep+1,1424) (some (1,1))).next []:=Z0.refl.qC.next.qC.next;refine aa.app ac ad ZQ kR dE (Zk.qU rfl) bb λc' h6 bv cap2 ab au aw ax al af aj=>?_;cases au;obtain⟨k1,k2,k3,k4,k5⟩:=key _ h6 c' ab ad af aj;have am:=UV aw;simp only[Mp.enc,Stp.enc,Yb,Yd,Yk,Yn] at am;simp[hE,am,ax,ac];refine⟨k1,?_⟩;rw[k2];exact Zb.of ⟨_,by simp[hE],al,k3 _,k4 _,k5⟩
    rintro e h5 ⟨ag,hE,ae,b5,e5,n5⟩;obtain⟨lo,cap,sp,xs,c9,bk,-,mr,a1,bp,t1,bn,ak,hcap,be⟩:=ae.out.at_ (show s.1[i]?=some u from hu);subst bk;have hb:=UV ae.box;simp only[Mp.enc,Stp.enc,Yb,Yd,Yk,Yn] at hb;have bw:=Y3 (ae.e1 lo (by simp[labs])) ae.s.1;have bm:=Up (sp:=sp) mr.1 ak;have hne:((h'.ep,48):Z2)≠lo:=λh9=>by
     have:=ae.e1 lo (by simp[labs])
     have:=bd
     rw[<-h9] at*;simp at*;omega
    simp;refine Z4.cu [0,1,2,3,4,5,6,7,8,9,10,11,12,13,14,15,16,17,18] (λe h6=>En e 113 [(0,.p l),(2,.i i),(3,.p (h'.ep,48)),(36,.l (M.src.tables.map Tbl.enc)),(37,.i M.src.tables.length),(38,.i i),(50,.l (x.rows.map (Z6 GV.enc))),(51,.i x.rows.length),(52,.i j)]/\MpI h1 h6 l (.mrow lo 0 xs.length cap) (.mrow ln 0 gs.length aq) {M with out:=s.1.set i ⟨u.table,rs⟩,nc:=s.2.set i ⟨gs[i].1,gs[i].2.2++[x.rows[j]]⟩} ag/\h6.box (h'.ep,48)=some [C.d (D.str M.src.tables[i].name),C.d (D.sl (List.map Col.enc M.src.tables[i].cols)),C.d (D.sl (List.map Zd M.src.tables[i].pk))]/\h'.ep<h6.ep) ?_ ?_;simp[hE,hb,a1,t1,ak,b5];refine Zq (Eo M.src.tables[i] u.rows x.rows[j] rs bi) (by simp[Ff bn]) ?_;simp[hE,a1,ak];refine⟨λ_ _ x=>x,oM,Zb.of ⟨by simp[hE],(ae.frame (Z0.refl.next)).xL mr.1 mr.2.1 hcap bp rfl be,?_,sO⟩⟩;simp only[HS.qA,if_neg hne];exact b5;rintro e h6 ⟨hE,al,b6,e6⟩;simp[hE,a7];exact Ze.of (s.1.set i ⟨u.table,rs⟩,s.2.set i ⟨gs[i].1,gs[i].2.2++[x.rows[j]]⟩) ⟨⟨ag,by simp[hE],al,b6,e6,n5⟩,hm⟩
   simp[hE,hf,a7];exact Ze.of s ⟨⟨gs,by simp[hE],aa,b4,e4,n3⟩,hm⟩
  clear hm hE;rintro s e h3 ⟨gs,hE,mI,_,_,_⟩ hm;simp[hE,hw];exact Ze.of s ⟨⟨gs,by simp[hE],mI⟩,hm⟩
 clear hm;rintro s e h' ⟨gs,hE,mI⟩ hm;obtain rfl:=Zh hm;have h9:=mI.done λh2 m2 hs2=>hK h2 _ _ m2 ((ap.mn).trans (hs2.mono (by simp+contextual)));simpa[hE] using h9
theorem QB(h:HS)(c:C)(xs:List (List C))(hr:Zk h 2 c xs)(K:V->HS->Prop)
  (hk:∀c' h',MR h' 2 c' xs->Z0 h h' []->(∀l∈labs c',h.ep<=l.1/\l.1<h'.ep)->Zo h h'->K (.one c') h'):
  Z3 prog 162 [.one c] h K:=by
 have F:=Tryz.func162;have EL:=@Bt;exact EY

def BL(m:Mp):Option Mp:=
 bif !m.fwd then Z1 (Vd m m.step.newName) λv2=>(Z1 (G4 m m.step.table v2.2) λv4=>some v4) else Z1 (Vd m m.step.table) λv5=>Z1 (G4 m m.step.newName v5.2) λv7=>some v7
instance Za1(m:Mp):ConM (BL m) m (λr=>r) prog 191 [] (λ_=>.tup []):=by unfold BL;have p1:PH [0] (Plan.qB [0,1,2,3,4,5,6,7,8,9,10,11] .done):=.intro;exact Q0 33 Tryz.func191 rfl (by kernel_rfl) rfl rfl trivial (by simp)

def Gm(step:Stp):Option ByteArray:=
 bif (step.kind==10) then some step.newTable.name else some step.table
instance Zaz(step:Stp):Con (Gm step) prog 234 [.agg step.enc] (λr=>.one (.d (.str r))):=by unfold Gm;exact go 11 Tryz.func234
def A6(m:Mp)(hide:Bool):Option Mp:=
 Z1 (Gm m.step) λv1=>bif hide then Z1 (Vd m v1) λv3=>(Z1 (Ic m v1 v3.2) λv5=>some v5) else Z1 (WZ m.cs m.comp v1) λv6=>Z1 (G4 m v1 v6.2) λv8=>Z1 (Ve v6.2) λv9=>Z1 (Ic v8 v1 v9) λv10=>some v10
instance Zab(m:Mp)(hide:Bool):ConM (A6 m hide) m (λr=>r) prog 199 [.one (.d (.bool hide))] (λ_=>.tup []):=by unfold A6;have p1:PH [4] (Plan.qB [0,1,2,3,4,5,6,7,8] (.two 9 13 (Plan.qB [10,11,12,13,14,15] .done) (Plan.qB [9,10,11,12,14,15] .done))):=.intro;exact Q0 47 Tryz.func199 rfl (by kernel_rfl) rfl rfl trivial (by simp)
def DT(M:Mp):Option Mp:=Zp (1<=M.step.kind/\M.step.kind<=16)<|
 if M.step.kind=1 then(if M.fwd then AH M else AG M)
 else if M.step.kind=2 then(if M.fwd then AG M else AH M)
 else if M.step.kind=3 then some M
 else if M.step.kind=4 then BL M
 else if M.step.kind=5 then CW M
 else if M.step.kind=6 then(if M.fwd then Dk M else Dp M)
 else if M.step.kind=7 then(if M.fwd then Dp M else Dk M)
 else if M.step.kind=8 then(if M.fwd then EG M else Fh M)
 else if M.step.kind=9 then(if M.fwd then Fi M else EV M)
 else if M.step.kind=10 then A6 M (!M.fwd)
 else if M.step.kind=11 then A6 M M.fwd
 else if M.step.kind=12 then CW M
 else if M.step.kind=13\/M.step.kind=15 then(if M.fwd then EN M else EK M)
 else(if M.fwd then EK M else EN M)
def ZD(f:FuncId)(vs:List V)(h0:HS)(l:Z2)(co cn:C)(M1:Mp):Prop:=
 ∀K:V->HS->Prop,(∀h' co' aa,MpAt h' l co' aa M1->Z0 h0 h' (l::(labs co++labs cn))->K (.tup []) h')->Z3 prog f (.p l::vs) h0 K
theorem ZD.of{f:FuncId}{vs:List V}{h0:HS}{l:Z2}{co cn:C}{M1:Mp}(H:∀K:V->HS->Prop,(∀h',MpAt h' l co cn M1->Z0 h0 h' (labs co++labs cn)->K (.tup []) h')->Z3 prog f (.p l::vs) h0 K):ZD f vs h0 l co cn M1:=
 λK hK=>H K λh' m' hs=>hK h' co cn m' (hs.mono (by simp+contextual))
theorem ZD.of'{f:FuncId}{vs:List V}{h0:HS}{l:Z2}{co cn:C}{M1:Mp}(H:∀K:V->HS->Prop,(∀h',MpAt h' l co cn M1->Z0 h0 h' (l::(labs co++labs cn))->K (.tup []) h')->Z3 prog f (.p l::vs) h0 K):ZD f vs h0 l co cn M1:=
 λK hK=>H K λh' m' hs=>hK h' co cn m' hs
theorem ZD.con{f:FuncId}{vs:List V}{av:List AV}{h0:HS}{l:Z2}{co cn:C}{M M1:Mp}{m1:Option Mp}[i:ConM m1 M (λr=>r) prog f av (λ_=>.tup [])](hm:Is m1 M1)(m:MpAt h0 l co cn M)(hv:W1 h0 vs=some av):ZD f vs h0 l co cn M1:=
 .of λK hK=>i.h M1 hm h0 l co cn vs K m hv hK
theorem ZD.call{f:FuncId}{vs:List V}{h0:HS}{l:Z2}{co cn:C}{M1:Mp}{d:Nat}{e:Env}{K:V->HS->Prop}{Kc:Env->HS->Prop}(H:ZD f vs h0 l co cn M1)(hK:∀h' ab aa,MpAt h' l ab aa M1->Z0 h0 h' (l::(labs co++labs cn))->K (.tup []) h')
  (hk:∀h',K (.tup []) h'->Kc (e.put (some d) (.tup [])) h'):V4 prog f [] (.p l::vs) d e h0 (K:=⟨Kc⟩):=
 Za (by simpa using H (λv h'=>Kc (e.put (some d) v) h') λh' ab aa m' hs=>hk h' (hK h' ab aa m' hs))
theorem Se(h0:HS)(l:Z2)(co cn:C)(M M1:Mp)(hm:Is (DT M) M1)(m:MpAt h0 l co cn M)(hN:MR h0 2 cn (M.nc.map UF))(he:∀r∈M.nc,r.rows=[])(K:V->HS->Prop)
  (hK:∀h' co' ab,MpAt h' l co' ab M1->Z0 h0 h' (l::(labs co++labs cn))->K (.tup []) h'):Z3 prog 161 [.p l] h0 K:=by
 refine Z3.ov Tryz.func161 ?_;unfold DT at hm;obtain⟨hk,hm⟩:=hm.chk;have hb:=m.bx;have ac:M.fwd=true\/M.fwd=false:=by cases M.fwd<;>simp
 have ad:M.step.kind=1\/M.step.kind=2\/M.step.kind=3\/M.step.kind=4\/M.step.kind=5\/M.step.kind=6\/M.step.kind=7\/M.step.kind=8\/M.step.kind=9\/M.step.kind=10\/M.step.kind=11\/M.step.kind=12\/M.step.kind=13\/M.step.kind=14\/M.step.kind=15\/M.step.kind=16:=oM;rcases ad with hk|hk|hk|hk|hk|hk|hk|hk|hk|hk|hk|hk|hk|hk|hk|hk<;>rcases ac with hf|hf<;>simp[hk,hf] at hm<;>simp[hb,hk,hf];exact ZD.call (ZD.con (m1:=AH M) hm m rfl) hK λh' aa=>by simpa using aa
 exact ZD.call (ZD.con (m1:=AG M) hm m rfl) hK λh' aa=>by simpa using aa
 exact ZD.call (ZD.con (m1:=AG M) hm m rfl) hK λh' aa=>by simpa using aa
 exact ZD.call (ZD.con (m1:=AH M) hm m rfl) hK λh' aa=>by simpa using aa
 obtain rfl:=Zh hm;exact hK h0 co cn m .refl;obtain rfl:=Zh hm;exact hK h0 co cn m .refl;exact ZD.call (ZD.con (m1:=BL M) hm m rfl) hK λh' aa=>by simpa using aa
 exact ZD.call (ZD.con (m1:=BL M) hm m rfl) hK λh' aa=>by simpa using aa
 exact ZD.call (ZD.of (Gy h0 l co cn M M1 hm m)) hK λh' aa=>by simpa using aa
 exact ZD.call (ZD.of (Gy h0 l co cn M M1 hm m)) hK λh' aa=>by simpa using aa
 exact ZD.call (ZD.of (OU h0 l co cn M M1 hm m)) hK λh' aa=>by simpa using aa
 exact ZD.call (ZD.of' (Pj h0 l co cn M M1 hm m)) hK λh' aa=>by simpa using aa
 exact ZD.call (ZD.of' (Pj h0 l co cn M M1 hm m)) hK λh' aa=>by simpa using aa
 exact ZD.call (ZD.of (OU h0 l co cn M M1 hm m)) hK λh' aa=>by simpa using aa
 exact ZD.call (ZD.of (Ty h0 l co cn M M1 hm m)) hK λh' aa=>by simpa using aa
 exact ZD.call (ZD.of' (Z73 h0 l co cn M M1 hm m)) hK λh' aa=>by simpa using aa
 exact ZD.call (ZD.of (Z74 h0 l co cn M M1 hm m)) hK λh' aa=>by simpa using aa
 exact ZD.call (ZD.of (Z32 h0 l co cn M M1 hm m)) hK λh' aa=>by simpa using aa
 exact ZD.call (ZD.con (m1:=A6 M false) hm m sI) hK λh' aa=>by simpa using aa
 exact ZD.call (ZD.con (m1:=A6 M true) hm m sI) hK λh' aa=>by simpa using aa
 exact ZD.call (ZD.con (m1:=A6 M true) hm m sI) hK λh' aa=>by simpa using aa
 exact ZD.call (ZD.con (m1:=A6 M false) hm m sI) hK λh' aa=>by simpa using aa
 exact ZD.call (ZD.of (Gy h0 l co cn M M1 hm m)) hK λh' aa=>by simpa using aa
 exact ZD.call (ZD.of (Gy h0 l co cn M M1 hm m)) hK λh' aa=>by simpa using aa
 exact ZD.call (GP h0 l co cn M M1 hm m hN he) hK λh' aa=>by simpa using aa
 exact ZD.call (GO h0 l co cn M M1 hm m hN he) hK λh' aa=>by simpa using aa
 exact ZD.call (GO h0 l co cn M M1 hm m hN he) hK λh' aa=>by simpa using aa
 exact ZD.call (GP h0 l co cn M M1 hm m hN he) hK λh' aa=>by simpa using aa
 exact ZD.call (GP h0 l co cn M M1 hm m hN he) hK λh' aa=>by simpa using aa
 exact ZD.call (GO h0 l co cn M M1 hm m hN he) hK λh' aa=>by simpa using aa
 exact ZD.call (GO h0 l co cn M M1 hm m hN he) hK λh' aa=>by simpa using aa
 exact ZD.call (GP h0 l co cn M M1 hm m hN he) hK λh' aa=>by simpa using aa
end
end Go.Am
section
namespace Go.Am
theorem Bn{S:Sch}(hA:WT S.tables){T:Tbl}(hT:T∈S.tables):∃i:Nat,ZY S T.name=some ((i:Int),true)/\S.tables[i]?=some T:=by
 obtain⟨f,hf,h0,h1,h2⟩:=VI S T.name;have hb:f.2=true:=by
  cases hb:f.2 with
  |true=>rfl
  |false=>have:=h2 hb T hT;rw[MJ] at this;cases this
 obtain⟨h3,U,hU,aa⟩:=h1 hb;have hu:=Y4 hU;have e1:=Bm hA hT;rw[<-Wf.1 aa,Bm hA hu] at e1;cases e1;refine⟨f.1.toNat,?_,hU⟩;rw[hf]
 congr 1
 exact Prod.ext sO hb
theorem Hv{S:Sch}{ρ:RN}{i:Nat}{T:Tbl}(h:S.tables[i]?=some T):(mkI S ρ)[i]?=some ⟨T.name,ρ T.name⟩:=by simp[mkI,h]
theorem C8{S:Sch}{ρ:RN}:(mkI S ρ).length=S.tables.length:=by simp[mkI]
theorem Ax{α:Type}{m:Option α}{x:α}(h:Wp m λr=>r=x):m=some x:=by obtain⟨r,h1,rfl⟩:=h;exact h1
theorem Wa{α:Type}{m:Option α}{x:α}(h:m=some x):Wp m λr=>r=x:=⟨x,h,rfl⟩
theorem KB{S:Sch}{ρ:RN}(hA:WT S.tables){T:Tbl}(hT:T∈S.tables)(hl:(ρ T.name).length<=1048576):WZ S (mkI S ρ) T.name=some (T,ρ T.name):=by
 obtain⟨i,h1,h2⟩:=Bn hA hT;have hi:=(Y0.1 h2).1;refine Ax ?_;unfold WZ;refine Wp.bind (Wa h1) λf _ hf=>?_;subst hf;refine Wp.cond (λh=>by simp at h) λ_=>Wp.qG h2 (Wp.bind (R:=λy=>y=T) ⟨_,rfl,by cases T;rfl⟩ λy _ hy=>?_);subst hy;refine Wp.cond (λh=>?_) λ_=>Wp.qG (Hv h2) (Wp.bind (Bc _ hl) λr _ hr=>Wp.ret (by rw[hr]));simp[C8] at h;omega
structure LI(M:Mp)(ρ σ:RN):Prop where
 a:VS M.src
 b:VS M.dst
 inp:M.inp=mkI M.src ρ
 ri:RI M.src ρ
 comp:M.comp=mkI M.cs σ
 rc:RI M.cs σ
 ck:∀T∈M.cs.tables,T.pk.length<=6/\T.cols.length<=100
 cn:WT M.cs.tables
variable{M:Mp}{ρ σ:RN}
theorem LI.tab(L:LI M ρ σ){T:Tbl}(hT:T∈M.src.tables):WZ M.src M.inp T.name=some (T,ρ T.name):=by rw[L.inp];exact KB L.a.ord.1 hT (by have:=(L.ri T hT).l24;omega)
theorem LI.input(L:LI M ρ σ){T:Tbl}(hT:T∈M.src.tables):Vd M T.name=some (T,ρ T.name):=by unfold Vd;rw[L.tab hT];rfl
theorem LI.out(L:LI M ρ σ){T:Tbl}(hT:T∈M.dst.tables):UL M T.name=some T:=by
 obtain⟨i,h1,h2⟩:=Bn L.b.ord.1 hT;refine Ax ?_;unfold UL;refine Wp.bind (Wa h1) λf _ hf=>?_;subst hf;exact Wp.qG h2 (Wp.ret rfl)
theorem Nz(T:Tbl)(rows:List (List GV))(key:List GV)(hT:T.pk.length<=6)(ha:WH (ZF T) rows):Wp (Uj T rows key) λq=>∃i:Nat,q.1=i/\(q.2=true->∃r,rows[i]?=some r/\VR (ZF T) rows key=some r)/\(q.2=false->VR (ZF T) rows key=none):=by
 refine(Bx T rows key hT).mono λq _ hq=>?_;obtain⟨i,hi,ab,aa,ht,hf⟩:=hq;refine⟨i,hi,λh=>?_,λh=>?_⟩;obtain⟨r,hr,hk⟩:=ht h;refine⟨r,hr,?_⟩;rw[<-EX hk];exact Z2x ha (Y4 hr);have hm:=JX (T:=T) (k:=key) ha aa (hf h);refine Nr.2 λr hr he=>?_;rw[hm.eq] at hr;rcases Y2.1 hr with h1|h1
 have:=hm.lo r h1
 rw[he,H6] at this;omega
 have:=hm.hi r (by simpa using h1)
 rw[he,H6] at this;omega
def FN(ct:Tbl)(rows:List (List GV))(key:List GV):List GV×Bool:=match VR (ZF ct) rows key with
 |some e=>(e.drop ct.pk.length,true)
 |none=>([],false)
theorem LI.wP(L:LI M ρ σ){ct:Tbl}(hC:M.cs.tables=[ct])(hp:ct.pk.length<=ct.cols.length)(key:List GV):A8 M key=some (FN ct (σ ct.name) key):=by
 have hm:ct∈M.cs.tables:=by rw[hC];simp
 have h0:M.cs.tables[0]?=some ct:=by rw[hC];rfl
 have aa:=L.ck ct hm;refine Ax ?_;unfold A8;refine Wp.qG (i:=0) h0 (Wp.qG (i:=0) (by rw[L.comp];exact Hv h0) (Wp.bind (Nz ct _ key aa.1 (L.rc ct hm).asc) λq _ hq=>?_));obtain⟨i,hi,h1,h2⟩:=hq;refine Wp.cond (λh=>Wp.ret ?_) λh=>?_;unfold FN;rw[h2 (by simpa using h)];obtain⟨r,hr,hl⟩:=h1 (by simpa using h);have hlen:=((L.rc ct hm).row r (Y4 hr)).len;rw[hi];refine Wp.qG hr (Wp.chk ⟨oM,oM,oM⟩ (Wp.bind (R:=λv=>v=(r.take r.length).drop ct.pk.length) (Wp.ret rfl) λv _ hv=>Wp.ret ?_));unfold FN;rw[hl,hv,Yp]
end Go.Am
end
section
namespace Go.Am
theorem Py{ρ':Type}{Q:ρ'->Prop}(F:ZC->ZC×Option ZC){rows:List ZC}{step:Nat->ZC->List ZC×List ZC->(List ZC×List ZC->Option ρ')->Option ρ'}{fin:List ZC×List ZC->Option ρ'}
  (hs:∀i row (s:List ZC×List ZC) next,row∈rows->i<rows.length->s.1.length=i->s.2.length<=i->Wp (next (s.1++[(F row).1],s.2++(F row).2.toList)) Q->Wp (step i row s next) Q)
  (hf:Wp (fin (rows.map λr=>(F r).1,rows.filterMap λr=>(F r).2)) Q):Wp (Zc step fin rows 0 ([],[])) Q:=by
 refine Wp.for (λi (s:List ZC×List ZC)=>s=((rows.take i).map λr=>(F r).1,(rows.take i).filterMap λr=>(F r).2)) sI ?_ λs hI=>by rw[hI,Yp];exact hf
 intro i row s next hx hm hI hn
 obtain⟨hi,he⟩:=Y0.1 hx;refine hs i row s next hm hi (by rw[hI];simp;omega) (by rw[hI];exact Yv (List.length_filterMap_le _ _) sO) (hn _ ?_)
 rw[hI,Yl hi,he];simp only[YP,List.filterMap_append,Yb,Yd,List.filterMap_cons,List.filterMap_nil];cases(F row).2<;>rfl
theorem Z79(a:ByteArray):(a==a)=true:=by
 cases a with
 |mk d=>exact(beq_self_eq_true d:(d==d)=true)
theorem Z5r{a b:GV}:Vk a b=true↔a≠b:=by
 constructor;rintro h rfl;simp[Vk,Z79] at h;intro h;cases e:Vk a b with
 |true=>rfl
 |false=>exact absurd (Px (by simpa[Vk] using e)) h
theorem C2{T:Tbl}{r:ZC}:(ZF T r).length=T.pk.length:=by simp[ZF]
variable{M:Mp}{ρ σ:RN}
theorem LI.rM(L:LI M ρ σ){T:Tbl}(hT:T∈M.src.tables):Dt (ρ T.name)/\(∀r∈ρ T.name,r.length=T.cols.length/\1<=r.length/\r.length<=6):=by
 have h:=L.ri T hT;have hV:=L.a.tab T hT;have h6:=hV.cols6;have h0:=hV.cols0;have aa:=h.l24;have hr:∀r∈ρ T.name,r.length=T.cols.length/\1<=r.length/\r.length<=6:=λr hr=>by have:=(h.row r hr).len;omega
 exact⟨⟨oM,λr h1=>⟨λh2=>by have:=hr r h1;simp[h2] at this,by have:=hr r h1;omega⟩⟩,hr⟩
def Fz(n:Nat)(d:GV):Option ZC->GV
 |some e=>(e[n]?).getD DI
 |none=>d
def HU(κ:ZC->List GV)(at_ n:Nat)(d:GV)(o:Option ZC)(r:ZC):ZC×Option ZC:=
 (r.take at_++[Fz n d o]++r.drop at_,bif Vk (Fz n d o) d then some (κ r++[Fz n d o]) else none)
def HQ(κ:ZC->List GV)(at_:Nat)(d:GV)(r:ZC):ZC×Option ZC:=
 (r.take at_++r.drop (at_+1),bif Vk (AY r at_) d then some (κ r++[AY r at_]) else none)
theorem Nv(L:LI M ρ σ){T T2 ct:Tbl}{at_:Nat}{bb:Bool}(hT:T∈M.src.tables)(hn:T.name=M.step.table)(af:T2∈M.dst.tables)(ae:T2.name=M.step.table)(ag:W7 T2 M.step.column=some ((at_:Int),bb))(aj:at_<=T.cols.length)
  (hC:M.cs.tables=[ct])(hp:ct.pk.length=T.pk.length)(hc:ct.cols.length=T.pk.length+1):
  AH M=some {M with out:=ZI M.step.table (PL (HU (ZF T) at_ T.pk.length M.step.value) (ZF T) (ZF ct) (ρ T.name) (σ ct.name)).1 M.out,nc:=ZI M.step.table (PL (HU (ZF T) at_ T.pk.length M.step.value) (ZF T) (ZF ct) (ρ T.name) (σ ct.name)).2 M.nc}:=by
 obtain⟨ab,hr⟩:=L.rM hT;obtain⟨i,hf,hi⟩:=Bn L.a.ord.1 hT;have ah:=(L.a.tab T hT).pk6;refine Ax ?_;unfold AH;have aa:UL M T.name=some T2:=by rw[hn,<-ae];exact L.out af
 rw[<-hn];refine Wp.bind (Wa (L.tab hT)) λq _ hq=>Wp.bind (Wa hf) λf _ hf=>?_;subst hq hf;refine Wp.chk ⟨rfl,ab⟩ (Wp.bind (Wa aa) λT3 _ h3=>?_);subst h3;refine Wp.bind (Wa ag) λa _ ha=>?_;subst ha;refine Py (λr=>HU (ZF T) at_ T.pk.length M.step.value (VR (ZF ct) (σ ct.name) (ZF T r)) r) ?_ (Wp.ret rfl);intro i r s next hm hi _ _ hk
 have h1:=hr r hm;refine Wp.bind (VP T r oM) λk _ ac=>Wp.bind (Wa (L.wP hC oM k)) λst _ hst=>?_;subst ac hst;have fin:∀v,v=Fz T.pk.length M.step.value (VR (ZF ct) (σ ct.name) (ZF T r))->Wp (Zp (0<=(at_:Int)/\(at_:Int)<=r.length/\r.length+1<=2097152/\(ZF T r).length+1<=2097152)
  (next (s.1++[r.take (at_:Int).toNat++[v]++r.drop (at_:Int).toNat],bif Vk v M.step.value then s.2++[ZF T r++[v]] else s.2))) _:=λv hv=>by
  refine Wp.chk ⟨oM,oM,oM,by rw[C2];omega⟩ ?_;subst hv;simp only[HU] at hk;rw[Xk];cases hv:Vk (Fz T.pk.length M.step.value (VR (ZF ct) (σ ct.name) (ZF T r))) M.step.value with
  |true=>rw[hv] at hk;exact hk
  |false=>rw[hv] at hk;simp only[cond_false,Option.toList_none,Ym] at hk;exact hk
 unfold HT FN;cases hl:VR (ZF ct) (σ ct.name) (ZF T r) with
 |none=>exact fin _ (by rw[hl];rfl)
 |some e=>?_
 have ad:ct∈M.cs.tables:=by rw[hC];simp
 have hlen:=((L.rc ct ad).row e (Hd hl).1).len;have he:(e.drop ct.pk.length)[0]?=some ((e[T.pk.length]?).getD DI):=by rw[YJ,hp,YY,Y1 oM];rfl
 exact Wp.qG (i:=0) he (fin _ (by rw[hl];rfl))
theorem Nj(L:LI M ρ σ){T:Tbl}{at_:Nat}{bb:Bool}(hT:T∈M.src.tables)(hn:T.name=M.step.table)(ac:W7 T M.step.column=some ((at_:Int),bb))(ae:at_<T.cols.length):
  AG M=some {M with out:=ZI M.step.table ((ρ T.name).map λr=>(HQ (ZF T) at_ M.step.value r).1) M.out,nc:=ZI M.step.table ((ρ T.name).filterMap λr=>(HQ (ZF T) at_ M.step.value r).2) M.nc}:=by
 obtain⟨ab,hr⟩:=L.rM hT;obtain⟨i,hf,hi⟩:=Bn L.a.ord.1 hT;have ad:=(L.a.tab T hT).pk6;refine Ax ?_;unfold AG;rw[<-hn];refine Wp.bind (Wa (L.tab hT)) λq _ hq=>Wp.bind (Wa hf) λf _ hf=>?_;subst hq hf;refine Wp.chk ⟨rfl,ab⟩ (Wp.bind (Wa ac) λa _ ha=>?_);subst ha;refine Py (HQ (ZF T) at_ M.step.value) ?_ (Wp.ret rfl);intro i r s next hm hi _ _ hk
 have h1:=hr r hm;have hg:r[at_]?=some (AY r at_):=by simp only[AY,Int.natCast_nonneg,if_true,Xk];rw[Y1 oM];rfl
 refine Wp.qG hg ?_;rw[Xk];simp only[HQ] at hk;refine Wp.cond (λhv=>Wp.bind (VP T r oM) λk _ aa=>Wp.chk ?_ ?_) λhv=>?_;rw[aa,C2];omega;subst aa;rw[hv] at hk;exact hk;rw[hv] at hk;simp only[cond_false,Option.toList_none,Ym] at hk;exact hk
end Go.Am
end
namespace Go.Am
section
def Uf(t:Tbl)(columns:List Col):Option Tbl:=
 Zc (λ(i5:Nat) (x5:Int) (s5:(List Col)×(List Int)) next_5=>Z7 t.cols x5 λx6=>Z1 (Bd (i5:Int)) λv8=>Zp (({data:=#[107]}:ByteArray).size+v8.size<=9223372036854775807) (W0 s5.1 [(Col.mk (({data:=#[107]}:ByteArray)++v8) x6.kind x6.nullable)] λ_=>W0 s5.2 [(i5:Int)] λ_=>next_5 ((s5.1++[(Col.mk (({data:=#[107]}:ByteArray)++v8) x6.kind x6.nullable)]),(s5.2++[(i5:Int)])))) (λ(s5:(List Col)×(List Int))=>W0 s5.1 columns λ_=>some (Tbl.mk t.name (s5.1++columns) s5.2)) t.pk 0 ([],[])
theorem Rz(t:Tbl)(columns:List Col)(r:Tbl)(hm:Is (Uf t columns) r):Zj prog 186 [.agg t.enc,.one (.d (.sl (columns.map Col.enc)))] (.agg (r.enc.map RC.d)):=by
 unfold Uf at hm;refine Zj.qN Tryz.func186 rfl (by kernel_rfl) (n:=48) rfl rfl (by simp) ?_
 try simp[*]
 intro hl4;replace hl4:t.pk.length<=2097152:=by simpa using hl4
 refine Z4.for (xs:=t.pk) (s0:=([],[])) (λi5 s5 e5 h5=>∃c5_0 c5_1:C,(e5.n=48/\e5.get 1=.one (.d (.sl (columns.map Col.enc)))/\e5.get 2=.one (.ptr (0,32) 0)/\e5.get 4=.one (.ptr (1,64) 0)/\e5.get 5=.one (.ptr (2,80) 0)/\e5.get 13=.one (.d (.sl (t.pk.map Zd)))/\e5.get 14=.one (.d (.int .i64 (t.pk.length:Int)))/\e5.get 15=.one (.d (.int .i64 (i5:Int)))/\h5.box (0,32)=some [.d (.str t.name),.d (.sl (t.cols.map Col.enc)),.d (.sl (t.pk.map Zd))]/\h5.box (1,64)=some [.d (.str empty),.nil,.nil]/\h5.box (2,80)=some [.d (.str t.name),c5_0,c5_1]/\Zi h5 3 c5_0 (s5.1.map Col.enc)/\Zi h5 1 c5_1 (s5.2.map Zd))/\Ws c5_0 c5_1) hm ⟨.nil,.nil,by simp(maxDischargeDepth:=20) [*],(by simp)⟩ ?_ ?_
 .rintro i5 s5 e5 h5 ⟨c5_0,c5_1,⟨hn5,h5_1,h5_2,h5_4,h5_5,h5_13,h5_14,h5_15,hb5_b1,hb5_b2,hb5_b3,gc5_0,gc5_1⟩,apc5_0_c5_1⟩ hlt5 hm;have hlc5_0:=gc5_0.list;have hdc5_0:=gc5_0.toD;have hac5_0:=gc5_0.toA;have huc5_0:=gc5_0.qH;have hlc5_1:=gc5_1.list;have hdc5_1:=gc5_1.toD;have hac5_1:=gc5_1.toA;have huc5_1:=gc5_1.qH;have hw5:IntKind.i64.wrap ((i5:Int)+1)=(i5:Int)+1:=Y5 _ (by omega)
  try simp[*]
  replace hm:=hm.get;obtain⟨x6,h0x6,hxx6,hm⟩:=hm
  try simp[*]
  refine VJ (av:=[.one (.d (.int .i64 (i5:Int)))]) hm (λv hv=>M6 _ v hv) (by simp[*]) ?_;clear hm;intro v8 hvv8 hm
  try simp[*]
  replace hm:=hm.chk;obtain⟨hw9,hm⟩:=hm;have hw92:=hw9
  try simp at hw92
  try simp[*]
  refine AW (xs:=s5.1) (ys:=[(Col.mk (({data:=#[107]}:ByteArray)++v8) x6.kind x6.nullable)]) (enc:=Col.enc) hm BZ (by first|exact Zi.nil|(simp(maxDischargeDepth:=20) [*];done)|(simp(maxDischargeDepth:=20) [*];refine⟨?_,by omega⟩;intro hq;subst hq;simp at hz2<;>omega)) (by simp[*]) (by decide) (by decide) (λ_=>rfl) ?_;clear hm;intro hl11 hm g10
  try simp[*]
  refine AW (xs:=s5.2) (ys:=[(i5:Int)]) (enc:=Zd) hm Bs (by first|exact Zi.nil|(simp(maxDischargeDepth:=20) [*];done)|(simp(maxDischargeDepth:=20) [*];refine⟨?_,by omega⟩;intro hq;subst hq;simp at hz2<;>omega)) (by simp[*]) (by decide) (by decide) (λ_=>rfl) ?_;clear hm;intro hl13 hm g12
  try simp[*]
  exact Ze.of ((s5.1++[(Col.mk (({data:=#[107]}:ByteArray)++v8) x6.kind x6.nullable)]),(s5.2++[(i5:Int)])) ⟨⟨.own (h5.ep+3,528) ((s5.1++[(Col.mk (({data:=#[107]}:ByteArray)++v8) x6.kind x6.nullable)]).map Col.enc),.own (h5.ep+5,624) ((s5.2++[(i5:Int)]).map Zd),by simp(maxDischargeDepth:=20) [*],(by simp)⟩,hm⟩
 .rintro s5 e5 h5 ⟨c5_0,c5_1,⟨hn5,h5_1,h5_2,h5_4,h5_5,h5_13,h5_14,h5_15,hb5_b1,hb5_b2,hb5_b3,gc5_0,gc5_1⟩,apc5_0_c5_1⟩ hm;have hlc5_0:=gc5_0.list;have hdc5_0:=gc5_0.toD;have hac5_0:=gc5_0.toA;have huc5_0:=gc5_0.qH;have hlc5_1:=gc5_1.list;have hdc5_1:=gc5_1.toD;have hac5_1:=gc5_1.toA;have huc5_1:=gc5_1.qH
  try simp[*]
  refine AW (xs:=s5.1) (ys:=columns) (enc:=Col.enc) hm BZ (by first|exact Zi.nil|(simp(maxDischargeDepth:=20) [*];done)|(simp(maxDischargeDepth:=20) [*];refine⟨?_,by omega⟩;intro hq;subst hq;simp at hz2<;>omega)) (by simp[*]) (by decide) (by decide) (λ_=>rfl) ?_;clear hm;intro hl15 hm g14
  try simp[*]
  obtain rfl:=Zh hm;exact V8 (vs:=[_]) (by simp[*];try exact rfl) (by simp[*])
instance Zbi(t:Tbl)(columns:List Col):Con (Uf t columns) prog 186 [.agg t.enc,.one (.d (.sl (columns.map Col.enc)))] (λr=>.agg (r.enc.map RC.d)):=⟨λr hm=>Rz t columns r hm⟩
def UM(c:Col)(name:ByteArray):Option Col:=
 some (Col.mk name c.kind c.nullable)
instance Zb7(c:Col)(name:ByteArray):Con (UM c name) prog 187 [.agg c.enc,.one (.d (.str name))] (λr=>.agg (r.enc.map RC.d)):=by unfold UM;exact go 8 Tryz.func187
def CB(columns:List Col):Option ((List Col)):=
 Zc (λ(i2:Nat) (x2:Col) (s2:(List Col)) next_2=>Z1 (Bd (i2:Int)) λv4=>Zp (({data:=#[98]}:ByteArray).size+v4.size<=9223372036854775807) (Z1 (UM x2 (({data:=#[98]}:ByteArray)++v4)) λv6=>W0 s2 [v6] λ_=>next_2 (s2++[v6]))) (λ(s2:(List Col))=>some s2) columns 0 []
instance Zb1(columns:List Col):Con (CB columns) prog 188 [.one (.d (.sl (columns.map Col.enc)))] (λr=>.one (.d (.sl (r.map Col.enc)))):=by
 unfold CB;have l1:LH (σ:=(List Col)) 8 [6,7] [.g 3 3 (λs=>s.map Col.enc)]:=.intro;have p1:PH [5] (Plan.qB [0,1,2,3,4,5,6,7,8] .done):=.intro;exact go 23 Tryz.func188
set_option maxHeartbeats 4000000
def Bb(s_:Sch)(target:Sch)(step:Stp):Option Tbl:=
 bif (step.kind==10) then Z1 (BS step.newTable) λv6=>(some v6) else Z1 (ZY s_ step.table) λv7=>Z7 s_.tables v7.1 λx8=>bif (step.kind==11) then Z1 (BS x8) λv11=>(some v11) else Z1 (ZY target step.table) λv12=>Z7 target.tables v12.1 λx13=>Zp (W9 ((x13.cols.length:Int)-1)) (Z7 x13.cols ((x13.cols.length:Int)-1) λx16=>Z1 (W7 x8 step.column) λv18=>bif (step.kind==1) then Z1 (UM x16 ({data:=#[111,108,100]})) λv20=>(Z1 (Uf x8 [v20]) λv21=>some v21) else bif (step.kind==2) then Z7 x8.cols v18.1 λx23=>(Z1 (UM x23 ({data:=#[111,108,100]})) λv24=>Z1 (Uf x8 [v24]) λv25=>some v25) else bif (step.kind==5) then Z7 x8.cols v18.1 λx27=>(Z7 x13.cols v18.1 λx28=>Z1 (UM x27 ({data:=#[111,108,100]})) λv29=>Z1 (UM x28 ({data:=#[110,101,119]})) λv30=>Z1 (Uf x8 [v29,v30]) λv31=>some v31) else bif (step.kind==12) then Z7 step.cols 0 λx33=>(Z7 x8.cols x33 λx34=>Z7 step.cols 1 λx35=>Z7 x8.cols x35 λx36=>Z1 (UM x34 ({data:=#[111,108,100,48]})) λv37=>Z1 (UM x36 ({data:=#[111,108,100,49]})) λv38=>Z1 (UM x16 ({data:=#[110,101,119]})) λv39=>Z1 (Uf x8 [v37,v38,v39]) λv40=>some v40) else bif (step.kind==8) then Z1 (Uf x8 [(Col.mk ({data:=#[111,116,104,101,114]}) 2 false)]) λv42=>(some v42) else bif (step.kind==7) then Zp (0<=(x8.cols.length:Int)/\(x8.cols.length:Int)<=(x13.cols.length:Int)/\(x13.cols.length:Int)<=(x13.cols.length:Int)) (Z1 (CB ((x13.cols.take x13.cols.length).drop x8.cols.length)) λv46=>Z1 (Uf x8 v46) λv47=>some v47) else Zc (λ(i49:Nat) (x49:Col) (s49:(List Col)) next_49=>Z1 (Ue step.cols (i49:Int)) λv51=>bif v51 then W0 s49 [x49] λ_=>(next_49 (s49++[x49])) else next_49 s49) (λ(s49:(List Col))=>Z1 (CB s49) λv55=>Z1 (Uf x8 v55) λv56=>some v56) x8.cols 0 [])
instance Zbn(s_:Sch)(target:Sch)(step:Stp):Con (Bb s_ target step) prog 160 [.agg s_.enc,.agg target.enc,.agg step.enc] (λr=>.agg (r.enc.map RC.d)):=by
 unfold Bb;have l1:LH (σ:=(List Col)) 148 [5,6,9,146,147] [.g 16 3 (λs=>s.map Col.enc)]:=.intro;have p1:PH [13] (Plan.qB [0,1,2,3,4,5] .done):=.intro;have p2:PH [15] (Plan.qB [0,1,2,3,4,5,6,7,8,9] .done):=.intro;have p3:PH [17] (Plan.qB [0,1,2,3,4,5,7,8,9,10,6,11,12,13,14] .done):=.intro;have p4:PH [19] (Plan.qB [0,1,2,3,4,5,6,7,8,10,11,12,13,14,15,16,17,19,9,18,20,21,22,23] .done):=.intro;have p5:PH [23] (Plan.qB [0,1,2,3,4,5,6,7,8] .done):=.intro;have p6:PH [31] (Plan.qB [0,1,2,3,4] .done):=.intro;exact go 166 Tryz.func160
def Ec(s_:Sch)(step:Stp):Option (Sch×Int):=
 Z1 (Uh s_ step) λv4=>bif (v4.2 !=0) then some ((Sch.mk [] [] []),v4.2) else bif (step.kind==13) then Z1 (VW s_) λv8=>(some ((Sch.mk v8.tables [] []),0)) else bif (step.kind==14) then Z1 (VW s_) λv10=>(some ((Sch.mk v10.tables [] []),0)) else bif (step.kind==15) then Z1 (VW s_) λv12=>(some ((Sch.mk v12.tables [] []),0)) else bif (step.kind==16) then Z1 (VW s_) λv14=>(some ((Sch.mk v14.tables [] []),0)) else bif (step.kind==3) then some ((Sch.mk [] [] []),0) else bif (step.kind==4) then some ((Sch.mk [] [] []),0) else bif (step.kind==9) then some ((Sch.mk [] [] []),0) else Z1 (Bb s_ v4.1 step) λv18=>some ((Sch.mk [v18] [] []),0)
instance Rs(s_:Sch)(step:Stp):Con (Ec s_ step) prog 141 [.agg s_.enc,.agg step.enc] (λr=>.tup [.agg (r.1.enc.map RC.d),.one (.d (.int .i64 r.2))]):=by unfold Ec;exact go 40 Tryz.func141
def Be(s_:Sch)(step:Stp):Option (Sch×Sch×Int):=
 Z1 (Uh s_ step) λv5=>bif (v5.2 !=0) then some ((Sch.mk [] [] []),(Sch.mk [] [] []),v5.2) else Z1 (Ec s_ step) λv8=>some (v5.1,v8.1,v8.2)
theorem IS(s_:Sch)(step:Stp)(r:Sch×Sch×Int)(hm:Is (Be s_ step) r):Zj prog 128 [.agg s_.enc,.agg step.enc] (.tup [.agg (r.1.enc.map RC.d),.agg (r.2.1.enc.map RC.d),.one (.d (.int .i64 r.2.2))]):=by
 unfold Be at hm;refine Zj.qN Tryz.func128 rfl (by kernel_rfl) (n:=30) rfl rfl (by simp) ?_
 try simp[*]
 refine VJ (av:=[.agg s_.enc,.agg step.enc]) hm (λv hv=>LL _ _ v hv) (by simp[*]) ?_;clear hm;intro v5 hvv5 hm
 try simp[*]
 refine Zy hm ?_ ?_<;>clear hm<;>intro hc7 hm
 .try simp[*]
  obtain rfl:=Zh hm;exact V8 (vs:=[_,_,_]) (by simp[*];try exact⟨rfl,rfl,rfl⟩) (by simp[*])
 .try simp[*]
  refine VJ (av:=[.agg s_.enc,.agg step.enc]) hm (λv hv=>Rs _ _ v hv) (by simp[*]) ?_;clear hm;intro v8 hvv8 hm
  try simp[*]
  refine Z4.cut (Plan.qB [0,2] (.two 1 3 (Plan.qB [3,4,5] .done) (Plan.qB [1,4,5] .done))) follows (by kernel_rfl) (λe10 h10=>e10.n=30/\e10.get 4=.one (.ptr (2,64) 0)/\e10.get 5=.one (.ptr (3,80) 0)/\e10.get 6=.one (.d (.int .i64 v8.2))/\h10.box (2,64)=some [.d (.sl (v5.1.tables.map Tbl.enc)),.d (.sl (v5.1.fks.map Fk.enc)),.d (.sl (v5.1.cons.map Cons.enc))]/\h10.box (3,80)=some [.d (.sl (v8.1.tables.map Tbl.enc)),.d (.sl (v8.1.fks.map Fk.enc)),.d (.sl (v8.1.cons.map Cons.enc))]) ?_ ?_
  .try simp[*]
   repeat' (first|with_reducible refine And.intro ?_ ?_|(refine Zb.of ?_;simp[*];done))
  .rintro e10 h10 ⟨hn10,h10_4,h10_5,h10_6,hb10_b3,hb10_b4⟩
   try simp[*]
   obtain rfl:=Zh hm;exact V8 (vs:=[_,_,_]) (by simp[*];try exact⟨rfl,rfl,rfl⟩) (by simp[*])
instance Zcb(s_:Sch)(step:Stp):Con (Be s_ step) prog 128 [.agg s_.enc,.agg step.enc] (λr=>.tup [.agg (r.1.enc.map RC.d),.agg (r.2.1.enc.map RC.d),.one (.d (.int .i64 r.2.2))]):=⟨λr hm=>IS s_ step r hm⟩
theorem Z56:∀i:Fin 100,(Lib.itoa (i.val:Int)).length<=1000:=by decide+kernel
theorem P8(i:Nat)(h:i<100):Wp (Bd (i:Int)) λv=>v.size<=1000:=by
 unfold Bd;refine Wp.chk (by simp only[W9];omega) (Wp.ret ?_)
 have:=Z56 ⟨i,h⟩
 simpa[ByteArray.size] using this
def kn(c:Col):Int×Bool:=(c.kind,c.nullable)
structure CT(T:Tbl)(ks:List (Int×Bool))(ct:Tbl):Prop where
 name:ct.name=T.name
 pk:ct.pk=W3 T.pk.length
 cols:ct.cols.map kn=T.pk.map (λp=>kn (Wo T p))++ks
theorem Nh(n:Nat):W3 (n+1)=W3 n++[(n:Int)]:=by simp[W3,List.range_succ]
theorem F4(n:Nat):(W3 n).length=n:=by simp[W3]
theorem Bv{T:Tbl}{c:Int}{x:Col}(h0:0<=c)(hx:T.cols[c.toNat]?=some x):Wo T c=x:=by simp[Wo,hx]
theorem CT.lens{T ct:Tbl}{ks:List (Int×Bool)}(h:CT T ks ct):ct.pk.length=T.pk.length/\ct.cols.length=T.pk.length+ks.length:=by
 refine⟨by rw[h.pk,F4],?_⟩
 have:=congrArg List.length h.cols
 simpa using this
theorem Z5n{T:Tbl}(hT:VT T)(hp:T.pk.length<=6)(cols:List Col)(hc:cols.length<=50):Wp (Uf T cols) λr=>CT T (cols.map kn) r:=by
 have hL:=Vh;unfold Uf;refine Wp.for (λi (s:List Col×List Int)=>s.1.map kn=(T.pk.take i).map (λp=>kn (Wo T p))/\s.2=W3 i/\s.1.length=i) ⟨rfl,rfl,rfl⟩ ?_ ?_
 .intro i x s next hx hm hs hn
  obtain⟨hi,he⟩:=Y0.1 hx;have hr:=hT.pk x hm;refine Wp.get hr.1 hr.2 λc aa _=>Wp.bind (P8 i oM) λv _ hv=>Wp.chk ?_ (Wp.app (by rw[hs.2.2];simp;omega) (Wp.app (by rw[hs.2.1,F4];simp;omega) (hn _ ⟨?_,?_,?_⟩)))
  have:(({data:=#[107]}:ByteArray).size:Nat)=1:=rfl
  omega;simp only;rw[Yl hi,he,YP,YP,hs.1,Yb,Yd,Yb,Yd,Bv hr.1 aa];rfl;simp only;rw[hs.2.1,Nh];simp[hs.2.2]
 intro s hs;refine Wp.app oM (Wp.ret ⟨rfl,hs.2.1,?_⟩);simp only[YP];rw[hs.1,Yp]
theorem MG(cols:List Col)(hc:cols.length<=50):Wp (CB cols) λr=>r.map kn=cols.map kn:=by
 have hL:=Vh;unfold CB;refine Wp.for (λi (s:List Col)=>s.map kn=(cols.take i).map kn/\s.length=i) ⟨rfl,rfl⟩ ?_ λs hs=>Wp.ret (by rw[hs.1,Yp]);intro i x s next hx hm hs hn
 obtain⟨hi,he⟩:=Y0.1 hx;refine Wp.bind (P8 i oM) λv _ hv=>Wp.chk ?_ (Wp.bind (R:=λc=>kn c=kn x) (Wp.ret rfl) λc _ hc=>Wp.app (by rw[hs.2];simp;omega) (hn _ ⟨?_,by simp[hs.2]⟩))
 have:(({data:=#[98]}:ByteArray).size:Nat)=1:=rfl
 omega;rw[YP,hs.1,Yl hi,he,YP,Yb,Yd,hc];rfl
theorem GU{i:Nat}:∀{cs:List Int},cs.Pairwise (·<·)->((i:Int)∈cs->cs.filter (λv=>decide (v<(i:Int)+1))=cs.filter (λv=>decide (v<(i:Int)))++[(i:Int)])/\((i:Int)∉cs->cs.filter (λv=>decide (v<(i:Int)+1))=cs.filter (λv=>decide (v<(i:Int))))
 |[],_=>⟨λh=>by simp at h,λ_=>rfl⟩
 |c::cs,h=>by
   obtain⟨h1,h2⟩:=Xi.1 h;obtain⟨h3,h4⟩:=GU (i:=i) h2;have aa:∀(b:Int),b<=c+1->cs.filter (λv=>decide (v<b))=[]:=λb hb=>List.filter_eq_nil_iff.2 λv hv=>by have:=h1 v hv;simp;omega
   refine⟨λhm=>?_,λhm=>?_⟩;rcases Y9.1 hm with he|hm;subst he;rw[Xz,Xz,if_pos sO,if_neg sI,aa _ oM,aa _ oM];rfl
   have:=h1 _ hm
   rw[Xz,Xz,if_pos sO,if_pos (by simpa using this),h3 hm];rfl;have hc:(i:Int)≠c:=λe=>hm (by simp[e]);rw[Xz,Xz,h4 λh9=>hm (by simp[h9])];by_cases h9:c<(i:Int);rw[if_pos sO,if_pos (by simpa using h9)];rw[if_neg sO,if_neg (by simpa using h9)]
theorem HD{cs:List Int}(h:∀(i:Nat) (a b:Int),cs[i]?=some a->cs[i+1]?=some b->a<b):cs.Pairwise (·<·):=by
 have key:∀(n i:Nat) (a b:Int),cs[i]?=some a->cs[i+1+n]?=some b->a<b:=by
  intro n
  induction n with
  |zero=>intro i a b ha hb;exact h i a b ha hb
  |succ n ih=>?_
  intro i a b ha hb;have hl:=(Y0.1 hb).1;have hc:cs[i+1+n]?=some cs[i+1+n]:=Y1 oM;have h1:=ih i a _ ha hc;have h2:=h (i+1+n) _ b hc hb;omega
 refine YV.2 λi j hi hj hij=>?_;refine key (j-(i+1)) i _ _ (Y1 hi) ?_;rw[show i+1+(j-(i+1))=j by omega];exact Y1 hj
structure Two(S S':Sch)(x:Stp)(T T':Tbl):Prop where
 s:T∈S.tables
 s':T'∈S'.tables
 n:T.name=x.table
 n':T'.name=x.table
def KP(T:Tbl):Col:=Wo T (T.cols.length-1)
def I6(x:Stp)(T T':Tbl)(ks:List (Int×Bool)):Prop:=
 (x.kind=1->ks=[kn (KP T')])/\(x.kind=2->∃c,W7 T x.column=some (c,true)/\0<=c/\c<T.cols.length/\ks=[kn (Wo T c)])/\
 (x.kind=5->∃c,W7 T x.column=some (c,true)/\0<=c/\c<T.cols.length/\c<T'.cols.length/\ks=[kn (Wo T c),kn (Wo T' c)])/\
 (x.kind=12->∃a b,x.cols=[a,b]/\0<=a/\a<T.cols.length/\0<=b/\b<T.cols.length/\ks=[kn (Wo T a),kn (Wo T b),kn (KP T')])/\
 (x.kind=8->ks=[(2,false)])/\(x.kind=7->ks=(T'.cols.drop T.cols.length).map kn)/\(x.kind=6->ks=x.cols.map λc=>kn (Wo T c))
theorem Z5l{S S':Sch}{x:Stp}(hS:VS S)(ae:VS S')(hk:x.kind=1\/x.kind=2\/5<=x.kind/\x.kind<=8\/x.kind=12){T T':Tbl}(t:Two S S' x T T')
  (h2:x.kind=2\/x.kind=5->∃c,W7 T x.column=some (c,true)/\0<=c/\c<T.cols.length/\(x.kind=5->c<T'.cols.length))
  (ab:x.kind=12->∃a b,x.cols=[a,b]/\0<=a/\a<T.cols.length/\0<=b/\b<T.cols.length)(h7:x.kind=7->T.cols.length<=T'.cols.length)(h6:x.kind=6->SplitOK T x.cols):
  Wp (Bb S S' x) λr=>∃ks,CT T ks r/\I6 x T T' ks:=by
 have hL:=Vh;have hV:=hS.tab T t.s;have ag:=ae.tab T' t.s';have au:=ag.cols6;have c0:=ag.cols0;have c6:=hV.cols6;obtain⟨i,hf,hi⟩:=Bn hS.ord.1 t.s;obtain⟨i',ac,aq⟩:=Bn ae.ord.1 t.s';rw[t.n] at hf;rw[t.n'] at ac;unfold Bb;refine Wp.cond (λh=>by clear h2 ab h7 h6;simp at h;omega) λ_=>Wp.bind (Wa hf) λf _ hf=>?_;subst hf;refine Wp.qG hi (Wp.cond (λh=>by clear h2 ab h7 h6;simp at h;omega) λ_=>Wp.bind (Wa ac) λf' _ ac=>?_);subst ac;refine Wp.qG aq (Wp.chk (by simp only[W9];omega) (Wp.get oM oM λam aj _=>Wp.bind (R:=λv=>W7 T x.column=some v) ?_ λaw _ hv=>?_));obtain⟨r,hr,_⟩:=US T x.column;exact⟨r,hr,hr⟩;have af:am=KP T':=(Bv oM aj).symm;have rn:∀(c:Col) (n:ByteArray),Wp (UM c n) λr=>kn r=kn c:=λ_ _=>Wp.ret rfl;have fin:∀(cols:List Col),cols.length<=50->I6 x T T' (cols.map kn)->Wp (Z1 (Uf T cols) λv=>some v) λr=>∃ks,CT T ks r/\I6 x T T' ks:=λcols h hk=>Wp.bind (Z5n hV hV.pk6 cols h) λr _ hr=>Wp.ret ⟨_,hr,hk⟩;refine Wp.cond (λh=>Wp.bind (rn _ _) λa _ ha=>fin _ sI ?_) λh1=>?_;have h:x.kind=1:=by simpa using h
 exact⟨λ_=>by simp[ha,af],oM,oM,oM,oM,oM,oM⟩;refine Wp.cond (λh=>?_) λal=>?_;have h:x.kind=2:=by simpa using h
 obtain⟨c,hc,c0,c1,-⟩:=h2 (.inl h);rw[hv] at hc;cases hc;exact Wp.get c0 c1 λy hy _=>Wp.bind (rn _ _) λa _ ha=>fin _ sI ⟨oM,λ_=>⟨c,hv,c0,c1,by simp[ha,Bv c0 hy]⟩,oM,oM,oM,oM,oM⟩;refine Wp.cond (λh=>?_) λak=>?_;have h:x.kind=5:=by simpa using h
 obtain⟨c,hc,c0,c1,c2⟩:=h2 (.inr h);rw[hv] at hc;cases hc;exact Wp.get c0 c1 λy hy _=>Wp.get c0 (c2 h) λz hz _=>Wp.bind (rn _ _) λa _ ha=>Wp.bind (rn _ _) λb _ hb=>fin _ sI ⟨oM,oM,λ_=>⟨c,hv,c0,c1,c2 h,by simp[ha,hb,Bv c0 hy,Bv c0 hz]⟩,oM,oM,oM,oM⟩;refine Wp.cond (λh=>?_) λah=>?_;have h:x.kind=12:=by simpa using h
 obtain⟨a,b,hx,a0,a1,b0,b1⟩:=ab h;rw[hx];refine Wp.qG (i:=0) rfl (Wp.get a0 a1 λy hy _=>Wp.qG (i:=1) rfl (Wp.get b0 b1 λz hz _=>Wp.bind (rn _ _) λa' _ ha=>Wp.bind (rn _ _) λb' _ hb=>Wp.bind (rn _ _) λc' _ hc=>fin _ sI ⟨oM,oM,oM,λ_=>⟨a,b,hx,a0,a1,b0,b1,by simp[ha,hb,hc,af,Bv a0 hy,Bv b0 hz]⟩,oM,oM,oM⟩));refine Wp.cond (λh=>?_) λh8=>?_;have h:x.kind=8:=by simpa using h
 exact fin _ sI ⟨oM,oM,oM,oM,λ_=>rfl,oM,oM⟩;refine Wp.cond (λh=>?_) λap=>?_;have h:x.kind=7:=by simpa using h
 have:=h7 h
 refine Wp.chk oM (Wp.bind (MG _ sO) λns _ hn=>fin _ ?_ ?_)
 have:=congrArg List.length hn
 simp at this;omega;rw[hn,Yp];exact⟨oM,oM,oM,oM,oM,λ_=>rfl,oM⟩;have ar:x.kind=6:=by clear h2 ab h7 h6;simp at h1 al ak ah h8 ap;omega
 have hs:=h6 ar;have ad:=HD hs.asc;refine Wp.for (λi (s:List Col)=>s=(x.cols.filter λv=>decide (v<(i:Int))).map (Wo T)) ?_ ?_ ?_;rw[List.filter_eq_nil_iff.2 λv hv=>by have:=(hs.rng v hv).1;simp;omega];rfl
 .intro i c s next hx hm hI hn
  obtain⟨hi,he⟩:=Y0.1 hx;have hcf:Wo T (i:Int)=c:=Bv oM (by simpa using hx);have hlen:s.length<=x.cols.length:=by rw[hI,Yh];exact XC _ _
  have hxl:x.cols.length<=6:=by
   have h9:x.cols.Nodup:=ad.imp λh=>oM;have h8:x.cols.length<=(W3 T.cols.length).length:=List.Nodup.length_le_of_subset h9 λv hv=>by
    have:=hs.rng v hv
    simp only[W3,Yi,XR];exact⟨v.toNat,oM,oM⟩
   rw[F4] at h8;omega
  refine Wp.bind (AP x.cols (i:Int)) λb _ hb=>Wp.cond (λh=>Wp.app sO (hn _ ?_)) λh=>hn _ ?_;have aa:(i:Int)∈x.cols:=hb.1 h;rw[show((i+1:Nat):Int)=(i:Int)+1 by omega,(GU ad).1 aa,hI,YP,Yb,Yd,hcf];have aa:(i:Int)∉x.cols:=λh9=>by rw[hb.2 h9] at h;cases h
  rw[show((i+1:Nat):Int)=(i:Int)+1 by omega,(GU ad).2 aa,hI]
 rintro s rfl;have hall:(x.cols.filter λv=>decide (v<(T.cols.length:Int)))=x.cols:=List.filter_eq_self.2 λv hv=>by have:=(hs.rng v hv).2;simpa using this
 rw[hall];have hxl:x.cols.length<=6:=by
  have h9:x.cols.Nodup:=ad.imp λh=>oM;have h8:x.cols.length<=(W3 T.cols.length).length:=List.Nodup.length_le_of_subset h9 λv hv=>by
   have:=hs.rng v hv
   simp only[W3,Yi,XR];exact⟨v.toNat,oM,oM⟩
  rw[F4] at h8;omega
 refine Wp.bind (MG _ sO) λns _ hn=>fin _ ?_ ?_
 have:=congrArg List.length hn
 simp at this;omega;rw[hn,Xe];exact⟨oM,oM,oM,oM,oM,oM,λ_=>rfl⟩
theorem Fu{v:GV}(h:WD v=some 0):0<=v.kind/\v.kind<=3/\-1000000000000<=v.int/\v.int<=1000000000000/\v.text.size<=24/\(v.kind=2->v.int=0\/v.int=1):=by
 have he:strEq v.text empty=true->v.text.size<=24:=λh=>by rw[Wf.1 h];decide
 unfold WD at h;simp only[cond_eq_ite] at h
 repeat' split at h
 all_goals first
  |(exfalso;simp at h;done)
  | (simp at*
     try simp_all
     try omega)
theorem Na(v:GV)(k:Int):Wp (CZ v k) λ_=>True:=by
 unfold CZ;refine Wp.bind (R:=λe=>WD v=some e) (by obtain⟨r,hr,_⟩:=CV v;exact⟨r,hr,hr⟩) λe _ he=>Wp.cond (λ_=>Wp.ret trivial) λh=>?_;obtain rfl:e=0:=by simpa using h
 obtain⟨-,-,h1,h2,h3,-⟩:=Fu he;have hi:Wp (Bd v.int) λ_=>True:=Wp.chk (by simp only[W9];omega) (Wp.ret trivial);have hb:∀b,Wp (Gp b) λ_=>True:=λb=>by cases b<;>exact⟨_,rfl,trivial⟩
 have hp:Wp (Gx v.text) λ_=>True:=Wp.chk oM (Wp.ret trivial);have hq:Wp (Ej v.text) λ_=>True:=by
  unfold Ej
  repeat' first|exact Wp.ret trivial|refine Wp.cond (λ_=>?_) λ_=>?_
 repeat' first|exact Wp.ret trivial|refine Wp.cond (λ_=>?_) λ_=>?_|refine Wp.bind hi λ_ _ _=>?_|refine Wp.bind (hb _) λ_ _ _=>?_|refine Wp.bind hp λ_ _ _=>?_|refine Wp.bind hq λ_ _ _=>?_
theorem Hq(k:Int)(b:Bool):Wp (Ah k b) λ_=>True:=by
 unfold Ah
 repeat' first|exact Wp.ret trivial|refine Wp.cond (λ_=>?_) λ_=>?_
theorem Z8b{v:GV}(h:WD v=some 0)(a b:Bool):Wp (EM v a b) λr=>r.1.length=2:=by
 obtain⟨-,-,-,-,h3,-⟩:=Fu h;have hc:Wp (GG v.text ({data:=#[32]})) λ_=>True:=Wp.chk oM (Wp.ret trivial);unfold EM
 repeat' first|exact Wp.ret rfl|refine Wp.cond (λ_=>?_) λ_=>?_|refine Wp.bind (Hq _ _) λ_ _ _=>?_|refine Wp.bind hc λ_ _ _=>?_
theorem Z3h{x y:GV}(hx:WD x=some 0)(hy:WD y=some 0)(n:Bool):Wp (Ey [x,y] n) λr=>r.1.length=1:=by
 obtain⟨-,-,-,-,h3,-⟩:=Fu hx;obtain⟨-,-,-,-,h4,-⟩:=Fu hy;have h1:(({data:=#[32]}:ByteArray).size:Nat)=1:=rfl;unfold Ey;refine Wp.qG (i:=0) rfl (Wp.qG (i:=1) rfl (Wp.cond (λ_=>Wp.ret rfl) λ_=>Wp.chk ⟨oM,?_⟩ (Wp.bind (R:=λ_=>True) (Wp.chk oM (Wp.ret trivial)) λ_ _ _=>Wp.ret rfl)));rw[ByteArray.size_append];omega
theorem EW(a b:List GV):Wp (AJ a b) λr=>r=true↔a=b:=by
 unfold AJ;refine Wp.cond (λh=>Wp.ret ?_) λh=>?_
 have:a.length≠b.length:=by simp at h;omega
 simp only[YH,false_iff];exact λh9=>this (by rw[h9]);have hl:a.length=b.length:=by simp at h;omega
 refine Wp.for (λi _=>a.take i=b.take i) rfl ?_ λs hI=>Wp.ret ?_
 .intro i x s next hx hm hI hn
  obtain⟨hi,he⟩:=Y0.1 hx;have hb:b[i]?=some b[i]:=Y1 oM;refine Wp.qG hb (Wp.cond (λh=>Wp.ret ?_) λh=>hn () ?_);simp only[YH,false_iff];intro h9;have h8:x=b[i]:=by rw[<-he];simp[h9]
  exact Z5r.1 (show Vk x b[i]=true from h) h8;rw[Yl hi,Yl (oM:i<b.length),hI,he,Px h]
 rw[Yp,hl,Yp] at hI;simp[hI]
theorem Nb{a b:List GV}(h:a.length+b.length<=2097152):Wp (DZ [a,b]) λr=>r=a++b:=Wp.chk (by simpa using h) (Wp.ret sI)
theorem GW(b:Bool):Wp (BX b) λ_=>True:=by cases b<;>exact⟨_,rfl,trivial⟩
def VV(l:List Int)(i:Nat):Nat:=(l.filter λv=>decide (v<(i:Int))).length
theorem Hf{l:List Int}(h:l.Pairwise (·<·))(i:Nat):((i:Int)∈l->VV l (i+1)=VV l i+1)/\((i:Int)∉l->VV l (i+1)=VV l i):=by
 have h1:=GU (i:=i) h;unfold VV;rw[show((i+1:Nat):Int)=(i:Int)+1 by omega];exact⟨λhm=>by rw[h1.1 hm];simp,λhm=>by rw[h1.2 hm]⟩
theorem Kb{l:List Int}(h:∀v∈l,0<=v):VV l 0=0:=by
 unfold VV;rw[List.filter_eq_nil_iff.2 λv hv=>by have:=h v hv;simp;omega];rfl
theorem Kx{l:List Int}{w:Nat}(h:∀v∈l,v<(w:Int)):VV l w=l.length:=by
 unfold VV;rw[List.filter_eq_self.2 λv hv=>by have:=h v hv;simpa using this]
theorem Po{l:List Int}(h:l.Pairwise (·<·))(i:Nat):∀k,VV l (i+k)<=VV l i+k
 |0=>Y7 _
 |k+1=>by
   have h1:=Po h i k;have h2:=Hf h (i+k);by_cases hm:((i+k:Nat):Int)∈l
   have:=h2.1 hm
   rw[show i+(k+1)=i+k+1 by omega];omega
   have:=h2.2 hm
   rw[show i+(k+1)=i+k+1 by omega];omega
theorem Z85{l:List Int}{i:Nat}:VV l i<=l.length:=XC _ _
theorem N9{row vals:List GV}{rm ins:List Int}{w:Nat}(af:rm.Pairwise (·<·))(ad:∀v∈rm,0<=v/\v<(row.length:Int))(ac:ins.Pairwise (·<·))(ab:∀v∈ins,0<=v/\v<(w:Int))(hv:ins.length<=vals.length)
  (hw:w+rm.length<=row.length+ins.length)(hr:row.length<=100)(ah:w<=100):Wp (Bg row rm ins vals (w:Int)) λr=>r.length=w:=by
 have hL:=Vh;unfold Bg;refine Wp.for (λi (s:List GV)=>s.length+VV rm i=i) (by rw[Kb λv hv=>(ad v hv).1];rfl) ?_ ?_
 .intro i x s next hx hm hI hn
  have hi:=(Y0.1 hx).1;have hc:=Hf af i;refine Wp.bind (AP rm (i:Int)) λb _ hb=>Wp.cond (λh=>Wp.app sO (hn _ ?_)) λh=>hn _ ?_
  have:(i:Int)∉rm:=λh9=>by rw[hb.2 h9] at h;cases h
  rw[hc.2 this,Ye,XM];omega
  have:(i:Int)∈rm:=hb.1 (by simpa using h)
  rw[hc.1 this];omega
 intro s hs;rw[Kx λv hv=>(ad v hv).2] at hs;rw[show(w:Int).toNat=w by omega];refine Wp.count (λi (q:List GV×List GV)=>q.1.length=i/\q.2.length+i=s.length+VV ins i) ⟨rfl,by rw[Kb λv hv=>(ab v hv).1]⟩ ?_ λq hq=>Wp.ret hq.1;intro i q next hi hI hn
 have hc:=Hf ac i;have ag:=Z85 (l:=ins) (i:=i);refine Wp.bind (IV ins (i:Int)) λv _ ae=>Wp.cond (λh=>?_) λh=>?_;have h0:0<=v:=by simpa using h
 have hlt:v<ins.length:=oM;have aa:(i:Int)∈ins:=by rcases ae with h9|h9;omega;exact h9.2.2
 refine Wp.get h0 oM λy _ _=>Wp.app sO (Wp.chk (by simp only[W9];omega) (hn _ ⟨by simp[hI.1],?_⟩));rw[hc.1 aa]
 have:=hI.2
 show q.2.length+(i+1)=_;omega;have h0:¬0<=v:=by simpa using h
 have aa:(i:Int)∉ins:=by rcases ae with h9|h9;exact h9.2;omega
 have h1:=hc.2 aa;have h2:=Po ac (i+1) (w-(i+1));rw[show i+1+(w-(i+1))=w by omega,Kx λv hv=>(ab v hv).2] at h2;have h3:=hI.2;refine Wp.get oM oM λy _ _=>Wp.app sO (Wp.chk ⟨oM,oM,oM⟩ (Wp.chk (by simp only[W9];omega) (hn _ ⟨by simp[hI.1],?_⟩)));rw[h1,YZ,YE];omega
theorem GX(T:Tbl)(rows:List (List GV))(row:List GV)(hT:T.pk.length<=6)(hl:rows.length<=1000)(ha:Wh T rows):Wp (UP T rows row) λout=>Wh T out/\out.length<=rows.length+1/\∃a b os,Mid T rows (ZF T row) a b os/\out=a++row::b:=by
 unfold UP;refine Wp.bind (Bc rows oM) λo _ ho=>?_;subst ho;refine Wp.bind (VP T row oM) λk _ hk=>?_;subst hk;have fin:∀{a b os:List (List GV)} {out:List (List GV)},Mid T o (ZF T row) a b os->out=a++row::b->Wh T out/\out.length<=o.length+1/\∃a b os,Mid T o (ZF T row) a b os/\out=a++row::b:=λh e=>by
  subst e;refine⟨h.put ha rfl,?_,_,_,_,h,rfl⟩
  have:=congrArg List.length h.eq
  simp at this|-;omega
 refine Wp.bind (Bx T o _ hT) λq _ hq=>?_;obtain⟨i,hi,ab,aa,ht,hf⟩:=hq;rw[hi];refine Wp.cond (λh=>?_) λh=>?_;obtain⟨x,hx,hz⟩:=ht h;have hlt:=(Y0.1 hx).1;refine Wp.chk ⟨oM,oM⟩ (Wp.ret (fin (Jq ha aa hx hz) ?_));rw[Xk,Xc,if_pos hlt];refine Wp.chk ⟨oM,oM,oM⟩ (Wp.ret (fin (JX ha aa (hf h)) ?_));simp
end
end Go.Am
section
namespace Go.Am
def Wl(M:Mp)(m:Option Mp):Prop:=Wp m λM1=>M1.out.length=M.out.length/\M1.nc.length=M.nc.length
theorem Wl.ret{M M1}(h1:M1.out.length=M.out.length)(h2:M1.nc.length=M.nc.length):Wl M (some M1):=Wp.ret ⟨h1,h2⟩
variable{M:Mp}{ρ σ:RN}
theorem LI.wJ(L:LI M ρ σ){ct}(hC:M.cs.tables=[ct])(hp:ct.pk.length<=ct.cols.length)(key):Wp (A8 M key) λst=>st.2=true->st.1.length=ct.cols.length-ct.pk.length:=by
 refine(Wa (L.wP hC hp key)).mono λst _ hst h=>?_;subst hst;unfold FN at h|-;cases hl:VR (ZF ct) (σ ct.name) key with
 |none=>rw[hl] at h;cases h
 |some e=>?_
 have aa:ct∈M.cs.tables:=by rw[hC];simp
 have:=((L.rc ct aa).row e (Hd hl).1).len
 simp[this]
theorem MT{T}{c:Int}{bb}(hc:W7 T M.step.column=some (c,bb))(h0:0<=c){row}(h:c<row.length):Wp (Cw M T row) λ_=>True:=by
 unfold Cw;refine Wp.bind (Wa hc) λq _ hq=>?_;subst hq;exact Wp.get h0 h λx _ _=>Wp.bind (ED _ _ _) λ_ _ _=>Wp.ret trivial
theorem LI.row(L:LI M ρ σ){T}(hT:T∈M.src.tables):(ρ T.name).length<=24/\T.pk.length<=6/\T.cols.length<=6/\Wh T (ρ T.name)/\∀r∈ρ T.name,r.length=T.cols.length:=
 ⟨(L.ri T hT).l24,(L.a.tab T hT).pk6,(L.a.tab T hT).cols6,(L.ri T hT).asc,λr hr=>((L.ri T hT).row r hr).len⟩
theorem UW(L:LI M ρ σ){T}(hT:T∈M.src.tables){t}(hn:T.name=t):Wp (Vd M t) λq=>q=(T,ρ T.name):=by subst hn;exact Wa (L.input hT)
theorem DC(L:LI M ρ σ){T}(hT:T∈M.dst.tables){t}(hn:T.name=t):Wp (UL M t) λq=>q=T:=by subst hn;exact Wa (L.out hT)
theorem Tv(L:LI M ρ σ){T ct:Tbl}{c:Int}{bb:Bool}(hT:T∈M.src.tables)(hn:T.name=M.step.table)(hc:W7 T M.step.column=some (c,bb))(h0:0<=c)(h1:c<T.cols.length)(hC:M.cs.tables=[ct])(hp:ct.pk.length+1<=ct.cols.length):Wl M (EG M):=by
 obtain⟨ab,ac,_,-,hr⟩:=L.row hT;unfold EG;refine Wp.bind (UW L hT hn) λq _ hq=>?_;subst hq;refine Wp.chk (by simp only;omega) (Wp.for (λ_ _=>True) trivial ?_ λs _=>Wl.ret (by simp[WE]) (by simp[WE]));intro i row s next _ hm _ aa
 have hlen:=hr row hm;unfold Jv;refine Wp.bind (VP T row oM) λk _ hk=>Wp.bind (MT hc h0 oM) λo _ _=>Wp.bind (L.wJ hC oM k) λst _ hst=>Wp.bind (R:=λ_=>True) (Wp.cond (λh=>?_) λ_=>Wp.ret trivial) λb _ _=>Wp.cond (λ_=>Wp.bind (GW _) λv _ _=>Wp.chk ?_ (aa _ trivial)) λ_=>aa _ trivial
 have:=hst (by simpa using h)
 exact Wp.get oM oM λv _ _=>Wp.bind (GW _) λv _ _=>Wp.ret trivial;subst hk;rw[C2];omega
theorem Z4t{ρ':Type}{Q at_ row}{k:List GV×List GV->Option ρ'}(hk:∀s:List GV×List GV,s.1.length<=row.length->Wp (k s) Q):Wp (K0 at_ row k) Q:=by
 unfold K0;refine Wp.for (λi s=>s.1.length<=i) (Y7 _) ?_ λs hs=>hk s hs;intro i v s next _ _ hs hn
 exact Wp.bind (AP _ _) λb _ _=>Wp.cond (λ_=>hn _ sO) λ_=>hn _ (by simp only;omega)
theorem OH(L:LI M ρ σ){T ct:Tbl}(hT:T∈M.src.tables)(hn:T.name=M.step.table)(hC:M.cs.tables=[ct])(hp:ct.pk.length<=ct.cols.length)(ab:Wp (A3 M T) λ_=>True):Wl M (Dk M):=by
 obtain⟨ac,af,ae,-,hr⟩:=L.row hT;unfold Dk;refine Wp.bind (UW L hT hn) λq _ hq=>?_;subst hq;refine Wp.bind ab λat_ _ _=>Wp.chk (by simp only;omega) (Wp.for (λ_ _=>True) trivial ?_ λs _=>Wl.ret (by simp[WE]) (by simp[WE]));intro i row s next _ hm _ aa
 have hlen:=hr row hm;unfold Jc;refine Wp.chk oM (Wp.bind (VP T row oM) λk _ hk=>Z4t λmr ad=>Wp.bind (L.wJ hC hp k) λst _ _=>Wp.bind (Wp.cond (λ_=>Wp.bind (EW _ _) λ_ _ _=>Wp.ret trivial) λ_=>Wp.ret trivial) λb _ _=>Wp.bind (Nb ?_) λr2 _ _=>Wp.cond (λ_=>aa _ trivial) λ_=>aa _ trivial);subst hk;rw[C2];omega
theorem Z2m(L:LI M ρ σ){W ct at_}(hC:M.cs.tables=[ct])(hp:ct.cols.length=ct.pk.length+at_.length)(ha:∀v∈at_,0<=v/\v<(W.cols.length:Int))(h6:at_.length<=100)(key):Wp (DV M key W at_) λr=>r.length=at_.length:=by
 unfold DV;refine Wp.bind (L.wJ hC oM key) λst _ hst=>Wp.cond (λh=>Wp.ret (by rw[hst (by simpa using h)];omega)) λ_=>?_;refine Wp.for (λi s=>s.length=i) rfl ?_ λs hs=>Wp.ret hs;intro i v s next hx hm hs hn
 have hi:=(Y0.1 hx).1;obtain⟨h0,h1⟩:=ha v hm;exact Wp.get h0 h1 λc _ _=>Wp.bind (Hq _ _) λz _ _=>Wp.app sO (hn _ (by simp[hs]))
theorem Pd(L:LI M ρ σ){T O W ct:Tbl}{at_:List Int}(hT:T∈M.src.tables)(hn:T.name=M.step.table)(hO:O∈M.src.tables)(ho:O.name=M.step.other)(hW:W∈M.dst.tables)(hw:W.name=M.step.table)(hC:M.cs.tables=[ct])(hp:ct.cols.length=ct.pk.length+at_.length)
  (aa:A3 M W=some at_)(ha:∀v∈at_,0<=v/\v<(W.cols.length:Int))(ab:at_.Pairwise (·<·))(ar:T.pk.length+at_.length<=O.cols.length)(ak:W.cols.length<=T.cols.length+at_.length):Wl M (Dp M):=by
 obtain⟨al,aq,ap,-,hr⟩:=L.row hT;obtain⟨_,ah,am,ac,ag⟩:=L.row hO;have aj:=(L.b.tab W hW).cols6;unfold Dp;refine Wp.bind (UW L hT hn) λq _ hq=>Wp.bind (UW L hO ho) λp _ ae=>Wp.bind (DC L hW hw) λW' _ hW'=>?_;subst hq ae hW';refine Wp.bind (Wa aa) λa _ af=>?_;subst af;refine Wp.chk (by simp only;omega) (Wp.for (λ_ _=>True) trivial ?_ λs _=>Wl.ret (by simp[WE]) (by simp[WE]));intro i row s next _ hm _ ad
 have hlen:=hr row hm;have rep:∀vals:List GV,a.length<=vals.length->Wp (Bg row [] a vals W'.cols.length) λ_=>True:=λvals hv=>(N9 .nil sI ab ha hv sO oM oM).mono λ_ _ _=>trivial;unfold Jw;refine Wp.bind (VP T row oM) λk _ hk=>Wp.bind (Nz O _ k ah ac) λf _ hf=>?_;obtain⟨j,hj,h1,h2⟩:=hf;refine Wp.cond (λh=>?_) λ_=>?_;obtain⟨y,hy,-⟩:=h1 (by simpa using h);have hyl:=ag y (Y4 hy);rw[hj];refine Wp.qG hy (Wp.chk ⟨by simp only;omega,oM⟩ (Wp.bind (rep _ sO) λr _ _=>ad _ trivial));refine Wp.bind (Z2m L hC hp ha oM k) λmv _ aa=>Wp.bind (Nb ?_) λr2 _ _=>Wp.bind (rep _ oM) λr _ _=>ad _ trivial;subst hk;rw[C2,aa];omega
theorem NZ(L:LI M ρ σ){T ct}{c:Int}{bb}(hC:M.cs.tables=[ct])(aa:ct.pk.length<=6)(ab:T.pk.length<=6)(hc:W7 T M.step.column=some (c,bb))(h0:0<=c){row}(h1:c<row.length)(comp)(hl:comp.length<=900)(ha:Wh ct comp)(o):
  Wp (Dh M T comp row o) λr=>r.length<=comp.length+1/\Wh ct r:=by
 unfold Dh;refine Wp.bind (MT hc h0 h1) λb _ _=>Wp.cond (λ_=>Wp.qG (show M.cs.tables[0]?=some ct by rw[hC];rfl) (Wp.bind (VP T row oM) λk _ hk=>Wp.bind (GW o) λv _ _=>Wp.chk ?_ (Wp.bind (GX ct comp _ aa oM ha) λr _ hr=>Wp.ret ⟨hr.2.1,hr.1⟩))) λ_=>Wp.ret ⟨oM,ha⟩;subst hk;rw[C2];omega
theorem Z6w(L:LI M ρ σ){T O ct:Tbl}{c:Int}{bb:Bool}(hT:T∈M.src.tables)(hn:T.name=M.step.table)(hO:O∈M.src.tables)(ho:O.name=M.step.other)(aj:O.cols.length=T.cols.length)(hc:W7 T M.step.column=some (c,bb))(h0:0<=c)(h1:c<T.cols.length)(hC:M.cs.tables=[ct]):Wl M (Fh M):=by
 obtain⟨ah,aa,_,asc,hr⟩:=L.row hT;obtain⟨ag,_,_,_,af⟩:=L.row hO;have ac:=(L.ck ct (by rw[hC];simp)).1;unfold Fh;refine Wp.bind (UW L hT hn) λq _ hq=>Wp.bind (UW L hO ho) λp _ hp=>?_;subst hq hp;refine Wp.chk ⟨by simp only;omega,by simp only;omega⟩ (Wp.for (λi s=>s.length<=i/\Wh ct s) ⟨Y7 _,.nil⟩ ?_ ?_)
 .intro i row s next hx hm hs ab
  have hi:=(Y0.1 hx).1
  have:=hr row hm
  simp only at hi;exact Wp.bind (NZ L hC ac aa hc h0 oM s oM hs.2 false) λr _ hr=>ab _ ⟨oM,hr.2⟩
 intro s hs;simp only at hs;refine Wp.for (λi (s:List (List GV)×List (List GV))=>s.1.length<=24+i/\Wh T s.1/\s.2.length<=24+i/\Wh ct s.2) ⟨by simp only;omega,asc,by simp only;omega,hs.2⟩ ?_ λs _=>Wl.ret (by simp[WE]) (by simp[WE]);intro i row s next hx hm hs ab
 have hi:=(Y0.1 hx).1
 have:=af row hm
 simp only at hi;unfold JZ;refine Wp.bind (VP T row oM) λk _ _=>Wp.bind (Bx T _ k aa) λf _ _=>Wp.cond (λ_=>Wl.ret rfl rfl) λ_=>Wp.bind (NZ L hC ac aa hc h0 oM s.2 oM hs.2.2.2 true) λcomp _ ae=>Wp.bind (GX T s.1 row aa oM hs.2.1) λout _ ad=>ab _ ⟨by simp only;omega,ad.1,by simp only;omega,ae.2⟩
theorem Z6x(L:LI M ρ σ){T O W:Tbl}(hT:T∈M.src.tables)(hn:T.name=M.step.table)(hO:O∈M.src.tables)(ho:O.name=M.step.other)(hW:W∈M.dst.tables)(hw:W.name=M.step.table):Wl M (Fi M):=by
 have aa:=(L.b.tab W hW).pk6;unfold Fi;refine Wp.bind (DC L hW hw) λW' _ hW'=>?_;subst hW';have one:∀{ρ':Type} {Q:ρ'->Prop} i {U:Tbl} {t:ByteArray} (_:U∈M.src.tables) (_:U.name=t) s (next:List (List GV)->Option ρ'),s.length<=100->Wh W' s->(∀r:List (List GV),r.length<=s.length+24->Wh W' r->Wp (next r) Q)->Wp (Je M W' i t s next) Q:=by
  intro ρ' Q i U t hU ht s next hl ha hnx
  subst ht;obtain⟨ad,_,ae,_,hr⟩:=L.row hU;obtain⟨ab,-⟩:=L.rM hU;obtain⟨j,hf,-⟩:=Bn L.a.ord.1 hU;unfold Je I8;refine Wp.bind (Wa (L.tab hU)) λq _ hq=>Wp.bind (Wa hf) λf _ hf=>?_;subst hq hf;refine Wp.chk ⟨rfl,ab⟩ (Wp.for (λk z=>z.length<=s.length+k/\Wh W' z) ⟨Y7 _,ha⟩ ?_ λz hz=>hnx z (by simp only at hz;omega) hz.2);intro k row z nx hx hm hz ac;have hi:=(Y0.1 hx).1;simp only at hi
  have:=hr row hm
  unfold Jf;exact Wp.bind (GW _) λv _ _=>Wp.chk oM (Wp.bind (GX W' z _ aa oM hz.2) λr _ hr=>ac _ ⟨oM,hr.1⟩)
 refine one 0 hT hn [] _ sI .nil λr hl ha=>one 1 hO ho r _ (by simp at hl;omega) ha λr2 _ _=>Wl.ret (by simp[WE]) rfl
theorem Z2l(L:LI M ρ σ){T}(hT:T∈M.src.tables)(hn:T.name=M.step.table)(hl:∃cs c,T.cols=cs++[c]/\c.kind=2/\c.nullable=false):Wl M (EV M):=by
 obtain⟨ae,_,af,_,hr⟩:=L.row hT;obtain⟨cs,c,ac,hk,ad⟩:=hl;unfold EV;refine Wp.bind (UW L hT hn) λq _ hq=>?_;subst hq;refine Wp.chk (by simp only;omega) (Wp.for (λ_ _=>True) trivial ?_ λs _=>Wl.ret (by simp[WE]) rfl);intro i row s next _ hm _ aa
 have hlen:=hr row hm;have ag:T.cols.length=cs.length+1:=by rw[ac];simp
 unfold JY;refine Wp.chk oM (Wp.get oM oM λv hv _=>Wp.cond (λ_=>aa _ trivial) λh=>Wp.chk ?_ (aa _ trivial));have ab:T.cols[cs.length]?=some c:=by rw[ac];simp
 have e:((row.length:Int)-1).toNat=cs.length:=oM;rw[e] at hv;obtain⟨h1,h2,h3⟩:=((L.ri T hT).row row hm).cell _ v c hv ab;have h4:v.kind≠0:=λh9=>by have:=h2 h9;rw[ad] at this;cases this
 have h5:=h3 h4;obtain⟨-,-,-,-,-,h6⟩:=Fu h1;have h7:¬v.int=0:=by simpa using h
 have:=h6 oM
 omega
theorem MH{S ρ}(hA:WT S.tables)(hr:∀T∈S.tables,(ρ T.name).length<=1048576)(n):Wp (WZ S (mkI S ρ) n) λq=>(q.1∈S.tables/\q.2=ρ q.1.name)\/(q.1.pk=[]/\q.2=[]):=by
 by_cases h:∃T∈S.tables,T.name=n;obtain⟨T,hT,rfl⟩:=h;exact(Wa (KB hA hT (hr T hT))).mono λq _ hq=>.inl (by subst hq;exact⟨hT,rfl⟩);unfold WZ;refine Wp.bind (VI S n) λf _ hf=>Wp.cond (λ_=>Wp.ret (.inr ⟨rfl,rfl⟩)) λhb=>?_;obtain⟨-,T,hT,aa⟩:=hf.2.1 (by simpa using hb);exact absurd ⟨T,Y4 hT,Wf.1 aa⟩ h
theorem LI.jR(L:LI M ρ σ)(n:ByteArray):Wp (Vd M n) λq=>q.2.length<=24:=by
 unfold Vd;refine Wp.bind ?_ λq _ hq=>Wp.ret hq;rw[L.inp];refine(MH L.a.ord.1 (λT hT=>by have:=(L.ri T hT).l24;omega) n).mono λq _ hq=>?_;rcases hq with⟨h1,h2⟩|⟨-,h2⟩;rw[h2];exact(L.ri _ h1).l24;simp[h2]
theorem Z4u(L:LI M ρ σ):Wl M (BL M):=by
 unfold BL;exact Wp.cond (λ_=>Wp.bind (L.jR _) λq _ _=>Wl.ret (by simp[WE]) rfl) λ_=>Wp.bind (L.jR _) λq _ _=>Wl.ret (by simp[WE]) rfl
theorem Pe(L:LI M ρ σ)(aa:Bool):Wl M (A6 M aa):=by
 unfold A6;refine Wp.bind (R:=λ_=>True) (by unfold Gm;exact Wp.cond (λ_=>Wp.ret trivial) λ_=>Wp.ret trivial) λv _ _=>Wp.cond (λ_=>?_) λ_=>?_;exact Wp.bind (L.jR _) λq _ _=>Wl.ret rfl (by simp[WE]);rw[L.comp];refine Wp.bind (MH L.cn (λT hT=>by have:=(L.rc T hT).l24;omega) v) λq _ hq=>?_;have hl:q.2.length<=24:=by rcases hq with⟨h1,h2⟩|⟨-,h2⟩;rw[h2];exact(L.rc _ h1).l24;simp[h2]
 exact Wp.bind (Wp.ret rfl) λr _ hr=>Wp.bind (Bc _ oM) λc _ _=>Wl.ret (by subst hr;simp[WE]) (by subst hr;simp[WE])
end Go.Am
end
section
namespace Go.Am
variable{M:Mp}{ρ σ:RN}
theorem Z7m{ρ':Type}{Q T ai row}{k:List GV->Option ρ'}(hr:CR T row)(ha:∀v∈ai,0<=v/\v<(T.cols.length:Int))(hk:∀s:List GV,s.length=ai.length->(∀v∈s,WD v=some 0)->Wp (k s) Q):Wp (K4 ai row k) Q:=by
 unfold K4;refine Wp.for (λi s=>s.length=i/\∀v∈s,WD v=some 0) ⟨rfl,sI⟩ ?_ λs hs=>hk s hs.1 hs.2;intro i j s next _ hm hs hn
 obtain⟨h0,h1⟩:=ha j hm;have hl:=hr.len;refine Wp.get h0 oM λv hv _=>hn _ ⟨by simp[hs.1],λw hw=>?_⟩;rcases Y2.1 hw with h9|h9;exact hs.2 w h9;rw[Yu.1 h9];have hc:T.cols[j.toNat]?=some T.cols[j.toNat]:=Y1 oM;exact(hr.cell _ v _ hv hc).1
theorem Z0z{ct vals}(hC:M.cs.tables=[ct])(hk:M.step.kind=5)(hl:ct.cols.length=ct.pk.length+2)(hv:vals.length=1):Wp (A7 M vals) λr=>r.1.length=1:=by
 unfold A7;refine Wp.qG (show M.cs.tables[0]?=some ct by rw[hC];rfl) (Wp.chk ⟨oM,oM,oM⟩ (Wp.cond (λ_=>?_) λh=>by simp[hk] at h));rw[Yp];have hd:(ct.cols.drop ct.pk.length).length=2:=sO
 refine Wp.get oM oM λc0 _ _=>Wp.cond (λ_=>Wp.get oM oM λc1 _ _=>?_) λ_=>?_;exact Wp.get oM oM λv _ _=>Wp.bind (Na _ _) λq _ _=>Wp.cond (λ_=>Wp.ret rfl) λ_=>Wp.bind (Hq _ _) λz _ _=>Wp.ret rfl;exact Wp.get oM oM λv _ _=>Wp.bind (Na _ _) λq _ _=>Wp.cond (λ_=>Wp.ret rfl) λ_=>Wp.bind (Hq _ _) λz _ _=>Wp.ret rfl
theorem Z0y{ct vals}(hC:M.cs.tables=[ct])(hk:M.step.kind=12)(hl:ct.cols.length=ct.pk.length+3)(hv:vals.length=if M.fwd then 2 else 1)(hw:∀v∈vals,WD v=some 0):Wp (A7 M vals) λr=>r.1.length=if M.fwd then 1 else 2:=by
 unfold A7;refine Wp.qG (show M.cs.tables[0]?=some ct by rw[hC];rfl) (Wp.chk ⟨oM,oM,oM⟩ (Wp.cond (λh=>by simp[hk] at h) λ_=>?_));rw[Yp];have hd:(ct.cols.drop ct.pk.length).length=3:=sO
 refine Wp.cond (λhf=>?_) λhf=>?_;rw[hf] at hv|-
 match vals,hv with
 |[x,y],_=>exact Wp.get oM oM λc _ _=>Wp.bind (Z3h (hw x sI) (hw y sI) _) λr _ hr=>Wp.ret hr
 rw[hf] at hv|-
 match vals,hv with
 |[x],_=>exact Wp.qG rfl (Wp.get oM oM λc0 _ _=>Wp.get oM oM λc1 _ _=>Wp.bind (Z8b (hw x sI) _ _) λr _ hr=>Wp.ret hr)
theorem Gw(L:LI M ρ σ){T W ct:Tbl}{ai ao:List Int}{n:Nat}(hT:T∈M.src.tables)(hn:T.name=M.step.table)(hW:W∈M.dst.tables)(hw:W.name=M.step.table)(hC:M.cs.tables=[ct])(hl:ct.cols.length=ct.pk.length+(n+1))
  (ae:B3 M=some (ai,ao))(ha:∀v∈ai,0<=v/\v<(T.cols.length:Int))(ak:ai.Pairwise (·<·))(ho:∀v∈ao,0<=v/\v<(W.cols.length:Int))(aj:ao.Pairwise (·<·))(hlen:W.cols.length+ai.length<=T.cols.length+ao.length)
  (ad:ao.length=if M.fwd then 1 else n)(ax:ai.length<=6)(hcv:∀hv:List GV,hv.length=ai.length->(∀v∈hv,WD v=some 0)->Wp (A7 M hv) λr=>r.1.length=ao.length):Wl M (CW M):=by
 obtain⟨am,ar,aq,-,_⟩:=L.row hT;have al:=(L.b.tab W hW).cols6;have aw:=L.ck ct (by rw[hC];simp);unfold CW;refine Wp.bind (UW L hT hn) λq _ hq=>Wp.bind (Wa ae) λa _ ag=>?_;subst hq ag;refine Wp.qG (show M.cs.tables[0]?=some ct by rw[hC];rfl) (Wp.bind (DC L hW hw) λW' _ hW'=>?_);subst hW';refine Wp.chk ⟨by simp only;omega,by simp only;omega,oM,oM⟩ ?_;rw[show ct.cols.length-ct.pk.length-1=n by omega];refine Wp.for (λ_ _=>True) trivial ?_ λs _=>Wl.ret (by simp[WE]) (by simp[WE]);intro i row s next _ hm _ af
 have ab:=(L.ri T hT).row row hm;have au:=ab.len;unfold Kt;refine Wp.bind (VP T row oM) λk _ hk=>Z7m ab ha λhv ac ah=>Wp.bind (hcv hv ac ah) λcv _ aa=>Wp.bind (L.wJ hC oM k) λst _ hst=>Wp.bind (R:=λp:List GV×Bool=>p.1.length=ao.length) ?_ λp _ hp=>Wp.bind (R:=λ_=>True) ?_ λcomp _ _=>Wp.bind ((N9 ak (λv hv=>by have:=ha v hv;omega) aj ho oM oM oM oM).mono λ_ _ _=>trivial) λr _ _=>af _ trivial;unfold K3;refine Wp.cond (λh=>?_) λ_=>Wp.ret aa;have ap:=hst h;refine Wp.chk oM (Wp.bind (EW _ _) λe _ _=>Wp.cond (λ_=>Wp.bind (Wp.cond (λ_=>Wp.bind (EW _ _) λ_ _ _=>Wp.ret trivial) λ_=>Wp.ret trivial) λex _ _=>Wp.ret ?_) λ_=>Wp.ret aa);rw[ad];unfold sw;cases M.fwd with
 |true=>simp;omega
 |false=>simp;omega
 refine Wp.cond (λ_=>?_) λ_=>Wp.ret trivial;refine Wp.bind (R:=λ_=>True) (Wp.chk ?_ (Wp.ret trivial)) λr _ _=>Wp.ret trivial;subst hk;have h8:hv.length=ai.length:=ac;have h9:ao.length<=100:=by rw[ad];split<;>omega
 have:((sw M.fwd hv p.1).1++(sw M.fwd hv p.1).2).length<=110:=by unfold sw;cases M.fwd<;>simp<;>omega
 simp only[Xp,List.flatten_nil,Ym,Ye,C2] at this|-;omega
theorem KA{S inst}(aa:∀T∈S.tables,T.pk.length<=6)(hr:∀r∈inst,r.rows.length<=24)(n):Wp (WZ S inst n) λq=>q.1.pk.length<=6/\q.2.length<=24:=by
 unfold WZ;refine Wp.bind (VI S n) λf _ hf=>Wp.cond (λ_=>Wp.ret ⟨sI,sI⟩) λhb=>?_;obtain⟨h1,T,_,-⟩:=hf.2.1 (by simpa using hb);refine Wp.get hf.1 h1 λT hT hm=>Wp.bind (R:=λy=>y=T) ⟨_,rfl,by cases T;rfl⟩ λy _ hy=>?_;subst hy;refine Wp.cond (λ_=>Wp.ret ⟨aa _ hm,sI⟩) λh2=>Wp.get hf.1 (by simp at h2;omega) λx _ hx=>Wp.bind (Bc x.rows (by have:=hr x hx;omega)) λr _ ab=>Wp.ret ⟨aa _ hm,by rw[ab];exact hr x hx⟩
theorem Mh{S:Sch}{inst:List Rel}(aa:∀T∈S.tables,T.pk.length<=6)(hr:∀r∈inst,r.rows.length<=24){f}(hf:f.cols.length<=6)(row):Wp (BQ S inst f row) λ_=>True:=by
 unfold BQ;refine Wp.bind (KA aa hr f.ref) λq _ hq=>Wp.for (λi s=>s.length<=i) (Y7 _) ?_ λs _=>Wp.bind (Bx _ _ _ hq.1) λ_ _ _=>Wp.ret trivial;intro i v s next hx _ hs hn
 have hi:=(Y0.1 hx).1;refine Wp.cond (λ_=>Wp.ret trivial) λh1=>Wp.cond (λ_=>Wp.ret trivial) λh2=>?_;exact Wp.get (by simp at h1;omega) (by simp at h2;omega) λy _ _=>Wp.cond (λ_=>Wp.ret trivial) λ_=>Wp.app sO (hn _ sO)
theorem NL(c row):Wp (BR c row) λ_=>True:=by
 unfold BR;refine Wp.cond (λ_=>Wp.ret trivial) λh1=>Wp.cond (λ_=>Wp.ret trivial) λh2=>Wp.cond (λ_=>Wp.ret trivial) λh3=>?_;have a1:0<=c.left:=by simpa using h1
 have a2:c.left<row.length:=by simp at h2;omega
 refine Wp.cond (λh4=>Wp.get (by simpa using h4) (by simp at h3;omega) λx _ _=>Wp.get a1 a2 λy _ _=>Wp.bind (ED _ _ _) λq _ _=>Wp.cond (λ_=>Wp.ret trivial) λ_=>Wp.ret trivial) λ_=>Wp.get a1 a2 λy _ _=>Wp.bind (ED _ _ _) λq _ _=>Wp.cond (λ_=>Wp.ret trivial) λ_=>Wp.ret trivial
theorem Z7e{S inst}(hS:VS S)(hr:∀r∈inst,r.rows.length<=24)(t){rows:List (List GV)}(hl:rows.length<=24):Wp (Hw M S inst t rows) λ_=>True:=by
 unfold Hw;refine Wp.chk oM (Wp.for (λ_ _=>True) trivial ?_ λ_ _=>Wp.ret trivial);intro i row s next _ _ _ hn
 unfold Js;refine Wp.bind (R:=λ_=>True) (Wp.cond (λ_=>Wp.bind (NL _ _) λ_ _ _=>Wp.ret trivial) λ_=>Wp.ret trivial) λb _ _=>?_;unfold Jt;refine Wp.for (λ_ _=>True) trivial ?_ λb _=>Wp.cond (λ_=>hn _ trivial) λ_=>hn _ trivial;intro j f b nx _ aa _ ab;refine Wp.bind (R:=λ_=>True) ?_ λv _ _=>ab _ trivial;unfold Hc;exact Wp.cond (λ_=>Wp.ret trivial) λ_=>Wp.cond (λ_=>Wp.bind (Mh (λT hT=>(hS.tab T hT).pk6) hr (hS.fk f aa).1 row) λ_ _ _=>Wp.ret trivial) λ_=>Wp.ret trivial
theorem Z95(row ws):Wp (UK row ws) λ_=>True:=by
 unfold UK B5 Cy;exact Wp.bind (R:=λ_=>True) (Wp.bind ((Wp.index λx _=>by unfold DM;exact Wp.bind (EW x row) λ_ _ _=>Wp.ret trivial)) λ_ _ _=>Wp.ret trivial) λ_ _ _=>Wp.ret trivial
def WA(inst:List Rel):Nat:=(inst.map λr=>r.rows.length).sum
theorem OJ:∀(l:List Nat) i a b,l[i]?=some a->(l.set i b).sum+a=l.sum+b
 |[],i,a,b,h=>by simp at h
 |x::l,0,a,b,h=>by
   simp at h;subst h;simp;omega
 |x::l,i+1,a,b,h=>by
   have:=OJ l i a b (by simpa using h)
   simp;omega
theorem ET{inst}{i:Nat}{x}(h:inst[i]?=some x)(y):WA (inst.set i y)+x.rows.length=WA inst+y.rows.length:=by unfold WA;rw[YD];exact OJ _ i _ _ (by rw[Y8,h];rfl)
structure Less(a b:List Rel):Prop where
 len:b.length=a.length
 at_:∀(i:Nat) x y,a[i]?=some x->b[i]?=some y->y.table=x.table/\y.rows.Sublist x.rows
theorem Less.refl{a}:Less a a:=⟨rfl,λi x y h1 h2=>by rw[h1] at h2;cases h2;exact⟨rfl,.refl _⟩⟩
theorem Less.trans{a b c}(h1:Less a b)(h2:Less b c):Less a c:=⟨h2.len.trans h1.len,λi x z hx hz=>by
 have hi:i<b.length:=by have:=(Y0.1 hz).1;rw[<-h2.len];exact this
 have hy:b[i]?=some b[i]:=Y1 hi;obtain⟨e1,s1⟩:=h1.at_ i x _ hx hy;obtain⟨e2,s2⟩:=h2.at_ i _ z hy hz;exact⟨e2.trans e1,s2.trans s1⟩⟩
theorem Less.le{a b}(h:Less a b)(ha:∀r∈a,r.rows.length<=24):∀r∈b,r.rows.length<=24:=λr hr=>by
 obtain⟨i,hi,rfl⟩:=Yz hr;have aa:i<a.length:=by rw[<-h.len];exact hi
 have:=(h.at_ i _ _ (Y1 aa) (Y1 hi)).2.length_le
 have:=ha _ (Yf aa)
 omega
theorem PJ{inst}{i:Nat}(hi:i<inst.length)(ws):Wp (FG inst (i:Int) ws) λq=>Less inst q.1/\WA q.1<=WA inst/\(q.2=true->WA q.1<WA inst):=by
 unfold FG;refine Wp.get oM oM λx hx _=>Wp.chk (λrow _=>by obtain⟨r,h,-⟩:=Z95 row ws;rw[h];rfl) (Wp.ret ?_);have hx:inst[i]?=some x:=by simpa using hx
 have h1:WA (inst.set i ⟨x.table,x.rows.filter λx=>!inWs ws x⟩)+x.rows.length=WA inst+(x.rows.filter λx=>!inWs ws x).length:=ET hx ⟨x.table,x.rows.filter λx=>!inWs ws x⟩;have h2:=XC (λx=>!inWs ws x) x.rows;simp only[Xk];refine⟨⟨sI,λj y z hy hz=>?_⟩,oM,λh=>by have:=of_decide_eq_true h;omega⟩;rw[Xq] at hz;split at hz;rename_i e;subst e;rw[hx] at hy;cases hy;cases hz;exact⟨rfl,List.filter_sublist⟩;rw[hy] at hz;cases hz;exact⟨rfl,.refl _⟩
theorem JU:∀{inst:List Rel},(∀r∈inst,r.rows.length<=24)->WA inst<=24*inst.length
 |[],_=>by simp[WA]
 |x::xs,h=>by
   have h1:=JU λr hr=>h r (Yc _ hr);have h2:=h x (Y6 ..);simp only[WA,Yb,List.sum_cons,YN] at h1|-;omega
theorem N7{S:Sch}{inst hid:List Rel}(hS:VS S)(h6:inst.length<=6)(hl:hid.length<=inst.length)(hr:∀r∈inst,r.rows.length<=24):Wp (Dd M S inst hid) λout=>Less inst out:=by
 unfold Dd;refine Wp.chk ⟨oM,λr h=>by obtain⟨q,hq,-⟩:=Bc r.rows (by have:=hr r h;omega);rw[hq];rfl⟩ ?_;refine Wp.for (λ_ s=>Less inst s) .refl ?_ ?_
 .intro i x s next hx _ hs hn
  have hi:=(Y0.1 hx).1;exact Wp.bind (PJ (by rw[hs.len];omega) x.rows) λq _ hq=>hn _ (hs.trans hq.1)
 intro s hs;have aa:=JU (hs.le hr);refine Wp.jN (λq:List Rel×Bool=>Less inst q.1/\WA q.1<=24*6) (λq=>bif q.2 then WA q.1+1 else 0) ?_ DH (s,true) ⟨hs,by rw[hs.len] at aa;simp only;omega⟩ (by simp only[cond_true,DH];rw[hs.len] at aa;omega);rintro⟨u,b⟩ next ⟨hu,ae⟩ hn
 unfold Jb;refine Wp.cond (λhb=>?_) λ_=>Wp.ret hu;simp only at hb hu ae;subst hb;refine Wp.for (λ_ q=>Less inst q.1/\WA q.1<=WA u/\(q.2=true->WA q.1<WA u)) ⟨hu,Y7 _,λh=>by cases h⟩ ?_ ?_;intro i x q nx hx _ hq ab;have hi:=(Y0.1 hx).1;have ad:i<q.1.length:=by rw[hq.1.len,<-hu.len];exact hi
 refine Wp.get oM oM λy _ ac=>Wp.bind (Z7e hS (hq.1.le hr) _ (hq.1.le hr y ac)) λws _ _=>Wp.bind (PJ ad ws) λz _ hz=>ab _ ⟨hq.1.trans hz.1,by simp only;omega,λh=>?_⟩;simp only at h|-;cases hz2:z.2 with
 |true=>have:=hz.2.2 hz2;omega
 |false=>rw[hz2] at h;have:=hq.2.2 h;omega
 intro q hq;refine hn q ⟨hq.1,oM⟩ ?_;simp only[cond_true];cases hq2:q.2 with
 |true=>have:=hq.2.2 hq2;simp;omega
 |false=>simp
end Go.Am
end
section
namespace Go.Am
variable{M:Mp}{ρ σ:RN}
theorem HG{α:Type}{eq:α->α->Option Bool}{a b:List α}(he:∀x y,Wp (eq x y) λr=>r=true↔x=y):
  Wp (bif ((a.length:Int) !=(b.length:Int)) then(some false) else(Zc (λ(i:Nat) (x:α) (_:Unit) next=>(Z7 b (i:Int) λy=>(Z1 (eq x y) λv=>(bif !v then(some false) else(next ()))))) (λ(_:Unit)=>(some true)) a 0 ())) λr=>r=true↔a=b:=by
 refine Wp.cond (λh=>Wp.ret ?_) λh=>?_
 have:a.length≠b.length:=by simp at h;omega
 simp only[YH,false_iff];exact λh9=>this (by rw[h9]);have hl:a.length=b.length:=by simp at h;omega
 refine Wp.for (λi _=>a.take i=b.take i) rfl ?_ λs hI=>Wp.ret ?_
 .intro i x s next hx hm hI hn
  obtain⟨hi,aa⟩:=Y0.1 hx;have hb:b[i]?=some b[i]:=Y1 oM;refine Wp.qG hb (Wp.bind (he x b[i]) λv _ hv=>Wp.cond (λh=>Wp.ret ?_) λh=>hn () ?_);simp only[YH,false_iff];intro h9;have h8:x=b[i]:=by rw[<-aa];simp[h9]
  rw[hv.2 h8] at h;cases h;rw[Yl hi,Yl (oM:i<b.length),hI,aa,hv.1 (by simpa using h)]
 rw[Yp,hl,Yp] at hI;simp[hI]
theorem Z5m(a b:List (List GV)):Wp (Er a b) λr=>r=true↔a=b:=by
 unfold Er;refine Wp.bind (HG (eq:=λx y=>Eh x y) λx y=>?_) λr _ hr=>Wp.ret hr;exact Wp.bind (EW x y) λr _ hr=>Wp.ret hr
theorem F1(a b:List Rel):Wp (Ad a b) λr=>r=true↔a=b:=by
 unfold Ad;refine Wp.bind (HG (eq:=λx y=>CL x y) λx y=>?_) λr _ hr=>Wp.ret hr;unfold CL;refine Wp.cond (λh=>Wp.bind (Z5m _ _) λr _ hr=>Wp.ret ?_) λh=>Wp.ret ?_;rw[hr]
 have:=Wf.1 h
 exact⟨λh9=>by cases x;cases y;simp_all,λh9=>by rw[h9]⟩;simp only[YH,false_iff];rintro rfl;rw[MJ] at h;cases h
theorem JI(S:Sch)(h:S.tables.length<=1048576):Wp (Uu S) λr=>r=mkI S λ_=>[]:=by
 have hL:=Vh;unfold Uu;refine Wp.for (λi (s:List Rel)=>s=(S.tables.take i).map λT=>⟨T.name,[]⟩) rfl ?_ λs hs=>Wp.ret (by rw[hs,Yp];rfl);intro i T s next hx hm hs hn
 obtain⟨hi,he⟩:=Y0.1 hx;refine Wp.app (by rw[hs];simp;omega) (hn _ ?_);rw[hs,Yl hi,he];simp
theorem Jr{inst:List Rel}{i:Nat}{x:Rel}(h:inst[i]?=some x):x.rows.length<=WA inst:=by
 have:=ET h ⟨x.table,[]⟩
 simp only[Xt,YY] at this;omega
theorem J9:∀{inst:List Rel},(∀r∈inst,r.rows=[])->WA inst=0
 |[],_=>rfl
 |x::xs,h=>by
   have h1:=J9 λr hr=>h r (Yc _ hr);have h2:=h x (Y6 ..);simp only[WA,Yb,List.sum_cons] at h1|-;rw[h1,h2];rfl
theorem LI.xB(L:LI M ρ σ):M.inp.length=M.src.tables.length/\(∀r∈M.inp,r.rows.length<=24)/\M.comp.length=M.cs.tables.length/\∀r∈M.comp,r.rows.length<=24:=by
 rw[L.inp,L.comp];refine⟨C8,λr hr=>?_,C8,λr hr=>?_⟩;obtain⟨T,hT,rfl⟩:=Yi.1 hr;exact(L.ri T hT).l24;obtain⟨T,hT,rfl⟩:=Yi.1 hr;exact(L.rc T hT).l24
theorem Z0w(L:LI M ρ σ)(ac:M.dst.tables=M.src.tables)(hC:M.cs.tables=M.src.tables)(ho:M.out.length=M.dst.tables.length)(ad:M.nc.length=M.cs.tables.length)(ae:∀r∈M.nc,r.rows=[]):Wl M (EN M):=by
 have t6:=L.a.t6;obtain⟨il,i24,cl,c24⟩:=L.xB;unfold EN;refine Wp.bind (N7 L.b oM (by rw[cl,il,hC];omega) i24) λout _ aa=>?_;have ag:=aa.len;refine Wp.for (λi (N:List Rel)=>N.length=M.nc.length/\WA N<=24*i) ⟨rfl,by rw[J9 ae];omega⟩ ?_ λN hN=>Wp.ret ⟨by simp only;rw[ag,il,ho,ac],hN.1⟩;intro i t N next hx hm hN hnx
 have hi:=(Y0.1 hx).1;refine Wp.get oM oM λx aj ab=>?_;have ah:=i24 x ab;refine Wp.for (λj (N:List Rel)=>N.length=M.nc.length/\WA N<=24*i+j) ⟨hN.1,hN.2⟩ ?_ λN hN=>hnx N ⟨hN.1,oM⟩;intro j row N nx hr hrm hN hn;unfold Jy;have af:=(L.a.tab t hm).pk6;refine Wp.get oM oM λo _ _=>Wp.bind (VP t row oM) λk _ hk=>Wp.bind (Bx t _ k af) λq _ _=>Wp.cond (λ_=>Wp.get oM (by rw[hN.1,ad,hC];omega) λc hc _=>?_) λ_=>hn N ⟨hN.1,oM⟩;have hc:N[i]?=some c:=by simpa using hc
 have h1:=Jr hc;have h2:=ET hc ⟨c.table,c.rows++[row]⟩;have hj:=(Y0.1 hr).1;simp only[Ye,XM] at h2;exact Wp.chk oM (hn _ ⟨by rw[YT];exact hN.1,oM⟩)
theorem Z0v(L:LI M ρ σ)(aa:M.dst.tables=M.src.tables)(hC:M.cs.tables=M.src.tables)(ho:M.out.length=M.dst.tables.length)(ag:∀(i:Nat) r T,M.out[i]?=some r->M.src.tables[i]?=some T->Wh T r.rows)(ac:∀r∈M.out,r.rows.length<=24)(aj:M.nc.length=M.cs.tables.length)(ak:∀r∈M.nc,r.rows=[]):Wl M (EK M):=by
 have t6:=L.a.t6;obtain⟨il,i24,cl,c24⟩:=L.xB;unfold EK;refine Wp.bind (JI M.src oM) λz _ hz=>?_;subst hz;refine Wp.bind (N7 L.a oM (by rw[C8,il];omega) i24) λv _ hv=>Wp.bind (F1 v M.inp) λq _ _=>Wp.cond (λ_=>Wp.ret ⟨rfl,rfl⟩) λ_=>?_;have ae:=JU ac;rw[ho,aa] at ae;refine Wp.for (λi (s:List Rel×List Rel)=>s.2.length=M.nc.length/\WA s.2<=24*i/\s.1.length=M.out.length/\WA s.1<=144+24*i/\∀(i:Nat) r T,s.1[i]?=some r->M.src.tables[i]?=some T->Wh T r.rows) ⟨rfl,by rw[J9 ak];omega,rfl,by simp only;omega,ag⟩ ?_ λs hs=>Wp.ret ⟨hs.2.2.1,hs.1⟩;intro i t s next hx hm hs ah
 have hi:=(Y0.1 hx).1;refine Wp.get oM (by rw[cl,hC];omega) λx am ad=>?_;have al:=c24 x ad;refine Wp.for (λj (s:List Rel×List Rel)=>s.2.length=M.nc.length/\WA s.2<=24*i+j/\s.1.length=M.out.length/\WA s.1<=144+24*i+j/\∀(i:Nat) r T,s.1[i]?=some r->M.src.tables[i]?=some T->Wh T r.rows) hs ?_ λs hs=>ah s ⟨hs.1,oM,hs.2.2.1,oM,hs.2.2.2.2⟩;intro j row s nx hr ap hs hn;have hj:=(Y0.1 hr).1;unfold Ju;have ab:=(L.a.tab t hm).pk6;refine Wp.get oM oM λo _ _=>Wp.bind (VP t row oM) λk _ hk=>Wp.bind (Bx t _ k ab) λq _ _=>Wp.cond (λ_=>Wp.get oM (by rw[hs.1,aj,hC];omega) λc hc _=>?_) λ_=>hn s ⟨hs.1,oM,hs.2.2.1,oM,hs.2.2.2.2⟩;have hc:s.2[i]?=some c:=by simpa using hc
 have h1:=Jr hc;have h2:=ET hc ⟨c.table,c.rows++[row]⟩;simp only[Ye,XM] at h2;refine Wp.chk oM (Wp.get oM (by rw[hs.2.2.1,ho,aa];omega) λu hu _=>?_);have hu:s.1[i]?=some u:=by simpa using hu
 have h3:=Jr hu;refine Wp.bind (GX t u.rows row ab oM (hs.2.2.2.2 i u t hu hx)) λrs _ af=>hn _ ⟨by simp only[YT];exact hs.1,by simp only;omega,by simp only[YT];exact hs.2.2.1,?_,λk r T hk hT=>?_⟩;have h4:=ET hu ⟨u.table,rs⟩;simp only at h4|-;omega;simp only at hk;rw[Xq] at hk;split at hk;rename_i e;subst e;split at hk;cases hk;rw[hx] at hT;cases hT;exact af.1;cases hk;exact hs.2.2.2.2 k r T hk hT
end Go.Am
end
namespace Go.Am
section
theorem Nu{α:Type}{rm}(h:rm.Pairwise (·<·)){xs:List α}(hr:∀v∈rm,0<=v/\v<(xs.length:Int)):(Vo rm 0 xs).length+rm.length=xs.length:=by
 have key:∀i,i<=xs.length->(Vo rm 0 (xs.take i)).length+VV rm i=i:=by
  intro i
  induction i with
  |zero=>intro _;rw[Kb λv hv=>(hr v hv).1];rfl
  |succ i ih=>?_
  intro hi;have h1:=ih oM;have hx:xs[i]?=some xs[i]:=Y1 oM;rw[Jg rm hx,Ye];have hc:=Hf h i;by_cases hm:(i:Int)∈rm;rw[hc.1 hm,if_pos hm];simp;omega;rw[hc.2 hm,if_neg hm];simp;omega
 have:=key xs.length (Y7 _)
 rw[Yp,Kx λv hv=>(hr v hv).2] at this;exact this
theorem Pu{S:Sch}(hA:WT S.tables){i j:Nat}{T O}(hi:S.tables[i]?=some T)(hj:S.tables[j]?=some O)(hij:i≠j):T.name≠O.name:=λh=>hij (hA.uniq i j T O hi hj (Wf.2 h))
theorem Ht{ts:List Tbl}{i:Nat}{T T'}(h:ts[i]?=some T):T'∈ts.set i T':=by obtain⟨h1,_⟩:=Y0.1 h;exact Y4 (i:=i) (by simp[h1])
inductive Sh2(S S':Sch)(x:Stp):Prop
 |add {T T':Tbl} (k:x.kind=1) (t:Two S S' x T T') (h:T'.cols.length=T.cols.length+1)
 |drop {T T':Tbl} {c:Int} (k:x.kind=2) (t:Two S S' x T T') (hc:W7 T x.column=some (c,true)) (h0:0<=c/\c<T.cols.length) (h:T'.cols.length+1=T.cols.length) (hp:T'.pk.length=T.pk.length)
 |type {T T':Tbl} {c:Int} (k:x.kind=5) (t:Two S S' x T T') (hc:W7 T x.column=some (c,true)) (h0:0<=c/\c<T.cols.length) (h:T'.cols.length=T.cols.length)
 |split {T T' O:Tbl} (k:x.kind=6) (t:Two S S' x T T') (hs:SplitOK T x.cols) (h:T'.cols.length+x.cols.length=T.cols.length) (hp:T'.pk.length=T.pk.length) (o:O∈S'.tables) (on:O.name=x.other) (oc:O.cols.length=T.pk.length+x.cols.length)
 |join {T T' O:Tbl} (k:x.kind=7) (t:Two S S' x T T') (o:O∈S.tables) (on:O.name=x.other) (op:O.pk=W3 T.pk.length) (hc:T'.cols=T.cols++O.cols.drop T.pk.length)
 |part {T O:Tbl} (k:x.kind=8) (t:Two S S' x T T) (o:O∈S'.tables) (on:O.name=x.other) (oc:O.cols=T.cols)
 |merge {T T' O:Tbl} (k:x.kind=9) (t:Two S S' x T T') (o:O∈S.tables) (on:O.name=x.other) (hc:T'.cols=T.cols++[⟨x.column,2,false⟩])
 |concat {T T':Tbl} {a b:Int} (k:x.kind=12) (t:Two S S' x T T') (hx:x.cols=[a,b]) (h0:0<=a/\a<b/\b<T.cols.length) (h:T'.cols.length+1=T.cols.length)
 |create (k:x.kind=10) (n:x.newTable∈S'.tables)
 |droptab {T:Tbl} (k:x.kind=11) (t:T∈S.tables) (tn:T.name=x.table)
 |same (k:13<=x.kind) (e:S'.tables=S.tables)
 |name (k:x.kind=3\/x.kind=4)
theorem Km{T:Tbl}{rm:List Int}(h:rm.Pairwise (·<·))(hr:∀v∈rm,0<=v/\v<(T.cols.length:Int)):(AE T rm).cols.length+rm.length=T.cols.length/\(AE T rm).pk.length=T.pk.length:=⟨Nu h hr,by simp[AE]⟩
theorem PZ{S S':Sch}{x:Stp}(hS:VS S)(ev:EvT S S'.tables x):Sh2 S S' x:=by
 have hA:=hS.ord.1;have two:∀{i:Nat} {T T':Tbl},S.tables[i]?=some T->strEq T.name x.table=true->S'.tables=S.tables.set i T'->T'.name=T.name->Two S S' x T T':=λhi hn e hT=>
  ⟨Y4 hi,e▸Ht hi,Wf.1 hn,by rw[hT];exact Wf.1 hn⟩
 have aa:∀{T:Tbl} {c:Int} {aa:Col},W7 T x.column=some (c,true)->T.cols[c.toNat]?=some aa->0<=c/\c<T.cols.length:=λ{T c aa} hc hcol=>by
  obtain⟨r,hr,h0⟩:=US T x.column;rw[hc] at hr;cases hr
  have:=(Y0.1 hcol).1
  have:=h0.1
  omega
 cases ev with
 |add k hi hn hd e=>exact .add k (two hi hn e rfl) sI
 |drop k hi hn hc hcol hp hd e=>?_
 |rencol k hi hn hcol e=>exact .name (.inl k)
 |ren k hi hn ho e=>exact .name (.inr k)
 |type k hi hn hc hcol hp e=>exact .type k (two hi hn e rfl) hc (aa hc hcol) sI
 |split k hi hn ho hs e=>?_
 |join k hi hn hj ho hij hp hk e=>?_
 |part k hi hn hc hcol hq hv hk ho e=>?_
 |merge k hi hn hj ho hij hc hp e=>?_
 |create k ho e=>exact .create k (by rw[e];exact(Fg _).2 (.inl rfl))
 |droptab k ho e=>?_
 |concat k hi hn hx ha ab hb hka hkb hp e=>?_
 |rule k e=>exact .same k e
 have h0:=aa hc hcol;have h1:=Km (X8 _ _) (λv hv=>by rw[Yu.1 hv];exact h0);exact .drop k (two hi hn e rfl) hc h0 h1.1 h1.2;rename_i i T;have h1:=Km (HD hs.asc) hs.rng;refine .split (T':=AE T x.cols) (O:=⟨x.other,(T.pk++x.cols).map (Wo T),W3 T.pk.length⟩) k ⟨Y4 hi,?_,Wf.1 hn,Wf.1 hn⟩ hs h1.1 h1.2 ?_ rfl sI;rw[e];exact(Fg _).2 (.inr (Ht hi));rw[e];exact(Fg _).2 (.inl rfl);rename_i i j T O;have ac:(S.tables.set i {T with cols:=T.cols++O.cols.drop T.pk.length})[j]?=some O:=by rw[YS hij];exact hj
 refine .join (T':={T with cols:=T.cols++O.cols.drop T.pk.length}) k ⟨Y4 hi,?_,Wf.1 hn,Wf.1 hn⟩ (Y4 hj) (Wf.1 ho) hp rfl;rw[e];exact(Z54 (Z2o (T':={T with cols:=T.cols++O.cols.drop T.pk.length}) hA hi rfl) ac _).2 ⟨Ht hi,λh=>Pu hA hi hj hij (show T.name=O.name from h)⟩;rename_i i T c aa b;refine .part (O:={T with name:=x.other}) k ⟨Y4 hi,?_,Wf.1 hn,Wf.1 hn⟩ ?_ rfl rfl;rw[e];exact(Fg _).2 (.inr (Y4 hi));rw[e];exact(Fg _).2 (.inl rfl);rename_i i j T O;refine .merge (T':={T with pk:=T.pk++[(T.cols.length:Int)],cols:=T.cols++[⟨x.column,2,false⟩]}) k ⟨Y4 hi,?_,Wf.1 hn,Wf.1 hn⟩ (Y4 hj) (Wf.1 ho) rfl;rw[e];refine List.mem_filter.2 ⟨Ht hi,?_⟩;cases h:strEq T.name O.name with
 |false=>simp
 |true=>exact absurd (Wf.1 h) (Pu hA hi hj hij)
 obtain⟨T,hT,hn⟩:=ho;exact .droptab k hT (Wf.1 hn);rename_i i T a b;have h1:=Km (T:=T) (rm:=x.cols) (by rw[hx];simp[ab]) (λv hv=>by rw[hx] at hv;simp at hv;omega);refine .concat k (two hi hn e rfl) hx ⟨ha,ab,hb⟩ ?_;have h2:=h1.1;rw[hx] at h2;simp only[AE,Ye,YN,Xt] at h2|-;rw[hx];omega
structure COK(S S':Sch)(x:Stp)(C:Sch):Prop where
 t6:C.tables.length<=6
 ck:∀T∈C.tables,T.pk.length<=6/\T.cols.length<=100
 nm:WT C.tables
 one:x.kind=1\/x.kind=2\/5<=x.kind/\x.kind<=8\/x.kind=12->∃ct ks,C.tables=[ct]/\∀T T',Two S S' x T T'->CT T ks ct/\I6 x T T' ks
 all:13<=x.kind->C.tables=S.tables
theorem No(T):WT [T]:=X8 _ _
theorem Two.uniq{S S'}(hS:VS S)(aa:VS S'){x T T' U U'}(t:Two S S' x T T')(u:Two S S' x U U'):U=T/\U'=T':=by have h1:=Bm hS.ord.1 t.s;have h2:=Bm hS.ord.1 u.s;have h3:=Bm aa.ord.1 t.s';have h4:=Bm aa.ord.1 u.s';rw[t.n] at h1;rw[u.n,h1] at h2;rw[t.n'] at h3;rw[u.n',h3] at h4;exact⟨(Option.some.inj h2).symm,(Option.some.inj h4).symm⟩
theorem OQ{S S' x}(h:Is (Uh S x) (S',0)):1<=x.kind/\x.kind<=16:=by
 unfold Uh at h;obtain⟨e,he,h⟩:=h.bind;cases h1:(e !=0) with
 |true=>rw[h1] at h;cases h;simp at h1
 |false=>?_
 rw[h1] at h;obtain⟨e2,aa,h⟩:=Is.bind h;cases h2:(e2 !=0) with
 |true=>rw[h2] at h;cases h;simp at h2
 |false=>?_
 obtain⟨r,hr,hq⟩:=Lr x;obtain rfl:e2=r:=Option.some.inj (aa.symm.trans hr);exact hq (by simpa using h2)
theorem SW{S S':Sch}{x:Stp}(af:Uh S x=some (S',0))(hS:VS S)(ab:VS S')(ev:EvT S S'.tables x):Wp (Ec S x) λq=>q.2=0/\COK S S' x q.1:=by
 have h6:=hS.t6;have h8:=hS.f8;have aa:∀{k:Int},x.kind=k->13<=k->Wp (Z1 (VW S) λv=>some (Sch.mk v.tables [] [],(0:Int))) λq=>q.2=0/\COK S S' x q.1:=λ{k} he hk1=>
  Wp.bind (Et S oM oM) λv _ hv=>Wp.ret ⟨rfl,by subst hv;exact⟨h6,λT hT=>⟨(hS.tab T hT).pk6,by have:=(hS.tab T hT).cols6;omega⟩,hS.ord.1,oM,λ_=>rfl⟩⟩
 have none:x.kind=3\/x.kind=4\/x.kind=9->COK S S' x (Sch.mk [] [] []):=λh=>⟨sI,sI,.nil,oM,oM⟩;have tb:∀{T:Tbl},x.kind=10\/x.kind=11->VT T->COK S S' x (Sch.mk [T] [] []):=λ{T} hk hT=>⟨sI,λU hU=>by rw[Yu.1 hU];exact⟨hT.pk6,by have:=hT.cols6;omega⟩,No _,oM,oM⟩;have sh:=PZ hS ev;unfold Ec;refine Wp.bind ⟨_,af,rfl⟩ λv _ hv=>?_;subst hv;refine Wp.cond (λh=>by simp at h) λ_=>Wp.cond (λh=>aa (by simpa using h) oM) λah=>Wp.cond (λh=>aa (by simpa using h) oM) λaj=>Wp.cond (λh=>aa (by simpa using h) oM) λak=>Wp.cond (λh=>aa (by simpa using h) oM) λag=>?_;refine Wp.cond (λh=>Wp.ret ⟨rfl,none (.inl (by simpa using h))⟩) λn3=>Wp.cond (λh=>Wp.ret ⟨rfl,none (.inr (.inl (by simpa using h)))⟩) λn4=>Wp.cond (λh=>Wp.ret ⟨rfl,none (.inr (.inr (by simpa using h)))⟩) λn9=>?_;simp at ah aj ak ag n3 n4 n9;have one:∀{T T':Tbl} (_:Two S S' x T T'),(x.kind=1\/x.kind=2\/5<=x.kind/\x.kind<=8\/x.kind=12)->(x.kind=2\/x.kind=5->∃c,W7 T x.column=some (c,true)/\0<=c/\c<T.cols.length/\(x.kind=5->c<T'.cols.length))->
   (x.kind=12->∃a b,x.cols=[a,b]/\0<=a/\a<T.cols.length/\0<=b/\b<T.cols.length)->(x.kind=7->T.cols.length<=T'.cols.length)->(x.kind=6->SplitOK T x.cols)->Wp (Z1 (Bb S S' x) λv=>some (Sch.mk [v] [] [],(0:Int))) λq=>q.2=0/\COK S S' x q.1:=by
  intro T T' t hk h2 h12 h7 h6';refine Wp.bind (Z5l hS ab hk t h2 h12 h7 h6') λct _ ac=>Wp.ret ⟨rfl,?_⟩;obtain⟨ks,ac,ae⟩:=ac;have hl:=ac.lens;have hp:=(hS.tab T t.s).pk6;have ap:=(hS.tab T t.s).cols6;have al:=(ab.tab T' t.s').cols6;have am:ks.length<=20:=by
   obtain⟨k1,k2,k5,ad,k8,k7,k6⟩:=ae;rcases show x.kind=1\/x.kind=2\/x.kind=5\/x.kind=6\/x.kind=7\/x.kind=8\/x.kind=12 by clear h2 h12 h7 h6' k1 k2 k5 ad k8 k7 k6;omega with h|h|h|h|h|h|h
   rw[k1 h];simp;obtain⟨c,-,-,-,h⟩:=k2 h;rw[h];simp;obtain⟨c,-,-,-,-,h⟩:=k5 h;rw[h];simp
   have:=Nu (HD (h6' h).asc) (h6' h).rng
   rw[k6 h,Yh];omega;rw[k7 h,Yh,YZ];omega;rw[k8 h];simp;obtain⟨a,b,-,-,-,-,-,h⟩:=ad h;rw[h];simp
  refine⟨sI,λU hU=>by rw[Yu.1 hU];omega,No _,λ_=>⟨ct,ks,rfl,λU U' u=>?_⟩,by clear h2 h12 h7 h6';omega⟩;obtain⟨rfl,rfl⟩:=t.uniq hS ab u;exact⟨ac,ae⟩
 cases sh with
 |add k t h=>exact one t oM oM oM oM oM
 |drop k t hc h0 h hp=>exact one t oM (λ_=>⟨_,hc,h0.1,h0.2,oM⟩) oM oM oM
 |type k t hc h0 h=>exact one t oM (λ_=>⟨_,hc,h0.1,h0.2,oM⟩) oM oM oM
 |split k t hs h hp o on oc=>exact one t oM oM oM oM (λ_=>hs)
 |join k t o on op hc=>exact one t oM oM oM (λ_=>by rw[hc];simp) oM
 |part k t o on oc=>exact one t oM oM oM oM oM
 |concat k t hx h0 h=>exact one t oM oM (λ_=>⟨_,_,hx,oM,oM,oM,oM⟩) oM oM
 |merge k t o on hc=>omega
 |create k n=>?_
 |droptab k t tn=>?_
 |same k e=>have:=(OQ af).2;omega
 |name k=>omega
 refine Wp.bind (R:=λv=>v=x.newTable) ?_ λv _ hv=>Wp.ret ⟨rfl,by rw[hv];exact tb (.inl k) (ab.tab _ n)⟩;unfold Bb;refine Wp.cond (λ_=>Wp.bind ⟨_,rfl,by cases x.newTable;rfl⟩ λy _ hy=>Wp.ret hy) λh=>by simp at h;omega
 rename_i T;obtain⟨i,hf,hi⟩:=Bn hS.ord.1 t;rw[tn] at hf;refine Wp.bind (R:=λv=>v=T) ?_ λv _ hv=>Wp.ret ⟨rfl,by rw[hv];exact tb (.inr k) (hS.tab _ t)⟩;unfold Bb;refine Wp.cond (λh=>by simp at h;omega) λ_=>Wp.bind (Wa hf) λf _ hf=>?_;subst hf;refine Wp.qG hi (Wp.cond (λ_=>Wp.bind ⟨_,rfl,by cases T;rfl⟩ λy _ hy=>Wp.ret hy) λh=>by simp at h;omega)
end
end Go.Am
section
namespace Go.Am
variable{M:Mp}{ρ σ:RN}
theorem Z2r(n k:Nat):((List.range n).map λi=>((k+i:Nat):Int)).Pairwise (·<·):=by
 rw[List.pairwise_map];exact List.pairwise_lt_range.imp λh=>oM
theorem Z3g{W ct:Tbl}{n:Nat}(hC:M.cs.tables=[ct])(hk:M.step.kind≠6)(hl:ct.cols.length=ct.pk.length+n)(aa:n<=W.cols.length)(h6:W.cols.length<=100):A3 M W=some ((List.range n).map λi=>((W.cols.length-n+i:Nat):Int)):=by
 have hL:=Vh;refine Ax ?_;unfold A3;refine Wp.cond (λh=>absurd (by simpa using h) hk) λ_=>?_;refine Wp.qG (i:=0) (show M.cs.tables[0]?=some ct by rw[hC];rfl) (Wp.chk (by simp only[W9];omega) ?_);rw[show((ct.cols.length:Int)-(ct.pk.length:Int)).toNat=n by omega];refine Wp.count (λi (s:List Int)=>s=(List.range i).map λi=>((W.cols.length-n+i:Nat):Int)) rfl ?_ λs hs=>Wp.ret hs;intro i s next hi hs hn
 refine Wp.chk (by simp only[W9];omega) (Wp.chk (by simp only[W9];omega) (Wp.app (by rw[hs];simp;omega) (Wp.chk (by simp only[W9];omega) (hn _ ?_))));rw[hs,List.range_succ,YP];simp;omega
theorem Dl(T:Tbl)(n:ByteArray)(h:0<T.cols.length):∃(c:Nat) (b:Bool),W7 T n=some ((c:Int),b)/\c<T.cols.length:=by
 obtain⟨r,hr,h0,h1,h2⟩:=US T n;refine⟨r.1.toNat,r.2,?_,?_⟩;rw[hr]
 congr 1
 exact Prod.ext sO rfl;cases hb:r.2 with
 |true=>have:=h1 hb;omega
 |false=>have:=h2 hb;omega
structure OutOK(M:Mp):Prop where
 ol:M.out.length=M.dst.tables.length
 oa:M.dst.tables=M.src.tables->∀(i:Nat) r T,M.out[i]?=some r->M.src.tables[i]?=some T->Wh T r.rows
 o24:∀r∈M.out,r.rows.length<=24
 nl:M.nc.length=M.cs.tables.length
 n0:∀r∈M.nc,r.rows=[]
theorem Z0x{S S' C:Sch}{x:Stp}(hS:VS S)(ak:VS S')(sh:Sh2 S S' x)(hC:COK S S' x C)(hk:1<=x.kind/\x.kind<=16)(L:LI M ρ σ)(hx:M.step=x)(hc:M.cs=C)(ok:OutOK M)
  (hd:(M.fwd=true/\M.src=S/\M.dst=S')\/(M.fwd=false/\M.src=S'/\M.dst=S)):Wl M (DT M):=by
 unfold DT;subst hx hc;refine Wp.chk hk ?_;have vt:∀{U:Tbl},U∈S.tables\/U∈S'.tables->0<U.cols.length/\U.cols.length<=6/\U.pk.length<=6:=λ{U} h=>by have hV:VT U:=h.elim (hS.tab U) (ak.tab U);exact⟨hV.cols0,hV.cols6,hV.pk6⟩
 cases sh with
 |add k t h=>?_
 |drop k t hc h0 h hp=>?_
 |name k=>?_
 |type k t hc h0 h=>?_
 |concat k t hx h0 h=>?_
 |split k t hs9 h hp o on oc=>?_
 |join k t o on op hc=>?_
 |part k t o on oc=>?_
 |merge k t o on hc=>?_
 |create k n=>simp[k];exact Pe L _
 |droptab k n tn=>simp[k];exact Pe L _
 |same k e=>?_
 rename_i T T';obtain⟨ct,ks,h1,h2⟩:=hC.one oM;obtain⟨ac,aa⟩:=h2 T T' t;have hl:=ac.lens;rw[aa.1 k] at hl;have v1:=vt (.inl t.s);have v2:=vt (.inr t.s');simp only[YN,Xt] at hl;rcases hd with⟨hf,hs,hd⟩|⟨hf,hs,hd⟩;simp only[k,hf,if_true];obtain⟨c,b,ab,hlt⟩:=Dl T' M.step.column v2.1;rw[Nv L (hs▸t.s) t.n (hd▸t.s') t.n' ab oM h1 hl.1 hl.2];exact Wl.ret (by simp[WE]) (by simp[WE]);simp only[k,hf,if_true];obtain⟨c,b,ab,hlt⟩:=Dl T' M.step.column v2.1
 have:=Nj L (hs▸t.s') t.n' ab hlt
 simp only[YH,if_false];rw[this];exact Wl.ret (by simp[WE]) (by simp[WE]);rename_i T T' c0;obtain⟨ct,ks,h1,h2⟩:=hC.one oM;obtain⟨ac,aa⟩:=h2 T T' t;have hl:=ac.lens;obtain⟨c9,-,-,-,aa⟩:=aa.2.1 k;rw[aa] at hl;have v1:=vt (.inl t.s);have v2:=vt (.inr t.s');simp only[YN,Xt] at hl;obtain⟨c,b,ab,hlt⟩:=Dl T M.step.column v1.1;rcases hd with⟨hf,hs,hd⟩|⟨hf,hs,hd⟩;simp only[k,hf,if_true,show¬(2:Int)=1 by decide,if_false];rw[Nj L (hs▸t.s) t.n ab hlt];exact Wl.ret (by simp[WE]) (by simp[WE]);simp only[k,hf,if_true,show¬(2:Int)=1 by decide,if_false,YH];rw[Nv L (hs▸t.s') t.n' (hd▸t.s) t.n ab oM h1 oM oM];exact Wl.ret (by simp[WE]) (by simp[WE]);rcases k with k|k;simp[k];exact Wl.ret rfl rfl;simp[k];exact Z4u L;rename_i T T' c0;obtain⟨ct,ks,h1,h2⟩:=hC.one oM;obtain⟨ac,aa⟩:=h2 T T' t;have hl:=ac.lens;obtain⟨c9,-,-,-,-,aa⟩:=aa.2.2.1 k;rw[aa] at hl;have v1:=vt (.inl t.s);have v2:=vt (.inr t.s');simp only[YN,Xt] at hl;obtain⟨c,b,ab,hlt⟩:=Dl T M.step.column v1.1;obtain⟨c',b',ae,am⟩:=Dl T' M.step.column v2.1;have cc:∀{U W:Tbl} (hU:U∈M.src.tables) (hW:W∈M.dst.tables) (hu:U.name=M.step.table) (hw:W.name=M.step.table) {a b:Nat} {p q:Bool},W7 U M.step.column=some ((a:Int),p)->W7 W M.step.column=some ((b:Int),q)->B3 M=some ([(a:Int)],[(b:Int)]):=by
  intro U W hU hW hu hw a b p q ha hb;refine Ax ?_;unfold B3;refine Wp.bind (UW L hU hu) λq _ hq=>Wp.bind (DC L hW hw) λW2 _ hW2=>?_;subst hq hW2;refine Wp.bind (Wa ha) λv _ hv=>Wp.bind (Wa hb) λw _ hw=>?_;subst hv hw;exact Wp.cond (λ_=>Wp.ret rfl) λh=>by simp[k] at h
 simp[k];have cv:∀hv:List GV,hv.length=1->(∀v∈hv,WD v=some 0)->Wp (A7 M hv) λr=>r.1.length=1:=λhv h9 _=>Z0z h1 k oM h9;rcases hd with⟨hf,hs,hd⟩|⟨hf,hs,hd⟩;exact Gw (n:=1) L (hs▸t.s) t.n (hd▸t.s') t.n' h1 oM (cc (hs▸t.s) (hd▸t.s') t.n t.n' ab ae) (λv hv=>by rw[Yu.1 hv];omega) (X8 _ _) (λv hv=>by rw[Yu.1 hv];omega) (X8 _ _) sO (by simp[hf]) sI cv;exact Gw (n:=1) L (hs▸t.s') t.n' (hd▸t.s) t.n h1 oM (cc (hs▸t.s') (hd▸t.s) t.n' t.n ae ab) (λv hv=>by rw[Yu.1 hv];omega) (X8 _ _) (λv hv=>by rw[Yu.1 hv];omega) (X8 _ _) sO (by simp[hf]) sI cv;rename_i T T' a b;obtain⟨ct,ks,h1,h2⟩:=hC.one oM;obtain⟨ac,aa⟩:=h2 T T' t;have hl:=ac.lens;obtain⟨a9,b9,-,-,-,-,-,aa⟩:=aa.2.2.2.1 k;rw[aa] at hl;have v1:=vt (.inl t.s);have v2:=vt (.inr t.s');simp only[YN,Xt] at hl;have aj:∀v∈[a,b],0<=v/\v<(T.cols.length:Int):=λv hv=>by simp at hv;omega
 have af:[a,b].Pairwise (·<·):=sO;have ad:∀v∈[(T'.cols.length:Int)-1],0<=v/\v<(T'.cols.length:Int):=λv hv=>by rw[Yu.1 hv];omega
 simp[k];have cv:∀hv:List GV,hv.length=(if M.fwd then 2 else 1)->(∀v∈hv,WD v=some 0)->Wp (A7 M hv) λr=>r.1.length=if M.fwd then 1 else 2:=λhv h9 h8=>Z0y h1 k oM h9 h8
 rcases hd with⟨hf,hs,hd⟩|⟨hf,hs,hd⟩;rw[hf] at cv;refine Gw (n:=2) L (hs▸t.s) t.n (hd▸t.s') t.n' h1 oM (ai:=[a,b]) (ao:=[(T'.cols.length:Int)-1]) ?_ aj af ad (X8 _ _) sO (by simp[hf]) sI cv;refine Ax ?_;unfold B3;refine Wp.bind (UW L (hs▸t.s) t.n) λq _ hq=>Wp.bind (DC L (hd▸t.s') t.n') λW2 _ hW2=>?_;subst hq hW2;refine Wp.bind (US _ _) λv _ hv=>Wp.bind (US _ _) λw _ hw=>Wp.cond (λh=>by simp[k] at h) λ_=>Wp.cond (λ_=>Wp.chk (by simp only[W9];omega) (Wp.ret (by rw[hx]))) λh=>by simp[hf] at h
 rw[hf] at cv;refine Gw (n:=2) L (hs▸t.s') t.n' (hd▸t.s) t.n h1 oM (ai:=[(T'.cols.length:Int)-1]) (ao:=[a,b]) ?_ ad (X8 _ _) aj af sO (by simp[hf]) sI cv;refine Ax ?_;unfold B3;refine Wp.bind (UW L (hs▸t.s') t.n') λq _ hq=>Wp.bind (DC L (hd▸t.s) t.n) λW2 _ hW2=>?_;subst hq hW2;refine Wp.bind (US _ _) λv _ hv=>Wp.bind (US _ _) λw _ hw=>Wp.cond (λh=>by simp[k] at h) λ_=>Wp.cond (λh=>by simp[hf] at h) λ_=>Wp.chk (by simp only[W9];omega) (Wp.ret (by rw[hx]));rename_i T T' O;obtain⟨ct,ks,h1,h2⟩:=hC.one oM;obtain⟨ac,aa⟩:=h2 T T' t;have hl:=ac.lens;rw[aa.2.2.2.2.2.2 k,Yh] at hl;have v1:=vt (.inl t.s);have v2:=vt (.inr t.s');have mv:∀W,A3 M W=some M.step.cols:=λW=>by unfold A3;simp[k]
 rcases hd with⟨hf,hs,hd⟩|⟨hf,hs,hd⟩;simp[k,hf];exact OH L (hs▸t.s) t.n h1 oM ((Wa (mv T)).mono λ_ _ _=>trivial);simp[k,hf];exact Pd L (hs▸t.s') t.n' (hs▸o) on (hd▸t.s) t.n h1 oM (mv T) hs9.rng (HD hs9.asc) oM oM;rename_i T T' O;obtain⟨ct,ks,h1,h2⟩:=hC.one oM;obtain⟨ac,aa⟩:=h2 T T' t;have hl:=ac.lens;rw[aa.2.2.2.2.2.1 k,Yh,hc,XI,YZ] at hl;have v1:=vt (.inl t.s);have v2:=vt (.inr t.s');have ap:T'.cols.length=T.cols.length+(O.cols.length-T.pk.length):=by rw[hc];simp
 have hO:T.pk.length<=O.cols.length:=by
  have hV:=(hS.tab O o).pk;cases hn:T.pk.length with
  |zero=>omega
  |succ n=>?_
  have:=hV (n:Int) (by rw[op,hn,Nh];simp)
  omega
 have mv:=Z3g (M:=M) (W:=T') (n:=O.cols.length-T.pk.length) h1 oM oM oM oM;rcases hd with⟨hf,hs,hd⟩|⟨hf,hs,hd⟩;simp[k,hf];refine Pd L (hs▸t.s) t.n (hs▸o) on (hd▸t.s') t.n' h1 sO mv (λv hv=>?_) (Z2r _ _) sO sO;obtain⟨j,hj,rfl⟩:=Yi.1 hv
 have:=XR.1 hj
 omega;simp[k,hf];exact OH L (hs▸t.s') t.n' h1 oM ((Wa mv).mono λ_ _ _=>trivial);rename_i T O;obtain⟨ct,ks,h1,h2⟩:=hC.one oM;obtain⟨ac,aa⟩:=h2 T T t;have hl:=ac.lens;rw[aa.2.2.2.2.1 k] at hl;simp only[YN,Xt] at hl;have v1:=vt (.inl t.s);obtain⟨c,b,ab,hlt⟩:=Dl T M.step.column v1.1;rcases hd with⟨hf,hs,hd⟩|⟨hf,hs,hd⟩;simp[k,hf];exact Tv L (hs▸t.s) t.n ab oM oM h1 oM;simp[k,hf];exact Z6w L (hs▸t.s') t.n' (hs▸o) on (by rw[oc]) ab oM oM h1;rename_i T T' O;rcases hd with⟨hf,hs,hd⟩|⟨hf,hs,hd⟩;simp[k,hf];exact Z6x L (hs▸t.s) t.n (hs▸o) on (hd▸t.s') t.n';simp[k,hf];exact Z2l L (hs▸t.s') t.n' ⟨_,_,hc,rfl,rfl⟩;have hall:=hC.all k;have ag:M.dst.tables=M.src.tables:=by rcases hd with⟨-,hs,hd⟩|⟨-,hs,hd⟩;rw[hs,hd,e];rw[hs,hd,e]
 have ah:M.cs.tables=M.src.tables:=by rcases hd with⟨-,hs,hd⟩|⟨-,hs,hd⟩;rw[hs,hall];rw[hs,hall,e]
 have t1:=Z0w L ag ah ok.ol ok.nl ok.n0;have t2:=Z0v L ag ah ok.ol (ok.oa ag) ok.o24 ok.nl ok.n0;have al:M.step.kind=13\/M.step.kind=14\/M.step.kind=15\/M.step.kind=16:=oM
 rcases al with hk|hk|hk|hk<;>rcases hd with⟨hf,-,-⟩|⟨hf,-,-⟩<;>simp[hk,hf]<;>first|exact t1|exact t2
end Go.Am
end
namespace Go.Am
section
theorem Do{c:C}{xs:List (List D)}(h:c.toD=some (.sl xs)):Rd c xs:=by
 cases c<;>simp[C.toD] at h<;>subst h<;>exact⟨rfl,rfl,λ_=>rfl⟩
def DD(M:Mp):List C:=M.step.enc.map C.d++[.d (.bool M.fwd),.d (.sl (M.src.tables.map Tbl.enc)),.d (.sl (M.src.fks.map Fk.enc)),.d (.sl (M.src.cons.map Cons.enc)),.d (.sl (M.dst.tables.map Tbl.enc)),.d (.sl (M.dst.fks.map Fk.enc)),.d (.sl (M.dst.cons.map Cons.enc)),
 .d (.sl (M.cs.tables.map Tbl.enc)),.d (.sl (M.cs.fks.map Fk.enc)),.d (.sl (M.cs.cons.map Cons.enc)),.nil,.nil,.nil,.nil,.d (.int .i64 0)]
def D5(M:Mp)(inp comp:List Rel):Option (List Rel×List Rel×Int):=
 Z1 (VH M.src inp) λe1=>bif e1 !=0 then some ([],[],e1) else
 Z1 (VH M.cs comp) λe2=>bif e2 !=0 then some ([],[],e2) else
 Z1 (V9 inp) λi2=>Z1 (V9 comp) λc2=>Z1 (Uu M.dst) λo=>Z1 (Uu M.cs) λn=>
 Zc (λ(i:Nat) (rel:Rel) (s:List Rel) next=>Z1 (ZY M.src rel.table) λf=>
  bif f.2 then Z1 (WZ M.src inp rel.table) λq=>next (s.set i ⟨rel.table,q.2⟩) else next s)
 (λs=>Z1 (DT {M with inp:=i2,comp:=c2,out:=s,nc:=n,err:=0}) λM2=>Zp (M2.out.length+M2.nc.length<=2097152)
  (Zc (λ(_:Nat) (rel:Rel) (e:Int) next=>next (bif decide (24<rel.rows.length)&&(e==0) then 12 else e))
   (λe=>bif e !=0 then some ([],[],e) else some (M2.out,M2.nc,0)) (M2.out++M2.nc) 0 M2.err)) o 0 o
theorem MV(h0:HS)(l:Z2)(M:Mp)(inp comp:List Rel)(r:List Rel×List Rel×Int)(hb:h0.box l=some (DD M))(bw:l.1<h0.ep)(hm:Is (D5 M inp comp) r)(K:V->HS->Prop)
  (hK:∀c1 c2 h',Frz h' c1 (.sl (r.1.map Rel.enc))->Frz h' c2 (.sl (r.2.1.map Rel.enc))->K (.tup [.one c1,.one c2,.i r.2.2]) h'):
  Z3 prog 142 [.p l,.l (inp.map Rel.enc),.l (comp.map Rel.enc)] h0 K:=by
 refine Z3.ov Tryz.func142 ?_;unfold D5 at hm;have hne:=Zm bw;have hne':=ZO bw;simp only[DD,Stp.enc,Yb,Yd,Yk,Yn] at hb;obtain⟨e1,cc,hm⟩:=hm.bind;simp[hb];refine Zq ((Ee M.src inp).h e1 cc) sI ?_;simp;refine Zy hm ?_ ?_<;>clear hm<;>intro c6 hm;obtain rfl:=Zh hm;simp[ZG,Zz,ZL,ZR];exact hK .nil .nil _ (.data rfl) (.data rfl);obtain⟨e2,b9,hm⟩:=hm.bind;simp[hb];refine Zq ((Ee M.cs comp).h e2 b9) sI ?_;simp;refine Zy hm ?_ ?_<;>clear hm<;>intro cw hm;obtain rfl:=Zh hm;simp[ZG,Zz,ZL,ZR];exact hK .nil .nil _ (.data rfl) (.data rfl);obtain⟨i2,b6,hm⟩:=hm.bind;obtain⟨c2,bo,hm⟩:=hm.bind;simp[hb];refine Zq ((CX inp).h i2 b6) sI ?_;simp[hb];refine Zq ((CX comp).h c2 bo) sI ?_;simp[hb];obtain⟨o,ho,hm⟩:=hm.bind;obtain⟨n,hn,hm⟩:=hm.bind;have cj:∀k,h0.ep<=k->l.1<k:=λk hk=>oM
 refine Z4.cu [0,1,2,3,4,5,7,8,9,10,6,11,12,13,14,15,16,17] (λE1 h1=>∃co cn,En E1 150 [(0,.p l),(1,.l (inp.map Rel.enc))]/\
  MpAt h1 l co cn {M with inp:=i2,comp:=c2,out:=o,nc:=n,err:=0}/\Z0 h0 h1 [l]/\(∀k∈labs co++labs cn,h0.ep<=k.1)/\MR h1 2 cn (n.map UF)/\∀r∈n,r.rows=[]) ?_ ?_
 .simp;refine Za (LP _ M.dst o ho _ λco h1 ro a1 af ak=>?_);have b1:=a1.2 l sO sI;simp at b1;simp[b1];refine⟨ak,?_⟩;refine Za (LF _ M.cs n hn _ λcn h2 mn az hs2 cg hb2=>?_);have rn:=OM mn az;have b2:=hs2.2 l (by have:=a1.1;simp at this;omega) sI;rw[b1] at b2;simp[b2];have bm:=a1.1;have br:=hs2.1;simp at bm;have ad:∀k∈labs co,h0.ep<=k.1/\k.1<h1.ep:=λk hk=>by have:=af k hk;simp at this;omega
  have ag:∀k∈labs cn,h1.ep<=k.1/\k.1<h2.ep:=λk hk=>cg k hk;have ae:∀k∈labs co,k≠l:=λk hk he=>by have:=(ad k hk).1;rw[he] at this;omega
  have am:∀k∈labs cn,k≠l:=λk hk he=>by have:=(ag k hk).1;rw[he] at this;omega
  refine⟨hb2,Zb.of ⟨co,cn,sI,⟨by simp[Wt,Mp.enc,Stp.enc],ro.frame λk hk=>?_,rn.frame λk hk=>?_,λk hk=>?_,?_,?_,?_⟩,?_,λk hk=>?_,mn.frame λk hk=>?_,az⟩⟩
  have:=hs2.2 k (ad k hk).2 sI
  simp[ae k hk,this];simp[am k hk];simp only[Y9,Y2] at hk;simp;rcases hk with rfl|hk|hk;omega
  have:=(ad k hk).2;omega
  exact(ag k hk).2;exact λh9=>ae l h9 rfl;exact λh9=>am l h9 rfl;exact λk hk h9=>by have:=(ad k hk).2;have:=(ag k h9).1;omega
  .refine Z0.qA (Z0.qA ?_ (.inl sI)) (.inl sI);refine Z0.trans ?_ (hs2.mn);refine Z0.trans ?_ (a1.mn)
   repeat' first|exact Z0.refl|apply Z0.next|apply Z0.qC|(refine Z0.qA ?_ (.inl sI))
  rcases Y2.1 hk with h9|h9;exact(ad k h9).1
  have:=(ag k h9).1;omega
  simp[am k hk]
 rintro E1 h1 ⟨co,cn,hE,mA,cz,cx,hN,az⟩;have bd:=mA.box;simp only[Wt,Mp.enc,Stp.enc,Yb,Yd,Yk,Yn] at bd;obtain⟨xs,mx,-,hlen,cq⟩:=mA.out.len;simp[hE,bd];refine MR.lenK mx ?_;simp[hE,bd];have cp:o.length<=2097152:=by have:=mx.2.1;rw[hlen] at this;simpa using this
 have ci:l.1<h1.ep:=mA.lt l sI;refine Z4.for (xs:=o) (s0:=o) (λi s E h'=>Ek E1 E [(64,.one co),(65,.i (o.length:Int)),(66,.i (i:Int))] [0,1]/\
  MpAt h' l co cn {M with inp:=i2,comp:=c2,out:=s,nc:=n,err:=0}/\Z0 h1 h' (labs co)/\s.length=o.length/\∀j,i<=j->s[j]?=o[j]?) hm ⟨by simp[hE,hlen],mA,.refl,rfl,λ_ _=>rfl⟩ ?_ ?_
 rintro i s e h' ⟨hF,m1,hs,bf,hj⟩ hlt hm;have hE:=hF.an hE;have hw:IntKind.i64.wrap ((i:Int)+1)=(i:Int)+1:=Y5 _ oM;have ak:=m1.box;simp only[Wt,Mp.enc,Stp.enc,Yb,Yd,Yk,Yn] at ak;obtain⟨ys,my,he',hyl,ch⟩:=m1.out.len;have b8:s[i]?=some o[i]:=by rw[hj i (Y7 _)];exact Y1 hlt
 obtain⟨c',hx,bn⟩:=ch i _ b8;have aw:i<ys.length:=(Y0.1 hx).1;obtain⟨lo,cap,sp,rfl,bl,hcap⟩:=my.block oM;have bj:Zl 2 ((Z8 ys sp).drop (i*2))=some [.d (.str o[i].table),c']:=by have h9:=Vf (sp:=sp) (f:=0) (m:=2) my.1 hx sI;simpa[Zl] using h9
 have cv:=Up (sp:=sp) my.1 (k:=i) aw;have ax:l.1<h'.ep:=m1.lt l sI;have ae:=Zm ax;have a8:=ZO ax;have bi:lo.1<h'.ep:=m1.lt lo (by simp[labs]);have cl:=Zm bi;have ck:=ZO bi;obtain⟨f,hf,hm⟩:=hm.bind;simp[hE,hlt,ak,aw,bl,bj];refine Z4.cu [0,1,2,3,4,5,6,7,8,9,10,11] (λE h2=>Ek e E [(64,.one (.mrow lo 0 ys.length cap))] [0,1,65,66]/\
  E.get 11=.i (i:Int)/\E.get 12=.p (h'.ep,192)/\h2.box (h'.ep,192)=some [.d (.str o[i].table),c']/\E.get 14=.b f.2/\Z0 h' h2 []/\h'.ep<h2.ep) ?_ ?_
 simp[hE,ak,ae,a8];refine Zq ((UO M.src o[i].table).h f hf) sI ?_;simp[hE,ak,ae,a8]
 try refine⟨λ_ _ x=>x,?_⟩
 refine Zb.of ⟨by simp[hE],by simp[hE],by simp[hE],sI,sI,?_,sI⟩;exact sm;rintro e2 h2 ⟨hF,al,ar,b0,aq,hs2,br⟩;have hE:=hF.an hE;have m2:=m1.frame hs2;have hb2:=m2.box;simp only[Wt,Mp.enc,Stp.enc,Yb,Yd,Yk,Yn] at hb2;have bk:=(hs2.2 lo bi sI).trans bl;simp[hE,al,ar,aq];refine Zy hm ?_ ?_<;>clear hm<;>intro hc hm;obtain⟨q,hq,hm⟩:=hm.bind;simp[hE,al,ar,aq];have cf:i*2+1+1<=(Z8 ys sp).length:=oM
 refine Z4.cu [0,1,2,3,4,5,6,7,8,9,10,11,12,13,14,15,16,17,18] (λE h3=>Ek e2 E [] [0,1,64,65,66]/\
  MpAt h3 l (.mrow lo 0 ys.length cap) cn {M with inp:=i2,comp:=c2,out:=s.set i ⟨o[i].table,q.2⟩,nc:=n,err:=0}/\Z0 h' h3 [lo]) ?_ ?_
 simp[hE,al,ar,aq,hb2,b0];refine Zq ((S6 M.src inp o[i].table).h q hq) sI ?_;simp[hE,al,ar,aq,hb2,b0,aw,bk,cf];have bb:=m1.nl.1;simp[labs] at bb
 try refine⟨λ_ _ x=>x,?_⟩
 refine Zb.of ⟨by simp[hE],⟨?_,?_,?_,?_,m1.nl⟩,?_⟩;simp[bb];exact m2.box;exact Hk my.1 rfl my.2.1 hcap hx rfl he' _;exact m2.nc.frame λk b4=>by
  have:=m1.nl.2.2 lo (by simp[labs])
  have:k≠lo:=by rintro rfl;exact this b4
  simp[this]
 intro k hk
 have:=m2.lt k hk
 simp;omega;exact((hs2.mn).next).qA (.inl sI);rintro e3 h3 ⟨hF,m3,hs3⟩;have hE:=hF.an hE;simp[hE,hw];exact Ze.of (s.set i ⟨o[i].table,q.2⟩) ⟨⟨by simp[hE],m3,hs.trans (hs3.mono (by simp[labs])),by simpa using bf,λj hij=>by rw[YS oM];exact hj j oM⟩,hm⟩;simp[hE,al,ar,aq,hw];exact Ze.of s ⟨⟨by simp[hE],m2,hs.trans (hs2.mn),bf,λj hij=>hj j oM⟩,hm⟩;rintro s e h' ⟨hF,m1,hs,bf,hj⟩ hm;have hE:=hF.an hE;simp[hE];obtain⟨M2,cb,hm⟩:=hm.bind;obtain⟨hlen2,hm⟩:=hm.chk;refine Za (Se _ l co cn _ M2 cb m1 (hN.frame λk hk=>hs.2 k (mA.lt k (by simp[hk])) λh9=>mA.nl.2.2 k h9 hk) az _ λh2 ap a7 m2 hs2=>?_);have hb2:=m2.box;simp only[Wt,Mp.enc,Stp.enc,Yb,Yd,Yk,Yn] at hb2;obtain⟨xo,mo,cy,bc,ce⟩:=m2.out.len;obtain⟨xn,mn,hxn,ae,bt⟩:=m2.nc.len;simp[hE];refine Z4.cu [0,1,2,3,5,6,7,8,11,4,9,10] (λe3 h3=>∃ca,En e3 150 [(0,.p l),(112,.one ca),(113,.i ((xo++xn).length:Int)),(114,.i 0)]/\MR h3 2 ca (xo++xn)/\Z0 h2 h3 []/\(∀k∈labs ca,h2.ep<=k.1/\k.1<h3.ep)) ?_ ?_;simp[hE,hb2];refine Za (QB _ ap xo mo.rd _ λca h3 ma bg af be=>?_);simp[hE,hb2];refine⟨be,?_⟩;refine W5 Bt kR dE dE ma (MR.rd (mn.frame λk hk=>bg.2 k (m2.lt k (by simp[hk])) sI)) (by rw[bc,ae];exact hlen2) λcd h4 bp ba bv=>?_;simp[hE,hb2];refine MR.lenK bp ?_;simp[hE,hb2];refine Zb.of ⟨cd,by simp[hE],bp,bg.trans' ba λk hk=>.inr (af k hk).1,λk hk=>?_⟩;rcases bv k hk with h9|h9;exact⟨(af k h9).1,Y3 (af k h9).2 ba.1⟩;exact⟨Yv bg.1 h9.1,h9.2⟩;rintro e3 h3 ⟨ca,hE,ma,hs3,af⟩;have m3:=m2.frame hs3;have hL:(xo++xn).length=(M2.out++M2.nc).length:=by simp[bc,ae]
 have au:∀(i:Nat) (rel:Rel),(M2.out++M2.nc)[i]?=some rel->∃c',(xo++xn)[i]?=some [.d (.str rel.table),c']/\c'.toD=some (.sl (rel.rows.map (Z6 GV.enc))):=by intro i rel hi;rcases YA i M2.out.length with h9|h9;rw[Yq h9] at hi;rw[Yq oM];exact ce i rel hi;rw[YM h9] at hi;rw[YM oM,bc];exact bt _ rel hi
 generalize M2.out++M2.nc=L at hm hL au;generalize xo++xn=X at hE ma hL au;refine Z4.for (xs:=L) (s0:=M2.err) (λi s E h'=>Ek e3 E [(113,.i (L.length:Int)),(114,.i (i:Int))] [0,112]/\
  MpAt h' l ap a7 {M2 with err:=s}/\MR h' 2 ca (X)/\∀k∈labs ca,k≠l/\k.1<h'.ep) hm ⟨by simp[hE,hL],m3,ma,λk hk=>⟨λhe=>?_,(af k hk).2⟩⟩ ?_ ?_
 have:=(af k hk).1
 have:=m2.lt l sI
 rw[he] at*;omega
 .rintro i s e h' ⟨hF,m4,aj,aa⟩ hlt hm;have hE:=hF.an hE;have hw:IntKind.i64.wrap ((i:Int)+1)=(i:Int)+1:=Y5 _ (by have:=aj.2.1;rw[hL] at this;simp at this;omega);have ab:=m4.box;simp only[Wt,Mp.enc,Stp.enc,Yb,Yd,Yk,Yn] at ab;obtain⟨c',hx,bn⟩:=au i _ (Y1 hlt);have aw:i<X.length:=oM
  obtain⟨la,cap,sp,rfl,be,hcap⟩:=aj.block oM;have bj:Zl 2 ((Z8 X sp).drop (i*2))=some [.d (.str L[i].table),c']:=by have h9:=Vf (sp:=sp) (f:=0) (m:=2) aj.1 hx sI;simpa[Zl] using h9
  have ax:l.1<h'.ep:=m4.lt l sI;have ah:=Zm ax;have ac:=ZO ax;simp[hE,hlt,aw,be,bj];refine As (Do bn).1 (λcm=>?_);simp[hE,ab,ah,ac];have same:∀(h6:HS) (e6:Env),Z0 h' h6 []->e6.n=150->e6.get 0=.p l->e6.get 112=.one (.mrow la 0 X.length cap)->e6.get 113=.i (L.length:Int)->e6.get 114=.i ((i:Int)+1)->
    (bif decide (24<L[i].rows.length)&&(s==0) then 12 else s)=s->Ze (I:=⟨λs' e h=>(Ek e3 e [(113,.i (L.length:Int)),(114,.i ((i+1:Nat):Int))] [0,112]/\
  MpAt h l ap a7 {M2 with err:=s'}/\MR h 2 (.mrow la 0 X.length cap) X/\∀k∈labs (.mrow la 0 X.length cap),k≠l/\k.1<h.ep)/\Is (Zc (λ(_:Nat) (rel:Rel) (e:Int) next=>next (bif decide (24<rel.rows.length)&&(e==0) then 12 else e)) (λe=>bif e !=0 then some ([],[],e) else some (M2.out,M2.nc,0)) (L.drop (i+1)) (i+1) s') r⟩) e6 h6:=by
   intro h6 e6 bh b7 g0 bq b3 bu b5;rw[b5] at hm;exact Ze.of s ⟨⟨by simp[hE,b7,g0,bq,b3,bu],m4.frame bh,aj.frame λk hk=>bh.2 k (aa k hk).2 sI,λk hk=>⟨(aa k hk).1,Y3 (aa k hk).2 bh.1⟩⟩,hm⟩
  by_cases hg:24<L[i].rows.length;have ay:(24:Int)<(L[i].rows.length:Int):=oM
  by_cases hz:s=0;subst hz;simp[hg] at hm;simp[hE,hw,ab,ah,ac,ay];refine Ze.of 12 ⟨⟨by simp[hE],⟨by simp[Wt,Mp.enc,Stp.enc],m4.out.frame λk hk=>?_,m4.nc.frame λk hk=>?_,λk hk=>?_,m4.nl⟩,aj.frame λk hk=>?_,λk hk=>⟨(aa k hk).1,?_⟩⟩,by simpa using hm⟩;have h1:k≠l:=by rintro rfl;exact m4.nl.1 hk
  have h2:=Zm (l:=k) (n:=h'.ep) (m4.lt k (by simp[hk]));simp[h1,h2];have h1:k≠l:=by rintro rfl;exact m4.nl.2.1 hk
  have h2:=Zm (l:=k) (n:=h'.ep) (m4.lt k (by simp[hk]));simp[h1,h2]
  have:=m4.lt k hk
  simp;omega;have h1:=(aa k hk).1;have h2:=Zm (l:=k) (n:=h'.ep) (aa k hk).2;simp[h1,h2]
  have:=(aa k hk).2
  simp;omega;have bz:(s==0)=false:=by simpa using hz
  simp[hE,hw,ab,ah,ac,ay,bz];refine same _ _ ?_ ?_ ?_ ?_ ?_ ?_ ?_;exact sm;simp[hE];simp[hE];simp[hE];simp[hE];simp;rw[bz,Bool.and_false];rfl;have ay:¬(24:Int)<(L[i].rows.length:Int):=oM
  simp[hE,hw,ab,ah,ac,ay];refine same _ _ ?_ ?_ ?_ ?_ ?_ ?_ ?_;exact sm;simp[hE];simp[hE];simp[hE];simp[hE];simp;simp[hg]
 rintro s e h' ⟨hF,m4,aj,aa⟩ hm;have hE:=hF.an hE;have ab:=m4.box;simp only[Wt,Mp.enc,Stp.enc,Yb,Yd,Yk,Yn] at ab;simp[hE,ab];refine Zy hm ?_ ?_<;>clear hm<;>intro hc hm;obtain rfl:=Zh hm;simp[hE,ab];refine Z4.cu [0,1,2,3,4,5,6] (λe4 h4=>En e4 150 [(6,.one .nil),(7,.one .nil),(8,.i s)]) ?_ ?_;simp[hE,ab];exact Zb.of (by simp[hE]);rintro e4 h4 hE;simp[ZG,Zz,ZL,ZR,hE];exact hK .nil .nil _ (.data rfl) (.data rfl);obtain rfl:=Zh hm;simp[hE,ab];refine Z4.cu [0,1,2,3,4,5,6,7,8,9,10] (λe4 h4=>h4=h'/\En e4 150 [(6,.one ap),(7,.one a7),(8,.i 0)]) ?_ ?_;simp[hE,ab];exact Zb.of ⟨rfl,by simp[hE]⟩;rintro e4 h4 ⟨rfl,hE⟩;simp[ZG,Zz,ZL,ZR,hE];exact hK ap a7 _ m4.out.frz m4.nc.frz
def CQ(step:Stp):Option Stp:=
 Z1 (CK step.cols) λv3=>Z1 (BS step.newTable) λv4=>Z1 (CK step.fk.cols) λv5=>some (Stp.mk step.kind step.table step.other step.column step.newName step.type v3 step.op step.value v4 step.cons (Fk.mk step.fk.table v5 step.fk.ref))
instance LK(step:Stp):Con (CQ step) prog 140 [.agg step.enc] (λr=>.agg (r.enc.map RC.d)):=by unfold CQ;exact go 18 Tryz.func140
def Eu(S:Sch)(step:Stp)(source comp:List Rel):Option (List Rel×List Rel×Int):=
 Z1 (Be S step) λq=>bif q.2.2 !=0 then some ([],[],q.2.2) else
 Z1 (CQ step) λst=>Z1 (VW S) λS2=>D5 ⟨st,true,S2,q.1,q.2.1,[],[],[],[],0⟩ source comp
def Es(S:Sch)(step:Stp)(target comp:List Rel):Option (List Rel×List Rel×Int):=
 Z1 (Be S step) λq=>bif q.2.2 !=0 then some ([],[],q.2.2) else
 Z1 (CQ step) λst=>Z1 (VW S) λS2=>D5 ⟨st,false,q.1,S2,q.2.1,[],[],[],[],0⟩ target comp
theorem Sx(S:Sch)(step:Stp)(source comp:List Rel)(r:List Rel×List Rel×Int)(hm:Is (Eu S step source comp) r):
  Zj prog 130 [.agg S.enc,.agg step.enc,.l (source.map Rel.enc),.l (comp.map Rel.enc)] (.tup [.l (r.1.map Rel.enc),.l (r.2.1.map Rel.enc),.i r.2.2]):=by
 unfold Eu at hm;refine Zj.of_heap ?_;show Z3 _ _ [.agg (S.enc.map C.d),.agg (step.enc.map C.d),.l (source.map Rel.enc),.l (comp.map Rel.enc)] HS.init _;refine Z3.ov Tryz.func130 ?_;obtain⟨q,hq,hm⟩:=hm.bind;simp;refine Zq (IS S step q hq) sI ?_;simp;refine Zy hm ?_ ?_<;>clear hm<;>intro hc hm;obtain rfl:=Zh hm;simp[ZG,Zz,ZL,ZR];exact⟨.data rfl,.data rfl,.data rfl,trivial⟩;obtain⟨st,hst,hm⟩:=hm.bind;obtain⟨S2,aa,hm⟩:=hm.bind;simp;refine Z4.cu [0,2,4,5,1,3,6,7,8] (λe1 h1=>∃l,En e1 40 [(2,.l (source.map Rel.enc)),(3,.l (comp.map Rel.enc)),(14,.p l)]/\l.1<h1.ep/\h1.box l=some (DD ⟨st,true,S2,q.1,q.2.1,[],[],[],[],0⟩)) ?_ ?_;simp;refine Zq ((LK step).h st hst) sI ?_;simp
 try refine⟨λ_ _ x=>x,?_⟩
 refine Zq (IQ S S2 aa) sI ?_;simp;refine⟨λ_ _ x=>x,?_⟩
 try simp
 exact Zb.of ⟨(7,512),sI,sI,by simp[DD,Stp.enc]⟩;rintro e1 h1 ⟨l,hE,hl,hb⟩;simp[hE];refine Za (MV _ l _ source comp r hb hl hm _ λc1 c2 h2 f1 f2=>?_);simp[ZG,Zz,ZL,ZR,hE];exact⟨f1,f2,.data rfl,trivial⟩
theorem Sj(S:Sch)(step:Stp)(target comp:List Rel)(r:List Rel×List Rel×Int)(hm:Is (Es S step target comp) r):
  Zj prog 131 [.agg S.enc,.agg step.enc,.l (target.map Rel.enc),.l (comp.map Rel.enc)] (.tup [.l (r.1.map Rel.enc),.l (r.2.1.map Rel.enc),.i r.2.2]):=by
 unfold Es at hm;refine Zj.of_heap ?_;show Z3 _ _ [.agg (S.enc.map C.d),.agg (step.enc.map C.d),.l (target.map Rel.enc),.l (comp.map Rel.enc)] HS.init _;refine Z3.ov Tryz.func131 ?_;obtain⟨q,hq,hm⟩:=hm.bind;simp;refine Zq (IS S step q hq) sI ?_;simp;refine Zy hm ?_ ?_<;>clear hm<;>intro hc hm;obtain rfl:=Zh hm;simp[ZG,Zz,ZL,ZR];exact⟨.data rfl,.data rfl,.data rfl,trivial⟩;obtain⟨st,hst,hm⟩:=hm.bind;obtain⟨S2,aa,hm⟩:=hm.bind;simp;refine Z4.cu [0,2,3,5,1,4,6,7,8] (λe1 h1=>∃l,En e1 40 [(2,.l (target.map Rel.enc)),(3,.l (comp.map Rel.enc)),(14,.p l)]/\l.1<h1.ep/\h1.box l=some (DD ⟨st,false,q.1,S2,q.2.1,[],[],[],[],0⟩)) ?_ ?_;simp;refine Zq ((LK step).h st hst) sI ?_;simp
 try refine⟨λ_ _ x=>x,?_⟩
 refine Zq (IQ S S2 aa) sI ?_;simp;refine⟨λ_ _ x=>x,?_⟩
 try simp
 exact Zb.of ⟨(7,512),sI,sI,by simp[DD,Stp.enc]⟩;rintro e1 h1 ⟨l,hE,hl,hb⟩;simp[hE];refine Za (MV _ l _ target comp r hb hl hm _ λc1 c2 h2 f1 f2=>?_);simp[ZG,Zz,ZL,ZR,hE];exact⟨f1,f2,.data rfl,trivial⟩
def Wd(h:HS)(c:C)(ds:List D):Prop:=∃rs,MR h 1 c (Zn rs)/\rs.map C.toD=ds.map some
theorem Wd.frame{h h':HS}{c:C}{ds:List D}(m:Wd h c ds)(hb:∀l∈labs c,h'.box l=h.box l):Wd h' c ds:=by obtain⟨rs,hm,he⟩:=m;exact⟨rs,hm.frame hb,he⟩
theorem Wd.frz{h:HS}{c:C}{ds:List D}(m:Wd h c ds):Frz h c (.sl (ds.map λd=>[d])):=by
 obtain⟨rs,hm,he⟩:=m;have hl:rs.length=ds.length:=by have:=congrArg List.length he;simpa using this
 refine hm.frz (by simp[Zn,hl]) (λt ht=>by obtain⟨y,_,rfl⟩:=Yi.1 ht;rfl) λi x t hx ht=>?_;simp only[Zn,Y8] at hx ht;have h9:=congrArg (λz=>z[i]?) he;simp only[Y8] at h9;cases hr:rs[i]? with
 |none=>rw[hr] at hx;cases hx
 |some r=>?_
 cases hd:ds[i]? with
 |none=>rw[hd] at ht;cases ht
 |some d=>?_
 rw[hr] at hx h9;rw[hd] at ht h9;cases hx;cases ht;exact⟨.data (by simpa using h9),trivial⟩
theorem Wd.at{h:HS}{c:C}{ds:List D}(m:Wd h c ds){i:Nat}(hi:i<ds.length):∃lr cap bs,c=.mrow lr 0 ds.length cap/\h.box lr=some bs/\i+1<=bs.length/\(∃x,Zl 1 (bs.drop i)=some [x]/\some (x.toD)=some (ds[i]?))/\
  ∀(H:HS) (x:C) (d:D),x.toD=some d->Wd (H.qA lr (Zg bs i [x])) c (ds.set i d):=by
 obtain⟨rs,hm,he⟩:=m;have hl:rs.length=ds.length:=by have:=congrArg List.length he;simpa using this
 obtain⟨lr,cap,sp,hc,hb,hcap⟩:=hm.block (by simp[Zn];omega);rw[F8] at hb hcap;simp only[Zn,Yh,hl] at hc;refine⟨lr,cap,rs++sp,hc,hb,sO,⟨rs[i]'oM,?_,?_⟩,λH x d hx=>⟨rs.set i x,?_,?_⟩⟩;have hd:(rs++sp).drop i=rs[i]'oM::(rs.drop (i+1)++sp):=by rw[Xa oM,Ys oM];rfl
 rw[hd];simp[Zl];have h9:=congrArg (λz=>z[i]?) he;simp only[Y8,Y1 (oM:i<rs.length),Y1 hi,Yj,Ya] at h9;rw[h9,Y1 hi]
 have:=O2 (h:=H) (l:=lr) (cap:=cap) (i:=i) (rs:=rs) (sp:=sp) (x:=x) hcap (by have:=hm.2.1;simpa[Zn] using this) oM
 rw[hl] at this;rw[hc];exact this;rw[YD,YD,he,hx]
theorem Wd.make{h:HS}{l:Z2}{n:Nat}{zc:C}{d:D}(hb:h.box l=some (List.replicate n zc))(hz:zc.toD=some d)(hn:n<=2097152):Wd h (.mrow l 0 n n) (List.replicate n d):=by
 refine⟨List.replicate n zc,?_,by simp[hz]⟩
 have:=Hl (h:=h) (l:=l) (cap:=n) (rs:=List.replicate n zc) (sp:=[]) (by simpa using hb) sI (by simpa using hn)
 simpa using this
def Ac(S:Sch)(steps:List Stp)(source:List Rel)(aa:List (List Rel)):Option (List Rel×List (List Rel)×Int):=
 Z1 (AO S steps) λq=>bif q.2 !=0 then some ([],[],q.2) else bif (aa.length:Int) !=(steps.length:Int) then some ([],[],3) else
 Z1 (VH S source) λe=>bif e !=0 then some ([],[],e) else Z1 (V9 source) λinst=>
 Zc (λ(i:Nat) (step:Stp) (s:List Rel×List (List Rel)) next=>Z7 q.1 i λab=>Z7 aa i λc=>Z1 (Eu ab step s.1 c) λr=>
  bif r.2.2 !=0 then some ([],[],r.2.2) else next (r.1,s.2.set i r.2.1)) (λs=>some (s.1,s.2,0)) steps 0 (inst,List.replicate steps.length [])
def Ab(S:Sch)(steps:List Stp)(target:List Rel)(aa:List (List Rel)):Option (List Rel×List (List Rel)×Int):=
 Z1 (AO S steps) λq=>bif q.2 !=0 then some ([],[],q.2) else bif (aa.length:Int) !=(steps.length:Int) then some ([],[],3) else
 Z7 q.1 steps.length λlast=>Z1 (VH last target) λe=>bif e !=0 then some ([],[],e) else Z1 (V9 target) λinst=>
 UA (λ(s:Int×List Rel×List (List Rel)) next=>bif decide (0<=s.1) then Z7 q.1 s.1 λab=>Z7 steps s.1 λstep=>Z7 aa s.1 λc=>Z1 (Es ab step s.2.1 c) λr=>
  bif r.2.2 !=0 then some ([],[],r.2.2) else next (s.1-1,r.1,s.2.2.set s.1.toNat r.2.1) else some (s.2.1,s.2.2,0)) (steps.length+1) ((steps.length:Int)-1,inst,List.replicate steps.length [])
abbrev Wb(inst:List Rel):D:=.sl (inst.map Rel.enc)
theorem LS(S:Sch)(steps:List Stp)(source:List Rel)(ad:List (List Rel))(r:List Rel×List (List Rel)×Int)(hm:Is (Ac S steps source ad) r):
  Zj prog 103 [.agg S.enc,.l (steps.map Stp.enc),.l (source.map Rel.enc),.l (ad.map (Z6 Rel.enc))] (.tup [.l (r.1.map Rel.enc),.l (r.2.1.map (Z6 Rel.enc)),.i r.2.2]):=by
 unfold Ac at hm;refine Zj.of_heap ?_;show Z3 _ _ [.agg (S.enc.map C.d),.l (steps.map Stp.enc),.l (source.map Rel.enc),.l (ad.map (Z6 Rel.enc))] HS.init _;refine Z3.ov Tryz.func103 ?_;obtain⟨q,hq,hm⟩:=hm.bind;simp;refine Zq ((LQ S steps).h q hq) sI ?_;simp;refine Zy hm ?_ ?_<;>clear hm<;>intro hc hm;obtain rfl:=Zh hm;simp[ZG,Zz,ZL,ZR];exact⟨.data rfl,.data rfl,.data rfl,trivial⟩;simp;intro a8 a1;refine Zy hm ?_ ?_<;>clear hm<;>intro a7 hm;obtain rfl:=Zh hm;simp[ZG,Zz,ZL,ZR];exact⟨.data rfl,.data rfl,.data rfl,trivial⟩;obtain⟨e,he,hm⟩:=hm.bind;simp;refine Zq ((Ee S source).h e he) sI ?_;simp;refine Zy hm ?_ ?_<;>clear hm<;>intro ba hm;obtain rfl:=Zh hm;simp[ZG,Zz,ZL,ZR];exact⟨.data rfl,.data rfl,.data rfl,trivial⟩;obtain⟨inst,hi,hm⟩:=hm.bind;simp;refine Zq ((CX source).h inst hi) sI ?_;simp;intro ay;refine⟨oM,λaz=>?_⟩;refine Z4.for (xs:=steps) (s0:=(inst,List.replicate steps.length [])) (λi s e h'=>∃c,En e 74 [(3,.l (ad.map (Z6 Rel.enc))),(11,.l (q.1.map Sch.enc)),(14,.l (s.1.map Rel.enc)),(15,.one c)]/\
  e.get 43=.l (steps.map Stp.enc)/\e.get 44=.i (steps.length:Int)/\e.get 45=.i (i:Int)/\Wd h' c (s.2.map Wb)/\s.2.length=steps.length/\∀k∈labs c,k.1<h'.ep) hm
  ⟨.mrow (4,672) 0 steps.length steps.length,sI,sI,sI,sI,?_,sI,by simp[labs]⟩ ?_ ?_
 rw[XD];refine Wd.make (zc:=.nil) ?_ rfl oM;simp;rintro i s e h' ⟨c,hE,ab,aa,ac,mC,ap,au⟩ hlt hm;have hw:IntKind.i64.wrap ((i:Int)+1)=(i:Int)+1:=Y5 _ oM;obtain⟨ax,ae,hm⟩:=hm.qG;obtain⟨cm,aj,hm⟩:=hm.qG;obtain⟨r2,aw,hm⟩:=hm.bind;have af:i<(s.2.map Wb).length:=sO
 obtain⟨lr,cap,bs,rfl,aq,am,-,ar⟩:=mC.at af;simp at af;have ag:lr.1<h'.ep:=au lr (by simp[labs]);have al:=Zm ag;have ah:=ZO ag;simp[hE,ab,aa,ac,hlt];refine Z4.cu [0,1,2,3,4,5,6,7,8,9,10,11,12,13,14,15,16,17,18,19,20] (λE h1=>Ek e E [(14,.l (r2.1.map Rel.enc)),(15,.one (.mrow lr 0 (s.2.map Wb).length cap))] [3,11]/\
  E.get 43=.l (steps.map Stp.enc)/\E.get 44=.i (steps.length:Int)/\E.get 45=.i (i:Int)/\E.get 12=.i r2.2.2/\Wd h1 (.mrow lr 0 (s.2.map Wb).length cap) ((s.2.set i r2.2.1).map Wb)/\lr.1<h1.ep) ?_ ?_
 simp[hE,ab,aa,ac,ae,aj];refine Zq (Sx ax steps[i] s.1 cm r2 aw) sI ?_;simp[hE,ab,aa,ac,ae,aj,af,aq,al,ah,am];refine⟨λ_ _ x=>x,?_⟩
 try simp[hE,ab,aa,ac,ae,aj,af,aq,al,ah,am]
 refine Zb.of ⟨by simp[hE],by simp[ab,hE],by simp[aa,hE],by simp[ac,hE],by simp[hE],?_,?_⟩;rw[YD];exact ar _ _ _ rfl;simp;omega;rintro e1 h1 ⟨hF,ab,aa,ac,ak,mC,ag⟩;have hE:=hF.an hE;simp[hE,ab,aa,ac,ak,hw];refine Zy hm ?_ ?_<;>clear hm<;>intro hc hm;obtain rfl:=Zh hm;simp[ZG,Zz,ZL,ZR,hE,ak];exact⟨.data rfl,.data rfl,.data rfl,trivial⟩;simp[hE,ab,aa,ac,ak,hw];exact Ze.of (r2.1,s.2.set i r2.2.1) ⟨⟨_,by simp[hE],by simp[ab],by simp[aa],sI,mC,by simpa using ap,by simpa[labs] using ag⟩,hm⟩;rintro s e h' ⟨c,hE,ab,aa,ac,mC,ap,au⟩ hm;obtain rfl:=Zh hm;simp[ZG,Zz,ZL,ZR,hE,ab,aa,ac];refine⟨.data rfl,?_,.data rfl,trivial⟩;have e1:(s.2.map Wb).map (λd=>[d])=s.2.map (Z6 Rel.enc):=by rw[Xe];rfl
 show Frz h' c _;rw[<-e1];exact mC.frz
theorem LJ(S:Sch)(steps:List Stp)(target:List Rel)(ab:List (List Rel))(r:List Rel×List (List Rel)×Int)(hm:Is (Ab S steps target ab) r):
  Zj prog 104 [.agg S.enc,.l (steps.map Stp.enc),.l (target.map Rel.enc),.l (ab.map (Z6 Rel.enc))] (.tup [.l (r.1.map Rel.enc),.l (r.2.1.map (Z6 Rel.enc)),.i r.2.2]):=by
 unfold Ab at hm;refine Zj.of_heap ?_;show Z3 _ _ [.agg (S.enc.map C.d),.l (steps.map Stp.enc),.l (target.map Rel.enc),.l (ab.map (Z6 Rel.enc))] HS.init _;refine Z3.ov Tryz.func104 ?_;obtain⟨q,hq,hm⟩:=hm.bind;simp;refine Zq ((LQ S steps).h q hq) sI ?_;simp;refine Zy hm ?_ ?_<;>clear hm<;>intro hc hm;obtain rfl:=Zh hm;simp[ZG,Zz,ZL,ZR];exact⟨.data rfl,.data rfl,.data rfl,trivial⟩;simp;intro bc bb;refine Zy hm ?_ ?_<;>clear hm<;>intro ay hm;obtain rfl:=Zh hm;simp[ZG,Zz,ZL,ZR];exact⟨.data rfl,.data rfl,.data rfl,trivial⟩;obtain⟨last,ak,hm⟩:=hm.qG;obtain⟨e,he,hm⟩:=hm.bind;simp;intro ba;simp[ak];refine Zq ((Ee last target).h e he) sI ?_;simp;refine Zy hm ?_ ?_<;>clear hm<;>intro bd hm;obtain rfl:=Zh hm;simp[ZG,Zz,ZL,ZR];exact⟨.data rfl,.data rfl,.data rfl,trivial⟩;obtain⟨inst,hi,hm⟩:=hm.bind;simp;refine Zq ((CX target).h inst hi) sI ?_;simp;intro a7;refine⟨oM,λa8=>?_⟩;have hw0:IntKind.i64.wrap ((steps.length:Int)-1)=(steps.length:Int)-1:=Y5 _ oM;simp[hw0];refine Z4.jN (λs e h'=>∃c,En e 79 [(1,.l (steps.map Stp.enc)),(3,.l (ab.map (Z6 Rel.enc))),(11,.l (q.1.map Sch.enc)),(14,.l (s.2.1.map Rel.enc)),(15,.one c)]/\
  e.get 16=.i s.1/\Wd h' c (s.2.2.map Wb)/\s.2.2.length=steps.length/\-1<=s.1/\s.1<(steps.length:Int)/\∀k∈labs c,k.1<h'.ep) hm
  ⟨.mrow (4,720) 0 steps.length steps.length,sI,sI,?_,sI,sO,sO,by simp[labs]⟩ ?_
 show Wd _ _ (List.map Wb (List.replicate steps.length []));rw[XD];refine Wd.make (zc:=.nil) ?_ rfl oM;simp;rintro n ⟨i,ins,cs⟩ e h' ⟨c,hE,aa,mC,aq,hi0,aw,az⟩ hm;simp only at hE aa mC aq hi0 aw hm;simp[hE,aa];refine Zy hm ?_ ?_<;>clear hm<;>intro hc hm;obtain⟨a1,al,ad,hm⟩:=hm.get;obtain⟨step,-,ac,hm⟩:=hm.get;obtain⟨cm,-,ah,hm⟩:=hm.get;obtain⟨r2,ax,hm⟩:=hm.bind;have hw:IntKind.i64.wrap (i-1)=i-1:=Y5 _ oM;have af:i.toNat<(cs.map Wb).length:=sO
 obtain⟨lr,cap,bs,rfl,ar,ap,-,au⟩:=mC.at af;simp at af;have ae:lr.1<h'.ep:=az lr (by simp[labs]);have am:=Zm ae;have ag:=ZO ae;simp[hE,aa];refine Z4.cu [0,1,2,3,4,5,6,7,8,9,10,11,12,13,14,15,16,17,18,19,20,21,22,23] (λE h2=>Ek e E [(14,.l (r2.1.map Rel.enc)),(15,.one (.mrow lr 0 (cs.map Wb).length cap))] [1,3,11]/\
  E.get 16=.i i/\E.get 12=.i r2.2.2/\Wd h2 (.mrow lr 0 (cs.map Wb).length cap) ((cs.set i.toNat r2.2.1).map Wb)/\lr.1<h2.ep) ?_ ?_
 simp[hE,aa,al,ad,ah,ac];refine Zq (Sj a1 step ins cm r2 ax) sI ?_;simp[hE,aa,al,ad,ah,ac,af,ar,am,ag,ap]
 try refine⟨λ_ _ x=>x,?_⟩
 try simp[hE,aa,al,ad,ah,ac,af,ar,am,ag,ap]
 refine Zb.of ⟨by simp[hE],by simp[aa,hE],by simp[hE],?_,?_⟩;rw[YD];exact au _ _ _ rfl;simp;omega;rintro e2 h2 ⟨hF,aa,aj,mC,ae⟩;have hE:=hF.an hE;simp[hE,aa,aj,hw];refine Zy hm ?_ ?_<;>clear hm<;>intro ay hm;obtain rfl:=Zh hm;simp[ZG,Zz,ZL,ZR,hE,aj];exact⟨.data rfl,.data rfl,.data rfl,trivial⟩;simp[hE,aa,aj,hw];exact Ze.of (i-1,r2.1,cs.set i.toNat r2.2.1) ⟨⟨_,by simp[hE],sI,mC,by simpa using aq,sO,sO,by simpa[labs] using ae⟩,hm⟩;obtain rfl:=Zh hm;simp[ZG,Zz,ZL,ZR,hE,aa];refine⟨.data rfl,?_,.data rfl,trivial⟩;have e1:(cs.map Wb).map (λd=>[d])=cs.map (Z6 Rel.enc):=by rw[Xe];rfl
 show Frz h' c _;rw[<-e1];exact mC.frz
def RB(inst:List Rel):Prop:=inst.length<=6/\∀r∈inst,r.rows.length<=24
theorem CF.rb{S:Sch}(hS:VS S){inst:List Rel}(h:CF S inst):RB inst:=⟨by rw[h.len];exact hS.t6,h.l24⟩
theorem LC(x:Stp):Wp (CQ x) λr=>r=x:=by
 unfold CQ;refine Wp.bind (R:=λr=>r=x.cols) (Wp.ret rfl) λa _ ha=>Wp.bind (R:=λr=>r=x.newTable) (Wp.ret (by cases x.newTable;rfl)) λb _ hb=>Wp.bind (R:=λr=>r=x.fk.cols) (Wp.ret rfl) λc _ hc=>Wp.ret ?_;subst ha hb hc;cases x;rfl
theorem Pt{S S' C:Sch}{x:Stp}(hS:VS S)(al:VS S')(sh:Sh2 S S' x)(hC:COK S S' x C)(hk:1<=x.kind/\x.kind<=16){aa:Bool}{A B:Sch}(hd:(aa=true/\A=S/\B=S')\/(aa=false/\A=S'/\B=S))(inp comp:List Rel):
  Wp (D5 ⟨x,aa,A,B,C,[],[],[],[],0⟩ inp comp) λr=>r.2.2=0->RB r.1/\RB r.2.1:=by
 have hA:VS A:=by rcases hd with⟨-,rfl,-⟩|⟨-,rfl,-⟩<;>assumption
 have hB:VS B:=by rcases hd with⟨-,-,rfl⟩|⟨-,-,rfl⟩<;>assumption
 have a6:=hA.t6;have b6:=hB.t6;have c6:=hC.t6;unfold D5;refine Wp.bind (D3 A (λT hT=>(hA.tab T hT).pk6) inp) λe1 _ h1=>Wp.cond (λh=>Wp.ret λh0=>by simp only at h0;rw[h0] at h;cases h) λh=>?_;have af:=h1 (by simpa using h);refine Wp.bind (D3 C (λT hT=>(hC.ck T hT).1) comp) λe2 _ h2=>Wp.cond (λh=>Wp.ret λh0=>by simp only at h0;rw[h0] at h;cases h) λh=>?_;have ad:=h2 (by simpa using h);have li:=af.len;have lc:=ad.len;have ak:=af.l24;have c24:=ad.l24;refine Wp.bind (Ep inp oM λr hr=>by have:=ak r hr;omega) λi2 _ am=>Wp.bind (Ep comp oM λr hr=>by have:=c24 r hr;omega) λc2 _ aq=>Wp.bind (JI B oM) λo _ ho=>Wp.bind (JI C oM) λn _ hn=>?_;subst am aq ho hn;obtain⟨ei,ri⟩:=af.mkI hA.ord.1;obtain⟨ec,rc⟩:=ad.mkI hC.nm;refine Wp.for (λ_ (s:List Rel)=>s.length=B.tables.length/\∀(j:Nat) r T,s[j]?=some r->B.tables[j]?=some T->r.rows=[]\/∃U∈A.tables,U.name=T.name/\r.rows=By i2 U.name) ⟨C8,λj r T hr hT=>.inl ?_⟩ ?_ ?_;rw[Hv hT] at hr;cases hr;rfl
 .intro i rel s next hx hm hs ac
  have hi:=(Y0.1 hx).1;rw[C8] at hi;have hT:B.tables[i]?=some B.tables[i]:=Y1 hi;rw[Hv hT] at hx;cases hx;refine Wp.bind (VI A _) λf _ hf=>Wp.cond (λhb=>?_) λ_=>ac _ hs;obtain⟨-,U,hU,ab⟩:=hf.2.1 hb;have ae:=Y4 hU;have ab:=Wf.1 ab;simp only at ab|-;refine Wp.bind (R:=λq=>q=(U,By i2 U.name)) ?_ λq _ hq=>ac _ ⟨by rw[YT];exact hs.1,λj r T hr hT9=>?_⟩;rw[<-ab]
  conv=>arg 1;rw[ei]
  exact Wa (KB hA.ord.1 ae (by have:=(ri U ae).l24;omega));rw[Xq] at hr;split at hr;rename_i e;subst e;split at hr;cases hr;rw[hT] at hT9;cases hT9;exact .inr ⟨U,ae,ab,by rw[hq]⟩;cases hr;exact hs.2 j r T hr hT9
 intro s hs;have ag:∀(j:Nat) r,s[j]?=some r->∃T,B.tables[j]?=some T:=λj r hr=>by
  have:=(Y0.1 hr).1
  exact⟨_,Y1 oM⟩
 have L:LI (⟨x,aa,A,B,C,i2,c2,s,mkI C λ_=>[],0⟩:Mp) (By i2) (By c2):=⟨hA,hB,ei,ri,ec,rc,hC.ck,hC.nm⟩;have ok:OutOK (⟨x,aa,A,B,C,i2,c2,s,mkI C λ_=>[],0⟩:Mp):=by
  refine⟨hs.1,λah j r T hr hT=>?_,λr hr=>?_,by simp[mkI],λr hr=>?_⟩;simp only at ah hT hr;have ap:B.tables[j]?=some T:=by rw[ah];exact hT
  rcases hs.2 j r T hr ap with h9|⟨U,hU,hn,h9⟩;rw[h9];exact .nil
  have:U=T:=by have h1:=Bm hA.ord.1 hU;have h2:=Bm hA.ord.1 (Y4 hT);rw[hn,h2] at h1;exact(Option.some.inj h1).symm
  subst this;rw[h9];exact(ri U hU).asc;obtain⟨j,hj,rfl⟩:=Yz hr;obtain⟨T,hT⟩:=ag j _ (Y1 hj);rcases hs.2 j _ T (Y1 hj) hT with h9|⟨U,hU,hn,h9⟩;simp[h9];rw[h9];exact(ri U hU).l24;obtain⟨T,-,rfl⟩:=Yi.1 hr;rfl
 refine Wp.bind (Z0x hS al sh hC hk L rfl rfl ok hd) λM2 _ hM2=>?_;obtain⟨o2,n2⟩:=hM2;simp only at o2 n2;rw[hs.1] at o2;rw[C8] at n2;refine Wp.chk oM (Wp.for (λi (e:Int)=>e=0->∀(j:Nat) r,j<i->(M2.out++M2.nc)[j]?=some r->r.rows.length<=24) (λ_ j r h=>absurd h (XW _)) ?_ ?_)
 .intro i rel e next hx hm he ac
  refine ac _ λh0 j r hj hr=>?_;have aj:e=0/\rel.rows.length<=24:=by
   by_cases h24:24<rel.rows.length;by_cases he:e=0;simp[h24,he] at h0;have hb:(e==0)=false:=by simpa using he
   simp[h24,hb] at h0;exact absurd h0 he;simp[h24] at h0;exact⟨h0,oM⟩
  rcases YA j i with h9|h9;exact he aj.1 j r h9 hr;obtain rfl:j=i:=oM;rw[hx] at hr;cases hr;exact aj.2
 intro e he;refine Wp.cond (λh=>Wp.ret λh0=>by simp only at h0;rw[h0] at h;cases h) λh=>Wp.ret λ_=>?_;have h9:=he (by simpa using h);have key:∀r∈M2.out++M2.nc,r.rows.length<=24:=λr hr=>by obtain⟨j,hj,rfl⟩:=Yz hr;exact h9 j _ hj (Y1 hj)
 exact⟨⟨by simp only;omega,λr hr=>key r (by simp only at hr;simp[hr])⟩,⟨by simp only;omega,λr hr=>key r (by simp only at hr;simp[hr])⟩⟩
theorem N8(S:Sch)(x:Stp)(hx:Ur x):Wp (Be S x) λq=>q.2.2=0->VS S/\VS q.1/\Sh2 S q.1 x/\COK S q.1 x q.2.1/\1<=x.kind/\x.kind<=16:=by
 unfold Be;refine Wp.bind (OA S x hx) λr hr h=>Wp.cond (λh9=>Wp.ret λh0=>by simp only at h0;rw[h0] at h9;cases h9) λh9=>?_;have aa:r.2=0:=by simpa using h9
 obtain⟨ab,hS,ev⟩:=h aa;have ac:Uh S x=some (r.1,0):=by rw[hr,<-aa]
 exact Wp.bind (SW ac hS ab ev) λq _ hq=>Wp.ret λ_=>⟨hS,ab,PZ hS ev,hq.2,OQ ac⟩
theorem Z2n(S:Sch)(x:Stp)(hx:Ur x)(a b:List Rel):Wp (Eu S x a b) λr=>r.2.2=0->RB r.1/\RB r.2.1:=by
 unfold Eu;refine Wp.bind (N8 S x hx) λq _ hq=>Wp.cond (λh=>Wp.ret λh0=>by simp only at h0;rw[h0] at h;cases h) λh=>?_;obtain⟨hS,aa,sh,hC,hk⟩:=hq (by simpa using h);have hs:=hS.t6;have ab:=hS.f8;refine Wp.bind (LC x) λst _ hst=>Wp.bind (Et S oM oM) λS2 _ hS2=>?_;subst hst hS2;exact Pt hS aa sh hC hk (.inl ⟨rfl,rfl,rfl⟩) a b
theorem Z10(S:Sch)(x:Stp)(hx:Ur x)(a b:List Rel):Wp (Es S x a b) λr=>r.2.2=0->RB r.1/\RB r.2.1:=by
 unfold Es;refine Wp.bind (N8 S x hx) λq _ hq=>Wp.cond (λh=>Wp.ret λh0=>by simp only at h0;rw[h0] at h;cases h) λh=>?_;obtain⟨hS,aa,sh,hC,hk⟩:=hq (by simpa using h);have hs:=hS.t6;have ab:=hS.f8;refine Wp.bind (LC x) λst _ hst=>Wp.bind (Et S oM oM) λS2 _ hS2=>?_;subst hst hS2;exact Pt hS aa sh hC hk (.inr ⟨rfl,rfl,rfl⟩) a b
def SB(n:Nat)(r:List Rel×List (List Rel)×Int):Prop:=RB r.1/\r.2.1.length=n/\(∀c∈r.2.1,RB c)/\n<=6
theorem RB.nil:RB []:=⟨sI,sI⟩
theorem Pf{cs:List (List Rel)}{i:Nat}{c:List Rel}(h:∀c∈cs,RB c)(hc:RB c):∀d∈cs.set i c,RB d:=λd hd=>by rcases YU hd with h9|rfl;exact h d h9;exact hc
theorem LO(S:Sch)(steps:List Stp)(hx:∀x∈steps,Ur x)(a:List Rel)(cs:List (List Rel)):Wp (Ac S steps a cs) λr=>r.2.2=0->SB steps.length r:=by
 unfold Ac;refine Wp.bind (IG S steps hx) λq _ hq=>Wp.cond (λh=>Wp.ret λh0=>by simp only at h0;rw[h0] at h;cases h) λh=>?_;have aa:=hq (by simpa using h);have hS:VS S:=aa.vs S (Y4 aa.fst);refine Wp.cr λhl=>?_;have hl:cs.length=steps.length:=by simp at hl;omega
 refine Wp.bind (D3 S (λT hT=>(hS.tab T hT).pk6) a) λe _ he=>Wp.cond (λh=>Wp.ret λh0=>by simp only at h0;rw[h0] at h;cases h) λh=>?_;have hc:=(he (by simpa using h)).rb hS;refine Wp.bind (Ep a (by have:=hc.1;omega) λr hr=>by have:=hc.2 r hr;omega) λi2 _ ad=>?_;subst ad;refine Wp.for (λ_ (s:List Rel×List (List Rel))=>RB s.1/\s.2.length=steps.length/\∀c∈s.2,RB c) ⟨hc,sI,λc h9=>by rw[(List.mem_replicate.1 h9).2];exact .nil⟩ ?_ λs hs=>Wp.ret λ_=>⟨hs.1,hs.2.1,hs.2.2,aa.l6⟩;intro i x s next ac ab hs hn
 have hi:=(Y0.1 ac).1;refine Wp.get oM (by have:=aa.len;omega) λae _ _=>Wp.get oM oM λc _ _=>Wp.bind (Z2n ae x (hx x ab) s.1 c) λr _ hr=>Wp.cond (λh=>Wp.ret λh0=>by simp only at h0;rw[h0] at h;cases h) λh=>?_;obtain⟨h1,h2⟩:=hr (by simpa using h);exact hn _ ⟨h1,by simp only[YT];exact hs.2.1,Pf hs.2.2 h2⟩
theorem LD(S:Sch)(steps:List Stp)(hx:∀x∈steps,Ur x)(a:List Rel)(cs:List (List Rel)):Wp (Ab S steps a cs) λr=>r.2.2=0->SB steps.length r:=by
 unfold Ab;refine Wp.bind (IG S steps hx) λq _ hq=>Wp.cond (λh=>Wp.ret λh0=>by simp only at h0;rw[h0] at h;cases h) λh=>?_;have aa:=hq (by simpa using h);have af:=aa.len;refine Wp.cr λhl=>?_;have hl:cs.length=steps.length:=by simp at hl;omega
 refine Wp.get oM oM λlast _ ae=>?_;have hS:VS last:=aa.vs last ae;refine Wp.bind (D3 last (λT hT=>(hS.tab T hT).pk6) a) λe _ he=>Wp.cond (λh=>Wp.ret λh0=>by simp only at h0;rw[h0] at h;cases h) λh=>?_;have hc:=(he (by simpa using h)).rb hS;refine Wp.bind (Ep a (by have:=hc.1;omega) λr hr=>by have:=hc.2 r hr;omega) λi2 _ ad=>?_;subst ad;refine Wp.jN (λs:Int×List Rel×List (List Rel)=>s.1<steps.length/\RB s.2.1/\s.2.2.length=steps.length/\∀c∈s.2.2,RB c) (λs=>(s.1+1).toNat) ?_ _ _ ⟨by simp only;omega,hc,sI,λc h9=>by simp only at h9;rw[(List.mem_replicate.1 h9).2];exact .nil⟩ (by simp only;omega);intro s next hs hn
 refine Wp.cond (λh0=>?_) λ_=>Wp.ret λ_=>⟨hs.2.1,hs.2.2.1,hs.2.2.2,aa.l6⟩;have h0:0<=s.1:=by simpa using h0
 refine Wp.get h0 oM λac _ _=>Wp.get h0 oM λx _ ab=>Wp.get h0 oM λc _ _=>Wp.bind (Z10 ac x (hx x ab) s.2.1 c) λr _ hr=>Wp.cond (λh=>Wp.ret λh0=>by simp only at h0;rw[h0] at h;cases h) λh=>?_;obtain⟨h1,h2⟩:=hr (by simpa using h);exact hn _ ⟨by simp only;omega,h1,by simp only[YT];exact hs.2.2.1,Pf hs.2.2.2 h2⟩ (by simp only;omega)
def FX(l:List (List Rel))(f:(List Rel)->Option (List Rel)):Option ((List (List Rel))):=
 Zc (λ(i2:Nat) (x2:List Rel) (s2:(List (List Rel))) next_2=>Z1 (f x2) λv3=>W0 s2 [v3] λ_=>next_2 (s2++[v3])) (λ(s2:(List (List Rel)))=>some s2) l 0 []
instance Z9r(l:List (List Rel))(f:(List Rel)->Option (List Rel)){g:FuncId}{caps:List (List D)}[ConF f prog (λx=>.one (.d (.sl (x.map Rel.enc)))) (λv=>.one (.d (.sl (v.map Rel.enc)))) g caps]:Con (FX l f) prog 106 [.one (.d (.sl (l.map (Z6 Rel.enc)))),.one (.fn g caps)] (λr=>.one (.d (.sl (r.map (Z6 Rel.enc))))):=by
 unfold FX;have l1:LH (σ:=(List (List Rel))) 10 [1,8,9] [.g 5 1 (λs=>s.map (Z6 Rel.enc))]:=.intro;exact go 22 Tryz.func106
def AL(l:List (List Rel)):Option ((List (List Rel))):=
 Z1 (FX l (λxa_=>V9 xa_)) λv1=>some v1
instance Lw(l:List (List Rel)):Con (AL l) prog 66 [.one (.d (.sl (l.map (Z6 Rel.enc))))] (λr=>.one (.d (.sl (r.map (Z6 Rel.enc))))):=by unfold AL;exact go 5 Tryz.func66
instance Zba  :ConF (λx=>AL x) prog (λx=>.one (.d (.sl (x.map (Z6 Rel.enc))))) (λr=>.one (.d (.sl (r.map (Z6 Rel.enc))))) 66 []:=⟨λx=>(Lw x)⟩
abbrev VB(l:List (List Rel)):D:=.sl (l.map (Z6 Rel.enc))
theorem TA(h)(l:List (List Rel))(hf:∀x∈l,Is (V9 x) x)(K)(hk:∀c h',Wd h' c (l.map Wb)->(∀k∈labs c,h.ep<=k.1/\k.1<h'.ep)->Z0 h h' []->Zo h h'->K (.one c) h'):
  Z3 prog 106 [.l (l.map (Z6 Rel.enc)),.one (.fn 48 [])] h K:=by
 refine Z3.jE Tryz.func106 rfl kR λhg=>?_;refine Z3.qN Tryz.func106 rfl kR rfl rfl sI ?_;have hm:Is (Zc (λ_ x s next=>next (s++[x])) (λs=>some s) l 0 []) l:=by rw[Fm];rfl
 simp;intro ac;refine Z4.for (λi s e h'=>∃c,En e 22 [(1,.one (.fn 48 [])),(5,.one c),(8,.l (l.map (Z6 Rel.enc))),(9,.i l.length),(10,.i i)]/\Wd h' c (s.map Wb)/\s.length=i/\Z0 h h' []/\∀k∈labs c,h.ep<=k.1/\k.1<h'.ep) hm
  ⟨.nil,sI,⟨[],by simpa[Zn] using MR.nil,rfl⟩,rfl,.refl,by simp[labs]⟩ ?_ ?_
 rintro i s e h' ⟨c,hE,mC,aa,hs,hl⟩ hlt hm;have hw:IntKind.i64.wrap ((i:Int)+1)=(i:Int)+1:=Y5 _ oM;obtain⟨rs,ab,he⟩:=mC;have ad:rs.length=s.length:=by have:=congrArg List.length he;simpa using this
 simp[hE,hlt];refine Zq ((CX l[i]).h l[i] (hf _ (Yf hlt))) sI ?_;simp[hE];refine W5 Bu kR dE dE (ab.frame λk _=>?_) (Zk.qU rfl) (by simp[Zn];omega) λc' h2 hm2 hs2 hl2=>?_;simp;simp[hE,hw];have hs3:=Z0.trans' (Z0.trans hs ?_) hs2 λk hk=>.inr (hl k hk).1;refine Ze.of (s++[l[i]]) ⟨⟨c',by simp[hE],⟨rs++[.d (Wb l[i])],by simpa[Zn] using hm2,by simp[he,C.toD]⟩,by simp[aa],hs3,λk hk=>?_⟩,hm⟩;rcases hl2 k hk with h9|h9
 have:=hl k h9
 have:=hs2.1
 simp at this;omega
 have:=hs.1
 simp at h9;omega;exact sm;rintro s e h' ⟨c,hE,mC,aa,hs,hl⟩ hm;obtain rfl:=Zh hm;simp[hE];exact hk _ _ mC hl hs (hs.jA hg)
theorem Tz(h)(l:List (List (List Rel)))(hf:∀x∈l,Is (AL x) x)(K)(hk:∀c h',Wd h' c (l.map VB)->(∀k∈labs c,h.ep<=k.1/\k.1<h'.ep)->Z0 h h' []->Zo h h'->K (.one c) h'):
  Z3 prog 67 [.l (l.map (Z6 (Z6 Rel.enc))),.one (.fn 66 [])] h K:=by
 refine Z3.jE Tryz.func67 rfl kR λhg=>?_;refine Z3.qN Tryz.func67 rfl kR rfl rfl sI ?_;have hm:Is (Zc (λ_ x s next=>next (s++[x])) (λs=>some s) l 0 []) l:=by rw[Fm];rfl
 simp;intro ac;refine Z4.for (λi s e h'=>∃c,En e 22 [(1,.one (.fn 66 [])),(5,.one c),(8,.l (l.map (Z6 (Z6 Rel.enc)))),(9,.i l.length),(10,.i i)]/\Wd h' c (s.map VB)/\s.length=i/\Z0 h h' []/\∀k∈labs c,h.ep<=k.1/\k.1<h'.ep) hm
  ⟨.nil,sI,⟨[],by simpa[Zn] using MR.nil,rfl⟩,rfl,.refl,by simp[labs]⟩ ?_ ?_
 rintro i s e h' ⟨c,hE,mC,aa,hs,hl⟩ hlt hm;have hw:IntKind.i64.wrap ((i:Int)+1)=(i:Int)+1:=Y5 _ oM;obtain⟨rs,ab,he⟩:=mC;have ad:rs.length=s.length:=by have:=congrArg List.length he;simpa using this
 simp[hE,hlt];refine Zq ((Lw l[i]).h l[i] (hf _ (Yf hlt))) sI ?_;simp[hE];refine W5 Hg kR dE dE (ab.frame λk _=>?_) (Zk.qU rfl) (by simp[Zn];omega) λc' h2 hm2 hs2 hl2=>?_;simp;simp[hE,hw];have hs3:=Z0.trans' (Z0.trans hs ?_) hs2 λk hk=>.inr (hl k hk).1;refine Ze.of (s++[l[i]]) ⟨⟨c',by simp[hE],⟨rs++[.d (VB l[i])],by simpa[Zn] using hm2,by simp[he,C.toD]⟩,by simp[aa],hs3,λk hk=>?_⟩,hm⟩;rcases hl2 k hk with h9|h9
 have:=hl k h9
 have:=hs2.1
 simp at this;omega
 have:=hs.1
 simp at h9;omega;exact sm;rintro s e h' ⟨c,hE,mC,aa,hs,hl⟩ hm;obtain rfl:=Zh hm;simp[hE];exact hk _ _ mC hl hs (hs.jA hg)
theorem TB(h)(l:List (List Rel))(hf:∀x∈l,Is (V9 x) x)(K)(hk:∀c h',Wd h' c (l.map Wb)->(∀k∈labs c,h.ep<=k.1/\k.1<h'.ep)->Z0 h h' []->Zo h h'->K (.one c) h'):
  Z3 prog 66 [.l (l.map (Z6 Rel.enc))] h K:=by
 refine Z3.qN Tryz.func66 rfl kR rfl rfl sI ?_;simp;refine Za (TA h l hf _ λc h' m hl hs hb=>?_);simp;exact hk c h' m hl hs hb
theorem RL(h:HS)(db:Db)(hf:∀x∈db.insts,Is (V9 x) x)(hg:∀x∈db.comps,Is (AL x) x)(K:V->HS->Prop)(hk:∀ci cc h',Wd h' ci (db.insts.map Wb)->Wd h' cc (db.comps.map VB)->(∀k∈labs ci++labs cc,h.ep<=k.1/\k.1<h'.ep)->(∀k∈labs ci,k∉labs cc)->Z0 h h' []->K (.agg [ci,cc]) h'):
  Z3 prog 36 [.agg (db.enc.map C.d)] h K:=by
 refine Z3.qN Tryz.func36 rfl kR rfl rfl sI ?_;simp;refine Z4.cu [0,1,3,4,2,5,6,7] (λe1 h1=>∃ci cc,En e1 10 [(2,.p (h.ep+1,32))]/\h1.box (h.ep+1,32)=some [ci,cc]/\Wd h1 ci (db.insts.map Wb)/\Wd h1 cc (db.comps.map VB)/\(∀k∈labs ci++labs cc,h.ep<=k.1/\k.1<h1.ep)/\(∀k∈labs ci,k∉labs cc)/\Z0 h h1 []) ?_ ?_;simp;refine Za (TB _ db.insts hf _ λci h1 m1 ac aa ad=>?_);simp;refine⟨ad,Za (Tz _ db.comps hg _ λcc h2 m2 hl2 hs2 hb2=>?_)⟩;have b2:=hs2.2 (h.ep+1,32) (by have:=aa.1;simp at this|-;omega) sI;have b1:=aa.2 (h.ep+1,32) sI sI;simp at b1;rw[b1] at b2;simp[b2];refine⟨hb2,?_⟩;have ab:=aa.1;have ae:=hs2.1;simp at ab;have hA:∀k∈labs ci,h.ep+1<k.1/\k.1<h1.ep:=λk hk=>by have:=ac k hk;simp at this;omega
 have hB:=λk hk=>hl2 k hk;refine Zb.of ⟨ci,cc,sI,sI,m1.frame λk hk=>?_,m2.frame λk hk=>?_,λk hk=>?_,λk hk h9=>?_,?_⟩
 have:=hA k hk
 have h3:k≠(h.ep+1,32):=by rintro rfl;simp at this
 simp[h3];exact hs2.2 k this.2 sI
 have:=hB k hk
 have h3:k≠(h.ep+1,32):=by rintro rfl;simp at this;omega
 simp[h3];simp;rcases Y2.1 hk with h9|h9
 have:=hA k h9;omega
 have:=hB k h9;omega
 have:=hA k hk
 have:=hB k h9
 omega;refine Z0.qA (Z0.trans (Z0.trans ?_ aa) hs2) (.inr sI);exact sm;rintro e1 h1 ⟨ci,cc,hE,b2,m1,m2,hl,hd,hs⟩;simp[ZG,Zz,ZL,hE,b2];exact hk ci cc h1 m1 m2 hl hd hs
structure MC(h:HS)(gs:List (C×List D)):Prop where
 row:∀g∈gs,Wd h g.1 g.2
 lt:∀g∈gs,∀k∈labs g.1,k.1<h.ep
 dis:(gs.flatMap λg=>labs g.1).Nodup
theorem MC.new{h h' gs}(m:MC h gs)(hs:Z0 h h' []):MC h' gs:=
 ⟨λg hg=>(m.row g hg).frame λk hk=>hs.2 k (m.lt g hg k hk) sI,λg hg k hk=>Y3 (m.lt g hg k hk) hs.1,m.dis⟩
theorem U2:∀{xs:List (C×List D)},(xs.flatMap λg=>labs g.1).Nodup->∀{k1 k2:Nat} {g1 g2:C×List D},xs[k1]?=some g1->xs[k2]?=some g2->k1≠k2->∀k∈labs g1.1,k∉labs g2.1
 |[],_,k1,_,_,_,h1,_,_,_,_=>by simp at h1
 |_::_,_,0,0,_,_,_,_,hne,_,_=>absurd rfl hne
 |y::ys,hn,0,k2+1,g1,g2,h1,h2,hne,k,hk=>λh9=>by
   rw[YB,Yg] at hn;simp at h1 h2;subst h1;exact hn.2.2 k hk k (Yx.2 ⟨g2,Y4 h2,h9⟩) rfl
 |y::ys,hn,k1+1,0,g1,g2,h1,h2,hne,k,hk=>λh9=>by
   rw[YB,Yg] at hn;simp at h1 h2;subst h2;exact hn.2.2 k h9 k (Yx.2 ⟨g1,Y4 h1,hk⟩) rfl
 |y::ys,hn,k1+1,k2+1,g1,g2,h1,h2,hne,k,hk=>by rw[YB,Yg] at hn;exact U2 hn.2.1 (by simpa using h1) (by simpa using h2) (by omega) k hk
theorem MC.set{h h' gs}{j:Nat}{g ds}(m:MC h gs)(hj:gs[j]?=some g)(hc:Wd h' g.1 ds)(hs:Z0 h h' (labs g.1)):MC h' (gs.set j (g.1,ds)):=by
 have ad:=(Y0.1 hj).1;have aa:∀k1 g1,(gs.set j (g.1,ds))[k1]?=some g1->(k1=j/\g1=(g.1,ds))\/(k1≠j/\gs[k1]?=some g1):=by
  intro k1 g1 h1;rw[Xq] at h1;by_cases he:j=k1;subst he;simp[ad] at h1;exact .inl ⟨rfl,h1.symm⟩;rw[if_neg he] at h1;exact .inr ⟨λh9=>he h9.symm,h1⟩
 refine⟨λg1 ab=>?_,λg1 ab k hk=>?_,?_⟩;obtain⟨k1,ac⟩:=YR ab;rcases aa k1 g1 ac with⟨_,rfl⟩|⟨hne,h1⟩;exact hc;exact(m.row g1 (Y4 h1)).frame λk hk=>hs.2 k (m.lt g1 (Y4 h1) k hk) (U2 m.dis h1 hj hne k hk);obtain⟨k1,ac⟩:=YR ab;rcases aa k1 g1 ac with⟨_,rfl⟩|⟨_,h1⟩;exact Y3 (m.lt g (Y4 hj) k hk) hs.1;exact Y3 (m.lt g1 (Y4 h1) k hk) hs.1
 have:(gs.set j (g.1,ds)).map Prod.fst=gs.map Prod.fst:=by
  rw[YD];refine Xy λi=>?_;rw[Xq];by_cases he:j=i;subst he;rw[Y8,hj];simp[ad];simp[he]
 have e1:∀xs:List (C×List D),(xs.flatMap λg=>labs g.1)=(xs.map Prod.fst).flatMap labs:=λxs=>by rw[List.flatMap_map]
 rw[e1,this,<-e1];exact m.dis
theorem MC.at{h gs}{j i:Nat}{g}(m:MC h gs)(hj:gs[j]?=some g)(hi:i<g.2.length):∃lr cap bs,g.1=.mrow lr 0 g.2.length cap/\h.box lr=some bs/\i+1<=bs.length/\lr.1<h.ep/\(∃x,Zl 1 (bs.drop i)=some [x]/\some (x.toD)=some (g.2[i]?))/\
  ∀h2 (aa:List (C×List D)) (x:C) (d:D),MC h2 aa->aa[j]?=some g->x.toD=some d->MC (h2.qA lr (Zg bs i [x])) (aa.set j (g.1,g.2.set i d)):=by
 obtain⟨lr,cap,bs,h1,h2,h3,h4,h5⟩:=(m.row g (Y4 hj)).at hi;have hl:lr∈labs g.1:=by rw[h1];simp[labs]
 refine⟨lr,cap,bs,h1,h2,h3,m.lt g (Y4 hj) lr hl,h4,λH aa x d m' hj' hx=>?_⟩;exact m'.set hj' (h5 H x d hx) (Z0.refl.qA (.inl hl))
end
end Go.Am
