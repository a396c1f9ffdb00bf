/- joined by a program out of 45 texts -/
import Derived.Test.YtbledgpconnopaaGreatDoorK2
set_option linter.unusedVariables false
set_option linter.unusedSimpArgs false
set_option maxRecDepth 20000
open Go Go.Proofs
open Go.Proofs.Tryz(prog)
open ByteArray(empty)
namespace Go.Am
section
def VK{α:Type}(lt:α->α->Bool):Nat->List α->List α
 |0,ws=>ws
 |j+1,ws=>match ws[j+1]?,ws[j]? with
   |some x,some y=>if lt x y then VK lt j ((ws.set (j+1) y).set j x) else ws
   |_,_=>ws
def WG{α:Type}(lt:α->α->Bool):Nat->Nat->List α->List α
 |0,_,ws=>ws
 |k+1,i,ws=>WG lt k (i+1) (VK lt i ws)
theorem Jo{α:Type}:∀{us:List α} {j:Nat} {x y:α},us[j+1]?=some x->us[j]?=some y->((us.set (j+1) y).set j x).Perm us
 |[],_,_,_,h,_=>by simp at h
 |[_],j,_,_,h,_=>by simp at h
 |a::b::us,0,x,y,h,h2=>by
   simp at h h2;subst h h2;simp[List.set];exact .swap _ _ _
 |a::us,j+1,x,y,h,h2=>by simp only[List.set_cons_succ];exact .cons _ (Jo (by simpa using h) (by simpa using h2))
theorem Mz{α:Type}(lt:α->α->Bool):∀(j:Nat) (ws:List α),(VK lt j ws).Perm ws
 |0,ws=>.refl _
 |j+1,ws=>by unfold VK;split;rename_i x y hx hy;split;refine(Mz lt j _).trans ?_;exact Jo hx hy;exact .refl _;exact .refl _
theorem ML{n k:Nat}{xs:List (List C)}{sp v:List C}(h:Zr n xs)(hk:k<xs.length)(hv:v.length=n):Zg (Z8 xs sp) (k*n) v=Z8 (xs.set k v) sp:=by
 have h1:=Ar (sp:=sp) (f:=0) (vs:=v) h (Y1 hk) oM;have h2:=h.get (Y1 hk);have h3:Zg xs[k] 0 v=v:=by rw[Zg];simp[h2,hv]
 rw[h3] at h1;simpa using h1
def UD(cmp:List D->List D->Int)(x y:List C×List D):Bool:=decide (cmp x.2 y.2<0)
theorem QY(h:HS)(c:C)(qs:List (List C×List D))(g:FuncId)(caps:List Cap)(bo:List (List D))(cmp:List D->List D->Int)(hm:MR h 3 c (qs.map (·.1)))(hlab:∀k∈labs c,k.1<h.ep)
  (hf:∀h',Z0 h h' (labs c)->∀q∈qs,Zx h' q.1 q.2)(hcv:∀h',Z0 h h' (labs c)->VN h' (caps.map WX) (We bo))
  (hp:∀q∈qs,∀q'∈qs,Zj prog g (.agg q.2::.agg q'.2::We bo) (.i (cmp q.2 q'.2)))(K:V->HS->Prop)
  (hk:∀h',MR h' 3 c ((WG (UD cmp) (qs.length-1) 1 qs).map (·.1))->Z0 h h' (labs c)->K (.tup []) h'):
  Z3 prog 251 [.one c,.i 0,.i (qs.length:Int),.one (.fn g caps)] h K:=by
 refine Z3.ov Tryz.func251 ?_;simp;have hlim:qs.length<=2097152:=by simpa using hm.2.1
 refine Z4.rounds (λn e h'=>∃(i:Nat) (ws:List (List C×List D)),n=qs.length-i/\1<=i/\ws.Perm qs/\WG (UD cmp) (qs.length-i) i ws=WG (UD cmp) (qs.length-1) 1 qs/\
  e.n=53/\e.get 0=.one c/\e.get 1=.i 0/\e.get 2=.i (qs.length:Int)/\e.get 3=.one (.fn g caps)/\e.get 8=.i (i:Int)/\Z0 h h' (labs c)/\MR h' 3 c (ws.map (·.1))) (qs.length-1)
  ⟨1,qs,rfl,oM,.refl _,rfl,sI,sI,sI,sI,sI,by simp;exact(Y5 _ oM),Z0.refl,hm⟩ ?_
 rintro n e h' ⟨i,ws,rfl,b0,aw,ac,hn,h0,h1,h2,h3,h8,hs,aa⟩;simp[h0,h1,h2,h3,h8,hn];refine WR (λhlt=>?_) (λhge=>?_);simp[h0,h1,h2,h3,h8,hn];refine Z4.rounds (λn e h'=>∃(j:Nat) (us:List (List C×List D)),n=j/\j<=i/\us.Perm qs/\VK (UD cmp) j us=VK (UD cmp) i ws/\
  e.n=53/\e.get 0=.one c/\e.get 1=.i 0/\e.get 2=.i (qs.length:Int)/\e.get 3=.one (.fn g caps)/\e.get 8=.i (i:Int)/\e.get 9=.i (j:Int)/\Z0 h h' (labs c)/\MR h' 3 c (us.map (·.1))) i
  ⟨i,ws,rfl,oM,aw,rfl,by simp[hn],by simp[h0],by simp[h1],by simp[h2],by simp[h3],by simp[h8],sI,hs,aa⟩ ?_
 clear h0 h1 h2 h3 h8 hn aa hs;rintro j e h' ⟨_,us,rfl,b1,al,ay,hn,h0,h1,h2,h3,h8,h9,hs,aa⟩;have hD:Z0 h (h'.next) (labs c):=hs.next;cases j with|zero=>?_|succ j=>?_;refine Z4.cu [0,1,2,3,4,5,6,7,8,9,10,11,12,13,14,15,16] (λe1 ak=>ak=h'/\e1.n=53/\e1.get 0=.one c/\e1.get 1=.i 0/\e1.get 2=.i (qs.length:Int)/\e1.get 3=.one (.fn g caps)/\e1.get 8=.i (i:Int)/\e1.get 34=.b false) ?_ ?_;simp[*];exact⟨λ_ x y=>y,Zb.of (by simp[*])⟩;rintro e1 ak ⟨rfl,ab,af,ad,ae,ag,am,aq⟩;simp[*];refine Ud.of (n':=qs.length-(i+1)) oM ⟨i+1,us,rfl,oM,al,?_,by simp[ab],by simp[af],by simp[ad],by simp[ae],by simp[ag],?_,hs,aa⟩;rw[<-ac];have e1:qs.length-i=(qs.length-(i+1))+1:=oM
 rw[e1,WG,<-ay,VK]
 have:=Y5 ((i:Int)+1) oM
 simp[this];have bd:us.length=qs.length:=al.length_eq;have bz:=aa.2.1;have hall:=aa.1;obtain⟨l,cap,sp,hc,hb,hcap⟩:=aa.block sO;simp only[Yh,bd] at hc;subst hc;have aj:us[j+1]?=some us[j+1]:=Y1 oM;have hx0:us[j]?=some us[j]:=Y1 oM;generalize us[j+1]=q1 at aj;generalize us[j]=q0 at hx0;have ba:q1∈qs:=al.mem_iff.1 (Y4 aj);have bh:q0∈qs:=al.mem_iff.1 (Y4 hx0);obtain⟨k1,t1⟩:=q1;obtain⟨k0,t0⟩:=q0;have bc:(us.map (·.1))[j+1]?=some k1:=by simp[aj]
 have bq:(us.map (·.1))[j]?=some k0:=by simp[hx0]
 have ar:=hall.get bc;have ah:=hall.get bq;have a1:=Hj (sp:=sp) hall bc;have az:=Hj (sp:=sp) hall bq;have hwj:IntKind.i64.wrap (j:Int)=(j:Int):=Y5 _ oM;have au:j+1<qs.length:=oM
 have a7:j<qs.length:=oM;have hz:(0:Int)<=(j:Int)+1:=oM;refine Z4.cu [0,1,2,3,4,5,6,7,8,9,10,11,12,13,14,15,16] (λe1 ak=>Z0 h ak [l]/\ak.box l=h'.box l/\e1.n=53/\e1.get 0=.one (.mrow l 0 qs.length cap)/\e1.get 1=.i 0/\e1.get 2=.i (qs.length:Int)/\e1.get 3=.one (.fn g caps)/\e1.get 8=.i (i:Int)/\e1.get 9=.i ((j+1:Nat):Int)/\e1.get 34=.b (decide (cmp t1 t0<0))) ?_ ?_;simp[h0,h1,h2,h3,h8,h9,hn,hz,au,a7,hwj,hb,a1,az];refine Za (Z3.qD (hp _ ba _ bh) ⟨.agg (hf _ hs _ ba),.agg (hf _ hs _ bh),hcv _ hs⟩ rfl ?_);simp[h0,h1,h2,h3,h8,h9,hn,hz,au,a7,hwj,hb,a1,az];have bv:Z0 h h'.next [l]:=hs.next;exact⟨λ_ _ x=>x,Zb.of (by simp[h0,h1,h2,h3,h8,h9,hn,bv])⟩;rintro e1 ak ⟨bj,a8,ab,af,ad,ae,ag,am,ap,aq⟩;rw[hb] at a8;simp[af,ad,ae,ag,am,ap,aq,ab];have bi:cmp t1 t0<0->VK (UD cmp) j ((us.set (j+1) (k0,t0)).set j (k1,t1))=VK (UD cmp) i ws:=λhx=>by rw[<-ay];simp[VK,aj,hx0,UD,hx]
 have bm:¬cmp t1 t0<0->us=VK (UD cmp) i ws:=λhx=>by rw[<-ay];simp[VK,aj,hx0,UD,hx]
 refine WR (λbp=>?_) (λbf=>?_);simp[ab];refine Z4.cu [0,1,2,3,4,5,6,7,8,9,10,11,12,13,14,15,16,17] (λe2 ax=>Z0 h ax [l]/\e2.n=53/\e2.get 0=.one (.mrow l 0 qs.length cap)/\e2.get 1=.i 0/\e2.get 2=.i (qs.length:Int)/\e2.get 3=.one (.fn g caps)/\e2.get 8=.i (i:Int)/\e2.get 9=.i ((j+1:Nat):Int)/\ax.box l=some (Z8 (((us.set (j+1) (k0,t0)).set j (k1,t1)).map (·.1)) sp)) ?_ ?_;simp[af,ad,ae,ag,am,ap,aq,ab,hz,au,a7,hwj,a8,a1,az];rw[ML hall sO ah,ML (hall.set ah) sO ar];refine⟨⟨ah,Up hall sO⟩,⟨ar,Up (hall.set ah) sO⟩,Zb.of ?_⟩;simp[af,ad,ae,ag,am,ap,ab];exact(bj.qA (.inl sI)).qA (.inl sI);rintro e2 ax ⟨hs2,bn,bk,be,bb,bg,br,bu,hb2⟩;simp[bk,be,bb,bg,br,bu,bn,hwj];have bw:((us.set (j+1) (k0,t0)).set j (k1,t1)).Perm us:=Jo aj hx0;have bl:=bw.trans al;refine Ud.of (n':=j) oM ⟨j,_,rfl,oM,bl,bi bp,by simp[bn],by simp[bk],by simp[be],by simp[bb],by simp[bg],by simp[br],sI,hs2,?_⟩;have e1:((us.set (j+1) (k0,t0)).set j (k1,t1)).map (·.1)=((us.map (·.1)).set (j+1) k0).set j k1:=by simp[YD]
 refine⟨by rw[e1];exact(hall.set ah).set ar,by simpa using bz,.inr ⟨l,cap,sp,by simp[bd],hb2,?_⟩⟩;rw[e1,WL ((hall.set ah).set ar),YT,YT,<-WL (sp:=sp) hall,hcap];have bt:=bm bf;simp[af,ad,ae,ag,am,ap,aq,ab];refine Ud.of (n':=qs.length-(i+1)) oM ⟨i+1,us,rfl,oM,al,?_,by simp[ab],by simp[af],by simp[ad],by simp[ae],by simp[ag],?_,bj,aa.frame (by intro k hk;simp[labs] at hk;subst hk;rw[a8,hb])⟩;rw[<-ac];have e1:qs.length-i=(qs.length-(i+1))+1:=oM
 rw[e1,WG,<-bt]
 have:=Y5 ((i:Int)+1) oM
 simp[this];simp[hn]
 have:qs.length-i=0:=oM
 rw[this] at ac;simp only[WG] at ac;exact hk _ (by rw[<-ac];exact aa) hs
def Dw(cmp:List D->List D->Int)(qs:List (List C×List D)):List (List C×List D):=WG (UD cmp) (qs.length-1) 1 qs
theorem QS(h:HS)(c:C)(qs:List (List C×List D))(g:FuncId)(caps:List Cap)(aa:List (List D))(cmp:List D->List D->Int)(hm:MR h 3 c (qs.map (·.1)))(hlab:∀k∈labs c,k.1<h.ep)(hq:qs.length<20)
  (hf:∀h',Z0 h h' (labs c)->∀q∈qs,Zx h' q.1 q.2)(hcv:∀h',Z0 h h' (labs c)->VN h' (caps.map WX) (We aa))
  (hp:∀q∈qs,∀q'∈qs,Zj prog g (.agg q.2::.agg q'.2::We aa) (.i (cmp q.2 q'.2)))(K:V->HS->Prop)
  (hk:∀h',MR h' 3 c ((Dw cmp qs).map (·.1))->Z0 h h' (labs c)->K (.tup []) h'):
  Z3 prog 236 [.one c,.i (qs.length:Int),.one (.fn g caps)] h K:=by
 refine Z3.ov Tryz.func236 ?_;simp;refine Z4.rounds (λn e h'=>h'=h/\e.n=63/\e.get 0=.one c/\e.get 1=.i (qs.length:Int)/\e.get 2=.one (.fn g caps)/\e.get 6=.i 20/\e.get 7=.i 0/\e.get 8=.i 20) 0
  ⟨rfl,sI,sI,sI,sI,sI,sI,sI⟩ ?_
 rintro n e h' ⟨rfl,hn,h0,h1,h2,h6,h7,h8⟩;simp[h0,h1,h2,h6,h7,h8,hn];refine WR (λhlt=>absurd hlt oM) (λhge=>?_);simp[h0,h1,h2,h6,h7,h8,hn];refine Za (QY h' c qs g caps aa cmp hm hlab hf hcv hp _ (λae ac ad=>?_));simp[h0,h1,h2,h6,h7,h8,hn];refine Z4.rounds (λn e ab=>ab=ae/\e.n=63/\e.get 1=.i (qs.length:Int)/\e.get 6=.i 20) 0
  ⟨rfl,by simp[hn],by simp[h1],by simp[h6]⟩ ?_
 clear hn h0 h1 h2 h6 h7 h8;rintro n e ab ⟨rfl,hn,h1,h6⟩;simp[h1,h6,hn];refine WR (λhlt=>absurd hlt oM) (λhge=>?_);simp[h1,h6,hn];exact hk _ ac ad
theorem QM(h:HS)(c:C)(qs:List (List C×List D))(g:FuncId)(caps:List Cap)(ac:List (List D))(cmp:List D->List D->Int)(hm:MR h 3 c (qs.map (·.1)))(hlab:∀k∈labs c,k.1<h.ep)(hq:qs.length<20)
  (hf:∀h',Z0 h h' (labs c)->∀q∈qs,Zx h' q.1 q.2)(hcv:∀h',Z0 h h' (labs c)->VN h' (caps.map WX) (We ac))
  (hp:∀q∈qs,∀q'∈qs,Zj prog g (.agg q.2::.agg q'.2::We ac) (.i (cmp q.2 q'.2)))(K:V->HS->Prop)
  (hk:∀h',MR h' 3 c ((Dw cmp qs).map (·.1))->Z0 h h' (labs c)->K (.tup []) h'):
  Z3 prog 203 [.one c,.one (.fn g caps)] h K:=by
 refine Z3.ov Tryz.func203 ?_;simp;have key:∀(n:Int) (K1:V->HS->Prop),n=(qs.length:Int)->(∀h',MR h' 3 c ((Dw cmp qs).map (·.1))->Z0 h h' (labs c)->K1 (.tup []) h')->Z3 prog 236 [.one c,.i n,.one (.fn g caps)] h K1:=
  λn K1 hn hk1=>by subst hn;exact QS h c qs g caps ac cmp hm hlab hq hf hcv hp K1 hk1
 rcases hm.2.2 with⟨h1,rfl|rfl⟩|⟨l,cap,sp,rfl,_,_⟩;have h2:qs.length=0:=by simpa using congrArg List.length h1
 simp;refine Za (key _ _ oM (λh' aa ab=>?_));simp;exact hk _ aa ab;have h2:qs.length=0:=by simpa using congrArg List.length h1
 simp;refine Za (key _ _ oM (λh' aa ab=>?_));simp;exact hk _ aa ab;simp only[Yh] at key hm hk|-;simp;refine Za (key _ _ rfl (λh' aa ab=>?_));simp;exact hk _ aa ab
def Wn:List Sh:=[.d,.r [.d,.d,.d],.r [.d]]
def Vb:List Sh:=[.d,.r [.d],.d]
theorem Ow.rU{h:HS}{n:Nat}{c:C}{ts:List (List D)}{es ss:List Sh}{cs:List C}{ds:List D}{ls:List Z2}(hm:MR h n c (ts.map (·.map C.d)))(aa:es=List.replicate n .d)(ht:∀t∈ts,t.length=n)(hr:Ow h ss cs ds ls):Ow h (.r es::ss) (c::cs) (.sl ts::ds) (labs c++ls):=by
 subst aa
 have:=Ow.row (es:=List.replicate n .d) (c:=c) (qs:=ts.map λt=>(t.map C.d,t,[])) (by simpa[Function.comp_def] using hm) (λq hq=>by
  obtain⟨t,h1,rfl⟩:=Yi.1 hq
  have:=Ow.qL (h:=h) (ds:=t)
  simp only[List.map_const',ht t h1] at this;exact this) hr
 have e:∀us:List (List D),us.flatMap (λ_=>([]:List Z2))=[]:=λus=>by induction us<;>simp_all
 simpa[Function.comp_def,List.flatMap_map,e] using this
theorem Va{c:C}:(labs c).Nodup:=by cases c<;>simp[labs]
def PI(h:HS)(sh:List Sh)(ds:List D)(K:V->HS->Prop):Prop:=∀cs' h' ls',Ow h' sh cs' ds ls'->ls'.Nodup->(∀k∈ls',h.ep<=k.1/\k.1<h'.ep)->Z0 h h' []->Zo h h'->K (.agg cs') h'
theorem IC(h:HS)(cs:List C)(T:Tbl)(hf:∀h',Z0 h h' []->Zx h' cs T.enc)(hl:T.cols.length<=Zs/\T.pk.length<=Zs)(K:V->HS->Prop)
  (hk:PI h Wn T.enc K):
  Z3 prog 112 [.agg cs] h K:=by
 refine Z3.jE Tryz.func112 rfl kR λhg=>?_;refine Z3.ov Tryz.func112 ?_;have ac:=hf h .refl
 match cs,ac with
 |[c0,c1,c2],ac=>
 obtain rfl:=ac.1.flat rfl;simp;refine Z4.cu [0,1,2,3,5,6,4,7,8,9] (λe h'=>∃cs' ls',e.n=12/\e.get 2=.p (h.ep+1,32)/\h'.box (h.ep+1,32)=some cs'/\Ow h' Wn cs' T.enc ls'/\ls'.Nodup/\(∀k∈ls',h.ep<=k.1/\k.1<h'.ep)/\Z0 h h' []) ?_ ?_;simp;have ae:Z0 h ((h.qA (h.ep,16) [.d (.str T.name),c1,c2]).next.qA (h.ep+1,32) [C.d (D.str empty),C.nil,C.nil]).next []:=((Z0.refl.qA (.inr sI)).next.qA (.inr sI)).next;have ak:=(hf _ ae).2.1.rowAt (n:=3) (by simp[D.flat]) (by simpa using hl.1);refine Za (QX _ _ _ ak _ (λcc h1 am hs2 ab af=>?_));simp;refine⟨af,?_⟩;have hs3:=ae.trans hs2;have ah:=(hf _ hs3).2.2.1.rowAt (n:=1) (by simp[D.flat]) (by simpa using hl.2);refine Za (CN _ _ _ ah _ (λpc h2 hm2 ad hl2 hb2=>?_));have ag:h1.box (h.ep+1,32)=some [C.d (D.str empty),C.nil,C.nil]:=af _ _ sI;have al:=hb2 _ _ ag;simp[al];refine⟨hb2,Zb.of ?_⟩;simp at ab;have ap:∀k∈labs cc,(h2.qA (h.ep+1,32) [C.d (D.str T.name),cc,pc]).box k=h1.box k:=λk aa=>by
  have h3:=ab k.1 k.2 aa;have h4:k≠(h.ep+1,32):=by rintro rfl;simp at h3;omega
  simp[h4,ad.2 k h3.2 sI]
 have aj:∀k∈labs pc,(h2.qA (h.ep+1,32) [C.d (D.str T.name),cc,pc]).box k=h2.box k:=λk aa=>by
  have h3:=hl2 k aa;have h5:=hs2.1;simp at h5;have h4:k≠(h.ep+1,32):=by rintro rfl;simp at h3;omega
  simp[h4]
 have ho:=Ow.data (h:=h2.qA (h.ep+1,32) [C.d (D.str T.name),cc,pc]) (c:=.d (.str T.name)) rfl (Ow.rU (es:=[.d,.d,.d]) (am.frame ap) rfl sI (Ow.rU (es:=[.d]) (hm2.frame aj) rfl sI .nil));refine⟨_,_,sI,sI,sI,ho,?_,?_,(hs3.trans ad).qA (.inr sI)⟩;rw[Ym,Yg];refine⟨Va,Va,λx hx y hy=>?_⟩;rintro rfl;have h3:=ab x.1 x.2 hx;have h4:=hl2 x hy;omega;have h5:=hs2.1;have h6:=ad.1;simp at h5;intro k aa;rw[Ym,Y2] at aa;rcases aa with aa|aa
 have:=ab k.1 k.2 aa
 simp;omega
 have:=hl2 k aa
 simp;omega;rintro e h' ⟨cs',ls',hn,h2,hb,ho,hd,hlt,hs⟩;obtain⟨a,b,d,rfl⟩:∃a b d,cs'=[a,b,d]:=by
  have:=ho.len.1
  match cs',this with
  |[a,b,d],_=>exact⟨a,b,d,rfl⟩
 simp[hn,h2,hb,ZG,Zz,ZL];exact hk _ _ _ ho hd hlt hs (hs.jA hg)
abbrev Q:=List C×List D×List Z2
def Z5(c:C)(qs:List Q):List Z2:=labs c++qs.flatMap (·.2.2)
structure Part(h:HS)(sh:List Sh)(c:C)(qs:List Q)(ds:List (List D)):Prop where
 mr:MR h sh.length c (qs.map (·.1))
 ds:qs.map (·.2.1)=ds
 ow:∀q∈qs,Ow h sh q.1 q.2.1 q.2.2
theorem Part.frame{h h':HS}{sh:List Sh}{c:C}{qs:List Q}{ds:List (List D)}(p:Part h sh c qs ds)(hb:∀k∈Z5 c qs,h'.box k=h.box k):Part h' sh c qs ds:=
 ⟨p.mr.frame λl hl=>hb l (by simp[Z5,hl]),p.ds,λq hq=>(p.ow q hq).frame λl hl=>hb l (by simp only[Z5,Y2,Yx];exact .inr ⟨q,hq,hl⟩)⟩
theorem Part.frz{h:HS}{sh:List Sh}{c:C}{qs:List Q}{ds:List (List D)}(p:Part h sh c qs ds):Frz h c (.sl ds):=by obtain⟨hm,rfl,ho⟩:=p;exact(Ow.row (es:=sh) hm ho .nil).frz.1
def AC:List Sh:=[.d,.d,.d,.d,.d,.d,.d]
structure SchC(h:HS)(l:Z2)(S:Sch)(tc fc oc:C)(qt qf qo:List Q):Prop where
 box:h.box l=some [tc,fc,oc]
 t:Part h Wn tc qt (S.tables.map Tbl.enc)
 f:Part h Vb fc qf (S.fks.map Fk.enc)
 o:Part h AC oc qo (S.cons.map Cons.enc)
 nd:(l::(Z5 tc qt++(Z5 fc qf++Z5 oc qo))).Nodup
 lt:∀k∈l::(Z5 tc qt++(Z5 fc qf++Z5 oc qo)),k.1<h.ep
def A1(h:HS)(l:Z2)(S:Sch)(ls:List Z2):Prop:=∃tc fc oc qt qf qo,ls=Z5 tc qt++(Z5 fc qf++Z5 oc qo)/\SchC h l S tc fc oc qt qf qo
theorem Jp{ep:Nat}{A X X' B:List Z2}(h:(A++(X++B)).Nodup)(hx:X'.Nodup)(hn:∀k∈X',k∈X\/ep<=k.1)(hl:∀k∈A++(X++B),k.1<ep):(A++(X'++B)).Nodup:=by
 simp only[Yg,Y2] at h hl|-;obtain⟨hA,⟨hX,hB,aa⟩,hd⟩:=h;refine⟨hA,⟨hx,hB,λa ha b hb=>?_⟩,λa ha b hb=>?_⟩;rintro rfl;rcases hn a ha with h1|h1;exact aa a h1 a hb rfl
 have:=hl a (.inr (.inr hb));omega
 rintro rfl;rcases hb with hb|hb;rcases hn a hb with h1|h1;exact hd a ha a (.inl h1) rfl
 have:=hl a (.inl ha);omega
 exact hd a ha a (.inr hb) rfl
theorem SchC.ne{h:HS}{l:Z2}{S:Sch}{tc fc oc:C}{qt qf qo:List Q}(s:SchC h l S tc fc oc qt qf qo):l∉Z5 tc qt/\l∉Z5 fc qf/\l∉Z5 oc qo/\(∀k∈Z5 tc qt,k∉Z5 fc qf/\k∉Z5 oc qo)/\(∀k∈Z5 fc qf,k∉Z5 oc qo):=by
 have:=s.nd
 simp only[Xm,Yg,Y2,not_or] at this;obtain⟨⟨h1,h2,h3⟩,_,⟨_,_,h4⟩,h5⟩:=this;exact⟨h1,h2,h3,λk hk=>⟨λh6=>h5 k hk k (.inl h6) rfl,λh6=>h5 k hk k (.inr h6) rfl⟩,λk hk h6=>h4 k hk k h6 rfl⟩
theorem SchC.wM{h h':HS}{l:Z2}{S:Sch}{tc fc oc aa:C}{qt qf qo qo':List Q}{os:List Cons}(s:SchC h l S tc fc oc qt qf qo)(hb:h'.box l=some [tc,fc,aa])(hp:Part h' AC aa qo' (os.map Cons.enc))(hs:Z0 h h' (l::Z5 oc qo))
  (ab:(Z5 aa qo').Nodup)(hn:∀k∈Z5 aa qo',k∈Z5 oc qo\/(h.ep<=k.1/\k.1<h'.ep)):SchC h' l {S with cons:=os} tc fc aa qt qf qo':=by
 obtain⟨n1,n2,n3,n4,n5⟩:=s.ne;have hlt:=s.lt;simp only[Y9,Y2] at hlt;refine⟨hb,s.t.frame λk hk=>hs.2 k (hlt k (.inr (.inl hk))) ?_,s.f.frame λk hk=>hs.2 k (hlt k (.inr (.inr (.inl hk)))) ?_,hp,?_,?_⟩;simp only[Y9,not_or];exact⟨λhe=>n1 (he▸hk),(n4 k hk).2⟩;simp only[Y9,not_or];exact⟨λhe=>n2 (he▸hk),n5 k hk⟩
 have:=Jp (ep:=h.ep) (A:=l::(Z5 tc qt++Z5 fc qf)) (X:=Z5 oc qo) (X':=Z5 aa qo') (B:=[]) (by simpa using s.nd) ab (λk hk=>(hn k hk).imp_right And.left) (λk hk=>s.lt k (by simpa using hk))
 simpa using this;intro k hk
 have:=hs.1
 simp only[Y9,Y2] at hk;rcases hk with hk|hk|hk|hk
 have:=hlt k (.inl hk);omega
 have:=hlt k (.inr (.inl hk));omega
 have:=hlt k (.inr (.inr (.inl hk)));omega
 rcases hn k hk with h1|h1
 have:=hlt k (.inr (.inr (.inr h1)));omega
 exact h1.2
theorem SchC.wL{h h':HS}{l:Z2}{S:Sch}{tc fc aa oc:C}{qt qf qf' qo:List Q}{fs:List Fk}(s:SchC h l S tc fc oc qt qf qo)(hb:h'.box l=some [tc,aa,oc])(hp:Part h' Vb aa qf' (fs.map Fk.enc))(hs:Z0 h h' (l::Z5 fc qf))
  (ab:(Z5 aa qf').Nodup)(hn:∀k∈Z5 aa qf',k∈Z5 fc qf\/(h.ep<=k.1/\k.1<h'.ep)):SchC h' l {S with fks:=fs} tc aa oc qt qf' qo:=by
 obtain⟨n1,n2,n3,n4,n5⟩:=s.ne;have hlt:=s.lt;simp only[Y9,Y2] at hlt;refine⟨hb,s.t.frame λk hk=>hs.2 k (hlt k (.inr (.inl hk))) ?_,hp,s.o.frame λk hk=>hs.2 k (hlt k (.inr (.inr (.inr hk)))) ?_,?_,?_⟩;simp only[Y9,not_or];exact⟨λhe=>n1 (he▸hk),(n4 k hk).1⟩;simp only[Y9,not_or];exact⟨λhe=>n3 (he▸hk),λh6=>n5 k h6 hk⟩
 have:=Jp (ep:=h.ep) (A:=l::Z5 tc qt) (X:=Z5 fc qf) (X':=Z5 aa qf') (B:=Z5 oc qo) (by simpa using s.nd) ab (λk hk=>(hn k hk).imp_right And.left) (λk hk=>s.lt k (by simpa using hk))
 simpa using this;intro k hk
 have:=hs.1
 simp only[Y9,Y2] at hk;rcases hk with hk|hk|hk|hk
 have:=hlt k (.inl hk);omega
 have:=hlt k (.inr (.inl hk));omega
 rcases hn k hk with h1|h1
 have:=hlt k (.inr (.inr (.inl h1)));omega
 exact h1.2
 have:=hlt k (.inr (.inr (.inr hk)));omega
theorem SchC.wV{h h':HS}{l:Z2}{S:Sch}{tc aa fc oc:C}{qt qt' qf qo:List Q}{ts:List Tbl}(s:SchC h l S tc fc oc qt qf qo)(hb:h'.box l=some [aa,fc,oc])(hp:Part h' Wn aa qt' (ts.map Tbl.enc))(hs:Z0 h h' (l::Z5 tc qt))
  (ab:(Z5 aa qt').Nodup)(hn:∀k∈Z5 aa qt',k∈Z5 tc qt\/(h.ep<=k.1/\k.1<h'.ep)):SchC h' l {S with tables:=ts} aa fc oc qt' qf qo:=by
 obtain⟨n1,n2,n3,n4,n5⟩:=s.ne;have hlt:=s.lt;simp only[Y9,Y2] at hlt;refine⟨hb,hp,s.f.frame λk hk=>hs.2 k (hlt k (.inr (.inr (.inl hk)))) ?_,s.o.frame λk hk=>hs.2 k (hlt k (.inr (.inr (.inr hk)))) ?_,?_,?_⟩;simp only[Y9,not_or];exact⟨λhe=>n2 (he▸hk),λh6=>(n4 k h6).1 hk⟩;simp only[Y9,not_or];exact⟨λhe=>n3 (he▸hk),λh6=>(n4 k h6).2 hk⟩
 have:=Jp (ep:=h.ep) (A:=[l]) (X:=Z5 tc qt) (X':=Z5 aa qt') (B:=Z5 fc qf++Z5 oc qo) (by simpa using s.nd) ab (λk hk=>(hn k hk).imp_right And.left) (λk hk=>s.lt k (by simpa using hk))
 simpa using this;intro k hk
 have:=hs.1
 simp only[Y9,Y2] at hk;rcases hk with hk|hk|hk|hk
 have:=hlt k (.inl hk);omega
 rcases hn k hk with h1|h1
 have:=hlt k (.inr (.inl h1));omega
 exact h1.2
 have:=hlt k (.inr (.inr (.inl hk)));omega
 have:=hlt k (.inr (.inr (.inr hk)));omega
def WV(h:HS)(l:Z2)(ls:List Z2)(S':Sch)(v:V)(K:V->HS->Prop):Prop:=∀h' ls',A1 h' l S' ls'->Z0 h h' (l::ls)->(∀k∈ls',k∈ls\/h.ep<=k.1)->K v h'
theorem TG{α β:Type}{f:α->List β}{xs ys:List α}(h:xs.Sublist ys):(xs.flatMap f).Sublist (ys.flatMap f):=by
 induction h with
 |slnil=>exact .slnil
 |cons a _ ih=>rw[YB];exact ih.trans (List.sublist_append_right _ _)
 |cons_cons a _ ih=>rw[YB,YB];exact(List.Sublist.refl _).append ih
theorem ES{c c':C}{qs qs':List Q}(h:qs'.Sublist qs)(hc:labs c'=labs c):(Z5 c' qs').Sublist (Z5 c qs):=by unfold Z5;rw[hc];exact(List.Sublist.refl _).append (TG h)
theorem Part.sub{h h2:HS}{sh:List Sh}{c c':C}{qs qs':List Q}{ds:List (List D)}(p:Part h sh c qs ds)(hq:∀q∈qs',q∈qs)(hm:MR h2 sh.length c' (qs'.map (·.1)))(ab:(Z5 c qs).Nodup)(hb:∀k,k∉labs c->(∃q∈qs,k∈q.2.2)->h2.box k=h.box k):Part h2 sh c' qs' (qs'.map (·.2.1)):=by
 refine⟨hm,rfl,λq aa=>(p.ow q (hq q aa)).frame λk hk=>hb k (λac=>?_) ⟨q,hq q aa,hk⟩⟩;simp only[Z5,Yg] at ab;exact ab.2.2 k ac k (Yx.2 ⟨q,hq q aa,hk⟩) rfl
theorem SchC.nds{h:HS}{l:Z2}{S:Sch}{tc fc oc:C}{qt qf qo:List Q}(s:SchC h l S tc fc oc qt qf qo):(Z5 tc qt).Nodup/\(Z5 fc qf).Nodup/\(Z5 oc qo).Nodup:=by
 have:=s.nd
 simp only[Xm,Yg] at this;exact⟨this.2.1,this.2.2.1.1,this.2.2.1.2.1⟩
theorem Hn{α:Type}{qs:List α}{i j:Nat}(h:i<=j):(qs.take i++qs.drop j).Sublist qs:=by
 have h1:(qs.drop j).Sublist (qs.drop i):=by
  have:qs.drop j=(qs.drop i).drop (j-i):=by rw[Xb];congr 1;omega
  rw[this];exact List.drop_sublist _ _
 have h2:=(List.Sublist.refl (qs.take i)).append h1
 rwa [YI] at h2
theorem SchC.frame{h h':HS}{l:Z2}{S:Sch}{tc fc oc:C}{qt qf qo:List Q}(s:SchC h l S tc fc oc qt qf qo)(hs:Z0 h h' []):SchC h' l S tc fc oc qt qf qo:=by
 have hb:∀k∈l::(Z5 tc qt++(Z5 fc qf++Z5 oc qo)),h'.box k=h.box k:=λk hk=>hs.2 k (s.lt k hk) sI;simp only[Y9,Y2] at hb;exact⟨by rw[hb l (.inl rfl),s.box],s.t.frame λk hk=>hb k (.inr (.inl hk)),s.f.frame λk hk=>hb k (.inr (.inr (.inl hk))),s.o.frame λk hk=>hb k (.inr (.inr (.inr hk))),s.nd,λk hk=>Y3 (s.lt k hk) hs.1⟩
theorem Zx.qL{h:HS}:∀{ds:List D},Zx h (ds.map C.d) ds
 |[]=>trivial
 |_::_=>⟨.data rfl,Zx.qL⟩
end
end Go.Am
section
namespace Go.Am
theorem BF{n m:Nat}(h:n<=m):n<=m+1:=Nat.le_succ_of_le h
theorem Zm{l:Z2}{n:Nat}(hl:l.1<n):∀m b,n<=m->(l=(m,b))=False:=λm b h=>eq_false λhe=>by rw[he] at hl;simp at hl;omega
theorem ZO{l:Z2}{n:Nat}(hl:l.1<n):∀m b,n<=m->((m,b)=l)=False:=λm b h=>eq_false λhe=>by rw[<-he] at hl;simp at hl;omega
theorem F3{α:Type}{xs:List α}{i:Nat}{x}(h:xs[i]?=some x):xs.set i x=xs:=by obtain⟨hi,rfl⟩:=Y0.1 h;exact List.set_getElem_self hi
theorem BY{c qs}{i:Nat}{q q'}(hi:qs[i]?=some q)(hl:q'.2.2=q.2.2):Z5 c (qs.set i q')=Z5 c qs:=by
 unfold Z5
 congr 1
 have:(qs.set i q').map (·.2.2)=qs.map (·.2.2):=by rw[YD,hl];exact F3 (by rw[Y8,hi];rfl)
 rw[List.flatMap_def,List.flatMap_def,this]
theorem EF{c qs}{i j:Nat}{q q2 k}(aa:(Z5 c qs).Nodup)(hi:qs[i]?=some q)(hj:qs[j]?=some q2)(hne:j≠i)(hk:k∈q2.2.2):k∉labs c/\k∉q.2.2:=by
 simp only[Z5,Yg] at aa;refine⟨λh=>aa.2.2 k h k (Yx.2 ⟨q2,Y4 hj,hk⟩) rfl,λh=>?_⟩;have h1:=(XN.1 aa.2.1).2;rw[YV] at h1;obtain⟨li,ei⟩:=Y0.1 hi;obtain⟨lj,ej⟩:=Y0.1 hj;rcases Nat.lt_or_gt_of_ne hne with hlt|hlt;exact h1 j i lj li hlt k (by rw[ej];exact hk) k (by rw[ei];exact h) rfl;exact h1 i j li lj hlt k (by rw[ei];exact h) k (by rw[ej];exact hk) rfl
theorem Ak{c qs}{i:Nat}{q k}(aa:(Z5 c qs).Nodup)(hi:qs[i]?=some q)(hk:k∈q.2.2):k∉labs c:=by
 simp only[Z5,Yg] at aa;exact λh=>aa.2.2 k h k (Yx.2 ⟨q,Y4 hi,hk⟩) rfl
theorem VY{c qs}{i:Nat}{q k}(hi:qs[i]?=some q)(hk:k∈q.2.2):k∈Z5 c qs:=by simp only[Z5,Y2,Yx];exact .inr ⟨q,Y4 hi,hk⟩
theorem JR{c qs}{i:Nat}{q}(aa:(Z5 c qs).Nodup)(hi:qs[i]?=some q):q.2.2.Nodup:=by simp only[Z5,Yg] at aa;exact(XN.1 aa.2.1).1 q (Y4 hi)
theorem Part.upd{h h' sh c qs ds}{i:Nat}{q q'}(P:Part h sh c qs ds)(hi:qs[i]?=some q)(hm:MR h' sh.length c ((qs.map (·.1)).set i q'.1))(ho:Ow h' sh q'.1 q'.2.1 q'.2.2)
  (hb:∀j q2,j≠i->qs[j]?=some q2->∀k∈q2.2.2,h'.box k=h.box k):Part h' sh c (qs.set i q') (ds.set i q'.2.1):=by
 refine⟨by rw[YD];exact hm,by rw[YD,P.ds],λq2 hq=>?_⟩;obtain⟨j,hj⟩:=YR hq;by_cases hji:j=i;subst hji;have hlt:=(Y0.1 hi).1;rw[YL hlt] at hj;cases hj;exact ho;rw[YS (λh=>hji h.symm)] at hj;exact(P.ow q2 (Y4 hj)).frame λk hk=>hb j q2 hji hj k hk
theorem Part.at{h sh c qs ds}(P:Part h sh c qs ds){i:Nat}{d}(hi:ds[i]?=some d):
  ∃q lr cap sp,qs[i]?=some q/\q.2.1=d/\Ow h sh q.1 d q.2.2/\c=.mrow lr 0 ds.length cap/\h.box lr=some (Z8 (qs.map (·.1)) sp)/\(Z8 (qs.map (·.1)) sp).length=cap*sh.length/\Zr sh.length (qs.map (·.1))/\(qs.map (·.1))[i]?=some q.1:=by
 have hd:=P.ds;subst hd;rw[Y8] at hi;cases hq:qs[i]? with
 |none=>rw[hq] at hi;simp at hi
 |some q=>?_
 rw[hq] at hi;simp only[Yj,Ya] at hi;have hlt:=(Y0.1 hq).1;obtain⟨lr,cap,sp,h1,h2,h3⟩:=P.mr.block sO;refine⟨q,lr,cap,sp,rfl,hi,hi▸P.ow q (Y4 hq),by simpa using h1,h2,h3,P.mr.1,by rw[Y8,hq];rfl⟩
theorem Part.wr{h sh c qs ds}{i f n cap:Nat}{q lr}{sp vs:List C}{d':List D}(P:Part h sh c qs ds)(ad:(Z5 c qs).Nodup)(hi:qs[i]?=some q)(hc:c=.mrow lr 0 n cap)(hB:h.box lr=some (Z8 (qs.map (·.1)) sp))
  (hlen:(Z8 (qs.map (·.1)) sp).length=cap*sh.length)(hf:f+vs.length<=sh.length)(ho:Ow h sh (Zg q.1 f vs) d' q.2.2):
  Part (h.qA lr (Zg (Z8 (qs.map (·.1)) sp) (i*sh.length+f) vs)) sh c (qs.set i (Zg q.1 f vs,d',q.2.2)) (ds.set i d'):=by
 have hx:(qs.map (·.1))[i]?=some q.1:=by rw[Y8,hi];rfl
 have ac:labs c=[lr]:=by rw[hc];rfl
 have ab:∀k∈q.2.2,k≠lr:=λk hk he=>Ak ad hi hk (by rw[ac,he];simp);refine P.upd (q':=(Zg q.1 f vs,d',q.2.2)) hi ?_ (ho.frame λk hk=>by simp[ab k hk]) (λj q2 hne hj k hk=>?_);have aa:=Ar (sp:=sp) P.mr.1 hx hf;have ae:=P.mr.1.get hx;refine⟨P.mr.1.set (by rw[Ui oM];exact ae),by simpa using P.mr.2.1,.inr ⟨lr,cap,sp,?_,by simp[aa],?_⟩⟩;rcases P.mr.2.2 with⟨h1,h2⟩|⟨l2,cap2,af,h1,_⟩;rw[h1] at hx;simp at hx;rw[hc] at h1|-;simp at h1;simp[h1];rw[<-aa,Ui ?_,hlen]
 have:=Up (sp:=sp) P.mr.1 (Y0.1 hx).1
 omega
 have:=(EF ad hi hj hne hk).1
 rw[ac] at this;have h2:k≠lr:=λhe=>this (by simp[he]);simp[h2]
theorem Ow.flat{h ss cs ds ls}(o:Ow h ss cs ds ls):∀{n:Nat},ss=List.replicate n .d->(∀d∈ds,d.flat=true)->cs=ds.map C.d/\ls=[]:=by
 induction o with
 |nil=>intro n _ _;exact⟨rfl,rfl⟩
 |@data c x ss cs ds ls hx _ ih=>?_
 |@emp es c ss cs ds ls _ _ _=>?_
 |@row es c qs ss cs ds ls _ _ _ _ _=>?_
 intro n he hf;cases n with
 |zero=>simp at he
 |succ n=>?_
 simp[XT] at he;obtain⟨h1,h2⟩:=ih he (λd hd=>hf d (by simp[hd]));have h3:=(Frz.data (h:=h) hx).flat (hf x sI);exact⟨by rw[h1,h3];rfl,h2⟩;intro n he _;cases n<;>simp[XT] at he;intro n he _;cases n<;>simp[XT] at he
theorem Ow.rH{h es ss cs ts ds ls}(o:Ow h (.r es::ss) cs (.sl ts::ds) ls):ts=[]\/∃c qs cs' ls',cs=c::cs'/\ls=Z5 c qs++ls'/\Part h es c qs ts/\Ow h ss cs' ds ls':=by rcases o.jV with⟨c,cs',aa,rfl,h2,_⟩|⟨c,qs,cs',aa,ls',rfl,h2,rfl,hm,hq,hr⟩;simp at h2;exact .inl h2.1;simp at h2;obtain⟨h2,h3⟩:=h2;refine .inr ⟨c,qs,cs',ls',rfl,rfl,⟨hm,h2.symm,hq⟩,?_⟩;rw[h3];exact hr
theorem Ow.rR{h es ss c qs cs ts ds ls}(P:Part h es c qs ts)(o:Ow h ss cs ds ls):Ow h (.r es::ss) (c::cs) (.sl ts::ds) (Z5 c qs++ls):=by obtain⟨hm,rfl,hq⟩:=P;exact .row hm hq o
def Sc(h:HS)(l:Z2)(S:Sch)(tc fc oc:C)(ta fa oa:List Z2):Prop:=∃qt qf qo,ta=Z5 tc qt/\fa=Z5 fc qf/\oa=Z5 oc qo/\SchC h l S tc fc oc qt qf qo
section
variable{h h':HS}{l:Z2}{S:Sch}{tc fc oc:C}{ta fa oa:List Z2}
theorem Sc.box(s:Sc h l S tc fc oc ta fa oa):h.box l=some [tc,fc,oc]:=by obtain⟨_,_,_,_,_,_,s⟩:=s;exact s.box
theorem Sc.frame(s:Sc h l S tc fc oc ta fa oa)(hs:Z0 h h' []):Sc h' l S tc fc oc ta fa oa:=by obtain⟨qt,qf,qo,h1,h2,h3,s⟩:=s;exact⟨qt,qf,qo,h1,h2,h3,s.frame hs⟩
theorem Sc.ows(s:Sc h l S tc fc oc ta fa oa):A1 h l S (ta++(fa++oa)):=by obtain⟨qt,qf,qo,rfl,rfl,rfl,s⟩:=s;exact⟨tc,fc,oc,qt,qf,qo,rfl,s⟩
theorem A1.sc{ls}(o:A1 h l S ls):∃tc fc oc ta fa oa,ls=ta++(fa++oa)/\Sc h l S tc fc oc ta fa oa:=by obtain⟨tc,fc,oc,qt,qf,qo,h1,s⟩:=o;exact⟨tc,fc,oc,_,_,_,h1,qt,qf,qo,rfl,rfl,rfl,s⟩
theorem Sc.lt(s:Sc h l S tc fc oc ta fa oa):∀k∈l::(ta++(fa++oa)),k.1<h.ep:=by obtain⟨qt,qf,qo,rfl,rfl,rfl,s⟩:=s;exact s.lt
theorem Sc.nd(s:Sc h l S tc fc oc ta fa oa):(l::(ta++(fa++oa))).Nodup:=by obtain⟨qt,qf,qo,rfl,rfl,rfl,s⟩:=s;exact s.nd
theorem Sc.xM(s:Sc h l S tc fc oc ta fa oa):Frz h tc (.sl (S.tables.map Tbl.enc)):=by obtain⟨qt,qf,qo,rfl,rfl,rfl,s⟩:=s;exact s.t.frz
theorem Sc.wS(s:Sc h l S tc fc oc ta fa oa):Frz h fc (.sl (S.fks.map Fk.enc)):=by obtain⟨qt,qf,qo,rfl,rfl,rfl,s⟩:=s;exact s.f.frz
theorem Sc.xI(s:Sc h l S tc fc oc ta fa oa):Frz h oc (.sl (S.cons.map Cons.enc)):=by obtain⟨qt,qf,qo,rfl,rfl,rfl,s⟩:=s;exact s.o.frz
theorem Sc.frz(s:Sc h l S tc fc oc ta fa oa):Zx h [tc,fc,oc] S.enc:=⟨s.xM,s.wS,s.xI,trivial⟩
end
theorem MR.len{h}{n:Nat}{c xs}(m:MR h n c xs):ZW c=some xs.length:=m.rd.2.1
theorem Sc.len{h l S tc fc oc ta fa oa}(s:Sc h l S tc fc oc ta fa oa):(ZW tc=some S.tables.length/\S.tables.length<=Zs)/\(ZW fc=some S.fks.length/\S.fks.length<=Zs)/\ZW oc=some S.cons.length/\S.cons.length<=Zs:=by
 obtain⟨qt,qf,qo,rfl,rfl,rfl,s⟩:=s;have e1:qt.length=S.tables.length:=by have:=congrArg List.length s.t.ds;simpa using this
 have e2:qf.length=S.fks.length:=by have:=congrArg List.length s.f.ds;simpa using this
 have e3:qo.length=S.cons.length:=by have:=congrArg List.length s.o.ds;simpa using this
 have h1:=s.t.mr.rd;have h2:=s.f.mr.rd;have h3:=s.o.mr.rd;refine⟨⟨?_,?_⟩,⟨?_,?_⟩,?_,?_⟩;rw[h1.2.1];simp[e1];rw[<-e1];simpa using h1.2.2.2;rw[h2.2.1];simp[e2];rw[<-e2];simpa using h2.2.2.2;rw[h3.2.1];simp[e3];rw[<-e3];simpa using h3.2.2.2
theorem WQ{c}{n:Nat}{f}(hc:ZW c=some n)(hk:f n):lenK c (k:=⟨f⟩):=by
 unfold lenK;cases c<;>simp[ZW,C.qE] at hc<;>first|(subst hc;exact hk)|skip
 rename_i x;cases x<;>simp at hc;subst hc;exact λ_=>hk;subst hc;exact λ_=>hk;subst hc;exact λ_=>hk;subst hc;exact λ_=>hk
theorem Ox:Vb.length=3:=rfl
theorem JH:Wn.length=3:=rfl
theorem SchC.wrF{h h' l S tc fc oc qt qf qf' qo fs}(s:SchC h l S tc fc oc qt qf qo)(hp:Part h' Vb fc qf' (fs.map Fk.enc))(hs:Z0 h h' (Z5 fc qf))(hl:Z5 fc qf'=Z5 fc qf):SchC h' l {S with fks:=fs} tc fc oc qt qf' qo:=
 s.wL (by rw[hs.2 l (s.lt l sI) s.ne.2.1];exact s.box) hp (hs.mono λk hk=>by simp[hk]) (by rw[hl];exact s.nds.2.1) (λk hk=>.inl (hl▸hk))
theorem SchC.wrO{h h' l S tc fc oc qt qf qo qo' os}(s:SchC h l S tc fc oc qt qf qo)(hp:Part h' AC oc qo' (os.map Cons.enc))(hs:Z0 h h' (Z5 oc qo))(hl:Z5 oc qo'=Z5 oc qo):SchC h' l {S with cons:=os} tc fc oc qt qf qo':=
 s.wM (by rw[hs.2 l (s.lt l sI) s.ne.2.2.1];exact s.box) hp (hs.mono λk hk=>by simp[hk]) (by rw[hl];exact s.nds.2.2) (λk hk=>.inl (hl▸hk))
theorem Z0.rN{h l cs ls}(hl:l∈ls):Z0 h (h.qA l cs) ls:=Z0.refl.qA (.inl hl)
structure Elem(h:HS)(lr:Z2)(i n:Nat)(x:List C)(B:List C):Prop where
 box:h.box lr=some B
 rd:∀g m,g+m<=n->Zl m (B.drop (i*n+g))=Zl m (x.drop g)
 rd0:∀m,m<=n->Zl m (B.drop (i*n))=Zl m x
 le:i*n+n<=B.length
theorem Part.elem{h sh c qs ds}(P:Part h sh c qs ds){i:Nat}{d}(hi:ds[i]?=some d):
  ∃q lr cap sp,qs[i]?=some q/\q.2.1=d/\Ow h sh q.1 d q.2.2/\c=.mrow lr 0 ds.length cap/\(Z8 (qs.map (·.1)) sp).length=cap*sh.length/\Elem h lr i sh.length q.1 (Z8 (qs.map (·.1)) sp):=by
 obtain⟨q,lr,cap,sp,h1,h2,h3,h4,h5,h6,h7,h8⟩:=P.at hi;refine⟨q,lr,cap,sp,h1,h2,h3,h4,h6,h5,λg m hg=>Vf h7 h8 hg,λm hm=>?_,Up h7 (Y0.1 h8).1⟩
 have:=Vf (sp:=sp) (f:=0) (m:=m) h7 h8 oM
 simpa using this
end Go.Am
end
namespace Go.Am
section
theorem Uq{α β:Type}{f:α->β}{xs:List α}{i:Nat}{x:α}(h:xs[i]?=some x):(xs.map f)[i]?=some (f x):=by rw[Y8,h];rfl
theorem C1{α β:Type}{f:α->β}{xs:List α}{i:Nat}{x:α}:(xs.set i x).map f=(xs.map f).set i (f x):=YD
theorem Part.rD{h:HS}{n:Nat}{sh:List Sh}{c:C}{qs:List Q}{ds:List (List D)}(P:Part h sh c qs ds)(aa:sh=List.replicate n .d){i:Nat}{d:List D}(hi:ds[i]?=some d)(hf:∀x∈d,x.flat=true):
  ∃lr cap B,c=.mrow lr 0 ds.length cap/\Elem h lr i n (d.map C.d) B/\qs[i]?=some (d.map C.d,d,[])/\
    (∀g vs d',(Z5 c qs).Nodup->g+vs.length<=n->Zg (d.map C.d) g vs=d'.map C.d->d'.length=n->∃qs',Z5 c qs'=Z5 c qs/\Part (h.qA lr (Zg B (i*n+g) vs)) sh c qs' (ds.set i d')):=by
 obtain⟨q,lr,cap,sp,h1,h2,h3,h4,h5,h6⟩:=P.elem hi;have hn:sh.length=n:=by rw[aa];simp
 obtain⟨e1,e2⟩:=h3.flat aa hf;have eq:q=(d.map C.d,d,[]):=by rw[<-e1,<-e2,<-h2]
 subst eq;rw[hn] at h5 h6;refine⟨lr,cap,_,h4,h6,h1,λg vs d' ab hg hs hd=>?_⟩;refine⟨qs.set i (Zg (d.map C.d) g vs,d',[]),BY h1 rfl,?_⟩
 have:=P.wr (f:=g) (vs:=vs) (d':=d') ab h1 h4 h6.box (by rw[h5,hn]) (by rw[hn];exact hg) (by
  rw[hs,aa]
  have:=Ow.qL (h:=h) (ds:=d')
  simp only[List.map_const',hd] at this;exact this)
 rw[hn] at this;exact this
theorem Cons.flat(c:Cons):∀x∈c.enc,x.flat=true:=by simp[D.flat]
theorem Col.flat(c:Col):∀x∈c.enc,x.flat=true:=by simp[D.flat]
theorem JD(c:Int):∀x∈Zd c,x.flat=true:=by simp[D.flat]
theorem Sc.con{h:HS}{l:Z2}{S:Sch}{tc fc oc:C}{ta fa oa:List Z2}(s:Sc h l S tc fc oc ta fa oa){i:Nat}{c:Cons}(hi:S.cons[i]?=some c):
  ∃lo cap B,oc=.mrow lo 0 S.cons.length cap/\lo∈oa/\Elem h lo i 7 (c.enc.map C.d) B/\
    ∀g vs c',g+vs.length<=7->Zg (c.enc.map C.d) g vs=c'.enc.map C.d->Sc (h.qA lo (Zg B (i*7+g) vs)) l {S with cons:=S.cons.set i c'} tc fc oc ta fa oa:=by
 obtain⟨qt,qf,qo,rfl,rfl,rfl,s⟩:=s;obtain⟨lo,cap,B,h1,h2,h3,h4⟩:=s.o.rD (n:=7) rfl (Uq hi) c.flat;have hm:lo∈Z5 oc qo:=by rw[h1];simp[Z5,labs]
 refine⟨lo,cap,B,by simpa using h1,hm,h2,λg vs c' hg hs=>?_⟩;obtain⟨qo',h5,h6⟩:=h4 g vs c'.enc s.nds.2.2 hg hs rfl;refine⟨qt,qf,qo',rfl,rfl,h5.symm,s.wrO (by rw[C1];exact h6) (Z0.rN hm) h5⟩
theorem Sc.fk{h:HS}{l:Z2}{S:Sch}{tc fc oc:C}{ta fa oa:List Z2}(s:Sc h l S tc fc oc ta fa oa){i:Nat}{f:Fk}(hi:S.fks[i]?=some f):
  ∃lf cap B c1,fc=.mrow lf 0 S.fks.length cap/\lf∈fa/\Elem h lf i 3 [.d (.str f.table),c1,.d (.str f.ref)] B/\(∀h',Z0 h h' []->Frz h' c1 (.sl (f.cols.map Zd)))/\(ZW c1=some f.cols.length/\f.cols.length<=Zs)/\
    (∀g vs f',f'.cols=f.cols->g+vs.length<=3->Zg [.d (.str f.table),c1,.d (.str f.ref)] g vs=[.d (.str f'.table),c1,.d (.str f'.ref)]->Sc (h.qA lf (Zg B (i*3+g) vs)) l {S with fks:=S.fks.set i f'} tc fc oc ta fa oa)/\
    (∀k v,f.cols[k]?=some v->∃l2 cap2 B2,c1=.mrow l2 0 f.cols.length cap2/\l2∈fa/\l2≠lf/\Elem h l2 k 1 [.d (.int .i64 v)] B2/\
     ∀v',Sc (h.qA l2 (Zg B2 (k*1) [.d (.int .i64 v')])) l {S with fks:=S.fks.set i {f with cols:=f.cols.set k v'}} tc fc oc ta fa oa):=by
 obtain⟨qt,qf,qo,rfl,rfl,rfl,s⟩:=s;have ac:=s.nds.2.1;have hlt:∀k∈Z5 fc qf,k.1<h.ep:=λk hk=>s.lt k (by simp[hk]);obtain⟨q,lf,cap,sp,h1,h2,h3,h4,h5,h6⟩:=s.f.elem (Uq (f:=Fk.enc) hi);have hm:lf∈Z5 fc qf:=by rw[h4];simp[Z5,labs]
 rw[Ox] at h5 h6;obtain⟨qc,qd,ql⟩:=q;simp only at h2 h3 h6;subst h2;obtain⟨c0,x0,cs,ds,rfl,e1,e2,h7⟩:=h3.jJ;simp only[Fk.enc,List.cons.injEq] at e1;obtain⟨rfl,rfl⟩:=e1;obtain rfl:=(Frz.data (h:=h) e2).flat rfl;have am:∀h',Z0 h h' []->Zx h' cs [.sl (f.cols.map Zd),.str f.ref]:=λh' hs=>(h7.frame λk hk=>hs.2 k (hlt k (VY h1 hk)) sI).frz;have key:∃c1,cs=[c1,.d (.str f.ref)]/\(ZW c1=some f.cols.length/\f.cols.length<=Zs):=by rcases h7.jV with⟨c1,cs',aj,rfl,e3,e4,h8⟩|⟨c1,qs1,cs',aj,ls',rfl,e3,_,ad,_,h8⟩;simp only[List.cons.injEq] at e3;obtain⟨e3,rfl⟩:=e3;obtain⟨c2,x2,ag,ah,rfl,e5,e6,h9⟩:=h8.jJ;simp only[List.cons.injEq] at e5;obtain⟨rfl,rfl⟩:=e5;obtain rfl:=(Frz.data (h:=h) e6).flat rfl;obtain⟨rfl,_,_⟩:=h9.qV;simp at e3;refine⟨c1,rfl,?_,by simp[e3]⟩;cases c1<;>simp[C.toD] at e4<;>subst_vars<;>simp[ZW,C.qE,e3];simp only[List.cons.injEq] at e3;obtain⟨e3,rfl⟩:=e3;obtain⟨c2,x2,ag,ah,rfl,e5,e6,h9⟩:=h8.jJ;simp only[List.cons.injEq] at e5;obtain⟨rfl,rfl⟩:=e5;obtain rfl:=(Frz.data (h:=h) e6).flat rfl;obtain⟨rfl,_,_⟩:=h9.qV;simp at e3;have e4:=congrArg List.length e3;simp at e4;exact⟨c1,rfl,by rw[MR.len ad];simp[e4],by rw[e4];simpa using ad.2.1⟩
 obtain⟨c1,rfl,al⟩:=key;refine⟨lf,cap,_,c1,by simpa using h4,hm,h6,λh' hs=>(am h' hs).1,al,λg vs f' hc hg af=>?_,λk v hk=>?_⟩;refine⟨qt,qf.set i ([.d (.str f'.table),c1,.d (.str f'.ref)],f'.enc,ql),qo,rfl,(BY (q':=(_,f'.enc,ql)) h1 rfl).symm,rfl,s.wrF ?_ (Z0.rN hm) (BY (q':=(_,f'.enc,ql)) h1 rfl)⟩
 have:=s.f.wr (f:=g) (vs:=vs) (d':=f'.enc) ac h1 h4 h6.box h5 hg (by
  rw[af];refine .data (x:=.str f'.table) rfl ?_;rcases h7.jV with⟨c1,cs',aj,e0,e3,e4,h8⟩|⟨c1,qs1,cs',aj,ls',e0,e3,rfl,ad,ak,h8⟩;simp at e3 e0;obtain⟨e3,rfl⟩:=e3;obtain⟨rfl,rfl⟩:=e0;obtain⟨c2,x2,ag,ah,ab,e5,e6,h9⟩:=h8.jJ;simp only[List.cons.injEq] at e5 ab;obtain⟨rfl,rfl⟩:=e5;obtain⟨rfl,rfl⟩:=ab;rw[hc,e3];exact .emp e4 (.data (x:=.str f'.ref) rfl h9);simp at e3 e0;obtain⟨e3,rfl⟩:=e3;obtain⟨rfl,rfl⟩:=e0;obtain⟨c2,x2,ag,ah,ab,e5,e6,h9⟩:=h8.jJ;simp only[List.cons.injEq] at e5 ab;obtain⟨rfl,rfl⟩:=e5;obtain⟨rfl,rfl⟩:=ab;rw[hc,show f.cols.map Zd=qs1.map (λq=>q.2.1) by simpa using e3];exact .row ad ak (.data (x:=.str f'.ref) rfl h9))
 rw[af,Ox] at this;rw[C1];exact this;rcases h7.rH with e|⟨c1',qs1,cs',ls',e0,rfl,P1,h8⟩
 have:f.cols=[]:=by simpa using e
 rw[this] at hk;simp at hk;simp only[List.cons.injEq] at e0;obtain⟨rfl,rfl⟩:=e0;obtain⟨l2,cap2,B2,k1,k2,k3,k4⟩:=P1.rD (n:=1) rfl (Uq (f:=Zd) hk) (JD v);have hl2:l2∈Z5 c1 qs1:=by rw[k1];simp[Z5,labs]
 have ae:l2∈Z5 fc qf:=VY h1 (by simp[hl2]);have hne:l2≠lf:=λhe=>Ak ac h1 (k:=l2) (by simp[hl2]) (by rw[he,h4];simp[labs]);have aa:=JR ac h1;simp only at aa;refine⟨l2,cap2,B2,by simpa using k1,ae,hne,k2,λv'=>?_⟩;obtain⟨aq,k5,k6⟩:=k4 0 [.d (.int .i64 v')] [.int .i64 v'] ((Yg.1 aa).1) sI sI sI;refine⟨qt,qf.set i ([.d (.str f.table),c1,.d (.str f.ref)],({f with cols:=f.cols.set k v'}:Fk).enc,Z5 c1 qs1++ls'),qo,rfl,(BY (q':=(_,({f with cols:=f.cols.set k v'}:Fk).enc,Z5 c1 qs1++ls')) h1 rfl).symm,rfl,s.wrF ?_ (Z0.rN ae) (BY (q':=(_,({f with cols:=f.cols.set k v'}:Fk).enc,Z5 c1 qs1++ls')) h1 rfl)⟩;rw[C1];refine s.f.upd (q':=(_,_,_)) h1 ?_ ?_ ?_
 have:(qf.map (·.1)).set i [.d (.str f.table),c1,.d (.str f.ref)]=qf.map (·.1):=F3 (Uq (f:=λq:Q=>q.1) h1)
 rw[this];refine s.f.mr.frame λk hk=>?_
 have:k≠l2:=λhe=>Ak ac h1 (k:=l2) (by simp[hl2]) (he▸hk)
 simp[this];refine .data rfl ?_;rw[<-k5];simp only[YY] at k6;refine Ow.rR (ts:=(f.cols.set k v').map Zd) (by rw[C1];exact k6) (h8.frame λk hk=>?_)
 have:k≠l2:=λhe=>(Yg.1 aa).2.2 l2 hl2 k hk he.symm
 simp[this];intro j q2 hj ap k hk
 have:=(EF ac h1 ap hj hk).2
 have:k≠l2:=λhe=>this (by simp[he,hl2])
 simp[this]
theorem Ow.split{h s ss cs x ds ls}(o:Ow h (s::ss) cs (x::ds) ls):∃c cs' l1 l2,cs=c::cs'/\ls=l1++l2/\Ow h [s] [c] [x] l1/\Ow h ss cs' ds l2:=by
 cases o with
 |data hx hr=>exact⟨_,_,[],_,rfl,rfl,.data hx .nil,hr⟩
 |emp hx hr=>exact⟨_,_,[],_,rfl,rfl,.emp hx .nil,hr⟩
 |row hm hq hr=>exact⟨_,_,_,_,rfl,rfl,by simpa using Ow.row hm hq .nil,hr⟩
theorem Ow.join{h s ss c cs x ds l1 l2}(o:Ow h [s] [c] [x] l1)(o2:Ow h ss cs ds l2):Ow h (s::ss) (c::cs) (x::ds) (l1++l2):=by
 cases o with
 |data hx hr=>obtain⟨_,_,rfl⟩:=hr.qV;exact .data hx o2
 |emp hx hr=>obtain⟨_,_,rfl⟩:=hr.qV;exact .emp hx o2
 |row hm hq hr=>?_
 obtain⟨_,_,rfl⟩:=hr.qV
 have:=Ow.row hm hq o2
 simpa using this
theorem Ow.wK{h es c ts ls}(o:Ow h [.r es] [c] [.sl ts] ls):ZW c=some ts.length/\ts.length<=Zs:=by rcases o.jV with⟨c1,cs',ab,e1,e3,e4,h8⟩|⟨c1,qs1,cs',ab,ls',e1,e3,_,aa,_,h8⟩;simp at e1 e3;obtain⟨rfl,rfl⟩:=e1;refine⟨?_,by simp[e3]⟩;cases c<;>simp[C.toD] at e4<;>subst_vars<;>simp[ZW,C.qE,e3];simp at e1 e3;obtain⟨rfl,rfl⟩:=e1;have e4:=congrArg List.length e3.1;simp at e4;exact⟨by rw[MR.len aa];simp[e4],by rw[e4];simpa using aa.2.1⟩
theorem Ow.wB{h es c ts ls}(o:Ow h [.r es] [c] [.sl ts] ls)(h0:ts≠[]):∃qs,ls=Z5 c qs/\Part h es c qs ts:=by rcases o.rH with e|⟨c1,qs1,cs',ls',e0,rfl,P1,h8⟩;exact absurd e h0;simp at e0;obtain⟨rfl,rfl⟩:=e0;obtain⟨_,_,rfl⟩:=h8.qV;exact⟨qs1,sI,P1⟩
theorem Ow.rS{h es c qs ts}(P:Part h es c qs ts):Ow h [.r es] [c] [.sl ts] (Z5 c qs):=by simpa using Ow.rR P (.nil)
theorem Ow.jD{h es c ts ls}(o:Ow h [.r es] [c] [.sl ts] ls):∀k∈labs c,k∈ls:=by rcases o.jV with⟨c1,cs',aa,e1,_,e4,h8⟩|⟨c1,qs1,cs',aa,ls',e1,_,rfl,ab,_,h8⟩;simp at e1;obtain⟨rfl,rfl⟩:=e1;cases c<;>simp[C.toD] at e4<;>simp[labs];simp at e1;obtain⟨rfl,rfl⟩:=e1;intro k hk;simp[hk]
theorem Ow.rT{h es c ts ls}(o:Ow h [.r es] [c] [.sl ts] ls):Frz h c (.sl ts):=o.frz.1
theorem Ow.rL{h n es c ts}(hm:MR h n c (ts.map (·.map C.d)))(aa:es=List.replicate n .d)(ht:∀t∈ts,t.length=n):Ow h [.r es] [c] [.sl ts] (labs c):=by simpa using Ow.rU hm aa ht .nil
theorem Ja{A X X' B:List Z2}(h:(A++(X++B)).Nodup)(hx:X'.Nodup)(hn:∀k∈X',k∈X\/k∉A++(X++B)):(A++(X'++B)).Nodup:=by
 simp only[Yg,Y2,not_or] at h hn|-;obtain⟨hA,⟨_,hB,aa⟩,hd⟩:=h;refine⟨hA,⟨hx,hB,λa ha b hb=>?_⟩,λa ha b hb=>?_⟩;rintro rfl;rcases hn a ha with h1|h1;exact aa a h1 a hb rfl;exact h1.2.2 hb;rintro rfl;rcases hb with hb|hb;rcases hn a hb with h1|h1;exact hd a ha a (.inl h1) rfl;exact h1.1 ha;exact hd a ha a (.inr hb) rfl
theorem SchC.wQ{h h':HS}{l:Z2}{S tc tc' fc oc qt qt' qf qo ts}(s:SchC h l S tc fc oc qt qf qo)(hb:h'.box l=some [tc',fc,oc])(hp:Part h' Wn tc' qt' (ts.map Tbl.enc))(hs:Z0 h h' (l::Z5 tc qt))
  (aa:(Z5 tc' qt').Nodup)(hn:∀k∈Z5 tc' qt',k∈Z5 tc qt\/(k∉l::(Z5 tc qt++(Z5 fc qf++Z5 oc qo))/\k.1<h'.ep)):SchC h' l {S with tables:=ts} tc' fc oc qt' qf qo:=by
 obtain⟨_,n2,n3,n4,_⟩:=s.ne;have hlt:=s.lt;simp only[Y9,Y2] at hlt;refine⟨hb,hp,s.f.frame λk hk=>hs.2 k (hlt k (.inr (.inr (.inl hk)))) ?_,s.o.frame λk hk=>hs.2 k (hlt k (.inr (.inr (.inr hk)))) ?_,?_,?_⟩;simp only[Y9,not_or];exact⟨λhe=>n2 (he▸hk),λh6=>(n4 k h6).1 hk⟩;simp only[Y9,not_or];exact⟨λhe=>n3 (he▸hk),λh6=>(n4 k h6).2 hk⟩
 have:=Ja (A:=[l]) (X':=Z5 tc' qt') (B:=Z5 fc qf++Z5 oc qo) (by simpa using s.nd) aa (λk hk=>(hn k hk).imp_right λh=>by simpa using h.1)
 simpa using this;intro k hk
 have:=hs.1
 simp only[Y9,Y2] at hk;rcases hk with hk|hk|hk|hk
 have:=hlt k (.inl hk);omega
 rcases hn k hk with h1|h1
 have:=hlt k (.inr (.inl h1));omega
 exact h1.2
 have:=hlt k (.inr (.inr (.inl hk)));omega
 have:=hlt k (.inr (.inr (.inr hk)));omega
theorem SchC.xE{h h':HS}{l:Z2}{S tc fc aa oc qt qf qf' qo fs}(s:SchC h l S tc fc oc qt qf qo)(hb:h'.box l=some [tc,aa,oc])(hp:Part h' Vb aa qf' (fs.map Fk.enc))(hs:Z0 h h' (l::Z5 fc qf))
  (ab:(Z5 aa qf').Nodup)(hn:∀k∈Z5 aa qf',k∈Z5 fc qf\/(k∉l::(Z5 tc qt++(Z5 fc qf++Z5 oc qo))/\k.1<h'.ep)):SchC h' l {S with fks:=fs} tc aa oc qt qf' qo:=by
 obtain⟨n1,_,n3,n4,n5⟩:=s.ne;have hlt:=s.lt;simp only[Y9,Y2] at hlt;refine⟨hb,s.t.frame λk hk=>hs.2 k (hlt k (.inr (.inl hk))) ?_,hp,s.o.frame λk hk=>hs.2 k (hlt k (.inr (.inr (.inr hk)))) ?_,?_,?_⟩;simp only[Y9,not_or];exact⟨λhe=>n1 (he▸hk),(n4 k hk).1⟩;simp only[Y9,not_or];exact⟨λhe=>n3 (he▸hk),λh6=>n5 k h6 hk⟩
 have:=Ja (A:=l::Z5 tc qt) (X':=Z5 aa qf') (by simpa using s.nd) ab (λk hk=>(hn k hk).imp_right λh=>by simpa using h.1)
 simpa using this;intro k hk
 have:=hs.1
 simp only[Y9,Y2] at hk;rcases hk with hk|hk|hk|hk
 have:=hlt k (.inl hk);omega
 have:=hlt k (.inr (.inl hk));omega
 rcases hn k hk with h1|h1
 have:=hlt k (.inr (.inr (.inl h1)));omega
 exact h1.2
 have:=hlt k (.inr (.inr (.inr hk)));omega
theorem Z6y{α:Type}{xs i x}(h:xs[i]?=some x)(y:α):xs=xs.take i++x::xs.drop (i+1)/\xs.set i y=xs.take i++y::xs.drop (i+1):=by obtain⟨hi,rfl⟩:=Y0.1 h;exact⟨by rw[<-Ys hi,YI],by rw[Xc,if_pos hi]⟩
theorem Nl{c xs i x}(h:xs[i]?=some x)(y):Z5 c xs=(labs c++(xs.take i).flatMap (·.2.2))++(x.2.2++(xs.drop (i+1)).flatMap (·.2.2))/\Z5 c (xs.set i y)=(labs c++(xs.take i).flatMap (·.2.2))++(y.2.2++(xs.drop (i+1)).flatMap (·.2.2)):=by
 obtain⟨h1,h2⟩:=Z6y h y;refine⟨?_,?_⟩
 have:=congrArg (λzs:List Q=>labs c++zs.flatMap (·.2.2)) h1
 simpa[Z5] using this;rw[Z5,h2];simp
theorem T8{c:C}{qs:List Q}{i q q'}(aa:(Z5 c qs).Nodup)(hi:qs[i]?=some q)(hq:q'.2.2.Nodup)(hn:∀k∈q'.2.2,k∈q.2.2\/k∉Z5 c qs):(Z5 c (qs.set i q')).Nodup:=by obtain⟨h1,h2⟩:=Nl hi q';rw[h1] at aa hn;rw[h2];exact Ja aa hq hn
theorem IT{c qs i q q'}(hi:qs[i]?=some q){k}(hk:k∈Z5 c (qs.set i q')):k∈Z5 c qs\/k∈q'.2.2:=by obtain⟨h1,h2⟩:=Nl hi q';rw[h2] at hk;rw[h1];simp only[Y2] at hk|-;rcases hk with(h|h)|h|h;exact .inl (.inl (.inl h));exact .inl (.inl (.inr h));exact .inr h;exact .inl (.inr (.inr h))
theorem SchC.wN{h h' l S tc fc oc qt qf qo i q T' cs'}{lq':List Z2}(s:SchC h l S tc fc oc qt qf qo)(hi:qt[i]?=some q)(hm:MR h' 3 tc ((qt.map (·.1)).set i cs'))(ho:Ow h' Wn cs' T'.enc lq')
  (hs:Z0 h h' (labs tc++q.2.2))(hq:lq'.Nodup)(hn:∀k∈lq',k∈q.2.2\/(k∉l::(Z5 tc qt++(Z5 fc qf++Z5 oc qo))/\k.1<h'.ep)):SchC h' l {S with tables:=S.tables.set i T'} tc fc oc (qt.set i (cs',T'.enc,lq')) qf qo:=by
 have ac:=s.nds.1;have hlt:∀k∈Z5 tc qt,k.1<h.ep:=λk hk=>s.lt k (by simp[hk]);have aa:∀k∈labs tc++q.2.2,k∈Z5 tc qt:=λk hk=>by rcases Y2.1 hk with h1|h1;simp[Z5,h1];exact VY hi h1
 have hl:=hs.2 l (s.lt l sI) λhk=>s.ne.1 (aa l hk);refine s.wQ (by rw[hl];exact s.box) ?_ (hs.mono λk hk=>by simp[aa k hk]) (T8 ac hi hq λk hk=>(hn k hk).imp_right λh2 h3=>h2.1 (by simp[h3])) (λk hk=>?_);rw[C1];refine s.t.upd (q':=(cs',T'.enc,lq')) hi hm ho (λj q2 hj ab k hk=>?_);have h1:=EF ac hi ab hj hk;refine hs.2 k (hlt k (VY ab hk)) λh2=>?_;rcases Y2.1 h2 with h2|h2;exact h1.1 h2;exact h1.2 h2;rcases IT hi hk with h1|h1;exact .inl h1;rcases hn k h1 with h2|h2;exact .inl (VY hi h2);exact .inr h2
theorem Elem.set{h lr i n x B}(e:Elem h lr i n x B){g vs}(hx:x.length=n)(hg:g+vs.length<=n):Elem (h.qA lr (Zg B (i*n+g) vs)) lr i n (Zg x g vs) (Zg B (i*n+g) vs):=by
 have aa:=e.le;have h0:=e.rd0 n (Y7 _);have ht:Zl n x=some x:=by simp[Zl,hx,Yr]
 rw[ht] at h0;obtain⟨_,h2⟩:=EI h0;have hB:B=B.take (i*n)++(x++B.drop (i*n+n)):=by have e3:=YI n (B.drop (i*n));rw[<-h2,Xb] at e3;rw[e3,YI]
 have hA:(B.take (i*n)).length=i*n:=sO;have key:Zg B (i*n+g) vs=B.take (i*n)++(Zg x g vs++B.drop (i*n+n)):=by
  rw[show Zg B (i*n+g) vs=Zg (B.take (i*n)++(x++B.drop (i*n+n))) (i*n+g) vs from congrArg (λz=>Zg z (i*n+g) vs) hB];generalize B.take (i*n)=A at hA|-;generalize B.drop (i*n+n)=Z;rw[<-hA];simp only[Zg];rw[List.take_length_add_append,Nat.add_assoc,List.drop_length_add_append,X0 oM,Xa oM];simp
 have ab:(Zg x g vs).length=n:=by rw[Ui oM];exact hx
 have rd:∀g' m,g'+m<=n->Zl m ((Zg B (i*n+g) vs).drop (i*n+g'))=Zl m ((Zg x g vs).drop g'):=λg' m hm=>by
  rw[key];generalize B.take (i*n)=A at hA|-;rw[<-hA,List.drop_length_add_append,Xa oM];simp only[Zl]
  have:m<=((Zg x g vs).drop g').length:=sO
  rw[if_pos (by simp at this|-;omega),if_pos this,X0 this]
 refine⟨sI,rd,λm hm=>?_,?_⟩
 have:=rd 0 m oM
 simpa using this;rw[Ui oM];exact aa
theorem Elem.uniq{h lr i n x y B B'}(e:Elem h lr i n x B)(e':Elem h lr i n y B')(hx:x.length=n)(hy:y.length=n):x=y/\B=B':=by
 have h1:=e.box;rw[e'.box] at h1;cases h1;have h2:=e.rd0 n (Y7 _);rw[e'.rd0 n (Y7 _)] at h2;have tx:Zl n x=some x:=by simp[Zl,hx,Yr]
 have ty:Zl n y=some y:=by simp[Zl,hy,Yr]
 rw[tx,ty] at h2;exact⟨(Option.some.inj h2).symm,rfl⟩
theorem Elem.frame{h h' lr i n x B}(e:Elem h lr i n x B)(hb:h'.box lr=h.box lr):Elem h' lr i n x B:=⟨by rw[hb];exact e.box,e.rd,e.rd0,e.le⟩
structure TblV(h:HS)(l:Z2)(S:Sch)(tc fc oc:C)(ta fa oa:List Z2)(i:Nat)(T:Tbl)(lt:Z2)(c1 c2:C)(B:List C):Prop where
 el:Elem h lt i 3 [.d (.str T.name),c1,c2] B
 hd:∃cap,tc=.mrow lt 0 S.tables.length cap
 tm:lt∈ta
 f1:∀h',Z0 h h' []->Frz h' c1 (.sl (T.cols.map Col.enc))
 f2:∀h',Z0 h h' []->Frz h' c2 (.sl (T.pk.map Zd))
 n1:ZW c1=some T.cols.length/\T.cols.length<=Zs
 n2:ZW c2=some T.pk.length/\T.pk.length<=Zs
 l1:∀k∈labs c1,k∈ta/\k≠lt
 l2:∀k∈labs c2,k∈ta/\k≠lt
 l12:∀k∈labs c1,k∉labs c2
 m1:T.cols≠[]->MR h 3 c1 (T.cols.map λc=>c.enc.map C.d)
 m2:T.pk≠[]->MR h 1 c2 (T.pk.map λc=>(Zd c).map C.d)
 e1:∀k c,T.cols[k]?=some c->∃l2 cap2 B2,c1=.mrow l2 0 T.cols.length cap2/\Elem h l2 k 3 (c.enc.map C.d) B2/\
  ∀g vs c',g+vs.length<=3->Zg (c.enc.map C.d) g vs=c'.enc.map C.d->Sc (h.qA l2 (Zg B2 (k*3+g) vs)) l {S with tables:=S.tables.set i {T with cols:=T.cols.set k c'}} tc fc oc ta fa oa
 e2:∀k v,T.pk[k]?=some v->∃l2 cap2 B2,c2=.mrow l2 0 T.pk.length cap2/\Elem h l2 k 1 [.d (.int .i64 v)] B2/\
  ∀v',Sc (h.qA l2 (Zg B2 (k*1) [.d (.int .i64 v')])) l {S with tables:=S.tables.set i {T with pk:=T.pk.set k v'}} tc fc oc ta fa oa
 s1:∀h' c1' cols',MR h' 3 c1' (cols'.map λc=>c.enc.map C.d)->Z0 h h' (labs c1)->(∀k∈labs c1',k∈labs c1\/(k∉l::(ta++(fa++oa))/\k.1<h'.ep))->
  ∃ta',Sc (h'.qA lt (Zg B (i*3+1) [c1'])) l {S with tables:=S.tables.set i {T with cols:=cols'}} tc fc oc ta' fa oa/\∀k∈ta',k∈ta\/k∈labs c1'
 s2:∀h' c2' pk',MR h' 1 c2' (pk'.map λc=>(Zd c).map C.d)->Z0 h h' (labs c2)->(∀k∈labs c2',k∈labs c2\/(k∉l::(ta++(fa++oa))/\k.1<h'.ep))->
  ∃ta',Sc (h'.qA lt (Zg B (i*3+2) [c2'])) l {S with tables:=S.tables.set i {T with pk:=pk'}} tc fc oc ta' fa oa/\∀k∈ta',k∈ta\/k∈labs c2'
theorem Uo{α:Type}{f:α->List D}{xs:List α}:(xs.map λc=>(f c).map C.d)=(xs.map f).map (·.map C.d):=sI
theorem Part.data{h n sh c qs ds}(P:Part h sh c qs ds)(aa:sh=List.replicate n .d)(hf:∀d∈ds,∀x∈d,x.flat=true):MR h n c (ds.map (·.map C.d))/\Z5 c qs=labs c:=by
 have hd:=P.ds;subst hd;have key:=λq hq=>(P.ow q hq).flat aa (hf q.2.1 (Yi.2 ⟨q,hq,rfl⟩));have e:qs.map (·.1)=(qs.map (·.2.1)).map (·.map C.d):=by
  rw[Xe];exact XH λq hq=>(key q hq).1
 have hn:sh.length=n:=by rw[aa];simp
 refine⟨by rw[<-e,<-hn];exact P.mr,?_⟩
 have:qs.flatMap (·.2.2)=[]:=by
  rw[Xw];exact λq hq=>(key q hq).2
 rw[Z5,this,Ym]
set_option maxHeartbeats 1000000 in
theorem Sc.tbl{h:HS}{l:Z2}{S:Sch}{tc fc oc ta fa oa}(s:Sc h l S tc fc oc ta fa oa){i T}(hi:S.tables[i]?=some T):∃lt c1 c2 B,TblV h l S tc fc oc ta fa oa i T lt c1 c2 B:=by
 obtain⟨qt,qf,qo,rfl,rfl,rfl,s⟩:=s;have aw:=s.nds.1;have hlt:∀k∈Z5 tc qt,k.1<h.ep:=λk hk=>s.lt k (by simp[hk]);obtain⟨q,lt,cap,sp,h1,h2,h3,h4,h5,h6⟩:=s.t.elem (Uq hi);have hm:lt∈Z5 tc qt:=by rw[h4];simp[Z5,labs]
 rw[JH] at h5 h6;obtain⟨qc,qd,ql⟩:=q;simp only at h2 h3 h6;subst h2;obtain⟨c0,x0,cs,ds,rfl,e1,e2,h7⟩:=h3.jJ;simp only[Tbl.enc,List.cons.injEq] at e1;obtain⟨rfl,rfl⟩:=e1;obtain rfl:=(Frz.data (h:=h) e2).flat rfl;obtain⟨c1,ba,lc,lr,rfl,rfl,o1,h8⟩:=h7.split;obtain⟨c2,a7,lp,lz,rfl,rfl,o2,h9⟩:=h8.split;obtain⟨rfl,_,rfl⟩:=h9.qV;have aj:=JR aw h1;simp only[Ym,Yg] at aj;obtain⟨ag,ah,ab⟩:=aj;have aa:∀k,k∈lc\/k∈lp->k∈Z5 tc qt/\k≠lt:=λk hk=>⟨VY h1 (by simpa using hk),λhe=>Ak aw h1 (by simpa using hk) (by rw[he,h4];simp[labs])⟩;have ak:=F3 (Uq (f:=λq:Q=>q.1) h1);have am:∀h',(∀k∈lc,h'.box k=h.box k)->Ow h' [.r [.d,.d,.d]] [c1] [.sl (T.cols.map Col.enc)] lc:=λh' hb=>o1.frame hb;have ap:∀h',(∀k∈lp,h'.box k=h.box k)->Ow h' [.r [.d]] [c2] [.sl (T.pk.map Zd)] lp:=λh' hb=>o2.frame hb;have mk:∀{h':HS} {c1' c2':C} {T':Tbl} {a b:List Z2},T'.name=T.name->Ow h' [.r [.d,.d,.d]] [c1'] [.sl (T'.cols.map Col.enc)] a->Ow h' [.r [.d]] [c2'] [.sl (T'.pk.map Zd)] b->Ow h' Wn [.d (.str T.name),c1',c2'] T'.enc (a++b):=λhn x y=>by
  have:=Ow.data (c:=.d (.str T.name)) rfl (x.join (y.join .nil))
  rw[Ym] at this;rw[Tbl.enc,hn];exact this
 have nw:∀{l2:Z2} {B2:List C},l2∈lc\/l2∈lp->Z0 h (h.qA l2 B2) (labs tc++(lc++(lp++[]))):=λhl=>Z0.rN (by simpa using .inr hl);have aq:∀{h':HS},(∀_,h'.box lt=h.box lt)->MR h' 3 tc ((qt.map (·.1)).set i [C.d (.str T.name),c1,c2]):=λhb=>by
  rw[ak];exact s.t.mr.frame λk hk=>by rw[h4] at hk;simp[labs] at hk;rw[hk];exact hb lt
 have p1:=λh0=>o1.wB (by simpa using h0);have p2:=λh0=>o2.wB (by simpa using h0);have n1:=o1.wK;have n2:=o2.wK;refine⟨lt,c1,c2,_,h6,⟨cap,by simpa using h4⟩,hm,λh' hs=>(am h' λk hk=>hs.2 k (hlt k (aa k (.inl hk)).1) sI).rT,λh' hs=>(ap h' λk hk=>hs.2 k (hlt k (aa k (.inr hk)).1) sI).rT,by simpa using n1,by simpa using n2,
  λk hk=>⟨(aa k (.inl (o1.jD k hk))).1,(aa k (.inl (o1.jD k hk))).2⟩,λk hk=>⟨(aa k (.inr (o2.jD k hk))).1,(aa k (.inr (o2.jD k hk))).2⟩,λk hk ay=>ab k (o1.jD k hk) k (o2.jD k ay) rfl,λh0=>?_,λh0=>?_,λk c hk=>?_,λk v hk=>?_,λh' c1' af az al a1=>?_,λh' c2' ar hm2 hs2 hl2=>?_⟩
 obtain⟨qs1,_,P1⟩:=p1 h0;rw[Uo];exact(P1.data rfl (by simp[D.flat])).1;obtain⟨a8,_,P2⟩:=p2 h0;rw[Uo];exact(P2.data rfl (by simp[D.flat])).1;obtain⟨qs1,rfl,P1⟩:=p1 (λh0=>by rw[h0] at hk;simp at hk);obtain⟨l2,cap2,B2,k1,k2,_,k4⟩:=P1.rD (n:=3) rfl (Uq hk) c.flat;have hl2:l2∈Z5 c1 qs1:=by rw[k1];simp[Z5,labs]
 refine⟨l2,cap2,B2,by simpa using k1,k2,λg vs c' hg ac=>?_⟩;obtain⟨au,k5,k6⟩:=k4 g vs c'.enc ag hg ac rfl;have ho:=mk (h':=h.qA l2 (Zg B2 (k*3+g) vs)) (T':={T with cols:=T.cols.set k c'}) rfl (by rw[C1];exact k5▸Ow.rS k6) (ap _ λk' ad=>by
  have:k'≠l2:=λhe=>ab l2 hl2 k' ad he.symm
  simp[this])
 have:=s.wN h1 (aq λ_=>by have:=(aa l2 (.inl hl2)).2;simp[this.symm]) ho (nw (.inl hl2)) (by rw[Yg];exact⟨ag,ah,ab⟩) (λk hk=>.inl (by simpa using hk))
 exact⟨_,qf,qo,(BY h1 sI).symm,rfl,rfl,this⟩;obtain⟨qs1,rfl,P1⟩:=p2 (λh0=>by rw[h0] at hk;simp at hk);obtain⟨l2,cap2,B2,k1,k2,_,k4⟩:=P1.rD (n:=1) rfl (Uq hk) (JD v);have hl2:l2∈Z5 c2 qs1:=by rw[k1];simp[Z5,labs]
 refine⟨l2,cap2,B2,by simpa using k1,k2,λv'=>?_⟩;obtain⟨au,k5,k6⟩:=k4 0 [.d (.int .i64 v')] [.int .i64 v'] ah sI sI sI;simp only[YY] at k6;have ho:=mk (h':=h.qA l2 (Zg B2 (k*1) [.d (.int .i64 v')])) (T':={T with pk:=T.pk.set k v'}) rfl (am _ λk' ad=>by
  have:k'≠l2:=λhe=>ab k' ad l2 hl2 he
  simp[this]) (by rw[C1];exact k5▸Ow.rS k6)
 have:=s.wN h1 (aq λ_=>by have:=(aa l2 (.inr hl2)).2;simp[this.symm]) ho (nw (.inr hl2)) (by rw[Yg];exact⟨ag,ah,ab⟩) (λk hk=>.inl (by simpa using hk))
 exact⟨_,qf,qo,(BY h1 sI).symm,rfl,rfl,this⟩;have ax:=al.2 lt (hlt lt hm) λhk=>(aa lt (.inl (o1.jD lt hk))).2 rfl;have ae:∀k∈labs c1',k≠lt/\k∉lp/\(k∈lc\/(k∉l::(Z5 tc qt++(Z5 fc qf++Z5 oc qo))/\k.1<h'.ep)):=λk hk=>by
  rcases a1 k hk with h2|h2
  have:=o1.jD k h2
  exact⟨(aa k (.inl this)).2,λh3=>ab k this k h3 rfl,.inl this⟩;exact⟨λhe=>h2.1 (by simp[he,hm]),λh3=>h2.1 (by simp[(aa k (.inr h3)).1]),.inr h2⟩
 have ho:=mk (h':=h'.qA lt (Zg (Z8 (qt.map (·.1)) sp) (i*3+1) [c1'])) (c2':=c2) (T':={T with cols:=af}) rfl (Ow.rL (by
   rw[<-Uo];exact az.frame λk hk=>by simp[(ae k hk).1]) rfl sI) (ap _ λk' ad=>by
  have h2:=aa k' (.inr ad)
  have:h'.box k'=h.box k':=al.2 k' (hlt k' h2.1) λh3=>ab k' (o1.jD k' h3) k' ad rfl
  simp[h2.2,this])
 have ac:=Ar (sp:=sp) (vs:=[c1']) (f:=1) s.t.mr.1 (Uq h1) (by simp[Wn]);simp only[JH] at ac
 have:=s.wN (T':={T with cols:=af}) h1 (h':=h'.qA lt (Zg (Z8 (qt.map (·.1)) sp) (i*3+1) [c1'])) (cs':=[.d (.str T.name),c1',c2]) (lq':=labs c1'++lp) ?_ ho ?_ ?_ ?_
 refine⟨_,⟨_,qf,qo,rfl,rfl,rfl,this⟩,λk hk=>?_⟩;rcases IT h1 hk with h2|h2;exact .inl h2;simp only[Y2] at h2;rcases h2 with h2|h2;exact .inr h2;exact .inl (aa k (.inr h2)).1;refine⟨s.t.mr.1.set (by simp[Wn]),by simpa using s.t.mr.2.1,.inr ⟨lt,cap,sp,?_,by simp[ac],?_⟩⟩;have e3:qt.length=S.tables.length:=by have:=congrArg List.length s.t.ds;simpa using this
 rw[h4];simp[e3];have e4:Z8 ((qt.map (·.1)).set i [.d (.str T.name),c1',c2]) sp=Zg (Z8 (qt.map (·.1)) sp) (i*3+1) [c1']:=by rw[ac];simp
 rw[e4,Ui (by have:=h6.le;simp;omega)];exact h5;exact(al.mono λk hk=>by simp[o1.jD k hk]).qA (.inl (by rw[h4];simp[labs]));rw[Yg];exact⟨Va,ah,λa ha b hb he=>(ae a ha).2.1 (he▸hb)⟩;intro k hk;rcases Y2.1 hk with h2|h2;exact(ae k h2).2.2.imp (λh3=>by simp[h3]) id;exact .inl (by simp[h2]);have ax:=hs2.2 lt (hlt lt hm) λhk=>(aa lt (.inr (o2.jD lt hk))).2 rfl;have ae:∀k∈labs c2',k≠lt/\k∉lc/\(k∈lp\/(k∉l::(Z5 tc qt++(Z5 fc qf++Z5 oc qo))/\k.1<h'.ep)):=λk hk=>by
  rcases hl2 k hk with h2|h2
  have:=o2.jD k h2
  exact⟨(aa k (.inr this)).2,λh3=>ab k h3 k this rfl,.inl this⟩;exact⟨λhe=>h2.1 (by simp[he,hm]),λh3=>h2.1 (by simp[(aa k (.inl h3)).1]),.inr h2⟩
 have ho:=mk (h':=h'.qA lt (Zg (Z8 (qt.map (·.1)) sp) (i*3+2) [c2'])) (c1':=c1) (T':={T with pk:=ar}) rfl (am _ λk' ad=>by
  have h2:=aa k' (.inl ad)
  have:h'.box k'=h.box k':=hs2.2 k' (hlt k' h2.1) λh3=>ab k' ad k' (o2.jD k' h3) rfl
  simp[h2.2,this]) (Ow.rL (by
   rw[<-Uo];exact hm2.frame λk hk=>by simp[(ae k hk).1]) rfl sI)
 have ac:=Ar (sp:=sp) (vs:=[c2']) (f:=2) s.t.mr.1 (Uq h1) (by simp[Wn]);simp only[JH] at ac
 have:=s.wN (T':={T with pk:=ar}) h1 (h':=h'.qA lt (Zg (Z8 (qt.map (·.1)) sp) (i*3+2) [c2'])) (cs':=[.d (.str T.name),c1,c2']) (lq':=lc++labs c2') ?_ ho ?_ ?_ ?_
 refine⟨_,⟨_,qf,qo,rfl,rfl,rfl,this⟩,λk hk=>?_⟩;rcases IT h1 hk with h2|h2;exact .inl h2;simp only[Y2] at h2;rcases h2 with h2|h2;exact .inl (aa k (.inl h2)).1;exact .inr h2;refine⟨s.t.mr.1.set (by simp[Wn]),by simpa using s.t.mr.2.1,.inr ⟨lt,cap,sp,?_,by simp[ac],?_⟩⟩;have e3:qt.length=S.tables.length:=by have:=congrArg List.length s.t.ds;simpa using this
 rw[h4];simp[e3];have e4:Z8 ((qt.map (·.1)).set i [.d (.str T.name),c1,c2']) sp=Zg (Z8 (qt.map (·.1)) sp) (i*3+2) [c2']:=by rw[ac];simp
 rw[e4,Ui (by have:=h6.le;simp;omega)];exact h5;exact(hs2.mono λk hk=>by simp[o2.jD k hk]).qA (.inl (by rw[h4];simp[labs]));rw[Yg];exact⟨ag,Va,λa ha b hb he=>(ae b hb).2.1 (he▸ha)⟩;intro k hk;rcases Y2.1 hk with h2|h2;exact .inl (by simp[h2]);exact(ae k h2).2.2.imp (λh3=>by simp[h3]) id
theorem Sc.jC{h l S fc oc ta fa oa lr n cap i B T}(s:Sc h l S (.mrow lr 0 n cap) fc oc ta fa oa)(hb:h.box lr=some B)(hi:S.tables[i]?=some T):∃c1 c2,TblV h l S (.mrow lr 0 n cap) fc oc ta fa oa i T lr c1 c2 B:=by obtain⟨lt,c1,c2,B2,v⟩:=s.tbl hi;obtain⟨cap2,e⟩:=v.hd;simp at e;obtain⟨rfl,-,-⟩:=e;have e2:=v.el.box;rw[hb] at e2;cases e2;exact⟨c1,c2,v⟩
theorem Zr.app{n:Nat}{xs ys:List (List C)}(h1:Zr n xs)(h2:Zr n ys):Zr n (xs++ys):=Zr.append.2 ⟨h1,h2⟩
theorem W5{P:Program}{ty el:TypeId}{n ah d:Nat}{h:HS}{c x:C}{xs ys:List (List C)}{K:V->HS->Prop}(ag:Zv P ty=some (el,n,ah))(hz:(ZP P el).isSome=true)(h0:0<n)(hb:ah<=4096)(hm:MR h n c xs)(hr:Zk h n x ys)(hl:xs.length+ys.length<=Zs)
  (hk:∀c' h',MR h' n c' (xs++ys)->Z0 h h' (labs c)->(∀k∈labs c',k∈labs c\/(h.ep<=k.1/\k.1<h'.ep))->K (.one c') h'):Vv P ty c x d h (K:=⟨K⟩):=by
 obtain⟨hc,ae,ha,_⟩:=hr;have aa:=hm.1;have key:∀cap',(xs++ys).length<=cap'->∀h',h'.box (h.ep,16*d)=some (Z8 (xs++ys) (List.replicate ((cap'-(xs++ys).length)*n) .any))->MR h' n (.mrow (h.ep,16*d) 0 (xs++ys).length cap') (xs++ys):=λcap' hcap h' ab=>by
  refine⟨aa.app ha,by simpa using hl,.inr ⟨_,cap',_,rfl,ab,?_⟩⟩;rw[WL (aa.app ha),X1,<-YG]
  congr 1
  omega
 rcases hm.2.2 with⟨rfl,ak⟩|⟨l,cap,sp,rfl,ab,hcap⟩;have hh:Vm h n c=some (0,0,[],none):=by rcases ak with rfl|rfl<;>rfl
 refine C3 ag hh hc ae hz h0 hb (by simpa using hl) ha.flatten sI (λh1=>?_) (λh1 h2=>oM) (λh1 h2 cap' hcap=>?_)
 have:ys=[]:=Yw h1
 subst this;exact hk _ _ (by simpa using hm) .refl (λk hk=>.inl hk);simp only[Xu] at hcap|-;refine hk _ _ (key cap' (by simpa using hcap) _ ?_) ((Z0.refl.qA (.inr (Y7 _))).next) (by simp[labs]);simp[Z8];have aj:=Da (n:=n) (off:=0) (k:=xs.length) (cap:=cap) aa ab sI;have hh:Vm h n (.mrow l 0 xs.length cap)=some (xs.length,cap,xs.flatten,some (l,0)):=by simp only[Nat.zero_mul,Xx,Yp] at aj;show(match Wg h n (.mrow l 0 xs.length cap) with|some cs=>_|none=>_)=_;rw[aj]
 refine C3 ag hh hc ae hz h0 hb hl ha.flatten aa.flatten (λh1=>?_) (λh1 h2 l' off he=>?_) (λh1 h2 cap' ad=>?_)
 have:ys=[]:=Yw h1
 subst this;exact hk _ _ (by simpa using hm) .refl (λk hk=>.inl hk);simp only[Ya,Yt] at he;obtain⟨rfl,rfl⟩:=he;have al:(xs.length+ys.length)*n<=cap*n:=X5 n h2;refine⟨_,ab,by rw[hcap];omega,?_⟩;have ac:=Hi (sp:=sp) (i:=xs.length) aa ha (Y7 _);rw[Yp] at ac;rw[Xu,ac];refine hk _ _ ⟨aa.app ha,by simpa using hl,.inr ⟨l,cap,(Z8 xs sp).drop ((xs.length+ys.length)*n),sI,sI,?_⟩⟩ (Z0.refl.qA (.inl (by simp[labs]))) (λk hk=>.inl hk);rw[WL (aa.app ha),YZ,hcap,Ye];omega;have af:=key cap' (by simpa using ad) (((h.qA (h.ep,16*d) (xs.flatten++ys.flatten++List.replicate ((cap'-(xs.length+ys.length))*n) .any)).next)) (by simp[Z8]);rw[Ye] at af;refine hk _ _ af ((Z0.refl.qA (.inr (Y7 _))).next) (by simp[labs])
theorem Ho{P:Program}{ty el:TypeId}{n ah d:Nat}{h:HS}{c x:C}{xs ys:List (List C)}{K:V->HS->Prop}(ag:Zv P ty=some (el,n,ah))(hz:(ZP P el).isSome=true)(h0:0<n)(hb:ah<=4096)(hm:MR h n c xs)(hr:Zk h n x ys)(hl:xs.length+ys.length<=Zs)
  (hk:∀c' h',MR h' n c' (xs++ys)->((Z0 h h' (labs c)/\labs c'=labs c)\/(Z0 h h' []/\∀k∈labs c',h.ep<=k.1/\k.1<h'.ep))->K (.one c') h'):Vv P ty c x d h (K:=⟨K⟩):=by
 obtain⟨hc,ae,ha,_⟩:=hr;have aa:=hm.1;have key:∀cap',(xs++ys).length<=cap'->∀h',h'.box (h.ep,16*d)=some (Z8 (xs++ys) (List.replicate ((cap'-(xs++ys).length)*n) .any))->MR h' n (.mrow (h.ep,16*d) 0 (xs++ys).length cap') (xs++ys):=λcap' hcap h' ab=>by
  refine⟨aa.app ha,by simpa using hl,.inr ⟨_,cap',_,rfl,ab,?_⟩⟩;rw[WL (aa.app ha),X1,<-YG]
  congr 1
  omega
 rcases hm.2.2 with⟨rfl,ak⟩|⟨l,cap,sp,rfl,ab,hcap⟩;have hh:Vm h n c=some (0,0,[],none):=by rcases ak with rfl|rfl<;>rfl
 refine C3 ag hh hc ae hz h0 hb (by simpa using hl) ha.flatten sI (λh1=>?_) (λh1 h2=>oM) (λh1 h2 cap' hcap=>?_)
 have:ys=[]:=Yw h1
 subst this;exact hk _ _ (by simpa using hm) (.inl ⟨.refl,rfl⟩);simp only[Xu] at hcap|-;refine hk _ _ (key cap' (by simpa using hcap) _ ?_) (.inr ⟨(Z0.refl.qA (.inr (Y7 _))).next,by simp[labs]⟩);simp[Z8];have aj:=Da (n:=n) (off:=0) (k:=xs.length) (cap:=cap) aa ab sI;have hh:Vm h n (.mrow l 0 xs.length cap)=some (xs.length,cap,xs.flatten,some (l,0)):=by simp only[Nat.zero_mul,Xx,Yp] at aj;show(match Wg h n (.mrow l 0 xs.length cap) with|some cs=>_|none=>_)=_;rw[aj]
 refine C3 ag hh hc ae hz h0 hb hl ha.flatten aa.flatten (λh1=>?_) (λh1 h2 l' off he=>?_) (λh1 h2 cap' ad=>?_)
 have:ys=[]:=Yw h1
 subst this;exact hk _ _ (by simpa using hm) (.inl ⟨.refl,rfl⟩);simp only[Ya,Yt] at he;obtain⟨rfl,rfl⟩:=he;have al:(xs.length+ys.length)*n<=cap*n:=X5 n h2;refine⟨_,ab,by rw[hcap];omega,?_⟩;have ac:=Hi (sp:=sp) (i:=xs.length) aa ha (Y7 _);rw[Yp] at ac;rw[Xu,ac];refine hk _ _ ⟨aa.app ha,by simpa using hl,.inr ⟨l,cap,(Z8 xs sp).drop ((xs.length+ys.length)*n),sI,sI,?_⟩⟩ (.inl ⟨Z0.refl.qA (.inl (by simp[labs])),rfl⟩);rw[WL (aa.app ha),YZ,hcap,Ye];omega;have af:=key cap' (by simpa using ad) (((h.qA (h.ep,16*d) (xs.flatten++ys.flatten++List.replicate ((cap'-(xs.length+ys.length))*n) .any)).next)) (by simp[Z8]);rw[Ye] at af;refine hk _ _ af (.inr ⟨(Z0.refl.qA (.inr (Y7 _))).next,by simp[labs]⟩)
theorem IX{α:Type}(lt:α->α->Bool):∀(k i:Nat) (ws:List α),(WG lt k i ws).Perm ws
 |0,_,ws=>.refl _
 |k+1,i,ws=>(IX lt k (i+1) _).trans (Mz lt i ws)
theorem MS{α β:Type}{lt:α->α->Bool}{lt':β->β->Bool}{f:α->β}(hl:∀x y,lt' (f x) (f y)=lt x y):∀(j:Nat) (ws:List α),VK lt' j (ws.map f)=(VK lt j ws).map f
 |0,ws=>rfl
 |j+1,ws=>by
   unfold VK;rw[Y8,Y8];cases h1:ws[j+1]? with
   |none=>rfl
   |some x=>?_
   cases h2:ws[j]? with
   |none=>rfl
   |some y=>?_
   simp only[Yj,hl];cases lt x y with
   |false=>rfl
   |true=>?_
   simp only[if_true];rw[<-MS hl j,YD,YD]
theorem GM{α β:Type}{lt:α->α->Bool}{lt':β->β->Bool}{f:α->β}(hl:∀x y,lt' (f x) (f y)=lt x y):∀(k i:Nat) (ws:List α),WG lt' k i (ws.map f)=(WG lt k i ws).map f
 |0,_,ws=>rfl
 |k+1,i,ws=>by simp only[WG];rw[MS hl,GM hl k]
theorem Part.add{h h' sh c c' qs ds x d lx}(P:Part h sh c qs ds)(aa:(Z5 c qs).Nodup)(hlt:∀k∈Z5 c qs,k.1<h.ep)(hm:MR h' sh.length c' (qs.map (·.1)++[x]))(hs:Z0 h h' (labs c))(ho:Ow h' sh x d lx):
  Part h' sh c' (qs++[(x,d,lx)]) (ds++[d]):=by
 have hd:=P.ds;subst hd;refine⟨by simpa using hm,sI,λq hq=>?_⟩;rcases Y2.1 hq with hq|hq;refine(P.ow q hq).frame λk hk=>?_;obtain⟨i,hi⟩:=YR hq;exact hs.2 k (hlt k (VY hi hk)) (Ak aa hi hk);simp at hq;subst hq;exact ho
theorem H1{c c' qs x d lx}{ep:Nat}(ab:(Z5 c qs).Nodup)(hlt:∀k∈Z5 c qs,k.1<ep)(hc:∀k∈labs c',k∈labs c\/ep<=k.1)(hx:lx.Nodup)(aa:∀k∈lx,k∉Z5 c qs/\k∉labs c'):(Z5 c' (qs++[(x,d,lx)])).Nodup:=by
 simp only[Z5,List.flatMap_append,YB,Xv,Ym,Yg,Y2] at ab hlt aa|-;refine⟨Va,⟨ab.2.1,hx,λa ha b hb he=>(aa b hb).1 (.inr (he▸ha))⟩,λa ha b hb he=>?_⟩;subst he;rcases hb with hb|hb;rcases hc a ha with h1|h1;exact ab.2.2 a h1 a hb rfl
 have:=hlt a (.inr hb);omega
 exact(aa a hb).2 ha
theorem Ag{c':C}{qs:List Q}{x:List C}{d:List D}{lx:List Z2}{k:Z2}(hk:k∈Z5 c' (qs++[(x,d,lx)])):k∈labs c'\/k∈qs.flatMap (·.2.2)\/k∈lx:=by simpa[Z5] using hk
def PX(h:HS)(n:Nat)(c:C)(len:Nat)(sh:List Sh)(own:List Z2)(R:HS->C->List D->List Z2->Prop):Prop:=∃xs,MR h n c xs/\xs.length=len/\
 ∀h' c' x d lx,MR h' n c' (xs++[x])->Z0 h h' (labs c)->(∀k∈labs c',k∈labs c\/(h.ep<=k.1/\k.1<h'.ep))->Ow h' sh x d lx->lx.Nodup->(∀k∈lx,k.1<h'.ep/\k∉own/\k∉labs c')->R h' c' d lx
theorem Sc.wE{h l S}{tc fc oc:C}{ta fa oa:List Z2}(s:Sc h l S tc fc oc ta fa oa):PX h 3 tc S.tables.length Wn (l::(ta++(fa++oa))) λh' c' d lx=>∀T,d=Tbl.enc T->
  ∃ta',Sc (h'.qA l [c',fc,oc]) l {S with tables:=S.tables++[T]} c' fc oc ta' fa oa/\∀k∈ta',k∈ta\/k∈lx\/h.ep<=k.1:=by
 obtain⟨qt,qf,qo,rfl,rfl,rfl,s⟩:=s;have hlen:qt.length=S.tables.length:=by have:=congrArg List.length s.t.ds;simpa using this
 have hlt:∀k∈Z5 tc qt,k.1<h.ep:=λk hk=>s.lt k (by simp[hk]);refine⟨qt.map (λq:Q=>q.1),s.t.mr,by simpa using hlen,λh' c' x d lx hm hs hl ho hx aa T hd=>?_⟩;subst hd;have hp:=s.t.add s.nds.1 hlt hm hs ho;have ab:∀k∈Z5 c' (qt++[(x,T.enc,lx)]),k≠l:=λk hk he=>by
  subst he;rcases Ag hk with h1|h1|h1;rcases hl k h1 with h2|h2;exact s.ne.1 (by simp[Z5,h2])
  have:=s.lt k sI;omega
  exact s.ne.1 (by simp[Z5];right;simpa using h1);exact(aa k h1).2.1 sI
 refine⟨_,⟨_,qf,qo,rfl,rfl,rfl,s.wQ sI (qt':=qt++[(x,T.enc,lx)]) (by simpa using hp.frame λk hk=>by simp[ab k hk]) ((hs.mono λk hk=>by simp[Z5,hk]).qA (.inl sI)) (H1 s.nds.1 hlt (λk hk=>(hl k hk).imp_right And.left) hx λk hk=>⟨λh2=>(aa k hk).2.1 (by simp[h2]),(aa k hk).2.2⟩) λk hk=>?_⟩,λk hk=>?_⟩;rcases Ag hk with h1|h1|h1;rcases hl k h1 with h2|h2;exact .inl (by simp[Z5,h2]);exact .inr ⟨λh3=>by have:=s.lt k h3;omega,by simpa using h2.2⟩;exact .inl (by simp[Z5];right;simpa using h1);exact .inr ⟨(aa k h1).2.1,by simpa using(aa k h1).1⟩;rcases Ag hk with h1|h1|h1;rcases hl k h1 with h2|h2;exact .inl (by simp[Z5,h2]);exact .inr (.inr h2.1);exact .inl (by simp[Z5];right;simpa using h1);exact .inr (.inl h1)
theorem Sc.rB{h l S}{tc fc oc:C}{ta fa oa:List Z2}(s:Sc h l S tc fc oc ta fa oa):PX h 3 fc S.fks.length Vb (l::(ta++(fa++oa))) λh' c' d lx=>∀T,d=Fk.enc T->
  ∃ab,Sc (h'.qA l [tc,c',oc]) l {S with fks:=S.fks++[T]} tc c' oc ta ab oa/\∀k∈ab,k∈fa\/k∈lx\/h.ep<=k.1:=by
 obtain⟨qt,qf,qo,rfl,rfl,rfl,s⟩:=s;have hlen:qf.length=S.fks.length:=by have:=congrArg List.length s.f.ds;simpa using this
 have hlt:∀k∈Z5 fc qf,k.1<h.ep:=λk hk=>s.lt k (by simp[hk]);refine⟨qf.map (λq:Q=>q.1),s.f.mr,by simpa using hlen,λh' c' x d lx hm hs hl ho hx aa T hd=>?_⟩;subst hd;have hp:=s.f.add s.nds.2.1 hlt hm hs ho;have ac:∀k∈Z5 c' (qf++[(x,T.enc,lx)]),k≠l:=λk hk he=>by
  subst he;rcases Ag hk with h1|h1|h1;rcases hl k h1 with h2|h2;exact s.ne.2.1 (by simp[Z5,h2])
  have:=s.lt k sI;omega
  exact s.ne.2.1 (by simp[Z5];right;simpa using h1);exact(aa k h1).2.1 sI
 refine⟨_,⟨qt,_,qo,rfl,rfl,rfl,s.xE sI (qf':=qf++[(x,T.enc,lx)]) (by simpa using hp.frame λk hk=>by simp[ac k hk]) ((hs.mono λk hk=>by simp[Z5,hk]).qA (.inl sI)) (H1 s.nds.2.1 hlt (λk hk=>(hl k hk).imp_right And.left) hx λk hk=>⟨λh2=>(aa k hk).2.1 (by simp[h2]),(aa k hk).2.2⟩) λk hk=>?_⟩,λk hk=>?_⟩;rcases Ag hk with h1|h1|h1;rcases hl k h1 with h2|h2;exact .inl (by simp[Z5,h2]);exact .inr ⟨λh3=>by have:=s.lt k h3;omega,by simpa using h2.2⟩;exact .inl (by simp[Z5];right;simpa using h1);exact .inr ⟨(aa k h1).2.1,by simpa using(aa k h1).1⟩;rcases Ag hk with h1|h1|h1;rcases hl k h1 with h2|h2;exact .inl (by simp[Z5,h2]);exact .inr (.inr h2.1);exact .inl (by simp[Z5];right;simpa using h1);exact .inr (.inl h1)
theorem Sc.wR{h l S}{tc fc oc:C}{ta fa oa:List Z2}(s:Sc h l S tc fc oc ta fa oa):∃xs,MR h 7 oc xs/\xs.length=S.cons.length/\
  ∀h' c' T,MR h' 7 c' (xs++[T.enc.map C.d])->Z0 h h' (labs oc)->(∀k∈labs c',k∈labs oc\/(h.ep<=k.1/\k.1<h'.ep))->
  ∃aa,Sc (h'.qA l [tc,fc,c']) l {S with cons:=S.cons++[T]} tc fc c' ta fa aa/\∀k∈aa,k∈oa\/h.ep<=k.1:=by
 obtain⟨qt,qf,qo,rfl,rfl,rfl,s⟩:=s;have hlen:qo.length=S.cons.length:=by have:=congrArg List.length s.o.ds;simpa using this
 have hlt:∀k∈Z5 oc qo,k.1<h.ep:=λk hk=>s.lt k (by simp[hk]);refine⟨qo.map (λq:Q=>q.1),s.o.mr,by simpa using hlen,λh' c' T hm hs hl=>?_⟩;have ho:Ow h' AC (T.enc.map C.d) T.enc []:=Ow.qL (ds:=T.enc);have hp:=s.o.add s.nds.2.2 hlt hm hs ho;have ab:∀k∈Z5 c' (qo++[(T.enc.map C.d,T.enc,[])]),k≠l:=λk hk he=>by
  subst he;rcases Ag hk with h1|h1|h1;rcases hl k h1 with h2|h2;exact s.ne.2.2.1 (by simp[Z5,h2])
  have:=s.lt k sI;omega
  exact s.ne.2.2.1 (by simp[Z5];right;simpa using h1);simp at h1
 refine⟨_,⟨qt,qf,_,rfl,rfl,rfl,s.wM sI (qo':=qo++[(T.enc.map C.d,T.enc,[])]) (by simpa using hp.frame λk hk=>by simp[ab k hk]) ((hs.mono λk hk=>by simp[Z5,hk]).qA (.inl sI)) (H1 s.nds.2.2 hlt (λk hk=>(hl k hk).imp_right And.left) XJ sI) λk hk=>?_⟩,λk hk=>?_⟩;rcases Ag hk with h1|h1|h1;rcases hl k h1 with h2|h2;exact .inl (by simp[Z5,h2]);exact .inr ⟨h2.1,by simpa using h2.2⟩;exact .inl (by simp[Z5];right;simpa using h1);simp at h1;rcases Ag hk with h1|h1|h1;rcases hl k h1 with h2|h2;exact .inl (by simp[Z5,h2]);exact .inr h2.1;exact .inl (by simp[Z5];right;simpa using h1);simp at h1
theorem Ow.ofD{h ss cs ds ls}(o:Ow h ss cs ds ls):∀{xs:List D},Zt cs=some xs->xs=ds/\∀h',Ow h' ss (ds.map C.d) ds []:=by
 induction o with
 |nil=>intro xs hx;simp at hx;exact⟨hx,λ_=>.nil⟩
 |@data c x ss cs ds ls hx hr ih=>?_
 |@emp es c ss cs ds ls hx hr ih=>?_
 |@row es c qs ss cs ds ls hm hq hr ihq ih=>?_
 intro xs h1;simp only[Zt,hx] at h1;cases h2:Zt cs with
 |none=>rw[h2] at h1;cases h1
 |some ys=>?_
 rw[h2] at h1;simp at h1;obtain⟨h3,h4⟩:=ih h2;subst h1 h3;exact⟨rfl,λh'=>.data rfl (h4 h')⟩;intro xs h1;simp only[Zt,hx] at h1;cases h2:Zt cs with
 |none=>rw[h2] at h1;cases h1
 |some ys=>?_
 rw[h2] at h1;simp at h1;obtain⟨h3,h4⟩:=ih h2;subst h1 h3;exact⟨rfl,λh'=>.emp rfl (h4 h')⟩;intro xs h1;have h0:c.toD=some (.sl [])/\qs=[]\/c.toD=none:=by rcases hm.2.2 with⟨h2,rfl|rfl⟩|⟨l,cap,sp,rfl,_,_⟩;exact .inl ⟨rfl,by simpa using h2⟩;exact .inl ⟨rfl,by simpa using h2⟩;exact .inr rfl
 rcases h0 with⟨h0,rfl⟩|h0;simp only[Zt,h0] at h1;cases h2:Zt cs with
 |none=>rw[h2] at h1;cases h1
 |some ys=>?_
 rw[h2] at h1;simp at h1;obtain⟨h3,h4⟩:=ih h2;subst h1 h3;exact⟨rfl,λh'=>.emp rfl (h4 h')⟩;simp[Zt,h0] at h1
theorem Cc{x f g a b}(ha:a=(Zt x).map λd=>[d])(hb:b=some x)(h1:∀d,Zt x=some d->f [d])(h2:Zt x=none->g x):DF a b (k:=⟨f⟩) (q:=⟨g⟩):=by
 subst ha hb;cases hx:Zt x with
 |none=>exact h2 hx
 |some d=>exact h1 d hx
theorem Zk.qU{h}{n:Nat}{l d}(hd:d.length=n):Zk h n (.own l [d]) [d.map C.d]:=by refine⟨by simp[Wg,C.qE,hd],by simp[ZW,C.qE],by simp[Zr,hd],sI⟩
theorem Zk.jY{h}{n:Nat}{l x}(hx:x.length=n)(hb:h.box l=some x):Zk h n (.mrow l 0 1 1) [x]:=by
 have:MR h n (.mrow l 0 1 1) [x]:=⟨by simp[Zr,hx],sI,.inr ⟨l,1,[],rfl,by simpa[Z8] using hb,by simp[Z8,hx]⟩⟩
 exact this.rd
theorem Sc.qJ{h l S tc fc oc ta fa oa}(s:Sc h l S tc fc oc ta fa oa):(∀k∈labs tc,k∈ta)/\(∀k∈labs fc,k∈fa)/\(∀k∈labs oc,k∈oa):=by
 obtain⟨qt,qf,qo,rfl,rfl,rfl,_⟩:=s;exact⟨λk hk=>by simp[Z5,hk],λk hk=>by simp[Z5,hk],λk hk=>by simp[Z5,hk]⟩
theorem Sc.nl{h l S tc fc oc ta fa oa}(s:Sc h l S tc fc oc ta fa oa):l∉ta/\l∉fa/\l∉oa:=by obtain⟨qt,qf,qo,rfl,rfl,rfl,s⟩:=s;exact⟨s.ne.1,s.ne.2.1,s.ne.2.2.1⟩
theorem Sc.keep{h h' l S tc fc oc}{ta fa oa ls:List Z2}(s:Sc h l S tc fc oc ta fa oa)(hs:Z0 h h' ls)(hl:∀k∈ls,k∈ta\/k∈fa\/k∈oa):h'.box l=some [tc,fc,oc]:=by
 rw[hs.2 l (s.lt l sI) λhk=>?_];exact s.box
 have:=s.nl
 rcases hl l hk with h1|h1|h1;exact this.1 h1;exact this.2.1 h1;exact this.2.2 h1
theorem Sc.rX{h h' l S tc fc oc ta fa oa lz}(s:Sc h l S tc fc oc ta fa oa)(hs:Z0 h h' lz)(hd:∀k∈lz,k∉l::(ta++(fa++oa))):Sc h' l S tc fc oc ta fa oa:=by
 obtain⟨qt,qf,qo,rfl,rfl,rfl,s⟩:=s;have hb:=λk hk=>hs.2 k (s.lt k hk) λh1=>hd k h1 hk;simp only[Y9,Y2] at hb;exact⟨qt,qf,qo,rfl,rfl,rfl,by rw[hb l (.inl rfl),s.box],s.t.frame λk hk=>hb k (.inr (.inl hk)),s.f.frame λk hk=>hb k (.inr (.inr (.inl hk))),s.o.frame λk hk=>hb k (.inr (.inr (.inr hk))),s.nd,λk hk=>Y3 (s.lt k hk) hs.1⟩
theorem Sc.fkK{h l S tc oc ta fa oa lf}{n cap i:Nat}{B f}(s:Sc h l S tc (.mrow lf 0 n cap) oc ta fa oa)(hb:h.box lf=some B)(hi:S.fks[i]?=some f):
  lf∈fa/\l≠lf/\∃c1,Elem h lf i 3 [.d (.str f.table),c1,.d (.str f.ref)] B/\(∀h',Z0 h h' []->Frz h' c1 (.sl (f.cols.map Zd)))/\(ZW c1=some f.cols.length/\f.cols.length<=Zs)/\
   (∀nm,Sc (h.qA lf (Zg B (i*3) [.d (.str nm)])) l {S with fks:=S.fks.set i ⟨nm,f.cols,f.ref⟩} tc (.mrow lf 0 n cap) oc ta fa oa)/\
   (∀nm,Sc (h.qA lf (Zg B (i*3+2) [.d (.str nm)])) l {S with fks:=S.fks.set i ⟨f.table,f.cols,nm⟩} tc (.mrow lf 0 n cap) oc ta fa oa):=by
 obtain⟨aa,cap2,B2,c1,e,h1,h2,h3,h4,h5,h6⟩:=s.fk hi;simp at e;obtain⟨rfl,-,rfl⟩:=e;have e2:=h2.box;rw[hb] at e2;cases e2;refine⟨h1,λhe=>s.nl.2.1 (he▸h1),c1,h2,h3,h4,λnm=>?_,λnm=>?_⟩
 have:=h5 0 [.d (.str nm)] ⟨nm,f.cols,f.ref⟩ rfl sI sI
 simpa using this;exact h5 2 [.d (.str nm)] ⟨f.table,f.cols,nm⟩ rfl sI sI
theorem Sc.fkH{h l S tc fc oc ta fa oa}{i:Nat}{f}(s:Sc h l S tc fc oc ta fa oa)(hi:S.fks[i]?=some f):∃lf cap B,fc=.mrow lf 0 S.fks.length cap/\h.box lf=some B/\i*3+3<=B.length:=by obtain⟨aa,cap2,B2,c1,e,_,h2,_,_,_,_⟩:=s.fk hi;exact⟨aa,cap2,B2,e,h2.box,h2.le⟩
theorem Sc.wF{h l S tc fc oc ta fa oa}{i:Nat}{f}(s:Sc h l S tc fc oc ta fa oa)(hi:S.cons[i]?=some f):∃lf cap B,oc=.mrow lf 0 S.cons.length cap/\h.box lf=some B/\i*7+7<=B.length:=by obtain⟨aa,cap2,B2,e,_,h2,_⟩:=s.con hi;exact⟨aa,cap2,B2,e,h2.box,h2.le⟩
theorem Sc.jT{h l S tc fc ta fa oa lf}{n cap i:Nat}{B f}(s:Sc h l S tc fc (.mrow lf 0 n cap) ta fa oa)(hb:h.box lf=some B)(hi:S.cons[i]?=some f):
  lf∈oa/\l≠lf/\Elem h lf i 7 (f.enc.map C.d) B/\
   (∀nm,Sc (h.qA lf (Zg B (i*7) [.d (.str nm)])) l {S with cons:=S.cons.set i {f with table:=nm}} tc fc (.mrow lf 0 n cap) ta fa oa)/\
   (∀nm,Sc (h.qA lf (Zg B (i*7+1) [.d (.int .i64 nm)])) l {S with cons:=S.cons.set i {f with left:=nm}} tc fc (.mrow lf 0 n cap) ta fa oa)/\
   (∀nm,Sc (h.qA lf (Zg B (i*7+3) [.d (.int .i64 nm)])) l {S with cons:=S.cons.set i {f with right:=nm}} tc fc (.mrow lf 0 n cap) ta fa oa):=by
 obtain⟨aa,cap2,B2,e,h1,h2,h3⟩:=s.con hi;simp at e;obtain⟨rfl,-,rfl⟩:=e;have e2:=h2.box;rw[hb] at e2;cases e2;refine⟨h1,λhe=>s.nl.2.2 (he▸h1),h2,λnm=>?_,λnm=>?_,λnm=>?_⟩
 have:=h3 0 [.d (.str nm)] {f with table:=nm} sI sI
 simpa using this;exact h3 1 [.d (.int .i64 nm)] {f with left:=nm} sI sI;exact h3 3 [.d (.int .i64 nm)] {f with right:=nm} sI sI
theorem Sc.fkN{h:HS}{l:Z2}{S:Sch}{tc oc c1:C}{ta fa oa:List Z2}{lf:Z2}{n cap i k:Nat}{B:List C}{f:Fk}{v:Int}(s:Sc h l S tc (.mrow lf 0 n cap) oc ta fa oa)(hb:h.box lf=some B)(hi:S.fks[i]?=some f)(hk:f.cols[k]?=some v)(hc:Zl 1 (B.drop (i*3+1))=some [c1]):
  ∃l2 cap2 B2,c1=.mrow l2 0 f.cols.length cap2/\l2∈fa/\l2≠lf/\l≠l2/\h.box l2=some B2/\Zl 1 (B2.drop k)=some [.i v]/\k+1<=B2.length/\
    ∀v',Sc (h.qA l2 (Zg B2 k [.i v'])) l {S with fks:=S.fks.set i ⟨f.table,f.cols.set k v',f.ref⟩} tc (.mrow lf 0 n cap) oc ta fa oa:=by
 obtain⟨aa,cap2,B2,c2,e,h1,h2,h3,h4,h5,h6⟩:=s.fk hi;simp at e;obtain⟨rfl,-,rfl⟩:=e;have e2:=h2.box;rw[hb] at e2;cases e2;have e3:=h2.rd 1 1 oM;rw[hc] at e3;simp at e3;subst e3;obtain⟨l2,cap2,B2,k1,k2,k3,k4,k5⟩:=h6 k v hk;have e4:=k4.rd0 1 oM;have e5:=k4.le;simp at e4 e5;refine⟨l2,cap2,B2,k1,k2,k3,λhe=>s.nl.2.1 (he▸k2),k4.box,e4,e5,λv'=>?_⟩;simpa using k5 v'
def O8(table:ByteArray)(mr:Int->Option Int){ρ:Type}(i:Nat)(S:Sch)(next:Sch->Option ρ):Option ρ:=
 Z7 S.fks (i:Int) λf=>bif strEq f.table table then
  WI (λk (S:Sch) next=>Z7 S.fks (i:Int) λf=>Z7 f.cols (k:Int) λv=>Z1 (mr v) λv'=>next {S with fks:=S.fks.set i ⟨f.table,f.cols.set k v',f.ref⟩}) next f.cols.length 0 S
 else next S
def O7(table:ByteArray)(mr:Int->Option Int){ρ:Type}(i:Nat)(S:Sch)(next:Sch->Option ρ):Option ρ:=
 Z7 S.cons (i:Int) λc=>bif !(strEq c.table table) then next S else
  Z1 (mr c.left) λv=>bif decide (0<=c.right) then Z1 (mr c.right) λw=>next {S with cons:=S.cons.set i {c with left:=v,right:=w}} else next {S with cons:=S.cons.set i {c with left:=v}}
def BO(S:Sch)(table:ByteArray)(mr:Int->Option Int):Option Sch:=
 WI (O8 table mr) (λS=>WI (O7 table mr) (λS=>some S) S.cons.length 0 S) S.fks.length 0 S
theorem Lk(h:HS)(l:Z2)(tc fc oc:C)(ta fa oa:List Z2)(S S':Sch)(table:ByteArray)(g:FuncId)(caps:List Cap)(a1:List (List D))(mr:Int->Option Int)(hm:Is (BO S table mr) S')(s:Sc h l S tc fc oc ta fa oa)
  (hcv:∀h',Z0 h h' (fa++oa)->VN h' (caps.map WX) (We a1))(hp:∀x v,Is (mr x) v->Zj prog g (.i x::We a1) (.i v))(K:V->HS->Prop)
  (hk:∀h',Sc h' l S' tc fc oc ta fa oa->Z0 h h' (fa++oa)->K (.tup []) h'):
  Z3 prog 177 [.p l,.s table,.one (.fn g caps)] h K:=by
 have hb:=s.box;refine Z3.ov Tryz.func177 ?_;simp[hb];refine WQ s.len.2.1.1 ?_;simp;refine Z4.count (N:=(S.fks.length:Int)) (s0:=S) (λi S1 e h1=>En e 89 [(0,.p l),(1,.s table),(2,.one (.fn g caps)),(15,.one fc),(16,.i (S.fks.length:Int)),(17,.i (i:Int))]/\S1.fks.length=S.fks.length/\Sc h1 l S1 tc fc oc ta fa oa/\Z0 h h1 (fa++oa)) (by simpa[BO] using hm) ⟨sI,rfl,s,.refl⟩ ?_ ?_;rintro i S1 e h1 ⟨hE,ax,s1,al⟩ hlt hm;replace hm:=Is.qG hm;obtain⟨f,hf,hm⟩:=hm;have ab:i<S.fks.length:=oM
 have aa:i<S1.fks.length:=oM;have au:=s1.len.2.1.2;simp only[U4] at au;have hw:IntKind.i64.wrap ((i:Int)+1)=(i:Int)+1:=Y5 _ oM;obtain⟨lf,cf,Bf,rfl,bx,bo⟩:=s1.fkH hf;obtain⟨bi,br,c1,el,-,bc,-,-⟩:=s1.fkK bx hf;have r0:=el.rd0 3 oM;have r1:=el.rd 1 1 oM;simp at r0 r1;have hs2:Z0 h1 ((h1.qA (h1.ep,112) [C.d (D.str empty),C.nil,C.d (D.str empty)]).next.qA (h1.ep,112) [.s f.table,c1,.s f.ref]) []:=((Z0.refl.qA (.inr (Y7 _))).next).qA (.inr (Y7 _));have s2:=s1.frame hs2;have hne:=Zm (s1.lt lf (by simp[bi]));cases ac:strEq f.table table with|false=>?_|true=>?_;simp only[ac,cond_false] at hm;simp[hE,ab,aa,bx,r0,ac,hw];exact Ze.of S1 ⟨⟨by simp[hE],ax,s2,al.trans (hs2.mn)⟩,hm⟩;simp only[ac,cond_true] at hm;simp[hE,ab,aa,bx,r0,ac,hw];refine WQ bc.1 ?_;simp[hE];have bd:((h1.qA (h1.ep,112) [C.d (D.str empty),C.nil,C.d (D.str empty)]).next.qA (h1.ep,112) [.s f.table,c1,.s f.ref]).box lf=some Bf:=by simp[hne,bx]
 refine Z4.count (N:=(f.cols.length:Int)) (s0:=S1) (λk S2 E h2=>Ek e E [(15,.one (.mrow lf 0 S1.fks.length cf)),(6,.i (i:Int)),(27,.one c1),(28,.i (f.cols.length:Int)),(29,.i (k:Int))] [0,1,2,16,17]/\
   S2.fks.length=S.fks.length/\(∃f2,S2.fks[i]?=some f2/\f2.cols.length=f.cols.length)/\h2.box lf=some Bf/\Sc h2 l S2 tc (.mrow lf 0 S1.fks.length cf) oc ta fa oa/\Z0 h h2 (fa++oa)) (by simpa using hm) ⟨by simp[hE],ax,⟨f,hf,rfl⟩,bd,s2,al.trans (hs2.mn)⟩ ?_ ?_
 rintro k S2 e h3 ⟨hF,hl2,⟨f2,am,ap⟩,aj,s3,hs3⟩ hltk hm;have hE:=hF.an hE;obtain⟨f3,ay,hm⟩:=hm.qG;rw[am] at ay;cases ay;obtain⟨v,hv,hm⟩:=hm.qG;obtain⟨v',bg,hm⟩:=hm.bind;have ak:k<f.cols.length:=oM
 have ag:k<f2.cols.length:=oM;have az:=bc.2;simp only[U4] at az;have bl:IntKind.i64.wrap ((k:Int)+1)=(k:Int)+1:=Y5 _ oM;obtain⟨l2,cap2,B2,rfl,bb,a7,bv,ae,r4,bt,w4⟩:=s3.fkN aj am hv r1;have bp:=s3.box;simp[hE,ak,ag,ae,r4];refine Z4.cu [0,4,8,9,10,1,2,3,5,6,7,11,12,13] (λE h2=>Ek e E [(27,.one (.mrow l2 0 f2.cols.length cap2))] [0,1,2,15,16,17,6,28,29]/\
  h2.box lf=some Bf/\Sc h2 l {S2 with fks:=S2.fks.set i ⟨f2.table,f2.cols.set k v',f2.ref⟩} tc (.mrow lf 0 S1.fks.length cf) oc ta fa oa/\Z0 h h2 (fa++oa)) ?_ ?_
 simp[bp,hE,ak,ag,aa,aj,ae,r1,r4];refine Za (Z3.qD (hp v v' bg) ⟨.one (.frz (.data rfl)),hcv h3 hs3⟩ rfl ?_);simp[hE,ag,ae];refine⟨λ_ _ x=>x,oM,Zb.of ⟨by simp[hE],?_,?_,?_⟩⟩;simp[a7.symm,aj]
 have:=(s3.frame (Z0.refl.next:Z0 h3 h3.next [])).fkN (by simpa using aj) am hv r1
 obtain⟨bw,bm,B2',e1,k2,k3,k4,k5,k6,k7,k8⟩:=this;simp at e1;obtain⟨rfl,rfl⟩:=e1;simp only[JV,ae] at k5;cases k5;exact k8 v';exact(hs3.next).qA (.inl (by simp[bb]));rintro e h4 ⟨hF,bj,s5,af⟩;have hE:=hF.an hE;simp[hE,bl];have bh:i<S2.fks.length:=oM
 exact Ze.of _ ⟨⟨by simp[hE],by simpa using hl2,⟨⟨f2.table,f2.cols.set k v',f2.ref⟩,by simp[bh],by simpa using ap⟩,bj,s5,af⟩,hm⟩;rintro k S2 e h3 ⟨hF,hl2,⟨f2,am,ap⟩,aj,s3,hs3⟩ hge hm;have hE:=hF.an hE;have ad:¬k<f.cols.length:=oM
 simp[hE,ad,hw];exact Ze.of S2 ⟨⟨by simp[hE],hl2,s3,hs3⟩,hm⟩;rintro i S1 e h1 ⟨hE,ax,s1,al⟩ hge hm;have ad:¬i<S.fks.length:=oM
 have ac:=s1.box;simp[hE,ad,ac];refine WQ s1.len.2.2.1 ?_;simp[hE];refine Z4.count (N:=(S1.cons.length:Int)) (s0:=S1) (λi S2 E h2=>Ek e E [(52,.one oc),(53,.i (S1.cons.length:Int)),(54,.i (i:Int))] [0,1,2]/\S2.cons.length=S1.cons.length/\Sc h2 l S2 tc fc oc ta fa oa/\Z0 h h2 (fa++oa)) (by simpa using hm) ⟨by simp[hE],rfl,s1,al⟩ ?_ ?_;rintro i S2 e h3 ⟨hF,hl2,s2,hs2⟩ hlt hm;have hE:=hF.an hE;replace hm:=Is.qG hm;obtain⟨c,hc,hm⟩:=hm;have ab:i<S1.cons.length:=oM
 have aa:i<S2.cons.length:=oM;have au:=s2.len.2.2.2;simp only[U4] at au;have hw:IntKind.i64.wrap ((i:Int)+1)=(i:Int)+1:=Y5 _ oM;obtain⟨lo,co,Bo,rfl,bx,bo⟩:=s2.wF hc;obtain⟨aw,bu,el,-,w1,w3⟩:=s2.jT bx hc;have r0:=el.rd0 7 oM;simp at r0;have hz:Z0 h3 ((h3.qA (h3.ep,176) [C.d (D.str empty),C.i 0,C.d (D.str empty),C.i 0,C.i 0,C.i 0,C.d (D.str empty)]).next.qA (h3.ep,176) (c.enc.map C.d)) []:=((Z0.refl.qA (.inr (Y7 _))).next).qA (.inr (Y7 _));have s4:=s2.frame hz;simp only[Cons.enc,Yb,Yd] at hz s4;have hne:=Zm (s2.lt lo (by simp[aw]));cases ac:strEq c.table table with|false=>?_|true=>?_;simp only[ac,Xr,cond_true] at hm;simp[hE,ab,aa,bx,r0,ac,hw];exact Ze.of S2 ⟨⟨by simp[hE],hl2,s4,hs2.trans (hz.mn)⟩,hm⟩;simp only[ac,Xf,cond_false] at hm;obtain⟨v,hv,hm⟩:=hm.bind;simp[hE,ab,aa,bx,r0,ac,hw];have ba:=s4.box;have hy:Z0 h ((h3.qA (h3.ep,176) [C.d (D.str empty),C.i 0,C.d (D.str empty),C.i 0,C.i 0,C.i 0,C.d (D.str empty)]).next.qA (h3.ep,176) [C.d (D.str c.table),C.i c.left,C.d (D.str c.op),C.i c.right,C.i c.value.kind,C.i c.value.int,C.d (D.str c.value.text)]) (fa++oa):=hs2.trans (hz.mn);have bq:h.ep<=h3.ep:=hs2.1;generalize hX:(h3.qA (h3.ep,176) [C.d (D.str empty),C.i 0,C.d (D.str empty),C.i 0,C.i 0,C.i 0,C.d (D.str empty)]).next.qA (h3.ep,176) [C.d (D.str c.table),C.i c.left,C.d (D.str c.op),C.i c.right,C.i c.value.kind,C.i c.value.int,C.d (D.str c.value.text)]=HX at s4 ba hy|-;have aq:HX.box (h3.ep,176)=some [C.d (D.str c.table),C.i c.left,C.d (D.str c.op),C.i c.right,C.i c.value.kind,C.i c.value.int,C.d (D.str c.value.text)]:=by rw[<-hX];simp
 have ae:HX.box lo=some Bo:=by rw[<-hX];simp[hne,bx]
 refine Z4.cu [0,4,5,6,7,1,2,3,8,9,10,11] (λE h2=>Ek e E [(52,.one (.mrow lo 0 S2.cons.length co)),(10,.i (i:Int)),(11,.p (h3.ep,176))] [0,1,2,53,54]/\
  h2.box (h3.ep,176)=some [C.d (D.str c.table),C.i c.left,C.d (D.str c.op),C.i c.right,C.i c.value.kind,C.i c.value.int,C.d (D.str c.value.text)]/\h2.box lo=some (Zg Bo (i*7+1) [.i v])/\
  Sc h2 l {S2 with cons:=S2.cons.set i {c with left:=v}} tc fc (.mrow lo 0 S2.cons.length co) ta fa oa/\Z0 h h2 (fa++oa)) ?_ ?_
 simp[hE,ab,aa,ba,aq];refine Za (Z3.qD (hp _ v hv) ⟨.one (.frz (.data rfl)),hcv _ hy⟩ rfl ?_);simp[hE,aa,ae];refine⟨λ_ _ x=>x,oM,Zb.of ⟨by simp[hE],?_,sI,?_,hy.next.qA (.inl (by simp[aw]))⟩⟩
 have:=hne h3.ep 176 (Y7 _)
 have h9:¬(h3.ep,176)=lo:=λhe=>by rw[he] at this;simp at this
 simp[h9,aq];exact((s4.frame (Z0.refl.next:Z0 HX HX.next [])).jT (by simpa using ae) hc).2.2.2.2.1 v;rintro e h4 ⟨hF,ah,ar,s5,af⟩;have hE:=hF.an hE;have bn:({S2 with cons:=S2.cons.set i {c with left:=v}}:Sch).cons[i]?=some {c with left:=v}:=by simp[aa]
 cases hr:decide (0<=c.right) with|false=>?_|true=>?_;simp only[hr,cond_false] at hm;simp at hr;have be:¬0<=c.right:=oM
 simp[hE,ah,be,hw];exact Ze.of _ ⟨⟨by simp[hE],by simpa using hl2,s5,af⟩,hm⟩;simp only[hr,cond_true] at hm;simp at hr;obtain⟨w,bf,hm⟩:=hm.bind;have bk:=s5.box;simp[hE,ah,hr];refine Z4.cu [0,4,5,6,7,1,2,3,8,9,10,11] (λE h2=>Ek e E [] [0,1,2,52,53,54]/\
  Sc h2 l {S2 with cons:=S2.cons.set i {c with left:=v,right:=w}} tc fc (.mrow lo 0 S2.cons.length co) ta fa oa/\Z0 h h2 (fa++oa)) ?_ ?_
 simp[hE,ab,aa,bk,ah];refine Za (Z3.qD (hp _ w bf) ⟨.one (.frz (.data rfl)),hcv _ af⟩ rfl ?_);have a8:(Zg Bo (i*7+1) [C.i v]).length=Bo.length:=Ui (by simp<;>omega);simp[hE,aa,ar,a8];refine⟨λ_ _ x=>x,oM,Zb.of ⟨by simp[hE],?_,af.next.qA (.inl (by simp[aw]))⟩⟩
 have:=((s5.frame (Z0.refl.next:Z0 h4 h4.next [])).jT (by simpa using ar) bn).2.2.2.2.2 w
 simpa using this;rintro e h4 ⟨hF,s5,af⟩;have hE:=hF.an hE;simp[hE,hw];exact Ze.of _ ⟨⟨by simp[hE],by simpa using hl2,s5,af⟩,hm⟩;rintro i S2 e h3 ⟨hF,hl2,s2,hs2⟩ hge hm;have hE:=hF.an hE;have ad:¬i<S1.cons.length:=oM
 obtain rfl:=Zh hm;simp[hE,ad];exact hk _ s2 hs2
def Cs(column:Int)(k0:List Int):Option Int:=
 Zc (λ(i2:Nat) (x2:Int) (s2:Int) next_2=>bif decide (x2<column) then Zp (W9 (s2+1)) (next_2 (s2+1)) else next_2 s2) (λ(s2:Int)=>Zp (W9 (column-s2)) (some (column-s2))) k0 0 0
instance Lc(column:Int)(k0:List Int):Con (Cs column k0) prog 205 [.one (.d (.int .i64 column)),.one (.rp [.sl (k0.map Zd)])] (λr=>.one (.d (.int .i64 r))):=by
 unfold Cs;have l1:LH (σ:=Int) 9 [0,7,8] [.d 4 (λs=>.int .i64 s)]:=.intro;exact go 22 Tryz.func205
def BU(s_:List Int)(v_:Int):Option Int:=
 Zc (λ(i2:Nat) (x2:Int) (s2:Unit) next_2=>bif (v_==x2) then some (i2:Int) else next_2 ()) (λ(s2:Unit)=>some (-1)) s_ 0 ()
instance Zbm(s_:List Int)(v_:Int):Con (BU s_ v_) prog 56 [.one (.d (.sl (s_.map Zd))),.one (.d (.int .i64 v_))] (λr=>.one (.d (.int .i64 r))):=by unfold BU;have l1:LH (σ:=Unit) 8 [0,1,7] []:=.intro;exact go 19 Tryz.func56
def Ue(s_:List Int)(v_:Int):Option Bool:=
 Z1 (BU s_ v_) λv1=>some (decide (0<=v1))
instance Gn(s_:List Int)(v_:Int):Con (Ue s_ v_) prog 24 [.one (.d (.sl (s_.map Zd))),.one (.d (.int .i64 v_))] (λr=>.one (.d (.bool r))):=by unfold Ue;exact go 9 Tryz.func24
def Nq(aa:List Int){ρ:Type}(k:Nat)(c:Col)(Vs:List Col)(next:List Col->Option ρ):Option ρ:=
 Z1 (Ue aa k) λb=>bif !b then next (Vs++[c]) else next Vs
def Np(i:Nat)(aa:List Int){ρ:Type}(k:Nat)(S:Sch)(next:Sch->Option ρ):Option ρ:=
 Z7 S.tables i λT=>Z7 T.pk k λv=>Z1 (Cs v aa) λv'=>next {S with tables:=S.tables.set i {T with pk:=T.pk.set k v'}}
def Cu(S:Sch)(i:Nat)(aa:List Int):Option Sch:=
 Z7 S.tables i λT=>Zc (Nq aa) (λcols=>WI (Np i aa) (λS=>Z7 S.tables i λT=>Z1 (BO {S with tables:=S.tables.set i {T with cols:=cols}} T.name λc=>Cs c aa) some) T.pk.length 0 S) T.cols 0 []
theorem Ip(h l tc fc oc rc ta fa oa S S')(i:Nat)(removed)(hm:Is (Cu S i removed) S')(s:Sc h l S tc fc oc ta fa oa)(hf:∀h',Z0 h h' (ta++(fa++oa))->Frz h' rc (.sl (removed.map Zd)))(K)
  (hk:∀h' ta',Sc h' l S' tc fc oc ta' fa oa->Z0 h h' (ta++(fa++oa))->(∀k∈ta',k∈ta\/h.ep<=k.1)->K (.tup []) h'):
  Z3 prog 175 [.p l,.i (i:Int),.one rc] h K:=by
 have hb:=s.box;replace hm:=Is.qG hm;obtain⟨T,hi,hm⟩:=hm;obtain⟨lt,c1,c2,B,tv⟩:=s.tbl hi;obtain⟨cap,rfl⟩:=tv.hd;have hlt:=(Y0.1 hi).1;have bx:=tv.el.box;have r0:=tv.el.rd0 1 oM;have r1:=tv.el.rd 1 1 oM;have r2:=tv.el.rd 2 1 oM;simp at r0 r1 r2;have hne:=Zm (s.lt l sI);have bm:=Zm (s.lt lt (by simp[tv.tm]));refine Z3.qN Tryz.func175 rfl kR rfl rfl sI ?_;simp[hb,hlt,bx,r1,hne,bm];refine WQ tv.n1.1 ?_;simp;have bl:Z0 h ((h.qA (h.ep,80) [rc]).next) []:=(Z0.refl.qA (.inr (Y7 _))).next;refine Z4.for (λk Vs e h1=>∃ch,En e 70 [(0,.p l),(5,.p (h.ep,80)),(6,.one (.ptr lt (i*3))),(7,.one (.fn 205 [.lab (h.ep,80)])),(8,.one ch),(23,.one c1),(24,.i T.cols.length),(25,.i k)]/\
  Vs.length<=k/\h1.box (h.ep,80)=some [rc]/\MR h1 3 ch (Vs.map λc=>c.enc.map C.d)/\(∀k∈labs ch,h.ep<k.1/\k.1<h1.ep)/\Z0 h h1 []/\h.ep<h1.ep) hm ⟨.nil,sI,sI,sI,MR.nil,by simp[labs],bl,sI⟩ ?_ ?_
 rintro k Vs e h1 ⟨ch,hE,b0,aa,mh,lh,af,aj⟩ al hm;replace hm:=Is.bind hm;obtain⟨b,hb',hm⟩:=hm;have ay:=tv.n1.2;simp only[U4] at ay;have hw:IntKind.i64.wrap ((k:Int)+1)=(k:Int)+1:=Y5 _ oM;have s1:=s.frame af;have aq:h1.box lt=some B:=by rw[af.2 lt (s.lt lt (by simp[tv.tm])) sI];exact bx
 obtain⟨c1',c2',a8⟩:=s1.jC aq hi;obtain rfl:c1'=c1:=by
  have:=a8.el.rd 1 1 oM
  simp[r1] at this;exact this.symm
 obtain⟨l2,cap2,B2,rfl,ag,-⟩:=a8.e1 k _ (Y1 al);have bh:=ag.box;have q0:=ag.rd0 3 oM;simp at q0;simp[hE,al,bh,q0,aa];have hz:Z0 h1 ((h1.qA (h1.ep,160) [C.d (D.str empty),C.d (D.int IntKind.i64 0),C.d (D.bool false)]).next.qA (h1.ep,160) [C.d (D.str T.cols[k].name),C.d (D.int IntKind.i64 T.cols[k].kind),C.d (D.bool T.cols[k].nullable)]) []:=((Z0.refl.qA (.inr (Y7 _))).next).qA (.inr (Y7 _));have hy:=af.trans hz;generalize hX:(h1.qA (h1.ep,160) [C.d (D.str empty),C.d (D.int IntKind.i64 0),C.d (D.bool false)]).next.qA (h1.ep,160) [C.d (D.str T.cols[k].name),C.d (D.int IntKind.i64 T.cols[k].kind),C.d (D.bool T.cols[k].nullable)]=HX at hz hy|-;have bf:HX.box (h1.ep,160)=some [C.d (D.str T.cols[k].name),C.d (D.int IntKind.i64 T.cols[k].kind),C.d (D.bool T.cols[k].nullable)]:=by rw[<-hX];simp
 have ar:HX.box (h.ep,80)=some [rc]:=by rw[hz.2 _ (by simpa using aj) sI];exact aa
 have bd:=mh.frame λk hk=>hz.2 k (lh k hk).2 sI;have bv:h1.ep+1=HX.ep:=by rw[<-hX];simp
 refine Za (Z3.qD (Gn removed k b hb') ⟨.one (.frz (hf _ (hy.mn))),.one (.frz (.data rfl)),trivial⟩ rfl ?_);cases b with|true=>?_|false=>?_;simp only[Xf,cond_false] at hm;simp[hE,hw];exact Ze.of Vs ⟨⟨ch,by simp[hE],oM,by simpa using ar,bd.frame sI,λk hk=>⟨(lh k hk).1,by have:=(lh k hk).2;simp<;>omega⟩,hy.next,by simp<;>omega⟩,hm⟩;simp only[Xr,cond_true] at hm;simp[hE,bf];refine W5 (by simp;exact⟨rfl,rfl⟩) sI sI sI (bd.frame sI) (Zk.qU sI) (by simp<;>omega) (λc' h' bg hs3 bp=>?_);have ax:=(hy.next.qC.next).trans' hs3 (λk hk=>.inr (Nat.le_of_lt (lh k hk).1));have bc:=hs3.1;simp at bc;simp[hE,hw];refine Ze.of _ ⟨⟨c',by simp[hE],by simp<;>omega,?_,by simpa using bg,λk hk=>?_,ax,oM⟩,hm⟩;rw[hs3.2 _ (by simp<;>omega) (λh2=>by have:=(lh _ h2).1;simp at this)];simpa using ar;rcases bp k hk with h2|h2
 have:=lh k h2;exact⟨this.1,oM⟩
 simp at h2;exact⟨oM,h2.2⟩;rintro cols e h1 ⟨ch,hE,_,aa,mh,lh,af,aj⟩ hm;have s1:=s.frame af;have aq:h1.box lt=some B:=by rw[af.2 lt (s.lt lt (by simp[tv.tm])) sI];exact bx
 simp[hE,aq,r2];refine WQ tv.n2.1 ?_;simp[hE];refine Z4.count (N:=(T.pk.length:Int)) (λk S2 E h2=>Ek e E [(42,.one c2),(43,.i T.pk.length),(44,.i k)] [0,5,6,7,8]/\
  h2.box (h.ep,80)=some [rc]/\MR h2 3 ch (cols.map λc=>c.enc.map C.d)/\(∀k∈labs ch,h.ep<k.1/\k.1<h2.ep)/\h2.box lt=some B/\(∃T2,S2.tables[i]?=some T2/\T2.pk.length=T.pk.length)/\Sc h2 l S2 (.mrow lt 0 S.tables.length cap) fc oc ta fa oa/\Z0 h h2 ta/\h.ep<h2.ep) (by simpa using hm) ⟨by simp[hE],aa,mh,lh,aq,⟨T,hi,rfl⟩,s1,af.mn,aj⟩ ?_ ?_
 rintro k S2 e h3 ⟨hF,aa,mh,lh,ad,⟨T2,ac,bj⟩,s3,hs3,au⟩ al hm;have hE:=hF.an hE;replace hm:=Is.qG hm;obtain⟨T2',ab,hm⟩:=hm;rw[ac] at ab;cases ab;obtain⟨v,hv,hm⟩:=hm.qG;obtain⟨v',bk,hm⟩:=hm.bind;have az:k<T.pk.length:=oM
 have am:k<T2.pk.length:=oM;have ay:=tv.n2.2;simp only[U4] at ay;have hw:IntKind.i64.wrap ((k:Int)+1)=(k:Int)+1:=Y5 _ oM;obtain⟨c1',c2',ae⟩:=s3.jC ad ac;obtain rfl:c2'=c2:=by
  have:=ae.el.rd 2 1 oM
  simp[r2] at this;exact this.symm
 obtain⟨l2,cap2,B2,rfl,ag,_⟩:=ae.e2 k v hv;have ah:=ag.box;have q0:=ag.rd0 1 oM;have q1:=ag.le;simp at q0 q1;have hl2:=ae.l2 l2 (by simp[labs]);have aw:=s.lt l2 (by simp[hl2.1]);simp[hE,az,am,ah,q0];refine Z4.cu [0,4,5,6,1,2,3,7,8,9] (λE h2=>Ek e E [(42,.one (.mrow l2 0 T2.pk.length cap2))] [0,5,6,7,8,43,44]/\
  h2.box (h.ep,80)=some [rc]/\MR h2 3 ch (cols.map λc=>c.enc.map C.d)/\(∀k∈labs ch,h.ep<k.1/\k.1<h2.ep)/\h2.box lt=some B/\Sc h2 l {S2 with tables:=S2.tables.set i {T2 with pk:=T2.pk.set k v'}} (.mrow lt 0 S.tables.length cap) fc oc ta fa oa/\Z0 h h2 ta/\h.ep<h2.ep) ?_ ?_
 simp[hE,ad,r2];refine Za (Z3.qD (Lc v removed v' bk) ⟨.one (.frz (.data rfl)),.one (.ptr aa ⟨hf h3 (hs3.mono (λk hk=>by simp[hk])),trivial⟩),trivial⟩ rfl ?_);simp[hE,am,ah];refine⟨λ_ _ x=>x,oM,Zb.of ⟨by simp[hE],?_,?_,λk hk=>⟨(lh k hk).1,by have:=(lh k hk).2;simp<;>omega⟩,?_,?_,hs3.next.qA (.inl hl2.1),by simp<;>omega⟩⟩
 have:¬(h.ep,80)=l2:=λhe=>by rw[<-he] at aw;simp at aw
 simp[this,aa];refine mh.frame λk hk=>?_
 have:k≠l2:=λhe=>by have:=(lh k hk).1;rw[he] at this;omega
 simp[this];simp[hl2.2.symm,ad];obtain⟨bu,a1,bb⟩:=(s3.frame (Z0.refl.next:Z0 h3 h3.next [])).jC (by simpa using ad) ac;obtain rfl:a1=.mrow l2 0 T2.pk.length cap2:=by
  have:=bb.el.rd 2 1 oM
  simp[r2] at this;exact this.symm
 obtain⟨bw,bo,B2',e1,bt,w4⟩:=bb.e2 k v hv;simp at e1;obtain⟨rfl,rfl⟩:=e1
 have:=bt.box
 simp only[JV,ah] at this;cases this;simpa using w4 v';rintro e h4 ⟨hF,aa,mh,lh,ah,s4,ax,ba⟩;have hE:=hF.an hE;have br:=(Y0.1 ac).1;simp[hE,hw];exact Ze.of _ ⟨⟨by simp[hE],aa,mh,lh,ah,⟨{T2 with pk:=T2.pk.set k v'},by simp[br],by simpa using bj⟩,s4,ax,ba⟩,hm⟩;rintro k S2 e h3 ⟨hF,aa,mh,lh,ad,⟨T2,ac,_⟩,s3,hs3,au⟩ hge hm;have hE:=hF.an hE;have be:¬k<T.pk.length:=oM
 replace hm:=Is.qG hm;obtain⟨T2',ab,hm⟩:=hm;rw[ac] at ab;cases ab;obtain⟨S4,hm4,hm⟩:=hm.bind;obtain rfl:=Zh hm;obtain⟨c1',c2',ae⟩:=s3.jC ad ac;obtain⟨ta',s4,bq⟩:=ae.s1 h3 ch cols mh .refl λk hk=>.inr ⟨λh2=>by have:=s.lt k h2;have:=(lh k hk).1;omega,(lh k hk).2⟩;have bz:=ae.el.le;have bi:=ae.el.set (g:=1) (vs:=[ch]) sI sI;have q0:=bi.rd0 1 oM;simp at q0;simp[hE,be,ad];refine⟨oM,?_⟩;simp[hE,q0];have a7:Z0 h (h3.qA lt (Zg B (i*3+1) [ch])) ta:=hs3.qA (.inl tv.tm);have ak:∀k∈ta++(fa++oa),k≠(h.ep,80):=λk hk he=>by have:=s.lt k (by simp at hk|-;exact .inr hk);rw[he] at this;simp at this
 refine Za (Lk _ l (.mrow lt 0 S.tables.length cap) fc oc ta' fa oa _ S4 T2.name 205 [.lab (h.ep,80)] [[.sl (removed.map Zd)]] _ hm4 s4 (λh' ap=>?_) (λx v hv=>Lc x removed v hv) _ (λh' s5 ap=>?_));have bn:Z0 h h' (ta++(fa++oa)):=(a7.mono λk hk=>by simp[hk]).trans (ap.mono λk hk=>X6 _ hk);refine⟨.one (.ptr (cs:=[rc]) ?_ ⟨hf h' bn,trivial⟩),trivial⟩;rw[ap.2 _ (by simpa using au) λh2=>ak _ (X6 _ h2) rfl]
 have:¬(h.ep,80)=lt:=λhe=>ak lt (by simp[tv.tm]) he.symm
 simp[this,aa];simp;refine hk h' ta' s5 ((a7.mono λk hk=>by simp[hk]).trans (ap.mono λk hk=>X6 _ hk)) λk hk=>?_;rcases bq k hk with h2|h2;exact .inl h2;exact .inr (Nat.le_of_lt (lh k h2).1)
def Cv(v_:GV)(c:Col):Option Int:=
 Z1 (WD v_) λv3=>bif (v3 !=0) then some v3 else bif (v_.kind==0) then bif !c.nullable then some 8 else(bif (v_.kind !=0) then bif (v_.kind !=c.kind) then some 7 else(some 0) else some 0) else bif (v_.kind !=0) then bif (v_.kind !=c.kind) then some 7 else(some 0) else some 0
instance Ll(v_:GV)(c:Col):Con (Cv v_ c) prog 185 [.agg v_.enc,.agg c.enc] (λr=>.one (.d (.int .i64 r))):=by unfold Cv;exact go 29 Tryz.func185
def BE:List Sh:=[.d,.d,.d,.d,.d,.d,.r [.d],.d,.d,.d,.d,.d,.r [.d,.d,.d],.r [.d],.d,.d,.d,.d,.d,.d,.d,.d,.r [.d],.d]
def Zf(x:Stp)(x6 ac ab aa:C):List C:=[.d (.int .i64 x.kind),.d (.str x.table),.d (.str x.other),.d (.str x.column),.d (.str x.newName),.d (.int .i64 x.type),x6,.d (.str x.op),
 .d (.int .i64 x.value.kind),.d (.int .i64 x.value.int),.d (.str x.value.text),.d (.str x.newTable.name),ac,ab,
 .d (.str x.cons.table),.d (.int .i64 x.cons.left),.d (.str x.cons.op),.d (.int .i64 x.cons.right),.d (.int .i64 x.cons.value.kind),.d (.int .i64 x.cons.value.int),.d (.str x.cons.value.text),
 .d (.str x.fk.table),aa,.d (.str x.fk.ref)]
theorem Ow.qS{h ss}{c:C}{cs x ds ls}(o:Ow h (.d::ss) cs (x::ds) ls)(hx:x.flat=true):∃cs',cs=.d x::cs'/\Ow h ss cs' ds ls:=by obtain⟨c,y,cs',aa,rfl,e,e2,o'⟩:=o.jJ;simp at e;obtain⟨rfl,rfl⟩:=e;obtain rfl:=(Frz.data (h:=h) e2).flat hx;exact⟨cs',rfl,o'⟩
theorem Ow.stp{h}{xs:List C}{x ls}(o:Ow h BE xs x.enc ls):∃x6 aa ac ab a b c d,xs=Zf x x6 aa ac ab/\ls=a++(b++(c++d))/\Ow h [.r [.d]] [x6] [.sl (x.cols.map Zd)] a/\Ow h [.r [.d,.d,.d]] [aa] [.sl (x.newTable.cols.map Col.enc)] b/\Ow h [.r [.d]] [ac] [.sl (x.newTable.pk.map Zd)] c/\Ow h [.r [.d]] [ab] [.sl (x.fk.cols.map Zd)] d:=by simp only[BE,Stp.enc] at o;obtain⟨_,rfl,bd⟩:=o.qS (c:=.nil) rfl;obtain⟨_,rfl,ba⟩:=bd.qS (c:=.nil) rfl;obtain⟨_,rfl,bf⟩:=ba.qS (c:=.nil) rfl;obtain⟨_,rfl,bb⟩:=bf.qS (c:=.nil) rfl;obtain⟨_,rfl,ay⟩:=bb.qS (c:=.nil) rfl;obtain⟨_,rfl,a1⟩:=ay.qS (c:=.nil) rfl;obtain⟨x6,_,a,_,rfl,rfl,o6,be⟩:=a1.split;obtain⟨_,rfl,a7⟩:=be.qS (c:=.nil) rfl;obtain⟨_,rfl,bc⟩:=a7.qS (c:=.nil) rfl;obtain⟨_,rfl,a8⟩:=bc.qS (c:=.nil) rfl;obtain⟨_,rfl,ad⟩:=a8.qS (c:=.nil) rfl;obtain⟨_,rfl,aq⟩:=ad.qS (c:=.nil) rfl;obtain⟨aa,_,b,_,rfl,rfl,ax,ah⟩:=aq.split;obtain⟨ac,_,c,_,rfl,rfl,az,ar⟩:=ah.split;obtain⟨_,rfl,al⟩:=ar.qS (c:=.nil) rfl;obtain⟨_,rfl,aj⟩:=al.qS (c:=.nil) rfl;obtain⟨_,rfl,au⟩:=aj.qS (c:=.nil) rfl;obtain⟨_,rfl,ae⟩:=au.qS (c:=.nil) rfl;obtain⟨_,rfl,af⟩:=ae.qS (c:=.nil) rfl;obtain⟨_,rfl,aw⟩:=af.qS (c:=.nil) rfl;obtain⟨_,rfl,ak⟩:=aw.qS (c:=.nil) rfl;obtain⟨_,rfl,ap⟩:=ak.qS (c:=.nil) rfl;obtain⟨ab,_,d,_,rfl,rfl,bg,ag⟩:=ap.split;obtain⟨_,rfl,am⟩:=ag.qS (c:=.nil) rfl;obtain⟨rfl,_,rfl⟩:=am.qV;exact⟨x6,aa,ac,ab,a,b,c,d,rfl,sI,o6,ax,az,bg⟩
theorem Ow.xC{h x x6 x12 x13 x22 a b c d}(o6:Ow h [.r [.d]] [x6] [.sl (x.cols.map Zd)] a)(ab:Ow h [.r [.d,.d,.d]] [x12] [.sl (x.newTable.cols.map Col.enc)] b)(ac:Ow h [.r [.d]] [x13] [.sl (x.newTable.pk.map Zd)] c)(aa:Ow h [.r [.d]] [x22] [.sl (x.fk.cols.map Zd)] d):Ow h BE (Zf x x6 x12 x13 x22) x.enc (a++(b++(c++d))):=by have e:=aa.join (Ow.data (c:=.d (.str x.fk.ref)) rfl .nil);have e2:=ac.join (.data (c:=.d (.str x.cons.table)) rfl (.data (c:=.d (.int .i64 x.cons.left)) rfl (.data (c:=.d (.str x.cons.op)) rfl (.data (c:=.d (.int .i64 x.cons.right)) rfl (.data (c:=.d (.int .i64 x.cons.value.kind)) rfl (.data (c:=.d (.int .i64 x.cons.value.int)) rfl (.data (c:=.d (.str x.cons.value.text)) rfl (.data (c:=.d (.str x.fk.table)) rfl e))))))));have e3:=o6.join (.data (c:=.d (.str x.op)) rfl (.data (c:=.d (.int .i64 x.value.kind)) rfl (.data (c:=.d (.int .i64 x.value.int)) rfl (.data (c:=.d (.str x.value.text)) rfl (.data (c:=.d (.str x.newTable.name)) rfl (ab.join e2))))));have e4:=Ow.data (c:=.d (.int .i64 x.kind)) rfl (.data (c:=.d (.str x.table)) rfl (.data (c:=.d (.str x.other)) rfl (.data (c:=.d (.str x.column)) rfl (.data (c:=.d (.str x.newName)) rfl (.data (c:=.d (.int .i64 x.type)) rfl e3)))));simp only[Ym] at e4;exact e4
theorem Ow.rY{h x}{vs:List Int}{ls}(o:Ow h [.r [.d]] [x] [.sl (vs.map Zd)] ls){k:Nat}{v:Int}(hk:vs[k]?=some v):∃l2 cap B,x=.mrow l2 0 vs.length cap/\l2∈ls/\h.box l2=some B/\Zl 1 (B.drop k)=some [.d (.int .i64 v)]:=by
 obtain⟨qs,rfl,P⟩:=o.wB (λh0=>by
  have:vs=[]:=by simpa using h0
  rw[this] at hk;simp at hk)
 obtain⟨l2,cap,B,k1,k2,_,_⟩:=P.rD (n:=1) rfl (Uq hk) (JD v)
 have:=k2.rd0 1 oM
 simp at this;exact⟨l2,cap,B,by simpa using k1,by rw[k1];simp[Z5,labs],k2.box,this⟩
def Gl(S:Sch)(i:Nat)(step:Stp):Option (Sch×Int):=
 Z1 (Cv step.value ⟨step.column,step.type,step.value.kind==0⟩) λe=>bif e !=0 then some (S,e) else
 Z7 S.tables i λT=>Zp (0<T.cols.length/\T.cols.length<Zs) (some ({S with tables:=S.tables.set i {T with cols:=T.cols++[⟨step.column,step.type,step.value.kind==0⟩]}},0))
theorem Fj{ta ta' fa oa lx:List Z2}{n:Nat}(h:∀k∈ta',k∈ta\/n<=k.1):∀k∈ta'++(fa++oa),k∈ta++(fa++oa)\/n<=k.1:=λk hk=>by simp only[Y2] at hk|-;rcases hk with hk|hk|hk;exact(h k hk).imp_left .inl;exact .inl (.inr (.inl hk));exact .inl (.inr (.inr hk))
theorem R0(h l tc fc oc x6 x12 x13 x22 ta fa oa S S')(i:Nat)(step)(r:Int)(hm:Is (Gl S i step) (S',r))(s:Sc h l S tc fc oc ta fa oa)(K)
  (hk:WV h l (ta++(fa++oa)) S' (.i r) K):
  Z3 prog 158 [.p l,.i (i:Int),.agg (Zf step x6 x12 x13 x22)] h K:=by
 obtain⟨ev,aq,hm⟩:=hm.bind;refine Z3.qN Tryz.func158 rfl kR rfl rfl sI ?_;simp[Zf];have aa:Z0 h (((h.qA (h.ep,80) (Zf step x6 x12 x13 x22)).next.qA (h.ep+1,112) [C.d (D.str empty),C.d (D.int IntKind.i64 0),C.d (D.bool false)]).next.qA (h.ep+1,112) [C.d (D.str step.column),C.d (D.int IntKind.i64 step.type),C.d (D.bool (step.value.kind==0))]) []:=(((Z0.refl.qA (.inr (Y7 _))).next.qA (.inr sI)).next.qA (.inr sI));simp only[Zf] at aa;generalize hX:(((h.qA (h.ep,80) _).next.qA (h.ep+1,112) _).next.qA (h.ep+1,112) _)=HX at aa|-;have ah:HX.box (h.ep+1,112)=some [C.d (D.str step.column),C.d (D.int IntKind.i64 step.type),C.d (D.bool (step.value.kind==0))]:=by rw[<-hX];simp
 refine Za (Z3.qD (Ll step.value ⟨step.column,step.type,step.value.kind==0⟩ ev aq) ⟨.agg (Zx.qL (ds:=step.value.enc)),.agg (Zx.qL (ds:=(⟨step.column,step.type,step.value.kind==0⟩:Col).enc)),trivial⟩ rfl ?_);cases hev0:ev !=0 with|true=>?_|false=>?_;rw[hev0] at hm;obtain⟨rfl,rfl⟩:=ZJ hm;have ac:¬ev=0:=by simpa using hev0
 simp[hev0];exact hk _ _ (s.frame aa.next).ows (aa.next.mn) (λk hk=>.inl hk);simp only[hev0,cond_false] at hm;have ac:ev=0:=by simpa using hev0
 obtain⟨T,hi,hm⟩:=hm.qG;obtain⟨⟨hc0,ap⟩,hm⟩:=hm.chk;obtain⟨rfl,rfl⟩:=ZJ hm;simp[ac];have s1:=s.frame aa;have al:=s1.box;have hlt:=(Y0.1 hi).1;obtain⟨lt,c1,c2,B,tv⟩:=s1.tbl hi;obtain⟨cap,rfl⟩:=tv.hd;have bx:=tv.el.box;have r1:=tv.el.rd 1 1 oM;have aw:=tv.el.le;simp at r1;have hne:=Zm (s1.lt l sI);have ar:=Zm (s1.lt lt (by simp[tv.tm]));refine Z4.cut (Plan.qB [0,1,2,4,5,6,7,8,9,10,11,12,13] (.two 3 14 (Plan.qB [14,15,16,17,18] .done) (Plan.qB [] (.two 3 15 (Plan.qB [15,16,17,18] .done) (Plan.qB [3,16,17,18] .done))))) follows kR (λe h'=>e.n=43/\∃ta',Sc h' l {S with tables:=S.tables.set i {T with cols:=T.cols++[⟨step.column,step.type,step.value.kind==0⟩]}} (.mrow lt 0 S.tables.length cap) fc oc ta' fa oa/\Z0 h h' ta/\∀k∈ta',k∈ta\/h.ep<=k.1) ?_ ?_
 .simp[al,ah,hlt,bx,r1];have hs2:Z0 HX (((HX.next).qC (HX.ep+1,16*39) (some (1,3))).next) []:=(Z0.refl.next).qC.next;simp only[Nat.reduceMul] at hs2;obtain⟨c1',c2',ab⟩:=(s1.frame hs2).jC (by simpa using bx) hi;obtain rfl:c1'=c1:=by
   have:=ab.el.rd 1 1 oM
   simp[r1] at this;exact this.symm
  have au:T.cols.length<2097152:=ap;refine⟨?_,?_,?_⟩
  all_goals
   refine W5 (by simp;exact⟨rfl,rfl⟩) sI sI sI (ab.m1 (by intro h0;simp[h0] at hc0)) (Zk.qU sI) (by simp<;>omega) (λc' h' ag hs3 ae=>?_);have af:h'.box lt=some B:=by
    rw[hs3.2 lt ((s1.frame hs2).lt lt (by simp[tv.tm])) λh2=>(ab.l1 lt h2).2 rfl];simpa using bx
   have aj:=(s1.frame hs2).keep hs3 λk hk=>.inl (ab.l1 k hk).1;have ak:=hs3.1;simp at ak;obtain⟨ta',s4,ad⟩:=ab.s1 h' c' (T.cols++[⟨step.column,step.type,step.value.kind==0⟩]) (by simpa using ag) hs3 (λk hk=>(ae k hk).imp_right λh2=>⟨λh3=>by have:=(s1.frame hs2).lt k h3;omega,h2.2⟩);simp[hlt,af,aj];refine⟨oM,Zb.of ⟨sI,ta',s4,?_,λk hk=>?_⟩⟩;exact((aa.trans hs2).mn|>.trans (hs3.mono λk hk=>(ab.l1 k hk).1)).qA (.inl tv.tm);rcases ad k hk with h2|h2;exact .inl h2;rcases ae k h2 with h3|h3;exact .inl (ab.l1 k h3).1;refine .inr ?_;have h4:=h3.1;have h5:=aa.1;simp at h4;omega
 rintro e h1 ⟨hn,ta',s4,am,ad⟩;simp[hn];exact hk _ _ s4.ows (am.mono λk hk=>by simp[hk]) (Fj (lx:=[]) ad)
def DR(fk:Fk)(k0:Tbl)(k1:Int):Option Bool:=
 bif strEq fk.table k0.name then Z1 (Ue fk.cols k1) λv3=>(some v3) else some false
instance Qt(fk:Fk)(k0:Tbl)(k1:Int):Con (DR fk k0 k1) prog 214 [.agg fk.enc,.one (.rp [.str k0.name,.sl (k0.cols.map Col.enc),.sl (k0.pk.map Zd)]),.one (.rp [.int .i64 k1])] (λr=>.one (.d (.bool r))):=by unfold DR;exact go 16 Tryz.func214
instance Za6(k0:Tbl)(k1:Int):ConF (λx=>DR x k0 k1) prog (λx=>.agg x.enc) (λr=>.one (.d (.bool r))) 214 [[.str k0.name,.sl (k0.cols.map Col.enc),.sl (k0.pk.map Zd)],[.int .i64 k1]]:=⟨λx=>(Qt x k0 k1)⟩
def DK(s_:List Cons)(f:Cons->Option Bool):Option Int:=
 Zc (λ(i2:Nat) (x2:Cons) (s2:Unit) next_2=>Z1 (f x2) λv3=>bif v3 then some (i2:Int) else next_2 ()) (λ(s2:Unit)=>some (-1)) s_ 0 ()
instance Q9(s_:List Cons)(f:Cons->Option Bool){g:FuncId}{caps:List (List D)}[ConF f prog (λx=>.agg x.enc) (λv=>.one (.d (.bool v))) g caps]:Con (DK s_ f) prog 237 [.one (.d (.sl (s_.map Cons.enc))),.one (.fn g caps)] (λr=>.one (.d (.int .i64 r))):=by unfold DK;have l1:LH (σ:=Unit) 8 [0,1,7] []:=.intro;exact go 19 Tryz.func237
theorem Qa(s_:List Cons)(g:FuncId)(caps:List (List D))(f:Cons->Option Bool)(hf:∀xa v,Is (f xa) v->Zj prog g (.agg xa.enc::We caps) (.one (.d (.bool v))))(r:Int)(hm:Is (DK s_ f) r):Zj prog 237 [.one (.d (.sl (s_.map Cons.enc))),.one (.fn g caps)] (.one (.d (.int .i64 r))):=
 haveI:ConF f prog (λx=>.agg x.enc) (λv=>.one (.d (.bool v))) g caps:=⟨hf⟩
 (Q9 s_ f).h r hm
def Zj8(s_:List Cons)(f:Cons->Option Bool):Option Bool:=
 Z1 (DK s_ f) λv1=>some (decide (0<=v1))
instance Z9h(s_:List Cons)(f:Cons->Option Bool){g:FuncId}{caps:List (List D)}[ConF f prog (λx=>.agg x.enc) (λv=>.one (.d (.bool v))) g caps]:Con (Zj8 s_ f) prog 215 [.one (.d (.sl (s_.map Cons.enc))),.one (.fn g caps)] (λr=>.one (.d (.bool r))):=by unfold Zj8;exact go 9 Tryz.func215
def DQ(c:Cons)(k0:Tbl)(k1:Int):Option Bool:=
 bif strEq c.table k0.name then bif (c.left==k1) then some true else(some (c.right==k1)) else some false
instance Qs(c:Cons)(k0:Tbl)(k1:Int):Con (DQ c k0 k1) prog 216 [.agg c.enc,.one (.rp [.str k0.name,.sl (k0.cols.map Col.enc),.sl (k0.pk.map Zd)]),.one (.rp [.int .i64 k1])] (λr=>.one (.d (.bool r))):=by unfold DQ;exact go 22 Tryz.func216
instance Za5(k0:Tbl)(k1:Int):ConF (λx=>DQ x k0 k1) prog (λx=>.agg x.enc) (λr=>.one (.d (.bool r))) 216 [[.str k0.name,.sl (k0.cols.map Col.enc),.sl (k0.pk.map Zd)],[.int .i64 k1]]:=⟨λx=>(Qs x k0 k1)⟩
def Cx(s_:Sch)(t:Tbl)(column:Int):Option Int:=
 Z1 (Ue t.pk column) λv4=>bif v4 then some 9 else Z1 (A2 s_.fks (λxa_=>DR xa_ t column)) λv6=>bif v6 then some 10 else Z1 (Zj8 s_.cons (λxa_=>DQ xa_ t column)) λv8=>bif v8 then some 11 else some 0
instance Ln(s_:Sch)(t:Tbl)(column:Int):Con (Cx s_ t column) prog 184 [.agg s_.enc,.agg t.enc,.one (.d (.int .i64 column))] (λr=>.one (.d (.int .i64 r))):=by unfold Cx;exact go 19 Tryz.func184
def Gb(S:Sch)(i:Nat)(step:Stp):Option (Sch×Int):=
 Z7 S.tables (i:Int) λT=>Z1 (W7 T step.column) λr=>bif !r.2 then some (S,4) else
 bif step.kind==3 then Z1 (W7 T step.newName) λr2=>bif r2.2 then some (S,5) else
  Z7 T.cols r.1 λc=>some ({S with tables:=S.tables.set i {T with cols:=T.cols.set r.1.toNat {c with name:=step.newName}}},0)
 else Z1 (Cx S T r.1) λe=>bif e !=0 then some (S,e) else
 bif step.kind==5 then Z7 T.cols r.1 λc=>some ({S with tables:=S.tables.set i {T with cols:=T.cols.set r.1.toNat {c with kind:=step.type}}},0)
 else Z7 T.cols r.1 λc=>Z1 (Cv step.value c) λe=>bif e !=0 then some (S,e) else Z1 (Cu S i [r.1]) λS'=>some (S',0)
set_option maxHeartbeats 1000000 in
theorem QF(h:HS)(l:Z2)(tc fc oc x6 ab ad ac:C)(ta fa oa:List Z2)(S S':Sch)(i:Nat)(step:Stp)(r:Int)(hm:Is (Gb S i step) (S',r))(s:Sc h l S tc fc oc ta fa oa)(K:V->HS->Prop)
  (hk:WV h l (ta++(fa++oa)) S' (.i r) K):
  Z3 prog 159 [.p l,.i (i:Int),.agg (Zf step x6 ab ad ac)] h K:=by
 obtain⟨T,hi,hm⟩:=hm.qG;obtain⟨v,hv,hm⟩:=hm.bind;have hlt:i<S.tables.length:=(Y0.1 hi).1;have a1:Z0 h ((h.qA (h.ep,80) (Zf step x6 ab ad ac)).next) []:=(Z0.refl.qA (.inr (Y7 _))).next;have s0:=s.frame a1;obtain⟨lt,c1,c2,B,tv⟩:=s0.tbl hi;obtain⟨cap,rfl⟩:=tv.hd;have bh:=s0.box;have bx:=tv.el.box;have r0:=tv.el.rd0 3 oM;have r1:=tv.el.rd 1 1 oM;simp at r0 r1;have a8:(h.qA (h.ep,80) (Zf step x6 ab ad ac)).next.box (h.ep,80)=some (Zf step x6 ab ad ac):=sI
 refine Z3.ov Tryz.func159 ?_;have be:Zf step x6 ab ad ac≠[]:=by simp[Zf]
 have hne:=Zm (s.lt l sI);have bc:=s.box;have ay:h.ep<((h.qA (h.ep,80) (Zf step x6 ab ad ac)).next).ep:=sI
 simp[bc,hne,hlt,be];generalize(h.qA (h.ep,80) (Zf step x6 ab ad ac)).next=HX at*;have aw:∀h',Z0 HX h' []->Zx h' [C.d (D.str T.name),c1,c2] T.enc:=λh' hs=>⟨.data rfl,tv.f1 h' hs,tv.f2 h' hs,trivial⟩;refine Z4.cu [0,1,2,3,4,5,6,7,8,9,10] (λe h'=>En e 94 [(0,.p l),(1,.i (i:Int)),(5,.p (h.ep,80)),(7,.one (.ptr lt (i*3))),(8,.i v.1),(9,.b v.2)]/\Z0 HX h' []) ?_ ?_;simp[bx,r0,a8,Zf];refine Za (Z3.qD (Ed T step.column v hv) ⟨.agg (aw _ .refl),.one (.frz (.data rfl)),trivial⟩ rfl ?_);simp;exact⟨λ_ _ x=>x,Zb.of (by simp[Z0.refl.next])⟩;rintro e h1 ⟨hE,aj⟩;have al:h1.box (h.ep,80)=some (Zf step x6 ab ad ac):=by rw[aj.2 _ ay sI];exact a8
 have ar:h1.box lt=some B:=by rw[aj.2 _ (s0.lt lt (by simp[tv.tm])) sI];exact bx
 have s1:=s0.frame aj;have bf:=s1.box;have hy:=a1.trans aj;simp[hE];cases hv2:v.2 with|false=>?_|true=>?_;rw[hv2] at hm;obtain⟨rfl,rfl⟩:=ZJ hm;simp[hE];exact hk _ _ s1.ows (hy.mn) (λk hk=>.inl hk);simp only[hv2,Xf,cond_false] at hm;simp[hE,al,Zf];cases hk3:step.kind==3 with|true=>?_|false=>?_;simp only[hk3,cond_true] at hm;obtain⟨w,hw,hm⟩:=hm.bind;simp[hk3];refine Z4.cu [0,1,2,3,4,5,6,7,8,9,10] (λE h'=>Ek e E [(11,.b w.2)] [0,1,5,7,8]/\Z0 h1 h' []) ?_ ?_;simp[hE,ar,r0,al,Zf];refine Za (Z3.qD (Ed T step.newName w hw) ⟨.agg (aw _ aj),.one (.frz (.data rfl)),trivial⟩ rfl ?_);simp[hE];exact⟨λ_ _ x=>x,Zb.of (by simp[hE,Z0.refl.next])⟩;rintro e h2 ⟨hF,hs2⟩;have hE:=hF.an hE;have s2:=s1.frame hs2;have am:=hy.trans hs2;simp[hE];cases hw2:w.2 with|true=>?_|false=>?_;rw[hw2] at hm;obtain⟨rfl,rfl⟩:=ZJ hm;simp[hE];exact hk _ _ s2.ows (am.mn) (λk hk=>.inl hk);simp only[hw2,cond_false] at hm;obtain⟨c,ba,hc,hm⟩:=hm.get;obtain⟨rfl,rfl⟩:=ZJ hm;have ak:h2.box lt=some B:=by rw[hs2.2 _ (s1.lt lt (by simp[tv.tm])) sI];exact ar
 have ae:h2.box (h.ep,80)=some (Zf step x6 ab ad ac):=by rw[hs2.2 _ (Y3 ay aj.1) sI];exact al
 obtain⟨c1',c2',aa⟩:=s2.jC ak hi;obtain rfl:c1'=c1:=by
  have:=aa.el.rd 1 1 oM
  simp[r1] at this;exact this.symm
 obtain⟨l2,cap2,B2,rfl,ah,w2⟩:=aa.e1 _ c hc;have ap:=ah.box;have ag:=ah.le;have hl2:=aa.l1 l2 (by simp[labs]);obtain⟨n,af⟩:∃n:Nat,v.1=n:=⟨v.1.toNat,oM⟩;have aq:n<T.cols.length:=by
  have:=(Y0.1 hc).1
  omega
 rw[af] at hE ag w2;simp;refine Z4.cu [0,1,2,3,4,5,6,7,8,9] (λe h'=>e.n=94/\Sc h' l {S with tables:=S.tables.set i {T with cols:=T.cols.set v.1.toNat {c with name:=step.newName}}} (.mrow lt 0 S.tables.length cap) fc oc ta fa oa/\Z0 h h' ta) ?_ ?_;simp at ag;simp[hE,ak,r1,ae,ap,aq,Zf];refine⟨oM,Zb.of ⟨by simp[hE],?_,(am.mn).qA (.inl hl2.1)⟩⟩
 have:=w2 0 [.d (.str step.newName)] {c with name:=step.newName} sI sI
 simpa[af] using this;rintro e h3 ⟨hn,s3,hs3⟩;simp[hn];exact hk _ _ s3.ows (hs3.mono λk hk=>by simp[hk]) (λk hk=>.inl hk);simp only[hk3,cond_false] at hm;obtain⟨w,hw,hm⟩:=hm.bind;simp[hk3];refine Z4.cu [0,1,2,3,4,5,6,7,8] (λE h'=>Ek e E [(12,.i w)] [0,1,5,7,8]/\Z0 h1 h' []) ?_ ?_;simp[hE,ar,r0,bf];refine Za (Z3.qD (Ln S T v.1 w hw) ⟨.agg s1.frz,.agg (aw _ aj),.one (.frz (.data rfl)),trivial⟩ rfl ?_);simp[hE];exact⟨λ_ _ x=>x,Zb.of (by simp[hE,Z0.refl.next])⟩;rintro e h2 ⟨hF,hs2⟩;have hE:=hF.an hE;have s2:=s1.frame hs2;have am:=hy.trans hs2;have ak:h2.box lt=some B:=by rw[hs2.2 _ (s1.lt lt (by simp[tv.tm])) sI];exact ar
 have ae:h2.box (h.ep,80)=some (Zf step x6 ab ad ac):=by rw[hs2.2 _ (Y3 ay aj.1) sI];exact al
 simp[hE];cases hw0:w !=0 with|true=>?_|false=>?_;simp only[hw0,cond_true] at hm;obtain⟨rfl,rfl⟩:=ZJ hm;have ax:¬w=0:=by simpa using hw0
 simp[hE,ax];exact hk _ _ s2.ows (am.mn) (λk hk=>.inl hk);simp only[hw0,cond_false] at hm;have ax:w=0:=by simpa using hw0
 simp[hE,ax,ae,Zf];cases hk5:step.kind==5 with|true=>?_|false=>?_;simp only[hk5,cond_true] at hm;obtain⟨c,ba,hc,hm⟩:=hm.get;obtain⟨rfl,rfl⟩:=ZJ hm;obtain⟨c1',c2',aa⟩:=s2.jC ak hi;obtain rfl:c1'=c1:=by
  have:=aa.el.rd 1 1 oM
  simp[r1] at this;exact this.symm
 obtain⟨l2,cap2,B2,rfl,ah,w2⟩:=aa.e1 _ c hc;have ap:=ah.box;have ag:=ah.le;have hl2:=aa.l1 l2 (by simp[labs]);obtain⟨n,af⟩:∃n:Nat,v.1=n:=⟨v.1.toNat,oM⟩;have aq:n<T.cols.length:=by
  have:=(Y0.1 hc).1
  omega
 rw[af] at hE ag w2;simp[hk5];refine Z4.cu [0,1,2,3,4,5,6,7,8,9] (λe h'=>e.n=94/\Sc h' l {S with tables:=S.tables.set i {T with cols:=T.cols.set v.1.toNat {c with kind:=step.type}}} (.mrow lt 0 S.tables.length cap) fc oc ta fa oa/\Z0 h h' ta) ?_ ?_;simp at ag;simp[hE,ak,r1,ae,ap,aq,Zf];refine⟨oM,Zb.of ⟨by simp[hE],?_,(am.mn).qA (.inl hl2.1)⟩⟩
 have:=w2 1 [.d (.int .i64 step.type)] {c with kind:=step.type} sI sI
 simpa[af] using this;rintro e h3 ⟨hn,s3,hs3⟩;simp[hn];exact hk _ _ s3.ows (hs3.mono λk hk=>by simp[hk]) (λk hk=>.inl hk);simp only[hk5,cond_false] at hm;obtain⟨c,ba,hc,hm⟩:=hm.get;obtain⟨u,hu,hm⟩:=hm.bind;obtain⟨c1',c2',aa⟩:=s2.jC ak hi;obtain rfl:c1'=c1:=by
  have:=aa.el.rd 1 1 oM
  simp[r1] at this;exact this.symm
 obtain⟨l2,cap2,B2,rfl,ah,w2⟩:=aa.e1 _ c hc;have ap:=ah.box;have q0:=ah.rd0 3 oM;obtain⟨n,af⟩:∃n:Nat,v.1=n:=⟨v.1.toNat,oM⟩;have aq:n<T.cols.length:=by
  have:=(Y0.1 hc).1
  omega
 rw[af] at hE q0;simp at q0;simp[hk5];refine Z4.cu [0,1,2,3,4,5,6,7,8,9,10] (λE h'=>Ek e E [(8,.i n),(13,.i u)] [0,1]/\Z0 h2 h' []) ?_ ?_;simp[hE,ak,r1,ap,q0,aq,ae,Zf];refine Za (Z3.qD (Ll step.value c u hu) ⟨.agg (Zx.qL (ds:=step.value.enc)),.agg (Zx.qL (ds:=c.enc)),trivial⟩ rfl ?_);simp[hE];exact⟨λ_ _ x=>x,Zb.of (by simp[hE,Z0.refl.next])⟩;rintro e h3 ⟨hF,hs3⟩;have hE:=hF.an hE;have s3:=s2.frame hs3;have a7:=am.trans hs3;simp[hE];cases hu0:u !=0 with|true=>?_|false=>?_;simp only[hu0,cond_true] at hm;obtain⟨rfl,rfl⟩:=ZJ hm;have au:¬u=0:=by simpa using hu0
 simp[hE,au];exact hk _ _ s3.ows (a7.mn) (λk hk=>.inl hk);simp only[hu0,cond_false] at hm;have au:u=0:=by simpa using hu0
 obtain⟨S4,hm4,hm⟩:=hm.bind;obtain⟨rfl,rfl⟩:=ZJ hm;simp[hE,au];have hz:Z0 h3 ((h3.qC (h3.ep,16*92) (some (1,1))).next) []:=(Z0.refl.qC).next;simp only[Nat.reduceMul] at hz;refine Za (Ip _ l _ fc oc _ ta fa oa S S4 i [v.1] hm4 (s3.frame hz) (λh' _=>.data (by simp[af])) _ (λh4 bg s4 bd bb=>?_));simp[hE];have az:=a7.trans hz;exact hk _ _ s4.ows ((az.mn).trans (bd.mono λk hk=>Yc _ hk)) (Fj (lx:=[]) λk hk=>(bb k hk).imp_right λh2=>Yv az.1 h2)
def G5(S:Sch)(i:Nat)(step:Stp):Option (Sch×Int):=
 Z7 S.tables (i:Int) λT=>bif ((step.cols.length:Int) !=2) then some (S,3) else Z7 step.cols 0 λa=>bif decide (a<0) then some (S,3) else Z7 step.cols 1 λb=>bif decide (b<=a) then some (S,3) else bif decide ((T.cols.length:Int)<=b) then some (S,3) else
 Zc (λ_ (aa:Int) (ab:Bool) next=>Z7 T.cols aa λc=>bif c.kind !=3 then some (S,7) else next (ab&&c.nullable)) (λab=>
  Zc (λ_ (aa:Int) (_:Unit) next=>Z1 (Cx S T aa) λe=>bif e !=0 then some (S,e) else next ()) (λ_=>
   Z1 (Cu S i step.cols) λS1=>Z7 S1.tables (i:Int) λT1=>Zp (0<T1.cols.length/\T1.cols.length<Zs) (some ({S1 with tables:=S1.tables.set i {T1 with cols:=T1.cols++[⟨step.column,3,ab⟩]}},0))) step.cols 0 ()) step.cols 0 true
set_option maxHeartbeats 1000000 in
theorem Qm(h:HS)(l:Z2)(tc fc oc:C)(xs:List C)(ta fa oa lx:List Z2)(S S':Sch)(i:Nat)(step:Stp)(r:Int)(hm:Is (G5 S i step) (S',r))(s:Sc h l S tc fc oc ta fa oa)(hx:Ow h BE xs step.enc lx)(hd:∀k∈lx,k.1<h.ep/\k∉l::(ta++(fa++oa)))(K:V->HS->Prop)
  (hk:WV h l (ta++(fa++oa)) S' (.i r) K):
  Z3 prog 157 [.p l,.i (i:Int),.agg xs] h K:=by
 obtain⟨x6,ac,af,ad,a6,a12,cx,cw,rfl,rfl,o6,ck,cl,cv⟩:=hx.stp;obtain⟨T,hi,hm⟩:=hm.qG;have hlt:i<S.tables.length:=(Y0.1 hi).1;have aa:Z0 h ((h.qA (h.ep,80) (Zf step x6 ac af ad)).next) []:=(Z0.refl.qA (.inr (Y7 _))).next;have s0:=s.frame aa;obtain⟨lt,c1,c2,B,tv⟩:=s0.tbl hi;obtain⟨cap,rfl⟩:=tv.hd;have cn:=s0.box;have bx:=tv.el.box;have r0:=tv.el.rd0 3 oM;have r1:=tv.el.rd 1 1 oM;simp at r0 r1;have b8:(h.qA (h.ep,80) (Zf step x6 ac af ad)).next.box (h.ep,80)=some (Zf step x6 ac af ad):=sI
 have ar:∀h',Z0 h h' (l::(ta++(fa++oa)))->Ow h' [.r [.d]] [x6] [.sl (step.cols.map Zd)] a6:=λh' hs=>o6.frame λk hk=>hs.2 k (hd k (by simp[hk])).1 (hd k (by simp[hk])).2;have bu:=o6.wK;simp at bu;refine Z3.ov Tryz.func157 ?_;have cd:Zf step x6 ac af ad≠[]:=by simp[Zf]
 have hne:=Zm (s.lt l sI);have bv:=s.box;have bt:h.ep<((h.qA (h.ep,80) (Zf step x6 ac af ad)).next).ep:=sI
 simp[bv,hne,hlt,cd];have e6:Zl 1 ((Zf step x6 ac af ad).drop 6)=some [x6]:=by simp[Zf]
 simp[e6];generalize(h.qA (h.ep,80) (Zf step x6 ac af ad)).next=HX at*;have b5:∀h',Z0 HX h' []->Zx h' [C.d (D.str T.name),c1,c2] T.enc:=λh' hs=>⟨.data rfl,tv.f1 h' hs,tv.f2 h' hs,trivial⟩;cases hl2:(step.cols.length:Int) !=2 with|true=>?_|false=>?_;simp only[hl2,cond_true] at hm;have e1:=Zh hm;have bq:¬(step.cols.length:Int)=2:=by simpa using hl2
 simp only[Yt] at e1;obtain⟨rfl,rfl⟩:=e1;refine Z4.cu [0,1,2,3,4,5,6,7,8,9,10,11,12,13,14,15,16,17,18,19,20,21,22,23,24,25,26,27,28] (λe h'=>En e 114 [(51,.b true)]/\h'=HX) ?_ ?_;simp;refine WQ bu.1 ?_;simp[hl2,bq];exact Zb.of sI;rintro e h1 ⟨hE,rfl⟩;simp[hE];exact hk _ _ s0.ows (aa.mn) (λk hk=>.inl hk);simp only[hl2,cond_false] at hm;have bq:(step.cols.length:Int)=2:=by simpa using hl2
 have am:step.cols.length=2:=oM;obtain⟨a,-,ha,hm⟩:=hm.get;simp at ha;obtain⟨l6,ah,B6,rfl,cb,ak,r6⟩:=(ar _ (aa.mn)).rY (k:=0) (v:=a) (by simpa using ha);simp at r6;cases ha0:decide (a<0) with|true=>?_|false=>?_;simp only[ha0,cond_true] at hm;have e1:=Zh hm;simp at ha0;simp only[Yt] at e1;obtain⟨rfl,rfl⟩:=e1;refine Z4.cu [0,1,2,3,4,5,6,7,8,9,10,11,12,13,14,15,16,17,18,19,20,21,22,23,24,25,26,27,28] (λe h'=>En e 114 [(51,.b true)]/\h'=HX) ?_ ?_;simp;simp[am,ak,r6,ha0];exact Zb.of sI;rintro e h1 ⟨hE,rfl⟩;simp[hE];exact hk _ _ s0.ows (aa.mn) (λk hk=>.inl hk);simp only[ha0,cond_false] at hm;simp at ha0;have ba:¬a<0:=oM
 obtain⟨b,-,hb,hm⟩:=hm.get;simp at hb;obtain⟨cm,b3,B6',bp,-,a8,au⟩:=(ar _ (aa.mn)).rY (k:=1) (v:=b) (by simpa using hb);simp at bp;obtain⟨rfl,rfl⟩:=bp;rw[ak] at a8;cases a8;simp at au;cases hb0':decide (b<=a) with|true=>?_|false=>?_;simp only[hb0',cond_true] at hm;have e1:=Zh hm;simp at hb0';simp only[Yt] at e1;obtain⟨rfl,rfl⟩:=e1;refine Z4.cu [0,1,2,3,4,5,6,7,8,9,10,11,12,13,14,15,16,17,18,19,20,21,22,23,24,25,26,27,28] (λe h'=>En e 114 [(51,.b true)]/\h'=HX) ?_ ?_;simp;simp[am,ak,r6,au,ba,hb0'];exact Zb.of sI;rintro e h1 ⟨hE,rfl⟩;simp[hE];exact hk _ _ s0.ows (aa.mn) (λk hk=>.inl hk);simp only[hb0',cond_false] at hm;simp at hb0';have a7:¬b<=a:=oM
 cases hc0:decide ((T.cols.length:Int)<=b) with|true=>?_|false=>?_;simp only[hc0,cond_true] at hm;have e1:=Zh hm;simp at hc0;simp only[Yt] at e1;obtain⟨rfl,rfl⟩:=e1;refine Z4.cu [0,1,2,3,4,5,6,7,8,9,10,11,12,13,14,15,16,17,18,19,20,21,22,23,24,25,26,27,28] (λe h'=>En e 114 [(51,.b true)]/\h'=HX) ?_ ?_;simp;simp[am,ak,r6,au,ba,a7,bx,r1];refine WQ tv.n1.1 ?_;simp[hc0];exact Zb.of sI;rintro e h1 ⟨hE,rfl⟩;simp[hE];exact hk _ _ s0.ows (aa.mn) (λk hk=>.inl hk);simp only[hc0,cond_false] at hm;simp at hc0;have cf:¬(T.cols.length:Int)<=b:=oM
 refine Z4.cu [0,1,2,3,4,5,6,7,8,9,10,11,12,13,14,15,16,17,18,19,20,21,22,23,24,25,26,27,28] (λe h'=>En e 114 [(0,.p l),(1,.i (i:Int)),(5,.p (h.ep,80)),(7,.one (.ptr lt (i*3))),(8,.one (.mrow l6 0 step.cols.length ah)),(51,.b false)]/\h'=HX) ?_ ?_;simp;simp[am,ak,r6,au,ba,a7,bx,r1];refine WQ tv.n1.1 ?_;simp[cf];exact Zb.of (by simp[am]);rintro e h1 ⟨hE,rfl⟩;simp[hE];have n6:∀h',Z0 h h' (l::(ta++(fa++oa)))->h'.box l6=some B6/\∀(k:Nat) (v:Int),step.cols[k]?=some v->Zl 1 (B6.drop k)=some [.d (.int .i64 v)]:=λh' hs=>by
  have al:=hd l6 (by simp[cb]);have h2:h'.box l6=some B6:=by rw[hs.2 l6 al.1 al.2,<-aa.2 l6 al.1 sI];exact ak
  refine⟨h2,λk v hk=>?_⟩;obtain⟨l7,ci,B7,e7,-,bm,r7⟩:=(ar h' hs).rY hk;simp at e7;obtain⟨rfl,rfl⟩:=e7;rw[h2] at bm;cases bm;exact r7
 refine Z4.for (xs:=step.cols) (s0:=true) (λk aj E h2=>Ek e E [(52,.one (.mrow l6 0 step.cols.length ah)),(53,.i (step.cols.length:Int)),(54,.i (k:Int)),(9,.b aj)] [0,1,5,7,8]/\h2=h1) hm ⟨by simp[hE],rfl⟩ ?_ ?_;rintro k aj e h2 ⟨hF,rfl⟩ ab hm;have hE:=hF.an hE;obtain⟨c,az,hc,hm⟩:=hm.get;have bi:k<2:=oM
 have hw:IntKind.i64.wrap ((k:Int)+1)=(k:Int)+1:=Y5 _ oM;obtain⟨ay,be⟩:=n6 _ (aa.mn);have q6:=be k _ (Y1 ab);obtain⟨l2,cap2,B2,rfl,bf,-⟩:=tv.e1 _ c hc;have aq:=bf.box;have q1:=bf.rd 1 1 oM;have q2:=bf.rd 2 1 oM;obtain⟨n,b4⟩:∃n:Nat,step.cols[k]=n:=⟨step.cols[k].toNat,oM⟩;have ax:n<T.cols.length:=by
  have:=(Y0.1 hc).1
  omega
 rw[b4] at q6 q1 q2;simp at q1 q2;cases ap:c.kind !=3 with|true=>?_|false=>?_;simp only[ap,cond_true] at hm;obtain⟨rfl,rfl⟩:=ZJ hm;have bg:¬c.kind=3:=by simpa using ap
 simp[hE,ab,ay,q6,bx,r1,ax,aq,q1,ap,bg];exact hk _ _ s0.ows (aa.mn) (λk hk=>.inl hk);simp only[ap,cond_false] at hm;have bg:c.kind=3:=by simpa using ap
 simp[hE,ab,ay,q6,bx,r1,ax,aq,q1,bg];cases aj with|true=>?_|false=>?_;simp[hE,bx,r1,ax,aq,q2,hw];exact Ze.of _ ⟨⟨by simp[hE],rfl⟩,hm⟩;simp[hE,bx,r1,ax,aq,q2,hw];exact Ze.of _ ⟨⟨by simp[hE],rfl⟩,hm⟩;rintro aj e h2 ⟨hF,rfl⟩ hm;have hE:=hF.an hE;simp[hE];refine Z4.for (xs:=step.cols) (s0:=()) (λk _ E h3=>Ek e E [(79,.one (.mrow l6 0 step.cols.length ah)),(80,.i (step.cols.length:Int)),(81,.i (k:Int))] [0,1,5,7,8,9]/\Z0 h2 h3 []) hm ⟨by simp[hE],.refl⟩ ?_ ?_;rintro k _ e h3 ⟨hF,hs3⟩ ab hm;have hE:=hF.an hE;obtain⟨w,b7,hm⟩:=hm.bind;have bi:k<2:=oM
 have hw:IntKind.i64.wrap ((k:Int)+1)=(k:Int)+1:=Y5 _ oM;have hy:=aa.trans hs3;have s3:=s0.frame hs3;have ce:=s3.box;have b6:h3.box lt=some B:=by rw[hs3.2 _ (s0.lt lt (by simp[tv.tm])) sI];exact bx
 obtain⟨ay,be⟩:=n6 _ (hy.mn);have q6:=be k _ (Y1 ab);simp[hE,ab,ay,q6];refine Z4.cu [0,1,2,3,4,5,6,7,8] (λE h4=>Ek e E [(14,.i w)] [0,1,5,7,8,79,80,81,9]/\Z0 h2 h4 []) ?_ ?_;simp[hE,ce,b6,r0];refine Za (Z3.qD (Ln S T _ w b7) ⟨.agg s3.frz,.agg (b5 _ hs3),.one (.frz (.data rfl)),trivial⟩ rfl ?_);simp[hE];exact⟨λ_ _ x=>x,Zb.of ⟨by simp[hE],hs3.next⟩⟩;rintro e h4 ⟨hF,ag⟩;have hE:=hF.an hE;simp[hE];cases hw0:w !=0 with|true=>?_|false=>?_;simp only[hw0,cond_true] at hm;obtain⟨rfl,rfl⟩:=ZJ hm;have bh:¬w=0:=by simpa using hw0
 simp[hE,bh];exact hk _ _ (s0.frame ag).ows ((aa.trans ag).mn) (λk hk=>.inl hk);simp only[hw0,cond_false] at hm;have bh:w=0:=by simpa using hw0
 simp[hE,bh,hw];exact Ze.of _ ⟨⟨by simp[hE],ag⟩,hm⟩;rintro _ e h3 ⟨hF,hs3⟩ hm;have hE:=hF.an hE;obtain⟨S1,b9,hm⟩:=hm.bind;obtain⟨T1,bc,hm⟩:=hm.qG;obtain⟨⟨az,bk⟩,hm⟩:=hm.chk;obtain⟨rfl,rfl⟩:=ZJ hm;have hy:=aa.trans hs3;have s3:=s0.frame hs3;simp[hE];refine Za (Ip _ l _ fc oc _ ta fa oa S S1 i step.cols b9 s3 (λh' b0=>((ar h' ((hy.mn).trans (b0.mono λk hk=>Yc _ hk)))).rT) _ (λh4 bj s4 ag a1=>?_));have cj:i<S1.tables.length:=(Y0.1 bc).1;obtain⟨cq,c14,c24,B4,aw⟩:=s4.tbl bc;obtain⟨ch,e4⟩:=aw.hd;simp at e4;obtain⟨rfl,e5,rfl⟩:=e4;have bb:=aw.el.box;have q1:=aw.el.rd 1 1 oM;have cg:=aw.el.le;simp at q1;have br:h4.box (h.ep,80)=some (Zf step (.mrow l6 0 step.cols.length ah) ac af ad):=by
  rw[ag.2 _ (Y3 bt hs3.1) (λh2=>by have:=s.lt (h.ep,80) (by simp at h2|-;exact .inr h2);simp at this),hs3.2 _ bt sI];exact b8
 simp[hE];refine Z4.cu [0,1,2,3,4,5,6,7,8,9,10,11,12,13] (λe h'=>e.n=114/\∃ta',Sc h' l {S1 with tables:=S1.tables.set i {T1 with cols:=T1.cols++[⟨step.column,3,aj⟩]}} (.mrow lt 0 S.tables.length cap) fc oc ta' fa oa/\Z0 h4 h' bj/\∀k∈ta',k∈bj\/h4.ep<=k.1) ?_ ?_;simp[hE,bb,q1,br,Zf];have hz:Z0 h4 (((h4).qC (h4.ep,16*110) (some (1,3))).next) []:=(Z0.refl).qC.next;simp only[Nat.reduceMul] at hz;obtain⟨c1',c2',ae⟩:=(s4.frame hz).jC (by simpa using bb) bc;obtain rfl:c1'=c14:=by
  have:=ae.el.rd 1 1 oM
  simp[q1] at this;exact this.symm
 have cp:T1.cols.length<2097152:=bk;refine W5 (by simp;exact⟨rfl,rfl⟩) sI sI sI (ae.m1 (by intro h0;simp[h0] at az)) (Zk.qU sI) (by simp<;>omega) (λc' h' bw bd bn=>?_);have bz:h'.box lt=some B4:=by
  rw[bd.2 lt ((s4.frame hz).lt lt (by simp[ae.tm])) λh2=>(ae.l1 lt h2).2 rfl];simpa using bb
 obtain⟨ta',s6,cc⟩:=ae.s1 h' c' (T1.cols++[⟨step.column,3,aj⟩]) (by simpa using bw) bd (λk hk=>(bn k hk).imp_right λh2=>⟨λh3=>by have:=(s4.frame hz).lt k h3;omega,h2.2⟩);simp[hE,bz];refine⟨oM,Zb.of ⟨by simp[hE],ta',s6,?_,λk hk=>?_⟩⟩;exact((hz.mn).trans (bd.mono λk hk=>(ae.l1 k hk).1)).qA (.inl ae.tm);rcases cc k hk with h2|h2;exact .inl h2;rcases bn k h2 with h3|h3;exact .inl (ae.l1 k h3).1;refine .inr ?_;have b1:=h3.1;simp at b1;omega;rintro e h5 ⟨hn,ta',s6,ca,bo⟩;simp[hn];have bl:h.ep<=h4.ep:=Yv hy.1 ag.1;refine hk _ _ s6.ows (((hy.mn).trans (ag.mono λk hk=>Yc _ hk)).trans' ca λk hk=>?_) (Fj (lx:=[]) λk hk=>?_);exact(a1 k hk).imp (λh2=>by simp[h2]) λh2=>Yv hy.1 h2;rcases bo k hk with h2|h2;exact(a1 k h2).imp_right λh3=>Yv hy.1 h3;exact .inr (Yv bl h2)
def Cq(other:Fk)(k0:Fk):Option Bool:=
 Z1 (A5 other k0) λv2=>some v2
instance La(other:Fk)(k0:Fk):Con (Cq other k0) prog 166 [.agg other.enc,.one (.rp [.str k0.table,.sl (k0.cols.map Zd),.str k0.ref])] (λr=>.one (.d (.bool r))):=by unfold Cq;exact go 7 Tryz.func166
def Io(t:Tbl)(k0:ByteArray):Option Bool:=
 some (strEq t.name k0)
instance Lj(t:Tbl)(k0:ByteArray):Con (Io t k0) prog 209 [.agg t.enc,.one (.rp [.str k0])] (λr=>.one (.d (.bool r))):=by unfold Io;exact go 8 Tryz.func209
def Im(fk:Fk)(k0:ByteArray):Option Bool:=
 some (strEq fk.table k0)
instance Li(fk:Fk)(k0:ByteArray):Con (Im fk k0) prog 211 [.agg fk.enc,.one (.rp [.str k0])] (λr=>.one (.d (.bool r))):=by unfold Im;exact go 8 Tryz.func211
def Il(c:Cons)(k0:ByteArray):Option Bool:=
 some (strEq c.table k0)
instance Lh(c:Cons)(k0:ByteArray):Con (Il c k0) prog 213 [.agg c.enc,.one (.rp [.str k0])] (λr=>.one (.d (.bool r))):=by unfold Il;exact go 8 Tryz.func213
def DW(fk:Fk)(k0:ByteArray):Option Bool:=
 bif strEq fk.ref k0 then some (!(strEq fk.table k0)) else some false
instance QG(fk:Fk)(k0:ByteArray):Con (DW fk k0) prog 183 [.agg fk.enc,.one (.rp [.str k0])] (λr=>.one (.d (.bool r))):=by unfold DW;exact go 14 Tryz.func183
def G2(S:Sch)(c:Cons):Option (Sch×Int):=
 Z1 (Ct S.cons c) λk=>if k<0 then some (S,4) else Zp (k+1<=S.cons.length) (some ({S with cons:=S.cons.take k.toNat++S.cons.drop (k.toNat+1)},0))
theorem Qj(h l ls S S' c)(r:Int)(hm:Is (G2 S c) (S',r))(ho:A1 h l S ls)(K)(hk:WV h l ls S' (.i r) K):
  Z3 prog 148 [.p l,.agg (c.enc.map C.d)] h K:=by
 obtain⟨tc,fc,oc,qt,qf,qo,rfl,s⟩:=ho;obtain⟨k,ac,hm⟩:=hm.bind;refine Z3.qN Tryz.func148 rfl kR rfl rfl sI ?_;simp;have aa:Z0 h ((h.qA (h.ep,48) (c.enc.map C.d)).next) []:=(Z0.refl.qA (.inr (Y7 _))).next;simp at aa;have s1:=s.frame aa;have ae:=s1.box;simp at ae;refine Z4.cu [0,4,1,2,3,5,6] (λe h'=>Z0 h h' []/\SchC h' l S tc fc oc qt qf qo/\e.n=25/\e.get 0=.p l/\e.get 5=.i k) ?_ ?_;simp[ae];refine Za (Z3.qD (Qn S.cons c k ac) ⟨.one (.frz s1.o.frz),.agg (Zx.qL (ds:=c.enc)),trivial⟩ rfl ?_);simp;exact⟨λ_ _ x=>x,Zb.of (by simp[aa.next,s1.frame (Z0.refl.next)])⟩;rintro e h' ⟨hs2,s2,hn,h0,h5⟩;have hb2:=s2.box;simp[hn,h5];refine WR (λhlt=>?_) (λhge=>?_);rw[if_pos hlt] at hm;obtain⟨rfl,rfl⟩:=ZJ hm;simp[hn];exact hk _ _ ⟨_,_,_,_,_,_,rfl,s2⟩ (hs2.mn) (λ_ h=>.inl h);rw[if_neg hge] at hm;obtain⟨al,hm⟩:=hm.chk;obtain⟨rfl,rfl⟩:=ZJ hm;obtain⟨i,rfl⟩:∃i:Nat,k=i:=⟨k.toNat,oM⟩;have hw:IntKind.i64.wrap (i+1)=((i+1:Nat):Int):=by exact Y5 _ (by have:=s2.o.mr.2.1;have:=congrArg List.length s2.o.ds;simp at*;omega)
 simp[hn,h0,h5,hb2,hw];have am:qo.length=S.cons.length:=by have:=congrArg List.length s2.o.ds;simpa using this
 refine Za (Qg h' oc (qo.map (·.1)) i (i+1) s2.o.mr oM sO _ (λc' h2 hm2 hs3 ah _ hlab=>?_));have ag:h2.box l=some [tc,fc,oc]:=by rw[hs3 l (λhm=>s2.ne.2.2.1 (by simp[Z5,hm])),hb2]
 simp[hn,ag];have ab:(qo.take i++qo.drop (i+1)).Sublist qo:=Hn oM;have ad:=ES (c':=c') ab hlab;have hp:=s2.o.sub (h2:=h2.qA l [tc,fc,c']) (c':=c') (qs':=qo.take i++qo.drop (i+1)) (λq hq=>ab.subset hq) ?_ s2.nds.2.2 ?_;have ak:Part (h2.qA l [tc,fc,c']) AC c' (qo.take i++qo.drop (i+1)) ((S.cons.take i++S.cons.drop (i+1)).map Cons.enc):=by
  have:=s2.o.ds
  rw[YP,Xs,Xg,<-this];simpa using hp
 have af:Z0 h' (h2.qA l [tc,fc,c']) (l::Z5 oc qo):=by
  refine⟨by simp[ah],λk _ hn=>?_⟩;simp only[Y9,Z5,Y2,not_or] at hn;simp[hn.1,hs3 k hn.2.1]
 have s3:=s2.wM sI ak af (ad.nodup s2.nds.2.2) (λk hk=>.inl (ad.subset hk));refine hk _ _ ⟨_,_,_,_,_,_,rfl,s3⟩ ((hs2.mn).trans (af.mono ?_)) (λk hk=>.inl ?_);intro k hk;simp only[Y9,Y2] at hk|-;exact hk.imp_right λh=>.inr (.inr h);simp only[Y2] at hk|-;exact hk.imp_right λh=>h.imp_right λh=>ad.subset h;have hl2:l∉labs c':=λhm=>s2.ne.2.2.1 (by rw[hlab] at hm;simp[Z5,hm]);refine MR.frame (by simpa[AC] using hm2) (λk hk=>?_)
 have:k≠l:=λhe=>hl2 (he▸hk)
 simp[this];rintro k ac ⟨q,hq,aj⟩
 have:k≠l:=λhe=>s2.ne.2.2.1 (by simp only[Z5,Y2,Yx];exact .inr ⟨q,hq,he▸aj⟩)
 simp[this,hs3 k ac]
def BM(S:Sch)(c:Fk):Option (Sch×Int):=
 Z1 (BK S.fks λo=>Cq o c) λk=>if k<0 then some (S,4) else Zp (k+1<=S.fks.length) (some ({S with fks:=S.fks.take k.toNat++S.fks.drop (k.toNat+1)},0))
theorem Qi(h l ls S S' c cs)(r:Int)(hm:Is (BM S c) (S',r))(ho:A1 h l S ls)(hf:∀h',Z0 h h' []->Zx h' cs c.enc)(K)(hk:WV h l ls S' (.i r) K):
  Z3 prog 149 [.p l,.agg cs] h K:=by
 obtain⟨tc,fc,oc,qt,qf,qo,rfl,s⟩:=ho;obtain⟨k,ac,hm⟩:=hm.bind;obtain⟨a1,a2,a3,rfl⟩:∃a b d,cs=[a,b,d]:=by
  have:=(hf h .refl).get.1
  match cs,this with
  |[a,b,d],_=>exact⟨a,b,d,rfl⟩
 refine Z3.qN Tryz.func149 rfl kR rfl rfl sI ?_;simp;have aa:Z0 h ((h.qA (h.ep,48) [a1,a2,a3]).next) []:=(Z0.refl.qA (.inr (Y7 _))).next;have s1:=s.frame aa;have ae:=s1.box;simp at ae;simp[ae];refine Za (Z3.qD (Ig S.fks 166 [c.enc] (λo=>Cq o c) (λxa v hv=>La xa c v hv) k ac) ⟨.one (.frz s1.f.frz),.one (.fn rfl ?_),trivial⟩ rfl ?_);intro i cp ds hi hd;cases i with
 |zero=>?_
 |succ i=>simp at hi
 simp at hi hd;subst hi hd;exact⟨_,sI,hf _ aa⟩;have hs2:=aa.next;have s2:=s.frame hs2;simp;have hb2:=s2.box;simp at hb2;refine WR (λhlt=>?_) (λhge=>?_);rw[if_pos hlt] at hm;obtain⟨rfl,rfl⟩:=ZJ hm;simp;exact hk _ _ ⟨_,_,_,_,_,_,rfl,s2⟩ (hs2.mn) (λ_ h=>.inl h);rw[if_neg hge] at hm;obtain⟨am,hm⟩:=hm.chk;obtain⟨rfl,rfl⟩:=ZJ hm;obtain⟨i,rfl⟩:∃i:Nat,k=i:=⟨k.toNat,oM⟩;have ap:qf.length=S.fks.length:=by have:=congrArg List.length s2.f.ds;simpa using this
 have af:=s2.f.mr.2.1;have hw:IntKind.i64.wrap (i+1)=((i+1:Nat):Int):=by exact Y5 _ (by simp at af;omega)
 simp[hb2,hw];refine Za (Ld _ fc (qf.map (·.1)) i (i+1) s2.f.mr oM sO _ (λc' h2 hm2 hs3 aj _ hlab=>?_));have ah:h2.box l=some [tc,fc,oc]:=by rw[hs3 l (λhm=>s2.ne.2.1 (by simp[Z5,hm])),s2.box]
 simp[ah];have ab:(qf.take i++qf.drop (i+1)).Sublist qf:=Hn oM;have ad:=ES (c':=c') ab hlab;have hp:=s2.f.sub (h2:=h2.qA l [tc,c',oc]) (c':=c') (qs':=qf.take i++qf.drop (i+1)) (λq hq=>ab.subset hq) ?_ s2.nds.2.1 ?_;have al:Part (h2.qA l [tc,c',oc]) Vb c' (qf.take i++qf.drop (i+1)) ((S.fks.take i++S.fks.drop (i+1)).map Fk.enc):=by
  have:=s2.f.ds
  rw[YP,Xs,Xg,<-this];simpa using hp
 have ag:Z0 ((h.qA (h.ep,48) [a1,a2,a3]).next).next (h2.qA l [tc,c',oc]) (l::Z5 fc qf):=by
  refine⟨by rw[H0,aj];exact Y7 _,λk _ hn=>?_⟩;simp only[Y9,Z5,Y2,not_or] at hn;rw[<-hs3 k hn.2.1];simp[hn.1]
 have s3:=s2.wL sI al ag (ad.nodup s2.nds.2.1) (λk hk=>.inl (ad.subset hk));refine hk _ _ ⟨_,_,_,_,_,_,rfl,s3⟩ ((hs2.mn).trans (ag.mono ?_)) (λk hk=>.inl ?_);intro k hk;simp only[Y9,Y2] at hk|-;exact hk.imp_right λh=>.inr (.inl h);simp only[Y2] at hk|-;exact hk.imp_right λh=>h.imp_left λh=>ad.subset h;have hl2:l∉labs c':=λhm=>s2.ne.2.1 (by rw[hlab] at hm;simp[Z5,hm]);refine MR.frame (by simpa[Vb] using hm2) (λk hk=>?_)
 have:k≠l:=λhe=>hl2 (he▸hk)
 simp[this];rintro k ac ⟨q,hq,ak⟩
 have:k≠l:=λhe=>s2.ne.2.1 (by simp only[Z5,Y2,Yx];exact .inr ⟨q,hq,he▸ak⟩)
 rw[<-hs3 k ac];simp[this]
theorem GN{α:Type}{f:α->Option Bool}{p}(hf:∀x,f x=some (p x)):∀xs i,Zc (λi2 x2 s2 aa=>(Z1 (f x2) λv3=>(bif v3 then(some (i2:Int)) else(aa ())))) (λs2=>(some (-1))) xs i ()=some (match xs.findIdx? p with|some j=>((i+j:Nat):Int)|none=>-1)
 |[],i=>by simp[Zc]
 |x::xs,i=>by
   rw[Zc,hf x,List.findIdx?_cons];show(bif p x then some (i:Int) else _)=_;cases hp:p x with
   |true=>simp
   |false=>?_
   have:=GN hf xs (i+1)
   simp only[cond_false];rw[this];cases hx:xs.findIdx? p with
   |none=>simp
   |some j=>simp only[Yj];rw[show i+1+j=i+(j+1) by omega];rfl
theorem My{p}:∀{qs:List Q},keep p (qs.map (·.1)) (qs.map (·.2.1))=(qs.filter λq=>!p q.2.1).map (·.1)
 |[]=>rfl
 |q::qs=>by simp only[Yb,keep,Xz];rw[My];cases p q.2.1<;>simp
def headIs(s:ByteArray):List D->Bool
 | .str t::_=>strEq t s
 |_=>false
theorem Part.keep{h h2 sh c c' qs ds p}(P:Part h sh c qs ds)(hm:MR h2 sh.length c' (Go.Am.keep p (qs.map (·.1)) ds))(ab:(Z5 c qs).Nodup)(hlt:∀k∈Z5 c qs,k.1<h.ep)(hs:Z0 h h2 (labs c)):Part h2 sh c' (qs.filter λq=>!p q.2.1) (ds.filter λt=>!p t):=by
 have hd:=P.ds;subst hd;rw[My] at hm
 have:=P.sub (c':=c') (qs':=qs.filter λq=>!p q.2.1) (λq hq=>(List.mem_filter.1 hq).1) hm ab (λk hk ⟨q,hq,aa⟩=>hs.2 k (hlt k (by simp only[Z5,Y2,Yx];exact .inr ⟨q,hq,aa⟩)) hk)
 rw[List.filter_map];exact this
theorem Part.elems{h sh c qs ds}(P:Part h sh c qs ds)(ab:(Z5 c qs).Nodup)(hlt:∀k∈Z5 c qs,k.1<h.ep):∀h',Z0 h h' (labs c)->∀(i:Nat) x t,(qs.map (·.1))[i]?=some x->ds[i]?=some t->Zx h' x t:=by
 have hd:=P.ds;subst hd;intro h' hs i x t hx ht;rw[Y8] at hx ht;cases hq:qs[i]? with
 |none=>rw[hq] at hx;simp at hx
 |some q=>?_
 rw[hq] at hx ht;simp only[Yj,Ya] at hx ht;subst hx ht;have aa:=Y4 hq;refine((P.ow q aa).frame λk hk=>hs.2 k (hlt k ?_) ?_).frz;simp only[Z5,Y2,Yx];exact .inr ⟨q,aa,hk⟩;simp only[Z5,Yg] at ab;exact λac=>ab.2.2 k ac k (Yx.2 ⟨q,aa,hk⟩) rfl
theorem Tg(h:HS)(c:C)(qs:List Q)(ts:List Tbl)(nm:ByteArray)(b)(P:Part h Wn c qs (ts.map Tbl.enc))(aa:(Z5 c qs).Nodup)(hlt:∀k∈Z5 c qs,k.1<h.ep)(hb:h.box b=some [.d (.str nm)])(ac:b∉labs c)(ab:b.1<h.ep)(K)
  (hk:∀c' h',Part h' Wn c' (qs.filter λq=>!headIs nm q.2.1) ((ts.filter λt=>!strEq t.name nm).map Tbl.enc)->Z0 h h' (labs c)->labs c'=labs c->K (.one c') h'):
  Z3 prog 208 [.one c,.one (.fn 209 [.lab b])] h K:=by
 have hidx:=GN (p:=λx=>strEq x.name nm) (λx=>rfl) ts 0;refine Qk h c (qs.map λq:Q=>q.1) (ts.map Tbl.enc) 209 [.lab b] [[.str nm]] (headIs nm) _ P.mr (λk hk=>hlt k (by simp[Z5,hk])) (by have:=congrArg List.length P.ds;simpa using this) sI (P.elems aa hlt) ?_ ?_ ?_ (Qw ts 209 [[.str nm]] (λx=>Io x nm) (λxa v hv=>Lj xa nm v hv) _ hidx) ?_ K (λc' h' hm hs hl=>?_);intro h' hs;exact⟨.one (.ptr ((hs.2 b ab ac).trans hb) (Zx.qL (ds:=[.str nm]))),trivial⟩;refine .fn rfl λi cp ds hi hd=>?_;cases i with
 |zero=>?_
 |succ i=>simp at hi
 simp at hi hd;subst hi hd;exact⟨_,hb,Zx.qL (ds:=[.str nm])⟩;intro t ht;obtain⟨x,_,rfl⟩:=Yi.1 ht;exact Lj x nm _ rfl
 .rw[List.findIdx?_map];simp[Function.comp_def,headIs]
  all_goals (cases ts.findIdx? (λx=>strEq x.name nm)<;>rfl)
 refine hk c' h' ?_ hs hl
 have:=P.keep hm aa hlt hs
 rw[List.filter_map] at this;exact this
theorem Z34(h:HS)(c:C)(qs:List Q)(ts:List Fk)(nm:ByteArray)(b)(P:Part h Vb c qs (ts.map Fk.enc))(aa:(Z5 c qs).Nodup)(hlt:∀k∈Z5 c qs,k.1<h.ep)(hb:h.box b=some [.d (.str nm)])(ac:b∉labs c)(ab:b.1<h.ep)(K)
  (hk:∀c' h',Part h' Vb c' (qs.filter λq=>!headIs nm q.2.1) ((ts.filter λt=>!strEq t.table nm).map Fk.enc)->Z0 h h' (labs c)->labs c'=labs c->K (.one c') h'):
  Z3 prog 210 [.one c,.one (.fn 211 [.lab b])] h K:=by
 have hidx:=GN (p:=λx=>strEq x.table nm) (λx=>rfl) ts 0;refine Q6 h c (qs.map λq:Q=>q.1) (ts.map Fk.enc) 211 [.lab b] [[.str nm]] (headIs nm) _ P.mr (λk hk=>hlt k (by simp[Z5,hk])) (by have:=congrArg List.length P.ds;simpa using this) sI (P.elems aa hlt) ?_ ?_ ?_ (Ig ts 211 [[.str nm]] (λx=>Im x nm) (λxa v hv=>Li xa nm v hv) _ hidx) ?_ K (λc' h' hm hs hl=>?_);intro h' hs;exact⟨.one (.ptr ((hs.2 b ab ac).trans hb) (Zx.qL (ds:=[.str nm]))),trivial⟩;refine .fn rfl λi cp ds hi hd=>?_;cases i with
 |zero=>?_
 |succ i=>simp at hi
 simp at hi hd;subst hi hd;exact⟨_,hb,Zx.qL (ds:=[.str nm])⟩;intro t ht;obtain⟨x,_,rfl⟩:=Yi.1 ht;exact Li x nm _ rfl
 .rw[List.findIdx?_map];simp[Function.comp_def,headIs]
  all_goals (cases ts.findIdx? (λx=>strEq x.table nm)<;>rfl)
 refine hk c' h' ?_ hs hl
 have:=P.keep hm aa hlt hs
 rw[List.filter_map] at this;exact this
theorem Z1g(h:HS)(c:C)(qs:List Q)(ts:List Cons)(nm:ByteArray)(b)(P:Part h AC c qs (ts.map Cons.enc))(aa:(Z5 c qs).Nodup)(hlt:∀k∈Z5 c qs,k.1<h.ep)(hb:h.box b=some [.d (.str nm)])(ac:b∉labs c)(ab:b.1<h.ep)(K)
  (hk:∀c' h',Part h' AC c' (qs.filter λq=>!headIs nm q.2.1) ((ts.filter λt=>!strEq t.table nm).map Cons.enc)->Z0 h h' (labs c)->labs c'=labs c->K (.one c') h'):
  Z3 prog 212 [.one c,.one (.fn 213 [.lab b])] h K:=by
 have hidx:=GN (p:=λx=>strEq x.table nm) (λx=>rfl) ts 0;refine Q7 h c (qs.map λq:Q=>q.1) (ts.map Cons.enc) 213 [.lab b] [[.str nm]] (headIs nm) _ P.mr (λk hk=>hlt k (by simp[Z5,hk])) (by have:=congrArg List.length P.ds;simpa using this) sI (P.elems aa hlt) ?_ ?_ ?_ (Qa ts 213 [[.str nm]] (λx=>Il x nm) (λxa v hv=>Lh xa nm v hv) _ hidx) ?_ K (λc' h' hm hs hl=>?_);intro h' hs;exact⟨.one (.ptr ((hs.2 b ab ac).trans hb) (Zx.qL (ds:=[.str nm]))),trivial⟩;refine .fn rfl λi cp ds hi hd=>?_;cases i with
 |zero=>?_
 |succ i=>simp at hi
 simp at hi hd;subst hi hd;exact⟨_,hb,Zx.qL (ds:=[.str nm])⟩;intro t ht;obtain⟨x,_,rfl⟩:=Yi.1 ht;exact Lh x nm _ rfl
 .rw[List.findIdx?_map];simp[Function.comp_def,headIs]
  all_goals (cases ts.findIdx? (λx=>strEq x.table nm)<;>rfl)
 refine hk c' h' ?_ hs hl
 have:=P.keep hm aa hlt hs
 rw[List.filter_map] at this;exact this
def Iu(S:Sch)(nm:ByteArray):Sch:=⟨S.tables.filter λt=>!strEq t.name nm,S.fks.filter λt=>!strEq t.table nm,S.cons.filter λt=>!strEq t.table nm⟩
theorem K8{c c' qs p}(hc:labs c'=labs c):(Z5 c' (qs.filter p)).Sublist (Z5 c qs):=ES (List.filter_sublist) hc
theorem Part.qA{h sh c qs ds l cs}(p:Part h sh c qs ds)(hl:l∉Z5 c qs):Part (h.qA l cs) sh c qs ds:=
 p.frame λk hk=>by
  have:k≠l:=λhe=>hl (he▸hk)
  simp[this]
theorem Z0.hdr{h h' l c qs cs}(hs:Z0 h h' (labs c)):Z0 h (h'.qA l cs) (l::Z5 c qs):=
 (hs.mono (λk hk=>by simp[Z5,hk])).qA (.inl sI)
theorem Lm(h:HS)(l)(ls)(S)(nm)(ho:A1 h l S ls)(K)(hk:WV h l ls (Iu S nm) (.tup []) K):
  Z3 prog 182 [.p l,.s nm] h K:=by
 obtain⟨tc,fc,oc,qt,qf,qo,rfl,s⟩:=ho;refine Z3.qN Tryz.func182 rfl kR rfl rfl sI ?_;simp;have ac:Z0 h ((h.qA (h.ep,48) [.d (.str nm)]).next) []:=(Z0.refl.qA (.inr (Y7 _))).next;have s1:=s.frame ac;have al:=s1.box;simp at al;have aa:∀k∈l::(Z5 tc qt++(Z5 fc qf++Z5 oc qo)),k≠(h.ep,48):=λk hk he=>by
  have:=s.lt k hk
  rw[he] at this;simp at this
 simp only[Y9,Y2,Z5] at aa;have ae:=s1.lt;simp only[Y9,Y2] at ae;simp[al];refine Za (Tg _ tc qt S.tables nm (h.ep,48) s1.t s1.nds.1 (λk hk=>ae k (.inr (.inl hk))) sI (λhm=>aa _ (.inr (.inl (.inl hm))) rfl) sI _ (λab h2 P2 hs2 hl2=>?_));have aq:h2.box l=some [tc,fc,oc]:=by rw[hs2.2 l (ae l (.inl rfl)) (λhm=>s1.ne.1 (by simp[Z5,hm])),s1.box]
 simp[aq];have t1:=K8 (p:=λq=>!headIs nm q.2.1) (qs:=qt) hl2;have s2:=s1.wV (h':=h2.qA l [ab,fc,oc]) sI (P2.qA λhm=>s1.ne.1 (t1.subset hm)) hs2.hdr (t1.nodup s1.nds.1) (λk hk=>.inl (t1.subset hk));have ag:=s2.lt;simp only[Y9,Y2] at ag;have aj:(h2.qA l [ab,fc,oc]).box (h.ep,48)=some [.d (.str nm)]:=by
  have h3:(h.ep,48)≠l:=λhe=>aa l (.inl rfl) he.symm;have h4:=hs2.2 (h.ep,48) sI (λhm=>aa _ (.inr (.inl (.inl hm))) rfl);simp[h3,h4]
 have ad:h.ep<(h2.qA l [ab,fc,oc]).ep:=by
  have:=hs2.1
  simp at this|-;omega
 refine Za (Z34 _ fc qf S.fks nm (h.ep,48) s2.f s2.nds.2.1 (λk hk=>ag k (.inr (.inr (.inl hk)))) aj (λhm=>aa _ (.inr (.inr (.inl (.inl hm)))) rfl) ad _ (λah h3 P3 hs3 hl3=>?_));have ap:h3.box l=some [ab,fc,oc]:=by rw[hs3.2 l (ag l (.inl rfl)) (λhm=>s2.ne.2.1 (by simp[Z5,hm])),s2.box]
 simp[ap];have t2:=K8 (p:=λq=>!headIs nm q.2.1) (qs:=qf) hl3;have s3:=s2.wL (h':=h3.qA l [ab,ah,oc]) sI (P3.qA λhm=>s2.ne.2.1 (t2.subset hm)) hs3.hdr (t2.nodup s2.nds.2.1) (λk hk=>.inl (t2.subset hk));have af:=s3.lt;simp only[Y9,Y2] at af;have am:(h3.qA l [ab,ah,oc]).box (h.ep,48)=some [.d (.str nm)]:=by
  have h4:(h.ep,48)≠l:=λhe=>aa l (.inl rfl) he.symm;have h5:=hs3.2 (h.ep,48) ad (λhm=>aa _ (.inr (.inr (.inl (.inl hm)))) rfl);rw[aj] at h5;simp[h4,h5]
 have ak:=Y3 ad (by simpa using hs3.1);refine Za (Z1g _ oc qo S.cons nm (h.ep,48) s3.o s3.nds.2.2 (λk hk=>af k (.inr (.inr (.inr hk)))) am (λhm=>aa _ (.inr (.inr (.inr (.inl hm)))) rfl) ak _ (λar h4 P4 hs4 hl4=>?_));have au:h4.box l=some [ab,ah,oc]:=by rw[hs4.2 l (af l (.inl rfl)) (λhm=>s3.ne.2.2.1 (by simp[Z5,hm])),s3.box]
 simp[au];have t3:=K8 (p:=λq=>!headIs nm q.2.1) (qs:=qo) hl4;have s4:=s3.wM (h':=h4.qA l [ab,ah,ar]) sI (P4.qA λhm=>s3.ne.2.2.1 (t3.subset hm)) hs4.hdr (t3.nodup s3.nds.2.2) (λk hk=>.inl (t3.subset hk));refine hk _ _ ⟨_,_,_,_,_,_,rfl,s4⟩ ?_ ?_;refine(((ac.mn).trans ((hs2.hdr (qs:=qt)).mono ?_)).trans ((hs3.hdr (qs:=qf)).mono ?_)).trans ((hs4.hdr (qs:=qo)).mono ?_);intro k hk;simp only[Y9,Y2] at hk|-;exact hk.imp_right .inl;intro k hk;simp only[Y9,Y2] at hk|-;exact hk.imp_right λh=>.inr (.inl h);intro k hk;simp only[Y9,Y2] at hk|-;exact hk.imp_right λh=>.inr (.inr h);intro k hk;simp only[Y2] at hk|-;exact .inl (hk.imp (λh=>t1.subset h) λh=>h.imp (λh=>t2.subset h) λh=>t3.subset h)
theorem WV.after{h h1 l ls S' v K}(s:Z0 h h1 [])(hk:WV h l ls S' v K):WV h1 l ls S' v K:=
 λh' ls' ho hs hl=>hk h' ls' ho ((s.mn).trans hs) λk aa=>(hl k aa).imp_right λhe=>Yv s.1 he
theorem A1.frame{h h' l S ls}(o:A1 h l S ls)(s:Z0 h h' []):A1 h' l S ls:=by obtain⟨tc,fc,oc,qt,qf,qo,rfl,c⟩:=o;exact⟨tc,fc,oc,qt,qf,qo,rfl,c.frame s⟩
def Gk(S:Sch)(nm:ByteArray):Option (Sch×Int):=
 Z1 (A2 S.fks λo=>DW o nm) λb=>if b=true then some (S,10) else some (Iu S nm,0)
theorem QZ(h l ls S S')(nm:ByteArray)(r:Int)(hm:Is (Gk S nm) (S',r))(ho:A1 h l S ls)(K)(hk:WV h l ls S' (.i r) K):
  Z3 prog 156 [.p l,.s nm] h K:=by
 obtain⟨b,hb,hm⟩:=hm.bind;have aa:Z0 h ((h.qA (h.ep,48) [.d (.str nm)]).next) []:=(Z0.refl.qA (.inr (Y7 _))).next;have ae:=ho.frame aa;have ad:=ae;obtain⟨tc,fc,oc,qt,qf,qo,_,s1⟩:=ad;refine Z3.qN Tryz.func156 rfl kR rfl rfl sI ?_;have ab:=s1.box;simp at ab;simp[ab];refine Za (Z3.qD (Ia S.fks 183 [[.str nm]] (λo=>DW o nm) (λxa v hv=>QG xa nm v hv) b hb) ⟨.one (.frz s1.f.frz),.one (.fn rfl ?_),trivial⟩ rfl ?_);intro i cp ds hi hd;cases i with
 |zero=>?_
 |succ i=>simp at hi
 simp at hi hd;subst hi hd;exact⟨_,sI,Zx.qL⟩;have hs2:=aa.next;have ac:=ho.frame hs2;simp;cases b with|true=>?_|false=>?_;obtain⟨rfl,rfl⟩:=ZJ hm;simp;exact(hk.after hs2) _ _ ac .refl (λ_ h=>.inl h);obtain⟨rfl,rfl⟩:=ZJ hm;simp;refine Za (Lm _ l ls S nm ac _ ?_);intro h3 af ah hs3 ag;simp;exact(hk.after hs2) h3 af ah hs3 ag
def Lg(a:Tbl)(b:Tbl):Option Int:=
 Z1 (CP a.name b.name) λv3=>some v3
instance Qr(a:Tbl)(b:Tbl):Con (Lg a b) prog 204 [.agg a.enc,.agg b.enc] (λr=>.one (.d (.int .i64 r))):=by unfold Lg;exact go 10 Tryz.func204
def UI(a b:Tbl):Bool:=decide (Cj a.name b.name<0)
def DE:List D->List D->Int
 | .str x::_,.str y::_=>Cj x y
 |_,_=>0
theorem Sc.xF{h:HS}{l:Z2}{S:Sch}{tc fc oc:C}{ta fa oa:List Z2}(s:Sc h l S tc fc oc ta fa oa):∃qs:List (List C×List D),MR h 3 tc (qs.map (·.1))/\qs.length=S.tables.length/\(∀k∈labs tc,k∈ta)/\(∀h',Z0 h h' (labs tc)->∀q∈qs,Zx h' q.1 q.2)/\(∀q∈qs,∃T∈S.tables,q.2=T.enc)/\
  ∀h',MR h' 3 tc ((Dw DE qs).map (·.1))->Z0 h h' (labs tc)->∃ta',Sc h' l {S with tables:=WG UI (S.tables.length-1) 1 S.tables} tc fc oc ta' fa oa/\∀k∈ta',k∈ta:=by
 obtain⟨qt,qf,qo,rfl,rfl,rfl,s⟩:=s;have hlen:qt.length=S.tables.length:=by have:=congrArg List.length s.t.ds;simpa using this
 have hlt:∀k∈Z5 tc qt,k.1<h.ep:=λk hk=>s.lt k (by simp[hk]);have ae:=s.nds.1;refine⟨qt.map λq=>(q.1,q.2.1),?_,by simpa using hlen,λk hk=>by simp[Z5,hk],λh' hs q hq=>?_,λq hq=>?_,λh' hm hs=>?_⟩
 have:=s.t.mr
 simpa[Wn,Function.comp_def] using this;obtain⟨q',ab,rfl⟩:=Yi.1 hq;obtain⟨i,hi⟩:=YR ab;exact((s.t.ow q' ab).frame λk hk=>hs.2 k (hlt k (VY hi hk)) (Ak ae hi hk)).frz;obtain⟨q',ab,rfl⟩:=Yi.1 hq
 have:q'.2.1∈S.tables.map Tbl.enc:=by rw[<-s.t.ds];exact Yi.2 ⟨q',ab,rfl⟩
 obtain⟨T,hT,he⟩:=Yi.1 this;exact⟨T,hT,he.symm⟩
 let ltq:Q->Q->Bool:=λp q=>UD DE (p.1,p.2.1) (q.1,q.2.1)
 have e1:Dw DE (qt.map λq=>(q.1,q.2.1))=(WG ltq (qt.length-1) 1 qt).map λq=>(q.1,q.2.1):=by
  unfold Dw;rw[Yh];exact GM (f:=λq:Q=>(q.1,q.2.1)) (λx y=>rfl) _ _ _
 have e2:(WG ltq (qt.length-1) 1 qt).map (λq:Q=>q.2.1)=(WG UI (S.tables.length-1) 1 S.tables).map Tbl.enc:=by
  have h1:=GM (lt:=ltq) (lt':=λa b=>decide (DE a b<0)) (f:=λq:Q=>q.2.1) (λx y=>rfl) (qt.length-1) 1 qt;have h2:=GM (lt:=UI) (lt':=λa b=>decide (DE a b<0)) (f:=Tbl.enc) (λx y=>rfl) (S.tables.length-1) 1 S.tables;rw[<-h1,<-h2,hlen]
  congr 1
  exact s.t.ds
 have aa:=IX ltq (qt.length-1) 1 qt;have ac:(Z5 tc (WG ltq (qt.length-1) 1 qt)).Perm (Z5 tc qt):=(List.Perm.refl _).append (aa.flatMap_right _);have ad:∀q∈qt,∀k∈q.2.2,h'.box k=h.box k:=λq hq k hk=>by obtain⟨i,hi⟩:=YR hq;exact hs.2 k (hlt k (VY hi hk)) (Ak ae hi hk)
 have hp:Part h' Wn tc (WG ltq (qt.length-1) 1 qt) ((WG UI (S.tables.length-1) 1 S.tables).map Tbl.enc):=by
  refine⟨?_,e2,λq hq=>(s.t.ow q (aa.subset hq)).frame (ad q (aa.subset hq))⟩;rw[e1] at hm;simpa[Wn,Function.comp_def] using hm
 have hl:h'.box l=h.box l:=hs.2 l (s.lt l sI) λhk=>s.ne.1 (by simp[Z5,hk]);exact⟨_,⟨_,qf,qo,rfl,rfl,rfl,s.wV (by rw[hl];exact s.box) hp (hs.mono λk hk=>by simp[Z5,hk]) (ac.nodup_iff.2 ae) λk hk=>.inl (ac.subset hk)⟩,λk hk=>ac.subset hk⟩
def BP(S:Sch)(T:Tbl):Option Sch:=Zp (S.tables.length<19) (some {S with tables:=WG UI S.tables.length 1 (S.tables++[T])})
theorem Gc(h:HS)(l:Z2)(tc fc oc:C)(ta fa oa lt:List Z2)(S S':Sch)(T:Tbl)(xs:List C)(hm:Is (BP S T) S')(s:Sc h l S tc fc oc ta fa oa)(hT:Ow h Wn xs T.enc lt)(hd:lt.Nodup/\(∀k∈lt,k.1<h.ep/\k∉l::(ta++(fa++oa))))(K:V->HS->Prop)
  (hk:∀h' aa ta',Sc h' l S' aa fc oc ta' fa oa->Z0 h h' (l::ta)->(∀k∈ta',k∈ta\/k∈lt\/h.ep<=k.1)->K (.tup []) h'):
  Z3 prog 168 [.p l,.agg xs] h K:=by
 obtain⟨hlen,hm⟩:=hm.chk;obtain rfl:=Zh hm;obtain⟨x0,x1,x2,rfl⟩:∃a b c,xs=[a,b,c]:=by
  have:=hT.len.1
  match xs,this with
  |[a,b,c],_=>exact⟨a,b,c,rfl⟩
 refine Z3.ov Tryz.func168 ?_;simp;have ab:Z0 h ((h.qA (h.ep,48) [x0,x1,x2]).next) []:=(Z0.refl.qA (.inr (Y7 _))).next;have s1:=s.frame ab;have aj:=s1.box;simp at aj;refine Z4.cu [0,1,2,3,4,5,6,7,8,9,10] (λe h'=>∃aa ta',Sc h' l {S with tables:=S.tables++[T]} aa fc oc ta' fa oa/\e.n=19/\e.get 0=.p l/\Z0 h h' (l::ta)/\(∀k∈ta',k∈ta\/k∈lt\/h.ep<=k.1)/\∀k∈labs aa,k∈ta\/h.ep<=k.1) ?_ ?_;simp[aj];have ar:=hT.len.1;refine Cc (x:=[x0,x1,x2]) (by simp[Zt];cases x0.toD<;>cases x1.toD<;>cases x2.toD<;>rfl) sI (λd ag=>?_) (λag=>?_);obtain⟨rfl,al⟩:=hT.ofD ag;have hs2:Z0 h (((h.qA (h.ep,48) [x0,x1,x2]).next.qC ((h.qA (h.ep,48) [x0,x1,x2]).next.ep,16*10) (some (1,3))).next) []:=ab.qC.next;have s2:=s.frame hs2;obtain⟨ys,mx,hl2,add⟩:=s2.wE;simp;simp only[H0,OP] at mx add hs2 s2;refine W5 (by simp;exact⟨rfl,rfl⟩) sI sI sI mx (Zk.qU sI) (by simp[hl2];omega) (λc' h' ae hs3 ac=>?_);have af:=s2.keep hs3 λk hk=>.inl (s.qJ.1 k hk);simp[af];obtain⟨ta',s3,ad⟩:=add h' c' _ T.enc [] ae hs3 ac (al h') XJ sI T rfl;refine Zb.of ⟨c',ta',s3,sI,sI,(((hs2.mn).trans (hs3.mono λk hk=>by simp[s.qJ.1 k hk])).qA (.inl sI)),λk hk=>?_,λk hk=>(ac k hk).imp (s.qJ.1 k) λh2=>by have:=h2.1;simp at this;omega⟩;rcases ad k hk with h1|h1|h1;exact .inl h1;simp at h1;exact .inr (.inr (by first|omega|(simp at h1;omega)));have hs2:Z0 h (((h.qA (h.ep,48) [x0,x1,x2]).next.qA ((h.qA (h.ep,48) [x0,x1,x2]).next.ep,16*10) [x0,x1,x2]).next) []:=(ab.qA (.inr sI)).next;have s2:=s.frame hs2;obtain⟨ys,mx,hl2,add⟩:=s2.wE;simp;simp only[H0,OP] at mx add hs2 s2;refine W5 (by simp;exact⟨rfl,rfl⟩) sI sI sI mx (Zk.jY (x:=[x0,x1,x2]) sI sI) (by simp[hl2];omega) (λc' h' ae hs3 ac=>?_);have af:=s2.keep hs3 λk hk=>.inl (s.qJ.1 k hk)
 simp[af];have ap:Ow h' Wn [x0,x1,x2] T.enc lt:=hT.frame λk hk=>by
  have h1:=hd.2 k hk;simp only[Y9,Y2,not_or] at h1;rw[hs3.2 k sO λh2=>h1.2.2.1 (s.qJ.1 k h2)];exact hs2.2 k h1.1 sI
 obtain⟨ta',s3,ad⟩:=add h' c' _ T.enc lt ae hs3 ac ap hd.1 (λk hk=>by
  have h1:=hd.2 k hk;have h4:=hs3.1;simp at h4;refine⟨oM,h1.2,λh2=>?_⟩;simp only[Y9,Y2,not_or] at h1;rcases ac k h2 with h3|h3;exact h1.2.2.1 (s.qJ.1 k h3);simp at h3;omega) T rfl
 refine Zb.of ⟨c',ta',s3,sI,sI,(((hs2.mn).trans (hs3.mono λk hk=>by simp[s.qJ.1 k hk])).qA (.inl sI)),λk hk=>?_,λk hk=>(ac k hk).imp (s.qJ.1 k) λh2=>by have:=h2.1;simp at this;omega⟩;rcases ad k hk with h1|h1|h1;exact .inl h1;exact .inr (.inl h1);exact .inr (.inr (by first|omega|(simp at h1;omega)));rintro e h1 ⟨aa,ta',s2,hn,h0,hs2,ad,ak⟩;have hb2:=s2.box;simp[hn,h0,hb2];obtain⟨qs,q1,q2,q3,q4,q5,q6⟩:=s2.xF;simp only[Ye,XM,Nat.add_sub_cancel] at q2 q6;refine Za (QM h1 aa qs 204 [] [] DE q1 (λk hk=>s2.lt k (by simp[q3 k hk])) oM q4 (λh' hs=>trivial) (λq hq q' aq=>?_) _ (λh' ae hs3=>?_));obtain⟨A,_,e1⟩:=q5 q hq;obtain⟨B,_,e2⟩:=q5 q' aq;rw[e1,e2];exact Qr A B _ rfl;obtain⟨am,s3,ah⟩:=q6 h' ae hs3;simp;refine hk h' aa am s3 (hs2.trans' hs3 λk hk=>?_) λk hk=>ad k (ah k hk);exact(ak k hk).imp_left λh1=>by simp[h1]
def Ga(S:Sch)(T:Tbl):Option (Sch×Int):=
 Z1 (ZY S T.name) λr=>bif r.2 then some (S,5) else Z1 (BP S T) λS'=>some (S',0)
theorem QE(h:HS)(l:Z2)(tc fc oc:C)(ta fa oa lt:List Z2)(S S':Sch)(T:Tbl)(r:Int)(xs:List C)(hm:Is (Ga S T) (S',r))(s:Sc h l S tc fc oc ta fa oa)(hT:Ow h Wn xs T.enc lt)(hd:lt.Nodup/\(∀k∈lt,k.1<h.ep/\k∉l::(ta++(fa++oa))))(K:V->HS->Prop)
  (hk:WV h l (ta++(fa++oa)++lt) S' (.i r) K):
  Z3 prog 150 [.p l,.agg xs] h K:=by
 refine Z3.jE Tryz.func150 rfl kR λhg=>?_;obtain⟨x0,x1,x2,rfl⟩:∃a b c,xs=[a,b,c]:=by
  have:=hT.len.1
  match xs,this with
  |[a,b,c],_=>exact⟨a,b,c,rfl⟩
 obtain rfl:x0=.d (.str T.name):=hT.frz.1.flat rfl;obtain⟨v,hv,hm⟩:=hm.bind;refine Z3.ov Tryz.func150 ?_;simp;have ab:Z0 h ((h.qA (h.ep,48) [.d (.str T.name),x1,x2]).next) []:=(Z0.refl.qA (.inr (Y7 _))).next;have s1:=s.frame ab;have ac:=s1.box;simp at ac;refine Z4.cu [0,3,4,1,2,5,6,7,8,9,10] (λe h'=>Z0 h h' []/\e.n=20/\e.get 0=.p l/\e.get 3=.p (h.ep,48)/\e.get 6=.b v.2/\h'.box (h.ep,48)=some [.d (.str T.name),x1,x2]) ?_ ?_;simp[ac];refine Za (Z3.qD (UO S T.name v hv) ⟨.agg s1.frz,.one (.frz (.data rfl)),trivial⟩ rfl ?_);simp;exact⟨λ_ _ x=>x,Zb.of (by simp[ab.next])⟩;rintro e h1 ⟨aa,hn,h0,h3,h6,ae⟩;simp[hn,h0,h3,h6];cases hv2:v.2 with|true=>?_|false=>?_;rw[hv2] at hm;obtain⟨rfl,rfl⟩:=ZJ hm;simp[hn];exact hk _ _ (s.frame aa).ows (aa.mn) (λk hk=>.inl (by simp at hk|-;rcases hk with hk|hk|hk<;>simp[hk]));rw[hv2] at hm;simp only[cond_false] at hm;obtain⟨S2,hm2,hm⟩:=hm.bind;obtain⟨rfl,rfl⟩:=ZJ hm;simp[hn,h0,h3,ae];refine Za (Gc h1 l tc fc oc ta fa oa lt S S2 T _ hm2 (s.frame aa) (hT.frame λk hk=>aa.2 k (hd.2 k hk).1 sI) ⟨hd.1,λk hk=>⟨Y3 (hd.2 k hk).1 aa.1,(hd.2 k hk).2⟩⟩ _ (λh2 af ta' s2 hs2 ad=>?_));simp[hn];refine hk _ _ s2.ows ((aa.mn).trans (hs2.mono λk hk=>by simp at hk|-;rcases hk with hk|hk<;>simp[hk])) (λk hk=>?_);simp only[Y2] at hk|-;rcases hk with hk|hk|hk;rcases ad k hk with h1|h1|h1;exact .inl (by simp[h1]);exact .inl (by simp[h1]);exact .inr (Yv aa.1 h1);exact .inl (by simp[hk]);exact .inl (by simp[hk])
theorem Sc.wY{h:HS}{l:Z2}{S:Sch}{tc fc oc:C}{ta fa oa:List Z2}(s:Sc h l S tc fc oc ta fa oa){i:Nat}{T:Tbl}(hi:S.tables[i]?=some T):
  ∃(xs:List (List C)) (c1 c2:C) (lx:List Z2) (lr:Z2) (cap:Nat) (B:List C),MR h 3 tc xs/\xs.length=S.tables.length/\tc=.mrow lr 0 S.tables.length cap/\Elem h lr i 3 [.d (.str T.name),c1,c2] B/\Ow h Wn [.d (.str T.name),c1,c2] T.enc lx/\lx.Nodup/\(∀k∈lx,k∈ta/\k∉labs tc)/\
    ∀h' c',MR h' 3 c' (xs.take i++xs.drop (i+1))->Z0 h h' (labs tc)->labs c'=labs tc->
      ∃ta',Sc (h'.qA l [c',fc,oc]) l {S with tables:=S.tables.take i++S.tables.drop (i+1)} c' fc oc ta' fa oa/\(∀k∈ta',k∈ta)/\∀k∈lx,k∉ta':=by
 obtain⟨qt,qf,qo,rfl,rfl,rfl,s⟩:=s;have hlen:qt.length=S.tables.length:=by have:=congrArg List.length s.t.ds;simpa using this
 have hlt:∀k∈Z5 tc qt,k.1<h.ep:=λk hk=>s.lt k (by simp[hk]);have ab:=s.nds.1;obtain⟨q,lr,cap,sp,h1,h2,h3,h4,h5,h6⟩:=s.t.elem (Uq (f:=Tbl.enc) hi);obtain⟨qc,qd,ql⟩:=q;simp only at h2 h3 h6;subst h2;obtain⟨c0,x0,cs,ds,rfl,e1,e2,h7⟩:=h3.jJ;simp only[Tbl.enc,List.cons.injEq] at e1;obtain⟨rfl,rfl⟩:=e1;obtain rfl:=(Frz.data (h:=h) e2).flat rfl;obtain⟨c1,c2,rfl⟩:∃c1 c2,cs=[c1,c2]:=by
  have:=h7.len.1
  match cs,this with
  |[a,b],_=>exact⟨a,b,rfl⟩
 refine⟨qt.map (λq:Q=>q.1),c1,c2,ql,lr,cap,_,s.t.mr,by simpa using hlen,by simpa using h4,h6,h3,JR ab h1,λk hk=>⟨VY h1 hk,Ak ab h1 hk⟩,λh' c' hm hs ae=>?_⟩;have ad:(qt.take i++qt.drop (i+1)).Sublist qt:=Hn oM;have af:=ES (c:=tc) (c':=c') ad ae;have ag:∀k∈Z5 tc qt,k≠l:=λk hk he=>s.ne.1 (he▸hk);have hp:=s.t.sub (h2:=h'.qA l [c',fc,oc]) (c':=c') (qs':=qt.take i++qt.drop (i+1)) (λq hq=>ad.subset hq) ?_ ab ?_;have al:Part (h'.qA l [c',fc,oc]) Wn c' (qt.take i++qt.drop (i+1)) ((S.tables.take i++S.tables.drop (i+1)).map Tbl.enc):=by
  have:=s.t.ds
  rw[YP,Xs,Xg,<-this];simpa using hp
 refine⟨_,⟨_,qf,qo,rfl,rfl,rfl,s.wV sI al ((hs.mono λk hk=>by simp[Z5,hk]).qA (.inl sI)) (af.nodup ab) (λk hk=>.inl (af.subset hk))⟩,λk hk=>af.subset hk,λk hk aa=>?_⟩;simp only[Z5,Y2,Yx] at aa;rcases aa with aa|⟨q2,ac,aa⟩;exact Ak ab h1 hk (ae▸aa)
 have:∃j,j≠i/\qt[j]?=some q2:=by
  rcases ac with ac|ac;obtain⟨j,hj⟩:=YR ac;have ak:j<i:=by
   have:=(Y0.1 hj).1
   simp at this;omega
  exact⟨j,oM,by rw[XE ak] at hj;exact hj⟩;obtain⟨j,hj⟩:=YR ac;rw[YJ] at hj;exact⟨i+1+j,oM,hj⟩
 obtain⟨j,hj,hq⟩:=this;exact(EF ab h1 hq hj aa).2 hk
 have:MR h' Wn.length c' ((qt.take i++qt.drop (i+1)).map (·.1)):=by simpa[Wn] using hm
 refine this.frame λk hk=>?_
 have:k≠l:=ag k (by rw[ae] at hk;simp[Z5,hk])
 simp[this];rintro k aj ⟨q,hq,aa⟩;have ah:k∈Z5 tc qt:=by simp only[Z5,Y2,Yx];exact .inr ⟨q,hq,aa⟩
 simp[ag k ah,hs.2 k (hlt k ah) aj]
def G8(S:Sch)(i:Nat)(name:ByteArray):Option (Sch×Int):=
 Z1 (ZY S name) λr=>bif r.2 then some (S,5) else
 Z7 S.tables (i:Int) λT=>
 Z1 (BP {S with tables:=S.tables.take i++S.tables.drop (i+1)} {T with name:=name}) λS1=>
 WI (λk (S:Sch) next=>Z7 S.fks (k:Int) λf=>
   bif strEq f.table T.name then(bif strEq f.ref T.name then next {S with fks:=S.fks.set k ⟨name,f.cols,name⟩} else next {S with fks:=S.fks.set k ⟨name,f.cols,f.ref⟩})
   else(bif strEq f.ref T.name then next {S with fks:=S.fks.set k ⟨f.table,f.cols,name⟩} else next S))
  (λS=>WI (λk (S:Sch) next=>Z7 S.cons (k:Int) λc=>bif strEq c.table T.name then next {S with cons:=S.cons.set k {c with table:=name}} else next S) (λS=>some (S,0)) S.cons.length 0 S) S1.fks.length 0 S1
theorem QC(h:HS)(l:Z2)(tc fc oc:C)(ta fa oa:List Z2)(S S':Sch)(i:Nat)(name:ByteArray)(r:Int)(hm:Is (G8 S i name) (S',r))(s:Sc h l S tc fc oc ta fa oa)(K:V->HS->Prop)
  (hk:WV h l (ta++(fa++oa)) S' (.i r) K):
  Z3 prog 151 [.p l,.i (i:Int),.s name] h K:=by
 refine Z3.jE Tryz.func151 rfl kR λhg=>?_;obtain⟨v,hv,hm⟩:=hm.bind;have hb:=s.box;refine Z3.ov Tryz.func151 ?_;have hne:=Zm (s.lt l sI);simp[hb];refine Za (Z3.qD (UO S name v hv) ⟨.agg s.frz,.one (.frz (.data rfl)),trivial⟩ rfl ?_);simp;have ak:Z0 h h.next []:=Z0.refl.next;cases hv2:v.2 with|true=>?_|false=>?_;rw[hv2] at hm;obtain⟨rfl,rfl⟩:=ZJ hm;simp;exact hk _ _ (s.frame ak).ows (ak.mn) (λk hk=>.inl hk);rw[hv2] at hm;simp only[cond_false] at hm;obtain⟨T,hi,hm⟩:=hm.qG;obtain⟨S1,bt,hm⟩:=hm.bind;obtain⟨xs,c1,c2,lx,lr,cap,B,d1,d2,rfl,d4,d5,d6,d7,d8⟩:=(s.frame ak).wY hi;have hlt:i<S.tables.length:=(Y0.1 hi).1;have d9:=d4.rd0 3 oM;have d10:h.box lr=some B:=d4.box;have b4:=s.len.1.2;simp only[U4] at b4;have hw:IntKind.i64.wrap ((i:Int)+1)=((i+1:Nat):Int):=by exact Y5 _ oM
 have bf:=Zm (s.lt lr (by simp[s.qJ.1 lr (by simp[labs])]));simp(maxDischargeDepth:=12) [hb,hlt,d9,d10,hw,hne,bf,BF];have hs2:Z0 h ((h.next.qA (h.ep+1,144) [C.d (D.str T.name),c1,c2]).next) []:=(ak.qA (.inr sI)).next;have s2:=s.frame hs2;have bb:=s.nl;have bl:lr≠l:=λhe=>bb.1 (s.qJ.1 l (by simp[labs,he]));refine Za (Lo _ (.mrow lr 0 S.tables.length cap) xs i (i+1) (d1.frame λk hk=>?_) oM oM _ (λc' h2 hm2 hs3 be b5 hlab=>?_))
 have:k≠(h.ep+1,144):=λhe=>by
  have:=s.lt k (by simp[s.qJ.1 k hk]);rw[he] at this;simp at this;omega
 simp[this];have bm:h2.box l=some [C.mrow lr 0 S.tables.length cap,fc,oc]:=by
  rw[hs3 l (by simp[labs];exact λhe=>bl he.symm)];simp[hb,hne]
 have br:h2.box (h.ep+1,144)=some [C.d (D.str T.name),c1,c2]:=by
  rw[hs3 _ (by simp[labs];exact λhe=>by have:=bf (h.ep+1) 144 oM;rw[<-he] at this;simp at this)];simp
 have bh:=ZO (s.lt l sI);simp(maxDischargeDepth:=12) [bm,br,hne,bh,BF];obtain⟨bn,s3,ba,bz⟩:=d8 h2 c' hm2 ⟨by rw[be];simp,λk hk hn=>by
  rw[hs3 k hn]
  have:k≠(h.ep+1,144):=λhe=>by rw[he] at hk;simp at hk
  simp[this]⟩ hlab
 have aq:∀k,k.1<h.ep->k≠(h.ep+1,144):=λk hk he=>by rw[he] at hk;simp at hk;omega
 have ah:∀k∈l::(ta++(fa++oa)),k.1<h.ep:=s.lt;have b1:Z0 (h2.qA l [c',fc,oc]) ((h2.qA l [c',fc,oc]).qA (h.ep+1,144) [C.d (D.str name),c1,c2]) [(h.ep+1,144)]:=Z0.refl.qA (.inl sI);have bk:Z0 h ((h2.qA l [c',fc,oc]).qA (h.ep+1,144) [C.d (D.str name),c1,c2]) (l::ta):=by
  refine Z0.qA (Z0.qA ⟨by rw[be];simp<;>omega,λk hk hn=>?_⟩ (.inl sI)) (.inr sI);simp only[Y9,not_or] at hn;rw[hs3 k λh1=>hn.2 (s.qJ.1 k h1)];simp[aq k hk]
 have s4:=s3.rX b1 (λk hk=>by simp only[Yu] at hk;subst hk;intro h1;simp only[Y9,Y2] at h1;rcases h1 with h1|h1|h1|h1;exact aq l (ah l sI) h1.symm;exact aq _ (ah _ (by simp[ba _ h1])) rfl;exact aq _ (ah _ (by simp[h1])) rfl;exact aq _ (ah _ (by simp[h1])) rfl);have b0:Ow ((h2.qA l [c',fc,oc]).qA (h.ep+1,144) [C.d (D.str name),c1,c2]) Wn [C.d (D.str name),c1,c2] ({T with name:=name}:Tbl).enc lx:=by
  have h9:∀k∈lx,((h2.qA l [c',fc,oc]).qA (h.ep+1,144) [C.d (D.str name),c1,c2]).box k=h.next.box k:=λk hk=>by
   have h1:=d7 k hk;have aa:=ah k (by simp[h1.1]);have h3:k≠l:=λhe=>bb.1 (he▸h1.1);simp[aq k aa,h3,hs3 k h1.2]
  obtain⟨_,_,_,_,e1,e2,e3,h8⟩:=d5.jJ;simp only[Tbl.enc,List.cons.injEq] at e1 e2;obtain⟨rfl,rfl⟩:=e1;obtain⟨rfl,rfl⟩:=e2;exact .data rfl (h8.frame h9)
 refine Za (Gc _ l c' fc oc bn fa oa lx _ S1 _ _ bt s4 b0 ⟨d6,λk hk=>?_⟩ _ (λh5 ay aw s5 bo bj=>?_));have h1:=d7 k hk;have aa:=ah k (by simp[h1.1]);have h6:=s.nd;simp only[Xm,Yg,Y2] at h6;refine⟨by simp[be];omega,?_⟩;simp only[Y9,Y2,not_or];refine⟨λhe=>bb.1 (he▸h1.1),bz k hk,λh7=>?_,λh7=>?_⟩;exact h6.2.2.2 k h1.1 k (.inl h7) rfl;exact h6.2.2.2 k h1.1 k (.inr h7) rfl;have bv:Z0 h h5 (l::ta):=bk.trans' bo λk hk=>by simp only[Y9] at hk;rcases hk with rfl|hk;exact .inl sI;exact .inl (by simp[ba k hk])
 have bg:∀k∈aw,k∈ta\/h.ep<=k.1:=λk hk=>by rcases bj k hk with h1|h1|h1;exact .inl (ba k h1);exact .inl (d7 k h1).1;exact .inr (Yv bk.1 h1)
 have bu:=s5.box;simp(maxDischargeDepth:=12) [bu];refine WQ s5.len.2.1.1 ?_;simp;refine Z4.count (N:=(S1.fks.length:Int)) (s0:=S1) (λk S e h'=>e.n=119/\e.get 0=.p l/\e.get 2=.s name/\e.get 10=.s T.name/\e.get 51=.i (S1.fks.length:Int)/\e.get 52=.i (k:Int)/\S.fks.length=S1.fks.length/\Sc h' l S ay fc oc aw fa oa/\Z0 h h' (l::(ta++(fa++oa)))) (by simpa using hm) ⟨sI,sI,sI,sI,sI,sI,rfl,s5,bv.mono (by simp only[Y9,Y2];exact λk hk=>hk.imp_right .inl)⟩ ?_ ?_;rintro k S2 e h6 ⟨hn,h0,aa,ab,ag,au,hl2,s6,al⟩ hlt6 hm;obtain⟨f,hf,hm⟩:=hm.qG;have ae:k<S1.fks.length:=oM
 have ac:k<S2.fks.length:=oM;have bc:=s6.len.2.1.2;simp only[U4] at bc;have am:IntKind.i64.wrap ((k:Int)+1)=(k:Int)+1:=Y5 _ oM;have aj:=s6.box;obtain⟨lf,cf,Bf,rfl,bx,b3⟩:=s6.fkH hf;obtain⟨ap,ad,c1f,el,-,-,w0,w2⟩:=s6.fkK bx hf;have r0:=el.rd0 1 oM;have r2:=el.rd 2 1 oM;simp at r0 r2;have fin:∀(e':Env) (h':HS) (S3:Sch),e'.n=119->e'.get 0=.p l->e'.get 2=.s name->e'.get 10=.s T.name->e'.get 51=.i (S1.fks.length:Int)->e'.get 52=.i ((k:Int)+1)->S3.fks.length=S2.fks.length->Sc h' l S3 ay (.mrow lf 0 S2.fks.length cf) oc aw fa oa->Z0 h6 h' fa->
   (e'.n=119/\e'.get 0=.p l/\e'.get 2=.s name/\e'.get 10=.s T.name/\e'.get 51=.i (S1.fks.length:Int)/\e'.get 52=.i ((k+1:Nat):Int)/\S3.fks.length=S1.fks.length/\Sc h' l S3 ay (.mrow lf 0 S2.fks.length cf) oc aw fa oa/\Z0 h h' (l::(ta++(fa++oa)))):=
  λe' h' S3 a1 a2 a3 a4 a5 a6 a7 a8 a9=>⟨a1,a2,a3,a4,a5,by simpa using a6,oM,a8,al.trans' a9 λk hk=>.inl (by simp[hk])⟩
 cases af:strEq f.table T.name with|true=>?_|false=>?_;simp only[af,cond_true] at hm;have s7:=w0 name;have bq:(h6.qA lf (Zg Bf (k*3) [.d (.str name)])).box lf=some (Zg Bf (k*3) [.d (.str name)]):=sI
 have bp:({S2 with fks:=S2.fks.set k ⟨name,f.cols,f.ref⟩}:Sch).fks[k]?=some ⟨name,f.cols,f.ref⟩:=by simp[ac]
 obtain⟨-,-,b6,bw,-,-,-,w7⟩:=s7.fkK bq bp;have r7:=bw.rd 2 1 oM;simp at r7;have bi:(Zg Bf (k*3) [.d (.str name)]).length=Bf.length:=Ui (by simp<;>omega);cases hb2:strEq f.ref T.name with|true=>?_|false=>?_;simp only[hb2,cond_true] at hm;simp[hn,h0,aa,ab,ag,au,ae,ac,aj,bx,r0,af,am,ad,r7,hb2,bi];refine⟨oM,oM,Ze.of _ ⟨fin _ _ _ (by simp[hn]) (by simp[h0]) (by simp[aa]) (by simp[ab]) (by simp[ag]) sI ?_ (by simpa using w7 name) ((Z0.rN ap).qA (.inl ap)),hm⟩⟩;simp;simp only[hb2,cond_false] at hm;simp[hn,h0,aa,ab,ag,au,ae,ac,aj,bx,r0,af,am,ad,r7,hb2];refine⟨oM,Ze.of _ ⟨fin _ _ _ (by simp[hn]) (by simp[h0]) (by simp[aa]) (by simp[ab]) (by simp[ag]) sI ?_ s7 (Z0.rN ap),hm⟩⟩;simp;simp only[af,cond_false] at hm;cases hb2:strEq f.ref T.name with|true=>?_|false=>?_;simp only[hb2,cond_true] at hm;simp[hn,h0,aa,ab,ag,au,ae,ac,aj,bx,r0,af,am,ad,r2,hb2];refine⟨oM,Ze.of _ ⟨fin _ _ _ (by simp[hn]) (by simp[h0]) (by simp[aa]) (by simp[ab]) (by simp[ag]) sI ?_ (w2 name) (Z0.rN ap),hm⟩⟩;simp;simp only[hb2,cond_false] at hm;simp[hn,h0,aa,ab,ag,au,ae,ac,aj,bx,r0,af,am,ad,r2,hb2];exact Ze.of _ ⟨fin _ _ _ (by simp[hn]) (by simp[h0]) (by simp[aa]) (by simp[ab]) (by simp[ag]) sI rfl s6 .refl,hm⟩;rintro k S2 e h6 ⟨hn,h0,aa,ab,ag,au,hl2,s6,al⟩ hge hm;have aj:=s6.box;have ax:¬k<S1.fks.length:=oM
 simp[hn,h0,aa,ab,ag,au,ax,aj];refine WQ s6.len.2.2.1 ?_;simp[hn,h0];refine Z4.count (N:=(S2.cons.length:Int)) (s0:=S2) (λk S e h'=>e.n=119/\e.get 0=.p l/\e.get 2=.s name/\e.get 10=.s T.name/\e.get 96=.i (S2.cons.length:Int)/\e.get 97=.i (k:Int)/\S.cons.length=S2.cons.length/\Sc h' l S ay fc oc aw fa oa/\Z0 h h' (l::(ta++(fa++oa)))) (by simpa using hm) ⟨by simp[hn],by simp[h0],by simp[aa],by simp[ab],sI,sI,rfl,s6,al⟩ ?_ ?_;rintro k S3 e h6 ⟨hn,h0,aa,ab,ar,az,bd,s6,al⟩ hlt6 hm;obtain⟨f,hf,hm⟩:=hm.qG;have ae:k<S2.cons.length:=oM
 have ac:k<S3.cons.length:=oM;have bc:=s6.len.2.2.2;simp only[U4] at bc;have am:IntKind.i64.wrap ((k:Int)+1)=(k:Int)+1:=Y5 _ oM;have aj:=s6.box;obtain⟨lf,cf,Bf,rfl,bx,b3⟩:=s6.wF hf;obtain⟨ap,ad,el,w0,-,-⟩:=s6.jT bx hf;have r0:=el.rd0 1 oM;simp at r0;cases af:strEq f.table T.name with|true=>?_|false=>?_;simp only[af,cond_true] at hm;simp[hn,h0,aa,ab,ar,az,ae,ac,aj,bx,r0,af,am,ad];refine⟨oM,Ze.of _ ⟨⟨by simp[hn],by simp[h0],by simp[aa],by simp[ab],by simp[ar],sI,?_,w0 name,al.qA (.inl (by simp[ap]))⟩,hm⟩⟩;simpa using bd;simp only[af,cond_false] at hm;simp[hn,h0,aa,ab,ar,az,ae,ac,aj,bx,r0,af,am,ad];exact Ze.of _ ⟨⟨by simp[hn],by simp[h0],by simp[aa],by simp[ab],by simp[ar],sI,bd,s6,al⟩,hm⟩;rintro k S3 e h6 ⟨hn,h0,aa,ab,ar,az,bd,s6,al⟩ hge hm;obtain⟨rfl,rfl⟩:=ZJ hm;have ax:¬k<S2.cons.length:=oM
 simp[hn,h0,aa,ab,ar,az,ax];refine hk _ _ s6.ows al (λk hk=>?_);simp only[Y2] at hk|-;rcases hk with hk|hk|hk;exact(bg k hk).imp_left .inl;exact .inl (.inr (.inl hk));exact .inl (.inr (.inr hk))
def DL(s1:List Fk)(s2:List Fk)(eq:Fk->Fk->Option Bool):Option Bool:=
 bif ((s1.length:Int) !=(s2.length:Int)) then some false else Zc (λ(i5:Nat) (x5:Fk) (s5:Unit) next_5=>Z7 s2 (i5:Int) λx7=>Z1 (eq x5 x7) λv9=>bif !v9 then some false else next_5 ()) (λ(s5:Unit)=>some true) s1 0 ()
instance Z9l(s1:List Fk)(s2:List Fk)(eq:Fk->Fk->Option Bool){g:FuncId}{caps:List (List D)}[ConG eq prog (λx=>.agg x.enc) (λx=>.agg x.enc) (λv=>.one (.d (.bool v))) g caps]:Con (DL s1 s2 eq) prog 206 [.one (.d (.sl (s1.map Fk.enc))),.one (.d (.sl (s2.map Fk.enc))),.one (.fn g caps)] (λr=>.one (.d (.bool r))):=by unfold DL;have l1:LH (σ:=Unit) 17 [1,2,15,16] []:=.intro;exact go 32 Tryz.func206
def DP(s1:List Cons)(s2:List Cons):Option Bool:=
 bif ((s1.length:Int) !=(s2.length:Int)) then some false else Zc (λ(i5:Nat) (x5:Cons) (s5:Unit) next_5=>Z7 s2 (i5:Int) λx6=>bif (!(x5.table==x6.table)||(!(x5.left==x6.left)||(!(x5.op==x6.op)||(!(x5.right==x6.right)||(!(x5.value.kind==x6.value.kind)||(!(x5.value.int==x6.value.int)||(!(x5.value.text==x6.value.text)))))))) then some false else next_5 ()) (λ(s5:Unit)=>some true) s1 0 ()
instance Za9(s1:List Cons)(s2:List Cons):Con (DP s1 s2) prog 207 [.one (.d (.sl (s1.map Cons.enc))),.one (.d (.sl (s2.map Cons.enc)))] (λr=>.one (.d (.bool r))):=by unfold DP;have l1:LH (σ:=Unit) 13 [0,1,12] []:=.intro;have p1:PH [6] (Plan.qB [0,1,2,3,4,5,6,7,8] .done):=.intro;exact go 26 Tryz.func207
def E0(s_:Sch)(table:ByteArray)(other:ByteArray):Option Int:=
 Zc (λ(i3:Nat) (x3:Fk) (s3:(List Fk)×(List Fk)) next_3=>bif strEq x3.ref table then some 10 else bif strEq x3.ref other then some 10 else bif strEq x3.table table then W0 s3.1 [x3] λ_=>(next_3 ((s3.1++[x3]),s3.2)) else bif strEq x3.table other then W0 s3.2 [(Fk.mk table x3.cols x3.ref)] λ_=>(next_3 (s3.1,(s3.2++[(Fk.mk table x3.cols x3.ref)]))) else next_3 (s3.1,s3.2)) (λ(s3:(List Fk)×(List Fk))=>Z1 (DL s3.1 s3.2 (λxa_ xb_=>A5 xa_ xb_)) λv13=>bif !v13 then some 10 else Zc (λ(i16:Nat) (x16:Cons) (s16:(List Cons)×(List Cons)) next_16=>bif strEq x16.table table then W0 s16.1 [x16] λ_=>(next_16 ((s16.1++[x16]),s16.2)) else bif strEq x16.table other then W0 s16.2 [(Cons.mk table x16.left x16.op x16.right x16.value)] λ_=>(next_16 (s16.1,(s16.2++[(Cons.mk table x16.left x16.op x16.right x16.value)]))) else next_16 (s16.1,s16.2)) (λ(s16:(List Cons)×(List Cons))=>Z1 (DP s16.1 s16.2) λv24=>bif !v24 then some 11 else some 0) s_.cons 0 ([],[])) s_.fks 0 ([],[])
instance Ra(s_:Sch)(table:ByteArray)(other:ByteArray):Con (E0 s_ table other) prog 181 [.agg s_.enc,.one (.d (.str table)),.one (.d (.str other))] (λr=>.one (.d (.int .i64 r))):=by
 unfold E0;have l1:LH (σ:=(List Fk)×(List Fk)) 18 [1,2,3,16,17] [.g 7 3 (λs=>s.1.map Fk.enc),.g 8 3 (λs=>s.2.map Fk.enc)]:=.intro;have l2:LH (σ:=(List Cons)×(List Cons)) 58 [1,2,56,57] [.g 11 7 (λs=>s.1.map Cons.enc),.g 12 7 (λs=>s.2.map Cons.enc)]:=.intro;exact go 85 Tryz.func181
def Cz(s1:List Col)(s2:List Col):Option Bool:=
 bif ((s1.length:Int) !=(s2.length:Int)) then some false else Zc (λ(i5:Nat) (x5:Col) (s5:Unit) next_5=>Z7 s2 (i5:Int) λx6=>bif (!(x5.name==x6.name)||(!(x5.kind==x6.kind)||(!(x5.nullable==x6.nullable)))) then some false else next_5 ()) (λ(s5:Unit)=>some true) s1 0 ()
instance R4(s1:List Col)(s2:List Col):Con (Cz s1 s2) prog 180 [.one (.d (.sl (s1.map Col.enc))),.one (.d (.sl (s2.map Col.enc)))] (λr=>.one (.d (.bool r))):=by unfold Cz;have l1:LH (σ:=Unit) 13 [0,1,12] []:=.intro;have p1:PH [6] (Plan.qB [0,1,2,3,4,5,6,7,8] .done):=.intro;exact go 26 Tryz.func180
def G9(S:Sch)(i:Nat)(step:Stp):Option (Sch×Int):=
 Z1 (ZY S step.other) λv=>bif !v.2 then some (S,4) else Z7 S.tables (i:Int) λT=>Z7 S.tables v.1 λO=>bif ((i:Int)==v.1) then some (S,7) else
 Z1 (Cz T.cols O.cols) λb=>bif !b then some (S,7) else Z1 (AN T.pk O.pk) λb2=>bif !b2 then some (S,7) else
 Z1 (E0 S T.name O.name) λe=>bif e !=0 then some (S,e) else
 Zp ((0<T.pk.length/\T.pk.length<Zs)/\0<T.cols.length/\T.cols.length<Zs) (some (Iu {S with tables:=S.tables.set i {T with pk:=T.pk++[(T.cols.length:Int)],cols:=T.cols++[⟨step.column,2,false⟩]}} O.name,0))
set_option maxHeartbeats 2000000 in
theorem QD(h:HS)(l:Z2)(tc fc oc x6 ac ae ad:C)(ta fa oa:List Z2)(S S':Sch)(i:Nat)(step:Stp)(r:Int)(hm:Is (G9 S i step) (S',r))(s:Sc h l S tc fc oc ta fa oa)(K:V->HS->Prop)
  (hk:WV h l (ta++(fa++oa)) S' (.i r) K):
  Z3 prog 155 [.p l,.i (i:Int),.agg (Zf step x6 ac ae ad)] h K:=by
 obtain⟨v,hv,hm⟩:=hm.bind;have bp:Z0 h ((h.qA (h.ep,80) (Zf step x6 ac ae ad)).next) []:=(Z0.refl.qA (.inr (Y7 _))).next;have s0:=s.frame bp;have cb:=s0.box;have b0:(h.qA (h.ep,80) (Zf step x6 ac ae ad)).next.box (h.ep,80)=some (Zf step x6 ac ae ad):=sI
 refine Z3.ov Tryz.func155 ?_;have cq:Zf step x6 ac ae ad≠[]:=by simp[Zf]
 have hne:=Zm (s.lt l sI);have cy:=s.box;have au:h.ep<((h.qA (h.ep,80) (Zf step x6 ac ae ad)).next).ep:=sI
 simp[cq];generalize(h.qA (h.ep,80) (Zf step x6 ac ae ad)).next=HX at*;refine Z4.cu [0,1,2,3,4,5,6,7,8,9,10] (λe h'=>En e 99 [(0,.p l),(1,.i (i:Int)),(5,.p (h.ep,80)),(7,.i v.1),(8,.b v.2)]/\Z0 HX h' []) ?_ ?_;simp[cb,b0,Zf];refine Za (Z3.qD (UO S step.other v hv) ⟨.agg s0.frz,.one (.frz (.data rfl)),trivial⟩ rfl ?_);simp;exact⟨λ_ _ x=>x,Zb.of (by simp[Z0.refl.next])⟩;rintro e h1 ⟨hE,ah⟩;have bq:h1.box (h.ep,80)=some (Zf step x6 ac ae ad):=by rw[ah.2 _ au sI];exact b0
 have s1:=s0.frame ah;have cv:=s1.box;have hy:=bp.trans ah;simp[hE];cases hv2:v.2 with|false=>?_|true=>?_;rw[hv2] at hm;obtain⟨rfl,rfl⟩:=ZJ hm;simp[hE];exact hk _ _ s1.ows (hy.mn) (λk hk=>.inl hk);simp only[hv2,Xf,cond_false] at hm;obtain⟨T,hi,hm⟩:=hm.qG;obtain⟨O,c8,hj,hm⟩:=hm.get;obtain⟨j,b7⟩:∃j:Nat,v.1=j:=⟨v.1.toNat,oM⟩;rw[b7] at hE hj hm;simp at hj;have hlt:i<S.tables.length:=(Y0.1 hi).1;have b5:j<S.tables.length:=(Y0.1 hj).1;obtain⟨lt,c1,c2,B,tv⟩:=s1.tbl hi;obtain⟨cap,rfl⟩:=tv.hd;have bx:=tv.el.box;have r0:=tv.el.rd0 3 oM;have r1:=tv.el.rd 1 1 oM;have r2:=tv.el.rd 2 1 oM;simp at r0 r1 r2;obtain⟨d1,d2,tw⟩:=s1.jC bx hj;have q0:=tw.el.rd0 3 oM;simp at q0;simp;refine Z4.cut (Plan.qB [0,1,2,3,4,5,6,7,8,9,11] (.three 10 14 15 (Plan.qB [12] (.three 13 14 15 (Plan.qB [] (.two 14 15 (Plan.qB [15,16,17] .done) (Plan.qB [14,16,17] .done))) (Plan.qB [] (.two 13 15 (Plan.qB [15,16,17] .done) (Plan.qB [] (.two 13 16 (Plan.qB [16,17] .done) (Plan.qB [13,17] .done))))) (Plan.qB [] (.two 13 14 (Plan.qB [14,16,17] .done) (Plan.qB [] (.two 13 16 (Plan.qB [16,17] .done) (Plan.qB [13,17] .done))))))) (Plan.qB [] (.two 10 15 (Plan.qB [12] (.two 13 15 (Plan.qB [15,16,17] .done) (Plan.qB [] (.two 13 16 (Plan.qB [16,17] .done) (Plan.qB [13,17] .done))))) (Plan.qB [] (.two 10 16 (Plan.qB [12] (.two 13 16 (Plan.qB [16,17] .done) (Plan.qB [13,17] .done))) (Plan.qB [10,12,13,17] .done))))) (Plan.qB [] (.two 10 14 (Plan.qB [12] (.two 13 14 (Plan.qB [14,16,17] .done) (Plan.qB [] (.two 13 16 (Plan.qB [16,17] .done) (Plan.qB [13,17] .done))))) (Plan.qB [] (.two 10 16 (Plan.qB [12] (.two 13 16 (Plan.qB [16,17] .done) (Plan.qB [13,17] .done))) (Plan.qB [10,12,13,17] .done))))))) follows kR (λE h'=>Ek e E [(7,.i (j:Int))] [0,1,5]/\Z0 h1 h' []/\
  ∃p9 af:Z2,p9≠af/\(h1.ep<=p9.1/\p9.1<h'.ep)/\(h1.ep<=af.1/\af.1<h'.ep)/\E.get 9=.p p9/\E.get 10=.p af/\h'.box p9=some [.d (.str T.name),c1,c2]/\h'.box af=some [.d (.str O.name),d1,d2]) ?_ ?_
 .have al:=Zm (s1.lt l sI);have ak:=Zm (s1.lt lt (by simp[tv.tm]));simp(maxDischargeDepth:=12) [hE,cv,hlt,b5,bx,r0,q0,al,ak,BF]
  repeat' (with_reducible apply And.intro)
  all_goals first
   | (refine Zb.of ⟨?_,(((Z0.refl.qA (.inr ?_)).next.qA (.inr ?_)).next.qA (.inr ?_)).qA (.inr ?_),(h1.ep,144),(h1.ep+1,160),?_,⟨?_,?_⟩,⟨?_,?_⟩,?_,?_,?_,?_⟩
      all_goals first
       |(simp[hE];done)
       |(simp<;>omega))
   | (refine Zb.of ⟨?_,(((Z0.refl.qA (.inr ?_)).next.qA (.inr ?_)).next.qA (.inr ?_)).qA (.inr ?_),(h1.ep+1,144),(h1.ep,160),?_,⟨?_,?_⟩,⟨?_,?_⟩,?_,?_,?_,?_⟩
      all_goals first
       |(simp[hE];done)
       |(simp<;>omega))
 rintro e h2 ⟨hF,hs2,p9,af,hp,a1,aj,h9,b8,b9,a7⟩;have hE:=And.intro h9 (And.intro b8 (hF.an hE));have s2:=s1.frame hs2;have hb2:=s2.box;have az:=hy.trans hs2;have bz:h2.box (h.ep,80)=some (Zf step x6 ac ae ad):=by rw[hs2.2 _ (Y3 au ah.1) sI];exact bq
 have ff:∀h',Z0 h2 h' []->Frz h' c1 (.sl (T.cols.map Col.enc))/\Frz h' c2 (.sl (T.pk.map Zd))/\Frz h' d1 (.sl (O.cols.map Col.enc))/\Frz h' d2 (.sl (O.pk.map Zd)):=λh' hs=>⟨tv.f1 h' (hs2.trans hs),tv.f2 h' (hs2.trans hs),tw.f1 h' (hs2.trans hs),tw.f2 h' (hs2.trans hs)⟩;have ay:Z0 h2 h2.next []:=Z0.refl.next;have a8:Z0 h2 h2.next.next []:=ay.next;cases hij:(i:Int)==(j:Int) with|true=>?_|false=>?_;simp only[hij,cond_true] at hm;obtain⟨rfl,rfl⟩:=ZJ hm;simp[hE,hij];exact hk _ _ s2.ows (az.mn) (λk hk=>.inl hk);simp only[hij,cond_false] at hm;obtain⟨b,cf,hm⟩:=hm.bind;have cx:¬(i:Int)=(j:Int):=by simpa using hij
 have cw:¬i=j:=oM;simp[hE,hij,b9,a7];refine Za (Z3.qD (R4 T.cols O.cols b cf) ⟨.one (.frz (ff _ .refl).1),.one (.frz (ff _ .refl).2.2.1),trivial⟩ rfl ?_);cases b with|false=>?_|true=>?_;simp only[Xr,cond_true] at hm;obtain⟨rfl,rfl⟩:=ZJ hm;simp[hE];exact hk _ _ (s2.frame ay).ows ((az.trans ay).mn) (λk hk=>.inl hk);simp only[Xf,cond_false] at hm;obtain⟨b',bw,hm⟩:=hm.bind;simp[hE,b9,a7];refine Za (Z3.qD (LA T.pk O.pk b' bw) ⟨.one (.frz (ff _ ay).2.1),.one (.frz (ff _ ay).2.2.2),trivial⟩ rfl ?_);cases b' with|false=>?_|true=>?_;simp only[Xr,cond_true] at hm;obtain⟨rfl,rfl⟩:=ZJ hm;simp[hE];exact hk _ _ (s2.frame a8).ows ((az.trans a8).mn) (λk hk=>.inl hk);simp only[Xf,cond_false] at hm;obtain⟨w,cg,hm⟩:=hm.bind;have s3:=s2.frame a8;simp[hE];refine Z4.cu [0,1,2,3,4,5,6,7,8] (λE h'=>Ek e E [(9,.p p9),(10,.p af),(11,.i w)] [0,1,5]/\Z0 h2 h' []) ?_ ?_;simp[hE,b9,a7,hb2];refine Za (Z3.qD (Ra S T.name O.name w cg) ⟨.agg s3.frz,.one (.frz (.data rfl)),.one (.frz (.data rfl)),trivial⟩ rfl ?_);simp[hE];exact⟨λ_ _ x=>x,Zb.of ⟨by simp[hE],a8.next⟩⟩;rintro e h3 ⟨hF,hs3⟩;have hE:=hF.an hE;have s4:=s2.frame hs3;have b4:=s4.box;have bb:=az.trans hs3;have bl:h3.box p9=some [.d (.str T.name),c1,c2]:=by rw[hs3.2 _ a1.2 sI];exact b9
 have bt:h3.box af=some [.d (.str O.name),d1,d2]:=by rw[hs3.2 _ aj.2 sI];exact a7
 have bc:h3.box lt=some B:=by rw[hs3.2 _ (s2.lt lt (by simp[tv.tm])) sI,hs2.2 _ (s1.lt lt (by simp[tv.tm])) sI];exact bx
 have b3:h3.box (h.ep,80)=some (Zf step x6 ac ae ad):=by rw[hs3.2 _ (Y3 (Y3 au ah.1) hs2.1) sI];exact bz
 simp[hE];cases hw0:w !=0 with|true=>?_|false=>?_;simp only[hw0,cond_true] at hm;obtain⟨rfl,rfl⟩:=ZJ hm;have bf:¬w=0:=by simpa using hw0
 simp[hE,bf];exact hk _ _ s4.ows (bb.mn) (λk hk=>.inl hk);simp only[hw0,cond_false] at hm;have bf:w=0:=by simpa using hw0
 obtain⟨⟨⟨cp,cm⟩,hc0,ca⟩,hm⟩:=hm.chk;obtain⟨rfl,rfl⟩:=ZJ hm;have c7:T.pk.length<2097152:=cm;have c6:T.cols.length<2097152:=ca;simp[hE,bf];refine Z4.cut (Plan.qB [0,1,2,4,5,6,7,8,9] (.two 3 10 (Plan.qB [10,11,12,13,14] .done) (Plan.qB [] (.two 3 11 (Plan.qB [11,12,13,14] .done) (Plan.qB [3,12,13,14] .done))))) follows kR (λE h'=>Ek e E [] [0,1,5,9,10]/\
  (∃ta' B',Sc h' l {S with tables:=S.tables.set i {T with pk:=T.pk++[(T.cols.length:Int)]}} (.mrow lt 0 S.tables.length cap) fc oc ta' fa oa/\h'.box lt=some B'/\Zl 1 (B'.drop (i*3+1))=some [c1]/\(∀k∈ta',k∈ta\/h3.ep<=k.1))/\Z0 h3 h' ta) ?_ ?_
 .have al:=Zm (s4.lt l sI);have ak:=Zm (s4.lt lt (by simp[tv.tm]));have bd:=Zm (l:=p9) (n:=h3.ep) (Y3 a1.2 hs3.1);simp(maxDischargeDepth:=12) [hE,b4,hlt,bc,bl,al,ak,bd,BF];refine WQ tv.n1.1 ?_;simp(maxDischargeDepth:=12) [hE,b4,hlt,bc,bl,al,ak,bd,BF];have hz:Z0 h3 ((h3.qC (h3.ep,16*77) (some (1,1))).next) []:=(Z0.refl).qC.next;simp only[Nat.reduceMul] at hz;obtain⟨c1',c2',aa⟩:=(s4.frame hz).jC (by simpa using bc) hi;obtain rfl:c2'=c2:=by
   have:=aa.el.rd 2 1 oM
   simp[r2] at this;exact this.symm
  have bn:=aa.el.le;refine⟨?_,?_,?_⟩
  all_goals
   refine W5 (by simp;exact⟨rfl,rfl⟩) sI sI sI (aa.m2 (by intro h0;simp[h0] at cp)) (Zk.qU sI) (by simp<;>omega) (λc' h' bg ab ax=>?_);have bj:h'.box lt=some B:=by
    rw[ab.2 lt ((s4.frame hz).lt lt (by simp[aa.tm])) λh2=>(aa.l2 lt h2).2 rfl];simpa using bc
   have ap:h'.box l=some [.mrow lt 0 S.tables.length cap,fc,oc]:=(s4.frame hz).keep ab λk hk=>.inl (aa.l2 k hk).1;have aw:=ab.1;simp at aw;obtain⟨ta',s6,bi⟩:=aa.s2 h' c' (T.pk++[(T.cols.length:Int)]) (by simpa using bg) ab (λk hk=>(ax k hk).imp_right λh2=>⟨λh3=>by have:=(s4.frame hz).lt k h3;omega,h2.2⟩);have cn:=aa.el.set (g:=2) (vs:=[c']) sI sI;have r6:=cn.rd 1 1 oM;simp at r6;have r5:=aa.el.rd 1 1 oM;simp[r1] at r5;simp[hE,hlt,bj,ap];refine⟨oM,Zb.of ⟨by simp[hE],⟨ta',_,s6,by simp;rfl,by rw[r6,r5],λk hk=>?_⟩,?_⟩⟩;rcases bi k hk with h2|h2;exact .inl h2;rcases ax k h2 with h3|h3;exact .inl (aa.l2 k h3).1;refine .inr ?_;have bk:=h3.1;simp at bk;omega;exact((hz.mn).trans (ab.mono λk hk=>(aa.l2 k hk).1)).qA (.inl aa.tm)
 rintro e h4 ⟨hF,⟨bo,B4,s6,ba,r4,aq⟩,ag⟩;have hE:=hF.an hE;have br:({S with tables:=S.tables.set i {T with pk:=T.pk++[(T.cols.length:Int)]}}:Sch).tables[i]?=some {T with pk:=T.pk++[(T.cols.length:Int)]}:=by simp[hlt]
 have ch:=s6.box;have am:∀k∈ta,k.1<h1.ep:=λk hk=>s1.lt k (by simp[hk]);have ci:h4.box p9=some [.d (.str T.name),c1,c2]:=by rw[ag.2 _ (Y3 a1.2 hs3.1) (λh2=>by have:=am _ h2;omega)];exact bl
 have bv:h4.box af=some [.d (.str O.name),d1,d2]:=by rw[ag.2 _ (Y3 aj.2 hs3.1) (λh2=>by have:=am _ h2;omega)];exact bt
 have b1:h4.box (h.ep,80)=some (Zf step x6 ac ae ad):=by
  rw[ag.2 _ (Y3 (Y3 (Y3 au ah.1) hs2.1) hs3.1) (λh2=>by have:=s.lt (h.ep,80) (by simp[h2]);simp at this)];exact b3
 simp[hE];refine Z4.cut (Plan.qB [0,1,2,4,5,6,7,8] (.two 3 9 (Plan.qB [9,10,11,12,13,14] .done) (Plan.qB [] (.two 3 10 (Plan.qB [10,11,12,13,14] .done) (Plan.qB [] (.two 3 11 (Plan.qB [11,12,13,14] .done) (Plan.qB [3,12,13,14] .done))))))) follows kR (λE h'=>Ek e E [] [0,10]/\
  (∃ta',Sc h' l {S with tables:=S.tables.set i {T with pk:=T.pk++[(T.cols.length:Int)],cols:=T.cols++[⟨step.column,2,false⟩]}} (.mrow lt 0 S.tables.length cap) fc oc ta' fa oa/\(∀k∈ta',k∈bo\/h4.ep<=k.1))/\Z0 h4 h' bo) ?_ ?_
 .have al:=Zm (s6.lt l sI);obtain⟨_,_,cl⟩:=s6.jC ba br;have ak:=Zm (s6.lt lt (by simp[cl.tm]));have bd:=Zm (l:=p9) (n:=h4.ep) (Y3 (Y3 a1.2 hs3.1) ag.1);have ce:=Zm (l:=(h.ep,80)) (n:=h4.ep) (Y3 (Y3 (Y3 (Y3 au ah.1) hs2.1) hs3.1) ag.1);simp(maxDischargeDepth:=12) [hE,ch,hlt,ba,ci,b1,al,ak,bd,ce,BF,Zf];have hz:Z0 h4 ((h4.qC (h4.ep,16*91) (some (1,3))).next) []:=(Z0.refl).qC.next;simp only[Nat.reduceMul] at hz;obtain⟨c1',c2',aa⟩:=(s6.frame hz).jC (by simpa using ba) br;obtain rfl:c1'=c1:=by
   have:=aa.el.rd 1 1 oM
   simp[r4] at this;exact this.symm
  have bn:=aa.el.le
  repeat' (with_reducible apply And.intro)
  all_goals
   refine W5 (by simp;exact⟨rfl,rfl⟩) sI sI sI (aa.m1 (by intro h0;simp only at h0;simp[h0] at hc0)) (Zk.qU sI) (by simp<;>omega) (λc' h' bg ab ax=>?_);have bj:h'.box lt=some B4:=by
    rw[ab.2 lt ((s6.frame hz).lt lt (by simp[aa.tm])) λh2=>(aa.l1 lt h2).2 rfl];simpa using ba
   have ap:h'.box l=some [.mrow lt 0 S.tables.length cap,fc,oc]:=(s6.frame hz).keep ab λk hk=>.inl (aa.l1 k hk).1;have aw:=ab.1;simp at aw;obtain⟨ta',s7,bi⟩:=aa.s1 h' c' (T.cols++[⟨step.column,2,false⟩]) (by simpa using bg) ab (λk hk=>(ax k hk).imp_right λh2=>⟨λh3=>by have:=(s6.frame hz).lt k h3;omega,h2.2⟩);simp[hE,hlt,bj,ap];refine⟨oM,Zb.of ⟨by simp[hE],⟨ta',by simpa using s7,λk hk=>?_⟩,?_⟩⟩;rcases bi k hk with h2|h2;exact .inl h2;rcases ax k h2 with h3|h3;exact .inl (aa.l1 k h3).1;refine .inr ?_;have bk:=h3.1;simp at bk;omega;exact((hz.mn).trans (ab.mono λk hk=>(aa.l1 k hk).1)).qA (.inl aa.tm)
 rintro e h5 ⟨hF,⟨cc,s7,b6⟩,ab⟩;have hE:=hF.an hE;have ar:h.ep<=h3.ep:=bb.1;have bh:h.ep<=h4.ep:=Yv bb.1 ag.1;have be:∀k∈cc,k∈ta\/h.ep<=k.1:=λk hk=>by
  rcases b6 k hk with h2|h2;exact(aq k h2).imp_right λh3=>Yv ar h3;exact .inr (Yv bh h2)
 have bm:Z0 h h5 ta:=((bb.mn).trans ag).trans' ab λk hk=>(aq k hk).imp_right λh3=>Yv ar h3;have bu:h5.box af=some [.d (.str O.name),d1,d2]:=by
  rw[ab.2 _ (Y3 (Y3 aj.2 hs3.1) ag.1) (λh2=>by
   rcases aq _ h2 with h3|h3
   have:=am _ h3;omega
   have:=hs3.1;have:=aj.2;omega)];exact bv
 simp[hE,bu];refine Za (Lm _ l _ _ O.name s7.ows _ ?_);intro h6 cz cd ck cj;simp[hE];refine hk _ _ cd ((bm.mono λk hk=>by simp[hk]).trans' ck λk hk=>?_) λk hk=>?_;simp only[Y9] at hk|-;rcases hk with rfl|hk;exact .inl (.inl rfl);exact(Fj (lx:=[]) be k hk).imp_left .inr;rcases cj k hk with h2|h2;exact Fj (lx:=[]) be k h2;exact .inr (Yv bm.1 h2)
def FV(fk:Fk)(k0:Tbl):Option Bool:=
 some (strEq fk.ref k0.name)
instance Qd(fk:Fk)(k0:Tbl):Con (FV fk k0) prog 179 [.agg fk.enc,.one (.rp [.str k0.name,.sl (k0.cols.map Col.enc),.sl (k0.pk.map Zd)])] (λr=>.one (.d (.bool r))):=by unfold FV;exact go 9 Tryz.func179
theorem MR.at{h}{w:Nat}{c xs}(m:MR h w c xs){k:Nat}{x}(hk:xs[k]?=some x):∃l cap B,c=.mrow l 0 xs.length cap/\h.box l=some B/\Zl w (B.drop (k*w))=some x:=by have hlt:=(Y0.1 hk).1;obtain⟨l,cap,sp,rfl,hb,_⟩:=m.block oM;exact⟨l,cap,_,rfl,hb,Hj m.1 hk⟩
theorem MR.uniq{h}{w:Nat}{c}{xs ys:List (List C)}(m:MR h w c xs)(m':MR h w c ys):xs=ys:=by
 have e:xs.length=ys.length:=by have h1:=m.len;rw[m'.len] at h1;exact(Option.some.inj h1).symm
 refine Xy λk=>?_;by_cases hk:k<xs.length;obtain⟨l,cap,B,rfl,hb,ht⟩:=m.at (Y1 hk);obtain⟨l',cap',B',e',hb',aa⟩:=m'.at (Y1 (oM:k<ys.length));simp at e';obtain⟨rfl,-,-⟩:=e';rw[hb] at hb';cases hb';rw[ht] at aa;rw[Y1 hk,Y1 (oM:k<ys.length),Option.some.inj aa];rw[YK oM,YK oM]
def VG(h:HS)(c0:C)(xs:List (List C))(n w:Nat):Prop:=∀k,k<n->∃l0 cap0 B0 x,c0=.mrow l0 0 n cap0/\l0.1<h.ep/\h.box l0=some B0/\xs[k]?=some x/\Zl w (B0.drop (k*w))=some x
theorem VG.init{h c}{xs:List (List C)}{w:Nat}(m:MR h w c xs)(hl:∀k∈labs c,k.1<h.ep):VG h c xs xs.length w:=λk hk=>by obtain⟨l,cap,B,rfl,hb,ht⟩:=m.at (Y1 hk);exact⟨l,cap,B,xs[k],rfl,hl l (by simp[labs]),hb,Y1 hk,ht⟩
theorem VG.frame{h h' c0 xs}{n w:Nat}(o:VG h c0 xs n w)(hs:Z0 h h' []):VG h' c0 xs n w:=λk hk=>by obtain⟨l0,aa,B0,x,h1,h2,h3,h4,h5⟩:=o k hk;exact⟨l0,aa,B0,x,h1,Y3 h2 hs.1,by rw[hs.2 l0 h2 sI];exact h3,h4,h5⟩
theorem VG.set{h c0 xs}{n w:Nat}{l cs}(o:VG h c0 xs n w)(hl:∀k∈labs c0,k≠l):VG (h.qA l cs) c0 xs n w:=λk hk=>by
 obtain⟨l0,aa,B0,x,rfl,h2,h3,h4,h5⟩:=o k hk
 have:=hl l0 (by simp[labs])
 exact⟨l0,aa,B0,x,rfl,by simpa using h2,by simpa[this] using h3,h4,h5⟩
theorem VG.step{h h' c0 c c' xs}{x:List C}{n w:Nat}(o:VG h c0 xs n w)(m:MR h w c xs)(m':MR h' w c' (xs++[x]))(hs:(Z0 h h' (labs c)/\labs c'=labs c)\/(Z0 h h' []/\∀k∈labs c',h.ep<=k.1/\k.1<h'.ep)):VG h' c0 (xs++[x]) n w:=λk hk=>by
 obtain⟨l0,aa,B0,y,h1,h2,h3,h4,h5⟩:=o k hk;have hlt:=(Y0.1 h4).1;have hy:(xs++[x])[k]?=some y:=by rw[Yq hlt];exact h4
 rcases hs with⟨hs,hl⟩|⟨hs,_⟩;by_cases hm:l0∈labs c;obtain⟨l',cap',B',rfl,hb',ab⟩:=m'.at hy;rw[<-hl] at hm;simp[labs] at hm;subst hm;exact⟨l0,aa,B',y,h1,Y3 h2 hs.1,hb',hy,ab⟩;exact⟨l0,aa,B0,y,h1,Y3 h2 hs.1,by rw[hs.2 l0 h2 hm];exact h3,hy,h5⟩;exact⟨l0,aa,B0,y,h1,Y3 h2 hs.1,by rw[hs.2 l0 h2 sI];exact h3,hy,h5⟩
def Kr(T:Tbl)(other:ByteArray){ρ:Type}(_:Nat)(f:Fk)(S:Sch)(next:Sch->Option ρ):Option ρ:=bif strEq f.table T.name then Zp (S.fks.length<Zs) (next {S with fks:=S.fks++[⟨other,f.cols,f.ref⟩]}) else next S
def Kq(T:Tbl)(other:ByteArray){ρ:Type}(_:Nat)(f:Cons)(S:Sch)(next:Sch->Option ρ):Option ρ:=bif strEq f.table T.name then Zp (S.cons.length<Zs) (next {S with cons:=S.cons++[{f with table:=other}]}) else next S
def G1(S:Sch)(i:Nat)(step:Stp):Option (Sch×Int):=
 Z7 S.tables (i:Int) λT=>Z1 (W7 T step.column) λv=>bif !v.2 then some (S,4) else
 Z1 (Aa step.value step.op step.value) λq=>bif q.2 !=0 then some (S,q.2) else
 Z1 (WD step.value) λe=>bif e !=0 then some (S,e) else
 Z7 T.cols v.1 λc=>bif step.value.kind !=c.kind then some (S,7) else
 Z1 (ZY S step.other) λw=>bif w.2 then some (S,5) else
 Z1 (A2 S.fks λfk=>FV fk T) λb=>bif b then some (S,10) else
 Zc (Kr T step.other) (λS1=>Zc (Kq T step.other) (λS2=>Z1 (BP S2 {T with name:=step.other}) λS3=>some (S3,0)) S.cons 0 S1) S.fks 0 S
def PG(h:HS)(l:Z2)(tc fc oc:C)(ta fa oa:List Z2)(S:Sch)(st tcells B:List C)(lt:Z2)(S1:Sch)(e:Env)(h1:HS):Prop:=∃fc1 aa ad xs,e.n=149/\e.get 0=.p l/\e.get 5=.p (h.ep,80)/\e.get 7=.p (h.ep+1,112)/\
 S1.tables=S.tables/\S1.cons=S.cons/\S1.fks=S.fks++ad/\Sc h1 l S1 tc fc1 oc ta aa oa/\(∀k∈aa,k∈fa\/h.ep+1<k.1)/\Z0 h h1 (l::(ta++(fa++oa)))/\h1.box (h.ep,80)=some st/\h1.box (h.ep+1,112)=some tcells/\h1.box lt=some B/\h.ep+1<h1.ep/\MR h1 3 fc1 xs/\VG h1 fc xs S.fks.length 3
def PF(h:HS)(l:Z2)(tc ac oc:C)(ta fa ab oa:List Z2)(S:Sch)(st tcells B:List C)(lt:Z2)(S1:Sch)(e:Env)(h1:HS):Prop:=∃oc1 aa ad xs,e.n=149/\e.get 0=.p l/\e.get 5=.p (h.ep,80)/\e.get 7=.p (h.ep+1,112)/\
 S1.tables=S.tables/\S1.cons=S.cons++ad/\Sc h1 l S1 tc ac oc1 ta ab aa/\(∀k∈aa,k∈oa\/h.ep+1<k.1)/\Z0 h h1 (l::(ta++(fa++oa)))/\h1.box (h.ep,80)=some st/\h1.box (h.ep+1,112)=some tcells/\h1.box lt=some B/\h.ep+1<h1.ep/\MR h1 7 oc1 xs/\VG h1 oc xs S.cons.length 7
set_option maxHeartbeats 2000000 in
theorem Qh(h l tc fc oc x6 x12 x13 x22 ta fa oa)(S S':Sch)(i:Nat)(step:Stp)(r:Int)(hm:Is (G1 S i step) (S',r))(s:Sc h l S tc fc oc ta fa oa)(K:V->HS->Prop)
  (hk:WV h l (ta++(fa++oa)) S' (.i r) K):
  Z3 prog 154 [.p l,.i (i:Int),.agg (Zf step x6 x12 x13 x22)] h K:=by
 obtain⟨T,hi,hm⟩:=hm.qG;obtain⟨v,hv,hm⟩:=hm.bind;have hlt:i<S.tables.length:=(Y0.1 hi).1;obtain⟨lt,c1,c2,B,tv⟩:=s.tbl hi;obtain⟨cap,rfl⟩:=tv.hd;have hb:=s.box;have bx:=tv.el.box;have r0:=tv.el.rd0 3 oM;simp at r0;have hne:=Zm (s.lt l sI);have ej:=Zm (s.lt lt (by simp[tv.tm]));have dn:∀h',Z0 h h' []->Zx h' [C.d (D.str T.name),c1,c2] T.enc:=λh' hs=>⟨.data rfl,tv.f1 h' hs,tv.f2 h' hs,trivial⟩;refine Z3.ov Tryz.func154 ?_;have fd:Zf step x6 x12 x13 x22≠[]:=by simp[Zf]
 have ci:Z0 h (((h.qA (h.ep,80) (Zf step x6 x12 x13 x22)).next.qA (h.ep+1,112) [C.d (D.str empty),C.nil,C.nil]).next.qA (h.ep+1,112) [C.d (D.str T.name),c1,c2]) []:=(((Z0.refl.qA (.inr (Y7 _))).next.qA (.inr sI)).next.qA (.inr sI));have e3:Zl 1 ((Zf step x6 x12 x13 x22).drop 3)=some [.d (.str step.column)]:=by simp[Zf]
 simp[hb,hlt,bx,r0,hne,ej,fd,e3];generalize hX:(((h.qA (h.ep,80) (Zf step x6 x12 x13 x22)).next.qA (h.ep+1,112) _).next.qA (h.ep+1,112) _)=HX at*;have bu:HX.box (h.ep,80)=some (Zf step x6 x12 x13 x22):=by rw[<-hX];simp
 have dp:HX.box (h.ep+1,112)=some [C.d (D.str T.name),c1,c2]:=by rw[<-hX];simp
 have eu:h.ep+1<HX.ep:=by rw[<-hX];simp
 refine Za (Z3.qD (Ed T step.column v hv) ⟨.agg (dn _ ci),.one (.frz (.data rfl)),trivial⟩ rfl ?_);have d9:Zl 1 ((Zf step x6 x12 x13 x22).drop 7)=some [.d (.str step.op)]:=by simp[Zf]
 have e8:Zl 3 ((Zf step x6 x12 x13 x22).drop 8)=some [.d (.int .i64 step.value.kind),.d (.int .i64 step.value.int),.d (.str step.value.text)]:=by simp[Zf]
 have ee:Zl 1 ((Zf step x6 x12 x13 x22).drop 8)=some [.d (.int .i64 step.value.kind)]:=by simp[Zf]
 have b4:Zl 1 ((Zf step x6 x12 x13 x22).drop 2)=some [.d (.str step.other)]:=by simp[Zf]
 have cv:=ci.next;simp;cases hv2:v.2 with|false=>?_|true=>?_;rw[hv2] at hm;obtain⟨rfl,rfl⟩:=ZJ hm;simp;exact hk _ _ (s.frame cv).ows (cv.mn) (λk hk=>.inl hk);simp only[hv2,Xf,cond_false] at hm;obtain⟨q,hq,hm⟩:=hm.bind;simp[bu,d9,e8];refine Za (Z3.qD (RP step.value step.op step.value q hq) ⟨.agg (Zx.qL (ds:=step.value.enc)),.one (.frz (.data rfl)),.agg (Zx.qL (ds:=step.value.enc)),trivial⟩ rfl ?_);have hs2:=cv.next;simp;cases hq2:q.2 !=0 with|true=>?_|false=>?_;simp only[hq2,cond_true] at hm;obtain⟨rfl,rfl⟩:=ZJ hm;simp;exact hk _ _ (s.frame hs2).ows (hs2.mn) (λk hk=>.inl hk);simp only[hq2,cond_false] at hm;obtain⟨u,hu,hm⟩:=hm.bind;simp[bu,e8];refine Za (Z3.qD (RZ step.value u hu) ⟨.agg (Zx.qL (ds:=step.value.enc)),trivial⟩ rfl ?_);have hs3:=hs2.next;simp;cases hu2:u !=0 with|true=>?_|false=>?_;simp only[hu2,cond_true] at hm;obtain⟨rfl,rfl⟩:=ZJ hm;simp;exact hk _ _ (s.frame hs3).ows (hs3.mn) (λk hk=>.inl hk);simp only[hu2,cond_false] at hm;obtain⟨c,hc0,hc,hm⟩:=hm.get;obtain⟨n,c8⟩:∃n:Nat,v.1=n:=⟨v.1.toNat,oM⟩;have b1:n<T.cols.length:=by
  have:=(Y0.1 hc).1
  omega
 have s3:=s.frame hs3;have dq:HX.next.next.next.box lt=some B:=by rw[hs3.2 lt (s.lt lt (by simp[tv.tm])) sI];exact bx
 obtain⟨c1',c2',d5⟩:=s3.jC dq hi;have r1:=tv.el.rd 1 1 oM;simp at r1;obtain rfl:c1'=c1:=by
  have:=d5.el.rd 1 1 oM
  simp[r1] at this;exact this.symm
 obtain⟨l2,cap2,B2,rfl,dt,-⟩:=d5.e1 _ c hc;have dy:=dt.box;have q1:=dt.rd 1 1 oM;rw[c8] at q1;simp at q1 dy;simp[c8];refine Z4.cu [0,1,2,3,4,5,6,7,8,9] (λe h'=>e.n=149/\e.get 0=.p l/\e.get 5=.p (h.ep,80)/\e.get 7=.p (h.ep+1,112)/\e.get 64=.b (step.value.kind !=c.kind)/\h'=HX.next.next.next) ?_ ?_;simp[bu,dp,ee,dy,q1,b1];exact Zb.of sI;rintro e h4 ⟨hn,h0,h5,h7,ef,rfl⟩;simp[ef];cases b8:step.value.kind !=c.kind with|true=>?_|false=>?_;simp only[b8,cond_true] at hm;obtain⟨rfl,rfl⟩:=ZJ hm;simp[hn];exact hk _ _ s3.ows (hs3.mn) (λk hk=>.inl hk);simp only[b8,cond_false] at hm;obtain⟨w,hw,hm⟩:=hm.bind;have dl:=s3.box;simp;refine Z4.cu [0,1,2,3,4,5,6,7,8,9,10] (λe h'=>e.n=149/\e.get 0=.p l/\e.get 5=.p (h.ep,80)/\e.get 7=.p (h.ep+1,112)/\e.get 14=.b w.2/\Z0 HX h' []) ?_ ?_;simp at dl;simp[hn,h0,h5,dl,bu,b4];refine Za (Z3.qD (UO S step.other w hw) ⟨.agg s3.frz,.one (.frz (.data rfl)),trivial⟩ rfl ?_);simp[hn];exact⟨λ_ _ x=>x,Zb.of ⟨by simp[hn],by simp[h0],by simp[h5],by simp[h7],sI,Z0.refl.next.next.next.next⟩⟩;rintro e bn ⟨hn,h0,h5,h7,d7,b9⟩;have b5:=ci.trans b9;have s4:=s.frame b5;have fb:=s4.box;have du:bn.box (h.ep,80)=some (Zf step x6 x12 x13 x22):=by rw[b9.2 _ (by simp<;>omega) sI];exact bu
 have cc:bn.box (h.ep+1,112)=some [C.d (D.str T.name),.mrow l2 0 T.cols.length cap2,c2]:=by rw[b9.2 _ (by simp<;>omega) sI];exact dp
 simp[hn,d7];cases hw2:w.2 with|true=>?_|false=>?_;simp only[hw2,cond_true] at hm;obtain⟨rfl,rfl⟩:=ZJ hm;simp[hn];exact hk _ _ s4.ows (b5.mn) (λk hk=>.inl hk);simp only[hw2,cond_false] at hm;obtain⟨b,ei,hm⟩:=hm.bind;simp[hn,h0,h7,fb];refine Za (Z3.qD (Ia S.fks 179 [T.enc] (λfk=>FV fk T) (λxa v hv=>Qd xa T v hv) b ei) ⟨.one (.frz s4.wS),.one (.fn rfl ?_),trivial⟩ rfl ?_);intro j cp ds hj hd;cases j with
 |zero=>?_
 |succ j=>simp at hj
 simp at hj hd;subst hj hd;exact⟨_,cc,dn _ b5⟩;simp;have ed:=b9.next;have b6:=b5.next;have s5:=s.frame b6;cases b with|true=>?_|false=>?_;obtain⟨rfl,rfl⟩:=ZJ hm;simp[hn];exact hk _ _ s5.ows (b6.mn) (λk hk=>.inl hk);simp only[cond_false] at hm;have d4:=s5.box;simp at d4;simp[hn,h0,d4];refine WQ s5.len.2.1.1 ?_;simp[hn];have dg:bn.next.box (h.ep,80)=some (Zf step x6 x12 x13 x22):=du;have dk:bn.next.box (h.ep+1,112)=some [C.d (D.str T.name),.mrow l2 0 T.cols.length cap2,c2]:=cc;have dc:bn.next.box lt=some B:=by rw[b6.2 lt (s.lt lt (by simp[tv.tm])) sI];exact bx
 have dx:h.ep+1<bn.next.ep:=Y3 eu ed.1;obtain⟨e9,de,ey,-⟩:=s5.rB;refine Z4.for (xs:=S.fks) (s0:=S) (λk S1 e h1=>e.get 84=.one fc/\e.get 85=.i (S.fks.length:Int)/\e.get 86=.i (k:Int)/\PG h l (.mrow lt 0 S.tables.length cap) fc oc ta fa oa S (Zf step x6 x12 x13 x22) [C.d (D.str T.name),.mrow l2 0 T.cols.length cap2,c2] B lt S1 e h1) hm
  ⟨sI,sI,sI,fc,fa,[],e9,by simp[hn],by simp[h0],by simp[h5],by simp[h7],rfl,rfl,sI,s5,λk hk=>.inl hk,b6.mn,dg,dk,dc,dx,de,ey▸VG.init de (λk hk=>s5.lt k (by simp[s.qJ.2.1 k hk]))⟩ ?_ ?_
 rintro k S1 e h1 ⟨bp,bb,ay,b3,b0,ad,xs,hn,h0,h5,h7,bv,be,cb,s1,al,bg,bq,bh,bw,bi,mx,ox⟩ ac hm;have hw:IntKind.i64.wrap ((k:Int)+1)=(k:Int)+1:=Y5 _ (by have:=s5.len.2.1.2;simp at this;omega);obtain⟨l0,ar,B0,x,rfl,d8,cj,hx,ca⟩:=ox k ac;have et:S1.fks[k]?=some S.fks[k]:=by rw[cb,Yq ac,Y1 ac]
 obtain⟨lf,cf,Bf,c1f,rfl,ag,el,fz,cl,-,-⟩:=s1.fk et;obtain rfl:x=[.d (.str S.fks[k].table),c1f,.d (.str S.fks[k].ref)]:=by obtain⟨e5,ez,Bf',e2,hb2,a8⟩:=mx.at hx;simp at e2;obtain⟨rfl,-,-⟩:=e2;have e3:=el.box;rw[hb2] at e3;cases e3;have e4:=el.rd0 3 oM;rw[a8] at e4;simpa using e4
 have hz:Z0 h1 ((h1.qA (h1.ep,256) [C.d (D.str empty),C.nil,C.d (D.str empty)]).next.qA (h1.ep,256) [.d (.str S.fks[k].table),c1f,.d (.str S.fks[k].ref)]) []:=((Z0.refl.qA (.inr (Y7 _))).next).qA (.inr (Y7 _));have cz:=Zm (l:=(h.ep+1,112)) (n:=h1.ep) (by simpa using bi);have fl:=Zm (s1.lt l sI);simp only[Kr] at hm;simp[hn,h7,bp,bb,ay,ac,cj,ca,bh,cz];generalize hX2:(h1.qA (h1.ep,256) [C.d (D.str empty),C.nil,C.d (D.str empty)]).next.qA (h1.ep,256) [.d (.str S.fks[k].table),c1f,.d (.str S.fks[k].ref)]=HZ at hz;have dv:HZ.box (h1.ep,256)=some [.d (.str S.fks[k].table),c1f,.d (.str S.fks[k].ref)]:=by rw[<-hX2];simp
 have fh:h1.ep<HZ.ep:=by rw[<-hX2];simp
 have sz:=s1.frame hz;have bm:HZ.box (h.ep,80)=some (Zf step x6 x12 x13 x22):=by rw[hz.2 _ (by simp<;>omega) sI];exact bq
 have bz:HZ.box (h.ep+1,112)=some [C.d (D.str T.name),.mrow l2 0 T.cols.length cap2,c2]:=by rw[hz.2 _ (by simpa using bi) sI];exact bh
 have bt:HZ.box lt=some B:=by rw[hz.2 _ (s1.lt lt (by simp[tv.tm])) sI];exact bw
 have mz:MR HZ 3 (.mrow lf 0 S1.fks.length cf) xs:=mx.frame λk hk=>hz.2 k (s1.lt k (by simp[s1.qJ.2.1 k hk])) sI;have oz:=ox.frame hz;cases hbt:strEq S.fks[k].table T.name with|false=>?_|true=>?_;simp only[hbt,cond_false] at hm;simp[hn,ay,hw];rw[hX2];exact Ze.of S1 ⟨⟨by simp[bp],by simp[bb],sI,_,b0,ad,xs,by simp[hn],by simp[h0],by simp[h5],by simp[h7],bv,be,cb,sz,al,bg.trans (hz.mn),bm,bz,bt,oM,mz,oz⟩,hm⟩;simp only[hbt,cond_true] at hm;obtain⟨hlim,hm⟩:=hm.chk;simp;rw[hX2];have ce:=sz.box;refine Z4.cu [0,1,2,3,4,5,6,7,8,10,11,9,12,13,14,15,16,17] (λe h2=>e.get 84=.one (.mrow l0 0 S.fks.length ar)/\e.get 85=.i (S.fks.length:Int)/\e.get 86=.i (k:Int)/\PG h l (.mrow lt 0 S.tables.length cap) (.mrow l0 0 S.fks.length ar) oc ta fa oa S (Zf step x6 x12 x13 x22) [C.d (D.str T.name),.mrow l2 0 T.cols.length cap2,c2] B lt {S1 with fks:=S1.fks++[⟨step.other,S.fks[k].cols,S.fks[k].ref⟩]} e h2) ?_ ?_;simp[hn,h0,h5,ce,bm,dv,b4];refine Za (CN _ c1f (S.fks[k].cols.map λc=>(Zd c).map C.d) (by rw[Uo];exact(fz HZ hz).rowAt (n:=1) (by simp[D.flat]) (by simpa using cl.2)) _ (λpc h2 mp hs2 c6 d1=>?_));simp[hn];refine⟨d1,?_⟩;have d6:Ow h2 Vb [.d (.str step.other),pc,.d (.str S.fks[k].ref)] (⟨step.other,S.fks[k].cols,S.fks[k].ref⟩:Fk).enc (labs pc):=by
  refine .data rfl ?_
  have:=Ow.rU (es:=[.d]) (n:=1) (ts:=S.fks[k].cols.map Zd) (by rw[<-Uo];exact mp) rfl sI (Ow.data (c:=.d (.str S.fks[k].ref)) (x:=.str S.fks[k].ref) rfl .nil)
  simpa using this
 have fg:=hs2.1;have fin:∀(h3:HS) (x':List C) (lx:List Z2),Z0 h2 h3 []->(∀h',(∀k∈labs pc,h'.box k=h2.box k)->Ow h' Vb x' (⟨step.other,S.fks[k].cols,S.fks[k].ref⟩:Fk).enc lx)->(∀k∈lx,k∈labs pc)->lx.Nodup->∀(c':C) (h':HS),MR h' 3 c' (xs++[x'])->
   ((Z0 h3 h' (labs (.mrow lf 0 S1.fks.length cf))/\labs c'=labs (.mrow lf 0 S1.fks.length cf))\/(Z0 h3 h' []/\∀k∈labs c',h3.ep<=k.1/\k.1<h'.ep))->
   h'.box l=some [.mrow lt 0 S.tables.length cap,.mrow lf 0 S1.fks.length cf,oc]/\∃bc,Sc (h'.qA l [.mrow lt 0 S.tables.length cap,c',oc]) l {S1 with fks:=S1.fks++[⟨step.other,S.fks[k].cols,S.fks[k].ref⟩]} (.mrow lt 0 S.tables.length cap) c' oc ta bc oa/\(∀k∈bc,k∈fa\/h.ep+1<k.1)/\
    Z0 h (h'.qA l [.mrow lt 0 S.tables.length cap,c',oc]) (l::(ta++(fa++oa)))/\(h'.qA l [.mrow lt 0 S.tables.length cap,c',oc]).box (h.ep,80)=some (Zf step x6 x12 x13 x22)/\(h'.qA l [.mrow lt 0 S.tables.length cap,c',oc]).box (h.ep+1,112)=some [C.d (D.str T.name),.mrow l2 0 T.cols.length cap2,c2]/\(h'.qA l [.mrow lt 0 S.tables.length cap,c',oc]).box lt=some B/\
    h.ep+1<(h'.qA l [.mrow lt 0 S.tables.length cap,c',oc]).ep/\MR (h'.qA l [.mrow lt 0 S.tables.length cap,c',oc]) 3 c' (xs++[x'])/\VG (h'.qA l [.mrow lt 0 S.tables.length cap,c',oc]) (.mrow l0 0 S.fks.length ar) (xs++[x']) S.fks.length 3:=by
  intro h3 x' lx hs3 ex dh e7 c' h' ak hd;have af:Z0 HZ h3 []:=hs2.trans hs3;have s3:=sz.frame af;obtain⟨ys,my,-,add⟩:=s3.rB;have m3:MR h3 3 (.mrow lf 0 S1.fks.length cf) xs:=mz.frame λk hk=>af.2 k (sz.lt k (by simp[sz.qJ.2.1 k hk])) sI;obtain rfl:=my.uniq m3;have ah:Z0 h3 h' (labs (.mrow lf 0 S1.fks.length cf)):=hd.elim (λh=>h.1) λh=>h.1.mn;have bd:∀k∈labs c',k∈labs (.mrow lf 0 S1.fks.length cf)\/(h3.ep<=k.1/\k.1<h'.ep):=λk hk=>hd.elim (λh=>.inl (h.2▸hk)) λh=>.inr (h.2 k hk);have ae:∀k∈labs (.mrow lf 0 S1.fks.length cf),k=lf:=λk hk=>by simpa[labs] using hk
  have fj:=s1.lt lf (by simp[ag]);have da:=hs3.1;have cx:=ah.1;have en:∀k∈labs pc,h'.box k=h2.box k:=λk hk=>by
   have aa:=c6 k hk;rw[ah.2 k oM λap=>by have:=ae k ap;subst this;omega];exact hs3.2 k aa.2 sI
  have ab:∀k:Z2,k.1<HZ.ep->k≠lf->k≠l->(h'.qA l [.mrow lt 0 S.tables.length cap,c',oc]).box k=HZ.box k:=λk aa ap bo=>by
   simp only[J5,bo,if_false];rw[ah.2 k oM λcw=>ap (ae k cw),af.2 k aa sI]
  obtain⟨bc,s6,di⟩:=add h' c' x' _ lx ak ah bd (ex h' en) e7 (λk hk=>by
   have aa:=c6 k (dh k hk);refine⟨oM,λap=>by have:=sz.lt k ap;omega,λap=>?_⟩;rcases bd k ap with bo|bo
   have:=ae k bo;subst this;omega
   omega) _ rfl
  have b1:∀k∈labs c',k≠l:=λk hk he=>by
   rcases bd k hk with aa|aa
   have:=ae k aa;subst this;subst he;exact s1.nl.2.1 ag
   have:=s1.lt l sI;rw[<-he] at this;omega
  have aw:∀b,((h.ep,b):Z2)≠lf/\((h.ep,b):Z2)≠l:=λb=>⟨λhe=>by
   rcases al lf ag with aa|aa
   have:=s.lt lf (by simp[aa]);rw[<-he] at this;simp at this
   rw[<-he] at aa;have dm:h.ep+1<h.ep:=aa;omega,λhe=>by have:=s.lt l sI;rw[<-he] at this;simp at this⟩
  have ax:∀b,((h.ep+1,b):Z2)≠lf/\((h.ep+1,b):Z2)≠l:=λb=>⟨λhe=>by
   rcases al lf ag with aa|aa
   have:=s.lt lf (by simp[aa]);rw[<-he] at this;simp at this;omega
   rw[<-he] at aa;simp at aa,λhe=>by have:=s.lt l sI;rw[<-he] at this;simp at this;omega⟩
  refine⟨s3.keep ah λk hk=>.inr (.inl (s3.qJ.2.1 k hk)),bc,s6,λk hk=>?_,?_,?_,?_,?_,by simp<;>omega,ak.frame λk hk=>by simp[b1 k hk],(((oz.frame af).step m3 ak hd).set λk hk he=>?_)⟩;rcases di k hk with aa|aa|aa;exact al k aa
  have:=c6 k (dh k aa);exact .inr oM
  exact .inr oM;refine Z0.qA ((bg.trans ((hz.trans af).mn)).trans' ah λk hk=>?_) (.inl sI)
  have:=ae k hk
  subst this;exact(al k ag).imp (λaa=>by simp[aa]) λaa=>oM;rw[ab _ (by simp<;>omega) (aw 80).1 (aw 80).2];exact bm;rw[ab _ (by simp<;>omega) (ax 112).1 (ax 112).2];exact bz;refine(ab lt (by have:=s1.lt lt (by simp[tv.tm]);omega) (λhe=>?_) λhe=>s.nl.1 (he▸tv.tm)).trans bt;have h6:=s1.nd;simp only[Xm,Yg,Y2] at h6;exact h6.2.2.2 lt tv.tm lf (.inl ag) he;simp[labs] at hk;subst hk;subst he;exact s.nl.2.1 (s.qJ.2.1 _ (by simp[labs]))
 have hxl:xs.length=S1.fks.length:=by have aa:=mx.len;simp[ZW] at aa;exact aa.symm
 have au:xs.length+1<=Zs:=by rw[hxl];exact hlim
 refine Cc (x:=[.d (.str step.other),pc,.d (.str S.fks[k].ref)]) (by simp[Zt];cases pc.toD<;>rfl) sI (λd bd=>?_) (λ_=>?_);obtain⟨rfl,ea⟩:=d6.ofD bd;have hs3:Z0 h2 ((h2.qC (h2.ep,16*108) (some (1,3))).next) []:=Z0.refl.qC.next;simp[hn];refine Ho (by simp;exact⟨rfl,rfl⟩) sI sI sI (mz.frame λk hk=>(hs2.trans hs3).2 k (sz.lt k (by simp[sz.qJ.2.1 k hk])) sI) (Zk.qU sI) (by simpa using au) (λc' h' ak hd=>?_);obtain⟨br,bc,s6,t1,t2,t3,t4,t5,t6,t7,t8⟩:=fin _ _ [] hs3 (λh' _=>ea h') sI XJ c' h' ak hd;simp[hn,br];exact Zb.of ⟨by simp[bp],by simp[bb],by simp[ay],c',bc,_,_,by simp[hn],by simp[h0],by simp[h5],by simp[h7],bv,be,by simp[cb];rfl,s6,t1,t2,t3,t4,t5,t6,t7,t8⟩;have hs3:Z0 h2 ((h2.qA (h2.ep,16*108) [.d (.str step.other),pc,.d (.str S.fks[k].ref)]).next) []:=(Z0.refl.qA (.inr (Y7 _))).next;simp[hn];refine Ho (by simp;exact⟨rfl,rfl⟩) sI sI sI (mz.frame λk hk=>(hs2.trans hs3).2 k (sz.lt k (by simp[sz.qJ.2.1 k hk])) sI) (Zk.jY (x:=[.d (.str step.other),pc,.d (.str S.fks[k].ref)]) sI sI) (by simpa using au) (λc' h' ak hd=>?_);obtain⟨br,bc,s6,t1,t2,t3,t4,t5,t6,t7,t8⟩:=fin _ _ (labs pc) hs3 (λh' hb'=>d6.frame hb') (λ_ h=>h) Va c' h' ak hd;simp[hn,br];exact Zb.of ⟨by simp[bp],by simp[bb],by simp[ay],c',bc,_,_,by simp[hn],by simp[h0],by simp[h5],by simp[h7],bv,be,by simp[cb];rfl,s6,t1,t2,t3,t4,t5,t6,t7,t8⟩;rintro e h2 ⟨bp,bb,ay,hp⟩;have hn:=hp;obtain⟨_,_,_,_,hn,h0,h5,h7,-⟩:=hn;simp[hn,ay,hw];obtain⟨ch,cd,cq,ck,-,-,-,-,q⟩:=hp;exact Ze.of _ ⟨⟨by simp[bp],by simp[bb],sI,ch,cd,cq,ck,by simp[hn],by simp[h0],by simp[h5],by simp[h7],q⟩,hm⟩;rintro S1 e h1 ⟨_,bb,ay,b3,b0,ad,xs,hn,h0,h5,h7,bv,be,_,s1,al,bg,bq,bh,bw,bi,_,_⟩ hm;have ff:=s1.box;simp[hn,h0,bb,ay,ff];refine WQ s1.len.2.2.1 ?_;rw[be];simp[hn];obtain⟨yo,dd,df,-⟩:=s1.wR;rw[be] at df
 refine Z4.for (xs:=S.cons) (s0:=S1) (λk S2 e h2=>e.get 116=.one oc/\e.get 117=.i (S.cons.length:Int)/\e.get 118=.i (k:Int)/\PF h l (.mrow lt 0 S.tables.length cap) b3 oc ta fa b0 oa S (Zf step x6 x12 x13 x22) [C.d (D.str T.name),.mrow l2 0 T.cols.length cap2,c2] B lt S2 e h2) hm
  ⟨sI,sI,sI,oc,oa,[],yo,by simp[hn],by simp[h0],by simp[h5],by simp[h7],bv,by simp[be],s1,λk hk=>.inl hk,bg,bq,bh,bw,bi,dd,df▸VG.init dd (λk hk=>s1.lt k (by simp[s.qJ.2.2 k hk]))⟩ ?_ ?_
 rintro k S2 e h2 ⟨ba,aj,am,d0,cy,ad,xs,hn,h0,h5,h7,a8,cm,s2,aq,bl,a7,az,bf,bk,mx,ox⟩ ac hm;have hw:IntKind.i64.wrap ((k:Int)+1)=(k:Int)+1:=Y5 _ (by have:=s5.len.2.2.2;simp at this;omega);obtain⟨l0,ar,B0,x,rfl,d8,cj,hx,ca⟩:=ox k ac;have b8:S2.cons[k]?=some S.cons[k]:=by rw[cm,Yq ac,Y1 ac]
 obtain⟨lf,cf,Bf,rfl,ag,el,-⟩:=s2.con b8;obtain rfl:x=S.cons[k].enc.map C.d:=by obtain⟨e5,ez,Bf',e2,hb2,a8⟩:=mx.at hx;simp at e2;obtain⟨rfl,-,-⟩:=e2;have e3:=el.box;rw[hb2] at e3;cases e3;have e4:=el.rd0 7 oM;rw[a8] at e4;simpa using e4
 simp only[Cons.enc,Yb,Yd] at ca;have eh:=Zm (l:=(h.ep,80)) (n:=h2.ep) (by simp<;>omega);have cz:=Zm (l:=(h.ep+1,112)) (n:=h2.ep) (by simpa using bk);simp only[Kq] at hm;simp[hn,h7,ba,aj,am,ac,cj,ca,az,cz];cases hbt:strEq S.cons[k].table T.name with|false=>?_|true=>?_;simp only[hbt,cond_false] at hm;have hz:Z0 h2 ((h2.qA (h2.ep,288) [C.d (D.str empty),C.d (D.int IntKind.i64 0),C.d (D.str empty),C.d (D.int IntKind.i64 0),C.d (D.int IntKind.i64 0),C.d (D.int IntKind.i64 0),C.d (D.str empty)]).next.qA (h2.ep,288) (S.cons[k].enc.map C.d)) []:=((Z0.refl.qA (.inr (Y7 _))).next).qA (.inr (Y7 _));have sz:=s2.frame hz;have oz:=ox.frame hz;have mz:=mx.frame (h':=(h2.qA (h2.ep,288) [C.d (D.str empty),C.d (D.int IntKind.i64 0),C.d (D.str empty),C.d (D.int IntKind.i64 0),C.d (D.int IntKind.i64 0),C.d (D.int IntKind.i64 0),C.d (D.str empty)]).next.qA (h2.ep,288) (S.cons[k].enc.map C.d)) λk hk=>hz.2 k (s2.lt k (by simp[s2.qJ.2.2 k hk])) sI;have bm:=(hz.2 (h.ep,80) (by simp<;>omega) sI).trans a7;have bz:=(hz.2 (h.ep+1,112) (by simpa using bk) sI).trans az;have bt:=(hz.2 lt (s2.lt lt (by simp[tv.tm])) sI).trans bf;have dr:=hz.1;simp only[Cons.enc,Yb,Yd] at hz sz oz mz bm bz bt dr;simp[hn,am,hw];exact Ze.of S2 ⟨⟨by simp[ba],by simp[aj],sI,_,cy,ad,xs,by simp[hn],by simp[h0],by simp[h5],by simp[h7],a8,cm,sz,aq,bl.trans (hz.mn),bm,bz,bt,oM,mz,oz⟩,hm⟩;simp only[hbt,cond_true] at hm;obtain⟨hlim,hm⟩:=hm.chk;simp(maxDischargeDepth:=12) [hn,h5,eh,a7,b4];have hz:Z0 h2 (((h2.qA (h2.ep,288) [C.d (D.str empty),C.d (D.int IntKind.i64 0),C.d (D.str empty),C.d (D.int IntKind.i64 0),C.d (D.int IntKind.i64 0),C.d (D.int IntKind.i64 0),C.d (D.str empty)]).next.qA (h2.ep,288) [C.d (D.str S.cons[k].table),C.d (D.int IntKind.i64 S.cons[k].left),C.d (D.str S.cons[k].op),C.d (D.int IntKind.i64 S.cons[k].right),C.d (D.int IntKind.i64 S.cons[k].value.kind),C.d (D.int IntKind.i64 S.cons[k].value.int),C.d (D.str S.cons[k].value.text)]).qA (h2.ep,288) [C.d (D.str step.other),C.d (D.int IntKind.i64 S.cons[k].left),C.d (D.str S.cons[k].op),C.d (D.int IntKind.i64 S.cons[k].right),C.d (D.int IntKind.i64 S.cons[k].value.kind),C.d (D.int IntKind.i64 S.cons[k].value.int),C.d (D.str S.cons[k].value.text)]) []:=(((Z0.refl.qA (.inr (Y7 _))).next).qA (.inr (Y7 _))).qA (.inr (Y7 _))
 generalize hX3:(((h2.qA (h2.ep,288) [C.d (D.str empty),C.d (D.int IntKind.i64 0),C.d (D.str empty),C.d (D.int IntKind.i64 0),C.d (D.int IntKind.i64 0),C.d (D.int IntKind.i64 0),C.d (D.str empty)]).next.qA (h2.ep,288) [C.d (D.str S.cons[k].table),C.d (D.int IntKind.i64 S.cons[k].left),C.d (D.str S.cons[k].op),C.d (D.int IntKind.i64 S.cons[k].right),C.d (D.int IntKind.i64 S.cons[k].value.kind),C.d (D.int IntKind.i64 S.cons[k].value.int),C.d (D.str S.cons[k].value.text)]).qA (h2.ep,288) [C.d (D.str step.other),C.d (D.int IntKind.i64 S.cons[k].left),C.d (D.str S.cons[k].op),C.d (D.int IntKind.i64 S.cons[k].right),C.d (D.int IntKind.i64 S.cons[k].value.kind),C.d (D.int IntKind.i64 S.cons[k].value.int),C.d (D.str S.cons[k].value.text)])=HZ at hz|-;have dz:HZ.box (h2.ep,288)=some [C.d (D.str step.other),C.d (D.int IntKind.i64 S.cons[k].left),C.d (D.str S.cons[k].op),C.d (D.int IntKind.i64 S.cons[k].right),C.d (D.int IntKind.i64 S.cons[k].value.kind),C.d (D.int IntKind.i64 S.cons[k].value.int),C.d (D.str S.cons[k].value.text)]:=by rw[<-hX3];simp
 have sz:=s2.frame hz;have ce:=sz.box;refine Z4.cu [0,1,2,3,4,5,6,7,8,9,10] (λe h3=>e.get 116=.one (.mrow l0 0 S.cons.length ar)/\e.get 117=.i (S.cons.length:Int)/\e.get 118=.i (k:Int)/\PF h l (.mrow lt 0 S.tables.length cap) b3 (.mrow l0 0 S.cons.length ar) ta fa b0 oa S (Zf step x6 x12 x13 x22) [C.d (D.str T.name),.mrow l2 0 T.cols.length cap2,c2] B lt {S2 with cons:=S2.cons++[{S.cons[k] with table:=step.other}]} e h3) ?_ ?_;simp[hn,h0,ce,dz];have hs3:Z0 HZ ((HZ.qC (HZ.ep,16*136) (some (1,7))).next) []:=Z0.refl.qC.next;simp only[Nat.reduceMul] at hs3;have af:=hz.trans hs3;have s3:=s2.frame af;obtain⟨ys,my,em,add⟩:=s3.wR;have m3:=mx.frame λk hk=>af.2 k (s2.lt k (by simp[s2.qJ.2.2 k hk])) sI;obtain rfl:=my.uniq m3;have au:ys.length+1<=Zs:=by rw[em];exact hlim
 refine Ho (by simp;exact⟨rfl,rfl⟩) sI sI sI my (Zk.qU sI) (by simpa using au) (λc' h' ak hd=>?_);have ah:Z0 _ h' (labs (.mrow lf 0 S2.cons.length cf)):=hd.elim (λh=>h.1) λh=>h.1.mn;have bd:∀k∈labs c',k∈labs (.mrow lf 0 S2.cons.length cf)\/(h2.ep<=k.1/\k.1<h'.ep):=λk hk=>hd.elim (λh=>.inl (h.2▸hk)) λh=>.inr ⟨Yv af.1 (h.2 k hk).1,(h.2 k hk).2⟩;have eb:∀k∈labs c',k∈labs (.mrow lf 0 S2.cons.length cf)\/(_<=k.1/\k.1<h'.ep):=λk hk=>hd.elim (λh=>.inl (h.2▸hk)) λh=>.inr (h.2 k hk);have ae:∀k∈labs (.mrow lf 0 S2.cons.length cf),k=lf:=λk hk=>by simpa[labs] using hk
 have da:=af.1;have cx:=ah.1;have br:=s3.keep ah λk hk=>.inr (.inr (s3.qJ.2.2 k hk));obtain⟨e6,s6,dj⟩:=add h' c' {S.cons[k] with table:=step.other} (by simpa using ak) ah eb;have ab:∀k:Z2,k.1<h2.ep->k≠lf->k≠l->(h'.qA l [.mrow lt 0 S.tables.length cap,b3,c']).box k=h2.box k:=λk aa ap bo=>by
  simp only[J5,bo,if_false];rw[ah.2 k oM λcw=>ap (ae k cw),af.2 k aa sI]
 have b1:∀k∈labs c',k≠l:=λk hk he=>by
  rcases bd k hk with aa|aa
  have:=ae k aa;subst this;subst he;exact s2.nl.2.2 ag
  have:=s2.lt l sI;rw[<-he] at this;omega
 have aw:((h.ep,80):Z2)≠lf/\((h.ep,80):Z2)≠l:=⟨λhe=>by
  rcases aq lf ag with aa|aa
  have:=s.lt lf (by simp[aa]);rw[<-he] at this;simp at this
  rw[<-he] at aa;have dm:h.ep+1<h.ep:=aa;omega,λhe=>by have:=s.lt l sI;rw[<-he] at this;simp at this⟩
 have ax:((h.ep+1,112):Z2)≠lf/\((h.ep+1,112):Z2)≠l:=⟨λhe=>by
  rcases aq lf ag with aa|aa
  have:=s.lt lf (by simp[aa]);rw[<-he] at this;simp at this;omega
  rw[<-he] at aa;simp at aa,λhe=>by have:=s.lt l sI;rw[<-he] at this;simp at this;omega⟩
 simp[hn,h0,br];refine Zb.of ⟨by simp[ba],by simp[aj],by simp[am],c',e6,_,_,by simp[hn],by simp[h0],by simp[h5],by simp[h7],a8,by simp[cm];rfl,s6,λk hk=>?_,?_,?_,?_,?_,by simp<;>omega,ak.frame λk hk=>by simp[b1 k hk],(((ox.frame af).step my ak hd).set λk hk he=>?_)⟩;rcases dj k hk with aa|aa;exact aq k aa;exact .inr oM;refine Z0.qA ((bl.trans (af.mn)).trans' ah λk hk=>?_) (.inl sI)
 have:=ae k hk
 subst this;exact(aq k ag).imp (λaa=>by simp[aa]) λaa=>oM;rw[ab _ (by simp<;>omega) aw.1 aw.2];exact a7;rw[ab _ (by simpa using bk) ax.1 ax.2];exact az;refine(ab lt (s2.lt lt (by simp[tv.tm])) (λhe=>?_) λhe=>s.nl.1 (he▸tv.tm)).trans bf;have h6:=s2.nd;simp only[Xm,Yg,Y2] at h6;exact h6.2.2.2 lt tv.tm lf (.inr ag) he;simp[labs] at hk;subst hk;subst he;exact s.nl.2.2 (s.qJ.2.2 _ (by simp[labs]));rintro e h3 ⟨ba,aj,am,hp⟩;have hn:=hp;obtain⟨_,_,_,_,hn,h0,h5,h7,-⟩:=hn;simp[hn,am,hw];obtain⟨ch,cd,cq,ck,-,-,-,-,q⟩:=hp;exact Ze.of _ ⟨⟨by simp[ba],by simp[aj],sI,ch,cd,cq,ck,by simp[hn],by simp[h0],by simp[h5],by simp[h7],q⟩,hm⟩;rintro S2 e h2 ⟨_,aj,am,d0,cy,ad,xs,hn,h0,h5,h7,a8,_,s2,aq,bl,a7,az,bf,bk,_,_⟩ hm;obtain⟨S3,hm3,hm⟩:=hm.bind;obtain⟨rfl,rfl⟩:=ZJ hm;simp[hn,h7,aj,am,az];have ec:S2.tables[i]?=some T:=by rw[a8];exact hi
 have eo:∀h',Z0 h2 h' []->Zx h' [C.d (D.str T.name),.mrow l2 0 T.cols.length cap2,c2] T.enc:=by
  obtain⟨a1,a2,cn⟩:=s2.jC bf ec;obtain⟨rfl,rfl⟩:a1=.mrow l2 0 T.cols.length cap2/\a2=c2:=by
   have:=cn.el.rd0 3 oM
   rw[r0] at this;simp at this;exact⟨this.1.symm,this.2.symm⟩
  exact λh' hs=>⟨.data rfl,cn.f1 h' hs,cn.f2 h' hs,trivial⟩
 refine Za (IC _ _ T eo ⟨tv.n1.2,tv.n2.2⟩ _ ?_);intro cs' h6 ls' cg dw bj b7 _;obtain⟨y1,y2,rfl⟩:∃y1 y2,cs'=[C.d (D.str T.name),y1,y2]:=by
  have h9:=cg.len.1
  match cs',h9,cg with
  |[a,b,c],_,hO=>obtain rfl:=hO.frz.1.flat rfl;exact⟨b,c,rfl⟩
 have s6:=s2.frame b7;have fi:=b7.1;have c7:h6.box (h.ep,80)=some (Zf step x6 x12 x13 x22):=by rw[b7.2 _ (by simp<;>omega) sI];exact a7
 have ek:=Zm (l:=(h.ep,80)) (n:=h6.ep) (by simp<;>omega);simp(maxDischargeDepth:=12) [hn,h0,h5,c7,ek,b4];have hz:Z0 h6 (((h6.qA (h6.ep,304) [C.d (D.str empty),C.nil,C.nil]).next.qA (h6.ep,304) [C.d (D.str T.name),y1,y2]).qA (h6.ep,304) [C.d (D.str step.other),y1,y2]) []:=((Z0.refl.qA (.inr (Y7 _))).next.qA (.inr (Y7 _))).qA (.inr (Y7 _));have eg:=cg.frame (h':=(((h6.qA (h6.ep,304) [C.d (D.str empty),C.nil,C.nil]).next.qA (h6.ep,304) [C.d (D.str T.name),y1,y2]).qA (h6.ep,304) [C.d (D.str step.other),y1,y2])) λk hk=>hz.2 k (bj k hk).2 sI;have e0:Ow (((h6.qA (h6.ep,304) [C.d (D.str empty),C.nil,C.nil]).next.qA (h6.ep,304) [C.d (D.str T.name),y1,y2]).qA (h6.ep,304) [C.d (D.str step.other),y1,y2]) Wn [C.d (D.str step.other),y1,y2] ({T with name:=step.other}:Tbl).enc ls':=by obtain⟨_,_,_,_,e1,e2,e3,h8⟩:=eg.jJ;simp only[Tbl.enc,List.cons.injEq] at e1 e2;obtain⟨rfl,rfl⟩:=e1;obtain⟨rfl,rfl⟩:=e2;exact .data rfl h8
 have dr:=hz.1;refine Za (Gc _ l _ b3 d0 ta b0 cy ls' S2 S3 _ _ hm3 (s6.frame hz) e0 ⟨dw,λk hk=>⟨by have:=(bj k hk).2;omega,λap=>by have:=s2.lt k ap;have:=(bj k hk).1;omega⟩⟩ _ (λh7 fm ta' s7 ew d3=>?_));simp[hn];have hall:Z0 h (((h6.qA (h6.ep,304) [C.d (D.str empty),C.nil,C.nil]).next.qA (h6.ep,304) [C.d (D.str T.name),y1,y2]).qA (h6.ep,304) [C.d (D.str step.other),y1,y2]) (l::(ta++(fa++oa))):=bl.trans ((b7.trans hz).mn);refine hk _ _ s7.ows (hall.trans (ew.mono λk hk=>by simp only[Y9,Y2] at hk|-;exact hk.imp_right .inl)) λk hk=>?_;simp only[Y2] at hk|-;rcases hk with hk|hk|hk;rcases d3 k hk with aa|aa|aa;exact .inl (.inl aa)
 have:=(bj k aa).1;exact .inr oM
 exact .inr (Yv hall.1 aa);exact(al k hk).imp (λh=>.inr (.inl h)) λh=>oM;exact(aq k hk).imp (λh=>.inr (.inr h)) λh=>oM

theorem Qe(h:HS)(l:Z2)(tc fc oc:C)(ta fa oa:List Z2)(S S':Sch)(c:Fk)(cs:List C)(r:Int)(hm:Is (BM S c) (S',r))(ho:Sc h l S tc fc oc ta fa oa)(hf:∀h',Z0 h h' []->Zx h' cs c.enc)(K:V->HS->Prop)(hk:∀h' fc' ae,Sc h' l S' tc fc' oc ta ae oa->Z0 h h' (l::fa)->(∀k∈ae,k∈fa)->K (.i r) h'):
  Z3 prog 149 [.p l,.agg cs] h K:=by
 obtain⟨qt,qf,qo,rfl,rfl,rfl,s⟩:=ho;obtain⟨k,ac,hm⟩:=hm.bind;obtain⟨a1,a2,a3,rfl⟩:∃a b d,cs=[a,b,d]:=by
  have:=(hf h .refl).get.1
  match cs,this with
  |[a,b,d],_=>exact⟨a,b,d,rfl⟩
 refine Z3.ov Tryz.func149 ?_;simp;have aa:Z0 h ((h.qA (h.ep,48) [a1,a2,a3]).next) []:=(Z0.refl.qA (.inr (Y7 _))).next;have s1:=s.frame aa;have af:=s1.box;simp at af;simp[af];refine Za (Z3.qD (Ig S.fks 166 [c.enc] (λo=>Cq o c) (λxa v hv=>La xa c v hv) k ac) ⟨.one (.frz s1.f.frz),.one (.fn rfl ?_),trivial⟩ rfl ?_);intro i cp ds hi hd;cases i with
 |zero=>?_
 |succ i=>simp at hi
 simp at hi hd;subst hi hd;exact⟨_,sI,hf _ aa⟩;have hs2:Z0 h (((h.qA (h.ep,48) [a1,a2,a3]).next).next) []:=aa.next;have s2:=s.frame hs2;simp;have hb2:=s2.box;simp at hb2;refine WR (λhlt=>?_) (λhge=>?_);rw[if_pos hlt] at hm;obtain⟨rfl,rfl⟩:=ZJ hm;simp;exact hk _ _ _ ⟨_,_,_,rfl,rfl,rfl,s2⟩ (hs2.mn) (λ_ h=>h);rw[if_neg hge] at hm;obtain⟨aq,hm⟩:=hm.chk;obtain⟨rfl,rfl⟩:=ZJ hm;obtain⟨i,rfl⟩:∃i:Nat,k=i:=⟨k.toNat,oM⟩;have ar:qf.length=S.fks.length:=by have:=congrArg List.length s2.f.ds;simpa using this
 have ag:=s2.f.mr.2.1;have hw:IntKind.i64.wrap ((i:Int)+1)=((i+1:Nat):Int):=by exact Y5 _ (by simp at ag;omega)
 simp[hb2,hw];refine Za (Ld _ fc (qf.map (·.1)) i (i+1) s2.f.mr oM (by simp<;>omega) _ (λc' h2 hm2 hs3 ak ap hlab=>?_));have aj:h2.box l=some [tc,fc,oc]:=by rw[hs3 l (λhm=>s2.ne.2.1 (by simp[Z5,hm])),s2.box]
 simp[aj];have ab:(qf.take i++qf.drop (i+1)).Sublist qf:=Hn oM;have ad:=ES (c:=fc) (c':=c') ab hlab;have hp:=s2.f.sub (h2:=h2.qA l [tc,c',oc]) (c':=c') (qs':=qf.take i++qf.drop (i+1)) (λq hq=>ab.subset hq) ?_ s2.nds.2.1 ?_;have am:Part (h2.qA l [tc,c',oc]) Vb c' (qf.take i++qf.drop (i+1)) ((S.fks.take i++S.fks.drop (i+1)).map Fk.enc):=by
  have:=s2.f.ds
  rw[YP,Xs,Xg,<-this];simpa using hp
 have ah:Z0 ((h.qA (h.ep,48) [a1,a2,a3]).next).next (h2.qA l [tc,c',oc]) (l::Z5 fc qf):=by
  refine⟨by rw[H0,ak];exact Y7 _,λk hk hn=>?_⟩;simp only[Y9,Z5,Y2,not_or] at hn;rw[<-hs3 k hn.2.1];simp[hn.1]
 have s3:=s2.wL sI am ah (ad.nodup s2.nds.2.1) (λk hk=>.inl (ad.subset hk));exact hk _ _ _ ⟨_,_,_,rfl,rfl,rfl,s3⟩ ((hs2.mn).trans ah) (λk hk=>ad.subset hk);have hl2:l∉labs c':=λhm=>s2.ne.2.1 (by rw[hlab] at hm;simp[Z5,hm]);refine MR.frame (h:=h2) (by simpa[Vb] using hm2) (λk hk=>?_)
 have:k≠l:=λhe=>hl2 (he▸hk)
 simp[this];rintro k ac ⟨q,hq,al⟩
 have:k≠l:=λhe=>s2.ne.2.1 (by simp only[Z5,Y2,Yx];exact .inr ⟨q,hq,he▸al⟩)
 rw[<-hs3 k ac];simp[this]
def W3(n:Nat):List Int:=(List.range n).map λ(i:Nat)=>(i:Int)
theorem Ea(h:HS)(n:Nat)(ac:n<=Zs)(K:V->HS->Prop)
  (hk:∀c' h',MR h' 1 c' ((W3 n).map λc=>(Zd c).map C.d)->Z0 h h' []->(∀l∈labs c',h.ep<=l.1/\l.1<h'.ep)->Zo h h'->K (.one c') h'):
  Z3 prog 174 [.i (n:Int)] h K:=by
 refine Z3.jE Tryz.func174 rfl kR λhg=>?_;refine Z3.ov Tryz.func174 ?_;have ag:n<=2097152:=ac;simp;refine Z4.for (xs:=List.range n) (s0:=()) (k:=λ_=>some ()) (body:=λ_ _ s next=>next s) (r:=()) (λk _ e h1=>∃ch,En e 15 [(3,.one ch),(5,.i (n:Int)),(6,.i (k:Int))]/\MR h1 1 ch ((W3 k).map λc=>(Zd c).map C.d)/\Z0 h h1 []/\(∀l∈labs ch,h.ep<=l.1/\l.1<h1.ep)) ?_ ⟨.nil,sI,by simpa[W3] using MR.nil,.refl,by simp[labs]⟩ ?_ ?_
 .have:∀(xs:List Nat) (i:Nat),Zc (ρ:=Unit) (λ_ (_:Nat) (s:Unit) next=>next s) (λ_=>some ()) xs i ()=some ():=λxs=>by
   induction xs with
   |nil=>intro i;rfl
   |cons x xs ih=>intro i;exact ih (i+1)
  exact this _ _
 rintro k _ e h1 ⟨ch,hE,mh,aa,lh⟩ hlt hm;simp at hlt;have hw:IntKind.i64.wrap ((k:Int)+1)=(k:Int)+1:=Y5 _ oM;simp[hE,hlt];have hz:Z0 h1 ((h1.qC (h1.ep,16*11) (some (1,1))).next) []:=Z0.refl.qC.next;simp only[Nat.reduceMul] at hz;refine W5 (by simp;exact⟨rfl,rfl⟩) sI sI sI (mh.frame λk hk=>hz.2 k (lh k hk).2 sI) (Zk.qU sI) (by simp[W3];omega) (λc' h' ab hs3 ad=>?_);have af:=hz.1;have ae:=hs3.1;simp[hE,hw];refine Ze.of _ ⟨⟨c',by simp[hE],?_,(aa.trans hz).trans' hs3 (λk hk=>.inr (lh k hk).1),λl hl=>?_⟩,hm⟩;simpa[W3,List.range_succ] using ab;rcases ad l hl with h2|h2
 have:=lh l h2;omega
 have:=aa.1;omega
 rintro _ e h1 ⟨ch,hE,mh,aa,lh⟩ hm;simp at hE mh;simp[hE];refine hk ch h1 (by simpa using mh) aa lh (aa.jA hg)
def BN(column:Int)(k0:Int)(k1:Stp):Option Int:=
 Z1 (BU k1.cols column) λv1=>Zp (W9 (k0+v1)) (some (k0+v1))
instance It(column:Int)(k0:Int)(k1:Stp):Con (BN column k0 k1) prog 171 [.one (.d (.int .i64 column)),.one (.rp [.int .i64 k0]),.one (.rp [.int .i64 k1.kind,.str k1.table,.str k1.other,.str k1.column,.str k1.newName,.int .i64 k1.type,.sl (k1.cols.map Zd),.str k1.op,.int .i64 k1.value.kind,.int .i64 k1.value.int,.str k1.value.text,.str k1.newTable.name,.sl (k1.newTable.cols.map Col.enc),.sl (k1.newTable.pk.map Zd),.str k1.cons.table,.int .i64 k1.cons.left,.str k1.cons.op,.int .i64 k1.cons.right,.int .i64 k1.cons.value.kind,.int .i64 k1.cons.value.int,.str k1.cons.value.text,.str k1.fk.table,.sl (k1.fk.cols.map Zd),.str k1.fk.ref])] (λr=>.one (.d (.int .i64 r))):=by unfold BN;have p1:PH [1] (Plan.qB [0,1,2,3,4,5,6] .done):=.intro;exact go 11 Tryz.func171
def BT(columns:List Int)(set:List Int):Option Int:=
 Zc (λ(i2:Nat) (x2:Int) (s2:Int) next_2=>Z1 (Ue set x2) λv3=>bif v3 then Zp (W9 (s2+1)) (next_2 (s2+1)) else next_2 s2) (λ(s2:Int)=>bif (s2==0) then some 0 else bif (s2==(columns.length:Int)) then some 2 else some 1) columns 0 0
instance Lv(columns:List Int)(set:List Int):Con (BT columns set) prog 172 [.one (.d (.sl (columns.map Zd))),.one (.d (.sl (set.map Zd)))] (λr=>.one (.d (.int .i64 r))):=by
 unfold BT;have l1:LH (σ:=Int) 10 [0,1,8,9] [.d 5 (λs=>.int .i64 s)]:=.intro;exact go 27 Tryz.func172
def DY(s_:Sch)(t:Tbl)(step:Stp):Option Int:=
 Zc (λ(i5:Nat) (x5:Int) (s5:Unit) next_5=>bif decide (x5<0) then some 3 else bif decide ((t.cols.length:Int)<=x5) then some 3 else bif decide (0<i5) then Zp (W9 ((i5:Int)-1)) (Z7 step.cols ((i5:Int)-1) λx11=>bif decide (x5<=x11) then some 3 else next_5 ()) else next_5 ()) (λ(s5:Unit)=>bif ((step.cols.length:Int)==0) then some 3 else Z1 (BT step.cols t.pk) λv15=>bif (v15 !=0) then some 9 else Z1 (ZY s_ step.other) λv17=>bif v17.2 then some 5 else some 0) step.cols 0 ()
instance QQ(s_:Sch)(t:Tbl)(step:Stp):Con (DY s_ t step) prog 170 [.agg s_.enc,.agg t.enc,.agg step.enc] (λr=>.one (.d (.int .i64 r))):=by unfold DY;have l1:LH (σ:=Unit) 14 [3,4,5,12,13] []:=.intro;exact go 61 Tryz.func170
def FU(c:Cons):Option ((List Int)):=
 bif decide (c.right<0) then some [c.left] else some [c.left,c.right]
instance Qc(c:Cons):Con (FU c) prog 173 [.agg c.enc] (λr=>.one (.d (.sl (r.map Zd)))):=by unfold FU;exact go 14 Tryz.func173
end
end Go.Am
