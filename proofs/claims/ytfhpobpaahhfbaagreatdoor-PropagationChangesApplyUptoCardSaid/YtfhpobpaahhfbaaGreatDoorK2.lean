import Derived.Test.YtfhpobpaahhfbaaGreatDoorK1
import Derived.Lib.Bytealg
import Derived.Lib.ConvBytes
import Derived.Lib.Hide
set_option linter.all false
set_option maxRecDepth 20000
open Go Go.Proofs
open Go.Proofs.Tryz
open ByteArray(empty)
open Go.IntKind(i64)
section
namespace Go.Am
open Go.RowKit (Below)
section
variable{P:Program}{w:World}{a:Act}{e:Env}{h:HS}{μ:Mem}{Γ:Ctx}
inductive LendC(h:HS):C->A->Prop
 |frz {c:C} {x:D} (hf:Frz h c x):LendC h c (.d x)
 |ptr {l:Z2} {off:Nat} {cs:List C} {ds:List D} (hb:h.a l=some cs) (hf:ZI h (cs.drop off) ds):LendC h (.ptr l off) (.rp ds)
 |rp {cs:List D}:LendC h (.rp cs) (.rp cs)
 |fn {f:FuncId} {caps:List Cap} {dss:List (List D)} (hl:caps.length=dss.length) (hc:∀(i:Nat) c ds,caps[i]?=some c->dss[i]?=some ds->match c with
   | .lab l=>∃cs,h.a l=some cs/\ZI h cs ds
   | .rp cs=>cs=ds):LendC h (.fn f caps) (.fn f dss)
inductive LendV(h:HS):V->AV->Prop
 |one {c:C} {x:A} (hc:LendC h c x):LendV h (.one c) (.one x)
 |agg {cs:List C} {ds:List D} (hc:ZI h cs ds):LendV h (.agg cs) (.agg ds)
def Uy(h:HS):List V->List AV->Prop
 |[],[]=>True
 |v::vs,x::xs=>LendV h v x/\Uy h vs xs
 |_,_=>False
def Uy.get:∀{d:List V} {b:List AV},Uy h d b->d.length=b.length/\∀(i:Nat) x,b[i]?=some x->∃v,d[i]?=some v/\LendV h v x
 |[],[],_=>⟨rfl,λi x a=>by simp at a⟩
 |c::cs,y::b,hr=>by
   have⟨f,g⟩:=Uy.get hr.2;refine⟨by simp[f],λi x a=>?_⟩;cases i with
   |zero=>simp at a;subst a;exact⟨c,I,hr.1⟩
   |succ i=>have⟨e,j,k⟩:=g i x (sU a);exact⟨e,sU j,k⟩
 |[],_::_,hr=>hr.elim
 |_::_,[],hr=>hr.elim
def Lg(a:Inv Γ h μ w){c x v}(d:Frz h c x)(b:We μ c v):RepD (WU w) x v:=
 Mb a a.cell (λ_ _ _ _ _ _ _ _ e=>e) d b
def PM(i:Inv Γ h μ w){l d}{a:Nat}{g:aC}(p:h.a l=some d)(q:ZI h (d.drop a) g){b n:Nat}(t:μ.loc l=some (some b,n)):Up (WU w) (WU w) g (.pointer (some ⟨b,a,none⟩)):=by
 have⟨b',n',T,conc,e,_,m,o,_⟩:=i.a l d p;rw[t] at e;simp only[Ya,YG] at e;obtain⟨rfl,_⟩:=e;have⟨_,r⟩:=q.get;refine⟨b,a,rfl,λj c s=>?_⟩;have⟨c',f,k⟩:=r j c s;rw[YO] at f;have⟨u,x,v⟩:=o.2 _ _ f;refine⟨u,.inl ?_,Lg i k v⟩;show w.cell? ⟨b,a+j,none⟩=some u;simp[World.cell?,m,x]
def QN(d:Inv Γ h μ w){f v}(l:Up μ.cell μ.tmp f v):Up (WU w) (WU w) f v:=by
 obtain⟨b,e,rfl,i⟩:=l;refine⟨b,e,rfl,λj c k=>?_⟩;have⟨u,a,g⟩:=i j c k;refine⟨u,.inl ?_,g.mono d.cell⟩;rcases a with a|a;exact d.cell _ _ _ a;rw[d.tmp] at a;exact d.tcell _ _ _ a
def Z7k(d:Inv Γ h μ w){c x v}(g:LendC h c x)(j:We μ c v):MT (WU w) (WU w) x v:=by
 cases g with
 |frz e=>exact Lg d e j
 |ptr k e=>obtain⟨b,n,g,rfl⟩:=j;exact PM d k e g
 |rp=>exact QN d j
 |fn hlen hcs=>?_
 have⟨B,t,y,z⟩:=j;refine⟨B,t,by rw[y,hlen],λi s q=>?_⟩;rename_i f a ab;have m:i<a.length:=by rw[hlen];exact(Y0.1 q).1
 have p:=Y1 m;have⟨u,A,o⟩:=z i _ p;refine⟨u,A,?_⟩
 have:=hcs i _ s p q
 generalize a[i]=cp at this o;cases cp with
 |lab l=>?_
 |rp r=>subst this;exact QN d o
 have⟨r,k,e⟩:=this;obtain⟨b,n,g,rfl⟩:=o;exact PM d k (sU e) g
def Z7j(b:Inv Γ h μ w){v x u}(o:LendV h v x)(d:W6 μ v u):DN (WU w) (WU w) x u:=by
 cases o with
 |one hc=>exact Z7k b hc d
 |agg hc=>?_
 have⟨q,e,a⟩:=d;have⟨f,g⟩:=hc.get;refine⟨q,e,by rw[a.1,f],λi x n=>?_⟩;have⟨c,j,k⟩:=g i x n;have⟨p,l,m⟩:=a.2 i c j;exact⟨p,l,Lg b k m⟩
def D.flat:D->Bool
 | .sl _=>false
 |_=>true
def RC.flat:RC->Bool
 | .d x=>x.flat
 | .fresh _ _ xs=>xs.all λy=>y.all D.flat
def RV1.flat:RV->Bool
 | .one c=>c.flat
 | .agg cs=>cs.all RC.flat
 | .tup _=>true
def RV.flat:RV->Bool
 | .tup vs=>vs.all RV1.flat
 |v=>RV1.flat v
def Qa{m c x v}(a:x.flat=true)(h:RepD m x v):RepD c x v:=by
 cases h with
 |int k n=>exact .int k n
 |bool b=>exact .bool b
 |str s=>exact .str s
 |raw v h=>exact .raw v h
 |sl=>simp[D.flat] at a
def Z5.qD{f}{Z:List V}{R:List AV}{r:RV}{K}(hs:Zq P f R r)(B:Uy h Z R)(N:r.flat=true)(hk:K (r.toV h.p 0) ((h.qL 0 r.fr).w)):Z5 P f Z h K:=by
 refine⟨hs.1,λΓ μ w vals hI hR=>?_⟩;have⟨F,aw⟩:=B.get;have am:CE (WU w) (WU w) R vals:=⟨by rw[hR.1,F],λi x q=>by have⟨v,e,a1⟩:=aw i x q;have⟨u,s,G⟩:=hR.2 i v e;exact⟨u,s,Z7j hI a1 G⟩⟩
 refine(hs.2 w (WU w) (WU w) vals hI.glob (Gf w) (Gf w) am).mono ?_;rintro en w' ⟨v,C,n,rfl,ar,_,ak,L,G,O⟩
 let m2:CM:=λb o=>match μ.cell b o with
  |some v=>some v
  |none=>if w.heap.size<=b then C b o else none
 have J:∀b o,m2 b o=match μ.cell b o with
  |some v=>some v
  |none=>if w.heap.size<=b then C b o else none:=λ_ _=>rfl
 have ac:WL μ.cell m2:=λb o v e=>by rw[J,e]
 have aj:WL m2 C:=λb o v e=>by
  rw[J] at e;cases a:μ.cell b o with
  |some y=>rw[a] at e;injection e with e;subst e;exact ar _ _ _ (hI.cell _ _ _ a)
  |none=>?_
  rw[a] at e;simp only at e;split at e;exact e;cases e
 have ag:∀b o,w.heap.size<=b->m2 b o=C b o:=λb o L=>by
  rw[J];cases a:μ.cell b o with
  |some y=>have:=hI.cell.lt a;omega
  |none=>simp only;rw[if_pos L]
 have ap:∀b o u,b<w.heap.size->m2 b o=some u->μ.cell b o=some u:=λb o u L s=>by
  rw[J] at s;cases a:μ.cell b o with
  |some y=>rw[a] at s;exact s
  |none=>rw[a] at s;simp only at s;rw[if_neg X] at s;cases s
 have ae:Vt m2 w':=λb o v e=>ak _ _ _ (aj _ _ _ e);have aq:F2 m2 w w' n r.fr:=⟨λx a=>by
  have p:=O.1 x a;refine⟨p.1,λg E=>?_⟩;have⟨k,T,S,m,z,D,h6,h7⟩:=p.2 g E;exact⟨k,T,S,m,z,D,h6,λo ho=>by rw[ag g o k];exact h7 o ho⟩,O.2⟩
 have rc:∀(c:RC) (u:Value),c.flat=true->(∀x∈c.fr,x∈r.fr)->DM C n c u->DM m2 n c u:=λc u A I t=>by
  cases c with
  |d x=>exact Qa A t
  |fresh j es xs=>?_
  obtain⟨p,k⟩:=t;refine⟨?_,k⟩;have au:=O.1 (j,es,xs.length) (I _ (by simp[RC.fr]));generalize e:u=uu at p;cases p with|sl xs ad cap es' b off f B t hes ha hcl hrep=>?_;subst e;refine .sl xs ad cap es' b off f B t hes ha (λi x a W d M=>?_) (λi x a W d M=>Qa ?_ (hrep i x a W d M));have U:xs≠[]:=by rintro rfl;simp at a
  have ay:=ha U;rw[ay] at k;simp only[hdr,Value.slice.injEq] at k;have⟨m,_⟩:=k;cases E:(n j).1 with
  |none=>rw[E] at m;cases m
  |some g=>?_
  rw[E] at m;simp only[Yp,Ya,Addr.mk.injEq] at m;obtain⟨rfl,_⟩:=m
  have:=(au.2 b E).1
  rw[ag b _ this];exact hcl i x a W d M;simp only[RC.flat] at A;have z:=Xu.1 A x (Y2 a);exact Xu.1 z d (Y2 M)
 have Q:∀(c:RV) (u:Value),RV1.flat c=true->(∀x∈RV1.fr c,x∈r.fr)->CJ C n c u->CJ m2 n c u:=λc u A I t=>by
  cases c with
  |one c=>exact rc c u A I t
  |agg cs=>?_
  |tup Z=>exact t.elim
  have⟨Y,p,k,m⟩:=t;refine⟨Y,p,k,λi c q=>?_⟩;have⟨H,z,D⟩:=m i c q;refine⟨H,z,rc c H (Xu.1 A c (Y2 q)) (λx a=>I x ?_) D⟩;exact YH.2 ⟨c,Y2 q,a⟩
 have ax:BP m2 n r v:=by
  cases r with
  |tup rs=>?_
  |one c=>exact Q (.one c) v N (λx a=>a) G
  |agg cs=>exact Q (.agg cs) v N (λx a=>a) G
  have⟨Y,p,k,m⟩:=G;refine⟨Y,p,k,λi c q=>?_⟩;have⟨H,z,D⟩:=m i c q;refine⟨H,z,Q c H (Xu.1 N c (Y2 q)) (λx a=>?_) D⟩;exact YH.2 ⟨c,Y2 q,a⟩
 have az:Mem.Le μ (V9 μ h.p 0 m2 n):=⟨ac,rfl,λl x B=>by
  have:=hI.lt l (by rw[B];simp)
  simp only[V9];rw[if_neg X];exact B⟩
 exact⟨v,_,_,V9 μ h.p 0 m2 n,rfl,hk,hI.call 0 ac ap ae L aq,Jf ax h.p 0,az⟩
end
end Go.Am
end
section
namespace Go.Am
class Hid(α:Type) where
 out:α
def ZV{α:Type}(x:aB α)[k:Hid (α->Prop)]:Prop:=
 match x with
 |some v=>k.out v
 |none=>False
@[simp] theorem Zkb{α:Type}{v}{f:α->Prop}:ZV (some v) (k:=⟨f⟩)=f v:=rfl
@[simp] theorem Zkc{α:Type}{k:Hid (α->Prop)}:ZV none (k:=k)=False:=rfl
def ML(x:V)[k:Hid (Z2->Nat->Prop)]:Prop:=
 match x with
 | .one (.ptr l off)=>k.out l off
 |_=>False
@[simp] theorem Zl7{l a f}:ML (.one (.ptr l a)) (k:=⟨f⟩)=f l a:=rfl
def MX(x:V)[k:Hid (FuncId->List Cap->Prop)]:Prop:=
 match x with
 | .one (.fn f caps)=>k.out f caps
 |_=>False
@[simp] theorem Zmq{g a f}:MX (.one (.fn g a)) (k:=⟨f⟩)=f g a:=rfl
def VM(x:V)[k:Hid (C->Prop)]:Prop:=
 match x with
 | .one c=>k.out c
 |_=>False
@[simp] theorem Zl8{c f}:VM (.one c) (k:=⟨f⟩)=f c:=rfl
def CL(x:V)[p:Hid (Unit->Prop)][q:Hid (Bool->Prop)]:Prop:=
 match x with
 | .one (.d (.bool t))=>(t=true->p.out ())/\(t=false->q.out true)
 |_=>False
@[simp] theorem Zjs{f q}:CL (.one (.d (.bool true))) (p:=⟨f⟩) (q:=q)=f ():=by simp[CL]
@[simp] theorem Zj2{p g}:CL (.one (.d (.bool false))) (p:=p) (q:=⟨g⟩)=g true:=by simp[CL]
def BJ{t f g}(a:t=true->f ())(b:t=false->g true):CL (.one (.d (.bool t))) (p:=⟨f⟩) (q:=⟨g⟩):=⟨a,b⟩
def Vy{a:Prop}[Decidable a]{f g}(b:a->f ())(c:¬a->g true):CL (.one (.d (.bool (decide a)))) (p:=⟨f⟩) (q:=⟨g⟩):=
 ⟨λh=>b (of_decide_eq_true h),λh=>c (of_decide_eq_false h)⟩
def AG(x:V)(a:Bool)[p:Hid (Unit->Prop)][q:Hid (Bool->Prop)]:Prop:=
 match x with
 | .one (.d (.bool b))=>(b=a->p.out ())/\(b≠a->q.out true)
 | .undef=>q.out true
 |_=>False
@[simp] theorem Zkm{f q}:AG (.one (.d (.bool true))) true (p:=⟨f⟩) (q:=q)=f ():=by simp[AG]
@[simp] theorem Zkp{f q}:AG (.one (.d (.bool false))) false (p:=⟨f⟩) (q:=q)=f ():=by simp[AG]
@[simp] theorem Zkn{p g}:AG (.one (.d (.bool true))) false (p:=p) (q:=⟨g⟩)=g true:=by simp[AG]
@[simp] theorem Zko{p g}:AG (.one (.d (.bool false))) true (p:=p) (q:=⟨g⟩)=g true:=by simp[AG]
@[simp] theorem Zir{a p g}:AG .undef a (p:=p) (q:=⟨g⟩)=g true:=rfl
def Fo(P:Program)(c:BinOp)(t:TypeId)(x y:V)[k:Hid (V->Prop)]:Prop:=
 match x,y with
 | .agg d,.agg cs'=>match ZB d,ZB cs' with
   |some a,some b=>(Cf c=true/\a.map Vd=b.map Vd/\Kd.other∉a.map Vd/\D0 P t (a.map Vd))/\k.out (WH (if c=.neq then !(AP a b) else AP a b))
   |_,_=>False
 |u,v=>match DU (Dz P t) c u v with
   |some r=>k.out r
   |none=>False
@[simp] theorem Zlq{P b t c a f}:Fo P b t (.one c) (.one a) (k:=⟨f⟩)=ZV (DU (Dz P t) b (.one c) (.one a)) (k:=⟨f⟩):=by unfold Fo;dsimp only;split<;>simp_all [ZV]
@[simp] theorem Zlr{P e t d c f}:Fo P e t (.agg d) (.agg c) (k:=⟨f⟩)=
  ZV (ZB d) (k:=⟨λa=>ZV (ZB c) (k:=⟨λb=>(Cf e=true/\a.map Vd=b.map Vd/\Kd.other∉a.map Vd/\D0 P t (a.map Vd))/\f (WH (if e=.neq then !(AP a b) else AP a b))⟩)⟩):=by
 simp only[Fo];cases ZB d<;>cases ZB c<;>rfl
def Fm(a:aB (List aC))(b:aB aD)[k:Hid (List aC->Prop)][q:Hid (aD->Prop)]:Prop:=
 match a with
 |some xs=>k.out xs
 |none=>match b with
   |some cs=>q.out cs
   |none=>False
@[simp] theorem Zkr{a b f}{q:Hid (aD->Prop)}:Fm (some a) b (k:=⟨f⟩)=f a:=rfl
@[simp] theorem Zks{a k f}:Fm none (some a) (k:=k) (q:=⟨f⟩)=f a:=rfl
def MN(x y:V)[k:Hid (Int->Int->Prop)]:Prop:=
 match x,y with
 | .one (.d (.int _ a)),.one (.d (.int _ b))=>k.out a b
 |_,_=>False
@[simp] theorem Zlb{i j a b f}:MN (.one (.d (.int i a))) (.one (.d (.int j b))) (k:=⟨f⟩)=f a b:=rfl
def JA(b:Bool)[p:Hid (Unit->Prop)][q:Hid (Bool->Prop)]:Prop:=
 match b with
 |true=>p.out ()
 |false=>q.out true
@[simp] theorem Zkt{f}{q:Hid (Bool->Prop)}:JA true (p:=⟨f⟩)=f ():=rfl
@[simp] theorem Zjv{p g}:JA false (p:=p) (q:=⟨g⟩)=g true:=rfl
def MM(x:V)[k:Hid (C->Prop)]:Prop:=
 match x with
 | .one c=>k.out c
 |_=>False
def Z6(P:Program)[c:Hid Code][Q:Hid (Exit->Env->HS->Prop)](e:Env)(h:HS):Prop:=Wy P c.out Q.out e h
def Z6.of{P c Q e h}(a:Wy P c Q e h):Z6 P (c:=⟨c⟩) (Q:=⟨Q⟩) e h:=a
def Z6.loop{P c Q e h}(a:Nat->Env->HS->Prop)(n)(i:a n e h)
  (b:∀n e h,a n e h->vc P c (Vn (λf g=>∃d,d<n/\a d f g) Q) e h):Z6 P (c:=⟨.loop c⟩) (Q:=⟨Q⟩) e h:=Wy.loop a n i b
def AQ[iq0:Hid (Nat->Env->HS->Prop)](n:Nat)(e:Env)(h:HS):Prop:=∃a,a<n/\iq0.out a e h
def AQ.of{iq0 n n' e h}(b:n'<n)(a:iq0 n' e h):AQ (iq0:=⟨iq0⟩) n e h:=⟨n',b,a⟩
def Z6.rounds{P c Q e h}(iq0 n)(f:iq0 n e h)
  (a:∀n e h,iq0 n e h->vc P c (Vn (λb d=>AQ (iq0:=⟨iq0⟩) n b d) Q) e h):Z6 P (c:=⟨.loop c⟩) (Q:=⟨Q⟩) e h:=Wy.loop iq0 n f a
def lenK(c:C)[k:Hid (Nat->Prop)]:Prop:=
 match c with
 | .mrow _ _ n _=>k.out n
 |c=>match c.qE with
   |some xs=>xs.length<=Zz->k.out xs.length
   |none=>False
@[simp] theorem Zkd{l b n a f}:lenK (.mrow l b n a) (k:=⟨f⟩)=f n:=rfl
@[simp] theorem Zle{l a f}:lenK (.own l a) (k:=⟨f⟩)=(a.length<=Zz->f a.length):=rfl
@[simp] theorem Zm7{a f}:lenK (.d (.sl a)) (k:=⟨f⟩)=(a.length<=Zz->f a.length):=rfl
@[simp] theorem Zlf{f}:lenK .nil (k:=⟨f⟩)=f 0:=by simp[lenK,C.qE]
@[simp] theorem Zmo{f}:lenK .z (k:=⟨f⟩)=f 0:=by simp[lenK,C.qE]
def CD{c a f}(b:c.qE=some a)(d:a.length<=Zz->f a.length):lenK c (k:=⟨f⟩):=by unfold lenK;split;simp[C.qE] at b;rw[b];exact d
def C.xK:C->aB aA
 | .d (.str s)=>some s
 |_=>none
@[simp] theorem Zn4{s}:C.xK (.d (.str s))=some s:=rfl
section
variable{P:Program}{Q:Exit->Env->HS->Prop}{N:Env->HS->Prop}{K:Env->HS->Prop}{e:Env}{h:HS}
@[simp↓] theorem Zlt:vc P .skip Q e h=Q .normal e h:=rfl
@[simp↓] theorem Zjw{id l}:vc P (.region id l.toArray false) Q e h=WX P l l e h (Q .normal):=rfl
@[simp↓] theorem Zmf{a b}:vc P (.seq a b) Q e h=vc P a (Vn (λe h=>vc P b Q e h) Q) e h:=rfl
@[simp↓] theorem Zlx{c a b}:vc P (.cond c a b) Q e h=CL (e.ev c) (p:=⟨λ_=>vc P a Q e h⟩) (q:=⟨λ_=>vc P b Q e h⟩):=rfl
@[simp↓] theorem Zku{id c}:vc P (.block id c) Q e h=vc P c (DE id Q) e h:=rfl
@[simp↓] theorem Zlv{id}:vc P (.exit id) Q e h=Q (.exit id) e h:=rfl
@[simp↓] theorem Zmg:vc P .ret Q e h=Q .ret e h:=rfl
@[simp↓] theorem Zlu{c}:vc P (.loop c) Q e h=Z6 P (c:=⟨.loop c⟩) (Q:=⟨Q⟩) e h:=rfl
@[simp↓] theorem Zlw{id l}:vc P (.region id l true) Q e h=Z6 P (c:=⟨.region id l true⟩) (Q:=⟨Q⟩) e h:=rfl
@[simp↓] theorem Zio:Vn N Q .normal e h=N e h:=rfl
@[simp↓] theorem Zk7:Vn N Q .ret e h=Q .ret e h:=rfl
@[simp↓] theorem Zjc{id}:Vn N Q (.exit id) e h=Q (.exit id) e h:=rfl
@[simp↓] theorem Zil{id}:DE id Q .normal e h=Q .normal e h:=rfl
@[simp↓] theorem Zju{id}:DE id Q .ret e h=Q .ret e h:=rfl
@[simp↓] theorem Zi0{id}:DE id Q (.exit id) e h=Q .normal e h:=by simp[DE]
@[simp↓] theorem Zl4{a r}:Jr P a r .ret e h=UT P a r e h:=rfl
@[simp↓] theorem Zix{a r}:Jr P a r .normal e h=UT P a r e h:=rfl
@[simp↓] theorem Zjx{a}:WX P a [] e h K=K e h:=rfl
@[simp↓] theorem Zit{a:List Oper}{d:aB Nat}{op:Op}{t:TypeId}{p:String}{af:Array Edge}{b:List Oper}:WX P a ({dst:=d,op:=op,type:=t,pos:=p,after:=af,guard:=none}::b) e h K=
  (Wh {dst:=d,op:=op,type:=t,pos:=p,after:=af,guard:=none} e/\Zl P {dst:=d,op:=op,type:=t,pos:=p,after:=af,guard:=none} e h λe h=>WX P a b e h K):=rfl
@[simp↓] theorem Ziu{b:List Oper}{d:aB Nat}{op:Op}{t:TypeId}{p:String}{af:Array Edge}{j}{a:Bool}{c:List Oper}:WX P b ({dst:=d,op:=op,type:=t,pos:=p,after:=af,guard:=some (j,a)}::c) e h K=
  (Wh {dst:=d,op:=op,type:=t,pos:=p,after:=af,guard:=some (j,a)} e/\AG (AY b e j) a (p:=⟨λ_=>Zl P {dst:=d,op:=op,type:=t,pos:=p,after:=af,guard:=some (j,a)} e h λe h=>WX P b c e h K⟩) (q:=⟨λ_=>WX P b c (e.put d .undef) h K⟩)):=rfl
section
variable{d:aB Nat}{t:TypeId}{p:String}{af:Array Edge}{g:aB (Nat×Bool)}
@[simp] theorem Zjq{k:Nat}{op}:Wh {dst:=some k,op:=op,type:=t,pos:=p,after:=af,guard:=g} e=(k<e.n):=rfl
@[simp] theorem Zjr{op}:Wh {dst:=none,op:=op,type:=t,pos:=p,after:=af,guard:=g} e=True:=rfl
@[simp↓] theorem Zk0{x}:Zl P {dst:=d,op:=.move x,type:=t,pos:=p,after:=af,guard:=g} e h K=K (e.put d (e.ev x)) h:=rfl
@[simp↓] theorem Ziv{x}:Zl P {dst:=d,op:=.assign x,type:=t,pos:=p,after:=af,guard:=g} e h K=K (e.put d (e.ev x)) h:=rfl
@[simp↓] theorem Zjz{c x y}:Zl P {dst:=d,op:=.pick c x y,type:=t,pos:=p,after:=af,guard:=g} e h K=ZV (ZH P (.pick c x y) e h) (k:=⟨λv=>K (e.put d v) h⟩):=by unfold Zl;dsimp only;split<;>simp_all [ZV]
@[simp↓] theorem Zjy{op a x}:Zl P {dst:=d,op:=.unOp op a x,type:=t,pos:=p,after:=af,guard:=g} e h K=ZV (ZH P (.unOp op a x) e h) (k:=⟨λv=>K (e.put d v) h⟩):=by unfold Zl;dsimp only;split<;>simp_all [ZV]
@[simp↓] theorem Zi7{a f:Nat}{x}:Zl P {dst:=d,op:=.fieldAddr a x f,type:=t,pos:=p,after:=af,guard:=g} e h K=ZV (ZH P (.fieldAddr a x f) e h) (k:=⟨λv=>K (e.put d v) h⟩):=by unfold Zl;dsimp only;split<;>simp_all [ZV]
@[simp↓] theorem Zj5{a f:Nat}{x}:Zl P {dst:=d,op:=.field a x f,type:=t,pos:=p,after:=af,guard:=g} e h K=ZV (ZH P (.field a x f) e h) (k:=⟨λv=>K (e.put d v) h⟩):=by unfold Zl;dsimp only;split<;>simp_all [ZV]
@[simp↓] theorem Zk2{a:Nat}{x}:Zl P {dst:=d,op:=.load a x,type:=t,pos:=p,after:=af,guard:=g} e h K=ZV (ZH P (.load a x) e h) (k:=⟨λv=>K (e.put d v) h⟩):=by unfold Zl;dsimp only;split<;>simp_all [ZV]
@[simp↓] theorem Z1n{a:Nat}{x i}:Zl P {dst:=d,op:=.indexAddr a x i,type:=t,pos:=p,after:=af,guard:=g} e h K=ZV (ZH P (.indexAddr a x i) e h) (k:=⟨λv=>K (e.put d v) h⟩):=by unfold Zl;dsimp only;split<;>simp_all [ZV]
@[simp↓] theorem Zj4{f:Nat}{x b a c}:Zl P {dst:=d,op:=.slice f x b a c,type:=t,pos:=p,after:=af,guard:=g} e h K=ZV (ZH P (.slice f x b a c) e h) (k:=⟨λv=>K (e.put d v) h⟩):=by unfold Zl;dsimp only;split<;>simp_all [ZV]
@[simp↓] theorem Zim{i x}:Zl P {dst:=d,op:=.extract x i,type:=t,pos:=p,after:=af,guard:=g} e h K=ZV (ZH P (.extract x i) e h) (k:=⟨λv=>K (e.put d v) h⟩):=by unfold Zl;dsimp only;split<;>simp_all [ZV]
@[simp↓] theorem Zig{a x y}:Zl P {dst:=d,op:=.makeFunc a x y,type:=t,pos:=p,after:=af,guard:=g} e h K=ZV (ZH P (.makeFunc a x y) e h) (k:=⟨λv=>K (e.put d v) h⟩):=by unfold Zl;dsimp only;split<;>simp_all [ZV]
@[simp↓] theorem Zif{x}:Zl P {dst:=d,op:=.nilCheck x,type:=t,pos:=p,after:=af,guard:=g} e h K=ZV (ZH P (.nilCheck x) e h) (k:=⟨λv=>K (e.put d v) h⟩):=by unfold Zl;dsimp only;split<;>simp_all [ZV]
@[simp↓] theorem Zve{s u x}:Zl P {dst:=d,op:=.convert s u x,type:=t,pos:=p,after:=af,guard:=g} e h K=ZV (ZH P (.convert s u x) e h) (k:=⟨λv=>K (e.put d v) h⟩):=by unfold Zl;dsimp only;split<;>simp_all [ZV]
@[simp↓] theorem Zj3{b x y}:Zl P {dst:=d,op:=.store b x y,type:=t,pos:=p,after:=af,guard:=g} e h K=ZV (W9 P b) (k:=⟨λz=>ML (e.ev x) (k:=⟨λl a=>ZV (h.a l) (k:=⟨λf=>
  ((e.ev y).cells.length=z.2/\0<z.2/\a+z.2<=f.length)/\K (e.put d .undef) (h.xV l (Zi f a (e.ev y).cells))⟩)⟩)⟩):=by
 simp only[Zl,ZV,ML];cases W9 P b with
 |none=>rfl
 |some z=>?_
 dsimp only
 generalize e.ev x=xq0;cases xq0 with
 |one c=>cases c with
   |ptr l a=>dsimp only;cases h.a l<;>rfl
   |_=>rfl
 |_=>rfl
@[simp↓] theorem Zkz{a x}{k:Nat}:Zl P {dst:=some k,op:=.box a x,type:=t,pos:=p,after:=af,guard:=g} e h K=
  ((e.ev x).cells≠[]/\K (e.put (some k) (.one (.ptr (h.p,16*k) 0))) ((h.xV (h.p,16*k) (e.ev x).cells).w)):=rfl
@[simp↓] theorem Zjb{a}{k:Nat}:Zl P {dst:=some k,op:=.alloc a,type:=t,pos:=p,after:=af,guard:=g} e h K=ZV (W3 P a) (k:=⟨λb=>K (e.put (some k) (.one (.ptr (h.p,16*k) 0))) ((h.xV (h.p,16*k) b).w)⟩):=by simp only[Zl,ZV];cases W3 P a<;>rfl
@[simp↓] theorem Zj9{a c}:Zl P {dst:=d,op:=.build a c.toArray,type:=t,pos:=p,after:=af,guard:=g} e h K=ZV (W3 P a) (k:=⟨λz=>ZV (U1 P a) (k:=⟨λb=>ZV (Bb b e c z) (k:=⟨λf=>K (e.put d (.agg f)) h⟩)⟩)⟩):=by
 simp only[Zl,ZV];cases W3 P a with
 |none=>rfl
 |some z=>cases U1 P a with
   |none=>rfl
   |some b=>dsimp only;cases Bb b e c z<;>rfl
def GY(n:Nat)(d:Nat)(h:HS)[K:Hid (V->HS->Prop)]:Prop:=(0<n/\n<=64)/\(K.out (.one (.own (h.p,16*d) [])) ((h.qC (h.p,16*d) (some (0,n))).w)\/K.out (.one .z) h)
def EG{n d f}(a:0<n/\n<=64)(b:f (.one (.own (h.p,16*d) [])) ((h.qC (h.p,16*d) (some (0,n))).w)):GY n d h (K:=⟨f⟩):=⟨a,.inl b⟩
def Za9{n d f}(a:0<n/\n<=64)(b:f (.one .z) h):GY n d h (K:=⟨f⟩):=⟨a,.inr b⟩
def Z3a{d}{k:Nat}:Zl P {dst:=some k,op:=.buildSlice d 0 [].toArray,type:=t,pos:=p,after:=af,guard:=g} e h K=ZV (ZC P d) (k:=⟨λz=>GY z.2.1 k h (K:=⟨λv f=>K (e.put (some k) v) f⟩)⟩):=by
 simp only[Zl,ZV];cases ZC P d with
 |none=>rfl
 |some z=>?_
 simp only[Uw,GY,Y3a,true_and,Y3y];apply propext;constructor;rintro(⟨⟨b,c⟩,a⟩|⟨⟨b,c⟩,a⟩);exact⟨⟨b,c⟩,.inl a⟩;exact⟨⟨b,c⟩,.inr a⟩;rintro⟨⟨b,c⟩,a|a⟩;exact .inl ⟨⟨b,c⟩,a⟩;exact .inr ⟨⟨b,c⟩,a⟩
@[simp↓] theorem Zj6{a}{k:Nat}:Zl P {dst:=some k,op:=.buildSlice a 0 #[],type:=t,pos:=p,after:=af,guard:=g} e h K=ZV (ZC P a) (k:=⟨λz=>GY z.2.1 k h (K:=⟨λv b=>K (e.put (some k) v) b⟩)⟩):=Z3a
@[simp↓] theorem Zi2{c}{a k:Nat}{q b}:Zl P {dst:=some k,op:=.buildSlice c a (q::b).toArray,type:=t,pos:=p,after:=af,guard:=g} e h K=ZV (ZC P c) (k:=⟨λz=>Fm (Uw e z.2.1 (q::b) 0) (B9 e z.2.1 (q::b) 0)
  (k:=⟨λd=>(d.length=a/\0<z.2.1/\a<=64/\z.2.1<=64)/\K (e.put (some k) (.one (.own (h.p,16*k) d))) ((h.qC (h.p,16*k) (some (a,z.2.1))).w)⟩)
  (q:=⟨λf=>((q::b).length=a/\0<z.2.1/\a<=64/\z.2.1<=64)/\K (e.put (some k) (.one (.mrow (h.p,16*k) 0 a a))) ((h.xV (h.p,16*k) f).w)⟩)⟩):=by
 simp only[Zl,ZV,Fm];cases ZC P c with
 |none=>rfl
 |some z=>?_
 dsimp only
 cases Uw e z.2.1 (q::b) 0 with
 |some d=>simp[Wc]
 |none=>cases B9 e z.2.1 (q::b) 0<;>rfl
@[simp↓] theorem Zk1{f x y}{k:Nat}:Zl P {dst:=some k,op:=.makeSlice f x y,type:=t,pos:=p,after:=af,guard:=g} e h K=ZV (ZC P f) (k:=⟨λz=>ZV (W3 P z.1) (k:=⟨λi=>MN (e.ev x) (e.ev y) (k:=⟨λa b=>
  (0<=a/\a<=b/\b<=Zz/\z.2.2<=4096/\0<z.2.1/\z.2.1<=8)/\K (e.put (some k) (.one (.mrow (h.p,16*k) 0 a.toNat b.toNat))) ((h.xV (h.p,16*k) (List.replicate b.toNat i).flatten).w)⟩)⟩)⟩):=by
 simp only[Zl,GU,ZV,MN];cases ZC P f with
 |none=>rfl
 |some z=>?_
 have⟨j,n,b⟩:=z
 dsimp only
 cases W3 P j with
 |none=>rfl
 |some i=>?_
 dsimp only
 generalize e.ev x=xq0;generalize e.ev y=yq0;cases xq0 with
 |one c=>cases c with
   |d u=>cases u with
     |int k a=>cases yq0 with
       |one c=>cases c with
         |d u=>cases u<;>rfl
         |_=>rfl
       |_=>rfl
     |_=>rfl
   |_=>rfl
 |_=>rfl
@[simp↓] theorem Zja{op a b x y}:Zl P {dst:=d,op:=.binOp op a x y b,type:=t,pos:=p,after:=af,guard:=g} e h K=
  JA (Ui y) (p:=⟨λ_=>MM (e.ev x) (k:=⟨λc=>DG P op a c (λv=>K (e.put d v) h)⟩)⟩) (q:=⟨λ_=>Fo P op a (e.ev x) (e.ev y) (k:=⟨λv=>K (e.put d v) h⟩)⟩):=by
 simp only[Zl,Fo,JA,MM];cases hn:Ui y with
 |true=>simp only[if_true,J5];cases e.ev x<;>rfl
 |false=>?_
 simp only[YX,if_false];generalize e.ev x=xq0;generalize e.ev y=yq0;cases xq0<;>cases yq0<;>rfl
def Hd(P:Program)(a:BinOp)(b:TypeId)(c:C)[K:Hid (V->Prop)]:Prop:=DG P a b c K.out
def Jz(P:Program)(a:TypeId)(c:C)[K:Hid (V->Prop)]:Prop:=Mz P a c K.out
@[simp↓] theorem Zky{x a}:Zl P {dst:=d,op:=.call {callee:=.builtin .cap,args:=[x].toArray,argTypes:=[a].toArray},type:=t,pos:=p,after:=af,guard:=g} e h K=
  VM (e.ev x) (k:=⟨λc=>Jz P a c (K:=⟨λv=>K (e.put d v) h⟩)⟩):=by
 simp only[Zl,VM,Yb,Yf,Jz];cases e.ev x<;>rfl
def Ib{c a n b:Nat}(h:ZC P c=some (a,n,b)):∃a,P.underlying c=some (.slice a):=by have⟨i,z,d,_⟩:=Ae h;exact⟨_,d⟩
@[simp] theorem Zl9{a b c f}:MM (.one c) (k:=⟨λc=>DG P a b c f⟩)=Hd P a b c (K:=⟨f⟩):=rfl
def Gm{d g z c f}(j:ZC P g=some z)(i:Cf d=true){xs}(a:c.qE=some xs)(e:∀b:Bool,(xs≠[]->b=false)->f (WH (if d=.neq then !b else b))):Hd P d g c (K:=⟨f⟩):=by
 refine⟨⟨i,Ib j⟩,?_⟩;split;simp[C.qE] at a
 have:=e true (λh=>by subst a;exact absurd rfl h)
 simpa using this;simp[C.qE] at a;rw[a];exact e
def Z7f{c d z l b n a f}(g:ZC P d=some z)(e:Cf c=true)(h:f (WH (if c=.neq then true else false))):Hd P c d (.mrow l b n a) (K:=⟨f⟩):=⟨⟨e,Ib g⟩,h⟩
def IK{a z f}(b:ZC P a=some z)(c:f (WD .i64 0)):Jz P a .nil (K:=⟨f⟩):=⟨Ib b,c⟩
def Pr{c z l b n a f}(d:ZC P c=some z)(e:f (WD .i64 a)):Jz P c (.mrow l b n a) (K:=⟨f⟩):=⟨Ib d,e⟩
def Vb(P:Program)(f:FuncId)(a:List Cap)(b:List V)(d:Nat)(e:Env)(h:HS)[K:Hid (Env->HS->Prop)]:Prop:=
 (∃ars c,Wi h b=some ars/\VK h a=some c/\∃r,Zq P f (ars++Wu c) r/\K.out (e.put (some d) (r.toV h.p d)) ((h.qL d r.fr).w))\/
 Z5 P f (b++a.map Vf) h (λv g=>K.out (e.put (some d) v) g)\/
 ∃v,Fg P f (b++a.map Vf) h v/\K.out (e.put (some d) v) h
def Rm{f a d v}(c:Fg P f a h v)(b:K (e.put (some d) v) h):Vb P f [] a d e h (K:=⟨K⟩):=.inr (.inr ⟨v,sU c,b⟩)
def Zai{f a i b c d r}(g:Wi h i=some b)(j:VK h a=some c)(l:Zq P f (b++Wu c) r)
  (k:K (e.put (some d) (r.toV h.p d)) ((h.qL d r.fr).w)):Vb P f a i d e h (K:=⟨K⟩):=.inl ⟨b,c,g,j,r,l,k⟩
def Zx{f c a d r}(i:Zq P f a r)(b:Wi h c=some a)
  (g:K (e.put (some d) (r.toV h.p d)) ((h.qL d r.fr).w)):Vb P f [] c d e h (K:=⟨K⟩):=.inl ⟨a,[],b,rfl,r,by simpa[Wu] using i,g⟩
def Zc{f a b d}(g:Z5 P f (b++a.map Vf) h (λv c=>K (e.put (some d) v) c)):Vb P f a b d e h (K:=⟨K⟩):=.inr (.inl g)
@[simp↓] theorem Zk4{f}{args:List Operand}{d}{k:Nat}:Zl P {dst:=some k,op:=.call {callee:=.value f,args:=args.toArray,argTypes:=d},type:=t,pos:=p,after:=af,guard:=g} e h K=
  MX (e.ev f) (k:=⟨λb a=>Vb P b a (args.map e.ev) k e h (K:=⟨K⟩)⟩):=by
 simp only[Zl,MX,Vb];generalize e.ev f=xq0;cases xq0 with
 |one c=>cases c<;>rfl
 |_=>rfl
@[simp↓] theorem Zkx{x a}:Zl P {dst:=d,op:=.call {callee:=.builtin .len,args:=[x].toArray,argTypes:=[a].toArray},type:=t,pos:=p,after:=af,guard:=g} e h K=
  ZV (WN P a) (k:=⟨λs=>VM (e.ev x) (k:=⟨λc=>match s with
   |true=>ZV c.xK (k:=⟨λs=>K (e.put d (WD .i64 s.size)) h⟩)
   |false=>lenK c (k:=⟨λn=>K (e.put d (WD .i64 n)) h⟩)⟩)⟩):=by
 simp only[Zl,ZV,VM,Yb,Yf];cases hl:WN P a with
 |none=>cases e.ev x<;>simp[Cd,hl]
 |some s=>?_
 cases e.ev x with
 |one c=>cases s with
   |true=>
     simp only[Cd,hl];cases c with
     |d x=>cases x<;>rfl
     |_=>rfl
   |false=>
     simp only[Cd,hl];cases c with
     |mrow l off n cap=>rfl
     |d x=>cases x<;>rfl
     |_=>rfl
 |_=>rfl
@[simp↓] theorem Zkw{x y a}:Zl P {dst:=d,op:=.call {callee:=.builtin .max,args:=[x,y].toArray,argTypes:=a},type:=t,pos:=p,after:=af,guard:=g} e h K=
  ZV (ZH P (.call {callee:=.builtin .max,args:=[x,y].toArray,argTypes:=a}) e h) (k:=⟨λv=>K (e.put d v) h⟩):=by
 unfold Zl;dsimp only;split<;>simp_all [ZV]
@[simp↓] theorem Zkv{x y a}:Zl P {dst:=d,op:=.call {callee:=.builtin .min,args:=[x,y].toArray,argTypes:=a},type:=t,pos:=p,after:=af,guard:=g} e h K=
  ZV (ZH P (.call {callee:=.builtin .min,args:=[x,y].toArray,argTypes:=a}) e h) (k:=⟨λv=>K (e.put d v) h⟩):=by
 unfold Zl;dsimp only;split<;>simp_all [ZV]
def Ud(P:Program)(a:TypeId)(c x:C)(d:Nat)(h:HS)[K:Hid (V->HS->Prop)]:Prop:=BF P a c x d h K.out\/BE P a c x d h K.out
def H4(P:Program)(a:TypeId)(c x:C)(h:HS)[K:Hid (V->HS->Prop)]:Prop:=Ca P a c x 0 h K.out
def Jb(P:Program)(a:TypeId)(c:C)(h:HS)[K:Hid (V->HS->Prop)]:Prop:=CA P a c 0 h K.out
def Zm(h:HS)(b:Nat)(c:C)(a:List aC):Prop:=((c=.nil/\a=[])\/∃l,c=.own l a/\h.arr l=some (a.length,b)/\l.1<h.p)/\∀y∈a,y.length=b
def Zm.nil{h a}:Zm h a .nil []:=⟨.inl ⟨rfl,rfl⟩,I⟩
def Zm.own{h b l a}(c:h.arr l=some (a.length,b))(d:l.1<h.p)(e:∀y∈a,y.length=b):Zm h b (.own l a) a:=⟨.inr ⟨l,rfl,c,d⟩,e⟩
def Zm.w{h b c d}(g:Zm h b c d):Zm h.w b c d:=by refine⟨?_,g.2⟩;rcases g.1 with a|⟨l,a,e,f⟩;exact .inl a;exact .inr ⟨l,a,e,Nat.lt_succ_of_lt f⟩
def Zm.xV{h a c b k cs}(g:Zm h a c b):Zm (h.xV k cs) a c b:=g
def Zm.qC{h b c e k x}(g:Zm h b c e)(hk:h.p<=k.1):Zm (h.qC k x) b c e:=by
 refine⟨?_,g.2⟩;rcases g.1 with a|⟨l,a,f,d⟩;exact .inl a;refine .inr ⟨l,a,?_,d⟩
 have:l≠k:=λi=>by rw[i] at d;omega
 simp only[HS.qC,this,if_false,f]
def Zm.list{h d c b}(g:Zm h d c b):c.qE=some b:=by rcases g.1 with⟨a,e⟩|⟨l,a,_,_⟩;rw[a,e];rfl;rw[a];rfl
def Zm.toD{h d c b}(g:Zm h d c b):c.toD=some (.sl b):=by rcases g.1 with⟨a,e⟩|⟨l,a,_,_⟩;rw[a,e];rfl;rw[a];rfl
def Zm.toA{h e c b}(g:Zm h e c b)(f):c.toA f=some (.d (.sl b)):=by rcases g.1 with⟨a,i⟩|⟨l,a,_,_⟩;rw[a,i];rfl;rw[a];rfl
def Zm.can{h b c e}(g:Zm h b c e):F5 h b c=true:=by rcases g.1 with⟨a,_⟩|⟨l,a,d,_⟩;rw[a];rfl;rw[a];simp[F5,d]
def UQ{g j b a d}{c x:C}{K xs ys}(i:ZC P g=some (j,b,a))(e:Zm h b c xs)(n:x.qE=some ys)(k:0<b)(l:a<=4096)(o:∀y∈ys,y.length=b)(m:xs.length+ys.length<=Zz)
  (f:K (.one (.own (h.p,16*d) (xs++ys))) (((c.qH h).qC (h.p,16*d) (some ((xs++ys).length,b))).w)):Ud P g c x d h (K:=⟨K⟩):=by
 refine .inl ?_;unfold BF;rw[i];simp only;rw[e.list,n];simp only;rw[Ye] at f;exact⟨⟨e.can,k,l,e.2,o,m⟩,f⟩
def Dt{p j n f d k b m s x K e new o}(v:ZC P p=some (j,n,f))(B:VW h n s=some (k,b,e,o))(C:Wz h n x=some new)(A:Wd x=some m)
  (D:(W3 P j).isSome=true)(w:0<n)(y:f<=4096)(z:k+m<=Zz)(r:new.length=m*n)(q:e.length=k*n)
  (i:m=0->K (.one s) h)
  (u:0<m->k+m<=b->∀l c,o=some (l,c)->∃g,h.a l=some g/\c+(k+m)*n<=g.length/\K (.one (.mrow l c (k+m) b)) (h.xV l (Zi g (c+k*n) new)))
  (t:0<m->b<k+m->∀a,k+m<=a->K (.one (.mrow (h.p,16*d) 0 (k+m) a)) ((h.xV (h.p,16*d) (e++new++List.replicate ((a-(k+m))*n) .any)).w)):Ud P p s x d h (K:=⟨K⟩):=by
 refine .inr ?_;unfold BE;rw[v];simp only;rw[B,C,A];exact⟨⟨D,w,y,z,r,q⟩,i,u,t⟩
def Zm.app{h:HS}{b l a}(hl:l.1=h.p)(c:∀y∈a,y.length=b):Zm ((h.qC l (some (a.length,b))).w) b (.own l a) a:=
 Zm.own (by simp[HS.qC,HS.w]) (by show l.1<h.p+1;omega) c
@[simp↓] theorem Ziw{x y a}{k:Nat}:Zl P {dst:=some k,op:=.call {callee:=.builtin .append,args:=[x,y].toArray,argTypes:=[a,a].toArray},type:=t,pos:=p,after:=af,guard:=g} e h K=
  VM (e.ev x) (k:=⟨λc=>VM (e.ev y) (k:=⟨λb=>Ud P a c b k h (K:=⟨λv d=>K (e.put (some k) v) d⟩)⟩)⟩):=by
 simp only[Zl,VM,Yb,Yf,Ud];cases e.ev x with
 |one c=>?_
 |_=>rfl
 cases e.ev y with
 |one b=>?_
 |_=>rfl
 simp only[true_or,true_and];exact propext ⟨λh=>h.elim id λh=>absurd rfl h.1.1,.inl⟩
def GS(P:Program)(a b:TypeId)(c x:C)(d:Nat)(h:HS)[K:Hid (V->HS->Prop)]:Prop:=(BT P b=true/\(BF P a c x d h K.out\/BE P a c x d h K.out))\/EI P a b c x d h K.out
def Oo{b a c x d K}(f:BT P a=true)(e:Ud P b c x d h (K:=⟨K⟩)):GS P b a c x d h (K:=⟨K⟩):=.inl ⟨f,e⟩
@[simp↓] theorem Zin{x y d a}{k:Nat}(b:d≠a):Zl P {dst:=some k,op:=.call {callee:=.builtin .append,args:=[x,y].toArray,argTypes:=[d,a].toArray},type:=t,pos:=p,after:=af,guard:=g} e h K=
  VM (e.ev x) (k:=⟨λc=>VM (e.ev y) (k:=⟨λf=>GS P d a c f k h (K:=⟨λv i=>K (e.put (some k) v) i⟩)⟩)⟩):=by
 simp only[Zl,VM,Yb,Yf,GS];cases e.ev x with
 |one c=>?_
 |_=>rfl
 cases e.ev y with
 |one f=>simp only[b,false_or];rfl
 |_=>rfl
def OX{g c j}{n i d k b e:Nat}{l}{m:Int}{kk z old K}(p:ZC P g=some (j,n,i))(f:g≠c)(x:P.underlying c=some (.int kk))(y:(W3 P j).isSome=true)(q:0<n)(t:i<=4096)(r:0<m)(s:k+m<=Zz)(u:b<k+m.toNat)
  (w:Wz h n (.mrow l e k b)=some old)(o:old.length=k*n)
  (v:∀a,k+m.toNat<=a->K (.one (.mrow (h.p,16*d) 0 (k+m.toNat) a)) ((h.xV (h.p,16*d) (old++List.replicate ((a-k)*n) .any)).w)):GS P g c (.mrow l e k b) (.d (.int z m)) d h (K:=⟨K⟩):=by
 refine .inr ⟨⟨f,_,x⟩,?_⟩;rw[p];simp only[w];exact⟨⟨y,q,t,r,s,u,o⟩,v⟩
def OW{f b g n c d}{m:Int}{k kk K}(i:ZC P f=some (g,n,c))(e:f≠b)(r:P.underlying b=some (.int kk))(s:(W3 P g).isSome=true)(j:0<n)(p:c<=4096)(l:0<m)(o:m<=Zz)
  (q:∀a,m.toNat<=a->K (.one (.mrow (h.p,16*d) 0 m.toNat a)) ((h.xV (h.p,16*d) (List.replicate (a*n) .any)).w)):GS P f b .nil (.d (.int k m)) d h (K:=⟨K⟩):=by
 refine .inr ⟨⟨e,_,r⟩,?_⟩;rw[i];exact⟨⟨s,j,p,l,o⟩,q⟩
@[simp↓] theorem Zk3{x y a}:Zl P {dst:=d,op:=.call {callee:=.builtin .copy,args:=[x,y].toArray,argTypes:=[a,a].toArray},type:=t,pos:=p,after:=af,guard:=g} e h K=
  VM (e.ev x) (k:=⟨λc=>VM (e.ev y) (k:=⟨λb=>H4 P a c b h (K:=⟨λv f=>K (e.put d v) f⟩)⟩)⟩):=by
 simp only[Zl,VM,Yb,Yf,H4];cases e.ev x with
 |one c=>?_
 |_=>rfl
 cases e.ev y with
 |one b=>simp only[true_or,true_and];rfl
 |_=>rfl
def Mu(P:Program)(b a:TypeId)(c x:C)(h:HS)[K:Hid (V->HS->Prop)]:Prop:=BT P a=true/\Ca P b c x 0 h K.out
def Pm{b a c x K}(e:BT P a=true)(d:H4 P b c x h (K:=⟨K⟩)):Mu P b a c x h (K:=⟨K⟩):=⟨e,d⟩
@[simp↓] theorem Zj7{x y f a}(b:f≠a):Zl P {dst:=d,op:=.call {callee:=.builtin .copy,args:=[x,y].toArray,argTypes:=[f,a].toArray},type:=t,pos:=p,after:=af,guard:=g} e h K=
  VM (e.ev x) (k:=⟨λc=>VM (e.ev y) (k:=⟨λi=>Mu P f a c i h (K:=⟨λv j=>K (e.put d v) j⟩)⟩)⟩):=by
 simp only[Zl,VM,Yb,Yf,Mu];cases e.ev x with
 |one c=>?_
 |_=>rfl
 cases e.ev y with
 |one i=>simp only[b,false_or];rfl
 |_=>rfl
@[simp↓] theorem Zj8{x a}:Zl P {dst:=d,op:=.call {callee:=.builtin .clear,args:=[x].toArray,argTypes:=[a].toArray},type:=t,pos:=p,after:=af,guard:=g} e h K=
  VM (e.ev x) (k:=⟨λc=>Jb P a c h (K:=⟨λv b=>K (e.put d v) b⟩)⟩):=by
 simp only[Zl,VM,Yb,Yf,Jb];cases e.ev x<;>rfl
end
end
@[simp] theorem Zm5{e:Env}{d k v}:(e.put (some d) v).get k=if k=d then v else e.get k:=rfl
@[simp] theorem Zl6{e:Env}{v}:e.put none v=e:=rfl
@[simp] theorem Zn5{e:Env}{d v}:(e.put d v).n=e.n:=by cases d<;>rfl
@[simp] theorem Zmy{n a}:(CW n a).n=n:=rfl
@[simp] theorem Zlo{n k a}:(CW n a).get k=(a[k]?.map AV.toV).getD .undef:=by simp only[CW];cases a[k]?<;>rfl
@[simp] theorem Kw{h:HS}{l k a}:(h.xV l a).a k=if k=l then some a else h.a k:=rfl
@[simp] theorem Zjf{h:HS}{l k a}:(h.xV l a).arr k=h.arr k:=rfl
@[simp] theorem Iu{h:HS}{l a}:(h.xV l a).p=h.p:=by cases h;exact id rfl
@[simp] theorem Zjh{h:HS}{l k x}:(h.qC l x).arr k=if k=l then x else h.arr k:=rfl
@[simp] theorem Zjg{h:HS}{l k x}:(h.qC l x).a k=h.a k:=rfl
@[simp] theorem Zk8{h:HS}{l x}:(h.qC l x).p=h.p:=by cases h;exact id rfl
@[simp] theorem Ll{h:HS}{k}:h.w.a k=h.a k:=rfl
@[simp] theorem Zla{h:HS}{k}:h.w.arr k=h.arr k:=rfl
@[simp] theorem QW{h:HS}:h.w.p=h.p+1:=by cases h;exact id rfl
@[simp] theorem Zli{k}:HS.init.a k=none:=rfl
@[simp] theorem Zlj{k}:HS.init.arr k=none:=rfl
@[simp] theorem Zmb:HS.init.p=0:=rfl
@[simp] theorem Zmr{e:Env}{t:Nat}:e.ev (.tmp t)=e.get t:=rfl
@[simp] theorem Zmc{e:Env}{f:Nat}:e.ev (.func f)=.one (.fn f []):=rfl
@[simp] theorem Zmu{e:Env}{k n}:e.ev (.const (.int k n))=WD k n:=rfl
@[simp] theorem Zmd{e:Env}{b}:e.ev (.const (.bool b))=WH b:=rfl
@[simp] theorem Zms{e:Env}{s}:e.ev (.const (.string s))=Jx s:=rfl
@[simp] theorem Zmt{e:Env}:e.ev (.const (.slice none 0 0))=.one .nil:=rfl
@[simp] theorem Zmv{e:Env}{a}:e.ev (.const (.agg a))=if a.all Value.oneCell' then .agg (a.toList.map DD) else .top:=rfl
@[simp] theorem Zmz{x}:AV.toV (.one (.d x))=.one (.d x):=rfl
@[simp] theorem Zmh{x}:AV.toV (.one (.rp x))=.one (.rp x):=rfl
@[simp] theorem Zmi{f x}:AV.toV (.one (.fn f x))=.one (.fn f (x.map Cap.rp)):=rfl
@[simp] theorem Zly{x}:AV.toV (.agg x)=.agg (x.map C.d):=rfl
@[simp] theorem Zk5{h l a}:C.qH h (.own l a)=h.qC l none:=rfl
@[simp] theorem Zk6{h}:C.qH h .nil=h:=rfl
@[simp] theorem Zlc{l a}:C.qE (.own l a)=some a:=rfl
@[simp] theorem Zld:C.qE .nil=some []:=rfl
@[simp] theorem Zmn:C.qE .z=some []:=rfl
@[simp] theorem Zn0:C.toD .z=some (.sl []):=rfl
@[simp] theorem Zm6{a}:C.qE (.d (.sl a))=some a:=rfl
@[simp] theorem Zlz{l a}:C.toD (.own l a)=some (.sl a):=rfl
@[simp] theorem Zm0:C.toD .nil=some (.sl []):=rfl
@[simp] theorem Zn1{x}:C.toD (.d x)=some x:=rfl
@[simp] theorem Zl1{l b n a}:C.toD (.mrow l b n a)=none:=rfl
@[simp] theorem Zl0:ZB []=some []:=rfl
@[simp] theorem Zjj{t:Nat}:Ui (.tmp t)=false:=rfl
@[simp] theorem Ziy{t:Nat}:Ui (.func t)=false:=rfl
@[simp] theorem Zjm{k n}:Ui (.const (.int k n))=false:=rfl
@[simp] theorem Ziz{b}:Ui (.const (.bool b))=false:=rfl
@[simp] theorem Zjk{s}:Ui (.const (.string s))=false:=rfl
@[simp] theorem Zjn{s}:Ui (.const (.agg s))=false:=rfl
@[simp] theorem Zjl:Ui (.const (.slice none 0 0))=true:=rfl
@[simp] theorem Zn3{h x}:C.toA h (.d x)=some (.d x):=rfl
@[simp] theorem Zm2{h l a}:C.toA h (.own l a)=some (.d (.sl a)):=rfl
@[simp] theorem Zm3{h}:C.toA h .nil=some (.d (.sl [])):=rfl
@[simp] theorem Zn2{h}:C.toA h .z=some (.d (.sl [])):=rfl
@[simp] theorem Zl3{h l b n a}:C.toA h (.mrow l b n a)=none:=rfl
@[simp] theorem Zm4{h}:C.toA h .any=none:=rfl
@[simp] theorem Zm1{h l}:C.toA h (.ptr l 0)=match h.a l with
  |some cs=>(ZB cs).map A.rp
  |none=>none:=rfl
@[simp] theorem Zl2{h l k}:C.toA h (.ptr l (k+1))=none:=rfl
@[simp] theorem Zmj{h a}:C.toA h (.rp a)=some (.rp a):=rfl
@[simp] theorem Zmk{h f a}:C.toA h (.fn f a)=(VK h a).map (A.fn f):=rfl
@[simp] theorem Zjd{a}:Zs 0 a=some []:=by simp[Zs]
@[simp] theorem Zje{n c a}:Zs (n+1) (c::a)=(Zs n a).map (c::·):=by
 simp only[Zs,YM,Nat.add_le_add_iff_right,Y3w]
 split<;>rfl
@[simp] theorem Ziq{a}:Zi a 0 []=a:=by simp[Zi]
@[simp] theorem Zih{c v a b}:Zi (c::a) 0 (v::b)=v::Zi a 0 b:=by simp[Zi]
@[simp] theorem Zii{c a b k}:Zi (c::a) (k+1) b=c::Zi a k b:=by simp only[Zi,Y3w,Yt,Nat.add_right_comm k 1,List.drop_succ_cons]
@[simp] theorem Znq:CZ []=false:=rfl
@[simp] theorem Znp{a}:CZ [a]=false:=by cases a<;>rfl
@[simp] theorem Zno{a b c l}:CZ (a::b::c::l)=false:=by cases a<;>cases b<;>rfl
@[simp] theorem Znm{d}:CZ [.d d,.nil]=true:=rfl
@[simp] theorem Znn{a d}:CZ [a,.d d]=false:=by cases a<;>rfl
@[simp] theorem Zma{a l b}:CZ [a,.own l b]=false:=by cases a<;>rfl
attribute [simp] DH AH J7 Wz VW Wd B9 DD V.cells ZB DV WD WH Jx Mo Mm DU BL Bb Uw F5 HS.qL DS VK V.toA Wi RC.toC RV1.toV RV.toV RC.fr RV1.fr RV.fr Wu AY ZK ZX Cf Vd JG AP CI Ub H7 UX DL
@[simp] theorem Zlp{P c x y e h}:ZH P (.pick c x y) e h=match e.ev c with
  | .one (.d (.bool t))=>some (if t then e.ev x else e.ev y)
  |_=>none:=rfl
attribute [simp] ZH
def U0{P a r e h vs}(d:ZK P e h a=some vs)(c:CI h (λ_=>none) vs r):UT P a r e h:=by
 simp only[UT,d];exact⟨λ_=>none,λ_ _ _ b _=>(by cases b),c⟩
def Zf4{P a r e h vs}(o)(f:ZK P e h a=some vs)(d:CI h (λj=>if j=0 then o else none) vs r):UT P a r e h:=by
 simp only[UT,f];refine⟨λj=>if j=0 then o else none,λj g l c b=>?_,d⟩;by_cases h1:j=0;by_cases h2:g=0;rw[h1,h2];simp[h2] at b;simp[h1] at c
def UX.xB{h f c i}(g:Zm h f c i):∃o,∀a:Nat->aB Z2,a 0=o->UX h a c (.fresh 0 f i):=by
 rcases g.1 with⟨b,d⟩|⟨l,b,d,_⟩;exact⟨none,λa e=>by simp only[UX,e];exact⟨b,d⟩⟩;exact⟨some l,λa e=>by simp only[UX,e];exact⟨b,d⟩⟩
def Z76{P}{k a:Nat}{e h c b}(f:e.get k=.one c)(g:Zm h a c b):UT P [.tmp k] (.one (.fresh 0 a b)) e h:=by have⟨o,d⟩:=UX.xB g;refine Zf4 o (vs:=[.one c]) (by simp[f]) ?_;simp only[CI,Ub];exact d _ rfl
def US(h:HS)(a:Nat)(v:V)(b:List aC):Prop:=∃c,v=.one c/\Zm h a c b
def US.nil{h a}:US h a (.one .nil) []:=⟨_,rfl,Zm.nil⟩
def US.app{h:HS}{a n l b c}(e:l.1=h.p)(f:n=b.length)(g:∀y∈c,y.length=a)(d:b=c):US ((h.qC l (some (n,a))).w) a (.one (.own l b)) c:=by subst d f;exact⟨_,rfl,Zm.app e g⟩
def ES{h c}:(C.qH h c).p=h.p:=by cases c<;>rfl
attribute [simp] ES
def BA{P}{k a:Nat}{e h}{b:List aC}(g:US h a (e.get k) b):UT P [.tmp k] (.one (.fresh 0 a b)) e h:=by have⟨c,d,g⟩:=g;exact Z76 d g
def Ze3{P}{k:Nat}{e h x c}(a:e.get k=.one c)(b:c.toD=some x):UT P [.tmp k] (.one (.d x)) e h:=
 U0 (vs:=[.one c]) (by simp[a]) (by simpa[CI,Ub] using b)
def Zah{h a}:VK h (a.map Cap.rp)=some a:=by
 induction a with
 |nil=>rfl
 |cons x xs ih=>simp[VK,DS,ih]
attribute [simp] Zah
end Go.Am
end
section
namespace Go.Am
section
variable{ρ α β σ:Type}
def Is(m:aB ρ)(r:ρ):Prop:=m=some r
def Z1(m:aB α)(K:α->aB ρ):aB ρ:=match m with
 |some x=>K x
 |none=>none
def Za(a:List α)(i:Int)(K:α->aB ρ):aB ρ:=if 0<=i then Z1 a[i.toNat]? K else none
def Zp(b:Prop)[Decidable b](m:aB ρ):aB ρ:=if b then m else none
def Wm(n:Int):Prop:=-9223372036854775808<=n/\n<=9223372036854775807
instance(n:Int):Decidable (Wm n):=inferInstanceAs (Decidable (_/\_))
def Wn(a b:List α)(K:List α->aB ρ):aB ρ:=Zp (a.length+b.length<=Zz) (K (a++b))
def Sr(s:aA)(i:Int)(K:Int->aB ρ):aB ρ:=if 0<=i then(match s[i.toNat]? with
 |some b=>K b.toNat
 |none=>none) else none
def Zd(a:Nat->α->σ->(σ->aB ρ)->aB ρ)(k:σ->aB ρ):List α->Nat->σ->aB ρ
 |[],_,s=>k s
 |x::xs,i,s=>a i x s λb=>Zd a k xs (i+1) b
def WZ(a:Nat->σ->(σ->aB ρ)->aB ρ)(k:σ->aB ρ):Nat->Nat->σ->aB ρ
 |0,_,s=>k s
 |n+1,i,s=>a i s λb=>WZ a k n (i+1) b
def AB(a:σ->(σ->aB ρ)->aB ρ):Nat->σ->aB ρ
 |0,_=>none
 |n+1,s=>a s λb=>AB a n b
abbrev Fp:Nat:=16777216
def Zk{v r:ρ}(h:Is (some v) r):v=r:=Option.some.inj h
def ZU{a c:α}{b d:β}(h:Is (some (a,b)) (c,d)):a=c/\b=d:=Prod.mk.inj (Zk h)
def Is.bind{m}{K:α->aB ρ}{r}(h:Is (Z1 m K) r):∃x,Is m x/\Is (K x) r:=by
 unfold Z1 at h;cases m with
 |some x=>exact⟨x,rfl,h⟩
 |none=>cases h
def Is.get{b}{i:Int}{K:α->aB ρ}{r}(h:Is (Za b i K) r):∃x,0<=i/\b[i.toNat]?=some x/\Is (K x) r:=by unfold Za at h;by_cases a:0<=i;rw[if_pos a] at h;have⟨x,c,h⟩:=h.bind;exact⟨x,a,c,h⟩;rw[if_neg a] at h;cases h
def Is.qQ{a}{i:Nat}{K:α->aB ρ}{r}(h:Is (Za a i K) r):∃x,a[i]?=some x/\Is (K x) r:=by have⟨x,_,b,h⟩:=h.get;exact⟨x,sU b,h⟩
def Is.chk{b:Prop}[Decidable b]{m}{r:ρ}(h:Is (Zp b m) r):b/\Is m r:=by unfold Zp at h;by_cases a:b;rw[if_pos a] at h;exact⟨a,h⟩;rw[if_neg a] at h;cases h
def LL{n:Int}(h:Wm n):IntKind.i64.wrap n=n:=Y6 _ ⟨h.1,h.2⟩
def Is.app{a b:List α}{K:List α->aB ρ}{r}(h:Is (Wn a b K) r):a.length+b.length<=Zz/\Is (K (a++b)) r:=Is.chk h
def Is.chr{s}{i:Int}{K}{r:ρ}(h:Is (Sr s i K) r):∃b,0<=i/\s[i.toNat]?=some b/\Is (K b.toNat) r:=by
 unfold Sr at h;by_cases a:0<=i;rw[if_pos a] at h;cases hs:s[i.toNat]? with
 |some b=>rw[hs] at h;exact⟨b,a,rfl,h⟩
 |none=>rw[hs] at h;cases h
 rw[if_neg a] at h;cases h
def ZP{b A B}{r:ρ}{f g}(a:Is (cond b A B) r)(c:b=true->Is A r->f ())(e:b=false->Is B r->g true):CL (.one (.d (.bool b))) (p:=⟨f⟩) (q:=⟨g⟩):=by
 cases b with
 |true=>exact BJ (λ_=>c rfl a) nofun
 |false=>exact BJ nofun (λ_=>e rfl a)
def GB{b A B}{r:ρ}{f g}(a:Is (cond b A B) r)(c:b=true->Is A r->f ())(e:b=false->Is B r->g true):AG (.one (.d (.bool b))) true (p:=⟨f⟩) (q:=⟨g⟩):=by
 cases b with
 |true=>simp;exact c rfl a
 |false=>simp;exact e rfl a
def IC{b A B}{r:ρ}{f g}(a:Is (cond b A B) r)(c:b=true->Is A r->g true)(e:b=false->Is B r->f ()):AG (.one (.d (.bool b))) false (p:=⟨f⟩) (q:=⟨g⟩):=by
 cases b with
 |true=>simp;exact c rfl a
 |false=>simp;exact e rfl a
def AC{P f j av}{d:Nat}{e:Env}{h g}{a:α->RV}{m K}{r:ρ}(c:Is (Z1 m K) r)(l:∀v,Is m v->Zq P f av (a v))(b:Wi h j=some av)
  (k:∀v,Is m v->Is (K v) r->g (e.put (some d) ((a v).toV h.p d)) ((h.qL d (a v).fr).w)):Vb P f [] j d e h (K:=⟨g⟩):=by
 have⟨x,i,c⟩:=c.bind;exact Zx (l x i) b (k x i c)
def QT{P f n j a}{k:List aC}{d:Nat}{e h i}{b:α->RV}{m K}{r:ρ}(g:Is (Z1 m K) r)(q:∀v,Is m v->Zq P f (j++Wu k) (b v))(c:Wi h n=some j)(o:VK h a=some k)
  (p:∀v,Is m v->Is (K v) r->i (e.put (some d) ((b v).toV h.p d)) ((h.qL d (b v).fr).w)):Vb P f a n d e h (K:=⟨i⟩):=by
 have⟨x,l,g⟩:=g.bind;exact Zai c o (q x l) (p x l g)
def CK{P m p}{a j d:Nat}{c x h i}{K:List α->aB ρ}{r enc xs ys}(f:Is (Wn xs ys K) r)(n:ZC P m=some (p,a,j))(t:Zm h a c (xs.map enc))(v:x.qE=some (ys.map enc))
  (q:0<a)(s:j<=4096)(l:∀y:α,(enc y).length=a)
  (u:xs.length+ys.length<=Zz->Is (K (xs++ys)) r->Zm (((c.qH h).qC (h.p,16*d) (some ((xs++ys).length,a))).w) a (.own (h.p,16*d) ((xs++ys).map enc)) ((xs++ys).map enc)->
   i (.one (.own (h.p,16*d) ((xs++ys).map enc))) (((c.qH h).qC (h.p,16*d) (some ((xs++ys).length,a))).w)):Ud P m c x d h (K:=⟨i⟩):=by
 have⟨k,f⟩:=f.app;have b:∀y∈(xs++ys).map enc,y.length=a:=by intro y e;obtain⟨z,_,rfl⟩:=Yi.1 e;exact l z
 refine UQ n t v q s ?_ (sU k) ?_;intro y e;obtain⟨z,_,rfl⟩:=Yi.1 e;exact l z;have o:xs.map enc++ys.map enc=(xs++ys).map enc:=I
 rw[o];have g:Zm (((c.qH h).qC (h.p,16*d) (some (((xs++ys).map enc).length,a))).w) a (.own (h.p,16*d) ((xs++ys).map enc)) ((xs++ys).map enc):=
  Zm.own (by simp[HS.qC,HS.w]) (by show h.p<(C.qH h c).p+1;rw[ES];omega) b
 simp only[Yd] at g|-;exact u k f g
def Ze[jq0:Hid (Env->HS->Prop)](e:Env)(h:HS):Prop:=jq0.out e h
def Ze.of{jq0 e h}(a:jq0 e h):Ze (jq0:=⟨jq0⟩) e h:=a
def Z6.cut{P}{id:Nat}{a Q e h}(b)(j:P.follows .mixedOrders=true)
  (i:H2 .any a b a.size (Array.replicate a.size false)=true)(jq0)(f:vcPlan P a.toList (λe h=>Ze (jq0:=⟨jq0⟩) e h) b e h)(g:∀e h,jq0 e h->Q .normal e h):
  Z6 P (c:=⟨.region id a true⟩) (Q:=⟨Q⟩) e h:=by
 refine Wy.mono (Q:=λx e h=>match x with| .normal=>jq0 e h|_=>False) (Wy.draw b j i f) ?_;intro x e h d;cases x with
 |normal=>exact g e h d
 |_=>exact d.elim
def Zj{σ:Type}[iq0:Hid (σ->Env->HS->Prop)](e:Env)(h:HS):Prop:=∃s,iq0.out s e h
def Zj.of{σ:Type}{iq0 e h}(s:σ)(a:iq0 s e h):Zj (iq0:=⟨iq0⟩) e h:=⟨s,a⟩
def H8:Prop:=False
def Wy.rQ{P c Q e h}(f:Nat->Env->HS->Prop)(n:Nat)(R:f n e h)
  (o:∀n e h,f n e h->Wy P c (Vn (λB C=>∃D,D<n/\f D B C) Q) e h):Wy P (.loop c) Q e h:=by
 intro Γ a w μ hI hE;intro b k F;have J:∀n e h a w μ,f n e h->Inv Γ h μ w->ZF μ e a->
   ∃t A E,(∃B C μ',Q t B C/\Inv Γ C μ' E/\ZF μ' B A/\Mem.Le μ μ')/\Arrives P (lone (b.at a (.code c::.inLoop c::k)) F w) b k F t A E:=by
  intro n
  induction n using Nat.strongRecOn with|_ n ih=>?_
  intro e h a w μ hIn hI hE;have⟨t,s,y,⟨u,v,μ₁,j,r,q,p⟩,g⟩:=(o n e h hIn) Γ a w μ hI hE b (.inLoop c::k) F;cases t with
  |normal=>?_
  |exit id=>exact⟨_,s,y,⟨u,v,μ₁,j,r,q,p⟩,.pass rfl (λ_ _=>.inl I) g⟩
  |goto l=>exact⟨_,s,y,⟨u,v,μ₁,j,r,q,p⟩,.pass rfl (λ_ _=>.inl I) g⟩
  |ret=>exact⟨_,s,y,⟨u,v,μ₁,j,r,q,p⟩,.pass rfl (λ_ _=>.inl I) g⟩
  |panic ch=>exact⟨_,s,y,⟨u,v,μ₁,j,r,q,p⟩,.pass rfl (λ_ _=>.inl I) g⟩
  |outgrown=>exact⟨_,s,y,⟨u,v,μ₁,j,r,q,p⟩,.pass rfl (λ_ _=>.inl I) g⟩
  have⟨D,G,L⟩:=j;have⟨N,M,Y,⟨O,S,μ₃,T,U,V,W⟩,K⟩:=ih D G u v s y μ₁ L r q;exact⟨N,M,Y,⟨O,S,μ₃,T,U,V,p.trans W⟩,.of_steps (Steps.trans g (.one step_inLoop)) K⟩
 have⟨t,A,E,j,g⟩:=J n e h a w μ R hI hE;exact⟨t,A,E,j,.of_steps (.one step_loop) g⟩
def EC{N a Q}(b:∀e h,N e h->a e h):∀x e h,Vn N Q x e h->Vn a Q x e h
 | .normal,e,h,hq=>b e h hq
 | .exit _,_,_,hq=>hq
 | .goto _,_,_,hq=>hq
 | .ret,_,_,hq=>hq
 | .panic _,_,_,hq=>hq
 | .outgrown,_,_,hq=>hq
def Z6.for{P c Q e h xs s0}{body:Nat->α->σ->(σ->aB ρ)->aB ρ}{k r}(R:Nat->σ->Env->HS->Prop)
  (b:Is (Zd body k xs 0 s0) r)(p:R 0 s0 e h)
  (a:∀i s e h,R i s e h->∀hlt:i<xs.length,Is (body i xs[i] s (λd=>Zd body k (xs.drop (i+1)) (i+1) d)) r->
   vc P c (Vn (λg j=>Zj (iq0:=⟨λd e h=>R (i+1) d e h/\Is (Zd body k (xs.drop (i+1)) (i+1) d) r⟩) g j) Q) e h)
  (f:∀s e h,R xs.length s e h->Is (k s) r->vc P c (Vn (λ_ _=>H8) Q) e h):
  Z6 P (c:=⟨.loop c⟩) (Q:=⟨Q⟩) e h:=by
 refine Wy.rQ (λn e h=>∃i s,i<=xs.length/\n=xs.length-i/\R i s e h/\Is (Zd body k (xs.drop i) i s) r) xs.length ⟨0,s0,X,X,p,sU b⟩ ?_;rintro n e h ⟨i,s,hi,rfl,l,b⟩;rcases Yx i xs.length with hlt|hge;rw[YB hlt] at b;refine(UL _ _ _ _ (a i s e h l hlt b)).mono (EC ?_);rintro g j ⟨d,m,o⟩;exact⟨xs.length-(i+1),X,i+1,d,X,rfl,m,o⟩;obtain rfl:i=xs.length:=X
 rw[YR (Y7 _)] at b;exact(UL _ _ _ _ (f s e h l b)).mono (EC λ_ _ q=>q.elim)
def Z6.count{P c Q e h}{N:Int}{s0 a k}{r:ρ}(R:Nat->σ->Env->HS->Prop)
  (d:Is (WZ a k N.toNat 0 s0) r)(u:R 0 s0 e h)
  (b:∀i s e h,R i s e h->(i:Int)<N->Is (a i s (λf=>WZ a k (N.toNat-(i+1)) (i+1) f)) r->
   vc P c (Vn (λl m=>Zj (iq0:=⟨λf e h=>R (i+1) f e h/\Is (WZ a k (N.toNat-(i+1)) (i+1) f) r⟩) l m) Q) e h)
  (g:∀i s e h,R i s e h->¬(i:Int)<N->Is (k s) r->vc P c (Vn (λ_ _=>H8) Q) e h):
  Z6 P (c:=⟨.loop c⟩) (Q:=⟨Q⟩) e h:=by
 refine Wy.rQ (λn e h=>∃i s,i<=N.toNat/\n=N.toNat-i/\R i s e h/\Is (WZ a k (N.toNat-i) i s) r) N.toNat ⟨0,s0,X,X,u,sU d⟩ ?_;rintro n e h ⟨i,s,hi,rfl,o,d⟩;rcases Yx i N.toNat with hlt|hge;obtain⟨j,w⟩:∃j,N.toNat-i=j+1:=⟨N.toNat-i-1,X⟩;rw[w] at d;have p:j=N.toNat-(i+1):=X
 subst p;refine(UL _ _ _ _ (b i s e h o X d)).mono (EC ?_);rintro l m ⟨f,q,t⟩;exact⟨N.toNat-(i+1),X,i+1,f,X,rfl,q,t⟩;obtain rfl:i=N.toNat:=X;rw[Y3f] at d;exact(UL _ _ _ _ (g N.toNat s e h o X d)).mono (EC λ_ _ v=>v.elim)
def Z6.rU{P c Q e h}{m:Nat}{g a}{r:ρ}(R:σ->Env->HS->Prop)
  (f:Is (AB a m g) r)(o:R g e h)
  (b:∀n s e h,R s e h->Is (a s (λd=>AB a n d)) r->
   vc P c (Vn (λi j=>Zj (iq0:=⟨λd e h=>R d e h/\Is (AB a n d) r⟩) i j) Q) e h):
  Z6 P (c:=⟨.loop c⟩) (Q:=⟨Q⟩) e h:=by
 refine Wy.rQ (λn e h=>∃s,R s e h/\Is (AB a n s) r) m ⟨g,o,f⟩ ?_;rintro n e h ⟨s,p,f⟩;cases n with
 |zero=>cases f
 |succ n=>?_
 refine(UL _ _ _ _ (b n s e h p f)).mono (EC ?_);rintro i j ⟨d,k,l⟩;exact⟨n,X,d,k,l⟩
end
def Ba(a:Nat)(b:List aC):Prop:=∀y∈b,y.length=a
def Zm.qW{h}{d:Nat}{c e}{a b:Nat}{x}(g:Zm h d c e)(f:h.p<=a):Zm (h.qC (a,b) x) d c e:=g.qC f
def Z65{a:Nat}:Ba a []=True:=by simp[Ba]
def Z3v{a:Nat}{y b}:Ba a (y::b)=(y.length=a/\Ba a b):=by simp[Ba]
def Z2h{b:Nat}{c d}:Ba b (c++d)=(Ba b c/\Ba b d):=by
 simp only[Ba,Y3,eq_iff_iff];exact⟨λh=>⟨λy a=>h y (.inl a),λy a=>h y (.inr a)⟩,λh y a=>a.elim (h.1 y) (h.2 y)⟩
def Z66{α:Type}{f}{b:Nat}{d:List α}(h:∀a,(f a).length=b):Ba b (d.map f)=True:=by refine eq_true ?_;intro y c;obtain⟨a,_,rfl⟩:=Yi.1 c;exact h a
def Z7u{h}{b:Nat}{l a g}:Zm h b (.own l a) g=(a=g/\h.arr l=some (a.length,b)/\l.1<h.p/\Ba b a):=by
 apply propext;constructor;rintro⟨c|⟨l',c,d,e⟩,f⟩;cases c.1;injection c with e1 e2
 subst e1 e2;exact⟨rfl,d,e,f⟩;rintro⟨rfl,d,e,f⟩;exact Zm.own d e f
def WM(c a:C):Prop:=∀l xs b,c=.own l xs->a=.own l b->False
def WM.symm{c a}(h:WM c a):WM a c:=λl e f b d=>h l f e d b
def Pt{c}:WM .nil c=True:=eq_true λ_ _ _ h _=>by cases h
def OS{c}:WM c .nil=True:=eq_true λ_ _ _ _ h=>by cases h
def Z82{l c f g}:WM (.own l f) (.own c g)=(l≠c):=by
 apply propext;constructor;rintro h rfl;exact h _ _ _ rfl rfl;intro h k _ _ d e;injection d with a _
 injection e with b _
 exact h (a.trans b.symm)
def Zm.apart{h}{f:Nat}{c m n}(g:Zm h f c m){l}(hl:h.p<=l.1):WM (.own l n) c:=by
 intro k _ _ i d;injection i with a _
 rcases g.1 with⟨e,_⟩|⟨l',e,_,j⟩;rw[e] at d;cases d;rw[e] at d;injection d with b _;rw[b,<-a] at j;omega
def Zm.qG{h}{d:Nat}{c xs}(g:Zm h d c xs):∀a l,h.p<=l.1->(C.qH a c).arr l=a.arr l:=by
 intro a l hl;rcases g.1 with⟨b,_⟩|⟨e,b,_,h5⟩;rw[b];rfl;rw[b]
 have:l≠e:=by rintro rfl;omega
 simp[C.qH,HS.qC,this]
def Zm.qH{h}{d:Nat}{c b i}(g:Zm h d b i)(j:WM c b):Zm (C.qH h c) d b i:=by
 refine⟨?_,g.2⟩;rcases g.1 with a|⟨f,a,e,h5⟩;exact .inl a;refine .inr ⟨f,a,?_,by rwa [ES]⟩;cases c with
 |own l ys=>?_
 |_=>exact e
 have:f≠l:=by rintro rfl;exact j _ _ _ rfl a
 simp[C.qH,HS.qC,this,e]
def Zm.wZ{h}{b:Nat}{c a d}(g:Zm h b a d)(e:WM a c):Zm (C.qH h c) b a d:=g.qH e.symm
def Z7v{h}{c:Nat}{b}:Zm h c .nil b=(b=[]):=by apply propext;constructor;rintro⟨a|⟨l',a,_,_⟩,_⟩;exact a.2;cases a;rintro rfl;exact Zm.nil
def Ju(z:aB (TypeId×Nat×Nat))(x i:V):aB V:=
 match z with
 |some (_,n,_)=>match x,i with
   | .one c,.one (.d (.int _ k))=>match c.qE with
     |some xs=>if 0<=k then match xs[k.toNat]? with
       |some y=>if y.length=n/\0<n then some (.one (.rp y)) else none
       |none=>none
      else none
     |none=>match c with
       | .mrow l off m _=>if 0<=k/\k.toNat<m/\0<n then some (.one (.ptr l (off+k.toNat*n))) else none
       |_=>none
   |_,_=>none
 |none=>none
def He(z:aB (TypeId×Nat×Nat))(b:aB (Nat×Nat))(x i:V):aB V:=
 match z with
 |some z=>Ju (some z) x i
 |none=>match b with
   |some (a,n)=>match x,i with
     | .one (.ptr l off),.one (.d (.int _ k))=>if 0<=k/\k<a then some (.one (.ptr l (off+k.toNat*n))) else none
     |_,_=>none
   |none=>none
@[simp] theorem Zkl{z a x i}:He (some z) a x i=Ju (some z) x i:=rfl
@[simp] theorem Zll{a n b:Nat}{l kk}{k:Int}:He none (some (a,n)) (.one (.ptr l b)) (.one (.d (.int kk k)))=if 0<=k/\k<a then some (.one (.ptr l (b+k.toNat*n))) else none:=rfl
@[simp high] theorem Z2a{P t x i e h}:ZH P (.indexAddr t x i) e h=He (ZC P t) (Fq P t) (e.ev x) (e.ev i):=by
 simp only[ZH,He,Ju];cases ZC P t with
 |none=>rfl
 |some z=>?_
 have⟨a,n,b⟩:=z
 dsimp only
 generalize e.ev x=xq0;generalize e.ev i=iq0;cases xq0 with
 |one c=>cases iq0 with
   |one c'=>cases c' with
     |d y=>cases y with
       |int k j=>cases c with
         |d z=>cases z<;>rfl
         |_=>rfl
       |_=>cases c<;>rfl
     |_=>cases c<;>rfl
   |_=>cases c<;>rfl
 |_=>rfl
@[simp] theorem Zlk{a n b:Nat}{c k}{j:Int}:Ju (some (a,n,b)) (.one c) (.one (.d (.int k j)))=match c.qE with
   |some xs=>if 0<=j then match xs[j.toNat]? with
     |some y=>if y.length=n/\0<n then some (.one (.rp y)) else none
     |none=>none
    else none
   |none=>match c with
     | .mrow l off m _=>if 0<=j/\j.toNat<m/\0<n then some (.one (.ptr l (off+j.toNat*n))) else none
     |_=>none:=rfl
def Rd(c:C)(a:List aC):Prop:=c.qE=some a/\c.toD=some (.sl a)/\∀h,c.toA h=some (.d (.sl a))
def Zm.rd{h}{b:Nat}{c a}(g:Zm h b c a):Rd c a:=⟨g.list,g.toD,g.toA⟩
def Rd.d{a}:Rd (.d (.sl a)) a:=⟨rfl,rfl,λ_=>rfl⟩
def Rd.own{l a}:Rd (.own l a) a:=⟨rfl,rfl,λ_=>rfl⟩
def Rd.nil:Rd .nil []:=⟨rfl,rfl,λ_=>rfl⟩
def Zf5{a b}:Rd (.d (.sl a)) b=(a=b):=by apply propext;constructor;intro h;exact Option.some.inj h.1;rintro rfl;exact Rd.d
attribute [simp] Z7u Z7v Zf5 Zm.w Zm.xV Zm.qW Zm.qH Zm.wZ Z65 Z3v Z2h Z66 Pt OS Z82
def Z6.cu{P:Program}{id:Nat}{a:Array Oper}{Q:Exit->Env->HS->Prop}{e:Env}{h:HS}(l:List Nat)(jq0:Env->HS->Prop)(b:vcPlan P a.toList (λe h=>Ze (jq0:=⟨jq0⟩) e h) (Y.qB l .done) e h)(d:∀e h,jq0 e h->Q .normal e h)(g:P.follows .mixedOrders=true:=by kernel_rfl)(f:H2 .any a (Y.qB l .done) a.size (Array.replicate a.size false)=true:=by kernel_rfl):Z6 P (c:=⟨.region id a true⟩) (Q:=⟨Q⟩) e h:=.cut _ g f jq0 b d
end Go.Am
end
namespace Go.Am
section
def Jv(rec:TypeId->aB (List Kd)):List Field->Nat->aB (List Kd)
 |[],_=>some []
 |f::fs,off=>if f.name≠ "_"/\f.offset=off then
     match rec f.type with
     |some ks=>match Jv rec fs (off+ks.length) with
       |some r=>some (ks++r)
       |none=>none
     |none=>none
  else none
def DW(P:Program):Nat->TypeId->aB (List Kd)
 |0,_=>none
 |d+1,t=>match P.underlying t with
   |some (.int k)=>some [.int k]
   |some .bool=>some [.bool]
   |some .string=>some [.str]
   |some (.struct fs)=>if P.stoodInHeld t=true then none else
     match Jv (DW P d) fs.toList 0 with
     |some ks=>match P.info? t with
       |some i=>if i.size=ks.length then some ks else none
       |none=>none
     |none=>none
   |_=>none
def G5:∀{ks ls:List Kd} {g:List Value},Ux (ks++ls) g->∃a b,g=a++b/\Ux ks a/\Ux ls b/\a.length=ks.length
 |[],ls,g,h=>⟨[],g,rfl,trivial,h,rfl⟩
 |k::ks,ls,[],h=>by cases k<;>exact h.elim
 |k::ks,ls,v::g,h=>by
   cases k with
   |int i=>?_
   |bool=>?_
   |str=>?_
   |other=>exact h.elim
   have⟨f,h⟩:=h;obtain⟨a,b,rfl,c,d,e⟩:=G5 (ks:=ks) (ls:=ls) h;exact⟨v::a,b,rfl,⟨f,c⟩,d,by simp[e]⟩;have⟨f,h⟩:=h;obtain⟨a,b,rfl,c,d,e⟩:=G5 (ks:=ks) (ls:=ls) h;exact⟨v::a,b,rfl,⟨f,c⟩,d,by simp[e]⟩;have⟨f,h⟩:=h;obtain⟨a,b,rfl,c,d,e⟩:=G5 (ks:=ks) (ls:=ls) h;exact⟨v::a,b,rfl,⟨f,c⟩,d,by simp[e]⟩
def NU:∀{a b x y:List Value},a.length=x.length->Uk (a++b) (x++y)=(Uk a x&&Uk b y)
 |[],b,[],y,_=>rfl
 |u::a,b,v::x,y,h=>by
   simp only[Yt,Uk];rw[NU (a:=a) (x:=x) (sU h),Bool.and_assoc]
 |[],_,_::_,_,h=>by cases h
 |_::_,_,[],_,h=>by cases h
def If:∀{a:List Kd} {b:List Value},Ux a b->b.length=a.length
 |[],[],_=>rfl
 |[],_::_,h=>h.elim
 |k::a,[],h=>by cases k<;>exact h.elim
 |k::a,v::b,h=>by
   cases k with
   |int i=>simp[If h.2]
   |bool=>simp[If h.2]
   |str=>simp[If h.2]
   |other=>exact h.elim
def AN(P:Program)(t:TypeId)(a:List Value)(v:Value):Prop:=
 match P.underlying t with
 |some d=>if UW d=true then v=.agg a.toArray else a=[v]
 |none=>False
def Ox{P:Program}{d:Nat}{t:TypeId}{n:List Kd}(b:DW P d t=some n){cs a h:List Value}{e:Nat}(l:cs.drop e=a++h)(r:Ux n a)(w:World):
  ∃v,(part t cs.toArray e).run P w=.ok v w/\AN P t a v:=by
 have c:=If r;cases d with
 |zero=>cases b
 |succ d=>?_
 unfold DW at b;have g:∀k v,P.underlying t=some k->UW k=false->a=[v]->∃u,(part t cs.toArray e).run P w=.ok u w/\AN P t a u:=by
  intro k v f m p;subst p;have o:cs[e]?=some v:=by
   have:(cs.drop e)[0]?=some v:=by rw[l];rfl
   simpa using this
  exact⟨v,by simp[part,Cr f,m,o],by simp[AN,f,m]⟩
 split at b;rename_i k f;cases b;obtain⟨v,rfl⟩:∃v,a=[v]:=by
  match a,c with
  |[v],_=>exact⟨v,rfl⟩
 exact g _ v f rfl rfl;rename_i f;cases b;obtain⟨v,rfl⟩:∃v,a=[v]:=by
  match a,c with
  |[v],_=>exact⟨v,rfl⟩
 exact g _ v f rfl rfl;rename_i f;cases b;obtain⟨v,rfl⟩:∃v,a=[v]:=by
  match a,c with
  |[v],_=>exact⟨v,rfl⟩
 exact g _ v f rfl rfl;rename_i fs f;split at b;cases b;split at b;rename_i ad _;split at b;rename_i i s;split at b;rename_i q;cases b;have j:(cs.drop e).take i.size=a:=by rw[q,<-c,l];simp
 exact⟨.agg a.toArray,by simp[part,Cr f,UW,sizeOf,typeInfo,s,j],by simp[AN,f,UW]⟩;cases b;cases b;cases b;cases b
def Pl{P:Program}:∀(d:Nat) (t:TypeId) (q:List Kd),DW P d t=some q->∀(D:Nat),d<=D->∀(p o:List Value) (v u:Value) (w:World),Ux q p->Ux q o->AN P t p v->AN P t o u->
  (Op.equalIn D t v u).run P w=.ok (Uk p o) w
 |0,t,q,hk=>by cases hk
 |d+1,t,q,hk=>by
   intro D hD p o v u w y x j h;obtain⟨D,rfl⟩:∃n,D=n+1:=⟨D-1,X⟩;unfold DW at hk;split at hk;rename_i k e;cases hk;simp only[AN,e,UW,YX,if_false] at j h;subst j h;obtain⟨⟨n,rfl⟩,_⟩:=y;obtain⟨⟨m,rfl⟩,_⟩:=x;rw[run_equalIn_int w D t k k n m e];simp[Uk,F9];rename_i e;cases hk;simp only[AN,e,UW,YX,if_false] at j h;subst j h;obtain⟨⟨n,rfl⟩,_⟩:=y;obtain⟨⟨m,rfl⟩,_⟩:=x;rw[run_equalIn_bool' w D t n m e];simp[Uk,F9];rename_i e;cases hk;simp only[AN,e,UW,YX,if_false] at j h;subst j h;obtain⟨⟨n,rfl⟩,_⟩:=y;obtain⟨⟨m,rfl⟩,_⟩:=x;rw[run_equalIn_string w D t n m e,<-beq_toListBytes];simp[Uk,F9];rename_i L e;split at hk;cases hk;rename_i C;split at hk;rename_i aj U;split at hk;rename_i i hi;split at hk;cases hk;simp only[AN,e,UW,if_true] at j h;subst j h;have N:P.fieldsOf t=L:=by simp[Program.fieldsOf,e]
   rw[run_equalIn_agg w D t _ _ (by rwa [N]) (sU C),N];have E:∀(l:List Field) (c:Nat) (s:List Kd) (a b:List Value),Jv (DW P d) l c=some s->p.drop c=a->o.drop c=b->Ux s a->Ux s b->∀w,(Op.eqFields D p.toArray o.toArray l).run P w=.ok (Uk a b) w:=by
    intro l
    induction l with|nil=>?_|cons f l ih=>?_
    intro c s a b g A B F G w;cases g;have Y:a=[]:=by cases a with|nil=>rfl|cons _ _=>exact F.elim
    have Z:b=[]:=by cases b with|nil=>rfl|cons _ _=>exact G.elim
    subst Y Z;simp[Op.eqFields,Uk];intro c s a b g A B F G w;unfold Jv at g;split at g;rename_i M;split at g;rename_i O z;split at g;rename_i r hr;cases g;obtain⟨H,R,rfl,Q,s2,l1⟩:=G5 F;obtain⟨K,W,rfl,t1,t2,m1⟩:=G5 G;have⟨v1,J,T⟩:=Ox z (cs:=p) A Q w;have⟨u1,I,V⟩:=Ox z (cs:=o) B t1 w;have he:=Pl d f.type O z D X H K v1 u1 w Q t1 T V;have S:=ih (c+O.length) r R W hr (by rw[<-Xr,A,<-l1];simp) (by rw[<-Xr,B,<-m1];simp) s2 t2 w;rw[<-M.2] at J I;simp only[Op.eqFields,M.1,ne_eq,not_false_eq_true,if_true,Sem.run_bind,J,I,Result.andThen_ok,he];rw[NU X];cases hb1:Uk H K with
    |true=>simpa using S
    |false=>simp
    cases g;cases g;cases g
   exact E L.toList 0 _ p o U rfl rfl y x w;cases hk;cases hk;cases hk;cases hk
def Ja{P:Program}{t:TypeId}{a:List Kd}{fs:Array Field}(c:P.underlying t=some (.struct fs))(i:P.eqGuardType P.depth t=false)(j:DW P 20 t=some a):D0 P t a:=by
 intro d f e w x y h k g;have b:=Pl 20 t a j 10000 X f e (.agg f.toArray) (.agg e.toArray) w k g (by simp[AN,c,UW]) (by simp[AN,c,UW]);simp only[Sem.run_bind,run_eqGuard_agg w d t x y _ _ i,Result.andThen_ok];cases d with
 |eql=>rw[run_eql_struct,b];simp
 |neq=>rw[run_neq_struct,b];simp
 |_=>cases h
def Zd1:W9 prog 3=some (false,1):=kR
def Zcy:W3 prog 3=some [.d (.int .i64 0)]:=kR
def Zd0:W9 prog 4=some (false,1):=kR
def Zd3:Dz prog 4=true:=kR
def Zcx:W3 prog 4=some [.d (.bool false)]:=kR
def Zcz:W9 prog 9=some (false,1):=kR
def Zd2:ZC prog 9=none:=kR
def Zbe:WN prog 9=some true:=kR
def Zb6:Ff prog 9=true:=kR
def Zc0:W9 prog 22=some (false,1):=kR
def GJ:ZC prog 22=some (88,3,64):=kR
def Z95:WN prog 22=some false:=kR
def Zbz:W9 prog 23=some (false,1):=kR
def GH:ZC prog 23=some (102,3,56):=kR
def Z94:WN prog 23=some false:=kR
def Zby:W9 prog 24=some (false,1):=kR
def Dv:ZC prog 24=some (100,7,80):=kR
def Z93:WN prog 24=some false:=kR
def Zbx:W9 prog 26=some (true,3):=kR
def Z6y:ZM prog 26 0=some (0,false,1):=kR
def Z6x:ZM prog 26 1=some (1,false,1):=kR
def Z6w:ZM prog 26 2=some (2,false,1):=kR
def Zbd:U1 prog 26=some [(0,1),(1,1),(2,1)]:=kR
def Zb5:W3 prog 26=some [.nil,.nil,.nil]:=kR
def Zbw:W9 prog 27=some (false,1):=kR
def QI:ZC prog 27=some (108,2,32):=kR
def Z92:WN prog 27=some false:=kR
def Zbv:W9 prog 29=some (true,4):=kR
def Z6v:ZM prog 29 0=some (0,true,3):=kR
def Z6u:ZM prog 29 1=some (3,false,1):=kR
def Zbc:U1 prog 29=some [(0,3),(3,1)]:=kR
def Zb4:W3 prog 29=some [.nil,.nil,.nil,.nil]:=kR
def Zbu:W9 prog 30=some (false,1):=kR
def CC:ZC prog 30=some (45,1,24):=kR
def Z91:WN prog 30=some false:=kR
def Zbt:W9 prog 31=some (false,1):=kR
def IP:ZC prog 31=some (30,1,24):=kR
def Z90:WN prog 31=some false:=kR
def Zbs:W9 prog 33=some (true,2):=kR
def Z6t:ZM prog 33 0=some (0,false,1):=kR
def Z6s:ZM prog 33 1=some (1,false,1):=kR
def Zbb:U1 prog 33=some [(0,1),(1,1)]:=kR
def Zb3:W3 prog 33=some [.nil,.nil]:=kR
def Zbr:W9 prog 34=some (false,1):=kR
def QH:ZC prog 34=some (60,4,72):=kR
def Z8z:WN prog 34=some false:=kR
def Zbq:W9 prog 37=some (false,1):=kR
def Zb2:W3 prog 37=some [.d (.int .i64 0)]:=kR
def QG:ZC prog 44=some (66,2,40):=kR
def Zbp:W9 prog 45=some (false,1):=kR
def CB:ZC prog 45=some (66,2,40):=kR
def Z8y:WN prog 45=some false:=kR
def Zb1:W3 prog 45=some [.nil]:=kR
def LQ:ZC prog 51=some (34,1,24):=kR
def Z8x:WN prog 51=some false:=kR
def QF:ZC prog 57=some (97,3,32):=kR
def Z8v:WN prog 57=some false:=kR
def Zq0:BT prog 57=true:=kR
def Zbl:W9 prog 58=some (false,1):=kR
def QE:ZC prog 58=some (97,3,32):=kR
def Z8u:WN prog 58=some false:=kR
def Zqg:W3 prog 58=some [.nil]:=kR
def Zum:W9 prog 60=some (true,4):=kR
def Zt6:ZM prog 60 0=some (0,false,1):=kR
def Zt5:ZM prog 60 1=some (1,false,1):=kR
def Zt4:ZM prog 60 2=some (2,false,1):=kR
def Zt3:ZM prog 60 3=some (3,false,1):=kR
def Zuf:U1 prog 60=some [(0,1),(1,1),(2,1),(3,1)]:=kR
def Zub:W3 prog 60=some [.d (.int .i64 0),.d (.str empty),.nil,.nil]:=kR
def Zul:W9 prog 64=some (false,1):=kR
def PG:ZC prog 64=some (58,1,24):=kR
def Zts:WN prog 64=some false:=kR
def Zua:W3 prog 64=some [.nil]:=kR
def Zuk:W9 prog 66=some (true,2):=kR
def Zt2:ZM prog 66 0=some (0,false,1):=kR
def Zt1:ZM prog 66 1=some (1,false,1):=kR
def Zue:U1 prog 66=some [(0,1),(1,1)]:=kR
def Zu9:W3 prog 66=some [.d (.str empty),.nil]:=kR
def Zr1:ZC prog 73=some (37,1,8):=kR
def Ztr:WN prog 73=some false:=kR
def Zr0:ZC prog 76=some (26,3,72):=kR
def Ztq:WN prog 76=some false:=kR
def Zuj:W9 prog 85=some (false,1):=kR
def Zpu:ZC prog 85=some (95,3,32):=kR
def Ztp:WN prog 85=some false:=kR
def Zui:W9 prog 86=some (false,1):=kR
def Zpr:ZC prog 86=some (3,1,8):=kR
def Zto:WN prog 86=some false:=kR
def Zuh:W9 prog 88=some (true,3):=kR
def Zt0:ZM prog 88 0=some (0,false,1):=kR
def Zsz:ZM prog 88 1=some (1,false,1):=kR
def Zsy:ZM prog 88 2=some (2,false,1):=kR
def Zud:U1 prog 88=some [(0,1),(1,1),(2,1)]:=kR
def Zqf:W3 prog 88=some [.d (.str empty),.nil,.nil]:=kR
def Zug:W9 prog 95=some (true,3):=kR
def Zsx:ZM prog 95 0=some (0,false,1):=kR
def Zsw:ZM prog 95 1=some (1,false,1):=kR
def Zsv:ZM prog 95 2=some (2,false,1):=kR
def Zuc:U1 prog 95=some [(0,1),(1,1),(2,1)]:=kR
def Zu8:W3 prog 95=some [.d (.str empty),.d (.int .i64 0),.d (.bool false)]:=kR
def Zbf:W9 prog 97=some (true,3):=kR
def Z6j:ZM prog 97 0=some (0,false,1):=kR
def Z6i:ZM prog 97 1=some (1,false,1):=kR
def Zsu:ZM prog 97 2=some (2,false,1):=kR
def Zb7:U1 prog 97=some [(0,1),(1,1),(2,1)]:=kR
def Zav:W3 prog 97=some [.d (.int .i64 0),.d (.int .i64 0),.d (.str empty)]:=kR
def Zty:W9 prog 100=some (true,7):=kR
def Zsm:ZM prog 100 0=some (0,false,1):=kR
def Zsl:ZM prog 100 1=some (1,false,1):=kR
def Zsk:ZM prog 100 2=some (2,false,1):=kR
def Zsj:ZM prog 100 3=some (3,false,1):=kR
def Zsi:ZM prog 100 4=some (4,true,3):=kR
def Zqd:W3 prog 100=some [.d (.str empty),.d (.int .i64 0),.d (.str empty),.d (.int .i64 0),.d (.int .i64 0),.d (.int .i64 0),.d (.str empty)]:=kR
def Ztx:W9 prog 102=some (true,3):=kR
def Zsh:ZM prog 102 0=some (0,false,1):=kR
def Zsg:ZM prog 102 1=some (1,false,1):=kR
def Zsf:ZM prog 102 2=some (2,false,1):=kR
def Ztn:U1 prog 102=some [(0,1),(1,1),(2,1)]:=kR
def Zqc:W3 prog 102=some [.d (.str empty),.nil,.d (.str empty)]:=kR
def Z9f:W9 prog 104=some (true,24):=kR
def Zse:ZM prog 104 0=some (0,false,1):=kR
def Zsd:ZM prog 104 1=some (1,false,1):=kR
def Zsc:ZM prog 104 2=some (2,false,1):=kR
def Zsb:ZM prog 104 3=some (3,false,1):=kR
def Zsa:ZM prog 104 4=some (4,false,1):=kR
def Zs9:ZM prog 104 5=some (5,false,1):=kR
def Zs8:ZM prog 104 6=some (6,false,1):=kR
def Zs7:ZM prog 104 7=some (7,false,1):=kR
def Zs6:ZM prog 104 8=some (8,true,3):=kR
def Zs5:ZM prog 104 9=some (11,true,3):=kR
def Zrn:ZM prog 104 10=some (14,true,7):=kR
def Zrm:ZM prog 104 11=some (21,true,3):=kR
def Ztm:U1 prog 104=some [(0,1),(1,1),(2,1),(3,1),(4,1),(5,1),(6,1),(7,1),(8,3),(11,3),(14,7),(21,3)]:=kR
def Zti:W3 prog 104=some [.d (.int .i64 0),.d (.str empty),.d (.str empty),.d (.str empty),.d (.str empty),.d (.int .i64 0),.nil,.d (.str empty),.d (.int .i64 0),.d (.int .i64 0),.d (.str empty),.d (.str empty),.nil,.nil,.d (.str empty),.d (.int .i64 0),.d (.str empty),.d (.int .i64 0),.d (.int .i64 0),.d (.int .i64 0),.d (.str empty),.d (.str empty),.nil,.d (.str empty)]:=kR
def Cx:ZC prog 105=some (104,24,352):=kR
def Ztw:W9 prog 106=some (false,1):=kR
def Zqv:ZC prog 106=some (104,24,352):=kR
def Zst:WN prog 106=some false:=kR
def Ztv:W9 prog 108=some (true,2):=kR
def Zs4:ZM prog 108 0=some (0,false,1):=kR
def Zs3:ZM prog 108 1=some (1,false,1):=kR
def Ztl:U1 prog 108=some [(0,1),(1,1)]:=kR
def Zth:W3 prog 108=some [.d (.int .i64 0),.nil]:=kR
def Zqu:ZC prog 118=some (4,1,1):=kR
def Zq5:ZC prog 146=some (150,2,16):=kR
def Zss:WN prog 146=some false:=kR
def Ztu:W9 prog 150=some (true,2):=kR
def Zs2:ZM prog 150 0=some (0,false,1):=kR
def Zs1:ZM prog 150 1=some (1,false,1):=kR
def Ztk:U1 prog 150=some [(0,1),(1,1)]:=kR
def Ztg:W3 prog 150=some [.d (.int .i64 0),.d (.bool false)]:=kR
def Zqt:ZC prog 185=some (5,1,1):=kR
def Ztt:W9 prog 198=some (false,1):=kR
def Zs0:ZM prog 200 0=some (0,true,24):=kR
def Zrz:ZM prog 200 1=some (24,false,1):=kR
def Zry:ZM prog 200 2=some (25,true,3):=kR
def Zrx:ZM prog 200 3=some (28,true,3):=kR
def Zrw:ZM prog 200 4=some (31,true,3):=kR
def Zrv:ZM prog 200 5=some (34,false,1):=kR
def Zru:ZM prog 200 6=some (35,false,1):=kR
def Zrt:ZM prog 200 7=some (36,false,1):=kR
def Zrs:ZM prog 200 8=some (37,false,1):=kR
def Zrr:ZM prog 200 9=some (38,false,1):=kR
def Ztj:U1 prog 200=some [(0,24),(24,1),(25,3),(28,3),(31,3),(34,1),(35,1),(36,1),(37,1),(38,1)]:=kR
def Ztf:W3 prog 200=some [.d (.int .i64 0),.d (.str empty),.d (.str empty),.d (.str empty),.d (.str empty),.d (.int .i64 0),.nil,.d (.str empty),.d (.int .i64 0),.d (.int .i64 0),.d (.str empty),.d (.str empty),.nil,.nil,.d (.str empty),.d (.int .i64 0),.d (.str empty),.d (.int .i64 0),.d (.int .i64 0),.d (.int .i64 0),.d (.str empty),.d (.str empty),.nil,.d (.str empty),.d (.bool false),.nil,.nil,.nil,.nil,.nil,.nil,.nil,.nil,.nil,.nil,.nil,.nil,.nil,.d (.int .i64 0)]:=kR
def Zqs:ZC prog 259=some (9,1,16):=kR
def Zsr:WN prog 259=some false:=kR
def Ztz:ZC prog 260=none:=kR
def Zu0:Fq prog 260=some (2,1):=kR
attribute [simp] Zd1 Zcy Zd0 Zd3 Zcx Zcz Zd2 Zbe Zb6 Zc0 GJ Z95 Zbz GH Z94 Zby Dv Z93 Zbx Z6y Z6x Z6w Zbd Zb5 Zbw QI Z92 Zbv Z6v Z6u Zbc Zb4 Zbu CC Z91 Zbt IP Z90 Zbs Z6t Z6s Zbb Zb3 Zbr QH Z8z Zbq Zb2 QG Zbp CB Z8y Zb1 LQ Z8x QF Z8v Zq0 Zbl QE Z8u Zqg Zum Zt6 Zt5 Zt4 Zt3 Zuf Zub Zul PG Zts Zua Zuk Zt2 Zt1 Zue Zu9 Zr1 Ztr Zr0 Ztq Zuj Zpu Ztp Zui Zpr Zto Zuh Zt0 Zsz Zsy Zud Zqf Zug Zsx Zsw Zsv Zuc Zu8 Zbf Z6j Z6i Zsu Zb7 Zav Zty Zsm Zsl Zsk Zsj Zsi Zqd Ztx Zsh Zsg Zsf Ztn Zqc Z9f Zse Zsd Zsc Zsb Zsa Zs9 Zs8 Zs7 Zs6 Zs5 Zrn Zrm Ztm Zti Cx Ztw Zqv Zst Ztv Zs4 Zs3 Ztl Zth Zqu Zq5 Zss Ztu Zs2 Zs1 Ztk Ztg Zqt Ztt Zs0 Zrz Zry Zrx Zrw Zrv Zru Zrt Zrs Zrr Ztj Ztf Zqs Zsr Ztz Zu0
def follows:prog.follows .mixedOrders=true:=kR
structure GV where
 g:Int
 int:Int
 text:ByteArray
def GV.z(v:GV):aC:=[.int .i64 v.g,.int .i64 v.int,.str v.text]
def GV.zero:GV:=⟨0,0,empty⟩
def Zg(n:Int):aC:=[.int .i64 n]
structure Col where
 y:ByteArray
 g:Int
 f:Bool
def Col.z(c:Col):aC:=[.str c.y,.int .i64 c.g,.bool c.f]
structure E where
 y:ByteArray
 j:List Col
 pk:List Int
def E.z(t:E):aC:=[.str t.y,.sl (t.j.map Col.z),.sl (t.pk.map Zg)]
structure Fk where
 u:ByteArray
 j:List Int
 ref:ByteArray
def Fk.z(k:Fk):aC:=[.str k.u,.sl (k.j.map Zg),.str k.ref]
structure Cons where
 u:ByteArray
 left:Int
 op:ByteArray
 right:Int
 value:GV
def Cons.z(c:Cons):aC:=[.str c.u,.int .i64 c.left,.str c.op,.int .i64 c.right,.int .i64 c.value.g,.int .i64 c.value.int,.str c.value.text]
structure Sch where
 q:List E
 b:List Fk
 cons:List Cons
def Sch.z(s:Sch):aC:=[.sl (s.q.map E.z),.sl (s.b.map Fk.z),.sl (s.cons.map Cons.z)]
@[simp] theorem GV.jB{v:GV}:v.z.length=3:=rfl
@[simp] theorem Zj1{v:Int}:(Zg v).length=1:=rfl
@[simp] theorem Col.jB{v:Col}:v.z.length=3:=rfl
@[simp] theorem E.jB{v:E}:v.z.length=3:=rfl
@[simp] theorem Fk.jB{v:Fk}:v.z.length=3:=rfl
@[simp] theorem Cons.jB{v:Cons}:v.z.length=7:=rfl
@[simp] theorem Sch.jB{v:Sch}:v.z.length=3:=rfl
def Jw(b:Bool):aC:=[.bool b]
def Hf(b:aA):aC:=[.str b]
def Z7{α:Type}(f:α->aC)(a:List α):aC:=[.sl (a.map f)]
structure J where
 u:ByteArray
 rows:List (List GV)
def J.z(x:J):aC:=[.str x.u,.sl (x.rows.map (Z7 GV.z))]
structure Chg where
 g:Int
 u:ByteArray
 key:List GV
 row:List GV
def Chg.z(x:Chg):aC:=[.int .i64 x.g,.str x.u,.sl (x.key.map GV.z),.sl (x.row.map GV.z)]
structure Stp where
 g:Int
 u:ByteArray
 o:ByteArray
 d:ByteArray
 s:ByteArray
 type:Int
 j:List Int
 op:ByteArray
 value:GV
 v:E
 cons:Cons
 fk:Fk
def Stp.z(x:Stp):aC:=[.int .i64 x.g,.str x.u,.str x.o,.str x.d,.str x.s,.int .i64 x.type,.sl (x.j.map Zg),.str x.op,
 .int .i64 x.value.g,.int .i64 x.value.int,.str x.value.text,.str x.v.y,.sl (x.v.j.map Col.z),.sl (x.v.pk.map Zg),
 .str x.cons.u,.int .i64 x.cons.left,.str x.cons.op,.int .i64 x.cons.right,.int .i64 x.cons.value.g,.int .i64 x.cons.value.int,.str x.cons.value.text,
 .str x.fk.u,.sl (x.fk.j.map Zg),.str x.fk.ref]
structure Edg where
 m:Int
 script:List Stp
def Edg.z(x:Edg):aC:=[.int .i64 x.m,.sl (x.script.map Stp.z)]
structure Gr where
 base:Sch
 n:List Edg
def Gr.z(x:Gr):aC:=[.sl (x.base.q.map E.z),.sl (x.base.b.map Fk.z),.sl (x.base.cons.map Cons.z),.sl (x.n.map Edg.z)]
structure Db where
 insts:List (List J)
 comps:List (List (List J))
def Db.z(x:Db):aC:=[.sl (x.insts.map (Z7 J.z)),.sl (x.comps.map (Z7 (Z7 J.z)))]
structure Rule where
 user:ByteArray
 version:Int
 u:ByteArray
 j:List Int
 preds:List Cons
 write:Bool
def Rule.z(x:Rule):aC:=[.str x.user,.int .i64 x.version,.str x.u,.sl (x.j.map Zg),.sl (x.preds.map Cons.z),.bool x.write]
structure Hop where
 edge:Int
 back:Bool
def Hop.z(x:Hop):aC:=[.int .i64 x.edge,.bool x.back]
structure Rej where
 version:Int
 err:Int
def Rej.z(x:Rej):aC:=[.int .i64 x.version,.int .i64 x.err]
structure Wr where
 version:Int
 changes:List Chg
def Wr.z(x:Wr):aC:=[.int .i64 x.version,.sl (x.changes.map Chg.z)]
structure Mp where
 step:Stp
 fwd:Bool
 src:Sch
 dst:Sch
 cs:Sch
 inp:List J
 comp:List J
 out:List J
 nc:List J
 err:Int
def Mp.z(m:Mp):aC:=m.step.z++[.bool m.fwd,.sl (m.src.q.map E.z),.sl (m.src.b.map Fk.z),.sl (m.src.cons.map Cons.z),.sl (m.dst.q.map E.z),.sl (m.dst.b.map Fk.z),.sl (m.dst.cons.map Cons.z),
 .sl (m.cs.q.map E.z),.sl (m.cs.b.map Fk.z),.sl (m.cs.cons.map Cons.z),.sl (m.inp.map J.z),.sl (m.comp.map J.z)]
structure Txn where
 version:Int
 snapshot:List J
 q:List ByteArray
 changes:List Chg
def Txn.z(x:Txn):aC:=[.int .i64 x.version,.sl (x.snapshot.map J.z),.sl (x.q.map Hf),.sl (x.changes.map Chg.z)]
attribute [simp] Txn.z Zg Jw Hf Z7 Hop.z Rej.z Wr.z Mp.z GV.z Col.z E.z Fk.z Cons.z Sch.z J.z Chg.z Stp.z Edg.z Gr.z Db.z Rule.z
@[simp] theorem Zls:({data:=#[]}:aA)=empty:=rfl
attribute [simp] Z6b
@[simp] theorem UR{n:Nat}:(n<=Zz)=(n<=2097152):=rfl
@[simp] theorem Zlm:D0 prog 97 [.int .i64,.int .i64,.str]:=Ja (fs:=prog.fieldsOf 97) kR kR kR
@[simp] theorem Zkq:D0 prog 95 [.str,.int .i64,.bool]:=Ja (fs:=prog.fieldsOf 95) kR kR kR
@[simp] theorem Zme:D0 prog 100 [.str,.int .i64,.str,.int .i64,.int .i64,.int .i64,.str]:=Ja (fs:=prog.fieldsOf 100) kR kR kR
def Jd{P:Program}{f:FuncId}{c:List aC}{a:List AV}{r:RV}(g:JD P f)(h:c.length<=Zz->Zq P f (.l c::a) r):Zq P f (.l c::a) r:=by
 refine⟨g,λw m t b i k o d=>?_⟩;obtain⟨u,_,n⟩:=d.2 0 _ rfl;have e:RepD m (.sl c) u:=n;obtain⟨_,_,_,_,j⟩:=e.slice;exact(h j).2 w m t b i k o d
def Z0e(a b:aA)(w:World):
  Calls prog 124 #[.string a,.string b] w λe c=>e=.returned (.int .i64 (Lib.compareBytes a.data.toList b.data.toList))/\c=w:=by
 go_enter func124,Tryz.ntmps124
 go_wp2
 rw[run_callFunc_extern func146 kR kR kR (e:=Extern.BytealgCompare.compare) kR,Lib.run_compareString];simp only[Result.andThen];rw[Oper.upon_value]
 go_wp2
 go_ret
 exact⟨rfl,rfl⟩
def DR(a b:aA):Int:=Lib.compareBytes a.data.toList b.data.toList
def Z2d(a b:aA):Zq prog 124 [.s a,.s b] (.i (DR a b)):=by
 refine⟨⟨_,func124,kR,kR⟩,λw m t c ab o ht g=>?_⟩;obtain⟨p,f⟩:=g;obtain⟨v,l,r⟩:=f 0 _ rfl;obtain⟨y,n,u⟩:=f 1 _ rfl;have j:v=.string a:=RepD.qR (m:=m) r;have k:y=.string b:=RepD.qR (m:=m) u;subst j k;have q:c=#[.string a,.string b]:=by
  apply XZ;intro i
  match i with
  |0=>simpa using l
  |1=>simpa using n
  |i+2=>rw[Xw (by simp at p;omega)];simp
 subst q;refine(Z0e a b w).mono ?_;rintro e w' ⟨rfl,rfl⟩;exact⟨_,m,λ_=>(none,0),rfl,WL.refl _,λ_ _ _ _ h=>h,o,Go.RowKit.Below.refl _ _,RepD.int _ _,⟨λx d=>by simp[RV.fr,RV1.fr,RC.fr] at d,λx d=>by simp[RV.fr,RV1.fr,RC.fr] at d⟩⟩
def Z1q(a b:aA):Zq prog 111 [.s a,.s b] (.i (DR a b)):=by refine Zq.qM func111 rfl kR (n:=8) rfl rfl I ?_;simp;refine Zx (Z2d a b) I ?_;simp;exact Ze3 (by simp;rfl) rfl
def Er(a b:aA):aB Int:=some (DR a b)
def Z13(a b:aA)(r:Int)(c:Is (Er a b) r):Zq prog 111 [.s a,.s b] (.i r):=by obtain rfl:=Zk c;exact Z1q a b
abbrev aE:=List GV
end
end Go.Am
section
namespace Go.Am
section
variable{ρ α β σ:Type}{Q:ρ->Prop}
def Wp(m:aB ρ)(Q:ρ->Prop):Prop:=∃r,m=some r/\Q r
def Wp.mono{m:aB ρ}{Q a:ρ->Prop}(h:Wp m Q)(d:∀r,m=some r->Q r->a r):Wp m a:=by have⟨r,b,c⟩:=h;exact⟨r,b,d r b c⟩
def X2{r:ρ}(h:Q r):Wp (some r) Q:=⟨r,rfl,h⟩
def X0{m:aB α}{K:α->aB ρ}{R:α->Prop}(h:Wp m R)(c:∀x,m=some x->R x->Wp (K x) Q):Wp (Z1 m K) Q:=by have⟨x,a,b⟩:=h;unfold Z1;subst a;exact c x rfl b
def X9{b:Bool}{A B:aB ρ}(h:b=false)(a:Wp B Q):Wp (cond b A B) Q:=by rw[h];exact a
def Xb{m:aB α}{K:α->aB ρ}{x:α}(h:m=some x)(a:Wp (K x) Q):Wp (Z1 m K) Q:=by rw[h];exact a
def X1{b:Bool}{A B:aB ρ}(a:b=true->Wp A Q)(c:b=false->Wp B Q):Wp (cond b A B) Q:=by
 cases b;exact c rfl;exact a rfl
def Wp.ite{b:Prop}[Decidable b]{A B:aB ρ}(a:b->Wp A Q)(c:¬b->Wp B Q):Wp (if b then A else B) Q:=by by_cases hb:b;rw[if_pos hb];exact a hb;rw[if_neg hb];exact c hb
def X4{b:Prop}[Decidable b]{m:aB ρ}(a:b)(h:Wp m Q):Wp (Zp b m) Q:=by unfold Zp;rw[if_pos a];exact h
def X3{a:List α}{i:Int}{K:α->aB ρ}(c:0<=i)(h1:i<a.length)(d:∀x,a[i.toNat]?=some x->x∈a->Wp (K x) Q):Wp (Za a i K) Q:=by have b:i.toNat<a.length:=X;unfold Za;rw[if_pos c,Y1 b];exact d _ (Y1 b) (Yh b)
def X5{a:List α}{i:Nat}{x:α}{K:α->aB ρ}(b:a[i]?=some x)(hk:Wp (K x) Q):Wp (Za a (i:Int) K) Q:=by
 unfold Za
 rwa [if_pos X,show(i:Int).toNat=i by omega,b]
def X8{a b:List α}{K:List α->aB ρ}(h:a.length+b.length<=Zz)(c:Wp (K (a++b)) Q):Wp (Wn a b K) Q:=X4 h c
def Wp.rY{b:Nat->α->σ->(σ->aB ρ)->aB ρ}{k:σ->aB ρ}(c:List α)(a:Nat->σ->Prop)
  (step:∀i x s next,c[i]?=some x->x∈c->a i s->(∀f,a (i+1) f->Wp (next f) Q)->Wp (b i x s next) Q)(d:∀s,a c.length s->Wp (k s) Q):
  ∀(n i:Nat) (s:σ),i+n=c.length->a i s->Wp (Zd b k (c.drop i) i s) Q
 |0,i,s,h,h0=>by
   have e:i=c.length:=X;subst e;rw[List.drop_length];exact d s h0
 |n+1,i,s,h,h0=>by
   have e:i<c.length:=X;rw[YB e];exact step i _ s _ (Y1 e) (Yh e) h0 λf g=>Wp.rY c a step d n (i+1) f X g
def X6{b:Nat->α->σ->(σ->aB ρ)->aB ρ}{k:σ->aB ρ}{c:List α}{e:σ}(a:Nat->σ->Prop)(g:a 0 e)
  (step:∀i x s next,c[i]?=some x->x∈c->a i s->(∀f,a (i+1) f->Wp (next f) Q)->Wp (b i x s next) Q)(d:∀s,a c.length s->Wp (k s) Q):Wp (Zd b k c 0 e) Q:=by
 have:=Wp.rY c a step d c.length 0 e X g
 rwa [XU] at this
def Wp.rC{b:Nat->σ->(σ->aB ρ)->aB ρ}{k:σ->aB ρ}(N:Nat)(a:Nat->σ->Prop)
  (step:∀i s next,i<N->a i s->(∀d,a (i+1) d->Wp (next d) Q)->Wp (b i s next) Q)(c:∀s,a N s->Wp (k s) Q):
  ∀(n i:Nat) (s:σ),i+n=N->a i s->Wp (WZ b k n i s) Q
 |0,i,s,g,h0=>by
   have f:i=N:=X;subst f;exact c s h0
 |n+1,i,s,g,h0=>step i s _ X h0 λd e=>Wp.rC N a step c n (i+1) d X e
def Xa{b:Nat->σ->(σ->aB ρ)->aB ρ}{k:σ->aB ρ}{N:Nat}{d:σ}(a:Nat->σ->Prop)(f:a 0 d)
  (step:∀i s next,i<N->a i s->(∀e,a (i+1) e->Wp (next e) Q)->Wp (b i s next) Q)(c:∀s,a N s->Wp (k s) Q):Wp (WZ b k N 0 d) Q:=
 Wp.rC N a step c N 0 d X f
def Xd{b:σ->(σ->aB ρ)->aB ρ}(a:σ->Prop)(μ:σ->Nat)
  (step:∀s next,a s->(∀c,a c->μ c<μ s->Wp (next c) Q)->Wp (b s next) Q):∀(n:Nat) (s:σ),a s->μ s<n->Wp (AB b n s) Q
 |0,s,_,h=>by omega
 |n+1,s,e,h=>step s _ e λc d hlt=>Xd a μ step n c d (by omega)
def Mh(a:List α)(f:α->aB Bool)(k:Int):Prop:=(k=-1/\∀x∈a,f x=some false)\/∃(i:Nat) (x:α),k=i/\a[i]?=some x/\f x=some true
def Mh.lt{a:List α}{f:α->aB Bool}{k:Int}(h:Mh a f k):-1<=k/\k<a.length:=by
 rcases h with⟨rfl,_⟩|⟨i,x,rfl,b,_⟩;omega
 have:=(Y0.1 b).1
 omega
def Xc{c:List α}{f:α->aB Bool}(l:∀x∈c,Wp (f x) λ_=>True):
  Wp (Zd (λ(i:Nat) (x:α) (s:Unit) next=>Z1 (f x) λv=>bif v then some (i:Int) else next ()) (λ_=>some (-1)) c 0 ()) (Mh c f):=by
 refine X6 (λi _=>∀(j:Nat) (x:α),j<i->c[j]?=some x->f x=some false) (by intro j x h;omega) ?_ ?_
 .intro i x s next a m d n
  refine X0 (l x m) λb k _=>X1 ?_ ?_;rintro rfl;exact X2 (.inr ⟨i,x,rfl,a,k⟩);rintro rfl;refine n () λj y e g=>?_;rcases Yx j i with h1|h1;exact d j y h1 g;obtain rfl:j=i:=X
  rw[a] at g;cases g;exact k
 intro s d;refine X2 (.inl ⟨rfl,λx a=>?_⟩);obtain⟨j,e,rfl⟩:=Yo a;exact d j _ e (Y1 e)
def X7{ρ:Type}{Q:ρ->Prop}{b:Bool}{r:ρ}{B:aB ρ}(c:b=false->Wp B Q)(a:Q r:=by simp):Wp (bif b then some r else B) Q:=X1 (λ_=>X2 a) c
end
end Go.Am
end
section
namespace Go.Am
@[simp↓high] theorem Zi1{P:Program}{e:Env}{h:HS}{K:Env->HS->Prop}{d:aB Nat}{t:TypeId}{p:String}{b:Array Edge}{g:aB (Nat×Bool)}{a:Nat}{x i:Operand}:Zl P {dst:=d,op:=.indexAddr a x i,type:=t,pos:=p,after:=b,guard:=g} e h K=ZV (He (ZC P a) (Fq P a) (e.ev x) (e.ev i)) (k:=⟨λv=>K (e.put d v) h⟩):=by rw[<-Z2a];exact Z1n
@[simp] theorem Zip{α β:Type}{f:α->β}{a:List α}:List.take a.length (a.map f)=a.map f:=YD I
@[simp] theorem Zjo{l}{o n c:Nat}:(C.mrow l o n c).qE=none:=rfl
@[simp] theorem Znl{a:Nat}:a<=a+1+1:=X
@[simp] theorem Znd{a:Nat}:a<a+1+1:=X
@[simp] theorem Znk{a:Nat}:a<=a+1+1+1:=X
@[simp] theorem Znc{a:Nat}:a<a+1+1+1:=X
@[simp] theorem Znj{a:Nat}:a<=a+1+1+1+1:=X
@[simp] theorem Znb{a:Nat}:a<a+1+1+1+1:=X
@[simp] theorem Zni{a:Nat}:a<=a+1+1+1+1+1:=X
@[simp] theorem Zna{a:Nat}:a<a+1+1+1+1+1:=X
@[simp] theorem Znh{a:Nat}:a<=a+1+1+1+1+1+1:=X
@[simp] theorem Zn9{a:Nat}:a<a+1+1+1+1+1+1:=X
@[simp] theorem Zng{a:Nat}:a<=a+1+1+1+1+1+1+1:=X
@[simp] theorem Zn8{a:Nat}:a<a+1+1+1+1+1+1+1:=X
@[simp] theorem Znf{a:Nat}:a<=a+1+1+1+1+1+1+1+1:=X
@[simp] theorem Zn7{a:Nat}:a<a+1+1+1+1+1+1+1+1:=X
@[simp] theorem Zne{a:Nat}:a<=a+1+1+1+1+1+1+1+1+1:=X
@[simp] theorem Zn6{a:Nat}:a<a+1+1+1+1+1+1+1+1+1:=X
@[simp] theorem Zmp{a:Nat}:a<=a+1+1+1+1+1+1+1+1+1+1:=X
@[simp] theorem Zmm{a:Nat}:a<a+1+1+1+1+1+1+1+1+1+1:=X
section
variable{ρ α β γ σ:Type}
class Con(m:Option α)(P:Program)(f:FuncId)(av:outParam (List AV))(er:outParam (α->RV)):Prop where
 h:∀v,Is m v->Zq P f av (er v)
instance{m:aB α}{P:Program}{f:FuncId}{av:List AV}{er:α->RV}:CoeFun (Con m P f av er) (λ_=>∀v,Is m v->Zq P f av (er v)):=⟨λi=>i.h⟩
class ConF(m:α->Option β)(P:Program)(aenc:outParam (α->AV))(er:outParam (β->RV))(g:outParam FuncId)(caps:outParam (List (List D))):Prop where
 h:∀x v,Is (m x) v->Zq P g (aenc x::Wu caps) (er v)
class ConG(m:α->β->Option γ)(P:Program)(aenc:outParam (α->AV))(benc:outParam (β->AV))(er:outParam (γ->RV))(g:outParam FuncId)(caps:outParam (List (List D))):Prop where
 h:∀x y v,Is (m x y) v->Zq P g (aenc x::benc y::Wu caps) (er v)
def RH{P f k j}{d:Nat}{e h g a m}{K:α->aB ρ}{r}(c:Is (Z1 m K) r)[i:Con m P f j a](b:Wi h k=some j)
  (l:∀v,Is (K v) r->g (e.put (some d) ((a v).toV h.p d)) ((h.qL d (a v).fr).w)):Vb P f [] k d e h (K:=⟨g⟩):=
 AC c i.h b λv _ c=>l v c
def R8{P g n a x b l}{d:Nat}{e h k c}{m:α->aB β}{K}{r:ρ}(j:Is (Z1 (m x) K) r)[i:ConF m P a c g l](f:Wi h n=some [a x])(o:VK h b=some l)
  (p:∀v,Is (K v) r->k (e.put (some d) ((c v).toV h.p d)) ((h.qL d (c v).fr).w)):Vb P g b n d e h (K:=⟨k⟩):=
 QT j (i.h x) f o λv _ j=>p v j
def R7{P g o a b x y c n}{d:Nat}{e h l f}{m:α->β->aB γ}{K}{r:ρ}(k:Is (Z1 (m x y) K) r)[i:ConG m P a b f g n](j:Wi h o=some [a x,b y])(p:VK h c=some n)
  (q:∀v,Is (K v) r->l (e.put (some d) ((f v).toV h.p d)) ((h.qL d (f v).fr).w)):Vb P g c o d e h (K:=⟨l⟩):=
 QT k (i.h x y) j p λv _ k=>q v k
def Lk{α:Type}{c:Prop}[Decidable c]{v}{f:α->Prop}(h:c)(a:f v):ZV (if c then some v else none) (k:=⟨f⟩):=by rw[if_pos h];exact a
def Rd.cases{c b}(h:Rd c b):c=.d (.sl b)\/(∃l,c=.own l b)\/(c=.nil/\b=[])\/(c=.z/\b=[]):=by
 have a:=h.1;cases c with
 |d x=>cases x<;>simp[C.qE] at a;exact .inl (by rw[a])
 |own l ys=>simp[C.qE] at a;exact .inr (.inl ⟨l,by rw[a]⟩)
 |nil=>simp[C.qE] at a;exact .inr (.inr (.inl ⟨rfl,a⟩))
 |z=>simp[C.qE] at a;exact .inr (.inr (.inr ⟨rfl,a⟩))
 |_=>simp[C.qE] at a
def VI:List Cap->List Z2
 |[]=>[]
 | .lab l::cs=>l::VI cs
 |_::cs=>VI cs
def VY:V->List Z2
 | .one (.ptr l _)=>[l]
 | .one (.fn _ cs)=>VI cs
 |_=>[]
@[simp] theorem Zkg{l}{o:Nat}:VY (.one (.ptr l o))=[l]:=rfl
@[simp] theorem Zlh{f a}:VY (.one (.fn f a))=VI a:=rfl
@[simp] theorem Zm9{x}:VY (.one (.d x))=[]:=rfl
@[simp] theorem Zkh{l a}:VY (.one (.own l a))=[]:=rfl
@[simp] theorem Zki:VY (.one .nil)=[]:=rfl
@[simp] theorem Zm8:VY (.one .z)=[]:=rfl
@[simp] theorem Zlg{a}:VY (.one (.rp a))=[]:=rfl
@[simp] theorem Zkj:VY (.one .any)=[]:=rfl
@[simp] theorem Zjp{l}{o n c:Nat}:VY (.one (.mrow l o n c))=[]:=rfl
@[simp] theorem Zkk{a}:VY (.agg a)=[]:=rfl
@[simp] theorem Zke{a}:VY (.tup a)=[]:=rfl
@[simp] theorem Zkf:VY .top=[]:=rfl
@[simp] theorem Zj0:VY .undef=[]:=rfl
def Rd.xD{c a}(h:Rd c a):VY (.one c)=[]:=by rcases h.cases with rfl|⟨l,rfl⟩|⟨rfl,_⟩|⟨rfl,_⟩<;>rfl
inductive Car(σ:Type) where
 |d(t:Nat)(f:σ->D)
 |g(t n:Nat)(f:σ->List (List D))
 |r(t:Nat)(f:σ->List (List D))
def Vp(e:Env)(h:HS)(s:σ):aD->List (Car σ)->Prop
 |_,[]=>True
 |p,.d t f::cs=>e.get t=.one (.d (f s))/\Vp e h s p cs
 |p,.g t n f::cs=>∃c,e.get t=.one c/\Zm h n c (f s)/\(∀c'∈p,WM c' c)/\Vp e h s (c::p) cs
 |p,.r t f::cs=>∃c,e.get t=.one c/\Rd c (f s)/\Vp e h s p cs
def U8(e:Env)(h:HS)(s:σ):aD->List (Car σ)->Prop
 |_,[]=>True
 |p,.d t f::cs=>e.get t=.one (.d (f s))/\U8 e h s p cs
 |p,.g t n f::cs=>∃c,e.get t=.one c/\Rd c (f s)/\Zm h n c (f s)/\c.qE=some (f s)/\c.toD=some (.sl (f s))/\(∀h,c.toA h=some (.d (.sl (f s))))/\(∀h' l,h.p<=l.1->(C.qH h' c).arr l=h'.arr l)/\VY (.one c)=[]/\(∀l a,h.p<=l.1->WM (.own l a) c/\WM c (.own l a))/\(∀c'∈p,WM c' c)/\U8 e h s (c::p) cs
 |p,.r t f::cs=>∃c,e.get t=.one c/\Rd c (f s)/\c.qE=some (f s)/\c.toD=some (.sl (f s))/\(∀h,c.toA h=some (.d (.sl (f s))))/\VY (.one c)=[]/\U8 e h s p cs
def Vp.use{e h}{s:σ}:∀{i:List (Car σ)} {p:aD},Vp e h s p i->U8 e h s p i
 |[],_,_=>trivial
 | .d _ _::_,_,h=>⟨h.1,h.2.use⟩
 | .g _ _ _::_,_,⟨c,b,a,k,f⟩=>⟨c,b,a.rd,a,a.list,a.toD,a.toA,a.qG,a.rd.xD,λ_ _ j=>⟨a.apart j,(a.apart j).symm⟩,k,f.use⟩
 | .r _ _::_,_,⟨c,b,a,f⟩=>⟨c,b,a,a.1,a.2.1,a.2.2,a.xD,f.use⟩
def Vq(e a:Env):List Nat->Prop
 |[]=>a.n=e.n
 |t::ts=>a.get t=e.get t/\Vq e a ts
def UI{a:List aC}:VI (a.map Cap.rp)=[]:=by
 induction a with
 |nil=>rfl
 |cons _ _ ih=>exact ih
def VD(p:Z2->Prop):List Z2->Prop
 |[]=>True
 |l::ls=>p l/\VD p ls
def VD.imp{p q}(h:∀l,p l->q l):∀{b:List Z2},VD p b->VD q b
 |[],_=>trivial
 |l::_,a=>⟨h l a.1,a.2.imp h⟩
def AR(e:Env)(h:HS):List Nat->Prop
 |[]=>True
 |t::ts=>VD (λl=>l.1<h.p) (VY (e.get t))/\AR e h ts
def Uz(e:Env)(h a:HS):List Nat->Prop
 |[]=>True
 |t::ts=>VD (λl=>a.a l=h.a l) (VY (e.get t))/\Uz e h a ts
def AR.keep{e}{h b:HS}(c:∀l:Z2,l.1<h.p->b.a l=h.a l):∀{d:List Nat},AR e h d->Uz e h b d
 |[],_=>trivial
 |_::_,a=>⟨a.1.imp c,a.2.keep c⟩
def HF(h a:HS):Prop:=h.p<=a.p/\∀l:Z2,l.1<h.p->a.a l=h.a l
def HF.refl{h}:HF h h:=⟨Y7 _,λ_ _=>rfl⟩
def HF.tr{c d h}(b:HF d h)(a:HF c d):HF c h:=⟨YE a.1 b.1,λl e=>(b.2 l (Y4 e a.1)).trans (a.2 l e)⟩
def HF.w{h b}(a:HF h b):HF h b.w:=⟨Nat.le_succ_of_le a.1,a.2⟩
def HF.qC{h b l x}(a:HF h b):HF h (b.qC l x):=a
def HF.qH{h b c}(a:HF h b):HF h (C.qH b c):=by cases c<;>exact a
def HF.qL{h}{d:Nat}:∀{x:List (Nat×Nat×Nat)} {h':HS},HF h h'->HF h (h'.qL d x)
 |[],_,a=>a
 |(j,b,n)::r,h',a=>HF.qL (x:=r) (h':=h'.qC (h'.p,16*d+j+1) (some (n,b))) a
def HF.xV{h b l cs}(a:HF h b)(hl:h.p<=l.1):HF h (b.xV l cs):=⟨a.1,λk c=>by
 have:k≠l:=by rintro rfl;omega
 simp[HS.xV,this];exact a.2 k c⟩
inductive LH(ctr:Nat)(keep:List Nat)(cars:List (Car σ)):Prop where
 |intro
def MH:Code->Nat
 | .seq a _=>MH a
 | .region _ ops _=>match ops.toList with
   |o::_=>match o.op with
     | .binOp _ _ (.tmp t) _ _=>t
     |_=>0
   |[]=>0
 |_=>0
def LR(keep:List Nat)(c:List (Car σ))(e:Env)(h:HS)(s:σ)(a:Env)(b:HS):Prop:=Vq e a keep/\HF h b/\Vp a b s [] c
def Z6.jO{P c Q e h m A}{g:Nat->α->σ->(σ->aB ρ)->aB ρ}{k r}{n:Nat}{keep f}(_:LH n keep f)
  (_:MH c=n)(p:Is (Zd g k m 0 A) r)(E:m.length<=Zz)(C:e.get n=.one (.d (.int .i64 0)))(B:Vp e h A [] f)(z:AR e h keep)
  (o:∀(i:Nat) s b a,Vq e b keep->b.get n=.one (.d (.int .i64 (i:Int)))->U8 b a s [] f->Uz e h a keep->HF h a->h.p<=a.p->(∀l:Z2,l.1<h.p->a.a l=h.a l)->i<m.length->IntKind.i64.wrap ((i:Int)+1)=(i:Int)+1->∀hlt:i<m.length,Is (g i m[i] s (λq=>Zd g k (m.drop (i+1)) (i+1) q)) r->
   vc P c (Vn (λb a=>Zj (iq0:=⟨λq b a=>(b.get n=.one (.d (.int .i64 ((i+1:Nat):Int)))/\LR keep f e h q b a)/\Is (Zd g k (m.drop (i+1)) (i+1) q) r⟩) b a) Q) b a)
  (v:∀s b a,Vq e b keep->b.get n=.one (.d (.int .i64 (m.length:Int)))->U8 b a s [] f->Uz e h a keep->HF h a->h.p<=a.p->(∀l:Z2,l.1<h.p->a.a l=h.a l)->Is (k s) r->vc P c (Vn (λ_ _=>H8) Q) b a):
  Z6 P (c:=⟨.loop c⟩) (Q:=⟨Q⟩) e h:=by
 have D:∀u,Vq e e u:=by intro u;induction u with|nil=>rfl|cons t u F=>exact⟨rfl,F⟩
 refine Z6.for (λi s b a=>b.get n=.one (.d (.int .i64 i))/\LR keep f e h s b a) p ⟨C,D _,.refl,B⟩ ?_ ?_;rintro i s b a ⟨y,w,j,x⟩ hlt p;exact o i s b a w y x.use (z.keep j.2) j j.1 j.2 hlt (Y6 _ (by have hl':m.length<=2097152:=E;omega)) hlt p;rintro s b a ⟨y,w,j,x⟩ p;exact v s b a w y x.use (z.keep j.2) j j.1 j.2 p
def Z6.qY{P c Q e h}{N:Int}{z g k}{r:ρ}{m:Nat}{keep f}(_:LH m keep f)
  (_:MH c=m)(o:Is (WZ g k N.toNat 0 z) r)(B:e.get m=.one (.d (.int .i64 0)))(A:Vp e h z [] f)(y:AR e h keep)
  (n:∀(i:Nat) (s:σ) (b:Env) (a:HS),Vq e b keep->b.get m=.one (.d (.int .i64 (i:Int)))->U8 b a s [] f->Uz e h a keep->HF h a->h.p<=a.p->(∀l:Z2,l.1<h.p->a.a l=h.a l)->(i:Int)<N->Is (g i s (λp=>WZ g k (N.toNat-(i+1)) (i+1) p)) r->
   vc P c (Vn (λb a=>Zj (iq0:=⟨λp b a=>(b.get m=.one (.d (.int .i64 ((i+1:Nat):Int)))/\LR keep f e h p b a)/\Is (WZ g k (N.toNat-(i+1)) (i+1) p) r⟩) b a) Q) b a)
  (u:∀(i:Nat) (s:σ) (b:Env) (a:HS),Vq e b keep->b.get m=.one (.d (.int .i64 (i:Int)))->U8 b a s [] f->Uz e h a keep->HF h a->h.p<=a.p->(∀l:Z2,l.1<h.p->a.a l=h.a l)->¬(i:Int)<N->Is (k s) r->vc P c (Vn (λ_ _=>H8) Q) b a):
  Z6 P (c:=⟨.loop c⟩) (Q:=⟨Q⟩) e h:=by
 have C:∀q,Vq e e q:=by intro q;induction q with|nil=>rfl|cons t q D=>exact⟨rfl,D⟩
 refine Z6.count (λi s b a=>b.get m=.one (.d (.int .i64 (i:Int)))/\LR keep f e h s b a) o ⟨B,C _,.refl,A⟩ ?_ ?_;rintro i s b a ⟨x,v,j,w⟩ hlt o;exact n i s b a v x w.use (y.keep j.2) j j.1 j.2 hlt o;rintro i s b a ⟨x,v,j,w⟩ hge o;exact u i s b a v x w.use (y.keep j.2) j j.1 j.2 hge o
def Z6.qZ{P c Q e h}{m:Nat}{p b}{r:ρ}{keep a}(_:LH 0 keep a)
  (o:Is (AB b m p) r)(q:Vp e h p [] a)(w:AR e h keep)
  (g:∀n (s:σ) f d,Vq e f keep->U8 f d s [] a->Uz e h d keep->HF h d->h.p<=d.p->(∀l:Z2,l.1<h.p->d.a l=h.a l)->Is (b s (λj=>AB b n j)) r->
   vc P c (Vn (λf d=>Zj (iq0:=⟨λj f d=>LR keep a e h j f d/\Is (AB b n j) r⟩) f d) Q) f d):
  Z6 P (c:=⟨.loop c⟩) (Q:=⟨Q⟩) e h:=by
 have x:∀k,Vq e e k:=by intro k;induction k with|nil=>rfl|cons t k y=>exact⟨rfl,y⟩
 refine Z6.rU (λs f d=>LR keep a e h s f d) o ⟨x _,.refl,q⟩ ?_;rintro n s f d ⟨u,i,v⟩ o;exact g n s f d u v.use (w.keep i.2) i i.1 i.2 o
def Zj.lr{A:σ->Env->HS->Prop}{G:σ->Prop}{s a b}(d:G s)(c:A s a b):Zj (iq0:=⟨λs e h=>A s e h/\G s⟩) a b:=⟨s,c,d⟩
inductive PH(ids:List Nat)(p:Y):Prop where
 |intro
def Z6.qX{P}{id:Nat}{b Q e h d a}(_:PH d a)(_:id∈d)(f:H2 .any b a b.size (Array.replicate b.size false)=true)(g:P.follows .mixedOrders=true)
  (i:vcPlan P b.toList (Q .normal) a e h):Z6 P (c:=⟨.region id b true⟩) (Q:=⟨Q⟩) e h:=Z6.of (Wy.draw a g f i)
class ElT(P:Program)(ty:TypeId)(el es by_:outParam Nat):Prop where
 h:ZC P ty=some (el,es,by_)
class EncE(α:Type)(enc:outParam (α->List D))(n:outParam Nat):Prop where
 h:∀y,(enc y).length=n
def Sd{P:Program}{m n:TypeId}{f k d:Nat}{c x:C}{h:HS}{g:V->HS->Prop}{K:List α->aB ρ}{r:ρ}{a:α->aC}{b e:List α}(q:Is (Wn b e K) r)[i:ElT P m n f k][j:EncE α a f](o:Zm h f c (b.map a))(s:x.qE=some (e.map a))
  (l:0<f/\k<=4096)
  (p:b.length+e.length<=Zz->Is (K (b++e)) r->Zm (((c.qH h).qC (h.p,16*d) (some ((b++e).length,f))).w) f (.own (h.p,16*d) ((b++e).map a)) ((b++e).map a)->
   g (.one (.own (h.p,16*d) ((b++e).map a))) (((c.qH h).qC (h.p,16*d) (some ((b++e).length,f))).w)):Ud P m c x d h (K:=⟨g⟩):=
 CK q i.h o s l.1 l.2 j.h p
def MD{P b r e h}(a:ZV (ZK P e h b) (k:=⟨λc=>CI h (λ_=>none) c r⟩)):UT P b r e h:=by
 cases hv:ZK P e h b with
 |none=>rw[hv] at a;exact a.elim
 |some c=>rw[hv] at a;exact U0 hv a
theorem go{m P f fn c av}{er:α->RV}{rs}(n:Nat)(hf:P.funcs[f]?=some fn)(hb:fn.body=some c:=by exact rfl)(aj:(fn.name== "runtime.NumGoroutine")=false:=by kernel_rfl)(hn:fn.ntmps=n:=by exact rfl)(ah:fn.results.toList=rs:=by exact rfl)(has:av.length<=n:=by simp)
  (hv:∀r,Is m r->vc P c (Jr P rs (er r)) (CW n av) HS.init:=by
   intro r hm
   try simp(maxSteps:=1000000) [*]
   repeat' ((first
    | (with_reducible have hq:=Zk hm
       obtain rfl:=hq
       first
       |(refine MD ?_;simp(maxSteps:=1000000) [*];done)
       |(refine BA ?_;simp(maxDischargeDepth:=20) (maxSteps:=1000000) [*,US];done)
       |(refine BA ⟨_,?_,Zm.nil⟩;simp(maxSteps:=1000000) [*];done))
    |((with_reducible refine ZP hm ?_ ?_)<;>(clear hm;intro hc hm))
    | (with_reducible have hq:=Is.bind hm
       clear hq;refine RH hm ?_ ?_
       .simp(maxSteps:=1000000) [*];done
       clear hm;intro v hm)
    | (with_reducible intro hl
       try simp only[Yd] at hl)
    | (with_reducible have hq:=Is.qQ hm
       clear hm;obtain⟨x,hx,hm⟩:=hq
       try simp only[Yl,YO,Xl] at hx)
    | (with_reducible have hq:=Is.get hm
       clear hm;obtain⟨x,h0,hx,hm⟩:=hq
       try simp at h0
       try simp at hx)
    | (with_reducible have hq:=Is.app hm
       clear hq;refine Sd hm ?_ ?_ ?_ ?_
       .first
        | exact Zm.nil
        | (simp (maxDischargeDepth:=20) (maxSteps:=1000000) [*];done)
       .simp (maxSteps:=1000000) [*];done
       .decide
       clear hm;intro hl hm g)
    | (with_reducible have hq:=Is.chk hm
       clear hm;obtain⟨hw,hm⟩:=hq
       first
       | replace hw:=LL hw
       | (obtain⟨ha,hb,hd⟩:=hw
          have he:=hb
          try simp at he
          have hf:=hd
          try simp at hf)
       | (have ak:=hw
          try simp at ak))
    | ((with_reducible refine GB hm ?_ ?_)<;>(clear hm;intro hc hm))
    | ((with_reducible refine IC hm ?_ ?_)<;>(clear hm;intro hc hm))
    | (with_reducible have hq:=Is.bind hm
       clear hq;refine R8 hm ?_ ?_ ?_
       .simp (maxSteps:=1000000) [*];done
       .simp (maxSteps:=1000000) [*];done
       clear hm;intro v hm)
    | (with_reducible have hq:=Is.bind hm
       clear hq;refine R7 hm ?_ ?_ ?_
       .simp (maxSteps:=1000000) [*];done
       .simp (maxSteps:=1000000) [*];done
       clear hm;intro v hm)
    | (with_reducible have hq:=Is.chr hm
       clear hm;obtain⟨y,h0,hx,hm⟩:=hq)
    | (refine Zj.lr hm ⟨?_,?_,?_,?_⟩
       .simp (maxSteps:=1000000) [*];done
       .simp (maxSteps:=1000000) [Vq, *];done
       .repeat' (first | with_reducible exact HF.refl | with_reducible refine HF.w ?_ | with_reducible refine HF.qC ?_ | with_reducible refine HF.qH ?_ | with_reducible refine HF.qL ?_ | with_reducible refine HF.xV ?_ ?_ | assumption | (apply HF.tr;assumption) | (simp (maxSteps:=1000000) [*];done) | (simp (maxSteps:=1000000) [*];omega))
       .simp (maxDischargeDepth:=20) (maxSteps:=1000000) [*,Vp];done)
    | (refine Zj.lr hm ⟨?_,?_,?_⟩
       .simp (maxSteps:=1000000) [Vq, *];done
       .repeat' (first | with_reducible exact HF.refl | with_reducible refine HF.w ?_ | with_reducible refine HF.qC ?_ | with_reducible refine HF.qH ?_ | with_reducible refine HF.qL ?_ | with_reducible refine HF.xV ?_ ?_ | assumption | (apply HF.tr;assumption) | (simp (maxSteps:=1000000) [*];done) | (simp (maxSteps:=1000000) [*];omega))
       .simp (maxDischargeDepth:=20) (maxSteps:=1000000) [*,Vp];done)
    | ((first | refine Z6.jO l1 rfl hm ?_ ?_ ?_ ?_ ?_ ?_ | refine Z6.jO l2 rfl hm ?_ ?_ ?_ ?_ ?_ ?_ | refine Z6.jO l3 rfl hm ?_ ?_ ?_ ?_ ?_ ?_ | refine Z6.jO l4 rfl hm ?_ ?_ ?_ ?_ ?_ ?_ | refine Z6.jO l5 rfl hm ?_ ?_ ?_ ?_ ?_ ?_ | refine Z6.jO l6 rfl hm ?_ ?_ ?_ ?_ ?_ ?_)
       .first | assumption | omega | (simp at *;omega)
       .simp (maxSteps:=1000000) [*];done
       .first | (simp only[Vp];exact⟨.nil,by simp,Zm.nil,by simp,trivial⟩) | (simp (maxDischargeDepth:=20) (maxSteps:=1000000) [*,Vp];done)
       .simp (maxSteps:=1000000) [AR,VD,UI,VI, *]<;>omega
       all_goals first
        | (skip
           clear hm
           with_reducible intro i s e h hk ag aa ad af ac ae al hw hlt hm
           try simp only[U8] at aa
           repeat obtain⟨_,aa⟩:=aa
           try simp only[Vq] at hk
           try simp (maxSteps:=1000000) [*] at hk
           have ab:=ac
           try simp at ab
           try simp (maxSteps:=1000000) [Uz,VD,UI,VI, *] at ad)
        | (skip
           clear hm
           with_reducible intro s e h hk ag aa ad af ac ae hm
           try simp only[U8] at aa
           repeat obtain⟨_,aa⟩:=aa
           try simp only[Vq] at hk
           try simp (maxSteps:=1000000) [*] at hk
           have ab:=ac
           try simp at ab
           try simp (maxSteps:=1000000) [Uz,VD,UI,VI, *] at ad))
    | ((first | refine Z6.qY l1 rfl hm ?_ ?_ ?_ ?_ ?_ | refine Z6.qY l2 rfl hm ?_ ?_ ?_ ?_ ?_ | refine Z6.qY l3 rfl hm ?_ ?_ ?_ ?_ ?_ | refine Z6.qY l4 rfl hm ?_ ?_ ?_ ?_ ?_ | refine Z6.qY l5 rfl hm ?_ ?_ ?_ ?_ ?_ | refine Z6.qY l6 rfl hm ?_ ?_ ?_ ?_ ?_)
       .simp (maxSteps:=1000000) [*];done
       .simp (maxDischargeDepth:=20) (maxSteps:=1000000) [*,Vp];done
       .simp (maxSteps:=1000000) [AR,VD,UI,VI, *]<;>omega
       all_goals
         clear hm
         with_reducible intro i s e h hk ag aa ad af ac ae hlt hm
         try simp only[U8] at aa
         repeat obtain⟨_,aa⟩:=aa
         try simp only[Vq] at hk
         try simp (maxSteps:=1000000) [*] at hk
         have ab:=ac
         try simp at ab
         try simp (maxSteps:=1000000) [Uz,VD,UI,VI, *] at ad
         try simp (maxSteps:=1000000) [*]
         first
         | (have hq:(i:Int) < _:=hlt
            refine Vy (λ_=>?_) (λhn=>absurd ?_ hn);rotate_left
            .first | omega | (simp at hlt |-;omega) | (simp at hlt |-;split at hlt<;>split<;>omega)
            simp (maxSteps:=1000000) [*])
         | (have hq:¬ (i:Int) < _:=hlt
            refine Vy (λhn=>absurd hn ?_) (λ_=>?_)
            .first | omega | (intro hn;simp at hlt hn;omega) | (intro hn;simp at hlt hn;split at hlt<;>split at hn<;>omega)
            simp (maxSteps:=1000000) [*])
         | skip)
    | ((first | refine Z6.qZ l1 hm ?_ ?_ ?_ | refine Z6.qZ l2 hm ?_ ?_ ?_ | refine Z6.qZ l3 hm ?_ ?_ ?_ | refine Z6.qZ l4 hm ?_ ?_ ?_ | refine Z6.qZ l5 hm ?_ ?_ ?_ | refine Z6.qZ l6 hm ?_ ?_ ?_)
       .simp (maxDischargeDepth:=20) (maxSteps:=1000000) [*,Vp];done
       .simp (maxSteps:=1000000) [AR,VD,UI,VI, *]<;>omega
       clear hm
       with_reducible intro n s e h hk aa ad af ac ae hm
       try simp only[U8] at aa
       repeat obtain⟨_,aa⟩:=aa
       try simp only[Vq] at hk
       try simp (maxSteps:=1000000) [*] at hk
       have ab:=ac
       try simp at ab
       try simp (maxSteps:=1000000) [Uz,VD,UI,VI, *] at ad)
    | (first
       | (refine Z6.qX p1 ?_ (by kernel_rfl) follows ?_
          .decide)
       | (refine Z6.qX p2 ?_ (by kernel_rfl) follows ?_
          .decide)
       | (refine Z6.qX p3 ?_ (by kernel_rfl) follows ?_
          .decide)
       | (refine Z6.qX p4 ?_ (by kernel_rfl) follows ?_
          .decide)
       | (refine Z6.qX p5 ?_ (by kernel_rfl) follows ?_
          .decide)
       | (refine Z6.qX p6 ?_ (by kernel_rfl) follows ?_
          .decide)
       | (refine Z6.qX p7 ?_ (by kernel_rfl) follows ?_
          .decide)
       | (refine Z6.qX p8 ?_ (by kernel_rfl) follows ?_
          .decide))
    | (refine⟨λ_ _ hl=>hl,?_⟩)
    | (refine And.intro ?_ ?_)
    | (refine EG (by simp) ?_)
    | (refine CD (by assumption) (λhl=>?_);try simp only[Yd] at hl)
    | (refine Lk ?_ ?_
       .omega)
    | (rcases Rd.cases (by assumption) with hz | ⟨l,hz⟩ | ⟨hz,hy⟩ | ⟨hz,hy⟩
       all_goals
        subst hz
        first
        | (simp_all;done)
        | skip))<;>try simp (maxSteps:=1000000) [*])):Con m P f av er:=
 ⟨λr hm=>Zq.qM hf hb aj hn ah has (hv r hm)⟩
end
end Go.Am
end
namespace Go.Am
section
instance:ElT prog 22 88 3 64:=⟨GJ⟩
instance:ElT prog 23 102 3 56:=⟨GH⟩
instance:ElT prog 24 100 7 80:=⟨Dv⟩
instance:ElT prog 27 108 2 32:=⟨QI⟩
instance:ElT prog 30 45 1 24:=⟨CC⟩
instance:ElT prog 31 30 1 24:=⟨IP⟩
instance:ElT prog 34 60 4 72:=⟨QH⟩
instance:ElT prog 44 66 2 40:=⟨QG⟩
instance:ElT prog 45 66 2 40:=⟨CB⟩
instance:ElT prog 51 34 1 24:=⟨LQ⟩
instance:ElT prog 57 97 3 32:=⟨QF⟩
instance:ElT prog 58 97 3 32:=⟨QE⟩
instance:ElT prog 64 58 1 24:=⟨PG⟩
instance:ElT prog 73 37 1 8:=⟨Zr1⟩
instance:ElT prog 76 26 3 72:=⟨Zr0⟩
instance:ElT prog 85 95 3 32:=⟨Zpu⟩
instance:ElT prog 86 3 1 8:=⟨Zpr⟩
instance:ElT prog 105 104 24 352:=⟨Cx⟩
instance:ElT prog 106 104 24 352:=⟨Zqv⟩
instance:ElT prog 118 4 1 1:=⟨Zqu⟩
instance:ElT prog 146 150 2 16:=⟨Zq5⟩
instance:ElT prog 185 5 1 1:=⟨Zqt⟩
instance:ElT prog 259 9 1 16:=⟨Zqs⟩
instance:EncE Int Zg 1:=⟨λ_=>rfl⟩
instance:EncE Bool Jw 1:=⟨λ_=>rfl⟩
instance:EncE aA Hf 1:=⟨λ_=>rfl⟩
instance{α:Type}{f:α->aC}{n:Nat}[EncE α f n]:EncE (List α) (Z7 f) 1:=⟨λ_=>rfl⟩
instance:EncE Sch Sch.z 3:=⟨λ_=>rfl⟩
instance:EncE Gr Gr.z 4:=⟨λ_=>rfl⟩
instance:EncE Db Db.z 2:=⟨λ_=>rfl⟩
instance:EncE Chg Chg.z 4:=⟨λ_=>rfl⟩
instance:EncE J J.z 2:=⟨λ_=>rfl⟩
instance:EncE E E.z 3:=⟨λ_=>rfl⟩
instance:EncE Col Col.z 3:=⟨λ_=>rfl⟩
instance:EncE GV GV.z 3:=⟨λ_=>rfl⟩
instance:EncE Cons Cons.z 7:=⟨λ_=>rfl⟩
instance:EncE Fk Fk.z 3:=⟨λ_=>rfl⟩
instance:EncE Stp Stp.z 24:=⟨λ_=>rfl⟩
instance:EncE Edg Edg.z 2:=⟨λ_=>rfl⟩
instance:EncE Hop Hop.z 2:=⟨λ_=>rfl⟩
end
section
open Go.RowKit
def BH(c:UInt8):Bool:=(decide (97≤c.toNat)&&decide (c.toNat≤122))||(decide (48≤c.toNat)&&decide (c.toNat≤57))
def Ay(s:aA):Bool:=decide (1≤s.size)&&decide (s.size≤12)&&!(decide (48≤(s.data.toList.headD 0).toNat)&&decide ((s.data.toList.headD 0).toNat≤57))&&s.data.toList.all BH
def Z3u(w:World)(e:TypeId)(s:aA):Below w.heap.size w (Lib.bytesWorld w e s):=by
  have h1:(Lib.bytesWorld w e s).heap.size=w.heap.size+1:=Lib.bytesWorld_size w e s
  refine⟨?_,?_,?_,by omega,λk hk=>Lib.bytesWorld_at_old w e s k hk⟩<;>simp[Lib.bytesWorld,World.freeze,World.alloc,World.drew,-World.alloc_eq,-World.drew_eq]
def Z84{s:aA}{k:Nat}(hk:k<s.size)(hf:BH s[k]=false):s.data.toList.all BH=false:=by
  rw[List.all_eq_false]
  exact⟨s[k],by have⟨⟨l⟩⟩:=s;exact Yh hk,sU hf⟩
def Zan{s:aA}(h:∀k (hk:k<s.size),BH s[k]=true):s.data.toList.all BH=true:=by
  rw[Xu]
  intro x hx
  have⟨⟨l⟩⟩:=s
  obtain⟨k,hk,rfl⟩:=Yo hx
  exact h k hk
set_option maxRecDepth 100000 in
set_option maxHeartbeats 1000000 in
def Z1j(s:aA)(w:World):Calls prog 86 #[.string s] w λe w'=>e= .returned (.bool (Ay s))∧Below w.heap.size w w':=by
  have U9:prog.underlying 9=some .string:=by kernel_rfl
  have U193:prog.underlying 185=some (.slice 5):=by kernel_rfl
  have U5:prog.underlying 5=some (.int .u8):=by kernel_rfl
  have kc:∀w:World,(convert 9 185 (.string s)).run prog w= .ok (.slice (some ⟨w.heap.size,0,none⟩) s.size (grownCap w s.size 0 5)) (Lib.bytesWorld w 5 s):=λw=>Lib.run_convert_string_bytes w 9 185 5 s U9 U193 U5
  by_cases h1:(s.size:Int)<1
  · have hv:Ay s=false:=by simp[Ay];omega
    rw[hv]
    go_enter func86,Tryz.ntmps86
    go_wp2
    go_ret
    exact⟨rfl,Below.refl _ _⟩
  by_cases h2:12<(s.size:Int)
  · have hv : Ay s = false := by simp [Ay]; omega
    rw [hv]
    go_enter func86, Tryz.ntmps86
    go_wp2
    go_ret
    exact ⟨rfl, Below.refl _ _⟩
  have hlt : 0 < s.size := by omega
  have hb : Below w.heap.size w (Lib.bytesWorld w 5 s) := Z3u w 5 s
  have hcells : ∀ k (hk : k < s.size), (Lib.bytesWorld w 5 s).cell? ⟨w.heap.size, k, none⟩ = some (.int .u8 s[k].toNat) := λk hk => by
    rw [Lib.bytesWorld_cell w 5 s k hk]
    simp [List.getD_eq_getElem?_getD, hk]
    rfl
  have hhead : s.data.toList.headD 0 = s[0] := by
    obtain ⟨⟨l⟩⟩ := s
    cases l with
    | nil => simp [ByteArray.size] at hlt
    | cons c l => rfl
  have first : (48 ≤ (s[0].toNat : Int) ∧ (s[0].toNat : Int) ≤ 57) → Ay s = false := λh => by
    have h5 : 48 ≤ s[0].toNat ∧ s[0].toNat ≤ 57 := by omega
    simp only [Ay, hhead, h5.1, h5.2]
    simp
  have rest : ¬ (48 ≤ (s[0].toNat : Int) ∧ (s[0].toNat : Int) ≤ 57) → Ay s = s.data.toList.all BH := λh => by
    have e1 : decide (1 ≤ s.size) = true := by simp; omega
    have e2 : decide (s.size ≤ 12) = true := by simp; omega
    have e3 : (decide (48 ≤ s[0].toNat) && decide (s[0].toNat ≤ 57)) = false := by
      rw [Bool.and_eq_false_iff]; simp; omega
    simp only [Ay, hhead, e1, e2, e3]
    simp
  have F := Lib.hid first
  have RS := Lib.hid rest
  have HC := Lib.hid hcells
  have HH := Lib.hid hhead
  have HB := Lib.hid hb
  clear first rest hcells hhead hb
  go_enter func86, Tryz.ntmps86
  go_wp2
  · have h5 : 48 ≤ (s[0].toNat : Int) := by assumption
    have h6 : (s[0].toNat : Int) ≤ 57 := by assumption
    have h7 := Lib.hid (F.out ⟨h5, h6⟩)
    go_ret
    exact ⟨by rw [h7.out]; rfl, Below.refl _ _⟩
  all_goals
    have hr := RS.out (by omega)
    have HR := Lib.hid hr
    clear hr
    go_loop [26] (λi => ∃ k : Nat, k ≤ s.size ∧ i = .int .i64 k ∧ ∀ j (hj : j < s.size), j < k → BH s[j] = true) (λi => s.size - (intOf i).toNat)
    case atStart => exact ⟨0, Y3y _, rfl, λj hj h => by omega⟩
    case round =>
      obtain ⟨k, hk, rfl, hall⟩ := hrel
      have HA := Lib.hid hall
      clear hall
      by_cases hlt2 : k < s.size
      · have hc1 := HC.out k hlt2
        go_wp2
        all_goals first
          | (go_round
             case rel => exact ⟨k + 1, by omega, by go_num, λj hj hjk => by
               rcases Yx j k with h | h
               · exact HA.out j hj h
               · obtain rfl : j = k := by omega
                 simp only [BH]; simp; omega⟩
             case measure => simp [intOf]; omega)
          | (have hf : BH s[k] = false := by
               simp only [BH, Y38, Bool.and_eq_false_iff, decide_eq_false_iff_not]; omega
             have hz := HR.out.trans (Z84 hlt2 hf)
             go_ret
             exact ⟨by rw [hz]; rfl, HB.out⟩)
      · have hz := HR.out.trans (Zan λj hj => HA.out j hj (by omega))
        have HZ := Lib.hid hz
        clear hz
        go_wp2
        go_ret
        exact ⟨by rw [HZ.out]; rfl, HB.out⟩
def FV(s:aA):aB Bool:=some (Ay s)
def Z0n(s:aA)(r:Bool)(hm:Is (FV s) r):Zq prog 86 [.s s] (.b r):=by
  obtain rfl:=Zk hm
  refine⟨⟨_,func86,by kernel_rfl,by kernel_rfl⟩,λw m t vals hgok hm ht hargs=>?_⟩
  have⟨hs,hg⟩:=hargs
  have⟨u0,h0,r0⟩:=hg 0 _ rfl
  have e0:u0= .string s:=RepD.qR (m:=m) r0
  subst e0
  have hv:vals=#[.string s]:=by
    apply XZ
    intro i
    match i with
    |0=>simpa using h0
    |i+1=>rw[Xw (by simp at hs;omega)];simp
  subst hv
  refine(Z1j s w).mono ?_
  rintro e w' ⟨rfl,hb⟩
  refine⟨_,m,λ_=>(none,0),rfl,WL.refl _,λ_ _ _ _ h=>h,λb o v hv=>?_,hb,RepD.bool _,⟨λx hx=>by simp[RV.fr,RV1.fr,RC.fr] at hx,λx hx=>by simp[RV.fr,RV1.fr,RC.fr] at hx⟩⟩
  have h1:=hm b o v hv
  have h2:=World.block_lt_of_cell? w ⟨b,o,none⟩ h1
  rwa [hb.cell (p:=⟨b,o,none⟩) h2]
end
section
instance Zhg(s_:aA):Con (FV s_) prog 86 [.one (.d (.str s_))] (λr=>.one (.d (.bool r))):=⟨λr hm=>Z0n s_ r hm⟩
def JO(s_:List Col)(f:Col->aB Bool):aB Int:=
 Zd (λ(i2:Nat) (x2:Col) (s2:Unit) next_2=>Z1 (f x2) λv3=>bif v3 then some (i2:Int) else next_2 ()) (λ(s2:Unit)=>some (-1)) s_ 0 ()
instance Zg3(s_:List Col)(f:Col->aB Bool){g:FuncId}{caps:List aC}[ConF f prog (λx=>.agg x.z) (λv=>.one (.d (.bool v))) g caps]:Con (JO s_ f) prog 109 [.one (.d (.sl (s_.map Col.z))),.one (.fn g caps)] (λr=>.one (.d (.int .i64 r))):=by unfold JO;have l1:LH (σ:=Unit) 8 [0,1,7] []:=.intro;exact go 19 func109
def FH(c:Col)(k0:aA):aB Bool:=
 some (Z9 c.y k0)
instance TY(c:Col)(k0:aA):Con (FH c k0) prog 110 [.agg c.z,.one (.rp [.str k0])] (λr=>.one (.d (.bool r))):=by unfold FH;exact go 8 func110
instance Zgu(k0:aA):ConF (λx=>FH x k0) prog (λx=>.agg x.z) (λr=>.one (.d (.bool r))) 110 [[.str k0]]:=⟨λx=>(TY x k0)⟩
def W7(t:E)(name:aA):aB (Int×Bool):=
 Z1 (JO t.j (λxa_=>FH xa_ name)) λv3=>some ((if v3<0 then 0 else v3),decide (0<=v3))
instance FR(t:E)(name:aA):Con (W7 t name) prog 87 [.agg t.z,.one (.d (.str name))] (λr=>.tup [.one (.d (.int .i64 r.1)),.one (.d (.bool r.2))]):=by unfold W7;exact go 15 func87
def A2(t:E):aB Int:=
 Z1 (FV t.y) λv2=>bif !v2 then some 23 else bif ((t.j.length:Int)==0) then some 3 else bif decide (6<(t.j.length:Int)) then some 2 else Zd (λ(i9:Nat) (x9:Col) (s9:Unit) next_9=>Z1 (FV x9.y) λv11=>bif !v11 then some 23 else Z1 (W7 t x9.y) λv13=>bif decide (v13.1<(i9:Int)) then some 5 else bif decide (x9.g<1) then some 7 else bif decide (3<x9.g) then some 7 else next_9 ()) (λ(s9:Unit)=>Zd (λ(i18:Nat) (x18:Int) (s18:Unit) next_18=>bif decide (x18<0) then some 9 else bif decide ((t.j.length:Int)<=x18) then some 9 else Za t.j x18 λx22=>bif x22.f then some 9 else bif decide (0<i18) then Zp (Wm ((i18:Int)-1)) (Za t.pk ((i18:Int)-1) λx26=>bif decide (x18<=x26) then some 9 else next_18 ()) else next_18 ()) (λ(s18:Unit)=>bif ((t.pk.length:Int)==0) then some 9 else some 0) t.pk 0 ()) t.j 0 ()
instance Zgn(t:E):Con (A2 t) prog 49 [.agg t.z] (λr=>.one (.d (.int .i64 r))):=by unfold A2;have l1:LH (σ:=Unit) 24 [1,22,23] []:=.intro;have l2:LH (σ:=Unit) 55 [1,53,54] []:=.intro;exact go 96 func49
def Hx(s_:List E)(f:E->aB Bool):aB Int:=
 Zd (λ(i2:Nat) (x2:E) (s2:Unit) next_2=>Z1 (f x2) λv3=>bif v3 then some (i2:Int) else next_2 ()) (λ(s2:Unit)=>some (-1)) s_ 0 ()
instance Tl(s_:List E)(f:E->aB Bool){g:FuncId}{caps:List aC}[ConF f prog (λx=>.agg x.z) (λv=>.one (.d (.bool v))) g caps]:Con (Hx s_ f) prog 61 [.one (.d (.sl (s_.map E.z))),.one (.fn g caps)] (λr=>.one (.d (.int .i64 r))):=by unfold Hx;have l1:LH (σ:=Unit) 8 [0,1,7] []:=.intro;exact go 19 func61
def Tn(s_:List E)(g:FuncId)(caps:List aC)(f:E->aB Bool)(hf:∀xa v,Is (f xa) v->Zq prog g (.agg xa.z::Wu caps) (.one (.d (.bool v))))(r:Int)(hm:Is (Hx s_ f) r):Zq prog 61 [.one (.d (.sl (s_.map E.z))),.one (.fn g caps)] (.one (.d (.int .i64 r))):=
 haveI:ConF f prog (λx=>.agg x.z) (λv=>.one (.d (.bool v))) g caps:=⟨hf⟩
 (Tl s_ f).h r hm
def Ef(t:E)(k0:aA):aB Bool:=
 some (Z9 t.y k0)
instance Z05(t:E)(k0:aA):Con (Ef t k0) prog 62 [.agg t.z,.one (.rp [.str k0])] (λr=>.one (.d (.bool r))):=by unfold Ef;exact go 8 func62
instance Zh1(k0:aA):ConF (λx=>Ef x k0) prog (λx=>.agg x.z) (λr=>.one (.d (.bool r))) 62 [[.str k0]]:=⟨λx=>(Z05 x k0)⟩
def Wg(s_:Sch)(name:aA):aB (Int×Bool):=
 Z1 (Hx s_.q (λxa_=>Ef xa_ name)) λv3=>some ((if v3<0 then 0 else v3),decide (0<=v3))
instance AU(s_:Sch)(name:aA):Con (Wg s_ name) prog 30 [.agg s_.z,.one (.d (.str name))] (λr=>.tup [.one (.d (.int .i64 r.1)),.one (.d (.bool r.2))]):=by unfold Wg;exact go 15 func30
def DY(s_:Sch)(fk:Fk):aB Int:=
 Z1 (Wg s_ fk.u) λv3=>Z1 (Wg s_ fk.ref) λv4=>bif !v3.2 then some 4 else bif !v4.2 then some 4 else Za s_.q v3.1 λx7=>Za s_.q v4.1 λx8=>bif ((fk.j.length:Int) !=(x8.pk.length:Int)) then some 3 else Zd (λ(i34:Nat) (x34:Int) (s34:Unit) next_34=>bif decide (x34<0) then some 3 else bif decide ((x7.j.length:Int)<=x34) then some 3 else Za x7.j x34 λx38=>Za x8.pk (i34:Int) λx39=>Za x8.j x39 λx40=>bif (x38.g !=x40.g) then some 7 else next_34 ()) (λ(s34:Unit)=>some 0) fk.j 0 ()
def SZ(s_:Sch)(fk:Fk)(r:Int)(hm:Is (DY s_ fk) r):Zq prog 50 [.agg s_.z,.agg fk.z] (.one (.d (.int .i64 r))):=by
 unfold DY at hm;refine Zq.qM func50 rfl (by kernel_rfl) (n:=85) rfl rfl (by simp) ?_
 try simp[*]
 refine AC (av:=[.agg s_.z,.one (.d (.str fk.u))]) hm (λv hv=>AU _ _ v hv) (by simp[*]) ?_;clear hm;intro v3 hvv3 hm
 try simp[*]
 refine AC (av:=[.agg s_.z,.one (.d (.str fk.ref))]) hm (λv hv=>AU _ _ v hv) (by simp[*]) ?_;clear hm;intro v4 hvv4 hm
 try simp[*]
 refine IC hm ?_ ?_<;>clear hm<;>intro hc5 hm
 .try simp[*]
  obtain rfl:=Zk hm;exact U0 (vs:=[_]) (by simp[*];try exact rfl) (by simp[*])
 .try simp[*]
  refine ZP hm ?_ ?_<;>clear hm<;>intro hc6 hm
  .try simp[*]
   obtain rfl:=Zk hm;exact U0 (vs:=[_]) (by simp[*];try exact rfl) (by simp[*])
  .try simp[*]
   replace hm:=hm.get;obtain⟨x7,h0x7,hxx7,hm⟩:=hm;replace hm:=hm.get;obtain⟨x8,h0x8,hxx8,hm⟩:=hm;refine Z6.cut (Y.qB [0,1,2,3,4,5,7] (.three 6 10 11 (Y.qB [8] (.three 9 10 11 (Y.qB [] (.two 10 11 (Y.qB [11,12,13] .done) (Y.qB [10,12,13] .done))) (Y.qB [] (.two 9 11 (Y.qB [11,12,13] .done) (Y.qB [] (.two 9 12 (Y.qB [12,13] .done) (Y.qB [9,13] .done))))) (Y.qB [] (.two 9 10 (Y.qB [10,12,13] .done) (Y.qB [] (.two 9 12 (Y.qB [12,13] .done) (Y.qB [9,13] .done))))))) (Y.qB [] (.two 6 11 (Y.qB [8] (.two 9 11 (Y.qB [11,12,13] .done) (Y.qB [] (.two 9 12 (Y.qB [12,13] .done) (Y.qB [9,13] .done))))) (Y.qB [] (.two 6 12 (Y.qB [8] (.two 9 12 (Y.qB [12,13] .done) (Y.qB [9,13] .done))) (Y.qB [6,8,9,13] .done))))) (Y.qB [] (.two 6 10 (Y.qB [8] (.two 9 10 (Y.qB [10,12,13] .done) (Y.qB [] (.two 9 12 (Y.qB [12,13] .done) (Y.qB [9,13] .done))))) (Y.qB [] (.two 6 12 (Y.qB [8] (.two 9 12 (Y.qB [12,13] .done) (Y.qB [9,13] .done))) (Y.qB [6,8,9,13] .done))))))) follows (by kernel_rfl) (λe11 h11=>∃n11_b9 n11_b10:Nat,e11.n=85/\e11.get 3=.one (.ptr (1,48) 0)/\e11.get 9=.one (.ptr (n11_b9,144) 0)/\e11.get 10=.one (.ptr (n11_b10,160) 0)/\h11.a (1,48)=some [.d (.str fk.u),.d (.sl (fk.j.map Zg)),.d (.str fk.ref)]/\h11.a (n11_b9,144)=some [.d (.str x7.y),.d (.sl (x7.j.map Col.z)),.d (.sl (x7.pk.map Zg))]/\h11.a (n11_b10,160)=some [.d (.str x8.y),.d (.sl (x8.j.map Col.z)),.d (.sl (x8.pk.map Zg))]) ?_ ?_
   .try simp[*]
    repeat' (first|with_reducible refine And.intro ?_ ?_|(refine Ze.of ⟨4,5,?_⟩;(simp(maxDischargeDepth:=20) [*]);done)|(refine Ze.of ⟨5,4,?_⟩;(simp(maxDischargeDepth:=20) [*]);done))
   .rintro e11 h11 ⟨n11_b9,n11_b10,hn11,h11_3,h11_9,h11_10,hb11_b2,hb11_b9,hb11_b10⟩
    try simp[*]
    intro hl30;replace hl30:fk.j.length<=2097152:=by simpa using hl30
    intro hl31;replace hl31:x8.pk.length<=2097152:=by simpa using hl31
    refine ZP hm ?_ ?_<;>clear hm<;>intro hc32 hm
    .try simp[*]
     obtain rfl:=Zk hm;exact U0 (vs:=[_]) (by simp[*];try exact rfl) (by simp[*])
    .try simp[*]
     refine Z6.for (xs:=fk.j) (s0:=()) (λi34 s34 e34 h34=>e34.n=85/\e34.get 9=.one (.ptr (n11_b9,144) 0)/\e34.get 10=.one (.ptr (n11_b10,160) 0)/\e34.get 51=.one (.d (.sl (fk.j.map Zg)))/\e34.get 52=.one (.d (.int .i64 (fk.j.length:Int)))/\e34.get 53=.one (.d (.int .i64 (i34:Int)))/\h34.a (n11_b9,144)=some [.d (.str x7.y),.d (.sl (x7.j.map Col.z)),.d (.sl (x7.pk.map Zg))]/\h34.a (n11_b10,160)=some [.d (.str x8.y),.d (.sl (x8.j.map Col.z)),.d (.sl (x8.pk.map Zg))]) hm (by simp[*]) ?_ ?_
     .rintro i34 s34 e34 h34 ⟨hn34,h34_9,h34_10,h34_51,h34_52,h34_53,hb34_b9,hb34_b10⟩ hlt34 hm;have hw34:IntKind.i64.wrap ((i34:Int)+1)=(i34:Int)+1:=Y6 _ (by omega)
      try simp[*]
      refine IC hm ?_ ?_<;>clear hm<;>intro hc35 hm
      .try simp[*]
       obtain rfl:=Zk hm;exact U0 (vs:=[_]) (by simp[*];try exact rfl) (by simp[*])
      .try simp[*]
       intro hl36;replace hl36:x7.j.length<=2097152:=by simpa using hl36
       refine ZP hm ?_ ?_<;>clear hm<;>intro hc37 hm
       .try simp[*]
        obtain rfl:=Zk hm;exact U0 (vs:=[_]) (by simp[*];try exact rfl) (by simp[*])
       .try simp[*]
        refine Z6.of (Wy.draw (Y.qB aF .done) follows (by kernel_rfl) ?_)
        try simp[*]
        replace hm:=hm.get;obtain⟨x38,h0x38,hxx38,hm⟩:=hm
        try simp[*]
        replace hm:=hm.qQ;obtain⟨x39,hxx39,hm⟩:=hm
        try simp[*]
        replace hm:=hm.get;obtain⟨x40,h0x40,hxx40,hm⟩:=hm
        try simp[*]
        refine ZP hm ?_ ?_<;>clear hm<;>intro hc41 hm
        .try simp[*]
         obtain rfl:=Zk hm;exact U0 (vs:=[_]) (by simp[*];try exact rfl) (by simp[*])
        .try simp[*]
         exact Zj.of () ⟨(by simp[*]),hm⟩
     .rintro s34 e34 h34 ⟨hn34,h34_9,h34_10,h34_51,h34_52,h34_53,hb34_b9,hb34_b10⟩ hm
      try simp[*]
      obtain rfl:=Zk hm;exact U0 (vs:=[_]) (by simp[*];try exact rfl) (by simp[*])
instance Zg0(s_:Sch)(fk:Fk):Con (DY s_ fk) prog 50 [.agg s_.z,.agg fk.z] (λr=>.one (.d (.int .i64 r))):=⟨λr hm=>SZ s_ fk r hm⟩
def D1(s_:List Fk)(f:Fk->aB Bool):aB Int:=
 Zd (λ(i2:Nat) (x2:Fk) (s2:Unit) next_2=>Z1 (f x2) λv3=>bif v3 then some (i2:Int) else next_2 ()) (λ(s2:Unit)=>some (-1)) s_ 0 ()
instance SR(s_:List Fk)(f:Fk->aB Bool){g:FuncId}{caps:List aC}[ConF f prog (λx=>.agg x.z) (λv=>.one (.d (.bool v))) g caps]:Con (D1 s_ f) prog 88 [.one (.d (.sl (s_.map Fk.z))),.one (.fn g caps)] (λr=>.one (.d (.int .i64 r))):=by unfold D1;have l1:LH (σ:=Unit) 8 [0,1,7] []:=.intro;exact go 19 func88
def JK(s_:List Fk)(g:FuncId)(caps:List aC)(f:Fk->aB Bool)(hf:∀xa v,Is (f xa) v->Zq prog g (.agg xa.z::Wu caps) (.one (.d (.bool v))))(r:Int)(hm:Is (D1 s_ f) r):Zq prog 88 [.one (.d (.sl (s_.map Fk.z))),.one (.fn g caps)] (.one (.d (.int .i64 r))):=
 haveI:ConF f prog (λx=>.agg x.z) (λv=>.one (.d (.bool v))) g caps:=⟨hf⟩
 (SR s_ f).h r hm
def Zpm(s_:List Fk)(f:Fk->aB Bool):aB Bool:=
 Z1 (D1 s_ f) λv1=>some (decide (0<=v1))
instance SO(s_:List Fk)(f:Fk->aB Bool){g:FuncId}{caps:List aC}[ConF f prog (λx=>.agg x.z) (λv=>.one (.d (.bool v))) g caps]:Con (Zpm s_ f) prog 51 [.one (.d (.sl (s_.map Fk.z))),.one (.fn g caps)] (λr=>.one (.d (.bool r))):=by unfold Zpm;exact go 9 func51
def JH(s_:List Fk)(g:FuncId)(caps:List aC)(f:Fk->aB Bool)(hf:∀xa v,Is (f xa) v->Zq prog g (.agg xa.z::Wu caps) (.one (.d (.bool v))))(r:Bool)(hm:Is (Zpm s_ f) r):Zq prog 51 [.one (.d (.sl (s_.map Fk.z))),.one (.fn g caps)] (.one (.d (.bool r))):=
 haveI:ConF f prog (λx=>.agg x.z) (λv=>.one (.d (.bool v))) g caps:=⟨hf⟩
 (SO s_ f).h r hm
def C1(s1:List Int)(s2:List Int):aB Bool:=
 bif ((s1.length:Int) !=(s2.length:Int)) then some false else Zd (λ(i5:Nat) (x5:Int) (s5:Unit) next_5=>Za s2 (i5:Int) λx6=>bif (x5 !=x6) then some false else next_5 ()) (λ(s5:Unit)=>some true) s1 0 ()
instance Nt(s1:List Int)(s2:List Int):Con (C1 s1 s2) prog 89 [.one (.d (.sl (s1.map Zg))),.one (.d (.sl (s2.map Zg)))] (λr=>.one (.d (.bool r))):=by unfold C1;have l1:LH (σ:=Unit) 13 [0,1,12] []:=.intro;have p1:PH [6] (Y.qB aG .done):=.intro;exact go 26 func89
def Bm(a:Fk)(b:Fk):aB Bool:=
 bif Z9 a.u b.u then Z1 (C1 a.j b.j) λv4=>(bif v4 then some (Z9 a.ref b.ref) else some false) else some false
instance Th(a:Fk)(b:Fk):Con (Bm a b) prog 53 [.agg a.z,.agg b.z] (λr=>.one (.d (.bool r))):=by unfold Bm;exact go 24 func53
instance Zg6  :ConG (λx y=>Bm x y) prog (λx=>.agg x.z) (λx=>.agg x.z) (λr=>.one (.d (.bool r))) 53 []:=⟨λx y=>(Th x y)⟩
def Ei(other:Fk)(k0:Fk):aB Bool:=
 Z1 (Bm other k0) λv2=>some v2
instance Z0g(other:Fk)(k0:Fk):Con (Ei other k0) prog 52 [.agg other.z,.one (.rp [.str k0.u,.sl (k0.j.map Zg),.str k0.ref])] (λr=>.one (.d (.bool r))):=by unfold Ei;exact go 7 func52
instance Zh8(k0:Fk):ConF (λx=>Ei x k0) prog (λx=>.agg x.z) (λr=>.one (.d (.bool r))) 52 [[.str k0.u,.sl (k0.j.map Zg),.str k0.ref]]:=⟨λx=>(Z0g x k0)⟩
instance Zhm(a:aA)(b:aA):Con (Er a b) prog 111 [.one (.d (.str a)),.one (.d (.str b))] (λr=>.one (.d (.int .i64 r))):=⟨λr hm=>Z13 a b r hm⟩
def Ci(a:Int)(b:Int):aB Int:=
 bif decide (a<b) then some (-1) else bif decide (b<a) then some 1 else some 0
instance Zha(a:Int)(b:Int):Con (Ci a b) prog 94 [.one (.d (.int .i64 a)),.one (.d (.int .i64 b))] (λr=>.one (.d (.int .i64 r))):=by unfold Ci;exact go 13 func94
def Bw(a:GV)(b:GV):aB Int:=
 Z1 (Ci a.g b.g) λv3=>bif (v3 !=0) then some v3 else Z1 (Ci a.int b.int) λv5=>bif (v5 !=0) then some v5 else Z1 (Er a.text b.text) λv7=>some v7
instance Zi4(a:GV)(b:GV):Con (Bw a b) prog 93 [.agg a.z,.agg b.z] (λr=>.one (.d (.int .i64 r))):=by unfold Bw;exact go 28 func93
def Bt(a:GV)(op:aA)(b:GV):aB (Bool×Int):=
 bif !(Z9 op ({data:=#[61]})) then bif !(Z9 op ({data:=#[60]})) then bif !(Z9 op ({data:=#[60,61]})) then some (false,3) else(bif (a.g==0) then some (true,0) else bif (b.g==0) then some (true,0) else Z1 (Bw a b) λv8=>bif (v8==0) then some (true,0) else bif decide (v8<0) then some (!(Z9 op ({data:=#[61]})),0) else some (false,0)) else(bif (a.g==0) then some (true,0) else bif (b.g==0) then some (true,0) else Z1 (Bw a b) λv13=>bif (v13==0) then bif decide (v13<0) then some (!(Z9 op ({data:=#[61]})),0) else(some (false,0)) else bif decide (v13<0) then some (!(Z9 op ({data:=#[61]})),0) else some (false,0)) else bif (a.g==0) then some (true,0) else bif (b.g==0) then some (true,0) else Z1 (Bw a b) λv19=>bif (v19==0) then bif !(Z9 op ({data:=#[60]})) then some (true,0) else(bif decide (v19<0) then some (!(Z9 op ({data:=#[61]})),0) else some (false,0)) else bif decide (v19<0) then some (!(Z9 op ({data:=#[61]})),0) else some (false,0)
instance Z12(a:GV)(op:aA)(b:GV):Con (Bt a op b) prog 90 [.agg a.z,.one (.d (.str op)),.agg b.z] (λr=>.tup [.one (.d (.bool r.1)),.one (.d (.int .i64 r.2))]):=by unfold Bt;exact go 44 func90
def WE(v_:GV):aB Int:=
 bif (v_.g==0) then bif (v_.int !=0) then some 3 else(bif !(Z9 v_.text empty) then some 3 else some 0) else bif (v_.g==1) then bif !(Z9 v_.text empty) then some 3 else(bif (v_.g==2) then bif (v_.int !=0) then bif (v_.int !=1) then some 1 else(bif decide (v_.int<(-1000000000000)) then some 1 else bif decide (1000000000000<v_.int) then some 1 else some 0) else(bif decide (v_.int<(-1000000000000)) then some 1 else bif decide (1000000000000<v_.int) then some 1 else some 0) else bif decide (v_.int<(-1000000000000)) then some 1 else bif decide (1000000000000<v_.int) then some 1 else some 0) else bif (v_.g==2) then bif !(Z9 v_.text empty) then some 3 else(bif (v_.int !=0) then bif (v_.int !=1) then some 1 else(bif decide (v_.int<(-1000000000000)) then some 1 else bif decide (1000000000000<v_.int) then some 1 else some 0) else bif decide (v_.int<(-1000000000000)) then some 1 else bif decide (1000000000000<v_.int) then some 1 else some 0) else bif (v_.g==3) then bif (v_.int !=0) then some 3 else(bif decide (24<(v_.text.size:Int)) then some 2 else some 0) else some 7
instance Z1a(v_:GV):Con (WE v_) prog 91 [.agg v_.z] (λr=>.one (.d (.int .i64 r))):=by unfold WE;exact go 53 func91
def Fx(s_:Sch)(c:Cons):aB Int:=
 Z1 (Wg s_ c.u) λv3=>bif !v3.2 then some 4 else Za s_.q v3.1 λx5=>Z1 (Bt (GV.mk 0 0 empty) c.op (GV.mk 0 0 empty)) λv6=>bif decide (c.left<0) then some 3 else bif decide ((x5.j.length:Int)<=c.left) then some 3 else bif (v6.2 !=0) then some 3 else bif decide (c.right<(-1)) then some 3 else bif decide ((x5.j.length:Int)<=c.right) then some 3 else bif decide (0<=c.right) then bif (!(c.value.g==0)||(!(c.value.int==0)||(!(c.value.text==empty)))) then some 3 else(Za x5.j c.left λx16=>Za x5.j c.right λx17=>bif (x16.g !=x17.g) then some 7 else some 0) else Za x5.j c.left λx19=>bif (c.value.g !=x19.g) then some 7 else Z1 (WE c.value) λv21=>some v21
instance Zg1(s_:Sch)(c:Cons):Con (Fx s_ c) prog 54 [.agg s_.z,.agg c.z] (λr=>.one (.d (.int .i64 r))):=by unfold Fx;have p1:PH [9] (Y.qB aI .done):=.intro;have p2:PH [12] (Y.qB aJ .done):=.intro;exact go 99 func54
def E0(s_:List Cons)(v_:Cons):aB Int:=
 Zd (λ(i3:Nat) (x3:Cons) (s3:Unit) next_3=>bif (v_.u==x3.u&&(v_.left==x3.left&&(v_.op==x3.op&&(v_.right==x3.right&&(v_.value.g==x3.value.g&&(v_.value.int==x3.value.int&&(v_.value.text==x3.value.text))))))) then some (i3:Int) else next_3 ()) (λ(s3:Unit)=>some (-1)) s_ 0 ()
instance Te(s_:List Cons)(v_:Cons):Con (E0 s_ v_) prog 92 [.one (.d (.sl (s_.map Cons.z))),.agg v_.z] (λr=>.one (.d (.int .i64 r))):=by unfold E0;have l1:LH (σ:=Unit) 8 [0,3,7] []:=.intro;have p1:PH [4] (Y.qB aK .done):=.intro;exact go 19 func92
def Fw(s_:List Cons)(v_:Cons):aB Bool:=
 Z1 (E0 s_ v_) λv2=>some (decide (0<=v2))
instance Zft(s_:List Cons)(v_:Cons):Con (Fw s_ v_) prog 55 [.one (.d (.sl (s_.map Cons.z))),.agg v_.z] (λr=>.one (.d (.bool r))):=by unfold Fw;exact go 9 func55
def UE(s_:Sch):aB Int:=
 bif decide (6<(s_.q.length:Int)) then some 2 else bif decide (8<(s_.b.length:Int)) then some 2 else bif decide (8<(s_.cons.length:Int)) then some 2 else Zd (λ(i9:Nat) (x9:E) (s9:Unit) next_9=>Z1 (A2 x9) λv11=>bif (v11 !=0) then some v11 else bif decide (0<i9) then Zp (Wm ((i9:Int)-1)) (Za s_.q ((i9:Int)-1) λx15=>bif (AA x9.y x15.y||Z9 x9.y x15.y) then some 6 else next_9 ()) else next_9 ()) (λ(s9:Unit)=>Zd (λ(i18:Nat) (x18:Fk) (s18:Unit) next_18=>Z1 (DY s_ x18) λv20=>bif (v20 !=0) then some v20 else Zp (0<=0/\0<=(i18:Int)/\(i18:Int)<=(s_.b.length:Int)) (Z1 (Zpm ((s_.b.take i18).drop 0) (λxa_=>Ei xa_ x18)) λv23=>bif v23 then some 5 else next_18 ())) (λ(s18:Unit)=>Zd (λ(i26:Nat) (x26:Cons) (s26:Unit) next_26=>Z1 (Fx s_ x26) λv28=>bif (v28 !=0) then some v28 else Zp (0<=0/\0<=(i26:Int)/\(i26:Int)<=(s_.cons.length:Int)) (Z1 (Fw ((s_.cons.take i26).drop 0) x26) λv31=>bif v31 then some 5 else next_26 ())) (λ(s26:Unit)=>some 0) s_.cons 0 ()) s_.b 0 ()) s_.q 0 ()
instance K7(s_:Sch):Con (UE s_) prog 26 [.agg s_.z] (λr=>.one (.d (.int .i64 r))):=by unfold UE;have l1:LH (σ:=Unit) 31 [1,29,30] []:=.intro;have l2:LH (σ:=Unit) 59 [1,57,58] []:=.intro;have l3:LH (σ:=Unit) 80 [1,78,79] []:=.intro;have p1:PH [9] (Y.qB aL .done):=.intro;have p2:PH [27] (Y.qB aK .done):=.intro;exact go 98 func26
def AX(t:E)(b:aA):Wp (W7 t b) λv=>0<=v.1/\(v.2=true->v.1<t.j.length)/\(v.2=false->v.1=0):=by
 unfold W7;refine X0 (Xc λx _=>X2 trivial) λk _ a=>X2 ?_
 have:=a.lt
 refine⟨?_,λh=>?_,λh=>?_⟩<;>simp at*<;>first|omega|(split<;>omega)
def UH(S:Sch)(b:aA):Wp (Wg S b) λv=>0<=v.1/\(v.2=true->v.1<S.q.length/\∃T,S.q[v.1.toNat]?=some T/\Z9 T.y b=true)/\(v.2=false->∀T∈S.q,Z9 T.y b=false):=by
 unfold Wg;refine X0 (Xc λx _=>X2 trivial) λk _ c=>X2 ?_;have hl:=c.lt;rcases c with⟨rfl,h⟩|⟨i,x,rfl,e,h⟩;refine⟨I,λh=>by simp at h,λ_ T d=>?_⟩
 have:=h T d
 simpa[Ef] using this;have a:¬((i:Int)<0):=X
 refine⟨by simp[a],λ_=>⟨by simp[a];omega,x,by simp[a,e],?_⟩,λh=>by simp at h⟩;simpa[Ef] using h
structure VT(T:E):Prop where
 cols0:0<T.j.length
 cols6:T.j.length<=6
 pk0:0<T.pk.length
 pk:∀v∈T.pk,0<=v/\v<T.j.length
 asc:∀(i:Nat) (a b:Int),T.pk[i]?=some a->T.pk[i+1]?=some b->a<b
 y:Ay T.y=true
def O7(s:aA):Wp (FV s) λb=>b=Ay s:=X2 rfl
def NC(T:E):Wp (A2 T) λe=>e=0->VT T:=by
 unfold A2;refine X0 (O7 _) λv _ d=>X7 λG=>?_;refine X7 λD=>X7 λI=>?_;have u:0<T.j.length:=by simp at D;exact Y3g.2 D
 have A:T.j.length<=6:=by simp at I;omega
 refine X6 (λ_ _=>True) trivial ?_ ?_
 .intro i x s next k L _ p
  refine X0 (O7 _) λv _ _=>X7 λ_=>?_;refine X0 (AX _ _) λv _ _=>X7 λ_=>X7 λ_=>X7 λ_=>p () trivial
 intro s _;refine X6 (λi _=>(∀(j:Nat) (v:Int),j<i->T.pk[j]?=some v->0<=v/\v<T.j.length)/\(∀(j:Nat) (a b:Int),j+1<i->T.pk[j]?=some a->T.pk[j+1]?=some b->a<b)/\∀(j:Nat) (v:Int),j<i->T.pk[j]?=some v->(j:Int)<=v) ⟨by intro j v h;omega,by intro j a b h;omega,by intro j v h;omega⟩ ?_ ?_
 .rintro i x s next k L ⟨n,r,t⟩ p
  refine X7 λl=>X7 λJ=>?_;have C:0<=x:=sU l;have F:x<T.j.length:=sU J;have B:∀(j:Nat) (v:Int),j<i+1->T.pk[j]?=some v->0<=v/\v<T.j.length:=by
   intro j v f d;rcases Yx j i with h|h;exact n j v h d;obtain rfl:j=i:=X
   rw[k] at d;cases d;exact⟨C,F⟩
  have ah:=(Y0.1 k).1;refine X3 C F λc _ _=>X7 λ_=>X1 (λm=>?_) λm=>p () ⟨B,?_,?_⟩;have hi:0<i:=sU m;have z:i-1<T.pk.length:=X
  have ag:=n (i-1) _ X (Y1 z);have hb2:=t (i-1) _ X (Y1 z);refine X4 ⟨X,by have:=A;omega⟩ ?_;refine X3 X X λy N _=>X7 λK=>?_;have H:y<x:=sU K;have q:T.pk[i-1]?=some y:=by rw[<-N];congr 1;omega
  refine p () ⟨B,?_,?_⟩;intro j a b f o g;rcases Yx (j+1) i with h|h;exact r j a b h o g;obtain rfl:i=j+1:=X
  rw[k] at g;cases g;rw[show j+1-1=j by omega,o] at q;cases q;exact H;intro j v f d;rcases Yx j i with h|h;exact t j v h d;obtain rfl:j=i:=X
  rw[k] at d;cases d
  have:=t (j-1) y X q
  omega;intro j a b f
  have:i=0:=sU m
  omega;intro j v f d;have w:i=0:=sU m;obtain rfl:j=0:=X
  subst w;rw[k] at d;cases d;omega
 rintro s ⟨n,r,_⟩;refine X7 λl=>X2 λ_=>?_;have M:0<T.pk.length:=by simp at l;exact Y3g.2 l
 refine⟨u,A,M,λv d=>?_,λi a b o g=>r i a b (Y0.1 g).1 o g,by rw[<-d];simpa using G⟩;obtain⟨j,f,rfl⟩:=Yo d;exact n j _ f (Y1 f)
def Gb(a b:List Int):Wp (C1 a b) λr=>r=true->a=b:=by
 unfold C1;refine X7 λh=>?_;have hl:a.length=b.length:=by simp at h;omega
 refine X6 (λi _=>∀j,j<i->a[j]?=b[j]?) (by intro j h;omega) ?_ ?_
 .intro i x s next f hm d g
  have hi:=(Y0.1 f).1;refine X3 X X λy k _=>X7 λe=>g () λj hj=>?_;rcases Yx j i with c|c;exact d j c;obtain rfl:j=i:=X
  rw[f,show(some x:aB Int)=some y by simp at e;rw[e],<-k]
  congr 1
 intro s d;refine X2 λ_=>YU λj=>?_;rcases Yx j a.length with c|c;exact d j c;rw[Yq c,Yq X]
def FU(a b:Fk):Wp (Bm a b) λ_=>True:=by
 unfold Bm;exact X1 (λ_=>X0 (Gb _ _) λ_ _ _=>X1 (λ_=>X2 trivial) λ_=>X2 trivial) λ_=>X2 trivial
def Ep(a:List Fk)(f:Fk->aB Bool)(b:∀x∈a,Wp (f x) λ_=>True):Wp (Zpm a f) λ_=>True:=by
 unfold Zpm D1;exact X0 (Xc b) λ_ _ _=>X2 trivial
def Z68(a b:GV):Wp (Bw a b) λ_=>True:=by
 unfold Bw Ci Er
 repeat' first|exact X2 trivial|refine X0 (R:=λ_=>True) ?_ λ_ _ _=>?_|refine X1 (λ_=>?_) λ_=>?_
def Ga(a:GV)(c:aA)(b:GV):Wp (Bt a c b) λ_=>True:=by
 unfold Bt
 repeat' first|exact X2 trivial|refine X0 (Z68 _ _) λ_ _ _=>?_|refine X1 (λ_=>?_) λ_=>?_
def Eu(a:GV):Wp (WE a) λ_=>True:=by
 unfold WE
 repeat' first|exact X2 trivial|refine X1 (λ_=>?_) λ_=>?_
def VF(f:Fk):Prop:=f.j.length<=6/\∀v∈f.j,0<=v/\v<6
def VO(c:Cons):Prop:=(0<=c.left/\c.left<6)/\-1<=c.right/\c.right<6
def VT.pk6{T:E}(h:VT T):T.pk.length<=6:=by
 have:∀(n:Nat) (v:Int),T.pk[n]?=some v->(n:Int)<=v:=by
  intro n
  induction n with
  |zero=>intro v a;have:=(h.pk v (Y2 a)).1;omega
  |succ n ih=>?_
  intro v a;have hn:=(Y0.1 a).1;have b:=ih _ (Y1 X);have c:=h.asc n _ v (Y1 X) a;omega
 have hp:=h.pk0;have b:=this (T.pk.length-1) _ (Y1 X);have c:=(h.pk _ (Yh (X:T.pk.length-1<T.pk.length))).2;have h3:=h.cols6;omega
def Nj(S:Sch)(q:∀T∈S.q,VT T)(f:Fk):Wp (DY S f) λe=>e=0->VF f:=by
 unfold DY;refine X0 (UH S f.u) λv _ t=>X0 (UH S f.ref) λw _ u=>X7 λC=>X7 λD=>?_;have B:v.2=true:=sU C;have A:w.2=true:=sU D;refine X3 t.1 (t.2.1 B).1 λT hTx m=>X3 u.1 (u.2.1 A).1 λR hRx l=>X7 λE=>?_;have g:=q T m;have c:=q R l;have H:f.j.length=R.pk.length:=by simp at E;omega
 refine X6 (λi _=>∀(j:Nat) (v:Int),j<i->f.j[j]?=some v->0<=v/\v<6) (by intro j v h;omega) ?_ ?_
 .intro i x s next y hm k I
  have hi:=(Y0.1 y).1;refine X7 λF=>X7 λG=>?_;have o:0<=x:=sU F;have z:x<T.j.length:=sU G;refine X3 o z λa _ _=>X3 X X λp _ r=>X3 (c.pk p r).1 (c.pk p r).2 λb _ _=>X7 λ_=>I () λj v n d=>?_;rcases Yx j i with h6|h6;exact k j v h6 d;obtain rfl:j=i:=X
  rw[y] at d;cases d
  have:=g.cols6
  omega
 intro s k;refine X2 λ_=>⟨by rw[H];exact c.pk6,λv d=>?_⟩;obtain⟨j,n,rfl⟩:=Yo d;exact k j _ n (Y1 n)
def Nk(S:Sch)(t:∀T∈S.q,VT T)(c:Cons):Wp (Fx S c) λe=>e=0->VO c:=by
 unfold Fx;refine X0 (UH S c.u) λv _ h=>X7 λm=>?_;have l:v.2=true:=sU m;refine X3 h.1 (h.2.1 l).1 λT hTx d=>X0 (Ga _ _ _) λq _ _=>?_;have a:=t T d;have h6:=a.cols6;refine X7 λn=>X7 λo=>X7 λ_=>X7 λp=>X7 λr=>?_;have b:0<=c.left:=sU n;have f:c.left<T.j.length:=sU o;have i:-1<=c.right:=sU p;have j:c.right<T.j.length:=sU r;have g:VO c:=⟨⟨b,X⟩,i,X⟩;refine X1 (λs=>?_) λ_=>?_;have k:0<=c.right:=sU s;exact X7 λ_=>X3 b f λ_ _ _=>X3 k j λ_ _ _=>X7 λ_=>X2 λ_=>g;exact X3 b f λ_ _ _=>X7 λ_=>X0 (Eu _) λ_ _ _=>X2 λ_=>g
def ND(b:List Cons)(c:Cons):Wp (Fw b c) λ_=>True:=by
 unfold Fw E0;refine X0 (R:=λ_=>True) (X6 (λ_ _=>True) trivial (λi x s next _ _ _ a=>X1 (λ_=>X2 trivial) λ_=>a () trivial) λ_ _=>X2 trivial) λ_ _ _=>X2 trivial
structure VS0(S:Sch):Prop where
 t6:S.q.length<=6
 f8:S.b.length<=8
 o8:S.cons.length<=8
 tab:∀T∈S.q,VT T
 fk:∀f∈S.b,VF f
 con:∀c∈S.cons,VO c
def BG{α:Type}{a:List α}{p:α->Prop}(h:∀(j:Nat) (x:α),j<a.length->a[j]?=some x->p x):∀x∈a,p x:=by intro x c;obtain⟨j,b,rfl⟩:=Yo c;exact h j _ b (Y1 b)
def Ab{α:Type}{b:List α}{p:α->Prop}{i:Nat}{x:α}(h:∀(j:Nat) (y:α),j<i->b[j]?=some y->p y)(d:b[i]?=some x)(c:p x):∀(j:Nat) (y:α),j<i+1->b[j]?=some y->p y:=by
 intro j y hj a;rcases Yx j i with h1|h1;exact h j y h1 a;obtain rfl:j=i:=X
 rw[d] at a;cases a;exact c
def Z0l(S:Sch):Wp (UE S) λe=>e=0->VS0 S:=by
 unfold UE;refine X7 λr=>X7 λt=>X7 λu=>?_;have o:S.q.length<=6:=by simp at r;omega
 have p:S.b.length<=8:=by simp at t;omega
 have q:S.cons.length<=8:=by simp at u;omega
 refine X6 (λi _=>∀(j:Nat) (T:E),j<i->S.q[j]?=some T->VT T) (by intro j T h;omega) ?_ ?_
 .intro i T s next a n b d
  have m:=(Y0.1 a).1;refine X0 (NC T) λe _ l=>X1 (λh=>X2 (by intro g;simp[g] at h)) λk=>?_;have c:VT T:=l (sU k);refine X1 (λv=>?_) λ_=>d () (Ab b a c);have aa:0<i:=sU v;exact X4 ⟨X,X⟩ (X3 X X λ_ _ _=>X7 λ_=>d () (Ab b a c))
 intro s b;have c:=BG b;refine X6 (λi _=>∀(j:Nat) (f:Fk),j<i->S.b[j]?=some f->VF f) (by intro j T h;omega) ?_ ?_
 .intro i f s next a n b d
  have m:=(Y0.1 a).1;refine X0 (Nj S c f) λe _ l=>X1 (λh=>X2 (by intro g;simp[g] at h)) λk=>?_;refine X4 ⟨X,X,X⟩ (X0 (Ep _ _ λx _=>?_) λ_ _ _=>X7 λ_=>d () (Ab b a (l (sU k))));unfold Ei;exact X0 (FU _ _) λ_ _ _=>X2 trivial
 intro s hF;refine X6 (λi _=>∀(j:Nat) (f:Cons),j<i->S.cons[j]?=some f->VO f) (by intro j T h;omega) ?_ ?_
 .intro i f s next a n b d
  have m:=(Y0.1 a).1;refine X0 (Nk S c f) λe _ l=>X1 (λh=>X2 (by intro g;simp[g] at h)) λk=>?_;exact X4 ⟨X,X,X⟩ (X0 (ND _ _) λ_ _ _=>X7 λ_=>d () (Ab b a (l (sU k))))
 intro s w;exact X2 λ_=>⟨o,p,q,c,BG hF,BG w⟩
structure VS(S:Sch):Prop extends VS0 S where
 ok:UE S=some 0
def HV(S:Sch):Wp (UE S) λe=>e=0->VS S:=
 (Z0l S).mono λr b h a=>{h a with ok:=by rw[b,a]}
@[simp,reducible] def En(e:Env)(n:Nat):List (Nat×V)->Prop
 |[]=>e.n=n
 |(k,v)::l=>e.get k=v/\En e n l
@[simp,reducible] def Ek(a e:Env)(l:List (Nat×V)):List Nat->Prop
 |[]=>En e a.n l
 |k::ks=>e.get k=a.get k/\Ek a e l ks
def Ek.an{c e:Env}{l:List (Nat×V)}{d:List Nat}{p:Prop}(a:Ek c e l d)(b:p):Ek c e l d/\p:=⟨a,b⟩
def Zb(b:List aD)(a:aD):aD:=b.flatten++a
def Zy(n:Nat)(a:List aD):Prop:=∀x∈a,x.length=n
def Zy.nil{n:Nat}:Zy n []:=by simp[Zy]
def Zy.cons{n:Nat}{x a}:Zy n (x::a)↔x.length=n/\Zy n a:=by simp[Zy]
def Zy.append{n:Nat}{b c}:Zy n (b++c)↔Zy n b/\Zy n c:=by
 simp only[Zy,Y3];exact⟨λh=>⟨λy a=>h y (.inl a),λy a=>h y (.inr a)⟩,λh y a=>a.elim (h.1 y) (h.2 y)⟩
def Zy.take{n k:Nat}{a}(h:Zy n a):Zy n (a.take k):=λx b=>h x (XE b)
def Zy.drop{n k:Nat}{a}(h:Zy n a):Zy n (a.drop k):=λx b=>h x (List.mem_of_mem_drop b)
def Zy.set{n k:Nat}{a x}(h:Zy n a)(b:x.length=n):Zy n (a.set k x):=λy c=>by rcases YZ c with h1|rfl;exact h y h1;exact b
def Zy.get{n k:Nat}{a x}(h:Zy n a)(b:a[k]?=some x):x.length=n:=h x (Y2 b)
def Zy.flatten{n:Nat}:∀{a:List aD},Zy n a->a.flatten.length=a.length*n
 |[],_=>by simp
 |x::a,h=>by have⟨b,c⟩:=Zy.cons.1 h;simp[Zy.flatten c,b,YP];omega
def V2{n:Nat}{a sp}(h:Zy n a):(Zb a sp).length=a.length*n+sp.length:=by simp[Zb,h.flatten]
def G9{n:Nat}:∀{k:Nat} {a:List aD} {b:aD},Zy n a->k<=a.length->(Zb a b).drop (k*n)=Zb (a.drop k) b
 |0,a,b,_,_=>by simp
 |k+1,[],b,_,hk=>by simp at hk
 |k+1,x::a,b,h,hk=>by
   have⟨c,d⟩:=Zy.cons.1 h;have e:(k+1)*n=x.length+k*n:=by rw[c,YP];omega
   rw[e];simp only[Zb,XC,Yz,List.drop_succ_cons];rw[<-Xr,Y3r];exact G9 d (sU hk)
def G8{n:Nat}:∀{k:Nat} {xs:List aD} {sp:aD},Zy n xs->k<=xs.length->(Zb xs sp).take (k*n)=(xs.take k).flatten
 |0,xs,sp,_,_=>by simp
 |k+1,[],sp,_,hk=>by simp at hk
 |k+1,x::xs,sp,h,hk=>by
   have⟨a,b⟩:=Zy.cons.1 h;have e:(k+1)*n=x.length+k*n:=by rw[a,YP];omega
   rw[e];simp only[Zb,XC,Yz,Y3w];rw[List.take_length_add_append]
   congr 1
   exact G8 b (sU hk)
def Lh{n k f:Nat}{a sp x}(h:Zy n a)(b:a[k]?=some x)(hf:f<=n):(Zb a sp).drop (k*n+f)=x.drop f++Zb (a.drop (k+1)) sp:=by
 have c:=(Y0.1 b).1;have hxl:=h.get b;rw[<-Xr,G9 h X,YB c]
 have:a[k]=x:=(Y0.1 b).2
 rw[this];simp only[Zb,XC,Yz];rw[Xv X]
def VH{n k f m:Nat}{a sp x}(h:Zy n a)(c:a[k]?=some x)(hf:f+m<=n):Zs m ((Zb a sp).drop (k*n+f))=Zs m (x.drop f):=by
 have hxl:=h.get c;rw[Lh h c X];have b:m<=(x.drop f).length:=sO
 simp only[Zs,b,if_true,Ye];rw[if_pos X,Xg b]
def IV{n k:Nat}{a sp x}(h:Zy n a)(c:a[k]?=some x):Zs n ((Zb a sp).drop (k*n))=some x:=by have b:=VH (sp:=sp) (f:=0) (m:=n) h c X;simp only[Xl,XU] at b;rw[b,<-h.get c];simp[Zs]
def Z26{α:Type}{b:List α}{a:Nat}{x}(h:a<b.length):(b.set a x).take (a+1)=b.take a++[x]:=by rw[Yg (sU h),List.getElem_set_self,List.take_set_of_le (Y7 a)]
def Ah{n k:Nat}{a sp}(h:Zy n a)(hk:k<a.length):k*n+n<=(Zb a sp).length:=by
 rw[V2 h]
 have:(k+1)*n<=a.length*n:=Xq n X
 rw[YP] at this;omega
def BK{n k f:Nat}{a sp x vs}(h:Zy n a)(b:a[k]?=some x)(hf:f+vs.length<=n):Zi (Zb a sp) (k*n+f) vs=Zb (a.set k (Zi x f vs)) sp:=by
 have c:=(Y0.1 b).1;have hxl:=h.get b;have d:(Zb a sp).take (k*n+f)=(a.take k).flatten++x.take f:=by
  rw[List.take_add,G8 h X,G9 h X,YB c]
  have:a[k]=x:=(Y0.1 b).2
  rw[this];simp only[Zb,XC,Yz];rw[Xg X]
 have e:(Zb a sp).drop (k*n+f+vs.length)=x.drop (f+vs.length)++Zb (a.drop (k+1)) sp:=by rw[Nat.add_assoc,Lh h b X]
 have g:a.set k (Zi x f vs)=a.take k++Zi x f vs::a.drop (k+1):=Xz.trans (by rw[if_pos c]);rw[Zi,d,e,g];simp[Zb,Zi]
def MR(h:HS)(n:Nat)(c:C)(a:List aD):Prop:=
 Zy n a/\a.length<=Zz/\((a=[]/\(c=.nil\/c=.z))\/∃l cap b,c=.mrow l 0 a.length cap/\h.a l=some (Zb a b)/\(Zb a b).length=cap*n)
def Z:C->List Z2
 | .mrow l _ _ _=>[l]
 |_=>[]
def MR.frame{h h'}{n:Nat}{c d}(m:MR h n c d)(g:∀l∈Z c,h'.a l=h.a l):MR h' n c d:=by refine⟨m.1,m.2.1,?_⟩;rcases m.2.2 with a|⟨l,b,i,a,e,f⟩;exact .inl a;exact .inr ⟨l,b,i,a,by rw[g l (by simp[a,Z])];exact e,f⟩
def MR.nil{h}{n:Nat}:MR h n .nil []:=⟨Zy.nil,I,.inl ⟨rfl,.inl rfl⟩⟩
def MR.z{h}{n:Nat}:MR h n .z []:=⟨Zy.nil,I,.inl ⟨rfl,.inr rfl⟩⟩
def MR.block{h}{n:Nat}{c a}(m:MR h n c a)(b:0<a.length):∃l cap d,c=.mrow l 0 a.length cap/\h.a l=some (Zb a d)/\(Zb a d).length=cap*n:=by rcases m.2.2 with h1|h1;rw[h1.1] at b;simp at b;exact h1
def EK{n off k:Nat}{h l xs}{sp:aD}{cap:Nat}(a:Zy n xs)(d:h.a l=some (Zb xs sp))(hk:off+k<=xs.length):Wz h n (.mrow l (off*n) k cap)=some (((xs.drop off).take k).flatten):=by
 simp only[Wz,d];rw[G9 a X];have b:=G8 (k:=k) (xs:=xs.drop off) (sp:=sp) a.drop sO;have c:k*n<=(Zb (xs.drop off) sp).length:=by
  rw[V2 a.drop]
  have:k*n<=(xs.drop off).length*n:=Xq n sO
  omega
 simp only[Zs,c,if_true,b]
def IU{n i:Nat}{a b sp}(c:Zy n a)(d:Zy n b)(e:i<=a.length):Zi (Zb a sp) (i*n) b.flatten=Zb (a.take i++b) ((Zb a sp).drop ((i+b.length)*n)):=by rw[Zi,G8 c e,d.flatten,<-YP];simp[Zb]
def PN{n:Nat}{a sp vs}(b:Zy n a):Zi (Zb a sp) (a.length*n) vs=Zb a (Zi sp 0 vs):=by
 have c:(Zb a sp).take (a.length*n)=a.flatten:=by rw[G8 b (Y7 _)];simp
 have d:(Zb a sp).drop (a.length*n+vs.length)=sp.drop vs.length:=by rw[<-Xr,G9 b (Y7 _)];simp[Zb]
 rw[Zi,c,d];simp[Zb,Zi]
def A6{a b}{o:Nat}(h:o+b.length<=a.length):(Zi a o b).length=a.length:=by simp[Zi];omega
def KG{P e d}{n i:Nat}{l}{a k b:Nat}{h c z f}(g:ZC P e=some (d,n,i))(q:W3 P d=some z)(o:h.a l=some c)(m:0<n)(j:a+k*n<=c.length)
  (p:f .top (h.xV l (Zi c a (List.replicate k z).flatten))):Jb P e (.mrow l a k b) h (K:=⟨f⟩):=by
 unfold Jb CA;simp only[g,q,o];exact⟨⟨m,j⟩,p⟩
def Z0(h a:HS)(b:List Z2):Prop:=h.p<=a.p/\∀k:Z2,k.1<h.p->k∉b->a.a k=h.a k
def Z0.refl{h a}:Z0 h h a:=⟨Y7 _,λ_ _ _=>rfl⟩
def Z0.trans{h d e c}(a:Z0 h d c)(b:Z0 d e c):Z0 h e c:=⟨YE a.1 b.1,λk g f=>(b.2 k (by have:=a.1;omega) f).trans (a.2 k g f)⟩
def Z0.w{h b c}(a:Z0 h b c):Z0 h b.w c:=⟨by have:=a.1;simp;omega,λk d e=>a.2 k d e⟩
def Z0.qC{h b c l x}(a:Z0 h b c):Z0 h (b.qC l x) c:=⟨sU a.1,λk d e=>a.2 k d e⟩
def Z0.xV{h d c l cs}(a:Z0 h d c)(b:l∈c\/h.p<=l.1):Z0 h (d.xV l cs) c:=⟨by simpa using a.1,λk f e=>by
 have:k≠l:=by rintro rfl;rcases b with b|b;exact e b;omega
 simp[this,a.2 k f e]⟩
def keep(p:aC->Bool):List aD->List aC->List aD
 |x::xs,t::ts=>if p t then keep p xs ts else x::keep p xs ts
 |_,_=>[]
def Zy.keep{n:Nat}{p}:∀{a:List aD} {c:List aC},Zy n a->Zy n (keep p a c)
 |[],_,_=>by simp[Go.Am.keep,Zy]
 |_::_,[],_=>by simp[Go.Am.keep,Zy]
 |x::a,t::c,h=>by have⟨d,b⟩:=Zy.cons.1 h;unfold Go.Am.keep;split;exact Zy.keep b;exact Zy.cons.2 ⟨d,Zy.keep b⟩
def KT{p}:∀{j:Nat} {c:List aD} {b:List aC} {x:aD} {t:aC},c[j]?=some x->b[j]?=some t->
  keep p (c.take (j+1)) (b.take (j+1))=if p t then keep p (c.take j) (b.take j) else keep p (c.take j) (b.take j)++[x]
 |0,x::c,t::b,_,_,a,ht=>by
   simp at a ht;subst a ht;simp[keep]
 |j+1,x::c,t::b,y,u,a,ht=>by
   have d:=KT (p:=p) (sU a) (sU ht);simp only[Y3w,keep] at d|-;rw[d]
   split<;>split<;>rfl
 |_,[],_,_,_,a,_=>by simp at a
 |_,_::_,[],_,_,_,ht=>by simp at ht
def R1{p}:∀{xs:List aD} {ts:List aC},(keep p xs ts).length<=xs.length
 |[],_=>by simp[keep]
 |_::_,[]=>by simp[keep]
 |x::xs,t::ts=>by
   unfold keep
   have:=R1 (p:=p) (xs:=xs) (ts:=ts)
   split<;>simp<;>omega
def Ly{p}:∀{b:List aD} {a:List aC},b.length=a.length->(∀t∈a,p t=false)->keep p b a=b
 |[],_,_,_=>by simp[keep]
 |_::_,[],h,_=>by simp at h
 |x::b,t::a,h,hp=>by
   unfold keep;rw[hp t (by simp),Ly (by simpa using h) (λu c=>hp u (by simp[c]))];simp
def MR.frz{h}{n:Nat}{c a}{o:List aC}(m:MR h n c a)(k:a.length=o.length)(r:∀t∈o,t.length=n)(y:∀(i:Nat) x t,a[i]?=some x->o[i]?=some t->ZI h x t):Frz h c (.sl o):=by
 rcases m.2.2 with⟨u,p⟩|⟨l,cap,sp,rfl,v,_⟩;subst u
 have:o=[]:=YF (sU k.symm)
 subst this;rcases p with rfl|rfl;exact .data rfl;exact .data rfl;rw[k];refine Frz.mrow (f:=λi j=>((a[i]?).getD [])[j]?.getD .nil) v (by rw[<-k];exact m.2.1) r (λi t g j d q=>?_) (λi t g j d q=>?_);have b:i<a.length:=by rw[k];exact(Y0.1 g).1
 have e:=Y1 b;have hj:j<n:=by rw[<-r t (Y2 g)];exact(Y0.1 q).1
 have hxl:=m.1.get e
 have:=Lh (sp:=sp) m.1 e (f:=j) X
 have p:((Zb a sp).drop (i*n+j))[0]?=a[i][j]?:=by rw[this,Yu sO];simp
 simp only[YO,Xl] at p;rw[XI,p,e];simp[Y1 (X:j<a[i].length)];have b:i<a.length:=by rw[k];exact(Y0.1 g).1
 have e:=Y1 b;have⟨_,z⟩:=(y i _ _ e g).get;have⟨c,w,s⟩:=z j d q;simp only[e,Option.getD_some,w];exact s
@[simp] theorem Zmx{n:Nat}{a}:(CV n a).n=n:=rfl
@[simp] theorem Zln{n k:Nat}{a}:(CV n a).get k=(a[k]?).getD .undef:=rfl
@[simp] theorem Zl5{P}{k:Nat}{K e h}:ZS P [.tmp k] K .ret e h=K (e.get k) h:=rfl
@[simp] theorem Zk9{P}{k:Nat}{K e h}:ZS P [.tmp k] K .normal e h=K (e.get k) h:=rfl
@[simp] theorem Zka{P K e h}:ZS P [] K .ret e h=K (.tup []) h:=by simp[ZS,ZK]
@[simp] theorem Zji{P K e h}:ZS P [] K .normal e h=K (.tup []) h:=by simp[ZS,ZK]
def V3{a b:Prop}[Decidable a][Decidable b]{c d f}(h:a)(e:b->f (.one c))(g:¬b->f (.one d)):ZV (Option.map V.one (if a then(if b then some c else some d) else none)) (k:=⟨f⟩):=by rw[if_pos h];by_cases hb:b;rw[if_pos hb];exact e hb;rw[if_neg hb];exact g hb
def sm{h h':HS}{ls:List Z2}(H:Z0 h h' ls:=by repeat' first|exact Z0.refl|apply Z0.w|apply Z0.qC|(refine Z0.xV ?_ (.inr (by simp)))):Z0 h h' ls:=H
def Zr(h:HS)(n:Nat)(c:C)(a:List aD):Prop:=Wz h n c=some a.flatten/\Wd c=some a.length/\Zy n a/\a.length<=Zz
def MR.rd{h:HS}{n:Nat}{c:C}{d:List aD}(m:MR h n c d):Zr h n c d:=by
 refine⟨?_,?_,m.1,m.2.1⟩;rcases m.2.2 with⟨a,rfl|rfl⟩|⟨l,cap,f,rfl,e,b⟩;subst a;simp[Wz,C.qE];subst a;simp[Wz,C.qE]
 have:=EK (n:=n) (off:=0) (k:=d.length) (cap:=cap) m.1 e I
 simpa using this;rcases m.2.2 with⟨a,rfl|rfl⟩|⟨l,cap,f,rfl,e,b⟩;subst a;simp[Wd,C.qE];subst a;simp[Wd,C.qE];simp[Wd]
def Zr.data{h:HS}{n:Nat}{ts:List aC}(a:∀t∈ts,t.length=n)(e:ts.length<=Zz):Zr h n (.d (.sl ts)) (ts.map (·.map C.d)):=by refine⟨?_,by simp[Wd,C.qE],?_,sU e⟩;show(if∀x∈ts,x.length=n then some (ts.flatten.map C.d) else none)=_;rw[if_pos a,Y3i];intro x b;simp at b;obtain⟨t,c,rfl⟩:=b;simpa using a t c
def Zcd{P:Program}{i:TypeId}{z:TypeId×Nat×Nat}{h:HS}{n:Nat}{c:C}{l:List aD}{f:V->Prop}(j:ZC P i=some z)(q:Zr h n c l)(m:l=[]->f (WH true))(k:f (WH false)):Hd P .eql i c (K:=⟨f⟩):=by
 have a:=q.2.1;have e:∀g,c.qE=some g->Wd c=some g.length->Hd P .eql i c (K:=⟨f⟩):=λg r p=>by
  refine Gm j rfl r (λb o=>?_);cases b with
  |false=>exact k
  |true=>?_
  have:g=[]:=Classical.byContradiction λh=>sU (o h)
  subst this;rw[p] at a;exact m (YF (sU a.symm))
 match c,a with
 | .d (.sl g),_=>exact e g rfl rfl
 | .own _ g,_=>exact e g rfl rfl
 | .nil,_=>exact e [] rfl rfl
 | .z,_=>exact e [] rfl rfl
 | .mrow _ _ _ _,_=>exact Z7f j rfl k
def Zam{h:HS}{n:Nat}:VW h n .z=some (0,0,[],none):=rfl
def Zcs{P:Program}{o j:TypeId}{n i d:Nat}{h:HS}{x:C}{c:List aD}{K:V->HS->Prop}(p:ZC P o=some (j,n,i))(w:(W3 P j).isSome=true)(q:0<n)(s:i<=4096)(v:Zr h n x c)
  (k:∀e b,MR b n e c->Z0 h b []->(∀l∈Z e,h.p<=l.1/\l.1<b.p)->K (.one e) b):Ud P o .z x d h (K:=⟨K⟩):=by
 have⟨t,u,g,m⟩:=v;refine Dt p Zam t u w q s (sU m) g.flatten I (λf=>?_) (λf r=>X) (λf r a hcap=>?_)
 have:c=[]:=YF f
 subst this;exact k _ _ MR.z .refl (by simp[Z]);refine k _ _ ⟨g,m,.inr ⟨(h.p,16*d),a,List.replicate ((a-c.length)*n) .any,I,by simp[Zb],?_⟩⟩ ((Z0.refl.xV (.inr (Y7 _))).w) (by simp[Z]);rw[V2 g,Xi,<-YP]
 congr 1
 omega
inductive Sh where
 |d
 |r(es:List Sh)
inductive Ow(h:HS):List Sh->List C->List D->List Z2->Prop where
 |nil:Ow h [] [] [] []
 |data {c:C} {x:D} {ss:List Sh} {cs:List C} {ds:List D} {ls:List Z2} (hx:c.toD=some x) (hr:Ow h ss cs ds ls):Ow h (.d::ss) (c::cs) (x::ds) ls
 |emp {es:List Sh} {c:C} {ss:List Sh} {cs:List C} {ds:List D} {ls:List Z2} (hx:c.toD=some (.sl [])) (hr:Ow h ss cs ds ls):Ow h (.r es::ss) (c::cs) (.sl []::ds) ls
 |row {es:List Sh} {c:C} {qs:List (List C×List D×List Z2)} {ss:List Sh} {cs:List C} {ds:List D} {ls:List Z2} (hm:MR h es.length c (qs.map (·.1))) (hq:∀q∈qs,Ow h es q.1 q.2.1 q.2.2)
   (hr:Ow h ss cs ds ls):Ow h (.r es::ss) (c::cs) (.sl (qs.map (·.2.1))::ds) (Z c++qs.flatMap (·.2.2)++ls)
def Ow.len{h a b c d}(o:Ow h a b c d):b.length=a.length/\c.length=a.length:=by
 induction o with
 |nil=>simp
 |data _ _ ih=>simp[ih]
 |emp _ _ ih=>simp[ih]
 |row _ _ _ _ ih=>simp[ih]
def Ow.frame{h h' g e f d}(o:Ow h g e f d)(a:∀l∈d,h'.a l=h.a l):Ow h' g e f d:=by
 induction o with
 |nil=>exact .nil
 |data hx _ ih=>exact .data hx (ih a)
 |emp hx _ ih=>exact .emp hx (ih a)
 |@row es c qs g e f d hm _ _ ihq ih=>?_
 refine .row (hm.frame λl b=>a l (by simp[b])) (λq i=>ihq q i λl b=>a l ?_) (ih λl b=>a l (by simp[b]));simp only[Y3,YH];exact .inl (.inr ⟨q,i,b⟩)
def Ow.frz{h k e f j}(o:Ow h k e f j):ZI h e f:=by
 induction o with
 |nil=>trivial
 |data a _ d=>exact⟨.data a,d⟩
 |emp a _ d=>exact⟨.data a,d⟩
 |@row es c qs _ e f _ hm hq _ ihq d=>?_
 refine⟨hm.frz I (λt b=>?_) (λi x t a b=>?_),d⟩;obtain⟨q,g,rfl⟩:=Yi.1 b;exact(hq q g).len.2;rw[Y9] at a b;cases hqi:qs[i]? with
 |none=>rw[hqi] at a;simp at a
 |some q=>?_
 rw[hqi] at a b;simp only[Yp,Ya] at a b;subst a b;exact ihq q (Y2 hqi)
def Ow.qV{h a b c}(o:Ow h [] a b c):a=[]/\b=[]/\c=[]:=by
 cases o;exact⟨rfl,rfl,rfl⟩
def Ow.jJ{h g b e f}(o:Ow h (.d::g) b e f):∃c x cs' a,b=c::cs'/\e=x::a/\c.toD=some x/\Ow h g cs' a f:=by
 cases o with
 |data j i=>exact⟨_,_,_,_,rfl,rfl,j,i⟩
def Ow.jT{h g k e f j}(o:Ow h (.r g::k) e f j):(∃(c:C) (a:aD) (b:aC),e=c::a/\f=.sl []::b/\c.toD=some (.sl [])/\Ow h k a b j)\/
  ∃(c:C) (qs:List (aD×aC×List Z2)) (a:aD) (b:aC) (d:List Z2),e=c::a/\f=.sl (qs.map (·.2.1))::b/\j=Z c++qs.flatMap (·.2.2)++d/\
  MR h g.length c (qs.map (·.1))/\(∀q∈qs,Ow h g q.1 q.2.1 q.2.2)/\Ow h k a b d:=by
 cases o with
 |emp n i=>exact .inl ⟨_,_,_,rfl,rfl,n,i⟩
 |row l m i=>exact .inr ⟨_,_,_,_,_,rfl,rfl,rfl,l,m,i⟩
def MY(h:HS)(l:Z2)(d:List Sh)(c:aC)(a:List Z2):Prop:=∃b,h.a l=some b/\Ow h d b c a/\(l::a).Nodup/\∀k∈l::a,k.1<h.p
def MY.frame{h h' l i d}{c g:List Z2}(o:MY h l i d c)(f:Z0 h h' g)(m:∀k∈l::c,k∉g):MY h' l i d c:=by
 have⟨j,hb,p,n,e⟩:=o;have a:=λk a=>f.2 k (e k a) (m k a);exact⟨j,by rwa [a l I],p.frame λk b=>a k (by simp[b]),n,λk b=>Y4 (e k b) f.1⟩
def Z0.mono{h b ls a}(s:Z0 h b ls)(d:∀k∈ls,k∈a):Z0 h b a:=⟨s.1,λk c f=>s.2 k c λe=>f (d k e)⟩
def Z0.drop{h b d a}(s:Z0 h b d)(e:∀k∈d,k∈a\/h.p<=k.1):Z0 h b a:=⟨s.1,λk c g=>s.2 k c λf=>(e k f).elim g λhe=>absurd c X⟩
def Z0.trans'{h e f c d}(a:Z0 h e c)(b:Z0 e f d)(j:∀k∈d,k∈c\/h.p<=k.1):Z0 h f c:=
 ⟨YE a.1 b.1,λk g i=>(b.2 k (by have:=a.1;omega) λl=>(j k l).elim i λhe=>absurd g X).trans (a.2 k g i)⟩
def Ow.qK{h}:∀{ds:aC},Ow h (ds.map λ_=>Sh.d) (ds.map C.d) ds []
 |[]=>.nil
 |_::_=>.data rfl Ow.qK
def SE(h:HS):Prop:=∀l a,h.a l=some a->l.1<h.p
def Z5.jE{P h f fn c vs K}(hf:P.funcs[f]?=some fn)(hb:fn.body=some c)(aa:(fn.name== "runtime.NumGoroutine")=false)(hg:SE h->Z5 P f vs h K):Z5 P f vs h K:=
 ⟨⟨fn,hf,aa,by rw[hb];rfl⟩,λΓ μ w vals hI hR=>(hg λl cs hl=>by have⟨b,n,_,_,h1,_⟩:=hI.a l cs hl;exact hI.lt l (by rw[h1];simp)).2 Γ μ w vals hI hR⟩
def Z0.jA{h a}(s:Z0 h a [])(g:SE h):ZG h a:=λl c b=>by rw[s.2 l (g l c b) I,b]
def Z72{a b:Nat}{e u v}(c:Zs a e=some u)(d:Zs b (e.drop a)=some v):Zs (a+b) e=some (u++v):=by unfold Zs at*;split at c;split at d;rename_i h3 f;simp only[Xm] at f;rw[if_pos X,List.take_add];simp only[Ya] at c d;rw[c,d];cases d;cases c
def Z9k{cs l}(h:∀i,i<l.length->cs[i]?=l[i]?):Zs l.length cs=some l:=by
 have b:l.length<=cs.length:=by
  by_cases h0:l.length=0;omega
  have:=h (l.length-1) X
  rw[Y1 (X:l.length-1<l.length)] at this
  have:=(Y0.1 this).1
  omega
 unfold Zs;rw[if_pos b]
 congr 1
 refine YU λi=>?_;by_cases a:i<l.length;rw[Y39 a,h i a];rw[Yq sO,Yq X]
def OO{n:Nat}{cs:aD}:∀{ts:List aC} {a:Nat},(∀t∈ts,t.length=n)->(∀i x,ts[i]?=some x->∀j d,x[j]?=some d->cs[a+(i*n+j)]?=some (.d d))->
  Zs (ts.length*n) (cs.drop a)=some (ts.map (·.map C.d)).flatten\/(ts.length*n=0/\ts.flatten=[])
 |[],a,_,_=>.inr (by simp)
 |t::ts,a,e,hc=>by
   have g:=e t I;refine .inl ?_;have k:Zs n (cs.drop a)=some (t.map C.d):=by
    have:=Z9k (cs:=cs.drop a) (l:=t.map C.d) (λi b=>by
     simp only[Yd] at b
     have:=hc 0 t I i t[i] (Y1 b)
     rw[YO,Y9,Y1 b];simpa using this)
    rwa [Yd,g] at this
   have p:=OO (ts:=ts) (λx c=>e x (by simp[c])) (λi x c j d o=>by
    have:=hc (i+1) x (sU c) j d o
    rw[show a+n+(i*n+j)=a+((i+1)*n+j) by rw[YP];omega];exact this)
   have m:Zs (ts.length*n) ((cs.drop a).drop n)=some (ts.map (·.map C.d)).flatten:=by
    rw[Xr];rcases p with h|⟨h,f⟩;exact h;rw[h]
    have:(ts.map (·.map C.d)).flatten=[]:=by rw[<-Y3i,f];rfl
    rw[this];simp[Zs]
   have:=Z72 k m
   rw[show(t::ts).length*n=n+ts.length*n by simp[YP];omega];simpa using this
def Frz.flat{h c x}(f:Frz h c x)(a:x.flat=true):c=.d x:=by
 cases f with
 |data h1=>
   cases c<;>simp[C.toD] at h1;rw[h1]
   all_goals (subst h1;simp[D.flat] at a)
 |mrow=>simp[D.flat] at a
def Frz.rowAt{h c b}{n:Nat}(f:Frz h c (.sl b))(p:∀t∈b,t.length=n/\∀d∈t,d.flat=true)(s:b.length<=Zz):Zr h n c (b.map (·.map C.d)):=by
 have k:Zy n (b.map (·.map C.d)):=by intro x m;obtain⟨t,a,rfl⟩:=Yi.1 m;simpa using(p t a).1
 have u:∀c,c.qE=some b->Zr h n c (b.map (·.map C.d)):=by
  intro c o;have a:=λx m=>(p x m).1;have y:b.flatten.map C.d=(b.map (·.map C.d)).flatten:=Y3i;cases c<;>simp[C.qE] at o
  all_goals exact⟨by simp only[Wz,C.qE,o];first|(rw[if_pos a,y])|(subst o;simp),by simp[Wd,C.qE,o],k,sU s⟩
 cases f with|data a=>?_|@mrow l off cap es xs cs g hb s hes o hf=>?_;refine u c ?_;cases c<;>simp[C.toD] at a;subst a;rfl;subst a;rfl;subst a;rfl;subst a;rfl;refine⟨?_,by simp[Wd],k,sU s⟩;simp only[Wz,hb];have a:=λt h=>(p t h).1
 have:=OO a (λi x m j d r=>by have q:=Y2 m;have e:=(hes x q).symm.trans (a x q);have v:=o i x m j d r;rw[e] at v;rw[v,(hf i x m j d r).flat ((p x q).2 d (Y2 r))])
 rcases this with h|⟨h,w⟩;exact h;rw[h]
 have:(b.map (·.map C.d)).flatten=[]:=by rw[<-Y3i,w];rfl
 rw[this];simp[Zs]
def Z0.mn{h h':HS}{ls l2:List Z2}(s:Z0 h h' ls)(H:∀k∈ls,k∈l2:=by simp):Z0 h h' l2:=s.mono H
def Gu{p:Prop}(H:p:=by
   refine Z5.jE F rfl (by kernel_rfl) λhg=>?_;refine Z5.ov F ?_;simp;refine Zcd EL hr (λh1=>?_) ?_;subst h1;simp;exact hk _ _ MR.nil .refl (by simp[Z]) (ZG.refl h);simp;refine Za9 (by simp) ?_;simp;refine Zcs EL (by kernel_rfl) (by decide) (by decide) hr (λc' h' hm hs hl=>?_);simp;exact hk _ _ hm hs hl (hs.jA hg)):p:=H
def Rf{n:Nat}{h:HS}{l:Z2}{b i j m o:Nat}{a:List aD}{K:V->HS->Prop}(e:Zy n a)(hlim:a.length<=Zz)(hij:i<=j)(hj:j<=a.length)
  (u:∀c' f,MR f n c' (a.take i++a.drop j)->(∀k,k∉Z (.mrow l 0 a.length b)->f.a k=h.a k)->f.p=h.p->f.arr=h.arr->Z c'=Z (.mrow l 0 a.length b)->K (.one c') f)(hm:i+(a.length-j)=m)
  {d vs:aD}{g:HS}(v:(Zb (a.take i++a.drop j) d).length=b*n)(w:o=m*n)(hv:o+vs.length<=b*n)(x:∀k,k≠l->g.a k=h.a k)(t:g.p=h.p)(s:g.arr=h.arr):
  K (.one (.mrow l 0 m b)) (g.xV l (Zi (Zb (a.take i++a.drop j) d) o vs)):=by
 have c:(a.take i++a.drop j).length=m:=sO;have q:Zy n (a.take i++a.drop j):=Zy.append.2 ⟨e.take,e.drop⟩;have p:=PN (sp:=d) (vs:=vs) q;rw[c,<-w] at p;rw[p];refine u _ _ ⟨q,by rw[c];omega,.inr ⟨l,b,Zi d 0 vs,by rw[c],I,?_⟩⟩ (λk r=>?_) t s rfl;rw[<-p,A6 X,v]
 have:k≠l:=by simpa[Z] using r
 simp[this,x k this]
def Zcl{n b i j:Nat}{h:HS}{l:Z2}{a:List aD}{e:aD}(f:a.length<=j)(g:h.a l=some (Zb a e))(c:(Zb a e).length=b*n):
  ∃d,h.a l=some (Zb (a.take i++a.drop j) d)/\(Zb (a.take i++a.drop j) d).length=b*n:=by
 refine⟨(a.drop i).flatten++e,?_,?_⟩;rw[g,YR f];simp[Zb,<-Yz,<-XN];rw[<-c,YR f];simp[Zb,<-Yz,<-XN]
def Zck{n d i j:Nat}{b:List aD}{g:aD}(a:Zy n b)(f:i<=b.length)(hij:i<=j)(hj:j<=b.length)(c:(Zb b g).length=d*n)(hc:b.length<=d):
  ∃e,Zi (Zb b g) (0+i*n) (b.drop j).flatten=Zb (b.take i++b.drop j) e/\(Zb (b.take i++b.drop j) e).length=d*n:=by
 refine⟨_,by rw[XI,IU a a.drop f],?_⟩;rw[<-IU a a.drop f,A6,c];rw[a.drop.flatten,<-YP,c,Xm];exact Xq n X
def Zc6{n cap i:Nat}{h:HS}{l:Z2}{b:List aD}{d:aD}(a:Zy n b)(c:h.a l=some (Zb b d))(hi:i<=b.length):VW h n (.mrow l 0 i cap)=some (i,cap,(b.take i).flatten,some (l,0)):=by
 have:=EK (off:=0) (k:=i) (cap:=cap) a c X
 simp only[Nat.zero_mul,XU] at this;simp only[VW,this]
def GQ{p:Prop}(H:p:=by
   obtain⟨hall,hlim,h1|⟨l,cap,sp,rfl,hb,hcap⟩⟩:=hm
   .obtain⟨rfl,hc⟩:=h1;obtain rfl:j=0:=by simpa using hj
    obtain rfl:i=0:=by omega
    refine Z5.ov F ?_;rcases hc with rfl|rfl<;>simp<;>exact hk _ _ (by first|(simpa using MR.nil)|(simpa using MR.z)) (λ_ _=>rfl) rfl rfl rfl
   .have hlen:xs.length<=cap:=by have h1:=V2 (sp:=sp) hall;omega
    have hi:i<=xs.length:=by omega
    refine Z5.ov F ?_;simp;refine V3 ⟨⟨hij,hj⟩,hlen⟩ (λ_=>?_) (λ_=>?_)
    all_goals
     simp;refine BJ (λhe=>?_) (λhne=>?_)
     .simp;obtain rfl:i=j:=by simp at he;omega
      refine hk _ _ ⟨?_,?_,.inr ⟨l,cap,sp,?_,?_,?_⟩⟩ (λ_ _=>rfl) rfl rfl rfl<;>simp[*]
     .simp;have hlt:i<j:=by
       have:(i:Int)≠j:=by simpa using hne
       omega
      have hjc:j<=cap:=by omega
      have hic:i<=cap:=by omega
      have hc0:0<cap:=by omega
      refine Z6.of (Wy.draw (Y.qB aN .done) follows (by kernel_rfl) ?_);simp[hjc,hic,hlen,hj,hc0];have happ:=Zc6 (cap:=cap) hall hb hi;have hxt:(xs.drop j).take (xs.length-j)=xs.drop j:=YD (by simp);generalize hm:i+(xs.length-j)=m at*;have hm3:m<xs.length:=by omega
      have hm2:m<=xs.length:=by omega
      have hm4:m<cap:=by omega
      by_cases hjc2:j<cap
      all_goals
       simp[hjc2]
       first
       |refine Dt EL happ (by have:=EK (off:=j) (k:=xs.length-j) (cap:=cap-j) hall hb (by omega);rw[hxt] at this;first|exact this|simpa using this) (m:=xs.length-j) rfl (by simp) (by decide) (by decide) (by simp at hlim|-;omega) ?_ ?_ (λh0=>?_) (λh0 _=>?_) (λ_ _=>by omega)
       |refine Dt EL happ (new:=[]) (m:=0) (by simp[Wz]) rfl (by simp) (by decide) (by decide) (by simp at hlim|-;omega) rfl ?_ (λh0=>?_) (λh0=>absurd h0 (by omega)) (λh0=>absurd h0 (by omega))
       all_goals first
       |(rw[hall.drop.flatten];simp;done)
       |(rw[hall.take.flatten];simp;omega)
       | (obtain⟨sp1,hb2,hl2⟩:=Zcl (i:=i) (j:=j) (by omega) hb hcap
          obtain rfl:i=m:=by omega
          simp[hjc2,hlen,hm2,hm3,hm4];refine KG EL ZE hb2 (by decide) (by rw[hl2];omega) ?_;simp;exact Rf hall hlim hij hj hk hm hl2 (by simp) (by simp;omega) (λ_ _=>rfl) rfl rfl)
       | (rintro l' off he'
          simp only[Ya,YG] at he';obtain⟨rfl,rfl⟩:=he';obtain⟨sp1,e1,hl2⟩:=Zck hall hi hij hj hcap hlen;refine⟨_,hb,by rw[hcap];omega,?_⟩;rw[e1,hm];simp[hjc2,hlen,hm2,hm3,hm4];refine KG EL ZE (by simp;rfl) (by decide) (by rw[hl2];omega) ?_;simp;exact Rf hall hlim hij hj hk hm hl2 (by simp) (by simp;omega) (λk hk=>by simp[hk]) rfl rfl)):p:=H
def Sk:aC->AV
 |[d]=>.one (.d d)
 |ds=>.agg ds
def Jo(n:Nat)(h:HS)(l:Z2)(a:Nat)(b:List aD)(c:aD):Prop:=Zy n b/\h.a l=some (Zb b c)/\(Zb b c).length=a*n
def Z71{n:Nat}{x:aD}(h:x.length=n):Zs n x=some x:=by subst h;simp[Zs]
def Z2r{b a:aD}(h:b.length<=a.length):Zi b 0 a=a:=by simp[Zi,YR h]
def Zab{n b a o:Nat}{h m:HS}{l:Z2}{xs c:List aD}{ts:List aC}{p:aC->Bool}{sp vs:aD}{K:V->HS->Prop}(d:Zy n xs)(hlim:xs.length<=Zz)(i:Zy n c)(f:c.take a=keep p xs ts)(ha:a<=c.length)
  (s:(Zb c sp).length=b*n)(u:Z0 h m [l])(t:o=a*n)(hv:o+vs.length<=b*n)
  (r:∀c' g,MR g n c' (keep p xs ts)->Z0 h g (Z (.mrow l 0 xs.length b))->Z c'=Z (.mrow l 0 xs.length b)->K (.one c') g):K (.one (.mrow l 0 a b)) (m.xV l (Zi (Zb c sp) o vs)):=by
 have j:(c.take a).length=a:=sO;have q:Zb c sp=Zb (c.take a) ((c.drop a).flatten++sp):=by simp only[Zb,<-Yz,<-XN,Yy]
 have e:=PN (sp:=(c.drop a).flatten++sp) (vs:=vs) (i.take (k:=a));rw[j,<-q,f,<-t] at e;rw[e];refine r _ _ ⟨d.keep,?_,.inr ⟨l,b,_,by rw[<-f,j],Kw.trans (if_pos rfl),?_⟩⟩ (u.xV (l:=l) (.inl I)) rfl
 have:=R1 (p:=p) (xs:=xs) (ts:=ts);omega
 rw[<-e,A6 X,s]
def II{q:Prop}(H:q:=by
   refine Z5.ov F ?_;simp;refine Zc (Z5.qD hidx ⟨.one (.frz (hm.frz hl ht (hf h .refl))),.one hcf,trivial⟩ rfl ?_);simp;refine BJ (λhe=>?_) (λhne=>?_)
   .simp;have hall:∀t∈ts,p t=false:=by
     intro t htm;cases hfi:ts.findIdx? p with
     |none=>simpa using List.findIdx?_eq_none_iff.1 hfi t htm
     |some i=>rw[hi0,hfi] at he;simp at he
    exact hk _ _ (by rw[Ly hl hall];exact hm.frame λ_ _=>rfl) (Z0.refl.w) rfl
   .obtain⟨i,hfi,rfl⟩:∃i,ts.findIdx? p=some i/\i0=(i:Int):=by
     cases hfi:ts.findIdx? p with
     |none=>rw[hi0,hfi] at hne;simp at hne
     |some i=>rw[hfi] at hi0;exact⟨i,rfl,hi0⟩
    obtain⟨hit,hpi,hbef⟩:=List.findIdx?_eq_some_iff_getElem.1 hfi;obtain⟨l,cap,sp,rfl,hb,hcap⟩:=hm.block (by omega);have hlim:xs.length<=2097152:=hm.2.1;have hall:=hm.1;have hlen:xs.length<=cap:=by have h1:=V2 (sp:=sp) hall;omega
    have hw0:IntKind.i64.wrap ((i:Int)+1)=(i:Int)+1:=Y6 _ (by omega);have hk0:keep p (xs.take (i+1)) (ts.take (i+1))=xs.take i:=by
     rw[KT (x:=xs[i]'(by omega)) (t:=ts[i]) (Y1 _) (Y1 _),if_pos hpi];refine Ly (by simp;omega) (λt htm=>?_);obtain⟨j,hj,rfl⟩:=Yo htm;simp only[YA] at hj;rw[XX];simpa using hbef j (by omega)
    simp[hw0];refine Z6.rounds (λn e h'=>∃(a j:Nat) (ys:List aD),n=xs.length-j/\a<j/\j<=xs.length/\ys.length=xs.length/\ys.take a=keep p (xs.take j) (ts.take j)/\ys.drop j=xs.drop j/\
     e.n=42/\e.get 0=.one (.mrow l 0 xs.length cap)/\e.get 1=.one (.fn g caps)/\e.get 5=.i (a:Int)/\e.get 6=.i (j:Int)/\Z0 h h' [l]/\∃sp',B h' l cap ys sp') (xs.length-(i+1))
     ⟨i,i+1,xs,rfl,by omega,by omega,rfl,by rw[hk0],rfl,by simp,by simp,by simp,by simp,by simp,Z0.refl.w,sp,by rw[hB];exact⟨hall,hb,hcap⟩⟩ ?_
    rintro n e h' ⟨a,j,ys,rfl,haj,hj,hyl,hyk,hyd,hn,h0,h1,h5,h6,hs,sp',hbb⟩;rw[hB] at hbb;obtain⟨hya,hb',hl'⟩:=hbb;simp[h0,h1,h5,h6,hn];refine Vy (λhlt=>?_) (λhge=>?_)
    .have hwj:IntKind.i64.wrap ((j:Int)+1)=(j:Int)+1:=Y6 _ (by omega);have hwa:IntKind.i64.wrap ((a:Int)+1)=(a:Int)+1:=Y6 _ (by omega);have hjt:j<ts.length:=by omega
     obtain⟨x,hxj⟩:∃x,xs[j]?=some x:=⟨_,Y1 hlt⟩;have hxl:=hall.get hxj
     first|(obtain⟨x0,hx0⟩:=List.length_eq_one_iff.1 hxl)|(have hx0:True:=trivial)
     have hT:=Z71 hxl;have hsc:∀z:aD,z.length<=x.length->Zi z 0 x=x:=λ_=>Z2r;have hxn:x≠[]:=by rintro rfl;simp at hxl
     obtain⟨tj,htj⟩:∃t,ts[j]?=some t:=⟨_,Y1 hjt⟩;have hyj:ys[j]?=some x:=by
      have h1:(ys.drop j)[0]?=(xs.drop j)[0]?:=by rw[hyd]
      simpa[hxj] using h1
     have hrd:=IV (sp:=sp') hya hyj
     try simp only[Y08] at hrd
     have hkt:=KT (p:=p) hxj htj;have hne':l≠(h'.p,112):=by have h1:=hlab l (by simp[Z]);have h2:=hs.1;rintro rfl;simp at h1;omega
     simp[h0,h1,h5,h6,hn,hlt,hb',hrd,hT,hxn,hxl,hsc]
     try simp only[hx0]
     try simp[h0,h1,h5,h6,hn]
     have hs2:∀z,Z0 h ((h'.xV (h'.p,112) z).w.xV (h'.p,112) x) [l]:=λz=>Z0.xV (Z0.xV hs (.inr hs.1)).w (.inr hs.1)
     first
     |refine Zc (Z5.qD (hp tj (Y2 htj)) ⟨.agg (hf _ (hs2 _) j _ _ hxj htj),hcv _ (hs2 _)⟩ rfl ?_)
     | (obtain⟨d,hd⟩:=List.length_eq_one_iff.1 (ht tj (Y2 htj))
        refine Zc (Z5.qD (hp tj (Y2 htj)) ⟨(by rw[hd];exact .one (.frz (by have h9:=hf _ hs j _ _ hxj htj;rw[hx0,hd] at h9;exact h9.1))),hcv _ hs⟩ rfl ?_))
     simp[h0,h1,h5,h6,hn];cases hpt:p tj with
     |true=>
       rw[hpt,if_pos rfl] at hkt;simp[h0,h1,h5,h6,hn,hwj];refine AQ.of (n':=xs.length-(j+1)) (by omega) ⟨a,j+1,ys,rfl,by omega,by omega,hyl,by rw[hkt,hyk],by rw[<-Xr,hyd,Xr],by simp[hn],by simp[h0],by simp[h1],by simp[h5],by simp,by first|exact(hs2 _).w|exact hs.w,sp',by rw[hB];exact⟨hya,by simp[hne',hb'],hl'⟩⟩
     |false=>
       rw[hpt] at hkt;simp only[YX,if_false] at hkt;have haj2:a<xs.length:=by omega
       have hst:=BK (sp:=sp') (k:=a) (f:=0) (vs:=x) (x:=ys[a]'(by omega)) hya (Y1 _) (by omega);have hlen2:=Ah (sp:=sp') (k:=a) hya (by omega);have hxa:=hya.get (k:=a) (Y1 (by omega));rw[hsc _ (by omega)] at hst;simp only[Xl] at hst
       try simp only[Y08] at hst hlen2
       simp[h0,h1,h5,h6,hn,hwj,haj2,hne',hb',hwa,hxl,hT,hxn,hsc]
       try refine⟨hlen2,?_⟩
       refine AQ.of (n':=xs.length-(j+1)) (by omega) ⟨a+1,j+1,ys.set a x,rfl,by omega,by omega,by simpa using hyl,?_,?_,by simp[hn],by simp[h0],by simp[h1],by simp,by simp,by first|exact((hs2 _).w).xV (.inl (by simp))|exact hs.w.xV (.inl (by simp)),sp',?_⟩
       .rw[hkt,<-hyk,Z26 (by omega)]
       .rw[List.drop_set_of_lt (by omega),<-Xr,hyd,Xr]
       .rw[hB];exact⟨hya.set hxl,by first|(simp[hst];done)|(simp;rw[<-hx0];exact hst),by rw[V2 (hya.set hxl),Xf,<-V2 (sp:=sp') hya,hl']⟩
    .obtain rfl:j=xs.length:=by omega
     have hyk2:ys.take a=keep p xs ts:=by rw[hyk,YD (Y7 _),YD (by omega)]
     have hac:a<cap:=by omega
     have hale:a<=xs.length:=by omega
     simp[h0,h1,h5,h6,hn];refine V3 ⟨hale,hlen⟩ (λ_=>?_) (λh=>absurd hac h);simp[h0,h1,h5,h6,hn];refine KG EL ZE hb' (by decide) (by rw[hl'];omega) ?_;simp[h0,h1,h5,h6,hn,hlen,hac];refine V3 (by omega) (λ_=>?_) (λh=>absurd (by omega) h);simp[hn];exact Zab hall hlim hya hyk2 (by omega) hl' hs (by simp) (by simp;omega) hk):q:=H
def Eo(h:HS)(c:C)(a:List aD)(hr:Zr h 1 c a)(K:V->HS->Prop)
  (hk:∀c' h',MR h' 1 c' a->Z0 h h' []->(∀l∈Z c',h.p<=l.1/\l.1<h'.p)->ZG h h'->K (.one c') h'):
  Z5 prog 85 [.one c] h K:=by
 have F:=func85;have EL:=@Zpr;exact Gu
def TQ(h:HS)(c:C)(a:List aD)(hr:Zr h 3 c a)(K:V->HS->Prop)
  (hk:∀c' h',MR h' 3 c' a->Z0 h h' []->(∀l∈Z c',h.p<=l.1/\l.1<h'.p)->ZG h h'->K (.one c') h'):
  Z5 prog 108 [.one c] h K:=by
 have F:=func108;have EL:=@Zpu;exact Gu
def T8(h:HS)(c:C)(a:List aD)(hr:Zr h 7 c a)(K:V->HS->Prop)
  (hk:∀c' h',MR h' 7 c' a->Z0 h h' []->(∀l∈Z c',h.p<=l.1/\l.1<h'.p)->ZG h h'->K (.one c') h'):
  Z5 prog 83 [.one c] h K:=by
 have F:=func83;have EL:=@Dv;exact Gu
def SQ(h:HS)(c:C)(xs:List aD)(ts:List aC)(g:FuncId)(caps:List Cap)(o:List aC)(p:aC->Bool)(i0:Int)(hm:MR h 7 c xs)(hlab:∀k∈Z c,k.1<h.p)(hl:xs.length=ts.length)
  (ht:∀t∈ts,t.length=7)(hf:∀h',Z0 h h' (Z c)->∀(i:Nat) (x:aD) (t:aC),xs[i]?=some x->ts[i]?=some t->ZI h' x t)
  (hcv:∀h',Z0 h h' (Z c)->Uy h' (caps.map Vf) (Wu o))(hcf:LendC h (.fn g caps) (.fn g o))
  (hp:∀t∈ts,Zq prog g (.agg t::Wu o) (.b (p t)))
  (hidx:Zq prog 220 [.l ts,.one (.fn g o)] (.i i0))(hi0:i0=match ts.findIdx? p with|some i=>(i:Int)|none=>-1)(K:V->HS->Prop)
  (hk:∀c' h',MR h' 7 c' (keep p xs ts)->Z0 h h' (Z c)->Z c'=Z c->K (.one c') h'):
  Z5 prog 195 [.one c,.one (.fn g caps)] h K:=by
 have F:=func195;have EL:=@Dv;have ZE:=@Zqd;obtain⟨B,hB⟩:∃B,B=Jo 7:=⟨_,rfl⟩;exact II
def SP(h:HS)(c:C)(xs:List aD)(ts:List aC)(g:FuncId)(caps:List Cap)(o:List aC)(p:aC->Bool)(i0:Int)(hm:MR h 3 c xs)(hlab:∀k∈Z c,k.1<h.p)(hl:xs.length=ts.length)
  (ht:∀t∈ts,t.length=3)(hf:∀h',Z0 h h' (Z c)->∀(i:Nat) (x:aD) (t:aC),xs[i]?=some x->ts[i]?=some t->ZI h' x t)
  (hcv:∀h',Z0 h h' (Z c)->Uy h' (caps.map Vf) (Wu o))(hcf:LendC h (.fn g caps) (.fn g o))
  (hp:∀t∈ts,Zq prog g (.agg t::Wu o) (.b (p t)))
  (hidx:Zq prog 88 [.l ts,.one (.fn g o)] (.i i0))(hi0:i0=match ts.findIdx? p with|some i=>(i:Int)|none=>-1)(K:V->HS->Prop)
  (hk:∀c' h',MR h' 3 c' (keep p xs ts)->Z0 h h' (Z c)->Z c'=Z c->K (.one c') h'):
  Z5 prog 193 [.one c,.one (.fn g caps)] h K:=by
 have F:=func193;have EL:=@GH;have ZE:=@Zqc;obtain⟨B,hB⟩:∃B,B=Jo 3:=⟨_,rfl⟩;exact II
def T7(h:HS)(c:C)(xs:List aD)(ts:List aC)(g:FuncId)(caps:List Cap)(o:List aC)(p:aC->Bool)(i0:Int)(hm:MR h 3 c xs)(hlab:∀k∈Z c,k.1<h.p)(hl:xs.length=ts.length)
  (ht:∀t∈ts,t.length=3)(hf:∀h',Z0 h h' (Z c)->∀(i:Nat) (x:aD) (t:aC),xs[i]?=some x->ts[i]?=some t->ZI h' x t)
  (hcv:∀h',Z0 h h' (Z c)->Uy h' (caps.map Vf) (Wu o))(hcf:LendC h (.fn g caps) (.fn g o))
  (hp:∀t∈ts,Zq prog g (.agg t::Wu o) (.b (p t)))
  (hidx:Zq prog 61 [.l ts,.one (.fn g o)] (.i i0))(hi0:i0=match ts.findIdx? p with|some i=>(i:Int)|none=>-1)(K:V->HS->Prop)
  (hk:∀c' h',MR h' 3 c' (keep p xs ts)->Z0 h h' (Z c)->Z c'=Z c->K (.one c') h'):
  Z5 prog 191 [.one c,.one (.fn g caps)] h K:=by
 have F:=func191;have EL:=@GJ;have ZE:=@Zqf;obtain⟨B,hB⟩:∃B,B=Jo 3:=⟨_,rfl⟩;exact II
def T3(h:HS)(c:C)(xs:List aD)(i j:Nat)(hm:MR h 7 c xs)(hij:i<=j)(hj:j<=xs.length)(K:V->HS->Prop)
  (hk:∀c' b,MR b 7 c' (xs.take i++xs.drop j)->(∀l,l∉Z c->b.a l=h.a l)->b.p=h.p->b.arr=h.arr->Z c'=Z c->K (.one c') b):
  Z5 prog 148 [.one c,.i i,.i j] h K:=by
 have F:=func148;have EL:=@Dv;have ZE:=@Zqd;exact GQ
def N6(h:HS)(c:C)(xs:List aD)(i j:Nat)(hm:MR h 3 c xs)(hij:i<=j)(hj:j<=xs.length)(K:V->HS->Prop)
  (hk:∀c' b,MR b 3 c' (xs.take i++xs.drop j)->(∀l,l∉Z c->b.a l=h.a l)->b.p=h.p->b.arr=h.arr->Z c'=Z c->K (.one c') b):
  Z5 prog 150 [.one c,.i i,.i j] h K:=by
 have F:=func150;have EL:=@GH;have ZE:=@Zqc;exact GQ
def Ni(h:HS)(c:C)(xs:List aD)(i j:Nat)(hm:MR h 3 c xs)(hij:i<=j)(hj:j<=xs.length)(K:V->HS->Prop)
  (hk:∀c' b,MR b 3 c' (xs.take i++xs.drop j)->(∀l,l∉Z c->b.a l=h.a l)->b.p=h.p->b.arr=h.arr->Z c'=Z c->K (.one c') b):
  Z5 prog 152 [.one c,.i i,.i j] h K:=by
 have F:=func152;have EL:=@GJ;have ZE:=@Zqf;exact GQ
def Uv{α:Type}(a:α->α->Bool):Nat->List α->List α
 |0,ws=>ws
 |j+1,ws=>match ws[j+1]?,ws[j]? with
   |some x,some y=>if a x y then Uv a j ((ws.set (j+1) y).set j x) else ws
   |_,_=>ws
def WG{α:Type}(a:α->α->Bool):Nat->Nat->List α->List α
 |0,_,ws=>ws
 |k+1,i,ws=>WG a k (i+1) (Uv a i ws)
def KK{α:Type}:∀{c:List α} {j:Nat} {x y:α},c[j+1]?=some x->c[j]?=some y->((c.set (j+1) y).set j x).Perm c
 |[],_,_,_,h,_=>by simp at h
 |[_],j,_,_,h,_=>by simp at h
 |a::b::c,0,x,y,h,h2=>by
   simp at h h2;subst h h2;simp[List.set];exact .swap _ _ _
 |a::c,j+1,x,y,h,h2=>by simp only[List.set_cons_succ];exact .cons _ (KK (by simpa using h) (by simpa using h2))
def Og{α:Type}(b:α->α->Bool):∀j a,(Uv b j a).Perm a
 |0,a=>.refl _
 |j+1,a=>by unfold Uv;split;rename_i x y c d;split;exact(Og b j _).trans (KK c d);exact .refl _;exact .refl _
def Oz{n k:Nat}{a sp v}(h:Zy n a)(c:k<a.length)(g:v.length=n):Zi (Zb a sp) (k*n) v=Zb (a.set k v) sp:=by
 have b:=BK (sp:=sp) (f:=0) (vs:=v) h (Y1 c) X;have d:=h.get (Y1 c);have e:Zi a[k] 0 v=v:=by rw[Zi];simp[d,g]
 rw[e] at b;simpa using b
def AL(a:aC->aC->Int)(x y:aD×aC):Bool:=decide (a x.2 y.2<0)
def TS(h c qs g m)(bi:List aC)(d:aC->aC->Int)(hm:MR h 3 c (qs.map (·.1)))(hlab:∀k∈Z c,k.1<h.p)
  (hf:∀o,Z0 h o (Z c)->∀q∈qs,ZI o q.1 q.2)(hcv:∀o,Z0 h o (Z c)->Uy o (m.map Vf) (Wu bi))
  (hp:∀q∈qs,∀q'∈qs,Zq prog g (.agg q.2::.agg q'.2::Wu bi) (.i (d q.2 q'.2)))(K)
  (hk:∀o,MR o 3 c ((WG (AL d) (qs.length-1) 1 qs).map (·.1))->Z0 h o (Z c)->K (.tup []) o):
  Z5 prog 234 [.one c,.i 0,.i (qs.length:Int),.one (.fn g m)] h K:=by
 refine Z5.qM func234 rfl kR rfl rfl I ?_;simp;have hlim:=sU hm.2.1;refine Z6.rounds (λn e o=>∃(i:Nat) (w:List (aD×aC)),n=qs.length-i/\1<=i/\w.Perm qs/\WG (AL d) (qs.length-i) i w=WG (AL d) (qs.length-1) 1 qs/\
  e.n=53/\e.get 0=.one c/\e.get 1=.i 0/\e.get 2=.i qs.length/\e.get 3=.one (.fn g m)/\e.get 8=.i i/\Z0 h o (Z c)/\MR o 3 c (w.map (·.1))) (qs.length-1)
  ⟨1,qs,rfl,X,.refl _,rfl,I,I,I,I,I,by simp;exact(Y6 _ X),Z0.refl,hm⟩ ?_
 rintro n e o ⟨i,w,rfl,b2,ao,M,v,O,P,J,Q,L,s,t⟩;simp[J,L,v];refine Vy (λhlt=>?_) (λhge=>?_);simp[J,L,v];refine Z6.rounds (λn e o=>∃(j:Nat) (p:List (aD×aC)),n=j/\j<=i/\p.Perm qs/\Uv (AL d) j p=Uv (AL d) i w/\
  e.n=53/\e.get 0=.one c/\e.get 1=.i 0/\e.get 2=.i qs.length/\e.get 3=.one (.fn g m)/\e.get 8=.i i/\e.get 9=.i j/\Z0 h o (Z c)/\MR o 3 c (p.map (·.1))) i
  ⟨i,w,rfl,X,ao,rfl,by simp[v],by simp[O],by simp[P],by simp[J],by simp[Q],by simp[L],I,s,t⟩ ?_
 clear O P J Q L v t s;rintro j e o ⟨_,p,rfl,b3,H,aq,v,O,P,J,Q,L,h9,s,t⟩;have hD:=s.w;cases j with|zero=>?_|succ j=>?_;refine Z6.cu aF (λf G=>G=o/\f.n=53/\f.get 0=.one c/\f.get 1=.i 0/\f.get 2=.i qs.length/\f.get 3=.one (.fn g m)/\f.get 8=.i i/\f.get 34=.b false) ?_ ?_;simp[*];exact⟨λ_ x y=>y,Ze.of (by simp[*])⟩;rintro f G ⟨rfl,E,N,U,V,W,au,bm⟩;simp[*];refine AQ.of (n':=qs.length-(i+1)) X ⟨i+1,p,rfl,X,H,?_,by simp[E],by simp[N],by simp[U],by simp[V],by simp[W],?_,s,t⟩;rw[<-M];have f:qs.length-i=(qs.length-(i+1))+1:=X
 rw[f,WG,<-aq,Uv]
 have:=Y6 (i+1) X
 simp[this];have a1:=H.length_eq;have b0:=t.2.1;have a:=t.1;have⟨l,z,sp,hc,hb,R⟩:=t.block sO;simp only[Yd,a1] at hc;subst hc;have F:p[j+1]?=some p[j+1]:=Y1 X;have r:p[j]?=some p[j]:=Y1 X;generalize p[j+1]=q1 at F;generalize p[j]=q0 at r;have aw:=H.mem_iff.1 (Y2 F);have a8:=H.mem_iff.1 (Y2 r);have⟨T,t1⟩:=q1;have⟨S,t0⟩:=q0;have ay:(p.map (·.1))[j+1]?=some T:=by simp[F]
 have bn:(p.map (·.1))[j]?=some S:=by simp[r]
 have Y:=a.get ay;have B:=a.get bn;have bh:=IV (sp:=sp) a ay;have bc:=IV (sp:=sp) a bn;have A:IntKind.i64.wrap (j:Int)=(j:Int):=Y6 _ X;have ax:j+1<qs.length:=X
 have bk:j<qs.length:=X;have hz:0<=(j:Int)+1:=X;refine Z6.cu aF (λf G=>Z0 h G [l]/\G.a l=o.a l/\f.n=53/\f.get 0=.one (.mrow l 0 qs.length z)/\f.get 1=.i 0/\f.get 2=.i qs.length/\f.get 3=.one (.fn g m)/\f.get 8=.i i/\f.get 9=.i ((j+1:Nat):Int)/\f.get 34=.b (decide (d t1 t0<0))) ?_ ?_;simp[O,P,Q,h9,v,hz,ax,bk,A,hb,bh,bc];refine Zc (Z5.qD (hp _ aw _ a8) ⟨.agg (hf _ s _ aw),.agg (hf _ s _ a8),hcv _ s⟩ rfl ?_);simp[v];have bt:Z0 h o.w [l]:=s.w;exact⟨λ_ _ x=>x,Ze.of (by simp[O,P,J,Q,L,h9,v,bt])⟩;rintro f G ⟨bb,ar,E,N,U,V,W,au,az,bm⟩;rw[hb] at ar;simp[bm];have ba:d t1 t0<0->Uv (AL d) j ((p.set (j+1) (S,t0)).set j (T,t1))=Uv (AL d) i w:=λhx=>by rw[<-aq];simp[Uv,F,r,AL,hx]
 have bf:¬d t1 t0<0->p=Uv (AL d) i w:=λhx=>by rw[<-aq];simp[Uv,F,r,AL,hx]
 refine Vy (λbj=>?_) (λa7=>?_);simp;refine Z6.cu aP (λu ap=>Z0 h ap [l]/\u.n=53/\u.get 0=.one (.mrow l 0 qs.length z)/\u.get 1=.i 0/\u.get 2=.i qs.length/\u.get 3=.one (.fn g m)/\u.get 8=.i i/\u.get 9=.i ((j+1:Nat):Int)/\ap.a l=some (Zb (((p.set (j+1) (S,t0)).set j (T,t1)).map (·.1)) sp)) ?_ ?_;simp[N,az,E,hz,ax,bk,A,ar,bh,bc];rw[Oz a sO B,Oz (a.set B) sO Y];refine⟨⟨B,Ah a sO⟩,⟨Y,Ah (a.set B) sO⟩,Ze.of ?_⟩;simp[N,U,V,W,au,az,E];exact(bb.xV (.inl I)).xV (.inl I);rintro u ap ⟨hs2,bg,bw,bu,bq,bv,b1,br,hb2⟩;simp[br,bg,A];have bz:=KK F r;have bd:=bz.trans H;refine AQ.of (n':=j) X ⟨j,_,rfl,X,bd,ba bj,by simp[bg],by simp[bw],by simp[bu],by simp[bq],by simp[bv],by simp[b1],I,hs2,?_⟩;have f:((p.set (j+1) (S,t0)).set j (T,t1)).map (·.1)=((p.map (·.1)).set (j+1) S).set j T:=by simp[YJ]
 refine⟨by rw[f];exact(a.set B).set Y,sU b0,.inr ⟨l,z,sp,by simp[a1],hb2,?_⟩⟩;rw[f,V2 ((a.set B).set Y),Xf,Xf,<-V2 a,R];have bp:=bf a7;simp[au,E];refine AQ.of (n':=qs.length-(i+1)) X ⟨i+1,p,rfl,X,H,?_,by simp[E],by simp[N],by simp[U],by simp[V],by simp[W],?_,bb,t.frame (by intro k hk;simp[Z] at hk;subst hk;rw[ar,hb])⟩;rw[<-M];have f:qs.length-i=(qs.length-(i+1))+1:=X
 rw[f,WG,<-bp]
 have:=Y6 (i+1) X
 simp[this];simp
 have:qs.length-i=0:=X
 rw[this] at M;simp only[WG] at M;exact hk _ (by rwa [<-M]) s
def Fb(a:aC->aC->Int)(qs:List (aD×aC)):List (aD×aC):=WG (AL a) (qs.length-1) 1 qs
def TL(h c qs g a f)(d:aC->aC->Int)(C:MR h 3 c (qs.map (·.1)))(p:∀k∈Z c,k.1<h.p)(hq:qs.length<20)
  (A:∀b,Z0 h b (Z c)->∀q∈qs,ZI b q.1 q.2)(s:∀b,Z0 h b (Z c)->Uy b (a.map Vf) (Wu f))
  (E:∀q∈qs,∀q'∈qs,Zq prog g (.agg q.2::.agg q'.2::Wu f) (.i (d q.2 q'.2)))(K)
  (B:∀b,MR b 3 c ((Fb d qs).map (·.1))->Z0 h b (Z c)->K (.tup []) b):
  Z5 prog 219 [.one c,.i (qs.length:Int),.one (.fn g a)] h K:=by
 refine Z5.qM func219 rfl kR rfl rfl I ?_;simp;refine Z6.rounds (λ_ e b=>b=h/\e.n=63/\e.get 0=.one c/\e.get 1=.i qs.length/\e.get 2=.one (.fn g a)/\e.get 6=.i 20/\e.get 7=.i 0/\e.get 8=.i 20) 0
  ⟨rfl,I,I,I,I,I,I,I⟩ ?_
 rintro n e b ⟨rfl,m,u,j,v,o,w,r⟩;simp[j,r,m];refine Vy (λl=>absurd l X) (λ_=>?_);simp[u,j,v,w,r,m];refine Zc (TS b c qs g a f d C p A s E _ (λz x y=>?_));simp;refine Z6.rounds (λ_ e t=>t=z/\e.n=63/\e.get 1=.i qs.length/\e.get 6=.i 20) 0
  ⟨rfl,by simp[m],by simp[j],by simp[o]⟩ ?_
 clear m u j v o w r;rintro n e t ⟨rfl,m,j,o⟩;simp[j,o,m];refine Vy (λl=>absurd l X) (λ_=>?_);simp[j,o];exact B _ x y
def TE(h c qs g b f d)(u:MR h 3 c (qs.map (·.1)))(o:∀k∈Z c,k.1<h.p)(A:qs.length<20)
  (x:∀a,Z0 h a (Z c)->∀q∈qs,ZI a q.1 q.2)(s:∀a,Z0 h a (Z c)->Uy a (b.map Vf) (Wu f))
  (z:∀q∈qs,∀q'∈qs,Zq prog g (.agg q.2::.agg q'.2::Wu f) (.i (d q.2 q'.2)))(K)
  (r:∀a,MR a 3 c ((Fb d qs).map (·.1))->Z0 h a (Z c)->K (.tup []) a):
  Z5 prog 186 [.one c,.one (.fn g b)] h K:=by
 refine Z5.qM func186 rfl kR rfl rfl I ?_;simp;have e:∀(n:Int) (p:V->HS->Prop),n=(qs.length:Int)->(∀a,MR a 3 c ((Fb d qs).map (·.1))->Z0 h a (Z c)->p (.tup []) a)->Z5 prog 219 [.one c,.i n,.one (.fn g b)] h p:=
  λn p y t=>by subst y;exact TL h c qs g b f d u o A x s z p t
 rcases u.2.2 with⟨v,rfl|rfl⟩|⟨l,cap,sp,rfl,_,_⟩;have w:qs.length=0:=sU (congrArg List.length v);simp;refine Zc (e _ _ X (λa m j=>?_));simp;exact r _ m j;have w:qs.length=0:=sU (congrArg List.length v);simp;refine Zc (e _ _ X (λa m j=>?_));simp;exact r _ m j;simp only[Yd] at e u r|-;simp;refine Zc (e _ _ rfl (λa m j=>?_));simp;exact r _ m j
def WI:List Sh:=[.d,.r [.d,.d,.d],.r [.d]]
def VB:List Sh:=[.d,.r [.d],.d]
def Ow.rW{h:HS}{n:Nat}{c:C}{ts:List aC}{es g:List Sh}{b:aD}{ds:aC}{f:List Z2}(k:MR h n c (ts.map (·.map C.d)))(i:es=List.replicate n .d)(o:∀t∈ts,t.length=n)(m:Ow h g b ds f):Ow h (.r es::g) (c::b) (.sl ts::ds) (Z c++f):=by
 subst i
 have:=Ow.row (es:=List.replicate n .d) (c:=c) (qs:=ts.map λt=>(t.map C.d,t,[])) (by simpa[Function.comp_def] using k) (λq l=>by
  obtain⟨t,j,rfl⟩:=Yi.1 l
  have:=Ow.qK (h:=h) (ds:=t)
  simp only[List.map_const',o t j] at this;exact this) m
 have e:∀a:List aC,a.flatMap (λ_=>([]:List Z2))=[]:=λa=>by induction a<;>simp_all
 simpa[Function.comp_def,List.flatMap_map,e] using this
def Vx{c:C}:(Z c).Nodup:=by cases c<;>simp[Z]
def Sn(h:HS)(c:List Sh)(b:aC)(K:V->HS->Prop):Prop:=∀cs' h' a,Ow h' c cs' b a->a.Nodup->(∀k∈a,h.p<=k.1/\k.1<h'.p)->Z0 h h' []->ZG h h'->K (.agg cs') h'
def K4(h:HS)(F:aD)(T:E)(H:∀j,Z0 h j []->ZI j F T.z)(P:T.j.length<=Zz/\T.pk.length<=Zz)(K:V->HS->Prop)
  (hk:Sn h WI T.z K):
  Z5 prog 84 [.agg F] h K:=by
 refine Z5.jE func84 rfl kR λhg=>?_;refine Z5.ov func84 ?_;have A:=H h .refl
 match F,A with
 |[c0,c1,c2],A=>
 obtain rfl:=A.1.flat rfl;simp;refine Z6.cu [0,1,2,3,5,6,4,7,8,9] (λe j=>∃f i,e.n=12/\e.get 2=.p (h.p+1,32)/\j.a (h.p+1,32)=some f/\Ow j WI f T.z i/\i.Nodup/\(∀k∈i,h.p<=k.1/\k.1<j.p)/\Z0 h j []) ?_ ?_;simp;have M:Z0 h ((h.xV (h.p,16) [.d (.str T.y),c1,c2]).w.xV (h.p+1,32) [C.d (D.str empty),C.nil,C.nil]).w []:=((Z0.refl.xV (.inr I)).w.xV (.inr I)).w;have W:=(H _ M).2.1.rowAt (n:=3) (by simp[D.flat]) (sU P.1);refine Zc (TQ _ _ _ W _ (λu O Y m t N=>?_));simp;refine⟨N,?_⟩;have s:=M.trans m;have S:=(H _ s).2.2.1.rowAt (n:=1) (by simp[D.flat]) (sU P.2);refine Zc (Eo _ _ _ S _ (λz o L B l r=>?_));have R:O.a (h.p+1,32)=some [C.d (D.str empty),C.nil,C.nil]:=N _ _ I;have X:=r _ _ R;simp[X];refine⟨r,Ze.of ?_⟩;simp at t;have ao:∀k∈Z u,(o.xV (h.p+1,32) [C.d (D.str T.y),u,z]).a k=O.a k:=λk g=>by
  have q:=t k.1 k.2 g;have v:k≠(h.p+1,32):=by rintro rfl;simp at q;omega
  simp[v,B.2 k q.2 I]
 have U:∀k∈Z z,(o.xV (h.p+1,32) [C.d (D.str T.y),u,z]).a k=o.a k:=λk g=>by
  have q:=l k g;have G:=m.1;simp at G;have v:k≠(h.p+1,32):=by rintro rfl;simp at q;omega
  simp[v]
 have w:=Ow.data (h:=o.xV (h.p+1,32) [C.d (D.str T.y),u,z]) (c:=.d (.str T.y)) rfl (Ow.rW (es:=[.d,.d,.d]) (Y.frame ao) rfl I (Ow.rW (es:=[.d]) (L.frame U) rfl I .nil));refine⟨_,_,I,I,I,w,?_,?_,(s.trans B).xV (.inr I)⟩;rw[Ym,Yk];refine⟨Vx,Vx,λx hx y hy=>?_⟩;rintro rfl;have q:=t x.1 x.2 hx;have v:=l x hy;omega;have G:=m.1;have h6:=B.1;simp at G;intro k g;rw[Ym,Y3] at g;rcases g with g|g
 have:=t k.1 k.2 g
 simp;omega
 have:=l k g
 simp;omega;rintro e j ⟨f,i,hn,o,hb,w,hd,J,Q⟩;obtain⟨a,b,d,rfl⟩:∃a b d,f=[a,b,d]:=by
  have:=w.len.1
  match f,this with
  |[a,b,d],_=>exact⟨a,b,d,rfl⟩
 simp[hn,o,hb,ZS,ZK,ZX];exact hk _ _ _ w hd J Q (Q.jA hg)
abbrev Q:=aD×aC×List Z2
def Z4(c:C)(qs:List Q):List Z2:=Z c++qs.flatMap (·.2.2)
structure Part(h:HS)(sh:List Sh)(c:C)(qs:List Q)(ds:List (List D)):Prop where
 mr:MR h sh.length c (qs.map (·.1))
 ds:qs.map (·.2.1)=ds
 ow:∀q∈qs,Ow h sh q.1 q.2.1 q.2.2
def Part.frame{h h' f c qs b}(p:Part h f c qs b)(d:∀k∈Z4 c qs,h'.a k=h.a k):Part h' f c qs b:=
 ⟨p.mr.frame λl a=>d l (by simp[Z4,a]),p.ds,λq e=>(p.ow q e).frame λl a=>d l (by simp only[Z4,Y3,YH];exact .inr ⟨q,e,a⟩)⟩
def Part.frz{h e c qs a}(p:Part h e c qs a):Frz h c (.sl a):=by obtain⟨b,rfl,d⟩:=p;exact(Ow.row b d .nil).frz.1
def BS:List Sh:=[.d,.d,.d,.d,.d,.d,.d]
structure SchC(h:HS)(l:Z2)(S:Sch)(tc fc oc:C)(qt qf qo:List Q):Prop where
 a:h.a l=some [tc,fc,oc]
 t:Part h WI tc qt (S.q.map E.z)
 f:Part h VB fc qf (S.b.map Fk.z)
 o:Part h BS oc qo (S.cons.map Cons.z)
 nd:(l::(Z4 tc qt++(Z4 fc qf++Z4 oc qo))).Nodup
 lt:∀k∈l::(Z4 tc qt++(Z4 fc qf++Z4 oc qo)),k.1<h.p
def Bj(h:HS)(l:Z2)(S:Sch)(b:List Z2):Prop:=∃tc fc oc qt qf a,b=Z4 tc qt++(Z4 fc qf++Z4 oc a)/\SchC h l S tc fc oc qt qf a
def KL{g:Nat}{A d X' B:List Z2}(h:(A++(d++B)).Nodup)(o:X'.Nodup)(j:∀k∈X',k∈d\/g<=k.1)(f:∀k∈A++(d++B),k.1<g):(A++(X'++B)).Nodup:=by
 simp only[Yk,Y3] at h f|-;have⟨m,⟨_,n,l⟩,i⟩:=h;refine⟨m,⟨o,n,λa e b c=>?_⟩,λa e b c=>?_⟩;rintro rfl;rcases j a e with h1|h1;exact l a h1 a c rfl
 have:=f a (.inr (.inr c));omega
 rintro rfl;rcases c with c|c;rcases j a c with h1|h1;exact i a e a (.inl h1) rfl
 have:=f a (.inl e);omega
 exact i a e a (.inr c) rfl
def SchC.ne{h l S i b d g e f}(s:SchC h l S i b d g e f):l∉Z4 i g/\l∉Z4 b e/\l∉Z4 d f/\(∀k∈Z4 i g,k∉Z4 b e/\k∉Z4 d f)/\(∀k∈Z4 b e,k∉Z4 d f):=by
 have:=s.nd
 simp only[XF,Yk,Y3,not_or] at this;have⟨⟨m,n,o⟩,_,⟨_,_,p⟩,j⟩:=this;exact⟨m,n,o,λk c=>⟨λa=>j k c k (.inl a) rfl,λa=>j k c k (.inr a) rfl⟩,λk c a=>p k c k a rfl⟩
def SchC.wN{h h':HS}{l:Z2}{S:Sch}{e d i c:C}{n j m qo' p}(s:SchC h l S e d i n j m)(r:h'.a l=some [e,d,c])(t:Part h' BS c qo' (p.map Cons.z))(g:Z0 h h' (l::Z4 i m))
  (q:(Z4 c qo').Nodup)(o:∀k∈Z4 c qo',k∈Z4 i m\/(h.p<=k.1/\k.1<h'.p)):SchC h' l {S with cons:=p} e d c n j qo':=by
 have⟨u,v,_,w,x⟩:=s.ne;have b:=s.lt;simp only[Y5,Y3] at b;refine⟨r,s.t.frame λk a=>g.2 k (b k (.inr (.inl a))) ?_,s.f.frame λk a=>g.2 k (b k (.inr (.inr (.inl a)))) ?_,t,?_,?_⟩;simp only[Y5,not_or];exact⟨λf=>u (f▸a),(w k a).2⟩;simp only[Y5,not_or];exact⟨λf=>v (f▸a),x k a⟩
 have:=KL (A:=l::(Z4 e n++Z4 d j)) (X':=Z4 c qo') (B:=[]) (sU s.nd) q (λk a=>(o k a).imp_right And.left) (λk a=>s.lt k (sU a))
 simpa using this;intro k a
 have:=g.1
 simp only[Y5,Y3] at a;rcases a with a|a|a|a
 have:=b k (.inl a);omega
 have:=b k (.inr (.inl a));omega
 have:=b k (.inr (.inr (.inl a)));omega
 rcases o k a with h1|h1
 have:=b k (.inr (.inr (.inr h1)));omega
 exact h1.2
def SchC.wM{h h':HS}{l:Z2}{S:Sch}{f g e m:C}{o n d r p}(s:SchC h l S f g m o n r)(v:h'.a l=some [f,e,m])(w:Part h' VB e d (p.map Fk.z))(j:Z0 h h' (l::Z4 g n))
  (t:(Z4 e d).Nodup)(q:∀k∈Z4 e d,k∈Z4 g n\/(h.p<=k.1/\k.1<h'.p)):SchC h' l {S with b:=p} f e m o d r:=by
 have⟨x,_,y,z,B⟩:=s.ne;have c:=s.lt;simp only[Y5,Y3] at c;refine⟨v,s.t.frame λk a=>j.2 k (c k (.inr (.inl a))) ?_,w,s.o.frame λk a=>j.2 k (c k (.inr (.inr (.inr a)))) ?_,?_,?_⟩;simp only[Y5,not_or];exact⟨λi=>x (i▸a),(z k a).1⟩;simp only[Y5,not_or];exact⟨λi=>y (i▸a),λu=>B k u a⟩
 have:=KL (A:=l::Z4 f o) (X':=Z4 e d) (sU s.nd) t (λk a=>(q k a).imp_right And.left) (λk a=>s.lt k (sU a))
 simpa using this;intro k a
 have:=j.1
 simp only[Y5,Y3] at a;rcases a with a|a|a|a
 have:=c k (.inl a);omega
 have:=c k (.inr (.inl a));omega
 rcases q k a with h1|h1
 have:=c k (.inr (.inr (.inl h1)));omega
 exact h1.2
 have:=c k (.inr (.inr (.inr a)));omega
def SchC.wX{h h':HS}{l:Z2}{S:Sch}{p d e f:C}{o c m n u}(s:SchC h l S p e f o m n)(w:h'.a l=some [d,e,f])(x:Part h' WI d c (u.map E.z))(j:Z0 h h' (l::Z4 p o))
  (v:(Z4 d c).Nodup)(r:∀k∈Z4 d c,k∈Z4 p o\/(h.p<=k.1/\k.1<h'.p)):SchC h' l {S with q:=u} d e f c m n:=by
 have⟨_,y,z,t,_⟩:=s.ne;have b:=s.lt;simp only[Y5,Y3] at b;refine⟨w,x,s.f.frame λk a=>j.2 k (b k (.inr (.inr (.inl a)))) ?_,s.o.frame λk a=>j.2 k (b k (.inr (.inr (.inr a)))) ?_,?_,?_⟩;simp only[Y5,not_or];exact⟨λi=>y (i▸a),λg=>(t k g).1 a⟩;simp only[Y5,not_or];exact⟨λi=>z (i▸a),λg=>(t k g).2 a⟩
 have:=KL (A:=[l]) (X':=Z4 d c) (B:=Z4 e m++Z4 f n) (sU s.nd) v (λk a=>(r k a).imp_right And.left) (λk a=>s.lt k (sU a))
 simpa using this;intro k a
 have:=j.1
 simp only[Y5,Y3] at a;rcases a with a|a|a|a
 have:=b k (.inl a);omega
 rcases r k a with h1|h1
 have:=b k (.inr (.inl h1));omega
 exact h1.2
 have:=b k (.inr (.inr (.inl a)));omega
 have:=b k (.inr (.inr (.inr a)));omega
def Vc(h:HS)(l:Z2)(b:List Z2)(c:Sch)(v:V)(K:V->HS->Prop):Prop:=∀h' a,Bj h' l c a->Z0 h h' (l::b)->(∀k∈a,k∈b\/h.p<=k.1)->K v h'
def Z3r{α β:Type}{f:α->List β}{b c:List α}(h:b.Sublist c):(b.flatMap f).Sublist (c.flatMap f):=by
 induction h with
 |slnil=>exact .slnil
 |cons a _ ih=>rw[YI];exact ih.trans (List.sublist_append_right _ _)
 |cons_cons a _ ih=>rw[YI,YI];exact(List.Sublist.refl _).append ih
def Gl{c c':C}{qs a:List Q}(h:a.Sublist qs)(b:Z c'=Z c):(Z4 c' a).Sublist (Z4 c qs):=by unfold Z4;rw[b];exact(List.Sublist.refl _).append (Z3r h)
def Part.sub{h h2 d c c' qs qs' i}(p:Part h d c qs i)(b:∀q∈qs',q∈qs)(l:MR h2 d.length c' (qs'.map (·.1)))(e:(Z4 c qs).Nodup)(j:∀k,k∉Z c->(∃q∈qs,k∈q.2.2)->h2.a k=h.a k):Part h2 d c' qs' (qs'.map (·.2.1)):=by
 refine⟨l,rfl,λq a=>(p.ow q (b q a)).frame λk f=>j k (λg=>?_) ⟨q,b q a,f⟩⟩;simp only[Z4,Yk] at e;exact e.2.2 k g k (YH.2 ⟨q,b q a,f⟩) rfl
def SchC.nds{h l S f a b e c d}(s:SchC h l S f a b e c d):(Z4 f e).Nodup/\(Z4 a c).Nodup/\(Z4 b d).Nodup:=by
 have:=s.nd
 simp only[XF,Yk] at this;exact⟨this.2.1,this.2.2.1.1,this.2.2.1.2.1⟩
def J0{α:Type}{qs:List α}{i j:Nat}(h:i<=j):(qs.take i++qs.drop j).Sublist qs:=by
 have a:(qs.drop j).Sublist (qs.drop i):=by
  have:qs.drop j=(qs.drop i).drop (j-i):=by rw[Xr];congr 1;omega
  rw[this];exact List.drop_sublist _ _
 have b:=(List.Sublist.refl (qs.take i)).append a
 rwa [Yy] at b
def SchC.frame{h h' l S j c e i f g}(s:SchC h l S j c e i f g)(d:Z0 h h' []):SchC h' l S j c e i f g:=by
 have b:=λk a=>d.2 k (s.lt k a) I;simp only[Y5,Y3] at b;exact⟨by rw[b l (.inl rfl),s.a],s.t.frame λk a=>b k (.inr (.inl a)),s.f.frame λk a=>b k (.inr (.inr (.inl a))),s.o.frame λk a=>b k (.inr (.inr (.inr a))),s.nd,λk a=>Y4 (s.lt k a) d.1⟩
def ZI.qK{h}:∀{ds:aC},ZI h (ds.map C.d) ds
 |[]=>trivial
 |_::_=>⟨.data rfl,ZI.qK⟩
end
end Go.Am
section
namespace Go.Am
def CU{n m:Nat}(h:n<=m):n<=m+1:=Nat.le_succ_of_le h
def Zv{l:Z2}{n:Nat}(a:l.1<n):∀m b,n<=m->(l=(m,b))=False:=λm b h=>eq_false λc=>by rw[c] at a;simp at a;omega
def W1{l:Z2}{n:Nat}(a:l.1<n):∀m b,n<=m->((m,b)=l)=False:=λm b h=>eq_false λc=>by rw[<-c] at a;simp at a;omega
def EU{α:Type}{a:List α}{i:Nat}{x}(h:a[i]?=some x):a.set i x=a:=by obtain⟨b,rfl⟩:=Y0.1 h;exact List.set_getElem_self b
def Do{c qs}{i:Nat}{q q'}(a:qs[i]?=some q)(b:q'.2.2=q.2.2):Z4 c (qs.set i q')=Z4 c qs:=by
 unfold Z4
 congr 1
 have:(qs.set i q').map (·.2.2)=qs.map (·.2.2):=by rw[YJ,b];exact EU (by rw[Y9,a];rfl)
 rw[List.flatMap_def,List.flatMap_def,this]
def Gc{c qs}{i j:Nat}{q e k}(a:(Z4 c qs).Nodup)(o:qs[i]?=some q)(l:qs[j]?=some e)(d:j≠i)(p:k∈e.2.2):k∉Z c/\k∉q.2.2:=by
 simp only[Z4,Yk] at a;refine⟨λh=>a.2.2 k h k (YH.2 ⟨e,Y2 l,p⟩) rfl,λh=>?_⟩;have b:=(Y3o.1 a.2.1).2;rw[YK] at b;have⟨m,f⟩:=Y0.1 o;have⟨n,g⟩:=Y0.1 l;rcases Nat.lt_or_gt_of_ne d with hlt|hlt;exact b j i n m hlt k (by rwa [g]) k (by rwa [f]) rfl;exact b i j m n hlt k (by rwa [f]) k (by rwa [g]) rfl
def BC{c qs}{i:Nat}{q k}(a:(Z4 c qs).Nodup)(b:qs[i]?=some q)(d:k∈q.2.2):k∉Z c:=by
 simp only[Z4,Yk] at a;exact λh=>a.2.2 k h k (YH.2 ⟨q,Y2 b,d⟩) rfl
def UJ{c qs}{i:Nat}{q k}(a:qs[i]?=some q)(b:k∈q.2.2):k∈Z4 c qs:=by simp only[Z4,Y3,YH];exact .inr ⟨q,Y2 a,b⟩
def Li{c qs}{i:Nat}{q}(a:(Z4 c qs).Nodup)(b:qs[i]?=some q):q.2.2.Nodup:=by simp only[Z4,Yk] at a;exact(Y3o.1 a.2.1).1 q (Y2 b)
def Part.upd{h h' d c qs f}{i:Nat}{q q'}(P:Part h d c qs f)(l:qs[i]?=some q)(hm:MR h' d.length c ((qs.map (·.1)).set i q'.1))(n:Ow h' d q'.1 q'.2.1 q'.2.2)
  (g:∀j b,j≠i->qs[j]?=some b->∀k∈b.2.2,h'.a k=h.a k):Part h' d c (qs.set i q') (f.set i q'.2.1):=by
 refine⟨by rwa [YJ],by rw[YJ,P.ds],λb o=>?_⟩;have⟨j,a⟩:=Xh o;by_cases hji:j=i;subst hji;have e:=(Y0.1 l).1;rw[Yr e] at a;cases a;exact n;rw[Ys (λh=>hji h.symm)] at a;exact(P.ow b (Y2 a)).frame λk m=>g j b hji a k m
def Part.at{h b c qs ds}(P:Part h b c qs ds){i:Nat}{d}(hi:ds[i]?=some d):
  ∃q lr cap sp,qs[i]?=some q/\q.2.1=d/\Ow h b q.1 d q.2.2/\c=.mrow lr 0 ds.length cap/\h.a lr=some (Zb (qs.map (·.1)) sp)/\(Zb (qs.map (·.1)) sp).length=cap*b.length/\Zy b.length (qs.map (·.1))/\(qs.map (·.1))[i]?=some q.1:=by
 have hd:=P.ds;subst hd;rw[Y9] at hi;cases hq:qs[i]? with
 |none=>rw[hq] at hi;simp at hi
 |some q=>?_
 rw[hq] at hi;simp only[Yp,Ya] at hi;have hlt:=(Y0.1 hq).1;have⟨lr,cap,sp,e,f,g⟩:=P.mr.block sO;refine⟨q,lr,cap,sp,rfl,hi,hi▸P.ow q (Y2 hq),sU e,f,g,P.mr.1,by rw[Y9,hq];rfl⟩
def Part.wr{h d c qs w}{i f n a:Nat}{q b}{sp o:aD}{d':aC}(P:Part h d c qs w)(v:(Z4 c qs).Nodup)(p:qs[i]?=some q)(y:c=.mrow b 0 n a)(hB:h.a b=some (Zb (qs.map (·.1)) sp))
  (l:(Zb (qs.map (·.1)) sp).length=a*d.length)(A:f+o.length<=d.length)(E:Ow h d (Zi q.1 f o) d' q.2.2):
  Part (h.xV b (Zi (Zb (qs.map (·.1)) sp) (i*d.length+f) o)) d c (qs.set i (Zi q.1 f o,d',q.2.2)) (w.set i d'):=by
 have m:(qs.map (·.1))[i]?=some q.1:=by rw[Y9,p];rfl
 have u:Z c=[b]:=by rw[y];rfl
 have z:∀k∈q.2.2,k≠b:=λk g r=>BC v p g (by rw[u,r];simp);refine P.upd (q':=(Zi q.1 f o,d',q.2.2)) p ?_ (E.frame λk g=>by simp[z k g]) (λj q2 s B k g=>?_);have t:=BK (sp:=sp) P.mr.1 m A;have ae:=P.mr.1.get m;refine⟨P.mr.1.set (by rwa [A6 X]),sU P.mr.2.1,.inr ⟨b,a,sp,?_,by simp[t],?_⟩⟩;rcases P.mr.2.2 with⟨e,x⟩|⟨l2,cap2,af,e,_⟩;rw[e] at m;simp at m;rw[y] at e|-;simp at e;simp[e];rw[<-t,A6 ?_,l]
 have:=Ah (sp:=sp) P.mr.1 (Y0.1 m).1
 omega
 have:=(Gc v p B s g).1
 rw[u] at this;have x:k≠b:=λr=>this (by simp[r]);simp[x]
def Ow.flat{h g e b f}(o:Ow h g e b f):∀{n:Nat},g=List.replicate n .d->(∀d∈b,d.flat=true)->e=b.map C.d/\f=[]:=by
 induction o with
 |nil=>intro n _ _;exact⟨rfl,rfl⟩
 |@data c x g e b f hx _ ih=>?_
 |@emp es c g e b f _ _ _=>?_
 |@row es c qs g e b f _ _ _ _ _=>?_
 intro n a i;cases n with
 |zero=>simp at a
 |succ n=>?_
 simp[Y3v] at a;have⟨j,k⟩:=ih a (λd m=>i d (by simp[m]));have l:=(Frz.data (h:=h) hx).flat (i x I);exact⟨by rw[j,l];rfl,k⟩;intro n a _;cases n<;>simp[Y3v] at a;intro n a _;cases n<;>simp[Y3v] at a
def Ow.rH{h i k f e g j}(o:Ow h (.r i::k) f (.sl e::g) j):e=[]\/∃c qs a b,f=c::a/\j=Z4 c qs++b/\Part h i c qs e/\Ow h k a g b:=by rcases o.jT with⟨c,a,l,rfl,d,_⟩|⟨c,qs,a,l,b,rfl,d,rfl,n,p,q⟩;simp at d;exact .inl d.1;simp at d;have⟨d,m⟩:=d;refine .inr ⟨c,qs,a,b,rfl,rfl,⟨n,d.symm,p⟩,?_⟩;rw[m];exact q
def Ow.rS{h d f c qs a g b e}(P:Part h d c qs g)(o:Ow h f a b e):Ow h (.r d::f) (c::a) (.sl g::b) (Z4 c qs++e):=by obtain⟨i,rfl,j⟩:=P;exact .row i j o
def Sc(h:HS)(l:Z2)(S:Sch)(tc fc oc:C)(ta fa oa:List Z2):Prop:=∃qt qf a,ta=Z4 tc qt/\fa=Z4 fc qf/\oa=Z4 oc a/\SchC h l S tc fc oc qt qf a
section
variable{h h':HS}{l:Z2}{S:Sch}{tc fc oc:C}{ta fa oa:List Z2}
def Sc.a(s:Sc h l S tc fc oc ta fa oa):h.a l=some [tc,fc,oc]:=by have⟨_,_,_,_,_,_,s⟩:=s;exact s.a
def Sc.frame(s:Sc h l S tc fc oc ta fa oa)(d:Z0 h h' []):Sc h' l S tc fc oc ta fa oa:=by have⟨g,e,f,a,b,c,s⟩:=s;exact⟨g,e,f,a,b,c,s.frame d⟩
def Sc.ows(s:Sc h l S tc fc oc ta fa oa):Bj h l S (ta++(fa++oa)):=by obtain⟨c,a,b,rfl,rfl,rfl,s⟩:=s;exact⟨tc,fc,oc,c,a,b,rfl,s⟩
def Bj.sc{a}(o:Bj h l S a):∃tc fc oc ta fa oa,a=ta++(fa++oa)/\Sc h l S tc fc oc ta fa oa:=by have⟨tc,fc,oc,e,c,d,b,s⟩:=o;exact⟨tc,fc,oc,_,_,_,b,e,c,d,rfl,rfl,rfl,s⟩
def Sc.lt(s:Sc h l S tc fc oc ta fa oa):∀k∈l::(ta++(fa++oa)),k.1<h.p:=by obtain⟨qt,qf,qo,rfl,rfl,rfl,s⟩:=s;exact s.lt
def Sc.nd(s:Sc h l S tc fc oc ta fa oa):(l::(ta++(fa++oa))).Nodup:=by obtain⟨qt,qf,qo,rfl,rfl,rfl,s⟩:=s;exact s.nd
def Sc.xU(s:Sc h l S tc fc oc ta fa oa):Frz h tc (.sl (S.q.map E.z)):=by obtain⟨qt,qf,qo,rfl,rfl,rfl,s⟩:=s;exact s.t.frz
def Sc.wU(s:Sc h l S tc fc oc ta fa oa):Frz h fc (.sl (S.b.map Fk.z)):=by obtain⟨qt,qf,qo,rfl,rfl,rfl,s⟩:=s;exact s.f.frz
def Sc.xP(s:Sc h l S tc fc oc ta fa oa):Frz h oc (.sl (S.cons.map Cons.z)):=by obtain⟨qt,qf,qo,rfl,rfl,rfl,s⟩:=s;exact s.o.frz
def Sc.frz(s:Sc h l S tc fc oc ta fa oa):ZI h [tc,fc,oc] S.z:=⟨s.xU,s.wU,s.xP,trivial⟩
end
def MR.len{h}{n:Nat}{c a}(m:MR h n c a):Wd c=some a.length:=m.rd.2.1
def Sc.len{h l S tc fc oc ta fa oa}(s:Sc h l S tc fc oc ta fa oa):(Wd tc=some S.q.length/\S.q.length<=Zz)/\(Wd fc=some S.b.length/\S.b.length<=Zz)/\Wd oc=some S.cons.length/\S.cons.length<=Zz:=by
 obtain⟨j,g,i,rfl,rfl,rfl,s⟩:=s;have a:j.length=S.q.length:=by have:=congrArg List.length s.t.ds;simpa using this
 have b:g.length=S.b.length:=by have:=congrArg List.length s.f.ds;simpa using this
 have c:i.length=S.cons.length:=by have:=congrArg List.length s.o.ds;simpa using this
 have d:=s.t.mr.rd;have e:=s.f.mr.rd;have f:=s.o.mr.rd;refine⟨⟨?_,?_⟩,⟨?_,?_⟩,?_,?_⟩;rw[d.2.1];simp[a];rw[<-a];simpa using d.2.2.2;rw[e.2.1];simp[b];rw[<-b];simpa using e.2.2.2;rw[f.2.1];simp[c];rw[<-c];simpa using f.2.2.2
def V6{c}{n:Nat}{f}(a:Wd c=some n)(b:f n):lenK c (k:=⟨f⟩):=by
 unfold lenK;cases c<;>simp[Wd,C.qE] at a<;>first|(subst a;exact b)|skip
 rename_i x;cases x<;>simp at a;subst a;exact λ_=>b;subst a;exact λ_=>b;subst a;exact λ_=>b;subst a;exact λ_=>b
def Qv:VB.length=3:=rfl
def L6:WI.length=3:=rfl
def SchC.wrF{h h' l S tc fc oc j d a i e}(s:SchC h l S tc fc oc j d i)(m:Part h' VB fc a (e.map Fk.z))(g:Z0 h h' (Z4 fc d))(f:Z4 fc a=Z4 fc d):SchC h' l {S with b:=e} tc fc oc j a i:=
 s.wM (by rw[g.2 l (s.lt l I) s.ne.2.1];exact s.a) m (g.mono λk c=>by simp[c]) (by rw[f];exact s.nds.2.1) (λk c=>.inl (f▸c))
def SchC.wrO{h h' l S tc fc oc i g c a f}(s:SchC h l S tc fc oc i g c)(j:Part h' BS oc a (f.map Cons.z))(e:Z0 h h' (Z4 oc c))(d:Z4 oc a=Z4 oc c):SchC h' l {S with cons:=f} tc fc oc i g a:=
 s.wN (by rw[e.2 l (s.lt l I) s.ne.2.2.1];exact s.a) j (e.mono λk b=>by simp[b]) (by rw[d];exact s.nds.2.2) (λk b=>.inl (d▸b))
def Z0.rN{h l b a}(c:l∈a):Z0 h (h.xV l b) a:=Z0.refl.xV (.inl c)
structure Elem(h:HS)(lr:Z2)(i n:Nat)(x:List C)(B:List C):Prop where
 a:h.a lr=some B
 rd:∀g m,g+m<=n->Zs m (B.drop (i*n+g))=Zs m (x.drop g)
 rd0:∀m,m<=n->Zs m (B.drop (i*n))=Zs m x
 le:i*n+n<=B.length
def Part.elem{h b c qs ds}(P:Part h b c qs ds){i:Nat}{d}(hi:ds[i]?=some d):
  ∃q lr cap sp,qs[i]?=some q/\q.2.1=d/\Ow h b q.1 d q.2.2/\c=.mrow lr 0 ds.length cap/\(Zb (qs.map (·.1)) sp).length=cap*b.length/\Elem h lr i b.length q.1 (Zb (qs.map (·.1)) sp):=by
 have⟨q,lr,cap,sp,k,n,o,p,r,s,e,j⟩:=P.at hi;refine⟨q,lr,cap,sp,k,n,o,p,s,r,λg m t=>VH e j t,λm hm=>?_,Ah e (Y0.1 j).1⟩
 have:=VH (sp:=sp) (f:=0) (m:=m) e j X
 simpa using this
end Go.Am
end
namespace Go.Am
section
def Ai{α β:Type}{f:α->β}{a:List α}{i:Nat}{x}(h:a[i]?=some x):(a.map f)[i]?=some (f x):=by rw[Y9,h];rfl
def Ds{α β:Type}{f:α->β}{a:List α}{i:Nat}{x}:(a.set i x).map f=(a.map f).set i (f x):=YJ
def Part.rD{h}{n:Nat}{k c qs ds}(P:Part h k c qs ds)(l:k=List.replicate n .d){i:Nat}{d}(D:ds[i]?=some d)(A:∀x∈d,x.flat=true):
  ∃b a B,c=.mrow b 0 ds.length a/\Elem h b i n (d.map C.d) B/\qs[i]?=some (d.map C.d,d,[])/\
    (∀g f d',(Z4 c qs).Nodup->g+f.length<=n->Zi (d.map C.d) g f=d'.map C.d->d'.length=n->∃e,Z4 c e=Z4 c qs/\Part (h.xV b (Zi B (i*n+g) f)) k c e (ds.set i d')):=by
 have⟨q,b,a,sp,m,w,y,p,r,o⟩:=P.elem D;have j:k.length=n:=by rw[l];simp
 have⟨t,u⟩:=y.flat l A;have v:q=(d.map C.d,d,[]):=by rw[<-t,<-u,<-w]
 subst v;rw[j] at r o;refine⟨b,a,_,p,o,m,λg f d' s hg E z=>?_⟩;refine⟨qs.set i (Zi (d.map C.d) g f,d',[]),Do m rfl,?_⟩
 have:=P.wr (d':=d') s m p o.a (by rw[r,j]) (by rwa [j]) (by
  rw[E,l]
  have:=Ow.qK (h:=h) (ds:=d')
  simp only[List.map_const',z] at this;exact this)
 rwa [j] at this
def Cons.flat(c:Cons):∀x∈c.z,x.flat=true:=by simp[D.flat]
def Col.flat(c:Col):∀x∈c.z,x.flat=true:=by simp[D.flat]
def KX(c:Int):∀x∈Zg c,x.flat=true:=by simp[D.flat]
def Sc.con{h:HS}{l:Z2}{S:Sch}{u o f t m j}(s:Sc h l S u o f t m j){i:Nat}{c}(y:S.cons[i]?=some c):
  ∃b a B,f=.mrow b 0 S.cons.length a/\b∈j/\Elem h b i 7 (c.z.map C.d) B/\
    ∀g d e,g+d.length<=7->Zi (c.z.map C.d) g d=e.z.map C.d->Sc (h.xV b (Zi B (i*7+g) d)) l {S with cons:=S.cons.set i e} u o f t m j:=by
 obtain⟨E,A,D,rfl,rfl,rfl,s⟩:=s;have⟨b,a,B,p,v,_,w⟩:=s.o.rD (n:=7) rfl (Ai y) c.flat;have r:b∈Z4 f D:=by rw[p];simp[Z4,Z]
 refine⟨b,a,B,sU p,r,v,λg d e x z=>?_⟩;have⟨k,q,h6⟩:=w g d e.z s.nds.2.2 x z rfl;refine⟨E,A,k,rfl,rfl,q.symm,s.wrO (by rwa [Ds]) (Z0.rN r) q⟩
def Sc.fk{h:HS}{l:Z2}{S:Sch}{tc K oc ta R oa}(s:Sc h l S tc K oc ta R oa){i:Nat}{f}(hi:S.b[i]?=some f):
  ∃D H B a,K=.mrow D 0 S.b.length H/\D∈R/\Elem h D i 3 [.d (.str f.u),a,.d (.str f.ref)] B/\(∀F,Z0 h F []->Frz F a (.sl (f.j.map Zg)))/\(Wd a=some f.j.length/\f.j.length<=Zz)/\
    (∀g Y w,w.j=f.j->g+Y.length<=3->Zi [.d (.str f.u),a,.d (.str f.ref)] g Y=[.d (.str w.u),a,.d (.str w.ref)]->Sc (h.xV D (Zi B (i*3+g) Y)) l {S with b:=S.b.set i w} tc K oc ta R oa)/\
    (∀k v,f.j[k]?=some v->∃m t T,a=.mrow m 0 f.j.length t/\m∈R/\m≠D/\Elem h m k 1 [.d (.int .i64 v)] T/\
     ∀G,Sc (h.xV m (Zi T (k*1) [.d (.int .i64 G)])) l {S with b:=S.b.set i {f with j:=f.j.set k G}} tc K oc ta R oa):=by
 obtain⟨qt,N,qo,rfl,rfl,rfl,s⟩:=s;have P:=s.nds.2.1;have hlt:∀k∈Z4 K N,k.1<h.p:=λk r=>s.lt k (by simp[r]);have⟨q,D,H,sp,p,h2,h3,V,h5,W⟩:=s.f.elem (Ai hi);have hm:D∈Z4 K N:=by rw[V];simp[Z4,Z]
 rw[Qv] at h5 W;have⟨qc,qd,ql⟩:=q;simp only at h2 h3 W;subst h2;obtain⟨c0,x0,cs,ds,rfl,e1,e2,X⟩:=h3.jJ;simp only[Fk.z,List.cons.injEq] at e1;obtain⟨rfl,rfl⟩:=e1;obtain rfl:=(Frz.data (h:=h) e2).flat rfl;have am:∀F,Z0 h F []->ZI F cs [.sl (f.j.map Zg),.str f.ref]:=λF hs=>(X.frame λk r=>hs.2 k (hlt k (UJ p r)) I).frz;have key:∃a,cs=[a,.d (.str f.ref)]/\(Wd a=some f.j.length/\f.j.length<=Zz):=by rcases X.jT with⟨a,z,aj,rfl,c,J,A⟩|⟨a,o,z,aj,y,rfl,c,_,U,_,A⟩;simp only[List.cons.injEq] at c;obtain⟨c,rfl⟩:=c;obtain⟨c2,x2,ag,ah,rfl,u,Q,L⟩:=A.jJ;simp only[List.cons.injEq] at u;obtain⟨rfl,rfl⟩:=u;obtain rfl:=(Frz.data (h:=h) Q).flat rfl;obtain⟨rfl,_,_⟩:=L.qV;simp at c;refine⟨a,rfl,?_,by simp[c]⟩;cases a<;>simp[C.toD] at J<;>subst_vars<;>simp[Wd,C.qE,c];simp only[List.cons.injEq] at c;obtain⟨c,rfl⟩:=c;obtain⟨c2,x2,ag,ah,rfl,u,Q,L⟩:=A.jJ;simp only[List.cons.injEq] at u;obtain⟨rfl,rfl⟩:=u;obtain rfl:=(Frz.data (h:=h) Q).flat rfl;obtain⟨rfl,_,_⟩:=L.qV;simp at c;have J:=congrArg List.length c;simp at J;exact⟨a,rfl,by rw[MR.len U];simp[J],by rw[J];simpa using U.2.1⟩
 obtain⟨a,rfl,al⟩:=key;refine⟨D,H,_,a,sU V,hm,W,λF hs=>(am F hs).1,al,λg Y w hc hg af=>?_,λk v r=>?_⟩;refine⟨qt,N.set i ([.d (.str w.u),a,.d (.str w.ref)],w.z,ql),qo,rfl,(Do (q':=(_,w.z,ql)) p rfl).symm,rfl,s.wrF ?_ (Z0.rN hm) (Do (q':=(_,w.z,ql)) p rfl)⟩
 have:=s.f.wr (d':=w.z) P p V W.a h5 hg (by
  rw[af];refine .data rfl ?_;rcases X.jT with⟨a,z,aj,E,c,J,A⟩|⟨a,o,z,aj,y,E,c,rfl,U,ak,A⟩;simp at c E;obtain⟨c,rfl⟩:=c;obtain⟨rfl,rfl⟩:=E;have⟨c2,x2,ag,ah,O,u,Q,L⟩:=A.jJ;simp only[List.cons.injEq] at u O;obtain⟨rfl,rfl⟩:=u;obtain⟨rfl,rfl⟩:=O;rw[hc,c];exact .emp J (.data rfl L);simp at c E;obtain⟨c,rfl⟩:=c;obtain⟨rfl,rfl⟩:=E;have⟨c2,x2,ag,ah,O,u,Q,L⟩:=A.jJ;simp only[List.cons.injEq] at u O;obtain⟨rfl,rfl⟩:=u;obtain⟨rfl,rfl⟩:=O;rw[hc,show f.j.map Zg=o.map (λq=>q.2.1) by simpa using c];exact .row U ak (.data rfl L))
 rw[af,Qv] at this
 rwa [Ds]
 rcases X.rH with e|⟨c1',o,z,y,E,rfl,P1,A⟩
 have:f.j=[]:=sU e
 rw[this] at r;simp at r;simp only[List.cons.injEq] at E;obtain⟨rfl,rfl⟩:=E;have⟨m,t,T,k1,k2,_,k4⟩:=P1.rD (n:=1) rfl (Ai r) (KX v);have x:m∈Z4 a o:=by rw[k1];simp[Z4,Z]
 have ae:m∈Z4 K N:=UJ p (by simp[x]);have hne:m≠D:=λM=>BC P p (k:=m) (by simp[x]) (by rw[M,V];simp[Z]);have aa:=Li P p;simp only at aa;refine⟨m,t,T,sU k1,ae,hne,k2,λG=>?_⟩;have⟨ap,k5,k6⟩:=k4 0 [.d (.int .i64 G)] [.int .i64 G] ((Yk.1 aa).1) I I I;refine⟨qt,N.set i ([.d (.str f.u),a,.d (.str f.ref)],({f with j:=f.j.set k G}:Fk).z,Z4 a o++y),qo,rfl,(Do (q':=(_,({f with j:=f.j.set k G}:Fk).z,Z4 a o++y)) p rfl).symm,rfl,s.wrF ?_ (Z0.rN ae) (Do (q':=(_,({f with j:=f.j.set k G}:Fk).z,Z4 a o++y)) p rfl)⟩;rw[Ds];refine s.f.upd (q':=(_,_,_)) p ?_ ?_ ?_
 have:(N.map (·.1)).set i [.d (.str f.u),a,.d (.str f.ref)]=N.map (·.1):=EU (Ai p)
 rw[this];refine s.f.mr.frame λk r=>?_
 have:k≠m:=λM=>BC P p (by simp[x]) (M▸r)
 simp[this];refine .data rfl ?_;rw[<-k5];simp only[Xl] at k6;refine Ow.rS (by rwa [Ds]) (A.frame λk r=>?_)
 have:k≠m:=λM=>(Yk.1 aa).2.2 m x k r M.symm
 simp[this];intro j q2 hj ao k r
 have:=(Gc P p ao hj r).2
 have:k≠m:=λM=>this (by simp[M,x])
 simp[this]
def Ow.split{h s g b x d f}(o:Ow h (s::g) b (x::d) f):∃c cs' l1 e,b=c::cs'/\f=l1++e/\Ow h [s] [c] [x] l1/\Ow h g cs' d e:=by
 cases o with
 |data hx a=>exact⟨_,_,[],_,rfl,rfl,.data hx .nil,a⟩
 |emp hx a=>exact⟨_,_,[],_,rfl,rfl,.emp hx .nil,a⟩
 |row hm hq a=>exact⟨_,_,_,_,rfl,rfl,sU (Ow.row hm hq .nil),a⟩
def Ow.join{h s g c b x d e f}(o:Ow h [s] [c] [x] e)(a:Ow h g b d f):Ow h (s::g) (c::b) (x::d) (e++f):=by
 cases o with
 |data hx hr=>obtain⟨_,_,rfl⟩:=hr.qV;exact .data hx a
 |emp hx hr=>obtain⟨_,_,rfl⟩:=hr.qV;exact .emp hx a
 |row hm hq hr=>?_
 obtain⟨_,_,rfl⟩:=hr.qV
 have:=Ow.row hm hq a
 simpa using this
def Ow.wL{h k c f m}(o:Ow h [.r k] [c] [.sl f] m):Wd c=some f.length/\f.length<=Zz:=by rcases o.jT with⟨j,e,i,b,a,d,l⟩|⟨j,qs1,e,i,ls',b,a,_,g,_,l⟩;simp at b a;obtain⟨rfl,rfl⟩:=b;refine⟨?_,by simp[a]⟩;cases c<;>simp[C.toD] at d<;>subst_vars<;>simp[Wd,C.qE,a];simp at b a;obtain⟨rfl,rfl⟩:=b;have d:=congrArg List.length a.1;simp at d;exact⟨by rw[MR.len g];simp[d],by rw[d];simpa using g.2.1⟩
def Ow.wD{h f c b g}(o:Ow h [.r f] [c] [.sl b] g)(j:b≠[]):∃qs,g=Z4 c qs/\Part h f c qs b:=by rcases o.rH with e|⟨c1,a,cs',ls',d,rfl,i,k⟩;exact absurd e j;simp at d;obtain⟨rfl,rfl⟩:=d;obtain⟨_,_,rfl⟩:=k.qV;exact⟨a,I,i⟩
def Ow.rT{h a c qs b}(P:Part h a c qs b):Ow h [.r a] [c] [.sl b] (Z4 c qs):=by simpa using Ow.rS P (.nil)
def Ow.jD{h i c m d}(o:Ow h [.r i] [c] [.sl m] d):∀k∈Z c,k∈d:=by rcases o.jT with⟨f,b,e,a,_,g,j⟩|⟨f,qs1,b,e,ls',a,_,rfl,ab,_,j⟩;simp at a;obtain⟨rfl,rfl⟩:=a;cases c<;>simp[C.toD] at g<;>simp[Z];simp at a;obtain⟨rfl,rfl⟩:=a;intro k l;simp[l]
def Ow.rV{h b c a d}(o:Ow h [.r b] [c] [.sl a] d):Frz h c (.sl a):=o.frz.1
def Ow.rL{h n b c a}(f:MR h n c (a.map (·.map C.d)))(e:b=List.replicate n .d)(g:∀t∈a,t.length=n):Ow h [.r b] [c] [.sl a] (Z c):=by simpa using Ow.rW f e g .nil
def Kz{A d X' B:List Z2}(h:(A++(d++B)).Nodup)(m:X'.Nodup)(f:∀k∈X',k∈d\/k∉A++(d++B)):(A++(X'++B)).Nodup:=by
 simp only[Yk,Y3,not_or] at h f|-;have⟨j,⟨_,l,i⟩,g⟩:=h;refine⟨j,⟨m,l,λa e b c=>?_⟩,λa e b c=>?_⟩;rintro rfl;rcases f a e with h1|h1;exact i a h1 a c rfl;exact h1.2.2 c;rintro rfl;rcases c with c|c;rcases f a c with h1|h1;exact g a e a (.inl h1) rfl;exact h1.1 e;exact g a e a (.inr c) rfl
def SchC.wS{h e:HS}{l:Z2}{S m c d f j qt' g i u}(s:SchC h l S m d f j g i)(w:e.a l=some [c,d,f])(x:Part e WI c qt' (u.map E.z))(p:Z0 h e (l::Z4 m j))
  (v:(Z4 c qt').Nodup)(r:∀k∈Z4 c qt',k∈Z4 m j\/(k∉l::(Z4 m j++(Z4 d g++Z4 f i))/\k.1<e.p)):SchC e l {S with q:=u} c d f qt' g i:=by
 have⟨_,y,z,t,_⟩:=s.ne;have b:=s.lt;simp only[Y5,Y3] at b;refine⟨w,x,s.f.frame λk a=>p.2 k (b k (.inr (.inr (.inl a)))) ?_,s.o.frame λk a=>p.2 k (b k (.inr (.inr (.inr a)))) ?_,?_,?_⟩;simp only[Y5,not_or];exact⟨λo=>y (o▸a),λn=>(t k n).1 a⟩;simp only[Y5,not_or];exact⟨λo=>z (o▸a),λn=>(t k n).2 a⟩
 have:=Kz (A:=[l]) (X':=Z4 c qt') (B:=Z4 d g++Z4 f i) (sU s.nd) v (λk a=>(r k a).imp_right λh=>sU h.1)
 simpa using this;intro k a
 have:=p.1
 simp only[Y5,Y3] at a;rcases a with a|a|a|a
 have:=b k (.inl a);omega
 rcases r k a with h1|h1
 have:=b k (.inr (.inl h1));omega
 exact h1.2
 have:=b k (.inr (.inr (.inl a)));omega
 have:=b k (.inr (.inr (.inr a)));omega
def SchC.xI{h e:HS}{l:Z2}{S f g d i m j qf' p q}(s:SchC h l S f g i m j p)(v:e.a l=some [f,d,i])(w:Part e VB d qf' (q.map Fk.z))(o:Z0 h e (l::Z4 g j))
  (t:(Z4 d qf').Nodup)(r:∀k∈Z4 d qf',k∈Z4 g j\/(k∉l::(Z4 f m++(Z4 g j++Z4 i p))/\k.1<e.p)):SchC e l {S with b:=q} f d i m qf' p:=by
 have⟨x,_,y,z,B⟩:=s.ne;have c:=s.lt;simp only[Y5,Y3] at c;refine⟨v,s.t.frame λk a=>o.2 k (c k (.inr (.inl a))) ?_,w,s.o.frame λk a=>o.2 k (c k (.inr (.inr (.inr a)))) ?_,?_,?_⟩;simp only[Y5,not_or];exact⟨λn=>x (n▸a),(z k a).1⟩;simp only[Y5,not_or];exact⟨λn=>y (n▸a),λu=>B k u a⟩
 have:=Kz (A:=l::Z4 f m) (X':=Z4 d qf') (sU s.nd) t (λk a=>(r k a).imp_right λh=>sU h.1)
 simpa using this;intro k a
 have:=o.1
 simp only[Y5,Y3] at a;rcases a with a|a|a|a
 have:=c k (.inl a);omega
 have:=c k (.inr (.inl a));omega
 rcases r k a with h1|h1
 have:=c k (.inr (.inr (.inl h1)));omega
 exact h1.2
 have:=c k (.inr (.inr (.inr a)));omega
def Zc5{α:Type}{a i x}(h:a[i]?=some x)(y:α):a=a.take i++x::a.drop (i+1)/\a.set i y=a.take i++y::a.drop (i+1):=by obtain⟨b,rfl⟩:=Y0.1 h;exact⟨by rw[<-YB b,Yy],by rw[Xz,if_pos b]⟩
def P7{c a i x}(h:a[i]?=some x)(y):Z4 c a=(Z c++(a.take i).flatMap (·.2.2))++(x.2.2++(a.drop (i+1)).flatMap (·.2.2))/\Z4 c (a.set i y)=(Z c++(a.take i).flatMap (·.2.2))++(y.2.2++(a.drop (i+1)).flatMap (·.2.2)):=by
 have⟨b,d⟩:=Zc5 h y;refine⟨?_,?_⟩
 have:=congrArg (λe:List Q=>Z c++e.flatMap (·.2.2)) b
 simpa[Z4] using this;rw[Z4,d];simp
def Z2u{c:C}{qs:List Q}{i q a}(b:(Z4 c qs).Nodup)(g:qs[i]?=some q)(h:a.2.2.Nodup)(d:∀k∈a.2.2,k∈q.2.2\/k∉Z4 c qs):(Z4 c (qs.set i a)).Nodup:=by obtain⟨e,f⟩:=P7 g a;rw[e] at b d;rw[f];exact Kz b h d
def Kn{c qs i q b}(f:qs[i]?=some q){k}(a:k∈Z4 c (qs.set i b)):k∈Z4 c qs\/k∈b.2.2:=by obtain⟨d,e⟩:=P7 f b;rw[e] at a;rw[d];simp only[Y3] at a|-;rcases a with(h|h)|h|h;exact .inl (.inl (.inl h));exact .inl (.inl (.inr h));exact .inr h;exact .inl (.inr (.inr h))
def SchC.wO{h h' l S d g o e p r i q T' cs'}{lq':List Z2}(s:SchC h l S d g o e p r)(f:e[i]?=some q)(A:MR h' 3 d ((e.map (·.1)).set i cs'))(B:Ow h' WI cs' T'.z lq')
  (n:Z0 h h' (Z d++q.2.2))(C:lq'.Nodup)(w:∀k∈lq',k∈q.2.2\/(k∉l::(Z4 d e++(Z4 g p++Z4 o r))/\k.1<h'.p)):SchC h' l {S with q:=S.q.set i T'} d g o (e.set i (cs',T'.z,lq')) p r:=by
 have v:=s.nds.1;have m:∀k∈Z4 d e,k.1<h.p:=λk a=>s.lt k (by simp[a]);have t:∀k∈Z d++q.2.2,k∈Z4 d e:=λk a=>by rcases Y3.1 a with c|c;simp[Z4,c];exact UJ f c
 have z:=n.2 l (s.lt l I) λa=>s.ne.1 (t l a);refine s.wS (by rw[z];exact s.a) ?_ (n.mono λk a=>by simp[t k a]) (Z2u v f C λk a=>(w k a).imp_right λb x=>b.1 (by simp[x])) (λk a=>?_);rw[Ds];refine s.t.upd (q':=(cs',T'.z,lq')) f A B (λj q2 y u k a=>?_);have c:=Gc v f u y a;refine n.2 k (m k (UJ u a)) λb=>?_;rcases Y3.1 b with b|b;exact c.1 b;exact c.2 b;rcases Kn f a with c|c;exact .inl c;rcases w k c with b|b;exact .inl (UJ f b);exact .inr b
def Elem.set{h d i n x B}(e:Elem h d i n x B){g vs}(k:x.length=n)(hg:g+vs.length<=n):Elem (h.xV d (Zi B (i*n+g) vs)) d i n (Zi x g vs) (Zi B (i*n+g) vs):=by
 have o:=e.le;have j:=e.rd0 n (Y7 _);have s:Zs n x=some x:=by simp[Zs,k,YD]
 rw[s] at j;have⟨_,p⟩:=Ge j;have q:B=B.take (i*n)++(x++B.drop (i*n+n)):=by have f:=Yy n (B.drop (i*n));rw[<-p,Xr] at f;rw[f,Yy]
 have b:(B.take (i*n)).length=i*n:=sO;have c:Zi B (i*n+g) vs=B.take (i*n)++(Zi x g vs++B.drop (i*n+n)):=by
  rw[show Zi B (i*n+g) vs=Zi (B.take (i*n)++(x++B.drop (i*n+n))) (i*n+g) vs from congrArg (λz=>Zi z (i*n+g) vs) q];generalize B.take (i*n)=A at b|-;generalize B.drop (i*n+n)=zq0;rw[<-b];simp only[Zi];rw[List.take_length_add_append,Nat.add_assoc,List.drop_length_add_append,Xg X,Xv X];simp
 have ab:(Zi x g vs).length=n:=by rw[A6 X];exact k
 have l:∀a m,a+m<=n->Zs m ((Zi B (i*n+g) vs).drop (i*n+a))=Zs m ((Zi x g vs).drop a):=λa m r=>by
  rw[c];generalize B.take (i*n)=A at b|-;rw[<-b,List.drop_length_add_append,Xv X];simp only[Zs]
  have:m<=((Zi x g vs).drop a).length:=sO
  rw[if_pos (by simp at this|-;omega),if_pos this,Xg this]
 refine⟨I,l,λm r=>?_,?_⟩
 have:=l 0 m X
 simpa using this;rw[A6 X];exact o
def Elem.uniq{h f i n x y B b}(e:Elem h f i n x B)(c:Elem h f i n y b)(g:x.length=n)(j:y.length=n):x=y/\B=b:=by
 have d:=e.a;rw[c.a] at d;cases d;have a:=e.rd0 n (Y7 _);rw[c.rd0 n (Y7 _)] at a;have k:Zs n x=some x:=by simp[Zs,g,YD]
 have l:Zs n y=some y:=by simp[Zs,j,YD]
 rw[k,l] at a;exact⟨(Option.some.inj a).symm,rfl⟩
def Elem.frame{h h' a i n x B}(e:Elem h a i n x B)(b:h'.a a=h.a a):Elem h' a i n x B:=⟨by rw[b];exact e.a,e.rd,e.rd0,e.le⟩
structure TblV(h:HS)(l:Z2)(S:Sch)(tc fc oc:C)(ta fa oa:List Z2)(i:Nat)(T:E)(lt:Z2)(c1 c2:C)(B:List C):Prop where
 el:Elem h lt i 3 [.d (.str T.y),c1,c2] B
 hd:∃cap,tc=.mrow lt 0 S.q.length cap
 tm:lt∈ta
 f1:∀h',Z0 h h' []->Frz h' c1 (.sl (T.j.map Col.z))
 f2:∀h',Z0 h h' []->Frz h' c2 (.sl (T.pk.map Zg))
 n1:Wd c1=some T.j.length/\T.j.length<=Zz
 n2:Wd c2=some T.pk.length/\T.pk.length<=Zz
 l1:∀k∈Z c1,k∈ta/\k≠lt
 l2:∀k∈Z c2,k∈ta/\k≠lt
 l12:∀k∈Z c1,k∉Z c2
 m1:T.j≠[]->MR h 3 c1 (T.j.map λc=>c.z.map C.d)
 m2:T.pk≠[]->MR h 1 c2 (T.pk.map λc=>(Zg c).map C.d)
 e1:∀k c,T.j[k]?=some c->∃l2 cap2 B2,c1=.mrow l2 0 T.j.length cap2/\Elem h l2 k 3 (c.z.map C.d) B2/\
  ∀g vs c',g+vs.length<=3->Zi (c.z.map C.d) g vs=c'.z.map C.d->Sc (h.xV l2 (Zi B2 (k*3+g) vs)) l {S with q:=S.q.set i {T with j:=T.j.set k c'}} tc fc oc ta fa oa
 e2:∀k v,T.pk[k]?=some v->∃l2 cap2 B2,c2=.mrow l2 0 T.pk.length cap2/\Elem h l2 k 1 [.d (.int .i64 v)] B2/\
  ∀v',Sc (h.xV l2 (Zi B2 (k*1) [.d (.int .i64 v')])) l {S with q:=S.q.set i {T with pk:=T.pk.set k v'}} tc fc oc ta fa oa
 s1:∀h' c1' cols',MR h' 3 c1' (cols'.map λc=>c.z.map C.d)->Z0 h h' (Z c1)->(∀k∈Z c1',k∈Z c1\/(k∉l::(ta++(fa++oa))/\k.1<h'.p))->
  ∃ta',Sc (h'.xV lt (Zi B (i*3+1) [c1'])) l {S with q:=S.q.set i {T with j:=cols'}} tc fc oc ta' fa oa/\∀k∈ta',k∈ta\/k∈Z c1'
 s2:∀h' c2' pk',MR h' 1 c2' (pk'.map λc=>(Zg c).map C.d)->Z0 h h' (Z c2)->(∀k∈Z c2',k∈Z c2\/(k∉l::(ta++(fa++oa))/\k.1<h'.p))->
  ∃ta',Sc (h'.xV lt (Zi B (i*3+2) [c2'])) l {S with q:=S.q.set i {T with pk:=pk'}} tc fc oc ta' fa oa/\∀k∈ta',k∈ta\/k∈Z c2'
def Af{α:Type}{f:α->aC}{a:List α}:(a.map λc=>(f c).map C.d)=(a.map f).map (·.map C.d):=I
def Part.data{h n g c qs f}(P:Part h g c qs f)(i:g=List.replicate n .d)(k:∀d∈f,∀x∈d,x.flat=true):MR h n c (f.map (·.map C.d))/\Z4 c qs=Z c:=by
 have j:=P.ds;subst j;have b:=λq a=>(P.ow q a).flat i (k q.2.1 (Yi.2 ⟨q,a,rfl⟩));have e:qs.map (·.1)=(qs.map (·.2.1)).map (·.map C.d):=by
  rw[YY];exact YN λq a=>(b q a).1
 have l:g.length=n:=by rw[i];simp
 refine⟨by rw[<-e,<-l];exact P.mr,?_⟩
 have:qs.flatMap (·.2.2)=[]:=by
  rw[XT];exact λq a=>(b q a).2
 rw[Z4,this,Ym]
set_option maxHeartbeats 1000000 in
def Sc.tbl{h:HS}{l:Z2}{S:Sch}{X fc oc ta fa oa}(s:Sc h l S X fc oc ta fa oa){i T}(hi:S.q[i]?=some T):∃o R U B,TblV h l S X fc oc ta fa oa i T o R U B:=by
 obtain⟨A,qf,qo,rfl,rfl,rfl,s⟩:=s;have au:=s.nds.1;have H:∀k∈Z4 X A,k.1<h.p:=λk e=>s.lt k (by simp[e]);have⟨q,o,cap,sp,F,m,w,Y,h5,h6⟩:=s.t.elem (Ai hi);have hm:o∈Z4 X A:=by rw[Y];simp[Z4,Z]
 rw[L6] at h5 h6;have⟨qc,qd,ql⟩:=q;simp only at m w h6;subst m;obtain⟨c0,x0,cs,ds,rfl,e1,e2,h7⟩:=w.jJ;simp only[E.z,List.cons.injEq] at e1;obtain⟨rfl,rfl⟩:=e1;obtain rfl:=(Frz.data (h:=h) e2).flat rfl;obtain⟨R,a8,lc,lr,rfl,rfl,L,h8⟩:=h7.split;obtain⟨U,a1,lp,lz,rfl,rfl,M,h9⟩:=h8.split;obtain⟨rfl,_,rfl⟩:=h9.qV;have aj:=Li au F;simp only[Ym,Yk] at aj;have⟨ag,ah,N⟩:=aj;have u:∀k,k∈lc\/k∈lp->k∈Z4 X A/\k≠o:=λk e=>⟨UJ F (sU e),λG=>BC au F (sU e) (by rw[G,Y];simp[Z])⟩;have ak:=EU (Ai (f:=λq:Q=>q.1) F);have am:∀h',(∀k∈lc,h'.a k=h.a k)->Ow h' [.r [.d,.d,.d]] [R] [.sl (T.j.map Col.z)] lc:=λh' V=>L.frame V;have ao:∀h',(∀k∈lp,h'.a k=h.a k)->Ow h' [.r [.d]] [U] [.sl (T.pk.map Zg)] lp:=λh' V=>M.frame V;have mk:∀{h':HS} {c1' c2':C} {T':E} {a b:List Z2},T'.y=T.y->Ow h' [.r [.d,.d,.d]] [c1'] [.sl (T'.j.map Col.z)] a->Ow h' [.r [.d]] [c2'] [.sl (T'.pk.map Zg)] b->Ow h' WI [.d (.str T.y),c1',c2'] T'.z (a++b):=λhn x y=>by
  have:=Ow.data (c:=.d (.str T.y)) rfl (x.join (y.join .nil))
  rw[Ym] at this
  rwa [E.z,hn]
 have nw:∀{z:Z2} {B2:aD},z∈lc\/z∈lp->Z0 h (h.xV z B2) (Z X++(lc++(lp++[]))):=λhl=>Z0.rN (by simpa using .inr hl);have ap:∀{h':HS},(∀_,h'.a o=h.a o)->MR h' 3 X ((A.map (·.1)).set i [C.d (.str T.y),R,U]):=λV=>by
  rw[ak];exact s.t.mr.frame λk e=>by rw[Y] at e;simp[Z] at e;rw[e];exact V o
 have p1:=λK=>L.wD (sU K);have p2:=λK=>M.wD (sU K);have n1:=L.wL;have n2:=M.wL;refine⟨o,R,U,_,h6,⟨cap,sU Y⟩,hm,λh' hs=>(am h' λk e=>hs.2 k (H k (u k (.inl e)).1) I).rV,λh' hs=>(ao h' λk e=>hs.2 k (H k (u k (.inr e)).1) I).rV,sU n1,sU n2,
  λk e=>⟨(u k (.inl (L.jD k e))).1,(u k (.inl (L.jD k e))).2⟩,λk e=>⟨(u k (.inr (M.jD k e))).1,(u k (.inr (M.jD k e))).2⟩,λk e ax=>N k (L.jD k e) k (M.jD k ax) rfl,λK=>?_,λK=>?_,λk c e=>?_,λk v e=>?_,λh' c1' af ay al az=>?_,λh' c2' aq hm2 hs2 t=>?_⟩
 have⟨W,_,P1⟩:=p1 K;rw[Af];exact(P1.data rfl (by simp[D.flat])).1;have⟨a7,_,P2⟩:=p2 K;rw[Af];exact(P2.data rfl (by simp[D.flat])).1;obtain⟨W,rfl,P1⟩:=p1 (λK=>by rw[K] at e;simp at e);have⟨z,J,B2,k1,k2,_,k4⟩:=P1.rD (n:=3) rfl (Ai e) c.flat;have t:z∈Z4 R W:=by rw[k1];simp[Z4,Z]
 refine⟨z,J,B2,sU k1,k2,λg vs c' hg O=>?_⟩;have⟨ar,k5,k6⟩:=k4 g vs c'.z ag hg O rfl;have ho:=mk (h':=h.xV z (Zi B2 (k*3+g) vs)) (T':={T with j:=T.j.set k c'}) rfl (by rw[Ds];exact k5▸Ow.rT k6) (ao _ λp P=>by
  have:p≠z:=λG=>N z t p P G.symm
  simp[this])
 have:=s.wO F (ap λ_=>by have:=(u z (.inl t)).2;simp[this.symm]) ho (nw (.inl t)) (by rw[Yk];exact⟨ag,ah,N⟩) (λk e=>.inl (sU e))
 exact⟨_,qf,qo,(Do F I).symm,rfl,rfl,this⟩;obtain⟨W,rfl,P1⟩:=p2 (λK=>by rw[K] at e;simp at e);have⟨z,J,B2,k1,k2,_,k4⟩:=P1.rD (n:=1) rfl (Ai e) (KX v);have t:z∈Z4 U W:=by rw[k1];simp[Z4,Z]
 refine⟨z,J,B2,sU k1,k2,λv'=>?_⟩;have⟨ar,k5,k6⟩:=k4 0 [.d (.int .i64 v')] [.int .i64 v'] ah I I I;simp only[Xl] at k6;have ho:=mk (h':=h.xV z (Zi B2 (k*1) [.d (.int .i64 v')])) (T':={T with pk:=T.pk.set k v'}) rfl (am _ λp P=>by
  have:p≠z:=λG=>N p P z t G
  simp[this]) (by rw[Ds];exact k5▸Ow.rT k6)
 have:=s.wO F (ap λ_=>by have:=(u z (.inr t)).2;simp[this.symm]) ho (nw (.inr t)) (by rw[Yk];exact⟨ag,ah,N⟩) (λk e=>.inl (sU e))
 exact⟨_,qf,qo,(Do F I).symm,rfl,rfl,this⟩;have aw:=al.2 o (H o hm) λe=>(u o (.inl (L.jD o e))).2 rfl;have ae:∀k∈Z c1',k≠o/\k∉lp/\(k∈lc\/(k∉l::(Z4 X A++(Z4 fc qf++Z4 oc qo))/\k.1<h'.p)):=λk e=>by
  rcases az k e with m|m
  have:=L.jD k m
  exact⟨(u k (.inl this)).2,λw=>N k this k w rfl,.inl this⟩;exact⟨λG=>m.1 (by simp[G,hm]),λw=>m.1 (by simp[(u k (.inr w)).1]),.inr m⟩
 have ho:=mk (h':=h'.xV o (Zi (Zb (A.map (·.1)) sp) (i*3+1) [c1'])) (c2':=U) (T':={T with j:=af}) rfl (Ow.rL (by
   rw[<-Af];exact ay.frame λk e=>by simp[(ae k e).1]) rfl I) (ao _ λp P=>by
  have m:=u p (.inr P)
  have:h'.a p=h.a p:=al.2 p (H p m.1) λw=>N p (L.jD p w) p P rfl
  simp[m.2,this])
 have O:=BK (sp:=sp) (vs:=[c1']) (f:=1) s.t.mr.1 (Ai F) (by simp[WI]);simp only[L6] at O
 have:=s.wO (T':={T with j:=af}) F (h':=h'.xV o (Zi (Zb (A.map (·.1)) sp) (i*3+1) [c1'])) (cs':=[.d (.str T.y),c1',U]) (lq':=Z c1'++lp) ?_ ho ?_ ?_ ?_
 refine⟨_,⟨_,qf,qo,rfl,rfl,rfl,this⟩,λk e=>?_⟩;rcases Kn F e with m|m;exact .inl m;simp only[Y3] at m;rcases m with m|m;exact .inr m;exact .inl (u k (.inr m)).1;refine⟨s.t.mr.1.set (by simp[WI]),sU s.t.mr.2.1,.inr ⟨o,cap,sp,?_,by simp[O],?_⟩⟩;have e3:A.length=S.q.length:=by have:=congrArg List.length s.t.ds;simpa using this
 rw[Y];simp[e3];have e4:Zb ((A.map (·.1)).set i [.d (.str T.y),c1',U]) sp=Zi (Zb (A.map (·.1)) sp) (i*3+1) [c1']:=by rw[O];simp
 rwa [e4,A6 (by have:=h6.le;simp;omega)]
 exact(al.mono λk e=>by simp[L.jD k e]).xV (.inl (by rw[Y];simp[Z]));rw[Yk];exact⟨Vx,ah,λa ha b V G=>(ae a ha).2.1 (G▸V)⟩;intro k e;rcases Y3.1 e with m|m;exact(ae k m).2.2.imp (λw=>by simp[w]) id;exact .inl (by simp[m]);have aw:=hs2.2 o (H o hm) λe=>(u o (.inr (M.jD o e))).2 rfl;have ae:∀k∈Z c2',k≠o/\k∉lc/\(k∈lp\/(k∉l::(Z4 X A++(Z4 fc qf++Z4 oc qo))/\k.1<h'.p)):=λk e=>by
  rcases t k e with m|m
  have:=M.jD k m
  exact⟨(u k (.inr this)).2,λw=>N k w k this rfl,.inl this⟩;exact⟨λG=>m.1 (by simp[G,hm]),λw=>m.1 (by simp[(u k (.inl w)).1]),.inr m⟩
 have ho:=mk (h':=h'.xV o (Zi (Zb (A.map (·.1)) sp) (i*3+2) [c2'])) (c1':=R) (T':={T with pk:=aq}) rfl (am _ λp P=>by
  have m:=u p (.inl P)
  have:h'.a p=h.a p:=hs2.2 p (H p m.1) λw=>N p P p (M.jD p w) rfl
  simp[m.2,this]) (Ow.rL (by
   rw[<-Af];exact hm2.frame λk e=>by simp[(ae k e).1]) rfl I)
 have O:=BK (sp:=sp) (vs:=[c2']) (f:=2) s.t.mr.1 (Ai F) (by simp[WI]);simp only[L6] at O
 have:=s.wO (T':={T with pk:=aq}) F (h':=h'.xV o (Zi (Zb (A.map (·.1)) sp) (i*3+2) [c2'])) (cs':=[.d (.str T.y),R,c2']) (lq':=lc++Z c2') ?_ ho ?_ ?_ ?_
 refine⟨_,⟨_,qf,qo,rfl,rfl,rfl,this⟩,λk e=>?_⟩;rcases Kn F e with m|m;exact .inl m;simp only[Y3] at m;rcases m with m|m;exact .inl (u k (.inl m)).1;exact .inr m;refine⟨s.t.mr.1.set (by simp[WI]),sU s.t.mr.2.1,.inr ⟨o,cap,sp,?_,by simp[O],?_⟩⟩;have e3:A.length=S.q.length:=by have:=congrArg List.length s.t.ds;simpa using this
 rw[Y];simp[e3];have e4:Zb ((A.map (·.1)).set i [.d (.str T.y),R,c2']) sp=Zi (Zb (A.map (·.1)) sp) (i*3+2) [c2']:=by rw[O];simp
 rwa [e4,A6 (by have:=h6.le;simp;omega)]
 exact(hs2.mono λk e=>by simp[M.jD k e]).xV (.inl (by rw[Y];simp[Z]));rw[Yk];exact⟨ag,Vx,λa ha b V G=>(ae b V).2.1 (G▸ha)⟩;intro k e;rcases Y3.1 e with m|m;exact .inl (by simp[m]);exact(ae k m).2.2.imp (λw=>by simp[w]) id
def Sc.jC{h l S j m o g k b n a i B T}(s:Sc h l S (.mrow b 0 n a) j m o g k)(p:h.a b=some B)(q:S.q[i]?=some T):∃c d,TblV h l S (.mrow b 0 n a) j m o g k i T b c d B:=by have⟨lt,c,d,B2,v⟩:=s.tbl q;have⟨cap2,e⟩:=v.hd;simp at e;obtain⟨rfl,-,-⟩:=e;have f:=v.el.a;rw[p] at f;cases f;exact⟨c,d,v⟩
def Zy.app{n:Nat}{a b}(c:Zy n a)(d:Zy n b):Zy n (a++b):=Zy.append.2 ⟨c,d⟩
def Wl{P H A}{n y d:Nat}{h c x xs ys K}(w:ZC P H=some (A,n,y))(G:(W3 P A).isSome=true)(B:0<n)(D:y<=4096)(q:MR h n c xs)(M:Zr h n x ys)(p:xs.length+ys.length<=Zz)
  (e:∀r f,MR f n r (xs++ys)->Z0 h f (Z c)->(∀k∈Z r,k∈Z c\/(h.p<=k.1/\k.1<f.p))->K (.one r) f):Ud P H c x d h (K:=⟨K⟩):=by
 have⟨E,u,i,_⟩:=M;have g:=q.1;have j:∀a,(xs++ys).length<=a->∀f,f.a (h.p,16*d)=some (Zb (xs++ys) (List.replicate ((a-(xs++ys).length)*n) .any))->MR f n (.mrow (h.p,16*d) 0 (xs++ys).length a) (xs++ys):=λa b f m=>by
  refine⟨g.app i,sU p,.inr ⟨_,a,_,rfl,m,?_⟩⟩;rw[V2 (g.app i),Xi,<-YP]
  congr 1
  omega
 rcases q.2.2 with⟨rfl,L⟩|⟨l,cap,sp,rfl,m,b⟩;have s:VW h n c=some (0,0,[],none):=by rcases L with rfl|rfl<;>rfl
 refine Dt w s E u G B D (sU p) i.flatten I (λo=>?_) (λo C=>X) (λ_ _ a b=>?_)
 have:ys=[]:=YF o
 subst this;exact e _ _ (sU q) .refl (λk e=>.inl e);simp only[XI] at b|-;refine e _ _ (j a (sU b) _ ?_) ((Z0.refl.xV (.inr (Y7 _))).w) (by simp[Z]);simp[Zb];have z:=EK (off:=0) (k:=xs.length) (cap:=cap) g m I;have s:VW h n (.mrow l 0 xs.length cap)=some (xs.length,cap,xs.flatten,some (l,0)):=by simp only[Nat.zero_mul,XU,Yl] at z;show(match Wz h n (.mrow l 0 xs.length cap) with|some cs=>_|none=>_)=_;rw[z]
 refine Dt w s E u G B D p i.flatten g.flatten (λo=>?_) (λ_ C l' off F=>?_) (λ_ _ a J=>?_)
 have:ys=[]:=YF o
 subst this;exact e _ _ (sU q) .refl (λk e=>.inl e);simp only[Ya,YG] at F;obtain⟨rfl,rfl⟩:=F;have al:=Xq n C;refine⟨_,m,by rw[b];omega,?_⟩;have t:=IU (sp:=sp) g i (Y7 _);rw[Yl] at t;rw[XI,t];refine e _ _ ⟨g.app i,sU p,.inr ⟨l,cap,(Zb xs sp).drop ((xs.length+ys.length)*n),I,I,?_⟩⟩ (Z0.refl.xV (.inl (by simp[Z]))) (λk e=>.inl e);rw[V2 (g.app i),Xm,b,Ye];omega;have v:=j a (sU J) (((h.xV (h.p,16*d) (xs.flatten++ys.flatten++List.replicate ((a-(xs.length+ys.length))*n) .any)).w)) (by simp[Zb]);rw[Ye] at v;refine e _ _ v ((Z0.refl.xV (.inr (Y7 _))).w) (by simp[Z])
def J2{P L C}{n A d:Nat}{h c x e f K}(z:ZC P L=some (C,n,A))(J:(W3 P C).isSome=true)(D:0<n)(F:A<=4096)(t:MR h n c e)(O:Zr h n x f)(s:e.length+f.length<=Zz)
  (m:∀q g,MR g n q (e++f)->((Z0 h g (Z c)/\Z q=Z c)\/(Z0 h g []/\∀k∈Z q,h.p<=k.1/\k.1<g.p))->K (.one q) g):Ud P L c x d h (K:=⟨K⟩):=by
 have⟨G,w,j,_⟩:=O;have i:=t.1;have o:∀a,(e++f).length<=a->∀g,g.a (h.p,16*d)=some (Zb (e++f) (List.replicate ((a-(e++f).length)*n) .any))->MR g n (.mrow (h.p,16*d) 0 (e++f).length a) (e++f):=λa b g p=>by
  refine⟨i.app j,sU s,.inr ⟨_,a,_,rfl,p,?_⟩⟩;rw[V2 (i.app j),Xi,<-YP]
  congr 1
  omega
 rcases t.2.2 with⟨rfl,N⟩|⟨l,cap,sp,rfl,p,b⟩;have u:VW h n c=some (0,0,[],none):=by rcases N with rfl|rfl<;>rfl
 refine Dt z u G w J D F (sU s) j.flatten I (λr=>?_) (λr E=>X) (λ_ _ a b=>?_)
 have:f=[]:=YF r
 subst this;exact m _ _ (sU t) (.inl ⟨.refl,rfl⟩);simp only[XI] at b|-;refine m _ _ (o a (sU b) _ ?_) (.inr ⟨(Z0.refl.xV (.inr (Y7 _))).w,by simp[Z]⟩);simp[Zb];have B:=EK (off:=0) (k:=e.length) (cap:=cap) i p I;have u:VW h n (.mrow l 0 e.length cap)=some (e.length,cap,e.flatten,some (l,0)):=by simp only[Nat.zero_mul,XU,Yl] at B;show(match Wz h n (.mrow l 0 e.length cap) with|some cs=>_|none=>_)=_;rw[B]
 refine Dt z u G w J D F s j.flatten i.flatten (λr=>?_) (λ_ E l' off H=>?_) (λ_ _ a M=>?_)
 have:f=[]:=YF r
 subst this;exact m _ _ (sU t) (.inl ⟨.refl,rfl⟩);simp only[Ya,YG] at H;obtain⟨rfl,rfl⟩:=H;have al:=Xq n E;refine⟨_,p,by rw[b];omega,?_⟩;have v:=IU (sp:=sp) i j (Y7 _);rw[Yl] at v;rw[XI,v];refine m _ _ ⟨i.app j,sU s,.inr ⟨l,cap,(Zb e sp).drop ((e.length+f.length)*n),I,I,?_⟩⟩ (.inl ⟨Z0.refl.xV (.inl (by simp[Z])),rfl⟩);rw[V2 (i.app j),Xm,b,Ye];omega;have y:=o a (sU M) (((h.xV (h.p,16*d) (e.flatten++f.flatten++List.replicate ((a-(e.length+f.length))*n) .any)).w)) (by simp[Zb]);rw[Ye] at y;refine m _ _ y (.inr ⟨(Z0.refl.xV (.inr (Y7 _))).w,by simp[Z]⟩)
def Ks{α:Type}(b:α->α->Bool):∀k i a,(WG b k i a).Perm a
 |0,_,_=>.refl _
 |k+1,i,a=>(Ks b k (i+1) _).trans (Og b i a)
def OH{α β:Type}{c b}{f:α->β}(d:∀x y,b (f x) (f y)=c x y):∀j a,Uv b j (a.map f)=(Uv c j a).map f
 |0,a=>rfl
 |j+1,a=>by
   unfold Uv;rw[Y9,Y9];cases h1:a[j+1]? with
   |none=>rfl
   |some x=>?_
   cases h2:a[j]? with
   |none=>rfl
   |some y=>?_
   simp only[Yp,d];cases c x y with
   |false=>rfl
   |true=>?_
   simp only[if_true];rw[<-OH d j,YJ,YJ]
def Ig{α β:Type}{lt lt'}{f:α->β}(b:∀x y,lt' (f x) (f y)=lt x y):∀k i a,WG lt' k i (a.map f)=(WG lt k i a).map f
 |0,_,a=>rfl
 |k+1,i,a=>by simp only[WG];rw[OH b,Ig b k]
end
end Go.Am
