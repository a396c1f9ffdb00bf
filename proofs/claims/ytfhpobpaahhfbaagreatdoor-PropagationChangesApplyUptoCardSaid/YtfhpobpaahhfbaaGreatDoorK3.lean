import Derived.Test.YtfhpobpaahhfbaaGreatDoorK2
set_option linter.all false
set_option maxRecDepth 20000
open Go Go.Proofs
open Go.Proofs.Tryz
open ByteArray(empty)
open Go.IntKind(i64)
namespace Go.Am
section
def Part.add{h b e c g qs j x d n}(P:Part h e c qs j)(o:(Z4 c qs).Nodup)(f:∀k∈Z4 c qs,k.1<h.p)(r:MR b e.length g (qs.map (·.1)++[x]))(t:Z0 h b (Z c))(s:Ow b e x d n):
  Part b e g (qs++[(x,d,n)]) (j++[d]):=by
 have p:=P.ds;subst p;refine⟨sU r,I,λq a=>?_⟩;rcases Y3.1 a with a|a;refine(P.ow q a).frame λk m=>?_;have⟨i,l⟩:=Xh a;exact t.2 k (f k (UJ l m)) (BC o l m);simp at a;subst a;exact s
def Iw{c j qs x d m}{n:Nat}(i:(Z4 c qs).Nodup)(f:∀k∈Z4 c qs,k.1<n)(o:∀k∈Z j,k∈Z c\/n<=k.1)(p:m.Nodup)(h:∀k∈m,k∉Z4 c qs/\k∉Z j):(Z4 j (qs++[(x,d,m)])).Nodup:=by
 simp only[Z4,List.flatMap_append,YI,XS,Ym,Yk,Y3] at i f h|-;refine⟨Vx,⟨i.2.1,p,λa g b e l=>(h b e).1 (.inr (l▸g))⟩,λa g b e l=>?_⟩;subst l;rcases e with e|e;rcases o a g with h1|h1;exact i.2.2 a h1 a e rfl
 have:=f a (.inr e);omega
 exact(h a e).2 g
def Bz{a:C}{qs:List Q}{x:aD}{d:aC}{b:List Z2}{k:Z2}(c:k∈Z4 a (qs++[(x,d,b)])):k∈Z a\/k∈qs.flatMap (·.2.2)\/k∈b:=by simpa[Z4] using c
def SF(h:HS)(n:Nat)(c:C)(e:Nat)(g:List Sh)(own:List Z2)(R:HS->C->aC->List Z2->Prop):Prop:=∃f,MR h n c f/\f.length=e/\
 ∀h' a x d b,MR h' n a (f++[x])->Z0 h h' (Z c)->(∀k∈Z a,k∈Z c\/(h.p<=k.1/\k.1<h'.p))->Ow h' g x d b->b.Nodup->(∀k∈b,k.1<h'.p/\k∉own/\k∉Z a)->R h' a d b
def Sc.wG{h l S}{v p t:C}{u o r:List Z2}(s:Sc h l S v p t u o r):SF h 3 v S.q.length WI (l::(u++(o++r))) λw j d n=>∀T,d=E.z T->
  ∃i,Sc (w.xV l [j,p,t]) l {S with q:=S.q++[T]} j p t i o r/\∀k∈i,k∈u\/k∈n\/h.p<=k.1:=by
 obtain⟨g,K,L,rfl,rfl,rfl,s⟩:=s;have e:g.length=S.q.length:=by have:=congrArg List.length s.t.ds;simpa using this
 have f:∀k∈Z4 v g,k.1<h.p:=λk a=>s.lt k (by simp[a]);refine⟨g.map (λq:Q=>q.1),s.t.mr,sU e,λw j x d n F y m G J c T B=>?_⟩;subst B;have H:=s.t.add s.nds.1 f F y G;have z:∀k∈Z4 j (g++[(x,T.z,n)]),k≠l:=λk a D=>by
  subst D;rcases Bz a with h1|h1|h1;rcases m k h1 with b|b;exact s.ne.1 (by simp[Z4,b])
  have:=s.lt k I;omega
  exact s.ne.1 (by simp[Z4];right;simpa using h1);exact(c k h1).2.1 I
 refine⟨_,⟨_,K,L,rfl,rfl,rfl,s.wS I (qt':=g++[(x,T.z,n)]) (by simpa using H.frame λk a=>by simp[z k a]) ((y.mono λk a=>by simp[Z4,a]).xV (.inl I)) (Iw s.nds.1 f (λk a=>(m k a).imp_right And.left) J λk a=>⟨λb=>(c k a).2.1 (by simp[b]),(c k a).2.2⟩) λk a=>?_⟩,λk a=>?_⟩;rcases Bz a with h1|h1|h1;rcases m k h1 with b|b;exact .inl (by simp[Z4,b]);exact .inr ⟨λA=>by have:=s.lt k A;omega,sU b.2⟩;exact .inl (by simp[Z4];right;simpa using h1);exact .inr ⟨(c k h1).2.1,sU ((c k h1).1)⟩;rcases Bz a with h1|h1|h1;rcases m k h1 with b|b;exact .inl (by simp[Z4,b]);exact .inr (.inr b.1);exact .inl (by simp[Z4];right;simpa using h1);exact .inr (.inl h1)
def Sc.rB{h l S}{v p t:C}{u o r:List Z2}(s:Sc h l S v p t u o r):SF h 3 p S.b.length VB (l::(u++(o++r))) λy j d n=>∀T,d=Fk.z T->
  ∃w,Sc (y.xV l [v,j,t]) l {S with b:=S.b++[T]} v j t u w r/\∀k∈w,k∈o\/k∈n\/h.p<=k.1:=by
 obtain⟨L,i,K,rfl,rfl,rfl,s⟩:=s;have f:i.length=S.b.length:=by have:=congrArg List.length s.f.ds;simpa using this
 have g:∀k∈Z4 p i,k.1<h.p:=λk a=>s.lt k (by simp[a]);refine⟨i.map (λq:Q=>q.1),s.f.mr,sU f,λy j x d n F z m G J e T D=>?_⟩;subst D;have H:=s.f.add s.nds.2.1 g F z G;have A:∀k∈Z4 j (i++[(x,T.z,n)]),k≠l:=λk a E=>by
  subst E;rcases Bz a with h1|h1|h1;rcases m k h1 with c|c;exact s.ne.2.1 (by simp[Z4,c])
  have:=s.lt k I;omega
  exact s.ne.2.1 (by simp[Z4];right;simpa using h1);exact(e k h1).2.1 I
 refine⟨_,⟨L,_,K,rfl,rfl,rfl,s.xI I (qf':=i++[(x,T.z,n)]) (by simpa using H.frame λk a=>by simp[A k a]) ((z.mono λk a=>by simp[Z4,a]).xV (.inl I)) (Iw s.nds.2.1 g (λk a=>(m k a).imp_right And.left) J λk a=>⟨λc=>(e k a).2.1 (by simp[c]),(e k a).2.2⟩) λk a=>?_⟩,λk a=>?_⟩;rcases Bz a with h1|h1|h1;rcases m k h1 with c|c;exact .inl (by simp[Z4,c]);exact .inr ⟨λB=>by have:=s.lt k B;omega,sU c.2⟩;exact .inl (by simp[Z4];right;simpa using h1);exact .inr ⟨(e k h1).2.1,sU ((e k h1).1)⟩;rcases Bz a with h1|h1|h1;rcases m k h1 with c|c;exact .inl (by simp[Z4,c]);exact .inr (.inr c.1);exact .inl (by simp[Z4];right;simpa using h1);exact .inr (.inl h1)
def Sc.wT{h l S}{m j f:C}{u p t:List Z2}(s:Sc h l S m j f u p t):∃n,MR h 7 f n/\n.length=S.cons.length/\
  ∀c b T,MR c 7 b (n++[T.z.map C.d])->Z0 h c (Z f)->(∀k∈Z b,k∈Z f\/(h.p<=k.1/\k.1<c.p))->
  ∃o,Sc (c.xV l [m,j,b]) l {S with cons:=S.cons++[T]} m j b u p o/\∀k∈o,k∈t\/h.p<=k.1:=by
 obtain⟨B,A,g,rfl,rfl,rfl,s⟩:=s;have d:g.length=S.cons.length:=by have:=congrArg List.length s.o.ds;simpa using this
 have e:∀k∈Z4 f g,k.1<h.p:=λk a=>s.lt k (by simp[a]);refine⟨g.map (λq:Q=>q.1),s.o.mr,sU d,λc b T x r i=>?_⟩;have y:Ow c BS (T.z.map C.d) T.z []:=Ow.qK (ds:=T.z);have z:=s.o.add s.nds.2.2 e x r y;have v:∀k∈Z4 b (g++[(T.z.map C.d,T.z,[])]),k≠l:=λk a w=>by
  subst w;rcases Bz a with h1|h1|h1;rcases i k h1 with h2|h2;exact s.ne.2.2.1 (by simp[Z4,h2])
  have:=s.lt k I;omega
  exact s.ne.2.2.1 (by simp[Z4];right;simpa using h1);simp at h1
 refine⟨_,⟨B,A,_,rfl,rfl,rfl,s.wN I (qo':=g++[(T.z.map C.d,T.z,[])]) (by simpa using z.frame λk a=>by simp[v k a]) ((r.mono λk a=>by simp[Z4,a]).xV (.inl I)) (Iw s.nds.2.2 e (λk a=>(i k a).imp_right And.left) Y3j I) λk a=>?_⟩,λk a=>?_⟩;rcases Bz a with h1|h1|h1;rcases i k h1 with h2|h2;exact .inl (by simp[Z4,h2]);exact .inr ⟨h2.1,sU h2.2⟩;exact .inl (by simp[Z4];right;simpa using h1);simp at h1;rcases Bz a with h1|h1|h1;rcases i k h1 with h2|h2;exact .inl (by simp[Z4,h2]);exact .inr h2.1;exact .inl (by simp[Z4];right;simpa using h1);simp at h1
def Ow.ofD{h n d e p}(o:Ow h n d e p):∀{i:aC},ZB d=some i->i=e/\∀f,Ow f n (e.map C.d) e []:=by
 induction o with
 |nil=>intro i g;simp at g;exact⟨g,λ_=>.nil⟩
 |@data c x n d e p g hr ih=>?_
 |@emp es c n d e p g hr ih=>?_
 |@row es c qs n d e p hm hq hr ihq ih=>?_
 intro i a;simp only[ZB,g] at a;cases b:ZB d with
 |none=>rw[b] at a;cases a
 |some ys=>?_
 rw[b] at a;simp at a;have⟨k,m⟩:=ih b;subst a k;exact⟨rfl,λf=>.data rfl (m f)⟩;intro i a;simp only[ZB,g] at a;cases b:ZB d with
 |none=>rw[b] at a;cases a
 |some ys=>?_
 rw[b] at a;simp at a;have⟨k,m⟩:=ih b;subst a k;exact⟨rfl,λf=>.emp rfl (m f)⟩;intro i a;have j:c.toD=some (.sl [])/\qs=[]\/c.toD=none:=by rcases hm.2.2 with⟨b,rfl|rfl⟩|⟨l,cap,sp,rfl,_,_⟩;exact .inl ⟨rfl,sU b⟩;exact .inl ⟨rfl,sU b⟩;exact .inr rfl
 rcases j with⟨j,rfl⟩|j;simp only[ZB,j] at a;cases b:ZB d with
 |none=>rw[b] at a;cases a
 |some ys=>?_
 rw[b] at a;simp at a;have⟨k,m⟩:=ih b;subst a k;exact⟨rfl,λf=>.emp rfl (m f)⟩;simp[ZB,j] at a
def DF{x f g a b}(h:a=(ZB x).map λd=>[d])(i:b=some x)(c:∀d,ZB x=some d->f [d])(e:ZB x=none->g x):Fm a b (k:=⟨f⟩) (q:=⟨g⟩):=by
 subst h i;cases hx:ZB x with
 |none=>exact e hx
 |some d=>exact c d hx
def Zr.qU{h}{n:Nat}{l d}(a:d.length=n):Zr h n (.own l [d]) [d.map C.d]:=by refine⟨by simp[Wz,C.qE,a],by simp[Wd,C.qE],by simp[Zy,a],I⟩
def Zr.jY{h}{n:Nat}{l x}(a:x.length=n)(b:h.a l=some x):Zr h n (.mrow l 0 1 1) [x]:=by
 have:MR h n (.mrow l 0 1 1) [x]:=⟨by simp[Zy,a],I,.inr ⟨l,1,[],rfl,by simpa[Zb] using b,by simp[Zb,a]⟩⟩
 exact this.rd
def Sc.qI{h l S g c e f b d}(s:Sc h l S g c e f b d):(∀k∈Z g,k∈f)/\(∀k∈Z c,k∈b)/\(∀k∈Z e,k∈d):=by
 obtain⟨qt,qf,qo,rfl,rfl,rfl,_⟩:=s;exact⟨λk a=>by simp[Z4,a],λk a=>by simp[Z4,a],λk a=>by simp[Z4,a]⟩
def Sc.nl{h l S f d e c a b}(s:Sc h l S f d e c a b):l∉c/\l∉a/\l∉b:=by obtain⟨qt,qf,qo,rfl,rfl,rfl,s⟩:=s;exact⟨s.ne.1,s.ne.2.1,s.ne.2.2.1⟩
def Sc.keep{h c l S i b f}{g a e d:List Z2}(s:Sc h l S i b f g a e)(n:Z0 h c d)(m:∀k∈d,k∈g\/k∈a\/k∈e):c.a l=some [i,b,f]:=by
 rw[n.2 l (s.lt l I) λj=>?_];exact s.a
 have:=s.nl
 rcases m l j with h1|h1|h1;exact this.1 h1;exact this.2.1 h1;exact this.2.2 h1
def Sc.rZ{h g l S m f j e c d lz}(s:Sc h l S m f j e c d)(i:Z0 h g lz)(o:∀k∈lz,k∉l::(e++(c++d))):Sc g l S m f j e c d:=by
 obtain⟨r,p,q,rfl,rfl,rfl,s⟩:=s;have b:=λk a=>i.2 k (s.lt k a) λn=>o k n a;simp only[Y5,Y3] at b;exact⟨r,p,q,rfl,rfl,rfl,by rw[b l (.inl rfl),s.a],s.t.frame λk a=>b k (.inr (.inl a)),s.f.frame λk a=>b k (.inr (.inr (.inl a))),s.o.frame λk a=>b k (.inr (.inr (.inr a))),s.nd,λk a=>Y4 (s.lt k a) i.1⟩
def Sc.fkK{h l S q o p k m c}{n g i:Nat}{B f}(s:Sc h l S q (.mrow c 0 n g) o p k m)(z:h.a c=some B)(C:S.b[i]?=some f):
  c∈k/\l≠c/\∃j,Elem h c i 3 [.d (.str f.u),j,.d (.str f.ref)] B/\(∀t,Z0 h t []->Frz t j (.sl (f.j.map Zg)))/\(Wd j=some f.j.length/\f.j.length<=Zz)/\
   (∀a,Sc (h.xV c (Zi B (i*3) [.d (.str a)])) l {S with b:=S.b.set i ⟨a,f.j,f.ref⟩} q (.mrow c 0 n g) o p k m)/\
   (∀a,Sc (h.xV c (Zi B (i*3+2) [.d (.str a)])) l {S with b:=S.b.set i ⟨f.u,f.j,a⟩} q (.mrow c 0 n g) o p k m):=by
 have⟨aa,cap2,B2,j,e,u,v,x,y,w,h6⟩:=s.fk C;simp at e;obtain⟨rfl,-,rfl⟩:=e;have r:=v.a;rw[z] at r;cases r;refine⟨u,λA=>s.nl.2.1 (A▸u),j,v,x,y,λa=>?_,λa=>?_⟩
 have:=w 0 [.d (.str a)] ⟨a,f.j,f.ref⟩ rfl I I
 simpa using this;exact w 2 [.d (.str a)] ⟨f.u,f.j,a⟩ rfl I I
def Sc.fkH{h l S p b n o j m}{i:Nat}{f}(s:Sc h l S p b n o j m)(k:S.b[i]?=some f):∃lf cap B,b=.mrow lf 0 S.b.length cap/\h.a lf=some B/\i*3+3<=B.length:=by have⟨g,a,d,c1,e,_,c,_,_,_,_⟩:=s.fk k;exact⟨g,a,d,e,c.a,c.le⟩
def Sc.wH{h l S p k c o j n}{i:Nat}{f}(s:Sc h l S p k c o j n)(m:S.cons[i]?=some f):∃lf cap B,c=.mrow lf 0 S.cons.length cap/\h.a lf=some B/\i*7+7<=B.length:=by have⟨g,a,d,e,_,b,_⟩:=s.con m;exact⟨g,a,d,e,b.a,b.le⟩
def Sc.jR{h l S o k m j g b}{n c i:Nat}{B f}(s:Sc h l S o k (.mrow b 0 n c) m j g)(v:h.a b=some B)(x:S.cons[i]?=some f):
  b∈g/\l≠b/\Elem h b i 7 (f.z.map C.d) B/\
   (∀a,Sc (h.xV b (Zi B (i*7) [.d (.str a)])) l {S with cons:=S.cons.set i {f with u:=a}} o k (.mrow b 0 n c) m j g)/\
   (∀a,Sc (h.xV b (Zi B (i*7+1) [.d (.int .i64 a)])) l {S with cons:=S.cons.set i {f with left:=a}} o k (.mrow b 0 n c) m j g)/\
   (∀a,Sc (h.xV b (Zi B (i*7+3) [.d (.int .i64 a)])) l {S with cons:=S.cons.set i {f with right:=a}} o k (.mrow b 0 n c) m j g):=by
 have⟨aa,cap2,B2,e,r,t,p⟩:=s.con x;simp at e;obtain⟨rfl,-,rfl⟩:=e;have q:=t.a;rw[v] at q;cases q;refine⟨r,λw=>s.nl.2.2 (w▸r),t,λa=>?_,λa=>?_,λa=>?_⟩
 have:=p 0 [.d (.str a)] {f with u:=a} I I
 simpa using this;exact p 1 [.d (.int .i64 a)] {f with left:=a} I I;exact p 3 [.d (.int .i64 a)] {f with right:=a} I I
def Sc.fkN{h l S D A r C p z j}{n g i k:Nat}{B f}{v:Int}(s:Sc h l S D (.mrow j 0 n g) A C p z)(F:h.a j=some B)(I:S.b[i]?=some f)(J:f.j[k]?=some v)(G:Zs 1 (B.drop (i*3+1))=some [r]):
  ∃c a d,r=.mrow c 0 f.j.length a/\c∈p/\c≠j/\l≠c/\h.a c=some d/\Zs 1 (d.drop k)=some [.i v]/\k+1<=d.length/\
    ∀m,Sc (h.xV c (Zi d k [.i m])) l {S with b:=S.b.set i ⟨f.u,f.j.set k m,f.ref⟩} D (.mrow j 0 n g) A C p z:=by
 have⟨aa,a,d,c2,e,h1,x,h3,h4,h5,E⟩:=s.fk I;simp at e;obtain⟨rfl,-,rfl⟩:=e;have t:=x.a;rw[F] at t;cases t;have o:=x.rd 1 1 X;rw[G] at o;simp at o;subst o;have⟨c,a,d,K,y,L,q,M⟩:=E k v J;have u:=q.rd0 1 X;have w:=q.le;simp at u w;refine⟨c,a,d,K,y,L,λH=>s.nl.2.1 (H▸y),q.a,u,w,λm=>?_⟩;simpa using M m
def PY(a:aA)(c:Int->aB Int){ρ:Type}(i:Nat)(S:Sch)(next:Sch->aB ρ):aB ρ:=
 Za S.b i λf=>bif Z9 f.u a then
  WZ (λk S next=>Za S.b i λf=>Za f.j k λv=>Z1 (c v) λd=>next {S with b:=S.b.set i ⟨f.u,f.j.set k d,f.ref⟩}) next f.j.length 0 S
 else next S
def PX(a:aA)(b:Int->aB Int){ρ:Type}(i:Nat)(S:Sch)(next:Sch->aB ρ):aB ρ:=
 Za S.cons i λc=>bif !(Z9 c.u a) then next S else
  Z1 (b c.left) λv=>bif decide (0<=c.right) then Z1 (b c.right) λw=>next {S with cons:=S.cons.set i {c with left:=v,right:=w}} else next {S with cons:=S.cons.set i {c with left:=v}}
def D5(S:Sch)(a:aA)(b:Int->aB Int):aB Sch:=
 WZ (PY a b) (λS=>WZ (PX a b) (λS=>some S) S.cons.length 0 S) S.b.length 0 S
def Nd(h l P R Y O r t S S' j g A dss)(mr:Int->aB Int)(d:Is (D5 S j mr) S')(s:Sc h l S P R Y O r t)
  (T:∀h',Z0 h h' (r++t)->Uy h' (A.map Vf) (Wu dss))(hp:∀x v,Is (mr x) v->Zq prog g (.i x::Wu dss) (.i v))(K:V->HS->Prop)
  (hk:∀h',Sc h' l S' P R Y O r t->Z0 h h' (r++t)->K (.tup []) h'):
  Z5 prog 160 [.p l,.s j,.one (.fn g A)] h K:=by
 have hb:=s.a;refine Z5.qM func160 rfl kR rfl rfl I ?_;simp[hb];refine V6 s.len.2.1.1 ?_;simp;refine Z6.count (N:=(S.b.length:Int)) (λi y e B=>En e 89 [(0,.p l),(1,.s j),(2,.one (.fn g A)),(15,.one R),(16,.i S.b.length),(17,.i i)]/\y.b.length=S.b.length/\Sc B l y P R Y O r t/\Z0 h B (r++t)) (by simpa[D5] using d) ⟨I,rfl,s,.refl⟩ ?_ ?_;rintro i y e B ⟨a,az,M,ak⟩ hlt d;replace d:=Is.qQ d;have⟨f,hf,d⟩:=d;have ac:i<S.b.length:=X
 have F:i<y.b.length:=X;have ap:=M.len.2.1.2;simp only[UR] at ap;have hw:IntKind.i64.wrap ((i:Int)+1)=(i:Int)+1:=Y6 _ X;obtain⟨U,cf,Bf,rfl,G,_⟩:=M.fkH hf;obtain⟨bh,_,c1,el,-,ba,-,-⟩:=M.fkK G hf;have Z:=el.rd0 3 X;have r1:=el.rd 1 1 X;simp at Z r1;have q:Z0 B ((B.xV (B.p,112) [C.d (D.str empty),C.nil,C.d (D.str empty)]).w.xV (B.p,112) [.s f.u,c1,.s f.ref]) []:=((Z0.refl.xV (.inr (Y7 _))).w).xV (.inr (Y7 _));have E:=M.frame q;have J:=Zv (M.lt U (by simp[bh]));cases z:Z9 f.u j with|false=>?_|true=>?_;simp only[z,cond_false] at d;simp[a,ac,F,G,Z,z,hw];exact Zj.of y ⟨⟨by simp[a],az,E,ak.trans (q.mn)⟩,d⟩;simp only[z,cond_true] at d;simp[a,ac,F,G,Z,z];refine V6 ba.1 ?_;simp[a];have bb:((B.xV (B.p,112) [C.d (D.str empty),C.nil,C.d (D.str empty)]).w.xV (B.p,112) [.s f.u,c1,.s f.ref]).a U=some Bf:=by simp[J,G]
 refine Z6.count (N:=(f.j.length:Int)) (λk S2 m n=>Ek e m [(15,.one (.mrow U 0 y.b.length cf)),(6,.i i),(27,.one c1),(28,.i f.j.length),(29,.i k)] [0,1,2,16,17]/\
   S2.b.length=S.b.length/\(∃f2,S2.b[i]?=some f2/\f2.j.length=f.j.length)/\n.a U=some Bf/\Sc n l S2 P (.mrow U 0 y.b.length cf) Y O r t/\Z0 h n (r++t)) (sU d) ⟨by simp[a],az,⟨f,hf,rfl⟩,bb,E,ak.trans (q.mn)⟩ ?_ ?_
 rintro k S2 e o ⟨hF,u,⟨f2,aq,ao⟩,aj,s3,L⟩ hltk d;have a:=hF.an a;have⟨f3,aw,d⟩:=d.qQ;rw[aq] at aw;cases aw;have⟨v,hv,d⟩:=d.qQ;have⟨v',bf,d⟩:=d.bind;have au:k<f.j.length:=X
 have ah:k<f2.j.length:=X;have ax:=ba.2;simp only[UR] at ax;have bk:IntKind.i64.wrap ((k:Int)+1)=(k:Int)+1:=Y6 _ X;obtain⟨l2,cap2,B2,rfl,a8,ay,_,af,r4,bq,_⟩:=s3.fkN aj aq hv r1;have bp:=s3.a;simp[a,au,ah,af,r4];refine Z6.cu [0,4,8,9,10,1,2,3,5,6,7,11,12,13] (λm n=>Ek e m [(27,.one (.mrow l2 0 f2.j.length cap2))] [0,1,2,15,16,17,6,28,29]/\
  n.a U=some Bf/\Sc n l {S2 with b:=S2.b.set i ⟨f2.u,f2.j.set k v',f2.ref⟩} P (.mrow U 0 y.b.length cf) Y O r t/\Z0 h n (r++t)) ?_ ?_
 simp[bp,a,F,aj,r1];refine Zc (Z5.qD (hp v v' bf) ⟨.one (.frz (.data rfl)),T o L⟩ rfl ?_);simp[a,ah,af];refine⟨λ_ _ x=>x,X,Ze.of ⟨by simp[a],?_,?_,?_⟩⟩;simp[ay.symm,aj]
 have:=(s3.frame (Z0.refl.w:Z0 o o.w [])).fkN (sU aj) aq hv r1
 have⟨br,bm,B2',e1,k2,k3,k4,k5,k6,k7,k8⟩:=this;simp at e1;obtain⟨rfl,rfl⟩:=e1;simp only[Ll,af] at k5;cases k5;exact k8 v';exact(L.w).xV (.inl (by simp[a8]));rintro e h4 ⟨hF,bi,s5,Q⟩;have a:=hF.an a;simp[a,bk];have bg:i<S2.b.length:=X
 exact Zj.of _ ⟨⟨by simp[a],sU u,⟨⟨f2.u,f2.j.set k v',f2.ref⟩,by simp[bg],sU ao⟩,bi,s5,Q⟩,d⟩;rintro k S2 e o ⟨hF,u,⟨f2,_,ao⟩,_,s3,L⟩ hge d;have a:=hF.an a;have ad:¬k<f.j.length:=X
 simp[a,ad,hw];exact Zj.of S2 ⟨⟨by simp[a],u,s3,L⟩,d⟩;rintro i y e B ⟨a,_,M,ak⟩ hge d;have ad:¬i<S.b.length:=X
 have z:=M.a;simp[a,ad,z];refine V6 M.len.2.2.1 ?_;simp[a];refine Z6.count (N:=(y.cons.length:Int)) (λi S2 m n=>Ek e m [(52,.one Y),(53,.i y.cons.length),(54,.i i)] [0,1,2]/\S2.cons.length=y.cons.length/\Sc n l S2 P R Y O r t/\Z0 h n (r++t)) (sU d) ⟨by simp[a],rfl,M,ak⟩ ?_ ?_;rintro i S2 e o ⟨hF,u,E,q⟩ hlt d;have a:=hF.an a;replace d:=Is.qQ d;have⟨c,hc,d⟩:=d;have ac:i<y.cons.length:=X
 have F:i<S2.cons.length:=X;have ap:=E.len.2.2.2;simp only[UR] at ap;have hw:IntKind.i64.wrap ((i:Int)+1)=(i:Int)+1:=Y6 _ X;obtain⟨W,co,Bo,rfl,G,bt⟩:=E.wH hc;obtain⟨ar,_,el,-,_,_⟩:=E.jR G hc;have Z:=el.rd0 7 X;simp at Z;have hz:Z0 o ((o.xV (o.p,176) [C.d (D.str empty),C.i 0,C.d (D.str empty),C.i 0,C.i 0,C.i 0,C.d (D.str empty)]).w.xV (o.p,176) (c.z.map C.d)) []:=((Z0.refl.xV (.inr (Y7 _))).w).xV (.inr (Y7 _));have s4:=E.frame hz;simp only[Cons.z,Yb,Yf] at hz s4;have J:=Zv (E.lt W (by simp[ar]));cases z:Z9 c.u j with|false=>?_|true=>?_;simp only[z,XO,cond_true] at d;simp[a,ac,F,G,Z,z,hw];exact Zj.of S2 ⟨⟨by simp[a],u,s4,q.trans (hz.mn)⟩,d⟩;simp only[z,Xx,cond_false] at d;have⟨v,hv,d⟩:=d.bind;simp[a,ac,F,G,Z,z];have a7:=s4.a;have hy:=q.trans (hz.mn);generalize hX:(o.xV (o.p,176) [C.d (D.str empty),C.i 0,C.d (D.str empty),C.i 0,C.i 0,C.i 0,C.d (D.str empty)]).w.xV (o.p,176) [C.d (D.str c.u),C.i c.left,C.d (D.str c.op),C.i c.right,C.i c.value.g,C.i c.value.int,C.d (D.str c.value.text)]=HX at s4 a7 hy|-;have al:HX.a (o.p,176)=some [C.d (D.str c.u),C.i c.left,C.d (D.str c.op),C.i c.right,C.i c.value.g,C.i c.value.int,C.d (D.str c.value.text)]:=by rw[<-hX];simp
 have af:HX.a W=some Bo:=by rw[<-hX];simp[J,G]
 refine Z6.cu [0,4,5,6,7,1,2,3,8,9,10,11] (λm n=>Ek e m [(52,.one (.mrow W 0 S2.cons.length co)),(10,.i i),(11,.p (o.p,176))] [0,1,2,53,54]/\
  n.a (o.p,176)=some [C.d (D.str c.u),C.i c.left,C.d (D.str c.op),C.i c.right,C.i c.value.g,C.i c.value.int,C.d (D.str c.value.text)]/\n.a W=some (Zi Bo (i*7+1) [.i v])/\
  Sc n l {S2 with cons:=S2.cons.set i {c with left:=v}} P R (.mrow W 0 S2.cons.length co) O r t/\Z0 h n (r++t)) ?_ ?_
 simp[a,a7,al];refine Zc (Z5.qD (hp _ v hv) ⟨.one (.frz (.data rfl)),T _ hy⟩ rfl ?_);simp[a,F,af];refine⟨λ_ _ x=>x,X,Ze.of ⟨by simp[a],?_,I,?_,hy.w.xV (.inl (by simp[ar]))⟩⟩
 have:=J o.p 176 (Y7 _)
 have h9:¬(o.p,176)=W:=λhe=>by rw[he] at this;simp at this
 simp[h9,al];exact((s4.frame (Z0.refl.w:Z0 HX HX.w [])).jR (sU af) hc).2.2.2.2.1 v;rintro e h4 ⟨hF,ag,am,s5,Q⟩;have a:=hF.an a;have bn:({S2 with cons:=S2.cons.set i {c with left:=v}}:Sch).cons[i]?=some {c with left:=v}:=by simp[F]
 cases hr:decide (0<=c.right) with|false=>?_|true=>?_;simp only[hr,cond_false] at d;simp at hr;have bc:¬0<=c.right:=X
 simp[a,ag,bc,hw];exact Zj.of _ ⟨⟨by simp[a],sU u,s5,Q⟩,d⟩;simp only[hr,cond_true] at d;simp at hr;have⟨w,bd,d⟩:=d.bind;have bj:=s5.a;simp[a,ag,hr];refine Z6.cu [0,4,5,6,7,1,2,3,8,9,10,11] (λm n=>Ek e m [] [0,1,2,52,53,54]/\
  Sc n l {S2 with cons:=S2.cons.set i {c with left:=v,right:=w}} P R (.mrow W 0 S2.cons.length co) O r t/\Z0 h n (r++t)) ?_ ?_
 simp[a,bj,ag];refine Zc (Z5.qD (hp _ w bd) ⟨.one (.frz (.data rfl)),T _ Q⟩ rfl ?_);have a1:(Zi Bo (i*7+1) [C.i v]).length=Bo.length:=A6 (by simp<;>omega);simp[a,F,am,a1];refine⟨λ_ _ x=>x,X,Ze.of ⟨by simp[a],?_,Q.w.xV (.inl (by simp[ar]))⟩⟩
 have:=((s5.frame (Z0.refl.w:Z0 h4 h4.w [])).jR (sU am) bn).2.2.2.2.2 w
 simpa using this;rintro e h4 ⟨hF,s5,Q⟩;have a:=hF.an a;simp[a,hw];exact Zj.of _ ⟨⟨by simp[a],sU u,s5,Q⟩,d⟩;rintro i S2 e o ⟨hF,_,E,q⟩ hge d;have a:=hF.an a;have ad:¬i<y.cons.length:=X
 obtain rfl:=Zk d;simp[a,ad];exact hk _ E q
def DZ(column:Int)(k0:List Int):aB Int:=
 Zd (λ(i2:Nat) (x2:Int) (s2:Int) next_2=>bif decide (x2<column) then Zp (Wm (s2+1)) (next_2 (s2+1)) else next_2 s2) (λ(s2:Int)=>Zp (Wm (column-s2)) (some (column-s2))) k0 0 0
instance N5(column:Int)(k0:List Int):Con (DZ column k0) prog 188 [.one (.d (.int .i64 column)),.one (.rp [.sl (k0.map Zg)])] (λr=>.one (.d (.int .i64 r))):=by
 unfold DZ;have l1:LH (σ:=Int) 9 [0,7,8] [.d 4 (λs=>.int .i64 s)]:=.intro;exact go 22 func188
def Cj(s_:List Int)(v_:Int):aB Int:=
 Zd (λ(i2:Nat) (x2:Int) (s2:Unit) next_2=>bif (v_==x2) then some (i2:Int) else next_2 ()) (λ(s2:Unit)=>some (-1)) s_ 0 ()
instance Zhk(s_:List Int)(v_:Int):Con (Cj s_ v_) prog 122 [.one (.d (.sl (s_.map Zg))),.one (.d (.int .i64 v_))] (λr=>.one (.d (.int .i64 r))):=by unfold Cj;have l1:LH (σ:=Unit) 8 [0,1,7] []:=.intro;exact go 19 func122
def A3(s_:List Int)(v_:Int):aB Bool:=
 Z1 (Cj s_ v_) λv1=>some (decide (0<=v1))
instance HT(s_:List Int)(v_:Int):Con (A3 s_ v_) prog 104 [.one (.d (.sl (s_.map Zg))),.one (.d (.int .i64 v_))] (λr=>.one (.d (.bool r))):=by unfold A3;exact go 9 func104
def Pe(d:List Int){ρ:Type}(k:Nat)(c:Col)(a:List Col)(next:List Col->aB ρ):aB ρ:=
 Z1 (A3 d k) λb=>bif !b then next (a++[c]) else next a
def Pd(i:Nat)(a:List Int){ρ:Type}(k:Nat)(S:Sch)(next:Sch->aB ρ):aB ρ:=
 Za S.q i λT=>Za T.pk k λv=>Z1 (DZ v a) λb=>next {S with q:=S.q.set i {T with pk:=T.pk.set k b}}
def E5(S:Sch)(i:Nat)(b:List Int):aB Sch:=
 Za S.q i λT=>Zd (Pe b) (λa=>WZ (Pd i b) (λS=>Za S.q i λT=>Z1 (D5 {S with q:=S.q.set i {T with j:=a}} T.y λc=>DZ c b) some) T.pk.length 0 S) T.j 0 []
def JU(h l tc fc oc P F J M S S')(i:Nat)(a)(d:Is (E5 S i a) S')(s:Sc h l S tc fc oc F J M)(hf:∀h',Z0 h h' (F++(J++M))->Frz h' P (.sl (a.map Zg)))(K)
  (f:∀h' G,Sc h' l S' tc fc oc G J M->Z0 h h' (F++(J++M))->(∀k∈G,k∈F\/h.p<=k.1)->K (.tup []) h'):
  Z5 prog 158 [.p l,.i (i:Int),.one P] h K:=by
 have hb:=s.a;replace d:=Is.qQ d;have⟨T,hi,d⟩:=d;have⟨t,c1,c2,B,u⟩:=s.tbl hi;obtain⟨cap,rfl⟩:=u.hd;have hlt:=(Y0.1 hi).1;have bx:=u.el.a;have r0:=u.el.rd0 1 X;have r1:=u.el.rd 1 1 X;have r2:=u.el.rd 2 1 X;simp at r0 r1 r2;have hne:=Zv (s.lt l I);have bp:=Zv (s.lt t (by simp[u.tm]));refine Z5.qM func158 rfl kR rfl rfl I ?_;simp[hb,hlt,bx,r1,hne,bp];refine V6 u.n1.1 ?_;simp;have bn:Z0 h ((h.xV (h.p,80) [P]).w) []:=(Z0.refl.xV (.inr (Y7 _))).w;refine Z6.for (λk aq e n=>∃w,En e 70 [(0,.p l),(5,.p (h.p,80)),(6,.one (.ptr t (i*3))),(7,.one (.fn 188 [.lab (h.p,80)])),(8,.one w),(23,.one c1),(24,.i T.j.length),(25,.i k)]/\
  aq.length<=k/\n.a (h.p,80)=some [P]/\MR n 3 w (aq.map λc=>c.z.map C.d)/\(∀k∈Z w,h.p<k.1/\k.1<n.p)/\Z0 h n []/\h.p<n.p) d ⟨.nil,I,I,I,MR.nil,by simp[Z],bn,I⟩ ?_ ?_
 rintro k aq e n ⟨w,m,b3,z,L,o,V,aj⟩ al d;replace d:=Is.bind d;have⟨b,hb',d⟩:=d;have ay:=u.n1.2;simp only[UR] at ay;have hw:IntKind.i64.wrap ((k:Int)+1)=(k:Int)+1:=Y6 _ X;have s1:=s.frame V;have ap:n.a t=some B:=by rw[V.2 t (s.lt t (by simp[u.tm])) I];exact bx
 have⟨W,Y,a8⟩:=s1.jC ap hi;obtain rfl:W=c1:=by
  have:=a8.el.rd 1 1 X
  simp[r1] at this;exact this.symm
 obtain⟨l2,A,B2,rfl,ag,-⟩:=a8.e1 k _ (Y1 al);have bi:=ag.a;have O:=ag.rd0 3 X;simp at O;simp[m,al,bi,O,z];have hz:Z0 n ((n.xV (n.p,160) [C.d (D.str empty),C.d (D.int i64 0),C.d (D.bool false)]).w.xV (n.p,160) [C.d (D.str T.j[k].y),C.d (D.int i64 T.j[k].g),C.d (D.bool T.j[k].f)]) []:=((Z0.refl.xV (.inr (Y7 _))).w).xV (.inr (Y7 _));have hy:=V.trans hz;generalize hX:(n.xV (n.p,160) [C.d (D.str empty),C.d (D.int i64 0),C.d (D.bool false)]).w.xV (n.p,160) [C.d (D.str T.j[k].y),C.d (D.int i64 T.j[k].g),C.d (D.bool T.j[k].f)]=HX at hz hy|-;have bg:HX.a (n.p,160)=some [C.d (D.str T.j[k].y),C.d (D.int i64 T.j[k].g),C.d (D.bool T.j[k].f)]:=by rw[<-hX];simp
 have ar:HX.a (h.p,80)=some [P]:=by rw[hz.2 _ (sU aj) I];exact z
 have bd:=L.frame λk f=>hz.2 k (o k f).2 I;have b0:n.p+1=HX.p:=by rw[<-hX];simp
 refine Zc (Z5.qD (HT a k b hb') ⟨.one (.frz (hf _ (hy.mn))),.one (.frz (.data rfl)),trivial⟩ rfl ?_);cases b with|true=>?_|false=>?_;simp only[Xx,cond_false] at d;simp[m,hw];exact Zj.of aq ⟨⟨w,by simp[m],X,sU ar,bd.frame I,λk f=>⟨(o k f).1,by have:=(o k f).2;simp<;>omega⟩,hy.w,by simp<;>omega⟩,d⟩;simp only[XO,cond_true] at d;simp[m,bg];refine Wl (by simp;exact⟨rfl,rfl⟩) I I I (bd.frame I) (Zr.qU I) (by simp<;>omega) (λc' h' bh r bt=>?_);have ax:=(hy.w.qC.w).trans' r (λk f=>.inr (Nat.le_of_lt (o k f).1));have bc:=r.1;simp at bc;simp[m,hw];refine Zj.of _ ⟨⟨c',by simp[m],by simp<;>omega,?_,sU bh,λk f=>?_,ax,X⟩,d⟩;rw[r.2 _ (by simp<;>omega) (λj=>by have:=(o _ j).1;simp at this)];simpa using ar;rcases bt k f with j|j
 have:=o k j;exact⟨this.1,X⟩
 simp at j;exact⟨X,j.2⟩;rintro E e n ⟨w,m,_,z,L,o,V,aj⟩ d;have s1:=s.frame V;have ap:n.a t=some B:=by rw[V.2 t (s.lt t (by simp[u.tm])) I];exact bx
 simp[m,ap,r2];refine V6 u.n2.1 ?_;simp[m];refine Z6.count (N:=(T.pk.length:Int)) (λk S2 eq0 j=>Ek e eq0 [(42,.one c2),(43,.i T.pk.length),(44,.i k)] [0,5,6,7,8]/\
  j.a (h.p,80)=some [P]/\MR j 3 w (E.map λc=>c.z.map C.d)/\(∀k∈Z w,h.p<k.1/\k.1<j.p)/\j.a t=some B/\(∃y,S2.q[i]?=some y/\y.pk.length=T.pk.length)/\Sc j l S2 (.mrow t 0 S.q.length cap) fc oc F J M/\Z0 h j F/\h.p<j.p) (sU d) ⟨by simp[m],z,L,o,ap,⟨T,hi,rfl⟩,s1,V.mn,aj⟩ ?_ ?_
 rintro k S2 e h3 ⟨hF,z,L,o,R,⟨y,Q,bj⟩,s3,r,au⟩ al d;have m:=hF.an m;replace d:=Is.qQ d;have⟨T2',ab,d⟩:=d;rw[Q] at ab;cases ab;have⟨v,hv,d⟩:=d.qQ;have⟨v',bm,d⟩:=d.bind;have az:k<T.pk.length:=X
 have am:k<y.pk.length:=X;have ay:=u.n2.2;simp only[UR] at ay;have hw:IntKind.i64.wrap ((k:Int)+1)=(k:Int)+1:=Y6 _ X;have⟨W,Y,U⟩:=s3.jC R Q;obtain rfl:Y=c2:=by
  have:=U.el.rd 2 1 X
  simp[r2] at this;exact this.symm
 obtain⟨l2,A,B2,rfl,ag,_⟩:=U.e2 k v hv;have ah:=ag.a;have O:=ag.rd0 1 X;have q1:=ag.le;simp at O q1;have hl2:=U.l2 l2 (by simp[Z]);have aw:=s.lt l2 (by simp[hl2.1]);simp[m,az,am,ah,O];refine Z6.cu [0,4,5,6,1,2,3,7,8,9] (λeq0 j=>Ek e eq0 [(42,.one (.mrow l2 0 y.pk.length A))] [0,5,6,7,8,43,44]/\
  j.a (h.p,80)=some [P]/\MR j 3 w (E.map λc=>c.z.map C.d)/\(∀k∈Z w,h.p<k.1/\k.1<j.p)/\j.a t=some B/\Sc j l {S2 with q:=S2.q.set i {y with pk:=y.pk.set k v'}} (.mrow t 0 S.q.length cap) fc oc F J M/\Z0 h j F/\h.p<j.p) ?_ ?_
 simp[m,R,r2];refine Zc (Z5.qD (N5 v a v' bm) ⟨.one (.frz (.data rfl)),.one (.ptr z ⟨hf h3 (r.mono (λk f=>by simp[f])),trivial⟩),trivial⟩ rfl ?_);simp[m,am,ah];refine⟨λ_ _ x=>x,X,Ze.of ⟨by simp[m],?_,?_,λk f=>⟨(o k f).1,by have:=(o k f).2;simp<;>omega⟩,?_,?_,r.w.xV (.inl hl2.1),by simp<;>omega⟩⟩
 have:¬(h.p,80)=l2:=λhe=>by rw[<-he] at aw;simp at aw
 simp[this,z];refine L.frame λk f=>?_
 have:k≠l2:=λhe=>by have:=(o k f).1;rw[he] at this;omega
 simp[this];simp[hl2.2.symm,R];obtain⟨bz,a1,bb⟩:=(s3.frame (Z0.refl.w:Z0 h3 h3.w [])).jC (sU R) Q;obtain rfl:a1=.mrow l2 0 y.pk.length A:=by
  have:=bb.el.rd 2 1 X
  simp[r2] at this;exact this.symm
 have⟨b1,br,B2',e1,bw,w4⟩:=bb.e2 k v hv;simp at e1;obtain⟨rfl,rfl⟩:=e1
 have:=bw.a
 simp only[Ll,ah] at this;cases this;simpa using w4 v';rintro e h4 ⟨hF,z,L,o,ah,s4,ax,ba⟩;have m:=hF.an m;have bv:=(Y0.1 Q).1;simp[m,hw];exact Zj.of _ ⟨⟨by simp[m],z,L,o,ah,⟨{y with pk:=y.pk.set k v'},by simp[bv],sU bj⟩,s4,ax,ba⟩,d⟩;rintro k S2 e h3 ⟨hF,z,L,o,R,⟨y,Q,_⟩,s3,r,au⟩ hge d;have m:=hF.an m;have bf:¬k<T.pk.length:=X
 replace d:=Is.qQ d;have⟨T2',ab,d⟩:=d;rw[Q] at ab;cases ab;have⟨S4,hm4,d⟩:=d.bind;obtain rfl:=Zk d;have⟨W,Y,U⟩:=s3.jC R Q;have⟨G,s4,bu⟩:=U.s1 h3 w E L .refl λk f=>.inr ⟨λj=>by have:=s.lt k j;have:=(o k f).1;omega,(o k f).2⟩;have b2:=U.el.le;have bk:=U.el.set (g:=1) (vs:=[w]) I I;have O:=bk.rd0 1 X;simp at O;simp[m,bf,R];refine⟨X,?_⟩;simp[m,O];have a7:Z0 h (h3.xV t (Zi B (i*3+1) [w])) F:=r.xV (.inl u.tm);have ak:∀k∈F++(J++M),k≠(h.p,80):=λk f he=>by have:=s.lt k (by simp at f|-;exact .inr f);rw[he] at this;simp at this
 refine Zc (Nd _ l (.mrow t 0 S.q.length cap) fc oc G J M _ S4 y.y 188 [.lab (h.p,80)] [[.sl (a.map Zg)]] _ hm4 s4 (λh' ao=>?_) (λx v hv=>N5 x a v hv) _ (λh' s5 ao=>?_));have bq:Z0 h h' (F++(J++M)):=(a7.mono λk f=>by simp[f]).trans (ao.mono λk f=>Xj _ f);refine⟨.one (.ptr (cs:=[P]) ?_ ⟨hf h' bq,trivial⟩),trivial⟩;rw[ao.2 _ (sU au) λj=>ak _ (Xj _ j) rfl]
 have:¬(h.p,80)=t:=λhe=>ak t (by simp[u.tm]) he.symm
 simp[this,z];simp;refine f h' G s5 ((a7.mono λk f=>by simp[f]).trans (ao.mono λk f=>Xj _ f)) λk f=>?_;rcases bu k f with j|j;exact .inl j;exact .inr (Nat.le_of_lt (o k j).1)
def E7(v_:GV)(c:Col):aB Int:=
 Z1 (WE v_) λv3=>bif (v3 !=0) then some v3 else bif (v_.g==0) then bif !c.f then some 8 else(bif (v_.g !=0) then bif (v_.g !=c.g) then some 7 else(some 0) else some 0) else bif (v_.g !=0) then bif (v_.g !=c.g) then some 7 else(some 0) else some 0
instance Nf(v_:GV)(c:Col):Con (E7 v_ c) prog 168 [.agg v_.z,.agg c.z] (λr=>.one (.d (.int .i64 r))):=by unfold E7;exact go 29 func168
def CO:List Sh:=[.d,.d,.d,.d,.d,.d,.r [.d],.d,.d,.d,.d,.d,.r [.d,.d,.d],.r [.d],.d,.d,.d,.d,.d,.d,.d,.d,.r [.d],.d]
def Zh(x:Stp)(e c b a:C):aD:=[.d (.int .i64 x.g),.d (.str x.u),.d (.str x.o),.d (.str x.d),.d (.str x.s),.d (.int .i64 x.type),e,.d (.str x.op),
 .d (.int .i64 x.value.g),.d (.int .i64 x.value.int),.d (.str x.value.text),.d (.str x.v.y),c,b,
 .d (.str x.cons.u),.d (.int .i64 x.cons.left),.d (.str x.cons.op),.d (.int .i64 x.cons.right),.d (.int .i64 x.cons.value.g),.d (.int .i64 x.cons.value.int),.d (.str x.cons.value.text),
 .d (.str x.fk.u),a,.d (.str x.fk.ref)]
def Ow.qS{h i}{c:C}{b x f g}(o:Ow h (.d::i) b (x::f) g)(k:x.flat=true):∃a,b=.d x::a/\Ow h i a f g:=by obtain⟨c,y,a,aa,rfl,e,j,l⟩:=o.jJ;simp at e;obtain⟨rfl,rfl⟩:=e;obtain rfl:=(Frz.data (h:=h) j).flat k;exact⟨a,rfl,l⟩
def Ow.stp{h}{k:aD}{x j}(o:Ow h CO k x.z j):∃i e g f a b c d,k=Zh x i e g f/\j=a++(b++(c++d))/\Ow h [.r [.d]] [i] [.sl (x.j.map Zg)] a/\Ow h [.r [.d,.d,.d]] [e] [.sl (x.v.j.map Col.z)] b/\Ow h [.r [.d]] [g] [.sl (x.v.pk.map Zg)] c/\Ow h [.r [.d]] [f] [.sl (x.fk.j.map Zg)] d:=by simp only[CO,Stp.z] at o;obtain⟨_,rfl,N⟩:=o.qS (c:=.nil) rfl;obtain⟨_,rfl,n⟩:=N.qS (c:=.nil) rfl;obtain⟨_,rfl,P⟩:=n.qS (c:=.nil) rfl;obtain⟨_,rfl,L⟩:=P.qS (c:=.nil) rfl;obtain⟨_,rfl,H⟩:=L.qS (c:=.nil) rfl;obtain⟨_,rfl,K⟩:=H.qS (c:=.nil) rfl;obtain⟨i,_,a,_,rfl,rfl,R,O⟩:=K.split;obtain⟨_,rfl,l⟩:=O.qS (c:=.nil) rfl;obtain⟨_,rfl,M⟩:=l.qS (c:=.nil) rfl;obtain⟨_,rfl,m⟩:=M.qS (c:=.nil) rfl;obtain⟨_,rfl,p⟩:=m.qS (c:=.nil) rfl;obtain⟨_,rfl,B⟩:=p.qS (c:=.nil) rfl;obtain⟨e,_,b,_,rfl,rfl,G,u⟩:=B.split;obtain⟨g,_,c,_,rfl,rfl,J,D⟩:=u.split;obtain⟨_,rfl,y⟩:=D.qS (c:=.nil) rfl;obtain⟨_,rfl,v⟩:=y.qS (c:=.nil) rfl;obtain⟨_,rfl,E⟩:=v.qS (c:=.nil) rfl;obtain⟨_,rfl,q⟩:=E.qS (c:=.nil) rfl;obtain⟨_,rfl,s⟩:=q.qS (c:=.nil) rfl;obtain⟨_,rfl,F⟩:=s.qS (c:=.nil) rfl;obtain⟨_,rfl,w⟩:=F.qS (c:=.nil) rfl;obtain⟨_,rfl,A⟩:=w.qS (c:=.nil) rfl;obtain⟨f,_,d,_,rfl,rfl,Q,t⟩:=A.split;obtain⟨_,rfl,z⟩:=t.qS (c:=.nil) rfl;obtain⟨rfl,_,rfl⟩:=z.qV;exact⟨i,e,g,f,a,b,c,d,rfl,I,R,G,J,Q⟩
def Ow.xF{h x k f g i a b c d}(q:Ow h [.r [.d]] [k] [.sl (x.j.map Zg)] a)(m:Ow h [.r [.d,.d,.d]] [f] [.sl (x.v.j.map Col.z)] b)(n:Ow h [.r [.d]] [g] [.sl (x.v.pk.map Zg)] c)(l:Ow h [.r [.d]] [i] [.sl (x.fk.j.map Zg)] d):Ow h CO (Zh x k f g i) x.z (a++(b++(c++d))):=by have e:=l.join (Ow.data (c:=.d (.str x.fk.ref)) rfl .nil);have o:=n.join (.data (c:=.d (.str x.cons.u)) rfl (.data (c:=.d (.int .i64 x.cons.left)) rfl (.data (c:=.d (.str x.cons.op)) rfl (.data (c:=.d (.int .i64 x.cons.right)) rfl (.data (c:=.d (.int .i64 x.cons.value.g)) rfl (.data (c:=.d (.int .i64 x.cons.value.int)) rfl (.data (c:=.d (.str x.cons.value.text)) rfl (.data (c:=.d (.str x.fk.u)) rfl e))))))));have p:=q.join (.data (c:=.d (.str x.op)) rfl (.data (c:=.d (.int .i64 x.value.g)) rfl (.data (c:=.d (.int .i64 x.value.int)) rfl (.data (c:=.d (.str x.value.text)) rfl (.data (c:=.d (.str x.v.y)) rfl (m.join o))))));have j:=Ow.data (c:=.d (.int .i64 x.g)) rfl (.data (c:=.d (.str x.u)) rfl (.data (c:=.d (.str x.o)) rfl (.data (c:=.d (.str x.d)) rfl (.data (c:=.d (.str x.s)) rfl (.data (c:=.d (.int .i64 x.type)) rfl p)))));simp only[Ym] at j;exact j
def Ow.wA{h x}{c:List Int}{i}(o:Ow h [.r [.d]] [x] [.sl (c.map Zg)] i){k:Nat}{v:Int}(e:c[k]?=some v):∃b a B,x=.mrow b 0 c.length a/\b∈i/\h.a b=some B/\Zs 1 (B.drop k)=some [.d (.int .i64 v)]:=by
 obtain⟨qs,rfl,P⟩:=o.wD (λj=>by
  have:c=[]:=sU j
  rw[this] at e;simp at e)
 have⟨b,a,B,f,g,_,_⟩:=P.rD (n:=1) rfl (Ai e) (KX v)
 have:=g.rd0 1 X
 simp at this;exact⟨b,a,B,sU f,by rw[f];simp[Z4,Z],g.a,this⟩
def HQ(S:Sch)(i:Nat)(step:Stp):aB (Sch×Int):=
 Z1 (E7 step.value ⟨step.d,step.type,step.value.g==0⟩) λe=>bif e !=0 then some (S,e) else
 Za S.q i λT=>Zp (0<T.j.length/\T.j.length<Zz) (some ({S with q:=S.q.set i {T with j:=T.j++[⟨step.d,step.type,step.value.g==0⟩]}},0))
def GM{e b c d lx:List Z2}{n:Nat}(h:∀k∈b,k∈e\/n<=k.1):∀k∈b++(c++d),k∈e++(c++d)\/n<=k.1:=λk a=>by simp only[Y3] at a|-;rcases a with a|a|a;exact(h k a).imp_left .inl;exact .inl (.inr (.inl a));exact .inl (.inr (.inr a))
def TU(h l tc Z oc x6 x y z E M P S U)(i:Nat)(step)(r:Int)(f:Is (HQ S i step) (U,r))(s:Sc h l S tc Z oc E M P)(K)
  (a:Vc h l (E++(M++P)) U (.i r) K):
  Z5 prog 139 [.p l,.i (i:Int),.agg (Zh step x6 x y z)] h K:=by
 have⟨A,ap,f⟩:=f.bind;refine Z5.qM func139 rfl kR rfl rfl I ?_;simp[Zh];have m:Z0 h (((h.xV (h.p,80) (Zh step x6 x y z)).w.xV (h.p+1,112) [C.d (D.str empty),C.d (D.int i64 0),C.d (D.bool false)]).w.xV (h.p+1,112) [C.d (D.str step.d),C.d (D.int i64 step.type),C.d (D.bool (step.value.g==0))]) []:=(((Z0.refl.xV (.inr (Y7 _))).w.xV (.inr I)).w.xV (.inr I));simp only[Zh] at m;generalize hX:(((h.xV (h.p,80) _).w.xV (h.p+1,112) _).w.xV (h.p+1,112) _)=HX at m|-;have ah:HX.a (h.p+1,112)=some [C.d (D.str step.d),C.d (D.int i64 step.type),C.d (D.bool (step.value.g==0))]:=by rw[<-hX];simp
 refine Zc (Z5.qD (Nf step.value ⟨step.d,step.type,step.value.g==0⟩ A ap) ⟨.agg (ZI.qK (ds:=step.value.z)),.agg (ZI.qK (ds:=(⟨step.d,step.type,step.value.g==0⟩:Col).z)),trivial⟩ rfl ?_);cases hev0:A !=0 with|true=>?_|false=>?_;rw[hev0] at f;obtain⟨rfl,rfl⟩:=ZU f;have V:¬A=0:=sU hev0;simp[hev0];exact a _ _ (s.frame m.w).ows (m.w.mn) (λk a=>.inl a);simp only[hev0,cond_false] at f;have V:A=0:=sU hev0;have⟨T,O,f⟩:=f.qQ;have⟨⟨N,ao⟩,f⟩:=f.chk;obtain⟨rfl,rfl⟩:=ZU f;simp[V];have g:=s.frame m;have al:=g.a;have w:=(Y0.1 O).1;have⟨u,c1,c2,B,t⟩:=g.tbl O;obtain⟨L,rfl⟩:=t.hd;have G:=t.el.a;have Q:=t.el.rd 1 1 X;have au:=t.el.le;simp at Q;have hne:=Zv (g.lt l I);have aq:=Zv (g.lt u (by simp[t.tm]));refine Z6.cut (Y.qB [0,1,2,4,5,6,7,8,9,10,11,12,13] (.two 3 14 (Y.qB [14,15,16,17,18] .done) (Y.qB [] (.two 3 15 (Y.qB [15,16,17,18] .done) (Y.qB [3,16,17,18] .done))))) follows kR (λe h'=>e.n=43/\∃d,Sc h' l {S with q:=S.q.set i {T with j:=T.j++[⟨step.d,step.type,step.value.g==0⟩]}} (.mrow u 0 S.q.length L) Z oc d M P/\Z0 h h' E/\∀k∈d,k∈E\/h.p<=k.1) ?_ ?_
 .simp[al,ah,w,G,Q];have b:Z0 HX (((HX.w).qC (HX.p+1,16*39) (some (1,3))).w) []:=(Z0.refl.w).qC.w;simp only[Nat.reduceMul] at b;obtain⟨J,c2',n⟩:=(g.frame b).jC (sU G) O;obtain rfl:J=c1:=by
   have:=n.el.rd 1 1 X
   simp[Q] at this;exact this.symm
  have ar:T.j.length<2097152:=ao;refine⟨?_,?_,?_⟩
  all_goals
   refine Wl (by simp;exact⟨rfl,rfl⟩) I I I (n.m1 (by intro h0;simp[h0] at N)) (Zr.qU I) (by simp<;>omega) (λc' h' ag c W=>?_);have af:h'.a u=some B:=by
    rw[c.2 u ((g.frame b).lt u (by simp[t.tm])) λo=>(n.l1 u o).2 rfl];simpa using G
   have aj:=(g.frame b).keep c λk a=>.inl (n.l1 k a).1;have ak:=c.1;simp at ak;have⟨d,R,F⟩:=n.s1 h' c' (T.j++[⟨step.d,step.type,step.value.g==0⟩]) (sU ag) c (λk a=>(W k a).imp_right λo=>⟨λv=>by have:=(g.frame b).lt k v;omega,o.2⟩);simp[w,af,aj];refine⟨X,Ze.of ⟨I,d,R,?_,λk a=>?_⟩⟩;exact((m.trans b).mn|>.trans (c.mono λk a=>(n.l1 k a).1)).xV (.inl t.tm);rcases F k a with o|o;exact .inl o;rcases W k o with v|v;exact .inl (n.l1 k v).1;refine .inr ?_;have h4:=v.1;have h5:=m.1;simp at h4;omega
 rintro e h1 ⟨hn,d,R,am,F⟩;simp[hn];exact a _ _ R.ows (am.mono λk a=>by simp[a]) (GM (lx:=[]) F)
def FB(fk:Fk)(k0:E)(k1:Int):aB Bool:=
 bif Z9 fk.u k0.y then Z1 (A3 fk.j k1) λv3=>(some v3) else some false
instance Tk(fk:Fk)(k0:E)(k1:Int):Con (FB fk k0 k1) prog 197 [.agg fk.z,.one (.rp [.str k0.y,.sl (k0.j.map Col.z),.sl (k0.pk.map Zg)]),.one (.rp [.int .i64 k1])] (λr=>.one (.d (.bool r))):=by unfold FB;exact go 16 func197
instance Zg8(k0:E)(k1:Int):ConF (λx=>FB x k0 k1) prog (λx=>.agg x.z) (λr=>.one (.d (.bool r))) 197 [[.str k0.y,.sl (k0.j.map Col.z),.sl (k0.pk.map Zg)],[.int .i64 k1]]:=⟨λx=>(Tk x k0 k1)⟩
def Fu(s_:List Cons)(f:Cons->aB Bool):aB Int:=
 Zd (λ(i2:Nat) (x2:Cons) (s2:Unit) next_2=>Z1 (f x2) λv3=>bif v3 then some (i2:Int) else next_2 ()) (λ(s2:Unit)=>some (-1)) s_ 0 ()
instance SS(s_:List Cons)(f:Cons->aB Bool){g:FuncId}{caps:List aC}[ConF f prog (λx=>.agg x.z) (λv=>.one (.d (.bool v))) g caps]:Con (Fu s_ f) prog 220 [.one (.d (.sl (s_.map Cons.z))),.one (.fn g caps)] (λr=>.one (.d (.int .i64 r))):=by unfold Fu;have l1:LH (σ:=Unit) 8 [0,1,7] []:=.intro;exact go 19 func220
def SU(s_:List Cons)(g:FuncId)(caps:List aC)(f:Cons->aB Bool)(hf:∀xa v,Is (f xa) v->Zq prog g (.agg xa.z::Wu caps) (.one (.d (.bool v))))(r:Int)(hm:Is (Fu s_ f) r):Zq prog 220 [.one (.d (.sl (s_.map Cons.z))),.one (.fn g caps)] (.one (.d (.int .i64 r))):=
 haveI:ConF f prog (λx=>.agg x.z) (λv=>.one (.d (.bool v))) g caps:=⟨hf⟩
 (SS s_ f).h r hm
def Hn(s_:List Cons)(f:Cons->aB Bool):aB Bool:=
 Z1 (Fu s_ f) λv1=>some (decide (0<=v1))
instance Zfk(s_:List Cons)(f:Cons->aB Bool){g:FuncId}{caps:List aC}[ConF f prog (λx=>.agg x.z) (λv=>.one (.d (.bool v))) g caps]:Con (Hn s_ f) prog 198 [.one (.d (.sl (s_.map Cons.z))),.one (.fn g caps)] (λr=>.one (.d (.bool r))):=by unfold Hn;exact go 9 func198
def FA(c:Cons)(k0:E)(k1:Int):aB Bool:=
 bif Z9 c.u k0.y then bif (c.left==k1) then some true else(some (c.right==k1)) else some false
instance Tj(c:Cons)(k0:E)(k1:Int):Con (FA c k0 k1) prog 199 [.agg c.z,.one (.rp [.str k0.y,.sl (k0.j.map Col.z),.sl (k0.pk.map Zg)]),.one (.rp [.int .i64 k1])] (λr=>.one (.d (.bool r))):=by unfold FA;exact go 22 func199
instance Zg7(k0:E)(k1:Int):ConF (λx=>FA x k0 k1) prog (λx=>.agg x.z) (λr=>.one (.d (.bool r))) 199 [[.str k0.y,.sl (k0.j.map Col.z),.sl (k0.pk.map Zg)],[.int .i64 k1]]:=⟨λx=>(Tj x k0 k1)⟩
def E8(s_:Sch)(t:E)(column:Int):aB Int:=
 Z1 (A3 t.pk column) λv4=>bif v4 then some 9 else Z1 (Zpm s_.b (λxa_=>FB xa_ t column)) λv6=>bif v6 then some 10 else Z1 (Hn s_.cons (λxa_=>FA xa_ t column)) λv8=>bif v8 then some 11 else some 0
instance Nh(s_:Sch)(t:E)(column:Int):Con (E8 s_ t column) prog 167 [.agg s_.z,.agg t.z,.one (.d (.int .i64 column))] (λr=>.one (.d (.int .i64 r))):=by unfold E8;exact go 19 func167
def HG(S:Sch)(i:Nat)(step:Stp):aB (Sch×Int):=
 Za S.q i λT=>Z1 (W7 T step.d) λr=>bif !r.2 then some (S,4) else
 bif step.g==3 then Z1 (W7 T step.s) λb=>bif b.2 then some (S,5) else
  Za T.j r.1 λc=>some ({S with q:=S.q.set i {T with j:=T.j.set r.1.toNat {c with y:=step.s}}},0)
 else Z1 (E8 S T r.1) λe=>bif e !=0 then some (S,e) else
 bif step.g==5 then Za T.j r.1 λc=>some ({S with q:=S.q.set i {T with j:=T.j.set r.1.toNat {c with g:=step.type}}},0)
 else Za T.j r.1 λc=>Z1 (E7 step.value c) λe=>bif e !=0 then some (S,e) else Z1 (E5 S i [r.1]) λa=>some (a,0)
set_option maxHeartbeats 1000000 in
def Ty(h l tc fc oc L o t z ta fa oa S S')(i:Nat)(step)(r:Int)(a:Is (HG S i step) (S',r))(s:Sc h l S tc fc oc ta fa oa)(K)
  (m:Vc h l (ta++(fa++oa)) S' (.i r) K):
  Z5 prog 140 [.p l,.i (i:Int),.agg (Zh step L o t z)] h K:=by
 have⟨T,hi,a⟩:=a.qQ;have⟨v,hv,a⟩:=a.bind;have hlt:=(Y0.1 hi).1;have au:Z0 h ((h.xV (h.p,80) (Zh step L o t z)).w) []:=(Z0.refl.xV (.inr (Y7 _))).w;have s0:=s.frame au;have⟨M,c1,c2,B,N⟩:=s0.tbl hi;obtain⟨cap,rfl⟩:=N.hd;have bd:=s0.a;have bx:=N.el.a;have r0:=N.el.rd0 3 X;have r1:=N.el.rd 1 1 X;simp at r0 r1;have ax:(h.xV (h.p,80) (Zh step L o t z)).w.a (h.p,80)=some (Zh step L o t z):=I
 refine Z5.qM func140 rfl kR rfl rfl I ?_;have ba:Zh step L o t z≠[]:=by simp[Zh]
 have hne:=Zv (s.lt l I);have a7:=s.a;have ap:h.p<((h.xV (h.p,80) (Zh step L o t z)).w).p:=I
 simp[a7,hne,hlt,ba];generalize(h.xV (h.p,80) (Zh step L o t z)).w=HX at*;have ao:∀h',Z0 HX h' []->ZI h' [C.d (D.str T.y),c1,c2] T.z:=λh' hs=>⟨.data rfl,N.f1 h' hs,N.f2 h' hs,trivial⟩;refine Z6.cu aQ (λe h'=>En e 94 [(0,.p l),(1,.i i),(5,.p (h.p,80)),(7,.one (.ptr M (i*3))),(8,.i v.1),(9,.b v.2)]/\Z0 HX h' []) ?_ ?_;simp[bx,r0,ax,Zh];refine Zc (Z5.qD (FR T step.d v hv) ⟨.agg (ao _ .refl),.one (.frz (.data rfl)),trivial⟩ rfl ?_);simp;exact⟨λ_ _ x=>x,Ze.of (by simp[Z0.refl.w])⟩;rintro e h1 ⟨f,Q⟩;have ah:h1.a (h.p,80)=some (Zh step L o t z):=by rw[Q.2 _ ap I];exact ax
 have am:h1.a M=some B:=by rw[Q.2 _ (s0.lt M (by simp[N.tm])) I];exact bx
 have s1:=s0.frame Q;have bb:=s1.a;have hy:=au.trans Q;simp[f];cases hv2:v.2 with|false=>?_|true=>?_;rw[hv2] at a;obtain⟨rfl,rfl⟩:=ZU a;simp[f];exact m _ _ s1.ows (hy.mn) (λk m=>.inl m);simp only[hv2,Xx,cond_false] at a;simp[f,ah,Zh];cases hk3:step.g==3 with|true=>?_|false=>?_;simp only[hk3,cond_true] at a;have⟨w,hw,a⟩:=a.bind;simp;refine Z6.cu aQ (λG h'=>Ek e G [(11,.b w.2)] [0,1,5,7,8]/\Z0 h1 h' []) ?_ ?_;simp[f,am,r0,ah,Zh];refine Zc (Z5.qD (FR T step.s w hw) ⟨.agg (ao _ Q),.one (.frz (.data rfl)),trivial⟩ rfl ?_);simp[f];exact⟨λ_ _ x=>x,Ze.of (by simp[f,Z0.refl.w])⟩;rintro e U ⟨hF,A⟩;have f:=hF.an f;have s2:=s1.frame A;have aj:=hy.trans A;simp[f];cases hw2:w.2 with|true=>?_|false=>?_;rw[hw2] at a;obtain⟨rfl,rfl⟩:=ZU a;simp[f];exact m _ _ s2.ows (aj.mn) (λk m=>.inl m);simp only[hw2,cond_false] at a;have⟨c,ay,V,a⟩:=a.get;obtain⟨rfl,rfl⟩:=ZU a;have W:U.a M=some B:=by rw[A.2 _ (s1.lt M (by simp[N.tm])) I];exact am
 have ab:U.a (h.p,80)=some (Zh step L o t z):=by rw[A.2 _ (Y4 ap Q.1) I];exact ah
 have⟨F,c2',J⟩:=s2.jC W hi;obtain rfl:F=c1:=by
  have:=J.el.rd 1 1 X
  simp[r1] at this;exact this.symm
 obtain⟨l2,R,B2,rfl,P,w2⟩:=J.e1 _ c V;have ak:=P.a;have ad:=P.le;have Y:=J.l1 l2 (by simp[Z]);obtain⟨n,O⟩:∃n:Nat,v.1=n:=⟨v.1.toNat,X⟩;have al:n<T.j.length:=by
  have:=(Y0.1 V).1
  omega
 rw[O] at f ad w2;simp;refine Z6.cu aJ (λe h'=>e.n=94/\Sc h' l {S with q:=S.q.set i {T with j:=T.j.set v.1.toNat {c with y:=step.s}}} (.mrow M 0 S.q.length cap) fc oc ta fa oa/\Z0 h h' ta) ?_ ?_;simp at ad;simp[f,W,r1,ab,ak,al,Zh];refine⟨X,Ze.of ⟨by simp[f],?_,(aj.mn).xV (.inl Y.1)⟩⟩
 have:=w2 0 [.d (.str step.s)] {c with y:=step.s} I I
 simpa[O] using this;rintro e h3 ⟨hn,s3,E⟩;simp[hn];exact m _ _ s3.ows (E.mono λk m=>by simp[m]) (λk m=>.inl m);simp only[hk3,cond_false] at a;have⟨w,hw,a⟩:=a.bind;simp;refine Z6.cu aG (λG h'=>Ek e G [(12,.i w)] [0,1,5,7,8]/\Z0 h1 h' []) ?_ ?_;simp[f,am,r0,bb];refine Zc (Z5.qD (Nh S T v.1 w hw) ⟨.agg s1.frz,.agg (ao _ Q),.one (.frz (.data rfl)),trivial⟩ rfl ?_);simp[f];exact⟨λ_ _ x=>x,Ze.of (by simp[f,Z0.refl.w])⟩;rintro e U ⟨hF,A⟩;have f:=hF.an f;have s2:=s1.frame A;have aj:=hy.trans A;have W:U.a M=some B:=by rw[A.2 _ (s1.lt M (by simp[N.tm])) I];exact am
 have ab:U.a (h.p,80)=some (Zh step L o t z):=by rw[A.2 _ (Y4 ap Q.1) I];exact ah
 simp[f];cases hw0:w !=0 with|true=>?_|false=>?_;simp only[hw0,cond_true] at a;obtain⟨rfl,rfl⟩:=ZU a;have a1:=sU hw0;simp[f];exact m _ _ s2.ows (aj.mn) (λk m=>.inl m);simp only[hw0,cond_false] at a;have a1:=sU hw0;simp[f,a1,ab,Zh];cases hk5:step.g==5 with|true=>?_|false=>?_;simp only[hk5,cond_true] at a;have⟨c,ay,V,a⟩:=a.get;obtain⟨rfl,rfl⟩:=ZU a;have⟨F,c2',J⟩:=s2.jC W hi;obtain rfl:F=c1:=by
  have:=J.el.rd 1 1 X
  simp[r1] at this;exact this.symm
 obtain⟨l2,R,B2,rfl,P,w2⟩:=J.e1 _ c V;have ak:=P.a;have ad:=P.le;have Y:=J.l1 l2 (by simp[Z]);obtain⟨n,O⟩:∃n:Nat,v.1=n:=⟨v.1.toNat,X⟩;have al:n<T.j.length:=by
  have:=(Y0.1 V).1
  omega
 rw[O] at f ad w2;simp;refine Z6.cu aJ (λe h'=>e.n=94/\Sc h' l {S with q:=S.q.set i {T with j:=T.j.set v.1.toNat {c with g:=step.type}}} (.mrow M 0 S.q.length cap) fc oc ta fa oa/\Z0 h h' ta) ?_ ?_;simp at ad;simp[f,W,r1,ab,ak,al,Zh];refine⟨X,Ze.of ⟨by simp[f],?_,(aj.mn).xV (.inl Y.1)⟩⟩
 have:=w2 1 [.d (.int .i64 step.type)] {c with g:=step.type} I I
 simpa[O] using this;rintro e h3 ⟨hn,s3,E⟩;simp[hn];exact m _ _ s3.ows (E.mono λk m=>by simp[m]) (λk m=>.inl m);simp only[hk5,cond_false] at a;have⟨c,ay,V,a⟩:=a.get;have⟨u,hu,a⟩:=a.bind;have⟨F,c2',J⟩:=s2.jC W hi;obtain rfl:F=c1:=by
  have:=J.el.rd 1 1 X
  simp[r1] at this;exact this.symm
 obtain⟨l2,R,B2,rfl,P,_⟩:=J.e1 _ c V;have ak:=P.a;have q0:=P.rd0 3 X;obtain⟨n,O⟩:∃n:Nat,v.1=n:=⟨v.1.toNat,X⟩;have al:n<T.j.length:=by
  have:=(Y0.1 V).1
  omega
 rw[O] at f q0;simp at q0;simp;refine Z6.cu aQ (λG h'=>Ek e G [(8,.i n),(13,.i u)] [0,1]/\Z0 U h' []) ?_ ?_;simp[f,W,r1,ak,q0,al,ab,Zh];refine Zc (Z5.qD (Nf step.value c u hu) ⟨.agg (ZI.qK (ds:=step.value.z)),.agg (ZI.qK (ds:=c.z)),trivial⟩ rfl ?_);simp[f];exact⟨λ_ _ x=>x,Ze.of (by simp[f,Z0.refl.w])⟩;rintro e h3 ⟨hF,E⟩;have f:=hF.an f;have s3:=s2.frame E;have aw:=aj.trans E;simp[f];cases hu0:u !=0 with|true=>?_|false=>?_;simp only[hu0,cond_true] at a;obtain⟨rfl,rfl⟩:=ZU a;have aq:=sU hu0;simp[f];exact m _ _ s3.ows (aw.mn) (λk m=>.inl m);simp only[hu0,cond_false] at a;have aq:=sU hu0;have⟨S4,hm4,a⟩:=a.bind;obtain⟨rfl,rfl⟩:=ZU a;simp[f,aq];have hz:Z0 h3 ((h3.qC (h3.p,16*92) (some (1,1))).w) []:=(Z0.refl.qC).w;simp only[Nat.reduceMul] at hz;refine Zc (JU _ l _ fc oc _ ta fa oa S S4 i [v.1] hm4 (s3.frame hz) (λh' _=>.data (by simp[O])) _ (λh4 bc s4 a8 az=>?_));simp[f];have ar:=aw.trans hz;exact m _ _ s4.ows ((ar.mn).trans (a8.mono λk m=>Yc _ m)) (GM (lx:=[]) λk m=>(az k m).imp_right λU=>YE ar.1 U)
def Hw(S:Sch)(i:Nat)(step:Stp):aB (Sch×Int):=
 Za S.q (i:Int) λT=>bif ((step.j.length:Int) !=2) then some (S,3) else Za step.j 0 λa=>bif decide (a<0) then some (S,3) else Za step.j 1 λb=>bif decide (b<=a) then some (S,3) else bif decide ((T.j.length:Int)<=b) then some (S,3) else
 Zd (λ_ (d:Int) (h:Bool) next=>Za T.j d λc=>bif c.g !=3 then some (S,7) else next (h&&c.f)) (λh=>
  Zd (λ_ (d:Int) (_:Unit) next=>Z1 (E8 S T d) λe=>bif e !=0 then some (S,e) else next ()) (λ_=>
   Z1 (E5 S i step.j) λg=>Za g.q (i:Int) λf=>Zp (0<f.j.length/\f.j.length<Zz) (some ({g with q:=g.q.set i {f with j:=f.j++[⟨step.d,3,h⟩]}},0))) step.j 0 ()) step.j 0 true
set_option maxHeartbeats 1000000 in
def T9(h l tc fc oc xs ta V Z lx S S')(i:Nat)(step)(r:Int)(f:Is (Hw S i step) (S',r))(s:Sc h l S tc fc oc ta V Z)(hx:Ow h CO xs step.z lx)(hd:∀k∈lx,k.1<h.p/\k∉l::(ta++(V++Z)))(K)
  (m:Vc h l (ta++(V++Z)) S' (.i r) K):
  Z5 prog 138 [.p l,.i (i:Int),.agg xs] h K:=by
 obtain⟨L,M,P,N,a6,a12,cp,cn,rfl,rfl,o6,_,_,_⟩:=hx.stp;have⟨T,hi,f⟩:=f.qQ;have hlt:i<S.q.length:=(Y0.1 hi).1;have u:Z0 h ((h.xV (h.p,80) (Zh step L M P N)).w) []:=(Z0.refl.xV (.inr (Y7 _))).w;have s0:=s.frame u;have⟨Q,c1,c2,B,G⟩:=s0.tbl hi;obtain⟨cap,rfl⟩:=G.hd;have ck:=s0.a;have bx:=G.el.a;have r0:=G.el.rd0 3 X;have r1:=G.el.rd 1 1 X;simp at r0 r1;have ci:(h.xV (h.p,80) (Zh step L M P N)).w.a (h.p,80)=some (Zh step L M P N):=I
 have ao:∀h',Z0 h h' (l::(ta++(V++Z)))->Ow h' [.r [.d]] [L] [.sl (step.j.map Zg)] a6:=λh' W=>o6.frame λk m=>W.2 k (hd k (by simp[m])).1 (hd k (by simp[m])).2;have bt:=o6.wL;simp at bt;refine Z5.ov func138 ?_;have cb:Zh step L M P N≠[]:=by simp[Zh]
 have hne:=Zv (s.lt l I);have bu:=s.a;have br:h.p<((h.xV (h.p,80) (Zh step L M P N)).w).p:=I
 simp[bu,hne,hlt,cb];have e6:Zs 1 ((Zh step L M P N).drop 6)=some [L]:=by simp[Zh]
 simp[e6];generalize(h.xV (h.p,80) (Zh step L M P N)).w=HX at*;have b3:∀h',Z0 HX h' []->ZI h' [C.d (D.str T.y),c1,c2] T.z:=λh' W=>⟨.data rfl,G.f1 h' W,G.f2 h' W,trivial⟩;cases hl2:(step.j.length:Int) !=2 with|true=>?_|false=>?_;simp only[hl2,cond_true] at f;have z:=Zk f;have b8:¬(step.j.length:Int)=2:=sU hl2;simp only[YG] at z;obtain⟨rfl,rfl⟩:=z;refine Z6.cu aT (λe h'=>En e 114 [(51,.b true)]/\h'=HX) ?_ ?_;simp;refine V6 bt.1 ?_;simp[hl2];exact Ze.of I;rintro e h1 ⟨g,rfl⟩;simp[g];exact m _ _ s0.ows (u.mn) (λk m=>.inl m);simp only[hl2,cond_false] at f;have b8:(step.j.length:Int)=2:=sU hl2;have am:step.j.length=2:=X
 obtain⟨a,-,ha,f⟩:=f.get;simp at ha;obtain⟨J,ah,B6,rfl,b9,ak,r6⟩:=(ao _ (u.mn)).wA (k:=0) (v:=a) (sU ha);simp at r6;cases ha0:decide (a<0) with|true=>?_|false=>?_;simp only[ha0,cond_true] at f;have z:=Zk f;simp at ha0;simp only[YG] at z;obtain⟨rfl,rfl⟩:=z;refine Z6.cu aT (λe h'=>En e 114 [(51,.b true)]/\h'=HX) ?_ ?_;simp;simp[am,ak,r6,ha0];exact Ze.of I;rintro e h1 ⟨g,rfl⟩;simp[g];exact m _ _ s0.ows (u.mn) (λk m=>.inl m);simp only[ha0,cond_false] at f;simp at ha0;have az:¬a<0:=X
 obtain⟨b,-,hb,f⟩:=f.get;simp at hb;obtain⟨cj,b1,B6',bm,-,ay,ap⟩:=(ao _ (u.mn)).wA (k:=1) (v:=b) (sU hb);simp at bm;obtain⟨rfl,rfl⟩:=bm;rw[ak] at ay;cases ay;simp at ap;cases hb0':decide (b<=a) with|true=>?_|false=>?_;simp only[hb0',cond_true] at f;have z:=Zk f;simp at hb0';simp only[YG] at z;obtain⟨rfl,rfl⟩:=z;refine Z6.cu aT (λe h'=>En e 114 [(51,.b true)]/\h'=HX) ?_ ?_;simp;simp[am,ak,r6,ap,az,hb0'];exact Ze.of I;rintro e h1 ⟨g,rfl⟩;simp[g];exact m _ _ s0.ows (u.mn) (λk m=>.inl m);simp only[hb0',cond_false] at f;simp at hb0';have ax:¬b<=a:=X
 cases hc0:decide ((T.j.length:Int)<=b) with|true=>?_|false=>?_;simp only[hc0,cond_true] at f;have z:=Zk f;simp at hc0;simp only[YG] at z;obtain⟨rfl,rfl⟩:=z;refine Z6.cu aT (λe h'=>En e 114 [(51,.b true)]/\h'=HX) ?_ ?_;simp;simp[am,ak,r6,ap,az,ax,bx,r1];refine V6 G.n1.1 ?_;simp[hc0];exact Ze.of I;rintro e h1 ⟨g,rfl⟩;simp[g];exact m _ _ s0.ows (u.mn) (λk m=>.inl m);simp only[hc0,cond_false] at f;simp at hc0;have cd:¬(T.j.length:Int)<=b:=X
 refine Z6.cu aT (λe h'=>En e 114 [(0,.p l),(1,.i (i:Int)),(5,.p (h.p,80)),(7,.one (.ptr Q (i*3))),(8,.one (.mrow J 0 step.j.length ah)),(51,.b false)]/\h'=HX) ?_ ?_;simp;simp[am,ak,r6,ap,az,ax,bx,r1];refine V6 G.n1.1 ?_;simp[cd];exact Ze.of (by simp[am]);rintro e h1 ⟨g,rfl⟩;simp[g];have n6:∀h',Z0 h h' (l::(ta++(V++Z)))->h'.a J=some B6/\∀(k:Nat) (v:Int),step.j[k]?=some v->Zs 1 (B6.drop k)=some [.d (.int .i64 v)]:=λh' W=>by
  have al:=hd J (by simp[b9]);have o:h'.a J=some B6:=by rwa [W.2 J al.1 al.2,<-u.2 J al.1 I]
  refine⟨o,λk v m=>?_⟩;obtain⟨l7,ch,B7,e7,-,bi,r7⟩:=(ao h' W).wA m;simp at e7;obtain⟨rfl,rfl⟩:=e7;rw[o] at bi;cases bi;exact r7
 refine Z6.for (xs:=step.j) (s0:=true) (λk aj A o=>Ek e A [(52,.one (.mrow J 0 step.j.length ah)),(53,.i (step.j.length:Int)),(54,.i (k:Int)),(9,.b aj)] [0,1,5,7,8]/\o=h1) f ⟨by simp[g],rfl⟩ ?_ ?_;rintro k aj e o ⟨hF,rfl⟩ ab f;have g:=hF.an g;have⟨c,au,hc,f⟩:=f.get;have hw:IntKind.i64.wrap ((k:Int)+1)=(k:Int)+1:=Y6 _ X;have⟨ar,ba⟩:=n6 _ (u.mn);have q6:=ba k _ (Y1 ab);obtain⟨l2,cap2,B2,rfl,bb,-⟩:=G.e1 _ c hc;have a7:=bb.a;have R:=bb.rd 1 1 X;have q2:=bb.rd 2 1 X;obtain⟨n,b2⟩:∃n:Nat,step.j[k]=n:=⟨step.j[k].toNat,X⟩;have bc:n<T.j.length:=by
  have:=(Y0.1 hc).1
  omega
 rw[b2] at q6 R q2;simp at R q2;cases hk3:c.g !=3 with|true=>?_|false=>?_;simp only[hk3,cond_true] at f;obtain⟨rfl,rfl⟩:=ZU f;have bn:¬c.g=3:=sU hk3;simp[g,ab,ar,q6,bx,r1,bc,a7,R,hk3];exact m _ _ s0.ows (u.mn) (λk m=>.inl m);simp only[hk3,cond_false] at f;have bn:c.g=3:=sU hk3;simp[g,ab,ar,q6,bx,r1,bc,a7,R,bn];cases aj with|true=>?_|false=>?_;simp[g,bx,r1,bc,a7,q2,hw];exact Zj.of _ ⟨⟨by simp[g],rfl⟩,f⟩;simp[g,hw];exact Zj.of _ ⟨⟨by simp[g],rfl⟩,f⟩;rintro aj e o ⟨hF,rfl⟩ f;have g:=hF.an g;simp[g];refine Z6.for (xs:=step.j) (s0:=()) (λk _ A y=>Ek e A [(79,.one (.mrow J 0 step.j.length ah)),(80,.i (step.j.length:Int)),(81,.i (k:Int))] [0,1,5,7,8,9]/\Z0 o y []) f ⟨by simp[g],.refl⟩ ?_ ?_;rintro k _ e y ⟨hF,t⟩ ab f;have g:=hF.an g;have⟨w,b5,f⟩:=f.bind;have hw:IntKind.i64.wrap ((k:Int)+1)=(k:Int)+1:=Y6 _ X;have Y:=u.trans t;have s3:=s0.frame t;have cc:=s3.a;have b4:y.a Q=some B:=by rw[t.2 _ (s0.lt Q (by simp[G.tm])) I];exact bx
 have⟨ar,ba⟩:=n6 _ (Y.mn);have q6:=ba k _ (Y1 ab);simp[g,ab,ar,q6];refine Z6.cu aG (λA F=>Ek e A [(14,.i w)] [0,1,5,7,8,79,80,81,9]/\Z0 o F []) ?_ ?_;simp[g,cc,b4,r0];refine Zc (Z5.qD (Nh S T _ w b5) ⟨.agg s3.frz,.agg (b3 _ t),.one (.frz (.data rfl)),trivial⟩ rfl ?_);simp[g];exact⟨λ_ _ x=>x,Ze.of ⟨by simp[g],t.w⟩⟩;rintro e F ⟨hF,U⟩;have g:=hF.an g;simp[g];cases hw0:w !=0 with|true=>?_|false=>?_;simp only[hw0,cond_true] at f;obtain⟨rfl,rfl⟩:=ZU f;have bp:¬w=0:=sU hw0;simp[g];exact m _ _ (s0.frame U).ows ((u.trans U).mn) (λk m=>.inl m);simp only[hw0,cond_false] at f;have bp:w=0:=sU hw0;simp[g,bp,hw];exact Zj.of _ ⟨⟨by simp[g],U⟩,f⟩;rintro _ e y ⟨hF,t⟩ f;have g:=hF.an g;have⟨S1,b6,f⟩:=f.bind;have⟨T1,bd,f⟩:=f.qQ;have⟨⟨au,bg⟩,f⟩:=f.chk;obtain⟨rfl,rfl⟩:=ZU f;have Y:=u.trans t;have s3:=s0.frame t;simp[g];refine Zc (JU _ l _ fc oc _ ta V Z S S1 i step.j b6 s3 (λh' bz=>((ao h' ((Y.mn).trans (bz.mono λk m=>Yc _ m)))).rV) _ (λF bf s4 U aw=>?_));have⟨cm,c14,c24,B4,aq⟩:=s4.tbl bd;have⟨cg,e4⟩:=aq.hd;simp at e4;obtain⟨rfl,_,rfl⟩:=e4;have a1:=aq.el.a;have R:=aq.el.rd 1 1 X;have ce:=aq.el.le;simp at R;have bq:F.a (h.p,80)=some (Zh step (.mrow J 0 step.j.length ah) M P N):=by
  rwa [U.2 _ (Y4 br t.1) (λo=>by have:=s.lt (h.p,80) (by simp at o|-;exact .inr o);simp at this),t.2 _ br I]
 simp;refine Z6.cu aL (λe h'=>e.n=114/\∃E,Sc h' l {S1 with q:=S1.q.set i {T1 with j:=T1.j++[⟨step.d,3,aj⟩]}} (.mrow Q 0 S.q.length cap) fc oc E V Z/\Z0 F h' bf/\∀k∈E,k∈bf\/F.p<=k.1) ?_ ?_;simp[g,a1,R,bq,Zh];have hz:Z0 F (((F).qC (F.p,16*110) (some (1,3))).w) []:=(Z0.refl).qC.w;simp only[Nat.reduceMul] at hz;obtain⟨c1',c2',O⟩:=(s4.frame hz).jC (sU a1) bd;obtain rfl:c1'=c14:=by
  have:=O.el.rd 1 1 X
  simp[R] at this;exact this.symm
 have cl:T1.j.length<2097152:=bg;refine Wl (by simp;exact⟨rfl,rfl⟩) I I I (O.m1 (by intro h0;simp[h0] at au)) (Zr.qU I) (by simp<;>omega) (λc' h' bv a8 bj=>?_);have bw:h'.a Q=some B4:=by
  rw[a8.2 Q ((s4.frame hz).lt Q (by simp[O.tm])) λo=>(O.l1 Q o).2 rfl];simpa using a1
 have⟨E,s6,ca⟩:=O.s1 h' c' (T1.j++[⟨step.d,3,aj⟩]) (sU bv) a8 (λk m=>(bj k m).imp_right λo=>⟨λy=>by have:=(s4.frame hz).lt k y;omega,o.2⟩);simp[g,bw];refine⟨X,Ze.of ⟨by simp[g],E,s6,?_,λk m=>?_⟩⟩;exact((hz.mn).trans (a8.mono λk m=>(O.l1 k m).1)).xV (.inl O.tm);rcases ca k m with o|o;exact .inl o;rcases bj k o with y|y;exact .inl (O.l1 k y).1;refine .inr ?_;have b0:=y.1;simp at b0;omega;rintro e h5 ⟨hn,E,s6,b7,bk⟩;simp[hn];have bh:h.p<=F.p:=YE Y.1 U.1;refine m _ _ s6.ows (((Y.mn).trans (U.mono λk m=>Yc _ m)).trans' b7 λk m=>?_) (GM (lx:=[]) λk m=>?_);exact(aw k m).imp (λo=>by simp[o]) λo=>YE Y.1 o;rcases bk k m with o|o;exact(aw k o).imp_right λy=>YE Y.1 y;exact .inr (YE bh o)
def Zpx(other:Fk)(k0:Fk):aB Bool:=
 Z1 (Bm other k0) λv2=>some v2
instance N3(other:Fk)(k0:Fk):Con (Zpx other k0) prog 149 [.agg other.z,.one (.rp [.str k0.u,.sl (k0.j.map Zg),.str k0.ref])] (λr=>.one (.d (.bool r))):=by unfold Zpx;exact go 7 func149
def JT(t:E)(k0:aA):aB Bool:=
 some (Z9 t.y k0)
instance Nb(t:E)(k0:aA):Con (JT t k0) prog 192 [.agg t.z,.one (.rp [.str k0])] (λr=>.one (.d (.bool r))):=by unfold JT;exact go 8 func192
def JS(fk:Fk)(k0:aA):aB Bool:=
 some (Z9 fk.u k0)
instance Na(fk:Fk)(k0:aA):Con (JS fk k0) prog 194 [.agg fk.z,.one (.rp [.str k0])] (λr=>.one (.d (.bool r))):=by unfold JS;exact go 8 func194
def JR(c:Cons)(k0:aA):aB Bool:=
 some (Z9 c.u k0)
instance N9(c:Cons)(k0:aA):Con (JR c k0) prog 196 [.agg c.z,.one (.rp [.str k0])] (λr=>.one (.d (.bool r))):=by unfold JR;exact go 8 func196
def FE(fk:Fk)(k0:aA):aB Bool:=
 bif Z9 fk.ref k0 then some (!(Z9 fk.u k0)) else some false
instance Tz(fk:Fk)(k0:aA):Con (FE fk k0) prog 166 [.agg fk.z,.one (.rp [.str k0])] (λr=>.one (.d (.bool r))):=by unfold FE;exact go 14 func166
def Hu(S:Sch)(c:Cons):aB (Sch×Int):=
 Z1 (E0 S.cons c) λk=>if k<0 then some (S,4) else Zp (k+1<=S.cons.length) (some ({S with cons:=S.cons.take k.toNat++S.cons.drop (k.toNat+1)},0))
def T6(h l ls S L c)(r:Int)(b:Is (Hu S c) (L,r))(W:Bj h l S ls)(K)(d:Vc h l ls L (.i r) K):
  Z5 prog 129 [.p l,.agg (c.z.map C.d)] h K:=by
 obtain⟨u,n,v,qt,qf,f,rfl,s⟩:=W;have⟨k,y,b⟩:=b.bind;refine Z5.qM func129 rfl kR rfl rfl I ?_;simp;have w:Z0 h ((h.xV (h.p,48) (c.z.map C.d)).w) []:=(Z0.refl.xV (.inr (Y7 _))).w;simp at w;have J:=s.frame w;have N:=J.a;simp at N;refine Z6.cu [0,4,1,2,3,5,6] (λe h'=>Z0 h h' []/\SchC h' l S u n v qt qf f/\e.n=25/\e.get 0=.p l/\e.get 5=.i k) ?_ ?_;simp[N];refine Zc (Z5.qD (Te S.cons c k y) ⟨.one (.frz J.o.frz),.agg (ZI.qK (ds:=c.z)),trivial⟩ rfl ?_);simp;exact⟨λ_ _ x=>x,Ze.of (by simp[w.w,J.frame (Z0.refl.w)])⟩;rintro e h' ⟨t,a,j,V,P⟩;have o:=a.a;simp[j,P];refine Vy (λE=>?_) (λB=>?_);rw[if_pos E] at b;obtain⟨rfl,rfl⟩:=ZU b;simp[j];exact d _ _ ⟨_,_,_,_,_,_,rfl,a⟩ (t.mn) (λ_ h=>.inl h);rw[if_neg B] at b;have⟨al,b⟩:=b.chk;obtain⟨rfl,rfl⟩:=ZU b;obtain⟨i,rfl⟩:∃i:Nat,k=i:=⟨k.toNat,X⟩;have hw:IntKind.i64.wrap (i+1)=((i+1:Nat):Int):=by exact Y6 _ (by have:=a.o.mr.2.1;have:=congrArg List.length a.o.ds;simp at*;omega)
 simp[j,V,P,o,hw];have am:f.length=S.cons.length:=by have:=congrArg List.length a.o.ds;simpa using this
 refine Zc (T3 h' v (f.map (·.1)) i (i+1) a.o.mr X sO _ (λc' h2 F m R _ g=>?_));have Q:h2.a l=some [u,n,v]:=by rw[m l (λb=>a.ne.2.2.1 (by simp[Z4,b])),o]
 simp[j,Q];have M:(f.take i++f.drop (i+1)).Sublist f:=J0 X;have z:=Gl (c':=c') M g;have Y:=a.o.sub (h2:=h2.xV l [u,n,c']) (c':=c') (qs':=f.take i++f.drop (i+1)) (λq G=>M.subset G) ?_ a.nds.2.2 ?_;have U:Part (h2.xV l [u,n,c']) BS c' (f.take i++f.drop (i+1)) ((S.cons.take i++S.cons.drop (i+1)).map Cons.z):=by
  have:=a.o.ds
  rw[YL,XP,Xy,<-this];simpa using Y
 have O:Z0 h' (h2.xV l [u,n,c']) (l::Z4 v f):=by
  refine⟨by simp[R],λk _ j=>?_⟩;simp only[Y5,Z4,Y3,not_or] at j;simp[j.1,m k j.2.1]
 have s3:=a.wN I U O (z.nodup a.nds.2.2) (λk d=>.inl (z.subset d));refine d _ _ ⟨_,_,_,_,_,_,rfl,s3⟩ ((t.mn).trans (O.mono ?_)) (λk d=>.inl ?_);intro k d;simp only[Y5,Y3] at d|-;exact d.imp_right λh=>.inr (.inr h);simp only[Y3] at d|-;exact d.imp_right λh=>h.imp_right λh=>z.subset h;have D:l∉Z c':=λb=>a.ne.2.2.1 (by rw[g] at b;simp[Z4,b]);refine MR.frame (by simpa[BS] using F) (λk d=>?_)
 have:k≠l:=λA=>D (A▸d)
 simp[this];rintro k y ⟨q,G,T⟩
 have:k≠l:=λA=>a.ne.2.2.1 (by simp only[Z4,Y3,YH];exact .inr ⟨q,G,A▸T⟩)
 simp[this,m k y]
def D3(S:Sch)(c:Fk):aB (Sch×Int):=
 Z1 (D1 S.b λo=>Zpx o c) λk=>if k<0 then some (S,4) else Zp (k+1<=S.b.length) (some ({S with b:=S.b.take k.toNat++S.b.drop (k.toNat+1)},0))
def T5(h l ls S O c w)(r:Int)(f:Is (D3 S c) (O,r))(ho:Bj h l S ls)(Y:∀h',Z0 h h' []->ZI h' w c.z)(K)(g:Vc h l ls O (.i r) K):
  Z5 prog 130 [.p l,.agg w] h K:=by
 obtain⟨y,C,x,qt,j,qo,rfl,s⟩:=ho;have⟨k,A,f⟩:=f.bind;obtain⟨P,Q,R,rfl⟩:∃a b d,w=[a,b,d]:=by
  have:=(Y h .refl).get.1
  match w,this with
  |[a,b,d],_=>exact⟨a,b,d,rfl⟩
 refine Z5.qM func130 rfl kR rfl rfl I ?_;simp;have z:Z0 h ((h.xV (h.p,48) [P,Q,R]).w) []:=(Z0.refl.xV (.inr (Y7 _))).w;have s1:=s.frame z;have U:=s1.a;simp at U;simp[U];refine Zc (Z5.qD (JK S.b 149 [c.z] (λo=>Zpx o c) (λxa v hv=>N3 xa c v hv) k A) ⟨.one (.frz s1.f.frz),.one (.fn rfl ?_),trivial⟩ rfl ?_);intro i cp ds F W;cases i with
 |zero=>?_
 |succ i=>simp at F
 simp at F W;subst F W;exact⟨_,I,Y _ z⟩;have n:=z.w;have e:=s.frame n;simp;have u:=e.a;simp at u;refine Vy (λJ=>?_) (λE=>?_);rw[if_pos J] at f;obtain⟨rfl,rfl⟩:=ZU f;simp;exact g _ _ ⟨_,_,_,_,_,_,rfl,e⟩ (n.mn) (λ_ h=>.inl h);rw[if_neg E] at f;have⟨am,f⟩:=f.chk;obtain⟨rfl,rfl⟩:=ZU f;obtain⟨i,rfl⟩:∃i:Nat,k=i:=⟨k.toNat,X⟩;have ao:j.length=S.b.length:=by have:=congrArg List.length e.f.ds;simpa using this
 have af:=e.f.mr.2.1;have hw:IntKind.i64.wrap (i+1)=((i+1:Nat):Int):=by exact Y6 _ (by simp at af;omega)
 simp[u,hw];refine Zc (N6 _ C (j.map (·.1)) i (i+1) e.f.mr X sO _ (λc' h2 L t aj _ m=>?_));have ah:h2.a l=some [y,C,x]:=by rw[t l (λf=>e.ne.2.1 (by simp[Z4,f])),e.a]
 simp[ah];have T:(j.take i++j.drop (i+1)).Sublist j:=J0 X;have B:=Gl (c':=c') T m;have hp:=e.f.sub (h2:=h2.xV l [y,c',x]) (c':=c') (qs':=j.take i++j.drop (i+1)) (λq N=>T.subset N) ?_ e.nds.2.1 ?_;have al:Part (h2.xV l [y,c',x]) VB c' (j.take i++j.drop (i+1)) ((S.b.take i++S.b.drop (i+1)).map Fk.z):=by
  have:=e.f.ds
  rw[YL,XP,Xy,<-this];simpa using hp
 have V:Z0 ((h.xV (h.p,48) [P,Q,R]).w).w (h2.xV l [y,c',x]) (l::Z4 C j):=by
  refine⟨by rw[Iu,aj];exact Y7 _,λk _ M=>?_⟩;simp only[Y5,Z4,Y3,not_or] at M;rw[<-t k M.2.1];simp[M.1]
 have s3:=e.wM I al V (B.nodup e.nds.2.1) (λk g=>.inl (B.subset g));refine g _ _ ⟨_,_,_,_,_,_,rfl,s3⟩ ((n.mn).trans (V.mono ?_)) (λk g=>.inl ?_);intro k g;simp only[Y5,Y3] at g|-;exact g.imp_right λh=>.inr (.inl h);simp only[Y3] at g|-;exact g.imp_right λh=>h.imp_left λh=>B.subset h;have G:l∉Z c':=λf=>e.ne.2.1 (by rw[m] at f;simp[Z4,f]);refine MR.frame (by simpa[VB] using L) (λk g=>?_)
 have:k≠l:=λD=>G (D▸g)
 simp[this];rintro k A ⟨q,N,ak⟩
 have:k≠l:=λD=>e.ne.2.1 (by simp only[Z4,Y3,YH];exact .inr ⟨q,N,D▸ak⟩)
 rw[<-t k A];simp[this]
def Ih{α:Type}{f:α->aB Bool}{p}(a:∀x,f x=some (p x)):∀xs i,Zd (λc g d b=>(Z1 (f g) λe=>(bif e then(some (c:Int)) else(b ())))) (λd=>(some (-1))) xs i ()=some (match xs.findIdx? p with|some j=>((i+j:Nat):Int)|none=>-1)
 |[],i=>by simp[Zd]
 |x::xs,i=>by
   rw[Zd,a x,List.findIdx?_cons];show(bif p x then some (i:Int) else _)=_;cases hp:p x with
   |true=>simp
   |false=>?_
   have:=Ih a xs (i+1)
   simp only[cond_false];rw[this];cases hx:xs.findIdx? p with
   |none=>simp
   |some j=>simp only[Yp];rw[show i+1+j=i+(j+1) by omega];rfl
def Of{p}:∀{qs:List Q},keep p (qs.map (·.1)) (qs.map (·.2.1))=(qs.filter λq=>!p q.2.1).map (·.1)
 |[]=>rfl
 |q::qs=>by simp only[Yb,keep,XG];rw[Of];cases p q.2.1<;>simp
def AF(s:aA):aC->Bool
 | .str t::_=>Z9 t s
 |_=>false
def Part.keep{h b f c c' qs a p}(P:Part h f c qs a)(g:MR b f.length c' (Go.Am.keep p (qs.map (·.1)) a))(j:(Z4 c qs).Nodup)(d:∀k∈Z4 c qs,k.1<h.p)(n:Z0 h b (Z c)):Part b f c' (qs.filter λq=>!p q.2.1) (a.filter λt=>!p t):=by
 have l:=P.ds;subst l;rw[Of] at g
 have:=P.sub (c':=c') (qs':=qs.filter λq=>!p q.2.1) (λq e=>(Y3b.1 e).1) g j (λk m ⟨q,e,i⟩=>n.2 k (d k (by simp only[Z4,Y3,YH];exact .inr ⟨q,e,i⟩)) m)
 rwa [Y3z]
def Part.elems{h p c qs j}(P:Part h p c qs j)(g:(Z4 c qs).Nodup)(f:∀k∈Z4 c qs,k.1<h.p):∀e,Z0 h e (Z c)->∀(i:Nat) x t,(qs.map (·.1))[i]?=some x->j[i]?=some t->ZI e x t:=by
 have n:=P.ds;subst n;intro e o i x t a b;rw[Y9] at a b;cases hq:qs[i]? with
 |none=>rw[hq] at a;simp at a
 |some q=>?_
 rw[hq] at a b;simp only[Yp,Ya] at a b;subst a b;have d:=Y2 hq;refine((P.ow q d).frame λk l=>o.2 k (f k ?_) ?_).frz;simp only[Z4,Y3,YH];exact .inr ⟨q,d,l⟩;simp only[Z4,Yk] at g;exact λm=>g.2.2 k m k (YH.2 ⟨q,d,l⟩) rfl
def Z2y(h:HS)(c:C)(qs:List Q)(g:List E)(a:aA)(b)(P:Part h WI c qs (g.map E.z))(r:(Z4 c qs).Nodup)(e:∀k∈Z4 c qs,k.1<h.p)(s:h.a b=some [.d (.str a)])(y:b∉Z c)(w:b.1<h.p)(K)
  (o:∀j f,Part f WI j (qs.filter λq=>!AF a q.2.1) ((g.filter λt=>!Z9 t.y a).map E.z)->Z0 h f (Z c)->Z j=Z c->K (.one j) f):
  Z5 prog 191 [.one c,.one (.fn 192 [.lab b])] h K:=by
 have l:=Ih (p:=λx=>Z9 x.y a) (λx=>rfl) g 0;refine T7 h c (qs.map λq:Q=>q.1) (g.map E.z) 192 [.lab b] [[.str a]] (AF a) _ P.mr (λk o=>e k (by simp[Z4,o])) (by have:=congrArg List.length P.ds;simpa using this) I (P.elems r e) ?_ ?_ ?_ (Tn g 192 [[.str a]] (λx=>JT x a) (λF v D=>Nb F a v D) _ l) ?_ K (λj f A m z=>?_);intro f m;exact⟨.one (.ptr ((m.2 b w y).trans s) (ZI.qK (ds:=[.str a]))),trivial⟩;refine .fn rfl λi cp ds n u=>?_;cases i with
 |zero=>?_
 |succ i=>simp at n
 simp at n u;subst n u;exact⟨_,s,ZI.qK (ds:=[.str a])⟩;intro t B;obtain⟨x,_,rfl⟩:=Yi.1 B;exact Nb x a _ rfl
 .rw[List.findIdx?_map];simp[Function.comp_def,AF]
  all_goals (cases g.findIdx? (λx=>Z9 x.y a)<;>rfl)
 refine o j f ?_ m z
 have:=P.keep A r e m
 rwa [Y3z] at this
def Z7t(h:HS)(c:C)(qs:List Q)(g:List Fk)(a:aA)(b)(P:Part h VB c qs (g.map Fk.z))(r:(Z4 c qs).Nodup)(e:∀k∈Z4 c qs,k.1<h.p)(s:h.a b=some [.d (.str a)])(y:b∉Z c)(w:b.1<h.p)(K)
  (o:∀j f,Part f VB j (qs.filter λq=>!AF a q.2.1) ((g.filter λt=>!Z9 t.u a).map Fk.z)->Z0 h f (Z c)->Z j=Z c->K (.one j) f):
  Z5 prog 193 [.one c,.one (.fn 194 [.lab b])] h K:=by
 have l:=Ih (p:=λx=>Z9 x.u a) (λx=>rfl) g 0;refine SP h c (qs.map λq:Q=>q.1) (g.map Fk.z) 194 [.lab b] [[.str a]] (AF a) _ P.mr (λk o=>e k (by simp[Z4,o])) (by have:=congrArg List.length P.ds;simpa using this) I (P.elems r e) ?_ ?_ ?_ (JK g 194 [[.str a]] (λx=>JS x a) (λE v D=>Na E a v D) _ l) ?_ K (λj f A m z=>?_);intro f m;exact⟨.one (.ptr ((m.2 b w y).trans s) (ZI.qK (ds:=[.str a]))),trivial⟩;refine .fn rfl λi cp ds n u=>?_;cases i with
 |zero=>?_
 |succ i=>simp at n
 simp at n u;subst n u;exact⟨_,s,ZI.qK (ds:=[.str a])⟩;intro t B;obtain⟨x,_,rfl⟩:=Yi.1 B;exact Na x a _ rfl
 .rw[List.findIdx?_map];simp[Function.comp_def,AF]
  all_goals (cases g.findIdx? (λx=>Z9 x.u a)<;>rfl)
 refine o j f ?_ m z
 have:=P.keep A r e m
 rwa [Y3z] at this
def Z5t(h:HS)(c:C)(qs:List Q)(g:List Cons)(a:aA)(b)(P:Part h BS c qs (g.map Cons.z))(r:(Z4 c qs).Nodup)(e:∀k∈Z4 c qs,k.1<h.p)(s:h.a b=some [.d (.str a)])(y:b∉Z c)(w:b.1<h.p)(K)
  (o:∀j f,Part f BS j (qs.filter λq=>!AF a q.2.1) ((g.filter λt=>!Z9 t.u a).map Cons.z)->Z0 h f (Z c)->Z j=Z c->K (.one j) f):
  Z5 prog 195 [.one c,.one (.fn 196 [.lab b])] h K:=by
 have l:=Ih (p:=λx=>Z9 x.u a) (λx=>rfl) g 0;refine SQ h c (qs.map λq:Q=>q.1) (g.map Cons.z) 196 [.lab b] [[.str a]] (AF a) _ P.mr (λk o=>e k (by simp[Z4,o])) (by have:=congrArg List.length P.ds;simpa using this) I (P.elems r e) ?_ ?_ ?_ (SU g 196 [[.str a]] (λx=>JR x a) (λE v D=>N9 E a v D) _ l) ?_ K (λj f A m z=>?_);intro f m;exact⟨.one (.ptr ((m.2 b w y).trans s) (ZI.qK (ds:=[.str a]))),trivial⟩;refine .fn rfl λi cp ds n u=>?_;cases i with
 |zero=>?_
 |succ i=>simp at n
 simp at n u;subst n u;exact⟨_,s,ZI.qK (ds:=[.str a])⟩;intro t B;obtain⟨x,_,rfl⟩:=Yi.1 B;exact N9 x a _ rfl
 .rw[List.findIdx?_map];simp[Function.comp_def,AF]
  all_goals (cases g.findIdx? (λx=>Z9 x.u a)<;>rfl)
 refine o j f ?_ m z
 have:=P.keep A r e m
 rwa [Y3z] at this
def JW(S:Sch)(a:aA):Sch:=⟨S.q.filter λt=>!Z9 t.y a,S.b.filter λt=>!Z9 t.u a,S.cons.filter λt=>!Z9 t.u a⟩
def LB{c a qs p}(b:Z a=Z c):(Z4 a (qs.filter p)).Sublist (Z4 c qs):=Gl (XY) b
def Part.xV{h b c qs a l cs}(p:Part h b c qs a)(f:l∉Z4 c qs):Part (h.xV l cs) b c qs a:=
 p.frame λk e=>by
  have:k≠l:=λd=>f (d▸e)
  simp[this]
def Z0.hdr{h a l c qs b}(e:Z0 h a (Z c)):Z0 h (a.xV l b) (l::Z4 c qs):=
 (e.mono (λk d=>by simp[Z4,d])).xV (.inl I)
def Ng(h:HS)(l)(ls)(S)(f)(ho:Bj h l S ls)(K)(a:Vc h l ls (JW S f) (.tup []) K):
  Z5 prog 165 [.p l,.s f] h K:=by
 obtain⟨M,r,g,B,z,A,rfl,s⟩:=ho;refine Z5.qM func165 rfl kR rfl rfl I ?_;simp;have N:Z0 h ((h.xV (h.p,48) [.d (.str f)]).w) []:=(Z0.refl.xV (.inr (Y7 _))).w;have i:=s.frame N;have P:=i.a;simp at P;have j:∀k∈l::(Z4 M B++(Z4 r z++Z4 g A)),k≠(h.p,48):=λk a w=>by
  have:=s.lt k a
  rw[w] at this;simp at this
 simp only[Y5,Y3,Z4] at j;have D:=i.lt;simp only[Y5,Y3] at D;simp[P];refine Zc (Z2y _ M B S.q f (h.p,48) i.t i.nds.1 (λk a=>D k (.inr (.inl a))) I (λb=>j _ (.inr (.inl (.inl b))) rfl) I _ (λm y R c G=>?_));have Y:y.a l=some [M,r,g]:=by rw[c.2 l (D l (.inl rfl)) (λb=>i.ne.1 (by simp[Z4,b])),i.a]
 simp[Y];have t1:=LB (p:=λq=>!AF f q.2.1) (qs:=B) G;have n:=i.wX (h':=y.xV l [m,r,g]) I (R.xV λb=>i.ne.1 (t1.subset b)) c.hdr (t1.nodup i.nds.1) (λk a=>.inl (t1.subset a));have F:=n.lt;simp only[Y5,Y3] at F;have O:(y.xV l [m,r,g]).a (h.p,48)=some [.d (.str f)]:=by
  have v:(h.p,48)≠l:=λw=>j l (.inl rfl) w.symm;have u:=c.2 (h.p,48) I (λb=>j _ (.inr (.inl (.inl b))) rfl);simp[v,u]
 have C:h.p<(y.xV l [m,r,g]).p:=by
  have:=c.1
  simp at this|-;omega
 refine Zc (Z7t _ r z S.b f (h.p,48) n.f n.nds.2.1 (λk a=>F k (.inr (.inr (.inl a)))) O (λb=>j _ (.inr (.inr (.inl (.inl b)))) rfl) C _ (λx v T e J=>?_));have X:v.a l=some [m,r,g]:=by rw[e.2 l (F l (.inl rfl)) (λb=>n.ne.2.1 (by simp[Z4,b])),n.a]
 simp[X];have t2:=LB (p:=λq=>!AF f q.2.1) (qs:=z) J;have o:=n.wM (h':=v.xV l [m,x,g]) I (T.xV λb=>n.ne.2.1 (t2.subset b)) e.hdr (t2.nodup n.nds.2.1) (λk a=>.inl (t2.subset a));have E:=o.lt;simp only[Y5,Y3] at E;have W:(v.xV l [m,x,g]).a (h.p,48)=some [.d (.str f)]:=by
  have u:(h.p,48)≠l:=λw=>j l (.inl rfl) w.symm;have Q:=e.2 (h.p,48) C (λb=>j _ (.inr (.inr (.inl (.inl b)))) rfl);rw[O] at Q;simp[u,Q]
 have V:=Y4 C (sU e.1);refine Zc (Z5t _ g A S.cons f (h.p,48) o.o o.nds.2.2 (λk a=>E k (.inr (.inr (.inr a)))) W (λb=>j _ (.inr (.inr (.inr (.inl b)))) rfl) V _ (λZ u U t L=>?_));have ar:u.a l=some [m,x,g]:=by rw[t.2 l (E l (.inl rfl)) (λb=>o.ne.2.2.1 (by simp[Z4,b])),o.a]
 simp[ar];have t3:=LB (p:=λq=>!AF f q.2.1) (qs:=A) L;have s4:=o.wN (h':=u.xV l [m,x,Z]) I (U.xV λb=>o.ne.2.2.1 (t3.subset b)) t.hdr (t3.nodup o.nds.2.2) (λk a=>.inl (t3.subset a));refine a _ _ ⟨_,_,_,_,_,_,rfl,s4⟩ ?_ ?_;refine(((N.mn).trans ((c.hdr (qs:=B)).mono ?_)).trans ((e.hdr (qs:=z)).mono ?_)).trans ((t.hdr (qs:=A)).mono ?_);intro k a;simp only[Y5,Y3] at a|-;exact a.imp_right .inl;intro k a;simp only[Y5,Y3] at a|-;exact a.imp_right λh=>.inr (.inl h);intro k a;simp only[Y5,Y3] at a|-;exact a.imp_right λh=>.inr (.inr h);intro k a;simp only[Y3] at a|-;exact .inl (a.imp (λh=>t1.subset h) λh=>h.imp (λh=>t2.subset h) λh=>t3.subset h)
def Vc.after{h c l ls b v K}(s:Z0 h c [])(f:Vc h l ls b v K):Vc c l ls b v K:=
 λh' a i j g=>f h' a i ((s.mn).trans j) λk d=>(g k d).imp_right λe=>YE s.1 e
def Bj.frame{h h' l S a}(o:Bj h l S a)(s:Z0 h h' []):Bj h' l S a:=by obtain⟨i,b,d,g,e,f,rfl,c⟩:=o;exact⟨i,b,d,g,e,f,rfl,c.frame s⟩
def HP(S:Sch)(a:aA):aB (Sch×Int):=
 Z1 (Zpm S.b λo=>FE o a) λb=>if b=true then some (S,10) else some (JW S a,0)
def TT(h l j S k)(c:aA)(r:Int)(e:Is (HP S c) (k,r))(w:Bj h l S j)(K)(u:Vc h l j k (.i r) K):
  Z5 prog 137 [.p l,.s c] h K:=by
 have⟨b,E,e⟩:=e.bind;have m:Z0 h ((h.xV (h.p,48) [.d (.str c)]).w) []:=(Z0.refl.xV (.inr (Y7 _))).w;have z:=w.frame m;have y:=z;have⟨tc,fc,oc,qt,qf,qo,_,x⟩:=y;refine Z5.qM func137 rfl kR rfl rfl I ?_;have n:=x.a;simp at n;simp[n];refine Zc (Z5.qD (JH S.b 166 [[.str c]] (λo=>FE o c) (λG v F=>Tz G c v F) b E) ⟨.one (.frz x.f.frz),.one (.fn rfl ?_),trivial⟩ rfl ?_);intro i cp ds f t;cases i with
 |zero=>?_
 |succ i=>simp at f
 simp at f t;subst f t;exact⟨_,I,ZI.qK⟩;have a:=m.w;have q:=w.frame a;simp;cases b with|true=>?_|false=>?_;obtain⟨rfl,rfl⟩:=ZU e;simp;exact(u.after a) _ _ q .refl (λ_ h=>.inl h);obtain⟨rfl,rfl⟩:=ZU e;simp;refine Zc (Ng _ l j S c q _ ?_);intro D A C g B;simp;exact(u.after a) D A C g B
def N8(a:E)(b:E):aB Int:=
 Z1 (Er a.y b.y) λv3=>some v3
instance Ti(a:E)(b:E):Con (N8 a b) prog 187 [.agg a.z,.agg b.z] (λr=>.one (.d (.int .i64 r))):=by unfold N8;exact go 10 func187
def Ur(a b:E):Bool:=decide (DR a.y b.y<0)
def Fl:aC->aC->Int
 | .str x::_,.str y::_=>DR x y
 |_,_=>0
def Sc.xJ{h l S e G K B F J}(s:Sc h l S e G K B F J):∃qs:List (aD×aC),MR h 3 e (qs.map (·.1))/\qs.length=S.q.length/\(∀k∈Z e,k∈B)/\(∀g,Z0 h g (Z e)->∀q∈qs,ZI g q.1 q.2)/\(∀q∈qs,∃T∈S.q,q.2=T.z)/\
  ∀g,MR g 3 e ((Fb Fl qs).map (·.1))->Z0 h g (Z e)->∃t,Sc g l {S with q:=WG Ur (S.q.length-1) 1 S.q} e G K t F J/\∀k∈t,k∈B:=by
 obtain⟨c,X,Y,rfl,rfl,rfl,s⟩:=s;have j:c.length=S.q.length:=by have:=congrArg List.length s.t.ds;simpa using this
 have o:∀k∈Z4 e c,k.1<h.p:=λk d=>s.lt k (by simp[d]);have A:=s.nds.1;refine⟨c.map λq=>(q.1,q.2.1),?_,sU j,λk d=>by simp[Z4,d],λg r q m=>?_,λq m=>?_,λg H r=>?_⟩
 have:=s.t.mr
 simpa[WI,Function.comp_def] using this;obtain⟨v,u,rfl⟩:=Yi.1 m;have⟨i,n⟩:=Xh u;exact((s.t.ow v u).frame λk d=>r.2 k (o k (UJ n d)) (BC A n d)).frz;obtain⟨v,u,rfl⟩:=Yi.1 m
 have:v.2.1∈S.q.map E.z:=by rw[<-s.t.ds];exact Yi.2 ⟨v,u,rfl⟩
 have⟨T,R,U⟩:=Yi.1 this;exact⟨T,R,U.symm⟩
 let ltq:Q->Q->Bool:=λp q=>AL Fl (p.1,p.2.1) (q.1,q.2.1)
 have M:Fb Fl (c.map λq=>(q.1,q.2.1))=(WG ltq (c.length-1) 1 c).map λq=>(q.1,q.2.1):=by
  unfold Fb;rw[Yd];exact Ig (λx y=>rfl) _ _ _
 have N:(WG ltq (c.length-1) 1 c).map (λq:Q=>q.2.1)=(WG Ur (S.q.length-1) 1 S.q).map E.z:=by
  have O:=Ig (lt:=ltq) (lt':=λa b=>decide (Fl a b<0)) (λx y=>rfl) (c.length-1) 1 c;have P:=Ig (lt:=Ur) (lt':=λa b=>decide (Fl a b<0)) (f:=E.z) (λx y=>rfl) (S.q.length-1) 1 S.q;rw[<-O,<-P,j]
  congr 1
  exact s.t.ds
 have w:=Ks ltq (c.length-1) 1 c;have z:(Z4 e (WG ltq (c.length-1) 1 c)).Perm (Z4 e c):=(List.Perm.refl _).append (w.flatMap_right _);have L:∀q∈c,∀k∈q.2.2,g.a k=h.a k:=λq m k d=>by have⟨i,n⟩:=Xh m;exact r.2 k (o k (UJ n d)) (BC A n d)
 have W:Part g WI e (WG ltq (c.length-1) 1 c) ((WG Ur (S.q.length-1) 1 S.q).map E.z):=by
  refine⟨?_,N,λq m=>(s.t.ow q (w.subset m)).frame (L q (w.subset m))⟩;rw[M] at H;simpa[WI,Function.comp_def] using H
 have V:=r.2 l (s.lt l I) λd=>s.ne.1 (by simp[Z4,d]);exact⟨_,⟨_,X,Y,rfl,rfl,rfl,s.wX (by rw[V];exact s.a) W (r.mono λk d=>by simp[Z4,d]) (z.nodup_iff.2 A) λk d=>.inl (z.subset d)⟩,λk d=>z.subset d⟩
def D7(S:Sch)(T:E):aB Sch:=Zp (S.q.length<19) (some {S with q:=WG Ur S.q.length 1 (S.q++[T])})
def HI(h l tc V oc z O P F S S')(T:E)(Q:aD)(hm:Is (D7 S T) S')(s:Sc h l S tc V oc z O P)(W:Ow h WI Q T.z F)(hd:F.Nodup/\(∀k∈F,k.1<h.p/\k∉l::(z++(O++P))))(K)
  (f:∀h' v m,Sc h' l S' v V oc m O P->Z0 h h' (l::z)->(∀k∈m,k∈z\/k∈F\/h.p<=k.1)->K (.tup []) h'):
  Z5 prog 151 [.p l,.agg Q] h K:=by
 have⟨hlen,hm⟩:=hm.chk;obtain rfl:=Zk hm;obtain⟨r,t,u,rfl⟩:∃a b c,Q=[a,b,c]:=by
  have:=W.len.1
  match Q,this with
  |[a,b,c],_=>exact⟨a,b,c,rfl⟩
 refine Z5.qM func151 rfl kR rfl rfl I ?_;simp;have R:Z0 h ((h.xV (h.p,48) [r,t,u]).w) []:=(Z0.refl.xV (.inr (Y7 _))).w;have s1:=s.frame R;have ah:=s1.a;simp at ah;refine Z6.cu aQ (λe h'=>∃v m,Sc h' l {S with q:=S.q++[T]} v V oc m O P/\e.n=19/\e.get 0=.p l/\Z0 h h' (l::z)/\(∀k∈m,k∈z\/k∈F\/h.p<=k.1)/\∀k∈Z v,k∈z\/h.p<=k.1) ?_ ?_;simp[ah];refine DF (x:=[r,t,u]) (by simp[ZB];cases r.toD<;>cases t.toD<;>cases u.toD<;>rfl) I (λd ak=>?_) (λ_=>?_);obtain⟨rfl,al⟩:=W.ofD ak;have j:Z0 h (((h.xV (h.p,48) [r,t,u]).w.qC ((h.xV (h.p,48) [r,t,u]).w.p,16*10) (some (1,3))).w) []:=R.qC.w;have o:=s.frame j;have⟨ys,M,y,n⟩:=o.wG;simp;simp only[Iu,QW] at M n j o;refine Wl (by simp;exact⟨rfl,rfl⟩) I I I M (Zr.qU I) (by simp[y];omega) (λL h' J g D=>?_);have U:=o.keep g λk f=>.inl (s.qI.1 k f);simp[U];have⟨m,N,G⟩:=n h' L _ T.z [] J g D (al h') Y3j I T rfl;refine Ze.of ⟨L,m,N,I,I,(((j.mn).trans (g.mono λk f=>by simp[s.qI.1 k f])).xV (.inl I)),λk f=>?_,λk f=>(D k f).imp (s.qI.1 k) λw=>by have:=w.1;simp at this;omega⟩;rcases G k f with i|i|i;exact .inl i;simp at i;exact .inr (.inr (by first|omega|(simp at i;omega)));have j:Z0 h (((h.xV (h.p,48) [r,t,u]).w.xV ((h.xV (h.p,48) [r,t,u]).w.p,16*10) [r,t,u]).w) []:=(R.xV (.inr I)).w;have o:=s.frame j;have⟨ys,M,y,n⟩:=o.wG;simp;simp only[Iu,QW] at M n j o;refine Wl (by simp;exact⟨rfl,rfl⟩) I I I M (Zr.jY (x:=[r,t,u]) I I) (by simp[y];omega) (λL h' J g D=>?_);have U:=o.keep g λk f=>.inl (s.qI.1 k f);simp[U];have ao:=W.frame λk f=>by
  have i:=hd.2 k f;simp only[Y5,Y3,not_or] at i;rw[g.2 k sO λw=>i.2.2.1 (s.qI.1 k w)];exact j.2 k i.1 I
 have⟨m,N,G⟩:=n h' L _ T.z F J g D ao hd.1 (λk f=>by
  have i:=hd.2 k f;have h4:=g.1;simp at h4;refine⟨X,i.2,λw=>?_⟩;simp only[Y5,Y3,not_or] at i;rcases D k w with h3|h3;exact i.2.2.1 (s.qI.1 k h3);simp at h3;omega) T rfl
 refine Ze.of ⟨L,m,N,I,I,(((j.mn).trans (g.mono λk f=>by simp[s.qI.1 k f])).xV (.inl I)),λk f=>?_,λk f=>(D k f).imp (s.qI.1 k) λw=>by have:=w.1;simp at this;omega⟩;rcases G k f with i|i|i;exact .inl i;exact .inr (.inl i);exact .inr (.inr (by first|omega|(simp at i;omega)));rintro e i ⟨v,m,o,hn,h0,j,G,aj⟩;have Y:=o.a;simp[hn,h0,Y];have⟨qs,q1,q2,q3,q4,q5,q6⟩:=o.xJ;simp only[Ye,Y34,Y04] at q2 q6;refine Zc (TE i v qs 187 [] [] Fl q1 (λk f=>o.lt k (by simp[q3 k f])) X q4 (λh' _=>trivial) (λq hq q' ap=>?_) _ (λh' J g=>?_));have⟨A,_,e1⟩:=q5 q hq;have⟨B,_,e2⟩:=q5 q' ap;rw[e1,e2];exact Ti A B _ rfl;have⟨am,N,ag⟩:=q6 h' J g;simp;refine f h' v am N (j.trans' g λk f=>?_) λk f=>G k (ag k f);exact(aj k f).imp_left λi=>by simp[i]
def HE(S:Sch)(T:E):aB (Sch×Int):=
 Z1 (Wg S T.y) λr=>bif r.2 then some (S,5) else Z1 (D7 S T) λa=>some (a,0)
def Tx(h l L F G w o u n S C T)(r:Int)(y)(g:Is (HE S T) (C,r))(s:Sc h l S L F G w o u)(z:Ow h WI y T.z n)(q:n.Nodup/\(∀k∈n,k.1<h.p/\k∉l::(w++(o++u))))(K)
  (f:Vc h l (w++(o++u)++n) C (.i r) K):
  Z5 prog 131 [.p l,.agg y] h K:=by
 refine Z5.jE func131 rfl kR λ_=>?_;obtain⟨X,M,N,rfl⟩:∃a b c,y=[a,b,c]:=by
  have:=z.len.1
  match y,this with
  |[a,b,c],_=>exact⟨a,b,c,rfl⟩
 obtain rfl:X=.d (.str T.y):=z.frz.1.flat rfl;have⟨v,V,g⟩:=g.bind;refine Z5.qM func131 rfl kR rfl rfl I ?_;simp;have D:Z0 h ((h.xV (h.p,48) [.d (.str T.y),M,N]).w) []:=(Z0.refl.xV (.inr (Y7 _))).w;have J:=s.frame D;have E:=J.a;simp at E;refine Z6.cu [0,3,4,1,2,5,6,7,8,9,10] (λe h'=>Z0 h h' []/\e.n=20/\e.get 0=.p l/\e.get 3=.p (h.p,48)/\e.get 6=.b v.2/\h'.a (h.p,48)=some [.d (.str T.y),M,N]) ?_ ?_;simp[E];refine Zc (Z5.qD (AU S T.y v V) ⟨.agg J.frz,.one (.frz (.data rfl)),trivial⟩ rfl ?_);simp;exact⟨λ_ _ x=>x,Ze.of (by simp[D.w])⟩;rintro e m ⟨j,t,Q,R,U,P⟩;simp[t,U];cases hv2:v.2 with|true=>?_|false=>?_;rw[hv2] at g;obtain⟨rfl,rfl⟩:=ZU g;simp[t];exact f _ _ (s.frame j).ows (j.mn) (λk f=>.inl (by simp at f|-;rcases f with f|f|f<;>simp[f]));rw[hv2] at g;simp only[cond_false] at g;have⟨S2,A,g⟩:=g.bind;obtain⟨rfl,rfl⟩:=ZU g;simp[t,Q,R,P];refine Zc (HI m l L F G w o u n S S2 T _ A (s.frame j) (z.frame λk f=>j.2 k (q.2 k f).1 I) ⟨q.1,λk f=>⟨Y4 (q.2 k f).1 j.1,(q.2 k f).2⟩⟩ _ (λh2 af ta' W B O=>?_));simp[t];refine f _ _ W.ows ((j.mn).trans (B.mono λk f=>by simp at f|-;rcases f with f|f<;>simp[f])) (λk f=>?_);simp only[Y3] at f|-;rcases f with f|f|f;rcases O k f with m|m|m;exact .inl (by simp[m]);exact .inl (by simp[m]);exact .inr (YE j.1 m);exact .inl (by simp[f]);exact .inl (by simp[f])
def Sc.xA{h l S f w A M V oa}(s:Sc h l S f w A M V oa){i:Nat}{T}(hi:S.q[i]?=some T):
  ∃(G:List aD) (t u:C) (F:List Z2) (D:Z2) (n:Nat) (B:aD),MR h 3 f G/\G.length=S.q.length/\f=.mrow D 0 S.q.length n/\Elem h D i 3 [.d (.str T.y),t,u] B/\Ow h WI [.d (.str T.y),t,u] T.z F/\F.Nodup/\(∀k∈F,k∈M/\k∉Z f)/\
    ∀o c',MR o 3 c' (G.take i++G.drop (i+1))->Z0 h o (Z f)->Z c'=Z f->
      ∃p,Sc (o.xV l [c',w,A]) l {S with q:=S.q.take i++S.q.drop (i+1)} c' w A p V oa/\(∀k∈p,k∈M)/\∀k∈F,k∉p:=by
 obtain⟨e,qf,qo,rfl,rfl,rfl,s⟩:=s;have y:e.length=S.q.length:=by have:=congrArg List.length s.t.ds;simpa using this
 have L:∀k∈Z4 f e,k.1<h.p:=λk c=>s.lt k (by simp[c]);have r:=s.nds.1;have⟨q,D,n,sp,x,h2,K,h4,_,W⟩:=s.t.elem (Ai hi);have⟨qc,qd,ql⟩:=q;simp only at h2 K W;subst h2;obtain⟨c0,x0,R,ds,rfl,U,e2,h7⟩:=K.jJ;simp only[E.z,List.cons.injEq] at U;obtain⟨rfl,rfl⟩:=U;obtain rfl:=(Frz.data (h:=h) e2).flat rfl;obtain⟨t,u,rfl⟩:∃t u,R=[t,u]:=by
  have:=h7.len.1
  match R,this with
  |[a,b],_=>exact⟨a,b,rfl⟩
 refine⟨e.map (λq:Q=>q.1),t,u,ql,D,n,_,s.t.mr,sU y,sU h4,W,K,Li r x,λk c=>⟨UJ x c,BC r x c⟩,λo c' hm Y H=>?_⟩;have N:(e.take i++e.drop (i+1)).Sublist e:=J0 X;have J:=Gl (c':=c') N H;have O:∀k∈Z4 f e,k≠l:=λk c he=>s.ne.1 (he▸c);have hp:=s.t.sub (h2:=o.xV l [c',w,A]) (c':=c') (qs':=e.take i++e.drop (i+1)) (λq z=>N.subset z) ?_ r ?_;have al:Part (o.xV l [c',w,A]) WI c' (e.take i++e.drop (i+1)) ((S.q.take i++S.q.drop (i+1)).map E.z):=by
  have:=s.t.ds
  rw[YL,XP,Xy,<-this];simpa using hp
 refine⟨_,⟨_,qf,qo,rfl,rfl,rfl,s.wX I al ((Y.mono λk c=>by simp[Z4,c]).xV (.inl I)) (J.nodup r) (λk c=>.inl (J.subset c))⟩,λk c=>J.subset c,λk c g=>?_⟩;simp only[Z4,Y3,YH] at g;rcases g with g|⟨q2,v,g⟩;exact BC r x c (H▸g)
 have:∃j,j≠i/\e[j]?=some q2:=by
  rcases v with v|v;have⟨j,m⟩:=Xh v;have ak:j<i:=by
   have:=(Y0.1 m).1
   simp at this;omega
  exact⟨j,X,by rw[Y39 ak] at m;exact m⟩;have⟨j,m⟩:=Xh v;rw[YO] at m;exact⟨i+1+j,X,m⟩
 have⟨j,m,z⟩:=this;exact(Gc r x z m g).2 c
 have:MR o WI.length c' ((e.take i++e.drop (i+1)).map (·.1)):=by simpa[WI] using hm
 refine this.frame λk c=>?_
 have:k≠l:=O k (by rw[H] at c;simp[Z4,c])
 simp[this];rintro k aj ⟨q,z,g⟩;have P:k∈Z4 f e:=by simp only[Z4,Y3,YH];exact .inr ⟨q,z,g⟩
 simp[O k P,Y.2 k (L k P) aj]
def Hz(S:Sch)(i:Nat)(a:aA):aB (Sch×Int):=
 Z1 (Wg S a) λr=>bif r.2 then some (S,5) else
 Za S.q i λT=>
 Z1 (D7 {S with q:=S.q.take i++S.q.drop (i+1)} {T with y:=a}) λd=>
 WZ (λk S next=>Za S.b k λf=>
   bif Z9 f.u T.y then(bif Z9 f.ref T.y then next {S with b:=S.b.set k ⟨a,f.j,a⟩} else next {S with b:=S.b.set k ⟨a,f.j,f.ref⟩})
   else(bif Z9 f.ref T.y then next {S with b:=S.b.set k ⟨f.u,f.j,a⟩} else next S))
  (λS=>WZ (λk S next=>Za S.cons k λc=>bif Z9 c.u T.y then next {S with cons:=S.cons.set k {c with u:=a}} else next S) (λS=>some (S,0)) S.cons.length 0 S) d.b.length 0 d
def Tv(h l tc L z ta F M S S')(i:Nat)(a)(r:Int)(g:Is (Hz S i a) (S',r))(s:Sc h l S tc L z ta F M)(K)
  (c:Vc h l (ta++(F++M)) S' (.i r) K):
  Z5 prog 132 [.p l,.i (i:Int),.s a] h K:=by
 refine Z5.jE func132 rfl kR λ_=>?_;have⟨v,hv,g⟩:=g.bind;have hb:=s.a;refine Z5.qM func132 rfl kR rfl rfl I ?_;have hne:=Zv (s.lt l I);simp[hb];refine Zc (Z5.qD (AU S a v hv) ⟨.agg s.frz,.one (.frz (.data rfl)),trivial⟩ rfl ?_);simp;have aj:Z0 h h.w []:=Z0.refl.w;cases hv2:v.2 with|true=>?_|false=>?_;rw[hv2] at g;obtain⟨rfl,rfl⟩:=ZU g;simp;exact c _ _ (s.frame aj).ows (aj.mn) (λk c=>.inl c);rw[hv2] at g;simp only[cond_false] at g;have⟨T,hi,g⟩:=g.qQ;have⟨O,bv,g⟩:=g.bind;obtain⟨xs,c1,c2,lx,lr,cap,B,d1,d2,rfl,d4,d5,d6,d7,d8⟩:=(s.frame aj).xA hi;have hlt:=(Y0.1 hi).1;have d9:=d4.rd0 3 X;have d10:h.a lr=some B:=d4.a;have b5:=s.len.1.2;simp only[UR] at b5;have hw:IntKind.i64.wrap (i+1)=((i+1:Nat):Int):=by exact Y6 _ X
 have br:=Zv (s.lt lr (by simp[s.qI.1 lr (by simp[Z])]));simp(maxDischargeDepth:=12) [hb,hlt,d9,d10,hw,hne,CU];have hs2:Z0 h ((h.w.xV (h.p+1,144) [C.d (D.str T.y),c1,c2]).w) []:=(aj.xV (.inr I)).w;have s2:=s.frame hs2;have ba:=s.nl;have bk:lr≠l:=λw=>ba.1 (s.qI.1 l (by simp[Z,w]));refine Zc (Ni _ (.mrow lr 0 S.q.length cap) xs i (i+1) (d1.frame λk c=>?_) X X _ (λc' h2 hm2 G bc _ hlab=>?_))
 have:k≠(h.p+1,144):=λw=>by
  have:=s.lt k (by simp[s.qI.1 k c]);rw[w] at this;simp at this;omega
 simp[this];have bm:h2.a l=some [C.mrow lr 0 S.q.length cap,L,z]:=by
  rw[G l (by simp[Z];exact λw=>bk w.symm)];simp[hb,hne]
 have bu:h2.a (h.p+1,144)=some [C.d (D.str T.y),c1,c2]:=by
  rw[G _ (by simp[Z];exact λw=>by have:=br (h.p+1) 144 X;rw[<-w] at this;simp at this)];simp
 have bg:=W1 (s.lt l I);simp(maxDischargeDepth:=12) [bm,bu,bg,CU];have⟨bn,s3,az,b1⟩:=d8 h2 c' hm2 ⟨by rw[bc];simp,λk c m=>by
  rw[G k m]
  have:k≠(h.p+1,144):=λw=>by rw[w] at c;simp at c
  simp[this]⟩ hlab
 have ao:∀k,k.1<h.p->k≠(h.p+1,144):=λk c w=>by rw[w] at c;simp at c;omega
 have ag:=s.lt;have b3:Z0 (h2.xV l [c',L,z]) ((h2.xV l [c',L,z]).xV (h.p+1,144) [C.d (D.str a),c1,c2]) [(h.p+1,144)]:=Z0.refl.xV (.inl I);have bj:Z0 h ((h2.xV l [c',L,z]).xV (h.p+1,144) [C.d (D.str a),c1,c2]) (l::ta):=by
  refine Z0.xV (Z0.xV ⟨by rw[bc];simp<;>omega,λk c m=>?_⟩ (.inl I)) (.inr I);simp only[Y5,not_or] at m;rw[G k λj=>m.2 (s.qI.1 k j)];simp[ao k c]
 have s4:=s3.rZ b3 (λk c=>by simp only[Yj] at c;subst c;intro j;simp only[Y5,Y3] at j;rcases j with j|j|j|j;exact ao l (ag l I) j.symm;exact ao _ (ag _ (by simp[az _ j])) rfl;exact ao _ (ag _ (by simp[j])) rfl;exact ao _ (ag _ (by simp[j])) rfl);have b2:Ow ((h2.xV l [c',L,z]).xV (h.p+1,144) [C.d (D.str a),c1,c2]) WI [C.d (D.str a),c1,c2] ({T with y:=a}:E).z lx:=by
  have h9:∀k∈lx,((h2.xV l [c',L,z]).xV (h.p+1,144) [C.d (D.str a),c1,c2]).a k=h.w.a k:=λk c=>by
   have j:=d7 k c;have q:=ag k (by simp[j.1]);have h3:k≠l:=λw=>ba.1 (w▸j.1);simp[ao k q,h3,G k j.2]
  have⟨_,_,_,_,e1,e2,e3,h8⟩:=d5.jJ;simp only[E.z,List.cons.injEq] at e1 e2;obtain⟨rfl,rfl⟩:=e1;obtain⟨rfl,rfl⟩:=e2;exact .data rfl (h8.frame h9)
 refine Zc (HI _ l c' L z bn F M lx _ O _ _ bv s4 b2 ⟨d6,λk c=>?_⟩ _ (λh5 ax au s5 bp bi=>?_));have j:=d7 k c;have q:=ag k (by simp[j.1]);have U:=s.nd;simp only[XF,Yk,Y3] at U;refine⟨by simp[bc];omega,?_⟩;simp only[Y5,Y3,not_or];refine⟨λw=>ba.1 (w▸j.1),b1 k c,λh7=>?_,λh7=>?_⟩;exact U.2.2.2 k j.1 k (.inl h7) rfl;exact U.2.2.2 k j.1 k (.inr h7) rfl;have bz:=bj.trans' bp λk c=>by simp only[Y5] at c;rcases c with rfl|c;exact .inl I;exact .inl (by simp[az k c])
 have bd:∀k∈au,k∈ta\/h.p<=k.1:=λk c=>by rcases bi k c with j|j|j;exact .inl (az k j);exact .inl (d7 k j).1;exact .inr (YE bj.1 j)
 have bw:=s5.a;simp(maxDischargeDepth:=12) [bw];refine V6 s5.len.2.1.1 ?_;simp;refine Z6.count (N:=(O.b.length:Int)) (λk S e h'=>e.n=119/\e.get 0=.p l/\e.get 2=.s a/\e.get 10=.s T.y/\e.get 51=.i O.b.length/\e.get 52=.i k/\S.b.length=O.b.length/\Sc h' l S ax L z au F M/\Z0 h h' (l::(ta++(F++M)))) (sU g) ⟨I,I,I,I,I,I,rfl,s5,bz.mono (by simp only[Y5,Y3];exact λk c=>c.imp_right .inl)⟩ ?_ ?_;rintro k S2 e U ⟨m,o,q,u,J,aq,hl2,t,ak⟩ hlt6 g;have⟨f,hf,g⟩:=g.qQ;have ad:k<O.b.length:=X
 have Y:k<S2.b.length:=X;have bb:=t.len.2.1.2;simp only[UR] at bb;have al:IntKind.i64.wrap ((k:Int)+1)=(k:Int)+1:=Y6 _ X;have P:=t.a;obtain⟨lf,cf,Bf,rfl,Q,b4⟩:=t.fkH hf;obtain⟨am,ar,c1f,el,-,-,w0,w2⟩:=t.fkK Q hf;have V:=el.rd0 1 X;have r2:=el.rd 2 1 X;simp at V r2;have R:∀(x:Env) (h':HS) (W:Sch),x.n=119->x.get 0=.p l->x.get 2=.s a->x.get 10=.s T.y->x.get 51=.i (O.b.length:Int)->x.get 52=.i ((k:Int)+1)->W.b.length=S2.b.length->Sc h' l W ax (.mrow lf 0 S2.b.length cf) z au F M->Z0 U h' F->
   (x.n=119/\x.get 0=.p l/\x.get 2=.s a/\x.get 10=.s T.y/\x.get 51=.i (O.b.length:Int)/\x.get 52=.i ((k+1:Nat):Int)/\W.b.length=O.b.length/\Sc h' l W ax (.mrow lf 0 S2.b.length cf) z au F M/\Z0 h h' (l::(ta++(F++M)))):=
  λx h' W a1 a2 a3 a4 a5 a6 a7 a8 a9=>⟨a1,a2,a3,a4,a5,sU a6,X,a8,ak.trans' a9 λk c=>.inl (by simp[c])⟩
 cases A:Z9 f.u T.y with|true=>?_|false=>?_;simp only[A,cond_true] at g;have s7:=w0 a;have bt:(U.xV lf (Zi Bf (k*3) [.d (.str a)])).a lf=some (Zi Bf (k*3) [.d (.str a)]):=I
 have bq:({S2 with b:=S2.b.set k ⟨a,f.j,f.ref⟩}:Sch).b[k]?=some ⟨a,f.j,f.ref⟩:=by simp[Y]
 obtain⟨-,-,b6,b0,-,-,-,w7⟩:=s7.fkK bt bq;have r7:=b0.rd 2 1 X;simp at r7;have bh:(Zi Bf (k*3) [.d (.str a)]).length=Bf.length:=A6 (by simp<;>omega);cases n:Z9 f.ref T.y with|true=>?_|false=>?_;simp only[n,cond_true] at g;simp[m,o,q,u,J,aq,ad,Y,P,Q,V,A,al,ar,r7,n,bh];refine⟨X,X,Zj.of _ ⟨R _ _ _ (by simp[m]) (by simp[o]) (by simp[q]) (by simp[u]) (by simp[J]) I ?_ (sU (w7 a)) ((Z0.rN am).xV (.inl am)),g⟩⟩;simp;simp only[n,cond_false] at g;simp[m,o,q,u,J,aq,ad,Y,P,Q,V,A,al,ar,r7,n];refine⟨X,Zj.of _ ⟨R _ _ _ (by simp[m]) (by simp[o]) (by simp[q]) (by simp[u]) (by simp[J]) I ?_ s7 (Z0.rN am),g⟩⟩;simp;simp only[A,cond_false] at g;cases n:Z9 f.ref T.y with|true=>?_|false=>?_;simp only[n,cond_true] at g;simp[m,o,q,u,J,aq,ad,Y,P,Q,V,A,al,r2,n];refine⟨X,Zj.of _ ⟨R _ _ _ (by simp[m]) (by simp[o]) (by simp[q]) (by simp[u]) (by simp[J]) I ?_ (w2 a) (Z0.rN am),g⟩⟩;simp;simp only[n,cond_false] at g;simp[m,o,u,J,aq,ad,Y,P,Q,V,A,al,r2,n];exact Zj.of _ ⟨R _ _ _ (by simp[m]) (by simp[o]) (by simp[q]) (by simp[u]) (by simp[J]) I rfl t .refl,g⟩;rintro k S2 e U ⟨m,o,q,u,J,aq,_,t,ak⟩ hge g;have P:=t.a;have aw:¬k<O.b.length:=X
 simp[m,o,J,aq,aw,P];refine V6 t.len.2.2.1 ?_;simp[m,o];refine Z6.count (N:=(S2.cons.length:Int)) (λk S e h'=>e.n=119/\e.get 0=.p l/\e.get 2=.s a/\e.get 10=.s T.y/\e.get 96=.i S2.cons.length/\e.get 97=.i k/\S.cons.length=S2.cons.length/\Sc h' l S ax L z au F M/\Z0 h h' (l::(ta++(F++M)))) (sU g) ⟨by simp[m],by simp[o],by simp[q],by simp[u],I,I,rfl,t,ak⟩ ?_ ?_;rintro k W e U ⟨m,o,q,u,ap,ay,bf,t,ak⟩ hlt6 g;have⟨f,hf,g⟩:=g.qQ;have ad:k<S2.cons.length:=X
 have Y:k<W.cons.length:=X;have bb:=t.len.2.2.2;simp only[UR] at bb;have al:IntKind.i64.wrap ((k:Int)+1)=(k:Int)+1:=Y6 _ X;have P:=t.a;obtain⟨lf,cf,Bf,rfl,Q,b4⟩:=t.wH hf;obtain⟨am,ar,el,w0,-,-⟩:=t.jR Q hf;have V:=el.rd0 1 X;simp at V;cases A:Z9 f.u T.y with|true=>?_|false=>?_;simp only[A,cond_true] at g;simp[m,o,q,u,ap,ay,ad,Y,P,Q,V,A,al];refine⟨X,Zj.of _ ⟨⟨by simp[m],by simp[o],by simp[q],by simp[u],by simp[ap],I,?_,w0 a,ak.xV (.inl (by simp[am]))⟩,g⟩⟩;simpa using bf;simp only[A,cond_false] at g;simp[m,o,u,ap,ay,ad,Y,P,Q,V,A,al];exact Zj.of _ ⟨⟨by simp[m],by simp[o],by simp[q],by simp[u],by simp[ap],I,bf,t,ak⟩,g⟩;rintro k W e U ⟨m,o,q,u,ap,ay,_,t,ak⟩ hge g;obtain⟨rfl,rfl⟩:=ZU g;have aw:¬k<S2.cons.length:=X
 simp[m,ap,ay,aw];refine c _ _ t.ows ak (λk c=>?_);simp only[Y3] at c|-;rcases c with c|c|c;exact(bd k c).imp_left .inl;exact .inl (.inr (.inl c));exact .inl (.inr (.inr c))
def Fv(s1:List Fk)(s2:List Fk)(eq:Fk->Fk->aB Bool):aB Bool:=
 bif ((s1.length:Int) !=(s2.length:Int)) then some false else Zd (λ(i5:Nat) (x5:Fk) (s5:Unit) next_5=>Za s2 (i5:Int) λx7=>Z1 (eq x5 x7) λv9=>bif !v9 then some false else next_5 ()) (λ(s5:Unit)=>some true) s1 0 ()
instance Zfn(s1:List Fk)(s2:List Fk)(eq:Fk->Fk->aB Bool){g:FuncId}{caps:List aC}[ConG eq prog (λx=>.agg x.z) (λx=>.agg x.z) (λv=>.one (.d (.bool v))) g caps]:Con (Fv s1 s2 eq) prog 189 [.one (.d (.sl (s1.map Fk.z))),.one (.d (.sl (s2.map Fk.z))),.one (.fn g caps)] (λr=>.one (.d (.bool r))):=by unfold Fv;have l1:LH (σ:=Unit) 17 [1,2,15,16] []:=.intro;exact go 32 func189
def Fz(s1:List Cons)(s2:List Cons):aB Bool:=
 bif ((s1.length:Int) !=(s2.length:Int)) then some false else Zd (λ(i5:Nat) (x5:Cons) (s5:Unit) next_5=>Za s2 (i5:Int) λx6=>bif (!(x5.u==x6.u)||(!(x5.left==x6.left)||(!(x5.op==x6.op)||(!(x5.right==x6.right)||(!(x5.value.g==x6.value.g)||(!(x5.value.int==x6.value.int)||(!(x5.value.text==x6.value.text)))))))) then some false else next_5 ()) (λ(s5:Unit)=>some true) s1 0 ()
instance Zgb(s1:List Cons)(s2:List Cons):Con (Fz s1 s2) prog 190 [.one (.d (.sl (s1.map Cons.z))),.one (.d (.sl (s2.map Cons.z)))] (λr=>.one (.d (.bool r))):=by unfold Fz;have l1:LH (σ:=Unit) 13 [0,1,12] []:=.intro;have p1:PH [6] (Y.qB aG .done):=.intro;exact go 26 func190
def FI(s_:Sch)(table:aA)(other:aA):aB Int:=
 Zd (λ(i3:Nat) (x3:Fk) (s3:(List Fk)×(List Fk)) next_3=>bif Z9 x3.ref table then some 10 else bif Z9 x3.ref other then some 10 else bif Z9 x3.u table then Wn s3.1 [x3] λ_=>(next_3 ((s3.1++[x3]),s3.2)) else bif Z9 x3.u other then Wn s3.2 [(Fk.mk table x3.j x3.ref)] λ_=>(next_3 (s3.1,(s3.2++[(Fk.mk table x3.j x3.ref)]))) else next_3 (s3.1,s3.2)) (λ(s3:(List Fk)×(List Fk))=>Z1 (Fv s3.1 s3.2 (λxa_ xb_=>Bm xa_ xb_)) λv13=>bif !v13 then some 10 else Zd (λ(i16:Nat) (x16:Cons) (s16:(List Cons)×(List Cons)) next_16=>bif Z9 x16.u table then Wn s16.1 [x16] λ_=>(next_16 ((s16.1++[x16]),s16.2)) else bif Z9 x16.u other then Wn s16.2 [(Cons.mk table x16.left x16.op x16.right x16.value)] λ_=>(next_16 (s16.1,(s16.2++[(Cons.mk table x16.left x16.op x16.right x16.value)]))) else next_16 (s16.1,s16.2)) (λ(s16:(List Cons)×(List Cons))=>Z1 (Fz s16.1 s16.2) λv24=>bif !v24 then some 11 else some 0) s_.cons 0 ([],[])) s_.b 0 ([],[])
instance Z02(s_:Sch)(table:aA)(other:aA):Con (FI s_ table other) prog 164 [.agg s_.z,.one (.d (.str table)),.one (.d (.str other))] (λr=>.one (.d (.int .i64 r))):=by
 unfold FI;have l1:LH (σ:=(List Fk)×(List Fk)) 18 [1,2,3,16,17] [.g 7 3 (λs=>s.1.map Fk.z),.g 8 3 (λs=>s.2.map Fk.z)]:=.intro;have l2:LH (σ:=(List Cons)×(List Cons)) 58 [1,2,56,57] [.g 11 7 (λs=>s.1.map Cons.z),.g 12 7 (λs=>s.2.map Cons.z)]:=.intro;exact go 85 func164
def E9(s1:List Col)(s2:List Col):aB Bool:=
 bif ((s1.length:Int) !=(s2.length:Int)) then some false else Zd (λ(i5:Nat) (x5:Col) (s5:Unit) next_5=>Za s2 (i5:Int) λx6=>bif (!(x5.y==x6.y)||(!(x5.g==x6.g)||(!(x5.f==x6.f)))) then some false else next_5 ()) (λ(s5:Unit)=>some true) s1 0 ()
instance TW(s1:List Col)(s2:List Col):Con (E9 s1 s2) prog 163 [.one (.d (.sl (s1.map Col.z))),.one (.d (.sl (s2.map Col.z)))] (λr=>.one (.d (.bool r))):=by unfold E9;have l1:LH (σ:=Unit) 13 [0,1,12] []:=.intro;have p1:PH [6] (Y.qB aG .done):=.intro;exact go 26 func163
def HD(S:Sch)(i:Nat)(step:Stp):aB (Sch×Int):=
 Z1 (Wg S step.o) λv=>bif !v.2 then some (S,4) else Za S.q i λT=>Za S.q v.1 λO=>bif (i==v.1) then some (S,7) else
 Z1 (E9 T.j O.j) λb=>bif !b then some (S,7) else Z1 (C1 T.pk O.pk) λa=>bif !a then some (S,7) else
 Z1 (FI S T.y O.y) λe=>bif e !=0 then some (S,e) else
 Zp ((0<T.pk.length/\T.pk.length<Zz)/\0<T.j.length/\T.j.length<Zz) (some (JW {S with q:=S.q.set i {T with pk:=T.pk++[(T.j.length:Int)],j:=T.j++[⟨step.d,2,false⟩]}} O.y,0))
set_option maxHeartbeats 2000000 in
def Tw(h l tc fc oc M y z A ta fa oa S S')(i:Nat)(step)(r:Int)(m:Is (HD S i step) (S',r))(s:Sc h l S tc fc oc ta fa oa)(K)
  (a:Vc h l (ta++(fa++oa)) S' (.i r) K):
  Z5 prog 136 [.p l,.i (i:Int),.agg (Zh step M y z A)] h K:=by
 have⟨v,hv,m⟩:=m.bind;have bk:Z0 h ((h.xV (h.p,80) (Zh step M y z A)).w) []:=(Z0.refl.xV (.inr (Y7 _))).w;have s0:=s.frame bk;have cg:=s0.a;have bn:(h.xV (h.p,80) (Zh step M y z A)).w.a (h.p,80)=some (Zh step M y z A):=I
 refine Z5.qM func136 rfl kR rfl rfl I ?_;have cl:Zh step M y z A≠[]:=by simp[Zh]
 have hne:=Zv (s.lt l I);have cw:=s.a;have ap:h.p<((h.xV (h.p,80) (Zh step M y z A)).w).p:=I
 simp[cl];generalize(h.xV (h.p,80) (Zh step M y z A)).w=HX at*;refine Z6.cu aQ (λe h'=>En e 99 [(0,.p l),(1,.i i),(5,.p (h.p,80)),(7,.i v.1),(8,.b v.2)]/\Z0 HX h' []) ?_ ?_;simp[cg,bn,Zh];refine Zc (Z5.qD (AU S step.o v hv) ⟨.agg s0.frz,.one (.frz (.data rfl)),trivial⟩ rfl ?_);simp;exact⟨λ_ _ x=>x,Ze.of (by simp[Z0.refl.w])⟩;rintro e Q ⟨f,ae⟩;have bm:Q.a (h.p,80)=some (Zh step M y z A):=by rw[ae.2 _ ap I];exact bn
 have W:=s0.frame ae;have cm:=W.a;have hy:=bk.trans ae;simp[f];cases hv2:v.2 with|false=>?_|true=>?_;rw[hv2] at m;obtain⟨rfl,rfl⟩:=ZU m;simp[f];exact a _ _ W.ows (hy.mn) (λk a=>.inl a);simp only[hv2,Xx,cond_false] at m;have⟨T,hi,m⟩:=m.qQ;have⟨O,cz,hj,m⟩:=m.get;obtain⟨j,b7⟩:∃j:Nat,v.1=j:=⟨v.1.toNat,X⟩;rw[b7] at f hj m;simp at hj;have U:=(Y0.1 hi).1;have b0:=(Y0.1 hj).1;have⟨E,c1,c2,B,J⟩:=W.tbl hi;obtain⟨cap,rfl⟩:=J.hd;have bx:=J.el.a;have r0:=J.el.rd0 3 X;have r1:=J.el.rd 1 1 X;have r2:=J.el.rd 2 1 X;simp at r0 r1 r2;have⟨d1,d2,tw⟩:=W.jC bx hj;have q0:=tw.el.rd0 3 X;simp at q0;simp;refine Z6.cut (Y.qB [0,1,2,3,4,5,6,7,8,9,11] (.three 10 14 15 (Y.qB [12] (.three 13 14 15 (Y.qB [] (.two 14 15 (Y.qB [15,16,17] .done) (Y.qB [14,16,17] .done))) (Y.qB [] (.two 13 15 (Y.qB [15,16,17] .done) (Y.qB [] (.two 13 16 (Y.qB [16,17] .done) (Y.qB [13,17] .done))))) (Y.qB [] (.two 13 14 (Y.qB [14,16,17] .done) (Y.qB [] (.two 13 16 (Y.qB [16,17] .done) (Y.qB [13,17] .done))))))) (Y.qB [] (.two 10 15 (Y.qB [12] (.two 13 15 (Y.qB [15,16,17] .done) (Y.qB [] (.two 13 16 (Y.qB [16,17] .done) (Y.qB [13,17] .done))))) (Y.qB [] (.two 10 16 (Y.qB [12] (.two 13 16 (Y.qB [16,17] .done) (Y.qB [13,17] .done))) (Y.qB [10,12,13,17] .done))))) (Y.qB [] (.two 10 14 (Y.qB [12] (.two 13 14 (Y.qB [14,16,17] .done) (Y.qB [] (.two 13 16 (Y.qB [16,17] .done) (Y.qB [13,17] .done))))) (Y.qB [] (.two 10 16 (Y.qB [12] (.two 13 16 (Y.qB [16,17] .done) (Y.qB [13,17] .done))) (Y.qB [10,12,13,17] .done))))))) follows kR (λC h'=>Ek e C [(7,.i j)] [0,1,5]/\Z0 Q h' []/\
  ∃V N:Z2,V≠N/\(Q.p<=V.1/\V.1<h'.p)/\(Q.p<=N.1/\N.1<h'.p)/\C.get 9=.p V/\C.get 10=.p N/\h'.a V=some [.d (.str T.y),c1,c2]/\h'.a N=some [.d (.str O.y),d1,d2]) ?_ ?_
 .have bb:=Zv (W.lt l I);have ba:=Zv (W.lt E (by simp[J.tm]));simp(maxDischargeDepth:=12) [f,cm,U,b0,bx,r0,q0,bb,ba,CU]
  repeat' (with_reducible apply And.intro)
  all_goals first
   | (refine Ze.of ⟨?_,(((Z0.refl.xV (.inr ?_)).w.xV (.inr ?_)).w.xV (.inr ?_)).xV (.inr ?_),(Q.p,144),(Q.p+1,160),?_,⟨?_,?_⟩,⟨?_,?_⟩,?_,?_,?_,?_⟩
      all_goals first
       |(simp[f];done)
       |(simp<;>omega))
   | (refine Ze.of ⟨?_,(((Z0.refl.xV (.inr ?_)).w.xV (.inr ?_)).w.xV (.inr ?_)).xV (.inr ?_),(Q.p+1,144),(Q.p,160),?_,⟨?_,?_⟩,⟨?_,?_⟩,?_,?_,?_,?_⟩
      all_goals first
       |(simp[f];done)
       |(simp<;>omega))
 rintro e c ⟨hF,u,V,N,_,ax,af,h9,cc,b9,aq⟩;have f:=And.intro h9 (And.intro cc (hF.an f));have s2:=W.frame u;have hb2:=s2.a;have ar:=hy.trans u;have bi:c.a (h.p,80)=some (Zh step M y z A):=by rw[u.2 _ (Y4 ap ae.1) I];exact bm
 have ff:∀h',Z0 c h' []->Frz h' c1 (.sl (T.j.map Col.z))/\Frz h' c2 (.sl (T.pk.map Zg))/\Frz h' d1 (.sl (O.j.map Col.z))/\Frz h' d2 (.sl (O.pk.map Zg)):=λh' hs=>⟨J.f1 h' (u.trans hs),J.f2 h' (u.trans hs),tw.f1 h' (u.trans hs),tw.f2 h' (u.trans hs)⟩;have ak:Z0 c c.w []:=Z0.refl.w;have aw:=ak.w;cases L:i==(j:Int) with|true=>?_|false=>?_;simp only[L,cond_true] at m;obtain⟨rfl,rfl⟩:=ZU m;simp[f,L];exact a _ _ s2.ows (ar.mn) (λk a=>.inl a);simp only[L,cond_false] at m;have⟨b,ca,m⟩:=m.bind;have cq:=sU L;simp[f,L,b9,aq];refine Zc (Z5.qD (TW T.j O.j b ca) ⟨.one (.frz (ff _ .refl).1),.one (.frz (ff _ .refl).2.2.1),trivial⟩ rfl ?_);cases b with|false=>?_|true=>?_;simp only[XO,cond_true] at m;obtain⟨rfl,rfl⟩:=ZU m;simp[f];exact a _ _ (s2.frame ak).ows ((ar.trans ak).mn) (λk a=>.inl a);simp only[Xx,cond_false] at m;have⟨b',bf,m⟩:=m.bind;simp[f,b9,aq];refine Zc (Z5.qD (Nt T.pk O.pk b' bf) ⟨.one (.frz (ff _ ak).2.1),.one (.frz (ff _ ak).2.2.2),trivial⟩ rfl ?_);cases b' with|false=>?_|true=>?_;simp only[XO,cond_true] at m;obtain⟨rfl,rfl⟩:=ZU m;simp[f];exact a _ _ (s2.frame aw).ows ((ar.trans aw).mn) (λk a=>.inl a);simp only[Xx,cond_false] at m;have⟨w,cb,m⟩:=m.bind;have s3:=s2.frame aw;simp[f];refine Z6.cu aG (λC h'=>Ek e C [(9,.p V),(10,.p N),(11,.i w)] [0,1,5]/\Z0 c h' []) ?_ ?_;simp[f,b9,aq,hb2];refine Zc (Z5.qD (Z02 S T.y O.y w cb) ⟨.agg s3.frz,.one (.frz (.data rfl)),.one (.frz (.data rfl)),trivial⟩ rfl ?_);simp[f];exact⟨λ_ _ x=>x,Ze.of ⟨by simp[f],aw.w⟩⟩;rintro e o ⟨hF,n⟩;have f:=hF.an f;have s4:=s2.frame n;have ck:=s4.a;have au:=ar.trans n;have bh:o.a V=some [.d (.str T.y),c1,c2]:=by rw[n.2 _ ax.2 I];exact b9
 have bq:o.a N=some [.d (.str O.y),d1,d2]:=by rw[n.2 _ af.2 I];exact aq
 have br:o.a E=some B:=by rw[n.2 _ (s2.lt E (by simp[J.tm])) I,u.2 _ (W.lt E (by simp[J.tm])) I];exact bx
 have bj:o.a (h.p,80)=some (Zh step M y z A):=by rw[n.2 _ (Y4 (Y4 ap ae.1) u.1) I];exact bi
 simp[f];cases hw0:w !=0 with|true=>?_|false=>?_;simp only[hw0,cond_true] at m;obtain⟨rfl,rfl⟩:=ZU m;have bv:=sU hw0;simp[f];exact a _ _ s4.ows (au.mn) (λk a=>.inl a);simp only[hw0,cond_false] at m;have bv:=sU hw0;have⟨⟨⟨ci,b5⟩,hc0,cp⟩,m⟩:=m.chk;obtain⟨rfl,rfl⟩:=ZU m;have cy:T.pk.length<2097152:=b5;have c6:T.j.length<2097152:=cp;simp[f,bv];refine Z6.cut (Y.qB [0,1,2,4,5,6,7,8,9] (.two 3 10 (Y.qB [10,11,12,13,14] .done) (Y.qB [] (.two 3 11 (Y.qB [11,12,13,14] .done) (Y.qB [3,12,13,14] .done))))) follows kR (λC h'=>Ek e C [] [0,1,5,9,10]/\
  (∃D B',Sc h' l {S with q:=S.q.set i {T with pk:=T.pk++[(T.j.length:Int)]}} (.mrow E 0 S.q.length cap) fc oc D fa oa/\h'.a E=some B'/\Zs 1 (B'.drop (i*3+1))=some [c1]/\(∀k∈D,k∈ta\/o.p<=k.1))/\Z0 o h' ta) ?_ ?_
 .have bb:=Zv (s4.lt l I);have ba:=Zv (s4.lt E (by simp[J.tm]));have b8:=Zv (Y4 ax.2 n.1);simp(maxDischargeDepth:=12) [f,bh];refine V6 J.n1.1 ?_;simp(maxDischargeDepth:=12) [f,ck,CU];have G:Z0 o ((o.qC (o.p,16*77) (some (1,1))).w) []:=(Z0.refl).qC.w;simp only[Nat.reduceMul] at G;obtain⟨c1',c2',t⟩:=(s4.frame G).jC (sU br) hi;obtain rfl:c2'=c2:=by
   have:=t.el.rd 2 1 X
   simp[r2] at this;exact this.symm
  have bz:=t.el.le;refine⟨?_,?_,?_⟩
  all_goals
   refine Wl (by simp;exact⟨rfl,rfl⟩) I I I (t.m2 (by intro h0;simp[h0] at ci)) (Zr.qU I) (by simp<;>omega) (λc' h' a7 F ah=>?_);have a1:h'.a E=some B:=by
    rw[F.2 E ((s4.frame G).lt E (by simp[t.tm])) λc=>(t.l2 E c).2 rfl];simpa using br
   have aj:=(s4.frame G).keep F λk a=>.inl (t.l2 k a).1;have ag:=F.1;simp at ag;have⟨D,P,bd⟩:=t.s2 h' c' (T.pk++[(T.j.length:Int)]) (sU a7) F (λk a=>(ah k a).imp_right λc=>⟨λo=>by have:=(s4.frame G).lt k o;omega,c.2⟩);have b6:=t.el.set (g:=2) (vs:=[c']) I I;have r6:=b6.rd 1 1 X;simp at r6;have r5:=t.el.rd 1 1 X;simp[r1] at r5;simp[f,U,a1,aj];refine⟨X,Ze.of ⟨by simp[f],⟨D,_,P,by simp;rfl,by rw[r6,r5],λk a=>?_⟩,?_⟩⟩;rcases bd k a with c|c;exact .inl c;rcases ah k c with o|o;exact .inl (t.l2 k o).1;refine .inr ?_;have a8:=o.1;simp at a8;omega;exact((G.mn).trans (F.mono λk a=>(t.l2 k a).1)).xV (.inl t.tm)
 rintro e R ⟨hF,⟨bg,B4,P,az,r4,al⟩,Z⟩;have f:=hF.an f;have bp:({S with q:=S.q.set i {T with pk:=T.pk++[(T.j.length:Int)]}}:Sch).q[i]?=some {T with pk:=T.pk++[(T.j.length:Int)]}:=by simp[U]
 have cd:=P.a;have ao:∀k∈ta,k.1<Q.p:=λk a=>W.lt k (by simp[a]);have ce:R.a V=some [.d (.str T.y),c1,c2]:=by rw[Z.2 _ (Y4 ax.2 n.1) (λc=>by have:=ao _ c;omega)];exact bh
 have b2:R.a N=some [.d (.str O.y),d1,d2]:=by rw[Z.2 _ (Y4 af.2 n.1) (λc=>by have:=ao _ c;omega)];exact bq
 have bu:R.a (h.p,80)=some (Zh step M y z A):=by
  rw[Z.2 _ (Y4 (Y4 (Y4 ap ae.1) u.1) n.1) (λc=>by have:=s.lt (h.p,80) (by simp[c]);simp at this)];exact bj
 simp;refine Z6.cut (Y.qB [0,1,2,4,5,6,7,8] (.two 3 9 (Y.qB [9,10,11,12,13,14] .done) (Y.qB [] (.two 3 10 (Y.qB [10,11,12,13,14] .done) (Y.qB [] (.two 3 11 (Y.qB [11,12,13,14] .done) (Y.qB [3,12,13,14] .done))))))) follows kR (λC h'=>Ek e C [] [0,10]/\
  (∃D,Sc h' l {S with q:=S.q.set i {T with pk:=T.pk++[(T.j.length:Int)],j:=T.j++[⟨step.d,2,false⟩]}} (.mrow E 0 S.q.length cap) fc oc D fa oa/\(∀k∈D,k∈bg\/R.p<=k.1))/\Z0 R h' bg) ?_ ?_
 .have bb:=Zv (P.lt l I);have⟨_,_,b4⟩:=P.jC az bp;have ba:=Zv (P.lt E (by simp[b4.tm]));have b8:=Zv (Y4 (Y4 ax.2 n.1) Z.1);have cx:=Zv (l:=(h.p,80)) (Y4 (Y4 (Y4 (Y4 ap ae.1) u.1) n.1) Z.1);simp(maxDischargeDepth:=12) [f,cd,ce,bu,CU,Zh];have G:Z0 R ((R.qC (R.p,16*91) (some (1,3))).w) []:=(Z0.refl).qC.w;simp only[Nat.reduceMul] at G;obtain⟨c1',c2',t⟩:=(P.frame G).jC (sU az) bp;obtain rfl:c1'=c1:=by
   have:=t.el.rd 1 1 X
   simp[r4] at this;exact this.symm
  have bz:=t.el.le
  repeat' (with_reducible apply And.intro)
  all_goals
   refine Wl (by simp;exact⟨rfl,rfl⟩) I I I (t.m1 (by intro h0;simp only at h0;simp[h0] at hc0)) (Zr.qU I) (by simp<;>omega) (λc' h' a7 F ah=>?_);have a1:h'.a E=some B4:=by
    rw[F.2 E ((P.frame G).lt E (by simp[t.tm])) λc=>(t.l1 E c).2 rfl];simpa using az
   have aj:=(P.frame G).keep F λk a=>.inl (t.l1 k a).1;have ag:=F.1;simp at ag;have⟨D,s7,bd⟩:=t.s1 h' c' (T.j++[⟨step.d,2,false⟩]) (sU a7) F (λk a=>(ah k a).imp_right λc=>⟨λo=>by have:=(P.frame G).lt k o;omega,c.2⟩);simp[f,U,a1,aj];refine⟨X,Ze.of ⟨by simp[f],⟨D,sU s7,λk a=>?_⟩,?_⟩⟩;rcases bd k a with c|c;exact .inl c;rcases ah k c with o|o;exact .inl (t.l1 k o).1;refine .inr ?_;have a8:=o.1;simp at a8;omega;exact((G.mn).trans (F.mono λk a=>(t.l1 k a).1)).xV (.inl t.tm)
 rintro e h5 ⟨hF,⟨ch,s7,b1⟩,F⟩;have f:=hF.an f;have am:=au.1;have bc:h.p<=R.p:=YE au.1 Z.1;have ay:∀k∈ch,k∈ta\/h.p<=k.1:=λk a=>by
  rcases b1 k a with c|c;exact(al k c).imp_right λo=>YE am o;exact .inr (YE bc c)
 have bt:Z0 h h5 ta:=((au.mn).trans Z).trans' F λk a=>(al k a).imp_right λo=>YE am o;have bw:h5.a N=some [.d (.str O.y),d1,d2]:=by
  rw[F.2 _ (Y4 (Y4 af.2 n.1) Z.1) (λc=>by
   rcases al _ c with o|o
   have:=ao _ o;omega
   have:=n.1;have:=af.2;omega)];exact b2
 simp[f,bw];refine Zc (Ng _ l _ _ O.y s7.ows _ ?_);intro h6 c7 b3 cn cj;simp[f];refine a _ _ b3 ((bt.mono λk a=>by simp[a]).trans' cn λk a=>?_) λk a=>?_;simp only[Y5] at a|-;rcases a with rfl|a;exact .inl (.inl rfl);exact(GM (lx:=[]) ay k a).imp_left .inr;rcases cj k a with c|c;exact GM (lx:=[]) ay k c;exact .inr (YE bt.1 c)
def Hq(fk:Fk)(k0:E):aB Bool:=
 some (Z9 fk.ref k0.y)
instance SX(fk:Fk)(k0:E):Con (Hq fk k0) prog 162 [.agg fk.z,.one (.rp [.str k0.y,.sl (k0.j.map Col.z),.sl (k0.pk.map Zg)])] (λr=>.one (.d (.bool r))):=by unfold Hq;exact go 9 func162
def MR.at{h}{w:Nat}{c xs}(m:MR h w c xs){k:Nat}{x}(b:xs[k]?=some x):∃l cap B,c=.mrow l 0 xs.length cap/\h.a l=some B/\Zs w (B.drop (k*w))=some x:=by have hlt:=(Y0.1 b).1;obtain⟨l,cap,sp,rfl,hb,_⟩:=m.block X;exact⟨l,cap,_,rfl,hb,IV m.1 b⟩
def MR.uniq{h}{w:Nat}{c}{g f:List aD}(m:MR h w c g)(q:MR h w c f):g=f:=by
 have e:g.length=f.length:=by have o:=m.len;rw[q.len] at o;exact(Option.some.inj o).symm
 refine YU λk=>?_;by_cases p:k<g.length;obtain⟨l,cap,B,rfl,hb,r⟩:=m.at (Y1 p);have⟨l',cap',B',n,b,j⟩:=q.at (Y1 (X:k<f.length));simp at n;obtain⟨rfl,-,-⟩:=n;rw[hb] at b;cases b;rw[r] at j;rw[Y1 p,Y1 (X:k<f.length),Option.some.inj j];rw[Yq X,Yq X]
def Us(h:HS)(a:C)(b:List aD)(n w:Nat):Prop:=∀k,k<n->∃l0 cap0 B0 x,a=.mrow l0 0 n cap0/\l0.1<h.p/\h.a l0=some B0/\b[k]?=some x/\Zs w (B0.drop (k*w))=some x
def Us.init{h c}{b:List aD}{w:Nat}(m:MR h w c b)(hl:∀k∈Z c,k.1<h.p):Us h c b b.length w:=λk e=>by obtain⟨l,cap,B,rfl,hb,f⟩:=m.at (Y1 e);exact⟨l,cap,B,b[k],rfl,hl l (by simp[Z]),hb,Y1 e,f⟩
def Us.frame{h h' a e}{n w:Nat}(o:Us h a e n w)(c:Z0 h h' []):Us h' a e n w:=λk m=>by have⟨d,g,f,x,i,b,h3,j,l⟩:=o k m;exact⟨d,g,f,x,i,Y4 b c.1,by rwa [c.2 d b I],j,l⟩
def Us.set{h a c}{n w:Nat}{l f}(o:Us h a c n w)(q:∀k∈Z a,k≠l):Us (h.xV l f) a c n w:=λk p=>by
 obtain⟨b,e,d,x,rfl,g,i,j,m⟩:=o k p
 have:=q b (by simp[Z])
 exact⟨b,e,d,x,rfl,sU g,by simpa[this] using i,j,m⟩
def Us.step{h d s c j f}{x:aD}{n w:Nat}(o:Us h s f n w)(m:MR h w c f)(D:MR d w j (f++[x]))(a:(Z0 h d (Z c)/\Z j=Z c)\/(Z0 h d []/\∀k∈Z j,h.p<=k.1/\k.1<d.p)):Us d s (f++[x]) n w:=λk A=>by
 have⟨b,i,r,y,l,e,h3,t,u⟩:=o k A;have q:=(Y0.1 t).1;have g:(f++[x])[k]?=some y:=by rw[Yu q];exact t
 rcases a with⟨a,B⟩|⟨a,_⟩;by_cases hm:b∈Z c;obtain⟨l',cap',v,rfl,p,z⟩:=D.at g;rw[<-B] at hm;simp[Z] at hm;subst hm;exact⟨b,i,v,y,l,Y4 e a.1,p,g,z⟩;exact⟨b,i,r,y,l,Y4 e a.1,by rwa [a.2 b e hm],g,u⟩;exact⟨b,i,r,y,l,Y4 e a.1,by rwa [a.2 b e I],g,u⟩
def M5(T:E)(a:aA){ρ:Type}(_:Nat)(f:Fk)(S:Sch)(next:Sch->aB ρ):aB ρ:=bif Z9 f.u T.y then Zp (S.b.length<Zz) (next {S with b:=S.b++[⟨a,f.j,f.ref⟩]}) else next S
def M4(T:E)(a:aA){ρ:Type}(_:Nat)(f:Cons)(S:Sch)(next:Sch->aB ρ):aB ρ:=bif Z9 f.u T.y then Zp (S.cons.length<Zz) (next {S with cons:=S.cons++[{f with u:=a}]}) else next S
def Ht(S:Sch)(i:Nat)(step:Stp):aB (Sch×Int):=
 Za S.q (i:Int) λT=>Z1 (W7 T step.d) λv=>bif !v.2 then some (S,4) else
 Z1 (Bt step.value step.op step.value) λq=>bif q.2 !=0 then some (S,q.2) else
 Z1 (WE step.value) λe=>bif e !=0 then some (S,e) else
 Za T.j v.1 λc=>bif step.value.g !=c.g then some (S,7) else
 Z1 (Wg S step.o) λw=>bif w.2 then some (S,5) else
 Z1 (Zpm S.b λf=>Hq f T) λb=>bif b then some (S,10) else
 Zd (M5 T step.o) (λa=>Zd (M4 T step.o) (λS2=>Z1 (D7 S2 {T with y:=step.o}) λd=>some (d,0)) S.cons 0 a) S.b 0 S
def Sm(h:HS)(l:Z2)(r m o:C)(i f g:List Z2)(S:Sch)(q a B:aD)(n:Z2)(c:Sch)(e:Env)(b:HS):Prop:=∃fc1 d ad j,e.n=149/\e.get 0=.p l/\e.get 5=.p (h.p,80)/\e.get 7=.p (h.p+1,112)/\
 c.q=S.q/\c.cons=S.cons/\c.b=S.b++ad/\Sc b l c r fc1 o i d g/\(∀k∈d,k∈f\/h.p+1<k.1)/\Z0 h b (l::(i++(f++g)))/\b.a (h.p,80)=some q/\b.a (h.p+1,112)=some a/\b.a n=some B/\h.p+1<b.p/\MR b 3 fc1 j/\Us b m j S.b.length 3
def Sl(h:HS)(l:Z2)(s m q:C)(g n j f:List Z2)(S:Sch)(r a B:aD)(o:Z2)(c:Sch)(e:Env)(b:HS):Prop:=∃oc1 d ad i,e.n=149/\e.get 0=.p l/\e.get 5=.p (h.p,80)/\e.get 7=.p (h.p+1,112)/\
 c.q=S.q/\c.cons=S.cons++ad/\Sc b l c s m oc1 g j d/\(∀k∈d,k∈f\/h.p+1<k.1)/\Z0 h b (l::(g++(n++f)))/\b.a (h.p,80)=some r/\b.a (h.p+1,112)=some a/\b.a o=some B/\h.p+1<b.p/\MR b 7 oc1 i/\Us b q i S.cons.length 7
set_option maxHeartbeats 2000000 in
def T4(h l tc fc oc x6 A F G ta fa oa)(S S':Sch)(i:Nat)(step:Stp)(r:Int)(hm:Is (Ht S i step) (S',r))(s:Sc h l S tc fc oc ta fa oa)(K:V->HS->Prop)
  (f:Vc h l (ta++(fa++oa)) S' (.i r) K):
  Z5 prog 135 [.p l,.i (i:Int),.agg (Zh step x6 A F G)] h K:=by
 have⟨T,hi,hm⟩:=hm.qQ;have⟨v,hv,hm⟩:=hm.bind;have hlt:i<S.q.length:=(Y0.1 hi).1;have⟨J,c1,c2,B,tv⟩:=s.tbl hi;obtain⟨cap,rfl⟩:=tv.hd;have hb:=s.a;have bx:=tv.el.a;have r0:=tv.el.rd0 3 X;simp at r0;have hne:=Zv (s.lt l I);have eo:=Zv (s.lt J (by simp[tv.tm]));have dq:∀h',Z0 h h' []->ZI h' [C.d (D.str T.y),c1,c2] T.z:=λh' hs=>⟨.data rfl,tv.f1 h' hs,tv.f2 h' hs,trivial⟩;refine Z5.ov func135 ?_;have fj:Zh step x6 A F G≠[]:=by simp[Zh]
 have cj:Z0 h (((h.xV (h.p,80) (Zh step x6 A F G)).w.xV (h.p+1,112) [C.d (D.str empty),C.nil,C.nil]).w.xV (h.p+1,112) [C.d (D.str T.y),c1,c2]) []:=(((Z0.refl.xV (.inr (Y7 _))).w.xV (.inr I)).w.xV (.inr I));have e3:Zs 1 ((Zh step x6 A F G).drop 3)=some [.d (.str step.d)]:=by simp[Zh]
 simp[hb,hlt,bx,r0,hne,eo,fj,e3];generalize hX:(((h.xV (h.p,80) (Zh step x6 A F G)).w.xV (h.p+1,112) _).w.xV (h.p+1,112) _)=HX at*;have bw:HX.a (h.p,80)=some (Zh step x6 A F G):=by rw[<-hX];simp
 have dr:HX.a (h.p+1,112)=some [C.d (D.str T.y),c1,c2]:=by rw[<-hX];simp
 have e0:h.p+1<HX.p:=by rw[<-hX];simp
 refine Zc (Z5.qD (FR T step.d v hv) ⟨.agg (dq _ cj),.one (.frz (.data rfl)),trivial⟩ rfl ?_);have ec:Zs 1 ((Zh step x6 A F G).drop 7)=some [.d (.str step.op)]:=by simp[Zh]
 have e8:Zs 3 ((Zh step x6 A F G).drop 8)=some [.d (.int .i64 step.value.g),.d (.int .i64 step.value.int),.d (.str step.value.text)]:=by simp[Zh]
 have ei:Zs 1 ((Zh step x6 A F G).drop 8)=some [.d (.int .i64 step.value.g)]:=by simp[Zh]
 have b5:Zs 1 ((Zh step x6 A F G).drop 2)=some [.d (.str step.o)]:=by simp[Zh]
 have cx:=cj.w;simp;cases hv2:v.2 with|false=>?_|true=>?_;rw[hv2] at hm;obtain⟨rfl,rfl⟩:=ZU hm;simp;exact f _ _ (s.frame cx).ows (cx.mn) (λk f=>.inl f);simp only[hv2,Xx,cond_false] at hm;have⟨q,hq,hm⟩:=hm.bind;simp[bw,ec,e8];refine Zc (Z5.qD (Z12 step.value step.op step.value q hq) ⟨.agg (ZI.qK (ds:=step.value.z)),.one (.frz (.data rfl)),.agg (ZI.qK (ds:=step.value.z)),trivial⟩ rfl ?_);have hs2:=cx.w;simp;cases hq2:q.2 !=0 with|true=>?_|false=>?_;simp only[hq2,cond_true] at hm;obtain⟨rfl,rfl⟩:=ZU hm;simp;exact f _ _ (s.frame hs2).ows (hs2.mn) (λk f=>.inl f);simp only[hq2,cond_false] at hm;have⟨u,hu,hm⟩:=hm.bind;simp[bw,e8];refine Zc (Z5.qD (Z1a step.value u hu) ⟨.agg (ZI.qK (ds:=step.value.z)),trivial⟩ rfl ?_);have L:=hs2.w;simp;cases hu2:u !=0 with|true=>?_|false=>?_;simp only[hu2,cond_true] at hm;obtain⟨rfl,rfl⟩:=ZU hm;simp;exact f _ _ (s.frame L).ows (L.mn) (λk f=>.inl f);simp only[hu2,cond_false] at hm;have⟨c,hc0,hc,hm⟩:=hm.get;obtain⟨n,dc⟩:∃n:Nat,v.1=n:=⟨v.1.toNat,X⟩;have b3:n<T.j.length:=by
  have:=(Y0.1 hc).1
  omega
 have s3:=s.frame L;have dt:HX.w.w.w.a J=some B:=by rw[L.2 J (s.lt J (by simp[tv.tm])) I];exact bx
 have⟨c1',c2',d8⟩:=s3.jC dt hi;have r1:=tv.el.rd 1 1 X;simp at r1;obtain rfl:c1'=c1:=by
  have:=d8.el.rd 1 1 X
  simp[r1] at this;exact this.symm
 obtain⟨l2,M,B2,rfl,dw,-⟩:=d8.e1 _ c hc;have d1:=dw.a;have q1:=dw.rd 1 1 X;rw[dc] at q1;simp at q1 d1;simp[dc];refine Z6.cu aJ (λe h'=>e.n=149/\e.get 0=.p l/\e.get 5=.p (h.p,80)/\e.get 7=.p (h.p+1,112)/\e.get 64=.b (step.value.g !=c.g)/\h'=HX.w.w.w) ?_ ?_;simp[bw,dr,ei,d1,q1,b3];exact Ze.of I;rintro e h4 ⟨o,Q,W,U,ej,rfl⟩;simp[ej];cases b9:step.value.g !=c.g with|true=>?_|false=>?_;simp only[b9,cond_true] at hm;obtain⟨rfl,rfl⟩:=ZU hm;simp[o];exact f _ _ s3.ows (L.mn) (λk f=>.inl f);simp only[b9,cond_false] at hm;have⟨w,hw,hm⟩:=hm.bind;have dn:=s3.a;simp;refine Z6.cu aQ (λe h'=>e.n=149/\e.get 0=.p l/\e.get 5=.p (h.p,80)/\e.get 7=.p (h.p+1,112)/\e.get 14=.b w.2/\Z0 HX h' []) ?_ ?_;simp at dn;simp[o,Q,W,dn,bw,b5];refine Zc (Z5.qD (AU S step.o w hw) ⟨.agg s3.frz,.one (.frz (.data rfl)),trivial⟩ rfl ?_);simp[o];exact⟨λ_ _ x=>x,Ze.of ⟨by simp[o],by simp[Q],by simp[W],by simp[U],I,Z0.refl.w.w.w.w⟩⟩;rintro e bp ⟨o,Q,W,U,ea,ca⟩;have b6:=cj.trans ca;have s4:=s.frame b6;have fi:=s4.a;have dx:bp.a (h.p,80)=some (Zh step x6 A F G):=by rw[ca.2 _ (by simp<;>omega) I];exact bw
 have cd:bp.a (h.p+1,112)=some [C.d (D.str T.y),.mrow l2 0 T.j.length M,c2]:=by rw[ca.2 _ (by simp<;>omega) I];exact dr
 simp[o,ea];cases hw2:w.2 with|true=>?_|false=>?_;simp only[hw2,cond_true] at hm;obtain⟨rfl,rfl⟩:=ZU hm;simp[o];exact f _ _ s4.ows (b6.mn) (λk f=>.inl f);simp only[hw2,cond_false] at hm;have⟨b,en,hm⟩:=hm.bind;simp[o,Q,U,fi];refine Zc (Z5.qD (JH S.b 162 [T.z] (λfk=>Hq fk T) (λxa v hv=>SX xa T v hv) b en) ⟨.one (.frz s4.wU),.one (.fn rfl ?_),trivial⟩ rfl ?_);intro j cp ds hj hd;cases j with
 |zero=>?_
 |succ j=>simp at hj
 simp at hj hd;subst hj hd;exact⟨_,cd,dq _ b6⟩;simp;have eh:=ca.w;have b7:=b6.w;have s5:=s.frame b7;cases b with|true=>?_|false=>?_;obtain⟨rfl,rfl⟩:=ZU hm;simp[o];exact f _ _ s5.ows (b7.mn) (λk f=>.inl f);simp only[cond_false] at hm;have d7:=s5.a;simp at d7;simp[o,Q,d7];refine V6 s5.len.2.1.1 ?_;simp[o];have di:bp.w.a (h.p,80)=some (Zh step x6 A F G):=dx;have dm:bp.w.a (h.p+1,112)=some [C.d (D.str T.y),.mrow l2 0 T.j.length M,c2]:=cd;have de:bp.w.a J=some B:=by rw[b7.2 J (s.lt J (by simp[tv.tm])) I];exact bx
 have d0:h.p+1<bp.w.p:=Y4 e0 eh.1;obtain⟨fh,dg,e7,-⟩:=s5.rB;refine Z6.for (xs:=S.b) (s0:=S) (λk Y e h1=>e.get 84=.one fc/\e.get 85=.i (S.b.length:Int)/\e.get 86=.i (k:Int)/\Sm h l (.mrow J 0 S.q.length cap) fc oc ta fa oa S (Zh step x6 A F G) [C.d (D.str T.y),.mrow l2 0 T.j.length M,c2] B J Y e h1) hm
  ⟨I,I,I,fc,fa,[],fh,by simp[o],by simp[Q],by simp[W],by simp[U],rfl,rfl,I,s5,λk f=>.inl f,b7.mn,di,dm,de,d0,dg,e7▸Us.init dg (λk f=>s5.lt k (by simp[s.qI.2.1 k f]))⟩ ?_ ?_
 rintro k Y e h1 ⟨br,ba,ax,b4,b2,ad,xs,o,Q,W,U,bz,bd,cc,s1,al,bg,bt,bh,b0,bi,mx,ox⟩ ac hm;have hw:IntKind.i64.wrap ((k:Int)+1)=(k:Int)+1:=Y6 _ (by have:=s5.len.2.1.2;simp at this;omega);obtain⟨l0,aq,B0,x,rfl,eb,ck,hx,cb⟩:=ox k ac;have ez:Y.b[k]?=some S.b[k]:=by rw[cc,Yu ac,Y1 ac]
 obtain⟨N,cf,Bf,c1f,rfl,ag,el,fz,cl,-,-⟩:=s1.fk ez;obtain rfl:x=[.d (.str S.b[k].u),c1f,.d (.str S.b[k].ref)]:=by have⟨fd,e9,Bf',e2,hb2,a7⟩:=mx.at hx;simp at e2;obtain⟨rfl,-,-⟩:=e2;have e3:=el.a;rw[hb2] at e3;cases e3;have e4:=el.rd0 3 X;rw[a7] at e4;simpa using e4
 have P:Z0 h1 ((h1.xV (h1.p,256) [C.d (D.str empty),C.nil,C.d (D.str empty)]).w.xV (h1.p,256) [.d (.str S.b[k].u),c1f,.d (.str S.b[k].ref)]) []:=((Z0.refl.xV (.inr (Y7 _))).w).xV (.inr (Y7 _));have c7:=Zv (l:=(h.p+1,112)) (n:=h1.p) (sU bi);have ft:=Zv (s1.lt l I);simp only[M5] at hm;simp[o,U,br,ba,ax,ac,ck,cb,bh,c7];generalize hX2:(h1.xV (h1.p,256) [C.d (D.str empty),C.nil,C.d (D.str empty)]).w.xV (h1.p,256) [.d (.str S.b[k].u),c1f,.d (.str S.b[k].ref)]=HZ at P;have dy:HZ.a (h1.p,256)=some [.d (.str S.b[k].u),c1f,.d (.str S.b[k].ref)]:=by rw[<-hX2];simp
 have fo:h1.p<HZ.p:=by rw[<-hX2];simp
 have sz:=s1.frame P;have bn:HZ.a (h.p,80)=some (Zh step x6 A F G):=by rw[P.2 _ (by simp<;>omega) I];exact bt
 have b1:HZ.a (h.p+1,112)=some [C.d (D.str T.y),.mrow l2 0 T.j.length M,c2]:=by rw[P.2 _ (sU bi) I];exact bh
 have bv:HZ.a J=some B:=by rw[P.2 _ (s1.lt J (by simp[tv.tm])) I];exact b0
 have mz:MR HZ 3 (.mrow N 0 Y.b.length cf) xs:=mx.frame λk f=>P.2 k (s1.lt k (by simp[s1.qI.2.1 k f])) I;have oz:=ox.frame P;cases hbt:Z9 S.b[k].u T.y with|false=>?_|true=>?_;simp only[hbt,cond_false] at hm;simp[o,ax,hw];rw[hX2];exact Zj.of Y ⟨⟨by simp[br],by simp[ba],I,_,b2,ad,xs,by simp[o],by simp[Q],by simp[W],by simp[U],bz,bd,cc,sz,al,bg.trans (P.mn),bn,b1,bv,X,mz,oz⟩,hm⟩;simp only[hbt,cond_true] at hm;have⟨hlim,hm⟩:=hm.chk;simp;rw[hX2];have cg:=sz.a;refine Z6.cu [0,1,2,3,4,5,6,7,8,10,11,9,12,13,14,15,16,17] (λe t=>e.get 84=.one (.mrow l0 0 S.b.length aq)/\e.get 85=.i (S.b.length:Int)/\e.get 86=.i (k:Int)/\Sm h l (.mrow J 0 S.q.length cap) (.mrow l0 0 S.b.length aq) oc ta fa oa S (Zh step x6 A F G) [C.d (D.str T.y),.mrow l2 0 T.j.length M,c2] B J {Y with b:=Y.b++[⟨step.o,S.b[k].j,S.b[k].ref⟩]} e t) ?_ ?_;simp[o,Q,W,cg,bn,dy,b5];refine Zc (Eo _ c1f (S.b[k].j.map λc=>(Zg c).map C.d) (by rw[Af];exact(fz HZ P).rowAt (n:=1) (by simp[D.flat]) (sU cl.2)) _ (λpc t mp hs2 c8 d5=>?_));simp[o];refine⟨d5,?_⟩;have d9:Ow t VB [.d (.str step.o),pc,.d (.str S.b[k].ref)] (⟨step.o,S.b[k].j,S.b[k].ref⟩:Fk).z (Z pc):=by
  refine .data rfl ?_
  have:=Ow.rW (es:=[.d]) (n:=1) (ts:=S.b[k].j.map Zg) (by rwa [<-Af]) rfl I (Ow.data (c:=.d (.str S.b[k].ref)) (x:=.str S.b[k].ref) rfl .nil)
  simpa using this
 have fm:=hs2.1;have fin:∀(h3:HS) (x':aD) (lx:List Z2),Z0 t h3 []->(∀h',(∀k∈Z pc,h'.a k=t.a k)->Ow h' VB x' (⟨step.o,S.b[k].j,S.b[k].ref⟩:Fk).z lx)->(∀k∈lx,k∈Z pc)->lx.Nodup->∀(O:C) (h':HS),MR h' 3 O (xs++[x'])->
   ((Z0 h3 h' (Z (.mrow N 0 Y.b.length cf))/\Z O=Z (.mrow N 0 Y.b.length cf))\/(Z0 h3 h' []/\∀k∈Z O,h3.p<=k.1/\k.1<h'.p))->
   h'.a l=some [.mrow J 0 S.q.length cap,.mrow N 0 Y.b.length cf,oc]/\∃bb,Sc (h'.xV l [.mrow J 0 S.q.length cap,O,oc]) l {Y with b:=Y.b++[⟨step.o,S.b[k].j,S.b[k].ref⟩]} (.mrow J 0 S.q.length cap) O oc ta bb oa/\(∀k∈bb,k∈fa\/h.p+1<k.1)/\
    Z0 h (h'.xV l [.mrow J 0 S.q.length cap,O,oc]) (l::(ta++(fa++oa)))/\(h'.xV l [.mrow J 0 S.q.length cap,O,oc]).a (h.p,80)=some (Zh step x6 A F G)/\(h'.xV l [.mrow J 0 S.q.length cap,O,oc]).a (h.p+1,112)=some [C.d (D.str T.y),.mrow l2 0 T.j.length M,c2]/\(h'.xV l [.mrow J 0 S.q.length cap,O,oc]).a J=some B/\
    h.p+1<(h'.xV l [.mrow J 0 S.q.length cap,O,oc]).p/\MR (h'.xV l [.mrow J 0 S.q.length cap,O,oc]) 3 O (xs++[x'])/\Us (h'.xV l [.mrow J 0 S.q.length cap,O,oc]) (.mrow l0 0 S.b.length aq) (xs++[x']) S.b.length 3:=by
  intro h3 x' lx L e6 dj fg O h' ak hd;have af:Z0 HZ h3 []:=hs2.trans L;have s3:=sz.frame af;obtain⟨ys,my,-,add⟩:=s3.rB;have m3:MR h3 3 (.mrow N 0 Y.b.length cf) xs:=mz.frame λk f=>af.2 k (sz.lt k (by simp[sz.qI.2.1 k f])) I;obtain rfl:=my.uniq m3;have ah:Z0 h3 h' (Z (.mrow N 0 Y.b.length cf)):=hd.elim (λh=>h.1) λh=>h.1.mn;have bc:∀k∈Z O,k∈Z (.mrow N 0 Y.b.length cf)\/(h3.p<=k.1/\k.1<h'.p):=λk f=>hd.elim (λh=>.inl (h.2▸f)) λh=>.inr (h.2 k f);have ae:∀k∈Z (.mrow N 0 Y.b.length cf),k=N:=λk f=>by simpa[Z] using f
  have fq:=s1.lt N (by simp[ag]);have dd:=L.1;have cz:=ah.1;have ex:∀k∈Z pc,h'.a k=t.a k:=λk f=>by
   have g:=c8 k f;rw[ah.2 k X λao=>by have:=ae k ao;subst this;omega];exact L.2 k g.2 I
  have ab:∀k:Z2,k.1<HZ.p->k≠N->k≠l->(h'.xV l [.mrow J 0 S.q.length cap,O,oc]).a k=HZ.a k:=λk g ao bq=>by
   simp only[Kw,bq,if_false];rw[ah.2 k X λcy=>ao (ae k cy),af.2 k g I]
  have⟨bb,s6,dk⟩:=add h' O x' _ lx ak ah bc (e6 h' ex) fg (λk f=>by
   have g:=c8 k (dj k f);refine⟨X,λao=>by have:=sz.lt k ao;omega,λao=>?_⟩;rcases bc k ao with bq|bq
   have:=ae k bq;subst this;omega
   omega) _ rfl
  have b3:∀k∈Z O,k≠l:=λk f he=>by
   rcases bc k f with g|g
   have:=ae k g;subst this;subst he;exact s1.nl.2.1 ag
   have:=s1.lt l I;rw[<-he] at this;omega
  have au:∀b,((h.p,b):Z2)≠N/\((h.p,b):Z2)≠l:=λb=>⟨λhe=>by
   rcases al N ag with g|g
   have:=s.lt N (by simp[g]);rw[<-he] at this;simp at this
   rw[<-he] at g;have dp:h.p+1<h.p:=g;omega,λhe=>by have:=s.lt l I;rw[<-he] at this;simp at this⟩
  have aw:∀b,((h.p+1,b):Z2)≠N/\((h.p+1,b):Z2)≠l:=λb=>⟨λhe=>by
   rcases al N ag with g|g
   have:=s.lt N (by simp[g]);rw[<-he] at this;simp at this;omega
   rw[<-he] at g;simp at g,λhe=>by have:=s.lt l I;rw[<-he] at this;simp at this;omega⟩
  refine⟨s3.keep ah λk f=>.inr (.inl (s3.qI.2.1 k f)),bb,s6,λk f=>?_,?_,?_,?_,?_,by simp<;>omega,ak.frame λk f=>by simp[b3 k f],(((oz.frame af).step m3 ak hd).set λk f he=>?_)⟩;rcases dk k f with g|g|g;exact al k g
  have:=c8 k (dj k g);exact .inr X
  exact .inr X;refine Z0.xV ((bg.trans ((P.trans af).mn)).trans' ah λk f=>?_) (.inl I)
  have:=ae k f
  subst this;exact(al k ag).imp (λg=>by simp[g]) λg=>X;rw[ab _ (by simp<;>omega) (au 80).1 (au 80).2];exact bn;rw[ab _ (by simp<;>omega) (aw 112).1 (aw 112).2];exact b1;refine(ab J (by have:=s1.lt J (by simp[tv.tm]);omega) (λhe=>?_) λhe=>s.nl.1 (he▸tv.tm)).trans bv;have R:=s1.nd;simp only[XF,Yk,Y3] at R;exact R.2.2.2 J tv.tm N (.inl ag) he;simp[Z] at f;subst f;subst he;exact s.nl.2.1 (s.qI.2.1 _ (by simp[Z]))
 have hxl:xs.length=Y.b.length:=by have g:=mx.len;simp[Wd] at g;exact g.symm
 have ar:xs.length+1<=Zz:=by rw[hxl];exact hlim
 refine DF (x:=[.d (.str step.o),pc,.d (.str S.b[k].ref)]) (by simp[ZB];cases pc.toD<;>rfl) I (λd bc=>?_) (λ_=>?_);obtain⟨rfl,ee⟩:=d9.ofD bc;have L:Z0 t ((t.qC (t.p,16*108) (some (1,3))).w) []:=Z0.refl.qC.w;simp[o];refine J2 (by simp;exact⟨rfl,rfl⟩) I I I (mz.frame λk f=>(hs2.trans L).2 k (sz.lt k (by simp[sz.qI.2.1 k f])) I) (Zr.qU I) (sU ar) (λO h' ak hd=>?_);have⟨bu,bb,s6,t1,t2,t3,t4,t5,t6,t7,t8⟩:=fin _ _ [] L (λh' _=>ee h') I Y3j O h' ak hd;simp[o,bu];exact Ze.of ⟨by simp[br],by simp[ba],by simp[ax],O,bb,_,_,by simp[o],by simp[Q],by simp[W],by simp[U],bz,bd,by simp[cc];rfl,s6,t1,t2,t3,t4,t5,t6,t7,t8⟩;have L:Z0 t ((t.xV (t.p,16*108) [.d (.str step.o),pc,.d (.str S.b[k].ref)]).w) []:=(Z0.refl.xV (.inr (Y7 _))).w;simp[o];refine J2 (by simp;exact⟨rfl,rfl⟩) I I I (mz.frame λk f=>(hs2.trans L).2 k (sz.lt k (by simp[sz.qI.2.1 k f])) I) (Zr.jY (x:=[.d (.str step.o),pc,.d (.str S.b[k].ref)]) I I) (sU ar) (λO h' ak hd=>?_);have⟨bu,bb,s6,t1,t2,t3,t4,t5,t6,t7,t8⟩:=fin _ _ (Z pc) L (λh' hb'=>d9.frame hb') (λ_ h=>h) Vx O h' ak hd;simp[o,bu];exact Ze.of ⟨by simp[br],by simp[ba],by simp[ax],O,bb,_,_,by simp[o],by simp[Q],by simp[W],by simp[U],bz,bd,by simp[cc];rfl,s6,t1,t2,t3,t4,t5,t6,t7,t8⟩;rintro e t ⟨br,ba,ax,hp⟩;have o:=hp;obtain⟨_,_,_,_,o,Q,W,U,-⟩:=o;simp[o,ax,hw];obtain⟨ci,ce,cw,cm,-,-,-,-,q⟩:=hp;exact Zj.of _ ⟨⟨by simp[br],by simp[ba],I,ci,ce,cw,cm,by simp[o],by simp[Q],by simp[W],by simp[U],q⟩,hm⟩;rintro Y e h1 ⟨_,ba,ax,b4,b2,ad,xs,o,Q,W,U,bz,bd,_,s1,al,bg,bt,bh,b0,bi,_,_⟩ hm;have fl:=s1.a;simp[o,Q,ba,ax,fl];refine V6 s1.len.2.2.1 ?_;rw[bd];simp[o];obtain⟨yo,df,dh,-⟩:=s1.wT;rw[bd] at dh;refine Z6.for (xs:=S.cons) (s0:=Y) (λk S2 e t=>e.get 116=.one oc/\e.get 117=.i (S.cons.length:Int)/\e.get 118=.i (k:Int)/\Sl h l (.mrow J 0 S.q.length cap) b4 oc ta fa b2 oa S (Zh step x6 A F G) [C.d (D.str T.y),.mrow l2 0 T.j.length M,c2] B J S2 e t) hm
  ⟨I,I,I,oc,oa,[],yo,by simp[o],by simp[Q],by simp[W],by simp[U],bz,by simp[bd],s1,λk f=>.inl f,bg,bt,bh,b0,bi,df,dh▸Us.init df (λk f=>s1.lt k (by simp[s.qI.2.2 k f]))⟩ ?_ ?_
 rintro k S2 e t ⟨a8,aj,am,d4,c6,ad,xs,o,Q,W,U,a7,cn,s2,ap,bm,az,ay,bf,bk,mx,ox⟩ ac hm;have hw:IntKind.i64.wrap ((k:Int)+1)=(k:Int)+1:=Y6 _ (by have:=s5.len.2.2.2;simp at this;omega);obtain⟨l0,aq,B0,x,rfl,eb,ck,hx,cb⟩:=ox k ac;have b9:S2.cons[k]?=some S.cons[k]:=by rw[cn,Yu ac,Y1 ac]
 obtain⟨N,cf,Bf,rfl,ag,el,-⟩:=s2.con b9;obtain rfl:x=S.cons[k].z.map C.d:=by have⟨fd,e9,Bf',e2,hb2,a7⟩:=mx.at hx;simp at e2;obtain⟨rfl,-,-⟩:=e2;have e3:=el.a;rw[hb2] at e3;cases e3;have e4:=el.rd0 7 X;rw[a7] at e4;simpa using e4
 simp only[Cons.z,Yb,Yf] at cb;have em:=Zv (l:=(h.p,80)) (n:=t.p) (by simp<;>omega);have c7:=Zv (l:=(h.p+1,112)) (n:=t.p) (sU bk);simp only[M4] at hm;simp[o,U,a8,aj,am,ac,ck,cb,ay,c7];cases hbt:Z9 S.cons[k].u T.y with|false=>?_|true=>?_;simp only[hbt,cond_false] at hm;have P:Z0 t ((t.xV (t.p,288) [C.d (D.str empty),C.d (D.int i64 0),C.d (D.str empty),C.d (D.int i64 0),C.d (D.int i64 0),C.d (D.int i64 0),C.d (D.str empty)]).w.xV (t.p,288) (S.cons[k].z.map C.d)) []:=((Z0.refl.xV (.inr (Y7 _))).w).xV (.inr (Y7 _));have sz:=s2.frame P;have oz:=ox.frame P;have mz:=mx.frame (h':=(t.xV (t.p,288) [C.d (D.str empty),C.d (D.int i64 0),C.d (D.str empty),C.d (D.int i64 0),C.d (D.int i64 0),C.d (D.int i64 0),C.d (D.str empty)]).w.xV (t.p,288) (S.cons[k].z.map C.d)) λk f=>P.2 k (s2.lt k (by simp[s2.qI.2.2 k f])) I;have bn:=(P.2 (h.p,80) (by simp<;>omega) I).trans az;have b1:=(P.2 (h.p+1,112) (sU bk) I).trans ay;have bv:=(P.2 J (s2.lt J (by simp[tv.tm])) I).trans bf;have dv:=P.1;simp only[Cons.z,Yb,Yf] at P sz oz mz bn b1 bv dv;simp[o,am,hw];exact Zj.of S2 ⟨⟨by simp[a8],by simp[aj],I,_,c6,ad,xs,by simp[o],by simp[Q],by simp[W],by simp[U],a7,cn,sz,ap,bm.trans (P.mn),bn,b1,bv,X,mz,oz⟩,hm⟩;simp only[hbt,cond_true] at hm;have⟨hlim,hm⟩:=hm.chk;simp(maxDischargeDepth:=12) [o,W,em,az,b5];have P:Z0 t (((t.xV (t.p,288) [C.d (D.str empty),C.d (D.int i64 0),C.d (D.str empty),C.d (D.int i64 0),C.d (D.int i64 0),C.d (D.int i64 0),C.d (D.str empty)]).w.xV (t.p,288) [C.d (D.str S.cons[k].u),C.d (D.int i64 S.cons[k].left),C.d (D.str S.cons[k].op),C.d (D.int i64 S.cons[k].right),C.d (D.int i64 S.cons[k].value.g),C.d (D.int i64 S.cons[k].value.int),C.d (D.str S.cons[k].value.text)]).xV (t.p,288) [C.d (D.str step.o),C.d (D.int i64 S.cons[k].left),C.d (D.str S.cons[k].op),C.d (D.int i64 S.cons[k].right),C.d (D.int i64 S.cons[k].value.g),C.d (D.int i64 S.cons[k].value.int),C.d (D.str S.cons[k].value.text)]) []:=(((Z0.refl.xV (.inr (Y7 _))).w).xV (.inr (Y7 _))).xV (.inr (Y7 _))
 generalize hX3:(((t.xV (t.p,288) [C.d (D.str empty),C.d (D.int i64 0),C.d (D.str empty),C.d (D.int i64 0),C.d (D.int i64 0),C.d (D.int i64 0),C.d (D.str empty)]).w.xV (t.p,288) [C.d (D.str S.cons[k].u),C.d (D.int i64 S.cons[k].left),C.d (D.str S.cons[k].op),C.d (D.int i64 S.cons[k].right),C.d (D.int i64 S.cons[k].value.g),C.d (D.int i64 S.cons[k].value.int),C.d (D.str S.cons[k].value.text)]).xV (t.p,288) [C.d (D.str step.o),C.d (D.int i64 S.cons[k].left),C.d (D.str S.cons[k].op),C.d (D.int i64 S.cons[k].right),C.d (D.int i64 S.cons[k].value.g),C.d (D.int i64 S.cons[k].value.int),C.d (D.str S.cons[k].value.text)])=HZ at P|-;have d3:HZ.a (t.p,288)=some [C.d (D.str step.o),C.d (D.int i64 S.cons[k].left),C.d (D.str S.cons[k].op),C.d (D.int i64 S.cons[k].right),C.d (D.int i64 S.cons[k].value.g),C.d (D.int i64 S.cons[k].value.int),C.d (D.str S.cons[k].value.text)]:=by rw[<-hX3];simp
 have sz:=s2.frame P;have cg:=sz.a;refine Z6.cu aQ (λe h3=>e.get 116=.one (.mrow l0 0 S.cons.length aq)/\e.get 117=.i (S.cons.length:Int)/\e.get 118=.i (k:Int)/\Sl h l (.mrow J 0 S.q.length cap) b4 (.mrow l0 0 S.cons.length aq) ta fa b2 oa S (Zh step x6 A F G) [C.d (D.str T.y),.mrow l2 0 T.j.length M,c2] B J {S2 with cons:=S2.cons++[{S.cons[k] with u:=step.o}]} e h3) ?_ ?_;simp[o,Q,cg,d3];have L:Z0 HZ ((HZ.qC (HZ.p,16*136) (some (1,7))).w) []:=Z0.refl.qC.w;simp only[Nat.reduceMul] at L;have af:=P.trans L;have s3:=s2.frame af;have⟨ys,my,ew,add⟩:=s3.wT;have m3:=mx.frame λk f=>af.2 k (s2.lt k (by simp[s2.qI.2.2 k f])) I;obtain rfl:=my.uniq m3;have ar:ys.length+1<=Zz:=by rw[ew];exact hlim
 refine J2 (by simp;exact⟨rfl,rfl⟩) I I I my (Zr.qU I) (sU ar) (λO h' ak hd=>?_);have ah:Z0 _ h' (Z (.mrow N 0 S2.cons.length cf)):=hd.elim (λh=>h.1) λh=>h.1.mn;have bc:∀k∈Z O,k∈Z (.mrow N 0 S2.cons.length cf)\/(t.p<=k.1/\k.1<h'.p):=λk f=>hd.elim (λh=>.inl (h.2▸f)) λh=>.inr ⟨YE af.1 (h.2 k f).1,(h.2 k f).2⟩;have ef:∀k∈Z O,k∈Z (.mrow N 0 S2.cons.length cf)\/(_<=k.1/\k.1<h'.p):=λk f=>hd.elim (λh=>.inl (h.2▸f)) λh=>.inr (h.2 k f);have ae:∀k∈Z (.mrow N 0 S2.cons.length cf),k=N:=λk f=>by simpa[Z] using f
 have dd:=af.1;have cz:=ah.1;have bu:=s3.keep ah λk f=>.inr (.inr (s3.qI.2.2 k f));have⟨ff,s6,dl⟩:=add h' O {S.cons[k] with u:=step.o} (sU ak) ah ef;have ab:∀k:Z2,k.1<t.p->k≠N->k≠l->(h'.xV l [.mrow J 0 S.q.length cap,b4,O]).a k=t.a k:=λk g ao bq=>by
  simp only[Kw,bq,if_false];rw[ah.2 k X λcy=>ao (ae k cy),af.2 k g I]
 have b3:∀k∈Z O,k≠l:=λk f he=>by
  rcases bc k f with g|g
  have:=ae k g;subst this;subst he;exact s2.nl.2.2 ag
  have:=s2.lt l I;rw[<-he] at this;omega
 have au:((h.p,80):Z2)≠N/\((h.p,80):Z2)≠l:=⟨λhe=>by
  rcases ap N ag with g|g
  have:=s.lt N (by simp[g]);rw[<-he] at this;simp at this
  rw[<-he] at g;have dp:h.p+1<h.p:=g;omega,λhe=>by have:=s.lt l I;rw[<-he] at this;simp at this⟩
 have aw:((h.p+1,112):Z2)≠N/\((h.p+1,112):Z2)≠l:=⟨λhe=>by
  rcases ap N ag with g|g
  have:=s.lt N (by simp[g]);rw[<-he] at this;simp at this;omega
  rw[<-he] at g;simp at g,λhe=>by have:=s.lt l I;rw[<-he] at this;simp at this;omega⟩
 simp[o,Q,bu];refine Ze.of ⟨by simp[a8],by simp[aj],by simp[am],O,ff,_,_,by simp[o],by simp[Q],by simp[W],by simp[U],a7,by simp[cn];rfl,s6,λk f=>?_,?_,?_,?_,?_,by simp<;>omega,ak.frame λk f=>by simp[b3 k f],(((ox.frame af).step my ak hd).set λk f he=>?_)⟩;rcases dl k f with g|g;exact ap k g;exact .inr X;refine Z0.xV ((bm.trans (af.mn)).trans' ah λk f=>?_) (.inl I)
 have:=ae k f
 subst this;exact(ap k ag).imp (λg=>by simp[g]) λg=>X;rw[ab _ (by simp<;>omega) au.1 au.2];exact az;rw[ab _ (sU bk) aw.1 aw.2];exact ay;refine(ab J (s2.lt J (by simp[tv.tm])) (λhe=>?_) λhe=>s.nl.1 (he▸tv.tm)).trans bf;have R:=s2.nd;simp only[XF,Yk,Y3] at R;exact R.2.2.2 J tv.tm N (.inr ag) he;simp[Z] at f;subst f;subst he;exact s.nl.2.2 (s.qI.2.2 _ (by simp[Z]));rintro e h3 ⟨a8,aj,am,hp⟩;have o:=hp;obtain⟨_,_,_,_,o,Q,W,U,-⟩:=o;simp[o,am,hw];obtain⟨ci,ce,cw,cm,-,-,-,-,q⟩:=hp;exact Zj.of _ ⟨⟨by simp[a8],by simp[aj],I,ci,ce,cw,cm,by simp[o],by simp[Q],by simp[W],by simp[U],q⟩,hm⟩;rintro S2 e t ⟨_,aj,am,d4,c6,ad,xs,o,Q,W,U,a7,_,s2,ap,bm,az,ay,bf,bk,_,_⟩ hm;have⟨S3,hm3,hm⟩:=hm.bind;obtain⟨rfl,rfl⟩:=ZU hm;simp[o,U,aj,am,ay];have eg:S2.q[i]?=some T:=by rw[a7];exact hi
 have ey:∀h',Z0 t h' []->ZI h' [C.d (D.str T.y),.mrow l2 0 T.j.length M,c2] T.z:=by
  have⟨a1,a2,cq⟩:=s2.jC bf eg;obtain⟨rfl,rfl⟩:a1=.mrow l2 0 T.j.length M/\a2=c2:=by
   have:=cq.el.rd0 3 X
   rw[r0] at this;simp at this;exact⟨this.1.symm,this.2.symm⟩
  exact λh' hs=>⟨.data rfl,cq.f1 h' hs,cq.f2 h' hs,trivial⟩
 refine Zc (K4 _ _ T ey ⟨tv.n1.2,tv.n2.2⟩ _ ?_);intro cs' R ls' ch dz bj b8 _;obtain⟨y1,y2,rfl⟩:∃y1 y2,cs'=[C.d (D.str T.y),y1,y2]:=by
  have h9:=ch.len.1
  match cs',h9,ch with
  |[a,b,c],_,hO=>obtain rfl:=hO.frz.1.flat rfl;exact⟨b,c,rfl⟩
 have s6:=s2.frame b8;have fp:=b8.1;have da:R.a (h.p,80)=some (Zh step x6 A F G):=by rw[b8.2 _ (by simp<;>omega) I];exact az
 have et:=Zv (l:=(h.p,80)) (n:=R.p) (by simp<;>omega);simp(maxDischargeDepth:=12) [o,Q,W,da,et,b5];have P:Z0 R (((R.xV (R.p,304) [C.d (D.str empty),C.nil,C.nil]).w.xV (R.p,304) [C.d (D.str T.y),y1,y2]).xV (R.p,304) [C.d (D.str step.o),y1,y2]) []:=((Z0.refl.xV (.inr (Y7 _))).w.xV (.inr (Y7 _))).xV (.inr (Y7 _));have ek:=ch.frame (h':=(((R.xV (R.p,304) [C.d (D.str empty),C.nil,C.nil]).w.xV (R.p,304) [C.d (D.str T.y),y1,y2]).xV (R.p,304) [C.d (D.str step.o),y1,y2])) λk f=>P.2 k (bj k f).2 I;have fb:Ow (((R.xV (R.p,304) [C.d (D.str empty),C.nil,C.nil]).w.xV (R.p,304) [C.d (D.str T.y),y1,y2]).xV (R.p,304) [C.d (D.str step.o),y1,y2]) WI [C.d (D.str step.o),y1,y2] ({T with y:=step.o}:E).z ls':=by have⟨_,_,_,_,e1,e2,e3,h8⟩:=ek.jJ;simp only[E.z,List.cons.injEq] at e1 e2;obtain⟨rfl,rfl⟩:=e1;obtain⟨rfl,rfl⟩:=e2;exact .data rfl h8
 have dv:=P.1;refine Zc (HI _ l _ b4 d4 ta b2 c6 ls' S2 S3 _ _ hm3 (s6.frame P) fb ⟨dz,λk f=>⟨by have:=(bj k f).2;omega,λao=>by have:=s2.lt k ao;have:=(bj k f).1;omega⟩⟩ _ (λU fu ta' s7 e5 d6=>?_));simp[o];have hall:Z0 h (((R.xV (R.p,304) [C.d (D.str empty),C.nil,C.nil]).w.xV (R.p,304) [C.d (D.str T.y),y1,y2]).xV (R.p,304) [C.d (D.str step.o),y1,y2]) (l::(ta++(fa++oa))):=bm.trans ((b8.trans P).mn);refine f _ _ s7.ows (hall.trans (e5.mono λk f=>by simp only[Y5,Y3] at f|-;exact f.imp_right .inl)) λk f=>?_;simp only[Y3] at f|-;rcases f with f|f|f;rcases d6 k f with g|g|g;exact .inl (.inl g)
 have:=(bj k g).1;exact .inr X
 exact .inr (YE hall.1 g);exact(al k f).imp (λh=>.inr (.inl h)) λh=>X;exact(ap k f).imp (λh=>.inr (.inr h)) λh=>X

def SY(h:HS)(l:Z2)(w x u:C)(ta J oa:List Z2)(S U:Sch)(c:Fk)(z:aD)(r:Int)(f:Is (D3 S c) (U,r))(ho:Sc h l S w x u ta J oa)(hf:∀h',Z0 h h' []->ZI h' z c.z)(K:V->HS->Prop)(j:∀h' fc' Y,Sc h' l U w fc' u ta Y oa->Z0 h h' (l::J)->(∀k∈Y,k∈J)->K (.i r) h'):
  Z5 prog 130 [.p l,.agg z] h K:=by
 obtain⟨qt,g,qo,rfl,rfl,rfl,s⟩:=ho;have⟨k,F,f⟩:=f.bind;obtain⟨A,B,D,rfl⟩:∃a b d,z=[a,b,d]:=by
  have:=(hf h .refl).get.1
  match z,this with
  |[a,b,d],_=>exact⟨a,b,d,rfl⟩
 refine Z5.ov func130 ?_;simp;have E:Z0 h ((h.xV (h.p,48) [A,B,D]).w) []:=(Z0.refl.xV (.inr (Y7 _))).w;have s1:=s.frame E;have af:=s1.a;simp at af;simp[af];refine Zc (Z5.qD (JK S.b 149 [c.z] (λo=>Zpx o c) (λxa v hv=>N3 xa c v hv) k F) ⟨.one (.frz s1.f.frz),.one (.fn rfl ?_),trivial⟩ rfl ?_);intro i cp ds N hd;cases i with
 |zero=>?_
 |succ i=>simp at N
 simp at N hd;subst N hd;exact⟨_,I,hf _ E⟩;have n:Z0 h (((h.xV (h.p,48) [A,B,D]).w).w) []:=E.w;have e:=s.frame n;simp;have y:=e.a;simp at y;refine Vy (λP=>?_) (λM=>?_);rw[if_pos P] at f;obtain⟨rfl,rfl⟩:=ZU f;simp;exact j _ _ _ ⟨_,_,_,rfl,rfl,rfl,e⟩ (n.mn) (λ_ h=>h);rw[if_neg M] at f;have⟨ap,f⟩:=f.chk;obtain⟨rfl,rfl⟩:=ZU f;obtain⟨i,rfl⟩:∃i:Nat,k=i:=⟨k.toNat,X⟩;have aq:g.length=S.b.length:=by have:=congrArg List.length e.f.ds;simpa using this
 have ag:=e.f.mr.2.1;have hw:IntKind.i64.wrap ((i:Int)+1)=((i+1:Nat):Int):=by exact Y6 _ (by simp at ag;omega)
 simp[y,hw];refine Zc (N6 _ x (g.map (·.1)) i (i+1) e.f.mr X (by simp<;>omega) _ (λc' h2 Q t ak ao m=>?_));have aj:h2.a l=some [w,x,u]:=by rw[t l (λf=>e.ne.2.1 (by simp[Z4,f])),e.a]
 simp[aj];have W:(g.take i++g.drop (i+1)).Sublist g:=J0 X;have G:=Gl (c:=x) (c':=c') W m;have hp:=e.f.sub (h2:=h2.xV l [w,c',u]) (c':=c') (qs':=g.take i++g.drop (i+1)) (λq T=>W.subset T) ?_ e.nds.2.1 ?_;have am:Part (h2.xV l [w,c',u]) VB c' (g.take i++g.drop (i+1)) ((S.b.take i++S.b.drop (i+1)).map Fk.z):=by
  have:=e.f.ds
  rw[YL,XP,Xy,<-this];simpa using hp
 have ah:Z0 ((h.xV (h.p,48) [A,B,D]).w).w (h2.xV l [w,c',u]) (l::Z4 x g):=by
  refine⟨by rw[Iu,ak];exact Y7 _,λk j R=>?_⟩;simp only[Y5,Z4,Y3,not_or] at R;rw[<-t k R.2.1];simp[R.1]
 have s3:=e.wM I am ah (G.nodup e.nds.2.1) (λk j=>.inl (G.subset j));exact j _ _ _ ⟨_,_,_,rfl,rfl,rfl,s3⟩ ((n.mn).trans ah) (λk j=>G.subset j);have O:l∉Z c':=λf=>e.ne.2.1 (by rw[m] at f;simp[Z4,f]);refine MR.frame (h:=h2) (by simpa[VB] using Q) (λk j=>?_)
 have:k≠l:=λL=>O (L▸j)
 simp[this];rintro k F ⟨q,T,al⟩
 have:k≠l:=λL=>e.ne.2.1 (by simp only[Z4,Y3,YH];exact .inr ⟨q,T,L▸al⟩)
 rw[<-t k F];simp[this]
def ZZ(n:Nat):List Int:=(List.range n).map λ(i:Nat)=>(i:Int)
def FN(h:HS)(n:Nat)(w:n<=Zz)(K:V->HS->Prop)
  (m:∀j d,MR d 1 j ((ZZ n).map λc=>(Zg c).map C.d)->Z0 h d []->(∀l∈Z j,h.p<=l.1/\l.1<d.p)->ZG h d->K (.one j) d):
  Z5 prog 157 [.i (n:Int)] h K:=by
 refine Z5.jE func157 rfl kR λz=>?_;refine Z5.ov func157 ?_;have ag:n<=2097152:=w;simp;refine Z6.for (xs:=List.range n) (s0:=()) (k:=λ_=>some ()) (body:=λ_ _ s next=>next s) (r:=()) (λk _ e a=>∃b,En e 15 [(3,.one b),(5,.i (n:Int)),(6,.i (k:Int))]/\MR a 1 b ((ZZ k).map λc=>(Zg c).map C.d)/\Z0 h a []/\(∀l∈Z b,h.p<=l.1/\l.1<a.p)) ?_ ⟨.nil,I,by simpa[ZZ] using MR.nil,.refl,by simp[Z]⟩ ?_ ?_
 .have:∀(xs:List Nat) (i:Nat),Zd (ρ:=Unit) (λ_ (_:Nat) (s:Unit) next=>next s) (λ_=>some ()) xs i ()=some ():=λxs=>by
   induction xs with
   |nil=>intro i;rfl
   |cons x xs ih=>intro i;exact ih (i+1)
  exact this _ _
 rintro k _ e a ⟨b,f,t,g,p⟩ hlt u;simp at hlt;have B:IntKind.i64.wrap ((k:Int)+1)=(k:Int)+1:=Y6 _ X;simp[f,hlt];have q:Z0 a ((a.qC (a.p,16*11) (some (1,1))).w) []:=Z0.refl.qC.w;simp only[Nat.reduceMul] at q;refine Wl (by simp;exact⟨rfl,rfl⟩) I I I (t.frame λk m=>q.2 k (p k m).2 I) (Zr.qU I) (by simp[ZZ];omega) (λj d v o y=>?_);have af:=q.1;have ae:=o.1;simp[f,B];refine Zj.of _ ⟨⟨j,by simp[f],?_,(g.trans q).trans' o (λk m=>.inr (p k m).1),λl A=>?_⟩,u⟩;simpa[ZZ,List.range_succ] using v;rcases y l A with h2|h2
 have:=p l h2;omega
 have:=g.1;omega
 rintro _ e a ⟨b,f,t,g,p⟩ u;simp at f t;simp[f];refine m b a (sU t) g p (g.jA z)
def D4(column:Int)(k0:Int)(k1:Stp):aB Int:=
 Z1 (Cj k1.j column) λv1=>Zp (Wm (k0+v1)) (some (k0+v1))
instance JV(column:Int)(k0:Int)(k1:Stp):Con (D4 column k0 k1) prog 154 [.one (.d (.int .i64 column)),.one (.rp [.int .i64 k0]),.one (.rp [.int .i64 k1.g,.str k1.u,.str k1.o,.str k1.d,.str k1.s,.int .i64 k1.type,.sl (k1.j.map Zg),.str k1.op,.int .i64 k1.value.g,.int .i64 k1.value.int,.str k1.value.text,.str k1.v.y,.sl (k1.v.j.map Col.z),.sl (k1.v.pk.map Zg),.str k1.cons.u,.int .i64 k1.cons.left,.str k1.cons.op,.int .i64 k1.cons.right,.int .i64 k1.cons.value.g,.int .i64 k1.cons.value.int,.str k1.cons.value.text,.str k1.fk.u,.sl (k1.fk.j.map Zg),.str k1.fk.ref])] (λr=>.one (.d (.int .i64 r))):=by unfold D4;have p1:PH [1] (Y.qB aU .done):=.intro;exact go 11 func154
def Df(columns:List Int)(set:List Int):aB Int:=
 Zd (λ(i2:Nat) (x2:Int) (s2:Int) next_2=>Z1 (A3 set x2) λv3=>bif v3 then Zp (Wm (s2+1)) (next_2 (s2+1)) else next_2 s2) (λ(s2:Int)=>bif (s2==0) then some 0 else bif (s2==(columns.length:Int)) then some 2 else some 1) columns 0 0
instance Np(columns:List Int)(set:List Int):Con (Df columns set) prog 155 [.one (.d (.sl (columns.map Zg))),.one (.d (.sl (set.map Zg)))] (λr=>.one (.d (.int .i64 r))):=by
 unfold Df;have l1:LH (σ:=Int) 10 [0,1,8,9] [.d 5 (λs=>.int .i64 s)]:=.intro;exact go 27 func155
def FG(s_:Sch)(t:E)(step:Stp):aB Int:=
 Zd (λ(i5:Nat) (x5:Int) (s5:Unit) next_5=>bif decide (x5<0) then some 3 else bif decide ((t.j.length:Int)<=x5) then some 3 else bif decide (0<i5) then Zp (Wm ((i5:Int)-1)) (Za step.j ((i5:Int)-1) λx11=>bif decide (x5<=x11) then some 3 else next_5 ()) else next_5 ()) (λ(s5:Unit)=>bif ((step.j.length:Int)==0) then some 3 else Z1 (Df step.j t.pk) λv15=>bif (v15 !=0) then some 9 else Z1 (Wg s_ step.o) λv17=>bif v17.2 then some 5 else some 0) step.j 0 ()
instance TJ(s_:Sch)(t:E)(step:Stp):Con (FG s_ t step) prog 153 [.agg s_.z,.agg t.z,.agg step.z] (λr=>.one (.d (.int .i64 r))):=by unfold FG;have l1:LH (σ:=Unit) 14 [3,4,5,12,13] []:=.intro;exact go 61 func153
def Hp(c:Cons):aB ((List Int)):=
 bif decide (c.right<0) then some [c.left] else some [c.left,c.right]
instance SW(c:Cons):Con (Hp c) prog 156 [.agg c.z] (λr=>.one (.d (.sl (r.map Zg)))):=by unfold Hp;exact go 14 func156
def PW(n:Int)(step:Stp)(k:Nat){ρ:Type}(j:Nat)(S:Sch)(next:Sch->aB ρ):aB ρ:=
 Za S.b k λf=>Za f.j j λc=>Z1 (D4 c n step) λv=>next {S with b:=S.b.set k ⟨f.u,f.j.set j v,f.ref⟩}
def PV(T:E)(n:Int)(step:Stp)(k:Nat)(S:Sch)(next:Sch->aB (Sch×Int)):aB (Sch×Int):=
 Za S.b k λf=>bif !(Z9 f.u T.y) then next S else
 Z1 (Df f.j step.j) λo=>bif o==1 then some (S,10) else bif o==2 then WZ (PW n step k) next f.j.length 0 {S with b:=S.b.set k ⟨step.o,f.j,f.ref⟩} else next S
def PU(T:E)(n:Int)(step:Stp)(k:Nat)(S:Sch)(next:Sch->aB (Sch×Int)):aB (Sch×Int):=
 Za S.cons k λc=>bif !(Z9 c.u T.y) then next S else
 Z1 (Hp c) λa=>Z1 (Df a step.j) λo=>bif o==1 then some (S,11) else bif o==2 then
  Z1 (D4 c.left n step) λv=>bif decide (0<=c.right) then Z1 (D4 c.right n step) λw=>next {S with cons:=S.cons.set k {c with u:=step.o,left:=v,right:=w}}
   else next {S with cons:=S.cons.set k {c with u:=step.o,left:=v}}
 else next S
def Lt(T:E){ρ:Type}(_:Nat)(a:Int)(b:List Col)(next:List Col->aB ρ):aB ρ:=Za T.j a λc=>next (b++[c])
def KC(T:E)(step:Stp)(i:Nat)(S:Sch)(d:List Col):aB (Sch×Int):=
 Z1 (E5 S i step.j) λc=>Z1 (D7 c ⟨step.o,d,ZZ T.pk.length⟩) λa=>Zp (a.b.length<Zz) (some ({a with b:=a.b++[⟨step.o,ZZ T.pk.length,T.y⟩]},0))
def HJ(S:Sch)(i:Nat)(step:Stp):aB (Sch×Int):=
 Za S.q i λT=>Z1 (FG S T step) λe=>bif e !=0 then some (S,e) else
 WZ (PV T T.pk.length step) (λa=>WZ (PU T T.pk.length step) (λS2=>Zp (T.pk.length+step.j.length<=Zz) (Zd (Lt T) (KC T step i S2) (T.pk++step.j) 0 [])) a.cons.length 0 a) S.b.length 0 S
set_option maxHeartbeats 2000000 in
def TC(h l tc fc oc xs ta M O lx S S')(i:Nat)(step)(r:Int)(hm:Is (HJ S i step) (S',r))(s:Sc h l S tc fc oc ta M O)(hx:Ow h CO xs step.z lx)(hd:∀k∈lx,k.1<h.p/\k∉l::(ta++(M++O)))(K)
  (F:Vc h l (ta++(M++O)) S' (.i r) K):
  Z5 prog 133 [.p l,.i (i:Int),.agg xs] h K:=by
 obtain⟨x6,am,aq,ao,a6,a12,i7,ib,rfl,rfl,o6,_,_,_⟩:=hx.stp;have⟨T,hi,hm⟩:=hm.qQ;have⟨ce,io,hm⟩:=hm.bind;have hlt:=(Y0.1 hi).1;have⟨lt,c1,c2,B,tv⟩:=s.tbl hi;obtain⟨cap,rfl⟩:=tv.hd;have hb:=s.a;have bx:=tv.el.a;have r0:=tv.el.rd0 3 X;simp at r0;have hne:=Zv (s.lt l I);have hu:=Zv (s.lt lt (by simp[tv.tm]));have g8:∀h',Z0 h h' []->ZI h' [C.d (D.str T.y),c1,c2] T.z:=λh' hs=>⟨.data rfl,tv.f1 h' hs,tv.f2 h' hs,trivial⟩;have ee:∀h',Z0 h h' (l::(ta++(M++O)))->Ow h' CO (Zh step x6 am aq ao) step.z (a6++(a12++(i7++ib))):=λh' hs=>hx.frame λk F=>hs.2 k (hd k F).1 (hd k F).2;refine Z5.qM func133 rfl kR rfl rfl I ?_;have i1:Zh step x6 am aq ao≠[]:=by simp[Zh]
 have dc:Z0 h (((h.xV (h.p,80) (Zh step x6 am aq ao)).w.xV (h.p+1,112) [C.d (D.str empty),C.nil,C.nil]).w.xV (h.p+1,112) [C.d (D.str T.y),c1,c2]) []:=(((Z0.refl.xV (.inr (Y7 _))).w.xV (.inr I)).w.xV (.inr I));have e2:Zs 1 ((Zh step x6 am aq ao).drop 2)=some [.s step.o]:=by simp[Zh]
 have e6:Zs 1 ((Zh step x6 am aq ao).drop 6)=some [x6]:=by simp[Zh]
 have g0:Zs 24 (Zh step x6 am aq ao)=some (Zh step x6 am aq ao):=by simp[Zh]
 simp[hb,hlt,bx,r0,hne,hu,i1];generalize hX:(((h.xV (h.p,80) (Zh step x6 am aq ao)).w.xV (h.p+1,112) _).w.xV (h.p+1,112) _)=HX at*;have fj:HX.a (h.p,80)=some (Zh step x6 am aq ao):=by rw[<-hX];simp
 have fi:HX.a (h.p+1,112)=some [C.d (D.str T.y),c1,c2]:=by rw[<-hX];simp
 have fq:h.p+1<HX.p:=by rw[<-hX];simp
 have s0:=s.frame dc;have gt:=s0.a;refine Z6.cu aU (λe h'=>En e 206 [(0,.p l),(1,.i i),(5,.p (h.p,80)),(7,.p (h.p+1,112)),(8,.i ce)]/\Z0 HX h' []) ?_ ?_;simp[gt,fj,fi,g0];refine Zc (Z5.qD (TJ S T step ce io) ⟨.agg s0.frz,.agg (g8 _ dc),.agg (ee _ (dc.mn)).frz,trivial⟩ rfl ?_);simp;exact⟨λ_ _ x=>x,Ze.of (by simp[Z0.refl.w])⟩;rintro e h1 ⟨t,df⟩;have dr:=dc.trans df;have s1:=s.frame dr;have i6:=s1.a;have e9:h1.a (h.p,80)=some (Zh step x6 am aq ao):=by rw[df.2 _ (by simp<;>omega) I];exact fj
 have dp:h1.a (h.p+1,112)=some [C.d (D.str T.y),c1,c2]:=by rw[df.2 _ (sU fq) I];exact fi
 simp[t];cases hce0:ce !=0 with|true=>?_|false=>?_;simp only[hce0,cond_true] at hm;obtain⟨rfl,rfl⟩:=ZU hm;simp[t];exact F _ _ s1.ows (dr.mn) (λk F=>.inl F);simp only[hce0,cond_false] at hm;simp[t,dp];refine V6 tv.n2.1 ?_;have f5:=Zv (s1.lt l I);simp(maxDischargeDepth:=12) [t,f5,i6];refine V6 s1.len.2.1.1 ?_;simp[t];have hz:Z0 h1 ((h1.xV (h1.p,144) [C.i 0]).w.xV (h1.p,144) [C.i T.pk.length]) []:=((Z0.refl.xV (.inr (Y7 _))).w).xV (.inr (Y7 _));generalize hX2:(h1.xV (h1.p,144) [C.i 0]).w.xV (h1.p,144) [C.i T.pk.length]=HB at hz|-;have gx:HB.a (h1.p,144)=some [C.i T.pk.length]:=by rw[<-hX2];simp
 have bw:h1.p<HB.p:=by rw[<-hX2];simp
 have d9:=dr.trans hz;have sB:=s.frame d9;have fw:=Y4 fq df.1;have ih:HB.a lt=some B:=by rw[d9.2 _ (s.lt lt (by simp[tv.tm])) I];exact bx
 have fresh:∀k:Z2,h.p<=k.1->k∉l::(ta++(M++O)):=λk F y=>by have:=s.lt k y;omega
 have ba:=λk F y=>fresh k F (Yc _ (Xj _ y));have en:∀h',Z0 HB h' (M++O)->h'.a (h.p,80)=some (Zh step x6 am aq ao)/\h'.a (h.p+1,112)=some [C.d (D.str T.y),c1,c2]/\h'.a (h1.p,144)=some [C.i T.pk.length]/\h'.a lt=some B:=λh' ab=>by
  refine⟨?_,?_,?_,?_⟩;rw[ab.2 _ (by simp<;>omega) (ba _ I),hz.2 _ (by simp<;>omega) I];exact e9;rw[ab.2 _ (by simp<;>omega) (ba _ I),hz.2 _ (sU fw) I];exact dp;rw[ab.2 _ (sU bw) (ba _ (by simp<;>omega))];exact gx;refine(ab.2 lt (sB.lt lt (by simp[tv.tm])) λy=>?_).trans ih;have h6:=s.nd;simp only[XF,Yk] at h6;exact h6.2.2.2 lt tv.tm lt y rfl
 have all:∀h',Z0 HB h' (M++O)->Z0 h h' (l::(ta++(M++O))):=λh' ab=>(d9.mn).trans (ab.mono λk F=>Yc _ (Xj _ F));have ef:=λh' ab=>(ee h' (all h' ab)).frz;have d8:=λh' ab=>(ef h' ab).2.2.2.2.2.2.1;have b8:∀h',Z0 HB h' (M++O)->Uy h' ([Cap.lab (h1.p,144),Cap.lab (h.p,80)].map Vf) (Wu [[.int .i64 T.pk.length],step.z]):=λh' ab=>⟨.one (.ptr (en h' ab).2.2.1 (ZI.qK (ds:=[.int .i64 T.pk.length]))),.one (.ptr (en h' ab).1 (ef h' ab)),trivial⟩;refine Z6.count (N:=(S.b.length:Int)) (λk U A y=>Ek e A [(9,.p (h1.p,144)),(10,.one (.fn 154 [.lab (h1.p,144),.lab (h.p,80)])),(43,.one fc),(44,.i S.b.length),(45,.i k)] [0,1,5,7]/\U.b.length=S.b.length/\U.q=S.q/\Sc y l U (.mrow lt 0 S.q.length cap) fc oc ta M O/\Z0 HB y (M++O)) (sU hm) ⟨by simp[t],rfl,rfl,sB,.refl⟩ ?_ ?_;rintro k U e y ⟨hF,d0,cm,s2,hs2⟩ hlt2 hm;have t:=hF.an t;replace hm:=Is.qQ hm;have⟨f,hf,hm⟩:=hm;have ah:k<S.b.length:=X
 have aa:k<U.b.length:=X;have d1:=s2.len.2.1.2;simp only[UR] at d1;have hw:IntKind.i64.wrap ((k:Int)+1)=(k:Int)+1:=Y6 _ X;obtain⟨lf,cf,Bf,rfl,b1,gw⟩:=s2.fkH hf;obtain⟨dw,_,c1f,el,hcf,f8,_,-⟩:=s2.fkK b1 hf;have q0:=el.rd0 3 X;have q1:=el.rd 1 1 X;simp at q0 q1;have⟨b5,b7,_,_⟩:=en y hs2;have gk:=Zv (s2.lt lf (by simp[dw]));have je:=Y4 bw hs2.1;have fb:=Zv (l:=(h.p,80)) (n:=y.p) (by simp<;>omega);have cy:=Zv (l:=(h.p+1,112)) (by simp<;>omega);have al:Z0 y ((y.xV (y.p,192) [C.d (D.str empty),C.nil,C.d (D.str empty)]).w.xV (y.p,192) [.s f.u,c1f,.s f.ref]) []:=((Z0.refl.xV (.inr (Y7 _))).w).xV (.inr (Y7 _));cases bb:Z9 f.u T.y with|false=>?_|true=>?_;simp only[bb,XO,cond_true] at hm;simp[t,ah,aa,b1,q0,b7,cy,bb,hw];exact Zj.of U ⟨⟨by simp[t],d0,cm,s2.frame al,hs2.trans (al.mn)⟩,hm⟩;simp only[bb,Xx,cond_false] at hm;have⟨o,ho,hm⟩:=hm.bind;simp(maxDischargeDepth:=12) [t,ah,aa,b1,q0,b7,b5,fb,cy,bb,e6];have bi:=hs2.trans (al.mn);generalize hX4:(y.xV (y.p,192) [C.d (D.str empty),C.nil,C.d (D.str empty)]).w.xV (y.p,192) [.s f.u,c1f,.s f.ref]=HZ at al bi|-;have fx:HZ.a (y.p,192)=some [.s f.u,c1f,.s f.ref]:=by rw[<-hX4];simp
 have fh:HZ.a lf=some Bf:=by rw[al.2 lf (s2.lt lf (by simp[dw])) I];exact b1
 refine Zc (Z5.qD (Np f.j step.j o ho) ⟨.one (.frz (hcf _ al)),.one (.frz (d8 _ bi)),trivial⟩ rfl ?_);have dh:=bi.w;have ej:=al.w;have R:=s2.frame ej;have b3:=R.a;cases bn:o==1 with|true=>?_|false=>?_;simp only[bn,cond_true] at hm;obtain⟨rfl,rfl⟩:=ZU hm;simp[t,bn];exact F _ _ R.ows (all _ dh) (λk F=>.inl F);simp only[bn,cond_false] at hm;cases bc:o==2 with|false=>?_|true=>?_;simp only[bc,cond_false] at hm;simp[t,bn,bc,hw];exact Zj.of U ⟨⟨by simp[t],d0,cm,R,dh⟩,hm⟩;simp only[bc,cond_true] at hm;simp[t,bn,bc];have⟨ft,_,_,_⟩:=en _ dh;simp at ft b3;obtain⟨-,-,c6,hh,-,-,w3,-⟩:=R.fkK (sU fh) hf;obtain rfl:c6=c1f:=by
  have:=hh.rd 1 1 X
  simp[q1] at this;exact this.symm
 refine Z6.cu aJ (λA J=>Ek e A [(43,.one (.mrow lf 0 U.b.length cf)),(11,.i k),(12,.p (y.p,192))] [0,1,5,7,9,10,44,45]/\J.a (y.p,192)=some [.s f.u,c6,.s f.ref]/\
  Sc J l {U with b:=U.b.set k ⟨step.o,f.j,f.ref⟩} (.mrow lt 0 S.q.length cap) (.mrow lf 0 U.b.length cf) oc ta M O/\J.a lf=some (Zi Bf (k*3) [.s step.o])/\Z0 HB J (M++O)) ?_ ?_
 simp[t,aa,b3,ft,fh,e2];refine⟨X,Ze.of ⟨by simp[t],?_,w3 step.o,I,dh.xV (.inl (by simp[dw]))⟩⟩
 have:¬(y.p,192)=lf:=λhe=>by have:=gk y.p 192 (Y7 _);rw[<-he] at this;simp at this
 simp[this,fx];rintro e J ⟨hF,iz,s4,fg,b0⟩;have t:=hF.an t;have i8:=(s2.fkK b1 hf).2.2.choose_spec.1.set (g:=0) (vs:=[.s step.o]) I I;have r4:Zs 1 ((Zi Bf (k*3) [.s step.o]).drop (k*3+1))=some [c6]:=by have e1:=(s2.fkK b1 hf).2.2.choose_spec.1.rd 1 1 X;simp[q1] at e1;have e2:=i8.rd 1 1 X;simp at e2;rw[e2,e1]
 simp[t,iz];refine V6 f8.1 ?_;simp[t];refine Z6.count (N:=(f.j.length:Int)) (s0:=({U with b:=U.b.set k ⟨step.o,f.j,f.ref⟩}:Sch)) (λj S2 A G=>Ek e A [(74,.one c6),(75,.i (f.j.length:Int)),(76,.i (j:Int))] [0,1,5,7,9,10,43,44,45,11]/\
  S2.b.length=S.b.length/\S2.q=S.q/\(∃f2,S2.b[k]?=some f2/\f2.j.length=f.j.length)/\G.a lf=some (Zi Bf (k*3) [.s step.o])/\Sc G l S2 (.mrow lt 0 S.q.length cap) (.mrow lf 0 U.b.length cf) oc ta M O/\Z0 HB G (M++O)) (sU hm) ⟨by simp[t],sU d0,cm,⟨⟨step.o,f.j,f.ref⟩,by simp[aa],rfl⟩,fg,s4,b0⟩ ?_ ?_
 rintro j S2 e G ⟨hF,hl2,ay,⟨f2,d4,dm⟩,di,R,Q⟩ hltj hm;have t:=hF.an t;have⟨f3,ex,hm⟩:=hm.qQ;rw[d4] at ex;cases ex;have⟨v,hv,hm⟩:=hm.qQ;have⟨v',ij,hm⟩:=hm.bind;have dt:j<f.j.length:=X
 have cw:j<f2.j.length:=X;have e4:=f8.2;simp only[UR] at e4;have hwj:IntKind.i64.wrap ((j:Int)+1)=(j:Int)+1:=Y6 _ X;obtain⟨l2,cap2,B2,rfl,e8,f4,_,ea,r5,jb,_⟩:=R.fkN di d4 hv r4;have b3:=R.a;simp[t,dt,cw,ea,r5];refine Z6.cu aL (λA h5=>Ek e A [(74,.one (.mrow l2 0 f2.j.length cap2))] [0,1,5,7,9,10,43,44,45,11,75,76]/\
  h5.a lf=some (Zi Bf (k*3) [.s step.o])/\Sc h5 l {S2 with b:=S2.b.set k ⟨f2.u,f2.j.set j v',f2.ref⟩} (.mrow lt 0 S.q.length cap) (.mrow lf 0 U.b.length cf) oc ta M O/\Z0 HB h5 (M++O)) ?_ ?_
 simp[b3,t,aa,di,r4];refine Zc (Z5.qD (JV v T.pk.length step v' ij) ⟨.one (.frz (.data rfl)),b8 G Q⟩ rfl ?_);simp[t,cw,ea];refine⟨λ_ _ x=>x,X,Ze.of ⟨by simp[t],?_,?_,?_⟩⟩;simp[f4.symm,di]
 have:=(R.frame (Z0.refl.w:Z0 G G.w [])).fkN (sU di) d4 hv r4
 have⟨ji,gu,B2',e1,k2,k3,k4,k5,k6,k7,k8⟩:=this;simp at e1;obtain⟨rfl,rfl⟩:=e1;simp only[Ll,ea] at k5;cases k5;exact k8 v';exact(Q.w).xV (.inl (by simp[e8]));rintro e jh ⟨hF,ez,s5,aw⟩;have t:=hF.an t;simp[t,hwj];have c8:k<S2.b.length:=X
 exact Zj.of ({S2 with b:=S2.b.set k ⟨f2.u,f2.j.set j v',f2.ref⟩}:Sch) ⟨⟨by simp[t],sU hl2,ay,⟨⟨f2.u,f2.j.set j v',f2.ref⟩,by simp[c8],sU dm⟩,ez,s5,aw⟩,hm⟩;rintro j S2 e G ⟨hF,hl2,ay,⟨f2,_,dm⟩,_,R,Q⟩ hge hm;have t:=hF.an t;have bq:¬j<f.j.length:=X
 simp[t,bq,hw];exact Zj.of S2 ⟨⟨by simp[t],hl2,ay,R,Q⟩,hm⟩;rintro k U e y ⟨hF,_,cm,s2,hs2⟩ hge hm;have t:=hF.an t;have bq:¬k<S.b.length:=X
 have hb2:=s2.a;simp[t,bq,hb2];refine V6 s2.len.2.2.1 ?_;simp[t];refine Z6.count (N:=(U.cons.length:Int)) (s0:=U) (λk S2 A J=>Ek e A [(99,.one oc),(100,.i (U.cons.length:Int)),(101,.i (k:Int))] [0,1,5,7,9,10]/\S2.cons.length=U.cons.length/\S2.q=S.q/\Sc J l S2 (.mrow lt 0 S.q.length cap) fc oc ta M O/\Z0 HB J (M++O)) (sU hm) ⟨by simp[t],rfl,cm,s2,hs2⟩ ?_ ?_;rintro k S2 e J ⟨hF,dd,ay,R,Q⟩ hlt2 hm;have t:=hF.an t;replace hm:=Is.qQ hm;have⟨c,hc,hm⟩:=hm;have ah:k<U.cons.length:=X
 have aa:k<S2.cons.length:=X;have d1:=R.len.2.2.2;simp only[UR] at d1;have hw:IntKind.i64.wrap ((k:Int)+1)=(k:Int)+1:=Y6 _ X;obtain⟨lo,co,Bo,rfl,c7,gw⟩:=R.wH hc;obtain⟨ca,_,el,-,-,-⟩:=R.jR c7 hc;have q0:=el.rd0 7 X;simp at q0;have⟨b5,b7,_,_⟩:=en J Q;have gj:=Zv (R.lt lo (by simp[ca]));have dk:h1.p<J.p:=Y4 bw Q.1;have fb:=Zv (l:=(h.p,80)) (n:=J.p) (by simp<;>omega);have cy:=Zv (l:=(h.p+1,112)) (n:=J.p) (by simp<;>omega);have al:Z0 J ((J.xV (J.p,256) [C.d (D.str empty),C.i 0,C.d (D.str empty),C.i 0,C.i 0,C.i 0,C.d (D.str empty)]).w.xV (J.p,256) [C.d (D.str c.u),C.i c.left,C.d (D.str c.op),C.i c.right,C.i c.value.g,C.i c.value.int,C.d (D.str c.value.text)]) []:=((Z0.refl.xV (.inr (Y7 _))).w).xV (.inr (Y7 _));cases bb:Z9 c.u T.y with|false=>?_|true=>?_;simp only[bb,XO,cond_true] at hm;simp[t,ah,aa,c7,q0,b7,cy,bb,hw];exact Zj.of S2 ⟨⟨by simp[t],dd,ay,R.frame al,Q.trans (al.mn)⟩,hm⟩;simp only[bb,Xx,cond_false] at hm;have⟨cc,b4,hm⟩:=hm.bind;have⟨o,ho,hm⟩:=hm.bind;simp(maxDischargeDepth:=12) [t,ah,aa,c7,q0,b7,cy,bb];have bi:=Q.trans (al.mn);generalize hX4:((J.xV (J.p,256) [C.d (D.str empty),C.i 0,C.d (D.str empty),C.i 0,C.i 0,C.i 0,C.d (D.str empty)]).w.xV (J.p,256) [C.d (D.str c.u),C.i c.left,C.d (D.str c.op),C.i c.right,C.i c.value.g,C.i c.value.int,C.d (D.str c.value.text)])=HZ at al bi|-;have cp:HZ.a (J.p,256)=some [C.d (D.str c.u),C.i c.left,C.d (D.str c.op),C.i c.right,C.i c.value.g,C.i c.value.int,C.d (D.str c.value.text)]:=by rw[<-hX4];simp
 have eb:HZ.a lo=some Bo:=by rw[al.2 lo (R.lt lo (by simp[ca])) I];exact c7
 obtain⟨eh,-⟩:=en HZ bi;have b0:=bi.w.w;have dn:=al.w.w;refine Z6.cu [0,2,3,1,4] (λA G=>Ek e A [(99,.one (.mrow lo 0 S2.cons.length co)),(15,.i (k:Int)),(16,.p (J.p,256)),(115,.i o)] [0,1,5,7,9,10,100,101]/\G=HZ.w.w) ?_ ?_;simp[t,cp,eh,e6];refine Zx (SW c cc b4) I ?_;simp[t];refine⟨λ_ _ x=>x,?_⟩;refine Zc (Z5.qD (Np cc step.j o ho) ⟨.one (.frz (.data rfl)),.one (.frz (d8 _ bi.w)),trivial⟩ rfl ?_);simp;exact⟨λ_ _ x=>x,Ze.of ⟨by simp[t],rfl⟩⟩;rintro e G ⟨hF,rfl⟩;have t:=hF.an t;have s4:=R.frame dn;have f6:=s4.a;simp at f6;simp[t];cases bn:o==1 with|true=>?_|false=>?_;simp only[bn,cond_true] at hm;obtain⟨rfl,rfl⟩:=ZU hm;simp[t];exact F _ _ s4.ows (all _ b0) (λk F=>.inl F);simp only[bn,cond_false] at hm;cases bc:o==2 with|false=>?_|true=>?_;simp only[bc,cond_false] at hm;simp[t,bc,hw];exact Zj.of S2 ⟨⟨by simp[t],dd,ay,s4,b0⟩,hm⟩;simp only[bc,cond_true] at hm;have⟨v,hv,hm⟩:=hm.bind;simp[t,bc];obtain⟨-,-,-,w0,-,-⟩:=s4.jR (sU eb) hc;have ik:({S2 with cons:=S2.cons.set k {c with u:=step.o}}:Sch).cons[k]?=some {c with u:=step.o}:=by simp[aa]
 refine Z6.cu [0,1,2,3,4,5,6,7,8,9,10,11,12,13,14,15,16,17,18,19,20,21] (λA G=>Ek e A [] [0,1,5,7,9,10,99,100,101,15,16]/\G.a (J.p,256)=some [C.d (D.str c.u),C.i c.left,C.d (D.str c.op),C.i c.right,C.i c.value.g,C.i c.value.int,C.d (D.str c.value.text)]/\
  (∃B4,G.a lo=some B4/\B4.length=Bo.length)/\Sc G l {S2 with cons:=S2.cons.set k {c with u:=step.o,left:=v}} (.mrow lt 0 S.q.length cap) fc (.mrow lo 0 S2.cons.length co) ta M O/\Z0 HB G (M++O)) ?_ ?_
 simp[t,f6,eh,cp,e2];refine Zc (Z5.qD (JV c.left T.pk.length step v hv) ⟨.one (.frz (.data rfl)),b8 _ b0⟩ rfl ?_);have sc:=R.frame dn.w;obtain⟨-,-,-,hy,-,-⟩:=sc.jR (sU eb) hc;obtain⟨-,-,-,-,gi,-⟩:=(hy step.o).jR (B:=Zi Bo (k*7) [.s step.o]) I ik;have dl:(Zi Bo (k*7) [C.d (D.str step.o)]).length=Bo.length:=A6 (by simp<;>omega);have eo:(Zi (Zi Bo (k*7) [C.d (D.str step.o)]) (k*7+1) [C.i v]).length=Bo.length:=by rw[A6 (by simp<;>omega),dl]
 have ey:¬(J.p,256)=lo:=λhe=>by have:=gj J.p 256 (Y7 _);rw[<-he] at this;simp at this
 simp[t,aa,eb,dl];refine⟨λ_ _ x=>x,X,X,Ze.of ⟨by simp[t],?_,⟨_,I,eo⟩,?_,((b0.w).xV (.inl (by simp[ca]))).xV (.inl (by simp[ca]))⟩⟩;simp[ey,cp];simpa using gi v;rintro e G ⟨hF,d6,⟨B4,e3,jc⟩,s6,dy⟩;have t:=hF.an t;have gv:({S2 with cons:=S2.cons.set k {c with u:=step.o,left:=v}}:Sch).cons[k]?=some {c with u:=step.o,left:=v}:=by simp[aa]
 cases hr:decide (0<=c.right) with|false=>?_|true=>?_;simp only[hr,cond_false] at hm;simp at hr;have ge:¬0<=c.right:=X
 simp[t,d6,ge,hw];exact Zj.of ({S2 with cons:=S2.cons.set k {c with u:=step.o,left:=v}}:Sch) ⟨⟨by simp[t],sU dd,ay,s6,dy⟩,hm⟩;simp only[hr,cond_true] at hm;simp at hr;have⟨w,g9,hm⟩:=hm.bind;have h7:=s6.a;simp[t,d6,hr];refine Z6.cu aV (λA G=>Ek e A [] [0,1,5,7,9,10,99,100,101]/\
  Sc G l {S2 with cons:=S2.cons.set k {c with u:=step.o,left:=v,right:=w}} (.mrow lt 0 S.q.length cap) fc (.mrow lo 0 S2.cons.length co) ta M O/\Z0 HB G (M++O)) ?_ ?_
 simp[t,h7,d6];refine Zc (Z5.qD (JV c.right T.pk.length step w g9) ⟨.one (.frz (.data rfl)),b8 _ dy⟩ rfl ?_);simp[t,aa,e3];refine⟨λ_ _ x=>x,X,Ze.of ⟨by simp[t],?_,dy.w.xV (.inl (by simp[ca]))⟩⟩
 have:=((s6.frame (Z0.refl.w:Z0 G G.w [])).jR (sU e3) gv).2.2.2.2.2 w
 simpa using this;rintro e G ⟨hF,s7,gb⟩;have t:=hF.an t;simp[t,hw];exact Zj.of ({S2 with cons:=S2.cons.set k {c with u:=step.o,left:=v,right:=w}}:Sch) ⟨⟨by simp[t],sU dd,ay,s7,gb⟩,hm⟩;rintro k S2 e J ⟨hF,_,ay,R,Q⟩ hge hm;have t:=hF.an t;have bq:¬k<U.cons.length:=X
 have⟨hlim,hm⟩:=hm.chk;have⟨b5,b7,b9,_⟩:=en J Q;have dk:h1.p<J.p:=Y4 bw Q.1;simp[t,bq];have bg:T.pk.length<=Zz:=tv.n2.2;have n5:=Zv (l:=(h.p,80)) (n:=J.p) (by simp<;>omega);have n9:=Zv (l:=(h1.p,144)) (n:=J.p) (sU dk);refine Z6.cut (Y.qB [0,1,2] (.two 3 5 (Y.qB [] (.two 4 5 (Y.qB [5,6] .done) (Y.qB [4,6] .done))) (Y.qB [3,4,6] .done))) follows kR (λA G=>Ek e A [] [0,1,5,7,9]/\Z0 J G []/\∃(L:Z2) (W:C),A.get 17=.p L/\G.a L=some [.s step.o,.nil,W]/\(J.p<=L.1/\L.1<G.p)/\MR G 1 W ((ZZ T.pk.length).map λc=>(Zg c).map C.d)/\∀k∈Z W,J.p<=k.1/\k.1<G.p/\k≠L) ?_ ?_
 .simp(maxDischargeDepth:=12) [t,b5,b9,e2];refine⟨?_,?_⟩
  .refine Zc (FN _ T.pk.length bg _ (λW G mp ax ag a8=>?_));simp[t];have bk:=ax.1;have cq:∀k∈Z W,k≠(G.p,272):=λk F he=>by have:=(ag k F).2;rw[he] at this;simp at this
   refine⟨a8,?_⟩
   repeat' (with_reducible apply And.intro)
   all_goals
    refine Ze.of ⟨by simp[t],((ax.xV (.inr (sU bk))).w.xV (.inr (sU bk))),(G.p,272),W,I,I,⟨sU bk,I⟩,mp.frame λk F=>by simp[cq k F],λk F=>⟨(ag k F).1,by have:=(ag k F).2;simp<;>omega,cq k F⟩⟩
  have gl:Z0 J ((J.xV (J.p,272) [C.d (D.str empty),C.nil,C.nil]).w) []:=(Z0.refl.xV (.inr (Y7 _))).w;refine Zc (FN _ T.pk.length bg _ (λW G mp ax ag a8=>?_));have bk:=ax.1;simp at bk;have cq:∀k∈Z W,k≠(J.p,272):=λk F he=>by have:=(ag k F).1;rw[he] at this;exact absurd (show J.p+1<=J.p by simpa using this) X
  have d3:G.a (J.p,272)=some [C.d (D.str empty),C.nil,C.nil]:=a8 _ _ I;simp[t,d3];refine⟨a8,?_⟩;refine Ze.of ⟨by simp[t],((gl.trans ax).xV (.inr (Y7 _))),(J.p,272),W,I,I,⟨I,by simp<;>omega⟩,mp.frame λk F=>by simp[cq k F],λk F=>⟨by have:=(ag k F).1;simp at this;omega,sU ((ag k F).2),cq k F⟩⟩
 rintro e G ⟨hF,ax,L,W,au,d3,az,mp,ag⟩;have t:=hF.an t;have cx:=Q.trans (ax.mn);have⟨gy,g7,_,_⟩:=en G cx;have s4:=R.frame ax;have c8:S2.q[i]?=some T:=by rw[ay];exact hi
 have gh:∀h',Z0 G h' []->TblV h' l S2 (.mrow lt 0 S.q.length cap) fc oc ta M O i T lt c1 c2 B:=λh' ab=>by
  have⟨a1,a2,cj⟩:=(s4.frame ab).jC ((en h' (cx.trans (ab.mn))).2.2.2) c8;obtain⟨rfl,rfl⟩:a1=c1/\a2=c2:=by
   have:=cj.el.rd0 3 X
   rw[r0] at this;simp at this;exact⟨this.1.symm,this.2.symm⟩
  exact cj
 have ek:=o6.wL;simp at ek;simp;refine Z6.cu [0,1,3,4,7,2,5,6] (λA h5=>Ek e A [] [0,1,5,7,9]/\Z0 G h5 []/\A.get 17=.p L/\∃hc:C,A.get 165=.one hc/\A.get 166=.i ((T.pk++step.j).length:Int)/\A.get 167=.i 0/\MR h5 1 hc ((T.pk++step.j).map λc=>(Zg c).map C.d)/\∀k∈Z hc,G.p<=k.1/\k.1<h5.p) ?_ ?_;simp[t,gy,g7,e6];refine Zc (Eo _ c2 (T.pk.map λc=>(Zg c).map C.d) (by rw[Af];exact((gh G .refl).f2 _ .refl).rowAt (n:=1) (by simp[D.flat]) (sU bg)) _ (λhc g5 mh aw dj a8=>?_));simp[t];refine⟨a8,?_⟩;have fu:=(d8 g5 (cx.trans (aw.mn))).rowAt (n:=1) (by simp[D.flat]) (sU ek.2);rw[<-Af] at fu;refine Wl (by simp;exact⟨rfl,rfl⟩) I I I mh fu (sU hlim) (λe0 g6 iw ae fl=>?_);simp[t];have fm:MR g6 1 e0 ((T.pk++step.j).map λc=>(Zg c).map C.d):=sU iw;refine V6 (n:=(T.pk++step.j).length) (by rw[fm.len];simp) ?_;simp;have jd:=aw.1;have ja:=ae.1;refine Ze.of ⟨by simp[t],aw.trans' ae (λk F=>.inr (dj k F).1),by simp[au],e0,I,I,I,fm,λk F=>?_⟩;rcases fl k F with y|y
 have:=dj k y;omega
 omega;rintro e g5 ⟨hF,aw,au,hc,ar,ak,aj,mh,dj⟩;have t:=hF.an t;have cg:=aw.1;have em:g5.a L=some [.s step.o,.nil,W]:=by rw[aw.2 L az.2 I];exact d3
 have gp:MR g5 1 W ((ZZ T.pk.length).map λc=>(Zg c).map C.d):=mp.frame λk F=>aw.2 k (ag k F).2.1 I;refine Z6.for (xs:=T.pk++step.j) (s0:=[]) (λk ck A g=>Ek e A [] [0,1,5,7,9]/\Z0 G g [L]/\A.get 17=.p L/\A.get 165=.one hc/\A.get 166=.i ((T.pk++step.j).length:Int)/\A.get 167=.i (k:Int)/\MR g 1 hc ((T.pk++step.j).map λc=>(Zg c).map C.d)/\MR g 1 W ((ZZ T.pk.length).map λc=>(Zg c).map C.d)/\g5.p<=g.p/\ck.length<=k/\
  ∃ch,g.a L=some [.s step.o,ch,W]/\MR g 3 ch (ck.map λc=>c.z.map C.d)/\∀k∈Z ch,g5.p<=k.1/\k.1<g.p) hm ⟨by simp[t],aw.mn,by simp[au],by simp[ar],by simp[ak],by simp[aj],mh,gp,Y7 _,I,.nil,em,MR.nil,by simp[Z]⟩ ?_ ?_
 rintro k ck e g ⟨hF,b2,au,ar,ak,aj,mh,mp,ci,jg,ch,a7,mc,ap⟩ ah hm;have t:=hF.an t;simp only[Lt] at hm;have⟨c,hc0,b4,hm⟩:=hm.get;have hw:IntKind.i64.wrap ((k:Int)+1)=(k:Int)+1:=Y6 _ (by have:=hlim;simp at ah this;omega);obtain⟨lh,dq,Bh,rfl,bh,rh⟩:=mh.at (k:=k) (x:=[.i (T.pk++step.j)[k]]) (by rw[Y9,Y1 ah];rfl);simp only[Yd] at mh ar;simp at rh;obtain⟨n,gf⟩:∃n:Nat,(T.pk++step.j)[k]=n:=⟨((T.pk++step.j)[k]).toNat,X⟩;rw[gf] at rh b4;simp at b4;have ip:n<T.j.length:=(Y0.1 b4).1;have bj:Z0 J g []:=ax.trans' b2 (λk F=>.inr (by simp at F;rw[F];exact az.1));have bz:=Q.trans (bj.mn);have⟨_,dz,_,gn⟩:=en g bz;have gm:TblV g l S2 (.mrow lt 0 S.q.length cap) fc oc ta M O i T lt c1 c2 B:=by
  have⟨a1,a2,cj⟩:=(R.frame bj).jC gn c8;obtain⟨rfl,rfl⟩:a1=c1/\a2=c2:=by
   have:=cj.el.rd0 3 X
   rw[r0] at this;simp at this;exact⟨this.1.symm,this.2.symm⟩
  exact cj
 obtain⟨l2,cap2,B2,rfl,fo,-⟩:=gm.e1 n c b4;have ie:=fo.a;have q0:=fo.rd0 3 X;simp at q0;have ec:k<T.pk.length+step.j.length:=sU ah;have fz:(k:Int)<(T.pk.length:Int)+(step.j.length:Int):=X
 simp[t,ar,ak,aj,ec,fz,bh,rh];refine Z6.cu aQ (λA g'=>Ek e A [] [0,1,5,7,9]/\Z0 G g' [L]/\A.get 17=.p L/\A.get 165=.one (.mrow lh 0 (T.pk++step.j).length dq)/\A.get 166=.i ((T.pk++step.j).length:Int)/\A.get 167=.i (k:Int)/\MR g' 1 (.mrow lh 0 (T.pk++step.j).length dq) ((T.pk++step.j).map λc=>(Zg c).map C.d)/\MR g' 1 W ((ZZ T.pk.length).map λc=>(Zg c).map C.d)/\g5.p<=g'.p/\
  ∃ch,g'.a L=some [.s step.o,ch,W]/\MR g' 3 ch ((ck++[c]).map λc=>c.z.map C.d)/\∀k∈Z ch,g5.p<=k.1/\k.1<g'.p) ?_ ?_
 simp[t,au,a7,dz,ip,ie,q0];have hz:Z0 g ((g.qC (g.p,16*178) (some (1,3))).w) []:=Z0.refl.qC.w;simp only[Nat.reduceMul] at hz;refine Wl (by simp;exact⟨rfl,rfl⟩) I I I (mc.frame λk F=>hz.2 k (ap k F).2 I) (Zr.qU I) (by simp<;>omega) (λV g' bt ae bp=>?_);have eg:=ae.1;simp at eg;have fv:L.1<g5.p:=Y4 az.2 cg;have ad:∀q:Z2,q.1<g5.p->g'.a q=g.a q:=λq P=>by
  rw[ae.2 q (by simp<;>omega) λy=>by have:=(ap q y).1;omega];exact hz.2 q X I
 have ei:g'.a L=some [.s step.o,ch,W]:=by rw[ad _ fv];exact a7
 have d5:∀q∈Z V,q≠L/\g5.p<=q.1/\q.1<g'.p:=λq P=>by
  rcases bp q P with y|y
  have:=ap q y;exact⟨λhe=>by rw[he] at this;omega,this.1,X⟩
  simp at y;exact⟨λhe=>by rw[he] at y;omega,X,y.2⟩
 simp[t,au,ei];refine Ze.of ⟨by simp[t],((b2.trans (hz.mn)).trans' ae λq P=>.inr (by have:=(ap q P).1;omega)).xV (.inl I),by simp[au],by simp[ar],by simp[ak],by simp[aj],mh.frame λq P=>?_,mp.frame λq P=>?_,by simp<;>omega,V,I,?_,λq P=>⟨(d5 q P).2.1,sU ((d5 q P).2.2)⟩⟩;have y:=dj q P
 have:q≠L:=λhe=>by rw[he] at y;have:=az.2;omega
 simp[this,ad q y.2];have y:=ag q P;simp[y.2.2,ad q X];refine MR.frame (h:=g') (sU bt) λq P=>?_;simp[(d5 q P).1];rintro e g' ⟨hF,b2,au,ar,ak,aj,mh,mp,ci,ch,a7,mc,ap⟩;have t:=hF.an t;simp[t,aj,hw];exact Zj.of (ck++[c]) ⟨⟨by simp[t],b2,by simp[au],by simp[ar],by simp[ak],I,by rwa [Yd],mp,ci,by simp<;>omega,ch,a7,mc,ap⟩,hm⟩;rintro cn e g ⟨hF,b2,au,_,ak,aj,_,mp,ci,_,ch,a7,mc,ap⟩ hm;have t:=hF.an t;simp only[KC] at hm;have⟨S3,hm3,hm⟩:=hm.bind;have⟨S4,hm4,hm⟩:=hm.bind;have⟨ix,hm⟩:=hm.chk;obtain⟨rfl,rfl⟩:=ZU hm;have bj:Z0 J g []:=ax.trans' b2 (λk F=>.inr (by simp at F;rw[F];exact az.1));have bz:=Q.trans (bj.mn);have⟨fy,dz,gd,_⟩:=en g bz;have sg:=R.frame bj;have ff:=all g bz;simp at ak aj;simp[t,ak,aj,fy,e6];refine Zc (JU _ l _ fc oc _ ta M O S2 S3 i step.j hm3 sg (λh' ab=>(ee h' (ff.trans (ab.mono λk F=>Yc _ F))).frz.2.2.2.2.2.2.1) _ (λg2 iq iy cz bv=>?_));have fv:L.1<g5.p:=Y4 az.2 cg;have gq:=cz.1;have ad:∀q:Z2,h.p<=q.1->q.1<g.p->g2.a q=g.a q:=λq dg de=>cz.2 q de λy=>fresh q dg (Yc _ y);have et:g2.a L=some [.s step.o,ch,W]:=by rw[ad L X X];exact a7
 have f0:MR g2 3 ch (cn.map λc=>c.z.map C.d):=mc.frame λq P=>ad q (by have:=(ap q P).1;omega) (ap q P).2;have fd:MR g2 1 W ((ZZ T.pk.length).map λc=>(Zg c).map C.d):=mp.frame λq P=>ad q (by have:=(ag q P).1;omega) (by have:=(ag q P).2.1;omega);have hT:Ow g2 WI [.s step.o,ch,W] (⟨step.o,cn,ZZ T.pk.length⟩:E).z (Z ch++(Z W++[])):=by rw[Af] at f0 fd;exact .data rfl ((Ow.rL (n:=3) f0 rfl I).join ((Ow.rL (n:=1) fd rfl I).join .nil))
 simp[t,au,et];refine Zc (HI _ l _ fc oc iq M O (Z ch++(Z W++[])) S3 S4 _ _ hm4 iy hT ⟨?_,λq P=>?_⟩ _ (λg3 br b6 bu hs3' e7=>?_));rw[Ym,Yk];refine⟨Vx,Vx,λa ha b hb he=>?_⟩
 have:=(ap a ha).1;have:=(ag b hb).2.1;rw[<-he] at this;omega
 have de:J.p<=q.1/\q.1<g.p:=by
  simp only[Ym,Y3] at P;rcases P with P|P
  have:=ap q P;omega
  have:=ag q P;omega
 refine⟨X,λy=>?_⟩;simp only[Y5,Y3] at y;have hf:=fresh q X;simp only[Y5,Y3,not_or] at hf;rcases y with y|y|y|y;exact hf.1 y;rcases bv q y with G|G;exact hf.2.1 G;omega;exact hf.2.2.1 y;exact hf.2.2.2 y;have ii:=hs3'.1;have bd:∀q:Z2,h.p<=q.1->q.1<g.p->g3.a q=g.a q:=λq dg de=>by
  rw[hs3'.2 q X λy=>?_,ad q dg de];have hf:=fresh q dg;simp only[Y5,Y3,not_or] at hf y;rcases y with y|y;exact hf.1 y;rcases bv q y with G|G;exact hf.2.1 G;omega
 have ir:g3.a (h.p,80)=some (Zh step x6 am aq ao):=by rw[bd _ I (by simp<;>omega)];exact fy
 have im:g3.a (h.p+1,112)=some [C.d (D.str T.y),c1,c2]:=by rw[bd _ I (by simp<;>omega)];exact dz
 have ig:g3.a (h1.p,144)=some [C.i T.pk.length]:=by rw[bd _ (by simp<;>omega) (by simp<;>omega)];exact gd
 have b3:=bu.a;have e5:∀q∈b6,q∈ta\/h.p<=q.1:=λq P=>by
  rcases e7 q P with y|y|y;exact(bv q y).imp_right λh=>X;simp only[Ym,Y3] at y;rcases y with y|y
  have:=ap q y;exact .inr X
  have:=ag q y;exact .inr X
  exact .inr X
 have dv:Z0 h g3 (l::(ta++(M++O))):=(ff.trans (cz.mono λk F=>Yc _ F)).trans' hs3' λq P=>by
  simp only[Y5] at P;rcases P with rfl|P;exact .inl I;exact(bv q P).imp (λh=>by simp[h]) λh=>X
 simp;refine Z6.cu [0,1,2,3,4,5,6,7,9,10,8,11,12,13,14,15,16] (λe h'=>e.n=206/\∃af fp,Sc h' l {S4 with b:=S4.b++[⟨step.o,ZZ T.pk.length,T.y⟩]} br fp oc b6 af O/\(∀k∈af,k∈M\/h.p<=k.1)/\Z0 h h' (l::(ta++(M++O)))) ?_ ?_;simp[t,b3,ir,im,ig,e2];refine Zc (FN _ T.pk.length bg _ (λbf g4 jf bm cd dx=>?_));simp[t];refine⟨dx,?_⟩;have f7:Ow g4 VB [.s step.o,bf,.s T.y] (⟨step.o,ZZ T.pk.length,T.y⟩:Fk).z (Z bf):=by
  refine .data rfl ?_
  have:=Ow.rW (es:=[.d]) (n:=1) (ts:=(ZZ T.pk.length).map Zg) (by rwa [<-Af]) rfl I (Ow.data (c:=.s T.y) (x:=.str T.y) rfl .nil)
  simpa using this
 have f9:=bm.1;have fin:∀(h5:HS) (x':aD) (lx:List Z2),Z0 g4 h5 []->∀ys:List aD,ys.length=S4.b.length->MR h5 3 fc ys->
   (∀(h':HS) (V:C) (x:aD) (d:aC) (lx:List Z2),MR h' 3 V (ys++[x])->Z0 h5 h' (Z fc)->(∀k∈Z V,k∈Z fc\/(h5.p<=k.1/\k.1<h'.p))->Ow h' VB x d lx->lx.Nodup->(∀k∈lx,k.1<h'.p/\k∉l::(b6++(M++O))/\k∉Z V)->∀T,d=Fk.z T->∃af,Sc (h'.xV l [br,V,oc]) l {S4 with b:=S4.b++[T]} br V oc b6 af O/\∀k∈af,k∈M\/k∈lx\/h5.p<=k.1)->
   (∀h',(∀k∈Z bf,h'.a k=g4.a k)->Ow h' VB x' (⟨step.o,ZZ T.pk.length,T.y⟩:Fk).z lx)->(∀k∈lx,k∈Z bf)->lx.Nodup->∀(V:C) (h':HS),MR h' 3 V (ys++[x'])->Z0 h5 h' (Z fc)->(∀k∈Z V,k∈Z fc\/(h5.p<=k.1/\k.1<h'.p))->
   h'.a l=some [br,fc,oc]/\∃af,Sc (h'.xV l [br,V,oc]) l {S4 with b:=S4.b++[⟨step.o,ZZ T.pk.length,T.y⟩]} br V oc b6 af O/\(∀k∈af,k∈M\/h.p<=k.1)/\Z0 h (h'.xV l [br,V,oc]) (l::(ta++(M++O))):=by
  intro h5 x' lx ac ys _ _ add il ew iv V h' bt ae bp;have ia:=ae.1;have ga:=ac.1;have da:∀k∈Z fc,k∈M:=s.qI.2.1;have⟨af,s6,cb⟩:=add h' V x' _ lx bt ae bp (il h' λk F=>by
   have y:=cd k F;rw[ae.2 k X λJ=>by have:=bu.lt k (by simp[da k J]);omega];exact ac.2 k y.2 I) iv (λk F=>by
    have y:=cd k (ew k F);refine⟨X,λJ=>by have:=bu.lt k J;omega,λJ=>?_⟩;rcases bp k J with G|G
    have:=bu.lt k (by simp[da k G]);omega
    omega) _ rfl
  refine⟨(bu.frame (bm.trans ac)).keep ae λk F=>.inr (.inl (da k F)),af,s6,λk F=>?_,((dv.trans ((bm.trans ac).mn)).trans' ae λk F=>.inl (by simp[da k F])).xV (.inl I)⟩;rcases cb k F with y|y|y;exact .inl y
  have:=cd k (ew k y);exact .inr X
  exact .inr X
 refine DF (x:=[.s step.o,bf,.s T.y]) (by simp[ZB];cases bf.toD<;>rfl) I (λd gz=>?_) (λ_=>?_);obtain⟨rfl,gg⟩:=f7.ofD gz;have ac:Z0 g4 ((g4.qC (g4.p,16*202) (some (1,3))).w) []:=Z0.refl.qC.w;simp only[Nat.reduceMul] at ac;have⟨ys,my,cl,add⟩:=(bu.frame (bm.trans ac)).rB;simp[t];refine Wl (by simp;exact⟨rfl,rfl⟩) I I I my (Zr.qU I) (by rwa [cl]) (λV h' bt ae bp=>?_);have⟨d7,af,s6,t1,t2⟩:=fin _ _ [] ac ys cl my add (λh' _=>gg h') I Y3j V h' bt ae bp;simp[t,d7];exact Ze.of ⟨by simp[t],af,V,s6,t1,t2⟩
 skip
 have ac:Z0 g4 ((g4.xV (g4.p,16*202) [.s step.o,bf,.s T.y]).w) []:=(Z0.refl.xV (.inr (Y7 _))).w;simp only[Nat.reduceMul] at ac;have⟨ys,my,cl,add⟩:=(bu.frame (bm.trans ac)).rB;simp[t];refine Wl (by simp;exact⟨rfl,rfl⟩) I I I my (Zr.jY (x:=[.s step.o,bf,.s T.y]) I I) (by rwa [cl]) (λV h' bt ae bp=>?_);have⟨d7,af,s6,t1,t2⟩:=fin _ _ (Z bf) ac ys cl my add (λh' hb'=>f7.frame hb') (λ_ h=>h) Vx V h' bt ae bp;simp[t,d7];exact Ze.of ⟨by simp[t],af,V,s6,t1,t2⟩;rintro e h' ⟨hn,af,fp,s7,cb,ic⟩;simp[hn];refine F _ _ s7.ows ic λk F=>?_;simp only[Y3] at F|-;rcases F with F|F|F;exact(e5 k F).imp_left .inl;exact(cb k F).imp_left λh=>.inr (.inl h);exact .inl (.inr (.inr F))
def Hy(fk:Fk)(k0:aA):aB Bool:=
 some (Z9 fk.ref k0)
instance Tq(fk:Fk)(k0:aA):Con (Hy fk k0) prog 159 [.agg fk.z,.one (.rp [.str k0])] (λr=>.one (.d (.bool r))):=by unfold Hy;exact go 8 func159
def FD(column:Int)(k0:Int)(k1:E)(k2:Int):aB Int:=
 bif decide (column<k0) then Za k1.pk column λx2=>(some x2) else Zp (Wm (k2+column)) (Zp (Wm ((k2+column)-k0)) (some ((k2+column)-k0)))
instance Tp(column:Int)(k0:Int)(k1:E)(k2:Int):Con (FD column k0 k1 k2) prog 161 [.one (.d (.int .i64 column)),.one (.rp [.int .i64 k0]),.one (.rp [.str k1.y,.sl (k1.j.map Col.z),.sl (k1.pk.map Zg)]),.one (.rp [.int .i64 k2])] (λr=>.one (.d (.int .i64 r))):=by unfold FD;exact go 19 func161
def Im{σ ρ:Type}{a:Nat->σ->(σ->aB ρ)->aB ρ}{k:σ->aB ρ}(P:σ->Prop)(Q:ρ->Prop)(d:∀i s next r,P s->(∀b r,P b->next b=some r->Q r)->a i s next=some r->Q r)(e:∀s r,P s->k s=some r->Q r):∀n i s r,P s->WZ a k n i s=some r->Q r
 |0,_,s,r,c,h=>e s r c h
 |n+1,i,s,r,c,h=>d i s _ r c (λb j f g=>Im P Q d e n (i+1) b j f g) h
def Z2s{S k:Sch}{d:aA}{p:Int->aB Int}(h:Is (D5 S d p) k):k.q=S.q:=by
 refine Im (λs:Sch=>s.q=S.q) (λs=>s.q=S.q) (λi s next r e g a=>?_) (λs r e m=>?_) _ _ S k rfl h
 .have⟨f,n,a⟩:=Is.qQ a;cases l:Z9 f.u d with
  |false=>rw[l] at a;exact g _ _ e a
  |true=>?_
  rw[l] at a;refine Im (λs:Sch=>s.q=S.q) (λs=>s.q=S.q) (λj s next r e g a=>?_) g _ _ s r e a;have⟨f,n,a⟩:=Is.qQ a;have⟨v,o,a⟩:=Is.qQ a;have⟨q,aa,a⟩:=a.bind;exact g {s with b:=s.b.set i ⟨f.u,f.j.set j q,f.ref⟩} _ e a
 refine Im (λs:Sch=>s.q=S.q) (λs=>s.q=S.q) (λj s next r e g a=>?_) (λs r e m=>?_) _ _ s r e m;have⟨c,l,a⟩:=Is.qQ a;cases hct:Z9 c.u d with
 |false=>rw[hct] at a;exact g _ _ e a
 |true=>?_
 rw[hct] at a;have⟨v,o,a⟩:=Is.bind a;cases hr:decide (0<=c.right) with
 |false=>rw[hr] at a;exact g {s with cons:=s.cons.set j {c with left:=v}} _ e a
 |true=>?_
 rw[hr] at a;have⟨w,hw,a⟩:=Is.bind a;exact g {s with cons:=s.cons.set j {c with left:=v,right:=w}} _ e a;obtain rfl:=Zk m;exact e
def Z2b{S a:Sch}{c:Fk}{r:Int}(h:Is (D3 S c) (a,r)):a.q=S.q:=by
 have⟨k,hk,h⟩:=h.bind;split at h
 have:=Zk h
 simp only[YG] at this;rw[<-this.1];have⟨_,h⟩:=Is.chk h
 have:=Zk h
 simp only[YG] at this;rw[<-this.1]
def Sc.wY{h:HS}{l:Z2}{S:Sch}{p j o:C}{a g n:List Z2}(s:Sc h l S p j o a g n){i:Nat}{T:E}{A:Z2}{b c:C}{B:aD}(r:TblV h l S p j o a g n i T A b c B)(x:S.q[i]?=some T):∀h',(∀k∈a,h'.a k=h.a k)->ZI h' [.d (.str T.y),b,c] T.z:=by
 obtain⟨qt,qf,qo,rfl,rfl,rfl,s⟩:=s;have⟨q,lr,cap,sp,t,h2,m,u,h5,v⟩:=s.t.elem (Ai (f:=E.z) x);have⟨cap',e⟩:=r.hd;rw[u] at e;simp at e;obtain⟨rfl,-⟩:=e;have z:=v.uniq r.el m.len.1 (by simp[WI]);intro h' w
 have:=m.frame (h':=h') λk y=>w k (UJ t y)
 rw[z.1] at this;exact this.frz
def MR.tail{h:HS}{w:Nat}{l:Z2}{n cap:Nat}{c:List aD}(m:MR h w (.mrow l 0 n cap) c)(k:Nat)(hk:k<=n):Zr h w (.mrow l (k*w) (n-k) (cap-k)) (c.drop k):=by
 have f:=m.len;simp[Wd] at f;subst f;have d:∃b,h.a l=some (Zb c b):=by rcases m.2.2 with⟨_,a|a⟩|⟨l',cap',b,e,a,_⟩;cases a;cases a;simp at e;obtain⟨rfl,rfl⟩:=e;exact⟨b,a⟩
 have⟨b,d⟩:=d;have g:=EK (off:=k) (k:=c.length-k) (cap:=cap-k) m.1 d X;refine⟨?_,by simp[Wd],m.1.drop,by have:=m.2.1;simp at this|-;omega⟩;rw[g,YD I]
end
end Go.Am
section
namespace Go.Am
open Go.RowKit (Below)
section
variable{P:Program}
@[simp] def MF:Op->Bool
 | .call c=>match c.callee with
   | .value _=>true
   | .builtin .append=>true
   |_=>false
 |_=>false
def Z5z{a}(h:U4 a=true):MF a=false:=by
 cases a<;>simp_all [U4];rename_i c;cases hc:c.callee<;>simp_all;rename_i b;cases b<;>simp_all
def Zd9(bl:Nat->Bool):Region.Mode->Array Oper->Y->Nat->Array Bool->Bool:=Va λi a=>bl i&&MF a
def V8(P:Program)(a:List Oper)(bl:Nat->Bool)(K:Env->HS->Prop):Y->Env->HS->Prop:=UO P a (λi b=>bl i&&MF b) K
end
def Z6.jS{P}{id:Nat}{a Q e h}(bl)(b)(k:P.follows .mixedOrders=true)
  (j:Zd9 bl .any a b a.size (Array.replicate a.size false)=true)(jq0)(f:V8 P a.toList bl (λe h=>Ze (jq0:=⟨jq0⟩) e h) b e h)(g:∀e h,jq0 e h->Q .normal e h):
  Z6 P (c:=⟨.region id a true⟩) (Q:=⟨Q⟩) e h:=by
 refine Wy.mono (Q:=λx e h=>match x with| .normal=>jq0 e h|_=>False) (Wy.wP (λi op h=>by simp only[Z5z h,Y07]) b k j f) ?_;intro x e h d;cases x with
 |normal=>exact g e h d
 |_=>exact d.elim
end Go.Am
end
namespace Go.Am
section
def M6(S:Sch)(T O:E)(j:Nat)(c:Int)(_:Unit)(next:Unit->aB (Sch×Int)):aB (Sch×Int):=
 Za T.j c λa=>Za O.j (j:Int) λb=>bif a.g !=b.g then some (S,9) else next ()
def LZ(a c:aA){ρ:Type}(k:Nat)(S:Sch)(next:Sch->aB ρ):aB ρ:=
 Za S.b (k:Int) λf=>bif Z9 f.u a then next {S with b:=S.b.set k ⟨c,f.j,f.ref⟩} else next S
def LY(a b:aA){ρ:Type}(k:Nat)(S:Sch)(next:Sch->aB ρ):aB ρ:=
 Za S.cons (k:Int) λc=>bif Z9 c.u a then next {S with cons:=S.cons.set k {c with u:=b}} else next S
def KR(T O:E)(i j:Nat)(S:Sch):aB (Sch×Int):=
 Zp (T.pk.length<=O.j.length/\0<O.j.length/\0<T.j.length/\T.j.length+O.j.length<=Zz) (some ({S with q:=(S.q.set i {T with j:=T.j++O.j.drop T.pk.length}).take j++(S.q.set i {T with j:=T.j++O.j.drop T.pk.length}).drop (j+1)},0))
def HK(S:Sch)(i:Nat)(a:aA):aB (Sch×Int):=
 Z1 (Wg S a) λv=>bif !v.2 then some (S,4) else Za S.q (i:Int) λT=>Za S.q v.1 λO=>bif ((i:Int)==v.1) then some (S,9) else
 Z1 (C1 O.pk (ZZ T.pk.length)) λb=>bif !b then some (S,9) else
 Zd (M6 S T O) (λ_=>Z1 (D3 S ⟨a,ZZ T.pk.length,T.y⟩) λq=>bif q.2 !=0 then some (q.1,10) else
  Z1 (Zpm q.1.b λe=>Hy e a) λb=>bif b then some (q.1,10) else
  Z1 (D5 q.1 a λc=>FD c T.pk.length T T.j.length) λS2=>
  WZ (LZ a T.y) (λd=>WZ (LY a T.y) (KR T O i v.1.toNat) d.cons.length 0 d) S2.b.length 0 S2) T.pk 0 ()
set_option maxHeartbeats 2000000 in
def TD(h l tc fc oc L fa F S S')(i:Nat)(m)(r:Int)(w:Is (HK S i m) (S',r))(s:Sc h l S tc fc oc L fa F)(K)
  (o:Vc h l (L++(fa++F)) S' (.i r) K):
  Z5 prog 134 [.p l,.i (i:Int),.s m] h K:=by
 have⟨v,hv,w⟩:=w.bind;have de:Z0 h ((h.xV (h.p,80) [.d (.str m)]).w) []:=(Z0.refl.xV (.inr (Y7 _))).w;have s0:=s.frame de;have em:=s0.a;have dr:(h.xV (h.p,80) [.d (.str m)]).w.a (h.p,80)=some [.d (.str m)]:=I
 refine Z5.ov func134 ?_;have fw:=s.a;have bh:h.p<((h.xV (h.p,80) [.d (.str m)]).w).p:=I
 simp;generalize(h.xV (h.p,80) [.d (.str m)]).w=HX at*;refine Z6.cu aJ (λe h'=>En e 188 [(0,.p l),(1,.i (i:Int)),(5,.p (h.p,80)),(7,.i v.1),(8,.b v.2)]/\Z0 HX h' []) ?_ ?_;simp[em,dr];refine Zc (Z5.qD (AU S m v hv) ⟨.agg s0.frz,.one (.frz (.data rfl)),trivial⟩ rfl ?_);simp;exact⟨λ_ _ x=>x,Ze.of (by simp[Z0.refl.w])⟩;rintro e h1 ⟨a,bg⟩;have df:h1.a (h.p,80)=some [.d (.str m)]:=by rw[bg.2 _ bh I];exact dr
 have s1:=s0.frame bg;have fl:=s1.a;have hy:=de.trans bg;simp[a];cases hv2:v.2 with|false=>?_|true=>?_;rw[hv2] at w;obtain⟨rfl,rfl⟩:=ZU w;simp[a];exact o _ _ s1.ows (hy.mn) (λk o=>.inl o);simp only[hv2,Xx,cond_false] at w;have⟨T,hi,w⟩:=w.qQ;have⟨O,f1,hj,w⟩:=w.get;obtain⟨j,eh⟩:∃j:Nat,v.1=j:=⟨v.1.toNat,X⟩;rw[eh] at a hj w;simp at hj;have hlt:i<S.q.length:=(Y0.1 hi).1;have b6:j<S.q.length:=(Y0.1 hj).1;have⟨A,c1,c2,B,Q⟩:=s1.tbl hi;obtain⟨E,rfl⟩:=Q.hd;have bx:=Q.el.a;have r0:=Q.el.rd0 3 X;have r1:=Q.el.rd 1 1 X;have r2:=Q.el.rd 2 1 X;simp at r0 r1 r2;have⟨d1,d2,tw⟩:=s1.jC bx hj;have q0:=tw.el.rd0 3 X;simp at q0;simp;refine Z6.cut (Y.qB [0,1,2,3,4,5,6,7,8,9,11] (.three 10 14 15 (Y.qB [12] (.three 13 14 15 (Y.qB [] (.two 14 15 (Y.qB [15,16,17] .done) (Y.qB [14,16,17] .done))) (Y.qB [] (.two 13 15 (Y.qB [15,16,17] .done) (Y.qB [] (.two 13 16 (Y.qB [16,17] .done) (Y.qB [13,17] .done))))) (Y.qB [] (.two 13 14 (Y.qB [14,16,17] .done) (Y.qB [] (.two 13 16 (Y.qB [16,17] .done) (Y.qB [13,17] .done))))))) (Y.qB [] (.two 10 15 (Y.qB [12] (.two 13 15 (Y.qB [15,16,17] .done) (Y.qB [] (.two 13 16 (Y.qB [16,17] .done) (Y.qB [13,17] .done))))) (Y.qB [] (.two 10 16 (Y.qB [12] (.two 13 16 (Y.qB [16,17] .done) (Y.qB [13,17] .done))) (Y.qB [10,12,13,17] .done))))) (Y.qB [] (.two 10 14 (Y.qB [12] (.two 13 14 (Y.qB [14,16,17] .done) (Y.qB [] (.two 13 16 (Y.qB [16,17] .done) (Y.qB [13,17] .done))))) (Y.qB [] (.two 10 16 (Y.qB [12] (.two 13 16 (Y.qB [16,17] .done) (Y.qB [13,17] .done))) (Y.qB [10,12,13,17] .done))))))) follows kR (λy h'=>Ek e y [(7,.i (j:Int))] [0,1,5]/\Z0 h1 h' []/\
  ∃p9 ad:Z2,p9≠ad/\(h1.p<=p9.1/\p9.1<h'.p)/\(h1.p<=ad.1/\ad.1<h'.p)/\y.get 9=.p p9/\y.get 10=.p ad/\h'.a p9=some [.d (.str T.y),c1,c2]/\h'.a ad=some [.d (.str O.y),d1,d2]) ?_ ?_
 .have c6:=Zv (s1.lt l I);have e4:=Zv (s1.lt A (by simp[Q.tm]));simp(maxDischargeDepth:=12) [a,fl,hlt,b6,bx,r0,q0,c6,e4,CU]
  repeat' (with_reducible apply And.intro)
  all_goals first
   | (refine Ze.of ⟨?_,(((Z0.refl.xV (.inr ?_)).w.xV (.inr ?_)).w.xV (.inr ?_)).xV (.inr ?_),(h1.p,144),(h1.p+1,160),?_,⟨?_,?_⟩,⟨?_,?_⟩,?_,?_,?_,?_⟩
      all_goals first
       |(simp[a];done)
       |(simp<;>omega))
   | (refine Ze.of ⟨?_,(((Z0.refl.xV (.inr ?_)).w.xV (.inr ?_)).w.xV (.inr ?_)).xV (.inr ?_),(h1.p+1,144),(h1.p,160),?_,⟨?_,?_⟩,⟨?_,?_⟩,?_,?_,?_,?_⟩
      all_goals first
       | (simp[a];done)
       | (simp<;>omega))
 rintro e t ⟨hF,hs2,p9,ad,_,et,dp,h9,ej,b9,e3⟩;have a:=And.intro h9 (And.intro ej (hF.an a));have s2:=s1.frame hs2;have hb2:=s2.a;have dd:=hy.trans hs2;have dm:t.a (h.p,80)=some [.d (.str m)]:=by rw[hs2.2 _ (Y4 bh bg.1) I];exact df
 have b1:t.a A=some B:=by rw[hs2.2 _ (s1.lt A (by simp[Q.tm])) I];exact bx
 have tT:∀ h',Z0 t h' []->TblV h' l S (.mrow A 0 S.q.length E) fc oc L fa F i T A c1 c2 B:=λh' W=>by
  have e9:=W.2 A (s2.lt A (by simp[Q.tm])) I;rw[b1] at e9;have ⟨a1,a2,aj⟩:=(s2.frame W).jC e9 hi;obtain⟨rfl,rfl⟩:a1=c1/\a2=c2:=by
   have:=aj.el.rd0 3 X
   rw[r0] at this;simp at this;exact⟨this.1.symm,this.2.symm⟩
  exact aj
 have tO:∀ h',Z0 t h' []->TblV h' l S (.mrow A 0 S.q.length E) fc oc L fa F j O A d1 d2 B:=λh' W=>by
  have e9:=W.2 A (s2.lt A (by simp[Q.tm])) I;rw[b1] at e9;have ⟨a1,a2,aj⟩:=(s2.frame W).jC e9 hj;obtain⟨rfl,rfl⟩:a1=d1/\a2=d2:=by
   have:=aj.el.rd0 3 X
   rw[q0] at this;simp at this;exact⟨this.1.symm,this.2.symm⟩
  exact aj
 simp[a,b9];refine V6 Q.n2.1 ?_;simp[a];have hz:Z0 t ((t.xV (t.p,176) [C.d (D.int i64 0)]).w.xV (t.p,176) [C.d (D.int i64 T.pk.length)]) []:=((Z0.refl.xV (.inr (Y7 _))).w).xV (.inr (Y7 _));generalize hX2:(t.xV (t.p,176) [C.d (D.int i64 0)]).w.xV (t.p,176) [C.d (D.int i64 T.pk.length)]=HB at hz |-;have b0:HB.a (t.p,176)=some [C.d (D.int i64 T.pk.length)]:=by rw[<- hX2];simp
 have dl:t.p < HB.p:=by rw[<- hX2];simp
 have dx:=dd.trans hz;have ey:HB.a p9=some [.d (.str T.y),c1,c2]:=by rw[hz.2 _ et.2 I];exact b9
 have b7:HB.a ad=some [.d (.str O.y),d1,d2]:=by rw[hz.2 _ dp.2 I];exact e3
 have az:T.pk.length<=Zz:=Q.n2.2;have fv:h.p < h1.p:=Y4 bh bg.1;have ez:=hs2.1;have ef:HB.a (h.p,80)=some [.d (.str m)]:=by rw[hz.2 _ (by simp<;>omega) I];exact dm
 cases hij:(i:Int) == (j:Int) with|true=>?_|false=>?_;simp only[hij,cond_true] at w;obtain⟨rfl,rfl⟩:=ZU w;refine Z6.cu aQ (λe h'=>En e 188 [(55,.b true)]/\h'=HB) ?_ ?_;simp[a,hij];exact⟨ZG.refl _,Ze.of ⟨by simp[a],rfl⟩⟩;rintro e M ⟨a,rfl⟩;simp[a];exact o _ _ (s.frame dx).ows (dx.mn) (λk o=>.inl o);simp only[hij,cond_false] at w;have ⟨b,cn,w⟩:=w.bind;have fp:¬ (i:Int)=(j:Int):=sU hij;have c7:¬ i=j:=X
 refine Z6.cu aQ (λy h'=>Ek e y [(9,.p p9),(10,.p ad),(11,.p (t.p,176)),(55,.b !b)] [0,1,5,7]/\Z0 HB h' []) ?_ ?_;simp[a,hij,b7,b0];refine Zc (FN _ T.pk.length az _ (λpc g mp U ea bj=>?_));simp[a];refine⟨bj,?_⟩;rw[Af] at mp;refine Zc (Z5.qD (Nt O.pk (ZZ T.pk.length) b cn) ⟨.one (.frz ((tO g (hz.trans U)).f2 _ .refl)),.one (.frz ((Ow.rL (n:=1) mp rfl I).rV)),trivial⟩ rfl ?_);simp[a];exact⟨λ_ _ x=>x,Ze.of ⟨by simp[a],U.w⟩⟩;rintro e M ⟨hF,U⟩;have a:=hF.an a;have ce:=hz.trans U;have bu:=dd.trans ce;have s3:=s.frame bu;simp[a];cases b with|false=>?_|true=>?_;obtain⟨rfl,rfl⟩:=ZU w;simp[a];exact o _ _ s3.ows (bu.mn) (λk o=>.inl o);simp only[Xx,cond_false] at w;have bt:M.a p9=some [.d (.str T.y),c1,c2]:=by rw[U.2 _ X I];exact ey
 have b2:M.a ad=some [.d (.str O.y),d1,d2]:=by rw[U.2 _ X I];exact b7
 have b3:M.a (t.p,176)=some [C.d (D.int i64 T.pk.length)]:=by rw[U.2 _ (sU dl) I];exact b0
 have d9:M.a (h.p,80)=some [.d (.str m)]:=by rw[U.2 _ (by simp<;>omega) I];exact ef
 simp[a,bt];refine V6 Q.n2.1 ?_;simp[a];have t3:=tT M ce;have u3:=tO M ce;refine Z6.for (xs:=T.pk) (s0:=()) (λk _ y g=>Ek e y [(57,.one c2),(58,.i (T.pk.length:Int)),(59,.i (k:Int))] [0,1,5,7,9,10,11]/\g=M) w ⟨by simp[a],rfl⟩ ?_ ?_;rintro k _ e g ⟨hF,rfl⟩ am w;have a:=hF.an a;simp only[M6] at w;have ⟨ca,fo,bm,w⟩:=w.get;have ⟨cb,d0,w⟩:=w.qQ;have hw:IntKind.i64.wrap ((k:Int)+1)=(k:Int)+1:=Y6 _ (by have fz:T.pk.length<=2097152:=az;omega);obtain⟨lp,cp,Bp,rfl,ep,-⟩:=t3.e2 k _ (Y1 am);have bp:=ep.a;have rp:=ep.rd0 1 X;obtain⟨n,eb⟩:∃ n:Nat,T.pk[k]=n:=⟨(T.pk[k]).toNat,X⟩;rw[eb] at rp bm;simp at rp bm;have c6:n < T.j.length:=(Y0.1 bm).1;have fg:k < O.j.length:=(Y0.1 d0).1;obtain⟨l1,f0,B1,rfl,d8,-⟩:=t3.e1 n ca bm;obtain⟨l2,fx,B2,rfl,dw,-⟩:=u3.e1 k cb d0;have e5:=d8.a;have ff:=dw.a;have q1:=d8.rd 1 1 X;have q2:=dw.rd 1 1 X;simp at q1 q2;simp[a,am,bp,rp];refine Z6.cu aI (λy G=>Ek e y [(57,.one (.mrow lp 0 T.pk.length cp)),(76,.b (ca.g != cb.g))] [0,1,5,7,9,10,11,58,59]/\G=g) ?_ ?_;simp[a,bt,b2,c6,fg,e5,ff,q1,q2];exact Ze.of ⟨by simp[a],rfl⟩;rintro e G ⟨hF,rfl⟩;have a:=hF.an a;simp[a];cases hkk:ca.g != cb.g with|true=>?_|false=>?_;simp only[hkk,cond_true] at w;obtain⟨rfl,rfl⟩:=ZU w;simp[a];exact o _ _ s3.ows (bu.mn) (λk o=>.inl o);simp only[hkk,cond_false] at w;simp[a,hw];exact Zj.of () ⟨⟨by simp[a],rfl⟩,w⟩;rintro _ e g ⟨hF,rfl⟩ w;have a:=hF.an a;have ⟨q,hq,w⟩:=w.bind;simp[a];have fm:=U.1;refine Z6.jS (λk=>k == 3) (Y.qB [0,1,2,4,5,3,6,7,8] .done) follows kR (λy G=>Ek e y [(14,.i q.2)] [0,1,5,7,9,10,11]/\∃ ae R,Sc G l q.1 (.mrow A 0 S.q.length E) ae oc L R F/\Z0 g G (l::fa)/\(∀ k ∈ R,k ∈ fa)) ?_ ?_;simp[a,d9,bt,b3,V8];refine Zc (FN _ T.pk.length az _ (λpc g2 mp al ea bj=>?_))
 simp[a];refine⟨bj,?_⟩;refine Zc (SY g2 l _ fc oc L fa F S q.1 ⟨m,ZZ T.pk.length,T.y⟩ [.d (.str m),pc,.d (.str T.y)] q.2 hq (s3.frame al) (λh' W=>⟨.data rfl,?_,.data rfl,trivial⟩) _ (λg3 ae R s4 ei ah=>?_));rw[Af] at mp;exact (Ow.rL (n:=1) (mp.frame λk o=>W.2 k (ea k o).2 I) rfl I).rV;simp[a];exact Ze.of ⟨by simp[a],ae,R,s4,(al.mn).trans ei,ah⟩;rintro e J ⟨hF,ae,R,s4,al,ah⟩;have a:=hF.an a;have ⟨S1,q2⟩:=q;simp only at hq w a s4;have cz:=Z2b hq;have ek:S1.q[i]? = some T:=by rw[cz];exact hi
 have cc:Z0 h J (l::(L++(fa++F))):=(bu.mn).trans (al.mono λk o=>by simp only[Y5,Y3] at o |-;exact o.imp_right λh=>.inr (.inl h));have fresh:∀ k:Z2,h.p<=k.1->k ∉ l::(L++(fa++F)):=λk o t=>by have:=s.lt k t;omega
 have af:∀ k:Z2,h.p<=k.1->k ∉ l::fa:=λk o t=>fresh k o (by simp only[Y5,Y3] at t |-;exact t.imp_right λh=>.inr (.inl h));have cw:J.a p9=some [.d (.str T.y),c1,c2]:=by rw[al.2 _ X (af _ X)];exact bt
 have dj:J.a ad=some [.d (.str O.y),d1,d2]:=by rw[al.2 _ X (af _ X)];exact b2
 have b4:J.a (t.p,176)=some [C.d (D.int i64 T.pk.length)]:=by rw[al.2 _ (by simp<;>omega) (af _ (by simp<;>omega))];exact b3
 have cl:J.a (h.p,80)=some [.d (.str m)]:=by rw[al.2 _ (by simp<;>omega) (af _ I)];exact d9
 have ft:=al.1;have bw:=s.nd;simp only[XF,Yk,Y3,not_or] at bw;have bc:∀ k ∈ L,k≠l/\k ∉ fa/\k ∉ F:=λk o=>⟨λhe=>bw.1.1 (he ▸ o),λt=>bw.2.2.2 k o k (.inl t) rfl,λt=>bw.2.2.2 k o k (.inr t) rfl⟩;have e0:J.a A=some B:=by
  rw[al.2 A (s3.lt A (by simp[Q.tm])) (λt=>by
   have:=bc A Q.tm
   simp only[Y5] at t;exact t.elim this.1 this.2.1)]
  exact t3.el.a
 have dv:∀ {h':HS} {S9:Sch} {br bn:C} {bz bv:List Z2},Sc h' l S9 (.mrow A 0 S.q.length E) br bn L bz bv->S9.q=S.q->h'.a A=some B->TblV h' l S9 (.mrow A 0 S.q.length E) br bn L bz bv i T A c1 c2 B/\TblV h' l S9 (.mrow A 0 S.q.length E) br bn L bz bv j O A d1 d2 B:=λ{h' S9 br bn bz bv} s9 ht9 a7=>by
  refine⟨?_,?_⟩;have ⟨a1,a2,aj⟩:=s9.jC a7 (i:=i) (T:=T) (by rwa [ht9]);obtain⟨rfl,rfl⟩:a1=c1/\a2=c2:=by
   have:=aj.el.rd0 3 X
   rw[r0] at this;simp at this;exact⟨this.1.symm,this.2.symm⟩
  exact aj;have ⟨a1,a2,aj⟩:=s9.jC a7 (i:=j) (T:=O) (by rwa [ht9]);obtain⟨rfl,rfl⟩:a1=d1/\a2=d2:=by
   have:=aj.el.rd0 3 X
   rw[q0] at this;simp at this;exact⟨this.1.symm,this.2.symm⟩
  exact aj
 have ks:∀ k ∈ L++(R++F),k ∈ L++(fa++F):=λk o=>by simp only[Y3] at o |-;exact o.imp_right λh=>h.imp_left (ah k)
 simp[a];cases hq0:q2 != 0 with|true=>?_|false=>?_;simp only[hq0,cond_true] at w;obtain⟨rfl,rfl⟩:=ZU w;simp[a];exact o _ _ s4.ows cc (λk o=>.inl (ks k o));simp only[hq0,cond_false] at w;have ⟨b,cn,w⟩:=w.bind;have fj:=s4.a;simp[a,fj];refine Zc (Z5.qD (JH S1.b 159 [[.str m]] (λfk=>Hy fk m) (λxa v hv=>Tq xa m v hv) b cn) ⟨.one (.frz s4.wU),.one (.fn rfl ?_),trivial⟩ rfl ?_);intro jj cp ds hj hd;cases jj with
 |zero=>?_
 |succ jj=>simp at hj
 simp at hj hd;subst hj hd;exact⟨_,cl,ZI.qK (ds:=[.str m])⟩;have ci:Z0 J J.w []:=Z0.refl.w;have s5:=s4.frame ci;simp;cases b with|true=>?_|false=>?_;obtain⟨rfl,rfl⟩:=ZU w;simp[a];exact o _ _ s5.ows (cc.trans (ci.mn)) (λk o=>.inl (ks k o));simp only[cond_false] at w;have ⟨S2,hm2,w⟩:=w.bind;simp[a,cw];refine V6 Q.n1.1 ?_;have eo:=Zv (l:=(h.p,80)) (n:=J.p) (by simp<;>omega);simp (maxDischargeDepth:=12) [a,eo,cl,CU];have bq:Z0 J ((J.w.xV (J.p+1,240) [C.d (D.int i64 0)]).w.xV (J.p+1,240) [C.d (D.int i64 T.j.length)]) []:=((ci.xV (.inr I)).w).xV (.inr I);generalize hX7:(J.w.xV (J.p+1,240) [C.d (D.int i64 0)]).w.xV (J.p+1,240) [C.d (D.int i64 T.j.length)]=HC at bq |-;have s6:=s4.frame bq;have dh:J.p+1 < HC.p:=by rw[<- hX7];simp
 have ew:HC.a (J.p+1,240)=some [C.d (D.int i64 T.j.length)]:=by rw[<- hX7];simp
 have kC:∀ k:Z2,k.1 < J.p->HC.a k=J.a k:=λk o=>bq.2 k o I;have aw:∀ k:Z2,h.p<=k.1->k ∉ R++F:=λk o t=>fresh k o (by simp only[Y5,Y3] at t |-;exact .inr (.inr (t.imp_left (ah k))));have d3:HC.a A=some B:=by rw[kC A (s4.lt A (by simp[Q.tm]))];exact e0
 have ⟨t6,u6⟩:=dv s6 cz d3;have da:∀ h',Z0 HC h' (R++F)->Uy h' ([Cap.lab (t.p,176),Cap.lab p9,Cap.lab (J.p+1,240)].map Vf) (Wu [[.int .i64 T.pk.length],T.z,[.int .i64 T.j.length]]):=λh' W=>by
  refine⟨.one (.ptr (cs:=[C.d (D.int i64 T.pk.length)]) ?_ (ZI.qK (ds:=[.int .i64 T.pk.length]))),.one (.ptr (cs:=[.d (.str T.y),c1,c2]) ?_ (s6.wY t6 ek h' λk o=>W.2 k (s6.lt k (by simp[o])) λt=>?_)),.one (.ptr (cs:=[C.d (D.int i64 T.j.length)]) ?_ (ZI.qK (ds:=[.int .i64 T.j.length]))),trivial⟩;rw[W.2 _ (by simp<;>omega) (aw _ (by simp<;>omega)),kC _ (by simp<;>omega)];exact b4;rw[W.2 _ X (aw _ X),kC _ X];exact cw
  have:=bc k o
  rcases Y3.1 t with t | t;exact this.2.1 (ah k t);exact this.2.2 t;rw[W.2 _ (sU dh) (aw _ (by simp<;>omega))];exact ew
 refine Zc (Nd HC l _ ae oc L R F S1 S2 m 161 [Cap.lab (t.p,176),Cap.lab p9,Cap.lab (J.p+1,240)] [[.int .i64 T.pk.length],T.z,[.int .i64 T.j.length]] _ hm2 s6 da (λx v hv=>Tp x T.pk.length T T.j.length v hv) _ (λg7 s7 e7=>?_));have fd:S2.q=S.q:=(Z2s hm2).trans cz;have fi:=s7.a;simp[a,fi];refine V6 s7.len.2.1.1 ?_;simp[a];have cy:∀ h',Z0 HC h' (R++F)->h'.a (h.p,80)=some [.d (.str m)]/\h'.a p9=some [.d (.str T.y),c1,c2]/\h'.a ad=some [.d (.str O.y),d1,d2]/\h'.a (t.p,176)=some [C.d (D.int i64 T.pk.length)]/\h'.a A=some B:=λh' W=>by
  refine⟨?_,?_,?_,?_,?_⟩;rw[W.2 _ (by simp<;>omega) (aw _ I),kC _ (by simp<;>omega)];exact cl;rw[W.2 _ X (aw _ X),kC _ X];exact cw;rw[W.2 _ X (aw _ X),kC _ X];exact dj;rw[W.2 _ (by simp<;>omega) (aw _ (by simp<;>omega)),kC _ (by simp<;>omega)];exact b4;rw[W.2 A (s6.lt A (by simp[Q.tm])) λt=>?_];exact d3
  have:=bc A Q.tm
  rcases Y3.1 t with t | t;exact this.2.1 (ah A t);exact this.2.2 t
 refine Z6.count (N:=(S2.b.length:Int)) (s0:=S2) (λk P y g=>Ek e y [(105,.i (S2.b.length:Int)),(106,.i (k:Int))] [0,1,5,7,9,10,11]/\P.b.length=S2.b.length/\P.q=S.q/\Sc g l P (.mrow A 0 S.q.length E) ae oc L R F/\Z0 HC g (R++F)) (sU w) ⟨by simp[a],rfl,fd,s7,e7⟩ ?_ ?_;rintro k P e g ⟨hF,bd,ay,s8,ao⟩ hlt8 w;have a:=hF.an a;simp only[LZ] at w;have ⟨f,hf,w⟩:=w.qQ;have am:k < S2.b.length:=X
 have ag:k < P.b.length:=X;have cj:=s8.len.2.1.2;simp only[UR] at cj;have hw:IntKind.i64.wrap ((k:Int)+1)=(k:Int)+1:=Y6 _ X;have au:=s8.a;obtain⟨lf,cf,Bf,rfl,ax,ex⟩:=s8.fkH hf;obtain⟨cd,_,c1f,el,-,-,w0,-⟩:=s8.fkK ax hf;have rf:=el.rd0 1 X;simp at rf;have ⟨cq,cm,d4,dn,ee⟩:=cy g ao;simp[a,am];refine Z6.cu aJ (λy G=>Ek e y [(9,.p p9),(10,.p ad),(11,.p (t.p,176)),(105,.i (S2.b.length:Int)),(106,.i (k:Int)),(16,.i (k:Int)),(118,.b (Z9 f.u m))] [0,1,5,7]/\G=g) ?_ ?_;simp[a,ag,au,cq,ax,rf];exact Ze.of ⟨by simp[a],rfl⟩;rintro e G ⟨hF,rfl⟩;have a:=hF.an a;simp[a];cases hbt:Z9 f.u m with|false=>?_|true=>?_;simp only[hbt,cond_false] at w;simp[a,hw];exact Zj.of P ⟨⟨by simp[a],bd,ay,s8,ao⟩,w⟩;simp only[hbt,cond_true] at w;simp;refine Z6.cu aJ (λy ar=>Ek e y [(9,.p p9),(10,.p ad),(11,.p (t.p,176)),(105,.i (S2.b.length:Int)),(106,.i (k:Int))] [0,1,5,7]/\Sc ar l { P with b:=P.b.set k ⟨T.y,f.j,f.ref⟩ } (.mrow A 0 S.q.length E) (.mrow lf 0 P.b.length cf) oc L R F/\Z0 HC ar (R++F)) ?_ ?_;simp[a,ag,au,cm,ax];exact⟨X,Ze.of ⟨by simp[a],w0 T.y,ao.xV (.inl (by simp[cd]))⟩⟩;rintro e ar ⟨hF,s9,a8⟩;have a:=hF.an a;simp[a,hw];exact Zj.of ({ P with b:=P.b.set k ⟨T.y,f.j,f.ref⟩ }:Sch) ⟨⟨by simp[a],sU bd,ay,s9,a8⟩,w⟩;rintro k P e g ⟨hF,_,ay,s8,ao⟩ hge w;have a:=hF.an a;have bk:¬ k < S2.b.length:=X
 have au:=s8.a;simp[a,bk,au];refine V6 s8.len.2.2.1 ?_;simp[a];refine Z6.count (N:=(P.cons.length:Int)) (s0:=P) (λk V y g=>Ek e y [(133,.i (P.cons.length:Int)),(134,.i (k:Int))] [0,1,5,7,9,10,11]/\V.cons.length=P.cons.length/\V.q=S.q/\Sc g l V (.mrow A 0 S.q.length E) ae oc L R F/\Z0 HC g (R++F)) (sU w) ⟨by simp[a],rfl,ay,s8,ao⟩ ?_ ?_;rintro k V e g ⟨hF,bd,ay,s8,ao⟩ hlt8 w;have a:=hF.an a;simp only[LY] at w;have ⟨f,hf,w⟩:=w.qQ;have am:k < P.cons.length:=X
 have ag:k < V.cons.length:=X;have cj:=s8.len.2.2.2;simp only[UR] at cj;have hw:IntKind.i64.wrap ((k:Int)+1)=(k:Int)+1:=Y6 _ X;have au:=s8.a;obtain⟨lf,cf,Bf,rfl,ax,ex⟩:=s8.wH hf;obtain⟨cd,_,el,w0,-,-⟩:=s8.jR ax hf;have rf:=el.rd0 1 X;simp at rf;have ⟨cq,cm,d4,dn,ee⟩:=cy g ao;simp[a,am];refine Z6.cu aJ (λy G=>Ek e y [(9,.p p9),(10,.p ad),(11,.p (t.p,176)),(133,.i (P.cons.length:Int)),(134,.i (k:Int)),(17,.i (k:Int)),(146,.b (Z9 f.u m))] [0,1,5,7]/\G=g) ?_ ?_;simp[a,ag,au,cq,ax,rf];exact Ze.of ⟨by simp[a],rfl⟩;rintro e G ⟨hF,rfl⟩;have a:=hF.an a;simp[a];cases hbt:Z9 f.u m with|false=>?_|true=>?_;simp only[hbt,cond_false] at w;simp[a,hw];exact Zj.of V ⟨⟨by simp[a],bd,ay,s8,ao⟩,w⟩;simp only[hbt,cond_true] at w;simp;refine Z6.cu aJ (λy ar=>Ek e y [(9,.p p9),(10,.p ad),(11,.p (t.p,176)),(133,.i (P.cons.length:Int)),(134,.i (k:Int))] [0,1,5,7]/\Sc ar l { V with cons:=V.cons.set k { f with u:=T.y } } (.mrow A 0 S.q.length E) ae (.mrow lf 0 V.cons.length cf) L R F/\Z0 HC ar (R++F)) ?_ ?_;simp[a,ag,au,cm,ax];exact⟨X,Ze.of ⟨by simp[a],w0 T.y,ao.xV (.inl (by simp[cd]))⟩⟩;rintro e ar ⟨hF,s9,a8⟩;have a:=hF.an a;simp[a,hw];exact Zj.of ({ V with cons:=V.cons.set k { f with u:=T.y } }:Sch) ⟨⟨by simp[a],sU bd,ay,s9,a8⟩,w⟩;rintro k V e g ⟨hF,_,aq,s9,a8⟩ hge w;have a:=hF.an a;have bk:¬ k < P.cons.length:=X
 simp only[KR] at w;have ⟨⟨dk,b8,hc0,ec⟩,w⟩:=w.chk;obtain⟨rfl,rfl⟩:=ZU w;simp[a,bk];have ⟨_,_,di,d7,c8⟩:=cy g a8;have ⟨t9,u9⟩:=dv s9 aq c8;have dg:i < V.q.length:=by rw[aq];exact hlt
 have en:j < V.q.length:=by rw[aq];exact b6
 have a7:=s9.a;have fh:S.q.length=V.q.length:=by rw[aq]
 obtain⟨lo,cpo,Bo,e6,-,-⟩:=u9.e1 0 _ (Y1 b8);have mo:=u9.m1 (by intro h0;simp[h0] at b8);subst e6;have d6:O.j.length<=cpo:=by rcases mo.2.2 with ⟨t,_⟩ | ⟨l',cap',sp,t,M,h4⟩;simp at t;simp[t] at b8;simp at t;obtain⟨rfl,rfl⟩:=t;rw[V2 mo.1] at h4;simp at h4;omega
 have fu:T.j.length+O.j.length<=2097152:=ec;have dq:=t9.el.rd 1 1 X;simp at dq;refine Z6.cut (Y.qB [0,1,2,4,5,6,7,8,9,10,11,12,13,14,15,16] (.two 3 17 (Y.qB [17,18,19,20] .done) (Y.qB [3,18,19,20] .done))) follows kR (λy G=>Ek e y [] [0,7]/\∃ ta',Sc G l { V with q:=V.q.set i { T with j:=T.j++O.j.drop T.pk.length } } (.mrow A 0 S.q.length E) ae oc ta' R F/\Z0 g G L/\∀ k ∈ ta',k ∈ L\/g.p<=k.1) ?_ ?_
 .simp[a,a7,dg,fh,c8,dq,di,d7];refine V3 ⟨dk,d6⟩ (λ_=>?_) (λfy=>?_)
  .have ch:=mo.tail T.pk.length dk;simp[a,a7];refine⟨?_,?_⟩
   all_goals
    refine Wl (by simp;exact⟨rfl,rfl⟩) I I I (t9.m1 (by intro h0;simp[h0] at hc0)) ch (by simp<;>omega) (λc' G cg ac ap=>?_);have bf:G.a A=some B:=by
     rwa [ac.2 A (s9.lt A (by simp[Q.tm])) λt=>(t9.l1 A t).2 rfl]
    have bb:G.a l=some [.mrow A 0 S.q.length E,ae,oc]:=s9.keep ac λk o=>.inl (t9.l1 k o).1;have ⟨ta',ak,ck⟩:=t9.s1 G c' (T.j++O.j.drop T.pk.length) (by simpa[Xy] using cg) ac (λk o=>(ap k o).imp_right λt=>⟨λM=>by have:=s9.lt k M;omega,t.2⟩);have d5:=t9.el.le;simp[a,hlt,bf,bb];refine⟨X,Ze.of ⟨by simp[a],ta',ak,(ac.mono λk o=>(t9.l1 k o).1).xV (.inl t9.tm),λk o=>?_⟩⟩;rcases ck k o with t | t;exact .inl t;rcases ap k t with M | M;exact .inl (t9.l1 k M).1;exact .inr M.1
  have cx:O.j.drop T.pk.length=[]:=YR X;have ch:Zr g 3 .z ((O.j.map λc=>c.z.map C.d).drop T.pk.length):=by rw[<- Xy,cx];exact (MR.z).rd
  simp[a,a7];refine⟨?_,?_⟩
  all_goals
   refine Wl (by simp;exact⟨rfl,rfl⟩) I I I (t9.m1 (by intro h0;simp[h0] at hc0)) ch (by simp<;>omega) (λc' G cg ac ap=>?_);have bf:G.a A=some B:=by
    rwa [ac.2 A (s9.lt A (by simp[Q.tm])) λt=>(t9.l1 A t).2 rfl]
   have bb:G.a l=some [.mrow A 0 S.q.length E,ae,oc]:=s9.keep ac λk o=>.inl (t9.l1 k o).1;have ⟨ta',ak,ck⟩:=t9.s1 G c' (T.j++O.j.drop T.pk.length) (by simpa[Xy] using cg) ac (λk o=>(ap k o).imp_right λt=>⟨λM=>by have:=s9.lt k M;omega,t.2⟩);have d5:=t9.el.le;simp[a,hlt,bf,bb];refine⟨X,Ze.of ⟨by simp[a],ta',ak,(ac.mono λk o=>(t9.l1 k o).1).xV (.inl t9.tm),λk o=>?_⟩⟩;rcases ck k o with t | t;exact .inl t;rcases ap k t with M | M;exact .inl (t9.l1 k M).1;exact .inr M.1
 rintro e G ⟨hF,ta',ak,ac,b5⟩;have a:=hF.an a;have dc:(V.q.set i { T with j:=T.j++O.j.drop T.pk.length })[j]? = some O:=by rw[Ys c7,aq];exact hj
 have ⟨xs,a1,a2,lx,lr,capr,Br,e1,e2,_,_,_,_,_,e8⟩:=ak.xA (T:=O) dc;have dy:=ak.a;have fb:=ak.len.1.2;simp only[UR,Xf] at fb e2;have hw:IntKind.i64.wrap ((j:Int)+1)=((j+1:Nat):Int):=Y6 _ X;simp[a,dy,hw];refine Zc (Ni _ _ xs j (j+1) e1 X X _ (λc' g2 hm2 dt bh _ hlab=>?_));have bi:Z0 G g2 (Z (.mrow A 0 S.q.length E)):=⟨by rw[bh];exact Y7 _,λk _ o=>dt k o⟩;have bf:g2.a l=some [.mrow A 0 S.q.length E,ae,oc]:=ak.keep bi λk o=>.inl (ak.qI.1 k o);obtain⟨f3,eg,dz,-⟩:=e8 g2 c' hm2 bi hlab;simp[a,bf];have ba:Z0 h g (l::(L++(fa++F))):=(cc.trans (bq.mn)).trans (a8.mono λk o=>by simp only[Y5,Y3] at o |-;exact .inr (.inr (o.imp_left (ah k))));have fq:=ba.1;refine o _ _ eg.ows ((((ba.trans (ac.mono λk o=>by simp[o])).trans' bi λk o=>?_)).xV (.inl I)) λk o=>?_;exact (b5 k (ak.qI.1 k o)).imp (λh=>by simp[h]) λh=>X
 simp only[Y3] at o;rcases o with o | o;exact (b5 k (dz k o)).imp (λh=>by simp[h]) λh=>X
 exact .inl (ks k (by simp only[Y3];exact .inr o))
def MB(S:Sch):Prop:=(S.q.length<=Zz/\S.b.length<=Zz/\S.cons.length<=Zz)/\(∀T∈S.q,T.j.length<=Zz/\T.pk.length<=Zz)/\∀f∈S.b,f.j.length<=Zz
instance(S:Sch):Decidable (MB S):=inferInstanceAs (Decidable (_/\_/\_))
def MA(x:Stp):Prop:=x.j.length<=Zz/\x.v.j.length<=Zz/\x.v.pk.length<=Zz/\x.fk.j.length<=Zz
instance(x:Stp):Decidable (MA x):=inferInstanceAs (Decidable (_/\_))
def Zdw(h:HS)(S:Sch)(K:V->HS->Prop):Prop:=∀tc b oc qt qf qo a,Part a WI tc qt (S.q.map E.z)->Part a VB b qf (S.b.map Fk.z)->Part a BS oc qo (S.cons.map Cons.z)->(Z4 tc qt++(Z4 b qf++Z4 oc qo)).Nodup->
 (∀k∈Z4 tc qt++(Z4 b qf++Z4 oc qo),h.p<=k.1/\k.1<a.p)->Z0 h a []->K (.agg [tc,b,oc]) a
def Z0z(h x)(hl:MA x)(K)(d:Sn h CO x.z K):
  Z5 prog 116 [.agg (x.z.map C.d)] h K:=by
 refine Z5.jE func116 rfl kR λhg=>?_;refine Z5.qM func116 rfl kR rfl rfl I ?_;have⟨l1,l2,l3,l4⟩:=hl;simp;refine Zc (Eo _ _ _ (Zr.data I (sU l1)) _ (λm G m6 P R S=>?_));have N:Z0 h (((h.xV (h.p,16) (x.z.map C.d)).w.xV (h.p+1,32) [C.d (D.int i64 0),C.d (D.str empty),C.d (D.str empty),C.d (D.str empty),C.d (D.str empty),C.d (D.int i64 0),C.nil,C.d (D.str empty),C.d (D.int i64 0),C.d (D.int i64 0),C.d (D.str empty),C.d (D.str empty),C.nil,C.nil,C.d (D.str empty),C.d (D.int i64 0),C.d (D.str empty),C.d (D.int i64 0),C.d (D.int i64 0),C.d (D.int i64 0),C.d (D.str empty),C.d (D.str empty),C.nil,C.d (D.str empty)]).w) []:=(((Z0.refl.xV (.inr (Y7 _))).w.xV (.inr I)).w);have al:=P.1;have b1:=S (h.p,16) _ (by simp;rfl);have b2:=S (h.p+1,32) _ (by simp;rfl);simp only[Stp.z,Yb,Yf] at N;have ay:=N.trans P;simp at R al;simp[b1];refine Zc (K4 _ (x.v.z.map C.d) x.v (λh' _=>ZI.qK) ⟨l2,l3⟩ _ (λcs z bd L t bc p M=>?_));obtain⟨e,i,rfl⟩:∃e i,cs=[C.d (D.str x.v.y),e,i]:=by
  have w:=L.len.1
  match cs,w,L with
  |[a,b,c],_,hO=>obtain rfl:=hO.frz.1.flat rfl;exact⟨b,c,rfl⟩
 have aq:=p.1;have bb:=M (h.p,16) _ (by simp;rfl);have E:=M (h.p+1,32) _ (sU b2);have az:=(ay.xV (.inr I)).trans p;simp at aq;simp[bb];refine Zc (Eo _ _ _ (Zr.data I (sU l4)) _ (λj o J q Q T=>?_));have y:=q.1;have V:=T (h.p,16) _ (by simp;rfl);have Y:=T (h.p+1,32) _ (sU E);have W:=(az.xV (.inr I)).trans q;simp at Q y;simp[V,Y,ZS,ZK,ZX];have O:=(W.xV (l:=(h.p,16)) (cs:=Zh x m e i j) (.inr I)).xV (l:=(h.p+1,32)) (cs:=Zh x m e i j) (.inr I);have A:∀k:Z2,h.p+2<=k.1->((o.xV (h.p,16) (Zh x m e i j)).xV (h.p+1,32) (Zh x m e i j)).a k=o.a k:=λk d=>by
  have v:k≠(h.p,16):=λg=>by
   have w:k.1=h.p:=by rw[g]
   omega
  have h2:k≠(h.p+1,32):=λg=>by
   have w:k.1=h.p+1:=by rw[g]
   omega
  simp[v,h2]
 have H:∀k:Z2,h.p+2<=k.1->k.1<z.p->o.a k=z.a k:=λk d B=>by
  have v:k≠(h.p,16):=λg=>by
   have w:k.1=h.p:=by rw[g]
   omega
  rw[q.2 k (sU B) I];simp[v]
 have k1:∀k:Z2,h.p+2<=k.1->k.1<G.p->z.a k=G.a k:=λk d B=>by
  have v:k≠(h.p,16):=λg=>by
   have w:k.1=h.p:=by rw[g]
   omega
  rw[p.2 k (sU B) I];simp[v]
 have F:∀k∈Z m,h.p+2<=k.1/\k.1<G.p:=λk d=>by have:=R k.1 k.2 d;omega
 have n:=λk d=>by have:=bc k d;simp at this;omega
 have s:∀k∈Z j,z.p<=k.1/\k.1<o.p:=λk d=>by have:=Q k.1 k.2 d;omega
 have⟨_,U,oa⟩:=L.qS (c:=.nil) rfl;simp at U;subst U;obtain⟨d1,_,la,_,u,rfl,aw,ob⟩:=oa.split;simp at u;obtain⟨rfl,rfl⟩:=u;obtain⟨d2,_,lb,_,u,rfl,ax,od⟩:=ob.split;simp at u;obtain⟨rfl,rfl⟩:=u;obtain⟨_,_,rfl⟩:=od.qV;simp only[Ym] at n t;have o6:=Ow.rL (m6.frame λk d=>by have:=F k d;rw[A k X,H k X X,k1 k X X]) rfl I;have ba:=Ow.rL (J.frame λk d=>by have:=s k d;rw[A k X]) rfl I;have ah:=aw.frame (h':=((o.xV (h.p,16) (Zh x m e i j)).xV (h.p+1,32) (Zh x m e i j))) λk d=>by have:=n k (by simp[d]);rw[A k X,H k X X]
 have ao:=ax.frame (h':=((o.xV (h.p,16) (Zh x m e i j)).xV (h.p+1,32) (Zh x m e i j))) λk d=>by have:=n k (by simp[d]);rw[A k X,H k X X]
 refine d (Zh x m e i j) _ _ (Ow.xF o6 ah ao ba) ?_ (λk d=>?_) O (O.jA hg);simp only[Yk,Y3] at t|-;refine⟨Vx,⟨t.1,⟨t.2.1,Vx,λa r b f g=>?_⟩,λa r b f g=>?_⟩,λa r b f g=>?_⟩;have t1:=n a (by simp[r]);have t2:=s b f;rw[<-g] at t2;omega
 subst g;rcases f with f|f;exact t.2.2 a r a f rfl
 have:=n a (by simp[r]);have:=s a f;omega
 subst g;have h6:=F a r;rcases f with f|f|f
 have:=n a (by simp[f]);omega
 have:=n a (by simp[f]);omega
 have:=s a f;omega
 simp only[Y3] at d
 have:k.1<o.p/\h.p<=k.1:=by
  rcases d with d|d|d|d
  have:=F k d;omega
  have:=n k (by simp[d]);omega
  have:=n k (by simp[d]);omega
  have:=s k d;omega
 simp;omega
def Sc.start{g p b a}(l:g.a p=some [.nil,.nil,b])(n:MR g 7 b (a.map λc=>c.z.map C.d))(m:p.1<g.p)(j:∀k∈Z b,k≠p/\k.1<g.p):Sc g p ⟨[],[],a⟩ .nil .nil b [] [] (Z b):=by
 have e:(a.map λc=>((c.z.map C.d,c.z,[]):Q)).flatMap (·.2.2)=[]:=by rw[XT];intro q f;obtain⟨c,_,rfl⟩:=Yi.1 f;rfl
 have i:Z4 b (a.map λc=>((c.z.map C.d,c.z,[]):Q))=Z b:=by rw[Z4,e,Ym]
 refine⟨[],[],a.map λc=>(c.z.map C.d,c.z,[]),rfl,rfl,i.symm,l,⟨MR.nil,rfl,I⟩,⟨MR.nil,rfl,I⟩,⟨by simpa[BS,Function.comp_def] using n,by simp[Function.comp_def],λq f=>?_⟩,?_,?_⟩;obtain⟨c,_,rfl⟩:=Yi.1 f;exact Ow.qK (ds:=c.z);rw[i];simp only[Z4,Z,XS,Yv,Ym,XF];exact⟨λh=>(j p h).1 rfl,Vx⟩;rw[i];intro k d;simp only[Z4,Z,XS,Yv,Ym,Y5] at d;rcases d with rfl|d;exact m;exact(j k d).2
def MZ(h:HS)(a:Z2)(S:Sch)(c:Sch)(d:aD)(e:Env)(g:HS):Prop:=∃tc fc oc ta fa b,e.n=46/\e.get 1=.p (h.p,16)/\e.get 2=.p (h.p+1,32)/\e.get 3=.p a/\g.a (h.p,16)=some d/\g.a (h.p+1,32)=some [.nil,.nil,.nil]/\
 Sc g a c tc fc oc ta fa b/\(∀k∈ta++(fa++b),h.p+2<=k.1)/\h.p+2<=a.1/\Z0 h g []
set_option maxHeartbeats 1000000 in
def Z1s(h S)(hS:MB S)(K)(f:Zdw h S K):
  Z5 prog 47 [.agg (S.z.map C.d)] h K:=by
 have⟨⟨l1,l2,l3⟩,l4,l5⟩:=hS;have cx:=l1;have cy:=l2;refine Z5.qM func47 rfl kR rfl rfl I ?_;simp;refine Zc (T8 _ _ _ (Zr.data I (sU l3)) _ (λJ g1 mo b0 cm b5=>?_));have bz:Z0 h (((h.xV (h.p,16) (S.z.map C.d)).w.xV (h.p+1,32) [.nil,.nil,.nil]).w) []:=(((Z0.refl.xV (.inr (Y7 _))).w.xV (.inr I)).w);have W:=b5 (h.p,16) _ (by simp;rfl);have Y:=b5 (h.p+1,32) _ (by simp;rfl);have b3:=b0.1;simp only[Sch.z,Yb,Yf] at bz;have b8:=bz.trans b0;simp at b3;have b9:=Zv (l:=(h.p,16)) (n:=g1.p) (by simp<;>omega);simp(maxDischargeDepth:=12) [W,b9];have bj:Z0 g1 ((g1.xV (g1.p,48) [.nil,.nil,.nil]).w.xV (g1.p,48) [.nil,.nil,J]) []:=((Z0.refl.xV (.inr (Y7 _))).w).xV (.inr (Y7 _));obtain⟨M,bh⟩:∃p:Z2,p=(g1.p,48):=⟨_,rfl⟩;have a8:∀(α:Type) (xs:List α) (i:Nat),Zd (ρ:=Unit) (λ_ (_:α) (s:Unit) next=>next s) (λ_=>some ()) xs i ()=some ():=λα xs=>by
  induction xs with
  |nil=>intro i;rfl
  |cons _ _ ih=>intro i;exact ih (i+1)
 intro _;have cb:=b8.trans bj;have ay:=λk f=>by have:=cm k f;simp at this;omega
 refine Z6.for (xs:=S.q) (λk _ e g=>MZ h M S ⟨S.q.take k,[],S.cons⟩ (S.z.map C.d) e g/\e.get 13=.l (S.q.map E.z)/\e.get 14=.i S.q.length/\e.get 15=.i k) (a8 _ _ _) ⟨⟨.nil,.nil,J,[],[],Z J,I,I,I,by simp[bh],?_,?_,?_,?_,by rw[bh];simp<;>omega,cb⟩,I,I,I⟩ ?_ ?_;rw[bj.2 _ (by simp<;>omega) I];simpa using W;rw[bj.2 _ (by simp<;>omega) I];exact Y;rw[bh];refine Sc.start I ?_ I λk f=>⟨λA=>by have:=(ay k f).2;rw[A] at this;simp at this,by have:=(ay k f).2;simp<;>omega⟩;rw[Af];exact mo.frame λk f=>bj.2 k (ay k f).2 I;simp only[Yv];exact λk f=>(ay k f).1;rintro k _ e g ⟨⟨R,Q,J,ta,fa,oa,u,ao,T,L,W,Y,o,y,z,hs⟩,az,ar,au⟩ hlt hm;have hw:IntKind.i64.wrap ((k:Int)+1)=(k:Int)+1:=Y6 _ X;have hT:=l4 _ (Yh hlt);have cp:h.p+2<g.p:=by have:=o.lt M I;omega
 have G:Z0 g ((g.xV (g.p,80) [C.d (D.str empty),C.nil,C.nil]).w.xV (g.p,80) (S.q[k].z.map C.d)) []:=((Z0.refl.xV (.inr (Y7 _))).w).xV (.inr (Y7 _));simp only[E.z,Yb,Yf] at G;simp[u,az,ar,au,hlt];generalize hX:(g.xV (g.p,80) [C.d (D.str empty),C.nil,C.nil]).w.xV (g.p,80) _=GZ at G|-;have bw:GZ.a (g.p,80)=some (S.q[k].z.map C.d):=by rw[<-hX];simp
 have bu:=(o.frame G).a;simp only[E.z,Yb,Yf] at bw;have cc:=hs.1;have ch:=G.1;refine Z6.cu aN (λe N=>MZ h M S ⟨S.q.take (k+1),[],S.cons⟩ (S.z.map C.d) e N/\e.get 13=.l (S.q.map E.z)/\e.get 14=.i S.q.length/\e.get 15=.i k) ?_ ?_;simp[u,L,bw,bu];refine Zc (K4 _ (S.q[k].z.map C.d) S.q[k] (λh' _=>ZI.qK) hT _ (λcs g2 b7 o2 cd bf t hb2=>?_));have U:=λk f=>by have:=bf k f;omega
 obtain⟨c0,c1,c2,rfl⟩:∃a b c,cs=[a,b,c]:=by
  have j:=o2.len.1
  match cs,j with
  |[a,b,c],_=>exact⟨a,b,c,rfl⟩
 simp[u];refine⟨hb2,?_⟩;have b4:=t.1;refine DF (x:=[c0,c1,c2]) (by simp[ZB];cases c0.toD<;>cases c1.toD<;>cases c2.toD<;>rfl) I (λd a1=>?_) (λa1=>?_);obtain⟨rfl,bq⟩:=o2.ofD a1;have v:Z0 g2 ((g2.qC (g2.p,16*23) (some (1,3))).w) []:=Z0.refl.qC.w;simp only[Nat.reduceMul] at v;have P:=o.frame ((G.trans t).trans v);have⟨ys,my,aw,O⟩:=P.wG;simp[u];refine Wl (by simp;exact⟨rfl,rfl⟩) I I I my (Zr.qU I) (by rw[aw];simp at hlt|-;omega) (λc' N aq w V=>?_);have bc:=w.1;have a7:=v.1;have ap:=P.keep w λk f=>.inl (P.qI.1 k f);have m:=o.qI.1;have⟨a',s6,ax⟩:=O N c' _ _ [] aq w V (bq N) Y3j (λk f=>by
  have j:=U k ((λk (f:k∈[])=>by simp at f) k f);refine⟨X,λF=>by have:=o.lt k F;omega,λF=>?_⟩;rcases V k F with h7|h7
  have:=o.lt k (by simp[m k h7]);omega
  omega) S.q[k] rfl
 have ft:∀k:Z2,k.1<g.p->k.1<h.p+2->N.a k=g.a k:=λk f bp=>by
  rw[w.2 k X λj=>by have:=y k (by simp[m k j]);omega];exact((G.trans t).trans v).2 k f I
 have am:((h.p,16):Z2)≠M:=λA=>by rw[<-A] at z;have j:=z;omega
 have al:((h.p+1,32):Z2)≠M:=λA=>by rw[<-A] at z;have j:=z;omega
 simp[u,L,ap];refine Ze.of ⟨⟨c',Q,J,a',fa,oa,by simp[u],by simp[ao],by simp[T],by simp[L],?_,?_,by simpa[Y3d hlt] using s6,λk f=>?_,z,((hs.trans ((G.trans t).trans v)).trans' w λk f=>.inr (by have:=y k (by simp[m k f]);omega)).xV (.inr X)⟩,by simp[az],by simp[ar],by simp[au]⟩;simpa[am,ft (h.p,16) (by simp<;>omega) I] using W;simpa[al,ft (h.p+1,32) (by simp<;>omega) I] using Y;simp only[Y3] at f;rcases f with f|f;rcases ax k f with j|j|j;exact y k (by simp[j])
 have:=U k ((λk (f:k∈[])=>by simp at f) k j);omega
 omega;exact y k (by simp only[Y3];exact .inr f)
 skip
 have v:Z0 g2 ((g2.xV (g2.p,16*23) [c0,c1,c2]).w) []:=(Z0.refl.xV (.inr (Y7 _))).w;simp only[Nat.reduceMul] at v;have P:=o.frame ((G.trans t).trans v);have⟨ys,my,aw,O⟩:=P.wG;simp[u];refine Wl (by simp;exact⟨rfl,rfl⟩) I I I my (Zr.jY (x:=[c0,c1,c2]) I I) (by rw[aw];simp at hlt|-;omega) (λc' N aq w V=>?_);have bc:=w.1;have a7:=v.1;have ap:=P.keep w λk f=>.inl (P.qI.1 k f);have m:=o.qI.1;have⟨a',s6,ax⟩:=O N c' _ _ b7 aq w V (o2.frame λk f=>by have j:=U k f;rw[w.2 k X λF=>by have:=o.lt k (by simp[o.qI.1 k F]);omega];exact v.2 k j.2 I) cd (λk f=>by
  have j:=U k ((λ_ h=>h) k f);refine⟨X,λF=>by have:=o.lt k F;omega,λF=>?_⟩;rcases V k F with h7|h7
  have:=o.lt k (by simp[m k h7]);omega
  omega) S.q[k] rfl
 have ft:∀k:Z2,k.1<g.p->k.1<h.p+2->N.a k=g.a k:=λk f bp=>by
  rw[w.2 k X λj=>by have:=y k (by simp[m k j]);omega];exact((G.trans t).trans v).2 k f I
 have am:((h.p,16):Z2)≠M:=λA=>by rw[<-A] at z;have j:h.p+2<=h.p:=z;omega
 have al:((h.p+1,32):Z2)≠M:=λA=>by rw[<-A] at z;have j:h.p+2<=h.p+1:=z;omega
 simp[u,L,ap];refine Ze.of ⟨⟨c',Q,J,a',fa,oa,by simp[u],by simp[ao],by simp[T],by simp[L],?_,?_,by simpa[Y3d hlt] using s6,λk f=>?_,z,((hs.trans ((G.trans t).trans v)).trans' w λk f=>.inr (by have:=y k (by simp[m k f]);omega)).xV (.inr X)⟩,by simp[az],by simp[ar],by simp[au]⟩;simpa[am,ft (h.p,16) (by simp<;>omega) I] using W;simpa[al,ft (h.p+1,32) (by simp<;>omega) I] using Y;simp only[Y3] at f;rcases f with f|f;rcases ax k f with j|j|j;exact y k (by simp[j])
 have:=U k ((λ_ h=>h) k j);omega
 omega;exact y k (by simp only[Y3];exact .inr f);rintro e N ⟨hI,az,ar,au⟩;have u:=hI;obtain⟨_,_,_,_,_,_,u,ao,T,L,-⟩:=u;simp[u,au,hw];obtain⟨ce,cg,cl,ci,ca,ck,-,-,-,-,q⟩:=hI;exact Zj.of () ⟨⟨⟨ce,cg,cl,ci,ca,ck,by simp[u],by simp[ao],by simp[T],by simp[L],q⟩,by simp[az],by simp[ar],I⟩,hm⟩;rintro _ e g ⟨⟨R,Q,J,ta,fa,oa,u,ao,T,L,W,Y,o,y,z,hs⟩,az,ar,au⟩ _;rw[Yl] at o;simp[u,ao,ar,au,W];intro _;refine Z6.for (xs:=S.b) (s0:=()) (k:=λ_=>some ()) (body:=λ_ _ s next=>next s) (r:=()) (λk _ e g=>MZ h M S ⟨S.q,S.b.take k,S.cons⟩ (S.z.map C.d) e g/\e.get 28=.l (S.b.map Fk.z)/\e.get 29=.i (S.b.length:Int)/\e.get 30=.i (k:Int)) (a8 _ _ _) ⟨⟨R,Q,J,ta,fa,oa,by simp[u],by simp[ao],by simp[T],by simp[L],W,Y,sU o,y,z,hs⟩,I,I,I⟩ ?_ ?_;rintro k _ e g ⟨⟨R,Q,J,ta,fa,oa,u,ao,T,L,W,Y,o,y,z,hs⟩,bi,bb,ba⟩ hlt hm;have hw:IntKind.i64.wrap ((k:Int)+1)=(k:Int)+1:=Y6 _ X;have hF:=l5 _ (Yh hlt);have cp:h.p+2<g.p:=by have:=o.lt M I;omega
 simp[u,bi,bb,ba,hlt];refine Zc (Eo _ _ _ (Zr.data (n:=1) (ts:=S.b[k].j.map Zg) I (sU hF)) _ (λB H mp bg bt hb2=>?_));have bd:Z0 g ((g.xV (g.p,112) [C.d (D.str empty),C.nil,C.d (D.str empty)]).w.xV (g.p,112) (S.b[k].z.map C.d)) []:=((Z0.refl.xV (.inr (Y7 _))).w).xV (.inr (Y7 _));have bv:=hb2 (g.p,112) _ (by simp;rfl);simp only[Fk.z,Yb,Yf] at bd;have br:=bg.1;simp at br bt;have G:Z0 g (H.xV (g.p,112) [.d (.str S.b[k].u),B,.d (.str S.b[k].ref)]) []:=(bd.trans bg).xV (.inr (Y7 _));have bk:Ow (H.xV (g.p,112) [.d (.str S.b[k].u),B,.d (.str S.b[k].ref)]) VB [.d (.str S.b[k].u),B,.d (.str S.b[k].ref)] S.b[k].z (Z B):=by
  refine .data rfl ?_
  have:=Ow.rW (es:=[.d]) (n:=1) (ts:=S.b[k].j.map Zg) (mp.frame (h':=H.xV (g.p,112) [.d (.str S.b[k].u),B,.d (.str S.b[k].ref)]) λq hq=>by
   have j:=bt q.1 q.2 hq
   have:q≠(g.p,112):=λA=>by
    have F:q.1=g.p:=by rw[A]
    omega
   simp[this]) rfl I (Ow.data (c:=.d (.str S.b[k].ref)) (x:=.str S.b[k].ref) rfl .nil)
  simpa using this
 have bf:∀q∈Z B,g.p<=q.1/\q.1<H.p:=λq hq=>by have:=bt q.1 q.2 hq;omega
 have cz:(H.xV (g.p,112) [.d (.str S.b[k].u),B,.d (.str S.b[k].ref)]).a (g.p,112)=some [.d (.str S.b[k].u),B,.d (.str S.b[k].ref)]:=I;have cw:(H.xV (g.p,112) [.d (.str S.b[k].u),B,.d (.str S.b[k].ref)]).p=H.p:=I;have bu:(H.xV (g.p,112) [.d (.str S.b[k].u),B,.d (.str S.b[k].ref)]).a M=some [R,Q,J]:=(o.frame G).a
 try simp at bv
 simp[u,bv];have bm:=o.lt M I;have cq:¬M=(g.p,112):=λA=>by rw[A] at bm;simp at bm
 have b6:H.a M=some [R,Q,J]:=(o.frame (bd.trans bg)).a;have t:Z0 (H.xV (g.p,112) [.d (.str S.b[k].u),B,.d (.str S.b[k].ref)]) (H.xV (g.p,112) [.d (.str S.b[k].u),B,.d (.str S.b[k].ref)]) []:=.refl;have U:∀q∈Z B,g.p<=q.1/\q.1<(H.xV (g.p,112) [.d (.str S.b[k].u),B,.d (.str S.b[k].ref)]).p:=λq hq=>by have:=bf q hq;omega
 have cc:=hs.1;have ch:=G.1;have b4:=t.1;simp[u,L,cq,b6];refine DF (x:=[.d (.str S.b[k].u),B,.d (.str S.b[k].ref)]) (by simp[ZB];cases B.toD<;>rfl) I (λd a1=>?_) (λa1=>?_);obtain⟨rfl,bq⟩:=bk.ofD a1;have v:Z0 (H.xV (g.p,112) [.d (.str S.b[k].u),B,.d (.str S.b[k].ref)]) (((H.xV (g.p,112) [.d (.str S.b[k].u),B,.d (.str S.b[k].ref)]).qC (H.p,16*41) (some (1,3))).w) []:=Z0.refl.qC.w;simp only[Nat.reduceMul] at v;have P:=o.frame ((G.trans t).trans v);have⟨ys,my,aw,O⟩:=P.rB;simp[u];refine Wl (by simp;exact⟨rfl,rfl⟩) I I I my (Zr.qU I) (by rw[aw];simp at hlt|-;omega) (λc' N aq w V=>?_);have bc:=w.1;have a7:=v.1;have ap:=P.keep w λk f=>.inr (.inl (P.qI.2.1 k f));have m:∀k∈Z Q,k∈fa:=o.qI.2.1;have⟨a',s6,ax⟩:=O N c' _ _ [] aq w V (bq N) Y3j (λk f=>by
  have j:=U k ((λq (hq:q∈[])=>by simp at hq) k f);refine⟨X,λF=>by have:=o.lt k F;omega,λF=>?_⟩;rcases V k F with h7|h7
  have:=o.lt k (by simp[m k h7]);omega
  omega) S.b[k] rfl
 have ft:∀k:Z2,k.1<g.p->k.1<h.p+2->N.a k=g.a k:=λk f bp=>by
  rw[w.2 k X λj=>by have:=y k (by simp[m k j]);omega];exact((G.trans t).trans v).2 k f I
 have am:((h.p,16):Z2)≠M:=λA=>by rw[<-A] at z;have j:h.p+2<=h.p:=z;omega
 have al:((h.p+1,32):Z2)≠M:=λA=>by rw[<-A] at z;have j:h.p+2<=h.p+1:=z;omega
 simp[u,L,ap,ba,hw];refine Zj.of () ⟨⟨⟨R,c',J,ta,a',oa,by simp[u],by simp[ao],by simp[T],by simp[L],?_,?_,by simpa[Y3d hlt] using s6,λk f=>?_,z,((hs.trans ((G.trans t).trans v)).trans' w λk f=>.inr (by have:=y k (by simp[m k f]);omega)).xV (.inr X)⟩,by simp[bi],by simp[bb],I⟩,hm⟩;simpa[am,ft (h.p,16) (by simp<;>omega) I] using W;simpa[al,ft (h.p+1,32) (by simp<;>omega) I] using Y;simp only[Y3] at f;rcases f with f|f|f;exact y k (by simp[f]);rcases ax k f with j|j|j;exact y k (by simp[j])
 have:=U k ((λq (hq:q∈[])=>by simp at hq) k j);omega
 omega;exact y k (by simp[f])
 skip
 have v:Z0 (H.xV (g.p,112) [.d (.str S.b[k].u),B,.d (.str S.b[k].ref)]) (((H.xV (g.p,112) [.d (.str S.b[k].u),B,.d (.str S.b[k].ref)]).xV (H.p,16*41) [.d (.str S.b[k].u),B,.d (.str S.b[k].ref)]).w) []:=(Z0.refl.xV (.inr (Y7 _))).w;simp only[Nat.reduceMul] at v;have P:=o.frame ((G.trans t).trans v);have⟨ys,my,aw,O⟩:=P.rB;simp[u];refine Wl (by simp;exact⟨rfl,rfl⟩) I I I my (Zr.jY (x:=[.d (.str S.b[k].u),B,.d (.str S.b[k].ref)]) I I) (by rw[aw];simp at hlt|-;omega) (λc' N aq w V=>?_);have bc:=w.1;have a7:=v.1;have ap:=P.keep w λk f=>.inr (.inl (P.qI.2.1 k f));have m:∀k∈Z Q,k∈fa:=o.qI.2.1;have⟨a',s6,ax⟩:=O N c' _ _ (Z B) aq w V (bk.frame λk f=>by have j:=U k f;rw[w.2 k X λF=>by have:=o.lt k (by simp[o.qI.2.1 k F]);omega];exact v.2 k j.2 I) Vx (λk f=>by
  have j:=U k ((λ_ h=>h) k f);refine⟨X,λF=>by have:=o.lt k F;omega,λF=>?_⟩;rcases V k F with h7|h7
  have:=o.lt k (by simp[m k h7]);omega
  omega) S.b[k] rfl
 have ft:∀k:Z2,k.1<g.p->k.1<h.p+2->N.a k=g.a k:=λk f bp=>by
  rw[w.2 k X λj=>by have:=y k (by simp[m k j]);omega];exact((G.trans t).trans v).2 k f I
 have am:((h.p,16):Z2)≠M:=λA=>by rw[<-A] at z;have j:h.p+2<=h.p:=z;omega
 have al:((h.p+1,32):Z2)≠M:=λA=>by rw[<-A] at z;have j:h.p+2<=h.p+1:=z;omega
 simp[u,L,ap,ba,hw];refine Zj.of () ⟨⟨⟨R,c',J,ta,a',oa,by simp[u],by simp[ao],by simp[T],by simp[L],?_,?_,by simpa[Y3d hlt] using s6,λk f=>?_,z,((hs.trans ((G.trans t).trans v)).trans' w λk f=>.inr (by have:=y k (by simp[m k f]);omega)).xV (.inr X)⟩,by simp[bi],by simp[bb],I⟩,hm⟩;simpa[am,ft (h.p,16) (by simp<;>omega) I] using W;simpa[al,ft (h.p+1,32) (by simp<;>omega) I] using Y;simp only[Y3] at f;rcases f with f|f|f;exact y k (by simp[f]);rcases ax k f with j|j|j;exact y k (by simp[j])
 have:=U k ((λ_ h=>h) k j);omega
 omega;exact y k (by simp[f]);rintro _ e g ⟨⟨R,Q,J,ta,fa,oa,u,_,T,L,_,Y,o,y,z,hs⟩,bi,bb,ba⟩ _;rw[Yl] at o;have cn:=o.a;simp[u,T,L,bb,ba,cn,Y,ZS,ZK,ZX];obtain⟨qt,qf,qo,rfl,rfl,rfl,sc⟩:=o;have cj:Z0 h (g.xV (h.p+1,32) [R,Q,J]) []:=hs.xV (.inr I);have kb:∀k∈Z4 R qt++(Z4 Q qf++Z4 J qo),(g.xV (h.p+1,32) [R,Q,J]).a k=g.a k:=λk f=>by
  have j:=y k f
  have:k≠(h.p+1,32):=λA=>by rw[A] at j;simp at j
  simp[this]
 simp only[Y3] at kb;have bn:=sc.nd;rw[XF] at bn;refine f R Q J qt qf qo _ (sc.t.frame λk f=>kb k (.inl f)) (sc.f.frame λk f=>kb k (.inr (.inl f))) (sc.o.frame λk f=>kb k (.inr (.inr f))) bn.2 (λk f=>⟨by have:=y k f;omega,by have:=sc.lt k (Yc _ f);simpa using this⟩) cj
end
end Go.Am
