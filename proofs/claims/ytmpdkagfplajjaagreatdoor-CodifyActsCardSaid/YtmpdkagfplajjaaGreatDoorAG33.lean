/- The texts CbX3, CbX4, CbX5, CbX6. -/
import Derived.Test.YtmpdkagfplajjaaGreatDoorAG32
import Derived.Test.YtmpdkagfplajjaaGreatDoorAG22
set_option linter.all false
set_option maxRecDepth 100000
namespace Go.Abs
open Go.Proofs TryTypes Tryz
abbrev B1X:A0p:=.cells 49 [I 0,eS,I 0,I 0,I 0,eS,A0Z]
abbrev A8G(number day:Int)(iv:AV):A0p:=.cells 49 [I number,S B0Z,I day,I 1,I day,eS,iv]
def A2R:A0Q prog 49 []=some A5o:=by simp[A0Q,A1G,A5o]
def B7h{d}:A0Q prog 46 [(0,I 1),(1,I d)]=some (.agg [I 1,I d,eS]):=by simp[A0Q,A1G,A2e,A0d,AV.cells,AV.storable]
def B7d{n d}:A0Q prog 49 [(0,I n),(1,S ⟨#[99,111,100,105,102,105,99,97,116,105,111,110]⟩),(2,I d),(3,.agg [I 1,I d,eS])]=some (.agg [I n,S B0Z,I d,I 1,I d,eS,A0Z]):=by simp[A0Q,A1G,A2e,A0d,AV.cells,AV.storable,B0Z]
def B7S{p}:A0Q prog 128 [(0,I 1),(1,A5G p)]=some (.agg (A1Y.rep p).row):=by simp[A0Q,A1G,A2e,A0d,AV.cells,AV.storable,A1Y.row]
def B9a{x}:A0Q prog 128 [(0,I 0),(3,I 1),(5,.agg x.row)]=some (.agg (A1Y.ins x).row):=by rw[x.row_eq];simp[A0Q,A1G,A2e,A0d,AV.cells,AV.storable,A1Y.row]
def B6o{a b c}:A0Q prog 23 [(0,I a),(1,I b),(2,I c)]=some (.agg [I a,I b,I c]):=by simp[A0Q,A1G,A2e,A0d,AV.cells,AV.storable]
def D4z:A7H prog 23=some (.agg [I 0,I 0,I 0]):=by kernel_rfl
def C3b(n:Nat)(x:A1Y):A2l n x.row:=by
 cases x with
 |rep p=>have:=A8w n p;simp[A1Y.row,A2l,bdd]at this|-;exact this
 |ins u=>have:=A8s n u;rw[u.row_eq]at this;simp[A1Y.row,A2l,bdd]at this|-;exact this
def B8i{x y}:A0Q prog 79 [(0,.agg [I x.act,I x.item,I x.n]),(1,.agg [I y.act,I y.item,I y.n])]=some (.agg (A3y (x,y))):=by simp[A0Q,A1G,A2e,A0d,AV.cells,AV.storable,A3y]
def A5h(number:Int)(s:List A2k)(u:A0b)(io:Own)(r p q:Nat)(T:Env):Prop:=T 2=.list 5 (A2p s) .no/\T 5=.cptr [I u.id.act,I u.id.item,I u.id.n,I u.kind,S u.label,.list 4 (A0g u.head) .no,.list 4 (A0g u.words) .no,.list 8 (A0O u.kids) .no]/\T 8=.cptr [I number]/\T 10=.ptr r 0/\T 13=.ptr p 0/\T 15=.list 3 (A4L (A0X u).tail) io/\T 16=.ptr q 0
def A4U(number day:Int)(q:Nat)(Mc M:Mem)(items:List A1Y):Prop:=A0I q Mc M/\∃iv,M[q]?=some (A8G number day iv)/\Fm 25 A1Y.row (q+1) M iv items
def A4U.app{number day}{q}{Mc M}{items}(h:A4U number day q Mc M items)(hq:q<Mc.length)(X:Mem):A4U number day q Mc (M++X) items:=by obtain⟨h1,iv,h2,h3⟩:=h;have hk:Grow M (M++X):=A0c.app none M X;exact⟨h1.trans (hk.low (n:=q) (by have:=h1.1;omega) (by simp)),iv,hk.get h2 (by simp),h3.keep hk⟩
def A4U.push{number day}{q}{Mc M M'}{iv v'}{items items'}(hk:A0I q Mc M)(ho:M[q]?=some (A8G number day iv))(hf:Fm 25 A1Y.row (q+1) M iv items)
 (k1:A6r 25 A1Y.row M' v' items')(k2:A0c (A4N iv) M M')(k3:A4N v'=A4N iv\/∀f,A4N v'=some f->M.length<=f):
 A0l (some 1) M' (.ptr q 6) v'=some (M'.set q (A8G number day v'))/\A4U number day q Mc (M'.set q (A8G number day v')) items':=by
 have hl:q+1<=M.length:=(Z0c.1 ho).1
 have a:=hf.cells k2 ho
 have c:=hf.push hl k1 k3
 have b:q<M'.length:=(Z0c.1 a).1
 refine⟨by rw[A0f a,k1.cells,Z0d ⟨k1.store,by simp,rfl⟩];rfl,(hk.trans ((hf.low hl k2).le (by omega))).setq (Z0u _),v',by simp[b],c.setq (by omega)⟩
def C1X{K V:Type}{d:K->AV}{a:V->AV}{α:Type}{sz n}{enc:α->List AV}{M M'}{v}{items}{b}{L}(h:A1T d a M b L)(hf:Fm sz enc n M v items)(hk:A0c (A4N v) M M'):A1T d a M' b L:=by
 refine h.keep hk λe=>?_;obtain⟨es,c,h1,_⟩:=h;rcases hf.fam with⟨rfl,_⟩|rfl|⟨f,rfl,hm⟩
 .simp at e
 .simp at e
 .simp only[C5i,Z0a]at e;subst e;rw[hm]at h1;simp at h1
section
variable (gl:Nat->AV)
def C7k(u:A0b)(M:Mem)(hg:u.good)(hc:A0x u<=1000):A0e (WC gl) 67 [.agg u.row] M (λv M'=>v=.list 3 (A4L (A0X u)) .no/\M'=M):=A0e.still (enc:=IdD.row) (λ_=>rfl) B7G (D1L gl u M hg hc)
set_option maxHeartbeats 1000000 in
def D6j(d2:gl 0=A4A)(d1:gl 1=A4S)(u:A0b)(l:List A0L)(s:List A2k)(g a7:Int)(M:Mem)(ag:Fit u)(hl:l.length<=1000)(ci:∀s∈l,s.good)(hs:s.length<=1000)(ht:∀m∈s,m.to.length<=40):A0e (WC gl) 20 [.agg u.row,.list 5 (A1A l) .no,.list 5 (A2p s) .no,I g,I a7] M (λv M'=>v=C6a u l s g a7/\M'=M):=by
 refine A0e.dataX ?_
 obtain⟨F,hF⟩:∃F,F=λx=>A1O x u:=⟨_,rfl⟩
 obtain⟨A,hA⟩:∃A,A=C6a u l s g a7:=⟨_,rfl⟩
 rw[<-hA]
 obtain⟨r,hr⟩:∃r,r=M.length:=⟨_,rfl⟩
 have el:∀e,bdd r (A2W e):=λe=>by simp[A2W,A5o,bdd,A2l]
 obtain⟨Ma,c4⟩:∃Ma,Ma=M++[B1X]:=⟨_,rfl⟩
 have cm:Grow M Ma:=by rw[c4];exact A0c.app none _ _
 have bz:Ma[r]?=some B1X:=by rw[c4,hr];simp
 have ap:=D2D gl d2 d1 F u hF l Ma ag hl ci
 obtain⟨R,hR⟩:∃R,R=A9A F u l:=⟨_,rfl⟩
 rw[<-hR]at ap
 have br:=u.row_eq
 rw[br]at ap|-
 have ac:A=if R≠0 then A2W R else if B5z g a7=true then A2W 1
  else if((A0X u).tail.any λx=>decide (x.act=g))=true then A2W 5
  else if B9Z u (A2N F l s)≠0 then A2W (B9Z u (A2N F l s))
  else .tuple [C2V g a7 (A1Z u++A3p (A2N F l s)),.list 6 ((B5w g u (A2N F l s)).map A3y) .no,I 0]:=by rw[hA,hR,hF];rfl
 have ad:∀(M5:Mem) e,Grow Ma M5->A=A2W e->r<M5.length/\(Grow M (M5.set r B1X)/\Still (M5.set r B1X) r (bdd r) [A2W e] [A]):=λM5 e h he=>by have h1:=h.get bz (by simp);refine⟨(Z0c.1 h1).1,⟨by simpa using(cm.trans h).1,λj hj _=>by rw[Z0g (by omega)];exact(cm.trans h).2 j hj (by simp)⟩,?_⟩;rw[he];exact .same (el e) .nil
 have ah:∀M5:Mem,Grow Ma M5->A0l (some 7) M5 (.ptr r 0) A5o=some (M5.set r B1X):=λM5 h=>by rw[A0f (h.get bz (by simp))];simp[A5o,AV.storable,AV.cells,A0d]
 refine A0k hB func20 ?_
 simp -dsimp -implicitDefEqProofs[A0o]
 rw[<-c4,<-hr]
 clear c4
 refine A0j func47 ap ?_
 rintro _ M1 ⟨⟨pr,rfl,d6,ee⟩,ce⟩
 obtain⟨M2,au⟩:∃M2,M2=M1++[A0p.cells 96 pr]:=⟨_,rfl⟩
 have ab:Grow Ma M2:=by rw[au];exact ce.trans (A0c.app none _ _)
 obtain⟨p,hp⟩:∃p,p=M1.length:=⟨_,rfl⟩
 have dq:M2[p]?=some (.cells 96 pr):=by rw[au,hp];simp
 obtain⟨y0,y1,y2,y3,rfl⟩:∃a b c d,pr=[a,b,c,d]:=by
  match pr,d6 with
  |[a,b,c,d],_=>exact⟨a,b,c,d,rfl⟩
 by_cases hR0:R=0
 case neg=>rw[Z0d hR0]at ac;simp -dsimp -implicitDefEqProofs[A0o,A0l,A0d,AV.storable,AV.cells];rw[<-au];obtain⟨q1,q2⟩:=ad M2 R ab ac;simp -dsimp -implicitDefEqProofs[hR0,A2R,ah M2 ab,A0C,q1];exact q2
 rw[Z0e (by simpa using hR0)]at ac
 subst hR0
 by_cases a1:g<1
 .have af:A=A2W 1:=by rw[ac,Z0d (by simp[B5z,a1])]
  have bc:¬1<=g:=by omega
  obtain⟨q1,q2⟩:=ad M2 1 ab af;simp -dsimp -implicitDefEqProofs[A0o,A0l,A0d,AV.storable,AV.cells];rw[<-au];simp -dsimp -implicitDefEqProofs[a1,bc,A2R,ah M2 ab,A0C,q1];exact q2
 have bc:1<=g:=by omega
 by_cases a2:1048576<g
 .have af:A=A2W 1:=by rw[ac,Z0d (by simp[B5z,a2])]
  have bp:g>1048576:=a2;obtain⟨q1,q2⟩:=ad M2 1 ab af;simp -dsimp -implicitDefEqProofs[A0o,A0l,A0d,AV.storable,AV.cells];rw[<-au];simp -dsimp -implicitDefEqProofs[a1,bc,a2,bp,A2R,ah M2 ab,A0C,q1];exact q2
 have bp:¬g>1048576:=a2
 by_cases a3:a7<0
 .have af:A=A2W 1:=by rw[ac,Z0d (by simp[B5z,a3])]
  have bw:¬0<=a7:=by omega
  obtain⟨q1,q2⟩:=ad M2 1 ab af;simp -dsimp -implicitDefEqProofs[A0o,A0l,A0d,AV.storable,AV.cells];rw[<-au];simp -dsimp -implicitDefEqProofs[a1,bc,a2,bp,a3,bw,A2R,ah M2 ab,A0C,q1];exact q2
 have bw:0<=a7:=by omega
 by_cases a4:1048576<a7
 .have af:A=A2W 1:=by rw[ac,Z0d (by simp[B5z,a4])]
  have cf:a7>1048576:=a4;obtain⟨q1,q2⟩:=ad M2 1 ab af;simp -dsimp -implicitDefEqProofs[A0o,A0l,A0d,AV.storable,AV.cells];rw[<-au];simp -dsimp -implicitDefEqProofs[a1,bc,a2,bp,a3,bw,a4,cf,A2R,ah M2 ab,A0C,q1];exact q2
 have cf:¬a7>1048576:=a4
 have cc:=C7k gl u M2 ag.1 ag.2.2
 have bq:(A0X u).tail.length<=1000:=by have:=A4D u;have:=ag.2.2;simp;omega
 rw[Z0e (by simp[B5z];omega)]at ac
 have d5:=C0V gl (A0X u).tail .no g M2 bq
 rw[br]at cc
 simp -dsimp -implicitDefEqProofs[A0o,A0l,A0d,AV.storable,AV.cells]
 rw[<-au,<-hp]
 simp -dsimp -implicitDefEqProofs[a1,bc,a2,bp,a3,bw,a4,cf]
 refine A0i func67 cc ?_
 have e6:(1:Int)<=(A0X u).length:=by have:=A4D u;have:=A3R u;omega
 have ei:(A4L (A0X u)).tail=A4L (A0X u).tail:=by simp[A4L,List.map_tail]
 simp -dsimp -implicitDefEqProofs[e6]
 rw[ei]
 generalize B1D _ _ _ _ _=io
 refine A0i func68 (C0V gl (A0X u).tail io g M2 bq) ?_
 cases hany:(A0X u).tail.any λx=>decide (x.act=g)
 case true=>
  have af:A=A2W 5:=by rw[ac,Z0d hany]
  obtain⟨q1,q2⟩:=ad M2 5 ab af;simp -dsimp -implicitDefEqProofs[A2R,ah M2 ab,A0C,q1];exact q2
 rw[Z0e (by rw[hany];simp)]at ac
 obtain⟨q,hq⟩:∃q,q=M2.length:=⟨_,rfl⟩
 obtain⟨Mc,cx⟩:∃Mc,Mc=M2++[A8G g a7 A0Z]:=⟨_,rfl⟩
 have cj:Mc[q]?=some (A8G g a7 A0Z):=by rw[cx,hq];simp
 have ds:Grow M2 Mc:=by rw[cx];exact A0c.app none _ _
 have c0:q<Mc.length:=(Z0c.1 cj).1
 have ca:A4U g a7 q Mc Mc []:=⟨A0I.refl _ _,A0Z,cj,.nil⟩
 have eq:=A2t u.kids
 have ew:=A4J u
 have du:=ag.2.2
 simp -dsimp -implicitDefEqProofs[B7h,B7d,A0o,A0l,A0d,AV.storable,AV.cells]
 rw[<-cx,<-hq]
 refine A7i (.exit 0) (λT M5=>A5h g s u io r p q T/\T 14=I 0/\A4U g a7 q Mc M5 (A1Z u)) ?_ ?_
 .refine A0s hB u.kids.length 74 (λT M5=>∃i:Nat,i<=u.kids.length/\A5h g s u io r p q T/\T 14=I 0/\T 72=.list 8 (A0O u.kids) .no/\T 73=I u.kids.length/\T 74=I i/\A4U g a7 q Mc M5 ((A1Z u).take i)) ?_ ?_
  .exact⟨0,by omega,by simp[A5h],by simp,by simp,by simp,by simp,by simpa using ca⟩
  rintro T M5 ⟨i,i1,⟨t2,t5,t8,w,a5,z,y⟩,a0,t72,bv,bu,hm⟩;by_cases hi:i<u.kids.length;case neg=>
   (have al:¬(i:Int)<u.kids.length:=by omega);rw[Z0l (by simp[A1Z];omega)]at hm
   simp -dsimp -implicitDefEqProofs[t2,t5,t8,w,a5,z,y,a0,t72,bv,bu,al,A5h];exact hm
  have al:(i:Int)<u.kids.length:=by omega
  have w1:=A1i (i:=i) (by omega);obtain⟨X,hX⟩:∃X,X=u.kids[i]:=⟨_,rfl⟩;have e9:u.kids[i].row=[I X.id.act,I X.id.item,I X.id.n,I X.kind,S X.label,.list 4 (A0g X.head) .no,.list 4 (A0g X.words) .no,.list 8 (A0O X.kids) .no]:=by rw[<-hX];exact X.row_eq
  have be:=λM=>D4E gl u X.id M ag.1 ag.2.2;rw[br]at be;obtain⟨M6,az⟩:∃M6,M6=M5++[A0p.cells 27 [I X.id.act,I X.id.item,I X.id.n,I X.kind,S X.label,.list 4 (A0g X.head) .no,.list 4 (A0g X.words) .no,.list 8 (A0O X.kids) .no]]:=⟨_,rfl⟩;have e8:M6[M5.length]?=some (A0p.cells 27 [I X.id.act,I X.id.item,I X.id.n,I X.kind,S X.label,.list 4 (A0g X.head) .no,.list 4 (A0g X.words) .no,.list 8 (A0O X.kids) .no]):=by rw[az];simp
  obtain⟨de,iv,cg,ck⟩:=hm.app c0 [A0p.cells 27 [I X.id.act,I X.id.item,I X.id.n,I X.kind,S X.label,.list 4 (A0g X.head) .no,.list 4 (A0g X.words) .no,.list 8 (A0O X.kids) .no]];rw[<-az]at de cg ck;have aw:(A1Z u).take (i+1)=(A1Z u).take i++[.rep ((A8y u X.id).getD [])]:=by rw[Z0A (by simpa[A1Z]using hi)];simp[A1Z,hX]
  simp -dsimp -implicitDefEqProofs[t2,t5,t8,w,a5,z,y,a0,t72,bv,bu,hi,al,e9,A0o,A0l,A0d,AV.storable,AV.cells];rw[<-az];simp -dsimp -implicitDefEqProofs[t2,t5,t8,w,a5,z,y,a0,t72,bv,bu,A0a e8];refine A0i func70 (be M6) ?_;simp -dsimp -implicitDefEqProofs[t2,t5,t8,w,a5,z,y,a0,t72,bv,bu,A0a cg,B7S,A0h,A0J,AV.storable,AV.cells];refine A7Q (C:=WC gl) (enc:=A1Y.row) (e:=128) (sz:=25) (news:=[.rep ((A8y u X.id).getD [])]) (o:=.full) C2N C8s C2d ck.fam (by simp[A1Z];omega) rfl rfl ?_;intro v' M7 k1 k2 k3;obtain⟨bt,cv⟩:=A4U.push de cg ck k1 k2 k3;simp -dsimp -implicitDefEqProofs[t2,t5,t8,w,a5,z,y,a0,t72,bv,bu,bt,w1,A5h];refine⟨⟨i+1,by clear w1;omega,rfl,?_⟩,by clear w1;omega⟩;rw[aw];exact cv
 clear ca cj d5
 rintro T M5 ⟨⟨t2,t5,t8,w,a5,z,y⟩,a0,cu⟩
 obtain⟨L,a,b,c,he,e7,hP⟩:=ee rfl
 simp only[Z1g,Z2e]at he
 obtain⟨rfl,rfl,rfl,rfl⟩:=he
 have hS:B6b u l:=B9i ag (hF▸hR.symm)
 obtain⟨ts,bs⟩:∃ts,ts=A2N F l s:=⟨_,rfl⟩
 obtain⟨K,hK⟩:∃K,K=B6M l:=⟨_,rfl⟩
 have cd:ts=K.map (A1N F l s l.length):=by rw[bs,hK];rfl
 rw[<-bs]at ac
 have c5:∀M6,A0I q Mc M6->Grow M1 M6:=λM6 h=>by
  have h1:Grow M1 M2:=by rw[au];exact A0c.app none _ _
  exact h.grow (h1.trans ds) (by have:=h1.1;omega)
 have cz:∀M6,A0I q Mc M6->M6[p]?=some (.cells 96 [.list 5 (A1A l) .no,.mapr a,.mapr b,.mapr c]):=λM6 h=>by have d6:p<M2.length:=(Z0c.1 dq).1;rw[h.2 p (by omega)];exact ds.get dq (by simp)
 obtain⟨KL,dg,dr⟩:=hP.kd
 have b6:=dr (-1)
 rw[show A2a l (-1) l.length=K from hK.symm]at b6
 have dc:∀M6,A0I q Mc M6->A1K prog 94 M6 (.mapr c) (I (-1)) false=some (A8J KL (-1)):=λM6 h=>by rw[(dg.keep (c5 M6 h) (by simp)).get (B9g 94 130 (by kernel_rfl)) (-1:Int) B4B false];unfold A8J;cases A1B KL (-1:Int)<;>rfl
 obtain⟨ay,di⟩:∃ay,ay=A8J KL (-1):=⟨_,rfl⟩
 rw[<-di]at dc b6
 have er:K.length<=l.length:=by rw[hK];exact A6H _ _ _
 have dh:∀M6,A0I q Mc M6->A1H prog 130 ay=some K.length:=λM6 h=>b6.len (e':=3) (by simp)
 obtain⟨m,dd⟩:∃m,m=M5.length:=⟨_,rfl⟩
 obtain⟨M6,az⟩:∃M6,M6=M5++[A0p.map [] 0]:=⟨_,rfl⟩
 have b2:=cu.app c0 [.map [] 0]
 have b3:A1T A2O A2O M6 m ([]:List (IdD×IdD)):=by rw[dd,az];exact A1T.new M5
 have ex:q<m:=by have:=cu.1.1;omega
 rw[<-az]at b2
 have d9:=C1h (s:=s) hS
 rw[<-hF,<-bs]at d9
 have dx:∀n (h:n<l.length),∃x,F l[n].id=some x/\x.good/\x.words.length<=300/\x.head.length<=300:=by rw[hF];exact hS.fd
 have dl:=B6i (s:=s) hS hl
 rw[<-hF,<-bs]at dl
 have ep:ts.length=K.length:=by rw[cd,Z0L]
 have ch:∀n,(A3Z g ((ts.take n).map (·.2.1)) u.kids.length).map (·.1)=(ts.take n).flatMap (·.2.1):=λn=>by rw[B3B,Z3w];rfl
 simp -dsimp -implicitDefEqProofs[t2,t5,t8,w,a5,z,y,a0]
 rw[<-az,<-dd]
 simp -dsimp -implicitDefEqProofs[t2,t5,t8,w,a5,z,y,a0,A0a (cz M6 b2.1),dc M6 b2.1,dh M6 b2.1]
 refine A7i (.exit 2) (λT M7=>A5h g s u io r p q T/\T 14=I (A4k ts 0)/\T 21=.mapr m/\A4U g a7 q Mc M7 (A1Z u++A3p ts)/\A1T A2O A2O M7 m (B1c g u ts)) ?_ ?_
 .refine A0s hB K.length 98 (λT M7=>∃j:Nat,j<=K.length/\A5h g s u io r p q T/\T 14=I (A4k (ts.take j) 0)/\T 21=.mapr m/\T 96=ay/\T 97=I K.length/\T 98=I j/\A4U g a7 q Mc M7 (A1Z u++A3p (ts.take j))/\A1T A2O A2O M7 m (A3Z g ((ts.take j).map (·.2.1)) u.kids.length)) ?_ ?_
  .exact⟨0,by omega,by simp[A5h,t2,t5,t8,w,a5,z,y],by simp[a0,A4k],by simp,by simp,by simp,by simp,by simpa[A3p]using b2,by simpa[A3Z]using b3⟩
  clear t2 t5 t8 w a5 z y a0 b2 b3;rintro T M7 ⟨j,j1,⟨t2,t5,t8,w,a5,z,y⟩,a0,a6,aa,a9,a8,hm,an⟩;have d8:=a8;by_cases hj:j<K.length;case neg=>
   (have cs:¬(j:Int)<K.length:=by omega);rw[Z0l (by omega)]at hm an a0
   simp -dsimp -implicitDefEqProofs[t2,t5,t8,w,a5,z,y,a0,a6,aa,a9,a8,cs,A5h];exact⟨hm,an⟩
  have cs:(j:Int)<K.length:=by omega
  have w1:=A1i (i:=j) (by omega);have eh:=b6.keep (c5 M7 hm.1) (by simp);obtain⟨pt,ea,ej⟩:=eh.at1 (P:=prog) (t:=3) (f:=λk:Nat=>I k) (λ_=>rfl) D9a sz3 hj;have dm:K[j]∈A2a l (-1) l.length:=by have e3:K=A2a l (-1) l.length:=hK;rw[<-e3];exact Z0v hj
  have cb:K[j]<l.length:=B2b dm;obtain⟨t,c3⟩:∃t,t=A1N F l s l.length K[j]:=⟨_,rfl⟩;have dp:ts[j]'(by omega)=t:=by rw[c3];simp[cd]
  have aq:=D4C gl F s l L e7 a b c hl ci hs ht hS.ord dx l.length K[j] M7 cb (by omega) (hP.keep (c5 M7 hm.1));rw[<-c3]at aq;have cy:Fit t.1:=by rw[c3,hF];exact B5v hS hl ci ht cb (by omega)
  have e0:A5p t.1:=by rw[c3];exact B9z F l s _ _
  have ct:t∈ts:=by rw[<-dp];exact Z0v _
  have eo:=dl t ct;have aw:ts.take (j+1)=ts.take j++[t]:=by rw[Z0A (by omega),dp]
  obtain⟨M8,bj⟩:∃M8,M8=M7++[A0p.cells 27 t.1.row]:=⟨_,rfl⟩;have bk:M8[M7.length]?=some (A0p.cells 27 t.1.row):=by rw[bj];simp
  have bx:=hm.app c0 [A0p.cells 27 t.1.row];have b8:=an.keep (A0c.app none M7 [A0p.cells 27 t.1.row]) (by simp);rw[<-bj]at bx b8;obtain⟨xt,d4⟩:∃xt,xt=M7.length:=⟨_,rfl⟩;rw[<-d4]at bk;have et:q<xt:=by have:=hm.1.1;omega
  have eu:m≠xt:=by have:=an.lt;omega
  simp -dsimp -implicitDefEqProofs[t2,t5,t8,w,a5,z,y,a0,a6,aa,a9,a8,cs,ea,ej,A0a (cz M7 hm.1)];refine A0i func71 aq ?_;simp -dsimp -implicitDefEqProofs[t2,t5,t8,w,a5,z,y,a0,a6,aa,a9,a8,B5P,A0o,A0l,A0d,AV.storable,AV.cells];rw[<-bj,<-d4];simp -dsimp -implicitDefEqProofs[t2,t5,t8,w,a5,z,y,a0,a6,aa,a9,a8,A0a bk];refine A0j func72 (C8M gl d2 d1 t.1 M8 cy e0) ?_;rintro _ M8 ⟨⟨tx,rfl⟩,rfl⟩;simp -dsimp -implicitDefEqProofs[-A4b];refine A8h (λT M9=>M9=M8/\A5h g s u io r p q T/\T 14=I (A4k (ts.take j) 0)/\T 21=.mapr m/\T 24=.ptr xt 0/\T 25=.list 3 (A4L t.2.1) .no/\T 26=I (C0b t)/\T 96=ay/\T 97=I K.length/\T 98=I j) ?_ ?_
  .by_cases hfe:B5e t.1=0
   .simp -dsimp -implicitDefEqProofs[t2,t5,t8,w,a5,z,y,a0,a6,aa,a9,a8,hfe,C0b,A5h]
   .simp -dsimp -implicitDefEqProofs[t2,t5,t8,w,a5,z,y,a0,a6,aa,a9,a8,hfe,C0b,A5h]
  clear t2 t5 t8 w a5 z y a0 a6 aa a9 a8;rintro T _ ⟨rfl,⟨t2,t5,t8,w,a5,z,y⟩,a0,a6,ai,c6,c1,aa,a9,a8⟩;simp -dsimp -implicitDefEqProofs[t2,t5,t8,w,a5,z,y,a0,a6,ai,c6,c1,aa,a9,a8];refine A0i func73 (C4q gl _ _ _) ?_;have dj:A4r (A4k (ts.take j) 0) (C0b t)=A4k (ts.take (j+1)) 0:=by rw[aw,A4k,A4k,Z2n];rfl
  rw[dj];simp -dsimp -implicitDefEqProofs[t2,t5,t8,w,a5,z,y,a0,a6,ai,c6,c1,aa,a9,a8];refine A7i (.exit 4) (λT M9=>A5h g s u io r p q T/\T 14=I (A4k (ts.take (j+1)) 0)/\T 21=.mapr m/\T 24=.ptr xt 0/\T 96=ay/\T 97=I K.length/\T 98=I j/\M9[xt]?=some (A0p.cells 27 t.1.row)/\A4U g a7 q Mc M9 (A1Z u++A3p (ts.take j))/\A1T A2O A2O M9 m (A3Z g ((ts.take (j+1)).map (·.2.1)) u.kids.length)) ?_ ?_
  .refine A0s hB t.2.1.length 122 (λT M9=>∃i:Nat,i<=t.2.1.length/\A5h g s u io r p q T/\T 14=I (A4k (ts.take (j+1)) 0)/\T 21=.mapr m/\T 24=.ptr xt 0/\T 96=ay/\T 97=I K.length/\T 98=I j/\T 120=.list 3 (A4L t.2.1) .no/\T 121=I t.2.1.length/\T 122=I i/\M9[xt]?=some (A0p.cells 27 t.1.row)/\A4U g a7 q Mc M9 (A1Z u++A3p (ts.take j))/\A1T A2O A2O M9 m (A3Z g ((ts.take j).map (·.2.1)) u.kids.length++(t.2.1.zipIdx.take i).map λx=>(x.1,(⟨g,(u.kids.length+j:Nat),(x.2:Int)+1⟩:IdD)))) ?_ ?_
   .exact⟨0,by omega,by simp[A5h,t2,t5,t8,w,a5,z,y],by simp,by simp[a6],by simp[ai],by simp[aa],by simp[a9],by simp[a8],by simp,by simp,by simp,bk,bx,by simpa using b8⟩
   clear t2 t5 t8 w a5 z y a0 a6 ai c6 c1 aa a9 a8 hm an bx b8 bk bj aq;rintro T M9 ⟨i,i1,⟨t2,t5,t8,w,a5,z,y⟩,a0,a6,ai,aa,a9,a8,bo,bl,bd,av,db,aj⟩;(have dy:A3Z g ((ts.take (j+1)).map (·.2.1)) u.kids.length=A3Z g ((ts.take j).map (·.2.1)) u.kids.length++t.2.1.zipIdx.map λx=>(x.1,(⟨g,(u.kids.length+j:Nat),(x.2:Int)+1⟩:IdD)):=by rw[aw,Z0Q,B5i];simp[A3Z,Z0I,Z2g (show j<=ts.length by omega)]);by_cases hi:i<t.2.1.length;case neg=>
    (have al:¬(i:Int)<t.2.1.length:=by omega);have co:t.2.1.zipIdx.take i=t.2.1.zipIdx:=Z0l (by simp;omega)
    rw[co,<-dy]at aj;simp -dsimp -implicitDefEqProofs[t2,t5,t8,w,a5,z,y,a0,a6,ai,aa,a9,a8,bo,bl,bd,al,A5h];refine⟨av,db,?_⟩;rw[<-Z1l];exact aj
   (have al:(i:Int)<t.2.1.length:=by omega);have w2:=A1i (i:=i) (by omega)
   obtain⟨x,hx⟩:∃x,x=t.2.1[i]:=⟨_,rfl⟩;(have cp:t.2.1[i].row=[I x.act,I x.item,I x.n]:=by rw[<-hx];rfl);obtain⟨am,b9⟩:∃am,am=M9++[A0p.cells 23 [I x.act,I x.item,I x.n]]:=⟨_,rfl⟩;(have c8:Grow M9 am:=by rw[b9];exact A0c.app none _ _);(have bi:am[M9.length]?=some (A0p.cells 23 [I x.act,I x.item,I x.n]):=by rw[b9];simp);obtain⟨b4,iv,b0,ae⟩:=db.app c0 [A0p.cells 23 [I x.act,I x.item,I x.n]];have ak:=aj.keep c8 (by simp);rw[<-b9]at b4 b0 ae;have cw:=c8.get av (by simp);(have bf:A1H prog 47 iv=some (u.kids.length+j):=by rw[ae.fam.len (e':=128) (by simp)];simp[A1Z,A3p,Z0I,Z2g (show j<=ts.length by omega)]);obtain⟨kj,e4⟩:∃kj,kj=u.kids.length+j:=⟨_,rfl⟩;rw[<-e4]at bf ak;have dw:x∉(A3Z g ((ts.take j).map (·.2.1)) u.kids.length++(t.2.1.zipIdx.take i).map λx=>(x.1,(⟨g,(kj:Nat),(x.2:Int)+1⟩:IdD))).map (·.1):=by
    (have h1:(ts.take (j+1)).flatMap (·.2.1)=(ts.take j).flatMap (·.2.1)++t.2.1:=by rw[aw,Z1y];simp);have h2:((ts.take (j+1)).flatMap (·.2.1)).Nodup:=by have h:=d9.1;rw[<-Z1o (j+1) ts,Z1y]at h;exact(Z2U.1 h).1
    rw[h1]at h2;(have h3:(t.2.1.zipIdx.take i).map (λx=>x.1)=t.2.1.take i:=by rw[Z1l];congr 1;exact C1K _ 0);rw[Z0Q,ch,Z1L];rw[show((λx:IdD×IdD=>x.1)∘λx:IdD×Nat=>(x.1,(⟨g,(kj:Nat),(x.2:Int)+1⟩:IdD)))=λx=>x.1 from rfl,h3];intro em;(have h4:(ts.take j).flatMap (·.2.1)++t.2.1=((ts.take j).flatMap (·.2.1)++t.2.1.take i)++x::t.2.1.drop (i+1):=by rw[hx,Z0O,<-Z0h hi,Z1o]);rw[h4]at h2;exact(Z2U.1 h2).2.2 x em x (by simp) rfl
   obtain⟨da,q1,q2,q3⟩:=ak.put (A9L 129 23 (by kernel_rfl)) x (⟨g,(kj:Nat),(i:Int)+1⟩:IdD);rw[B8D dw]at q2;have en:A1E prog 129 am (.mapr m) (.agg [I x.act,I x.item,I x.n]) (.agg [I g,I kj,I ((i:Int)+1)])=some da:=q1;(have co:t.2.1.zipIdx.take (i+1)=t.2.1.zipIdx.take i++[(x,i)]:=by rw[Z0A (by simpa using hi),hx];simp);have ey:q<am.length:=(Z0c.1 b0).1;have dk:A4U g a7 q Mc da (A1Z u++A3p (ts.take j)):=⟨b4.trans (q3.low (n:=q) (by omega) (λf hf=>by simp at hf;omega)),iv,q3.get b0 (by simp;omega),ae.fam.keep q3 (λf hf e=>by simp at e;have:=ae.fam;obtain⟨es,cl,h1,_⟩:=ak;rcases ae.fam with⟨rfl,_⟩|rfl|⟨f',rfl,hm⟩<;>simp at hf;subst hf;rw[e,hm]at h1;simp at h1),ae.lat⟩;simp -dsimp -implicitDefEqProofs[t2,t5,t8,w,a5,z,y,a0,a6,ai,aa,a9,a8,bo,bl,bd,hi,al,cp,A0o,A0l,A0d,AV.storable,AV.cells];rw[<-b9];simp -dsimp -implicitDefEqProofs[t2,t5,t8,w,a5,z,y,a0,a6,ai,aa,a9,a8,bo,bl,bd,A0a bi,A0a b0,bf,w2,B6o,en,A5h];(have eg:((kj:Nat):Int)=(u.kids.length:Int)+(j:Int):=by omega);rw[eg]at q2;refine⟨⟨i+1,by clear w2;omega,by simp,q3.get cw (by simp;omega),dk,?_⟩,by clear w2;omega⟩;rw[<-Z1l,<-Z1l,co,Z0Q,<-Z0O];exact q2
  clear t2 t5 t8 w a5 z y a0 a6 ai c6 c1 aa a9 a8 hm an bx b8 bk bj aq;rintro T M9 ⟨⟨t2,t5,t8,w,a5,z,y⟩,a0,a6,ai,aa,a9,a8,av,⟨b4,iv,b0,ae⟩,aj⟩;simp -dsimp -implicitDefEqProofs[t2,t5,t8,w,a5,z,y,a0,a6,ai,aa,a9,a8,A0a b0,A0a av,B9a,A0h,A0J,AV.storable,AV.cells];refine A7Q (C:=WC gl) (enc:=A1Y.row) (e:=128) (sz:=25) (news:=[.ins t.1]) (o:=.full) C2N C8s C2d ae.fam (by simp[A1Z,A3p];omega) rfl rfl ?_;intro v' am k1 k2 k3;obtain⟨bt,bg⟩:=A4U.push b4 b0 ae k1 k2 k3;have ak:=(C1X aj ae k2).keep (A0c.set am q (A8G g a7 v')) (by simp;omega);simp -dsimp -implicitDefEqProofs[t2,t5,t8,w,a5,z,y,a0,a6,ai,aa,a9,a8,d8,bt,w1,A5h];refine⟨⟨j+1,Z2C hj,rfl,by simp,?_,?_⟩,Z2t hj (Z2K j)⟩
  .rw[aw];simpa[A3p]using bg
  .rw[<-Z1l];exact ak
 clear t2 t5 t8 w a5 z y a0 b2 b3 cu
 rintro T M7 ⟨⟨t2,t5,t8,w,a5,z,y⟩,a0,a6,⟨ed,iv,c7,cr⟩,an⟩
 have b1:Grow Ma M7:=ce.trans (c5 M7 ed)
 have ar:A1H prog 47 iv=some (u.kids.length+ts.length):=by rw[cr.fam.len (e':=128) (by simp)];simp[A1Z,A3p]
 obtain⟨kt,df⟩:∃kt,kt=u.kids.length+ts.length:=⟨_,rfl⟩
 rw[<-df]at ar
 have ax:B9Z u ts=if 32<kt then 6 else A4k ts 0:=by rw[B9Z,df]
 by_cases h32:32<kt
 .have ao:(32:Int)<kt:=by omega
  have b5:(kt:Int)>32:=ao;rw[Z0d h32]at ax;have af:A=A2W 6:=by rw[ac,ax];rfl
  obtain⟨q1,q2⟩:=ad M7 6 b1 af;simp -dsimp -implicitDefEqProofs[t2,t5,t8,w,a5,z,y,a0,a6,A0a c7,ar,h32,ao,b5,A2R,ah M7 b1,A0C,q1];exact q2
 have ao:¬(32:Int)<kt:=by omega
 have b5:¬(kt:Int)>32:=ao
 rw[Z0e h32]at ax
 by_cases he0:A4k ts 0=0
 case neg=>
  have af:A=A2W (A4k ts 0):=by rw[ac,ax,Z0d he0]
  obtain⟨q1,q2⟩:=ad M7 _ b1 af;simp -dsimp -implicitDefEqProofs[t2,t5,t8,w,a5,z,y,a0,a6,A0a c7,ar,h32,ao,b5,he0,A2R,ah M7 b1,A0C,q1];exact q2
 rw[Z0e (by rw[ax,he0];simp)]at ac
 have bh:=B7f (s:=s) hS g
 rw[<-hF,<-bs]at bh
 rw[bh]at ac
 simp -dsimp -implicitDefEqProofs[t2,t5,t8,w,a5,z,y,a0,a6,A0a c7,ar,h32,ao,b5,he0]
 obtain⟨W,hW⟩:∃W,W=B1c g u ts:=⟨_,rfl⟩
 rw[<-hW]at an ac
 obtain⟨I1,c2⟩:∃I1,I1=(A0X u).tail:=⟨_,rfl⟩
 rw[<-c2]at ac bq
 rw[<-c2]at z
 obtain⟨n7,ek⟩:∃n7,n7=M7.length:=⟨_,rfl⟩
 have cv:m<n7:=by rw[ek];exact an.lt
 have eb:q<n7:=by omega
 have ec:r<n7:=by have:=(Z0c.1 (b1.get bz (by simp))).1;omega
 refine A0s hB I1.length 155 (λT M8=>∃i:Nat,i<=I1.length/\T 10=.ptr r 0/\T 16=.ptr q 0/\T 21=.mapr m/\T 153=.list 3 (A4L I1) io/\T 154=I I1.length/\T 155=I i/\A0I n7 M7 M8/\Fm 6 A3y n7 M8 (T 31) ((I1.take i).map λx=>(x,(A1B W x).getD idZ))) ?_ ?_
 .refine⟨0,by omega,by simp[w],by simp[y],by simp[a6],by simp[c2],by simp[c2],by simp,A0I.refl _ _,?_⟩;simp -dsimp -implicitDefEqProofs;exact .nil
 clear t2 t5 t8 w a5 z y a0 a6
 rintro T M8 ⟨i,i1,w,y,a6,b7,bb,ba,bn,cq⟩
 generalize c9:T 31=dv at*
 by_cases hi:i<I1.length
 case neg=>
  have al:¬(i:Int)<I1.length:=by omega
  rw[Z0l (by omega)]at cq;have dz:M8[q]?=some (A8G g a7 iv):=(bn.2 q eb).trans c7;have dt:M8[r]?=some B1X:=(bn.2 r ec).trans (b1.get bz (by simp));have d7:Grow M M8:=bn.grow (cm.trans b1) (by omega);have e5:r<M8.length:=(Z0c.1 dt).1;have bt:A0l (some 7) M8 (.ptr r 0) (.agg [I g,S B0Z,I a7,I 1,I a7,eS,iv])=some (M8.set r (A8G g a7 iv)):=by rw[A0f dt];simp[AV.storable,AV.cells,A0d,cr.fam.store]
  simp -dsimp -implicitDefEqProofs[w,y,a6,b7,bb,ba,al,c9,A0a dz,bt,A0C,e5];rw[ac];refine⟨⟨by simpa using d7.1,λj hj _=>by rw[Z0g (by omega)];exact d7.2 j hj (by simp)⟩,?_⟩;exact .tuple (.agg (.same trivial (.same trivial (.same trivial (.same trivial (.same trivial (.same trivial (cr.data (A3C (C3b _) _) .nil))))))) (cq.data (A3C (λx=>by simp[A3y,A2l,bdd]) _) (.same trivial .nil))) .nil
 have al:(i:Int)<I1.length:=by omega
 have w1:=A1i (i:=i) (by omega)
 obtain⟨x,hx⟩:∃x,x=I1[i]:=⟨_,rfl⟩
 have cp:I1[i].row=[I x.act,I x.item,I x.n]:=by rw[<-hx];rfl
 obtain⟨xa,d0⟩:∃xa,xa=M8.length:=⟨_,rfl⟩
 obtain⟨M9,cn⟩:∃M9,M9=M8++[A0p.cells 23 [I x.act,I x.item,I x.n]]:=⟨_,rfl⟩
 have b4:Grow M8 M9:=by rw[cn];exact A0c.app none _ _
 have av:M9[xa]?=some (A0p.cells 23 [I x.act,I x.item,I x.n]):=by rw[cn,d0];simp
 have ae:=cq.keep b4
 have bm:=bn.trans (b4.low (n:=n7) (by have:=bn.1;omega) (by simp))
 have aj:A1T A2O A2O M9 m W:=by obtain⟨es,cl,e1,e2⟩:=an;exact⟨es,cl,(bm.2 m cv).trans e1,e2⟩
 have dn:A1K prog 129 M9 (.mapr m) (.agg [I x.act,I x.item,I x.n]) false=some (.agg [I ((A1B W x).getD idZ).act,I ((A1B W x).getD idZ).item,I ((A1B W x).getD idZ).n]):=by rw[show AV.agg [I x.act,I x.item,I x.n]=A2O x from rfl,aj.get (A9L 129 23 (by kernel_rfl)) x D4z false];cases A1B W x<;>rfl
 have d3:n7<=M9.length:=by have:=bm.1;omega
 have aw:(I1.take (i+1)).map (λx=>(x,(A1B W x).getD idZ))=(I1.take i).map (λx=>(x,(A1B W x).getD idZ))++[(x,(A1B W x).getD idZ)]:=by rw[Z0A hi,Z0Q,hx];rfl
 simp -dsimp -implicitDefEqProofs[w,y,a6,b7,bb,ba,hi,al,cp,A0o,A0l,A0d,AV.storable,AV.cells]
 rw[<-cn,<-d0]
 refine A2E hB (A0w gl) (λk=>if k=1\/k=3\/k=4 then 1 else if k=7 then 2 else 0) (λk=>if k=4 then m else xa) (λ_=>false) [xa,m] (by intro j _ _;by_cases h:j=4<;>simp[h]) (by rfl) (by kernel_rfl) ?_
 simp -dsimp -implicitDefEqProofs[w,y,a6,b7,bb,ba,c9,A0y,A4e,A0a av,dn,B8i,A0h,A0J,AV.storable,AV.cells]
 refine⟨rfl,A7Q (C:=WC gl) (enc:=A3y) (e:=79) (sz:=6) (news:=[(x,(A1B W x).getD idZ)]) (o:=.full) C5R D2f D2s ae.fam (by simp;omega) rfl rfl ?_⟩
 intro v' am k1 k2 k3
 have bi:=ae.cells k2 av
 have bg:am[m]?=M9[m]?:=by refine k2.2 m (by omega) λe=>?_;have:=ae.lat m e;omega
 simp -dsimp -implicitDefEqProofs[w,y,a6,b7,bb,ba,av,bi,bg,w1]
 refine⟨⟨i+1,by clear w1;omega,by simp,bm.trans ((ae.low d3 k2).le (Z0u _)),?_⟩,by clear w1;omega⟩
 rw[<-Z1l,aw]
 exact ae.push d3 k1 k3
end
def A3W(number:Int)(l:List A0L)(s:List A2k)(u:A0b)(r q:Nat)(T:Env):Prop:=T 1=.list 5 (A1A l) .no/\T 2=.list 5 (A2p s) .no/\T 3=I number/\T 5=.cptr [I u.id.act,I u.id.item,I u.id.n,I u.kind,S u.label,.list 4 (A0g u.head) .no,.list 4 (A0g u.words) .no,.list 8 (A0O u.kids) .no]/\T 10=.ptr r 0/\T 14=.list 3 (A4L (A0X u)) .no/\T 16=.ptr q 0
def A9j(number day:Int)(q:Nat)(Mc M:Mem)(items:List A1Y)(dv:AV)(W:List (IdD×IdD)):Prop:=A0I q Mc M/\∃iv,M[q]?=some (A8G number day iv)/\Fm 25 A1Y.row (q+1) M iv items/\Fm 6 A3y (q+1) M dv W/\A7G iv dv
def A9j.app{number day}{q}{Mc M}{items}{dv}{W}(h:A9j number day q Mc M items dv W)(hq:q<Mc.length)(X:Mem):A9j number day q Mc (M++X) items dv W:=by obtain⟨h1,iv,h2,h3,h4,h5⟩:=h;have hk:Grow M (M++X):=A0c.app none M X;exact⟨h1.trans (hk.low (n:=q) (by have:=h1.1;omega) (by simp)),iv,hk.get h2 (by simp),h3.keep hk,h4.keep hk,h5⟩
def A9j.push{number day}{q}{Mc M M'}{iv v' dv}{items items'}{W}(hk:A0I q Mc M)(ho:M[q]?=some (A8G number day iv))(hf:Fm 25 A1Y.row (q+1) M iv items)(hd:Fm 6 A3y (q+1) M dv W)(b:A7G iv dv)
 (k1:A6r 25 A1Y.row M' v' items')(k2:A0c (A4N iv) M M')(k3:A4N v'=A4N iv\/∀f,A4N v'=some f->M.length<=f):
 A0l (some 1) M' (.ptr q 6) v'=some (M'.set q (A8G number day v'))/\A9j number day q Mc (M'.set q (A8G number day v')) items' dv W:=by
 have hl:q+1<=M.length:=(Z0c.1 ho).1
 have c:=hf.cells k2 ho
 have d:=hf.push hl k1 k3
 have e:=hd.beside b k2
 have a:=hd.apart b k3
 have g:q<M'.length:=(Z0c.1 c).1
 refine⟨by rw[A0f c,k1.cells,Z0d ⟨k1.store,by simp,rfl⟩];rfl,(hk.trans ((hf.low hl k2).le (by omega))).setq (Z0u _),v',by simp[g],d.setq (by omega),e.setq (by omega),a⟩
def B7O{α β:Type}{f:α->List β}{c}(h:∀x,(f x).length<=c):∀l:List α,(l.flatMap f).length<=l.length*c
 |[]=>by simp
 |x::l=>by have h1:=B7O h l;have h2:=h x;rw[Z1v,Z0z,Z0B,Z3C];omega
def C0K(a:Int)(c:Nat):∀(L:List (List IdD)) (j:Nat),(∀x∈L,x.length<=c)->(A3Z a L j).length<=L.length*c
 |[],j,_=>by simp[A3Z]
 |x::L,j,h=>by have h1:=C0K a c L (j+1) λy hy=>h y (by simp[hy]);have h2:=h x (by simp);rw[A3Z,Z0z,Z0L,List.length_zipIdx,Z0B,Z3C];omega
section
variable (gl:Nat->AV)
def C6J(u:A0b)(M:Mem)(hg:u.good)(hc:A0x u<=1000):A0e (WC gl) 74 [.agg u.row] M (λv M'=>v=.list 3 (A4L (A0X u)) .no/\M'=M):=A0e.still (enc:=IdD.row) (λ_=>rfl) B7G (B6T gl u M hg hc)
set_option maxHeartbeats 1000000 in
def D3D(u:A0b)(l:List A0L)(s:List A2k)(a a0:Int)(M:Mem)(ad:Fit u)(hl:l.length<=1000)(bw:∀s∈l,s.good)(hs:s.length<=1000)(ht:∀m∈s,m.to.length<=40):A0e (WC gl) 21 [.agg u.row,.list 5 (A1A l) .no,.list 5 (A2p s) .no,I a,I a0] M (λv M'=>v=C6a u l s a a0/\M'=M):=by
 refine A0e.dataX ?_
 obtain⟨F,hF⟩:∃F,F=λx=>A1O x u:=⟨_,rfl⟩
 obtain⟨A,hA⟩:∃A,A=C6a u l s a a0:=⟨_,rfl⟩
 rw[<-hA]
 obtain⟨r,hr⟩:∃r,r=M.length:=⟨_,rfl⟩
 have dg:∀e,bdd r (A2W e):=λe=>by simp[A2W,A5o,bdd,A2l]
 obtain⟨Ma,bn⟩:∃Ma,Ma=M++[B1X]:=⟨_,rfl⟩
 have c0:Grow M Ma:=by rw[bn];exact A0c.app none _ _
 have bj:Ma[r]?=some B1X:=by rw[bn,hr];simp
 have ak:=D1S gl F u hF l Ma ad hl bw
 obtain⟨R,hR⟩:∃R,R=A9A F u l:=⟨_,rfl⟩
 rw[<-hR]at ak
 have ax:=u.row_eq
 have aa:A=if R≠0 then A2W R else if B5z a a0=true then A2W 1
  else if((A0X u).tail.any λx=>decide (x.act=a))=true then A2W 5
  else if B9Z u (A2N F l s)≠0 then A2W (B9Z u (A2N F l s))
  else .tuple [C2V a a0 (A1Z u++A3p (A2N F l s)),.list 6 ((B5w a u (A2N F l s)).map A3y) .no,I 0]:=by rw[hA,hR,hF];rfl
 have a9:∀(M5:Mem) e,Grow Ma M5->A=A2W e->r<M5.length/\(Grow M (M5.set r B1X)/\Still (M5.set r B1X) r (bdd r) [A2W e] [A]):=λM5 e h he=>by have h1:=h.get bj (by simp);refine⟨(Z0c.1 h1).1,⟨by simpa using(c0.trans h).1,λj hj _=>by rw[Z0g (by omega)];exact(c0.trans h).2 j hj (by simp)⟩,?_⟩;rw[he];exact .same (dg e) .nil
 have ah:∀M5:Mem,Grow Ma M5->A0l (some 7) M5 (.ptr r 0) A5o=some (M5.set r B1X):=λM5 h=>by rw[A0f (h.get bj (by simp))];simp[A5o,AV.storable,AV.cells,A0d]
 have a7:Grow Ma Ma:=Grow.refl _
 rw[ax]at ak|-
 refine A0k hB func21 ?_
 simp -dsimp -implicitDefEqProofs[A0o]
 rw[<-bn,<-hr]
 clear bn
 refine A0j func13 ak ?_
 rintro _ Ma ⟨rfl,rfl⟩
 by_cases hR0:R=0
 case neg=>rw[Z0d hR0]at aa;obtain⟨q1,q2⟩:=a9 _ R a7 aa;simp -dsimp -implicitDefEqProofs[hR0,A2R,ah _ a7,A0C,q1];exact q2
 rw[Z0e (by simpa using hR0)]at aa
 subst hR0
 by_cases a1:a<1
 .have ag:A=A2W 1:=by rw[aa,Z0d (by simp[B5z,a1])]
  have az:¬1<=a:=by omega
  obtain⟨q1,q2⟩:=a9 _ 1 a7 ag;simp -dsimp -implicitDefEqProofs[a1,az,A2R,ah _ a7,A0C,q1];exact q2
 have az:1<=a:=by omega
 by_cases a2:1048576<a
 .have ag:A=A2W 1:=by rw[aa,Z0d (by simp[B5z,a2])]
  have bb:a>1048576:=a2;obtain⟨q1,q2⟩:=a9 _ 1 a7 ag;simp -dsimp -implicitDefEqProofs[a1,az,a2,bb,A2R,ah _ a7,A0C,q1];exact q2
 have bb:¬a>1048576:=a2
 by_cases a3:a0<0
 .have ag:A=A2W 1:=by rw[aa,Z0d (by simp[B5z,a3])]
  have bf:¬0<=a0:=by omega
  obtain⟨q1,q2⟩:=a9 _ 1 a7 ag;simp -dsimp -implicitDefEqProofs[a1,az,a2,bb,a3,bf,A2R,ah _ a7,A0C,q1];exact q2
 have bf:0<=a0:=by omega
 by_cases a4:1048576<a0
 .have ag:A=A2W 1:=by rw[aa,Z0d (by simp[B5z,a4])]
  have bv:a0>1048576:=a4;obtain⟨q1,q2⟩:=a9 _ 1 a7 ag;simp -dsimp -implicitDefEqProofs[a1,az,a2,bb,a3,bf,a4,bv,A2R,ah _ a7,A0C,q1];exact q2
 have bv:¬a0>1048576:=a4
 rw[Z0e (by simp[B5z];omega)]at aa
 have bu:=λM=>C6J gl u M ad.1 ad.2.2
 have dj:(A0X u).length<=1000:=by have:=A4D u;have:=ad.2.2;omega
 have dl:1<=(A0X u).length:=by have:=A4D u;have:=A3R u;omega
 rw[ax]at bu
 simp -dsimp -implicitDefEqProofs[a1,az,a2,bb,a3,bf,a4,bv]
 refine A0j func74 (bu _) ?_
 rintro _ M2 ⟨rfl,rfl⟩
 simp -dsimp -implicitDefEqProofs
 have d3:A0X u=u.id::(A0X u).tail:=by cases u;rw[A0X];rfl
 refine A0s hB ((A0X u).length) 15 (λT M5=>∃i:Nat,1<=i/\i<=(A0X u).length/\M5=M2/\T 1=.list 5 (A1A l) .no/\T 2=.list 5 (A2p s) .no/\T 3=I a/\T 4=I a0/\T 5=.cptr [I u.id.act,I u.id.item,I u.id.n,I u.kind,S u.label,.list 4 (A0g u.head) .no,.list 4 (A0g u.words) .no,.list 8 (A0O u.kids) .no]/\T 10=.ptr r 0/\T 14=.list 3 (A4L (A0X u)) .no/\T 15=I i/\((A0X u).tail.any λx=>decide (x.act=a))=((A0X u).drop i).any λx=>decide (x.act=a)) ?_ ?_
 .exact⟨1,by omega,by omega,rfl,by simp,by simp,by simp,by simp,by simp,by simp,by simp,by simp,by simp⟩
 rintro T M5 ⟨i,i0,i1,rfl,t1,t2,t3,t4,t5,d,b,be,ho⟩
 by_cases hi:i<(A0X u).length
 .have a6:(i:Int)<(A0X u).length:=by omega
  have w1:=A1i (i:=i) (by omega);rw[Z0h hi,Z1V]at ho;by_cases hn:(A0X u)[i].act=a
  .rw[Z0p hn,Z1F]at ho;(have ag:A=A2W 5:=by rw[aa,Z0d ho]);obtain⟨q1,q2⟩:=a9 _ 5 a7 ag;simp -dsimp -implicitDefEqProofs[t1,t2,t3,t4,t5,d,b,be,hi,a6,IdD.row,hn,A2R,ah _ a7,A0C,q1];exact q2
  .rw[Z0k hn,Z0X]at ho;simp -dsimp -implicitDefEqProofs[t1,t2,t3,t4,t5,d,b,be,hi,a6,IdD.row,hn,w1];exact⟨⟨i+1,by clear w1;omega,by clear w1;omega,rfl,ho⟩,by clear w1;omega⟩
 have a6:¬(i:Int)<(A0X u).length:=by omega
 rw[Z0n (by omega),Z2J]at ho
 rw[Z0e (by rw[ho];simp)]at aa
 clear hi i0 i1
 obtain⟨q,hq⟩:∃q,q=M5.length:=⟨_,rfl⟩
 obtain⟨Mc,c7⟩:∃Mc,Mc=M5++[A8G a a0 A0Z]:=⟨_,rfl⟩
 have bx:Mc[q]?=some (A8G a a0 A0Z):=by rw[c7,hq];simp
 have dh:Grow M5 Mc:=by rw[c7];exact A0c.app none _ _
 have d4:q<Mc.length:=(Z0c.1 bx).1
 have bt:A4U a a0 q Mc Mc []:=⟨A0I.refl _ _,A0Z,bx,.nil⟩
 have dn:=A2t u.kids
 have dr:=A4J u
 have cr:=ad.2.2
 simp -dsimp -implicitDefEqProofs[t1,t2,t3,t4,t5,d,b,be,a6,B7h,B7d,A0o,A0l,A0d,AV.storable,AV.cells]
 rw[<-c7,<-hq]
 refine A7i (.exit 2) (λT M6=>A3W a l s u r q T/\A4U a a0 q Mc M6 (A1Z u)) ?_ ?_
 .refine A0s hB u.kids.length 17 (λT M6=>∃i:Nat,i<=u.kids.length/\A3W a l s u r q T/\T 17=I i/\A4U a a0 q Mc M6 ((A1Z u).take i)) ?_ ?_
  .exact⟨0,by omega,by simp[A3W,t1,t2,t3,t5,d,b],by simp,by simpa using bt⟩
  clear t1 t2 t3 t4 t5 d b be ho;rintro T M6 ⟨i,i1,⟨t1,t2,t3,t5,d,b,g⟩,ba,b0,iv,aq,ao⟩;by_cases hi:i<u.kids.length;case neg=>
   (have a6:¬(i:Int)<u.kids.length:=by omega);rw[Z0l (by simp[A1Z];omega)]at ao
   simp -dsimp -implicitDefEqProofs[t1,t2,t3,t5,d,b,g,ba,a6,A3W];exact⟨b0,iv,aq,ao⟩
  have a6:(i:Int)<u.kids.length:=by omega
  have w1:=A1i (i:=i) (by omega);obtain⟨X,hX⟩:∃X,X=u.kids[i]:=⟨_,rfl⟩;have cy:u.kids[i].row=[I X.id.act,I X.id.item,I X.id.n,I X.kind,S X.label,.list 4 (A0g X.head) .no,.list 4 (A0g X.words) .no,.list 8 (A0O X.kids) .no]:=by rw[<-hX];exact X.row_eq
  have b2:=λM=>D2H gl u X.id M ad.1 ad.2.2;rw[ax]at b2;have da:(A1Z u).take (i+1)=(A1Z u).take i++[.rep ((A8y u X.id).getD [])]:=by rw[Z0A (by simpa[A1Z]using hi)];simp[A1Z,hX]
  simp -dsimp -implicitDefEqProofs[t1,t2,t3,t5,d,b,g,ba,hi,a6];refine A1h hB (A0w gl) (λ_=>0) (λ_=>0) (by rfl) (by kernel_rfl) ?_;simp -dsimp -implicitDefEqProofs[t1,t2,t3,t5,d,b,g,ba,hi,a6,cy];refine A1j func36 b2 ?_;simp -dsimp -implicitDefEqProofs[t1,t2,t3,t5,d,b,g,ba,A0a aq,B7S,A0h,A0J,AV.storable,AV.cells];refine A7Q (C:=WC gl) (enc:=A1Y.row) (e:=128) (sz:=25) (news:=[.rep ((A8y u X.id).getD [])]) (o:=.full) C2N C8s C2d ao.fam (by simp[A1Z];omega) rfl rfl ?_;intro v' M7 k1 k2 k3;obtain⟨bd,de⟩:=A4U.push b0 aq ao k1 k2 k3;simp -dsimp -implicitDefEqProofs[t1,t2,t3,t5,d,b,g,ba,bd,w1,A3W];refine⟨⟨i+1,by clear w1;omega,rfl,?_⟩,by clear w1;omega⟩;rw[da];exact de
 clear bt bx t1 t2 t3 t4 t5 d b be ho
 rintro T M6 ⟨⟨t1,t2,t3,t5,d,b,g⟩,b0,iv,aq,ao⟩
 have hS:B6b u l:=B9i ad (hF▸hR.symm)
 obtain⟨ts,c9⟩:∃ts,ts=A2N F l s:=⟨_,rfl⟩
 rw[<-c9]at aa
 have db:∀M6,A0I q Mc M6->Grow M5 M6:=λM6 h=>h.grow dh (by omega)
 simp -dsimp -implicitDefEqProofs[t1,t2,t3,t5,d,b,g,A0h,A0J]
 obtain⟨G,hG⟩:∃G,G=A1N F l s l.length:=⟨_,rfl⟩
 obtain⟨P,hP⟩:∃P:Nat->List B5V,P=λn=>(A2a l (-1) n).map G:=⟨_,rfl⟩
 have b1:P l.length=ts:=by rw[c9,hP,hG];rfl
 have c6:P 0=[]:=by rw[hP];simp[A2a]
 have ch:∀n,(P n).length<=n:=λn=>by rw[hP,Z0L];exact A6H _ _ _
 have cs:∀n (h:n<l.length),∃x,A1O l[n].id u=some x/\x.good/\x.words.length<=300/\x.head.length<=300:=hS.fd
 have cn:=B6i (s:=s) hS hl
 rw[<-hF,<-c9]at cn
 have cp:∀n,n<=l.length->(A3Z a ((P n).map (·.2.1)) u.kids.length).length<=1000000:=λn hn=>by
  have h1:=C0K a 1000 ((P n).map (·.2.1)) u.kids.length λy hy=>by obtain⟨t,ht,rfl⟩:=Z0W.1 hy;rw[hP]at ht;obtain⟨k,hk,rfl⟩:=Z0W.1 ht;have ds:=B2b hk;rw[hG,hF];have:=A9H (F:=λy=>A1O y u) (s:=s) hS.ord l.length k (by omega) (by omega);omega
  have h2:=ch n;rw[Z0L]at h1;have:=Z3b h2 (Z0u 1000);omega
 have cc:∀n,n<l.length->A4s l n=-1->G n∈ts:=λn h1 h2=>by rw[<-b1,hP];exact Z0W.2 ⟨n,C5x h1 h2,rfl⟩
 refine A7i (.exit 4) (λT M7=>A3W a l s u r q T/\T 21=I (A4k ts 0)/\A9j a a0 q Mc M7 (A1Z u++A3p ts) (T 20) (B1c a u ts)) ?_ ?_
 .refine A0s hB l.length 22 (λT M7=>∃n:Nat,n<=l.length/\A3W a l s u r q T/\T 21=I (A4k (P n) 0)/\T 22=I n/\A9j a a0 q Mc M7 (A1Z u++A3p (P n)) (T 20) (A3Z a ((P n).map (·.2.1)) u.kids.length)) ?_ ?_
  .refine⟨0,by omega,by simp[A3W,t1,t2,t3,t5,d,b,g],by simp[c6,A4k],by simp,b0,iv,aq,by simpa[c6,A3p]using ao,?_,?_⟩
   .simp -dsimp -implicitDefEqProofs[c6,A3Z];exact Fm.full (l:=[])
   .simp -dsimp -implicitDefEqProofs;intro f _ h2;simp at h2
  clear t1 t2 t3 t5 d b g b0 aq ao;rintro T M7 ⟨n,n1,⟨t1,t2,t3,t5,d,b,g⟩,w,z,hm⟩;generalize p:T 20=dv at*;have cb:=z;by_cases hn:n<l.length;case neg=>
   (have bm:¬(n:Int)<l.length:=by omega);have d8:n=l.length:=by omega
   rw[d8,b1]at hm w;simp -dsimp -implicitDefEqProofs[t1,t2,t3,t5,d,b,g,w,z,p,bm,A3W];exact hm
  have bm:(n:Int)<l.length:=by omega
  have w1:=A1i (i:=n) (by omega);have ac:P (n+1)=P n++(if A4s l n=-1 then[n]else[]).map G:=by rw[hP];simp only;rw[B2k l (-1) n,Z0Q]
  have b4:A4s l n=l[n].parent:=by simp[A4s,hn]
  by_cases hp:l[n].parent=-1;case neg=>rw[Z0e (by rw[b4];exact hp),Z1P,Z1f]at ac;rw[<-ac]at hm w;simp -dsimp -implicitDefEqProofs[t1,t2,t3,t5,d,b,g,w,z,p,hn,bm,A0L.row,hp,w1,A3W];exact⟨⟨n+1,Z2C hn,rfl,by simp,hm⟩,Z2t hn (Z2K n)⟩
  rw[Z0d (by rw[b4];exact hp),Z0C,Z1P]at ac;obtain⟨t,bl⟩:∃t,t=G n:=⟨_,rfl⟩;have al:=D2P gl s l u ad.1 hl bw hs ht hS.ord cs l.length n M7 hn (by omega);rw[show(λy=>A1O y u)=F from hF.symm,<-hG,<-bl,ax]at al;have c8:Fit t.1:=by rw[bl,hG,hF];exact B5v hS hl bw ht hn (by omega)
  have di:=cn t (bl▸cc n hn (by rw[b4];exact hp));rw[<-bl]at ac;obtain⟨M8,b5⟩:∃M8,M8=M7++[A0p.cells 27 t.1.row]:=⟨_,rfl⟩;have b9:M8[M7.length]?=some (A0p.cells 27 t.1.row):=by rw[b5];simp
  have bg:=hm.app d4 [A0p.cells 27 t.1.row];rw[<-b5]at bg;obtain⟨xt,ci⟩:∃xt,xt=M7.length:=⟨_,rfl⟩;rw[<-ci]at b9;have dq:q<xt:=by have:=hm.1.1;omega
  simp -dsimp -implicitDefEqProofs[t1,t2,t3,t5,d,b,g,w,z,p,hn,bm,A0L.row,hp];refine A0j func75 al ?_;rintro _ M7 ⟨rfl,rfl⟩;simp -dsimp -implicitDefEqProofs[t1,t2,t3,t5,d,b,g,w,z,p,B5P,A0o,A0l,A0d,AV.storable,AV.cells];rw[<-b5,<-ci];simp -dsimp -implicitDefEqProofs[t1,t2,t3,t5,d,b,g,w,z,p,A0a b9];refine A0j func76 (C9P gl t.1 M8 c8) ?_;rintro _ M8 ⟨⟨tx,rfl⟩,rfl⟩;simp -dsimp -implicitDefEqProofs[-A4b];refine A8h (λT M9=>M9=M8/\A3W a l s u r q T/\T 20=dv/\T 21=I (A4k (P n) 0)/\T 22=I n/\T 23=.ptr xt 0/\T 24=.list 3 (A4L t.2.1) .no/\T 25=I (C0b t)) ?_ ?_
  .by_cases hfe:B5e t.1=0
   .simp -dsimp -implicitDefEqProofs[t1,t2,t3,t5,d,b,g,w,z,p,hfe,C0b,A3W]
   .simp -dsimp -implicitDefEqProofs[t1,t2,t3,t5,d,b,g,w,z,p,hfe,C0b,A3W]
  clear t1 t2 t3 t5 d b g w z p;rintro T M8 ⟨rfl,⟨t1,t2,t3,t5,d,b,g⟩,t20,w,z,a8,af,bp⟩;have cm:A4r (A4k (P n) 0) (C0b t)=A4k (P (n+1)) 0:=by rw[ac,A4k,A4k,Z2n];rfl
  simp -dsimp -implicitDefEqProofs[-A4b];rw[A4b];refine A8h (λT M9=>M9=M8/\A3W a l s u r q T/\T 20=dv/\T 21=I (A4k (P (n+1)) 0)/\T 22=I n/\T 23=.ptr xt 0/\T 24=.list 3 (A4L t.2.1) .no) ?_ ?_
  .rw[<-cm];by_cases h6:C0b t=6
   .simp -dsimp -implicitDefEqProofs[t1,t2,t3,t5,d,b,g,t20,w,z,a8,af,bp,h6,A4r,A3W]
   .by_cases h0:A4k (P n) 0=0
    .simp -dsimp -implicitDefEqProofs[t1,t2,t3,t5,d,b,g,t20,w,z,a8,af,bp,h6,h0,A4r,A3W]
    .simp -dsimp -implicitDefEqProofs[t1,t2,t3,t5,d,b,g,t20,w,z,a8,af,bp,h6,h0,A4r,A3W]
  clear t1 t2 t3 t5 d b g t20 w z a8 af bp;rintro T M8 ⟨rfl,⟨t1,t2,t3,t5,d,b,g⟩,t20,w,z,a8,af⟩;simp -dsimp -implicitDefEqProofs[t1,t2,t3,t5,d,b,g,t20,w,z,a8,af];have dp:=ch n;have ct:A3Z a ((P (n+1)).map (·.2.1)) u.kids.length=A3Z a ((P n).map (·.2.1)) u.kids.length++t.2.1.zipIdx.map λx=>(x.1,(⟨a,(u.kids.length+(P n).length:Nat),(x.2:Int)+1⟩:IdD)):=by rw[ac,Z0Q,B5i];simp[A3Z]
  refine A7i (.exit 6) (λT M9=>A3W a l s u r q T/\T 21=I (A4k (P (n+1)) 0)/\T 22=I n/\T 23=.ptr xt 0/\M9[xt]?=some (A0p.cells 27 t.1.row)/\A9j a a0 q Mc M9 (A1Z u++A3p (P n)) (T 20) (A3Z a ((P (n+1)).map (·.2.1)) u.kids.length)) ?_ ?_
  .refine A0s hB t.2.1.length 28 (λT M9=>∃i:Nat,i<=t.2.1.length/\A3W a l s u r q T/\T 21=I (A4k (P (n+1)) 0)/\T 22=I n/\T 23=.ptr xt 0/\T 24=.list 3 (A4L t.2.1) .no/\T 28=I i/\M9[xt]?=some (A0p.cells 27 t.1.row)/\A9j a a0 q Mc M9 (A1Z u++A3p (P n)) (T 20) (A3Z a ((P n).map (·.2.1)) u.kids.length++(t.2.1.zipIdx.take i).map λx=>(x.1,(⟨a,(u.kids.length+(P n).length:Nat),(x.2:Int)+1⟩:IdD)))) ?_ ?_
   .refine⟨0,by omega,by simp[A3W,t1,t2,t3,t5,d,b,g],by simp[w],by simp[z],by simp[a8],by simp[af],by simp,b9,?_⟩;simp -dsimp -implicitDefEqProofs[t20];simpa using bg
   clear t1 t2 t3 t5 d b g t20 w z a8 af hm bg b9 b5 al;rintro T M9 ⟨i,i1,⟨t1,t2,t3,t5,d,b,g⟩,w,z,a8,af,bi,bk,c5⟩;generalize p:T 20=dv at*;by_cases hi:i<t.2.1.length;case neg=>
    (have a6:¬(i:Int)<t.2.1.length:=by omega);have c1:t.2.1.zipIdx.take i=t.2.1.zipIdx:=Z0l (by simp;omega)
    rw[c1,<-ct]at c5;simp -dsimp -implicitDefEqProofs[t1,t2,t3,t5,d,b,g,w,z,a8,af,bi,p,a6,A3W];exact⟨bk,c5⟩
   (have a6:(i:Int)<t.2.1.length:=by omega);have w2:=A1i (i:=i) (by omega)
   obtain⟨x,hx⟩:∃x,x=t.2.1[i]:=⟨_,rfl⟩;(have b6:t.2.1[i].row=[I x.act,I x.item,I x.n]:=by rw[<-hx];rfl);obtain⟨ai,iv,ar,ab,an,bh⟩:=c5;(have b3:A1H prog 47 iv=some (u.kids.length+(P n).length):=by rw[ab.fam.len (e':=128) (by simp)];simp[A1Z,A3p]);obtain⟨kj,cw⟩:∃kj,kj=u.kids.length+(P n).length:=⟨_,rfl⟩;rw[<-cw]at b3 an;(have c1:t.2.1.zipIdx.take (i+1)=t.2.1.zipIdx.take i++[(x,i)]:=by rw[Z0A (by simpa using hi),hx];simp);have cv:A0Q prog 79 [(0,.agg [I x.act,I x.item,I x.n]),(1,.agg [I a,I kj,I ((i:Int)+1)])]=some (.agg (A3y (x,⟨a,kj,(i:Int)+1⟩))):=B8i (x:=x) (y:=⟨a,kj,(i:Int)+1⟩);simp -dsimp -implicitDefEqProofs[t1,t2,t3,t5,d,b,g,w,z,a8,af,bi,p,hi,a6,b6];refine A2E hB (A0w gl) (λk=>if k=7 then 1 else if k=14 then 2 else 0) (λ_=>q) (λ_=>false) [q] (by intros;simp) (by rfl) (by kernel_rfl) ?_;simp -dsimp -implicitDefEqProofs[t1,t2,t3,t5,d,b,g,w,z,a8,af,bi,p,hi,a6,b6,A0y,A4e,A0a ar,b3,w2,B6o,cv,A0h,A0J,AV.storable,AV.cells];refine⟨rfl,A7Q (C:=WC gl) (enc:=A3y) (e:=79) (sz:=6) (news:=[(x,⟨a,kj,(i:Int)+1⟩)]) (o:=.full) C5R D2f D2s an.fam (by have:=cp n n1;simp only[Z0z,Z0L,Z0I,List.length_zipIdx,Z0B,Z1t];omega) rfl rfl ?_⟩;intro v' ce k1 k2 k3;have br:=an.cells k2 ar;have cg:=an.cells k2 bk;have bs:q+1<=M9.length:=(Z0c.1 ar).1;(have d7:((kj:Nat):Int)=(u.kids.length:Int)+((P n).length:Int):=by omega);simp -dsimp -implicitDefEqProofs[t1,t2,t3,t5,d,b,g,w,z,a8,af,bi,p,ar,br,w2,A3W];rw[d7]at k1;refine⟨⟨i+1,by clear w2;omega,by simp,cg,?_⟩,by clear w2;omega⟩;rw[<-Z1l,c1,Z0Q,<-Z0O];exact⟨ai.trans ((an.low bs k2).le (by omega)),iv,br,ab.beside bh.symm k2,an.push bs k1 k3,(ab.apart bh.symm k3).symm⟩
  clear t1 t2 t3 t5 d b g t20 w z a8 af hm bg b9 b5 al;rintro T M9 ⟨⟨t1,t2,t3,t5,d,b,g⟩,w,z,a8,bk,ai,iv,ar,ab,an,bh⟩;generalize p:T 20=dv at*;simp -dsimp -implicitDefEqProofs[t1,t2,t3,t5,d,b,g,w,z,a8,p,A0a ar,A0a bk,B9a,A0h,A0J,AV.storable,AV.cells];refine A7Q (C:=WC gl) (enc:=A1Y.row) (e:=128) (sz:=25) (news:=[.ins t.1]) (o:=.full) C2N C8s C2d ab.fam (by simp[A1Z,A3p];omega) rfl rfl ?_;intro v' ce k1 k2 k3;obtain⟨bd,cf⟩:=A9j.push ai ar ab an bh k1 k2 k3;simp -dsimp -implicitDefEqProofs[t1,t2,t3,t5,d,b,g,w,z,a8,p,cb,bd,w1,A3W];refine⟨⟨n+1,Z2C hn,rfl,by simp,?_⟩,Z2t hn (Z2K n)⟩;have df:A1Z u++A3p (P (n+1))=A1Z u++A3p (P n)++[.ins t.1]:=by rw[ac];simp[A3p]
  rw[df];exact cf
 clear t1 t2 t3 t5 d b g b0 aq ao
 rintro T M7 ⟨⟨t1,t2,t3,t5,d,b,g⟩,w,d5,iv,bc,c3,c4,dm⟩
 generalize p:T 20=dv at*
 have au:Grow M5 M7:=db M7 d5
 have am:A1H prog 47 iv=some (u.kids.length+ts.length):=by rw[c3.fam.len (e':=128) (by simp)];simp[A1Z,A3p]
 obtain⟨kt,ck⟩:∃kt,kt=u.kids.length+ts.length:=⟨_,rfl⟩
 rw[<-ck]at am
 have ap:B9Z u ts=if 32<kt then 6 else A4k ts 0:=by rw[B9Z,ck]
 by_cases h32:32<kt
 .have aj:(32:Int)<kt:=by omega
  have aw:(kt:Int)>32:=aj;rw[Z0d h32]at ap;have ag:A=A2W 6:=by rw[aa,ap];rfl
  obtain⟨q1,q2⟩:=a9 M7 6 au ag;simp -dsimp -implicitDefEqProofs[t1,t2,t3,t5,d,b,g,w,p,A0a bc,am,h32,aj,aw,A2R,ah M7 au,A0C,q1];exact q2
 have aj:¬(32:Int)<kt:=by omega
 have aw:¬(kt:Int)>32:=aj
 rw[Z0e h32]at ap
 by_cases he0:A4k ts 0=0
 case neg=>
  have ag:A=A2W (A4k ts 0):=by rw[aa,ap,Z0d he0]
  obtain⟨q1,q2⟩:=a9 M7 _ au ag;simp -dsimp -implicitDefEqProofs[t1,t2,t3,t5,d,b,g,w,p,A0a bc,am,h32,aj,aw,he0,A2R,ah M7 au,A0C,q1];exact q2
 rw[Z0e (by rw[ap,he0];simp)]at aa
 obtain⟨W,hW⟩:∃W,W=B1c a u ts:=⟨_,rfl⟩
 have dd:W.length<=1000000:=by have:=cp l.length (Z0u _);rw[b1]at this;rw[hW];exact this
 have d0:B5w a u ts=(A0X u).tail.flatMap λx=>W.filter λy=>decide (y.1=x):=by rw[B5w,hW]
 rw[d0]at aa
 rw[<-hW]at c4
 obtain⟨Dp,bq⟩:∃Dp:Nat->List (IdD×IdD),Dp=λi=>((A0X u).tail.take (i-1)).flatMap λx=>W.filter λy=>decide (y.1=x):=⟨_,rfl⟩
 have cz:∀i,(Dp i).length<=(A0X u).length*1000000:=λi=>by
  rw[bq];simp only;have h1:=B7O (f:=λx=>W.filter λy=>decide (y.1=x)) (c:=1000000) (λx=>Z0T (Z2Y _ _) dd) ((A0X u).tail.take (i-1));have h2:((A0X u).tail.take (i-1)).length<=(A0X u).length:=by simp;omega
  exact Z0T h1 (Z3b h2 (Z0u _))
 obtain⟨n7,dt⟩:∃n7,n7=M7.length:=⟨_,rfl⟩
 have d1:q<n7:=by have:=(Z0c.1 bc).1;omega
 have d2:r<n7:=by have:=(Z0c.1 (au.get bj (by simp))).1;omega
 have bz:A1H prog 50 dv=some W.length:=c4.fam.len (e':=79) (by simp)
 simp -dsimp -implicitDefEqProofs[t1,t2,t3,t5,d,b,g,w,p,A0a bc,am,h32,aj,aw,he0,A0h,A0J]
 refine A0s hB ((A0X u).length) 30 (λT M8=>∃i:Nat,1<=i/\i<=(A0X u).length/\T 10=.ptr r 0/\T 14=.list 3 (A4L (A0X u)) .no/\T 16=.ptr q 0/\T 20=dv/\T 30=I i/\A0I n7 M7 M8/\Fm 6 A3y n7 M8 (T 29) (Dp i)) ?_ ?_
 .refine⟨1,by omega,by omega,by simp[d],by simp[b],by simp[g],by simp[p],by simp,A0I.refl _ _,?_⟩;simp -dsimp -implicitDefEqProofs[bq];exact Fm.full (l:=[])
 clear t1 t2 t3 t5 d b g w p
 rintro T M8 ⟨i,i0,i1,d,b,g,t20,ae,ay,b7⟩
 generalize a5:T 29=ov at*
 by_cases hi:i<(A0X u).length
 case neg=>
  have a6:¬(i:Int)<(A0X u).length:=by omega
  have d9:Dp i=(A0X u).tail.flatMap λx=>W.filter λy=>decide (y.1=x):=by rw[bq];simp only;rw[Z0l (by simp;omega)]
  rw[d9]at b7;have cu:M8[q]?=some (A8G a a0 iv):=(ay.2 q d1).trans bc;have cq:M8[r]?=some B1X:=(ay.2 r d2).trans (au.get bj (by simp));have cj:Grow M M8:=ay.grow (c0.trans au) (by omega);have cx:r<M8.length:=(Z0c.1 cq).1;have bd:A0l (some 7) M8 (.ptr r 0) (.agg [I a,S B0Z,I a0,I 1,I a0,eS,iv])=some (M8.set r (A8G a a0 iv)):=by rw[A0f cq];simp[AV.storable,AV.cells,A0d,c3.fam.store]
  simp -dsimp -implicitDefEqProofs[d,b,g,t20,ae,a5,a6,A0a cu,bd,A0C,cx];rw[aa];refine⟨⟨by simpa using cj.1,λj hj _=>by rw[Z0g (by omega)];exact cj.2 j hj (by simp)⟩,?_⟩;exact .tuple (.agg (.same trivial (.same trivial (.same trivial (.same trivial (.same trivial (.same trivial (c3.data (A3C (C3b _) _) .nil))))))) (b7.data (A3C (λx=>by simp[A3y,A2l,bdd]) _) (.same trivial .nil))) .nil
 have a6:(i:Int)<(A0X u).length:=by omega
 have w1:=A1i (i:=i) (by omega)
 have ca:=ae
 obtain⟨x,hx⟩:∃x,x=(A0X u)[i]:=⟨_,rfl⟩
 have b6:(A0X u)[i].row=[I x.act,I x.item,I x.n]:=by rw[<-hx];rfl
 have dc:Dp (i+1)=Dp i++W.filter λy=>decide (y.1=x):=by
  rw[bq];simp only;have h1:i+1-1=(i-1)+1:=by omega
  rw[h1,Z0A (by simp;omega),Z1y];have h2:(A0X u).tail[i-1]'(by simp;omega)=x:=by rw[hx,List.getElem_tail];congr 1;omega
  rw[h2];simp
 simp -dsimp -implicitDefEqProofs[d,b,g,t20,ae,a5,a6]
 refine A7i (.exit 10) (λT M9=>T 10=.ptr r 0/\T 14=.list 3 (A4L (A0X u)) .no/\T 16=.ptr q 0/\T 20=dv/\T 30=I i/\A0I n7 M7 M9/\Fm 6 A3y n7 M9 (T 29) (Dp (i+1))) ?_ ?_
 .refine A0s hB W.length 31 (λT M9=>∃k:Nat,k<=W.length/\T 10=.ptr r 0/\T 14=.list 3 (A4L (A0X u)) .no/\T 16=.ptr q 0/\T 20=dv/\T 30=I i/\T 31=I k/\A0I n7 M7 M9/\Fm 6 A3y n7 M9 (T 29) (Dp i++(W.take k).filter λy=>decide (y.1=x))) ?_ ?_
  .refine⟨0,by omega,by simp[d],by simp[b],by simp[g],by simp[t20],by simp[ae],by simp,ay,?_⟩;simp -dsimp -implicitDefEqProofs[a5];simpa using b7
  clear d b g t20 ae a5 ay b7;rintro T M9 ⟨k,k0,d,b,g,t20,ae,t31,ai,ab⟩;generalize a5:T 29=ov at*;have dk:=t31;by_cases hk:k<W.length;case neg=>
   (have b8:¬(k:Int)<W.length:=by omega);rw[Z0l (by omega),<-dc]at ab
   simp -dsimp -implicitDefEqProofs[d,b,g,t20,ae,t31,a5,bz,b8];exact⟨ai,ab⟩
  have b8:(k:Int)<W.length:=by omega
  have w2:IntKind.i64.wrap ((k:Int)+1)=((k+1:Nat):Int):=by rw[A0H (by omega) (by omega)];omega
  have d6:W≠[]:=by rintro rfl;simp at hk
  obtain⟨o,c2⟩:∃o,dv=.list 6 (W.map A3y) o:=by
   rcases c4.fam with⟨_,h⟩|h|⟨f,h,_⟩
   .exact absurd h d6
   .exact⟨_,h⟩
   .exact⟨_,h⟩
  obtain⟨y,hy⟩:∃y,y=W[k]:=⟨_,rfl⟩;have co:A3y W[k]=[I y.1.act,I y.1.item,I y.1.n,I y.2.act,I y.2.item,I y.2.n]:=by rw[<-hy];rfl
  have bo:=B2E y.1 x;have av:(W.take (k+1)).filter (λy=>decide (y.1=x))=(W.take k).filter (λy=>decide (y.1=x))++if y.1=x then[y]else[]:=by rw[Z0A hk,List.filter_append,<-hy];by_cases c:y.1=x<;>simp[c]
  rw[c2]at t20;simp -dsimp -implicitDefEqProofs[d,b,g,t20,ae,t31,a5,b8];refine A1h hB (A0w gl) (λ_=>0) (λ_=>0) (by rfl) (by kernel_rfl) ?_;by_cases c:y.1=x;case neg=>rw[Z0k c]at bo;rw[Z0e c,Z1f]at av;rw[<-av]at ab;simp -dsimp -implicitDefEqProofs[d,b,g,t20,ae,t31,a5,hk,b8,hi,a6,co,b6,bo,w2];exact⟨⟨k+1,Z2C hk,c2.symm,by simp,ai,ab⟩,Z2t hk (Z2K k)⟩
  rw[Z0p c]at bo;rw[Z0d c]at av;simp -dsimp -implicitDefEqProofs[d,b,g,t20,ae,t31,a5,hk,b8,hi,a6,co,b6,bo,w2,A0h,A0J,AV.storable,AV.cells];refine A7Q (C:=WC gl) (enc:=A3y) (e:=79) (sz:=6) (news:=[y]) (o:=.full) C5R D2f D2s ab.fam (by have h1:=cz i;have h2:=Z2Y (λy=>decide (y.1=x)) (W.take k);rw[Z0I]at h2;rw[Z0z,Z4s];omega) rfl rfl ?_;intro v' ce k1 k2 k3;have cd:n7<=M9.length:=by have:=ai.1;omega
  simp -dsimp -implicitDefEqProofs[d,b,g,t20,ae,t31,a5,w2];refine⟨⟨k+1,Z2C hk,c2.symm,by simp,ai.trans (ab.low cd k2),?_⟩,Z2t hk (Z2K k)⟩;rw[av,<-Z0O];exact ab.push cd k1 k3
 clear d b g t20 ae a5 ay b7
 rintro T M9 ⟨d,b,g,t20,ae,ai,ab⟩
 generalize a5:T 29=ov at*
 simp -dsimp -implicitDefEqProofs[d,b,g,t20,ae,a5,ca,w1]
 exact⟨⟨i+1,by omega,Z2C hi,rfl,ai,ab⟩,Z2t hi (Z2K i)⟩
end
def D1R:prog.stoodInHeld 152=false:=by kernel_rfl
def D0V:prog.stoodInHeld 150=false:=by kernel_rfl
def C6K:prog.eqGuardType prog.depth 152=false:=by kernel_rfl
def D4y(w:A0G):A1C prog .neq 152 (.agg w.row) (.agg w.row)=some (B false):=by
 have h0:A3o prog .neq 152 (.agg w.row) (.agg w.row)=none:=by simp[A3o,A5k]
 have h1:A8H prog 30 152 (.agg w.row) (.agg w.row)=some true:=by simp[A8H,A2Y,A0t,D1R,D0V,A0G.row]
 simp only[A1C,h0,A5i,C6K,h1];rfl
def D4X:prog.stoodInHeld 46=false:=by kernel_rfl
def D0s:prog.eqGuardType prog.depth 46=false:=by kernel_rfl
def B6Z(a b:Int)(s:ByteArray):A1C prog .neq 46 (.agg [I a,I b,S s]) (.agg [I a,I b,S s])=some (B false):=by
 have h0:A3o prog .neq 46 (.agg [I a,I b,S s]) (.agg [I a,I b,S s])=none:=by simp[A3o,A5k]
 have h1:A8H prog 30 46 (.agg [I a,I b,S s]) (.agg [I a,I b,S s])=some true:=by simp[A8H,A2Y,A0t,D4X]
 simp only[A1C,h0,A5i,D0s,h1];rfl
def D5v(x:IdD):A1C prog .neq 23 (.agg [I x.act,I x.item,I x.n]) (.agg [I x.act,I x.item,I x.n])=some (B false):=by
 have h0:A3o prog .neq 23 (.agg [I x.act,I x.item,I x.n]) (.agg [I x.act,I x.item,I x.n])=none:=by simp[A3o,A5k]
 have h1:A8H prog 30 23 (.agg [I x.act,I x.item,I x.n]) (.agg [I x.act,I x.item,I x.n])=some true:=by simp[A8H,A2Y,A0t,C2U]
 simp only[A1C,h0,A5i,C1p,h1];rfl
def D4I:prog.stoodInHeld 79=false:=by kernel_rfl
def D0v:prog.eqGuardType prog.depth 79=false:=by kernel_rfl
def D3O(x:IdD×IdD):A1C prog .neq 79 (.agg (A3y x)) (.agg (A3y x))=some (B false):=by
 have h0:A3o prog .neq 79 (.agg (A3y x)) (.agg (A3y x))=none:=by simp[A3o,A5k]
 have h1:A8H prog 30 79 (.agg (A3y x)) (.agg (A3y x))=some true:=by simp[A8H,A2Y,A0t,D4I,C2U,A3y]
 simp only[A1C,h0,A5i,D0v,h1];rfl
section
variable (gl:Nat->AV)
def B5K(ws:List A0G)(M:Mem)(hl:ws.length<=maxLen):A0e (WC gl) 78 [.list 4 (A0g ws) .no,.list 4 (A0g ws) .no] M (λv M'=>v=B true/\M'=M):=by
 have hl:ws.length<=9223372036854775807:=hl;refine A0k hB func78 ?_;simp -dsimp -implicitDefEqProofs;refine A0s hB ws.length 5 (λT M1=>∃i:Nat,i<=ws.length/\M1=M/\T 0=.list 4 (A0g ws) .no/\T 1=.list 4 (A0g ws) .no/\T 5=I i) ?_ ?_
 .exact⟨0,by omega,rfl,by simp,by simp,by simp⟩
 rintro T M1 ⟨i,i1,rfl,t0,t1,t5⟩;by_cases hi:i<ws.length
 .have a:(i:Int)<ws.length:=by omega
  have w1:IntKind.i64.wrap ((i:Int)+1)=(i+1:Nat):=by rw[A0H (by omega) (by omega)];omega
  have hn:=D4y ws[i];simp only[A0G.row]at hn;simp -dsimp -implicitDefEqProofs[t0,t1,t5,a];refine A1h hB (A0w gl) (λ_=>0) (λ_=>0) (by rfl) (by kernel_rfl) ?_;simp -dsimp -implicitDefEqProofs[t0,t1,t5,hi,a,A0G.row,hn,w1];exact⟨⟨i+1,by clear w1;omega,rfl⟩,by clear w1;omega⟩
 .have a:¬(i:Int)<ws.length:=by omega
  simp -dsimp -implicitDefEqProofs[t0,t1,t5,a]
def B3Y(M:Mem):A0e (WC gl) 78 [A0Z,A0Z] M (λv M'=>v=B true/\M'=M):=by
 refine A0k hB func78 ?_;simp -dsimp -implicitDefEqProofs;refine A2o hB (λT M1=>M1=M/\T 0=A0Z/\T 1=A0Z/\T 5=I 0) (λT M1=>0) (by kernel_rfl) ?_ ?_
 .simp
 rintro T M1 ⟨rfl,t0,t1,t5⟩;simp -dsimp -implicitDefEqProofs[t0,t1,t5]
def D0g(ws:List (IdD×IdD))(M:Mem)(hl:ws.length<=maxLen):A0e (WC gl) 23 [.list 6 (ws.map A3y) .no,.list 6 (ws.map A3y) .no] M (λv M'=>v=B true/\M'=M):=by
 have hl:ws.length<=9223372036854775807:=hl;refine A0k hB func23 ?_;simp -dsimp -implicitDefEqProofs;refine A0s hB ws.length 5 (λT M1=>∃i:Nat,i<=ws.length/\M1=M/\T 0=.list 6 (ws.map A3y) .no/\T 1=.list 6 (ws.map A3y) .no/\T 5=I i) ?_ ?_
 .exact⟨0,by omega,rfl,by simp,by simp,by simp⟩
 rintro T M1 ⟨i,i1,rfl,t0,t1,t5⟩;by_cases hi:i<ws.length
 .have a:(i:Int)<ws.length:=by omega
  have w1:IntKind.i64.wrap ((i:Int)+1)=(i+1:Nat):=by rw[A0H (by omega) (by omega)];omega
  obtain⟨y,hy⟩:∃y,y=ws[i]:=⟨_,rfl⟩;have b:A3y ws[i]=[I y.1.act,I y.1.item,I y.1.n,I y.2.act,I y.2.item,I y.2.n]:=by rw[<-hy];rfl
  have hn:=D3O y;simp only[A3y]at hn;simp -dsimp -implicitDefEqProofs[t0,t1,t5,a];refine A1h hB (A0w gl) (λ_=>0) (λ_=>0) (by rfl) (by kernel_rfl) ?_;simp -dsimp -implicitDefEqProofs[t0,t1,t5,hi,a,hn,b,w1];exact⟨⟨i+1,by clear w1;omega,rfl⟩,by clear w1;omega⟩
 .have a:¬(i:Int)<ws.length:=by omega
  simp -dsimp -implicitDefEqProofs[t0,t1,t5,a]
def C6r(M:Mem):A0e (WC gl) 23 [A0Z,A0Z] M (λv M'=>v=B true/\M'=M):=by
 refine A0k hB func23 ?_;simp -dsimp -implicitDefEqProofs;refine A2o hB (λT M1=>M1=M/\T 0=A0Z/\T 1=A0Z/\T 5=I 0) (λT M1=>0) (by kernel_rfl) ?_ ?_
 .simp
 rintro T M1 ⟨rfl,t0,t1,t5⟩;simp -dsimp -implicitDefEqProofs[t0,t1,t5]
def A7m(M:Mem):A0e (WC gl) 17 [A0Z,A0Z] M (λv M'=>v=B true/\M'=M):=by
 refine A0k hB func17 ?_;simp -dsimp -implicitDefEqProofs;refine A2o hB (λT M1=>M1=M/\T 0=A0Z/\T 1=A0Z/\T 5=I 0) (λT M1=>0) (by kernel_rfl) ?_ ?_
 .simp
 rintro T M1 ⟨rfl,t0,t1,t5⟩;simp -dsimp -implicitDefEqProofs[t0,t1,t5]
def B0x(M:Mem):A0e (WC gl) 37 [A0Z,A0Z] M (λv M'=>v=B true/\M'=M):=by
 refine A0k hB func37 ?_;simp -dsimp -implicitDefEqProofs;refine A2o hB (λT M1=>M1=M/\T 0=A0Z/\T 1=A0Z/\T 5=I 0) (λT M1=>0) (by kernel_rfl) ?_ ?_
 .simp
 rintro T M1 ⟨rfl,t0,t1,t5⟩;simp -dsimp -implicitDefEqProofs[t0,t1,t5]
abbrev D5p:AV:=.agg [I 0,I 0,I 0,I 0,eS,A0Z,A0Z,A0Z]
def C1Z(M:Mem):A0e (WC gl) 25 [D5p,D5p] M (λv M'=>v=B true/\M'=M):=by
 have hn:=D5v idZ;simp only[idZ]at hn;refine A0k hB func25 ?_;simp -dsimp -implicitDefEqProofs[hn];refine A0i func78 (B3Y gl M) ?_;simp -dsimp -implicitDefEqProofs;refine A0i func78 (B3Y gl M) ?_;simp -dsimp -implicitDefEqProofs;refine A2o hB (λT M1=>M1=M/\T 2=.cptr [I 0,I 0,I 0,I 0,eS,A0Z,A0Z,A0Z]/\T 3=.cptr [I 0,I 0,I 0,I 0,eS,A0Z,A0Z,A0Z]/\T 5=I 0) (λT M1=>0) (by kernel_rfl) ?_ ?_
 .simp
 rintro T M1 ⟨rfl,t2,t3,t5⟩;simp -dsimp -implicitDefEqProofs[t2,t3,t5]
def B6e:∀(u:A0b) (M:Mem),u.good->A0e (WC gl) 25 [.agg u.row,.agg u.row] M (λv M'=>v=B true/\M'=M)
 |.mk id kind lab hd ws ks,M,hg=>by
  obtain⟨_,_,o,d,l,e,m,j,f⟩:=(A0b.good_iff _).1 hg;have f:∀k∈ks,k.good:=f;have d:hd.length<=maxLen:=d;have e:ws.length<=maxLen:=e;have j:ks.length<=9223372036854775807:=j;have h:(A0b.mk id kind lab hd ws ks).row=[I id.act,I id.item,I id.n,I kind,S lab,.list 4 (A0g hd) .no,.list 4 (A0g ws) .no,.list 8 (A0O ks) .no]:=by rw[A0b.row]
  have hn:=D5v id;rw[h];refine A0k hB func25 ?_;simp -dsimp -implicitDefEqProofs[hn];refine A0i func78 (B5K gl hd M d) ?_;simp -dsimp -implicitDefEqProofs;refine A0i func78 (B5K gl ws M e) ?_;simp -dsimp -implicitDefEqProofs;refine A0s hB ks.length 5 (λT M1=>∃i:Nat,i<=ks.length/\M1=M/\T 2=.cptr [I id.act,I id.item,I id.n,I kind,S lab,.list 4 (A0g hd) .no,.list 4 (A0g ws) .no,.list 8 (A0O ks) .no]/\T 3=.cptr [I id.act,I id.item,I id.n,I kind,S lab,.list 4 (A0g hd) .no,.list 4 (A0g ws) .no,.list 8 (A0O ks) .no]/\T 5=I i) ?_ ?_
  .exact⟨0,by omega,rfl,by simp,by simp,by simp⟩
  rintro T M1 ⟨i,i1,rfl,t2,t3,t5⟩;by_cases hi:i<ks.length;case neg=>(have a:¬(i:Int)<ks.length:=by omega);simp -dsimp -implicitDefEqProofs[t2,t3,t5,a]
  have a:(i:Int)<ks.length:=by omega
  have w1:IntKind.i64.wrap ((i:Int)+1)=(i+1:Nat):=by rw[A0H (by omega) (by omega)];omega
  have c:ks[i]∈ks:=Z0v hi;have:=A0b.kid_lt (u:=.mk id kind lab hd ws ks) c;have b:=λM=>B6e ks[i] M (f _ c);obtain⟨X,hX⟩:∃X,X=ks[i]:=⟨_,rfl⟩;have g:ks[i].row=[I X.id.act,I X.id.item,I X.id.n,I X.kind,S X.label,.list 4 (A0g X.head) .no,.list 4 (A0g X.words) .no,.list 8 (A0O X.kids) .no]:=by rw[<-hX];exact X.row_eq
  simp only[g]at b;simp -dsimp -implicitDefEqProofs[t2,t3,t5,a];refine A1h hB (A0w gl) (λ_=>0) (λ_=>0) (by rfl) (by kernel_rfl) ?_;simp -dsimp -implicitDefEqProofs[t2,t3,t5,hi,a,g];refine A1j func25 b ?_;simp -dsimp -implicitDefEqProofs[t2,t3,t5,w1];exact⟨⟨i+1,by clear w1;omega,rfl⟩,by clear w1;omega⟩
termination_by u=>SizeOf.sizeOf u
def D5i{α:Type}(a:α)(l r:List α):List.append (a::l) r=a::List.append l r:=rfl
def D5d{α:Type}(r:List α):List.append [] r=r:=rfl
def C0I{C}{h}{T}{M}{ops}{o}{l r}{K:Env->Mem->Prop}{tg}:B9O C h ops (List.append (o::l) r) K T M tg=B0Y ops o T (wOp C h o (λv M'=>B9O C h ops (List.append l r) K (T.put o.dst v) M' ⟨⟩) (T.ev C) M ⟨⟩) (B9O C h ops (List.append l r) K (T.put o.dst (.val undef)) M ⟨⟩) ⟨⟩:=rfl
def C0P{C}{h}{T}{M}{ops}{r}{K:Env->Mem->Prop}{tg}:B9O C h ops (List.append [] r) K T M tg=B9O C h ops r K T M ⟨⟩:=rfl
def A1Y.fine:A1Y->Prop
 |.rep p=>p.length<=1000000
 |.ins u=>u.good
def C4M(x:A1Y)(M:Mem)(hx:x.fine):A0e (WC gl) 77 [.agg x.row,.agg x.row] M (λv M'=>v=B true/\M'=M):=by
 have c:=B6Z 0 0 ⟨#[]⟩;refine A0k hB func77 ?_;cases x with
 |rep p=>
  have hp:p.length<=1000000:=hx;have b:=λM=>C1i gl p p .no .no M hp;simp only[Z4m]at b;simp -dsimp -implicitDefEqProofs[A1Y.row,c,C0I,C0P,D5i,D5d];refine A0i func37 (b M) ?_;simp -dsimp -implicitDefEqProofs;refine A0i func37 (B0x gl M) ?_;simp -dsimp -implicitDefEqProofs;refine A0i func17 (A7m gl M) ?_;simp -dsimp -implicitDefEqProofs;refine A0i func17 (A7m gl M) ?_;simp -dsimp -implicitDefEqProofs;refine A0i func25 (C1Z gl M) ?_;simp -dsimp -implicitDefEqProofs;refine A2o hB (λT M1=>M1=M/\T 2=.cptr (A1Y.rep p).row/\T 3=.cptr (A1Y.rep p).row/\T 5=I 0) (λT M1=>0) (by kernel_rfl) ?_ ?_
  .simp[A1Y.row]
  rintro T M1 ⟨rfl,t2,t3,t5⟩;simp -dsimp -implicitDefEqProofs[t2,t3,t5,A1Y.row]
 |ins u=>
  have hu:u.good:=hx;have a:=λM=>B6e gl u M hu;simp only[u.row_eq]at a;simp -dsimp -implicitDefEqProofs[A1Y.row,c,C0I,C0P,D5i,D5d];refine A0i func37 (B0x gl M) ?_;simp -dsimp -implicitDefEqProofs;refine A0i func37 (B0x gl M) ?_;simp -dsimp -implicitDefEqProofs;refine A0i func17 (A7m gl M) ?_;simp -dsimp -implicitDefEqProofs;refine A0i func17 (A7m gl M) ?_;simp -dsimp -implicitDefEqProofs;refine A0i func25 (a M) ?_;simp -dsimp -implicitDefEqProofs;refine A2o hB (λT M1=>M1=M/\T 2=.cptr (A1Y.ins u).row/\T 3=.cptr (A1Y.ins u).row/\T 5=I 0) (λT M1=>0) (by kernel_rfl) ?_ ?_
  .simp[A1Y.row]
  rintro T M1 ⟨rfl,t2,t3,t5⟩;simp -dsimp -implicitDefEqProofs[t2,t3,t5,A1Y.row]
def C4A(M:Mem):A0e (WC gl) 22 [A5o,A5o] M (λv M'=>v=B true/\M'=M):=by
 have a:=B6Z 0 0 ⟨#[]⟩;refine A0k hB func22 ?_;simp -dsimp -implicitDefEqProofs[A5o,a];refine A2o hB (λT M1=>M1=M/\T 2=.cptr [I 0,eS,I 0,I 0,I 0,eS,A0Z]/\T 3=.cptr [I 0,eS,I 0,I 0,I 0,eS,A0Z]/\T 5=I 0) (λT M1=>0) (by kernel_rfl) ?_ ?_
 .simp
 rintro T M1 ⟨rfl,t2,t3,t5⟩;simp -dsimp -implicitDefEqProofs[t2,t3,t5]
def C7e(b c:Int)(a:List A1Y)(M:Mem)(hl:a.length<=1000000)(hi:∀x∈a,x.fine):A0e (WC gl) 22 [C2V b c a,C2V b c a] M (λv M'=>v=B true/\M'=M):=by
 have g:=B6Z 1 c ⟨#[]⟩;refine A0k hB func22 ?_;simp -dsimp -implicitDefEqProofs[C2V,g];refine A0s hB a.length 5 (λT M1=>∃i:Nat,i<=a.length/\M1=M/\T 2=.cptr [I b,S B0Z,I c,I 1,I c,eS,.list 25 (a.map A1Y.row) .no]/\T 3=.cptr [I b,S B0Z,I c,I 1,I c,eS,.list 25 (a.map A1Y.row) .no]/\T 5=I i) ?_ ?_
 .exact⟨0,by omega,rfl,by simp,by simp,by simp⟩
 rintro T M1 ⟨i,i1,rfl,t2,t3,t5⟩;by_cases hi2:i<a.length;case neg=>
  have d:¬(i:Int)<a.length:=by omega
  simp -dsimp -implicitDefEqProofs[t2,t3,t5,d]
 have d:(i:Int)<a.length:=by omega
 have w1:=A1i (i:=i) (by omega);have e:=λM=>C4M gl a[i] M (hi _ (Z0v hi2));have f:=A1Y.row_len a[i];have h:(a[i]).row.take 25=a[i].row:=Z0l (by omega);simp -dsimp -implicitDefEqProofs[t2,t3,t5,d];refine A1h hB (A0w gl) (λ_=>0) (λ_=>0) (by rfl) (by kernel_rfl) ?_;simp -dsimp -implicitDefEqProofs[t2,t3,t5,hi2,d,f,h];refine A1j func77 e ?_;simp -dsimp -implicitDefEqProofs[t2,t3,t5,w1];exact⟨⟨i+1,by clear w1;omega,rfl⟩,by clear w1;omega⟩
end
mutual
def B8a:∀(u:A0b) (a b:Int),A9x u a b<=b->A9x u a b=A0x u
 |.mk _ _ _ _ _ ks,a,b,h=>by
  rw[A9x]at h|-;rw[A0x];by_cases c:20<a
  .rw[Z0d c]at h;omega
  .rw[Z0e c]at h|-;have:=B6c ks a b 1 h;omega
def B6c:∀(ks:List A0b) (b a n:Int),A8p ks b a n<=a->A8p ks b a n=n+A0V ks
 |[],b,a,n,h=>by rw[A8p,A0V];omega
 |k::ks,b,a,n,h=>by
  rw[A8p]at h|-;rw[A0V];by_cases c:n<=a
  .rw[Z0d c]at h|-;have h1:=B6c ks b a _ h;have h2:=B8a k (b+1) (a-n) (by omega);omega
  .rw[Z0e c]at h;omega
end
def B7A{l}(h:A8t l=true):l.length<=300:=by simp only[A8t,Z0f,Z0o]at h;exact h.2
mutual
def B8h:∀u:A0b,B1w u=true->A0x u<=1000->u.lims
 |.mk id k l h w ks,hw,hc=>by rw[B1w]at hw;simp only[Z0f,Z0o]at hw;obtain⟨⟨⟨h1,h2⟩,h3⟩,h4⟩:=hw;rw[A0x]at hc;have:=A2t ks;rw[A0b.lims];exact⟨⟨Z0T (B7A h2) (by omega),Z0T (B7A h3) (by omega),by show ks.length<=1000;omega,by show l.size<=1000;omega⟩,B6q ks h4 (by omega)⟩
def B6q:∀ks:List A0b,B0i ks=true->A0V ks<=1000->A8u ks
 |[],_,_=>by rw[A8u];trivial
 |k::ks,hw,hc=>by rw[B0i,Z0f]at hw;rw[A0V]at hc;rw[A8u];exact⟨B8h k hw.1 (by omega),B6q ks hw.2 (by omega)⟩
end
def D3U(u:A0b)(hg:u.good)(h:B6k u 30=true):Fit u/\A0x u<=30:=by
 simp only[B6k,Z0f,Z0o]at h;have:=B8a u 0 30 h.1;have hc:A0x u<=30:=by omega
 exact⟨⟨hg,B8h u h.2 (by omega),by omega⟩,hc⟩
def C2F(u:A0b)(l:List A0L)(s:List A2k):Bool:=B6k u 30&&decide (l.length<=40)&&decide (s.length<=60)&&(l.all λs=>decide (s.label.size<=100))&&s.all λm=>decide (m.to.length<=40)
def D2J{u}{x}(hc:A0x u<=1000):((A8y u x).getD []).length<=1000000:=by
 have h:=A9O x u;unfold A8y;cases hw:A8F x u with
 |none=>simp
 |some p=>rw[hw]at h;simp at h|-;omega
def C9v{u}{l}{s}(a d:Int)(c:Fit u)(hl:l.length<=1000)(g:∀s∈l,s.good)(ht:∀m∈s,m.to.length<=40):(∃e,C6a u l s a d=A2W e)\/∃(b:List A1Y) (D:List (IdD×IdD)),C6a u l s a d=.tuple [C2V a d b,.list 6 (D.map A3y) .no,I 0]/\b.length<=1000000/\(∀x∈b,x.fine)/\D.length<=maxLen:=by
 unfold C6a
 simp only
 split
 .exact .inl ⟨_,rfl⟩
 rename_i hp
 split
 .exact .inl ⟨_,rfl⟩
 split
 .exact .inl ⟨_,rfl⟩
 split
 .exact .inl ⟨_,rfl⟩
 right
 have hS:B6b u l:=B9i c (by simpa using hp)
 refine⟨_,_,rfl,?_,?_,?_⟩
 .have h1:=C4y (u:=u) (l:=l) (s:=s);have h2:=A2t u.kids;have h3:=A4J u;have h4:=c.2.2;simp[A1Z,A3p];omega
 .intro x hx;rcases Z1b.1 hx with hx|hx
  .obtain⟨k,_,rfl⟩:=Z0W.1 hx;exact D2J c.2.2
  .obtain⟨t,f,rfl⟩:=Z0W.1 hx;obtain⟨n,hn,rfl⟩:=Z0W.1 f;exact(B5v hS hl g ht (B2b hn) (by omega)).1
 .rw[B7f (s:=s) hS a,Z0L];have h1:=A4D u;have h2:=c.2.2;show _<=9223372036854775807;simp;omega
section
variable (gl:Nat->AV)
def C8V(u:A0b)(l:List A0L)(s:List A2k)(M:Mem)(hg:u.good)(hl:l.length<=maxLen)(hs:s.length<=maxLen):A0e (WC gl) 11 [.agg u.row,.list 5 (A1A l) .no,.list 5 (A2p s) .no] M (λv M'=>v=B (C2F u l s)/\M'=M):=by
 have p:l.length<=9223372036854775807:=by simpa[maxLen]using hl
 have o:s.length<=9223372036854775807:=by simpa[maxLen]using hs
 have hf:=D2n gl u 30 M hg (by omega) (by omega);obtain⟨R,hR⟩:∃R,R=C2F u l s:=⟨_,rfl⟩;have a:R=(B6k u 30&&decide (l.length<=40)&&decide (s.length<=60)&&(l.all λs=>decide (s.label.size<=100))&&s.all λm=>decide (m.to.length<=40)):=hR;rw[<-hR];rw[u.row_eq]at hf|-;refine A0k hB func11 ?_;simp -dsimp -implicitDefEqProofs;refine A0i func46 hf ?_;cases c1:B6k u 30 with
 |false=>rw[c1]at a;simp only[Z0q]at a;simp -dsimp -implicitDefEqProofs[a]
 |true=>
 rw[c1,Z0s]at a;by_cases c2:l.length<=40;case neg=>
  have d:(40:Int)<l.length:=by omega
  have g:(l.length:Int)>40:=d;rw[Z0k c2]at a;simp only[Z0q]at a;simp -dsimp -implicitDefEqProofs[d,g,a]
 have d:¬(40:Int)<l.length:=by omega
 have g:¬(l.length:Int)>40:=d;rw[Z0p c2,Z0s]at a;by_cases c4:s.length<=60;case neg=>
  have f:(60:Int)<s.length:=by omega
  have k:(s.length:Int)>60:=f;rw[Z0k c4]at a;simp only[Z0q]at a;simp -dsimp -implicitDefEqProofs[d,g,f,k,a]
 have f:¬(60:Int)<s.length:=by omega
 have k:¬(s.length:Int)>60:=f;rw[Z0p c4,Z0s]at a;simp -dsimp -implicitDefEqProofs[d,g,f,k];refine A0s hB l.length 7 (λT M1=>∃i:Nat,i<=l.length/\M1=M/\T 1=.list 5 (A1A l) .no/\T 2=.list 5 (A2p s) .no/\T 7=I i/\R=(((l.drop i).all λs=>decide (s.label.size<=100))&&s.all λm=>decide (m.to.length<=40))) ?_ ?_
 .exact⟨0,by omega,rfl,by simp,by simp,by simp,by simpa using a⟩
 rintro T M1 ⟨i,i1,rfl,t1,t2,t7,ho⟩;by_cases hi:i<l.length;case neg=>
  have e:¬(i:Int)<l.length:=by omega
  rw[show l.drop i=[]from Z0n (by omega),Z3j,Z0s]at ho;simp -dsimp -implicitDefEqProofs[t1,t2,t7,e];refine A0s hB s.length 8 (λT M2=>∃j:Nat,j<=s.length/\M2=M1/\T 2=.list 5 (A2p s) .no/\T 8=I j/\R=(s.drop j).all λm=>decide (m.to.length<=40)) ?_ ?_
  .exact⟨0,by omega,rfl,by simp[t2],by simp,by simpa using ho⟩
  clear hi e t1 t2 t7 ho;rintro T M2 ⟨j,j1,rfl,t2,t8,ho⟩;by_cases hj:j<s.length;case neg=>
   (have h:¬(j:Int)<s.length:=by omega);rw[show s.drop j=[]from Z0n (by omega),Z3j]at ho
   simp -dsimp -implicitDefEqProofs[t2,t8,h,ho]
  have h:(j:Int)<s.length:=by omega
  have w1:=A1i (i:=j) (by omega);rw[Z0h hj,Z1k]at ho;by_cases c3:s[j].to.length<=40
  ·(have b:¬(40:Int)<s[j].to.length:=by omega);have c:¬(s[j].to.length:Int)>40:=b
   rw[Z0p c3,Z0s]at ho;simp -dsimp -implicitDefEqProofs[t2,t8,hj,h,A2k.row,b,c,w1];exact⟨⟨j+1,by clear w1;omega,rfl,ho⟩,by clear w1;omega⟩
  ·(have b:(40:Int)<s[j].to.length:=by omega);have c:(s[j].to.length:Int)>40:=b
   rw[Z0k c3,Z0q]at ho;simp -dsimp -implicitDefEqProofs[t2,t8,hj,h,A2k.row,b,c,ho]
 have e:(i:Int)<l.length:=by omega
 have w1:=A1i (i:=i) (by omega);rw[Z0h hi,Z1k]at ho;by_cases c3:l[i].label.size<=100
 .have b:¬(100:Int)<l[i].label.size:=by omega
  have c:¬(l[i].label.size:Int)>100:=b;rw[Z0p c3,Z0s]at ho;simp -dsimp -implicitDefEqProofs[t1,t2,t7,hi,e,A0L.row,b,c,w1];exact⟨⟨i+1,by clear w1;omega,rfl,ho⟩,by clear w1;omega⟩
 .have b:(100:Int)<l[i].label.size:=by omega
  have c:(l[i].label.size:Int)>100:=b;rw[Z0k c3]at ho;simp only[Z0q]at ho;simp -dsimp -implicitDefEqProofs[t1,t2,t7,hi,e,A0L.row,b,c,ho]
def D4G(a0:gl 0=A4A)(z:gl 1=A4S)(u:A0b)(l:List A0L)(s:List A2k)(a c:Int)(hg:u.good)(hl:l.length<=maxLen)(o:∀s∈l,s.good)(hs:s.length<=maxLen)(y:A5q (WC gl) 10 [] [] (λr _=>r=.val (.bool true))):
 A0e (WC gl) 5 [.agg u.row,.list 5 (A1A l) .no,.list 5 (A2p s) .no,I a,I c] [] (λv _=>v=B true):=by
 have j:=λM=>C8V gl u l s M hg hl hs
 have q:=D3U u hg
 have hr:=u.row_eq
 have k:=λM hf h1 h2 h3=>D6j gl a0 z u l s a c M hf h1 o h2 h3
 have d:=λM hf h1 h2 h3=>D3D gl u l s a c M hf h1 o h2 h3
 rw[hr]at j k d|-
 refine A0k hB func5 ?_
 simp -dsimp -implicitDefEqProofs
 refine A6P y ?_
 rintro _ M ⟨rfl⟩
 simp -dsimp -implicitDefEqProofs
 refine A0i func11 (j M) ?_
 cases c1:C2F u l s with
 |false=>simp -dsimp -implicitDefEqProofs
 |true=>
 have t:=c1
 simp only[C2F,Z0f,Z0o,Z0r]at t
 obtain⟨⟨⟨⟨c2,c3⟩,c4⟩,c5⟩,c6⟩:=t
 obtain⟨hf,a1⟩:=q c2
 have h3:∀m∈s,m.to.length<=40:=λm hm=>by simpa using c6 m hm
 simp -dsimp -implicitDefEqProofs
 refine A0i func20 (k M hf (by omega) (by omega) h3) ?_
 rcases C9v (u:=u) (l:=l) (s:=s) a c hf (by omega) o h3 with⟨e,he⟩|⟨b,D,he,hi,w,hD⟩
 .rw[he];simp only[he]at d;simp -dsimp -implicitDefEqProofs[A2W,A5o,A0o,A0l,A0d,AV.storable,AV.cells];obtain⟨Ma,g⟩:∃Ma,Ma=M++[B1X]:=⟨_,rfl⟩;have h:Ma[M.length]?=some B1X:=by rw[g];simp
  rw[<-g];refine A0i func21 (d Ma hf (by omega) (by omega) h3) ?_;obtain⟨Mb,f⟩:∃Mb,Mb=Ma++[B1X]:=⟨_,rfl⟩;have p:Mb[Ma.length]?=some B1X:=by rw[f];simp
  have i:Mb[M.length]?=some B1X:=by rw[f,Z0j (Z0c.1 h).1];exact h
  simp -dsimp -implicitDefEqProofs[A2W,A5o,A0o,A0l,A0d,AV.storable,AV.cells];rw[<-f];simp -dsimp -implicitDefEqProofs[A0a i,A0a p];refine A0i func22 (C4A gl Mb) ?_;simp -dsimp -implicitDefEqProofs;refine A0i func23 (C6r gl Mb) ?_;simp -dsimp -implicitDefEqProofs
 .rw[he];simp only[he]at d;simp -dsimp -implicitDefEqProofs[C2V,A0o,A0l,A0d,AV.storable,AV.cells];obtain⟨Ma,g⟩:∃Ma,Ma=M++[A8G a c (.list 25 (b.map A1Y.row) .no)]:=⟨_,rfl⟩;have h:Ma[M.length]?=some (A8G a c (.list 25 (b.map A1Y.row) .no)):=by rw[g];simp
  rw[<-g];refine A0i func21 (d Ma hf (by omega) (by omega) h3) ?_;obtain⟨Mb,f⟩:∃Mb,Mb=Ma++[A8G a c (.list 25 (b.map A1Y.row) .no)]:=⟨_,rfl⟩;have p:Mb[Ma.length]?=some (A8G a c (.list 25 (b.map A1Y.row) .no)):=by rw[f];simp
  have i:Mb[M.length]?=some (A8G a c (.list 25 (b.map A1Y.row) .no)):=by rw[f,Z0j (Z0c.1 h).1];exact h
  simp -dsimp -implicitDefEqProofs[C2V,A0o,A0l,A0d,AV.storable,AV.cells];rw[<-f];simp -dsimp -implicitDefEqProofs[A0a i,A0a p];refine A0i func22 (C7e gl a c b Mb hi w) ?_;simp -dsimp -implicitDefEqProofs;refine A0i func23 (D0g gl D Mb hD) ?_;simp -dsimp -implicitDefEqProofs
end
end Go.Abs
