/- The texts EjB, EhB0, EhF, EhG, EhQ. -/
import Derived.Test.YtmihnfpinnfnfaaGreatDoorPG29
import Derived.Test.YtmihnfpinnfnfaaGreatDoorPG26
import Derived.Test.YtmihnfpinnfnfaaGreatDoorPG27
import Derived.Test.YtmihnfpinnfnfaaGreatDoorPG25
import Derived.Test.YtmihnfpinnfnfaaGreatDoorPG28
set_option linter.all false
set_option maxRecDepth 100000
namespace Go.Abs
open Go.Proofs TryTypes Tryz
def isP(p:Prop)(v:AV):Prop:=∃b,v=B b/\(b=true->p)
def A1x(p:Prop):isP p (.val (.bool false)):=⟨false,rfl,Q1⟩
structure B1O (h:A1Q):Prop where
 ats:h.at_.length<=12
 tos:h.to.length<=12
 old:h.old.length<=300
 new:h.new.length<=300
 unit:B9c h.unit 30=true
section
variable (gl:Nat->AV)
set_option maxHeartbeats 4000000 in
def C2y:∀(x:A0G) (M:Mem),x.good->A0c (WC gl) 32 [.agg x.row] M (λv M'=>isP (B1O x.h/\∀y∈x.by_,B1O y.h) v/\M'=M)
 |.mk h by_,M,hg=>by
  obtain⟨a3,aa,w⟩:=(A0G.good_iff _).1 hg;have a2:=a3.2.2.2.2.2.1;have u:=D2v gl h.unit 30 M a2 Q0 Q0;have w:∀k∈by_,k.good:=w;rw[A0a.row_eq]at u;show A0c (WC gl) 32 [.agg (A0G.mk h by_).row] M (λv M'=>isP (B1O h/\∀y∈by_,B1O y.h) v/\M'=M);obtain⟨P,hP⟩:=ex ((B1O h/\∀y∈by_,B1O y.h));rw[<-hP];have hP:(B1O h/\∀y∈by_,B1O y.h)->P:=λe=>by rw[hP];exact e
  obtain⟨kind,at_,to,wh,p,unit,l,new,lab,m,start,q,o,day,ev⟩:=h;rw[A0G.row,A1Q.row];simp only at u|-;have hH:=λq1 q2 q3 q4 q5=>B1O.mk (h:=⟨kind,at_,to,wh,p,unit,l,new,lab,m,start,q,o,day,ev⟩) q1 q2 q3 q4 q5;simp only at hH;generalize B9c unit 30=f6 at*;refine A1c hB func32 rfl rfl rfl rfl rfl rfl ?_;by_cases c1:(12:Int)<at_.length
  .have d1:(at_.length:Int)>12:=c1;simp -dsimp -implicitDefEqProofs[c1,d1,A1x]
  have d1:¬(at_.length:Int)>12:=c1;by_cases c2:(12:Int)<to.length
  .have d2:(to.length:Int)>12:=c2;simp -dsimp -implicitDefEqProofs[c1,d1,c2,d2,A1x]
  have d2:¬(to.length:Int)>12:=c2;by_cases c3:(300:Int)<l.length
  .have d3:(l.length:Int)>300:=c3;simp -dsimp -implicitDefEqProofs[c1,d1,c2,d2,c3,d3,A1x]
  have d3:¬(l.length:Int)>300:=c3;by_cases c4:(300:Int)<new.length
  .have d4:(new.length:Int)>300:=c4;simp -dsimp -implicitDefEqProofs[c1,d1,c2,d2,c3,d3,c4,d4,A1x]
  have d4:¬(new.length:Int)>300:=c4;by_cases c5:(100:Int)<lab.size
  .have d5:(lab.size:Int)>100:=c5;simp -dsimp -implicitDefEqProofs[c1,d1,c2,d2,c3,d3,c4,d4,c5,d5,A1x]
  have d5:¬(lab.size:Int)>100:=c5;by_cases c6:(100:Int)<m.size
  .have d6:(m.size:Int)>100:=c6;simp -dsimp -implicitDefEqProofs[c1,d1,c2,d2,c3,d3,c4,d4,c5,d5,c6,d6,A1x]
  have d6:¬(m.size:Int)>100:=c6;by_cases c7:(100:Int)<start.ev.size
  .have d7:(start.ev.size:Int)>100:=c7;simp -dsimp -implicitDefEqProofs[c1,d1,c2,d2,c3,d3,c4,d4,c5,d5,c6,d6,c7,d7,A1x]
  have d7:¬(start.ev.size:Int)>100:=c7;by_cases c8:(100:Int)<ev.size
  .have d8:(ev.size:Int)>100:=c8;simp -dsimp -implicitDefEqProofs[c1,d1,c2,d2,c3,d3,c4,d4,c5,d5,c6,d6,c7,d7,c8,d8,A1x]
  have d8:¬(ev.size:Int)>100:=c8;by_cases c9:(2:Int)<by_.length
  .have d9:(by_.length:Int)>2:=c9;simp -dsimp -implicitDefEqProofs[c1,d1,c2,d2,c3,d3,c4,d4,c5,d5,c6,d6,c7,d7,c8,d8,c9,d9,A1x]
  have d9:¬(by_.length:Int)>2:=c9;simp -dsimp -implicitDefEqProofs[c1,d1,c2,d2,c3,d3,c4,d4,c5,d5,c6,d6,c7,d7,c8,d8,c9,d9];refine A0v (A0m func55 rfl rfl u) ?_;rintro _ M ⟨rfl,rfl⟩;cases f6 with
  |false=>simp -dsimp -implicitDefEqProofs[A1x]
  |true=>
  have hH:=hH Q0 Q0 Q0 Q0 rfl;have hP:=λe=>hP ⟨hH,e⟩;simp -dsimp -implicitDefEqProofs;refine A0K hB (λT M1=>∃i:Nat,i<=l.length/\T 1=.cptr [I kind,.list 2 (A0P at_) .no,.list 2 (A0P to) .no,I wh,I p,I unit.id.act,I unit.id.item,I unit.id.n,I unit.kind,S unit.label,.list 4 (A0i unit.head) .no,.list 4 (A0i unit.words) .no,.list 8 (A0q unit.kids) .no,.list 1 (A0J l) .no,.list 1 (A0J new) .no,S lab,S m,I start.k,I start.day,S start.ev,I q,I o,I day,S ev,.list 25 (A1r by_) .no]/\T 3=I i/\M1=M) (λT _=>match T 3 with|.val (.int _ i)=>l.length-i.toNat|_=>0) Q2 ?_ ?_
  .exact⟨0,Q0,Q1,Q1,rfl⟩
  rintro T1 M ⟨i1,a8,t1,t3,rfl⟩;by_cases hi1:i1<l.length;case pos=>
   have g:(i1:Int)<l.length:=Q0;have w1:=A1Y (i:=i1) Q0;by_cases c:(100:Int)<l[i1].size
   .have d:(l[i1].size:Int)>100:=c;simp -dsimp -implicitDefEqProofs[t1,t3,hi1,g,c,d,A1x]
   .have d:¬(l[i1].size:Int)>100:=c;simp -dsimp -implicitDefEqProofs[t1,t3,hi1,g,c,d,w1];exact⟨⟨i1+1,Q3,rfl⟩,Q3⟩
  have g:¬(i1:Int)<l.length:=Q0;simp -dsimp -implicitDefEqProofs[t1,t3,g];refine A0K hB (λT M1=>∃i:Nat,i<=new.length/\T 1=.cptr [I kind,.list 2 (A0P at_) .no,.list 2 (A0P to) .no,I wh,I p,I unit.id.act,I unit.id.item,I unit.id.n,I unit.kind,S unit.label,.list 4 (A0i unit.head) .no,.list 4 (A0i unit.words) .no,.list 8 (A0q unit.kids) .no,.list 1 (A0J l) .no,.list 1 (A0J new) .no,S lab,S m,I start.k,I start.day,S start.ev,I q,I o,I day,S ev,.list 25 (A1r by_) .no]/\T 4=I i/\M1=M) (λT _=>match T 4 with|.val (.int _ i)=>new.length-i.toNat|_=>0) Q2 ?_ ?_
  .exact⟨0,Q0,by simp[t1],Q1,rfl⟩
  rintro T2 M ⟨i2,a6,t1,t4,rfl⟩;by_cases hi2:i2<new.length;case pos=>
   have g:(i2:Int)<new.length:=Q0;have w1:=A1Y (i:=i2) Q0;by_cases c:(100:Int)<new[i2].size
   .have d:(new[i2].size:Int)>100:=c;simp -dsimp -implicitDefEqProofs[t1,t4,hi2,g,c,d,A1x]
   .have d:¬(new[i2].size:Int)>100:=c;simp -dsimp -implicitDefEqProofs[t1,t4,hi2,g,c,d,w1];exact⟨⟨i2+1,Q3,rfl⟩,Q3⟩
  have g:¬(i2:Int)<new.length:=Q0;simp -dsimp -implicitDefEqProofs[t1,t4,g];refine A0K hB (λT M1=>∃i:Nat,i<=at_.length/\T 1=.cptr [I kind,.list 2 (A0P at_) .no,.list 2 (A0P to) .no,I wh,I p,I unit.id.act,I unit.id.item,I unit.id.n,I unit.kind,S unit.label,.list 4 (A0i unit.head) .no,.list 4 (A0i unit.words) .no,.list 8 (A0q unit.kids) .no,.list 1 (A0J l) .no,.list 1 (A0J new) .no,S lab,S m,I start.k,I start.day,S start.ev,I q,I o,I day,S ev,.list 25 (A1r by_) .no]/\T 5=I i/\M1=M) (λT _=>match T 5 with|.val (.int _ i)=>at_.length-i.toNat|_=>0) Q2 ?_ ?_
  .exact⟨0,Q0,by simp[t1],Q1,rfl⟩
  rintro T3 M ⟨i3,a7,t1,t5,rfl⟩;by_cases hi3:i3<at_.length;case pos=>
   have g:(i3:Int)<at_.length:=Q0;have w1:=A1Y (i:=i3) Q0;by_cases c:(100:Int)<at_[i3].lab.size
   .have d:(at_[i3].lab.size:Int)>100:=c;simp -dsimp -implicitDefEqProofs[t1,t5,hi3,g,A1n.row,c,d,A1x]
   .have d:¬(at_[i3].lab.size:Int)>100:=c;simp -dsimp -implicitDefEqProofs[t1,t5,hi3,g,A1n.row,c,d,w1];exact⟨⟨i3+1,Q3,rfl⟩,Q3⟩
  have g:¬(i3:Int)<at_.length:=Q0;simp -dsimp -implicitDefEqProofs[t1,t5,g];refine A0K hB (λT M1=>∃i:Nat,i<=to.length/\T 1=.cptr [I kind,.list 2 (A0P at_) .no,.list 2 (A0P to) .no,I wh,I p,I unit.id.act,I unit.id.item,I unit.id.n,I unit.kind,S unit.label,.list 4 (A0i unit.head) .no,.list 4 (A0i unit.words) .no,.list 8 (A0q unit.kids) .no,.list 1 (A0J l) .no,.list 1 (A0J new) .no,S lab,S m,I start.k,I start.day,S start.ev,I q,I o,I day,S ev,.list 25 (A1r by_) .no]/\T 6=I i/\M1=M) (λT _=>match T 6 with|.val (.int _ i)=>to.length-i.toNat|_=>0) Q2 ?_ ?_
  .exact⟨0,Q0,by simp[t1],Q1,rfl⟩
  rintro T4 M ⟨i4,a5,t1,t6,rfl⟩;by_cases hi4:i4<to.length;case pos=>
   have g:(i4:Int)<to.length:=Q0;have w1:=A1Y (i:=i4) Q0;by_cases c:(100:Int)<to[i4].lab.size
   .have d:(to[i4].lab.size:Int)>100:=c;simp -dsimp -implicitDefEqProofs[t1,t6,hi4,g,A1n.row,c,d,A1x]
   .have d:¬(to[i4].lab.size:Int)>100:=c;simp -dsimp -implicitDefEqProofs[t1,t6,hi4,g,A1n.row,c,d,w1];exact⟨⟨i4+1,Q3,rfl⟩,Q3⟩
  have g:¬(i4:Int)<to.length:=Q0;simp -dsimp -implicitDefEqProofs[t1,t6,g];refine A0K hB (λT M1=>∃i:Nat,i<=by_.length/\T 1=.cptr [I kind,.list 2 (A0P at_) .no,.list 2 (A0P to) .no,I wh,I p,I unit.id.act,I unit.id.item,I unit.id.n,I unit.kind,S unit.label,.list 4 (A0i unit.head) .no,.list 4 (A0i unit.words) .no,.list 8 (A0q unit.kids) .no,.list 1 (A0J l) .no,.list 1 (A0J new) .no,S lab,S m,I start.k,I start.day,S start.ev,I q,I o,I day,S ev,.list 25 (A1r by_) .no]/\T 7=I i/\M1=M/\∀k,(h:k<by_.length)->k<i->B1O by_[k].h) (λT _=>match T 7 with|.val (.int _ i)=>by_.length-i.toNat|_=>0) Q2 ?_ ?_
  .exact⟨0,Q0,by simp[t1],Q1,rfl,Q0⟩
  rintro T5 M ⟨j,a9,t1,t7,rfl,z⟩;by_cases hj:j<by_.length;case neg=>have r:¬(j:Int)<by_.length:=Q0;simp -dsimp -implicitDefEqProofs[t1,t7,r];refine⟨true,rfl,λ_=>hP λy hy=>?_⟩;obtain⟨k,hk,rfl⟩:=Z2s.1 hy;exact z k hk Q0
  have r:(j:Int)<by_.length:=Q0;have w1:=A1Y (i:=j) Q0;have s:by_[j]∈by_:=Z0u hj;have a1:=A0G.by_lt (x:=.mk ⟨kind,at_,to,wh,p,unit,l,new,lab,m,start,q,o,day,ev⟩ by_) s;have ih:=C2y by_[j] M (w _ s);obtain⟨h2,b2,hb⟩:∃h2 b2,by_[j]=.mk h2 b2:=by
   cases hq:by_[j]with
   |mk a b=>exact⟨a,b,rfl⟩
  have hr:by_[j].row=h2.row (.list 25 (A1r b2) .no):=by rw[hb,A0G.row]
  rw[hr,A1Q.row]at ih;rw[A1Q.row]at hr;by_cases c:0<b2.length;case neg=>
   have c':¬(0:Int)<b2.length:=Q0;have d:¬(b2.length:Int)>0:=c';simp -dsimp -implicitDefEqProofs[t1,t7,hj,r,hr,c,c',d];refine A0v (A0m func32 rfl rfl ih) ?_;rintro _ M ⟨⟨b,rfl,t⟩,rfl⟩;cases b with
   |false=>simp -dsimp -implicitDefEqProofs[A1x]
   |true=>
    simp -dsimp -implicitDefEqProofs[t1,t7,w1];refine⟨⟨j+1,Q3,rfl,λk hk a1=>?_⟩,Q3⟩;by_cases e:k=j
    .subst e;exact(t rfl).1
    .exact z k hk Q3
  have c':(0:Int)<b2.length:=Q0;have d:(b2.length:Int)>0:=c';obtain⟨h3,b3,a4⟩:∃h3 b3,b2[0]=.mk h3 b3:=by
   cases hq:b2[0]with
   |mk a b=>exact⟨a,b,rfl⟩
  have a0:b2[0].row=h3.row (.list 25 (A1r b3) .no):=by rw[a4,A0G.row]
  rw[A1Q.row]at a0;by_cases e:0<b3.length;case pos=>have e':(0:Int)<b3.length:=Q0;have f:(b3.length:Int)>0:=e';simp -dsimp -implicitDefEqProofs[t1,t7,hj,r,hr,c,c',d,a0,e,e',f,A1x]
  have e':¬(0:Int)<b3.length:=Q0;have f:¬(b3.length:Int)>0:=e';simp -dsimp -implicitDefEqProofs[t1,t7,hj,r,hr,c,c',d,a0,e,e',f];refine A0v (A0m func32 rfl rfl ih) ?_;rintro _ M ⟨⟨b,rfl,t⟩,rfl⟩;cases b with
  |false=>simp -dsimp -implicitDefEqProofs[A1x]
  |true=>
   simp -dsimp -implicitDefEqProofs[t1,t7,w1];refine⟨⟨j+1,Q3,rfl,λk hk a1=>?_⟩,Q3⟩;by_cases e:k=j
   .subst e;exact(t rfl).1
   .exact z k hk Q3
termination_by x=>SizeOf.sizeOf x
end
mutual
def A1v(x:IdD)(f:A0a->A0a):A0a->A0a
 |.mk id k l h w ks=>if id=x then f (.mk id k l h w ks)else .mk id k l h w (A8v x f ks)
def A8v(x:IdD)(f:A0a->A0a):List A0a->List A0a
 |[]=>[]
 |k::ks=>if(A0O x k).isSome=true then A1v x f k::ks else k::A8v x f ks
end
def B1M(u:A0a)(ks:List A0a):A0a:=.mk u.id u.kind u.label u.head u.words ks
def B2n(ws:List A0z)(u:A0a):A0a:=.mk u.id u.kind u.label u.head ws u.kids
def B9s(ws:List A0z)(u:A0a):A0a:=.mk u.id u.kind u.label ws u.words u.kids
def A5R(l:ByteArray)(u:A0a):A0a:=.mk u.id u.kind l u.head u.words u.kids
def B0s(i:Nat)(u:A0a):A0a:=B1M u (u.kids.eraseIdx i)
def A8V(i:Nat)(x:A0a)(u:A0a):A0a:=B1M u (u.kids.take i++x::u.kids.drop i)
def B2J(l part:List ByteArray):Nat->Nat->List Nat
 |0,_=>[]
 |n+1,i=>if i+part.length<=l.length then(if(l.drop i).take part.length=part then i::B2J l part n (i+part.length)else B2J l part n (i+1))else[]
def B3Z(l part:List ByteArray):List Nat:=if part=[]then[]else B2J l part (l.length+1) 0
def A5Z(w:List A0z)(part:List ByteArray)(nth:Int):List Nat:=
 let l:=B3Z (A1k w) part
 if nth=0 then l else if nth>l.length then[]else(l.drop (nth.toNat-1)).take 1
def C4L(w:List A0z)(at_ gone:Nat)(fresh:List A0z):List A0z:=w.take at_++fresh++w.drop (at_+gone)
def A9W(gone:Nat)(fresh:List ByteArray)(act item:Int)(w:List A0z):List Nat->Nat->List A0z
 |[],_=>w
 |p::ps,i=>C4L (A9W gone fresh act item w ps (i+1)) p gone (A2h act item (i*fresh.length) fresh)
def B1S(w:List A0z)(l:List Nat)(gone:Nat)(fresh:List ByteArray)(act item:Int):List A0z×Int:=if 256<(A9W gone fresh act item w l 0).length then([],6)else(A9W gone fresh act item w l 0,0)
def A4M(w:List A0z)(old new:List ByteArray)(nth act item:Int):List A0z×Int:=
 let l:=A5Z w old nth
 if l=[]then([],4)else B1S w l old.length new act item
def A3K(w:List A0z)(part new:List ByteArray)(nth act item:Int):List A0z×Int:=
 if part=[]then B1S w [0] 0 new act item
 else(let l:=A5Z w part nth;if l=[]then([],4)else B1S w (l.map (·+part.length)) 0 new act item)
def AWp.pre_still{C:Ctx}{N:Nat}{c:Code}{Q:Exit->Env->Mem->Prop}{T:Env}{M:Mem}(n:Nat)(T2:Env)(h1:∀k,Still M n (λ_=>True) [T k] [T2 k])(h:AWp C N c Q T2 (A3i M n)):AWp C N c Q T M:=by
 intro G w a hi he;obtain⟨G2,g1,g2,g3⟩:=B2O hi n;refine Code.wp_mono ?_ (h G2 w a g2 ⟨he.defers,he.size,λi hi=>?_⟩)
 .rintro e a' w' ⟨T1,M1,G1,k2,k3,k4,k5,k6⟩;exact⟨T1,M1,G1,k2,g1.trans k3,k4,k5,k6⟩
 have hr:=g3 _ _ [a.tmps.getD i undef] (h1 i) (by simp only[A0s];exact⟨_,[],rfl,he.at_ i hi,rfl⟩);simp only[A0s]at hr;obtain⟨y,ys,e,hd,-⟩:=hr;simp only[Z2w]at e;obtain⟨rfl,rfl⟩:=e;exact hd
section
variable {P:Program} {t e:TypeId} {sz:Nat} {rows:List (List AV)} {own:Own} {i h:Nat}
def B9R(he:A1b P t=some e)(hs:A1j P e=some sz)(h1:i<=h)(h2:h<=rows.length):A1W P t (.list sz rows own) (some (I i)) (some (I h)) none=some (.list sz ((rows.take h).drop i) (A6k rows.length i h none own)):=by have e1:(h:Int)<=rows.length:=Q0;have e2:(i:Int)<=h:=Q0;simp[A1W,A3G,A3N,A1s,he,hs,e1,e2]
def C8Z(he:A1b P t=some e)(hs:A1j P e=some sz)(h1:i<=rows.length):A1W P t (.list sz rows own) (some (I i)) none none=some (.list sz (rows.drop i) (A6k rows.length i rows.length none own)):=by have e2:(i:Int)<=rows.length:=Q0;simp[A1W,A3G,A3N,A1s,he,hs,e2]
def C8L(he:A1b P t=some e)(hs:A1j P e=some sz)(h2:h<=rows.length):A1W P t (.list sz rows own) none (some (I h)) (some (I h))=some (.list sz (rows.take h) .full):=by have e1:(h:Int)<=rows.length:=Q0;simp[A1W,A3G,A3N,A1s,he,hs,e1,A6k]
end
def D9A{C:Ctx}{N:Nat}{c:Code}{Q:Post}{T:Env}{M:Mem}{tg:Tag (c,Q)}(n:Nat)(T2:Env)(h1:∀k,Still M n (λ_=>True) [T k] [T2 k])(h:wWp C N c Q T2 (A3i M n) ⟨⟩):wWp C N c Q T M tg:=AWp.pre_still n T2 h1 h
def D7g{C:Ctx}{N:Nat}{c:Code}{Q:Post}{T:Env}{M:Mem}{tg:Tag (c,Q)}(n s:Nat)(d:AV)(h1:Still M n (λ_=>True) [T s] [d])(h:wWp C N c Q (λk=>if k=s then d else T k) (A3i M n) ⟨⟩):wWp C N c Q T M tg:=
 D9A n _ (λk=>by
  by_cases hk:k=s;· subst hk;simpa using h1
  .simp only[hk,Z2b];exact .same trivial .nil) h
def D3t{C:Ctx}{own vec:Bool}{st xt e:TypeId}{sz bytes:Nat}{s x:AV}{M:Mem}{K:AV->Mem->Prop}{r:AV×Mem}{tg:Tag K}(h1:A1b C.P st=some e)(h2:A4l C.P xt)(h3:A3X C.P e sz bytes)(hv:B6f vec s=false)(hs:(B1x sz s&&B1x sz x)=true) (h6:(A6P s+A6P x)*bytes<=140737488355328)(ha:A9p own sz s x M=some r)(hk:K r.1 r.2):A3s C own vec st xt s x M K tg:=by
 refine⟨e,sz,bytes,⟨h1,h2,h3⟩,?_⟩
 have e1:A6n own vec e sz bytes s x M=some r:=by simp only[A6n,hv,hs,h6,ha];rfl
 rw[e1];exact hk
def A6x(n:Nat):List AV:=[I n]
abbrev A8a(l:List Nat):List (List AV):=l.map A6x
def D1m(m n:Nat):A1l m (A6x n):=by simp[A6x,A1l,bdd]
section
variable (gl:Nat->AV)
def C0i(p q:List ByteArray)(o1 o2:Own)(M:Mem)(hp:p.length<=1000000):A0c (WC gl) 174 [.list 1 (A0J p) o1,.list 1 (A0J q) o2] M (λv M'=>v=B (decide (p=q))/\M'=M):=by
 refine A0t hB func174 ?_;by_cases hl:p.length=q.length;case neg=>have b:¬(p.length:Int)=q.length:=Q0;have hr:¬p=q:=λe=>hl (by rw[e]);simp -dsimp[b,hr]
 have b:(p.length:Int)=q.length:=Q0;simp -dsimp[b];refine A0K hB (λT M1=>∃i:Nat,M1=M/\i<=p.length/\T 0=.list 1 (A0J p) o1/\T 1=.list 1 (A0J q) o2/\T 12=I q.length/\T 13=I i/\(p=q<->p.drop i=q.drop i)) (λT M1=>match T 13 with|.val (.int _ i)=>p.length-i.toNat|_=>0) Q2 ?_ ?_
 .exact⟨0,rfl,Q0,Q1,Q1,by simp[b],Q1,Q1⟩
 rintro T M1 ⟨i,rfl,h1,t0,t1,d,f,h2⟩;by_cases hi:i<p.length
 .have a:(i:Int)<q.length:=Q0;have g:(i:Int)<p.length:=Q0;have hq:i<q.length:=Q0;have w1:=A1Y (i:=i) Q0;rw[Z0o hi,Z0o hq,Z2w]at h2;simp -dsimp[t0,t1,d,f,a];refine A0Z hB (A0E gl) (λ_=>0) (λ_=>0) (by rfl) Q2 ?_;by_cases c:p[i]=q[i]
  .simp -dsimp[t0,t1,d,f,hi,a,hq,g,c,w1];exact⟨⟨i+1,Q3,rfl,h2.trans ⟨λh=>h.2,λh=>⟨c,h⟩⟩⟩,Q3⟩
  .have hr:¬p=q:=λe=>c (h2.1 e).1;simp -dsimp[t0,t1,d,f,hi,a,hq,g,c,hr]
 .have a:¬(i:Int)<q.length:=Q0;rw[Z0y Q0,Z0y Q0]at h2;have hr:p=q:=h2.2 rfl;simp -dsimp[t0,t1,d,f,a,hr]
def C9k(l part:List ByteArray)(o1 o2:Own)(M:Mem)(hl:l.length<=1000000)(hp:part.length<=1000000):A0c (WC gl) 260 [.list 1 (A0J l) o1,.list 1 (A0J part) o2] M (λv M'=>Grow M M'/\Arr 3 1 A6x M.length M' v (B3Z l part)):=by
 refine A0t (hQ [32]) func260 ?_;by_cases h0:part=[]
 .have g:((part.length:Nat):Int)=0:=by rw[h0];rfl
  have:B3Z l part=[]:=Z0c h0;rw[this];simp -dsimp[g,h0];exact⟨Grow.refl _,Arr.nil⟩
 have r:0<part.length:=Z1G.2 h0;have g:¬((part.length:Nat):Int)=0:=Q0;have k:B3Z l part=B2J l part (l.length+1) 0:=Z0d h0;simp -dsimp[g,h0];refine A0K (hQ [32]) (λT Mi=>∃(i n:Nat) (b:List Nat),i<=l.length/\l.length+1<=n+i/\B3Z l part=b++B2J l part n i/\b.length<=i/\T 0=.list 1 (A0J l) o1/\T 1=.list 1 (A0J part) o2/\T 6=I i/\Grow M Mi/\Arr 3 1 A6x M.length Mi (T 5) b) (λT M1=>match T 6 with|.val (.int _ i)=>l.length+1-i.toNat|_=>0) Q2 ?_ ?_
 .exact⟨0,l.length+1,[],Q0,Q0,by rw[k];rfl,Q1,Q1,Q1,Q1,Grow.refl _,by simpa using Arr.nil⟩
 rintro T Mi ⟨i,n,b,hi,hn,a,u,t0,t1,t6,hg,ha⟩;obtain⟨n,rfl⟩:∃m,n=m+1:=⟨n-1,Q0⟩;rw[B2J]at a;have w1:IntKind.i64.wrap ((i:Int)+part.length)=(i:Int)+part.length:=by rw[A0R Q0 Q0]
 generalize f:T 5=ov at*;by_cases hin:i+part.length<=l.length;case neg=>have c:¬(i:Int)+part.length<=l.length:=Q0;rw[Z0d hin,Z1g]at a;rw[a];simp -dsimp[t0,t1,t6,f,w1,c];exact⟨hg,ha⟩
 rw[Z0c hin]at a;obtain⟨m,hm⟩:=ex (i+part.length);have p:(i:Int)+part.length=(m:Nat):=Q0;replace w1:=w1.trans p;have c:(m:Int)<=l.length:=Q0;have d:=B9R (P:=prog) (t:=67) (e:=9) (sz:=1) (rows:=A0J l) (own:=o1) (i:=i) (h:=m) Q1 Q1 Q0 (by simp;omega);obtain⟨ow,q⟩:=ex (A6k (A0J l).length i m none o1);rw[<-q]at d;have j:((A0J l).take m).drop i=A0J ((l.drop i).take part.length):=by rw[hm,Z2C,show i+part.length-i=part.length by omega];simp only[A0J,Z3d,Z4B]
 rw[j]at d;obtain⟨w,hw⟩:=ex ((l.drop i).take part.length);rw[<-hw]at a d;have s:w.length=part.length:=by rw[hw,Z0s,Z0G];omega
 have o:=C0i gl w part ow o2 Mi Q0;have w2:IntKind.i64.wrap ((i:Int)+1)=(i+1:Nat):=by rw[A0R Q0 Q0];omega
 simp -dsimp[t0,t1,t6,f,w1,c,d];refine A0h func174 o ?_;by_cases hc:w=part
 .rw[Z0c hc]at a;rw[Z0B hc];simp -dsimp[t0,t1,t6,f,A0w,A1e,AV.storable,AV.cells];refine A3u (C:=WC gl) (enc:=A6x) (e:=3) (sz:=1) (news:=[i]) B2w C0a C8K (λ_=>rfl) ha.own (by simp[A0D,A6x]) (by simp;omega) rfl ?_;intro v' M' h1 h2 h3 _;obtain⟨g1,g2⟩:=A2R (X:=[]) hg ha.lat (by simpa using h2) (by simpa using h3);simp -dsimp[t0,t1,t6,w1];refine⟨⟨m,Q0,n,Q0,b++[i],by rw[a,Z0F,hm];rfl,by simp;omega,rfl,g1,⟨h1,g2⟩⟩,Q0⟩
 .rw[Z0d hc]at a;rw[Z0I hc];simp -dsimp[t0,t1,t6,f,w2];refine⟨⟨i+1,Q0,n,Q0,b,a,Q0,Q1,hg,ha⟩,Q0⟩
def C3u(l part:List ByteArray)(o1 o2:Own)(M:Mem)(hl:l.length<=1000000)(hp:part.length<=1000000):A0c (WC gl) 260 [.list 1 (A0J l) o1,.list 1 (A0J part) o2] M (λv M'=>v=.list 1 (A8a (B3Z l part)) .no/\M'=M):=A0c.still (enc:=A6x) (λ_=>rfl) D1m ((C9k gl l part o1 o2 M hl hp).mono λ_ _ h=>⟨h.2.own,h.1,h.2.lat⟩)
def B7K(l part:List ByteArray):∀(n i:Nat),(B2J l part n i).length<=n
 |0,i=>by simp[B2J]
 |n+1,i=>by
  have h1:=B7K l part n (i+part.length);have h2:=B7K l part n (i+1);rw[B2J];split
  .split
   .simpa using h1
   .omega
  .simp
def C4O(l part:List ByteArray):(B3Z l part).length<=l.length+1:=by
 unfold B3Z;split
 .simp
 .exact B7K _ _ _ _
def B9M(w:List A0z)(part:List ByteArray)(o:Own)(b:Int)(M:Mem)(hw:w.length<=1000000)(hp:part.length<=1000000)(hn:0<=b):A0c (WC gl) 224 [.list 4 (A0i w) .no,.list 1 (A0J part) o,I b] M (λv M'=>v=.list 1 (A8a (A5Z w part b)) .no/\M'=M):=by
 refine A0c.dataX ?_;have h1:=B7x gl w .no M Q0;have h2:=C3u gl (A1k w) part .no o M (by simp[A1k];omega) hp;obtain⟨l,hl⟩:=ex (B3Z (A1k w) part);have hb:∀l:List Nat,bdd M.length (.list 1 (A8a l) .no):=λl=>by
  simp only[bdd,Z1z];induction l with
  |nil=>simp[A4f]
  |cons a l ih=>simp only[Z0w,A4f]at ih|-;exact⟨by simp[A6x,A1l,bdd],ih⟩
 rw[<-hl]at h2;have d:A5Z w part b=if b=0 then l else if b>l.length then[]else(l.drop (b.toNat-1)).take 1:=by rw[hl];rfl
 rw[d];obtain⟨q,hq⟩:=ex ((l.drop (b.toNat-1)).take 1);have j:l.length<=1000001:=by
  rw[hl];have h:=C4O (A1k w) part;have e:(A1k w).length=w.length:=by simp[A1k]
  omega
 rw[<-hq];refine A0t hB func224 ?_;simp -dsimp;refine A0h func261 h1 ?_;simp -dsimp;refine A0h func260 h2 ?_;by_cases h0:b=0
 .simp -dsimp[h0];exact⟨Grow.refl _,.same (hb l) .nil⟩
 by_cases h3:b>l.length
 .simp -dsimp[h0,h3];exact⟨Grow.refl _,.nilS .nil⟩
 obtain⟨m,hm⟩:∃m:Nat,b=(m:Int)+1:=⟨(b-1).toNat,Q0⟩;have w1:IntKind.i64.wrap (b-1)=(m:Nat):=by rw[A0R Q0 Q0];omega
 have g:b=((m+1:Nat):Int):=Q0;have c:=B9R (P:=prog) (t:=82) (e:=3) (sz:=1) (rows:=A8a l) (own:=.no) (i:=m) (h:=m+1) Q1 Q1 Q0 (by simp;omega);rw[<-g]at c;have f:((A8a l).take (m+1)).drop m=A8a ((l.drop (b.toNat-1)).take 1):=by rw[show b.toNat-1=m by omega,Z2C,show m+1-m=1 by omega];simp only[Z3d,Z4B]
 rw[f,<-hq]at c;simp -dsimp[h0,h3,w1,c];exact⟨Grow.refl _,.dis (hb _) .nil⟩
def C6Q{ws:List A0z}{M:Mem}(hl:ws.length<=100000):∃zs,A5a prog 27 (I ws.length) (I ws.length) M=some (.vref M.length 0 4 0 ws.length,M++[.vec 233 4 zs 0 [(0,ws.length)]])/\A8M prog 27 27 (M++[.vec 233 4 zs 0 [(0,ws.length)]]) (.vref M.length 0 4 0 ws.length) (.list 4 (A0i ws) .no)=some (I ws.length,M++[.vec 233 4 (ws.flatMap A0z.row) 0 [(0,ws.length)]]):=by
 have hz:((List.replicate ws.length [AV.val (.string ⟨#[]⟩),I 0,I 0,I 0]).flatten).length=ws.length*4:=by simp[Z3K]
 have c:B6j prog 233=some 40:=Q2
 refine⟨(List.replicate ws.length [AV.val (.string ⟨#[]⟩),I 0,I 0,I 0]).flatten,?_,?_⟩
 .have h1:(ws.length:Int).toNat*4<=16777216:=Q0;have h2:ws.length*4<=16777216:=Q0;have h3:(40:Int)*ws.length<=281474976710656:=Q0;simp[A5a,c,h2,h3]
 .have a:(ws.flatMap A0z.row).length=ws.length*4:=A1Z (enc:=A0z.row) (sz:=4) (λ_=>rfl) ws;have f:A0e (List.replicate ws.length [AV.val (.string ⟨#[]⟩),I 0,I 0,I 0]).flatten 0 (ws.flatMap A0z.row)=ws.flatMap A0z.row:=by unfold A0e;rw[Z2m,Z1v,Z0P,Z1r (by rw[hz,a];exact Z0j _),Z1g]
  have b:(M++[A0l.vec 233 4 (List.replicate ws.length [AV.val (.string ⟨#[]⟩),I 0,I 0,I 0]).flatten 0 [(0,ws.length)]])[M.length]?=some (.vec 233 4 (List.replicate ws.length [AV.val (.string ⟨#[]⟩),I 0,I 0,I 0]).flatten 0 [(0,ws.length)]):=by simp
  have d:(A0i ws).flatten=ws.flatMap A0z.row:=by simp[A0i,List.flatMap]
  have e:(A0i ws).length=ws.length:=by simp
  simp only[A8M,B6E,E0U,A0D,e,d,b,List.lookup,Z2D];by_cases h0:ws.length=0
  .have:ws=[]:=Z0v h0;subst this;simp
  .simp only[Z1I,f];simp[h0,A0V,a,-List.length_flatMap]
def B3l(c b:Int):∀(l:List ByteArray) (n:Nat),(A2h c b n l).length=l.length
 |[],n=>by simp[A2h]
 |a::l,n=>by simp[A2h,B3l c b l]
def C2S(c:Nat)(d:List ByteArray)(f e:Int)(w:List A0z):∀(ps:List Nat) (i q:Nat),(∀p∈ps,p+c<=w.length)->(q::ps).Pairwise (λa b=>a+c<=b)->q+c<=w.length->q+c<=(A9W c d f e w ps i).length
 |[],i,q,_,_,h=>by rw[A9W];exact h
 |p::ps,i,q,hin,hpw,h=>by obtain⟨h1,h2⟩:=Z1d.1 hpw;have:=C2S c d f e w ps (i+1) p (λx hx=>hin x (by simp[hx])) h2 (hin p Q1);have:=h1 p Q1;rw[A9W];simp only[C4L,Z0k,Z0s,Z0G];omega
def C0T(b:Nat)(a:List ByteArray)(d c:Int)(w:List A0z):∀(ps:List Nat) (i:Nat),(A9W b a d c w ps i).length<=w.length+ps.length*a.length
 |[],i=>by rw[A9W];simp
 |p::ps,i=>by have:=C0T b a d c w ps (i+1);rw[A9W];simp only[C4L,Z0k,Z0s,Z0G,B3l,Z0q];rw[Z0Q];omega
def hPu:A2j:=⟨λ_=>true,λd=>d==52,λ_=>false⟩
@[simp] def E1Q:hPu.own=λd=>d==52:=(rfl)
@[simp] def E2o:hPu.vec=λ_=>false:=(rfl)
def B4F(w:List A0z)(ps:List Nat)(d:Nat)(c:List ByteArray)(o o2:Own)(u g:Int)(M:Mem)(hw:w.length<=1000)(av:ps.length<=1000)(ag:c.length<=1000)(b0:d<=1000)
 (ae:∀p∈ps,p+d<=w.length)(aj:ps.Pairwise λa b=>a+d<=b):
 A0c (WC gl) 225 [.list 4 (A0i w) .no,.list 1 (A8a ps) o2,I d,.list 1 (A0J c) o,I u,I g] M (λv M'=>v=.tuple [.list 4 (A0i (B1S w ps d c u g).1) .no,I (B1S w ps d c u g).2]/\M'=M):=by
 refine A0c.dataX ?_
 obtain⟨zs,ah,a5⟩:=C6Q (ws:=w) (M:=M) Q0
 have w0:IntKind.i64.wrap ((ps.length:Int)-1)=(ps.length:Int)-1:=by rw[A0R Q0 Q0]
 refine A0t hPu func225 ?_
 simp -dsimp[ah,a5,w0]
 have ho:A1p 233 4 A0z.row (M++[A0l.vec 233 4 (w.flatMap A0z.row) 0 [(0,w.length)]]) (.vref M.length 0 4 0 w.length) w:=.inr ⟨M.length,0,[(0,w.length)],rfl,Q1,by simp[List.lookup]⟩
 have ac:=(A2T (n:=M.length) (enc:=A0z.row) (λ_=>rfl) A4B ho (λf hf=>by simp at hf;omega)).any
 refine D7g M.length 14 _ (by simpa using ac) ?_
 have ai:Grow M (A3i (M++[A0l.vec 233 4 (w.flatMap A0z.row) 0 [(0,w.length)]]) M.length):=B8f (A0d.app none M _)
 clear ho ac ah a5
 generalize A3i (M++[A0l.vec 233 4 (w.flatMap A0z.row) 0 [(0,w.length)]]) M.length=M0 at*
 refine A0K hPu (λT Mi=>∃(i:Nat) (ow:Own),i<=ps.length/\T 1=.list 1 (A8a ps) o2/\T 2=I d/\T 3=.list 1 (A0J c) o/\T 4=I u/\T 5=I g/\T 14=.list 4 (A0i (A9W d c u g w (ps.drop i) i)) ow/\T 15=I ((i:Int)-1)/\Grow M Mi) (λT _=>match T 15 with|.val (.int _ i)=>(i+1).toNat|_=>0) Q2 ?_ ?_
 .exact⟨ps.length,.no,Q0,Q1,Q1,Q1,Q1,Q1,by simp[A9W,A0i],Q1,ai⟩
 clear ai
 rintro T Mi ⟨i,ow,hi,t1,t2,t3,t4,t5,a0,y,hg⟩
 cases i with
 |zero=>
  rw[Z1x]at a0
  have y:T 15=I (-1):=by rw[y];rfl
  obtain⟨s,z⟩:=ex (A9W d c u g w ps 0)
  have aq:B1S w ps d c u g=if 256<s.length then([],6)else(s,0):=by rw[z];rfl
  rw[<-z]at a0
  rw[aq]
  have hb:∀l:List A0z,bdd M.length (.list 4 (A0i l) .no):=λl=>by simp only[bdd,Z1z];exact A2v _ _
  by_cases hc:256<s.length
  .have a3:(256:Int)<s.length:=Q0;rw[Z0c hc];simp -dsimp[t1,t2,t3,t4,t5,a0,y,a3];exact⟨hg,.tuple (.nilS (.same trivial .nil)) .nil⟩
  .have a3:¬(256:Int)<s.length:=Q0;rw[Z0d hc];simp -dsimp[t1,t2,t3,t4,t5,a0,y,a3];exact⟨hg,.tuple (.dis (hb s) (.same trivial .nil)) .nil⟩
 |succ j=>
  obtain⟨s,z⟩:=ex (A9W d c u g w (ps.drop (j+1)) (j+1))
  obtain⟨p,hp⟩:=ex (ps[j])
  have ab:ps.drop j=p::ps.drop (j+1):=by rw[Z0o Q0,hp]
  have al:p∈ps:=by rw[hp];exact Z0u _
  have ax:p+d<=s.length:=by rw[z];exact C2S d c u g w _ _ p (λx hx=>ae x (Z1l hx)) (by rw[<-ab];exact aj.sublist (List.drop_sublist _ _)) (ae p al)
  have ay:s.length<=1001000:=by have h1:=C0T d c u g w (ps.drop (j+1)) (j+1);rw[<-z]at h1;have h2:(ps.drop (j+1)).length*c.length<=1000*1000:=Z4x (by simp;omega) ag;omega
  rw[<-z]at a0
  have y:T 15=I j:=by rw[y];congr 2;omega
  have hj:j<ps.length:=Q0
  have ap:(j:Int)<ps.length:=Q0
  have am:(j:Int)>=0:=Q0
  have an:ps[j]=p:=hp.symm
  obtain⟨m,hm⟩:=ex (p+d)
  obtain⟨mj,a2⟩:=ex (j*c.length)
  have w1:IntKind.i64.wrap ((p:Int)+d)=(m:Int):=by rw[A0R Q0 Q0];omega
  have a7:j*c.length<=1000*1000:=Z4x Q0 ag
  have w2:IntKind.i64.wrap ((j:Int)*c.length)=(mj:Int):=by rw[<-Int.natCast_mul,<-a2,A0R Q0 Q0]
  have w3:IntKind.i64.wrap ((j:Int)-1)=(j:Int)-1:=by rw[A0R Q0 Q0]
  rw[<-a2]at a7
  have a8:=C8Z (P:=prog) (t:=27) (e:=233) (sz:=4) (rows:=A0i s) (own:=ow) (i:=m) Q1 Q1 (by simp;omega)
  have aa:=C8L (P:=prog) (t:=27) (e:=233) (sz:=4) (rows:=A0i s) (own:=ow) (h:=p) Q1 Q1 (by simp;omega)
  obtain⟨aw,a6⟩:=ex (A6k (A0i s).length m (A0i s).length none ow)
  rw[<-a6,show(A0i s).drop m=A0i (s.drop m)by simp[A0i,Z4B]]at a8
  rw[show(A0i s).take p=A0i (s.take p)by simp[A0i,Z3d]]at aa
  have ad:=λM=>B2G gl c o u g mj M Q0 Q0
  obtain⟨fr,a1⟩:=ex (A2h u g mj c)
  have au:fr.length=c.length:=by rw[a1,B3l]
  rw[<-a1]at ad
  simp -dsimp[t1,t2,t3,t4,t5,a0,y,hj,ap,am,an,A6x,w1,a8]
  refine A0Z hPu (A0E gl) (λk=>if k=12\/k=14 then 2 else 0) (λ_=>0) (by rfl) Q2 ?_
  simp -dsimp[t1,t2,t3,t4,t5,a0,y,aa,w2]
  refine A2p func143 ad ?_
  simp -dsimp[t1,t2,t3,t4,t5,a0,y]
  obtain⟨A,hA⟩:=ex (s.take p)
  obtain⟨D,hD⟩:=ex (s.drop m)
  have hAl:A.length<=1001000:=by rw[hA,Z0s];omega
  have az:D.length<=1001000:=by rw[hD,Z0G];omega
  rw[<-hA,<-hD]
  obtain⟨q,hq⟩:=ex (Mi.length)
  obtain⟨M2,a4⟩:=ex (Mi++[A0l.fam (A.length+fr.length) 4])
  have ar:M2[q]?=some (A0l.fam (A.length+fr.length) 4):=by rw[a4,hq];simp
  have ao:Grow M M2:=hg.trans (by rw[a4];exact A0d.app none _ _)
  have ak:A0i A++A0i fr=A0i (A++fr):=by simp[A0i]
  have af:A0i (A++fr)++A0i D=A0i (A++fr++D):=by simp[A0i]
  refine D3t (e:=233) (sz:=4) (bytes:=40) (r:=(.list 4 (A0i (A++fr)) (.fam q),M2)) B6E C7m C1O (by cases A<;>rfl) rfl (by simp[A6P,A8Q];omega) (by simp[A9p,A8Q,a4,hq,ak]) ?_
  simp -dsimp[t1,t2,t3,t4,t5,a0,y]
  refine D3t (e:=233) (sz:=4) (bytes:=40) (r:=(.list 4 (A0i (A++fr++D)) (.fam q),M2.set q (.fam (A.length+fr.length+D.length) 4))) B6E C7m C1O (by cases A<;>cases fr<;>rfl) rfl (by simp[A6P,A8Q];omega) (by simp only[A9p,A8Q,ar,C9f,Z0k];rw[Z0c ⟨trivial,trivial⟩,af]) ?_
  simp -dsimp[t1,t2,t3,t4,t5,a0,y,w3]
  have a9:A9W d c u g w (ps.drop j) j=A++fr++D:=by rw[ab,A9W,<-z,C4L,hA,a1,hD,a2,hm]
  exact⟨j,Q0,by rw[a9,Z0F],rfl,A0u ao (by have:=hg.1;omega)⟩
end
def B6k(l part:List ByteArray):∀(n i:Nat),∀p∈B2J l part n i,i<=p/\p+part.length<=l.length
 |0,i,p,h=>by rw[B2J]at h;simp at h
 |n+1,i,p,h=>by
  rw[B2J]at h;split at h
  .split at h
   .rcases Z0r.1 h with rfl|h
    .omega
    .have:=B6k l part n _ p h;omega
   .have:=B6k l part n _ p h;omega
  .simp at h
def C1R(l part:List ByteArray):∀(n i:Nat),(B2J l part n i).Pairwise λa b=>a+part.length<=b
 |0,i=>by rw[B2J];exact .nil
 |n+1,i=>by
  rw[B2J];split
  .split
   .exact Z1d.2 ⟨λp hp=>(B6k l part n _ p hp).1,C1R l part n _⟩
   .exact C1R l part n _
  .exact .nil
def B2o(w:List A0z)(part:List ByteArray)(nth:Int):(A5Z w part nth).Sublist (B3Z (A1k w) part):=by
 unfold A5Z;simp only;split
 .exact Z4a _
 .split
  .exact List.nil_sublist _
  .exact(List.take_sublist _ _).trans (List.drop_sublist _ _)
def D4i(l part:List ByteArray):∀p∈B3Z l part,p+part.length<=l.length:=by
 unfold B3Z;split
 .simp
 .exactλp h=>(B6k l part _ _ p h).2
def D5o(l part:List ByteArray):(B3Z l part).Pairwise λa b=>a+part.length<=b:=by
 unfold B3Z;split
 .exact .nil
 .exact C1R _ _ _ _
section
variable (w:List A0z) (part:List ByteArray) (nth:Int)
def B9O:∀p∈A5Z w part nth,p+part.length<=w.length:=λp h=>by have:=D4i (A1k w) part p ((B2o w part nth).subset h);simpa[A1k]using this
def C0n:(A5Z w part nth).Pairwise λa b=>a+part.length<=b:=(D5o (A1k w) part).sublist (B2o w part nth)
def B0b:(A5Z w part nth).length<=w.length+1:=by
 have h1:=(B2o w part nth).length_le;have h2:=C4O (A1k w) part;have e:(A1k w).length=w.length:=by simp[A1k]
 omega
end
def B7H(k i:Nat)(l:List Nat):List Nat:=(l.take i).map (·+k)++l.drop i
section
variable {k i:Nat} {l:List Nat}
def B8x:(B7H k i l).length=l.length:=by simp[B7H];omega
def D1v:B7H k l.length l=l.map (·+k):=by simp[B7H]
def D2J(h:i<l.length):(B7H k i l)[i]'(by rw[B8x];exact h)=l[i]:=by simp[B7H,List.getElem_append,Z1C (Z4g h)]
def D1t(h:i<l.length):(B7H k i l).set i (l[i]+k)=B7H k (i+1) l:=by
 unfold B7H;rw[Z3D _ _ (by simp;omega),show i-((l.take i).map (·+k)).length=0 by simp;omega]
 conv=>lhs;rw[Z0o h]
 rw[Z3Q,Z1p h,Z1c,Z0F];rfl
end
section
variable (gl:Nat->AV)
def B4K(n:Nat)(l:List A0z):bdd n (.list 4 (A0i l) .no):=by simp only[bdd,Z1z];exact A2v _ _
def C5L(w:List A0z)(a new:List ByteArray)(nth c b:Int)(M:Mem)(hw:w.length<=900)(ho:a≠[])(j:a.length<=1000)(f:new.length<=1000)(hn:0<=nth):A0c (WC gl) 139 [.list 4 (A0i w) .no,.list 1 (A0J a) .no,.list 1 (A0J new) .no,I nth,I c,I b] M (λv M'=>v=.tuple [.list 4 (A0i (A4M w a new nth c b).1) .no,I (A4M w a new nth c b).2]/\M'=M):=by
 refine A0c.dataX ?_
 have h1:=B9M gl w a .no nth M Q0 Q0 hn
 obtain⟨ps,d⟩:=ex (A5Z w a nth)
 have i:ps.length<=1000:=by rw[d];have:=B0b w a nth;omega
 have h2:=B4F gl w ps a.length new .no .no c b M Q0 i f j (by rw[d];exact B9O w a nth) (by rw[d];exact C0n w a nth)
 have hr:A4M w a new nth c b=if ps=[]then([],4)else B1S w ps a.length new c b:=by rw[d];rfl
 rw[hr]
 rw[<-d]at h1
 have l:0<a.length:=Z1G.2 ho
 have g:¬(a.length:Int)=0:=Q0
 have e:¬nth<0:=Q0
 refine A0t hB func139 ?_
 simp -dsimp[ho,g,e]
 refine A0h func224 h1 ?_
 by_cases h0:ps=[]
 .rw[Z0c h0];simp -dsimp[h0];exact⟨Grow.refl _,.tuple (.nilS (.same trivial .nil)) .nil⟩
 .rw[Z0d h0];have k:¬(ps.length:Int)=0:=by have:=Z1G.2 h0;omega
  generalize B1S w ps a.length new c b=R at*;simp -dsimp[h0,k];refine A0h func225 h2 ?_;simp -dsimp;exact⟨Grow.refl _,.tuple (.same (B4K _ _) (.same trivial .nil)) .nil⟩
def C9Y(l:List Nat)(M:Mem)(hl:l.length<=1000000000):A0c (WC gl) 226 [.list 1 (A8a l) .no] M (λv M'=>A1p 3 1 A6x M' v l/\Grow M M'/\A1K M.length v):=by
 refine A0t hW func226 ?_;have tail:∀(K:AV->Mem->Prop) (tg:Tag K),(∀v M',(A1p 3 1 A6x M' v l/\Grow M M'/\A1K M.length v)->K v M')->A3s (WC gl) (A1X hW.own (some 7)) (A1X hW.vec (some 7)) 82 82 (.vref M.length 0 1 0 0) (.list 1 (A8a l) .no) (M++[.vec 3 1 [] 0 [(0,0)]]) K tg:=by intro K tg hk;have ho:A1p 3 1 A6x (M++[.vec 3 1 [] 0 [(0,0)]]) (.vref M.length 0 1 0 0) []:=.inr ⟨M.length,0,[(0,0)],rfl,Q1,by simp[List.lookup]⟩;refine A3u (C:=WC gl) (enc:=A6x) (e:=3) (sz:=1) (news:=l) B2w C0a C8K (λ_=>rfl) ho (by simp[A0D,List.flatMap]) (by simp;omega) rfl ?_;intro v' M' h1 h2 h3 _;obtain⟨r1,r2⟩:=A2R (X:=[]) (A0d.app none M [.vec 3 1 [] 0 [(0,0)]]) (v:=.vref M.length 0 1 0 0) (λf hf=>by simp at hf;omega) (by simpa using h2) (by simpa using h3);exact hk _ _ ⟨h1,r1,r2⟩
 cases l with
 |nil=>
  simp -dsimp;rw[A6O (.inl rfl) underlying82];intro b;cases b
  .simp -dsimp[A1B,A1e];refine tail _ _ λv M' h=>?_;simp -dsimp;exact h
  .simp -dsimp;exact⟨.nil,A0d.refl _ _,λf h=>by simp at h⟩
 |cons a l=>simp -dsimp[A1B,A1e];refine tail _ _ λv M' h=>?_;simp -dsimp;exact h
def D4B{n:Nat}{M:Mem}{v:AV}{l:List Nat}(h:Arr 3 1 A6x n M v l){i:Nat}(hi:i<l.length)(y:Nat):∃f g M',v=.vref f g 1 0 l.length/\A0M prog 3 M (.vptr f g i)=some (I l[i])/\A0k (some 1) M (.vptr f g i) (I y)=some M'/\Arr 3 1 A6x n M' v (l.set i y)/\M'.length=M.length/\∀j,j≠f->M'[j]?=M[j]?:=by
 obtain⟨h1,h2⟩:=h
 rcases h1 with⟨rfl,rfl⟩|⟨f,g,a,rfl,hm,hl⟩
 .simp at hi
 have d:f<M.length:=(Z0a.1 hm).1
 have b:=B3b (enc:=A6x) (sz:=1) (λ_=>rfl) l i y hi
 rw[Z3t]at b
 have k:(l.flatMap A6x).length=l.length:=by rw[A1Z (enc:=A6x) (sz:=1) (λ_=>rfl),Z3t]
 have c:(l.flatMap A6x).drop i=I l[i]::(l.drop (i+1)).flatMap A6x:=by have:=A3x (enc:=A6x) (sz:=1) (λ_=>rfl) i l;rw[Z3t,Z0o hi,Z0z]at this;exact this
 refine⟨f,g,M.set f (.vec 3 1 ((l.set i y).flatMap A6x) g (A0V 1 g i a)),rfl,?_,?_,⟨.inr ⟨f,g,A0V 1 g i a,Q1,by simp[d],?_⟩,h2⟩,Q1,λj hj=>Z0f Q0⟩
 .have e:0<l.length:=Q0;simp[A0M,A2r,hm,hl,hi];rw[Z0e Q0,c];rfl
 .simp only[A0k,hm,hl];rw[Z0c (by simp[AV.storable,AV.cells];omega)];simp only[AV.cells];rw[show[I (y:Int)]=A6x y from rfl,b]
 .unfold A0V;rw[Z1N];exact A3v _ hl
def C2m(w:List A0z)(part new:List ByteArray)(nth d c:Int)(M:Mem)(hw:w.length<=900)(ag:part.length<=1000)(r:new≠[])(a1:new.length<=1000)(hn:0<=nth)(aa:part=[]->nth=0):A0c (WC gl) 141 [.list 4 (A0i w) .no,.list 1 (A0J part) .no,.list 1 (A0J new) .no,I nth,I d,I c] M (λv M'=>v=.tuple [.list 4 (A0i (A3K w part new nth d c).1) .no,I (A3K w part new nth d c).2]/\M'=M):=by
 refine A0c.dataX ?_
 have ac:0<new.length:=Z1G.2 r
 have s:¬(new.length:Int)=0:=Q0
 have a7:¬nth<0:=Q0
 refine A0t hB func141 ?_
 by_cases hp0:part=[]
 .have hz:=aa hp0;subst hz;have h2:=λo2=>B4F gl w [0] 0 new .no o2 d c M Q0 Q1 a1 Q0 Q1 Q1;have hr:A3K w part new 0 d c=B1S w [0] 0 new d c:=Z0c hp0;rw[hr];simp only[Z0w,Z1O,A6x]at h2;generalize B1S w [0] 0 new d c=R at*;simp -dsimp[r,s,hp0,A0w,A1e,AV.storable,AV.cells];refine A0h func225 (h2 _) ?_;simp -dsimp;exact⟨Grow.refl _,.tuple (.same (B4K _ _) (.same trivial .nil)) .nil⟩
 have ah:0<part.length:=Z1G.2 hp0
 have u:¬(part.length:Int)=0:=Q0
 have h1:=B9M gl w part .no nth M Q0 Q0 hn
 obtain⟨ps,k⟩:=ex (A5Z w part nth)
 have ad:ps.length<=1000:=by rw[k];have:=B0b w part nth;omega
 have t:∀p∈ps,p+part.length<=w.length:=by rw[k];exact B9O w part nth
 have a3:ps.Pairwise λa b=>a+part.length<=b:=by rw[k];exact C0n w part nth
 obtain⟨qs,e⟩:=ex (ps.map (·+part.length))
 have af:qs.length=ps.length:=by rw[e];simp
 have h2:=λM=>B4F gl w qs 0 new .no .no d c M Q0 Q0 a1 Q0 (by rw[e];simpa using t) (by rw[e];exact Z3Z.2 (a3.imp λh=>by omega))
 have hr:A3K w part new nth d c=if ps=[]then([],4)else B1S w qs 0 new d c:=by rw[e,k];exact Z0d hp0
 rw[hr]
 rw[<-k]at h1
 have ab:=C9Y gl ps M Q0
 generalize B1S w qs 0 new d c=R at*
 simp -dsimp[r,s,a7,hp0,u]
 refine A0h func224 h1 ?_
 simp -dsimp
 refine A4b func226 ab ?_
 rintro v2 M2 ⟨ho,a0,z⟩
 have x:=ho.len (P:=prog) underlying82
 by_cases h0:ps=[]
 .have o:ps.length=0:=by rw[h0];rfl
  rw[Z0c h0];simp -dsimp[x,o];exact⟨a0,.tuple (.nilS (.same trivial .nil)) .nil⟩
 have o:¬(ps.length:Int)=0:=by have:=Z1G.2 h0;omega
 rw[Z0d h0]
 simp -dsimp[x,o,h0]
 refine B2C (.exit 0) (λT Mi=>T 0=.list 4 (A0i w) .no/\T 2=.list 1 (A0J new) .no/\T 4=I d/\T 5=I c/\Arr 3 1 A6x M.length Mi (T 14) qs/\Grow M Mi) ?_ ?_
 .refine A1E hB ps.length 53 (λT Mi=>∃i:Nat,i<=ps.length/\T 0=.list 4 (A0i w) .no/\T 1=.list 1 (A0J part) .no/\T 2=.list 1 (A0J new) .no/\T 4=I d/\T 5=I c/\T 52=I ps.length/\T 53=I i/\Arr 3 1 A6x M.length Mi (T 14) (B7H part.length i ps)/\Grow M Mi) ?_ ?_
  .exact⟨0,Q0,Q1,Q1,Q1,Q1,Q1,Q1,Q1,by simpa[B7H]using⟨ho,z⟩,a0⟩
  rintro T Mi ⟨i,i1,t0,t1,t2,t4,t5,a2,t53,ha,hg⟩;by_cases hi:i<ps.length;case neg=>have n:¬(i:Int)<ps.length:=Q0;have a8:i=ps.length:=Q0;subst a8;rw[D1v,<-e]at ha;simp -dsimp[t0,t1,t2,t4,t5,a2,t53,n];exact⟨ha,hg⟩
  have n:(i:Int)<ps.length:=Q0;have w1:=A1Y (i:=i) Q0;have ai:=t ps[i] (Z0u hi);obtain⟨m,hm⟩:=ex (ps[i]+part.length);have w2:IntKind.i64.wrap ((ps[i]:Int)+part.length)=(m:Int):=by rw[A0R Q0 Q0];omega
  obtain⟨f,g,M3,l,y,a5,q,a9,a4⟩:=D4B ha (i:=i) (by rw[B8x];exact hi) m;have ae:=ha.lat f (by rw[l];rfl);rw[D2J hi]at y;rw[hm,D1t hi]at q;rw[B8x]at l;rw[l]at q;simp -dsimp[t0,t1,t2,t4,t5,a2,t53,n,hi,l,y,a5,w2,w1];exact⟨⟨i+1,Q3,rfl,q,by rw[a9];exact hg.1,λj hj _=>by rw[a4 j Q0];exact hg.2 j hj Q1⟩,Q3⟩
 rintro T Mi ⟨t0,t2,t4,t5,ha,hg⟩
 refine⟨M.length,T.put (some 14) (.list 1 (A8a qs) .no),A6v (A6J T) (Still.rows (λ_=>rfl) (λ_ _ _=>trivial) ha.own ha.lat .nil),?_⟩
 have a6:=A4T hg
 simp -dsimp[t0,t2,t4,t5]
 refine A0h func225 (h2 _) ?_
 simp -dsimp
 exact⟨a6,.tuple (.same (B4K _ _) (.same trivial .nil)) .nil⟩
end
abbrev itV(kd w nth act item day:Int)(lab for_ ev:ByteArray)(st:A1z)(at_ to old new by_:AV)(ua ub uc uk:Int)(ul:ByteArray)(uh uw uv:AV):List AV:=[I kd,at_,to,I w,I nth,I ua,I ub,I uc,I uk,S ul,uh,uw,uv,old,new,S lab,S for_,I st.k,I st.day,S st.ev,I act,I item,I day,S ev,by_]
def C1c(s:A1z):A1A prog .eql 65 (.agg [I s.k,I s.day,S s.ev]) (.agg [I s.k,I s.day,S s.ev])=some (B true):=by have h1:prog.eqGuardType prog.depth 65=false:=Q2;have h2:prog.stoodInHeld 65=false:=Q2;simp[A1A,A3f,A4t,A3P,A2P,h1,A9N,h2,A2H]
section
variable (gl:Nat->AV)
def A6H(kd w jw f jn j c day:Int)(lab jl e ev:ByteArray)(st:A1z)(at_ to o l i new g by_:AV)(ua ub uc uk ja jb jc jk:Int)(ul m:ByteArray)(uh uw uv jh n jv:AV)(M:Mem)(cT cO cN cU cB:Bool)
 (hA:∀M,A0c (WC gl) 173 [at_,at_] M (λv M'=>v=B true/\M'=M))(hT:∀M,A0c (WC gl) 173 [to,o] M (λv M'=>v=B cT/\M'=M))
 (hO:∀M,A0c (WC gl) 174 [l,i] M (λv M'=>v=B cO/\M'=M))(hN:∀M,A0c (WC gl) 174 [new,g] M (λv M'=>v=B cN/\M'=M))
 (hU:∀M,A0c (WC gl) 175 [.agg [I ua,I ub,I uc,I uk,S ul,uh,uw,uv],.agg [I ja,I jb,I jc,I jk,S m,jh,n,jv]] M (λv M'=>v=B cU/\M'=M))
 (p:∀M,A0c (WC gl) 176 [by_,A0B,.func (.func 98) [] []] M (λv M'=>v=B cB/\M'=M)):
 A0c (WC gl) 98 [.agg (itV kd w f j c day lab e ev st at_ to l new by_ ua ub uc uk ul uh uw uv),.agg (itV kd jw jn 0 0 0 jl e ⟨#[]⟩ st at_ o i g A0B ja jb jc jk m jh n jv)] M (λv M'=>v=B ((decide (w=jw)&&decide (f=jn)&&decide (j=0)&&decide (c=0)&&decide (day=0))&&(decide (lab=jl)&&decide (ev=⟨#[]⟩))&&(cT&&cO&&cN)&&cU&&cB)/\M'=M):=by
 obtain⟨R1,b⟩:=ex (AV.cptr (itV kd w f j c day lab e ev st at_ to l new by_ ua ub uc uk ul uh uw uv))
 obtain⟨R2,a⟩:=ex (AV.cptr (itV kd jw jn 0 0 0 jl e ⟨#[]⟩ st at_ o i g A0B ja jb jc jk m jh n jv))
 obtain⟨n1,d⟩:=ex ((decide (w=jw)&&decide (f=jn)&&decide (j=0)&&decide (c=0)&&decide (day=0)))
 obtain⟨n2,k⟩:=ex ((decide (lab=jl)&&decide (ev=⟨#[]⟩)))
 rw[<-d,<-k]
 refine A0t hB func98 ?_
 simp -dsimp -implicitDefEqProofs only[A7I]
 refine B2q (λT M1=>M1=M/\T 2=R1/\T 3=R2) ?_ ?_
 .simp -dsimp -implicitDefEqProofs[b,a]
 rintro T M1 ⟨e1,t2,t3⟩
 rw[e1];clear e1
 simp -dsimp -implicitDefEqProofs only[A7I,A7q]
 refine B2q (λT M1=>M1=M/\T 2=R1/\T 3=R2/\T 5=B n1) ?_ ?_
 .rw[b]at t2;rw[a]at t3;by_cases c1:w=jw
  .by_cases c2:f=jn
   .by_cases c3:j=0
    .by_cases c4:c=0
     .by_cases c5:day=0
      .simp -dsimp -implicitDefEqProofs[b,a,d,t2,t3,c1,c2,c3,c4,c5]
      .simp -dsimp -implicitDefEqProofs[b,a,d,t2,t3,c1,c2,c3,c4,c5]
     .simp -dsimp -implicitDefEqProofs[b,a,d,t2,t3,c1,c2,c3,c4]
    .simp -dsimp -implicitDefEqProofs[b,a,d,t2,t3,c1,c2,c3]
   .simp -dsimp -implicitDefEqProofs[b,a,d,t2,t3,c1,c2]
  .simp -dsimp -implicitDefEqProofs[b,a,d,t2,t3,c1]
 clear t2 t3
 rintro T M1 ⟨e1,t2,t3,t5⟩
 rw[e1];clear e1
 simp -dsimp -implicitDefEqProofs only[A7I,A7q]
 refine B2q (λT M1=>M1=M/\T 2=R1/\T 3=R2/\T 5=B n1/\T 6=B n2) ?_ ?_
 .rw[b]at t2;rw[a]at t3;by_cases c1:lab=jl
  .by_cases c2:ev=⟨#[]⟩
   .simp -dsimp -implicitDefEqProofs[b,a,k,t2,t3,t5,c1,c2,C1c]
   .simp -dsimp -implicitDefEqProofs[b,a,k,t2,t3,t5,c1,c2,C1c]
  .simp -dsimp -implicitDefEqProofs[b,a,k,t2,t3,t5,c1,C1c]
 clear t2 t3 t5
 rintro T M1 ⟨e1,t2,t3,t5,t6⟩
 rw[e1];clear e1
 simp -dsimp -implicitDefEqProofs only[A7I,A7q]
 refine B2q (λT M1=>M1=M/\T 2=R1/\T 3=R2/\T 5=B n1/\T 6=B n2/\T 7=B (cT&&cO&&cN)) ?_ ?_
 .rw[b]at t2;rw[a]at t3;simp -dsimp -implicitDefEqProofs[b,a,t2,t3,t5,t6];refine A0h func173 (hA _) ?_;simp -dsimp -implicitDefEqProofs[t2,t3,t5,t6];refine A0h func173 (hT _) ?_;cases cT
  .simp -dsimp -implicitDefEqProofs[t2,t3,t5,t6,b,a]
  simp -dsimp -implicitDefEqProofs[t2,t3,t5,t6,b,a];refine A0h func174 (hO _) ?_;cases cO
  .simp -dsimp -implicitDefEqProofs[t2,t3,t5,t6,b,a]
  simp -dsimp -implicitDefEqProofs[t2,t3,t5,t6,b,a];refine A0h func174 (hN _) ?_;simp -dsimp -implicitDefEqProofs[t2,t3,t5,t6,b,a]
 clear t2 t3 t5 t6
 rintro T M1 ⟨e1,t2,t3,t5,t6,t7⟩
 rw[e1];clear e1
 generalize(cT&&cO&&cN)=n3 at*
 simp -dsimp -implicitDefEqProofs only[A7I,A7q]
 rw[b]at t2
 rw[a]at t3
 cases n1
 .simp -dsimp -implicitDefEqProofs[t2,t3,t5,t6,t7]
 cases n2
 .simp -dsimp -implicitDefEqProofs[t2,t3,t5,t6,t7]
 cases n3
 .simp -dsimp -implicitDefEqProofs[t2,t3,t5,t6,t7]
 simp -dsimp -implicitDefEqProofs[t2,t3,t5,t6,t7]
 refine A0h func175 (hU _) ?_
 cases cU
 .simp -dsimp -implicitDefEqProofs[t2,t3,t5,t6,t7]
 simp -dsimp -implicitDefEqProofs[t2,t3,t5,t6,t7]
 refine A0h func176 (p _) ?_
 simp -dsimp -implicitDefEqProofs[t2,t3,t5,t6,t7]
end
end Go.Abs
