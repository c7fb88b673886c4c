/- The texts EhB, EhR, EhS, EhT, EhU, EhV. -/
import Derived.Test.YtmihnfpinnfnfaaGreatDoorPG30
import Derived.Test.YtmihnfpinnfnfaaGreatDoorPG38
import Derived.Test.YtmihnfpinnfnfaaGreatDoorPG35
import Derived.Test.YtmihnfpinnfnfaaGreatDoorPG34
import Derived.Test.YtmihnfpinnfnfaaGreatDoorPG33
import Derived.Test.YtmihnfpinnfnfaaGreatDoorPG18
set_option linter.all false
namespace Go.Abs
def A5B(x:IdD)(u:A0a):A0a:=(A0O x u).getD A4v
def C8S(x:IdD)(p:A0a):Nat:=(A3b (λk=>(A0O x k).isSome) p.kids 0).toNat
def parI(x:IdD)(u:A0a):IdD×Nat:=match A7s x u with
 |some p=>(p.id,C8S x p)
 |none=>(idZ,0)
def A1T(x:IdD)(u:A0a):A0a:=A1v (parI x u).1 (B0s (parI x u).2) u
def B0d(x:IdD)(u:A0a):List IdD:=(A1f x u).dropLast.reverse.map A0a.id
def B1o(u:A0a)(parent:IdD)(x:A0a):Bool:=decide (8<(B0d parent u).length+1+A1i x)
def A2y(u:A0a)(x:IdD)(behind:Nat):(IdD×Nat)×Int:=match A7s x u with
 |some p=>((p.id,C8S x p+behind),0)
 |none=>((idZ,0),9)
def A2k(u:A0a)(x:IdD)(w:Int):(IdD×Nat)×Int:=if w=0 then((x,0),0)else if w=1 then((x,(A5B x u).kids.length),0)else if w=2 then A2y u x 1 else A2y u x 0
def A5f(u:A0a)(p:List A1n)(w:Int):(IdD×Nat)×Int:=if(A2c u p).2=0 then(let r:=A2k u (A2c u p).1 w;if r.2=0 then r else((idZ,0),r.2))else((idZ,0),(A2c u p).2)
def A7V(u:A0a)(x y:IdD)(w:Int):(IdD×Nat)×Int:=
 if A7s x u=none\/(y≠x/\x∈B0d y u)\/(y=x/\¬(w=2\/w=3))then((idZ,0),9)
 else if y=x then(parI x u,0)
 else(let r:=A2k u y w;if r.2=0/\r.1.1=(parI x u).1/\(parI x u).2<r.1.2 then((r.1.1,r.1.2-1),0)else r)
def A8d(u:A0a)(h:A1Q):(IdD×Nat)×Int:=if(A2c u h.at_).2=0 then(if(A2c u h.to).2=0 then(let r:=A7V u (A2c u h.at_).1 (A2c u h.to).1 h.where_;if r.2=0 then r else((idZ,0),r.2))else((idZ,0),(A2c u h.to).2))else((idZ,0),(A2c u h.at_).2)
def B1F(u:A0a)(d:EnD):A0a×Int:=
 let r:=A5f u d.it.h.at_ d.it.h.where_
 if r.2≠0 then(u,r.2)else
 let p:=A5B r.1.1 u
 let x:=A2U d.act d.item d.it.h.unit 0 0
 if A3W p x≠0 then(u,A3W p x)
 else if(decide (64<=p.kids.length)||B1o u r.1.1 x||decide (1024<A0x u+A0x x))=true then(u,6)
 else if(A0T x).any (λy=>(A0T u).any λz=>decide (z=y))=true then(u,5)
 else(A1v r.1.1 (A8V r.1.2 x) u,0)
def A8J(u x:A0a)(r:List A0z×Int):A0a×Int:=if r.2≠0 then(u,r.2)else(A1v x.id (B2n r.1) u,0)
def A9f(u x:A0a)(lab:ByteArray):A0a×Int:=if A3W (A5B (parI x.id u).1 u) (A5R lab x)=10 then(u,10)else(A1v x.id (A5R lab) u,0)
def B7p(u x:A0a)(h:A1Q):A0a×Int:=
 let r:=A8d u h
 if r.2≠0 then(u,r.2)else
 let rest:=A1T x.id u
 let p:=A5B r.1.1 rest
 if A3W p x≠0 then(u,A3W p x)
 else if((decide (r.1.1≠(parI x.id u).1)&&decide (64<=p.kids.length))||B1o rest r.1.1 x)=true then(u,6)
 else(A1v r.1.1 (A8V r.1.2 x) rest,0)
def B2f(u x:A0a)(d:EnD):A0a×Int:=
 let h:=d.it.h
 if h.kind=0 then B1F u d
 else if h.kind=1 then(A1T x.id u,0)
 else if h.kind=2 then A8J u x (A4M x.words h.old h.new h.nth d.act d.item)
 else if h.kind=3 then A8J u x (A3K x.words h.old h.new h.nth d.act d.item)
 else if h.kind=4 then(A1v x.id (B9s (A2h d.act d.item 0 h.new)) u,0)
 else if h.kind=5 then A9f u x h.lab
 else B7p u x h
def A5i(u:A0a):Bool:=decide (u.id=idZ)&&decide (u.kind=0)&&decide (u.label=⟨#[]⟩)&&decide (u.head=[])&&decide (u.words=[])&&decide (u.kids=[])
def A7Z(h:A1Q)(by_:List A0G):Bool:=
 (decide (h.kind=6)||decide (h.to=[]))&&(decide (h.kind=0)||decide (h.kind=6)||decide (h.where_=0))&&(decide (h.kind=2)||decide (h.kind=3)||decide (h.nth=0))&&
 (decide (h.kind=0)||A5i h.unit)&&(decide (h.kind=2)||decide (h.kind=3)||decide (h.old=[]))&&(decide (h.kind=2)||decide (h.kind=3)||decide (h.kind=4)||decide (h.new=[]))&&
 (decide (h.kind=5)||decide (h.lab=⟨#[]⟩))&&decide (h.act=0)&&decide (h.item=0)&&decide (h.day=0)&&decide (h.ev=⟨#[]⟩)&&decide (by_=[])
def A7p(h:A1Q):Bool:=
 if h.kind=0 then inB h.where_ 0 3&&B1V h.unit
 else if h.kind=1 then true
 else if h.kind=2 then A3S h.old 1&&A3S h.new 0&&inB h.nth 0 256
 else if h.kind=3 then A3S h.old 0&&A3S h.new 1&&inB h.nth 0 256&&(decide (0<h.old.length)||decide (h.nth=0))
 else if h.kind=4 then A3S h.new 0
 else if h.kind=5 then A1u h.lab
 else inB h.where_ 0 3&&A1O h.to
def A2A(x:A0G):Bool:=A1d x.h.kind&&(A1O x.h.at_&&(decide (x.h.for_=⟨#[]⟩)||A6e x.h.for_)&&A4X x.h.start)&&A7Z x.h x.by_&&A7p x.h
def A6w(u:A0a)(d:EnD):A0a×Int:=
 if A2A d.it=false then(u,1)
 else if(A2c u d.it.h.at_).2≠0 then(u,(A2c u d.it.h.at_).2)
 else if(A2c u d.it.h.at_).1≠u.id\/d.kind=0 then B2f u (A5B (A2c u d.it.h.at_).1 u) d
 else if d.kind=6/\(A2c u d.it.h.to).2≠0 then(u,(A2c u d.it.h.to).2)
 else(u,9)
set_option maxRecDepth 100000
open Go.Proofs TryTypes Tryz
def E4f{a:ByteArray}{x y z:Int}:A1A prog .neq 233 (.agg [S a,I x,I y,I z]) (.agg [S a,I x,I y,I z])=some (B false):=by have h1:prog.eqGuardType prog.depth 233=false:=Q2;have h2:prog.stoodInHeld 233=false:=Q2;have h3:prog.stoodInHeld 231=false:=Q2;simp[A1A,A3f,A4t,A3P,A2P,h1,A9N,h2,h3,A2H]
def E0g{k:Int}{a:ByteArray}:A1A prog .neq 89 (.agg [I k,S a]) (.agg [I k,S a])=some (B false):=by have h1:prog.eqGuardType prog.depth 89=false:=Q2;have h2:prog.stoodInHeld 89=false:=Q2;simp[A1A,A3f,A4t,A3P,A2P,h1,A9N,h2,A2H]
section
variable (gl:Nat->AV)
def A4R(p:List A1n)(M:Mem)(hl:p.length<=1000000):A0c (WC gl) 173 [.list 2 (A0P p) .no,.list 2 (A0P p) .no] M (λv M'=>v=B true/\M'=M):=by
 refine A0t hB func173 ?_;simp -dsimp -implicitDefEqProofs;refine A0K hB (λT M1=>∃i:Nat,M1=M/\i<=p.length/\T 0=.list 2 (A0P p) .no/\T 1=.list 2 (A0P p) .no/\T 12=I p.length/\T 13=I i) (λT M1=>match T 13 with|.val (.int _ i)=>p.length-i.toNat|_=>0) Q2 ?_ ?_
 .exact⟨0,rfl,Q0,Q1,Q1,Q1,Q1⟩
 rintro T M1 ⟨i,rfl,i1,t0,t1,b,c⟩;by_cases hi:i<p.length
 .have a:(i:Int)<p.length:=Q0;have w1:=A1Y (i:=i) Q0;simp -dsimp -implicitDefEqProofs[t0,t1,b,c,a];refine A0Z hB (A0E gl) (λ_=>0) (λ_=>0) (by rfl) Q2 ?_;simp -dsimp -implicitDefEqProofs[t0,t1,b,c,hi,a,A1n.row,E0g,w1];exact⟨⟨i+1,Q3,rfl⟩,Q3⟩
 .have a:¬(i:Int)<p.length:=Q0;simp -dsimp -implicitDefEqProofs[t0,t1,b,c,a]
def A5P(p:List A1n)(M:Mem):A0c (WC gl) 173 [.list 2 (A0P p) .no,A0B] M (λv M'=>v=B (decide (p=[]))/\M'=M):=by
 refine A0t hB func173 ?_;cases p with
 |nil=>
  simp -dsimp -implicitDefEqProofs;refine A0K hB (λT M1=>M1=M/\T 12=I 0/\T 13=I 0) (λT M1=>0) Q2 ?_ ?_
  .exact⟨rfl,Q1,Q1⟩
  rintro T M1 ⟨rfl,b,c⟩;simp -dsimp -implicitDefEqProofs[b,c]
 |cons a l=>have h:¬((l.length:Int)+1=0):=Q0;simp -dsimp -implicitDefEqProofs[h]
def A4u(p:List ByteArray)(M:Mem):A0c (WC gl) 174 [.list 1 (A0J p) .no,A0B] M (λv M'=>v=B (decide (p=[]))/\M'=M):=by
 refine A0t hB func174 ?_;cases p with
 |nil=>
  simp -dsimp -implicitDefEqProofs;refine A0K hB (λT M1=>M1=M/\T 12=I 0/\T 13=I 0) (λT M1=>0) Q2 ?_ ?_
  .exact⟨rfl,Q1,Q1⟩
  rintro T M1 ⟨rfl,b,c⟩;simp -dsimp -implicitDefEqProofs[b,c]
 |cons a l=>have h:¬((l.length:Int)+1=0):=Q0;simp -dsimp -implicitDefEqProofs[h]
def A7Y(p:List A0G)(M:Mem):A0c (WC gl) 176 [.list 25 (A1r p) .no,A0B,.func (.func 98) [] []] M (λv M'=>v=B (decide (p=[]))/\M'=M):=by
 refine A0t hB func176 ?_;cases p with
 |nil=>
  rw[A1r];simp -dsimp -implicitDefEqProofs;refine A0K hB (λT M1=>M1=M/\T 16=I 0/\T 17=I 0) (λT M1=>0) Q2 ?_ ?_
  .exact⟨rfl,Q1,Q1⟩
  rintro T M1 ⟨rfl,b,c⟩;simp -dsimp -implicitDefEqProofs[b,c]
 |cons a l=>
  have h:¬((l.length:Int)+1=0):=Q0;have hl:(A1r (a::l)).length=l.length+1:=by simp
  simp -dsimp -implicitDefEqProofs[h,hl]
def C7B(l:List A0z)(o1 o2:Own)(M:Mem)(hl:l.length<=100000000):A0c (WC gl) 239 [.list 4 (A0i l) o1,.list 4 (A0i l) o2] M (λv M'=>v=B true/\M'=M):=by
 refine A0t hB func239 ?_;simp -dsimp -implicitDefEqProofs;refine A1E hB l.length 13 (λT M1=>∃i:Nat,M1=M/\i<=l.length/\T 0=.list 4 (A0i l) o1/\T 1=.list 4 (A0i l) o2/\T 12=I l.length/\T 13=I i) ?_ ?_
 .exact⟨0,rfl,Q0,Q1,Q1,Q1,Q1⟩
 rintro T M1 ⟨i,rfl,i1,t0,t1,b,c⟩;by_cases hi:i<l.length
 .have a:(i:Int)<l.length:=Q0;have w1:IntKind.i64.wrap ((i:Int)+1)=(i+1:Nat):=by rw[A0R Q0 Q0];omega
  simp -dsimp -implicitDefEqProofs[t0,t1,b,c,a];refine A0Z hB (A0E gl) (λ_=>0) (λ_=>0) (by rfl) Q2 ?_;simp -dsimp -implicitDefEqProofs[t0,t1,b,c,hi,a,A0z.row,E4f,w1];exact⟨⟨i+1,Q3,rfl⟩,Q3⟩
 .have a:¬(i:Int)<l.length:=Q0;simp -dsimp -implicitDefEqProofs[t0,t1,b,c,a]
def D7k(l:List A0a)(o1 o2:Own)(M:Mem)(hl:l.length<=1000000)(h:∀u∈l,∀M,A0c (WC gl) 175 [.agg u.row,.agg u.row] M (λv M'=>v=B true/\M'=M)):
 A0c (WC gl) 240 [.list 8 (A0q l) o1,.list 8 (A0q l) o2,fnV 175] M (λv M'=>v=B true/\M'=M):=by
 refine A2e (λ_=>trivial) ?_
 refine A0t hB func240 ?_
 simp -dsimp -implicitDefEqProofs
 refine A1E hB l.length 17 (λT M1=>∃i:Nat,Grow M M1/\i<=l.length/\T 1=.list 8 (A0q l) o2/\T 2=fnV 175/\T 15=.list 8 (A0q l) o1/\T 16=I l.length/\T 17=I i) ?_ ?_
 .exact⟨0,Grow.refl _,Q0,Q1,Q1,Q1,Q1,Q1⟩
 rintro T M1 ⟨i,hg,i1,t1,t2,e,c,d⟩
 by_cases hi:i<l.length
 case neg=>have g:¬(i:Int)<l.length:=Q0;simp -dsimp -implicitDefEqProofs[t1,t2,e,c,d,g];exact hg
 have g:(i:Int)<l.length:=Q0
 have w1:=A1Y (i:=i) Q0
 obtain⟨x,hx⟩:=ex (l[i])
 have k:l[i]=x:=hx.symm
 have j:=A7O l i hi
 rw[k]at j
 obtain⟨M2,b⟩:=ex (M1++[A0l.cells 30 x.row])
 have ha:M2[M1.length]?=some (A0l.cells 30 [I x.id.act,I x.id.item,I x.id.n,I x.kind,S x.label,.list 4 (A0i x.head) .no,.list 4 (A0i x.words) .no,.list 8 (A0q x.kids) .no]):=by rw[b,x.row_eq];simp
 have p:Grow M1 M2:=by rw[b];exact A0d.app none _ _
 obtain⟨M3,f⟩:=ex (M2++[A0l.cells 30 x.row])
 have hb:M3[M2.length]?=some (A0l.cells 30 [I x.id.act,I x.id.item,I x.id.n,I x.kind,S x.label,.list 4 (A0i x.head) .no,.list 4 (A0i x.words) .no,.list 8 (A0q x.kids) .no]):=by rw[f,x.row_eq];simp
 have m:Grow M2 M3:=by rw[f];exact A0d.app none _ _
 have o:=m.get ha Q1
 have a:=h x (by rw[hx];exact Z0u hi) M3
 rw[x.row_eq]at a
 simp -dsimp -implicitDefEqProofs[t1,t2,e,c,d,hi,g,j,k,A0j,A0k,A0e,A0o,A0n]
 rw[show M1++[A0l.cells 30 x.row,A0l.cells 30 x.row]=M3 by rw[f,b];simp]
 simp -dsimp -implicitDefEqProofs[t1,t2,e,c,d,A0b o,show M1.length+1=M2.length by rw[b];simp,A0b hb]
 refine A0h func175 a ?_
 simp -dsimp -implicitDefEqProofs[t1,t2,e,c,d,w1]
 exact⟨⟨hg.trans (p.trans m),i+1,Q3,rfl⟩,Q3⟩
def B9z:∀(u:A0a) (M:Mem),u.lims->A0c (WC gl) 175 [.agg u.row,.agg u.row] M (λv M'=>v=B true/\M'=M)
 |.mk id kind lab hd ws ks,M,hlm=>by
  obtain⟨⟨b,a,e,-⟩,c⟩:=A3T _ hlm;have b:hd.length<=100000000:=b;have a:ws.length<=100000000:=a;have e:ks.length<=3000:=e;have c:=A4d.1 c;have d:(A0a.mk id kind lab hd ws ks).row=[I id.act,I id.item,I id.n,I kind,S lab,.list 4 (A0i hd) .no,.list 4 (A0i ws) .no,.list 8 (A0q ks) .no]:=by rw[A0a.row]
  have he:=C1B id id;rw[Z0B rfl]at he;have hk:=D7k gl ks .no .no M Q0 (λk hk M=>by have:=A0a.kid_lt (u:=.mk id kind lab hd ws ks) hk;exact B9z k M (c k hk));rw[d];refine A0t hB func175 ?_;simp -dsimp -implicitDefEqProofs[he];refine A0h func239 (C7B gl hd .no .no M b) ?_;simp -dsimp -implicitDefEqProofs;refine A0h func239 (C7B gl ws .no .no M a) ?_;simp -dsimp -implicitDefEqProofs;refine A0h func240 hk ?_;simp -dsimp -implicitDefEqProofs
termination_by u=>SizeOf.sizeOf u
def D0w(l:List A0z)(M:Mem):A0c (WC gl) 239 [.list 4 (A0i l) .no,A0B] M (λv M'=>v=B (decide (l=[]))/\M'=M):=by
 refine A0t hB func239 ?_;cases l with
 |nil=>
  simp -dsimp -implicitDefEqProofs;refine A0K hB (λT M1=>M1=M/\T 12=I 0/\T 13=I 0) (λT M1=>0) Q2 ?_ ?_
  .exact⟨rfl,Q1,Q1⟩
  rintro T M1 ⟨rfl,b,c⟩;simp -dsimp -implicitDefEqProofs[b,c]
 |cons a l=>have h:¬((l.length:Int)+1=0):=Q0;simp -dsimp -implicitDefEqProofs[h]
def D5D(l:List A0a)(M:Mem):A0c (WC gl) 240 [.list 8 (A0q l) .no,A0B,fnV 175] M (λv M'=>v=B (decide (l=[]))/\M'=M):=by
 refine A0t hB func240 ?_;cases l with
 |nil=>
  rw[A0q];simp -dsimp -implicitDefEqProofs;refine A0K hB (λT M1=>M1=M/\T 16=I 0/\T 17=I 0) (λT M1=>0) Q2 ?_ ?_
  .exact⟨rfl,Q1,Q1⟩
  rintro T M1 ⟨rfl,b,c⟩;simp -dsimp -implicitDefEqProofs[b,c]
 |cons a l=>
  have h:¬((l.length:Int)+1=0):=Q0;have hl:(A0q (a::l)).length=l.length+1:=by simp
  simp -dsimp -implicitDefEqProofs[h,hl]
def C3w(u:A0a)(M:Mem):A0c (WC gl) 175 [.agg u.row,.agg [I 0,I 0,I 0,I 0,S ⟨#[]⟩,A0B,A0B,A0B]] M (λv M'=>v=B (A5i u)/\M'=M):=by
 have he:=C7b u.id;have hw:=D0w gl;have hk:=D5D gl;rw[u.row_eq];have a:A5i u=(decide (u.id=idZ)&&decide (u.kind=0)&&decide (u.label=⟨#[]⟩)&&decide (u.head=[])&&decide (u.words=[])&&decide (u.kids=[])):=rfl;rw[a];refine A0t hB func175 ?_;by_cases c1:u.id=idZ;case neg=>rw[Z0I c1]at he;simp -dsimp -implicitDefEqProofs[he,c1]
 rw[Z0B c1]at he;have e1:=Z2o c1;clear c1;by_cases c2:u.kind=0;case neg=>simp -dsimp -implicitDefEqProofs[he,e1,c2]
 by_cases c3:u.label=⟨#[]⟩;case neg=>simp -dsimp -implicitDefEqProofs[he,e1,c2,c3]
 simp -dsimp -implicitDefEqProofs[he,e1,c2,c3];refine A0h func239 (hw _ _) ?_;by_cases c4:u.head=[];case neg=>simp -dsimp -implicitDefEqProofs[e1,c2,c3,c4]
 simp -dsimp -implicitDefEqProofs[c4];refine A0h func239 (hw _ _) ?_;by_cases c5:u.words=[];case neg=>simp -dsimp -implicitDefEqProofs[e1,c2,c3,c4,c5]
 simp -dsimp -implicitDefEqProofs[c5];refine A0h func240 (hk _ _) ?_;simp -dsimp -implicitDefEqProofs[e1,c2,c3,c4,c5]
end
section
variable (gl:Nat->AV)
def B4k(k a b:Int)(M:Mem):A0c (WC gl) 168 [I k,I a,I b] M (λv M'=>v=B (inB k a b)/\M'=M):=by
 refine A0t hB func168 ?_;by_cases h1:a<=k
 .by_cases h2:k<=b
  .simp -dsimp[h1,h2,inB]
  .simp -dsimp[h1,h2,inB]
 .simp -dsimp[h1,inB]
def C4G(k:Int)(M:Mem):A0c (WC gl) 150 [I k] M (λv M'=>v=B (inB k 0 3)/\M'=M):=by refine A0t hB func150 ?_;simp -dsimp;refine A0h func168 (B4k gl k 0 3 M) ?_;simp -dsimp
def D2I(l:List ByteArray)(hl:l.length<=3000)(hs:∀s∈l,s.size<=maxLen)(M:Mem):A0c (WC gl) 295 [.list 1 (A0J l) .no,.func (.func 268) [] []] M (λr M'=>r=I (A3b (λs=>!A2B s) l 0)/\M'=M):=by
 refine A0t hB func295 ?_;simp -dsimp;refine A0K hB (λT M1=>∃i:Nat,i<=l.length/\M1=M/\T 0=.list 1 (A0J l) .no/\T 1=.func (.func 268) [] []/\T 7=I l.length/\T 8=I i/\A3b (λs=>!A2B s) l 0=A3b (λs=>!A2B s) (l.drop i) i) (λT M1=>match T 8 with|.val (.int _ i)=>l.length-i.toNat|_=>0) Q2 ?_ ?_
 .exact⟨0,Q0,rfl,Q1,Q1,Q1,Q1,Q1⟩
 rintro T M1 ⟨i,i1,rfl,t0,t1,t7,t8,ho⟩;by_cases hi:i<l.length
 .have a:(i:Int)<l.length:=Q0;have w1:=A1Y (i:=i) Q0;rw[Z0o hi,A3b]at ho;simp -dsimp[t0,t1,t7,t8,hi,a];refine A0h func268 (D0W gl _ l[i] (hs _ (Z0u hi))) ?_;cases hp:A2B l[i]
  .rw[hp,Z0c (by rfl)]at ho;simp -dsimp[t0,t1,t7,t8,ho]
  .rw[hp,Z0d Q1]at ho;simp -dsimp[t0,t1,t7,t8,w1];exact⟨⟨i+1,Q3,rfl,ho⟩,Q3⟩
 .have a:¬(i:Int)<l.length:=Q0;rw[show l.drop i=[]from Z0y Q0]at ho;simp -dsimp[t0,t1,t7,t8,a,ho,A3b]
def C9m(l:List ByteArray)(hl:l.length<=3000)(hs:∀s∈l,s.size<=maxLen)(M:Mem):A0c (WC gl) 267 [.list 1 (A0J l) .no,.func (.func 268) [] []] M (λr M'=>r=B (l.any λs=>!A2B s)/\M'=M):=by refine A0t hB func267 ?_;simp -dsimp;refine A0h func295 (D2I gl l hl hs M) ?_;rw[<-A7d _ l 0];simp -dsimp
def C9d(l:List ByteArray)(hl:l.length<=3000)(hs:∀s∈l,s.size<=maxLen)(M:Mem):A0c (WC gl) 231 [.list 1 (A0J l) .no] M (λr M'=>r=B (decide (l.length<=256)&&l.all A2B)/\M'=M):=by
 refine A0t hB func231 ?_;by_cases h1:l.length<=256
 .have a:(l.length:Int)<=256:=Q0;simp -dsimp[a,h1];refine A0h func267 (C9m gl l hl hs M) ?_;have:(l.any λs=>!A2B s)=!l.all A2B:=by rw[Z3n]
  rw[this];simp -dsimp[h1]
 .have a:¬(l.length:Int)<=256:=Q0;simp -dsimp[a,h1]
def A9m(l:List ByteArray)(a:Int)(hl:l.length<=3000)(hs:∀s∈l,s.size<=maxLen)(M:Mem):A0c (WC gl) 156 [.list 1 (A0J l) .no,I a] M (λr M'=>r=B (A3S l a)/\M'=M):=by
 refine A0t hB func156 ?_;simp -dsimp;refine A0h func231 (C9d gl l hl hs M) ?_;have:A3S l a=(decide (l.length<=256)&&l.all A2B&&decide (a<=l.length)):=rfl;rw[this];cases(decide (l.length<=256)&&l.all A2B)
 .simp -dsimp
 .by_cases h:a<=l.length
  .simp -dsimp[h]
  .simp -dsimp[h]
def A4w:Nat->List A1n->Bool
 |_,[]=>true
 |i,s::l=>B0P i s&&A4w (i+1) l
def B5A:∀(l p:List A1n) (i:Nat),p.drop i=l->A4w i l=(List.range' i l.length).all λj=>B0P j (p.getD j A3Z)
 |[],p,i,_=>by simp[A4w]
 |s::l,p,i,h=>by
  have h1:p.getD i A3Z=s:=by have:=congrArg (λl:List A1n=>l[0]?) h;simp only[Z0C,Z0S,Z3m]at this;rw[Z1Q,this];rfl
  have h2:p.drop (i+1)=l:=by rw[<-Z2l,h];rfl
  rw[A4w,B5A l p (i+1) h2,Z0q,List.range'_succ,Z2I,h1]
def C8Q(p:List A1n):A1O p=(decide (p.length<=9)&&A4w 0 p):=by rw[A1O,B5A p p 0 rfl,List.range_eq_range']
set_option maxHeartbeats 1000000 in
theorem C1w(p:List A1n)(M:Mem)(hl:p.length<=1000):A0c (WC gl) 43 [.list 2 (A0P p) .no] M (λv M'=>v=B (A1O p)/\M'=M):=by
 refine A2e (λ_=>trivial) ?_;rw[C8Q];refine A0t hB func43 ?_;simp -dsimp;refine A1E hB p.length 7 (λT M1=>∃i:Nat,i<=p.length/\T 0=.list 2 (A0P p) .no/\T 5=.list 2 (A0P p) .no/\T 6=I p.length/\T 7=I i/\Grow M M1/\A4w 0 p=A4w i (p.drop i)) ?_ ?_
 .exact⟨0,Q0,Q1,Q1,Q1,Q1,Grow.refl _,rfl⟩
 rintro T M1 ⟨i,i1,t0,t5,t6,t7,hg,ha⟩;by_cases hi:i<p.length;case neg=>
  have e:¬(i:Int)<p.length:=Q0;rw[Z1r Q0,A4w]at ha;rw[ha];by_cases h9:p.length<=9
  .have l:(p.length:Int)<=9:=Q0;simp -dsimp[t0,t5,t6,t7,e,h9,l];exact hg
  .have l:¬(p.length:Int)<=9:=Q0;simp -dsimp[t0,t5,t6,t7,e,h9,l];exact hg
 have e:(i:Int)<p.length:=Q0;have w1:=A1Y (i:=i) Q0;obtain⟨s,hs⟩:=ex (p[i]);have j:p[i]=s:=hs.symm;rw[Z0o hi,j,A4w]at ha;have m:(A0P p)[i]?=some [I s.k,S s.lab]:=by simp[A0P,hi,hs,A1n.row]
 obtain⟨M2,g⟩:=ex (M1++[A0l.cells 89 [I s.k,S s.lab]]);have hX:M2[M1.length]?=some (A0l.cells 89 [I s.k,S s.lab]):=by rw[g];simp
 have c:Grow M M2:=by rw[g];exact hg.trans (A0d.app none _ _)
 have f:=A9T gl s M2;rw[show s.row=[I s.k,S s.lab]from rfl]at f;have n:A0c (WC gl) 66 [S s.lab] M2 (λv M'=>v=B (A1u s.lab)/\M'=M2):=A2e (λ_=>trivial) (B3p gl M2 s.lab);have o:IntKind.i64.wrap 1=1:=by decide
 have q:∀b:Bool,b=false->A4w 0 p=(b&&A4w (i+1) (p.drop (i+1)))->A4w 0 p=false:=λb h1 h2=>by rw[h2,h1];rfl
 by_cases h0:i=0/\B0j s=true
 .obtain⟨rfl,hb⟩:=h0;have hv:B0P 0 s=true:=by simp[B0P,hb]
  rw[hv,Z0V]at ha;rw[hb]at f;simp -dsimp[t0,t5,t6,t7,e,hi,m,j,A0j,A0k,A0e,A0o,A0n];rw[<-g];refine A0h func44 f ?_;simp -dsimp[t0,t5,t6,t7,w1,o];exact⟨⟨1,Q0,rfl,c,ha⟩,Q0⟩
 have hv:B0P i s=(decide (0<s.k)&&decide (s.k<=7)&&A1u s.lab):=by
  by_cases h1:i=0
  ·(have:B0j s=false:=by rw[Z3q];exactλh=>h0 ⟨h1,h⟩);simp[B0P,this]
  .simp[B0P,h1]
 rw[hv]at ha;by_cases h1:i=0
 .have hb:B0j s=false:=by rw[Z3q];exactλh=>h0 ⟨h1,h⟩
  rw[hb]at f;have h0:(i=0)=True:=Z2o h1;simp -dsimp[t0,t5,t6,t7,e,hi,m,j,h0,A0j,A0k,A0e,A0o,A0n];rw[<-g];refine A0h func44 f ?_;by_cases q1:0<s.k;case neg=>have a:s.k<=0:=Q0;rw[Z0I q1,Z0J,Z0J,Z0J]at ha;rw[ha];simp -dsimp[t0,t5,t6,t7,A0b hX,q1,a,h0];exact c
  have a:¬s.k<=0:=Q0;by_cases q2:s.k<=7;case neg=>have d:(7:Int)<s.k:=Q0;rw[Z0I q2,Z2V,Z0J,Z0J]at ha;rw[ha];simp -dsimp[t0,t5,t6,t7,A0b hX,q1,a,q2,d,h0];exact c
  have d:¬(7:Int)<s.k:=Q0;rw[Z0B q1,Z0B q2,Z0V,Z0V]at ha;simp -dsimp[t0,t5,t6,t7,A0b hX,q1,a,q2,d,h0];refine A0h func66 n ?_;cases hlb:A1u s.lab
  .rw[hlb,Z0J]at ha;rw[ha];simp -dsimp[t0,t5,t6,t7];exact c
  .rw[hlb,Z0V]at ha;simp -dsimp[t0,t5,t6,t7,w1];exact⟨⟨i+1,Q3,rfl,c,ha⟩,Q3⟩
 .have h0:¬i=0:=h1;simp -dsimp[t0,t5,t6,t7,e,hi,m,j,h0,A0j,A0k,A0e,A0o,A0n];rw[<-g];by_cases q1:0<s.k;case neg=>have a:s.k<=0:=Q0;rw[Z0I q1,Z0J,Z0J,Z0J]at ha;rw[ha];simp -dsimp[t0,t5,t6,t7,A0b hX,q1,a,h0];exact c
  have a:¬s.k<=0:=Q0;by_cases q2:s.k<=7;case neg=>have d:(7:Int)<s.k:=Q0;rw[Z0I q2,Z2V,Z0J,Z0J]at ha;rw[ha];simp -dsimp[t0,t5,t6,t7,A0b hX,q1,a,q2,d,h0];exact c
  have d:¬(7:Int)<s.k:=Q0;rw[Z0B q1,Z0B q2,Z0V,Z0V]at ha;simp -dsimp[t0,t5,t6,t7,A0b hX,q1,a,q2,d,h0];refine A0h func66 n ?_;cases hlb:A1u s.lab
  .rw[hlb,Z0J]at ha;rw[ha];simp -dsimp[t0,t5,t6,t7];exact c
  .rw[hlb,Z0V]at ha;simp -dsimp[t0,t5,t6,t7,w1];exact⟨⟨i+1,Q3,rfl,c,ha⟩,Q3⟩
end
def D9N(a b c:Int):A1A prog .neq 231 (.agg [I a,I b,I c]) (.agg [I 0,I 0,I 0])=some (B (!(decide (a=0)&&decide (b=0)&&decide (c=0)))):=by
 have h1:prog.eqGuardType prog.depth 231=false:=Q2;have h2:prog.stoodInHeld 231=false:=Q2;by_cases c1:a=0;case neg=>
  have e1:(a==0)=false:=by simpa using c1
  simp[A1A,A3f,A4t,A3P,A2P,h1,A9N,h2,A2H,c1,e1]
 by_cases c2:b=0;case neg=>
  have e2:(b==0)=false:=by simpa using c2
  simp[A1A,A3f,A4t,A3P,A2P,h1,A9N,h2,A2H,c1,c2,e2]
 by_cases c3:c=0;case neg=>
  have e3:(c==0)=false:=by simpa using c3
  simp[A1A,A3f,A4t,A3P,A2P,h1,A9N,h2,A2H,c1,c2,c3,e3]
 subst c1 c2 c3;exact D4v
section
variable (gl:Nat->AV)
def D4r(s cs:ByteArray)(hs:s.size<=9223372036854775807)(hc:cs.size<4294967281)(ha:cs.data.toList.all (λb=>decide (b.toNat<128))=true)(M:Mem):
 A0c (WC gl) 172 [S s,S cs] M (λv M'=>v=S ⟨(Lib.trimS s.data.toList cs.data.toList).toArray⟩/\M'=M):=by
 refine A5w λG w vs hi hr=>?_
 simp only[A0s]at hr
 obtain⟨y,_,rfl,hy,z,_,rfl,hz,rfl⟩:=hr
 simp only[Rep]at hy hz
 subst hy
 subst hz
 exact Any.strings_Trim_laid lays160 Q2 s cs w hs hc (ascii_of_all ha)
def C7d(s:ByteArray)(M:Mem):A0c (WC gl) 96 [S s] M (λv M'=>v=B (A6e s)/\M'=M):=by
 have j:A6e s=(decide (1<=s.size)&&decide (s.size<=16)&&(decide (97<=A2l s 0)&&decide (A2l s 0<=122))&&decide ((⟨(Lib.trimS s.data.toList C2e.data.toList).toArray⟩:ByteArray)=⟨#[]⟩)):=rfl;rw[j];by_cases c1:1<=s.size;case neg=>have a:((s.size:Int)<1)=True:=Z2o Q0;have i:s.size=0:=Q0;refine A0t hB func96 ?_;simp -dsimp -implicitDefEqProofs[c1,a,i]
 have a:¬(s.size:Int)<1:=Q0;have c0:¬s.size=0:=Q0;by_cases c2:s.size<=16;case neg=>have b:((16:Int)<s.size)=True:=Z2o Q0;refine A0t hB func96 ?_;simp -dsimp -implicitDefEqProofs[c1,a,c0,c2,b]
 have b:¬(16:Int)<s.size:=Q0;have g:=D4r gl s C2e Q0 (by decide) (by decide) M;obtain⟨tr,f⟩:=ex ((⟨(Lib.trimS s.data.toList C2e.data.toList).toArray⟩:ByteArray));rw[<-f]at g|-;have d:0<s.size:=Q0;refine A0t hB func96 ?_;by_cases c3:97<=A2l s 0;case neg=>have c:A2l s 0<97:=Q0;simp -dsimp -implicitDefEqProofs[c1,a,c0,c2,b,d,c3,c]
 have c:¬A2l s 0<97:=Q0;by_cases c4:A2l s 0<=122;case neg=>have e:122<A2l s 0:=Q0;simp -dsimp -implicitDefEqProofs[c1,a,c0,c2,b,d,c3,c,c4,e]
 have e:¬122<A2l s 0:=Q0;simp -dsimp -implicitDefEqProofs[c1,a,c0,c2,b,d,c3,c,c4,e];refine A0h func172 g ?_;simp -dsimp -implicitDefEqProofs
 exactλ_=>⟨⟨c1,c2⟩,c3,c4⟩
def D0p(s:A1z)(M:Mem):A0c (WC gl) 97 [.agg [I s.k,I s.day,S s.ev]] M (λv M'=>v=B (A4X s)/\M'=M):=by
 have hb:A4X s=if s.k=0\/s.k=2 then decide (s.day=0)&&decide (s.ev=⟨#[]⟩)else if s.k=1 then inB s.day 0 1048576&&decide (s.ev=⟨#[]⟩)else if s.k=3 then decide (s.day=0)&&A6e s.ev else false:=rfl;rw[hb];refine A0t hB func97 ?_;by_cases k0:s.k=0
 .rw[Z0c (.inl k0)];by_cases c1:s.day=0
  .simp -dsimp -implicitDefEqProofs[k0,c1]
  .simp -dsimp -implicitDefEqProofs[k0,c1]
 by_cases k2:s.k=2
 .rw[Z0c (.inr k2)];by_cases c1:s.day=0
  .simp -dsimp -implicitDefEqProofs[k2,c1]
  .simp -dsimp -implicitDefEqProofs[k2,c1]
 rw[Z0d (λh=>h.elim k0 k2)];by_cases k1:s.k=1
 .rw[Z0c k1];simp -dsimp -implicitDefEqProofs[k0,k1,k2];refine A0h func168 (B4k gl s.day 0 1048576 M) ?_;cases inB s.day 0 1048576
  .simp -dsimp -implicitDefEqProofs
  .simp -dsimp -implicitDefEqProofs
 rw[Z0d k1];by_cases k3:s.k=3
 .rw[Z0c k3];by_cases c1:s.day=0
  .simp -dsimp -implicitDefEqProofs[k0,k1,k2,k3,c1];refine A0h func96 (C7d gl s.ev M) ?_;simp -dsimp -implicitDefEqProofs
   exactλ_=>c1
  .simp -dsimp -implicitDefEqProofs[k0,k1,k2,k3,c1]
 .rw[Z0d k3];simp -dsimp -implicitDefEqProofs[k0,k1,k2,k3]
def D1e(w:A0z)(M:Mem):A0c (WC gl) 265 [.agg w.row] M (λv M'=>v=B (!mk0 w)/\M'=M):=by have hw:w.row=[S w.text,I w.act,I w.item,I w.at_]:=rfl;have hm:mk0 w=(decide (w.act=0)&&decide (w.item=0)&&decide (w.at_=0)):=rfl;have hn:=D9N w.act w.item w.at_;rw[<-hm]at hn;rw[hw];refine A0t hB func265 ?_;simp -dsimp -implicitDefEqProofs[C2Z,hn]
def D4w(l:List A0z)(M:Mem)(hl:l.length<=100000000):A0c (WC gl) 294 [.list 4 (A0i l) .no,.func (.func 265) [] []] M (λv M'=>v=I (A3b (λw=>!mk0 w) l 0)/\M'=M):=by
 refine A0t hB func294 ?_;simp -dsimp -implicitDefEqProofs;refine A0K hB (λT M1=>∃i:Nat,i<=l.length/\M1=M/\T 0=.list 4 (A0i l) .no/\T 1=.func (.func 265) [] []/\T 7=I l.length/\T 8=I i/\A3b (λw=>!mk0 w) l 0=A3b (λw=>!mk0 w) (l.drop i) i) (λT M1=>match T 8 with|.val (.int _ i)=>l.length-i.toNat|_=>0) Q2 ?_ ?_
 .exact⟨0,Q0,rfl,Q1,Q1,Q1,Q1,Q1⟩
 rintro T M1 ⟨i,i1,rfl,t0,t1,t7,t8,ho⟩;by_cases hi:i<l.length
 .have a:(i:Int)<l.length:=Q0;have w1:IntKind.i64.wrap ((i:Int)+1)=(i+1:Nat):=by rw[A0R Q0 Q0];omega
  have hm:=D1e gl l[i] M1;rw[Z0o hi,A3b]at ho;rw[A0z.row]at hm;simp -dsimp -implicitDefEqProofs[t0,t1,t7,t8,hi,a,A0z.row];refine A0h func265 hm ?_;cases hp:mk0 l[i]
  .rw[hp,Z0c (by rfl)]at ho;simp -dsimp -implicitDefEqProofs[t0,t1,t7,t8,ho]
  .rw[hp,Z0d Q1]at ho;simp -dsimp -implicitDefEqProofs[t0,t1,t7,t8,w1];exact⟨⟨i+1,Q3,rfl,ho⟩,Q3⟩
 .have a:¬(i:Int)<l.length:=Q0;rw[show l.drop i=[]from Z0y Q0]at ho;simp -dsimp -implicitDefEqProofs[t0,t1,t7,t8,a,ho,A3b]
def C7x(l:List A0z)(M:Mem)(hl:l.length<=100000000):A0c (WC gl) 266 [.list 4 (A0i l) .no,.func (.func 265) [] []] M (λv M'=>v=B (!l.all mk0)/\M'=M):=by
 have:(!l.all mk0)=l.any λw=>!mk0 w:=by rw[Z3n]
 rw[this,<-A7d _ l 0];refine A0t hB func266 ?_;simp -dsimp -implicitDefEqProofs;refine A0h func294 (D4w gl l M hl) ?_;simp -dsimp -implicitDefEqProofs
def D2V(u:A0a)(M:Mem)(hl:u.lim):A0c (WC gl) 264 [.agg u.row] M (λv M'=>v=B (B7U u)/\M'=M):=by
 have he:=C7b u.id;have hq:B7U u=(decide (u.id=idZ)&&u.head.all mk0&&u.words.all mk0):=rfl;rw[u.row_eq,hq];refine A0t hB func264 ?_;by_cases c1:u.id=idZ;case neg=>rw[Z0I c1]at he|-;simp -dsimp -implicitDefEqProofs[A5X,he]
 rw[Z0B c1]at he|-;simp -dsimp -implicitDefEqProofs[A5X,he];refine A0h func266 (C7x gl u.head M hl.1) ?_;cases u.head.all mk0
 .simp -dsimp -implicitDefEqProofs
 simp -dsimp -implicitDefEqProofs;refine A0h func266 (C7x gl u.words M hl.2.1) ?_;simp -dsimp -implicitDefEqProofs
def C1a(u:A0a)(M:Mem)(hf:Fit u):A0c (WC gl) 214 [.agg u.row,fnV 264] M (λv M'=>v=B (A3H B7U (λ(_:Unit) _=>()) u ()).1/\M'=M):=by
 refine A2e (λ_=>trivial) ?_;refine A9g gl 264 [] [] B7U (λ(_:Unit) _=>()) (λM1 _=>Grow M M1) (λ_ u=>u.lims) (λ_ ks=>A4U ks) ?_ ?_ ?_ ?_ ?_ u () M hf.1 hf.2.1 (A0d.refl _ _)
 .intro a u h;exact(A3T u h).2
 .intro a k ks h;rw[A4U]at h;exact h.1
 .intro a k ks h _;rw[A4U]at h;exact h.2
 .intro M1 a X h;exact h.trans (A0d.app none _ _)
 .intro u a M1 hg hk hj;refine(A0m func264 rfl rfl (D2V gl u M1 (A3T u hk).1)).mono ?_;rintro _ _ ⟨rfl,rfl⟩;exact⟨rfl,hj⟩
def C5Y(c:gl 2=A1C)(a:gl 8=A1U)(u:A0a)(M:Mem)(hf:Fit u):A0c (WC gl) 230 [.agg u.row] M (λv M'=>v=B (C0m u)/\M'=M):=by
 have h1:=B8m gl c a u M hf;have h2:=C1a gl u M hf;have hb:C0m u=(A9Z u&&(A3H B7U (λ(_:Unit) _=>()) u ()).1):=rfl;rw[hb];generalize(A3H B7U (λ(_:Unit) _=>()) u ()).1=b at*;rw[u.row_eq]at h1 h2|-;refine A0t hB func230 ?_;simp -dsimp -implicitDefEqProofs;refine A0h func263 h1 ?_;cases A9Z u
 .simp -dsimp -implicitDefEqProofs
 simp -dsimp -implicitDefEqProofs;refine A0h func214 h2 ?_;simp -dsimp -implicitDefEqProofs
def C5x(b:gl 2=A1C)(a:gl 8=A1U)(u:A0a)(M:Mem)(hf:Fit u):A0c (WC gl) 151 [.agg u.row] M (λv M'=>v=B (B1V u)/\M'=M):=by
 have h1:=C8l gl b a u M hf;have h2:=λM=>C5Y gl b a u M hf;have hb:B1V u=(C0m u&&decide (u.kind≠0)&&decide (C3F u=0)):=rfl;rw[hb];rw[u.row_eq]at h1 h2|-;refine A0t hB func151 ?_;simp -dsimp -implicitDefEqProofs;refine A0v (A0m func229 rfl rfl h1) ?_;rintro _ M2 ⟨⟨t,rfl⟩,e⟩;rw[e];simp -dsimp -implicitDefEqProofs;refine A0h func230 (h2 M) ?_;cases C0m u
 .simp -dsimp -implicitDefEqProofs
 by_cases c1:u.kind=0
 .simp -dsimp -implicitDefEqProofs[c1]
 .simp -dsimp -implicitDefEqProofs[c1];by_cases h:C3F u=0<;>simp[h]
end
def C5h(n:Nat){α:Type}(enc:α->List AV)(h:∀x,A1l n (enc x)):∀l:List α,A4f n (l.map enc)
 |[]=>by simp[A4f]
 |a::l=>by rw[Z0w,A4f];exact⟨h a,C5h n enc h l⟩
def C6I(n:Nat)(l:List A1n):A4f n (A0P l):=C5h n A1n.row (λs=>by simp[A1n.row,A1l,bdd]) l
def C6w(n:Nat)(l:List ByteArray):A4f n (A0J l):=C5h n (λs=>[S s]) (λs=>by simp[A1l,bdd]) l
def B7o(n:Nat)(l:List A0a):A4f n (A0q l):=A8U n l
abbrev zIt:List AV:=[I 0,A0B,A0B,I 0,I 0,I 0,I 0,I 0,I 0,S ⟨#[]⟩,A0B,A0B,A0B,A0B,A0B,S ⟨#[]⟩,S ⟨#[]⟩,I 0,I 0,S ⟨#[]⟩,I 0,I 0,I 0,S ⟨#[]⟩,A0B]
section
variable (gl:Nat->AV)
def C8t(x:A0G)(M:Mem):A0c (WC gl) 148 [.agg x.row] M (λv M'=>v=.agg [I 0,A0B,A0B,I x.h.where_,I 0,I x.h.unit.id.act,I x.h.unit.id.item,I x.h.unit.id.n,I x.h.unit.kind,S x.h.unit.label,.list 4 (A0i x.h.unit.head) .no,.list 4 (A0i x.h.unit.words) .no,.list 8 (A0q x.h.unit.kids) .no,A0B,A0B,S ⟨#[]⟩,S ⟨#[]⟩,I 0,I 0,S ⟨#[]⟩,I 0,I 0,I 0,S ⟨#[]⟩,A0B]/\M'=M):=by
 refine A0c.dataX ?_;obtain⟨Ma,a⟩:=ex (M++[A0l.cells 70 zIt]);have e:Grow M Ma:=by rw[a];exact A0d.app none _ _
 have b:Ma[M.length]?=some (A0l.cells 70 zIt):=by rw[a];simp
 have c:M.length<Ma.length:=(Z0a.1 b).1;have d:A0A prog 70 [(3,I x.h.where_),(5,.agg [I x.h.unit.id.act,I x.h.unit.id.item,I x.h.unit.id.n,I x.h.unit.kind,S x.h.unit.label,.list 4 (A0i x.h.unit.head) .no,.list 4 (A0i x.h.unit.words) .no,.list 8 (A0q x.h.unit.kids) .no])]=some (.agg [I 0,A0B,A0B,I x.h.where_,I 0,I x.h.unit.id.act,I x.h.unit.id.item,I x.h.unit.id.n,I x.h.unit.kind,S x.h.unit.label,.list 4 (A0i x.h.unit.head) .no,.list 4 (A0i x.h.unit.words) .no,.list 8 (A0q x.h.unit.kids) .no,A0B,A0B,S ⟨#[]⟩,S ⟨#[]⟩,I 0,I 0,S ⟨#[]⟩,I 0,I 0,I 0,S ⟨#[]⟩,A0B]):=by simp[A0A,A1m,putCells,A0e,AV.cells,AV.storable]
 rw[x.row_eq,A1Q.row];refine A0t hB func148 ?_;simp -dsimp -implicitDefEqProofs[A0j,d];rw[<-a];simp -dsimp -implicitDefEqProofs[A0f b,A0o,A0n,A0r c,A0g];exact⟨A0u e (Z0j _),.same (by simp[bdd,A1l,C6I,C6w,A2v,B7o]) .nil⟩
def C9M(x:A0G)(M:Mem):A0c (WC gl) 152 [.agg x.row] M (λv M'=>v=.agg [I 0,A0B,A0B,I 0,I 0,I 0,I 0,I 0,I 0,S ⟨#[]⟩,A0B,A0B,A0B,A0B,A0B,S ⟨#[]⟩,S ⟨#[]⟩,I 0,I 0,S ⟨#[]⟩,I 0,I 0,I 0,S ⟨#[]⟩,A0B]/\M'=M):=by
 refine A0c.dataX ?_;obtain⟨Ma,a⟩:=ex (M++[A0l.cells 70 zIt]);have e:Grow M Ma:=by rw[a];exact A0d.app none _ _
 have b:Ma[M.length]?=some (A0l.cells 70 zIt):=by rw[a];simp
 have c:M.length<Ma.length:=(Z0a.1 b).1;have d:A0A prog 70 []=some (.agg [I 0,A0B,A0B,I 0,I 0,I 0,I 0,I 0,I 0,S ⟨#[]⟩,A0B,A0B,A0B,A0B,A0B,S ⟨#[]⟩,S ⟨#[]⟩,I 0,I 0,S ⟨#[]⟩,I 0,I 0,I 0,S ⟨#[]⟩,A0B]):=by simp[A0A,A1m,putCells,A0e,AV.cells,AV.storable]
 rw[x.row_eq,A1Q.row];refine A0t hB func152 ?_;simp -dsimp -implicitDefEqProofs[A0j,d];rw[<-a];simp -dsimp -implicitDefEqProofs[A0f b,A0o,A0n,A0r c,A0g];exact⟨A0u e (Z0j _),.same (by simp[bdd,A1l,C6I,C6w,A2v,B7o]) .nil⟩
def C8D(x:A0G)(M:Mem):A0c (WC gl) 154 [.agg x.row] M (λv M'=>v=.agg [I 0,A0B,A0B,I 0,I x.h.nth,I 0,I 0,I 0,I 0,S ⟨#[]⟩,A0B,A0B,A0B,.list 1 (A0J x.h.old) .no,.list 1 (A0J x.h.new) .no,S ⟨#[]⟩,S ⟨#[]⟩,I 0,I 0,S ⟨#[]⟩,I 0,I 0,I 0,S ⟨#[]⟩,A0B]/\M'=M):=by
 refine A0c.dataX ?_;obtain⟨Ma,a⟩:=ex (M++[A0l.cells 70 zIt]);have e:Grow M Ma:=by rw[a];exact A0d.app none _ _
 have b:Ma[M.length]?=some (A0l.cells 70 zIt):=by rw[a];simp
 have c:M.length<Ma.length:=(Z0a.1 b).1;have d:A0A prog 70 [(6,.list 1 (A0J x.h.old) .no),(7,.list 1 (A0J x.h.new) .no),(4,I x.h.nth)]=some (.agg [I 0,A0B,A0B,I 0,I x.h.nth,I 0,I 0,I 0,I 0,S ⟨#[]⟩,A0B,A0B,A0B,.list 1 (A0J x.h.old) .no,.list 1 (A0J x.h.new) .no,S ⟨#[]⟩,S ⟨#[]⟩,I 0,I 0,S ⟨#[]⟩,I 0,I 0,I 0,S ⟨#[]⟩,A0B]):=by simp[A0A,A1m,putCells,A0e,AV.cells,AV.storable]
 rw[x.row_eq,A1Q.row];refine A0t hB func154 ?_;simp -dsimp -implicitDefEqProofs[A0j,d];rw[<-a];simp -dsimp -implicitDefEqProofs[A0f b,A0o,A0n,A0r c,A0g];exact⟨A0u e (Z0j _),.same (by simp[bdd,A1l,C6I,C6w,A2v,B7o]) .nil⟩
def C8i(x:A0G)(M:Mem):A0c (WC gl) 158 [.agg x.row] M (λv M'=>v=.agg [I 0,A0B,A0B,I 0,I x.h.nth,I 0,I 0,I 0,I 0,S ⟨#[]⟩,A0B,A0B,A0B,.list 1 (A0J x.h.old) .no,.list 1 (A0J x.h.new) .no,S ⟨#[]⟩,S ⟨#[]⟩,I 0,I 0,S ⟨#[]⟩,I 0,I 0,I 0,S ⟨#[]⟩,A0B]/\M'=M):=by
 refine A0c.dataX ?_;obtain⟨Ma,a⟩:=ex (M++[A0l.cells 70 zIt]);have e:Grow M Ma:=by rw[a];exact A0d.app none _ _
 have b:Ma[M.length]?=some (A0l.cells 70 zIt):=by rw[a];simp
 have c:M.length<Ma.length:=(Z0a.1 b).1;have d:A0A prog 70 [(6,.list 1 (A0J x.h.old) .no),(7,.list 1 (A0J x.h.new) .no),(4,I x.h.nth)]=some (.agg [I 0,A0B,A0B,I 0,I x.h.nth,I 0,I 0,I 0,I 0,S ⟨#[]⟩,A0B,A0B,A0B,.list 1 (A0J x.h.old) .no,.list 1 (A0J x.h.new) .no,S ⟨#[]⟩,S ⟨#[]⟩,I 0,I 0,S ⟨#[]⟩,I 0,I 0,I 0,S ⟨#[]⟩,A0B]):=by simp[A0A,A1m,putCells,A0e,AV.cells,AV.storable]
 rw[x.row_eq,A1Q.row];refine A0t hB func158 ?_;simp -dsimp -implicitDefEqProofs[A0j,d];rw[<-a];simp -dsimp -implicitDefEqProofs[A0f b,A0o,A0n,A0r c,A0g];exact⟨A0u e (Z0j _),.same (by simp[bdd,A1l,C6I,C6w,A2v,B7o]) .nil⟩
def C9R(x:A0G)(M:Mem):A0c (WC gl) 160 [.agg x.row] M (λv M'=>v=.agg [I 0,A0B,A0B,I 0,I 0,I 0,I 0,I 0,I 0,S ⟨#[]⟩,A0B,A0B,A0B,A0B,.list 1 (A0J x.h.new) .no,S ⟨#[]⟩,S ⟨#[]⟩,I 0,I 0,S ⟨#[]⟩,I 0,I 0,I 0,S ⟨#[]⟩,A0B]/\M'=M):=by
 refine A0c.dataX ?_;obtain⟨Ma,a⟩:=ex (M++[A0l.cells 70 zIt]);have e:Grow M Ma:=by rw[a];exact A0d.app none _ _
 have b:Ma[M.length]?=some (A0l.cells 70 zIt):=by rw[a];simp
 have c:M.length<Ma.length:=(Z0a.1 b).1;have d:A0A prog 70 [(7,.list 1 (A0J x.h.new) .no)]=some (.agg [I 0,A0B,A0B,I 0,I 0,I 0,I 0,I 0,I 0,S ⟨#[]⟩,A0B,A0B,A0B,A0B,.list 1 (A0J x.h.new) .no,S ⟨#[]⟩,S ⟨#[]⟩,I 0,I 0,S ⟨#[]⟩,I 0,I 0,I 0,S ⟨#[]⟩,A0B]):=by simp[A0A,A1m,putCells,A0e,AV.cells,AV.storable]
 rw[x.row_eq,A1Q.row];refine A0t hB func160 ?_;simp -dsimp -implicitDefEqProofs[A0j,d];rw[<-a];simp -dsimp -implicitDefEqProofs[A0f b,A0o,A0n,A0r c,A0g];exact⟨A0u e (Z0j _),.same (by simp[bdd,A1l,C6I,C6w,A2v,B7o]) .nil⟩
def C8g(x:A0G)(M:Mem):A0c (WC gl) 162 [.agg x.row] M (λv M'=>v=.agg [I 0,A0B,A0B,I 0,I 0,I 0,I 0,I 0,I 0,S ⟨#[]⟩,A0B,A0B,A0B,A0B,A0B,S x.h.lab,S ⟨#[]⟩,I 0,I 0,S ⟨#[]⟩,I 0,I 0,I 0,S ⟨#[]⟩,A0B]/\M'=M):=by
 refine A0c.dataX ?_;obtain⟨Ma,a⟩:=ex (M++[A0l.cells 70 zIt]);have e:Grow M Ma:=by rw[a];exact A0d.app none _ _
 have b:Ma[M.length]?=some (A0l.cells 70 zIt):=by rw[a];simp
 have c:M.length<Ma.length:=(Z0a.1 b).1;have d:A0A prog 70 [(8,S x.h.lab)]=some (.agg [I 0,A0B,A0B,I 0,I 0,I 0,I 0,I 0,I 0,S ⟨#[]⟩,A0B,A0B,A0B,A0B,A0B,S x.h.lab,S ⟨#[]⟩,I 0,I 0,S ⟨#[]⟩,I 0,I 0,I 0,S ⟨#[]⟩,A0B]):=by simp[A0A,A1m,putCells,A0e,AV.cells,AV.storable]
 rw[x.row_eq,A1Q.row];refine A0t hB func162 ?_;simp -dsimp -implicitDefEqProofs[A0j,d];rw[<-a];simp -dsimp -implicitDefEqProofs[A0f b,A0o,A0n,A0r c,A0g];exact⟨A0u e (Z0j _),.same (by simp[bdd,A1l,C6I,C6w,A2v,B7o]) .nil⟩
def C9F(x:A0G)(M:Mem):A0c (WC gl) 164 [.agg x.row] M (λv M'=>v=.agg [I 0,A0B,.list 2 (A0P x.h.to) .no,I x.h.where_,I 0,I 0,I 0,I 0,I 0,S ⟨#[]⟩,A0B,A0B,A0B,A0B,A0B,S ⟨#[]⟩,S ⟨#[]⟩,I 0,I 0,S ⟨#[]⟩,I 0,I 0,I 0,S ⟨#[]⟩,A0B]/\M'=M):=by
 refine A0c.dataX ?_;obtain⟨Ma,a⟩:=ex (M++[A0l.cells 70 zIt]);have e:Grow M Ma:=by rw[a];exact A0d.app none _ _
 have b:Ma[M.length]?=some (A0l.cells 70 zIt):=by rw[a];simp
 have c:M.length<Ma.length:=(Z0a.1 b).1;have d:A0A prog 70 [(2,.list 2 (A0P x.h.to) .no),(3,I x.h.where_)]=some (.agg [I 0,A0B,.list 2 (A0P x.h.to) .no,I x.h.where_,I 0,I 0,I 0,I 0,I 0,S ⟨#[]⟩,A0B,A0B,A0B,A0B,A0B,S ⟨#[]⟩,S ⟨#[]⟩,I 0,I 0,S ⟨#[]⟩,I 0,I 0,I 0,S ⟨#[]⟩,A0B]):=by simp[A0A,A1m,putCells,A0e,AV.cells,AV.storable]
 rw[x.row_eq,A1Q.row];refine A0t hB func164 ?_;simp -dsimp -implicitDefEqProofs[A0j,d];rw[<-a];simp -dsimp -implicitDefEqProofs[A0f b,A0o,A0n,A0r c,A0g];exact⟨A0u e (Z0j _),.same (by simp[bdd,A1l,C6I,C6w,A2v,B7o]) .nil⟩
def D2j(x:A0G)(M:Mem):A0c (WC gl) 157 [.agg x.row] M (λv M'=>v=B (inB x.h.nth 0 256)/\M'=M):=by rw[x.row_eq,A1Q.row];refine A0t hB func157 ?_;simp -dsimp -implicitDefEqProofs;refine A0h func168 (B4k gl x.h.nth 0 256 M) ?_;simp -dsimp -implicitDefEqProofs
def C9B(b:gl 2=A1C)(a:gl 8=A1U)(x:A0G)(M:Mem)(hf:Fit x.h.unit):A0c (WC gl) 149 [.agg x.row] M (λv M'=>v=B (inB x.h.where_ 0 3&&B1V x.h.unit)/\M'=M):=by
 have hu:=C5x gl b a x.h.unit M hf;rw[x.h.unit.row_eq]at hu;rw[x.row_eq,A1Q.row];refine A0t hB func149 ?_;simp -dsimp -implicitDefEqProofs;refine A0h func150 (C4G gl x.h.where_ M) ?_;cases inB x.h.where_ 0 3
 .simp -dsimp -implicitDefEqProofs
 simp -dsimp -implicitDefEqProofs;refine A0h func151 hu ?_;simp -dsimp -implicitDefEqProofs
def C9N(x:A0G)(M:Mem):A0c (WC gl) 153 [.agg x.row] M (λv M'=>v=B true/\M'=M):=by refine A0t hB func153 ?_;simp -dsimp -implicitDefEqProofs
def C9g(x:A0G)(M:Mem)(h1:x.h.old.length<=3000)(h2:∀s∈x.h.old,s.size<=maxLen)(h3:x.h.new.length<=3000)(h4:∀s∈x.h.new,s.size<=maxLen):A0c (WC gl) 155 [.agg x.row] M (λv M'=>v=B (A3S x.h.old 1&&A3S x.h.new 0&&inB x.h.nth 0 256)/\M'=M):=by
 have hn:=D2j gl x M;rw[x.row_eq,A1Q.row]at hn|-;refine A0t hB func155 ?_;simp -dsimp -implicitDefEqProofs;refine A0h func156 (A9m gl x.h.old 1 h1 h2 M) ?_;cases A3S x.h.old 1
 .simp -dsimp -implicitDefEqProofs
 simp -dsimp -implicitDefEqProofs;refine A0h func156 (A9m gl x.h.new 0 h3 h4 M) ?_;cases A3S x.h.new 0
 .simp -dsimp -implicitDefEqProofs
 simp -dsimp -implicitDefEqProofs;refine A0h func157 hn ?_;simp -dsimp -implicitDefEqProofs
def C9i(x:A0G)(M:Mem)(h1:x.h.old.length<=3000)(h2:∀s∈x.h.old,s.size<=maxLen)(h3:x.h.new.length<=3000)(h4:∀s∈x.h.new,s.size<=maxLen):A0c (WC gl) 159 [.agg x.row] M (λv M'=>v=B (A3S x.h.old 0&&A3S x.h.new 1&&inB x.h.nth 0 256&&(decide (0<x.h.old.length)||decide (x.h.nth=0)))/\M'=M):=by
 have hn:=D2j gl x M;rw[x.row_eq,A1Q.row]at hn|-;refine A0t hB func159 ?_;simp -dsimp -implicitDefEqProofs;refine A0h func156 (A9m gl x.h.old 0 h1 h2 M) ?_;cases A3S x.h.old 0
 .simp -dsimp -implicitDefEqProofs
 simp -dsimp -implicitDefEqProofs;refine A0h func156 (A9m gl x.h.new 1 h3 h4 M) ?_;cases A3S x.h.new 1
 .simp -dsimp -implicitDefEqProofs
 simp -dsimp -implicitDefEqProofs;refine A0h func157 hn ?_;cases inB x.h.nth 0 256
 .simp -dsimp -implicitDefEqProofs
 by_cases c:0<x.h.old.length
 .have c':¬x.h.old=[]:=Z1G.1 c;have c2:¬x.h.old.length=0:=Q0;simp -dsimp -implicitDefEqProofs[c,c',c2]
 .have c':x.h.old=[]:=by simpa using c
  simp -dsimp -implicitDefEqProofs[c'];by_cases h:x.h.nth=0<;>simp[h]
def C8W(x:A0G)(M:Mem)(h3:x.h.new.length<=3000)(h4:∀s∈x.h.new,s.size<=maxLen):A0c (WC gl) 161 [.agg x.row] M (λv M'=>v=B (A3S x.h.new 0)/\M'=M):=by rw[x.row_eq,A1Q.row];refine A0t hB func161 ?_;simp -dsimp -implicitDefEqProofs;refine A0h func156 (A9m gl x.h.new 0 h3 h4 M) ?_;simp -dsimp -implicitDefEqProofs
def C9H(x:A0G)(M:Mem):A0c (WC gl) 163 [.agg x.row] M (λv M'=>v=B (A1u x.h.lab)/\M'=M):=by have hl:A0c (WC gl) 66 [S x.h.lab] M (λv M'=>v=B (A1u x.h.lab)/\M'=M):=A2e (λ_=>trivial) (B3p gl M x.h.lab);rw[x.row_eq,A1Q.row];refine A0t hB func163 ?_;simp -dsimp -implicitDefEqProofs;refine A0h func66 hl ?_;simp -dsimp -implicitDefEqProofs
def C8G(x:A0G)(M:Mem)(hl:x.h.to.length<=1000):A0c (WC gl) 165 [.agg x.row] M (λv M'=>v=B (inB x.h.where_ 0 3&&A1O x.h.to)/\M'=M):=by
 rw[x.row_eq,A1Q.row];refine A0t hB func165 ?_;simp -dsimp -implicitDefEqProofs;refine A0h func150 (C4G gl x.h.where_ M) ?_;cases inB x.h.where_ 0 3
 .simp -dsimp -implicitDefEqProofs
 simp -dsimp -implicitDefEqProofs;refine A0h func43 (C1w gl x.h.to M hl) ?_;simp -dsimp -implicitDefEqProofs
end
def D0x{P:Program}{t kt et:TypeId}{k v:AV}{es:List (AV×AV×Nat)}{c i:Nat}{M:Mem}{b:Nat}(h0:M[b]?=some (.map es c))(h1:A7S P t=some (kt,et))(h2:(A6g P kt||B5w P kt)=true)(h3:A4I P 30 kt k=true)(h4:A2I P kt k es=some (some (i,v))):A1S P t M (.mapr b) k true=some (.tuple [v,B true]):=by simp only[A1S,A4C,h0,h1,h2,h3,h4,Z2L,Z1f]
def D5K:B1r prog 160=some (.vec 160 2 [.val .nilFunc,.val .nilFunc] 1 [(1,1)]):=Q2
def D5v{M:Mem}{b:Nat}{k:Int}{i:Nat}{v:AV}(h0:M[b]?=some (.map ruE 12))(h4:A2I prog 3 (I k) ruE=some (some (i,v))):A1S prog 162 M (.mapr b) (I k) true=some (.tuple [v,B true]):=D0x h0 (kt:=3) (et:=160) Q2 Q2 rfl h4
section
variable (gl:Nat->AV)
set_option maxHeartbeats 2000000 in
def A4V(ax:gl 0=.cptr [fnV 336,fnV 337])(x:A0G){i:Nat}{f1 f2:FuncId}(M:Mem)(hk:A1d x.h.kind=true)(hf:A2I prog 3 (I x.h.kind) ruE=some (some (i,rlV f1 f2)))
 (jw jn ja jb jc jk:Int)(jl u:ByteArray)(m c b jh o jv:AV)(hs:m.storable=true/\c.storable=true/\b.storable=true/\jh.storable=true/\o.storable=true/\jv.storable=true)
 (cE cM:Bool)(hl:x.h.at_.length<=1000)
 (h1:∀M,A3E (WC gl) f1 [.agg x.row] M (λv M'=>v=.agg (itV 0 jw jn 0 0 0 jl ⟨#[]⟩ ⟨#[]⟩ A6f A0B m c b A0B ja jb jc jk u jh o jv)/\M'=M))
 (h3:∀M,A0c (WC gl) 98 [.agg x.row,.agg (itV x.h.kind jw jn 0 0 0 jl x.h.for_ ⟨#[]⟩ x.h.start (.list 2 (A0P x.h.at_) .no) m c b A0B ja jb jc jk u jh o jv)] M (λv M'=>v=B cE/\M'=M))
 (h4:∀M,A3E (WC gl) f2 [.agg x.row] M (λv M'=>v=B cM/\M'=M)):
 A0c (WC gl) 62 [.agg x.row] M (λv M'=>v=B ((A1O x.h.at_&&(decide (x.h.for_=⟨#[]⟩)||A6e x.h.for_)&&A4X x.h.start)&&cE&&cM)/\M'=M):=by
 refine A2e (λ_=>trivial) ?_
 obtain⟨sa,sb,sc,sd,se,sf⟩:=hs
 obtain⟨s,hs⟩:=ex (M.length)
 obtain⟨M1,w⟩:=ex (M++List.replicate 1 A3R)
 have al:M1[s]?=some A3R:=by rw[w,hs];simp
 have a5:M1.length=s+1:=by rw[w,hs];simp
 obtain⟨M2,p⟩:=ex (M1++[A0l.map ruE 12])
 have az:M2[s+1]?=some (.map ruE 12):=by rw[p,<-a5];simp
 have ah:M2[s]?=some A3R:=by rw[p,Z0n Q0];exact al
 have af:∀M,A3E (WC gl) 95 [] M (λv M'=>v=.mapr M.length/\M'=M++[.map ruE 12]):=λM=>A0m func95 rfl rfl (C2E gl ax M)
 have ab:=af M1
 have ak:=C9h (r:=λn=>.mapr n) (λM=>af M) (M:=M1)
 rw[<-p,a5]at ab ak
 have av:x.row=itV x.h.kind x.h.where_ x.h.nth x.h.act x.h.item x.h.day x.h.lab x.h.for_ x.h.ev x.h.start (.list 2 (A0P x.h.at_) .no) (.list 2 (A0P x.h.to) .no) (.list 1 (A0J x.h.old) .no) (.list 1 (A0J x.h.new) .no) (.list 25 (A1r x.by_) .no) x.h.unit.id.act x.h.unit.id.item x.h.unit.id.n x.h.unit.kind x.h.unit.label (.list 4 (A0i x.h.unit.head) .no) (.list 4 (A0i x.h.unit.words) .no) (.list 8 (A0q x.h.unit.kids) .no):=by rw[x.row_eq,A1Q.row]
 have ao:=λM=>C1w gl x.h.at_ M hl
 have au:=λM=>C7d gl x.h.for_ M
 have am:=λM=>D0p gl x.h.start M
 rw[av]at h1 h3 h4|-
 refine A0t hB func62 ?_
 simp -dsimp -implicitDefEqProofs
 refine C4M 1 ?_
 rw[<-w]
 refine B0u (h:=hB) (A0E gl) ⟨λk=>if k=0\/k=8 then 2 else if k=3 then 1 else if k=7 then 4 else 0,λ_=>s+1,λ_=>s,λ_ j=>j==0,true⟩ (by rfl) (by rw[C4Z Q0];kernel_rfl) ?_ ?_
 .intro k _ _;exact al
 refine D5H (args:=[]) rfl rfl ab ak Q1 ?_
 refine A7A rfl Q1 rfl (by simp[pOp]<;>rfl) ?_
 refine A7A rfl Q1 rfl (by simp[pOp]<;>rfl) ?_
 refine D4Z rfl (by simp[A1g]<;>rfl) (D5v az hf) ?_
 refine A7A rfl Q1 rfl (by simp[pOp]<;>rfl) ?_
 refine A7A rfl Q1 rfl (by simp[pOp]<;>rfl) ?_
 refine A7A rfl Q1 rfl (by simp[pOp]<;>rfl) ?_
 refine D1P rfl rfl rfl ah D5K Q1 ?_
 have a9:s<M2.length:=(Z0a.1 ah).1
 have ae:(M2.set s (.vec 160 2 [.val .nilFunc,.val .nilFunc] 1 [(1,1)]))[s]?=some (.vec 160 2 [.val .nilFunc,.val .nilFunc] 1 [(1,1)]):=by simp[a9]
 obtain⟨X,hX⟩:=ex (A0l.vec 160 2 [fnV f1,fnV f2] 1 [(1,1)])
 refine D1f (s:=s) (X:=X) (v:=.val undef) rfl (by simp[A4i]) (by rw[ae];simp[A3R]) ?_ Q1 ?_
 .rw[B3O];simp[A1P,ae,rlV,A0V,A0e,AV.cells,AV.storable,hX]
 rw[Z2h]
 refine A7A rfl Q1 rfl (by simp[pOp]<;>rfl) ?_
 obtain⟨M3,y⟩:=ex (M2.set s X)
 have a6:M3[s]?=some X:=by rw[y];simp[a9]
 have a3:Grow M M3:=by refine⟨by rw[y,Z1N,p,Z0k,a5];omega,λi hi _=>?_⟩;rw[y,Z0f Q0,p,Z0n Q0,w,Z0n hi]
 have aj:∀M,M[s]?=some X->A0M prog 158 M (.vptr s 1 0)=some (fnV f1):=λM h=>by simp[A0M,A2r,h,hX]
 have a2:∀M,M[s]?=some X->A0M prog 90 M (.vptr s 1 1)=some (fnV f2):=λM h=>by simp[A0M,A2r,h,hX]
 show A1t _ _ _ _ _ [] _ _ _
 simp only[A1t]
 rw[<-y]
 simp -dsimp -implicitDefEqProofs[aj M3 a6]
 refine A0v (h1 M3) ?_
 rintro _ _ ⟨rfl,e⟩
 rw[e];clear e
 obtain⟨q,hq⟩:=ex (M3.length)
 obtain⟨Y,hY⟩:∃Y:Int->AV->ByteArray->A1z->A0l,Y=λk a f st=>A0l.cells 70 (itV k jw jn 0 0 0 jl f ⟨#[]⟩ st a m c b A0B ja jb jc jk u jh o jv):=⟨_,rfl⟩
 obtain⟨M5,a0⟩:=ex (M3++[Y 0 A0B ⟨#[]⟩ A6f])
 have a7:M5[q]?=some (Y 0 A0B ⟨#[]⟩ A6f):=by rw[a0,hq];simp
 have g:q<M5.length:=(Z0a.1 a7).1
 have ad:Grow M3 M5:=by rw[a0];exact A0d.app none _ _
 have an:M.length<=q:=by have:=a3.1;omega
 have b0:s<q:=by have:=(Z0a.1 a6).1;omega
 have ai:∀X Z,(M5.set q X).set q Z=M5.set q Z:=λX Z=>Z2h ..
 obtain⟨M6,a1⟩:=ex (M5.set q (Y x.h.kind A0B ⟨#[]⟩ A6f))
 have a8:M6[q]?=some (Y x.h.kind A0B ⟨#[]⟩ A6f):=by rw[a1];simp[g]
 obtain⟨M7,t⟩:=ex (M5.set q (Y x.h.kind (.list 2 (A0P x.h.at_) .no) ⟨#[]⟩ A6f))
 have ac:M7[q]?=some (Y x.h.kind (.list 2 (A0P x.h.at_) .no) ⟨#[]⟩ A6f):=by rw[t];simp[g]
 obtain⟨M8,z⟩:=ex (M5.set q (Y x.h.kind (.list 2 (A0P x.h.at_) .no) x.h.for_ A6f))
 have aa:M8[q]?=some (Y x.h.kind (.list 2 (A0P x.h.at_) .no) x.h.for_ A6f):=by rw[z];simp[g]
 obtain⟨M9,l⟩:=ex (M5.set q (Y x.h.kind (.list 2 (A0P x.h.at_) .no) x.h.for_ x.h.start))
 have a4:M9[q]?=some (Y x.h.kind (.list 2 (A0P x.h.at_) .no) x.h.for_ x.h.start):=by rw[l];simp[g]
 have ag:M9[s]?=some X:=by rw[l,Z0f Q0];exact ad.get a6 Q1
 have d:Grow M M9:=by rw[l];exact A0u (a3.trans ad) an
 simp only[hY]at a0 a7 a1 a8 t ac z aa l a4 ai
 have aq:A0k (some 25) (M3++[A0l.cells 70 zIt]) (.ptr M3.length 0) (.agg (itV 0 jw jn 0 0 0 jl ⟨#[]⟩ ⟨#[]⟩ A6f A0B m c b A0B ja jb jc jk u jh o jv))=some M5:=by
  have:(M3++[A0l.cells 70 zIt])[M3.length]?=some (A0l.cells 70 zIt):=by simp
  rw[A0f this];simp[A0o,A0n,a0,A0e,sa,sb,sc,sd,se,sf]
 have ap:A0k (some 1) M5 (.ptr q 0) (I x.h.kind)=some M6:=by rw[A0f a7,a1];rfl
 have ar:A0k (some 1) M6 (.ptr q 1) (.list 2 (A0P x.h.at_) .no)=some M7:=by rw[A0f a8,t,a1];exact congrArg some (Z2h ..)
 have ay:A0k (some 1) M7 (.ptr q 16) (S x.h.for_)=some M8:=by rw[A0f ac,z,t];exact congrArg some (Z2h ..)
 have aw:A0k (some 3) M8 (.ptr q 17) (.agg [I x.h.start.k,I x.h.start.day,S x.h.start.ev])=some M9:=by rw[A0f aa,l,z];exact congrArg some (Z2h ..)
 simp -dsimp -implicitDefEqProofs[A0j,aq]
 rw[<-hq]
 simp -dsimp -implicitDefEqProofs[ap]
 refine A0h func36 (A9b gl x.h.kind M6) ?_
 simp -dsimp -implicitDefEqProofs[hk]
 refine A0Z hB (A0E gl) (λk=>if k=7\/k=9\/k=11 then 2 else 0) (λ_=>0) (by rfl) Q2 ?_
 simp -dsimp -implicitDefEqProofs[ar,ay,aw]
 refine A0h func43 (ao M9) ?_
 cases hcA:A1O x.h.at_
 .simp -dsimp -implicitDefEqProofs;exact d
 by_cases c1:x.h.for_=⟨#[]⟩
 .have e1:=Z2o c1;clear c1;simp -dsimp -implicitDefEqProofs[e1];refine A0h func97 (am M9) ?_;cases hcB:A4X x.h.start
  .simp -dsimp -implicitDefEqProofs[e1];exact d
  simp -dsimp -implicitDefEqProofs[A0b a4];refine A0h func98 (h3 M9) ?_;cases cE
  .simp -dsimp -implicitDefEqProofs[e1];exact d
  simp -dsimp -implicitDefEqProofs[a2 M9 ag];refine A0v (h4 M9) ?_;rintro _ _ ⟨rfl,rfl⟩;simp -dsimp -implicitDefEqProofs[e1];exact d
 .have e1:=Z3B c1;clear c1;simp -dsimp -implicitDefEqProofs[e1];refine A0h func96 (au M9) ?_;cases hcN:A6e x.h.for_
  .simp -dsimp -implicitDefEqProofs[e1];exact d
  simp -dsimp -implicitDefEqProofs[e1];refine A0h func97 (am M9) ?_;cases hcB:A4X x.h.start
  .simp -dsimp -implicitDefEqProofs[e1];exact d
  simp -dsimp -implicitDefEqProofs[A0b a4];refine A0h func98 (h3 M9) ?_;cases cE
  .simp -dsimp -implicitDefEqProofs[e1];exact d
  simp -dsimp -implicitDefEqProofs[a2 M9 ag];refine A0v (h4 M9) ?_;rintro _ _ ⟨rfl,rfl⟩;simp -dsimp -implicitDefEqProofs[e1];exact d
end
end Go.Abs
