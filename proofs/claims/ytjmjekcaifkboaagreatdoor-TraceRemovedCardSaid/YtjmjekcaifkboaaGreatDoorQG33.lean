/- The texts EhB, EhR, EhS, EhT, EhU, EhV, EhW. -/
import Derived.Test.YtjmjekcaifkboaaGreatDoorQG26
import Derived.Test.YtjmjekcaifkboaaGreatDoorQG32
import Derived.Test.YtjmjekcaifkboaaGreatDoorQG30
import Derived.Test.YtjmjekcaifkboaaGreatDoorQG29
import Derived.Test.YtjmjekcaifkboaaGreatDoorQG16
set_option linter.all false
namespace Go.Abs
def A5W(x:IdD)(u:A0a):A0a:=(A0N x u).getD A2x
def D0F(x:IdD)(p:A0a):Nat:=(A2l (λk=>(A0N x k).isSome) p.kids 0).toNat
def parI(x:IdD)(u:A0a):IdD×Nat:=match A7R x u with
 |some p=>(p.id,D0F x p)
 |none=>(idZ,0)
def A1Z(x:IdD)(u:A0a):A0a:=A1A (parI x u).1 (B0V (parI x u).2) u
def B0F(x:IdD)(u:A0a):List IdD:=(A1h x u).dropLast.reverse.map A0a.id
def B1T(u:A0a)(parent:IdD)(x:A0a):Bool:=decide (8<(B0F parent u).length+1+A1m x)
def A2H(u:A0a)(x:IdD)(behind:Nat):(IdD×Nat)×Int:=match A7R x u with
 |some p=>((p.id,D0F x p+behind),0)
 |none=>((idZ,0),9)
def A2s(u:A0a)(x:IdD)(w:Int):(IdD×Nat)×Int:=if w=0 then((x,0),0)else if w=1 then((x,(A5W x u).kids.length),0)else if w=2 then A2H u x 1 else A2H u x 0
def A5r(u:A0a)(p:List A1o)(w:Int):(IdD×Nat)×Int:=if(A2c u p).2=0 then(let r:=A2s u (A2c u p).1 w;if r.2=0 then r else((idZ,0),r.2))else((idZ,0),(A2c u p).2)
def A8v(u:A0a)(x y:IdD)(w:Int):(IdD×Nat)×Int:=
 if A7R x u=none\/(y≠x/\x∈B0F y u)\/(y=x/\¬(w=2\/w=3))then((idZ,0),9)
 else if y=x then(parI x u,0)
 else(let r:=A2s u y w;if r.2=0/\r.1.1=(parI x u).1/\(parI x u).2<r.1.2 then((r.1.1,r.1.2-1),0)else r)
def A8E(u:A0a)(h:A1W):(IdD×Nat)×Int:=if(A2c u h.at_).2=0 then(if(A2c u h.to).2=0 then(let r:=A8v u (A2c u h.at_).1 (A2c u h.to).1 h.where_;if r.2=0 then r else((idZ,0),r.2))else((idZ,0),(A2c u h.to).2))else((idZ,0),(A2c u h.at_).2)
def A7V(u:A0a)(d:EnD):A0a×Int:=
 let r:=A5r u d.it.h.at_ d.it.h.where_
 if r.2≠0 then(u,r.2)else
 let p:=A5W r.1.1 u
 let x:=A3j d.act d.item d.it.h.unit 0 0
 if A4f p x≠0 then(u,A4f p x)
 else if(decide (64<=p.kids.length)||B1T u r.1.1 x||decide (1024<A0y u+A0y x))=true then(u,6)
 else if(A0V x).any (λy=>(A0V u).any λz=>decide (z=y))=true then(u,5)
 else(A1A r.1.1 (A9t r.1.2 x) u,0)
def A7h(u x:A0a)(r:List A0z×Int):A0a×Int:=if r.2≠0 then(u,r.2)else(A1A x.id (B2L r.1) u,0)
def A6w(u x:A0a)(lab:ByteArray):A0a×Int:=if A4f (A5W (parI x.id u).1 u) (A6p lab x)=10 then(u,10)else(A1A x.id (A6p lab) u,0)
def B2B(u x:A0a)(h:A1W):A0a×Int:=
 let r:=A8E u h
 if r.2≠0 then(u,r.2)else
 let rest:=A1Z x.id u
 let p:=A5W r.1.1 rest
 if A4f p x≠0 then(u,A4f p x)
 else if((decide (r.1.1≠(parI x.id u).1)&&decide (64<=p.kids.length))||B1T rest r.1.1 x)=true then(u,6)
 else(A1A r.1.1 (A9t r.1.2 x) rest,0)
def A9T(u x:A0a)(d:EnD):A0a×Int:=
 let h:=d.it.h
 if h.kind=0 then A7V u d
 else if h.kind=1 then(A1Z x.id u,0)
 else if h.kind=2 then A7h u x (A4T x.words h.old h.new h.nth d.act d.item)
 else if h.kind=3 then A7h u x (A3V x.words h.old h.new h.nth d.act d.item)
 else if h.kind=4 then(A1A x.id (C0g (A2p d.act d.item 0 h.new)) u,0)
 else if h.kind=5 then A6w u x h.lab
 else B2B u x h
def A5x(u:A0a):Bool:=decide (u.id=idZ)&&decide (u.kind=0)&&decide (u.label=⟨#[]⟩)&&decide (u.head=[])&&decide (u.words=[])&&decide (u.kids=[])
def A8z(h:A1W)(by_:List A0H):Bool:=
 (decide (h.kind=6)||decide (h.to=[]))&&(decide (h.kind=0)||decide (h.kind=6)||decide (h.where_=0))&&(decide (h.kind=2)||decide (h.kind=3)||decide (h.nth=0))&&
 (decide (h.kind=0)||A5x h.unit)&&(decide (h.kind=2)||decide (h.kind=3)||decide (h.old=[]))&&(decide (h.kind=2)||decide (h.kind=3)||decide (h.kind=4)||decide (h.new=[]))&&
 (decide (h.kind=5)||decide (h.lab=⟨#[]⟩))&&decide (h.act=0)&&decide (h.item=0)&&decide (h.day=0)&&decide (h.ev=⟨#[]⟩)&&decide (by_=[])
def A7O(h:A1W):Bool:=
 if h.kind=0 then inB h.where_ 0 3&&B2w h.unit
 else if h.kind=1 then true
 else if h.kind=2 then A4b h.old 1&&A4b h.new 0&&inB h.nth 0 256
 else if h.kind=3 then A4b h.old 0&&A4b h.new 1&&inB h.nth 0 256&&(decide (0<h.old.length)||decide (h.nth=0))
 else if h.kind=4 then A4b h.new 0
 else if h.kind=5 then A1z h.lab
 else inB h.where_ 0 3&&A1T h.to
def A2E(x:A0H):Bool:=A1a x.h.kind&&(A1T x.h.at_&&(decide (x.h.for_=⟨#[]⟩)||A6C x.h.for_)&&A5h x.h.start)&&A8z x.h x.by_&&A7O x.h
def A2a(u:A0a)(d:EnD):A0a×Int:=
 if A2E d.it=false then(u,1)
 else if(A2c u d.it.h.at_).2≠0 then(u,(A2c u d.it.h.at_).2)
 else if(A2c u d.it.h.at_).1≠u.id\/d.kind=0 then A9T u (A5W (A2c u d.it.h.at_).1 u) d
 else if d.kind=6/\(A2c u d.it.h.to).2≠0 then(u,(A2c u d.it.h.to).2)
 else(u,9)
set_option maxRecDepth 100000
open Go.Proofs TryTypes Tryz
def E5V{a:ByteArray}{x y z:Int}:A1K prog .neq 259 (.agg [S a,I x,I y,I z]) (.agg [S a,I x,I y,I z])=some (B false):=by have h1:prog.eqGuardType prog.depth 259=false:=Q2;have h2:prog.stoodInHeld 259=false:=Q2;have h3:prog.stoodInHeld 257=false:=Q2;simp[A1K,A3v,A4B,A3Z,A3b,h1,B0m,h2,h3,A2P]
def E1I{k:Int}{a:ByteArray}:A1K prog .neq 78 (.agg [I k,S a]) (.agg [I k,S a])=some (B false):=by have h1:prog.eqGuardType prog.depth 78=false:=Q2;have h2:prog.stoodInHeld 78=false:=Q2;simp[A1K,A3v,A4B,A3Z,A3b,h1,B0m,h2,A2P]
section
variable (gl:Nat->AV)
def A4Z(p:List A1o)(M:Mem)(hl:p.length<=1000000):A0c (WC gl) 207 [.list 2 (A0O p) .no,.list 2 (A0O p) .no] M (λv M'=>v=B true/\M'=M):=by
 refine A0r hB func207 ?_;simp -dsimp -implicitDefEqProofs;refine A0M hB (λT M1=>∃i:Nat,M1=M/\i<=p.length/\T 0=.list 2 (A0O p) .no/\T 1=.list 2 (A0O p) .no/\T 12=I p.length/\T 13=I i) (λT M1=>match T 13 with|.val (.int _ i)=>p.length-i.toNat|_=>0) Q2 ?_ ?_
 .exact⟨0,rfl,Q0,Q1,Q1,Q1,Q1⟩
 rintro T M1 ⟨i,rfl,i1,t0,t1,b,c⟩;by_cases hi:i<p.length
 .have a:(i:Int)<p.length:=Q0;have w1:=A1O (i:=i) Q0;simp -dsimp -implicitDefEqProofs[t0,t1,b,c,a];refine A0X hB (A0B gl) (λ_=>0) (λ_=>0) (by rfl) Q2 ?_;simp -dsimp -implicitDefEqProofs[t0,t1,b,c,hi,a,A1o.row,E1I,w1];exact⟨⟨i+1,Q3,rfl⟩,Q3⟩
 .have a:¬(i:Int)<p.length:=Q0;simp -dsimp -implicitDefEqProofs[t0,t1,b,c,a]
def A6l(p:List A1o)(M:Mem):A0c (WC gl) 207 [.list 2 (A0O p) .no,A0C] M (λv M'=>v=B (decide (p=[]))/\M'=M):=by
 refine A0r hB func207 ?_;cases p with
 |nil=>
  simp -dsimp -implicitDefEqProofs;refine A0M hB (λT M1=>M1=M/\T 12=I 0/\T 13=I 0) (λT M1=>0) Q2 ?_ ?_
  .exact⟨rfl,Q1,Q1⟩
  rintro T M1 ⟨rfl,b,c⟩;simp -dsimp -implicitDefEqProofs[b,c]
 |cons a l=>have h:¬((l.length:Int)+1=0):=Q0;simp -dsimp -implicitDefEqProofs[h]
def A4C(p:List ByteArray)(M:Mem):A0c (WC gl) 208 [.list 1 (A0K p) .no,A0C] M (λv M'=>v=B (decide (p=[]))/\M'=M):=by
 refine A0r hB func208 ?_;cases p with
 |nil=>
  simp -dsimp -implicitDefEqProofs;refine A0M hB (λT M1=>M1=M/\T 12=I 0/\T 13=I 0) (λT M1=>0) Q2 ?_ ?_
  .exact⟨rfl,Q1,Q1⟩
  rintro T M1 ⟨rfl,b,c⟩;simp -dsimp -implicitDefEqProofs[b,c]
 |cons a l=>have h:¬((l.length:Int)+1=0):=Q0;simp -dsimp -implicitDefEqProofs[h]
def A8y(p:List A0H)(M:Mem):A0c (WC gl) 210 [.list 25 (A1w p) .no,A0C,.func (.func 124) [] []] M (λv M'=>v=B (decide (p=[]))/\M'=M):=by
 refine A0r hB func210 ?_;cases p with
 |nil=>
  rw[A1w];simp -dsimp -implicitDefEqProofs;refine A0M hB (λT M1=>M1=M/\T 16=I 0/\T 17=I 0) (λT M1=>0) Q2 ?_ ?_
  .exact⟨rfl,Q1,Q1⟩
  rintro T M1 ⟨rfl,b,c⟩;simp -dsimp -implicitDefEqProofs[b,c]
 |cons a l=>
  have h:¬((l.length:Int)+1=0):=Q0;have hl:(A1w (a::l)).length=l.length+1:=ZBG
  simp -dsimp -implicitDefEqProofs[h,hl]
def C9q(l:List A0z)(o1 o2:Own)(M:Mem)(hl:l.length<=100000000):A0c (WC gl) 266 [.list 4 (A0i l) o1,.list 4 (A0i l) o2] M (λv M'=>v=B true/\M'=M):=by
 refine A0r hB func266 ?_;simp -dsimp -implicitDefEqProofs;refine A1y hB l.length 13 (λT M1=>∃i:Nat,M1=M/\i<=l.length/\T 0=.list 4 (A0i l) o1/\T 1=.list 4 (A0i l) o2/\T 12=I l.length/\T 13=I i) ?_ ?_
 .exact⟨0,rfl,Q0,Q1,Q1,Q1,Q1⟩
 rintro T M1 ⟨i,rfl,i1,t0,t1,b,c⟩;by_cases hi:i<l.length
 .have a:(i:Int)<l.length:=Q0;have w1:IntKind.i64.wrap ((i:Int)+1)=(i+1:Nat):=by rw[A0R Q0 Q0];omega
  simp -dsimp -implicitDefEqProofs[t0,t1,b,c,a];refine A0X hB (A0B gl) (λ_=>0) (λ_=>0) (by rfl) Q2 ?_;simp -dsimp -implicitDefEqProofs[t0,t1,b,c,hi,a,A0z.row,E5V,w1];exact⟨⟨i+1,Q3,rfl⟩,Q3⟩
 .have a:¬(i:Int)<l.length:=Q0;simp -dsimp -implicitDefEqProofs[t0,t1,b,c,a]
def D8S(l:List A0a)(o1 o2:Own)(M:Mem)(hl:l.length<=1000000)(h:∀u∈l,∀M,A0c (WC gl) 209 [.agg u.row,.agg u.row] M (λv M'=>v=B true/\M'=M)):
 A0c (WC gl) 267 [.list 8 (A0t l) o1,.list 8 (A0t l) o2,fnV 209] M (λv M'=>v=B true/\M'=M):=by
 refine A1N (λ_=>trivial) ?_
 refine A0r hB func267 ?_
 simp -dsimp -implicitDefEqProofs
 refine A1y hB l.length 17 (λT M1=>∃i:Nat,Grow M M1/\i<=l.length/\T 1=.list 8 (A0t l) o2/\T 2=fnV 209/\T 15=.list 8 (A0t l) o1/\T 16=I l.length/\T 17=I i) ?_ ?_
 .exact⟨0,Grow.refl _,Q0,Q1,Q1,Q1,Q1,Q1⟩
 rintro T M1 ⟨i,hg,i1,t1,t2,e,c,d⟩
 by_cases hi:i<l.length
 case neg=>have g:¬(i:Int)<l.length:=Q0;simp -dsimp -implicitDefEqProofs[t1,t2,e,c,d,g];exact hg
 have g:(i:Int)<l.length:=Q0
 have w1:=A1O (i:=i) Q0
 obtain⟨x,hx⟩:=ex (l[i])
 have k:l[i]=x:=hx.symm
 have j:=A8l l i hi
 rw[k]at j
 obtain⟨M2,b⟩:=ex (M1++[A0m.cells 31 x.row])
 have ha:M2[M1.length]?=some (A0m.cells 31 [I x.id.act,I x.id.item,I x.id.n,I x.kind,S x.label,.list 4 (A0i x.head) .no,.list 4 (A0i x.words) .no,.list 8 (A0t x.kids) .no]):=by rw[b,x.row_eq];simp
 have p:Grow M1 M2:=ZCN
 obtain⟨M3,f⟩:=ex (M2++[A0m.cells 31 x.row])
 have hb:M3[M2.length]?=some (A0m.cells 31 [I x.id.act,I x.id.item,I x.id.n,I x.kind,S x.label,.list 4 (A0i x.head) .no,.list 4 (A0i x.words) .no,.list 8 (A0t x.kids) .no]):=by rw[f,x.row_eq];simp
 have m:Grow M2 M3:=ZBT
 have o:=m.get ha Q1
 have a:=h x (by rw[hx];exact Z0s hi) M3
 rw[x.row_eq]at a
 simp -dsimp -implicitDefEqProofs[t1,t2,e,c,d,hi,g,j,k,A0j,A0k,A0e,A0o,A0n]
 rw[show M1++[A0m.cells 31 x.row,A0m.cells 31 x.row]=M3 by rw[f,b];simp]
 simp -dsimp -implicitDefEqProofs[t1,t2,e,c,d,A0b o,show M1.length+1=M2.length by rw[b];simp,A0b hb]
 refine A0g func209 a ?_
 simp -dsimp -implicitDefEqProofs[t1,t2,e,c,d,w1]
 exact⟨⟨hg.trans (p.trans m),i+1,Q3,rfl⟩,Q3⟩
def C0n:∀(u:A0a) (M:Mem),u.lims->A0c (WC gl) 209 [.agg u.row,.agg u.row] M (λv M'=>v=B true/\M'=M)
 |.mk id kind lab hd ws ks,M,hlm=>by
  obtain⟨⟨b,a,e,-⟩,c⟩:=A4c _ hlm;have b:hd.length<=100000000:=b;have a:ws.length<=100000000:=a;have e:ks.length<=3000:=e;have c:=A4l.1 c;have d:(A0a.mk id kind lab hd ws ks).row=[I id.act,I id.item,I id.n,I kind,S lab,.list 4 (A0i hd) .no,.list 4 (A0i ws) .no,.list 8 (A0t ks) .no]:=ZDD
  have he:=C2D id id;rw[Z0A rfl]at he;have hk:=D8S gl ks .no .no M Q0 (λk hk M=>by have:=A0a.kid_lt (u:=.mk id kind lab hd ws ks) hk;exact C0n k M (c k hk));rw[d];refine A0r hB func209 ?_;simp -dsimp -implicitDefEqProofs[he];refine A0g func266 (C9q gl hd .no .no M b) ?_;simp -dsimp -implicitDefEqProofs;refine A0g func266 (C9q gl ws .no .no M a) ?_;simp -dsimp -implicitDefEqProofs;refine A0g func267 hk ?_;simp -dsimp -implicitDefEqProofs
termination_by u=>SizeOf.sizeOf u
def D2l(l:List A0z)(M:Mem):A0c (WC gl) 266 [.list 4 (A0i l) .no,A0C] M (λv M'=>v=B (decide (l=[]))/\M'=M):=by
 refine A0r hB func266 ?_;cases l with
 |nil=>
  simp -dsimp -implicitDefEqProofs;refine A0M hB (λT M1=>M1=M/\T 12=I 0/\T 13=I 0) (λT M1=>0) Q2 ?_ ?_
  .exact⟨rfl,Q1,Q1⟩
  rintro T M1 ⟨rfl,b,c⟩;simp -dsimp -implicitDefEqProofs[b,c]
 |cons a l=>have h:¬((l.length:Int)+1=0):=Q0;simp -dsimp -implicitDefEqProofs[h]
def D7o(l:List A0a)(M:Mem):A0c (WC gl) 267 [.list 8 (A0t l) .no,A0C,fnV 209] M (λv M'=>v=B (decide (l=[]))/\M'=M):=by
 refine A0r hB func267 ?_;cases l with
 |nil=>
  rw[A0t];simp -dsimp -implicitDefEqProofs;refine A0M hB (λT M1=>M1=M/\T 16=I 0/\T 17=I 0) (λT M1=>0) Q2 ?_ ?_
  .exact⟨rfl,Q1,Q1⟩
  rintro T M1 ⟨rfl,b,c⟩;simp -dsimp -implicitDefEqProofs[b,c]
 |cons a l=>
  have h:¬((l.length:Int)+1=0):=Q0;have hl:(A0t (a::l)).length=l.length+1:=ZBG
  simp -dsimp -implicitDefEqProofs[h,hl]
def C4N(u:A0a)(M:Mem):A0c (WC gl) 209 [.agg u.row,.agg [I 0,I 0,I 0,I 0,S ⟨#[]⟩,A0C,A0C,A0C]] M (λv M'=>v=B (A5x u)/\M'=M):=by
 have he:=C8K u.id;have hw:=D2l gl;have hk:=D7o gl;rw[u.row_eq];have a:A5x u=(decide (u.id=idZ)&&decide (u.kind=0)&&decide (u.label=⟨#[]⟩)&&decide (u.head=[])&&decide (u.words=[])&&decide (u.kids=[])):=rfl;rw[a];refine A0r hB func209 ?_;by_cases c1:u.id=idZ;case neg=>rw[Z0I c1]at he;simp -dsimp -implicitDefEqProofs[he,c1]
 rw[Z0A c1]at he;have e1:=Z2u c1;clear c1;by_cases c2:u.kind=0;case neg=>simp -dsimp -implicitDefEqProofs[he,e1,c2]
 by_cases c3:u.label=⟨#[]⟩;case neg=>simp -dsimp -implicitDefEqProofs[he,e1,c2,c3]
 simp -dsimp -implicitDefEqProofs[he,e1,c2,c3];refine A0g func266 (hw _ _) ?_;by_cases c4:u.head=[];case neg=>simp -dsimp -implicitDefEqProofs[e1,c2,c3,c4]
 simp -dsimp -implicitDefEqProofs[c4];refine A0g func266 (hw _ _) ?_;by_cases c5:u.words=[];case neg=>simp -dsimp -implicitDefEqProofs[e1,c2,c3,c4,c5]
 simp -dsimp -implicitDefEqProofs[c5];refine A0g func267 (hk _ _) ?_;simp -dsimp -implicitDefEqProofs[e1,c2,c3,c4,c5]
end
section
variable (gl:Nat->AV)
def B4N(k a b:Int)(M:Mem):A0c (WC gl) 202 [I k,I a,I b] M (λv M'=>v=B (inB k a b)/\M'=M):=by
 refine A0r hB func202 ?_;by_cases h1:a<=k
 .by_cases h2:k<=b
  .simp -dsimp[h1,h2,inB]
  .simp -dsimp[h1,h2,inB]
 .simp -dsimp[h1,inB]
def C5Y(k:Int)(M:Mem):A0c (WC gl) 184 [I k] M (λv M'=>v=B (inB k 0 3)/\M'=M):=by refine A0r hB func184 ?_;simp -dsimp;refine A0g func202 (B4N gl k 0 3 M) ?_;simp -dsimp
def D4A(l:List ByteArray)(hl:l.length<=3000)(hs:∀s∈l,s.size<=maxLen)(M:Mem):A0c (WC gl) 315 [.list 1 (A0K l) .no,.func (.func 291) [] []] M (λr M'=>r=I (A2l (λs=>!A2J s) l 0)/\M'=M):=by
 refine A0r hB func315 ?_;simp -dsimp;refine A0M hB (λT M1=>∃i:Nat,i<=l.length/\M1=M/\T 0=.list 1 (A0K l) .no/\T 1=.func (.func 291) [] []/\T 7=I l.length/\T 8=I i/\A2l (λs=>!A2J s) l 0=A2l (λs=>!A2J s) (l.drop i) i) (λT M1=>match T 8 with|.val (.int _ i)=>l.length-i.toNat|_=>0) Q2 ?_ ?_
 .exact⟨0,Q0,rfl,Q1,Q1,Q1,Q1,Q1⟩
 rintro T M1 ⟨i,i1,rfl,t0,t1,t7,t8,ho⟩;by_cases hi:i<l.length
 .have a:(i:Int)<l.length:=Q0;have w1:=A1O (i:=i) Q0;rw[Z0m hi,A2l]at ho;simp -dsimp[t0,t1,t7,t8,hi,a];refine A0g func291 (D2N gl _ l[i] (hs _ (Z0s hi))) ?_;cases hp:A2J l[i]
  .rw[hp,Z0c (by rfl)]at ho;simp -dsimp[t0,t1,t7,t8,ho]
  .rw[hp,Z0d Q1]at ho;simp -dsimp[t0,t1,t7,t8,w1];exact⟨⟨i+1,Q3,rfl,ho⟩,Q3⟩
 .have a:¬(i:Int)<l.length:=Q0;rw[show l.drop i=[]from Z0v Q0]at ho;simp -dsimp[t0,t1,t7,t8,a,ho,A2l]
def D1b(l:List ByteArray)(hl:l.length<=3000)(hs:∀s∈l,s.size<=maxLen)(M:Mem):A0c (WC gl) 290 [.list 1 (A0K l) .no,.func (.func 291) [] []] M (λr M'=>r=B (l.any λs=>!A2J s)/\M'=M):=by refine A0r hB func290 ?_;simp -dsimp;refine A0g func315 (D4A gl l hl hs M) ?_;rw[<-A5J _ l 0];simp -dsimp
def D0R(l:List ByteArray)(hl:l.length<=3000)(hs:∀s∈l,s.size<=maxLen)(M:Mem):A0c (WC gl) 258 [.list 1 (A0K l) .no] M (λr M'=>r=B (decide (l.length<=256)&&l.all A2J)/\M'=M):=by
 refine A0r hB func258 ?_;by_cases h1:l.length<=256
 .have a:(l.length:Int)<=256:=Q0;simp -dsimp[a,h1];refine A0g func290 (D1b gl l hl hs M) ?_;have:(l.any λs=>!A2J s)=!l.all A2J:=by rw[Z3z]
  rw[this];simp -dsimp[h1]
 .have a:¬(l.length:Int)<=256:=Q0;simp -dsimp[a,h1]
def A9K(l:List ByteArray)(a:Int)(hl:l.length<=3000)(hs:∀s∈l,s.size<=maxLen)(M:Mem):A0c (WC gl) 190 [.list 1 (A0K l) .no,I a] M (λr M'=>r=B (A4b l a)/\M'=M):=by
 refine A0r hB func190 ?_;simp -dsimp;refine A0g func258 (D0R gl l hl hs M) ?_;have:A4b l a=(decide (l.length<=256)&&l.all A2J&&decide (a<=l.length)):=rfl;rw[this];cases(decide (l.length<=256)&&l.all A2J)
 .simp -dsimp
 .by_cases h:a<=l.length
  .simp -dsimp[h]
  .simp -dsimp[h]
def A4D:Nat->List A1o->Bool
 |_,[]=>true
 |i,s::l=>B1s i s&&A4D (i+1) l
def B6m:∀(l p:List A1o) (i:Nat),p.drop i=l->A4D i l=(List.range' i l.length).all λj=>B1s j (p.getD j A4i)
 |[],p,i,_=>by simp[A4D]
 |s::l,p,i,h=>by
  have h1:p.getD i A4i=s:=by have:=congrArg (λl:List A1o=>l[0]?) h;simp only[Z0H,Z0Y,Z3y]at this;rw[Z1l,this];rfl
  have h2:p.drop (i+1)=l:=by rw[<-Z2b,h];rfl
  rw[A4D,B6m l p (i+1) h2,Z0r,List.range'_succ,Z2Q,h1]
def D0D(p:List A1o):A1T p=(decide (p.length<=9)&&A4D 0 p):=by rw[A1T,B6m p p 0 rfl,List.range_eq_range']
set_option maxHeartbeats 1000000 in
theorem C2z(p:List A1o)(M:Mem)(hl:p.length<=1000):A0c (WC gl) 64 [.list 2 (A0O p) .no] M (λv M'=>v=B (A1T p)/\M'=M):=by
 refine A1N (λ_=>trivial) ?_;rw[D0D];refine A0r hB func64 ?_;simp -dsimp;refine A1y hB p.length 7 (λT M1=>∃i:Nat,i<=p.length/\T 0=.list 2 (A0O p) .no/\T 5=.list 2 (A0O p) .no/\T 6=I p.length/\T 7=I i/\Grow M M1/\A4D 0 p=A4D i (p.drop i)) ?_ ?_
 .exact⟨0,Q0,Q1,Q1,Q1,Q1,Grow.refl _,rfl⟩
 rintro T M1 ⟨i,i1,t0,t5,t6,t7,hg,ha⟩;by_cases hi:i<p.length;case neg=>
  have e:¬(i:Int)<p.length:=Q0;rw[Z1u Q0,A4D]at ha;rw[ha];by_cases h9:p.length<=9
  .have l:(p.length:Int)<=9:=Q0;simp -dsimp[t0,t5,t6,t7,e,h9,l];exact hg
  .have l:¬(p.length:Int)<=9:=Q0;simp -dsimp[t0,t5,t6,t7,e,h9,l];exact hg
 have e:(i:Int)<p.length:=Q0;have w1:=A1O (i:=i) Q0;obtain⟨s,hs⟩:=ex (p[i]);have j:p[i]=s:=hs.symm;rw[Z0m hi,j,A4D]at ha;have m:(A0O p)[i]?=some [I s.k,S s.lab]:=by simp[A0O,hi,hs,A1o.row]
 obtain⟨M2,g⟩:=ex (M1++[A0m.cells 78 [I s.k,S s.lab]]);have hX:M2[M1.length]?=some (A0m.cells 78 [I s.k,S s.lab]):=by rw[g];simp
 have c:Grow M M2:=by rw[g];exact hg.trans (A0d.app none _ _)
 have f:=B0s gl s M2;rw[show s.row=[I s.k,S s.lab]from rfl]at f;have n:A0c (WC gl) 102 [S s.lab] M2 (λv M'=>v=B (A1z s.lab)/\M'=M2):=A1N (λ_=>trivial) (B3M gl M2 s.lab);have o:IntKind.i64.wrap 1=1:=ZAR
 have q:∀b:Bool,b=false->A4D 0 p=(b&&A4D (i+1) (p.drop (i+1)))->A4D 0 p=false:=λb h1 h2=>by rw[h2,h1];rfl
 by_cases h0:i=0/\B0L s=true
 .obtain⟨rfl,hb⟩:=h0;have hv:B1s 0 s=true:=by simp[B1s,hb]
  rw[hv,Z0U]at ha;rw[hb]at f;simp -dsimp[t0,t5,t6,t7,e,hi,m,j,A0j,A0k,A0e,A0o,A0n];rw[<-g];refine A0g func65 f ?_;simp -dsimp[t0,t5,t6,t7,w1,o];exact⟨⟨1,Q0,rfl,c,ha⟩,Q0⟩
 have hv:B1s i s=(decide (0<s.k)&&decide (s.k<=7)&&A1z s.lab):=by
  by_cases h1:i=0
  ·(have:B0L s=false:=by rw[Z3D];exactλh=>h0 ⟨h1,h⟩);simp[B1s,this]
  .simp[B1s,h1]
 rw[hv]at ha;by_cases h1:i=0
 .have hb:B0L s=false:=by rw[Z3D];exactλh=>h0 ⟨h1,h⟩
  rw[hb]at f;have h0:(i=0)=True:=Z2u h1;simp -dsimp[t0,t5,t6,t7,e,hi,m,j,h0,A0j,A0k,A0e,A0o,A0n];rw[<-g];refine A0g func65 f ?_;by_cases q1:0<s.k;case neg=>have a:s.k<=0:=Q0;rw[Z0I q1,Z0K,Z0K,Z0K]at ha;rw[ha];simp -dsimp[t0,t5,t6,t7,A0b hX,q1,a,h0];exact c
  have a:¬s.k<=0:=Q0;by_cases q2:s.k<=7;case neg=>have d:(7:Int)<s.k:=Q0;rw[Z0I q2,Z2V,Z0K,Z0K]at ha;rw[ha];simp -dsimp[t0,t5,t6,t7,A0b hX,q1,a,q2,d,h0];exact c
  have d:¬(7:Int)<s.k:=Q0;rw[Z0A q1,Z0A q2,Z0U,Z0U]at ha;simp -dsimp[t0,t5,t6,t7,A0b hX,q1,a,q2,d,h0];refine A0g func102 n ?_;cases hlb:A1z s.lab
  .rw[hlb,Z0K]at ha;rw[ha];simp -dsimp[t0,t5,t6,t7];exact c
  .rw[hlb,Z0U]at ha;simp -dsimp[t0,t5,t6,t7,w1];exact⟨⟨i+1,Q3,rfl,c,ha⟩,Q3⟩
 .have h0:¬i=0:=h1;simp -dsimp[t0,t5,t6,t7,e,hi,m,j,h0,A0j,A0k,A0e,A0o,A0n];rw[<-g];by_cases q1:0<s.k;case neg=>have a:s.k<=0:=Q0;rw[Z0I q1,Z0K,Z0K,Z0K]at ha;rw[ha];simp -dsimp[t0,t5,t6,t7,A0b hX,q1,a,h0];exact c
  have a:¬s.k<=0:=Q0;by_cases q2:s.k<=7;case neg=>have d:(7:Int)<s.k:=Q0;rw[Z0I q2,Z2V,Z0K,Z0K]at ha;rw[ha];simp -dsimp[t0,t5,t6,t7,A0b hX,q1,a,q2,d,h0];exact c
  have d:¬(7:Int)<s.k:=Q0;rw[Z0A q1,Z0A q2,Z0U,Z0U]at ha;simp -dsimp[t0,t5,t6,t7,A0b hX,q1,a,q2,d,h0];refine A0g func102 n ?_;cases hlb:A1z s.lab
  .rw[hlb,Z0K]at ha;rw[ha];simp -dsimp[t0,t5,t6,t7];exact c
  .rw[hlb,Z0U]at ha;simp -dsimp[t0,t5,t6,t7,w1];exact⟨⟨i+1,Q3,rfl,c,ha⟩,Q3⟩
end
def E1p(a b c:Int):A1K prog .neq 257 (.agg [I a,I b,I c]) (.agg [I 0,I 0,I 0])=some (B (!(decide (a=0)&&decide (b=0)&&decide (c=0)))):=by
 have h1:prog.eqGuardType prog.depth 257=false:=Q2;have h2:prog.stoodInHeld 257=false:=Q2;by_cases c1:a=0;case neg=>
  have e1:(a==0)=false:=by simpa using c1
  simp[A1K,A3v,A4B,A3Z,A3b,h1,B0m,h2,A2P,c1,e1]
 by_cases c2:b=0;case neg=>
  have e2:(b==0)=false:=by simpa using c2
  simp[A1K,A3v,A4B,A3Z,A3b,h1,B0m,h2,A2P,c1,c2,e2]
 by_cases c3:c=0;case neg=>
  have e3:(c==0)=false:=by simpa using c3
  simp[A1K,A3v,A4B,A3Z,A3b,h1,B0m,h2,A2P,c1,c2,c3,e3]
 subst c1 c2 c3;exact D6n
section
variable (gl:Nat->AV)
def D6k(s cs:ByteArray)(hs:s.size<=9223372036854775807)(hc:cs.size<4294967281)(ha:cs.data.toList.all (λb=>decide (b.toNat<128))=true)(M:Mem):
 A0c (WC gl) 206 [S s,S cs] M (λv M'=>v=S ⟨(Lib.trimS s.data.toList cs.data.toList).toArray⟩/\M'=M):=by
 refine A5P λG w vs hi hr=>?_
 simp only[A0v]at hr
 obtain⟨y,_,rfl,hy,z,_,rfl,hz,rfl⟩:=hr
 simp only[Rep]at hy hz
 subst hy
 subst hz
 exact Any.strings_Trim_laid lays160 Q2 s cs w hs hc (ascii_of_all ha)
def C8N(s:ByteArray)(M:Mem):A0c (WC gl) 122 [S s] M (λv M'=>v=B (A6C s)/\M'=M):=by
 have j:A6C s=(decide (1<=s.size)&&decide (s.size<=16)&&(decide (97<=A2t s 0)&&decide (A2t s 0<=122))&&decide ((⟨(Lib.trimS s.data.toList C3o.data.toList).toArray⟩:ByteArray)=⟨#[]⟩)):=rfl;rw[j];by_cases c1:1<=s.size;case neg=>have a:((s.size:Int)<1)=True:=Z2u Q0;have i:s.size=0:=Q0;refine A0r hB func122 ?_;simp -dsimp -implicitDefEqProofs[c1,a,i]
 have a:¬(s.size:Int)<1:=Q0;have c0:¬s.size=0:=Q0;by_cases c2:s.size<=16;case neg=>have b:((16:Int)<s.size)=True:=Z2u Q0;refine A0r hB func122 ?_;simp -dsimp -implicitDefEqProofs[c1,a,c0,c2,b]
 have b:¬(16:Int)<s.size:=Q0;have g:=D6k gl s C3o Q0 ZAR ZAR M;obtain⟨tr,f⟩:=ex ((⟨(Lib.trimS s.data.toList C3o.data.toList).toArray⟩:ByteArray));rw[<-f]at g|-;have d:0<s.size:=Q0;refine A0r hB func122 ?_;by_cases c3:97<=A2t s 0;case neg=>have c:A2t s 0<97:=Q0;simp -dsimp -implicitDefEqProofs[c1,a,c0,c2,b,d,c3,c]
 have c:¬A2t s 0<97:=Q0;by_cases c4:A2t s 0<=122;case neg=>have e:122<A2t s 0:=Q0;simp -dsimp -implicitDefEqProofs[c1,a,c0,c2,b,d,c3,c,c4,e]
 have e:¬122<A2t s 0:=Q0;simp -dsimp -implicitDefEqProofs[c1,a,c0,c2,b,d,c3,c,c4,e];refine A0g func206 g ?_;simp -dsimp -implicitDefEqProofs
 exactλ_=>⟨⟨c1,c2⟩,c3,c4⟩
def D2e(s:A1J)(M:Mem):A0c (WC gl) 123 [.agg [I s.k,I s.day,S s.ev]] M (λv M'=>v=B (A5h s)/\M'=M):=by
 have hb:A5h s=if s.k=0\/s.k=2 then decide (s.day=0)&&decide (s.ev=⟨#[]⟩)else if s.k=1 then inB s.day 0 1048576&&decide (s.ev=⟨#[]⟩)else if s.k=3 then decide (s.day=0)&&A6C s.ev else false:=rfl;rw[hb];refine A0r hB func123 ?_;by_cases k0:s.k=0
 .rw[Z0c (.inl k0)];by_cases c1:s.day=0
  .simp -dsimp -implicitDefEqProofs[k0,c1]
  .simp -dsimp -implicitDefEqProofs[k0,c1]
 by_cases k2:s.k=2
 .rw[Z0c (.inr k2)];by_cases c1:s.day=0
  .simp -dsimp -implicitDefEqProofs[k2,c1]
  .simp -dsimp -implicitDefEqProofs[k2,c1]
 rw[Z0d (λh=>h.elim k0 k2)];by_cases k1:s.k=1
 .rw[Z0c k1];simp -dsimp -implicitDefEqProofs[k0,k1,k2];refine A0g func202 (B4N gl s.day 0 1048576 M) ?_;cases inB s.day 0 1048576
  .simp -dsimp -implicitDefEqProofs
  .simp -dsimp -implicitDefEqProofs
 rw[Z0d k1];by_cases k3:s.k=3
 .rw[Z0c k3];by_cases c1:s.day=0
  .simp -dsimp -implicitDefEqProofs[k0,k1,k2,k3,c1];refine A0g func122 (C8N gl s.ev M) ?_;simp -dsimp -implicitDefEqProofs
   exactλ_=>c1
  .simp -dsimp -implicitDefEqProofs[k0,k1,k2,k3,c1]
 .rw[Z0d k3];simp -dsimp -implicitDefEqProofs[k0,k1,k2,k3]
def D2U(w:A0z)(M:Mem):A0c (WC gl) 288 [.agg w.row] M (λv M'=>v=B (!mk0 w)/\M'=M):=by have hw:w.row=[S w.text,I w.act,I w.item,I w.at_]:=rfl;have hm:mk0 w=(decide (w.act=0)&&decide (w.item=0)&&decide (w.at_=0)):=rfl;have hn:=E1p w.act w.item w.at_;rw[<-hm]at hn;rw[hw];refine A0r hB func288 ?_;simp -dsimp -implicitDefEqProofs[C4o,hn]
def D6o(l:List A0z)(M:Mem)(hl:l.length<=100000000):A0c (WC gl) 314 [.list 4 (A0i l) .no,.func (.func 288) [] []] M (λv M'=>v=I (A2l (λw=>!mk0 w) l 0)/\M'=M):=by
 refine A0r hB func314 ?_;simp -dsimp -implicitDefEqProofs;refine A0M hB (λT M1=>∃i:Nat,i<=l.length/\M1=M/\T 0=.list 4 (A0i l) .no/\T 1=.func (.func 288) [] []/\T 7=I l.length/\T 8=I i/\A2l (λw=>!mk0 w) l 0=A2l (λw=>!mk0 w) (l.drop i) i) (λT M1=>match T 8 with|.val (.int _ i)=>l.length-i.toNat|_=>0) Q2 ?_ ?_
 .exact⟨0,Q0,rfl,Q1,Q1,Q1,Q1,Q1⟩
 rintro T M1 ⟨i,i1,rfl,t0,t1,t7,t8,ho⟩;by_cases hi:i<l.length
 .have a:(i:Int)<l.length:=Q0;have w1:IntKind.i64.wrap ((i:Int)+1)=(i+1:Nat):=by rw[A0R Q0 Q0];omega
  have hm:=D2U gl l[i] M1;rw[Z0m hi,A2l]at ho;rw[A0z.row]at hm;simp -dsimp -implicitDefEqProofs[t0,t1,t7,t8,hi,a,A0z.row];refine A0g func288 hm ?_;cases hp:mk0 l[i]
  .rw[hp,Z0c (by rfl)]at ho;simp -dsimp -implicitDefEqProofs[t0,t1,t7,t8,ho]
  .rw[hp,Z0d Q1]at ho;simp -dsimp -implicitDefEqProofs[t0,t1,t7,t8,w1];exact⟨⟨i+1,Q3,rfl,ho⟩,Q3⟩
 .have a:¬(i:Int)<l.length:=Q0;rw[show l.drop i=[]from Z0v Q0]at ho;simp -dsimp -implicitDefEqProofs[t0,t1,t7,t8,a,ho,A2l]
def C9j(l:List A0z)(M:Mem)(hl:l.length<=100000000):A0c (WC gl) 289 [.list 4 (A0i l) .no,.func (.func 288) [] []] M (λv M'=>v=B (!l.all mk0)/\M'=M):=by
 have:(!l.all mk0)=l.any λw=>!mk0 w:=by rw[Z3z]
 rw[this,<-A5J _ l 0];refine A0r hB func289 ?_;simp -dsimp -implicitDefEqProofs;refine A0g func314 (D6o gl l M hl) ?_;simp -dsimp -implicitDefEqProofs
def D4P(u:A0a)(M:Mem)(hl:u.lim):A0c (WC gl) 287 [.agg u.row] M (λv M'=>v=B (B8E u)/\M'=M):=by
 have he:=C8K u.id;have hq:B8E u=(decide (u.id=idZ)&&u.head.all mk0&&u.words.all mk0):=rfl;rw[u.row_eq,hq];refine A0r hB func287 ?_;by_cases c1:u.id=idZ;case neg=>rw[Z0I c1]at he|-;simp -dsimp -implicitDefEqProofs[A6t,he]
 rw[Z0A c1]at he|-;simp -dsimp -implicitDefEqProofs[A6t,he];refine A0g func289 (C9j gl u.head M hl.1) ?_;cases u.head.all mk0
 .simp -dsimp -implicitDefEqProofs
 simp -dsimp -implicitDefEqProofs;refine A0g func289 (C9j gl u.words M hl.2.1) ?_;simp -dsimp -implicitDefEqProofs
def C1T(u:A0a)(M:Mem)(hf:Fit u):A0c (WC gl) 241 [.agg u.row,fnV 287] M (λv M'=>v=B (A3T B8E (λ(_:Unit) _=>()) u ()).1/\M'=M):=by
 refine A1N (λ_=>trivial) ?_;refine A9E gl 287 [] [] B8E (λ(_:Unit) _=>()) (λM1 _=>Grow M M1) (λ_ u=>u.lims) (λ_ ks=>A5e ks) ?_ ?_ ?_ ?_ ?_ u () M hf.1 hf.2.1 (A0d.refl _ _)
 .intro a u h;exact(A4c u h).2
 .intro a k ks h;rw[A5e]at h;exact h.1
 .intro a k ks h _;rw[A5e]at h;exact h.2
 .intro M1 a X h;exact h.trans (A0d.app none _ _)
 .intro u a M1 hg hk hj;refine(A0l func287 rfl rfl (D4P gl u M1 (A4c u hk).1)).mono ?_;rintro _ _ ⟨rfl,rfl⟩;exact⟨rfl,hj⟩
def C7w(c:gl 2=A1t)(a:gl 8=A1E)(u:A0a)(M:Mem)(hf:Fit u):A0c (WC gl) 257 [.agg u.row] M (λv M'=>v=B (C1e u)/\M'=M):=by
 have h1:=B8Z gl c a u M hf;have h2:=C1T gl u M hf;have hb:C1e u=(B0z u&&(A3T B8E (λ(_:Unit) _=>()) u ()).1):=rfl;rw[hb];generalize(A3T B8E (λ(_:Unit) _=>()) u ()).1=b at*;rw[u.row_eq]at h1 h2|-;refine A0r hB func257 ?_;simp -dsimp -implicitDefEqProofs;refine A0g func286 h1 ?_;cases B0z u
 .simp -dsimp -implicitDefEqProofs
 simp -dsimp -implicitDefEqProofs;refine A0g func241 h2 ?_;simp -dsimp -implicitDefEqProofs
def C6U(b:gl 2=A1t)(a:gl 8=A1E)(u:A0a)(M:Mem)(hf:Fit u):A0c (WC gl) 185 [.agg u.row] M (λv M'=>v=B (B2w u)/\M'=M):=by
 have h1:=D0a gl b a u M hf;have h2:=λM=>C7w gl b a u M hf;have hb:B2w u=(C1e u&&decide (u.kind≠0)&&decide (C4V u=0)):=rfl;rw[hb];rw[u.row_eq]at h1 h2|-;refine A0r hB func185 ?_;simp -dsimp -implicitDefEqProofs;refine A0s (A0l func256 rfl rfl h1) ?_;rintro _ M2 ⟨⟨t,rfl⟩,e⟩;rw[e];simp -dsimp -implicitDefEqProofs;refine A0g func257 (h2 M) ?_;cases C1e u
 .simp -dsimp -implicitDefEqProofs
 by_cases c1:u.kind=0
 .simp -dsimp -implicitDefEqProofs[c1]
 .simp -dsimp -implicitDefEqProofs[c1];by_cases h:C4V u=0<;>simp[h]
end
def C6D(n:Nat){α:Type}(enc:α->List AV)(h:∀x,A1i n (enc x)):∀l:List α,A4n n (l.map enc)
 |[]=>by simp[A4n]
 |a::l=>by rw[Z0x,A4n];exact⟨h a,C6D n enc h l⟩
def C8o(n:Nat)(l:List A1o):A4n n (A0O l):=C6D n A1o.row (λs=>by simp[A1o.row,A1i,bdd]) l
def C8a(n:Nat)(l:List ByteArray):A4n n (A0K l):=C6D n (λs=>[S s]) (λs=>by simp[A1i,bdd]) l
def B7Z(n:Nat)(l:List A0a):A4n n (A0t l):=A9s n l
abbrev zIt:List AV:=[I 0,A0C,A0C,I 0,I 0,I 0,I 0,I 0,I 0,S ⟨#[]⟩,A0C,A0C,A0C,A0C,A0C,S ⟨#[]⟩,S ⟨#[]⟩,I 0,I 0,S ⟨#[]⟩,I 0,I 0,I 0,S ⟨#[]⟩,A0C]
section
variable (gl:Nat->AV)
def D0g(x:A0H)(M:Mem):A0c (WC gl) 182 [.agg x.row] M (λv M'=>v=.agg [I 0,A0C,A0C,I x.h.where_,I 0,I x.h.unit.id.act,I x.h.unit.id.item,I x.h.unit.id.n,I x.h.unit.kind,S x.h.unit.label,.list 4 (A0i x.h.unit.head) .no,.list 4 (A0i x.h.unit.words) .no,.list 8 (A0t x.h.unit.kids) .no,A0C,A0C,S ⟨#[]⟩,S ⟨#[]⟩,I 0,I 0,S ⟨#[]⟩,I 0,I 0,I 0,S ⟨#[]⟩,A0C]/\M'=M):=by
 refine A0c.dataX ?_;obtain⟨Ma,a⟩:=ex (M++[A0m.cells 53 zIt]);have d:Grow M Ma:=ZAH
 have b:Ma[M.length]?=some (A0m.cells 53 zIt):=ZCA
 have hlt:M.length<Ma.length:=(Z0a.1 b).1;have c:A0A prog 53 [(3,I x.h.where_),(5,.agg [I x.h.unit.id.act,I x.h.unit.id.item,I x.h.unit.id.n,I x.h.unit.kind,S x.h.unit.label,.list 4 (A0i x.h.unit.head) .no,.list 4 (A0i x.h.unit.words) .no,.list 8 (A0t x.h.unit.kids) .no])]=some (.agg [I 0,A0C,A0C,I x.h.where_,I 0,I x.h.unit.id.act,I x.h.unit.id.item,I x.h.unit.id.n,I x.h.unit.kind,S x.h.unit.label,.list 4 (A0i x.h.unit.head) .no,.list 4 (A0i x.h.unit.words) .no,.list 8 (A0t x.h.unit.kids) .no,A0C,A0C,S ⟨#[]⟩,S ⟨#[]⟩,I 0,I 0,S ⟨#[]⟩,I 0,I 0,I 0,S ⟨#[]⟩,A0C]):=ZAC
 rw[x.row_eq,A1W.row];refine A0r hB func182 ?_;simp -dsimp -implicitDefEqProofs[A0j,c];rw[<-a];simp -dsimp -implicitDefEqProofs[A0f b,A0o,A0n,A0u hlt,A0h];exact⟨A0w d (Z0j _),.same ZAX .nil⟩
def D1B(x:A0H)(M:Mem):A0c (WC gl) 186 [.agg x.row] M (λv M'=>v=.agg [I 0,A0C,A0C,I 0,I 0,I 0,I 0,I 0,I 0,S ⟨#[]⟩,A0C,A0C,A0C,A0C,A0C,S ⟨#[]⟩,S ⟨#[]⟩,I 0,I 0,S ⟨#[]⟩,I 0,I 0,I 0,S ⟨#[]⟩,A0C]/\M'=M):=by
 refine A0c.dataX ?_;obtain⟨Ma,a⟩:=ex (M++[A0m.cells 53 zIt]);have d:Grow M Ma:=ZAH
 have b:Ma[M.length]?=some (A0m.cells 53 zIt):=ZCA
 have hlt:M.length<Ma.length:=(Z0a.1 b).1;have c:A0A prog 53 []=some (.agg [I 0,A0C,A0C,I 0,I 0,I 0,I 0,I 0,I 0,S ⟨#[]⟩,A0C,A0C,A0C,A0C,A0C,S ⟨#[]⟩,S ⟨#[]⟩,I 0,I 0,S ⟨#[]⟩,I 0,I 0,I 0,S ⟨#[]⟩,A0C]):=ZAC
 rw[x.row_eq,A1W.row];refine A0r hB func186 ?_;simp -dsimp -implicitDefEqProofs[A0j,c];rw[<-a];simp -dsimp -implicitDefEqProofs[A0f b,A0o,A0n,A0u hlt,A0h];exact⟨A0w d (Z0j _),.same ZAX .nil⟩
def D0q(x:A0H)(M:Mem):A0c (WC gl) 188 [.agg x.row] M (λv M'=>v=.agg [I 0,A0C,A0C,I 0,I x.h.nth,I 0,I 0,I 0,I 0,S ⟨#[]⟩,A0C,A0C,A0C,.list 1 (A0K x.h.old) .no,.list 1 (A0K x.h.new) .no,S ⟨#[]⟩,S ⟨#[]⟩,I 0,I 0,S ⟨#[]⟩,I 0,I 0,I 0,S ⟨#[]⟩,A0C]/\M'=M):=by
 refine A0c.dataX ?_;obtain⟨Ma,a⟩:=ex (M++[A0m.cells 53 zIt]);have d:Grow M Ma:=ZAH
 have b:Ma[M.length]?=some (A0m.cells 53 zIt):=ZCA
 have hlt:M.length<Ma.length:=(Z0a.1 b).1;have c:A0A prog 53 [(6,.list 1 (A0K x.h.old) .no),(7,.list 1 (A0K x.h.new) .no),(4,I x.h.nth)]=some (.agg [I 0,A0C,A0C,I 0,I x.h.nth,I 0,I 0,I 0,I 0,S ⟨#[]⟩,A0C,A0C,A0C,.list 1 (A0K x.h.old) .no,.list 1 (A0K x.h.new) .no,S ⟨#[]⟩,S ⟨#[]⟩,I 0,I 0,S ⟨#[]⟩,I 0,I 0,I 0,S ⟨#[]⟩,A0C]):=ZAC
 rw[x.row_eq,A1W.row];refine A0r hB func188 ?_;simp -dsimp -implicitDefEqProofs[A0j,c];rw[<-a];simp -dsimp -implicitDefEqProofs[A0f b,A0o,A0n,A0u hlt,A0h];exact⟨A0w d (Z0j _),.same ZAX .nil⟩
def C9X(x:A0H)(M:Mem):A0c (WC gl) 192 [.agg x.row] M (λv M'=>v=.agg [I 0,A0C,A0C,I 0,I x.h.nth,I 0,I 0,I 0,I 0,S ⟨#[]⟩,A0C,A0C,A0C,.list 1 (A0K x.h.old) .no,.list 1 (A0K x.h.new) .no,S ⟨#[]⟩,S ⟨#[]⟩,I 0,I 0,S ⟨#[]⟩,I 0,I 0,I 0,S ⟨#[]⟩,A0C]/\M'=M):=by
 refine A0c.dataX ?_;obtain⟨Ma,a⟩:=ex (M++[A0m.cells 53 zIt]);have d:Grow M Ma:=ZAH
 have b:Ma[M.length]?=some (A0m.cells 53 zIt):=ZCA
 have hlt:M.length<Ma.length:=(Z0a.1 b).1;have c:A0A prog 53 [(6,.list 1 (A0K x.h.old) .no),(7,.list 1 (A0K x.h.new) .no),(4,I x.h.nth)]=some (.agg [I 0,A0C,A0C,I 0,I x.h.nth,I 0,I 0,I 0,I 0,S ⟨#[]⟩,A0C,A0C,A0C,.list 1 (A0K x.h.old) .no,.list 1 (A0K x.h.new) .no,S ⟨#[]⟩,S ⟨#[]⟩,I 0,I 0,S ⟨#[]⟩,I 0,I 0,I 0,S ⟨#[]⟩,A0C]):=ZAC
 rw[x.row_eq,A1W.row];refine A0r hB func192 ?_;simp -dsimp -implicitDefEqProofs[A0j,c];rw[<-a];simp -dsimp -implicitDefEqProofs[A0f b,A0o,A0n,A0u hlt,A0h];exact⟨A0w d (Z0j _),.same ZAX .nil⟩
def D1G(x:A0H)(M:Mem):A0c (WC gl) 194 [.agg x.row] M (λv M'=>v=.agg [I 0,A0C,A0C,I 0,I 0,I 0,I 0,I 0,I 0,S ⟨#[]⟩,A0C,A0C,A0C,A0C,.list 1 (A0K x.h.new) .no,S ⟨#[]⟩,S ⟨#[]⟩,I 0,I 0,S ⟨#[]⟩,I 0,I 0,I 0,S ⟨#[]⟩,A0C]/\M'=M):=by
 refine A0c.dataX ?_;obtain⟨Ma,a⟩:=ex (M++[A0m.cells 53 zIt]);have d:Grow M Ma:=ZAH
 have b:Ma[M.length]?=some (A0m.cells 53 zIt):=ZCA
 have hlt:M.length<Ma.length:=(Z0a.1 b).1;have c:A0A prog 53 [(7,.list 1 (A0K x.h.new) .no)]=some (.agg [I 0,A0C,A0C,I 0,I 0,I 0,I 0,I 0,I 0,S ⟨#[]⟩,A0C,A0C,A0C,A0C,.list 1 (A0K x.h.new) .no,S ⟨#[]⟩,S ⟨#[]⟩,I 0,I 0,S ⟨#[]⟩,I 0,I 0,I 0,S ⟨#[]⟩,A0C]):=ZAC
 rw[x.row_eq,A1W.row];refine A0r hB func194 ?_;simp -dsimp -implicitDefEqProofs[A0j,c];rw[<-a];simp -dsimp -implicitDefEqProofs[A0f b,A0o,A0n,A0u hlt,A0h];exact⟨A0w d (Z0j _),.same ZAX .nil⟩
def C9V(x:A0H)(M:Mem):A0c (WC gl) 196 [.agg x.row] M (λv M'=>v=.agg [I 0,A0C,A0C,I 0,I 0,I 0,I 0,I 0,I 0,S ⟨#[]⟩,A0C,A0C,A0C,A0C,A0C,S x.h.lab,S ⟨#[]⟩,I 0,I 0,S ⟨#[]⟩,I 0,I 0,I 0,S ⟨#[]⟩,A0C]/\M'=M):=by
 refine A0c.dataX ?_;obtain⟨Ma,a⟩:=ex (M++[A0m.cells 53 zIt]);have d:Grow M Ma:=ZAH
 have b:Ma[M.length]?=some (A0m.cells 53 zIt):=ZCA
 have hlt:M.length<Ma.length:=(Z0a.1 b).1;have c:A0A prog 53 [(8,S x.h.lab)]=some (.agg [I 0,A0C,A0C,I 0,I 0,I 0,I 0,I 0,I 0,S ⟨#[]⟩,A0C,A0C,A0C,A0C,A0C,S x.h.lab,S ⟨#[]⟩,I 0,I 0,S ⟨#[]⟩,I 0,I 0,I 0,S ⟨#[]⟩,A0C]):=ZAC
 rw[x.row_eq,A1W.row];refine A0r hB func196 ?_;simp -dsimp -implicitDefEqProofs[A0j,c];rw[<-a];simp -dsimp -implicitDefEqProofs[A0f b,A0o,A0n,A0u hlt,A0h];exact⟨A0w d (Z0j _),.same ZAX .nil⟩
def D1t(x:A0H)(M:Mem):A0c (WC gl) 198 [.agg x.row] M (λv M'=>v=.agg [I 0,A0C,.list 2 (A0O x.h.to) .no,I x.h.where_,I 0,I 0,I 0,I 0,I 0,S ⟨#[]⟩,A0C,A0C,A0C,A0C,A0C,S ⟨#[]⟩,S ⟨#[]⟩,I 0,I 0,S ⟨#[]⟩,I 0,I 0,I 0,S ⟨#[]⟩,A0C]/\M'=M):=by
 refine A0c.dataX ?_;obtain⟨Ma,a⟩:=ex (M++[A0m.cells 53 zIt]);have d:Grow M Ma:=ZAH
 have b:Ma[M.length]?=some (A0m.cells 53 zIt):=ZCA
 have hlt:M.length<Ma.length:=(Z0a.1 b).1;have c:A0A prog 53 [(2,.list 2 (A0O x.h.to) .no),(3,I x.h.where_)]=some (.agg [I 0,A0C,.list 2 (A0O x.h.to) .no,I x.h.where_,I 0,I 0,I 0,I 0,I 0,S ⟨#[]⟩,A0C,A0C,A0C,A0C,A0C,S ⟨#[]⟩,S ⟨#[]⟩,I 0,I 0,S ⟨#[]⟩,I 0,I 0,I 0,S ⟨#[]⟩,A0C]):=ZAC
 rw[x.row_eq,A1W.row];refine A0r hB func198 ?_;simp -dsimp -implicitDefEqProofs[A0j,c];rw[<-a];simp -dsimp -implicitDefEqProofs[A0f b,A0o,A0n,A0u hlt,A0h];exact⟨A0w d (Z0j _),.same ZAX .nil⟩
def D4f(x:A0H)(M:Mem):A0c (WC gl) 191 [.agg x.row] M (λv M'=>v=B (inB x.h.nth 0 256)/\M'=M):=by rw[x.row_eq,A1W.row];refine A0r hB func191 ?_;simp -dsimp -implicitDefEqProofs;refine A0g func202 (B4N gl x.h.nth 0 256 M) ?_;simp -dsimp -implicitDefEqProofs
def D1q(b:gl 2=A1t)(a:gl 8=A1E)(x:A0H)(M:Mem)(hf:Fit x.h.unit):A0c (WC gl) 183 [.agg x.row] M (λv M'=>v=B (inB x.h.where_ 0 3&&B2w x.h.unit)/\M'=M):=by
 have hu:=C6U gl b a x.h.unit M hf;rw[x.h.unit.row_eq]at hu;rw[x.row_eq,A1W.row];refine A0r hB func183 ?_;simp -dsimp -implicitDefEqProofs;refine A0g func184 (C5Y gl x.h.where_ M) ?_;cases inB x.h.where_ 0 3
 .simp -dsimp -implicitDefEqProofs
 simp -dsimp -implicitDefEqProofs;refine A0g func185 hu ?_;simp -dsimp -implicitDefEqProofs
def D1C(x:A0H)(M:Mem):A0c (WC gl) 187 [.agg x.row] M (λv M'=>v=B true/\M'=M):=by refine A0r hB func187 ?_;simp -dsimp -implicitDefEqProofs
def D0U(x:A0H)(M:Mem)(h1:x.h.old.length<=3000)(h2:∀s∈x.h.old,s.size<=maxLen)(h3:x.h.new.length<=3000)(h4:∀s∈x.h.new,s.size<=maxLen):A0c (WC gl) 189 [.agg x.row] M (λv M'=>v=B (A4b x.h.old 1&&A4b x.h.new 0&&inB x.h.nth 0 256)/\M'=M):=by
 have hn:=D4f gl x M;rw[x.row_eq,A1W.row]at hn|-;refine A0r hB func189 ?_;simp -dsimp -implicitDefEqProofs;refine A0g func190 (A9K gl x.h.old 1 h1 h2 M) ?_;cases A4b x.h.old 1
 .simp -dsimp -implicitDefEqProofs
 simp -dsimp -implicitDefEqProofs;refine A0g func190 (A9K gl x.h.new 0 h3 h4 M) ?_;cases A4b x.h.new 0
 .simp -dsimp -implicitDefEqProofs
 simp -dsimp -implicitDefEqProofs;refine A0g func191 hn ?_;simp -dsimp -implicitDefEqProofs
def D0X(x:A0H)(M:Mem)(h1:x.h.old.length<=3000)(h2:∀s∈x.h.old,s.size<=maxLen)(h3:x.h.new.length<=3000)(h4:∀s∈x.h.new,s.size<=maxLen):A0c (WC gl) 193 [.agg x.row] M (λv M'=>v=B (A4b x.h.old 0&&A4b x.h.new 1&&inB x.h.nth 0 256&&(decide (0<x.h.old.length)||decide (x.h.nth=0)))/\M'=M):=by
 have hn:=D4f gl x M;rw[x.row_eq,A1W.row]at hn|-;refine A0r hB func193 ?_;simp -dsimp -implicitDefEqProofs;refine A0g func190 (A9K gl x.h.old 0 h1 h2 M) ?_;cases A4b x.h.old 0
 .simp -dsimp -implicitDefEqProofs
 simp -dsimp -implicitDefEqProofs;refine A0g func190 (A9K gl x.h.new 1 h3 h4 M) ?_;cases A4b x.h.new 1
 .simp -dsimp -implicitDefEqProofs
 simp -dsimp -implicitDefEqProofs;refine A0g func191 hn ?_;cases inB x.h.nth 0 256
 .simp -dsimp -implicitDefEqProofs
 by_cases c:0<x.h.old.length
 .have c':¬x.h.old=[]:=Z1K.1 c;have c2:¬x.h.old.length=0:=Q0;simp -dsimp -implicitDefEqProofs[c,c',c2]
 .have c':x.h.old=[]:=by simpa using c
  simp -dsimp -implicitDefEqProofs[c'];by_cases h:x.h.nth=0<;>simp[h]
def D0K(x:A0H)(M:Mem)(h3:x.h.new.length<=3000)(h4:∀s∈x.h.new,s.size<=maxLen):A0c (WC gl) 195 [.agg x.row] M (λv M'=>v=B (A4b x.h.new 0)/\M'=M):=by rw[x.row_eq,A1W.row];refine A0r hB func195 ?_;simp -dsimp -implicitDefEqProofs;refine A0g func190 (A9K gl x.h.new 0 h3 h4 M) ?_;simp -dsimp -implicitDefEqProofs
def D1v(x:A0H)(M:Mem):A0c (WC gl) 197 [.agg x.row] M (λv M'=>v=B (A1z x.h.lab)/\M'=M):=by have hl:A0c (WC gl) 102 [S x.h.lab] M (λv M'=>v=B (A1z x.h.lab)/\M'=M):=A1N (λ_=>trivial) (B3M gl M x.h.lab);rw[x.row_eq,A1W.row];refine A0r hB func197 ?_;simp -dsimp -implicitDefEqProofs;refine A0g func102 hl ?_;simp -dsimp -implicitDefEqProofs
def D0u(x:A0H)(M:Mem)(hl:x.h.to.length<=1000):A0c (WC gl) 199 [.agg x.row] M (λv M'=>v=B (inB x.h.where_ 0 3&&A1T x.h.to)/\M'=M):=by
 rw[x.row_eq,A1W.row];refine A0r hB func199 ?_;simp -dsimp -implicitDefEqProofs;refine A0g func184 (C5Y gl x.h.where_ M) ?_;cases inB x.h.where_ 0 3
 .simp -dsimp -implicitDefEqProofs
 simp -dsimp -implicitDefEqProofs;refine A0g func64 (C2z gl x.h.to M hl) ?_;simp -dsimp -implicitDefEqProofs
end
def D2n{P:Program}{t kt et:TypeId}{k v:AV}{es:List (AV×AV×Nat)}{c i:Nat}{M:Mem}{b:Nat}(h0:M[b]?=some (.map es c))(h1:A8r P t=some (kt,et))(h2:(A6E P kt||B6j P kt)=true)(h3:A4P P 30 kt k=true)(h4:A2Q P kt k es=some (some (i,v))):A1Y P t M (.mapr b) k true=some (.tuple [v,B true]):=by simp only[A1Y,A4I,h0,h1,h2,h3,h4,Z2H,Z1e]
def D7t:B1W prog 181=some (.vec 181 2 [.val .nilFunc,.val .nilFunc] 1 [(1,1)]):=Q2
def D7h{M:Mem}{b:Nat}{k:Int}{i:Nat}{v:AV}(h0:M[b]?=some (.map ruE 12))(h4:A2Q prog 3 (I k) ruE=some (some (i,v))):A1Y prog 183 M (.mapr b) (I k) true=some (.tuple [v,B true]):=D2n h0 (kt:=3) (et:=181) Q2 Q2 rfl h4
section
variable (gl:Nat->AV)
set_option maxHeartbeats 2000000 in
def A5f(ax:gl 0=.cptr [fnV 356,fnV 357])(x:A0H){i:Nat}{f1 f2:FuncId}(M:Mem)(hk:A1a x.h.kind=true)(hf:A2Q prog 3 (I x.h.kind) ruE=some (some (i,rlV f1 f2)))
 (jw jn ja jb jc jk:Int)(jl u:ByteArray)(m c b jh o jv:AV)(hs:m.storable=true/\c.storable=true/\b.storable=true/\jh.storable=true/\o.storable=true/\jv.storable=true)
 (cE cM:Bool)(hl:x.h.at_.length<=1000)
 (h1:∀M,A2Z (WC gl) f1 [.agg x.row] M (λv M'=>v=.agg (itV 0 jw jn 0 0 0 jl ⟨#[]⟩ ⟨#[]⟩ A6D A0C m c b A0C ja jb jc jk u jh o jv)/\M'=M))
 (h3:∀M,A0c (WC gl) 124 [.agg x.row,.agg (itV x.h.kind jw jn 0 0 0 jl x.h.for_ ⟨#[]⟩ x.h.start (.list 2 (A0O x.h.at_) .no) m c b A0C ja jb jc jk u jh o jv)] M (λv M'=>v=B cE/\M'=M))
 (h4:∀M,A2Z (WC gl) f2 [.agg x.row] M (λv M'=>v=B cM/\M'=M)):
 A0c (WC gl) 98 [.agg x.row] M (λv M'=>v=B ((A1T x.h.at_&&(decide (x.h.for_=⟨#[]⟩)||A6C x.h.for_)&&A5h x.h.start)&&cE&&cM)/\M'=M):=by
 refine A1N (λ_=>trivial) ?_
 obtain⟨sa,sb,sc,sd,se,sf⟩:=hs
 obtain⟨s,hs⟩:=ex (M.length)
 obtain⟨M1,w⟩:=ex (M++List.replicate 1 A4a)
 have al:M1[s]?=some A4a:=by rw[w,hs];simp
 have a5:M1.length=s+1:=by rw[w,hs];simp
 obtain⟨M2,p⟩:=ex (M1++[A0m.map ruE 12])
 have az:M2[s+1]?=some (.map ruE 12):=by rw[p,<-a5];simp
 have ah:M2[s]?=some A4a:=by rw[p,Z0o Q0];exact al
 have af:∀M,A2Z (WC gl) 121 [] M (λv M'=>v=.mapr M.length/\M'=M++[.map ruE 12]):=λM=>A0l func121 rfl rfl (C3P gl ax M)
 have ab:=af M1
 have ak:=D0W (r:=λn=>.mapr n) (λM=>af M) (M:=M1)
 rw[<-p,a5]at ab ak
 have av:x.row=itV x.h.kind x.h.where_ x.h.nth x.h.act x.h.item x.h.day x.h.lab x.h.for_ x.h.ev x.h.start (.list 2 (A0O x.h.at_) .no) (.list 2 (A0O x.h.to) .no) (.list 1 (A0K x.h.old) .no) (.list 1 (A0K x.h.new) .no) (.list 25 (A1w x.by_) .no) x.h.unit.id.act x.h.unit.id.item x.h.unit.id.n x.h.unit.kind x.h.unit.label (.list 4 (A0i x.h.unit.head) .no) (.list 4 (A0i x.h.unit.words) .no) (.list 8 (A0t x.h.unit.kids) .no):=by rw[x.row_eq,A1W.row]
 have ao:=λM=>C2z gl x.h.at_ M hl
 have au:=λM=>C8N gl x.h.for_ M
 have am:=λM=>D2e gl x.h.start M
 rw[av]at h1 h3 h4|-
 refine A0r hB func98 ?_
 simp -dsimp -implicitDefEqProofs
 refine C6e 1 ?_
 rw[<-w]
 refine B0W (h:=hB) (A0B gl) ⟨λk=>if k=0\/k=8 then 2 else if k=3 then 1 else if k=7 then 4 else 0,λ_=>s+1,λ_=>s,λ_ j=>j==0,true⟩ (by rfl) (by rw[C6u Q0];kernel_rfl) ?_ ?_
 .intro k _ _;exact al
 refine D7r (args:=[]) rfl rfl ab ak Q1 ?_
 refine A8a rfl Q1 rfl ZCU ?_
 refine A8a rfl Q1 rfl ZCU ?_
 refine D6N rfl (by simp[A1e]<;>rfl) (D7h az hf) ?_
 refine A8a rfl Q1 rfl ZCU ?_
 refine A8a rfl Q1 rfl ZCU ?_
 refine A8a rfl Q1 rfl ZCU ?_
 refine D3J rfl rfl rfl ah D7t Q1 ?_
 have a9:s<M2.length:=(Z0a.1 ah).1
 have ae:(M2.set s (.vec 181 2 [.val .nilFunc,.val .nilFunc] 1 [(1,1)]))[s]?=some (.vec 181 2 [.val .nilFunc,.val .nilFunc] 1 [(1,1)]):=by simp[a9]
 obtain⟨X,hX⟩:=ex (A0m.vec 181 2 [fnV f1,fnV f2] 1 [(1,1)])
 refine D2V (s:=s) (X:=X) (v:=.val undef) rfl (by simp[A4q]) (by rw[ae];simp[A4a]) ?_ Q1 ?_
 .rw[B4l];simp[A1V,ae,rlV,A0Q,A0e,AV.cells,AV.storable,hX]
 rw[Z2q]
 refine A8a rfl Q1 rfl ZCU ?_
 obtain⟨M3,y⟩:=ex (M2.set s X)
 have a6:M3[s]?=some X:=by rw[y];simp[a9]
 have a3:Grow M M3:=by refine⟨by rw[y,Z1Q,p,Z0k,a5];omega,λi hi _=>?_⟩;rw[y,Z0f Q0,p,Z0o Q0,w,Z0o hi]
 have aj:∀M,M[s]?=some X->A0E prog 179 M (.vptr s 1 0)=some (fnV f1):=λM h=>by simp[A0E,A2g,h,hX]
 have a2:∀M,M[s]?=some X->A0E prog 116 M (.vptr s 1 1)=some (fnV f2):=λM h=>by simp[A0E,A2g,h,hX]
 show A1x _ _ _ _ _ [] _ _ _
 simp only[A1x]
 rw[<-y]
 simp -dsimp -implicitDefEqProofs[aj M3 a6]
 refine A0s (h1 M3) ?_
 rintro _ _ ⟨rfl,e⟩
 rw[e];clear e
 obtain⟨q,hq⟩:=ex (M3.length)
 obtain⟨Y,hY⟩:∃Y:Int->AV->ByteArray->A1J->A0m,Y=λk a f st=>A0m.cells 53 (itV k jw jn 0 0 0 jl f ⟨#[]⟩ st a m c b A0C ja jb jc jk u jh o jv):=⟨_,rfl⟩
 obtain⟨M5,a0⟩:=ex (M3++[Y 0 A0C ⟨#[]⟩ A6D])
 have a7:M5[q]?=some (Y 0 A0C ⟨#[]⟩ A6D):=by rw[a0,hq];simp
 have g:q<M5.length:=(Z0a.1 a7).1
 have ad:Grow M3 M5:=by rw[a0];exact A0d.app none _ _
 have an:M.length<=q:=by have:=a3.1;omega
 have b0:s<q:=by have:=(Z0a.1 a6).1;omega
 have ai:∀X Z,(M5.set q X).set q Z=M5.set q Z:=λX Z=>Z2q ..
 obtain⟨M6,a1⟩:=ex (M5.set q (Y x.h.kind A0C ⟨#[]⟩ A6D))
 have a8:M6[q]?=some (Y x.h.kind A0C ⟨#[]⟩ A6D):=by rw[a1];simp[g]
 obtain⟨M7,t⟩:=ex (M5.set q (Y x.h.kind (.list 2 (A0O x.h.at_) .no) ⟨#[]⟩ A6D))
 have ac:M7[q]?=some (Y x.h.kind (.list 2 (A0O x.h.at_) .no) ⟨#[]⟩ A6D):=by rw[t];simp[g]
 obtain⟨M8,z⟩:=ex (M5.set q (Y x.h.kind (.list 2 (A0O x.h.at_) .no) x.h.for_ A6D))
 have aa:M8[q]?=some (Y x.h.kind (.list 2 (A0O x.h.at_) .no) x.h.for_ A6D):=by rw[z];simp[g]
 obtain⟨M9,l⟩:=ex (M5.set q (Y x.h.kind (.list 2 (A0O x.h.at_) .no) x.h.for_ x.h.start))
 have a4:M9[q]?=some (Y x.h.kind (.list 2 (A0O x.h.at_) .no) x.h.for_ x.h.start):=by rw[l];simp[g]
 have ag:M9[s]?=some X:=by rw[l,Z0f Q0];exact ad.get a6 Q1
 have d:Grow M M9:=by rw[l];exact A0w (a3.trans ad) an
 simp only[hY]at a0 a7 a1 a8 t ac z aa l a4 ai
 have aq:A0k (some 25) (M3++[A0m.cells 53 zIt]) (.ptr M3.length 0) (.agg (itV 0 jw jn 0 0 0 jl ⟨#[]⟩ ⟨#[]⟩ A6D A0C m c b A0C ja jb jc jk u jh o jv))=some M5:=by
  have:(M3++[A0m.cells 53 zIt])[M3.length]?=some (A0m.cells 53 zIt):=ZBG
  rw[A0f this];simp[A0o,A0n,a0,A0e,sa,sb,sc,sd,se,sf]
 have ap:A0k (some 1) M5 (.ptr q 0) (I x.h.kind)=some M6:=by rw[A0f a7,a1];rfl
 have ar:A0k (some 1) M6 (.ptr q 1) (.list 2 (A0O x.h.at_) .no)=some M7:=by rw[A0f a8,t,a1];exact congrArg some (Z2q ..)
 have ay:A0k (some 1) M7 (.ptr q 16) (S x.h.for_)=some M8:=by rw[A0f ac,z,t];exact congrArg some (Z2q ..)
 have aw:A0k (some 3) M8 (.ptr q 17) (.agg [I x.h.start.k,I x.h.start.day,S x.h.start.ev])=some M9:=by rw[A0f aa,l,z];exact congrArg some (Z2q ..)
 simp -dsimp -implicitDefEqProofs[A0j,aq]
 rw[<-hq]
 simp -dsimp -implicitDefEqProofs[ap]
 refine A0g func51 (A9A gl x.h.kind M6) ?_
 simp -dsimp -implicitDefEqProofs[hk]
 refine A0X hB (A0B gl) (λk=>if k=7\/k=9\/k=11 then 2 else 0) (λ_=>0) (by rfl) Q2 ?_
 simp -dsimp -implicitDefEqProofs[ar,ay,aw]
 refine A0g func64 (ao M9) ?_
 cases hcA:A1T x.h.at_
 .simp -dsimp -implicitDefEqProofs;exact d
 by_cases c1:x.h.for_=⟨#[]⟩
 .have e1:=Z2u c1;clear c1;simp -dsimp -implicitDefEqProofs[e1];refine A0g func123 (am M9) ?_;cases hcB:A5h x.h.start
  .simp -dsimp -implicitDefEqProofs[e1];exact d
  simp -dsimp -implicitDefEqProofs[A0b a4];refine A0g func124 (h3 M9) ?_;cases cE
  .simp -dsimp -implicitDefEqProofs[e1];exact d
  simp -dsimp -implicitDefEqProofs[a2 M9 ag];refine A0s (h4 M9) ?_;rintro _ _ ⟨rfl,rfl⟩;simp -dsimp -implicitDefEqProofs[e1];exact d
 .have e1:=Z3N c1;clear c1;simp -dsimp -implicitDefEqProofs[e1];refine A0g func122 (au M9) ?_;cases hcN:A6C x.h.for_
  .simp -dsimp -implicitDefEqProofs[e1];exact d
  simp -dsimp -implicitDefEqProofs[e1];refine A0g func123 (am M9) ?_;cases hcB:A5h x.h.start
  .simp -dsimp -implicitDefEqProofs[e1];exact d
  simp -dsimp -implicitDefEqProofs[A0b a4];refine A0g func124 (h3 M9) ?_;cases cE
  .simp -dsimp -implicitDefEqProofs[e1];exact d
  simp -dsimp -implicitDefEqProofs[a2 M9 ag];refine A0s (h4 M9) ?_;rintro _ _ ⟨rfl,rfl⟩;simp -dsimp -implicitDefEqProofs[e1];exact d
end
structure B0P (x:A0H):Prop where
 unit:Fit x.h.unit
 ats:x.h.at_.length<=1000
 tos:x.h.to.length<=1000
 old:x.h.old.length<=1000
 olds:∀s∈x.h.old,s.size<=maxLen
 new:x.h.new.length<=1000
 news:∀s∈x.h.new,s.size<=maxLen
section
variable (gl:Nat->AV)
def A7D(p:List ByteArray)(M:Mem)(hp:p.length<=1000000):A0c (WC gl) 208 [.list 1 (A0K p) .no,.list 1 (A0K p) .no] M (λv M'=>v=B true/\M'=M):=by have h:=C1a gl p p .no .no M hp;rwa[Z0A rfl]at h
def C5C(u:A0a)(M:Mem)(hl:u.lims):A0c (WC gl) 209 [.agg [I u.id.act,I u.id.item,I u.id.n,I u.kind,S u.label,.list 4 (A0i u.head) .no,.list 4 (A0i u.words) .no,.list 8 (A0t u.kids) .no],.agg [I u.id.act,I u.id.item,I u.id.n,I u.kind,S u.label,.list 4 (A0i u.head) .no,.list 4 (A0i u.words) .no,.list 8 (A0t u.kids) .no]] M (λv M'=>v=B true/\M'=M):=by have h:=C0n gl u M hl;rwa[u.row_eq]at h
def A8e(u:A0a)(M:Mem):A0c (WC gl) 209 [.agg [I u.id.act,I u.id.item,I u.id.n,I u.kind,S u.label,.list 4 (A0i u.head) .no,.list 4 (A0i u.words) .no,.list 8 (A0t u.kids) .no],.agg [I 0,I 0,I 0,I 0,S ⟨#[]⟩,A0C,A0C,A0C]] M (λv M'=>v=B (A5x u)/\M'=M):=by have h:=C4N gl u M;rwa[u.row_eq]at h
def D1e(c:gl 0=.cptr [fnV 356,fnV 357])(d:gl 2=A1t)(f:gl 8=A1E)(x:A0H)(M:Mem)(hk:x.h.kind=0)(hs:B0P x):A0c (WC gl) 98 [.agg x.row] M (λv M'=>v=B (A2E x)/\M'=M):=by
 have j:x.h.old.length<=3000:=ZBL
 have k:x.h.new.length<=3000:=ZBB
 have m:=hs.olds;have l:=hs.news;have g:=hs.unit;have ht:=hs.tos;have key:=A5f gl c x (i:=0) (f1:=182) (f2:=183) M (by rw[hk];rfl) (by rw[hk];kernel_rfl) x.h.where_ 0 x.h.unit.id.act x.h.unit.id.item x.h.unit.id.n x.h.unit.kind ⟨#[]⟩ x.h.unit.label A0C A0C A0C (.list 4 (A0i x.h.unit.head) .no) (.list 4 (A0i x.h.unit.words) .no) (.list 8 (A0t x.h.unit.kids) .no) ⟨rfl,rfl,rfl,rfl,rfl,rfl⟩ ((decide (x.h.where_=x.h.where_)&&decide (x.h.nth=0)&&decide (x.h.act=0)&&decide (x.h.item=0)&&decide (x.h.day=0))&&(decide (x.h.lab=⟨#[]⟩)&&decide (x.h.ev=⟨#[]⟩))&&((decide (x.h.to=[]))&&(decide (x.h.old=[]))&&(decide (x.h.new=[])))&&true&&decide (x.by_=[])) (inB x.h.where_ 0 3&&B2w x.h.unit) hs.ats (λM=>A0l func182 rfl rfl (D0g gl x M)) (λM=>?_) (λM=>A0l func183 rfl rfl (D1q gl d f x M g))
 .refine key.mono λv M' h=>⟨?_,h.2⟩;rw[h.1];refine congrArg (λb=>AV.val (Value.bool b)) ?_;have h2:A2E x=(A1a x.h.kind&&(A1T x.h.at_&&(decide (x.h.for_=⟨#[]⟩)||A6C x.h.for_)&&A5h x.h.start)&&A8z x.h x.by_&&A7O x.h):=rfl;have h3:A1a x.h.kind=true:=by rw[hk];rfl
  rw[h2,h3];simp only[A8z,A7O,hk];simp[Z2W,Z3a,Z2w]
 .have e:=A7i gl x.h.kind x.h.where_ x.h.where_ x.h.nth 0 x.h.act x.h.item x.h.day x.h.lab ⟨#[]⟩ x.h.for_ x.h.ev x.h.start (.list 2 (A0O x.h.at_) .no) (.list 2 (A0O x.h.to) .no) A0C (.list 1 (A0K x.h.old) .no) A0C (.list 1 (A0K x.h.new) .no) A0C (.list 25 (A1w x.by_) .no) x.h.unit.id.act x.h.unit.id.item x.h.unit.id.n x.h.unit.kind x.h.unit.id.act x.h.unit.id.item x.h.unit.id.n x.h.unit.kind x.h.unit.label x.h.unit.label (.list 4 (A0i x.h.unit.head) .no) (.list 4 (A0i x.h.unit.words) .no) (.list 8 (A0t x.h.unit.kids) .no) (.list 4 (A0i x.h.unit.head) .no) (.list 4 (A0i x.h.unit.words) .no) (.list 8 (A0t x.h.unit.kids) .no) M (decide (x.h.to=[])) (decide (x.h.old=[])) (decide (x.h.new=[])) true (decide (x.by_=[])) (λM=>A4Z gl x.h.at_ M ZCF) (λM=>A6l gl x.h.to M) (λM=>A4C gl x.h.old M) (λM=>A4C gl x.h.new M) (λM=>C5C gl x.h.unit M hs.unit.2.1) (λM=>A8y gl x.by_ M);have a:x.row=itV x.h.kind x.h.where_ x.h.nth x.h.act x.h.item x.h.day x.h.lab x.h.for_ x.h.ev x.h.start (.list 2 (A0O x.h.at_) .no) (.list 2 (A0O x.h.to) .no) (.list 1 (A0K x.h.old) .no) (.list 1 (A0K x.h.new) .no) (.list 25 (A1w x.by_) .no) x.h.unit.id.act x.h.unit.id.item x.h.unit.id.n x.h.unit.kind x.h.unit.label (.list 4 (A0i x.h.unit.head) .no) (.list 4 (A0i x.h.unit.words) .no) (.list 8 (A0t x.h.unit.kids) .no):=by rw[x.row_eq,A1W.row]
  rw[a];exact e
def D1z(c:gl 0=.cptr [fnV 356,fnV 357])(k:gl 2=A1t)(l:gl 8=A1E)(x:A0H)(M:Mem)(hk:x.h.kind=1)(hs:B0P x):A0c (WC gl) 98 [.agg x.row] M (λv M'=>v=B (A2E x)/\M'=M):=by
 have d:x.h.old.length<=3000:=ZBL
 have f:x.h.new.length<=3000:=ZBB
 have j:=hs.olds;have g:=hs.news;have m:=hs.unit;have ht:=hs.tos;have key:=A5f gl c x (i:=1) (f1:=186) (f2:=187) M (by rw[hk];rfl) (by rw[hk];kernel_rfl) 0 0 0 0 0 0 ⟨#[]⟩ ⟨#[]⟩ A0C A0C A0C A0C A0C A0C ⟨rfl,rfl,rfl,rfl,rfl,rfl⟩ ((decide (x.h.where_=0)&&decide (x.h.nth=0)&&decide (x.h.act=0)&&decide (x.h.item=0)&&decide (x.h.day=0))&&(decide (x.h.lab=⟨#[]⟩)&&decide (x.h.ev=⟨#[]⟩))&&((decide (x.h.to=[]))&&(decide (x.h.old=[]))&&(decide (x.h.new=[])))&&(A5x x.h.unit)&&decide (x.by_=[])) true hs.ats (λM=>A0l func186 rfl rfl (D1B gl x M)) (λM=>?_) (λM=>A0l func187 rfl rfl (D1C gl x M))
 .refine key.mono λv M' h=>⟨?_,h.2⟩;rw[h.1];refine congrArg (λb=>AV.val (Value.bool b)) ?_;have h2:A2E x=(A1a x.h.kind&&(A1T x.h.at_&&(decide (x.h.for_=⟨#[]⟩)||A6C x.h.for_)&&A5h x.h.start)&&A8z x.h x.by_&&A7O x.h):=rfl;have h3:A1a x.h.kind=true:=by rw[hk];rfl
  rw[h2,h3];simp only[A8z,A7O,hk];simp[Z2W,Z3a,Z2w]
 .have e:=A7i gl x.h.kind x.h.where_ 0 x.h.nth 0 x.h.act x.h.item x.h.day x.h.lab ⟨#[]⟩ x.h.for_ x.h.ev x.h.start (.list 2 (A0O x.h.at_) .no) (.list 2 (A0O x.h.to) .no) A0C (.list 1 (A0K x.h.old) .no) A0C (.list 1 (A0K x.h.new) .no) A0C (.list 25 (A1w x.by_) .no) x.h.unit.id.act x.h.unit.id.item x.h.unit.id.n x.h.unit.kind 0 0 0 0 x.h.unit.label ⟨#[]⟩ (.list 4 (A0i x.h.unit.head) .no) (.list 4 (A0i x.h.unit.words) .no) (.list 8 (A0t x.h.unit.kids) .no) A0C A0C A0C M (decide (x.h.to=[])) (decide (x.h.old=[])) (decide (x.h.new=[])) (A5x x.h.unit) (decide (x.by_=[])) (λM=>A4Z gl x.h.at_ M ZCF) (λM=>A6l gl x.h.to M) (λM=>A4C gl x.h.old M) (λM=>A4C gl x.h.new M) (λM=>A8e gl x.h.unit M) (λM=>A8y gl x.by_ M);have a:x.row=itV x.h.kind x.h.where_ x.h.nth x.h.act x.h.item x.h.day x.h.lab x.h.for_ x.h.ev x.h.start (.list 2 (A0O x.h.at_) .no) (.list 2 (A0O x.h.to) .no) (.list 1 (A0K x.h.old) .no) (.list 1 (A0K x.h.new) .no) (.list 25 (A1w x.by_) .no) x.h.unit.id.act x.h.unit.id.item x.h.unit.id.n x.h.unit.kind x.h.unit.label (.list 4 (A0i x.h.unit.head) .no) (.list 4 (A0i x.h.unit.words) .no) (.list 8 (A0t x.h.unit.kids) .no):=by rw[x.row_eq,A1W.row]
  rw[a];exact e
def D1s(g:gl 0=.cptr [fnV 356,fnV 357])(k:gl 2=A1t)(l:gl 8=A1E)(x:A0H)(M:Mem)(hk:x.h.kind=2)(hs:B0P x):A0c (WC gl) 98 [.agg x.row] M (λv M'=>v=B (A2E x)/\M'=M):=by
 have a:x.h.old.length<=3000:=ZBL
 have c:x.h.new.length<=3000:=ZBB
 have j:=hs.olds;have f:=hs.news;have m:=hs.unit;have ht:=hs.tos;have key:=A5f gl g x (i:=2) (f1:=188) (f2:=189) M (by rw[hk];rfl) (by rw[hk];kernel_rfl) 0 x.h.nth 0 0 0 0 ⟨#[]⟩ ⟨#[]⟩ A0C (.list 1 (A0K x.h.old) .no) (.list 1 (A0K x.h.new) .no) A0C A0C A0C ⟨rfl,rfl,rfl,rfl,rfl,rfl⟩ ((decide (x.h.where_=0)&&decide (x.h.nth=x.h.nth)&&decide (x.h.act=0)&&decide (x.h.item=0)&&decide (x.h.day=0))&&(decide (x.h.lab=⟨#[]⟩)&&decide (x.h.ev=⟨#[]⟩))&&((decide (x.h.to=[]))&&true&&true)&&(A5x x.h.unit)&&decide (x.by_=[])) (A4b x.h.old 1&&A4b x.h.new 0&&inB x.h.nth 0 256) hs.ats (λM=>A0l func188 rfl rfl (D0q gl x M)) (λM=>?_) (λM=>A0l func189 rfl rfl (D0U gl x M a j c f))
 .refine key.mono λv M' h=>⟨?_,h.2⟩;rw[h.1];refine congrArg (λb=>AV.val (Value.bool b)) ?_;have h2:A2E x=(A1a x.h.kind&&(A1T x.h.at_&&(decide (x.h.for_=⟨#[]⟩)||A6C x.h.for_)&&A5h x.h.start)&&A8z x.h x.by_&&A7O x.h):=rfl;have h3:A1a x.h.kind=true:=by rw[hk];rfl
  rw[h2,h3];simp only[A8z,A7O,hk];simp[Z2W,Z3a,Z2w]
 .have e:=A7i gl x.h.kind x.h.where_ 0 x.h.nth x.h.nth x.h.act x.h.item x.h.day x.h.lab ⟨#[]⟩ x.h.for_ x.h.ev x.h.start (.list 2 (A0O x.h.at_) .no) (.list 2 (A0O x.h.to) .no) A0C (.list 1 (A0K x.h.old) .no) (.list 1 (A0K x.h.old) .no) (.list 1 (A0K x.h.new) .no) (.list 1 (A0K x.h.new) .no) (.list 25 (A1w x.by_) .no) x.h.unit.id.act x.h.unit.id.item x.h.unit.id.n x.h.unit.kind 0 0 0 0 x.h.unit.label ⟨#[]⟩ (.list 4 (A0i x.h.unit.head) .no) (.list 4 (A0i x.h.unit.words) .no) (.list 8 (A0t x.h.unit.kids) .no) A0C A0C A0C M (decide (x.h.to=[])) true true (A5x x.h.unit) (decide (x.by_=[])) (λM=>A4Z gl x.h.at_ M ZCF) (λM=>A6l gl x.h.to M) (λM=>A7D gl x.h.old M ZBL) (λM=>A7D gl x.h.new M ZBB) (λM=>A8e gl x.h.unit M) (λM=>A8y gl x.by_ M);have d:x.row=itV x.h.kind x.h.where_ x.h.nth x.h.act x.h.item x.h.day x.h.lab x.h.for_ x.h.ev x.h.start (.list 2 (A0O x.h.at_) .no) (.list 2 (A0O x.h.to) .no) (.list 1 (A0K x.h.old) .no) (.list 1 (A0K x.h.new) .no) (.list 25 (A1w x.by_) .no) x.h.unit.id.act x.h.unit.id.item x.h.unit.id.n x.h.unit.kind x.h.unit.label (.list 4 (A0i x.h.unit.head) .no) (.list 4 (A0i x.h.unit.words) .no) (.list 8 (A0t x.h.unit.kids) .no):=by rw[x.row_eq,A1W.row]
  rw[d];exact e
set_option maxHeartbeats 2000000 in
def D0n(g:gl 0=.cptr [fnV 356,fnV 357])(k:gl 2=A1t)(l:gl 8=A1E)(x:A0H)(M:Mem)(hk:x.h.kind=3)(hs:B0P x):A0c (WC gl) 98 [.agg x.row] M (λv M'=>v=B (A2E x)/\M'=M):=by
 have a:x.h.old.length<=3000:=ZBL
 have c:x.h.new.length<=3000:=ZBB
 have j:=hs.olds;have f:=hs.news;have m:=hs.unit;have ht:=hs.tos;have key:=A5f gl g x (i:=3) (f1:=192) (f2:=193) M (by rw[hk];rfl) (by rw[hk];kernel_rfl) 0 x.h.nth 0 0 0 0 ⟨#[]⟩ ⟨#[]⟩ A0C (.list 1 (A0K x.h.old) .no) (.list 1 (A0K x.h.new) .no) A0C A0C A0C ⟨rfl,rfl,rfl,rfl,rfl,rfl⟩ ((decide (x.h.where_=0)&&decide (x.h.nth=x.h.nth)&&decide (x.h.act=0)&&decide (x.h.item=0)&&decide (x.h.day=0))&&(decide (x.h.lab=⟨#[]⟩)&&decide (x.h.ev=⟨#[]⟩))&&((decide (x.h.to=[]))&&true&&true)&&(A5x x.h.unit)&&decide (x.by_=[])) (A4b x.h.old 0&&A4b x.h.new 1&&inB x.h.nth 0 256&&(decide (0<x.h.old.length)||decide (x.h.nth=0))) hs.ats (λM=>A0l func192 rfl rfl (C9X gl x M)) (λM=>?_) (λM=>A0l func193 rfl rfl (D0X gl x M a j c f))
 .refine key.mono λv M' h=>⟨?_,h.2⟩;rw[h.1];refine congrArg (λb=>AV.val (Value.bool b)) ?_;have h2:A2E x=(A1a x.h.kind&&(A1T x.h.at_&&(decide (x.h.for_=⟨#[]⟩)||A6C x.h.for_)&&A5h x.h.start)&&A8z x.h x.by_&&A7O x.h):=rfl;have h3:A1a x.h.kind=true:=by rw[hk];rfl
  rw[h2,h3];simp only[A8z,A7O,hk];simp[Z2W,Z3a,Z2w]
 .have e:=A7i gl x.h.kind x.h.where_ 0 x.h.nth x.h.nth x.h.act x.h.item x.h.day x.h.lab ⟨#[]⟩ x.h.for_ x.h.ev x.h.start (.list 2 (A0O x.h.at_) .no) (.list 2 (A0O x.h.to) .no) A0C (.list 1 (A0K x.h.old) .no) (.list 1 (A0K x.h.old) .no) (.list 1 (A0K x.h.new) .no) (.list 1 (A0K x.h.new) .no) (.list 25 (A1w x.by_) .no) x.h.unit.id.act x.h.unit.id.item x.h.unit.id.n x.h.unit.kind 0 0 0 0 x.h.unit.label ⟨#[]⟩ (.list 4 (A0i x.h.unit.head) .no) (.list 4 (A0i x.h.unit.words) .no) (.list 8 (A0t x.h.unit.kids) .no) A0C A0C A0C M (decide (x.h.to=[])) true true (A5x x.h.unit) (decide (x.by_=[])) (λM=>A4Z gl x.h.at_ M ZCF) (λM=>A6l gl x.h.to M) (λM=>A7D gl x.h.old M ZBL) (λM=>A7D gl x.h.new M ZBB) (λM=>A8e gl x.h.unit M) (λM=>A8y gl x.by_ M);have d:x.row=itV x.h.kind x.h.where_ x.h.nth x.h.act x.h.item x.h.day x.h.lab x.h.for_ x.h.ev x.h.start (.list 2 (A0O x.h.at_) .no) (.list 2 (A0O x.h.to) .no) (.list 1 (A0K x.h.old) .no) (.list 1 (A0K x.h.new) .no) (.list 25 (A1w x.by_) .no) x.h.unit.id.act x.h.unit.id.item x.h.unit.id.n x.h.unit.kind x.h.unit.label (.list 4 (A0i x.h.unit.head) .no) (.list 4 (A0i x.h.unit.words) .no) (.list 8 (A0t x.h.unit.kids) .no):=by rw[x.row_eq,A1W.row]
  rw[d];exact e
def D1E(f:gl 0=.cptr [fnV 356,fnV 357])(k:gl 2=A1t)(l:gl 8=A1E)(x:A0H)(M:Mem)(hk:x.h.kind=4)(hs:B0P x):A0c (WC gl) 98 [.agg x.row] M (λv M'=>v=B (A2E x)/\M'=M):=by
 have g:x.h.old.length<=3000:=ZBL
 have a:x.h.new.length<=3000:=ZBB
 have j:=hs.olds;have d:=hs.news;have m:=hs.unit;have ht:=hs.tos;have key:=A5f gl f x (i:=4) (f1:=194) (f2:=195) M (by rw[hk];rfl) (by rw[hk];kernel_rfl) 0 0 0 0 0 0 ⟨#[]⟩ ⟨#[]⟩ A0C A0C (.list 1 (A0K x.h.new) .no) A0C A0C A0C ⟨rfl,rfl,rfl,rfl,rfl,rfl⟩ ((decide (x.h.where_=0)&&decide (x.h.nth=0)&&decide (x.h.act=0)&&decide (x.h.item=0)&&decide (x.h.day=0))&&(decide (x.h.lab=⟨#[]⟩)&&decide (x.h.ev=⟨#[]⟩))&&((decide (x.h.to=[]))&&(decide (x.h.old=[]))&&true)&&(A5x x.h.unit)&&decide (x.by_=[])) (A4b x.h.new 0) hs.ats (λM=>A0l func194 rfl rfl (D1G gl x M)) (λM=>?_) (λM=>A0l func195 rfl rfl (D0K gl x M a d))
 .refine key.mono λv M' h=>⟨?_,h.2⟩;rw[h.1];refine congrArg (λb=>AV.val (Value.bool b)) ?_;have h2:A2E x=(A1a x.h.kind&&(A1T x.h.at_&&(decide (x.h.for_=⟨#[]⟩)||A6C x.h.for_)&&A5h x.h.start)&&A8z x.h x.by_&&A7O x.h):=rfl;have h3:A1a x.h.kind=true:=by rw[hk];rfl
  rw[h2,h3];simp only[A8z,A7O,hk];simp[Z2W,Z3a,Z2w]
 .have e:=A7i gl x.h.kind x.h.where_ 0 x.h.nth 0 x.h.act x.h.item x.h.day x.h.lab ⟨#[]⟩ x.h.for_ x.h.ev x.h.start (.list 2 (A0O x.h.at_) .no) (.list 2 (A0O x.h.to) .no) A0C (.list 1 (A0K x.h.old) .no) A0C (.list 1 (A0K x.h.new) .no) (.list 1 (A0K x.h.new) .no) (.list 25 (A1w x.by_) .no) x.h.unit.id.act x.h.unit.id.item x.h.unit.id.n x.h.unit.kind 0 0 0 0 x.h.unit.label ⟨#[]⟩ (.list 4 (A0i x.h.unit.head) .no) (.list 4 (A0i x.h.unit.words) .no) (.list 8 (A0t x.h.unit.kids) .no) A0C A0C A0C M (decide (x.h.to=[])) (decide (x.h.old=[])) true (A5x x.h.unit) (decide (x.by_=[])) (λM=>A4Z gl x.h.at_ M ZCF) (λM=>A6l gl x.h.to M) (λM=>A4C gl x.h.old M) (λM=>A7D gl x.h.new M ZBB) (λM=>A8e gl x.h.unit M) (λM=>A8y gl x.by_ M);have c:x.row=itV x.h.kind x.h.where_ x.h.nth x.h.act x.h.item x.h.day x.h.lab x.h.for_ x.h.ev x.h.start (.list 2 (A0O x.h.at_) .no) (.list 2 (A0O x.h.to) .no) (.list 1 (A0K x.h.old) .no) (.list 1 (A0K x.h.new) .no) (.list 25 (A1w x.by_) .no) x.h.unit.id.act x.h.unit.id.item x.h.unit.id.n x.h.unit.kind x.h.unit.label (.list 4 (A0i x.h.unit.head) .no) (.list 4 (A0i x.h.unit.words) .no) (.list 8 (A0t x.h.unit.kids) .no):=by rw[x.row_eq,A1W.row]
  rw[c];exact e
def C9U(c:gl 0=.cptr [fnV 356,fnV 357])(k:gl 2=A1t)(l:gl 8=A1E)(x:A0H)(M:Mem)(hk:x.h.kind=5)(hs:B0P x):A0c (WC gl) 98 [.agg x.row] M (λv M'=>v=B (A2E x)/\M'=M):=by
 have d:x.h.old.length<=3000:=ZBL
 have f:x.h.new.length<=3000:=ZBB
 have j:=hs.olds;have g:=hs.news;have m:=hs.unit;have ht:=hs.tos;have key:=A5f gl c x (i:=5) (f1:=196) (f2:=197) M (by rw[hk];rfl) (by rw[hk];kernel_rfl) 0 0 0 0 0 0 x.h.lab ⟨#[]⟩ A0C A0C A0C A0C A0C A0C ⟨rfl,rfl,rfl,rfl,rfl,rfl⟩ ((decide (x.h.where_=0)&&decide (x.h.nth=0)&&decide (x.h.act=0)&&decide (x.h.item=0)&&decide (x.h.day=0))&&(decide (x.h.lab=x.h.lab)&&decide (x.h.ev=⟨#[]⟩))&&((decide (x.h.to=[]))&&(decide (x.h.old=[]))&&(decide (x.h.new=[])))&&(A5x x.h.unit)&&decide (x.by_=[])) (A1z x.h.lab) hs.ats (λM=>A0l func196 rfl rfl (C9V gl x M)) (λM=>?_) (λM=>A0l func197 rfl rfl (D1v gl x M))
 .refine key.mono λv M' h=>⟨?_,h.2⟩;rw[h.1];refine congrArg (λb=>AV.val (Value.bool b)) ?_;have h2:A2E x=(A1a x.h.kind&&(A1T x.h.at_&&(decide (x.h.for_=⟨#[]⟩)||A6C x.h.for_)&&A5h x.h.start)&&A8z x.h x.by_&&A7O x.h):=rfl;have h3:A1a x.h.kind=true:=by rw[hk];rfl
  rw[h2,h3];simp only[A8z,A7O,hk];simp[Z2W,Z3a,Z2w]
 .have e:=A7i gl x.h.kind x.h.where_ 0 x.h.nth 0 x.h.act x.h.item x.h.day x.h.lab x.h.lab x.h.for_ x.h.ev x.h.start (.list 2 (A0O x.h.at_) .no) (.list 2 (A0O x.h.to) .no) A0C (.list 1 (A0K x.h.old) .no) A0C (.list 1 (A0K x.h.new) .no) A0C (.list 25 (A1w x.by_) .no) x.h.unit.id.act x.h.unit.id.item x.h.unit.id.n x.h.unit.kind 0 0 0 0 x.h.unit.label ⟨#[]⟩ (.list 4 (A0i x.h.unit.head) .no) (.list 4 (A0i x.h.unit.words) .no) (.list 8 (A0t x.h.unit.kids) .no) A0C A0C A0C M (decide (x.h.to=[])) (decide (x.h.old=[])) (decide (x.h.new=[])) (A5x x.h.unit) (decide (x.by_=[])) (λM=>A4Z gl x.h.at_ M ZCF) (λM=>A6l gl x.h.to M) (λM=>A4C gl x.h.old M) (λM=>A4C gl x.h.new M) (λM=>A8e gl x.h.unit M) (λM=>A8y gl x.by_ M);have a:x.row=itV x.h.kind x.h.where_ x.h.nth x.h.act x.h.item x.h.day x.h.lab x.h.for_ x.h.ev x.h.start (.list 2 (A0O x.h.at_) .no) (.list 2 (A0O x.h.to) .no) (.list 1 (A0K x.h.old) .no) (.list 1 (A0K x.h.new) .no) (.list 25 (A1w x.by_) .no) x.h.unit.id.act x.h.unit.id.item x.h.unit.id.n x.h.unit.kind x.h.unit.label (.list 4 (A0i x.h.unit.head) .no) (.list 4 (A0i x.h.unit.words) .no) (.list 8 (A0t x.h.unit.kids) .no):=by rw[x.row_eq,A1W.row]
  rw[a];exact e
def D1y(c:gl 0=.cptr [fnV 356,fnV 357])(k:gl 2=A1t)(l:gl 8=A1E)(x:A0H)(M:Mem)(hk:x.h.kind=6)(hs:B0P x):A0c (WC gl) 98 [.agg x.row] M (λv M'=>v=B (A2E x)/\M'=M):=by
 have d:x.h.old.length<=3000:=ZBL
 have f:x.h.new.length<=3000:=ZBB
 have j:=hs.olds;have g:=hs.news;have m:=hs.unit;have ht:=hs.tos;have key:=A5f gl c x (i:=6) (f1:=198) (f2:=199) M (by rw[hk];rfl) (by rw[hk];kernel_rfl) x.h.where_ 0 0 0 0 0 ⟨#[]⟩ ⟨#[]⟩ (.list 2 (A0O x.h.to) .no) A0C A0C A0C A0C A0C ⟨rfl,rfl,rfl,rfl,rfl,rfl⟩ ((decide (x.h.where_=x.h.where_)&&decide (x.h.nth=0)&&decide (x.h.act=0)&&decide (x.h.item=0)&&decide (x.h.day=0))&&(decide (x.h.lab=⟨#[]⟩)&&decide (x.h.ev=⟨#[]⟩))&&(true&&(decide (x.h.old=[]))&&(decide (x.h.new=[])))&&(A5x x.h.unit)&&decide (x.by_=[])) (inB x.h.where_ 0 3&&A1T x.h.to) hs.ats (λM=>A0l func198 rfl rfl (D1t gl x M)) (λM=>?_) (λM=>A0l func199 rfl rfl (D0u gl x M ht))
 .refine key.mono λv M' h=>⟨?_,h.2⟩;rw[h.1];refine congrArg (λb=>AV.val (Value.bool b)) ?_;have h2:A2E x=(A1a x.h.kind&&(A1T x.h.at_&&(decide (x.h.for_=⟨#[]⟩)||A6C x.h.for_)&&A5h x.h.start)&&A8z x.h x.by_&&A7O x.h):=rfl;have h3:A1a x.h.kind=true:=by rw[hk];rfl
  rw[h2,h3];simp only[A8z,A7O,hk];simp[Z2W,Z3a,Z2w]
 .have e:=A7i gl x.h.kind x.h.where_ x.h.where_ x.h.nth 0 x.h.act x.h.item x.h.day x.h.lab ⟨#[]⟩ x.h.for_ x.h.ev x.h.start (.list 2 (A0O x.h.at_) .no) (.list 2 (A0O x.h.to) .no) (.list 2 (A0O x.h.to) .no) (.list 1 (A0K x.h.old) .no) A0C (.list 1 (A0K x.h.new) .no) A0C (.list 25 (A1w x.by_) .no) x.h.unit.id.act x.h.unit.id.item x.h.unit.id.n x.h.unit.kind 0 0 0 0 x.h.unit.label ⟨#[]⟩ (.list 4 (A0i x.h.unit.head) .no) (.list 4 (A0i x.h.unit.words) .no) (.list 8 (A0t x.h.unit.kids) .no) A0C A0C A0C M true (decide (x.h.old=[])) (decide (x.h.new=[])) (A5x x.h.unit) (decide (x.by_=[])) (λM=>A4Z gl x.h.at_ M ZCF) (λM=>A4Z gl x.h.to M (by have:=hs.tos;omega)) (λM=>A4C gl x.h.old M) (λM=>A4C gl x.h.new M) (λM=>A8e gl x.h.unit M) (λM=>A8y gl x.by_ M);have a:x.row=itV x.h.kind x.h.where_ x.h.nth x.h.act x.h.item x.h.day x.h.lab x.h.for_ x.h.ev x.h.start (.list 2 (A0O x.h.at_) .no) (.list 2 (A0O x.h.to) .no) (.list 1 (A0K x.h.old) .no) (.list 1 (A0K x.h.new) .no) (.list 25 (A1w x.by_) .no) x.h.unit.id.act x.h.unit.id.item x.h.unit.id.n x.h.unit.kind x.h.unit.label (.list 4 (A0i x.h.unit.head) .no) (.list 4 (A0i x.h.unit.words) .no) (.list 8 (A0t x.h.unit.kids) .no):=by rw[x.row_eq,A1W.row]
  rw[a];exact e
def C6v(c:gl 0=.cptr [fnV 356,fnV 357])(b:gl 2=A1t)(a:gl 8=A1E)(x:A0H)(M:Mem)(hk:A1a x.h.kind=true)(hs:B0P x):A0c (WC gl) 98 [.agg x.row] M (λv M'=>v=B (A2E x)/\M'=M):=by
 simp only[A1a,Z0h,Z0n]at hk;have:x.h.kind=0\/x.h.kind=1\/x.h.kind=2\/x.h.kind=3\/x.h.kind=4\/x.h.kind=5\/x.h.kind=6:=Q0;rcases this with h|h|h|h|h|h|h
 .exact D1e gl c b a x M h hs
 .exact D1z gl c b a x M h hs
 .exact D1s gl c b a x M h hs
 .exact D0n gl c b a x M h hs
 .exact D1E gl c b a x M h hs
 .exact C9U gl c b a x M h hs
 .exact D1y gl c b a x M h hs
end
end Go.Abs
