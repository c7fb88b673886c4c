/- The texts CbE, CbF, CbG0, CbG, CbA0, CbA. -/
import Derived.Test.YtmpdkagfplajjaaGreatDoorHG34
import Derived.Test.YtmpdkagfplajjaaGreatDoorHG21
import Derived.Test.YtmpdkagfplajjaaGreatDoorHG31
set_option linter.all false
set_option maxRecDepth 100000
namespace Go.Abs
open Go.Proofs TryTypes Tryz
@[simp] def E8z{k j}{a b}:A1B prog .neq 159 (.agg [I k,S a]) (.agg [I j,S b])=some (B (!(decide (k=j)&&decide (a=b)))):=by
 have h1:prog.eqGuardType prog.depth 159=false:=by kernel_rfl
 have h2:prog.stoodInHeld 159=false:=by kernel_rfl
 simp[A1B,A3q,A4T,A4p,A3Q,h1,A9V,h2,A3p];by_cases c1:k=j
 .by_cases c2:a=b
  .simp[c1,c2]
  .have:¬a.data=b.data:=λe=>c2 (by cases a;cases b;simpa using e);(have e:(a.data==b.data)=false:=by simpa using this);rw[e];simp[c1,c2]
 .have e:(k==j)=false:=by simpa using c1
  rw[e];simp[c1]
def pk(p:List A0w):List (Int×ByteArray):=p.map λs=>(s.k,s.lab)
def D5w(p:List A0w):(pk p).length=p.length:=by simp[pk]
def D8u{p q}{i}(hp:i<p.length)(hq:i<q.length)(h:pk p=pk q<->pk (p.drop i)=pk (q.drop i)):pk p=pk q<->(p[i].k=q[i].k/\p[i].lab=q[i].lab)/\pk (p.drop (i+1))=pk (q.drop (i+1)):=by
 rw[h,Z0j hp,Z0j hq]
 simp only[pk,Z0z,Z1a,Z0h]
section
variable (gl:Nat->AV)
def C2d(p q:List A0w)(o1 o2:Own)(M:Mem)(hp:p.length<=1000000):A0e (WC gl) 178 [.list 2 (A0T p) o1,.list 2 (A0T q) o2] M (λv M'=>v=B (decide (pk p=pk q))/\M'=M):=by
 refine A0n hB func178 ?_;by_cases hl:p.length=q.length;case neg=>
  have b:¬(p.length:Int)=q.length:=by omega
  have hr:¬pk p=pk q:=λe=>hl (by rw[<-D5w p,e,D5w]);simp -dsimp -implicitDefEqProofs[b,hr]
 have b:(p.length:Int)=q.length:=by omega
 simp -dsimp -implicitDefEqProofs[b];refine A0B hB p.length 13 (λT M1=>∃i:Nat,M1=M/\i<=p.length/\T 0=.list 2 (A0T p) o1/\T 1=.list 2 (A0T q) o2/\T 12=I q.length/\T 13=I i/\(pk p=pk q<->pk (p.drop i)=pk (q.drop i))) ?_ ?_
 .exact⟨0,rfl,by omega,by simp,by simp,by simp[b],by simp,by simp⟩
 rintro T M1 ⟨i,rfl,h1,t0,t1,d,f,h2⟩;by_cases hi:i<p.length
 .have a:(i:Int)<q.length:=by omega
  have g:(i:Int)<p.length:=by omega
  have hq:i<q.length:=by omega
  have w1:=A1H (i:=i) (by omega);have h3:=D8u hi hq h2;simp -dsimp -implicitDefEqProofs[t0,t1,d,f,a];refine A0Z hB (A0u gl) (λ_=>0) (λ_=>0) (by rfl) (by kernel_rfl) ?_;by_cases c:p[i].k=q[i].k/\p[i].lab=q[i].lab
  .simp -dsimp -implicitDefEqProofs[t0,t1,d,f,hi,a,hq,g,c.1,c.2,w1];exact⟨⟨i+1,by clear w1;omega,rfl,by rw[h3];exact⟨λh=>h.2,λh=>⟨c,h⟩⟩⟩,by clear w1;omega⟩
  .have hr:¬pk p=pk q:=λe=>c (h3.1 e).1;have hd:(decide (p[i].k=q[i].k)&&decide (p[i].lab=q[i].lab))=false:=by
    rw[Z3f,Z1N,Z1N];by_cases c1:p[i].k=q[i].k
    .exact .inr λe=>c ⟨c1,e⟩
    .exact .inl c1
   simp -dsimp -implicitDefEqProofs[t0,t1,d,f,hi,a,hq,g,hd,hr]
 .have a:¬(i:Int)<q.length:=by omega
  rw[Z0v (by omega),Z0v (by omega)]at h2;have hr:pk p=pk q:=h2.2 rfl;simp -dsimp -implicitDefEqProofs[t0,t1,d,f,a,hr]
def D4R(a b:A1e)(M:Mem)(ha:a.path.length<=1000000):A0e (WC gl) 177 [.agg a.row,.agg b.row] M (λv M'=>v=B (B1w a b)/\M'=M):=by
 refine A0n hB func177 ?_;by_cases c1:a.k=b.k;case neg=>simp -dsimp -implicitDefEqProofs[A1e.row,c1,B1w]
 by_cases c2:a.to=b.to;case neg=>simp -dsimp -implicitDefEqProofs[A1e.row,c1,c2,B1w]
 simp -dsimp -implicitDefEqProofs[A1e.row,c1,c2];refine A0h func178 (C2d gl a.path b.path .no .no M ha) ?_;simp -dsimp -implicitDefEqProofs[B1w,c1,c2,pk];exact decide_eq_decide.2 Iff.rfl
def D5q{a b:List A1e}{f:A1e×A1e->Bool}{i:Nat}(ha:i<a.length)(hb:i<b.length)(h:(a.zip b).all f=((a.drop i).zip (b.drop i)).all f):(a.zip b).all f=(f (a[i],b[i])&&((a.drop (i+1)).zip (b.drop (i+1))).all f):=by rw[h,Z0j ha,Z0j hb];rfl
def D2F(a b:List A1e)(o1 o2:Own)(M:Mem)(hl:a.length<=1000000000)(ha:∀c∈a,c.path.length<=1000000):A0e (WC gl) 179 [.list 5 (A3U a) o1,.list 5 (A3U b) o2,.func (.func 177) [] []] M (λv M'=>v=B (A8s a b)/\M'=M):=by
 refine A3r (λ_=>trivial) ?_;refine A0n hB func179 ?_;by_cases hlen:a.length=b.length;case neg=>
  have d:¬(a.length:Int)=b.length:=by omega
  simp -dsimp -implicitDefEqProofs[d,A8s,hlen,A0c.refl]
 have d:(a.length:Int)=b.length:=by omega
 have hm:A8s a b=(a.zip b).all (λx=>B1w x.1 x.2):=by simp[A8s,hlen]
 rw[hm];simp -dsimp -implicitDefEqProofs[d];refine A0B hB a.length 17 (λT M1=>∃i:Nat,Grow M M1/\i<=a.length/\T 0=.list 5 (A3U a) o1/\T 1=.list 5 (A3U b) o2/\T 2=.func (.func 177) [] []/\T 15=.list 5 (A3U a) o1/\T 16=I b.length/\T 17=I i/\(a.zip b).all (λx=>B1w x.1 x.2)=((a.drop i).zip (b.drop i)).all (λx=>B1w x.1 x.2)) ?_ ?_
 .exact⟨0,Grow.refl _,by omega,by simp,by simp,by simp,by simp,by simp[d],by simp,by simp⟩
 rintro T M1 ⟨i,hg,h1,t0,t1,t2,j,f,g,h2⟩;by_cases hi:i<a.length
 .have h:(i:Int)<b.length:=by omega
  have k:(i:Int)<a.length:=by omega
  have hq:i<b.length:=by omega
  have w1:IntKind.i64.wrap ((i:Int)+1)=(i+1:Nat):=by rw[A0L (by omega) (by omega)];omega
  have h3:=D5q hi hq h2;have hX:(M1++[A0m.cells 110 a[i].row,A0m.cells 110 b[i].row])[M1.length]?=some (A0m.cells 110 a[i].row):=by simp
  have hY:(M1++[A0m.cells 110 a[i].row,A0m.cells 110 b[i].row])[M1.length+1]?=some (A0m.cells 110 b[i].row):=by simp[Z0W]
  have e:Grow M (M1++[A0m.cells 110 a[i].row,A0m.cells 110 b[i].row]):=hg.trans (A0c.app none _ _);have hs:=D4R gl a[i] b[i] (M1++[A0m.cells 110 a[i].row,A0m.cells 110 b[i].row]) (ha _ (Z0o hi));simp only[A1e.row]at hX hY e hs;simp -dsimp -implicitDefEqProofs[t0,t1,t2,j,f,g,hi,h,k,hq,A1e.row,A0k,A0i,A0d,A0b hX,A0b hY];refine A0h func177 hs ?_;cases c:B1w a[i] b[i]with
  |false=>rw[c,Z0O]at h3;simp -dsimp -implicitDefEqProofs[h3,e]
  |true=>rw[c,Z0L]at h3;simp -dsimp -implicitDefEqProofs[t0,t1,t2,j,f,g,w1];exact⟨⟨e,i+1,by clear w1;omega,rfl,h3⟩,by clear w1;omega⟩
 .have h:¬(i:Int)<b.length:=by omega
  rw[Z0v (by omega)]at h2;have hr:(a.zip b).all (λx=>B1w x.1 x.2)=true:=by rw[h2];rfl
  simp -dsimp -implicitDefEqProofs[t0,t1,t2,j,f,g,h,hr,hg]
end
@[simp] def D9t{k}{rows}{o}:A0x prog 110 [(0,I k),(1,.list 2 rows o)]=some (.agg [I k,.list 2 rows o,S ⟨#[]⟩,I 0,I 0]):=by
 simp[A0x,A1b,A1o,A0d,AV.cells,AV.storable]
section
variable (gl:Nat->AV)
def D3g(F:IdD->Option A0a)(s:List A1v)(l:List A0J)(L:List (IdD×A0a))(hF:A1N L=F)(a b c:Nat)(x:A0a)(M:Mem)(hP:B3w l L a b c M)(hl:l.length<=1000)(ba:∀s∈l,s.good)(hs:s.length<=1000)(ht:∀m∈s,m.to.length<=40)(aq:∀j,j<l.length->B1u l j)
 (hx:x.good)(bc:x.words.length<=300):
 A0e (WC gl) 125 [B2e l a b c,.agg x.row,.list 5 (A2e s) .no] M (λv M'=>v=.tuple [.list 1 (A0W (A6h F l s x).1) .no,B (A6h F l s x).2]/\M'=M):=by
 refine A0e.dataX ?_
 obtain⟨xs,ad⟩:=ex (A0z x.words)
 have bi:xs.length<=300:=by rw[ad];simpa[A0z]using bc
 have a7:∀t∈xs,t.size<=maxLen:=by rw[ad];intro t h;obtain⟨w,hw,rfl⟩:=Z0C.1 h;exact(((A0a.good_iff _).1 hx).2.2.2.2.2.2.1 w hw).1
 rw[x.row_eq]
 refine A0n (hQ [32,54,64,68,73]) func125 ?_
 simp -dsimp
 refine C8P (.exit 0) (λT M1=>T 2=.list 5 (A2e s) .no/\T 3=.cptr [.list 5 (A1L l) .no,.mapr a,.mapr b,.mapr c]/\T 4=.cptr [I x.id.act,I x.id.item,I x.id.n,I x.kind,S x.label,.list 4 (A0g x.head) .no,.list 4 (A0g x.words) .no,.list 8 (A0p x.kids) .no]/\Grow M M1/\Arr 9 1 A4M M.length M1 (T 8) xs) ?_ ?_
 .refine A0B (hQ [32,54,64,68,73]) x.words.length 24 (λT M1=>∃i:Nat,i<=x.words.length/\T 2=.list 5 (A2e s) .no/\T 3=.cptr [.list 5 (A1L l) .no,.mapr a,.mapr b,.mapr c]/\T 4=.cptr [I x.id.act,I x.id.item,I x.id.n,I x.kind,S x.label,.list 4 (A0g x.head) .no,.list 4 (A0g x.words) .no,.list 8 (A0p x.kids) .no]/\T 22=.list 4 (A0g x.words) .no/\T 23=I x.words.length/\T 24=I i/\Grow M M1/\Arr 9 1 A4M M.length M1 (T 8) (A0z (x.words.take i))) ?_ ?_
  .refine⟨0,by omega,by simp,by simp,by simp,by simp,by simp,by simp,Grow.refl _,?_⟩;simpa[A0z]using Arr.nil
  rintro T M1 ⟨i,i1,t2,t3,t4,a9,ae,aa,hg,hv⟩;generalize av:T 8=ov at*;by_cases hi:i<x.words.length
  ·(have a0:(i:Int)<x.words.length:=by omega);have w1:=A1H (i:=i) (by omega)
   obtain⟨M2,al⟩:=ex (M1++[A0m.cells 152 [S x.words[i].text,I x.words[i].act,I x.words[i].item,I x.words[i].at_]]);(have ah:Grow M1 M2:=by rw[al];exact A0c.app none _ _);(have be:M2[M1.length]?=some (A0m.cells 152 [S x.words[i].text,I x.words[i].act,I x.words[i].item,I x.words[i].at_]):=by rw[al];simp);(have ai:A0z (x.words.take (i+1))=A0z (x.words.take i)++[x.words[i].text]:=by rw[A0z,A0z,Z1r,Z0l hi,Z0U];rfl);have af:=hv.keep ah;simp -dsimp[t2,t3,t4,a9,ae,aa,hi,a0,A0Q.row,A0k,A0i,A0d];rw[<-al];simp -dsimp[t2,t3,t4,a9,ae,aa,av,A0b be,A0l,A0M];refine A3B (C:=WC gl) (enc:=A4M) (e:=9) (sz:=1) (news:=[x.words[i].text]) A7g A9M B6h (λ_=>rfl) af.own (by simp[A0D]) (by simp[A0z];omega) rfl ?_;intro v' M3 q1 q2 q3 _;simp -dsimp[t2,t3,t4,a9,ae,aa,w1];refine⟨⟨i+1,by clear w1;omega,rfl,af.grow (hg.trans ah) q2,?_⟩,by clear w1;omega⟩;rw[ai];exact⟨q1,af.later (hg.trans ah).1 q3⟩
  ·(have a0:¬(i:Int)<x.words.length:=by omega);rw[Z0g (by omega),<-ad]at hv
   simp -dsimp[t2,t3,t4,a9,ae,aa,a0,av,hg];exact hv
 rintro T M1 ⟨t2,t3,t4,hg,hv⟩
 refine⟨M.length,T.put (some 8) (.list 1 (A0W xs) .no),A8a (B2W T) (Still.rows (λ_=>rfl) (λ_ _ _=>trivial) hv.own hv.lat .nil),?_⟩
 have a6:=B2n hg
 generalize A4w M1 M.length=M2 at*
 clear hv hg M1
 obtain⟨cs,am⟩:=ex (A2d xs 0)
 have br:cs.length<=xs.length:=by rw[am];exact A7C xs _ _
 have ar:=λM=>A0e.still (enc:=A1e.row) (sz:=5) (λ_=>rfl) B4s (C0E gl xs .no (by omega) a7 M)
 rw[<-am]at ar
 simp -dsimp[Env.put_some,t2,t3,t4]
 refine A0h func98 (ar M2) ?_
 obtain⟨nm,ab⟩:∃nm:Nat->List (List A0w),nm=λn:Nat=>A1K F l s x.id n:=⟨_,rfl⟩
 have a1:∀i,(nm i).length<=40:=λi=>by rw[ab];exact A9l ht
 have bf:∀i,∀p∈nm i,A7b p:=λi p hp=>by rw[ab]at hp;exact C0R hl ba p hp
 simp -dsimp[Env.put_some,t2,t3,t4]
 refine C8P (.exit 2) (λT M1=>T 8=.list 1 (A0W xs) .no/\Tri M M1 (T 11) (T 12) (T 13) (A7I cs nm cs.length) (A2W cs nm cs.length) (A9t nm cs.length)) ?_ ?_
 .refine A0B (hQ [32,54,64,68,73]) cs.length 37 (λT M1=>∃i:Nat,i<=cs.length/\T 2=.list 5 (A2e s) .no/\T 3=.cptr [.list 5 (A1L l) .no,.mapr a,.mapr b,.mapr c]/\T 4=.cptr [I x.id.act,I x.id.item,I x.id.n,I x.kind,S x.label,.list 4 (A0g x.head) .no,.list 4 (A0g x.words) .no,.list 8 (A0p x.kids) .no]/\T 8=.list 1 (A0W xs) .no/\T 35=.list 5 (A3U cs) .no/\T 36=I cs.length/\T 37=I i/\Tri M M1 (T 11) (T 12) (T 13) (A7I cs nm i) (A2W cs nm i) (A9t nm i)) ?_ ?_
  .refine⟨0,by omega,?_⟩;simp -dsimp[Env.put_some,t2,t3,t4,A3U];exact⟨a6,.nil,.nil,.nil,.nil,.nil,.nil⟩
  clear t2 t3 t4 a6;rintro T M1 ⟨i,i1,t2,t3,t4,t8,d,g,t37,h3⟩;generalize r:T 11=b9 at*;generalize o:T 12=bd at*;generalize u:T 13=b0 at*;by_cases hi:i<cs.length;case neg=>
   (have a0:¬(i:Int)<cs.length:=by omega);obtain rfl:i=cs.length:=by omega
   simp -dsimp[t2,t3,t4,t8,d,g,t37,a0,r,o,u];exact h3
  have a0:(i:Int)<cs.length:=by omega
  have w1:=A1H (i:=i) (by omega);obtain⟨M3,ac⟩:=ex (M1++[A0m.cells 110 cs[i].row]);have b7:Grow M1 M3:=by rw[ac];exact A0c.app none _ _
  have a2:M3[M1.length]?=some (A0m.cells 110 cs[i].row):=by rw[ac];simp
  replace h3:=h3.keep b7;have ag:=C8w gl F s l L hF a b c x.id (i:Int) M3 (hP.keep h3.grow) hl hs (λm hm=>by have:=ht m hm;omega) aq;have o1:=B6B cs nm i hi;have o2:=A8l cs nm i hi;have o3:=B5R nm i;have b1:=B1R cs nm a1 i;have b2:=B2Y cs nm a1 i;have b3:=C5r nm a1 i;have aw:A1K F l s x.id i=nm i:=by rw[ab]
  rw[aw]at ag;have ax:=a1 i;obtain⟨q,hq⟩:=ex (M1.length);simp only[A1e.row]at a2 ac;simp only[IdD.row]at ag;rw[<-hq]at a2;simp -dsimp[t2,t3,t4,t8,d,g,t37,hi,a0,A1e.row,A0k,A0i,A0d];rw[<-ac,<-hq];refine A0h func176 ag ?_;simp -dsimp[-A4U];rw[A4U];obtain⟨D,hD⟩:=ex (nm i);rw[<-hD]at o1 o2 o3 ax;rw[<-hD];obtain⟨B,hB⟩:=ex (if D=[]then A2W cs nm i++[cs[i]]else A2W cs nm i);have bm:B.length<=i*(40+1)+1:=by
   rw[hB];split
   .simp;omega
   .omega
  refine B1L (λT M4=>T 2=.list 5 (A2e s) .no/\T 3=.cptr [.list 5 (A1L l) .no,.mapr a,.mapr b,.mapr c]/\T 4=.cptr [I x.id.act,I x.id.item,I x.id.n,I x.kind,S x.label,.list 4 (A0g x.head) .no,.list 4 (A0g x.words) .no,.list 8 (A0p x.kids) .no]/\T 8=.list 1 (A0W xs) .no/\T 15=.ptr q 0/\T 16=.list 1 (A7h D) .no/\T 35=.list 5 (A3U cs) .no/\T 36=I cs.length/\T 37=I i/\M4[q]?=some (A0m.cells 110 [I cs[i].k,A5y cs[i].path,S cs[i].to,I cs[i].frm,I cs[i].at_])/\Tri M M4 (T 11) (T 12) (T 13) (A7I cs nm i) B (A9t nm i)) ?_ ?_
  .by_cases hn:D=[]
   ·(have aj:((D.length:Nat):Int)=0:=by rw[hn];rfl);rw[Z0e hn]at hB
    simp -dsimp[t2,t3,t4,t8,d,g,t37,r,o,u,hn,aj,A0b a2,A0l,A0M];refine A3B (C:=WC gl) (enc:=A1e.row) (e:=110) (sz:=5) (news:=[cs[i]]) B8c C6y B9y (λ_=>rfl) h3.h2.own (by simp[A0D,A1e.row]) (by simp;omega) rfl ?_;intro v' M4 q1 q2 q3 _;simp -dsimp[t2,t3,t4,t8,d,g,t37,r,o,u];refine⟨by rw[hn],h3.h2.cells q2 a2,?_⟩;rw[hB];exact h3.push2 q1 q2 q3
   .have aj:¬((D.length:Nat):Int)=0:=λe=>hn (Z0y (by omega));have bg:¬D.length=0:=λe=>hn (Z0y e);rw[Z0d hn]at hB;rw[hB];simp -dsimp[t2,t3,t4,t8,d,g,t37,r,o,u,hn,aj,bg];exact⟨a2,h3⟩
  have au:=t37;clear t2 t3 t4 t8 d g t37 r o u h3 a2;rintro T M4 ⟨t2,t3,t4,t8,z,ap,d,g,t37,ay,h4⟩;simp -dsimp[t2,t3,t4,t8,z,ap,d,g,t37];refine A2P (hQ [32,54,64,68,73]) (λT M5=>∃j:Nat,j<=D.length/\T 2=.list 5 (A2e s) .no/\T 3=.cptr [.list 5 (A1L l) .no,.mapr a,.mapr b,.mapr c]/\T 4=.cptr [I x.id.act,I x.id.item,I x.id.n,I x.kind,S x.label,.list 4 (A0g x.head) .no,.list 4 (A0g x.words) .no,.list 8 (A0p x.kids) .no]/\T 8=.list 1 (A0W xs) .no/\T 15=.ptr q 0/\T 35=.list 5 (A3U cs) .no/\T 36=I cs.length/\T 37=I i/\T 55=.list 1 (A7h D) .no/\T 56=I D.length/\T 57=I j/\
   M5[q]?=some (A0m.cells 110 [I cs[i].k,A5y cs[i].path,S cs[i].to,I cs[i].frm,I cs[i].at_])/\Tri M M5 (T 11) (T 12) (T 13) (A7I cs nm i++(D.take j).map λ_=>cs[i]) (B++(D.take j).map λp=>⟨0,p,⟨#[]⟩,0,0⟩) (A9t nm i++D.take j))
   (λT M1=>match T 57 with|.val (.int _ j)=>D.length-j.toNat|_=>0) (by kernel_rfl) ?_ ?_
  .refine⟨0,by omega,by simp[t2],by simp[t3],by simp[t4],by simp[t8],by simp[z],by simp[d],by simp[g],by simp[t37],by simp,by simp,by simp,ay,?_⟩;simpa using h4
  clear t2 t3 t4 t8 z ap d g t37 ay h4;rintro T M5 ⟨j,j1,t2,t3,t4,t8,z,d,g,t37,a8,a5,a4,an,h5⟩;generalize r:T 11=b9 at*;generalize o:T 12=bd at*;generalize u:T 13=b0 at*;by_cases hj:j<D.length;case neg=>
   (have ak:¬(j:Int)<D.length:=by omega);rw[Z0g (by omega)]at h5
   rw[<-o1,<-o3]at h5;have b6:B++D.map (λp=>(⟨0,p,⟨#[]⟩,0,0⟩:A1e))=A2W cs nm (i+1):=by
    rw[o2,hB];by_cases hn:D=[]
    .rw[Z0e hn,Z0e hn,hn];simp
    .rw[Z0d hn,Z0d hn]
   rw[b6]at h5;simp -dsimp[t2,t3,t4,t8,z,d,g,t37,a8,a5,a4,ak,w1,r,o,u,au];exact⟨⟨i+1,by clear w1;omega,rfl,h5⟩,by clear w1;omega⟩
  have ak:(j:Int)<D.length:=by omega
  have w2:=A1H (i:=j) (by omega);simp -dsimp[t2,t3,t4,t8,z,d,g,t37,a8,a5,a4,hj,ak,r,o,u,A0b an,A0l,A0M];refine A3B (C:=WC gl) (enc:=A1e.row) (e:=110) (sz:=5) (news:=[cs[i]]) B8c C6y B9y (λ_=>rfl) h5.h1.own (by simp[A0D,A1e.row]) (by simp;omega) rfl ?_;intro bk M6 q1 q2 q3 _;have b8:=h5.h1.cells q2 an;replace h5:=h5.push1 q1 q2 q3;simp -dsimp[t2,t3,t4,t8,z,d,g,t37,a8,a5,a4,r,o,u,A0l,A0M];refine A3B (C:=WC gl) (enc:=C9u) (e:=40) (sz:=1) (news:=[D[j]]) D5S D9B D9z (λ_=>rfl) h5.h3.own (by simp[A0D,A0T,C9u]) (by simp;omega) rfl ?_;intro bq M7 q4 q5 q6 _;have b5:=h5.h3.cells q5 b8;replace h5:=h5.push3 q4 q5 q6;simp -dsimp[t2,t3,t4,t8,z,d,g,t37,a8,a5,a4,r,o,u,A0l,A0M];refine A3B (C:=WC gl) (enc:=A1e.row) (e:=110) (sz:=5) (news:=[⟨0,D[j],⟨#[]⟩,0,0⟩]) B8c C6y B9y (λ_=>rfl) h5.h2.own (by simp[A0D,A1e.row,A0T]) (by simp;omega) rfl ?_;intro bj M8 q7 q8 q9 _;have bb:=h5.h2.cells q8 b5;replace h5:=h5.push2 q7 q8 q9;have ai:D.take (j+1)=D.take j++[D[j]]:=by rw[Z0A hj]
  simp -dsimp[t2,t3,t4,t8,z,d,g,t37,a8,a5,a4,w2];refine⟨⟨j+1,by clear w1 w2;omega,rfl,bb,?_⟩,by clear w1 w2;omega⟩;rw[<-Z1u,<-Z1u,ai,Z0U,Z0U,<-Z0F,<-Z0F,<-Z0F];exact h5
 clear t2 t3 t4 a6
 rintro T M1 ⟨t8,h3⟩
 refine⟨M.length,((T.put (some 11) (.list 5 (A3U (A7I cs nm cs.length)) .no)).put (some 12) (.list 5 (A3U (A2W cs nm cs.length)) .no)).put (some 13) (.list 1 (A7h (A9t nm cs.length)) .no),?_,?_⟩
 .refine A8a (A8a (A8a (B2W T) ?_) ?_) ?_
  .exact Still.rows (λ_=>rfl) (λ_ _ _=>trivial) h3.h1.own h3.h1.lat .nil
  .exact Still.rows (λ_=>rfl) (λ_ _ _=>trivial) h3.h2.own h3.h2.lat .nil
  .exact Still.rows (λ_=>rfl) (λ_ _ _=>trivial) h3.h3.own h3.h3.lat .nil
 have a6:=B2n h3.grow
 generalize A4w M1 M.length=M2 at*
 clear h3
 have bn:=B1R cs nm a1 cs.length
 have bo:=B2Y cs nm a1 cs.length
 obtain⟨y,a3⟩:=ex (A4W xs (A7I cs nm cs.length) (A9t nm cs.length))
 obtain⟨s1,s2⟩:=A8u (old:=A7I cs nm cs.length) (names:=A9t nm cs.length) (B:=maxLen) (by simp[maxLen]) a7
 rw[<-a3]at s1 s2
 have bh:y.length<=1000000000:=by have:(A7I cs nm cs.length).length*(xs.length+19)<=12000*400:=Z4t (by omega) (by omega);omega
 have ao:=λM=>A0e.still (enc:=A4M) (sz:=1) (e:=9) (λ_=>rfl) B5v ((D0e gl M xs (A7I cs nm cs.length) (A9t nm cs.length) .no .no .no (by omega) a7 (by omega) (λp hp=>by obtain⟨j,hj⟩:=D5O nm hp;exact bf j p hj)).mono λv M' h=>h.toT)
 rw[<-a3]at ao
 have az:=λM=>A0e.still (enc:=A1e.row) (sz:=5) (λ_=>rfl) B4s (C0E gl y .no (by omega) s1 M)
 have hW:A6h F l s x=(y,A8s (A2d y 0) (A2W cs nm cs.length)):=by unfold A6h;simp only;rw[<-ad,<-am,<-ab,<-a3]
 rw[hW]
 have bp:(A2d y 0).length<=y.length:=by have:=A7C y (y.length-0) 0;simpa[A2d]using this
 have b4:∀c∈A2d y 0,c.path.length<=1000000:=λc hc=>by have h:=(B4I y _ _ c hc).1;simp only[A2M,Z0f,Z0k]at h;omega
 simp -dsimp[Env.put_some,t8]
 refine A0h func18 (ao M2) ?_
 simp -dsimp[Env.put_some,t8]
 refine A0h func98 (az M2) ?_
 simp -dsimp[Env.put_some,t8]
 refine A0h func179 (D2F gl (A2d y 0) (A2W cs nm cs.length) .no .no M2 (by omega) b4) ?_
 simp -dsimp[Env.put_some,t8]
 exact⟨a6,.tuple (.same (A6G (f:=A4M) (B5v _) y) (.same trivial .nil)) .nil⟩
end
open Go.Proofs TryTypes
structure Fm {α:Type} (sz:Nat) (enc:α->List AV) (n:Nat) (M:Mem) (v:AV) (l:List α):Prop where
 fam:A5r sz enc M v l
 lat:∀f,A4Y v=some f->n<=f
def B1i(a b:AV):Prop:=∀f,A4Y a=some f->A4Y b≠some f
def B1i.symm{a b:AV}(h:B1i a b):B1i b a:=λf h1 h2=>h f h2 h1
def B1i.nil{b:AV}:B1i (.val (.slice none 0 0)) b:=λf h=>by simp at h
section
variable {α β:Type} {sz sz2 n q:Nat} {enc:α->List AV} {enc2:β->List AV} {M M':Mem} {v v' u:AV} {l l':List α} {r:List β}
def Fm.nil:Fm sz enc n M (.val (.slice none 0 0)) []:=⟨.nil,λf h=>by simp at h⟩
def Fm.full:Fm sz enc n M (.list sz (l.map enc) .full) l:=⟨.full,λf h=>by simp at h⟩
def Fm.keep(h:Fm sz enc n M v l)(hk:Grow M M'):Fm sz enc n M' v l:=⟨h.fam.keep hk (by simp),h.lat⟩
def Fm.beside(h:Fm sz2 enc2 n M u r)(ha:B1i v u)(hk:A0c (A4Y v) M M'):Fm sz2 enc2 n M' u r:=⟨h.fam.keep hk (λf hf hv=>ha f hv hf),h.lat⟩
def Fm.setq(h:Fm sz enc n M v l){X:A0m}(hq:q<n):Fm sz enc n (M.set q X) v l:=⟨h.fam.keep (A0c.set _ _ _) (λf hf e=>by have:=h.lat f hf;simp at e;omega),h.lat⟩
def Fm.push(h:Fm sz enc n M v l)(hn:n<=M.length)(k1:A5r sz enc M' v' l')(k3:A4Y v'=A4Y v\/∀f,A4Y v'=some f->M.length<=f):Fm sz enc n M' v' l':=⟨k1,λf hf=>by
 rcases k3 with e|e
 .exact h.lat f (e▸hf)
 .have:=e f hf;omega⟩
def Fm.low(h:Fm sz enc n M v l)(hn:n<=M.length)(hk:A0c (A4Y v) M M'):A1c n M M':=hk.low hn h.lat
def Fm.apart(h:Fm sz2 enc2 n M u r)(ha:B1i v u)(k3:A4Y v'=A4Y v\/∀f,A4Y v'=some f->M.length<=f):B1i v' u:=λf hf hu=>by
 rcases k3 with e|e
 .exact ha f (e▸hf) hu
 .have:=e f hf;have:=h.fam.lt hu;omega
def Fm.cells{t:Nat}{xs:List AV}(h:Fm sz enc n M v l)(hk:A0c (A4Y v) M M')(hq:M[q]?=some (.cells t xs)):M'[q]?=some (.cells t xs):=hk.get hq λe=>by
 rcases h.fam with⟨rfl,_⟩|rfl|⟨f,rfl,hm⟩
 .simp at e
 .simp at e
 .simp only[B9H,Z0b]at e;subst e;rw[hm]at hq;simp at hq
def Fm.data{ok:AV->Prop}{m:Nat}{cs ds:List AV}(h:Fm sz enc n M v l)(hb:ok (.list sz (l.map enc) .no))(hr:Still M' m ok cs ds):Still M' m ok (v::cs) (.list sz (l.map enc) .no::ds):=by
 rcases h.fam with⟨rfl,rfl⟩|rfl|⟨f',rfl,hm⟩
 .exact .nilS hr
 .exact .dis hb hr
 .exact .dis hb hr
end
def A1c.le{n m:Nat}{A B:Mem}(h:A1c n A B)(hm:m<=n):A1c m A B:=⟨h.1,λi hi=>h.2 i (by omega)⟩
def A1c.setq{n q:Nat}{A B:Mem}(h:A1c n A B){X:A0m}(hq:n<=q):A1c n A (B.set q X):=⟨by simpa using h.1,λi hi=>by rw[Z0c (by omega)];exact h.2 i hi⟩
def A1c.grow{n:Nat}{M A B:Mem}(h:A1c n A B)(hg:Grow M A)(hn:M.length<=n):Grow M B:=⟨Z0R hg.1 h.1,λi hi _=>by rw[h.2 i (by omega)];exact hg.2 i hi (by simp)⟩
def D0J(t:A0a×List IdD×Int):AV:=.tuple [.agg t.1.row,.list 3 (A1l t.2.1) .no,I t.2.2]
abbrev ouC(k:Int)(lab:ByteArray)(hv wv kv:AV):A0m:=.cells 27 [I 0,I 0,I 0,I k,S lab,hv,wv,kv]
abbrev z8:A0m:=ouC 0 ⟨#[]⟩ A0G A0G A0G
@[simp] def E1x{k}{t}:A0x prog 27 [(1,I k),(2,S t)]=some (.agg [I 0,I 0,I 0,I k,S t,A0G,A0G,A0G]):=by
 simp[A0x,A1b,A1o,A0d,AV.cells,AV.storable]
@[simp] def E0O{t}:A0x prog 152 [(0,S t)]=some (.agg [S t,I 0,I 0,I 0]):=by
 simp[A0x,A1b,A1o,A0d,AV.cells,AV.storable]
def B6c{F:IdD->Option A0a}{l}{s}(a:∀j,j<l.length->B1u l j)(f n:Nat)(hn:n<l.length)(hf:l.length<=f+n):(A2x F l s f n).2.1.length<=l.length:=by rw[B0u,Z0G];obtain⟨h1,h2⟩:=B4g (par:=λk=>A2l l k) (N:=l.length) (λj hj=>by have:=(a j hj j hj (Z0n _)).2;simpa[A2l,hj]using this) f n hn hf;have:=C3Z (l:=A4b (λk=>A2l l ↑k) l.length f n) (m:=List.range l.length) h1 (λx hx=>by have:=((h2 x).1 hx).1;simpa using this);simpa using this
def C9Z{F:IdD->Option A0a}{s}{l}{x}(hl:l.length<=1000)(f:∀s∈l,s.good)(ht:∀m∈s,m.to.length<=40)(hx:x.good)(b:x.words.length<=300):(A6h F l s x).1.length<=1000000000:=by
 have c:(A0z x.words).length<=300:=by simpa[A0z]using b
 have a:∀t∈A0z x.words,t.size<=maxLen:=by intro t h;obtain⟨w,hw,rfl⟩:=Z0C.1 h;exact(((A0a.good_iff _).1 hx).2.2.2.2.2.2.1 w hw).1
 unfold A6h;simp only;generalize A0z x.words=xs at*;have e:(A2d xs 0).length<=xs.length:=A7C xs _ _;have d:=B1R (A2d xs 0) (λn:Nat=>A1K F l s x.id n) (λi=>A9l ht) (A2d xs 0).length;obtain⟨s1,s2⟩:=A8u (old:=A7I (A2d xs 0) (λn:Nat=>A1K F l s x.id n) (A2d xs 0).length) (names:=A9t (λn:Nat=>A1K F l s x.id n) (A2d xs 0).length) (B:=maxLen) (by simp[maxLen]) a;have:(A7I (A2d xs 0) (λn:Nat=>A1K F l s x.id n) (A2d xs 0).length).length*(xs.length+19)<=12000*400:=Z4t (by omega) (by omega);omega
section
variable (gl:Nat->AV)
set_option maxHeartbeats 1000000 in
def D9e(F:IdD->Option A0a)(s:List A1v)(l:List A0J)(L:List (IdD×A0a))(hF:A1N L=F)(a b c:Nat)(hl:l.length<=1000)(c5:∀s∈l,s.good)(hs:s.length<=1000)(ht:∀m∈s,m.to.length<=40)(aj:∀j,j<l.length->B1u l j)
 (ce:∀n (h:n<l.length),∃u,F l[n].id=some u/\u.good/\u.words.length<=300/\u.head.length<=300):∀(f n:Nat) (M:Mem),n<l.length->l.length<=f+n->B3w l L a b c M->
 A0e (WC gl) 71 [B2e l a b c,.list 5 (A2e s) .no,I n] M (λv M'=>v=D0J (A2x F l s f n)/\M'=M):=by
 intro f
 induction f with
 |zero=>intro n M h1 h2 _;omega
 |succ f ih=>
 intro n M h1 h2 hP
 refine A0e.dataX ?_
 obtain⟨x,hx,bj,c6,d6⟩:=ce n h1
 have cg:A2s F l n=x:=by simp[A2s,h1,hx]
 have c3:A5J l n=l[n].label:=by simp[A5J,h1]
 obtain⟨K,hK⟩:=ex (A3M l n l.length)
 obtain⟨W,hW⟩:=ex (A6h F l s x)
 have hT:A2x F l s (f+1) n=(.mk idZ x.kind l[n].label (x.head.map λh=>A5b h.text) (W.1.map A5b) ((K.map (A2x F l s f)).map (·.1)),x.id::(K.map (A2x F l s f)).flatMap (·.2.1),(K.map (A2x F l s f)).foldl (λe k=>A8J e k.2.2) (B4D W)):=by rw[A2x,cg,c3,<-hK,<-hW]
 rw[hT]
 clear hT
 have b8:W.1.length<=1000000000:=by rw[hW];exact C9Z hl c5 ht bj c6
 have n0:(0:Int)<=n:=by omega
 have n1:(n:Int)<l.length:=by omega
 refine A0n hB func71 ?_
 simp -dsimp[A0k]
 obtain⟨Ma,ab⟩:=ex (M++[z8])
 have bd:Grow M Ma:=by rw[ab];exact A0c.app none _ _
 have bi:Ma[M.length]?=some z8:=by rw[ab];simp
 have co:Ma.length=M.length+1:=by rw[ab];simp
 rw[<-ab]
 have aq:=hP.keep bd
 have b1:A1Y prog 92 Ma (.mapr a) (.agg [I l[n].id.act,I l[n].id.item,I l[n].id.n]) false=some (.agg x.row):=by
  rw[show AV.agg [I l[n].id.act,I l[n].id.item,I l[n].id.n]=A3c l[n].id from rfl,aq.units.get (A9d 92 27 (by kernel_rfl)) l[n].id C3P false];have:A1N L l[n].id=some x:=by rw[hF];exact hx
  rw[this];rfl
 have cj:a<Ma.length:=aq.units.lt
 obtain⟨Mb,af⟩:=ex (Ma++[A0m.cells 27 x.row])
 have ax:Grow Ma Mb:=by rw[af];exact A0c.app none _ _
 have b0:∀X,(Ma++[X])[a]?=Ma[a]?:=λX=>Z0i cj
 refine A3o hB (A0u gl) (λk=>if k=8 then 1 else if k=9\/k=10 then 2 else 0) (λ_=>a) (λ_=>false) [a] (by intros;simp) (by rfl) (by kernel_rfl) ?_
 simp -dsimp[n0,n1,h1,A0J.row,IdD.row,A0F,b1,A0k,A0i,A0d,AV.storable,AV.cells,b0]
 obtain⟨xa,bu⟩:=ex (Ma.length)
 have hX:Mb[xa]?=some (A0m.cells 27 x.row):=by rw[af,bu];simp
 have c2:=aq.keep ax
 have c8:=ax.get bi (by simp)
 have ay:=bd.trans ax
 have d7:Mb.length=M.length+2:=by rw[af];simp[co]
 rw[<-af,<-bu]
 clear af ab b1 b0
 simp -dsimp[A0b hX]
 refine A0h func125 (D3g gl F s l L hF a b c x Mb c2 hl c5 hs ht aj bj c6) ?_
 rw[<-hW]
 simp -dsimp[-A4U]
 rw[A4U]
 simp -dsimp[-A4U]
 rw[A4U]
 refine B1L (λT M1=>M1=Mb/\T 1=.list 5 (A2e s) .no/\T 2=I n/\T 3=.cptr [.list 5 (A1L l) .no,.mapr a,.mapr b,.mapr c]/\T 6=.ptr M.length 0/\T 9=.ptr xa 0/\T 10=.list 1 (A0W W.1) .no/\T 12=I (if W.2=true then 0 else 2)) ?_ ?_
 .cases hw2:W.2<;>simp -dsimp[hw2]
 rintro T M1 ⟨rfl,t1,t2,t3,t6,t9,r,d⟩
 simp -dsimp[-A4U]
 rw[A4U]
 refine B1L (λT M2=>M2=M1/\T 1=.list 5 (A2e s) .no/\T 2=I n/\T 3=.cptr [.list 5 (A1L l) .no,.mapr a,.mapr b,.mapr c]/\T 6=.ptr M.length 0/\T 9=.ptr xa 0/\T 10=.list 1 (A0W W.1) .no/\T 12=I (B4D W)) ?_ ?_
 .by_cases hw:256<W.1.length
  ·(have ba:(256:Int)<W.1.length:=by omega);simp -dsimp[t1,t2,t3,t6,t9,r,d,ba,B4D,hw]
  ·(have ba:¬(256:Int)<W.1.length:=by omega);simp -dsimp[t1,t2,t3,t6,t9,r,d,ba,B4D,hw]
 clear t1 t2 t3 t6 t9 r d
 rintro T Mb ⟨rfl,t1,t2,t3,t6,t9,r,d⟩
 obtain⟨q,hq⟩:=ex (Mb.length)
 obtain⟨Mc,ad⟩:=ex (Mb++[ouC x.kind l[n].label A0G A0G A0G])
 have am:Grow Mb Mc:=by rw[ad];exact A0c.app none _ _
 have cq:Mc[q]?=some (ouC x.kind l[n].label A0G A0G A0G):=by rw[ad,hq];simp
 have ar:=hX
 rw[x.row_eq]at ar
 have cb:xa<Mb.length:=(Z0a.1 hX).1
 have b3:∀X,(Mb++[X])[xa]?=Mb[xa]?:=λX=>Z0i cb
 simp -dsimp
 refine A3o hB (A0u gl) (λk=>if k=1 then 1 else if k=9\/k=10 then 2 else 0) (λ_=>xa) (λ_=>false) [xa] (by intros;simp) (by rfl) (by kernel_rfl) ?_
 simp -dsimp[t1,t2,t3,t6,t9,r,d,n0,n1,h1,A0J.row,A0F,A2Y,A0b ar,A0k,A0i,A0d,b3]
 rw[<-ad,<-hq]
 have ca:=am.get ar (by simp)
 have ck:=am.get c8 (by simp)
 have bo:=ay.trans am
 have d2:Mc.length=q+1:=by rw[ad,hq];simp
 have d0:M.length+2=q:=by omega
 have bw:xa<q:=by omega
 clear ad am b3 hX ar c8 ay c2 aq bd ax bi
 simp -dsimp[t1,t2,t3,t6,t9,r,d,A0b ca]
 refine A4B (.exit 0) (λT M1=>T 1=.list 5 (A2e s) .no/\T 2=I n/\T 3=.cptr [.list 5 (A1L l) .no,.mapr a,.mapr b,.mapr c]/\T 6=.ptr M.length 0/\T 9=.ptr xa 0/\T 10=.list 1 (A0W W.1) .no/\T 12=I (B4D W)/\T 13=.ptr q 0/\A1c q Mc M1/\∃hv,M1[q]?=some (ouC x.kind l[n].label hv A0G A0G)/\Fm 4 A0Q.row (q+1) M1 hv (x.head.map λh=>A5b h.text)) ?_ ?_
 .refine A0B hB x.head.length 57 (λT M1=>∃i:Nat,i<=x.head.length/\T 1=.list 5 (A2e s) .no/\T 2=I n/\T 3=.cptr [.list 5 (A1L l) .no,.mapr a,.mapr b,.mapr c]/\T 6=.ptr M.length 0/\T 9=.ptr xa 0/\T 10=.list 1 (A0W W.1) .no/\T 12=I (B4D W)/\T 13=.ptr q 0/\T 55=.list 4 (A0g x.head) .no/\T 56=I x.head.length/\T 57=I i/\A1c q Mc M1/\∃hv,M1[q]?=some (ouC x.kind l[n].label hv A0G A0G)/\Fm 4 A0Q.row (q+1) M1 hv ((x.head.take i).map λh=>A5b h.text)) ?_ ?_
  .exact⟨0,by omega,by simp[t1],by simp[t2],by simp[t3],by simp[t6],by simp[t9],by simp[r],by simp[d],by simp,by simp,by simp,by simp,A1c.refl _ _,A0G,cq,.nil⟩
  clear t1 t2 t3 t6 t9 r d;rintro T M1 ⟨i,i1,t1,t2,t3,t6,t9,r,d,g,ao,au,an,hk,hv,ho,hf⟩;by_cases hi:i<x.head.length;case neg=>
   (have a4:¬(i:Int)<x.head.length:=by omega);rw[Z0g (by omega)]at hf
   simp -dsimp[t1,t2,t3,t6,t9,r,d,g,ao,au,an,a4];exact⟨hk,hv,ho,hf⟩
  have a4:(i:Int)<x.head.length:=by omega
  have w1:=A1H (i:=i) (by omega);have bg:q+1<=M1.length:=by have:=hk.1;omega
  obtain⟨M2,aw⟩:=ex (M1++[A0m.cells 152 x.head[i].row]);have z:Grow M1 M2:=by rw[aw];exact A0c.app none _ _
  have br:M2[M1.length]?=some (A0m.cells 152 x.head[i].row):=by rw[aw];simp
  have bv:=z.get ho (by simp);have ap:=hf.keep z;have a8:=hk.trans (z.low (n:=q) (by omega) (by simp));have az:q+1<=M2.length:=by have:=z.1;omega
  simp only[A0Q.row]at aw br;simp -dsimp[t1,t2,t3,t6,t9,r,d,g,ao,au,an,hi,a4,A0Q.row,A0k,A0i,A0d];rw[<-aw];simp -dsimp[t1,t2,t3,t6,t9,r,d,g,ao,au,an,A0b bv,A0b br,A0l,A0M];refine B1y (C:=WC gl) (enc:=A0Q.row) (e:=152) (sz:=4) (news:=[A5b x.head[i].text]) (o:=.full) B7Z C7G C0B ap.fam (by simp;omega) rfl rfl ?_;intro v' M3 k1 k2 k3;have a3:=ap.cells k2 bv;have bb:=ap.push az k1 k3;have a2:=a8.trans ((ap.low az k2).le (by omega));have ag:A0i (some 1) M3 (.ptr q 5) v'=some (M3.set q (ouC x.kind l[n].label v' A0G A0G)):=by rw[A0f a3,k1.cells,Z0e ⟨k1.store,by simp,rfl⟩];rfl
  have b9:q<M3.length:=(Z0a.1 a3).1;simp -dsimp[t1,t2,t3,t6,t9,r,d,g,ao,au,an,ag,w1];refine⟨⟨i+1,by clear w1;omega,rfl,a2.setq (Z0n _),v',by simp[b9],?_⟩,by clear w1;omega⟩;rw[<-Z1u,Z0A hi,Z0U];exact bb.setq (by omega)
 clear t1 t2 t3 t6 t9 r d
 rintro T M1 ⟨t1,t2,t3,t6,t9,r,d,g,hk,hv,ho,cf⟩
 simp -dsimp[t1,t2,t3,t6,t9,r,d,g]
 refine A4B (.exit 2) (λT M1=>T 1=.list 5 (A2e s) .no/\T 2=I n/\T 3=.cptr [.list 5 (A1L l) .no,.mapr a,.mapr b,.mapr c]/\T 6=.ptr M.length 0/\T 9=.ptr xa 0/\T 12=I (B4D W)/\T 13=.ptr q 0/\A1c q Mc M1/\∃wv,M1[q]?=some (ouC x.kind l[n].label hv wv A0G)/\Fm 4 A0Q.row (q+1) M1 wv (W.1.map A5b)) ?_ ?_
 .refine A0B hB W.1.length 72 (λT M1=>∃i:Nat,i<=W.1.length/\T 1=.list 5 (A2e s) .no/\T 2=I n/\T 3=.cptr [.list 5 (A1L l) .no,.mapr a,.mapr b,.mapr c]/\T 6=.ptr M.length 0/\T 9=.ptr xa 0/\T 12=I (B4D W)/\T 13=.ptr q 0/\T 70=.list 1 (A0W W.1) .no/\T 71=I W.1.length/\T 72=I i/\A1c q Mc M1/\∃wv,M1[q]?=some (ouC x.kind l[n].label hv wv A0G)/\Fm 4 A0Q.row (q+1) M1 wv ((W.1.take i).map A5b)) ?_ ?_
  .exact⟨0,by omega,by simp[t1],by simp[t2],by simp[t3],by simp[t6],by simp[t9],by simp[d],by simp[g],by simp,by simp,by simp,hk,A0G,ho,.nil⟩
  clear t1 t2 t3 t6 t9 r d g hk ho;rintro T M1 ⟨i,i1,t1,t2,t3,t6,t9,d,g,t70,bf,t72,hk,wv,ho,hf⟩;by_cases hi:i<W.1.length;case neg=>
   (have a4:¬(i:Int)<W.1.length:=by omega);rw[Z0g (by omega)]at hf
   simp -dsimp[t1,t2,t3,t6,t9,d,g,t70,bf,t72,a4];exact⟨hk,wv,ho,hf⟩
  have a4:(i:Int)<W.1.length:=by omega
  have d5:=b8;have w1:IntKind.i64.wrap ((i:Int)+1)=(i+1:Nat):=by rw[A0L (by omega) (by omega)];omega
  have bg:q+1<=M1.length:=by have:=hk.1;omega
  simp -dsimp[t1,t2,t3,t6,t9,d,g,t70,bf,t72,hi,a4,A0b ho,A0l,A0M];refine B1y (C:=WC gl) (enc:=A0Q.row) (e:=152) (sz:=4) (news:=[A5b W.1[i]]) (o:=.full) B7Z C7G C0B hf.fam (by simp;omega) rfl rfl ?_;intro v' M3 k1 k2 k3;have a3:=hf.cells k2 ho;have bb:=hf.push bg k1 k3;have a2:=hk.trans ((hf.low bg k2).le (by omega));have ag:A0i (some 1) M3 (.ptr q 6) v'=some (M3.set q (ouC x.kind l[n].label hv v' A0G)):=by rw[A0f a3,k1.cells,Z0e ⟨k1.store,by simp,rfl⟩];rfl
  have b9:q<M3.length:=(Z0a.1 a3).1;simp -dsimp[t1,t2,t3,t6,t9,d,g,t70,bf,t72,ag,w1];refine⟨⟨i+1,by clear w1;omega,rfl,a2.setq (Z0n _),v',by simp[b9],?_⟩,by clear w1;omega⟩;rw[<-Z1u,Z0A hi,Z0U];exact bb.setq (by omega)
 clear t1 t2 t3 t6 t9 r d g hk ho
 rintro T M1 ⟨t1,t2,t3,t6,t9,d,g,hk,wv,ho,cp⟩
 have ac:∀M1,A1c q Mc M1->Grow M M1:=λM1 h=>h.grow bo (by omega)
 have cd:M1[xa]?=_:=(hk.2 xa bw).trans ca
 obtain⟨KL,bp,bq⟩:=hP.kd
 have cm:=bp.keep (ac M1 hk) (by simp)
 have ai:=bq (n:Int)
 rw[<-hK]at ai
 have ch:A1Y prog 94 M1 (.mapr c) (I n) false=some (A8M KL n):=by rw[cm.get (C0h 94 130 (by kernel_rfl)) (n:Int) B5G false];unfold A8M;cases A1N KL (n:Int)<;>rfl
 have cx:=ai.keep (ac M1 hk) (by simp)
 generalize cy:A8M KL (n:Int)=bx at*
 have d4:K.length<=l.length:=by rw[hK];exact B1F l n l.length
 have bn:A2y prog 130 bx=some K.length:=cx.len (e':=3) (by simp)
 simp -dsimp[t1,t2,t3,t6,t9,d,g,A0b cd,A0l,A0M,ch,bn]
 refine A0B hB K.length 92 (λT M2=>∃j:Nat,j<=K.length/\T 1=.list 5 (A2e s) .no/\T 3=.cptr [.list 5 (A1L l) .no,.mapr a,.mapr b,.mapr c]/\T 6=.ptr M.length 0/\T 13=.ptr q 0/\T 90=bx/\T 91=I K.length/\T 92=I j/\T 12=I (((K.take j).map (A2x F l s f)).foldl (λe k=>A8J e k.2.2) (B4D W))/\A1c q Mc M2/\∃kv,M2[q]?=some (ouC x.kind l[n].label hv wv kv)/\Fm 8 A0a.row (q+1) M2 kv (((K.take j).map (A2x F l s f)).map (·.1))/\Fm 3 IdD.row (q+1) M2 (T 18) (x.id::((K.take j).map (A2x F l s f)).flatMap (·.2.1))/\B1i kv (T 18)/\(((K.take j).map (A2x F l s f)).flatMap (·.2.1)).length<=j*1000) ?_ ?_
 .refine⟨0,by omega,by simp[t1],by simp[t3],by simp[t6],by simp[g],by simp,by simp,by simp,by simp[d],hk,A0G,ho,.nil,?_,.nil,by simp⟩;simp -dsimp;exact Fm.full (l:=[x.id])
 clear t1 t2 t3 t6 t9 d g ho
 rintro T M2 ⟨j,j1,t1,t3,t6,g,a7,a5,a6,d,z,kv,ho,a0,aa,bz,be⟩
 generalize a1:T 18=iv at*
 by_cases hj:j<K.length
 case neg=>
  have bh:¬(j:Int)<K.length:=by omega
  rw[Z0g (by omega)]at a0 aa d;have b7:M2[M.length]?=some z8:=(z.2 _ (by omega)).trans ck;have bt:M.length<M2.length:=(Z0a.1 b7).1;have c9:=ac M2 z;have cv:∀X,Grow M (M2.set M.length X):=λX=>⟨by have:=c9.1;simpa using this,λj hj _=>by rw[Z0c (by omega)];exact c9.2 j hj (by simp)⟩;simp -dsimp[t1,t3,t6,g,a7,a5,a6,d,bh,a1,A0b ho,A0f b7,A0s bt];refine⟨cv _,?_⟩;rw[D0J,A0a.row];refine .tuple (.agg (.same trivial (.same trivial (.same trivial (.same trivial (.same trivial (cf.data (A6G (f:=A0Q.row) (λw=>by simp[A0Q.row,A1I,bdd]) _) (cp.data (A6G (f:=A0Q.row) (λw=>by simp[A0Q.row,A1I,bdd]) _) ?_))))))) (aa.data (A6G (f:=IdD.row) (B2c _) _) (.same trivial .nil))) .nil;rw[A3t,<-Z1K];exact a0.data (A6G (f:=A0a.row) (A3d _) _) .nil
 have bh:(j:Int)<K.length:=by omega
 have w1:=A1H (i:=j) (by omega)
 have cu:=hP.keep (ac M2 z)
 have c0:=ai.keep (ac M2 z) (by simp)
 obtain⟨p,cr,cn⟩:=c0.at1 (P:=prog) (t:=3) (f:=λk:Nat=>I k) (λ_=>rfl) E4K sz3 hj
 have ah:K[j]∈A3M l n l.length:=by rw[<-hK];exact Z0o hj
 have a8:K[j]<l.length:=A7o ah
 have cz:n<K[j]:=by
  have hp:A2l l K[j]=n:=by simp[A3M]at ah;exact ah.2
  have:=(aj K[j] a8 K[j] a8 (Z0n _)).2;simp only[A2l,Z0l a8,Int.toNat_natCast]at hp;omega
 have ae:=ih K[j] M2 a8 (by omega) cu
 have ci:=B6c (F:=F) (s:=s) aj f K[j] a8 (by omega)
 have cs:K.take (j+1)=K.take j++[K[j]]:=by rw[Z0A hj]
 obtain⟨k,bs⟩:=ex (A2x F l s f K[j])
 have av:(K.take (j+1)).map (A2x F l s f)=(K.take j).map (A2x F l s f)++[k]:=by rw[cs,Z0U,bs];rfl
 rw[<-bs]at ae ci
 obtain⟨M3,bc⟩:=ex (M2++[A0m.cells 27 k.1.row])
 have ak:Grow M2 M3:=by rw[bc];exact A0c.app none _ _
 have cc:M3[M2.length]?=some (A0m.cells 27 k.1.row):=by rw[bc];simp
 have a3:=ak.get ho (by simp)
 have d3:q<M2.length:=(Z0a.1 ho).1
 have a2:=z.trans (ak.low (n:=q) (by omega) (by simp))
 have b2:q+1<=M3.length:=by have:=ak.1;omega
 replace a0:=a0.keep ak
 replace aa:=aa.keep ak
 generalize hA:(K.take j).map (A2x F l s f)=A at*
 have hAl:A.length<=1000:=by rw[<-hA,Z0G,Z0D];omega
 simp -dsimp[t1,t3,t6,g,a7,a5,a6,d,bh,cr,cn]
 refine A0h func71 ae ?_
 simp -dsimp[t1,t3,t6,g,a7,a5,a6,d,D0J,A0k,A0i,A0d,AV.storable,AV.cells]
 rw[<-bc]
 simp -dsimp[t1,t3,t6,g,a7,a5,a6,d,a1,A0b a3,A0b cc,A0l,A0M]
 refine B1y (C:=WC gl) (enc:=A0a.row) (e:=27) (sz:=8) (news:=[k.1]) (o:=.full) A7G B2i B1T a0.fam (by simp;omega) rfl rfl ?_
 intro v1 M4 k1 k2 k3
 have ct:=a0.cells k2 a3
 have d1:=a0.cells k2 cc
 have a9:=aa.beside bz k2
 have b6:=a0.push b2 k1 k3
 have b5:=aa.apart bz k3
 have bm:=a2.trans ((a0.low b2 k2).le (by omega))
 have b4:q+1<=M4.length:=by have:=k2.1;omega
 simp -dsimp[t1,t3,t6,g,a7,a5,a6,d,a1]
 refine B1y (C:=WC gl) (enc:=IdD.row) (e:=23) (sz:=3) (news:=k.2.1) (o:=.no) B4i B8y C0u a9.fam (by simp only[Z0x];omega) rfl rfl ?_
 intro v2 M5 k4 k5 k6
 have bk:=a9.cells k5 ct
 have al:=b6.beside b5.symm k5
 have c7:=a9.push b4 k4 k6
 have c4:=(b6.apart b5.symm k6).symm
 have c1:=bm.trans ((a9.low b4 k5).le (by omega))
 have ag:A0i (some 1) M5 (.ptr q 7) v1=some (M5.set q (ouC x.kind l[n].label hv wv v1)):=by rw[A0f bk,al.fam.cells,Z0e ⟨al.fam.store,by simp,rfl⟩];rfl
 have cw:q<M5.length:=(Z0a.1 bk).1
 simp -dsimp[t1,t3,t6,g,a7,a5,a6,d,a1]
 refine A0h func73 (C7p gl _ k.2.2 M5) ?_
 simp -dsimp[t1,t3,t6,g,a7,a5,a6,d,a1,ag,w1]
 refine⟨⟨j+1,by clear w1;omega,rfl,?_,c1.setq (Z0n _),v1,by simp[cw],?_,?_,c4,?_⟩,by clear w1;omega⟩
 .rw[<-Z1u,av,Z3c];rfl
 .rw[<-Z1K,<-Z1u,<-Z1u,av,Z0U];exact al.setq (by omega)
 .rw[<-Z1u,av,Z1l];have e:x.id::(A.flatMap (λy=>y.2.1)++[k].flatMap (λy=>y.2.1))=(x.id::A.flatMap (λy=>y.2.1))++k.2.1:=by simp
  rw[e];exact c7.setq (by omega)
 .rw[List.length_flatMap]at be;rw[<-Z1K,<-Z1u,<-Z1u,av,Z0U,List.sum_append];simp only[Z0z,Z2b,List.sum_cons,List.sum_nil];clear w1;omega
end
def wd(w:List ByteArray)(j:Nat):ByteArray:=w.getD j ⟨#[]⟩
def B7L(w:List ByteArray)(i j:Nat):wd w (i+j)=wd (w.drop i) j:=by simp[wd,Z1O,Z1e]
def C7E(w:List ByteArray):A1C w=if 1<w.length/\wd w 0=A3x/\0<kS (wd w 1)then(2,[⟨kS (wd w 1),⟨#[]⟩⟩],w.drop 2)
 else if 2<w.length/\wd w 0=A5F/\wd w 1=A7s/\0<kS (wd w 2)then(3,[⟨kS (wd w 2),⟨#[]⟩⟩],w.drop 3)
 else if 0<w.length/\wd w 0=A6z then(4,[],w.drop 1)else(0,[],w):=by
 match w with
 |[]=>simp[A1C,wd]
 |[a]=>simp[A1C,wd]
 |[a,b]=>simp[A1C,wd]
 |a::b::c::r=>simp[A1C,wd]
def B3I{w}{i}(h:i<w.length):w[i]=wd w i:=by simp[wd,h]
def C5e(k:Int)(w:List ByteArray)(i:Nat):A3O k (w.drop i)=if¬k=2/\¬k=3/\i<w.length/\wd w i=A2O then([A3n],w.drop (i+1))else([],w.drop i):=by
 unfold A3O;by_cases c:k=2\/k=3
 .rw[Z0e c,Z0d (λh=>c.elim h.1 h.2.1)]
 .rw[Z0d c];simp only[Z2N]at c;by_cases hi:i<w.length
  .have e:=Z0j hi;rw[B3I hi]at e;by_cases c2:wd w i=A2O
   .rw[Z0e ⟨c.1,c.2,hi,c2⟩];simp only[bkS,bkN,e,c2,Z0T,Z1U,Z1h]
   .rw[Z0d (λh=>c2 h.2.2.2)];simp only[bkS,bkN,e,c2,Z1i,Z1h];rfl
  .rw[Z0d (λh=>hi h.2.2.1),Z0v (by omega)];rfl
def D2k(w:List ByteArray)(i:Nat)(hi:i+1<w.length):A2U (w.drop i)=if 0<kS (wd w i)then(⟨kS (wd w i),wd w (i+1)⟩::(A2U (w.drop (i+2))).1,(A2U (w.drop (i+2))).2)else([],w.drop i):=by have e1:=Z0j (show i<w.length by omega);have e2:=Z0j (show i+1<w.length by omega);rw[B3I]at e1 e2;rw[e1,e2,A2U]
def C8V(w:List ByteArray)(i:Nat)(hi:¬i+1<w.length):A2U (w.drop i)=([],w.drop i):=by
 have:(w.drop i).length<=1:=by rw[Z1c];omega
 match h:w.drop i with
 |[]=>rfl
 |[a]=>rfl
 |a::b::r=>rw[h]at this;simp at this
def C3X(k:Int)(p:List A0w)(w:List ByteArray)(i:Nat)(hi:i<=w.length):A2D k p (w.drop i)=if k=0/\i+4=w.length/\0<kP (wd w i)/\wd w (i+2)=toW then((1,p++[⟨kP (wd w i),wd w (i+1)⟩],wd w (i+3)),[])else((k,p,⟨#[]⟩),w.drop i):=by
 have h0:=B7L w i 0;have h1:=B7L w i 1;have h2:=B7L w i 2;have h3:=B7L w i 3;rw[Z0Z]at h0;have hl:(w.drop i).length=w.length-i:=Z1c;have e4:(i+4=w.length)<->(w.drop i).length=4:=by omega
 rw[h0,h1,h2,h3];simp only[e4];clear h0 h1 h2 h3 hl e4;generalize w.drop i=D
 match D with
 |[]=>simp[A2D]
 |[a]=>simp[A2D]
 |[a,b]=>simp[A2D]
 |[a,b,c]=>simp[A2D]
 |[a,b,c,d]=>simp[A2D,wd]
 |a::b::c::d::e::r=>simp[A2D]
def B4q{w:List ByteArray}{i:Nat}(hi:i<=w.length):w.drop i=[]<->i=w.length:=by rw[List.drop_eq_nil_iff];omega
abbrev A3G(k:Int)(pv:AV)(to:ByteArray):A0m:=.cells 110 [I k,pv,S to,I 0,I 0]
structure RdC (M:Mem) (k:Int) (p:List A0w) (to:ByteArray) (M1:Mem):Prop where
 res:M1[M.length]?=some (A3G 0 A0G ⟨#[]⟩)
 c:∃pv,M1[M.length+1]?=some (A3G k pv to)/\A5r 2 A0w.row M1 pv p/\∀f,A4Y pv=some f->M.length+2<=f
 grow:Grow M M1
def RdC.lt{M M1}{k}{p}{to}(h:RdC M k p to M1):M.length+1<M1.length:=by obtain⟨pv,h1,_⟩:=h.c;exact(Z0a.1 h1).1
def RdC.set{M M1}{k k'}{p p'}{to to'}{pv}(h:RdC M k p to M1)(h1:A5r 2 A0w.row M1 pv p')(h2:∀f,A4Y pv=some f->M.length+2<=f):RdC M k' p' to' (M1.set (M.length+1) (A3G k' pv to')):=by have hl:=h.lt;refine⟨by rw[Z0c (by omega)];exact h.res,⟨pv,by simp[hl],h1.keep (A0c.set _ _ _) (λf hf e=>by have:=h2 f hf;simp at e;omega),h2⟩,?_⟩;exact⟨by have:=h.grow.1;simp;omega,λi hi _=>by rw[Z0c (by omega)];exact h.grow.2 i hi (by simp)⟩
def RdC.app{M M1 M2}{k}{p}{to}{pv}(h:RdC M k p to M1)(hc:M1[M.length+1]?=some (A3G k pv to))(hk:A0c (A4Y pv) M1 M2)(hf:∀f,A4Y pv=some f->M.length+2<=f){pv'}{p'}(h1:A5r 2 A0w.row M2 pv' p')(h2:A4Y pv'=A4Y pv\/∀f,A4Y pv'=some f->M1.length<=f){k'}{to'}:M2[M.length+1]?=some (A3G k pv to)/\RdC M k' p' to' (M2.set (M.length+1) (A3G k' pv' to')):=by
 have hl:=h.lt
 have b:M2[M.length+1]?=some (A3G k pv to):=hk.get hc (λe=>by have:=hf _ e;omega)
 have c:M.length+1<M2.length:=(Z0a.1 b).1
 have a:∀f,A4Y pv'=some f->M.length+2<=f:=λf e=>by
  rcases h2 with h2|h2
  .exact hf f (h2▸e)
  .have:=h2 f e;omega
 refine⟨b,by rw[Z0c (by omega)];exact hk.get h.res (λe=>by have:=hf _ e;omega),⟨pv',by simp[c],h1.keep (A0c.set _ _ _) (λf e q=>by have:=a f e;simp at q;omega),a⟩,?_⟩
 exact⟨by have:=h.grow.1;have:=hk.1;simp;omega,λi hi _=>by rw[Z0c (by omega),hk.2 i (by omega) (λe=>by have:=hf _ e;omega)];exact h.grow.2 i hi (by simp)⟩
def A3E{M}{f g}{w}{hist}(hm:M[f]?=some (.vec 9 1 (w.flatMap A4M) g hist))(hl:hist.lookup g=some w.length){j}(hj:j<w.length):A1y prog 9 M (.vptr f g j)=some (S (wd w j)):=by
 have hd:(w.flatMap A4M).drop j=(w.drop j).map S:=by rw[<-B2J,Z4A]
 simp only[A1y,A3k,hm,hl,Z3i,A0j,E0Y,sz9];rw[Z0g (by rw[<-B2J];simp),hd,Z0j hj,Z0z,B3I hj];rfl
def C1w(o:Option Cq)(a b:Int):List AV:=match o with
 |some c=>[I c.1,A5y c.2.1,S c.2.2,I a,I b]
 |none=>[I 0,A5y [],S ⟨#[]⟩,I 0,I 0]
section
variable (gl:Nat->AV)
def C9X(k:Int)(to:ByteArray)(x y:Int)(M:Mem):A0e (WC gl) 120 [.agg [I k,A0G,S to,I x,I y]] M (λv M'=>v=B false/\M'=M):=by refine A0n hB func120 ?_;simp -dsimp -implicitDefEqProofs[A0G]
def B5C:A0x prog 110 []=some (.agg [I 0,A0G,S ⟨#[]⟩,I 0,I 0]):=by simp[A0x,A1b,A0G]
def C5E(w:List ByteArray)(a9:0<w.length)(bt:w.length<=1000)(au:∀s∈w,s.size<=maxLen)(f g:Nat)(ar:List (Nat×Nat))(M:Mem)(hm:M[f]?=some (.vec 9 1 (w.flatMap A4M) g ar))(hl:ar.lookup g=some w.length):A0e (WC gl) 197 [.vref f g 1 0 w.length] M (λv M'=>v=.tuple [.agg (C1w (A1G w) 0 0),B (A1G w).isSome]/\M'=M):=by
 refine A0e.dataX ?_
 have hf:f<M.length:=(Z0a.1 hm).1
 have y:=λM=>C8H gl M
 have af:∀(s:ByteArray) M,A0e (WC gl) 246 [.list 1 (A0W A8f) .full,S s] M (λv M'=>v=I (kS s)/\M'=M):=λs M=>by have:=C1E gl A8f .full s M (by decide);rwa[E1v]at this
 have bd:∀(s:ByteArray) M,A0e (WC gl) 246 [.list 1 (A0W A5i) .full,S s] M (λv M'=>v=I (kP s)/\M'=M):=λs M=>by have:=C1E gl A5i .full s M (by decide);rwa[E0t]at this
 have n0:(0:Int)<w.length:=by omega
 refine A0n hB func197 ?_
 simp -dsimp -implicitDefEqProofs[-A4U]
 rw[A4U]
 simp -dsimp -implicitDefEqProofs[-A4U,A0k,A0i,A0d]
 rw[A4U]
 simp -dsimp -implicitDefEqProofs[-A4U,B5C,A0k,A0i,A0d]
 rw[A4U]
 simp -dsimp -implicitDefEqProofs[-A4U,A0k,A0i,A0d]
 rw[A4U]
 obtain⟨M1,ai⟩:=ex (M++[A3G 0 A0G ⟨#[]⟩,A3G 0 A0G ⟨#[]⟩])
 have an:M1[M.length+1]?=some (A3G 0 A0G ⟨#[]⟩):=by rw[ai];simp[Z0W]
 have a:RdC M 0 [] ⟨#[]⟩ M1:=⟨by rw[ai];simp,⟨A0G,an,.nil,λf h=>by simp[A0G]at h⟩,by rw[ai];exact A0c.app none _ _⟩
 have d:=C7E w
 have ao:A1G w=A1S (A1C w).1 (A1C w).2.1 (A1C w).2.2:=rfl
 obtain⟨b1,z⟩:∃b:Bool,b=decide (1<w.length/\wd w 0=A3x/\0<kS (wd w 1)):=⟨_,rfl⟩
 obtain⟨b2,n⟩:∃b:Bool,b=decide (2<w.length/\wd w 0=A5F/\wd w 1=A7s/\0<kS (wd w 2)):=⟨_,rfl⟩
 rw[<-ai]
 refine B1L (λT M2=>∃(i:Nat) (k:Int) (p:List A0w),T 0=.vref f g 1 0 w.length/\T 2=.ptr M.length 0/\T 4=.ptr (M.length+1) 0/\T 5=I i/\RdC M k p ⟨#[]⟩ M2/\i<=w.length/\p.length<=i/\A7b p/\A1G w=A1S k p (w.drop i)) ?_ ?_
 .have a7:=a.grow.get hm (by simp);have l0:=A3E a7 hl (j:=0) a9;have l1:=λh=>A3E a7 hl (j:=1) h;have l2:=λh=>A3E a7 hl (j:=2) h;simp -dsimp -implicitDefEqProofs;refine B9U (λT M2=>M2=M1/\T 0=.vref f g 1 0 w.length/\T 2=.ptr M.length 0/\T 4=.ptr (M.length+1) 0/\T 5=I 0/\T 23=B b1) ?_ ?_
  .refine A3o hB (A0u gl) (λk=>if k=6\/k=13 then 1 else 0) (λ_=>f) (λ_=>false) [f] (by intros;simp) (by rfl) (by kernel_rfl) ?_;by_cases a1:1<w.length;case neg=>rw[Z0r (λh=>a1 h.1)]at z;subst z;(have m:¬(1:Int)<w.length:=by omega);simp -dsimp -implicitDefEqProofs[m]
   (have m:(1:Int)<w.length:=by omega);have l1:=l1 a1
   by_cases a2:wd w 0=A3x;(case neg=>rw[Z0r (λh=>a2 h.2.1)]at z;subst z;have a6:¬wd w 0=⟨#[116,104,105,115]⟩:=a2;simp -dsimp -implicitDefEqProofs[m,a9,n0,A0F,A2Y,l0,a6]);have a6:wd w 0=⟨#[116,104,105,115]⟩:=a2;simp -dsimp -implicitDefEqProofs[m,a9,n0,A0F,A2Y,l0,a6];refine A1p func175 y ?_;simp -dsimp -implicitDefEqProofs[a1,m,n0,A0F,A2Y,l1];refine A1p func246 (λM=>(af (wd w 1) M)) ?_;by_cases a3:0<kS (wd w 1)
   .rw[Z0w ⟨a1,a2,a3⟩]at z;subst z;simp -dsimp -implicitDefEqProofs[a3]
   .rw[Z0r (λh=>a3 h.2.2)]at z;subst z;simp -dsimp -implicitDefEqProofs[a3]
  rintro T M2 ⟨rfl,t0,t2,t4,t5,b9⟩;by_cases p1:1<w.length/\wd w 0=A3x/\0<kS (wd w 1)
  .rw[Z0w p1]at z;subst z;rw[Z0e p1]at d;(have m:(1:Int)<w.length:=by have:=p1.1;omega);have l1:=l1 p1.1;have a5:=a.set (k':=2) (p':=[]) (to':=⟨#[]⟩) (pv:=A0G) .nil (λf h=>by simp at h);have a8:M2.set (M.length+1) (.cells 110 [I 2,A0G,S ⟨#[]⟩,I 0,I 0])=M2.set (M.length+1) (A3G 2 A0G ⟨#[]⟩):=rfl;simp -dsimp -implicitDefEqProofs[t0,t2,t4,t5,b9,A0f an];rw[a8];generalize ak:M2.set (M.length+1) (A3G 2 A0G ⟨#[]⟩)=M3 at*;(have ah:M3[M.length+1]?=some (A3G 2 A0G ⟨#[]⟩):=by rw[<-ak];have:=a.lt;simp[this]);have ag:=a5.grow.get hm (by simp);have bq:=A3E ag hl p1.1;have ab:∀X,(M3.set (M.length+1) X)[f]?=M3[f]?:=λX=>Z0c (by omega);refine A3o hB (A0u gl) (λk=>if k=3 then 1 else if k=8 then 2 else 0) (λ_=>f) (λ_=>false) [f] (by intros;simp) (by rfl) (by kernel_rfl) ?_;simp -dsimp -implicitDefEqProofs[t0,t2,t4,t5];refine A1p func175 y ?_;simp -dsimp -implicitDefEqProofs[t0,t2,t4,t5,p1.1,m,A0F,A2Y,bq];refine A1p func246 (λM=>(af (wd w 1) M)) ?_;simp -dsimp -implicitDefEqProofs[t0,t2,t4,t5,B1r,A0l,A0M,A0f ah,ab];refine⟨2,rfl,2,[⟨kS (wd w 1),⟨#[]⟩⟩],?_,by omega,by simp,⟨by simp,λs hs=>?_⟩,?_⟩
   .exact a5.set (pv:=.list 2 [[I (kS (wd w 1)),S ⟨#[]⟩]] .full) (.inr (.inl rfl)) (λf h=>by simp at h)
   .simp only[Z0I]at hs;subst hs;simp[maxLen,ByteArray.size]
   .rw[ao,d]
  rw[Z0r p1]at z;subst z;rw[Z0d p1]at d;simp -dsimp -implicitDefEqProofs[t0,t2,t4,t5,b9];refine B9U (λT M1=>M1=M2/\T 0=.vref f g 1 0 w.length/\T 2=.ptr M.length 0/\T 4=.ptr (M.length+1) 0/\T 5=I 0/\T 55=B b2) ?_ ?_
  .refine A3o hB (A0u gl) (λk=>if k=6\/k=12\/k=19 then 1 else 0) (λ_=>f) (λ_=>false) [f] (by intros;simp) (by rfl) (by kernel_rfl) ?_;by_cases a1:2<w.length;case neg=>rw[Z0r (λh=>a1 h.1)]at n;subst n;(have m:¬(2:Int)<w.length:=by omega);simp -dsimp -implicitDefEqProofs[t0,t2,t4,t5,m]
   (have m:(2:Int)<w.length:=by omega);have a0:1<w.length:=by omega
   (have bk:(1:Int)<w.length:=by omega);have l1:=l1 a0
   have l2:=l2 a1;by_cases a2:wd w 0=A5F;(case neg=>rw[Z0r (λh=>a2 h.2.1)]at n;subst n;have a6:¬wd w 0=⟨#[116,104,101]⟩:=a2;simp -dsimp -implicitDefEqProofs[t0,t2,t4,t5,m,a9,n0,A0F,A2Y,l0,a6]);have a6:wd w 0=⟨#[116,104,101]⟩:=a2;by_cases a3:wd w 1=A7s;(case neg=>rw[Z0r (λh=>a3 h.2.2.1)]at n;subst n;have av:¬wd w 1=⟨#[115,97,105,100]⟩:=a3;simp -dsimp -implicitDefEqProofs[t0,t2,t4,t5,m,a0,bk,a9,n0,A0F,A2Y,l0,l1,a6,av]);have av:wd w 1=⟨#[115,97,105,100]⟩:=a3;simp -dsimp -implicitDefEqProofs[t0,t2,t4,t5,m,a0,bk,a9,n0,A0F,A2Y,l0,l1,a6,av];refine A1p func175 y ?_;simp -dsimp -implicitDefEqProofs[t0,a1,m,n0,A0F,A2Y,l2];refine A1p func246 (λM=>(af (wd w 2) M)) ?_;by_cases a4:0<kS (wd w 2)
   .rw[Z0w ⟨a1,a2,a3,a4⟩]at n;subst n;simp -dsimp -implicitDefEqProofs[t0,t2,t4,t5,a4]
   .rw[Z0r (λh=>a4 h.2.2.2)]at n;subst n;simp -dsimp -implicitDefEqProofs[t0,t2,t4,t5,a4]
  clear t0 t2 t4 t5 b9;rintro T M2 ⟨rfl,t0,t2,t4,t5,b5⟩;by_cases p2:2<w.length/\wd w 0=A5F/\wd w 1=A7s/\0<kS (wd w 2)
  .rw[Z0w p2]at n;subst n;rw[Z0e p2]at d;(have m:(2:Int)<w.length:=by have:=p2.1;omega);have a5:=a.set (k':=3) (p':=[]) (to':=⟨#[]⟩) (pv:=A0G) .nil (λf h=>by simp at h);have a8:M2.set (M.length+1) (.cells 110 [I 3,A0G,S ⟨#[]⟩,I 0,I 0])=M2.set (M.length+1) (A3G 3 A0G ⟨#[]⟩):=rfl;simp -dsimp -implicitDefEqProofs[t0,t2,t4,t5,b5,A0f an];rw[a8];generalize ak:M2.set (M.length+1) (A3G 3 A0G ⟨#[]⟩)=M3 at*;(have ah:M3[M.length+1]?=some (A3G 3 A0G ⟨#[]⟩):=by rw[<-ak];have:=a.lt;simp[this]);have ag:=a5.grow.get hm (by simp);have bn:=A3E ag hl p2.1;have ab:∀X,(M3.set (M.length+1) X)[f]?=M3[f]?:=λX=>Z0c (by omega);refine A3o hB (A0u gl) (λk=>if k=3 then 1 else if k=8 then 2 else 0) (λ_=>f) (λ_=>false) [f] (by intros;simp) (by rfl) (by kernel_rfl) ?_;simp -dsimp -implicitDefEqProofs[t0,t2,t4,t5];refine A1p func175 y ?_;simp -dsimp -implicitDefEqProofs[t0,t2,t4,t5,p2.1,m,A0F,A2Y,bn];refine A1p func246 (λM=>(af (wd w 2) M)) ?_;simp -dsimp -implicitDefEqProofs[t0,t2,t4,t5,B1r,A0l,A0M,A0f ah,ab];refine⟨3,rfl,3,[⟨kS (wd w 2),⟨#[]⟩⟩],?_,by omega,by simp,⟨by simp,λs hs=>?_⟩,?_⟩
   .exact a5.set (pv:=.list 2 [[I (kS (wd w 2)),S ⟨#[]⟩]] .full) (.inr (.inl rfl)) (λf h=>by simp at h)
   .simp only[Z0I]at hs;subst hs;simp[maxLen,ByteArray.size]
   .rw[ao,d]
  rw[Z0r p2]at n;subst n;rw[Z0d p2]at d;by_cases p3:wd w 0=A6z
  .rw[Z0e ⟨a9,p3⟩]at d;have ba:wd w 0=⟨#[102,111,114,109,101,114,108,121]⟩:=p3;simp -dsimp -implicitDefEqProofs[t0,t2,t4,t5,b5,n0,a9,l0,ba,A0f an];exact⟨1,rfl,4,[],a.set (pv:=A0G) .nil (λf h=>by simp at h),by omega,by simp,⟨by simp,by simp⟩,by rw[ao,d]⟩
  .rw[Z0d (λh=>p3 h.2)]at d;have ba:¬wd w 0=⟨#[102,111,114,109,101,114,108,121]⟩:=p3;simp -dsimp -implicitDefEqProofs[t0,t2,t4,t5,b5,n0,a9,l0,ba];exact⟨0,rfl,0,[],a,by omega,by simp,⟨by simp,by simp⟩,by rw[ao,d];rfl⟩
 clear an a ai M1 d z n
 rintro T M1 ⟨i,k,p,t0,t2,t4,t5,a,i1,pl,sp,hr⟩
 simp -dsimp -implicitDefEqProofs[-A4U]
 rw[A4U]
 have b8:=C5e k w i
 refine B1L (λT M2=>∃(i:Nat) (p:List A0w),T 0=.vref f g 1 0 w.length/\T 2=.ptr M.length 0/\T 4=.ptr (M.length+1) 0/\T 5=I i/\RdC M k p ⟨#[]⟩ M2/\i<=w.length/\p.length<=i/\A7b p/\A1G w=A7P (A2D k (p++(A2U (w.drop i)).1) (A2U (w.drop i)).2)) ?_ ?_
 .obtain⟨pv,hc,aa,l⟩:=a.c;have a7:=a.grow.get hm (by simp);have no:(¬k=2/\¬k=3/\i<w.length/\wd w i=A2O)->False\/True:=λ_=>.inr trivial;have ad:¬(¬k=2/\¬k=3/\i<w.length/\wd w i=A2O)->A1G w=A7P (A2D k (p++(A2U (w.drop i)).1) (A2U (w.drop i)).2):=λh=>by rw[hr,A1S,b8,Z0d h,Z1d]
  by_cases c2:k=2
  .simp -dsimp -implicitDefEqProofs[t0,t2,t4,t5,A0b hc,c2];subst c2;exact⟨i,rfl,p,a,i1,pl,sp,ad λh=>h.1 rfl⟩
  by_cases c3:k=3
  .simp -dsimp -implicitDefEqProofs[t0,t2,t4,t5,A0b hc,c2,c3];subst c3;exact⟨i,rfl,p,a,i1,pl,sp,ad λh=>h.2.1 rfl⟩
  by_cases hi:i<w.length;case neg=>
   (have u:¬(i:Int)<w.length:=by omega);simp -dsimp -implicitDefEqProofs[t0,t2,t4,t5,A0b hc,c2,c3,u]
   exact⟨i,rfl,p,a,i1,pl,sp,ad λh=>hi h.2.2.1⟩
  have u:(i:Int)<w.length:=by omega
  have li:=A3E a7 hl hi;by_cases c4:wd w i=A2O;case neg=>have ay:¬wd w i=⟨#[98,111,111,107]⟩:=c4;simp -dsimp -implicitDefEqProofs[t0,t2,t4,t5,A0b hc,c2,c3,hi,u,li,ay];exact⟨i,rfl,p,a,i1,pl,sp,ad λh=>c4 h.2.2.2⟩
  have ay:wd w i=⟨#[98,111,111,107]⟩:=c4;have w1:=A1H (i:=i) (by omega);simp -dsimp -implicitDefEqProofs[t0,t2,t4,t5,A0b hc,c2,c3,hi,u,li,ay,A0l,A0M];refine B1y (C:=WC gl) (enc:=A0w.row) (e:=159) (sz:=2) (news:=[A3n]) (o:=.full) B0J B4t B0T aa (by simp;omega) rfl rfl ?_;intro v' M2 k1 k2 k3;obtain⟨b6,a5⟩:=a.app hc k2 l k1 k3 (k':=k) (to':=⟨#[]⟩);have al:A0i (some 1) M2 (.ptr (M.length+1) 1) v'=some (M2.set (M.length+1) (A3G k v' ⟨#[]⟩)):=by rw[A0f b6,k1.cells,Z0e ⟨k1.store,by simp,rfl⟩];rfl
  simp -dsimp -implicitDefEqProofs[t0,t2,t4,t5,al,w1];refine⟨i+1,rfl,p++[A3n],a5,by clear w1;omega,by simp;clear w1;omega,⟨by simp;clear w1;omega,λs hs=>?_⟩,?_⟩
  .rcases Z0S.1 hs with h|h
   .exact sp.2 s h
   .simp only[Z0I]at h;subst h;simp[A3n,maxLen,ByteArray.size]
  .rw[hr,A1S,b8,Z0e ⟨c2,c3,hi,c4⟩]
 clear b8 hr sp pl i1 a t0 t2 t4 t5 p i M1 T
 rintro T M1 ⟨i,p,t0,t2,t4,t5,a,i1,pl,sp,hr⟩
 simp -dsimp -implicitDefEqProofs[t0,t2,t4,t5]
 refine A4B (.exit 0) (λT M2=>∃(i:Nat) (p:List A0w),T 0=.vref f g 1 0 w.length/\T 2=.ptr M.length 0/\T 4=.ptr (M.length+1) 0/\T 5=I i/\RdC M k p ⟨#[]⟩ M2/\i<=w.length/\p.length<=i/\A7b p/\A1G w=A7P (A2D k p (w.drop i))) ?_ ?_
 .refine A0B hB w.length 5 (λT M2=>∃(i:Nat) (p:List A0w),T 0=.vref f g 1 0 w.length/\T 2=.ptr M.length 0/\T 4=.ptr (M.length+1) 0/\T 5=I i/\RdC M k p ⟨#[]⟩ M2/\i<=w.length/\p.length<=i/\A7b p/\A1G w=A7P (A2D k (p++(A2U (w.drop i)).1) (A2U (w.drop i)).2)) ?_ ?_
  .exact⟨i,p,by simp[t0],by simp[t2],by simp[t4],by simp[t5],a,i1,pl,sp,hr⟩
  clear hr sp pl i1 a t0 t2 t4 t5 p i M1 T;rintro T M1 ⟨i,p,t0,t2,t4,t5,a,i1,pl,sp,hr⟩;have w1:=A1H (i:=i) (by omega);have a7:=a.grow.get hm (by simp);by_cases hi:i+1<w.length;case neg=>
   (have u:¬(i:Int)+1<w.length:=by omega);rw[C8V w i hi,Z1d]at hr
   simp -dsimp -implicitDefEqProofs;refine A3o hB (A0u gl) (λk=>if k=10 then 1 else 0) (λ_=>f) (λ_=>false) [f] (by intros;simp) (by rfl) (by kernel_rfl) ?_;simp -dsimp -implicitDefEqProofs[t0,t2,t4,t5,w1,u];exact⟨i,rfl,p,a,i1,pl,sp,hr⟩
  have u:(i:Int)+1<w.length:=by omega
  have j1:i<w.length:=by omega
  have ae:(i:Int)<w.length:=by omega
  have li:=A3E a7 hl j1;have lj:=A3E a7 hl hi;rw[D2k w i hi]at hr;simp -dsimp -implicitDefEqProofs;refine A3o hB (A0u gl) (λk=>if k=10 then 1 else 0) (λ_=>f) (λ_=>false) [f] (by intros;simp) (by rfl) (by kernel_rfl) ?_;simp -dsimp -implicitDefEqProofs[t0,t2,t4,t5,w1,u];refine A1p func175 y ?_;simp -dsimp -implicitDefEqProofs[t0,t2,t4,t5,j1,ae,A0F,A2Y,li];refine A1p func246 (λM=>(af (wd w i) M)) ?_;by_cases c:0<kS (wd w i);case neg=>rw[Z0d c,Z1d]at hr;simp -dsimp -implicitDefEqProofs[t0,t2,t4,t5,c];exact⟨i,rfl,p,a,i1,pl,sp,hr⟩
  rw[Z0e c]at hr;obtain⟨pv,hc,aa,l⟩:=a.c;have w2:IntKind.i64.wrap ((i:Int)+2)=(i+2:Nat):=by rw[A0L (by omega) (by omega)];omega
  obtain⟨s,hs⟩:=ex (⟨kS (wd w i),wd w (i+1)⟩:A0w);have ax:kS (wd w i)=s.k:=by rw[hs]
  have a8:wd w (i+1)=s.lab:=by rw[hs]
  rw[<-hs]at hr;rw[a8]at lj;have az:s.lab.size<=maxLen:=by rw[<-a8,<-B3I hi];exact au _ (Z0o hi)
  simp -dsimp -implicitDefEqProofs[t0,t2,t4,t5,c];refine A3o hB (A0u gl) (λk=>if k=1\/k=6\/k=12 then 1 else if k=15\/k=17 then 2 else 0) (λk=>if k=1 then M.length+1 else f) (λk=>k==1) [f] (by intro j _ h;have:j≠1:=(by simpa using h);simp[this]) (by rfl) (by kernel_rfl) ?_;simp -dsimp -implicitDefEqProofs[t0,t2,t4,t5,A0F,A2Y,A0b hc];refine A1p func175 y ?_;simp -dsimp -implicitDefEqProofs[t0,t2,t4,t5,j1,ae,A0F,A2Y,li];refine A1p func246 (λM=>(af (wd w i) M)) ?_;have p0:(0:Int)<=(i:Int)+1:=by omega
  simp -dsimp -implicitDefEqProofs[t0,t2,t4,t5,hi,u,p0,w1,A0F,A2Y,lj,ax,A0l,A0M];refine B1y (C:=WC gl) (enc:=A0w.row) (e:=159) (sz:=2) (news:=[s]) (o:=.full) B0J B4t B0T aa (by simp;omega) rfl rfl ?_;intro v' M2 k1 k2 k3;obtain⟨b6,a5⟩:=a.app hc k2 l k1 k3 (k':=k) (to':=⟨#[]⟩);have al:A0i (some 1) M2 (.ptr (M.length+1) 1) v'=some (M2.set (M.length+1) (A3G k v' ⟨#[]⟩)):=by rw[A0f b6,k1.cells,Z0e ⟨k1.store,by simp,rfl⟩];rfl
  have aw:M2[f]?=M1[f]?:=k2.2 f (by have:=a.grow.1;omega) (λe=>by have:=l _ e;omega);refine⟨by intro r hr;simp only[Z0I]at hr;subst hr;exact aw,?_⟩;have ab:∀X,(M2.set (M.length+1) X)[f]?=M2[f]?:=λX=>Z0c (by omega);simp -dsimp -implicitDefEqProofs[t0,t2,t4,t5,al,ab,w2];refine⟨⟨i+2,rfl,p++[s],a5,by clear w1 w2;omega,by simp;clear w1 w2;omega,⟨by simp;clear w1 w2;omega,λx hx=>?_⟩,?_⟩,by clear w1 w2;omega⟩
  .rcases Z0S.1 hx with h|h
   .exact sp.2 x h
   .simp only[Z0I]at h;subst h;exact az
  .rw[hr,Z0F];rfl
 clear hr sp pl i1 a t0 t2 t4 t5 p i M1 T
 rintro T M1 ⟨i,p,t0,t2,t4,t5,a,i1,pl,sp,hr⟩
 simp -dsimp -implicitDefEqProofs[-A4U]
 rw[A4U]
 rw[C3X k p w i i1]at hr
 obtain⟨b3,t⟩:∃b:Bool,b=decide (k=0/\i+4=w.length/\0<kP (wd w i)/\wd w (i+2)=toW):=⟨_,rfl⟩
 refine B1L (λT M2=>∃(i:Nat) (k:Int) (p:List A0w) (to:ByteArray),T 0=.vref f g 1 0 w.length/\T 2=.ptr M.length 0/\T 4=.ptr (M.length+1) 0/\T 5=I i/\RdC M k p to M2/\i<=w.length/\A7b p/\to.size<=maxLen/\A1G w=A7P ((k,p,to),w.drop i)) ?_ ?_
 .obtain⟨pv,hc,aa,l⟩:=a.c;have a7:=a.grow.get hm (by simp);have w4:IntKind.i64.wrap ((i:Int)+4)=(i+4:Nat):=by rw[A0L (by omega) (by omega)];omega
  have w2:IntKind.i64.wrap ((i:Int)+2)=(i+2:Nat):=by rw[A0L (by omega) (by omega)];omega
  simp -dsimp -implicitDefEqProofs;refine B9U (λT M2=>M2=M1/\T 0=.vref f g 1 0 w.length/\T 2=.ptr M.length 0/\T 4=.ptr (M.length+1) 0/\T 5=I i/\T 163=B b3) ?_ ?_
  .refine A3o hB (A0u gl) (λk=>if k=1\/k=15\/k=24 then 1 else 0) (λk=>if k=1 then M.length+1 else f) (λ_=>false) [M.length+1,f] (by intro j _ _;by_cases h:j=1<;>simp[h]) (by rfl) (by kernel_rfl) ?_;by_cases a1:k=0;(case neg=>rw[Z0r (λh=>a1 h.1)]at t;subst t;simp -dsimp -implicitDefEqProofs[t0,t2,t4,t5,A0F,A2Y,A0b hc,a1]);by_cases a2:i+4=w.length;case neg=>rw[Z0r (λh=>a2 h.2.1)]at t;subst t;(have a6:¬(i:Int)+4=w.length:=by omega);simp -dsimp -implicitDefEqProofs[t0,t2,t4,t5,A0F,A2Y,A0b hc,a1,w4,a6]
   (have a6:(i:Int)+4=w.length:=by omega);have j1:i<w.length:=by omega
   (have ae:(i:Int)<w.length:=by omega);have li:=A3E a7 hl j1
   have wl:IntKind.i64.wrap (w.length:Int)=w.length:=A0L (by omega) (by omega);simp -dsimp -implicitDefEqProofs[t0,t2,t4,t5,A0F,A2Y,A0b hc,a1,w4,a6,wl];refine A1p func173 (λM=>(B2l gl M)) ?_;simp -dsimp -implicitDefEqProofs[t0,t2,t4,t5,j1,ae,A0F,A2Y,li];refine A1p func246 (λM=>(bd (wd w i) M)) ?_;by_cases a3:0<kP (wd w i);case neg=>rw[Z0r (λh=>a3 h.2.2.1)]at t;subst t;simp -dsimp -implicitDefEqProofs[t0,t2,t4,t5,a3]
   (have j2:i+2<w.length:=by omega);have ap:(i:Int)+2<w.length:=by omega
   (have p0:(0:Int)<=(i:Int)+2:=by omega);have lj:=A3E a7 hl j2
   (have e2:((i:Int)+2).toNat=i+2:=by omega);by_cases a4:wd w (i+2)=toW
   .rw[Z0w ⟨a1,a2,a3,a4⟩]at t;subst t;have b4:wd w (i+2)=⟨#[116,111]⟩:=a4;simp -dsimp -implicitDefEqProofs[t0,t2,t4,t5,a3,w2,e2,j2,ap,p0,A0F,A2Y,lj,b4]
   .rw[Z0r (λh=>a4 h.2.2.2)]at t;subst t;have b4:¬wd w (i+2)=⟨#[116,111]⟩:=a4;simp -dsimp -implicitDefEqProofs[t0,t2,t4,t5,a3,w2,e2,j2,ap,p0,A0F,A2Y,lj,b4]
  clear t0 t2 t4 t5;rintro T M2 ⟨rfl,t0,t2,t4,t5,aq⟩;by_cases q:k=0/\i+4=w.length/\0<kP (wd w i)/\wd w (i+2)=toW;case neg=>rw[Z0r q]at t;subst t;rw[Z0d q]at hr;simp -dsimp -implicitDefEqProofs[t0,t2,t4,t5,aq];exact⟨i,rfl,k,p,⟨#[]⟩,a,i1,sp,by simp[maxLen,ByteArray.size],hr⟩
  rw[Z0w q]at t;subst t;rw[Z0e q]at hr;obtain⟨q1,q2,q3,q4⟩:=q;have a5:=a.set (k':=1) (p':=p) (to':=⟨#[]⟩) aa l;have bg:A5r 2 A0w.row (M2.set (M.length+1) (A3G 1 pv ⟨#[]⟩)) pv p:=aa.keep (A0c.set _ _ _) (λf e h=>by have:=l f e;simp at h;omega);have a8:M2.set (M.length+1) (.cells 110 [I 1,pv,S ⟨#[]⟩,I 0,I 0])=M2.set (M.length+1) (A3G 1 pv ⟨#[]⟩):=rfl;simp -dsimp -implicitDefEqProofs[t0,t2,t4,t5,aq,A0f hc];rw[a8];generalize ak:M2.set (M.length+1) (A3G 1 pv ⟨#[]⟩)=M3 at*;have ah:M3[M.length+1]?=some (A3G 1 pv ⟨#[]⟩):=by rw[<-ak];have:=a.lt;simp[this]
  have ag:=a5.grow.get hm (by simp);have j1:i<w.length:=by omega
  have ae:(i:Int)<w.length:=by omega
  have j2:i+1<w.length:=by omega
  have ap:(i:Int)+1<w.length:=by omega
  have p0:(0:Int)<=(i:Int)+1:=by omega
  have w1:=A1H (i:=i) (by omega);have li:=A3E ag hl j1;have lj:=A3E ag hl j2;obtain⟨s,hs⟩:=ex (⟨kP (wd w i),wd w (i+1)⟩:A0w);have ax:kP (wd w i)=s.k:=by rw[hs]
  have a8:wd w (i+1)=s.lab:=by rw[hs]
  rw[<-hs]at hr;rw[a8]at lj;have az:s.lab.size<=maxLen:=by rw[<-a8,<-B3I j2];exact au _ (Z0o j2)
  refine A3o hB (A0u gl) (λk=>if k=1\/k=6\/k=12 then 1 else if k=15\/k=17 then 2 else 0) (λk=>if k=1 then M.length+1 else f) (λk=>k==1) [f] (by intro j _ h;have:j≠1:=(by simpa using h);simp[this]) (by rfl) (by kernel_rfl) ?_;simp -dsimp -implicitDefEqProofs[t0,t2,t4,t5,A0F,A2Y,A0b ah];refine A1p func173 (λM=>(B2l gl M)) ?_;simp -dsimp -implicitDefEqProofs[t0,t2,t4,t5,j1,ae,A0F,A2Y,li];refine A1p func246 (λM=>(bd (wd w i) M)) ?_;simp -dsimp -implicitDefEqProofs[t0,t2,t4,t5,j2,ap,p0,w1,A0F,A2Y,lj,ax,A0l,A0M];refine B1y (C:=WC gl) (enc:=A0w.row) (e:=159) (sz:=2) (news:=[s]) (o:=.full) B0J B4t B0T bg (by simp;omega) rfl rfl ?_;intro v' M4 k1 k2 k3;obtain⟨bi,b0⟩:=a5.app ah k2 l k1 k3 (k':=1) (to':=⟨#[]⟩);have al:A0i (some 1) M4 (.ptr (M.length+1) 1) v'=some (M4.set (M.length+1) (A3G 1 v' ⟨#[]⟩)):=by rw[A0f bi,k1.cells,Z0e ⟨k1.store,by simp,rfl⟩];rfl
  have aw:M4[f]?=M3[f]?:=k2.2 f (by have:=a5.grow.1;omega) (λe=>by have:=l _ e;omega);refine⟨by intro r hr;simp only[Z0I]at hr;subst hr;exact aw,?_⟩;have ab:∀X,(M4.set (M.length+1) X)[f]?=M4[f]?:=λX=>Z0c (by omega);generalize bj:M4.set (M.length+1) (A3G 1 v' ⟨#[]⟩)=M5 at*;have be:M.length+1<M4.length:=(Z0a.1 bi).1;have bf:M5[M.length+1]?=some (A3G 1 v' ⟨#[]⟩):=by rw[<-bj];simp[be]
  have bh:M5[f]?=M4[f]?:=by rw[<-bj];exact ab _
  have bo:=b0.grow.get hm (by simp);have j3:i+3<w.length:=by omega
  have bm:(i:Int)+3<w.length:=by omega
  have p3:(0:Int)<=(i:Int)+3:=by omega
  have w3:IntKind.i64.wrap ((i:Int)+3)=(i+3:Nat):=by rw[A0L (by omega) (by omega)];omega
  have lk:=A3E bo hl j3;have e3:((i:Int)+3).toNat=i+3:=by omega
  have br:(wd w (i+3)).size<=maxLen:=by rw[<-B3I j3];exact au _ (Z0o j3)
  have h5:A5r 2 A0w.row M5 v' (p++[s])/\∀f,A4Y v'=some f->M.length+2<=f:=by obtain⟨bs,e1,e2,e3⟩:=b0.c;rw[bf]at e1;simp only[Z0b,A0m.cells.injEq,Z1a,Z2u,Z1D]at e1;subst e1;exact⟨e2,e3⟩
  have bp:=b0.set (k':=1) (p':=p++[s]) (to':=wd w (i+3)) h5.1 h5.2;simp -dsimp -implicitDefEqProofs[t0,t2,t4,t5,al,bh,w3,w4,e3,j3,bm,p3,lk,A0f bf];refine⟨i+4,rfl,1,p++[s],wd w (i+3),bp,by clear w1 w2 w3 w4;omega,⟨by simp;clear w1 w2 w3 w4;omega,λx hx=>?_⟩,br,?_⟩
  .rcases Z0S.1 hx with h|h
   .exact sp.2 x h
   .simp only[Z0I]at h;subst h;exact az
  .rw[hr,q2,List.drop_length]
 clear hr t sp pl i1 a t0 t2 t4 t5 p i k M1 T
 rintro T M1 ⟨i,k,p,to,t0,t2,t4,t5,a,i1,sp,tl,hr⟩
 obtain⟨pv,hc,aa,l⟩:=a.c
 have aj:=a.res
 have am:M.length<M1.length:=by have:=a.lt;omega
 have b7:∀X,Grow M (M1.set M.length X):=λX=>⟨by have:=a.grow.1;simpa using this,λj hj _=>by rw[Z0c (by omega)];exact a.grow.2 j hj (by simp)⟩
 have a7:=a.grow.get hm (by simp)
 have ac:∀M2,Still M2 M.length (bdd M.length) [.tuple [.agg [I 0,A0G,S ⟨#[]⟩,I 0,I 0],B false]] [.tuple [.agg (C1w none 0 0),B false]]:=λM2=>.tuple (.agg (.same trivial (.nilS (.same trivial (.same trivial (.same trivial .nil))))) (.same trivial .nil)) .nil
 by_cases hi:i=w.length
 case neg=>
  have u:¬(i:Int)=w.length:=by omega
  have hn:A1G w=none:=by rw[hr,A7P,Z0d];intro h;exact hi ((B4q i1).1 h.1)
  rw[hn];simp -dsimp -implicitDefEqProofs[t0,t2,t4,t5,u,B5C,A0f aj,A0s am];exact⟨b7 _,ac _⟩
 have u:(i:Int)=w.length:=by omega
 have hd:w.drop i=[]:=(B4q i1).2 hi
 have bc:A0e (WC gl) 120 [.agg [I k,pv,S to,I 0,I 0]] M1 (λv M'=>v=B (A2M k p to)/\M'=M1):=by
  rcases aa with⟨rfl,rfl⟩|rfl|⟨q,rfl,_⟩
  .rw[C3s];exact C9X gl k to 0 0 M1
  .exact C5L gl k p .full to 0 0 M1 sp tl
  .exact C5L gl k p (.fam q) to 0 0 M1 sp tl
 simp -dsimp -implicitDefEqProofs[t0,t2,t4,t5,u,A0b hc]
 refine A0h func120 bc ?_
 cases hmc:A2M k p to with
 |false=>
  have hn:A1G w=none:=by rw[hr,A7P,Z0d];intro h;rw[hmc]at h;exact absurd h.2 (by simp)
  rw[hn]
  simp -dsimp -implicitDefEqProofs[t0,t2,t4,t5,B5C,A0f aj,A0s am]
  exact⟨b7 _,ac _⟩
 |true=>
  have hn:A1G w=some (k,p,to):=by rw[hr,A7P,Z0e ⟨hd,hmc⟩]
  rw[hn]
  have bb:A5r 2 A0w.row (M1.set M.length (.cells 110 [I k,pv,S to,I 0,I 0])) pv p:=aa.keep (A0c.set _ _ _) (λf e h=>by have:=l f e;simp at h;omega)
  simp -dsimp -implicitDefEqProofs[t0,t2,t4,t5,A0b hc,A0f aj,A0s am]
  exact⟨b7 _,.tuple (.agg (.same trivial (A5r.data bb (A9O _ _) (.same trivial (.same trivial (.same trivial .nil))))) (.same trivial .nil)) .nil⟩
end
end Go.Abs
