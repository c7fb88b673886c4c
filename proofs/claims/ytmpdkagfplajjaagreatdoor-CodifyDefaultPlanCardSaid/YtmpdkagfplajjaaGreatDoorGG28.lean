/- The texts CyE, CyF, CyG, CyH, CsP, CsQ, CsR, CsT, CsU, CsV, CsW. -/
import Derived.Test.YtmpdkagfplajjaaGreatDoorGG24
import Derived.Laws.RangeAny
import Derived.Laws.RangeString
set_option linter.all false
set_option maxRecDepth 100000
namespace Go.Abs
open Go.Proofs TryTypes Tryz
def A1P(p:Int->Bool)(s:ByteArray):Nat->Nat->Int
 |0,_=>-1
 |n+1,i=>if p (A0L s i)then i else A1P p s n (i+1)
def A1j(lo hi:Int)(c:Int):Bool:=decide (c<lo)||decide (c>hi)
def B0W(s:ByteArray)(i:Nat)(h:i<s.size):A0L s i=((s[i]'h).toNat:Int):=by have h':i<s.data.size:=h;simp only[A0L,Z3S,Z0R h',Z1y];rfl
def C9m{lo hi}(a:0<lo)(b:hi<128)(s:ByteArray)(pos:Nat)(hp:pos<s.size):A1j lo hi ((Utf8.decode s pos).1:Int)=A1j lo hi (A0L s pos)/\(A1j lo hi (A0L s pos)=false->(Utf8.decode s pos).2=1):=by
 rw[B0W s pos hp]
 by_cases ha:(s[pos]'hp).toNat<128
 .rw[decode_ascii s pos hp ha];exact⟨rfl,λ_=>rfl⟩
 .have:=decode_high s pos hp (by omega);have e1:A1j lo hi ((Utf8.decode s pos).1:Int)=true:=by(have:((Utf8.decode s pos).1:Int)>hi:=by omega);simp[A1j,this]
  have e2:A1j lo hi ((s[pos]'hp).toNat:Int)=true:=by(have:((s[pos]'hp).toNat:Int)>hi:=by omega);simp[A1j,this]
  rw[e1,e2];exact⟨rfl,λe=>by simp at e⟩
section
variable (gl:Nat->AV) (M:Mem)
def E1t(c:Int):A0c (WC gl) 211 [.val (.int .i32 c)] M (λv M'=>v=B (A1j 48 57 c)/\M'=M):=by
 refine A0o hB func211 ?_;by_cases h1:c<48
 .simp -dsimp -implicitDefEqProofs[A1j,h1]
 .simp -dsimp -implicitDefEqProofs[A1j,h1]
def E0Y(c:Int):A0c (WC gl) 162 [.val (.int .i32 c)] M (λv M'=>v=B (A1j 65 90 c)/\M'=M):=by
 refine A0o hB func162 ?_;by_cases h1:c<65
 .simp -dsimp -implicitDefEqProofs[A1j,h1]
 .simp -dsimp -implicitDefEqProofs[A1j,h1]
def C3W(g:FuncId)(lo hi:Int)(f:0<lo)(e:hi<128)(s:ByteArray)(hg:∀M c,A4A (WC gl) g [.val (.int .i32 c)] M (λv M'=>v=B (A1j lo hi c)/\M'=M)):
 A0c (WC gl) 264 [S s,.func (.func g) [] [],B true] M (λv M'=>v=I (A1P (A1j lo hi) s s.size 0)/\Grow M M'):=by
 refine A0o hB func264 ?_
 simp -dsimp -implicitDefEqProofs[A7X]
 refine A1R hB (λT M1=>∃pos,pos<=s.size/\M1=M++[.siter s pos]/\T 1=.func (.func g) [] []/\T 2=B true/\T 10=.ptr M.length 0/\A1P (A1j lo hi) s s.size 0=A1P (A1j lo hi) s (s.size-pos) pos) (λT M1=>match M1[M.length]? with|some (.siter _ pos)=>s.size-pos|_=>0) (by kernel_rfl) ?_ ?_
 .refine⟨0,?_⟩;simp -dsimp -implicitDefEqProofs
 .rintro T M1 ⟨pos,h1,rfl,h2,h3,h4,h5⟩;by_cases hp:pos<s.size
  ·(have hn:A7e (.ptr M.length 0) (M++[.siter s pos])=some (.tuple [.val (.bool true),.val (goInt pos),.val (.int .i32 (Utf8.decode s pos).1)],M++[.siter s (pos+(Utf8.decode s pos).2)]):=by simp[A7e,hp]);have b:A1P (A1j lo hi) s (s.size-pos) pos=if A1j lo hi (A0L s pos)then(pos:Int)else A1P (A1j lo hi) s (s.size-(pos+1)) (pos+1):=by(have:s.size-pos=(s.size-(pos+1))+1:=by omega);rw[this];rfl
   obtain⟨a,d⟩:=C9m f e s pos hp;have h:((Utf8.decode s pos).1:Int)=((Utf8.decode s pos).1:Nat):=rfl;simp -dsimp -implicitDefEqProofs[h2,h3,h4,hn];refine A1l (hg _ _) ?_;rintro r M' ⟨rfl,rfl⟩;cases hb:A1j lo hi ((Utf8.decode s pos).1:Int)
   .rw[a]at hb;have hd:=d hb;simp -dsimp -implicitDefEqProofs[h2,h3,h4,hd];refine⟨⟨pos+1,by omega,rfl,by rw[h5,b,hb];rfl⟩,?_⟩;omega
   .rw[a]at hb;simp -dsimp -implicitDefEqProofs[h2,h3,h4];refine⟨?_,.app _ _ _⟩;rw[h5,b,hb];rfl
  ·(have hn:A7e (.ptr M.length 0) (M++[.siter s pos])=some (.tuple [.val (.bool false)],M++[.siter s pos]):=by simp[A7e,hp]);simp -dsimp -implicitDefEqProofs[h2,h3,h4,hn]
   refine⟨?_,.app _ _ _⟩;rw[h5,show s.size-pos=0 by omega];rfl
def B5p(g:FuncId)(lo hi:Int)(a:0<lo)(b:hi<128)(s:ByteArray)(hg:∀M c,A4A (WC gl) g [.val (.int .i32 c)] M (λv M'=>v=B (A1j lo hi c)/\M'=M)):
 A0c (WC gl) 210 [S s,.func (.func g) [] []] M (λv M'=>v=I (A1P (A1j lo hi) s s.size 0)/\Grow M M'):=by
 refine A0o hB func210 ?_
 simp -dsimp -implicitDefEqProofs
 refine A0s func264 (C3W gl M g lo hi a b s hg) ?_
 rintro r M' ⟨rfl,d⟩
 simp -dsimp -implicitDefEqProofs[d]
def B7C(g:FuncId)(lo hi:Int)(a:0<lo)(b:hi<128)(s:ByteArray)(hg:∀M c,A4A (WC gl) g [.val (.int .i32 c)] M (λv M'=>v=B (A1j lo hi c)/\M'=M)):
 A0c (WC gl) 163 [S s,.func (.func g) [] []] M (λv M'=>v=B (decide (0<=A1P (A1j lo hi) s s.size 0))/\Grow M M'):=by
 refine A0o hB func163 ?_
 simp -dsimp -implicitDefEqProofs
 refine A0s func210 (B5p gl M g lo hi a b s hg) ?_
 rintro r M' ⟨rfl,d⟩
 simp -dsimp -implicitDefEqProofs[d]
def B2b(p:Int->Bool)(s:ByteArray):∀n i,A1P p s n i=-1\/((i:Int)<=A1P p s n i/\A1P p s n i<i+n)
 |0,i=>.inl rfl
 |n+1,i=>by
  simp only[A1P];split
  .right;omega
  .rcases B2b p s n (i+1)with h|h
   .exact .inl h
   .right;push_cast at h;omega
def A0Z(s:ByteArray):Nat:=let k:=A1P (A1j 48 57) s s.size 0;if k<0 then s.size else k.toNat
def C2L(s:ByteArray):A0c (WC gl) 161 [S s] M (λv M'=>v=.tuple [S (s.extract 0 (A0Z s)),S (s.extract (A0Z s) s.size)]/\Grow M M'):=by
 refine A0o hB func161 ?_;simp -dsimp -implicitDefEqProofs;refine A0s func210 (B5p gl M 211 48 57 (by decide) (by decide) s λM c=>A0V func211 rfl rfl (E1t gl M c)) ?_;rintro r M' ⟨rfl,a⟩;have hr:=B2b (A1j 48 57) s s.size 0;generalize hk:A1P (A1j 48 57) s s.size 0=k at hr;by_cases h0:k<0
 .have hd:A0Z s=s.size:=by simp[A0Z,hk,h0]
  simp -dsimp -implicitDefEqProofs[h0,a,hd];rfl
 .have hd:A0Z s=k.toNat:=by simp[A0Z,hk,h0]
  have h1:0<=k:=by omega
  have h2:k<=s.size:=by omega
  simp -dsimp -implicitDefEqProofs[h0];refine A0X hB (A0t gl) (λ_=>0) (λ_=>0) (by rfl) (by kernel_rfl) ?_;simp -dsimp -implicitDefEqProofs[a,hd,h1,h2]
def A5Y(s:ByteArray):A0Z s<=s.size:=by have hr:=B2b (A1j 48 57) s s.size 0;simp only[A0Z];split<;>omega
def A8Y(p:Int->Bool)(s:ByteArray)(d:Nat):∀n i,d+i+n<=s.size->(A1P p (s.extract d s.size) n i<0<->A1P p s n (d+i)<0)
 |0,i,h=>by simp[A1P]
 |n+1,i,h=>by
  simp only[A1P];rw[A4b (by omega) (by omega)];split
  .constructor<;>intro h<;>omega
  .exact A8Y p s d n (i+1) (by omega)
def A0B(s:ByteArray):Bool:=decide (1<=A0Z s)&&decide (A0Z s<=4)&&!decide (A0L s 0=48)&&decide (s.size-A0Z s<=3)&&decide (A1P (A1j 65 90) s (s.size-A0Z s) (A0Z s)<0)
def A6C(s:ByteArray):A0c (WC gl) 112 [S s] M (λv M'=>v=B (A0B s)/\Grow M M'):=by
 refine A0o hB func112 ?_;simp -dsimp -implicitDefEqProofs;refine A0s func161 (C2L gl M s) ?_;rintro r M' ⟨rfl,b⟩;have l:=A5Y s;have a:(s.extract 0 (A0Z s)).size=A0Z s:=by simp;omega
 have f:(s.extract (A0Z s) s.size).size=s.size-A0Z s:=by simp
 have e:1<=A0Z s->A0L (s.extract 0 (A0Z s)) 0=A0L s 0:=λh=>by rw[A4b (by omega) l]
 generalize hd:A0Z s=d at*;by_cases c1:1<=d;case neg=>
  have:¬(1:Int)<=d:=by omega
  simp -dsimp -implicitDefEqProofs[a,this,A0B,hd,c1,b]
 have i1:(1:Int)<=d:=by omega
 have e:=e c1;by_cases c2:d<=4;case neg=>
  have:¬(d:Int)<=4:=by omega
  simp -dsimp -implicitDefEqProofs[a,this,A0B,hd,c1,i1,c2,b]
 have i2:(d:Int)<=4:=by omega
 have g:0<d:=c1;by_cases c3:A0L s 0=48
 .simp -dsimp -implicitDefEqProofs[a,A0B,hd,c1,i1,c2,i2,c3,e,g,b]
 by_cases c4:s.size-d<=3;case neg=>
  have:¬((s.size-d:Nat):Int)<=3:=by omega
  have k:¬s.size<=3+d:=by omega
  simp -dsimp -implicitDefEqProofs[a,f,A0B,hd,c1,i1,c2,i2,c3,e,g,this,c4,k,b]
 have i4:((s.size-d:Nat):Int)<=3:=by omega
 simp -dsimp -implicitDefEqProofs[a,f,A0B,hd,c1,i1,c2,i2,c3,e,g,i4,c4,b];refine A0s func163 (B7C gl M' 162 65 90 (by decide) (by decide) _ λM c=>A0V func162 rfl rfl (E0Y gl M c)) ?_;rintro r M2 ⟨rfl,i⟩;have j:Grow M M2:=A0d.trans b i;have hx:=A8Y (A1j 65 90) s d (s.size-d) 0 (by omega);rw[f];by_cases c5:0<=A1P (A1j 65 90) (s.extract d s.size) (s.size-d) 0
 .have:¬A1P (A1j 65 90) s (s.size-d) d<0:=λh=>by have:=hx.2 (by simpa using h);omega
  simp -dsimp -implicitDefEqProofs[c5,A0B,hd,c1,c2,c3,c4,this,j]
 .have:A1P (A1j 65 90) s (s.size-d) d<0:=by have:=hx.1 (by omega);simpa using this
  simp -dsimp -implicitDefEqProofs[c5,A0B,hd,c1,c2,c3,c4,this,j]
end
abbrev A0M.v(s:A0M):AV:=.agg s.row
def A1T(p:List A0M):List (List AV):=p.map A0M.row
@[simp] def E1L(p:List A0M):(A1T p).length=p.length:=by simp[A1T]
@[simp] def E9C{k j}{a b}:A1z prog .eql 159 (.agg [I k,S a]) (.agg [I j,S b])=some (B (decide (k=j)&&decide (a=b))):=by
 have h1:prog.eqGuardType prog.depth 159=false:=by kernel_rfl
 have h2:prog.stoodInHeld 159=false:=by kernel_rfl
 simp[A1z,A2O,A4s,A3I,A3F,h1,A8a,h2,A2N];by_cases c1:k=j
 .by_cases c2:a=b
  .simp[c1,c2]
  .have:¬a.data=b.data:=λe=>c2 (by cases a;cases b;simpa using e);(have e:(a.data==b.data)=false:=by simpa using this);rw[e];simp[c1,c2]
 .have e:(k==j)=false:=by simpa using c1
  rw[e];simp[c1]
def C1c{x}:A0w prog 159 [(0,I x)]=some (.agg [I x,S ⟨#[]⟩]):=by simp[A0w,A1e,A1r,A0e]
section
variable (gl:Nat->AV) (M:Mem)
def A5U(s:A0M):Bool:=decide (s.k=0)&&decide (s.lab=⟨#[]⟩)
def D0G(s:A0M):A0c (WC gl) 214 [s.v] M (λv M'=>v=B (A5U s)/\M'=M):=by refine A0o hB func214 ?_;simp -dsimp -implicitDefEqProofs[A0M.row,A5U,C1c]
def A2b(s:A0M):Bool:=decide (1<=s.k)&&decide (s.k<=7)&&A0B s.lab
def C5W(s:A0M):A0c (WC gl) 217 [s.v] M (λv M'=>v=B (A2b s)/\Grow M M'):=by
 refine A0o hB func217 ?_;by_cases c1:1<=s.k;case neg=>simp -dsimp -implicitDefEqProofs[A0M.row,A2b,c1,Grow,A0d.refl]
 by_cases c2:s.k<=7;case neg=>simp -dsimp -implicitDefEqProofs[A0M.row,A2b,c1,c2,Grow,A0d.refl]
 simp -dsimp -implicitDefEqProofs[A0M.row,A2b,c1,c2];refine A0s func112 (A6C gl M s.lab) ?_;rintro r M' ⟨rfl,a⟩;simp -dsimp -implicitDefEqProofs[A2b,c1,c2,a]
def D1y(s:A0M):A0c (WC gl) 216 [s.v] M (λv M'=>v=B (!A2b s)/\Grow M M'):=by refine A0o hB func216 ?_;simp -dsimp -implicitDefEqProofs[A0M.row];refine A0s func217 (C5W gl M s) ?_;rintro r M' ⟨rfl,a⟩;simp -dsimp -implicitDefEqProofs[a]
end
def Grow.refl(M:Mem):Grow M M:=A0d.refl _ _
def Grow.trans{A B C}(h1:Grow A B)(h2:Grow B C):Grow A C:=A0d.trans h1 h2
@[simp] def E2E{p}{i}(h:i<(A1T p).length):(A1T p)[i]=[I (p[i]'(by simpa using h)).k,S (p[i]'(by simpa using h)).lab]:=by simp[A1T,A0M.row]
def B3l{p:List A0M}{f:A0M->Bool}{i:Nat}(h:i<p.length)(ha:(p.take i).all f=true)(hf:f (p[i])=true):(p.take (i+1)).all f=true:=by rw[Z0D h,List.all_append,ha];simp[hf]
section
variable (gl:Nat->AV) (M:Mem)
def C4b(p:List A0M)(o:Own)(c:p.length<=1000000):A0c (WC gl) 270 [.list 2 (A1T p) o,.func (.func 216) [] []] M (λv M'=>(∃r,v=I r/\decide (0<=r)=p.any (λs=>!A2b s))/\Grow M M'):=by
 refine A0o hB func270 ?_;simp -dsimp -implicitDefEqProofs;refine A0y hB p.length 8 (λT M1=>∃i:Nat,i<=p.length/\Grow M M1/\T 0=.list 2 (A1T p) o/\T 1=.func (.func 216) [] []/\T 7=I p.length/\T 8=I i/\(p.take i).all A2b=true) ?_ ?_
 .refine⟨0,?_⟩;simp -dsimp -implicitDefEqProofs[Grow.refl]
 .rintro T M1 ⟨i,h1,h2,h3,h4,h5,h6,h7⟩;by_cases hi:i<p.length
  ·(have a:(i:Int)<p.length:=by omega);have hw:IntKind.i64.wrap ((i:Int)+1)=(i+1:Nat):=by rw[A0J (by omega) (by omega)];omega
   simp -dsimp -implicitDefEqProofs[h3,h4,h5,h6,hi,a];refine A0s func216 (D1y gl M1 p[i]) ?_;rintro r M' ⟨rfl,b⟩;have hg:=h2.trans b;cases hb:A2b p[i]
   .simp -dsimp -implicitDefEqProofs[h3,h4,h5,h6];refine⟨?_,hg⟩;exact⟨p[i],Z0q hi,hb⟩
   .simp -dsimp -implicitDefEqProofs[h3,h4,h5,h6,hw,hg];refine⟨⟨i+1,?_⟩,?_⟩
    .have:=B3l hi h7 hb;simp only[Z0u]at this|-;exact⟨by clear hw;omega,by simp,this⟩
    .clear hw;omega
  ·(have a:¬(i:Int)<p.length:=by omega);rw[Z0k (by omega),Z0u]at h7
   simp -dsimp -implicitDefEqProofs[h3,h4,h5,h6,a];exact⟨h7,h2⟩
def B1u(p:List A0M)(o:Own)(a:p.length<=1000000):A0c (WC gl) 215 [.list 2 (A1T p) o,.func (.func 216) [] []] M (λv M'=>v=B (p.any (λs=>!A2b s))/\Grow M M'):=by refine A0o hB func215 ?_;simp -dsimp -implicitDefEqProofs;refine A0s func270 (C4b gl M p o a) ?_;rintro r M' ⟨⟨r,rfl,hr⟩,b⟩;simp -dsimp -implicitDefEqProofs[b,hr]
def B5l(p:List A0M):List A0M:=match p with
 |[]=>[]
 |s::p'=>if A5U s then p' else s::p'
def A4I(p:List A0M):Bool:=decide (0<(B5l p).length)&&(B5l p).all A2b
def C4D{p:List A0M}:(!p.any (λs=>!A2b s))=p.all A2b:=by
 induction p with
 |nil=>rfl
 |cons a p ih=>simp only[Z2C,Z1D,Bool.not_or,Bool.not_not,ih]
def B4L(p:List A0M)(o:Own)(a:p.length<=1000000):A0c (WC gl) 166 [.list 2 (A1T p) o] M (λv M'=>v=B (A4I p)/\Grow M M'):=by
 refine A0o hB func166 ?_;cases p with
 |nil=>simp -dsimp -implicitDefEqProofs[A1T,A4I,B5l,Grow.refl]
 |cons s p'=>
  simp only[Z0x]at a;simp -dsimp -implicitDefEqProofs[A1T,A0M.row];refine A0s func214 (D0G gl M s) ?_;rintro r M' ⟨rfl,rfl⟩;cases hb:A5U s
  .simp -dsimp -implicitDefEqProofs;refine A0s func215 (B1u gl M' (s::p') o (by simpa using a)) ?_;rintro r M2 ⟨rfl,b⟩;(have e:(s::p').all A2b=A4I (s::p'):=by simp[A4I,B5l,hb]);rw[<-e,<-C4D];simp -dsimp -implicitDefEqProofs[b]
  ·(have i1:(1:Int)<=p'.length+1:=by omega);by_cases c:0<p'.length
   ·(have e:p'.all A2b=A4I (s::p'):=by simp[A4I,B5l,hb,c]);rw[<-e,<-C4D]
    simp -dsimp -implicitDefEqProofs[i1,c];refine A0s func215 (B1u gl M' p' _ (by omega)) ?_;rintro r M2 ⟨rfl,b⟩;simp -dsimp -implicitDefEqProofs[b]
   ·(have e:A4I (s::p')=false:=by simp[A4I,B5l,hb,c]);simp -dsimp -implicitDefEqProofs[i1,c,e,Grow.refl]
end
abbrev D9g(p:List A0M)(o:Own):AV:=.agg [I 0,.list 2 (A1T p) o,S ⟨#[]⟩,I 0,I 0]
def B1P(p:List A0M):Bool:=decide (p.length<=9)&&A4I p
def A1M:List ByteArray:=[⟨#[]⟩,⟨#[112,97,114,116]⟩,⟨#[115,101,99,116,105,111,110]⟩,⟨#[112,97,114,97,103,114,97,112,104]⟩,⟨#[116,97,98,108,101]⟩,⟨#[114,111,119]⟩,⟨#[99,101,108,108]⟩,⟨#[110,111,116,101]⟩]
def A3B:ByteArray:=⟨#[98,111,111,107]⟩
def A5A(s:A0M):List ByteArray:=if A5U s then[A3B]else[A1M.getD s.k.toNat ⟨#[]⟩,s.lab]
def A9d(p:List A0M):List ByteArray:=p.flatMap A5A
def hT:A2r:=⟨λ_=>true,λ_=>false,λd=>d==27||d==39||d==21⟩
@[simp] def E7f:hT.own=λ_=>false:=rfl
@[simp] def E7n:hT.vec=λd=>d==27||d==39||d==21:=rfl
def A8k(s:A0M):Bool:=A5U s||A2b s
def D5b{s}(h:A0B s=true):¬s=⟨#[]⟩:=by rintro rfl;revert h;decide+kernel
def B0S{M M1 M' X}{l news}{out v'}(h:A4B M l out M1)(h1:A5H 9 M' v' (l.map S++news.map S))(h2:A0d (obj out) (M1++X) M')(h3:obj v'=obj out\/A1g (M1++X).length v'):A4B M (l++news) v' M':=by
 refine⟨by simpa using h1,⟨?_,λi hi _=>?_⟩,?_⟩
 .have a:=h.2.1.1;have b:=h2.1;simp at b;omega
 .have hl:=h.2.1.1;rw[h2.2 i (by simp;omega) λe=>by have:=h.2.2 i e;omega,Z0h (by omega)];exact h.2.1.2 i hi (by simp)
 .intro f hf;rcases h3 with e|e
  .exact h.2.2 f (by rw[<-e];exact hf)
  .have a:=h.2.1.1;have b:=e f hf;simp at b;omega
def B8j{p:List A0M}{i:Nat}(h:i<p.length):A9d (p.take (i+1))=A9d (p.take i)++A5A p[i]:=by rw[Z0D h,A9d,A9d,Z1r];simp
def C1p(s:A0M):(A5A s).length<=2:=by unfold A5A;split<;>simp
def C1J(p:List A0M):(A9d p).length<=2*p.length:=by
 induction p with
 |nil=>simp[A9d]
 |cons a p ih=>have:=C1p a;simp only[A9d,Z0W,Z0r,Z0x]at*;omega
section
variable (gl:Nat->AV) (M:Mem)
def C4k(p:List A0M)(o:Own)(a:p.length<=1000000):A0c (WC gl) 116 [D9g p o] M (λv M'=>v=B (B1P p)/\Grow M M'):=by
 refine A0o hB func116 ?_;by_cases c:p.length<=9
 .have i1:¬(p.length:Int)>9:=by omega
  have i2:¬(9:Int)<p.length:=by omega
  simp -dsimp -implicitDefEqProofs[i1,i2];refine A0s func166 (B4L gl M p o a) ?_;rintro r M2 ⟨rfl,b⟩;simp -dsimp -implicitDefEqProofs[B1P,c,b]
 .have i2:(9:Int)<p.length:=by omega
  simp -dsimp -implicitDefEqProofs[i2,B1P,c,Grow.refl]
def D2j:A0c (WC gl) 219 [] M (λv M'=>v=.list 1 (A1d A1M) .full/\M'=M):=by refine A0o hB func219 ?_;simp -dsimp -implicitDefEqProofs[A0n,A0W,A1d,A1M]
def D7Y(p:List A0M)(o:Own)(y:p.length<=1000000)(c:p.all A8k=true):A0c (WC gl) 168 [.list 2 (A1T p) o] M (A4B M (A9d p)):=by
 refine A0o hT func168 ?_;simp -dsimp -implicitDefEqProofs;refine A0y hT p.length 8 (λT M1=>∃i:Nat,i<=p.length/\A4B M (A9d (p.take i)) (T 3) M1/\T 6=.list 2 (A1T p) o/\T 7=I p.length/\T 8=I i) ?_ ?_
 .refine⟨0,?_⟩;simp -dsimp -implicitDefEqProofs[A4B,A5H,A0d.refl,A1g,A9d]
 .rintro T M1 ⟨i,h1,h2,h3,h4,h5⟩;generalize g:T 3=s at h2;by_cases hi:i<p.length
  ·(have d:(i:Int)<p.length:=by omega);have hw:IntKind.i64.wrap ((i:Int)+1)=(i+1:Nat):=by rw[A0J (by omega) (by omega)];omega
   (have f:(M1++[A0p.cells 159 [I p[i].k,S p[i].lab]])[M1.length]?=some (.cells 159 [I p[i].k,S p[i].lab]):=by simp);have hg:=Z0u.1 c p[i] (Z0q hi)
   have n:A5H 9 (M1++[A0p.cells 159 [I p[i].k,S p[i].lab]]) s ((A9d (p.take i)).map S):=h2.1.keep (.app none _ _) (by simp);have x:=C1J (p.take i);(have t:(p.take i).length<=p.length:=by simp;omega);simp -dsimp -implicitDefEqProofs[h3,h4,h5,hi,d,A0l,A0m,A0e,A0b f];refine A0s func214 (D0G gl _ p[i]) ?_;rintro r M2 ⟨rfl,rfl⟩;cases hb:A5U p[i]
   ·(have hn:A2b p[i]=true:=by simpa[A8k,hb]using hg);simp only[A2b,Z0g,Z0l]at hn
    obtain⟨⟨n1,n2⟩,n3⟩:=hn;have hl:=D5b n3;(have w:0<=p[i].k:=by omega);(have q:p[i].k<8:=by omega);(have j:p[i].k.toNat<8:=by omega);(have l:(A1d A1M)[p[i].k.toNat]?.getD []=[S (A1M.getD p[i].k.toNat ⟨#[]⟩)]:=by have:p[i].k.toNat<A1M.length:=j;simp[A1d,this]);have b:∀h:p[i].k.toNat<(A1d A1M).length,(A1d A1M)[p[i].k.toNat]'h=[S (A1M.getD p[i].k.toNat ⟨#[]⟩)]:=by intro h;have:p[i].k.toNat<A1M.length:=j;simp[A1d,this]
    (have a:A5A p[i]=[A1M.getD p[i].k.toNat ⟨#[]⟩,p[i].lab]:=by simp only[A5A,hb];rfl);have u:A1M.length=8:=rfl
    generalize A1M.getD p[i].k.toNat ⟨#[]⟩=kw at l b a;simp -dsimp -implicitDefEqProofs[hl,A0b f];refine A0X hT (A0t gl) (λk=>if k=3\/k=7 then 1 else if k=9 then 2 else 0) (λ_=>M1.length) (by rfl) (by kernel_rfl) ?_;simp -dsimp -implicitDefEqProofs;refine A1G func219 (λM=>(D2j gl M)) ?_;simp -dsimp -implicitDefEqProofs[A0b f,w,l,b,q,u,A0n,A0W,g];refine push (C:=WC gl) (e:=9) A8Q B1E B9w n (news:=[kw,p[i].lab].map S) (m:=2) rfl rfl (by simp;omega) rfl ?_;intro v' M' q1 q2 q3 _;have hf:=B0S h2 q1 q2 q3;rw[<-a,<-B8j hi]at hf;simp -dsimp -implicitDefEqProofs[h3,h4,h5,hw];refine⟨⟨i+1,?_⟩,?_⟩
    .exact⟨by clear hw;omega,hf,by simp⟩
    .clear hw;omega
   ·(have a:A5A p[i]=[A3B]:=by simp[A5A,hb]);simp -dsimp -implicitDefEqProofs[A0n,A0W,g]
    refine push (C:=WC gl) (e:=9) A8Q B1E B9w n (news:=[A3B].map S) (m:=1) rfl rfl (by simp;omega) rfl ?_;intro v' M' q1 q2 q3 _;have hf:=B0S h2 q1 q2 q3;rw[<-a,<-B8j hi]at hf;simp -dsimp -implicitDefEqProofs[h3,h4,h5,hw];refine⟨⟨i+1,?_⟩,?_⟩
    .exact⟨by clear hw;omega,hf,by simp⟩
    .clear hw;omega
  ·(have d:¬(i:Int)<p.length:=by omega);rw[Z0k (by omega)]at h2
   simp -dsimp -implicitDefEqProofs[h3,h4,h5,d,g,h2]
def D4j(p:List A0M)(o:Own)(b:p.length<=1000000)(a:p.all A8k=true):A0c (WC gl) 117 [D9g p o] M (A4B M (A9d p)):=by refine A0o hB func117 ?_;simp -dsimp -implicitDefEqProofs;refine A0s func168 (D7Y gl M p o b a) ?_;intro v M' h;simp -dsimp -implicitDefEqProofs[h]
def A4m(p:List A0M):List ByteArray:=if B1P p then A9d p else[]
def C2r{p}(h:B1P p=true):p.all A8k=true:=by
 simp only[B1P,A4I,Z0g]at h;have h2:=h.2.2;cases p with
 |nil=>rfl
 |cons s p'=>
  simp only[B5l]at h2;cases hb:A5U s
  .simp only[hb,Z0J,Z1o,Z1D,Z0g]at h2;simp only[Z1D,Z0g,A8k,hb,h2.1,Z4F,Z2y,Z1v];exact Z0u.2 λx hx=>by have:=Z0u.1 h2.2 x hx;show(A5U x||A2b x)=true;rw[this,Z4F]
  .simp only[hb,Z0M]at h2;simp only[Z1D,Z0g,A8k,hb,Z2i,Z2y];exact Z0u.2 λx hx=>by have:=Z0u.1 h2 x hx;show(A5U x||A2b x)=true;rw[this,Z4F]
def C3o(p:List A0M):(A4m p).length<=18:=by
 unfold A4m;split
 .rename_i h;simp only[B1P,Z0g,Z0l]at h;have:=C1J p;omega
 .simp
def B9M{M M1 M'}{l}{v}(hg:Grow M M1)(h:A4B M1 l v M'):A4B M l v M':=⟨h.1,hg.trans h.2.1,λf hf=>Z0X hg.1 (h.2.2 f hf)⟩
def D0d(p:List A0M)(o:Own)(a:p.length<=1000000):A0c (WC gl) 60 [.list 2 (A1T p) o] M (A4B M (A4m p)):=by
 refine A0o hB func60 ?_;have c:∀M:Mem,(M++[A0p.cells 110 [I 0,.list 2 (A1T p) o,S ⟨#[]⟩,I 0,I 0]])[M.length]?=some (.cells 110 [I 0,.list 2 (A1T p) o,S ⟨#[]⟩,I 0,I 0]):=by simp
 simp -dsimp -implicitDefEqProofs[A0w,A1e,A1r,A0l,A0m,A0e,A0b (c _)];refine A0s func116 (C4k gl _ p o a) ?_;rintro r M' ⟨rfl,b⟩;have hg:Grow M M':=Grow.trans (.app none M _) b;have hc:=b.get (c M) (by simp);cases hb:B1P p
 .simp -dsimp -implicitDefEqProofs[A4m,hb];exact⟨.inl ⟨rfl,rfl⟩,hg,by simp[A1g]⟩
 .simp -dsimp -implicitDefEqProofs[A0b hc];refine A0s func117 (D4j gl M' p o a (C2r hb)) ?_;intro v M2 h;simp -dsimp -implicitDefEqProofs[A4m,hb];exact B9M hg h
end
def A3P:ByteArray:=⟨#[116,104,105,115]⟩
def A6v:ByteArray:=⟨#[116,104,101]⟩
def A9N:ByteArray:=⟨#[115,97,105,100]⟩
def A7g:ByteArray:=⟨#[102,111,114,109,101,114,108,121]⟩
def toW:ByteArray:=⟨#[116,111]⟩
def A3O:List ByteArray:=[⟨#[]⟩,⟨#[112,97,114,116,115]⟩,⟨#[115,101,99,116,105,111,110,115]⟩,⟨#[112,97,114,97,103,114,97,112,104,115]⟩,⟨#[116,97,98,108,101,115]⟩,⟨#[114,111,119,115]⟩,⟨#[]⟩,⟨#[110,111,116,101,115]⟩]
def C4O:List ByteArray->ByteArray->Nat->Int
 |[],_,_=>-1
 |a::r,s,i=>if a=s then i else C4O r s (i+1)
def A2P(l:List ByteArray)(s:ByteArray):Int:=if s=⟨#[]⟩then 0 else max (C4O l s 0) 0
def kS:ByteArray->Int:=A2P A1M
def kP:ByteArray->Int:=A2P A3O
def B8e(s:ByteArray):ByteArray:=if s.size=0 then s else if A5D (A0L s (s.size-1))then s.extract 0 (s.size-1)else s
def A4u(s:ByteArray):Bool:=decide (s.size=0)||!A5D (A0L s (s.size-1))
def C9X{s}(h:A4u s=true):B8e s=s:=by
 unfold A4u at h;unfold B8e;by_cases c:s.size=0
 .rw[Z0d c]
 .simp only[c,Z4E,Z1v,Z1T]at h;rw[Z0c c,h];rfl
def D7x{s}(h:A4u s=false):B8e s≠s/\0<s.size/\A5D (A0L s (s.size-1))=true/\B8e s=s.extract 0 (s.size-1):=by
 unfold A4u at h;unfold B8e;by_cases c:s.size=0
 .simp[c]at h
 .simp only[c,Z4E,Z1v,Bool.not_eq_false']at h;rw[Z0c c,Z0d h];refine⟨λe=>?_,by omega,h,rfl⟩;have:=congrArg ByteArray.size e;simp at this;omega
def B6b{p:Int->Bool}{s}:∀n i,A1P p s n i<0->∀j,i<=j->j<i+n->p (A0L s j)=false
 |0,i,_,j,h1,h2=>by omega
 |n+1,i,h,j,h1,h2=>by
  unfold A1P at h;by_cases c:p (A0L s i)=true
  .rw[Z0d c]at h;omega
  .rw[Z0c c]at h;by_cases e:j=i
   .subst e;simpa using c
   .exact B6b n (i+1) h j (by omega) (by omega)
def C6R{p:Int->Bool}{s}:∀n i,0<=A1P p s n i->i<=A1P p s n i/\A1P p s n i<i+n/\∀j,i<=j->(j:Int)<A1P p s n i->p (A0L s j)=false
 |0,i,h=>by simp[A1P]at h
 |n+1,i,h=>by
  unfold A1P at h|-;by_cases c:p (A0L s i)=true
  .rw[Z0d c];exact⟨by omega,by omega,λj h1 h2=>by omega⟩
  .rw[Z0c c]at h|-;obtain⟨a,b,d⟩:=C6R n (i+1) h;refine⟨by omega,by omega,λj h1 h2=>?_⟩;by_cases e:j=i
   .subst e;simpa using c
   .exact d j (by omega) h2
def C1z{s}:A0Z s<=s.size/\∀j,j<A0Z s->A1j 48 57 (A0L s j)=false:=by
 unfold A0Z;by_cases c:A1P (A1j 48 57) s s.size 0<0
 .simp only[c,Z0M];exact⟨Z0n _,λj h=>B6b _ _ c j (by omega) (by omega)⟩
 .simp only[c,Z1o];obtain⟨a,b,d⟩:=C6R (p:=A1j 48 57) (s:=s) s.size 0 (by omega);exact⟨by omega,λj h=>d j (by omega) (by omega)⟩
def C6M{s}(h:A0B s=true):A4u s=true/\0<s.size:=by
 unfold A0B at h;simp only[Z0g,Z0l]at h;obtain⟨⟨⟨⟨h1,h2⟩,h3⟩,h4⟩,h5⟩:=h;obtain⟨d1,d2⟩:=C1z (s:=s);have hs:0<s.size:=by omega
 refine⟨?_,hs⟩;unfold A4u;have key:A5D (A0L s (s.size-1))=false:=by
  by_cases c:s.size-1<A0Z s
  .have:=d2 _ c;simp only[A1j,Z1Z,Z1e]at this;simp only[A5D,Z1Z,Z1e];omega
  .have:=B6b _ _ h5 (s.size-1) (by omega) (by omega);simp only[A1j,Z1Z,Z1e]at this;simp only[A5D,Z1Z,Z1e];omega
 rw[key];simp
def C3Q{s}(h:0<kS s):s∈A1M.drop 1:=by
 unfold kS A2P at h;by_cases c:s=⟨#[]⟩
 .rw[Z0d c]at h;omega
 .rw[Z0c c]at h;simp only[A1M,Z2g,Z1k,Z0t,Z1E,Z2H];simp only[A1M,C4O]at h;refine Z1p λhn=>?_;simp only[Z3a]at hn;obtain⟨a1,a2,a3,a4,a5,a6,a7⟩:=hn;rw[Z0c (Z2I c),Z0c (Z2I a1),Z0c (Z2I a2),Z0c (Z2I a3),Z0c (Z2I a4),Z0c (Z2I a5),Z0c (Z2I a6),Z0c (Z2I a7)]at h;omega
def B2S{s}(h:0<kP s):s∈A3O.drop 1/\s≠⟨#[]⟩:=by
 unfold kP A2P at h;by_cases c:s=⟨#[]⟩
 .rw[Z0d c]at h;omega
 .rw[Z0c c]at h;refine⟨?_,c⟩;simp only[A3O,Z2g,Z1k,Z0t,Z1E,Z2H];simp only[A3O,C4O]at h;refine Z1p λhn=>?_;simp only[Z3a]at hn;obtain⟨a1,a2,a3,a4,a5,a6,a7⟩:=hn;rw[Z0c (Z2I c),Z0c (Z2I a1),Z0c (Z2I a2),Z0c (Z2I a3),Z0c (Z2I a4),Z0c (Z2I a5),Z0c (Z2I a6),Z0c (Z2I a7)]at h;omega
def C0X:∀s∈A1M.drop 1,A4u s=true/\kP s=0/\1<=kS s/\kS s<=7/\s≠A3P/\s≠A6v/\s≠A7g/\s≠A3B:=by decide+kernel
def C0B:∀s∈A3O.drop 1,s≠⟨#[]⟩->A4u s=true/\kS s=0/\1<=kP s/\kP s<=7/\kP s≠6/\s≠A3P/\s≠A6v/\s≠A7g/\s≠A3B:=by decide+kernel
def A3V:A4u A3P=true/\A4u A6v=true/\A4u A9N=true/\A4u A7g=true/\A4u toW=true/\A4u A3B=true/\A3P≠A3B/\A6v≠A3B/\A7g≠A3B/\A6v≠A3P/\A7g≠A3P/\A7g≠A6v:=by decide+kernel
def D0D:¬0<kS A3P/\¬0<kS A6v/\¬0<kS A7g/\¬0<kS A3B/\¬0<kP A3P/\¬0<kP A6v/\¬0<kP A7g/\¬0<kP A3B:=by decide+kernel
def A3a:A0M:=⟨0,⟨#[]⟩⟩
def prs:Nat->List ByteArray->List A0M
 |n+1,a::b::r=>if 0<kS a/\A0B b=true then⟨kS a,b⟩::prs n r else[]
 |_,_=>[]
def A3Y:List ByteArray->List A0M×List ByteArray
 |a::b::r=>if 0<kS a then(⟨kS a,b⟩::(A3Y r).1,(A3Y r).2)else([],a::b::r)
 |r=>([],r)
def bkN(w:List ByteArray):Nat:=match w with
 |[]=>0
 |a::_=>if a=A3B then 1 else 0
def bkS(w:List ByteArray):List A0M:=if bkN w=1 then[A3a]else[]
def A2V(w:List ByteArray):List A0M:=bkS w++prs (9-bkN w) (w.drop (bkN w))
def A1f(w:List ByteArray):Nat:=bkN w+2*(prs (9-bkN w) (w.drop (bkN w))).length
def A2G(w:List ByteArray):Option (List A0M×Nat):=match w with
 |[]=>none
 |a::r=>if 0<kS a then some (⟨kS a,⟨#[]⟩⟩::prs 8 r,1+2*(prs 8 r).length)else none
def A4a(w:List ByteArray):Option (A0M×ByteArray):=match w with
 |a::b::c::d::_=>if 0<kP a/\A0B b=true/\c=toW/\A0B d=true then some (⟨kP a,b⟩,d)else none
 |_=>none
abbrev Cq:=Int×List A0M×ByteArray
def A2Z(k:Int)(w:List ByteArray):Option (Cq×Nat):=if A1f w=bkN w then none else some ((k,A2V w,⟨#[]⟩),A1f w)
def B2f(w:List ByteArray):Option (Cq×Nat):=match w with
 |[]=>none
 |a::r=>
  if a=A3P then(A2G r).map λx=>((2,x.1,⟨#[]⟩),x.2+1)
  else if a=A6v then match r with
   |[]=>none
   |b::r2=>if b=A9N then(A2G r2).map λx=>((3,x.1,⟨#[]⟩),x.2+2)else none
  else if a=A7g then(A2Z 4 r).map λx=>(x.1,x.2+1)
  else match A4a ((a::r).drop (A1f (a::r)))with
   |some (s,d)=>if(A2V (a::r)).length<=8 then some ((1,A2V (a::r)++[s],d),A1f (a::r)+4)else A2Z 0 (a::r)
   |none=>A2Z 0 (a::r)
def B1y(p:List A0M):Bool:=match p with
 |[]=>false
 |s::p'=>decide (s.lab=⟨#[]⟩)&&decide (1<=s.k)&&decide (s.k<=7)&&p'.all A2b
def C3c(p:List A0M):Int:=match p.getLast? with
 |none=>0
 |some s=>s.k
def A4q(k:Int)(p:List A0M)(to:ByteArray):Bool:=decide (p.length<=9)&&(if k=0\/k=4 then decide (to=⟨#[]⟩)&&A4I p else if k=1 then A0B to&&A4I p&&decide (C3c p≠6)else if k=2\/k=3 then decide (to=⟨#[]⟩)&&B1y p else false)
def A2H(w:List ByteArray):Int×List A0M×List ByteArray:=match w with
 |a::b::c::r=>if a=A3P/\0<kS b then(2,[⟨kS b,⟨#[]⟩⟩],c::r)else if a=A6v/\b=A9N/\0<kS c then(3,[⟨kS c,⟨#[]⟩⟩],r)else if a=A7g then(4,[],b::c::r)else(0,[],a::b::c::r)
 |[a,b]=>if a=A3P/\0<kS b then(2,[⟨kS b,⟨#[]⟩⟩],[])else if a=A7g then(4,[],[b])else(0,[],[a,b])
 |[a]=>if a=A7g then(4,[],[])else(0,[],[a])
 |[]=>(0,[],[])
def A8t(k:Int)(w:List ByteArray):List A0M×List ByteArray:=if k=2\/k=3 then([],w)else(bkS w,w.drop (bkN w))
def A7j(k:Int)(p:List A0M)(r:List ByteArray):Cq×List ByteArray:=match r with
 |[a,b,c,d]=>if k=0/\0<kP a/\c=toW then((1,p++[⟨kP a,b⟩],d),[])else((k,p,⟨#[]⟩),r)
 |_=>((k,p,⟨#[]⟩),r)
def B4v(x:Cq×List ByteArray):Option Cq:=if x.2=[]/\A4q x.1.1 x.1.2.1 x.1.2.2=true then some x.1 else none
def A2l(k:Int)(p:List A0M)(w:List ByteArray):Option Cq:=B4v (A7j k (p++(A8t k w).1++(A3Y (A8t k w).2).1) (A3Y (A8t k w).2).2)
def A4E(w:List ByteArray):Option Cq:=A2l (A2H w).1 (A2H w).2.1 (A2H w).2.2
def A3U:∀n w,(prs n w).all A2b=true/\(prs n w).length<=n/\2*(prs n w).length<=w.length
 |0,w=>by cases w<;>simp[prs]
 |n+1,[]=>by simp[prs]
 |n+1,[a]=>by simp[prs]
 |n+1,a::b::r=>by
  unfold prs;split
  .rename_i h;obtain⟨h1,h2,h3⟩:=A3U n r;obtain⟨f1,f2,f3,f4,-⟩:=C0X a (C3Q h.1);refine⟨?_,by simp;omega,by simp;omega⟩;rw[Z1D,h1,Z3B];simp[A2b,f3,f4,h.2]
  .simp
def B4z:∀n w,A3Y (w.take (2*(prs n w).length))=(prs n w,[])
 |0,w=>by cases w<;>simp[prs,A3Y]
 |n+1,[]=>by simp[prs,A3Y]
 |n+1,[a]=>by simp[prs,A3Y]
 |n+1,a::b::r=>by
  unfold prs;split
  .rename_i h;have:=B4z n r;rw[Z0x,show 2*((prs n r).length+1)=2*(prs n r).length+2 from by omega,Z0C,Z0C];unfold A3Y;rw[Z0d h.1,this]
  .simp[A3Y]
def C6C:∀w,w.length=2*(A3Y w).1.length+(A3Y w).2.length
 |[]=>by simp[A3Y]
 |[a]=>by simp[A3Y]
 |a::b::r=>by
  unfold A3Y;split
  .have:=C6C r;simp;omega
  .simp
def C3n{a b:ByteArray}{r:List ByteArray}{i:Nat}(h:2<=i):(a::b::r).take i=a::b::r.take (i-2):=by obtain⟨j,rfl⟩:∃j,i=j+2:=⟨i-2,by omega⟩;simp
def B9A:∀n w i,i<=w.length->(A3Y (w.take i)).2=[]->(A3Y (w.take i)).1.all A2b=true->(A3Y (w.take i)).1.length<=n->i<=2*(prs n w).length
 |n,w,0,_,_,_,_=>by omega
 |n,[],i+1,h,_,_,_=>by simp at h
 |n,w,1,h,hr,_,_=>by
  cases w with
  |nil=>simp at h
  |cons a r=>simp[A3Y]at hr
 |n,[a],i+2,h,_,_,_=>by simp at h
 |n,a::b::r,i+2,h,hr,ha,hl=>by
  rw[C3n (by omega)]at hr ha hl;simp only[Z3R]at hr ha hl;unfold A3Y at hr ha hl;by_cases c:0<kS a
  .rw[Z0d c]at hr ha hl;simp only[Z1D,Z0g,Z0x]at ha hl hr;cases n with
   |zero=>omega
   |succ n=>
    (have hb:A0B b=true:=by have:=ha.1;simp only[A2b,Z0g]at this;exact this.2);unfold prs
    rw[Z0d ⟨c,hb⟩];have:=B9A n r i (by simp at h;omega) hr ha.2 (by omega);simp;omega
  .rw[Z0c c]at hr;simp at hr
def B8V:∀n w i (a b c d:ByteArray),i<=w.length->(A3Y (w.take i)).2=[a,b,c,d]->0<kP a->(A3Y (w.take i)).1.all A2b=true->(A3Y (w.take i)).1.length<=n->
 (A3Y (w.take i)).1=prs (n+1) w/\i=2*(prs (n+1) w).length+4/\∃r,w.drop (2*(prs (n+1) w).length)=a::b::c::d::r
 |n,w,0,a,b,c,d,_,hr,_,_,_=>by simp[A3Y]at hr
 |n,[],i+1,a,b,c,d,h,_,_,_,_=>by simp at h
 |n,w,1,a,b,c,d,h,hr,_,_,_=>by
  cases w with
  |nil=>simp at h
  |cons a r=>simp[A3Y]at hr
 |n,[x],i+2,a,b,c,d,h,_,_,_,_=>by simp at h
 |n,x::y::r,i+2,a,b,c,d,h,hr,hp,ha,hl=>by
  rw[C3n (by omega)]at hr ha hl|-;simp only[Z3R]at hr ha hl|-;unfold A3Y at hr ha hl|-;by_cases e:0<kS x
  .rw[Z0d e]at hr ha hl|-;simp only[Z1D,Z0g,Z0x]at ha hl hr;cases n with
   |zero=>omega
   |succ n=>
    (have hb:A0B y=true:=by have:=ha.1;simp only[A2b,Z0g]at this;exact this.2);obtain⟨h1,h2,t,h3⟩:=B8V n r i a b c d (by simp at h;omega) hr hp ha.2 (by omega)
    (have he:prs (n+1+1) (x::y::r)=⟨kS x,y⟩::prs (n+1) r:=by rw[prs];rw[Z0d ⟨e,hb⟩]);rw[he]
    refine⟨by rw[h1],by simp;omega,t,?_⟩;rw[Z0x,show 2*((prs (n+1) r).length+1)=2*(prs (n+1) r).length+2 from by omega,Z2g,Z2g,h3]
  .rw[Z0c e]at hr ha hl|-;simp only[Z1c]at hr;obtain⟨rfl,rfl,hr⟩:=hr;(have he:prs (n+1) (x::y::r)=[]:=by rw[prs];rw[Z0c λhh=>e hh.1]);rw[he];have f:=congrArg List.length hr;simp at f h;refine⟨rfl,by simp;omega,r.drop 2,?_⟩;(have:i=2:=by omega);subst this;have h4:r=r.take 2++r.drop 2:=(Z0S 2 r).symm;simp only[Z1I,Nat.mul_zero,Z1k]
   conv=>lhs;rw[h4,hr]
   rfl
def C9q:∀n w (a b c d:ByteArray) r,w.drop (2*(prs n w).length)=a::b::c::d::r->0<kP a->A3Y (w.take (2*(prs n w).length+4))=(prs n w,[a,b,c,d]):=by
 have base:∀(w:List ByteArray) (a b c d:ByteArray) r,w=a::b::c::d::r->0<kP a->A3Y (w.take 4)=([],[a,b,c,d]):=by rintro w a b c d r rfl hp;have:=(C0B a (B2S hp).1 (B2S hp).2).2.1;simp only[Z0C,Z2l];unfold A3Y;rw[Z0c (by omega)]
 intro n;induction n with
 |zero=>
  intro w a b c d r h hp;have e:prs 0 w=[]:=by cases w<;>simp[prs]
  rw[e]at h|-;exact base w a b c d r h hp
 |succ n ih=>
  intro w a b c d r h hp
  match w,h with
  |[],h=>simp[prs]at h
  |[x],h=>simp[prs]at h
  |x::y::w',h=>
   by_cases e:0<kS x/\A0B y=true
   ·(have he:prs (n+1) (x::y::w')=⟨kS x,y⟩::prs n w':=by rw[prs];rw[Z0d e]);rw[he,Z0x,show 2*((prs n w').length+1)=2*(prs n w').length+2 from by omega]at h|-
    rw[Z2g,Z2g]at h;rw[show 2*(prs n w').length+2+4=(2*(prs n w').length+4)+2 from by omega,Z0C,Z0C];unfold A3Y;rw[Z0d e.1,ih w' a b c d r h hp]
   ·(have he:prs (n+1) (x::y::w')=[]:=by rw[prs];rw[Z0c e]);rw[he]at h|-
    exact base _ a b c d r h hp
def B4O:∀w,∀s∈(A3Y w).1,0<s.k
 |[]=>by simp[A3Y]
 |[a]=>by simp[A3Y]
 |a::b::r=>by
  unfold A3Y;split
  .rename_i h;intro s hs;simp only[Z0t]at hs;rcases hs with rfl|hs
   .exact h
   .exact B4O r s hs
  .simp
def B6y(w:List ByteArray):bkN w<=1:=by
 unfold bkN;split
 .omega
 .split<;>omega
def B1q(w:List ByteArray):(bkS w).length=bkN w:=by
 have:=B6y w;unfold bkS;split
 .simp;omega
 .simp;omega
def C5A{w}{ps}(h:∀s∈ps,0<s.k):A4I (bkS w++ps)=(!ps.isEmpty&&ps.all A2b):=by
 have e:B5l (bkS w++ps)=ps:=by
  unfold bkS;split
  .rfl
  .cases ps with
   |nil=>rfl
   |cons s ps=>have:=h s (by simp);(have hb:A5U s=false:=by unfold A5U;rw[Z0y (by omega)];rfl);simp[B5l,hb]
 unfold A4I;rw[e];cases ps<;>simp
def B3d{k}(hk:k=0\/k=4){w}{ps}(h:∀s∈ps,0<s.k):B4v ((k,bkS w++ps,⟨#[]⟩),[])=if ps≠[]/\ps.all A2b=true/\bkN w+ps.length<=9 then some (k,bkS w++ps,⟨#[]⟩)else none:=by
 unfold B4v A4q
 simp only[Z0d hk,C5A h,Z0r,B1q,Z4u,Z0A,Z0g,Z0l,Z2y]
 by_cases c:ps=[]
 .subst c;simp
 .have:ps.isEmpty=false:=by cases ps<;>simp_all
  simp only[this,Z1S,Z2y,c,not_false_iff,ne_eq];by_cases c2:ps.all A2b=true<;>by_cases c3:bkN w+ps.length<=9<;>simp[c2,c3]
def B6i{w}{ps}(h:∀s∈ps,0<s.k){a b d}(ha:0<kP a):B4v ((1,bkS w++ps++[⟨kP a,b⟩],d),[])=if ps.all A2b=true/\bkN w+ps.length<=8/\A0B b=true/\A0B d=true then some (1,bkS w++ps++[⟨kP a,b⟩],d)else none:=by
 obtain⟨-,-,f1,f2,f3,-⟩:=C0B a (B2S ha).1 (B2S ha).2
 have c:A4I (bkS w++(ps++[⟨kP a,b⟩]))=(!(ps++[(⟨kP a,b⟩:A0M)]).isEmpty&&(ps++[(⟨kP a,b⟩:A0M)]).all A2b):=C5A λs hs=>by
  simp only[Z0P,Z1m]at hs;rcases hs with hs|rfl
  .exact h s hs
  .exact ha
 have e1:(ps++[(⟨kP a,b⟩:A0M)]).isEmpty=false:=by cases ps<;>rfl
 have e2:A2b ⟨kP a,b⟩=A0B b:=by simp[A2b,f1,f2]
 have e3:C3c (bkS w++ps++[(⟨kP a,b⟩:A0M)])=kP a:=by simp[C3c]
 unfold B4v A4q
 rw[e3]
 simp only[show¬((1:Int)=0\/(1:Int)=4)from by omega,Z1o,Z0M,Z0T,c,e1,List.all_append,Z1D,Z3L,Z3B,e2,Z0r,B1q,Z0x,Z1I,Z1S,Z0A,Z0v f3,Z0g,Z0l,Z2y,f3,ne_eq,not_false_iff,Z1M]
 by_cases c4:bkN w+ps.length<=8
 .have c5:bkN w+(ps.length+(0+1))<=9:=by omega
  by_cases c1:ps.all A2b=true<;>by_cases c2:A0B b=true<;>by_cases c3:A0B d=true<;>simp only[c1,c2,c3,c4,c5,Z4f,Z1M,Z2y,Z4q,and_false,Z0M,Z1o,Z0J]
 .have c5:¬bkN w+(ps.length+(0+1))<=9:=by omega
  simp only[c4,c5,Z4q,and_false,Z1o]
def D0I{w}{i}(h:1<=i):bkN (w.take i)=bkN w:=by obtain⟨j,rfl⟩:∃j,i=j+1:=⟨i-1,by omega⟩;cases w<;>simp[bkN]
def C4y{k}(hk:k=0\/k=4)(w:List ByteArray){i}(h:1<=i):A2l k [] (w.take i)=B4v (A7j k (bkS w++(A3Y ((w.drop (bkN w)).take (i-bkN w))).1) (A3Y ((w.drop (bkN w)).take (i-bkN w))).2):=by
 have h2:¬(k=2\/k=3):=by omega
 unfold A2l A8t
 simp only[Z0c h2]
 have e:bkS (w.take i)=bkS w:=by unfold bkS;rw[D0I h]
 rw[D0I h,e,Z1g,Z3u]
def B4o{k}{p}{r}(h:¬∃a b c d,r=[a,b,c,d]/\k=0/\0<kP a/\c=toW):A7j k p r=((k,p,⟨#[]⟩),r):=by
 unfold A7j;split
 .rename_i a b c d;rw[Z0c λhh=>h ⟨a,b,c,d,rfl,hh⟩]
 .rfl
def C2W{k}(hk:k=0\/k=4)(w:List ByteArray){i}(h:1<=i)(hw:i<=w.length){x}(hx:A2l k [] (w.take i)=some x):(i<=A1f w/\bkN w<A1f w)\/(k=0/\∃s d,A4a (w.drop (A1f w))=some (s,d)/\(A2V w).length<=8/\i=A1f w+4):=by
 have hb:=B6y w
 rw[C4y hk w h]at hx
 have e:=B4O ((w.drop (bkN w)).take (i-bkN w))
 by_cases c:∃a b c d,(A3Y ((w.drop (bkN w)).take (i-bkN w))).2=[a,b,c,d]/\k=0/\0<kP a/\c=toW
 .obtain⟨a,b,c,d,hr,rfl,hp,rfl⟩:=c;right;rw[hr]at hx;simp only[A7j,hp,Z4f,Z0M]at hx;rw[B6i e hp]at hx;split at hx
  .rename_i hc;obtain⟨c1,c2,c3,c4⟩:=hc;obtain⟨e1,e2,r,e3⟩:=B8V (8-bkN w) (w.drop (bkN w)) (i-bkN w) a b toW d (by simp;omega) hr hp c1 (by omega);rw[show 8-bkN w+1=9-bkN w from by omega]at e1 e2 e3;(have e4:w.drop (A1f w)=a::b::toW::d::r:=by rw[<-e3,Z1V];rfl);refine⟨rfl,⟨kP a,b⟩,d,?_,?_,?_⟩
   .rw[e4];simp[A4a,hp,c3,c4]
   .unfold A2V;rw[Z0r,B1q,<-e1];omega
   .unfold A1f;omega
  .exact absurd hx (by simp)
 .left;rw[B4o c]at hx;by_cases cr:(A3Y ((w.drop (bkN w)).take (i-bkN w))).2=[]
  .rw[cr,B3d hk e]at hx;split at hx
   .rename_i hc;obtain⟨c1,c2,c3⟩:=hc;have:=B9A (9-bkN w) (w.drop (bkN w)) (i-bkN w) (by simp;omega) cr c2 (by omega);have f:=C6C ((w.drop (bkN w)).take (i-bkN w));rw[cr]at f;have:0<(A3Y ((w.drop (bkN w)).take (i-bkN w))).1.length:=Z2p.2 c1;(have g:((w.drop (bkN w)).take (i-bkN w)).length=i-bkN w:=by simp;omega);unfold A1f;simp only[Z1I]at f;omega
   .exact absurd hx (by simp)
  .simp only[B4v,cr,Z4q,Z1o]at hx;exact absurd hx (by simp)
def B9n(w:List ByteArray):A1f w<=w.length/\A1f w<=18:=by
 obtain⟨h1,h2,h3⟩:=A3U (9-bkN w) (w.drop (bkN w));have:=B6y w;have hb:bkN w<=w.length:=by cases w<;>simp[bkN];split<;>omega
 simp at h3;unfold A1f;omega
def B9F{k}(hk:k=0\/k=4)(w:List ByteArray)(h:bkN w<A1f w):A2l k [] (w.take (A1f w))=some (k,A2V w,⟨#[]⟩):=by
 obtain⟨h1,h2,h3⟩:=A3U (9-bkN w) (w.drop (bkN w));have hb:=B6y w;have hn:0<(prs (9-bkN w) (w.drop (bkN w))).length:=by unfold A1f at h;omega
 rw[C4y hk w (by omega),show A1f w-bkN w=2*(prs (9-bkN w) (w.drop (bkN w))).length from by unfold A1f;omega,B4z];rw[B4o (by rintro⟨a,b,c,d,e,-⟩;simp at e)];have f:=B4O ((w.drop (bkN w)).take (2*(prs (9-bkN w) (w.drop (bkN w))).length));rw[B4z]at f;rw[B3d hk f,Z0d ⟨Z2p.1 hn,h1,by show bkN w+(prs (9-bkN w) (w.drop (bkN w))).length<=9;omega⟩];rfl
def C8R(w:List ByteArray){s}{d}(h:A4a (w.drop (A1f w))=some (s,d))(hl:(A2V w).length<=8):A2l 0 [] (w.take (A1f w+4))=some (1,A2V w++[s],d)/\A1f w+4<=w.length:=by
 obtain⟨h1,h2,h3⟩:=A3U (9-bkN w) (w.drop (bkN w))
 have hb:=B6y w
 unfold A4a at h
 split at h
 .rename_i a b c d' r hd;split at h
  .rename_i hc;obtain⟨c1,c2,rfl,c4⟩:=hc;simp only[Z0b,Z0f]at h;obtain⟨rfl,rfl⟩:=h;have i:=congrArg List.length hd;simp at i;refine⟨?_,by omega⟩;(have f:(w.drop (bkN w)).drop (2*(prs (9-bkN w) (w.drop (bkN w))).length)=a::b::toW::d'::r:=by rw[Z1V];exact hd);have hr:=C9q _ _ a b toW d' r f c1;rw[C4y (.inl rfl) w (by omega),show A1f w+4-bkN w=2*(prs (9-bkN w) (w.drop (bkN w))).length+4 from by unfold A1f;omega];have e:=B4O ((w.drop (bkN w)).take (2*(prs (9-bkN w) (w.drop (bkN w))).length+4));rw[hr]at e|-;simp only[A7j,c1,Z4f,Z0M];(have g:bkN w+(prs (9-bkN w) (w.drop (bkN w))).length<=8:=by unfold A2V at hl;rw[Z0r,B1q]at hl;exact hl);rw[B6i e c1,Z0d ⟨h1,g,c2,c4⟩];rfl
  .exact absurd h (by simp)
 .exact absurd h (by simp)
def C6y{k}(hk:k=2\/k=3){b}(hb:0<kS b)(ps:List A0M)(r:List ByteArray):B4v ((k,⟨kS b,⟨#[]⟩⟩::ps,⟨#[]⟩),r)=if r=[]/\ps.all A2b=true/\ps.length<=8 then some (k,⟨kS b,⟨#[]⟩⟩::ps,⟨#[]⟩)else none:=by
 obtain⟨-,-,f1,f2,-⟩:=C0X b (C3Q hb)
 have h1:¬(k=0\/k=4):=by omega
 have h2:¬k=1:=by omega
 unfold B4v A4q B1y
 simp only[Z0c h1,Z0c h2,Z0d hk,f1,f2,Z4u,Z0A,Z3B,Z0g,Z0l,Z0x]
 by_cases c1:r=[]<;>by_cases c2:ps.all A2b=true<;>by_cases c3:ps.length<=8<;>simp[c1,c2,c3]
def C2v{k}(hk:k=2\/k=3){b}(hb:0<kS b)(v:List ByteArray):A2l k [⟨kS b,⟨#[]⟩⟩] v=if(A3Y v).2=[]/\(A3Y v).1.all A2b=true/\(A3Y v).1.length<=8 then some (k,⟨kS b,⟨#[]⟩⟩::(A3Y v).1,⟨#[]⟩)else none:=by
 unfold A2l A8t
 simp only[Z0d hk,Z1b,List.singleton_append]
 rw[B4o (by rintro⟨a,b,c,d,-,e,-⟩;omega),C6y hk hb]
def C1I{k}(hk:k=2\/k=3){b}(hb:0<kS b)(r:List ByteArray){i}(hi:i<=r.length){x}(hx:A2l k [⟨kS b,⟨#[]⟩⟩] (r.take i)=some x):i<=2*(prs 8 r).length:=by
 rw[C2v hk hb]at hx;split at hx
 .rename_i h;exact B9A 8 r i hi h.1 h.2.1 h.2.2
 .exact absurd hx (by simp)
def D1i{k}(hk:k=2\/k=3){b}(hb:0<kS b)(r:List ByteArray):A2l k [⟨kS b,⟨#[]⟩⟩] (r.take (2*(prs 8 r).length))=some (k,⟨kS b,⟨#[]⟩⟩::prs 8 r,⟨#[]⟩):=by obtain⟨h1,h2,h3⟩:=A3U 8 r;rw[C2v hk hb,B4z];rw[Z0d ⟨rfl,h1,h2⟩]
def C2S{a}{x}(h1:¬0<kS a)(h2:¬0<kP a)(h3:a≠A3B):A2l 0 [] (a::x)=none:=by
 have hb:bkN (a::x)=0:=by simp[bkN,h3]
 have hq:A3Y (a::x)=([],a::x):=by
  cases x with
  |nil=>rfl
  |cons b r=>unfold A3Y;rw[Z0c h1]
 unfold A2l A8t;simp only[show¬((0:Int)=2\/(0:Int)=3)from by omega,Z1o,hb,Z1k,hq];rw[B4o]
 .simp[B4v]
 .rintro⟨a',b,c,d,e,-,e2,-⟩;simp only[Z1c]at e;rw[<-e.1]at e2;exact h2 e2
def B4I{k}(hk:k=0\/k=4):A2l k [] []=none:=by
 have h2:¬(k=2\/k=3):=by omega
 have:=@B3d k hk [] [] (by simp);simp only[bkS,bkN]at this;unfold A2l A8t;simp only[Z0c h2,bkN,Z4D,A3Y,bkS];simpa[A7j]using this
def D3g{b}{x}(hb:0<kS b):A2H (A3P::b::x)=(2,[⟨kS b,⟨#[]⟩⟩],x):=by cases x<;>simp[A2H,hb]
def C8T{b}{x}(hb:¬0<kS b):A2H (A3P::b::x)=(0,[],A3P::b::x):=by have h1:A3P≠A6v:=λe=>A3V.2.2.2.2.2.2.2.2.2.1 e.symm;have h2:A3P≠A7g:=λe=>A3V.2.2.2.2.2.2.2.2.2.2.1 e.symm;cases x<;>simp[A2H,hb,h1,h2]
def D1S{c}{x}(hc:0<kS c):A2H (A6v::A9N::c::x)=(3,[⟨kS c,⟨#[]⟩⟩],x):=by have h1:A6v≠A3P:=A3V.2.2.2.2.2.2.2.2.2.1;simp[A2H,hc,h1]
def D3f{x}(h:¬∃c y,x=A9N::c::y/\0<kS c):A2H (A6v::x)=(0,[],A6v::x):=by
 have h1:A6v≠A3P:=A3V.2.2.2.2.2.2.2.2.2.1;have h2:A6v≠A7g:=λe=>A3V.2.2.2.2.2.2.2.2.2.2.2 e.symm
 match x,h with
 |[],h=>simp[A2H,h2]
 |[b],h=>simp[A2H,h1,h2]
 |b::c::y,h=>have:¬(b=A9N/\0<kS c):=λhh=>h ⟨c,y,by rw[hh.1],hh.2⟩;simp[A2H,h1,h2];intro e1;exact Z3j.1 λh=>this ⟨e1,h⟩
def D6m{x}:A2H (A7g::x)=(4,[],x):=by
 have h1:A7g≠A3P:=A3V.2.2.2.2.2.2.2.2.2.2.1;have h2:A7g≠A6v:=A3V.2.2.2.2.2.2.2.2.2.2.2
 match x with
 |[]=>simp[A2H]
 |[b]=>simp[A2H,h1]
 |b::c::y=>simp[A2H,h1,h2]
def D2U{a}{x}(h1:a≠A3P)(h2:a≠A6v)(h3:a≠A7g):A2H (a::x)=(0,[],a::x):=by
 match x with
 |[]=>simp[A2H,h3]
 |[b]=>simp[A2H,h1,h3]
 |b::c::y=>simp[A2H,h1,h2,h3]
def E2Y(w:List ByteArray)(g:Option (Cq×Nat))(f:List ByteArray->Option Cq):Prop:=match g with
 |some (c,n)=>f (w.take n)=some c/\0<n/\n<=w.length/\n<=23/\∀i,n<i->i<=w.length->f (w.take i)=none
 |none=>∀i,i<=w.length->f (w.take i)=none
def A9g{α:Type}{o:Option α}(h:∀x,o≠some x):o=none:=by
 cases o with
 |none=>rfl
 |some x=>exact absurd rfl (h x)
def B3Q(w:List ByteArray):∀i,i<=w.length->(∀s d,A4a (w.drop (A1f w))=some (s,d)->(A2V w).length<=8->i≠A1f w+4)->(bkN w=A1f w\/A1f w<i)->A2l 0 [] (w.take i)=none:=by
 intro i hi hr hp;refine A9g λx hx=>?_;cases i with
 |zero=>rw[Z2l,B4I (.inl rfl)]at hx;exact absurd hx (by simp)
 |succ i=>
  rcases C2W (.inl rfl) w (by omega) hi hx with⟨h1,h2⟩|⟨-,s,d,h1,h2,h3⟩
  .omega
  .exact hr s d h1 h2 h3
def C7I(w:List ByteArray):∀i,i<=w.length->(bkN w=A1f w\/A1f w<i)->A2l 4 [] (w.take i)=none:=by
 intro i hi hp;refine A9g λx hx=>?_;cases i with
 |zero=>rw[Z2l,B4I (.inr rfl)]at hx;exact absurd hx (by simp)
 |succ i=>
  rcases C2W (.inr rfl) w (by omega) hi hx with⟨h1,h2⟩|⟨h0,-⟩
  .omega
  .omega
def B4p(w:List ByteArray):bkN w<=A1f w:=by unfold A1f;omega
def B8G(a:ByteArray)(r:List ByteArray):B2f (a::r)=(
 (if a=A3P then(A2G r).map λx=>((2,x.1,⟨#[]⟩),x.2+1)
 else if a=A6v then match r with
  |[]=>none
  |b::r2=>if b=A9N then(A2G r2).map λx=>((3,x.1,⟨#[]⟩),x.2+2)else none
 else if a=A7g then(A2Z 4 r).map λx=>(x.1,x.2+1)
 else match A4a ((a::r).drop (A1f (a::r)))with
  |some (s,d)=>if(A2V (a::r)).length<=8 then some ((1,A2V (a::r)++[s],d),A1f (a::r)+4)else A2Z 0 (a::r)
  |none=>A2Z 0 (a::r)):Option (Cq×Nat)):=rfl
def C4x(w:List ByteArray):E2Y w (B2f w) A4E:=by
 obtain⟨t1,t2,t3,t4,t5,t6,t7,t8⟩:=D0D;obtain⟨-,-,-,-,-,-,b1,b2,b3,-⟩:=A3V;cases w with
 |nil=>intro i hi;rw[List.take_nil];exact B4I (.inl rfl)
 |cons a r=>
  have z:A4E []=none:=B4I (.inl rfl);rw[B8G];by_cases c1:a=A3P
  .subst c1;rw[Z0d rfl];have stop:∀x,A2l 0 [] (A3P::x)=none:=λx=>C2S t1 t5 b1;cases r with
   |nil=>
    intro i hi
    match i,hi with
    |0,_=>exact z
    |1,_=>exact stop []
    |i+2,hi=>simp at hi
   |cons b r=>
    by_cases c2:0<kS b
    .simp only[A2G,Z0d c2,Z1f];(have hx:∀i,A4E ((A3P::b::r).take (i+2))=A2l 2 [⟨kS b,⟨#[]⟩⟩] (r.take i):=λi=>by rw[Z0C,Z0C];unfold A4E;rw[D3g c2]);obtain⟨h1,h2,h3⟩:=A3U 8 r;refine⟨?_,by omega,by simp;omega,by omega,λi h4 h5=>?_⟩
     .rw[show 1+2*(prs 8 r).length+1=2*(prs 8 r).length+2 from by omega,hx];exact D1i (.inl rfl) c2 r
     .obtain⟨j,rfl⟩:∃j,i=j+2:=⟨i-2,by omega⟩;rw[hx];refine A9g λx he=>?_;have:=C1I (.inl rfl) c2 r (by simp at h5;omega) he;omega
    .simp only[A2G,Z0c c2,Option.map_none];intro i hi
     match i,hi with
     |0,_=>exact z
     |1,_=>exact stop []
     |i+2,hi=>rw[Z0C,Z0C];unfold A4E;rw[C8T c2];exact stop _
  .rw[Z0c c1];by_cases c2:a=A6v
   .subst c2;rw[Z0d rfl];have stop:∀x,A2l 0 [] (A6v::x)=none:=λx=>C2S t2 t6 b2;(have no:∀x,(¬∃c y,x=A9N::c::y/\0<kS c)->A4E (A6v::x)=none:=λx h=>by unfold A4E;rw[D3f h];exact stop x);cases r with
    |nil=>
     intro i hi
     match i,hi with
     |0,_=>exact z
     |i+1,_=>rw[Z0C];exact no _ (by rintro⟨c,y,e,-⟩;simp at e)
    |cons b r=>
     by_cases c3:b=A9N
     .subst c3;simp only[Z0M];cases r with
      |nil=>
       intro i hi
       match i,hi with
       |0,_=>exact z
       |i+1,_=>rw[Z0C];refine no _ ?_;rintro⟨c,y,e,-⟩;have:=congrArg List.length e;simp at this;omega
      |cons c r=>
       by_cases c4:0<kS c
       .simp only[A2G,Z0d c4,Z1f];(have hx:∀i,A4E ((A6v::A9N::c::r).take (i+3))=A2l 3 [⟨kS c,⟨#[]⟩⟩] (r.take i):=λi=>by rw[Z0C,Z0C,Z0C];unfold A4E;rw[D1S c4]);obtain⟨h1,h2,h3⟩:=A3U 8 r;refine⟨?_,by omega,by simp;omega,by omega,λi h4 h5=>?_⟩
        .rw[show 1+2*(prs 8 r).length+2=2*(prs 8 r).length+3 from by omega,hx];exact D1i (.inr rfl) c4 r
        .obtain⟨j,rfl⟩:∃j,i=j+3:=⟨i-3,by omega⟩;rw[hx];refine A9g λx he=>?_;have:=C1I (.inr rfl) c4 r (by simp at h5;omega) he;omega
       .simp only[A2G,Z0c c4,Option.map_none];intro i hi
        match i,hi with
        |0,_=>exact z
        |i+1,_=>
         rw[Z0C];refine no _ ?_;rintro⟨c',y,e,e2⟩
         match i,e with
         |0,e=>simp at e
         |1,e=>simp at e
         |i+2,e=>rw[Z0C,Z0C]at e;simp only[Z1c]at e;rw[e.2.1]at c4;exact c4 e2
     .simp only[Z0c c3];intro i hi
      match i,hi with
      |0,_=>exact z
      |1,_=>exact no [] (by rintro⟨c,y,e,-⟩;simp at e)
      |i+2,_=>rw[Z0C,Z0C];refine no _ ?_;rintro⟨c,y,e,-⟩;simp only[Z1c]at e;exact c3 e.1
   .rw[Z0c c2];by_cases c3:a=A7g
    .subst c3;rw[Z0d rfl];(have hx:∀i,A4E ((A7g::r).take (i+1))=A2l 4 [] (r.take i):=λi=>by rw[Z0C];unfold A4E;rw[D6m]);obtain⟨h1,h2⟩:=B9n r;have hb:=B4p r;unfold A2Z;by_cases c4:A1f r=bkN r
     .rw[Z0d c4];intro i hi;cases i with
      |zero=>exact z
      |succ i=>rw[hx];exact C7I r i (by simpa using hi) (.inl c4.symm)
     .rw[Z0c c4];refine⟨?_,by simp,by simp;omega,by simp;omega,λi h4 h5=>?_⟩
      .rw[hx];exact B9F (.inr rfl) r (by omega)
      .simp at h4;obtain⟨j,rfl⟩:∃j,i=j+1:=⟨i-1,by omega⟩;rw[hx];exact C7I r j (by simpa using h5) (.inr (by omega))
    .rw[Z0c c3];(have hx:∀i,1<=i->A4E ((a::r).take i)=A2l 0 [] ((a::r).take i):=λi h=>by obtain⟨j,rfl⟩:∃j,i=j+1:=⟨i-1,by omega⟩;rw[Z0C];unfold A4E;rw[D2U c1 c2 c3]);have g:∀i,A2l 0 [] ((a::r).take i)=none->A4E ((a::r).take i)=none:=λi h=>by
      cases i with
      |zero=>exact z
      |succ i=>rw[hx _ (by omega)];exact h
     generalize a::r=w at*;obtain⟨h1,h2⟩:=B9n w;have hb:=B4p w;have f:(∀s d,A4a (w.drop (A1f w))=some (s,d)->¬(A2V w).length<=8)->E2Y w (A2Z 0 w) A4E:=by
      intro hr;unfold A2Z;by_cases c4:A1f w=bkN w
      .rw[Z0d c4];intro i hi;exact g i (B3Q w i hi (λs d e e2=>absurd e2 (hr s d e)) (.inl c4.symm))
      .rw[Z0c c4];refine⟨?_,by omega,h1,by omega,λi h4 h5=>?_⟩
       .rw[hx _ (by omega)];exact B9F (.inl rfl) w (by omega)
       .exact g i (B3Q w i h5 (λs d e e2=>absurd e2 (hr s d e)) (.inr h4))
     split
     .rename_i s d e;by_cases c5:(A2V w).length<=8
      .rw[Z0d c5];obtain⟨g1,g2⟩:=C8R w e c5;refine⟨?_,by omega,g2,by omega,λi h4 h5=>?_⟩
       .rw[hx _ (by omega)];exact g1
       .exact g i (B3Q w i h5 (λs d e e2=>by omega) (.inr (by omega)))
      .rw[Z0c c5];exact f λs' d' e'=>c5
     .rename_i e;exact f λs' d' e'=>absurd e' (by rw[e];simp)
def B5F:List ByteArray->List ByteArray
 |[]=>[]
 |s::r=>B8e s::(if A4u s then B5F r else[])
def B9y:∀L,(B5F L).length<=L.length
 |[]=>by simp[B5F]
 |s::r=>by have:=B9y r;unfold B5F;split<;>simp;omega
def A2j(i:Nat)(w:List ByteArray):Option (Cq×Nat):=match i with
 |0=>A2Z 0 w
 |1=>match A4a (w.drop (A1f w))with
  |some (s,d)=>if(A2V w).length<=8 then some ((1,A2V w++[s],d),A1f w+4)else none
  |none=>none
 |2=>match w with
  |a::r=>if a=A3P then(A2G r).map λx=>((2,x.1,⟨#[]⟩),x.2+1)else none
  |[]=>none
 |3=>match w with
  |a::b::r=>if a=A6v/\b=A9N then(A2G r).map λx=>((3,x.1,⟨#[]⟩),x.2+2)else none
  |_=>none
 |_=>match w with
  |a::r=>if a=A7g then(A2Z 4 r).map λx=>(x.1,x.2+1)else none
  |[]=>none
def B3Z(o:Option (Cq×Nat)):Nat:=match o with
 |some (_,n)=>n
 |none=>0
def A5T(a b:Option (Cq×Nat)):Option (Cq×Nat):=match b with
 |some (c,n)=>if B3Z a<n then some (c,n)else a
 |none=>a
def A4L(w:List ByteArray):Nat->Option (Cq×Nat)
 |0=>none
 |i+1=>A5T (A4L w i) (A2j i w)
def B3G{k}{a}{r}(h1:¬0<kS a)(h2:a≠A3B):A2Z k (a::r)=none:=by
 have hb:bkN (a::r)=0:=by simp[bkN,h2]
 have hp:∀n,prs n (a::r)=[]:=λn=>by
  cases n with
  |zero=>simp[prs]
  |succ n=>
   cases r with
   |nil=>simp[prs]
   |cons b r=>rw[prs,Z0c λh=>h1 h.1]
 unfold A2Z A1f;rw[hb,Z1k,hp];simp
def B3x{a}{r}(h0:¬0<kS a)(h1:¬0<kP a)(h2:a≠A3B):A4a ((a::r).drop (A1f (a::r)))=none:=by
 have hb:bkN (a::r)=0:=by simp[bkN,h2]
 have hp:∀n,prs n (a::r)=[]:=λn=>by
  cases n with
  |zero=>simp[prs]
  |succ n=>
   cases r with
   |nil=>simp[prs]
   |cons b r=>rw[prs,Z0c λh=>h0 h.1]
 unfold A1f;rw[hb,Z1k,hp];simp only[Z1I,Nat.mul_zero,Z0U,Z1k];unfold A4a;split
 .rename_i e;simp only[Z1c]at e;rw[Z0c];rw[<-e.1]
  exactλh=>h1 h.1
 .rfl
def C9Z(w:List ByteArray):A4L w 5=B2f w:=by
 obtain⟨t1,t2,t3,t4,t5,t6,t7,t8⟩:=D0D;obtain⟨-,-,-,-,-,-,b1,b2,b3,n1,n2,n3⟩:=A3V;have pos:∀x:Option (Cq×Nat),(∀c n,x=some (c,n)->0<n)->A5T none x=x:=by
  intro x h;cases x with
  |none=>rfl
  |some y=>obtain⟨c,n⟩:=y;have:=h c n rfl;simp[A5T,B3Z,this]
 have keep:∀a,A5T a none=a:=λa=>rfl;cases w with
 |nil=>simp only[A4L,A2j,A2Z,A1f,bkN,A4a,B2f,A5T,Z4D,prs];simp[prs,A5T,B3Z]
 |cons a r=>
  rw[B8G];simp only[A4L];by_cases c1:a=A3P
  .subst c1;rw[Z0d rfl];have f0:A2j 0 (A3P::r)=none:=B3G t1 b1;(have f1:A2j 1 (A3P::r)=none:=by simp only[A2j,B3x t1 t5 b1]);(have f2:A2j 2 (A3P::r)=(A2G r).map λx=>((2,x.1,⟨#[]⟩),x.2+1):=by simp only[A2j,Z0M]);(have f3:A2j 3 (A3P::r)=none:=by cases r<;>simp[A2j,n1.symm]);(have f4:A2j 4 (A3P::r)=none:=by simp[A2j,n2.symm]);rw[f0,f1,f2,f3,f4,keep,keep,keep,keep,pos];intro c n e;cases hb:A2G r with
   |none=>rw[hb]at e;exact absurd e (by simp)
   |some y=>rw[hb]at e;simp at e;omega
  .rw[Z0c c1];(have f2:A2j 2 (a::r)=none:=by simp[A2j,c1]);by_cases c2:a=A6v
   .subst c2;rw[Z0d rfl];have f0:A2j 0 (A6v::r)=none:=B3G t2 b2;(have f1:A2j 1 (A6v::r)=none:=by simp only[A2j,B3x t2 t6 b2]);(have f4:A2j 4 (A6v::r)=none:=by simp[A2j,n3.symm]);rw[f0,f1,f2,f4,keep,keep,keep,keep];cases r with
    |nil=>rfl
    |cons b r=>
     by_cases c3:b=A9N
     .simp only[A2j,c3,Z4f,Z0M];rw[pos];intro c n e;cases hb:A2G r with
      |none=>rw[hb]at e;exact absurd e (by simp)
      |some y=>rw[hb]at e;simp at e;omega
     .simp only[A2j,c3,and_false,Z1o];rfl
   .rw[Z0c c2];(have f3:A2j 3 (a::r)=none:=by cases r<;>simp[A2j,c2]);by_cases c3:a=A7g
    .subst c3;rw[Z0d rfl];have f0:A2j 0 (A7g::r)=none:=B3G t3 b3;(have f1:A2j 1 (A7g::r)=none:=by simp only[A2j,B3x t3 t7 b3]);(have f4:A2j 4 (A7g::r)=(A2Z 4 r).map λx=>(x.1,x.2+1):=by simp[A2j]);rw[f0,f1,f2,f3,f4,keep,keep,keep,keep,pos];intro c n e;cases hb:A2Z 4 r with
     |none=>rw[hb]at e;exact absurd e (by simp)
     |some y=>rw[hb]at e;simp at e;omega
    .rw[Z0c c3];(have f4:A2j 4 (a::r)=none:=by simp[A2j,c3]);rw[f2,f3,f4,keep,keep,keep];have f:A5T none (A2Z 0 (a::r))=A2Z 0 (a::r):=by
      refine pos _ λc n e=>?_;have:=B4p (a::r);unfold A2Z at e;split at e
      .exact absurd e (by simp)
      .simp only[Z0b,Z0f]at e;omega
     have f0:A2j 0 (a::r)=A2Z 0 (a::r):=rfl;rw[f0,f];simp only[A2j];cases e:A4a ((a::r).drop (A1f (a::r)))with
     |none=>rfl
     |some y=>
      obtain⟨s,d⟩:=y;simp only;by_cases c5:(A2V (a::r)).length<=8
      .rw[Z0d c5];have:B3Z (A2Z 0 (a::r))<A1f (a::r)+4:=by
        unfold A2Z;split
        .simp[B3Z]
        .simp[B3Z]
       simp only[A5T,this,Z0M,Z0d c5]
      .rw[Z0c c5,Z0c c5];rfl
def D9e{k}{p}{to}:B4v ((k,p,to),[])=if A4q k p to=true then some (k,p,to)else none:=by simp[B4v]
def B4j{k}{p}{to}{b:Prop}[Decidable b](h:B4v ((k,p,to),[])=if b then some (k,p,to)else none):A4q k p to=decide b:=by rw[D9e]at h;by_cases c:A4q k p to=true<;>by_cases e:b<;>simp_all
def D0H(n:Nat)(w:List ByteArray):∀s∈prs n w,0<s.k:=λs hs=>by have:=Z0u.1 (A3U n w).1 s hs;simp only[A2b,Z0g,Z0l]at this;omega
def D2y{k}(hk:k=0\/k=4)(w:List ByteArray):A4q k (A2V w) ⟨#[]⟩=decide (A1f w≠bkN w):=by
 have hb:=B6y w;obtain⟨h1,h2,h3⟩:=A3U (9-bkN w) (w.drop (bkN w));refine B4j ?_;rw[show A2V w=bkS w++prs (9-bkN w) (w.drop (bkN w))from rfl,B3d hk (D0H _ _)];have e:(prs (9-bkN w) (w.drop (bkN w))≠[]/\(prs (9-bkN w) (w.drop (bkN w))).all A2b=true/\bkN w+(prs (9-bkN w) (w.drop (bkN w))).length<=9)<->A1f w≠bkN w:=by
  unfold A1f;constructor
  .rintro⟨a,-,-⟩;have:=Z2p.2 a;omega
  .intro a;exact⟨λe=>a (by rw[e];simp),h1,by omega⟩
 by_cases c:A1f w≠bkN w
 .rw[Z0d (e.2 c),Z0d c]
 .rw[Z0c λh=>c (e.1 h),Z0c c]
def D3i{w}{s}{d}(h:A4a (w.drop (A1f w))=some (s,d)):A4q 1 (A2V w++[s]) d=decide ((A2V w).length<=8):=by
 obtain⟨h1,h2,h3⟩:=A3U (9-bkN w) (w.drop (bkN w));unfold A4a at h;split at h
 .rename_i a b c d' r hd;split at h
  .rename_i hc;obtain⟨c1,c2,c3,c4⟩:=hc;simp only[Z0b,Z0f]at h;obtain⟨rfl,rfl⟩:=h;refine B4j ?_;have:=@B6i w _ (D0H (9-bkN w) (w.drop (bkN w))) a b d' c1;rw[show A2V w=bkS w++prs (9-bkN w) (w.drop (bkN w))from rfl,this];(have e:((prs (9-bkN w) (w.drop (bkN w))).all A2b=true/\bkN w+(prs (9-bkN w) (w.drop (bkN w))).length<=8/\A0B b=true/\A0B d'=true)<->(bkS w++prs (9-bkN w) (w.drop (bkN w))).length<=8:=by rw[Z0r,B1q];exact⟨λh=>h.2.1,λh=>⟨h1,h,c2,c4⟩⟩);by_cases c:(bkS w++prs (9-bkN w) (w.drop (bkN w))).length<=8
   .rw[Z0d (e.2 c),Z0d c]
   .rw[Z0c λh=>c (e.1 h),Z0c c]
  .exact absurd h (by simp)
 .exact absurd h (by simp)
def C7O:A0B ⟨#[]⟩=false:=by decide+kernel
def C3D{p}:A4q 1 p ⟨#[]⟩=false:=by simp[A4q,C7O]
def D7u{k}{to}:A4q k [] to=false:=by have h1:A4I []=false:=rfl;have h2:B1y []=false:=rfl;simp[A4q,h1,h2]
def B4T{k}(hk:k=2\/k=3){r}{p}{n}(h:A2G r=some (p,n)):A4q k p ⟨#[]⟩=true:=by
 cases r with
 |nil=>simp[A2G]at h
 |cons a r=>
  unfold A2G at h;simp only at h;split at h
  .rename_i hc;simp only[Z0b,Z0f]at h;obtain⟨rfl,rfl⟩:=h;obtain⟨h1,h2,h3⟩:=A3U 8 r;have:=@B4j k (⟨kS a,⟨#[]⟩⟩::prs 8 r) ⟨#[]⟩ True _ (by rw[C6y hk hc,Z0d ⟨rfl,h1,h2⟩];simp);simpa using this
  .exact absurd h (by simp)
def B2k{w}{c}{n}(h:B2f w=some (c,n)):A4q c.1 c.2.1 c.2.2=true/\0<n/\n<=w.length/\n<=23:=by
 have hb:=C4x w;rw[h]at hb;obtain⟨h1,h2,h3,h4,-⟩:=hb;refine⟨?_,h2,h3,h4⟩;unfold A4E A2l at h1;unfold B4v at h1;split at h1
 .rename_i hh;simp only[Z0b]at h1;rw[<-h1];exact hh.2
 .exact absurd h1 (by simp)
def A1k(l:List ByteArray)(at_:Nat)(en:Bool):List ByteArray:=if en=true then[]else B5F (l.drop at_)
def C8l{l}{at_}{en}(h:en=true\/l.length<=at_):A1k l at_ en=[]:=by
 unfold A1k;rcases h with h|h
 .rw[Z0d h]
 .split
  .rfl
  .rw[Z0o h];rfl
def D0C{l}{at_}(h:at_<l.length):A1k l at_ false=B8e (l[at_])::A1k l (at_+1) (!A4u l[at_]):=by unfold A1k;simp only[Z0J,Z1o];rw[Z0i h,B5F];cases c:A4u l[at_]<;>simp
def A6F(l:List ByteArray):Nat->Nat->List A1F
 |0,_=>[]
 |f+1,i=>if l.length<=i then[]else match B2f (B5F (l.drop i))with
  |some (c,n)=>⟨c.1,c.2.1,c.2.2,i,i+n⟩::A6F l f (i+n)
  |none=>A6F l f (i+1)
def B2K(l:List ByteArray):∀f g i,l.length<=f+i->l.length<=g+i->A6F l f i=A6F l g i
 |0,0,i,_,_=>rfl
 |0,g+1,i,h,_=>by rw[A6F,A6F,Z0d (by omega)]
 |f+1,0,i,_,h=>by rw[A6F,A6F,Z0d (by omega)]
 |f+1,g+1,i,h1,h2=>by
  rw[A6F,A6F];split
  .rfl
  .split
   .rename_i c n e;have:=(B2k e).2.1;rw[B2K l f g (i+n) (by omega) (by omega)]
   .rw[B2K l f g (i+1) (by omega) (by omega)]
def A3o(l:List ByteArray)(i:Nat):List A1F:=A6F l (l.length-i) i
def D5f{l}{i}(h:l.length<=i):A3o l i=[]:=by unfold A3o;rw[show l.length-i=0 from by omega];rfl
def D3k{l}{i n}{c}(h:i<l.length)(hc:B2f (B5F (l.drop i))=some (c,n)):A3o l i=⟨c.1,c.2.1,c.2.2,i,i+n⟩::A3o l (i+n):=by unfold A3o;obtain⟨f,hf⟩:∃f,l.length-i=f+1:=⟨l.length-i-1,by omega⟩;have:=(B2k hc).2.1;rw[hf,A6F,Z0c (by omega),hc];simp only;rw[B2K l f (l.length-(i+n)) (i+n) (by omega) (by omega)]
def D2b{l}{i}(h:i<l.length)(hc:B2f (B5F (l.drop i))=none):A3o l i=A3o l (i+1):=by unfold A3o;obtain⟨f,hf⟩:∃f,l.length-i=f+1:=⟨l.length-i-1,by omega⟩;rw[hf,A6F,Z0c (by omega),hc];simp only;rw[B2K l f (l.length-(i+1)) (i+1) (by omega) (by omega)]
def B9c(l:List ByteArray):∀f i,∀c∈A6F l f i,A4q c.k c.path c.to=true/\(i:Int)<=c.frm/\c.frm<c.at_/\c.at_<=l.length
 |0,i,c,hc=>by simp[A6F]at hc
 |f+1,i,c,hc=>by
  rw[A6F]at hc;split at hc
  .simp at hc
  .split at hc
   .rename_i x n e;obtain⟨h1,h2,h3,h4⟩:=B2k e;have ht:=B9y (l.drop i);simp at ht;simp only[Z0t]at hc;rcases hc with rfl|hc
    .exact⟨h1,Int.le_refl _,by simp;omega,by simp;omega⟩
    .obtain⟨a,b,d,e⟩:=B9c l f (i+n) c hc;exact⟨a,by omega,d,e⟩
   .obtain⟨a,b,d,e⟩:=B9c l f (i+1) c hc;exact⟨a,by omega,d,e⟩
def B0r(l:List ByteArray):∀f i,(A6F l f i).length<=l.length-i
 |0,i=>by simp[A6F]
 |f+1,i=>by
  rw[A6F];split
  .simp
  .split
   .rename_i x n e;have:=(B2k e).2.1;have:=B0r l f (i+n);simp;omega
   .have:=B0r l f (i+1);omega
end Go.Abs
