/- The texts CvE, CvF, CvG, CvH, CvI, CvJ, CvK, CvL, CvP, CvM, CvN, CvO, CvQ. -/
import Derived.Test.YtmpdkagfplajjaaGreatDoorAG25
set_option linter.all false
set_option maxRecDepth 100000
namespace Go.Abs
open Go.Proofs TryTypes Tryz
section
variable (gl:Nat->AV) (M:Mem)
def D2F(s:ByteArray)(hs:s.size<=maxLen):A0e (WC gl) 193 [S s] M (λv M'=>v=B (A2H s)/\M'=M):=by
 refine A0k hB func193 ?_;by_cases h1:s.size<1
 .have d:(s.size:Int)<1:=by omega
  have hw:A2H s=false:=by simp[A2H];omega
  simp -dsimp -implicitDefEqProofs[d,hw]
 have d:¬(s.size:Int)<1:=by omega
 by_cases h2:s.size<=24;case neg=>
  have b:(24:Int)<s.size:=by omega
  have f:(s.size:Int)>24:=b;have hw:A2H s=false:=by simp[A2H,h2]
  simp -dsimp -implicitDefEqProofs[d,b,f,hw]
 have b:¬(24:Int)<s.size:=by omega
 have f:¬(s.size:Int)>24:=b;have hw:A2H s=decide (A1y (A0U 33 126) s s.size 0<0):=by
  have:1<=s.size:=by omega
  simp[A2H,h2,this]
 simp -dsimp -implicitDefEqProofs[d,b,f];refine A0s hB s.size 3 (λT M1=>∃i:Nat,i<=s.size/\M1=M/\T 0=S s/\T 3=I i/\A1y (A0U 33 126) s s.size 0=A1y (A0U 33 126) s (s.size-i) i) ?_ ?_
 .exact⟨0,by omega,rfl,by simp,by simp,by simp⟩
 .rintro T M1 ⟨i,i1,rfl,t0,t3,ho⟩;by_cases hi:i<s.size
  ·(have a:(i:Int)<s.size:=by omega);have w1:IntKind.i64.wrap ((i:Int)+1)=(i+1:Nat):=by rw[A0H (by omega) (by omega)];omega
   rw[B3i _ _ hi]at ho;generalize hc:A0T s i=c at*;by_cases c1:c<33
   ·(have hp:A0U 33 126 c=true:=by simp[A0U,c1]);rw[hp,Z0d rfl]at ho
    (have hn:¬A1y (A0U 33 126) s s.size 0<0:=by rw[ho];omega);rw[Z0k hn]at hw
    simp -dsimp -implicitDefEqProofs[t0,t3,hi,a,hc,c1,hw]
   .by_cases c2:c>126
    ·(have hp:A0U 33 126 c=true:=by simp[A0U];omega);rw[hp,Z0d rfl]at ho
     (have hn:¬A1y (A0U 33 126) s s.size 0<0:=by rw[ho];omega);rw[Z0k hn]at hw
     have e:126<c:=c2;simp -dsimp -implicitDefEqProofs[t0,t3,hi,a,hc,c1,c2,e,hw]
    ·(have hp:A0U 33 126 c=false:=by simp[A0U];omega);rw[hp,Z0e (by simp)]at ho
     have e:¬126<c:=c2;simp -dsimp -implicitDefEqProofs[t0,t3,hi,a,hc,c1,c2,e,w1];exact⟨⟨i+1,by clear w1;omega,rfl,ho⟩,by clear w1;omega⟩
  ·(have a:¬(i:Int)<s.size:=by omega);rw[show s.size-i=0 by omega]at ho
   (have hn:A1y (A0U 33 126) s s.size 0<0:=by rw[ho,A1y];omega);rw[Z0p hn]at hw
   simp -dsimp -implicitDefEqProofs[t0,t3,a,hw]
def C9T(l:List ByteArray)(hl:l.length<=1000)(hs:∀s∈l,s.size<=maxLen)(v:AV)(hv:A1z 9 1 A4p M v l):A0e (WC gl) 195 [v] M (λr M'=>r=B (decide (l.length<=256)&&l.all A2H)/\M'=M):=by
 refine A0k hB func195 ?_;have a:A1H prog 37 v=some l.length:=hv.len (e':=9) (by simp);by_cases h1:l.length<=256;case neg=>
  have b:(256:Int)<l.length:=by omega
  have d:(l.length:Int)>256:=b;simp -dsimp -implicitDefEqProofs[a,b,d,h1]
 have b:¬(256:Int)<l.length:=by omega
 have d:¬(l.length:Int)>256:=b;simp -dsimp -implicitDefEqProofs[a,b,d];refine A0s hB l.length 3 (λT M1=>∃i:Nat,i<=l.length/\M1=M/\T 0=v/\T 3=I i/\l.all A2H=(l.drop i).all A2H) ?_ ?_
 .exact⟨0,by omega,rfl,by simp,by simp,by simp⟩
 .rintro T M1 ⟨i,i1,rfl,t0,t3,ho⟩;by_cases hi:i<l.length
  ·(have c:(i:Int)<l.length:=by omega);have w1:=A1i (i:=i) (by omega)
   obtain⟨p,p1,p2⟩:=hv.at1 (P:=prog) (t:=9) (f:=S) (λ_=>rfl) (by simp) (by simp) hi;have hd:l.drop i=l[i]::l.drop (i+1):=Z0h hi;rw[hd,Z1k]at ho;simp -dsimp -implicitDefEqProofs[t0,t3,a,hi,c,p1,p2];refine A0i func193 (D2F gl _ l[i] (hs _ (Z0v hi))) ?_;cases hp:A2H l[i]
   .rw[hp,Z0q]at ho;rw[ho,Z1H];simp -dsimp -implicitDefEqProofs[t0,t3]
   .rw[hp,Z0s]at ho;simp -dsimp -implicitDefEqProofs[t0,t3,w1];exact⟨⟨i+1,by clear w1;omega,rfl,ho⟩,by clear w1;omega⟩
  ·(have c:¬(i:Int)<l.length:=by omega);rw[show l.drop i=[]from Z0n (by omega)]at ho
   rw[ho];simp -dsimp -implicitDefEqProofs[t0,t3,a,c,h1]
def D0U(M:Mem)(l:List ByteArray)(v:AV)(M':Mem):Prop:=A1z 9 1 A4p M' v l/\Grow M M'/\A1n M.length v
def B5q(ws:List A0G)(o:Own)(hl:ws.length<=100000000):A0e (WC gl) 33 [.list 4 (A0g ws) o] M (D0U M (A1o ws)):=by
 refine A0k (hQ [5,19]) func33 ?_;simp -dsimp -implicitDefEqProofs;refine A0s (hQ [5,19]) ws.length 4 (λT M1=>∃i:Nat,i<=ws.length/\T 0=.list 4 (A0g ws) o/\T 4=I i/\A1z 9 1 A4p M1 (T 3) (A1o (ws.take i))/\Grow M M1/\A1n M.length (T 3)) ?_ ?_
 .refine⟨0,by omega,by simp,by simp,?_,A0c.app none M _,by simp[A1n]⟩;refine .inr ⟨M.length,0,[(0,0)],by simp[A1o],by simp[A1o],by simp[A1o,List.lookup]⟩
 .rintro T M1 ⟨i,i1,t0,t4,hv,hg,hL⟩;by_cases hi:i<ws.length
  ·(have a:(i:Int)<ws.length:=by omega);have w1:IntKind.i64.wrap ((i:Int)+1)=(i+1:Nat):=by rw[A0H (by omega) (by omega)];omega
   generalize b:T 3=ov at*;(have ht:A1o (ws.take (i+1))=A1o (ws.take i)++[ws[i].text]:=by rw[A1o,A1o,Z2f,Z0m hi,Z0Q];rfl);simp -dsimp -implicitDefEqProofs[t0,t4,hi,a,b,A0G.row,A0h,A0J];refine C1m gl hv (by simp[A1o];omega) rfl ?_;intro v' M' h1 h2 h3;obtain⟨k1,k2⟩:=A4T (X:=[]) hg hL (by simpa using h2) (by simpa using h3);simp -dsimp -implicitDefEqProofs[t0,t4,w1];exact⟨⟨i+1,by clear w1;omega,rfl,by rw[ht];exact h1,k1,k2⟩,by clear w1;omega⟩
  ·(have a:¬(i:Int)<ws.length:=by omega);rw[Z0l (by omega)]at hv
   simp -dsimp -implicitDefEqProofs[t0,t4,a,D0U,hv,hg,hL]
def C7K(ws:List A0G)(o:Own)(hl:ws.length<=100000000)(hs:∀w∈ws,w.text.size<=maxLen):A0e (WC gl) 245 [.list 4 (A0g ws) o] M (λv M'=>v=B (A3l ws)/\M'=M):=by
 have key:A0e (WC gl) 245 [.list 4 (A0g ws) o] M (λv M'=>(∃x,v=.val x/\x=.bool (A3l ws))/\Grow M M'):=by
  refine A0k hB func245 ?_;by_cases h1:ws.length<=256
  ·(have a:(ws.length:Int)<=256:=by omega);simp -dsimp -implicitDefEqProofs[a]
   refine A0j func33 (B5q gl M ws o hl) ?_;rintro v M1 ⟨hv,hg,hL⟩;simp -dsimp -implicitDefEqProofs;refine A0j func195 (C9T gl M1 (A1o ws) (by simp[A1o];omega) (by simpa[A1o]using hs) v hv) ?_;rintro _ _ ⟨rfl,rfl⟩;rw[C0n];simp -dsimp -implicitDefEqProofs[A3l,A1o,hg]
  ·(have a:¬(ws.length:Int)<=256:=by omega);simp -dsimp -implicitDefEqProofs[a,A3l,h1]
   exact A0c.refl _ _
 exact(A6L (Q:=λx=>x=.bool (A3l ws)) key).mono (by rintro v M' ⟨⟨x,rfl,rfl⟩,rfl⟩;exact⟨rfl,rfl⟩)
end
def A9R(l:List Int):List (List AV):=l.map λx=>[I x]
@[simp] def D7Z(l:List Int):(A9R l).length=l.length:=by simp[A9R]
@[simp] def D7X{p}{i}(h:i<(A9R p).length):(A9R p)[i]=[I (p[i]'(by simpa using h))]:=by simp[A9R]
def A4A:AV:=.cptr (A3D.map λl=>.list 1 (A9R l) .no)
def A9f:List ByteArray:=[⟨#[98,111,111,107]⟩,⟨#[112,97,114,116]⟩,⟨#[115,101,99,116,105,111,110]⟩,⟨#[112,97,114,97,103,114,97,112,104]⟩,⟨#[116,97,98,108,101]⟩,⟨#[114,111,119]⟩,⟨#[99,101,108,108]⟩,⟨#[110,111,116,101]⟩]
def A4S:AV:=.cptr (A9f.map S)
section
variable (gl:Nat->AV) (M:Mem)
def C8P(l:List Int)(o:Own)(hl:l.length<=1000)(x:Int):A0e (WC gl) 261 [.list 1 (A9R l) o,I x] M (λv M'=>v=I (A6g (λy=>decide (x=y)) l 0)/\M'=M):=by
 refine A0k hB func261 ?_;simp -dsimp -implicitDefEqProofs;refine A0s hB l.length 8 (λT M1=>∃i:Nat,i<=l.length/\M1=M/\T 0=.list 1 (A9R l) o/\T 1=I x/\T 7=I l.length/\T 8=I i/\A6g (λy=>decide (x=y)) l 0=A6g (λy=>decide (x=y)) (l.drop i) i) ?_ ?_
 .exact⟨0,by omega,rfl,by simp,by simp,by simp,by simp,by simp⟩
 .rintro T M1 ⟨i,i1,rfl,t0,t1,t7,t8,ho⟩;by_cases hi:i<l.length
  ·(have a:(i:Int)<l.length:=by omega);have w1:=A1i (i:=i) (by omega)
   have hd:l.drop i=l[i]::l.drop (i+1):=Z0h hi;rw[hd,A6g]at ho;by_cases hp:x=l[i]
   .rw[Z0p hp,Z0d rfl]at ho;simp -dsimp -implicitDefEqProofs[t0,t1,t7,t8,hi,a,hp.symm,ho]
   .rw[Z0k hp,Z0e (by simp)]at ho;simp -dsimp -implicitDefEqProofs[t0,t1,t7,t8,hi,a,hp,w1];exact⟨⟨i+1,by clear w1;omega,rfl,ho⟩,by clear w1;omega⟩
  ·(have a:¬(i:Int)<l.length:=by omega);rw[show l.drop i=[]from Z0n (by omega)]at ho
   simp -dsimp -implicitDefEqProofs[t0,t1,t7,t8,a,ho,A6g]
def C2S(l:List Int)(o:Own)(hl:l.length<=1000)(x:Int):A0e (WC gl) 205 [.list 1 (A9R l) o,I x] M (λv M'=>v=B (l.contains x)/\M'=M):=by
 refine A0k hB func205 ?_;simp -dsimp -implicitDefEqProofs;refine A0i func261 (C8P gl M l o hl x) ?_;have:l.contains x=l.any λy=>decide (x=y):=by rw[List.contains_eq_any_beq];congr 1
 rw[this,<-B4u _ l 0];simp -dsimp -implicitDefEqProofs
def D6M:C7g prog 242=some (8,130):=by kernel_rfl
def D6R:C7g prog 278=some (8,9):=by kernel_rfl
def D0w{h}{d}{y}{t:TypeId}{p}{af}{g}{ρ:Operand->AV}{M}{k}(h0:ρ (.global 0)=A4A)(hy:ρ y=I k)(k0:0<=k)(k8:k<8):A0A (WC gl) h ⟨d,.indexAddr 242 (.global 0) y,t,p,af,g⟩ ρ M=some (.cptr ((A3D.map λl=>AV.list 1 (A9R l) .no).drop k.toNat),M):=by simp[A0A,A0n,A0W,A0R,A0E,h0,hy,A4A,D6M,k0,k8]
def C9M{h}{d}{y}{t:TypeId}{p}{af}{g}{ρ:Operand->AV}{M}{k}(h0:ρ (.global 1)=A4S)(hy:ρ y=I k)(k0:0<=k)(k8:k<8):A0A (WC gl) h ⟨d,.indexAddr 278 (.global 1) y,t,p,af,g⟩ ρ M=some (.cptr ((A9f.map S).drop k.toNat),M):=by simp[A0A,A0n,A0W,A0R,A0E,h0,hy,A4S,D6R,k0,k8]
def C4I(p k:Int):A0e (WC gl) 106 [I p,I k] M (λv M'=>v=B (A1w p k)/\M'=M):=by
 refine A0k hB func106 ?_;by_cases h0:p=0
 .subst h0;have e:A1w 0 k=(decide (k=1)||decide (k=2)):=by simp[A1w,A3D]
  rw[e];by_cases k1:k=1
  .simp -dsimp -implicitDefEqProofs[k1]
  .simp -dsimp -implicitDefEqProofs[k1];rfl
 by_cases h1:p=1
 .subst h1;have e:A1w 1 k=decide (k=2):=by simp[A1w,A3D]
  rw[e];simp -dsimp -implicitDefEqProofs;rfl
 by_cases h2:p=2
 .subst h2;have e:A1w 2 k=(decide (k=3)||decide (k=4)||decide (k=7)):=by simp[A1w,A3D,Z3T]
  rw[e];by_cases k1:k=3
  .simp -dsimp -implicitDefEqProofs[k1]
  .by_cases k2:k=4
   .simp -dsimp -implicitDefEqProofs[k1,k2]
   .simp -dsimp -implicitDefEqProofs[k1,k2];rfl
 by_cases h3:p=3
 .subst h3;have e:A1w 3 k=(decide (k=3)||decide (k=4)||decide (k=7)):=by simp[A1w,A3D,Z3T]
  rw[e];by_cases k1:k=3
  .simp -dsimp -implicitDefEqProofs[k1]
  .by_cases k2:k=4
   .simp -dsimp -implicitDefEqProofs[k1,k2]
   .simp -dsimp -implicitDefEqProofs[k1,k2];rfl
 by_cases h4:p=4
 .subst h4;have e:A1w 4 k=decide (k=5):=by simp[A1w,A3D]
  rw[e];simp -dsimp -implicitDefEqProofs;rfl
 by_cases h5:p=5
 .subst h5;have e:A1w 5 k=decide (k=6):=by simp[A1w,A3D]
  rw[e];simp -dsimp -implicitDefEqProofs;rfl
 .have e:A1w p k=false:=by
   by_cases q:0<=p/\p<8
   ·(have:p=6\/p=7:=by omega);rcases this with rfl|rfl<;>simp[A1w,A3D]
   .simp only[A1w,Z2A,Z1n];omega
  simp -dsimp -implicitDefEqProofs[h0,h1,h2,h3,h4,h5,e]
def C5y{e}{x i}{cs}(h:x=.cptr cs):A5O e x i=none:=by subst h;unfold A5O;split<;>simp_all
def B2M(hg:gl 0=A4A)(p k:Int):A0e (WC gl) 152 [I p,I k] M (λv M'=>v=B (A1w p k)/\M'=M):=by
 refine A0k hB func152 ?_;by_cases h0:0<=p;case neg=>
  have a:¬p>=0:=h0;have e:A1w p k=false:=by simp[A1w,h0]
  simp -dsimp -implicitDefEqProofs[h0,a,e]
 have a:p>=0:=h0;by_cases h1:p<8;case neg=>
  have e:A1w p k=false:=by simp[A1w,h1]
  simp -dsimp -implicitDefEqProofs[h0,a,h1,e]
 have hn:∀e,A5O e (gl 0) (I p)=none:=λe=>C5y hg;simp -dsimp -implicitDefEqProofs[h0,a,h1,hn];rw[D0w gl (k:=p) (by exact hg) (by rfl) h0 h1];have c:p.toNat<A3D.length:=by show p.toNat<8;omega
 have hd:(A3D.map λl=>AV.list 1 (A9R l) .no).drop p.toNat=.list 1 (A9R A3D[p.toNat]) .no::(A3D.map λl=>AV.list 1 (A9R l) .no).drop (p.toNat+1):=by rw[Z0h (by simpa using c),Z2w]
 have b:∀l∈A3D,l.length<=1000:=by decide
 have e:A1w p k=A3D[p.toNat].contains k:=by simp only[A1w,Z0p h0,Z0p h1,Z0s,Z1d,Z0m c,Z1p]
 rw[e];simp -dsimp -implicitDefEqProofs[hd];refine A0i func205 (C2S gl M _ .no (b _ (Z0v c)) k) ?_;simp -dsimp -implicitDefEqProofs
def A4F(k:Int):ByteArray:=if 0<=k/\k<8 then A9f.getD k.toNat .empty else⟨#[]⟩
def A6F(k:Int):A4F k=⟨#[]⟩<->¬(0<=k/\k<8):=by
 unfold A4F;constructor
 .intro h hk;rw[Z0d hk]at h;have:∀i:Fin 8,A9f.getD i.val .empty≠⟨#[]⟩:=by decide
  exact this ⟨k.toNat,by omega⟩ h
 .intro h;rw[Z0e h]
def B1m(hg:gl 1=A4S)(k:Int):A0e (WC gl) 207 [I k] M (λv M'=>v=S (A4F k)/\M'=M):=by
 refine A0k hB func207 ?_;by_cases h0:k<0
 .have e:A4F k=⟨#[]⟩:=(A6F k).2 (by omega);simp -dsimp -implicitDefEqProofs[h0,e]
 by_cases h1:8<=k
 .have a:k>=8:=h1;have e:A4F k=⟨#[]⟩:=(A6F k).2 (by omega);simp -dsimp -implicitDefEqProofs[h0,h1,a,e]
 have a:¬k>=8:=h1;have hn:∀e,A5O e (gl 1) (I k)=none:=λe=>C5y hg;simp -dsimp -implicitDefEqProofs[h0,h1,a,hn];rw[C9M gl (k:=k) (by exact hg) (by rfl) (by omega) (by omega)];have b:k.toNat<A9f.length:=by show k.toNat<8;omega
 have hd:(A9f.map S).drop k.toNat=S A9f[k.toNat]::(A9f.map S).drop (k.toNat+1):=by rw[Z0h (by simpa using b),Z2w]
 have e:A4F k=A9f[k.toNat]:=by rw[A4F,Z0d (by omega),Z1d,Z0m b];rfl
 rw[e];simp -dsimp -implicitDefEqProofs[hd]
end
open Go.Proofs TryTypes
section
mutual
def A5g{A:Type}(p:A0b->Bool)(stp:A->A0b->A):A0b->A->Bool×A
 |.mk id k l h w ks,a=>if p (.mk id k l h w ks)then A4z p stp ks (stp a (.mk id k l h w ks))else(false,stp a (.mk id k l h w ks))
def A4z{A:Type}(p:A0b->Bool)(stp:A->A0b->A):List A0b->A->Bool×A
 |[],a=>(true,a)
 |u::l,a=>if(A5g p stp u a).1 then A4z p stp l (A5g p stp u a).2 else(false,(A5g p stp u a).2)
end
section
variable (gl:Nat->AV)
end
end
abbrev C1H(x:Int×ByteArray):AV:=.agg [I x.1,S x.2]
abbrev A2O(x:IdD):AV:=.agg x.row
def D2E:prog.stoodInHeld 247=false:=by kernel_rfl
def C2U:prog.stoodInHeld 23=false:=by kernel_rfl
def D3H{a b:ByteArray}:(a.data==b.data)=decide (a=b):=by
 by_cases h:a=b
 .subst h;simp
 .rw[Z0k h];refine Z1c.2 λe=>h ?_;cases a;cases b;simp only at e;rw[e]
def D4n(a:ByteArray):(a==a)=true:=by show(a.data==a.data)=true;simp
def D4Z{x y:Int}(h:¬x=y):(x==y)=false:=Z1c.2 h
def C1n:C0C prog 245 247 4 C1H:=by
 refine⟨by kernel_rfl,by kernel_rfl,λk=>?_,λa b=>?_,λa=>⟨.agg #[.int .i64 a.1,.string a.2],by simp[A7n],?_⟩⟩
 .simp[A5Z,A0t,underlying247]
 .obtain⟨x,s⟩:=a;obtain⟨y,t⟩:=b;simp[A8H,A2Y,A0t,D2E];rw[D3H];by_cases h1:x=y
  .subst h1;by_cases h2:s=t
   .subst h2;simp
   .simp[h2]
  .simp[h1,D4Z h1]
 .simp[Instr.sameBits,D4n]
def A9L(t e:TypeId)(c:A9n prog t=some (23,e)):C0C prog t 23 e A2O:=by
 refine⟨c,by kernel_rfl,λk=>?_,λa b=>?_,λa=>⟨.agg #[.int .i64 a.act,.int .i64 a.item,.int .i64 a.n],by simp[A7n,IdD.row],?_⟩⟩
 .simp[A5Z,A0t,IdD.row]
 .obtain⟨x,y,z⟩:=a;obtain⟨x',y',z'⟩:=b;simp[A8H,A2Y,A0t,C2U,IdD.row];by_cases h1:x=x'
  .subst h1;by_cases h2:y=y'
   .subst h2;by_cases h3:z=z'
    .subst h3;simp
    .simp[h3,D4Z h3]
   .simp[h2,D4Z h2]
  .simp[h1,D4Z h1]
 .simp[Instr.sameBits]
def B9g(t e:TypeId)(c:A9n prog t=some (3,e)):C0C prog t 3 e I:=by
 refine⟨c,by kernel_rfl,λk=>?_,λa b=>?_,λa=>⟨.int .i64 a,by simp[A7n],?_⟩⟩
 .simp[A5Z]
 .simp[A8H];by_cases h1:a=b
  .subst h1;simp
  .simp[h1]
 .simp[Instr.sameBits]
@[simp] def D9k{a}{b}:A0Q prog 247 [(0,I a),(1,S b)]=some (.agg [I a,S b]):=by
 simp[A0Q,A1G,A2e,A0d]
@[simp] def C8l:A0Q prog 23 []=some (.agg [I 0,I 0,I 0]):=by
 simp[A0Q,A1G]
def B5C{K:Type}[DecidableEq K](c:K):∀A1c:List K,A1B (A1c.map λx=>(x,true)) c=if(A1c.any λy=>decide (y=c))then some true else none
 |[]=>rfl
 |x::l=>by
  rw[Z0C,A1B,Z1V];by_cases h:c=x
  .subst h;simp
  .rw[Z0e h,Z0k (λe=>h e.symm),Z0X];exact B5C c l
def B5s{K:Type}[DecidableEq K](c:K):∀A1c:List K,(A1c.any λy=>decide (y=c))=false->A8n (A1c.map λx=>(x,true)) c true=(A1c++[c]).map λx=>(x,true)
 |[],_=>rfl
 |x::l,h=>by
  rw[Z1V,Z2b]at h;have h1:¬c=x:=λe=>by subst e;simp at h
  rw[Z0C,A8n,Z0e h1,B5s c l h.2];rfl
def B7v(u:A0b):Bool:=if u.kind=0 then decide (u.label.size=0)&&decide (u.head.length+u.words.length=0)else decide (0<=u.kind/\u.kind<8)&&A0K u.label&&A3l u.head&&A3l u.words
def A8x(kind:Int):List A0b->List (Int×ByteArray)->Bool
 |[],_=>true
 |k::ks,A1c=>A1w kind k.kind&&!(A1c.any λy=>decide (y=(k.kind,k.label)))&&A8x kind ks (A1c++[(k.kind,k.label)])
def A9g(u:A0b):Bool:=B7v u&&A8x u.kind u.kids []&&decide (u.kids.length<=64)
def A0b.lim(u:A0b):Prop:=u.head.length<=100000000/\u.words.length<=100000000/\u.kids.length<=1000/\u.label.size<=1000
section
variable (gl:Nat->AV) (M:Mem)
set_option maxHeartbeats 1000000 in
def D2r(am:gl 0=A4A)(ac:gl 1=A4S)(u:A0b)(hg:u.good)(hl:u.lim):A0e (WC gl) 156 [.agg u.row] M (λv M'=>v=B (A9g u)/\Grow M M'):=by
 obtain⟨id,kind,b,hd,ws,ks⟩:=u;obtain⟨_,_,_,_,ak,_,al,_,aq⟩:=(A0b.good_iff _).1 hg;obtain⟨a9,a7,aj,af⟩:=hl;have a9:hd.length<=100000000:=a9;have a7:ws.length<=100000000:=a7;have aj:ks.length<=1000:=aj;have af:b.size<=1000:=af;have ae:(A0b.mk id kind b hd ws ks).row=[I id.act,I id.item,I id.n,I kind,S b,.list 4 (A0g hd) .no,.list 4 (A0g ws) .no,.list 8 (A0O ks) .no]:=by rw[A0b.row]
 have a6:A9g (.mk id kind b hd ws ks)=(B7v (.mk id kind b hd ws ks)&&A8x kind ks []&&decide (ks.length<=64)):=rfl;have d:B7v (.mk id kind b hd ws ks)=if kind=0 then decide (b.size=0)&&decide (hd.length+ws.length=0)else decide (0<=kind/\kind<8)&&A0K b&&A3l hd&&A3l ws:=rfl;rw[ae];obtain⟨R,hR⟩:∃R,R=A9g (.mk id kind b hd ws ks):=⟨_,rfl⟩;rw[<-hR];have a:B7v (.mk id kind b hd ws ks)=false->R=false:=λh=>by rw[hR,a6,h];rfl
 refine A0k hW func156 ?_;by_cases k0:kind=0;case' pos=>
  rw[Z0d k0]at d;by_cases h1:b=⟨#[]⟩;case neg=>have a4:¬b.size=0:=λe=>h1 (A4G.2 e);have:=a (by rw[d,Z0k a4,Z0q]);simp -dsimp -implicitDefEqProofs[Z0J k0,h1,this,A0c.refl]
  have a4:b.size=0:=A4G.1 h1;have wz:IntKind.i64.wrap ((hd.length:Int)+(ws.length:Int))=(hd.length:Int)+(ws.length:Int):=A0H (by omega) (by omega);by_cases h2:hd.length+ws.length=0;case neg=>
   (have r:(0:Int)<(hd.length:Int)+(ws.length:Int):=by omega);have a5:(hd.length:Int)+(ws.length:Int)>0:=r
   have:=a (by rw[d,Z0k h2,Z1H]);simp -dsimp -implicitDefEqProofs[Z0J k0,Z0J h1,wz,r,a5,this,A0c.refl]
  have r:¬(0:Int)<(hd.length:Int)+(ws.length:Int):=by omega
  have a5:¬(hd.length:Int)+(ws.length:Int)>0:=r;have o:B7v (.mk id kind b hd ws ks)=true:=by rw[d,Z0p a4,Z0p h2];rfl
  have m:Grow M M:=A0c.refl _ _;simp -dsimp -implicitDefEqProofs[Z0J k0,Z0J h1,wz,r,a5]
 case' neg=>
  rw[Z0e k0]at d;by_cases h1:0<=kind/\kind<8;case neg=>have e:A4F kind=⟨#[]⟩:=(A6F kind).2 h1;have:=a (by rw[d,Z0k h1];rfl);simp -dsimp -implicitDefEqProofs[k0];refine A0j func207 (B1m gl M ac kind) ?_;rintro _ _ ⟨rfl,rfl⟩;simp -dsimp -implicitDefEqProofs[e,this,A0c.refl]
  have e:¬A4F kind=⟨#[]⟩:=λq=>(A6F kind).1 q h1;rw[Z0p h1,Z0s]at d;simp -dsimp -implicitDefEqProofs[k0];refine A0j func207 (B1m gl M ac kind) ?_;rintro _ M0 ⟨rfl,rfl⟩;simp -dsimp -implicitDefEqProofs[e];refine A0j func112 (B1u gl M0 b) ?_;rintro _ M ⟨rfl,m⟩;cases h2:A0K b;case false=>have:=a (by rw[d,h2];rfl);simp -dsimp -implicitDefEqProofs[this,m]
  rw[h2,Z0s]at d;simp -dsimp -implicitDefEqProofs;refine A0j func208 (D2N gl M hd .no a9 (λw hw=>(ak w hw).1)) ?_;rintro _ M ⟨rfl,rfl⟩;cases h3:A3l hd;case false=>have:=a (by rw[d,h3];rfl);simp -dsimp -implicitDefEqProofs[this,m]
  rw[h3,Z0s]at d;simp -dsimp -implicitDefEqProofs;refine A0j func208 (D2N gl M ws .no a7 (λw hw=>(al w hw).1)) ?_;rintro _ M ⟨rfl,rfl⟩;cases h4:A3l ws;case false=>have:=a (by rw[d,h4]);simp -dsimp -implicitDefEqProofs[this,m]
  have o:B7v (.mk id kind b hd ws ks)=true:=by rw[d,h4]
  simp -dsimp -implicitDefEqProofs
 all_goals
  have f:R=(A8x kind ks []&&decide (ks.length<=64)):=by rw[hR,a6,o,Z0s]
  have t:=λ{X:Mem} (h:Grow M X)=>m.trans h
  clear a a6 d hR o
  refine A0s hW ks.length 49 (λT M1=>∃i:Nat,i<=ks.length/\T 1=.cptr [I id.act,I id.item,I id.n,I kind,S b,.list 4 (A0g hd) .no,.list 4 (A0g ws) .no,.list 8 (A0O ks) .no]/\T 3=.mapr M.length/\T 47=.list 8 (A0O ks) .no/\T 48=I ks.length/\T 49=I i/\Grow M M1/\∃A1c,A1T C1H B M1 M.length (A1c.map λx=>(x,true))/\A8x kind ks []=A8x kind (ks.drop i) A1c) ?_ ?_
  .exact⟨0,by omega,by simp,by simp,by simp,by simp,by simp,A0c.app none M _,[],A1T.new M,by simp⟩
  .rintro T M2 ⟨i,i1,t1,t3,s,a3,a2,a8,A1c,ad,ho⟩;by_cases hi:i<ks.length
   ·(have a0:(i:Int)<ks.length:=by omega);have w1:=A1i (i:=i) (by omega)
    have an:ks.drop i=ks[i]::ks.drop (i+1):=Z0h hi;rw[an,A8x]at ho;obtain⟨X,hX⟩:∃X,X=ks[i]:=⟨_,rfl⟩;(have ao:ks[i].row=[I X.id.act,I X.id.item,I X.id.n,I X.kind,S X.label,.list 4 (A0g X.head) .no,.list 4 (A0g X.words) .no,.list 8 (A0O X.kids) .no]:=by rw[<-hX];exact X.row_eq);rw[<-hX]at ho;(have ai:(M2++[A0p.cells 27 [I X.id.act,I X.id.item,I X.id.n,I X.kind,S X.label,.list 4 (A0g X.head) .no,.list 4 (A0g X.words) .no,.list 8 (A0O X.kids) .no]])[M2.length]?=some (A0p.cells 27 [I X.id.act,I X.id.item,I X.id.n,I X.kind,S X.label,.list 4 (A0g X.head) .no,.list 4 (A0g X.words) .no,.list 8 (A0O X.kids) .no]):=by simp);simp -dsimp -implicitDefEqProofs[t1,t3,s,a3,a2,hi,a0,A0o,A0l,A0d,AV.storable,AV.cells,ao,A0a ai];obtain⟨c,hc⟩:∃c:Int×ByteArray,c=(X.kind,X.label):=⟨_,rfl⟩;(have ab:AV.agg [I X.kind,S X.label]=C1H c:=by rw[hc]);generalize a1:M2++[A0p.cells 27 [I X.id.act,I X.id.item,I X.id.n,I X.kind,S X.label,.list 4 (A0g X.head) .no,.list 4 (A0g X.words) .no,.list 8 (A0O X.kids) .no],A0p.cells 247 [I X.kind,S X.label]]=M3;(have ah:M3[M2.length+1]?=some (A0p.cells 247 [I X.kind,S X.label]):=by rw[<-a1];simp);(have aa:M3[M2.length]?=some (A0p.cells 27 [I X.id.act,I X.id.item,I X.id.n,I X.kind,S X.label,.list 4 (A0g X.head) .no,.list 4 (A0g X.words) .no,.list 8 (A0O X.kids) .no]):=by rw[<-a1];simp);(have ag:Grow M2 M3:=by rw[<-a1];exact A0c.app none _ _);have l:=ad.keep ag (by simp);have g:=a8.trans ag;clear a1 ai;simp -dsimp -implicitDefEqProofs[t1,A0a aa];refine A0j func152 (B2M gl M3 am kind X.kind) ?_;rintro _ _ ⟨rfl,rfl⟩;cases hn:A1w kind X.kind;(case false=>rw[hn,Z0q,Z0q]at ho;rw[ho,Z0q]at f;simp -dsimp -implicitDefEqProofs[t1,f,t g]);rw[hn,Z0s]at ho;have p:=l.get C1n c (z:=B false) (by kernel_rfl) false;rw[<-ab]at p;rw[B5C]at p;rw[<-hc]at ho;simp -dsimp -implicitDefEqProofs[t3,A0a ah,p];cases hs:A1c.any λy=>decide (y=c);(case true=>rw[hs,Z1s,Z0q]at ho;rw[ho,Z0q]at f;simp -dsimp -implicitDefEqProofs[t1,f,t g]);rw[hs,Z1j,Z0s]at ho;obtain⟨M4,p1,p2,p3⟩:=l.put C1n c true;rw[B5s c A1c hs]at p2;rw[<-ab]at p1;(have ap:Grow M M4:=by refine⟨Z0T g.1 p3.1,λj hj _=>?_⟩;rw[p3.2 j (by have:=g.1;omega) (by simp;omega)];exact g.2 j hj (by simp));simp -dsimp -implicitDefEqProofs[t3,A0a ah,p1,t1,s,a3,a2,w1];exact⟨⟨i+1,by clear w1;omega,rfl,ap,A1c++[c],p2,ho⟩,by clear w1;omega⟩
   ·(have a0:¬(i:Int)<ks.length:=by omega);rw[show ks.drop i=[]from Z0n (by omega),A8x]at ho
    rw[ho,Z0s]at f;by_cases h64:ks.length<=64
    ·(have k:(ks.length:Int)<=64:=by omega);rw[Z0p h64]at f
     simp -dsimp -implicitDefEqProofs[t1,s,a3,a2,a0,k,f,t a8]
    ·(have k:¬(ks.length:Int)<=64:=by omega);rw[Z0k h64]at f
     simp -dsimp -implicitDefEqProofs[t1,s,a3,a2,a0,k,f,t a8]
end
def A4t(u:A0b):Bool:=decide (0<=u.kind/\u.kind<=7)&&decide (u.kids.length<=64)&&A3l u.head&&A3l u.words&&(if u.kind=0 then decide (u.label.size=0)&&decide (u.head.length=0)&&decide (u.words.length=0)else A0K u.label)
def A2M(a b:A0b):Bool:=decide (a.kind=b.kind)&&decide (a.label=b.label)
mutual
def A2T:A0b->Bool
 |.mk id k l h w ks=>A4t (.mk id k l h w ks)&&A4M k ks []
def A4M(kind:Int):List A0b->List A0b->Bool
 |[],_=>true
 |k::ks,before=>A1w kind k.kind&&A2T k&&!(before.any λa=>A2M a k)&&A4M kind ks (before++[k])
end
mutual
def A0b.lims:A0b->Prop
 |.mk id k l h w ks=>(A0b.mk id k l h w ks).lim/\A8u ks
def A8u:List A0b->Prop
 |[]=>True
 |k::ks=>k.lims/\A8u ks
end
def A7d:∀{l:List A0b},A8u l<->∀u∈l,u.lims
 |[]=>by simp[A8u]
 |u::l=>by simp[A8u,A7d (l:=l)]
section
variable (gl:Nat->AV)
def D0x(u:A0b)(M:Mem)(hg:u.good)(hl:u.lim):A0e (WC gl) 196 [.agg u.row] M (λv M'=>v=B (A4t u)/\M'=M):=by
 obtain⟨id,kind,b,hd,ws,ks⟩:=u;obtain⟨_,_,h,_,o,_,p,_,r⟩:=(A0b.good_iff _).1 hg;have h:b.size<=maxLen:=h;obtain⟨i,j,l,q⟩:=hl;have i:hd.length<=100000000:=i;have j:ws.length<=100000000:=j;have l:ks.length<=1000:=l;have m:(A0b.mk id kind b hd ws ks).row=[I id.act,I id.item,I id.n,I kind,S b,.list 4 (A0g hd) .no,.list 4 (A0g ws) .no,.list 8 (A0O ks) .no]:=by rw[A0b.row]
 obtain⟨R,hR⟩:∃R,R=A4t (.mk id kind b hd ws ks):=⟨_,rfl⟩;have a:R=(decide (0<=kind/\kind<=7)&&decide (ks.length<=64)&&A3l hd&&A3l ws&&(if kind=0 then decide (b.size=0)&&decide (hd.length=0)&&decide (ws.length=0)else A0K b)):=hR;rw[m,<-hR];clear hR;refine A0k hB func196 ?_;by_cases a1:kind<0
 .rw[Z0k (show¬(0<=kind/\kind<=7)by omega)]at a;simp only[Z0q]at a;simp -dsimp -implicitDefEqProofs[a1,a]
 by_cases a2:7<kind
 .have d:kind>7:=a2;rw[Z0k (show¬(0<=kind/\kind<=7)by omega)]at a;simp only[Z0q]at a;simp -dsimp -implicitDefEqProofs[a1,a2,d,a]
 have d:¬kind>7:=a2;rw[Z0p (show 0<=kind/\kind<=7 by omega),Z0s]at a;by_cases a3:ks.length<=64;case neg=>
  have c:(64:Int)<ks.length:=by omega
  have g:(ks.length:Int)>64:=c;rw[Z0k a3]at a;simp only[Z0q]at a;simp -dsimp -implicitDefEqProofs[a1,a2,d,c,g,a]
 have c:¬(64:Int)<ks.length:=by omega
 have g:¬(ks.length:Int)>64:=c;rw[Z0p a3,Z0s]at a;simp -dsimp -implicitDefEqProofs[a1,a2,d,c,g];refine A0i func245 (C7K gl M hd .no i (λw hw=>(o w hw).1)) ?_;cases h3:A3l hd;case false=>rw[h3]at a;simp only[Z0q]at a;simp -dsimp -implicitDefEqProofs[a]
 rw[h3,Z0s]at a;simp -dsimp -implicitDefEqProofs;refine A0i func245 (C7K gl _ ws .no j (λw hw=>(p w hw).1)) ?_;cases h4:A3l ws;case false=>rw[h4,Z0q]at a;simp -dsimp -implicitDefEqProofs[a]
 rw[h4,Z0s]at a;by_cases k0:kind=0
 .rw[Z0d k0]at a;by_cases h1:b=⟨#[]⟩
  .rw[Z0p (A4G.1 h1),Z0s]at a;by_cases h2:hd.length=0
   ·(have f:(hd.length:Int)=0:=by omega);rw[Z0p h2,Z0s]at a
    by_cases h5:ws.length=0
    ·(have k:(ws.length:Int)=0:=by omega);rw[Z0p h5]at a
     simp -dsimp -implicitDefEqProofs[Z0J k0,Z0J h1,Z0J f,Z0J h2,Z0J h5,Z0J k,a]
    ·(have k:¬(ws.length:Int)=0:=by omega);rw[Z0k h5]at a
     simp -dsimp -implicitDefEqProofs[Z0J k0,Z0J h1,Z0J f,Z0J h2,h5,k,a]
   ·(have f:¬(hd.length:Int)=0:=by omega);rw[Z0k h2,Z0q]at a
    simp -dsimp -implicitDefEqProofs[Z0J k0,Z0J h1,f,h2,a]
  .rw[Z0k (λe=>h1 (A4G.2 e)),Z0q,Z0q]at a;simp -dsimp -implicitDefEqProofs[Z0J k0,h1,a]
 .rw[Z0e k0]at a;simp -dsimp -implicitDefEqProofs[k0];refine A0i func105 (A7E gl M b h) ?_;simp -dsimp -implicitDefEqProofs[a]
def C0v:∀(u:A0b) (M:Mem),u.good->u.lims->A0e (WC gl) 142 [.agg u.row] M (λv M'=>v=B (A2T u)/\M'=M)
 |.mk id kind lab hd ws ks,M,hg,hl=>by
  obtain⟨_,_,a2,_,z,_,a0,_,m⟩:=(A0b.good_iff _).1 hg;have m:∀k∈ks,k.good:=m;rw[A0b.lims]at hl;obtain⟨h,l⟩:=hl;have l:=A7d.1 l;have a1:ks.length<=1000:=h.2.2.1;have s:(A0b.mk id kind lab hd ws ks).row=[I id.act,I id.item,I id.n,I kind,S lab,.list 4 (A0g hd) .no,.list 4 (A0g ws) .no,.list 8 (A0O ks) .no]:=by rw[A0b.row]
  have r:=D0x gl (.mk id kind lab hd ws ks) M hg h;obtain⟨R,hR⟩:∃R,R=A2T (.mk id kind lab hd ws ks):=⟨_,rfl⟩;have b:R=(A4t (.mk id kind lab hd ws ks)&&A4M kind ks []):=by rw[hR,A2T]
  rw[<-hR];rw[s]at r|-;clear hR;refine A0k hB func142 ?_;simp -dsimp -implicitDefEqProofs;refine A0i func196 r ?_;cases ha:A4t (.mk id kind lab hd ws ks);case false=>rw[ha,Z0q]at b;simp -dsimp -implicitDefEqProofs[b]
  rw[ha,Z0s]at b;simp -dsimp -implicitDefEqProofs;refine A0s hB ks.length 3 (λT M1=>∃i:Nat,i<=ks.length/\T 1=.cptr [I id.act,I id.item,I id.n,I kind,S lab,.list 4 (A0g hd) .no,.list 4 (A0g ws) .no,.list 8 (A0O ks) .no]/\T 3=I i/\M1=M/\A4M kind ks []=A4M kind (ks.drop i) (ks.take i)) ?_ ?_
  .exact⟨0,by omega,by simp,by simp,rfl,by simp⟩
  .rintro T M1 ⟨i,i1,t1,t3,rfl,ho⟩;by_cases hi:i<ks.length;case neg=>
    (have c:¬(i:Int)<ks.length:=by omega);rw[show ks.drop i=[]from Z0n (by omega),A4M]at ho
    rw[ho]at b;simp -dsimp -implicitDefEqProofs[t1,t3,c,b]
   (have c:(i:Int)<ks.length:=by omega);have w1:=A1i (i:=i) (by omega)
   have e:ks[i]∈ks:=Z0v hi;have y:ks.drop i=ks[i]::ks.drop (i+1):=Z0h hi;rw[y,A4M]at ho;(have t:ks.take i++[ks[i]]=ks.take (i+1):=by rw[Z2f,Z0m hi,Z2P]);rw[t]at ho;obtain⟨X,hX⟩:∃X,X=ks[i]:=⟨_,rfl⟩;(have d:ks[i].row=[I X.id.act,I X.id.item,I X.id.n,I X.kind,S X.label,.list 4 (A0g X.head) .no,.list 4 (A0g X.words) .no,.list 8 (A0O X.kids) .no]:=by rw[<-hX];exact X.row_eq);rw[<-hX]at ho;have f:=λM=>C0v ks[i] M (m _ e) (l _ e);simp only[d]at f;rw[<-hX]at f;simp -dsimp -implicitDefEqProofs[t1,t3,hi,c];refine A1h hB (A0w gl) (λ_=>0) (λ_=>0) (by rfl) (by kernel_rfl) ?_;simp -dsimp -implicitDefEqProofs[t1,t3,hi,c,d];refine A1j func106 (λM=>(C4I gl M kind X.kind)) ?_;cases hn:A1w kind X.kind;(case false=>rw[hn]at ho;simp only[Z0q]at ho;rw[ho]at b;simp -dsimp -implicitDefEqProofs[t1,t3,b]);rw[hn,Z0s]at ho;simp -dsimp -implicitDefEqProofs[t1,t3,hi,c,d];have:=A0b.kid_lt (u:=.mk id kind lab hd ws ks) e;refine A1j func142 f ?_;cases hrt:A2T X;(case false=>rw[hrt]at ho;simp only[Z0q]at ho;rw[ho]at b;simp -dsimp -implicitDefEqProofs[t1,t3,b]);rw[hrt,Z0s]at ho;simp -dsimp -implicitDefEqProofs[t1,t3];refine A2o hB (λT2 M2=>∃j:Nat,j<=i/\T2 1=.cptr [I id.act,I id.item,I id.n,I kind,S lab,.list 4 (A0g hd) .no,.list 4 (A0g ws) .no,.list 8 (A0O ks) .no]/\T2 3=I i/\T2 4=I j/\M2=M1/\((ks.take i).any λa=>A2M a X)=(((ks.take i).drop j).any λa=>A2M a X)) (λT M1=>match T 4 with|.val (.int _ j)=>i-j.toNat|_=>0) (by kernel_rfl) ?_ ?_
   .exact⟨0,by omega,by simp[t1],by simp[t3],by simp,rfl,by simp⟩
   .rintro T2 M2 ⟨j,j1,u1,u3,u4,rfl,hb⟩;by_cases hj:j<i;case neg=>
     (have p:¬(j:Int)<i:=by omega);rw[show(ks.take i).drop j=[]from Z0n (by simp;omega),Z2J]at hb
     rw[hb,Z1j,Z0s]at ho;simp -dsimp -implicitDefEqProofs[u1,u3,u4,p,w1,t3];exact⟨⟨i+1,by clear w1;omega,rfl,ho⟩,by clear w1;omega⟩
    (have p:(j:Int)<i:=by omega);have o:j<ks.length:=by omega
    (have g:(j:Int)<ks.length:=by omega);have w2:=A1i (i:=j) (by omega)
    (have w:(ks.take i).drop j=ks[j]::(ks.take i).drop (j+1):=by rw[Z0h (by simp;omega)];simp);rw[w,Z1V]at hb
    obtain⟨Y,hY⟩:∃Y,Y=ks[j]:=⟨_,rfl⟩;(have q:ks[j].row=[I Y.id.act,I Y.id.item,I Y.id.n,I Y.kind,S Y.label,.list 4 (A0g Y.head) .no,.list 4 (A0g Y.words) .no,.list 8 (A0O Y.kids) .no]:=by rw[<-hY];exact Y.row_eq);rw[<-hY]at hb;simp -dsimp -implicitDefEqProofs[u1,u3,u4,p];refine A1h hB (A0w gl) (λ_=>0) (λ_=>0) (by rfl) (by kernel_rfl) ?_;by_cases c1:Y.kind=X.kind
    .by_cases c2:Y.label=X.label
     ·(have hs:A2M Y X=true:=by simp[A2M,c1,c2]);rw[hs,Z1F]at hb
      rw[hb,Z1s,Z0q]at ho;rw[ho]at b;simp -dsimp -implicitDefEqProofs[u1,u3,u4,hi,c,o,g,d,q,Z0J c1,Z0J c2,b]
     ·(have hs:A2M Y X=false:=by simp[A2M,c2]);rw[hs,Z0X]at hb
      simp -dsimp -implicitDefEqProofs[u1,u3,u4,hi,c,o,g,d,q,Z0J c1,c2,w2];exact⟨⟨j+1,by clear w2;omega,rfl,hb⟩,by clear w2;omega⟩
    ·(have hs:A2M Y X=false:=by simp[A2M,c1]);rw[hs,Z0X]at hb
     simp -dsimp -implicitDefEqProofs[u1,u3,u4,hi,c,o,g,d,q,c1,w2];exact⟨⟨j+1,by clear w2;omega,rfl,hb⟩,by clear w2;omega⟩
termination_by u=>SizeOf.sizeOf u
end
mutual
def A0x:A0b->Nat
 |.mk _ _ _ _ _ ks=>1+A0V ks
def A0V:List A0b->Nat
 |[]=>0
 |k::ks=>A0x k+A0V ks
end
mutual
def A2f:A0b->Nat
 |.mk _ _ _ _ _ ks=>A3h ks
def A3h:List A0b->Nat
 |[]=>0
 |k::ks=>max (1+A2f k) (A3h ks)
end
mutual
def A0X:A0b->List IdD
 |.mk id _ _ _ _ ks=>id::A9M ks
def A9M:List A0b->List IdD
 |[]=>[]
 |k::ks=>A0X k++A9M ks
end
mutual
def B8n:∀u:A0b,A2f u<A0x u
 |.mk _ _ _ _ _ ks=>by rw[A2f,A0x];have:=C0s ks;omega
def C0s:∀ks:List A0b,A3h ks<=A0V ks
 |[]=>by rw[A3h,A0V];exact Z0u _
 |k::ks=>by rw[A3h,A0V];have:=B8n k;have:=C0s ks;omega
end
mutual
def A4D:∀u:A0b,(A0X u).length=A0x u
 |.mk _ _ _ _ _ ks=>by rw[A0X,A0x,Z0B,B8T ks];omega
def B8T:∀ks:List A0b,(A9M ks).length=A0V ks
 |[]=>by rw[A9M,A0V];rfl
 |k::ks=>by rw[A9M,A0V,Z0z,A4D k,B8T ks]
end
def A3R(u:A0b):0<A0x u:=by obtain⟨a,b,c,d,e,f⟩:=u;rw[A0x];omega
def A3Q:∀{ks:List A0b} {k:A0b},k∈ks->A0x k<=A0V ks
 |[],_,h=>by simp at h
 |x::ks,k,h=>by
  rw[A0V];rcases Z0F.1 h with rfl|h
  .omega
  .have:=A3Q h;omega
def A2t:∀ks:List A0b,ks.length<=A0V ks
 |[]=>by simp[A0V]
 |k::ks=>by rw[A0V,Z0B];have:=A3R k;have:=A2t ks;omega
def B5Z{ks:List A0b}{i:Nat}(h:i<ks.length):A0V (ks.drop i)=A0x ks[i]+A0V (ks.drop (i+1)):=by rw[Z0h h,A0V]
def B6y{ks:List A0b}{i:Nat}(h:i<ks.length):A3h (ks.drop i)=max (1+A2f ks[i]) (A3h (ks.drop (i+1))):=by rw[Z0h h,A3h]
section
variable (gl:Nat->AV)
def C3p:∀(u:A0b) (M:Mem),u.good->A0x u<=1000->A0e (WC gl) 157 [.agg u.row] M (λv M'=>(∃x,v=.val x/\x=.int .i64 (A2f u))/\M'=M)
 |.mk id kind lab hd ws ks,M,hg,hc=>by
  refine A6L ?_;obtain⟨_,_,y,_,q,_,s,_,f⟩:=(A0b.good_iff _).1 hg;have f:∀k∈ks,k.good:=f;have t:1+A0V ks<=1000:=by rwa[A0x]at hc
  have p:=A2t ks;have l:(A0b.mk id kind lab hd ws ks).row=[I id.act,I id.item,I id.n,I kind,S lab,.list 4 (A0g hd) .no,.list 4 (A0g ws) .no,.list 8 (A0O ks) .no]:=by rw[A0b.row]
  have o:A2f (.mk id kind lab hd ws ks)=A3h ks:=by rw[A2f]
  rw[l,o];refine A0k hW func157 ?_;simp -dsimp -implicitDefEqProofs;refine A0s hW ks.length 9 (λT M1=>∃i:Nat,i<=ks.length/\T 7=.list 8 (A0O ks) .no/\T 8=I ks.length/\T 9=I i/\Grow M M1/\∃d:Nat,T 3=I d/\d<=1000/\A3h ks=max d (A3h (ks.drop i))) ?_ ?_
  .exact⟨0,by omega,by simp,by simp,by simp,A0c.refl _ _,0,by simp,by omega,by simp⟩
  .rintro T M1 ⟨i,i1,t7,t8,t9,h,d,t3,d1,ho⟩;by_cases hi:i<ks.length
   ·(have g:(i:Int)<ks.length:=by omega);have w1:=A1i (i:=i) (by omega)
    have a:ks[i]∈ks:=Z0v hi;rw[B6y hi]at ho;have w:=A3Q a;have r:=B8n ks[i];(have m:(M1++[A0p.cells 27 ks[i].row])[M1.length]?=some (A0p.cells 27 ks[i].row):=by simp);have j:Grow M (M1++[A0p.cells 27 ks[i].row]):=h.trans (A0c.app none _ _);simp -dsimp -implicitDefEqProofs[t3,t7,t8,t9,hi,g,A0o,A0l,A0d,AV.storable,AV.cells,A0a m];have:=A0b.kid_lt (u:=.mk id kind lab hd ws ks) a;refine A0j func157 (C3p ks[i] _ (f _ a) (by omega)) ?_;rintro _ _ ⟨⟨_,rfl,rfl⟩,rfl⟩;generalize A2f ks[i]=dk at*;(have w2:IntKind.i64.wrap (1+(dk:Int))=((1+dk:Nat):Int):=by rw[A0H (by omega) (by omega)];omega);obtain⟨e,he⟩:∃e,e=1+dk:=⟨_,rfl⟩;rw[<-he]at w2 ho;by_cases hm:d<e
    ·(have b:(d:Int)<e:=by omega);have c:(e:Int)>d:=b
     simp -dsimp -implicitDefEqProofs[t3,t7,t8,t9,w1,w2,A7P,b,c];exact⟨⟨i+1,by clear w1;omega,rfl,j,e,rfl,by omega,by omega⟩,by clear w1;omega⟩
    ·(have b:¬(d:Int)<e:=by omega);have c:¬(e:Int)>d:=b
     simp -dsimp -implicitDefEqProofs[t3,t7,t8,t9,w1,w2,A7P,b,c];exact⟨⟨i+1,by clear w1;omega,rfl,j,d,rfl,by omega,by omega⟩,by clear w1;omega⟩
   ·(have g:¬(i:Int)<ks.length:=by omega);rw[show ks.drop i=[]from Z0n (by omega),A3h,Nat.max_zero]at ho
    simp -dsimp -implicitDefEqProofs[t3,t7,t8,t9,g,ho,h]
termination_by u=>SizeOf.sizeOf u
def C1b:∀(u:A0b) (M:Mem),u.good->A0x u<=1000->A0e (WC gl) 143 [.agg u.row] M (λv M'=>v=I (A2f u)/\M'=M)
 |.mk id kind lab hd ws ks,M,hg,hc=>by
  obtain⟨_,_,r,_,m,_,p,_,g⟩:=(A0b.good_iff _).1 hg;have g:∀k∈ks,k.good:=g;have q:1+A0V ks<=1000:=by rwa[A0x]at hc
  have l:=A2t ks;have h:(A0b.mk id kind lab hd ws ks).row=[I id.act,I id.item,I id.n,I kind,S lab,.list 4 (A0g hd) .no,.list 4 (A0g ws) .no,.list 8 (A0O ks) .no]:=by rw[A0b.row]
  have j:A2f (.mk id kind lab hd ws ks)=A3h ks:=by rw[A2f]
  rw[h,j];refine A0k hB func143 ?_;simp -dsimp -implicitDefEqProofs;refine A0s hB ks.length 4 (λT M1=>∃i:Nat,i<=ks.length/\T 1=.cptr [I id.act,I id.item,I id.n,I kind,S lab,.list 4 (A0g hd) .no,.list 4 (A0g ws) .no,.list 8 (A0O ks) .no]/\T 4=I i/\M1=M/\∃d:Nat,T 3=I d/\d<=1000/\A3h ks=max d (A3h (ks.drop i))) ?_ ?_
  .exact⟨0,by omega,by simp,by simp,rfl,0,by simp,by omega,by simp⟩
  .rintro T M1 ⟨i,i1,t1,t4,rfl,d,t3,d1,ho⟩;by_cases hi:i<ks.length
   ·(have c:(i:Int)<ks.length:=by omega);have w1:=A1i (i:=i) (by omega)
    have a:ks[i]∈ks:=Z0v hi;rw[B6y hi]at ho;have s:=A3Q a;have o:=B8n ks[i];simp -dsimp -implicitDefEqProofs[t1,t3,t4,hi,c];have:=A0b.kid_lt (u:=.mk id kind lab hd ws ks) a;refine A0i func143 (C1b ks[i] M1 (g _ a) (by omega)) ?_;generalize A2f ks[i]=dk at*;(have w2:IntKind.i64.wrap (1+(dk:Int))=((1+dk:Nat):Int):=by rw[A0H (by omega) (by omega)];omega);obtain⟨e,he⟩:∃e,e=1+dk:=⟨_,rfl⟩;rw[<-he]at w2 ho;by_cases hm:d<e
    ·(have b:(d:Int)<e:=by omega);have f:(e:Int)>d:=b
     simp -dsimp -implicitDefEqProofs[t1,t3,t4,w1,w2,A7P,b,f];exact⟨⟨i+1,by clear w1;omega,rfl,e,rfl,by omega,by omega⟩,by clear w1;omega⟩
    ·(have b:¬(d:Int)<e:=by omega);have f:¬(e:Int)>d:=b
     simp -dsimp -implicitDefEqProofs[t1,t3,t4,w1,w2,A7P,b,f];exact⟨⟨i+1,by clear w1;omega,rfl,d,rfl,by omega,by omega⟩,by clear w1;omega⟩
   ·(have c:¬(i:Int)<ks.length:=by omega);rw[show ks.drop i=[]from Z0n (by omega),A3h,Nat.max_zero]at ho
    simp -dsimp -implicitDefEqProofs[t1,t3,t4,c,ho]
termination_by u=>SizeOf.sizeOf u
def B5n:∀(u:A0b) (M:Mem),u.good->A0x u<=1000->A0e (WC gl) 49 [.agg u.row] M (λv M'=>v=I (A0x u)/\M'=M)
 |.mk id kind lab hd ws ks,M,hg,hc=>by
  obtain⟨_,_,o,_,l,_,m,_,c⟩:=(A0b.good_iff _).1 hg;have c:∀k∈ks,k.good:=c;have p:1+A0V ks<=1000:=by rwa[A0x]at hc
  have h:=A2t ks;have f:(A0b.mk id kind lab hd ws ks).row=[I id.act,I id.item,I id.n,I kind,S lab,.list 4 (A0g hd) .no,.list 4 (A0g ws) .no,.list 8 (A0O ks) .no]:=by rw[A0b.row]
  have g:A0x (.mk id kind lab hd ws ks)=1+A0V ks:=by rw[A0x]
  rw[f,g];refine A0k hB func49 ?_;simp -dsimp -implicitDefEqProofs;refine A0s hB ks.length 4 (λT M1=>∃i:Nat,i<=ks.length/\T 1=.cptr [I id.act,I id.item,I id.n,I kind,S lab,.list 4 (A0g hd) .no,.list 4 (A0g ws) .no,.list 8 (A0O ks) .no]/\T 4=I i/\M1=M/\∃d:Nat,T 3=I d/\1+A0V ks=d+A0V (ks.drop i)) ?_ ?_
  .exact⟨0,by omega,by simp,by simp,rfl,1,by simp,by simp⟩
  .rintro T M1 ⟨i,i1,t1,t4,rfl,d,t3,ho⟩;by_cases hi:i<ks.length
   ·(have b:(i:Int)<ks.length:=by omega);have w1:=A1i (i:=i) (by omega)
    have a:ks[i]∈ks:=Z0v hi;rw[B5Z hi]at ho;have q:=A3Q a;simp -dsimp -implicitDefEqProofs[t1,t3,t4,hi,b];have:=A0b.kid_lt (u:=.mk id kind lab hd ws ks) a;refine A0i func49 (B5n ks[i] M1 (c _ a) (by omega)) ?_;generalize A0x ks[i]=dk at*;have w2:=D8I (i:=d) (j:=dk) (by omega);obtain⟨e,he⟩:∃e,e=d+dk:=⟨_,rfl⟩;rw[<-he]at w2;simp -dsimp -implicitDefEqProofs[t1,t3,t4,w1,w2];exact⟨⟨i+1,by clear w1;omega,rfl,e,rfl,by omega⟩,by clear w1;omega⟩
   ·(have b:¬(i:Int)<ks.length:=by omega);rw[show ks.drop i=[]from Z0n (by omega),A0V,Z0V]at ho
    rw[ho];simp -dsimp -implicitDefEqProofs[t1,t3,t4,b]
termination_by u=>SizeOf.sizeOf u
end
section
variable (gl:Nat->AV)
def B2x{A:Type}(h:FuncId)(first cap:List AV)(p:A0b->Bool)(b:A->A0b->A)(J:Mem->A->Prop)(K:A->A0b->Prop)(KL:A->List A0b->Prop)(z:∀a u,K a u->KL (b a u) u.kids)(s:∀a k ks,KL a (k::ks)->K a k)(w:∀a k ks,KL a (k::ks)->(A5g p b k a).1=true->KL (A5g p b k a).2 ks)(hJ:∀M a X,J M a->J (M++[.cells 27 X]) a)
 (hv:∀u a M,u.good->K a u->J M a->A5q (WC gl) h (first++.agg u.row::cap) M (λv M'=>v=B (p u)/\J M' (b a u))):
 ∀(u:A0b) (a:A) (M:Mem),u.good->K a u->J M a->A0e (WC gl) 86 [.agg u.row,.func (.func h) first cap] M (λv M'=>v=B (A5g p b u a).1/\J M' (A5g p b u a).2)
 |.mk id kind lab hd ws ks,a,M,hg,hka,hj=>by
  obtain⟨_,_,_,_,_,_,_,hk,l⟩:=(A0b.good_iff _).1 hg;have l:∀k∈ks,k.good:=l;have a5:KL (b a (.mk id kind lab hd ws ks)) ks:=z _ _ hka;have a6:ks.length<=9223372036854775807:=hk;have a0:(A0b.mk id kind lab hd ws ks).row=[I id.act,I id.item,I id.n,I kind,S lab,.list 4 (A0g hd) .no,.list 4 (A0g ws) .no,.list 8 (A0O ks) .no]:=by rw[A0b.row]
  have g:A5g p b (.mk id kind lab hd ws ks) a=if p (.mk id kind lab hd ws ks)then A4z p b ks (b a (.mk id kind lab hd ws ks))else(false,b a (.mk id kind lab hd ws ks)):=by rw[A5g]
  have o:=hv _ a M hg hka hj;rw[a0]at o|-;refine A0k hW func86 ?_;simp -dsimp -implicitDefEqProofs;refine A6P o ?_;rintro _ M1 ⟨rfl,q⟩;cases hp:p (.mk id kind lab hd ws ks);case false=>rw[hp,Z0e (by simp)]at g;rw[g];simp -dsimp -implicitDefEqProofs[q]
  rw[hp,Z0d rfl]at g;rw[g];generalize b a (.mk id kind lab hd ws ks)=a1 at*;simp -dsimp -implicitDefEqProofs;refine A0s hW ks.length 14 (λT M1=>∃i:Nat,i<=ks.length/\T 1=.func (.func h) first cap/\T 12=.list 8 (A0O ks) .no/\T 13=I ks.length/\T 14=I i/\∃a2,J M1 a2/\KL a2 (ks.drop i)/\A4z p b ks a1=A4z p b (ks.drop i) a2) ?_ ?_
  .exact⟨0,by omega,by simp,by simp,by simp,by simp,a1,q,by simpa using a5,by simp⟩
  .rintro T M2 ⟨i,i1,t1,d,e,f,a2,t,c,ho⟩;by_cases hi:i<ks.length
   ·(have m:(i:Int)<ks.length:=by omega);have w1:IntKind.i64.wrap ((i:Int)+1)=(i+1:Nat):=by rw[A0H (by omega) (by omega)];omega
    have j:ks[i]∈ks:=Z0v hi;have y:ks.drop i=ks[i]::ks.drop (i+1):=Z0h hi;rw[y]at c;rw[y,A4z]at ho;(have a3:(M2++[A0p.cells 27 ks[i].row])[M2.length]?=some (A0p.cells 27 ks[i].row):=by simp);simp -dsimp -implicitDefEqProofs[t1,d,e,f,hi,m,A0o,A0l,A0d,AV.storable,AV.cells,A0a a3];have:=A0b.kid_lt (u:=.mk id kind lab hd ws ks) j;refine A0j func86 (B2x h first cap p b J K KL z s w hJ hv ks[i] a2 _ (l _ j) (s _ _ _ c) (hJ _ _ _ t)) ?_;rintro _ M3 ⟨rfl,r⟩;have a4:=w _ _ _ c;cases hp:(A5g p b ks[i] a2).1
    .rw[hp,Z0e (by simp)]at ho;rw[ho];simp -dsimp -implicitDefEqProofs[t1,d,e,f,r]
    .rw[hp,Z0d rfl]at ho;simp -dsimp -implicitDefEqProofs[t1,d,e,f,w1];exact⟨⟨i+1,by clear w1;omega,rfl,_,r,a4 hp,ho⟩,by clear w1;omega⟩
   ·(have m:¬(i:Int)<ks.length:=by omega);rw[show ks.drop i=[]from Z0n (by omega),A4z]at ho
    rw[ho];simp -dsimp -implicitDefEqProofs[t1,d,e,f,m,t]
termination_by u=>SizeOf.sizeOf u
end
mutual
def B0l:∀(u:A0b) (a:Nat),A5g (λ_=>true) (λ(a:Nat) _=>a+1) u a=(true,a+A0x u)
 |.mk _ _ _ _ _ ks,a=>by rw[A5g,Z0d rfl,B2X ks,A0x];congr 1;omega
def B2X:∀(ks:List A0b) (a:Nat),A4z (λ_=>true) (λ(a:Nat) _=>a+1) ks a=(true,a+A0V ks)
 |[],a=>by rw[A4z,A0V];rfl
 |k::ks,a=>by rw[A4z,B0l k a,Z0d rfl,B2X ks,A0V];congr 1;omega
end
mutual
def B3O:∀(u:A0b) (a:List IdD),A5g (λ_=>true) (λ(a:List IdD) u=>a++[u.id]) u a=(true,a++A0X u)
 |.mk id _ _ _ _ ks,a=>by rw[A5g,Z0d rfl,B6v ks,A0X];show(true,a++[id]++A9M ks)=_;rw[Z0O];rfl
def B6v:∀(ks:List A0b) (a:List IdD),A4z (λ_=>true) (λ(a:List IdD) u=>a++[u.id]) ks a=(true,a++A9M ks)
 |[],a=>by rw[A4z,A9M,Z1f]
 |k::ks,a=>by rw[A4z,B3O k a,Z0d rfl,B6v ks,A9M,Z0O]
end
def A4J(u:A0b):A0x u=1+A0V u.kids:=by obtain⟨a,b,c,d,e,f⟩:=u;rw[A0x];rfl
section
variable (gl:Nat->AV)
def C8K(u:A0b)(o:Nat)(n:Nat)(hn:n<=1000)(M:Mem)(hM:M[o]?=some (.cells 3 [I n])):A0e (WC gl) 87 [.agg u.row,.ptr o 0] M (λv M'=>v=B true/\M'=M.set o (.cells 3 [I (n+1:Nat)])):=by refine A0k hB func87 ?_;have w1:=A1i (i:=n) (by omega);have a:o<M.length:=(Z0c.1 hM).1;obtain⟨e,he⟩:∃e,e=n+1:=⟨_,rfl⟩;rw[<-he]at w1;rw[<-he];simp -dsimp -implicitDefEqProofs[A0a hM,A0f hM,w1,A0d]
def C5w(u:A0b)(M:Mem)(hg:u.good)(hc:A0x u<=1000):A0e (WC gl) 30 [.agg u.row] M (λv M'=>v=I (A0x u)/\M'=M):=by
 have key:A0e (WC gl) 30 [.agg u.row] M (λv M'=>(∃x,v=.val x/\x=.int .i64 (A0x u))/\Grow M M'):=by
  refine A0k hB func30 ?_;have c:(M++[A0p.cells 3 [I 0]])[M.length]?=some (A0p.cells 3 [I 0]):=by simp
  simp -dsimp -implicitDefEqProofs[A0o,A0l,A0d];refine A0j func86 (B2x gl 87 [] [.ptr M.length 0] (λ_=>true) (λ(a:Nat) _=>a+1) (λM1 a=>M1[M.length]?=some (.cells 3 [I a])/\Grow M M1) (λa u=>a+A0x u<=1000) (λa ks=>a+A0V ks<=1000) ?_ ?_ ?_ ?_ ?_ u 0 _ hg (by omega) ⟨c,A0c.app none _ _⟩) ?_
  .intro a u h;have:=A4J u;omega
  .intro a k ks h;rw[A0V]at h;omega
  .intro a k ks h _;rw[A0V]at h;rw[B0l];show a+A0x k+A0V ks<=1000;omega
  .rintro M1 a X ⟨h1,h2⟩;exact⟨by rw[Z0j (Z0c.1 h1).1];exact h1,h2.trans (A0c.app none _ _)⟩
  .rintro u a M1 e hk ⟨h1,h2⟩;have d:=A3R u;refine(A2B func87 rfl rfl (C8K gl u M.length a (by omega) M1 h1)).mono ?_;rintro _ _ ⟨rfl,rfl⟩;have b:M.length<M1.length:=(Z0c.1 h1).1;exact⟨rfl,by simp[b],⟨by simp;omega,λj hj _=>by rw[Z0g (by omega)];exact h2.2 j hj (by simp)⟩⟩
  .rintro _ M1 ⟨rfl,h1,h2⟩;rw[B0l]at h1|-;simp only[Z0K]at h1;simp -dsimp -implicitDefEqProofs[A0a h1,h2]
 exact(A6L key).mono (by rintro v M' ⟨⟨x,rfl,rfl⟩,rfl⟩;exact⟨rfl,rfl⟩)
end
def A4q{cs}:(AV.agg cs).storable=true:=rfl
def A4d{cs}:(AV.agg cs).cells=cs:=rfl
def C2h(M:Mem)(l:List IdD)(v:AV)(M':Mem):Prop:=A1z 23 3 IdD.row M' v l/\Grow M M'/\A1n M.length v
def D2a{x:IdD}{M:Mem}:A1v prog 85 1 [(0,.agg [I x.act,I x.item,I x.n])] M=some (.vref M.length 0 3 0 1,M++[.vec 23 3 [I x.act,I x.item,I x.n] 0 [(0,1)]]):=by simp[A1v,A0J,AV.storable,AV.cells]
section
variable (gl:Nat->AV)
def D3R(u:A0b)(o:Nat)(M:Mem)(v:AV)(l:List IdD)(hl:l.length<=1000)(hM:M[o]?=some (.cells 85 [v]))(hv:A1z 23 3 IdD.row M v l)(a:obj v≠some o):A0e (WC gl) 122 [.agg u.row,.ptr o 0] M (λr M'=>r=B true/\∃v' M1,M'=M1.set o (.cells 85 [v'])/\A1z 23 3 IdD.row M1 v' (l++[u.id])/\A0c (obj v) M M1/\(obj v'=obj v\/A1n M.length v')):=by
 refine A0k (hQ [8]) func122 ?_
 rw[u.row_eq]
 simp -dsimp -implicitDefEqProofs[A0a hM,A0h,A0J,A4q,A4d]
 refine A3E (C:=WC gl) (enc:=IdD.row) (e:=23) (sz:=3) (news:=[u.id]) C1L C7N C8z (λ_=>rfl) hv (by simp[A0B,IdD.row]) (by simp;omega) rfl ?_
 intro v' M1 h1 h2 h3 _
 have c:=h2.get hM a
 have b:A0l (some 1) M1 (.ptr o 0) v'=some (M1.set o (.cells 85 [v'])):=by rw[A0f c,h1.cells,Z0d ⟨h1.store,by simp,rfl⟩];rfl
 simp -dsimp -implicitDefEqProofs[b]
 exact⟨v',M1,rfl,h1,h2,h3⟩
def D1L(u:A0b)(M:Mem)(hg:u.good)(hc:A0x u<=1000):A0e (WC gl) 67 [.agg u.row] M (C2h M (A0X u)):=by
 refine A0k hW func67 ?_;have d:(M++[A0p.cells 85 [.val (.slice none 0 0)]])[M.length]?=some (A0p.cells 85 [.val (.slice none 0 0)]):=by simp
 simp -dsimp -implicitDefEqProofs[A0o,A0l,A0d];refine A0j func86 (B2x gl 122 [] [.ptr M.length 0] (λ_=>true) (λ(a:List IdD) u=>a++[u.id])
  (λM1 a=>∃v,M1[M.length]?=some (.cells 85 [v])/\A1z 23 3 IdD.row M1 v a/\obj v≠some M.length/\A1n M.length v/\Grow M M1)
  (λa u=>a.length+A0x u<=1000) (λa ks=>a.length+A0V ks<=1000) ?_ ?_ ?_ ?_ ?_ u [] _ hg (by simpa using hc) ⟨_,d,.nil,by simp,by simp[A1n],A0c.app none _ _⟩) ?_
 .intro a u h;have:=A4J u;simp;omega
 .intro a k ks h;rw[A0V]at h;omega
 .intro a k ks h _;rw[A0V]at h;rw[B3O];simp only[Z0z,A4D];omega
 .rintro M1 a X ⟨v,h1,h2,h3,h4,h5⟩;exact⟨v,by rw[Z0j (Z0c.1 h1).1];exact h1,h2.keep (A0c.app none _ _) (by simp),h3,h4,h5.trans (A0c.app none _ _)⟩
 .rintro u a M1 l hk ⟨v,h1,h2,h3,h4,h5⟩;have g:=A3R u;refine(A2B func122 rfl rfl (D3R gl u M.length M1 v a (by omega) h1 h2 h3)).mono ?_;rintro _ _ ⟨rfl,v',M2,rfl,k1,k2,k3⟩;have i:M.length<M1.length:=(Z0c.1 h1).1;have c:M.length<M2.length:=by have:=k2.1;omega
  have b:obj v'≠some M.length:=by
   rcases k3 with e|e
   .rw[e];exact h3
   .intro q;have:=e _ q;omega
  refine⟨rfl,v',by simp[c],k1.keep (A0c.set M2 M.length _) (λf hf e=>b (by rw[hf,<-e])),b,λf hf=>?_,⟨by simp;omega,λj hj _=>?_⟩⟩
  .rcases k3 with e|e
   .exact h4 f (by rw[<-e];exact hf)
   .have:=e f hf;omega
  .rw[Z0g (by omega),k2.2 j (by omega) (λe=>by have:=h4 _ e;omega)];exact h5.2 j hj (by simp)
 .rintro _ M1 ⟨rfl,v,h1,h2,h3,h4,h5⟩;rw[B3O]at h2|-;simp only[Z2h]at h2;simp -dsimp -implicitDefEqProofs[A0a h1,C2h,h2,h4,h5]
def B6T:∀(u:A0b) (M:Mem),u.good->A0x u<=1000->A0e (WC gl) 74 [.agg u.row] M (C2h M (A0X u))
 |.mk id kind lab hd ws ks,M,hg,hc=>by
  obtain⟨_,_,t,_,p,_,q,_,b⟩:=(A0b.good_iff _).1 hg;have b:∀k∈ks,k.good:=b;have r:1+A0V ks<=1000:=by rwa[A0x]at hc
  have o:=A2t ks;have f:(A0b.mk id kind lab hd ws ks).row=[I id.act,I id.item,I id.n,I kind,S lab,.list 4 (A0g hd) .no,.list 4 (A0g ws) .no,.list 8 (A0O ks) .no]:=by rw[A0b.row]
  have j:A0X (.mk id kind lab hd ws ks)=id::A9M ks:=by rw[A0X]
  rw[f,j];refine A0k (hQ [7,22]) func74 ?_;simp -dsimp -implicitDefEqProofs[D2a];refine A0s (hQ [7,22]) ks.length 4 (λT M1=>∃i:Nat,i<=ks.length/\T 1=.cptr [I id.act,I id.item,I id.n,I kind,S lab,.list 4 (A0g hd) .no,.list 4 (A0g ws) .no,.list 8 (A0O ks) .no]/\T 4=I i/\∃l,A1z 23 3 IdD.row M1 (T 3) l/\Grow M M1/\A1n M.length (T 3)/\id::A9M ks=l++A9M (ks.drop i)) ?_ ?_
  .refine⟨0,by omega,by simp,by simp,[id],.inr ⟨M.length,0,[(0,1)],by simp,by simp[IdD.row],by simp[List.lookup]⟩,A0c.app none _ _,by simp[A1n],by simp⟩
  .rintro T M1 ⟨i,i1,t1,t4,l,hv,d,hL,ho⟩;by_cases hi:i<ks.length
   ·(have c:(i:Int)<ks.length:=by omega);have w1:=A1i (i:=i) (by omega)
    have a:ks[i]∈ks:=Z0v hi;rw[Z0h hi,A9M]at ho;have s:=A3Q a;generalize g:T 3=ov at*;simp -dsimp -implicitDefEqProofs[t1,t4,hi,c,g];have:=A0b.kid_lt (u:=.mk id kind lab hd ws ks) a;refine A0j func74 (B6T ks[i] M1 (b _ a) (by omega)) ?_;rintro v2 M2 ⟨k1,k2,k3⟩;(have m:l.length+(A0X ks[i]).length<=2000:=by have:=congrArg List.length ho;simp only[Z0B,Z0z,B8T]at this;omega);have h:=hv.keep k2 (by simp);simp -dsimp -implicitDefEqProofs;refine A3E (C:=WC gl) (enc:=IdD.row) (e:=23) (sz:=3) (news:=A0X ks[i]) C1L C7N C8z (λ_=>rfl) h (k1.src (λ_=>rfl)) (by omega) rfl ?_;intro v' M3 q1 q2 q3 _;obtain⟨r1,r2⟩:=A4T (X:=[]) (d.trans k2) hL (by simpa using q2) (by simpa using q3);simp -dsimp -implicitDefEqProofs[t1,t4,w1];exact⟨⟨i+1,by clear w1;omega,rfl,_,q1,r1,r2,by rw[ho,Z0O]⟩,by clear w1;omega⟩
   ·(have c:¬(i:Int)<ks.length:=by omega);rw[show ks.drop i=[]from Z0n (by omega),A9M,Z1f]at ho
    rw[ho];simp -dsimp -implicitDefEqProofs[t1,t4,c,C2h,hv,d,hL]
termination_by u=>SizeOf.sizeOf u
end
section
variable {K:Type} [DecidableEq K]
def A6f(S:List K):List K->List K
 |[]=>S
 |x::r=>A6f (if S.any (λy=>decide (y=x))then S else S++[x]) r
def A6k:List K->List K->Bool
 |[],_=>true
 |x::r,b=>!(b.any λy=>decide (y=x))&&A6k r (b++[x])
def B4m{S:List K}{x:K}:(S.any λy=>decide (y=x))=decide (x∈S):=by rw[Z1Q];simp
def A9C:∀(r S:List K) (x:K),x∈A6f S r<->x∈S\/x∈r
 |[],S,x=>by simp[A6f]
 |y::r,S,x=>by
  rw[A6f,A9C r];simp only[B4m,Z0o];by_cases h:y∈S
  .rw[Z0d h];simp only[Z0F];constructor
   .rintro(h1|h1)<;>simp[h1]
   .rintro(h1|rfl|h1)
    .exact .inl h1
    .exact .inl h
    .exact .inr h1
  .rw[Z0e h];simp only[Z1b,Z0F,Z1W,Z3l];exact or_assoc
def C3H:∀(r S:List K),(A6f S r).length<=S.length+r.length
 |[],S=>by simp[A6f]
 |y::r,S=>by rw[A6f];have:=C3H r (if S.any (λz=>decide (z=y))then S else S++[y]);split at this<;>simp_all<;>omega
def B2m:∀(r S:List K),(A6f S r).length=S.length+r.length<->A6k r S=true
 |[],S=>by simp[A6f,A6k]
 |y::r,S=>by
  rw[A6f,A6k];cases h:S.any λz=>decide (z=y)
  .rw[Z0e (by simp)];have:=B2m r (S++[y]);rw[Z1j,Z0s,<-this];simp only[Z0z,Z0B,Z1t];omega
  .rw[Z0d rfl];have:=C3H r S;simp only[Z1s,Z0q,Z0E,iff_false,Z0B];omega
def B7T:∀(r S:List K),S.Nodup->(A6f S r).Nodup
 |[],S,h=>by simpa[A6f]using h
 |y::r,S,h=>by
  rw[A6f];refine B7T r _ ?_;rw[B4m];split
  .exact h
  .rename_i hn;(have hn:y∉S:=by simpa using hn);refine Z2U.2 ⟨h,by simp,?_⟩;intro a ha b hb e;simp only[Z0F,Z1W,Z3l]at hb;subst hb;subst e;exact hn ha
omit [DecidableEq K]in
def D0j{l:List K}{z:K}(hn:l.Nodup)(hz:∀x∈l,x=z)(hm:z∈l):l.length=1:=by
 match l,hn,hz,hm with
 |[],_,_,hm=>simp at hm
 |[x],_,_,_=>rfl
 |x::y::l,hn,hz,_=>have h1:=hz x (by simp);have h2:=hz y (by simp);subst h1;subst h2;simp at hn
omit [DecidableEq K]in
def D3K{l:List K}{z:K}(h1:l.length=1)(hm:z∈l):∀x∈l,x=z:=by
 match l,h1 with
 |[y],_=>intro x hx;simp at hx hm;rw[hx,hm]
def D1a{l:List K}{z:K}(hl:l≠[]):(z∈l/\(A6f [] l).length=1)<->∀x∈l,x=z:=by
 constructor
 .rintro⟨hm,h1⟩ x hx;exact D3K h1 ((A9C l [] z).2 (.inr hm)) x ((A9C l [] x).2 (.inr hx))
 .intro h;obtain⟨a,r,rfl⟩:=List.exists_cons_of_ne_nil hl;have hm:z∈a::r:=by rw[<-h a (by simp)];simp
  exact⟨hm,D0j (B7T _ _ .nil) (λx hx=>h x (by simpa using(A9C _ [] x).1 hx)) ((A9C _ [] z).2 (.inr hm))⟩
end
def idZ:IdD:=⟨0,0,0⟩
def C1F(u:A0b):Bool:=(decide (idZ∈A0X u)&&decide ((A6f [] (A0X u)).length=1))||(decide ((A6f [] (A0X u)).length=(A0X u).length)&&(decide (u.kind=0)==decide (u.id=idZ)))
def C5n(u:A0b):Bool:=(A0X u).all (λx=>decide (x=idZ))||((decide (u.id=idZ)==decide (u.kind=0))&&A6k (A0X u) [])
def D4Q(u:A0b):A0X u≠[]:=by obtain⟨a,b,c,d,e,f⟩:=u;rw[A0X];simp
def C4w(u:A0b):C1F u=C5n u:=by have h1:=D1a (l:=A0X u) (z:=idZ) (D4Q u);have h2:=B2m (A0X u) ([]:List IdD);simp only[Z1t,Z0K]at h2;rw[Z1Q];simp only[C1F,C5n,Z1O,Z0f,Z0o,Z0r,Z2E];rw[h1,h2,and_comm,@eq_comm _ (decide (u.kind=0))]
def A1T.len{K V:Type}{d:K->AV}{a:V->AV}{M}{b}{l}(h:A1T d a M b l){P}{t kt et:TypeId}(ht:P.underlying t=some (.map kt et)):A2U P t M (.mapr b)=some l.length:=by obtain⟨es,c,h1,h2⟩:=h;have:=congrArg List.length h2;simp only[Z0L]at this;simp[A2U,ht,h1,this]
def A6n{P}{t:TypeId}{b}:A1H P t (.mapr b)=none:=rfl
@[simp] def C1p:prog.eqGuardType prog.depth 23=false:=by kernel_rfl
def B2E(a b:IdD):A1C prog .eql 23 (.agg [I a.act,I a.item,I a.n]) (.agg [I b.act,I b.item,I b.n])=some (B (decide (a=b))):=by
 have h0:A3o prog .eql 23 (.agg [I a.act,I a.item,I a.n]) (.agg [I b.act,I b.item,I b.n])=none:=by simp[A3o,A5k]
 have:=(A9L 248 4 (by kernel_rfl)).eq a b;simp only[A2O,IdD.row]at this;simp only[A1C,h0,A5i,C1p,this];rfl
def C3O(a:IdD):A1C prog .eql 23 (.agg [I a.act,I a.item,I a.n]) (.agg [I 0,I 0,I 0])=some (B (decide (a=idZ))):=B2E a idZ
def C3n{K:Type}[DecidableEq K](c:K):∀A1c:List K,(A1c.any λy=>decide (y=c))=true->A8n (A1c.map λx=>(x,true)) c true=A1c.map λx=>(x,true)
 |[],h=>by simp at h
 |x::l,h=>by
  rw[Z0C,A8n];by_cases e:c=x
  .subst e;simp
  .rw[Z0e e];rw[Z1V,Z0k (λq=>e q.symm),Z0X]at h;rw[C3n c l h]
section
variable (gl:Nat->AV)
def D6C(u:A0b)(M:Mem)(hg:u.good)(hc:A0x u<=1000):A0e (WC gl) 158 [.agg u.row] M (λv M'=>v=B (C1F u)/\M'=M):=by
 have key:A0e (WC gl) 158 [.agg u.row] M (λv M'=>(∃x,v=.val x/\x=.bool (C1F u))/\Grow M M'):=by
  refine A0k hW func158 ?_;have q:=D1L gl u M hg hc;rw[u.row_eq]at q|-;have ae:=A4D u;simp -dsimp -implicitDefEqProofs;refine A0j func67 q ?_;rintro v M1 ⟨hv,a4,hL⟩;have c:A1H prog 85 v=some (A0X u).length:=hv.len (e':=23) (by simp);have ab:A1z 23 3 IdD.row (M1++[.map [] 0]) v (A0X u):=hv.keep (A0c.app none M1 _) (by simp);have aa:obj v≠some M1.length:=λe=>by have:=hv.lt e;omega
  simp -dsimp -implicitDefEqProofs[c];refine A0s hW ((A0X u).length) 13 (λT M2=>∃i:Nat,i<=(A0X u).length/\T 1=.cptr [I u.id.act,I u.id.item,I u.id.n,I u.kind,S u.label,.list 4 (A0g u.head) .no,.list 4 (A0g u.words) .no,.list 8 (A0O u.kids) .no]/\T 3=v/\T 4=.mapr M1.length/\T 11=v/\T 12=I (A0X u).length/\T 13=I i/\Grow M M2/\A1z 23 3 IdD.row M2 v (A0X u)/\∃s,A1T A2O B M2 M1.length (s.map λx=>(x,true))/\A6f [] (A0X u)=A6f s ((A0X u).drop i)) ?_ ?_
  .exact⟨0,by omega,by simp,by simp,by simp,by simp,by simp,by simp,a4.trans (A0c.app none _ _),ab,[],A1T.new M1,by simp⟩
  .rintro T M2 ⟨i,i1,t1,t3,t4,a2,a0,a1,d,a5,s,h,ho⟩;by_cases hi:i<(A0X u).length
   ·(have m:(i:Int)<(A0X u).length:=by omega);have w1:=A1i (i:=i) (by omega)
    obtain⟨p,p1,_,p2,_⟩:=a5.at_ (P:=prog) (t:=23) (λ_=>rfl) (by simp) (by simp) hi;have hd:=Z0h hi;rw[hd,A6f]at ho;obtain⟨x,hx⟩:∃x,x=(A0X u)[i]:=⟨_,rfl⟩;rw[<-hx]at ho p2;have ad:x.row=[I x.act,I x.item,I x.n]:=rfl;rw[ad]at p2;(have a7:(M2++[A0p.cells 23 [I x.act,I x.item,I x.n]])[M2.length]?=some (A0p.cells 23 [I x.act,I x.item,I x.n]):=by simp);have w:=h.keep (A0c.app none M2 [A0p.cells 23 [I x.act,I x.item,I x.n]]) (by simp);have r:Grow M (M2++[A0p.cells 23 [I x.act,I x.item,I x.n]]):=d.trans (A0c.app none _ _);have a8:=a5.keep (A0c.app none M2 [A0p.cells 23 [I x.act,I x.item,I x.n]]) (by simp);obtain⟨M4,q1,q2,q3⟩:=w.put (A9L 248 4 (by kernel_rfl)) x true;have ac:A1E prog 248 (M2++[A0p.cells 23 [I x.act,I x.item,I x.n]]) (.mapr M1.length) (.agg [I x.act,I x.item,I x.n]) (B true)=some M4:=q1;(have a6:Grow M M4:=by refine⟨Z0T r.1 q3.1,λj hj _=>?_⟩;rw[q3.2 j (by have:=r.1;omega) (by have:=a4.1;simp;omega)];exact r.2 j hj (by simp));have a9:=a8.keep q3 (λf hf e=>aa (by rw[hf,<-e]));simp -dsimp -implicitDefEqProofs[t1,t3,t4,a2,a0,a1,hi,m,p1,p2,A0o,A0l,A0d,A4q,A4d,A0a a7,ac,w1];refine⟨⟨i+1,by clear w1;omega,rfl,a6,a9,if s.any (λy=>decide (y=x))then s else s++[x],?_,ho⟩,by clear w1;omega⟩;cases hs:s.any λy=>decide (y=x)
    .rw[B5s x s hs]at q2;rw[Z0e (by simp)];exact q2
    .rw[Z0d rfl];have:A8n (s.map λx=>(x,true)) x true=s.map λx=>(x,true):=C3n x s hs;rw[this]at q2;exact q2
   ·(have m:¬(i:Int)<(A0X u).length:=by omega);rw[show(A0X u).drop i=[]from Z0n (by omega),A6f]at ho
    have hz:(s.any λy=>decide (y=idZ))=decide (idZ∈A0X u):=by rw[B4m,<-ho,Z1Q];simp only[Z0o,A9C,Z1W,false_or]
    (have hR:C1F u=((decide (idZ∈A0X u)&&decide (s.length=1))||(decide (s.length=(A0X u).length)&&(decide (u.kind=0)==decide (u.id=idZ)))):=by rw[<-ho];rfl);obtain⟨R,a3⟩:∃R,R=C1F u:=⟨_,rfl⟩
    rw[<-a3]at hR|-;clear a3;have o:=h.get (A9L 248 4 (by kernel_rfl)) idZ (z:=B false) (by kernel_rfl) false;rw[B5C,hz]at o;have a:A1K prog 248 M2 (.mapr M1.length) (.agg [I 0,I 0,I 0]) false=some (B (decide (idZ∈A0X u))):=by refine o.trans ?_;cases decide (idZ∈A0X u)<;>rfl
    (have g:A2U prog 248 M2 (.mapr M1.length)=some s.length:=by rw[h.len (kt:=23) (et:=4) (by simp)];simp);cases hzz:decide (idZ∈A0X u)
    .rw[hzz]at a hR;rw[Z0q,Z0X]at hR;simp -dsimp -implicitDefEqProofs[t1,t3,t4,a2,a0,a1,m,a];refine A1h hW (A0w gl) (λk=>if k=3\/k=8 then 2 else 0) (λ_=>0) (by rfl) (by kernel_rfl) ?_;by_cases h2:s.length=(A0X u).length
     ·(have b:(s.length:Int)=((A0X u).length:Int):=by omega);rw[Z0p h2,Z0s]at hR
      simp -dsimp -implicitDefEqProofs[t1,t3,t4,g,A6n,c,Z0J b,C3O];exact⟨by rw[hR];rfl,d⟩
     ·(have b:¬(s.length:Int)=((A0X u).length:Int):=by omega);rw[Z0k h2,Z0q]at hR
      simp -dsimp -implicitDefEqProofs[t1,t3,t4,g,A6n,c,b,hR,d]
    .rw[hzz]at a hR;rw[Z0s]at hR;simp -dsimp -implicitDefEqProofs[t1,t3,t4,a2,a0,a1,m,a];refine A1h hW (A0w gl) (λk=>if k=3\/k=8 then 2 else 0) (λ_=>0) (by rfl) (by kernel_rfl) ?_;by_cases h1:s.length=1
     ·(have l:(s.length:Int)=1:=by omega);rw[Z0p h1,Z1F]at hR
      simp -dsimp -implicitDefEqProofs[t1,t3,t4,g,A6n,c,Z0J l,Z0J h1,hR,d]
     (have l:¬(s.length:Int)=1:=by omega);rw[Z0k h1,Z0X]at hR
     by_cases h2:s.length=(A0X u).length
     ·(have b:(s.length:Int)=((A0X u).length:Int):=by omega);rw[Z0p h2,Z0s]at hR
      simp -dsimp -implicitDefEqProofs[t1,t3,t4,g,A6n,c,h1,l,Z0J b,C3O];exact⟨by rw[hR];rfl,d⟩
     ·(have b:¬(s.length:Int)=((A0X u).length:Int):=by omega);rw[Z0k h2,Z0q]at hR
      simp -dsimp -implicitDefEqProofs[t1,t3,t4,g,A6n,c,h1,l,b,hR,d]
 exact(A6L key).mono (by rintro v M' ⟨⟨x,rfl,rfl⟩,rfl⟩;exact⟨rfl,rfl⟩)
def D4M(l:List IdD)(hl:l.length<=1000)(v:AV)(M:Mem)(hv:A1z 23 3 IdD.row M v l):A0e (WC gl) 93 [v] M (λr M'=>r=B (A6k l [])/\M'=M):=by
 refine A0k hB func93 ?_;have d:A1H prog 85 v=some l.length:=hv.len (e':=23) (by simp);obtain⟨R,hR⟩:∃R,R=A6k l []:=⟨_,rfl⟩;rw[<-hR];simp -dsimp -implicitDefEqProofs;refine A0s hB l.length 3 (λT M1=>∃i:Nat,i<=l.length/\T 0=v/\T 3=I i/\M1=M/\R=A6k (l.drop i) (l.take i)) ?_ ?_
 .exact⟨0,by omega,by simp,by simp,rfl,by simpa using hR⟩
 .rintro T M1 ⟨i,i1,t0,t3,rfl,ho⟩;by_cases hi:i<l.length;case neg=>
   (have a:¬(i:Int)<l.length:=by omega);rw[show l.drop i=[]from Z0n (by omega),A6k]at ho
   simp -dsimp -implicitDefEqProofs[t0,t3,d,a,ho]
  have a:(i:Int)<l.length:=by omega
  have w1:=A1i (i:=i) (by omega);have o:l.take i++[l[i]]=l.take (i+1):=by rw[Z2f,Z0m hi,Z2P]
  rw[Z0h hi,A6k,o]at ho;obtain⟨x,hx⟩:∃x,x=l[i]:=⟨_,rfl⟩;obtain⟨p,p1,_,p2,po⟩:=hv.at_ (P:=prog) (t:=23) (λ_=>rfl) (by simp) (by simp) hi;rw[<-hx]at ho p2;have h:A2u prog 23 M1 p=some (.agg [I x.act,I x.item,I x.n]):=p2;simp -dsimp -implicitDefEqProofs[t0,t3,d,a];refine A2o hB (λT2 M2=>∃j:Nat,j<=i/\T2 0=v/\T2 3=I i/\T2 4=I j/\M2=M1/\((l.take i).any λy=>decide (y=x))=(((l.take i).drop j).any λy=>decide (y=x))) (λT M1=>match T 4 with|.val (.int _ j)=>i-j.toNat|_=>0) (by kernel_rfl) ?_ ?_
  .exact⟨0,by omega,by simp[t0],by simp[t3],by simp,rfl,by simp⟩
  .rintro T2 M2 ⟨j,j1,u0,u3,u4,rfl,hb⟩;by_cases hj:j<i;case neg=>
    (have b:¬(j:Int)<i:=by omega);rw[show(l.take i).drop j=[]from Z0n (by simp;omega),Z2J]at hb
    rw[hb,Z1j,Z0s]at ho;simp -dsimp -implicitDefEqProofs[u0,u3,u4,b,w1,t3];exact⟨⟨i+1,by clear w1;omega,rfl,ho⟩,by clear w1;omega⟩
   (have b:(j:Int)<i:=by omega);have s:j<l.length:=by omega
   have w2:=A1i (i:=j) (by omega);(have u:(l.take i).drop j=l[j]::(l.take i).drop (j+1):=by rw[Z0h (by simp;omega)];simp);rw[u,Z1V]at hb;obtain⟨y,hy⟩:∃y,y=l[j]:=⟨_,rfl⟩;obtain⟨q,q1,_,q2,qo⟩:=hv.at_ (P:=prog) (t:=23) (λ_=>rfl) (by simp) (by simp) s;rw[<-hy]at hb q2;have c:A2u prog 23 M2 q=some (.agg [I y.act,I y.item,I y.n]):=q2;obtain⟨f,hf⟩:∃f,obj v=some f:=by
    rcases hv with⟨rfl,rfl⟩|⟨f',g,w,rfl,_,_⟩
    .simp at hi
    .exact⟨f',rfl⟩
   rw[hf]at po qo;simp -dsimp -implicitDefEqProofs[u0,u3,u4,b];refine A1h hB (A0w gl) (λk=>if k=3\/k=7 then 1 else 0) (λ_=>f) (by rfl) (by kernel_rfl) ?_;by_cases c1:y=x
   .rw[Z0p c1,Z1F]at hb;rw[hb,Z1s,Z0q]at ho;subst c1;simp -dsimp -implicitDefEqProofs[u0,u3,u4,p1,h,po,q1,c,qo,B2E,ho]
   .rw[Z0k c1,Z0X]at hb;have m:¬x=y:=λe=>c1 e.symm;simp -dsimp -implicitDefEqProofs[u0,u3,u4,p1,h,po,q1,c,qo,B2E,c1,m,w2];exact⟨⟨j+1,by clear w2;omega,rfl,hb⟩,by clear w2;omega⟩
end
mutual
def B2D:A0b->List A0b
 |.mk id k l h w ks=>.mk id k l h w ks::B4H ks
def B4H:List A0b->List A0b
 |[]=>[]
 |k::ks=>B2D k++B4H ks
end
mutual
def B1K:∀u:A0b,(B2D u).map A0b.id=A0X u
 |.mk id _ _ _ _ ks=>by rw[B2D,A0X,Z0C,C4c ks];rfl
def C4c:∀ks:List A0b,(B4H ks).map A0b.id=A9M ks
 |[]=>by rw[B4H,A9M];rfl
 |k::ks=>by rw[B4H,A9M,Z0Q,B1K k,C4c ks]
end
abbrev B4c(u:A0b):AV:=.agg u.row
def A6s(L:List (IdD×A0b)):List A0b->List (IdD×A0b)
 |[]=>L
 |u::us=>A6s (A8n L u.id u) us
def C6s(L:List (IdD×A0b)):∀us vs,A6s L (us++vs)=A6s (A6s L us) vs:=by
 intro us;induction us generalizing L with
 |nil=>intro vs;rfl
 |cons u us ih=>intro vs;exact ih _ vs
def B1V:∀(us:List A0b) (L:List (IdD×A0b)),(A6s L us).map (·.1)=A6f (L.map (·.1)) (us.map A0b.id)
 |[],L=>rfl
 |u::us,L=>by
  rw[A6s,B1V us,D0l,Z0C,A6f,B4m];by_cases h:u.id∈L.map (·.1)
  .rw[Z0d h,Z0d (by simpa using h)]
  .rw[Z0e h,Z0e (by simpa using h)]
mutual
noncomputable def A5X:A0b->Nat->Mem->Mem
 |.mk id k l h w ks,b,M=>A4f ks b ((A1E prog 92 M (.mapr b) (A2O id) (B4c (.mk id k l h w ks))).getD M)
noncomputable def A4f:List A0b->Nat->Mem->Mem
 |[],_,M=>M
 |k::ks,b,M=>A4f ks b (A5X k b (M++[.cells 27 k.row]))
end
mutual
def A7Z:∀(u:A0b) (L:List (IdD×A0b)) (b:Nat) (M:Mem),A1T A2O B4c M b L->A1T A2O B4c (A5X u b M) b (A6s L (B2D u))/\A0c (some b) M (A5X u b M)
 |.mk id k l h w ks,L,b,M,hm=>by
  obtain⟨M1,p1,p2,p3⟩:=hm.put (A9L 92 27 (by kernel_rfl)) id (.mk id k l h w ks);have hc:A5X (.mk id k l h w ks) b M=A4f ks b M1:=by rw[A5X,p1];rfl
  obtain⟨q1,q2⟩:=B2W ks _ b M1 p2;rw[hc,B2D];exact⟨q1,p3.trans q2⟩
def B2W:∀(ks:List A0b) (L:List (IdD×A0b)) (b:Nat) (M:Mem),A1T A2O B4c M b L->A1T A2O B4c (A4f ks b M) b (A6s L (B4H ks))/\A0c (some b) M (A4f ks b M)
 |[],L,b,M,hm=>by rw[A4f,B4H];exact⟨hm,A0c.refl _ _⟩
 |k::ks,L,b,M,hm=>by obtain⟨q1,q2⟩:=A7Z k L b (M++[.cells 27 k.row]) (hm.keep (A0c.app none M _) (by simp));obtain⟨r1,r2⟩:=B2W ks _ b _ q1;rw[A4f,B4H,C6s];exact⟨r1,((A0c.of_none (A0c.app none _ _)).trans q2).trans r2⟩
end
section
variable (gl:Nat->AV)
def B3Q:∀(u:A0b) (L:List (IdD×A0b)) (b:Nat) (M:Mem),u.good->A1T A2O B4c M b L->A0e (WC gl) 102 [.agg u.row,.mapr b] M (λv M'=>v=.mapr b/\M'=A5X u b M)
 |.mk id kind lab hd ws ks,L,b,M,hg,hmap=>by
  obtain⟨_,_,w,_,r,_,s,p,g⟩:=(A0b.good_iff _).1 hg;have g:∀k∈ks,k.good:=g;have t:ks.length<=9223372036854775807:=p;have c:(A0b.mk id kind lab hd ws ks).row=[I id.act,I id.item,I id.n,I kind,S lab,.list 4 (A0g hd) .no,.list 4 (A0g ws) .no,.list 8 (A0O ks) .no]:=by rw[A0b.row]
  obtain⟨M1,p1,p2,p3⟩:=hmap.put (A9L 92 27 (by kernel_rfl)) id (.mk id kind lab hd ws ks);have m:A1E prog 92 M (.mapr b) (.agg [I id.act,I id.item,I id.n]) (.agg [I id.act,I id.item,I id.n,I kind,S lab,.list 4 (A0g hd) .no,.list 4 (A0g ws) .no,.list 8 (A0O ks) .no])=some M1:=by rw[<-c];exact p1
  have l:A5X (.mk id kind lab hd ws ks) b M=A4f ks b M1:=by rw[A5X,p1];rfl
  rw[c,l];generalize A8n L id (.mk id kind lab hd ws ks)=L1 at*;refine A0k hW func102 ?_;simp -dsimp -implicitDefEqProofs[m];refine A0s hW ks.length 14 (λT M2=>∃i:Nat,i<=ks.length/\T 1=.mapr b/\T 12=.list 8 (A0O ks) .no/\T 13=I ks.length/\T 14=I i/\A4f ks b M1=A4f (ks.drop i) b M2/\∃L2,A1T A2O B4c M2 b L2) ?_ ?_
  .exact⟨0,by omega,by simp,by simp,by simp,by simp,by simp,L1,p2⟩
  .rintro T M2 ⟨i,i1,t1,d,e,f,ho,L2,q⟩;by_cases hi:i<ks.length
   ·(have h:(i:Int)<ks.length:=by omega);have w1:IntKind.i64.wrap ((i:Int)+1)=(i+1:Nat):=by rw[A0H (by omega) (by omega)];omega
    have a:ks[i]∈ks:=Z0v hi;rw[Z0h hi,A4f]at ho;(have o:(M2++[A0p.cells 27 ks[i].row])[M2.length]?=some (A0p.cells 27 ks[i].row):=by simp);have j:=q.keep (A0c.app none M2 [A0p.cells 27 ks[i].row]) (by simp);simp -dsimp -implicitDefEqProofs[t1,d,e,f,hi,h,A0o,A0l,A0d,A4q,A4d,A0a o];have:=A0b.kid_lt (u:=.mk id kind lab hd ws ks) a;refine A0j func102 (B3Q ks[i] L2 b _ (g _ a) j) ?_;rintro _ _ ⟨rfl,rfl⟩;simp -dsimp -implicitDefEqProofs[t1,d,e,f,w1];exact⟨⟨i+1,by clear w1;omega,rfl,ho,_,(A7Z ks[i] L2 b _ j).1⟩,by clear w1;omega⟩
   ·(have h:¬(i:Int)<ks.length:=by omega);rw[show ks.drop i=[]from Z0n (by omega),A4f]at ho
    rw[ho];simp -dsimp -implicitDefEqProofs[t1,d,e,f,h]
termination_by u=>SizeOf.sizeOf u
def D4K(u:A0b)(M:Mem)(hg:u.good)(hc:A0x u<=1000):A0e (WC gl) 144 [.agg u.row] M (λv M'=>v=B (C5n u)/\M'=M):=by
 have key:A0e (WC gl) 144 [.agg u.row] M (λv M'=>(∃x,v=.val x/\x=.bool (C5n u))/\Grow M M'):=by
  refine A0k hB func144 ?_;have z:=B6T gl u M hg hc;have ab:=A4D u;have h0:(A0X u)[0]?=some u.id:=by obtain⟨a,b,c,d,e,f⟩:=u;rw[A0X];rfl
  rw[u.row_eq]at z|-;obtain⟨R,hR⟩:∃R,R=C5n u:=⟨_,rfl⟩;have m:R=((A0X u).all (λx=>decide (x=idZ))||((decide (u.id=idZ)==decide (u.kind=0))&&A6k (A0X u) [])):=hR;rw[<-hR];clear hR;simp -dsimp -implicitDefEqProofs;refine A0j func74 z ?_;rintro v M1 ⟨hv,w,hL⟩;generalize A0X u=l at*;have r:A1H prog 85 v=some l.length:=hv.len (e':=23) (by simp);simp -dsimp -implicitDefEqProofs;refine A0s hB l.length 5 (λT M2=>∃i:Nat,i<=l.length/\T 1=.cptr [I u.id.act,I u.id.item,I u.id.n,I u.kind,S u.label,.list 4 (A0g u.head) .no,.list 4 (A0g u.words) .no,.list 8 (A0O u.kids) .no]/\T 3=v/\T 5=I i/\M2=M1/\∃n,T 4=B n/\l.all (λx=>decide (x=idZ))=(n&&(l.drop i).all (λx=>decide (x=idZ)))) ?_ ?_
  .exact⟨0,by omega,by simp,by simp,by simp,rfl,true,by simp,by simp⟩
  .rintro T M2 ⟨i,i1,t1,t3,t5,rfl,n,t4,ho⟩;by_cases hi:i<l.length;case pos=>
    (have h:(i:Int)<l.length:=by omega);have w1:=A1i (i:=i) (by omega)
    obtain⟨p,p1,_,p2,po⟩:=hv.at_ (P:=prog) (t:=23) (λ_=>rfl) (by simp) (by simp) hi;rw[Z0h hi,Z1k]at ho;have o:A2u prog 23 M2 p=some (.agg [I l[i].act,I l[i].item,I l[i].n]):=p2;cases n
    .simp -dsimp -implicitDefEqProofs[t1,t3,t4,t5,r,h,w1];exact⟨⟨i+1,by clear w1;omega,rfl,by simpa using ho⟩,by clear w1;omega⟩
    .simp -dsimp -implicitDefEqProofs[t1,t3,t4,t5,r,h,p1,o,C3O,w1];exact⟨⟨i+1,by clear w1;omega,rfl,by rw[ho,Z0s]⟩,by clear w1;omega⟩
   case neg=>
   (have h:¬(i:Int)<l.length:=by omega);rw[show l.drop i=[]from Z0n (by omega),Z3j,Z2p]at ho
   rw[ho]at m;cases n;(case true=>rw[Z1F]at m;simp -dsimp -implicitDefEqProofs[t1,t3,t4,t5,r,h,m,w]);rw[Z0X]at m;(have s:0<l.length:=by have:=A3R u;omega);(have a8:(0:Int)<l.length:=by omega);obtain⟨p,p1,_,p2,po⟩:=hv.at_ (P:=prog) (t:=23) (λ_=>rfl) (by simp) (by simp) s;(have a7:l[0]=u.id:=by rw[Z0m s]at h0;exact Z1Z h0);rw[a7]at p2;have o:A2u prog 23 M2 p=some (.agg [I u.id.act,I u.id.item,I u.id.n]):=p2;obtain⟨f,hf⟩:∃f,obj v=some f:=by
    rcases hv with⟨rfl,rfl⟩|⟨f',g,aa,rfl,_,_⟩
    .simp at s
    .exact⟨f',rfl⟩
   rw[hf]at po;have a1:A5O (some (some 3)) v (I 0)=some p:=p1;simp -dsimp -implicitDefEqProofs[t1,t3,t4,t5,r,h];refine A1h hB (A0w gl) (λk=>if k=2 then 1 else 0) (λ_=>f) (by rfl) (by kernel_rfl) ?_;have a0:(u.kind==0)=decide (u.kind=0):=rfl;by_cases c:decide (u.id=idZ)=(u.kind==0);case neg=>have c':(decide (u.id=idZ)==decide (u.kind=0))=false:=Z1c.2 (by rw[<-a0];exact c);rw[c',Z0q]at m;simp -dsimp -implicitDefEqProofs[t1,t3,t4,t5,a1,o,po,C3O,c,m,w]
   (have c':(decide (u.id=idZ)==decide (u.kind=0))=true:=by rw[Z2E,<-a0];exact c);rw[c',Z0s]at m
   have a4:=Z0J c;simp -dsimp -implicitDefEqProofs[t1,t3,t4,t5,a1,o,po,C3O,a4];clear c c' a4 a0;refine A0s hB l.length 6 (λT M1=>∃i:Nat,i<=l.length/\T 3=v/\T 6=I i/\M1=M2/\R=A6k (l.drop i) (l.take i)) ?_ ?_
   .exact⟨0,by omega,by simp[t3],by simp,rfl,by simpa using m⟩
   .clear t1 t3 t4 t5 p1 p2 po a1 o;rintro T M3 ⟨i,i1,t3,t6,rfl,ho⟩;by_cases hi:i<l.length;case neg=>
     (have h:¬(i:Int)<l.length:=by omega);rw[show l.drop i=[]from Z0n (by omega),A6k]at ho
     simp -dsimp -implicitDefEqProofs[t3,t6,r,h,ho,w]
    (have h:(i:Int)<l.length:=by omega);have w1:=A1i (i:=i) (by omega)
    (have a9:l.take i++[l[i]]=l.take (i+1):=by rw[Z2f,Z0m hi,Z2P]);rw[Z0h hi,A6k,a9]at ho
    obtain⟨x,hx⟩:∃x,x=l[i]:=⟨_,rfl⟩;obtain⟨p,p1,_,p2,po⟩:=hv.at_ (P:=prog) (t:=23) (λ_=>rfl) (by simp) (by simp) hi;rw[<-hx]at ho p2;have o:A2u prog 23 M3 p=some (.agg [I x.act,I x.item,I x.n]):=p2;rw[hf]at po;simp -dsimp -implicitDefEqProofs[t3,t6,r,h];refine A2o hB (λT2 M2=>∃j:Nat,j<=i/\T2 3=v/\T2 6=I i/\T2 7=I j/\M2=M3/\((l.take i).any λy=>decide (y=x))=(((l.take i).drop j).any λy=>decide (y=x))) (λT M1=>match T 7 with|.val (.int _ j)=>i-j.toNat|_=>0) (by kernel_rfl) ?_ ?_
    .exact⟨0,by omega,by simp[t3],by simp[t6],by simp,rfl,by simp⟩
    .rintro T2 M2 ⟨j,j1,u3,u6,u7,rfl,hb⟩;by_cases hj:j<i;case neg=>
      (have a2:¬(j:Int)<i:=by omega);rw[show(l.take i).drop j=[]from Z0n (by simp;omega),Z2J]at hb
      rw[hb,Z1j,Z0s]at ho;simp -dsimp -implicitDefEqProofs[u3,u6,u7,a2,w1,t6];exact⟨⟨i+1,by clear w1;omega,rfl,ho⟩,by clear w1;omega⟩
     (have a2:(j:Int)<i:=by omega);have a5:j<l.length:=by omega
     have w2:=A1i (i:=j) (by omega);(have a6:(l.take i).drop j=l[j]::(l.take i).drop (j+1):=by rw[Z0h (by simp;omega)];simp);rw[a6,Z1V]at hb;obtain⟨y,hy⟩:∃y,y=l[j]:=⟨_,rfl⟩;obtain⟨q,q1,_,q2,qo⟩:=hv.at_ (P:=prog) (t:=23) (λ_=>rfl) (by simp) (by simp) a5;rw[<-hy]at hb q2;have a3:A2u prog 23 M2 q=some (.agg [I y.act,I y.item,I y.n]):=q2;rw[hf]at qo;simp -dsimp -implicitDefEqProofs[u3,u6,u7,a2];refine A1h hB (A0w gl) (λk=>if k=3\/k=7 then 1 else 0) (λ_=>f) (by rfl) (by kernel_rfl) ?_;by_cases c1:y=x
     .rw[Z0p c1,Z1F]at hb;rw[hb,Z1s,Z0q]at ho;subst c1;simp -dsimp -implicitDefEqProofs[u3,u6,u7,p1,o,po,q1,a3,qo,B2E,ho,w]
     .rw[Z0k c1,Z0X]at hb;simp -dsimp -implicitDefEqProofs[u3,u6,u7,p1,o,po,q1,a3,qo,B2E,c1,w2];exact⟨⟨j+1,by clear w2;omega,rfl,hb⟩,by clear w2;omega⟩
 exact(A6L key).mono (by rintro v M' ⟨⟨x,rfl,rfl⟩,rfl⟩;exact⟨rfl,rfl⟩)
end
def A5t(u:A0b):Bool:=(A5g A9g (λ(_:Unit) _=>()) u ()).1
def B0o(u:A0b):Bool:=A5t u&&decide (A2f u<=8)&&decide (A0x u<=1024)&&C1F u
def C6U(u:A0b):Bool:=A2T u&&decide (A2f u<=8)&&decide (A0x u<=1024)&&C5n u
def C3X(u:A0b):Bool:=decide (u.kind=0)&&B0o u&&decide ((A6f [] (A0X u)).length=A0x u)
def B2N(u:A0b):Bool:=decide (u.kind=0)&&C6U u&&A6k (A0X u) []
def Fit(u:A0b):Prop:=u.good/\u.lims/\A0x u<=1000
def A7B(u:A0b)(h:u.lims):u.lim/\A8u u.kids:=by obtain⟨a,b,c,d,e,f⟩:=u;rw[A0b.lims]at h;exact h
section
variable (gl:Nat->AV)
def B8v(g:gl 0=A4A)(e:gl 1=A4S)(u:A0b)(M:Mem)(hf:Fit u):A0e (WC gl) 109 [.agg u.row] M (λv M'=>v=B (B0o u)/\M'=M):=by
 obtain⟨hg,hl,hc⟩:=hf;have key:A0e (WC gl) 109 [.agg u.row] M (λv M'=>(∃x,v=.val x/\x=.bool (B0o u))/\Grow M M'):=by
  refine A0k hB func109 ?_;have hR:B0o u=(A5t u&&decide (A2f u<=8)&&decide (A0x u<=1024)&&C1F u):=rfl;simp -dsimp -implicitDefEqProofs;refine A0j func86 (B2x gl 156 [] [] A9g (λ(_:Unit) _=>()) (λM1 _=>Grow M M1) (λ_ u=>u.lims) (λ_ ks=>A8u ks) ?_ ?_ ?_ ?_ ?_ u () M hg hl (A0c.refl _ _)) ?_
  .intro a u h;exact(A7B u h).2
  .intro a k ks h;rw[A8u]at h;exact h.1
  .intro a k ks h _;rw[A8u]at h;exact h.2
  .intro M1 a X h;exact h.trans (A0c.app none _ _)
  .intro u a M1 i j b;refine(A2B func156 rfl rfl (D2r gl M1 g e u i (A7B u j).1)).mono ?_;rintro _ _ ⟨rfl,h⟩;exact⟨rfl,b.trans h⟩
  .rintro _ M1 ⟨rfl,b⟩;have f:(A5g A9g (λ(_:Unit) _=>()) u ()).1=A5t u:=rfl;rw[f];cases h1:A5t u;(case false=>rw[h1]at hR;simp only[Z0q]at hR;simp -dsimp -implicitDefEqProofs[hR,b]);rw[h1,Z0s]at hR;simp -dsimp -implicitDefEqProofs;refine A0j func157 (C3p gl u M1 hg hc) ?_;rintro _ _ ⟨⟨_,rfl,rfl⟩,rfl⟩;by_cases h2:A2f u<=8;case neg=>
    (have c:¬(A2f u:Int)<=8:=by omega);rw[Z0k h2]at hR
    simp only[Z0q]at hR;simp -dsimp -implicitDefEqProofs[c,hR,b]
   (have c:(A2f u:Int)<=8:=by omega);rw[Z0p h2,Z0s]at hR
   simp -dsimp -implicitDefEqProofs[c];refine A0i func30 (C5w gl u _ hg hc) ?_;(have h3:A0x u<=1024:=by omega);(have d:(A0x u:Int)<=1024:=by omega);rw[Z0p h3,Z0s]at hR;simp -dsimp -implicitDefEqProofs[d];refine A0i func158 (D6C gl u _ hg hc) ?_;simp -dsimp -implicitDefEqProofs[hR,b]
 exact(A6L key).mono (by rintro v M' ⟨⟨x,rfl,rfl⟩,rfl⟩;exact⟨rfl,rfl⟩)
def D4v(u:A0b)(M:Mem)(hf:Fit u):A0e (WC gl) 92 [.agg u.row] M (λv M'=>v=B (C6U u)/\M'=M):=by
 obtain⟨hg,hl,hc⟩:=hf;refine A0k hB func92 ?_;have hR:C6U u=(A2T u&&decide (A2f u<=8)&&decide (A0x u<=1024)&&C5n u):=rfl;simp -dsimp -implicitDefEqProofs;refine A0i func142 (C0v gl u M hg hl) ?_;cases h1:A2T u;case false=>rw[h1]at hR;simp only[Z0q]at hR;simp -dsimp -implicitDefEqProofs[hR]
 rw[h1,Z0s]at hR;simp -dsimp -implicitDefEqProofs;refine A0i func143 (C1b gl u _ hg hc) ?_;by_cases h2:A2f u<=8;case neg=>
  have a:¬(A2f u:Int)<=8:=by omega
  rw[Z0k h2]at hR;simp only[Z0q]at hR;simp -dsimp -implicitDefEqProofs[a,hR]
 have a:(A2f u:Int)<=8:=by omega
 rw[Z0p h2,Z0s]at hR;simp -dsimp -implicitDefEqProofs[a];refine A0i func49 (B5n gl u _ hg hc) ?_;have h3:A0x u<=1024:=by omega
 have b:(A0x u:Int)<=1024:=by omega
 rw[Z0p h3,Z0s]at hR;simp -dsimp -implicitDefEqProofs[b];refine A0i func144 (D4K gl u _ hg hc) ?_;simp -dsimp -implicitDefEqProofs[hR]
def C8E(l:gl 0=A4A)(i:gl 1=A4S)(u:A0b)(M:Mem)(hf:Fit u):A0e (WC gl) 50 [.agg u.row] M (λv M'=>v=B (C3X u)/\M'=M):=by
 have key:A0e (WC gl) 50 [.agg u.row] M (λv M'=>(∃x,v=.val x/\x=.bool (C3X u))/\Grow M M'):=by
  have b:=λM=>B8v gl l i u M hf;obtain⟨hg,hl,hc⟩:=hf;have a:=B3Q gl u [] M.length (M++[.map [] 0]) hg (A1T.new M);have c:=λM=>C5w gl u M hg hc;obtain⟨q1,q2⟩:=A7Z u [] M.length (M++[.map [] 0]) (A1T.new M);have e:(A6s [] (B2D u)).length=(A6f [] (A0X u)).length:=by have:=B1V (B2D u) [];rw[B1K]at this;rw[<-Z0L (f:=λp:IdD×A0b=>p.1),this];rfl
  have h:A2U prog 92 (A5X u M.length (M++[.map [] 0])) (.mapr M.length)=some (A6f [] (A0X u)).length:=by rw[q1.len (kt:=23) (et:=27) (by simp),e]
  have g:Grow M (A5X u M.length (M++[.map [] 0])):=by refine⟨by have:=q2.1;simp at this;omega,λj hj _=>?_⟩;rw[q2.2 j (by simp;omega) (by simp;omega),Z0j hj]
  rw[u.row_eq]at b a c|-;have hR:C3X u=(decide (u.kind=0)&&B0o u&&decide ((A6f [] (A0X u)).length=A0x u)):=rfl;refine A0k hB func50 ?_;simp -dsimp -implicitDefEqProofs;refine A1h hB (A0w gl) (λk=>if k=9\/k=10\/k=11 then 2 else 0) (λ_=>0) (by rfl) (by kernel_rfl) ?_;by_cases k0:u.kind=0;case neg=>rw[Z0k k0]at hR;simp only[Z0q]at hR;simp -dsimp -implicitDefEqProofs[k0,hR,A0c.refl]
  rw[Z0p k0,Z0s]at hR;simp -dsimp -implicitDefEqProofs[Z0J k0];refine A1j func109 b ?_;cases h1:B0o u;case false=>rw[h1,Z0q]at hR;simp -dsimp -implicitDefEqProofs[Z0J k0,hR,A0c.refl]
  rw[h1,Z0s]at hR;simp -dsimp -implicitDefEqProofs[Z0J k0];refine A6x (A2B func102 rfl rfl a) ?_;simp -dsimp -implicitDefEqProofs[A6n,h,Z0J k0];refine A1j func30 c ?_;by_cases h2:(A6f [] (A0X u)).length=A0x u
  ·(have d:((A6f [] (A0X u)).length:Int)=(A0x u:Int):=by omega);rw[Z0p h2]at hR
   simp -dsimp -implicitDefEqProofs[Z0J k0,Z0J d,Z0J h2,hR,g]
  ·(have d:¬((A6f [] (A0X u)).length:Int)=(A0x u:Int):=by omega);rw[Z0k h2]at hR
   simp -dsimp -implicitDefEqProofs[Z0J k0,d,h2,hR,g]
 exact(A6L key).mono (by rintro v M' ⟨⟨x,rfl,rfl⟩,rfl⟩;exact⟨rfl,rfl⟩)
def D0S(u:A0b)(M:Mem)(hf:Fit u):A0e (WC gl) 35 [.agg u.row] M (λv M'=>v=B (B2N u)/\M'=M):=by
 have key:A0e (WC gl) 35 [.agg u.row] M (λv M'=>(∃x,v=.val x/\x=.bool (B2N u))/\Grow M M'):=by
  have a:=D4v gl u M hf;obtain⟨hg,hl,hc⟩:=hf;have b:=B6T gl u M hg hc;have d:=A4D u;rw[u.row_eq]at a b|-;have hR:B2N u=(decide (u.kind=0)&&C6U u&&A6k (A0X u) []):=rfl;refine A0k hB func35 ?_;by_cases k0:u.kind=0;case neg=>rw[Z0k k0]at hR;simp only[Z0q]at hR;simp -dsimp -implicitDefEqProofs[k0,hR,A0c.refl]
  rw[Z0p k0,Z0s]at hR;simp -dsimp -implicitDefEqProofs[Z0J k0];refine A0i func92 a ?_;cases h1:C6U u;case false=>rw[h1,Z0q]at hR;simp -dsimp -implicitDefEqProofs[Z0J k0,hR,A0c.refl]
  rw[h1,Z0s]at hR;simp -dsimp -implicitDefEqProofs[Z0J k0];refine A0j func74 b ?_;rintro v M1 ⟨hv,c,_⟩;simp -dsimp -implicitDefEqProofs[Z0J k0];refine A0i func93 (D4M gl (A0X u) (by omega) v M1 hv) ?_;simp -dsimp -implicitDefEqProofs[Z0J k0,hR,c]
 exact(A6L key).mono (by rintro v M' ⟨⟨x,rfl,rfl⟩,rfl⟩;exact⟨rfl,rfl⟩)
end
def C9w(id:IdD)(k:Int)(l:ByteArray)(h w:List A0G)(ks:List A0b):A5t (.mk id k l h w ks)=(A9g (.mk id k l h w ks)&&ks.all A5t):=by
 have hl:∀ks:List A0b,(A4z A9g (λ(_:Unit) _=>()) ks ()).1=ks.all A5t:=by
  intro ks;induction ks with
  |nil=>rw[A4z];rfl
  |cons k ks ih=>
   rw[A4z,Z1k];have:(A5g A9g (λ(_:Unit) _=>()) k ()).1=A5t k:=rfl;rw[this];cases A5t k
   .rfl
   .rw[Z0d rfl,Z0s];exact ih
 rw[A5t,A5g];cases A9g (.mk id k l h w ks)
 .rfl
 .rw[Z0d rfl,Z0s];exact hl ks
def C4N(u:A0b):(B7v u&&decide (u.kids.length<=64))=A4t u:=by
 unfold B7v A4t;by_cases k0:u.kind=0
 .rw[Z0d k0,Z0d k0,Z1Q];simp only[Z0f,Z0o];constructor
  .rintro⟨⟨h1,h2⟩,h3⟩;have hh:u.head=[]:=Z0w (by omega);have hw:u.words=[]:=Z0w (by omega);rw[hh,hw];exact⟨⟨⟨⟨by omega,h3⟩,rfl⟩,rfl⟩,⟨h1,rfl⟩,rfl⟩
  .rintro⟨⟨⟨⟨_,h3⟩,_⟩,_⟩,⟨h1,h4⟩,h5⟩;exact⟨⟨h1,by omega⟩,h3⟩
 .rw[Z0e k0,Z0e k0,Z1Q];simp only[Z0f,Z0o];constructor
  .rintro⟨⟨⟨⟨h1,h2⟩,h3⟩,h4⟩,h5⟩;exact⟨⟨⟨⟨by omega,h5⟩,h3⟩,h4⟩,h2⟩
  .rintro⟨⟨⟨⟨h1,h5⟩,h3⟩,h4⟩,h2⟩;exact⟨⟨⟨⟨by omega,h2⟩,h3⟩,h4⟩,h5⟩
def B7b(kind:Int):∀(ks b:List A0b),(∀k∈ks,A5t k=A2T k)->(A8x kind ks (b.map λu=>(u.kind,u.label))&&ks.all A5t)=A4M kind ks b
 |[],_,_=>by rw[A8x,A4M];rfl
 |k::ks,b,h=>by
  have ih:=B7b kind ks (b++[k]) λx hx=>h x (by simp[hx]);rw[Z0Q]at ih;have ih:(A8x kind ks (b.map (λu=>(u.kind,u.label))++[(k.kind,k.label)])&&ks.all A5t)=A4M kind ks (b++[k]):=ih;rw[A8x,A4M,<-ih,Z1k,h k (by simp)];have ha:((b.map λu=>(u.kind,u.label)).any λy=>decide (y=(k.kind,k.label)))=b.any λa=>A2M a k:=by rw[List.any_map];congr 1;funext a;simp only[Function.comp,A2M,Z0b,Bool.decide_and]
  rw[ha];cases A1w kind k.kind<;>cases A2T k<;>cases(b.any λa=>A2M a k)<;>simp
def B1C:∀u:A0b,A5t u=A2T u
 |.mk id k l h w ks=>by
  have ih:∀x∈ks,A5t x=A2T x:=λx hx=>by have:=A0b.kid_lt (u:=.mk id k l h w ks) hx;exact B1C x
  have h1:=B7b k ks [] ih;have h2:=C4N (.mk id k l h w ks);rw[C9w,A2T,<-h1,<-h2];show(B7v (.mk id k l h w ks)&&A8x k ks []&&decide (ks.length<=64)&&ks.all A5t)=(B7v (.mk id k l h w ks)&&decide (ks.length<=64)&&(A8x k ks []&&ks.all A5t));cases B7v (.mk id k l h w ks)<;>cases A8x k ks []<;>cases decide (ks.length<=64)<;>simp
termination_by u=>SizeOf.sizeOf u
def D0t(u:A0b):C3X u=B2N u:=by
 have h:=B2m (A0X u) ([]:List IdD);simp only[Z1t,Z0K]at h;have h2:decide ((A6f [] (A0X u)).length=A0x u)=A6k (A0X u) []:=by rw[Z1Q,Z0o,<-h,A4D]
 simp only[C3X,B2N,B0o,C6U,B1C,C4w,h2]
structure A0L where
 id:IdD
 parent:Int
 label:ByteArray
def A0L.row(s:A0L):List AV:=[I s.id.act,I s.id.item,I s.id.n,I s.parent,S s.label]
def A0L.good(s:A0L):Prop:=s.id.good/\inI s.parent/\s.label.size<=maxLen
def A1A(l:List A0L):List (List AV):=l.map A0L.row
@[simp] def D8h(l:List A0L):(A1A l).length=l.length:=by simp[A1A]
@[simp] def D7Y{p}{i}(h:i<(A1A p).length):(A1A p)[i]=(p[i]'(by simpa using h)).row:=by simp[A1A]
mutual
def A1O(x:IdD):A0b->Option A0b
 |.mk id k l h w ks=>if id=x then some (.mk id k l h w ks)else B2G x ks
def B2G(x:IdD):List A0b->Option A0b
 |[]=>none
 |k::ks=>match A1O x k with
  |some v=>some v
  |none=>B2G x ks
end
def zU:List AV:=[I 0,I 0,I 0,I 0,S ⟨#[]⟩,.val (.slice none 0 0),.val (.slice none 0 0),.val (.slice none 0 0)]
def A2y:Option A0b->List AV
 |some u=>u.row
 |none=>zU
def C0D(n:Nat)(l:List A0G):A9W n (A0g l):=by
 induction l with
 |nil=>simp[A0g,A9W]
 |cons w l ih=>simp only[A0g,Z0C,A9W];exact⟨by simp[A0G.row,A2l,bdd],ih⟩
mutual
def A8s(n:Nat):∀u:A0b,A2l n u.row
 |.mk id k l h w ks=>by rw[A0b.row];simp only[A2l,bdd,Z2e,Z2u];exact⟨C0D n h,C0D n w,C1q n ks⟩
def C1q(n:Nat):∀l:List A0b,A9W n (A0O l)
 |[]=>by rw[A0O];simp[A9W]
 |u::l=>by rw[A0O];exact⟨A8s n u,C1q n l⟩
end
def C8J(n:Nat)(o:Option A0b):A2l n (A2y o):=by
 cases o with
 |none=>simp[A2y,zU,A2l,bdd]
 |some u=>exact A8s n u
@[simp] def D7F(o:Option A0b):(A2y o).length=8:=by cases o<;>simp[A2y,zU]
@[simp] def D6P(o:Option A0b):List.take 8 (A2y o)=A2y o:=Z0l (by simp)
def A6Z{C}{f}{args}{M}{r}(hb:∀n,bdd n r)(h:A0e C f args M (λv M'=>v=r/\Grow M M')):A0e C f args M (λv M'=>v=r/\M'=M):=by
 refine h.cut ?_;rintro _ M' ⟨rfl,hg⟩;refine⟨M'.drop M.length,?_,hb _,rfl,rfl⟩;have ht:M'.take M.length=M:=by
  apply Z1J;intro i;rw[Z0R];split
  .rename_i hi;exact hg.2 i hi (by simp)
  .rename_i hi;exact(Z1i (by omega)).symm
 have:=Z1o M.length M';rw[ht]at this;exact this.symm
@[simp] def E1j:A0Q prog 27 []=some (.agg zU):=by
 simp[A0Q,A1G];rfl
def C6q{M:Mem}{t:TypeId}{cs:List AV}:A3g (M++[.cells t cs]) (.ptr M.length 0)=some cs:=by simp[A3g]
def A0C{M:Mem}{b:Nat}{t:TypeId}{cs:List AV}(h:b<M.length):A3g (M.set b (.cells t cs)) (.ptr b 0)=some cs:=by simp[A3g,h]
def A9S{M M1}{b}{X}(h:Grow M M1)(hb:M.length<=b):Grow M (M1.set b X):=⟨by simpa using h.1,λi hi _=>by rw[Z0g (by omega)];exact h.2 i hi (by simp)⟩
@[simp] def E2R:zU.length=8:=rfl
@[simp] def E1n:List.take 8 zU=zU:=rfl
section
variable (gl:Nat->AV)
def B4Q:∀(u:A0b) (x:IdD) (M:Mem),u.good->A0e (WC gl) 104 [.agg u.row,.agg x.row] M (λv M'=>v=.tuple [.agg (A2y (A1O x u)),B (A1O x u).isSome]/\M'=M)
 |.mk id kind lab hd ws ks,x,M,hg=>by
  refine A6Z (λn=>by simp only[bdd,A2l,Z2e];exact C8J n _) ?_;obtain⟨_,_,t,_,q,_,r,p,f⟩:=(A0b.good_iff _).1 hg;have f:∀k∈ks,k.good:=f;have s:ks.length<=9223372036854775807:=p;have b:(A0b.mk id kind lab hd ws ks).row=[I id.act,I id.item,I id.n,I kind,S lab,.list 4 (A0g hd) .no,.list 4 (A0g ws) .no,.list 8 (A0O ks) .no]:=by rw[A0b.row]
  have hR:A1O x (.mk id kind lab hd ws ks)=if id=x then some (.mk id kind lab hd ws ks)else B2G x ks:=by rw[A1O]
  rw[hR];have hx:x.row=[I x.act,I x.item,I x.n]:=rfl;by_cases h0:id=x
  .rw[Z0d h0];have o:A2y (some (.mk id kind lab hd ws ks))=[I id.act,I id.item,I id.n,I kind,S lab,.list 4 (A0g hd) .no,.list 4 (A0g ws) .no,.list 8 (A0O ks) .no]:=b;rw[o,b,hx];refine A0k hB func104 ?_;simp -dsimp -implicitDefEqProofs[B2E,Z0J h0,A0o,A0l,A0d,A4q,A4d,A0c.refl,A0c.app,C6q,A0t]
  rw[Z0e h0];generalize m:B2G x ks=R;rw[b,hx];refine A0k hB func104 ?_;simp -dsimp -implicitDefEqProofs[B2E,h0,A0o,A0l,A0d,A4q,A4d];refine A0s hB ks.length 6 (λT M1=>∃i:Nat,i<=ks.length/\T 2=.cptr [I id.act,I id.item,I id.n,I kind,S lab,.list 4 (A0g hd) .no,.list 4 (A0g ws) .no,.list 8 (A0O ks) .no]/\T 3=.cptr [I x.act,I x.item,I x.n]/\T 4=.ptr M.length 0/\T 6=I i/\(∃z,M1[M.length]?=some (.cells 27 z)/\z.length=8)/\Grow M M1/\R=B2G x (ks.drop i)) ?_ ?_
  .exact⟨0,by omega,by simp,by simp,by simp,by simp,⟨_,List.getElem?_concat_length,rfl⟩,A0c.app _ _ _,by simp[m]⟩
  .rintro T M1 ⟨i,i1,t2,t3,t4,t6,⟨z,hz,g⟩,j,ho⟩;by_cases hi:i<ks.length;case neg=>
    (have a:¬(i:Int)<ks.length:=by omega);rw[show ks.drop i=[]from Z0n (by omega),B2G]at ho
    subst ho;have e:M.length<M1.length:=(Z0c.1 hz).1;have hd:List.drop 8 z=[]:=Z0n (by omega);simp -dsimp -implicitDefEqProofs[t2,t3,t4,t6,a,A0f hz,A4q,A4d,g,hd,A0C e,A0t,A2y,A9S j]
   (have a:(i:Int)<ks.length:=by omega);have w1:IntKind.i64.wrap ((i:Int)+1)=(i+1:Nat):=by rw[A0H (by omega) (by omega)];omega
   have d:ks[i]∈ks:=Z0v hi;have e:M.length<M1.length:=(Z0c.1 hz).1;rw[Z0h hi,B2G]at ho;have:=A0b.kid_lt (u:=.mk id kind lab hd ws ks) d;have hf:=λM=>B4Q ks[i] x M (f _ d);generalize A1O x ks[i]=F at*;(have hX:(M1++[A0p.cells 27 (A2y F)])[M1.length]?=some (A0p.cells 27 (A2y F)):=by simp);(have h:(M1++[A0p.cells 27 (A2y F)])[M.length]?=some (A0p.cells 27 z):=by rw[Z0j e];exact hz);(have l:M.length<(M1++[A0p.cells 27 (A2y F)]).length:=by simp;omega);have hd:List.drop 8 z=[]:=Z0n (by omega);have c:Grow M (M1++[A0p.cells 27 (A2y F)]):=j.trans (A0c.app none _ _);simp -dsimp -implicitDefEqProofs[t2,t3,t4,t6,hi,a];refine A1h hB (A0w gl) (λk=>if k=10\/k=11 then 2 else 0) (λ_=>0) (by rfl) (by kernel_rfl) ?_;simp -dsimp -implicitDefEqProofs[t2,t3,t4,t6,hi,a];refine A1j func104 hf ?_;cases F with
   |none=>simp -dsimp -implicitDefEqProofs[t2,t3,t4,t6,hi,a,A0o,A0l,A0d,A4q,A4d,w1];exact⟨⟨i+1,by clear w1;omega,rfl,⟨z,h,g⟩,c,ho⟩,by clear w1;omega⟩
   |some v=>have ho:R=some v:=ho;subst ho;simp -dsimp -implicitDefEqProofs[t2,t3,t4,t6,hi,a,A0o,A0l,A0d,A4q,A4d];rw[A0a hX];simp -dsimp -implicitDefEqProofs[A0t,t4,A0f h,A4q,A4d,g,hd,A0C l,A9S c]
termination_by u=>SizeOf.sizeOf u
end
end Go.Abs
