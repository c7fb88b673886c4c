/- The texts CvE, CvF, CvG, CvH, CvI, CvJ, CvK, CvL, CvP, CvM, CvN. -/
import Derived.Test.YtmpdkagfplajjaaGreatDoorFG28
set_option linter.all false
set_option maxRecDepth 100000
namespace Go.Abs
open Go.Proofs TryTypes Tryz
section
variable (gl:Nat->AV) (M:Mem)
def C4Q(s:ByteArray)(hs:s.size<=maxLen):A0d (WC gl) 193 [S s] M (λv M'=>v=B (A2I s)/\M'=M):=by
 refine A0j hB func193 ?_;by_cases h1:s.size<1
 .have d:(s.size:Int)<1:=by omega
  have hw:A2I s=false:=by simp[A2I];omega
  simp -dsimp -implicitDefEqProofs[d,hw]
 have d:¬(s.size:Int)<1:=by omega
 by_cases h2:s.size<=24;case neg=>
  have a:(24:Int)<s.size:=by omega
  have e:(s.size:Int)>24:=a;have hw:A2I s=false:=by simp[A2I,h2]
  simp -dsimp -implicitDefEqProofs[d,a,hw]
 have a:¬(24:Int)<s.size:=by omega
 have e:¬(s.size:Int)>24:=a;have hw:A2I s=decide (A1F (A0X 33 126) s s.size 0<0):=by
  have:1<=s.size:=by omega
  simp[A2I,h2,this]
 simp -dsimp -implicitDefEqProofs[d,a];refine A0v hB s.size 3 (λT M1=>∃i:Nat,i<=s.size/\M1=M/\T 0=S s/\T 3=I i/\A1F (A0X 33 126) s s.size 0=A1F (A0X 33 126) s (s.size-i) i) ?_ ?_
 .exact⟨0,by omega,rfl,by simp,by simp,by simp⟩
 .rintro T M1 ⟨i,i1,rfl,t0,t3,ho⟩;by_cases hi:i<s.size
  ·(have b:(i:Int)<s.size:=by omega);have w1:IntKind.i64.wrap ((i:Int)+1)=(i+1:Nat):=by rw[A0T (by omega) (by omega)];omega
   rw[B2U _ _ hi]at ho;generalize hc:A1c s i=c at*;by_cases c1:c<33
   ·(have hp:A0X 33 126 c=true:=by simp[A0X,c1]);rw[hp,Z0d rfl]at ho
    (have hn:¬A1F (A0X 33 126) s s.size 0<0:=by rw[ho];omega);rw[Z0w hn]at hw
    simp -dsimp -implicitDefEqProofs[t0,t3,b,hc,c1,hw]
   .by_cases c2:c>126
    ·(have hp:A0X 33 126 c=true:=by simp[A0X];omega);rw[hp,Z0d rfl]at ho
     (have hn:¬A1F (A0X 33 126) s s.size 0<0:=by rw[ho];omega);rw[Z0w hn]at hw
     have f:126<c:=c2;simp -dsimp -implicitDefEqProofs[t0,t3,b,hc,c1,c2,hw]
    ·(have hp:A0X 33 126 c=false:=by simp[A0X];omega);rw[hp,Z0e (by simp)]at ho
     have f:¬126<c:=c2;simp -dsimp -implicitDefEqProofs[t0,t3,b,hc,c1,c2,w1];exact⟨⟨i+1,by clear w1;omega,rfl,ho⟩,by clear w1;omega⟩
  ·(have b:¬(i:Int)<s.size:=by omega);rw[show s.size-i=0 by omega]at ho
   (have hn:A1F (A0X 33 126) s s.size 0<0:=by rw[ho,A1F];omega);rw[Z0s hn]at hw
   simp -dsimp -implicitDefEqProofs[t0,t3,b,hw]
def D3t(l:List ByteArray)(hl:l.length<=1000)(hs:∀s∈l,s.size<=maxLen)(v:AV)(hv:A1n 9 1 A5F M v l):A0d (WC gl) 195 [v] M (λr M'=>r=B (decide (l.length<=256)&&l.all A2I)/\M'=M):=by
 refine A0j hB func195 ?_;have a:A1Z prog 37 v=some l.length:=hv.len (e':=9) (by simp);by_cases h1:l.length<=256;case neg=>
  have b:(256:Int)<l.length:=by omega
  have c:(l.length:Int)>256:=b;simp -dsimp -implicitDefEqProofs[a,b,h1]
 have b:¬(256:Int)<l.length:=by omega
 have c:¬(l.length:Int)>256:=b;simp -dsimp -implicitDefEqProofs[a,b];refine A0v hB l.length 3 (λT M1=>∃i:Nat,i<=l.length/\M1=M/\T 0=v/\T 3=I i/\l.all A2I=(l.drop i).all A2I) ?_ ?_
 .exact⟨0,by omega,rfl,by simp,by simp,by simp⟩
 .rintro T M1 ⟨i,i1,rfl,t0,t3,ho⟩;by_cases hi:i<l.length
  ·(have d:(i:Int)<l.length:=by omega);have w1:=A1y (i:=i) (by omega)
   obtain⟨p,p1,p2⟩:=hv.at1 (P:=prog) (t:=9) (f:=S) (λ_=>rfl) (by simp) (by simp) hi;have hd:l.drop i=l[i]::l.drop (i+1):=Z0j hi;rw[hd,Z1t]at ho;simp -dsimp -implicitDefEqProofs[t0,t3,a,d,p1,p2];refine A0f func193 (C4Q gl _ l[i] (hs _ (Z0u hi))) ?_;cases hp:A2I l[i]
   .rw[hp,Z0q]at ho;rw[ho,Z1L];simp -dsimp -implicitDefEqProofs[]
   .rw[hp,Z0r]at ho;simp -dsimp -implicitDefEqProofs[t0,t3,w1];exact⟨⟨i+1,by clear w1;omega,rfl,ho⟩,by clear w1;omega⟩
  ·(have d:¬(i:Int)<l.length:=by omega);rw[show l.drop i=[]from Z0n (by omega)]at ho
   rw[ho];simp -dsimp -implicitDefEqProofs[t0,t3,a,d,h1]
def D5S(M:Mem)(l:List ByteArray)(v:AV)(M':Mem):Prop:=A1n 9 1 A5F M' v l/\Grow M M'/\A1r M.length v
def D3d(ws:List A0H)(o:Own)(hl:ws.length<=100000000):A0d (WC gl) 33 [.list 4 (A0g ws) o] M (D5S M (A0Y ws)):=by
 refine A0j (hQ [5,19]) func33 ?_;simp -dsimp -implicitDefEqProofs;refine A0v (hQ [5,19]) ws.length 4 (λT M1=>∃i:Nat,i<=ws.length/\T 0=.list 4 (A0g ws) o/\T 4=I i/\A1n 9 1 A5F M1 (T 3) (A0Y (ws.take i))/\Grow M M1/\A1r M.length (T 3)) ?_ ?_
 .refine⟨0,by omega,by simp,by simp,?_,A0c.app none M _,by simp[A1r]⟩;refine .inr ⟨M.length,0,[(0,0)],by simp[A0Y],by simp[A0Y],by simp[A0Y,List.lookup]⟩
 .rintro T M1 ⟨i,i1,t0,t4,hv,hg,hL⟩;by_cases hi:i<ws.length
  ·(have a:(i:Int)<ws.length:=by omega);have w1:IntKind.i64.wrap ((i:Int)+1)=(i+1:Nat):=by rw[A0T (by omega) (by omega)];omega
   generalize b:T 3=ov at*;(have ht:A0Y (ws.take (i+1))=A0Y (ws.take i)++[ws[i].text]:=by rw[A0Y,A0Y,Z1k,Z0l hi,Z0Q];rfl);simp -dsimp -implicitDefEqProofs[t0,t4,hi,a,b,A0H.row,A0p,A0Z];refine C2u gl hv (by simp[A0Y];omega) rfl ?_;intro v' M' h1 h2 h3;obtain⟨k1,k2⟩:=A2T (X:=[]) hg hL (by simpa using h2) (by simpa using h3);simp -dsimp -implicitDefEqProofs[t0,t4,w1];exact⟨⟨i+1,by clear w1;omega,rfl,by rw[ht];exact h1,k1,k2⟩,by clear w1;omega⟩
  ·(have a:¬(i:Int)<ws.length:=by omega);rw[Z0k (by omega)]at hv
   simp -dsimp -implicitDefEqProofs[t0,t4,a,D5S,hv,hg,hL]
def D1a(ws:List A0H)(o:Own)(hl:ws.length<=100000000)(hs:∀w∈ws,w.text.size<=maxLen):A0d (WC gl) 245 [.list 4 (A0g ws) o] M (λv M'=>v=B (A3l ws)/\M'=M):=by
 have key:A0d (WC gl) 245 [.list 4 (A0g ws) o] M (λv M'=>(∃x,v=.val x/\x=.bool (A3l ws))/\Grow M M'):=by
  refine A0j hB func245 ?_;by_cases h1:ws.length<=256
  ·(have a:(ws.length:Int)<=256:=by omega);simp -dsimp -implicitDefEqProofs[a]
   refine A0s func33 (D3d gl M ws o hl) ?_;rintro v M1 ⟨hv,hg,hL⟩;simp -dsimp -implicitDefEqProofs;refine A0s func195 (D3t gl M1 (A0Y ws) (by simp[A0Y];omega) (by simpa[A0Y]using hs) v hv) ?_;rintro _ _ ⟨rfl,rfl⟩;rw[C1T];simp -dsimp -implicitDefEqProofs[A3l,A0Y,hg]
  ·(have a:¬(ws.length:Int)<=256:=by omega);simp -dsimp -implicitDefEqProofs[a,A3l,h1]
   exact A0c.refl _ _
 exact(A7B (Q:=λx=>x=.bool (A3l ws)) key).mono (by rintro v M' ⟨⟨x,rfl,rfl⟩,rfl⟩;exact⟨rfl,rfl⟩)
end
def A9C(l:List Int):List (List AV):=l.map λx=>[I x]
@[simp] def E2a(l:List Int):(A9C l).length=l.length:=by simp[A9C]
@[simp] def E1U{p}{i}(h:i<(A9C p).length):(A9C p)[i]=[I (p[i]'(by simpa using h))]:=by simp[A9C]
def A2z:AV:=.cptr (A3y.map λl=>.list 1 (A9C l) .no)
def A9u:List ByteArray:=[⟨#[98,111,111,107]⟩,⟨#[112,97,114,116]⟩,⟨#[115,101,99,116,105,111,110]⟩,⟨#[112,97,114,97,103,114,97,112,104]⟩,⟨#[116,97,98,108,101]⟩,⟨#[114,111,119]⟩,⟨#[99,101,108,108]⟩,⟨#[110,111,116,101]⟩]
def A2S:AV:=.cptr (A9u.map S)
section
variable (gl:Nat->AV) (M:Mem)
def D1n(l:List Int)(o:Own)(hl:l.length<=1000)(x:Int):A0d (WC gl) 261 [.list 1 (A9C l) o,I x] M (λv M'=>v=I (A3R (λy=>decide (x=y)) l 0)/\M'=M):=by
 refine A0j hB func261 ?_;simp -dsimp -implicitDefEqProofs;refine A0v hB l.length 8 (λT M1=>∃i:Nat,i<=l.length/\M1=M/\T 0=.list 1 (A9C l) o/\T 1=I x/\T 7=I l.length/\T 8=I i/\A3R (λy=>decide (x=y)) l 0=A3R (λy=>decide (x=y)) (l.drop i) i) ?_ ?_
 .exact⟨0,by omega,rfl,by simp,by simp,by simp,by simp,by simp⟩
 .rintro T M1 ⟨i,i1,rfl,t0,t1,t7,t8,ho⟩;by_cases hi:i<l.length
  ·(have a:(i:Int)<l.length:=by omega);have w1:=A1y (i:=i) (by omega)
   have hd:l.drop i=l[i]::l.drop (i+1):=Z0j hi;rw[hd,A3R]at ho;by_cases hp:x=l[i]
   .rw[Z0s hp,Z0d rfl]at ho;simp -dsimp -implicitDefEqProofs[t0,t1,t7,t8,hi,a,hp.symm,ho]
   .rw[Z0w hp,Z0e (by simp)]at ho;simp -dsimp -implicitDefEqProofs[t0,t1,t7,t8,hi,a,hp,w1];exact⟨⟨i+1,by clear w1;omega,rfl,ho⟩,by clear w1;omega⟩
  ·(have a:¬(i:Int)<l.length:=by omega);rw[show l.drop i=[]from Z0n (by omega)]at ho
   simp -dsimp -implicitDefEqProofs[t7,t8,a,ho,A3R]
def C3k(l:List Int)(o:Own)(hl:l.length<=1000)(x:Int):A0d (WC gl) 205 [.list 1 (A9C l) o,I x] M (λv M'=>v=B (l.contains x)/\M'=M):=by
 refine A0j hB func205 ?_;simp -dsimp -implicitDefEqProofs;refine A0f func261 (D1n gl M l o hl x) ?_;have:l.contains x=l.any λy=>decide (x=y):=by rw[List.contains_eq_any_beq];congr 1
 rw[this,<-A8z _ l 0];simp -dsimp -implicitDefEqProofs
def D9H:C5u prog 242=some (8,130):=by kernel_rfl
def D9L:C5u prog 278=some (8,9):=by kernel_rfl
def D3r{h}{d}{y}{t:TypeId}{p}{af}{g}{ρ:Operand->AV}{M}{k}(h0:ρ (.global 0)=A2z)(hy:ρ y=I k)(k0:0<=k)(k8:k<8):A0A (WC gl) h ⟨d,.indexAddr 242 (.global 0) y,t,p,af,g⟩ ρ M=some (.cptr ((A3y.map λl=>AV.list 1 (A9C l) .no).drop k.toNat),M):=by simp[A0A,A0q,A0U,A0Q,A0E,h0,hy,A2z,D9H,k0,k8]
def D3n{h}{d}{y}{t:TypeId}{p}{af}{g}{ρ:Operand->AV}{M}{k}(h0:ρ (.global 1)=A2S)(hy:ρ y=I k)(k0:0<=k)(k8:k<8):A0A (WC gl) h ⟨d,.indexAddr 278 (.global 1) y,t,p,af,g⟩ ρ M=some (.cptr ((A9u.map S).drop k.toNat),M):=by simp[A0A,A0q,A0U,A0Q,A0E,h0,hy,A2S,D9L,k0,k8]
def D5R(p k:Int):A0d (WC gl) 106 [I p,I k] M (λv M'=>v=B (A1o p k)/\M'=M):=by
 refine A0j hB func106 ?_;by_cases h0:p=0
 .subst h0;have e:A1o 0 k=(decide (k=1)||decide (k=2)):=by simp[A1o,A3y]
  rw[e];by_cases k1:k=1
  .simp -dsimp -implicitDefEqProofs[k1]
  .simp -dsimp -implicitDefEqProofs[k1];rfl
 by_cases h1:p=1
 .subst h1;have e:A1o 1 k=decide (k=2):=by simp[A1o,A3y]
  rw[e];simp -dsimp -implicitDefEqProofs;rfl
 by_cases h2:p=2
 .subst h2;have e:A1o 2 k=(decide (k=3)||decide (k=4)||decide (k=7)):=by simp[A1o,A3y,Z3Q]
  rw[e];by_cases k1:k=3
  .simp -dsimp -implicitDefEqProofs[k1]
  .by_cases k2:k=4
   .simp -dsimp -implicitDefEqProofs[k2]
   .simp -dsimp -implicitDefEqProofs[k1,k2];rfl
 by_cases h3:p=3
 .subst h3;have e:A1o 3 k=(decide (k=3)||decide (k=4)||decide (k=7)):=by simp[A1o,A3y,Z3Q]
  rw[e];by_cases k1:k=3
  .simp -dsimp -implicitDefEqProofs[k1]
  .by_cases k2:k=4
   .simp -dsimp -implicitDefEqProofs[k2]
   .simp -dsimp -implicitDefEqProofs[k1,k2];rfl
 by_cases h4:p=4
 .subst h4;have e:A1o 4 k=decide (k=5):=by simp[A1o,A3y]
  rw[e];simp -dsimp -implicitDefEqProofs;rfl
 by_cases h5:p=5
 .subst h5;have e:A1o 5 k=decide (k=6):=by simp[A1o,A3y]
  rw[e];simp -dsimp -implicitDefEqProofs;rfl
 .have e:A1o p k=false:=by
   by_cases q:0<=p/\p<8
   ·(have:p=6\/p=7:=by omega);rcases this with rfl|rfl<;>simp[A1o,A3y]
   .simp only[A1o,Z2F,Z1x];omega
  simp -dsimp -implicitDefEqProofs[h0,h1,h2,h3,h4,h5,e]
def C6x{e}{x i}{cs}(h:x=.cptr cs):A6s e x i=none:=by subst h;unfold A6s;split<;>simp_all
def A9s(hg:gl 0=A2z)(p k:Int):A0d (WC gl) 152 [I p,I k] M (λv M'=>v=B (A1o p k)/\M'=M):=by
 refine A0j hB func152 ?_;by_cases h0:0<=p;case neg=>
  have b:¬p>=0:=h0;have e:A1o p k=false:=by simp[A1o,h0]
  simp -dsimp -implicitDefEqProofs[h0,e]
 have b:p>=0:=h0;by_cases h1:p<8;case neg=>
  have e:A1o p k=false:=by simp[A1o,h1]
  simp -dsimp -implicitDefEqProofs[h0,h1,e]
 have hn:∀e,A6s e (gl 0) (I p)=none:=λe=>C6x hg;simp -dsimp -implicitDefEqProofs[h0,h1,hn];rw[D3r gl (k:=p) (by exact hg) (by rfl) h0 h1];have c:p.toNat<A3y.length:=by show p.toNat<8;omega
 have hd:(A3y.map λl=>AV.list 1 (A9C l) .no).drop p.toNat=.list 1 (A9C A3y[p.toNat]) .no::(A3y.map λl=>AV.list 1 (A9C l) .no).drop (p.toNat+1):=by rw[Z0j (by simpa using c),Z2i]
 have a:∀l∈A3y,l.length<=1000:=by decide
 have e:A1o p k=A3y[p.toNat].contains k:=by simp only[A1o,Z0s h0,Z0s h1,Z0r,Z1u,Z0l c,Z1I]
 rw[e];simp -dsimp -implicitDefEqProofs[hd];refine A0f func205 (C3k gl M _ .no (a _ (Z0u c)) k) ?_;simp -dsimp -implicitDefEqProofs
def A4K(k:Int):ByteArray:=if 0<=k/\k<8 then A9u.getD k.toNat .empty else⟨#[]⟩
def A6A(k:Int):A4K k=⟨#[]⟩<->¬(0<=k/\k<8):=by
 unfold A4K;constructor
 .intro h hk;rw[Z0d hk]at h;have:∀i:Fin 8,A9u.getD i.val .empty≠⟨#[]⟩:=by decide
  exact this ⟨k.toNat,by omega⟩ h
 .intro h;rw[Z0e h]
def B1m(hg:gl 1=A2S)(k:Int):A0d (WC gl) 207 [I k] M (λv M'=>v=S (A4K k)/\M'=M):=by
 refine A0j hB func207 ?_;by_cases h0:k<0
 .have e:A4K k=⟨#[]⟩:=(A6A k).2 (by omega);simp -dsimp -implicitDefEqProofs[h0,e]
 by_cases h1:8<=k
 .have a:k>=8:=h1;have e:A4K k=⟨#[]⟩:=(A6A k).2 (by omega);simp -dsimp -implicitDefEqProofs[h0,h1,e]
 have a:¬k>=8:=h1;have hn:∀e,A6s e (gl 1) (I k)=none:=λe=>C6x hg;simp -dsimp -implicitDefEqProofs[h0,h1,hn];rw[D3n gl (k:=k) (by exact hg) (by rfl) (by omega) (by omega)];have b:k.toNat<A9u.length:=by show k.toNat<8;omega
 have hd:(A9u.map S).drop k.toNat=S A9u[k.toNat]::(A9u.map S).drop (k.toNat+1):=by rw[Z0j (by simpa using b),Z2i]
 have e:A4K k=A9u[k.toNat]:=by rw[A4K,Z0d (by omega),Z1u,Z0l b];rfl
 rw[e];simp -dsimp -implicitDefEqProofs[hd]
end
open Go.Proofs TryTypes
section
mutual
def A4G{A:Type}(p:A0a->Bool)(stp:A->A0a->A):A0a->A->Bool×A
 |.mk id k l h w ks,a=>if p (.mk id k l h w ks)then A3I p stp ks (stp a (.mk id k l h w ks))else(false,stp a (.mk id k l h w ks))
def A3I{A:Type}(p:A0a->Bool)(stp:A->A0a->A):List A0a->A->Bool×A
 |[],a=>(true,a)
 |u::l,a=>if(A4G p stp u a).1 then A3I p stp l (A4G p stp u a).2 else(false,(A4G p stp u a).2)
end
section
variable (gl:Nat->AV)
end
end
abbrev C3R(x:Int×ByteArray):AV:=.agg [I x.1,S x.2]
abbrev A2M(x:IdD):AV:=.agg x.row
def D5T:prog.stoodInHeld 247=false:=by kernel_rfl
def C4a:prog.stoodInHeld 23=false:=by kernel_rfl
def D8y{a b:ByteArray}:(a.data==b.data)=decide (a=b):=by
 by_cases h:a=b
 .subst h;simp
 .rw[Z0w h];refine Z1b.2 λe=>h ?_;cases a;cases b;simp only at e;rw[e]
def D7h(a:ByteArray):(a==a)=true:=by show(a.data==a.data)=true;simp
def D8u{x y:Int}(h:¬x=y):(x==y)=false:=Z1b.2 h
def C2l:C1A prog 245 247 4 C3R:=by
 refine⟨by kernel_rfl,by kernel_rfl,λk=>?_,λa b=>?_,λa=>⟨.agg #[.int .i64 a.1,.string a.2],by simp[A7t],?_⟩⟩
 .simp[A5h,A0k,underlying247]
 .obtain⟨x,s⟩:=a;obtain⟨y,t⟩:=b;simp[A7P,A2E,A0k];rw[D8y];by_cases h1:x=y
  .subst h1;by_cases h2:s=t
   .subst h2;simp
   .simp[h2]
  .simp[h1,D8u h1]
 .simp[Instr.sameBits,D7h]
def A8Z(t e:TypeId)(c:A7G prog t=some (23,e)):C1A prog t 23 e A2M:=by
 refine⟨c,by kernel_rfl,λk=>?_,λa b=>?_,λa=>⟨.agg #[.int .i64 a.act,.int .i64 a.item,.int .i64 a.n],by simp[A7t,IdD.row],?_⟩⟩
 .simp[A5h,A0k,IdD.row]
 .obtain⟨x,y,z⟩:=a;obtain⟨x',y',z'⟩:=b;simp[A7P,A2E,A0k,IdD.row];by_cases h1:x=x'
  .subst h1;by_cases h2:y=y'
   .subst h2;by_cases h3:z=z'
    .subst h3;simp
    .simp[h3,D8u h3]
   .simp[h2,D8u h2]
  .simp[h1,D8u h1]
 .simp[Instr.sameBits]
def C0c(t e:TypeId)(c:A7G prog t=some (3,e)):C1A prog t 3 e I:=by
 refine⟨c,by kernel_rfl,λk=>?_,λa b=>?_,λa=>⟨.int .i64 a,by simp[A7t],?_⟩⟩
 .simp[A5h]
 .simp[A7P];by_cases h1:a=b
  .subst h1;simp
  .simp[h1]
 .simp[Instr.sameBits]
@[simp] def E4y{a}{b}:A0D prog 247 [(0,I a),(1,S b)]=some (.agg [I a,S b]):=by
 simp[A0D,A1l,A1H]
@[simp] def D0m:A0D prog 23 []=some (.agg [I 0,I 0,I 0]):=by
 simp[A0D,A1l]
def B5A{K:Type}[DecidableEq K](c:K):∀A1f:List K,A1L (A1f.map λx=>(x,true)) c=if(A1f.any λy=>decide (y=c))then some true else none
 |[]=>rfl
 |x::l=>by
  rw[Z0B,A1L,Z2s];by_cases h:c=x
  .subst h;simp
  .rw[Z0e h,Z0w (λe=>h e.symm),Z1h];exact B5A c l
def B5n{K:Type}[DecidableEq K](c:K):∀A1f:List K,(A1f.any λy=>decide (y=c))=false->A8j (A1f.map λx=>(x,true)) c true=(A1f++[c]).map λx=>(x,true)
 |[],_=>rfl
 |x::l,h=>by
  rw[Z2s,Z2l]at h;have h1:¬c=x:=λe=>by subst e;simp at h
  rw[Z0B,A8j,Z0e h1,B5n c l h.2];rfl
def C0v(u:A0a):Bool:=if u.kind=0 then decide (u.label.size=0)&&decide (u.head.length+u.words.length=0)else decide (0<=u.kind/\u.kind<8)&&A0N u.label&&A3l u.head&&A3l u.words
def A8D(kind:Int):List A0a->List (Int×ByteArray)->Bool
 |[],_=>true
 |k::ks,A1f=>A1o kind k.kind&&!(A1f.any λy=>decide (y=(k.kind,k.label)))&&A8D kind ks (A1f++[(k.kind,k.label)])
def A9k(u:A0a):Bool:=C0v u&&A8D u.kind u.kids []&&decide (u.kids.length<=64)
def A0a.lim(u:A0a):Prop:=u.head.length<=100000000/\u.words.length<=100000000/\u.kids.length<=1000/\u.label.size<=1000
section
variable (gl:Nat->AV) (M:Mem)
set_option maxHeartbeats 1000000 in
def D5G(an:gl 0=A2z)(af:gl 1=A2S)(u:A0a)(hg:u.good)(hl:u.lim):A0d (WC gl) 156 [.agg u.row] M (λv M'=>v=B (A9k u)/\Grow M M'):=by
 obtain⟨id,kind,b,hd,ws,ks⟩:=u;obtain⟨_,_,_,_,al,_,ao,_,aq⟩:=(A0a.good_iff _).1 hg;obtain⟨a5,a4,ag,ac⟩:=hl;have a5:hd.length<=100000000:=a5;have a4:ws.length<=100000000:=a4;have ag:ks.length<=1000:=ag;have ac:b.size<=1000:=ac;have ad:(A0a.mk id kind b hd ws ks).row=[I id.act,I id.item,I id.n,I kind,S b,.list 4 (A0g hd) .no,.list 4 (A0g ws) .no,.list 8 (A0r ks) .no]:=by rw[A0a.row]
 have a6:A9k (.mk id kind b hd ws ks)=(C0v (.mk id kind b hd ws ks)&&A8D kind ks []&&decide (ks.length<=64)):=rfl;have d:C0v (.mk id kind b hd ws ks)=if kind=0 then decide (b.size=0)&&decide (hd.length+ws.length=0)else decide (0<=kind/\kind<8)&&A0N b&&A3l hd&&A3l ws:=rfl;rw[ad];obtain⟨R,hR⟩:∃R,R=A9k (.mk id kind b hd ws ks):=⟨_,rfl⟩;rw[<-hR];have a:C0v (.mk id kind b hd ws ks)=false->R=false:=λh=>by rw[hR,a6,h];rfl
 refine A0j hW func156 ?_;by_cases k0:kind=0;case' pos=>
  rw[Z0d k0]at d;by_cases h1:b=⟨#[]⟩;case neg=>have a9:¬b.size=0:=λe=>h1 (A5s.2 e);have:=a (by rw[d,Z0w a9,Z0q]);simp -dsimp -implicitDefEqProofs[Z0P k0,h1,this,A0c.refl]
  have a9:b.size=0:=A5s.1 h1;have wz:IntKind.i64.wrap ((hd.length:Int)+(ws.length:Int))=(hd.length:Int)+(ws.length:Int):=A0T (by omega) (by omega);by_cases h2:hd.length+ws.length=0;case neg=>
   (have m:(0:Int)<(hd.length:Int)+(ws.length:Int):=by omega);have a7:(hd.length:Int)+(ws.length:Int)>0:=m
   have:=a (by rw[d,Z0w h2,Z1L]);simp -dsimp -implicitDefEqProofs[Z0P k0,Z0P h1,wz,m,this,A0c.refl]
  have m:¬(0:Int)<(hd.length:Int)+(ws.length:Int):=by omega
  have a7:¬(hd.length:Int)+(ws.length:Int)>0:=m;have r:C0v (.mk id kind b hd ws ks)=true:=by rw[d,Z0s a9,Z0s h2];rfl
  have k:Grow M M:=A0c.refl _ _;simp -dsimp -implicitDefEqProofs[Z0P k0,Z0P h1,wz,m]
 case' neg=>
  rw[Z0e k0]at d;by_cases h1:0<=kind/\kind<8;case neg=>have e:A4K kind=⟨#[]⟩:=(A6A kind).2 h1;have:=a (by rw[d,Z0w h1];rfl);simp -dsimp -implicitDefEqProofs[k0];refine A0s func207 (B1m gl M af kind) ?_;rintro _ _ ⟨rfl,rfl⟩;simp -dsimp -implicitDefEqProofs[e,this,A0c.refl]
  have e:¬A4K kind=⟨#[]⟩:=λq=>(A6A kind).1 q h1;rw[Z0s h1,Z0r]at d;simp -dsimp -implicitDefEqProofs[k0];refine A0s func207 (B1m gl M af kind) ?_;rintro _ M0 ⟨rfl,rfl⟩;simp -dsimp -implicitDefEqProofs[e];refine A0s func112 (A9J gl M0 b) ?_;rintro _ M ⟨rfl,k⟩;cases h2:A0N b;case false=>have:=a (by rw[d,h2];rfl);simp -dsimp -implicitDefEqProofs[this,k]
  rw[h2,Z0r]at d;simp -dsimp -implicitDefEqProofs;refine A0s func208 (D5r gl M hd .no a5 (λw hw=>(al w hw).1)) ?_;rintro _ M ⟨rfl,rfl⟩;cases h3:A3l hd;case false=>have:=a (by rw[d,h3];rfl);simp -dsimp -implicitDefEqProofs[this,k]
  rw[h3,Z0r]at d;simp -dsimp -implicitDefEqProofs;refine A0s func208 (D5r gl M ws .no a4 (λw hw=>(ao w hw).1)) ?_;rintro _ M ⟨rfl,rfl⟩;cases h4:A3l ws;case false=>have:=a (by rw[d,h4]);simp -dsimp -implicitDefEqProofs[this,k]
  have r:C0v (.mk id kind b hd ws ks)=true:=by rw[d,h4]
  simp -dsimp -implicitDefEqProofs
 all_goals
  have f:R=(A8D kind ks []&&decide (ks.length<=64)):=by rw[hR,a6,r,Z0r]
  have a3:=λ{X:Mem} (h:Grow M X)=>k.trans h
  clear a a6 d hR r
  refine A0v hW ks.length 49 (λT M1=>∃i:Nat,i<=ks.length/\T 1=.cptr [I id.act,I id.item,I id.n,I kind,S b,.list 4 (A0g hd) .no,.list 4 (A0g ws) .no,.list 8 (A0r ks) .no]/\T 3=.mapr M.length/\T 47=.list 8 (A0r ks) .no/\T 48=I ks.length/\T 49=I i/\Grow M M1/\∃A1f,A2a C3R B M1 M.length (A1f.map λx=>(x,true))/\A8D kind ks []=A8D kind (ks.drop i) A1f) ?_ ?_
  .exact⟨0,by omega,by simp,by simp,by simp,by simp,by simp,A0c.app none M _,[],A2a.new M,by simp⟩
  .rintro T M2 ⟨i,i1,t1,t3,a2,a1,t,a8,A1f,ai,ho⟩;by_cases hi:i<ks.length
   ·(have s:(i:Int)<ks.length:=by omega);have w1:=A1y (i:=i) (by omega)
    have ak:ks.drop i=ks[i]::ks.drop (i+1):=Z0j hi;rw[ak,A8D]at ho;obtain⟨X,hX⟩:∃X,X=ks[i]:=⟨_,rfl⟩;(have am:ks[i].row=[I X.id.act,I X.id.item,I X.id.n,I X.kind,S X.label,.list 4 (A0g X.head) .no,.list 4 (A0g X.words) .no,.list 8 (A0r X.kids) .no]:=by rw[<-hX];exact X.row_eq);rw[<-hX]at ho;(have ah:(M2++[A0l.cells 27 [I X.id.act,I X.id.item,I X.id.n,I X.kind,S X.label,.list 4 (A0g X.head) .no,.list 4 (A0g X.words) .no,.list 8 (A0r X.kids) .no]])[M2.length]?=some (A0l.cells 27 [I X.id.act,I X.id.item,I X.id.n,I X.kind,S X.label,.list 4 (A0g X.head) .no,.list 4 (A0g X.words) .no,.list 8 (A0r X.kids) .no]):=by simp);simp -dsimp -implicitDefEqProofs[t1,a2,a1,t,hi,s,A0m,A0n,A0e,AV.storable,AV.cells,am,A0b ah];obtain⟨c,hc⟩:∃c:Int×ByteArray,c=(X.kind,X.label):=⟨_,rfl⟩;(have aj:AV.agg [I X.kind,S X.label]=C3R c:=by rw[hc]);generalize a0:M2++[A0l.cells 27 [I X.id.act,I X.id.item,I X.id.n,I X.kind,S X.label,.list 4 (A0g X.head) .no,.list 4 (A0g X.words) .no,.list 8 (A0r X.kids) .no],A0l.cells 247 [I X.kind,S X.label]]=M3;(have aa:M3[M2.length+1]?=some (A0l.cells 247 [I X.kind,S X.label]):=by rw[<-a0];simp);(have ab:M3[M2.length]?=some (A0l.cells 27 [I X.id.act,I X.id.item,I X.id.n,I X.kind,S X.label,.list 4 (A0g X.head) .no,.list 4 (A0g X.words) .no,.list 8 (A0r X.kids) .no]):=by rw[<-a0];simp);(have ae:Grow M2 M3:=by rw[<-a0];exact A0c.app none _ _);have o:=ai.keep ae (by simp);have g:=a8.trans ae;clear a0 ah;simp -dsimp -implicitDefEqProofs[A0b ab];refine A0s func152 (A9s gl M3 an kind X.kind) ?_;rintro _ _ ⟨rfl,rfl⟩;cases hn:A1o kind X.kind;(case false=>rw[hn,Z0q,Z0q]at ho;rw[ho,Z0q]at f;simp -dsimp -implicitDefEqProofs[f,a3 g]);rw[hn,Z0r]at ho;have p:=o.get C2l c (z:=B false) (by kernel_rfl) false;rw[<-aj]at p;rw[B5A]at p;rw[<-hc]at ho;simp -dsimp -implicitDefEqProofs[t3,A0b aa,p];cases hs:A1f.any λy=>decide (y=c);(case true=>rw[hs,Z1M,Z0q]at ho;rw[ho,Z0q]at f;simp -dsimp -implicitDefEqProofs[f,a3 g]);rw[hs,Z1C,Z0r]at ho;obtain⟨M4,p1,p2,p3⟩:=o.put C2l c true;rw[B5n c A1f hs]at p2;rw[<-aj]at p1;(have ap:Grow M M4:=by refine⟨Z0S g.1 p3.1,λj hj _=>?_⟩;rw[p3.2 j (by have:=g.1;omega) (by simp;omega)];exact g.2 j hj (by simp));simp -dsimp -implicitDefEqProofs[t3,A0b aa,p1,t1,a2,a1,t,w1];exact⟨⟨i+1,by clear w1;omega,rfl,ap,A1f++[c],p2,ho⟩,by clear w1;omega⟩
   ·(have s:¬(i:Int)<ks.length:=by omega);rw[show ks.drop i=[]from Z0n (by omega),A8D]at ho
    rw[ho,Z0r]at f;by_cases h64:ks.length<=64
    ·(have l:(ks.length:Int)<=64:=by omega);rw[Z0s h64]at f
     simp -dsimp -implicitDefEqProofs[t1,a1,t,s,l,f,a3 a8]
    ·(have l:¬(ks.length:Int)<=64:=by omega);rw[Z0w h64]at f
     simp -dsimp -implicitDefEqProofs[t1,a1,t,s,l,f,a3 a8]
end
def A3U(u:A0a):Bool:=decide (0<=u.kind/\u.kind<=7)&&decide (u.kids.length<=64)&&A3l u.head&&A3l u.words&&(if u.kind=0 then decide (u.label.size=0)&&decide (u.head.length=0)&&decide (u.words.length=0)else A0N u.label)
def A2k(a b:A0a):Bool:=decide (a.kind=b.kind)&&decide (a.label=b.label)
mutual
def A2l:A0a->Bool
 |.mk id k l h w ks=>A3U (.mk id k l h w ks)&&A4h k ks []
def A4h(kind:Int):List A0a->List A0a->Bool
 |[],_=>true
 |k::ks,before=>A1o kind k.kind&&A2l k&&!(before.any λa=>A2k a k)&&A4h kind ks (before++[k])
end
mutual
def A0a.lims:A0a->Prop
 |.mk id k l h w ks=>(A0a.mk id k l h w ks).lim/\A6W ks
def A6W:List A0a->Prop
 |[]=>True
 |k::ks=>k.lims/\A6W ks
end
def A2Z:∀{l:List A0a},A6W l<->∀u∈l,u.lims
 |[]=>by simp[A6W]
 |u::l=>by simp[A6W,A2Z (l:=l)]
section
variable (gl:Nat->AV)
def D3o(u:A0a)(M:Mem)(hg:u.good)(hl:u.lim):A0d (WC gl) 196 [.agg u.row] M (λv M'=>v=B (A3U u)/\M'=M):=by
 obtain⟨id,kind,b,hd,ws,ks⟩:=u;obtain⟨_,_,k,_,p,_,o,_,r⟩:=(A0a.good_iff _).1 hg;have k:b.size<=maxLen:=k;obtain⟨j,i,l,q⟩:=hl;have j:hd.length<=100000000:=j;have i:ws.length<=100000000:=i;have l:ks.length<=1000:=l;have m:(A0a.mk id kind b hd ws ks).row=[I id.act,I id.item,I id.n,I kind,S b,.list 4 (A0g hd) .no,.list 4 (A0g ws) .no,.list 8 (A0r ks) .no]:=by rw[A0a.row]
 obtain⟨R,hR⟩:∃R,R=A3U (.mk id kind b hd ws ks):=⟨_,rfl⟩;have a:R=(decide (0<=kind/\kind<=7)&&decide (ks.length<=64)&&A3l hd&&A3l ws&&(if kind=0 then decide (b.size=0)&&decide (hd.length=0)&&decide (ws.length=0)else A0N b)):=hR;rw[m,<-hR];clear hR;refine A0j hB func196 ?_;by_cases a1:kind<0
 .rw[Z0w (show¬(0<=kind/\kind<=7)by omega)]at a;simp only[Z0q]at a;simp -dsimp -implicitDefEqProofs[a1,a]
 by_cases a2:7<kind
 .have f:kind>7:=a2;rw[Z0w (show¬(0<=kind/\kind<=7)by omega)]at a;simp only[Z0q]at a;simp -dsimp -implicitDefEqProofs[a1,a2,a]
 have f:¬kind>7:=a2;rw[Z0s (show 0<=kind/\kind<=7 by omega),Z0r]at a;by_cases a3:ks.length<=64;case neg=>
  have c:(64:Int)<ks.length:=by omega
  have g:(ks.length:Int)>64:=c;rw[Z0w a3]at a;simp only[Z0q]at a;simp -dsimp -implicitDefEqProofs[a1,a2,c,a]
 have c:¬(64:Int)<ks.length:=by omega
 have g:¬(ks.length:Int)>64:=c;rw[Z0s a3,Z0r]at a;simp -dsimp -implicitDefEqProofs[a1,a2,c];refine A0f func245 (D1a gl M hd .no j (λw hw=>(p w hw).1)) ?_;cases h3:A3l hd;case false=>rw[h3]at a;simp only[Z0q]at a;simp -dsimp -implicitDefEqProofs[a]
 rw[h3,Z0r]at a;simp -dsimp -implicitDefEqProofs;refine A0f func245 (D1a gl _ ws .no i (λw hw=>(o w hw).1)) ?_;cases h4:A3l ws;case false=>rw[h4,Z0q]at a;simp -dsimp -implicitDefEqProofs[a]
 rw[h4,Z0r]at a;by_cases k0:kind=0
 .rw[Z0d k0]at a;by_cases h1:b=⟨#[]⟩
  .rw[Z0s (A5s.1 h1),Z0r]at a;by_cases h2:hd.length=0
   ·(have d:(hd.length:Int)=0:=by omega);rw[Z0s h2,Z0r]at a
    by_cases h5:ws.length=0
    ·(have h:(ws.length:Int)=0:=by omega);rw[Z0s h5]at a
     simp -dsimp -implicitDefEqProofs[Z0P k0,Z0P h1,Z0P h2,Z0P h5,a]
    ·(have h:¬(ws.length:Int)=0:=by omega);rw[Z0w h5]at a
     simp -dsimp -implicitDefEqProofs[Z0P k0,Z0P h1,Z0P h2,h5,a]
   ·(have d:¬(hd.length:Int)=0:=by omega);rw[Z0w h2,Z0q]at a
    simp -dsimp -implicitDefEqProofs[Z0P k0,Z0P h1,h2,a]
  .rw[Z0w (λe=>h1 (A5s.2 e)),Z0q,Z0q]at a;simp -dsimp -implicitDefEqProofs[Z0P k0,h1,a]
 .rw[Z0e k0]at a;simp -dsimp -implicitDefEqProofs[k0];refine A0f func105 (B1i gl M b k) ?_;simp -dsimp -implicitDefEqProofs[a]
def C2p:∀(u:A0a) (M:Mem),u.good->u.lims->A0d (WC gl) 142 [.agg u.row] M (λv M'=>v=B (A2l u)/\M'=M)
 |.mk id kind lab hd ws ks,M,hg,hl=>by
  obtain⟨_,_,a0,_,z,_,a2,_,l⟩:=(A0a.good_iff _).1 hg;have l:∀k∈ks,k.good:=l;rw[A0a.lims]at hl;obtain⟨h,p⟩:=hl;have p:=A2Z.1 p;have a1:ks.length<=1000:=h.2.2.1;have r:(A0a.mk id kind lab hd ws ks).row=[I id.act,I id.item,I id.n,I kind,S lab,.list 4 (A0g hd) .no,.list 4 (A0g ws) .no,.list 8 (A0r ks) .no]:=by rw[A0a.row]
  have s:=D3o gl (.mk id kind lab hd ws ks) M hg h;obtain⟨R,hR⟩:∃R,R=A2l (.mk id kind lab hd ws ks):=⟨_,rfl⟩;have b:R=(A3U (.mk id kind lab hd ws ks)&&A4h kind ks []):=by rw[hR,A2l]
  rw[<-hR];rw[r]at s|-;clear hR;refine A0j hB func142 ?_;simp -dsimp -implicitDefEqProofs;refine A0f func196 s ?_;cases ha:A3U (.mk id kind lab hd ws ks);case false=>rw[ha,Z0q]at b;simp -dsimp -implicitDefEqProofs[b]
  rw[ha,Z0r]at b;simp -dsimp -implicitDefEqProofs;refine A0v hB ks.length 3 (λT M1=>∃i:Nat,i<=ks.length/\T 1=.cptr [I id.act,I id.item,I id.n,I kind,S lab,.list 4 (A0g hd) .no,.list 4 (A0g ws) .no,.list 8 (A0r ks) .no]/\T 3=I i/\M1=M/\A4h kind ks []=A4h kind (ks.drop i) (ks.take i)) ?_ ?_
  .exact⟨0,by omega,by simp,by simp,rfl,by simp⟩
  .rintro T M1 ⟨i,i1,t1,t3,rfl,ho⟩;by_cases hi:i<ks.length;case neg=>
    (have c:¬(i:Int)<ks.length:=by omega);rw[show ks.drop i=[]from Z0n (by omega),A4h]at ho
    rw[ho]at b;simp -dsimp -implicitDefEqProofs[t1,t3,c,b]
   (have c:(i:Int)<ks.length:=by omega);have w1:=A1y (i:=i) (by omega)
   have g:ks[i]∈ks:=Z0u hi;have t:ks.drop i=ks[i]::ks.drop (i+1):=Z0j hi;rw[t,A4h]at ho;(have y:ks.take i++[ks[i]]=ks.take (i+1):=by rw[Z1k,Z0l hi,Z2T]);rw[y]at ho;obtain⟨X,hX⟩:∃X,X=ks[i]:=⟨_,rfl⟩;(have d:ks[i].row=[I X.id.act,I X.id.item,I X.id.n,I X.kind,S X.label,.list 4 (A0g X.head) .no,.list 4 (A0g X.words) .no,.list 8 (A0r X.kids) .no]:=by rw[<-hX];exact X.row_eq);rw[<-hX]at ho;have f:=λM=>C2p ks[i] M (l _ g) (p _ g);simp only[d]at f;rw[<-hX]at f;simp -dsimp -implicitDefEqProofs[t1,t3,c];refine A1i hB (A0G gl) (λ_=>0) (λ_=>0) (by rfl) (by kernel_rfl) ?_;simp -dsimp -implicitDefEqProofs[t1,t3,hi,c,d];refine A1M func106 (λM=>(D5R gl M kind X.kind)) ?_;cases hn:A1o kind X.kind;(case false=>rw[hn]at ho;simp only[Z0q]at ho;rw[ho]at b;simp -dsimp -implicitDefEqProofs[b]);rw[hn,Z0r]at ho;simp -dsimp -implicitDefEqProofs[t1,t3,hi,c,d];have:=A0a.kid_lt (u:=.mk id kind lab hd ws ks) g;refine A1M func142 f ?_;cases hrt:A2l X;(case false=>rw[hrt]at ho;simp only[Z0q]at ho;rw[ho]at b;simp -dsimp -implicitDefEqProofs[b]);rw[hrt,Z0r]at ho;simp -dsimp -implicitDefEqProofs[];refine A3e hB (λT2 M2=>∃j:Nat,j<=i/\T2 1=.cptr [I id.act,I id.item,I id.n,I kind,S lab,.list 4 (A0g hd) .no,.list 4 (A0g ws) .no,.list 8 (A0r ks) .no]/\T2 3=I i/\T2 4=I j/\M2=M1/\((ks.take i).any λa=>A2k a X)=(((ks.take i).drop j).any λa=>A2k a X)) (λT M1=>match T 4 with|.val (.int _ j)=>i-j.toNat|_=>0) (by kernel_rfl) ?_ ?_
   .exact⟨0,by omega,by simp[t1],by simp[t3],by simp,rfl,by simp⟩
   .rintro T2 M2 ⟨j,j1,u1,u3,u4,rfl,hb⟩;by_cases hj:j<i;case neg=>
     (have m:¬(j:Int)<i:=by omega);rw[show(ks.take i).drop j=[]from Z0n (by simp;omega),Z3H]at hb
     rw[hb,Z1C,Z0r]at ho;simp -dsimp -implicitDefEqProofs[u1,u3,u4,m,w1,t3];exact⟨⟨i+1,by clear w1;omega,rfl,ho⟩,by clear w1;omega⟩
    (have m:(j:Int)<i:=by omega);have q:j<ks.length:=by omega
    (have e:(j:Int)<ks.length:=by omega);have w2:=A1y (i:=j) (by omega)
    (have w:(ks.take i).drop j=ks[j]::(ks.take i).drop (j+1):=by rw[Z0j (by simp;omega)];simp);rw[w,Z2s]at hb
    obtain⟨Y,hY⟩:∃Y,Y=ks[j]:=⟨_,rfl⟩;(have o:ks[j].row=[I Y.id.act,I Y.id.item,I Y.id.n,I Y.kind,S Y.label,.list 4 (A0g Y.head) .no,.list 4 (A0g Y.words) .no,.list 8 (A0r Y.kids) .no]:=by rw[<-hY];exact Y.row_eq);rw[<-hY]at hb;simp -dsimp -implicitDefEqProofs[u3,u4,m];refine A1i hB (A0G gl) (λ_=>0) (λ_=>0) (by rfl) (by kernel_rfl) ?_;by_cases c1:Y.kind=X.kind
    .by_cases c2:Y.label=X.label
     ·(have hs:A2k Y X=true:=by simp[A2k,c1,c2]);rw[hs,Z1X]at hb
      rw[hb,Z1M,Z0q]at ho;rw[ho]at b;simp -dsimp -implicitDefEqProofs[u1,u3,u4,hi,c,q,e,d,o,Z0P c1,Z0P c2,b]
     ·(have hs:A2k Y X=false:=by simp[A2k,c2]);rw[hs,Z1h]at hb
      simp -dsimp -implicitDefEqProofs[u1,u3,u4,hi,c,q,e,d,o,Z0P c1,c2,w2];exact⟨⟨j+1,by clear w2;omega,rfl,hb⟩,by clear w2;omega⟩
    ·(have hs:A2k Y X=false:=by simp[A2k,c1]);rw[hs,Z1h]at hb
     simp -dsimp -implicitDefEqProofs[u1,u3,u4,hi,c,q,e,d,o,c1,w2];exact⟨⟨j+1,by clear w2;omega,rfl,hb⟩,by clear w2;omega⟩
termination_by u=>SizeOf.sizeOf u
end
mutual
def A0o:A0a->Nat
 |.mk _ _ _ _ _ ks=>1+A0u ks
def A0u:List A0a->Nat
 |[]=>0
 |k::ks=>A0o k+A0u ks
end
mutual
def A1w:A0a->Nat
 |.mk _ _ _ _ _ ks=>A2v ks
def A2v:List A0a->Nat
 |[]=>0
 |k::ks=>max (1+A1w k) (A2v ks)
end
mutual
def A0V:A0a->List IdD
 |.mk id _ _ _ _ ks=>id::A3v ks
def A3v:List A0a->List IdD
 |[]=>[]
 |k::ks=>A0V k++A3v ks
end
mutual
def B4I:∀u:A0a,A1w u<A0o u
 |.mk _ _ _ _ _ ks=>by rw[A1w,A0o];have:=C1Y ks;omega
def C1Y:∀ks:List A0a,A2v ks<=A0u ks
 |[]=>by rw[A2v,A0u];exact Z0o _
 |k::ks=>by rw[A2v,A0u];have:=B4I k;have:=C1Y ks;omega
end
mutual
def A5o:∀u:A0a,(A0V u).length=A0o u
 |.mk _ _ _ _ _ ks=>by rw[A0V,A0o,Z0C,B8Z ks];omega
def B8Z:∀ks:List A0a,(A3v ks).length=A0u ks
 |[]=>by rw[A3v,A0u];rfl
 |k::ks=>by rw[A3v,A0u,Z0v,A5o k,B8Z ks]
end
def A4P(u:A0a):0<A0o u:=by obtain⟨a,b,c,d,e,f⟩:=u;rw[A0o];omega
def A2G:∀{ks:List A0a} {k:A0a},k∈ks->A0o k<=A0u ks
 |[],_,h=>by simp at h
 |x::ks,k,h=>by
  rw[A0u];rcases Z0A.1 h with rfl|h
  .omega
  .have:=A2G h;omega
def A1O:∀ks:List A0a,ks.length<=A0u ks
 |[]=>by simp[A0u]
 |k::ks=>by rw[A0u,Z0C];have:=A4P k;have:=A1O ks;omega
def B6O{ks:List A0a}{i:Nat}(h:i<ks.length):A0u (ks.drop i)=A0o ks[i]+A0u (ks.drop (i+1)):=by rw[Z0j h,A0u]
def B6n{ks:List A0a}{i:Nat}(h:i<ks.length):A2v (ks.drop i)=max (1+A1w ks[i]) (A2v (ks.drop (i+1))):=by rw[Z0j h,A2v]
section
variable (gl:Nat->AV)
def B8P:∀(u:A0a) (M:Mem),u.good->A0o u<=1000->A0d (WC gl) 157 [.agg u.row] M (λv M'=>(∃x,v=.val x/\x=.int .i64 (A1w u))/\M'=M)
 |.mk id kind lab hd ws ks,M,hg,hc=>by
  refine A7B ?_;obtain⟨_,_,s,_,q,_,t,_,c⟩:=(A0a.good_iff _).1 hg;have c:∀k∈ks,k.good:=c;have r:1+A0u ks<=1000:=by rwa[A0o]at hc
  have p:=A1O ks;have l:(A0a.mk id kind lab hd ws ks).row=[I id.act,I id.item,I id.n,I kind,S lab,.list 4 (A0g hd) .no,.list 4 (A0g ws) .no,.list 8 (A0r ks) .no]:=by rw[A0a.row]
  have m:A1w (.mk id kind lab hd ws ks)=A2v ks:=by rw[A1w]
  rw[l,m];refine A0j hW func157 ?_;simp -dsimp -implicitDefEqProofs;refine A0v hW ks.length 9 (λT M1=>∃i:Nat,i<=ks.length/\T 7=.list 8 (A0r ks) .no/\T 8=I ks.length/\T 9=I i/\Grow M M1/\∃d:Nat,T 3=I d/\d<=1000/\A2v ks=max d (A2v (ks.drop i))) ?_ ?_
  .exact⟨0,by omega,by simp,by simp,by simp,A0c.refl _ _,0,by simp,by omega,by simp⟩
  .rintro T M1 ⟨i,i1,t7,t8,t9,j,d,t3,d1,ho⟩;by_cases hi:i<ks.length
   ·(have f:(i:Int)<ks.length:=by omega);have w1:=A1y (i:=i) (by omega)
    have b:ks[i]∈ks:=Z0u hi;rw[B6n hi]at ho;have y:=A2G b;have w:=B4I ks[i];(have o:(M1++[A0l.cells 27 ks[i].row])[M1.length]?=some (A0l.cells 27 ks[i].row):=by simp);have h:Grow M (M1++[A0l.cells 27 ks[i].row]):=j.trans (A0c.app none _ _);simp -dsimp -implicitDefEqProofs[t3,t7,t8,t9,hi,f,A0m,A0n,A0e,AV.storable,AV.cells,A0b o];have:=A0a.kid_lt (u:=.mk id kind lab hd ws ks) b;refine A0s func157 (B8P ks[i] _ (c _ b) (by omega)) ?_;rintro _ _ ⟨⟨_,rfl,rfl⟩,rfl⟩;generalize A1w ks[i]=dk at*;(have w2:IntKind.i64.wrap (1+(dk:Int))=((1+dk:Nat):Int):=by rw[A0T (by omega) (by omega)];omega);obtain⟨e,he⟩:∃e,e=1+dk:=⟨_,rfl⟩;rw[<-he]at w2 ho;by_cases hm:d<e
    ·(have a:(d:Int)<e:=by omega);have g:(e:Int)>d:=a
     simp -dsimp -implicitDefEqProofs[t7,t8,t9,w1,w2,A7L,a];exact⟨⟨i+1,by clear w1;omega,rfl,h,e,rfl,by omega,by omega⟩,by clear w1;omega⟩
    ·(have a:¬(d:Int)<e:=by omega);have g:¬(e:Int)>d:=a
     simp -dsimp -implicitDefEqProofs[t7,t8,t9,w1,w2,A7L,a];exact⟨⟨i+1,by clear w1;omega,rfl,h,d,rfl,by omega,by omega⟩,by clear w1;omega⟩
   ·(have f:¬(i:Int)<ks.length:=by omega);rw[show ks.drop i=[]from Z0n (by omega),A2v,Nat.max_zero]at ho
    simp -dsimp -implicitDefEqProofs[t3,t8,t9,f,ho,j]
termination_by u=>SizeOf.sizeOf u
def C2q:∀(u:A0a) (M:Mem),u.good->A0o u<=1000->A0d (WC gl) 143 [.agg u.row] M (λv M'=>v=I (A1w u)/\M'=M)
 |.mk id kind lab hd ws ks,M,hg,hc=>by
  obtain⟨_,_,s,_,o,_,m,_,f⟩:=(A0a.good_iff _).1 hg;have f:∀k∈ks,k.good:=f;have q:1+A0u ks<=1000:=by rwa[A0o]at hc
  have l:=A1O ks;have h:(A0a.mk id kind lab hd ws ks).row=[I id.act,I id.item,I id.n,I kind,S lab,.list 4 (A0g hd) .no,.list 4 (A0g ws) .no,.list 8 (A0r ks) .no]:=by rw[A0a.row]
  have j:A1w (.mk id kind lab hd ws ks)=A2v ks:=by rw[A1w]
  rw[h,j];refine A0j hB func143 ?_;simp -dsimp -implicitDefEqProofs;refine A0v hB ks.length 4 (λT M1=>∃i:Nat,i<=ks.length/\T 1=.cptr [I id.act,I id.item,I id.n,I kind,S lab,.list 4 (A0g hd) .no,.list 4 (A0g ws) .no,.list 8 (A0r ks) .no]/\T 4=I i/\M1=M/\∃d:Nat,T 3=I d/\d<=1000/\A2v ks=max d (A2v (ks.drop i))) ?_ ?_
  .exact⟨0,by omega,by simp,by simp,rfl,0,by simp,by omega,by simp⟩
  .rintro T M1 ⟨i,i1,t1,t4,rfl,d,t3,d1,ho⟩;by_cases hi:i<ks.length
   ·(have g:(i:Int)<ks.length:=by omega);have w1:=A1y (i:=i) (by omega)
    have b:ks[i]∈ks:=Z0u hi;rw[B6n hi]at ho;have r:=A2G b;have p:=B4I ks[i];simp -dsimp -implicitDefEqProofs[t1,t3,t4,hi,g];have:=A0a.kid_lt (u:=.mk id kind lab hd ws ks) b;refine A0f func143 (C2q ks[i] M1 (f _ b) (by omega)) ?_;generalize A1w ks[i]=dk at*;(have w2:IntKind.i64.wrap (1+(dk:Int))=((1+dk:Nat):Int):=by rw[A0T (by omega) (by omega)];omega);obtain⟨e,he⟩:∃e,e=1+dk:=⟨_,rfl⟩;rw[<-he]at w2 ho;by_cases hm:d<e
    ·(have a:(d:Int)<e:=by omega);have c:(e:Int)>d:=a
     simp -dsimp -implicitDefEqProofs[t1,t4,w1,w2,A7L,a];exact⟨⟨i+1,by clear w1;omega,rfl,e,rfl,by omega,by omega⟩,by clear w1;omega⟩
    ·(have a:¬(d:Int)<e:=by omega);have c:¬(e:Int)>d:=a
     simp -dsimp -implicitDefEqProofs[t1,t4,w1,w2,A7L,a];exact⟨⟨i+1,by clear w1;omega,rfl,d,rfl,by omega,by omega⟩,by clear w1;omega⟩
   ·(have g:¬(i:Int)<ks.length:=by omega);rw[show ks.drop i=[]from Z0n (by omega),A2v,Nat.max_zero]at ho
    simp -dsimp -implicitDefEqProofs[t1,t3,t4,g,ho]
termination_by u=>SizeOf.sizeOf u
def C2F:∀(u:A0a) (M:Mem),u.good->A0o u<=1000->A0d (WC gl) 49 [.agg u.row] M (λv M'=>v=I (A0o u)/\M'=M)
 |.mk id kind lab hd ws ks,M,hg,hc=>by
  obtain⟨_,_,q,_,m,_,l,_,b⟩:=(A0a.good_iff _).1 hg;have b:∀k∈ks,k.good:=b;have o:1+A0u ks<=1000:=by rwa[A0o]at hc
  have h:=A1O ks;have f:(A0a.mk id kind lab hd ws ks).row=[I id.act,I id.item,I id.n,I kind,S lab,.list 4 (A0g hd) .no,.list 4 (A0g ws) .no,.list 8 (A0r ks) .no]:=by rw[A0a.row]
  have g:A0o (.mk id kind lab hd ws ks)=1+A0u ks:=by rw[A0o]
  rw[f,g];refine A0j hB func49 ?_;simp -dsimp -implicitDefEqProofs;refine A0v hB ks.length 4 (λT M1=>∃i:Nat,i<=ks.length/\T 1=.cptr [I id.act,I id.item,I id.n,I kind,S lab,.list 4 (A0g hd) .no,.list 4 (A0g ws) .no,.list 8 (A0r ks) .no]/\T 4=I i/\M1=M/\∃d:Nat,T 3=I d/\1+A0u ks=d+A0u (ks.drop i)) ?_ ?_
  .exact⟨0,by omega,by simp,by simp,rfl,1,by simp,by simp⟩
  .rintro T M1 ⟨i,i1,t1,t4,rfl,d,t3,ho⟩;by_cases hi:i<ks.length
   ·(have c:(i:Int)<ks.length:=by omega);have w1:=A1y (i:=i) (by omega)
    have a:ks[i]∈ks:=Z0u hi;rw[B6O hi]at ho;have p:=A2G a;simp -dsimp -implicitDefEqProofs[t1,t3,t4,hi,c];have:=A0a.kid_lt (u:=.mk id kind lab hd ws ks) a;refine A0f func49 (C2F ks[i] M1 (b _ a) (by omega)) ?_;generalize A0o ks[i]=dk at*;have w2:=E3b (i:=d) (j:=dk) (by omega);obtain⟨e,he⟩:∃e,e=d+dk:=⟨_,rfl⟩;rw[<-he]at w2;simp -dsimp -implicitDefEqProofs[t1,t4,w1,w2];exact⟨⟨i+1,by clear w1;omega,rfl,e,rfl,by omega⟩,by clear w1;omega⟩
   ·(have c:¬(i:Int)<ks.length:=by omega);rw[show ks.drop i=[]from Z0n (by omega),A0u,Z0T]at ho
    rw[ho];simp -dsimp -implicitDefEqProofs[t1,t3,t4,c]
termination_by u=>SizeOf.sizeOf u
end
section
variable (gl:Nat->AV)
def A9P{A:Type}(e:FuncId)(first cap:List AV)(p:A0a->Bool)(b:A->A0a->A)(J:Mem->A->Prop)(K:A->A0a->Prop)(KL:A->List A0a->Prop)(t:∀a u,K a u->KL (b a u) u.kids)(z:∀a k ks,KL a (k::ks)->K a k)(r:∀a k ks,KL a (k::ks)->(A4G p b k a).1=true->KL (A4G p b k a).2 ks)(hJ:∀M a X,J M a->J (M++[.cells 27 X]) a)
 (hv:∀u a M,u.good->K a u->J M a->A4d (WC gl) e (first++.agg u.row::cap) M (λv M'=>v=B (p u)/\J M' (b a u))):
 ∀(u:A0a) (a:A) (M:Mem),u.good->K a u->J M a->A0d (WC gl) 86 [.agg u.row,.func (.func e) first cap] M (λv M'=>v=B (A4G p b u a).1/\J M' (A4G p b u a).2)
 |.mk id kind lab hd ws ks,a,M,hg,hka,hj=>by
  obtain⟨_,_,_,_,_,_,_,hk,l⟩:=(A0a.good_iff _).1 hg;have l:∀k∈ks,k.good:=l;have a4:KL (b a (.mk id kind lab hd ws ks)) ks:=t _ _ hka;have a6:ks.length<=9223372036854775807:=hk;have w:(A0a.mk id kind lab hd ws ks).row=[I id.act,I id.item,I id.n,I kind,S lab,.list 4 (A0g hd) .no,.list 4 (A0g ws) .no,.list 8 (A0r ks) .no]:=by rw[A0a.row]
  have d:A4G p b (.mk id kind lab hd ws ks) a=if p (.mk id kind lab hd ws ks)then A3I p b ks (b a (.mk id kind lab hd ws ks))else(false,b a (.mk id kind lab hd ws ks)):=by rw[A4G]
  have s:=hv _ a M hg hka hj;rw[w]at s|-;refine A0j hW func86 ?_;simp -dsimp -implicitDefEqProofs;refine A4A s ?_;rintro _ M1 ⟨rfl,q⟩;cases hp:p (.mk id kind lab hd ws ks);case false=>rw[hp,Z0e (by simp)]at d;rw[d];simp -dsimp -implicitDefEqProofs[q]
  rw[hp,Z0d rfl]at d;rw[d];generalize b a (.mk id kind lab hd ws ks)=a1 at*;simp -dsimp -implicitDefEqProofs;refine A0v hW ks.length 14 (λT M1=>∃i:Nat,i<=ks.length/\T 1=.func (.func e) first cap/\T 12=.list 8 (A0r ks) .no/\T 13=I ks.length/\T 14=I i/\∃a2,J M1 a2/\KL a2 (ks.drop i)/\A3I p b ks a1=A3I p b (ks.drop i) a2) ?_ ?_
  .exact⟨0,by omega,by simp,by simp,by simp,by simp,a1,q,by simpa using a4,by simp⟩
  .rintro T M2 ⟨i,i1,t1,h,f,g,a2,a0,c,ho⟩;by_cases hi:i<ks.length
   ·(have m:(i:Int)<ks.length:=by omega);have w1:IntKind.i64.wrap ((i:Int)+1)=(i+1:Nat):=by rw[A0T (by omega) (by omega)];omega
    have j:ks[i]∈ks:=Z0u hi;have o:ks.drop i=ks[i]::ks.drop (i+1):=Z0j hi;rw[o]at c;rw[o,A3I]at ho;(have a5:(M2++[A0l.cells 27 ks[i].row])[M2.length]?=some (A0l.cells 27 ks[i].row):=by simp);simp -dsimp -implicitDefEqProofs[t1,h,f,g,hi,m,A0m,A0n,A0e,AV.storable,AV.cells,A0b a5];have:=A0a.kid_lt (u:=.mk id kind lab hd ws ks) j;refine A0s func86 (A9P e first cap p b J K KL t z r hJ hv ks[i] a2 _ (l _ j) (z _ _ _ c) (hJ _ _ _ a0)) ?_;rintro _ M3 ⟨rfl,y⟩;have a3:=r _ _ _ c;cases hp:(A4G p b ks[i] a2).1
    .rw[hp,Z0e (by simp)]at ho;rw[ho];simp -dsimp -implicitDefEqProofs[y]
    .rw[hp,Z0d rfl]at ho;simp -dsimp -implicitDefEqProofs[t1,h,f,g,w1];exact⟨⟨i+1,by clear w1;omega,rfl,_,y,a3 hp,ho⟩,by clear w1;omega⟩
   ·(have m:¬(i:Int)<ks.length:=by omega);rw[show ks.drop i=[]from Z0n (by omega),A3I]at ho
    rw[ho];simp -dsimp -implicitDefEqProofs[f,g,m,a0]
termination_by u=>SizeOf.sizeOf u
end
mutual
def B0D:∀(u:A0a) (a:Nat),A4G (λ_=>true) (λ(a:Nat) _=>a+1) u a=(true,a+A0o u)
 |.mk _ _ _ _ _ ks,a=>by rw[A4G,Z0d rfl,B2S ks,A0o];congr 1;omega
def B2S:∀(ks:List A0a) (a:Nat),A3I (λ_=>true) (λ(a:Nat) _=>a+1) ks a=(true,a+A0u ks)
 |[],a=>by rw[A3I,A0u];rfl
 |k::ks,a=>by rw[A3I,B0D k a,Z0d rfl,B2S ks,A0u];congr 1;omega
end
mutual
def B3f:∀(u:A0a) (a:List IdD),A4G (λ_=>true) (λ(a:List IdD) u=>a++[u.id]) u a=(true,a++A0V u)
 |.mk id _ _ _ _ ks,a=>by rw[A4G,Z0d rfl,B6d ks,A0V];show(true,a++[id]++A3v ks)=_;rw[Z0X];rfl
def B6d:∀(ks:List A0a) (a:List IdD),A3I (λ_=>true) (λ(a:List IdD) u=>a++[u.id]) ks a=(true,a++A3v ks)
 |[],a=>by rw[A3I,A3v,Z1F]
 |k::ks,a=>by rw[A3I,B3f k a,Z0d rfl,B6d ks,A3v,Z0X]
end
def A6q(u:A0a):A0o u=1+A0u u.kids:=by obtain⟨a,b,c,d,e,f⟩:=u;rw[A0o];rfl
section
variable (gl:Nat->AV)
def D2H(u:A0a)(o:Nat)(n:Nat)(hn:n<=1000)(M:Mem)(hM:M[o]?=some (.cells 3 [I n])):A0d (WC gl) 87 [.agg u.row,.ptr o 0] M (λv M'=>v=B true/\M'=M.set o (.cells 3 [I (n+1:Nat)])):=by refine A0j hB func87 ?_;have w1:=A1y (i:=n) (by omega);have a:o<M.length:=(Z0b.1 hM).1;obtain⟨e,he⟩:∃e,e=n+1:=⟨_,rfl⟩;rw[<-he]at w1;rw[<-he];simp -dsimp -implicitDefEqProofs[A0b hM,A0h hM,w1,A0e]
def B4K(u:A0a)(M:Mem)(hg:u.good)(hc:A0o u<=1000):A0d (WC gl) 30 [.agg u.row] M (λv M'=>v=I (A0o u)/\M'=M):=by
 have key:A0d (WC gl) 30 [.agg u.row] M (λv M'=>(∃x,v=.val x/\x=.int .i64 (A0o u))/\Grow M M'):=by
  refine A0j hB func30 ?_;have c:(M++[A0l.cells 3 [I 0]])[M.length]?=some (A0l.cells 3 [I 0]):=by simp
  simp -dsimp -implicitDefEqProofs[A0m,A0n,A0e];refine A0s func86 (A9P gl 87 [] [.ptr M.length 0] (λ_=>true) (λ(a:Nat) _=>a+1) (λM1 a=>M1[M.length]?=some (.cells 3 [I a])/\Grow M M1) (λa u=>a+A0o u<=1000) (λa ks=>a+A0u ks<=1000) ?_ ?_ ?_ ?_ ?_ u 0 _ hg (by omega) ⟨c,A0c.app none _ _⟩) ?_
  .intro a u h;have:=A6q u;omega
  .intro a k ks h;rw[A0u]at h;omega
  .intro a k ks h _;rw[A0u]at h;rw[B0D];show a+A0o k+A0u ks<=1000;omega
  .rintro M1 a X ⟨h1,h2⟩;exact⟨by rw[Z0h (Z0b.1 h1).1];exact h1,h2.trans (A0c.app none _ _)⟩
  .rintro u a M1 e hk ⟨h1,h2⟩;have d:=A4P u;refine(A1Y func87 rfl rfl (D2H gl u M.length a (by omega) M1 h1)).mono ?_;rintro _ _ ⟨rfl,rfl⟩;have b:M.length<M1.length:=(Z0b.1 h1).1;exact⟨rfl,by simp[b],⟨by simp;omega,λj hj _=>by rw[Z0f (by omega)];exact h2.2 j hj (by simp)⟩⟩
  .rintro _ M1 ⟨rfl,h1,h2⟩;rw[B0D]at h1|-;simp only[Z0I]at h1;simp -dsimp -implicitDefEqProofs[A0b h1,h2]
 exact(A7B key).mono (by rintro v M' ⟨⟨x,rfl,rfl⟩,rfl⟩;exact⟨rfl,rfl⟩)
end
@[simp] def IdD.row_len(x:IdD):x.row.length=3:=rfl
def A0K{cs}:(AV.agg cs).storable=true:=rfl
def A0J{cs}:(AV.agg cs).cells=cs:=rfl
def C4v(M:Mem)(l:List IdD)(v:AV)(M':Mem):Prop:=A1n 23 3 IdD.row M' v l/\Grow M M'/\A1r M.length v
def D3W{x:IdD}{M:Mem}:A1C prog 85 1 [(0,.agg [I x.act,I x.item,I x.n])] M=some (.vref M.length 0 3 0 1,M++[.vec 23 3 [I x.act,I x.item,I x.n] 0 [(0,1)]]):=by simp[A1C,A0Z,AV.storable,AV.cells]
section
variable (gl:Nat->AV)
def D8l(u:A0a)(o:Nat)(M:Mem)(v:AV)(l:List IdD)(hl:l.length<=1000)(hM:M[o]?=some (.cells 85 [v]))(hv:A1n 23 3 IdD.row M v l)(c:obj v≠some o):A0d (WC gl) 122 [.agg u.row,.ptr o 0] M (λr M'=>r=B true/\∃v' M1,M'=M1.set o (.cells 85 [v'])/\A1n 23 3 IdD.row M1 v' (l++[u.id])/\A0c (obj v) M M1/\(obj v'=obj v\/A1r M.length v')):=by
 refine A0j (hQ [8]) func122 ?_
 rw[u.row_eq]
 simp -dsimp -implicitDefEqProofs[A0b hM,A0p,A0Z]
 refine A3V (C:=WC gl) (enc:=IdD.row) (e:=23) (sz:=3) (news:=[u.id]) C4u D0n D1c (λ_=>rfl) hv (by simp[A0z,IdD.row]) (by simp;omega) rfl ?_
 intro v' M1 h1 h2 h3 _
 have b:=h2.get hM c
 have a:A0n (some 1) M1 (.ptr o 0) v'=some (M1.set o (.cells 85 [v'])):=by rw[A0h b,h1.cells,Z0d ⟨h1.store,by simp,rfl⟩];rfl
 simp -dsimp -implicitDefEqProofs[a]
 exact⟨v',M1,rfl,h1,h2,h3⟩
def D5i(u:A0a)(M:Mem)(hg:u.good)(hc:A0o u<=1000):A0d (WC gl) 67 [.agg u.row] M (C4v M (A0V u)):=by
 refine A0j hW func67 ?_;have d:(M++[A0l.cells 85 [.val (.slice none 0 0)]])[M.length]?=some (A0l.cells 85 [.val (.slice none 0 0)]):=by simp
 simp -dsimp -implicitDefEqProofs[A0m];refine A0s func86 (A9P gl 122 [] [.ptr M.length 0] (λ_=>true) (λ(a:List IdD) u=>a++[u.id])
  (λM1 a=>∃v,M1[M.length]?=some (.cells 85 [v])/\A1n 23 3 IdD.row M1 v a/\obj v≠some M.length/\A1r M.length v/\Grow M M1)
  (λa u=>a.length+A0o u<=1000) (λa ks=>a.length+A0u ks<=1000) ?_ ?_ ?_ ?_ ?_ u [] _ hg (by simpa using hc) ⟨_,d,.nil,by simp,by simp[A1r],A0c.app none _ _⟩) ?_
 .intro a u h;have:=A6q u;simp;omega
 .intro a k ks h;rw[A0u]at h;omega
 .intro a k ks h _;rw[A0u]at h;rw[B3f];simp only[Z0v,A5o];omega
 .rintro M1 a X ⟨v,h1,h2,h3,h4,h5⟩;exact⟨v,by rw[Z0h (Z0b.1 h1).1];exact h1,h2.keep (A0c.app none _ _) (by simp),h3,h4,h5.trans (A0c.app none _ _)⟩
 .rintro u a M1 l hk ⟨v,h1,h2,h3,h4,h5⟩;have g:=A4P u;refine(A1Y func122 rfl rfl (D8l gl u M.length M1 v a (by omega) h1 h2 h3)).mono ?_;rintro _ _ ⟨rfl,v',M2,rfl,k1,k2,k3⟩;have i:M.length<M1.length:=(Z0b.1 h1).1;have c:M.length<M2.length:=by have:=k2.1;omega
  have b:obj v'≠some M.length:=by
   rcases k3 with e|e
   .rw[e];exact h3
   .intro q;have:=e _ q;omega
  refine⟨rfl,v',by simp[c],k1.keep (A0c.set M2 M.length _) (λf hf e=>b (by rw[hf,<-e])),b,λf hf=>?_,⟨by simp;omega,λj hj _=>?_⟩⟩
  .rcases k3 with e|e
   .exact h4 f (by rw[<-e];exact hf)
   .have:=e f hf;omega
  .rw[Z0f (by omega),k2.2 j (by omega) (λe=>by have:=h4 _ e;omega)];exact h5.2 j hj (by simp)
 .rintro _ M1 ⟨rfl,v,h1,h2,h3,h4,h5⟩;rw[B3f]at h2|-;simp only[Z2d]at h2;simp -dsimp -implicitDefEqProofs[A0b h1,C4v,h2,h4,h5]
def D0k:∀(u:A0a) (M:Mem),u.good->A0o u<=1000->A0d (WC gl) 74 [.agg u.row] M (C4v M (A0V u))
 |.mk id kind lab hd ws ks,M,hg,hc=>by
  obtain⟨_,_,r,_,p,_,s,_,b⟩:=(A0a.good_iff _).1 hg;have b:∀k∈ks,k.good:=b;have q:1+A0u ks<=1000:=by rwa[A0o]at hc
  have o:=A1O ks;have f:(A0a.mk id kind lab hd ws ks).row=[I id.act,I id.item,I id.n,I kind,S lab,.list 4 (A0g hd) .no,.list 4 (A0g ws) .no,.list 8 (A0r ks) .no]:=by rw[A0a.row]
  have h:A0V (.mk id kind lab hd ws ks)=id::A3v ks:=by rw[A0V]
  rw[f,h];refine A0j (hQ [7,22]) func74 ?_;simp -dsimp -implicitDefEqProofs[D3W];refine A0v (hQ [7,22]) ks.length 4 (λT M1=>∃i:Nat,i<=ks.length/\T 1=.cptr [I id.act,I id.item,I id.n,I kind,S lab,.list 4 (A0g hd) .no,.list 4 (A0g ws) .no,.list 8 (A0r ks) .no]/\T 4=I i/\∃l,A1n 23 3 IdD.row M1 (T 3) l/\Grow M M1/\A1r M.length (T 3)/\id::A3v ks=l++A3v (ks.drop i)) ?_ ?_
  .refine⟨0,by omega,by simp,by simp,[id],.inr ⟨M.length,0,[(0,1)],by simp,by simp[IdD.row],by simp[List.lookup]⟩,A0c.app none _ _,by simp[A1r],by simp⟩
  .rintro T M1 ⟨i,i1,t1,t4,l,hv,d,hL,ho⟩;by_cases hi:i<ks.length
   ·(have c:(i:Int)<ks.length:=by omega);have w1:=A1y (i:=i) (by omega)
    have a:ks[i]∈ks:=Z0u hi;rw[Z0j hi,A3v]at ho;have t:=A2G a;generalize j:T 3=ov at*;simp -dsimp -implicitDefEqProofs[t1,t4,hi,c,j];have:=A0a.kid_lt (u:=.mk id kind lab hd ws ks) a;refine A0s func74 (D0k ks[i] M1 (b _ a) (by omega)) ?_;rintro v2 M2 ⟨k1,k2,k3⟩;(have m:l.length+(A0V ks[i]).length<=2000:=by have:=congrArg List.length ho;simp only[Z0C,Z0v,B8Z]at this;omega);have g:=hv.keep k2 (by simp);simp -dsimp -implicitDefEqProofs;refine A3V (C:=WC gl) (enc:=IdD.row) (e:=23) (sz:=3) (news:=A0V ks[i]) C4u D0n D1c (λ_=>rfl) g (k1.src (λ_=>rfl)) (by omega) rfl ?_;intro v' M3 q1 q2 q3 _;obtain⟨r1,r2⟩:=A2T (X:=[]) (d.trans k2) hL (by simpa using q2) (by simpa using q3);simp -dsimp -implicitDefEqProofs[t1,t4,w1];exact⟨⟨i+1,by clear w1;omega,rfl,_,q1,r1,r2,by rw[ho,Z0X]⟩,by clear w1;omega⟩
   ·(have c:¬(i:Int)<ks.length:=by omega);rw[show ks.drop i=[]from Z0n (by omega),A3v,Z1F]at ho
    rw[ho];simp -dsimp -implicitDefEqProofs[t1,t4,c,C4v,hv,d,hL]
termination_by u=>SizeOf.sizeOf u
end
section
variable {K:Type} [DecidableEq K]
def A6h(S:List K):List K->List K
 |[]=>S
 |x::r=>A6h (if S.any (λy=>decide (y=x))then S else S++[x]) r
def A9a:List K->List K->Bool
 |[],_=>true
 |x::r,b=>!(b.any λy=>decide (y=x))&&A9a r (b++[x])
def B4v{S:List K}{x:K}:(S.any λy=>decide (y=x))=decide (x∈S):=by rw[Z2e];simp
def A9M:∀(r S:List K) (x:K),x∈A6h S r<->x∈S\/x∈r
 |[],S,x=>by simp[A6h]
 |y::r,S,x=>by
  rw[A6h,A9M r];simp only[B4v,Z0m];by_cases h:y∈S
  .rw[Z0d h];simp only[Z0A];constructor
   .rintro(h1|h1)<;>simp[h1]
   .rintro(h1|rfl|h1)
    .exact .inl h1
    .exact .inl h
    .exact .inr h1
  .rw[Z0e h];simp only[Z0Y,Z0A,Z2j,Z3y];exact or_assoc
def C5E:∀(r S:List K),(A6h S r).length<=S.length+r.length
 |[],S=>by simp[A6h]
 |y::r,S=>by rw[A6h];have:=C5E r (if S.any (λz=>decide (z=y))then S else S++[y]);split at this<;>simp_all<;>omega
def B2u:∀(r S:List K),(A6h S r).length=S.length+r.length<->A9a r S=true
 |[],S=>by simp[A6h,A9a]
 |y::r,S=>by
  rw[A6h,A9a];cases h:S.any λz=>decide (z=y)
  .rw[Z0e (by simp)];have:=B2u r (S++[y]);rw[Z1C,Z0r,<-this];simp only[Z0v,Z0C,Z1G];omega
  .rw[Z0d rfl];have:=C5E r S;simp only[Z1M,Z0q,Z0K,iff_false,Z0C];omega
def B9F:∀(r S:List K),S.Nodup->(A6h S r).Nodup
 |[],S,h=>by simpa[A6h]using h
 |y::r,S,h=>by
  rw[A6h];refine B9F r _ ?_;rw[B4v];split
  .exact h
  .rename_i hn;(have hn:y∉S:=by simpa using hn);refine Z2a.2 ⟨h,by simp,?_⟩;intro a ha b hb e;simp only[Z0A,Z2j,Z3y]at hb;subst hb;subst e;exact hn ha
omit [DecidableEq K]in
def D1v{l:List K}{z:K}(hn:l.Nodup)(hz:∀x∈l,x=z)(hm:z∈l):l.length=1:=by
 match l,hn,hz,hm with
 |[],_,_,hm=>simp at hm
 |[x],_,_,_=>rfl
 |x::y::l,hn,hz,_=>have h1:=hz x (by simp);have h2:=hz y (by simp);subst h1;subst h2;simp at hn
omit [DecidableEq K]in
def D6S{l:List K}{z:K}(h1:l.length=1)(hm:z∈l):∀x∈l,x=z:=by
 match l,h1 with
 |[y],_=>intro x hx;simp at hx hm;rw[hx,hm]
def D5V{l:List K}{z:K}(hl:l≠[]):(z∈l/\(A6h [] l).length=1)<->∀x∈l,x=z:=by
 constructor
 .rintro⟨hm,h1⟩ x hx;exact D6S h1 ((A9M l [] z).2 (.inr hm)) x ((A9M l [] x).2 (.inr hx))
 .intro h;obtain⟨a,r,rfl⟩:=List.exists_cons_of_ne_nil hl;have hm:z∈a::r:=by rw[<-h a (by simp)];simp
  exact⟨hm,D1v (B9F _ _ .nil) (λx hx=>h x (by simpa using(A9M _ [] x).1 hx)) ((A9M _ [] z).2 (.inr hm))⟩
end
def idZ:IdD:=⟨0,0,0⟩
def C3g(u:A0a):Bool:=(decide (idZ∈A0V u)&&decide ((A6h [] (A0V u)).length=1))||(decide ((A6h [] (A0V u)).length=(A0V u).length)&&(decide (u.kind=0)==decide (u.id=idZ)))
def C4q(u:A0a):Bool:=(A0V u).all (λx=>decide (x=idZ))||((decide (u.id=idZ)==decide (u.kind=0))&&A9a (A0V u) [])
def D7t(u:A0a):A0V u≠[]:=by obtain⟨a,b,c,d,e,f⟩:=u;rw[A0V];simp
def B7x(u:A0a):C3g u=C4q u:=by have h1:=D5V (l:=A0V u) (z:=idZ) (D7t u);have h2:=B2u (A0V u) ([]:List IdD);simp only[Z1G,Z0I]at h2;rw[Z2e];simp only[C3g,C4q,Z1H,Z0g,Z0m,Z0t,Z2I];rw[h1,h2,and_comm,@eq_comm _ (decide (u.kind=0))]
def A2a.len{K V:Type}{d:K->AV}{a:V->AV}{M}{b}{l}(h:A2a d a M b l){P}{t kt et:TypeId}(ht:P.underlying t=some (.map kt et)):A3d P t M (.mapr b)=some l.length:=by obtain⟨es,c,h1,h2⟩:=h;have:=congrArg List.length h2;simp only[Z0V]at this;simp[A3d,ht,h1,this]
def A6o{P}{t:TypeId}{b}:A1Z P t (.mapr b)=none:=rfl
@[simp] def B5K:prog.eqGuardType prog.depth 23=false:=by kernel_rfl
def B5z(a b:IdD):A1s prog .eql 23 (.agg [I a.act,I a.item,I a.n]) (.agg [I b.act,I b.item,I b.n])=some (B (decide (a=b))):=by
 have h0:A2F prog .eql 23 (.agg [I a.act,I a.item,I a.n]) (.agg [I b.act,I b.item,I b.n])=none:=by simp[A2F,A3H]
 have:=(A8Z 248 4 (by kernel_rfl)).eq a b;simp only[A2M,IdD.row]at this;simp only[A1s,h0,A4t,B5K,this];rfl
def C5m(a:IdD):A1s prog .eql 23 (.agg [I a.act,I a.item,I a.n]) (.agg [I 0,I 0,I 0])=some (B (decide (a=idZ))):=B5z a idZ
def C6A{K:Type}[DecidableEq K](c:K):∀A1f:List K,(A1f.any λy=>decide (y=c))=true->A8j (A1f.map λx=>(x,true)) c true=A1f.map λx=>(x,true)
 |[],h=>by simp at h
 |x::l,h=>by
  rw[Z0B,A8j];by_cases e:c=x
  .subst e;simp
  .rw[Z0e e];rw[Z2s,Z0w (λq=>e q.symm),Z1h]at h;rw[C6A c l h]
section
variable (gl:Nat->AV)
def D9Y(u:A0a)(M:Mem)(hg:u.good)(hc:A0o u<=1000):A0d (WC gl) 158 [.agg u.row] M (λv M'=>v=B (C3g u)/\M'=M):=by
 have key:A0d (WC gl) 158 [.agg u.row] M (λv M'=>(∃x,v=.val x/\x=.bool (C3g u))/\Grow M M'):=by
  refine A0j hW func158 ?_;have o:=D5i gl u M hg hc;rw[u.row_eq]at o|-;have ae:=A5o u;simp -dsimp -implicitDefEqProofs;refine A0s func67 o ?_;rintro v M1 ⟨hv,a5,hL⟩;have c:A1Z prog 85 v=some (A0V u).length:=hv.len (e':=23) (by simp);have a7:A1n 23 3 IdD.row (M1++[.map [] 0]) v (A0V u):=hv.keep (A0c.app none M1 _) (by simp);have a8:obj v≠some M1.length:=λe=>by have:=hv.lt e;omega
  simp -dsimp -implicitDefEqProofs[c];refine A0v hW ((A0V u).length) 13 (λT M2=>∃i:Nat,i<=(A0V u).length/\T 1=.cptr [I u.id.act,I u.id.item,I u.id.n,I u.kind,S u.label,.list 4 (A0g u.head) .no,.list 4 (A0g u.words) .no,.list 8 (A0r u.kids) .no]/\T 3=v/\T 4=.mapr M1.length/\T 11=v/\T 12=I (A0V u).length/\T 13=I i/\Grow M M2/\A1n 23 3 IdD.row M2 v (A0V u)/\∃s,A2a A2M B M2 M1.length (s.map λx=>(x,true))/\A6h [] (A0V u)=A6h s ((A0V u).drop i)) ?_ ?_
  .exact⟨0,by omega,by simp,by simp,by simp,by simp,by simp,by simp,a5.trans (A0c.app none _ _),a7,[],A2a.new M1,by simp⟩
  .rintro T M2 ⟨i,i1,t1,t3,t4,a1,a0,w,d,a3,s,h,ho⟩;by_cases hi:i<(A0V u).length
   ·(have l:(i:Int)<(A0V u).length:=by omega);have w1:=A1y (i:=i) (by omega)
    obtain⟨p,p1,_,p2,_⟩:=a3.at_ (P:=prog) (t:=23) (λ_=>rfl) (by simp) (by simp) hi;have hd:=Z0j hi;rw[hd,A6h]at ho;obtain⟨x,hx⟩:∃x,x=(A0V u)[i]:=⟨_,rfl⟩;rw[<-hx]at ho p2;have aa:x.row=[I x.act,I x.item,I x.n]:=rfl;rw[aa]at p2;(have ad:(M2++[A0l.cells 23 [I x.act,I x.item,I x.n]])[M2.length]?=some (A0l.cells 23 [I x.act,I x.item,I x.n]):=by simp);have a2:=h.keep (A0c.app none M2 [A0l.cells 23 [I x.act,I x.item,I x.n]]) (by simp);have r:Grow M (M2++[A0l.cells 23 [I x.act,I x.item,I x.n]]):=d.trans (A0c.app none _ _);have ac:=a3.keep (A0c.app none M2 [A0l.cells 23 [I x.act,I x.item,I x.n]]) (by simp);obtain⟨M4,q1,q2,q3⟩:=a2.put (A8Z 248 4 (by kernel_rfl)) x true;have a6:A1u prog 248 (M2++[A0l.cells 23 [I x.act,I x.item,I x.n]]) (.mapr M1.length) (.agg [I x.act,I x.item,I x.n]) (B true)=some M4:=q1;(have ab:Grow M M4:=by refine⟨Z0S r.1 q3.1,λj hj _=>?_⟩;rw[q3.2 j (by have:=r.1;omega) (by have:=a5.1;simp;omega)];exact r.2 j hj (by simp));have a9:=ac.keep q3 (λf hf e=>a8 (by rw[hf,<-e]));simp -dsimp -implicitDefEqProofs[t1,t3,t4,a1,a0,w,l,p1,p2,A0m,A0n,A0e,A0b ad,a6,w1];refine⟨⟨i+1,by clear w1;omega,rfl,ab,a9,if s.any (λy=>decide (y=x))then s else s++[x],?_,ho⟩,by clear w1;omega⟩;cases hs:s.any λy=>decide (y=x)
    .rw[B5n x s hs]at q2;rw[Z0e (by simp)];exact q2
    .rw[Z0d rfl];have:A8j (s.map λx=>(x,true)) x true=s.map λx=>(x,true):=C6A x s hs;rw[this]at q2;exact q2
   ·(have l:¬(i:Int)<(A0V u).length:=by omega);rw[show(A0V u).drop i=[]from Z0n (by omega),A6h]at ho
    have hz:(s.any λy=>decide (y=idZ))=decide (idZ∈A0V u):=by rw[B4v,<-ho,Z2e];simp only[Z0m,A9M,Z2j,false_or]
    (have hR:C3g u=((decide (idZ∈A0V u)&&decide (s.length=1))||(decide (s.length=(A0V u).length)&&(decide (u.kind=0)==decide (u.id=idZ)))):=by rw[<-ho];rfl);obtain⟨R,a4⟩:∃R,R=C3g u:=⟨_,rfl⟩
    rw[<-a4]at hR|-;clear a4;have q:=h.get (A8Z 248 4 (by kernel_rfl)) idZ (z:=B false) (by kernel_rfl) false;rw[B5A,hz]at q;have a:A1J prog 248 M2 (.mapr M1.length) (.agg [I 0,I 0,I 0]) false=some (B (decide (idZ∈A0V u))):=by refine q.trans ?_;cases decide (idZ∈A0V u)<;>rfl
    (have g:A3d prog 248 M2 (.mapr M1.length)=some s.length:=by rw[h.len (kt:=23) (et:=4) (by simp)];simp);cases hzz:decide (idZ∈A0V u)
    .rw[hzz]at a hR;rw[Z0q,Z1h]at hR;simp -dsimp -implicitDefEqProofs[t4,a0,w,l,a];refine A1i hW (A0G gl) (λk=>if k=3\/k=8 then 2 else 0) (λ_=>0) (by rfl) (by kernel_rfl) ?_;by_cases h2:s.length=(A0V u).length
     ·(have b:(s.length:Int)=((A0V u).length:Int):=by omega);rw[Z0s h2,Z0r]at hR
      simp -dsimp -implicitDefEqProofs[t1,t3,t4,g,A6o,c,Z0P b,C5m];exact⟨by rw[hR];rfl,d⟩
     ·(have b:¬(s.length:Int)=((A0V u).length:Int):=by omega);rw[Z0w h2,Z0q]at hR
      simp -dsimp -implicitDefEqProofs[t3,t4,g,A6o,c,b,hR,d]
    .rw[hzz]at a hR;rw[Z0r]at hR;simp -dsimp -implicitDefEqProofs[t4,a0,w,l,a];refine A1i hW (A0G gl) (λk=>if k=3\/k=8 then 2 else 0) (λ_=>0) (by rfl) (by kernel_rfl) ?_;by_cases h1:s.length=1
     ·(have m:(s.length:Int)=1:=by omega);rw[Z0s h1,Z1X]at hR
      simp -dsimp -implicitDefEqProofs[t4,g,A6o,Z0P m,hR,d]
     (have m:¬(s.length:Int)=1:=by omega);rw[Z0w h1,Z1h]at hR
     by_cases h2:s.length=(A0V u).length
     ·(have b:(s.length:Int)=((A0V u).length:Int):=by omega);rw[Z0s h2,Z0r]at hR
      simp -dsimp -implicitDefEqProofs[t1,t3,t4,g,A6o,c,m,Z0P b,C5m];exact⟨by rw[hR];rfl,d⟩
     ·(have b:¬(s.length:Int)=((A0V u).length:Int):=by omega);rw[Z0w h2,Z0q]at hR
      simp -dsimp -implicitDefEqProofs[t3,t4,g,A6o,c,m,b,hR,d]
 exact(A7B key).mono (by rintro v M' ⟨⟨x,rfl,rfl⟩,rfl⟩;exact⟨rfl,rfl⟩)
end
mutual
def A5G:A0a->List A0a
 |.mk id k l h w ks=>.mk id k l h w ks::A6B ks
def A6B:List A0a->List A0a
 |[]=>[]
 |k::ks=>A5G k++A6B ks
end
mutual
def A7u:∀u:A0a,(A5G u).map A0a.id=A0V u
 |.mk id _ _ _ _ ks=>by rw[A5G,A0V,Z0B,B8V ks];rfl
def B8V:∀ks:List A0a,(A6B ks).map A0a.id=A3v ks
 |[]=>by rw[A6B,A3v];rfl
 |k::ks=>by rw[A6B,A3v,Z0Q,A7u k,B8V ks]
end
abbrev B4D(u:A0a):AV:=.agg u.row
def A6C(L:List (IdD×A0a)):List A0a->List (IdD×A0a)
 |[]=>L
 |u::us=>A6C (A8j L u.id u) us
def C9Y(L:List (IdD×A0a)):∀us vs,A6C L (us++vs)=A6C (A6C L us) vs:=by
 intro us;induction us generalizing L with
 |nil=>intro vs;rfl
 |cons u us ih=>intro vs;exact ih _ vs
def B1p:∀(us:List A0a) (L:List (IdD×A0a)),(A6C L us).map (·.1)=A6h (L.map (·.1)) (us.map A0a.id)
 |[],L=>rfl
 |u::us,L=>by
  rw[A6C,B1p us,D2a,Z0B,A6h,B4v];by_cases h:u.id∈L.map (·.1)
  .rw[Z0d h,Z0d (by simpa using h)]
  .rw[Z0e h,Z0e (by simpa using h)]
mutual
noncomputable def A5W:A0a->Nat->Mem->Mem
 |.mk id k l h w ks,b,M=>A4i ks b ((A1u prog 92 M (.mapr b) (A2M id) (B4D (.mk id k l h w ks))).getD M)
noncomputable def A4i:List A0a->Nat->Mem->Mem
 |[],_,M=>M
 |k::ks,b,M=>A4i ks b (A5W k b (M++[.cells 27 k.row]))
end
mutual
def A7R:∀(u:A0a) (L:List (IdD×A0a)) (b:Nat) (M:Mem),A2a A2M B4D M b L->A2a A2M B4D (A5W u b M) b (A6C L (A5G u))/\A0c (some b) M (A5W u b M)
 |.mk id k l h w ks,L,b,M,hm=>by
  obtain⟨M1,p1,p2,p3⟩:=hm.put (A8Z 92 27 (by kernel_rfl)) id (.mk id k l h w ks);have hc:A5W (.mk id k l h w ks) b M=A4i ks b M1:=by rw[A5W,p1];rfl
  obtain⟨q1,q2⟩:=B2B ks _ b M1 p2;rw[hc,A5G];exact⟨q1,p3.trans q2⟩
def B2B:∀(ks:List A0a) (L:List (IdD×A0a)) (b:Nat) (M:Mem),A2a A2M B4D M b L->A2a A2M B4D (A4i ks b M) b (A6C L (A6B ks))/\A0c (some b) M (A4i ks b M)
 |[],L,b,M,hm=>by rw[A4i,A6B];exact⟨hm,A0c.refl _ _⟩
 |k::ks,L,b,M,hm=>by obtain⟨q1,q2⟩:=A7R k L b (M++[.cells 27 k.row]) (hm.keep (A0c.app none M _) (by simp));obtain⟨r1,r2⟩:=B2B ks _ b _ q1;rw[A4i,A6B,C9Y];exact⟨r1,((A0c.of_none (A0c.app none _ _)).trans q2).trans r2⟩
end
section
variable (gl:Nat->AV)
def B3h:∀(u:A0a) (L:List (IdD×A0a)) (b:Nat) (M:Mem),u.good->A2a A2M B4D M b L->A0d (WC gl) 102 [.agg u.row,.mapr b] M (λv M'=>v=.mapr b/\M'=A5W u b M)
 |.mk id kind lab hd ws ks,L,b,M,hg,hmap=>by
  obtain⟨_,_,t,_,s,_,w,l,d⟩:=(A0a.good_iff _).1 hg;have d:∀k∈ks,k.good:=d;have r:ks.length<=9223372036854775807:=l;have c:(A0a.mk id kind lab hd ws ks).row=[I id.act,I id.item,I id.n,I kind,S lab,.list 4 (A0g hd) .no,.list 4 (A0g ws) .no,.list 8 (A0r ks) .no]:=by rw[A0a.row]
  obtain⟨M1,p1,p2,p3⟩:=hmap.put (A8Z 92 27 (by kernel_rfl)) id (.mk id kind lab hd ws ks);have q:A1u prog 92 M (.mapr b) (.agg [I id.act,I id.item,I id.n]) (.agg [I id.act,I id.item,I id.n,I kind,S lab,.list 4 (A0g hd) .no,.list 4 (A0g ws) .no,.list 8 (A0r ks) .no])=some M1:=by rw[<-c];exact p1
  have m:A5W (.mk id kind lab hd ws ks) b M=A4i ks b M1:=by rw[A5W,p1];rfl
  rw[c,m];generalize A8j L id (.mk id kind lab hd ws ks)=L1 at*;refine A0j hW func102 ?_;simp -dsimp -implicitDefEqProofs[q];refine A0v hW ks.length 14 (λT M2=>∃i:Nat,i<=ks.length/\T 1=.mapr b/\T 12=.list 8 (A0r ks) .no/\T 13=I ks.length/\T 14=I i/\A4i ks b M1=A4i (ks.drop i) b M2/\∃L2,A2a A2M B4D M2 b L2) ?_ ?_
  .exact⟨0,by omega,by simp,by simp,by simp,by simp,by simp,L1,p2⟩
  .rintro T M2 ⟨i,i1,t1,h,f,g,ho,L2,o⟩;by_cases hi:i<ks.length
   ·(have e:(i:Int)<ks.length:=by omega);have w1:IntKind.i64.wrap ((i:Int)+1)=(i+1:Nat):=by rw[A0T (by omega) (by omega)];omega
    have a:ks[i]∈ks:=Z0u hi;rw[Z0j hi,A4i]at ho;(have p:(M2++[A0l.cells 27 ks[i].row])[M2.length]?=some (A0l.cells 27 ks[i].row):=by simp);have j:=o.keep (A0c.app none M2 [A0l.cells 27 ks[i].row]) (by simp);simp -dsimp -implicitDefEqProofs[t1,h,f,g,hi,e,A0m,A0n,A0e,A0b p];have:=A0a.kid_lt (u:=.mk id kind lab hd ws ks) a;refine A0s func102 (B3h ks[i] L2 b _ (d _ a) j) ?_;rintro _ _ ⟨rfl,rfl⟩;simp -dsimp -implicitDefEqProofs[t1,h,f,g,w1];exact⟨⟨i+1,by clear w1;omega,rfl,ho,_,(A7R ks[i] L2 b _ j).1⟩,by clear w1;omega⟩
   ·(have e:¬(i:Int)<ks.length:=by omega);rw[show ks.drop i=[]from Z0n (by omega),A4i]at ho
    rw[ho];simp -dsimp -implicitDefEqProofs[t1,f,g,e]
termination_by u=>SizeOf.sizeOf u
def D7F(u:A0a)(M:Mem)(hg:u.good)(hc:A0o u<=1000):A0d (WC gl) 144 [.agg u.row] M (λv M'=>v=B (C4q u)/\M'=M):=by
 have key:A0d (WC gl) 144 [.agg u.row] M (λv M'=>(∃x,v=.val x/\x=.bool (C4q u))/\Grow M M'):=by
  refine A0j hB func144 ?_;have z:=D0k gl u M hg hc;have ab:=A5o u;have h0:(A0V u)[0]?=some u.id:=by obtain⟨a,b,c,d,e,f⟩:=u;rw[A0V];rfl
  rw[u.row_eq]at z|-;obtain⟨R,hR⟩:∃R,R=C4q u:=⟨_,rfl⟩;have o:R=((A0V u).all (λx=>decide (x=idZ))||((decide (u.id=idZ)==decide (u.kind=0))&&A9a (A0V u) [])):=hR;rw[<-hR];clear hR;simp -dsimp -implicitDefEqProofs;refine A0s func74 z ?_;rintro v M1 ⟨hv,w,hL⟩;generalize A0V u=l at*;have r:A1Z prog 85 v=some l.length:=hv.len (e':=23) (by simp);simp -dsimp -implicitDefEqProofs;refine A0v hB l.length 5 (λT M2=>∃i:Nat,i<=l.length/\T 1=.cptr [I u.id.act,I u.id.item,I u.id.n,I u.kind,S u.label,.list 4 (A0g u.head) .no,.list 4 (A0g u.words) .no,.list 8 (A0r u.kids) .no]/\T 3=v/\T 5=I i/\M2=M1/\∃n,T 4=B n/\l.all (λx=>decide (x=idZ))=(n&&(l.drop i).all (λx=>decide (x=idZ)))) ?_ ?_
  .exact⟨0,by omega,by simp,by simp,by simp,rfl,true,by simp,by simp⟩
  .rintro T M2 ⟨i,i1,t1,t3,t5,rfl,n,t4,ho⟩;by_cases hi:i<l.length;case pos=>
    (have h:(i:Int)<l.length:=by omega);have w1:=A1y (i:=i) (by omega)
    obtain⟨p,p1,_,p2,po⟩:=hv.at_ (P:=prog) (t:=23) (λ_=>rfl) (by simp) (by simp) hi;rw[Z0j hi,Z1t]at ho;have m:A1D prog 23 M2 p=some (.agg [I l[i].act,I l[i].item,I l[i].n]):=p2;cases n
    .simp -dsimp -implicitDefEqProofs[t1,t3,t4,t5,r,h,w1];exact⟨⟨i+1,by clear w1;omega,rfl,by simpa using ho⟩,by clear w1;omega⟩
    .simp -dsimp -implicitDefEqProofs[t1,t3,t4,t5,r,h,p1,m,C5m,w1];exact⟨⟨i+1,by clear w1;omega,rfl,by rw[ho,Z0r]⟩,by clear w1;omega⟩
   case neg=>
   (have h:¬(i:Int)<l.length:=by omega);rw[show l.drop i=[]from Z0n (by omega),Z3I,Z2R]at ho
   rw[ho]at o;cases n;(case true=>rw[Z1X]at o;simp -dsimp -implicitDefEqProofs[t3,t4,t5,r,h,o,w]);rw[Z1h]at o;(have s:0<l.length:=by have:=A4P u;omega);(have a8:(0:Int)<l.length:=by omega);obtain⟨p,p1,_,p2,po⟩:=hv.at_ (P:=prog) (t:=23) (λ_=>rfl) (by simp) (by simp) s;(have a5:l[0]=u.id:=by rw[Z0l s]at h0;exact Z1V h0);rw[a5]at p2;have m:A1D prog 23 M2 p=some (.agg [I u.id.act,I u.id.item,I u.id.n]):=p2;obtain⟨f,hf⟩:∃f,obj v=some f:=by
    rcases hv with⟨rfl,rfl⟩|⟨f',g,aa,rfl,_,_⟩
    .simp at s
    .exact⟨f',rfl⟩
   rw[hf]at po;have a1:A6s (some (some 3)) v (I 0)=some p:=p1;simp -dsimp -implicitDefEqProofs[t3,t4,t5,r,h];refine A1i hB (A0G gl) (λk=>if k=2 then 1 else 0) (λ_=>f) (by rfl) (by kernel_rfl) ?_;have a0:(u.kind==0)=decide (u.kind=0):=rfl;by_cases c:decide (u.id=idZ)=(u.kind==0);case neg=>have c':(decide (u.id=idZ)==decide (u.kind=0))=false:=Z1b.2 (by rw[<-a0];exact c);rw[c',Z0q]at o;simp -dsimp -implicitDefEqProofs[t1,t3,a1,m,po,C5m,c,o,w]
   (have c':(decide (u.id=idZ)==decide (u.kind=0))=true:=by rw[Z2I,<-a0];exact c);rw[c',Z0r]at o
   have a3:=Z0P c;simp -dsimp -implicitDefEqProofs[t1,t3,a1,m,po,C5m,a3];clear c c' a3 a0;refine A0v hB l.length 6 (λT M1=>∃i:Nat,i<=l.length/\T 3=v/\T 6=I i/\M1=M2/\R=A9a (l.drop i) (l.take i)) ?_ ?_
   .exact⟨0,by omega,by simp[t3],by simp,rfl,by simpa using o⟩
   .clear t1 t3 t4 t5 p1 p2 po a1 m;rintro T M3 ⟨i,i1,t3,t6,rfl,ho⟩;by_cases hi:i<l.length;case neg=>
     (have h:¬(i:Int)<l.length:=by omega);rw[show l.drop i=[]from Z0n (by omega),A9a]at ho
     simp -dsimp -implicitDefEqProofs[t3,t6,r,h,ho,w]
    (have h:(i:Int)<l.length:=by omega);have w1:=A1y (i:=i) (by omega)
    (have a7:l.take i++[l[i]]=l.take (i+1):=by rw[Z1k,Z0l hi,Z2T]);rw[Z0j hi,A9a,a7]at ho
    obtain⟨x,hx⟩:∃x,x=l[i]:=⟨_,rfl⟩;obtain⟨p,p1,_,p2,po⟩:=hv.at_ (P:=prog) (t:=23) (λ_=>rfl) (by simp) (by simp) hi;rw[<-hx]at ho p2;have m:A1D prog 23 M3 p=some (.agg [I x.act,I x.item,I x.n]):=p2;rw[hf]at po;simp -dsimp -implicitDefEqProofs[t3,t6,r,h];refine A3e hB (λT2 M2=>∃j:Nat,j<=i/\T2 3=v/\T2 6=I i/\T2 7=I j/\M2=M3/\((l.take i).any λy=>decide (y=x))=(((l.take i).drop j).any λy=>decide (y=x))) (λT M1=>match T 7 with|.val (.int _ j)=>i-j.toNat|_=>0) (by kernel_rfl) ?_ ?_
    .exact⟨0,by omega,by simp[t3],by simp[t6],by simp,rfl,by simp⟩
    .rintro T2 M2 ⟨j,j1,u3,u6,u7,rfl,hb⟩;by_cases hj:j<i;case neg=>
      (have a2:¬(j:Int)<i:=by omega);rw[show(l.take i).drop j=[]from Z0n (by simp;omega),Z3H]at hb
      rw[hb,Z1C,Z0r]at ho;simp -dsimp -implicitDefEqProofs[u3,u6,u7,a2,w1,t6];exact⟨⟨i+1,by clear w1;omega,rfl,ho⟩,by clear w1;omega⟩
     (have a2:(j:Int)<i:=by omega);have a9:j<l.length:=by omega
     have w2:=A1y (i:=j) (by omega);(have a6:(l.take i).drop j=l[j]::(l.take i).drop (j+1):=by rw[Z0j (by simp;omega)];simp);rw[a6,Z2s]at hb;obtain⟨y,hy⟩:∃y,y=l[j]:=⟨_,rfl⟩;obtain⟨q,q1,_,q2,qo⟩:=hv.at_ (P:=prog) (t:=23) (λ_=>rfl) (by simp) (by simp) a9;rw[<-hy]at hb q2;have a4:A1D prog 23 M2 q=some (.agg [I y.act,I y.item,I y.n]):=q2;rw[hf]at qo;simp -dsimp -implicitDefEqProofs[u6,u7,a2];refine A1i hB (A0G gl) (λk=>if k=3\/k=7 then 1 else 0) (λ_=>f) (by rfl) (by kernel_rfl) ?_;by_cases c1:y=x
     .rw[Z0s c1,Z1X]at hb;rw[hb,Z1M,Z0q]at ho;subst c1;simp -dsimp -implicitDefEqProofs[u3,u6,u7,p1,m,po,q1,a4,qo,B5z,ho,w]
     .rw[Z0w c1,Z1h]at hb;simp -dsimp -implicitDefEqProofs[u3,u6,u7,p1,m,po,q1,a4,qo,B5z,c1,w2];exact⟨⟨j+1,by clear w2;omega,rfl,hb⟩,by clear w2;omega⟩
 exact(A7B key).mono (by rintro v M' ⟨⟨x,rfl,rfl⟩,rfl⟩;exact⟨rfl,rfl⟩)
end
end Go.Abs
