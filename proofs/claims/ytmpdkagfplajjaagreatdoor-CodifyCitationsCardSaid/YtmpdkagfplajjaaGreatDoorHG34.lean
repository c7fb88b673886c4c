/- The texts CaI, CaJ, CaN, CaK, CaL, CaO, CaP, CaQ, CaR, CaS, CbU, CbT, CbD. -/
import Derived.Test.YtmpdkagfplajjaaGreatDoorHG33
import Derived.Test.YtmpdkagfplajjaaGreatDoorHG21
import Derived.Test.YtmpdkagfplajjaaGreatDoorHG25
set_option linter.all false
set_option maxRecDepth 100000
namespace Go.Abs
open Go.Proofs TryTypes Tryz
def A8I(i:Nat)(l:List ByteArray)(o:Own)(r a:Nat)(en:Bool)(M:Mem)(v:AV)(M':Mem):Prop:=∃k p to vp a' en',v=.agg [I k,vp,S to,I 0,I 0]/\A1g 159 2 A0w.row M' vp p/\A1m M.length vp/\p.length<=10/\Rd M' r l o a' en'/\A1D r none M M'/\A2r i (A1i l a en)=if A2M k p to=true then some ((k,p,to),a'-a)else none
abbrev zC:A0m:=.cells 110 [I 0,A0G,S ⟨#[]⟩,I 0,I 0]
structure B1c (l:List ByteArray) (o:Own) (r:Nat) (M:Mem) (a':Nat) (en':Bool) (Mi:Mem):Prop where
 rd:Rd Mi r l o a' en'
 res:Mi[M.length]?=some zC
 kp:A1D r none M Mi
 lt:r<M.length
def B1c.start{l}{o}{r}{M}{a}{en}(h:Rd M r l o a en):B1c l o r M a en (M++[zC]):=by have b:r<M.length:=(Z0a.1 h).1;exact⟨by unfold Rd;rw[Z0i b];exact h,by simp,.of_r (.app _ _ _),b⟩
def B1c.next{l}{o}{r}{M}{a' a2}{en' en2}{Mi Mj}(h:B1c l o r M a' en' Mi)(hr:Rd Mj r l o a2 en2)(k:A1D r none Mi Mj):B1c l o r M a2 en2 Mj:=by have a:=h.lt;have hl:=(Z0a.1 h.res).1;exact⟨hr,by rw[k.2 _ hl (by omega) (by simp)];exact h.res,h.kp.step k (by simp),a⟩
def B1c.set{l}{o}{r}{M}{a'}{en'}{Mi}(h:B1c l o r M a' en' Mi){a2}{en2}:B1c l o r M a2 en2 (Mi.set r (.cells 240 (A1E l o a2 en2))):=h.next (@A9C Mi r l o a2 en2 .gone (Z0a.1 h.rd).1) (.of_r (.set _ _ _))
def B1c.later{l}{o}{r}{M}{a'}{en'}{Mi}(h:B1c l o r M a' en' Mi){v}(hv:A1m Mi.length v):∀f,obj v=some f->M.length<f:=λf hf=>by have:=hv f hf;have:=(Z0a.1 h.res).1;omega
def B1c.fin{l}{o}{r}{M}{a'}{en'}{Mi}(h:B1c l o r M a' en' Mi){X}{v}{p}(ho:A1g 159 2 A0w.row Mi v p)(hv:∀f,obj v=some f->M.length<f):A1g 159 2 A0w.row (Mi.set M.length (.cells 110 X)) v p/\A1m M.length v/\Rd (Mi.set M.length (.cells 110 X)) r l o a' en'/\A1D r none M (Mi.set M.length (.cells 110 X)):=by
 have a:=h.lt
 refine⟨ho.keep (.set _ _ _) λf hf e=>by have:=hv f hf;simp at e;omega,λf hf=>by have:=hv f hf;omega,?_,⟨by simpa using h.kp.1,λi hi h1 h2=>?_⟩⟩
 .unfold Rd;rw[Z0c (by omega)];exact h.rd
 .rw[Z0c (by omega)];exact h.kp.2 i hi h1 h2
def B1c.len{l}{o}{r}{M}{a'}{en'}{Mi}(h:B1c l o r M a' en' Mi):M.length<Mi.length:=(Z0a.1 h.res).1
section
variable (gl:Nat->AV)
@[simp] def D3p{v}{M}{p}(h:A1g 159 2 A0w.row M v p):A0x prog 110 [(1,v)]=some (.agg [I 0,v,S ⟨#[]⟩,I 0,I 0]):=by
 rcases h with⟨rfl,_⟩|⟨f,g,a,rfl,_⟩<;>simp[A0x,A1b,A1o,A0d,AV.cells,AV.storable]
@[simp] def E2j{k}:A0x prog 110 [(0,I k)]=some (.agg [I k,A0G,S ⟨#[]⟩,I 0,I 0]):=by
 simp[A0x,A1b,A1o,A0d,AV.cells,AV.storable]
def B9d(w:List ByteArray):(A3e w).length<=9:=by have:=A3Z (9-bkN w) (w.drop (bkN w));have hb:=B6G w;unfold A3e;rw[Z0t,B1s];omega
def B8k{k}(hk:k=0\/k=4)(w:List ByteArray):A3h k w=if A2M k (A3e w) ⟨#[]⟩=true then some ((k,A3e w,⟨#[]⟩),A1h w)else none:=by rw[D2u hk];unfold A3h;by_cases c:A1h w=bkN w<;>simp[c]
def D5p(l:List ByteArray)(o:Own)(hl:l.length<=1000000000)(e:∀s∈l,s.size<=maxLen)(r:Nat)(a:Nat)(en:Bool)(M:Mem)(hr:Rd M r l o a en):A0e (WC gl) 247 [.ptr r 0] M (A8I 0 l o r a en M):=by
 refine A0n hB func247 ?_
 have f0:=B1c.start hr
 simp -dsimp[A0k]
 generalize M++[zC]=M0 at*
 refine A0q func248 (C4C gl l o hl e r a en M0 f0.rd) ?_
 rintro v M1 ⟨q1,⟨d,q2,q3,q4⟩,q5⟩
 have f1:=f0.next q2 q4
 have c:=f0.later q5
 have b:=f1.len
 have f:=B9d (A1i l a en)
 simp -dsimp[D3p q1,A0f f1.res,A0d,A0s,b,A0j]
 obtain⟨z1,z2,z3,z4⟩:=f1.fin q1 c (X:=[I 0,v,S ⟨#[]⟩,I 0,I 0])
 exact⟨0,_,⟨#[]⟩,v,_,d,rfl,z1,z2,by omega,z3,z4,by rw[show A2r 0 (A1i l a en)=A3h 0 (A1i l a en)from rfl,B8k (.inl rfl),Z1X]⟩
def D5Q(l:List ByteArray)(o:Own)(hl:l.length<=1000000000)(f:∀s∈l,s.size<=maxLen)(r:Nat)(a:Nat)(en:Bool)(M:Mem)(hr:Rd M r l o a en):A0e (WC gl) 249 [.ptr r 0] M (A8I 1 l o r a en M):=by
 refine(D7u gl l o hl f r a en M hr).mono λv M' h=>?_
 have g:=B9d (A1i l a en)
 rcases h with⟨s,d,vp,h1,rfl,h3,h4,e,h5,h6,h7⟩|⟨h1,vp,p,rfl,h3,h4,h5,⟨a',b,h6⟩,h7⟩
 .refine⟨1,_,d,vp,_,e,rfl,h3,h4,by simp;omega,h5,h7,?_⟩;simp only[A2r,h1];rw[D3c h1,Z1X];by_cases c:(A3e (A1i l a en)).length<=8<;>simp[c]
 .refine⟨1,p,⟨#[]⟩,vp,a',b,rfl,h3,h4,h5,h6,h7,?_⟩;simp only[A2r,h1,C3h,Z0H,Z1i]
def A9N{i}{l}{o}{r}{M}{a a2}{en en2}{Mi}(k:Int)(h:B1c l o r M a2 en2 Mi)(hf:A2r i (A1i l a en)=none):A8I i l o r a en M (.agg [I k,A0G,S ⟨#[]⟩,I 0,I 0]) (Mi.set M.length (.cells 110 [I k,A0G,S ⟨#[]⟩,I 0,I 0])):=by
 obtain⟨z1,z2,z3,z4⟩:=h.fin (v:=A0G) (p:=[]) A1g.nil (λf hf=>by simp at hf) (X:=[I k,A0G,S ⟨#[]⟩,I 0,I 0])
 exact⟨k,[],⟨#[]⟩,A0G,a2,en2,rfl,z1,z2,by simp,z3,z4,by rw[hf,C3s];rfl⟩
def D4N(l:List ByteArray)(o:Own)(hl:l.length<=1000000000)(d:∀s∈l,s.size<=maxLen)(r:Nat)(a:Nat)(en:Bool)(M:Mem)(hr:Rd M r l o a en):A0e (WC gl) 250 [.ptr r 0] M (A8I 2 l o r a en M):=by
 refine A0n hB func250 ?_
 have f0:=B1c.start hr
 simp -dsimp[A0k]
 generalize M++[zC]=M0 at*
 refine A0q func251 (B3b gl l o hl d A3x r a en M0 f0.rd) ?_
 rintro _ M1 ⟨rfl,rfl⟩
 rcases A8c (l:=l) (a:=a) (en:=en) A3l.1 with⟨w,e1,c,e2,e3⟩|⟨e1,e2⟩
 .rw[e2];have f1:=f0.set (a2:=a+1) (en2:=c);generalize M0.set r (.cells 240 (A1E l o (a+1) c))=M1 at*;simp -dsimp;refine A0q func252 (C1Z gl l o hl d r (a+1) c M1 f1.rd) ?_;rintro v M2 h;have hf:A2r 2 (A1i l a en)=(A2L w).map λx=>((2,x.1,⟨#[]⟩),x.2+1):=by rw[e1];simp only[A2r,Z0T]
  rcases h with⟨p,n,h1,h2,⟨en2,h3,h4,h5⟩,h6⟩|⟨h1,rfl,⟨a2,en2,h3⟩,h4⟩
  .rw[e3]at h1;(have g:p.length<=9:=by have:=B5d (.inl rfl) (k:=2) h1;simp only[A2M,Z0f,Z0k]at this;exact this.1);have f2:=f1.next h3 h5;have f:=f1.later h6;have b:=f2.len;simp -dsimp[A8d h2,A0f f2.res,A0d,A0s,b,A0j];obtain⟨z1,z2,z3,z4⟩:=f2.fin h2 f (X:=[I 2,v,S ⟨#[]⟩,I 0,I 0]);refine⟨2,p,⟨#[]⟩,v,_,en2,rfl,z1,z2,by omega,z3,z4,?_⟩;rw[hf,h1,B5d (.inl rfl) h1];simp only[Z1C,Z0T];congr 2;omega
  .rw[e3]at h1;have f2:=f1.next h3 h4;have b:=f2.len;simp -dsimp[A8d (M:=M2) (p:=[]) A1g.nil,A0f f2.res,A0d,A0s,b,A0j];exact A9N 2 f2 (by rw[hf,h1];rfl)
 .rw[e2];have f1:=f0.set (a2:=a) (en2:=en);generalize M0.set r (.cells 240 (A1E l o a en))=M1 at*;have b:=f1.len;simp -dsimp[A0f f1.res,A0d,A0s,b,A0j];refine A9N 2 f1 ?_;cases hs:A1i l a en with
  |nil=>rfl
  |cons s w=>simp only[A2r];rw[Z0d λe=>e1 w (by rw[hs,e])]
def D4E(l:List ByteArray)(o:Own)(hl:l.length<=1000000000)(f:∀s∈l,s.size<=maxLen)(r:Nat)(a:Nat)(en:Bool)(M:Mem)(hr:Rd M r l o a en):A0e (WC gl) 254 [.ptr r 0] M (A8I 4 l o r a en M):=by
 refine A0n hB func254 ?_
 have f0:=B1c.start hr
 simp -dsimp[A0k]
 generalize M++[zC]=M0 at*
 refine A0q func251 (B3b gl l o hl f A6z r a en M0 f0.rd) ?_
 rintro _ M1 ⟨rfl,rfl⟩
 rcases A8c (l:=l) (a:=a) (en:=en) A3l.2.2.2.1 with⟨w,e1,d,e2,e3⟩|⟨e1,e2⟩
 .rw[e2];have f1:=f0.set (a2:=a+1) (en2:=d);generalize M0.set r (.cells 240 (A1E l o (a+1) d))=M1 at*;simp -dsimp;refine A0q func248 (C4C gl l o hl f r (a+1) d M1 f1.rd) ?_;rintro v M2 ⟨q1,⟨h,q2,q3,q4⟩,q5⟩;rw[e3]at q1 q2;have f2:=f1.next q2 q4;have g:=f1.later q5;have b:=f2.len;have i:=B9d w;simp -dsimp[A8d q1,A0f f2.res,A0d,A0s,b,A0j];obtain⟨z1,z2,z3,z4⟩:=f2.fin q1 g (X:=[I 4,v,S ⟨#[]⟩,I 0,I 0]);refine⟨4,_,⟨#[]⟩,v,_,h,rfl,z1,z2,by omega,z3,z4,?_⟩;have hf:A2r 4 (A1i l a en)=(A3h 4 w).map λx=>(x.1,x.2+1):=by rw[e1];simp only[A2r,Z0T]
  rw[hf,B8k (.inr rfl)];by_cases c:A2M 4 (A3e w) ⟨#[]⟩=true
  .rw[Z0e c,Z0e c];simp only[Z1C];congr 2;omega
  .rw[Z0d c,Z0d c];rfl
 .rw[e2];have f1:=f0.set (a2:=a) (en2:=en);generalize M0.set r (.cells 240 (A1E l o a en))=M1 at*;have b:=f1.len;simp -dsimp[A0f f1.res,A0d,A0s,b,A0j];refine A9N 4 f1 ?_;cases hs:A1i l a en with
  |nil=>rfl
  |cons s w=>simp only[A2r];rw[Z0d λe=>e1 w (by rw[hs,e])]
end
section
variable (gl:Nat->AV)
def D4d(l:List ByteArray)(o:Own)(hl:l.length<=1000000000)(d:∀s∈l,s.size<=maxLen)(r:Nat)(a:Nat)(en:Bool)(M:Mem)(hr:Rd M r l o a en):A0e (WC gl) 253 [.ptr r 0] M (A8I 3 l o r a en M):=by
 refine A0n hB func253 ?_
 have f0:=B1c.start hr
 simp -dsimp[A0k]
 generalize M++[zC]=M0 at*
 refine A0q func251 (B3b gl l o hl d A5F r a en M0 f0.rd) ?_
 rintro _ M1 ⟨rfl,rfl⟩
 rcases A8c (l:=l) (a:=a) (en:=en) A3l.2.1 with⟨w,e1,c,e2,e3⟩|⟨e1,e2⟩
 .rw[e2];have f1:=f0.set (a2:=a+1) (en2:=c);generalize M0.set r (.cells 240 (A1E l o (a+1) c))=M1 at*;simp -dsimp;refine A0q func251 (B3b gl l o hl d A7s r (a+1) c M1 f1.rd) ?_;rintro _ M2 ⟨rfl,rfl⟩;rcases A8c (l:=l) (a:=a+1) (en:=c) A3l.2.2.1 with⟨w2,g1,en2,g2,g3⟩|⟨g1,g2⟩
  .rw[g2];have f2:=f1.set (a2:=a+1+1) (en2:=en2);generalize M1.set r (.cells 240 (A1E l o (a+1+1) en2))=M2 at*;simp -dsimp;refine A0q func252 (C1Z gl l o hl d r (a+1+1) en2 M2 f2.rd) ?_;rintro v M3 h;(have hf:A2r 3 (A1i l a en)=(A2L w2).map λx=>((3,x.1,⟨#[]⟩),x.2+2):=by rw[e1,<-e3,g1];simp only[A2r,Z3R,Z0T]);rcases h with⟨p,n,h1,h2,⟨f,h3,h4,h5⟩,h6⟩|⟨h1,rfl,⟨a2,f,h3⟩,h4⟩
   .rw[g3]at h1;(have i:p.length<=9:=by have:=B5d (.inr rfl) (k:=3) h1;simp only[A2M,Z0f,Z0k]at this;exact this.1);have f3:=f2.next h3 h5;have g:=f2.later h6;have b:=f3.len;simp -dsimp[A8d h2,A0f f3.res,A0d,A0s,b,A0j];obtain⟨z1,z2,z3,z4⟩:=f3.fin h2 g (X:=[I 3,v,S ⟨#[]⟩,I 0,I 0]);refine⟨3,p,⟨#[]⟩,v,_,f,rfl,z1,z2,by omega,z3,z4,?_⟩;rw[hf,h1,B5d (.inr rfl) h1];simp only[Z1C,Z0T];congr 2;omega
   .rw[g3]at h1;have f3:=f2.next h3 h4;have b:=f3.len;simp -dsimp[A8d (M:=M3) (p:=[]) A1g.nil,A0f f3.res,A0d,A0s,b,A0j];exact A9N 3 f3 (by rw[hf,h1];rfl)
  .rw[g2];have f2:=f1.set (a2:=a+1) (en2:=c);generalize M1.set r (.cells 240 (A1E l o (a+1) c))=M2 at*;have b:=f2.len;simp -dsimp[A0f f2.res,A0d,A0s,b,A0j];refine A9N 3 f2 ?_;rw[e1,<-e3];cases hs:A1i l (a+1) c with
   |nil=>rfl
   |cons s w=>simp only[A2r];rw[Z0d λe=>g1 w (by rw[hs,e.2])]
 .rw[e2];have f1:=f0.set (a2:=a) (en2:=en);generalize M0.set r (.cells 240 (A1E l o a en))=M1 at*;have b:=f1.len;simp -dsimp[A0f f1.res,A0d,A0s,b,A0j];refine A9N 3 f1 ?_;cases hs:A1i l a en with
  |nil=>rfl
  |cons s w=>cases w<;>simp only[A2r];rw[Z0d λe=>e1 _ (by rw[hs,e.1])]
def B0G:List FuncId:=[247,249,250,253,254]
def D4p(M:Mem):A0e (WC gl) 199 [] M (λv M'=>v=.list 1 (B0G.map λg=>[.func (.func g) [] []]) .full/\M'=M):=by refine A0n hB func199 ?_;simp -dsimp[A0l,A0M,B0G]
def D9y(i:Nat)(l:List ByteArray)(o:Own)(r a:Nat)(en:Bool)(M:Mem)(v:AV)(M':Mem):Prop:=∃k p to a' en',v=.agg [I k,.list 2 (A0T p) .no,S to,I 0,I 0]/\p.length<=10/\Rd M' r l o a' en'/\A1D r none M M'/\A2r i (A1i l a en)=if A2M k p to=true then some ((k,p,to),a'-a)else none
def B0h{f}{i}{l}{o}{r a}{en}{M}(h:A0e (WC gl) f [.ptr r 0] M (A8I i l o r a en M)):A0e (WC gl) f [.ptr r 0] M (D9y i l o r a en M):=by
 refine A0e.stillN (h.mono ?_);rintro v M' ⟨k,p,to,vp,a',c,rfl,h1,h2,h3,h4,h5,h6⟩;refine⟨M.length,.agg [I k,.list 2 (p.map A0w.row) .no,S to,I 0,I 0],?_,k,p,to,a',c,rfl,h3,?_,⟨by simpa using h5.1,λi hi hr hb=>?_⟩,h6⟩
 .refine .agg (.same trivial (Still.rows (λ_=>rfl) (λ_ _ _=>trivial) h1 h2 (.same trivial (.same trivial (.same trivial .nil))))) .nil
 .exact A6i h4 (by rintro _ _ _ _ _ e;exact absurd e (by simp))
 .have b:i<M'.length:=Z1j hi h5.1;rw[<-h5.2 i hi hr hb,Z0l b];exact A6i (Z0l b) λ_ _ _ _ _ _=>hi
def D7V(l:List ByteArray)(o:Own)(hl:l.length<=1000000000)(b:∀s∈l,s.size<=maxLen)(r:Nat)(a:Nat)(en:Bool)(M:Mem)(hr:Rd M r l o a en)(i:Nat)(hi:i<B0G.length):A4r (WC gl) B0G[i] [.ptr r 0] M (D9y i l o r a en M):=by
 match i,hi with
 |0,_=>exact A1a func247 rfl rfl (B0h gl (D5p gl l o hl b r a en M hr))
 |1,_=>exact A1a func249 rfl rfl (B0h gl (D5Q gl l o hl b r a en M hr))
 |2,_=>exact A1a func250 rfl rfl (B0h gl (D4N gl l o hl b r a en M hr))
 |3,_=>exact A1a func253 rfl rfl (B0h gl (D4d gl l o hl b r a en M hr))
 |4,_=>exact A1a func254 rfl rfl (B0h gl (D4E gl l o hl b r a en M hr))
end
section
variable (gl:Nat->AV) (M:Mem)
def D5T(s:A0w):A0e (WC gl) 218 [s.v] M (λv M'=>v=B (!A1k s)/\Grow M M'):=by refine A0n hB func218 ?_;simp -dsimp -implicitDefEqProofs[A0w.row];refine A0q func217 (C5A gl M s) ?_;rintro r M' ⟨rfl,a⟩;simp -dsimp -implicitDefEqProofs[a]
def C4d(p:List A0w)(o:Own)(c:p.length<=1000000):A0e (WC gl) 270 [.list 2 (A0T p) o,.func (.func 218) [] []] M (λv M'=>(∃r,v=I r/\decide (0<=r)=p.any (λs=>!A1k s))/\Grow M M'):=by
 refine A0n hB func270 ?_;simp -dsimp -implicitDefEqProofs;refine A0B hB p.length 8 (λT M1=>∃i:Nat,i<=p.length/\Grow M M1/\T 0=.list 2 (A0T p) o/\T 1=.func (.func 218) [] []/\T 7=I p.length/\T 8=I i/\(p.take i).all A1k=true) ?_ ?_
 .refine⟨0,?_⟩;simp -dsimp -implicitDefEqProofs[Grow.refl]
 .rintro T M1 ⟨i,h1,h2,h3,h4,h5,h6,h7⟩;by_cases hi:i<p.length
  ·(have a:(i:Int)<p.length:=by omega);have hw:IntKind.i64.wrap ((i:Int)+1)=(i+1:Nat):=by rw[A0L (by omega) (by omega)];omega
   simp -dsimp -implicitDefEqProofs[h3,h4,h5,h6,hi,a];refine A0q func218 (D5T gl M1 p[i]) ?_;rintro r M' ⟨rfl,b⟩;have hg:=h2.trans b;cases hb:A1k p[i]
   .simp -dsimp -implicitDefEqProofs[h3,h4,h5,h6];refine⟨?_,hg⟩;exact⟨p[i],Z0o hi,hb⟩
   .simp -dsimp -implicitDefEqProofs[h3,h4,h5,h6,hw,hg];refine⟨⟨i+1,?_⟩,?_⟩
    .have:=A9q hi h7 hb;simp only[Z0p]at this|-;exact⟨by clear hw;omega,by simp,this⟩
    .clear hw;omega
  ·(have a:¬(i:Int)<p.length:=by omega);rw[Z0g (by omega),Z0p]at h7
   simp -dsimp -implicitDefEqProofs[h3,h4,h5,h6,a];exact⟨h7,h2⟩
def B7y(p:List A0w)(o:Own)(a:p.length<=1000000):A0e (WC gl) 215 [.list 2 (A0T p) o,.func (.func 218) [] []] M (λv M'=>v=B (p.any (λs=>!A1k s))/\Grow M M'):=by refine A0n hB func215 ?_;simp -dsimp -implicitDefEqProofs;refine A0q func270 (C4d gl M p o a) ?_;rintro r M' ⟨⟨r,rfl,hr⟩,b⟩;simp -dsimp -implicitDefEqProofs[b,hr]
def C5F(p:List A0w)(o:Own)(b:p.length<=1000000):A0e (WC gl) 167 [.list 2 (A0T p) o] M (λv M'=>v=B (A5f p)/\Grow M M'):=by
 refine A0n hB func167 ?_;cases p with
 |nil=>simp -dsimp -implicitDefEqProofs[A0T,A5f,Grow.refl]
 |cons s p'=>
  simp only[Z0x]at b;have i0:¬(p'.length:Int)+1=0:=by omega
  have i1:(1:Int)<=(p'.length:Int)+1:=by omega
  have i2:(0:Int)<=(p'.length:Int):=by omega
  by_cases c1:s.lab=⟨#[]⟩;case neg=>simp -dsimp -implicitDefEqProofs[A0T,A0w.row,A5f,c1,i0,Grow.refl]
  by_cases c2:s.k<1
  ·(have:¬1<=s.k:=by omega);simp -dsimp -implicitDefEqProofs[A0T,A0w.row,A5f,c1,c2,this,i0,Grow.refl]
  by_cases c3:7<s.k
  ·(have h3:¬s.k<=7:=by omega);have a:s.k>7:=c3
   simp -dsimp -implicitDefEqProofs[A0T,A0w.row,A5f,c1,c2,c3,h3,a,i0,Grow.refl]
  have h2:1<=s.k:=by omega
  have h3:s.k<=7:=by omega
  have a:¬s.k>7:=c3;simp -dsimp -implicitDefEqProofs[A0T,A0w.row,A5f,c1,c2,c3,h2,h3,a,i0,i1,i2];refine A0q func215 (B7y gl M p' _ (by omega)) ?_;rintro r M' ⟨rfl,c⟩;simp -dsimp -implicitDefEqProofs[c,C4j];simp[A5f,c1,h2,h3]
end
section
variable (gl:Nat->AV)
def C1H(k:Int)(p:List A0w)(o:Own)(to:ByteArray)(x y:Int)(M:Mem)(hp:p.length<=1000000):A0e (WC gl) 116 [.agg [I k,.list 2 (A0T p) o,S to,I x,I y]] M (λv M'=>v=B (A2M k p to)/\M'=M):=by
 refine A3r (λ_=>trivial) ?_;refine A0n hB func116 ?_;by_cases c9:p.length<=9;case neg=>
  have i2:(9:Int)<p.length:=by omega
  simp -dsimp -implicitDefEqProofs[i2,A2M,c9,Grow.refl]
 have i1:¬(p.length:Int)>9:=by omega
 have i2:¬(9:Int)<p.length:=by omega
 by_cases ct:to=⟨#[]⟩<;>by_cases k1:k=1
 .have hm:A2M k p to=false:=by rw[ct,k1];exact C3h
  simp -dsimp -implicitDefEqProofs[i1,i2,ct,k1,C3h,Grow.refl]
 .by_cases k0:k=0
  ·(have hm:A2M k p to=A1X p:=by simp[A2M,k0,c9,ct]);rw[hm]
   simp -dsimp -implicitDefEqProofs[i1,i2,ct,k1,k0];refine A0q func166 (B4W gl M p o hp) ?_;rintro r M2 ⟨rfl,a⟩;simp -dsimp -implicitDefEqProofs[a]
  by_cases k4:k=4
  ·(have hm:A2M k p to=A1X p:=by simp[A2M,k4,c9,ct]);rw[hm]
   simp -dsimp -implicitDefEqProofs[i1,i2,ct,k1,k0,k4];refine A0q func166 (B4W gl M p o hp) ?_;rintro r M2 ⟨rfl,a⟩;simp -dsimp -implicitDefEqProofs[a]
  by_cases k2:k=2
  ·(have hm:A2M k p to=A5f p:=by simp[A2M,k2,c9,ct]);rw[hm]
   simp -dsimp -implicitDefEqProofs[i1,i2,ct,k1,k0,k4,k2];refine A0q func167 (C5F gl M p o hp) ?_;rintro r M2 ⟨rfl,a⟩;simp -dsimp -implicitDefEqProofs[a]
  by_cases k3:k=3
  ·(have hm:A2M k p to=A5f p:=by simp[A2M,k3,c9,ct]);rw[hm]
   simp -dsimp -implicitDefEqProofs[i1,i2,ct,k1,k0,k4,k2,k3];refine A0q func167 (C5F gl M p o hp) ?_;rintro r M2 ⟨rfl,a⟩;simp -dsimp -implicitDefEqProofs[a]
  have hm:A2M k p to=false:=by simp[A2M,k0,k1,k2,k3,k4]
  rw[hm];simp -dsimp -implicitDefEqProofs[i1,i2,ct,k1,k0,k4,k2,k3,Grow.refl]
 .have hm:A2M k p to=(A1X p&&A0O to&&decide (B5q p≠6)):=by simp[A2M,k1,c9,Bool.and_comm,Bool.and_assoc]
  rw[hm];simp -dsimp -implicitDefEqProofs[i1,i2,ct,k1];refine A0q func166 (B4W gl M p o hp) ?_;rintro r M2 ⟨rfl,a⟩;cases hpl:A1X p with
  |false=>simp -dsimp -implicitDefEqProofs[a]
  |true=>
   simp -dsimp -implicitDefEqProofs;refine A0q func112 (A6x gl M2 to) ?_;rintro r M3 ⟨rfl,b⟩;cases hlb:A0O to with
   |false=>simp -dsimp -implicitDefEqProofs[a.trans b]
   |true=>
    (have d:p≠[]:=λe=>by rw[e]at hpl;exact absurd hpl (by decide));have f:=Z2f.2 d
    (have hw:IntKind.i64.wrap ((p.length:Int)-1)=(p.length-1:Nat):=by rw[A0L (by omega) (by omega)];omega);have j1:((p.length-1:Nat):Int)<p.length:=by omega
    (have j2:p.length-1<p.length:=by omega);have c:B5q p=(p[p.length-1]).k:=by unfold B5q;rw[Z4a,Z0l j2]
    simp -dsimp -implicitDefEqProofs[hw,j1,j2];refine⟨?_,a.trans b⟩;rw[c];by_cases h:p[p.length-1].k=6<;>simp[h]
 .have hm:A2M k p to=false:=by simp[A2M,ct,k1]
  simp -dsimp -implicitDefEqProofs[i1,i2,ct,k1,hm,Grow.refl]
end
def D3d{C}{f}{args}{M}{r}(hb:∀n,bdd n r)(h:A0e C f args M (λv M'=>v=r/\Grow M M')):A0e C f args M (λv M'=>v=r/\M'=M):=by refine h.cut ?_;rintro _ M' ⟨rfl,hg⟩;obtain⟨X,hX⟩:=hg.tail;exact⟨X,hX,hb _,rfl,rfl⟩
def D2A(n:Nat)(p:List A0w):A7H n (A0T p):=by
 induction p with
 |nil=>simp[A0T,A7H]
 |cons s p ih=>simp only[A0T,Z0z,A7H];exact⟨by simp[A0w.row,A1I,bdd],ih⟩
def hL:A2u:=⟨λd=>!(d==20),λ_=>true,λ_=>false⟩
@[simp] def E8G:hL.imm=λd=>!(d==20):=(rfl)
def A7N(g:Option (Cq×Nat))(a:Nat):List AV:=match g with
 |some ((k,p,to),n)=>[I k,.list 2 (A0T p) .no,S to,I a,I (a+n:Nat)]
 |none=>[I 0,A0G,S ⟨#[]⟩,I 0,I 0]
@[simp] def D1K(g:Option (Cq×Nat))(a:Nat):(A7N g a).length=5:=by cases g<;>rfl
def C7z(g:Option (Cq×Nat))(a:Nat):∃x y z u,A7N g a=[x,y,z,u,I (if g.isSome then a+B3Y g else 0:Nat)]:=by
 match g with
 |none=>exact⟨_,_,_,_,rfl⟩
 |some ((k,p,to),n)=>exact⟨_,_,_,_,rfl⟩
def D5A(g:Option (Cq×Nat))(a n:Nat):A1I n (A7N g a):=by
 match g with
 |none=>simp[A7N,A1I,bdd]
 |some ((k,p,to),m)=>simp only[A7N,A1I,bdd,Z1D,Z2u];exact D2A n p
def C8E{k}{w}{c}{n}(h:A3h k w=some (c,n)):0<n:=by
 have:=B4v w;unfold A3h at h;split at h
 .exact absurd h (by simp)
 .simp only[Z0b,Z0h]at h;omega
def D1O{i}{w}{c}{n}(h:A2r i w=some (c,n)):0<n:=by
 unfold A2r at h;split at h
 .exact C8E h
 .split at h
  .split at h
   .simp only[Z0b,Z0h]at h;omega
   .exact absurd h (by simp)
  .exact absurd h (by simp)
 .split at h
  .split at h
   .cases hb:A2L _ with
    |none=>rw[hb]at h;exact absurd h (by simp)
    |some y=>rw[hb]at h;simp at h;omega
   .exact absurd h (by simp)
  .exact absurd h (by simp)
 .split at h
  .split at h
   .cases hb:A2L _ with
    |none=>rw[hb]at h;exact absurd h (by simp)
    |some y=>rw[hb]at h;simp at h;omega
   .exact absurd h (by simp)
  .exact absurd h (by simp)
 .split at h
  .split at h
   .cases hb:A3h 4 _ with
    |none=>rw[hb]at h;exact absurd h (by simp)
    |some y=>rw[hb]at h;simp at h;omega
   .exact absurd h (by simp)
  .exact absurd h (by simp)
def B2G(w:List ByteArray):∀i,(A4H w i).isSome=true->0<B3Y (A4H w i)
 |0,h=>by simp[A4H]at h
 |i+1,h=>by
  rw[A4H]at h|-;cases hf:A2r i w with
  |none=>rw[hf]at h;simp only[A5W]at h|-;exact B2G w i h
  |some y=>
   obtain⟨c,n⟩:=y;rw[hf]at h;simp only[A5W]at h|-;by_cases e:B3Y (A4H w i)<n
   .rw[Z0e e];simp only[B3Y];omega
   .rw[Z0d e]at h|-;exact B2G w i h
def D2z{w}{i}{k}{p}{to}{a a'}(h:A2r i w=if A2M k p to=true then some ((k,p,to),a'-a)else none):A7N (A4H w (i+1)) a=if A2M k p to=true/\(if(A4H w i).isSome then a+B3Y (A4H w i)else 0)<a' then[I k,.list 2 (A0T p) .no,S to,I a,I a']else A7N (A4H w i) a:=by
 rw[A4H,h]
 by_cases c:A2M k p to=true
 .rw[Z0e c]at h|-;have hp:=D1O h;have hn:=B2G w i;simp only[A5W,c,Z2u];cases hb:A4H w i with
  |none=>simp only[Option.isSome_none,Z0H,Z1i];rw[Z0e (show B3Y none<a'-a from hp),Z0e (by omega)];simp only[A7N,show a+(a'-a)=a' from by omega]
  |some y=>
   rw[hb]at hn;simp only[Z1W,Z0T];by_cases e:B3Y (some y)<a'-a
   .rw[Z0e e,Z0e (by omega)];simp only[A7N,show a+(a'-a)=a' from by omega]
   .rw[Z0d e,Z0d (by omega)]
 .rw[Z0d c];simp[A5W,c]
section
variable (gl:Nat->AV)
@[simp] def E3P{rows}{o}{x}:A0x prog 240 [(0,.list 1 rows o),(1,I x)]=some (.agg [.list 1 rows o,I x,B false]):=by
 simp[A0x,A1b,A1o,A0d,AV.cells,AV.storable]
def C9c(l:List ByteArray)(o:Own)(hl:l.length<=1000000000)(am:∀s∈l,s.size<=maxLen)(a:Nat)(M:Mem):A0e (WC gl) 147 [.list 1 (A0W l) o,I a] M (λv M'=>v=.tuple [.agg (A7N (A9a (A5z (l.drop a))) a),B (A9a (A5z (l.drop a))).isSome]/\M'=M):=by
 obtain⟨w,hw⟩:=ex (A1i l a false)
 have ap:A5z (l.drop a)=w:=by rw[hw];rfl
 rw[ap,<-D0a]
 refine D3d (λn=>by simp only[bdd,A1I,Z1D];exact D5A _ _ _) ?_
 refine A0n hL func147 ?_
 simp -dsimp[A0k]
 refine A0q func199 (D4p gl _) ?_
 rintro _ M1 ⟨rfl,rfl⟩
 simp -dsimp[A0k]
 refine A0B hL 5 13 (λT M1=>∃i:Nat,i<=5/\T 0=.list 1 (A0W l) o/\T 1=I a/\T 4=.ptr M.length 0/\T 6=.ptr (M.length+1) 0/\T 11=.list 1 (B0G.map λg=>[.func (.func g) [] []]) .full/\T 12=I 5/\T 13=I i/\Grow M M1/\M1[M.length]?=some zC/\M1[M.length+1]?=some (.cells 110 (A7N (A4H w i) a))) ?_ ?_
 .refine⟨0,by omega,by simp,by simp,by simp,by simp,by simp,by simp[B0G],by simp,⟨by simp,λi hi _=>?_⟩,?_,?_⟩
  .simp[Z0W,hi]
  .simp[Z0W]
  .simp[Z0W,A4H,A7N]
 rintro T M1 ⟨i,hi,t0,t1,t4,t6,f,e,d,h1,h2,h3⟩
 by_cases c:i<5
 .have c':(i:Int)<5:=by omega
  have ai:i<B0G.length:=c;have ar:M.length+1<M1.length:=(Z0a.1 h3).1;obtain⟨M2,a5⟩:=ex (M1++[A0m.cells 240 (A1E l o a false)]);have ad:Rd M2 M1.length l o a false:=by rw[a5];simp[Rd]
  have m:Grow M1 M2:=by rw[a5];exact A0c.app none _ _
  simp -dsimp[t0,t1,t4,t6,f,e,d,c',ai,A0k];rw[<-a5];refine A1W (D7V gl l o hl am M1.length a false M2 ad i ai) ?_;rintro v M3 ⟨k,p,to,a',al,rfl,f1,f2,f3,f4⟩;rw[<-hw]at f4;have q:=D2z f4 (a:=a);have u:Grow M M3:=⟨by have:=h1.1;have:=m.1;have:=f3.1;omega,λj hj _=>by rw[f3.2 j (by have:=h1.1;have:=m.1;omega) (by omega) (by simp),m.2 j (by have:=h1.1;omega) (by simp)];exact h1.2 j hj (by simp)⟩;have a2:M3[M.length]?=some zC:=by rw[f3.2 _ (by have:=m.1;omega) (by omega) (by simp)];exact m.get h2 (by simp)
  have y:M3[M.length+1]?=some (.cells 110 (A7N (A4H w i) a)):=by rw[f3.2 _ (by have:=m.1;omega) (by omega) (by simp)];exact m.get h3 (by simp)
  obtain⟨x,hx⟩:=ex (M3.length);have av:M.length+1<x:=by have:=(Z0a.1 y).1;omega
  have aw:M1.length<x:=by have:=(Z0a.1 f2).1;omega
  generalize au:M1.length=r at*;clear a5 ad m f3 h1 h2 h3 f4;obtain⟨M4,a1⟩:=ex (M3++[A0m.cells 110 [I k,.list 2 (A0T p) .no,S to,I 0,I 0]]);have ab:M4[x]?=some (A0m.cells 110 [I k,.list 2 (A0T p) .no,S to,I 0,I 0]):=by rw[a1,hx];simp
  have z:Grow M3 M4:=by rw[a1];exact A0c.app none _ _
  have af:M4[r]?=some (.cells 240 (A1E l o a' al)):=z.get f2 (by simp);replace a2:=z.get a2 (by simp);replace y:=z.get y (by simp);replace u:=u.trans z;simp -dsimp[t0,t1,t4,t6,f,e,d,A0k,A0i,A0d];rw[<-hx,<-a1];clear a1 z;have a7:∀X,(M4.set x X)[r]?=M4[r]?:=λX=>Z0c (by omega);have ag:x<M4.length:=(Z0a.1 ab).1;have a8:∀X,(M4.set x X)[x]?=some X:=λX=>by simp[ag]
  refine A3o hL (A0u gl) (λk=>if k=4 then 1 else if k=6\/k=8 then 2 else 0) (λ_=>r) (λ_=>false) [r] (by intros;simp) (by rfl) (by kernel_rfl) ?_;simp -dsimp[t0,t1,t4,t6,f,e,d,A0b af,A0f ab,A0d,A0F];refine⟨a7 _,?_⟩;simp -dsimp[A0f (a8 _),A0d,Z2J,a7];obtain⟨M5,t⟩:=ex (M4.set x (A0m.cells 110 [I k,.list 2 (A0T p) .no,S to,I a,I a']));have aa:M5[x]?=some (A0m.cells 110 [I k,.list 2 (A0T p) .no,S to,I a,I a']):=by rw[t];exact a8 _
  have a4:M5[M.length]?=some zC:=by rw[t,Z0c (by omega)];exact a2
  have a3:M5[M.length+1]?=some (.cells 110 (A7N (A4H w i) a)):=by rw[t,Z0c (by omega)];exact y
  have a0:Grow M M5:=⟨by rw[t];simpa using u.1,λj hj _=>by rw[t,Z0c (by omega)];exact u.2 j hj (by simp)⟩;rw[<-t];clear t a2 y u a7 a8 ag ab af f2;simp -dsimp[t0,t1,t4,t6,f,e,d,A0b aa];refine A0q func116 (C1H gl k p .no to _ _ M5 (by omega)) ?_;rintro _ M6 ⟨rfl,rfl⟩;have a9:IntKind.i64.wrap ((i:Int)+1)=(i+1:Nat):=by rw[A0L (by omega) (by omega)];omega
  have ah:M.length<M6.length:=(Z0a.1 a4).1;have ao:M.length+1<M6.length:=(Z0a.1 a3).1;obtain⟨y1,y2,y3,y4,a6⟩:=C7z (A4H w i) a;generalize ax:(if(A4H w i).isSome=true then a+B3Y (A4H w i)else 0)=nb at*;cases c2:A2M k p to with
  |false=>rw[c2]at q;simp only[Z0H,Z4g,Z1i]at q;simp -dsimp[t0,t1,t4,t6,f,e,d,a9];exact⟨⟨i+1,by omega,rfl,a0,a4,by rw[q];exact a3⟩,by omega⟩
  |true=>
   rw[c2]at q;have b:=a3;rw[a6]at b;by_cases c3:nb<a'
   ·(have ac:(nb:Int)<a':=by omega);rw[Z0e ⟨rfl,c3⟩]at q
    simp -dsimp[t0,t1,t4,t6,f,e,d,A0b aa,A0b b,ac,A0f b,A0d,a9];refine⟨⟨i+1,by omega,rfl,⟨by simpa using a0.1,λj hj _=>?_⟩,?_,?_⟩,by omega⟩
    .rw[Z0c (by omega)];exact a0.2 j hj (by simp)
    .exact a4
    .rw[q];simp[ao]
   ·(have ac:¬(nb:Int)<a':=by omega);rw[Z0d λh=>c3 h.2]at q
    simp -dsimp[t0,t1,t4,t6,f,e,d,A0b aa,A0b b,ac,a9];exact⟨⟨i+1,by omega,rfl,a0,a4,by rw[q];exact a3⟩,by omega⟩
 .have c':¬(i:Int)<5:=by omega
  have an:i=5:=by omega
  subst an;have ah:M.length<M1.length:=(Z0a.1 h2).1;simp -dsimp[t0,t1,t4,t6,f,e,d,c'];refine A3o hL (A0u gl) (λk=>if k=0\/k=2 then 1 else if k=4 then 2 else 0) (λ_=>M.length+1) (λ_=>false) [M.length+1] (by intros;simp) (by rfl) (by kernel_rfl) ?_;obtain⟨y1,y2,y3,y4,a6⟩:=C7z (A4H w 5) a;have ak:=B2G w 5;have b:=h3;rw[a6]at b;have aj:∀X,(M1.set M.length X)[M.length+1]?=M1[M.length+1]?:=λX=>Z0c (by omega);have aq:∀X,Grow M (M1.set M.length X):=λX=>⟨by simpa using h1.1,λj hj _=>by rw[Z0c (by omega)];exact h1.2 j hj (by simp)⟩;simp -dsimp[t0,t1,t4,t6,f,e,d,A0b b,A0f h2,A0d,A0F,aj];have ae:decide (0<if(A4H w 5).isSome=true then a+B3Y (A4H w 5)else 0)=(A4H w 5).isSome:=by
   cases hs:(A4H w 5).isSome with
   |false=>simp
   |true=>have:=ak hs;simp;omega
  rw[ae,<-a6];simp -dsimp[A0s,ah,A0j,D1K,aq];exact Z0g (by simp)
end
section
variable (gl:Nat->AV)
def C0E(l:List ByteArray)(o:Own)(hl:l.length<=1000000000)(r:∀s∈l,s.size<=maxLen)(M:Mem):A0e (WC gl) 98 [.list 1 (A0W l) o] M (λv M'=>A1g 110 5 A1e.row M' v (A2d l 0)/\Grow M M'/\A1m M.length v):=by
 refine A0n (hQ [24]) func98 ?_
 simp -dsimp
 refine A0B (hQ [24]) l.length 4 (λT M1=>∃(i:Nat) (q:List A1e) (vq:AV),T 0=.list 1 (A0W l) o/\T 3=vq/\T 4=I i/\i<=l.length/\A1g 110 5 A1e.row M1 vq q/\A2d l 0=q++A2d l i/\q.length<=i/\Grow M M1/\A1m M.length vq) ?_ ?_
 .exact⟨0,[],A0G,by simp,by simp,by simp,by omega,.nil,rfl,by simp,A0c.refl _ _,λf hf=>by simp at hf⟩
 rintro T M1 ⟨i,q,vq,t0,t3,t4,h1,h2,h3,h4,h5,h6⟩
 by_cases c:i<l.length
 .have c':(i:Int)<l.length:=by omega
  have m:IntKind.i64.wrap ((i:Int)+1)=(i+1:Nat):=by rw[A0L (by omega) (by omega)];omega
  simp -dsimp[t0,t3,t4,c'];refine A0q func147 (C9c gl l o hl r i M1) ?_;rintro _ M2 ⟨rfl,rfl⟩;cases hc:A9a (A5z (l.drop i))with
  |none=>rw[C1O c hc]at h3;have hk:Grow M2 (M2++[A0m.cells 110 (A7N none i)]):=A0c.app none _ _;simp -dsimp[t0,t3,t4,A0k,A0i,A0d,m];exact⟨⟨i+1,by omega,by omega,q,h2.keep hk (by simp),h3,by omega,h5.trans hk,h6⟩,by omega⟩
  |some g=>
   obtain⟨⟨k,p,to⟩,n⟩:=g;rw[C2M c hc]at h3;obtain⟨b1,b2,b3,b4⟩:=B0j hc;have hn:=A9Y (l.drop i);rw[Z1c]at hn;obtain⟨M3,a⟩:=ex (M2++[A0m.cells 110 [I k,.list 2 (A0T p) .no,S to,I i,I ((i:Int)+n)]]);(have hk:Grow M2 M3:=by rw[a];exact A0c.app none _ _);(have hx:M3[M2.length]?=some (A0m.cells 110 [I k,.list 2 (A0T p) .no,S to,I i,I ((i:Int)+n)]):=by rw[a];simp);have ho:=h2.keep hk (by simp);simp -dsimp[t0,t3,t4,A0k,A0i,A0d,A7N];rw[<-a];simp -dsimp[t0,t3,t4,A0b hx,A0l,A0M];refine A3B (C:=WC gl) (enc:=A1e.row) (e:=110) (sz:=5) (news:=[⟨k,p,to,i,(i:Int)+n⟩]) B8c C6y B9y (λ_=>rfl) ho (by simp[A0D,A1e.row,A0T]) (by simp;omega) rfl ?_;intro v' M4 k1 k2 k3 _;have d:A1m M.length v':=λf hf=>by
    rcases k3 with h|h
    .exact h6 f (h▸hf)
    .have:=h f hf;have:=h5.1;have:=hk.1;omega
   have hg:Grow M M4:=by refine⟨Z0R (h5.trans hk).1 k2.1,λj hj _=>?_⟩;rw[k2.2 j (by have:=(h5.trans hk).1;omega) λe=>by have:=h6 j e;omega];exact(h5.trans hk).2 j hj (by simp)
   (have b:M4[M2.length]?=some (A0m.cells 110 [I k,.list 2 (A0T p) .no,S to,I i,I ((i:Int)+n)]):=k2.get hx λe=>by have:=h2.lt e;omega);simp -dsimp[t0,t3,t4,A0b b]
   exact⟨⟨i+n,by omega,by omega,_,k1,by rw[h3];simp,by simp;omega,hg,d⟩,by omega⟩
 .have c':¬(i:Int)<l.length:=by omega
  rw[C6q (l:=l) (i:=i) (by omega),Z1d]at h3;simp -dsimp[t0,t3,t4,c'];rw[h3];exact⟨h2,h5,h6⟩
end
def A5i:List ByteArray:=A2J.drop 1
def E1v(w:ByteArray):(if w=⟨#[]⟩then 0 else max (B1h A8f w 1) 0)=kS w:=by
 unfold kS A2I;by_cases c:w=⟨#[]⟩
 .rw[Z0e c,Z0e c]
 .rw[Z0d c,Z0d c,show A1x=⟨#[]⟩::A8f from rfl,B1h,Z0d (Z2y c)]
def E0t(w:ByteArray):(if w=⟨#[]⟩then 0 else max (B1h A5i w 1) 0)=kP w:=by
 unfold kP A2I;by_cases c:w=⟨#[]⟩
 .rw[Z0e c,Z0e c]
 .rw[Z0d c,Z0d c,show A2J=⟨#[]⟩::A5i from rfl,B1h,Z0d (Z2y c)]
section
variable (gl:Nat->AV)
def B2l(M:Mem):A0e (WC gl) 173 [] M (λv M'=>v=.list 1 (A0W A5i) .full/\M'=M):=by refine A0n hB func173 ?_;simp -dsimp -implicitDefEqProofs[A0l,A0M,A0W,A5i,A2J]
def C1E(l:List ByteArray)(o:Own)(w:ByteArray)(M:Mem)(hl:l.length<=1000000):A0e (WC gl) 246 [.list 1 (A0W l) o,S w] M (λv M'=>v=I (if w=⟨#[]⟩then 0 else max (B1h l w 1) 0)/\M'=M):=by
 refine A0n hB func246 ?_;simp -dsimp -implicitDefEqProofs;refine A0B hB l.length 5 (λT M1=>∃i:Nat,M1=M/\i<=l.length/\T 0=.list 1 (A0W l) o/\T 1=S w/\T 5=I i/\(w≠⟨#[]⟩->B1h l w 1=B1h (l.drop i) w (i+1))) ?_ ?_
 .exact⟨0,rfl,by omega,by simp,by simp,by simp,λ_=>by simp⟩
 rintro T M1 ⟨i,rfl,h1,t0,t1,t5,h2⟩;by_cases hi:i<l.length
 .have a:(i:Int)<l.length:=by omega
  have hw:IntKind.i64.wrap ((i:Int)+1)=(i+1:Nat):=by rw[A0L (by omega) (by omega)];omega
  rw[Z0j hi,B1h]at h2;by_cases ce:w=⟨#[]⟩
  .simp -dsimp -implicitDefEqProofs[t0,t1,t5,a,hi,ce,hw];exact⟨⟨i+1,by omega,rfl⟩,by omega⟩
  have h2:=h2 ce;by_cases c:l[i]=w
  .rw[Z0e c]at h2;(have hm:max (B1h l w 1) 0=(i:Int)+1:=by rw[h2];omega);simp -dsimp -implicitDefEqProofs[t0,t1,t5,a,hi,ce,c,hw,hm]
  .rw[Z0d c]at h2;simp -dsimp -implicitDefEqProofs[t0,t1,t5,a,hi,ce,c,hw];exact⟨⟨i+1,by omega,rfl,h2⟩,by omega⟩
 .have a:¬(i:Int)<l.length:=by omega
  rw[Z0v (by omega),B1h]at h2;by_cases ce:w=⟨#[]⟩
  .simp -dsimp -implicitDefEqProofs[t0,t1,t5,a,ce]
  .simp -dsimp -implicitDefEqProofs[t0,t1,t5,a,ce,h2 ce];rfl
def D3O(s:ByteArray)(M:Mem)(hs:s.size<=maxLen):A0e (WC gl) 198 [S s] M (λv M'=>v=S (A7t s)/\M'=M):=by
 refine A0n hB func198 ?_;have a:s.size<=9223372036854775807:=hs;by_cases c:s.size=0
 .have e:s=⟨#[]⟩:=by apply ByteArray.ext;exact Z3K c
  subst e;simp -dsimp -implicitDefEqProofs[show A7t ⟨#[]⟩=⟨#[]⟩from rfl]
 have ce:¬s=⟨#[]⟩:=λe=>c (by rw[e];rfl);have hw:IntKind.i64.wrap ((s.size:Int)-1)=(s.size-1:Nat):=by rw[A0L (by omega) (by omega)];omega
 have i1:((s.size-1:Nat):Int)<s.size:=by omega
 have i2:s.size-1<s.size:=by omega
 have i3:((s.size-1:Nat):Int)<=s.size:=by omega
 have hb:A7t s=if A4a (A0P s (s.size-1))=true then s.extract 0 (s.size-1)else s:=by unfold A7t;rw[Z0d c]
 rw[hb];by_cases c1:A0P s (s.size-1)=44
 .simp -dsimp -implicitDefEqProofs[ce,hw,i1,i2,i3,c1,A4a]
 by_cases c2:A0P s (s.size-1)=59
 .simp -dsimp -implicitDefEqProofs[ce,hw,i1,i2,i3,c1,c2,A4a]
 by_cases c3:A0P s (s.size-1)=46
 .simp -dsimp -implicitDefEqProofs[ce,hw,i1,i2,i3,c1,c2,c3,A4a]
 by_cases c4:A0P s (s.size-1)=58
 .simp -dsimp -implicitDefEqProofs[ce,hw,i1,i2,i3,c1,c2,c3,c4,A4a]
 by_cases c5:A0P s (s.size-1)=41
 .simp -dsimp -implicitDefEqProofs[ce,hw,i1,i2,i3,c1,c2,c3,c4,c5,A4a]
 simp -dsimp -implicitDefEqProofs[ce,hw,i1,i2,i3,c1,c2,c3,c4,c5,A4a]
end
section
variable (gl:Nat->AV)
def C8Q{p}(h:A1X p=true)(hp:0<p.length):1<=(p[p.length-1]).k/\(p[p.length-1]).k<=7:=by
 have hr:0<(A6r p).length/\(A6r p).all A1k=true:=by simpa[A1X]using h
 have hn:A1k (p[p.length-1])=true:=by
  cases p with
  |nil=>simp at hp
  |cons s p'=>
   have a:A6r (s::p')=if A2B s=true then p' else s::p':=rfl;rw[a]at hr;by_cases c:A2B s=true
   .rw[Z0e c]at hr;cases p' with
    |nil=>simp at hr
    |cons t p''=>exact Z0p.1 hr.2 _ (by simp only[Z0x,Z2Y,Z2d];exact Z0o _)
   .rw[Z0d c]at hr;exact Z0p.1 hr.2 _ (Z0o _)
 simp only[A1k,Z0f,Z0k]at hn;exact⟨hn.1.1,hn.1.2⟩
def C5L(k:Int)(p:List A0w)(o:Own)(to:ByteArray)(x y:Int)(M:Mem)(hp:A7b p)(ht:to.size<=maxLen):A0e (WC gl) 120 [.agg [I k,.list 2 (A0T p) o,S to,I x,I y]] M (λv M'=>v=B (A2M k p to)/\M'=M):=by
 refine A0n hB func120 ?_;by_cases c0:p=[]
 .subst c0;simp -dsimp -implicitDefEqProofs[A0T,C3s]
 have h0:0<p.length:=Z2f.2 c0;by_cases c9:p.length<=9;case neg=>
  have i2:(9:Int)<p.length:=by omega
  simp -dsimp -implicitDefEqProofs[i2,A2M,c9]
 have i1:¬(p.length:Int)>9:=by omega
 have i2:¬(9:Int)<p.length:=by omega
 have i0:¬(p.length:Int)=0:=by omega
 by_cases k04:k=0\/k=4
 .have hm:A2M k p to=(decide (to=⟨#[]⟩)&&A1X p):=by unfold A2M;rw[Z0e k04];simp[c9]
  rw[hm];by_cases ct:to=⟨#[]⟩
  .rcases k04 with rfl|rfl
   .simp -dsimp -implicitDefEqProofs[i1,i2,i0,c0,ct];refine A0q func172 (B1I gl M p o hp) ?_;rintro r M2 ⟨rfl,rfl⟩;simp -dsimp -implicitDefEqProofs
    exactλ_=>ct
   .simp -dsimp -implicitDefEqProofs[i1,i2,i0,c0,ct];refine A0q func172 (B1I gl M p o hp) ?_;rintro r M2 ⟨rfl,rfl⟩;simp -dsimp -implicitDefEqProofs
    exactλ_=>ct
  .rcases k04 with rfl|rfl
   .simp -dsimp -implicitDefEqProofs[i1,i2,i0,c0,ct]
   .simp -dsimp -implicitDefEqProofs[i1,i2,i0,c0,ct]
 simp only[Z2N]at k04;by_cases k1:k=1
 .have hm:A2M k p to=(A0O to&&A1X p&&decide (B5q p≠6)):=by simp[A2M,k1,c9]
  rw[hm];subst k1;simp -dsimp -implicitDefEqProofs[i1,i2,i0,c0];refine A0Z hB (A0u gl) (λ_=>0) (λ_=>0) (by rfl) (by kernel_rfl) ?_;simp -dsimp -implicitDefEqProofs[i1,i2,i0,c0];refine A7l (r:=B (A0O to)) (λM=>A1a func105 rfl rfl (B6J gl M to ht)) ?_;cases hlb:A0O to with
  |false=>simp -dsimp -implicitDefEqProofs
  |true=>
   simp -dsimp -implicitDefEqProofs;refine A7l (r:=B (A1X p)) (λM=>A1a func172 rfl rfl (B1I gl M p o hp)) ?_;cases hpl:A1X p with
   |false=>simp -dsimp -implicitDefEqProofs
   |true=>have h:=C8Q hpl h0;(have j2:p.length-1<p.length:=by omega);(have j1:((p.length-1:Nat):Int)<p.length:=by omega);(have hw:IntKind.i64.wrap ((p.length:Int)-1)=(p.length-1:Nat):=by rw[A0L (by omega) (by omega)];omega);(have b:B5q p=(p[p.length-1]).k:=by unfold B5q;rw[Z4a,Z0l j2]);simp -dsimp -implicitDefEqProofs;refine A7l (r:=.list 1 (A0W A5i) .full) (λM=>A1a func173 rfl rfl (B2l gl M)) ?_;rw[b];generalize hq:(p[p.length-1]).k=q at*;have g:IntKind.i64.wrap (q-1)=q-1:=A0L (by omega) (by omega);simp -dsimp -implicitDefEqProofs[hw,j1,j2,hq,g];(have c:q=1\/q=2\/q=3\/q=4\/q=5\/q=6\/q=7:=by omega);clear b hq g;rcases c with rfl|rfl|rfl|rfl|rfl|rfl|rfl<;>simp -dsimp -implicitDefEqProofs[A5i,A2J,A0W]
 by_cases k23:k=2\/k=3
 .have hm:A2M k p to=(decide (to=⟨#[]⟩)&&A5f p):=by unfold A2M;rw[Z0d (by simp[k04]),Z0d k1,Z0e k23];simp[c9]
  rw[hm];obtain⟨s,p',rfl⟩:∃s p',p=s::p':=by
   cases p with
   |nil=>exact absurd rfl c0
   |cons s p'=>exact⟨s,p',rfl⟩
  have f:A7b p':=⟨by have:=hp.1;simp at this;omega,λx hx=>hp.2 x (by simp[hx])⟩;rcases k23 with rfl|rfl
  .skip
   (have n9:¬(9:Int)<(p'.length:Int)+1:=by simp at c9;omega);have n8:(p'.length:Int)+1<=9:=by omega
   (have n0:¬(p'.length:Int)+1=0:=by omega);have n1:(1:Int)<=(p'.length:Int)+1:=by omega
   (have n2:(0:Int)<=(p'.length:Int):=by omega);by_cases ct:to=⟨#[]⟩
   (case neg=>simp -dsimp -implicitDefEqProofs[n9,n8,n0,A0T,A0w.row,ct]);by_cases d1:1<=s.k
   (case neg=>have d:¬s.k>=1:=d1;(have a:s.k<1:=by omega);simp -dsimp -implicitDefEqProofs[n9,n8,n0,A0T,A0w.row,ct,d1,d,a,A5f]);by_cases d2:s.k<=7;case neg=>(have e:7<s.k:=by omega);simp -dsimp -implicitDefEqProofs[n9,n8,n0,A0T,A0w.row,ct,d1,d2,e,A5f]
   by_cases d3:s.lab=⟨#[]⟩;(case neg=>simp -dsimp -implicitDefEqProofs[n9,n8,n0,A0T,A0w.row,ct,d1,d2,d3,A5f]);simp -dsimp -implicitDefEqProofs[n9,n8,n0,n1,n2,A0T,A0w.row,ct,d1,d2,d3];refine A0q func174 (A7D gl M p' _ f) ?_;rintro r M2 ⟨rfl,rfl⟩;simp -dsimp -implicitDefEqProofs[A5f,d1,d2,d3,ct]
  .skip
   (have n9:¬(9:Int)<(p'.length:Int)+1:=by simp at c9;omega);have n8:(p'.length:Int)+1<=9:=by omega
   (have n0:¬(p'.length:Int)+1=0:=by omega);have n1:(1:Int)<=(p'.length:Int)+1:=by omega
   (have n2:(0:Int)<=(p'.length:Int):=by omega);by_cases ct:to=⟨#[]⟩
   (case neg=>simp -dsimp -implicitDefEqProofs[n9,n8,n0,A0T,A0w.row,ct]);by_cases d1:1<=s.k
   (case neg=>have d:¬s.k>=1:=d1;(have a:s.k<1:=by omega);simp -dsimp -implicitDefEqProofs[n9,n8,n0,A0T,A0w.row,ct,d1,d,a,A5f]);by_cases d2:s.k<=7;case neg=>(have e:7<s.k:=by omega);simp -dsimp -implicitDefEqProofs[n9,n8,n0,A0T,A0w.row,ct,d1,d2,e,A5f]
   by_cases d3:s.lab=⟨#[]⟩;(case neg=>simp -dsimp -implicitDefEqProofs[n9,n8,n0,A0T,A0w.row,ct,d1,d2,d3,A5f]);simp -dsimp -implicitDefEqProofs[n9,n8,n0,n1,n2,A0T,A0w.row,ct,d1,d2,d3];refine A0q func174 (A7D gl M p' _ f) ?_;rintro r M2 ⟨rfl,rfl⟩;simp -dsimp -implicitDefEqProofs[A5f,d1,d2,d3,ct]
 .have hm:A2M k p to=false:=by unfold A2M;rw[Z0d (by simp[k04]),Z0d k1,Z0d k23,Z3e]
  rw[hm];simp only[Z2N]at k23;simp -dsimp -implicitDefEqProofs[i1,i2,i0,c0,k04.1,k04.2,k1,k23.1,k23.2]
end
section
variable (gl:Nat->AV)
def C7p(x y:Int)(M:Mem):A0e (WC gl) 73 [I x,I y] M (λv M'=>v=I (A8J x y)/\M'=M):=by refine A0n hB func73 ?_;by_cases h1:y=6<;>by_cases h2:x=0<;>simp -dsimp[A8J,h1,h2]
end
section
variable (gl:Nat->AV)
def C1W(l:List A0J)(a b c:Nat)(n:Int)(M:Mem)(hn:n<0):A0e (WC gl) 224 [B2e l a b c,I n] M (λv M'=>A1g 159 2 A0w.row M' v [A3n]/\Grow M M'/\A1m M.length v):=by
 refine A0n (hQ [9,26]) func224 ?_
 simp -dsimp[hn,B8Y]
 refine⟨.inr ⟨M.length,0,[(0,1)],rfl,by simp[A0w.row,A3n],rfl⟩,A0c.app none _ _,λf hf=>by simp at hf;omega⟩
end
section
variable (gl:Nat->AV)
def D6w(F:IdD->Option A0a)(l:List A0J):∀f n,A4C F l f n≠[]
 |0,n=>by simp[A4C]
 |f+1,n=>by rw[A4C];split<;>simp
def B6a(F:IdD->Option A0a)(l:List A0J):∀f n,(A4C F l f n).length<=f+1
 |0,n=>by simp[A4C]
 |f+1,n=>by have:=B6a F l f (A2l l n);rw[A4C];split<;>simp<;>omega
def D3H(l:List A0J)(L:List (IdD×A0a))(a b c:Nat)(hl:l.length<=1000)(y:∀j,j<l.length->B1u l j):∀(f:Nat) (n:Int) (M:Mem),n<l.length->n<f->f<=2000->A2q A3c B5j M a L->A0e (WC gl) 224 [B2e l a b c,I n] M (λv M'=>A1g 159 2 A0w.row M' v (A4C (A1N L) l f n)/\Grow M M'/\A1m M.length v):=by
 intro f
 induction f with
 |zero=>intro n M h1 h2 _ hM;exact C1W gl l a b c n M (by omega)
 |succ f ih=>
  intro n M h1 h2 a8 hM
  by_cases hn:n<0
  .rw[A4C,Z0e hn];exact C1W gl l a b c n M hn
  .refine A0n (hQ [9,26]) func224 ?_;(have d:n.toNat<l.length:=by omega);have s:0<=n/\n<l.length:=⟨by omega,h1⟩;simp -dsimp[hn,s,s.1,s.2,d,A0J.row,A0k,A0i,A0d];obtain⟨x,hx⟩:=ex (l[n.toNat]);rw[<-hx];obtain⟨M1,p⟩:=ex (M++[A0m.cells 69 [I x.id.act,I x.id.item,I x.id.n,I x.parent,S x.label]]);(have g:M1[M.length]?=some (A0m.cells 69 [I x.id.act,I x.id.item,I x.id.n,I x.parent,S x.label]):=by rw[p];simp);(have u:Grow M M1:=by rw[p];exact A0c.app none _ _);have w:=hM.keep u (by simp);rw[<-p];(have a3:A2l l n=x.parent:=by simp[A2l,d,hx]);(have a7:A5J l n.toNat=x.label:=by simp[A5J,d,hx]);have a6:=y n.toNat d n.toNat d (Z0n _);rw[<-hx]at a6;(have a4:x.parent<f:=by omega);(have z:x.parent<l.length:=by omega);(have a0:A4C (A1N L) l (f+1) n=A4C (A1N L) l f x.parent++[⟨A4N (A1N L) l n,x.label⟩]:=by rw[A4C,Z0d hn,a3,a7]);have a1:=A0e.repack (enc:=A0w.row) (e:=159) (sz:=2) (λ_=>rfl) (λn x=>by simp[A0w.row,A1I,bdd]) (D6w (A1N L) l f x.parent) (ih x.parent M1 z a4 (by omega) w);rw[a0];have hAl:=B6a (A1N L) l f x.parent;generalize hA:A4C (A1N L) l f x.parent=A at*;refine A3o (hQ [9,26]) (A0u gl) (λk=>if k=2\/k=8 then 1 else if k=3\/k=6\/k=11 then 2 else 0) (λ_=>M.length) (λ_=>false) [M.length] (by intros;simp) (by rfl) (by kernel_rfl) ?_;simp -dsimp[A0b g,A0F];refine A4S (A1a func224 rfl rfl a1) ?_;obtain⟨M2,t⟩:=ex (M1++[A0m.vec 159 2 (A.flatMap A0w.row) 0 [(0,A.length)]]);(have i:Grow M1 M2:=by rw[t];exact A0c.app none _ _);have a5:A1g 159 2 A0w.row M2 (.vref M1.length 0 2 0 A.length) A:=.inr ⟨M1.length,0,[(0,A.length)],rfl,by rw[t];simp,by simp⟩;(have o:M2[M.length]?=M1[M.length]?:=by rw[g];exact i.get g (by simp));have a2:=w.keep i (by simp);rw[<-t];refine⟨by intro r hr;simp only[Z0I]at hr;subst hr;exact o,?_⟩;simp -dsimp;refine A4S (A1a func151 rfl rfl (B8e gl l L a b c n M2 a2 (by omega))) ?_;simp -dsimp[o,A0b (o.trans g),A0F,A0l,A0M];refine A3B (C:=WC gl) (enc:=A0w.row) (e:=159) (sz:=2) (news:=[⟨A4N (A1N L) l n,x.label⟩]) B0J B4t B0T (λ_=>rfl) a5 (by simp[A0D,A0w.row]) (by simp;omega) rfl ?_;intro v' M3 k1 k2 k3 _;have a9:M.length<M1.length:=(Z0a.1 g).1;refine⟨by intro r hr;simp only[Z0I]at hr;subst hr;exact k2.2 _ (by have:=i.1;omega) (by simp;omega),?_⟩;simp -dsimp;have m:=u.trans i;refine⟨k1,⟨Z0R m.1 k2.1,λj hj _=>?_⟩,λq hq=>?_⟩
   .rw[k2.2 j (by have:=m.1;omega) (by simp;omega)];exact m.2 j hj (by simp)
   .rcases k3 with h|h
    .rw[h]at hq;simp at hq;omega
    .have:=h q hq;have:=m.1;omega
end
open Go.Proofs TryTypes
def A0e.dataX{C}{f}{args}{M}{X}(h:A0e C f args M (λv M'=>Grow M M'/\Still M' M.length (bdd M.length) [v] [X])):A0e C f args M (λd M'=>d=X/\M'=M):=A0e.data (Q:=λd=>d=X) (h.mono λ_ _ h=>⟨h.1,X,h.2,rfl⟩)
def B4J{α:Type}{f:α->List AV}{n}(h:∀x,A1I n (f x)):∀l:List α,A7H n (l.map f)
 |[]=>by simp[A7H]
 |x::l=>by simp only[Z0z,A7H];exact⟨h x,B4J h l⟩
def A6G{α:Type}{f:α->List AV}{n sz}(h:∀x,A1I n (f x))(l:List α):bdd n (.list sz (l.map f) .no):=by simp only[bdd,Z1D];exact B4J h l
def C0j(n:Nat)(x:A0w):A1I n x.row:=by simp[A0w.row,A1I,bdd]
def B2c(n:Nat)(x:IdD):A1I n x.row:=by simp[IdD.row,A1I,bdd]
def A9O(n:Nat)(p:List A0w):bdd n (A5y p):=A6G (C0j n) p
def B4s(n:Nat)(c:A1e):A1I n c.row:=by simp only[A1e.row,A1I,Z1D];exact⟨trivial,A9O n _,trivial,trivial,trivial⟩
def B6q{M}{n sz}{ok:AV->Prop}:Still M n ok [.val (.slice none 0 0)] [.list sz [] .no]:=.nilS .nil
def A2V{α:Type}{M}{n e sz}{enc:α->List AV}{v}{l}(he:∀x,(enc x).length=sz)(hb:∀n x,A1I n (enc x))(h:A1g e sz enc M v l)(hn:A1m n v):Still M n (bdd n) [v] [.list sz (l.map enc) .no]:=Still.rows he (λx c hc=>bddL_mem (hb n x) hc) h hn .nil
where
 bddL_mem {n:Nat}:∀{cs:List AV} {c:AV},A1I n cs->c∈cs->bdd n c
  |d::cs,c,h,hc=>by
   simp only[A1I]at h;rcases Z0s.1 hc with rfl|hc
   .exact h.1
   .exact bddL_mem h.2 hc
abbrev A1l(l:List IdD):List (List AV):=l.map IdD.row
def A2e(s:List A1v):List (List AV):=s.map A1v.row
@[simp] def E1Y(l:List A1v):(A2e l).length=l.length:=by simp[A2e]
@[simp] def E2B{p}{i}(h:i<(A2e p).length):(A2e p)[i]=(p[i]'(by simpa using h)).row:=by simp[A2e]
def C5j{l}{id}{i}(hi:i<l.length)(h:A1U l id=(A1U (l.drop i) id).map (·+i)):A1U l id=if l[i].id=id then some i else(A1U (l.drop (i+1)) id).map (·+(i+1)):=by
 rw[h,Z0j hi,A1U,List.findIdx?_cons];by_cases c:l[i].id=id
 .simp[c]
 .rw[Z0d c,Z0r c];simp only[Z0H,Z1i];show Option.map _ (Option.map _ (A1U (l.drop (i+1)) id))=_;cases A1U (l.drop (i+1)) id with
  |none=>rfl
  |some q=>simp only[Z1C];congr 1;omega
def C6G(l:List A0J)(id:IdD):Int:=match A1U l id with
 |some k=>k
 |none=>-1
def D1p{s:List A1v}{p:A1v->Bool}{i:Nat}(hi:i<s.length)(h:s.find? p=(s.drop i).find? p):s.find? p=if p s[i]=true then some s[i]else(s.drop (i+1)).find? p:=by rw[h,Z0j hi,Z2n];cases p s[i]<;>rfl
def A8A(a b:AV):Prop:=∀f,obj a=some f->obj b≠some f
def A8A.symm{a b}(h:A8A a b):A8A b a:=λf h1 h2=>h f h2 h1
def A8A.nil{b}:A8A (.val (.slice none 0 0)) b:=λf h=>by simp at h
structure Arr {α:Type} (e sz:Nat) (enc:α->List AV) (n:Nat) (M:Mem) (v:AV) (l:List α):Prop where
 own:A1g e sz enc M v l
 lat:A1m n v
section
variable {α β:Type} {e e2 sz sz2 n:Nat} {enc:α->List AV} {enc2:β->List AV} {M M':Mem} {v v' u:AV} {l news:List α} {r:List β}
def Arr.nil:Arr e sz enc n M (.val (.slice none 0 0)) []:=⟨.nil,λf h=>by simp at h⟩
def Arr.keep(h:Arr e sz enc n M v l)(hk:Grow M M'):Arr e sz enc n M' v l:=⟨h.own.keep hk (by simp),h.lat⟩
def Arr.beside(h:Arr e2 sz2 enc2 n M u r)(ha:A8A v u)(hk:A0c (obj v) M M'):Arr e2 sz2 enc2 n M' u r:=⟨h.own.keep hk (λf hf hv=>ha f hv hf),h.lat⟩
def Arr.later(h:Arr e sz enc n M v l)(hn:n<=M.length)(h3:obj v'=obj v\/A1m M.length v'):A1m n v':=λf hf=>by
 rcases h3 with h3|h3
 .exact h.lat f (h3▸hf)
 .have:=h3 f hf;omega
def Arr.apart(h:Arr e2 sz2 enc2 n M u r)(ha:A8A v u)(h3:obj v'=obj v\/A1m M.length v'):A8A v' u:=λf hf hu=>by
 rcases h3 with h3|h3
 .exact ha f (h3▸hf) hu
 .have:=h3 f hf;have:=h.own.lt hu;omega
def Arr.grow{M0}(h:Arr e sz enc M0.length M v l)(hg:Grow M0 M)(hk:A0c (obj v) M M'):Grow M0 M':=⟨Z0R hg.1 hk.1,λi hi _=>by rw[hk.2 i (by have:=hg.1;omega) (λe=>by have:=h.lat _ e;omega)];exact hg.2 i hi (by simp)⟩
end
def Arr.cells{α:Type}{e sz n q t:Nat}{enc:α->List AV}{M M':Mem}{v:AV}{l:List α}{xs:List AV}(h:Arr e sz enc n M v l)(hk:A0c (obj v) M M')(hq:M[q]?=some (.cells t xs)):M'[q]?=some (.cells t xs):=hk.get hq λe=>by
 rcases h.own with⟨rfl,_⟩|⟨f,g,a,rfl,hm,_⟩
 .simp at e
 .simp only[C7V,Z0b]at e;subst e;rw[hm]at hq;simp at hq
abbrev C9u(p:List A0w):List AV:=[A5y p]
structure Tri (M M1:Mem) (v1 v2 v3:AV) (A B:List A1e) (C:List (List A0w)):Prop where
 grow:Grow M M1
 h1:Arr 110 5 A1e.row M.length M1 v1 A
 h2:Arr 110 5 A1e.row M.length M1 v2 B
 h3:Arr 40 1 C9u M.length M1 v3 C
 a12:A8A v1 v2
 a13:A8A v1 v3
 a23:A8A v2 v3
section
variable {M M1 M2:Mem} {v1 v2 v3 v':AV} {A B A' B':List A1e} {C C':List (List A0w)}
def Tri.keep(h:Tri M M1 v1 v2 v3 A B C)(hk:Grow M1 M2):Tri M M2 v1 v2 v3 A B C:=⟨h.grow.trans hk,h.h1.keep hk,h.h2.keep hk,h.h3.keep hk,h.a12,h.a13,h.a23⟩
def Tri.push1(h:Tri M M1 v1 v2 v3 A B C)(q1:A1g 110 5 A1e.row M2 v' A')(q2:A0c (obj v1) M1 M2)(q3:obj v'=obj v1\/A1m M1.length v'):Tri M M2 v' v2 v3 A' B C:=⟨h.h1.grow h.grow q2,⟨q1,h.h1.later h.grow.1 q3⟩,h.h2.beside h.a12 q2,h.h3.beside h.a13 q2,h.h2.apart h.a12 q3,h.h3.apart h.a13 q3,h.a23⟩
def Tri.push2(h:Tri M M1 v1 v2 v3 A B C)(q1:A1g 110 5 A1e.row M2 v' B')(q2:A0c (obj v2) M1 M2)(q3:obj v'=obj v2\/A1m M1.length v'):Tri M M2 v1 v' v3 A B' C:=⟨h.h2.grow h.grow q2,h.h1.beside h.a12.symm q2,⟨q1,h.h2.later h.grow.1 q3⟩,h.h3.beside h.a23 q2,(h.h1.apart h.a12.symm q3).symm,h.a13,h.h3.apart h.a23 q3⟩
def Tri.push3(h:Tri M M1 v1 v2 v3 A B C)(q1:A1g 40 1 C9u M2 v' C')(q2:A0c (obj v3) M1 M2)(q3:obj v'=obj v3\/A1m M1.length v'):Tri M M2 v1 v2 v' A B C':=⟨h.h3.grow h.grow q2,h.h1.beside h.a13.symm q2,h.h2.beside h.a23.symm q2,⟨q1,h.h3.later h.grow.1 q3⟩,h.a12,(h.h1.apart h.a13.symm q3).symm,(h.h2.apart h.a23.symm q3).symm⟩
end
def B3w.keep{l}{L}{a b c}{M M1}(h:B3w l L a b c M)(hk:Grow M M1):B3w l L a b c M1:=by obtain⟨p1,⟨IL,p2,p3⟩,KL,p4,p5⟩:=h;exact⟨p1.keep hk (by simp),⟨IL,p2.keep hk (by simp),p3⟩,KL,p4.keep hk (by simp),λq=>(p5 q).keep hk (by simp)⟩
def B5v(n:Nat)(s:ByteArray):A1I n (A4M s):=by simp[A4M,A1I,bdd]
def B2J(l:List ByteArray):l.map S=l.flatMap A4M:=by
 induction l with
 |nil=>rfl
 |cons a l ih=>rw[Z0z,Z0Y,ih];rfl
def A4x.toT{M M'}{l}{v}(h:A4x M l v M'):A1g 9 1 A4M M' v l/\Grow M M'/\A1m M.length v:=by
 have e:=B2J;obtain⟨h1,h2,h3⟩:=h;refine⟨?_,h2,h3⟩;rcases h1 with⟨rfl,hn⟩|⟨f,g,a,rfl,hm,hl⟩
 .exact .inl ⟨rfl,by simpa using hn⟩
 .rw[Z0G]at*;exact .inr ⟨f,g,a,rfl,by rw[<-e];exact hm,hl⟩
section
variable {l:List ByteArray} {old:List A1e} {names:List (List A0w)} {B:Nat}
def C6a(a:List ByteArray)(s:ByteArray):(A7m a s).length=a.length:=by simp[A7m]
def C0I{xs ys}{s}(hB:17<=B)(hx:∀t∈xs,t.size<=B)(hy:∀t∈ys,t.size<=16)(hn:ys≠[])(hs:s.size<=1):∀t∈A7m (xs++ys) s,t.size<=B:=by
 intro t ht;have hm:=hy _ (C7y (xs:=xs) hn);rcases Z3n ht with h|h
 .rcases Z0S.1 h with h|h
  .exact hx t h
  .have:=hy t h;omega
 .rw[h,Z0J];omega
def C6S(hB:17<=B)(hl:∀t∈l,t.size<=B){i}{out}{e}{r}(ho:∀t∈out,t.size<=B)(h:B5i l old names i out e=some r):(∀t∈r.1,t.size<=B)/\r.1.length<=out.length+l.length+19:=by
 unfold B5i at h;split at h;case h_2=>exact absurd h (by simp)
 rename_i c p hc hp;split at h
 .exact absurd h (by simp)
 rename_i hne;simp only[Z2N]at hne;have hw:∀t∈A4n p,t.size<=16:=B7f;have b:=C2U p;have a:C3l.size=3:=rfl;simp only[Z0b]at h;have h1:∀t∈(if A5c old i=true then out++[C3l]else out++(l.take c.frm.toNat).drop e.toNat),t.size<=B:=by
  intro t ht;split at ht
  .rcases Z0S.1 ht with q|q
   .exact ho t q
   .simp only[Z0I]at q;rw[q,a];omega
  .rcases Z0S.1 ht with q|q
   .exact ho t q
   .exact hl t (Z1k (Z1m q))
 have h2:(if A5c old i=true then out++[C3l]else out++(l.take c.frm.toNat).drop e.toNat).length<=out.length+l.length+1:=by
  split
  .rw[Z0t,Z3F];omega
  .simp only[Z0t,Z1c,Z0D];omega
 generalize(if A5c old i=true then out++[C3l]else out++(l.take c.frm.toNat).drop e.toNat)=X at*;rw[<-h];refine⟨?_,?_⟩
 .simp only;split
  .exact C0I hB h1 hw hne.1 (B4G _)
  .intro t ht;rcases Z0S.1 ht with q|q
   .exact h1 t q
   .have:=hw t q;omega
 .simp only;split
  .rw[C6a,Z0t];omega
  .rw[Z0t];omega
def B8S(hB:17<=B)(hl:∀t∈l,t.size<=B):∀(n i:Nat) (a:List ByteArray) (e:Int),(∀t∈a,t.size<=B)->(∀t∈B5p l old names n i a e,t.size<=B)/\(B5p l old names n i a e).length<=a.length+n*(l.length+19)+l.length
 |0,i,a,e,ho=>by
  rw[B5p];refine⟨λt ht=>?_,by simp only[Z0t,Z1c];omega⟩;rcases Z0S.1 ht with q|q
  .exact ho t q
  .exact hl t (Z1m q)
 |n+1,i,a,e,ho=>by
  rw[B5p];cases hs:B5i l old names i a e with
  |none=>exact⟨hl,by simp only;omega⟩
  |some r=>obtain⟨k1,k2⟩:=C6S hB hl ho hs;obtain⟨q1,q2⟩:=B8S hB hl n (i+1) r.1 r.2 k1;refine⟨q1,?_⟩;simp only;rw[Z0M];omega
def A8u(hB:17<=B)(hl:∀t∈l,t.size<=B):(∀t∈A4W l old names,t.size<=B)/\(A4W l old names).length<=old.length*(l.length+19)+l.length:=by
 unfold A4W;split
 .obtain⟨a,b⟩:=B8S (old:=old) (names:=names) hB hl old.length 0 [] 0 (by simp);exact⟨a,by simpa using b⟩
 .exact⟨hl,by omega⟩
end
section
variable (cs:List A1e) (nm:Nat->List (List A0w))
def B6B(i:Nat)(h:i<cs.length):A7I cs nm (i+1)=A7I cs nm i++(nm i).map λ_=>cs[i]:=by simp[A7I,Z2M,Z1l,h]
def B5R(i:Nat):A9t nm (i+1)=A9t nm i++nm i:=by simp[A9t,Z2M,Z1l]
def A8l(i:Nat)(h:i<cs.length):A2W cs nm (i+1)=A2W cs nm i++if nm i=[]then[cs[i]]else(nm i).map λp=>⟨0,p,⟨#[]⟩,0,0⟩:=by simp[A2W,Z2M,Z1l,h]
def B1R{K}(hk:∀i,(nm i).length<=K):∀i,(A7I cs nm i).length<=i*K
 |0=>by simp[A7I]
 |i+1=>by
  have:=B1R hk i;have:=hk i;by_cases h:i<cs.length
  .rw[B6B cs nm i h,Z0t,Z0G,Z0M];omega
  ·(have e:A7I cs nm (i+1)=A7I cs nm i:=by simp[A7I,Z2M,Z1l,h]);rw[e,Z0M];omega
def C5r{K}(hk:∀i,(nm i).length<=K):∀i,(A9t nm i).length<=i*K
 |0=>by simp[A9t]
 |i+1=>by have:=C5r hk i;have:=hk i;rw[B5R,Z0t,Z0M];omega
def B2Y{K}(hk:∀i,(nm i).length<=K):∀i,(A2W cs nm i).length<=i*(K+1)
 |0=>by simp[A2W]
 |i+1=>by
  have:=B2Y hk i;have:=hk i;by_cases h:i<cs.length
  .rw[A8l cs nm i h,Z0t,Z0M];split
   .simp;omega
   .rw[Z0G];omega
  ·(have e:A2W cs nm (i+1)=A2W cs nm i:=by simp[A2W,Z2M,Z1l,h]);rw[e,Z0M];omega
def D5O{i}{p}(h:p∈A9t nm i):∃j,p∈nm j:=by simp only[A9t,Z1S]at h;obtain⟨j,_,h⟩:=h;exact⟨j,h⟩
end
def A9l{F:IdD->Option A0a}{l}{s}{id}{n}{K}(h:∀m∈s,m.to.length<=K):(A1K F l s id n).length<=K:=by
 have ht:(A8L s id n).length<=K:=by
  unfold A8L;split
  .rename_i m hm;exact h m (Z2A hm)
  .simp
 unfold A1K;split
 .rw[Z0G];exact ht
 .simp
def B8P{F:IdD->Option A0a}{l}(hs:∀s∈l,s.good):∀f n,∀x∈A4C F l f n,x.lab.size<=maxLen
 |0,n,x,hx=>by simp only[A4C,Z0I]at hx;subst hx;simp[A3n,maxLen,ByteArray.size]
 |f+1,n,x,hx=>by
  rw[A4C]at hx;split at hx
  .simp only[Z0I]at hx;subst hx;simp[A3n,maxLen,ByteArray.size]
  .rcases Z0S.1 hx with h|h
   .exact B8P hs f _ x h
   .simp only[Z0I]at h;subst h;simp only[A5J];split
    .rename_i s hs';exact(hs _ (Z2O hs')).2.2
    .simp[maxLen,ByteArray.size]
def C0R{F:IdD->Option A0a}{l}{s}{id}{n}(hl:l.length<=1000)(hs:∀s∈l,s.good):∀p∈A1K F l s id n,A7b p:=by
 intro p hp;unfold A1K at hp;split at hp
 .obtain⟨y,_,rfl⟩:=Z0C.1 hp;refine⟨?_,B8P hs _ _⟩;have:=B6a F l ((A1U l y).getD 0+1) (((A1U l y).getD 0:Nat):Int);have:(A1U l y).getD 0<=l.length:=by
   cases h:A1U l y with
   |none=>simp
   |some k=>have:=(Z2K.1 h).1;simp only[Z1w];omega
  omega
 .simp at hp
def isM(id:IdD)(n:Int)(m:A1v):Bool:=decide (m.at_=id)&&decide (m.n=n)
def D8o(s:List A1v)(id:IdD)(n:Int):A8L s id n=match s.find? (isM id n)with|some m=>m.to|none=>[]:=rfl
def C1L{α:Type}(p:α->Bool):∀(l:List α) (j:Nat),(A3i p l j=-1/\l.find? p=none)\/∃k:Nat,A3i p l j=((j+k:Nat):Int)/\∃h:k<l.length,l.find? p=some l[k]
 |[],j=>.inl ⟨rfl,rfl⟩
 |x::l,j=>by
  rw[A3i,Z2n];cases c:p x with
  |true=>exact .inr ⟨0,by simp,by simp,by simp⟩
  |false=>
   simp only[Z0H,Z1i];rcases C1L p l (j+1)with h|⟨k,h1,h2,h3⟩
   .exact .inl h
   .exact .inr ⟨k+1,by rw[h1];congr 1;omega,by simpa using h2,by rw[h3];simp⟩
def C3c{α:Type}{p:α->Bool}{l}{i}(hi:i<l.length)(h:A3i p l 0=A3i p (l.drop i) i):A3i p l 0=if p l[i]=true then(i:Int)else A3i p (l.drop (i+1)) (i+1):=by rw[h,Z0j hi,A3i]
section
variable (gl:Nat->AV)
def E1p(m:A1v)(id:IdD)(n:Int)(M:Mem):A0e (WC gl) 223 [.agg m.row,.cptr [I id.act,I id.item,I id.n],.cptr [I n]] M (λv M'=>v=B (isM id n m)/\M'=M):=by
 refine A0n hB func223 ?_;have he:=B4S m.at_ id;by_cases c:m.at_=id
 .rw[Z0w c]at he;simp -dsimp[A1v.row,he,isM,Z0w c];rfl
 .rw[Z0r c]at he;simp -dsimp[A1v.row,he,isM,c]
def D8c(s:List A1v)(id:IdD)(n:Int)(M:Mem)(hl:s.length<=1000):A0e (WC gl) 222 [.list 5 (A2e s) .no,.func (.func 223) [] [.cptr [I id.act,I id.item,I id.n],.cptr [I n]]] M (λv M'=>v=I (A3i (isM id n) s 0)/\M'=M):=by
 refine A0n hB func222 ?_;simp -dsimp;refine A0B hB s.length 8 (λT M1=>∃i:Nat,M1=M/\i<=s.length/\T 0=.list 5 (A2e s) .no/\T 1=.func (.func 223) [] [.cptr [I id.act,I id.item,I id.n],.cptr [I n]]/\T 7=I s.length/\T 8=I i/\A3i (isM id n) s 0=A3i (isM id n) (s.drop i) i) ?_ ?_
 .exact⟨0,rfl,by omega,by simp,by simp,by simp,by simp,by simp⟩
 rintro T M1 ⟨i,rfl,h1,t0,t1,t7,t8,h2⟩;by_cases hi:i<s.length
 .have a:(i:Int)<s.length:=by omega
  have w1:=A1H (i:=i) (by omega);have h3:=C3c hi h2;have hm:=E1p gl s[i] id n M1;simp only[A1v.row]at hm;simp -dsimp[t0,t1,t7,t8,hi,a,A1v.row];refine A0h func223 hm ?_;cases c:isM id n s[i]with
  |true=>rw[c,Z0e rfl]at h3;simp -dsimp[t0,t1,t7,t8,h3]
  |false=>rw[c,Z0d (by simp)]at h3;simp -dsimp[t0,t1,t7,t8,w1];exact⟨⟨i+1,by clear w1;omega,rfl,h3⟩,by clear w1;omega⟩
 .have a:¬(i:Int)<s.length:=by omega
  rw[Z0v (by omega)]at h2;simp -dsimp[t0,t1,t7,t8,a,h2,A3i]
def E0M:A8F prog 3=some (I 0):=D6G
def C8w(F:IdD->Option A0a)(s:List A1v)(l:List A0J)(L:List (IdD×A0a))(hF:A1N L=F)(a b c:Nat)(id:IdD)(n:Int)(M:Mem)(hP:B3w l L a b c M)(hl:l.length<=1000)(hs:s.length<=1000)(ht:∀m∈s,m.to.length<=1000)(a5:∀j,j<l.length->B1u l j):A0e (WC gl) 176 [B2e l a b c,.list 5 (A2e s) .no,.agg id.row,I n] M (λv M'=>v=.list 1 (A7h (A1K F l s id n)) .no/\M'=M):=by
 subst hF
 refine A0e.dataX ?_
 refine A0n (hQ [44]) func176 ?_
 simp -dsimp[IdD.row]
 refine A0h func222 (D8c gl s id n M hs) ?_
 have f:=D8o s id n
 rcases C1L (isM id n) s 0 with⟨h1,h2⟩|⟨k,h1,h2,h3⟩
 .rw[h2]at f;have hn:A1K (A1N L) l s id n=[]:=by simp[A1K,f]
  simp -dsimp[h1];rw[hn];exact⟨Grow.refl _,B6q⟩
 rw[h3]at f
 simp only at f
 obtain⟨T0,a1⟩:∃t,t=s[k].to:=⟨_,rfl⟩
 rw[<-a1]at f
 have ac:T0.length<=1000:=by rw[a1];exact ht _ (Z0o h2)
 rw[Z0N]at h1
 have k1:¬(k:Int)<0:=by omega
 have k2:(k:Int)<s.length:=by omega
 simp -dsimp[h1,k1,k2,h2,A1v.row]
 rw[<-a1]
 obtain⟨IL,aa,a8⟩:=hP.ix
 refine A0B (hQ [44]) T0.length 26 (λT M1=>∃i:Nat,Grow M M1/\i<=T0.length/\T 4=.cptr [.list 5 (A1L l) .no,.mapr a,.mapr b,.mapr c]/\T 24=.list 3 (A1l T0) .no/\T 25=I T0.length/\T 26=I i/\(∀y∈T0.take i,(A1U l y).isSome=true)/\A1g 40 1 C9u M1 (T 10) ((T0.take i).map λy=>A4C (A1N L) l ((A1U l y).getD 0+1) ((A1U l y).getD 0:Nat))/\A1m M.length (T 10)) ?_ ?_
 .refine⟨0,Grow.refl _,by omega,by simp,by simp,by simp,by simp,by simp,?_,?_⟩
  .simp only[Z2w,Z2b];exact .inl ⟨by simp,rfl⟩
  .simp[A1m]
 rintro T M1 ⟨i,hg,i1,t4,w,r,u,x,hv,hL⟩
 generalize g:T 10=ov at*
 by_cases hi:i<T0.length
 .have z:(i:Int)<T0.length:=by omega
  have w1:=A1H (i:=i) (by omega);obtain⟨M2,a0⟩:=ex (M1++[A0m.cells 23 [I T0[i].act,I T0[i].item,I T0[i].n]]);have o:Grow M1 M2:=by rw[a0];exact A0c.app none _ _
  have a2:M2[M1.length]?=some (A0m.cells 23 [I T0[i].act,I T0[i].item,I T0[i].n]):=by rw[a0];simp
  have a7:=(aa.keep hg (by simp)).keep o (by simp);have a9:=(hP.units.keep hg (by simp)).keep o (by simp);have a6:=hv.keep o (by simp);have d:=a7.get (A9d 93 3 (by kernel_rfl)) T0[i] E0M true;simp only[A3c,IdD.row,a8]at d;have ab:A1K (A1N L) l s id n=if(T0.all λy=>(A1U l y).isSome)=true then T0.map λy=>A4C (A1N L) l ((A1U l y).getD 0+1) ((A1U l y).getD 0:Nat)else[]:=by simp only[A1K,f]
  simp -dsimp[t4,w,r,u,hi,z,IdD.row,A0k,A0i,A0d];rw[<-a0];cases hsl:A1U l T0[i]with
  |none=>rw[hsl]at d;(have hn:A1K (A1N L) l s id n=[]:=by rw[ab,Z0d];rw[Z0p];intro h;have:=h T0[i] (Z0o hi);rw[hsl]at this;exact absurd this (by simp));simp -dsimp[t4,w,r,u,A0b a2,d];rw[hn];exact⟨hg.trans o,B6q⟩
  |some q=>
   rw[hsl]at d;(have hq:q<l.length:=by have:=Z2K.1 hsl;exact this.1);have a4:=A0e.still (enc:=A0w.row) (sz:=2) (λ_=>rfl) C0j (D3H gl l L a b c hl a5 (q+1) q M2 (by omega) (by omega) (by omega) a9);simp -dsimp[t4,w,r,u,A0b a2,d,g];refine A0h func224 a4 ?_;simp -dsimp[g,A0l,A0M];refine A3B (C:=WC gl) (enc:=C9u) (e:=40) (sz:=1) (news:=[A4C (A1N L) l (q+1) (q:Nat)]) D5S D9B D9z (λ_=>rfl) a6 (by simp[A0D]) (by simp;omega) rfl ?_;intro v' M3 q1 q2 q3 _;obtain⟨r1,r2⟩:=A2T (X:=[]) (hg.trans o) hL (by simpa using q2) (by simpa using q3);(have a3:T0.take (i+1)=T0.take i++[T0[i]]:=by rw[Z0A hi]);simp -dsimp[t4,w,r,u,w1];refine⟨⟨r1,i+1,by clear w1;omega,rfl,λy hy=>?_,?_,r2⟩,by clear w1;omega⟩
   .rw[a3]at hy;rcases Z0S.1 hy with h|h
    .exact x y h
    .simp only[Z0I]at h;rw[h,hsl];rfl
   .rw[<-Z1u,a3,Z0U];simp only[Z0z,Z2b,hsl,Z1w];exact q1
 .have z:¬(i:Int)<T0.length:=by omega
  rw[Z0g (by omega)]at hv x;have hn:A1K (A1N L) l s id n=T0.map λy=>A4C (A1N L) l ((A1U l y).getD 0+1) ((A1U l y).getD 0:Nat):=by simp only[A1K,f];rw[Z0e (Z0p.2 x)]
  rw[<-hn]at hv;simp -dsimp[t4,w,r,u,z,g];exact⟨hg,A2V (λ_=>rfl) (λn p=>by simp only[C9u,A1I,Z1D];exact A9O n p) hv hL⟩
end
end Go.Abs
