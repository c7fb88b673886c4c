/- The texts CvE, CvF, CvG, CvH, CvI, CvJ, CvK, CvL, CvP, CvM, CvN, CvO, CvQ, CvR, CvT, CvU. -/
import Derived.Test.YtmpdkagfplajjaaGreatDoorEG28
set_option linter.all false
set_option maxRecDepth 100000
namespace Go.Abs
open Go.Proofs TryTypes Tryz
section
variable (gl:Nat->AV) (M:Mem)
def E0Z(s:ByteArray)(hs:s.size<=maxLen):A0e (WC gl) 193 [S s] M (λv M'=>v=B (A4z s)/\M'=M):=by
 refine A0m hB func193 ?_;by_cases h1:s.size<1
 .have d:(s.size:Int)<1:=by omega
  have hw:A4z s=false:=by simp[A4z];omega
  simp -dsimp -implicitDefEqProofs[d,hw]
 have d:¬(s.size:Int)<1:=by omega
 by_cases h2:s.size<=24;case neg=>
  have a:(24:Int)<s.size:=by omega
  have e:(s.size:Int)>24:=a;have hw:A4z s=false:=by simp[A4z,h2]
  simp -dsimp -implicitDefEqProofs[d,a,e,hw]
 have a:¬(24:Int)<s.size:=by omega
 have e:¬(s.size:Int)>24:=a;have hw:A4z s=decide (A2a (A1A 33 126) s s.size 0<0):=by
  have:1<=s.size:=by omega
  simp[A4z,h2,this]
 simp -dsimp -implicitDefEqProofs[d,a,e];refine A0F hB s.size 3 (λT M1=>∃i:Nat,i<=s.size/\M1=M/\T 0=S s/\T 3=I i/\A2a (A1A 33 126) s s.size 0=A2a (A1A 33 126) s (s.size-i) i) ?_ ?_
 .exact⟨0,by omega,rfl,by simp,by simp,by simp⟩
 .rintro T M1 ⟨i,i1,rfl,t0,t3,ho⟩;by_cases hi:i<s.size
  ·(have b:(i:Int)<s.size:=by omega);have w1:IntKind.i64.wrap ((i:Int)+1)=(i+1:Nat):=by rw[A0Z (by omega) (by omega)];omega
   rw[B7s _ _ hi]at ho;generalize hc:A1I s i=c at*;by_cases c1:c<33
   ·(have hp:A1A 33 126 c=true:=by simp[A1A,c1]);rw[hp,Z0d rfl]at ho
    (have hn:¬A2a (A1A 33 126) s s.size 0<0:=by rw[ho];omega);rw[Z0z hn]at hw
    simp -dsimp -implicitDefEqProofs[t0,t3,hi,b,hc,c1,hw]
   .by_cases c2:c>126
    ·(have hp:A1A 33 126 c=true:=by simp[A1A];omega);rw[hp,Z0d rfl]at ho
     (have hn:¬A2a (A1A 33 126) s s.size 0<0:=by rw[ho];omega);rw[Z0z hn]at hw
     have f:126<c:=c2;simp -dsimp -implicitDefEqProofs[t0,t3,hi,b,hc,c1,c2,f,hw]
    ·(have hp:A1A 33 126 c=false:=by simp[A1A];omega);rw[hp,Z0e (by simp)]at ho
     have f:¬126<c:=c2;simp -dsimp -implicitDefEqProofs[t0,t3,hi,b,hc,c1,c2,f,w1];exact⟨⟨i+1,by clear w1;omega,rfl,ho⟩,by clear w1;omega⟩
  ·(have b:¬(i:Int)<s.size:=by omega);rw[show s.size-i=0 by omega]at ho
   (have hn:A2a (A1A 33 126) s s.size 0<0:=by rw[ho,A2a];omega);rw[Z0w hn]at hw
   simp -dsimp -implicitDefEqProofs[t0,t3,b,hw]
def D4E(M:Mem)(l:List ByteArray)(v:AV)(M':Mem):Prop:=A1l 9 1 A6I M' v l/\Grow M M'/\A1m M.length v
def D1U(ws:List A0M)(o:Own)(hl:ws.length<=100000000):A0e (WC gl) 33 [.list 4 (A0i ws) o] M (D4E M (A0H ws)):=by
 refine A0m (hQ [5,19]) func33 ?_;simp -dsimp -implicitDefEqProofs;refine A0F (hQ [5,19]) ws.length 4 (λT M1=>∃i:Nat,i<=ws.length/\T 0=.list 4 (A0i ws) o/\T 4=I i/\A1l 9 1 A6I M1 (T 3) (A0H (ws.take i))/\Grow M M1/\A1m M.length (T 3)) ?_ ?_
 .refine⟨0,by omega,by simp,by simp,?_,A0c.app none M _,by simp[A1m]⟩;refine .inr ⟨M.length,0,[(0,0)],by simp[A0H],by simp[A0H],by simp[A0H,List.lookup]⟩
 .rintro T M1 ⟨i,i1,t0,t4,hv,hg,hL⟩;by_cases hi:i<ws.length
  ·(have a:(i:Int)<ws.length:=by omega);have w1:IntKind.i64.wrap ((i:Int)+1)=(i+1:Nat):=by rw[A0Z (by omega) (by omega)];omega
   generalize b:T 3=ov at*;(have ht:A0H (ws.take (i+1))=A0H (ws.take i)++[ws[i].text]:=by rw[A0H,A0H,Z1H,Z0k hi,Z0S];rfl);simp -dsimp -implicitDefEqProofs[t0,t4,hi,a,b,A0M.row,A0q,A1f];refine C1C gl hv (by simp[A0H];omega) rfl ?_;intro v' M' h1 h2 h3;obtain⟨k1,k2⟩:=A2V (X:=[]) hg hL (by simpa using h2) (by simpa using h3);simp -dsimp -implicitDefEqProofs[t0,t4,w1];exact⟨⟨i+1,by clear w1;omega,rfl,by rw[ht];exact h1,k1,k2⟩,by clear w1;omega⟩
  ·(have a:¬(i:Int)<ws.length:=by omega);rw[Z0j (by omega)]at hv
   simp -dsimp -implicitDefEqProofs[t0,t4,a,D4E,hv,hg,hL]
end
def A9i(l:List Int):List (List AV):=l.map λx=>[I x]
@[simp] def E0N(l:List Int):(A9i l).length=l.length:=by simp[A9i]
@[simp] def E0H{p}{i}(h:i<(A9i p).length):(A9i p)[i]=[I (p[i]'(by simpa using h))]:=by simp[A9i]
def A2u:AV:=.cptr (A9c.map λl=>.list 1 (A9i l) .no)
def A8Z:List ByteArray:=[⟨#[98,111,111,107]⟩,⟨#[112,97,114,116]⟩,⟨#[115,101,99,116,105,111,110]⟩,⟨#[112,97,114,97,103,114,97,112,104]⟩,⟨#[116,97,98,108,101]⟩,⟨#[114,111,119]⟩,⟨#[99,101,108,108]⟩,⟨#[110,111,116,101]⟩]
def A2J:AV:=.cptr (A8Z.map S)
section
variable (gl:Nat->AV) (M:Mem)
def D0f(l:List Int)(o:Own)(hl:l.length<=1000)(x:Int):A0e (WC gl) 261 [.list 1 (A9i l) o,I x] M (λv M'=>v=I (A3t (λy=>decide (x=y)) l 0)/\M'=M):=by
 refine A0m hB func261 ?_;simp -dsimp -implicitDefEqProofs;refine A0F hB l.length 8 (λT M1=>∃i:Nat,i<=l.length/\M1=M/\T 0=.list 1 (A9i l) o/\T 1=I x/\T 7=I l.length/\T 8=I i/\A3t (λy=>decide (x=y)) l 0=A3t (λy=>decide (x=y)) (l.drop i) i) ?_ ?_
 .exact⟨0,by omega,rfl,by simp,by simp,by simp,by simp,by simp⟩
 .rintro T M1 ⟨i,i1,rfl,t0,t1,t7,t8,ho⟩;by_cases hi:i<l.length
  ·(have a:(i:Int)<l.length:=by omega);have w1:=A2s (i:=i) (by omega)
   have hd:l.drop i=l[i]::l.drop (i+1):=Z0l hi;rw[hd,A3t]at ho;by_cases hp:x=l[i]
   .rw[Z0w hp,Z0d rfl]at ho;simp -dsimp -implicitDefEqProofs[t0,t1,t7,t8,hi,a,hp.symm,ho]
   .rw[Z0z hp,Z0e (by simp)]at ho;simp -dsimp -implicitDefEqProofs[t0,t1,t7,t8,hi,a,hp,w1];exact⟨⟨i+1,by clear w1;omega,rfl,ho⟩,by clear w1;omega⟩
  ·(have a:¬(i:Int)<l.length:=by omega);rw[show l.drop i=[]from Z0x (by omega)]at ho
   simp -dsimp -implicitDefEqProofs[t0,t1,t7,t8,a,ho,A3t]
def C2r(l:List Int)(o:Own)(hl:l.length<=1000)(x:Int):A0e (WC gl) 205 [.list 1 (A9i l) o,I x] M (λv M'=>v=B (l.contains x)/\M'=M):=by
 refine A0m hB func205 ?_;simp -dsimp -implicitDefEqProofs;refine A0g func261 (D0f gl M l o hl x) ?_;have:l.contains x=l.any λy=>decide (x=y):=by rw[List.contains_eq_any_beq];congr 1
 rw[this,<-A7Z _ l 0];simp -dsimp -implicitDefEqProofs
def D8s:C4w prog 242=some (8,130):=by kernel_rfl
def D8v:C4w prog 278=some (8,9):=by kernel_rfl
def D2e{h}{d}{y}{t:TypeId}{p}{af}{g}{ρ:Operand->AV}{M}{k}(h0:ρ (.global 0)=A2u)(hy:ρ y=I k)(k0:0<=k)(k8:k<8):A0w (WC gl) h ⟨d,.indexAddr 242 (.global 0) y,t,p,af,g⟩ ρ M=some (.cptr ((A9c.map λl=>AV.list 1 (A9i l) .no).drop k.toNat),M):=by simp[A0w,A0n,A0T,A0P,A0B,h0,hy,A2u,D8s,k0,k8]
def D2c{h}{d}{y}{t:TypeId}{p}{af}{g}{ρ:Operand->AV}{M}{k}(h0:ρ (.global 1)=A2J)(hy:ρ y=I k)(k0:0<=k)(k8:k<8):A0w (WC gl) h ⟨d,.indexAddr 278 (.global 1) y,t,p,af,g⟩ ρ M=some (.cptr ((A8Z.map S).drop k.toNat),M):=by simp[A0w,A0n,A0T,A0P,A0B,h0,hy,A2J,D8v,k0,k8]
def C5x{e}{x i}{cs}(h:x=.cptr cs):A6a e x i=none:=by subst h;unfold A6a;split<;>simp_all
def A8X(hg:gl 0=A2u)(p k:Int):A0e (WC gl) 152 [I p,I k] M (λv M'=>v=B (A4v p k)/\M'=M):=by
 refine A0m hB func152 ?_;by_cases h0:0<=p;case neg=>
  have b:¬p>=0:=h0;have e:A4v p k=false:=by simp[A4v,h0]
  simp -dsimp -implicitDefEqProofs[h0,b,e]
 have b:p>=0:=h0;by_cases h1:p<8;case neg=>
  have e:A4v p k=false:=by simp[A4v,h1]
  simp -dsimp -implicitDefEqProofs[h0,b,h1,e]
 have hn:∀e,A6a e (gl 0) (I p)=none:=λe=>C5x hg;simp -dsimp -implicitDefEqProofs[h0,b,h1,hn];rw[D2e gl (k:=p) (by exact hg) (by rfl) h0 h1];have c:p.toNat<A9c.length:=by show p.toNat<8;omega
 have hd:(A9c.map λl=>AV.list 1 (A9i l) .no).drop p.toNat=.list 1 (A9i A9c[p.toNat]) .no::(A9c.map λl=>AV.list 1 (A9i l) .no).drop (p.toNat+1):=by rw[Z0l (by simpa using c),Z2b]
 have a:∀l∈A9c,l.length<=1000:=by decide
 have e:A4v p k=A9c[p.toNat].contains k:=by simp only[A4v,Z0w h0,Z0w h1,Z0J,Z1v,Z0k c,Z1B]
 rw[e];simp -dsimp -implicitDefEqProofs[hd];refine A0g func205 (C2r gl M _ .no (a _ (Z0y c)) k) ?_;simp -dsimp -implicitDefEqProofs
def A4A(k:Int):ByteArray:=if 0<=k/\k<8 then A8Z.getD k.toNat .empty else⟨#[]⟩
def A6f(k:Int):A4A k=⟨#[]⟩<->¬(0<=k/\k<8):=by
 unfold A4A;constructor
 .intro h hk;rw[Z0d hk]at h;have:∀i:Fin 8,A8Z.getD i.val .empty≠⟨#[]⟩:=by decide
  exact this ⟨k.toNat,by omega⟩ h
 .intro h;rw[Z0e h]
def B1a(hg:gl 1=A2J)(k:Int):A0e (WC gl) 207 [I k] M (λv M'=>v=S (A4A k)/\M'=M):=by
 refine A0m hB func207 ?_;by_cases h0:k<0
 .have e:A4A k=⟨#[]⟩:=(A6f k).2 (by omega);simp -dsimp -implicitDefEqProofs[h0,e]
 by_cases h1:8<=k
 .have a:k>=8:=h1;have e:A4A k=⟨#[]⟩:=(A6f k).2 (by omega);simp -dsimp -implicitDefEqProofs[h0,h1,a,e]
 have a:¬k>=8:=h1;have hn:∀e,A6a e (gl 1) (I k)=none:=λe=>C5x hg;simp -dsimp -implicitDefEqProofs[h0,h1,a,hn];rw[D2c gl (k:=k) (by exact hg) (by rfl) (by omega) (by omega)];have b:k.toNat<A8Z.length:=by show k.toNat<8;omega
 have hd:(A8Z.map S).drop k.toNat=S A8Z[k.toNat]::(A8Z.map S).drop (k.toNat+1):=by rw[Z0l (by simpa using b),Z2b]
 have e:A4A k=A8Z[k.toNat]:=by rw[A4A,Z0d (by omega),Z1v,Z0k b];rfl
 rw[e];simp -dsimp -implicitDefEqProofs[hd]
end
open Go.Proofs TryTypes
section
mutual
def A4w{A:Type}(p:A0a->Bool)(stp:A->A0a->A):A0a->A->Bool×A
 |.mk id k l h w ks,a=>if p (.mk id k l h w ks)then A3v p stp ks (stp a (.mk id k l h w ks))else(false,stp a (.mk id k l h w ks))
def A3v{A:Type}(p:A0a->Bool)(stp:A->A0a->A):List A0a->A->Bool×A
 |[],a=>(true,a)
 |u::l,a=>if(A4w p stp u a).1 then A3v p stp l (A4w p stp u a).2 else(false,(A4w p stp u a).2)
end
section
variable (gl:Nat->AV)
end
end
abbrev C2Y(x:Int×ByteArray):AV:=.agg [I x.1,S x.2]
abbrev A2C(x:IdD):AV:=.agg x.row
def D4F:prog.stoodInHeld 247=false:=by kernel_rfl
def D6M:prog.stoodInHeld 23=false:=by kernel_rfl
def D7k{a b:ByteArray}:(a.data==b.data)=decide (a=b):=by
 by_cases h:a=b
 .subst h;simp
 .rw[Z0z h];refine Z1b.2 λe=>h ?_;cases a;cases b;simp only at e;rw[e]
def D5Y(a:ByteArray):(a==a)=true:=by show(a.data==a.data)=true;simp
def D7g{x y:Int}(h:¬x=y):(x==y)=false:=Z1b.2 h
def C1v:C0O prog 245 247 4 C2Y:=by
 refine⟨by kernel_rfl,by kernel_rfl,λk=>?_,λa b=>?_,λa=>⟨.agg #[.int .i64 a.1,.string a.2],by simp[A6Z],?_⟩⟩
 .simp[A4V,A0h,underlying247]
 .obtain⟨x,s⟩:=a;obtain⟨y,t⟩:=b;simp[B2q,A3H,A0h,D4F];rw[D7k];by_cases h1:x=y
  .subst h1;by_cases h2:s=t
   .subst h2;simp
   .simp[h2]
  .simp[h1,D7g h1]
 .simp[Instr.sameBits,D5Y]
def A8D(t e:TypeId)(c:A7m prog t=some (23,e)):C0O prog t 23 e A2C:=by
 refine⟨c,by kernel_rfl,λk=>?_,λa b=>?_,λa=>⟨.agg #[.int .i64 a.act,.int .i64 a.item,.int .i64 a.n],by simp[A6Z,IdD.row],?_⟩⟩
 .simp[A4V,A0h,IdD.row]
 .obtain⟨x,y,z⟩:=a;obtain⟨x',y',z'⟩:=b;simp[B2q,A3H,A0h,D6M,IdD.row];by_cases h1:x=x'
  .subst h1;by_cases h2:y=y'
   .subst h2;by_cases h3:z=z'
    .subst h3;simp
    .simp[h3,D7g h3]
   .simp[h2,D7g h2]
  .simp[h1,D7g h1]
 .simp[Instr.sameBits]
def B9v(t e:TypeId)(c:A7m prog t=some (3,e)):C0O prog t 3 e I:=by
 refine⟨c,by kernel_rfl,λk=>?_,λa b=>?_,λa=>⟨.int .i64 a,by simp[A6Z],?_⟩⟩
 .simp[A4V]
 .simp[B2q];by_cases h1:a=b
  .subst h1;simp
  .simp[h1]
 .simp[Instr.sameBits]
@[simp] def E3k{a}{b}:A0D prog 247 [(0,I a),(1,S b)]=some (.agg [I a,S b]):=by
 simp[A0D,A1k,A1E,A0d]
@[simp] def C9h:A0D prog 23 []=some (.agg [I 0,I 0,I 0]):=by
 simp[A0D,A1k]
def B5p{K:Type}[DecidableEq K](c:K):∀A1a:List K,A1C (A1a.map λx=>(x,true)) c=if(A1a.any λy=>decide (y=c))then some true else none
 |[]=>rfl
 |x::l=>by
  rw[Z0t,A1C,Z2Z];by_cases h:c=x
  .subst h;simp
  .rw[Z0e h,Z0z (λe=>h e.symm),Z1K];exact B5p c l
def B5e{K:Type}[DecidableEq K](c:K):∀A1a:List K,(A1a.any λy=>decide (y=c))=false->A7N (A1a.map λx=>(x,true)) c true=(A1a++[c]).map λx=>(x,true)
 |[],_=>rfl
 |x::l,h=>by
  rw[Z2Z,Z2e]at h;have h1:¬c=x:=λe=>by subst e;simp at h
  rw[Z0t,A7N,Z0e h1,B5e c l h.2];rfl
def B9N(u:A0a):Bool:=if u.kind=0 then decide (u.label.size=0)&&decide (u.head.length+u.words.length=0)else decide (0<=u.kind/\u.kind<8)&&A0X u.label&&A5F u.head&&A5F u.words
def A8c(kind:Int):List A0a->List (Int×ByteArray)->Bool
 |[],_=>true
 |k::ks,A1a=>A4v kind k.kind&&!(A1a.any λy=>decide (y=(k.kind,k.label)))&&A8c kind ks (A1a++[(k.kind,k.label)])
def A8N(u:A0a):Bool:=B9N u&&A8c u.kind u.kids []&&decide (u.kids.length<=64)
def A0a.lim(u:A0a):Prop:=u.head.length<=100000000/\u.words.length<=100000000/\u.kids.length<=1000/\u.label.size<=1000
section
variable (gl:Nat->AV) (M:Mem)
set_option maxHeartbeats 1000000 in
def D4r(an:gl 0=A2u)(af:gl 1=A2J)(u:A0a)(hg:u.good)(hl:u.lim):A0e (WC gl) 156 [.agg u.row] M (λv M'=>v=B (A8N u)/\Grow M M'):=by
 obtain⟨id,kind,b,hd,ws,ks⟩:=u;obtain⟨_,_,_,_,al,_,ao,_,aq⟩:=(A0a.good_iff _).1 hg;obtain⟨a5,a4,ag,ac⟩:=hl;have a5:hd.length<=100000000:=a5;have a4:ws.length<=100000000:=a4;have ag:ks.length<=1000:=ag;have ac:b.size<=1000:=ac;have ad:(A0a.mk id kind b hd ws ks).row=[I id.act,I id.item,I id.n,I kind,S b,.list 4 (A0i hd) .no,.list 4 (A0i ws) .no,.list 8 (A0u ks) .no]:=by rw[A0a.row]
 have a6:A8N (.mk id kind b hd ws ks)=(B9N (.mk id kind b hd ws ks)&&A8c kind ks []&&decide (ks.length<=64)):=rfl;have d:B9N (.mk id kind b hd ws ks)=if kind=0 then decide (b.size=0)&&decide (hd.length+ws.length=0)else decide (0<=kind/\kind<8)&&A0X b&&A5F hd&&A5F ws:=rfl;rw[ad];obtain⟨R,hR⟩:∃R,R=A8N (.mk id kind b hd ws ks):=⟨_,rfl⟩;rw[<-hR];have a:B9N (.mk id kind b hd ws ks)=false->R=false:=λh=>by rw[hR,a6,h];rfl
 refine A0m hW func156 ?_;by_cases k0:kind=0;case' pos=>
  rw[Z0d k0]at d;by_cases h1:b=⟨#[]⟩;case neg=>have a9:¬b.size=0:=λe=>h1 (A8e.2 e);have:=a (by rw[d,Z0z a9,Z0L]);simp -dsimp -implicitDefEqProofs[Z1T k0,h1,this,A0c.refl]
  have a9:b.size=0:=A8e.1 h1;have wz:IntKind.i64.wrap ((hd.length:Int)+(ws.length:Int))=(hd.length:Int)+(ws.length:Int):=A0Z (by omega) (by omega);by_cases h2:hd.length+ws.length=0;case neg=>
   (have m:(0:Int)<(hd.length:Int)+(ws.length:Int):=by omega);have a7:(hd.length:Int)+(ws.length:Int)>0:=m
   have:=a (by rw[d,Z0z h2,Z3k]);simp -dsimp -implicitDefEqProofs[Z1T k0,Z1T h1,wz,m,a7,this,A0c.refl]
  have m:¬(0:Int)<(hd.length:Int)+(ws.length:Int):=by omega
  have a7:¬(hd.length:Int)+(ws.length:Int)>0:=m;have r:B9N (.mk id kind b hd ws ks)=true:=by rw[d,Z0w a9,Z0w h2];rfl
  have k:Grow M M:=A0c.refl _ _;simp -dsimp -implicitDefEqProofs[Z1T k0,Z1T h1,wz,m,a7]
 case' neg=>
  rw[Z0e k0]at d;by_cases h1:0<=kind/\kind<8;case neg=>have e:A4A kind=⟨#[]⟩:=(A6f kind).2 h1;have:=a (by rw[d,Z0z h1];rfl);simp -dsimp -implicitDefEqProofs[k0];refine A0r func207 (B1a gl M af kind) ?_;rintro _ _ ⟨rfl,rfl⟩;simp -dsimp -implicitDefEqProofs[e,this,A0c.refl]
  have e:¬A4A kind=⟨#[]⟩:=λq=>(A6f kind).1 q h1;rw[Z0w h1,Z0J]at d;simp -dsimp -implicitDefEqProofs[k0];refine A0r func207 (B1a gl M af kind) ?_;rintro _ M0 ⟨rfl,rfl⟩;simp -dsimp -implicitDefEqProofs[e];refine A0r func112 (A9n gl M0 b) ?_;rintro _ M ⟨rfl,k⟩;cases h2:A0X b;case false=>have:=a (by rw[d,h2];rfl);simp -dsimp -implicitDefEqProofs[this,k]
  rw[h2,Z0J]at d;simp -dsimp -implicitDefEqProofs;refine A0r func208 (D4b gl M hd .no a5 (λw hw=>(al w hw).1)) ?_;rintro _ M ⟨rfl,rfl⟩;cases h3:A5F hd;case false=>have:=a (by rw[d,h3];rfl);simp -dsimp -implicitDefEqProofs[this,k]
  rw[h3,Z0J]at d;simp -dsimp -implicitDefEqProofs;refine A0r func208 (D4b gl M ws .no a4 (λw hw=>(ao w hw).1)) ?_;rintro _ M ⟨rfl,rfl⟩;cases h4:A5F ws;case false=>have:=a (by rw[d,h4]);simp -dsimp -implicitDefEqProofs[this,k]
  have r:B9N (.mk id kind b hd ws ks)=true:=by rw[d,h4]
  simp -dsimp -implicitDefEqProofs
 all_goals
  have f:R=(A8c kind ks []&&decide (ks.length<=64)):=by rw[hR,a6,r,Z0J]
  have a3:=λ{X:Mem} (h:Grow M X)=>k.trans h
  clear a a6 d hR r
  refine A0F hW ks.length 49 (λT M1=>∃i:Nat,i<=ks.length/\T 1=.cptr [I id.act,I id.item,I id.n,I kind,S b,.list 4 (A0i hd) .no,.list 4 (A0i ws) .no,.list 8 (A0u ks) .no]/\T 3=.mapr M.length/\T 47=.list 8 (A0u ks) .no/\T 48=I ks.length/\T 49=I i/\Grow M M1/\∃A1a,A1W C2Y B M1 M.length (A1a.map λx=>(x,true))/\A8c kind ks []=A8c kind (ks.drop i) A1a) ?_ ?_
  .exact⟨0,by omega,by simp,by simp,by simp,by simp,by simp,A0c.app none M _,[],A1W.new M,by simp⟩
  .rintro T M2 ⟨i,i1,t1,t3,a2,a1,t,a8,A1a,ai,ho⟩;by_cases hi:i<ks.length
   ·(have s:(i:Int)<ks.length:=by omega);have w1:=A2s (i:=i) (by omega)
    have ak:ks.drop i=ks[i]::ks.drop (i+1):=Z0l hi;rw[ak,A8c]at ho;obtain⟨X,hX⟩:∃X,X=ks[i]:=⟨_,rfl⟩;(have am:ks[i].row=[I X.id.act,I X.id.item,I X.id.n,I X.kind,S X.label,.list 4 (A0i X.head) .no,.list 4 (A0i X.words) .no,.list 8 (A0u X.kids) .no]:=by rw[<-hX];exact X.row_eq);rw[<-hX]at ho;(have ah:(M2++[A0j.cells 27 [I X.id.act,I X.id.item,I X.id.n,I X.kind,S X.label,.list 4 (A0i X.head) .no,.list 4 (A0i X.words) .no,.list 8 (A0u X.kids) .no]])[M2.length]?=some (A0j.cells 27 [I X.id.act,I X.id.item,I X.id.n,I X.kind,S X.label,.list 4 (A0i X.head) .no,.list 4 (A0i X.words) .no,.list 8 (A0u X.kids) .no]):=by simp);simp -dsimp -implicitDefEqProofs[t1,t3,a2,a1,t,hi,s,A0k,A0l,A0d,AV.storable,AV.cells,am,A0b ah];obtain⟨c,hc⟩:∃c:Int×ByteArray,c=(X.kind,X.label):=⟨_,rfl⟩;(have aj:AV.agg [I X.kind,S X.label]=C2Y c:=by rw[hc]);generalize a0:M2++[A0j.cells 27 [I X.id.act,I X.id.item,I X.id.n,I X.kind,S X.label,.list 4 (A0i X.head) .no,.list 4 (A0i X.words) .no,.list 8 (A0u X.kids) .no],A0j.cells 247 [I X.kind,S X.label]]=M3;(have aa:M3[M2.length+1]?=some (A0j.cells 247 [I X.kind,S X.label]):=by rw[<-a0];simp);(have ab:M3[M2.length]?=some (A0j.cells 27 [I X.id.act,I X.id.item,I X.id.n,I X.kind,S X.label,.list 4 (A0i X.head) .no,.list 4 (A0i X.words) .no,.list 8 (A0u X.kids) .no]):=by rw[<-a0];simp);(have ae:Grow M2 M3:=by rw[<-a0];exact A0c.app none _ _);have o:=ai.keep ae (by simp);have g:=a8.trans ae;clear a0 ah;simp -dsimp -implicitDefEqProofs[t1,A0b ab];refine A0r func152 (A8X gl M3 an kind X.kind) ?_;rintro _ _ ⟨rfl,rfl⟩;cases hn:A4v kind X.kind;(case false=>rw[hn,Z0L,Z0L]at ho;rw[ho,Z0L]at f;simp -dsimp -implicitDefEqProofs[t1,f,a3 g]);rw[hn,Z0J]at ho;have p:=o.get C1v c (z:=B false) (by kernel_rfl) false;rw[<-aj]at p;rw[B5p]at p;rw[<-hc]at ho;simp -dsimp -implicitDefEqProofs[t3,A0b aa,p];cases hs:A1a.any λy=>decide (y=c);(case true=>rw[hs,Z2u,Z0L]at ho;rw[ho,Z0L]at f;simp -dsimp -implicitDefEqProofs[t1,f,a3 g]);rw[hs,Z2f,Z0J]at ho;obtain⟨M4,p1,p2,p3⟩:=o.put C1v c true;rw[B5e c A1a hs]at p2;rw[<-aj]at p1;(have ap:Grow M M4:=by refine⟨Z0Q g.1 p3.1,λj hj _=>?_⟩;rw[p3.2 j (by have:=g.1;omega) (by simp;omega)];exact g.2 j hj (by simp));simp -dsimp -implicitDefEqProofs[t3,A0b aa,p1,t1,a2,a1,t,w1];exact⟨⟨i+1,by clear w1;omega,rfl,ap,A1a++[c],p2,ho⟩,by clear w1;omega⟩
   ·(have s:¬(i:Int)<ks.length:=by omega);rw[show ks.drop i=[]from Z0x (by omega),A8c]at ho
    rw[ho,Z0J]at f;by_cases h64:ks.length<=64
    ·(have l:(ks.length:Int)<=64:=by omega);rw[Z0w h64]at f
     simp -dsimp -implicitDefEqProofs[t1,a2,a1,t,s,l,f,a3 a8]
    ·(have l:¬(ks.length:Int)<=64:=by omega);rw[Z0z h64]at f
     simp -dsimp -implicitDefEqProofs[t1,a2,a1,t,s,l,f,a3 a8]
end
def A5Q(u:A0a):Bool:=decide (0<=u.kind/\u.kind<=7)&&decide (u.kids.length<=64)&&A5F u.head&&A5F u.words&&(if u.kind=0 then decide (u.label.size=0)&&decide (u.head.length=0)&&decide (u.words.length=0)else A0X u.label)
def A7l(a b:A0a):Bool:=decide (a.kind=b.kind)&&decide (a.label=b.label)
mutual
def A2W:A0a->Bool
 |.mk id k l h w ks=>A5Q (.mk id k l h w ks)&&A6o k ks []
def A6o(kind:Int):List A0a->List A0a->Bool
 |[],_=>true
 |k::ks,before=>A4v kind k.kind&&A2W k&&!(before.any λa=>A7l a k)&&A6o kind ks (before++[k])
end
mutual
def A0a.lims:A0a->Prop
 |.mk id k l h w ks=>(A0a.mk id k l h w ks).lim/\A6D ks
def A6D:List A0a->Prop
 |[]=>True
 |k::ks=>k.lims/\A6D ks
end
def A3E:∀{l:List A0a},A6D l<->∀u∈l,u.lims
 |[]=>by simp[A6D]
 |u::l=>by simp[A6D,A3E (l:=l)]
section
variable (gl:Nat->AV)
end
mutual
def A0o:A0a->Nat
 |.mk _ _ _ _ _ ks=>1+A0x ks
def A0x:List A0a->Nat
 |[]=>0
 |k::ks=>A0o k+A0x ks
end
mutual
def A1R:A0a->Nat
 |.mk _ _ _ _ _ ks=>A3i ks
def A3i:List A0a->Nat
 |[]=>0
 |k::ks=>max (1+A1R k) (A3i ks)
end
mutual
def A0V:A0a->List IdD
 |.mk id _ _ _ _ ks=>id::A3N ks
def A3N:List A0a->List IdD
 |[]=>[]
 |k::ks=>A0V k++A3N ks
end
mutual
def B9z:∀u:A0a,A1R u<A0o u
 |.mk _ _ _ _ _ ks=>by rw[A1R,A0o];have:=C1j ks;omega
def C1j:∀ks:List A0a,A3i ks<=A0x ks
 |[]=>by rw[A3i,A0x];exact Z0n _
 |k::ks=>by rw[A3i,A0x];have:=B9z k;have:=C1j ks;omega
end
mutual
def A5A:∀u:A0a,(A0V u).length=A0o u
 |.mk _ _ _ _ _ ks=>by rw[A0V,A0o,Z0v,C5r ks];omega
def C5r:∀ks:List A0a,(A3N ks).length=A0x ks
 |[]=>by rw[A3N,A0x];rfl
 |k::ks=>by rw[A3N,A0x,Z0q,A5A k,C5r ks]
end
def A5R(u:A0a):0<A0o u:=by obtain⟨a,b,c,d,e,f⟩:=u;rw[A0o];omega
def A4j:∀{ks:List A0a} {k:A0a},k∈ks->A0o k<=A0x ks
 |[],_,h=>by simp at h
 |x::ks,k,h=>by
  rw[A0x];rcases Z0u.1 h with rfl|h
  .omega
  .have:=A4j h;omega
def A2q:∀ks:List A0a,ks.length<=A0x ks
 |[]=>by simp[A0x]
 |k::ks=>by rw[A0x,Z0v];have:=A5R k;have:=A2q ks;omega
def C4I{ks:List A0a}{i:Nat}(h:i<ks.length):A3i (ks.drop i)=max (1+A1R ks[i]) (A3i (ks.drop (i+1))):=by rw[Z0l h,A3i]
section
variable (gl:Nat->AV)
def B8m:∀(u:A0a) (M:Mem),u.good->A0o u<=1000->A0e (WC gl) 157 [.agg u.row] M (λv M'=>(∃x,v=.val x/\x=.int .i64 (A1R u))/\M'=M)
 |.mk id kind lab hd ws ks,M,hg,hc=>by
  refine A9z ?_;obtain⟨_,_,s,_,q,_,t,_,c⟩:=(A0a.good_iff _).1 hg;have c:∀k∈ks,k.good:=c;have r:1+A0x ks<=1000:=by rwa[A0o]at hc
  have p:=A2q ks;have l:(A0a.mk id kind lab hd ws ks).row=[I id.act,I id.item,I id.n,I kind,S lab,.list 4 (A0i hd) .no,.list 4 (A0i ws) .no,.list 8 (A0u ks) .no]:=by rw[A0a.row]
  have m:A1R (.mk id kind lab hd ws ks)=A3i ks:=by rw[A1R]
  rw[l,m];refine A0m hW func157 ?_;simp -dsimp -implicitDefEqProofs;refine A0F hW ks.length 9 (λT M1=>∃i:Nat,i<=ks.length/\T 7=.list 8 (A0u ks) .no/\T 8=I ks.length/\T 9=I i/\Grow M M1/\∃d:Nat,T 3=I d/\d<=1000/\A3i ks=max d (A3i (ks.drop i))) ?_ ?_
  .exact⟨0,by omega,by simp,by simp,by simp,A0c.refl _ _,0,by simp,by omega,by simp⟩
  .rintro T M1 ⟨i,i1,t7,t8,t9,j,d,t3,d1,ho⟩;by_cases hi:i<ks.length
   ·(have f:(i:Int)<ks.length:=by omega);have w1:=A2s (i:=i) (by omega)
    have b:ks[i]∈ks:=Z0y hi;rw[C4I hi]at ho;have y:=A4j b;have w:=B9z ks[i];(have o:(M1++[A0j.cells 27 ks[i].row])[M1.length]?=some (A0j.cells 27 ks[i].row):=by simp);have h:Grow M (M1++[A0j.cells 27 ks[i].row]):=j.trans (A0c.app none _ _);simp -dsimp -implicitDefEqProofs[t3,t7,t8,t9,hi,f,A0k,A0l,A0d,AV.storable,AV.cells,A0b o];have:=A0a.kid_lt (u:=.mk id kind lab hd ws ks) b;refine A0r func157 (B8m ks[i] _ (c _ b) (by omega)) ?_;rintro _ _ ⟨⟨_,rfl,rfl⟩,rfl⟩;generalize A1R ks[i]=dk at*;(have w2:IntKind.i64.wrap (1+(dk:Int))=((1+dk:Nat):Int):=by rw[A0Z (by omega) (by omega)];omega);obtain⟨e,he⟩:∃e,e=1+dk:=⟨_,rfl⟩;rw[<-he]at w2 ho;by_cases hm:d<e
    ·(have a:(d:Int)<e:=by omega);have g:(e:Int)>d:=a
     simp -dsimp -implicitDefEqProofs[t3,t7,t8,t9,w1,w2,A8y,a,g];exact⟨⟨i+1,by clear w1;omega,rfl,h,e,rfl,by omega,by omega⟩,by clear w1;omega⟩
    ·(have a:¬(d:Int)<e:=by omega);have g:¬(e:Int)>d:=a
     simp -dsimp -implicitDefEqProofs[t3,t7,t8,t9,w1,w2,A8y,a,g];exact⟨⟨i+1,by clear w1;omega,rfl,h,d,rfl,by omega,by omega⟩,by clear w1;omega⟩
   ·(have f:¬(i:Int)<ks.length:=by omega);rw[show ks.drop i=[]from Z0x (by omega),A3i,Nat.max_zero]at ho
    simp -dsimp -implicitDefEqProofs[t3,t7,t8,t9,f,ho,j]
termination_by u=>SizeOf.sizeOf u
end
section
variable (gl:Nat->AV)
def A9u{A:Type}(e:FuncId)(first cap:List AV)(p:A0a->Bool)(b:A->A0a->A)(J:Mem->A->Prop)(K:A->A0a->Prop)(KL:A->List A0a->Prop)(t:∀a u,K a u->KL (b a u) u.kids)(z:∀a k ks,KL a (k::ks)->K a k)(r:∀a k ks,KL a (k::ks)->(A4w p b k a).1=true->KL (A4w p b k a).2 ks)(hJ:∀M a X,J M a->J (M++[.cells 27 X]) a)
 (hv:∀u a M,u.good->K a u->J M a->A3V (WC gl) e (first++.agg u.row::cap) M (λv M'=>v=B (p u)/\J M' (b a u))):
 ∀(u:A0a) (a:A) (M:Mem),u.good->K a u->J M a->A0e (WC gl) 86 [.agg u.row,.func (.func e) first cap] M (λv M'=>v=B (A4w p b u a).1/\J M' (A4w p b u a).2)
 |.mk id kind lab hd ws ks,a,M,hg,hka,hj=>by
  obtain⟨_,_,_,_,_,_,_,hk,l⟩:=(A0a.good_iff _).1 hg;have l:∀k∈ks,k.good:=l;have a4:KL (b a (.mk id kind lab hd ws ks)) ks:=t _ _ hka;have a6:ks.length<=9223372036854775807:=hk;have w:(A0a.mk id kind lab hd ws ks).row=[I id.act,I id.item,I id.n,I kind,S lab,.list 4 (A0i hd) .no,.list 4 (A0i ws) .no,.list 8 (A0u ks) .no]:=by rw[A0a.row]
  have d:A4w p b (.mk id kind lab hd ws ks) a=if p (.mk id kind lab hd ws ks)then A3v p b ks (b a (.mk id kind lab hd ws ks))else(false,b a (.mk id kind lab hd ws ks)):=by rw[A4w]
  have s:=hv _ a M hg hka hj;rw[w]at s|-;refine A0m hW func86 ?_;simp -dsimp -implicitDefEqProofs;refine A4o s ?_;rintro _ M1 ⟨rfl,q⟩;cases hp:p (.mk id kind lab hd ws ks);case false=>rw[hp,Z0e (by simp)]at d;rw[d];simp -dsimp -implicitDefEqProofs[q]
  rw[hp,Z0d rfl]at d;rw[d];generalize b a (.mk id kind lab hd ws ks)=a1 at*;simp -dsimp -implicitDefEqProofs;refine A0F hW ks.length 14 (λT M1=>∃i:Nat,i<=ks.length/\T 1=.func (.func e) first cap/\T 12=.list 8 (A0u ks) .no/\T 13=I ks.length/\T 14=I i/\∃a2,J M1 a2/\KL a2 (ks.drop i)/\A3v p b ks a1=A3v p b (ks.drop i) a2) ?_ ?_
  .exact⟨0,by omega,by simp,by simp,by simp,by simp,a1,q,by simpa using a4,by simp⟩
  .rintro T M2 ⟨i,i1,t1,h,f,g,a2,a0,c,ho⟩;by_cases hi:i<ks.length
   ·(have m:(i:Int)<ks.length:=by omega);have w1:IntKind.i64.wrap ((i:Int)+1)=(i+1:Nat):=by rw[A0Z (by omega) (by omega)];omega
    have j:ks[i]∈ks:=Z0y hi;have o:ks.drop i=ks[i]::ks.drop (i+1):=Z0l hi;rw[o]at c;rw[o,A3v]at ho;(have a5:(M2++[A0j.cells 27 ks[i].row])[M2.length]?=some (A0j.cells 27 ks[i].row):=by simp);simp -dsimp -implicitDefEqProofs[t1,h,f,g,hi,m,A0k,A0l,A0d,AV.storable,AV.cells,A0b a5];have:=A0a.kid_lt (u:=.mk id kind lab hd ws ks) j;refine A0r func86 (A9u e first cap p b J K KL t z r hJ hv ks[i] a2 _ (l _ j) (z _ _ _ c) (hJ _ _ _ a0)) ?_;rintro _ M3 ⟨rfl,y⟩;have a3:=r _ _ _ c;cases hp:(A4w p b ks[i] a2).1
    .rw[hp,Z0e (by simp)]at ho;rw[ho];simp -dsimp -implicitDefEqProofs[t1,h,f,g,y]
    .rw[hp,Z0d rfl]at ho;simp -dsimp -implicitDefEqProofs[t1,h,f,g,w1];exact⟨⟨i+1,by clear w1;omega,rfl,_,y,a3 hp,ho⟩,by clear w1;omega⟩
   ·(have m:¬(i:Int)<ks.length:=by omega);rw[show ks.drop i=[]from Z0x (by omega),A3v]at ho
    rw[ho];simp -dsimp -implicitDefEqProofs[t1,h,f,g,m,a0]
termination_by u=>SizeOf.sizeOf u
end
mutual
def B0n:∀(u:A0a) (a:Nat),A4w (λ_=>true) (λ(a:Nat) _=>a+1) u a=(true,a+A0o u)
 |.mk _ _ _ _ _ ks,a=>by rw[A4w,Z0d rfl,B2K ks,A0o];congr 1;omega
def B2K:∀(ks:List A0a) (a:Nat),A3v (λ_=>true) (λ(a:Nat) _=>a+1) ks a=(true,a+A0x ks)
 |[],a=>by rw[A3v,A0x];rfl
 |k::ks,a=>by rw[A3v,B0n k a,Z0d rfl,B2K ks,A0x];congr 1;omega
end
mutual
def B2W:∀(u:A0a) (a:List IdD),A4w (λ_=>true) (λ(a:List IdD) u=>a++[u.id]) u a=(true,a++A0V u)
 |.mk id _ _ _ _ ks,a=>by rw[A4w,Z0d rfl,B5N ks,A0V];show(true,a++[id]++A3N ks)=_;rw[Z0W];rfl
def B5N:∀(ks:List A0a) (a:List IdD),A3v (λ_=>true) (λ(a:List IdD) u=>a++[u.id]) ks a=(true,a++A3N ks)
 |[],a=>by rw[A3v,A3N,Z1D]
 |k::ks,a=>by rw[A3v,B2W k a,Z0d rfl,B5N ks,A3N,Z0W]
end
def A7g(u:A0a):A0o u=1+A0x u.kids:=by obtain⟨a,b,c,d,e,f⟩:=u;rw[A0o];rfl
section
variable (gl:Nat->AV)
def D1y(u:A0a)(o:Nat)(n:Nat)(hn:n<=1000)(M:Mem)(hM:M[o]?=some (.cells 3 [I n])):A0e (WC gl) 87 [.agg u.row,.ptr o 0] M (λv M'=>v=B true/\M'=M.set o (.cells 3 [I (n+1:Nat)])):=by refine A0m hB func87 ?_;have w1:=A2s (i:=n) (by omega);have a:o<M.length:=(Z0b.1 hM).1;obtain⟨e,he⟩:∃e,e=n+1:=⟨_,rfl⟩;rw[<-he]at w1;rw[<-he];simp -dsimp -implicitDefEqProofs[A0b hM,A0f hM,w1,A0d]
def B1C(u:A0a)(M:Mem)(hg:u.good)(hc:A0o u<=1000):A0e (WC gl) 30 [.agg u.row] M (λv M'=>v=I (A0o u)/\M'=M):=by
 have key:A0e (WC gl) 30 [.agg u.row] M (λv M'=>(∃x,v=.val x/\x=.int .i64 (A0o u))/\Grow M M'):=by
  refine A0m hB func30 ?_;have c:(M++[A0j.cells 3 [I 0]])[M.length]?=some (A0j.cells 3 [I 0]):=by simp
  simp -dsimp -implicitDefEqProofs[A0k,A0l,A0d];refine A0r func86 (A9u gl 87 [] [.ptr M.length 0] (λ_=>true) (λ(a:Nat) _=>a+1) (λM1 a=>M1[M.length]?=some (.cells 3 [I a])/\Grow M M1) (λa u=>a+A0o u<=1000) (λa ks=>a+A0x ks<=1000) ?_ ?_ ?_ ?_ ?_ u 0 _ hg (by omega) ⟨c,A0c.app none _ _⟩) ?_
  .intro a u h;have:=A7g u;omega
  .intro a k ks h;rw[A0x]at h;omega
  .intro a k ks h _;rw[A0x]at h;rw[B0n];show a+A0o k+A0x ks<=1000;omega
  .rintro M1 a X ⟨h1,h2⟩;exact⟨by rw[Z0h (Z0b.1 h1).1];exact h1,h2.trans (A0c.app none _ _)⟩
  .rintro u a M1 e hk ⟨h1,h2⟩;have d:=A5R u;refine(A1T func87 rfl rfl (D1y gl u M.length a (by omega) M1 h1)).mono ?_;rintro _ _ ⟨rfl,rfl⟩;have b:M.length<M1.length:=(Z0b.1 h1).1;exact⟨rfl,by simp[b],⟨by simp;omega,λj hj _=>by rw[Z0f (by omega)];exact h2.2 j hj (by simp)⟩⟩
  .rintro _ M1 ⟨rfl,h1,h2⟩;rw[B0n]at h1|-;simp only[Z0G]at h1;simp -dsimp -implicitDefEqProofs[A0b h1,h2]
 exact(A9z key).mono (by rintro v M' ⟨⟨x,rfl,rfl⟩,rfl⟩;exact⟨rfl,rfl⟩)
end
@[simp] def IdD.row_len(x:IdD):x.row.length=3:=rfl
def A0L{cs}:(AV.agg cs).storable=true:=rfl
def A0K{cs}:(AV.agg cs).cells=cs:=rfl
def D4J(M:Mem)(l:List IdD)(v:AV)(M':Mem):Prop:=A1l 23 3 IdD.row M' v l/\Grow M M'/\A1m M.length v
section
variable (gl:Nat->AV)
def D6Y(u:A0a)(o:Nat)(M:Mem)(v:AV)(l:List IdD)(hl:l.length<=1000)(hM:M[o]?=some (.cells 85 [v]))(hv:A1l 23 3 IdD.row M v l)(c:obj v≠some o):A0e (WC gl) 122 [.agg u.row,.ptr o 0] M (λr M'=>r=B true/\∃v' M1,M'=M1.set o (.cells 85 [v'])/\A1l 23 3 IdD.row M1 v' (l++[u.id])/\A0c (obj v) M M1/\(obj v'=obj v\/A1m M.length v')):=by
 refine A0m (hQ [8]) func122 ?_
 rw[u.row_eq]
 simp -dsimp -implicitDefEqProofs[A0b hM,A0q,A1f,A0L,A0K]
 refine A4C (C:=WC gl) (enc:=IdD.row) (e:=23) (sz:=3) (news:=[u.id]) C8Q D2M D4I (λ_=>rfl) hv (by simp[A0A,IdD.row]) (by simp;omega) rfl ?_
 intro v' M1 h1 h2 h3 _
 have b:=h2.get hM c
 have a:A0l (some 1) M1 (.ptr o 0) v'=some (M1.set o (.cells 85 [v'])):=by rw[A0f b,h1.cells,Z0d ⟨h1.store,by simp,rfl⟩];rfl
 simp -dsimp -implicitDefEqProofs[a]
 exact⟨v',M1,rfl,h1,h2,h3⟩
def D3R(u:A0a)(M:Mem)(hg:u.good)(hc:A0o u<=1000):A0e (WC gl) 67 [.agg u.row] M (D4J M (A0V u)):=by
 refine A0m hW func67 ?_;have d:(M++[A0j.cells 85 [.val (.slice none 0 0)]])[M.length]?=some (A0j.cells 85 [.val (.slice none 0 0)]):=by simp
 simp -dsimp -implicitDefEqProofs[A0k,A0l,A0d];refine A0r func86 (A9u gl 122 [] [.ptr M.length 0] (λ_=>true) (λ(a:List IdD) u=>a++[u.id])
  (λM1 a=>∃v,M1[M.length]?=some (.cells 85 [v])/\A1l 23 3 IdD.row M1 v a/\obj v≠some M.length/\A1m M.length v/\Grow M M1)
  (λa u=>a.length+A0o u<=1000) (λa ks=>a.length+A0x ks<=1000) ?_ ?_ ?_ ?_ ?_ u [] _ hg (by simpa using hc) ⟨_,d,.nil,by simp,by simp[A1m],A0c.app none _ _⟩) ?_
 .intro a u h;have:=A7g u;simp;omega
 .intro a k ks h;rw[A0x]at h;omega
 .intro a k ks h _;rw[A0x]at h;rw[B2W];simp only[Z0q,A5A];omega
 .rintro M1 a X ⟨v,h1,h2,h3,h4,h5⟩;exact⟨v,by rw[Z0h (Z0b.1 h1).1];exact h1,h2.keep (A0c.app none _ _) (by simp),h3,h4,h5.trans (A0c.app none _ _)⟩
 .rintro u a M1 l hk ⟨v,h1,h2,h3,h4,h5⟩;have g:=A5R u;refine(A1T func122 rfl rfl (D6Y gl u M.length M1 v a (by omega) h1 h2 h3)).mono ?_;rintro _ _ ⟨rfl,v',M2,rfl,k1,k2,k3⟩;have i:M.length<M1.length:=(Z0b.1 h1).1;have c:M.length<M2.length:=by have:=k2.1;omega
  have b:obj v'≠some M.length:=by
   rcases k3 with e|e
   .rw[e];exact h3
   .intro q;have:=e _ q;omega
  refine⟨rfl,v',by simp[c],k1.keep (A0c.set M2 M.length _) (λf hf e=>b (by rw[hf,<-e])),b,λf hf=>?_,⟨by simp;omega,λj hj _=>?_⟩⟩
  .rcases k3 with e|e
   .exact h4 f (by rw[<-e];exact hf)
   .have:=e f hf;omega
  .rw[Z0f (by omega),k2.2 j (by omega) (λe=>by have:=h4 _ e;omega)];exact h5.2 j hj (by simp)
 .rintro _ M1 ⟨rfl,v,h1,h2,h3,h4,h5⟩;rw[B2W]at h2|-;simp only[Z1Y]at h2;simp -dsimp -implicitDefEqProofs[A0b h1,D4J,h2,h4,h5]
end
section
variable {K:Type} [DecidableEq K]
def A5N(S:List K):List K->List K
 |[]=>S
 |x::r=>A5N (if S.any (λy=>decide (y=x))then S else S++[x]) r
def B2E:List K->List K->Bool
 |[],_=>true
 |x::r,b=>!(b.any λy=>decide (y=x))&&B2E r (b++[x])
def B4q{S:List K}{x:K}:(S.any λy=>decide (y=x))=decide (x∈S):=by rw[Z2E];simp
def A9r:∀(r S:List K) (x:K),x∈A5N S r<->x∈S\/x∈r
 |[],S,x=>by simp[A5N]
 |y::r,S,x=>by
  rw[A5N,A9r r];simp only[B4q,Z0m];by_cases h:y∈S
  .rw[Z0d h];simp only[Z0u];constructor
   .rintro(h1|h1)<;>simp[h1]
   .rintro(h1|rfl|h1)
    .exact .inl h1
    .exact .inl h
    .exact .inr h1
  .rw[Z0e h];simp only[Z0V,Z0u,Z2p,Z3F];exact or_assoc
def C4F:∀(r S:List K),(A5N S r).length<=S.length+r.length
 |[],S=>by simp[A5N]
 |y::r,S=>by rw[A5N];have:=C4F r (if S.any (λz=>decide (z=y))then S else S++[y]);split at this<;>simp_all<;>omega
def B2l:∀(r S:List K),(A5N S r).length=S.length+r.length<->B2E r S=true
 |[],S=>by simp[A5N,B2E]
 |y::r,S=>by
  rw[A5N,B2E];cases h:S.any λz=>decide (z=y)
  .rw[Z0e (by simp)];have:=B2l r (S++[y]);rw[Z2f,Z0J,<-this];simp only[Z0q,Z0v,Z1z];omega
  .rw[Z0d rfl];have:=C4F r S;simp only[Z2u,Z0L,Z0I,iff_false,Z0v];omega
def B8Z:∀(r S:List K),S.Nodup->(A5N S r).Nodup
 |[],S,h=>by simpa[A5N]using h
 |y::r,S,h=>by
  rw[A5N];refine B8Z r _ ?_;rw[B4q];split
  .exact h
  .rename_i hn;(have hn:y∉S:=by simpa using hn);refine Z1V.2 ⟨h,by simp,?_⟩;intro a ha b hb e;simp only[Z0u,Z2p,Z3F]at hb;subst hb;subst e;exact hn ha
omit [DecidableEq K]in
def D0n{l:List K}{z:K}(hn:l.Nodup)(hz:∀x∈l,x=z)(hm:z∈l):l.length=1:=by
 match l,hn,hz,hm with
 |[],_,_,hm=>simp at hm
 |[x],_,_,_=>rfl
 |x::y::l,hn,hz,_=>have h1:=hz x (by simp);have h2:=hz y (by simp);subst h1;subst h2;simp at hn
omit [DecidableEq K]in
def D5I{l:List K}{z:K}(h1:l.length=1)(hm:z∈l):∀x∈l,x=z:=by
 match l,h1 with
 |[y],_=>intro x hx;simp at hx hm;rw[hx,hm]
def D4H{l:List K}{z:K}(hl:l≠[]):(z∈l/\(A5N [] l).length=1)<->∀x∈l,x=z:=by
 constructor
 .rintro⟨hm,h1⟩ x hx;exact D5I h1 ((A9r l [] z).2 (.inr hm)) x ((A9r l [] x).2 (.inr hx))
 .intro h;obtain⟨a,r,rfl⟩:=List.exists_cons_of_ne_nil hl;have hm:z∈a::r:=by rw[<-h a (by simp)];simp
  exact⟨hm,D0n (B8Z _ _ .nil) (λx hx=>h x (by simpa using(A9r _ [] x).1 hx)) ((A9r _ [] z).2 (.inr hm))⟩
end
def idZ:IdD:=⟨0,0,0⟩
def C2n(u:A0a):Bool:=(decide (idZ∈A0V u)&&decide ((A5N [] (A0V u)).length=1))||(decide ((A5N [] (A0V u)).length=(A0V u).length)&&(decide (u.kind=0)==decide (u.id=idZ)))
def D4z(u:A0a):Bool:=(A0V u).all (λx=>decide (x=idZ))||((decide (u.id=idZ)==decide (u.kind=0))&&B2E (A0V u) [])
def D6g(u:A0a):A0V u≠[]:=by obtain⟨a,b,c,d,e,f⟩:=u;rw[A0V];simp
def C3K(u:A0a):C2n u=D4z u:=by have h1:=D4H (l:=A0V u) (z:=idZ) (D6g u);have h2:=B2l (A0V u) ([]:List IdD);simp only[Z1z,Z0G]at h2;rw[Z2E];simp only[C2n,D4z,Z1A,Z0g,Z0m,Z0p,Z2Q];rw[h1,h2,and_comm,@eq_comm _ (decide (u.kind=0))]
def A1W.len{K V:Type}{d:K->AV}{a:V->AV}{M}{b}{l}(h:A1W d a M b l){P}{t kt et:TypeId}(ht:P.underlying t=some (.map kt et)):A2S P t M (.mapr b)=some l.length:=by obtain⟨es,c,h1,h2⟩:=h;have:=congrArg List.length h2;simp only[Z0R]at this;simp[A2S,ht,h1,this]
def A5X{P}{t:TypeId}{b}:A1V P t (.mapr b)=none:=rfl
@[simp] def C1y:prog.eqGuardType prog.depth 23=false:=by kernel_rfl
def B4h(a b:IdD):A1B prog .eql 23 (.agg [I a.act,I a.item,I a.n]) (.agg [I b.act,I b.item,I b.n])=some (B (decide (a=b))):=by
 have h0:A3I prog .eql 23 (.agg [I a.act,I a.item,I a.n]) (.agg [I b.act,I b.item,I b.n])=none:=by simp[A3I,A4J]
 have:=(A8D 248 4 (by kernel_rfl)).eq a b;simp only[A2C,IdD.row]at this;simp only[A1B,h0,A5h,C1y,this];rfl
def D7r(a:IdD):A1B prog .eql 23 (.agg [I a.act,I a.item,I a.n]) (.agg [I 0,I 0,I 0])=some (B (decide (a=idZ))):=B4h a idZ
def C5A{K:Type}[DecidableEq K](c:K):∀A1a:List K,(A1a.any λy=>decide (y=c))=true->A7N (A1a.map λx=>(x,true)) c true=A1a.map λx=>(x,true)
 |[],h=>by simp at h
 |x::l,h=>by
  rw[Z0t,A7N];by_cases e:c=x
  .subst e;simp
  .rw[Z0e e];rw[Z2Z,Z0z (λq=>e q.symm),Z1K]at h;rw[C5A c l h]
section
variable (gl:Nat->AV)
def D8J(u:A0a)(M:Mem)(hg:u.good)(hc:A0o u<=1000):A0e (WC gl) 158 [.agg u.row] M (λv M'=>v=B (C2n u)/\M'=M):=by
 have key:A0e (WC gl) 158 [.agg u.row] M (λv M'=>(∃x,v=.val x/\x=.bool (C2n u))/\Grow M M'):=by
  refine A0m hW func158 ?_;have o:=D3R gl u M hg hc;rw[u.row_eq]at o|-;have ae:=A5A u;simp -dsimp -implicitDefEqProofs;refine A0r func67 o ?_;rintro v M1 ⟨hv,a5,hL⟩;have c:A1V prog 85 v=some (A0V u).length:=hv.len (e':=23) (by simp);have a7:A1l 23 3 IdD.row (M1++[.map [] 0]) v (A0V u):=hv.keep (A0c.app none M1 _) (by simp);have a8:obj v≠some M1.length:=λe=>by have:=hv.lt e;omega
  simp -dsimp -implicitDefEqProofs[c];refine A0F hW ((A0V u).length) 13 (λT M2=>∃i:Nat,i<=(A0V u).length/\T 1=.cptr [I u.id.act,I u.id.item,I u.id.n,I u.kind,S u.label,.list 4 (A0i u.head) .no,.list 4 (A0i u.words) .no,.list 8 (A0u u.kids) .no]/\T 3=v/\T 4=.mapr M1.length/\T 11=v/\T 12=I (A0V u).length/\T 13=I i/\Grow M M2/\A1l 23 3 IdD.row M2 v (A0V u)/\∃s,A1W A2C B M2 M1.length (s.map λx=>(x,true))/\A5N [] (A0V u)=A5N s ((A0V u).drop i)) ?_ ?_
  .exact⟨0,by omega,by simp,by simp,by simp,by simp,by simp,by simp,a5.trans (A0c.app none _ _),a7,[],A1W.new M1,by simp⟩
  .rintro T M2 ⟨i,i1,t1,t3,t4,a1,a0,w,d,a3,s,h,ho⟩;by_cases hi:i<(A0V u).length
   ·(have l:(i:Int)<(A0V u).length:=by omega);have w1:=A2s (i:=i) (by omega)
    obtain⟨p,p1,_,p2,_⟩:=a3.at_ (P:=prog) (t:=23) (λ_=>rfl) (by simp) (by simp) hi;have hd:=Z0l hi;rw[hd,A5N]at ho;obtain⟨x,hx⟩:∃x,x=(A0V u)[i]:=⟨_,rfl⟩;rw[<-hx]at ho p2;have aa:x.row=[I x.act,I x.item,I x.n]:=rfl;rw[aa]at p2;(have ad:(M2++[A0j.cells 23 [I x.act,I x.item,I x.n]])[M2.length]?=some (A0j.cells 23 [I x.act,I x.item,I x.n]):=by simp);have a2:=h.keep (A0c.app none M2 [A0j.cells 23 [I x.act,I x.item,I x.n]]) (by simp);have r:Grow M (M2++[A0j.cells 23 [I x.act,I x.item,I x.n]]):=d.trans (A0c.app none _ _);have ac:=a3.keep (A0c.app none M2 [A0j.cells 23 [I x.act,I x.item,I x.n]]) (by simp);obtain⟨M4,q1,q2,q3⟩:=a2.put (A8D 248 4 (by kernel_rfl)) x true;have a6:A1o prog 248 (M2++[A0j.cells 23 [I x.act,I x.item,I x.n]]) (.mapr M1.length) (.agg [I x.act,I x.item,I x.n]) (B true)=some M4:=q1;(have ab:Grow M M4:=by refine⟨Z0Q r.1 q3.1,λj hj _=>?_⟩;rw[q3.2 j (by have:=r.1;omega) (by have:=a5.1;simp;omega)];exact r.2 j hj (by simp));have a9:=ac.keep q3 (λf hf e=>a8 (by rw[hf,<-e]));simp -dsimp -implicitDefEqProofs[t1,t3,t4,a1,a0,w,hi,l,p1,p2,A0k,A0l,A0d,A0L,A0K,A0b ad,a6,w1];refine⟨⟨i+1,by clear w1;omega,rfl,ab,a9,if s.any (λy=>decide (y=x))then s else s++[x],?_,ho⟩,by clear w1;omega⟩;cases hs:s.any λy=>decide (y=x)
    .rw[B5e x s hs]at q2;rw[Z0e (by simp)];exact q2
    .rw[Z0d rfl];have:A7N (s.map λx=>(x,true)) x true=s.map λx=>(x,true):=C5A x s hs;rw[this]at q2;exact q2
   ·(have l:¬(i:Int)<(A0V u).length:=by omega);rw[show(A0V u).drop i=[]from Z0x (by omega),A5N]at ho
    have hz:(s.any λy=>decide (y=idZ))=decide (idZ∈A0V u):=by rw[B4q,<-ho,Z2E];simp only[Z0m,A9r,Z2p,false_or]
    (have hR:C2n u=((decide (idZ∈A0V u)&&decide (s.length=1))||(decide (s.length=(A0V u).length)&&(decide (u.kind=0)==decide (u.id=idZ)))):=by rw[<-ho];rfl);obtain⟨R,a4⟩:∃R,R=C2n u:=⟨_,rfl⟩
    rw[<-a4]at hR|-;clear a4;have q:=h.get (A8D 248 4 (by kernel_rfl)) idZ (z:=B false) (by kernel_rfl) false;rw[B5p,hz]at q;have a:A1z prog 248 M2 (.mapr M1.length) (.agg [I 0,I 0,I 0]) false=some (B (decide (idZ∈A0V u))):=by refine q.trans ?_;cases decide (idZ∈A0V u)<;>rfl
    (have g:A2S prog 248 M2 (.mapr M1.length)=some s.length:=by rw[h.len (kt:=23) (et:=4) (by simp)];simp);cases hzz:decide (idZ∈A0V u)
    .rw[hzz]at a hR;rw[Z0L,Z1K]at hR;simp -dsimp -implicitDefEqProofs[t1,t3,t4,a1,a0,w,l,a];refine A1v hW (A0I gl) (λk=>if k=3\/k=8 then 2 else 0) (λ_=>0) (by rfl) (by kernel_rfl) ?_;by_cases h2:s.length=(A0V u).length
     ·(have b:(s.length:Int)=((A0V u).length:Int):=by omega);rw[Z0w h2,Z0J]at hR
      simp -dsimp -implicitDefEqProofs[t1,t3,t4,g,A5X,c,Z1T b,D7r];exact⟨by rw[hR];rfl,d⟩
     ·(have b:¬(s.length:Int)=((A0V u).length:Int):=by omega);rw[Z0z h2,Z0L]at hR
      simp -dsimp -implicitDefEqProofs[t1,t3,t4,g,A5X,c,b,hR,d]
    .rw[hzz]at a hR;rw[Z0J]at hR;simp -dsimp -implicitDefEqProofs[t1,t3,t4,a1,a0,w,l,a];refine A1v hW (A0I gl) (λk=>if k=3\/k=8 then 2 else 0) (λ_=>0) (by rfl) (by kernel_rfl) ?_;by_cases h1:s.length=1
     ·(have m:(s.length:Int)=1:=by omega);rw[Z0w h1,Z2O]at hR
      simp -dsimp -implicitDefEqProofs[t1,t3,t4,g,A5X,c,Z1T m,Z1T h1,hR,d]
     (have m:¬(s.length:Int)=1:=by omega);rw[Z0z h1,Z1K]at hR
     by_cases h2:s.length=(A0V u).length
     ·(have b:(s.length:Int)=((A0V u).length:Int):=by omega);rw[Z0w h2,Z0J]at hR
      simp -dsimp -implicitDefEqProofs[t1,t3,t4,g,A5X,c,h1,m,Z1T b,D7r];exact⟨by rw[hR];rfl,d⟩
     ·(have b:¬(s.length:Int)=((A0V u).length:Int):=by omega);rw[Z0z h2,Z0L]at hR
      simp -dsimp -implicitDefEqProofs[t1,t3,t4,g,A5X,c,h1,m,b,hR,d]
 exact(A9z key).mono (by rintro v M' ⟨⟨x,rfl,rfl⟩,rfl⟩;exact⟨rfl,rfl⟩)
end
mutual
def A3X:A0a->List A0a
 |.mk id k l h w ks=>.mk id k l h w ks::A6g ks
def A6g:List A0a->List A0a
 |[]=>[]
 |k::ks=>A3X k++A6g ks
end
mutual
def A7c:∀u:A0a,(A3X u).map A0a.id=A0V u
 |.mk id _ _ _ _ ks=>by rw[A3X,A0V,Z0t,B8s ks];rfl
def B8s:∀ks:List A0a,(A6g ks).map A0a.id=A3N ks
 |[]=>by rw[A6g,A3N];rfl
 |k::ks=>by rw[A6g,A3N,Z0S,A7c k,B8s ks]
end
abbrev B4x(u:A0a):AV:=.agg u.row
def A6h(L:List (IdD×A0a)):List A0a->List (IdD×A0a)
 |[]=>L
 |u::us=>A6h (A7N L u.id u) us
def C8U(L:List (IdD×A0a)):∀us vs,A6h L (us++vs)=A6h (A6h L us) vs:=by
 intro us;induction us generalizing L with
 |nil=>intro vs;rfl
 |cons u us ih=>intro vs;exact ih _ vs
def B1d:∀(us:List A0a) (L:List (IdD×A0a)),(A6h L us).map (·.1)=A5N (L.map (·.1)) (us.map A0a.id)
 |[],L=>rfl
 |u::us,L=>by
  rw[A6h,B1d us,D0S,Z0t,A5N,B4q];by_cases h:u.id∈L.map (·.1)
  .rw[Z0d h,Z0d (by simpa using h)]
  .rw[Z0e h,Z0e (by simpa using h)]
mutual
noncomputable def A5E:A0a->Nat->Mem->Mem
 |.mk id k l h w ks,b,M=>A3Y ks b ((A1o prog 92 M (.mapr b) (A2C id) (B4x (.mk id k l h w ks))).getD M)
noncomputable def A3Y:List A0a->Nat->Mem->Mem
 |[],_,M=>M
 |k::ks,b,M=>A3Y ks b (A5E k b (M++[.cells 27 k.row]))
end
mutual
def A7v:∀(u:A0a) (L:List (IdD×A0a)) (b:Nat) (M:Mem),A1W A2C B4x M b L->A1W A2C B4x (A5E u b M) b (A6h L (A3X u))/\A0c (some b) M (A5E u b M)
 |.mk id k l h w ks,L,b,M,hm=>by
  obtain⟨M1,p1,p2,p3⟩:=hm.put (A8D 92 27 (by kernel_rfl)) id (.mk id k l h w ks);have hc:A5E (.mk id k l h w ks) b M=A3Y ks b M1:=by rw[A5E,p1];rfl
  obtain⟨q1,q2⟩:=B2s ks _ b M1 p2;rw[hc,A3X];exact⟨q1,p3.trans q2⟩
def B2s:∀(ks:List A0a) (L:List (IdD×A0a)) (b:Nat) (M:Mem),A1W A2C B4x M b L->A1W A2C B4x (A3Y ks b M) b (A6h L (A6g ks))/\A0c (some b) M (A3Y ks b M)
 |[],L,b,M,hm=>by rw[A3Y,A6g];exact⟨hm,A0c.refl _ _⟩
 |k::ks,L,b,M,hm=>by obtain⟨q1,q2⟩:=A7v k L b (M++[.cells 27 k.row]) (hm.keep (A0c.app none M _) (by simp));obtain⟨r1,r2⟩:=B2s ks _ b _ q1;rw[A3Y,A6g,C8U];exact⟨r1,((A0c.of_none (A0c.app none _ _)).trans q2).trans r2⟩
end
section
variable (gl:Nat->AV)
def B2Y:∀(u:A0a) (L:List (IdD×A0a)) (b:Nat) (M:Mem),u.good->A1W A2C B4x M b L->A0e (WC gl) 102 [.agg u.row,.mapr b] M (λv M'=>v=.mapr b/\M'=A5E u b M)
 |.mk id kind lab hd ws ks,L,b,M,hg,hmap=>by
  obtain⟨_,_,t,_,s,_,w,l,d⟩:=(A0a.good_iff _).1 hg;have d:∀k∈ks,k.good:=d;have r:ks.length<=9223372036854775807:=l;have c:(A0a.mk id kind lab hd ws ks).row=[I id.act,I id.item,I id.n,I kind,S lab,.list 4 (A0i hd) .no,.list 4 (A0i ws) .no,.list 8 (A0u ks) .no]:=by rw[A0a.row]
  obtain⟨M1,p1,p2,p3⟩:=hmap.put (A8D 92 27 (by kernel_rfl)) id (.mk id kind lab hd ws ks);have q:A1o prog 92 M (.mapr b) (.agg [I id.act,I id.item,I id.n]) (.agg [I id.act,I id.item,I id.n,I kind,S lab,.list 4 (A0i hd) .no,.list 4 (A0i ws) .no,.list 8 (A0u ks) .no])=some M1:=by rw[<-c];exact p1
  have m:A5E (.mk id kind lab hd ws ks) b M=A3Y ks b M1:=by rw[A5E,p1];rfl
  rw[c,m];generalize A7N L id (.mk id kind lab hd ws ks)=L1 at*;refine A0m hW func102 ?_;simp -dsimp -implicitDefEqProofs[q];refine A0F hW ks.length 14 (λT M2=>∃i:Nat,i<=ks.length/\T 1=.mapr b/\T 12=.list 8 (A0u ks) .no/\T 13=I ks.length/\T 14=I i/\A3Y ks b M1=A3Y (ks.drop i) b M2/\∃L2,A1W A2C B4x M2 b L2) ?_ ?_
  .exact⟨0,by omega,by simp,by simp,by simp,by simp,by simp,L1,p2⟩
  .rintro T M2 ⟨i,i1,t1,h,f,g,ho,L2,o⟩;by_cases hi:i<ks.length
   ·(have e:(i:Int)<ks.length:=by omega);have w1:IntKind.i64.wrap ((i:Int)+1)=(i+1:Nat):=by rw[A0Z (by omega) (by omega)];omega
    have a:ks[i]∈ks:=Z0y hi;rw[Z0l hi,A3Y]at ho;(have p:(M2++[A0j.cells 27 ks[i].row])[M2.length]?=some (A0j.cells 27 ks[i].row):=by simp);have j:=o.keep (A0c.app none M2 [A0j.cells 27 ks[i].row]) (by simp);simp -dsimp -implicitDefEqProofs[t1,h,f,g,hi,e,A0k,A0l,A0d,A0L,A0K,A0b p];have:=A0a.kid_lt (u:=.mk id kind lab hd ws ks) a;refine A0r func102 (B2Y ks[i] L2 b _ (d _ a) j) ?_;rintro _ _ ⟨rfl,rfl⟩;simp -dsimp -implicitDefEqProofs[t1,h,f,g,w1];exact⟨⟨i+1,by clear w1;omega,rfl,ho,_,(A7v ks[i] L2 b _ j).1⟩,by clear w1;omega⟩
   ·(have e:¬(i:Int)<ks.length:=by omega);rw[show ks.drop i=[]from Z0x (by omega),A3Y]at ho
    rw[ho];simp -dsimp -implicitDefEqProofs[t1,h,f,g,e]
termination_by u=>SizeOf.sizeOf u
end
def A4Y(u:A0a):Bool:=(A4w A8N (λ(_:Unit) _=>()) u ()).1
def B0l(u:A0a):Bool:=A4Y u&&decide (A1R u<=8)&&decide (A0o u<=1024)&&C2n u
def D4q(u:A0a):Bool:=A2W u&&decide (A1R u<=8)&&decide (A0o u<=1024)&&D4z u
def C6B(u:A0a):Bool:=decide (u.kind=0)&&B0l u&&decide ((A5N [] (A0V u)).length=A0o u)
def B2A(u:A0a):Bool:=decide (u.kind=0)&&D4q u&&B2E (A0V u) []
def Fit(u:A0a):Prop:=u.good/\u.lims/\A0o u<=1000
def A3r(u:A0a)(h:u.lims):u.lim/\A6D u.kids:=by obtain⟨a,b,c,d,e,f⟩:=u;rw[A0a.lims]at h;exact h
section
variable (gl:Nat->AV)
def B4t(i:gl 0=A2u)(d:gl 1=A2J)(u:A0a)(M:Mem)(hf:Fit u):A0e (WC gl) 109 [.agg u.row] M (λv M'=>v=B (B0l u)/\M'=M):=by
 obtain⟨hg,hl,hc⟩:=hf;have key:A0e (WC gl) 109 [.agg u.row] M (λv M'=>(∃x,v=.val x/\x=.bool (B0l u))/\Grow M M'):=by
  refine A0m hB func109 ?_;have hR:B0l u=(A4Y u&&decide (A1R u<=8)&&decide (A0o u<=1024)&&C2n u):=rfl;simp -dsimp -implicitDefEqProofs;refine A0r func86 (A9u gl 156 [] [] A8N (λ(_:Unit) _=>()) (λM1 _=>Grow M M1) (λ_ u=>u.lims) (λ_ ks=>A6D ks) ?_ ?_ ?_ ?_ ?_ u () M hg hl (A0c.refl _ _)) ?_
  .intro a u h;exact(A3r u h).2
  .intro a k ks h;rw[A6D]at h;exact h.1
  .intro a k ks h _;rw[A6D]at h;exact h.2
  .intro M1 a X h;exact h.trans (A0c.app none _ _)
  .intro u a M1 e g b;refine(A1T func156 rfl rfl (D4r gl M1 i d u e (A3r u g).1)).mono ?_;rintro _ _ ⟨rfl,h⟩;exact⟨rfl,b.trans h⟩
  .rintro _ M1 ⟨rfl,b⟩;have j:(A4w A8N (λ(_:Unit) _=>()) u ()).1=A4Y u:=rfl;rw[j];cases h1:A4Y u;(case false=>rw[h1]at hR;simp only[Z0L]at hR;simp -dsimp -implicitDefEqProofs[hR,b]);rw[h1,Z0J]at hR;simp -dsimp -implicitDefEqProofs;refine A0r func157 (B8m gl u M1 hg hc) ?_;rintro _ _ ⟨⟨_,rfl,rfl⟩,rfl⟩;by_cases h2:A1R u<=8;case neg=>
    (have c:¬(A1R u:Int)<=8:=by omega);rw[Z0z h2]at hR
    simp only[Z0L]at hR;simp -dsimp -implicitDefEqProofs[c,hR,b]
   (have c:(A1R u:Int)<=8:=by omega);rw[Z0w h2,Z0J]at hR
   simp -dsimp -implicitDefEqProofs[c];refine A0g func30 (B1C gl u _ hg hc) ?_;(have h3:A0o u<=1024:=by omega);(have f:(A0o u:Int)<=1024:=by omega);rw[Z0w h3,Z0J]at hR;simp -dsimp -implicitDefEqProofs[f];refine A0g func158 (D8J gl u _ hg hc) ?_;simp -dsimp -implicitDefEqProofs[hR,b]
 exact(A9z key).mono (by rintro v M' ⟨⟨x,rfl,rfl⟩,rfl⟩;exact⟨rfl,rfl⟩)
def D1P(l:gl 0=A2u)(h:gl 1=A2J)(u:A0a)(M:Mem)(hf:Fit u):A0e (WC gl) 50 [.agg u.row] M (λv M'=>v=B (C6B u)/\M'=M):=by
 have key:A0e (WC gl) 50 [.agg u.row] M (λv M'=>(∃x,v=.val x/\x=.bool (C6B u))/\Grow M M'):=by
  have c:=λM=>B4t gl l h u M hf;obtain⟨hg,hl,hc⟩:=hf;have b:=B2Y gl u [] M.length (M++[.map [] 0]) hg (A1W.new M);have a:=λM=>B1C gl u M hg hc;obtain⟨q1,q2⟩:=A7v u [] M.length (M++[.map [] 0]) (A1W.new M);have g:(A6h [] (A3X u)).length=(A5N [] (A0V u)).length:=by have:=B1d (A3X u) [];rw[A7c]at this;rw[<-Z0R (f:=λp:IdD×A0a=>p.1),this];rfl
  have i:A2S prog 92 (A5E u M.length (M++[.map [] 0])) (.mapr M.length)=some (A5N [] (A0V u)).length:=by rw[q1.len (kt:=23) (et:=27) (by simp),g]
  have e:Grow M (A5E u M.length (M++[.map [] 0])):=by refine⟨by have:=q2.1;simp at this;omega,λj hj _=>?_⟩;rw[q2.2 j (by simp;omega) (by simp;omega),Z0h hj]
  rw[u.row_eq]at c b a|-;have hR:C6B u=(decide (u.kind=0)&&B0l u&&decide ((A5N [] (A0V u)).length=A0o u)):=rfl;refine A0m hB func50 ?_;simp -dsimp -implicitDefEqProofs;refine A1v hB (A0I gl) (λk=>if k=9\/k=10\/k=11 then 2 else 0) (λ_=>0) (by rfl) (by kernel_rfl) ?_;by_cases k0:u.kind=0;case neg=>rw[Z0z k0]at hR;simp only[Z0L]at hR;simp -dsimp -implicitDefEqProofs[k0,hR,A0c.refl]
  rw[Z0w k0,Z0J]at hR;simp -dsimp -implicitDefEqProofs[Z1T k0];refine A2F func109 c ?_;cases h1:B0l u;case false=>rw[h1,Z0L]at hR;simp -dsimp -implicitDefEqProofs[Z1T k0,hR,A0c.refl]
  rw[h1,Z0J]at hR;simp -dsimp -implicitDefEqProofs[Z1T k0];refine A4T (A1T func102 rfl rfl b) ?_;simp -dsimp -implicitDefEqProofs[A5X,i,Z1T k0];refine A2F func30 a ?_;by_cases h2:(A5N [] (A0V u)).length=A0o u
  ·(have d:((A5N [] (A0V u)).length:Int)=(A0o u:Int):=by omega);rw[Z0w h2]at hR
   simp -dsimp -implicitDefEqProofs[Z1T k0,Z1T d,Z1T h2,hR,e]
  ·(have d:¬((A5N [] (A0V u)).length:Int)=(A0o u:Int):=by omega);rw[Z0z h2]at hR
   simp -dsimp -implicitDefEqProofs[Z1T k0,d,h2,hR,e]
 exact(A9z key).mono (by rintro v M' ⟨⟨x,rfl,rfl⟩,rfl⟩;exact⟨rfl,rfl⟩)
end
def D0C(id:IdD)(k:Int)(l:ByteArray)(h w:List A0M)(ks:List A0a):A4Y (.mk id k l h w ks)=(A8N (.mk id k l h w ks)&&ks.all A4Y):=by
 have hl:∀ks:List A0a,(A3v A8N (λ(_:Unit) _=>()) ks ()).1=ks.all A4Y:=by
  intro ks;induction ks with
  |nil=>rw[A3v];rfl
  |cons k ks ih=>
   rw[A3v,Z1C];have:(A4w A8N (λ(_:Unit) _=>()) k ()).1=A4Y k:=rfl;rw[this];cases A4Y k
   .rfl
   .rw[Z0d rfl,Z0J];exact ih
 rw[A4Y,A4w];cases A8N (.mk id k l h w ks)
 .rfl
 .rw[Z0d rfl,Z0J];exact hl ks
def C5Y(u:A0a):(B9N u&&decide (u.kids.length<=64))=A5Q u:=by
 unfold B9N A5Q;by_cases k0:u.kind=0
 .rw[Z0d k0,Z0d k0,Z2E];simp only[Z0g,Z0m];constructor
  .rintro⟨⟨h1,h2⟩,h3⟩;have hh:u.head=[]:=Z0s (by omega);have hw:u.words=[]:=Z0s (by omega);rw[hh,hw];exact⟨⟨⟨⟨by omega,h3⟩,rfl⟩,rfl⟩,⟨h1,rfl⟩,rfl⟩
  .rintro⟨⟨⟨⟨_,h3⟩,_⟩,_⟩,⟨h1,h4⟩,h5⟩;exact⟨⟨h1,by omega⟩,h3⟩
 .rw[Z0e k0,Z0e k0,Z2E];simp only[Z0g,Z0m];constructor
  .rintro⟨⟨⟨⟨h1,h2⟩,h3⟩,h4⟩,h5⟩;exact⟨⟨⟨⟨by omega,h5⟩,h3⟩,h4⟩,h2⟩
  .rintro⟨⟨⟨⟨h1,h5⟩,h3⟩,h4⟩,h2⟩;exact⟨⟨⟨⟨by omega,h2⟩,h3⟩,h4⟩,h5⟩
def B6Y(kind:Int):∀(ks b:List A0a),(∀k∈ks,A4Y k=A2W k)->(A8c kind ks (b.map λu=>(u.kind,u.label))&&ks.all A4Y)=A6o kind ks b
 |[],_,_=>by rw[A8c,A6o];rfl
 |k::ks,b,h=>by
  have ih:=B6Y kind ks (b++[k]) λx hx=>h x (by simp[hx]);rw[Z0S]at ih;have ih:(A8c kind ks (b.map (λu=>(u.kind,u.label))++[(k.kind,k.label)])&&ks.all A4Y)=A6o kind ks (b++[k]):=ih;rw[A8c,A6o,<-ih,Z1C,h k (by simp)];have ha:((b.map λu=>(u.kind,u.label)).any λy=>decide (y=(k.kind,k.label)))=b.any λa=>A7l a k:=by rw[List.any_map];congr 1;funext a;simp only[Function.comp,A7l,Z0c,Bool.decide_and]
  rw[ha];cases A4v kind k.kind<;>cases A2W k<;>cases(b.any λa=>A7l a k)<;>simp
def B1K:∀u:A0a,A4Y u=A2W u
 |.mk id k l h w ks=>by
  have ih:∀x∈ks,A4Y x=A2W x:=λx hx=>by have:=A0a.kid_lt (u:=.mk id k l h w ks) hx;exact B1K x
  have h1:=B6Y k ks [] ih;have h2:=C5Y (.mk id k l h w ks);rw[D0C,A2W,<-h1,<-h2];show(B9N (.mk id k l h w ks)&&A8c k ks []&&decide (ks.length<=64)&&ks.all A4Y)=(B9N (.mk id k l h w ks)&&decide (ks.length<=64)&&(A8c k ks []&&ks.all A4Y));cases B9N (.mk id k l h w ks)<;>cases A8c k ks []<;>cases decide (ks.length<=64)<;>simp
termination_by u=>SizeOf.sizeOf u
def D0K(u:A0a):C6B u=B2A u:=by
 have h:=B2l (A0V u) ([]:List IdD);simp only[Z1z,Z0G]at h;have h2:decide ((A5N [] (A0V u)).length=A0o u)=B2E (A0V u) []:=by rw[Z2E,Z0m,<-h,A5A]
 simp only[C6B,B2A,B0l,D4q,B1K,C3K,h2]
structure A0Q where
 id:IdD
 parent:Int
 label:ByteArray
def A0Q.row(s:A0Q):List AV:=[I s.id.act,I s.id.item,I s.id.n,I s.parent,S s.label]
def A0Q.good(s:A0Q):Prop:=s.id.good/\inI s.parent/\s.label.size<=maxLen
def A2h(l:List A0Q):List (List AV):=l.map A0Q.row
@[simp] def D9Z(l:List A0Q):(A2h l).length=l.length:=by simp[A2h]
@[simp] def E0V{p}{i}(h:i<(A2h p).length):(A2h p)[i]=(p[i]'(by simpa using h)).row:=by simp[A2h]
mutual
def A0U(x:IdD):A0a->Option A0a
 |.mk id k l h w ks=>if id=x then some (.mk id k l h w ks)else A9s x ks
def A9s(x:IdD):List A0a->Option A0a
 |[]=>none
 |k::ks=>match A0U x k with
  |some v=>some v
  |none=>A9s x ks
end
def zU:List AV:=[I 0,I 0,I 0,I 0,S ⟨#[]⟩,.val (.slice none 0 0),.val (.slice none 0 0),.val (.slice none 0 0)]
def A1Z:Option A0a->List AV
 |some u=>u.row
 |none=>zU
def B2b(n:Nat)(l:List A0M):A9y n (A0i l):=by
 induction l with
 |nil=>simp[A0i,A9y]
 |cons w l ih=>simp only[A0i,Z0t,A9y];exact⟨by simp[A0M.row,A1K,bdd],ih⟩
mutual
def A2D(n:Nat):∀u:A0a,A1K n u.row
 |.mk id k l h w ks=>by rw[A0a.row];simp only[A1K,bdd,Z1O,Z2n];exact⟨B2b n h,B2b n w,B5b n ks⟩
def B5b(n:Nat):∀l:List A0a,A9y n (A0u l)
 |[]=>by rw[A0u];simp[A9y]
 |u::l=>by rw[A0u];exact⟨A2D n u,B5b n l⟩
end
def C0J(n:Nat)(o:Option A0a):A1K n (A1Z o):=by
 cases o with
 |none=>simp[A1Z,zU,A1K,bdd]
 |some u=>exact A2D n u
@[simp] def D9T(o:Option A0a):(A1Z o).length=8:=by cases o<;>simp[A1Z,zU]
@[simp] def D8K(o:Option A0a):List.take 8 (A1Z o)=A1Z o:=Z0j (by simp)
def A3Z{C}{f}{args}{M}{r}(hb:∀n,bdd n r)(h:A0e C f args M (λv M'=>v=r/\Grow M M')):A0e C f args M (λv M'=>v=r/\M'=M):=by
 refine h.cut ?_;rintro _ M' ⟨rfl,hg⟩;refine⟨M'.drop M.length,?_,hb _,rfl,rfl⟩;have ht:M'.take M.length=M:=by
  apply Z1F;intro i;rw[Z0N];split
  .rename_i hi;exact hg.2 i hi (by simp)
  .rename_i hi;exact(Z1c (by omega)).symm
 have:=Z0X M.length M';rw[ht]at this;exact this.symm
@[simp] def E3R:A0D prog 27 []=some (.agg zU):=by
 simp[A0D,A1k];rfl
def C7q{M:Mem}{t:TypeId}{cs:List AV}:A2L (M++[.cells t cs]) (.ptr M.length 0)=some cs:=by simp[A2L]
def A0v{M:Mem}{b:Nat}{t:TypeId}{cs:List AV}(h:b<M.length):A2L (M.set b (.cells t cs)) (.ptr b 0)=some cs:=by simp[A2L,h]
def A1g{M M1}{b}{X}(h:Grow M M1)(hb:M.length<=b):Grow M (M1.set b X):=⟨by simpa using h.1,λi hi _=>by rw[Z0f (by omega)];exact h.2 i hi (by simp)⟩
@[simp] def E6p:zU.length=8:=rfl
@[simp] def E3x:List.take 8 zU=zU:=rfl
section
variable (gl:Nat->AV)
def C5e:∀(u:A0a) (x:IdD) (M:Mem),u.good->A0e (WC gl) 104 [.agg u.row,.agg x.row] M (λv M'=>v=.tuple [.agg (A1Z (A0U x u)),B (A0U x u).isSome]/\M'=M)
 |.mk id kind lab hd ws ks,x,M,hg=>by
  refine A3Z (λn=>by simp only[bdd,A1K,Z1O];exact C0J n _) ?_;obtain⟨_,_,s,_,r,_,t,m,f⟩:=(A0a.good_iff _).1 hg;have f:∀k∈ks,k.good:=f;have q:ks.length<=9223372036854775807:=m;have b:(A0a.mk id kind lab hd ws ks).row=[I id.act,I id.item,I id.n,I kind,S lab,.list 4 (A0i hd) .no,.list 4 (A0i ws) .no,.list 8 (A0u ks) .no]:=by rw[A0a.row]
  have hR:A0U x (.mk id kind lab hd ws ks)=if id=x then some (.mk id kind lab hd ws ks)else A9s x ks:=by rw[A0U]
  rw[hR];have hx:x.row=[I x.act,I x.item,I x.n]:=rfl;by_cases h0:id=x
  .rw[Z0d h0];have o:A1Z (some (.mk id kind lab hd ws ks))=[I id.act,I id.item,I id.n,I kind,S lab,.list 4 (A0i hd) .no,.list 4 (A0i ws) .no,.list 8 (A0u ks) .no]:=b;rw[o,b,hx];refine A0m hB func104 ?_;simp -dsimp -implicitDefEqProofs[B4h,Z1T h0,A0k,A0l,A0d,A0L,A0K,A0c.refl,A0c.app,C7q,A0h]
  rw[Z0e h0];generalize p:A9s x ks=R;rw[b,hx];refine A0m hB func104 ?_;simp -dsimp -implicitDefEqProofs[B4h,h0,A0k,A0l,A0d,A0L,A0K];refine A0F hB ks.length 6 (λT M1=>∃i:Nat,i<=ks.length/\T 2=.cptr [I id.act,I id.item,I id.n,I kind,S lab,.list 4 (A0i hd) .no,.list 4 (A0i ws) .no,.list 8 (A0u ks) .no]/\T 3=.cptr [I x.act,I x.item,I x.n]/\T 4=.ptr M.length 0/\T 6=I i/\(∃z,M1[M.length]?=some (.cells 27 z)/\z.length=8)/\Grow M M1/\R=A9s x (ks.drop i)) ?_ ?_
  .exact⟨0,by omega,by simp,by simp,by simp,by simp,⟨_,List.getElem?_concat_length,rfl⟩,A0c.app _ _ _,by simp[p]⟩
  .rintro T M1 ⟨i,i1,t2,t3,t4,t6,⟨z,hz,g⟩,j,ho⟩;by_cases hi:i<ks.length;case neg=>
    (have a:¬(i:Int)<ks.length:=by omega);rw[show ks.drop i=[]from Z0x (by omega),A9s]at ho
    subst ho;have e:M.length<M1.length:=(Z0b.1 hz).1;have hd:List.drop 8 z=[]:=Z0x (by omega);simp -dsimp -implicitDefEqProofs[t2,t3,t4,t6,a,A0f hz,A0L,A0K,g,hd,A0v e,A0h,A1Z,A1g j]
   (have a:(i:Int)<ks.length:=by omega);have w1:IntKind.i64.wrap ((i:Int)+1)=(i+1:Nat):=by rw[A0Z (by omega) (by omega)];omega
   have d:ks[i]∈ks:=Z0y hi;have e:M.length<M1.length:=(Z0b.1 hz).1;rw[Z0l hi,A9s]at ho;have:=A0a.kid_lt (u:=.mk id kind lab hd ws ks) d;have hf:=λM=>C5e ks[i] x M (f _ d);generalize A0U x ks[i]=F at*;(have hX:(M1++[A0j.cells 27 (A1Z F)])[M1.length]?=some (A0j.cells 27 (A1Z F)):=by simp);(have h:(M1++[A0j.cells 27 (A1Z F)])[M.length]?=some (A0j.cells 27 z):=by rw[Z0h e];exact hz);(have l:M.length<(M1++[A0j.cells 27 (A1Z F)]).length:=by simp;omega);have hd:List.drop 8 z=[]:=Z0x (by omega);have c:Grow M (M1++[A0j.cells 27 (A1Z F)]):=j.trans (A0c.app none _ _);simp -dsimp -implicitDefEqProofs[t2,t3,t4,t6,hi,a];refine A1v hB (A0I gl) (λk=>if k=10\/k=11 then 2 else 0) (λ_=>0) (by rfl) (by kernel_rfl) ?_;simp -dsimp -implicitDefEqProofs[t2,t3,t4,t6,hi,a];refine A2F func104 hf ?_;cases F with
   |none=>simp -dsimp -implicitDefEqProofs[t2,t3,t4,t6,hi,a,A0k,A0l,A0d,A0L,A0K,w1];exact⟨⟨i+1,by clear w1;omega,rfl,⟨z,h,g⟩,c,ho⟩,by clear w1;omega⟩
   |some v=>have ho:R=some v:=ho;subst ho;simp -dsimp -implicitDefEqProofs[t2,t3,t4,t6,hi,a,A0k,A0l,A0d,A0L,A0K];rw[A0b hX];simp -dsimp -implicitDefEqProofs[A0h,t4,A0f h,A0L,A0K,g,hd,A0v l,A1g c]
termination_by u=>SizeOf.sizeOf u
end
def B9E:Option A0a->Int
 |some u=>u.kind
 |none=>0
def A4L(F:IdD->Option A0a)(l:List A0Q)(n:Int):Int:=if n<0 then 0 else match l[n.toNat]? with
 |some s=>B9E (F s.id)
 |none=>0
def A2w(l:List A0Q)(n:Int):Int:=match l[n.toNat]? with
 |some s=>s.parent
 |none=>-1
def B0C(l:List A0Q)(n:Nat):Prop:=∀j,(h:j<l.length)->j<=n->-1<=l[j].parent/\l[j].parent<j
def A2Q(l:List A0Q):Nat->Int->Nat
 |0,_=>0
 |f+1,n=>if n<0 then 0 else A2Q l f (A2w l n)+1
abbrev B1j(l:List A0Q)(a b c:Nat):AV:=.agg [.list 5 (A2h l) .no,.mapr a,.mapr b,.mapr c]
def C6D(o:Option A0a):∃a b c d e f g,A1Z o=[I a,I b,I c,I (B9E o),d,e,f,g]:=by
 cases o with
 |none=>exact⟨_,_,_,_,_,_,_,rfl⟩
 |some u=>exact⟨_,_,_,_,_,_,_,u.row_eq⟩
def C2G:A7q prog 27=some (.agg zU):=by simp[A7q];rfl
section
variable (gl:Nat->AV)
def E2h(u:A0a)(l:List A0Q)(n:Int)(M:Mem)(hg:u.good)(hn:n<l.length):A0e (WC gl) 107 [.agg u.row,.list 5 (A2h l) .no,I n] M (λv M'=>v=I (A4L (λx=>A0U x u) l n)/\M'=M):=by
 refine A3Z (λ_=>trivial) ?_;have hf:=λx M=>C5e gl u x M hg;rw[u.row_eq]at hf|-;refine A0m hB func107 ?_;by_cases h0:n<0
 .simp -dsimp -implicitDefEqProofs[h0,A4L,A0c.refl]
 obtain⟨m,rfl⟩:∃m:Nat,n=m:=⟨n.toNat,by omega⟩;have hm:m<l.length:=by omega
 have h:¬(m:Int)<0:=by omega
 have hf:=λM=>hf l[m].id M;simp only[IdD.row]at hf;obtain⟨a,b,c,d,e,f,g,hr⟩:=C6D (A0U l[m].id u);have hX:(M++[A0j.cells 27 [I a,I b,I c,I (B9E (A0U l[m].id u)),d,e,f,g]])[M.length]?=some (A0j.cells 27 [I a,I b,I c,I (B9E (A0U l[m].id u)),d,e,f,g]):=by simp
 have i:A4L (λx=>A0U x u) l m=B9E (A0U l[m].id u):=by simp[A4L,hm,h]
 rw[i];simp -dsimp -implicitDefEqProofs[h];refine A1v hB (A0I gl) (λk=>if k=10\/k=11 then 2 else 0) (λ_=>0) (by rfl) (by kernel_rfl) ?_;simp -dsimp -implicitDefEqProofs[h,hm,A0Q.row];refine A2F func104 hf ?_;simp -dsimp -implicitDefEqProofs[A0k,A0l,A0d,A0L,A0K,hr];rw[A0b hX];simp -dsimp -implicitDefEqProofs[A0c.app]
def B7h(l:List A0Q)(L:List (IdD×A0a))(a b c:Nat)(n:Int)(M:Mem)(hM:A1W A2C B4x M a L)(hn:n<l.length):A0e (WC gl) 151 [B1j l a b c,I n] M (λv M'=>v=I (A4L (A1C L) l n)/\M'=M):=by
 refine A0m hB func151 ?_;by_cases h0:n<0
 .simp -dsimp -implicitDefEqProofs[h0,A4L]
 obtain⟨m,rfl⟩:∃m:Nat,n=m:=⟨n.toNat,by omega⟩;have hm:m<l.length:=by omega
 have d:¬(m:Int)<0:=by omega
 have e:A1z prog 92 M (.mapr a) (.agg [I l[m].id.act,I l[m].id.item,I l[m].id.n]) false=some (.agg (A1Z (A1C L l[m].id))):=by rw[show AV.agg [I l[m].id.act,I l[m].id.item,I l[m].id.n]=A2C l[m].id from rfl,hM.get (A8D 92 27 (by kernel_rfl)) l[m].id C2G false];cases A1C L l[m].id<;>rfl
 have f:A4L (A1C L) l m=B9E (A1C L l[m].id):=by simp[A4L,hm,d]
 rw[f];obtain⟨a2,b2,c2,d2,e2,f2,g2,hr⟩:=C6D (A1C L l[m].id);simp -dsimp -implicitDefEqProofs[d];refine A1v hB (A0I gl) (λk=>if k=8 then 1 else 0) (λ_=>a) (by rfl) (by kernel_rfl) ?_;simp -dsimp -implicitDefEqProofs[d,hm,A0Q.row,A0R,e,hr]
def E2w(l:List A0Q)(n:Int)(M:Mem)(hl:l.length<=1000)(hn:-1<=n/\n<l.length)(ho:B0C l n.toNat):A0e (WC gl) 108 [.list 5 (A2h l) .no,I n] M (λv M'=>v=I (A2Q l (n+1).toNat n)/\M'=M):=by
 refine A0m hB func108 ?_;obtain⟨R,hR⟩:∃R,R=A2Q l (n+1).toNat n:=⟨_,rfl⟩;rw[<-hR];simp -dsimp -implicitDefEqProofs;refine A7V hB (λT M1=>∃(m:Int) (f d:Nat),-1<=m/\m<=n/\(m+1).toNat<=f/\d+f<=1001/\T 0=.list 5 (A2h l) .no/\T 1=I m/\T 5=I d/\M1=M/\R=d+A2Q l f m) (λT M1=>match T 1 with|.val (.int _ i)=>(i+1).toNat|_=>0) (by kernel_rfl) ?_ ?_
 .exact⟨n,(n+1).toNat,0,by omega,by omega,by omega,by omega,by simp,by simp,by simp,rfl,by simp[hR]⟩
 .rintro T M1 ⟨m,f,d,m1,m2,f1,d1,t0,t1,t5,rfl,hr⟩;by_cases h0:m<0
  ·(have a:¬m>=0:=by omega);have b:¬0<=m:=by omega
   (have hz:A2Q l f m=0:=by cases f<;>simp[A2Q,h0]);rw[hz,Z0U]at hr
   simp -dsimp -implicitDefEqProofs[t0,t1,t5,a,b,hr]
  obtain⟨k,rfl⟩:∃k:Nat,m=k:=⟨m.toNat,by omega⟩;have a:(k:Int)>=0:=by omega
  have hk:k<l.length:=by omega
  obtain⟨f,rfl⟩:∃g,f=g+1:=⟨f-1,by omega⟩;obtain⟨q1,q2⟩:=ho k hk (by omega);have hp:A2w l k=l[k].parent:=by simp[A2w,hk]
  rw[A2Q,Z0e h0,hp]at hr;have w1:=A2s (i:=d) (by omega);simp -dsimp -implicitDefEqProofs[t0,t1,t5,a,hk,w1,A0Q.row];exact⟨⟨_,q1,by omega,f,by omega,d+1,by omega,rfl,rfl,by omega⟩,q2⟩
def D3G(l:List A0Q)(a b c:Nat)(n:Int)(M:Mem)(hl:l.length<=1000)(hn:-1<=n/\n<l.length)(ho:B0C l n.toNat):A0e (WC gl) 154 [B1j l a b c,I n] M (λv M'=>v=I (A2Q l (n+1).toNat n)/\M'=M):=by
 refine A0m hB func154 ?_;obtain⟨R,hR⟩:∃R,R=A2Q l (n+1).toNat n:=⟨_,rfl⟩;rw[<-hR];simp -dsimp -implicitDefEqProofs;refine A7V hB (λT M1=>∃(m:Int) (f d:Nat),-1<=m/\m<=n/\(m+1).toNat<=f/\d+f<=1001/\T 2=.cptr [.list 5 (A2h l) .no,.mapr a,.mapr b,.mapr c]/\T 1=I m/\T 5=I d/\M1=M/\R=d+A2Q l f m) (λT M1=>match T 1 with|.val (.int _ i)=>(i+1).toNat|_=>0) (by kernel_rfl) ?_ ?_
 .exact⟨n,(n+1).toNat,0,by omega,by omega,by omega,by omega,by simp,by simp,by simp,rfl,by simp[hR]⟩
 .rintro T M1 ⟨m,f,d,m1,m2,f1,d1,t0,t1,t5,rfl,hr⟩;by_cases h0:m<0
  ·(have e:¬m>=0:=by omega);have h:¬0<=m:=by omega
   (have hz:A2Q l f m=0:=by cases f<;>simp[A2Q,h0]);rw[hz,Z0U]at hr
   simp -dsimp -implicitDefEqProofs[t0,t1,t5,e,h,hr]
  obtain⟨k,rfl⟩:∃k:Nat,m=k:=⟨m.toNat,by omega⟩;have e:(k:Int)>=0:=by omega
  have hk:k<l.length:=by omega
  obtain⟨f,rfl⟩:∃g,f=g+1:=⟨f-1,by omega⟩;obtain⟨q1,q2⟩:=ho k hk (by omega);have hp:A2w l k=l[k].parent:=by simp[A2w,hk]
  rw[A2Q,Z0e h0,hp]at hr;have w1:=A2s (i:=d) (by omega);simp -dsimp -implicitDefEqProofs[t0,t1,t5,e,hk,w1,A0Q.row];exact⟨⟨_,q1,by omega,f,by omega,d+1,by omega,rfl,rfl,by omega⟩,q2⟩
end
def A9I(l:List A0Q)(n:Nat):ByteArray:=match l[n]? with
 |some s=>s.label
 |none=>⟨#[]⟩
def A3T(l:List A0Q)(p:Int)(i:Nat):List Nat:=(List.range i).filter λk=>decide (A2w l k=p)
def C2Z(F:IdD->Option A0a)(l:List A0Q)(n:Nat)(lab:ByteArray)(k:Nat):Bool:=decide (A9I l k=lab)&&decide (A4L F l k=A4L F l n)
def B5m(F:IdD->Option A0a)(uid:IdD)(l:List A0Q)(n:Nat):Int:=match l[n]? with
 |none=>0
 |some x=>
  if !(F x.id).isSome||decide (x.id=uid)then 4
  else if(l.take n).any λs=>decide (s.id=x.id)then 5
  else if decide (x.parent< -1)||decide ((n:Int)<=x.parent)then 12
  else if !A0X x.label then 1
  else if !A4v (A4L F l x.parent) (A4L F l n)then 9
  else if(A3T l x.parent n).any (C2Z F l n x.label)then 10
  else if decide (64<=(A3T l x.parent n).length)||decide (8<A2Q l (n+1) n)then 6
  else 0
def D1H(l:List A0Q)(p:Int)(i:Nat):A3T l p (i+1)=A3T l p i++if A2w l i=p then[i]else[]:=by simp only[A3T,Z2S,List.filter_append];by_cases h:A2w l i=p<;>simp[h]
def D2Y{l:List A0Q}{p:Int}{i k:Nat}(h:k<i)(hp:A2w l k=p):k∈A3T l p i:=by simp[A3T,h,hp]
def B0Q(l:List A0Q)(p:Int)(i:Nat):(A3T l p i).length<=i:=by have:=Z3v (λk:Nat=>decide (A2w l k=p)) (List.range i);simpa[A3T]using this
def A7z{l}{p}{i k}(h:k∈A3T l p i):k<i:=by simp[A3T]at h;exact h.1
section
variable (gl:Nat->AV)
end
def A9R(E:Nat->Int):Nat->Nat->Int
 |0,_=>0
 |r+1,i=>if E i=0 then A9R E r (i+1)else E i
def D3J{F:IdD->Option A0a}{uid}{l}{n}(hn:n<l.length)(h:B5m F uid l n=0):-1<=l[n].parent/\l[n].parent<n:=by
 simp only[B5m,Z0k hn]at h;split at h
 .simp at h
 split at h
 .simp at h
 split at h
 .simp at h
 rename_i h3;simp only[Z1A,Z0m,Z2L]at h3;omega
def C6E{F:IdD->Option A0a}{uid}{l}{n}(h:∀j,j<n->B5m F uid l j=0):∀j,j<n->B0C l j:=λj hj k hk hkj=>D3J hk (h k (by omega))
def A7F(F:IdD->Option A0a)(u:A0a)(l:List A0Q):Int:=
 if !B2A u then 11 else
 if A9R (B5m F u.id l) l.length 0=0 then(if(l.length:Int)=A0o u-1 then 0 else 13)else A9R (B5m F u.id l) l.length 0
section
variable (gl:Nat->AV)
end
end Go.Abs
