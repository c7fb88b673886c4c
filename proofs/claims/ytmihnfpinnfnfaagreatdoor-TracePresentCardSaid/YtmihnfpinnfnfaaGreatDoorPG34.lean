/- A part of the proof. -/
import Derived.Test.YtmihnfpinnfnfaaGreatDoorPG33
set_option linter.all false
set_option maxRecDepth 100000
namespace Go.Abs
open Go.Proofs TryTypes Tryz
section
variable (gl:Nat->AV)
set_option maxHeartbeats 1000000 in
def C0V(u:A0a)(x:IdD)(M:Mem)(hf:Fit u):A0c (WC gl) 212 [.agg u.row,.agg x.row] M (λv M'=>v=.list 3 (A6Y ((A1f x u).dropLast.reverse.map A0a.id)) .no/\M'=M):=by
 refine A0c.dataX ?_;have hx:x.row=[I x.act,I x.item,I x.n]:=rfl;have d:=B0V gl u x M hf.1 hf.2.2;have o:=A5y x u;have a5:=hf.2.2;rw[u.row_eq,hx]at d|-;obtain⟨r,hr⟩:=ex (A1f x u);rw[<-hr]at d o|-;have z:A2W prog 28 (A5g r)=some r.length:=by cases r<;>simp[A5g]
 refine A0t (hQ [25]) func212 ?_;simp -dsimp;refine A0h func99 d ?_;have w2:IntKind.i64.wrap ((r.length:Int)-2)=r.length-2:=by rw[A0R Q0 Q0]
 obtain⟨c,f⟩:=ex (r.dropLast.reverse.map A0a.id);have a4:c.length=r.length-1:=by rw[f];simp
 rw[<-f];simp -dsimp[z,w2];refine A0K (hQ [25]) (λT Mi=>∃i:Nat,i<=c.length/\T 6=A5g r/\T 7=I ((r.length:Int)-2-i)/\Grow M Mi/\Arr 23 3 IdD.row M.length Mi (T 5) (c.take i)) (λT Mi=>match T 7 with|.val (.int _ i)=>(i+1).toNat|_=>0) Q2 ?_ ?_
 .exact⟨0,Q0,Q1,Q1,Grow.refl _,by simpa using Arr.nil⟩
 rintro T Mi ⟨i,i1,t6,t7,k,ha⟩;by_cases hi:i<c.length;case neg=>obtain⟨zz,a3⟩:=ex ((r.length:Int)-2-i);rw[<-a3]at t7;have w:¬zz>=0:=Q0;rw[Z0e Q0]at ha;simp -dsimp[t6,t7,w];exact⟨k,A2T (enc:=IdD.row) (λ_=>rfl) C5O ha.own ha.lat⟩
 obtain⟨j,hj⟩:∃j:Nat,c.length=i+1+j:=⟨c.length-i-1,Q0⟩;have a0:(r.length:Int)-2-i=(j:Int):=Q0;have g:j<r.length:=Q0;have q:(j:Int)<r.length:=Q0;have a2:(j:Int)>=0:=Q0;rw[a0]at t7;obtain⟨y,hy⟩:=ex (r[j]);have l:A5g r=.list 8 (A0q r) .no:=by cases r with|nil=>simp at g|cons a b=>rfl
 have p:(A0q r)[j]?=some y.row:=by rw[A7O r j g,hy]
 have m:=y.row_eq;have t:r[j]=y:=hy.symm;rw[m]at p;have w1:IntKind.i64.wrap ((j:Int)-1)=(j:Int)-1:=by rw[A0R Q0 Q0]
 have s:c.take (i+1)=c.take i++[y.id]:=by rw[Z1p hi];congr 2;simp only[f,Z3A,List.getElem_reverse,List.getElem_dropLast,hy];congr 2;simp;omega
 generalize a1:T 5=ov at*;rw[l]at t6;simp -dsimp[t6,t7,a1,a2,p,t,m,g,q,A0w,A1e,A0o,A0n];refine A3u (C:=WC gl) (enc:=IdD.row) (e:=23) (sz:=3) (news:=[y.id]) C5A D2q D3k (λ_=>rfl) ha.own (by simp[A0D,IdD.row]) (by simp;omega) rfl ?_;intro v' M' h1 h2 h3 _;obtain⟨g1,g2⟩:=A2R (X:=[]) k ha.lat (by simpa using h2) (by simpa using h3);simp -dsimp[t6,t7,w1];refine⟨i+1,Q0,l.symm,?_,g1,by rw[s];exact⟨h1,g2⟩⟩;omega
end
end Go.Abs
