/- The texts CvP, CvM, CvN, CvO, CvQ, CvR, CvV, CvW, CsP, CsQ, CsT, CsU, CsW, CaD, CaG, CaH, CaK, CsA, CbU, EgP, CbT, CsL, CbG0, CbG, CbI, CbK0, CbL, CbM. -/
import Derived.Test.YtmihnfpinnfnfaaGreatDoorPG27
import Derived.Test.YtmihnfpinnfnfaaGreatDoorPG25
import Derived.Test.YtmihnfpinnfnfaaGreatDoorPG26
set_option linter.all false
namespace Go.Abs
section
variable {K:Type} [DecidableEq K]
def A8T(S:List K):List K->List K
 |[]=>S
 |x::r=>A8T (if S.any (λy=>decide (y=x))then S else S++[x]) r
def C4c:List K->List K->Bool
 |[],_=>true
 |x::r,b=>!(b.any λy=>decide (y=x))&&C4c r (b++[x])
def C1I{S:List K}{x:K}:(S.any λy=>decide (y=x))=decide (x∈S):=by rw[Z2u];simp
def A9a:∀(r S:List K) (x:K),x∈A8T S r<->x∈S\/x∈r
 |[],S,x=>by simp[A8T]
 |y::r,S,x=>by
  rw[A8T,A9a r];simp only[C1I,Z0m];by_cases h:y∈S
  .rw[Z0c h];simp only[Z0r];constructor
   .rintro(h1|h1)<;>simp[h1]
   .rintro(h1|rfl|h1)
    .exact .inl h1
    .exact .inl h
    .exact .inr h1
  .rw[Z0d h];simp only[Z0T,Z0r,Z1F,Z2K];exact or_assoc
def C2M:∀(r S:List K),(A8T S r).length<=S.length+r.length
 |[],S=>by simp[A8T]
 |y::r,S=>by rw[A8T];have:=C2M r (if S.any (λz=>decide (z=y))then S else S++[y]);split at this<;>simp_all<;>omega
def C0D:∀(r S:List K),(A8T S r).length=S.length+r.length<->C4c r S=true
 |[],S=>by simp[A8T,C4c]
 |y::r,S=>by
  rw[A8T,C4c];cases h:S.any λz=>decide (z=y)
  .rw[Z0d Q1];have:=C0D r (S++[y]);rw[Z3M,Z0V,<-this];simp only[Z0k,Z0q,Z1n];omega
  .rw[Z0c rfl];have:=C2M r S;simp only[Z3x,Z0J,Z1L,iff_false,Z0q];omega
def B8l:∀(r S:List K),S.Nodup->(A8T S r).Nodup
 |[],S,h=>by simpa[A8T]using h
 |y::r,S,h=>by
  rw[A8T];refine B8l r _ ?_;rw[C1I];split
  .exact h
  .rename_i hn;(have hn:y∉S:=by simpa using hn);refine Z2y.2 ⟨h,Q1,?_⟩;intro a ha b hb e;simp only[Z0r,Z1F,Z2K]at hb;subst hb;subst e;exact hn ha
omit [DecidableEq K]in
def C8h{l:List K}{z:K}(hn:l.Nodup)(hz:∀x∈l,x=z)(hm:z∈l):l.length=1:=by
 match l,hn,hz,hm with
 |[],_,_,hm=>simp at hm
 |[x],_,_,_=>rfl
 |x::y::l,hn,hz,_=>have h1:=hz x Q1;have h2:=hz y Q1;subst h1;subst h2;simp at hn
omit [DecidableEq K]in
def D4l{l:List K}{z:K}(h1:l.length=1)(hm:z∈l):∀x∈l,x=z:=by
 match l,h1 with
 |[y],_=>intro x hx;simp at hx hm;rw[hx,hm]
def D3i{l:List K}{z:K}(hl:l≠[]):(z∈l/\(A8T [] l).length=1)<->∀x∈l,x=z:=by
 constructor
 .rintro⟨hm,h1⟩ x hx;exact D4l h1 ((A9a l [] z).2 (.inr hm)) x ((A9a l [] x).2 (.inr hx))
 .intro h;obtain⟨a,r,rfl⟩:=Z3c hl;have hm:z∈a::r:=by rw[<-h a Q1];simp
  exact⟨hm,C8h (B8l _ _ .nil) (λx hx=>h x (by simpa using(A9a _ [] x).1 hx)) ((A9a _ [] z).2 (.inr hm))⟩
end
def idZ:IdD:=⟨0,0,0⟩
def C1l(u:A0a):Bool:=(decide (idZ∈A0T u)&&decide ((A8T [] (A0T u)).length=1))||(decide ((A8T [] (A0T u)).length=(A0T u).length)&&(decide (u.kind=0)==decide (u.id=idZ)))
def D8e(u:A0a):Bool:=(A0T u).all (λx=>decide (x=idZ))||((decide (u.id=idZ)==decide (u.kind=0))&&C4c (A0T u) [])
def D4M(u:A0a):A0T u≠[]:=by obtain⟨a,b,c,d,e,f⟩:=u;rw[A0T];simp
def D0r(u:A0a):C1l u=D8e u:=by have h1:=D3i (l:=A0T u) (z:=idZ) (D4M u);have h2:=C0D (A0T u) ([]:List IdD);simp only[Z1n,Z0P]at h2;rw[Z2u];simp only[C1l,D8e,Z1V,Z0h,Z0m,Z0D,Z3i];rw[h1,h2,and_comm,@eq_comm _ (decide (u.kind=0))]
set_option maxRecDepth 100000
open Go.Proofs TryTypes Tryz
def A2Y.len{K V:Type}{d:K->AV}{a:V->AV}{M:Mem}{b:Nat}{l:List (K×V)}(h:A2Y d a M b l){P:Program}{t kt et:TypeId}(ht:P.underlying t=some (.map kt et)):A4H P t M (.mapr b)=some l.length:=by obtain⟨es,c,h1,h2⟩:=h;have:=congrArg List.length h2;simp only[Z0N]at this;simp[A4H,ht,h1,this]
def A9e{P:Program}{t:TypeId}{b:Nat}:A2W P t (.mapr b)=none:=rfl
@[simp] def C0x:prog.eqGuardType prog.depth 23=false:=Q2
def C1B(a b:IdD):A1A prog .eql 23 (.agg [I a.act,I a.item,I a.n]) (.agg [I b.act,I b.item,I b.n])=some (B (decide (a=b))):=by
 have h0:A3f prog .eql 23 (.agg [I a.act,I a.item,I a.n]) (.agg [I b.act,I b.item,I b.n])=none:=by simp[A3f,A3P]
 have:=(C7v 338 4 Q2).eq a b;simp only[C7q,IdD.row]at this;simp only[A1A,h0,A4t,C0x,this];rfl
def C7b(a:IdD):A1A prog .eql 23 (.agg [I a.act,I a.item,I a.n]) (.agg [I 0,I 0,I 0])=some (B (decide (a=idZ))):=C1B a idZ
def C3E{K:Type}[DecidableEq K](c:K):∀A3l:List K,(A3l.any λy=>decide (y=c))=true->B1P (A3l.map λx=>(x,true)) c true=A3l.map λx=>(x,true)
 |[],h=>by simp at h
 |x::l,h=>by
  rw[Z0w,B1P];by_cases e:c=x
  .subst e;simp
  .rw[Z0d e];rw[Z3b,Z0I (λq=>e q.symm),Z2J]at h;rw[C3E c l h]
section
variable (gl:Nat->AV)
def D7z(u:A0a)(M:Mem)(hg:u.good)(hc:A0x u<=3000):A0c (WC gl) 293 [.agg u.row] M (λv M'=>v=B (C1l u)/\M'=M):=by
 have key:A0c (WC gl) 293 [.agg u.row] M (λv M'=>(∃x,v=.val x/\x=.bool (C1l u))/\Grow M M'):=by
  refine A1c hW func293 rfl rfl rfl rfl rfl rfl ?_;have q:=D2n gl u M hg hc;rw[u.row_eq]at q|-;have af:=A3C u;simp -dsimp -implicitDefEqProofs;refine A0v (A0m func131 rfl rfl q) ?_;rintro v M1 ⟨hv,a6,hL⟩;have c:A2W prog 61 v=some (A0T u).length:=hv.len (e':=23) Q1;have a8:A1p 23 3 IdD.row (M1++[.map [] 0]) v (A0T u):=hv.keep (A0d.app none M1 _) Q1;have a9:obj v≠some M1.length:=λe=>by have:=hv.lt e;omega
  simp -dsimp -implicitDefEqProofs[c];refine A0K hW (λT M2=>∃i:Nat,i<=(A0T u).length/\T 1=.cptr [I u.id.act,I u.id.item,I u.id.n,I u.kind,S u.label,.list 4 (A0i u.head) .no,.list 4 (A0i u.words) .no,.list 8 (A0q u.kids) .no]/\T 3=v/\T 4=.mapr M1.length/\T 11=v/\T 12=I (A0T u).length/\T 13=I i/\Grow M M2/\A1p 23 3 IdD.row M2 v (A0T u)/\
   ∃s,A2Y C7q B M2 M1.length (s.map λx=>(x,true))/\A8T [] (A0T u)=A8T s ((A0T u).drop i))
   (λT M1=>match T 13 with|.val (.int _ i)=>(A0T u).length-i.toNat|_=>0) Q2 ?_ ?_
  .exact⟨0,Q0,Q1,Q1,Q1,Q1,Q1,Q1,a6.trans (A0d.app none _ _),a8,[],A2Y.new M1,Q1⟩
  .rintro T M2 ⟨i,i1,t1,t3,t4,a2,a1,a0,d,a4,s,l,ho⟩;by_cases hi:i<(A0T u).length
   .have m:(i:Int)<(A0T u).length:=Q0;have w1:=A1Y (i:=i) Q0;obtain⟨p,p1,_,p2,_⟩:=a4.at_ (P:=prog) (t:=23) (λ_=>rfl) Q1 Q1 hi;have hd:=Z0o hi;rw[hd,A8T]at ho;obtain⟨x,hx⟩:=ex ((A0T u)[i]);rw[<-hx]at ho p2;have ab:x.row=[I x.act,I x.item,I x.n]:=rfl;rw[ab]at p2;(have ae:(M2++[A0l.cells 23 [I x.act,I x.item,I x.n]])[M2.length]?=some (A0l.cells 23 [I x.act,I x.item,I x.n]):=by simp);have a3:=l.keep (A0d.app none M2 [A0l.cells 23 [I x.act,I x.item,I x.n]]) Q1;have w:Grow M (M2++[A0l.cells 23 [I x.act,I x.item,I x.n]]):=d.trans (A0d.app none _ _);have ad:=a4.keep (A0d.app none M2 [A0l.cells 23 [I x.act,I x.item,I x.n]]) Q1;obtain⟨M4,q1,q2,q3⟩:=a3.put (C7v 338 4 Q2) x true;have a7:A1V prog 338 (M2++[A0l.cells 23 [I x.act,I x.item,I x.n]]) (.mapr M1.length) (.agg [I x.act,I x.item,I x.n]) (B true)=some M4:=q1;(have ac:Grow M M4:=by refine⟨Z0L w.1 q3.1,λj hj _=>?_⟩;rw[q3.2 j (by have:=w.1;omega) (by have:=a6.1;simp;omega)];exact w.2 j hj Q1);have aa:=ad.keep q3 (λf hf e=>a9 (by rw[hf,<-e]));simp -dsimp -implicitDefEqProofs[t1,t3,t4,a2,a1,a0,hi,m,p1,p2,A0j,A0k,A0e,A0o,A0n,A0b ae,a7,w1];refine⟨⟨i+1,Q3,rfl,ac,aa,if s.any (λy=>decide (y=x))then s else s++[x],?_,ho⟩,Q3⟩;cases hs:s.any λy=>decide (y=x)
    .rw[B4o x s hs]at q2;rw[Z0d Q1];exact q2
    .rw[Z0c rfl];have:B1P (s.map λx=>(x,true)) x true=s.map λx=>(x,true):=C3E x s hs;rw[this]at q2;exact q2
   .have m:¬(i:Int)<(A0T u).length:=Q0;rw[show(A0T u).drop i=[]from Z0y Q0,A8T]at ho;have hz:(s.any λy=>decide (y=idZ))=decide (idZ∈A0T u):=by rw[C1I,<-ho,Z2u];simp only[Z0m,A9a,Z1F,false_or]
    (have hR:C1l u=((decide (idZ∈A0T u)&&decide (s.length=1))||(decide (s.length=(A0T u).length)&&(decide (u.kind=0)==decide (u.id=idZ)))):=by rw[<-ho];rfl);obtain⟨R,a5⟩:=ex (C1l u)
    rw[<-a5]at hR|-;clear a5;have r:=l.get (C7v 338 4 Q2) idZ (z:=B false) Q2 false;rw[B4A,hz]at r;have a:A1S prog 338 M2 (.mapr M1.length) (.agg [I 0,I 0,I 0]) false=some (B (decide (idZ∈A0T u))):=by refine r.trans ?_;cases decide (idZ∈A0T u)<;>rfl
    (have g:A4H prog 338 M2 (.mapr M1.length)=some s.length:=by rw[l.len (kt:=23) (et:=4) Q1];simp);cases hzz:decide (idZ∈A0T u)
    .rw[hzz]at a hR;rw[Z0J,Z2J]at hR;simp -dsimp -implicitDefEqProofs[t1,t3,t4,a2,a1,a0,m,a];refine A0Z hW (A0E gl) (λk=>if k=3\/k=8 then 2 else 0) (λ_=>0) (by rfl) Q2 ?_;by_cases h2:s.length=(A0T u).length
     .have b:(s.length:Int)=((A0T u).length:Int):=Q0;rw[Z0B h2,Z0V]at hR;simp -dsimp -implicitDefEqProofs[t1,t3,t4,g,A9e,c,Z2o b,C7b];exact⟨by rw[hR];rfl,d⟩
     .have b:¬(s.length:Int)=((A0T u).length:Int):=Q0;rw[Z0I h2,Z0J]at hR;simp -dsimp -implicitDefEqProofs[t1,t3,t4,g,A9e,c,b,hR,d]
    .rw[hzz]at a hR;rw[Z0V]at hR;simp -dsimp -implicitDefEqProofs[t1,t3,t4,a2,a1,a0,m,a];refine A0Z hW (A0E gl) (λk=>if k=3\/k=8 then 2 else 0) (λ_=>0) (by rfl) Q2 ?_;by_cases h1:s.length=1
     .have o:(s.length:Int)=1:=Q0;rw[Z0B h1,Bool.true_or]at hR;simp -dsimp -implicitDefEqProofs[t1,t3,t4,g,A9e,c,Z2o o,Z2o h1,hR,d]
     have o:¬(s.length:Int)=1:=Q0;rw[Z0I h1,Z2J]at hR;by_cases h2:s.length=(A0T u).length
     .have b:(s.length:Int)=((A0T u).length:Int):=Q0;rw[Z0B h2,Z0V]at hR;simp -dsimp -implicitDefEqProofs[t1,t3,t4,g,A9e,c,h1,o,Z2o b,C7b];exact⟨by rw[hR];rfl,d⟩
     .have b:¬(s.length:Int)=((A0T u).length:Int):=Q0;rw[Z0I h2,Z0J]at hR;simp -dsimp -implicitDefEqProofs[t1,t3,t4,g,A9e,c,h1,o,b,hR,d]
 exact(B0R key).mono (by rintro v M' ⟨⟨x,rfl,rfl⟩,rfl⟩;exact⟨rfl,rfl⟩)
end
open Go.Proofs TryTypes
mutual
def A2a:A0a->List A0a
 |.mk id k l h w ks=>.mk id k l h w ks::A3p ks
def A3p:List A0a->List A0a
 |[]=>[]
 |k::ks=>A2a k++A3p ks
end
mutual
def A5n:∀u:A0a,(A2a u).map A0a.id=A0T u
 |.mk id _ _ _ _ ks=>by rw[A2a,A0T,Z0w,B3A ks];rfl
def B3A:∀ks:List A0a,(A3p ks).map A0a.id=A2N ks
 |[]=>by rw[A3p,A2N];rfl
 |k::ks=>by rw[A3p,A2N,Z1c,A5n k,B3A ks]
end
section
variable (gl:Nat->AV)
end
def A4O(u:A0a):Bool:=(A3H A8B (λ(_:Unit) _=>()) u ()).1
def A9Z(u:A0a):Bool:=A4O u&&decide (A1i u<=8)&&decide (A0x u<=1024)&&C1l u
def Fit(u:A0a):Prop:=u.good/\u.lims/\A0x u<=3000
def A3T(u:A0a)(h:u.lims):u.lim/\A4U u.kids:=by obtain⟨a,b,c,d,e,f⟩:=u;rw[A0a.lims]at h;exact h
section
variable (gl:Nat->AV)
theorem B8m(i:gl 2=A1C)(e:gl 8=A1U)(u:A0a)(M:Mem)(hf:Fit u):A0c (WC gl) 263 [.agg u.row] M (λv M'=>v=B (A9Z u)/\M'=M):=by
 obtain⟨hg,hl,hc⟩:=hf;have key:A0c (WC gl) 263 [.agg u.row] M (λv M'=>(∃x,v=.val x/\x=.bool (A9Z u))/\Grow M M'):=by
  refine A1c hB func263 rfl rfl rfl rfl rfl rfl ?_;have hR:A9Z u=(A4O u&&decide (A1i u<=8)&&decide (A0x u<=1024)&&C1l u):=rfl;simp -dsimp;refine A0v (A0m func214 rfl rfl (A9g gl 292 [] [] A8B (λ(_:Unit) _=>()) (λM1 _=>Grow M M1) (λ_ u=>u.lims) (λ_ ks=>A4U ks) ?_ ?_ ?_ ?_ ?_ u () M hg hl (A0d.refl _ _))) ?_
  .intro a u h;exact(A3T u h).2
  .intro a k ks h;rw[A4U]at h;exact h.1
  .intro a k ks h _;rw[A4U]at h;exact h.2
  .intro M1 a X h;exact h.trans (A0d.app none _ _)
  .intro u a M1 f g b;refine(A0m func292 rfl rfl (D2O gl M1 i e u f (A3T u g).1)).mono ?_;rintro _ _ ⟨rfl,h⟩;exact⟨rfl,b.trans h⟩
  .rintro _ M1 ⟨rfl,b⟩;have j:(A3H A8B (λ(_:Unit) _=>()) u ()).1=A4O u:=rfl;rw[j];cases h1:A4O u;(case false=>rw[h1]at hR;simp only[Z0J]at hR;simp -dsimp[hR,b]);rw[h1,Z0V]at hR;simp -dsimp;refine A0v (A0m func213 rfl rfl (B7v gl u M1 hg hc)) ?_;rintro _ _ ⟨⟨_,rfl,rfl⟩,rfl⟩;by_cases h2:A1i u<=8;(case neg=>have c:¬(A1i u:Int)<=8:=Q0;rw[Z0I h2]at hR;simp only[Z0J]at hR;simp -dsimp[c,hR,b]);have c:(A1i u:Int)<=8:=Q0;rw[Z0B h2,Z0V]at hR;simp -dsimp[c];refine A0v (A0m func130 rfl rfl (B8T gl u _ hg hc)) ?_;rintro _ _ ⟨rfl,rfl⟩;by_cases h3:A0x u<=1024;(case neg=>have d:¬(A0x u:Int)<=1024:=Q0;rw[Z0I h3]at hR;simp only[Z0J]at hR;simp -dsimp[d,hR,b]);have d:(A0x u:Int)<=1024:=Q0;rw[Z0B h3,Z0V]at hR;simp -dsimp[d];refine A0v (A0m func293 rfl rfl (D7z gl u _ hg hc)) ?_;rintro _ _ ⟨rfl,rfl⟩;simp -dsimp[hR,b]
 exact(B0R key).mono (by rintro v M' ⟨⟨x,rfl,rfl⟩,rfl⟩;exact⟨rfl,rfl⟩)
end
def C8s(id:IdD)(k:Int)(l:ByteArray)(h w:List A0z)(ks:List A0a):A4O (.mk id k l h w ks)=(A8B (.mk id k l h w ks)&&ks.all A4O):=by
 have hl:∀ks:List A0a,(A4c A8B (λ(_:Unit) _=>()) ks ()).1=ks.all A4O:=by
  intro ks;induction ks with
  |nil=>rw[A4c];rfl
  |cons k ks ih=>
   rw[A4c,Z2I];have:(A3H A8B (λ(_:Unit) _=>()) k ()).1=A4O k:=rfl;rw[this];cases A4O k
   .rfl
   .rw[Z0c rfl,Z0V];exact ih
 rw[A4O,A3H];cases A8B (.mk id k l h w ks)
 .rfl
 .rw[Z0c rfl,Z0V];exact hl ks
def C4d(u:A0a):(B9f u&&decide (u.kids.length<=64))=A2J u:=by
 unfold B9f A2J;by_cases k0:u.kind=0
 .rw[Z0c k0,Z0c k0,Z2u];simp only[Z0h,Z0m];constructor
  .rintro⟨⟨h1,h2⟩,h3⟩;have hh:u.head=[]:=Z0v Q0;have hw:u.words=[]:=Z0v Q0;rw[hh,hw];exact⟨⟨⟨⟨Q0,h3⟩,rfl⟩,rfl⟩,⟨h1,rfl⟩,rfl⟩
  .rintro⟨⟨⟨⟨_,h3⟩,_⟩,_⟩,⟨h1,h4⟩,h5⟩;exact⟨⟨h1,Q0⟩,h3⟩
 .rw[Z0d k0,Z0d k0,Z2u];simp only[Z0h,Z0m];constructor
  .rintro⟨⟨⟨⟨h1,h2⟩,h3⟩,h4⟩,h5⟩;exact⟨⟨⟨⟨Q0,h5⟩,h3⟩,h4⟩,h2⟩
  .rintro⟨⟨⟨⟨h1,h5⟩,h3⟩,h4⟩,h2⟩;exact⟨⟨⟨⟨Q0,h2⟩,h3⟩,h4⟩,h5⟩
def B6v(kind:Int):∀(ks b:List A0a),(∀k∈ks,A4O k=A1o k)->(A8c kind ks (b.map λu=>(u.kind,u.label))&&ks.all A4O)=A4g kind ks b
 |[],_,_=>by rw[A8c,A4g];rfl
 |k::ks,b,h=>by
  have ih:=B6v kind ks (b++[k]) λx hx=>h x (by simp[hx]);rw[Z1c]at ih;have ih:(A8c kind ks (b.map (λu=>(u.kind,u.label))++[(k.kind,k.label)])&&ks.all A4O)=A4g kind ks (b++[k]):=ih;rw[A8c,A4g,<-ih,Z2I,h k Q1];have ha:((b.map λu=>(u.kind,u.label)).any λy=>decide (y=(k.kind,k.label)))=b.any λa=>A8F a k:=by rw[List.any_map];congr 1;funext a;simp only[Function.comp,A8F,Z0g,Z4m]
  rw[ha];cases A4h kind k.kind<;>cases A1o k<;>cases(b.any λa=>A8F a k)<;>simp
def B1k:∀u:A0a,A4O u=A1o u
 |.mk id k l h w ks=>by
  have ih:∀x∈ks,A4O x=A1o x:=λx hx=>by have:=A0a.kid_lt (u:=.mk id k l h w ks) hx;exact B1k x
  have h1:=B6v k ks [] ih;have h2:=C4d (.mk id k l h w ks);rw[C8s,A1o,<-h1,<-h2];show(B9f (.mk id k l h w ks)&&A8c k ks []&&decide (ks.length<=64)&&ks.all A4O)=(B9f (.mk id k l h w ks)&&decide (ks.length<=64)&&(A8c k ks []&&ks.all A4O));cases B9f (.mk id k l h w ks)<;>cases A8c k ks []<;>cases decide (ks.length<=64)<;>simp
termination_by u=>SizeOf.sizeOf u
mutual
def A0O(x:IdD):A0a->Option A0a
 |.mk id k l h w ks=>if id=x then some (.mk id k l h w ks)else A6r x ks
def A6r(x:IdD):List A0a->Option A0a
 |[]=>none
 |k::ks=>match A0O x k with
  |some v=>some v
  |none=>A6r x ks
end
def zU:List AV:=[I 0,I 0,I 0,I 0,S ⟨#[]⟩,.val (.slice none 0 0),.val (.slice none 0 0),.val (.slice none 0 0)]
def A4z:Option A0a->List AV
 |some u=>u.row
 |none=>zU
def A2v(n:Nat)(l:List A0z):A4f n (A0i l):=by
 induction l with
 |nil=>simp[A0i,A4f]
 |cons w l ih=>simp only[A0i,Z0w,A4f];exact⟨by simp[A0z.row,A1l,bdd],ih⟩
mutual
def A1I(n:Nat):∀u:A0a,A1l n u.row
 |.mk id k l h w ks=>by rw[A0a.row];simp only[A1l,bdd,Z1z,Z2B];exact⟨A2v n h,A2v n w,A8U n ks⟩
def A8U(n:Nat):∀l:List A0a,A4f n (A0q l)
 |[]=>by rw[A0q];simp[A4f]
 |u::l=>by rw[A0q];exact⟨A1I n u,A8U n l⟩
end
def C8u(n:Nat)(o:Option A0a):A1l n (A4z o):=by
 cases o with
 |none=>simp[A4z,zU,A1l,bdd]
 |some u=>exact A1I n u
def A2e{C:Ctx}{f:FuncId}{args:List AV}{M:Mem}{r:AV}(hb:∀n,bdd n r)(h:A0c C f args M (λv M'=>v=r/\Grow M M')):A0c C f args M (λv M'=>v=r/\M'=M):=by
 refine h.cut ?_;rintro _ M' ⟨rfl,hg⟩;refine⟨M'.drop M.length,?_,hb _,rfl,rfl⟩;have ht:M'.take M.length=M:=by
  apply Z1J;intro i;rw[Z0x];split
  .rename_i hi;exact hg.2 i hi Q1
  .rename_i hi;exact(Z1w Q0).symm
 have:=Z1b M.length M';rw[ht]at this;exact this.symm
@[simp] def E2g:A0A prog 30 []=some (.agg zU):=by
 simp[A0A,A1m];rfl
def A0r{M:Mem}{b:Nat}{t:TypeId}{cs:List AV}(h:b<M.length):A2r (M.set b (.cells t cs)) (.ptr b 0)=some cs:=by simp[A2r,h]
def A0u{M M1:Mem}{b:Nat}{X:A0l}(h:Grow M M1)(hb:M.length<=b):Grow M (M1.set b X):=⟨by simpa using h.1,λi hi _=>by rw[Z0f Q0];exact h.2 i hi Q1⟩
@[simp] def E4H:zU.length=8:=(rfl)
@[simp] def E1w:List.take 8 zU=zU:=(rfl)
section
variable (gl:Nat->AV)
end
def D7C:A8P prog 30=some (.agg zU):=by simp[A8P];rfl
section
variable (gl:Nat->AV)
end
section
variable (gl:Nat->AV)
def E1u:A8P prog 3=some (I 0):=Q2
end
section
mutual
def A9d(x:IdD):∀u:A0a,A0O x u=(A2a u).find? λv=>decide (v.id=x)
 |.mk id k l h w ks=>by
  rw[A0O,A2a,List.find?_cons];have a:(A0a.mk id k l h w ks).id=id:=rfl;rw[a];by_cases c:id=x
  .rw[Z0c c,Z0B c]
  .rw[Z0d c,Z0I c];exact C0P x ks
def C0P(x:IdD):∀ks:List A0a,A6r x ks=(A3p ks).find? λv=>decide (v.id=x)
 |[]=>by rw[A6r,A3p];rfl
 |k::ks=>by rw[A6r,A3p,List.find?_append,A9d x k,C0P x ks];cases(A2a k).find? (λv=>decide (v.id=x))<;>rfl
end
def B2w:A1b prog 82=some 3:=Q2
section
variable (gl:Nat->AV)
end
end
def D9w(s:ByteArray):ByteArray:=if s.size=0 then s else if D6X (A2l s (s.size-1))then s.extract 0 (s.size-1)else s
def D7a(s:ByteArray):Bool:=decide (s.size=0)||!D6X (A2l s (s.size-1))
def A3Z:A1n:=⟨0,⟨#[]⟩⟩
def B6g{α:Type}{o:Option α}(h:∀x,o≠some x):o=none:=by
 cases o with
 |none=>rfl
 |some x=>exact absurd rfl (h x)
def D9B:List ByteArray->List ByteArray
 |[]=>[]
 |s::r=>D9w s::(if D7a s then D9B r else[])
def A3l(l:List ByteArray)(at_:Nat)(en:Bool):List ByteArray:=if en=true then[]else D9B (l.drop at_)
section
variable (gl:Nat->AV)
@[simp] def D8F{k:Int}{t:ByteArray}:A0A prog 89 [(0,I k),(1,S t)]=some (.agg [I k,S t]):=by simp[A0A,A1m,putCells,A0e]
end
section
variable (gl:Nat->AV)
@[simp] def D8A{k:Int}:A0A prog 89 [(0,I k)]=some (.agg [I k,S ⟨#[]⟩]):=by simp[A0A,A1m,putCells,A0e]
end
abbrev A0B:AV:=.val (.slice none 0 0)
section
variable (gl:Nat->AV)
end
def hL:A2j:=⟨λd=>!(d==20),λ_=>true,λ_=>false⟩
section
variable (gl:Nat->AV)
end
section
end
section
end
section
end
def A0c.dataX{C:Ctx}{f:FuncId}{args:List AV}{M:Mem}{X:AV}(h:A0c C f args M (λv M'=>Grow M M'/\Still M' M.length (bdd M.length) [v] [X])):A0c C f args M (λd M'=>d=X/\M'=M):=A0c.data (Q:=λd=>d=X) (h.mono λ_ _ h=>⟨h.1,X,h.2,rfl⟩)
def C4u(n:Nat)(x:A1n):A1l n x.row:=by simp[A1n.row,A1l,bdd]
def C5O(n:Nat)(x:IdD):A1l n x.row:=by simp[IdD.row,A1l,bdd]
def A2T{α:Type}{M:Mem}{n e sz:Nat}{enc:α->List AV}{v:AV}{l:List α}(he:∀x,(enc x).length=sz)(hb:∀n x,A1l n (enc x))(h:A1p e sz enc M v l)(hn:A1K n v):Still M n (bdd n) [v] [.list sz (l.map enc) .no]:=Still.rows he (λx c hc=>bddL_mem (hb n x) hc) h hn .nil
where
 bddL_mem {n:Nat}:∀{cs:List AV} {c:AV},A1l n cs->c∈cs->bdd n c
  |d::cs,c,h,hc=>by
   simp only[A1l]at h;rcases Z0r.1 hc with rfl|hc
   .exact h.1
   .exact bddL_mem h.2 hc
abbrev A6Y(l:List IdD):List (List AV):=l.map IdD.row
def C3q(x:A0L):A7i [] x=[x]:=rfl
def C1J(A:List A0L)(y x:A0L):A7i (A++[y]) x=if x.1<=y.2 then A++[(y.1,max y.2 x.2)]else A++[y]++[x]:=by simp[A7i]
def C8P{l:List A0L}{x:A0L}(h:x∈A6U l):0<=x.1/\x.1<x.2/\x.2<=A3n:=by simp only[A6U,Z1u,Z0H,Z0m]at h;obtain⟨⟨y,_,rfl⟩,h2⟩:=h;simp only[A6E]at h2|-;omega
def B1z:∀(K c:List A0L),A5U c->(∀x∈K,0<=x.1/\x.1<x.2/\x.2<=A3n)->K.Pairwise (λa b=>a.1<b.1)->(∀y,c.getLast?=some y->∀x∈K,y.1<x.1)->A5U (K.foldl A7i c)
 |[],c,h,_,_,_=>h
 |x::K,c,h,hK,hp,hl=>by
  rw[Z1d]at hp;rw[Z2t];have hx:=hK x Q1;rcases Z2W c with rfl|⟨A,y,rfl⟩
  .rw[C3q];refine B1z K [x] ⟨λz hz=>by rw[Z0R.1 hz];exact hx,Q1⟩ (λz hz=>hK z (by simp[hz])) hp.2 λy hy z hz=>?_;simp only[Z3o,Z0b]at hy;subst hy;exact hp.1 z hz
  .rw[Z4u]at h hl|-;have e:y.1<x.1:=hl y Q1 x Q1;have hy:=h.1 y Q1;obtain⟨hA,_,d⟩:=Z3J.1 h.2;rw[C1J];split
   .refine B1z K _ ⟨λz hz=>?_,?_⟩ (λz hz=>hK z (by simp[hz])) hp.2 λw hw z hz=>?_
    .rcases Z0T.1 hz with hz|hz
     .exact h.1 z (Z2v _ hz)
     .rw[Z0R.1 hz];simp only;omega
    .rw[Z3J];exact⟨hA,Q1,λa ha b hb=>by rw[Z0R.1 hb];exact d a ha y Q1⟩
    .simp only[List.getLast?_append,Z3o,Z4s,Z0b]at hw;subst hw;have:=hp.1 z hz;simp only;omega
   .rename_i hc;refine B1z K _ ⟨λz hz=>?_,?_⟩ (λz hz=>hK z (by simp[hz])) hp.2 λw hw z hz=>?_
    .rcases Z0T.1 hz with hz|hz
     .exact h.1 z hz
     .rw[Z0R.1 hz];exact hx
    .rw[Z3J];refine⟨h.2,Q1,λa ha b hb=>?_⟩;rw[Z0R.1 hb];rcases Z0T.1 ha with ha|ha
     .have:=d a ha y Q1;omega
     .rw[Z0R.1 ha];omega
    .simp only[List.getLast?_append,Z3o,Z4s,Z0b]at hw;subst hw;exact hp.1 z hz
def A8n{l:List A0L}(h:Asc l):A5U (A4a l):=B1z _ [] ⟨Q1,.nil⟩ (λx hx=>C8P hx) h Q1
def A5U.asc{l:List A0L}(h:A5U l):l.Pairwise λa b=>a.1<b.1:=by have h1:=h.1;have h2:=h.2;rw[Z2O]at h2|-;intro i j hi hj c;have:=h2 i j hi hj c;have:=h1 l[i] (Z0u hi);omega
def C6N{l:List A0L}(h0:∀x∈l,0<=x.1)(h:l.Pairwise λa b=>a.1<b.1):Asc l:=by unfold Asc A6U;refine List.Pairwise.filter _ ?_;rw[Z3Z];refine h.imp_of_mem λ{a b} ha hb hab=>?_;have:=h0 a ha;have:=h0 b hb;simp only[A6E];omega
def B6q(x:A0L):Asc [x]:=by
 unfold Asc;have:(A6U [x]).length<=1:=by have:=Z1s (λx:A0L=>decide (x.1<x.2)) ([x].map A6E);simpa[A6U]using this
 match h:A6U [x]with
 |[]=>exact .nil
 |[a]=>simp
 |a::b::l=>rw[h]at this;simp at this
def A5U.asc'{l:List A0L}(h:A5U l):Asc l:=C6N (λx hx=>(h.1 x hx).1) h.asc
def B9L:∀(l:List A0L) (k:Int),A5U l->0<=k->k<=A3n+1->(∀x∈l,k<=x.1)->(2*l.length:Nat)<=A3n+1-k
 |[],k,_,h0,h1,_=>by simp;omega
 |x::l,k,h,h0,h1,hk=>by have h2:=h.2;rw[Z1d]at h2;have hx:=h.1 x Q1;have a:=hk x Q1;have:=B9L l (x.2+1) ⟨λz hz=>h.1 z (by simp[hz]),h2.2⟩ Q0 Q0 (λz hz=>by have:=h2.1 z hz;omega);simp only[Z0q];omega
def A4N{l:List A0L}(h:A5U l):l.length<=524289:=by have hF:A3n=1048577:=rfl;have:=B9L l 0 h Q0 Q0 (λx hx=>(h.1 x hx).1);omega
def B7J:∀{l:List Int},l.Pairwise (·<=·)->(A2V l).Pairwise (·<·)/\(∀x∈A2V l,x∈l)
 |[],_=>by simp[A2V]
 |[x],_=>by simp[A2V]
 |x::y::l,h=>by
  rw[Z1d]at h;obtain⟨i1,i2⟩:=B7J h.2;rw[A2V];split
  .exact⟨i1,λz hz=>Z1y _ (i2 z hz)⟩
  .rename_i hne;refine⟨Z1d.2 ⟨λz hz=>?_,i1⟩,λz hz=>?_⟩
   .have a:=i2 z hz;have c:=h.1 y Q1;rcases Z0r.1 a with rfl|b
    .omega
    .have:=(Z1d.1 h.2).1 z b;omega
   .rcases Z0r.1 hz with rfl|hz
    .simp
    .exact Z1y _ (i2 z hz)
def B2T(c:Bool->Bool->Bool)(a b:List A0L):∀l:List Int,l.Pairwise (·<·)->(A3M c a b l).Pairwise (λx y=>x.1<y.1)/\∀x∈A3M c a b l,x.1∈l
 |[],_=>by simp[A3M]
 |[x],_=>by simp[A3M]
 |x::y::l,h=>by
  rw[Z1d]at h;obtain⟨i1,i2⟩:=B2T c a b (y::l) h.2;rw[A3M];split
  .refine⟨Z1d.2 ⟨λz hz=>h.1 _ (i2 z hz),i1⟩,λz hz=>?_⟩;rcases Z0r.1 hz with rfl|hz
   .simp
   .exact Z1y _ (i2 z hz)
  .exact⟨i1,λz hz=>Z1y _ (i2 z hz)⟩
def B8P(c:Bool->Bool->Bool)(a b:List A0L):∀l:List Int,(A3M c a b l).length<=l.length
 |[]=>by simp[A3M]
 |[x]=>by simp[A3M]
 |x::y::l=>by
  have:=B8P c a b (y::l);rw[A3M];split
  .simp only[Z0q]at this|-;omega
  .simp only[Z0q]at this|-;omega
def C7F(a b:AV):Prop:=∀f,obj a=some f->obj b≠some f
structure Arr {α:Type} (e sz:Nat) (enc:α->List AV) (n:Nat) (M:Mem) (v:AV) (l:List α):Prop where
 own:A1p e sz enc M v l
 lat:A1K n v
section
variable {α β:Type} {e e2 sz sz2 n:Nat} {enc:α->List AV} {enc2:β->List AV} {M M':Mem} {v v' u:AV} {l news:List α} {r:List β}
def Arr.nil:Arr e sz enc n M (.val (.slice none 0 0)) []:=⟨.nil,λf h=>by simp at h⟩
def Arr.keep(h:Arr e sz enc n M v l)(hk:Grow M M'):Arr e sz enc n M' v l:=⟨h.own.keep hk Q1,h.lat⟩
def Arr.later(h:Arr e sz enc n M v l)(hn:n<=M.length)(h3:obj v'=obj v\/A1K M.length v'):A1K n v':=λf hf=>by
 rcases h3 with h3|h3
 .exact h.lat f (h3▸hf)
 .have:=h3 f hf;omega
def Arr.grow{M0:Mem}(h:Arr e sz enc M0.length M v l)(hg:Grow M0 M)(hk:A0d (obj v) M M'):Grow M0 M':=⟨Z0L hg.1 hk.1,λi hi _=>by rw[hk.2 i (by have:=hg.1;omega) (λe=>by have:=h.lat _ e;omega)];exact hg.2 i hi Q1⟩
end
section
end
def D3j(n:Nat)(s:ByteArray):A1l n (A7P s):=by simp[A7P,A1l,bdd]
section
end
section
end
def D4f(u:A0a):Bool:=if u.kind=0 then decide (u.label.size=0)&&decide (u.head.length=0)&&decide (u.words.length=0)else decide (0<u.kind/\u.kind<=7)&&A1u u.label&&A3a u.head&&A3a u.words
mutual
def D7G(d:Nat):A0a->Bool
 |.mk id k l h w ks=>!decide (8<d)&&!(decide (0<d)&&decide (k=0))&&D4f (.mk id k l h w ks)&&decide (ks.length<=64)&&D3D k d ks []
def D3D(kind:Int)(d:Nat):List A0a->List A0a->Bool
 |[],_=>true
 |k::ks,before=>A4h kind k.kind&&D7G (d+1) k&&!(before.any λa=>A8F a k)&&D3D kind d ks (before++[k])
end
def B6b(t:ByteArray):ByteArray:=if A2l t 0=124\/A2l t 0=92 then⟨#[92]⟩++t else t
def B0z(s:ByteArray)(ws:List A0z):ByteArray:=ws.foldl (λs w=>s++⟨#[32]⟩++B6b w.text) s
def C2F(a b c:ByteArray):a++b++c=a++(b++c):=by apply ByteArray.ext;simp[ByteArray.data_append,Array.append_assoc]
def B3P:Nat->ByteArray
 |0=>⟨#[]⟩
 |d+1=>B3P d++⟨#[32,32]⟩
def A8X:List ByteArray:=[⟨#[98,111,111,107]⟩,⟨#[112,97,114,116]⟩,⟨#[115,101,99,116,105,111,110]⟩,⟨#[112,97,114,97,103,114,97,112,104]⟩,⟨#[116,97,98,108,101]⟩,⟨#[114,111,119]⟩,⟨#[99,101,108,108]⟩,⟨#[110,111,116,101]⟩]
def B2b(u:A0a)(d:Nat):ByteArray:=B3P d++A8X.getD u.kind.toNat ⟨#[]⟩
def A8l(u:A0a)(d:Nat):ByteArray:=if u.kind=0 then B2b u d else B2b u d++(⟨#[32]⟩++u.label)
def A6T(u:A0a)(d:Nat):ByteArray:=if u.head.length=0 then A8l u d else B0z (A8l u d++⟨#[58]⟩) u.head
def A6p(u:A0a)(d:Nat):ByteArray:=if u.words.length=0 then A6T u d else B0z (A6T u d++⟨#[32,124]⟩) u.words
mutual
def A5E(d:Nat):A0a->List ByteArray
 |.mk id k l h w ks=>A6p (.mk id k l h w ks) d::A5I (d+1) ks
def A5I(d:Nat):List A0a->List ByteArray
 |[]=>[]
 |k::ks=>A5E d k++A5I d ks
end
def A6L(l:List ByteArray):Nat:=(l.map λs=>s.size+1).foldr (·+·) 0
@[simp] theorem L9z:A6L []=0:=(rfl)
@[simp] def B0Q(s:ByteArray)(l:List ByteArray):A6L (s::l)=s.size+1+A6L l:=(rfl)
def C5E(a b:List ByteArray):A6L (a++b)=A6L a+A6L b:=by
 induction a with
 |nil=>simp
 |cons s a ih=>simp[ih];omega
def D3c(t:ByteArray):(B6b t).size<=t.size+1:=by
 have e:(⟨#[92]⟩:ByteArray).size=1:=rfl;unfold B6b;split
 .rw[Z0K,e];omega
 .omega
def A9h:∀(ws:List A0z) (s:ByteArray),(∀w∈ws,w.text.size<=24)->(B0z s ws).size<=s.size+26*ws.length
 |[],s,_=>by simp[B0z]
 |w::ws,s,h=>by have h1:=A9h ws (s++⟨#[32]⟩++B6b w.text) λx hx=>h x (by simp[hx]);have h2:=h w Q1;have h3:=D3c w.text;have e:B0z s (w::ws)=B0z (s++⟨#[32]⟩++B6b w.text) ws:=rfl;have e2:(⟨#[32]⟩:ByteArray).size=1:=rfl;rw[e];simp only[Z0K,Z0q,e2]at h1|-;omega
def B2E:∀d,(B3P d).size=2*d
 |0=>rfl
 |d+1=>by have e2:(⟨#[32,32]⟩:ByteArray).size=2:=rfl;rw[B3P,Z0K,B2E d,e2];omega
section
variable {α β:Type} {sz sz2 n q:Nat} {enc:α->List AV} {enc2:β->List AV} {M M':Mem} {v v' u:AV} {l l':List α} {r:List β}
end
def A4x.setq{n q:Nat}{A B:Mem}(h:A4x n A B){X:A0l}(hq:n<=q):A4x n A (B.set q X):=⟨by simpa using h.1,λi hi=>by rw[Z0f Q0];exact h.2 i hi⟩
def A4x.grow{n:Nat}{M A B:Mem}(h:A4x n A B)(hg:Grow M A)(hn:M.length<=n):Grow M B:=⟨Z0L hg.1 h.1,λi hi _=>by rw[h.2 i Q0];exact hg.2 i hi Q1⟩
abbrev ouC(k:Int)(lab:ByteArray)(hv wv kv:AV):A0l:=.cells 30 [I 0,I 0,I 0,I k,S lab,hv,wv,kv]
abbrev z8:A0l:=ouC 0 ⟨#[]⟩ A0B A0B A0B
section
variable (gl:Nat->AV)
end
def A4B(n:Nat)(w:A0z):A1l n w.row:=by simp[A0z.row,A1l,bdd]
section
variable (gl:Nat->AV)
end
def D6K(w:A0z):Prop:=w.act=0/\w.item=0/\w.at_=0
mutual
def B6z:A0a->Prop
 |.mk id _ _ h w ks=>id=idZ/\(∀x∈h,D6K x)/\(∀x∈w,D6K x)/\B6M ks
def B6M:List A0a->Prop
 |[]=>True
 |k::ks=>B6z k/\B6M ks
end
mutual
def C3r:∀u:A0a,B6z u->∀x∈A0T u,x=idZ
 |.mk id _ _ _ _ ks,h,x,hx=>by
  rw[B6z]at h;rw[A0T]at hx;rcases Z0r.1 hx with rfl|hx
  .exact h.1
  .exact C0O ks h.2.2.2 x hx
def C0O:∀ks:List A0a,B6M ks->∀x∈A2N ks,x=idZ
 |[],_,x,hx=>by rw[A2N]at hx;simp at hx
 |k::ks,h,x,hx=>by
  rw[B6M]at h;rw[A2N]at hx;rcases Z0T.1 hx with hx|hx
  .exact C3r k h.1 x hx
  .exact C0O ks h.2 x hx
end
def C9O{u:A0a}(h:B6z u):C1l u=true:=by rw[D0r];unfold D8e;rw[show(A0T u).all (λx=>decide (x=idZ))=true from Z0D.2 λx hx=>Z0B (C3r u h x hx)];rfl
def B0m(u:A0a):Bool:=A1o u&&decide (A1i u<=8)&&decide (A0x u<=1024)
def B8W{u:A0a}(h:B6z u):A9Z u=B0m u:=by rw[A9Z,C9O h,Bool.and_true,B1k];rfl
def A7k:A0a->A0a
 |.mk _ k l h w _=>.mk idZ k l h w []
def C7W{u:A0a}(h:A2J u=true):B0m (A7k u)=true:=by
 obtain⟨a,b,c,d,e,f⟩:=u;have h2:A2J (.mk idZ b c d e [])=true:=by unfold A2J at h|-;simp only[Z0h,Z0m]at h|-;exact⟨⟨⟨⟨h.1.1.1.1,by simp[A0a.kids]⟩,h.1.1.2⟩,h.1.2⟩,h.2⟩
 simp only[A7k,B0m,A1o,A4g,h2,A1i,A1L,A0x,A0H];rfl
def C3F(u:A0a):Int:=if B0m u=true then if 16384<A6L (A5E 0 u)then 6 else 0 else 1
def A3q{α:Type}(e sz:Nat)(enc:α->List AV)(n:Nat)(M:Mem)(v:AV)(l:List α):Prop:=(v=.list sz [] .no/\l=[])\/Arr e sz enc n M v l
section
variable {α:Type} {e sz n:Nat} {enc:α->List AV} {M M':Mem} {v:AV} {l:List α}
def A3q.store(h:A3q e sz enc n M v l):v.storable=true:=by
 rcases h with⟨rfl,rfl⟩|h
 .rfl
 .exact h.own.store
def A3q.cells(h:A3q e sz enc n M v l):v.cells=[v]:=by
 rcases h with⟨rfl,rfl⟩|h
 .rfl
 .exact h.own.cells
def A3q.len(h:A3q e sz enc n M v l){P:Program}{t e':TypeId}(ht:P.underlying t=some (.slice e')):A2W P t v=some l.length:=by
 rcases h with⟨rfl,rfl⟩|h
 .simp[A2W,ht]
 .exact h.own.len ht
def A3q.keep(h:A3q e sz enc n M v l)(hk:Grow M M'):A3q e sz enc n M' v l:=by
 rcases h with h|h
 .exact .inl h
 .exact .inr (h.keep hk)
def A3q.stay(h:A3q e sz enc n M v l)(hk:∀f,obj v=some f->M'[f]?=M[f]?):A3q e sz enc n M' v l:=by
 rcases h with h|⟨h1,h2⟩
 .exact .inl h
 .refine .inr ⟨?_,h2⟩;rcases h1 with h1|⟨f,g,a,rfl,hm,hl⟩
  .exact .inl h1
  .exact .inr ⟨f,g,a,rfl,by rw[hk f rfl];exact hm,hl⟩
def A3q.still(h:A3q e sz enc n M v l)(he:∀x,(enc x).length=sz)(hb:∀n x,A1l n (enc x)){cs ds:List AV}(hr:Still M n (bdd n) cs ds):Still M n (bdd n) (v::cs) (.list sz (l.map enc) .no::ds):=by
 rcases h with⟨rfl,rfl⟩|h
 .exact .same (by simp[bdd,A4f]) hr
 .exact Still.append (a:=[v]) (b:=[.list sz (l.map enc) .no]) (A2T he hb h.own h.lat) hr
end
def A3q.lat{α:Type}{e sz n:Nat}{enc:α->List AV}{M:Mem}{v:AV}{l:List α}(h:A3q e sz enc n M v l):A1K n v:=by
 rcases h with⟨rfl,rfl⟩|h
 .intro f hf;simp[obj]at hf
 .exact h.lat
def A3q.lt{α:Type}{e sz n:Nat}{enc:α->List AV}{M:Mem}{v:AV}{l:List α}(h:A3q e sz enc n M v l){f:Nat}(hf:obj v=some f):f<M.length:=by
 rcases h with⟨rfl,rfl⟩|h
 .simp[obj]at hf
 .exact h.own.lt hf
def A3q.weak{α:Type}{e sz n m:Nat}{enc:α->List AV}{M:Mem}{v:AV}{l:List α}(h:A3q e sz enc n M v l)(hm:m<=n):A3q e sz enc m M v l:=by
 rcases h with h|⟨h1,h2⟩
 .exact .inl h
 .exact .inr ⟨h1,λf hf=>by have:=h2 f hf;omega⟩
def Arr.stay{α:Type}{e sz n:Nat}{enc:α->List AV}{M M':Mem}{v:AV}{l:List α}(h:Arr e sz enc n M v l)(hk:∀f,obj v=some f->M'[f]?=M[f]?):Arr e sz enc n M' v l:=by
 obtain⟨h1,h2⟩:=h;refine⟨?_,h2⟩;rcases h1 with h1|⟨f,g,a,rfl,hm,hl⟩
 .exact .inl h1
 .exact .inr ⟨f,g,a,rfl,by rw[hk f rfl];exact hm,hl⟩
abbrev A3m(u:A0a)(kv:AV):List AV:=[I u.id.act,I u.id.item,I u.id.n,I u.kind,S u.label,.list 4 (A0i u.head) .no,.list 4 (A0i u.words) .no,kv]
def B9k(ks:List A0a)(kv:AV):Prop:=kv=.list 8 (A0q ks) .no\/(ks=[]/\kv=A0B)
def B9k.len{ks:List A0a}{kv:AV}(h:B9k ks kv):A2W prog 28 kv=some ks.length:=by rcases h with rfl|⟨rfl,rfl⟩<;>simp
def B9k.store{ks:List A0a}{kv:AV}(h:B9k ks kv):kv.storable=true:=by rcases h with rfl|⟨rfl,rfl⟩<;>rfl
def B9k.cells{ks:List A0a}{kv:AV}(h:B9k ks kv):kv.cells=[kv]:=by rcases h with rfl|⟨rfl,rfl⟩<;>rfl
structure D1l (M:Mem) (u:A0a) (hv wv kv:AV) (M':Mem):Prop where
 grow:Grow M M'
 h:A3q 233 4 A0z.row M.length M' hv u.head
 w:A3q 233 4 A0z.row M.length M' wv u.words
 k:Arr 30 8 A0a.row M.length M' kv u.kids
 a12:C7F hv wv
 a13:C7F hv kv
 a23:C7F wv kv
abbrev D2a(u:A0a)(hv wv kv:AV):List AV:=[I u.id.act,I u.id.item,I u.id.n,I u.kind,S u.label,hv,wv,kv]
def D1l.still{M M':Mem}{u:A0a}{hv wv kv:AV}(h:D1l M u hv wv kv M'):Grow M M'/\Still M' M.length (bdd M.length) [.agg (D2a u hv wv kv)] [.agg u.row]:=by refine⟨h.grow,?_⟩;rw[u.row_eq,A2S];exact .agg (.same trivial (.same trivial (.same trivial (.same trivial (.same trivial (h.h.still (λ_=>rfl) A4B (h.w.still (λ_=>rfl) A4B (A2T A0a.row_len A1I h.k.own h.k.lat)))))))) .nil
def hCp:A2j:=⟨λd=>d !=1,λ_=>false,λd=>d==25⟩
@[simp] def E3i:hCp.imm=λd=>d !=1:=(rfl)
@[simp] def E1S:hCp.own=λ_=>false:=(rfl)
@[simp] def E2K:hCp.vec=λd=>d==25:=(rfl)
section
variable (gl:Nat->AV)
def C0H(l:List A0z)(M:Mem)(hl:l.length<=1000000000):A0c (WC gl) 177 [.list 4 (A0i l) .no] M (λv M'=>A1p 233 4 A0z.row M' v l/\Grow M M'/\A1K M.length v):=by
 refine A1c hW func177 rfl rfl rfl rfl rfl rfl ?_;have tail:∀(K:AV->Mem->Prop) (tg:Tag K),(∀v M',(A1p 233 4 A0z.row M' v l/\Grow M M'/\A1K M.length v)->K v M')->A3s (WC gl) (A1X hW.own (some 7)) (A1X hW.vec (some 7)) 27 27 (.vref M.length 0 4 0 0) (.list 4 (A0i l) .no) (M++[.vec 233 4 [] 0 [(0,0)]]) K tg:=by intro K tg hk;have ho:A1p 233 4 A0z.row (M++[.vec 233 4 [] 0 [(0,0)]]) (.vref M.length 0 4 0 0) []:=.inr ⟨M.length,0,[(0,0)],rfl,Q1,by simp[List.lookup]⟩;refine A3u (C:=WC gl) (enc:=A0z.row) (e:=233) (sz:=4) (news:=l) B6E C7m C1O (λ_=>rfl) ho (by simp[A0D,A0i,List.flatMap]) (by simp;omega) rfl ?_;intro v' M' h1 h2 h3 _;obtain⟨r1,r2⟩:=A2R (X:=[]) (A0d.app none M [.vec 233 4 [] 0 [(0,0)]]) (v:=.vref M.length 0 4 0 0) (λf hf=>by simp at hf;omega) (by simpa using h2) (by simpa using h3);exact hk _ _ ⟨h1,r1,r2⟩
 cases l with
 |nil=>
  simp -dsimp[A0i];rw[A6O (.inl rfl) underlying27];intro b;cases b
  .simp -dsimp[A1B,A1e];refine tail _ _ λv M' h=>?_;simp -dsimp;exact h
  .simp -dsimp;exact⟨.nil,A0d.refl _ _,λf h=>by simp at h⟩
 |cons a l=>simp -dsimp[A0i,A1B,A1e];refine tail _ _ λv M' h=>?_;simp -dsimp;exact h
def B6Z(l:List A0z)(M:Mem)(hl:l.length<=1000000000):∃r M1,A0c (WC gl) 177 [.list 4 (A0i l) .no] M (λv M'=>v=r/\M'=M1)/\Grow M M1/\A3q 233 4 A0z.row M.length M1 r l/\M1.length<=M.length+1:=by
 by_cases h:l=[]
 .exact⟨_,_,A0c.still (enc:=A0z.row) (λ_=>rfl) A4B (C0H gl l M hl),Grow.refl _,.inl ⟨by rw[h];rfl,h⟩,Q0⟩
 .exact⟨_,_,A0c.repack (enc:=A0z.row) (λ_=>rfl) A4B h (C0H gl l M hl),A0d.app none _ _,.inr ⟨.inr ⟨M.length,0,[(0,l.length)],rfl,Q1,by simp[List.lookup]⟩,λf hf=>by simp at hf;omega⟩,Q1⟩
set_option maxHeartbeats 1000000 in
def B4I:∀(u:A0a) (kv:AV) (M:Mem),B9k u.kids kv->u.good->u.lims->A0x u<=3000->
 A0c (WC gl) 100 [.agg (A3m u kv)] M (λv M'=>∃hv wv kw,v=.agg (D2a u hv wv kw)/\D1l M u hv wv kw M')
 |.mk id kind lab hd ws ks,kv,M,t,hg,hlm,hc=>by
  obtain⟨_,_,bl,_,be,_,bg,bc,ae⟩:=(A0a.good_iff _).1 hg;have ae:∀k∈ks,k.good:=ae;obtain⟨⟨aq,al,bm,-⟩,ag⟩:=A3T _ hlm;have aq:hd.length<=100000000:=aq;have al:ws.length<=100000000:=al;have ag:=A4d.1 ag;have bk:1+A0H ks<=3000:=by rwa[A0x]at hc
  have au:=A2t ks;have t:B9k ks kv:=t;have b1:A3m (.mk id kind lab hd ws ks) kv=[I id.act,I id.item,I id.n,I kind,S lab,.list 4 (A0i hd) .no,.list 4 (A0i ws) .no,kv]:=rfl;have b2:∀a b c,D2a (.mk id kind lab hd ws ks) a b c=[I id.act,I id.item,I id.n,I kind,S lab,a,b,c]:=λ_ _ _=>rfl;rw[b1];simp only[b2];refine A1c hCp func100 rfl rfl rfl rfl rfl rfl ?_;obtain⟨b,hb⟩:=ex (M.length);obtain⟨M1,r⟩:=ex (M++[A0l.cells 30 [I id.act,I id.item,I id.n,I kind,S lab,.list 4 (A0i hd) .no,.list 4 (A0i ws) .no,kv],z8]);have a4:M1[b]?=some (A0l.cells 30 [I id.act,I id.item,I id.n,I kind,S lab,.list 4 (A0i hd) .no,.list 4 (A0i ws) .no,kv]):=by rw[r,hb];simp
  have an:M1[b+1]?=some z8:=by rw[r,hb];simp[Z0Y]
  have a3:Grow M M1:=by rw[r];exact A0d.app none _ _
  have b7:M1.length=b+2:=by rw[r,hb];simp
  have bi:=t.store;have bj:=t.cells;simp -dsimp[A0j];rw[<-r,<-hb];clear r;obtain⟨hv,M2,b0,l,d,b8⟩:=B6Z gl hd M1 Q0;obtain⟨wv,M3,ax,s,o,ba⟩:=B6Z gl ws M2 Q0;have a2:=l.get a4 Q1;have a5:=s.get a2 Q1;have aa:M2[b]?=M1[b]?:=by rw[a4,a2]
  have a9:M3[b]?=M2[b]?:=by rw[a2,a5]
  have a8:b<M3.length:=(Z0a.1 a5).1;have ab:A0k (some 1) M3 (.ptr b 5) hv=some (M3.set b (.cells 30 [I id.act,I id.item,I id.n,I kind,S lab,hv,.list 4 (A0i ws) .no,kv])):=by rw[A0f a5,d.cells,Z0c ⟨d.store,Q1,rfl⟩];rfl
  have ac:(M3.set b (.cells 30 [I id.act,I id.item,I id.n,I kind,S lab,hv,.list 4 (A0i ws) .no,kv]))[b]?=some (.cells 30 [I id.act,I id.item,I id.n,I kind,S lab,hv,.list 4 (A0i ws) .no,kv]):=by simp[a8]
  have ad:A0k (some 1) (M3.set b (.cells 30 [I id.act,I id.item,I id.n,I kind,S lab,hv,.list 4 (A0i ws) .no,kv])) (.ptr b 6) wv=some (M3.set b (.cells 30 [I id.act,I id.item,I id.n,I kind,S lab,hv,wv,kv])):=by rw[A0f ac,o.cells,Z0c ⟨o.store,Q1,rfl⟩,Z2h];rfl
  refine A6S hCp (A0E gl) (λk=>if k=1\/k=4 then 1 else if k=2\/k=5\/k=7\/k=9 then 2 else 0) (λ_=>b) (λ_ k=>k==7||k==9) (λk=>if k=7\/k=9 then[]else[b]) (by intro i k _ h;simp at h;simp[h]) (by rfl) Q2 ?_;simp -dsimp[A0b a4,A1g,A5S];refine A5x (A0m func177 rfl rfl b0) ?_;refine⟨by simpa using aa,?_⟩;simp -dsimp[A0b a2,A1g,A5S];refine A5x (A0m func177 rfl rfl ax) ?_;refine⟨by simpa using a9,?_⟩;simp -dsimp[ab,ad];obtain⟨M4,w⟩:=ex (M3.set b (.cells 30 [I id.act,I id.item,I id.n,I kind,S lab,hv,wv,kv]));have p:∀f,f≠b->M4[f]?=M3[f]?:=λf hf=>by rw[w,Z0f (λe=>hf e.symm)]
  have ay:M4[b]?=some (.cells 30 [I id.act,I id.item,I id.n,I kind,S lab,hv,wv,kv]):=by rw[w];simp[a8]
  have b5:M4[b+1]?=some z8:=by rw[p _ Q0];exact s.get (l.get an Q1) Q1
  have bf:M4.length=M3.length:=by rw[w];simp
  have e1:=((d.keep s).stay (M':=M4) (λf hf=>p f (by have:=d.lat f hf;omega))).weak (m:=M.length) (by have:=a3.1;omega);have e2:=(o.stay (M':=M4) (λf hf=>p f (by have:=o.lat f hf;have:=l.1;omega))).weak (m:=M.length) (by have:=a3.1;have:=l.1;omega);have ap:C7F hv wv:=λf h1 h2=>by have:=d.lt h1;have:=o.lat f h2;omega
  have a1:Grow M M4:=⟨by have:=a3.1;have:=l.1;have:=s.1;omega,λj hj _=>by rw[p j Q0];exact((a3.trans l).trans s).2 j hj Q1⟩;have a6:=d.lat;have a7:=o.lat;have bd:=d.store;have bb:=l.1;have b9:b+2<=M4.length:=by have:=s.1;omega
  rw[<-w];clear w ab ad ac a5 a2 aa a9 a4 an b0 ax d o;have au:=t.len;simp -dsimp[A0b ay,au];refine A0K hCp (λT M5=>∃i:Nat,i<=ks.length/\T 1=.ptr b 0/\T 2=.ptr (b+1) 0/\T 15=kv/\T 16=I ks.length/\T 17=I i/\Grow M4 M5/\Arr 30 8 A0a.row M4.length M5 (T 3) (ks.take i)) (λT M1=>match T 17 with|.val (.int _ i)=>ks.length-i.toNat|_=>0) Q2 ?_ ?_
  .refine⟨0,Q0,Q1,Q1,Q1,Q1,Q1,A0d.refl _ _,?_⟩;simp -dsimp;exact .nil
  rintro T M5 ⟨i,i1,t1,t2,y,x,a0,g,hf⟩;generalize am:T 3=ov at*;by_cases hi:i<ks.length;case neg=>
   have af:¬(i:Int)<ks.length:=Q0;rw[Z0e Q0]at hf;have av:=g.get ay Q1;have ak:=g.get b5 Q1;have ao:b<M5.length:=(Z0a.1 av).1;have aw:b+1<M5.length:=(Z0a.1 ak).1;(have az:A0k (some 1) M5 (.ptr b 7) ov=some (M5.set b (.cells 30 [I id.act,I id.item,I id.n,I kind,S lab,hv,wv,ov])):=by rw[A0f av,hf.own.cells,Z0c ⟨hf.own.store,Q1,rfl⟩];rfl);(have b3:(M5.set b (.cells 30 [I id.act,I id.item,I id.n,I kind,S lab,hv,wv,ov]))[b]?=some (.cells 30 [I id.act,I id.item,I id.n,I kind,S lab,hv,wv,ov]):=by simp[ao]);(have b6:(M5.set b (.cells 30 [I id.act,I id.item,I id.n,I kind,S lab,hv,wv,ov]))[b+1]?=some z8:=by rw[Z0f Q0];exact ak);simp -dsimp[t1,t2,y,x,a0,af,am,az,A0b b3,A0f b6,A0r,aw];refine⟨hv,wv,ov,⟨rfl,rfl,rfl⟩,?_⟩;(have hs:∀X Y f,f≠b->f≠b+1->((M5.set b X).set (b+1) Y)[f]?=M5[f]?:=λX Y f h1 h2=>by rw[Z0f Q0,Z0f Q0]);refine⟨⟨by have:=a1.1;have:=g.1;simp;omega,λj hj _=>by rw[hs _ _ j Q0 Q0];exact(a1.trans g).2 j hj Q1⟩,?_,?_,?_,ap,?_,?_⟩
   .exact(e1.keep g).stay λf h=>hs _ _ f (by have:=a6 f h;omega) (by have:=a6 f h;omega)
   .exact(e2.keep g).stay λf h=>hs _ _ f (by have:=a7 f h;omega) (by have:=a7 f h;omega)
   .have ar:=hf.stay (M':=(M5.set b (.cells 30 [I id.act,I id.item,I id.n,I kind,S lab,hv,wv,ov])).set (b+1) (.cells 30 [I id.act,I id.item,I id.n,I kind,S lab,hv,wv,ov])) (λf h=>hs _ _ f (by have:=hf.lat f h;omega) (by have:=hf.lat f h;omega));exact⟨ar.own,λf h=>by have:=ar.lat f h;have:=a1.1;omega⟩
   .intro f h1 h2;have:=e1.lt h1;have:=hf.lat f h2;omega
   .intro f h1 h2;have:=e2.lt h1;have:=hf.lat f h2;omega
  have af:(i:Int)<ks.length:=Q0;have w1:=A1Y (i:=i) Q0;have q:ks[i]∈ks:=Z0u hi;have bh:=A3B q;rcases t with rfl|⟨rfl,_⟩;case inr=>simp at hi
  obtain⟨M6,aj⟩:=ex (M5++[A0l.cells 30 ks[i].row]);have ai:Grow M5 M6:=by rw[aj];exact A0d.app none _ _
  have b4:M6[M5.length]?=some (A0l.cells 30 ks[i].row):=by rw[aj];simp
  have:=A0a.kid_lt (u:=.mk id kind lab hd ws ks) q;have z:=A0c.dataX ((B4I ks[i] (.list 8 (A0q ks[i].kids) .no) M6 (.inl rfl) (ae _ q) (ag _ q) Q0).mono λv M' ⟨hv,wv,kw,e,h⟩=>by subst e;exact h.still);rw[show A3m ks[i] (.list 8 (A0q ks[i].kids) .no)=ks[i].row from(ks[i].row_eq).symm]at z;have ah:=hf.keep ai;simp -dsimp[t1,t2,y,x,a0,hi,af,A0j,A0k,A0e,AV.storable,AV.cells];rw[<-aj];simp -dsimp[t1,t2,y,x,a0,A0b b4];refine A0v (A0m func100 rfl rfl z) ?_;rintro _ M6 ⟨rfl,rfl⟩;simp -dsimp[t1,t2,y,x,a0,am,A0w,A1e,AV.storable,AV.cells];refine A3u (C:=WC gl) (enc:=A0a.row) (e:=30) (sz:=8) (news:=[ks[i]]) A7N B2e B0y A0a.row_len ah.own (by simp[A0D]) (by simp;omega) rfl ?_;intro v' M7 q1 q2 q3 _;simp -dsimp[t1,t2,y,x,a0,w1];refine⟨⟨i+1,Q3,rfl,ah.grow (g.trans ai) q2,?_⟩,Q3⟩;rw[Z1p hi];exact⟨q1,ah.later (g.trans ai).1 q3⟩
termination_by u=>SizeOf.sizeOf u
end
section
def hSt:A2j:=⟨λd=>d !=1,λ_=>false,λ_=>false⟩
@[simp] def E1y:hSt.imm=λd=>d !=1:=(rfl)
@[simp] def E1A:hSt.vec=λ_=>false:=(rfl)
def C2a:A1b prog 332=some 27:=Q2
attribute [simp] underlying332 C2a
def D0H{n m:Nat}{M:Mem}{hv wv:AV}{a b:List A0z}(h:A3q 233 4 A0z.row n M hv a)(w:A3q 233 4 A0z.row m M wv b):A0w prog 332 2 [(0,hv),(1,wv)]=some (.list 1 [[hv],[wv]] .full):=by rcases h with⟨rfl,_⟩|⟨⟨rfl,_⟩|⟨f,g,hist,rfl,_,_⟩,_⟩<;>rcases w with⟨rfl,_⟩|⟨⟨rfl,_⟩|⟨f2,g2,c,rfl,_,_⟩,_⟩<;>simp[A0w,C2a,A1e]
def C2Z:A0A prog 231 []=some (.agg [I 0,I 0,I 0]):=by simp[A0A,A1m]
def A2C(w:A0z):A0z:=⟨w.text,0,0,0⟩
mutual
def A2m:A0a->A0a
 |.mk _ k l h w ks=>.mk idZ k l (h.map A2C) (w.map A2C) (A3t ks)
def A3t:List A0a->List A0a
 |[]=>[]
 |k::ks=>A2m k::A3t ks
end
def A7T:∀ks:List A0a,A3t ks=ks.map A2m
 |[]=>by simp[A3t]
 |k::ks=>by simp[A3t,A7T ks]
def A7r{α:Type}(f:α->α)(i:Nat)(l:List α):List α:=(l.take i).map f++l.drop i
section
variable {α:Type} {f:α->α} {i:Nat} {l:List α}
@[simp] def B3e:(A7r f i l).length=l.length:=by simp[A7r];omega
@[simp] def D8x:A7r f 0 l=l:=by simp[A7r]
@[simp] def D0S:A7r f l.length l=l.map f:=by simp[A7r]
def C4s(h:i<l.length):(A7r f i l)[i]'(by simpa using h)=l[i]:=by simp[A7r,List.getElem_append,Z1C (Z4g h)]
def C4o(h:i<l.length):(A7r f i l).set i (f l[i])=A7r f (i+1) l:=by
 unfold A7r;rw[Z3D _ _ (by simp;omega),show i-((l.take i).map f).length=0 by simp;omega]
 conv=>lhs;rw[Z0o h]
 rw[Z3Q,Z1p h,Z1c,Z0F];rfl
end
def C8v{n:Nat}{M:Mem}{v:AV}{l:List A0z}(h:Arr 233 4 A0z.row n M v l){i:Nat}(hi:i<l.length):∃f g M',v=.vref f g 4 0 l.length/\A0k (some 3) M (.vptr f g (i*4+1)) (.agg [I 0,I 0,I 0])=some M'/\Arr 233 4 A0z.row n M' v (l.set i (A2C l[i]))/\M'.length=M.length/\∀j,j≠f->M'[j]?=M[j]?:=by
 obtain⟨h1,h2⟩:=h
 rcases h1 with⟨rfl,rfl⟩|⟨f,g,a,rfl,hm,hl⟩
 .simp at hi
 have b:f<M.length:=(Z0a.1 hm).1
 have c:A0e (l.flatMap A0z.row) (i*4+1) [I 0,I 0,I 0]=(l.set i (A2C l[i])).flatMap A0z.row:=by
  rw[Z2i,Z0c hi,Z1k,Z0z];have e1:(l.take i).flatMap A0z.row=(l.flatMap A0z.row).take (i*4):=(A7D (enc:=A0z.row) (sz:=4) (λ_=>rfl) _ _).symm;have e2:(l.drop (i+1)).flatMap A0z.row=(l.flatMap A0z.row).drop ((i+1)*4):=(A3x (enc:=A0z.row) (sz:=4) (λ_=>rfl) _ _).symm;have e3:(l.flatMap A0z.row).take (i*4+1)=(l.flatMap A0z.row).take (i*4)++[S l[i].text]:=by rw[List.take_add,A3x (enc:=A0z.row) (sz:=4) (λ_=>rfl),Z0o hi,Z0z];rfl
  rw[e1,e2,A0e,e3];simp only[Z0F,Z0O,Z1v,Z0q,Z1n];rw[show(i+1)*4=i*4+1+(0+1+1+1)by omega];rfl
 refine⟨f,g,M.set f (.vec 233 4 ((l.set i (A2C l[i])).flatMap A0z.row) g (A0V 4 g (i*4+1) a)),rfl,?_,⟨.inr ⟨f,g,A0V 4 g (i*4+1) a,Q1,by simp[b],?_⟩,h2⟩,Q1,λj hj=>Z0f Q0⟩
 .simp only[A0k,hm,hl];rw[Z0c (by simp;omega)];simp only[AV.cells];rw[c]
 .unfold A0V;rw[Z1N];exact A3v _ hl
def C8T{n:Nat}{M:Mem}{v:AV}{l:List A0a}(h:Arr 30 8 A0a.row n M v l){i:Nat}(hi:i<l.length)(y:A0a):∃f g M',v=.vref f g 8 0 l.length/\A0M prog 30 M (.vptr f g (i*8))=some (.agg l[i].row)/\A0k (some 8) M (.vptr f g (i*8)) (.agg y.row)=some M'/\Arr 30 8 A0a.row n M' v (l.set i y)/\M'.length=M.length/\∀j,j≠f->M'[j]?=M[j]?:=by
 obtain⟨h1,h2⟩:=h
 have c:=h1.at_ (P:=prog) (t:=30) A0a.row_len D1W C8o hi
 rcases h1 with⟨rfl,rfl⟩|⟨f,g,a,rfl,hm,hl⟩
 .simp at hi
 have b:f<M.length:=(Z0a.1 hm).1
 have d:=B3b (enc:=A0a.row) A0a.row_len l i y hi
 refine⟨f,g,M.set f (.vec 30 8 ((l.set i y).flatMap A0a.row) g (A0V 8 g (i*8) a)),rfl,?_,?_,⟨.inr ⟨f,g,A0V 8 g (i*8) a,Q1,by simp[b],?_⟩,h2⟩,Q1,λj hj=>Z0f Q0⟩
 .obtain⟨p,e1,_,e2,_⟩:=c;simp[hi]at e1;rw[<-e1]at e2;exact e2
 .simp only[A0k,hm,hl];rw[Z0c (by simp[AV.storable,AV.cells];omega)];simp only[AV.cells];rw[d]
 .unfold A0V;rw[Z1N];exact A3v _ hl
mutual
def B2L:∀u:A0a,B6z (A2m u)
 |.mk id k l h w ks=>by
  rw[A2m,B6z];refine⟨rfl,λx hx=>?_,λx hx=>?_,B5B ks⟩
  .obtain⟨y,_,rfl⟩:=Z0H.1 hx;exact⟨rfl,rfl,rfl⟩
  .obtain⟨y,_,rfl⟩:=Z0H.1 hx;exact⟨rfl,rfl,rfl⟩
def B5B:∀ks:List A0a,B6M (A3t ks)
 |[]=>by rw[A3t,B6M];trivial
 |k::ks=>by rw[A3t,B6M];exact⟨B2L k,B5B ks⟩
end
mutual
def B0D:∀u:A0a,A0x (A2m u)=A0x u
 |.mk id k l h w ks=>by rw[A2m,A0x,A0x,B3R ks]
def B3R:∀ks:List A0a,A0H (A3t ks)=A0H ks
 |[]=>by rw[A3t]
 |k::ks=>by rw[A3t,A0H,A0H,B0D k,B3R ks]
end
mutual
def B5t:∀u:A0a,A1i (A2m u)=A1i u
 |.mk id k l h w ks=>by rw[A2m,A1i,A1i,B3g ks]
def B3g:∀ks:List A0a,A1L (A3t ks)=A1L ks
 |[]=>by rw[A3t]
 |k::ks=>by rw[A3t,A1L,A1L,B5t k,B3g ks]
end
def C9T(l:List A0z):A3a (l.map A2C)=A3a l:=by simp only[A3a,Z0N,List.all_map];rfl
def B1w(u:A0a):(A2m u).kind=u.kind/\(A2m u).label=u.label/\(A2m u).head=u.head.map A2C/\(A2m u).words=u.words.map A2C/\(A2m u).kids=u.kids.map A2m:=by obtain⟨a,b,c,d,e,f⟩:=u;rw[A2m,A7T];exact⟨rfl,rfl,rfl,rfl,rfl⟩
def C2j(u:A0a):A2J (A2m u)=A2J u:=by obtain⟨h1,h2,h3,h4,h5⟩:=B1w u;simp only[A2J,h1,h2,h3,h4,h5,Z0N,C9T]
def D2M(a b:A0a):A8F (A2m a) (A2m b)=A8F a b:=by simp only[A8F,(B1w a).1,(B1w a).2.1,(B1w b).1,(B1w b).2.1]
mutual
def B5P:∀u:A0a,A1o (A2m u)=A1o u
 |.mk id k l h w ks=>by have h1:=C2j (.mk id k l h w ks);have h2:=B3r ks k [];rw[A2m]at h1;rw[A2m,A1o,A1o,h1];rw[Z1O]at h2;rw[h2]
def B3r:∀(ks:List A0a) (p:Int) (b:List A0a),A4g p (A3t ks) (b.map A2m)=A4g p ks b
 |[],p,b=>by rw[A3t,A4g,A4g]
 |k::ks,p,b=>by have h2:=B3r ks p (b++[k]);rw[Z1c,List.map_singleton]at h2;rw[A3t,A4g,A4g,(B1w k).1,B5P k,h2,List.any_map];congr 3;simp only[Function.comp_def,D2M]
end
def B5G(u:A0a):B0m (A2m u)=B0m u:=by simp only[B0m,B5P,B5t,B0D]
def B5d{l:List A0z}(h:∀w∈l,w.good):∀w∈l.map A2C,w.good:=by intro w hw;obtain⟨y,hy,rfl⟩:=Z0H.1 hw;exact⟨(h y hy).1,by simp[A2C,inI],by simp[A2C,inI],by simp[A2C,inI]⟩
mutual
def B9g:∀u:A0a,u.good->(A2m u).good
 |.mk id k l h w ks,hg=>by rw[A0a.good]at hg;obtain⟨g1,g2,g3,g4,g5,g6,g7,g8,g9⟩:=hg;rw[A2m,A0a.good];exact⟨by simp[IdD.good,idZ,inI],g2,g3,by simpa using g4,B5d g5,by simpa using g6,B5d g7,by rw[A7T];simpa using g8,B5i ks g9⟩
def B5i:∀ks:List A0a,B1Z ks->B1Z (A3t ks)
 |[],_=>by rw[A3t,B1Z];trivial
 |k::ks,hg=>by rw[B1Z]at hg;rw[A3t,B1Z];exact⟨B9g k hg.1,B5i ks hg.2⟩
end
section
variable (gl:Nat->AV)
set_option maxHeartbeats 1000000 in
def B7T:∀(u:A0a) (kv:AV) (M:Mem),B9k u.kids kv->u.good->u.lims->A0x u<=3000->
 A0c (WC gl) 289 [.agg (A3m u kv)] M (λv M'=>v=.agg (A2m u).row/\M'=M)
 |.mk id kind lab hd ws ks,kv,M,ae,hg,hlm,hc=>by
  obtain⟨_,_,c1,_,bs,_,bt,bq,ap⟩:=(A0a.good_iff _).1 hg;have ap:∀k∈ks,k.good:=ap;obtain⟨⟨b8,b3,c2,-⟩,aw⟩:=A3T _ hlm;have b8:hd.length<=100000000:=b8;have b3:ws.length<=100000000:=b3;have aw:=A4d.1 aw;have c0:1+A0H ks<=3000:=by rwa[A0x]at hc
  have bw:=A2t ks;have ae:B9k ks kv:=ae;refine A0c.dataX ?_;have b1:A3m (.mk id kind lab hd ws ks) kv=[I id.act,I id.item,I id.n,I kind,S lab,.list 4 (A0i hd) .no,.list 4 (A0i ws) .no,kv]:=rfl;have bg:∀a b c,D2a (.mk id kind lab hd ws ks) a b c=[I id.act,I id.item,I id.n,I kind,S lab,a,b,c]:=λ_ _ _=>rfl;rw[b1];refine A1c hSt func289 rfl rfl rfl rfl rfl rfl ?_;obtain⟨b,hb⟩:=ex (M.length);obtain⟨M1,a5⟩:=ex (M++[A0l.cells 30 [I id.act,I id.item,I id.n,I kind,S lab,.list 4 (A0i hd) .no,.list 4 (A0i ws) .no,kv],z8]);have aa:M1[b]?=some (A0l.cells 30 [I id.act,I id.item,I id.n,I kind,S lab,.list 4 (A0i hd) .no,.list 4 (A0i ws) .no,kv]):=by rw[a5,hb];simp
  have b6:M1[b+1]?=some z8:=by rw[a5,hb];simp[Z0Y]
  have bb:Grow M M1:=by rw[a5];exact A0d.app none _ _
  have bo:M1.length=b+2:=by rw[a5,hb];simp
  have bx:=ae.store;have bz:=ae.cells;have ah:=B4I gl (.mk id kind lab hd ws ks) kv M1 ae hg hlm hc;rw[b1]at ah;simp only[bg]at ah;simp -dsimp[A0j];rw[<-a5,<-hb];clear a5;simp -dsimp[A0b aa];refine A0v (A0m func100 rfl rfl ah) ?_;rintro _ M2 ⟨hv,wv,kw,rfl,af,e1,e2,e3,b9,bf,ba⟩;have e1:A3q 233 4 A0z.row M1.length M2 hv hd:=e1;have e2:A3q 233 4 A0z.row M1.length M2 wv ws:=e2;have e3:Arr 30 8 A0a.row M1.length M2 kw ks:=e3;have ab:=af.get aa Q1;have b2:=af.get b6 Q1;have ao:b<M2.length:=(Z0a.1 ab).1;obtain⟨M3,ad⟩:=ex (M2.set b (.cells 30 [I 0,I 0,I 0,I kind,S lab,hv,wv,kw]));have a4:∀f,f≠b->M3[f]?=M2[f]?:=λf hf=>by rw[ad,Z0f (λe=>hf e.symm)]
  have a2:M3[b]?=some (.cells 30 [I 0,I 0,I 0,I kind,S lab,hv,wv,kw]):=by rw[ad];simp[ao]
  have az:M3[b+1]?=some z8:=by rw[a4 _ Q0];exact b2
  have bp:M3.length=M2.length:=by rw[ad];simp
  have f1:=e1.stay (M':=M3) (λf h=>a4 f (by have:=e1.lat f h;omega));have f2:=e2.stay (M':=M3) (λf h=>a4 f (by have:=e2.lat f h;omega));have f3:=e3.stay (M':=M3) (λf h=>a4 f (by have:=e3.lat f h;omega));obtain⟨N3,aj⟩:=ex (M2.set b (.cells 30 [I id.act,I id.item,I id.n,I kind,S lab,hv,wv,kw]));have bc:N3[b]?=some (.cells 30 [I id.act,I id.item,I id.n,I kind,S lab,hv,wv,kw]):=by rw[aj];simp[ao]
  have a9:N3.set b (.cells 30 [I 0,I 0,I 0,I kind,S lab,hv,wv,kw])=M3:=by rw[aj,Z2h,ad]
  simp -dsimp[A0f ab];rw[<-aj];have b0:=D0H f1 f2;simp -dsimp[A5X,A0f bc,a9,A0b a2,b0];have b5:∀M5,(∀j,j<b->M5[j]?=M3[j]?)->M3.length<=M5.length->Grow M M5:=λM5 h1 h2=>⟨by have:=bb.1;have:=af.1;omega,λj hj _=>by rw[h1 j Q0,a4 j Q0];exact(bb.trans af).2 j hj Q1⟩;have br:b+2<=M3.length:=by have:=af.1;omega
  clear b0 a9 ad aj bc a4 ab b2 ah aa b6;refine A7f (.exit 0) (λT M5=>T 1=.ptr b 0/\T 2=.ptr (b+1) 0/\M5[b]?=some (.cells 30 [I 0,I 0,I 0,I kind,S lab,hv,wv,kw])/\M5[b+1]?=some z8/\M5.length=M3.length/\(∀j,j<b->M5[j]?=M3[j]?)/\A3q 233 4 A0z.row M1.length M5 hv (hd.map A2C)/\A3q 233 4 A0z.row M1.length M5 wv (ws.map A2C)/\Arr 30 8 A0a.row M1.length M5 kw ks) ?_ ?_
  .refine A0K hSt (λT M5=>∃k:Nat,k<=2/\T 1=.ptr b 0/\T 2=.ptr (b+1) 0/\T 15=.list 1 [[hv],[wv]] .full/\T 16=I 2/\T 17=I k/\M5[b]?=some (.cells 30 [I 0,I 0,I 0,I kind,S lab,hv,wv,kw])/\M5[b+1]?=some z8/\M5.length=M3.length/\(∀j,j<b->M5[j]?=M3[j]?)/\A3q 233 4 A0z.row M1.length M5 hv (A7r A2C (if k=0 then 0 else hd.length) hd)/\A3q 233 4 A0z.row M1.length M5 wv (A7r A2C (if k=2 then ws.length else 0) ws)/\Arr 30 8 A0a.row M1.length M5 kw ks) (λT M1=>match T 17 with|.val (.int _ i)=>2-i.toNat|_=>0) Q2 ?_ ?_
   .exact⟨0,Q0,Q1,Q1,Q1,Q1,Q1,a2,az,rfl,λ_ _=>rfl,by simpa using f1,by simpa using f2,f3⟩
   clear a2 az f1 f2 f3;rintro T M5 ⟨k,k1,t1,t2,x,w,s,d,l,p,o,f1,f2,f3⟩;by_cases hk:k<2;(case neg=>have aq:¬(k:Int)<2:=Q0;simp -dsimp[t1,t2,x,w,s,aq];have bl:k=2:=Q0;subst bl;exact⟨d,l,p,o,by simpa using f1,by simpa using f2,f3⟩);have aq:(k:Int)<2:=Q0;have w1:=A1Y (i:=k) Q0;obtain⟨xv,ak⟩:=ex (if k=0 then hv else wv);obtain⟨xs,a7⟩:=ex (if k=0 then hd else ws);(have bv:xs.length<=100000000:=by rw[a7];split<;>assumption);obtain⟨A,hA⟩:∃A:Nat->List A0z,A=λi=>A7r A2C (if k=0 then i else hd.length) hd:=⟨_,rfl⟩;obtain⟨B,hB⟩:∃B:Nat->List A0z,B=λi=>A7r A2C (if k=0 then 0 else i) ws:=⟨_,rfl⟩;(have bm:A 0=A7r A2C (if k=0 then 0 else hd.length) hd:=by rw[hA]);(have bk:B 0=A7r A2C (if k=2 then ws.length else 0) ws:=by rw[hB,Z0d (show¬k=2 by omega)];show A7r A2C (if k=0 then 0 else 0) ws=_;rw[ite_self]);(have bn:A xs.length=A7r A2C (if k+1=0 then 0 else hd.length) hd:=by rw[hA,a7];by_cases c:k=0<;>simp[c]);have bj:B xs.length=A7r A2C (if k+1=2 then ws.length else 0) ws:=by
    rw[hB,a7];by_cases c:k=0
    .simp[c]
    .have:k=1:=Q0;simp[this]
   (have ag:∀(M6:Mem) i,A3q 233 4 A0z.row M1.length M6 hv (A i)->A3q 233 4 A0z.row M1.length M6 wv (B i)->A3q 233 4 A0z.row M1.length M6 xv (A7r A2C i xs):=λM6 i h1 h2=>by rw[hA]at h1;rw[hB]at h2;rw[ak,a7];by_cases c:k=0<;>simp only[c,Z1f,Z2b]at h1 h2|-<;>assumption);have av:∀(M6 M7:Mem) (f i:Nat),obj xv=some f->A3q 233 4 A0z.row M1.length M7 xv (A7r A2C (i+1) xs)->(∀j,j≠f->M7[j]?=M6[j]?)->A3q 233 4 A0z.row M1.length M6 hv (A i)->A3q 233 4 A0z.row M1.length M6 wv (B i)->Arr 30 8 A0a.row M1.length M6 kw ks->A3q 233 4 A0z.row M1.length M7 hv (A (i+1))/\A3q 233 4 A0z.row M1.length M7 wv (B (i+1))/\Arr 30 8 A0a.row M1.length M7 kw ks:=λM6 M7 f i hf hx hj g1 g2 g3=>by
    rw[hA]at g1|-;rw[hB]at g2|-;by_cases c:k=0
    .rw[ak,Z0c c]at hf hx;rw[a7,Z0c c]at hx;simp only[c,Z1f]at g1 g2|-;exact⟨hx,g2.stay λq hq=>hj q λe=>b9 f hf (e▸hq),g3.stay λq hq=>hj q λe=>bf f hf (e▸hq)⟩
    .rw[ak,Z0d c]at hf hx;rw[a7,Z0d c]at hx;simp only[c,Z2b]at g1 g2|-;exact⟨g1.stay λq hq=>hj q λe=>b9 f (e▸hq) hf,hx,g3.stay λq hq=>hj q λe=>ba f hf (e▸hq)⟩
   rw[<-bm]at f1;rw[<-bk]at f2;have a1:([[hv],[wv]]:List (List AV))[k]?=some [xv]:=by rw[ak];have:k=0\/k=1:=Q0;rcases this with rfl|rfl<;>rfl
   (have a0:([[hv],[wv]]:List (List AV)).getD k []=[xv]:=by rw[Z1Q,a1];rfl);have al:=(ag M5 0 f1 f2).len (P:=prog) (t:=27) (e':=233) Q1
   rw[B3e]at al;simp -dsimp[t1,t2,x,w,s,aq,a1,a0,al];refine A7f (.exit 2) (λT M6=>T 1=.ptr b 0/\T 2=.ptr (b+1) 0/\T 15=.list 1 [[hv],[wv]] .full/\T 16=I 2/\T 17=I k/\M6[b]?=some (.cells 30 [I 0,I 0,I 0,I kind,S lab,hv,wv,kw])/\M6[b+1]?=some z8/\M6.length=M3.length/\(∀j,j<b->M6[j]?=M3[j]?)/\A3q 233 4 A0z.row M1.length M6 hv (A xs.length)/\A3q 233 4 A0z.row M1.length M6 wv (B xs.length)/\Arr 30 8 A0a.row M1.length M6 kw ks) ?_ ?_
   .refine A0K hSt (λT M6=>∃i:Nat,i<=xs.length/\T 1=.ptr b 0/\T 2=.ptr (b+1) 0/\T 15=.list 1 [[hv],[wv]] .full/\T 16=I 2/\T 17=I k/\T 4=xv/\T 22=I xs.length/\T 23=I i/\M6[b]?=some (.cells 30 [I 0,I 0,I 0,I kind,S lab,hv,wv,kw])/\M6[b+1]?=some z8/\M6.length=M3.length/\(∀j,j<b->M6[j]?=M3[j]?)/\A3q 233 4 A0z.row M1.length M6 hv (A i)/\A3q 233 4 A0z.row M1.length M6 wv (B i)/\Arr 30 8 A0a.row M1.length M6 kw ks) (λT M1=>match T 23 with|.val (.int _ i)=>xs.length-i.toNat|_=>0) Q2 ?_ ?_
    .exact⟨0,Q0,by simp[t1],by simp[t2],by simp[x],by simp[w],by simp[s],Q1,Q1,Q1,d,l,p,o,f1,f2,f3⟩
    clear d l p o f1 f2 f3 t1 t2 x w s al a1 a0;rintro T M5 ⟨i,i1,t1,t2,x,w,s,t4,t22,be,d,l,p,o,f1,f2,f3⟩;by_cases hi:i<xs.length;(case neg=>have z:¬(i:Int)<xs.length:=Q0;simp -dsimp[t1,t2,x,w,s,t4,t22,be,z];have ay:i=xs.length:=Q0;subst ay;exact⟨d,l,p,o,f1,f2,f3⟩);have z:(i:Int)<xs.length:=Q0;(have w2:IntKind.i64.wrap ((i:Int)+1)=((i+1:Nat):Int):=by rw[A0R Q0 Q0];omega);have hx:Arr 233 4 A0z.row M1.length M5 xv (A7r A2C i xs):=by
     rcases ag M5 i f1 f2 with⟨_,h⟩|h
     .have:=congrArg List.length h;rw[B3e]at this;simp at this;rw[this]at hi;simp at hi
     .exact h
    obtain⟨f,g,M6,y,au,a8,bi,r⟩:=C8v hx (i:=i) (by simpa using hi);rw[C4s hi,C4o hi]at a8;rw[B3e]at y;(have a6:obj xv=some f:=by rw[y];rfl);have bh:=hx.lat f a6;obtain⟨g1,g2,g3⟩:=av M5 M6 f i a6 (.inr a8) r f1 f2 f3;(have ar:M6[b]?=some (.cells 30 [I 0,I 0,I 0,I kind,S lab,hv,wv,kw]):=by rw[r b Q0];exact d);(have ax:M6[b+1]?=some z8:=by rw[r (b+1) Q0];exact l);rw[y]at t4;simp -dsimp[t1,t2,x,w,s,t4,t22,be,z,hi,C2Z,au,w2];refine⟨⟨i+1,by clear w2;omega,y.symm,rfl,ar,ax,Q0,λj hj=>by rw[r j Q0];exact o j hj,g1,g2,g3⟩,by clear w2;omega⟩
   have b4:=s;clear d l p o f1 f2 f3 t1 t2 x w s al a1 a0;rintro T M5 ⟨t1,t2,x,w,s,d,l,p,o,f1,f2,f3⟩;rw[bn]at f1;rw[bj]at f2;simp -dsimp[t1,t2,x,w,s,b4,w1];refine⟨⟨k+1,Q3,rfl,d,l,p,o,f1,f2,f3⟩,Q3⟩
  clear a2 az f1 f2 f3;rintro T M5 ⟨t1,t2,d,l,p,o,f1,f2,f3⟩;have an:=f3.own.len (P:=prog) (t:=28) (e:=30) underlying28;simp -dsimp[t1,t2,A0b d,an];refine A0K hSt (λT M6=>∃i:Nat,i<=ks.length/\T 1=.ptr b 0/\T 2=.ptr (b+1) 0/\T 35=I ks.length/\T 36=I i/\M6[b]?=some (.cells 30 [I 0,I 0,I 0,I kind,S lab,hv,wv,kw])/\M6[b+1]?=some z8/\M3.length<=M6.length/\(∀j,j<b->M6[j]?=M3[j]?)/\A3q 233 4 A0z.row M1.length M6 hv (hd.map A2C)/\A3q 233 4 A0z.row M1.length M6 wv (ws.map A2C)/\Arr 30 8 A0a.row M1.length M6 kw (A7r A2m i ks)) (λT M1=>match T 36 with|.val (.int _ i)=>ks.length-i.toNat|_=>0) Q2 ?_ ?_
  .exact⟨0,Q0,by simp[t1],by simp[t2],Q1,rfl,d,l,Q0,o,f1,f2,by simpa using f3⟩
  clear d l p o f1 f2 f3 t1 t2 an;rintro T M5 ⟨i,i1,t1,t2,ai,am,d,l,p,o,f1,f2,f3⟩;by_cases hi:i<ks.length;case neg=>have z:¬(i:Int)<ks.length:=Q0;have bd:b+1<M5.length:=(Z0a.1 l).1;(have hs:∀X f,f≠b+1->(M5.set (b+1) X)[f]?=M5[f]?:=λX f h1=>by rw[Z0f Q0]);simp -dsimp[t1,t2,ai,am,z,A0b d,A0f l,A0r,bd];refine⟨b5 _ (λj hj=>by rw[hs _ j Q0];exact o j hj) (by simpa using p),?_⟩;have ay:i=ks.length:=Q0;subst ay;rw[D0S]at f3;rw[A2m,A7T,A0a.row_eq,A2S];have l1:=f1.lat;have l2:=f2.lat;have l3:=f3.lat;have g1:=(f1.stay (M':=M5.set (b+1) (.cells 30 [I 0,I 0,I 0,I kind,S lab,hv,wv,kw])) (λf h=>hs _ f (by have:=l1 f h;omega))).weak (m:=b) Q0;have g2:=(f2.stay (M':=M5.set (b+1) (.cells 30 [I 0,I 0,I 0,I kind,S lab,hv,wv,kw])) (λf h=>hs _ f (by have:=l2 f h;omega))).weak (m:=b) Q0;have g3:=f3.stay (M':=M5.set (b+1) (.cells 30 [I 0,I 0,I 0,I kind,S lab,hv,wv,kw])) (λf h=>hs _ f (by have:=l3 f h;omega));exact .agg (.same trivial (.same trivial (.same trivial (.same trivial (.same trivial (g1.still (λ_=>rfl) A4B (g2.still (λ_=>rfl) A4B (A2T A0a.row_len A1I g3.own (λf h=>by have:=l3 f h;omega))))))))) .nil
  have z:(i:Int)<ks.length:=Q0;have w1:=A1Y (i:=i) Q0;have a3:ks[i]∈ks:=Z0u hi;have bu:=A3B a3;have:=A0a.kid_lt (u:=.mk idZ kind lab hd ws ks) a3;have ac:=λM=>B7T ks[i] (.list 8 (A0q ks[i].kids) .no) M (.inl rfl) (ap _ a3) (aw _ a3) Q0;rw[show A3m ks[i] (.list 8 (A0q ks[i].kids) .no)=ks[i].row from(ks[i].row_eq).symm]at ac;obtain⟨f,g,M6,y,b7,au,a8,bi,r⟩:=C8T f3 (i:=i) (by simpa using hi) (A2m ks[i]);rw[C4s hi]at b7;rw[C4o hi]at a8;rw[B3e]at y;have a6:obj kw=some f:=by rw[y];rfl
  have bh:=f3.lat f a6;simp -dsimp[t1,t2,ai,am,z];refine A6S hSt (A0E gl) (λk=>if k=1\/k=4\/k=7 then 1 else if k=10 then 2 else 0) (λk=>if k=7 then f else b) (λi k=>i==7&&k==10) (λk=>if k=10 then[b]else[b,f]) (by intro i k _ h;by_cases h7:i=7<;>by_cases h10:k=10<;>simp[h7,h10]at h|-) (by rfl) Q2 ?_;rw[y]at d;simp -dsimp[t1,t2,ai,am,A0b d,A1g,A5S,b7];refine⟨hi,A1J (λM=>A0m func289 rfl rfl (ac M)) ?_⟩;simp -dsimp[t1,t2,ai,am,z,hi,au,w1];have ar:M6[b]?=some (.cells 30 [I 0,I 0,I 0,I kind,S lab,hv,wv,kw]):=by rw[r b Q0,y];exact d
  have ax:M6[b+1]?=some z8:=by rw[r (b+1) Q0];exact l
  exact⟨r b Q0,⟨i+1,Q3,Q1,ar,ax,Q0,λj hj=>by rw[r j Q0];exact o j hj,f1.stay λq hq=>r q λe=>bf q hq (e▸a6),f2.stay λq hq=>r q λe=>ba q hq (e▸a6),a8⟩,Q3⟩
termination_by u=>SizeOf.sizeOf u
end
end
end Go.Abs
