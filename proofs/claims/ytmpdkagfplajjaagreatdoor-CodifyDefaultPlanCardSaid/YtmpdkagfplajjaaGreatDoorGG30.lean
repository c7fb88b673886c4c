/- The texts CvL, CvP, CvM, CvN, CvO, CvQ, CvR, CvT, CvU, CvV. -/
import Derived.Test.YtmpdkagfplajjaaGreatDoorGG29
set_option linter.all false
set_option maxRecDepth 100000
namespace Go.Abs
open Go.Proofs TryTypes Tryz
@[simp] def IdD.row_len(x:IdD):x.row.length=3:=rfl
def A0K{cs}:(AV.agg cs).storable=true:=rfl
def A0I{cs}:(AV.agg cs).cells=cs:=rfl
def C4X(M:Mem)(l:List IdD)(v:AV)(M':Mem):Prop:=A1b 23 3 IdD.row M' v l/\Grow M M'/\A1g M.length v
def D4d{x:IdD}{M:Mem}:A1J prog 85 1 [(0,.agg [I x.act,I x.item,I x.n])] M=some (.vref M.length 0 3 0 1,M++[.vec 23 3 [I x.act,I x.item,I x.n] 0 [(0,1)]]):=by simp[A1J,A0W,AV.storable,AV.cells]
section
variable (gl:Nat->AV)
def D8N(u:A0a)(o:Nat)(M:Mem)(v:AV)(l:List IdD)(hl:l.length<=1000)(hM:M[o]?=some (.cells 85 [v]))(hv:A1b 23 3 IdD.row M v l)(c:obj v≠some o):A0c (WC gl) 122 [.agg u.row,.ptr o 0] M (λr M'=>r=B true/\∃v' M1,M'=M1.set o (.cells 85 [v'])/\A1b 23 3 IdD.row M1 v' (l++[u.id])/\A0d (obj v) M M1/\(obj v'=obj v\/A1g M.length v')):=by
 refine A0o (hQ [8]) func122 ?_
 rw[u.row_eq]
 simp -dsimp -implicitDefEqProofs[A0b hM,A0n,A0W,A0K,A0I]
 refine A3p (C:=WC gl) (enc:=IdD.row) (e:=23) (sz:=3) (news:=[u.id]) C4W D0x D1k (λ_=>rfl) hv (by simp[A0A,IdD.row]) (by simp;omega) rfl ?_
 intro v' M1 h1 h2 h3 _
 have b:=h2.get hM c
 have a:A0m (some 1) M1 (.ptr o 0) v'=some (M1.set o (.cells 85 [v'])):=by rw[A0h b,h1.cells,Z0d ⟨h1.store,by simp,rfl⟩];rfl
 simp -dsimp -implicitDefEqProofs[a]
 exact⟨v',M1,rfl,h1,h2,h3⟩
def D5C(u:A0a)(M:Mem)(hg:u.good)(hc:A0j u<=1000):A0c (WC gl) 67 [.agg u.row] M (C4X M (A0T u)):=by
 refine A0o hW func67 ?_;have d:(M++[A0p.cells 85 [.val (.slice none 0 0)]])[M.length]?=some (A0p.cells 85 [.val (.slice none 0 0)]):=by simp
 simp -dsimp -implicitDefEqProofs[A0l,A0m,A0e];refine A0s func86 (B0b gl 122 [] [.ptr M.length 0] (λ_=>true) (λ(a:List IdD) u=>a++[u.id])
  (λM1 a=>∃v,M1[M.length]?=some (.cells 85 [v])/\A1b 23 3 IdD.row M1 v a/\obj v≠some M.length/\A1g M.length v/\Grow M M1)
  (λa u=>a.length+A0j u<=1000) (λa ks=>a.length+A0f ks<=1000) ?_ ?_ ?_ ?_ ?_ u [] _ hg (by simpa using hc) ⟨_,d,.nil,by simp,by simp[A1g],A0d.app none _ _⟩) ?_
 .intro a u h;have:=A7E u;simp;omega
 .intro a k ks h;rw[A0f]at h;omega
 .intro a k ks h _;rw[A0f]at h;rw[B3F];simp only[Z0r,A5a];omega
 .rintro M1 a X ⟨v,h1,h2,h3,h4,h5⟩;exact⟨v,by rw[Z0h (Z0a.1 h1).1];exact h1,h2.keep (A0d.app none _ _) (by simp),h3,h4,h5.trans (A0d.app none _ _)⟩
 .rintro u a M1 l hk ⟨v,h1,h2,h3,h4,h5⟩;have g:=A3X u;refine(A0V func122 rfl rfl (D8N gl u M.length M1 v a (by omega) h1 h2 h3)).mono ?_;rintro _ _ ⟨rfl,v',M2,rfl,k1,k2,k3⟩;have i:M.length<M1.length:=(Z0a.1 h1).1;have c:M.length<M2.length:=by have:=k2.1;omega
  have b:obj v'≠some M.length:=by
   rcases k3 with e|e
   .rw[e];exact h3
   .intro q;have:=e _ q;omega
  refine⟨rfl,v',by simp[c],k1.keep (A0d.set M2 M.length _) (λf hf e=>b (by rw[hf,<-e])),b,λf hf=>?_,⟨by simp;omega,λj hj _=>?_⟩⟩
  .rcases k3 with e|e
   .exact h4 f (by rw[<-e];exact hf)
   .have:=e f hf;omega
  .rw[Z0e (by omega),k2.2 j (by omega) (λe=>by have:=h4 _ e;omega)];exact h5.2 j hj (by simp)
 .rintro _ M1 ⟨rfl,v,h1,h2,h3,h4,h5⟩;rw[B3F]at h2|-;simp only[Z1g]at h2;simp -dsimp -implicitDefEqProofs[A0b h1,C4X,h2,h4,h5]
def C3N:∀(u:A0a) (M:Mem),u.good->A0j u<=1000->A0c (WC gl) 74 [.agg u.row] M (C4X M (A0T u))
 |.mk id kind lab hd ws ks,M,hg,hc=>by
  obtain⟨_,_,r,_,p,_,s,_,b⟩:=(A0a.good_iff _).1 hg;have b:∀k∈ks,k.good:=b;have q:1+A0f ks<=1000:=by rwa[A0j]at hc
  have o:=A1Q ks;have f:(A0a.mk id kind lab hd ws ks).row=[I id.act,I id.item,I id.n,I kind,S lab,.list 4 (A0g hd) .no,.list 4 (A0g ws) .no,.list 8 (A0q ks) .no]:=by rw[A0a.row]
  have h:A0T (.mk id kind lab hd ws ks)=id::A2a ks:=by rw[A0T]
  rw[f,h];refine A0o (hQ [7,22]) func74 ?_;simp -dsimp -implicitDefEqProofs[D4d];refine A0y (hQ [7,22]) ks.length 4 (λT M1=>∃i:Nat,i<=ks.length/\T 1=.cptr [I id.act,I id.item,I id.n,I kind,S lab,.list 4 (A0g hd) .no,.list 4 (A0g ws) .no,.list 8 (A0q ks) .no]/\T 4=I i/\∃l,A1b 23 3 IdD.row M1 (T 3) l/\Grow M M1/\A1g M.length (T 3)/\id::A2a ks=l++A2a (ks.drop i)) ?_ ?_
  .refine⟨0,by omega,by simp,by simp,[id],.inr ⟨M.length,0,[(0,1)],by simp,by simp[IdD.row],by simp[List.lookup]⟩,A0d.app none _ _,by simp[A1g],by simp⟩
  .rintro T M1 ⟨i,i1,t1,t4,l,hv,d,hL,ho⟩;by_cases hi:i<ks.length
   ·(have c:(i:Int)<ks.length:=by omega);have w1:=A1E (i:=i) (by omega)
    have a:ks[i]∈ks:=Z0q hi;rw[Z0i hi,A2a]at ho;have t:=A2u a;generalize j:T 3=ov at*;simp -dsimp -implicitDefEqProofs[t1,t4,hi,c,j];have:=A0a.kid_lt (u:=.mk id kind lab hd ws ks) a;refine A0s func74 (C3N ks[i] M1 (b _ a) (by omega)) ?_;rintro v2 M2 ⟨k1,k2,k3⟩;(have m:l.length+(A0T ks[i]).length<=2000:=by have:=congrArg List.length ho;simp only[Z0x,Z0r,B9H]at this;omega);have g:=hv.keep k2 (by simp);simp -dsimp -implicitDefEqProofs;refine A3p (C:=WC gl) (enc:=IdD.row) (e:=23) (sz:=3) (news:=A0T ks[i]) C4W D0x D1k (λ_=>rfl) g (k1.src (λ_=>rfl)) (by omega) rfl ?_;intro v' M3 q1 q2 q3 _;obtain⟨r1,r2⟩:=A2D (X:=[]) (d.trans k2) hL (by simpa using q2) (by simpa using q3);simp -dsimp -implicitDefEqProofs[t1,t4,w1];exact⟨⟨i+1,by clear w1;omega,rfl,_,q1,r1,r2,by rw[ho,Z0T]⟩,by clear w1;omega⟩
   ·(have c:¬(i:Int)<ks.length:=by omega);rw[show ks.drop i=[]from Z0o (by omega),A2a,Z1b]at ho
    rw[ho];simp -dsimp -implicitDefEqProofs[t1,t4,c,C4X,hv,d,hL]
termination_by u=>SizeOf.sizeOf u
end
section
variable {K:Type} [DecidableEq K]
def A5X(S:List K):List K->List K
 |[]=>S
 |x::r=>A5X (if S.any (λy=>decide (y=x))then S else S++[x]) r
def A6r:List K->List K->Bool
 |[],_=>true
 |x::r,b=>!(b.any λy=>decide (y=x))&&A6r r (b++[x])
def B4S{S:List K}{x:K}:(S.any λy=>decide (y=x))=decide (x∈S):=by rw[Z2L];simp
def A9X:∀(r S:List K) (x:K),x∈A5X S r<->x∈S\/x∈r
 |[],S,x=>by simp[A5X]
 |y::r,S,x=>by
  rw[A5X,A9X r];simp only[B4S,Z0l];by_cases h:y∈S
  .rw[Z0d h];simp only[Z0t];constructor
   .rintro(h1|h1)<;>simp[h1]
   .rintro(h1|rfl|h1)
    .exact .inl h1
    .exact .inl h
    .exact .inr h1
  .rw[Z0c h];simp only[Z0P,Z0t,Z1E,Z2H];exact or_assoc
def C6b:∀(r S:List K),(A5X S r).length<=S.length+r.length
 |[],S=>by simp[A5X]
 |y::r,S=>by rw[A5X];have:=C6b r (if S.any (λz=>decide (z=y))then S else S++[y]);split at this<;>simp_all<;>omega
def B3e:∀(r S:List K),(A5X S r).length=S.length+r.length<->A6r r S=true
 |[],S=>by simp[A5X,A6r]
 |y::r,S=>by
  rw[A5X,A6r];cases h:S.any λz=>decide (z=y)
  .rw[Z0c (by simp)];have:=B3e r (S++[y]);rw[Z1S,Z0A,<-this];simp only[Z0r,Z0x,Z1I];omega
  .rw[Z0d rfl];have:=C6b r S;simp only[Z1U,Z0B,Z0J,iff_false,Z0x];omega
def C0n:∀(r S:List K),S.Nodup->(A5X S r).Nodup
 |[],S,h=>by simpa[A5X]using h
 |y::r,S,h=>by
  rw[A5X];refine C0n r _ ?_;rw[B4S];split
  .exact h
  .rename_i hn;(have hn:y∉S:=by simpa using hn);refine Z1J.2 ⟨h,by simp,?_⟩;intro a ha b hb e;simp only[Z0t,Z1E,Z2H]at hb;subst hb;subst e;exact hn ha
omit [DecidableEq K]in
def D1D{l:List K}{z:K}(hn:l.Nodup)(hz:∀x∈l,x=z)(hm:z∈l):l.length=1:=by
 match l,hn,hz,hm with
 |[],_,_,hm=>simp at hm
 |[x],_,_,_=>rfl
 |x::y::l,hn,hz,_=>have h1:=hz x (by simp);have h2:=hz y (by simp);subst h1;subst h2;simp at hn
omit [DecidableEq K]in
def D7r{l:List K}{z:K}(h1:l.length=1)(hm:z∈l):∀x∈l,x=z:=by
 match l,h1 with
 |[y],_=>intro x hx;simp at hx hm;rw[hx,hm]
def D6t{l:List K}{z:K}(hl:l≠[]):(z∈l/\(A5X [] l).length=1)<->∀x∈l,x=z:=by
 constructor
 .rintro⟨hm,h1⟩ x hx;exact D7r h1 ((A9X l [] z).2 (.inr hm)) x ((A9X l [] x).2 (.inr hx))
 .intro h;obtain⟨a,r,rfl⟩:=List.exists_cons_of_ne_nil hl;have hm:z∈a::r:=by rw[<-h a (by simp)];simp
  exact⟨hm,D1D (C0n _ _ .nil) (λx hx=>h x (by simpa using(A9X _ [] x).1 hx)) ((A9X _ [] z).2 (.inr hm))⟩
end
def idZ:IdD:=⟨0,0,0⟩
def C3T(u:A0a):Bool:=(decide (idZ∈A0T u)&&decide ((A5X [] (A0T u)).length=1))||(decide ((A5X [] (A0T u)).length=(A0T u).length)&&(decide (u.kind=0)==decide (u.id=idZ)))
def C4T(u:A0a):Bool:=(A0T u).all (λx=>decide (x=idZ))||((decide (u.id=idZ)==decide (u.kind=0))&&A6r (A0T u) [])
def D7R(u:A0a):A0T u≠[]:=by obtain⟨a,b,c,d,e,f⟩:=u;rw[A0T];simp
def C5l(u:A0a):C3T u=C4T u:=by have h1:=D6t (l:=A0T u) (z:=idZ) (D7R u);have h2:=B3e (A0T u) ([]:List IdD);simp only[Z1I,Z0I]at h2;rw[Z2L];simp only[C3T,C4T,Z1z,Z0g,Z0l,Z0u,Z2Z];rw[h1,h2,and_comm,@eq_comm _ (decide (u.kind=0))]
def A2i.len{K V:Type}{d:K->AV}{a:V->AV}{M}{b}{l}(h:A2i d a M b l){P}{t kt et:TypeId}(ht:P.underlying t=some (.map kt et)):A3v P t M (.mapr b)=some l.length:=by obtain⟨es,c,h1,h2⟩:=h;have:=congrArg List.length h2;simp only[Z0K]at this;simp[A3v,ht,h1,this]
def A6n{P}{t:TypeId}{b}:A2v P t (.mapr b)=none:=rfl
@[simp] def B6f:prog.eqGuardType prog.depth 23=false:=by kernel_rfl
def B3h(a b:IdD):A1z prog .eql 23 (.agg [I a.act,I a.item,I a.n]) (.agg [I b.act,I b.item,I b.n])=some (B (decide (a=b))):=by
 have h0:A2O prog .eql 23 (.agg [I a.act,I a.item,I a.n]) (.agg [I b.act,I b.item,I b.n])=none:=by simp[A2O,A3I]
 have:=(A9j 248 4 (by kernel_rfl)).eq a b;simp only[A2R,IdD.row]at this;simp only[A1z,h0,A4s,B6f,this];rfl
def C5M(a:IdD):A1z prog .eql 23 (.agg [I a.act,I a.item,I a.n]) (.agg [I 0,I 0,I 0])=some (B (decide (a=idZ))):=B3h a idZ
def C6T{K:Type}[DecidableEq K](c:K):∀A1k:List K,(A1k.any λy=>decide (y=c))=true->A8s (A1k.map λx=>(x,true)) c true=A1k.map λx=>(x,true)
 |[],h=>by simp at h
 |x::l,h=>by
  rw[Z0s,A8s];by_cases e:c=x
  .subst e;simp
  .rw[Z0c e];rw[Z2C,Z0y (λq=>e q.symm),Z1v]at h;rw[C6T c l h]
section
variable (gl:Nat->AV)
def E0x(u:A0a)(M:Mem)(hg:u.good)(hc:A0j u<=1000):A0c (WC gl) 158 [.agg u.row] M (λv M'=>v=B (C3T u)/\M'=M):=by
 have key:A0c (WC gl) 158 [.agg u.row] M (λv M'=>(∃x,v=.val x/\x=.bool (C3T u))/\Grow M M'):=by
  refine A0o hW func158 ?_;have o:=D5C gl u M hg hc;rw[u.row_eq]at o|-;have ae:=A5a u;simp -dsimp -implicitDefEqProofs;refine A0s func67 o ?_;rintro v M1 ⟨hv,a5,hL⟩;have c:A2v prog 85 v=some (A0T u).length:=hv.len (e':=23) (by simp);have a7:A1b 23 3 IdD.row (M1++[.map [] 0]) v (A0T u):=hv.keep (A0d.app none M1 _) (by simp);have a8:obj v≠some M1.length:=λe=>by have:=hv.lt e;omega
  simp -dsimp -implicitDefEqProofs[c];refine A0y hW ((A0T u).length) 13 (λT M2=>∃i:Nat,i<=(A0T u).length/\T 1=.cptr [I u.id.act,I u.id.item,I u.id.n,I u.kind,S u.label,.list 4 (A0g u.head) .no,.list 4 (A0g u.words) .no,.list 8 (A0q u.kids) .no]/\T 3=v/\T 4=.mapr M1.length/\T 11=v/\T 12=I (A0T u).length/\T 13=I i/\Grow M M2/\A1b 23 3 IdD.row M2 v (A0T u)/\∃s,A2i A2R B M2 M1.length (s.map λx=>(x,true))/\A5X [] (A0T u)=A5X s ((A0T u).drop i)) ?_ ?_
  .exact⟨0,by omega,by simp,by simp,by simp,by simp,by simp,by simp,a5.trans (A0d.app none _ _),a7,[],A2i.new M1,by simp⟩
  .rintro T M2 ⟨i,i1,t1,t3,t4,a1,a0,w,d,a3,s,h,ho⟩;by_cases hi:i<(A0T u).length
   ·(have l:(i:Int)<(A0T u).length:=by omega);have w1:=A1E (i:=i) (by omega)
    obtain⟨p,p1,_,p2,_⟩:=a3.at_ (P:=prog) (t:=23) (λ_=>rfl) (by simp) (by simp) hi;have hd:=Z0i hi;rw[hd,A5X]at ho;obtain⟨x,hx⟩:∃x,x=(A0T u)[i]:=⟨_,rfl⟩;rw[<-hx]at ho p2;have aa:x.row=[I x.act,I x.item,I x.n]:=rfl;rw[aa]at p2;(have ad:(M2++[A0p.cells 23 [I x.act,I x.item,I x.n]])[M2.length]?=some (A0p.cells 23 [I x.act,I x.item,I x.n]):=by simp);have a2:=h.keep (A0d.app none M2 [A0p.cells 23 [I x.act,I x.item,I x.n]]) (by simp);have r:Grow M (M2++[A0p.cells 23 [I x.act,I x.item,I x.n]]):=d.trans (A0d.app none _ _);have ac:=a3.keep (A0d.app none M2 [A0p.cells 23 [I x.act,I x.item,I x.n]]) (by simp);obtain⟨M4,q1,q2,q3⟩:=a2.put (A9j 248 4 (by kernel_rfl)) x true;have a6:A1N prog 248 (M2++[A0p.cells 23 [I x.act,I x.item,I x.n]]) (.mapr M1.length) (.agg [I x.act,I x.item,I x.n]) (B true)=some M4:=q1;(have ab:Grow M M4:=by refine⟨Z0X r.1 q3.1,λj hj _=>?_⟩;rw[q3.2 j (by have:=r.1;omega) (by have:=a5.1;simp;omega)];exact r.2 j hj (by simp));have a9:=ac.keep q3 (λf hf e=>a8 (by rw[hf,<-e]));simp -dsimp -implicitDefEqProofs[t1,t3,t4,a1,a0,w,hi,l,p1,p2,A0l,A0m,A0e,A0K,A0I,A0b ad,a6,w1];refine⟨⟨i+1,by clear w1;omega,rfl,ab,a9,if s.any (λy=>decide (y=x))then s else s++[x],?_,ho⟩,by clear w1;omega⟩;cases hs:s.any λy=>decide (y=x)
    .rw[B5H x s hs]at q2;rw[Z0c (by simp)];exact q2
    .rw[Z0d rfl];have:A8s (s.map λx=>(x,true)) x true=s.map λx=>(x,true):=C6T x s hs;rw[this]at q2;exact q2
   ·(have l:¬(i:Int)<(A0T u).length:=by omega);rw[show(A0T u).drop i=[]from Z0o (by omega),A5X]at ho
    have hz:(s.any λy=>decide (y=idZ))=decide (idZ∈A0T u):=by rw[B4S,<-ho,Z2L];simp only[Z0l,A9X,Z1E,false_or]
    (have hR:C3T u=((decide (idZ∈A0T u)&&decide (s.length=1))||(decide (s.length=(A0T u).length)&&(decide (u.kind=0)==decide (u.id=idZ)))):=by rw[<-ho];rfl);obtain⟨R,a4⟩:∃R,R=C3T u:=⟨_,rfl⟩
    rw[<-a4]at hR|-;clear a4;have q:=h.get (A9j 248 4 (by kernel_rfl)) idZ (z:=B false) (by kernel_rfl) false;rw[B5U,hz]at q;have a:A1S prog 248 M2 (.mapr M1.length) (.agg [I 0,I 0,I 0]) false=some (B (decide (idZ∈A0T u))):=by refine q.trans ?_;cases decide (idZ∈A0T u)<;>rfl
    (have g:A3v prog 248 M2 (.mapr M1.length)=some s.length:=by rw[h.len (kt:=23) (et:=4) (by simp)];simp);cases hzz:decide (idZ∈A0T u)
    .rw[hzz]at a hR;rw[Z0B,Z1v]at hR;simp -dsimp -implicitDefEqProofs[t1,t3,t4,a1,a0,w,l,a];refine A0X hW (A0t gl) (λk=>if k=3\/k=8 then 2 else 0) (λ_=>0) (by rfl) (by kernel_rfl) ?_;by_cases h2:s.length=(A0T u).length
     ·(have b:(s.length:Int)=((A0T u).length:Int):=by omega);rw[Z0v h2,Z0A]at hR
      simp -dsimp -implicitDefEqProofs[t1,t3,t4,g,A6n,c,Z1h b,C5M];exact⟨by rw[hR];rfl,d⟩
     ·(have b:¬(s.length:Int)=((A0T u).length:Int):=by omega);rw[Z0y h2,Z0B]at hR
      simp -dsimp -implicitDefEqProofs[t1,t3,t4,g,A6n,c,b,hR,d]
    .rw[hzz]at a hR;rw[Z0A]at hR;simp -dsimp -implicitDefEqProofs[t1,t3,t4,a1,a0,w,l,a];refine A0X hW (A0t gl) (λk=>if k=3\/k=8 then 2 else 0) (λ_=>0) (by rfl) (by kernel_rfl) ?_;by_cases h1:s.length=1
     ·(have m:(s.length:Int)=1:=by omega);rw[Z0v h1,Z2i]at hR
      simp -dsimp -implicitDefEqProofs[t1,t3,t4,g,A6n,c,Z1h m,Z1h h1,hR,d]
     (have m:¬(s.length:Int)=1:=by omega);rw[Z0y h1,Z1v]at hR
     by_cases h2:s.length=(A0T u).length
     ·(have b:(s.length:Int)=((A0T u).length:Int):=by omega);rw[Z0v h2,Z0A]at hR
      simp -dsimp -implicitDefEqProofs[t1,t3,t4,g,A6n,c,h1,m,Z1h b,C5M];exact⟨by rw[hR];rfl,d⟩
     ·(have b:¬(s.length:Int)=((A0T u).length:Int):=by omega);rw[Z0y h2,Z0B]at hR
      simp -dsimp -implicitDefEqProofs[t1,t3,t4,g,A6n,c,h1,m,b,hR,d]
 exact(A6I key).mono (by rintro v M' ⟨⟨x,rfl,rfl⟩,rfl⟩;exact⟨rfl,rfl⟩)
def D8o(l:List IdD)(hl:l.length<=1000)(v:AV)(M:Mem)(hv:A1b 23 3 IdD.row M v l):A0c (WC gl) 93 [v] M (λr M'=>r=B (A6r l [])/\M'=M):=by
 refine A0o hB func93 ?_;have c:A2v prog 85 v=some l.length:=hv.len (e':=23) (by simp);obtain⟨R,hR⟩:∃R,R=A6r l []:=⟨_,rfl⟩;rw[<-hR];simp -dsimp -implicitDefEqProofs;refine A0y hB l.length 3 (λT M1=>∃i:Nat,i<=l.length/\T 0=v/\T 3=I i/\M1=M/\R=A6r (l.drop i) (l.take i)) ?_ ?_
 .exact⟨0,by omega,by simp,by simp,rfl,by simpa using hR⟩
 .rintro T M1 ⟨i,i1,t0,t3,rfl,ho⟩;by_cases hi:i<l.length;case neg=>
   (have a:¬(i:Int)<l.length:=by omega);rw[show l.drop i=[]from Z0o (by omega),A6r]at ho
   simp -dsimp -implicitDefEqProofs[t0,t3,c,a,ho]
  have a:(i:Int)<l.length:=by omega
  have w1:=A1E (i:=i) (by omega);have s:l.take i++[l[i]]=l.take (i+1):=by rw[Z1j,Z0m hi,Z3t]
  rw[Z0i hi,A6r,s]at ho;obtain⟨x,hx⟩:∃x,x=l[i]:=⟨_,rfl⟩;obtain⟨p,p1,_,p2,po⟩:=hv.at_ (P:=prog) (t:=23) (λ_=>rfl) (by simp) (by simp) hi;rw[<-hx]at ho p2;have d:A1m prog 23 M1 p=some (.agg [I x.act,I x.item,I x.n]):=p2;simp -dsimp -implicitDefEqProofs[t0,t3,c,a];refine A1R hB (λT2 M2=>∃j:Nat,j<=i/\T2 0=v/\T2 3=I i/\T2 4=I j/\M2=M1/\((l.take i).any λy=>decide (y=x))=(((l.take i).drop j).any λy=>decide (y=x))) (λT M1=>match T 4 with|.val (.int _ j)=>i-j.toNat|_=>0) (by kernel_rfl) ?_ ?_
  .exact⟨0,by omega,by simp[t0],by simp[t3],by simp,rfl,by simp⟩
  .rintro T2 M2 ⟨j,j1,u0,u3,u4,rfl,hb⟩;by_cases hj:j<i;case neg=>
    (have b:¬(j:Int)<i:=by omega);rw[show(l.take i).drop j=[]from Z0o (by simp;omega),Z4k]at hb
    rw[hb,Z1S,Z0A]at ho;simp -dsimp -implicitDefEqProofs[u0,u3,u4,b,w1,t3];exact⟨⟨i+1,by clear w1;omega,rfl,ho⟩,by clear w1;omega⟩
   (have b:(j:Int)<i:=by omega);have u:j<l.length:=by omega
   have w2:=A1E (i:=j) (by omega);(have o:(l.take i).drop j=l[j]::(l.take i).drop (j+1):=by rw[Z0i (by simp;omega)];simp);rw[o,Z2C]at hb;obtain⟨y,hy⟩:∃y,y=l[j]:=⟨_,rfl⟩;obtain⟨q,q1,_,q2,qo⟩:=hv.at_ (P:=prog) (t:=23) (λ_=>rfl) (by simp) (by simp) u;rw[<-hy]at hb q2;have h:A1m prog 23 M2 q=some (.agg [I y.act,I y.item,I y.n]):=q2;obtain⟨f,hf⟩:∃f,obj v=some f:=by
    rcases hv with⟨rfl,rfl⟩|⟨f',g,w,rfl,_,_⟩
    .simp at hi
    .exact⟨f',rfl⟩
   rw[hf]at po qo;simp -dsimp -implicitDefEqProofs[u0,u3,u4,b];refine A0X hB (A0t gl) (λk=>if k=3\/k=7 then 1 else 0) (λ_=>f) (by rfl) (by kernel_rfl) ?_;by_cases c1:y=x
   .rw[Z0v c1,Z2i]at hb;rw[hb,Z1U,Z0B]at ho;subst c1;simp -dsimp -implicitDefEqProofs[u0,u3,u4,p1,d,po,q1,h,qo,B3h,ho]
   .rw[Z0y c1,Z1v]at hb;have m:¬x=y:=λe=>c1 e.symm;simp -dsimp -implicitDefEqProofs[u0,u3,u4,p1,d,po,q1,h,qo,B3h,c1,m,w2];exact⟨⟨j+1,by clear w2;omega,rfl,hb⟩,by clear w2;omega⟩
end
mutual
def A5m:A0a->List A0a
 |.mk id k l h w ks=>.mk id k l h w ks::A4Q ks
def A4Q:List A0a->List A0a
 |[]=>[]
 |k::ks=>A5m k++A4Q ks
end
mutual
def A6E:∀u:A0a,(A5m u).map A0a.id=A0T u
 |.mk id _ _ _ _ ks=>by rw[A5m,A0T,Z0s,B9D ks];rfl
def B9D:∀ks:List A0a,(A4Q ks).map A0a.id=A2a ks
 |[]=>by rw[A4Q,A2a];rfl
 |k::ks=>by rw[A4Q,A2a,Z0Q,A6E k,B9D ks]
end
abbrev B4Z(u:A0a):AV:=.agg u.row
def A6D(L:List (IdD×A0a)):List A0a->List (IdD×A0a)
 |[]=>L
 |u::us=>A6D (A8s L u.id u) us
def D0i(L:List (IdD×A0a)):∀us vs,A6D L (us++vs)=A6D (A6D L us) vs:=by
 intro us;induction us generalizing L with
 |nil=>intro vs;rfl
 |cons u us ih=>intro vs;exact ih _ vs
def B1R:∀(us:List A0a) (L:List (IdD×A0a)),(A6D L us).map (·.1)=A5X (L.map (·.1)) (us.map A0a.id)
 |[],L=>rfl
 |u::us,L=>by
  rw[A6D,B1R us,D2h,Z0s,A5X,B4S];by_cases h:u.id∈L.map (·.1)
  .rw[Z0d h,Z0d (by simpa using h)]
  .rw[Z0c h,Z0c (by simpa using h)]
mutual
noncomputable def A5R:A0a->Nat->Mem->Mem
 |.mk id k l h w ks,b,M=>A4k ks b ((A1N prog 92 M (.mapr b) (A2R id) (B4Z (.mk id k l h w ks))).getD M)
noncomputable def A4k:List A0a->Nat->Mem->Mem
 |[],_,M=>M
 |k::ks,b,M=>A4k ks b (A5R k b (M++[.cells 27 k.row]))
end
mutual
def A8b:∀(u:A0a) (L:List (IdD×A0a)) (b:Nat) (M:Mem),A2i A2R B4Z M b L->A2i A2R B4Z (A5R u b M) b (A6D L (A5m u))/\A0d (some b) M (A5R u b M)
 |.mk id k l h w ks,L,b,M,hm=>by
  obtain⟨M1,p1,p2,p3⟩:=hm.put (A9j 92 27 (by kernel_rfl)) id (.mk id k l h w ks);have hc:A5R (.mk id k l h w ks) b M=A4k ks b M1:=by rw[A5R,p1];rfl
  obtain⟨q1,q2⟩:=B3k ks _ b M1 p2;rw[hc,A5m];exact⟨q1,p3.trans q2⟩
def B3k:∀(ks:List A0a) (L:List (IdD×A0a)) (b:Nat) (M:Mem),A2i A2R B4Z M b L->A2i A2R B4Z (A4k ks b M) b (A6D L (A4Q ks))/\A0d (some b) M (A4k ks b M)
 |[],L,b,M,hm=>by rw[A4k,A4Q];exact⟨hm,A0d.refl _ _⟩
 |k::ks,L,b,M,hm=>by obtain⟨q1,q2⟩:=A8b k L b (M++[.cells 27 k.row]) (hm.keep (A0d.app none M _) (by simp));obtain⟨r1,r2⟩:=B3k ks _ b _ q1;rw[A4k,A4Q,D0i];exact⟨r1,((A0d.of_none (A0d.app none _ _)).trans q2).trans r2⟩
end
section
variable (gl:Nat->AV)
def B3H:∀(u:A0a) (L:List (IdD×A0a)) (b:Nat) (M:Mem),u.good->A2i A2R B4Z M b L->A0c (WC gl) 102 [.agg u.row,.mapr b] M (λv M'=>v=.mapr b/\M'=A5R u b M)
 |.mk id kind lab hd ws ks,L,b,M,hg,hmap=>by
  obtain⟨_,_,t,_,s,_,w,l,d⟩:=(A0a.good_iff _).1 hg;have d:∀k∈ks,k.good:=d;have r:ks.length<=9223372036854775807:=l;have c:(A0a.mk id kind lab hd ws ks).row=[I id.act,I id.item,I id.n,I kind,S lab,.list 4 (A0g hd) .no,.list 4 (A0g ws) .no,.list 8 (A0q ks) .no]:=by rw[A0a.row]
  obtain⟨M1,p1,p2,p3⟩:=hmap.put (A9j 92 27 (by kernel_rfl)) id (.mk id kind lab hd ws ks);have q:A1N prog 92 M (.mapr b) (.agg [I id.act,I id.item,I id.n]) (.agg [I id.act,I id.item,I id.n,I kind,S lab,.list 4 (A0g hd) .no,.list 4 (A0g ws) .no,.list 8 (A0q ks) .no])=some M1:=by rw[<-c];exact p1
  have m:A5R (.mk id kind lab hd ws ks) b M=A4k ks b M1:=by rw[A5R,p1];rfl
  rw[c,m];generalize A8s L id (.mk id kind lab hd ws ks)=L1 at*;refine A0o hW func102 ?_;simp -dsimp -implicitDefEqProofs[q];refine A0y hW ks.length 14 (λT M2=>∃i:Nat,i<=ks.length/\T 1=.mapr b/\T 12=.list 8 (A0q ks) .no/\T 13=I ks.length/\T 14=I i/\A4k ks b M1=A4k (ks.drop i) b M2/\∃L2,A2i A2R B4Z M2 b L2) ?_ ?_
  .exact⟨0,by omega,by simp,by simp,by simp,by simp,by simp,L1,p2⟩
  .rintro T M2 ⟨i,i1,t1,h,f,g,ho,L2,o⟩;by_cases hi:i<ks.length
   ·(have e:(i:Int)<ks.length:=by omega);have w1:IntKind.i64.wrap ((i:Int)+1)=(i+1:Nat):=by rw[A0J (by omega) (by omega)];omega
    have a:ks[i]∈ks:=Z0q hi;rw[Z0i hi,A4k]at ho;(have p:(M2++[A0p.cells 27 ks[i].row])[M2.length]?=some (A0p.cells 27 ks[i].row):=by simp);have j:=o.keep (A0d.app none M2 [A0p.cells 27 ks[i].row]) (by simp);simp -dsimp -implicitDefEqProofs[t1,h,f,g,hi,e,A0l,A0m,A0e,A0K,A0I,A0b p];have:=A0a.kid_lt (u:=.mk id kind lab hd ws ks) a;refine A0s func102 (B3H ks[i] L2 b _ (d _ a) j) ?_;rintro _ _ ⟨rfl,rfl⟩;simp -dsimp -implicitDefEqProofs[t1,h,f,g,w1];exact⟨⟨i+1,by clear w1;omega,rfl,ho,_,(A8b ks[i] L2 b _ j).1⟩,by clear w1;omega⟩
   ·(have e:¬(i:Int)<ks.length:=by omega);rw[show ks.drop i=[]from Z0o (by omega),A4k]at ho
    rw[ho];simp -dsimp -implicitDefEqProofs[t1,h,f,g,e]
termination_by u=>SizeOf.sizeOf u
def D8d(u:A0a)(M:Mem)(hg:u.good)(hc:A0j u<=1000):A0c (WC gl) 144 [.agg u.row] M (λv M'=>v=B (C4T u)/\M'=M):=by
 have key:A0c (WC gl) 144 [.agg u.row] M (λv M'=>(∃x,v=.val x/\x=.bool (C4T u))/\Grow M M'):=by
  refine A0o hB func144 ?_;have z:=C3N gl u M hg hc;have ab:=A5a u;have h0:(A0T u)[0]?=some u.id:=by obtain⟨a,b,c,d,e,f⟩:=u;rw[A0T];rfl
  rw[u.row_eq]at z|-;obtain⟨R,hR⟩:∃R,R=C4T u:=⟨_,rfl⟩;have o:R=((A0T u).all (λx=>decide (x=idZ))||((decide (u.id=idZ)==decide (u.kind=0))&&A6r (A0T u) [])):=hR;rw[<-hR];clear hR;simp -dsimp -implicitDefEqProofs;refine A0s func74 z ?_;rintro v M1 ⟨hv,w,hL⟩;generalize A0T u=l at*;have r:A2v prog 85 v=some l.length:=hv.len (e':=23) (by simp);simp -dsimp -implicitDefEqProofs;refine A0y hB l.length 5 (λT M2=>∃i:Nat,i<=l.length/\T 1=.cptr [I u.id.act,I u.id.item,I u.id.n,I u.kind,S u.label,.list 4 (A0g u.head) .no,.list 4 (A0g u.words) .no,.list 8 (A0q u.kids) .no]/\T 3=v/\T 5=I i/\M2=M1/\∃n,T 4=B n/\l.all (λx=>decide (x=idZ))=(n&&(l.drop i).all (λx=>decide (x=idZ)))) ?_ ?_
  .exact⟨0,by omega,by simp,by simp,by simp,rfl,true,by simp,by simp⟩
  .rintro T M2 ⟨i,i1,t1,t3,t5,rfl,n,t4,ho⟩;by_cases hi:i<l.length;case pos=>
    (have h:(i:Int)<l.length:=by omega);have w1:=A1E (i:=i) (by omega)
    obtain⟨p,p1,_,p2,po⟩:=hv.at_ (P:=prog) (t:=23) (λ_=>rfl) (by simp) (by simp) hi;rw[Z0i hi,Z1D]at ho;have m:A1m prog 23 M2 p=some (.agg [I l[i].act,I l[i].item,I l[i].n]):=p2;cases n
    .simp -dsimp -implicitDefEqProofs[t1,t3,t4,t5,r,h,w1];exact⟨⟨i+1,by clear w1;omega,rfl,by simpa using ho⟩,by clear w1;omega⟩
    .simp -dsimp -implicitDefEqProofs[t1,t3,t4,t5,r,h,p1,m,C5M,w1];exact⟨⟨i+1,by clear w1;omega,rfl,by rw[ho,Z0A]⟩,by clear w1;omega⟩
   case neg=>
   (have h:¬(i:Int)<l.length:=by omega);rw[show l.drop i=[]from Z0o (by omega),Z3L,Z3B]at ho
   rw[ho]at o;cases n;(case true=>rw[Z2i]at o;simp -dsimp -implicitDefEqProofs[t1,t3,t4,t5,r,h,o,w]);rw[Z1v]at o;(have s:0<l.length:=by have:=A3X u;omega);(have a8:(0:Int)<l.length:=by omega);obtain⟨p,p1,_,p2,po⟩:=hv.at_ (P:=prog) (t:=23) (λ_=>rfl) (by simp) (by simp) s;(have a5:l[0]=u.id:=by rw[Z0m s]at h0;exact Z1Q h0);rw[a5]at p2;have m:A1m prog 23 M2 p=some (.agg [I u.id.act,I u.id.item,I u.id.n]):=p2;obtain⟨f,hf⟩:∃f,obj v=some f:=by
    rcases hv with⟨rfl,rfl⟩|⟨f',g,aa,rfl,_,_⟩
    .simp at s
    .exact⟨f',rfl⟩
   rw[hf]at po;have a1:A6N (some (some 3)) v (I 0)=some p:=p1;simp -dsimp -implicitDefEqProofs[t1,t3,t4,t5,r,h];refine A0X hB (A0t gl) (λk=>if k=2 then 1 else 0) (λ_=>f) (by rfl) (by kernel_rfl) ?_;have a0:(u.kind==0)=decide (u.kind=0):=rfl;by_cases c:decide (u.id=idZ)=(u.kind==0);case neg=>have c':(decide (u.id=idZ)==decide (u.kind=0))=false:=Z2f.2 (by rw[<-a0];exact c);rw[c',Z0B]at o;simp -dsimp -implicitDefEqProofs[t1,t3,t4,t5,a1,m,po,C5M,c,o,w]
   (have c':(decide (u.id=idZ)==decide (u.kind=0))=true:=by rw[Z2Z,<-a0];exact c);rw[c',Z0A]at o
   have a3:=Z1h c;simp -dsimp -implicitDefEqProofs[t1,t3,t4,t5,a1,m,po,C5M,a3];clear c c' a3 a0;refine A0y hB l.length 6 (λT M1=>∃i:Nat,i<=l.length/\T 3=v/\T 6=I i/\M1=M2/\R=A6r (l.drop i) (l.take i)) ?_ ?_
   .exact⟨0,by omega,by simp[t3],by simp,rfl,by simpa using o⟩
   .clear t1 t3 t4 t5 p1 p2 po a1 m;rintro T M3 ⟨i,i1,t3,t6,rfl,ho⟩;by_cases hi:i<l.length;case neg=>
     (have h:¬(i:Int)<l.length:=by omega);rw[show l.drop i=[]from Z0o (by omega),A6r]at ho
     simp -dsimp -implicitDefEqProofs[t3,t6,r,h,ho,w]
    (have h:(i:Int)<l.length:=by omega);have w1:=A1E (i:=i) (by omega)
    (have a7:l.take i++[l[i]]=l.take (i+1):=by rw[Z1j,Z0m hi,Z3t]);rw[Z0i hi,A6r,a7]at ho
    obtain⟨x,hx⟩:∃x,x=l[i]:=⟨_,rfl⟩;obtain⟨p,p1,_,p2,po⟩:=hv.at_ (P:=prog) (t:=23) (λ_=>rfl) (by simp) (by simp) hi;rw[<-hx]at ho p2;have m:A1m prog 23 M3 p=some (.agg [I x.act,I x.item,I x.n]):=p2;rw[hf]at po;simp -dsimp -implicitDefEqProofs[t3,t6,r,h];refine A1R hB (λT2 M2=>∃j:Nat,j<=i/\T2 3=v/\T2 6=I i/\T2 7=I j/\M2=M3/\((l.take i).any λy=>decide (y=x))=(((l.take i).drop j).any λy=>decide (y=x))) (λT M1=>match T 7 with|.val (.int _ j)=>i-j.toNat|_=>0) (by kernel_rfl) ?_ ?_
    .exact⟨0,by omega,by simp[t3],by simp[t6],by simp,rfl,by simp⟩
    .rintro T2 M2 ⟨j,j1,u3,u6,u7,rfl,hb⟩;by_cases hj:j<i;case neg=>
      (have a2:¬(j:Int)<i:=by omega);rw[show(l.take i).drop j=[]from Z0o (by simp;omega),Z4k]at hb
      rw[hb,Z1S,Z0A]at ho;simp -dsimp -implicitDefEqProofs[u3,u6,u7,a2,w1,t6];exact⟨⟨i+1,by clear w1;omega,rfl,ho⟩,by clear w1;omega⟩
     (have a2:(j:Int)<i:=by omega);have a9:j<l.length:=by omega
     have w2:=A1E (i:=j) (by omega);(have a6:(l.take i).drop j=l[j]::(l.take i).drop (j+1):=by rw[Z0i (by simp;omega)];simp);rw[a6,Z2C]at hb;obtain⟨y,hy⟩:∃y,y=l[j]:=⟨_,rfl⟩;obtain⟨q,q1,_,q2,qo⟩:=hv.at_ (P:=prog) (t:=23) (λ_=>rfl) (by simp) (by simp) a9;rw[<-hy]at hb q2;have a4:A1m prog 23 M2 q=some (.agg [I y.act,I y.item,I y.n]):=q2;rw[hf]at qo;simp -dsimp -implicitDefEqProofs[u3,u6,u7,a2];refine A0X hB (A0t gl) (λk=>if k=3\/k=7 then 1 else 0) (λ_=>f) (by rfl) (by kernel_rfl) ?_;by_cases c1:y=x
     .rw[Z0v c1,Z2i]at hb;rw[hb,Z1U,Z0B]at ho;subst c1;simp -dsimp -implicitDefEqProofs[u3,u6,u7,p1,m,po,q1,a4,qo,B3h,ho,w]
     .rw[Z0y c1,Z1v]at hb;simp -dsimp -implicitDefEqProofs[u3,u6,u7,p1,m,po,q1,a4,qo,B3h,c1,w2];exact⟨⟨j+1,by clear w2;omega,rfl,hb⟩,by clear w2;omega⟩
 exact(A6I key).mono (by rintro v M' ⟨⟨x,rfl,rfl⟩,rfl⟩;exact⟨rfl,rfl⟩)
end
def A5l(u:A0a):Bool:=(A4J A9u (λ(_:Unit) _=>()) u ()).1
def B0Z(u:A0a):Bool:=A5l u&&decide (A1D u<=8)&&decide (A0j u<=1024)&&C3T u
def C0F(u:A0a):Bool:=A2c u&&decide (A1D u<=8)&&decide (A0j u<=1024)&&C4T u
def C8e(u:A0a):Bool:=decide (u.kind=0)&&B0Z u&&decide ((A5X [] (A0T u)).length=A0j u)
def A3E(u:A0a):Bool:=decide (u.kind=0)&&C0F u&&A6r (A0T u) []
def Fit(u:A0a):Prop:=u.good/\u.lims/\A0j u<=1000
def A3t(u:A0a)(h:u.lims):u.lim/\A5s u.kids:=by obtain⟨a,b,c,d,e,f⟩:=u;rw[A0a.lims]at h;exact h
section
variable (gl:Nat->AV)
def B4V(i:gl 0=A2h)(d:gl 1=A2s)(u:A0a)(M:Mem)(hf:Fit u):A0c (WC gl) 109 [.agg u.row] M (λv M'=>v=B (B0Z u)/\M'=M):=by
 obtain⟨hg,hl,hc⟩:=hf;have key:A0c (WC gl) 109 [.agg u.row] M (λv M'=>(∃x,v=.val x/\x=.bool (B0Z u))/\Grow M M'):=by
  refine A0o hB func109 ?_;have hR:B0Z u=(A5l u&&decide (A1D u<=8)&&decide (A0j u<=1024)&&C3T u):=rfl;simp -dsimp -implicitDefEqProofs;refine A0s func86 (B0b gl 156 [] [] A9u (λ(_:Unit) _=>()) (λM1 _=>Grow M M1) (λ_ u=>u.lims) (λ_ ks=>A5s ks) ?_ ?_ ?_ ?_ ?_ u () M hg hl (A0d.refl _ _)) ?_
  .intro a u h;exact(A3t u h).2
  .intro a k ks h;rw[A5s]at h;exact h.1
  .intro a k ks h _;rw[A5s]at h;exact h.2
  .intro M1 a X h;exact h.trans (A0d.app none _ _)
  .intro u a M1 e g b;refine(A0V func156 rfl rfl (D6b gl M1 i d u e (A3t u g).1)).mono ?_;rintro _ _ ⟨rfl,h⟩;exact⟨rfl,b.trans h⟩
  .rintro _ M1 ⟨rfl,b⟩;have j:(A4J A9u (λ(_:Unit) _=>()) u ()).1=A5l u:=rfl;rw[j];cases h1:A5l u;(case false=>rw[h1]at hR;simp only[Z0B]at hR;simp -dsimp -implicitDefEqProofs[hR,b]);rw[h1,Z0A]at hR;simp -dsimp -implicitDefEqProofs;refine A0s func157 (B9x gl u M1 hg hc) ?_;rintro _ _ ⟨⟨_,rfl,rfl⟩,rfl⟩;by_cases h2:A1D u<=8;case neg=>
    (have c:¬(A1D u:Int)<=8:=by omega);rw[Z0y h2]at hR
    simp only[Z0B]at hR;simp -dsimp -implicitDefEqProofs[c,hR,b]
   (have c:(A1D u:Int)<=8:=by omega);rw[Z0v h2,Z0A]at hR
   simp -dsimp -implicitDefEqProofs[c];refine A0i func30 (B5h gl u _ hg hc) ?_;(have h3:A0j u<=1024:=by omega);(have f:(A0j u:Int)<=1024:=by omega);rw[Z0v h3,Z0A]at hR;simp -dsimp -implicitDefEqProofs[f];refine A0i func158 (E0x gl u _ hg hc) ?_;simp -dsimp -implicitDefEqProofs[hR,b]
 exact(A6I key).mono (by rintro v M' ⟨⟨x,rfl,rfl⟩,rfl⟩;exact⟨rfl,rfl⟩)
def D9f(u:A0a)(M:Mem)(hf:Fit u):A0c (WC gl) 92 [.agg u.row] M (λv M'=>v=B (C0F u)/\M'=M):=by
 obtain⟨hg,hl,hc⟩:=hf;refine A0o hB func92 ?_;have hR:C0F u=(A2c u&&decide (A1D u<=8)&&decide (A0j u<=1024)&&C4T u):=rfl;simp -dsimp -implicitDefEqProofs;refine A0i func142 (C2Z gl u M hg hl) ?_;cases h1:A2c u;case false=>rw[h1]at hR;simp only[Z0B]at hR;simp -dsimp -implicitDefEqProofs[hR]
 rw[h1,Z0A]at hR;simp -dsimp -implicitDefEqProofs;refine A0i func143 (C3a gl u _ hg hc) ?_;by_cases h2:A1D u<=8;case neg=>
  have a:¬(A1D u:Int)<=8:=by omega
  rw[Z0y h2]at hR;simp only[Z0B]at hR;simp -dsimp -implicitDefEqProofs[a,hR]
 have a:(A1D u:Int)<=8:=by omega
 rw[Z0v h2,Z0A]at hR;simp -dsimp -implicitDefEqProofs[a];refine A0i func49 (C3p gl u _ hg hc) ?_;have h3:A0j u<=1024:=by omega
 have b:(A0j u:Int)<=1024:=by omega
 rw[Z0v h3,Z0A]at hR;simp -dsimp -implicitDefEqProofs[b];refine A0i func144 (D8d gl u _ hg hc) ?_;simp -dsimp -implicitDefEqProofs[hR]
def C3e(l:gl 0=A2h)(h:gl 1=A2s)(u:A0a)(M:Mem)(hf:Fit u):A0c (WC gl) 50 [.agg u.row] M (λv M'=>v=B (C8e u)/\M'=M):=by
 have key:A0c (WC gl) 50 [.agg u.row] M (λv M'=>(∃x,v=.val x/\x=.bool (C8e u))/\Grow M M'):=by
  have c:=λM=>B4V gl l h u M hf;obtain⟨hg,hl,hc⟩:=hf;have b:=B3H gl u [] M.length (M++[.map [] 0]) hg (A2i.new M);have a:=λM=>B5h gl u M hg hc;obtain⟨q1,q2⟩:=A8b u [] M.length (M++[.map [] 0]) (A2i.new M);have g:(A6D [] (A5m u)).length=(A5X [] (A0T u)).length:=by have:=B1R (A5m u) [];rw[A6E]at this;rw[<-Z0K (f:=λp:IdD×A0a=>p.1),this];rfl
  have i:A3v prog 92 (A5R u M.length (M++[.map [] 0])) (.mapr M.length)=some (A5X [] (A0T u)).length:=by rw[q1.len (kt:=23) (et:=27) (by simp),g]
  have e:Grow M (A5R u M.length (M++[.map [] 0])):=by refine⟨by have:=q2.1;simp at this;omega,λj hj _=>?_⟩;rw[q2.2 j (by simp;omega) (by simp;omega),Z0h hj]
  rw[u.row_eq]at c b a|-;have hR:C8e u=(decide (u.kind=0)&&B0Z u&&decide ((A5X [] (A0T u)).length=A0j u)):=rfl;refine A0o hB func50 ?_;simp -dsimp -implicitDefEqProofs;refine A0X hB (A0t gl) (λk=>if k=9\/k=10\/k=11 then 2 else 0) (λ_=>0) (by rfl) (by kernel_rfl) ?_;by_cases k0:u.kind=0;case neg=>rw[Z0y k0]at hR;simp only[Z0B]at hR;simp -dsimp -implicitDefEqProofs[k0,hR,A0d.refl]
  rw[Z0v k0,Z0A]at hR;simp -dsimp -implicitDefEqProofs[Z1h k0];refine A1G func109 c ?_;cases h1:B0Z u;case false=>rw[h1,Z0B]at hR;simp -dsimp -implicitDefEqProofs[Z1h k0,hR,A0d.refl]
  rw[h1,Z0A]at hR;simp -dsimp -implicitDefEqProofs[Z1h k0];refine A5i (A0V func102 rfl rfl b) ?_;simp -dsimp -implicitDefEqProofs[A6n,i,Z1h k0];refine A1G func30 a ?_;by_cases h2:(A5X [] (A0T u)).length=A0j u
  ·(have d:((A5X [] (A0T u)).length:Int)=(A0j u:Int):=by omega);rw[Z0v h2]at hR
   simp -dsimp -implicitDefEqProofs[Z1h k0,Z1h d,Z1h h2,hR,e]
  ·(have d:¬((A5X [] (A0T u)).length:Int)=(A0j u:Int):=by omega);rw[Z0y h2]at hR
   simp -dsimp -implicitDefEqProofs[Z1h k0,d,h2,hR,e]
 exact(A6I key).mono (by rintro v M' ⟨⟨x,rfl,rfl⟩,rfl⟩;exact⟨rfl,rfl⟩)
def D4m(u:A0a)(M:Mem)(hf:Fit u):A0c (WC gl) 35 [.agg u.row] M (λv M'=>v=B (A3E u)/\M'=M):=by
 have key:A0c (WC gl) 35 [.agg u.row] M (λv M'=>(∃x,v=.val x/\x=.bool (A3E u))/\Grow M M'):=by
  have b:=D9f gl u M hf;obtain⟨hg,hl,hc⟩:=hf;have a:=C3N gl u M hg hc;have d:=A5a u;rw[u.row_eq]at b a|-;have hR:A3E u=(decide (u.kind=0)&&C0F u&&A6r (A0T u) []):=rfl;refine A0o hB func35 ?_;by_cases k0:u.kind=0;case neg=>rw[Z0y k0]at hR;simp only[Z0B]at hR;simp -dsimp -implicitDefEqProofs[k0,hR,A0d.refl]
  rw[Z0v k0,Z0A]at hR;simp -dsimp -implicitDefEqProofs[Z1h k0];refine A0i func92 b ?_;cases h1:C0F u;case false=>rw[h1,Z0B]at hR;simp -dsimp -implicitDefEqProofs[Z1h k0,hR,A0d.refl]
  rw[h1,Z0A]at hR;simp -dsimp -implicitDefEqProofs[Z1h k0];refine A0s func74 a ?_;rintro v M1 ⟨hv,c,_⟩;simp -dsimp -implicitDefEqProofs[Z1h k0];refine A0i func93 (D8o gl (A0T u) (by omega) v M1 hv) ?_;simp -dsimp -implicitDefEqProofs[Z1h k0,hR,c]
 exact(A6I key).mono (by rintro v M' ⟨⟨x,rfl,rfl⟩,rfl⟩;exact⟨rfl,rfl⟩)
end
def D1R(id:IdD)(k:Int)(l:ByteArray)(h w:List A0H)(ks:List A0a):A5l (.mk id k l h w ks)=(A9u (.mk id k l h w ks)&&ks.all A5l):=by
 have hl:∀ks:List A0a,(A3K A9u (λ(_:Unit) _=>()) ks ()).1=ks.all A5l:=by
  intro ks;induction ks with
  |nil=>rw[A3K];rfl
  |cons k ks ih=>
   rw[A3K,Z1D];have:(A4J A9u (λ(_:Unit) _=>()) k ()).1=A5l k:=rfl;rw[this];cases A5l k
   .rfl
   .rw[Z0d rfl,Z0A];exact ih
 rw[A5l,A4J];cases A9u (.mk id k l h w ks)
 .rfl
 .rw[Z0d rfl,Z0A];exact hl ks
def C7w(u:A0a):(C1a u&&decide (u.kids.length<=64))=A3W u:=by
 unfold C1a A3W;by_cases k0:u.kind=0
 .rw[Z0d k0,Z0d k0,Z2L];simp only[Z0g,Z0l];constructor
  .rintro⟨⟨h1,h2⟩,h3⟩;have hh:u.head=[]:=Z0z (by omega);have hw:u.words=[]:=Z0z (by omega);rw[hh,hw];exact⟨⟨⟨⟨by omega,h3⟩,rfl⟩,rfl⟩,⟨h1,rfl⟩,rfl⟩
  .rintro⟨⟨⟨⟨_,h3⟩,_⟩,_⟩,⟨h1,h4⟩,h5⟩;exact⟨⟨h1,by omega⟩,h3⟩
 .rw[Z0c k0,Z0c k0,Z2L];simp only[Z0g,Z0l];constructor
  .rintro⟨⟨⟨⟨h1,h2⟩,h3⟩,h4⟩,h5⟩;exact⟨⟨⟨⟨by omega,h5⟩,h3⟩,h4⟩,h2⟩
  .rintro⟨⟨⟨⟨h1,h5⟩,h3⟩,h4⟩,h2⟩;exact⟨⟨⟨⟨by omega,h2⟩,h3⟩,h4⟩,h5⟩
def B7Y(kind:Int):∀(ks b:List A0a),(∀k∈ks,A5l k=A2c k)->(A8M kind ks (b.map λu=>(u.kind,u.label))&&ks.all A5l)=A4x kind ks b
 |[],_,_=>by rw[A8M,A4x];rfl
 |k::ks,b,h=>by
  have ih:=B7Y kind ks (b++[k]) λx hx=>h x (by simp[hx]);rw[Z0Q]at ih;have ih:(A8M kind ks (b.map (λu=>(u.kind,u.label))++[(k.kind,k.label)])&&ks.all A5l)=A4x kind ks (b++[k]):=ih;rw[A8M,A4x,<-ih,Z1D,h k (by simp)];have ha:((b.map λu=>(u.kind,u.label)).any λy=>decide (y=(k.kind,k.label)))=b.any λa=>A2W a k:=by rw[List.any_map];congr 1;funext a;simp only[Function.comp,A2W,Z0f,Bool.decide_and]
  rw[ha];cases A1Z kind k.kind<;>cases A2c k<;>cases(b.any λa=>A2W a k)<;>simp
def B2C:∀u:A0a,A5l u=A2c u
 |.mk id k l h w ks=>by
  have ih:∀x∈ks,A5l x=A2c x:=λx hx=>by have:=A0a.kid_lt (u:=.mk id k l h w ks) hx;exact B2C x
  have h1:=B7Y k ks [] ih;have h2:=C7w (.mk id k l h w ks);rw[D1R,A2c,<-h1,<-h2];show(C1a (.mk id k l h w ks)&&A8M k ks []&&decide (ks.length<=64)&&ks.all A5l)=(C1a (.mk id k l h w ks)&&decide (ks.length<=64)&&(A8M k ks []&&ks.all A5l));cases C1a (.mk id k l h w ks)<;>cases A8M k ks []<;>cases decide (ks.length<=64)<;>simp
termination_by u=>SizeOf.sizeOf u
def C2d(u:A0a):C8e u=A3E u:=by
 have h:=B3e (A0T u) ([]:List IdD);simp only[Z1I,Z0I]at h;have h2:decide ((A5X [] (A0T u)).length=A0j u)=A6r (A0T u) []:=by rw[Z2L,Z0l,<-h,A5a]
 simp only[C8e,A3E,B0Z,C0F,B2C,C5l,h2]
structure A0C where
 id:IdD
 parent:Int
 label:ByteArray
def A0C.row(s:A0C):List AV:=[I s.id.act,I s.id.item,I s.id.n,I s.parent,S s.label]
def A0C.good(s:A0C):Prop:=s.id.good/\inI s.parent/\s.label.size<=maxLen
def A1U(l:List A0C):List (List AV):=l.map A0C.row
@[simp] def E1I(l:List A0C):(A1U l).length=l.length:=by simp[A1U]
@[simp] def E2H{p}{i}(h:i<(A1U p).length):(A1U p)[i]=(p[i]'(by simpa using h)).row:=by simp[A1U]
mutual
def A1i(x:IdD):A0a->Option A0a
 |.mk id k l h w ks=>if id=x then some (.mk id k l h w ks)else A9Y x ks
def A9Y(x:IdD):List A0a->Option A0a
 |[]=>none
 |k::ks=>match A1i x k with
  |some v=>some v
  |none=>A9Y x ks
end
def zU:List AV:=[I 0,I 0,I 0,I 0,S ⟨#[]⟩,.val (.slice none 0 0),.val (.slice none 0 0),.val (.slice none 0 0)]
def A2p:Option A0a->List AV
 |some u=>u.row
 |none=>zU
def A8f(n:Nat)(l:List A0H):A8U n (A0g l):=by
 induction l with
 |nil=>simp[A0g,A8U]
 |cons w l ih=>simp only[A0g,Z0s,A8U];exact⟨by simp[A0H.row,A1Y,bdd],ih⟩
mutual
def A2U(n:Nat):∀u:A0a,A1Y n u.row
 |.mk id k l h w ks=>by rw[A0a.row];simp only[A1Y,bdd,Z1M,Z2y];exact⟨A8f n h,A8f n w,B5G n ks⟩
def B5G(n:Nat):∀l:List A0a,A8U n (A0q l)
 |[]=>by rw[A0q];simp[A8U]
 |u::l=>by rw[A0q];exact⟨A2U n u,B5G n l⟩
end
def C1Z(n:Nat)(o:Option A0a):A1Y n (A2p o):=by
 cases o with
 |none=>simp[A2p,zU,A1Y,bdd]
 |some u=>exact A2U n u
@[simp] def E1C(o:Option A0a):(A2p o).length=8:=by cases o<;>simp[A2p,zU]
@[simp] def E0y(o:Option A0a):List.take 8 (A2p o)=A2p o:=Z0k (by simp)
def A3f{C}{f}{args}{M}{r}(hb:∀n,bdd n r)(h:A0c C f args M (λv M'=>v=r/\Grow M M')):A0c C f args M (λv M'=>v=r/\M'=M):=by
 refine h.cut ?_;rintro _ M' ⟨rfl,hg⟩;refine⟨M'.drop M.length,?_,hb _,rfl,rfl⟩;have ht:M'.take M.length=M:=by
  apply Z1L;intro i;rw[Z0N];split
  .rename_i hi;exact hg.2 i hi (by simp)
  .rename_i hi;exact(Z1B (by omega)).symm
 have:=Z0S M.length M';rw[ht]at this;exact this.symm
@[simp] def E5z:A0w prog 27 []=some (.agg zU):=by
 simp[A0w,A1e];rfl
def C8P{M:Mem}{t:TypeId}{cs:List AV}:A2S (M++[.cells t cs]) (.ptr M.length 0)=some cs:=by simp[A2S]
def A0z{M:Mem}{b:Nat}{t:TypeId}{cs:List AV}(h:b<M.length):A2S (M.set b (.cells t cs)) (.ptr b 0)=some cs:=by simp[A2S,h]
def A1o{M M1}{b}{X}(h:Grow M M1)(hb:M.length<=b):Grow M (M1.set b X):=⟨by simpa using h.1,λi hi _=>by rw[Z0e (by omega)];exact h.2 i hi (by simp)⟩
@[simp] def E8e:zU.length=8:=rfl
@[simp] def E5f:List.take 8 zU=zU:=rfl
section
variable (gl:Nat->AV)
def C6w:∀(u:A0a) (x:IdD) (M:Mem),u.good->A0c (WC gl) 104 [.agg u.row,.agg x.row] M (λv M'=>v=.tuple [.agg (A2p (A1i x u)),B (A1i x u).isSome]/\M'=M)
 |.mk id kind lab hd ws ks,x,M,hg=>by
  refine A3f (λn=>by simp only[bdd,A1Y,Z1M];exact C1Z n _) ?_;obtain⟨_,_,s,_,r,_,t,m,f⟩:=(A0a.good_iff _).1 hg;have f:∀k∈ks,k.good:=f;have q:ks.length<=9223372036854775807:=m;have b:(A0a.mk id kind lab hd ws ks).row=[I id.act,I id.item,I id.n,I kind,S lab,.list 4 (A0g hd) .no,.list 4 (A0g ws) .no,.list 8 (A0q ks) .no]:=by rw[A0a.row]
  have hR:A1i x (.mk id kind lab hd ws ks)=if id=x then some (.mk id kind lab hd ws ks)else A9Y x ks:=by rw[A1i]
  rw[hR];have hx:x.row=[I x.act,I x.item,I x.n]:=rfl;by_cases h0:id=x
  .rw[Z0d h0];have o:A2p (some (.mk id kind lab hd ws ks))=[I id.act,I id.item,I id.n,I kind,S lab,.list 4 (A0g hd) .no,.list 4 (A0g ws) .no,.list 8 (A0q ks) .no]:=b;rw[o,b,hx];refine A0o hB func104 ?_;simp -dsimp -implicitDefEqProofs[B3h,Z1h h0,A0l,A0m,A0e,A0K,A0I,A0d.refl,A0d.app,C8P,A0k]
  rw[Z0c h0];generalize p:A9Y x ks=R;rw[b,hx];refine A0o hB func104 ?_;simp -dsimp -implicitDefEqProofs[B3h,h0,A0l,A0m,A0e,A0K,A0I];refine A0y hB ks.length 6 (λT M1=>∃i:Nat,i<=ks.length/\T 2=.cptr [I id.act,I id.item,I id.n,I kind,S lab,.list 4 (A0g hd) .no,.list 4 (A0g ws) .no,.list 8 (A0q ks) .no]/\T 3=.cptr [I x.act,I x.item,I x.n]/\T 4=.ptr M.length 0/\T 6=I i/\(∃z,M1[M.length]?=some (.cells 27 z)/\z.length=8)/\Grow M M1/\R=A9Y x (ks.drop i)) ?_ ?_
  .exact⟨0,by omega,by simp,by simp,by simp,by simp,⟨_,List.getElem?_concat_length,rfl⟩,A0d.app _ _ _,by simp[p]⟩
  .rintro T M1 ⟨i,i1,t2,t3,t4,t6,⟨z,hz,g⟩,j,ho⟩;by_cases hi:i<ks.length;case neg=>
    (have a:¬(i:Int)<ks.length:=by omega);rw[show ks.drop i=[]from Z0o (by omega),A9Y]at ho
    subst ho;have e:M.length<M1.length:=(Z0a.1 hz).1;have hd:List.drop 8 z=[]:=Z0o (by omega);simp -dsimp -implicitDefEqProofs[t2,t3,t4,t6,a,A0h hz,A0K,A0I,g,hd,A0z e,A0k,A2p,A1o j]
   (have a:(i:Int)<ks.length:=by omega);have w1:IntKind.i64.wrap ((i:Int)+1)=(i+1:Nat):=by rw[A0J (by omega) (by omega)];omega
   have d:ks[i]∈ks:=Z0q hi;have e:M.length<M1.length:=(Z0a.1 hz).1;rw[Z0i hi,A9Y]at ho;have:=A0a.kid_lt (u:=.mk id kind lab hd ws ks) d;have hf:=λM=>C6w ks[i] x M (f _ d);generalize A1i x ks[i]=F at*;(have hX:(M1++[A0p.cells 27 (A2p F)])[M1.length]?=some (A0p.cells 27 (A2p F)):=by simp);(have h:(M1++[A0p.cells 27 (A2p F)])[M.length]?=some (A0p.cells 27 z):=by rw[Z0h e];exact hz);(have l:M.length<(M1++[A0p.cells 27 (A2p F)]).length:=by simp;omega);have hd:List.drop 8 z=[]:=Z0o (by omega);have c:Grow M (M1++[A0p.cells 27 (A2p F)]):=j.trans (A0d.app none _ _);simp -dsimp -implicitDefEqProofs[t2,t3,t4,t6,hi,a];refine A0X hB (A0t gl) (λk=>if k=10\/k=11 then 2 else 0) (λ_=>0) (by rfl) (by kernel_rfl) ?_;simp -dsimp -implicitDefEqProofs[t2,t3,t4,t6,hi,a];refine A1G func104 hf ?_;cases F with
   |none=>simp -dsimp -implicitDefEqProofs[t2,t3,t4,t6,hi,a,A0l,A0m,A0e,A0K,A0I,w1];exact⟨⟨i+1,by clear w1;omega,rfl,⟨z,h,g⟩,c,ho⟩,by clear w1;omega⟩
   |some v=>have ho:R=some v:=ho;subst ho;simp -dsimp -implicitDefEqProofs[t2,t3,t4,t6,hi,a,A0l,A0m,A0e,A0K,A0I];rw[A0b hX];simp -dsimp -implicitDefEqProofs[A0k,t4,A0h h,A0K,A0I,g,hd,A0z l,A1o c]
termination_by u=>SizeOf.sizeOf u
end
def B7m:Option A0a->Int
 |some u=>u.kind
 |none=>0
def A4p(F:IdD->Option A0a)(l:List A0C)(n:Int):Int:=if n<0 then 0 else match l[n.toNat]? with
 |some s=>B7m (F s.id)
 |none=>0
def A2t(l:List A0C)(n:Int):Int:=match l[n.toNat]? with
 |some s=>s.parent
 |none=>-1
def B3j(l:List A0C)(n:Nat):Prop:=∀j,(h:j<l.length)->j<=n->-1<=l[j].parent/\l[j].parent<j
def A2C(l:List A0C):Nat->Int->Nat
 |0,_=>0
 |f+1,n=>if n<0 then 0 else A2C l f (A2t l n)+1
abbrev B2d(l:List A0C)(a b c:Nat):AV:=.agg [.list 5 (A1U l) .no,.mapr a,.mapr b,.mapr c]
def C8f(o:Option A0a):∃a b c d e f g,A2p o=[I a,I b,I c,I (B7m o),d,e,f,g]:=by
 cases o with
 |none=>exact⟨_,_,_,_,_,_,_,rfl⟩
 |some u=>exact⟨_,_,_,_,_,_,_,u.row_eq⟩
def C4h:A8O prog 27=some (.agg zU):=by simp[A8O];rfl
section
variable (gl:Nat->AV)
def E3Q(u:A0a)(l:List A0C)(n:Int)(M:Mem)(hg:u.good)(hn:n<l.length):A0c (WC gl) 107 [.agg u.row,.list 5 (A1U l) .no,I n] M (λv M'=>v=I (A4p (λx=>A1i x u) l n)/\M'=M):=by
 refine A3f (λ_=>trivial) ?_;have hf:=λx M=>C6w gl u x M hg;rw[u.row_eq]at hf|-;refine A0o hB func107 ?_;by_cases h0:n<0
 .simp -dsimp -implicitDefEqProofs[h0,A4p,A0d.refl]
 obtain⟨m,rfl⟩:∃m:Nat,n=m:=⟨n.toNat,by omega⟩;have hm:m<l.length:=by omega
 have h:¬(m:Int)<0:=by omega
 have hf:=λM=>hf l[m].id M;simp only[IdD.row]at hf;obtain⟨a,b,c,d,e,f,g,hr⟩:=C8f (A1i l[m].id u);have hX:(M++[A0p.cells 27 [I a,I b,I c,I (B7m (A1i l[m].id u)),d,e,f,g]])[M.length]?=some (A0p.cells 27 [I a,I b,I c,I (B7m (A1i l[m].id u)),d,e,f,g]):=by simp
 have i:A4p (λx=>A1i x u) l m=B7m (A1i l[m].id u):=by simp[A4p,hm,h]
 rw[i];simp -dsimp -implicitDefEqProofs[h];refine A0X hB (A0t gl) (λk=>if k=10\/k=11 then 2 else 0) (λ_=>0) (by rfl) (by kernel_rfl) ?_;simp -dsimp -implicitDefEqProofs[h,hm,A0C.row];refine A1G func104 hf ?_;simp -dsimp -implicitDefEqProofs[A0l,A0m,A0e,A0K,A0I,hr];rw[A0b hX];simp -dsimp -implicitDefEqProofs[A0d.app]
def B8i(l:List A0C)(L:List (IdD×A0a))(a b c:Nat)(n:Int)(M:Mem)(hM:A2i A2R B4Z M a L)(hn:n<l.length):A0c (WC gl) 151 [B2d l a b c,I n] M (λv M'=>v=I (A4p (A1V L) l n)/\M'=M):=by
 refine A0o hB func151 ?_;by_cases h0:n<0
 .simp -dsimp -implicitDefEqProofs[h0,A4p]
 obtain⟨m,rfl⟩:∃m:Nat,n=m:=⟨n.toNat,by omega⟩;have hm:m<l.length:=by omega
 have d:¬(m:Int)<0:=by omega
 have e:A1S prog 92 M (.mapr a) (.agg [I l[m].id.act,I l[m].id.item,I l[m].id.n]) false=some (.agg (A2p (A1V L l[m].id))):=by rw[show AV.agg [I l[m].id.act,I l[m].id.item,I l[m].id.n]=A2R l[m].id from rfl,hM.get (A9j 92 27 (by kernel_rfl)) l[m].id C4h false];cases A1V L l[m].id<;>rfl
 have f:A4p (A1V L) l m=B7m (A1V L l[m].id):=by simp[A4p,hm,d]
 rw[f];obtain⟨a2,b2,c2,d2,e2,f2,g2,hr⟩:=C8f (A1V L l[m].id);simp -dsimp -implicitDefEqProofs[d];refine A0X hB (A0t gl) (λk=>if k=8 then 1 else 0) (λ_=>a) (by rfl) (by kernel_rfl) ?_;simp -dsimp -implicitDefEqProofs[d,hm,A0C.row,A1a,e,hr]
def E4c(l:List A0C)(n:Int)(M:Mem)(hl:l.length<=1000)(hn:-1<=n/\n<l.length)(ho:B3j l n.toNat):A0c (WC gl) 108 [.list 5 (A1U l) .no,I n] M (λv M'=>v=I (A2C l (n+1).toNat n)/\M'=M):=by
 refine A0o hB func108 ?_;obtain⟨R,hR⟩:∃R,R=A2C l (n+1).toNat n:=⟨_,rfl⟩;rw[<-hR];simp -dsimp -implicitDefEqProofs;refine A1R hB (λT M1=>∃(m:Int) (f d:Nat),-1<=m/\m<=n/\(m+1).toNat<=f/\d+f<=1001/\T 0=.list 5 (A1U l) .no/\T 1=I m/\T 5=I d/\M1=M/\R=d+A2C l f m) (λT M1=>match T 1 with|.val (.int _ i)=>(i+1).toNat|_=>0) (by kernel_rfl) ?_ ?_
 .exact⟨n,(n+1).toNat,0,by omega,by omega,by omega,by omega,by simp,by simp,by simp,rfl,by simp[hR]⟩
 .rintro T M1 ⟨m,f,d,m1,m2,f1,d1,t0,t1,t5,rfl,hr⟩;by_cases h0:m<0
  ·(have a:¬m>=0:=by omega);have b:¬0<=m:=by omega
   (have hz:A2C l f m=0:=by cases f<;>simp[A2C,h0]);rw[hz,Z0U]at hr
   simp -dsimp -implicitDefEqProofs[t0,t1,t5,a,b,hr]
  obtain⟨k,rfl⟩:∃k:Nat,m=k:=⟨m.toNat,by omega⟩;have a:(k:Int)>=0:=by omega
  have hk:k<l.length:=by omega
  obtain⟨f,rfl⟩:∃g,f=g+1:=⟨f-1,by omega⟩;obtain⟨q1,q2⟩:=ho k hk (by omega);have hp:A2t l k=l[k].parent:=by simp[A2t,hk]
  rw[A2C,Z0c h0,hp]at hr;have w1:=A1E (i:=d) (by omega);simp -dsimp -implicitDefEqProofs[t0,t1,t5,a,hk,w1,A0C.row];exact⟨⟨_,q1,by omega,f,by omega,d+1,by omega,rfl,rfl,by omega⟩,q2⟩
def D5o(l:List A0C)(a b c:Nat)(n:Int)(M:Mem)(hl:l.length<=1000)(hn:-1<=n/\n<l.length)(ho:B3j l n.toNat):A0c (WC gl) 154 [B2d l a b c,I n] M (λv M'=>v=I (A2C l (n+1).toNat n)/\M'=M):=by
 refine A0o hB func154 ?_;obtain⟨R,hR⟩:∃R,R=A2C l (n+1).toNat n:=⟨_,rfl⟩;rw[<-hR];simp -dsimp -implicitDefEqProofs;refine A1R hB (λT M1=>∃(m:Int) (f d:Nat),-1<=m/\m<=n/\(m+1).toNat<=f/\d+f<=1001/\T 2=.cptr [.list 5 (A1U l) .no,.mapr a,.mapr b,.mapr c]/\T 1=I m/\T 5=I d/\M1=M/\R=d+A2C l f m) (λT M1=>match T 1 with|.val (.int _ i)=>(i+1).toNat|_=>0) (by kernel_rfl) ?_ ?_
 .exact⟨n,(n+1).toNat,0,by omega,by omega,by omega,by omega,by simp,by simp,by simp,rfl,by simp[hR]⟩
 .rintro T M1 ⟨m,f,d,m1,m2,f1,d1,t0,t1,t5,rfl,hr⟩;by_cases h0:m<0
  ·(have e:¬m>=0:=by omega);have h:¬0<=m:=by omega
   (have hz:A2C l f m=0:=by cases f<;>simp[A2C,h0]);rw[hz,Z0U]at hr
   simp -dsimp -implicitDefEqProofs[t0,t1,t5,e,h,hr]
  obtain⟨k,rfl⟩:∃k:Nat,m=k:=⟨m.toNat,by omega⟩;have e:(k:Int)>=0:=by omega
  have hk:k<l.length:=by omega
  obtain⟨f,rfl⟩:∃g,f=g+1:=⟨f-1,by omega⟩;obtain⟨q1,q2⟩:=ho k hk (by omega);have hp:A2t l k=l[k].parent:=by simp[A2t,hk]
  rw[A2C,Z0c h0,hp]at hr;have w1:=A1E (i:=d) (by omega);simp -dsimp -implicitDefEqProofs[t0,t1,t5,e,hk,w1,A0C.row];exact⟨⟨_,q1,by omega,f,by omega,d+1,by omega,rfl,rfl,by omega⟩,q2⟩
end
open Go.Proofs TryTypes
def A8V(l:List A0C)(n:Nat):ByteArray:=match l[n]? with
 |some s=>s.label
 |none=>⟨#[]⟩
def A2T(l:List A0C)(p:Int)(i:Nat):List Nat:=(List.range i).filter λk=>decide (A2t l k=p)
def C0h(F:IdD->Option A0a)(l:List A0C)(n:Nat)(lab:ByteArray)(k:Nat):Bool:=decide (A8V l k=lab)&&decide (A4p F l k=A4p F l n)
def B3K(F:IdD->Option A0a)(uid:IdD)(l:List A0C)(n:Nat):Int:=match l[n]? with
 |none=>0
 |some x=>
  if !(F x.id).isSome||decide (x.id=uid)then 4
  else if(l.take n).any λs=>decide (s.id=x.id)then 5
  else if decide (x.parent< -1)||decide ((n:Int)<=x.parent)then 12
  else if !A0B x.label then 1
  else if !A1Z (A4p F l x.parent) (A4p F l n)then 9
  else if(A2T l x.parent n).any (C0h F l n x.label)then 10
  else if decide (64<=(A2T l x.parent n).length)||decide (8<A2C l (n+1) n)then 6
  else 0
def D2Z(l:List A0C)(p:Int)(i:Nat):A2T l p (i+1)=A2T l p i++if A2t l i=p then[i]else[]:=by simp only[A2T,Z2N,Z2K];by_cases h:A2t l i=p<;>simp[h]
def D4x{l:List A0C}{p:Int}{i k:Nat}(h:k<i)(hp:A2t l k=p):k∈A2T l p i:=by simp[A2T,h,hp]
def B1B(l:List A0C)(p:Int)(i:Nat):(A2T l p i).length<=i:=by have:=Z3E (λk:Nat=>decide (A2t l k=p)) (List.range i);simpa[A2T]using this
def A7A{l}{p}{i k}(h:k∈A2T l p i):k<i:=by simp[A2T]at h;exact h.1
section
variable (gl:Nat->AV)
end
def A7O(E:Nat->Int):Nat->Nat->Int
 |0,_=>0
 |r+1,i=>if E i=0 then A7O E r (i+1)else E i
def D5s{F:IdD->Option A0a}{uid}{l}{n}(hn:n<l.length)(h:B3K F uid l n=0):-1<=l[n].parent/\l[n].parent<n:=by
 simp only[B3K,Z0m hn]at h;split at h
 .simp at h
 split at h
 .simp at h
 split at h
 .simp at h
 rename_i h3;simp only[Z1z,Z0l,Z3a]at h3;omega
def C8g{F:IdD->Option A0a}{uid}{l}{n}(h:∀j,j<n->B3K F uid l j=0):∀j,j<n->B3j l j:=λj hj k hk hkj=>D5s hk (h k (by omega))
def A6i(F:IdD->Option A0a)(u:A0a)(l:List A0C):Int:=
 if !A3E u then 11 else
 if A7O (B3K F u.id l) l.length 0=0 then(if(l.length:Int)=A0j u-1 then 0 else 13)else A7O (B3K F u.id l) l.length 0
section
variable (gl:Nat->AV)
end
def C8O(k:Nat):List AV:=[I k]
section
variable (gl:Nat->AV)
def D8E(fid:FuncId)(first cap:List AV)(p:Nat->Bool)(l:List Nat)(hl:l.length<=1000)(v:AV)(M:Mem)(hv:A1b 3 1 C8O M v l) (hf:∀k∈l,A4A (WC gl) fid (first++I k::cap) M (λr M'=>r=B (p k)/\M'=M)):A0c (WC gl) 206 [v,.func (.func fid) first cap] M (λr M'=>(∃z:Int,r=I z/\decide (0<=z)=l.any p)/\M'=M):=by
 refine A0o hB func206 ?_
 have b:A2v prog 130 v=some l.length:=hv.len (e':=3) (by simp)
 simp -dsimp -implicitDefEqProofs[b]
 refine A0y hB l.length 8 (λT M1=>∃i:Nat,i<=l.length/\M1=M/\T 0=v/\T 1=.func (.func fid) first cap/\T 7=I l.length/\T 8=I i/\l.any p=(l.drop i).any p) ?_ ?_
 .exact⟨0,by omega,rfl,by simp,by simp,by simp,by simp,by simp⟩
 .rintro T M1 ⟨i,i1,rfl,t0,t1,t7,t8,ho⟩;by_cases hi:i<l.length
  ·(have a:(i:Int)<l.length:=by omega);have w1:=A1E (i:=i) (by omega)
   obtain⟨q,p1,p2⟩:=hv.at1 (P:=prog) (t:=3) (f:=λk:Nat=>I k) (λ_=>rfl) (by simp) (by simp) hi;rw[Z0i hi,Z2C]at ho;simp -dsimp -implicitDefEqProofs[t0,t1,t7,t8,hi,a,p1,p2];refine A1l (hf l[i] (Z0q hi)) ?_;rintro _ _ ⟨rfl,rfl⟩;cases hp:p l[i]
   .rw[hp,Z1v]at ho;simp -dsimp -implicitDefEqProofs[t0,t1,t7,t8,w1];exact⟨⟨i+1,by clear w1;omega,rfl,ho⟩,by clear w1;omega⟩
   .rw[hp,Z2i]at ho;simp -dsimp -implicitDefEqProofs[t0,t1,t7,t8,ho]
  ·(have a:¬(i:Int)<l.length:=by omega);rw[show l.drop i=[]from Z0o (by omega),Z4k]at ho
   simp -dsimp -implicitDefEqProofs[t0,t1,t7,t8,a,ho]
def D5B(fid:FuncId)(first cap:List AV)(p:Nat->Bool)(l:List Nat)(hl:l.length<=1000)(v:AV)(M:Mem)(hv:A1b 3 1 C8O M v l) (hf:∀k∈l,A4A (WC gl) fid (first++I k::cap) M (λr M'=>r=B (p k)/\M'=M)):A0c (WC gl) 153 [v,.func (.func fid) first cap] M (λr M'=>r=B (l.any p)/\M'=M):=by
 refine A0o hB func153 ?_
 simp -dsimp -implicitDefEqProofs
 refine A0s func206 (D8E gl fid first cap p l hl v M hv hf) ?_
 rintro _ _ ⟨⟨z,rfl,hz⟩,rfl⟩
 by_cases h:0<=z
 .have hg:z>=0:=h;rw[Z0v h]at hz;simp -dsimp -implicitDefEqProofs[h,hg,hz]
 .have hg:¬z>=0:=h;rw[Z0y h]at hz;simp -dsimp -implicitDefEqProofs[h,hg,hz]
def D6A(l:List A0C)(L:List (IdD×A0a))(a b c bx n k:Nat)(x:A0C)(M:Mem)(hM:A2i A2R B4Z M a L)(hX:M[bx]?=some (.cells 69 [I x.id.act,I x.id.item,I x.id.n,I x.parent,S x.label]))(hk:k<l.length)(hn:n<l.length):A0c (WC gl) 150 [I k,.cptr [.list 5 (A1U l) .no,.mapr a,.mapr b,.mapr c],.ptr bx 0,.cptr [I n]] M (λr M'=>r=B (C0h (A1V L) l n x.label k)/\M'=M):=by
 refine A0o hB func150 ?_
 have e:A8V l k=l[k].label:=by simp[A8V,hk]
 have d:=λ(m:Nat) (h:m<l.length)=>B8i gl l L a b c m M hM (by omega)
 simp -dsimp -implicitDefEqProofs
 refine A0X hB (A0t gl) (λk=>if k=7 then 1 else if k=12\/k=15 then 2 else 0) (λ_=>bx) (by rfl) (by kernel_rfl) ?_
 by_cases c1:l[k].label=x.label
 case neg=>
  have hd:C0h (A1V L) l n x.label k=false:=by simp[C0h,e,c1]
  simp -dsimp -implicitDefEqProofs[hk,A0C.row,A1a,A0b hX,c1,hd]
 simp -dsimp -implicitDefEqProofs[hk,A0C.row,A1a,A0b hX,Z1h c1]
 refine A5i (A0V func151 rfl rfl (d k hk)) ?_
 simp -dsimp -implicitDefEqProofs
 refine A5i (A0V func151 rfl rfl (d n hn)) ?_
 simp -dsimp -implicitDefEqProofs[C0h,e,c1]
 rfl
def D0a:AV:=.val (.slice none 0 0)
def B5r:A8O prog 130=some D0a:=by simp[A8O];rfl
def D6K:A8O prog 3=some (I 0):=by kernel_rfl
def D3K(ap:gl 0=A2h)(u:A0a)(l:List A0C)(L:List (IdD×A0a))(IL:List (IdD×Nat))(KL:List (Int×AV))(a b c n:Nat)(M:Mem)(hM:A2i A2R B4Z M a L)(hI:A2i A2R (λn:Nat=>I n) M b IL)(hK:A2i I (λv=>v) M c KL)
 (aq:∀y,(A1V IL y).isSome=(l.take n).any (λs=>decide (s.id=y)))(ar:∀p,A1b 3 1 C8O M ((A1V KL p).getD D0a) (A2T l p n))(hl:l.length<=1000)(hs:∀s∈l,s.good)(hn:n<l.length)(ag:∀j,j<n->B3j l j):
 A0c (WC gl) 103 [B2d l a b c,.agg u.row,I n] M (λr M'=>r=I (B3K (A1V L) u.id l n)/\M'=M):=by
 refine A3f (λ_=>trivial) ?_
 obtain⟨x,hx⟩:∃x,x=l[n]:=⟨_,rfl⟩
 obtain⟨R,hR⟩:∃R,R=B3K (A1V L) u.id l n:=⟨_,rfl⟩
 rw[<-hR]
 have au:l[n]?=some x:=by rw[hx];simp[hn]
 have ai:=hx.symm
 simp only[B3K,au]at hR
 have ax:x.good:=hs x (by rw[hx];exact Z0q hn)
 have a1:∀y:IdD,A1z prog .eql 23 (.agg [I x.id.act,I x.id.item,I x.id.n]) (.agg [I y.act,I y.item,I y.n])=some (B (decide (x.id=y))):=λy=>B3h x.id y
 obtain⟨M1,a9⟩:∃M1,M1=M++[A0p.cells 69 [I x.id.act,I x.id.item,I x.id.n,I x.parent,S x.label]]:=⟨_,rfl⟩
 have ad:M1[M.length]?=some (A0p.cells 69 [I x.id.act,I x.id.item,I x.id.n,I x.parent,S x.label]):=by rw[a9];simp
 have a3:Grow M M1:=by rw[a9];exact A0d.app none _ _
 obtain⟨M2,ac⟩:∃M2,M2=M1++[A0p.cells 27 (A2p (A1V L x.id))]:=⟨_,rfl⟩
 have a5:Grow M1 M2:=by rw[ac];exact A0d.app none _ _
 have g:=a3.trans a5
 have q:=a5.get ad (by simp)
 have ae:A1S prog 92 M1 (.mapr a) (.agg [I x.id.act,I x.id.item,I x.id.n]) true=some (.tuple [.agg (A2p (A1V L x.id)),B (A1V L x.id).isSome]):=by rw[show AV.agg [I x.id.act,I x.id.item,I x.id.n]=A2R x.id from rfl,(hM.keep a3 (by simp)).get (A9j 92 27 (by kernel_rfl)) x.id C4h true];cases A1V L x.id<;>rfl
 have f:∃z,A1S prog 93 M2 (.mapr b) (.agg [I x.id.act,I x.id.item,I x.id.n]) true=some (.tuple [I z,B ((l.take n).any (λs=>decide (s.id=x.id)))]):=by rw[show AV.agg [I x.id.act,I x.id.item,I x.id.n]=A2R x.id from rfl,(hI.keep g (by simp)).get (A9j 93 3 (by kernel_rfl)) x.id D6K true,<-aq];cases A1V IL x.id<;>exact⟨_,rfl⟩
 obtain⟨z,f⟩:=f
 have aj:A1S prog 94 M1 (.mapr c) (I x.parent) false=some ((A1V KL x.parent).getD D0a):=by rw[(hK.keep a3 (by simp)).get (C0I 94 130 (by kernel_rfl)) x.parent B5r false];cases A1V KL x.parent<;>rfl
 have ab:=(ar x.parent).keep g (by simp)
 obtain⟨sv,ao⟩:∃sv,sv=(A1V KL x.parent).getD D0a:=⟨_,rfl⟩
 rw[<-ao]at aj ab
 have al:=hM.keep g (by simp)
 have af:=λ(m:Int) (h:m<l.length) (M:Mem) (hM:A2i A2R B4Z M a L)=>B8i gl l L a b c m M hM h
 have a7:=ab.len (P:=prog) (t:=130) (e':=3) (by simp)
 obtain⟨o,ho⟩:∃o,o=A1V L x.id:=⟨_,rfl⟩
 rw[<-ho]at hR ae ac
 obtain⟨b1,aw⟩:∃b1,b1=((l.take n).any (λs=>decide (s.id=x.id))):=⟨_,rfl⟩
 rw[<-aw]at f hR
 rw[u.row_eq]
 refine A0o hB func103 ?_
 simp -dsimp -implicitDefEqProofs[hn,ai,A0C.row,A0l,A0m,A0e,A0K,A0I]
 rw[<-a9]
 simp -dsimp -implicitDefEqProofs[A0b ad,aj,ae,A0l,A0m,A0e,A0K,A0I]
 rw[<-ac]
 cases o with
 |none=>
  simp only[Option.isSome_none,Z1S,Z2i,Z0M]at hR
  simp -dsimp -implicitDefEqProofs[A0b q,f,hR,g]
 |some v=>
 simp only[Z3r,Z1U,Z1v,Z0l]at hR
 by_cases c2:x.id=u.id
 case pos=>rw[Z0d c2]at hR;simp -dsimp -implicitDefEqProofs[A0b q,f,a1,Z1h c2,hR,g]
 rw[Z0c c2]at hR
 cases b1 with
 |true=>
  rw[Z0d rfl]at hR
  simp -dsimp -implicitDefEqProofs[A0b q,f,a1,c2,hR,g]
 |false=>
 simp only[Z0J,Z1o]at hR
 by_cases c3:x.parent< -1
 case pos=>
  rw[Z0v c3,Z2i,Z0d rfl]at hR;have a6:¬-1<=x.parent:=by omega
  simp -dsimp -implicitDefEqProofs[A0b q,f,a1,c2,c3,a6,hR,g]
 have a6:-1<=x.parent:=by omega
 rw[Z0y c3,Z1v]at hR
 by_cases c4:(n:Int)<=x.parent
 case pos=>rw[Z0v c4,Z0d rfl]at hR;have a8:x.parent>=n:=c4;simp -dsimp -implicitDefEqProofs[A0b q,f,a1,c2,c3,a6,c4,a8,hR,g]
 rw[Z0y c4]at hR
 simp only[Z0J,Z1o]at hR
 have a8:¬x.parent>=n:=c4
 simp -dsimp -implicitDefEqProofs[A0b q,f,a1,c2,c3,a6,c4,a8]
 refine A0s func112 (A6C gl _ x.label) ?_
 rintro _ M3 ⟨rfl,w⟩
 have ak:=w.get q (by simp)
 have a4:=al.keep w (by simp)
 have am:=ab.keep w (by simp)
 have d:=g.trans w
 cases c5:A0B x.label
 case false=>simp only[c5,Z1S,Z0M]at hR;simp -dsimp -implicitDefEqProofs[hR,d]
 simp only[c5,Z1U,Z0J,Z1o]at hR
 have an:x.parent<l.length:=by omega
 simp -dsimp -implicitDefEqProofs
 refine A0X hB (A0t gl) (λk=>if k=2 then 1 else if k=3\/k=6\/k=7 then 2 else 0) (λ_=>M.length) (by rfl) (by kernel_rfl) ?_
 simp -dsimp -implicitDefEqProofs[A1a,A0b ak]
 refine A5i (A0V func151 rfl rfl (af x.parent an _ a4)) ?_
 simp -dsimp -implicitDefEqProofs
 refine A5i (A0V func151 rfl rfl (af n (by omega) _ a4)) ?_
 simp -dsimp -implicitDefEqProofs
 refine A5i (A0V func152 rfl rfl (A9G gl M3 ap (A4p (A1V L) l x.parent) (A4p (A1V L) l n))) ?_
 cases c6:A1Z (A4p (A1V L) l x.parent) (A4p (A1V L) l n)
 case false=>simp only[c6,Z1S,Z0M]at hR;simp -dsimp -implicitDefEqProofs[hR,d]
 simp only[c6,Z1U,Z0J,Z1o]at hR
 simp -dsimp -implicitDefEqProofs
 refine A0s func153 (D5B gl 150 [] [.cptr [.list 5 (A1U l) .no,.mapr a,.mapr b,.mapr c],.ptr M.length 0,.cptr [I n]] (C0h (A1V L) l n x.label) (A2T l x.parent n) (by have:=B1B l x.parent n;omega) sv M3 am ?_) ?_
 .intro k hk;exact A0V func150 rfl rfl (D6A gl l L a b c M.length n k x M3 a4 ak (by have:=A7A hk;omega) hn)
 rintro _ _ ⟨rfl,rfl⟩
 cases c7:(A2T l x.parent n).any (C0h (A1V L) l n x.label)
 case true=>rw[c7,Z0d rfl]at hR;simp -dsimp -implicitDefEqProofs[hR,d]
 rw[c7]at hR
 simp only[Z0J,Z1o]at hR
 have av:B3j l ((n:Int)).toNat:=by
  intro j hj h;have h:j<=n:=by simpa using h
  by_cases e:j=n
  .subst e;rw[ai];exact⟨a6,by omega⟩
  .exact ag j (by omega) j hj (Z0n _)
 by_cases c9:64<=(A2T l x.parent n).length
 case pos=>
  have a0:(64:Int)<=(A2T l x.parent n).length:=by omega
  have aa:((A2T l x.parent n).length:Int)>=64:=a0;rw[Z0v c9,Z2i,Z0d rfl]at hR;simp -dsimp -implicitDefEqProofs[a7,a0,aa,hR,d]
 have a0:¬(64:Int)<=(A2T l x.parent n).length:=by omega
 have aa:¬((A2T l x.parent n).length:Int)>=64:=a0
 rw[Z0y c9,Z1v]at hR
 have ah:=λM=>D5o gl l a b c n M hl ⟨by omega,by omega⟩ av
 rw[show((n:Int)+1).toNat=n+1 by omega]at ah
 simp -dsimp -implicitDefEqProofs[a7,a0,aa]
 refine A0i func154 (ah _) ?_
 by_cases c10:8<A2C l (n+1) n
 .have i:(8:Int)<A2C l (n+1) n:=by omega
  have a2:(A2C l (n+1) n:Int)>8:=i;rw[Z0v c10,Z0d rfl]at hR;simp -dsimp -implicitDefEqProofs[i,a2,hR,d]
 .have i:¬(8:Int)<A2C l (n+1) n:=by omega
  have a2:¬(A2C l (n+1) n:Int)>8:=i;rw[Z0y c10]at hR;simp only[Z0J,Z1o]at hR;simp -dsimp -implicitDefEqProofs[i,a2,hR,d]
end
end Go.Abs
