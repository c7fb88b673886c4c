/- The texts CvO, CvQ, CvR, CvT, CvU, CvV, CvW, CyJ, CyK, CyL, CyM, CyN, CyO, CsA, CsB. -/
import Derived.Test.YtmpdkagfplajjaaGreatDoorFG29
import Derived.Test.YtmpdkagfplajjaaGreatDoorFG23
import Derived.Test.YtmpdkagfplajjaaGreatDoorFG28
import Derived.Test.YtmpdkagfplajjaaGreatDoorFG01
set_option linter.all false
set_option maxRecDepth 100000
namespace Go.Abs
open Go.Proofs TryTypes Tryz
def A5m(u:A0a):Bool:=(A4G A9k (λ(_:Unit) _=>()) u ()).1
def B0B(u:A0a):Bool:=A5m u&&decide (A1w u<=8)&&decide (A0o u<=1024)&&C3g u
def C4k(u:A0a):Bool:=A2l u&&decide (A1w u<=8)&&decide (A0o u<=1024)&&C4q u
def C7F(u:A0a):Bool:=decide (u.kind=0)&&B0B u&&decide ((A6h [] (A0V u)).length=A0o u)
def B2J(u:A0a):Bool:=decide (u.kind=0)&&C4k u&&A9a (A0V u) []
def Fit(u:A0a):Prop:=u.good/\u.lims/\A0o u<=1000
def A3f(u:A0a)(h:u.lims):u.lim/\A6W u.kids:=by obtain⟨a,b,c,d,e,f⟩:=u;rw[A0a.lims]at h;exact h
section
variable (gl:Nat->AV)
def B4y(i:gl 0=A2z)(d:gl 1=A2S)(u:A0a)(M:Mem)(hf:Fit u):A0d (WC gl) 109 [.agg u.row] M (λv M'=>v=B (B0B u)/\M'=M):=by
 obtain⟨hg,hl,hc⟩:=hf;have key:A0d (WC gl) 109 [.agg u.row] M (λv M'=>(∃x,v=.val x/\x=.bool (B0B u))/\Grow M M'):=by
  refine A0j hB func109 ?_;have hR:B0B u=(A5m u&&decide (A1w u<=8)&&decide (A0o u<=1024)&&C3g u):=rfl;simp -dsimp -implicitDefEqProofs;refine A0s func86 (A9P gl 156 [] [] A9k (λ(_:Unit) _=>()) (λM1 _=>Grow M M1) (λ_ u=>u.lims) (λ_ ks=>A6W ks) ?_ ?_ ?_ ?_ ?_ u () M hg hl (A0c.refl _ _)) ?_
  .intro a u h;exact(A3f u h).2
  .intro a k ks h;rw[A6W]at h;exact h.1
  .intro a k ks h _;rw[A6W]at h;exact h.2
  .intro M1 a X h;exact h.trans (A0c.app none _ _)
  .intro u a M1 e g b;refine(A1Y func156 rfl rfl (D5G gl M1 i d u e (A3f u g).1)).mono ?_;rintro _ _ ⟨rfl,h⟩;exact⟨rfl,b.trans h⟩
  .rintro _ M1 ⟨rfl,b⟩;have j:(A4G A9k (λ(_:Unit) _=>()) u ()).1=A5m u:=rfl;rw[j];cases h1:A5m u;(case false=>rw[h1]at hR;simp only[Z0q]at hR;simp -dsimp -implicitDefEqProofs[hR,b]);rw[h1,Z0r]at hR;simp -dsimp -implicitDefEqProofs;refine A0s func157 (B8P gl u M1 hg hc) ?_;rintro _ _ ⟨⟨_,rfl,rfl⟩,rfl⟩;by_cases h2:A1w u<=8;case neg=>
    (have c:¬(A1w u:Int)<=8:=by omega);rw[Z0w h2]at hR
    simp only[Z0q]at hR;simp -dsimp -implicitDefEqProofs[c,hR,b]
   (have c:(A1w u:Int)<=8:=by omega);rw[Z0s h2,Z0r]at hR
   simp -dsimp -implicitDefEqProofs[c];refine A0f func30 (B4K gl u _ hg hc) ?_;(have h3:A0o u<=1024:=by omega);(have f:(A0o u:Int)<=1024:=by omega);rw[Z0s h3,Z0r]at hR;simp -dsimp -implicitDefEqProofs[f];refine A0f func158 (D9Y gl u _ hg hc) ?_;simp -dsimp -implicitDefEqProofs[hR,b]
 exact(A7B key).mono (by rintro v M' ⟨⟨x,rfl,rfl⟩,rfl⟩;exact⟨rfl,rfl⟩)
def D8C(u:A0a)(M:Mem)(hf:Fit u):A0d (WC gl) 92 [.agg u.row] M (λv M'=>v=B (C4k u)/\M'=M):=by
 obtain⟨hg,hl,hc⟩:=hf;refine A0j hB func92 ?_;have hR:C4k u=(A2l u&&decide (A1w u<=8)&&decide (A0o u<=1024)&&C4q u):=rfl;simp -dsimp -implicitDefEqProofs;refine A0f func142 (C2p gl u M hg hl) ?_;cases h1:A2l u;case false=>rw[h1]at hR;simp only[Z0q]at hR;simp -dsimp -implicitDefEqProofs[hR]
 rw[h1,Z0r]at hR;simp -dsimp -implicitDefEqProofs;refine A0f func143 (C2q gl u _ hg hc) ?_;by_cases h2:A1w u<=8;case neg=>
  have a:¬(A1w u:Int)<=8:=by omega
  rw[Z0w h2]at hR;simp only[Z0q]at hR;simp -dsimp -implicitDefEqProofs[a,hR]
 have a:(A1w u:Int)<=8:=by omega
 rw[Z0s h2,Z0r]at hR;simp -dsimp -implicitDefEqProofs[a];refine A0f func49 (C2F gl u _ hg hc) ?_;have h3:A0o u<=1024:=by omega
 have b:(A0o u:Int)<=1024:=by omega
 rw[Z0s h3,Z0r]at hR;simp -dsimp -implicitDefEqProofs[b];refine A0f func144 (D7F gl u _ hg hc) ?_;simp -dsimp -implicitDefEqProofs[hR]
def D2Z(l:gl 0=A2z)(h:gl 1=A2S)(u:A0a)(M:Mem)(hf:Fit u):A0d (WC gl) 50 [.agg u.row] M (λv M'=>v=B (C7F u)/\M'=M):=by
 have key:A0d (WC gl) 50 [.agg u.row] M (λv M'=>(∃x,v=.val x/\x=.bool (C7F u))/\Grow M M'):=by
  have c:=λM=>B4y gl l h u M hf;obtain⟨hg,hl,hc⟩:=hf;have b:=B3h gl u [] M.length (M++[.map [] 0]) hg (A2a.new M);have a:=λM=>B4K gl u M hg hc;obtain⟨q1,q2⟩:=A7R u [] M.length (M++[.map [] 0]) (A2a.new M);have g:(A6C [] (A5G u)).length=(A6h [] (A0V u)).length:=by have:=B1p (A5G u) [];rw[A7u]at this;rw[<-Z0V (f:=λp:IdD×A0a=>p.1),this];rfl
  have i:A3d prog 92 (A5W u M.length (M++[.map [] 0])) (.mapr M.length)=some (A6h [] (A0V u)).length:=by rw[q1.len (kt:=23) (et:=27) (by simp),g]
  have e:Grow M (A5W u M.length (M++[.map [] 0])):=by refine⟨by have:=q2.1;simp at this;omega,λj hj _=>?_⟩;rw[q2.2 j (by simp;omega) (by simp;omega),Z0h hj]
  rw[u.row_eq]at c b a|-;have hR:C7F u=(decide (u.kind=0)&&B0B u&&decide ((A6h [] (A0V u)).length=A0o u)):=rfl;refine A0j hB func50 ?_;simp -dsimp -implicitDefEqProofs;refine A1i hB (A0G gl) (λk=>if k=9\/k=10\/k=11 then 2 else 0) (λ_=>0) (by rfl) (by kernel_rfl) ?_;by_cases k0:u.kind=0;case neg=>rw[Z0w k0]at hR;simp only[Z0q]at hR;simp -dsimp -implicitDefEqProofs[k0,hR,A0c.refl]
  rw[Z0s k0,Z0r]at hR;simp -dsimp -implicitDefEqProofs[Z0P k0];refine A1M func109 c ?_;cases h1:B0B u;case false=>rw[h1,Z0q]at hR;simp -dsimp -implicitDefEqProofs[Z0P k0,hR,A0c.refl]
  rw[h1,Z0r]at hR;simp -dsimp -implicitDefEqProofs[Z0P k0];refine A5f (A1Y func102 rfl rfl b) ?_;simp -dsimp -implicitDefEqProofs[A6o,i];refine A1M func30 a ?_;by_cases h2:(A6h [] (A0V u)).length=A0o u
  ·(have d:((A6h [] (A0V u)).length:Int)=(A0o u:Int):=by omega);rw[Z0s h2]at hR
   simp -dsimp -implicitDefEqProofs[Z0P d,hR,e]
  ·(have d:¬((A6h [] (A0V u)).length:Int)=(A0o u:Int):=by omega);rw[Z0w h2]at hR
   simp -dsimp -implicitDefEqProofs[d,hR,e]
 exact(A7B key).mono (by rintro v M' ⟨⟨x,rfl,rfl⟩,rfl⟩;exact⟨rfl,rfl⟩)
end
def D1N(id:IdD)(k:Int)(l:ByteArray)(h w:List A0H)(ks:List A0a):A5m (.mk id k l h w ks)=(A9k (.mk id k l h w ks)&&ks.all A5m):=by
 have hl:∀ks:List A0a,(A3I A9k (λ(_:Unit) _=>()) ks ()).1=ks.all A5m:=by
  intro ks;induction ks with
  |nil=>rw[A3I];rfl
  |cons k ks ih=>
   rw[A3I,Z1t];have:(A4G A9k (λ(_:Unit) _=>()) k ()).1=A5m k:=rfl;rw[this];cases A5m k
   .rfl
   .rw[Z0d rfl,Z0r];exact ih
 rw[A5m,A4G];cases A9k (.mk id k l h w ks)
 .rfl
 .rw[Z0d rfl,Z0r];exact hl ks
def C6X(u:A0a):(C0v u&&decide (u.kids.length<=64))=A3U u:=by
 unfold C0v A3U;by_cases k0:u.kind=0
 .rw[Z0d k0,Z0d k0,Z2e];simp only[Z0g,Z0m];constructor
  .rintro⟨⟨h1,h2⟩,h3⟩;have hh:u.head=[]:=Z0z (by omega);have hw:u.words=[]:=Z0z (by omega);rw[hh,hw];exact⟨⟨⟨⟨by omega,h3⟩,rfl⟩,rfl⟩,⟨h1,rfl⟩,rfl⟩
  .rintro⟨⟨⟨⟨_,h3⟩,_⟩,_⟩,⟨h1,h4⟩,h5⟩;exact⟨⟨h1,by omega⟩,h3⟩
 .rw[Z0e k0,Z0e k0,Z2e];simp only[Z0g,Z0m];constructor
  .rintro⟨⟨⟨⟨h1,h2⟩,h3⟩,h4⟩,h5⟩;exact⟨⟨⟨⟨by omega,h5⟩,h3⟩,h4⟩,h2⟩
  .rintro⟨⟨⟨⟨h1,h5⟩,h3⟩,h4⟩,h2⟩;exact⟨⟨⟨⟨by omega,h2⟩,h3⟩,h4⟩,h5⟩
def B7y(kind:Int):∀(ks b:List A0a),(∀k∈ks,A5m k=A2l k)->(A8D kind ks (b.map λu=>(u.kind,u.label))&&ks.all A5m)=A4h kind ks b
 |[],_,_=>by rw[A8D,A4h];rfl
 |k::ks,b,h=>by
  have ih:=B7y kind ks (b++[k]) λx hx=>h x (by simp[hx]);rw[Z0Q]at ih;have ih:(A8D kind ks (b.map (λu=>(u.kind,u.label))++[(k.kind,k.label)])&&ks.all A5m)=A4h kind ks (b++[k]):=ih;rw[A8D,A4h,<-ih,Z1t,h k (by simp)];have ha:((b.map λu=>(u.kind,u.label)).any λy=>decide (y=(k.kind,k.label)))=b.any λa=>A2k a k:=by rw[List.any_map];congr 1;funext a;simp only[Function.comp,A2k,Z0c,Bool.decide_and]
  rw[ha];cases A1o kind k.kind<;>cases A2l k<;>cases(b.any λa=>A2k a k)<;>simp
def B1U:∀u:A0a,A5m u=A2l u
 |.mk id k l h w ks=>by
  have ih:∀x∈ks,A5m x=A2l x:=λx hx=>by have:=A0a.kid_lt (u:=.mk id k l h w ks) hx;exact B1U x
  have h1:=B7y k ks [] ih;have h2:=C6X (.mk id k l h w ks);rw[D1N,A2l,<-h1,<-h2];show(C0v (.mk id k l h w ks)&&A8D k ks []&&decide (ks.length<=64)&&ks.all A5m)=(C0v (.mk id k l h w ks)&&decide (ks.length<=64)&&(A8D k ks []&&ks.all A5m));cases C0v (.mk id k l h w ks)<;>cases A8D k ks []<;>cases decide (ks.length<=64)<;>simp
termination_by u=>SizeOf.sizeOf u
def D1U(u:A0a):C7F u=B2J u:=by
 have h:=B2u (A0V u) ([]:List IdD);simp only[Z1G,Z0I]at h;have h2:decide ((A6h [] (A0V u)).length=A0o u)=A9a (A0V u) []:=by rw[Z2e,Z0m,<-h,A5o]
 simp only[C7F,B2J,B0B,C4k,B1U,B7x,h2]
structure A0S where
 id:IdD
 parent:Int
 label:ByteArray
def A0S.row(s:A0S):List AV:=[I s.id.act,I s.id.item,I s.id.n,I s.parent,S s.label]
def A0S.good(s:A0S):Prop:=s.id.good/\inI s.parent/\s.label.size<=maxLen
def A2C(l:List A0S):List (List AV):=l.map A0S.row
@[simp] def E1m(l:List A0S):(A2C l).length=l.length:=by simp[A2C]
@[simp] def E2i{p}{i}(h:i<(A2C p).length):(A2C p)[i]=(p[i]'(by simpa using h)).row:=by simp[A2C]
mutual
def A1k(x:IdD):A0a->Option A0a
 |.mk id k l h w ks=>if id=x then some (.mk id k l h w ks)else A9N x ks
def A9N(x:IdD):List A0a->Option A0a
 |[]=>none
 |k::ks=>match A1k x k with
  |some v=>some v
  |none=>A9N x ks
end
def zU:List AV:=[I 0,I 0,I 0,I 0,S ⟨#[]⟩,.val (.slice none 0 0),.val (.slice none 0 0),.val (.slice none 0 0)]
def A2j:Option A0a->List AV
 |some u=>u.row
 |none=>zU
def A7Y(n:Nat)(l:List A0H):A9S n (A0g l):=by
 induction l with
 |nil=>simp[A0g,A9S]
 |cons w l ih=>simp only[A0g,Z0B,A9S];exact⟨by simp[A0H.row,A1Q,bdd],ih⟩
mutual
def A2J(n:Nat):∀u:A0a,A1Q n u.row
 |.mk id k l h w ks=>by rw[A0a.row];simp only[A1Q,bdd,Z1N,Z2t];exact⟨A7Y n h,A7Y n w,B5k n ks⟩
def B5k(n:Nat):∀l:List A0a,A9S n (A0r l)
 |[]=>by rw[A0r];simp[A9S]
 |u::l=>by rw[A0r];exact⟨A2J n u,B5k n l⟩
end
def C1u(n:Nat)(o:Option A0a):A1Q n (A2j o):=by
 cases o with
 |none=>simp[A2j,zU,A1Q,bdd]
 |some u=>exact A2J n u
@[simp] def E1g(o:Option A0a):(A2j o).length=8:=by cases o<;>simp[A2j,zU]
@[simp] def D9Z(o:Option A0a):List.take 8 (A2j o)=A2j o:=Z0k (by simp)
def A4j{C}{f}{args}{M}{r}(hb:∀n,bdd n r)(h:A0d C f args M (λv M'=>v=r/\Grow M M')):A0d C f args M (λv M'=>v=r/\M'=M):=by
 refine h.cut ?_;rintro _ M' ⟨rfl,hg⟩;refine⟨M'.drop M.length,?_,hb _,rfl,rfl⟩;have ht:M'.take M.length=M:=by
  apply Z1K;intro i;rw[Z0N];split
  .rename_i hi;exact hg.2 i hi (by simp)
  .rename_i hi;exact(Z1d (by omega)).symm
 have:=Z0U M.length M';rw[ht]at this;exact this.symm
@[simp] def E5f:A0D prog 27 []=some (.agg zU):=by
 simp[A0D,A1l];rfl
def C8t{M:Mem}{t:TypeId}{cs:List AV}:A3b (M++[.cells t cs]) (.ptr M.length 0)=some cs:=by simp[A3b]
def A0y{M:Mem}{b:Nat}{t:TypeId}{cs:List AV}(h:b<M.length):A3b (M.set b (.cells t cs)) (.ptr b 0)=some cs:=by simp[A3b,h]
def A1e{M M1}{b}{X}(h:Grow M M1)(hb:M.length<=b):Grow M (M1.set b X):=⟨by simpa using h.1,λi hi _=>by rw[Z0f (by omega)];exact h.2 i hi (by simp)⟩
@[simp] def E7B:zU.length=8:=rfl
@[simp] def E4L:List.take 8 zU=zU:=rfl
section
variable (gl:Nat->AV)
def C6d:∀(u:A0a) (x:IdD) (M:Mem),u.good->A0d (WC gl) 104 [.agg u.row,.agg x.row] M (λv M'=>v=.tuple [.agg (A2j (A1k x u)),B (A1k x u).isSome]/\M'=M)
 |.mk id kind lab hd ws ks,x,M,hg=>by
  refine A4j (λn=>by simp only[bdd,A1Q,Z1N];exact C1u n _) ?_;obtain⟨_,_,s,_,r,_,t,m,f⟩:=(A0a.good_iff _).1 hg;have f:∀k∈ks,k.good:=f;have q:ks.length<=9223372036854775807:=m;have b:(A0a.mk id kind lab hd ws ks).row=[I id.act,I id.item,I id.n,I kind,S lab,.list 4 (A0g hd) .no,.list 4 (A0g ws) .no,.list 8 (A0r ks) .no]:=by rw[A0a.row]
  have hR:A1k x (.mk id kind lab hd ws ks)=if id=x then some (.mk id kind lab hd ws ks)else A9N x ks:=by rw[A1k]
  rw[hR];have hx:x.row=[I x.act,I x.item,I x.n]:=rfl;by_cases h0:id=x
  .rw[Z0d h0];have o:A2j (some (.mk id kind lab hd ws ks))=[I id.act,I id.item,I id.n,I kind,S lab,.list 4 (A0g hd) .no,.list 4 (A0g ws) .no,.list 8 (A0r ks) .no]:=b;rw[o,b,hx];refine A0j hB func104 ?_;simp -dsimp -implicitDefEqProofs[B5z,Z0P h0,A0m,A0n,A0e,A0c.app,C8t,A0k]
  rw[Z0e h0];generalize p:A9N x ks=R;rw[b,hx];refine A0j hB func104 ?_;simp -dsimp -implicitDefEqProofs[B5z,h0,A0m];refine A0v hB ks.length 6 (λT M1=>∃i:Nat,i<=ks.length/\T 2=.cptr [I id.act,I id.item,I id.n,I kind,S lab,.list 4 (A0g hd) .no,.list 4 (A0g ws) .no,.list 8 (A0r ks) .no]/\T 3=.cptr [I x.act,I x.item,I x.n]/\T 4=.ptr M.length 0/\T 6=I i/\(∃z,M1[M.length]?=some (.cells 27 z)/\z.length=8)/\Grow M M1/\R=A9N x (ks.drop i)) ?_ ?_
  .exact⟨0,by omega,by simp,by simp,by simp,by simp,⟨_,List.getElem?_concat_length,rfl⟩,A0c.app _ _ _,by simp[p]⟩
  .rintro T M1 ⟨i,i1,t2,t3,t4,t6,⟨z,hz,g⟩,j,ho⟩;by_cases hi:i<ks.length;case neg=>
    (have a:¬(i:Int)<ks.length:=by omega);rw[show ks.drop i=[]from Z0n (by omega),A9N]at ho
    subst ho;have e:M.length<M1.length:=(Z0b.1 hz).1;have hd:List.drop 8 z=[]:=Z0n (by omega);simp -dsimp -implicitDefEqProofs[t2,t4,t6,a,A0h hz,g,hd,A0y e,A0k,A2j,A1e j]
   (have a:(i:Int)<ks.length:=by omega);have w1:IntKind.i64.wrap ((i:Int)+1)=(i+1:Nat):=by rw[A0T (by omega) (by omega)];omega
   have d:ks[i]∈ks:=Z0u hi;have e:M.length<M1.length:=(Z0b.1 hz).1;rw[Z0j hi,A9N]at ho;have:=A0a.kid_lt (u:=.mk id kind lab hd ws ks) d;have hf:=λM=>C6d ks[i] x M (f _ d);generalize A1k x ks[i]=F at*;(have hX:(M1++[A0l.cells 27 (A2j F)])[M1.length]?=some (A0l.cells 27 (A2j F)):=by simp);(have h:(M1++[A0l.cells 27 (A2j F)])[M.length]?=some (A0l.cells 27 z):=by rw[Z0h e];exact hz);(have l:M.length<(M1++[A0l.cells 27 (A2j F)]).length:=by simp;omega);have hd:List.drop 8 z=[]:=Z0n (by omega);have c:Grow M (M1++[A0l.cells 27 (A2j F)]):=j.trans (A0c.app none _ _);simp -dsimp -implicitDefEqProofs[t2,t6,a];refine A1i hB (A0G gl) (λk=>if k=10\/k=11 then 2 else 0) (λ_=>0) (by rfl) (by kernel_rfl) ?_;simp -dsimp -implicitDefEqProofs[t2,t3,t6,hi,a];refine A1M func104 hf ?_;cases F with
   |none=>simp -dsimp -implicitDefEqProofs[t2,t3,t4,t6,A0m,A0n,A0e,w1];exact⟨⟨i+1,by clear w1;omega,rfl,⟨z,h,g⟩,c,ho⟩,by clear w1;omega⟩
   |some v=>have ho:R=some v:=ho;subst ho;simp -dsimp -implicitDefEqProofs[A0m,A0n,A0e];rw[A0b hX];simp -dsimp -implicitDefEqProofs[A0k,t4,A0h h,g,hd,A0y l,A1e c]
termination_by u=>SizeOf.sizeOf u
end
def C0k:Option A0a->Int
 |some u=>u.kind
 |none=>0
def A4U(F:IdD->Option A0a)(l:List A0S)(n:Int):Int:=if n<0 then 0 else match l[n.toNat]? with
 |some s=>C0k (F s.id)
 |none=>0
def A3w(l:List A0S)(n:Int):Int:=match l[n.toNat]? with
 |some s=>s.parent
 |none=>-1
def B2A(l:List A0S)(n:Nat):Prop:=∀j,(h:j<l.length)->j<=n->-1<=l[j].parent/\l[j].parent<j
def A3a(l:List A0S):Nat->Int->Nat
 |0,_=>0
 |f+1,n=>if n<0 then 0 else A3a l f (A3w l n)+1
abbrev B1w(l:List A0S)(a b c:Nat):AV:=.agg [.list 5 (A2C l) .no,.mapr a,.mapr b,.mapr c]
def C7G(o:Option A0a):∃a b c d e f g,A2j o=[I a,I b,I c,I (C0k o),d,e,f,g]:=by
 cases o with
 |none=>exact⟨_,_,_,_,_,_,_,rfl⟩
 |some u=>exact⟨_,_,_,_,_,_,_,u.row_eq⟩
def C3y:A7I prog 27=some (.agg zU):=by simp[A7I];rfl
section
variable (gl:Nat->AV)
def E3w(u:A0a)(l:List A0S)(n:Int)(M:Mem)(hg:u.good)(hn:n<l.length):A0d (WC gl) 107 [.agg u.row,.list 5 (A2C l) .no,I n] M (λv M'=>v=I (A4U (λx=>A1k x u) l n)/\M'=M):=by
 refine A4j (λ_=>trivial) ?_;have hf:=λx M=>C6d gl u x M hg;rw[u.row_eq]at hf|-;refine A0j hB func107 ?_;by_cases h0:n<0
 .simp -dsimp -implicitDefEqProofs[h0,A4U,A0c.refl]
 obtain⟨m,rfl⟩:∃m:Nat,n=m:=⟨n.toNat,by omega⟩;have hm:m<l.length:=by omega
 have h:¬(m:Int)<0:=by omega
 have hf:=λM=>hf l[m].id M;simp only[IdD.row]at hf;obtain⟨a,b,c,d,e,f,g,hr⟩:=C7G (A1k l[m].id u);have hX:(M++[A0l.cells 27 [I a,I b,I c,I (C0k (A1k l[m].id u)),d,e,f,g]])[M.length]?=some (A0l.cells 27 [I a,I b,I c,I (C0k (A1k l[m].id u)),d,e,f,g]):=by simp
 have i:A4U (λx=>A1k x u) l m=C0k (A1k l[m].id u):=by simp[A4U,hm,h]
 rw[i];simp -dsimp -implicitDefEqProofs[h];refine A1i hB (A0G gl) (λk=>if k=10\/k=11 then 2 else 0) (λ_=>0) (by rfl) (by kernel_rfl) ?_;simp -dsimp -implicitDefEqProofs[hm,A0S.row];refine A1M func104 hf ?_;simp -dsimp -implicitDefEqProofs[A0m,A0n,A0e,hr];rw[A0b hX];simp -dsimp -implicitDefEqProofs[A0c.app]
def B7I(l:List A0S)(L:List (IdD×A0a))(a b c:Nat)(n:Int)(M:Mem)(hM:A2a A2M B4D M a L)(hn:n<l.length):A0d (WC gl) 151 [B1w l a b c,I n] M (λv M'=>v=I (A4U (A1L L) l n)/\M'=M):=by
 refine A0j hB func151 ?_;by_cases h0:n<0
 .simp -dsimp -implicitDefEqProofs[h0,A4U]
 obtain⟨m,rfl⟩:∃m:Nat,n=m:=⟨n.toNat,by omega⟩;have hm:m<l.length:=by omega
 have d:¬(m:Int)<0:=by omega
 have e:A1J prog 92 M (.mapr a) (.agg [I l[m].id.act,I l[m].id.item,I l[m].id.n]) false=some (.agg (A2j (A1L L l[m].id))):=by rw[show AV.agg [I l[m].id.act,I l[m].id.item,I l[m].id.n]=A2M l[m].id from rfl,hM.get (A8Z 92 27 (by kernel_rfl)) l[m].id C3y false];cases A1L L l[m].id<;>rfl
 have f:A4U (A1L L) l m=C0k (A1L L l[m].id):=by simp[A4U,hm,d]
 rw[f];obtain⟨a2,b2,c2,d2,e2,f2,g2,hr⟩:=C7G (A1L L l[m].id);simp -dsimp -implicitDefEqProofs[d];refine A1i hB (A0G gl) (λk=>if k=8 then 1 else 0) (λ_=>a) (by rfl) (by kernel_rfl) ?_;simp -dsimp -implicitDefEqProofs[hm,A0S.row,A0M,e,hr]
def E3K(l:List A0S)(n:Int)(M:Mem)(hl:l.length<=1000)(hn:-1<=n/\n<l.length)(ho:B2A l n.toNat):A0d (WC gl) 108 [.list 5 (A2C l) .no,I n] M (λv M'=>v=I (A3a l (n+1).toNat n)/\M'=M):=by
 refine A0j hB func108 ?_;obtain⟨R,hR⟩:∃R,R=A3a l (n+1).toNat n:=⟨_,rfl⟩;rw[<-hR];simp -dsimp -implicitDefEqProofs;refine A3e hB (λT M1=>∃(m:Int) (f d:Nat),-1<=m/\m<=n/\(m+1).toNat<=f/\d+f<=1001/\T 0=.list 5 (A2C l) .no/\T 1=I m/\T 5=I d/\M1=M/\R=d+A3a l f m) (λT M1=>match T 1 with|.val (.int _ i)=>(i+1).toNat|_=>0) (by kernel_rfl) ?_ ?_
 .exact⟨n,(n+1).toNat,0,by omega,by omega,by omega,by omega,by simp,by simp,by simp,rfl,by simp[hR]⟩
 .rintro T M1 ⟨m,f,d,m1,m2,f1,d1,t0,t1,t5,rfl,hr⟩;by_cases h0:m<0
  ·(have a:¬m>=0:=by omega);have b:¬0<=m:=by omega
   (have hz:A3a l f m=0:=by cases f<;>simp[A3a,h0]);rw[hz,Z0T]at hr
   simp -dsimp -implicitDefEqProofs[t1,t5,a,hr]
  obtain⟨k,rfl⟩:∃k:Nat,m=k:=⟨m.toNat,by omega⟩;have a:(k:Int)>=0:=by omega
  have hk:k<l.length:=by omega
  obtain⟨f,rfl⟩:∃g,f=g+1:=⟨f-1,by omega⟩;obtain⟨q1,q2⟩:=ho k hk (by omega);have hp:A3w l k=l[k].parent:=by simp[A3w,hk]
  rw[A3a,Z0e h0,hp]at hr;have w1:=A1y (i:=d) (by omega);simp -dsimp -implicitDefEqProofs[t0,t1,t5,a,hk,w1,A0S.row];exact⟨⟨_,q1,by omega,f,by omega,d+1,by omega,rfl,rfl,by omega⟩,q2⟩
def D4Y(l:List A0S)(a b c:Nat)(n:Int)(M:Mem)(hl:l.length<=1000)(hn:-1<=n/\n<l.length)(ho:B2A l n.toNat):A0d (WC gl) 154 [B1w l a b c,I n] M (λv M'=>v=I (A3a l (n+1).toNat n)/\M'=M):=by
 refine A0j hB func154 ?_;obtain⟨R,hR⟩:∃R,R=A3a l (n+1).toNat n:=⟨_,rfl⟩;rw[<-hR];simp -dsimp -implicitDefEqProofs;refine A3e hB (λT M1=>∃(m:Int) (f d:Nat),-1<=m/\m<=n/\(m+1).toNat<=f/\d+f<=1001/\T 2=.cptr [.list 5 (A2C l) .no,.mapr a,.mapr b,.mapr c]/\T 1=I m/\T 5=I d/\M1=M/\R=d+A3a l f m) (λT M1=>match T 1 with|.val (.int _ i)=>(i+1).toNat|_=>0) (by kernel_rfl) ?_ ?_
 .exact⟨n,(n+1).toNat,0,by omega,by omega,by omega,by omega,by simp,by simp,by simp,rfl,by simp[hR]⟩
 .rintro T M1 ⟨m,f,d,m1,m2,f1,d1,t0,t1,t5,rfl,hr⟩;by_cases h0:m<0
  ·(have e:¬m>=0:=by omega);have h:¬0<=m:=by omega
   (have hz:A3a l f m=0:=by cases f<;>simp[A3a,h0]);rw[hz,Z0T]at hr
   simp -dsimp -implicitDefEqProofs[t1,t5,e,hr]
  obtain⟨k,rfl⟩:∃k:Nat,m=k:=⟨m.toNat,by omega⟩;have e:(k:Int)>=0:=by omega
  have hk:k<l.length:=by omega
  obtain⟨f,rfl⟩:∃g,f=g+1:=⟨f-1,by omega⟩;obtain⟨q1,q2⟩:=ho k hk (by omega);have hp:A3w l k=l[k].parent:=by simp[A3w,hk]
  rw[A3a,Z0e h0,hp]at hr;have w1:=A1y (i:=d) (by omega);simp -dsimp -implicitDefEqProofs[t0,t1,t5,e,hk,w1,A0S.row];exact⟨⟨_,q1,by omega,f,by omega,d+1,by omega,rfl,rfl,by omega⟩,q2⟩
end
open Go.Proofs TryTypes
def B1T(l:List A0S)(n:Nat):ByteArray:=match l[n]? with
 |some s=>s.label
 |none=>⟨#[]⟩
def A4m(l:List A0S)(p:Int)(i:Nat):List Nat:=(List.range i).filter λk=>decide (A3w l k=p)
def C3S(F:IdD->Option A0a)(l:List A0S)(n:Nat)(lab:ByteArray)(k:Nat):Bool:=decide (B1T l k=lab)&&decide (A4U F l k=A4U F l n)
def B5v(F:IdD->Option A0a)(uid:IdD)(l:List A0S)(n:Nat):Int:=match l[n]? with
 |none=>0
 |some x=>
  if !(F x.id).isSome||decide (x.id=uid)then 4
  else if(l.take n).any λs=>decide (s.id=x.id)then 5
  else if decide (x.parent< -1)||decide ((n:Int)<=x.parent)then 12
  else if !A0N x.label then 1
  else if !A1o (A4U F l x.parent) (A4U F l n)then 9
  else if(A4m l x.parent n).any (C3S F l n x.label)then 10
  else if decide (64<=(A4m l x.parent n).length)||decide (8<A3a l (n+1) n)then 6
  else 0
def D2P(l:List A0S)(p:Int)(i:Nat):A4m l p (i+1)=A4m l p i++if A3w l i=p then[i]else[]:=by simp only[A4m,Z2U,List.filter_append];by_cases h:A3w l i=p<;>simp[h]
def D4p{l:List A0S}{p:Int}{i k:Nat}(h:k<i)(hp:A3w l k=p):k∈A4m l p i:=by simp[A4m,h,hp]
def B1e(l:List A0S)(p:Int)(i:Nat):(A4m l p i).length<=i:=by have:=Z3A (λk:Nat=>decide (A3w l k=p)) (List.range i);simpa[A4m]using this
def A9c{l}{p}{i k}(h:k∈A4m l p i):k<i:=by simp[A4m]at h;exact h.1
section
variable (gl:Nat->AV)
end
def B0j(E:Nat->Int):Nat->Nat->Int
 |0,_=>0
 |r+1,i=>if E i=0 then B0j E r (i+1)else E i
def D5b{F:IdD->Option A0a}{uid}{l}{n}(hn:n<l.length)(h:B5v F uid l n=0):-1<=l[n].parent/\l[n].parent<n:=by
 simp only[B5v,Z0l hn]at h;split at h
 .simp at h
 split at h
 .simp at h
 split at h
 .simp at h
 rename_i h3;simp only[Z1H,Z0m,Z2N]at h3;omega
def C7H{F:IdD->Option A0a}{uid}{l}{n}(h:∀j,j<n->B5v F uid l j=0):∀j,j<n->B2A l j:=λj hj k hk hkj=>D5b hk (h k (by omega))
def A8c(F:IdD->Option A0a)(u:A0a)(l:List A0S):Int:=
 if !B2J u then 11 else
 if B0j (B5v F u.id l) l.length 0=0 then(if(l.length:Int)=A0o u-1 then 0 else 13)else B0j (B5v F u.id l) l.length 0
section
variable (gl:Nat->AV)
end
def C8s(k:Nat):List AV:=[I k]
section
variable (gl:Nat->AV)
def D8d(b:FuncId)(first cap:List AV)(p:Nat->Bool)(l:List Nat)(hl:l.length<=1000)(v:AV)(M:Mem)(hv:A1n 3 1 C8s M v l) (hf:∀k∈l,A4d (WC gl) b (first++I k::cap) M (λr M'=>r=B (p k)/\M'=M)):A0d (WC gl) 206 [v,.func (.func b) first cap] M (λr M'=>(∃z:Int,r=I z/\decide (0<=z)=l.any p)/\M'=M):=by
 refine A0j hB func206 ?_
 have c:A1Z prog 130 v=some l.length:=hv.len (e':=3) (by simp)
 simp -dsimp -implicitDefEqProofs[c]
 refine A0v hB l.length 8 (λT M1=>∃i:Nat,i<=l.length/\M1=M/\T 0=v/\T 1=.func (.func b) first cap/\T 7=I l.length/\T 8=I i/\l.any p=(l.drop i).any p) ?_ ?_
 .exact⟨0,by omega,rfl,by simp,by simp,by simp,by simp,by simp⟩
 .rintro T M1 ⟨i,i1,rfl,t0,t1,t7,t8,ho⟩;by_cases hi:i<l.length
  ·(have a:(i:Int)<l.length:=by omega);have w1:=A1y (i:=i) (by omega)
   obtain⟨q,p1,p2⟩:=hv.at1 (P:=prog) (t:=3) (f:=λk:Nat=>I k) (λ_=>rfl) (by simp) (by simp) hi;rw[Z0j hi,Z2s]at ho;simp -dsimp -implicitDefEqProofs[t0,t1,t7,t8,a,p1,p2];refine A4A (hf l[i] (Z0u hi)) ?_;rintro _ _ ⟨rfl,rfl⟩;cases hp:p l[i]
   .rw[hp,Z1h]at ho;simp -dsimp -implicitDefEqProofs[t0,t1,t7,t8,w1];exact⟨⟨i+1,by clear w1;omega,rfl,ho⟩,by clear w1;omega⟩
   .rw[hp,Z1X]at ho;simp -dsimp -implicitDefEqProofs[ho]
  ·(have a:¬(i:Int)<l.length:=by omega);rw[show l.drop i=[]from Z0n (by omega),Z3H]at ho
   simp -dsimp -implicitDefEqProofs[t7,t8,a,ho]
def D5h(a:FuncId)(first cap:List AV)(p:Nat->Bool)(l:List Nat)(hl:l.length<=1000)(v:AV)(M:Mem)(hv:A1n 3 1 C8s M v l) (hf:∀k∈l,A4d (WC gl) a (first++I k::cap) M (λr M'=>r=B (p k)/\M'=M)):A0d (WC gl) 153 [v,.func (.func a) first cap] M (λr M'=>r=B (l.any p)/\M'=M):=by
 refine A0j hB func153 ?_
 simp -dsimp -implicitDefEqProofs
 refine A0s func206 (D8d gl a first cap p l hl v M hv hf) ?_
 rintro _ _ ⟨⟨z,rfl,hz⟩,rfl⟩
 by_cases h:0<=z
 .have hg:z>=0:=h;rw[Z0s h]at hz;simp -dsimp -implicitDefEqProofs[h,hz]
 .have hg:¬z>=0:=h;rw[Z0w h]at hz;simp -dsimp -implicitDefEqProofs[h,hz]
def D6d(l:List A0S)(L:List (IdD×A0a))(a b c bx n k:Nat)(x:A0S)(M:Mem)(hM:A2a A2M B4D M a L)(hX:M[bx]?=some (.cells 69 [I x.id.act,I x.id.item,I x.id.n,I x.parent,S x.label]))(hk:k<l.length)(hn:n<l.length):A0d (WC gl) 150 [I k,.cptr [.list 5 (A2C l) .no,.mapr a,.mapr b,.mapr c],.ptr bx 0,.cptr [I n]] M (λr M'=>r=B (C3S (A1L L) l n x.label k)/\M'=M):=by
 refine A0j hB func150 ?_
 have e:B1T l k=l[k].label:=by simp[B1T,hk]
 have d:=λ(m:Nat) (h:m<l.length)=>B7I gl l L a b c m M hM (by omega)
 simp -dsimp -implicitDefEqProofs
 refine A1i hB (A0G gl) (λk=>if k=7 then 1 else if k=12\/k=15 then 2 else 0) (λ_=>bx) (by rfl) (by kernel_rfl) ?_
 by_cases c1:l[k].label=x.label
 case neg=>
  have hd:C3S (A1L L) l n x.label k=false:=by simp[C3S,e,c1]
  simp -dsimp -implicitDefEqProofs[hk,A0S.row,A0b hX,c1,hd]
 simp -dsimp -implicitDefEqProofs[hk,A0S.row,A0b hX,Z0P c1]
 refine A5f (A1Y func151 rfl rfl (d k hk)) ?_
 simp -dsimp -implicitDefEqProofs
 refine A5f (A1Y func151 rfl rfl (d n hn)) ?_
 simp -dsimp -implicitDefEqProofs[C3S,e,c1]
 rfl
def C9N:AV:=.val (.slice none 0 0)
def B4V:A7I prog 130=some C9N:=by simp[A7I];rfl
def D6m:A7I prog 3=some (I 0):=by kernel_rfl
def D3G(ap:gl 0=A2z)(u:A0a)(l:List A0S)(L:List (IdD×A0a))(IL:List (IdD×Nat))(KL:List (Int×AV))(a b c n:Nat)(M:Mem)(hM:A2a A2M B4D M a L)(hI:A2a A2M (λn:Nat=>I n) M b IL)(hK:A2a I (λv=>v) M c KL)
 (aq:∀y,(A1L IL y).isSome=(l.take n).any (λs=>decide (s.id=y)))(ar:∀p,A1n 3 1 C8s M ((A1L KL p).getD C9N) (A4m l p n))(hl:l.length<=1000)(hs:∀s∈l,s.good)(hn:n<l.length)(ag:∀j,j<n->B2A l j):
 A0d (WC gl) 103 [B1w l a b c,.agg u.row,I n] M (λr M'=>r=I (B5v (A1L L) u.id l n)/\M'=M):=by
 refine A4j (λ_=>trivial) ?_
 obtain⟨x,hx⟩:∃x,x=l[n]:=⟨_,rfl⟩
 obtain⟨R,hR⟩:∃R,R=B5v (A1L L) u.id l n:=⟨_,rfl⟩
 rw[<-hR]
 have au:l[n]?=some x:=by rw[hx];simp[hn]
 have ai:=hx.symm
 simp only[B5v,au]at hR
 have ax:x.good:=hs x (by rw[hx];exact Z0u hn)
 have a1:∀y:IdD,A1s prog .eql 23 (.agg [I x.id.act,I x.id.item,I x.id.n]) (.agg [I y.act,I y.item,I y.n])=some (B (decide (x.id=y))):=λy=>B5z x.id y
 obtain⟨M1,a9⟩:∃M1,M1=M++[A0l.cells 69 [I x.id.act,I x.id.item,I x.id.n,I x.parent,S x.label]]:=⟨_,rfl⟩
 have ad:M1[M.length]?=some (A0l.cells 69 [I x.id.act,I x.id.item,I x.id.n,I x.parent,S x.label]):=by rw[a9];simp
 have a3:Grow M M1:=by rw[a9];exact A0c.app none _ _
 obtain⟨M2,ac⟩:∃M2,M2=M1++[A0l.cells 27 (A2j (A1L L x.id))]:=⟨_,rfl⟩
 have a5:Grow M1 M2:=by rw[ac];exact A0c.app none _ _
 have g:=a3.trans a5
 have q:=a5.get ad (by simp)
 have ae:A1J prog 92 M1 (.mapr a) (.agg [I x.id.act,I x.id.item,I x.id.n]) true=some (.tuple [.agg (A2j (A1L L x.id)),B (A1L L x.id).isSome]):=by rw[show AV.agg [I x.id.act,I x.id.item,I x.id.n]=A2M x.id from rfl,(hM.keep a3 (by simp)).get (A8Z 92 27 (by kernel_rfl)) x.id C3y true];cases A1L L x.id<;>rfl
 have f:∃z,A1J prog 93 M2 (.mapr b) (.agg [I x.id.act,I x.id.item,I x.id.n]) true=some (.tuple [I z,B ((l.take n).any (λs=>decide (s.id=x.id)))]):=by rw[show AV.agg [I x.id.act,I x.id.item,I x.id.n]=A2M x.id from rfl,(hI.keep g (by simp)).get (A8Z 93 3 (by kernel_rfl)) x.id D6m true,<-aq];cases A1L IL x.id<;>exact⟨_,rfl⟩
 obtain⟨z,f⟩:=f
 have aj:A1J prog 94 M1 (.mapr c) (I x.parent) false=some ((A1L KL x.parent).getD C9N):=by rw[(hK.keep a3 (by simp)).get (C0c 94 130 (by kernel_rfl)) x.parent B4V false];cases A1L KL x.parent<;>rfl
 have ab:=(ar x.parent).keep g (by simp)
 obtain⟨sv,ao⟩:∃sv,sv=(A1L KL x.parent).getD C9N:=⟨_,rfl⟩
 rw[<-ao]at aj ab
 have al:=hM.keep g (by simp)
 have af:=λ(m:Int) (h:m<l.length) (M:Mem) (hM:A2a A2M B4D M a L)=>B7I gl l L a b c m M hM h
 have a7:=ab.len (P:=prog) (t:=130) (e':=3) (by simp)
 obtain⟨o,ho⟩:∃o,o=A1L L x.id:=⟨_,rfl⟩
 rw[<-ho]at hR ae ac
 obtain⟨b1,aw⟩:∃b1,b1=((l.take n).any (λs=>decide (s.id=x.id))):=⟨_,rfl⟩
 rw[<-aw]at f hR
 rw[u.row_eq]
 refine A0j hB func103 ?_
 simp -dsimp -implicitDefEqProofs[hn,ai,A0S.row,A0m,A0n,A0e]
 rw[<-a9]
 simp -dsimp -implicitDefEqProofs[A0b ad,aj,ae,A0m,A0n,A0e]
 rw[<-ac]
 cases o with
 |none=>
  simp only[Option.isSome_none,Z1C,Z1X,Z0H]at hR
  simp -dsimp -implicitDefEqProofs[A0b q,f,hR,g]
 |some v=>
 simp only[Z3m,Z1M,Z1h,Z0m]at hR
 by_cases c2:x.id=u.id
 case pos=>rw[Z0d c2]at hR;simp -dsimp -implicitDefEqProofs[A0b q,f,a1,Z0P c2,hR,g]
 rw[Z0e c2]at hR
 cases b1 with
 |true=>
  rw[Z0d rfl]at hR
  simp -dsimp -implicitDefEqProofs[A0b q,f,a1,c2,hR,g]
 |false=>
 simp only[Z0K,Z1l]at hR
 by_cases c3:x.parent< -1
 case pos=>
  rw[Z0s c3,Z1X,Z0d rfl]at hR;have a6:¬-1<=x.parent:=by omega
  simp -dsimp -implicitDefEqProofs[A0b q,f,a1,c2,c3,hR,g]
 have a6:-1<=x.parent:=by omega
 rw[Z0w c3,Z1h]at hR
 by_cases c4:(n:Int)<=x.parent
 case pos=>rw[Z0s c4,Z0d rfl]at hR;have a8:x.parent>=n:=c4;simp -dsimp -implicitDefEqProofs[A0b q,f,a1,c2,c3,c4,hR,g]
 rw[Z0w c4]at hR
 simp only[Z0K,Z1l]at hR
 have a8:¬x.parent>=n:=c4
 simp -dsimp -implicitDefEqProofs[A0b q,f,a1,c2,c3,c4]
 refine A0s func112 (A9J gl _ x.label) ?_
 rintro _ M3 ⟨rfl,w⟩
 have ak:=w.get q (by simp)
 have a4:=al.keep w (by simp)
 have am:=ab.keep w (by simp)
 have d:=g.trans w
 cases c5:A0N x.label
 case false=>simp only[c5,Z1C,Z0H]at hR;simp -dsimp -implicitDefEqProofs[hR,d]
 simp only[c5,Z1M,Z0K,Z1l]at hR
 have an:x.parent<l.length:=by omega
 simp -dsimp -implicitDefEqProofs
 refine A1i hB (A0G gl) (λk=>if k=2 then 1 else if k=3\/k=6\/k=7 then 2 else 0) (λ_=>M.length) (by rfl) (by kernel_rfl) ?_
 simp -dsimp -implicitDefEqProofs[A0b ak]
 refine A5f (A1Y func151 rfl rfl (af x.parent an _ a4)) ?_
 simp -dsimp -implicitDefEqProofs
 refine A5f (A1Y func151 rfl rfl (af n (by omega) _ a4)) ?_
 simp -dsimp -implicitDefEqProofs
 refine A5f (A1Y func152 rfl rfl (A9s gl M3 ap (A4U (A1L L) l x.parent) (A4U (A1L L) l n))) ?_
 cases c6:A1o (A4U (A1L L) l x.parent) (A4U (A1L L) l n)
 case false=>simp only[c6,Z1C,Z0H]at hR;simp -dsimp -implicitDefEqProofs[hR,d]
 simp only[c6,Z1M,Z0K,Z1l]at hR
 simp -dsimp -implicitDefEqProofs
 refine A0s func153 (D5h gl 150 [] [.cptr [.list 5 (A2C l) .no,.mapr a,.mapr b,.mapr c],.ptr M.length 0,.cptr [I n]] (C3S (A1L L) l n x.label) (A4m l x.parent n) (by have:=B1e l x.parent n;omega) sv M3 am ?_) ?_
 .intro k hk;exact A1Y func150 rfl rfl (D6d gl l L a b c M.length n k x M3 a4 ak (by have:=A9c hk;omega) hn)
 rintro _ _ ⟨rfl,rfl⟩
 cases c7:(A4m l x.parent n).any (C3S (A1L L) l n x.label)
 case true=>rw[c7,Z0d rfl]at hR;simp -dsimp -implicitDefEqProofs[hR,d]
 rw[c7]at hR
 simp only[Z0K,Z1l]at hR
 have av:B2A l ((n:Int)).toNat:=by
  intro j hj h;have h:j<=n:=by simpa using h
  by_cases e:j=n
  .subst e;rw[ai];exact⟨a6,by omega⟩
  .exact ag j (by omega) j hj (Z0o _)
 by_cases c9:64<=(A4m l x.parent n).length
 case pos=>
  have a0:(64:Int)<=(A4m l x.parent n).length:=by omega
  have aa:((A4m l x.parent n).length:Int)>=64:=a0;rw[Z0s c9,Z1X,Z0d rfl]at hR;simp -dsimp -implicitDefEqProofs[a7,a0,hR,d]
 have a0:¬(64:Int)<=(A4m l x.parent n).length:=by omega
 have aa:¬((A4m l x.parent n).length:Int)>=64:=a0
 rw[Z0w c9,Z1h]at hR
 have ah:=λM=>D4Y gl l a b c n M hl ⟨by omega,by omega⟩ av
 rw[show((n:Int)+1).toNat=n+1 by omega]at ah
 simp -dsimp -implicitDefEqProofs[a7,a0]
 refine A0f func154 (ah _) ?_
 by_cases c10:8<A3a l (n+1) n
 .have i:(8:Int)<A3a l (n+1) n:=by omega
  have a2:(A3a l (n+1) n:Int)>8:=i;rw[Z0s c10,Z0d rfl]at hR;simp -dsimp -implicitDefEqProofs[i,hR,d]
 .have i:¬(8:Int)<A3a l (n+1) n:=by omega
  have a2:¬(A3a l (n+1) n:Int)>8:=i;rw[Z0w c10]at hR;simp only[Z0K,Z1l]at hR;simp -dsimp -implicitDefEqProofs[i,hR,d]
end
section
mutual
def A9O(x:IdD):∀u:A0a,A1k x u=(A5G u).find? λv=>decide (v.id=x)
 |.mk id k l h w ks=>by
  rw[A1k,A5G,Z3G];have a:(A0a.mk id k l h w ks).id=id:=rfl;rw[a];by_cases c:id=x
  .rw[Z0d c,Z0s c]
  .rw[Z0e c,Z0w c];exact C2I x ks
def C2I(x:IdD):∀ks:List A0a,A9N x ks=(A6B ks).find? λv=>decide (v.id=x)
 |[]=>by rw[A9N,A6B];rfl
 |k::ks=>by rw[A9N,A6B,List.find?_append,A9O x k,C2I x ks];cases(A5G k).find? (λv=>decide (v.id=x))<;>rfl
end
def B8W:∀(us:List A0a) (L:List (IdD×A0a)),(L.map (·.1)++us.map A0a.id).Nodup->A6C L us=L++us.map λu=>(u.id,u)
 |[],L,_=>by simp[A6C]
 |u::us,L,h=>by
  have hn:u.id∉L.map (·.1):=by intro hm;rw[Z2a]at h;exact h.2.2 _ hm u.id (by simp) rfl
  rw[A6C,B8w hn,B8W us]
  .simp
  .simpa using h
def C1p(x:IdD):∀us:List A0a,A1L (us.map λu=>(u.id,u)) x=us.find? λv=>decide (v.id=x)
 |[]=>rfl
 |u::us=>by
  rw[Z0B,A1L,Z3G];by_cases c:x=u.id
  .rw[Z0d c,Z0s c.symm]
  .rw[Z0e c,Z0w (λe=>c e.symm)];exact C1p x us
def A9f{K:Type}[DecidableEq K]:∀(r S:List K),S.Nodup->A9a r S=true->(S++r).Nodup
 |[],S,h,_=>by simpa using h
 |x::r,S,h,hd=>by
  rw[A9a,Z0g,B4v]at hd;have hx:x∉S:=by simpa using hd.1
  have:=A9f r (S++[x]) (by rw[Z2a];exact⟨h,by simp,λa ha b hb=>by simp only[Z0A,Z2j,Z3y]at hb;subst hb;rintro rfl;exact hx ha⟩) hd.2;simpa using this
def C8o(u:A0a)(h:A9a (A0V u) []=true):A1L (A6C [] (A5G u))=λx=>A1k x u:=by have hn:=A9f (A0V u) [] (by simp) h;rw[<-A7u,Z2d]at hn;funext x;rw[B8W _ _ (by simpa using hn),Z2d,C1p,A9O]
abbrev z96:List AV:=[.val (.slice none 0 0),.val (.map none),.val (.map none),.val (.map none)]
@[simp] def E5k:A0D prog 96 []=some (.agg z96):=by simp[A0D,A1l]
@[simp] def E3L{l}{a b c}:A0D prog 96 [(0,.list 5 l .no),(1,.mapr a),(2,.mapr b),(3,.mapr c)]=some (.agg [.list 5 l .no,.mapr a,.mapr b,.mapr c]):=by
 simp[A0D,A1l,A1H]
def E0l{n}:(I n).storable=true:=rfl
def E0C{n}:(I n).cells=[I n]:=rfl
def D0J:A0R prog 130=some 3:=by kernel_rfl
def D4D:A4f prog 130:=.inl ⟨3,by kernel_rfl⟩
def E3g:A3x prog 3 1 8:=⟨_,_,type3,rfl,rfl,rfl,rfl,by decide⟩
def A8J(KL:List (Int×AV))(p:Int):AV:=(A1L KL p).getD C9N
def A3h(l:List A0S)(id:IdD):Option Nat:=l.findIdx? λs=>decide (s.id=id)
def C0d(l:List A0S)(y:IdD):(A3h l y).isSome=l.any (λs=>decide (s.id=y)):=by simp[A3h]
def C5s(l:List A0S)(x:A0S)(y:IdD):A3h (l++[x]) y=match A3h l y with
 |some k=>some k
 |none=>if x.id=y then some l.length else none:=by
 unfold A3h
 rw[List.findIdx?_append]
 cases List.findIdx? (λs=>decide (s.id=y)) l with
 |some k=>rfl
 |none=>by_cases e:x.id=y<;>simp[e]
def D6k{F:IdD->Option A0a}{uid}{l}{n}(hn:n<l.length)(h:B5v F uid l n=0):A3h (l.take n) l[n].id=none:=by
 have h2:(l.take n).any (λs=>decide (s.id=l[n].id))=false:=by
  cases c:(l.take n).any (λs=>decide (s.id=l[n].id))with
  |false=>rfl
  |true=>
   simp only[B5v,Z0l hn,c,Z0H]at h;split at h
   .simp at h
   .simp at h
 have:=C0d (l.take n) l[n].id;rw[h2]at this;cases e:A3h (l.take n) l[n].id with
 |none=>rfl
 |some k=>rw[e]at this;simp at this
structure C9C (M0:Mem) (l:List A0S) (L:List (IdD×A0a)) (r a b c p i:Nat) (M:Mem):Prop where
 grow:Grow M0 M
 res:M[r]?=some (.cells 96 z96)
 pl:M[p]?=some (.cells 96 [.list 5 (A2C l) .no,.mapr a,.mapr b,.mapr c])
 units:A2a A2M B4D M a L
 ix:∃IL,A2a A2M (λn:Nat=>I n) M b IL/\∀y,A1L IL y=A3h (l.take i) y
 kd:∃KL,A2a I (λv=>v) M c KL/\(∀q,A1n 3 1 C8s M (A8J KL q) (A4m l q i))/\(∀q f,obj (A8J KL q)=some f->p<f)/\∀q q' f,obj (A8J KL q)=some f->obj (A8J KL q')=some f->q=q'
structure B2Z (l:List A0S) (L:List (IdD×A0a)) (a b c:Nat) (M:Mem):Prop where
 units:A2a A2M B4D M a L
 ix:∃IL,A2a A2M (λn:Nat=>I n) M b IL/\∀y,A1L IL y=A3h l y
 kd:∃KL,A2a I (λv=>v) M c KL/\∀q,A1n 3 1 C8s M (A8J KL q) (A4m l q l.length)
def B7v(R:Int)(F:IdD->Option A0a)(l:List A0S)(r:List AV)(M:Mem):Prop:=r.length=4/\(R=0->∃L a b c,r=[.list 5 (A2C l) .no,.mapr a,.mapr b,.mapr c]/\A1L L=F/\B2Z l L a b c M)
def B7v.bad{R}{F:IdD->Option A0a}{l}{r}{M}(h:r.length=4)(hR:R≠0):B7v R F l r M:=⟨h,λe=>absurd e hR⟩
section
variable (gl:Nat->AV)
set_option maxHeartbeats 1000000 in
def D3E(ap:gl 0=A2z)(b6:gl 1=A2S)(F:IdD->Option A0a)(u:A0a)(hF:F=λx=>A1k x u)(l:List A0S)(M:Mem)(a2:Fit u)(hl:l.length<=1000)(hs:∀s∈l,s.good):A0d (WC gl) 47 [.agg u.row,.list 5 (A2C l) .no] M (λv M'=>(∃r,v=.tuple [.agg r,I (A8c F u l)]/\B7v (A8c F u l) F l r M')/\Grow M M'):=by
 have a6:=λM=>D2Z gl ap b6 u M a2;rw[D1U]at a6;obtain⟨R,hR⟩:∃R,R=A8c F u l:=⟨_,rfl⟩;rw[<-hR];simp only[A8c]at hR;have z:=λM=>B3h gl u [] M.length (M++[.map [] 0]) a2.1 (A2a.new M);rw[u.row_eq]at a6 z|-;refine A0j (hQ [52]) func47 ?_;simp -dsimp -implicitDefEqProofs[A0m];refine A0s func50 (a6 _) ?_;rintro _ M1 ⟨rfl,af⟩;have a0:Grow M M1:=by rw[af];exact A0c.app none _ _
 have a3:M1[M.length]?=some (.cells 96 z96):=by rw[af];simp
 cases c1:B2J u;case false=>simp only[c1,Z1C,Z0H]at hR;have o:M.length<M1.length:=(Z0b.1 a3).1;simp -dsimp -implicitDefEqProofs[A0h a3,hR,A0y o,A0k,A1e a0];exact .bad rfl (by decide)
 simp only[c1,Z1M,Z0K,Z1l]at hR;obtain⟨q1,q2⟩:=A7R u [] M1.length (M1++[.map [] 0]) (A2a.new M1);simp -dsimp -implicitDefEqProofs;refine A0s func102 (z M1) ?_;rintro _ M2 ⟨rfl,ay⟩;rw[<-ay]at q1 q2;have az:M1.length<M2.length:=q1.lt;have o:M.length<M1.length:=(Z0b.1 a3).1;have ak:M2[M.length]?=some (.cells 96 z96):=by rw[q2.2 _ (by simp;omega) (by simp;omega),Z0h o];exact a3
 have a8:Grow M M2:=by refine⟨by omega,λj hj _=>?_⟩;rw[q2.2 j (by simp;omega) (by simp;omega),Z0h (by omega)];exact a0.2 j hj (by simp)
 obtain⟨L,hL⟩:∃L,L=A6C [] (A5G u):=⟨_,rfl⟩;rw[<-hL]at q1;have al:A1L L=F:=by rw[hL,hF];refine C8o u ?_;simp only[B2J,Z0g]at c1;exact c1.2
 have hLn:(L.length:Int)=A0o u:=by
  have h1:=B1p (A5G u) [];rw[A7u,<-hL]at h1;have h2:(A6h [] (A0V u)).length=A0o u:=by have:=(B2u (A0V u) ([]:List IdD)).2 (by simp only[B2J,Z0g]at c1;exact c1.2);rw[A5o]at this;simpa using this
  have h3:=congrArg List.length h1;simp only[Z0V,Z2g]at h3;omega
 have bd:=A4P u;have bg:=a2.2.2;obtain⟨E,hE⟩:∃E,E=B5v F u.id l:=⟨_,rfl⟩;rw[<-hE]at hR;have b0:∀n,(∀j,j<n->E j=0)->∀j,j<n->B2A l j:=by rw[hE];exactλn=>C7H
 obtain⟨a,ha⟩:∃a,a=M1.length:=⟨_,rfl⟩;obtain⟨b,hb⟩:∃b,b=M2.length:=⟨_,rfl⟩;have ao:A2a A2M (λn:Nat=>I n) (M2++[A0l.map [] 0]) b []:=by rw[hb];exact A2a.new M2
 obtain⟨M3,w⟩:∃M3,M3=M2++[A0l.map [] 0,A0l.map [] 0,A0l.cells 96 [.list 5 (A2C l) .no,.mapr a,.mapr b,.mapr (b+1)]]:=⟨_,rfl⟩;have t:C9C M l L M.length a b (b+1) (b+2) 0 M3:=by
  have a1:Grow M2 M3:=by rw[w];exact A0c.app none _ _
  refine⟨a8.trans a1,a1.get ak (by simp),?_,?_,⟨[],⟨[],0,?_,rfl⟩,λy=>by simp[A1L,A3h]⟩,⟨[],⟨[],0,?_,rfl⟩,λq=>?_,λq f hf=>by simp[A8J,A1L,C9N]at hf,λq q' f hf=>by simp[A8J,A1L,C9N]at hf⟩⟩
  .rw[w,hb];simp
  .rw[ha];exact q1.keep a1 (by simp)
  .rw[w,hb];simp
  .rw[w,hb];simp
  .simp only[A8J,A1L,Z3t,A4m,List.range_zero,List.filter_nil];exact .nil
 simp -dsimp -implicitDefEqProofs[A0m,A0n,A0e];rw[<-ha,<-hb,<-w];have bf:M.length<a/\a<b:=by omega
 clear a6 z af a0 a3 ay q1 q2 az o ak a8 ao w ha hb;have ab:=λIL KL n M hM hI hK hIx hKx hn hord=>D3G gl ap u l L IL KL a b (b+1) n M hM hI hK hIx hKx hl hs hn hord;rw[al,<-hE,u.row_eq]at ab;refine A0v (hQ [52]) l.length 23 (λT M3=>∃i:Nat,i<=l.length/\T 1=.list 5 (A2C l) .no/\T 2=.cptr [I u.id.act,I u.id.item,I u.id.n,I u.kind,S u.label,.list 4 (A0g u.head) .no,.list 4 (A0g u.words) .no,.list 8 (A0r u.kids) .no]/\T 4=.ptr M.length 0/\T 6=.ptr (b+2) 0/\T 21=.list 5 (A2C l) .no/\T 22=I l.length/\T 23=I i/\C9C M l L M.length a b (b+1) (b+2) i M3/\B0j E l.length 0=B0j E (l.length-i) i/\∀j,j<i->E j=0) ?_ ?_
 .exact⟨0,by omega,by simp,by simp,by simp,by simp,by simp,by simp,by simp,t,by simp,by simp⟩
 clear t;rintro T M3 ⟨i,i1,t1,t2,t4,t6,g,d,m,t,ho,hz⟩;by_cases hi:i<l.length;case neg=>
  have a5:¬(i:Int)<l.length:=by omega
  rw[show l.length-i=0 by omega,B0j]at ho;rw[ho,Z0d rfl]at hR;have bb:B7v 0 F l [.list 5 (A2C l) .no,.mapr a,.mapr b,.mapr (b+1)] (M3.set M.length (.cells 96 [.list 5 (A2C l) .no,.mapr a,.mapr b,.mapr (b+1)])):=by
   (have b7:i=l.length:=by omega);subst b7
   obtain⟨-,-,-,g4,⟨IL,g5,g6⟩,KL,g7,g8,g9,-⟩:=t;have p:A0c (some M.length) M3 (M3.set M.length (.cells 96 [.list 5 (A2C l) .no,.mapr a,.mapr b,.mapr (b+1)])):=.set _ _ _;refine⟨rfl,λ_=>⟨L,a,b,b+1,rfl,al,g4.keep p (by simp;omega),⟨IL,g5.keep p (by simp;omega),λy=>by rw[g6,List.take_length]⟩,KL,g7.keep p (by simp;omega),λq=>(g8 q).keep p λf hf e=>?_⟩⟩;have:=g9 q f hf;simp at e;omega
  obtain⟨h1,h2,h3,h4,-,-⟩:=t;have ax:A3d prog 92 M3 (.mapr a)=some L.length:=h4.len (kt:=23) (et:=27) (by simp);have w2:IntKind.i64.wrap ((A0o u:Int)-1)=A0o u-1:=A0T (by omega) (by omega);have a9:M.length<M3.length:=(Z0b.1 h2).1;by_cases c3:(l.length:Int)=A0o u-1
  .rw[Z0d c3]at hR;simp -dsimp -implicitDefEqProofs[t1,t4,t6,d,m,a5,A0b h3,A6o,ax,hLn,w2,Z0P c3,A0h h2,A0y a9,A0k,hR,A1e h1];exact bb
  .rw[Z0e c3]at hR;simp -dsimp -implicitDefEqProofs[t1,t4,t6,d,m,a5,A0b h3,A6o,ax,hLn,w2,c3,A0h h2,A0y a9,A0k,hR,A1e h1];exact .bad rfl (by decide)
 have a5:(i:Int)<l.length:=by omega
 have w1:=A1y (i:=i) (by omega);obtain⟨x,hx⟩:∃x,x=l[i]:=⟨_,rfl⟩;have au:=hx.symm;rw[show l.length-i=(l.length-(i+1))+1 by omega,B0j]at ho;obtain⟨M4,ae⟩:∃M4,M4=M3++[A0l.cells 69 [I x.id.act,I x.id.item,I x.id.n,I x.parent,S x.label]]:=⟨_,rfl⟩;have ai:M4[M3.length]?=some (A0l.cells 69 [I x.id.act,I x.id.item,I x.id.n,I x.parent,S x.label]):=by rw[ae];simp
 have c:Grow M3 M4:=by rw[ae];exact A0c.app none _ _
 obtain⟨h1,h2,h3,h4,⟨IL,h5,h6⟩,KL,h7,h8,h9,ah⟩:=t;have ar:b+2<M3.length:=(Z0b.1 h3).1;have ac:∀q f,obj (A8J KL q)=some f->f<M3.length:=λq f hf=>(h8 q).lt hf;replace h1:=h1.trans c;replace h2:=c.get h2 (by simp);replace h3:=c.get h3 (by simp);replace h4:=h4.keep c (by simp);replace h5:=h5.keep c (by simp);replace h7:=h7.keep c (by simp);replace h8:=λq=>(h8 q).keep c (by simp);simp -dsimp -implicitDefEqProofs[t6,g,d,m,hi,a5,au,A0S.row,A0m,A0n,A0e];rw[<-ae];simp -dsimp -implicitDefEqProofs[t2,A0b h3];refine A0s func103 (ab IL KL i M4 h4 h5 h7 (λy=>by rw[h6 y];exact C0d _ _) h8 hi (b0 i hz)) ?_;rintro _ M4 ⟨rfl,rfl⟩;by_cases c2:E i=0;case neg=>rw[Z0e c2]at ho;rw[ho,Z0e c2]at hR;have aq:=(Z0b.1 h2).1;simp -dsimp -implicitDefEqProofs[t4,c2,A0h h2,A0y aq,A0k,hR,A1e h1];exact .bad rfl c2
 rw[Z0d c2]at ho;obtain⟨M5,p1,p2,p3⟩:=h5.put (A8Z 93 3 (by kernel_rfl)) x.id i;have b1:A1u prog 93 M4 (.mapr b) (.agg [I x.id.act,I x.id.item,I x.id.n]) (I i)=some M5:=p1;obtain⟨xo,aj⟩:∃xo,xo=M3.length:=⟨_,rfl⟩;rw[<-aj]at ai ar ac;simp -dsimp -implicitDefEqProofs[t6,Z0P c2,A0b h3,<-aj];rw[A0b ai];simp -dsimp -implicitDefEqProofs[b1];replace h1:Grow M M5:=⟨Z0S h1.1 p3.1,λj hj _=>(p3.2 j (by have:=h1.1;omega) (by simp;omega)).trans (h1.2 j hj (by simp))⟩;replace h2:=p3.get h2 (by simp;omega);replace h3:=p3.get h3 (by simp);replace h4:=h4.keep p3 (by simp;omega);replace h7:=h7.keep p3 (by simp);replace h8:=λq=>(h8 q).keep p3 (by intro f hf;have:=h9 q f hf;simp;omega);have ad:=p3.get ai (by simp;omega);have b5:A1J prog 94 M5 (.mapr (b+1)) (I x.parent) false=some (A8J KL x.parent):=by rw[h7.get (C0c 94 130 (by kernel_rfl)) x.parent B4V false,A8J];cases A1L KL x.parent<;>rfl
 refine A5r (hQ [52]) (A0G gl) (λk=>if k=1\/k=3\/k=5\/k=7\/k=8 then 1 else if k=11\/k=12 then 2 else 0) (λk=>if k=1\/k=5 then b+2 else if k=8 then b+1 else xo) (λk=>k==8) [b+2,xo] ?_ (by rfl) (by kernel_rfl) ?_
 .intro k _ h;have h:¬k=8:=by simpa using h
  by_cases e:k=1\/k=5<;>simp[e,h]
 simp -dsimp -implicitDefEqProofs[t6,A0M,A0b h3,A0b ad,b5,A0p,A0Z];have be:=B1e l x.parent i;have b8:A3w l i=x.parent:=by simp[A3w,hi,hx]
 refine A3V (C:=WC gl) (enc:=C8s) (e:=3) (sz:=1) (news:=[i]) D0J D4D E3g (λ_=>rfl) (h8 x.parent) (by simp[A0z,C8s]) (by simp;omega) rfl ?_;intro v' M6 k1 k2 k3 _;have ag:M6[b+2]?=M5[b+2]?:=k2.2 _ (by have:=(Z0b.1 h3).1;exact this) (λe=>by have:=h9 _ _ e;omega);have am:M6[xo]?=M5[xo]?:=k2.2 _ (by have:=(Z0b.1 ad).1;exact this) (λe=>by have:=ac _ _ e;omega);have b3:obj (A8J KL x.parent)≠some (b+1):=λe=>by have:=h9 _ _ e;omega
 obtain⟨M7,m1,m2,m3⟩:=(h7.keep k2 b3).put (C0c 94 130 (by kernel_rfl)) x.parent v';have b2:A1u prog 94 M6 (.mapr (b+1)) (I x.parent) v'=some M7:=m1;have an:M7[b+2]?=M6[b+2]?:=m3.2 _ (by have:=(Z0b.1 (ag.trans h3)).1;exact this) (by simp);have b4:M7[xo]?=M6[xo]?:=m3.2 _ (by have:=(Z0b.1 (am.trans ad)).1;exact this) (by simp;omega);simp -dsimp -implicitDefEqProofs[t1,t2,t4,t6,g,d,m,ag,am,b2,an,b4,w1];have ba:C9C M l L M.length a b (b+1) (b+2) (i+1) M7:=by
  have a4:∀q,A8J (A8j KL x.parent v') q=if q=x.parent then v' else A8J KL q:=λq=>by simp only[A8J,C2c];by_cases e:q=x.parent<;>simp[e]
  have bc:b+2<M5.length:=(Z0b.1 h3).1;have av:∀f,obj v'=some f->b+2<f:=λf hf=>by
   rcases k3 with e|e
   .exact h9 _ f (by rw[<-e];exact hf)
   .have:=e f hf;omega
  have a7:∀j,j<b+1->M7[j]?=M5[j]?:=λj hj=>by have e6:M6[j]?=M5[j]?:=k2.2 j (by omega) (λe=>by have:=h9 _ _ e;omega);rw[m3.2 j (by have:=k2.1;omega) (by simp;omega),e6]
  have b9:∀q,A4m l q (i+1)=A4m l q i++if q=x.parent then[i]else[]:=λq=>by
   rw[D2P,b8];by_cases e:q=x.parent
   .rw[Z0d e.symm,Z0d e]
   .rw[Z0e (λh=>e h.symm),Z0e e]
  refine⟨⟨by have:=h1.1;have:=k2.1;have:=m3.1;omega,λj hj _=>(a7 j (by omega)).trans (h1.2 j hj (by simp))⟩,by rw[a7 _ (by omega)];exact h2,by rw[an,ag];exact h3,(h4.keep k2 (λe=>by have:=h9 _ _ e;omega)).keep m3 (by simp;omega),⟨_,(p2.keep k2 (λe=>by have:=h9 _ _ e;omega)).keep m3 (by simp),λy=>?_⟩,_,m2,λq=>?_,λq f hf=>?_,λq q' f hf hf'=>?_⟩
  ·(have aw:A3h (l.take i) x.id=none:=by rw[hx];exact D6k hi (by rw[<-hE];exact c2));rw[C2c,Z0E hi,C5s,au,<-h6]
   by_cases e:y=x.id
   .rw[Z0d e,e,h6,aw];simp;omega
   .rw[Z0e e];have:¬x.id=y:=λh=>e h.symm;rw[Z0e this];cases A1L IL y<;>rfl
  .rw[a4,b9];by_cases e:q=x.parent
   .rw[Z0d e,Z0d e,e];exact k1.keep m3 (λf hf=>by have:=av f hf;simp;omega)
   .rw[Z0e e,Z0e e,Z1F];exact((h8 q).keep k2 (λf hf hs=>e (ah _ _ f hf hs))).keep m3 (λf hf=>by have:=h9 _ f hf;simp;omega)
  .rw[a4]at hf;by_cases e:q=x.parent
   .rw[Z0d e]at hf;exact av f hf
   .rw[Z0e e]at hf;exact h9 q f hf
  .have aa:∀q,obj (A8J KL q)=some f->obj v'=some f->q=x.parent:=λq h1 h2=>by
    rcases k3 with e|e
    .exact ah _ _ f h1 (by rw[<-e];exact h2)
    .have:=e f h2;have:=(h8 q).lt h1;omega
   rw[a4]at hf hf';by_cases e:q=x.parent
   .rw[Z0d e]at hf;by_cases e':q'=x.parent
    .rw[e,e']
    .rw[Z0e e']at hf';exact absurd (aa q' hf' hf) e'
   .rw[Z0e e]at hf;by_cases e':q'=x.parent
    .rw[Z0d e']at hf';exact absurd (aa q hf hf') e
    .rw[Z0e e']at hf';exact ah _ _ f hf hf'
 exact⟨⟨i+1,by clear w1;omega,rfl,ba,ho,λj hj=>by
  by_cases e:j=i
  .rw[e];exact c2
  .exact hz j (by clear w1;omega)⟩,by clear w1;omega⟩
end
end
def C8R(p:List A0I):Prop:=p.length<=1000000/\∀s∈p,s.lab.size<=maxLen
section
variable (gl:Nat->AV) (M:Mem)
end
def hR:A2x:=⟨λ_=>true,λ_=>false,λd=>d==6||d==41||d==74||d==82⟩
@[simp] def E6V:hR.imm=λ_=>true:=rfl
@[simp] def E7E:hR.own=λ_=>false:=rfl
@[simp] def E8a:hR.vec=λd=>d==6||d==41||d==74||d==82:=rfl
section
variable (gl:Nat->AV) (M:Mem)
end
section
variable (gl:Nat->AV) (M:Mem)
end
def C7h(a b:A1G):Bool:=decide (a.frm=b.frm/\a.at_=b.at_)
def C2S:ByteArray:=⟨#[97,110,100]⟩
def A7p(out:List ByteArray)(s:ByteArray):List ByteArray:=out.set (out.length-1) (out.getD (out.length-1) .empty++s)
section
variable (l:List ByteArray) (old:List A1G) (names:List (List A0I))
def A5e(i:Nat):Bool:=decide (0<i)&&(match old[i-1]?,old[i]? with|some a,some b=>C7h a b|_,_=>false)
def B1x(i:Nat):Bool:=decide (i+1=old.length)||(match old[i+1]?,old[i]? with|some a,some b=>!C7h a b|_,_=>false)
def B4A(i:Nat)(out:List ByteArray)(e:Int):Option (List ByteArray×Int):=match old[i]?,names[i]? with
 |some c,some p=>
  if A4n p=[]\/c.frm<0\/c.at_<=c.frm\/c.at_>l.length\/(A5e old i=false/\c.frm<e)then none else
  let out1:=(if A5e old i then out++[C2S]else out++(l.take c.frm.toNat).drop e.toNat)++A4n p
  some (if B1x old i then A7p out1 (B1W (l.getD (c.at_.toNat-1) .empty))else out1,c.at_)
 |_,_=>none
def B5M:Nat->Nat->List ByteArray->Int->List ByteArray
 |0,_,out,e=>out++l.drop e.toNat
 |n+1,i,out,e=>match B4A l old names i out e with
  |none=>l
  |some r=>B5M n (i+1) r.1 r.2
def A6P:List ByteArray:=if old.length=names.length then B5M l old names old.length 0 [] 0 else l
end
def A5p(p:List A1G):List (List AV):=p.map A1G.row
def A7o(p:List (List A0I)):List (List AV):=p.map λx=>[A6X x]
@[simp] def E1W(p:List A1G):(A5p p).length=p.length:=by simp[A5p]
@[simp] def D9w(p:List (List A0I)):(A7o p).length=p.length:=by simp[A7o]
@[simp] def E1F{p}{i}(h:i<(A5p p).length):(A5p p)[i]=(p[i]'(by simpa using h)).row:=by simp[A5p]
@[simp] def E0W{p}{i}(h:i<(A7o p).length):(A7o p)[i]=[.list 2 (A1K (p[i]'(by simpa using h))) .no]:=by simp[A7o,A1K]
@[simp] def E1P{p}{i}(h:i<(A1b p).length):(A1b p)[i]=[S (p[i]'(by simpa using h))]:=by simp[A1b]
def C8j{p}{n}:(A1b p).take n=A1b (p.take n):=by simp[A1b]
def B8C{p}{n}:(A1b p).drop n=A1b (p.drop n):=by simp[A1b,List.map_drop]
def A4w{g n}(q:Nat×Nat->Bool):∀{b:List (Nat×Nat)},b.lookup g=some n->(b.filter λx=>x.1==g||q x).lookup g=some n
 |[],h=>by simp at h
 |a::l,h=>by
  by_cases c:a.1=g
  ·(have e:(a.1==g||q a)=true:=by simp[c]);rw[Z3d,Z0d e]
   obtain⟨a1,a2⟩:=a;simp only at c;subst c;simpa[List.lookup]using h
  ·(have hl:l.lookup g=some n:=by obtain⟨a1,a2⟩:=a;(have:(g==a1)=false:=by simpa usingλe=>c e.symm);simpa[List.lookup,this]using h);have ih:=A4w q hl;by_cases e:(a.1==g||q a)=true
   .rw[Z3d,Z0d e];obtain⟨a1,a2⟩:=a;(have:(g==a1)=false:=by simpa usingλe=>c e.symm);simpa[List.lookup,this]using ih
   .rw[Z3d,Z0e e];exact ih
def A5X.spot{e:TypeId}{M}{v}{cs}(h:A5X e M v cs){t:TypeId}(ht:A2i prog t=some false)(hs:A1h prog t=some 1){i}(hi:i<cs.length):∃p,A6s (some (some 1)) v (I i)=some p/\A1D prog t M p=some cs[i]/\∀x:AV,x.storable=true->x.cells=[x]->∃M',A0n (some 1) M p x=some M'/\A5X e M' v (cs.set i x)/\A0c (obj v) M M':=by
 rcases h with⟨rfl,hn⟩|⟨f,g,a,rfl,hf,hl⟩
 .subst hn;simp at hi
 .refine⟨_,by simp[hi];rfl,?_,?_⟩
  .simp[A1D,A3b,hf,hl,A0k,ht,hs];rw[Z0j hi,C6r]
  .intro x h1 h2;have b:f<M.length:=(Z0b.1 hf).1;refine⟨_,by simp only[A0n,hf,hl,h1,h2];simp;exact⟨by omega,rfl⟩,.inr ⟨f,g,A1A 1 g i a,by simp,?_,?_⟩,.set _ _ _⟩
   .simp[b];rw[Z3r,Z0d hi]
   .simp only[Z1o];unfold A1A;exact A4w _ hl
def D5y{C}{N}{c}{Q}{T}{M}{tg}(I:Env->Mem->Prop)(h1:wWp C N c (λe T' M'=>B6r (λT M=>I T M) (λ_ _ _=>False) e T' M' ⟨⟩) T M ⟨⟩)(h2:∀T M,I T M->Q .normal T M):wWp C N c Q T M tg:=AWp.mono h1 λe T M h=>by cases e<;>first|exact h2 T M h|exact h.elim
def D9R(M:Mem):Bld M.length M.length (M++[.cells 116 [.val (.pointer none),.val (.slice none 0 0)]]) .empty:=⟨Z0o _,_,_,by simp,.inl rfl,.inl ⟨rfl,rfl⟩,by simp,λ_=>rfl⟩
def B6V{s}(h:A0N s=true):s.size<=7:=by simp only[A0N,Z0g,Z0m]at h;omega
def B6K{p}:∀w∈A4n p,w.size<=16:=by
 intro w hw;unfold A4n at hw;split at hw
 .rename_i h;have hg:=Z0t.1 (C1M h);simp only[A8S,Z3c]at hw;obtain⟨s,hs,hw⟩:=hw;unfold A5z at hw;split at hw
  .simp only[Z1m]at hw;subst hw;decide
  .rename_i hb;(have hn:A1T s=true:=by have:=hg s hs;simpa[A8e,hb]using this);simp only[A1T,Z0g,Z0m]at hn;simp only[Z0A,Z2j,Z3y]at hw;rcases hw with rfl|rfl
   ·(have:∀k:Fin 8,(A1I.getD k.val ⟨#[]⟩).size<=16:=by decide);exact this ⟨s.k.toNat,by omega⟩
   .have:=B6V hn.2;omega
 .simp at hw
def B4d(s:ByteArray):(B1W s).size<=1:=by
 unfold B1W;split
 .decide
 .split
  .simp;omega
  .decide
def A5X.keepLow{e:TypeId}{M M'}{v}{cs}(h:A5X e M v cs){n}(hk:A1a n M M')(hn:∀f,obj v=some f->f<n):A5X e M' v cs:=by
 rcases h with⟨rfl,h⟩|⟨f',g,a,rfl,hm,hl⟩
 .exact .inl ⟨rfl,h⟩
 .exact .inr ⟨f',g,a,rfl,hk.get (hn _ rfl) hm,hl⟩
def C7r{xs ys:List ByteArray}(h:ys≠[]):(xs++ys).getD ((xs++ys).length-1) .empty∈ys:=by
 have hp:0<ys.length:=Z2p.2 h;have a:(xs++ys).length-1<(xs++ys).length:=by simp;omega
 simp only[Z1u,Z0l a,Z1I];rw[Z2J (by simp;omega)];exact Z0u _
def C3J{out}{s}:(A7p out s).map S=(out.map S).set (out.length-1) (S (out.getD (out.length-1) .empty++s)):=by simp[A7p,List.map_set]
def hX:A2x:=⟨λ_=>true,λ_=>false,λd=>d==81||d==88||d==91||d==135⟩
@[simp] def E6P:hX.own=λ_=>false:=rfl
@[simp] def E7U:hX.vec=λd=>d==81||d==88||d==91||d==135:=rfl
section
variable (gl:Nat->AV) (M:Mem)
set_option maxHeartbeats 4000000 in
def C9Q(l:List ByteArray)(old:List A1G)(names:List (List A0I))(o1 o2 o3:Own)(hl:l.length<=1000)(cb:∀s∈l,s.size<=maxLen)(ho:old.length<=20000)(hn:∀p∈names,C8R p):A0d (WC gl) 18 [.list 1 (A1b l) o1,.list 5 (A5p old) o2,.list 1 (A7o names) o3] M (A4x M (A6P l old names)):=by
 refine A0j hX func18 ?_
 by_cases hlen:old.length=names.length
 case neg=>
  have a5:¬(old.length:Int)=names.length:=by omega
  simp -dsimp -implicitDefEqProofs[a5];refine A0s func59 (C7J gl M l o1 (by omega)) ?_;intro v M' h;simp -dsimp -implicitDefEqProofs[A6P,hlen,h]
 have a5:(old.length:Int)=names.length:=by omega
 have c3:A6P l old names=B5M l old names old.length 0 [] 0:=by rw[A6P,Z0d hlen]
 rw[c3]
 simp -dsimp -implicitDefEqProofs[hlen]
 refine A0v hX old.length 23 (λT M1=>∃(i:Nat) (d:List ByteArray) (e:Int),i<=old.length/\A4x M d (T 7) M1/\T 0=.list 1 (A1b l) o1/\T 1=.list 5 (A5p old) o2/\T 2=.list 1 (A7o names) o3/\T 8=I e/\0<=e/\e<=l.length/\T 21=.list 5 (A5p old) o2/\T 22=I old.length/\T 23=I i/\d.length<=i*1200/\B5M l old names old.length 0 [] 0=B5M l old names (old.length-i) i d e) ?_ ?_
 .refine⟨0,[],0,?_⟩;simp -dsimp -implicitDefEqProofs[A4x,A5X,A0c.refl,A1r,hlen]
 .rintro T M1 ⟨i,d,e,h1,h2,h3,h4,h5,h6,h7,h8,h9,ag,a7,cr,ar⟩;generalize aj:T 7=ov at h2;by_cases hi:i<old.length
  ·(have au:(i:Int)<old.length:=by omega);have b7:i<names.length:=by omega
   (have bf:(i:Int)<names.length:=by omega);have hw:IntKind.i64.wrap ((i:Int)+1)=(i+1:Nat):=by rw[A0T (by omega) (by omega)];omega
   (have c0:(M1++[A0l.cells 110 old[i].row])[M1.length]?=some (A0l.cells 110 old[i].row):=by simp);have hp:=hn names[i] (Z0u b7)
   (have a1:B5M l old names (old.length-i) i d e=match B4A l old names i d e with|none=>l|some r=>B5M l old names (old.length-(i+1)) (i+1) r.1 r.2:=by rw[show old.length-i=(old.length-(i+1))+1 by omega];rfl);have ai:old[i]?=some old[i]:=Z0l hi
   have bl:names[i]?=some names[i]:=Z0l b7;simp -dsimp -implicitDefEqProofs[h5,h9,ag,a7,hi,au,b7,bf,A0m,A0n,A0e,A1G.row];refine A0s func60 (C9R gl _ names[i] .no hp.1) ?_;intro w M2 a2;have a4:=a2.2.1.get c0 (by simp);have ad:Grow M M2:=(h2.2.1.trans (.app none M1 _)).trans a2.2.1;have c4:A5e old i=(decide (0<i)&&(match old[i-1]?,old[i]? with|some a,some b=>C7h a b|_,_=>false)):=rfl;simp -dsimp -implicitDefEqProofs;refine D5y (λT M=>M=M2/\T 0=.list 1 (A1b l) o1/\T 1=.list 5 (A5p old) o2/\T 2=.list 1 (A7o names) o3/\T 7=ov/\T 8=I e/\T 9=I i/\T 10=.ptr M1.length 0/\T 11=w/\T 12=B (A5e old i)/\T 21=.list 5 (A5p old) o2/\T 22=I old.length/\T 23=I i) ?_ ?_
   .refine A1i hX (A0G gl) (λk=>if k=8 then 1 else 0) (λ_=>M1.length) (by rfl) (by kernel_rfl) ?_;by_cases i0:i=0
    .subst i0;simp -dsimp -implicitDefEqProofs[h3,h4,h5,h6,h9,ag,a7,aj,A5e]
    ·(have br:(0:Int)<i:=by omega);have ao:0<i:=by omega
     (have ca:IntKind.i64.wrap ((i:Int)-1)=(i-1:Nat):=by rw[A0T (by omega) (by omega)];omega);have bm:i-1<old.length:=by omega
     (have bj:((i-1:Nat):Int)<old.length:=by omega);have cc:A5e old i=C7h old[i-1] old[i]:=by rw[c4,ai,Z0l bm];simp[ao]
     rw[cc];simp -dsimp -implicitDefEqProofs[h4,ao,ca,bm,bj,A0b a4,A1G.row];refine C3u (r:=B (C7h old[i-1] old[i])) (λM=>A1Y func61 rfl rfl (D0p gl M old[i-1] old[i])) ?_;simp -dsimp -implicitDefEqProofs[h3,h4,h5,h6,h9,ag,a7,aj]
   .rintro T2 a3 ⟨rfl,k1,k2,k3,k4,k5,k6,k7,k8,k9,q,u,y⟩;(have a6:A1Z prog 37 w=some (A4n names[i]).length:=by rw[a2.1.len (e:=9) (by simp)];simp);by_cases hbad:A4n names[i]=[]\/old[i].frm<0\/old[i].at_<=old[i].frm\/old[i].at_>l.length\/(A5e old i=false/\old[i].frm<e)
    ·(have bx:B4A l old names i d e=none:=by simp only[B4A,ai,bl];rw[Z0d hbad]);have bk:B5M l old names old.length 0 [] 0=l:=by rw[ar,a1,bx]
     rw[bk];(have ae:∀(K:AV->Mem->Prop) (tg:Tag K),(∀v M',A4x M l v M'->K v M')->B7L (WC gl) 59 [.list 1 (A1b l) o1] a3 K tg:=by intro K tg hk;exact A0s func59 (C7J gl a3 l o1 (by omega)) λv M' h=>hk v M' (B9e ad h));by_cases b1:A4n names[i]=[]
     .simp -dsimp -implicitDefEqProofs[a6,b1,k1,k8];refine ae _ _ λv M' h=>?_;simp -dsimp -implicitDefEqProofs[h]
     have az:¬(A4n names[i]).length=0:=λe=>b1 (Z0z e);(have cj:¬((A4n names[i]).length:Int)=0:=by omega);by_cases b2:old[i].frm<0
     .simp -dsimp -implicitDefEqProofs[a6,b1,b2,k1,k7,k8,A0b a4,A1G.row];refine ae _ _ λv M' h=>?_;simp -dsimp -implicitDefEqProofs[h]
     by_cases b3:old[i].at_<=old[i].frm
     .simp -dsimp -implicitDefEqProofs[a6,b1,b2,b3,k1,k7,k8,A0b a4,A1G.row];refine ae _ _ λv M' h=>?_;simp -dsimp -implicitDefEqProofs[h]
     by_cases b4:old[i].at_>l.length
     .have ab:(l.length:Int)<old[i].at_:=b4;simp -dsimp -implicitDefEqProofs[a6,b1,b2,b3,b4,k1,k7,k8,A0b a4,A1G.row];refine ae _ _ λv M' h=>?_;simp -dsimp -implicitDefEqProofs[h]
     have b5:A5e old i=false/\old[i].frm<e:=by
      rcases hbad with h|h|h|h|h
      .exact absurd h b1
      .exact absurd h b2
      .exact absurd h b3
      .exact absurd h b4
      .exact h
     have ab:¬(l.length:Int)<old[i].at_:=b4;simp -dsimp -implicitDefEqProofs[a6,b1,b2,b3,b4,b5.1,b5.2,k1,k5,k7,k8,k9,A0b a4,A1G.row];refine ae _ _ λv M' h=>?_;simp -dsimp -implicitDefEqProofs[h]
    .have av:=hbad;simp only[Z2N,not_and]at hbad;obtain⟨b1,b2,b3,b4,b5⟩:=hbad;have az:¬(A4n names[i]).length=0:=λe=>b1 (Z0z e);have ab:¬(l.length:Int)<old[i].at_:=b4;(have g2:0<=old[i].frm:=by omega);(have g3:old[i].frm<=l.length:=by omega);(have cq:old[i].frm.toNat<=l.length:=by omega);obtain⟨g,a8⟩:∃g,g=if A5e old i=true then[C2S]else(l.take old[i].frm.toNat).drop e.toNat:=⟨_,rfl⟩;have bw:B4A l old names i d e=some (if B1x old i=true then A7p (d++g++A4n names[i]) (B1W (l.getD (old[i].at_.toNat-1) .empty))else d++g++A4n names[i],old[i].at_):=by
      (have hm:(if A5e old i=true then d++[C2S]else d++(l.take old[i].frm.toNat).drop e.toNat)=d++g:=by rw[a8];split<;>rfl);simp only[B4A,ai,bl]
      rw[Z0e av,hm]
     rw[bw]at a1;simp only at a1;(have g1:1<=old[i].at_:=by omega);(have g4:0<=old[i].at_:=by omega);(have g7:old[i].at_<=l.length:=by omega);have c5:g.length<=1000:=by
      rw[a8];split
      .simp
      .simp;omega
     have ba:A5X 9 a3 w ((A4n names[i]).map S):=a2.1;have bg:A5X 9 a3 ov (d.map S):=h2.1.keep ((A0c.app none M1 _).trans a2.2.1) (by simp);(have ch:M1.length<a3.length:=by have:=a2.2.1.1;simp at this;omega);(have an:obj ov≠some M1.length:=λe=>by have:=h2.1.lt e;omega);(have co:obj w≠some M1.length:=λe=>by have:=a2.2.2 _ e;simp at this;omega);(have bo:∀f,obj w=some f->obj ov≠some f:=λf e1 e2=>by have:=a2.2.2 _ e1;have:=h2.1.lt e2;simp at*;omega);have bc:∀f,obj w=some f->f<a3.length:=λf e1=>ba.lt e1;have mk:∀v3 M3,A5X 9 M3 v3 (d.map S++g.map S)->A0c (obj ov) a3 M3->(obj v3=obj ov\/A1r a3.length v3)->
      A4x M (d++g) v3 M3/\A5X 9 M3 w ((A4n names[i]).map S)/\M3[M1.length]?=some (A0l.cells 110 old[i].row)/\obj v3≠some M1.length/\(∀f,obj w=some f->obj v3≠some f):=by
      intro v3 M3 q1 q2 q3
      refine⟨?_,ba.keep q2 bo,q2.get a4 an,?_,?_⟩
      .refine⟨by simpa using q1,⟨by have:=ad.1;have:=q2.1;omega,λj hj _=>?_⟩,λf hf=>?_⟩
       .rw[q2.2 j (by have:=ad.1;omega) λe=>by have:=h2.2.2 _ e;omega];exact ad.2 j hj (by simp)
       .rcases q3 with e|e
        .exact h2.2.2 f (by rw[<-e];exact hf)
        .have:=e f hf;have:=ad.1;omega
      .intro e1;rcases q3 with e|e
       .exact an (by rw[<-e];exact e1)
       .have:=e _ e1;omega
      .intro f e1 e2;rcases q3 with e|e
       .exact bo f e1 (by rw[<-e];exact e2)
       .have:=e _ e2;have:=bc f e1;omega
     cases hA:A5e old i;case' false=>
      (have g5:e<=old[i].frm:=by have:=b5 hA;omega);have cp:0<=e/\e<=old[i].frm/\old[i].frm<=l.length:=⟨h7,g5,g3⟩
      (have g6:¬old[i].frm<e:=by omega);have hm:g=(l.take old[i].frm.toNat).drop e.toNat:=by rw[a8,hA];rfl
      rw[hA]at k9;simp -dsimp -implicitDefEqProofs[a6,az,b2,b3,b4,g6,k1,k4,k5,k7,k8,k9,A0b a4,A1G.row,h7,g5,g3];(have ay:List.drop e.toNat (List.take old[i].frm.toNat (A1b l))=A1b g:=by rw[C8j,B8C,hm]);rw[ay];refine push (C:=WC gl) (e:=9) A7n A9D B5x bg (news:=g.map S) (m:=g.length) (E0S _ _ _) (by simp) (by simp;omega) rfl ?_;intro v3 M3 q1 q2 q3 _;obtain⟨aw,bi,b8,bh,b9⟩:=mk v3 M3 q1 q2 q3;simp -dsimp -implicitDefEqProofs
     case' true=>
      (have hm:g=[C2S]:=by rw[a8,hA];rfl);rw[hA]at k9
      simp -dsimp -implicitDefEqProofs[a6,az,b2,b3,b4,k1,k4,k7,k8,k9,A0b a4,A1G.row,A0p,A0Z];refine push (C:=WC gl) (e:=9) A7n A9D B5x bg (news:=[C2S].map S) (m:=1) rfl rfl (by simp;omega) rfl ?_;rw[<-hm];intro v3 M3 q1 q2 q3 _;obtain⟨aw,bi,b8,bh,b9⟩:=mk v3 M3 q1 q2 q3;simp -dsimp -implicitDefEqProofs
     all_goals
      refine C0A hX (A0G gl) (λk=>if k=2 then 2 else if k=4 then 1 else 0) M1.length (by rfl) (by kernel_rfl) ?_
      have cn:=C2E names[i]
      have c2:A0z M3 1 w=some ((A4n names[i]).map S,(A4n names[i]).length):=by rw[bi.src];simp
      simp -dsimp -implicitDefEqProofs[k8]
      refine push (C:=WC gl) (e:=9) A7n A9D B5x aw.1 (news:=(A4n names[i]).map S) (m:=(A4n names[i]).length) c2 (by simp) (by simp;omega) rfl ?_
      intro v4 M4 r1 r2 r3 _
      have z:=B0z (X:=[]) aw r1 (by simpa using r2) (by simpa using r3)
      have ac:=r2.get b8 bh
      refine⟨by rw[ac,b8],?_⟩
      simp -dsimp -implicitDefEqProofs[A0b ac,A1G.row,k7]
      refine D5y (λT M=>M=M4/\T 0=.list 1 (A1b l) o1/\T 1=.list 5 (A5p old) o2/\T 2=.list 1 (A7o names) o3/\T 7=v4/\T 8=I old[i].at_/\T 10=.ptr M1.length 0/\T 108=B (B1x old i)/\T 21=.list 5 (A5p old) o2/\T 22=I old.length/\T 23=I i) ?_ ?_
      .refine A1i hX (A0G gl) (λk=>if k=11 then 1 else 0) (λ_=>M1.length) (by rfl) (by kernel_rfl) ?_;by_cases il:i+1=old.length
       ·(have ak:((i+1:Nat):Int)=old.length:=by omega);have b6:B1x old i=true:=by simp[B1x,il]
        simp -dsimp -implicitDefEqProofs[k1,k2,k3,k6,k7,q,u,y,hw,ak,b6]
       ·(have ak:¬((i+1:Nat):Int)=old.length:=by omega);have bn:i+1<old.length:=by omega
        (have c8:((i+1:Nat):Int)<old.length:=by omega);have cg:(0:Int)<=((i+1:Nat):Int):=by omega
        (have cd:((i+1:Nat):Int).toNat=i+1:=by omega);have b6:B1x old i=!C7h old[i+1] old[i]:=by simp[B1x,il,ai,Z0l bn]
        rw[b6];generalize hj:((i+1:Nat):Int)=j at*;simp -dsimp -implicitDefEqProofs[k2,k6,k7,hw,ak,bn,c8,cg,cd,A0b ac,A1G.row];refine C3u (r:=B (C7h old[i+1] old[i])) (λM=>A1Y func61 rfl rfl (D0p gl M old[i+1] old[i])) ?_;simp -dsimp -implicitDefEqProofs[k1,k2,k3,k7,q,u,y,ak]
      .rintro T3 o ⟨rfl,j1,j2,j3,j4,j5,j6,j7,j8,j9,j10⟩;have a0:=ar.trans a1;(have bv:(d++g++A4n names[i]).length<=(i+1)*1200:=by simp;omega);cases hE:B1x old i
       .rw[hE]at j7 a0;simp -dsimp -implicitDefEqProofs[j1,j2,j3,j4,j5,j7,j8,j9,j10,hw,a7];exact⟨⟨i+1,by clear hw;omega,_,z,g4,g7,by simp,bv,by simpa using a0⟩,by clear hw;omega⟩
       .rw[hE]at j7 a0;simp only[Z0H]at a0;have bp:((d++g++A4n names[i]).getD ((d++g++A4n names[i]).length-1) .empty).size<=16:=B6K _ (C7r b1);(have ck:0<(d++g++A4n names[i]).length:=by simp;omega);generalize d++g++A4n names[i]=c at*;(have aq:A1Z prog 37 v4=some c.length:=by rw[z.1.len (e:=9) (by simp)];simp);have ax:M1.length<o.length:=(Z0b.1 ac).1;have bd:∀f,obj v4=some f->f<o.length:=λf hf=>z.1.lt hf;(have ci:c.length<=100000000:=by omega);(have al:IntKind.i64.wrap ((c.length:Int)-1)=(c.length-1:Nat):=by rw[A0T (by omega) (by omega)];omega);have c7:=D9R o;have am:A1a o.length o (o++[A0l.cells 116 [AV.val (Value.pointer none),AV.val (Value.slice none 0 0)]]):=⟨by simp,λj hj=>Z0h hj⟩;(have be:c.length-1<c.length:=by omega);obtain⟨sp,s1,s2,-⟩:=(z.1.keepLow am bd).spot (t:=9) E4j sz9 (i:=c.length-1) (by simp;omega);(have b0:c.getD (c.length-1) .empty=c[c.length-1]:=by simp[be]);simp only[Z2i,<-b0]at s2;generalize c9:c.getD (c.length-1) .empty=a9 at*;simp -dsimp -implicitDefEqProofs[j4,j7,A0m,aq,al,s1,s2];refine A0s func62 (C7e gl _ o.length o.length .empty a9 c7 (by simp;omega) (by simp)) ?_;rintro r6 M6 ⟨c1,bz⟩;have af:=am.trans bz;have bt:=af.get ax ac;(have g8:old[i].at_.toNat-1<l.length:=by omega);(have g9:old[i].at_-1<l.length:=by omega);have cf:IntKind.i64.wrap (old[i].at_-1)=old[i].at_-1:=A0T (by omega) (by omega);(have bu:l.getD (old[i].at_.toNat-1) .empty=l[old[i].at_.toNat-1]:=by simp[g8]);simp -dsimp -implicitDefEqProofs[j1,j6,A0b bt,A1G.row,cf,g1,g9,g8];refine A0s func63 (D7r gl M6 l[old[i].at_.toNat-1] (cb _ (Z0u g8))) ?_;rintro r7 cm ⟨rfl,rfl⟩;rw[bu]at a0;have cs:=B4d l[old[i].at_.toNat-1];generalize B1W l[old[i].at_.toNat-1]=ah at*;simp -dsimp -implicitDefEqProofs;refine A0s func62 (C7e gl _ o.length o.length (.empty++a9) ah c1 (by simp;omega) af.1) ?_;rintro r7 M7 ⟨ce,bs⟩;have ap:=af.trans bs;simp -dsimp -implicitDefEqProofs[j4,aq,al];refine A0s func64 (D1V gl _ o.length o.length (.empty++a9++ah) ce (by simp;omega) ap.1) ?_;rintro r8 M8 ⟨rfl,c6⟩;have aa:=ap.trans c6;obtain⟨ct,t1,-,t3⟩:=(z.1.keepLow aa bd).spot (t:=9) E4j sz9 (i:=c.length-1) (by simp;omega);obtain⟨M9,t4,t5,t6⟩:=t3 (S (a9++ah)) rfl rfl;have bq:A4x M (A7p c ah) v4 M9:=by
         refine⟨by rw[C3J,c9];simpa using t5,⟨?_,λj hj _=>?_⟩,z.2.2⟩
         .have:=z.2.1.1;have:=aa.1;have:=t6.1;omega
         .have:=z.2.1.1;rw[t6.2 j (by have:=aa.1;omega) λe=>by have:=z.2.2 _ e;omega,aa.2 j (by omega)];exact z.2.1.2 j hj (by simp)
        (have bb:(A7p c ah).length<=(i+1)*1200:=by simp[A7p];omega);simp -dsimp -implicitDefEqProofs[t1,t4,j1,j2,j3,j4,j5,j8,j9,j10,hw,a7]
        exact⟨⟨i+1,by clear hw;omega,_,bq,g4,g7,by simp,bb,by simpa using a0⟩,by clear hw;omega⟩
  ·(have au:¬(i:Int)<old.length:=by omega);rw[ar,show old.length-i=0 by omega]
   simp -dsimp -implicitDefEqProofs[h3,h6,ag,a7,au,aj,h7,h8];have ay:List.drop e.toNat (A1b l)=A1b (l.drop e.toNat):=B8C;rw[ay];refine push (C:=WC gl) (e:=9) A7n A9D B5x h2.1 (news:=(l.drop e.toNat).map S) (m:=(l.drop e.toNat).length) (E0S _ _ _) (by simp) (by simp;omega) rfl ?_;intro v' M' q1 q2 q3 _;have hf:=B0z (X:=[]) h2 q1 (by simpa using q2) (by simpa using q3);simp -dsimp -implicitDefEqProofs[B5M,hf]
end
def hY:A2x:=⟨λ_=>true,λ_=>false,λd=>d==19||d==95||d==102||d==105||d==158⟩
@[simp] def E6O:hY.own=λ_=>false:=rfl
@[simp] def E7d:hY.vec=λd=>d==19||d==95||d==102||d==105||d==158:=rfl
section
variable (gl:Nat->AV) (M:Mem)
end
structure A1R where
 at_:IdD
 n:Int
 to:List IdD
def A1R.row(m:A1R):List AV:=[I m.at_.act,I m.at_.item,I m.at_.n,I m.n,.list 3 (m.to.map IdD.row) .no]
def D4k(s:List A1R)(id:IdD)(n:Int):List IdD:=match s.find? λm=>decide (m.at_=id)&&decide (m.n=n)with
 |some m=>m.to
 |none=>[]
section
variable (F:IdD->Option A0a) (l:List A0S) (s:List A1R)
def A5O:Nat->Int->List A0I
 |0,_=>[A3k]
 |f+1,n=>if n<0 then[A3k]else A5O f (A3w l n)++[⟨A4U F l n,B1T l n.toNat⟩]
def A2U(id:IdD)(n:Int):List (List A0I):=if(D4k s id n).all λy=>(A3h l y).isSome then(D4k s id n).map λy=>A5O F l ((A3h l y).getD 0+1) ((A3h l y).getD 0:Nat)else[]
end
section
variable (cs:List A1G) (nm:Nat->List (List A0I))
def A8L(i:Nat):List A1G:=(List.range i).flatMap λn=>match cs[n]? with
 |some c=>(nm n).map λ_=>c
 |none=>[]
def B1d(i:Nat):List (List A0I):=(List.range i).flatMap nm
def A7v(i:Nat):List A1G:=(List.range i).flatMap λn=>match cs[n]? with
 |some c=>if nm n=[]then[c]else(nm n).map λp=>⟨0,p,⟨#[]⟩,0,0⟩
 |none=>[]
end
def B2G(a b:A1G):Bool:=decide (a.k=b.k)&&decide (a.to=b.to)&&decide (a.path.map (λs=>(s.k,s.lab))=b.path.map (λs=>(s.k,s.lab)))
def B5D(a b:List A1G):Bool:=decide (a.length=b.length)&&(a.zip b).all λx=>B2G x.1 x.2
def A5l(t:ByteArray):A0H:=⟨t,0,0,0⟩
def A9z(a b:Int):Int:=if b=6\/a=0 then b else a
section
variable (F:IdD->Option A0a) (l:List A0S) (s:List A1R)
def A8y(x:A0a):List ByteArray×Bool:=
 let cs:=A3o (A0Y x.words) 0
 let nm:=λn:Nat=>A2U F l s x.id n
 let out:=A6P (A0Y x.words) (A8L cs nm cs.length) (B1d nm cs.length)
 (out,B5D (A3o out 0) (A7v cs nm cs.length))
def D0W:A0a:=.mk idZ 0 ⟨#[]⟩ [] [] []
def A6U(n:Nat):A0a:=match l[n]? with
 |some x=>(F x.id).getD D0W
 |none=>D0W
def C0J(w:List ByteArray×Bool):Int:=if 256<w.1.length then 6 else if w.2 then 0 else 2
def A2N:Nat->Nat->A0a×List IdD×Int
 |0,_=>(D0W,[],0)
 |f+1,n=>
  let x:=A6U F l n
  let w:=A8y F l s x
  let ks:=(A4m l n l.length).map (A2N f)
  (.mk idZ x.kind (B1T l n) (x.head.map λh=>A5l h.text) (w.1.map A5l) (ks.map (·.1)),x.id::ks.flatMap (·.2.1),ks.foldl (λe k=>A9z e k.2.2) (C0J w))
def B5S:∀f n,(A2N F l s f n).2.1=(A6Z (λk=>A3w l k) l.length f n).map λk=>(A6U F l k).id
 |0,n=>rfl
 |f+1,n=>by rw[A2N,A6Z,Z0B];simp only;congr 1;rw[List.map_flatMap];have e:A4m l n l.length=chL (λk=>A3w l k) l.length n:=rfl;rw[e,Z3w];congr 1;funext k;exact B5S f k
end
def A5N(number:Int):List (List IdD)->Nat->List (IdD×IdD)
 |[],_=>[]
 |ids::r,j=>(ids.zipIdx.map λx=>(x.1,(⟨number,j,(x.2:Int)+1⟩:IdD)))++A5N number r (j+1)
def C3r{α:Type}:∀(l:List α) (k:Nat),(l.zipIdx k).map Prod.fst=l
 |[],_=>rfl
 |a::l,k=>by rw[List.zipIdx_cons,Z0B,C3r l (k+1)]
def B3a(a:Int):∀ts j,(A5N a ts j).map (·.1)=ts.flatMap id
 |[],j=>rfl
 |ids::r,j=>by
  rw[A5N,Z0Q,B3a a r (j+1),Z1f];congr 1;rw[Z1O];have:((λx:IdD×IdD=>x.1)∘λx:IdD×Nat=>(x.1,(⟨a,(j:Int),(x.2:Int)+1⟩:IdD)))=Prod.fst:=by funext x;rfl
  rw[this];exact C3r ids 0
section
variable {F:IdD->Option A0a} {l:List A0S} {s:List A1R}
def A3m(l:List A0S):List Nat:=A4m l (-1) l.length
def A2n(F:IdD->Option A0a)(l:List A0S)(s:List A1R):List (A0a×List IdD×Int):=(A3m l).map (A2N F l s l.length)
def C1R:(A2n F l s).flatMap (·.2.1)=(B0o (λk=>A3w l k) l.length).map λk=>(A6U F l k).id:=by unfold A2n B0o A3m;rw[Z3w,List.map_flatMap];have e:A4m l (-1) l.length=chL (λk=>A3w l k) l.length (-1):=rfl;rw[e];congr 1;funext k;exact B5S F l s l.length k
def D1J{u}(d:∀j,j<l.length->-1<=A3w l j/\A3w l j<j)(c:∀k,(h:k<l.length)->(A6U F l k).id=l[k].id)(hn:(l.map A0S.id).Nodup)(hu:(A0V u).Nodup)
 (f:∀x∈l,x.id∈(A0V u).tail)(i:l.length=(A0V u).tail.length):
 ((A2n F l s).flatMap (·.2.1)).Nodup/\∀x,x∈(A2n F l s).flatMap (·.2.1)<->x∈(A0V u).tail:=by
 obtain⟨h1,h2⟩:=B6M (par:=λk=>A3w l k) (N:=l.length) (λj hj=>d j hj)
 rw[C1R]
 have hm:∀x,x∈(B0o (λk=>A3w l k) l.length).map (λk=>(A6U F l k).id)<->x∈l.map A0S.id:=by
  intro x;simp only[Z0J];constructor
  .rintro⟨k,hk,rfl⟩;have:=(h2 k).1 hk;exact⟨l[k],Z0u this,(c k this).symm⟩
  .rintro⟨y,hy,rfl⟩;obtain⟨k,hk,rfl⟩:=Z3g hy;exact⟨k,(h2 k).2 hk,c k hk⟩
 refine⟨?_,λx=>?_⟩
 .unfold List.Nodup;rw[Z3V];refine Z2P ?_ h1;intro a b ha hb g e;have ha:=(h2 a).1 ha;have hb:=(h2 b).1 hb;rw[c a ha,c b hb]at e;have hp:=Z3i.1 hn;rcases Nat.lt_or_gt_of_ne g with h|h
  .exact hp a b (by simpa using ha) (by simpa using hb) h (by simpa using e)
  .exact hp b a (by simpa using hb) (by simpa using ha) h (by simpa using e.symm)
 .rw[hm];constructor
  .intro h;obtain⟨y,hy,rfl⟩:=Z0J.1 h;exact f y hy
  .refine D8n hn (λy hy=>?_) (by rw[Z0V];omega) x;obtain⟨z,hz,rfl⟩:=Z0J.1 hy;exact f z hz
end
end Go.Abs
