/- The texts CsL, CsY, CaA, CaB, CaC, CaD, CaE, CaF, CaG, CaH, CaI, CaJ, CaN, CaK, CaL, CaO, CaP, CaQ. -/
import Derived.Test.YtmpdkagfplajjaaGreatDoorFG30
import Derived.Test.YtmpdkagfplajjaaGreatDoorFG28
import Derived.Test.YtmpdkagfplajjaaGreatDoorFG25
import Derived.Test.YtmpdkagfplajjaaGreatDoorFG23
set_option linter.all false
namespace Go.Abs
def A7O(u:A0a):Bool:=if u.kind=0 then decide (u.label.size=0)&&decide (u.head.length=0)&&decide (u.words.length=0)else decide (0<u.kind/\u.kind<=7)&&A0N u.label&&A3l u.head&&A3l u.words
mutual
def B0w(d:Nat):A0a->Bool
 |.mk id k l h w ks=>!decide (8<d)&&!(decide (0<d)&&decide (k=0))&&A7O (.mk id k l h w ks)&&decide (ks.length<=64)&&A6S k d ks []
def A6S(kind:Int)(d:Nat):List A0a->List A0a->Bool
 |[],_=>true
 |k::ks,before=>A1o kind k.kind&&B0w (d+1) k&&!(before.any λa=>A2k a k)&&A6S kind d ks (before++[k])
end
def B9S{l}(h:l.length=0):A3l l=true:=by rw[Z0z h];rfl
def C7C(u:A0a):A3U u=(A7O u&&decide (u.kids.length<=64)):=by
 unfold A3U A7O;rw[Z2e];by_cases c:u.kind=0
 .simp only[Z0d c,Z0g,Z0m];constructor
  .rintro⟨⟨⟨⟨-,h2⟩,-⟩,-⟩,h3⟩;exact⟨h3,h2⟩
  .rintro⟨h3,h2⟩;exact⟨⟨⟨⟨by omega,h2⟩,B9S h3.1.2⟩,B9S h3.2⟩,h3⟩
 .simp only[Z0e c,Z0g,Z0m];constructor
  .rintro⟨⟨⟨⟨h1,h2⟩,h3⟩,h4⟩,h5⟩;exact⟨⟨⟨⟨by omega,h5⟩,h3⟩,h4⟩,h2⟩
  .rintro⟨⟨⟨⟨h1,h5⟩,h3⟩,h4⟩,h2⟩;exact⟨⟨⟨⟨by omega,h2⟩,h3⟩,h4⟩,h5⟩
def D1B{p k}(h:A1o p k=true):k≠0:=by
 rintro rfl;simp only[A1o,Z0g,Z0m]at h;obtain⟨⟨h1,h2⟩,h3⟩:=h;have key:∀n:Fin 8,(A3y.getD n.val []).contains (0:Int)=false:=by decide
 have:=key ⟨p.toNat,by omega⟩;simp only at this;rw[this]at h3;exact absurd h3 (by simp)
mutual
def B6h:∀(u:A0a) (d:Nat),B0w d u=(A2l u&&decide (A1w u+d<=8)&&decide (d=0\/u.kind≠0))
 |.mk id k l h w ks,d=>by
  have hl:=B3W ks k d [];have ha:=C7C (.mk id k l h w ks);have hk:(A0a.mk id k l h w ks).kind=k:=rfl;have a:(A0a.mk id k l h w ks).kids=ks:=rfl;rw[a]at ha;rw[B0w,A2l,A1w,hl,hk,ha,Z2e];simp only[Z0g,Z1Q,Z1x,Z2F,Z0m];constructor
  .rintro⟨⟨⟨⟨h1,h2⟩,h3⟩,h4⟩,h5,h6⟩;refine⟨⟨⟨⟨h3,h4⟩,h5⟩,?_⟩,by omega⟩;rcases h6 with h6|h6
   .subst h6;rw[A2v];omega
   .exact h6
  .rintro⟨⟨⟨⟨h3,h4⟩,h5⟩,h6⟩,h7⟩;exact⟨⟨⟨⟨by omega,by omega⟩,h3⟩,h4⟩,h5,.inr h6⟩
def B3W:∀(ks:List A0a) (kind:Int) (d:Nat) (b:List A0a),A6S kind d ks b=(A4h kind ks b&&decide (ks=[]\/A2v ks+d<=8))
 |[],kind,d,b=>by rw[A6S,A4h];simp
 |k::ks,kind,d,b=>by
  have h1:=B6h k (d+1);have h2:=B3W ks kind d (b++[k]);rw[A6S,A4h,A2v,h1,h2,Z2e];simp only[Z0g,Z1Q,Z0m];constructor
  .rintro⟨⟨⟨a,⟨b1,b2⟩,b3⟩,c⟩,e1,e2⟩;refine⟨⟨⟨⟨a,b1⟩,c⟩,e1⟩,.inr ?_⟩;rcases e2 with e2|e2
   .subst e2;rw[A2v];omega
   .omega
  .rintro⟨⟨⟨⟨a,b1⟩,c⟩,e1⟩,e2⟩;have e2:max (1+A1w k) (A2v ks)+d<=8:=by
    rcases e2 with e2|e2
    .exact absurd e2 (by simp)
    .exact e2
   exact⟨⟨⟨a,⟨b1,by omega⟩,.inr (D1B a)⟩,c⟩,e1,.inr (by omega)⟩
end
def B0u(t:ByteArray):ByteArray:=if A1c t 0=124\/A1c t 0=92 then⟨#[92]⟩++t else t
def A5i(s:ByteArray)(ws:List A0H):ByteArray:=ws.foldl (λs w=>s++⟨#[32]⟩++B0u w.text) s
def A9G(a b c:ByteArray):a++b++c=a++(b++c):=by apply ByteArray.ext;simp[Array.append_assoc]
def D4E(s t:ByteArray):∀ws:List A0H,A5i (s++t) ws=s++A5i t ws:=by
 intro ws;induction ws generalizing t with
 |nil=>rfl
 |cons w ws ih=>unfold A5i at ih|-;rw[Z2S,Z2S,A9G,A9G,ih,A9G]
def A8C:Nat->ByteArray
 |0=>⟨#[]⟩
 |d+1=>A8C d++⟨#[32,32]⟩
def A4o:List ByteArray:=[⟨#[98,111,111,107]⟩,⟨#[112,97,114,116]⟩,⟨#[115,101,99,116,105,111,110]⟩,⟨#[112,97,114,97,103,114,97,112,104]⟩,⟨#[116,97,98,108,101]⟩,⟨#[114,111,119]⟩,⟨#[99,101,108,108]⟩,⟨#[110,111,116,101]⟩]
def A7y(u:A0a)(d:Nat):ByteArray:=A8C d++A4o.getD u.kind.toNat ⟨#[]⟩
def A5d(u:A0a)(d:Nat):ByteArray:=if u.kind=0 then A7y u d else A7y u d++(⟨#[32]⟩++u.label)
def A4e(u:A0a)(d:Nat):ByteArray:=if u.head.length=0 then A5d u d else A5i (A5d u d++⟨#[58]⟩) u.head
def A3B(u:A0a)(d:Nat):ByteArray:=if u.words.length=0 then A4e u d else A5i (A4e u d++⟨#[32,124]⟩) u.words
mutual
def A4g(d:Nat):A0a->List ByteArray
 |.mk id k l h w ks=>A3B (.mk id k l h w ks) d::A5c (d+1) ks
def A5c(d:Nat):List A0a->List ByteArray
 |[]=>[]
 |k::ks=>A4g d k++A5c d ks
end
def A4T(l:List ByteArray):Nat:=(l.map λs=>s.size+1).foldr (·+·) 0
@[simp] def C8r:A4T []=0:=rfl
@[simp] def A7A(s:ByteArray)(l:List ByteArray):A4T (s::l)=s.size+1+A4T l:=rfl
def B8A(a b:List ByteArray):A4T (a++b)=A4T a+A4T b:=by
 induction a with
 |nil=>simp
 |cons s a ih=>simp[ih];omega
def D5N(t:ByteArray):(B0u t).size<=t.size+1:=by
 have e:(⟨#[92]⟩:ByteArray).size=1:=rfl;unfold B0u;split
 .rw[Z0x,e];omega
 .omega
def A6p:∀(ws:List A0H) (s:ByteArray),(∀w∈ws,w.text.size<=24)->(A5i s ws).size<=s.size+26*ws.length
 |[],s,_=>by simp[A5i]
 |w::ws,s,h=>by have h1:=A6p ws (s++⟨#[32]⟩++B0u w.text) λx hx=>h x (by simp[hx]);have h2:=h w (by simp);have h3:=D5N w.text;have e:A5i s (w::ws)=A5i (s++⟨#[32]⟩++B0u w.text) ws:=rfl;have e2:(⟨#[32]⟩:ByteArray).size=1:=rfl;rw[e];simp only[Z0x,Z0C,e2]at h1|-;omega
def A8p:∀d,(A8C d).size=2*d
 |0=>rfl
 |d+1=>by have e2:(⟨#[32,32]⟩:ByteArray).size=2:=rfl;rw[A8C,Z0x,A8p d,e2];omega
def A3q(l:List ByteArray)(p:ByteArray->Bool)(at_:Nat)(en:Bool):Option ByteArray×Nat×Bool:=
 if en=true then(none,at_,en)else match l[at_]? with
 |none=>(none,at_,en)
 |some s=>if p s=true then(some s,at_+1,false)else if s.size=0 then(none,at_,false)else if A5C (A1c s (s.size-1))=false then(none,at_,false)else if p (s.extract 0 (s.size-1))=true then(some (s.extract 0 (s.size-1)),at_+1,true)else(none,at_,false)
def B3u(p:ByteArray->Bool):Prop:=∀s,p s=true->A4v s=true
def B1F{l}{p:ByteArray->Bool}{a}{en}(h:A1f l a en=[]):A3q l p a en=(none,a,en):=by
 unfold A3q;by_cases c:en=true
 .rw[Z0d c]
 .rw[Z0e c];by_cases e:a<l.length
  ·(have:en=false:=by simpa using c);subst this
   rw[D0q e]at h;exact absurd h (by simp)
  .rw[Z1d (by omega)]
def A9K{l}{p:ByteArray->Bool}(hp:B3u p){a}{en}{t}{r}(h:A1f l a en=t::r):a<l.length/\en=false/\((p t=true/\∃en',A3q l p a en=(some t,a+1,en')/\A1f l (a+1) en'=r)\/(p t=false/\A3q l p a en=(none,a,false))):=by
 have he:en=false:=by
  cases en with
  |false=>rfl
  |true=>rw[C7N (.inl rfl)]at h;exact absurd h (by simp)
 subst he
 have hl:a<l.length:=by refine Z2K λc=>?_;rw[C7N (.inr (by omega))]at h;exact absurd h (by simp)
 refine⟨hl,rfl,?_⟩
 rw[D0q hl]at h
 simp only[Z1e]at h
 obtain⟨h1,h2⟩:=h
 unfold A3q
 simp only[Z0K,Z1l,Z0l hl]
 cases hc:A4v l[a]with
 |true=>
  rw[C9L hc]at h1
  rw[hc]at h2
  subst h1
  by_cases e:p l[a]=true
  .exact .inl ⟨e,false,by rw[Z0d e],h2⟩
  .refine .inr ⟨by simpa using e,?_⟩;rw[Z0e e];by_cases z:l[a].size=0
   .rw[Z0d z]
   .rw[Z0e z];unfold A4v at hc;simp only[z,Z4x,Z1h,Z1Q]at hc;rw[Z0d hc]
 |false=>
  obtain⟨b1,b2,b3,b4⟩:=D6Z hc
  rw[hc]at h2
  have e:¬p l[a]=true:=λe=>by rw[hp _ e]at hc;exact absurd hc (by simp)
  rw[Z0e e,Z0e (by omega),Z0e (by rw[b3];simp),<-b4,h1]
  by_cases c:p t=true
  .exact .inl ⟨c,true,by rw[Z0d c],h2⟩
  .exact .inr ⟨by simpa using c,by rw[Z0e c]⟩
def D3H(w:ByteArray)(h:A4v w=true):B3u λs=>decide (s=w):=λs hs=>by rw[Z1R hs];exact h
def B6T:B3u A0N:=λs hs=>(C6u hs).1
def C5G:B3u λs=>decide (0<kS s):=λs hs=>(C0u s (C3d (Z1R hs))).1
def D5D:B3u λs=>decide (0<kP s):=λs hs=>(B9W s (B2m (Z1R hs)).1 (B2m (Z1R hs)).2).1
def A7m(l:List ByteArray)(kd:ByteArray->Int)(a:Nat)(en:Bool):Option A0I×Nat×Bool:=
 match A3q l (λs=>decide (0<kd s)) a en with
 |(none,_,_)=>(none,a,en)
 |(some s,a1,en1)=>match A3q l A0N a1 en1 with
  |(none,_,_)=>(none,a,en)
  |(some t,a2,en2)=>(some ⟨kd s,t⟩,a2,en2)
def C1d{l}{kd:ByteArray->Int}(hk:B3u λs=>decide (0<kd s)){a}{en}:
 (∃s t r,A1f l a en=s::t::r/\0<kd s/\A0N t=true/\∃en',A7m l kd a en=(some ⟨kd s,t⟩,a+2,en')/\A1f l (a+2) en'=r)\/
 ((∀s t r,A1f l a en=s::t::r->¬(0<kd s/\A0N t=true))/\A7m l kd a en=(none,a,en)):=by
 unfold A7m
 cases hs:A1f l a en with
 |nil=>
  right
  rw[B1F hs]
  exact⟨λs t r e=>absurd e (by simp),rfl⟩
 |cons s r1=>
  obtain⟨hl,rfl,h|h⟩:=A9K hk hs
  .obtain⟨c1,c,e1,s1⟩:=h;rw[e1];simp only;cases r1 with
   |nil=>right;rw[B1F s1];exact⟨λs t r e=>absurd e (by simp),rfl⟩
   |cons t r=>
    obtain⟨b,rfl,h|h⟩:=A9K B6T s1
    .obtain⟨c2,en2,e2,s2⟩:=h;rw[e2];exact .inl ⟨s,t,r,rfl,by simpa using c1,c2,en2,rfl,s2⟩
    .rw[h.2];refine .inr ⟨λs' t' r' e=>?_,rfl⟩;simp only[Z1e]at e;obtain⟨rfl,rfl,rfl⟩:=e;rw[h.1];simp
  .rw[h.2];refine .inr ⟨λs' t' r' e=>?_,rfl⟩;simp only[Z1e]at e;obtain⟨rfl,rfl⟩:=e;intro hh;have:=h.1;simp[hh.1]at this
def D5d{n}{s t}{r}(h:0<kS s/\A0N t=true):prs (n+1) (s::t::r)=⟨kS s,t⟩::prs n r:=by rw[prs,Z0d h]
def D3V{n}{w}(h:∀s t r,w=s::t::r->¬(0<kS s/\A0N t=true)):prs n w=[]:=by
 match n,w,h with
 |0,w,_=>cases w<;>simp[prs]
 |n+1,[],_=>simp[prs]
 |n+1,[a],_=>simp[prs]
 |n+1,a::b::r,h=>rw[prs,Z0e (h a b r rfl)]
def A8a{l}{want}(hc:A4v want=true){a}{en}:
 (∃r,A1f l a en=want::r/\∃b,A3q l (λs=>decide (s=want)) a en=(some want,a+1,b)/\A1f l (a+1) b=r)\/
 ((∀r,A1f l a en≠want::r)/\A3q l (λs=>decide (s=want)) a en=(none,a,en)):=by
 cases hs:A1f l a en with
 |nil=>exact .inr ⟨λr e=>absurd e (by simp),B1F hs⟩
 |cons s r=>
  obtain⟨hl,rfl,h|h⟩:=A9K (D3H want hc) hs
  .obtain⟨c,b,e1,e2⟩:=h;have:=Z1R c;subst this;exact .inl ⟨r,rfl,b,e1,e2⟩
  .refine .inr ⟨λr' e=>?_,h.2⟩;simp only[Z1e]at e;have:=h.1;simp[e.1]at this
def D1R{l}{kd:ByteArray->Int}(hk:B3u λs=>decide (0<kd s)){a}{en}:
 (∃s r,A1f l a en=s::r/\0<kd s/\∃b,A3q l (λs=>decide (0<kd s)) a en=(some s,a+1,b)/\A1f l (a+1) b=r)\/
 ((∀s r,A1f l a en=s::r->¬0<kd s)/\A3q l (λs=>decide (0<kd s)) a en=(none,a,en)):=by
 cases hs:A1f l a en with
 |nil=>exact .inr ⟨λs r e=>absurd e (by simp),B1F hs⟩
 |cons s r=>
  obtain⟨hl,rfl,h|h⟩:=A9K hk hs
  .obtain⟨c,b,e1,e2⟩:=h;exact .inl ⟨s,r,rfl,Z1R c,b,e1,e2⟩
  .refine .inr ⟨λs' r' e=>?_,h.2⟩;simp only[Z1e]at e;rw[<-e.1];exact of_decide_eq_false h.1
set_option maxRecDepth 100000
open Go.Proofs TryTypes Tryz
abbrev A1B(l:List ByteArray)(o:Own)(a:Nat)(en:Bool):List AV:=[.list 1 (A1b l) o,I a,B en]
def Rd(M:Mem)(r:Nat)(l:List ByteArray)(o:Own)(a:Nat)(en:Bool):Prop:=M[r]?=some (.cells 240 (A1B l o a en))
def D8x(C:Ctx)(g:FuncId)(cs:List AV)(p:ByteArray->Bool):Prop:=∀s M,A4d C g (S s::cs) M (λv M'=>v=B (p s)/\M'=M)
def C3m(c:Int):(A7l c<0)=(A5C c=false):=by unfold A7l A5C;by_cases h1:c=44<;>by_cases h2:c=59<;>by_cases h3:c=46<;>by_cases h4:c=58<;>by_cases h5:c=41<;>simp[h1,h2,h3,h4,h5]
section
variable (gl:Nat->AV)
def D5g(c:UInt8)(M:Mem):A0d (WC gl) 375 [S A6O,.val (.int .u8 c.toNat)] M (λr m=>r=I (A7l c.toNat)/\m=M):=by refine A0j hB func375 ?_;simp -dsimp -implicitDefEqProofs;refine A0f func271 (C5W gl M c) ?_;simp -dsimp -implicitDefEqProofs
def B4S(l:List ByteArray)(o:Own)(hl:l.length<=1000000000)(t:∀s∈l,s.size<=maxLen)(p:ByteArray->Bool)(r:Nat)(g:FuncId)(cs:List AV)(hf:D8x (WC gl) g cs p)(a:Nat)(en:Bool)(M:Mem)(hr:Rd M r l o a en):A0d (WC gl) 331 [.ptr r 0,.func (.func g) [] cs] M (λv M'=>v=.tuple [S ((A3q l p a en).1.getD ⟨#[]⟩),B (A3q l p a en).1.isSome]/\M'=M.set r (.cells 240 (A1B l o (A3q l p a en).2.1 (A3q l p a en).2.2))):=by
 have b:M.set r (.cells 240 (A1B l o a en))=M:=by
  apply Z1K;intro i;rw[Z2o];split
  .rename_i e;subst e;split
   .exact hr.symm
   .rename_i h;exact(Z1d (by omega)).symm
  .rfl
 refine A0j hB func331 ?_
 simp -dsimp -implicitDefEqProofs
 refine A1i hB (A0G gl) (λk=>if k=3\/k=8\/k=12 then 1 else 0) (λ_=>r) (by rfl) (by kernel_rfl) ?_
 cases en with
 |true=>simp -dsimp -implicitDefEqProofs[A0b hr,A3q,b]
 |false=>
 by_cases hal:a<l.length
 case neg=>
  have h1:(l.length:Int)<=a:=by omega
  have h2:l[a]?=none:=Z1d (by omega);simp -dsimp -implicitDefEqProofs[A0b hr,h1,A3q,h2,b]
 have h1:¬(l.length:Int)<=a:=by omega
 have q:(a:Int)<l.length:=by omega
 have h2:l[a]?=some l[a]:=Z0l hal
 simp -dsimp -implicitDefEqProofs[A0b hr,h1]
 refine A1i hB (A0G gl) (λk=>if k=3\/k=7 then 1 else 0) (λ_=>r) (by rfl) (by kernel_rfl) ?_
 simp -dsimp -implicitDefEqProofs[A0b hr,q,hal]
 have f:IntKind.i64.wrap ((a:Int)+1)=(a+1:Nat):=by rw[A0T (by omega) (by omega)];omega
 have h:r<M.length:=(Z0b.1 hr).1
 refine A4A (hf _ _) ?_
 rintro _ M1 ⟨rfl,rfl⟩
 have u:l[a].size<=9223372036854775807:=t _ (Z0u hal)
 generalize hs:l[a]=s at*
 by_cases c1:p s=true
 .simp -dsimp -implicitDefEqProofs[c1,A0b hr,A0h hr,A0e,f,A3q,h2];rfl
 have c:p s=false:=by simpa using c1
 by_cases c2:s.size=0
 .have hw:IntKind.i64.wrap (-1)=-1:=by decide
  simp -dsimp -implicitDefEqProofs[c,hw,A3q,h2,c2,b]
 have hw:IntKind.i64.wrap ((s.size:Int)-1)=(s.size-1:Nat):=by rw[A0T (by omega) (by omega)];omega
 have i1:((s.size-1:Nat):Int)<s.size:=by omega
 have i2:s.size-1<s.size:=by omega
 have i0:¬((s.size-1:Nat):Int)<0:=by omega
 have i3:((s.size-1:Nat):Int)<=s.size:=by omega
 simp -dsimp -implicitDefEqProofs[c,hw,i0,i1]
 refine A0f func375 (D5g gl (s.data.getD (s.size-1) 0) M1) ?_
 have d:(A7l (s.data.getD (s.size-1) 0).toNat<0)=(A5C (A1c s (s.size-1))=false):=C3m _
 generalize A7l (s.data.getD (s.size-1) 0).toNat=k at*
 cases c3:A5C (A1c s (s.size-1))with
 |false=>
  rw[c3]at d
  have k0:k<0:=by rw[d]
  simp -dsimp -implicitDefEqProofs[c,k0,A3q,h2,c2,c3,b]
 |true=>
  rw[c3]at d
  have k0:¬k<0:=by rw[d];simp
  simp -dsimp -implicitDefEqProofs[k0,i3]
  refine A4A (hf _ _) ?_
  rintro _ M3 ⟨rfl,rfl⟩
  by_cases c4:p (s.extract 0 (s.size-1))=true
  .have m:r<M3.length:=h;(have j:(M3.set r (A0l.cells 240 [AV.list 1 (A1b l) o,AV.val (.int .i64 (a:Int)),AV.val (.bool true)]))[r]?=some (A0l.cells 240 [AV.list 1 (A1b l) o,AV.val (.int .i64 (a:Int)),AV.val (.bool true)]):=by simp[m]);simp -dsimp -implicitDefEqProofs[c4,A0h hr,A0e,i3];simp -dsimp -implicitDefEqProofs[A0b j,A0h j,A0e,f,A3q,h2,c1,c2,c3,c4];rfl
  .simp -dsimp -implicitDefEqProofs[c4,A3q,h2,c1,c2,c3,b]
end
section
variable (gl:Nat->AV)
def C9E(a:ByteArray):D8x (WC gl) 332 [.cptr [S a]] (λs=>decide (s=a)):=λs M=>by
 refine A1Y func332 rfl rfl ?_;refine A0j hB func332 ?_;simp -dsimp -implicitDefEqProofs
 done
def D6h(l:List ByteArray)(o:Own)(w:ByteArray)(M:Mem)(hl:l.length<=1000000000):A0d (WC gl) 396 [.list 1 (A1b l) o,S w] M (λv M'=>v=I (C4j l w 0)/\M'=M):=by
 refine A0j hB func396 ?_;simp -dsimp -implicitDefEqProofs;refine A0v hB l.length 8 (λT M1=>∃i:Nat,M1=M/\i<=l.length/\T 0=.list 1 (A1b l) o/\T 1=S w/\T 7=I l.length/\T 8=I i/\C4j l w 0=C4j (l.drop i) w i) ?_ ?_
 .exact⟨0,rfl,by omega,by simp,by simp,by simp,by simp,by simp⟩
 rintro T M1 ⟨i,rfl,h1,t0,t1,t7,t8,h2⟩;by_cases hi:i<l.length
 .have a:(i:Int)<l.length:=by omega
  have hw:IntKind.i64.wrap ((i:Int)+1)=(i+1:Nat):=by rw[A0T (by omega) (by omega)];omega
  rw[Z0j hi,C4j]at h2;by_cases c:l[i]=w
  .rw[Z0d c]at h2;simp -dsimp -implicitDefEqProofs[t0,t1,t7,t8,a,hi,c,h2]
  .rw[Z0e c]at h2;have c':¬w=l[i]:=λe=>c e.symm;simp -dsimp -implicitDefEqProofs[t0,t1,t7,t8,a,hi,c',hw];exact⟨⟨i+1,by omega,rfl,h2⟩,by omega⟩
 .have a:¬(i:Int)<l.length:=by omega
  rw[Z0n (by omega),C4j]at h2;simp -dsimp -implicitDefEqProofs[t7,t8,a,h2]
def B8f(M:Mem):A0d (WC gl) 219 [] M (λv M'=>v=.list 1 (A1b A1I) .full/\M'=M):=by refine A0j hB func219 ?_;simp -dsimp -implicitDefEqProofs[A0p,A0Z,A1b,A1I]
def D3k(M:Mem):A0d (WC gl) 169 [] M (λv M'=>v=.list 1 (A1b A3J) .full/\M'=M):=by refine A0j hB func169 ?_;simp -dsimp -implicitDefEqProofs[A0p,A0Z,A1b,A3J]
end
section
variable (gl:Nat->AV)
def D1f(l:List ByteArray)(o:Own)(w:ByteArray)(M:Mem)(hl:l.length<=1000000000):A0d (WC gl) 377 [.list 1 (A1b l) o,S w] M (λv M'=>v=I (A2H l w)/\M'=M):=by
 refine A0j hB func377 ?_;by_cases c:w=⟨#[]⟩
 .simp -dsimp -implicitDefEqProofs[c,A2H]
 .simp -dsimp -implicitDefEqProofs[c];refine A0f func396 (D6h gl l o w M hl) ?_;simp -dsimp -implicitDefEqProofs;rw[A2H,Z0e c];split<;>omega
def C9X(l:List ByteArray)(o:Own)(hl:l.length<=1000000000):D8x (WC gl) 376 [.cptr [.list 1 (A1b l) o]] (λs=>decide (0<A2H l s)):=λs M=>by refine A1Y func376 rfl rfl ?_;refine A0j hB func376 ?_;simp -dsimp -implicitDefEqProofs;refine A0f func377 (D1f gl l o s M hl) ?_;simp -dsimp -implicitDefEqProofs
def B2w(l:List ByteArray)(o:Own)(hl:l.length<=1000000000)(c:∀s∈l,s.size<=maxLen)(b:ByteArray)(r:Nat)(a:Nat)(en:Bool)(M:Mem)(hr:Rd M r l o a en):A0d (WC gl) 251 [.ptr r 0,S b] M (λv M'=>v=B (A3q l (λs=>decide (s=b)) a en).1.isSome/\M'=M.set r (.cells 240 (A1B l o (A3q l (λs=>decide (s=b)) a en).2.1 (A3q l (λs=>decide (s=b)) a en).2.2))):=by
 refine A0j hB func251 ?_
 simp -dsimp -implicitDefEqProofs
 refine A0s func331 (B4S gl l o hl c _ r 332 _ (C9E gl b) a en M hr) ?_
 rintro _ M1 ⟨rfl,rfl⟩
 simp -dsimp -implicitDefEqProofs
def C5M(l:List ByteArray)(o:Own)(hl:l.length<=1000000000)(b:∀s∈l,s.size<=maxLen)(ks:List ByteArray)(o2:Own)(hk:ks.length<=100)(r:Nat)(a:Nat)(en:Bool)(M:Mem)(hr:Rd M r l o a en):A0d (WC gl) 333 [.ptr r 0,.list 1 (A1b ks) o2] M (λv M'=>v=.tuple [I (A2H ks ((A3q l (λs=>decide (0<A2H ks s)) a en).1.getD ⟨#[]⟩)),B (A3q l (λs=>decide (0<A2H ks s)) a en).1.isSome]/\M'=M.set r (.cells 240 (A1B l o (A3q l (λs=>decide (0<A2H ks s)) a en).2.1 (A3q l (λs=>decide (0<A2H ks s)) a en).2.2))):=by
 refine A0j hB func333 ?_
 simp -dsimp -implicitDefEqProofs
 refine A0s func331 (B4S gl l o hl b _ r 376 _ (C9X gl ks o2 (by omega)) a en M hr) ?_
 rintro _ M1 ⟨rfl,rfl⟩
 simp -dsimp -implicitDefEqProofs
 refine A0s func377 (D1f gl ks o2 _ _ (by omega)) ?_
 rintro _ M2 ⟨rfl,rfl⟩
 simp -dsimp -implicitDefEqProofs
end
section
variable (gl:Nat->AV)
def B8o:D8x (WC gl) 112 [] A0N:=λs M=>A1Y func112 rfl rfl (A4j (λ_=>trivial) (A9J gl M s))
@[simp] def E1T:A0D prog 159 []=some (.agg [I 0,S ⟨#[]⟩]):=by simp[A0D,A1l]
@[simp] def E1q{k}{t}:A0D prog 159 [(0,I k),(1,S t)]=some (.agg [I k,S t]):=by simp[A0D,A1l,A1H]
def A9t{M:Mem}{r:Nat}{l:List ByteArray}{o:Own}{a:Nat}{en:Bool}{X:A0l}(h:r<M.length):Rd (M.set r (.cells 240 (A1B l o a en))) r l o a en:=by simp[Rd,h]
def C6R(l:List ByteArray)(o:Own)(hl:l.length<=1000000000)(a9:∀s∈l,s.size<=maxLen)(ks:List ByteArray)(o2:Own)(hk:ks.length<=100)(r:Nat)(a:Nat)(en:Bool)(M:Mem)(hr:Rd M r l o a en):A0d (WC gl) 330 [.ptr r 0,.list 1 (A1b ks) o2] M (λv M'=>v=.tuple [.agg (match(A7m l (A2H ks) a en).1 with|some s=>s.row|none=>[I 0,S ⟨#[]⟩]),B (A7m l (A2H ks) a en).1.isSome]/\A0c (some r) M M'/\Rd M' r l o (A7m l (A2H ks) a en).2.1 (A7m l (A2H ks) a en).2.2):=by
 obtain⟨R,hR⟩:∃R,R=A7m l (A2H ks) a en:=⟨_,rfl⟩
 rw[<-hR]
 refine A0j hB func330 ?_
 have q:r<M.length:=(Z0b.1 hr).1
 obtain⟨M1,b⟩:∃M1,M1=M++[A0l.cells 159 [I 0,S ⟨#[]⟩],A0l.cells 240 (A1B l o a en)]:=⟨_,rfl⟩
 have k:Rd M1 r l o a en:=by unfold Rd;rw[b,Z0h q];exact hr
 have a4:(M++[A0l.cells 159 [I 0,S ⟨#[]⟩]])[r]?=some (.cells 240 (A1B l o a en)):=by rw[Z0h q];exact hr
 have y:M1[M.length]?=some (.cells 159 [I 0,S ⟨#[]⟩]):=by rw[b];simp
 have a6:M1[M.length+1]?=some (.cells 240 (A1B l o a en)):=by rw[b];simp
 have w:A0c (some r) M M1:=by rw[b];exact .app _ _ _
 simp -dsimp -implicitDefEqProofs[A0m,A0b a4,A0n,A0e]
 rw[<-b]
 clear a4 b
 refine A0s func333 (C5M gl l o hl a9 ks o2 hk r a en M1 k) ?_
 rintro _ M2 ⟨rfl,rfl⟩
 have g:r<M1.length:=(Z0b.1 k).1
 have h:A7m l (A2H ks) a en=match A3q l (λs=>decide (0<A2H ks s)) a en with
  |(none,_,_)=>(none,a,en)
  |(some s,a1,f)=>match A3q l A0N a1 f with
   |(none,_,_)=>(none,a,en)
   |(some t,a2,en2)=>(some ⟨A2H ks s,t⟩,a2,en2):=rfl
 rw[h]at hR
 clear h
 rcases hw:A3q l (λs=>decide (0<A2H ks s)) a en with⟨w1,a1,f⟩
 rw[hw]at hR
 have z:=@A9t M1 r l o a1 f .gone g
 have d:r≠M.length:=by omega
 have a7:r≠M.length+1:=by omega
 simp -dsimp -implicitDefEqProofs
 refine A0s func331 (B4S gl l o hl a9 A0N r 112 [] (B8o gl) a1 f _ z) ?_
 rintro _ M3 ⟨rfl,rfl⟩
 rcases hw2:A3q l A0N a1 f with⟨w2,a2,en2⟩
 simp only[Z2h]
 have m:=@A9t M1 r l o a2 en2 .gone g
 have a8:A0c (some r) M (M1.set r (.cells 240 (A1B l o a2 en2))):=w.trans (.set _ _ _)
 have j:(M1.set r (.cells 240 (A1B l o a2 en2)))[M.length]?=some (.cells 159 [I 0,S ⟨#[]⟩]):=by rw[Z0f d];exact y
 have a0:(M1.set r (.cells 240 (A1B l o a2 en2)))[M.length+1]?=some (.cells 240 (A1B l o a en)):=by rw[Z0f a7];exact a6
 generalize M1.set r (.cells 240 (A1B l o a2 en2))=M3 at*
 have e:M.length<M3.length:=(Z0b.1 j).1
 have u:Rd (M3.set r (.cells 240 (A1B l o a en))) r l o a en:=@A9t M3 r l o a en .gone (by omega)
 have a3:(M3.set r (.cells 240 (A1B l o a en)))[M.length]?=some (.cells 159 [I 0,S ⟨#[]⟩]):=by rw[Z0f d];exact j
 have a5:A0c (some r) M (M3.set r (.cells 240 (A1B l o a en))):=a8.trans (.set _ _ _)
 have c:∀(M4:Mem) (X:List AV) (a':Nat) (p:Bool),Rd M4 r l o a' p->A0c (some r) M M4->A0c (some r) M (M4.set M.length (.cells 159 X))/\Rd (M4.set M.length (.cells 159 X)) r l o a' p:=λM4 X a' p h1 h2=>by
  refine⟨⟨by simpa using h2.1,λi hi ho=>?_⟩,?_⟩
  .rw[Z0f (by omega)];exact h2.2 i hi ho
  .unfold Rd;rw[Z0f d.symm];exact h1
 clear w k y a6 z
 cases w1 with
 |none=>
  simp only at hR
  subst hR
  have hq:=c _ [I 0,S ⟨#[]⟩] a en u a5
  simp -dsimp -implicitDefEqProofs[A0b a0,A0h m,A0e]
  simp -dsimp -implicitDefEqProofs[A0h a3,A0e,A0y,e,A0k]
  exact hq
 |some s=>
  simp only[hw2]at hR
  cases w2 with
  |none=>
   simp only at hR
   subst hR
   have hq:=c _ [I 0,S ⟨#[]⟩] a en u a5
   simp -dsimp -implicitDefEqProofs[A0b a0,A0h m,A0e]
   simp -dsimp -implicitDefEqProofs[A0h a3,A0e,A0y,e,A0k]
   exact hq
  |some t=>
   simp only at hR
   subst hR
   have hq:=c _ [I (A2H ks s),S t] a2 en2 m a8
   simp -dsimp -implicitDefEqProofs[A0h j,A0e,A0y,e,A0k,A0I.row]
   exact hq
end
def A1z(r:Nat)(b:Option Nat)(M M':Mem):Prop:=M.length<=M'.length/\∀i,i<M.length->i≠r->b≠some i->M'[i]?=M[i]?
def A1z.refl(r:Nat)(b:Option Nat)(M:Mem):A1z r b M M:=⟨Z0o _,λ_ _ _ _=>rfl⟩
def A1z.step{r}{b c}{M M1 M2}(h:A1z r b M M1)(k:A1z r c M1 M2)(hc:∀i,c=some i->i<M.length->b=some i):A1z r b M M2:=⟨Z0S h.1 k.1,λi hi h1 h2=>(k.2 i (Z1r hi h.1) h1 λe=>h2 (hc i e hi)).trans (h.2 i hi h1 h2)⟩
def A1z.of_r{r}{b}{M M'}(h:A0c (some r) M M'):A1z r b M M':=⟨h.1,λi hi h1 _=>h.2 i hi λe=>h1 (by simpa using e.symm)⟩
def A1z.of_b{r}{b}{M M'}(h:A0c b M M'):A1z r b M M':=⟨h.1,λi hi _ h2=>h.2 i hi h2⟩
def lenV(v:AV):Nat:=match v with
 |.vref _ _ _ _ n=>n
 |_=>0
def A1n.lenV{α:Type}{e sz}{enc:α->List AV}{M}{v}{l}(h:A1n e sz enc M v l):lenV v=l.length:=by rcases h with⟨rfl,rfl⟩|⟨f,g,a,rfl,_⟩<;>rfl
def C3C(l:List ByteArray)(o:Own)(r a:Nat)(en:Bool)(b:Option Nat)(n:Nat)(M M':Mem):Prop:=∃en',Rd M' r l o (a+n) en'/\A1f l (a+n) en'=(A1f l a en).drop n/\A1z r b M M'
def D9z(l:List ByteArray)(o:Own)(r a:Nat)(en:Bool)(n:Nat)(b:Option Nat)(P:List A0I)(M:Mem)(q:List A0I)(M1:Mem):Prop:=∃en1,Rd M1 r l o (a+2*q.length) en1/\A1f l (a+2*q.length) en1=(A1f l a en).drop (2*q.length)/\P=q++prs (9-n-q.length) (A1f l (a+2*q.length) en1)/\A1z r b M M1
section
variable (gl:Nat->AV)
def C4y(l:List ByteArray)(o:Own)(hl:l.length<=1000000000)(aa:∀s∈l,s.size<=maxLen)(r:Nat)(a:Nat)(en:Bool)(p:List A0I)(v0:AV)(M:Mem)(hr:Rd M r l o a en)(hv:A1n 159 2 A0I.row M v0 p)(hp:p.length<=9)(a5:obj v0≠some r):A0d (WC gl) 329 [.ptr r 0,v0] M (λv M'=>A1n 159 2 A0I.row M' v (p++prs (9-p.length) (A1f l a en))/\C3C l o r a en (obj v0) (2*(prs (9-p.length) (A1f l a en)).length) M M'/\(obj v=obj v0\/A1r M.length v)):=by
 obtain⟨P,hP⟩:∃P,P=prs (9-p.length) (A1f l a en):=⟨_,rfl⟩
 rw[<-hP]
 refine A0j (hQ [21]) func329 ?_
 simp -dsimp -implicitDefEqProofs
 refine A3e (hQ [21]) (λT M1=>∃(q:List A0I) (vq:AV),T 0=.ptr r 0/\T 1=vq/\A1n 159 2 A0I.row M1 vq (p++q)/\p.length+q.length<=9/\D9z l o r a en p.length (obj v0) P M q M1/\(obj vq=obj v0\/A1r M.length vq)/\obj vq≠some r) (λT M1=>10-lenV (T 1)) (by kernel_rfl) ?_ ?_
 .exact⟨[],v0,by simp,by simp,by simpa using hv,by simpa using hp,⟨en,by simpa using hr,by simp,by simpa using hP,.refl _ _ _⟩,.inl rfl,a5⟩
 rintro T M1 ⟨q,vq,t0,t1,h1,h2,⟨d,h3,h4,h5,h6⟩,h7,h8⟩
 have m:=h1.len (P:=prog) (t:=40) (e':=159) (by kernel_rfl)
 have ab:r<M1.length:=(Z0b.1 h3).1
 have ad:=h1.lenV
 rw[Z0v]at m ad
 by_cases c:p.length+q.length<9
 .have c':(p.length:Int)+q.length<9:=by omega
  simp -dsimp -implicitDefEqProofs[t0,t1,m,c'];refine A0s func219 (B8f gl M1) ?_;rintro _ M2 ⟨rfl,rfl⟩;simp -dsimp -implicitDefEqProofs[];refine A0s func330 (C6R gl l o hl aa A1I .full (by decide) r _ d M2 h3) ?_;rintro _ M3 ⟨rfl,hk,k⟩;have z:=@C1d l kS C5G (a+2*q.length) d;rcases z with⟨s,t,w',e1,e2,e3,u,e4,e5⟩|⟨e1,e2⟩
  .have a9:A7m l (A2H A1I) (a+2*q.length) d=(some ⟨kS s,t⟩,a+2*q.length+2,u):=e4;rw[a9]at k|-;obtain⟨M4,w⟩:∃M4,M4=M3++[A0l.cells 159 [I (kS s),S t]]:=⟨_,rfl⟩;(have a7:M4[M3.length]?=some (A0l.cells 159 [I (kS s),S t]):=by rw[w];simp);have j:A0c (some r) M2 M4:=hk.trans (by rw[w];exact .app _ _ _);(have y:Rd M4 r l o (a+2*q.length+2) u:=by unfold Rd;rw[w,Z0h (by have:=(Z0b.1 k).1;exact this)];exact k);have a0:A1n 159 2 A0I.row M4 vq (p++q):=h1.keep j (λf hf e=>h8 (by rw[hf];exact e.symm));simp -dsimp -implicitDefEqProofs[t1,A0m,A0n,A0e,A0I.row];rw[<-w];simp -dsimp -implicitDefEqProofs[A0b a7,A0p,A0Z];refine A3V (C:=WC gl) (enc:=A0I.row) (e:=159) (sz:=2) (news:=[⟨kS s,t⟩]) B5t C1e B5B (λ_=>rfl) a0 (by simp[A0z,A0I.row]) (by simp;omega) rfl ?_;intro v' M5 k1 k2 k3 _;have a3:Rd M5 r l o (a+2*q.length+2) u:=k2.get y h8;(have a4:P=(q++[⟨kS s,t⟩])++prs (9-p.length-(q.length+1)) w':=by rw[h5,e1,show 9-p.length-q.length=(9-p.length-(q.length+1))+1 from by omega,D5d ⟨e2,e3⟩,Z0X];rfl);(have a1:A1f l (a+2*(q.length+1)) u=w':=by rw[show a+2*(q.length+1)=a+2*q.length+2 from by omega];exact e5);(have hdr:w'=(A1f l a en).drop (2*(q.length+1)):=by rw[show 2*(q.length+1)=2*q.length+2 from by omega,<-Z1Y,<-h4,e1];rfl);have af:=k1.lenV;have ae:M2.length<=M4.length:=j.1;simp -dsimp -implicitDefEqProofs[t0,t1];have a6:obj v'≠some r:=λe=>by
    rcases k3 with h|h
    .exact h8 (h▸e)
    .have:=h _ e;have:=ae;omega
   have a8:obj v'=obj v0\/A1r M.length v':=by
    rcases k3 with h|h
    .rcases h7 with g|g
     .exact .inl (h.trans g)
     .exact .inr λf hf=>g f (h▸hf)
    .exact .inr λf hf=>by have:=h f hf;have:=h6.1;omega
   have ac:A1z r (obj v0) M M5:=by
    refine(h6.step (A1z.of_r (b:=none) j) (by simp)).step (A1z.of_b k2) λi hi ab=>?_;rcases h7 with g|g
    .rw[<-g];exact hi
    .have:=g i hi;omega
   refine⟨⟨q++[⟨kS s,t⟩],by simpa using k1,by simp;omega,⟨u,?_,?_,?_,ac⟩,a8,a6⟩,?_⟩
   .simpa[show a+2*(q.length+1)=a+2*q.length+2 from by omega]using a3
   .simp only[Z0v,Z0C,Z1G,Z0I];rw[a1,hdr]
   .simp only[Z0v,Z0C,Z1G,Z0I];rw[a1];exact a4
   .simp at af;omega
  .have a2:A7m l (A2H A1I) (a+2*q.length) d=(none,a+2*q.length,d):=e2;rw[a2]at k|-;have z:prs (9-p.length-q.length) (A1f l (a+2*q.length) d)=[]:=D3V e1;rw[z,Z1F]at h5;subst h5;have j:A0c (some r) M2 (M3++[A0l.cells 159 [I 0,S ⟨#[]⟩]]):=hk.trans (.app _ _ _);(have y:Rd (M3++[A0l.cells 159 [I 0,S ⟨#[]⟩]]) r l o (a+2*P.length) d:=by unfold Rd;rw[Z0h (by have:=(Z0b.1 k).1;exact this)];exact k);have a0:A1n 159 2 A0I.row (M3++[A0l.cells 159 [I 0,S ⟨#[]⟩]]) vq (p++P):=h1.keep j (λf hf e=>h8 (by rw[hf];exact e.symm));simp -dsimp -implicitDefEqProofs[t1,A0m,A0n,A0e];exact⟨a0,⟨d,y,h4,h6.step (A1z.of_r (b:=none) j) (by simp)⟩,h7⟩
 .have c':¬(p.length:Int)+q.length<9:=by omega
  have hz:prs (9-p.length-q.length) (A1f l (a+2*q.length) d)=[]:=by rw[show 9-p.length-q.length=0 from by omega];cases A1f l (a+2*q.length) d<;>simp[prs]
  rw[hz,Z1F]at h5;subst h5;simp -dsimp -implicitDefEqProofs[t1,m,c'];exact⟨h1,⟨d,h3,h4,h6⟩,h7⟩
end
section
variable (gl:Nat->AV)
def C4x(l:List ByteArray)(o:Own)(hl:l.length<=1000000000)(q:∀s∈l,s.size<=maxLen)(r:Nat)(a:Nat)(en:Bool)(M:Mem)(hr:Rd M r l o a en):A0d (WC gl) 248 [.ptr r 0] M (λv M'=>A1n 159 2 A0I.row M' v (A2O (A1f l a en))/\C3C l o r a en none (A1d (A1f l a en)) M M'/\A1r M.length v):=by
 refine A0j (hQ [9]) func248 ?_
 simp -dsimp -implicitDefEqProofs
 refine A0s func251 (B2w gl l o hl q A3z r a en M hr) ?_
 rintro _ M1 ⟨rfl,rfl⟩
 have d:r<M.length:=(Z0b.1 hr).1
 rcases A8a (l:=l) (a:=a) (en:=en) A3T.2.2.2.2.2.1 with⟨w,e1,c,e2,e3⟩|⟨e1,e2⟩
 .rw[e2];have hb:bkN (A1f l a en)=1:=by rw[e1];simp[bkN]
  have k:bkS (A1f l a en)=[A3k]:=by simp[bkS,hb]
  have hdr:(A1f l a en).drop 1=w:=by rw[e1];rfl
  have m:=@A9t M r l o (a+1) c .gone d;have b:A0c (some r) M (M.set r (.cells 240 (A1B l o (a+1) c))):=.set _ _ _;generalize M.set r (.cells 240 (A1B l o (a+1) c))=M1 at*;simp -dsimp -implicitDefEqProofs[A0p,A0Z];refine A3V (C:=WC gl) (enc:=A0I.row) (e:=159) (sz:=2) (l:=[]) (news:=[A3k]) B5t C1e B5B (λ_=>rfl) .nil (by simp[A0z,A0I.row,A3k]) (by simp) rfl ?_;intro v' M2 k1 k2 k3 _;have t:Rd M2 r l o (a+1) c:=k2.get m (by simp);have u:obj v'≠some r:=λe=>by
   rcases k3 with h|h
   .rw[h]at e;simp at e
   .have:=h _ e;have:=b.1;omega
  simp -dsimp -implicitDefEqProofs;refine A0s func329 (C4y gl l o hl q r (a+1) c [A3k] v' M2 t (by simpa using k1) (by simp) u) ?_;rintro v M3 ⟨q1,⟨en2,q2,q3,q4⟩,q5⟩;have j:A2O (A1f l a en)=[A3k]++prs (9-[A3k].length) (A1f l (a+1) c):=by unfold A2O;rw[k,hb,hdr,e3];rfl
  have p:A1d (A1f l a en)=1+2*(prs (9-[A3k].length) (A1f l (a+1) c)).length:=by unfold A1d;rw[hb,hdr,e3];rfl
  simp -dsimp -implicitDefEqProofs;rw[j,p];refine⟨q1,⟨en2,by rw[<-Z2r];exact q2,by rw[<-Z2r,q3,e3,e1,Z4a 1];rfl,?_⟩,?_⟩
  .refine((A1z.of_r b).step (A1z.of_b k2) (by simp)).step q4 λi hi d=>?_;rcases k3 with h|h
   .rw[h]at hi;simp at hi
   .have:=h i hi;have:=b.1;omega
  .intro f hf;have y:=b.1;have z:=k2.1;rcases q5 with g|g
   .rw[g]at hf;rcases k3 with h|h
    .rw[h]at hf;simp at hf
    .have:=h f hf;omega
   .have:=g f hf;omega
 .rw[e2];have hb:bkN (A1f l a en)=0:=by
   cases hs:A1f l a en with
   |nil=>rfl
   |cons s w=>simp only[bkN];rw[Z0e λe=>e1 w (by rw[hs,e])]
  have k:bkS (A1f l a en)=[]:=by simp[bkS,hb]
  have m:=@A9t M r l o a en .gone d;have b:A0c (some r) M (M.set r (.cells 240 (A1B l o a en))):=.set _ _ _;generalize M.set r (.cells 240 (A1B l o a en))=M1 at*;simp -dsimp -implicitDefEqProofs;refine A0s func329 (C4y gl l o hl q r a en [] _ M1 m .nil (by simp) (by simp)) ?_;rintro v M3 ⟨q1,⟨en2,q2,q3,q4⟩,q5⟩;have j:A2O (A1f l a en)=[]++prs (9-([]:List A0I).length) (A1f l a en):=by unfold A2O;rw[k,hb];rfl
  have p:A1d (A1f l a en)=2*(prs (9-([]:List A0I).length) (A1f l a en)).length:=by unfold A1d;rw[hb,Z0I];rfl
  simp -dsimp -implicitDefEqProofs;rw[j,p];refine⟨q1,⟨en2,q2,q3,(A1z.of_r b).step q4 (by simp)⟩,?_⟩;intro f hf;have y:=b.1;rcases q5 with g|g
  .rw[g]at hf;simp at hf
  .have:=g f hf;omega
end
def D6e(l:List ByteArray)(o:Own)(r:Nat)(M M':Mem):Prop:=(∃a en,Rd M' r l o a en)/\A1z r none M M'
def C8C(l:List ByteArray)(o:Own)(r a:Nat)(en:Bool)(M:Mem)(v:AV)(M':Mem):Prop:=(∃p n,A2y (A1f l a en)=some (p,n)/\A1n 159 2 A0I.row M' v p/\C3C l o r a en none n M M'/\A1r M.length v)\/(A2y (A1f l a en)=none/\v=.val (.slice none 0 0)/\D6e l o r M M')
section
variable (gl:Nat->AV)
@[simp] def E1k{k}:A0D prog 159 [(0,I k)]=some (.agg [I k,S ⟨#[]⟩]):=by simp[A0D,A1l,A1H]
def B8H{k}{M}:A1C prog 40 1 [(0,.agg [I k,S ⟨#[]⟩])] M=some (.vref M.length 0 2 0 1,M++[.vec 159 2 [I k,S ⟨#[]⟩] 0 [(0,1)]]):=by simp[A1C,A0Z,AV.storable,AV.cells]
def C1I(l:List ByteArray)(o:Own)(hl:l.length<=1000000000)(t:∀s∈l,s.size<=maxLen)(r:Nat)(a:Nat)(en:Bool)(M:Mem)(hr:Rd M r l o a en):A0d (WC gl) 252 [.ptr r 0] M (C8C l o r a en M):=by
 have j:r<M.length:=(Z0b.1 hr).1
 refine A0j (hQ [16]) func252 ?_
 simp -dsimp -implicitDefEqProofs
 refine A0s func219 (B8f gl M) ?_
 rintro _ M1 ⟨rfl,rfl⟩
 simp -dsimp -implicitDefEqProofs
 refine A0s func333 (C5M gl l o hl t A1I .full (by decide) r a en M1 hr) ?_
 rintro _ M2 ⟨rfl,rfl⟩
 rcases D1R (l:=l) (a:=a) (en:=en) C5G with⟨s,w,e1,e2,c,e3,e4⟩|⟨e1,e3⟩
 .have m:A3q l (λs=>decide (0<A2H A1I s)) a en=(some s,a+1,c):=e3;rw[m];have h:=@A9t M1 r l o (a+1) c .gone j;have e:A0c (some r) M1 (M1.set r (.cells 240 (A1B l o (a+1) c))):=.set _ _ _;generalize M1.set r (.cells 240 (A1B l o (a+1) c))=M2 at*;simp -dsimp -implicitDefEqProofs[B8H];obtain⟨M3,d⟩:∃M3,M3=M2++[.vec 159 2 [I (A2H A1I s),S ⟨#[]⟩] 0 [(0,1)]]:=⟨_,rfl⟩;rw[<-d];have hv:A1n 159 2 A0I.row M3 (.vref M2.length 0 2 0 1) [⟨kS s,⟨#[]⟩⟩]:=.inr ⟨M2.length,0,[(0,1)],rfl,by rw[d];simp[A0I.row,kS],rfl⟩;have q:A0c (some r) M2 M3:=by rw[d];exact .app _ _ _
  have p:r<M2.length:=(Z0b.1 h).1;have u:Rd M3 r l o (a+1) c:=by unfold Rd;rw[d,Z0h p];exact h
  have y:=e.1;clear d;refine A0s func329 (C4y gl l o hl t r (a+1) c [⟨kS s,⟨#[]⟩⟩] _ M3 u hv (by simp) (by simp;omega)) ?_;rintro v M4 ⟨q1,⟨en2,q2,q3,q4⟩,q5⟩;rw[e4]at q1 q2 q3;have k:A2y (A1f l a en)=some (⟨kS s,⟨#[]⟩⟩::prs 8 w,1+2*(prs 8 w).length):=by rw[e1];simp only[A2y];rw[Z0d e2]
  simp -dsimp -implicitDefEqProofs;refine .inl ⟨_,_,k,q1,⟨en2,by rw[<-Z2r];exact q2,by rw[<-Z2r];refine q3.trans ?_;rw[e1,Z4a 1];rfl,?_⟩,?_⟩
  .refine((A1z.of_r e).step (A1z.of_r (b:=none) q) (by simp)).step q4 λi hi j=>?_;simp at hi;omega
  .intro f hf;have:=q.1;rcases q5 with g|g
   .rw[g]at hf;simp at hf;omega
   .have:=g f hf;omega
 .have m:A3q l (λs=>decide (0<A2H A1I s)) a en=(none,a,en):=e3;rw[m];have h:=@A9t M1 r l o a en .gone j;have e:A0c (some r) M1 (M1.set r (.cells 240 (A1B l o a en))):=.set _ _ _;have k:A2y (A1f l a en)=none:=by
   cases hs:A1f l a en with
   |nil=>rfl
   |cons s w=>simp only[A2y];rw[Z0e (e1 s w hs)]
  simp -dsimp -implicitDefEqProofs;exact .inr ⟨k,rfl,⟨a,en,h⟩,.of_r e⟩
end
abbrev A0i:AV:=.val (.slice none 0 0)
def D3K(l:List ByteArray)(o:Own)(r a:Nat)(en:Bool)(M:Mem)(v:AV)(M':Mem):Prop:=
 (∃s d vp,A3Y ((A1f l a en).drop (A1d (A1f l a en)))=some (s,d)/\v=.agg [I 1,vp,S d,I 0,I 0]/\A1n 159 2 A0I.row M' vp (A2O (A1f l a en)++[s])/\A1r M.length vp/\C3C l o r a en none (A1d (A1f l a en)+4) M M')\/
 (A3Y ((A1f l a en).drop (A1d (A1f l a en)))=none/\∃vp p,v=.agg [I 1,vp,S ⟨#[]⟩,I 0,I 0]/\A1n 159 2 A0I.row M' vp p/\A1r M.length vp/\p.length<=10/\D6e l o r M M')
structure D2C (l:List ByteArray) (o:Own) (r:Nat) (M:Mem) (c:Nat) (v1:AV) (p:List A0I) (a':Nat) (en':Bool) (Mi:Mem):Prop where
 rd:Rd Mi r l o a' en'
 res:Mi[M.length]?=some (.cells 110 [I 0,A0i,S ⟨#[]⟩,I 0,I 0])
 cc:Mi[c]?=some (.cells 110 [I 1,v1,S ⟨#[]⟩,I 0,I 0])
 own:A1n 159 2 A0I.row Mi v1 p
 lat:∀f,obj v1=some f->M.length<f/\f<c
 kp:A1z r none M Mi
 lt:r<M.length/\M.length<c
def D2C.next{l}{o}{r}{M}{c}{v1}{p}{a' a2}{en' en2}{Mi Mj}(h:D2C l o r M c v1 p a' en' Mi)(k:A0c (some r) Mi Mj)(hr:Rd Mj r l o a2 en2):D2C l o r M c v1 p a2 en2 Mj:=by have a:=h.lt;exact⟨hr,k.get h.res (by simp;omega),k.get h.cc (by simp;omega),h.own.keep k λf hf e=>by have:=h.lat f hf;simp at e;omega,h.lat,h.kp.step (A1z.of_r (b:=none) k) (by simp),a⟩
def D2C.fail{l}{o}{r}{M}{c}{v1}{p}{a'}{en'}{Mi}(h:D2C l o r M c v1 p a' en' Mi){X}:A1n 159 2 A0I.row (Mi.set M.length (.cells 110 X)) v1 p/\A1r M.length v1/\D6e l o r M (Mi.set M.length (.cells 110 X)):=by
 have a:=h.lt
 refine⟨h.own.keep (.set _ _ _) λf hf e=>by have:=h.lat f hf;simp at e;omega,λf hf=>by have:=h.lat f hf;omega,⟨a',en',?_⟩,?_⟩
 .unfold Rd;rw[Z0f (by omega)];exact h.rd
 .refine⟨by simpa using h.kp.1,λi hi h1 h2=>?_⟩;rw[Z0f (by omega)];exact h.kp.2 i hi h1 h2
section
variable (gl:Nat->AV)
@[simp] def A8b{k}{v}{M}{p}(h:A1n 159 2 A0I.row M v p):A0D prog 110 [(0,I k),(1,v)]=some (.agg [I k,v,S ⟨#[]⟩,I 0,I 0]):=by
 rcases h with⟨rfl,_⟩|⟨f,g,a,rfl,_⟩<;>simp[A0D,A1l,A1H,AV.cells,AV.storable]
def D6Y(l:List ByteArray)(o:Own)(hl:l.length<=1000000000)(ae:∀s∈l,s.size<=maxLen)(r:Nat)(a:Nat)(en:Bool)(M:Mem)(hr:Rd M r l o a en):A0d (WC gl) 249 [.ptr r 0] M (D3K l o r a en M):=by
 have ap:r<M.length:=(Z0b.1 hr).1
 refine A0j (hQ [27]) func249 ?_
 obtain⟨M0,a5⟩:∃M0,M0=M++[A0l.cells 110 [I 0,A0i,S ⟨#[]⟩,I 0,I 0]]:=⟨_,rfl⟩
 have p:Rd M0 r l o a en:=by unfold Rd;rw[a5,Z0h ap];exact hr
 have au:M0[M.length]?=some (A0l.cells 110 [I 0,A0i,S ⟨#[]⟩,I 0,I 0]):=by rw[a5];simp
 have ay:M0.length=M.length+1:=by rw[a5];simp
 have aq:A1z r none M M0:=by rw[a5];exact .of_r (.app _ _ _)
 simp -dsimp -implicitDefEqProofs[A0m]
 rw[<-a5]
 clear a5
 refine A0s func248 (C4x gl l o hl ae r a en M0 p) ?_
 rintro v1 M1 ⟨q1,⟨y,q2,q3,q4⟩,q5⟩
 obtain⟨w,hw⟩:∃w,w=A1f l a en:=⟨_,rfl⟩
 rw[<-hw]at q1 q2 q3
 have bf:=B8F w
 have bc:(A2O w).length<=9:=by have:=A3S (9-bkN w) (w.drop (bkN w));have hb:=B6c w;unfold A2O;rw[Z0v,B0S];omega
 obtain⟨c,hc⟩:∃c,c=M1.length:=⟨_,rfl⟩
 have b8:M.length<c:=by have:=q4.1;omega
 have b5:=q1.store
 have b7:=q1.cells
 have ab:D2C l o r M c v1 (A2O w) (a+A1d w) y (M1++[A0l.cells 110 [I 1,v1,S ⟨#[]⟩,I 0,I 0]]):=by
  have al:A0c (some r) M1 (M1++[A0l.cells 110 [I 1,v1,S ⟨#[]⟩,I 0,I 0]]):=.app _ _ _;refine⟨?_,?_,?_,q1.keep al ?_,?_,(aq.step q4 (by simp)).step (A1z.of_r (b:=none) al) (by simp),ap,b8⟩
  .unfold Rd;rw[Z0h (by have:=q4.1;omega)];exact q2
  .rw[Z0h (by have:=q4.1;omega),q4.2 _ (by omega) (by omega) (by simp)];exact au
  .rw[hc];simp
  .intro f hf e;have:=q5 f hf;simp at e;omega
  .intro f hf;have:=q5 f hf;have:=q1.lt hf;omega
 simp -dsimp -implicitDefEqProofs[A8b q1,A0m,A0n,A0e]
 rw[<-hc]
 clear b7 b5 q1 q2 q4 q5 p au ay aq
 generalize M1++[A0l.cells 110 [I 1,v1,S ⟨#[]⟩,I 0,I 0]]=M2 at*
 clear hc
 refine A0s func169 (D3k gl M2) ?_
 rintro _ M3 ⟨rfl,rfl⟩
 simp -dsimp -implicitDefEqProofs
 refine A0s func330 (C6R gl l o hl ae A3J .full (by decide) r _ y M3 ab.rd) ?_
 rintro _ M4 ⟨rfl,aj,a2⟩
 have ai:(∀s t r,A1f l (a+A1d w) y=s::t::r->¬(0<kP s/\A0N t=true))->A3Y (w.drop (A1d w))=none:=λh=>by
  rw[<-q3];unfold A3Y;split
  .rename_i s t c d r e;rw[Z0e λhh=>h s t _ e ⟨hh.1,hh.2.1⟩]
  .rfl
 rcases C1d (l:=l) (a:=a+A1d w) (en:=y) D5D with⟨s,t,w',e1,e2,e3,z,e4,e5⟩|⟨e1,e2⟩
 .have b2:A7m l (A2H A3J) (a+A1d w) y=(some ⟨kP s,t⟩,a+A1d w+2,z):=e4;rw[b2]at a2|-;obtain⟨M5,m⟩:∃M5,M5=M4++[A0l.cells 159 [I (kP s),S t]]:=⟨_,rfl⟩;have an:M5[M4.length]?=some (A0l.cells 159 [I (kP s),S t]):=by rw[m];simp
  have a1:Rd M5 r l o (a+A1d w+2) z:=by unfold Rd;rw[m,Z0h (by have:=(Z0b.1 a2).1;exact this)];exact a2
  have k:=ab.next (aj.trans (by rw[m];exact .app _ _ _)) a1;have bb:c<M4.length:=by have:=(Z0b.1 ab.cc).1;have:=aj.1;omega
  simp -dsimp -implicitDefEqProofs[A0m,A0n,A0e,A0I.row];rw[<-m];generalize hx:M4.length=x at*;clear m;refine A0s func251 (B2w gl l o hl ae toW r _ z M5 a1) ?_;rintro _ M6 ⟨rfl,rfl⟩;have a0:r<M5.length:=(Z0b.1 a1).1;rcases A8a (l:=l) (a:=a+A1d w+2) (en:=z) A3T.2.2.2.2.1 with⟨w2,g1,en2,g2,g3⟩|⟨g1,g2⟩
  .rw[g2];have bd:=k.lt;have af:=@A9t M5 r l o (a+A1d w+2+1) en2 .gone a0;have j:=k.next (.set M5 r (.cells 240 (A1B l o (a+A1d w+2+1) en2))) af;(have b0:(M5.set r (.cells 240 (A1B l o (a+A1d w+2+1) en2)))[x]?=some (A0l.cells 159 [I (kP s),S t]):=by rw[Z0f (by omega)];exact an);generalize M5.set r (.cells 240 (A1B l o (a+A1d w+2+1) en2))=M6 at*;have bg:c<M6.length:=(Z0b.1 j.cc).1;simp -dsimp -implicitDefEqProofs[A0b j.cc,A0b b0,A0p,A0Z];refine A3V (C:=WC gl) (enc:=A0I.row) (e:=159) (sz:=2) (news:=[⟨kP s,t⟩]) B5t C1e B5B (λ_=>rfl) j.own (by simp[A0z,A0I.row]) (by simp;omega) rfl ?_;intro v2 M7 k1 k2 k3 _;have u:=j.lat;have a8:∀f,obj v2=some f->M.length<f/\f≠c:=λf hf=>by
    rcases k3 with h|h
    .have:=u f (h▸hf);omega
    .have:=h f hf;omega
   (have ao:M7[c]?=some (.cells 110 [I 1,v1,S ⟨#[]⟩,I 0,I 0]):=k2.get j.cc λe=>by have:=u c e;omega);have b3:Rd M7 r l o (a+A1d w+2+1) en2:=k2.get j.rd λe=>by have:=u r e;omega
   (have b1:M7[M.length]?=some (.cells 110 [I 0,A0i,S ⟨#[]⟩,I 0,I 0]):=k2.get j.res λe=>by have:=u _ e;omega);have ag:A1z r none M M7:=⟨Z0S j.kp.1 k2.1,λi hi h1 h2=>by rw[k2.2 i (by have:=j.kp.1;omega) λe=>by have:=u i e;omega];exact j.kp.2 i hi h1 h2⟩
   obtain⟨f2,b6,n2,rfl⟩:∃f g n,v2=.vref f g 2 0 n:=by
    rcases k1 with⟨rfl,hn⟩|⟨f,g,ba,rfl,_⟩
    .simp at hn
    .exact⟨f,g,_,rfl⟩
   generalize q:AV.vref f2 b6 2 0 n2=v2 at*;clear ab k an a1 af;rw[<-q];simp -dsimp -implicitDefEqProofs[A0h ao,A0e];rw[q];(have av:(M7.set c (.cells 110 [I 1,v2,S ⟨#[]⟩,I 0,I 0]))[c]?=some (.cells 110 [I 1,v2,S ⟨#[]⟩,I 0,I 0]):=by have:=(Z0b.1 ao).1;simp[this]);(have ar:Rd (M7.set c (.cells 110 [I 1,v2,S ⟨#[]⟩,I 0,I 0])) r l o (a+A1d w+2+1) en2:=by unfold Rd;rw[Z0f (by omega)];exact b3);(have b9:(M7.set c (.cells 110 [I 1,v2,S ⟨#[]⟩,I 0,I 0]))[M.length]?=some (.cells 110 [I 0,A0i,S ⟨#[]⟩,I 0,I 0]):=by rw[Z0f (by omega)];exact b1);(have az:A1n 159 2 A0I.row (M7.set c (.cells 110 [I 1,v2,S ⟨#[]⟩,I 0,I 0])) v2 (A2O w++[⟨kP s,t⟩]):=k1.keep (.set _ _ _) λf hf e=>by have:=a8 f hf;simp at e;omega);have ah:A1z r none M (M7.set c (.cells 110 [I 1,v2,S ⟨#[]⟩,I 0,I 0])):=⟨by simpa using ag.1,λi hi h1 h2=>by rw[Z0f (by omega)];exact ag.2 i hi h1 h2⟩;generalize M7.set c (.cells 110 [I 1,v2,S ⟨#[]⟩,I 0,I 0])=M8 at*;have aw:r<M8.length:=(Z0b.1 ar).1;have am:c<M8.length:=(Z0b.1 av).1;refine A0s func331 (B4S gl l o hl ae A0N r 112 [] (B8o gl) _ en2 M8 ar) ?_;rintro _ M9 ⟨rfl,rfl⟩;have a9:∀(to:ByteArray) (a3:Nat) (a7:Bool) (ad:Mem),ad=((M8.set r (.cells 240 (A1B l o a3 a7))).set c (.cells 110 [I 1,v2,S to,I 0,I 0])).set M.length (.cells 110 [I 1,v2,S to,I 0,I 0])->
    A1n 159 2 A0I.row ad v2 (A2O w++[⟨kP s,t⟩])/\A1r M.length v2/\Rd ad r l o a3 a7/\A1z r none M ad:=λto a3 a7 ad h=>by
    subst h
    refine⟨((az.keep (.set _ _ _) λf hf e=>?_).keep (.set _ _ _) λf hf e=>?_).keep (.set _ _ _) λf hf e=>?_,λf hf=>by have:=a8 f hf;omega,?_,⟨by simpa using ah.1,λi hi h1 h2=>?_⟩⟩
    .have:=a8 f hf;simp at e;omega
    .have:=a8 f hf;simp at e;omega
    .have:=a8 f hf;simp at e;omega
    .unfold Rd;rw[Z0f (by omega),Z0f (by omega)];simp[aw]
    .rw[Z0f (by omega),Z0f (by omega),Z0f (by omega)];exact ah.2 i hi h1 h2
   (have a4:∀X,(M8.set r X)[c]?=some (.cells 110 [I 1,v2,S ⟨#[]⟩,I 0,I 0]):=λX=>by rw[Z0f (by omega)];exact av);have aa:∀X Y,((M8.set r X).set c Y)[c]?=some Y:=λX Y=>by simp[am]
   (have ac:∀X Y,((M8.set r X).set c Y)[M.length]?=some (.cells 110 [I 0,A0i,S ⟨#[]⟩,I 0,I 0]):=λX Y=>by rw[Z0f (by omega),Z0f (by omega)];exact b9);have be:∀X Y,M.length<((M8.set r X).set c Y).length:=λX Y=>by simp;omega
   (have a6:M.length<M8.length:=by omega);have p:w.drop (A1d w)=s::t::toW::w2:=by rw[<-q3,e1,<-e5,g1]
   cases hw2:w2 with
   |nil=>rw[hw2]at g3 p;rw[B1F g3];rw[<-q]at a4|-;simp -dsimp -implicitDefEqProofs[A0h (a4 _),A0e];simp -dsimp -implicitDefEqProofs[A0b (aa _ _),A0h (ac _ _),A0e,A0y,a6,A0k];rw[q];obtain⟨z1,z2,z3,z4⟩:=a9 _ _ _ _ rfl;exact .inr ⟨by rw[<-hw,p];rfl,v2,_,rfl,z1,z2,by simp;omega,⟨_,_,z3⟩,z4⟩
   |cons d w3=>
    rw[hw2]at g3 p;obtain⟨-,-,hd|hd⟩:=A9K B6T g3
    .obtain⟨d1,a7,d2,d3⟩:=hd;rw[d2];rw[<-q]at a4|-;simp -dsimp -implicitDefEqProofs[A0h (a4 _),A0e];simp -dsimp -implicitDefEqProofs[A0b (aa _ _),A0h (ac _ _),A0e,A0y,a6,A0k];rw[q];obtain⟨z1,z2,z3,z4⟩:=a9 d _ _ _ rfl;refine .inl ⟨⟨kP s,t⟩,d,v2,?_,rfl,by rw[<-hw];exact z1,z2,a7,?_,?_,z4⟩
     .rw[<-hw,p];simp only[A3Y];rw[Z0d ⟨e2,e3,by trivial,d1⟩]
     .rw[<-hw,show a+(A1d w+4)=a+A1d w+2+1+1 from by omega];exact z3
     .rw[<-hw,show a+(A1d w+4)=a+A1d w+2+1+1 from by omega,d3,<-Z1Y,p];rfl
    .rw[hd.2];rw[<-q]at a4|-;simp -dsimp -implicitDefEqProofs[A0h (a4 _),A0e];simp -dsimp -implicitDefEqProofs[A0b (aa _ _),A0h (ac _ _),A0e,A0y,a6,A0k];rw[q];obtain⟨z1,z2,z3,z4⟩:=a9 ⟨#[]⟩ _ _ _ rfl;exact .inr ⟨by rw[<-hw,p];simp only[A3Y];rw[Z0e λhh=>by rw[hd.1]at hh;exact absurd hh.2.2.2 (by simp)],v2,_,rfl,z1,z2,by simp;omega,⟨_,_,z3⟩,z4⟩
  .rw[g2];have af:=@A9t M5 r l o (a+A1d w+2) z .gone a0;have j:=k.next (.set M5 r (.cells 240 (A1B l o (a+A1d w+2) z))) af;generalize M5.set r (.cells 240 (A1B l o (a+A1d w+2) z))=M6 at*;have ak:M.length<M6.length:=(Z0b.1 j.res).1;have b4:A3Y (w.drop (A1d w))=none:=by
    rw[<-q3,e1];unfold A3Y;split
    .rename_i s' t' c' d' r' e;simp only[Z1e]at e;rw[Z0e λhh=>g1 (d'::r') (by rw[e5,e.2.2,hh.2.2.1])]
    .rfl
   simp -dsimp -implicitDefEqProofs[A0b j.cc,A0h j.res,A0e,A0y,ak,A0k];obtain⟨z1,z2,z3⟩:=j.fail (X:=[I 1,v1,S ⟨#[]⟩,I 0,I 0]);exact .inr ⟨by rw[<-hw];exact b4,v1,_,rfl,z1,z2,by omega,z3⟩
 .have ax:A7m l (A2H A3J) (a+A1d w) y=(none,a+A1d w,y):=e2;rw[ax]at a2|-;obtain⟨M5,m⟩:∃M5,M5=M4++[A0l.cells 159 [I 0,S ⟨#[]⟩]]:=⟨_,rfl⟩;have a1:Rd M5 r l o (a+A1d w) y:=by unfold Rd;rw[m,Z0h (by have:=(Z0b.1 a2).1;exact this)];exact a2
  have k:=ab.next (aj.trans (by rw[m];exact .app _ _ _)) a1;have a0:M.length<M5.length:=(Z0b.1 k.res).1;simp -dsimp -implicitDefEqProofs[A0m,A0n,A0e];rw[<-m];clear m;simp -dsimp -implicitDefEqProofs[A0b k.cc,A0h k.res,A0e,A0y,a0,A0k];obtain⟨z1,z2,z3⟩:=k.fail (X:=[I 1,v1,S ⟨#[]⟩,I 0,I 0]);exact .inr ⟨by rw[<-hw];exact ai e1,v1,_,rfl,z1,z2,by omega,z3⟩
end
def A8H(i:Nat)(l:List ByteArray)(o:Own)(r a:Nat)(en:Bool)(M:Mem)(v:AV)(M':Mem):Prop:=∃k p to vp a' en',v=.agg [I k,vp,S to,I 0,I 0]/\A1n 159 2 A0I.row M' vp p/\A1r M.length vp/\p.length<=10/\Rd M' r l o a' en'/\A1z r none M M'/\A2b i (A1f l a en)=if A4s k p to=true then some ((k,p,to),a'-a)else none
abbrev zC:A0l:=.cells 110 [I 0,A0i,S ⟨#[]⟩,I 0,I 0]
structure B0A (l:List ByteArray) (o:Own) (r:Nat) (M:Mem) (a':Nat) (en':Bool) (Mi:Mem):Prop where
 rd:Rd Mi r l o a' en'
 res:Mi[M.length]?=some zC
 kp:A1z r none M Mi
 lt:r<M.length
def B0A.start{l}{o}{r}{M}{a}{en}(h:Rd M r l o a en):B0A l o r M a en (M++[zC]):=by have b:r<M.length:=(Z0b.1 h).1;exact⟨by unfold Rd;rw[Z0h b];exact h,by simp,.of_r (.app _ _ _),b⟩
def B0A.next{l}{o}{r}{M}{a' a2}{en' en2}{Mi Mj}(h:B0A l o r M a' en' Mi)(hr:Rd Mj r l o a2 en2)(k:A1z r none Mi Mj):B0A l o r M a2 en2 Mj:=by have a:=h.lt;have hl:=(Z0b.1 h.res).1;exact⟨hr,by rw[k.2 _ hl (by omega) (by simp)];exact h.res,h.kp.step k (by simp),a⟩
def B0A.set{l}{o}{r}{M}{a'}{en'}{Mi}(h:B0A l o r M a' en' Mi){a2}{en2}:B0A l o r M a2 en2 (Mi.set r (.cells 240 (A1B l o a2 en2))):=h.next (@A9t Mi r l o a2 en2 .gone (Z0b.1 h.rd).1) (.of_r (.set _ _ _))
def B0A.later{l}{o}{r}{M}{a'}{en'}{Mi}(h:B0A l o r M a' en' Mi){v}(hv:A1r Mi.length v):∀f,obj v=some f->M.length<f:=λf hf=>by have:=hv f hf;have:=(Z0b.1 h.res).1;omega
def B0A.fin{l}{o}{r}{M}{a'}{en'}{Mi}(h:B0A l o r M a' en' Mi){X}{v}{p}(ho:A1n 159 2 A0I.row Mi v p)(hv:∀f,obj v=some f->M.length<f):A1n 159 2 A0I.row (Mi.set M.length (.cells 110 X)) v p/\A1r M.length v/\Rd (Mi.set M.length (.cells 110 X)) r l o a' en'/\A1z r none M (Mi.set M.length (.cells 110 X)):=by
 have a:=h.lt
 refine⟨ho.keep (.set _ _ _) λf hf e=>by have:=hv f hf;simp at e;omega,λf hf=>by have:=hv f hf;omega,?_,⟨by simpa using h.kp.1,λi hi h1 h2=>?_⟩⟩
 .unfold Rd;rw[Z0f (by omega)];exact h.rd
 .rw[Z0f (by omega)];exact h.kp.2 i hi h1 h2
def B0A.len{l}{o}{r}{M}{a'}{en'}{Mi}(h:B0A l o r M a' en' Mi):M.length<Mi.length:=(Z0b.1 h.res).1
section
variable (gl:Nat->AV)
@[simp] def D3s{v}{M}{p}(h:A1n 159 2 A0I.row M v p):A0D prog 110 [(1,v)]=some (.agg [I 0,v,S ⟨#[]⟩,I 0,I 0]):=by
 rcases h with⟨rfl,_⟩|⟨f,g,a,rfl,_⟩<;>simp[A0D,A1l,A1H,AV.cells,AV.storable]
@[simp] def E1K{k}:A0D prog 110 [(0,I k)]=some (.agg [I k,A0i,S ⟨#[]⟩,I 0,I 0]):=by
 simp[A0D,A1l,A1H,AV.cells,AV.storable]
def B8R(w:List ByteArray):(A2O w).length<=9:=by have:=A3S (9-bkN w) (w.drop (bkN w));have hb:=B6c w;unfold A2O;rw[Z0v,B0S];omega
def B7Q{k}(hk:k=0\/k=4)(w:List ByteArray):A2V k w=if A4s k (A2O w) ⟨#[]⟩=true then some ((k,A2O w,⟨#[]⟩),A1d w)else none:=by rw[D2t hk];unfold A2V;by_cases c:A1d w=bkN w<;>simp[c]
def D5e(l:List ByteArray)(o:Own)(hl:l.length<=1000000000)(e:∀s∈l,s.size<=maxLen)(r:Nat)(a:Nat)(en:Bool)(M:Mem)(hr:Rd M r l o a en):A0d (WC gl) 247 [.ptr r 0] M (A8H 0 l o r a en M):=by
 refine A0j hB func247 ?_
 have f0:=B0A.start hr
 simp -dsimp -implicitDefEqProofs[A0m]
 generalize M++[zC]=M0 at*
 refine A0s func248 (C4x gl l o hl e r a en M0 f0.rd) ?_
 rintro v M1 ⟨q1,⟨d,q2,q3,q4⟩,q5⟩
 have f1:=f0.next q2 q4
 have c:=f0.later q5
 have b:=f1.len
 have f:=B8R (A1f l a en)
 simp -dsimp -implicitDefEqProofs[D3s q1,A0h f1.res,A0e,A0y,b,A0k]
 obtain⟨z1,z2,z3,z4⟩:=f1.fin q1 c (X:=[I 0,v,S ⟨#[]⟩,I 0,I 0])
 exact⟨0,_,⟨#[]⟩,v,_,d,rfl,z1,z2,by omega,z3,z4,by rw[show A2b 0 (A1f l a en)=A2V 0 (A1f l a en)from rfl,B7Q (.inl rfl),Z2n]⟩
def D5C(l:List ByteArray)(o:Own)(hl:l.length<=1000000000)(f:∀s∈l,s.size<=maxLen)(r:Nat)(a:Nat)(en:Bool)(M:Mem)(hr:Rd M r l o a en):A0d (WC gl) 249 [.ptr r 0] M (A8H 1 l o r a en M):=by
 refine(D6Y gl l o hl f r a en M hr).mono λv M' h=>?_
 have g:=B8R (A1f l a en)
 rcases h with⟨s,d,vp,h1,rfl,h3,h4,e,h5,h6,h7⟩|⟨h1,vp,p,rfl,h3,h4,h5,⟨a',b,h6⟩,h7⟩
 .refine⟨1,_,d,vp,_,e,rfl,h3,h4,by simp;omega,h5,h7,?_⟩;simp only[A2b,h1];rw[D3b h1,Z2n];by_cases c:(A2O (A1f l a en)).length<=8<;>simp[c]
 .refine⟨1,p,⟨#[]⟩,vp,a',b,rfl,h3,h4,h5,h6,h7,?_⟩;simp only[A2b,h1,C2Q,Z0K,Z1l]
def A9E{i}{l}{o}{r}{M}{a a2}{en en2}{Mi}(k:Int)(h:B0A l o r M a2 en2 Mi)(hf:A2b i (A1f l a en)=none):A8H i l o r a en M (.agg [I k,A0i,S ⟨#[]⟩,I 0,I 0]) (Mi.set M.length (.cells 110 [I k,A0i,S ⟨#[]⟩,I 0,I 0])):=by
 obtain⟨z1,z2,z3,z4⟩:=h.fin (v:=A0i) (p:=[]) A1n.nil (λf hf=>by simp at hf) (X:=[I k,A0i,S ⟨#[]⟩,I 0,I 0])
 exact⟨k,[],⟨#[]⟩,A0i,a2,en2,rfl,z1,z2,by simp,z3,z4,by rw[hf,D6V];rfl⟩
def D4G(l:List ByteArray)(o:Own)(hl:l.length<=1000000000)(d:∀s∈l,s.size<=maxLen)(r:Nat)(a:Nat)(en:Bool)(M:Mem)(hr:Rd M r l o a en):A0d (WC gl) 250 [.ptr r 0] M (A8H 2 l o r a en M):=by
 refine A0j hB func250 ?_
 have f0:=B0A.start hr
 simp -dsimp -implicitDefEqProofs[A0m]
 generalize M++[zC]=M0 at*
 refine A0s func251 (B2w gl l o hl d A3L r a en M0 f0.rd) ?_
 rintro _ M1 ⟨rfl,rfl⟩
 rcases A8a (l:=l) (a:=a) (en:=en) A3T.1 with⟨w,e1,c,e2,e3⟩|⟨e1,e2⟩
 .rw[e2];have f1:=f0.set (a2:=a+1) (en2:=c);generalize M0.set r (.cells 240 (A1B l o (a+1) c))=M1 at*;simp -dsimp -implicitDefEqProofs;refine A0s func252 (C1I gl l o hl d r (a+1) c M1 f1.rd) ?_;rintro v M2 h;have hf:A2b 2 (A1f l a en)=(A2y w).map λx=>((2,x.1,⟨#[]⟩),x.2+1):=by rw[e1];simp only[A2b,Z0H]
  rcases h with⟨p,n,h1,h2,⟨en2,h3,h4,h5⟩,h6⟩|⟨h1,rfl,⟨a2,en2,h3⟩,h4⟩
  .rw[e3]at h1;(have g:p.length<=9:=by have:=B4w (.inl rfl) (k:=2) h1;simp only[A4s,Z0g,Z0m]at this;exact this.1);have f2:=f1.next h3 h5;have f:=f1.later h6;have b:=f2.len;simp -dsimp -implicitDefEqProofs[A8b h2,A0h f2.res,A0e,A0y,b,A0k];obtain⟨z1,z2,z3,z4⟩:=f2.fin h2 f (X:=[I 2,v,S ⟨#[]⟩,I 0,I 0]);refine⟨2,p,⟨#[]⟩,v,_,en2,rfl,z1,z2,by omega,z3,z4,?_⟩;rw[hf,h1,B4w (.inl rfl) h1];simp only[Z0M,Z0H];congr 2;omega
  .rw[e3]at h1;have f2:=f1.next h3 h4;have b:=f2.len;simp -dsimp -implicitDefEqProofs[A8b (M:=M2) (p:=[]) A1n.nil,A0h f2.res,A0e,A0y,b,A0k];exact A9E 2 f2 (by rw[hf,h1];rfl)
 .rw[e2];have f1:=f0.set (a2:=a) (en2:=en);generalize M0.set r (.cells 240 (A1B l o a en))=M1 at*;have b:=f1.len;simp -dsimp -implicitDefEqProofs[A0h f1.res,A0e,A0y,b,A0k];refine A9E 2 f1 ?_;cases hs:A1f l a en with
  |nil=>rfl
  |cons s w=>simp only[A2b];rw[Z0e λe=>e1 w (by rw[hs,e])]
def D4z(l:List ByteArray)(o:Own)(hl:l.length<=1000000000)(f:∀s∈l,s.size<=maxLen)(r:Nat)(a:Nat)(en:Bool)(M:Mem)(hr:Rd M r l o a en):A0d (WC gl) 254 [.ptr r 0] M (A8H 4 l o r a en M):=by
 refine A0j hB func254 ?_
 have f0:=B0A.start hr
 simp -dsimp -implicitDefEqProofs[A0m]
 generalize M++[zC]=M0 at*
 refine A0s func251 (B2w gl l o hl f A7c r a en M0 f0.rd) ?_
 rintro _ M1 ⟨rfl,rfl⟩
 rcases A8a (l:=l) (a:=a) (en:=en) A3T.2.2.2.1 with⟨w,e1,d,e2,e3⟩|⟨e1,e2⟩
 .rw[e2];have f1:=f0.set (a2:=a+1) (en2:=d);generalize M0.set r (.cells 240 (A1B l o (a+1) d))=M1 at*;simp -dsimp -implicitDefEqProofs;refine A0s func248 (C4x gl l o hl f r (a+1) d M1 f1.rd) ?_;rintro v M2 ⟨q1,⟨h,q2,q3,q4⟩,q5⟩;rw[e3]at q1 q2;have f2:=f1.next q2 q4;have g:=f1.later q5;have b:=f2.len;have i:=B8R w;simp -dsimp -implicitDefEqProofs[A8b q1,A0h f2.res,A0e,A0y,b,A0k];obtain⟨z1,z2,z3,z4⟩:=f2.fin q1 g (X:=[I 4,v,S ⟨#[]⟩,I 0,I 0]);refine⟨4,_,⟨#[]⟩,v,_,h,rfl,z1,z2,by omega,z3,z4,?_⟩;have hf:A2b 4 (A1f l a en)=(A2V 4 w).map λx=>(x.1,x.2+1):=by rw[e1];simp only[A2b,Z0H]
  rw[hf,B7Q (.inr rfl)];by_cases c:A4s 4 (A2O w) ⟨#[]⟩=true
  .rw[Z0d c,Z0d c];simp only[Z0M];congr 2;omega
  .rw[Z0e c,Z0e c];rfl
 .rw[e2];have f1:=f0.set (a2:=a) (en2:=en);generalize M0.set r (.cells 240 (A1B l o a en))=M1 at*;have b:=f1.len;simp -dsimp -implicitDefEqProofs[A0h f1.res,A0e,A0y,b,A0k];refine A9E 4 f1 ?_;cases hs:A1f l a en with
  |nil=>rfl
  |cons s w=>simp only[A2b];rw[Z0e λe=>e1 w (by rw[hs,e])]
end
section
variable (gl:Nat->AV)
def D3X(l:List ByteArray)(o:Own)(hl:l.length<=1000000000)(d:∀s∈l,s.size<=maxLen)(r:Nat)(a:Nat)(en:Bool)(M:Mem)(hr:Rd M r l o a en):A0d (WC gl) 253 [.ptr r 0] M (A8H 3 l o r a en M):=by
 refine A0j hB func253 ?_
 have f0:=B0A.start hr
 simp -dsimp -implicitDefEqProofs[A0m]
 generalize M++[zC]=M0 at*
 refine A0s func251 (B2w gl l o hl d A6x r a en M0 f0.rd) ?_
 rintro _ M1 ⟨rfl,rfl⟩
 rcases A8a (l:=l) (a:=a) (en:=en) A3T.2.1 with⟨w,e1,c,e2,e3⟩|⟨e1,e2⟩
 .rw[e2];have f1:=f0.set (a2:=a+1) (en2:=c);generalize M0.set r (.cells 240 (A1B l o (a+1) c))=M1 at*;simp -dsimp -implicitDefEqProofs;refine A0s func251 (B2w gl l o hl d A9B r (a+1) c M1 f1.rd) ?_;rintro _ M2 ⟨rfl,rfl⟩;rcases A8a (l:=l) (a:=a+1) (en:=c) A3T.2.2.1 with⟨w2,g1,en2,g2,g3⟩|⟨g1,g2⟩
  .rw[g2];have f2:=f1.set (a2:=a+1+1) (en2:=en2);generalize M1.set r (.cells 240 (A1B l o (a+1+1) en2))=M2 at*;simp -dsimp -implicitDefEqProofs;refine A0s func252 (C1I gl l o hl d r (a+1+1) en2 M2 f2.rd) ?_;rintro v M3 h;(have hf:A2b 3 (A1f l a en)=(A2y w2).map λx=>((3,x.1,⟨#[]⟩),x.2+2):=by rw[e1,<-e3,g1];simp only[A2b,Z4b,Z0H]);rcases h with⟨p,n,h1,h2,⟨f,h3,h4,h5⟩,h6⟩|⟨h1,rfl,⟨a2,f,h3⟩,h4⟩
   .rw[g3]at h1;(have i:p.length<=9:=by have:=B4w (.inr rfl) (k:=3) h1;simp only[A4s,Z0g,Z0m]at this;exact this.1);have f3:=f2.next h3 h5;have g:=f2.later h6;have b:=f3.len;simp -dsimp -implicitDefEqProofs[A8b h2,A0h f3.res,A0e,A0y,b,A0k];obtain⟨z1,z2,z3,z4⟩:=f3.fin h2 g (X:=[I 3,v,S ⟨#[]⟩,I 0,I 0]);refine⟨3,p,⟨#[]⟩,v,_,f,rfl,z1,z2,by omega,z3,z4,?_⟩;rw[hf,h1,B4w (.inr rfl) h1];simp only[Z0M,Z0H];congr 2;omega
   .rw[g3]at h1;have f3:=f2.next h3 h4;have b:=f3.len;simp -dsimp -implicitDefEqProofs[A8b (M:=M3) (p:=[]) A1n.nil,A0h f3.res,A0e,A0y,b,A0k];exact A9E 3 f3 (by rw[hf,h1];rfl)
  .rw[g2];have f2:=f1.set (a2:=a+1) (en2:=c);generalize M1.set r (.cells 240 (A1B l o (a+1) c))=M2 at*;have b:=f2.len;simp -dsimp -implicitDefEqProofs[A0h f2.res,A0e,A0y,b,A0k];refine A9E 3 f2 ?_;rw[e1,<-e3];cases hs:A1f l (a+1) c with
   |nil=>rfl
   |cons s w=>simp only[A2b];rw[Z0e λe=>g1 w (by rw[hs,e.2])]
 .rw[e2];have f1:=f0.set (a2:=a) (en2:=en);generalize M0.set r (.cells 240 (A1B l o a en))=M1 at*;have b:=f1.len;simp -dsimp -implicitDefEqProofs[A0h f1.res,A0e,A0y,b,A0k];refine A9E 3 f1 ?_;cases hs:A1f l a en with
  |nil=>rfl
  |cons s w=>cases w<;>simp only[A2b];rw[Z0e λe=>e1 _ (by rw[hs,e.1])]
def B0k:List FuncId:=[247,249,250,253,254]
def D4l(M:Mem):A0d (WC gl) 199 [] M (λv M'=>v=.list 1 (B0k.map λg=>[.func (.func g) [] []]) .full/\M'=M):=by refine A0j hB func199 ?_;simp -dsimp -implicitDefEqProofs[A0p,A0Z,B0k]
def D8Y(i:Nat)(l:List ByteArray)(o:Own)(r a:Nat)(en:Bool)(M:Mem)(v:AV)(M':Mem):Prop:=∃k p to a' en',v=.agg [I k,.list 2 (A1K p) .no,S to,I 0,I 0]/\p.length<=10/\Rd M' r l o a' en'/\A1z r none M M'/\A2b i (A1f l a en)=if A4s k p to=true then some ((k,p,to),a'-a)else none
def A9T{f}{i}{l}{o}{r a}{en}{M}(h:A0d (WC gl) f [.ptr r 0] M (A8H i l o r a en M)):A0d (WC gl) f [.ptr r 0] M (D8Y i l o r a en M):=by
 refine A0d.stillN (h.mono ?_);rintro v M' ⟨k,p,to,vp,a',c,rfl,h1,h2,h3,h4,h5,h6⟩;refine⟨M.length,.agg [I k,.list 2 (p.map A0I.row) .no,S to,I 0,I 0],?_,k,p,to,a',c,rfl,h3,?_,⟨by simpa using h5.1,λi hi hr hb=>?_⟩,h6⟩
 .refine .agg (.same trivial (Still.rows (λ_=>rfl) (λ_ _ _=>trivial) h1 h2 (.same trivial (.same trivial (.same trivial .nil))))) .nil
 .exact A8G h4 (by rintro _ _ _ _ _ e;exact absurd e (by simp))
 .have b:i<M'.length:=Z1r hi h5.1;rw[<-h5.2 i hi hr hb,Z0l b];exact A8G (Z0l b) λ_ _ _ _ _ _=>hi
def D7x(l:List ByteArray)(o:Own)(hl:l.length<=1000000000)(b:∀s∈l,s.size<=maxLen)(r:Nat)(a:Nat)(en:Bool)(M:Mem)(hr:Rd M r l o a en)(i:Nat)(hi:i<B0k.length):A4d (WC gl) B0k[i] [.ptr r 0] M (D8Y i l o r a en M):=by
 match i,hi with
 |0,_=>exact A1Y func247 rfl rfl (A9T gl (D5e gl l o hl b r a en M hr))
 |1,_=>exact A1Y func249 rfl rfl (A9T gl (D5C gl l o hl b r a en M hr))
 |2,_=>exact A1Y func250 rfl rfl (A9T gl (D4G gl l o hl b r a en M hr))
 |3,_=>exact A1Y func253 rfl rfl (A9T gl (D3X gl l o hl b r a en M hr))
 |4,_=>exact A1Y func254 rfl rfl (A9T gl (D4z gl l o hl b r a en M hr))
end
section
variable (gl:Nat->AV) (M:Mem)
def D5F(s:A0I):A0d (WC gl) 218 [s.v] M (λv M'=>v=B (!A1T s)/\Grow M M'):=by refine A0j hB func218 ?_;simp -dsimp -implicitDefEqProofs[A0I.row];refine A0s func217 (C5t gl M s) ?_;rintro r M' ⟨rfl,a⟩;simp -dsimp -implicitDefEqProofs[a]
def C3L(p:List A0I)(o:Own)(c:p.length<=1000000):A0d (WC gl) 270 [.list 2 (A1K p) o,.func (.func 218) [] []] M (λv M'=>(∃r,v=I r/\decide (0<=r)=p.any (λs=>!A1T s))/\Grow M M'):=by
 refine A0j hB func270 ?_;simp -dsimp -implicitDefEqProofs;refine A0v hB p.length 8 (λT M1=>∃i:Nat,i<=p.length/\Grow M M1/\T 0=.list 2 (A1K p) o/\T 1=.func (.func 218) [] []/\T 7=I p.length/\T 8=I i/\(p.take i).all A1T=true) ?_ ?_
 .refine⟨0,?_⟩;simp -dsimp -implicitDefEqProofs[Grow.refl]
 .rintro T M1 ⟨i,h1,h2,h3,h4,h5,h6,h7⟩;by_cases hi:i<p.length
  ·(have a:(i:Int)<p.length:=by omega);have hw:IntKind.i64.wrap ((i:Int)+1)=(i+1:Nat):=by rw[A0T (by omega) (by omega)];omega
   simp -dsimp -implicitDefEqProofs[h3,h4,h5,h6,hi,a];refine A0s func218 (D5F gl M1 p[i]) ?_;rintro r M' ⟨rfl,b⟩;have hg:=h2.trans b;cases hb:A1T p[i]
   .simp -dsimp -implicitDefEqProofs[];refine⟨?_,hg⟩;exact⟨p[i],Z0u hi,hb⟩
   .simp -dsimp -implicitDefEqProofs[h3,h4,h5,h6,hw,hg];refine⟨⟨i+1,?_⟩,?_⟩
    .have:=B2C hi h7 hb;simp only[Z0t]at this|-;exact⟨by clear hw;omega,by simp,this⟩
    .clear hw;omega
  ·(have a:¬(i:Int)<p.length:=by omega);rw[Z0k (by omega),Z0t]at h7
   simp -dsimp -implicitDefEqProofs[h5,h6,a];exact⟨h7,h2⟩
def B7e(p:List A0I)(o:Own)(a:p.length<=1000000):A0d (WC gl) 215 [.list 2 (A1K p) o,.func (.func 218) [] []] M (λv M'=>v=B (p.any (λs=>!A1T s))/\Grow M M'):=by refine A0j hB func215 ?_;simp -dsimp -implicitDefEqProofs;refine A0s func270 (C3L gl M p o a) ?_;rintro r M' ⟨⟨r,rfl,hr⟩,b⟩;simp -dsimp -implicitDefEqProofs[b,hr]
def C5B(p:List A0I)(o:Own)(b:p.length<=1000000):A0d (WC gl) 167 [.list 2 (A1K p) o] M (λv M'=>v=B (B1a p)/\Grow M M'):=by
 refine A0j hB func167 ?_;cases p with
 |nil=>simp -dsimp -implicitDefEqProofs[A1K,B1a,Grow.refl]
 |cons s p'=>
  simp only[Z0C]at b;have i0:¬(p'.length:Int)+1=0:=by omega
  have i1:(1:Int)<=(p'.length:Int)+1:=by omega
  have i2:(0:Int)<=(p'.length:Int):=by omega
  by_cases c1:s.lab=⟨#[]⟩;case neg=>simp -dsimp -implicitDefEqProofs[A1K,A0I.row,B1a,c1,i0,Grow.refl]
  by_cases c2:s.k<1
  ·(have:¬1<=s.k:=by omega);simp -dsimp -implicitDefEqProofs[A1K,A0I.row,B1a,c1,c2,this,i0,Grow.refl]
  by_cases c3:7<s.k
  ·(have h3:¬s.k<=7:=by omega);have a:s.k>7:=c3
   simp -dsimp -implicitDefEqProofs[A1K,A0I.row,B1a,c1,c2,c3,h3,i0,Grow.refl]
  have h2:1<=s.k:=by omega
  have h3:s.k<=7:=by omega
  have a:¬s.k>7:=c3;simp -dsimp -implicitDefEqProofs[A1K,A0I.row,c1,c2,c3,i0,i1];refine A0s func215 (B7e gl M p' _ (by omega)) ?_;rintro r M' ⟨rfl,c⟩;simp -dsimp -implicitDefEqProofs[c,C3V];simp[B1a,c1,h2,h3]
end
section
variable (gl:Nat->AV)
def D1M(k:Int)(p:List A0I)(o:Own)(to:ByteArray)(x y:Int)(M:Mem)(hp:p.length<=1000000):A0d (WC gl) 116 [.agg [I k,.list 2 (A1K p) o,S to,I x,I y]] M (λv M'=>v=B (A4s k p to)/\M'=M):=by
 refine A4j (λ_=>trivial) ?_;refine A0j hB func116 ?_;by_cases c9:p.length<=9;case neg=>
  have i2:(9:Int)<p.length:=by omega
  simp -dsimp -implicitDefEqProofs[i2,A4s,c9,Grow.refl]
 have i1:¬(p.length:Int)>9:=by omega
 have i2:¬(9:Int)<p.length:=by omega
 by_cases ct:to=⟨#[]⟩<;>by_cases k1:k=1
 .have hm:A4s k p to=false:=by rw[ct,k1];exact C2Q
  simp -dsimp -implicitDefEqProofs[i1,ct,k1,C2Q,Grow.refl]
 .by_cases k0:k=0
  ·(have hm:A4s k p to=A4F p:=by simp[A4s,k0,c9,ct]);rw[hm]
   simp -dsimp -implicitDefEqProofs[i1,ct,k0];refine A0s func166 (B4p gl M p o hp) ?_;rintro r M2 ⟨rfl,a⟩;simp -dsimp -implicitDefEqProofs[a]
  by_cases k4:k=4
  ·(have hm:A4s k p to=A4F p:=by simp[A4s,k4,c9,ct]);rw[hm]
   simp -dsimp -implicitDefEqProofs[i1,ct,k4];refine A0s func166 (B4p gl M p o hp) ?_;rintro r M2 ⟨rfl,a⟩;simp -dsimp -implicitDefEqProofs[a]
  by_cases k2:k=2
  ·(have hm:A4s k p to=B1a p:=by simp[A4s,k2,c9,ct]);rw[hm]
   simp -dsimp -implicitDefEqProofs[i1,ct,k2];refine A0s func167 (C5B gl M p o hp) ?_;rintro r M2 ⟨rfl,a⟩;simp -dsimp -implicitDefEqProofs[a]
  by_cases k3:k=3
  ·(have hm:A4s k p to=B1a p:=by simp[A4s,k3,c9,ct]);rw[hm]
   simp -dsimp -implicitDefEqProofs[i1,ct,k3];refine A0s func167 (C5B gl M p o hp) ?_;rintro r M2 ⟨rfl,a⟩;simp -dsimp -implicitDefEqProofs[a]
  have hm:A4s k p to=false:=by simp[A4s,k0,k1,k2,k3,k4]
  rw[hm];simp -dsimp -implicitDefEqProofs[i1,ct,k1,k0,k4,k2,k3,Grow.refl]
 .have hm:A4s k p to=(A4F p&&A0N to&&decide (C2s p≠6)):=by simp[A4s,k1,c9,Bool.and_comm,Bool.and_assoc]
  rw[hm];simp -dsimp -implicitDefEqProofs[i1,ct,k1];refine A0s func166 (B4p gl M p o hp) ?_;rintro r M2 ⟨rfl,a⟩;cases hpl:A4F p with
  |false=>simp -dsimp -implicitDefEqProofs[a]
  |true=>
   simp -dsimp -implicitDefEqProofs;refine A0s func112 (A9J gl M2 to) ?_;rintro r M3 ⟨rfl,b⟩;cases hlb:A0N to with
   |false=>simp -dsimp -implicitDefEqProofs[a.trans b]
   |true=>
    (have d:p≠[]:=λe=>by rw[e]at hpl;exact absurd hpl (by decide));have f:=Z2p.2 d
    (have hw:IntKind.i64.wrap ((p.length:Int)-1)=(p.length-1:Nat):=by rw[A0T (by omega) (by omega)];omega);have j1:((p.length-1:Nat):Int)<p.length:=by omega
    (have j2:p.length-1<p.length:=by omega);have c:C2s p=(p[p.length-1]).k:=by unfold C2s;rw[List.getLast?_eq_getElem?,Z0l j2]
    simp -dsimp -implicitDefEqProofs[hw,j1,j2];refine⟨?_,a.trans b⟩;rw[c];by_cases h:p[p.length-1].k=6<;>simp[h]
 .have hm:A4s k p to=false:=by simp[A4s,ct,k1]
  simp -dsimp -implicitDefEqProofs[i1,ct,k1,hm,Grow.refl]
end
def D3c{C}{f}{args}{M}{r}(hb:∀n,bdd n r)(h:A0d C f args M (λv M'=>v=r/\Grow M M')):A0d C f args M (λv M'=>v=r/\M'=M):=by refine h.cut ?_;rintro _ M' ⟨rfl,hg⟩;obtain⟨X,hX⟩:=hg.tail;exact⟨X,hX,hb _,rfl,rfl⟩
def D2x(n:Nat)(p:List A0I):A9S n (A1K p):=by
 induction p with
 |nil=>simp[A1K,A9S]
 |cons s p ih=>simp only[A1K,Z0B,A9S];exact⟨by simp[A0I.row,A1Q,bdd],ih⟩
def hL:A2x:=⟨λd=>!(d==20),λ_=>true,λ_=>false⟩
@[simp] def E7M:hL.imm=λd=>!(d==20):=rfl
def A7K(g:Option (Cq×Nat))(a:Nat):List AV:=match g with
 |some ((k,p,to),n)=>[I k,.list 2 (A1K p) .no,S to,I a,I (a+n:Nat)]
 |none=>[I 0,A0i,S ⟨#[]⟩,I 0,I 0]
@[simp] def D1K(g:Option (Cq×Nat))(a:Nat):(A7K g a).length=5:=by cases g<;>rfl
def C7t(g:Option (Cq×Nat))(a:Nat):∃x y z u,A7K g a=[x,y,z,u,I (if g.isSome then a+B3z g else 0:Nat)]:=by
 match g with
 |none=>exact⟨_,_,_,_,rfl⟩
 |some ((k,p,to),n)=>exact⟨_,_,_,_,rfl⟩
def D5q(g:Option (Cq×Nat))(a n:Nat):A1Q n (A7K g a):=by
 match g with
 |none=>simp[A7K,A1Q,bdd]
 |some ((k,p,to),m)=>simp only[A7K,A1Q,bdd,Z1N,Z2t];exact D2x n p
def C8k{k}{w}{c}{n}(h:A2V k w=some (c,n)):0<n:=by
 have:=B3O w;unfold A2V at h;split at h
 .exact absurd h (by simp)
 .simp only[Z0a,Z0c]at h;omega
def D1Q{i}{w}{c}{n}(h:A2b i w=some (c,n)):0<n:=by
 unfold A2b at h;split at h
 .exact C8k h
 .split at h
  .split at h
   .simp only[Z0a,Z0c]at h;omega
   .exact absurd h (by simp)
  .exact absurd h (by simp)
 .split at h
  .split at h
   .cases hb:A2y _ with
    |none=>rw[hb]at h;exact absurd h (by simp)
    |some y=>rw[hb]at h;simp at h;omega
   .exact absurd h (by simp)
  .exact absurd h (by simp)
 .split at h
  .split at h
   .cases hb:A2y _ with
    |none=>rw[hb]at h;exact absurd h (by simp)
    |some y=>rw[hb]at h;simp at h;omega
   .exact absurd h (by simp)
  .exact absurd h (by simp)
 .split at h
  .split at h
   .cases hb:A2V 4 _ with
    |none=>rw[hb]at h;exact absurd h (by simp)
    |some y=>rw[hb]at h;simp at h;omega
   .exact absurd h (by simp)
  .exact absurd h (by simp)
def B2e(w:List ByteArray):∀i,(A4I w i).isSome=true->0<B3z (A4I w i)
 |0,h=>by simp[A4I]at h
 |i+1,h=>by
  rw[A4I]at h|-;cases hf:A2b i w with
  |none=>rw[hf]at h;simp only[A6d]at h|-;exact B2e w i h
  |some y=>
   obtain⟨c,n⟩:=y;rw[hf]at h;simp only[A6d]at h|-;by_cases e:B3z (A4I w i)<n
   .rw[Z0d e];simp only[B3z];omega
   .rw[Z0e e]at h|-;exact B2e w i h
def D2w{w}{i}{k}{p}{to}{a a'}(h:A2b i w=if A4s k p to=true then some ((k,p,to),a'-a)else none):A7K (A4I w (i+1)) a=if A4s k p to=true/\(if(A4I w i).isSome then a+B3z (A4I w i)else 0)<a' then[I k,.list 2 (A1K p) .no,S to,I a,I a']else A7K (A4I w i) a:=by
 rw[A4I,h]
 by_cases c:A4s k p to=true
 .rw[Z0d c]at h|-;have hp:=D1Q h;have hn:=B2e w i;simp only[A6d,c,Z2t];cases hb:A4I w i with
  |none=>simp only[Option.isSome_none,Z0K,Z1l];rw[Z0d (show B3z none<a'-a from hp),Z0d (by omega)];simp only[A7K,show a+(a'-a)=a' from by omega]
  |some y=>
   rw[hb]at hn;simp only[Z3m,Z0H];by_cases e:B3z (some y)<a'-a
   .rw[Z0d e,Z0d (by omega)];simp only[A7K,show a+(a'-a)=a' from by omega]
   .rw[Z0e e,Z0e (by omega)]
 .rw[Z0e c];simp[A6d,c]
section
variable (gl:Nat->AV)
@[simp] def E3n{rows}{o}{x}:A0D prog 240 [(0,.list 1 rows o),(1,I x)]=some (.agg [.list 1 rows o,I x,B false]):=by
 simp[A0D,A1l,A1H,AV.cells,AV.storable]
def C8G(l:List ByteArray)(o:Own)(hl:l.length<=1000000000)(am:∀s∈l,s.size<=maxLen)(a:Nat)(M:Mem):A0d (WC gl) 147 [.list 1 (A1b l) o,I a] M (λv M'=>v=.tuple [.agg (A7K (B1y (B5j (l.drop a))) a),B (B1y (B5j (l.drop a))).isSome]/\M'=M):=by
 obtain⟨w,hw⟩:∃w,w=A1f l a false:=⟨_,rfl⟩
 have ap:B5j (l.drop a)=w:=by rw[hw];rfl
 rw[ap,<-C9M]
 refine D3c (λn=>by simp only[bdd,A1Q,Z1N];exact D5q _ _ _) ?_
 refine A0j hL func147 ?_
 simp -dsimp -implicitDefEqProofs[A0m]
 refine A0s func199 (D4l gl _) ?_
 rintro _ M1 ⟨rfl,rfl⟩
 simp -dsimp -implicitDefEqProofs[]
 refine A0v hL 5 13 (λT M1=>∃i:Nat,i<=5/\T 0=.list 1 (A1b l) o/\T 1=I a/\T 4=.ptr M.length 0/\T 6=.ptr (M.length+1) 0/\T 11=.list 1 (B0k.map λg=>[.func (.func g) [] []]) .full/\T 12=I 5/\T 13=I i/\Grow M M1/\M1[M.length]?=some zC/\M1[M.length+1]?=some (.cells 110 (A7K (A4I w i) a))) ?_ ?_
 .refine⟨0,by omega,by simp,by simp,by simp,by simp,by simp,by simp[B0k],by simp,⟨by simp,λi hi _=>?_⟩,?_,?_⟩
  .simp[Z0Z,hi]
  .simp[]
  .simp[A4I,A7K]
 rintro T M1 ⟨i,hi,t0,t1,t4,t6,f,e,d,h1,h2,h3⟩
 by_cases c:i<5
 .have c':(i:Int)<5:=by omega
  have ai:i<B0k.length:=c;have ar:M.length+1<M1.length:=(Z0b.1 h3).1;obtain⟨M2,a5⟩:∃M2,M2=M1++[A0l.cells 240 (A1B l o a false)]:=⟨_,rfl⟩;have ad:Rd M2 M1.length l o a false:=by rw[a5];simp[Rd]
  have m:Grow M1 M2:=by rw[a5];exact A0c.app none _ _
  simp -dsimp -implicitDefEqProofs[t0,t1,f,e,d,c',ai];rw[<-a5];refine A4A (D7x gl l o hl am M1.length a false M2 ad i ai) ?_;rintro v M3 ⟨k,p,to,a',al,rfl,f1,f2,f3,f4⟩;rw[<-hw]at f4;have q:=D2w f4 (a:=a);have u:Grow M M3:=⟨by have:=h1.1;have:=m.1;have:=f3.1;omega,λj hj _=>by rw[f3.2 j (by have:=h1.1;have:=m.1;omega) (by omega) (by simp),m.2 j (by have:=h1.1;omega) (by simp)];exact h1.2 j hj (by simp)⟩;have a2:M3[M.length]?=some zC:=by rw[f3.2 _ (by have:=m.1;omega) (by omega) (by simp)];exact m.get h2 (by simp)
  have y:M3[M.length+1]?=some (.cells 110 (A7K (A4I w i) a)):=by rw[f3.2 _ (by have:=m.1;omega) (by omega) (by simp)];exact m.get h3 (by simp)
  obtain⟨x,hx⟩:∃x,x=M3.length:=⟨_,rfl⟩;have av:M.length+1<x:=by have:=(Z0b.1 y).1;omega
  have aw:M1.length<x:=by have:=(Z0b.1 f2).1;omega
  generalize au:M1.length=r at*;clear a5 ad m f3 h1 h2 h3 f4;obtain⟨M4,a1⟩:∃M4,M4=M3++[A0l.cells 110 [I k,.list 2 (A1K p) .no,S to,I 0,I 0]]:=⟨_,rfl⟩;have ab:M4[x]?=some (A0l.cells 110 [I k,.list 2 (A1K p) .no,S to,I 0,I 0]):=by rw[a1,hx];simp
  have z:Grow M3 M4:=by rw[a1];exact A0c.app none _ _
  have af:M4[r]?=some (.cells 240 (A1B l o a' al)):=z.get f2 (by simp);replace a2:=z.get a2 (by simp);replace y:=z.get y (by simp);replace u:=u.trans z;simp -dsimp -implicitDefEqProofs[A0m,A0n,A0e];rw[<-hx,<-a1];clear a1 z;have a7:∀X,(M4.set x X)[r]?=M4[r]?:=λX=>Z0f (by omega);have ag:x<M4.length:=(Z0b.1 ab).1;have a8:∀X,(M4.set x X)[x]?=some X:=λX=>by simp[ag]
  refine A5r hL (A0G gl) (λk=>if k=4 then 1 else if k=6\/k=8 then 2 else 0) (λ_=>r) (λ_=>false) [r] (by intros;simp) (by rfl) (by kernel_rfl) ?_;simp -dsimp -implicitDefEqProofs[t1,A0b af,A0h ab,A0e];refine⟨a7 _,?_⟩;simp -dsimp -implicitDefEqProofs[A0h (a8 _),A0e,a7];obtain⟨M5,t⟩:∃M5,M5=M4.set x (A0l.cells 110 [I k,.list 2 (A1K p) .no,S to,I a,I a']):=⟨_,rfl⟩;have aa:M5[x]?=some (A0l.cells 110 [I k,.list 2 (A1K p) .no,S to,I a,I a']):=by rw[t];exact a8 _
  have a4:M5[M.length]?=some zC:=by rw[t,Z0f (by omega)];exact a2
  have a3:M5[M.length+1]?=some (.cells 110 (A7K (A4I w i) a)):=by rw[t,Z0f (by omega)];exact y
  have a0:Grow M M5:=⟨by rw[t];simpa using u.1,λj hj _=>by rw[t,Z0f (by omega)];exact u.2 j hj (by simp)⟩;rw[<-t];clear t a2 y u a7 a8 ag ab af f2;simp -dsimp -implicitDefEqProofs[A0b aa];refine A0s func116 (D1M gl k p .no to _ _ M5 (by omega)) ?_;rintro _ M6 ⟨rfl,rfl⟩;have a9:IntKind.i64.wrap ((i:Int)+1)=(i+1:Nat):=by rw[A0T (by omega) (by omega)];omega
  have ah:M.length<M6.length:=(Z0b.1 a4).1;have ao:M.length+1<M6.length:=(Z0b.1 a3).1;obtain⟨y1,y2,y3,y4,a6⟩:=C7t (A4I w i) a;generalize ax:(if(A4I w i).isSome=true then a+B3z (A4I w i)else 0)=nb at*;cases c2:A4s k p to with
  |false=>rw[c2]at q;simp only[Z0K,Z4e,Z1l]at q;simp -dsimp -implicitDefEqProofs[t0,t1,t4,t6,f,e,d,a9];exact⟨⟨i+1,by omega,rfl,a0,a4,by rw[q];exact a3⟩,by omega⟩
  |true=>
   rw[c2]at q;have b:=a3;rw[a6]at b;by_cases c3:nb<a'
   ·(have ac:(nb:Int)<a':=by omega);rw[Z0d ⟨rfl,c3⟩]at q
    simp -dsimp -implicitDefEqProofs[t0,t1,t4,t6,f,e,d,A0b aa,A0b b,ac,A0h b,A0e,a9];refine⟨⟨i+1,by omega,rfl,⟨by simpa using a0.1,λj hj _=>?_⟩,?_,?_⟩,by omega⟩
    .rw[Z0f (by omega)];exact a0.2 j hj (by simp)
    .exact a4
    .rw[q];simp[ao]
   ·(have ac:¬(nb:Int)<a':=by omega);rw[Z0e λh=>c3 h.2]at q
    simp -dsimp -implicitDefEqProofs[t0,t1,t4,t6,f,e,d,A0b aa,A0b b,ac,a9];exact⟨⟨i+1,by omega,rfl,a0,a4,by rw[q];exact a3⟩,by omega⟩
 .have c':¬(i:Int)<5:=by omega
  have an:i=5:=by omega
  subst an;have ah:M.length<M1.length:=(Z0b.1 h2).1;simp -dsimp -implicitDefEqProofs[e,d];refine A5r hL (A0G gl) (λk=>if k=0\/k=2 then 1 else if k=4 then 2 else 0) (λ_=>M.length+1) (λ_=>false) [M.length+1] (by intros;simp) (by rfl) (by kernel_rfl) ?_;obtain⟨y1,y2,y3,y4,a6⟩:=C7t (A4I w 5) a;have ak:=B2e w 5;have b:=h3;rw[a6]at b;have aj:∀X,(M1.set M.length X)[M.length+1]?=M1[M.length+1]?:=λX=>Z0f (by omega);have aq:∀X,Grow M (M1.set M.length X):=λX=>⟨by simpa using h1.1,λj hj _=>by rw[Z0f (by omega)];exact h1.2 j hj (by simp)⟩;simp -dsimp -implicitDefEqProofs[t4,t6,A0b b,A0h h2,A0e,aj];have ae:decide (0<if(A4I w 5).isSome=true then a+B3z (A4I w 5)else 0)=(A4I w 5).isSome:=by
   cases hs:(A4I w 5).isSome with
   |false=>simp
   |true=>have:=ak hs;simp;omega
  rw[ae,<-a6];simp -dsimp -implicitDefEqProofs[A0y,ah,A0k,D1K,aq];exact Z0k (by simp)
end
section
variable (gl:Nat->AV)
def C7O(l:List ByteArray)(o:Own)(hl:l.length<=1000000000)(r:∀s∈l,s.size<=maxLen)(M:Mem):A0d (WC gl) 98 [.list 1 (A1b l) o] M (λv M'=>A1n 110 5 A1G.row M' v (A3o l 0)/\Grow M M'/\A1r M.length v):=by
 refine A0j (hQ [24]) func98 ?_
 simp -dsimp -implicitDefEqProofs
 refine A0v (hQ [24]) l.length 4 (λT M1=>∃(i:Nat) (q:List A1G) (vq:AV),T 0=.list 1 (A1b l) o/\T 3=vq/\T 4=I i/\i<=l.length/\A1n 110 5 A1G.row M1 vq q/\A3o l 0=q++A3o l i/\q.length<=i/\Grow M M1/\A1r M.length vq) ?_ ?_
 .exact⟨0,[],A0i,by simp,by simp,by simp,by omega,.nil,rfl,by simp,A0c.refl _ _,λf hf=>by simp at hf⟩
 rintro T M1 ⟨i,q,vq,t0,t3,t4,h1,h2,h3,h4,h5,h6⟩
 by_cases c:i<l.length
 .have c':(i:Int)<l.length:=by omega
  have m:IntKind.i64.wrap ((i:Int)+1)=(i+1:Nat):=by rw[A0T (by omega) (by omega)];omega
  simp -dsimp -implicitDefEqProofs[t0,t4,c'];refine A0s func147 (C8G gl l o hl r i M1) ?_;rintro _ M2 ⟨rfl,rfl⟩;cases hc:B1y (B5j (l.drop i))with
  |none=>rw[D1W c hc]at h3;have hk:Grow M2 (M2++[A0l.cells 110 (A7K none i)]):=A0c.app none _ _;simp -dsimp -implicitDefEqProofs[t0,t3,t4,A0m,A0n,A0e,m];exact⟨⟨i+1,by omega,by omega,q,h2.keep hk (by simp),h3,by omega,h5.trans hk,h6⟩,by omega⟩
  |some g=>
   obtain⟨⟨k,p,to⟩,n⟩:=g;rw[D3e c hc]at h3;obtain⟨b1,b2,b3,b4⟩:=B1A hc;have hn:=B8Q (l.drop i);rw[Z1w]at hn;obtain⟨M3,a⟩:∃M3,M3=M2++[A0l.cells 110 [I k,.list 2 (A1K p) .no,S to,I i,I ((i:Int)+n)]]:=⟨_,rfl⟩;(have hk:Grow M2 M3:=by rw[a];exact A0c.app none _ _);(have hx:M3[M2.length]?=some (A0l.cells 110 [I k,.list 2 (A1K p) .no,S to,I i,I ((i:Int)+n)]):=by rw[a];simp);have ho:=h2.keep hk (by simp);simp -dsimp -implicitDefEqProofs[t3,A0m,A0n,A0e,A7K];rw[<-a];simp -dsimp -implicitDefEqProofs[A0b hx,A0p,A0Z];refine A3V (C:=WC gl) (enc:=A1G.row) (e:=110) (sz:=5) (news:=[⟨k,p,to,i,(i:Int)+n⟩]) C2U D0G C3D (λ_=>rfl) ho (by simp[A0z,A1G.row,A1K]) (by simp;omega) rfl ?_;intro v' M4 k1 k2 k3 _;have d:A1r M.length v':=λf hf=>by
    rcases k3 with h|h
    .exact h6 f (h▸hf)
    .have:=h f hf;have:=h5.1;have:=hk.1;omega
   have hg:Grow M M4:=by refine⟨Z0S (h5.trans hk).1 k2.1,λj hj _=>?_⟩;rw[k2.2 j (by have:=(h5.trans hk).1;omega) λe=>by have:=h6 j e;omega];exact(h5.trans hk).2 j hj (by simp)
   (have b:M4[M2.length]?=some (A0l.cells 110 [I k,.list 2 (A1K p) .no,S to,I i,I ((i:Int)+n)]):=k2.get hx λe=>by have:=h2.lt e;omega);simp -dsimp -implicitDefEqProofs[t0,t4,A0b b]
   exact⟨⟨i+n,by omega,by omega,_,k1,by rw[h3];simp,by simp;omega,hg,d⟩,by omega⟩
 .have c':¬(i:Int)<l.length:=by omega
  rw[D4P (l:=l) (i:=i) (by omega),Z1F]at h3;simp -dsimp -implicitDefEqProofs[t0,t3,t4,c'];rw[h3];exact⟨h2,h5,h6⟩
end
open Go.Proofs TryTypes
section
variable (gl:Nat->AV)
end
section
variable (gl:Nat->AV)
end
section
variable (gl:Nat->AV)
def C7f(x y:Int)(M:Mem):A0d (WC gl) 73 [I x,I y] M (λv M'=>v=I (A9z x y)/\M'=M):=by refine A0j hB func73 ?_;by_cases h1:y=6<;>by_cases h2:x=0<;>simp -dsimp -implicitDefEqProofs[A9z,h1,h2]
end
end Go.Abs
