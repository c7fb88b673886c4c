/- The texts CsW, CvC, CvD, CyI, CvE, CvF, CvG, CvH, CvI, CvJ, CvK, CvL, CvP, CvM, CvN. -/
import Derived.Test.YtmpdkagfplajjaaGreatDoorHG30
import Derived.Test.YtmpdkagfplajjaaGreatDoorHG25
set_option linter.all false
set_option maxRecDepth 100000
namespace Go.Abs
def D9f{k}{p}{to}:A7P ((k,p,to),[])=if A2M k p to=true then some (k,p,to)else none:=by simp[A7P]
def B4o{k}{p}{to}{b:Prop}[Decidable b](h:A7P ((k,p,to),[])=if b then some (k,p,to)else none):A2M k p to=decide b:=by rw[D9f]at h;by_cases c:A2M k p to=true<;>by_cases e:b<;>simp_all
def D0F(n:Nat)(w:List ByteArray):∀s∈prs n w,0<s.k:=λs hs=>by have:=Z0p.1 (A3Z n w).1 s hs;simp only[A1k,Z0f,Z0k]at this;omega
def D2u{k}(hk:k=0\/k=4)(w:List ByteArray):A2M k (A3e w) ⟨#[]⟩=decide (A1h w≠bkN w):=by
 have hb:=B6G w;obtain⟨h1,h2,h3⟩:=A3Z (9-bkN w) (w.drop (bkN w));refine B4o ?_;rw[show A3e w=bkS w++prs (9-bkN w) (w.drop (bkN w))from rfl,B2Z hk (D0F _ _)];have e:(prs (9-bkN w) (w.drop (bkN w))≠[]/\(prs (9-bkN w) (w.drop (bkN w))).all A1k=true/\bkN w+(prs (9-bkN w) (w.drop (bkN w))).length<=9)<->A1h w≠bkN w:=by
  unfold A1h;constructor
  .rintro⟨a,-,-⟩;have:=Z2f.2 a;omega
  .intro a;exact⟨λe=>a (by rw[e];simp),h1,by omega⟩
 by_cases c:A1h w≠bkN w
 .rw[Z0e (e.2 c),Z0e c]
 .rw[Z0d λh=>c (e.1 h),Z0d c]
def D3c{w}{s}{d}(h:A4d (w.drop (A1h w))=some (s,d)):A2M 1 (A3e w++[s]) d=decide ((A3e w).length<=8):=by
 obtain⟨h1,h2,h3⟩:=A3Z (9-bkN w) (w.drop (bkN w));unfold A4d at h;split at h
 .rename_i a b c d' r hd;split at h
  .rename_i hc;obtain⟨c1,c2,c3,c4⟩:=hc;simp only[Z0b,Z0h]at h;obtain⟨rfl,rfl⟩:=h;refine B4o ?_;have:=@B6u w _ (D0F (9-bkN w) (w.drop (bkN w))) a b d' c1;rw[show A3e w=bkS w++prs (9-bkN w) (w.drop (bkN w))from rfl,this];(have e:((prs (9-bkN w) (w.drop (bkN w))).all A1k=true/\bkN w+(prs (9-bkN w) (w.drop (bkN w))).length<=8/\A0O b=true/\A0O d'=true)<->(bkS w++prs (9-bkN w) (w.drop (bkN w))).length<=8:=by rw[Z0t,B1s];exact⟨λh=>h.2.1,λh=>⟨h1,h,c2,c4⟩⟩);by_cases c:(bkS w++prs (9-bkN w) (w.drop (bkN w))).length<=8
   .rw[Z0e (e.2 c),Z0e c]
   .rw[Z0d λh=>c (e.1 h),Z0d c]
  .exact absurd h (by simp)
 .exact absurd h (by simp)
def C7w:A0O ⟨#[]⟩=false:=by decide+kernel
def C3h{p}:A2M 1 p ⟨#[]⟩=false:=by simp[A2M,C7w]
def C3s{k}{to}:A2M k [] to=false:=by have h1:A1X []=false:=rfl;have h2:A5f []=false:=rfl;simp[A2M,h1,h2]
def B5d{k}(hk:k=2\/k=3){r}{p}{n}(h:A2L r=some (p,n)):A2M k p ⟨#[]⟩=true:=by
 cases r with
 |nil=>simp[A2L]at h
 |cons a r=>
  unfold A2L at h;simp only at h;split at h
  .rename_i hc;simp only[Z0b,Z0h]at h;obtain⟨rfl,rfl⟩:=h;obtain⟨h1,h2,h3⟩:=A3Z 8 r;have:=@B4o k (⟨kS a,⟨#[]⟩⟩::prs 8 r) ⟨#[]⟩ True _ (by rw[C6h hk hc,Z0e ⟨rfl,h1,h2⟩];simp);simpa using this
  .exact absurd h (by simp)
def B0j{w}{c}{n}(h:A9a w=some (c,n)):A2M c.1 c.2.1 c.2.2=true/\0<n/\n<=w.length/\n<=23:=by
 have hb:=B5e w;rw[h]at hb;obtain⟨h1,h2,h3,h4,-⟩:=hb;refine⟨?_,h2,h3,h4⟩;unfold A1G A1S at h1;unfold A7P at h1;split at h1
 .rename_i hh;simp only[Z0b]at h1;rw[<-h1];exact hh.2
 .exact absurd h1 (by simp)
def A1i(l:List ByteArray)(at_:Nat)(en:Bool):List ByteArray:=if en=true then[]else A5z (l.drop at_)
def C7X{l}{at_}{en}(h:en=true\/l.length<=at_):A1i l at_ en=[]:=by
 unfold A1i;rcases h with h|h
 .rw[Z0e h]
 .split
  .rfl
  .rw[Z0v h];rfl
def D0A{l}{at_}(h:at_<l.length):A1i l at_ false=A7t (l[at_])::A1i l (at_+1) (!A2S l[at_]):=by unfold A1i;simp only[Z0H,Z1i];rw[Z0j h,A5z];cases c:A2S l[at_]<;>simp
def A6A(l:List ByteArray):Nat->Nat->List A1e
 |0,_=>[]
 |f+1,i=>if l.length<=i then[]else match A9a (A5z (l.drop i))with
  |some (c,n)=>⟨c.1,c.2.1,c.2.2,i,i+n⟩::A6A l f (i+n)
  |none=>A6A l f (i+1)
def B2H(l:List ByteArray):∀f g i,l.length<=f+i->l.length<=g+i->A6A l f i=A6A l g i
 |0,0,i,_,_=>rfl
 |0,g+1,i,h,_=>by rw[A6A,A6A,Z0e (by omega)]
 |f+1,0,i,_,h=>by rw[A6A,A6A,Z0e (by omega)]
 |f+1,g+1,i,h1,h2=>by
  rw[A6A,A6A];split
  .rfl
  .split
   .rename_i c n e;have:=(B0j e).2.1;rw[B2H l f g (i+n) (by omega) (by omega)]
   .rw[B2H l f g (i+1) (by omega) (by omega)]
def A2d(l:List ByteArray)(i:Nat):List A1e:=A6A l (l.length-i) i
def C6q{l}{i}(h:l.length<=i):A2d l i=[]:=by unfold A2d;rw[show l.length-i=0 from by omega];rfl
def C2M{l}{i n}{c}(h:i<l.length)(hc:A9a (A5z (l.drop i))=some (c,n)):A2d l i=⟨c.1,c.2.1,c.2.2,i,i+n⟩::A2d l (i+n):=by unfold A2d;obtain⟨f,hf⟩:∃f,l.length-i=f+1:=⟨l.length-i-1,by omega⟩;have:=(B0j hc).2.1;rw[hf,A6A,Z0d (by omega),hc];simp only;rw[B2H l f (l.length-(i+n)) (i+n) (by omega) (by omega)]
def C1O{l}{i}(h:i<l.length)(hc:A9a (A5z (l.drop i))=none):A2d l i=A2d l (i+1):=by unfold A2d;obtain⟨f,hf⟩:∃f,l.length-i=f+1:=⟨l.length-i-1,by omega⟩;rw[hf,A6A,Z0d (by omega),hc];simp only;rw[B2H l f (l.length-(i+1)) (i+1) (by omega) (by omega)]
def B4I(l:List ByteArray):∀f i,∀c∈A6A l f i,A2M c.k c.path c.to=true/\(i:Int)<=c.frm/\c.frm<c.at_/\c.at_<=l.length
 |0,i,c,hc=>by simp[A6A]at hc
 |f+1,i,c,hc=>by
  rw[A6A]at hc;split at hc
  .simp at hc
  .split at hc
   .rename_i x n e;obtain⟨h1,h2,h3,h4⟩:=B0j e;have ht:=A9Y (l.drop i);simp at ht;simp only[Z0s]at hc;rcases hc with rfl|hc
    .exact⟨h1,Int.le_refl _,by simp;omega,by simp;omega⟩
    .obtain⟨a,b,d,e⟩:=B4I l f (i+n) c hc;exact⟨a,by omega,d,e⟩
   .obtain⟨a,b,d,e⟩:=B4I l f (i+1) c hc;exact⟨a,by omega,d,e⟩
def A7C(l:List ByteArray):∀f i,(A6A l f i).length<=l.length-i
 |0,i=>by simp[A6A]
 |f+1,i=>by
  rw[A6A];split
  .simp
  .split
   .rename_i x n e;have:=(B0j e).2.1;have:=A7C l f (i+n);simp;omega
   .have:=A7C l f (i+1);omega
open Go.Proofs TryTypes Tryz
def A4J(s:ByteArray):Bool:=decide (1<=s.size)&&decide (s.size<=24)&&decide (A1M (A1j 33 126) s s.size 0<0)
def A5V(ws:List A0Q):Bool:=decide (ws.length<=256)&&ws.all λw=>A4J w.text
def B2x(s:ByteArray):List (List AV):=s.data.toList.map λb=>[.val (.int .u8 b.toNat)]
@[simp] def E2d(s:ByteArray):(B2x s).length=s.size:=by simp only[B2x,Z0G,Z1z];rfl
@[simp] def E2g{s}{i}(h:i<(B2x s).length):(B2x s)[i]=[.val (.int .u8 (A0P s i))]:=by
 have h':i<s.size:=by simpa using h
 rw[B9L s i h'];simp only[B2x,Z1R,Array.getElem_toList];rfl
def B8n(p:Int->Bool)(s:ByteArray){i}(h:i<s.size):A1M p s (s.size-i) i=if p (A0P s i)then(i:Int)else A1M p s (s.size-(i+1)) (i+1):=by
 have:s.size-i=(s.size-(i+1))+1:=by omega
 rw[this];rfl
def A3i{α:Type}(p:α->Bool):List α->Nat->Int
 |[],_=>-1
 |x::l,i=>if p x then(i:Int)else A3i p l (i+1)
def A8x{α:Type}(p:α->Bool):∀(l:List α) (i:Nat),decide (0<=A3i p l i)=l.any p
 |[],i=>by simp[A3i]
 |x::l,i=>by
  rw[A3i,Z3k];cases h:p x
  .rw[Z0d (by simp),Z1J];exact A8x p l (i+1)
  .rw[Z0e rfl,Z2X];exact Z0w (Int.natCast_nonneg i)
abbrev A4M(s:ByteArray):List AV:=[S s]
def A1g.at1{α:Type}{e}{enc:α->List AV}{M}{v}{l}{P}{t:TypeId}(h:A1g e 1 enc M v l){f:α->AV}(hf:∀x,enc x=[f x])(ha:A2w P t=some false)(hs:A1u P t=some 1){i}(hi:i<l.length):∃p,A6q (some (some 1)) v (I i)=some p/\A1y P t M p=some (f l[i]):=by
 have he:∀x,(enc x).length=1:=λx=>by rw[hf];rfl
 rcases h with⟨rfl,rfl⟩|⟨f',g,a,rfl,hm,hl⟩
 .simp at hi
 .refine⟨.vptr f' g (i*1),by simp[hi],?_⟩;simp only[A1y,A3k,hm,hl,Z3i,A0j,ha,hs];rw[Z0g (by rw[A3m he];exact Z0n _),A7Z he,Z0j hi,Z0Y,hf];rfl
section
variable (gl:Nat->AV) (M:Mem)
def E1u(c:Int):A0e (WC gl) 379 [.val (.int .u8 c)] M (λv M'=>v=B (A1j 33 126 c)/\M'=M):=by
 refine A0n hB func379 ?_;by_cases h1:c<33
 .simp -dsimp[A1j,h1]
 .simp -dsimp[A1j,h1]
def D8i(s:ByteArray)(hs:s.size<=maxLen):A0e (WC gl) 397 [.list 1 (B2x s) .no,.func (.func 379) [] []] M (λv M'=>v=I (A1M (A1j 33 126) s s.size 0)/\M'=M):=by
 refine A0n hB func397 ?_;have b:s.size<=9223372036854775807:=hs;simp -dsimp;refine A0B hB s.size 8 (λT M1=>∃i:Nat,i<=s.size/\M1=M/\T 0=.list 1 (B2x s) .no/\T 1=.func (.func 379) [] []/\T 7=I s.size/\T 8=I i/\A1M (A1j 33 126) s s.size 0=A1M (A1j 33 126) s (s.size-i) i) ?_ ?_
 .exact⟨0,by omega,rfl,by simp,by simp,by simp,by simp,by simp⟩
 .rintro T M1 ⟨i,i1,rfl,t0,t1,t7,t8,ho⟩;by_cases hi:i<s.size
  ·(have a:(i:Int)<s.size:=by omega);have w1:IntKind.i64.wrap ((i:Int)+1)=(i+1:Nat):=by rw[A0L (by omega) (by omega)];omega
   rw[B8n _ _ hi]at ho;simp -dsimp[t0,t1,t7,t8,hi,a];refine A0h func379 (E1u gl _ _) ?_;cases hp:A1j 33 126 (A0P s i)
   .rw[hp,Z0d (by simp)]at ho;simp -dsimp[t0,t1,t7,t8,w1];exact⟨⟨i+1,by clear w1;omega,rfl,ho⟩,by clear w1;omega⟩
   .rw[hp,Z0e rfl]at ho;simp -dsimp[t0,t1,t7,t8,ho]
  ·(have a:¬(i:Int)<s.size:=by omega);rw[show s.size-i=0 by omega]at ho
   simp -dsimp[t0,t1,t7,t8,a,ho,A1M]
def D6v(s:ByteArray)(hs:s.size<=maxLen):A0e (WC gl) 380 [.list 1 (B2x s) .no,.func (.func 379) [] []] M (λv M'=>v=B (decide (0<=A1M (A1j 33 126) s s.size 0))/\M'=M):=by refine A0n hB func380 ?_;simp -dsimp;refine A0h func397 (D8i gl M s hs) ?_;simp -dsimp
def C5x{h}{d}{x}{t:TypeId}{p}{af}{g}{ρ:Operand->AV}{M}{s}(hx:ρ x=S s)(hs:s.size<2^62):A0U (WC gl) h ⟨d,.convert 9 114 x,t,p,af,g⟩ ρ M=some (.list 1 (B2x s) .no,M):=by
 have a:s.size<4611686018427387904:=by simpa using hs
 simp[A0U,A0I,A2b,A2c,A1d,A6T,hx,A6d,B2P,B2x,a]
def D8e(s:ByteArray)(hs:s.size<=maxLen):A0e (WC gl) 339 [S s] M (λv M'=>v=B (A4J s)/\M'=M):=by
 refine A0n hB func339 ?_;by_cases h0:s.size=0
 .have he:s=⟨#[]⟩:=A8D.2 h0;have hw:A4J ⟨#[]⟩=false:=by decide
  simp -dsimp[he,hw]
 .have he:¬s=⟨#[]⟩:=λh=>h0 (A8D.1 h);have h1:decide (1<=s.size)=true:=Z0w (by omega);by_cases h2:s.size<=24
  ·(have b:(s.size:Int)<=24:=by omega);have hw:A4J s=decide (A1M (A1j 33 126) s s.size 0<0):=by simp[A4J,h1,h2]
   simp -dsimp[he,b,hw,A6d];rw[C5x gl (s:=s) (by rfl) (by omega)];simp -dsimp;refine A0h func380 (D6v gl M s hs) ?_;by_cases h3:0<=A1M (A1j 33 126) s s.size 0
   ·(have a:¬A1M (A1j 33 126) s s.size 0<0:=by omega);rw[Z0r a]at hw
    simp -dsimp[h3,a,hw]
   ·(have a:A1M (A1j 33 126) s s.size 0<0:=by omega);rw[Z0w a]at hw
    simp -dsimp[h3,a,hw]
  ·(have b:¬(s.size:Int)<=24:=by omega);have hw:A4J s=false:=by simp[A4J,h2]
   simp -dsimp[he,b,hw]
def D9W(s:ByteArray)(hs:s.size<=maxLen):A0e (WC gl) 338 [S s] M (λv M'=>v=B (!A4J s)/\M'=M):=by refine A0n hB func338 ?_;simp -dsimp;refine A0h func339 (D8e gl M s hs) ?_;simp -dsimp
def D8H(l:List ByteArray)(hl:l.length<=1000)(hs:∀s∈l,s.size<=maxLen)(v:AV)(hv:A1g 9 1 A4M M v l):A0e (WC gl) 378 [v,.func (.func 338) [] []] M (λr M'=>r=I (A3i (λs=>!A4J s) l 0)/\M'=M):=by
 refine A0n hB func378 ?_;have b:A2y prog 37 v=some l.length:=hv.len (e':=9) (by simp);simp -dsimp[b];refine A0B hB l.length 8 (λT M1=>∃i:Nat,i<=l.length/\M1=M/\T 0=v/\T 1=.func (.func 338) [] []/\T 7=I l.length/\T 8=I i/\A3i (λs=>!A4J s) l 0=A3i (λs=>!A4J s) (l.drop i) i) ?_ ?_
 .exact⟨0,by omega,rfl,by simp,by simp,by simp,by simp,by simp⟩
 .rintro T M1 ⟨i,i1,rfl,t0,t1,t7,t8,ho⟩;by_cases hi:i<l.length
  ·(have a:(i:Int)<l.length:=by omega);have w1:=A1H (i:=i) (by omega)
   obtain⟨p,p1,p2⟩:=hv.at1 (P:=prog) (t:=9) (f:=S) (λ_=>rfl) (by simp) (by simp) hi;have hd:l.drop i=l[i]::l.drop (i+1):=Z0j hi;rw[hd,A3i]at ho;simp -dsimp[t0,t1,t7,t8,hi,a,p1,p2];refine A0h func338 (D9W gl _ l[i] (hs _ (Z0o hi))) ?_;cases hp:A4J l[i]
   .rw[hp,Z0e (by rfl)]at ho;simp -dsimp[t0,t1,t7,t8,ho]
   .rw[hp,Z0d (by simp)]at ho;simp -dsimp[t0,t1,t7,t8,w1];exact⟨⟨i+1,by clear w1;omega,rfl,ho⟩,by clear w1;omega⟩
  ·(have a:¬(i:Int)<l.length:=by omega);rw[show l.drop i=[]from Z0v (by omega)]at ho
   simp -dsimp[t0,t1,t7,t8,a,ho,A3i]
def D6s(l:List ByteArray)(hl:l.length<=1000)(hs:∀s∈l,s.size<=maxLen)(v:AV)(hv:A1g 9 1 A4M M v l):A0e (WC gl) 337 [v,.func (.func 338) [] []] M (λr M'=>r=B (l.any λs=>!A4J s)/\M'=M):=by refine A0n hB func337 ?_;simp -dsimp;refine A0h func378 (D8H gl M l hl hs v hv) ?_;rw[<-A8x _ l 0];simp -dsimp
def C0X(l:List ByteArray)(hl:l.length<=1000)(hs:∀s∈l,s.size<=maxLen)(v:AV)(hv:A1g 9 1 A4M M v l):A0e (WC gl) 262 [v] M (λr M'=>r=B (decide (l.length<=256)&&l.all A4J)/\M'=M):=by
 refine A0n hB func262 ?_;have a:A2y prog 37 v=some l.length:=hv.len (e':=9) (by simp);by_cases h1:l.length<=256
 .have b:(l.length:Int)<=256:=by omega
  simp -dsimp[a,b,h1];refine A0h func337 (D6s gl M l hl hs v hv) ?_;have:(l.any λs=>!A4J s)=!l.all A4J:=by rw[List.not_all_eq_any_not]
  rw[this];simp -dsimp[h1]
 .have b:¬(l.length:Int)<=256:=by omega
  simp -dsimp[a,b,h1]
end
def A0z(l:List A0Q):List ByteArray:=l.map A0Q.text
def A9F:List (List Int):=[[1,2],[2],[3,4,7],[3,4,7],[5],[6],[],[]]
def A4E(p k:Int):Bool:=decide (0<=p)&&decide (p<8)&&(A9F.getD p.toNat []).contains k
def D2r(l:List A0Q):(A0z l).all A4J=l.all λw=>A4J w.text:=by simp[A0z,List.all_map];rfl
def hQ(l:List Nat):A2u:=⟨λ_=>true,λ_=>false,λd=>l.contains d⟩
@[simp] def E8v{l}:(hQ l).imm=λ_=>true:=(rfl)
@[simp] def E7r{l}:(hQ l).own=λ_=>false:=(rfl)
@[simp] def E7J{l}:(hQ l).vec=λd=>l.contains d:=(rfl)
section
variable (gl:Nat->AV) (M:Mem)
def C2L{own vec}{K:AV->Mem->Prop}{tg}{v}{M}{l}{s}{o}(hv:A1g 9 1 A4M M v l)(hl:l.length<=1000000000)(a:vec=true) (hk:∀v' M',A1g 9 1 A4M M' v' (l++[s])->A0c (obj v) M M'->(obj v'=obj v\/A1m M.length v')->K v' M'):A4Q (WC gl) own vec 37 37 v (.list 1 [[S s]] o) M K tg:=by
 refine A3B (C:=WC gl) (enc:=A4M) (e:=9) (sz:=1) (news:=[s]) A7g A9M B6h (λ_=>rfl) hv (by simp[A0D]) (by simp;omega) a ?_
 intro v' M' h1 h2 h3 _
 exact hk v' M' h1 h2 h3
def A2T{M M1 M2:Mem}{v v':AV}{X:List A0m}(h1:Grow M M1)(hl:A1m M.length v)(h2:A0c (obj v) (M1++X) M2)(h3:obj v'=obj v\/A1m (M1++X).length v'):Grow M M2/\A1m M.length v':=by
 refine⟨⟨?_,λi hi _=>?_⟩,λf hf=>?_⟩
 .have:=h1.1;have:=h2.1;simp at this;omega
 .rw[h2.2 i (by have:=h1.1;simp;omega) (λe=>by have:=hl _ e;omega),Z0i (by have:=h1.1;omega)];exact h1.2 i hi (by simp)
 .rcases h3 with e|e
  .exact hl f (by rw[<-e];exact hf)
  .have:=e f hf;have:=h1.1;simp at*;omega
def D5B(ws:List A0Q)(o:Own)(hl:ws.length<=100000000)(hs:∀w∈ws,w.text.size<=maxLen):A0e (WC gl) 208 [.list 4 (A0g ws) o] M (λv M'=>v=B (A5V ws)/\M'=M):=by
 have key:A0e (WC gl) 208 [.list 4 (A0g ws) o] M (λv M'=>(∃x,v=.val x/\x=.bool (A5V ws))/\Grow M M'):=by
  refine A0n (hQ [16]) func208 ?_;simp -dsimp;refine A0B (hQ [16]) ws.length 8 (λT M1=>∃i:Nat,i<=ws.length/\T 0=.list 4 (A0g ws) o/\T 6=.list 4 (A0g ws) o/\T 7=I ws.length/\T 8=I i/\A1g 9 1 A4M M1 (T 3) (A0z (ws.take i))/\Grow M M1/\A1m M.length (T 3)) ?_ ?_
  .exact⟨0,by omega,by simp,by simp,by simp,by simp,by simpa[A0z]using A1g.nil,A0c.refl _ _,by simp[A1m]⟩
  .rintro T M1 ⟨i,i1,t0,t6,t7,t8,hv,hg,hL⟩;by_cases hi:i<ws.length
   ·(have a:(i:Int)<ws.length:=by omega);have w1:IntKind.i64.wrap ((i:Int)+1)=(i+1:Nat):=by rw[A0L (by omega) (by omega)];omega
    generalize d:T 3=ov at*;(have e:(M1++[A0m.cells 152 [S ws[i].text,I ws[i].act,I ws[i].item,I ws[i].at_]])[M1.length]?=some (A0m.cells 152 [S ws[i].text,I ws[i].act,I ws[i].item,I ws[i].at_]):=by simp);have c:A1g 9 1 A4M (M1++[A0m.cells 152 [S ws[i].text,I ws[i].act,I ws[i].item,I ws[i].at_]]) ov (A0z (ws.take i)):=hv.keep (A0c.app none M1 _) (by simp);(have ht:A0z (ws.take (i+1))=A0z (ws.take i)++[ws[i].text]:=by rw[A0z,A0z,Z1r,Z0l hi,Z0U];rfl);simp -dsimp[t0,t6,t7,t8,hi,a,d,A0k,A0i,A0d,A0Q.row,A0b e,A0l,A0M];refine C2L gl c (by simp[A0z];omega) rfl ?_;intro v' M' h1 h2 h3;obtain⟨k1,k2⟩:=A2T hg hL h2 h3;simp -dsimp[t0,t6,t7,t8,w1];exact⟨⟨i+1,by clear w1;omega,rfl,by rw[ht];exact h1,k1,k2⟩,by clear w1;omega⟩
   ·(have a:¬(i:Int)<ws.length:=by omega);rw[Z0g (by omega)]at hv
    by_cases h3:ws.length<=256
    ·(have b:(ws.length:Int)<=256:=by omega);simp -dsimp[t0,t6,t7,t8,a,b]
     refine A0q func262 (C0X gl M1 (A0z ws) (by simp[A0z];omega) (by simpa[A0z]using hs) (T 3) hv) ?_;rintro _ _ ⟨rfl,rfl⟩;rw[D2r];simp -dsimp[A5V,A0z,hg]
    ·(have b:¬(ws.length:Int)<=256:=by omega);simp -dsimp[t0,t6,t7,t8,a,b,A5V,hg,h3]
 have:=B0g (Q:=λx=>x=.bool (A5V ws)) key;exact this.mono (by rintro v M' ⟨⟨x,rfl,rfl⟩,rfl⟩;exact⟨rfl,rfl⟩)
end
section
variable (gl:Nat->AV) (M:Mem)
def B9n(p:Int->Bool)(s:ByteArray){i}(h:i<s.size):A1M p s (s.size-i) i=if p (A0P s i)then(i:Int)else A1M p s (s.size-(i+1)) (i+1):=by
 have:s.size-i=(s.size-(i+1))+1:=by omega
 rw[this];rfl
def B8D{s:ByteArray}{i:Nat}(h:A1M (A1j 48 57) s s.size 0=(i:Int)):A1A s=i:=by simp only[A1A,h];split<;>omega
def C3x{s}(h:A1M (A1j 48 57) s s.size 0=-1):A1A s=s.size:=by simp only[A1A,h];rfl
def D1E(s:ByteArray)(hs:s.size<=maxLen):A0e (WC gl) 155 [S s] M (λv M'=>v=I (A1A s)/\M'=M):=by
 refine A0n hB func155 ?_;simp -dsimp -implicitDefEqProofs;refine A0B hB s.size 3 (λT M1=>∃i:Nat,i<=s.size/\M1=M/\T 0=S s/\T 3=I i/\A1M (A1j 48 57) s s.size 0=A1M (A1j 48 57) s (s.size-i) i) ?_ ?_
 .refine⟨0,?_⟩;simp -dsimp -implicitDefEqProofs
 .rintro T M1 ⟨i,h1,rfl,h3,h4,h5⟩;by_cases hi:i<s.size
  ·(have a:(i:Int)<s.size:=by omega);have hw:IntKind.i64.wrap ((i:Int)+1)=(i+1:Nat):=by rw[A0L (by omega) (by simp only[maxLen]at hs;omega)];omega
   rw[B9n _ _ hi]at h5;by_cases c1:A0P s i>=48
   .by_cases c2:A0P s i<=57
    ·(have ho:A1j 48 57 (A0P s i)=false:=by simp[A1j];omega);rw[ho]at h5
     have b:(48:Int)<=A0P s i:=c1;simp -dsimp -implicitDefEqProofs[h3,h4,hi,a,c1,b,c2,hw];refine⟨⟨i+1,by clear hw;omega,by simp,by simpa using h5⟩,by clear hw;omega⟩
    ·(have ho:A1j 48 57 (A0P s i)=true:=by simp[A1j];omega);rw[ho]at h5
     have b:(48:Int)<=A0P s i:=c1;have hd:=B8D (by simpa using h5);simp -dsimp -implicitDefEqProofs[h3,h4,hi,a,c1,b,c2,hd]
   ·(have ho:A1j 48 57 (A0P s i)=true:=by simp[A1j];omega);rw[ho]at h5
    have b:¬(48:Int)<=A0P s i:=c1;have hd:=B8D (by simpa using h5);simp -dsimp -implicitDefEqProofs[h3,h4,hi,a,c1,b,hd]
  ·(have a:¬(i:Int)<s.size:=by omega);rw[show s.size-i=0 by omega]at h5
   have hd:=C3x (by rw[h5];rfl);(have c:(i:Int)=s.size:=by omega);simp -dsimp -implicitDefEqProofs[h3,h4,a,hd,c]
def B6J(s:ByteArray)(hs:s.size<=maxLen):A0e (WC gl) 105 [S s] M (λv M'=>v=B (A0O s)/\M'=M):=by
 refine A0n hB func105 ?_;simp -dsimp -implicitDefEqProofs;refine A0q func155 (D1E gl M s hs) ?_;rintro r M' ⟨rfl,rfl⟩;have g:=B0A s;generalize hd:A1A s=d at*;by_cases c1:1<=d;case neg=>
  have:(d:Int)<1:=by omega
  simp -dsimp -implicitDefEqProofs[this,A0O,hd,c1]
 have i1:¬(d:Int)<1:=by omega
 by_cases c2:d<=4;case neg=>
  have:(4:Int)<d:=by omega
  simp -dsimp -implicitDefEqProofs[this,A0O,hd,c1,i1,c2]
 have i2:¬(4:Int)<d:=by omega
 have b:0<s.size:=by omega
 by_cases c3:A0P s 0=48
 .simp -dsimp -implicitDefEqProofs[A0O,hd,c1,i1,c2,i2,c3,b]
 have hw:IntKind.i64.wrap ((s.size:Int)-d)=(s.size-d:Nat):=by rw[A0L (by omega) (by simp only[maxLen]at hs;omega)];omega
 by_cases c4:s.size-d<=3;case neg=>
  have:(3:Int)<(s.size-d:Nat):=by omega
  have f:¬s.size<=3+d:=by omega
  simp -dsimp -implicitDefEqProofs[A0O,hd,c1,i1,c2,i2,c3,b,hw,this,f]
 have i4:¬(3:Int)<(s.size-d:Nat):=by omega
 simp -dsimp -implicitDefEqProofs[A0O,hd,c1,i1,c2,i2,c3,b,hw,i4];have e:A0O s=decide (A1M (A1j 65 90) s (s.size-d) d<0):=by simp[A0O,hd,c1,c2,c3];omega
 rw[e];clear e;refine A0B hB s.size 4 (λT M1=>∃i:Nat,i<=s.size/\M1=M'/\T 0=S s/\T 4=I i/\decide (A1M (A1j 65 90) s (s.size-d) d<0)=decide (A1M (A1j 65 90) s (s.size-i) i<0)) ?_ ?_
 .refine⟨d,?_⟩;simp -dsimp -implicitDefEqProofs[g]
 .rintro T M1 ⟨i,h1,rfl,h3,h4,h5⟩;rw[h5];by_cases hi:i<s.size
  ·(have a:(i:Int)<s.size:=by omega);have hw:IntKind.i64.wrap ((i:Int)+1)=(i+1:Nat):=by rw[A0L (by omega) (by simp only[maxLen]at hs;omega)];omega
   rw[B9n _ _ hi]at h5|-;by_cases c1:A0P s i<65
   ·(have ho:A1j 65 90 (A0P s i)=true:=by simp[A1j];omega);rw[ho]at h5|-
    simp -dsimp -implicitDefEqProofs[h3,h4,hi,a,c1]
   .by_cases c2:A0P s i>90
    ·(have ho:A1j 65 90 (A0P s i)=true:=by simp[A1j];omega);rw[ho]at h5|-
     have c:90<A0P s i:=c2;simp -dsimp -implicitDefEqProofs[h3,h4,hi,a,c1,c2,c]
    ·(have ho:A1j 65 90 (A0P s i)=false:=by simp[A1j];omega);rw[ho]at h5|-
     have c:¬90<A0P s i:=c2;simp -dsimp -implicitDefEqProofs[h3,h4,hi,a,c1,c2,c,hw];refine⟨⟨i+1,by clear hw;omega,by simp,Iff.rfl⟩,by clear hw;omega⟩
  ·(have a:¬(i:Int)<s.size:=by omega);rw[show s.size-i=0 by omega]at h5|-
   simp -dsimp -implicitDefEqProofs[h3,h4,a,A1M]
end
section
variable (gl:Nat->AV) (M:Mem)
def E2O(s:ByteArray)(hs:s.size<=maxLen):A0e (WC gl) 193 [S s] M (λv M'=>v=B (A4J s)/\M'=M):=by
 refine A0n hB func193 ?_;by_cases h1:s.size<1
 .have d:(s.size:Int)<1:=by omega
  have hw:A4J s=false:=by simp[A4J];omega
  simp -dsimp[d,hw]
 have d:¬(s.size:Int)<1:=by omega
 by_cases h2:s.size<=24;case neg=>
  have a:(24:Int)<s.size:=by omega
  have e:(s.size:Int)>24:=a;have hw:A4J s=false:=by simp[A4J,h2]
  simp -dsimp[d,a,e,hw]
 have a:¬(24:Int)<s.size:=by omega
 have e:¬(s.size:Int)>24:=a;have hw:A4J s=decide (A1M (A1j 33 126) s s.size 0<0):=by
  have:1<=s.size:=by omega
  simp[A4J,h2,this]
 simp -dsimp[d,a,e];refine A0B hB s.size 3 (λT M1=>∃i:Nat,i<=s.size/\M1=M/\T 0=S s/\T 3=I i/\A1M (A1j 33 126) s s.size 0=A1M (A1j 33 126) s (s.size-i) i) ?_ ?_
 .exact⟨0,by omega,rfl,by simp,by simp,by simp⟩
 .rintro T M1 ⟨i,i1,rfl,t0,t3,ho⟩;by_cases hi:i<s.size
  ·(have b:(i:Int)<s.size:=by omega);have w1:IntKind.i64.wrap ((i:Int)+1)=(i+1:Nat):=by rw[A0L (by omega) (by omega)];omega
   rw[B8n _ _ hi]at ho;generalize hc:A0P s i=c at*;by_cases c1:c<33
   ·(have hp:A1j 33 126 c=true:=by simp[A1j,c1]);rw[hp,Z0e rfl]at ho
    (have hn:¬A1M (A1j 33 126) s s.size 0<0:=by rw[ho];omega);rw[Z0r hn]at hw
    simp -dsimp[t0,t3,hi,b,hc,c1,hw]
   .by_cases c2:c>126
    ·(have hp:A1j 33 126 c=true:=by simp[A1j];omega);rw[hp,Z0e rfl]at ho
     (have hn:¬A1M (A1j 33 126) s s.size 0<0:=by rw[ho];omega);rw[Z0r hn]at hw
     have f:126<c:=c2;simp -dsimp[t0,t3,hi,b,hc,c1,c2,f,hw]
    ·(have hp:A1j 33 126 c=false:=by simp[A1j];omega);rw[hp,Z0d (by simp)]at ho
     have f:¬126<c:=c2;simp -dsimp[t0,t3,hi,b,hc,c1,c2,f,w1];exact⟨⟨i+1,by clear w1;omega,rfl,ho⟩,by clear w1;omega⟩
  ·(have b:¬(i:Int)<s.size:=by omega);rw[show s.size-i=0 by omega]at ho
   (have hn:A1M (A1j 33 126) s s.size 0<0:=by rw[ho,A1M];omega);rw[Z0w hn]at hw
   simp -dsimp[t0,t3,b,hw]
def D6m(M:Mem)(l:List ByteArray)(v:AV)(M':Mem):Prop:=A1g 9 1 A4M M' v l/\Grow M M'/\A1m M.length v
def C2K(ws:List A0Q)(o:Own)(hl:ws.length<=100000000):A0e (WC gl) 33 [.list 4 (A0g ws) o] M (D6m M (A0z ws)):=by
 refine A0n (hQ [5,19]) func33 ?_;simp -dsimp;refine A0B (hQ [5,19]) ws.length 4 (λT M1=>∃i:Nat,i<=ws.length/\T 0=.list 4 (A0g ws) o/\T 4=I i/\A1g 9 1 A4M M1 (T 3) (A0z (ws.take i))/\Grow M M1/\A1m M.length (T 3)) ?_ ?_
 .refine⟨0,by omega,by simp,by simp,?_,A0c.app none M _,by simp[A1m]⟩;refine .inr ⟨M.length,0,[(0,0)],by simp[A0z],by simp[A0z],by simp[A0z,List.lookup]⟩
 .rintro T M1 ⟨i,i1,t0,t4,hv,hg,hL⟩;by_cases hi:i<ws.length
  ·(have a:(i:Int)<ws.length:=by omega);have w1:IntKind.i64.wrap ((i:Int)+1)=(i+1:Nat):=by rw[A0L (by omega) (by omega)];omega
   generalize b:T 3=ov at*;(have ht:A0z (ws.take (i+1))=A0z (ws.take i)++[ws[i].text]:=by rw[A0z,A0z,Z1r,Z0l hi,Z0U];rfl);simp -dsimp[t0,t4,hi,a,b,A0Q.row,A0l,A0M];refine C2L gl hv (by simp[A0z];omega) rfl ?_;intro v' M' h1 h2 h3;obtain⟨k1,k2⟩:=A2T (X:=[]) hg hL (by simpa using h2) (by simpa using h3);simp -dsimp[t0,t4,w1];exact⟨⟨i+1,by clear w1;omega,rfl,by rw[ht];exact h1,k1,k2⟩,by clear w1;omega⟩
  ·(have a:¬(i:Int)<ws.length:=by omega);rw[Z0g (by omega)]at hv
   simp -dsimp[t0,t4,a,D6m,hv,hg,hL]
end
def A9L(l:List Int):List (List AV):=l.map λx=>[I x]
@[simp] def E2A(l:List Int):(A9L l).length=l.length:=by simp[A9L]
@[simp] def E2u{p}{i}(h:i<(A9L p).length):(A9L p)[i]=[I (p[i]'(by simpa using h))]:=by simp[A9L]
def A2z:AV:=.cptr (A9F.map λl=>.list 1 (A9L l) .no)
def A9D:List ByteArray:=[⟨#[98,111,111,107]⟩,⟨#[112,97,114,116]⟩,⟨#[115,101,99,116,105,111,110]⟩,⟨#[112,97,114,97,103,114,97,112,104]⟩,⟨#[116,97,98,108,101]⟩,⟨#[114,111,119]⟩,⟨#[99,101,108,108]⟩,⟨#[110,111,116,101]⟩]
def A2K:AV:=.cptr (A9D.map S)
section
variable (gl:Nat->AV) (M:Mem)
def D1r(l:List Int)(o:Own)(hl:l.length<=1000)(x:Int):A0e (WC gl) 261 [.list 1 (A9L l) o,I x] M (λv M'=>v=I (A3i (λy=>decide (x=y)) l 0)/\M'=M):=by
 refine A0n hB func261 ?_;simp -dsimp;refine A0B hB l.length 8 (λT M1=>∃i:Nat,i<=l.length/\M1=M/\T 0=.list 1 (A9L l) o/\T 1=I x/\T 7=I l.length/\T 8=I i/\A3i (λy=>decide (x=y)) l 0=A3i (λy=>decide (x=y)) (l.drop i) i) ?_ ?_
 .exact⟨0,by omega,rfl,by simp,by simp,by simp,by simp,by simp⟩
 .rintro T M1 ⟨i,i1,rfl,t0,t1,t7,t8,ho⟩;by_cases hi:i<l.length
  ·(have a:(i:Int)<l.length:=by omega);have w1:=A1H (i:=i) (by omega)
   have hd:l.drop i=l[i]::l.drop (i+1):=Z0j hi;rw[hd,A3i]at ho;by_cases hp:x=l[i]
   .rw[Z0w hp,Z0e rfl]at ho;simp -dsimp[t0,t1,t7,t8,hi,a,hp.symm,ho]
   .rw[Z0r hp,Z0d (by simp)]at ho;simp -dsimp[t0,t1,t7,t8,hi,a,hp,w1];exact⟨⟨i+1,by clear w1;omega,rfl,ho⟩,by clear w1;omega⟩
  ·(have a:¬(i:Int)<l.length:=by omega);rw[show l.drop i=[]from Z0v (by omega)]at ho
   simp -dsimp[t0,t1,t7,t8,a,ho,A3i]
def C3D(l:List Int)(o:Own)(hl:l.length<=1000)(x:Int):A0e (WC gl) 205 [.list 1 (A9L l) o,I x] M (λv M'=>v=B (l.contains x)/\M'=M):=by
 refine A0n hB func205 ?_;simp -dsimp;refine A0h func261 (D1r gl M l o hl x) ?_;have:l.contains x=l.any λy=>decide (x=y):=by rw[List.contains_eq_any_beq];congr 1
 rw[this,<-A8x _ l 0];simp -dsimp
def E0d:C5B prog 242=some (8,130):=by kernel_rfl
def E0i:C5B prog 278=some (8,9):=by kernel_rfl
def D3o{h}{d}{y}{t:TypeId}{p}{af}{g}{ρ:Operand->AV}{M}{k}(h0:ρ (.global 0)=A2z)(hy:ρ y=I k)(k0:0<=k)(k8:k<8):A0U (WC gl) h ⟨d,.indexAddr 242 (.global 0) y,t,p,af,g⟩ ρ M=some (.cptr ((A9F.map λl=>AV.list 1 (A9L l) .no).drop k.toNat),M):=by simp[A0U,A0I,A2b,A2c,A1d,h0,hy,A2z,E0d,k0,k8]
def D3m{h}{d}{y}{t:TypeId}{p}{af}{g}{ρ:Operand->AV}{M}{k}(h0:ρ (.global 1)=A2K)(hy:ρ y=I k)(k0:0<=k)(k8:k<8):A0U (WC gl) h ⟨d,.indexAddr 278 (.global 1) y,t,p,af,g⟩ ρ M=some (.cptr ((A9D.map S).drop k.toNat),M):=by simp[A0U,A0I,A2b,A2c,A1d,h0,hy,A2K,E0i,k0,k8]
def C6D{e}{x i}{cs}(h:x=.cptr cs):A6q e x i=none:=by subst h;unfold A6q;split<;>simp_all
def A9B(hg:gl 0=A2z)(p k:Int):A0e (WC gl) 152 [I p,I k] M (λv M'=>v=B (A4E p k)/\M'=M):=by
 refine A0n hB func152 ?_;by_cases h0:0<=p;case neg=>
  have b:¬p>=0:=h0;have e:A4E p k=false:=by simp[A4E,h0]
  simp -dsimp[h0,b,e]
 have b:p>=0:=h0;by_cases h1:p<8;case neg=>
  have e:A4E p k=false:=by simp[A4E,h1]
  simp -dsimp[h0,b,h1,e]
 have hn:∀e,A6q e (gl 0) (I p)=none:=λe=>C6D hg;simp -dsimp[h0,b,h1,hn];rw[D3o gl (k:=p) (by exact hg) (by rfl) h0 h1];have c:p.toNat<A9F.length:=by show p.toNat<8;omega
 have hd:(A9F.map λl=>AV.list 1 (A9L l) .no).drop p.toNat=.list 1 (A9L A9F[p.toNat]) .no::(A9F.map λl=>AV.list 1 (A9L l) .no).drop (p.toNat+1):=by rw[Z0j (by simpa using c),Z1R]
 have a:∀l∈A9F,l.length<=1000:=by decide
 have e:A4E p k=A9F[p.toNat].contains k:=by simp only[A4E,Z0w h0,Z0w h1,Z0L,Z1O,Z0l c,Z1w]
 rw[e];simp -dsimp[hd];refine A0h func205 (C3D gl M _ .no (a _ (Z0o c)) k) ?_;simp -dsimp
def A4K(k:Int):ByteArray:=if 0<=k/\k<8 then A9D.getD k.toNat .empty else⟨#[]⟩
def A6u(k:Int):A4K k=⟨#[]⟩<->¬(0<=k/\k<8):=by
 unfold A4K;constructor
 .intro h hk;rw[Z0e hk]at h;have:∀i:Fin 8,A9D.getD i.val .empty≠⟨#[]⟩:=by decide
  exact this ⟨k.toNat,by omega⟩ h
 .intro h;rw[Z0d h]
def B1P(hg:gl 1=A2K)(k:Int):A0e (WC gl) 207 [I k] M (λv M'=>v=S (A4K k)/\M'=M):=by
 refine A0n hB func207 ?_;by_cases h0:k<0
 .have e:A4K k=⟨#[]⟩:=(A6u k).2 (by omega);simp -dsimp[h0,e]
 by_cases h1:8<=k
 .have a:k>=8:=h1;have e:A4K k=⟨#[]⟩:=(A6u k).2 (by omega);simp -dsimp[h0,h1,a,e]
 have a:¬k>=8:=h1;have hn:∀e,A6q e (gl 1) (I k)=none:=λe=>C6D hg;simp -dsimp[h0,h1,a,hn];rw[D3m gl (k:=k) (by exact hg) (by rfl) (by omega) (by omega)];have b:k.toNat<A9D.length:=by show k.toNat<8;omega
 have hd:(A9D.map S).drop k.toNat=S A9D[k.toNat]::(A9D.map S).drop (k.toNat+1):=by rw[Z0j (by simpa using b),Z1R]
 have e:A4K k=A9D[k.toNat]:=by rw[A4K,Z0e (by omega),Z1O,Z0l b];rfl
 rw[e];simp -dsimp[hd]
end
open Go.Proofs TryTypes
section
mutual
def A4F{A:Type}(p:A0a->Bool)(stp:A->A0a->A):A0a->A->Bool×A
 |.mk id k l h w ks,a=>if p (.mk id k l h w ks)then A3T p stp ks (stp a (.mk id k l h w ks))else(false,stp a (.mk id k l h w ks))
def A3T{A:Type}(p:A0a->Bool)(stp:A->A0a->A):List A0a->A->Bool×A
 |[],a=>(true,a)
 |u::l,a=>if(A4F p stp u a).1 then A3T p stp l (A4F p stp u a).2 else(false,(A4F p stp u a).2)
end
section
variable (gl:Nat->AV)
end
end
abbrev C4g(x:Int×ByteArray):AV:=.agg [I x.1,S x.2]
abbrev A3c(x:IdD):AV:=.agg x.row
def D6n:prog.stoodInHeld 247=false:=by kernel_rfl
def C4n:prog.stoodInHeld 23=false:=by kernel_rfl
def D9c{a b:ByteArray}:(a.data==b.data)=decide (a=b):=by
 by_cases h:a=b
 .subst h;simp
 .rw[Z0r h];refine Z2q.2 λe=>h ?_;cases a;cases b;simp only at e;rw[e]
def D7E(a:ByteArray):(a==a)=true:=by show(a.data==a.data)=true;simp
def D8X{x y:Int}(h:¬x=y):(x==y)=false:=Z2q.2 h
def C2z:C1R prog 245 247 4 C4g:=by
 refine⟨by kernel_rfl,by kernel_rfl,λk=>?_,λa b=>?_,λa=>⟨.agg #[.int .i64 a.1,.string a.2],by simp[A9j],?_⟩⟩
 .simp[A5X,A0j,underlying247]
 .obtain⟨x,s⟩:=a;obtain⟨y,t⟩:=b;simp[A9V,A3p,A0j,D6n];rw[D9c];by_cases h1:x=y
  .subst h1;by_cases h2:s=t
   .subst h2;simp
   .simp[h2]
  .simp[h1,D8X h1]
 .simp[Instr.sameBits,D7E]
def A9d(t e:TypeId)(c:B0N prog t=some (23,e)):C1R prog t 23 e A3c:=by
 refine⟨c,by kernel_rfl,λk=>?_,λa b=>?_,λa=>⟨.agg #[.int .i64 a.act,.int .i64 a.item,.int .i64 a.n],by simp[A9j,IdD.row],?_⟩⟩
 .simp[A5X,A0j,IdD.row]
 .obtain⟨x,y,z⟩:=a;obtain⟨x',y',z'⟩:=b;simp[A9V,A3p,A0j,C4n,IdD.row];by_cases h1:x=x'
  .subst h1;by_cases h2:y=y'
   .subst h2;by_cases h3:z=z'
    .subst h3;simp
    .simp[h3,D8X h3]
   .simp[h2,D8X h2]
  .simp[h1,D8X h1]
 .simp[Instr.sameBits]
def C0h(t e:TypeId)(c:B0N prog t=some (3,e)):C1R prog t 3 e I:=by
 refine⟨c,by kernel_rfl,λk=>?_,λa b=>?_,λa=>⟨.int .i64 a,by simp[A9j],?_⟩⟩
 .simp[A5X]
 .simp[A9V];by_cases h1:a=b
  .subst h1;simp
  .simp[h1]
 .simp[Instr.sameBits]
@[simp] def E5c{a}{b}:A0x prog 247 [(0,I a),(1,S b)]=some (.agg [I a,S b]):=by
 simp[A0x,A1b,A1o,A0d]
@[simp] def D0v:A0x prog 23 []=some (.agg [I 0,I 0,I 0]):=by
 simp[A0x,A1b]
def B6k{K:Type}[DecidableEq K](c:K):∀A1i:List K,A1N (A1i.map λx=>(x,true)) c=if(A1i.any λy=>decide (y=c))then some true else none
 |[]=>rfl
 |x::l=>by
  rw[Z0z,A1N,Z3k];by_cases h:c=x
  .subst h;simp
  .rw[Z0d h,Z0r (λe=>h e.symm),Z1J];exact B6k c l
def B5V{K:Type}[DecidableEq K](c:K):∀A1i:List K,(A1i.any λy=>decide (y=c))=false->A8m (A1i.map λx=>(x,true)) c true=(A1i++[c]).map λx=>(x,true)
 |[],_=>rfl
 |x::l,h=>by
  rw[Z3k,Z1Y]at h;have h1:¬c=x:=λe=>by subst e;simp at h
  rw[Z0z,A8m,Z0d h1,B5V c l h.2];rfl
def C0y(u:A0a):Bool:=if u.kind=0 then decide (u.label.size=0)&&decide (u.head.length+u.words.length=0)else decide (0<=u.kind/\u.kind<8)&&A0O u.label&&A5V u.head&&A5V u.words
def A8B(kind:Int):List A0a->List (Int×ByteArray)->Bool
 |[],_=>true
 |k::ks,A1i=>A4E kind k.kind&&!(A1i.any λy=>decide (y=(k.kind,k.label)))&&A8B kind ks (A1i++[(k.kind,k.label)])
def A9p(u:A0a):Bool:=C0y u&&A8B u.kind u.kids []&&decide (u.kids.length<=64)
def A0a.lim(u:A0a):Prop:=u.head.length<=100000000/\u.words.length<=100000000/\u.kids.length<=1000/\u.label.size<=1000
section
variable (gl:Nat->AV) (M:Mem)
set_option maxHeartbeats 1000000 in
def D5V(an:gl 0=A2z)(af:gl 1=A2K)(u:A0a)(hg:u.good)(hl:u.lim):A0e (WC gl) 156 [.agg u.row] M (λv M'=>v=B (A9p u)/\Grow M M'):=by
 obtain⟨id,kind,b,hd,ws,ks⟩:=u;obtain⟨_,_,_,_,al,_,ao,_,aq⟩:=(A0a.good_iff _).1 hg;obtain⟨a5,a4,ag,ac⟩:=hl;have a5:hd.length<=100000000:=a5;have a4:ws.length<=100000000:=a4;have ag:ks.length<=1000:=ag;have ac:b.size<=1000:=ac;have ad:(A0a.mk id kind b hd ws ks).row=[I id.act,I id.item,I id.n,I kind,S b,.list 4 (A0g hd) .no,.list 4 (A0g ws) .no,.list 8 (A0p ks) .no]:=by rw[A0a.row]
 have a6:A9p (.mk id kind b hd ws ks)=(C0y (.mk id kind b hd ws ks)&&A8B kind ks []&&decide (ks.length<=64)):=rfl;have d:C0y (.mk id kind b hd ws ks)=if kind=0 then decide (b.size=0)&&decide (hd.length+ws.length=0)else decide (0<=kind/\kind<8)&&A0O b&&A5V hd&&A5V ws:=rfl;rw[ad];obtain⟨R,hR⟩:=ex (A9p (.mk id kind b hd ws ks));rw[<-hR];have a:C0y (.mk id kind b hd ws ks)=false->R=false:=λh=>by rw[hR,a6,h];rfl
 refine A0n hW func156 ?_;by_cases k0:kind=0;case' pos=>
  rw[Z0e k0]at d;by_cases h1:b=⟨#[]⟩;case neg=>have a9:¬b.size=0:=λe=>h1 (A8D.2 e);have:=a (by rw[d,Z0r a9,Z0O]);simp -dsimp -implicitDefEqProofs[Z2e k0,h1,this,A0c.refl]
  have a9:b.size=0:=A8D.1 h1;have wz:IntKind.i64.wrap ((hd.length:Int)+(ws.length:Int))=(hd.length:Int)+(ws.length:Int):=A0L (by omega) (by omega);by_cases h2:hd.length+ws.length=0;case neg=>
   (have m:(0:Int)<(hd.length:Int)+(ws.length:Int):=by omega);have a7:(hd.length:Int)+(ws.length:Int)>0:=m
   have:=a (by rw[d,Z0r h2,Z3e]);simp -dsimp -implicitDefEqProofs[Z2e k0,Z2e h1,wz,m,a7,this,A0c.refl]
  have m:¬(0:Int)<(hd.length:Int)+(ws.length:Int):=by omega
  have a7:¬(hd.length:Int)+(ws.length:Int)>0:=m;have r:C0y (.mk id kind b hd ws ks)=true:=by rw[d,Z0w a9,Z0w h2];rfl
  have k:Grow M M:=A0c.refl _ _;simp -dsimp -implicitDefEqProofs[Z2e k0,Z2e h1,wz,m,a7]
 case' neg=>
  rw[Z0d k0]at d;by_cases h1:0<=kind/\kind<8;case neg=>have e:A4K kind=⟨#[]⟩:=(A6u kind).2 h1;have:=a (by rw[d,Z0r h1];rfl);simp -dsimp -implicitDefEqProofs[k0];refine A0q func207 (B1P gl M af kind) ?_;rintro _ _ ⟨rfl,rfl⟩;simp -dsimp -implicitDefEqProofs[e,this,A0c.refl]
  have e:¬A4K kind=⟨#[]⟩:=λq=>(A6u kind).1 q h1;rw[Z0w h1,Z0L]at d;simp -dsimp -implicitDefEqProofs[k0];refine A0q func207 (B1P gl M af kind) ?_;rintro _ M0 ⟨rfl,rfl⟩;simp -dsimp -implicitDefEqProofs[e];refine A0q func112 (A6x gl M0 b) ?_;rintro _ M ⟨rfl,k⟩;cases h2:A0O b;case false=>have:=a (by rw[d,h2];rfl);simp -dsimp -implicitDefEqProofs[this,k]
  rw[h2,Z0L]at d;simp -dsimp -implicitDefEqProofs;refine A0q func208 (D5B gl M hd .no a5 (λw hw=>(al w hw).1)) ?_;rintro _ M ⟨rfl,rfl⟩;cases h3:A5V hd;case false=>have:=a (by rw[d,h3];rfl);simp -dsimp -implicitDefEqProofs[this,k]
  rw[h3,Z0L]at d;simp -dsimp -implicitDefEqProofs;refine A0q func208 (D5B gl M ws .no a4 (λw hw=>(ao w hw).1)) ?_;rintro _ M ⟨rfl,rfl⟩;cases h4:A5V ws;case false=>have:=a (by rw[d,h4]);simp -dsimp -implicitDefEqProofs[this,k]
  have r:C0y (.mk id kind b hd ws ks)=true:=by rw[d,h4]
  simp -dsimp -implicitDefEqProofs
 all_goals
  have f:R=(A8B kind ks []&&decide (ks.length<=64)):=by rw[hR,a6,r,Z0L]
  have a3:=λ{X:Mem} (h:Grow M X)=>k.trans h
  clear a a6 d hR r
  refine A0B hW ks.length 49 (λT M1=>∃i:Nat,i<=ks.length/\T 1=.cptr [I id.act,I id.item,I id.n,I kind,S b,.list 4 (A0g hd) .no,.list 4 (A0g ws) .no,.list 8 (A0p ks) .no]/\T 3=.mapr M.length/\T 47=.list 8 (A0p ks) .no/\T 48=I ks.length/\T 49=I i/\Grow M M1/\∃A1i,A2q C4g B M1 M.length (A1i.map λx=>(x,true))/\A8B kind ks []=A8B kind (ks.drop i) A1i) ?_ ?_
  .exact⟨0,by omega,by simp,by simp,by simp,by simp,by simp,A0c.app none M _,[],A2q.new M,by simp⟩
  .rintro T M2 ⟨i,i1,t1,t3,a2,a1,t,a8,A1i,ai,ho⟩;by_cases hi:i<ks.length
   ·(have s:(i:Int)<ks.length:=by omega);have w1:=A1H (i:=i) (by omega)
    have ak:ks.drop i=ks[i]::ks.drop (i+1):=Z0j hi;rw[ak,A8B]at ho;obtain⟨X,hX⟩:=ex (ks[i]);(have am:ks[i].row=[I X.id.act,I X.id.item,I X.id.n,I X.kind,S X.label,.list 4 (A0g X.head) .no,.list 4 (A0g X.words) .no,.list 8 (A0p X.kids) .no]:=by rw[<-hX];exact X.row_eq);rw[<-hX]at ho;(have ah:(M2++[A0m.cells 27 [I X.id.act,I X.id.item,I X.id.n,I X.kind,S X.label,.list 4 (A0g X.head) .no,.list 4 (A0g X.words) .no,.list 8 (A0p X.kids) .no]])[M2.length]?=some (A0m.cells 27 [I X.id.act,I X.id.item,I X.id.n,I X.kind,S X.label,.list 4 (A0g X.head) .no,.list 4 (A0g X.words) .no,.list 8 (A0p X.kids) .no]):=by simp);simp -dsimp -implicitDefEqProofs[t1,t3,a2,a1,t,hi,s,A0k,A0i,A0d,AV.storable,AV.cells,am,A0b ah];obtain⟨c,hc⟩:=ex ((X.kind,X.label):Int×ByteArray);(have aj:AV.agg [I X.kind,S X.label]=C4g c:=by rw[hc]);generalize a0:M2++[A0m.cells 27 [I X.id.act,I X.id.item,I X.id.n,I X.kind,S X.label,.list 4 (A0g X.head) .no,.list 4 (A0g X.words) .no,.list 8 (A0p X.kids) .no],A0m.cells 247 [I X.kind,S X.label]]=M3;(have aa:M3[M2.length+1]?=some (A0m.cells 247 [I X.kind,S X.label]):=by rw[<-a0];simp);(have ab:M3[M2.length]?=some (A0m.cells 27 [I X.id.act,I X.id.item,I X.id.n,I X.kind,S X.label,.list 4 (A0g X.head) .no,.list 4 (A0g X.words) .no,.list 8 (A0p X.kids) .no]):=by rw[<-a0];simp);(have ae:Grow M2 M3:=by rw[<-a0];exact A0c.app none _ _);have o:=ai.keep ae (by simp);have g:=a8.trans ae;clear a0 ah;simp -dsimp -implicitDefEqProofs[t1,A0b ab];refine A0q func152 (A9B gl M3 an kind X.kind) ?_;rintro _ _ ⟨rfl,rfl⟩;cases hn:A4E kind X.kind;(case false=>rw[hn,Z0O,Z0O]at ho;rw[ho,Z0O]at f;simp -dsimp -implicitDefEqProofs[t1,f,a3 g]);rw[hn,Z0L]at ho;have p:=o.get C2z c (z:=B false) (by kernel_rfl) false;rw[<-aj]at p;rw[B6k]at p;rw[<-hc]at ho;simp -dsimp -implicitDefEqProofs[t3,A0b aa,p];cases hs:A1i.any λy=>decide (y=c);(case true=>rw[hs,Z2t,Z0O]at ho;rw[ho,Z0O]at f;simp -dsimp -implicitDefEqProofs[t1,f,a3 g]);rw[hs,Z2i,Z0L]at ho;obtain⟨M4,p1,p2,p3⟩:=o.put C2z c true;rw[B5V c A1i hs]at p2;rw[<-aj]at p1;(have ap:Grow M M4:=by refine⟨Z0R g.1 p3.1,λj hj _=>?_⟩;rw[p3.2 j (by have:=g.1;omega) (by simp;omega)];exact g.2 j hj (by simp));simp -dsimp -implicitDefEqProofs[t3,A0b aa,p1,t1,a2,a1,t,w1];exact⟨⟨i+1,by clear w1;omega,rfl,ap,A1i++[c],p2,ho⟩,by clear w1;omega⟩
   ·(have s:¬(i:Int)<ks.length:=by omega);rw[show ks.drop i=[]from Z0v (by omega),A8B]at ho
    rw[ho,Z0L]at f;by_cases h64:ks.length<=64
    ·(have l:(ks.length:Int)<=64:=by omega);rw[Z0w h64]at f
     simp -dsimp -implicitDefEqProofs[t1,a2,a1,t,s,l,f,a3 a8]
    ·(have l:¬(ks.length:Int)<=64:=by omega);rw[Z0r h64]at f
     simp -dsimp -implicitDefEqProofs[t1,a2,a1,t,s,l,f,a3 a8]
end
def A6b(u:A0a):Bool:=decide (0<=u.kind/\u.kind<=7)&&decide (u.kids.length<=64)&&A5V u.head&&A5V u.words&&(if u.kind=0 then decide (u.label.size=0)&&decide (u.head.length=0)&&decide (u.words.length=0)else A0O u.label)
def A7F(a b:A0a):Bool:=decide (a.kind=b.kind)&&decide (a.label=b.label)
mutual
def A3u:A0a->Bool
 |.mk id k l h w ks=>A6b (.mk id k l h w ks)&&A6F k ks []
def A6F(kind:Int):List A0a->List A0a->Bool
 |[],_=>true
 |k::ks,before=>A4E kind k.kind&&A3u k&&!(before.any λa=>A7F a k)&&A6F kind ks (before++[k])
end
mutual
def A0a.lims:A0a->Prop
 |.mk id k l h w ks=>(A0a.mk id k l h w ks).lim/\A5v ks
def A5v:List A0a->Prop
 |[]=>True
 |k::ks=>k.lims/\A5v ks
end
def A3Y:∀{l:List A0a},A5v l<->∀u∈l,u.lims
 |[]=>by simp[A5v]
 |u::l=>by simp[A5v,A3Y (l:=l)]
section
variable (gl:Nat->AV)
end
mutual
def A0r:A0a->Nat
 |.mk _ _ _ _ _ ks=>1+A0A ks
def A0A:List A0a->Nat
 |[]=>0
 |k::ks=>A0r k+A0A ks
end
mutual
def A2i:A0a->Nat
 |.mk _ _ _ _ _ ks=>A3H ks
def A3H:List A0a->Nat
 |[]=>0
 |k::ks=>max (1+A2i k) (A3H ks)
end
mutual
def A0R:A0a->List IdD
 |.mk id _ _ _ _ ks=>id::A3J ks
def A3J:List A0a->List IdD
 |[]=>[]
 |k::ks=>A0R k++A3J ks
end
mutual
def C0l:∀u:A0a,A2i u<A0r u
 |.mk _ _ _ _ _ ks=>by rw[A2i,A0r];have:=C2m ks;omega
def C2m:∀ks:List A0a,A3H ks<=A0A ks
 |[]=>by rw[A3H,A0A];exact Z0n _
 |k::ks=>by rw[A3H,A0A];have:=C0l k;have:=C2m ks;omega
end
mutual
def A5t:∀u:A0a,(A0R u).length=A0r u
 |.mk _ _ _ _ _ ks=>by rw[A0R,A0r,Z0x,B9m ks];omega
def B9m:∀ks:List A0a,(A3J ks).length=A0A ks
 |[]=>by rw[A3J,A0A];rfl
 |k::ks=>by rw[A3J,A0A,Z0t,A5t k,B9m ks]
end
def A6c(u:A0a):0<A0r u:=by obtain⟨a,b,c,d,e,f⟩:=u;rw[A0r];omega
def A4v:∀{ks:List A0a} {k:A0a},k∈ks->A0r k<=A0A ks
 |[],_,h=>by simp at h
 |x::ks,k,h=>by
  rw[A0A];rcases Z0s.1 h with rfl|h
  .omega
  .have:=A4v h;omega
def A1Z:∀ks:List A0a,ks.length<=A0A ks
 |[]=>by simp[A0A]
 |k::ks=>by rw[A0A,Z0x];have:=A6c k;have:=A1Z ks;omega
def C5J{ks:List A0a}{i:Nat}(h:i<ks.length):A3H (ks.drop i)=max (1+A2i ks[i]) (A3H (ks.drop (i+1))):=by rw[Z0j h,A3H]
section
variable (gl:Nat->AV)
def B9c:∀(u:A0a) (M:Mem),u.good->A0r u<=1000->A0e (WC gl) 157 [.agg u.row] M (λv M'=>(∃x,v=.val x/\x=.int .i64 (A2i u))/\M'=M)
 |.mk id kind lab hd ws ks,M,hg,hc=>by
  refine B0g ?_;obtain⟨_,_,s,_,q,_,t,_,c⟩:=(A0a.good_iff _).1 hg;have c:∀k∈ks,k.good:=c;have r:1+A0A ks<=1000:=by rwa[A0r]at hc
  have p:=A1Z ks;have l:(A0a.mk id kind lab hd ws ks).row=[I id.act,I id.item,I id.n,I kind,S lab,.list 4 (A0g hd) .no,.list 4 (A0g ws) .no,.list 8 (A0p ks) .no]:=by rw[A0a.row]
  have m:A2i (.mk id kind lab hd ws ks)=A3H ks:=by rw[A2i]
  rw[l,m];refine A0n hW func157 ?_;simp -dsimp;refine A0B hW ks.length 9 (λT M1=>∃i:Nat,i<=ks.length/\T 7=.list 8 (A0p ks) .no/\T 8=I ks.length/\T 9=I i/\Grow M M1/\∃d:Nat,T 3=I d/\d<=1000/\A3H ks=max d (A3H (ks.drop i))) ?_ ?_
  .exact⟨0,by omega,by simp,by simp,by simp,A0c.refl _ _,0,by simp,by omega,by simp⟩
  .rintro T M1 ⟨i,i1,t7,t8,t9,j,d,t3,d1,ho⟩;by_cases hi:i<ks.length
   ·(have f:(i:Int)<ks.length:=by omega);have w1:=A1H (i:=i) (by omega)
    have b:ks[i]∈ks:=Z0o hi;rw[C5J hi]at ho;have y:=A4v b;have w:=C0l ks[i];(have o:(M1++[A0m.cells 27 ks[i].row])[M1.length]?=some (A0m.cells 27 ks[i].row):=by simp);have h:Grow M (M1++[A0m.cells 27 ks[i].row]):=j.trans (A0c.app none _ _);simp -dsimp[t3,t7,t8,t9,hi,f,A0k,A0i,A0d,AV.storable,AV.cells,A0b o];have:=A0a.kid_lt (u:=.mk id kind lab hd ws ks) b;refine A0q func157 (B9c ks[i] _ (c _ b) (by omega)) ?_;rintro _ _ ⟨⟨_,rfl,rfl⟩,rfl⟩;generalize A2i ks[i]=dk at*;(have w2:IntKind.i64.wrap (1+(dk:Int))=((1+dk:Nat):Int):=by rw[A0L (by omega) (by omega)];omega);obtain⟨e,he⟩:=ex (1+dk);rw[<-he]at w2 ho;by_cases hm:d<e
    ·(have a:(d:Int)<e:=by omega);have g:(e:Int)>d:=a
     simp -dsimp[t3,t7,t8,t9,w1,w2,A8W,a,g];exact⟨⟨i+1,by clear w1;omega,rfl,h,e,rfl,by omega,by omega⟩,by clear w1;omega⟩
    ·(have a:¬(d:Int)<e:=by omega);have g:¬(e:Int)>d:=a
     simp -dsimp[t3,t7,t8,t9,w1,w2,A8W,a,g];exact⟨⟨i+1,by clear w1;omega,rfl,h,d,rfl,by omega,by omega⟩,by clear w1;omega⟩
   ·(have f:¬(i:Int)<ks.length:=by omega);rw[show ks.drop i=[]from Z0v (by omega),A3H,Nat.max_zero]at ho
    simp -dsimp[t3,t7,t8,t9,f,ho,j]
termination_by u=>SizeOf.sizeOf u
end
section
variable (gl:Nat->AV)
def B0c{A:Type}(e:FuncId)(first cap:List AV)(p:A0a->Bool)(b:A->A0a->A)(J:Mem->A->Prop)(K:A->A0a->Prop)(KL:A->List A0a->Prop)(t:∀a u,K a u->KL (b a u) u.kids)(y:∀a k ks,KL a (k::ks)->K a k)(r:∀a k ks,KL a (k::ks)->(A4F p b k a).1=true->KL (A4F p b k a).2 ks)(hJ:∀M a X,J M a->J (M++[.cells 27 X]) a)
 (hv:∀u a M,u.good->K a u->J M a->A4r (WC gl) e (first++.agg u.row::cap) M (λv M'=>v=B (p u)/\J M' (b a u))):
 ∀(u:A0a) (a:A) (M:Mem),u.good->K a u->J M a->A0e (WC gl) 86 [.agg u.row,.func (.func e) first cap] M (λv M'=>v=B (A4F p b u a).1/\J M' (A4F p b u a).2)
 |.mk id kind lab hd ws ks,a,M,hg,hka,hj=>by
  obtain⟨_,_,_,_,_,_,_,hk,l⟩:=(A0a.good_iff _).1 hg;have l:∀k∈ks,k.good:=l;have a3:KL (b a (.mk id kind lab hd ws ks)) ks:=t _ _ hka;have a5:ks.length<=9223372036854775807:=hk;have w:(A0a.mk id kind lab hd ws ks).row=[I id.act,I id.item,I id.n,I kind,S lab,.list 4 (A0g hd) .no,.list 4 (A0g ws) .no,.list 8 (A0p ks) .no]:=by rw[A0a.row]
  have d:A4F p b (.mk id kind lab hd ws ks) a=if p (.mk id kind lab hd ws ks)then A3T p b ks (b a (.mk id kind lab hd ws ks))else(false,b a (.mk id kind lab hd ws ks)):=by rw[A4F]
  have s:=hv _ a M hg hka hj;rw[w]at s|-;refine A0n hW func86 ?_;simp -dsimp;refine A1W s ?_;rintro _ M1 ⟨rfl,q⟩;cases hp:p (.mk id kind lab hd ws ks);case false=>rw[hp,Z0d (by simp)]at d;rw[d];simp -dsimp[q]
  rw[hp,Z0e rfl]at d;rw[d];generalize b a (.mk id kind lab hd ws ks)=a1 at*;simp -dsimp;refine A0B hW ks.length 14 (λT M1=>∃i:Nat,i<=ks.length/\T 1=.func (.func e) first cap/\T 12=.list 8 (A0p ks) .no/\T 13=I ks.length/\T 14=I i/\∃a2,J M1 a2/\KL a2 (ks.drop i)/\A3T p b ks a1=A3T p b (ks.drop i) a2) ?_ ?_
  .exact⟨0,by omega,by simp,by simp,by simp,by simp,a1,q,by simpa using a3,by simp⟩
  .rintro T M2 ⟨i,i1,t1,h,f,g,a2,z,c,ho⟩;by_cases hi:i<ks.length
   ·(have m:(i:Int)<ks.length:=by omega);have w1:IntKind.i64.wrap ((i:Int)+1)=(i+1:Nat):=by rw[A0L (by omega) (by omega)];omega
    have j:ks[i]∈ks:=Z0o hi;have o:ks.drop i=ks[i]::ks.drop (i+1):=Z0j hi;rw[o]at c;rw[o,A3T]at ho;(have a4:(M2++[A0m.cells 27 ks[i].row])[M2.length]?=some (A0m.cells 27 ks[i].row):=by simp);simp -dsimp[t1,h,f,g,hi,m,A0k,A0i,A0d,AV.storable,AV.cells,A0b a4];have:=A0a.kid_lt (u:=.mk id kind lab hd ws ks) j;refine A0q func86 (B0c e first cap p b J K KL t y r hJ hv ks[i] a2 _ (l _ j) (y _ _ _ c) (hJ _ _ _ z)) ?_;rintro _ M3 ⟨rfl,x⟩;have a0:=r _ _ _ c;cases hp:(A4F p b ks[i] a2).1
    .rw[hp,Z0d (by simp)]at ho;rw[ho];simp -dsimp[t1,h,f,g,x]
    .rw[hp,Z0e rfl]at ho;simp -dsimp[t1,h,f,g,w1];exact⟨⟨i+1,by clear w1;omega,rfl,_,x,a0 hp,ho⟩,by clear w1;omega⟩
   ·(have m:¬(i:Int)<ks.length:=by omega);rw[show ks.drop i=[]from Z0v (by omega),A3T]at ho
    rw[ho];simp -dsimp[t1,h,f,g,m,z]
termination_by u=>SizeOf.sizeOf u
end
mutual
def B1g:∀(u:A0a) (a:Nat),A4F (λ_=>true) (λ(a:Nat) _=>a+1) u a=(true,a+A0r u)
 |.mk _ _ _ _ _ ks,a=>by rw[A4F,Z0e rfl,B3q ks,A0r];congr 1;omega
def B3q:∀(ks:List A0a) (a:Nat),A3T (λ_=>true) (λ(a:Nat) _=>a+1) ks a=(true,a+A0A ks)
 |[],a=>by rw[A3T,A0A];rfl
 |k::ks,a=>by rw[A3T,B1g k a,Z0e rfl,B3q ks,A0A];congr 1;omega
end
mutual
def B3D:∀(u:A0a) (a:List IdD),A4F (λ_=>true) (λ(a:List IdD) u=>a++[u.id]) u a=(true,a++A0R u)
 |.mk id _ _ _ _ ks,a=>by rw[A4F,Z0e rfl,B6H ks,A0R];show(true,a++[id]++A3J ks)=_;rw[Z0F];rfl
def B6H:∀(ks:List A0a) (a:List IdD),A3T (λ_=>true) (λ(a:List IdD) u=>a++[u.id]) ks a=(true,a++A3J ks)
 |[],a=>by rw[A3T,A3J,Z1d]
 |k::ks,a=>by rw[A3T,B3D k a,Z0e rfl,B6H ks,A3J,Z0F]
end
def A5o(u:A0a):A0r u=1+A0A u.kids:=by obtain⟨a,b,c,d,e,f⟩:=u;rw[A0r];rfl
section
variable (gl:Nat->AV)
def D2I(u:A0a)(o:Nat)(n:Nat)(hn:n<=1000)(M:Mem)(hM:M[o]?=some (.cells 3 [I n])):A0e (WC gl) 87 [.agg u.row,.ptr o 0] M (λv M'=>v=B true/\M'=M.set o (.cells 3 [I (n+1:Nat)])):=by refine A0n hB func87 ?_;have w1:=A1H (i:=n) (by omega);have a:o<M.length:=(Z0a.1 hM).1;obtain⟨e,he⟩:=ex (n+1);rw[<-he]at w1;rw[<-he];simp -dsimp[A0b hM,A0f hM,w1,A0d]
def B5t(u:A0a)(M:Mem)(hg:u.good)(hc:A0r u<=1000):A0e (WC gl) 30 [.agg u.row] M (λv M'=>v=I (A0r u)/\M'=M):=by
 have key:A0e (WC gl) 30 [.agg u.row] M (λv M'=>(∃x,v=.val x/\x=.int .i64 (A0r u))/\Grow M M'):=by
  refine A0n hB func30 ?_;have c:(M++[A0m.cells 3 [I 0]])[M.length]?=some (A0m.cells 3 [I 0]):=by simp
  simp -dsimp[A0k,A0i,A0d];refine A0q func86 (B0c gl 87 [] [.ptr M.length 0] (λ_=>true) (λ(a:Nat) _=>a+1) (λM1 a=>M1[M.length]?=some (.cells 3 [I a])/\Grow M M1) (λa u=>a+A0r u<=1000) (λa ks=>a+A0A ks<=1000) ?_ ?_ ?_ ?_ ?_ u 0 _ hg (by omega) ⟨c,A0c.app none _ _⟩) ?_
  .intro a u h;have:=A5o u;omega
  .intro a k ks h;rw[A0A]at h;omega
  .intro a k ks h _;rw[A0A]at h;rw[B1g];show a+A0r k+A0A ks<=1000;omega
  .rintro M1 a X ⟨h1,h2⟩;exact⟨by rw[Z0i (Z0a.1 h1).1];exact h1,h2.trans (A0c.app none _ _)⟩
  .rintro u a M1 e hk ⟨h1,h2⟩;have d:=A6c u;refine(A1a func87 rfl rfl (D2I gl u M.length a (by omega) M1 h1)).mono ?_;rintro _ _ ⟨rfl,rfl⟩;have b:M.length<M1.length:=(Z0a.1 h1).1;exact⟨rfl,by simp[b],⟨by simp;omega,λj hj _=>by rw[Z0c (by omega)];exact h2.2 j hj (by simp)⟩⟩
  .rintro _ M1 ⟨rfl,h1,h2⟩;rw[B1g]at h1|-;simp only[Z0N]at h1;simp -dsimp[A0b h1,h2]
 exact(B0g key).mono (by rintro v M' ⟨⟨x,rfl,rfl⟩,rfl⟩;exact⟨rfl,rfl⟩)
end
@[simp] def IdD.row_len(x:IdD):x.row.length=3:=(rfl)
def A0y{cs}:(AV.agg cs).storable=true:=rfl
def A0v{cs}:(AV.agg cs).cells=cs:=rfl
def D6q(M:Mem)(l:List IdD)(v:AV)(M':Mem):Prop:=A1g 23 3 IdD.row M' v l/\Grow M M'/\A1m M.length v
section
variable (gl:Nat->AV)
def D8O(u:A0a)(o:Nat)(M:Mem)(v:AV)(l:List IdD)(hl:l.length<=1000)(hM:M[o]?=some (.cells 85 [v]))(hv:A1g 23 3 IdD.row M v l)(c:obj v≠some o):A0e (WC gl) 122 [.agg u.row,.ptr o 0] M (λr M'=>r=B true/\∃v' M1,M'=M1.set o (.cells 85 [v'])/\A1g 23 3 IdD.row M1 v' (l++[u.id])/\A0c (obj v) M M1/\(obj v'=obj v\/A1m M.length v')):=by
 refine A0n (hQ [8]) func122 ?_
 rw[u.row_eq]
 simp -dsimp[A0b hM,A0l,A0M,A0y,A0v]
 refine A3B (C:=WC gl) (enc:=IdD.row) (e:=23) (sz:=3) (news:=[u.id]) B4i B8y C0u (λ_=>rfl) hv (by simp[A0D,IdD.row]) (by simp;omega) rfl ?_
 intro v' M1 h1 h2 h3 _
 have b:=h2.get hM c
 have a:A0i (some 1) M1 (.ptr o 0) v'=some (M1.set o (.cells 85 [v'])):=by rw[A0f b,h1.cells,Z0e ⟨h1.store,by simp,rfl⟩];rfl
 simp -dsimp[a]
 exact⟨v',M1,rfl,h1,h2,h3⟩
def D5t(u:A0a)(M:Mem)(hg:u.good)(hc:A0r u<=1000):A0e (WC gl) 67 [.agg u.row] M (D6q M (A0R u)):=by
 refine A0n hW func67 ?_;have d:(M++[A0m.cells 85 [.val (.slice none 0 0)]])[M.length]?=some (A0m.cells 85 [.val (.slice none 0 0)]):=by simp
 simp -dsimp[A0k,A0i,A0d];refine A0q func86 (B0c gl 122 [] [.ptr M.length 0] (λ_=>true) (λ(a:List IdD) u=>a++[u.id])
  (λM1 a=>∃v,M1[M.length]?=some (.cells 85 [v])/\A1g 23 3 IdD.row M1 v a/\obj v≠some M.length/\A1m M.length v/\Grow M M1)
  (λa u=>a.length+A0r u<=1000) (λa ks=>a.length+A0A ks<=1000) ?_ ?_ ?_ ?_ ?_ u [] _ hg (by simpa using hc) ⟨_,d,.nil,by simp,by simp[A1m],A0c.app none _ _⟩) ?_
 .intro a u h;have:=A5o u;simp;omega
 .intro a k ks h;rw[A0A]at h;omega
 .intro a k ks h _;rw[A0A]at h;rw[B3D];simp only[Z0t,A5t];omega
 .rintro M1 a X ⟨v,h1,h2,h3,h4,h5⟩;exact⟨v,by rw[Z0i (Z0a.1 h1).1];exact h1,h2.keep (A0c.app none _ _) (by simp),h3,h4,h5.trans (A0c.app none _ _)⟩
 .rintro u a M1 l hk ⟨v,h1,h2,h3,h4,h5⟩;have g:=A6c u;refine(A1a func122 rfl rfl (D8O gl u M.length M1 v a (by omega) h1 h2 h3)).mono ?_;rintro _ _ ⟨rfl,v',M2,rfl,k1,k2,k3⟩;have i:M.length<M1.length:=(Z0a.1 h1).1;have c:M.length<M2.length:=by have:=k2.1;omega
  have b:obj v'≠some M.length:=by
   rcases k3 with e|e
   .rw[e];exact h3
   .intro q;have:=e _ q;omega
  refine⟨rfl,v',by simp[c],k1.keep (A0c.set M2 M.length _) (λf hf e=>b (by rw[hf,<-e])),b,λf hf=>?_,⟨by simp;omega,λj hj _=>?_⟩⟩
  .rcases k3 with e|e
   .exact h4 f (by rw[<-e];exact hf)
   .have:=e f hf;omega
  .rw[Z0c (by omega),k2.2 j (by omega) (λe=>by have:=h4 _ e;omega)];exact h5.2 j hj (by simp)
 .rintro _ M1 ⟨rfl,v,h1,h2,h3,h4,h5⟩;rw[B3D]at h2|-;simp only[Z1F]at h2;simp -dsimp[A0b h1,D6q,h2,h4,h5]
end
section
variable {K:Type} [DecidableEq K]
def A5Y(S:List K):List K->List K
 |[]=>S
 |x::r=>A5Y (if S.any (λy=>decide (y=x))then S else S++[x]) r
def B3o:List K->List K->Bool
 |[],_=>true
 |x::r,b=>!(b.any λy=>decide (y=x))&&B3o r (b++[x])
def B5c{S:List K}{x:K}:(S.any λy=>decide (y=x))=decide (x∈S):=by rw[Z2L];simp
def A9W:∀(r S:List K) (x:K),x∈A5Y S r<->x∈S\/x∈r
 |[],S,x=>by simp[A5Y]
 |y::r,S,x=>by
  rw[A5Y,A9W r];simp only[B5c,Z0k];by_cases h:y∈S
  .rw[Z0e h];simp only[Z0s];constructor
   .rintro(h1|h1)<;>simp[h1]
   .rintro(h1|rfl|h1)
    .exact .inl h1
    .exact .inl h
    .exact .inr h1
  .rw[Z0d h];simp only[Z0S,Z0s,Z1x,Z2G];exact or_assoc
def C5G:∀(r S:List K),(A5Y S r).length<=S.length+r.length
 |[],S=>by simp[A5Y]
 |y::r,S=>by rw[A5Y];have:=C5G r (if S.any (λz=>decide (z=y))then S else S++[y]);split at this<;>simp_all<;>omega
def B3a:∀(r S:List K),(A5Y S r).length=S.length+r.length<->B3o r S=true
 |[],S=>by simp[A5Y,B3o]
 |y::r,S=>by
  rw[A5Y,B3o];cases h:S.any λz=>decide (z=y)
  .rw[Z0d (by simp)];have:=B3a r (S++[y]);rw[Z2i,Z0L,<-this];simp only[Z0t,Z0x,Z1B];omega
  .rw[Z0e rfl];have:=C5G r S;simp only[Z2t,Z0O,Z0H,iff_false,Z0x];omega
def B9N:∀(r S:List K),S.Nodup->(A5Y S r).Nodup
 |[],S,h=>by simpa[A5Y]using h
 |y::r,S,h=>by
  rw[A5Y];refine B9N r _ ?_;rw[B5c];split
  .exact h
  .rename_i hn;(have hn:y∉S:=by simpa using hn);refine Z1L.2 ⟨h,by simp,?_⟩;intro a ha b hb e;simp only[Z0s,Z1x,Z2G]at hb;subst hb;subst e;exact hn ha
omit [DecidableEq K]in
def D1z{l:List K}{z:K}(hn:l.Nodup)(hz:∀x∈l,x=z)(hm:z∈l):l.length=1:=by
 match l,hn,hz,hm with
 |[],_,_,hm=>simp at hm
 |[x],_,_,_=>rfl
 |x::y::l,hn,hz,_=>have h1:=hz x (by simp);have h2:=hz y (by simp);subst h1;subst h2;simp at hn
omit [DecidableEq K]in
def D7p{l:List K}{z:K}(h1:l.length=1)(hm:z∈l):∀x∈l,x=z:=by
 match l,h1 with
 |[y],_=>intro x hx;simp at hx hm;rw[hx,hm]
def D6p{l:List K}{z:K}(hl:l≠[]):(z∈l/\(A5Y [] l).length=1)<->∀x∈l,x=z:=by
 constructor
 .rintro⟨hm,h1⟩ x hx;exact D7p h1 ((A9W l [] z).2 (.inr hm)) x ((A9W l [] x).2 (.inr hx))
 .intro h;obtain⟨a,r,rfl⟩:=List.exists_cons_of_ne_nil hl;have hm:z∈a::r:=by rw[<-h a (by simp)];simp
  exact⟨hm,D1z (B9N _ _ .nil) (λx hx=>h x (by simpa using(A9W _ [] x).1 hx)) ((A9W _ [] z).2 (.inr hm))⟩
end
def idZ:IdD:=⟨0,0,0⟩
def C3z(u:A0a):Bool:=(decide (idZ∈A0R u)&&decide ((A5Y [] (A0R u)).length=1))||(decide ((A5Y [] (A0R u)).length=(A0R u).length)&&(decide (u.kind=0)==decide (u.id=idZ)))
def D6f(u:A0a):Bool:=(A0R u).all (λx=>decide (x=idZ))||((decide (u.id=idZ)==decide (u.kind=0))&&B3o (A0R u) [])
def D7R(u:A0a):A0R u≠[]:=by obtain⟨a,b,c,d,e,f⟩:=u;rw[A0R];simp
def C4M(u:A0a):C3z u=D6f u:=by have h1:=D6p (l:=A0R u) (z:=idZ) (D7R u);have h2:=B3a (A0R u) ([]:List IdD);simp only[Z1B,Z0N]at h2;rw[Z2L];simp only[C3z,D6f,Z1I,Z0f,Z0k,Z0p,Z3h];rw[h1,h2,and_comm,@eq_comm _ (decide (u.kind=0))]
def A2q.len{K V:Type}{d:K->AV}{a:V->AV}{M}{b}{l}(h:A2q d a M b l){P}{t kt et:TypeId}(ht:P.underlying t=some (.map kt et)):A4A P t M (.mapr b)=some l.length:=by obtain⟨es,c,h1,h2⟩:=h;have:=congrArg List.length h2;simp only[Z0G]at this;simp[A4A,ht,h1,this]
def A6m{P}{t:TypeId}{b}:A2y P t (.mapr b)=none:=rfl
@[simp] def C2E:prog.eqGuardType prog.depth 23=false:=by kernel_rfl
def B4S(a b:IdD):A1B prog .eql 23 (.agg [I a.act,I a.item,I a.n]) (.agg [I b.act,I b.item,I b.n])=some (B (decide (a=b))):=by
 have h0:A3q prog .eql 23 (.agg [I a.act,I a.item,I a.n]) (.agg [I b.act,I b.item,I b.n])=none:=by simp[A3q,A4p]
 have:=(A9d 248 4 (by kernel_rfl)).eq a b;simp only[A3c,IdD.row]at this;simp only[A1B,h0,A4T,C2E,this];rfl
@[simp] def E7c:idZ.row=[I 0,I 0,I 0]:=(rfl)
def D9i(a:IdD):A1B prog .eql 23 (.agg [I a.act,I a.item,I a.n]) (.agg [I 0,I 0,I 0])=some (B (decide (a=idZ))):=B4S a idZ
def C6H{K:Type}[DecidableEq K](c:K):∀A1i:List K,(A1i.any λy=>decide (y=c))=true->A8m (A1i.map λx=>(x,true)) c true=A1i.map λx=>(x,true)
 |[],h=>by simp at h
 |x::l,h=>by
  rw[Z0z,A8m];by_cases e:c=x
  .subst e;simp
  .rw[Z0d e];rw[Z3k,Z0r (λq=>e q.symm),Z1J]at h;rw[C6H c l h]
section
variable (gl:Nat->AV)
def E0v(u:A0a)(M:Mem)(hg:u.good)(hc:A0r u<=1000):A0e (WC gl) 158 [.agg u.row] M (λv M'=>v=B (C3z u)/\M'=M):=by
 have key:A0e (WC gl) 158 [.agg u.row] M (λv M'=>(∃x,v=.val x/\x=.bool (C3z u))/\Grow M M'):=by
  refine A0n hW func158 ?_;have o:=D5t gl u M hg hc;rw[u.row_eq]at o|-;have ae:=A5t u;simp -dsimp -implicitDefEqProofs;refine A0q func67 o ?_;rintro v M1 ⟨hv,a5,hL⟩;have c:A2y prog 85 v=some (A0R u).length:=hv.len (e':=23) (by simp);have a7:A1g 23 3 IdD.row (M1++[.map [] 0]) v (A0R u):=hv.keep (A0c.app none M1 _) (by simp);have a8:obj v≠some M1.length:=λe=>by have:=hv.lt e;omega
  simp -dsimp -implicitDefEqProofs[c];refine A0B hW ((A0R u).length) 13 (λT M2=>∃i:Nat,i<=(A0R u).length/\T 1=.cptr [I u.id.act,I u.id.item,I u.id.n,I u.kind,S u.label,.list 4 (A0g u.head) .no,.list 4 (A0g u.words) .no,.list 8 (A0p u.kids) .no]/\T 3=v/\T 4=.mapr M1.length/\T 11=v/\T 12=I (A0R u).length/\T 13=I i/\Grow M M2/\A1g 23 3 IdD.row M2 v (A0R u)/\∃s,A2q A3c B M2 M1.length (s.map λx=>(x,true))/\A5Y [] (A0R u)=A5Y s ((A0R u).drop i)) ?_ ?_
  .exact⟨0,by omega,by simp,by simp,by simp,by simp,by simp,by simp,a5.trans (A0c.app none _ _),a7,[],A2q.new M1,by simp⟩
  .rintro T M2 ⟨i,i1,t1,t3,t4,a1,a0,w,d,a3,s,h,ho⟩;by_cases hi:i<(A0R u).length
   ·(have l:(i:Int)<(A0R u).length:=by omega);have w1:=A1H (i:=i) (by omega)
    obtain⟨p,p1,_,p2,_⟩:=a3.at_ (P:=prog) (t:=23) (λ_=>rfl) (by simp) (by simp) hi;have hd:=Z0j hi;rw[hd,A5Y]at ho;obtain⟨x,hx⟩:=ex ((A0R u)[i]);rw[<-hx]at ho p2;have aa:x.row=[I x.act,I x.item,I x.n]:=rfl;rw[aa]at p2;(have ad:(M2++[A0m.cells 23 [I x.act,I x.item,I x.n]])[M2.length]?=some (A0m.cells 23 [I x.act,I x.item,I x.n]):=by simp);have a2:=h.keep (A0c.app none M2 [A0m.cells 23 [I x.act,I x.item,I x.n]]) (by simp);have r:Grow M (M2++[A0m.cells 23 [I x.act,I x.item,I x.n]]):=d.trans (A0c.app none _ _);have ac:=a3.keep (A0c.app none M2 [A0m.cells 23 [I x.act,I x.item,I x.n]]) (by simp);obtain⟨M4,q1,q2,q3⟩:=a2.put (A9d 248 4 (by kernel_rfl)) x true;have a6:A2g prog 248 (M2++[A0m.cells 23 [I x.act,I x.item,I x.n]]) (.mapr M1.length) (.agg [I x.act,I x.item,I x.n]) (B true)=some M4:=q1;(have ab:Grow M M4:=by refine⟨Z0R r.1 q3.1,λj hj _=>?_⟩;rw[q3.2 j (by have:=r.1;omega) (by have:=a5.1;simp;omega)];exact r.2 j hj (by simp));have a9:=ac.keep q3 (λf hf e=>a8 (by rw[hf,<-e]));simp -dsimp -implicitDefEqProofs[t1,t3,t4,a1,a0,w,hi,l,p1,p2,A0k,A0i,A0d,A0y,A0v,A0b ad,a6,w1];refine⟨⟨i+1,by clear w1;omega,rfl,ab,a9,if s.any (λy=>decide (y=x))then s else s++[x],?_,ho⟩,by clear w1;omega⟩;cases hs:s.any λy=>decide (y=x)
    .rw[B5V x s hs]at q2;rw[Z0d (by simp)];exact q2
    .rw[Z0e rfl];have:A8m (s.map λx=>(x,true)) x true=s.map λx=>(x,true):=C6H x s hs;rw[this]at q2;exact q2
   ·(have l:¬(i:Int)<(A0R u).length:=by omega);rw[show(A0R u).drop i=[]from Z0v (by omega),A5Y]at ho
    have hz:(s.any λy=>decide (y=idZ))=decide (idZ∈A0R u):=by rw[B5c,<-ho,Z2L];simp only[Z0k,A9W,Z1x,false_or]
    (have hR:C3z u=((decide (idZ∈A0R u)&&decide (s.length=1))||(decide (s.length=(A0R u).length)&&(decide (u.kind=0)==decide (u.id=idZ)))):=by rw[<-ho];rfl);obtain⟨R,a4⟩:=ex (C3z u)
    rw[<-a4]at hR|-;clear a4;have q:=h.get (A9d 248 4 (by kernel_rfl)) idZ (z:=B false) (by kernel_rfl) false;rw[B6k,hz]at q;have a:A1Y prog 248 M2 (.mapr M1.length) (.agg [I 0,I 0,I 0]) false=some (B (decide (idZ∈A0R u))):=by refine q.trans ?_;cases decide (idZ∈A0R u)<;>rfl
    (have g:A4A prog 248 M2 (.mapr M1.length)=some s.length:=by rw[h.len (kt:=23) (et:=4) (by simp)];simp);cases hzz:decide (idZ∈A0R u)
    .rw[hzz]at a hR;rw[Z0O,Z1J]at hR;simp -dsimp -implicitDefEqProofs[t1,t3,t4,a1,a0,w,l,a];refine A0Z hW (A0u gl) (λk=>if k=3\/k=8 then 2 else 0) (λ_=>0) (by rfl) (by kernel_rfl) ?_;by_cases h2:s.length=(A0R u).length
     ·(have b:(s.length:Int)=((A0R u).length:Int):=by omega);rw[Z0w h2,Z0L]at hR
      simp -dsimp -implicitDefEqProofs[t1,t3,t4,g,A6m,c,Z2e b,D9i];exact⟨by rw[hR];rfl,d⟩
     ·(have b:¬(s.length:Int)=((A0R u).length:Int):=by omega);rw[Z0r h2,Z0O]at hR
      simp -dsimp -implicitDefEqProofs[t1,t3,t4,g,A6m,c,b,hR,d]
    .rw[hzz]at a hR;rw[Z0L]at hR;simp -dsimp -implicitDefEqProofs[t1,t3,t4,a1,a0,w,l,a];refine A0Z hW (A0u gl) (λk=>if k=3\/k=8 then 2 else 0) (λ_=>0) (by rfl) (by kernel_rfl) ?_;by_cases h1:s.length=1
     ·(have m:(s.length:Int)=1:=by omega);rw[Z0w h1,Z2X]at hR
      simp -dsimp -implicitDefEqProofs[t1,t3,t4,g,A6m,c,Z2e m,Z2e h1,hR,d]
     (have m:¬(s.length:Int)=1:=by omega);rw[Z0r h1,Z1J]at hR
     by_cases h2:s.length=(A0R u).length
     ·(have b:(s.length:Int)=((A0R u).length:Int):=by omega);rw[Z0w h2,Z0L]at hR
      simp -dsimp -implicitDefEqProofs[t1,t3,t4,g,A6m,c,h1,m,Z2e b,D9i];exact⟨by rw[hR];rfl,d⟩
     ·(have b:¬(s.length:Int)=((A0R u).length:Int):=by omega);rw[Z0r h2,Z0O]at hR
      simp -dsimp -implicitDefEqProofs[t1,t3,t4,g,A6m,c,h1,m,b,hR,d]
 exact(B0g key).mono (by rintro v M' ⟨⟨x,rfl,rfl⟩,rfl⟩;exact⟨rfl,rfl⟩)
end
mutual
def A2R:A0a->List A0a
 |.mk id k l h w ks=>.mk id k l h w ks::A4s ks
def A4s:List A0a->List A0a
 |[]=>[]
 |k::ks=>A2R k++A4s ks
end
mutual
def A5k:∀u:A0a,(A2R u).map A0a.id=A0R u
 |.mk id _ _ _ _ ks=>by rw[A2R,A0R,Z0z,B4T ks];rfl
def B4T:∀ks:List A0a,(A4s ks).map A0a.id=A3J ks
 |[]=>by rw[A4s,A3J];rfl
 |k::ks=>by rw[A4s,A3J,Z0U,A5k k,B4T ks]
end
abbrev B5j(u:A0a):AV:=.agg u.row
def A6y(L:List (IdD×A0a)):List A0a->List (IdD×A0a)
 |[]=>L
 |u::us=>A6y (A8m L u.id u) us
def D0j(L:List (IdD×A0a)):∀us vs,A6y L (us++vs)=A6y (A6y L us) vs:=by
 intro us;induction us generalizing L with
 |nil=>intro vs;rfl
 |cons u us ih=>intro vs;exact ih _ vs
def B1S:∀(us:List A0a) (L:List (IdD×A0a)),(A6y L us).map (·.1)=A5Y (L.map (·.1)) (us.map A0a.id)
 |[],L=>rfl
 |u::us,L=>by
  rw[A6y,B1S us,D2a,Z0z,A5Y,B5c];by_cases h:u.id∈L.map (·.1)
  .rw[Z0e h,Z0e (by simpa using h)]
  .rw[Z0d h,Z0d (by simpa using h)]
mutual
noncomputable def A5U:A0a->Nat->Mem->Mem
 |.mk id k l h w ks,b,M=>A4k ks b ((A2g prog 92 M (.mapr b) (A3c id) (B5j (.mk id k l h w ks))).getD M)
noncomputable def A4k:List A0a->Nat->Mem->Mem
 |[],_,M=>M
 |k::ks,b,M=>A4k ks b (A5U k b (M++[.cells 27 k.row]))
end
mutual
def A7T:∀(u:A0a) (L:List (IdD×A0a)) (b:Nat) (M:Mem),A2q A3c B5j M b L->A2q A3c B5j (A5U u b M) b (A6y L (A2R u))/\A0c (some b) M (A5U u b M)
 |.mk id k l h w ks,L,b,M,hm=>by
  obtain⟨M1,p1,p2,p3⟩:=hm.put (A9d 92 27 (by kernel_rfl)) id (.mk id k l h w ks);have hc:A5U (.mk id k l h w ks) b M=A4k ks b M1:=by rw[A5U,p1];rfl
  obtain⟨q1,q2⟩:=B3g ks _ b M1 p2;rw[hc,A2R];exact⟨q1,p3.trans q2⟩
def B3g:∀(ks:List A0a) (L:List (IdD×A0a)) (b:Nat) (M:Mem),A2q A3c B5j M b L->A2q A3c B5j (A4k ks b M) b (A6y L (A4s ks))/\A0c (some b) M (A4k ks b M)
 |[],L,b,M,hm=>by rw[A4k,A4s];exact⟨hm,A0c.refl _ _⟩
 |k::ks,L,b,M,hm=>by obtain⟨q1,q2⟩:=A7T k L b (M++[.cells 27 k.row]) (hm.keep (A0c.app none M _) (by simp));obtain⟨r1,r2⟩:=B3g ks _ b _ q1;rw[A4k,A4s,D0j];exact⟨r1,((A0c.of_none (A0c.app none _ _)).trans q2).trans r2⟩
end
section
variable (gl:Nat->AV)
def B3G:∀(u:A0a) (L:List (IdD×A0a)) (b:Nat) (M:Mem),u.good->A2q A3c B5j M b L->A0e (WC gl) 102 [.agg u.row,.mapr b] M (λv M'=>v=.mapr b/\M'=A5U u b M)
 |.mk id kind lab hd ws ks,L,b,M,hg,hmap=>by
  obtain⟨_,_,t,_,s,_,w,l,d⟩:=(A0a.good_iff _).1 hg;have d:∀k∈ks,k.good:=d;have r:ks.length<=9223372036854775807:=l;have c:(A0a.mk id kind lab hd ws ks).row=[I id.act,I id.item,I id.n,I kind,S lab,.list 4 (A0g hd) .no,.list 4 (A0g ws) .no,.list 8 (A0p ks) .no]:=by rw[A0a.row]
  obtain⟨M1,p1,p2,p3⟩:=hmap.put (A9d 92 27 (by kernel_rfl)) id (.mk id kind lab hd ws ks);have q:A2g prog 92 M (.mapr b) (.agg [I id.act,I id.item,I id.n]) (.agg [I id.act,I id.item,I id.n,I kind,S lab,.list 4 (A0g hd) .no,.list 4 (A0g ws) .no,.list 8 (A0p ks) .no])=some M1:=by rw[<-c];exact p1
  have m:A5U (.mk id kind lab hd ws ks) b M=A4k ks b M1:=by rw[A5U,p1];rfl
  rw[c,m];generalize A8m L id (.mk id kind lab hd ws ks)=L1 at*;refine A0n hW func102 ?_;simp -dsimp[q];refine A0B hW ks.length 14 (λT M2=>∃i:Nat,i<=ks.length/\T 1=.mapr b/\T 12=.list 8 (A0p ks) .no/\T 13=I ks.length/\T 14=I i/\A4k ks b M1=A4k (ks.drop i) b M2/\∃L2,A2q A3c B5j M2 b L2) ?_ ?_
  .exact⟨0,by omega,by simp,by simp,by simp,by simp,by simp,L1,p2⟩
  .rintro T M2 ⟨i,i1,t1,h,f,g,ho,L2,o⟩;by_cases hi:i<ks.length
   ·(have e:(i:Int)<ks.length:=by omega);have w1:IntKind.i64.wrap ((i:Int)+1)=(i+1:Nat):=by rw[A0L (by omega) (by omega)];omega
    have a:ks[i]∈ks:=Z0o hi;rw[Z0j hi,A4k]at ho;(have p:(M2++[A0m.cells 27 ks[i].row])[M2.length]?=some (A0m.cells 27 ks[i].row):=by simp);have j:=o.keep (A0c.app none M2 [A0m.cells 27 ks[i].row]) (by simp);simp -dsimp[t1,h,f,g,hi,e,A0k,A0i,A0d,A0y,A0v,A0b p];have:=A0a.kid_lt (u:=.mk id kind lab hd ws ks) a;refine A0q func102 (B3G ks[i] L2 b _ (d _ a) j) ?_;rintro _ _ ⟨rfl,rfl⟩;simp -dsimp[t1,h,f,g,w1];exact⟨⟨i+1,by clear w1;omega,rfl,ho,_,(A7T ks[i] L2 b _ j).1⟩,by clear w1;omega⟩
   ·(have e:¬(i:Int)<ks.length:=by omega);rw[show ks.drop i=[]from Z0v (by omega),A4k]at ho
    rw[ho];simp -dsimp[t1,h,f,g,e]
termination_by u=>SizeOf.sizeOf u
end
end Go.Abs
