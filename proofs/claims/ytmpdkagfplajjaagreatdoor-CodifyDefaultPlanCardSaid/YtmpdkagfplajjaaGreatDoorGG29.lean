/- The texts CvC, CvD, CyI, CvE, CvF, CvG, CvH, CvI, CvJ, CvK. -/
import Derived.Test.YtmpdkagfplajjaaGreatDoorGG28
import Derived.Test.YtmpdkagfplajjaaGreatDoorGG25
set_option linter.all false
set_option maxRecDepth 100000
namespace Go.Abs
open Go.Proofs TryTypes Tryz
def A3L(s:ByteArray):Bool:=decide (1<=s.size)&&decide (s.size<=24)&&decide (A1P (A1j 33 126) s s.size 0<0)
def A4h(ws:List A0H):Bool:=decide (ws.length<=256)&&ws.all λw=>A3L w.text
def B2y(s:ByteArray):List (List AV):=s.data.toList.map λb=>[.val (.int .u8 b.toNat)]
@[simp] def E2d(s:ByteArray):(B2y s).length=s.size:=by simp only[B2y,Z0K,Z1F];rfl
@[simp] def E2g{s}{i}(h:i<(B2y s).length):(B2y s)[i]=[.val (.int .u8 (A0L s i))]:=by
 have h':i<s.size:=by simpa using h
 rw[B0W s i h'];simp only[B2y,Z1R,Array.getElem_toList];rfl
def B8t(p:Int->Bool)(s:ByteArray){i}(h:i<s.size):A1P p s (s.size-i) i=if p (A0L s i)then(i:Int)else A1P p s (s.size-(i+1)) (i+1):=by
 have:s.size-i=(s.size-(i+1))+1:=by omega
 rw[this];rfl
def A3S{α:Type}(p:α->Bool):List α->Nat->Int
 |[],_=>-1
 |x::l,i=>if p x then(i:Int)else A3S p l (i+1)
def A8H{α:Type}(p:α->Bool):∀(l:List α) (i:Nat),decide (0<=A3S p l i)=l.any p
 |[],i=>by simp[A3S]
 |x::l,i=>by
  rw[A3S,Z2C];cases h:p x
  .rw[Z0c (by simp),Z1v];exact A8H p l (i+1)
  .rw[Z0d rfl,Z2i];exact Z0v (Int.natCast_nonneg i)
abbrev A6U(s:ByteArray):List AV:=[S s]
def A1b.at1{α:Type}{e}{enc:α->List AV}{M}{v}{l}{P}{t:TypeId}(h:A1b e 1 enc M v l){f:α->AV}(hf:∀x,enc x=[f x])(ha:A2k P t=some false)(hs:A1t P t=some 1){i}(hi:i<l.length):∃p,A6N (some (some 1)) v (I i)=some p/\A1m P t M p=some (f l[i]):=by
 have he:∀x,(enc x).length=1:=λx=>by rw[hf];rfl
 rcases h with⟨rfl,rfl⟩|⟨f',g,a,rfl,hm,hl⟩
 .simp at hi
 .refine⟨.vptr f' g (i*1),by simp[hi],?_⟩;simp only[A1m,A2S,hm,hl,Z2U,A0k,ha,hs];rw[Z0k (by rw[A3c he];exact Z0n _),A5w he,Z0i hi,Z0W,hf];rfl
section
variable (gl:Nat->AV) (M:Mem)
def E1v(c:Int):A0c (WC gl) 379 [.val (.int .u8 c)] M (λv M'=>v=B (A1j 33 126 c)/\M'=M):=by
 refine A0o hB func379 ?_;by_cases h1:c<33
 .simp -dsimp -implicitDefEqProofs[A1j,h1]
 .simp -dsimp -implicitDefEqProofs[A1j,h1]
def D8i(s:ByteArray)(hs:s.size<=maxLen):A0c (WC gl) 397 [.list 1 (B2y s) .no,.func (.func 379) [] []] M (λv M'=>v=I (A1P (A1j 33 126) s s.size 0)/\M'=M):=by
 refine A0o hB func397 ?_;have b:s.size<=9223372036854775807:=hs;simp -dsimp -implicitDefEqProofs;refine A0y hB s.size 8 (λT M1=>∃i:Nat,i<=s.size/\M1=M/\T 0=.list 1 (B2y s) .no/\T 1=.func (.func 379) [] []/\T 7=I s.size/\T 8=I i/\A1P (A1j 33 126) s s.size 0=A1P (A1j 33 126) s (s.size-i) i) ?_ ?_
 .exact⟨0,by omega,rfl,by simp,by simp,by simp,by simp,by simp⟩
 .rintro T M1 ⟨i,i1,rfl,t0,t1,t7,t8,ho⟩;by_cases hi:i<s.size
  ·(have a:(i:Int)<s.size:=by omega);have w1:IntKind.i64.wrap ((i:Int)+1)=(i+1:Nat):=by rw[A0J (by omega) (by omega)];omega
   rw[B8t _ _ hi]at ho;simp -dsimp -implicitDefEqProofs[t0,t1,t7,t8,hi,a];refine A0i func379 (E1v gl _ _) ?_;cases hp:A1j 33 126 (A0L s i)
   .rw[hp,Z0c (by simp)]at ho;simp -dsimp -implicitDefEqProofs[t0,t1,t7,t8,w1];exact⟨⟨i+1,by clear w1;omega,rfl,ho⟩,by clear w1;omega⟩
   .rw[hp,Z0d rfl]at ho;simp -dsimp -implicitDefEqProofs[t0,t1,t7,t8,ho]
  ·(have a:¬(i:Int)<s.size:=by omega);rw[show s.size-i=0 by omega]at ho
   simp -dsimp -implicitDefEqProofs[t0,t1,t7,t8,a,ho,A1P]
def D6y(s:ByteArray)(hs:s.size<=maxLen):A0c (WC gl) 380 [.list 1 (B2y s) .no,.func (.func 379) [] []] M (λv M'=>v=B (decide (0<=A1P (A1j 33 126) s s.size 0))/\M'=M):=by refine A0o hB func380 ?_;simp -dsimp -implicitDefEqProofs;refine A0i func397 (D8i gl M s hs) ?_;simp -dsimp -implicitDefEqProofs
def C5T{h}{d}{x}{t:TypeId}{p}{af}{g}{ρ:Operand->AV}{M}{s}(hx:ρ x=S s)(hs:s.size<2^62):A0Q (WC gl) h ⟨d,.convert 9 114 x,t,p,af,g⟩ ρ M=some (.list 1 (B2y s) .no,M):=by
 have a:s.size<4611686018427387904:=by simpa using hs
 simp[A0Q,A0E,A1u,A1p,A0Y,A3N,hx,A4v,B2T,B2y,a]
def D8e(s:ByteArray)(hs:s.size<=maxLen):A0c (WC gl) 339 [S s] M (λv M'=>v=B (A3L s)/\M'=M):=by
 refine A0o hB func339 ?_;by_cases h0:s.size=0
 .have he:s=⟨#[]⟩:=A6Q.2 h0;have hw:A3L ⟨#[]⟩=false:=by decide
  simp -dsimp -implicitDefEqProofs[he,hw]
 .have he:¬s=⟨#[]⟩:=λh=>h0 (A6Q.1 h);have h1:decide (1<=s.size)=true:=Z0v (by omega);by_cases h2:s.size<=24
  ·(have b:(s.size:Int)<=24:=by omega);have hw:A3L s=decide (A1P (A1j 33 126) s s.size 0<0):=by simp[A3L,h1,h2]
   simp -dsimp -implicitDefEqProofs[he,b,hw,A4v];rw[C5T gl (s:=s) (by rfl) (by omega)];simp -dsimp -implicitDefEqProofs;refine A0i func380 (D6y gl M s hs) ?_;by_cases h3:0<=A1P (A1j 33 126) s s.size 0
   ·(have a:¬A1P (A1j 33 126) s s.size 0<0:=by omega);rw[Z0y a]at hw
    simp -dsimp -implicitDefEqProofs[h3,a,hw]
   ·(have a:A1P (A1j 33 126) s s.size 0<0:=by omega);rw[Z0v a]at hw
    simp -dsimp -implicitDefEqProofs[h3,a,hw]
  ·(have b:¬(s.size:Int)<=24:=by omega);have hw:A3L s=false:=by simp[A3L,h2]
   simp -dsimp -implicitDefEqProofs[he,b,hw]
def D9Z(s:ByteArray)(hs:s.size<=maxLen):A0c (WC gl) 338 [S s] M (λv M'=>v=B (!A3L s)/\M'=M):=by refine A0o hB func338 ?_;simp -dsimp -implicitDefEqProofs;refine A0i func339 (D8e gl M s hs) ?_;simp -dsimp -implicitDefEqProofs
def D8H(l:List ByteArray)(hl:l.length<=1000)(hs:∀s∈l,s.size<=maxLen)(v:AV)(hv:A1b 9 1 A6U M v l):A0c (WC gl) 378 [v,.func (.func 338) [] []] M (λr M'=>r=I (A3S (λs=>!A3L s) l 0)/\M'=M):=by
 refine A0o hB func378 ?_;have b:A2v prog 37 v=some l.length:=hv.len (e':=9) (by simp);simp -dsimp -implicitDefEqProofs[b];refine A0y hB l.length 8 (λT M1=>∃i:Nat,i<=l.length/\M1=M/\T 0=v/\T 1=.func (.func 338) [] []/\T 7=I l.length/\T 8=I i/\A3S (λs=>!A3L s) l 0=A3S (λs=>!A3L s) (l.drop i) i) ?_ ?_
 .exact⟨0,by omega,rfl,by simp,by simp,by simp,by simp,by simp⟩
 .rintro T M1 ⟨i,i1,rfl,t0,t1,t7,t8,ho⟩;by_cases hi:i<l.length
  ·(have a:(i:Int)<l.length:=by omega);have w1:=A1E (i:=i) (by omega)
   obtain⟨p,p1,p2⟩:=hv.at1 (P:=prog) (t:=9) (f:=S) (λ_=>rfl) (by simp) (by simp) hi;have hd:l.drop i=l[i]::l.drop (i+1):=Z0i hi;rw[hd,A3S]at ho;simp -dsimp -implicitDefEqProofs[t0,t1,t7,t8,hi,a,p1,p2];refine A0i func338 (D9Z gl _ l[i] (hs _ (Z0q hi))) ?_;cases hp:A3L l[i]
   .rw[hp,Z0d (by rfl)]at ho;simp -dsimp -implicitDefEqProofs[t0,t1,t7,t8,ho]
   .rw[hp,Z0c (by simp)]at ho;simp -dsimp -implicitDefEqProofs[t0,t1,t7,t8,w1];exact⟨⟨i+1,by clear w1;omega,rfl,ho⟩,by clear w1;omega⟩
  ·(have a:¬(i:Int)<l.length:=by omega);rw[show l.drop i=[]from Z0o (by omega)]at ho
   simp -dsimp -implicitDefEqProofs[t0,t1,t7,t8,a,ho,A3S]
def D6w(l:List ByteArray)(hl:l.length<=1000)(hs:∀s∈l,s.size<=maxLen)(v:AV)(hv:A1b 9 1 A6U M v l):A0c (WC gl) 337 [v,.func (.func 338) [] []] M (λr M'=>r=B (l.any λs=>!A3L s)/\M'=M):=by refine A0o hB func337 ?_;simp -dsimp -implicitDefEqProofs;refine A0i func378 (D8H gl M l hl hs v hv) ?_;rw[<-A8H _ l 0];simp -dsimp -implicitDefEqProofs
def C1y(l:List ByteArray)(hl:l.length<=1000)(hs:∀s∈l,s.size<=maxLen)(v:AV)(hv:A1b 9 1 A6U M v l):A0c (WC gl) 262 [v] M (λr M'=>r=B (decide (l.length<=256)&&l.all A3L)/\M'=M):=by
 refine A0o hB func262 ?_;have a:A2v prog 37 v=some l.length:=hv.len (e':=9) (by simp);by_cases h1:l.length<=256
 .have b:(l.length:Int)<=256:=by omega
  simp -dsimp -implicitDefEqProofs[a,b,h1];refine A0i func337 (D6w gl M l hl hs v hv) ?_;have:(l.any λs=>!A3L s)=!l.all A3L:=by rw[List.not_all_eq_any_not]
  rw[this];simp -dsimp -implicitDefEqProofs[h1]
 .have b:¬(l.length:Int)<=256:=by omega
  simp -dsimp -implicitDefEqProofs[a,b,h1]
end
def A0N(l:List A0H):List ByteArray:=l.map A0H.text
def A4X:List (List Int):=[[1,2],[2],[3,4,7],[3,4,7],[5],[6],[],[]]
def A1Z(p k:Int):Bool:=decide (0<=p)&&decide (p<8)&&(A4X.getD p.toNat []).contains k
def C2z(l:List A0H):(A0N l).all A3L=l.all λw=>A3L w.text:=by simp[A0N,List.all_map];rfl
def hQ(l:List Nat):A2r:=⟨λ_=>true,λ_=>false,λd=>l.contains d⟩
@[simp] def E8f{l}:(hQ l).imm=λ_=>true:=rfl
@[simp] def E7b{l}:(hQ l).own=λ_=>false:=rfl
@[simp] def E7u{l}:(hQ l).vec=λd=>l.contains d:=rfl
section
variable (gl:Nat->AV) (M:Mem)
def C3g{own vec}{K:AV->Mem->Prop}{tg}{v}{M}{l}{s}{o}(hv:A1b 9 1 A6U M v l)(hl:l.length<=1000000000)(a:vec=true) (hk:∀v' M',A1b 9 1 A6U M' v' (l++[s])->A0d (obj v) M M'->(obj v'=obj v\/A1g M.length v')->K v' M'):A5x (WC gl) own vec 37 37 v (.list 1 [[S s]] o) M K tg:=by
 refine A3p (C:=WC gl) (enc:=A6U) (e:=9) (sz:=1) (news:=[s]) A8Q B1E B9w (λ_=>rfl) hv (by simp[A0A]) (by simp;omega) a ?_
 intro v' M' h1 h2 h3 _
 exact hk v' M' h1 h2 h3
def A2D{M M1 M2:Mem}{v v':AV}{X:List A0p}(h1:Grow M M1)(hl:A1g M.length v)(h2:A0d (obj v) (M1++X) M2)(h3:obj v'=obj v\/A1g (M1++X).length v'):Grow M M2/\A1g M.length v':=by
 refine⟨⟨?_,λi hi _=>?_⟩,λf hf=>?_⟩
 .have:=h1.1;have:=h2.1;simp at this;omega
 .rw[h2.2 i (by have:=h1.1;simp;omega) (λe=>by have:=hl _ e;omega),Z0h (by have:=h1.1;omega)];exact h1.2 i hi (by simp)
 .rcases h3 with e|e
  .exact hl f (by rw[<-e];exact hf)
  .have:=e f hf;have:=h1.1;simp at*;omega
def D5L(ws:List A0H)(o:Own)(hl:ws.length<=100000000)(hs:∀w∈ws,w.text.size<=maxLen):A0c (WC gl) 208 [.list 4 (A0g ws) o] M (λv M'=>v=B (A4h ws)/\M'=M):=by
 have key:A0c (WC gl) 208 [.list 4 (A0g ws) o] M (λv M'=>(∃x,v=.val x/\x=.bool (A4h ws))/\Grow M M'):=by
  refine A0o (hQ [16]) func208 ?_;simp -dsimp -implicitDefEqProofs;refine A0y (hQ [16]) ws.length 8 (λT M1=>∃i:Nat,i<=ws.length/\T 0=.list 4 (A0g ws) o/\T 6=.list 4 (A0g ws) o/\T 7=I ws.length/\T 8=I i/\A1b 9 1 A6U M1 (T 3) (A0N (ws.take i))/\Grow M M1/\A1g M.length (T 3)) ?_ ?_
  .exact⟨0,by omega,by simp,by simp,by simp,by simp,by simpa[A0N]using A1b.nil,A0d.refl _ _,by simp[A1g]⟩
  .rintro T M1 ⟨i,i1,t0,t6,t7,t8,hv,hg,hL⟩;by_cases hi:i<ws.length
   ·(have a:(i:Int)<ws.length:=by omega);have w1:IntKind.i64.wrap ((i:Int)+1)=(i+1:Nat):=by rw[A0J (by omega) (by omega)];omega
    generalize d:T 3=ov at*;(have e:(M1++[A0p.cells 152 [S ws[i].text,I ws[i].act,I ws[i].item,I ws[i].at_]])[M1.length]?=some (A0p.cells 152 [S ws[i].text,I ws[i].act,I ws[i].item,I ws[i].at_]):=by simp);have c:A1b 9 1 A6U (M1++[A0p.cells 152 [S ws[i].text,I ws[i].act,I ws[i].item,I ws[i].at_]]) ov (A0N (ws.take i)):=hv.keep (A0d.app none M1 _) (by simp);(have ht:A0N (ws.take (i+1))=A0N (ws.take i)++[ws[i].text]:=by rw[A0N,A0N,Z1j,Z0m hi,Z0Q];rfl);simp -dsimp -implicitDefEqProofs[t0,t6,t7,t8,hi,a,d,A0l,A0m,A0e,A0H.row,A0b e,A0n,A0W];refine C3g gl c (by simp[A0N];omega) rfl ?_;intro v' M' h1 h2 h3;obtain⟨k1,k2⟩:=A2D hg hL h2 h3;simp -dsimp -implicitDefEqProofs[t0,t6,t7,t8,w1];exact⟨⟨i+1,by clear w1;omega,rfl,by rw[ht];exact h1,k1,k2⟩,by clear w1;omega⟩
   ·(have a:¬(i:Int)<ws.length:=by omega);rw[Z0k (by omega)]at hv
    by_cases h3:ws.length<=256
    ·(have b:(ws.length:Int)<=256:=by omega);simp -dsimp -implicitDefEqProofs[t0,t6,t7,t8,a,b]
     refine A0s func262 (C1y gl M1 (A0N ws) (by simp[A0N];omega) (by simpa[A0N]using hs) (T 3) hv) ?_;rintro _ _ ⟨rfl,rfl⟩;rw[C2z];simp -dsimp -implicitDefEqProofs[A4h,A0N,hg]
    ·(have b:¬(ws.length:Int)<=256:=by omega);simp -dsimp -implicitDefEqProofs[t0,t6,t7,t8,a,b,A4h,hg,h3]
 have:=A6I (Q:=λx=>x=.bool (A4h ws)) key;exact this.mono (by rintro v M' ⟨⟨x,rfl,rfl⟩,rfl⟩;exact⟨rfl,rfl⟩)
end
section
variable (gl:Nat->AV) (M:Mem)
def B9I(p:Int->Bool)(s:ByteArray){i}(h:i<s.size):A1P p s (s.size-i) i=if p (A0L s i)then(i:Int)else A1P p s (s.size-(i+1)) (i+1):=by
 have:s.size-i=(s.size-(i+1))+1:=by omega
 rw[this];rfl
def B8N{s:ByteArray}{i:Nat}(h:A1P (A1j 48 57) s s.size 0=(i:Int)):A0Z s=i:=by simp only[A0Z,h];split<;>omega
def C3R{s}(h:A1P (A1j 48 57) s s.size 0=-1):A0Z s=s.size:=by simp only[A0Z,h];rfl
def C1S(s:ByteArray)(hs:s.size<=maxLen):A0c (WC gl) 155 [S s] M (λv M'=>v=I (A0Z s)/\M'=M):=by
 refine A0o hB func155 ?_;simp -dsimp -implicitDefEqProofs;refine A0y hB s.size 3 (λT M1=>∃i:Nat,i<=s.size/\M1=M/\T 0=S s/\T 3=I i/\A1P (A1j 48 57) s s.size 0=A1P (A1j 48 57) s (s.size-i) i) ?_ ?_
 .refine⟨0,?_⟩;simp -dsimp -implicitDefEqProofs
 .rintro T M1 ⟨i,h1,rfl,h3,h4,h5⟩;by_cases hi:i<s.size
  ·(have a:(i:Int)<s.size:=by omega);have hw:IntKind.i64.wrap ((i:Int)+1)=(i+1:Nat):=by rw[A0J (by omega) (by simp only[maxLen]at hs;omega)];omega
   rw[B9I _ _ hi]at h5;by_cases c1:A0L s i>=48
   .by_cases c2:A0L s i<=57
    ·(have ho:A1j 48 57 (A0L s i)=false:=by simp[A1j];omega);rw[ho]at h5
     have b:(48:Int)<=A0L s i:=c1;simp -dsimp -implicitDefEqProofs[h3,h4,hi,a,c1,b,c2,hw];refine⟨⟨i+1,by clear hw;omega,by simp,by simpa using h5⟩,by clear hw;omega⟩
    ·(have ho:A1j 48 57 (A0L s i)=true:=by simp[A1j];omega);rw[ho]at h5
     have b:(48:Int)<=A0L s i:=c1;have hd:=B8N (by simpa using h5);simp -dsimp -implicitDefEqProofs[h3,h4,hi,a,c1,b,c2,hd]
   ·(have ho:A1j 48 57 (A0L s i)=true:=by simp[A1j];omega);rw[ho]at h5
    have b:¬(48:Int)<=A0L s i:=c1;have hd:=B8N (by simpa using h5);simp -dsimp -implicitDefEqProofs[h3,h4,hi,a,c1,b,hd]
  ·(have a:¬(i:Int)<s.size:=by omega);rw[show s.size-i=0 by omega]at h5
   have hd:=C3R (by rw[h5];rfl);(have c:(i:Int)=s.size:=by omega);simp -dsimp -implicitDefEqProofs[h3,h4,a,hd,c]
def A8Z(s:ByteArray)(hs:s.size<=maxLen):A0c (WC gl) 105 [S s] M (λv M'=>v=B (A0B s)/\M'=M):=by
 refine A0o hB func105 ?_;simp -dsimp -implicitDefEqProofs;refine A0s func155 (C1S gl M s hs) ?_;rintro r M' ⟨rfl,rfl⟩;have g:=A5Y s;generalize hd:A0Z s=d at*;by_cases c1:1<=d;case neg=>
  have:(d:Int)<1:=by omega
  simp -dsimp -implicitDefEqProofs[this,A0B,hd,c1]
 have i1:¬(d:Int)<1:=by omega
 by_cases c2:d<=4;case neg=>
  have:(4:Int)<d:=by omega
  simp -dsimp -implicitDefEqProofs[this,A0B,hd,c1,i1,c2]
 have i2:¬(4:Int)<d:=by omega
 have b:0<s.size:=by omega
 by_cases c3:A0L s 0=48
 .simp -dsimp -implicitDefEqProofs[A0B,hd,c1,i1,c2,i2,c3,b]
 have hw:IntKind.i64.wrap ((s.size:Int)-d)=(s.size-d:Nat):=by rw[A0J (by omega) (by simp only[maxLen]at hs;omega)];omega
 by_cases c4:s.size-d<=3;case neg=>
  have:(3:Int)<(s.size-d:Nat):=by omega
  have f:¬s.size<=3+d:=by omega
  simp -dsimp -implicitDefEqProofs[A0B,hd,c1,i1,c2,i2,c3,b,hw,this,f]
 have i4:¬(3:Int)<(s.size-d:Nat):=by omega
 simp -dsimp -implicitDefEqProofs[A0B,hd,c1,i1,c2,i2,c3,b,hw,i4];have e:A0B s=decide (A1P (A1j 65 90) s (s.size-d) d<0):=by simp[A0B,hd,c1,c2,c3];omega
 rw[e];clear e;refine A0y hB s.size 4 (λT M1=>∃i:Nat,i<=s.size/\M1=M'/\T 0=S s/\T 4=I i/\decide (A1P (A1j 65 90) s (s.size-d) d<0)=decide (A1P (A1j 65 90) s (s.size-i) i<0)) ?_ ?_
 .refine⟨d,?_⟩;simp -dsimp -implicitDefEqProofs[g]
 .rintro T M1 ⟨i,h1,rfl,h3,h4,h5⟩;rw[h5];by_cases hi:i<s.size
  ·(have a:(i:Int)<s.size:=by omega);have hw:IntKind.i64.wrap ((i:Int)+1)=(i+1:Nat):=by rw[A0J (by omega) (by simp only[maxLen]at hs;omega)];omega
   rw[B9I _ _ hi]at h5|-;by_cases c1:A0L s i<65
   ·(have ho:A1j 65 90 (A0L s i)=true:=by simp[A1j];omega);rw[ho]at h5|-
    simp -dsimp -implicitDefEqProofs[h3,h4,hi,a,c1]
   .by_cases c2:A0L s i>90
    ·(have ho:A1j 65 90 (A0L s i)=true:=by simp[A1j];omega);rw[ho]at h5|-
     have c:90<A0L s i:=c2;simp -dsimp -implicitDefEqProofs[h3,h4,hi,a,c1,c2,c]
    ·(have ho:A1j 65 90 (A0L s i)=false:=by simp[A1j];omega);rw[ho]at h5|-
     have c:¬90<A0L s i:=c2;simp -dsimp -implicitDefEqProofs[h3,h4,hi,a,c1,c2,c,hw];refine⟨⟨i+1,by clear hw;omega,by simp,Iff.rfl⟩,by clear hw;omega⟩
  ·(have a:¬(i:Int)<s.size:=by omega);rw[show s.size-i=0 by omega]at h5|-
   simp -dsimp -implicitDefEqProofs[h3,h4,a,A1P]
end
section
variable (gl:Nat->AV) (M:Mem)
def D3L(s:ByteArray)(hs:s.size<=maxLen):A0c (WC gl) 193 [S s] M (λv M'=>v=B (A3L s)/\M'=M):=by
 refine A0o hB func193 ?_;by_cases h1:s.size<1
 .have d:(s.size:Int)<1:=by omega
  have hw:A3L s=false:=by simp[A3L];omega
  simp -dsimp -implicitDefEqProofs[d,hw]
 have d:¬(s.size:Int)<1:=by omega
 by_cases h2:s.size<=24;case neg=>
  have a:(24:Int)<s.size:=by omega
  have e:(s.size:Int)>24:=a;have hw:A3L s=false:=by simp[A3L,h2]
  simp -dsimp -implicitDefEqProofs[d,a,e,hw]
 have a:¬(24:Int)<s.size:=by omega
 have e:¬(s.size:Int)>24:=a;have hw:A3L s=decide (A1P (A1j 33 126) s s.size 0<0):=by
  have:1<=s.size:=by omega
  simp[A3L,h2,this]
 simp -dsimp -implicitDefEqProofs[d,a,e];refine A0y hB s.size 3 (λT M1=>∃i:Nat,i<=s.size/\M1=M/\T 0=S s/\T 3=I i/\A1P (A1j 33 126) s s.size 0=A1P (A1j 33 126) s (s.size-i) i) ?_ ?_
 .exact⟨0,by omega,rfl,by simp,by simp,by simp⟩
 .rintro T M1 ⟨i,i1,rfl,t0,t3,ho⟩;by_cases hi:i<s.size
  ·(have b:(i:Int)<s.size:=by omega);have w1:IntKind.i64.wrap ((i:Int)+1)=(i+1:Nat):=by rw[A0J (by omega) (by omega)];omega
   rw[B8t _ _ hi]at ho;generalize hc:A0L s i=c at*;by_cases c1:c<33
   ·(have hp:A1j 33 126 c=true:=by simp[A1j,c1]);rw[hp,Z0d rfl]at ho
    (have hn:¬A1P (A1j 33 126) s s.size 0<0:=by rw[ho];omega);rw[Z0y hn]at hw
    simp -dsimp -implicitDefEqProofs[t0,t3,hi,b,hc,c1,hw]
   .by_cases c2:c>126
    ·(have hp:A1j 33 126 c=true:=by simp[A1j];omega);rw[hp,Z0d rfl]at ho
     (have hn:¬A1P (A1j 33 126) s s.size 0<0:=by rw[ho];omega);rw[Z0y hn]at hw
     have f:126<c:=c2;simp -dsimp -implicitDefEqProofs[t0,t3,hi,b,hc,c1,c2,f,hw]
    ·(have hp:A1j 33 126 c=false:=by simp[A1j];omega);rw[hp,Z0c (by simp)]at ho
     have f:¬126<c:=c2;simp -dsimp -implicitDefEqProofs[t0,t3,hi,b,hc,c1,c2,f,w1];exact⟨⟨i+1,by clear w1;omega,rfl,ho⟩,by clear w1;omega⟩
  ·(have b:¬(i:Int)<s.size:=by omega);rw[show s.size-i=0 by omega]at ho
   (have hn:A1P (A1j 33 126) s s.size 0<0:=by rw[ho,A1P];omega);rw[Z0v hn]at hw
   simp -dsimp -implicitDefEqProofs[t0,t3,b,hw]
def D3y(l:List ByteArray)(hl:l.length<=1000)(hs:∀s∈l,s.size<=maxLen)(v:AV)(hv:A1b 9 1 A6U M v l):A0c (WC gl) 195 [v] M (λr M'=>r=B (decide (l.length<=256)&&l.all A3L)/\M'=M):=by
 refine A0o hB func195 ?_;have a:A2v prog 37 v=some l.length:=hv.len (e':=9) (by simp);by_cases h1:l.length<=256;case neg=>
  have b:(256:Int)<l.length:=by omega
  have c:(l.length:Int)>256:=b;simp -dsimp -implicitDefEqProofs[a,b,c,h1]
 have b:¬(256:Int)<l.length:=by omega
 have c:¬(l.length:Int)>256:=b;simp -dsimp -implicitDefEqProofs[a,b,c];refine A0y hB l.length 3 (λT M1=>∃i:Nat,i<=l.length/\M1=M/\T 0=v/\T 3=I i/\l.all A3L=(l.drop i).all A3L) ?_ ?_
 .exact⟨0,by omega,rfl,by simp,by simp,by simp⟩
 .rintro T M1 ⟨i,i1,rfl,t0,t3,ho⟩;by_cases hi:i<l.length
  ·(have d:(i:Int)<l.length:=by omega);have w1:=A1E (i:=i) (by omega)
   obtain⟨p,p1,p2⟩:=hv.at1 (P:=prog) (t:=9) (f:=S) (λ_=>rfl) (by simp) (by simp) hi;have hd:l.drop i=l[i]::l.drop (i+1):=Z0i hi;rw[hd,Z1D]at ho;simp -dsimp -implicitDefEqProofs[t0,t3,a,hi,d,p1,p2];refine A0i func193 (D3L gl _ l[i] (hs _ (Z0q hi))) ?_;cases hp:A3L l[i]
   .rw[hp,Z0B]at ho;rw[ho,Z3f];simp -dsimp -implicitDefEqProofs[t0,t3]
   .rw[hp,Z0A]at ho;simp -dsimp -implicitDefEqProofs[t0,t3,w1];exact⟨⟨i+1,by clear w1;omega,rfl,ho⟩,by clear w1;omega⟩
  ·(have d:¬(i:Int)<l.length:=by omega);rw[show l.drop i=[]from Z0o (by omega)]at ho
   rw[ho];simp -dsimp -implicitDefEqProofs[t0,t3,a,d,h1]
def D6q(M:Mem)(l:List ByteArray)(v:AV)(M':Mem):Prop:=A1b 9 1 A6U M' v l/\Grow M M'/\A1g M.length v
def C3f(ws:List A0H)(o:Own)(hl:ws.length<=100000000):A0c (WC gl) 33 [.list 4 (A0g ws) o] M (D6q M (A0N ws)):=by
 refine A0o (hQ [5,19]) func33 ?_;simp -dsimp -implicitDefEqProofs;refine A0y (hQ [5,19]) ws.length 4 (λT M1=>∃i:Nat,i<=ws.length/\T 0=.list 4 (A0g ws) o/\T 4=I i/\A1b 9 1 A6U M1 (T 3) (A0N (ws.take i))/\Grow M M1/\A1g M.length (T 3)) ?_ ?_
 .refine⟨0,by omega,by simp,by simp,?_,A0d.app none M _,by simp[A1g]⟩;refine .inr ⟨M.length,0,[(0,0)],by simp[A0N],by simp[A0N],by simp[A0N,List.lookup]⟩
 .rintro T M1 ⟨i,i1,t0,t4,hv,hg,hL⟩;by_cases hi:i<ws.length
  ·(have a:(i:Int)<ws.length:=by omega);have w1:IntKind.i64.wrap ((i:Int)+1)=(i+1:Nat):=by rw[A0J (by omega) (by omega)];omega
   generalize b:T 3=ov at*;(have ht:A0N (ws.take (i+1))=A0N (ws.take i)++[ws[i].text]:=by rw[A0N,A0N,Z1j,Z0m hi,Z0Q];rfl);simp -dsimp -implicitDefEqProofs[t0,t4,hi,a,b,A0H.row,A0n,A0W];refine C3g gl hv (by simp[A0N];omega) rfl ?_;intro v' M' h1 h2 h3;obtain⟨k1,k2⟩:=A2D (X:=[]) hg hL (by simpa using h2) (by simpa using h3);simp -dsimp -implicitDefEqProofs[t0,t4,w1];exact⟨⟨i+1,by clear w1;omega,rfl,by rw[ht];exact h1,k1,k2⟩,by clear w1;omega⟩
  ·(have a:¬(i:Int)<ws.length:=by omega);rw[Z0k (by omega)]at hv
   simp -dsimp -implicitDefEqProofs[t0,t4,a,D6q,hv,hg,hL]
def D1h(ws:List A0H)(o:Own)(hl:ws.length<=100000000)(hs:∀w∈ws,w.text.size<=maxLen):A0c (WC gl) 245 [.list 4 (A0g ws) o] M (λv M'=>v=B (A4h ws)/\M'=M):=by
 have key:A0c (WC gl) 245 [.list 4 (A0g ws) o] M (λv M'=>(∃x,v=.val x/\x=.bool (A4h ws))/\Grow M M'):=by
  refine A0o hB func245 ?_;by_cases h1:ws.length<=256
  ·(have a:(ws.length:Int)<=256:=by omega);simp -dsimp -implicitDefEqProofs[a]
   refine A0s func33 (C3f gl M ws o hl) ?_;rintro v M1 ⟨hv,hg,hL⟩;simp -dsimp -implicitDefEqProofs;refine A0s func195 (D3y gl M1 (A0N ws) (by simp[A0N];omega) (by simpa[A0N]using hs) v hv) ?_;rintro _ _ ⟨rfl,rfl⟩;rw[C2z];simp -dsimp -implicitDefEqProofs[A4h,A0N,hg]
  ·(have a:¬(ws.length:Int)<=256:=by omega);simp -dsimp -implicitDefEqProofs[a,A4h,h1]
   exact A0d.refl _ _
 exact(A6I (Q:=λx=>x=.bool (A4h ws)) key).mono (by rintro v M' ⟨⟨x,rfl,rfl⟩,rfl⟩;exact⟨rfl,rfl⟩)
end
def A9O(l:List Int):List (List AV):=l.map λx=>[I x]
@[simp] def E2z(l:List Int):(A9O l).length=l.length:=by simp[A9O]
@[simp] def E2t{p}{i}(h:i<(A9O p).length):(A9O p)[i]=[I (p[i]'(by simpa using h))]:=by simp[A9O]
def A2h:AV:=.cptr (A4X.map λl=>.list 1 (A9O l) .no)
def A9I:List ByteArray:=[⟨#[98,111,111,107]⟩,⟨#[112,97,114,116]⟩,⟨#[115,101,99,116,105,111,110]⟩,⟨#[112,97,114,97,103,114,97,112,104]⟩,⟨#[116,97,98,108,101]⟩,⟨#[114,111,119]⟩,⟨#[99,101,108,108]⟩,⟨#[110,111,116,101]⟩]
def A2s:AV:=.cptr (A9I.map S)
section
variable (gl:Nat->AV) (M:Mem)
def D1u(l:List Int)(o:Own)(hl:l.length<=1000)(x:Int):A0c (WC gl) 261 [.list 1 (A9O l) o,I x] M (λv M'=>v=I (A3S (λy=>decide (x=y)) l 0)/\M'=M):=by
 refine A0o hB func261 ?_;simp -dsimp -implicitDefEqProofs;refine A0y hB l.length 8 (λT M1=>∃i:Nat,i<=l.length/\M1=M/\T 0=.list 1 (A9O l) o/\T 1=I x/\T 7=I l.length/\T 8=I i/\A3S (λy=>decide (x=y)) l 0=A3S (λy=>decide (x=y)) (l.drop i) i) ?_ ?_
 .exact⟨0,by omega,rfl,by simp,by simp,by simp,by simp,by simp⟩
 .rintro T M1 ⟨i,i1,rfl,t0,t1,t7,t8,ho⟩;by_cases hi:i<l.length
  ·(have a:(i:Int)<l.length:=by omega);have w1:=A1E (i:=i) (by omega)
   have hd:l.drop i=l[i]::l.drop (i+1):=Z0i hi;rw[hd,A3S]at ho;by_cases hp:x=l[i]
   .rw[Z0v hp,Z0d rfl]at ho;simp -dsimp -implicitDefEqProofs[t0,t1,t7,t8,hi,a,hp.symm,ho]
   .rw[Z0y hp,Z0c (by simp)]at ho;simp -dsimp -implicitDefEqProofs[t0,t1,t7,t8,hi,a,hp,w1];exact⟨⟨i+1,by clear w1;omega,rfl,ho⟩,by clear w1;omega⟩
  ·(have a:¬(i:Int)<l.length:=by omega);rw[show l.drop i=[]from Z0o (by omega)]at ho
   simp -dsimp -implicitDefEqProofs[t0,t1,t7,t8,a,ho,A3S]
def C3Y(l:List Int)(o:Own)(hl:l.length<=1000)(x:Int):A0c (WC gl) 205 [.list 1 (A9O l) o,I x] M (λv M'=>v=B (l.contains x)/\M'=M):=by
 refine A0o hB func205 ?_;simp -dsimp -implicitDefEqProofs;refine A0i func261 (D1u gl M l o hl x) ?_;have:l.contains x=l.any λy=>decide (x=y):=by rw[List.contains_eq_any_beq];congr 1
 rw[this,<-A8H _ l 0];simp -dsimp -implicitDefEqProofs
def E0h:C5X prog 242=some (8,130):=by kernel_rfl
def E0l:C5X prog 278=some (8,9):=by kernel_rfl
def D3w{h}{d}{y}{t:TypeId}{p}{af}{g}{ρ:Operand->AV}{M}{k}(h0:ρ (.global 0)=A2h)(hy:ρ y=I k)(k0:0<=k)(k8:k<8):A0Q (WC gl) h ⟨d,.indexAddr 242 (.global 0) y,t,p,af,g⟩ ρ M=some (.cptr ((A4X.map λl=>AV.list 1 (A9O l) .no).drop k.toNat),M):=by simp[A0Q,A0E,A1u,A1p,A0Y,h0,hy,A2h,E0h,k0,k8]
def D3t{h}{d}{y}{t:TypeId}{p}{af}{g}{ρ:Operand->AV}{M}{k}(h0:ρ (.global 1)=A2s)(hy:ρ y=I k)(k0:0<=k)(k8:k<8):A0Q (WC gl) h ⟨d,.indexAddr 278 (.global 1) y,t,p,af,g⟩ ρ M=some (.cptr ((A9I.map S).drop k.toNat),M):=by simp[A0Q,A0E,A1u,A1p,A0Y,h0,hy,A2s,E0l,k0,k8]
def D6p(p k:Int):A0c (WC gl) 106 [I p,I k] M (λv M'=>v=B (A1Z p k)/\M'=M):=by
 refine A0o hB func106 ?_;by_cases h0:p=0
 .subst h0;have e:A1Z 0 k=(decide (k=1)||decide (k=2)):=by simp[A1Z,A4X]
  rw[e];by_cases k1:k=1
  .simp -dsimp -implicitDefEqProofs[k1]
  .simp -dsimp -implicitDefEqProofs[k1];rfl
 by_cases h1:p=1
 .subst h1;have e:A1Z 1 k=decide (k=2):=by simp[A1Z,A4X]
  rw[e];simp -dsimp -implicitDefEqProofs;rfl
 by_cases h2:p=2
 .subst h2;have e:A1Z 2 k=(decide (k=3)||decide (k=4)||decide (k=7)):=by simp[A1Z,A4X,Bool.or_assoc]
  rw[e];by_cases k1:k=3
  .simp -dsimp -implicitDefEqProofs[k1]
  .by_cases k2:k=4
   .simp -dsimp -implicitDefEqProofs[k1,k2]
   .simp -dsimp -implicitDefEqProofs[k1,k2];rfl
 by_cases h3:p=3
 .subst h3;have e:A1Z 3 k=(decide (k=3)||decide (k=4)||decide (k=7)):=by simp[A1Z,A4X,Bool.or_assoc]
  rw[e];by_cases k1:k=3
  .simp -dsimp -implicitDefEqProofs[k1]
  .by_cases k2:k=4
   .simp -dsimp -implicitDefEqProofs[k1,k2]
   .simp -dsimp -implicitDefEqProofs[k1,k2];rfl
 by_cases h4:p=4
 .subst h4;have e:A1Z 4 k=decide (k=5):=by simp[A1Z,A4X]
  rw[e];simp -dsimp -implicitDefEqProofs;rfl
 by_cases h5:p=5
 .subst h5;have e:A1Z 5 k=decide (k=6):=by simp[A1Z,A4X]
  rw[e];simp -dsimp -implicitDefEqProofs;rfl
 .have e:A1Z p k=false:=by
   by_cases q:0<=p/\p<8
   ·(have:p=6\/p=7:=by omega);rcases this with rfl|rfl<;>simp[A1Z,A4X]
   .simp only[A1Z,Z2M,Z1e];omega
  simp -dsimp -implicitDefEqProofs[h0,h1,h2,h3,h4,h5,e]
def C6Q{e}{x i}{cs}(h:x=.cptr cs):A6N e x i=none:=by subst h;unfold A6N;split<;>simp_all
def A9G(hg:gl 0=A2h)(p k:Int):A0c (WC gl) 152 [I p,I k] M (λv M'=>v=B (A1Z p k)/\M'=M):=by
 refine A0o hB func152 ?_;by_cases h0:0<=p;case neg=>
  have b:¬p>=0:=h0;have e:A1Z p k=false:=by simp[A1Z,h0]
  simp -dsimp -implicitDefEqProofs[h0,b,e]
 have b:p>=0:=h0;by_cases h1:p<8;case neg=>
  have e:A1Z p k=false:=by simp[A1Z,h1]
  simp -dsimp -implicitDefEqProofs[h0,b,h1,e]
 have hn:∀e,A6N e (gl 0) (I p)=none:=λe=>C6Q hg;simp -dsimp -implicitDefEqProofs[h0,b,h1,hn];rw[D3w gl (k:=p) (by exact hg) (by rfl) h0 h1];have c:p.toNat<A4X.length:=by show p.toNat<8;omega
 have hd:(A4X.map λl=>AV.list 1 (A9O l) .no).drop p.toNat=.list 1 (A9O A4X[p.toNat]) .no::(A4X.map λl=>AV.list 1 (A9O l) .no).drop (p.toNat+1):=by rw[Z0i (by simpa using c),Z1R]
 have a:∀l∈A4X,l.length<=1000:=by decide
 have e:A1Z p k=A4X[p.toNat].contains k:=by simp only[A1Z,Z0v h0,Z0v h1,Z0A,Z2O,Z0m c,Z1y]
 rw[e];simp -dsimp -implicitDefEqProofs[hd];refine A0i func205 (C3Y gl M _ .no (a _ (Z0q c)) k) ?_;simp -dsimp -implicitDefEqProofs
def A4N(k:Int):ByteArray:=if 0<=k/\k<8 then A9I.getD k.toNat .empty else⟨#[]⟩
def A6z(k:Int):A4N k=⟨#[]⟩<->¬(0<=k/\k<8):=by
 unfold A4N;constructor
 .intro h hk;rw[Z0d hk]at h;have:∀i:Fin 8,A9I.getD i.val .empty≠⟨#[]⟩:=by decide
  exact this ⟨k.toNat,by omega⟩ h
 .intro h;rw[Z0c h]
def B1O(hg:gl 1=A2s)(k:Int):A0c (WC gl) 207 [I k] M (λv M'=>v=S (A4N k)/\M'=M):=by
 refine A0o hB func207 ?_;by_cases h0:k<0
 .have e:A4N k=⟨#[]⟩:=(A6z k).2 (by omega);simp -dsimp -implicitDefEqProofs[h0,e]
 by_cases h1:8<=k
 .have a:k>=8:=h1;have e:A4N k=⟨#[]⟩:=(A6z k).2 (by omega);simp -dsimp -implicitDefEqProofs[h0,h1,a,e]
 have a:¬k>=8:=h1;have hn:∀e,A6N e (gl 1) (I k)=none:=λe=>C6Q hg;simp -dsimp -implicitDefEqProofs[h0,h1,a,hn];rw[D3t gl (k:=k) (by exact hg) (by rfl) (by omega) (by omega)];have b:k.toNat<A9I.length:=by show k.toNat<8;omega
 have hd:(A9I.map S).drop k.toNat=S A9I[k.toNat]::(A9I.map S).drop (k.toNat+1):=by rw[Z0i (by simpa using b),Z1R]
 have e:A4N k=A9I[k.toNat]:=by rw[A4N,Z0d (by omega),Z2O,Z0m b];rfl
 rw[e];simp -dsimp -implicitDefEqProofs[hd]
end
open Go.Proofs TryTypes
section
mutual
def A4J{A:Type}(p:A0a->Bool)(stp:A->A0a->A):A0a->A->Bool×A
 |.mk id k l h w ks,a=>if p (.mk id k l h w ks)then A3K p stp ks (stp a (.mk id k l h w ks))else(false,stp a (.mk id k l h w ks))
def A3K{A:Type}(p:A0a->Bool)(stp:A->A0a->A):List A0a->A->Bool×A
 |[],a=>(true,a)
 |u::l,a=>if(A4J p stp u a).1 then A3K p stp l (A4J p stp u a).2 else(false,(A4J p stp u a).2)
end
section
variable (gl:Nat->AV)
end
end
abbrev C4A(x:Int×ByteArray):AV:=.agg [I x.1,S x.2]
abbrev A2R(x:IdD):AV:=.agg x.row
def D6r:prog.stoodInHeld 247=false:=by kernel_rfl
def B7Q:prog.stoodInHeld 23=false:=by kernel_rfl
def D9a{a b:ByteArray}:(a.data==b.data)=decide (a=b):=by
 by_cases h:a=b
 .subst h;simp
 .rw[Z0y h];refine Z2f.2 λe=>h ?_;cases a;cases b;simp only at e;rw[e]
def D7G(a:ByteArray):(a==a)=true:=by show(a.data==a.data)=true;simp
def D8V{x y:Int}(h:¬x=y):(x==y)=false:=Z2f.2 h
def C2U:C2f prog 245 247 4 C4A:=by
 refine⟨by kernel_rfl,by kernel_rfl,λk=>?_,λa b=>?_,λa=>⟨.agg #[.int .i64 a.1,.string a.2],by simp[A9n],?_⟩⟩
 .simp[A5V,A0k,underlying247]
 .obtain⟨x,s⟩:=a;obtain⟨y,t⟩:=b;simp[A8a,A2N,A0k,D6r];rw[D9a];by_cases h1:x=y
  .subst h1;by_cases h2:s=t
   .subst h2;simp
   .simp[h2]
  .simp[h1,D8V h1]
 .simp[Instr.sameBits,D7G]
def A9j(t e:TypeId)(c:A9B prog t=some (23,e)):C2f prog t 23 e A2R:=by
 refine⟨c,by kernel_rfl,λk=>?_,λa b=>?_,λa=>⟨.agg #[.int .i64 a.act,.int .i64 a.item,.int .i64 a.n],by simp[A9n,IdD.row],?_⟩⟩
 .simp[A5V,A0k,IdD.row]
 .obtain⟨x,y,z⟩:=a;obtain⟨x',y',z'⟩:=b;simp[A8a,A2N,A0k,B7Q,IdD.row];by_cases h1:x=x'
  .subst h1;by_cases h2:y=y'
   .subst h2;by_cases h3:z=z'
    .subst h3;simp
    .simp[h3,D8V h3]
   .simp[h2,D8V h2]
  .simp[h1,D8V h1]
 .simp[Instr.sameBits]
def C0I(t e:TypeId)(c:A9B prog t=some (3,e)):C2f prog t 3 e I:=by
 refine⟨c,by kernel_rfl,λk=>?_,λa b=>?_,λa=>⟨.int .i64 a,by simp[A9n],?_⟩⟩
 .simp[A5V]
 .simp[A8a];by_cases h1:a=b
  .subst h1;simp
  .simp[h1]
 .simp[Instr.sameBits]
@[simp] def E4R{a}{b}:A0w prog 247 [(0,I a),(1,S b)]=some (.agg [I a,S b]):=by
 simp[A0w,A1e,A1r,A0e]
@[simp] def D0w:A0w prog 23 []=some (.agg [I 0,I 0,I 0]):=by
 simp[A0w,A1e]
def B5U{K:Type}[DecidableEq K](c:K):∀A1k:List K,A1V (A1k.map λx=>(x,true)) c=if(A1k.any λy=>decide (y=c))then some true else none
 |[]=>rfl
 |x::l=>by
  rw[Z0s,A1V,Z2C];by_cases h:c=x
  .subst h;simp
  .rw[Z0c h,Z0y (λe=>h e.symm),Z1v];exact B5U c l
def B5H{K:Type}[DecidableEq K](c:K):∀A1k:List K,(A1k.any λy=>decide (y=c))=false->A8s (A1k.map λx=>(x,true)) c true=(A1k++[c]).map λx=>(x,true)
 |[],_=>rfl
 |x::l,h=>by
  rw[Z2C,Z1Z]at h;have h1:¬c=x:=λe=>by subst e;simp at h
  rw[Z0s,A8s,Z0c h1,B5H c l h.2];rfl
def C1a(u:A0a):Bool:=if u.kind=0 then decide (u.label.size=0)&&decide (u.head.length+u.words.length=0)else decide (0<=u.kind/\u.kind<8)&&A0B u.label&&A4h u.head&&A4h u.words
def A8M(kind:Int):List A0a->List (Int×ByteArray)->Bool
 |[],_=>true
 |k::ks,A1k=>A1Z kind k.kind&&!(A1k.any λy=>decide (y=(k.kind,k.label)))&&A8M kind ks (A1k++[(k.kind,k.label)])
def A9u(u:A0a):Bool:=C1a u&&A8M u.kind u.kids []&&decide (u.kids.length<=64)
def A0a.lim(u:A0a):Prop:=u.head.length<=100000000/\u.words.length<=100000000/\u.kids.length<=1000/\u.label.size<=1000
section
variable (gl:Nat->AV) (M:Mem)
set_option maxHeartbeats 1000000 in
def D6b(an:gl 0=A2h)(af:gl 1=A2s)(u:A0a)(hg:u.good)(hl:u.lim):A0c (WC gl) 156 [.agg u.row] M (λv M'=>v=B (A9u u)/\Grow M M'):=by
 obtain⟨id,kind,b,hd,ws,ks⟩:=u;obtain⟨_,_,_,_,al,_,ao,_,aq⟩:=(A0a.good_iff _).1 hg;obtain⟨a5,a4,ag,ac⟩:=hl;have a5:hd.length<=100000000:=a5;have a4:ws.length<=100000000:=a4;have ag:ks.length<=1000:=ag;have ac:b.size<=1000:=ac;have ad:(A0a.mk id kind b hd ws ks).row=[I id.act,I id.item,I id.n,I kind,S b,.list 4 (A0g hd) .no,.list 4 (A0g ws) .no,.list 8 (A0q ks) .no]:=by rw[A0a.row]
 have a6:A9u (.mk id kind b hd ws ks)=(C1a (.mk id kind b hd ws ks)&&A8M kind ks []&&decide (ks.length<=64)):=rfl;have d:C1a (.mk id kind b hd ws ks)=if kind=0 then decide (b.size=0)&&decide (hd.length+ws.length=0)else decide (0<=kind/\kind<8)&&A0B b&&A4h hd&&A4h ws:=rfl;rw[ad];obtain⟨R,hR⟩:∃R,R=A9u (.mk id kind b hd ws ks):=⟨_,rfl⟩;rw[<-hR];have a:C1a (.mk id kind b hd ws ks)=false->R=false:=λh=>by rw[hR,a6,h];rfl
 refine A0o hW func156 ?_;by_cases k0:kind=0;case' pos=>
  rw[Z0d k0]at d;by_cases h1:b=⟨#[]⟩;case neg=>have a9:¬b.size=0:=λe=>h1 (A6Q.2 e);have:=a (by rw[d,Z0y a9,Z0B]);simp -dsimp -implicitDefEqProofs[Z1h k0,h1,this,A0d.refl]
  have a9:b.size=0:=A6Q.1 h1;have wz:IntKind.i64.wrap ((hd.length:Int)+(ws.length:Int))=(hd.length:Int)+(ws.length:Int):=A0J (by omega) (by omega);by_cases h2:hd.length+ws.length=0;case neg=>
   (have m:(0:Int)<(hd.length:Int)+(ws.length:Int):=by omega);have a7:(hd.length:Int)+(ws.length:Int)>0:=m
   have:=a (by rw[d,Z0y h2,Z3f]);simp -dsimp -implicitDefEqProofs[Z1h k0,Z1h h1,wz,m,a7,this,A0d.refl]
  have m:¬(0:Int)<(hd.length:Int)+(ws.length:Int):=by omega
  have a7:¬(hd.length:Int)+(ws.length:Int)>0:=m;have r:C1a (.mk id kind b hd ws ks)=true:=by rw[d,Z0v a9,Z0v h2];rfl
  have k:Grow M M:=A0d.refl _ _;simp -dsimp -implicitDefEqProofs[Z1h k0,Z1h h1,wz,m,a7]
 case' neg=>
  rw[Z0c k0]at d;by_cases h1:0<=kind/\kind<8;case neg=>have e:A4N kind=⟨#[]⟩:=(A6z kind).2 h1;have:=a (by rw[d,Z0y h1];rfl);simp -dsimp -implicitDefEqProofs[k0];refine A0s func207 (B1O gl M af kind) ?_;rintro _ _ ⟨rfl,rfl⟩;simp -dsimp -implicitDefEqProofs[e,this,A0d.refl]
  have e:¬A4N kind=⟨#[]⟩:=λq=>(A6z kind).1 q h1;rw[Z0v h1,Z0A]at d;simp -dsimp -implicitDefEqProofs[k0];refine A0s func207 (B1O gl M af kind) ?_;rintro _ M0 ⟨rfl,rfl⟩;simp -dsimp -implicitDefEqProofs[e];refine A0s func112 (A6C gl M0 b) ?_;rintro _ M ⟨rfl,k⟩;cases h2:A0B b;case false=>have:=a (by rw[d,h2];rfl);simp -dsimp -implicitDefEqProofs[this,k]
  rw[h2,Z0A]at d;simp -dsimp -implicitDefEqProofs;refine A0s func208 (D5L gl M hd .no a5 (λw hw=>(al w hw).1)) ?_;rintro _ M ⟨rfl,rfl⟩;cases h3:A4h hd;case false=>have:=a (by rw[d,h3];rfl);simp -dsimp -implicitDefEqProofs[this,k]
  rw[h3,Z0A]at d;simp -dsimp -implicitDefEqProofs;refine A0s func208 (D5L gl M ws .no a4 (λw hw=>(ao w hw).1)) ?_;rintro _ M ⟨rfl,rfl⟩;cases h4:A4h ws;case false=>have:=a (by rw[d,h4]);simp -dsimp -implicitDefEqProofs[this,k]
  have r:C1a (.mk id kind b hd ws ks)=true:=by rw[d,h4]
  simp -dsimp -implicitDefEqProofs
 all_goals
  have f:R=(A8M kind ks []&&decide (ks.length<=64)):=by rw[hR,a6,r,Z0A]
  have a3:=λ{X:Mem} (h:Grow M X)=>k.trans h
  clear a a6 d hR r
  refine A0y hW ks.length 49 (λT M1=>∃i:Nat,i<=ks.length/\T 1=.cptr [I id.act,I id.item,I id.n,I kind,S b,.list 4 (A0g hd) .no,.list 4 (A0g ws) .no,.list 8 (A0q ks) .no]/\T 3=.mapr M.length/\T 47=.list 8 (A0q ks) .no/\T 48=I ks.length/\T 49=I i/\Grow M M1/\∃A1k,A2i C4A B M1 M.length (A1k.map λx=>(x,true))/\A8M kind ks []=A8M kind (ks.drop i) A1k) ?_ ?_
  .exact⟨0,by omega,by simp,by simp,by simp,by simp,by simp,A0d.app none M _,[],A2i.new M,by simp⟩
  .rintro T M2 ⟨i,i1,t1,t3,a2,a1,t,a8,A1k,ai,ho⟩;by_cases hi:i<ks.length
   ·(have s:(i:Int)<ks.length:=by omega);have w1:=A1E (i:=i) (by omega)
    have ak:ks.drop i=ks[i]::ks.drop (i+1):=Z0i hi;rw[ak,A8M]at ho;obtain⟨X,hX⟩:∃X,X=ks[i]:=⟨_,rfl⟩;(have am:ks[i].row=[I X.id.act,I X.id.item,I X.id.n,I X.kind,S X.label,.list 4 (A0g X.head) .no,.list 4 (A0g X.words) .no,.list 8 (A0q X.kids) .no]:=by rw[<-hX];exact X.row_eq);rw[<-hX]at ho;(have ah:(M2++[A0p.cells 27 [I X.id.act,I X.id.item,I X.id.n,I X.kind,S X.label,.list 4 (A0g X.head) .no,.list 4 (A0g X.words) .no,.list 8 (A0q X.kids) .no]])[M2.length]?=some (A0p.cells 27 [I X.id.act,I X.id.item,I X.id.n,I X.kind,S X.label,.list 4 (A0g X.head) .no,.list 4 (A0g X.words) .no,.list 8 (A0q X.kids) .no]):=by simp);simp -dsimp -implicitDefEqProofs[t1,t3,a2,a1,t,hi,s,A0l,A0m,A0e,AV.storable,AV.cells,am,A0b ah];obtain⟨c,hc⟩:∃c:Int×ByteArray,c=(X.kind,X.label):=⟨_,rfl⟩;(have aj:AV.agg [I X.kind,S X.label]=C4A c:=by rw[hc]);generalize a0:M2++[A0p.cells 27 [I X.id.act,I X.id.item,I X.id.n,I X.kind,S X.label,.list 4 (A0g X.head) .no,.list 4 (A0g X.words) .no,.list 8 (A0q X.kids) .no],A0p.cells 247 [I X.kind,S X.label]]=M3;(have aa:M3[M2.length+1]?=some (A0p.cells 247 [I X.kind,S X.label]):=by rw[<-a0];simp);(have ab:M3[M2.length]?=some (A0p.cells 27 [I X.id.act,I X.id.item,I X.id.n,I X.kind,S X.label,.list 4 (A0g X.head) .no,.list 4 (A0g X.words) .no,.list 8 (A0q X.kids) .no]):=by rw[<-a0];simp);(have ae:Grow M2 M3:=by rw[<-a0];exact A0d.app none _ _);have o:=ai.keep ae (by simp);have g:=a8.trans ae;clear a0 ah;simp -dsimp -implicitDefEqProofs[t1,A0b ab];refine A0s func152 (A9G gl M3 an kind X.kind) ?_;rintro _ _ ⟨rfl,rfl⟩;cases hn:A1Z kind X.kind;(case false=>rw[hn,Z0B,Z0B]at ho;rw[ho,Z0B]at f;simp -dsimp -implicitDefEqProofs[t1,f,a3 g]);rw[hn,Z0A]at ho;have p:=o.get C2U c (z:=B false) (by kernel_rfl) false;rw[<-aj]at p;rw[B5U]at p;rw[<-hc]at ho;simp -dsimp -implicitDefEqProofs[t3,A0b aa,p];cases hs:A1k.any λy=>decide (y=c);(case true=>rw[hs,Z1U,Z0B]at ho;rw[ho,Z0B]at f;simp -dsimp -implicitDefEqProofs[t1,f,a3 g]);rw[hs,Z1S,Z0A]at ho;obtain⟨M4,p1,p2,p3⟩:=o.put C2U c true;rw[B5H c A1k hs]at p2;rw[<-aj]at p1;(have ap:Grow M M4:=by refine⟨Z0X g.1 p3.1,λj hj _=>?_⟩;rw[p3.2 j (by have:=g.1;omega) (by simp;omega)];exact g.2 j hj (by simp));simp -dsimp -implicitDefEqProofs[t3,A0b aa,p1,t1,a2,a1,t,w1];exact⟨⟨i+1,by clear w1;omega,rfl,ap,A1k++[c],p2,ho⟩,by clear w1;omega⟩
   ·(have s:¬(i:Int)<ks.length:=by omega);rw[show ks.drop i=[]from Z0o (by omega),A8M]at ho
    rw[ho,Z0A]at f;by_cases h64:ks.length<=64
    ·(have l:(ks.length:Int)<=64:=by omega);rw[Z0v h64]at f
     simp -dsimp -implicitDefEqProofs[t1,a2,a1,t,s,l,f,a3 a8]
    ·(have l:¬(ks.length:Int)<=64:=by omega);rw[Z0y h64]at f
     simp -dsimp -implicitDefEqProofs[t1,a2,a1,t,s,l,f,a3 a8]
end
def A3W(u:A0a):Bool:=decide (0<=u.kind/\u.kind<=7)&&decide (u.kids.length<=64)&&A4h u.head&&A4h u.words&&(if u.kind=0 then decide (u.label.size=0)&&decide (u.head.length=0)&&decide (u.words.length=0)else A0B u.label)
def A2W(a b:A0a):Bool:=decide (a.kind=b.kind)&&decide (a.label=b.label)
mutual
def A2c:A0a->Bool
 |.mk id k l h w ks=>A3W (.mk id k l h w ks)&&A4x k ks []
def A4x(kind:Int):List A0a->List A0a->Bool
 |[],_=>true
 |k::ks,before=>A1Z kind k.kind&&A2c k&&!(before.any λa=>A2W a k)&&A4x kind ks (before++[k])
end
mutual
def A0a.lims:A0a->Prop
 |.mk id k l h w ks=>(A0a.mk id k l h w ks).lim/\A5s ks
def A5s:List A0a->Prop
 |[]=>True
 |k::ks=>k.lims/\A5s ks
end
def A3g:∀{l:List A0a},A5s l<->∀u∈l,u.lims
 |[]=>by simp[A5s]
 |u::l=>by simp[A5s,A3g (l:=l)]
section
variable (gl:Nat->AV)
def D3u(u:A0a)(M:Mem)(hg:u.good)(hl:u.lim):A0c (WC gl) 196 [.agg u.row] M (λv M'=>v=B (A3W u)/\M'=M):=by
 obtain⟨id,kind,b,hd,ws,ks⟩:=u;obtain⟨_,_,k,_,p,_,o,_,r⟩:=(A0a.good_iff _).1 hg;have k:b.size<=maxLen:=k;obtain⟨j,i,l,q⟩:=hl;have j:hd.length<=100000000:=j;have i:ws.length<=100000000:=i;have l:ks.length<=1000:=l;have m:(A0a.mk id kind b hd ws ks).row=[I id.act,I id.item,I id.n,I kind,S b,.list 4 (A0g hd) .no,.list 4 (A0g ws) .no,.list 8 (A0q ks) .no]:=by rw[A0a.row]
 obtain⟨R,hR⟩:∃R,R=A3W (.mk id kind b hd ws ks):=⟨_,rfl⟩;have a:R=(decide (0<=kind/\kind<=7)&&decide (ks.length<=64)&&A4h hd&&A4h ws&&(if kind=0 then decide (b.size=0)&&decide (hd.length=0)&&decide (ws.length=0)else A0B b)):=hR;rw[m,<-hR];clear hR;refine A0o hB func196 ?_;by_cases a1:kind<0
 .rw[Z0y (show¬(0<=kind/\kind<=7)by omega)]at a;simp only[Z0B]at a;simp -dsimp -implicitDefEqProofs[a1,a]
 by_cases a2:7<kind
 .have f:kind>7:=a2;rw[Z0y (show¬(0<=kind/\kind<=7)by omega)]at a;simp only[Z0B]at a;simp -dsimp -implicitDefEqProofs[a1,a2,f,a]
 have f:¬kind>7:=a2;rw[Z0v (show 0<=kind/\kind<=7 by omega),Z0A]at a;by_cases a3:ks.length<=64;case neg=>
  have c:(64:Int)<ks.length:=by omega
  have g:(ks.length:Int)>64:=c;rw[Z0y a3]at a;simp only[Z0B]at a;simp -dsimp -implicitDefEqProofs[a1,a2,f,c,g,a]
 have c:¬(64:Int)<ks.length:=by omega
 have g:¬(ks.length:Int)>64:=c;rw[Z0v a3,Z0A]at a;simp -dsimp -implicitDefEqProofs[a1,a2,f,c,g];refine A0i func245 (D1h gl M hd .no j (λw hw=>(p w hw).1)) ?_;cases h3:A4h hd;case false=>rw[h3]at a;simp only[Z0B]at a;simp -dsimp -implicitDefEqProofs[a]
 rw[h3,Z0A]at a;simp -dsimp -implicitDefEqProofs;refine A0i func245 (D1h gl _ ws .no i (λw hw=>(o w hw).1)) ?_;cases h4:A4h ws;case false=>rw[h4,Z0B]at a;simp -dsimp -implicitDefEqProofs[a]
 rw[h4,Z0A]at a;by_cases k0:kind=0
 .rw[Z0d k0]at a;by_cases h1:b=⟨#[]⟩
  .rw[Z0v (A6Q.1 h1),Z0A]at a;by_cases h2:hd.length=0
   ·(have d:(hd.length:Int)=0:=by omega);rw[Z0v h2,Z0A]at a
    by_cases h5:ws.length=0
    ·(have h:(ws.length:Int)=0:=by omega);rw[Z0v h5]at a
     simp -dsimp -implicitDefEqProofs[Z1h k0,Z1h h1,Z1h d,Z1h h2,Z1h h5,Z1h h,a]
    ·(have h:¬(ws.length:Int)=0:=by omega);rw[Z0y h5]at a
     simp -dsimp -implicitDefEqProofs[Z1h k0,Z1h h1,Z1h d,Z1h h2,h5,h,a]
   ·(have d:¬(hd.length:Int)=0:=by omega);rw[Z0y h2,Z0B]at a
    simp -dsimp -implicitDefEqProofs[Z1h k0,Z1h h1,d,h2,a]
  .rw[Z0y (λe=>h1 (A6Q.2 e)),Z0B,Z0B]at a;simp -dsimp -implicitDefEqProofs[Z1h k0,h1,a]
 .rw[Z0c k0]at a;simp -dsimp -implicitDefEqProofs[k0];refine A0i func105 (A8Z gl M b k) ?_;simp -dsimp -implicitDefEqProofs[a]
def C2Z:∀(u:A0a) (M:Mem),u.good->u.lims->A0c (WC gl) 142 [.agg u.row] M (λv M'=>v=B (A2c u)/\M'=M)
 |.mk id kind lab hd ws ks,M,hg,hl=>by
  obtain⟨_,_,z,_,y,_,a1,_,l⟩:=(A0a.good_iff _).1 hg;have l:∀k∈ks,k.good:=l;rw[A0a.lims]at hl;obtain⟨h,p⟩:=hl;have p:=A3g.1 p;have a0:ks.length<=1000:=h.2.2.1;have r:(A0a.mk id kind lab hd ws ks).row=[I id.act,I id.item,I id.n,I kind,S lab,.list 4 (A0g hd) .no,.list 4 (A0g ws) .no,.list 8 (A0q ks) .no]:=by rw[A0a.row]
  have s:=D3u gl (.mk id kind lab hd ws ks) M hg h;obtain⟨R,hR⟩:∃R,R=A2c (.mk id kind lab hd ws ks):=⟨_,rfl⟩;have b:R=(A3W (.mk id kind lab hd ws ks)&&A4x kind ks []):=by rw[hR,A2c]
  rw[<-hR];rw[r]at s|-;clear hR;refine A0o hB func142 ?_;simp -dsimp -implicitDefEqProofs;refine A0i func196 s ?_;cases ha:A3W (.mk id kind lab hd ws ks);case false=>rw[ha,Z0B]at b;simp -dsimp -implicitDefEqProofs[b]
  rw[ha,Z0A]at b;simp -dsimp -implicitDefEqProofs;refine A0y hB ks.length 3 (λT M1=>∃i:Nat,i<=ks.length/\T 1=.cptr [I id.act,I id.item,I id.n,I kind,S lab,.list 4 (A0g hd) .no,.list 4 (A0g ws) .no,.list 8 (A0q ks) .no]/\T 3=I i/\M1=M/\A4x kind ks []=A4x kind (ks.drop i) (ks.take i)) ?_ ?_
  .exact⟨0,by omega,by simp,by simp,rfl,by simp⟩
  .rintro T M1 ⟨i,i1,t1,t3,rfl,ho⟩;by_cases hi:i<ks.length;case neg=>
    (have c:¬(i:Int)<ks.length:=by omega);rw[show ks.drop i=[]from Z0o (by omega),A4x]at ho
    rw[ho]at b;simp -dsimp -implicitDefEqProofs[t1,t3,c,b]
   (have c:(i:Int)<ks.length:=by omega);have w1:=A1E (i:=i) (by omega)
   have g:ks[i]∈ks:=Z0q hi;have t:ks.drop i=ks[i]::ks.drop (i+1):=Z0i hi;rw[t,A4x]at ho;(have x:ks.take i++[ks[i]]=ks.take (i+1):=by rw[Z1j,Z0m hi,Z3t]);rw[x]at ho;obtain⟨X,hX⟩:∃X,X=ks[i]:=⟨_,rfl⟩;(have d:ks[i].row=[I X.id.act,I X.id.item,I X.id.n,I X.kind,S X.label,.list 4 (A0g X.head) .no,.list 4 (A0g X.words) .no,.list 8 (A0q X.kids) .no]:=by rw[<-hX];exact X.row_eq);rw[<-hX]at ho;have f:=λM=>C2Z ks[i] M (l _ g) (p _ g);simp only[d]at f;rw[<-hX]at f;simp -dsimp -implicitDefEqProofs[t1,t3,hi,c];refine A0X hB (A0t gl) (λ_=>0) (λ_=>0) (by rfl) (by kernel_rfl) ?_;simp -dsimp -implicitDefEqProofs[t1,t3,hi,c,d];refine A1G func106 (λM=>(D6p gl M kind X.kind)) ?_;cases hn:A1Z kind X.kind;(case false=>rw[hn]at ho;simp only[Z0B]at ho;rw[ho]at b;simp -dsimp -implicitDefEqProofs[t1,t3,b]);rw[hn,Z0A]at ho;simp -dsimp -implicitDefEqProofs[t1,t3,hi,c,d];have:=A0a.kid_lt (u:=.mk id kind lab hd ws ks) g;refine A1G func142 f ?_;cases hrt:A2c X;(case false=>rw[hrt]at ho;simp only[Z0B]at ho;rw[ho]at b;simp -dsimp -implicitDefEqProofs[t1,t3,b]);rw[hrt,Z0A]at ho;simp -dsimp -implicitDefEqProofs[t1,t3];refine A1R hB (λT2 M2=>∃j:Nat,j<=i/\T2 1=.cptr [I id.act,I id.item,I id.n,I kind,S lab,.list 4 (A0g hd) .no,.list 4 (A0g ws) .no,.list 8 (A0q ks) .no]/\T2 3=I i/\T2 4=I j/\M2=M1/\((ks.take i).any λa=>A2W a X)=(((ks.take i).drop j).any λa=>A2W a X)) (λT M1=>match T 4 with|.val (.int _ j)=>i-j.toNat|_=>0) (by kernel_rfl) ?_ ?_
   .exact⟨0,by omega,by simp[t1],by simp[t3],by simp,rfl,by simp⟩
   .rintro T2 M2 ⟨j,j1,u1,u3,u4,rfl,hb⟩;by_cases hj:j<i;case neg=>
     (have m:¬(j:Int)<i:=by omega);rw[show(ks.take i).drop j=[]from Z0o (by simp;omega),Z4k]at hb
     rw[hb,Z1S,Z0A]at ho;simp -dsimp -implicitDefEqProofs[u1,u3,u4,m,w1,t3];exact⟨⟨i+1,by clear w1;omega,rfl,ho⟩,by clear w1;omega⟩
    (have m:(j:Int)<i:=by omega);have q:j<ks.length:=by omega
    (have e:(j:Int)<ks.length:=by omega);have w2:=A1E (i:=j) (by omega)
    (have w:(ks.take i).drop j=ks[j]::(ks.take i).drop (j+1):=by rw[Z0i (by simp;omega)];simp);rw[w,Z2C]at hb
    obtain⟨Y,hY⟩:∃Y,Y=ks[j]:=⟨_,rfl⟩;(have o:ks[j].row=[I Y.id.act,I Y.id.item,I Y.id.n,I Y.kind,S Y.label,.list 4 (A0g Y.head) .no,.list 4 (A0g Y.words) .no,.list 8 (A0q Y.kids) .no]:=by rw[<-hY];exact Y.row_eq);rw[<-hY]at hb;simp -dsimp -implicitDefEqProofs[u1,u3,u4,m];refine A0X hB (A0t gl) (λ_=>0) (λ_=>0) (by rfl) (by kernel_rfl) ?_;by_cases c1:Y.kind=X.kind
    .by_cases c2:Y.label=X.label
     ·(have hs:A2W Y X=true:=by simp[A2W,c1,c2]);rw[hs,Z2i]at hb
      rw[hb,Z1U,Z0B]at ho;rw[ho]at b;simp -dsimp -implicitDefEqProofs[u1,u3,u4,hi,c,q,e,d,o,Z1h c1,Z1h c2,b]
     ·(have hs:A2W Y X=false:=by simp[A2W,c2]);rw[hs,Z1v]at hb
      simp -dsimp -implicitDefEqProofs[u1,u3,u4,hi,c,q,e,d,o,Z1h c1,c2,w2];exact⟨⟨j+1,by clear w2;omega,rfl,hb⟩,by clear w2;omega⟩
    ·(have hs:A2W Y X=false:=by simp[A2W,c1]);rw[hs,Z1v]at hb
     simp -dsimp -implicitDefEqProofs[u1,u3,u4,hi,c,q,e,d,o,c1,w2];exact⟨⟨j+1,by clear w2;omega,rfl,hb⟩,by clear w2;omega⟩
termination_by u=>SizeOf.sizeOf u
end
mutual
def A0j:A0a->Nat
 |.mk _ _ _ _ _ ks=>1+A0f ks
def A0f:List A0a->Nat
 |[]=>0
 |k::ks=>A0j k+A0f ks
end
mutual
def A1D:A0a->Nat
 |.mk _ _ _ _ _ ks=>A2I ks
def A2I:List A0a->Nat
 |[]=>0
 |k::ks=>max (1+A1D k) (A2I ks)
end
mutual
def A0T:A0a->List IdD
 |.mk id _ _ _ _ ks=>id::A2a ks
def A2a:List A0a->List IdD
 |[]=>[]
 |k::ks=>A0T k++A2a ks
end
mutual
def B5f:∀u:A0a,A1D u<A0j u
 |.mk _ _ _ _ _ ks=>by rw[A1D,A0j];have:=C2J ks;omega
def C2J:∀ks:List A0a,A2I ks<=A0f ks
 |[]=>by rw[A2I,A0f];exact Z0n _
 |k::ks=>by rw[A2I,A0f];have:=B5f k;have:=C2J ks;omega
end
mutual
def A5a:∀u:A0a,(A0T u).length=A0j u
 |.mk _ _ _ _ _ ks=>by rw[A0T,A0j,Z0x,B9H ks];omega
def B9H:∀ks:List A0a,(A2a ks).length=A0f ks
 |[]=>by rw[A2a,A0f];rfl
 |k::ks=>by rw[A2a,A0f,Z0r,A5a k,B9H ks]
end
def A3X(u:A0a):0<A0j u:=by obtain⟨a,b,c,d,e,f⟩:=u;rw[A0j];omega
def A2u:∀{ks:List A0a} {k:A0a},k∈ks->A0j k<=A0f ks
 |[],_,h=>by simp at h
 |x::ks,k,h=>by
  rw[A0f];rcases Z0t.1 h with rfl|h
  .omega
  .have:=A2u h;omega
def A1Q:∀ks:List A0a,ks.length<=A0f ks
 |[]=>by simp[A0f]
 |k::ks=>by rw[A0f,Z0x];have:=A3X k;have:=A1Q ks;omega
def C7K{ks:List A0a}{i:Nat}(h:i<ks.length):A0f (ks.drop i)=A0j ks[i]+A0f (ks.drop (i+1)):=by rw[Z0i h,A0f]
def B6G{ks:List A0a}{i:Nat}(h:i<ks.length):A2I (ks.drop i)=max (1+A1D ks[i]) (A2I (ks.drop (i+1))):=by rw[Z0i h,A2I]
section
variable (gl:Nat->AV)
def B9x:∀(u:A0a) (M:Mem),u.good->A0j u<=1000->A0c (WC gl) 157 [.agg u.row] M (λv M'=>(∃x,v=.val x/\x=.int .i64 (A1D u))/\M'=M)
 |.mk id kind lab hd ws ks,M,hg,hc=>by
  refine A6I ?_;obtain⟨_,_,s,_,q,_,t,_,c⟩:=(A0a.good_iff _).1 hg;have c:∀k∈ks,k.good:=c;have r:1+A0f ks<=1000:=by rwa[A0j]at hc
  have p:=A1Q ks;have l:(A0a.mk id kind lab hd ws ks).row=[I id.act,I id.item,I id.n,I kind,S lab,.list 4 (A0g hd) .no,.list 4 (A0g ws) .no,.list 8 (A0q ks) .no]:=by rw[A0a.row]
  have m:A1D (.mk id kind lab hd ws ks)=A2I ks:=by rw[A1D]
  rw[l,m];refine A0o hW func157 ?_;simp -dsimp -implicitDefEqProofs;refine A0y hW ks.length 9 (λT M1=>∃i:Nat,i<=ks.length/\T 7=.list 8 (A0q ks) .no/\T 8=I ks.length/\T 9=I i/\Grow M M1/\∃d:Nat,T 3=I d/\d<=1000/\A2I ks=max d (A2I (ks.drop i))) ?_ ?_
  .exact⟨0,by omega,by simp,by simp,by simp,A0d.refl _ _,0,by simp,by omega,by simp⟩
  .rintro T M1 ⟨i,i1,t7,t8,t9,j,d,t3,d1,ho⟩;by_cases hi:i<ks.length
   ·(have f:(i:Int)<ks.length:=by omega);have w1:=A1E (i:=i) (by omega)
    have b:ks[i]∈ks:=Z0q hi;rw[B6G hi]at ho;have y:=A2u b;have w:=B5f ks[i];(have o:(M1++[A0p.cells 27 ks[i].row])[M1.length]?=some (A0p.cells 27 ks[i].row):=by simp);have h:Grow M (M1++[A0p.cells 27 ks[i].row]):=j.trans (A0d.app none _ _);simp -dsimp -implicitDefEqProofs[t3,t7,t8,t9,hi,f,A0l,A0m,A0e,AV.storable,AV.cells,A0b o];have:=A0a.kid_lt (u:=.mk id kind lab hd ws ks) b;refine A0s func157 (B9x ks[i] _ (c _ b) (by omega)) ?_;rintro _ _ ⟨⟨_,rfl,rfl⟩,rfl⟩;generalize A1D ks[i]=dk at*;(have w2:IntKind.i64.wrap (1+(dk:Int))=((1+dk:Nat):Int):=by rw[A0J (by omega) (by omega)];omega);obtain⟨e,he⟩:∃e,e=1+dk:=⟨_,rfl⟩;rw[<-he]at w2 ho;by_cases hm:d<e
    ·(have a:(d:Int)<e:=by omega);have g:(e:Int)>d:=a
     simp -dsimp -implicitDefEqProofs[t3,t7,t8,t9,w1,w2,A7U,a,g];exact⟨⟨i+1,by clear w1;omega,rfl,h,e,rfl,by omega,by omega⟩,by clear w1;omega⟩
    ·(have a:¬(d:Int)<e:=by omega);have g:¬(e:Int)>d:=a
     simp -dsimp -implicitDefEqProofs[t3,t7,t8,t9,w1,w2,A7U,a,g];exact⟨⟨i+1,by clear w1;omega,rfl,h,d,rfl,by omega,by omega⟩,by clear w1;omega⟩
   ·(have f:¬(i:Int)<ks.length:=by omega);rw[show ks.drop i=[]from Z0o (by omega),A2I,Nat.max_zero]at ho
    simp -dsimp -implicitDefEqProofs[t3,t7,t8,t9,f,ho,j]
termination_by u=>SizeOf.sizeOf u
def C3a:∀(u:A0a) (M:Mem),u.good->A0j u<=1000->A0c (WC gl) 143 [.agg u.row] M (λv M'=>v=I (A1D u)/\M'=M)
 |.mk id kind lab hd ws ks,M,hg,hc=>by
  obtain⟨_,_,s,_,o,_,m,_,f⟩:=(A0a.good_iff _).1 hg;have f:∀k∈ks,k.good:=f;have q:1+A0f ks<=1000:=by rwa[A0j]at hc
  have l:=A1Q ks;have h:(A0a.mk id kind lab hd ws ks).row=[I id.act,I id.item,I id.n,I kind,S lab,.list 4 (A0g hd) .no,.list 4 (A0g ws) .no,.list 8 (A0q ks) .no]:=by rw[A0a.row]
  have j:A1D (.mk id kind lab hd ws ks)=A2I ks:=by rw[A1D]
  rw[h,j];refine A0o hB func143 ?_;simp -dsimp -implicitDefEqProofs;refine A0y hB ks.length 4 (λT M1=>∃i:Nat,i<=ks.length/\T 1=.cptr [I id.act,I id.item,I id.n,I kind,S lab,.list 4 (A0g hd) .no,.list 4 (A0g ws) .no,.list 8 (A0q ks) .no]/\T 4=I i/\M1=M/\∃d:Nat,T 3=I d/\d<=1000/\A2I ks=max d (A2I (ks.drop i))) ?_ ?_
  .exact⟨0,by omega,by simp,by simp,rfl,0,by simp,by omega,by simp⟩
  .rintro T M1 ⟨i,i1,t1,t4,rfl,d,t3,d1,ho⟩;by_cases hi:i<ks.length
   ·(have g:(i:Int)<ks.length:=by omega);have w1:=A1E (i:=i) (by omega)
    have b:ks[i]∈ks:=Z0q hi;rw[B6G hi]at ho;have r:=A2u b;have p:=B5f ks[i];simp -dsimp -implicitDefEqProofs[t1,t3,t4,hi,g];have:=A0a.kid_lt (u:=.mk id kind lab hd ws ks) b;refine A0i func143 (C3a ks[i] M1 (f _ b) (by omega)) ?_;generalize A1D ks[i]=dk at*;(have w2:IntKind.i64.wrap (1+(dk:Int))=((1+dk:Nat):Int):=by rw[A0J (by omega) (by omega)];omega);obtain⟨e,he⟩:∃e,e=1+dk:=⟨_,rfl⟩;rw[<-he]at w2 ho;by_cases hm:d<e
    ·(have a:(d:Int)<e:=by omega);have c:(e:Int)>d:=a
     simp -dsimp -implicitDefEqProofs[t1,t3,t4,w1,w2,A7U,a,c];exact⟨⟨i+1,by clear w1;omega,rfl,e,rfl,by omega,by omega⟩,by clear w1;omega⟩
    ·(have a:¬(d:Int)<e:=by omega);have c:¬(e:Int)>d:=a
     simp -dsimp -implicitDefEqProofs[t1,t3,t4,w1,w2,A7U,a,c];exact⟨⟨i+1,by clear w1;omega,rfl,d,rfl,by omega,by omega⟩,by clear w1;omega⟩
   ·(have g:¬(i:Int)<ks.length:=by omega);rw[show ks.drop i=[]from Z0o (by omega),A2I,Nat.max_zero]at ho
    simp -dsimp -implicitDefEqProofs[t1,t3,t4,g,ho]
termination_by u=>SizeOf.sizeOf u
def C3p:∀(u:A0a) (M:Mem),u.good->A0j u<=1000->A0c (WC gl) 49 [.agg u.row] M (λv M'=>v=I (A0j u)/\M'=M)
 |.mk id kind lab hd ws ks,M,hg,hc=>by
  obtain⟨_,_,q,_,m,_,l,_,b⟩:=(A0a.good_iff _).1 hg;have b:∀k∈ks,k.good:=b;have o:1+A0f ks<=1000:=by rwa[A0j]at hc
  have h:=A1Q ks;have f:(A0a.mk id kind lab hd ws ks).row=[I id.act,I id.item,I id.n,I kind,S lab,.list 4 (A0g hd) .no,.list 4 (A0g ws) .no,.list 8 (A0q ks) .no]:=by rw[A0a.row]
  have g:A0j (.mk id kind lab hd ws ks)=1+A0f ks:=by rw[A0j]
  rw[f,g];refine A0o hB func49 ?_;simp -dsimp -implicitDefEqProofs;refine A0y hB ks.length 4 (λT M1=>∃i:Nat,i<=ks.length/\T 1=.cptr [I id.act,I id.item,I id.n,I kind,S lab,.list 4 (A0g hd) .no,.list 4 (A0g ws) .no,.list 8 (A0q ks) .no]/\T 4=I i/\M1=M/\∃d:Nat,T 3=I d/\1+A0f ks=d+A0f (ks.drop i)) ?_ ?_
  .exact⟨0,by omega,by simp,by simp,rfl,1,by simp,by simp⟩
  .rintro T M1 ⟨i,i1,t1,t4,rfl,d,t3,ho⟩;by_cases hi:i<ks.length
   ·(have c:(i:Int)<ks.length:=by omega);have w1:=A1E (i:=i) (by omega)
    have a:ks[i]∈ks:=Z0q hi;rw[C7K hi]at ho;have p:=A2u a;simp -dsimp -implicitDefEqProofs[t1,t3,t4,hi,c];have:=A0a.kid_lt (u:=.mk id kind lab hd ws ks) a;refine A0i func49 (C3p ks[i] M1 (b _ a) (by omega)) ?_;generalize A0j ks[i]=dk at*;have w2:=D4U (i:=d) (j:=dk) (by omega);obtain⟨e,he⟩:∃e,e=d+dk:=⟨_,rfl⟩;rw[<-he]at w2;simp -dsimp -implicitDefEqProofs[t1,t3,t4,w1,w2];exact⟨⟨i+1,by clear w1;omega,rfl,e,rfl,by omega⟩,by clear w1;omega⟩
   ·(have c:¬(i:Int)<ks.length:=by omega);rw[show ks.drop i=[]from Z0o (by omega),A0f,Z0U]at ho
    rw[ho];simp -dsimp -implicitDefEqProofs[t1,t3,t4,c]
termination_by u=>SizeOf.sizeOf u
end
section
variable (gl:Nat->AV)
def B0b{A:Type}(fid:FuncId)(first cap:List AV)(p:A0a->Bool)(b:A->A0a->A)(J:Mem->A->Prop)(K:A->A0a->Prop)(KL:A->List A0a->Prop)(s:∀a u,K a u->KL (b a u) u.kids)(x:∀a k ks,KL a (k::ks)->K a k)(q:∀a k ks,KL a (k::ks)->(A4J p b k a).1=true->KL (A4J p b k a).2 ks)(hJ:∀M a X,J M a->J (M++[.cells 27 X]) a)
 (hv:∀u a M,u.good->K a u->J M a->A4A (WC gl) fid (first++.agg u.row::cap) M (λv M'=>v=B (p u)/\J M' (b a u))):
 ∀(u:A0a) (a:A) (M:Mem),u.good->K a u->J M a->A0c (WC gl) 86 [.agg u.row,.func (.func fid) first cap] M (λv M'=>v=B (A4J p b u a).1/\J M' (A4J p b u a).2)
 |.mk id kind lab hd ws ks,a,M,hg,hka,hj=>by
  obtain⟨_,_,_,_,_,_,_,hk,j⟩:=(A0a.good_iff _).1 hg;have j:∀k∈ks,k.good:=j;have a0:KL (b a (.mk id kind lab hd ws ks)) ks:=s _ _ hka;have a4:ks.length<=9223372036854775807:=hk;have t:(A0a.mk id kind lab hd ws ks).row=[I id.act,I id.item,I id.n,I kind,S lab,.list 4 (A0g hd) .no,.list 4 (A0g ws) .no,.list 8 (A0q ks) .no]:=by rw[A0a.row]
  have d:A4J p b (.mk id kind lab hd ws ks) a=if p (.mk id kind lab hd ws ks)then A3K p b ks (b a (.mk id kind lab hd ws ks))else(false,b a (.mk id kind lab hd ws ks)):=by rw[A4J]
  have r:=hv _ a M hg hka hj;rw[t]at r|-;refine A0o hW func86 ?_;simp -dsimp -implicitDefEqProofs;refine A1l r ?_;rintro _ M1 ⟨rfl,o⟩;cases hp:p (.mk id kind lab hd ws ks);case false=>rw[hp,Z0c (by simp)]at d;rw[d];simp -dsimp -implicitDefEqProofs[o]
  rw[hp,Z0d rfl]at d;rw[d];generalize b a (.mk id kind lab hd ws ks)=a1 at*;simp -dsimp -implicitDefEqProofs;refine A0y hW ks.length 14 (λT M1=>∃i:Nat,i<=ks.length/\T 1=.func (.func fid) first cap/\T 12=.list 8 (A0q ks) .no/\T 13=I ks.length/\T 14=I i/\∃a2,J M1 a2/\KL a2 (ks.drop i)/\A3K p b ks a1=A3K p b (ks.drop i) a2) ?_ ?_
  .exact⟨0,by omega,by simp,by simp,by simp,by simp,a1,o,by simpa using a0,by simp⟩
  .rintro T M2 ⟨i,i1,t1,g,e,f,a2,y,c,ho⟩;by_cases hi:i<ks.length
   ·(have l:(i:Int)<ks.length:=by omega);have w1:IntKind.i64.wrap ((i:Int)+1)=(i+1:Nat):=by rw[A0J (by omega) (by omega)];omega
    have h:ks[i]∈ks:=Z0q hi;have m:ks.drop i=ks[i]::ks.drop (i+1):=Z0i hi;rw[m]at c;rw[m,A3K]at ho;(have a3:(M2++[A0p.cells 27 ks[i].row])[M2.length]?=some (A0p.cells 27 ks[i].row):=by simp);simp -dsimp -implicitDefEqProofs[t1,g,e,f,hi,l,A0l,A0m,A0e,AV.storable,AV.cells,A0b a3];have:=A0a.kid_lt (u:=.mk id kind lab hd ws ks) h;refine A0s func86 (B0b fid first cap p b J K KL s x q hJ hv ks[i] a2 _ (j _ h) (x _ _ _ c) (hJ _ _ _ y)) ?_;rintro _ M3 ⟨rfl,w⟩;have z:=q _ _ _ c;cases hp:(A4J p b ks[i] a2).1
    .rw[hp,Z0c (by simp)]at ho;rw[ho];simp -dsimp -implicitDefEqProofs[t1,g,e,f,w]
    .rw[hp,Z0d rfl]at ho;simp -dsimp -implicitDefEqProofs[t1,g,e,f,w1];exact⟨⟨i+1,by clear w1;omega,rfl,_,w,z hp,ho⟩,by clear w1;omega⟩
   ·(have l:¬(i:Int)<ks.length:=by omega);rw[show ks.drop i=[]from Z0o (by omega),A3K]at ho
    rw[ho];simp -dsimp -implicitDefEqProofs[t1,g,e,f,l,y]
termination_by u=>SizeOf.sizeOf u
end
mutual
def B1c:∀(u:A0a) (a:Nat),A4J (λ_=>true) (λ(a:Nat) _=>a+1) u a=(true,a+A0j u)
 |.mk _ _ _ _ _ ks,a=>by rw[A4J,Z0d rfl,B3u ks,A0j];congr 1;omega
def B3u:∀(ks:List A0a) (a:Nat),A3K (λ_=>true) (λ(a:Nat) _=>a+1) ks a=(true,a+A0f ks)
 |[],a=>by rw[A3K,A0f];rfl
 |k::ks,a=>by rw[A3K,B1c k a,Z0d rfl,B3u ks,A0f];congr 1;omega
end
mutual
def B3F:∀(u:A0a) (a:List IdD),A4J (λ_=>true) (λ(a:List IdD) u=>a++[u.id]) u a=(true,a++A0T u)
 |.mk id _ _ _ _ ks,a=>by rw[A4J,Z0d rfl,B6z ks,A0T];show(true,a++[id]++A2a ks)=_;rw[Z0T];rfl
def B6z:∀(ks:List A0a) (a:List IdD),A3K (λ_=>true) (λ(a:List IdD) u=>a++[u.id]) ks a=(true,a++A2a ks)
 |[],a=>by rw[A3K,A2a,Z1b]
 |k::ks,a=>by rw[A3K,B3F k a,Z0d rfl,B6z ks,A2a,Z0T]
end
def A7E(u:A0a):A0j u=1+A0f u.kids:=by obtain⟨a,b,c,d,e,f⟩:=u;rw[A0j];rfl
section
variable (gl:Nat->AV)
def D2M(u:A0a)(o:Nat)(n:Nat)(hn:n<=1000)(M:Mem)(hM:M[o]?=some (.cells 3 [I n])):A0c (WC gl) 87 [.agg u.row,.ptr o 0] M (λv M'=>v=B true/\M'=M.set o (.cells 3 [I (n+1:Nat)])):=by refine A0o hB func87 ?_;have w1:=A1E (i:=n) (by omega);have a:o<M.length:=(Z0a.1 hM).1;obtain⟨e,he⟩:∃e,e=n+1:=⟨_,rfl⟩;rw[<-he]at w1;rw[<-he];simp -dsimp -implicitDefEqProofs[A0b hM,A0h hM,w1,A0e]
def B5h(u:A0a)(M:Mem)(hg:u.good)(hc:A0j u<=1000):A0c (WC gl) 30 [.agg u.row] M (λv M'=>v=I (A0j u)/\M'=M):=by
 have key:A0c (WC gl) 30 [.agg u.row] M (λv M'=>(∃x,v=.val x/\x=.int .i64 (A0j u))/\Grow M M'):=by
  refine A0o hB func30 ?_;have c:(M++[A0p.cells 3 [I 0]])[M.length]?=some (A0p.cells 3 [I 0]):=by simp
  simp -dsimp -implicitDefEqProofs[A0l,A0m,A0e];refine A0s func86 (B0b gl 87 [] [.ptr M.length 0] (λ_=>true) (λ(a:Nat) _=>a+1) (λM1 a=>M1[M.length]?=some (.cells 3 [I a])/\Grow M M1) (λa u=>a+A0j u<=1000) (λa ks=>a+A0f ks<=1000) ?_ ?_ ?_ ?_ ?_ u 0 _ hg (by omega) ⟨c,A0d.app none _ _⟩) ?_
  .intro a u h;have:=A7E u;omega
  .intro a k ks h;rw[A0f]at h;omega
  .intro a k ks h _;rw[A0f]at h;rw[B1c];show a+A0j k+A0f ks<=1000;omega
  .rintro M1 a X ⟨h1,h2⟩;exact⟨by rw[Z0h (Z0a.1 h1).1];exact h1,h2.trans (A0d.app none _ _)⟩
  .rintro u a M1 e hk ⟨h1,h2⟩;have d:=A3X u;refine(A0V func87 rfl rfl (D2M gl u M.length a (by omega) M1 h1)).mono ?_;rintro _ _ ⟨rfl,rfl⟩;have b:M.length<M1.length:=(Z0a.1 h1).1;exact⟨rfl,by simp[b],⟨by simp;omega,λj hj _=>by rw[Z0e (by omega)];exact h2.2 j hj (by simp)⟩⟩
  .rintro _ M1 ⟨rfl,h1,h2⟩;rw[B1c]at h1|-;simp only[Z0I]at h1;simp -dsimp -implicitDefEqProofs[A0b h1,h2]
 exact(A6I key).mono (by rintro v M' ⟨⟨x,rfl,rfl⟩,rfl⟩;exact⟨rfl,rfl⟩)
end
end Go.Abs
