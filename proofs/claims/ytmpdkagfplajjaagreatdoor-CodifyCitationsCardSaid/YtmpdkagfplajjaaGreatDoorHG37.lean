/- The texts CeE, CeF, CeG, CeH, CeI, CeJ, CeK, CeL, CeM, CbJ, CvX, CvY, CvZa, CvZb, CvZc, CvZd, CvZe. -/
import Derived.Test.YtmpdkagfplajjaaGreatDoorHG36
import Derived.Test.YtmpdkagfplajjaaGreatDoorHG25
import Derived.Test.YtmpdkagfplajjaaGreatDoorHG34
import Derived.Test.YtmpdkagfplajjaaGreatDoorHG32
import Derived.Test.YtmpdkagfplajjaaGreatDoorHG21
set_option linter.all false
set_option maxRecDepth 100000
namespace Go.Abs
open Go.Proofs TryTypes Tryz
def A4g(act item:Int):Nat->List ByteArray->List A0Q
 |_,[]=>[]
 |n,s::l=>⟨s,act,item,n⟩::A4g act item (n+1) l
@[simp] def B0e(b a:Int):∀(l:List ByteArray) (n:Nat),(A4g b a n l).length=l.length
 |[],_=>rfl
 |s::l,n=>by simp[A4g,B0e b a l (n+1)]
def C2q(d c:Int):∀(a b:List ByteArray) (n:Nat),A4g d c n (a++b)=A4g d c n a++A4g d c (n+a.length) b
 |[],b,n=>by simp[A4g]
 |s::a,b,n=>by rw[Z0V,A4g,C2q d c a b (n+1),A4g,Z0V,Z0x,show n+1+a.length=n+(a.length+1)by omega]
def B3R(b a:Int):∀(l:List ByteArray) (n:Nat),A0z (A4g b a n l)=l
 |[],_=>rfl
 |s::l,n=>by have:=B3R b a l (n+1);simp only[A0z]at this|-;rw[A4g,Z0z,this]
section
variable (gl:Nat->AV)
def C9g(ws:List A0Q)(o:Own)(M:Mem)(hl:ws.length<=100000000):A0e (WC gl) 388 [.list 4 (A0g ws) o] M (λv M'=>v=.list 1 (A0W (A0z ws)) .no/\M'=M):=by
 refine A0e.dataX ?_;refine A0n (hQ [16]) func388 ?_;simp -dsimp;refine A0B (hQ [16]) ws.length 8 (λT M1=>∃i:Nat,i<=ws.length/\T 0=.list 4 (A0g ws) o/\T 6=.list 4 (A0g ws) o/\T 7=I ws.length/\T 8=I i/\A1g 9 1 A4M M1 (T 3) (A0z (ws.take i))/\Grow M M1/\A1m M.length (T 3)) ?_ ?_
 .exact⟨0,by omega,by simp,by simp,by simp,by simp,by simpa[A0z]using A1g.nil,Grow.refl _,by simp[A1m]⟩
 rintro T M1 ⟨i,i1,t0,t6,t7,t8,hv,hg,hL⟩;by_cases hi:i<ws.length
 .have a:(i:Int)<ws.length:=by omega
  have w1:IntKind.i64.wrap ((i:Int)+1)=(i+1:Nat):=by rw[A0L (by omega) (by omega)];omega
  generalize c:T 3=ov at*;have d:(M1++[A0m.cells 152 [S ws[i].text,I ws[i].act,I ws[i].item,I ws[i].at_]])[M1.length]?=some (A0m.cells 152 [S ws[i].text,I ws[i].act,I ws[i].item,I ws[i].at_]):=by simp
  have b:A1g 9 1 A4M (M1++[A0m.cells 152 [S ws[i].text,I ws[i].act,I ws[i].item,I ws[i].at_]]) ov (A0z (ws.take i)):=hv.keep (A0c.app none M1 _) (by simp);have ht:A0z (ws.take (i+1))=A0z (ws.take i)++[ws[i].text]:=by rw[A0z,A0z,Z1r,Z0l hi,Z0U];rfl
  simp -dsimp[t0,t6,t7,t8,hi,a,c,A0k,A0i,A0d,A0Q.row,A0b d,A0l,A0M];refine A3B (C:=WC gl) (enc:=A4M) (e:=9) (sz:=1) (news:=[ws[i].text]) A7g A9M B6h (λ_=>rfl) b (by simp[A0D]) (by simp[A0z];omega) rfl ?_;intro v' M' h1 h2 h3 _;obtain⟨k1,k2⟩:=A2T hg hL h2 h3;simp -dsimp[t0,t6,t7,t8,w1];exact⟨⟨i+1,by clear w1;omega,rfl,by rw[ht];exact h1,k1,k2⟩,by clear w1;omega⟩
 .have a:¬(i:Int)<ws.length:=by omega
  rw[Z0g (by omega)]at hv;simp -dsimp[t0,t6,t7,t8,a];refine⟨hg,?_⟩;have:=A2V (enc:=A4M) (λ_=>rfl) (λn x=>by simp[A1I,bdd]) hv hL;exact this
def C9m(l:List ByteArray)(o:Own)(b a:Int)(n:Nat)(M:Mem)(hl:l.length<=100000000)(hn:n<=1000000000):A0e (WC gl) 296 [.list 1 (A0W l) o,I b,I a,I n] M (λv M'=>v=.list 4 (A0g (A4g b a n l)) .no/\M'=M):=by
 refine A0e.dataX ?_;refine A0n (hQ [29]) func296 ?_;simp -dsimp;refine A0B (hQ [29]) l.length 14 (λT M1=>∃i:Nat,i<=l.length/\T 1=I b/\T 2=I a/\T 3=I n/\T 12=.list 1 (A0W l) o/\T 13=I l.length/\T 14=I i/\A1g 152 4 A0Q.row M1 (T 9) (A4g b a n (l.take i))/\Grow M M1/\A1m M.length (T 9)) ?_ ?_
 .exact⟨0,by omega,by simp,by simp,by simp,by simp,by simp,by simp,by simpa[A4g]using A1g.nil,Grow.refl _,by simp[A1m]⟩
 rintro T M1 ⟨i,i1,t1,t2,t3,g,d,f,hv,hg,hL⟩;by_cases hi:i<l.length
 .have c:(i:Int)<l.length:=by omega
  have w1:IntKind.i64.wrap ((i:Int)+1)=(i+1:Nat):=by rw[A0L (by omega) (by omega)];omega
  have w2:IntKind.i64.wrap ((n:Int)+i)=(n:Int)+i:=by rw[A0L (by omega) (by omega)]
  generalize j:T 9=ov at*;have h:(A0W l)[i]?=some [S l[i]]:=by simp[A0W,hi]
  have ht:A4g b a n (l.take (i+1))=A4g b a n (l.take i)++[⟨l[i],b,a,(n:Int)+i⟩]:=by rw[Z1r,Z0l hi,C2q];simp[A4g,Z1A (Nat.le_of_lt hi)]
  have m:A0x prog 150 [(0,I b),(1,I a),(2,I ((n:Int)+i))]=some (.agg [I b,I a,I ((n:Int)+i)]):=by simp[A0x,A1b,A1o,A0d,AV.cells,AV.storable]
  have k:A0x prog 152 [(0,S l[i]),(1,.agg [I b,I a,I ((n:Int)+i)])]=some (.agg [S l[i],I b,I a,I ((n:Int)+i)]):=by simp[A0x,A1b,A1o,A0d,AV.cells,AV.storable]
  simp -dsimp[t1,t2,t3,g,d,f,hi,c,h,j,w2,m,k,A0l,A0M,AV.storable,AV.cells];refine A3B (C:=WC gl) (enc:=A0Q.row) (e:=152) (sz:=4) (news:=[⟨l[i],b,a,(n:Int)+i⟩]) B7Z C7G C0B (λ_=>rfl) hv (by simp[A0D,A0Q.row]) (by simp;omega) rfl ?_;intro v' M' h1 h2 h3 _;obtain⟨k1,k2⟩:=A2T (X:=[]) hg hL (by simpa using h2) (by simpa using h3);simp -dsimp[t1,t2,t3,g,d,f,w1];exact⟨⟨i+1,by clear w1;omega,rfl,by rw[ht];exact h1,k1,k2⟩,by clear w1;omega⟩
 .have c:¬(i:Int)<l.length:=by omega
  rw[Z0g (by omega)]at hv;simp -dsimp[t1,t2,t3,g,d,f,c];refine⟨hg,?_⟩;exact A2V (enc:=A0Q.row) (λ_=>rfl) A6Q hv hL
end
abbrev A8N(act item:Int)(n w:Nat):A0m:=.cells 339 [I act,I item,I n,I w]
section
variable (gl:Nat->AV)
def C2O(ws:List A0Q)(o:Own)(c a:Int)(n w b:Nat)(M:Mem)(hl:ws.length<=100000000)(hw:w<=1000000000)(hb:M[b]?=some (A8N c a n w)):A0e (WC gl) 385 [.ptr b 0,.list 4 (A0g ws) o] M (λv M'=>v=.list 4 (A0g (A4g c a w (A0z ws))) .no/\M'=M.set b (A8N c a n (w+ws.length))):=by
 have hs:=λM=>C9g gl ws o M hl
 have hm:=λM=>C9m gl (A0z ws) .no c a w M (by simpa[A0z]using hl) hw
 have w1:IntKind.i64.wrap ((w:Int)+ws.length)=(w:Int)+ws.length:=by rw[A0L (by omega) (by omega)]
 have d:(A0z ws).length=ws.length:=by simp[A0z]
 refine A0n hB func385 ?_
 simp -dsimp
 refine A0Z hB (A0u gl) (λk=>if k=5\/k=9\/k=13 then 1 else 0) (λ_=>b) (by rfl) (by kernel_rfl) ?_
 simp -dsimp
 refine A1p func388 hs ?_
 simp -dsimp[A0b hb,A0F,A2Y]
 refine A1p func296 hm ?_
 simp -dsimp[A0b hb,A0f hb,d,w1,A8N]
end
mutual
def wcU:A0a->Nat
 |.mk _ _ _ h ws ks=>h.length+ws.length+wcL ks
def wcL:List A0a->Nat
 |[]=>0
 |k::ks=>wcU k+wcL ks
end
mutual
def A2p(a i:Int):A0a->Nat->Nat->A0a
 |.mk _ k l h ws ks,n,w=>.mk ⟨a,i,(n+1:Nat)⟩ k l (A4g a i w (A0z h)) (A4g a i (w+h.length) (A0z ws)) (A2A a i ks (n+1) (w+h.length+ws.length))
def A2A(a i:Int):List A0a->Nat->Nat->List A0a
 |[],_,_=>[]
 |k::ks,n,w=>A2p a i k n w::A2A a i ks (n+A0r k) (w+wcU k)
end
def B0C(a i:Int):∀(ks:List A0a) (n w:Nat),(A2A a i ks n w).length=ks.length
 |[],_,_=>by simp[A2A]
 |k::ks,n,w=>by rw[A2A,Z0x,B0C a i ks,Z0x]
def B9M(a i:Int):∀(xs ys:List A0a) (n w:Nat),A2A a i (xs++ys) n w=A2A a i xs n w++A2A a i ys (n+A0A xs) (w+wcL xs)
 |[],ys,n,w=>by simp[A2A,A0A,wcL]
 |x::xs,ys,n,w=>by rw[Z0V,A2A,B9M a i xs ys,A2A,A0A,wcL,Z0V];simp only[Z2s]
def A8i:∀(xs ys:List A0a),A0A (xs++ys)=A0A xs+A0A ys
 |[],ys=>by rw[A0A];simp
 |x::xs,ys=>by rw[Z0V,A0A,A0A,A8i xs ys];omega
def D0C:∀(xs ys:List A0a),wcL (xs++ys)=wcL xs+wcL ys
 |[],ys=>by rw[wcL];simp
 |x::xs,ys=>by rw[Z0V,wcL,wcL,D0C xs ys];omega
def D0s:∀{ks:List A0a} {i:Nat} (h:i<ks.length),wcL (ks.take i)+wcU ks[i]<=wcL ks
 |k::ks,0,h=>by simp[wcL]
 |k::ks,i+1,h=>by have:=D0s (ks:=ks) (i:=i) (by simpa using h);simp only[Z0B,wcL,Z2d];omega
def C5s{M:Mem}{v:AV}{l:List A0a}(h:A1g 27 8 A0a.row M v l){i:Nat}(hi:i<l.length)(y:A0a):∃f g M',v=.vref f g 8 0 l.length/\A1y prog 27 M (.vptr f g (i*8))=some (.agg l[i].row)/\A0i (some 8) M (.vptr f g (i*8)) (.agg y.row)=some M'/\A1g 27 8 A0a.row M' v (l.set i y)/\M'.length=M.length/\∀j,j≠f->M'[j]?=M[j]?:=by
 have e:=h.at_ (P:=prog) (t:=27) A0a.row_len D4y D7G hi
 rcases h with⟨rfl,rfl⟩|⟨f,g,b,rfl,hm,hl⟩
 .simp at hi
 have d:f<M.length:=(Z0a.1 hm).1
 have a:l=l.take i++l[i]::l.drop (i+1):=by rw[<-Z0j hi,Z1b]
 have c:((l.take i).flatMap A0a.row).length=i*8:=by rw[A3m A0a.row_len,Z0D,Z1A (by omega)]
 have k:A0d (l.flatMap A0a.row) (i*8) y.row=(l.set i y).flatMap A0a.row:=by
  have e1:l.set i y=l.take i++y::l.drop (i+1):=Z2R.trans (Z0e hi);rw[e1,Z1l,Z0Y];unfold A0d
  conv=>lhs;rw[a]
  rw[Z1l,Z0Y,Z1T (by omega),Z0g (by omega),Z0F];congr 2;rw[Z3D,c,Z1Q (by rw[c];simp),Z1F,A0a.row_len,Z1X,Z3D,A0a.row_len,Z4C,Z1Q (by simp)];rfl
 refine⟨f,g,M.set f (.vec 27 8 ((l.set i y).flatMap A0a.row) g (A0Y 8 g (i*8) b)),rfl,?_,?_,.inr ⟨f,g,A0Y 8 g (i*8) b,by simp,by simp[d],?_⟩,by simp,λj hj=>Z0c (by omega)⟩
 .obtain⟨p,e1,_,e2,_⟩:=e;simp[hi]at e1;rw[<-e1]at e2;exact e2
 .simp only[A0i,hm,hl];rw[Z0e (by simp[AV.storable,AV.cells];omega)];simp only[AV.cells];rw[k]
 .unfold A0Y;rw[Z3I];exact A2v _ hl
def D7h:C3Y prog 27=some 120:=by kernel_rfl
def C8U{ks:List A0a}{M:Mem}(hl:ks.length<=1000):∃zs,A6E prog 25 (I ks.length) (I ks.length) M=some (.vref M.length 0 8 0 ks.length,M++[.vec 27 8 zs 0 [(0,ks.length)]])/\B2p prog 25 25 (M++[.vec 27 8 zs 0 [(0,ks.length)]]) (.vref M.length 0 8 0 ks.length) (.list 8 (A0p ks) .no)=some (I ks.length,M++[.vec 27 8 (ks.flatMap A0a.row) 0 [(0,ks.length)]]):=by
 have hz:((List.replicate ks.length (zU)).flatten).length=ks.length*8:=by simp[List.length_flatten,zU]
 refine⟨(List.replicate ks.length zU).flatten,?_,?_⟩
 .have h1:(ks.length:Int).toNat*8<=16777216:=by omega
  have h2:ks.length*8<=16777216:=by omega
  have h3:(120:Int)*ks.length<=281474976710656:=by omega
  simp[A6E,zU,D7h,h2,h3]
 .have a:(ks.flatMap A0a.row).length=ks.length*8:=A3m A0a.row_len ks;have c:A0d (List.replicate ks.length zU).flatten 0 (ks.flatMap A0a.row)=ks.flatMap A0a.row:=by unfold A0d;rw[Z2w,Z1F,Z0N,Z1Q (by rw[hz,a];exact Z0n _),Z1d]
  have b:(M++[A0m.vec 27 8 (List.replicate ks.length zU).flatten 0 [(0,ks.length)]])[M.length]?=some (.vec 27 8 (List.replicate ks.length zU).flatten 0 [(0,ks.length)]):=by simp
  have hu:=E3v;simp only[B2p,A7G,D7G,A0D,B2U,B0E,b,List.lookup,Z2V];by_cases h0:ks.length=0
  .have:ks=[]:=Z0y h0;subst this;simp
  .simp only[Z2g,c];simp[h0,A0Y,a,-List.length_flatMap]
def C9E{o:Option Nat}{M0 M:Mem}(h:A0c o M0 M):A0c o M0 (A4w M M0.length):=by refine⟨by simpa using h.1,λi hi ho=>?_⟩;have h2:=h.2 i hi ho;rw[<-h2];have:i<M.length:=Z1j hi h.1;rw[Z0l this];exact A6i (Z0l this) λ_ _ _ _ _ _=>hi
def D7g{α:Type}(xs ys:List α)(x y:α):(xs++x::ys).set xs.length y=xs++y::ys:=by simp
def Still.any{M:Mem}{n:Nat}{ok:AV->Prop}{a d:List AV}(h:Still M n ok a d):Still M n (λ_=>True) a d:=by
 induction h with
 |nil=>exact .nil
 |same _ _ ih=>exact .same trivial ih
 |nilS _ ih=>exact .nilS ih
 |vec h1 h2 h3 h3' h4 h5 _ _ ih1 ih2=>exact .vec h1 h2 h3 h3' h4 h5 ih1 ih2
 |dis _ _ ih=>exact .dis trivial ih
 |agg _ _ ih1 ih2=>exact .agg ih1 ih2
 |tuple _ _ ih1 ih2=>exact .tuple ih1 ih2
structure TrM (M Mi:Mem) (b c:Nat) (sb:A0m) (cc:List AV):Prop where
 kb:A0c (some b) M Mi
 hb:Mi[b]?=some sb
 hc:Mi[c]?=some (.cells 27 cc)
 hr:Mi[c+1]?=some z8
section
variable {M Mi:Mem} {b c:Nat} {sb:A0m} {cc:List AV}
def TrM.setb(h:TrM M Mi b c sb cc)(a:b<c)(s':A0m):TrM M (Mi.set b s') b c s' cc:=by have hl:=(Z0a.1 h.hb).1;exact⟨h.kb.trans (A0c.set _ _ _),by simp[hl],by rw[Z0c (by omega)];exact h.hc,by rw[Z0c (by omega)];exact h.hr⟩
def TrM.setc(h:TrM M Mi b c sb cc)(a:b<c)(d:M.length<=c)(c':List AV):TrM M (Mi.set c (.cells 27 c')) b c sb c':=by have hl:=(Z0a.1 h.hc).1;refine⟨⟨by simpa using h.kb.1,λi hi ho=>by rw[Z0c (by omega)];exact h.kb.2 i hi ho⟩,by rw[Z0c (by omega)];exact h.hb,by simp[hl],by rw[Z0c (by omega)];exact h.hr⟩
def TrM.app(h:TrM M Mi b c sb cc)(X:Mem):TrM M (Mi++X) b c sb cc:=by have hk:Grow Mi (Mi++X):=A0c.app none _ _;exact⟨h.kb.trans hk.of_none,hk.get h.hb (by simp),hk.get h.hc (by simp),hk.get h.hr (by simp)⟩
end
def hTr:A2u:=⟨λd=>d !=3,λ_=>false,λ_=>false⟩
@[simp] def E6F:hTr.imm=λd=>d !=3:=(rfl)
def E2V{a b c:Int}:A0x prog 23 [(0,I a),(1,I b),(2,I c)]=some (.agg [I a,I b,I c]):=by simp[A0x,A1b,A1o,A0d,AV.cells,AV.storable]
section
variable (gl:Nat->AV)
set_option maxHeartbeats 1000000 in
def B9a:∀(u:A0a) (d a:Int) (n w b:Nat) (M:Mem),u.good->u.lims->A0r u<=1000->n+A0r u<=1000000->w+wcU u<=1000000000->M[b]?=some (A8N d a n w)->
 A0e (WC gl) 353 [.ptr b 0,.agg u.row] M (λv M'=>v=.agg (A2p d a u n w).row/\A0c (some b) M M'/\M'[b]?=some (A8N d a (n+A0r u) (w+wcU u)))
 |.mk id kind lab hd ws ks,d,a,n,w,b,M,hg,hlm,a6,hn,hw,hb=>by
  obtain⟨_,_,bg,_,b6,_,ba,b3,a7⟩:=(A0a.good_iff _).1 hg;have a7:∀k∈ks,k.good:=a7;obtain⟨⟨ab,a8,bi,-⟩,aa⟩:=A3R _ hlm;have ab:hd.length<=100000000:=ab;have a8:ws.length<=100000000:=a8;have aa:=A3Y.1 aa;have bf:1+A0A ks<=1000:=by rwa[A0r]at a6
  have bh:n+(1+A0A ks)<=1000000:=by rwa[A0r]at hn
  have bd:w+(hd.length+ws.length+wcL ks)<=1000000000:=by rwa[wcU]at hw
  have be:=A1Z ks;have al:(A0a.mk id kind lab hd ws ks).row=[I id.act,I id.item,I id.n,I kind,S lab,.list 4 (A0g hd) .no,.list 4 (A0g ws) .no,.list 8 (A0p ks) .no]:=by rw[A0a.row]
  refine A0e.stillN ?_;rw[al];have am:b<M.length:=(Z0a.1 hb).1;obtain⟨c,hc⟩:=ex (M.length);obtain⟨M1,a9⟩:=ex (M++[A0m.cells 27 [I id.act,I id.item,I id.n,I kind,S lab,.list 4 (A0g hd) .no,.list 4 (A0g ws) .no,.list 8 (A0p ks) .no],z8]);have f1:TrM M M1 b c (A8N d a n w) [I id.act,I id.item,I id.n,I kind,S lab,.list 4 (A0g hd) .no,.list 4 (A0g ws) .no,.list 8 (A0p ks) .no]:=by rw[a9,hc];exact⟨A0c.app _ _ _,by rw[Z0i am];exact hb,by simp,by simp[Z0W]⟩
  have m:b<c:=by omega
  have y:M.length<=c:=by omega
  have w1:IntKind.i64.wrap ((n:Int)+1)=(n:Int)+1:=by rw[A0L (by omega) (by omega)]
  refine A0n hTr func353 ?_;simp -dsimp[A0k];rw[<-a9,<-hc];clear a9;simp -dsimp[A0b f1.hb,A0f f1.hb,w1];have f2:=f1.setb m (A8N d a (n+1) w);rw[show(A0m.cells 339 [I d,I a,I ((n:Int)+1),I w])=A8N d a (n+1) w by simp[A8N]];generalize M1.set b (A8N d a (n+1) w)=M2 at*;refine A0Z hTr (A0u gl) (λk=>if k=3\/k=7\/k=11 then 1 else if k=14 then 2 else 0) (λ_=>b) (by rfl) (by kernel_rfl) ?_;simp -dsimp[A0b f2.hb,A0F,A2Y,E2V,A0f f2.hc];have f3:=f2.setc m y [I d,I a,I ((n:Int)+1),I kind,S lab,.list 4 (A0g hd) .no,.list 4 (A0g ws) .no,.list 8 (A0p ks) .no];generalize M2.set c (.cells 27 [I d,I a,I ((n:Int)+1),I kind,S lab,.list 4 (A0g hd) .no,.list 4 (A0g ws) .no,.list 8 (A0p ks) .no])=M3 at*;simp -dsimp[A0b f3.hc];refine A0q func385 (C2O gl hd .no d a (n+1) w b M3 ab (by omega) f3.hb) ?_;rintro _ _ ⟨rfl,rfl⟩;have f4:=f3.setb m (A8N d a (n+1) (w+hd.length));generalize M3.set b (A8N d a (n+1) (w+hd.length))=M4 at*;obtain⟨g,z⟩:∃g,g=A4g d a w (A0z hd):=⟨_,rfl⟩;rw[<-z];simp -dsimp[A0f f4.hc];have f5:=f4.setc m y [I d,I a,I ((n:Int)+1),I kind,S lab,.list 4 (A0g g) .no,.list 4 (A0g ws) .no,.list 8 (A0p ks) .no];generalize M4.set c (.cells 27 [I d,I a,I ((n:Int)+1),I kind,S lab,.list 4 (A0g g) .no,.list 4 (A0g ws) .no,.list 8 (A0p ks) .no])=M5 at*;simp -dsimp[A0b f5.hc];refine A0q func385 (C2O gl ws .no d a (n+1) (w+hd.length) b M5 a8 (by omega) f5.hb) ?_;rintro _ _ ⟨rfl,rfl⟩;have f6:=f5.setb m (A8N d a (n+1) (w+hd.length+ws.length));generalize M5.set b (A8N d a (n+1) (w+hd.length+ws.length))=M6 at*;obtain⟨l,a5⟩:∃l,l=A4g d a (w+hd.length) (A0z ws):=⟨_,rfl⟩;rw[<-a5];simp -dsimp[A0f f6.hc];have f7:=f6.setc m y [I d,I a,I ((n:Int)+1),I kind,S lab,.list 4 (A0g g) .no,.list 4 (A0g l) .no,.list 8 (A0p ks) .no];generalize M6.set c (.cells 27 [I d,I a,I ((n:Int)+1),I kind,S lab,.list 4 (A0g g) .no,.list 4 (A0g l) .no,.list 8 (A0p ks) .no])=M7 at*;obtain⟨zs,aq,ai⟩:=C8U (ks:=ks) (M:=M7) (by omega);have f8:=f7.app [A0m.vec 27 8 zs 0 [(0,ks.length)]];simp -dsimp[A0b f7.hc,aq,A0b f8.hc,ai];have f9:=f7.app [A0m.vec 27 8 (ks.flatMap A0a.row) 0 [(0,ks.length)]];have ad:A1g 27 8 A0a.row (M7++[A0m.vec 27 8 (ks.flatMap A0a.row) 0 [(0,ks.length)]]) (.vref M7.length 0 8 0 ks.length) ks:=.inr ⟨M7.length,0,[(0,ks.length)],rfl,by simp,by simp[List.lookup]⟩;have b4:M.length<=M7.length:=f7.kb.1;have bc:c+1<M7.length:=(Z0a.1 f7.hr).1;obtain⟨f,hf⟩:=ex (M7.length);rw[<-hf]at ad|-;generalize M7++[A0m.vec 27 8 (ks.flatMap A0a.row) 0 [(0,ks.length)]]=M9 at*;refine A4B (.exit 0) (λT Mi=>T 3=.ptr c 0/\T 4=.ptr (c+1) 0/\T 5=.vref f 0 8 0 ks.length/\A1g 27 8 A0a.row Mi (.vref f 0 8 0 ks.length) (A2A d a ks (n+1) (w+hd.length+ws.length))/\TrM M Mi b c (A8N d a (n+1+A0A ks) (w+hd.length+ws.length+wcL ks)) [I d,I a,I ((n:Int)+1),I kind,S lab,.list 4 (A0g g) .no,.list 4 (A0g l) .no,.list 8 (A0p ks) .no]) ?_ ?_
  .refine A0B hTr ks.length 48 (λT Mi=>∃j:Nat,j<=ks.length/\T 0=.ptr b 0/\T 3=.ptr c 0/\T 4=.ptr (c+1) 0/\T 5=.vref f 0 8 0 ks.length/\T 47=I ks.length/\T 48=I j/\A1g 27 8 A0a.row Mi (.vref f 0 8 0 ks.length) (A2A d a (ks.take j) (n+1) (w+hd.length+ws.length)++ks.drop j)/\TrM M Mi b c (A8N d a (n+1+A0A (ks.take j)) (w+hd.length+ws.length+wcL (ks.take j))) [I d,I a,I ((n:Int)+1),I kind,S lab,.list 4 (A0g g) .no,.list 4 (A0g l) .no,.list 8 (A0p ks) .no]) ?_ ?_
   .exact⟨0,by omega,by simp,by simp,by simp,by simp,by simp,by simp,by simpa[A2A]using ad,by simpa[A0A,wcL]using f9⟩
   clear f1 f2 f3 f4 f5 f6 f7 f8 f9 ad aq ai;rintro T Mi ⟨j,j1,t0,t3,t4,t5,ah,af,o,fi⟩;by_cases hj:j<ks.length;case neg=>
    (have t:¬(j:Int)<ks.length:=by omega);rw[Z0g (by omega),Z0v (by omega),Z1d]at o
    rw[Z0g (by omega)]at fi;simp -dsimp[t0,t3,t4,t5,ah,af,t];exact⟨o,fi⟩
   (have t:(j:Int)<ks.length:=by omega);have p:ks[j]∈ks:=Z0o hj
   have bb:=A4v p;have:=A0a.kid_lt (u:=.mk id kind lab hd ws ks) p;have b9:=D0s hj;(have b5:A0A (ks.take j)+A0r ks[j]<=A0A ks:=by have:=A8i (ks.take j) (ks.drop j);rw[Z1b,Z0j hj,A0A]at this;omega);obtain⟨n',ag⟩:∃n',n'=n+1+A0A (ks.take j):=⟨_,rfl⟩;obtain⟨w',s⟩:∃w',w'=w+hd.length+ws.length+wcL (ks.take j):=⟨_,rfl⟩;have ac:=B9a ks[j] d a n' w' b Mi (a7 _ p) (aa _ p) (by omega) (by omega) (by omega) (by rw[ag,s];exact fi.hb);have b1:=B0C d a (ks.take j) (n+1) (w+hd.length+ws.length);(have b7:(ks.take j).length=j:=by rw[Z0D,Z1A (by omega)]);obtain⟨xs,ao⟩:=ex (A2A d a (ks.take j) (n+1) (w+hd.length+ws.length));rw[<-ao]at o b1;(have an:xs.length=j:=by omega);(have a0:(xs++ks.drop j).length=ks.length:=by simp;omega);(have ax:(xs++ks.drop j)[j]'(by omega)=ks[j]:=by rw[Z3p (by omega)];simp[an]);obtain⟨f0,g0,-,e0,ak,-,-,-,-⟩:=C5s o (i:=j) (by omega) ks[j];rw[a0]at e0;simp only[AV.vref.injEq,Z2u,Z1D]at e0;obtain⟨rfl,rfl⟩:=e0;rw[ax]at ak;(have ar:(xs++ks.drop j).set j (A2p d a ks[j] n' w')=A2A d a (ks.take (j+1)) (n+1) (w+hd.length+ws.length)++ks.drop (j+1):=by have e1:=D7g xs (ks.drop (j+1)) ks[j] (A2p d a ks[j] n' w');rw[an]at e1;rw[Z0j hj,e1,Z1r,Z0l hj,B9M,<-ao];simp[A2A,ag,s]);(have a6:n'+A0r ks[j]=n+1+A0A (ks.take (j+1)):=by rw[Z1r,Z0l hj,A8i];simp[A0A,ag];omega);(have ay:w'+wcU ks[j]=w+hd.length+ws.length+wcL (ks.take (j+1)):=by rw[Z1r,Z0l hj,D0C];simp[wcL,s];omega);simp -dsimp[t0,t3,t4,t5,ah,af,hj,t,ak];refine A0q func353 ac ?_;rintro _ M3 ⟨rfl,k1,k2⟩;have az:=o.keep k1 (λq hq e=>by simp at hq e;omega);obtain⟨f4,g4,M4,e4,-,ae,ap,b8,x⟩:=C5s az (i:=j) (by omega) (A2p d a ks[j] n' w');rw[a0]at e4;simp only[AV.vref.injEq,Z2u,Z1D]at e4;obtain⟨rfl,rfl⟩:=e4;rw[ar]at ap;have b0:TrM M M4 b c (A8N d a (n+1+A0A (ks.take (j+1))) (w+hd.length+ws.length+wcL (ks.take (j+1)))) [I d,I a,I ((n:Int)+1),I kind,S lab,.list 4 (A0g g) .no,.list 4 (A0g l) .no,.list 8 (A0p ks) .no]:=by
    have a1:=k1.1;have a2:=(Z0a.1 fi.hc).1;have a3:=(Z0a.1 fi.hr).1;have a4:=fi.kb.1;refine⟨⟨by omega,λq hq ho=>?_⟩,?_,?_,?_⟩
    .rw[x q (by omega),k1.2 q (by omega) ho];exact fi.kb.2 q hq ho
    .rw[x b (by omega),k2,a6,ay]
    .rw[x c (by omega)];exact k1.get fi.hc (by simp;omega)
    .rw[x (c+1) (by omega)];exact k1.get fi.hr (by simp;omega)
   have w2:=A1H (i:=j) (by omega);simp -dsimp[t0,t3,t4,t5,ah,af,hj,t,ae,w2];exact⟨⟨j+1,by clear w2;omega,rfl,ap,b0⟩,by clear w2;omega⟩
  .rintro T Mi ⟨t3,t4,t5,o,fi⟩;have r:=fi.setc m y [I d,I a,I ((n:Int)+1),I kind,S lab,.list 4 (A0g g) .no,.list 4 (A0g l) .no,.vref f 0 8 0 ks.length];have bj:=(Z0a.1 fi.hr).1;have av:A1g 27 8 A0a.row (Mi.set c (.cells 27 [I d,I a,I ((n:Int)+1),I kind,S lab,.list 4 (A0g g) .no,.list 4 (A0g l) .no,.vref f 0 8 0 ks.length])) (.vref f 0 8 0 ks.length) (A2A d a ks (n+1) (w+hd.length+ws.length)):=o.keep (A0c.set _ _ _) (λq hq e=>by simp at hq e;omega);simp -dsimp[t3,t4,t5,A0f fi.hc];generalize Mi.set c (.cells 27 [I d,I a,I ((n:Int)+1),I kind,S lab,.list 4 (A0g g) .no,.list 4 (A0g l) .no,.vref f 0 8 0 ks.length])=Mj at*;have aj:c+1<Mj.length:=(Z0a.1 r.hr).1;simp -dsimp[t3,t4,t5,A0b r.hc,A0f r.hr,A0s aj,A0j];have au:=av.keep (A0c.set Mj (c+1) (.cells 27 [I d,I a,I ((n:Int)+1),I kind,S lab,.list 4 (A0g g) .no,.list 4 (A0g l) .no,.vref f 0 8 0 ks.length])) (λq hq e=>by simp at hq e;omega);have aw:A0c (some b) M (Mj.set (c+1) (.cells 27 [I d,I a,I ((n:Int)+1),I kind,S lab,.list 4 (A0g g) .no,.list 4 (A0g l) .no,.vref f 0 8 0 ks.length])):=⟨by simpa using r.kb.1,λi hi ho=>by rw[Z0c (by omega)];exact r.kb.2 i hi ho⟩;(have b2:(Mj.set (c+1) (.cells 27 [I d,I a,I ((n:Int)+1),I kind,S lab,.list 4 (A0g g) .no,.list 4 (A0g l) .no,.vref f 0 8 0 ks.length]))[b]?=some (A8N d a (n+1+A0A ks) (w+hd.length+ws.length+wcL ks)):=by rw[Z0c (by omega)];exact r.hb);refine⟨M.length,.agg (A2p d a (.mk id kind lab hd ws ks) n w).row,.agg ?_ .nil,rfl,C9E aw,?_⟩
   .rw[A2p,A0a.row,<-z,<-a5];have ae:=(B2f au (n:=M.length) (λq hq=>by simp at hq;omega)).any;simp only[Int.natCast_add,Int.cast_ofNat_Int];exact .same trivial (.same trivial (.same trivial (.same trivial (.same trivial (.same trivial (.same trivial ae))))))
   .rw[A6i b2 (λ_ _ _ _ _ h=>by simp at h),A0r,wcU];simp[A8N];omega
termination_by u=>SizeOf.sizeOf u
end
section
variable (gl:Nat->AV)
def D5X(u:A0a)(c a:Int)(M:Mem)(hf:Fit u)(hw:wcU u<=1000000000):A0e (WC gl) 283 [.agg u.row,I c,I a] M (λv M'=>v=.agg (A2p c a u 0 0).row/\M'=M):=by
 refine A0e.dataX ?_;obtain⟨b,hb⟩:=ex (M.length);obtain⟨M1,e⟩:=ex (M++[z8,A8N c a 0 0]);have h1:M1[b]?=some z8:=by rw[e,hb];simp
 have h2:M1[b+1]?=some (A8N c a 0 0):=by rw[e,hb];simp[Z0W]
 have f:Grow M M1:=by rw[e];exact A0c.app none _ _
 have h:A0x prog 339 [(0,I c),(1,I a)]=some (.agg [I c,I a,I 0,I 0]):=by simp[A0x,A1b,A1o,A0d,AV.cells,AV.storable]
 have d:=B9a gl u c a 0 0 (b+1) M1 hf.1 hf.2.1 hf.2.2 (by have:=hf.2.2;omega) (by omega) h2;rw[u.row_eq]at d|-;refine A0n hB func283 ?_;simp -dsimp[A0k,h,A0i,A0d,AV.storable,AV.cells];rw[show M++[z8,A0m.cells 339 [I c,I a,I 0,I 0]]=M1 by rw[e];simp[A8N],<-hb];refine A0q func353 d ?_;rintro _ M2 ⟨rfl,k1,k2⟩;have h3:=k1.get h1 (by simp);have g:b<M2.length:=(Z0a.1 h3).1;have j:Grow M M2:=⟨by have:=f.1;have:=k1.1;omega,λi hi _=>by rw[k1.2 i (by have:=f.1;omega) (by simp;omega)];exact f.2 i hi (by simp)⟩;simp -dsimp[A0f h3,A0y,A0v,A0s g,A0j];exact⟨A0V j (by omega),.same (by simp only[bdd];exact A3d _ _) .nil⟩
end
def C4E(s:A0w):Bool:=decide (s.k=0)&&decide (s.lab=⟨#[]⟩)
def A9v(i:Nat)(s:A0w):Prop:=(i=0/\s=A3n)\/(0<s.k/\s.k<=7/\A0O s.lab=true)
section
variable (gl:Nat->AV)
def B9p(s:A0w)(M:Mem):A0e (WC gl) 324 [.agg s.row] M (λv M'=>v=B (C4E s)/\M'=M):=by
 obtain⟨k,a⟩:=s;have hr:(A0w.mk k a).row=[I k,S a]:=rfl;rw[hr];refine A0n hB func324 ?_;by_cases h1:k=0
 .by_cases h2:a=⟨#[]⟩
  .simp -dsimp[h1,h2,C4E]
  .simp -dsimp[h1,h2,C4E]
 .simp -dsimp[h1,C4E]
set_option maxHeartbeats 1000000 in
def B2r(p:List A0w)(o:Own)(M:Mem)(hl:p.length<=9)(hp:∀i (h:i<p.length),A9v i p[i]):A0e (WC gl) 240 [.list 2 (A0T p) o] M (λv M'=>v=B true/\M'=M):=by
 refine A3r (λ_=>trivial) ?_;refine A0n hB func240 ?_;simp -dsimp;refine A0B hB p.length 7 (λT M1=>∃i:Nat,i<=p.length/\T 0=.list 2 (A0T p) o/\T 5=.list 2 (A0T p) o/\T 6=I p.length/\T 7=I i/\Grow M M1) ?_ ?_
 .exact⟨0,by omega,by simp,by simp,by simp,by simp,Grow.refl _⟩
 rintro T M1 ⟨i,i1,t0,t5,t6,t7,hg⟩;by_cases hi:i<p.length;case neg=>
  have a:¬(i:Int)<p.length:=by omega
  have h9:(p.length:Int)<=9:=by omega
  simp -dsimp[t0,t5,t6,t7,a,h9];exact hg
 have a:(i:Int)<p.length:=by omega
 have w1:=A1H (i:=i) (by omega);obtain⟨s,hs⟩:=ex (p[i]);have g:=hp i hi;rw[<-hs]at g;have l:p[i]=s:=hs.symm;have m:(A0T p)[i]?=some [I s.k,S s.lab]:=by simp[A0T,hi,hs,A0w.row]
 obtain⟨M2,b⟩:=ex (M1++[A0m.cells 159 [I s.k,S s.lab]]);have hX:M2[M1.length]?=some (A0m.cells 159 [I s.k,S s.lab]):=by rw[b];simp
 have e:Grow M M2:=by rw[b];exact hg.trans (A0c.app none _ _)
 have j:=B9p gl s M2;rw[show s.row=[I s.k,S s.lab]from rfl]at j;have c:∀M,A4r (WC gl) 112 [S s.lab] M (λv M'=>v=B (A0O s.lab)/\M'=M):=λM=>A1a func112 rfl rfl (A3r (λ_=>trivial) (A6x gl M s.lab));have n:IntKind.i64.wrap 1=1:=by decide
 by_cases h0:i=0
 .have r:(i:Int)=0:=by omega
  subst h0;simp -dsimp[t0,t5,t6,t7,a,hi,m,l,A0k,A0i,A0d,A0y,A0v];rw[<-b];simp -dsimp[t0,t5,t6,t7,A0b hX];refine A0h func324 j ?_;cases hb:C4E s
  .rcases g with⟨_,rfl⟩|⟨q1,q2,q3⟩
   .simp[C4E,A3n]at hb
   (have d:¬s.k<=0:=by omega);have f:¬s.k>7:=by omega
   rw[q3]at c;simp -dsimp[t0,t5,t6,t7,A0b hX,d,f];refine A1W (c M2) ?_;rintro _ _ ⟨rfl,rfl⟩;simp -dsimp[t0,t5,t6,t7,w1,n];exact⟨⟨1,by omega,rfl,e⟩,by omega⟩
  .simp -dsimp[t0,t5,t6,t7,w1,n];exact⟨⟨1,by omega,rfl,e⟩,by omega⟩
 .rcases g with⟨q,_⟩|⟨q1,q2,q3⟩
  .exact absurd q h0
  have d:¬s.k<=0:=by omega
  have f:¬s.k>7:=by omega
  rw[q3]at c;simp -dsimp[t0,t5,t6,t7,a,hi,m,l,A0k,A0i,A0d,A0y,A0v];rw[<-b];simp -dsimp[t0,t5,t6,t7,A0b hX,h0,d,f];refine A1W (c M2) ?_;rintro _ _ ⟨rfl,rfl⟩;simp -dsimp[t0,t5,t6,t7,w1];exact⟨⟨i+1,by clear w1;omega,rfl,e⟩,by clear w1;omega⟩
end
def A1J(s:A0w)(k:A0a):Bool:=decide (k.kind=s.k)&&decide (k.label=s.lab)
section
variable (gl:Nat->AV)
def B5H(k:A0a)(s:A0w)(M:Mem):A0e (WC gl) 374 [.agg k.row,.agg s.row] M (λv M'=>v=B (A1J s k)/\M'=M):=by
 have hs:s.row=[I s.k,S s.lab]:=rfl;rw[k.row_eq,hs];refine A0n hB func374 ?_;by_cases h1:k.kind=s.k
 .by_cases h2:k.label=s.lab
  .simp -dsimp[A1J,h1,h2]
  .simp -dsimp[A1J,h1,h2]
 .simp -dsimp[A1J,h1]
def D2V(u:A0a)(o:Own)(M:Mem):A0e (WC gl) 328 [.agg u.row,.list 2 [] o] M (λv M'=>v=.list 8 (A0p [u]) .no/\M'=M):=by
 refine A0e.dataX ?_;have hv:=λM=>B2r gl [] o M (by simp) (by simp);simp only[A0T,Z2b]at hv;have a:A0p [u]=[u.row]:=by rw[A0p,A0p]
 have hb:=B2M M.length [u];rw[a]at hb|-;rw[u.row_eq]at hb|-;refine A0n (hQ [58]) func328 ?_;simp -dsimp;refine A0h func240 (hv M) ?_;simp -dsimp[A0k,A0l,A0M,AV.storable,AV.cells];exact⟨A0c.app none _ _,.dis hb .nil⟩
end
section
variable (gl:Nat->AV)
def C0z(u:A0a)(pv:AV)(R:List A0a)(M:Mem)(hR:R.length<=1000)(m:∀M,A0e (WC gl) 328 [.agg u.row,pv] M (λv M'=>v=.list 8 (A0p R) .no/\M'=M)):
 A0e (WC gl) 244 [.agg u.row,pv] M (λv M'=>v=.list 3 (A1l (R.map A0a.id)) .no/\M'=M):=by
 refine A0e.dataX ?_
 obtain⟨f,a⟩:=ex (R.map A0a.id)
 rw[<-a]
 have p:f.length=R.length:=by rw[a];simp
 rw[u.row_eq]at m|-
 refine A0n (hQ [20]) func244 ?_
 simp -dsimp
 refine A0h func328 (m M) ?_
 simp -dsimp
 refine A0B (hQ [20]) R.length 12 (λT M1=>∃i:Nat,i<=R.length/\T 10=.list 8 (A0p R) .no/\T 11=I R.length/\T 12=I i/\Grow M M1/\Arr 23 3 IdD.row M.length M1 (T 5) (f.take i)) ?_ ?_
 .exact⟨0,by omega,by simp,by simp,by simp,Grow.refl _,by simpa using Arr.nil⟩
 rintro T M1 ⟨i,i1,b,d,c,hg,ha⟩
 by_cases hi:i<R.length
 case neg=>
  have g:¬(i:Int)<R.length:=by omega
  rw[Z0g (by omega)]at ha;simp -dsimp[b,d,c,g];exact⟨hg,A2V (enc:=IdD.row) (λ_=>rfl) B2c ha.own ha.lat⟩
 have g:(i:Int)<R.length:=by omega
 have w1:=A1H (i:=i) (by omega)
 obtain⟨x,hx⟩:=ex (R[i])
 have n:R[i]=x:=hx.symm
 obtain⟨M2,h⟩:=ex (M1++[A0m.cells 27 x.row])
 have j:Grow M1 M2:=by rw[h];exact A0c.app none _ _
 have hX:M2[M1.length]?=some (.cells 27 x.row):=by rw[h];simp
 have l:=ha.keep j
 have o:f.take (i+1)=f.take i++[x.id]:=by rw[Z1r,a,Z1g,Z0l hi,hx];rfl
 generalize k:T 5=ov at*
 simp -dsimp[b,d,c,k,hi,g,n,A0k,A0i,A0d,A0y,A0v]
 rw[<-h]
 rw[x.row_eq]at hX
 simp -dsimp[b,d,c,k,A0b hX,A0l,A0M,A0y,A0v]
 refine A3B (C:=WC gl) (enc:=IdD.row) (e:=23) (sz:=3) (news:=[x.id]) B4i B8y C0u (λ_=>rfl) l.own (by simp[A0D,IdD.row]) (by simp;omega) rfl ?_
 intro v' M' h1 h2 h3 _
 obtain⟨g1,g2⟩:=A2T (X:=[]) (hg.trans j) l.lat (by simpa using h2) (by simpa using h3)
 simp -dsimp[b,d,c,w1]
 exact⟨⟨i+1,by clear w1;omega,rfl,g1,by rw[o];exact⟨h1,g2⟩⟩,by clear w1;omega⟩
def B3z(u x:A0a)(pv:AV)(M:Mem)(h:∀M,A0e (WC gl) 328 [.agg u.row,pv] M (λv M'=>v=.list 8 (A0p [x]) .no/\M'=M)):
 A0e (WC gl) 191 [.agg u.row,pv] M (λv M'=>v=.tuple [.agg x.id.row,I 0]/\M'=M):=by
 refine A0e.dataX ?_
 obtain⟨Ma,b⟩:=ex (M++[A0m.cells 23 [I 0,I 0,I 0]])
 have e:Grow M Ma:=by rw[b];exact A0c.app none _ _
 have c:Ma[M.length]?=some (A0m.cells 23 [I 0,I 0,I 0]):=by rw[b];simp
 have d:M.length<Ma.length:=(Z0a.1 c).1
 have a:=C0z gl u pv [x] Ma (by simp) h
 have f:A1l ([x].map A0a.id)=[[I x.id.act,I x.id.item,I x.id.n]]:=rfl
 have g:x.id.row=[I x.id.act,I x.id.item,I x.id.n]:=rfl
 rw[f]at a
 rw[g]
 rw[u.row_eq]at a|-
 refine A0n hB func191 ?_
 simp -dsimp[A0k]
 rw[<-b]
 refine A0h func244 a ?_
 simp -dsimp[A0f c,A0y,A0v,A0s d,A0j]
 exact⟨A0V e (Z0n _),.same (by simp[bdd,A1I]) .nil⟩
end
section
variable (gl:Nat->AV)
def C8k(l:List A0a)(M:Mem)(hl:l.length<=1000000):A0e (WC gl) 52 [.list 8 (A0p l) .no] M (λv M'=>A1g 27 8 A0a.row M' v l/\Grow M M'/\A1m M.length v):=by
 refine A0n hW func52 ?_;have tail:∀(K:AV->Mem->Prop) (tg:Tag K),(∀v M',(A1g 27 8 A0a.row M' v l/\Grow M M'/\A1m M.length v)->K v M')->A4Q (WC gl) (A2t hW.own (some 7)) (A2t hW.vec (some 7)) 25 25 (.vref M.length 0 8 0 0) (.list 8 (A0p l) .no) (M++[.vec 27 8 [] 0 [(0,0)]]) K tg:=by intro K tg hk;have ho:A1g 27 8 A0a.row (M++[.vec 27 8 [] 0 [(0,0)]]) (.vref M.length 0 8 0 0) []:=.inr ⟨M.length,0,[(0,0)],rfl,by simp,by simp[List.lookup]⟩;refine A3B (C:=WC gl) (enc:=A0a.row) (e:=27) (sz:=8) (news:=l) A7G B2i B1T A0a.row_len ho (by simp only[A0D,B0E,B2U];simp) (by simp;omega) rfl ?_;intro v' M' h1 h2 h3 _;obtain⟨r1,r2⟩:=A2T (X:=[]) (A0c.app none M [.vec 27 8 [] 0 [(0,0)]]) (v:=.vref M.length 0 8 0 0) (λf hf=>by simp at hf;omega) (by simpa using h2) (by simpa using h3);exact hk _ _ ⟨h1,r1,r2⟩
 cases l with
 |nil=>
  simp -dsimp[A0p];rw[A7j (.inl rfl) underlying25];intro b;cases b
  .simp -dsimp[A2m,A0M];refine tail _ _ λv M' h=>?_;simp -dsimp;exact h
  .simp -dsimp;exact⟨.nil,A0c.refl _ _,λf h=>by simp at h⟩
 |cons a l=>
  have hr:A0p (a::l)=a.row::A0p l:=by rw[A0p]
  rw[hr];simp -dsimp[A2m,A0M];rw[<-hr];refine tail _ _ λv M' h=>?_;simp -dsimp;exact h
end
mutual
def B0v(x:IdD):A0a->Option (List A0w)
 |.mk id _ _ _ _ ks=>if id=x then some []else B3d x ks
def B3d(x:IdD):List A0a->Option (List A0w)
 |[]=>none
 |k::ks=>match B0v x k with
  |some p=>some (⟨k.kind,k.label⟩::p)
  |none=>B3d x ks
end
mutual
def B9Z(x:IdD):∀u:A0a,((B0v x u).getD []).length<=A0r u
 |.mk id _ _ _ _ ks=>by
  have:=B8a x ks;rw[B0v,A0r];split
  .simp
  .omega
def B8a(x:IdD):∀ks:List A0a,((B3d x ks).getD []).length<=A0A ks
 |[]=>by rw[B3d];simp
 |k::ks=>by
  have h1:=B9Z x k;have h2:=B8a x ks;have h3:=A6c k;rw[B3d,A0A];cases hk:B0v x k with
  |none=>simp only;omega
  |some p=>rw[hk]at h1;simp only[Z1w,Z0x]at h1|-;have h4:=D1A x k p hk;omega
def D1A(x:IdD):∀(u:A0a) (p:List A0w),B0v x u=some p->p.length+1<=A0r u
 |.mk id _ _ _ _ ks,p,h=>by
  rw[B0v]at h;rw[A0r];split at h
  .cases h;simp
  .have:=B8a x ks;rw[h,Z1w]at this;omega
end
abbrev E0I(o:Option (List A0w)):AV:=.tuple [A5y (o.getD []),B o.isSome]
def B9P(p:List A0w):(p.map A0w.row).flatten=p.flatMap A0w.row:=by simp[List.flatMap]
def C2G{M}{n}{v}{p}(h:A1g 159 2 A0w.row M v p)(hn:A1m n v):Still M n (bdd n) [.tuple [v,B true]] [E0I (some p)]:=.tuple (Still.append (a:=[v]) (b:=[A5y p]) (c:=[B true]) (d:=[B true]) (A2V (enc:=A0w.row) (λ_=>rfl) C0j h hn) (.same trivial .nil)) .nil
section
variable (gl:Nat->AV)
def C5o{s:A0w}{M:Mem}:A2m prog 40 1 [(0,.agg [I s.k,S s.lab])] M=some (.vref M.length 0 2 0 1,M++[.vec 159 2 [I s.k,S s.lab] 0 [(0,1)]]):=by simp[A2m,A0M,AV.storable,AV.cells]
def D5D:∀(u:A0a) (x:IdD) (M:Mem),u.good->A0r u<=1000->A0e (WC gl) 124 [.agg u.row,.agg x.row] M (λv M'=>v=E0I (B0v x u)/\M'=M)
 |.mk id kind lab hd ws ks,x,M,hg,hc=>by
  obtain⟨_,_,a4,_,a2,_,a5,a0,o⟩:=(A0a.good_iff _).1 hg;have o:∀k∈ks,k.good:=o;have a3:1+A0A ks<=1000:=by rwa[A0r]at hc
  have a1:=A1Z ks;have t:(A0a.mk id kind lab hd ws ks).row=[I id.act,I id.item,I id.n,I kind,S lab,.list 4 (A0g hd) .no,.list 4 (A0g ws) .no,.list 8 (A0p ks) .no]:=by rw[A0a.row]
  have hx:x.row=[I x.act,I x.item,I x.n]:=rfl;have he:=B4S id x;refine A0e.dataX ?_;rw[t,hx];refine A0n (hQ [33,35]) func124 ?_;by_cases h0:id=x
  .rw[Z0w h0]at he;(have hr:B0v x (.mk id kind lab hd ws ks)=some []:=by rw[B0v,Z0e h0]);rw[hr];simp -dsimp[he];exact⟨Grow.refl _,.tuple (.nilS (.same trivial .nil)) .nil⟩
  rw[Z0r h0]at he;have hr:B0v x (.mk id kind lab hd ws ks)=B3d x ks:=by rw[B0v,Z0d h0]
  rw[hr];generalize hR:B3d x ks=R;simp -dsimp[he];refine A0B (hQ [33,35]) ks.length 17 (λT M1=>∃i:Nat,Grow M M1/\i<=ks.length/\T 3=.cptr [I x.act,I x.item,I x.n]/\T 15=.list 8 (A0p ks) .no/\T 16=I ks.length/\T 17=I i/\R=B3d x (ks.drop i)) ?_ ?_
  .exact⟨0,Grow.refl _,by omega,by simp,by simp,by simp,by simp,by simp[hR]⟩
  rintro T M1 ⟨i,h,i1,t3,c,a,b,ho⟩;by_cases hi:i<ks.length;case neg=>
   (have q:¬(i:Int)<ks.length:=by omega);rw[show ks.drop i=[]from Z0v (by omega),B3d]at ho
   subst ho;simp -dsimp[t3,c,a,b,q];exact⟨h,.tuple (.nilS (.same trivial .nil)) .nil⟩
  have q:(i:Int)<ks.length:=by omega
  have w1:=A1H (i:=i) (by omega);have d:ks[i]∈ks:=Z0o hi;have a6:=A4v d;rw[Z0j hi,B3d]at ho;obtain⟨M2,r⟩:=ex (M1++[A0m.cells 27 ks[i].row]);have l:Grow M1 M2:=by rw[r];exact A0c.app none _ _
  have m:M2[M1.length]?=some (A0m.cells 27 ks[i].row):=by rw[r];simp
  have:=A0a.kid_lt (u:=.mk id kind lab hd ws ks) d;have g:=D5D ks[i] x M2 (o _ d) (by omega);have j:=B9Z x ks[i];rw[hx]at g;simp -dsimp[t3,c,a,b,hi,q,A0k,A0i,A0d,AV.storable,AV.cells];rw[<-r];simp -dsimp[t3,c,a,b,A0b m];refine A0h func124 g ?_;rw[A0a.row_eq]at m;cases hw:B0v x ks[i]with
  |none=>rw[hw]at ho;simp -dsimp[t3,c,a,b,w1];exact⟨⟨h.trans l,i+1,by clear w1;omega,rfl,ho⟩,by clear w1;omega⟩
  |some p=>rw[hw]at ho j;simp only[Z1w]at j;subst ho;obtain⟨s,hs⟩:=ex (⟨ks[i].kind,ks[i].label⟩:A0w);(have w:ks[i].kind=s.k:=by rw[hs]);(have y:ks[i].label=s.lab:=by rw[hs]);simp -dsimp[t3,c,a,b,A0b m,w,y,C5o];have z:A1g 159 2 A0w.row (M2++[.vec 159 2 [I s.k,S s.lab] 0 [(0,1)]]) (.vref M2.length 0 2 0 1) [s]:=.inr ⟨M2.length,0,[(0,1)],rfl,by simp[A0w.row],by simp[List.lookup]⟩;refine A3B (C:=WC gl) (enc:=A0w.row) (e:=159) (sz:=2) (news:=p) B0J B4t B0T (λ_=>rfl) z (by simp[A0D,B9P]) (by simp;omega) rfl ?_;intro v' M3 q1 q2 q3 _;obtain⟨r1,r2⟩:=A2T (X:=[]) ((h.trans l).trans (A0c.app none _ [.vec 159 2 [I s.k,S s.lab] 0 [(0,1)]])) (v:=.vref M2.length 0 2 0 1) (λf hf=>by simp at hf;have:=(h.trans l).1;omega) (by simpa using q2) (by simpa using q3);rw[<-hs];simp -dsimp;exact⟨r1,C2G q1 r2⟩
termination_by u=>SizeOf.sizeOf u
def B4B(u:A0a)(x:IdD):Option (List A0w):=(B0v x u).map (A3n::·)
def D7B(u:A0a)(x:IdD)(M:Mem)(hg:u.good)(hc:A0r u<=1000):A0e (WC gl) 70 [.agg u.row,.agg x.row] M (λv M'=>v=E0I (B4B u x)/\M'=M):=by
 refine A0e.dataX ?_;have hx:x.row=[I x.act,I x.item,I x.n]:=rfl;have a:=D5D gl u x M hg hc;have b:=B9Z x u;rw[hx]at a|-;refine A0n (hQ [17,19]) func70 ?_;simp -dsimp;refine A0h func124 a ?_;cases hw:B0v x u with
 |none=>simp -dsimp[B4B,hw];exact⟨Grow.refl _,.tuple (.nilS (.same trivial .nil)) .nil⟩
 |some p=>
  rw[hw]at b;simp only[Z1w]at b;have hf:B4B u x=some (A3n::p):=by simp[B4B,hw]
  rw[hf];have hv:=C5o (s:=A3n) (M:=M);simp only[A3n]at hv;simp -dsimp[hv,B1r];have c:A1g 159 2 A0w.row (M++[.vec 159 2 [I 0,S ⟨#[]⟩] 0 [(0,1)]]) (.vref M.length 0 2 0 1) [A3n]:=.inr ⟨M.length,0,[(0,1)],rfl,by simp[A0w.row,A3n],by simp[List.lookup]⟩;refine A3B (C:=WC gl) (enc:=A0w.row) (e:=159) (sz:=2) (news:=p) B0J B4t B0T (λ_=>rfl) c (by simp[A0D,B9P]) (by simp;omega) rfl ?_;intro v' M3 q1 q2 q3 _;obtain⟨r1,r2⟩:=A2T (X:=[]) ((Grow.refl M).trans (A0c.app none _ [.vec 159 2 [I 0,S ⟨#[]⟩] 0 [(0,1)]])) (v:=.vref M.length 0 2 0 1) (λf hf=>by simp at hf;omega) (by simpa using q2) (by simpa using q3);simp -dsimp;exact⟨r1,C2G q1 r2⟩
end
def B5F(p:Int->Bool)(s:ByteArray):∀(n i j:Nat),i<=j->j<i+n->(A1M p s n i<0\/(j:Int)<A1M p s n i)->p (A0P s j)=false
 |0,i,j,h1,h2,_=>by omega
 |n+1,i,j,h1,h2,h=>by
  rw[A1M]at h;cases hp:p (A0P s i)with
  |true=>rw[hp,Z0e rfl]at h;omega
  |false=>
   rw[hp,Z0d (by simp)]at h;by_cases e:j=i
   .rw[e];exact hp
   .exact B5F p s n (i+1) j (by omega) (by omega) h
def D4Q(s:ByteArray){j:Nat}(h:j<A1A s):48<=A0P s j/\A0P s j<=57:=by
 have a:=B0A s;have:=B5F (A1j 48 57) s s.size 0 j (by omega) (by omega) (by
  simp only[A1A]at h;split at h
  .left;assumption
  .right;omega)
 simp only[A1j,Z1Y,Z1N]at this;omega
def B3r(s:ByteArray):Nat->Nat->Int->Int
 |0,_,n=>n
 |r+1,i,n=>B3r s r (i+1) (10*n+(A0P s i-48))
def B4U(s:ByteArray)(d:Nat)(hd:d<=s.size):∀(r i:Nat) (n:Int),i+r<=d->B3r (s.extract 0 d) r i n=B3r s r i n
 |0,i,n,_=>rfl
 |r+1,i,n,h=>by
  have:A0P (s.extract 0 d) i=A0P s i:=by have:=A5s (s:=s) (i:=0) (j:=d) (k:=i) (by omega) (by omega);simpa using this
  rw[B3r,B3r,this];exact B4U s d hd r (i+1) _ (by omega)
def B2k(s:ByteArray):Int:=B3r s (A1A s) 0 0
def A8O(s:ByteArray):ByteArray:=s.extract (A1A s) s.size
section
variable (gl:Nat->AV) (M:Mem)
def D7f(s:ByteArray)(h1:1<=s.size)(h4:s.size<=4)(hd:∀i,i<s.size->48<=A0P s i/\A0P s i<=57):A0e (WC gl) 212 [S s] M (λv M'=>v=.tuple [I (B3r s s.size 0 0),.val .nilIface]/\M'=M):=by
 refine A6D hB func212 rfl rfl rfl rfl rfl rfl ?_;have a1:(0:Int)<s.size:=by omega
 have a2:(s.size:Int)<10:=by omega
 have a3:(s.size:Int)<19:=by omega
 obtain⟨b1,b2⟩:=hd 0 (by omega);have c1:¬A0P s 0=45:=by omega
 have c2:¬A0P s 0=43:=by omega
 have a:0<s.size:=by omega
 simp -dsimp[a1,a2,a3,c1,c2,a,A6d];rw[C5x gl (s:=s) (by rfl) (by omega)];simp -dsimp;refine A2P hB (λT M1=>∃i:Nat,i<=s.size/\M1=M/\T 5=S s/\T 47=.list 1 (B2x s) .no/\T 48=I s.size/\T 49=I i/\∃n:Int,T 6=I n/\B3r s s.size 0 0=B3r s (s.size-i) i n/\0<=n/\n<=9999/\(i=0->n=0)/\(i=1->n<=9)/\(i=2->n<=99)/\(i=3->n<=999)) (λT M1=>match T 49 with|.val (.int _ i)=>s.size-i.toNat|_=>0) (by kernel_rfl) ?_ ?_
 .exact⟨0,by omega,rfl,by simp,by simp,by simp,by simp,0,by simp,by simp,by omega,by omega,by omega,by omega,by omega,by omega⟩
 rintro T M1 ⟨i,i1,rfl,t5,e,d,c,n,t6,ho,n1,n2,n3,n4,n5,n6⟩;by_cases hi:i<s.size
 .have b:(i:Int)<s.size:=by omega
  have w1:=A1H (i:=i) (by omega);obtain⟨d1,d2⟩:=hd i hi;have hw:IntKind.u8.wrap (A0P s i-48)=A0P s i-48:=by rw[IntWalk.u8_in _ ⟨by omega,by omega⟩]
  have hg:¬A0P s i-48>9:=by omega
  have f:¬(9:Int)<A0P s i-48:=by omega
  have wm:IntKind.i64.wrap (n*10)=n*10:=A0L (by omega) (by omega);have wc:IntKind.i64.wrap (A0P s i-48)=A0P s i-48:=A0L (by omega) (by omega);have wa:IntKind.i64.wrap (n*10+(A0P s i-48))=n*10+(A0P s i-48):=A0L (by omega) (by omega);rw[show s.size-i=(s.size-(i+1))+1 by omega,B3r]at ho;simp -dsimp[t5,e,d,c,t6,hi,b,hw,hg,f,wm,wc,wa,w1,A6d];rw[Int.mul_comm 10 n]at ho;clear wm wa wc hw;exact⟨⟨i+1,by clear w1;omega,rfl,ho,by omega,by clear w1;omega,by clear w1;omega,by clear w1;omega,by clear w1;omega,by clear w1;omega⟩,by clear w1;omega⟩
 .have b:¬(i:Int)<s.size:=by omega
  rw[show s.size-i=0 by omega,B3r]at ho;simp -dsimp[t5,e,d,c,t6,b,c1,a,ho]
def E0G{x:Operand}{t2:TypeId}{d:Option Tmp}{t:TypeId}{p:String}{af:Array Edge}{g:Option (Nat×Bool)}{K:AV->Mem->Prop}{ρ:Operand->AV}{h:A2u}(hx:ρ x=.val .nilIface)(hy:ρ (.const .nilIface)=.val .nilIface)(hk:K (B false) M):A4z (WC gl) h ⟨d,.binOp .neq 118 x (.const .nilIface) t2,t,p,af,g⟩ K ρ M:=by
 rw[B9G]
 have e0:A1B prog .neq 118 (.val .nilIface) (.val .nilIface)=none:=by kernel_rfl
 have e1:B1q prog 118 true (.val .nilIface) (.val .nilIface)=some true:=by kernel_rfl
 unfold C7x
 rw[hx,hy]
 simp only[E3v,e0,Z3d,A1d,hx,hy,B0D,e1,Z1C,Z2t]
 exact hk
def D7e(s:ByteArray)(h1:1<=s.size)(h4:s.size<=4)(hd:∀i,i<s.size->48<=A0P s i/\A0P s i<=57):A0e (WC gl) 165 [S s] M (λv M'=>v=.tuple [I (B3r s s.size 0 0),.val .nilIface]/\M'=M):=by
 refine A8v (C:=WC gl) (f:=165) func165 rfl rfl rfl rfl rfl (A5E (h:=hB) _ _ _ _ rfl ?_);simp only[D4f,C2b,B7U,C2I,A3f,C2A,B7l,B5a];change A4r (WC gl) 212 [S s] M _;refine(A1a func212 rfl rfl (D7f gl M s h1 h4 hd)).mono ?_;rintro _ M1 ⟨rfl,rfl⟩;have hx:∀(o:Oper) (K:AV->Mem->Prop) (ρ:Operand->AV) (x:Operand) (i:Nat) (vs:List AV) (v:AV),o.op=.extract x i->ρ x=.tuple vs->vs[i]?=some v->K v M1->A4z (WC gl) hB o K ρ M1:=by
  intro o K ρ x i vs v ho hv hi hk;obtain⟨d,op,t,p,af,g⟩:=o;simp only at ho;subst ho;have e:A0U (WC gl) hB ⟨d,.extract x i,t,p,af,g⟩ ρ M1=some (v,M1):=by simp[A0U,A0I,hv,hi]
  rw[A3K rfl rfl,e];exact hk
 refine hx _ _ _ _ 0 _ _ rfl rfl rfl ?_;refine hx _ _ _ _ 1 _ _ rfl rfl rfl ?_;refine E0G gl _ rfl rfl ?_;rw[D7J (b:=false) rfl,Z0d (by simp)];simp only[D8A,B5a,D4f,C2b,B7U,C2I,A3f,C2A,B7l,D9N,D3x,C3d];have e:∀T:Env,T 2=I (B3r s s.size 0 0)->T 3=.val .nilIface->A3P (WC gl) [ResultVar.tmp 2,ResultVar.tmp 3] T M1=some (.tuple [I (B3r s s.size 0 0),.val .nilIface]):=by intro T h2 h3;simp[A3P,h2,h3]
 rw[e _ rfl rfl];exact⟨rfl,trivial⟩
def C3w(s:ByteArray)(h:A0O s=true):1<=A1A s/\A1A s<=4:=by simp only[A0O,Z0f,Z0k]at h;exact⟨h.1.1.1.1,h.1.1.1.2⟩
def C7H(s:ByteArray)(hs:A0O s=true):A0e (WC gl) 114 [S s] M (λv M'=>v=.tuple [I (B2k s),S (A8O s)]/\M'=M):=by
 refine A3r (λn=>by simp[bdd,A1I]) ?_;refine A6D hB func114 rfl rfl rfl rfl rfl rfl ?_;obtain⟨d1,d4⟩:=C3w s hs;have a:=B0A s;have d:(s.extract 0 (A1A s)).size=A1A s:=by simp;omega
 simp -dsimp;refine A1W (A1a func112 rfl rfl (A6x gl M s)) ?_;rintro _ M1 ⟨rfl,b⟩;simp -dsimp[hs];refine A1W (A1a func161 rfl rfl (C2p gl M1 s)) ?_;rintro _ M2 ⟨rfl,c⟩;simp -dsimp;refine A1W (A1a func165 rfl rfl (D7e gl M2 (s.extract 0 (A1A s)) (by omega) (by omega) λi hi=>?_)) ?_
 .have:=A5s (s:=s) (i:=0) (j:=A1A s) (k:=i) (by omega) (by omega);rw[this,Z0N];exact D4Q s (by omega)
 rintro _ _ ⟨rfl,rfl⟩;have hn:B3r (s.extract 0 (A1A s)) (A1A s) 0 0=B2k s:=B4U s _ a _ _ _ (by omega);have hg:=b.trans c;simp -dsimp[d,hn,A8O,hg]
end
abbrev bl:=Op.bytesLess
def B6n:∀x,bl x x=false
 |[]=>by simp[Op.bytesLess]
 |a::x=>by have:=B6n x;simp[Op.bytesLess,UInt8.lt_irrefl,this]
def C5z:∀x y z,bl x y=true->bl y z=true->bl x z=true
 |[],_,[],h1,h2=>by simp_all [Op.bytesLess]
 |[],_,c::z,h1,h2=>by simp[Op.bytesLess]
 |a::x,[],_,h1,h2=>by simp[Op.bytesLess]at h1
 |a::x,b::y,[],h1,h2=>by simp[Op.bytesLess]at h2
 |a::x,b::y,c::z,h1,h2=>by
  simp only[Op.bytesLess,Z1I,Z0k,Z0f,Z3h]at h1 h2|-;rcases h1 with h1|⟨rfl,h1⟩
  .rcases h2 with h2|⟨rfl,h2⟩
   .exact .inl (UInt8.lt_trans h1 h2)
   .exact .inl h1
  .rcases h2 with h2|⟨rfl,h2⟩
   .exact .inl h2
   .exact .inr ⟨rfl,C5z x y z h1 h2⟩
def C5Z:∀x y,bl x y=false->bl y x=false->x=y
 |[],[],_,_=>rfl
 |[],b::y,h,_=>by simp[Op.bytesLess]at h
 |a::x,[],_,h=>by simp[Op.bytesLess]at h
 |a::x,b::y,h1,h2=>by
  simp only[Op.bytesLess,Z1Y,Z1N,Z3f,Z2q]at h1 h2;have e:a=b:=by(have h3:a.toNat=b.toNat:=by have:=h1.1;have:=h2.1;simp only[UInt8.lt_iff_toNat_lt]at*;omega);exact UInt8.toNat_inj.1 h3
  subst e;rw[C5Z x y (by simpa using h1.2) (by simpa using h2.2)]
def D4c(x y:List UInt8)(h:bl x y=true):bl y x=false:=by
 cases e:bl y x with
 |false=>rfl
 |true=>have:=C5z x y x h e;rw[B6n]at this;simp at this
def D1o(a b:ByteArray):Int:=if bl a.toList b.toList=true then -1 else if bl b.toList a.toList=true then 1 else 0
def B8G{a b:ByteArray}:B5A .lss a b=some (.bool (bl a.toList b.toList)):=rfl
def C0g{a b:ByteArray}:B5A .gtr a b=some (.bool (bl b.toList a.toList)):=by
 simp only[B5A,Z0b,Value.bool.injEq];cases h1:bl a.toList b.toList
 .cases h2:bl b.toList a.toList
  .have:=C5Z _ _ h1 h2;rw[this];simp
  ·(have:¬a.toList=b.toList:=λe=>by rw[e,B6n]at h2;simp at h2);have c:Op.bytesLess a.toList b.toList=false:=h1
   simp[this,c]
 .rw[D4c _ _ h1];have c:Op.bytesLess a.toList b.toList=true:=h1;simp[c]
def C3N(a b:ByteArray):Int:=orL [C5N (B2k a) (B2k b),D1o (A8O a) (A8O b)]
def E0E(a b:A0a):Int:=orL [C5N a.kind b.kind,C3N a.label b.label]
section
variable (gl:Nat->AV) (M:Mem)
def C1q(x:ByteArray):A0e (WC gl) 164 [S x] M (λv M'=>v=B false/\M'=M):=by refine A6D hB func164 rfl rfl rfl rfl rfl rfl ?_;simp -dsimp
def D7L(x y:ByteArray):A0e (WC gl) 113 [S x,S y] M (λv M'=>v=I (D1o x y)/\M'=M):=by
 refine A6D hB func113 rfl rfl rfl rfl rfl rfl ?_;simp -dsimp;refine A1W (A1a func164 rfl rfl (C1q gl M x)) ?_;rintro _ _ ⟨rfl,rfl⟩;simp -dsimp;refine A1W (A1a func164 rfl rfl (C1q gl _ y)) ?_;rintro _ _ ⟨rfl,rfl⟩;cases h1:bl x.toList y.toList
 .cases h2:bl y.toList x.toList
  .simp -dsimp[B8G,C0g,h1,h2,D1o]
  .simp -dsimp[B8G,C0g,h1,h2,D1o]
 .simp -dsimp[B8G,C0g,h1,D1o]
def D1P(a b:ByteArray)(ha:A0O a=true)(hb:A0O b=true):A0e (WC gl) 57 [S a,S b] M (λv M'=>v=I (C3N a b)/\M'=M):=by refine A3r (λn=>trivial) ?_;refine A6D hB func57 rfl rfl rfl rfl rfl rfl ?_;simp -dsimp;refine A1W (A1a func112 rfl rfl (A6x gl M a)) ?_;rintro _ M1 ⟨rfl,g1⟩;simp -dsimp;refine A1W (A1a func112 rfl rfl (A6x gl M1 b)) ?_;rintro _ M2 ⟨rfl,g2⟩;simp -dsimp[ha,hb];refine A1W (A1a func114 rfl rfl (C7H gl M2 a ha)) ?_;rintro _ M2 ⟨rfl,rfl⟩;simp -dsimp;refine A1W (A1a func114 rfl rfl (C7H gl M2 b hb)) ?_;rintro _ M2 ⟨rfl,rfl⟩;simp -dsimp;refine A1W (A1a func56 rfl rfl (D4h gl M2 (B2k a) (B2k b))) ?_;rintro _ M2 ⟨rfl,rfl⟩;simp -dsimp;refine A1W (A1a func113 rfl rfl (D7L gl M2 (A8O a) (A8O b))) ?_;rintro _ M2 ⟨rfl,rfl⟩;simp -dsimp[A0l,A0M,C9I,C9Y];refine A1W (A1a func55 rfl rfl (D9h gl M2 [C5N (B2k a) (B2k b),D1o (A8O a) (A8O b)] (by simp))) ?_;rintro _ M2 ⟨rfl,rfl⟩;simp -dsimp[C3N,g1.trans g2]
def D7t(a b:A0a)(ha:A0O a.label=true)(hb:A0O b.label=true):A0e (WC gl) 54 [.agg a.row,.agg b.row] M (λv M'=>v=I (E0E a b)/\M'=M):=by rw[a.row_eq,b.row_eq];refine A6D hB func54 rfl rfl rfl rfl rfl rfl ?_;simp -dsimp;refine A0Z hB (A0u gl) (λ_=>0) (λ_=>0) (by rfl) (by kernel_rfl) ?_;simp -dsimp;refine A7l (λM=>A1a func56 rfl rfl (D4h gl M a.kind b.kind)) ?_;simp -dsimp;refine A7l (λM=>A1a func57 rfl rfl (D1P gl M a.label b.label ha hb)) ?_;simp -dsimp[A0l,A0M,C9I,C9Y];refine A7l (λM=>A1a func55 rfl rfl (D9h gl M [C5N a.kind b.kind,C3N a.label b.label] (by simp))) ?_;simp -dsimp[E0E]
end

def C3b{M:Mem}:A2m prog 25 0 [] M=some (.vref M.length 0 8 0 0,M++[.vec 27 8 [] 0 [(0,0)]]):=by simp[A2m,A0M]
def A1g.new0{α:Type}{e sz:Nat}{enc:α->List AV}{M:Mem}:A1g e sz enc (M++[.vec e sz [] 0 [(0,0)]]) (.vref M.length 0 sz 0 0) ([]:List α):=.inr ⟨M.length,0,[(0,0)],rfl,by simp,rfl⟩
section
variable (gl:Nat->AV) (M:Mem)
end
section
variable {α:Type} {e sz:Nat} {enc:α->List AV} {M:Mem} {v:AV} {l:List α} {P:Program} {t:TypeId}
end
def A0c.chain{o o':Option Nat}{A B C:Mem}(h1:A0c o A B)(h2:A0c o' B C)(h:o'=o\/∀g,o'=some g->A.length<=g):A0c o A C:=
 ⟨Z0R h1.1 h2.1,λi hi ho=>(h2.2 i (Z1j hi h1.1) (λe=>by
  rcases h with h|h
  .exact ho (h▸e)
  .have:=h i e;omega)).trans (h1.2 i hi ho)⟩
section
variable (gl:Nat->AV)
def D0P{a b c p:Int}{s:ByteArray}:A0x prog 69 [(0,.agg [I a,I b,I c]),(1,I p),(2,S s)]=some (.agg [I a,I b,I c,I p,S s]):=by simp[A0x,A1b,A1o,A0d,A0v]
end
section
variable (gl:Nat->AV)
def C1K(ks:List A0a)(M:Mem)(hn:ks.length<=1000):A0e (WC gl) 52 [.list 8 (A0p ks) .no] M (λv M'=>A1g 27 8 A0a.row M' v ks/\Grow M M'/\A1m M.length v):=by
 refine A6D (hQ [5,7]) func52 rfl rfl rfl rfl rfl rfl ?_;have key:∀(K:AV->Mem->Prop),(∀v' M',A1g 27 8 A0a.row M' v' ks->Grow M M'->A1m M.length v'->K v' M')->A4Q (WC gl) false true 25 25 (.vref M.length 0 8 0 0) (.list 8 (A0p ks) .no) (M++[.vec 27 8 [] 0 [(0,0)]]) K ⟨⟩:=by
  intro K hK;refine A3B (C:=WC gl) (enc:=A0a.row) (e:=27) (sz:=8) (news:=ks) A7G B2i B1T (λ_=>by simp) (A1g.new0 (M:=M)) (by simp[A0D,A3t,List.flatMap_def]) (by simp;omega) rfl ?_;intro v' M' h1 h2 h3 _;refine hK v' M' h1 ⟨by have:=h2.1;simp at this;omega,λi hi _=>by rw[h2.2 i (by simp;omega) (by simp;omega),Z0i hi]⟩ λq hq=>?_;rcases h3 with e|e
  .rw[e]at hq;simp at hq;omega
  .have:=e q hq;simp at this;omega
 cases ks with
 |nil=>
  have hr:A0p []=[]:=by rw[A0p]
  rw[hr]at key|-;simp -dsimp;rw[A7j (.inl rfl) underlying25];intro b;cases b
  .simp -dsimp[C3b];refine key _ ?_;intro v' M' h1 h2 h3;simp -dsimp[h1,h2,h3]
  .simp -dsimp[A1g.nil,A0c.refl,A1m]
 |cons k ks=>
  have hr:A0p (k::ks)=k.row::A0p ks:=by rw[A0p]
  rw[hr]at key|-;simp -dsimp[C3b];refine key _ ?_;intro v' M' h1 h2 h3;simp -dsimp[h1,h2,h3]
end
abbrev C7c(o wv:Nat):AV:=.func (.func 51) [] [.ptr o 0,.ptr wv 0]
section
variable (gl:Nat->AV)
end
def D9b:prog.stoodInHeld 69=false:=by kernel_rfl
def D2X:prog.eqGuardType prog.depth 69=false:=by kernel_rfl
def D9d(s:A0J):A1B prog .neq 69 (.agg [I s.id.act,I s.id.item,I s.id.n,I s.parent,S s.label]) (.agg [I s.id.act,I s.id.item,I s.id.n,I s.parent,S s.label])=some (B false):=by
 have h0:A3q prog .neq 69 (.agg [I s.id.act,I s.id.item,I s.id.n,I s.parent,S s.label]) (.agg [I s.id.act,I s.id.item,I s.id.n,I s.parent,S s.label])=none:=by simp[A3q,A4p]
 have h1:A9V prog 30 69 (.agg [I s.id.act,I s.id.item,I s.id.n,I s.parent,S s.label]) (.agg [I s.id.act,I s.id.item,I s.id.n,I s.parent,S s.label])=some true:=by simp[A9V,A3p,A0j,D9b,C4n]
 simp only[A1B,h0,A4T,D2X,h1];rfl
section
variable (gl:Nat->AV)
def D5n(l:List A0J)(M:Mem)(hl:l.length<=1000):A0e (WC gl) 14 [.list 5 (A1L l) .no,.list 5 (A1L l) .no] M (λr M'=>r=B true/\M'=M):=by
 refine A6D hB func14 rfl rfl rfl rfl rfl rfl ?_;simp -dsimp;refine A2P hB (λT M1=>∃i:Nat,i<=l.length/\M1=M/\T 0=.list 5 (A1L l) .no/\T 1=.list 5 (A1L l) .no/\T 5=I i) (λT M1=>match T 5 with|.val (.int _ i)=>l.length-i.toNat|_=>0) (by kernel_rfl) ?_ ?_
 .exact⟨0,by omega,rfl,by simp,by simp,by simp⟩
 rintro T M1 ⟨i,i1,rfl,t0,t1,t5⟩;by_cases hi:i<l.length;case neg=>
  have a:¬(i:Int)<l.length:=by omega
  simp -dsimp[t0,t1,t5,a]
 have a:(i:Int)<l.length:=by omega
 have w1:=A1H (i:=i) (by omega);simp -dsimp[t0,t1,t5,a];refine A0Z hB (A0u gl) (λk=>0) (λk=>0) (by rfl) (by kernel_rfl) ?_;simp -dsimp[t0,t1,t5,hi,A0J.row,D9d,w1];exact⟨⟨i+1,by clear w1;omega,rfl⟩,by clear w1;omega⟩
end
end Go.Abs
