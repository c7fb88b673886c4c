/- The texts CvB, CaTypes, CbTypes, CeTypes. -/
import Derived.Test.YtmpdkagfplajjaaGreatDoorGG24
set_option linter.all false
set_option maxRecDepth 100000
namespace Go.Abs
open Go.Proofs TryTypes Tryz
def A8u(l:List A0H):Bool:=l.all (λw=>decide (w.text.size<=100))&&decide (l.length<=300)
mutual
def B2D:A0a->Bool
 |.mk _ _ l h w ks=>decide (l.size<=30)&&A8u h&&A8u w&&B0M ks
def B0M:List A0a->Bool
 |[]=>true
 |k::ks=>B2D k&&B0M ks
end
mutual
def B0i:A0a->Int->Int->Int
 |.mk _ _ _ _ _ ks,deep,most=>if 20<deep then most+1 else A8r ks deep most 1
def A8r:List A0a->Int->Int->Int->Int
 |[],_,_,n=>n
 |k::ks,deep,most,n=>if n<=most then A8r ks deep most (n+B0i k (deep+1) (most-n))else n
end
mutual
def C5R:∀(u:A0a) (b a:Int),0<=a->1<=B0i u b a/\B0i u b a<=a+1
 |.mk _ _ _ _ _ ks,b,a,h=>by
  rw[B0i];split
  .omega
  .exact C7U ks b a 1 h (by omega) (by omega)
def C7U:∀(ks:List A0a) (b a n:Int),0<=a->1<=n->n<=a+1->1<=A8r ks b a n/\A8r ks b a n<=a+1
 |[],b,a,n,h,h1,h2=>by rw[A8r];exact⟨h1,h2⟩
 |k::ks,b,a,n,h,h1,h2=>by
  rw[A8r];split
  .have:=C5R k (b+1) (a-n) (by omega);exact C7U ks b a _ h (by omega) (by omega)
  .exact⟨h1,h2⟩
end
def B7q(u:A0a)(most:Int):Bool:=decide (B0i u 0 most<=most)&&B2D u
section
variable (gl:Nat->AV) (M:Mem)
def C2O(l:List A0H)(o:Own)(hl:l.length<=maxLen):A0c (WC gl) 149 [.list 4 (A0g l) o] M (λv M'=>v=B (A8u l)/\M'=M):=by
 refine A0o hB func149 ?_;have e:l.length<=9223372036854775807:=by simpa[maxLen]using hl
 simp -dsimp -implicitDefEqProofs;refine A0y hB l.length 3 (λT M1=>∃i:Nat,i<=l.length/\T 0=.list 4 (A0g l) o/\T 3=I i/\M1=M/\A8u l=((l.drop i).all (λw=>decide (w.text.size<=100))&&decide (l.length<=300))) ?_ ?_
 .exact⟨0,by omega,by simp,by simp,rfl,by simp[A8u]⟩
 .rintro T M1 ⟨i,i1,t0,t3,rfl,ho⟩;by_cases hi:i<l.length
  ·(have b:(i:Int)<l.length:=by omega);have w1:IntKind.i64.wrap ((i:Int)+1)=(i+1:Nat):=by rw[A0J (by omega) (by omega)];omega
   have hd:l.drop i=l[i]::l.drop (i+1):=Z0i hi;rw[hd,Z1D]at ho;by_cases h0:l[i].text.size<=100
   ·(have a:¬(100:Int)<l[i].text.size:=by omega);have c:¬(l[i].text.size:Int)>100:=a
    rw[Z0v h0,Z0A]at ho;simp -dsimp -implicitDefEqProofs[t0,t3,hi,b,a,c,w1,A0H.row];exact⟨⟨i+1,by clear w1;omega,rfl,ho⟩,by clear w1;omega⟩
   ·(have a:(100:Int)<l[i].text.size:=by omega);have c:(l[i].text.size:Int)>100:=a
    rw[Z0y h0,Z0B,Z0B]at ho;simp -dsimp -implicitDefEqProofs[t0,t3,hi,b,a,c,A0H.row,ho]
  ·(have b:¬(i:Int)<l.length:=by omega);rw[show l.drop i=[]from Z0o (by omega),Z3L,Z0A]at ho
   simp -dsimp -implicitDefEqProofs[t0,t3,b,ho];by_cases h3:l.length<=300
   ·(have d:(l.length:Int)<=300:=by omega);simp[h3,d]
   ·(have d:¬(l.length:Int)<=300:=by omega);simp[h3,d]
end
section
variable (gl:Nat->AV)
def C3s:∀(u:A0a) (M:Mem),u.good->A0c (WC gl) 101 [.agg u.row] M (λv M'=>v=B (B2D u)/\M'=M)
 |.mk id kind lab hd ws ks,M,hg=>by
  obtain⟨_,_,_,hh,_,hw,_,hk,g⟩:=(A0a.good_iff _).1 hg;have h:ks.length<=9223372036854775807:=hk;refine A0o hB func101 ?_;have a:B2D (.mk id kind lab hd ws ks)=(decide (lab.size<=30)&&A8u hd&&A8u ws&&B0M ks):=by rw[B2D]
  by_cases h1:lab.size<=30;case neg=>
   (have b:(30:Int)<lab.size:=by omega);have d:(lab.size:Int)>30:=b
   rw[Z0y h1]at a;simp only[Z0B]at a;simp -dsimp -implicitDefEqProofs[A0a.row,b,d,a]
  have b:¬(30:Int)<lab.size:=by omega
  have d:¬(lab.size:Int)>30:=b;rw[Z0v h1,Z0A]at a;simp -dsimp -implicitDefEqProofs[A0a.row,b,d];refine A0i func149 (C2O gl M hd .no hh) ?_;cases h2:A8u hd;case false=>rw[h2,Z0B,Z0B]at a;simp -dsimp -implicitDefEqProofs[a]
  rw[h2,Z0A]at a;simp -dsimp -implicitDefEqProofs;refine A0i func149 (C2O gl _ ws .no hw) ?_;cases h3:A8u ws;case false=>rw[h3,Z0B]at a;simp -dsimp -implicitDefEqProofs[a]
  rw[h3,Z0A]at a;simp -dsimp -implicitDefEqProofs;refine A0y hB ks.length 3 (λT M1=>∃i:Nat,i<=ks.length/\T 1=.cptr [I id.act,I id.item,I id.n,I kind,S lab,.list 4 (A0g hd) .no,.list 4 (A0g ws) .no,.list 8 (A0q ks) .no]/\T 3=I i/\M1=M/\B0M ks=B0M (ks.drop i)) ?_ ?_
  .exact⟨0,by omega,by simp,by simp,rfl,by simp⟩
  .rintro T M1 ⟨i,i1,t1,t3,rfl,ho⟩;by_cases hi:i<ks.length
   ·(have e:(i:Int)<ks.length:=by omega);have w1:IntKind.i64.wrap ((i:Int)+1)=(i+1:Nat):=by rw[A0J (by omega) (by omega)];omega
    have f:ks.drop i=ks[i]::ks.drop (i+1):=Z0i hi;have c:ks[i]∈ks:=Z0q hi;rw[f,B0M]at ho;simp -dsimp -implicitDefEqProofs[t1,t3,hi,e];have:=A0a.kid_lt (u:=.mk id kind lab hd ws ks) c;refine A0i func101 (C3s ks[i] M1 (g _ c)) ?_;cases h4:B2D ks[i]
    .rw[h4,Z0B]at ho;simp -dsimp -implicitDefEqProofs[t1,t3,a,ho]
    .rw[h4,Z0A]at ho;simp -dsimp -implicitDefEqProofs[t1,t3,w1];exact⟨⟨i+1,by clear w1;omega,rfl,ho⟩,by clear w1;omega⟩
   ·(have e:¬(i:Int)<ks.length:=by omega);rw[show ks.drop i=[]from Z0o (by omega),B0M]at ho
    simp -dsimp -implicitDefEqProofs[t1,t3,e,a,ho]
termination_by u=>SizeOf.sizeOf u
def C7y:∀(u:A0a) (b a:Int) (M:Mem),u.good->0<=b->b<=30->0<=a->a<=1000->A0c (WC gl) 100 [.agg u.row,I b,I a] M (λv M'=>v=I (B0i u b a)/\M'=M)
 |.mk id kind lab hd ws ks,b,a,M,hg,d0,d1,m0,m1=>by
  obtain⟨_,_,_,hh,_,hw,_,hk,h⟩:=(A0a.good_iff _).1 hg;have j:ks.length<=9223372036854775807:=hk;refine A0o hB func100 ?_;have c:B0i (.mk id kind lab hd ws ks) b a=if 20<b then a+1 else A8r ks b a 1:=by rw[B0i]
  by_cases h1:20<b
  .have f:b>20:=h1;have w1:IntKind.i64.wrap (a+1)=a+1:=A0J (by omega) (by omega);rw[Z0d h1]at c;simp -dsimp -implicitDefEqProofs[A0a.row,h1,f,w1,c]
  have f:¬b>20:=h1;rw[Z0c h1]at c;simp -dsimp -implicitDefEqProofs[A0a.row,h1,f];refine A0y hB ks.length 8 (λT M1=>∃i:Nat,i<=ks.length/\T 1=I b/\T 2=I a/\T 3=.cptr [I id.act,I id.item,I id.n,I kind,S lab,.list 4 (A0g hd) .no,.list 4 (A0g ws) .no,.list 8 (A0q ks) .no]/\T 8=I i/\M1=M/\∃n:Int,T 7=I n/\1<=n/\n<=a+1/\A8r ks b a 1=A8r (ks.drop i) b a n) ?_ ?_
  .exact⟨0,by omega,by simp,by simp,by simp,by simp,rfl,1,by simp,by omega,by omega,by simp⟩
  .rintro T M1 ⟨i,i1,t1,t2,t3,t8,rfl,n,t7,n1,n2,ho⟩;by_cases hi:i<ks.length
   ·(have d:(i:Int)<ks.length:=by omega);have w1:IntKind.i64.wrap ((i:Int)+1)=(i+1:Nat):=by rw[A0J (by omega) (by omega)];omega
    have g:ks.drop i=ks[i]::ks.drop (i+1):=Z0i hi;have e:ks[i]∈ks:=Z0q hi;rw[g,A8r]at ho;by_cases hn:n<=a
    .rw[Z0d hn]at ho;have w2:IntKind.i64.wrap (b+1)=b+1:=A0J (by omega) (by omega);have w3:IntKind.i64.wrap (a-n)=a-n:=A0J (by omega) (by omega);simp -dsimp -implicitDefEqProofs[t1,t2,t3,t7,t8,hi,d,hn,w2,w3];have:=A0a.kid_lt (u:=.mk id kind lab hd ws ks) e;refine A0i func100 (C7y ks[i] (b+1) (a-n) M1 (h _ e) (by omega) (by omega) (by omega) (by omega)) ?_;have hs:=C5R ks[i] (b+1) (a-n) (by omega);generalize B0i ks[i] (b+1) (a-n)=z at*;have w4:IntKind.i64.wrap (n+z)=n+z:=A0J (by omega) (by omega);simp -dsimp -implicitDefEqProofs[t1,t2,t3,t7,t8,w1,w4];exact⟨⟨i+1,by clear w1;omega,rfl,by omega,by omega,ho⟩,by clear w1;omega⟩
    .rw[Z0c hn]at ho;simp -dsimp -implicitDefEqProofs[t1,t2,t3,t7,t8,hi,d,hn,c,ho]
   ·(have d:¬(i:Int)<ks.length:=by omega);rw[show ks.drop i=[]from Z0o (by omega),A8r]at ho
    simp -dsimp -implicitDefEqProofs[t1,t2,t3,t7,t8,d,c,ho]
termination_by u=>SizeOf.sizeOf u
def D5G(u:A0a)(a:Int)(M:Mem)(hg:u.good)(m0:0<=a)(m1:a<=1000):A0c (WC gl) 46 [.agg u.row,I a] M (λv M'=>v=B (B7q u a)/\M'=M):=by
 refine A0o hB func46 ?_;simp -dsimp -implicitDefEqProofs;refine A0i func100 (C7y gl u 0 a M hg (by omega) (by omega) m0 m1) ?_;by_cases h1:B0i u 0 a<=a
 .simp -dsimp -implicitDefEqProofs[h1];refine A0i func101 (C3s gl u _ hg) ?_;simp -dsimp -implicitDefEqProofs[B7q,h1]
 .simp -dsimp -implicitDefEqProofs[h1,B7q]
end
open Go.Proofs Tryz
namespace TryTypes
@[simp] def E5k:A1h prog 235=some 237:=by kernel_rfl
@[simp] def E8l:A2k prog 237=some false:=by kernel_rfl
@[simp] def E8Z:A1t prog 237=some 1:=by kernel_rfl
@[simp] def E6S:A0F prog 237=some [.nilFunc]:=by kernel_rfl
@[simp] def E8x:A2k prog 240=some true:=by kernel_rfl
@[simp] def E9p:A1t prog 240=some 3:=by kernel_rfl
@[simp] def E2S:A1y prog 240 0=some 0:=by kernel_rfl
@[simp] def E3m:A0P prog 240 0=some (0,37):=by kernel_rfl
@[simp] def E3j:A1y prog 240 1=some 1:=by kernel_rfl
@[simp] def E4a:A0P prog 240 1=some (1,3):=by kernel_rfl
@[simp] def E3P:A1y prog 240 2=some 2:=by kernel_rfl
@[simp] def E7I:A2K prog 240=true:=by kernel_rfl
@[simp] def E6A:A0F prog 240=some [.slice none 0 0,.int .i64 0,.bool false]:=by kernel_rfl
end TryTypes
attribute [simp] underlying235 underlying237 underlying238 underlying240 underlying146
namespace TryTypes
@[simp] def E8w:A1h prog 44=some 90:=by kernel_rfl
@[simp] def E9u:A2k prog 46=some true:=by kernel_rfl
@[simp] def E9S:A1t prog 46=some 3:=by kernel_rfl
@[simp] def E5V:A1y prog 46 0=some 0:=by kernel_rfl
@[simp] def E5u:A0P prog 46 0=some (0,3):=by kernel_rfl
@[simp] def E5y:A1y prog 46 1=some 1:=by kernel_rfl
@[simp] def E5U:A0P prog 46 1=some (1,3):=by kernel_rfl
@[simp] def E6m:A1y prog 46 2=some 2:=by kernel_rfl
@[simp] def E9e:A2K prog 46=true:=by kernel_rfl
@[simp] def E7O:A0F prog 46=some [.int .i64 0,.int .i64 0,.string ⟨#[]⟩]:=by kernel_rfl
@[simp] def E9f:A2k prog 47=some false:=by kernel_rfl
@[simp] def E9K:A1t prog 47=some 1:=by kernel_rfl
@[simp] def D4V:A1h prog 47=some 128:=by kernel_rfl
def D9r:A4f prog 47:=.inl ⟨128,by kernel_rfl⟩
@[simp] def E9d:A2k prog 49=some true:=by kernel_rfl
@[simp] def E9I:A1t prog 49=some 7:=by kernel_rfl
@[simp] def E6T:A1y prog 49 0=some 0:=by kernel_rfl
@[simp] def E5G:A0P prog 49 0=some (0,3):=by kernel_rfl
@[simp] def E6e:A1y prog 49 1=some 1:=by kernel_rfl
@[simp] def E5R:A0P prog 49 1=some (1,9):=by kernel_rfl
@[simp] def E5x:A1y prog 49 2=some 2:=by kernel_rfl
@[simp] def E6R:A0P prog 49 2=some (2,3):=by kernel_rfl
@[simp] def E5L:A1y prog 49 3=some 3:=by kernel_rfl
@[simp] def E5i:A0P prog 49 3=some (3,46):=by kernel_rfl
@[simp] def E6Z:A1y prog 49 4=some 6:=by kernel_rfl
@[simp] def E9D:A2K prog 49=true:=by kernel_rfl
@[simp] def E7L:A0F prog 49=some [.int .i64 0,.string ⟨#[]⟩,.int .i64 0,.int .i64 0,.int .i64 0,.string ⟨#[]⟩,.slice none 0 0]:=by kernel_rfl
@[simp] def E0w:A1h prog 50=some 79:=by kernel_rfl
def E5e:A4f prog 50:=.inl ⟨79,by kernel_rfl⟩
@[simp] def E9q:A2k prog 79=some true:=by kernel_rfl
@[simp] def E9Q:A1t prog 79=some 6:=by kernel_rfl
@[simp] def E5B:A1y prog 79 0=some 0:=by kernel_rfl
@[simp] def E6F:A0P prog 79 0=some (0,23):=by kernel_rfl
@[simp] def E5Y:A1y prog 79 1=some 3:=by kernel_rfl
@[simp] def E6G:A0P prog 79 1=some (3,23):=by kernel_rfl
@[simp] def E8S:A2K prog 79=true:=by kernel_rfl
@[simp] def E7T:A0F prog 79=some [.int .i64 0,.int .i64 0,.int .i64 0,.int .i64 0,.int .i64 0,.int .i64 0]:=by kernel_rfl
def E3C:A3y prog 79 6 48:=⟨_,_,type79,rfl,rfl,rfl,rfl,by decide⟩
@[simp] def E9b:A2k prog 90=some true:=by kernel_rfl
@[simp] def E9V:A1t prog 90=some 5:=by kernel_rfl
@[simp] def E6N:A1y prog 90 0=some 0:=by kernel_rfl
@[simp] def E6J:A0P prog 90 0=some (0,23):=by kernel_rfl
@[simp] def E6g:A1y prog 90 1=some 3:=by kernel_rfl
@[simp] def E5Z:A1y prog 90 2=some 4:=by kernel_rfl
@[simp] def E6y:A0P prog 90 2=some (4,85):=by kernel_rfl
@[simp] def E9j:A2K prog 90=true:=by kernel_rfl
@[simp] def E8m:A0F prog 90=some [.int .i64 0,.int .i64 0,.int .i64 0,.int .i64 0,.slice none 0 0]:=by kernel_rfl
@[simp] def E8i:A2k prog 128=some true:=by kernel_rfl
@[simp] def E9s:A1t prog 128=some 25:=by kernel_rfl
@[simp] def E2V:A1y prog 128 0=some 0:=by kernel_rfl
@[simp] def E3M:A0P prog 128 0=some (0,3):=by kernel_rfl
@[simp] def E4w:A1y prog 128 1=some 1:=by kernel_rfl
@[simp] def E5d:A0P prog 128 1=some (1,40):=by kernel_rfl
@[simp] def E4D:A1y prog 128 2=some 2:=by kernel_rfl
@[simp] def E3J:A1y prog 128 3=some 3:=by kernel_rfl
@[simp] def E4W:A0P prog 128 3=some (3,3):=by kernel_rfl
@[simp] def E5b:A1y prog 128 4=some 4:=by kernel_rfl
@[simp] def E2K:A1y prog 128 5=some 5:=by kernel_rfl
@[simp] def E3K:A0P prog 128 5=some (5,27):=by kernel_rfl
@[simp] def E3S:A1y prog 128 6=some 13:=by kernel_rfl
@[simp] def E4v:A1y prog 128 7=some 14:=by kernel_rfl
@[simp] def E4A:A1y prog 128 8=some 15:=by kernel_rfl
@[simp] def E3d:A1y prog 128 9=some 16:=by kernel_rfl
@[simp] def E2r:A1y prog 128 10=some 17:=by kernel_rfl
@[simp] def E2G:A1y prog 128 11=some 20:=by kernel_rfl
@[simp] def E2k:A1y prog 128 12=some 21:=by kernel_rfl
@[simp] def E2n:A1y prog 128 13=some 22:=by kernel_rfl
@[simp] def E2w:A1y prog 128 14=some 23:=by kernel_rfl
@[simp] def E1U:A1y prog 128 15=some 24:=by kernel_rfl
@[simp] def E7i:A2K prog 128=true:=by kernel_rfl
@[simp] def E6f:A0F prog 128=some [.int .i64 0,.slice none 0 0,.slice none 0 0,.int .i64 0,.int .i64 0,.int .i64 0,.int .i64 0,.int .i64 0,.int .i64 0,.string ⟨#[]⟩,.slice none 0 0,.slice none 0 0,.slice none 0 0,.slice none 0 0,.slice none 0 0,.string ⟨#[]⟩,.string ⟨#[]⟩,.int .i64 0,.int .i64 0,.string ⟨#[]⟩,.int .i64 0,.int .i64 0,.int .i64 0,.string ⟨#[]⟩,.slice none 0 0]:=by kernel_rfl
def D4N:A3y prog 128 25 368:=⟨_,_,type128,rfl,rfl,rfl,rfl,by decide⟩
end TryTypes
attribute [simp] underlying44 underlying46 underlying47 underlying49 underlying50 underlying79 underlying90 underlying128 underlying129
namespace TryTypes
@[simp] def D8C:A1h prog 141=some 143:=by kernel_rfl
def E1d:A4f prog 141:=.inl ⟨143,by kernel_rfl⟩
@[simp] def E0g:A2k prog 143=some true:=by kernel_rfl
@[simp] def E3a:A1t prog 143=some 28:=by kernel_rfl
@[simp] def E3F:A1y prog 143 0=some 0:=by kernel_rfl
@[simp] def E3k:A0P prog 143 0=some (0,3):=by kernel_rfl
@[simp] def E3G:A1y prog 143 1=some 1:=by kernel_rfl
@[simp] def E2N:A0P prog 143 1=some (1,3):=by kernel_rfl
@[simp] def E3e:A0P prog 143 2=some (2,3):=by kernel_rfl
@[simp] def E3Z:A1y prog 143 3=some 3:=by kernel_rfl
@[simp] def E3b:A0P prog 143 3=some (3,128):=by kernel_rfl
@[simp] def E8A:A2K prog 143=true:=by kernel_rfl
@[simp] def E5I:A0F prog 143=some [.int .i64 0,.int .i64 0,.int .i64 0,.int .i64 0,.slice none 0 0,.slice none 0 0,.int .i64 0,.int .i64 0,.int .i64 0,.int .i64 0,.int .i64 0,.int .i64 0,.string ⟨#[]⟩,.slice none 0 0,.slice none 0 0,.slice none 0 0,.slice none 0 0,.slice none 0 0,.string ⟨#[]⟩,.string ⟨#[]⟩,.int .i64 0,.int .i64 0,.string ⟨#[]⟩,.int .i64 0,.int .i64 0,.int .i64 0,.string ⟨#[]⟩,.slice none 0 0]:=by kernel_rfl
def E0t:A3y prog 143 28 392:=⟨_,_,type143,rfl,rfl,rfl,rfl,by decide⟩
@[simp] def E7e:A2k prog 148=some false:=by kernel_rfl
@[simp] def E9k:A1t prog 148=some 1:=by kernel_rfl
@[simp] def E8o:A2k prog 192=some false:=by kernel_rfl
@[simp] def E9l:A1t prog 192=some 1:=by kernel_rfl
@[simp] def E8D:A2k prog 260=some true:=by kernel_rfl
@[simp] def E9n:A1t prog 260=some 2:=by kernel_rfl
@[simp] def E3W:A1y prog 260 0=some 0:=by kernel_rfl
@[simp] def E4m:A0P prog 260 0=some (0,192):=by kernel_rfl
@[simp] def E2X:A1y prog 260 1=some 1:=by kernel_rfl
@[simp] def E3A:A0P prog 260 1=some (1,148):=by kernel_rfl
@[simp] def E7R:A2K prog 260=true:=by kernel_rfl
@[simp] def E5w:A0F prog 260=some [.nilFunc,.nilFunc]:=by kernel_rfl
@[simp] def E7p:A2k prog 335=some true:=by kernel_rfl
@[simp] def E9g:A1t prog 335=some 4:=by kernel_rfl
@[simp] def E2M:A1y prog 335 0=some 0:=by kernel_rfl
@[simp] def E4s:A0P prog 335 0=some (0,23):=by kernel_rfl
@[simp] def E2L:A1y prog 335 1=some 3:=by kernel_rfl
@[simp] def E4M:A0P prog 335 1=some (3,3):=by kernel_rfl
@[simp] def E8v:A2K prog 335=true:=by kernel_rfl
@[simp] def E5H:A0F prog 335=some [.int .i64 0,.int .i64 0,.int .i64 0,.int .i64 0]:=by kernel_rfl
@[simp] def E9E:A1t prog 339=some 4:=by kernel_rfl
@[simp] def E3n:A1y prog 339 0=some 0:=by kernel_rfl
@[simp] def E2U:A0P prog 339 0=some (0,3):=by kernel_rfl
@[simp] def E4F:A1y prog 339 1=some 1:=by kernel_rfl
@[simp] def E4O:A0P prog 339 1=some (1,3):=by kernel_rfl
@[simp] def E4H:A1y prog 339 2=some 2:=by kernel_rfl
@[simp] def E4y:A1y prog 339 3=some 3:=by kernel_rfl
@[simp] def E7m:A2K prog 339=true:=by kernel_rfl
@[simp] def E6n:A0F prog 339=some [.int .i64 0,.int .i64 0,.int .i64 0,.int .i64 0]:=by kernel_rfl
@[simp] def E8d:A2k prog 366=some true:=by kernel_rfl
@[simp] def E9h:A1t prog 366=some 4:=by kernel_rfl
@[simp] def E6O:A0F prog 366=some [.nilFunc,.nilFunc,.nilFunc,.nilFunc]:=by kernel_rfl
end TryTypes
attribute [simp] underlying58 underlying75 underlying126 underlying139 underlying141 underlying143 underlying148 underlying189 underlying192 underlying204 underlying227 underlying260 underlying262 underlying301 underlying303 underlying335 underlying339 underlying357 underlying366 underlying368 underlying371
end Go.Abs
