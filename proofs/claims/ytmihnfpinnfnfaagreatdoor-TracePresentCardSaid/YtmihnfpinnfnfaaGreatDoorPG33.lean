/- The texts CbS, CbN, CbO, CbP, CbX0, CeP, CeQ, CfA, CfB, CeT, CeV, CeX, CeY, CgA, CgB, CfU. -/
import Derived.Test.YtmihnfpinnfnfaaGreatDoorPG28
import Derived.Test.YtmihnfpinnfnfaaGreatDoorPG19
import Derived.Test.YtmihnfpinnfnfaaGreatDoorPG29
import Derived.Test.YtmihnfpinnfnfaaGreatDoorPG26
import Derived.Test.YtmihnfpinnfnfaaGreatDoorPG25
set_option linter.all false
set_option maxRecDepth 100000
namespace Go.Abs
open Go.Proofs TryTypes Tryz
def B2d{C:Ctx}{G:A0p}{M:Mem}{w:World}(hi:Inv C G M w):∀(l:List ByteArray) (b off:Nat),A0C G 1 (A0J l) b off->∀(j:Nat) x,l[j]?=some x->w.cell? ⟨b,off+j,none⟩=some (.string x)
 |[],_,_,_,j,x,hx=>by simp at hx
 |s::l,b,off,h,j,x,hx=>by
  simp only[A0J,Z0w,A0C,A0Q]at h;obtain⟨⟨_,⟨v,hv,_,hr⟩,_⟩,h2⟩:=h;cases j with
  |zero=>simp at hx;subst hx;simp only[Rep]at hr;subst hr;exact hi.st _ _ _ hv
  |succ j=>have:=B2d hi l b (off+1) h2 j x (by simpa using hx);rw[show off+(j+1)=off+1+j by omega];exact this
def B2M(l:List UInt8):ByteArray:=⟨l.toArray⟩
def B4X(l:List ByteArray)(sep:ByteArray):ByteArray:=B2M (Lib.join (l.map (·.data.toList)) sep.data.toList)
section
variable (gl:Nat->AV) (M:Mem)
def C7s(l:List ByteArray)(o:Own)(d:ByteArray)(hN:l.length<=140737488355328)(g:(Lib.join (l.map (·.data.toList)) d.data.toList).length<=140737488355328):A0c (WC gl) 68 [.list 1 (A0J l) o,S d] M (λv M'=>v=S (B4X l d)/\M'=M):=by
 refine A5w λG w vs hi hr=>?_
 simp only[A0s]at hr
 obtain⟨y,_,rfl,hy,z,_,rfl,hz,rfl⟩:=hr
 simp only[Rep]at hy hz
 obtain⟨base,cap,rfl,hc,hm,hb,ho⟩:=hy
 subst hz
 rw[B4C]at hc
 have c:∀a,l=[]->Calls prog 68 #[.slice a l.length cap,.string d] w λe w'=>e=.returned (.string (B4X l d))/\RowKit.Below w.heap.size w w':=by rintro a rfl;exact Z1B (strings_Join_none a cap d w) λe w' ⟨he,hw⟩=>⟨he,hw▸RowKit.Below.refl _ _⟩
 show Calls prog 68 #[.slice base (A0J l).length cap,.string d] w _
 rw[B4C]
 cases base with
 |none=>
  have:l=[]:=by simpa[A0J]using hb.1
  exact c _ this
 |some a=>
  by_cases hl:l=[]
  .exact c _ hl
  .have hs:=hb.1 (by simpa[A0J]using hl);obtain⟨b,off,j⟩:=a;subst hs;have f:=B2d hi l b off hb.2;have i:b<w.heap.size:=by
    cases l with
    |nil=>exact absurd rfl hl
    |cons s l=>exact Z2A w ⟨b,off+0,none⟩ (f 0 s rfl)
   exact strings_Join b off cap l d w f i hN hc g
def C8X(s:ByteArray)(c:Nat)(hc:c<=9223372036854775807)(a:s.size*c<=140737488355328):A0c (WC gl) 302 [S s,I c] M (λv M'=>v=S (B2M (Lib.repeatL s.data.toList c))/\M'=M):=by
 refine A5w λG w vs hi hr=>?_
 simp only[A0s]at hr
 obtain⟨y,_,rfl,hy,z,_,rfl,hz,rfl⟩:=hr
 simp only[Rep]at hy hz
 subst hy
 subst hz
 exact strings_Repeat s c w hc a
end
def C2c:∀d:Fin 9,B2M (Lib.repeatL [32,32] d.val)=B3P d.val:=by decide
def B5g:∀r:List ByteArray,A6L r=r.length+Lib.lens (r.map (·.data.toList))
 |[]=>rfl
 |a::r=>by rw[B0Q,B5g r];simp only[Lib.lens,Z0w,List.sum_cons,Z0q];have:a.data.toList.length=a.size:=rfl;omega
def D1Z(b:List UInt8)(hs:b.length=1):∀l:List ByteArray,l≠[]->(Lib.join (l.map (·.data.toList)) b).length+1=A6L l
 |[],h=>absurd rfl h
 |a::r,_=>by rw[Z0w,Lib.join_cons,Z0k,Lib.joinTail_length,hs,B0Q,B5g,Z0N];have:a.data.toList.length=a.size:=rfl;omega
section
def A0a.lims_noKids{u:A0a}(h:u.lims):(A7k u).lims:=by obtain⟨a,b,c,d,e,f⟩:=u;rw[A0a.lims]at h;rw[A7k,A0a.lims];exact⟨⟨h.1.1,h.1.2.1,by simp[A0a.kids],h.1.2.2.2⟩,by rw[A4U];trivial⟩
def A9K{u:A0a}(h:Fit u):Fit (A7k u):=by
 obtain⟨h1,h2,h3⟩:=h;refine⟨?_,A0a.lims_noKids h2,?_⟩
 .obtain⟨a,b,c,d,e,f⟩:=u;obtain⟨g1,g2,g3,g4,g5,g6,g7,g8,g9⟩:=(A0a.good_iff _).1 h1;exact(A0a.good_iff _).2 ⟨by simp[A7k,A0a.id,IdD.good,idZ,inI],g2,g3,g4,g5,g6,g7,by simp[A7k,A0a.kids],by simp[A7k,A0a.kids]⟩
 .obtain⟨a,b,c,d,e,f⟩:=u;rw[A7k,A0x,A0H];omega
mutual
def B8v:∀u:A0a,u.lims->(A2m u).lims
 |.mk id k l h w ks,hl=>by rw[A0a.lims]at hl;rw[A2m,A0a.lims];refine⟨?_,B5h ks hl.2⟩;show(h.map A2C).length<=_/\(w.map A2C).length<=_/\(A3t ks).length<=_/\l.size<=_;rw[Z0N,Z0N,A7T,Z0N];exact hl.1
def B5h:∀ks:List A0a,A4U ks->A4U (A3t ks)
 |[],_=>by rw[A3t,A4U];trivial
 |k::ks,hl=>by rw[A4U]at hl;rw[A3t,A4U];exact⟨B8v k hl.1,B5h ks hl.2⟩
end
def C0q{u:A0a}(h:Fit u):Fit (A2m u):=⟨B9g u h.1,B8v u h.2.1,by rw[B0D];exact h.2.2⟩
def hMy:A2j:=⟨λd=>d !=2,λ_=>false,λ_=>false⟩
@[simp] def E1L:hMy.imm=λd=>d !=2:=(rfl)
section
variable (gl:Nat->AV)
def D7t(p:gl 2=A1C)(c:gl 8=A1U)(u:A0a)(d:Nat)(M:Mem)(hf:Fit u)(ha:A2J u=true)(hd:d<=8):A0c (WC gl) 301 [.agg u.row,I d] M (λv M'=>v=B true/\M'=M):=by
 have hS:=λM=>B7T gl (A7k u) A0B M (.inr ⟨by cases u;rfl,rfl⟩) (A9K hf).1 (A9K hf).2.1 (A9K hf).2.2
 have hV:=λM=>B8m gl p c (A2m (A7k u)) M (C0q (A9K hf))
 rw[B8W (B2L _),B5G,C7W ha]at hV
 refine A0c.dataX ?_
 refine A1c hMy func301 rfl rfl rfl rfl rfl rfl ?_
 have o:A3m (A7k u) A0B=[I 0,I 0,I 0,I u.kind,S u.label,.list 4 (A0i u.head) .no,.list 4 (A0i u.words) .no,A0B]:=by cases u;rfl
 rw[o]at hS
 have h1:(0:Int)<=d:=Q0
 have h2:(d:Int)<=8:=Q0
 obtain⟨b,hb⟩:=ex (M.length)
 have l:u.row=[I u.id.act,I u.id.item,I u.id.n,I u.kind,S u.label,.list 4 (A0i u.head) .no,.list 4 (A0i u.words) .no,.list 8 (A0q u.kids) .no]:=u.row_eq
 obtain⟨M1,f⟩:=ex (M++[A0l.cells 30 u.row])
 have c:Grow M M1:=by rw[f];exact A0d.app none _ _
 have hX:M1[b]?=some (A0l.cells 30 u.row):=by rw[f,hb];simp
 have i:b<M1.length:=(Z0a.1 hX).1
 obtain⟨N2,g⟩:=ex (M1.set b (.cells 30 [I 0,I 0,I 0,I u.kind,S u.label,.list 4 (A0i u.head) .no,.list 4 (A0i u.words) .no,.list 8 (A0q u.kids) .no]))
 have m:N2[b]?=some (.cells 30 [I 0,I 0,I 0,I u.kind,S u.label,.list 4 (A0i u.head) .no,.list 4 (A0i u.words) .no,.list 8 (A0q u.kids) .no]):=by rw[g];simp[i]
 obtain⟨M2,a⟩:=ex (M1.set b (.cells 30 [I 0,I 0,I 0,I u.kind,S u.label,.list 4 (A0i u.head) .no,.list 4 (A0i u.words) .no,A0B]))
 have k:N2.set b (.cells 30 [I 0,I 0,I 0,I u.kind,S u.label,.list 4 (A0i u.head) .no,.list 4 (A0i u.words) .no,A0B])=M2:=by rw[g,a,Z2h]
 have e:M2[b]?=some (.cells 30 [I 0,I 0,I 0,I u.kind,S u.label,.list 4 (A0i u.head) .no,.list 4 (A0i u.words) .no,A0B]):=by rw[a];simp[i]
 have q:Grow M M2:=⟨by rw[a];simpa using c.1,λj hj _=>by rw[a,Z0f Q0];exact c.2 j hj Q1⟩
 rw[l]at hX
 simp -dsimp[A0j]
 rw[<-f,<-hb]
 simp -dsimp[A5X,A0f hX]
 rw[<-g]
 simp -dsimp[A0f m,k,h1,h2,A0b e]
 refine A0v (A0m func289 rfl rfl (hS M2)) ?_
 rintro _ _ ⟨rfl,rfl⟩
 simp -dsimp[h1,h2,A0b e]
 refine A0v (A0m func263 rfl rfl (hV _)) ?_
 rintro _ _ ⟨rfl,rfl⟩
 simp -dsimp[h1,h2,A0b e]
 exact⟨q,.same trivial .nil⟩
def D7f(s:ByteArray)(ws:List A0z)(M:Mem)(hs:s.size<=1000000)(hl:ws.length<=1000000)(hw:∀w∈ws,1<=w.text.size/\w.text.size<=24):A0c (WC gl) 304 [S s,.list 4 (A0i ws) .no] M (λv M'=>v=S (B0z s ws)/\M'=M):=by
 refine A0c.dataX ?_
 refine A1c hB func304 rfl rfl rfl rfl rfl rfl ?_
 simp -dsimp
 refine A0K hB (λT M1=>∃i:Nat,i<=ws.length/\T 0=S (B0z s (ws.take i))/\T 7=.list 4 (A0i ws) .no/\T 8=I ws.length/\T 9=I i/\Grow M M1) (λT M1=>match T 9 with|.val (.int _ i)=>ws.length-i.toNat|_=>0) Q2 ?_ ?_
 .refine⟨0,Q0,by simp[B0z],Q1,Q1,Q1,A0d.refl _ _⟩
 rintro T M1 ⟨i,i1,t0,t7,t8,t9,hg⟩
 by_cases hi:i<ws.length
 case neg=>have a:¬(i:Int)<ws.length:=Q0;rw[Z0e Q0]at t0;simp -dsimp[t0,t7,t8,t9,a,hg];exact .same trivial .nil
 have a:(i:Int)<ws.length:=Q0
 have w1:=A1Y (i:=i) Q0
 have h1:=hw _ (Z0u hi)
 have hp:B0z s (ws.take (i+1))=B0z s (ws.take i)++⟨#[32]⟩++B6b ws[i].text:=by rw[Z1p hi,B0z,Z1S];rfl
 obtain⟨p,e⟩:=ex (B0z s (ws.take i))
 obtain⟨h1,h2⟩:=h1
 have f:p.size<=27000000:=by have:=A9h (ws.take i) s λw h=>(hw w (Z1m h)).2;rw[<-e]at this;simp at this;omega
 have d:(⟨#[32]⟩:ByteArray).size=1:=rfl
 have c:(⟨#[92]⟩:ByteArray).size=1:=rfl
 have b1:¬(9223372036854775807:Int)<p.size+1:=Q0
 have b2:¬(9223372036854775807:Int)<p.size+1+1:=Q0
 have b3:¬(9223372036854775807:Int)<p.size+1+ws[i].text.size:=Q0
 have b4:¬(9223372036854775807:Int)<p.size+1+1+ws[i].text.size:=Q0
 have b5:0<ws[i].text.size:=h1
 obtain⟨t,ht⟩:=ex (ws[i].text)
 rw[<-e]at t0 hp
 have b:Grow M (M1++[A0l.cells 233 ws[i].row]):=hg.trans (A0d.app none _ _)
 have hX:(M1++[A0l.cells 233 [S ws[i].text,I ws[i].act,I ws[i].item,I ws[i].at_]])[M1.length]?=some (.cells 233 [S ws[i].text,I ws[i].act,I ws[i].item,I ws[i].at_]):=by simp
 have b:Grow M (M1++[A0l.cells 233 [S ws[i].text,I ws[i].act,I ws[i].item,I ws[i].at_]]):=b
 by_cases c1:A2l ws[i].text 0=124
 .have he:B6b ws[i].text=⟨#[92]⟩++ws[i].text:=by rw[B6b,Z0c (.inl c1)]
  rw[he]at hp;simp -dsimp[t0,t7,t8,t9,a,hi,A0j,A0k,A0e,AV.storable,AV.cells,A0z.row,d,c,Z0K,b1,b2,b3,b4,b5,c1,w1,A0b hX];refine⟨⟨i+1,Q3,?_,rfl,b⟩,Q3⟩;rw[hp];simp only[C2F]
 by_cases c2:A2l ws[i].text 0=92
 .have he:B6b ws[i].text=⟨#[92]⟩++ws[i].text:=by rw[B6b,Z0c (.inr c2)]
  rw[he]at hp;simp -dsimp[t0,t7,t8,t9,a,hi,A0j,A0k,A0e,AV.storable,AV.cells,A0z.row,d,c,Z0K,b1,b2,b3,b4,b5,c1,c2,w1,A0b hX];refine⟨⟨i+1,Q3,?_,rfl,b⟩,Q3⟩;rw[hp];simp only[C2F]
 have he:B6b ws[i].text=ws[i].text:=by rw[B6b,Z0d (by simp[c1,c2])]
 rw[he]at hp
 simp -dsimp[t0,t7,t8,t9,a,hi,A0j,A0k,A0e,AV.storable,AV.cells,A0z.row,d,c,Z0K,b1,b2,b3,b4,b5,c1,c2,w1,A0b hX]
 exact⟨⟨i+1,Q3,by rw[hp],rfl,b⟩,Q3⟩
def A5t{l:List A0z}(h:A3a l=true):l.length<=256/\∀w∈l,1<=w.text.size/\w.text.size<=24:=by simp only[A3a,Z0h,Z0m,Z0D]at h;refine⟨h.1,λw hw=>?_⟩;have:=h.2 w hw;simp only[A2B,Z0h,Z0m]at this;exact this.1
def A4Q{u:A0a}(h:A2J u=true):(0<=u.kind/\u.kind<=7)/\A3a u.head=true/\A3a u.words=true:=by unfold A2J at h;simp only[Z0h,Z0m]at h;exact⟨h.1.1.1.1,h.1.1.2,h.1.2⟩
def C3k{k:Int}(h:0<=k/\k<=7):A4m k=A8X.getD k.toNat ⟨#[]⟩:=by
 have key:∀n:Fin 8,A8L.getD n.val .empty=A8X.getD n.val ⟨#[]⟩:=by decide
 have:=key ⟨k.toNat,Q0⟩;rw[A4m,Z0c Q0,this]
def D4t(t:gl 2=A1C)(l:gl 8=A1U)(u:A0a)(d:Nat)(M:Mem)(hf:Fit u)(ha:A2J u=true)(hd:d<=8):A0c (WC gl) 291 [.agg u.row,I d] M (λv M'=>v=S (A6p u d)/\M'=M):=by
 obtain⟨hk,hh,hw⟩:=A4Q ha
 obtain⟨r,k⟩:=A5t hh
 obtain⟨o,j⟩:=A5t hw
 have x:=((A3T u hf.2.1).1).2.2.2
 have c:(⟨#[32]⟩:ByteArray).size=1:=rfl
 have a:(⟨#[58]⟩:ByteArray).size=1:=rfl
 have e3:(⟨#[32,124]⟩:ByteArray).size=2:=rfl
 have f:=λM=>C8X gl M ⟨#[32,32]⟩ d Q0 (by show 2*d<=_;omega)
 have hdr:B2M (Lib.repeatL (⟨#[32,32]⟩:ByteArray).data.toList d)=B3P d:=C2c ⟨d,Q0⟩
 rw[hdr]at f
 have z:=B2E d
 have hn:=C3k hk
 have key:∀n:Fin 8,(A8X.getD n.val ⟨#[]⟩).size<=9:=by decide
 have m:=key ⟨u.kind.toNat,Q0⟩
 have g:B2b u d=B3P d++A8X.getD u.kind.toNat ⟨#[]⟩:=rfl
 simp only at m
 rw[<-hn]at g m
 have b1:¬(9223372036854775807:Int)<(B3P d).size+(A4m u.kind).size:=Q0
 have a0:(B2b u d).size<=2*d+9:=by rw[g,Z0K];omega
 have a1:(A8l u d).size<=2*d+1010:=by
  unfold A8l;split
  .omega
  .rw[Z0K,Z0K,c];omega
 have y:(A6T u d).size<=2*d+7700:=by
  unfold A6T;split
  .omega
  .have:=A9h u.head (A8l u d++⟨#[58]⟩) (λw h=>(k w h).2);rw[Z0K,a]at this;omega
 have b2:¬(9223372036854775807:Int)<1+u.label.size:=Q0
 have b3:¬(9223372036854775807:Int)<(B2b u d).size+(1+u.label.size):=Q0
 have b4:¬(9223372036854775807:Int)<(A8l u d).size+1:=Q0
 have b5:¬(9223372036854775807:Int)<(A6T u d).size+2:=Q0
 refine A1c hB func291 rfl rfl rfl rfl rfl rfl ?_
 simp -dsimp[u.row_eq]
 refine A0v (A0m func301 rfl rfl (u.row_eq▸D7t gl t l u d M hf ha hd)) ?_
 rintro _ M ⟨rfl,rfl⟩
 simp -dsimp
 refine A0Z hB (A0E gl) (λ_=>0) (λ_=>0) (by rfl) Q2 ?_
 simp -dsimp
 refine A1J (λM=>A0m func302 rfl rfl (f M)) ?_
 simp -dsimp
 refine A1J (λM=>A0m func303 rfl rfl (B0C gl M l _)) ?_
 have q1:B3P d++A4m u.kind=B2b u d:=g.symm
 have b:∀ws:List A0z,ws.length<=256->(∀w∈ws,1<=w.text.size/\w.text.size<=24)->∀s,s.size<=1000000->∀M,A0c (WC gl) 304 [S s,.list 4 (A0i ws) .no] M (λv M'=>v=S (B0z s ws)/\M'=M):=λws h1 h2 s h3 M=>D7f gl s ws M h3 Q0 h2
 by_cases k0:u.kind=0
 .have e:=ha;unfold A2J at e;simp only[k0,Z1f,Z0h,Z0m]at e;have z1:u.head.length=0:=e.2.1.2;have z2:u.words.length=0:=e.2.2;have q:A6p u d=B2b u d:=by rw[A6p,Z0c z2,A6T,Z0c z1,A8l,Z0c k0]
  rw[k0]at b1 q1|-;simp -dsimp[b1,k0,q1,z1,z2,q]
 have q2:B2b u d++(⟨#[32]⟩++u.label)=A8l u d:=by rw[A8l,Z0d k0]
 by_cases z1:u.head.length=0
 .have q3:A8l u d=A6T u d:=by rw[A6T,Z0c z1]
  by_cases z2:u.words.length=0
  ·(have q4:A6T u d=A6p u d:=by rw[A6p,Z0c z2]);simp -dsimp[b1,k0,q1,q2,z1,z2,c,a,e3,Z0K,b2,b3,q3,q4]
  .have i:0<u.words.length:=Q0;(have q4:A6p u d=B0z (A6T u d++⟨#[32,124]⟩) u.words:=by rw[A6p,Z0d z2]);simp -dsimp[b1,k0,q1,q2,z1,i,c,a,e3,Z0K,b2,b3,b5,q3];refine A0v (A0m func304 rfl rfl (b u.words o j _ (by rw[Z0K,e3];omega) M)) ?_;rintro _ M ⟨rfl,rfl⟩;simp -dsimp[q4]
 have p:0<u.head.length:=Q0
 have q3:A6T u d=B0z (A8l u d++⟨#[58]⟩) u.head:=by rw[A6T,Z0d z1]
 simp -dsimp[b1,k0,q1,q2,p,c,a,e3,Z0K,b2,b3,b4]
 refine A0v (A0m func304 rfl rfl (b u.head r k _ (by rw[Z0K,a];omega) M)) ?_
 rintro _ M ⟨rfl,rfl⟩
 rw[<-q3]
 by_cases z2:u.words.length=0
 .have q4:A6T u d=A6p u d:=by rw[A6p,Z0c z2]
  simp -dsimp[z2,q4]
 .have i:0<u.words.length:=Q0;have q4:A6p u d=B0z (A6T u d++⟨#[32,124]⟩) u.words:=by rw[A6p,Z0d z2]
  simp -dsimp[i,e3,b5];refine A0v (A0m func304 rfl rfl (b u.words o j _ (by rw[Z0K,e3];omega) M)) ?_;rintro _ M ⟨rfl,rfl⟩;simp -dsimp[q4]
end
end
section
structure B5p (n:Nat) (M0 M:Mem) (xs:List ByteArray):Prop where
 low:A4x n M0 M
 len:n+2<=M.length
 fn:M[n+1]?=some (.cells 324 [.func (.func 290) [] [.ptr n 0,.ptr (n+1) 0]])
 arr:∃v,M[n]?=some (.cells 67 [v])/\A1p 9 1 A7P M v xs/\A1K (n+2) v
def B5p.app{n:Nat}{M0 M:Mem}{xs:List ByteArray}(h:B5p n M0 M xs)(X:Mem):B5p n M0 (M++X) xs:=by
 obtain⟨h1,h2,h3,v,h4,h5,h6⟩:=h;have hl:∀j Y,M[j]?=some Y->(M++X)[j]?=some Y:=λj Y h=>by rw[Z0n (Z0a.1 h).1];exact h
 refine⟨⟨by simp;have:=h1.1;omega,λj hj=>?_⟩,by simp;omega,hl _ _ h3,v,hl _ _ h4,h5.keep (A0d.app none M X) Q1,h6⟩;rw[Z0n Q0];exact h1.2 j hj
mutual
def B3z:∀(d:Nat) (u:A0a),(A5E d u).length=A0x u
 |d,.mk _ _ _ _ _ ks=>by rw[A5E,A0x,Z0q,A9X (d+1) ks];omega
def A9X:∀(d:Nat) (ks:List A0a),(A5I d ks).length=A0H ks
 |d,[]=>by rw[A5I,A0H];rfl
 |d,k::ks=>by rw[A5I,A0H,Z0k,B3z d k,A9X d ks]
end
def C4N{d:Nat}{ks:List A0a}{i:Nat}(h:i<ks.length):A5I d (ks.take (i+1))=A5I d (ks.take i)++A5E d ks[i]:=by
 induction ks generalizing i with
 |nil=>simp at h
 |cons k ks ih=>
  cases i with
  |zero=>simp[A5I]
  |succ i=>simp only[Z1j,A5I,Z1M];rw[ih (by simpa using h),Z0F]
def A4L{u:A0a}(h:A1o u=true):A2J u=true:=by obtain⟨a,b,c,d,e,f⟩:=u;rw[A1o,Z0h]at h;exact h.1
def B7W{p:Int}:∀{ks b:List A0a},A4g p ks b=true->∀k∈ks,A1o k=true
 |[],_,_,k,hk=>by simp at hk
 |a::ks,b,h,k,hk=>by
  rw[A4g]at h;simp only[Z0h]at h;rcases Z0r.1 hk with rfl|hk
  .exact h.1.1.2
  .exact B7W h.2 k hk
def B1q{u:A0a}(h:A1o u=true):∀k∈u.kids,A1o k=true:=by obtain⟨a,b,c,d,e,f⟩:=u;rw[A1o,Z0h]at h;exact B7W h.2
def B2Y:∀{ks:List A0a},∀k∈ks,1+A1i k<=A1L ks
 |[],k,hk=>by simp at hk
 |a::ks,k,hk=>by
  rw[A1L];rcases Z0r.1 hk with rfl|hk
  .omega
  .have:=B2Y k hk;omega
def C9x{u:A0a}:∀k∈u.kids,1+A1i k<=A1i u:=by obtain⟨a,b,c,d,e,f⟩:=u;intro k hk;rw[A1i];exact B2Y k hk
def B5v{ks:List A0a}{i:Nat}(h:i<ks.length):A0H (ks.take i)+A0x ks[i]<=A0H ks:=by
 induction ks generalizing i with
 |nil=>simp at h
 |cons k ks ih=>
  cases i with
  |zero=>simp[A0H]
  |succ i=>have:=ih (i:=i) (by simpa using h);simp only[Z1j,A0H,Z1M];omega
def hLn:A2j:=⟨λ_=>true,λ_=>false,λd=>d==13⟩
@[simp] def E2G:hLn.imm=λ_=>true:=(rfl)
@[simp] def E3E:hLn.own=λ_=>false:=(rfl)
@[simp] def E3p:hLn.vec=λd=>d==13:=(rfl)
section
variable (gl:Nat->AV)
set_option maxHeartbeats 1000000 in
def C0j(a5:gl 2=A1C)(a3:gl 8=A1U):∀(N:Nat) (U:A0a) (d n:Nat) (M0 M:Mem) (xs:List ByteArray),A0x U<=N->Fit U->A1o U=true->d+A1i U<=8->B5p n M0 M xs->xs.length+A0x U<=3000->
 A0c (WC gl) 290 [.agg U.row,I d,.ptr n 0,.ptr (n+1) 0] M (λv M'=>B5p n M0 M' (xs++A5E d U))
 |0,U,d,n,M0,M,xs,hN,hf,hr,hdep,ho,hc=>by have:=A7R U;omega
 |N+1,U,d,n,M0,M,xs,hN,hf,hr,hdep,ho,hc=>by
  obtain⟨ks,g⟩:∃ks,U.kids=ks:=⟨_,rfl⟩;have ha:=A4L hr;have a:=λM=>D4t gl a5 a3 U d M hf ha Q0;refine A1c hLn func290 rfl rfl rfl rfl rfl rfl ?_;obtain⟨v0,c,a1,l⟩:=ho.arr;have a8:n<M.length:=(Z0a.1 c).1;rw[U.row_eq]at a;simp -dsimp[U.row_eq];refine A6S hLn (A0E gl) (λk=>if k=0 then 1 else if k=5\/k=6 then 2 else 0) (λ_=>n) (λ_ k=>k==6) (λk=>if k=6 then[]else[n]) (by intro i k _ h;have:k≠6:=(by simpa using h);simp[this]) (by rfl) Q2 ?_;simp -dsimp[A0b c,A1g,A5S];refine A1J (λM=>A0m func291 rfl rfl (a M)) ?_;simp -dsimp[A0w,A1e,AV.storable,AV.cells];have a9:=A5M U;rw[g]at a9;refine A3u (C:=WC gl) (enc:=A7P) (e:=9) (sz:=1) (news:=[A6p U d]) B8V C3D D1O (λ_=>rfl) a1 (by simp[A0D]) (by simp;omega) rfl ?_;intro v1 M2 p1 p2 p3 _;have s:M2[n]?=some (.cells 67 [v0]):=p2.get c (λe=>by have:=l n e;omega);have a6:M2[n+1]?=some (.cells 324 [.func (.func 290) [] [.ptr n 0,.ptr (n+1) 0]]):=p2.get ho.fn (λe=>by have:=l _ e;omega);have t:n<M2.length:=(Z0a.1 s).1;have y:A1K (n+2) v1:=λf hf=>by
   rcases p3 with e|e
   .exact l f (e▸hf)
   .have:=e f hf;have:=ho.len;omega
  have a2:n+2<=M2.length:=Z0L ho.len p2.1;have u:B5p n M0 (M2.set n (.cells 67 [v1])) (xs++[A6p U d]):=by
   refine⟨⟨by have:=ho.low.1;have:=p2.1;simp;omega,λj hj=>?_⟩,by simpa using a2,?_,v1,?_,?_,y⟩
   .rw[Z0f Q0,p2.2 j Q0 (λe=>by have:=l _ e;omega)];exact ho.low.2 j hj
   .rw[Z0f Q0];exact a6
   .simp[t]
   .exact p1.keep ⟨Q1,λj hj h=>by rw[Z0f];rintro rfl;exact h rfl⟩ (o:=some n) (λf hf e=>by simp at e;have:=y f hf;omega)
  have w:A0k (some 1) M2 (.ptr n 0) v1=some (M2.set n (.cells 67 [v1])):=by rw[A0f s,p1.cells,Z0c ⟨p1.store,Q1,rfl⟩];rfl
  obtain⟨M3,a0⟩:=ex (M2.set n (.cells 67 [v1]));rw[<-a0]at u w;have a4:M2[n]?=M[n]?:=by rw[s,c]
  simp -dsimp[w,a4];clear w a0 a2 y t a6 s p1 p2 p3 a4 c a1 l a8 a;refine A0K hLn (λT M5=>∃i:Nat,i<=ks.length/\T 1=I d/\T 2=.ptr n 0/\T 3=.ptr (n+1) 0/\T 15=.list 8 (A0q ks) .no/\T 16=I ks.length/\T 17=I i/\B5p n M0 M5 (xs++[A6p U d]++A5I (d+1) (ks.take i))) (λT M1=>match T 17 with|.val (.int _ i)=>ks.length-i.toNat|_=>0) Q2 ?_ ?_
  .exact⟨0,Q0,Q1,Q1,Q1,by simp[g],by simp[g],Q1,by simpa[A5I]using u⟩
  clear u;rintro T M5 ⟨i,i1,t1,t2,t3,r,p,q,h5⟩;by_cases hi:i<ks.length;case neg=>have x:¬(i:Int)<ks.length:=Q0;rw[Z0e Q0]at h5;(have hL:A5E d U=A6p U d::A5I (d+1) ks:=by rw[<-g];cases U;rw[A5E];rfl);simp -dsimp[t1,t2,t3,r,p,q,x];rw[hL];simpa using h5
  have x:(i:Int)<ks.length:=Q0;have w1:=A1Y (i:=i) (by have:=A2t ks;have:=hf.2.2;omega);have w2:=A1Y (i:=d) Q0;have a7:ks[i]∈ks:=Z0u hi;have b:ks[i]∈U.kids:=by rw[g];exact a7
  have ab:=C9x _ b;have ac:A0H (ks.take i)+A0x ks[i]<=A0H ks:=B5v hi;have h6:=h5.app [A0l.cells 30 ks[i].row];have m:=C0j a5 a3 N ks[i] (d+1) n M0 _ _ Q0 (C7k hf _ b) (B1q hr _ b) Q0 h6 (by simp[A9X];omega);obtain⟨M6,z⟩:=ex (M5++[A0l.cells 30 ks[i].row]);have aa:M6[M5.length]?=some (A0l.cells 30 ks[i].row):=by rw[z];simp
  rw[<-z]at m h6;simp -dsimp[t1,t2,t3,r,p,q,hi,x,A0j,A0k,A0e,AV.storable,AV.cells];rw[<-z];simp -dsimp[t1,t2,t3,r,p,q,A0b aa,A0b h6.fn,w2];refine A0v (A0m func290 rfl rfl m) ?_;intro _ M7 h7;simp -dsimp[t1,t2,t3,r,p,q,w1];refine⟨⟨i+1,Q3,rfl,?_⟩,Q3⟩;rw[C4N hi];simpa using h7
def C2I{n:Nat}{M:Mem}{v:AV}{l:List ByteArray}(h:A1p 9 1 A7P M v l)(hl:A1K n v){cs ds:List AV}(hr:Still M n (bdd n) cs ds):Still M n (bdd n) (v::cs) (.list 1 (A0J l) .no::ds):=Still.append (a:=[v]) (b:=[.list 1 (A0J l) .no]) (A2T (λ_=>rfl) D3j h hl) hr
def D1y(b:gl 2=A1C)(d:gl 8=A1U)(u:A0a)(M:Mem)(hf:Fit u):A0c (WC gl) 262 [.agg u.row] M (λv M'=>v=(if B0m u=true then .list 1 (A0J (A5E 0 u)) .no else A0B)/\M'=M):=by
 have hS:=λM=>B7T gl u (.list 8 (A0q u.kids) .no) M (.inl rfl) hf.1 hf.2.1 hf.2.2
 have hV:=λM=>B8m gl b d (A2m u) M (C0q hf)
 rw[B8W (B2L u),B5G]at hV
 rw[show A3m u (.list 8 (A0q u.kids) .no)=u.row from u.row_eq.symm]at hS
 refine A0c.dataX ?_
 refine A1c hLn func262 rfl rfl rfl rfl rfl rfl ?_
 cases hfm:B0m u
 .rw[hfm]at hV;rw[u.row_eq]at hS|-;simp -dsimp;refine A0v (A0m func289 rfl rfl (hS M)) ?_;rintro _ M ⟨rfl,rfl⟩;simp -dsimp;refine A0v (A0m func263 rfl rfl (hV M)) ?_;rintro _ M ⟨rfl,rfl⟩;simp -dsimp;exact⟨Grow.refl _,.same (by simp[bdd]) .nil⟩
 rw[hfm]at hV
 have c:=hfm
 simp only[B0m,Z0h,Z0m]at c
 have ho:B5p M.length M (M++[.cells 67 [A0B],.cells 324 [.func (.func 290) [] [.ptr M.length 0,.ptr (M.length+1) 0]]]) []:=by refine⟨⟨Q1,λj hj=>by rw[Z0n hj]⟩,Q1,by simp[Z0Y],A0B,Q1,.nil,λf hf=>by simp at hf⟩
 have a:=C0j gl b d _ u 0 M.length M _ [] (Z0j _) hf c.1.1 Q0 ho (by have:=hf.2.2;simp;omega)
 have hX:=ho.fn
 have e:A0k (some 1) (M++[.cells 67 [A0B],.cells 324 [.val .nilFunc]]) (.ptr (M.length+1) 0) (.func (.func 290) [] [.ptr M.length 0,.ptr (M.length+1) 0])=some (M++[.cells 67 [A0B],.cells 324 [.func (.func 290) [] [.ptr M.length 0,.ptr (M.length+1) 0]]]):=by rw[A0f (bt:=324) (cs:=[.val .nilFunc]) (by simp[Z0Y])];simp[List.set_append,A0e,AV.storable,AV.cells]
 rw[u.row_eq]at hS a|-
 simp -dsimp
 refine A0v (A0m func289 rfl rfl (hS M)) ?_
 rintro _ M ⟨rfl,rfl⟩
 simp -dsimp
 refine A0v (A0m func263 rfl rfl (hV M)) ?_
 rintro _ M ⟨rfl,rfl⟩
 simp -dsimp[A0j,e,A0b hX]
 refine A0v (A0m func290 rfl rfl a) ?_
 rintro _ M2 ⟨h1,h2,h3,v,h4,h5,h6⟩
 simp -dsimp[A0b h4]
 refine⟨h1.grow (Grow.refl _) (Z0j _),?_⟩
 exact C2I h5 (λf hf=>by have:=h6 f hf;omega) .nil
end
end
section
def C8F(u:A0a)(d:Nat)(ha:A2J u=true)(g:u.label.size<=1000):(A6p u d).size<=2*d+15000:=by
 obtain⟨hk,hh,hw⟩:=A4Q ha;obtain⟨o,f⟩:=A5t hh;obtain⟨m,c⟩:=A5t hw;have e:(⟨#[32]⟩:ByteArray).size=1:=rfl;have b:(⟨#[58]⟩:ByteArray).size=1:=rfl;have e3:(⟨#[32,124]⟩:ByteArray).size=2:=rfl;have k:=B2E d;have key:∀n:Fin 8,(A8X.getD n.val ⟨#[]⟩).size<=9:=by decide
 have a:=key ⟨u.kind.toNat,Q0⟩;simp only at a;have i:(B2b u d).size<=2*d+9:=by rw[B2b,Z0K];omega
 have l:(A8l u d).size<=2*d+1010:=by
  unfold A8l;split
  .omega
  .rw[Z0K,Z0K,e];omega
 have j:(A6T u d).size<=2*d+7700:=by
  unfold A6T;split
  .omega
  .have:=A9h u.head (A8l u d++⟨#[58]⟩) (λw h=>(f w h).2);rw[Z0K,b]at this;omega
 unfold A6p;split
 .omega
 .have:=A9h u.words (A6T u d++⟨#[32,124]⟩) (λw h=>(c w h).2);rw[Z0K,e3]at this;omega
mutual
def B5j:∀(u:A0a) (d:Nat),A1o u=true->u.lims->d+A1i u<=8->A6L (A5E d u)<=A0x u*15020
 |.mk a b c e f ks,d,hr,hl,hd=>by have h1:=C8F _ d (A4L hr) (A3T _ hl).1.2.2.2;rw[A0a.lims]at hl;rw[A1o,Z0h]at hr;rw[A1i]at hd;have h2:=B4V ks (d+1) b [] hr.2 hl.2 (λh=>by omega);rw[A5E,B0Q,A0x];omega
def B4V:∀(ks:List A0a) (d:Nat) (p:Int) (bf:List A0a),A4g p ks bf=true->A4U ks->(ks≠[]->d+A1L ks<=9)->A6L (A5I d ks)<=A0H ks*15020
 |[],d,p,bf,_,_,_=>by rw[A5I,A0H];simp
 |k::ks,d,p,bf,hr,hl,hd=>by rw[A4g]at hr;simp only[Z0h]at hr;rw[A4U]at hl;have hd:=hd Q1;rw[A1L]at hd;have h1:=B5j k d hr.1.1.2 hl.1 Q0;have h2:=B4V ks d p _ hr.2 hl.2 (λ_=>by omega);rw[A5I,C5E,A0H];omega
end
def D0j(d:Nat)(u:A0a):A5E d u≠[]:=by cases u;rw[A5E];simp
section
variable (gl:Nat->AV)
def C8l(f:gl 2=A1C)(e:gl 8=A1U)(u:A0a)(M:Mem)(hf:Fit u):A0c (WC gl) 229 [.agg u.row] M (λv M'=>(∃t,v=.tuple [S t,I (C3F u)])/\M'=M):=by
 refine A1c hB func229 rfl rfl rfl rfl rfl rfl ?_
 have hL:=D1y gl f e u M hf
 cases hfm:B0m u
 .rw[hfm,Z0d Q1]at hL;have hE:C3F u=1:=by simp[C3F,hfm]
  rw[u.row_eq]at hL|-;simp -dsimp;refine A0v (A0m func262 rfl rfl hL) ?_;rintro _ M ⟨rfl,rfl⟩;simp -dsimp[hE]
 rw[hfm,Z0c rfl]at hL
 have c:=hfm
 simp only[B0m,Z0h,Z0m]at c
 obtain⟨L,k⟩:=ex (A5E 0 u)
 have l:=B5j u 0 c.1.1 hf.2.1 Q0
 have a:=D0j 0 u
 have j:=B3z 0 u
 have hE:C3F u=if 16384<A6L (A5E 0 u)then 6 else 0:=by simp[C3F,hfm]
 rw[<-k]at hL l a j hE
 have m:=hf.2.2
 have i:=D1Z [10] rfl L a
 have g:0<L.length:=by rcases L with _|_<;>simp at a|-
 have b:¬(L.length:Int)=0:=Q0
 have n:(B4X L ⟨#[10]⟩).size+1=A6L L:=i
 have hj:=λM=>C7s gl M L .no ⟨#[10]⟩ Q0 (by show(Lib.join _ [10]).length<=_;omega)
 rw[u.row_eq]at hL|-
 simp -dsimp
 refine A0v (A0m func262 rfl rfl hL) ?_
 rintro _ M ⟨rfl,rfl⟩
 simp -dsimp[B4C,b,g,a]
 refine A0v (A0m func68 rfl rfl (hj M)) ?_
 rintro _ M ⟨rfl,rfl⟩
 have d:(⟨#[10]⟩:ByteArray).size=1:=rfl
 have b1:¬(9223372036854775807:Int)<(B4X L ⟨#[10]⟩).size+1:=Q0
 by_cases hbig:16384<A6L L
 .have h2:(16384:Int)<(B4X L ⟨#[10]⟩).size+1:=Q0;rw[Z0c hbig]at hE;simp -dsimp[d,b1,Z0K,h2,hE]
 .have h2:¬(16384:Int)<(B4X L ⟨#[10]⟩).size+1:=Q0;rw[Z0d hbig]at hE;simp -dsimp[d,b1,Z0K,h2,hE]
end
end
open Go.Proofs TryTypes
mutual
def C1D(P:A0a->Prop)(hk:∀u,P u->∀k∈u.kids,P k):∀u:A0a,P u->∀v∈A2a u,P v
 |.mk a b c d e ks,h,v,hv=>by
  rw[A2a]at hv;rcases Z0r.1 hv with rfl|hv
  .exact h
  .exact C2X P hk ks (λk hm=>hk _ h k hm) v hv
def C2X(P:A0a->Prop)(hk:∀u,P u->∀k∈u.kids,P k):∀ks:List A0a,(∀k∈ks,P k)->∀v∈A3p ks,P v
 |[],_,v,hv=>by rw[A3p]at hv;simp at hv
 |k::ks,h,v,hv=>by
  rw[A3p]at hv;rcases Z0T.1 hv with hv|hv
  .exact C1D P hk k (h k Q1) v hv
  .exact C2X P hk ks (λq hq=>h q (by simp[hq])) v hv
end
def A2K{u v:A0a}{x:IdD}(h:A0O x u=some v):v.id=x/\v∈A2a u:=by rw[A9d]at h;refine⟨?_,Z4c h⟩;have:=List.find?_some h;simpa using this
section
end
def D4v:A1A prog .neq 231 (.agg [I 0,I 0,I 0]) (.agg [I 0,I 0,I 0])=some (B false):=Q2
section
variable (gl:Nat->AV) (M:Mem)
end
section
variable (gl:Nat->AV)
end
def B3W{k v:A0a}(hv:v∈A2a k):∀{ks:List A0a},k∈ks->v∈A3p ks
 |b::bs,hk=>by
  rw[A3p];rcases Z0r.1 hk with rfl|hk
  .exact Z2v _ hv
  .exact Z2X _ (B3W hv hk)
section
end
section
end
def C6h{x:IdD}{u:A0a}(h:x∉A0T u):A1f x u=[]:=by
 have h1:=A3z x u;cases hr:A1f x u with
 |nil=>rfl
 |cons r rs=>
  rw[hr]at h1;cases hl:(r::rs).getLast? with
  |none=>simp at hl
  |some v=>rw[hl]at h1;obtain⟨e1,e2⟩:=A2K h1;exact absurd (by rw[<-A5n,<-e1];exact Z0H.2 ⟨v,e2,rfl⟩) h
def C3i{k:A0a}{x:IdD}(hx:x∈A0T k):∀{ks:List A0a},k∈ks->x∈A2N ks
 |b::bs,hk=>by
  rw[A2N];rcases Z0r.1 hk with rfl|hk
  .exact Z2v _ hx
  .exact Z2X _ (C3i hx hk)
def B4P{x:IdD}:∀{ks:List A0a} {k:A0a},(A2N ks).Nodup->k∈ks->x∈A0T k->A1f x k≠[]->A3g x ks=A1f x k
 |a::ks,k,hn,hk,hx,hne=>by
  rw[A2N]at hn;obtain⟨n1,n2,n3⟩:=Z2y.1 hn;rw[A3g];rcases Z0r.1 hk with rfl|hk
  .cases hr:A1f x k with
   |nil=>exact absurd hr hne
   |cons r rs=>rfl
  ·(have:x∉A0T a:=λh=>by refine n3 x h x ?_ rfl;exact C3i hx hk);rw[C6h this];exact B4P n2 hk hx hne
def D2y(u:A0a):u.id∈A0T u:=by obtain⟨a,b,c,d,e,f⟩:=u;rw[A0T];simp[A0a.id]
def B2H{k:A0a}:∀{ks:List A0a},(A2N ks).Nodup->k∈ks->(A0T k).Nodup
 |b::bs,hn,hk=>by
  rw[A2N]at hn;obtain⟨n1,n2,n3⟩:=Z2y.1 hn;rcases Z0r.1 hk with rfl|hk
  .exact n1
  .exact B2H n2 hk
def B8Z{q:A0a}:∀{ks:List A0a},q∈A3p ks->∃k∈ks,q∈A2a k
 |[],h=>by rw[A3p]at h;simp at h
 |b::bs,h=>by
  rw[A3p]at h;rcases Z0T.1 h with h|h
  .exact⟨b,Q1,h⟩
  .obtain⟨k,hk,hq⟩:=B8Z h;exact⟨k,by simp[hk],hq⟩
def A4A(u:A0a):u∈A2a u:=by obtain⟨a,b,c,d,e,f⟩:=u;rw[A2a];simp
mutual
def A7c:∀(u v:A0a),v∈A2a u->∀k∈v.kids,k∈A2a u
 |.mk a b c d e ks,v,hv,k,hk=>by
  rw[A2a]at hv|-;rcases Z0r.1 hv with rfl|hv
  .exact Z1y _ (B3W (A4A k) hk)
  .exact Z1y _ (B4s ks v hv k hk)
def B4s:∀(ks:List A0a) (v:A0a),v∈A3p ks->∀k∈v.kids,k∈A3p ks
 |[],v,hv,_,_=>by rw[A3p]at hv;simp at hv
 |a::ks,v,hv,k,hk=>by
  rw[A3p]at hv|-;rcases Z0T.1 hv with hv|hv
  .exact Z2v _ (A7c a v hv k hk)
  .exact Z2X _ (B4s ks v hv k hk)
end
def B6J(y:A0a):A1f y.id y=[y]:=by obtain⟨a,b,c,d,e,f⟩:=y;rw[A1f];exact Z0c rfl
def C3O(y:A0a):∀(u q:A0a),(A0T u).Nodup->q∈A2a u->y∈q.kids->∃b,A1f y.id u=b++[q,y]
 |.mk id k l h w ks,q,hn,hq,hy=>by
  rw[A0T]at hn;rw[A2a]at hq;obtain⟨n1,n2⟩:=Z1D.1 hn;have f:y∈A3p ks:=by
   rcases Z0r.1 hq with rfl|hq
   .exact B3W (A4A y) hy
   .exact B4s ks q hq y hy
  have g:id≠y.id:=λe=>n1 (by rw[e,<-B3A];exact Z0H.2 ⟨y,f,rfl⟩);rw[A1f,Z0d g];rcases Z0r.1 hq with rfl|hq
  .have hy:y∈ks:=hy;rw[B4P n2 hy (D2y y) (by rw[B6J];simp),B6J];exact⟨[],rfl⟩
  .obtain⟨c,hc,d⟩:=B8Z hq;have:=A0a.kid_lt (u:=.mk id k l h w ks) hc;obtain⟨b,hp⟩:=C3O y c q (B2H n2 hc) d hy;(have i:y.id∈A0T c:=by rw[<-A5n];exact Z0H.2 ⟨y,A7c c q d y hy,rfl⟩);rw[B4P n2 hc i (by rw[hp];simp),hp];cases b with
   |nil=>exact⟨[_],rfl⟩
   |cons a b=>exact⟨_::a::b,rfl⟩
termination_by u=>SizeOf.sizeOf u
def C5D{u q y:A0a}(hn:(A0T u).Nodup)(hq:q∈A2a u)(hy:y∈q.kids):A7s y.id u=some q:=by obtain⟨a,hp⟩:=C3O y u q hn hq hy;rw[A7s,hp,show a++[q,y]=(a++[q])++[y]by simp,List.dropLast_concat];simp
section
end
abbrev fnV(g:FuncId):AV:=.func (.func g) [] []
abbrev z4:A0l:=.cells 258 [I 0,I 0,I 0,I 0]
section
variable (gl:Nat->AV)
end
section
variable (gl:Nat->AV)
end
def C1G{P:Program}{t kt et:TypeId}{k v:AV}{es:List (AV×AV×Nat)}{c:Nat}{M:Mem}(h1:A7S P t=some (kt,et))(h2:(A6g P kt||B5w P kt)=true)(h3:A4I P 30 kt k=true)(h4:A2I P kt k es=some none):A1V P t (M++[.map es c]) (.mapr M.length) k v=some (M++[.map (es++[(k,v,c)]) (c+1)]):=by
 have h:(M++[A0l.map es c])[M.length]?=some (.map es c):=by simp
 simp only[A1V,h1,h,h2,h3,Z2L,Z1f,h4]
 simp
def A7g{k:Int}{v:AV}{es:List (AV×AV×Nat)}{c:Nat}{M:Mem}(h4:A2I prog 3 (I k) es=some none):A1V prog 162 (M++[.map es c]) (.mapr M.length) (I k) v=some (M++[.map (es++[(I k,v,c)]) (c+1)]):=C1G (kt:=3) (et:=160) Q2 Q2 rfl h4
def rlV(a b:FuncId):AV:=.agg [fnV a,fnV b]
def ruE:List (AV×AV×Nat):=[(I 0,rlV 148 149,0),(I 1,rlV 152 153,1),(I 2,rlV 154 155,2),(I 3,rlV 158 159,3),(I 4,rlV 160 161,4),(I 5,rlV 162 163,5),(I 6,rlV 164 165,6),(I 7,rlV 336 337,7),(I 8,rlV 336 337,8),(I 9,rlV 336 337,9),(I 10,rlV 166 167,10),(I 11,rlV 169 170,11)]
def A4n{a b:FuncId}:A0A prog 160 [(0,fnV a),(1,fnV b)]=some (rlV a b):=by simp[A0A,A1m,putCells,A0e,AV.cells,AV.storable,rlV]
section
variable (gl:Nat->AV)
def C2E(a:gl 0=.cptr [fnV 336,fnV 337])(M:Mem):A0c (WC gl) 95 [] M (λv M'=>v=.mapr M.length/\M'=M++[.map ruE 12]):=by have c:(WC gl).gl 0=.cptr [fnV 336,fnV 337]:=a;have b:A0y prog 160 [fnV 336,fnV 337]=some (rlV 336 337):=Q2;refine A0t hB func95 ?_;simp -dsimp -implicitDefEqProofs[A4n,a,b];rw[A7g Q2];simp -dsimp -implicitDefEqProofs[A4n,a,b];rw[A7g Q2];simp -dsimp -implicitDefEqProofs[A4n,a,b];rw[A7g Q2];simp -dsimp -implicitDefEqProofs[A4n,a,b];rw[A7g Q2];simp -dsimp -implicitDefEqProofs[A4n,a,b];rw[A7g Q2];simp -dsimp -implicitDefEqProofs[A4n,a,b];rw[A7g Q2];simp -dsimp -implicitDefEqProofs[A4n,a,b];rw[A7g Q2];simp -dsimp -implicitDefEqProofs[A4n,a,b];rw[A7g Q2];simp -dsimp -implicitDefEqProofs[A4n,a,b];rw[A7g Q2];simp -dsimp -implicitDefEqProofs[A4n,a,b];rw[A7g Q2];simp -dsimp -implicitDefEqProofs[A4n,a,b];rw[A7g Q2];simp -dsimp -implicitDefEqProofs[A4n,a,b];rw[A7g Q2];simp -dsimp -implicitDefEqProofs[A4n,a,b];rfl
end
def C3B:∀(l:List (Nat×A0l)) (M:Mem),(fill M l).length=M.length
 |[],M=>rfl
 |p::l,M=>by show(fill (M.set p.1 p.2) l).length=_;rw[C3B l];simp
def C3s:∀(l:List (Nat×A0l)) (M X:Mem),(∀p∈l,p.1<M.length)->fill (M++X) l=fill M l++X
 |[],M,X,_=>rfl
 |p::l,M,X,h=>by show fill ((M++X).set p.1 p.2) l=fill (M.set p.1 p.2) l++X;have hp:=h p Q1;rw[List.set_append_left _ _ hp,C3s l _ _ λq hq=>by have:=h q (by simp[hq]);simpa using this]
def C9h{C:Ctx}{g:FuncId}{args:List AV}{M X:Mem}{r:Nat->AV}(h:∀M,A3E C g args M (λv M'=>v=r M.length/\M'=M++X)):C5T C g args M (r M.length) (M++X):=by refine⟨λs hs=>by rw[Z0n (Z0a.1 hs).1];exact hs,λl hb=>?_⟩;have:=h (fill M l);rw[C3B]at this;rw[C3s l M X λp hp=>(Z0a.1 (hb.1 p hp)).1];exact this
def C4a{C:Ctx}{h:A2j}{o:Oper}{ρ:Operand->AV}{M M1:Mem}{v:AV}{s:Nat}(hs:A4i o ρ=some s)(hn:M[s]?≠some A3R)(he:A0W C h o ρ M=some (v,M1)):D6J (A0W C h o ρ) M v M1:=by
 obtain⟨X,rfl,hl,hx⟩:=B4U hs he;clear hl;refine⟨λq hq=>by rw[Z0f (λe=>hn (by rw[e];exact hq))];exact hq,λl=>?_⟩;clear he;induction l generalizing M with
 |nil=>intro _;exact hx M rfl
 |cons p l ih=>intro hb;obtain⟨b1,b2⟩:=C4e hb;have ne:p.1≠s:=λe=>hn (by rw[<-e];exact b1);have e1:(M.set p.1 p.2)[s]?=M[s]?:=Z0f ne;have:=ih (M:=M.set p.1 p.2) (by rw[e1];exact hn) (λM2 h2=>hx M2 (by rw[h2,e1])) b2;rw[List.set_comm _ _ ne]at this;exact this
def C4Z{ops:Array Oper}{cls:Nat->Nat}{aff:Nat->Nat->Bool}{fl:Bool}{r s:Nat}(h:r≠s):A4D ops ⟨cls,λ_=>r,λ_=>s,aff,fl⟩=A4D ops ⟨cls,λ_=>1,λ_=>0,aff,fl⟩:=by
 have e:(r==s)=false:=by simpa using h
 have e2:(s !=s)=false:=by simp
 simp only[A4D,A2b,e,e2];rfl
section
variable {C:Ctx} {h:A2j} {ops:Array Oper} {L:B1N} {k:Nat} {d:Option Tmp} {op:Op} {t:TypeId} {p:String} {af:Array Edge} {rest:List Oper} {T:Env} {M:Mem} {K:Env->Mem->Prop} {v:AV}
def A8R{fl:Bool}{c r s:Nat}{o:Oper}{ρ:Operand->AV}{K:AV->Mem->Prop}(h1:B4N o.op=false)(h3:∀e,o.op≠.alloc e) (hp:if c=0 then A0S ((A0I C h o ρ).or (A1a C o ρ)) (λv=>K v M)else if c=1 then A1g o ρ=some r/\A0S (A3I C o ρ M) (λv=>K v M)else if c=5 then A4i o ρ=some s/\A0S (A0W C h o ρ M) (λr=>K r.1 r.2)else c=2/\A6W fl (A0W C h o ρ) M K):dOp C h fl c r s o ρ M K:=by
 unfold dOp
 split
 .rename_i heq;rw[heq]at h1;simp[B4N]at h1
 .rename_i heq;rw[heq]at h1;simp[B4N]at h1
 .rename_i heq;exact absurd heq (h3 _)
 .exact hp
def A7A(b:B4N op=false)(a:∀e,op≠.alloc e)(hc:L.cls k=0)(he:pOp C h ⟨d,op,t,p,af,none⟩ (T.ev C)=some v)(hk:A1t C h ops L (k+1) rest (T.put d v) M K):A1t C h ops L k (⟨d,op,t,p,af,none⟩::rest) T M K:=by simp only[A1t,A3r];refine A8R b a ?_;rw[Z0c hc,A6Z he];exact⟨λi _ _=>rfl,hk⟩
def D4Z{mt:TypeId}{m x:Operand}{ok:Bool}(hc:L.cls k=1)(ho:A1g ⟨d,.lookup mt m x ok,t,p,af,none⟩ (T.ev C)=some (L.rob k))(he:A1S C.P mt M (T.ev C m) (T.ev C x) ok=some v)(hk:A1t C h ops L (k+1) rest (T.put d v) M K):A1t C h ops L k (⟨d,.lookup mt m x ok,t,p,af,none⟩::rest) T M K:=by simp only[A1t,A3r];refine A8R rfl Q1 ?_;rw[Z0d Q0,Z0c hc];refine⟨ho,?_⟩;simp only[A3I,he];exact⟨λi _ _=>rfl,hk⟩
def D1P{e:TypeId}{X:A0l}{s:Nat}(hc:L.cls k=4)(a:L.fl=true)(hs:L.slot k=s)(hb:M[s]?=some A3R)(hX:B1r C.P e=some X)(hq:∀i,L.rob i≠s)(hk:A1t C h ops L (k+1) rest (T.put d (.vptr s 1 0)) (M.set s X) K):A1t C h ops L k (⟨d,.alloc e,t,p,af,none⟩::rest) T M K:=by simp only[A1t,A3r];simp only[dOp];rw[Z0c hc,hs,hX];exact⟨a,hb,λi _ _=>Z0f (λe=>hq i e.symm),hk⟩
def D1f{st:TypeId}{a x:Operand}{s:Nat}{X:A0l}(hc:L.cls k=2)(ho:A4i ⟨d,.store st a x,t,p,af,none⟩ (T.ev C)=some s)(hn:M[s]?≠some A3R)(he:A0W C h ⟨d,.store st a x,t,p,af,none⟩ (T.ev C) M=some (v,M.set s X))(hq:∀i,L.rob i≠s)(hk:A1t C h ops L (k+1) rest (T.put d v) (M.set s X) K):A1t C h ops L k (⟨d,.store st a x,t,p,af,none⟩::rest) T M K:=by simp only[A1t,A3r];refine A8R rfl Q1 ?_;rw[Z0d Q0,Z0d Q0,Z0d Q0];refine⟨hc,?_⟩;unfold A6W;rw[he];exact⟨λ_=>C4a ho hn he,λi _ _=>Z0f (λe=>hq i e.symm),hk⟩
def D5H{f:Operand}{args:List Operand}{ts:Array TypeId}{g:FuncId}{first cap:List AV}{M1:Mem}(hc:L.cls k=2)(hf:T.ev C f=.func (.func g) first cap)(hi:A3E C g (first++args.map (T.ev C)++cap) M (λr m=>r=v/\m=M1))(a:C5T C g (first++args.map (T.ev C)++cap) M v M1)
 (hq:∀i,L.cls i=1->L.aff i k=false->M1[L.rob i]?=M[L.rob i]?)(hk:A1t C h ops L (k+1) rest (T.put d v) M1 K):A1t C h ops L k (⟨d,.call {callee:=.value f,args:=args.toArray,argTypes:=ts},t,p,af,none⟩::rest) T M K:=by
 simp only[A1t,A3r]
 simp only[dOp,hf]
 rw[Z0d Q0]
 exact⟨v,M1,hc,hi,λ_=>a,hq,hk⟩
end
section
variable (gl:Nat->AV)
end
def A3Y(s:A1n)(l:List A0a):List A0a:=l.flatMap λx=>x.kids.filter (A2F s)
def A5b(p:List A1n)(l:List A0a):List A0a:=p.foldl (λl s=>A3Y s l) l
def A6l(u:A0a)(s:A1n):List A0a:=if B0j s=true then[u]else(A2a u).filter (A2F s)
def A6A(u:A0a):List A1n->List A0a
 |[]=>[u]
 |s::r=>A5b r (A6l u s)
structure Sel (u:A0a) (l:List A0a):Prop where
 nd:(l.map A0a.id).Nodup
 sub:∀x∈l,x∈A2a u
section
variable {u:A0a} {l:List A0a}
def Sel.len(h:Sel u l):l.length<=A0x u:=by
 have:=List.Nodup.length_le_of_subset h.nd (l₂:=A0T u) λx hx=>by obtain⟨v,hv,rfl⟩:=Z0H.1 hx;rw[<-A5n];exact Z0H.2 ⟨v,h.sub v hv,rfl⟩
 rwa[A3C,Z0N]at this
def B9F:∀ks:List A0a,(ks.map A0a.id).Sublist (A2N ks)
 |[]=>by simp
 |k::ks=>by rw[Z0w,A2N];have h1:[k.id].Sublist (A0T k):=List.singleton_sublist.2 (D2y k);exact h1.append (B9F ks)
def B8C(hn:(A0T u).Nodup):∀v∈A2a u,(A0T v).Nodup:=C1D (λv=>(A0T v).Nodup) (λv hv k hk=>by obtain⟨a,b,c,d,e,ks⟩:=v;rw[A0T]at hv;exact B2H (Z1D.1 hv).2 hk) u hn
def C8N(hn:(A0T u).Nodup){v:A0a}(hv:v∈A2a u):(v.kids.map A0a.id).Nodup:=by have:=B8C hn v hv;obtain⟨a,b,c,d,e,ks⟩:=v;rw[A0T]at this;exact(Z1D.1 this).2.sublist (B9F ks)
def Sel.steps(hn:(A0T u).Nodup)(h:Sel u l)(s:A1n):Sel u (A3Y s l):=by
 refine⟨?_,λx hx=>?_⟩
 .obtain⟨h1,h2⟩:=h;induction l with
  |nil=>simp[A3Y]
  |cons a l ih=>rw[Z0w,Z1D]at h1;have ha:=h2 a Q1;have ih:=ih h1.2 λx hx=>h2 x (by simp[hx]);show(((a.kids.filter (A2F s))++A3Y s l).map A0a.id).Nodup;rw[Z1c,Z2y];refine⟨(C8N hn ha).sublist (List.filter_sublist.map _),ih,λx hx y hy e=>?_⟩;subst e;obtain⟨k,hk,rfl⟩:=Z0H.1 hx;obtain⟨q,hq,e⟩:=Z0H.1 hy;obtain⟨b,hb,c⟩:=Z1Y.1 hq;have p1:=C5D hn ha (Z1u.1 hk).1;have p2:=C5D hn (h2 b (by simp[hb])) (Z1u.1 c).1;rw[e,p1]at p2;have:a=b:=Z1t p2;exact h1.1 (this▸Z0H.2 ⟨b,hb,rfl⟩)
 .obtain⟨v,hv,hx⟩:=Z1Y.1 hx;exact A7c u v (h.sub v hv) x (Z1u.1 hx).1
def Sel.follow(hn:(A0T u).Nodup):∀(p:List A1n) (l:List A0a),Sel u l->Sel u (A5b p l)
 |[],l,h=>h
 |s::p,l,h=>Sel.follow hn p _ (h.steps hn s)
def D4W(u:A0a):Sel u [u]:=⟨Q1,λx hx=>by rw[Z0R.1 hx];exact A4A u⟩
def B4r(hn:(A0T u).Nodup)(s:A1n):Sel u (A6l u s):=by
 unfold A6l;split
 .exact D4W u
 .refine⟨?_,λx hx=>(Z1u.1 hx).1⟩;rw[<-A5n]at hn;exact hn.sublist (List.filter_sublist.map _)
def C3l{p:List A1n}{i:Nat}(h:i<p.length)(l:List A0a):A5b (p.take (i+1)) l=A3Y p[i] (A5b (p.take i) l):=by unfold A5b;rw[Z1p h,Z1S];rfl
def C3n{l:List A0a}{i:Nat}(h:i<l.length)(s:A1n):A3Y s (l.take (i+1))=A3Y s (l.take i)++l[i].kids.filter (A2F s):=by unfold A3Y;rw[Z1p h,Z1k];simp
end
def C5l{ops:Array Oper}{L L':B1N}(h1:L'.cls=L.cls)(h2:L'.aff=L.aff)(h3:L'.fl=L.fl)(h4:∀i j,(L'.slot j !=L'.slot i)=(L.slot j !=L.slot i))(h5:∀i j,(L'.rob j==L'.slot i)=(L.rob j==L.slot i)):A4D ops L'=A4D ops L:=by simp only[A4D,A2b,h1,h2,h3,h4,h5]
section
variable {C:Ctx} {h:A2j} {ops:Array Oper} {L:B1N} {k:Nat} {d:Option Tmp} {t:TypeId} {p:String} {af:Array Edge} {rest:List Oper} {T:Env} {M:Mem} {K:Env->Mem->Prop} {v:AV}
def D5E{mt:TypeId}{a:Operand}(hc:L.cls k=1)(ho:A1g ⟨d,.load mt a,t,p,af,none⟩ (T.ev C)=some (L.rob k))(he:A0M C.P mt M (T.ev C a)=some v)(hk:A1t C h ops L (k+1) rest (T.put d v) M K):A1t C h ops L k (⟨d,.load mt a,t,p,af,none⟩::rest) T M K:=by simp only[A1t,A3r];refine A8R rfl Q1 ?_;rw[Z0d Q0,Z0c hc];refine⟨ho,?_⟩;simp only[A3I,he];exact⟨λi _ _=>rfl,hk⟩
def D7m{x:Operand}{tt:TypeId}(hc:L.cls k=0)(he:pOp C h ⟨d,.call {callee:=.builtin .len,args:=#[x],argTypes:=#[tt]},t,p,af,none⟩ (T.ev C)=some v)(hk:A1t C h ops L (k+1) rest (T.put d v) M K):A1t C h ops L k (⟨d,.call {callee:=.builtin .len,args:=#[x],argTypes:=#[tt]},t,p,af,none⟩::rest) T M K:=by simp only[A1t,A3r];unfold dOp;dsimp only;rw[Z0c hc,A6Z he];exact⟨λi _ _=>rfl,hk⟩
def D3f{st:TypeId}{a x:Operand}{M1:Mem}(hc:L.cls k=5)(ho:A4i ⟨d,.store st a x,t,p,af,none⟩ (T.ev C)=some (L.slot k))(he:A0W C h ⟨d,.store st a x,t,p,af,none⟩ (T.ev C) M=some (v,M1))(hq:∀i,L.cls i=1->L.aff i k=false->M1[L.rob i]?=M[L.rob i]?) (hk:A1t C h ops L (k+1) rest (T.put d v) M1 K):A1t C h ops L k (⟨d,.store st a x,t,p,af,none⟩::rest) T M K:=by
 simp only[A1t,A3r]
 refine A8R rfl Q1 ?_
 rw[Z0d Q0,Z0d Q0,Z0c hc]
 refine⟨ho,?_⟩
 rw[he]
 exact⟨hq,hk⟩
def C8I{s x:Operand}{st xt:TypeId}(a:L.fl=false)(hc:L.cls k=2)(hw:A3s C (A1X h.own d) (A1X h.vec d) st xt (T.ev C s) (T.ev C x) M (λv M1=>(∀i,L.cls i=1->L.aff i k=false->M1[L.rob i]?=M[L.rob i]?)/\A1t C h ops L (k+1) rest (T.put d v) M1 K) ⟨⟩):
 A1t C h ops L k (⟨d,.call {callee:=.builtin .append,args:=#[s,x],argTypes:=#[st,xt]},t,p,af,none⟩::rest) T M K:=by
 simp only[A1t,A3r]
 obtain⟨e,sz,bytes,h1,h2⟩:=hw
 refine⟨e,sz,bytes,h1,hc,?_⟩
 unfold A6W
 cases hr:A6n (A1X h.own d) (A1X h.vec d) e sz bytes (T.ev C s) (T.ev C x) M with
 |none=>rw[hr]at h2;exact h2.elim
 |some r=>
  rw[hr]at h2
  exact⟨λe=>by rw[a]at e;exact absurd e Q1,h2⟩
end
structure AtB (b:Nat) (M0 M:Mem) (xs:List A0a):Prop where
 low:A4x b M0 M
 len:b<M.length
 arr:∃v,M[b]?=some (.cells 28 [v])/\A1p 30 8 A0a.row M v xs/\A1K (b+1) v
def AtB.app{b:Nat}{M0 M:Mem}{xs:List A0a}(h:AtB b M0 M xs)(X:Mem):AtB b M0 (M++X) xs:=by obtain⟨v,h1,h2,h3⟩:=h.arr;have hk:Grow M (M++X):=A0d.app none _ _;exact⟨⟨by have:=h.low.1;simp;omega,λi hi=>by rw[Z0n (by have:=h.len;omega)];exact h.low.2 i hi⟩,by have:=h.len;simp;omega,v,hk.get h1 Q1,h2.keep hk Q1,h3⟩
def E1c{C:Ctx}{M:Mem}{K:AV->Mem->Prop}{own:Bool}{st xt e:TypeId}{bytes:Nat}{s x:AV}{l:List A0a}{z:List AV}{tg:Tag K}(h1:A1b C.P st=some e)(h2:A4l C.P xt)(h3:A3X C.P e 8 bytes)(ho:A1p e 8 A0a.row M s l)
 (hx:A0D M 8 x=some (z,1))(hb:(l.length+1)*bytes<=140737488355328)
 (hk:∀M' f g a,M'[f]?=some (.vec e 8 (l.flatMap A0a.row++z) g a)->a.lookup g=some (l.length+1)->A0d (obj s) M M'->f=(obj s).getD M.length->K (.vref f g 8 0 (l.length+1)) M'):A3s C own true st xt s x M K tg:=by
 rcases ho with⟨rfl,rfl⟩|⟨f,g,a,rfl,hf,hl⟩
 .refine A5c h1 h2 h3 (by rfl) hx hb (by simp only[A5e,hx]) ?_ rfl;simp only[A5Y,hx];rw[Z0d Q0];exact hk _ M.length 0 [(0,1)] Q1 (by simp[List.lookup]) (.app _ _ _) rfl
 .have c:A0D M 8 (.vref f g 8 0 l.length)=some (l.flatMap A0a.row,l.length):=A1p.src A0a.row_len (.inr ⟨f,g,a,rfl,hf,hl⟩);refine A5c h1 h2 h3 c hx hb ?_ ?_ rfl
  .simp only[A5e,hx,hf,hl];rw[Z0d Q0]
  .simp only[A5Y,hx,hf,hl];rw[Z0c ⟨trivial,trivial,trivial,Q0⟩,Z0d Q0];have b:f<M.length:=(Z0a.1 hf).1;refine hk _ f (g+1) ((g+1,l.length+1)::a.filter (λp=>decide (p.2<=l.length))) ?_ (by simp[List.lookup]) (.set _ _ _) Q1;simp only[Z2M,b,Z1f,Z1I,Z1x];rw[Z0e (by rw[A1Z A0a.row_len];exact Z0j _)]
def D0A{M:Mem}{f g:Nat}{a:List (Nat×Nat)}{l:List A0a}{z:List AV}(hz:z.length=8)(hm:M[f]?=some (.vec 30 8 (l.flatMap A0a.row++z) g a))(hl:a.lookup g=some (l.length+1))(y:A0a):∃M',A0k (some 8) M (.vptr f g (l.length*8)) (.agg y.row)=some M'/\A1p 30 8 A0a.row M' (.vref f g 8 0 (l++[y]).length) (l++[y])/\M'.length=M.length/\∀j,j≠f->M'[j]?=M[j]?:=by
 have b:f<M.length:=(Z0a.1 hm).1
 have e:(l.flatMap A0a.row).length=l.length*8:=A1Z A0a.row_len l
 have d:=y.row_len
 have c:A0e (l.flatMap A0a.row++z) (l.length*8) y.row=(l++[y]).flatMap A0a.row:=by unfold A0e;rw[Z1k,Z1A Q0,Z0e Q0,Z1r (by rw[Z0k];omega)];simp
 refine⟨M.set f (.vec 30 8 ((l++[y]).flatMap A0a.row) g (A0V 8 g (l.length*8) a)),?_,.inr ⟨f,g,A0V 8 g (l.length*8) a,rfl,by simp[b],?_⟩,Q1,λj hj=>Z0f Q0⟩
 .simp only[A0k,hm,hl];rw[Z0c (by simp[AV.storable,AV.cells];omega)];simp only[AV.cells];rw[c]
 .unfold A0V;rw[Z0k];exact A3v _ hl
def B9i:∀a b:List A0a,A3p (a++b)=A3p a++A3p b
 |[],b=>by simp[A3p]
 |k::a,b=>by rw[Z0O,A3p,A3p,B9i a b,Z0F]
def C3h(ks:List A0a):(A3p ks).length=A0H ks:=by rw[<-B7C,<-B3A,Z0N]
abbrev B3T(s:A1n)(r:List A1n)(o:Own)(b:Nat):List AV:=[.cptr [.list 2 (A0P (s::r)) o],.ptr b 0]
section
variable (gl:Nat->AV)
def C7V(u:A0a)(s:A1n)(r:List A1n)(o:Own)(b:Nat)(M0 M:Mem)(xs:List A0a)(h:AtB b M0 M xs)(hl:xs.length<=100000):A0c (WC gl) 46 (.agg u.row::B3T s r o b) M (λv M'=>AtB b M0 M' (xs++if A2F s u=true then[u]else[])):=by
 obtain⟨v0,hb,hv,c⟩:=h.arr
 have m:=λM=>B4a gl u s M
 have a7:s.row=[I s.k,S s.lab]:=rfl
 have a2:A0P (s::r)=[I s.k,S s.lab]::A0P r:=rfl
 have x:=u.row_eq
 rw[a7]at m
 rw[B3T,a2]
 rw[x]at m|-
 refine A0t (hQ [13]) func46 ?_
 simp -dsimp
 refine A0Z (hQ [13]) (A0E gl) (λ_=>0) (λ_=>0) (by rfl) Q2 ?_
 simp -dsimp
 refine A2p func47 m ?_
 cases hs:A2F s u
 .simp -dsimp;exact h
 simp -dsimp
 obtain⟨f,hf⟩:=ex ((obj v0).getD M.length)
 have a:f≠b:=by
  rw[hf];cases ho:obj v0 with
  |none=>have:=h.len;simp;omega
  |some q=>have:=c q ho;simp;omega
 refine B0u (h:=hQ [13]) (A0E gl) ⟨λk=>if k=0 then 1 else if k=4 then 2 else if k=6\/k=7 then 5 else 0,λ_=>b,λk=>if k=6 then f else b,λ_ k=>k==7,false⟩ (by rfl) ?_ ?_ ?_
 .refine Eq.trans (C5l (L:=⟨λk=>if k=0 then 1 else if k=4 then 2 else if k=6\/k=7 then 5 else 0,λ_=>0,λk=>if k=6 then 1 else 0,λ_ k=>k==7,false⟩) rfl rfl rfl (λi j=>?_) (λi j=>?_)) ?_
  rotate_right
  .kernel_rfl
  ·(have e1:(f==b)=false:=by simpa using a);have e2:(b==f)=false:=by simpa usingλe=>a e.symm
   by_cases c1:i=6<;>by_cases c2:j=6<;>simp[c1,c2,bne,e1,e2]
  ·(have e2:(b==f)=false:=by simpa usingλe=>a e.symm);by_cases c1:i=6<;>simp[c1,e2]
 .intro k _ hk;simp only at hk;split at hk
  .simp at hk
  .split at hk
   .simp at hk
   .split at hk<;>simp at hk
 refine D5E rfl (by simp[A1g]) (by simp[A0b hb]<;>rfl) ?_
 refine A7A rfl Q1 rfl (by simp[pOp]<;>rfl) ?_
 have a5:A2W prog 28 v0=some xs.length:=hv.len (e':=30) Q1
 refine D7m rfl (v:=I xs.length) (by simp[pOp,a5]) ?_
 refine A7A rfl Q1 rfl (by simp[pOp,A0w,A1e]<;>rfl) ?_
 refine C8I rfl rfl ?_
 refine E1c (own:=_) (l:=xs) (z:=zU) A7N B2e B0y (by simpa using hv) (by simp[A0D,zU]) Q0 ?_
 intro M' f' g aa a3 a8 hk a0
 simp at hk a0
 have a9:f'=f:=by rw[a0,hf]
 subst a9
 have w:M'[b]?=M[b]?:=hk.2 b h.len (λe=>by have:=c b e;omega)
 refine⟨λi _ _=>w,?_⟩
 obtain⟨M2,t,a1,n,d⟩:=D0A rfl a3 a8 u
 rw[x]at t
 have a4:(xs++[u]).length=xs.length+1:=by simp
 refine A7A rfl Q1 rfl (v:=.vptr f' g (xs.length*8)) (by simp[pOp];omega) ?_
 refine D3f rfl (by simp[A4i]) (M1:=M2) (v:=.val undef) (B3o (by simp[mOp,t])) (λi _ _=>d b a.symm) ?_
 have y:M2[b]?=some (.cells 28 [v0]):=by rw[d b a.symm,w,hb]
 have a6:A0k (some 1) M2 (.ptr b 0) (.vref f' g 8 0 (xs.length+1))=some (M2.set b (.cells 28 [.vref f' g 8 0 (xs.length+1)])):=by rw[A0f y];rfl
 refine D3f rfl (by simp[A4i]) (v:=.val undef) (B3o (by simp[mOp,a6]<;>rfl)) (λi _ ha=>by simp at ha) ?_
 simp -dsimp
 rw[a4]at a1
 have p:b<M2.length:=(Z0a.1 y).1
 have ac:M.length<=f'\/b+1<=f'/\obj v0=some f':=by
  rw[hf];cases ho:obj v0 with
  |none=>left;simp
  |some q=>right;exact⟨c q ho,Q1⟩
 have ab:=h.len
 refine⟨?_,by simpa using p,_,Z2F p,?_,?_⟩
 .have hq:A4x b M M2:=⟨by rw[n];exact hk.1,λi hi=>by rw[d i Q0];exact hk.2 i Q0 (λe=>by have:=c i e;omega)⟩;exact(h.low.trans hq).setq (Z0j _)
 .exact a1.keep (A0d.set _ _ _) (λq hq e=>by simp at hq e;omega)
 .intro q hq;simp at hq;omega
def C7w(s:A1n)(r:List A1n)(o:Own)(b:Nat)(M0:Mem):∀(u:A0a) (M:Mem) (xs:List A0a),u.good->AtB b M0 M xs->xs.length+A0x u<=100000->
 A0c (WC gl) 45 [.agg u.row,.func (.func 46) [] (B3T s r o b)] M (λv M'=>AtB b M0 M' (xs++(A2a u).filter (A2F s)))
 |.mk id kind lab hd ws ks,M,xs,hg,hat,hlim=>by
  obtain⟨_,_,_,_,_,_,_,hk,e⟩:=(A0a.good_iff _).1 hg;have e:∀k∈ks,k.good:=e;have a4:ks.length<=9223372036854775807:=hk;have w:(A0a.mk id kind lab hd ws ks).row=[I id.act,I id.item,I id.n,I kind,S lab,.list 4 (A0i hd) .no,.list 4 (A0i ws) .no,.list 8 (A0q ks) .no]:=by rw[A0a.row]
  have y:A0x (.mk id kind lab hd ws ks)=1+A0H ks:=by rw[A0x]
  rw[y]at hlim;have a0:=A2t ks;have t:(A2a (.mk id kind lab hd ws ks)).filter (A2F s)=(if A2F s (.mk id kind lab hd ws ks)=true then[A0a.mk id kind lab hd ws ks]else[])++(A3p ks).filter (A2F s):=by rw[A2a,Z2k];split<;>simp
  rw[t,<-Z0F];have g:=C7V gl (.mk id kind lab hd ws ks) s r o b M0 M xs hat Q0;obtain⟨ys,q⟩:=ex (xs++(if A2F s (.mk id kind lab hd ws ks)=true then[A0a.mk id kind lab hd ws ks]else[]));have a3:ys.length<=xs.length+1:=by rw[q];split<;>simp
  rw[<-q]at g|-;rw[w]at g|-;refine A0t hW func45 ?_;simp -dsimp;refine A4b func46 g ?_;rintro _ M1 p;simp -dsimp;refine A1E hW ks.length 12 (λT Mi=>∃i:Nat,i<=ks.length/\T 1=.func (.func 46) [] (B3T s r o b)/\T 10=.list 8 (A0q ks) .no/\T 11=I ks.length/\T 12=I i/\AtB b M0 Mi (ys++(A3p (ks.take i)).filter (A2F s))) ?_ ?_
  .exact⟨0,Q0,Q1,Q1,Q1,Q1,by simpa[A3p]using p⟩
  rintro T Mi ⟨i,i1,t1,d,l,j,a⟩;by_cases hi:i<ks.length
  .have f:(i:Int)<ks.length:=Q0;have w1:=A1Y (i:=i) Q0;have c:ks[i]∈ks:=Z0u hi;(have z:(Mi++[A0l.cells 30 ks[i].row])[Mi.length]?=some (A0l.cells 30 ks[i].row):=by simp);simp -dsimp[t1,d,l,j,hi,f,A0j,A0k,A0e,AV.storable,AV.cells,A0b z];have:=A0a.kid_lt (u:=.mk id kind lab hd ws ks) c;have a1:=B5v hi;have a5:=Z1s (A2F s) (A3p (ks.take i));have a2:=C3h (ks.take i);refine A4b func45 (C7w s r o b M0 ks[i] _ _ (e _ c) (a.app _) (by simp only[Z0k];omega)) ?_;rintro _ M3 m;(have x:A3p (ks.take (i+1))=A3p (ks.take i)++A2a ks[i]:=by rw[Z1p hi,B9i];simp[A3p]);simp -dsimp[t1,d,l,j,w1];refine⟨⟨i+1,Q3,rfl,?_⟩,Q3⟩;rw[x,Z2U,<-Z0F];exact m
  .have f:¬(i:Int)<ks.length:=Q0;rw[Z0e Q0]at a;simp -dsimp[t1,d,l,j,hi,f];exact a
termination_by u=>SizeOf.sizeOf u
def RdU(n:Nat)(M:Mem)(v:AV)(l:List A0a):Prop:=Arr 30 8 A0a.row n M v l\/∃u,l=[u]/\v=.list 8 [u.row] .full
def RdU.keep{n:Nat}{M M':Mem}{v:AV}{l:List A0a}(h:RdU n M v l)(hk:Grow M M'):RdU n M' v l:=h.imp (λh=>h.keep hk) id
def RdU.len{n:Nat}{M:Mem}{v:AV}{l:List A0a}(h:RdU n M v l):A2W prog 28 v=some l.length:=by
 rcases h with h|⟨u,rfl,rfl⟩
 .exact h.own.len (e':=30) Q1
 .simp
def RdU.at_{n:Nat}{M:Mem}{v:AV}{l:List A0a}(h:RdU n M v l){i:Nat}(hi:i<l.length):∃p,A5O (some (some 8)) v (I i)=some p/\A0M prog 30 M p=some (.agg l[i].row):=by
 rcases h with h|⟨u,rfl,rfl⟩
 .obtain⟨p,h1,_,h2,_⟩:=h.own.at_ (P:=prog) (t:=30) A0a.row_len D1W C8o hi;exact⟨p,h1,h2⟩
 .simp at hi;subst hi;simp only[Z2G];rw[u.row_eq];refine⟨_,by simp[A5O]<;>rfl,Q1⟩
def RdU.still{n:Nat}{M:Mem}{v:AV}{l:List A0a}(h:RdU n M v l):Still M n (bdd n) [v] [.list 8 (A0q l) .no]:=by
 rcases h with h|⟨u,rfl,rfl⟩
 .exact B0N h.own h.lat
 .have a:A0q [u]=[u.row]:=by rw[A0q,A0q]
  have hb:=B4w n [u];rw[a]at hb|-;exact .dis hb .nil
def C2Y{x:A0a}(h:Fit x):x.kids.length<=3000:=by have h1:=A2t x.kids;have h2:=A5M x;have h3:=h.2.2;omega
def B8z(t:A1n):∀l:List A0a,(∀x∈l,x.kids.length<=3000)->(A3Y t l).length<=l.length*3000
 |[],_=>by simp[A3Y]
 |x::l,h=>by have h1:=B8z t l λy hy=>h y (by simp[hy]);have h2:=h x Q1;have h3:=Z1s (A2F t) x.kids;show(x.kids.filter (A2F t)++A3Y t l).length<=_;simp only[Z0k,Z0q];omega
set_option maxHeartbeats 20000000 in
def C8n(u:A0a)(s:A1n)(r:List A1n)(o:Own)(M:Mem)(hf:Fit u)(b4:∀i,i<r.length->(A5b (r.take i) (A6l u s)).length<=3000/\∀x∈A5b (r.take i) (A6l u s),Fit x)(hl:(s::r).length<=9)(hp:∀i (h:i<(s::r).length),C1y i (s::r)[i]):A0c (WC gl) 30 [.agg u.row,.list 2 (A0P (s::r)) o] M (λv M'=>v=.list 8 (A0q (A6A u (s::r))) .no/\M'=M):=by
 refine A0c.dataX ?_
 have hv:=B5y gl (s::r) o M hl hp
 obtain⟨b,hb⟩:=ex (M.length)
 obtain⟨M1,a3⟩:=ex (M++[A0l.cells 28 [A0B]])
 have a7:M1[b]?=some (.cells 28 [A0B]):=by rw[a3,hb];simp
 have a8:Grow M M1:=by rw[a3];exact A0d.app none _ _
 have ae:b<M1.length:=(Z0a.1 a7).1
 have ap:=A9T gl s M1
 have bu:=hf.2.2
 have b3:AtB b M M1 []:=⟨⟨a8.1,λi hi=>a8.2 i Q0 Q1⟩,ae,A0B,a7,.nil,λf h=>by simp at h⟩
 have w:=C7w gl s r o b M u M1 [] hf.1 b3 (by simp;omega)
 have b2:A0P (s::r)=[I s.k,S s.lab]::A0P r:=rfl
 have bc:s.row=[I s.k,S s.lab]:=rfl
 have bp:A6A u (s::r)=A5b r (A6l u s):=rfl
 have b6:(A0P r).length=r.length:=by simp[A0P]
 rw[bp]
 rw[B3T,b2]at w
 rw[bc]at ap
 rw[b2]at hv|-
 rw[u.row_eq]at w|-
 refine A0t (hQ [58]) func30 ?_
 simp -dsimp
 refine A0h func43 hv ?_
 simp -dsimp[-A7I]
 rw[A7I]
 simp -dsimp[-A7I,A0j]
 rw[<-a3,<-hb]
 rw[A7I]
 refine B2q (λT Mi=>T 3=.cptr [.list 2 ([I s.k,S s.lab]::A0P r) o]/\T 5=.ptr b 0/\Grow M Mi/\∃v,Mi[b]?=some (.cells 28 [v])/\RdU M.length Mi v (A6l u s)) ?_ ?_
 .have b0:¬((r.length:Int)+1=0):=Q0;have b9:(((r.length:Int)+1==0)=false):=by simpa using b0
  simp -dsimp[b0,b9,b6];refine A0h func44 ap ?_;cases hbs:B0j s
  .simp -dsimp;refine A4b func45 w ?_;rintro _ M2 ad;obtain⟨v,h1,h2,h3⟩:=ad.arr;simp -dsimp;refine⟨ad.low.grow (A0d.refl _ _) Q0,v,h1,.inl ⟨?_,λf h=>by have:=h3 f h;omega⟩⟩;rw[A6l,hbs];simpa using h2
  .simp -dsimp[A0w,A1e,AV.storable,AV.cells,A0f a7];rw[<-u.row_eq];exact⟨A0u a8 Q0,_,Z2F ae,.inr ⟨u,by rw[A6l,hbs,Z0c rfl],rfl⟩⟩
 clear w ap hv a3 a7 a8 ae b3
 rintro T0 M0 ⟨q3,q5,be,v0,bk,b5⟩
 have bl:(1:Int)<=r.length+1:=Q0
 simp -dsimp[q3,q5,bl]
 generalize A6k _ _ _ _ _=so
 have bv:r.length+1<=9:=hl
 refine A1E (hQ [58]) r.length 35 (λT Mi=>∃i:Nat,i<=r.length/\T 5=.ptr b 0/\T 33=.list 2 (A0P r) so/\T 34=I r.length/\T 35=I i/\Grow M Mi/\∃v,Mi[b]?=some (.cells 28 [v])/\RdU M.length Mi v (A5b (r.take i) (A6l u s))) ?_ ?_
 .exact⟨0,Q0,by simp[q5],Q1,by simp[b6],Q1,be,v0,bk,b5⟩
 rintro T Mi ⟨i,i1,t5,c,d,a,ak,v,ax,a4⟩
 by_cases hi:i<r.length
 case neg=>have ag:¬(i:Int)<r.length:=Q0;rw[Z0e Q0]at a4;simp -dsimp[t5,c,d,a,ag,A0b ax];rw[hb];exact⟨ak,a4.still⟩
 have ag:(i:Int)<r.length:=Q0
 have wi:=A1Y (i:=i) Q0
 obtain⟨l,aj⟩:=ex (A5b (r.take i) (A6l u s))
 obtain⟨bh,ah⟩:=b4 i hi
 rw[<-aj]at bh ah
 obtain⟨t,ht⟩:=ex (r[i])
 rw[<-aj]at a4
 have bd:r[i]=t:=ht.symm
 have bb:(A0P r)[i]?=some [I t.k,S t.lab]:=by simp[A0P,hi,ht,A1n.row]
 obtain⟨q,hq⟩:=ex (Mi.length)
 obtain⟨M2,aq⟩:=ex (Mi++[A0l.cells 89 [I t.k,S t.lab]])
 have a9:Grow Mi M2:=by rw[aq];exact A0d.app none _ _
 have aa:=a9.get ax Q1
 have br:M2[q]?=some (.cells 89 [I t.k,S t.lab]):=by rw[aq,hq];simp
 have ac:=a4.keep a9
 have bi:=ac.len
 simp -dsimp[t5,c,d,a,ag,hi,bb,bd,A0j,A0k,A0e,A0o,A0n]
 rw[<-aq,<-hq]
 simp -dsimp[t5,c,d,a,A0b aa,bi]
 refine A7f (.exit 3) (λT Mj=>T 5=.ptr b 0/\T 33=.list 2 (A0P r) so/\T 34=I r.length/\T 35=I i/\Grow M2 Mj/\Arr 30 8 A0a.row M2.length Mj (T 8) (A3Y t l)) ?_ ?_
 case refine_2=>
  have aw:=a;clear t5 c d a;rintro T Mj ⟨t5,c,d,a,z,ha⟩;have au:=z.get aa Q1;have a6:A0k (some 1) Mj (.ptr b 0) (T 8)=some (Mj.set b (.cells 28 [T 8])):=by rw[A0f au,ha.own.cells,Z0c ⟨ha.own.store,Q1,rfl⟩];rfl
  have az:b<Mj.length:=(Z0a.1 au).1;have ba:Grow M (Mj.set b (.cells 28 [T 8])):=A0u ((ak.trans a9).trans z) Q0;have bs:M.length<=M2.length:=(ak.trans a9).1;have bm:Arr 30 8 A0a.row M.length (Mj.set b (.cells 28 [T 8])) (T 8) (A3Y t l):=⟨ha.own.keep (A0d.set _ _ _) (λf hf e=>by have:=ha.lat f hf;have:=(Z0a.1 aa).1;simp at e;omega),λf hf=>by have:=ha.lat f hf;omega⟩;simp -dsimp[t5,c,d,a,a6,aw,wi];exact⟨⟨i+1,by clear wi;omega,rfl,ba,T 8,by simp[az],by rw[C3l hi,<-aj,<-ht];exact .inl bm⟩,by clear wi;omega⟩
 refine A1E (hQ [58]) l.length 41 (λT Mj=>∃j:Nat,j<=l.length/\T 5=.ptr b 0/\T 7=.ptr q 0/\T 33=.list 2 (A0P r) so/\T 34=I r.length/\T 35=I i/\T 39=v/\T 40=I l.length/\T 41=I j/\Grow M2 Mj/\Arr 30 8 A0a.row M2.length Mj (T 8) (A3Y t (l.take j))) ?_ ?_
 .exact⟨0,Q0,by simp[t5],Q1,by simp[c],by simp[d],by simp[a],Q1,Q1,Q1,Grow.refl _,by simpa[A3Y]using Arr.nil⟩
 clear t5 c d a
 rintro T Mj ⟨j,j1,t5,t7,c,d,a,t39,m,g,z,ha⟩
 have au:=z.get aa Q1
 by_cases hj:j<l.length
 case neg=>have ao:¬(j:Int)<l.length:=Q0;rw[Z0e Q0]at ha;simp -dsimp[t5,t7,c,d,a,t39,m,g,ao];exact⟨z,ha⟩
 have ao:(j:Int)<l.length:=Q0
 have wj:=A1Y (i:=j) Q0
 obtain⟨x,hx⟩:=ex (l[j])
 have bn:=ah x (by rw[hx];exact Z0u hj)
 have bt:=C2Y bn
 have bq:(A3Y t (l.take j)).length<=(l.take j).length*3000:=B8z t _ λy hy=>C2Y (ah y (Z1m hy))
 rw[Z0s]at bq
 obtain⟨p,bg,ay⟩:=(ac.keep z).at_ hj
 rw[<-hx]at ay
 obtain⟨M3,am⟩:=ex (Mj++[A0l.cells 30 x.row])
 have an:Grow Mj M3:=by rw[am];exact A0d.app none _ _
 have b7:M3[Mj.length]?=some (.cells 30 x.row):=by rw[am];simp
 have al:=ha.keep an
 generalize n:T 8=ov at*
 simp -dsimp[t5,t7,c,d,a,t39,m,g,n,ao,hj,bg,ay,A0j,A0k,A0e,A0o,A0n]
 rw[<-am]
 rw[x.row_eq]at b7
 simp -dsimp[t5,t7,c,d,a,t39,m,g,n,A0b b7]
 have b1:=g
 have bw:M2.length<=M3.length:=(z.trans an).1
 refine A7f (.exit 5) (λT Mk=>T 5=.ptr b 0/\T 7=.ptr q 0/\T 33=.list 2 (A0P r) so/\T 34=I r.length/\T 35=I i/\T 39=v/\T 40=I l.length/\T 41=I j/\Grow M2 Mk/\Arr 30 8 A0a.row M2.length Mk (T 8) (A3Y t (l.take j)++x.kids.filter (A2F t))) ?_ ?_
 case refine_2=>clear t5 t7 c d a t39 m g ha al n;rintro T Mk ⟨t5,t7,c,d,a,t39,m,g,a0,ha⟩;simp -dsimp[t5,t7,c,d,a,t39,m,g,b1,wj];exact⟨⟨j+1,by clear wj;omega,rfl,a0,by rw[C3n hj,<-hx];exact ha⟩,by clear wj;omega⟩
 refine A1E (hQ [58]) x.kids.length 48 (λT Mk=>∃k:Nat,k<=x.kids.length/\T 5=.ptr b 0/\T 7=.ptr q 0/\T 33=.list 2 (A0P r) so/\T 34=I r.length/\T 35=I i/\T 39=v/\T 40=I l.length/\T 41=I j/\T 46=.list 8 (A0q x.kids) .no/\T 47=I x.kids.length/\T 48=I k/\Grow M2 Mk/\Arr 30 8 A0a.row M2.length Mk (T 8) (A3Y t (l.take j)++(x.kids.take k).filter (A2F t))) ?_ ?_
 .exact⟨0,Q0,by simp[t5],by simp[t7],by simp[c],by simp[d],by simp[a],by simp[t39],by simp[m],by simp[g],Q1,Q1,Q1,z.trans an,by simpa[n]using al⟩
 clear t5 t7 c d a t39 m g ha al n
 rintro T Mk ⟨k,k1,t5,t7,c,d,a,t39,m,g,t46,a2,a1,a0,ha⟩
 by_cases hk:k<x.kids.length
 case neg=>have af:¬(k:Int)<x.kids.length:=Q0;rw[Z0e (show x.kids.length<=k by omega)]at ha;simp -dsimp[t5,t7,c,d,a,t39,m,g,t46,a2,a1,af];exact⟨a0,ha⟩
 have af:(k:Int)<x.kids.length:=Q0
 obtain⟨y,hy⟩:=ex (x.kids[k])
 have bj:x.kids[k]=y:=hy.symm
 have bf:=a0.get br Q1
 obtain⟨M5,ar⟩:=ex (Mk++[A0l.cells 30 y.row])
 have ab:Grow Mk M5:=by rw[ar];exact A0d.app none _ _
 have av:M5[Mk.length]?=some (.cells 30 y.row):=by rw[ar];simp
 have bo:=ab.get bf Q1
 have ai:=ha.keep ab
 have b8:=B4a gl y t M5
 rw[show t.row=[I t.k,S t.lab]from rfl]at b8
 have a5:(x.kids.take (k+1)).filter (A2F t)=(x.kids.take k).filter (A2F t)++(if A2F t y=true then[y]else[]):=by rw[Z0A,Z0i hk,Z2U,hy];simp only[Z0X,Z2k,List.filter_nil]
 generalize n:T 8=ov at*
 simp -dsimp[t5,t7,c,d,a,t39,m,g,t46,a2,a1,n,af,hk,bj,A0j,A0k,A0e,A0o,A0n]
 rw[<-ar]
 simp -dsimp[t5,t7,c,d,a,t39,m,g,t46,a2,a1,n,A0b av,A0b bo]
 refine A0h func47 b8 ?_
 have w1:=A1Y (i:=k) Q0
 cases a6:A2F t y
 .rw[a6,Z0d Q1,Z1g]at a5;simp -dsimp[t5,t7,c,d,a,t39,m,g,t46,a2,a1,n,w1];exact⟨⟨k+1,Q3,rfl,a0.trans ab,by rw[a5];exact ai⟩,Q3⟩
 .rw[a6,Z0c rfl]at a5;simp -dsimp[t5,t7,c,d,a,t39,m,g,t46,a2,a1,n,A0b av,A0w,A1e,A0o,A0n];refine A3u (C:=WC gl) (enc:=A0a.row) (e:=30) (sz:=8) (news:=[y]) A7N B2e B0y A0a.row_len ai.own (by simp[A0D]) (by have q1:=Z1s (A2F t) (x.kids.take k);have q2:=List.length_take_le k x.kids;simp only[Z0k,List.length_singleton];omega) rfl ?_;intro v' M' h1 h2 h3 _;obtain⟨g1,g2⟩:=A2R (X:=[]) (a0.trans ab) ai.lat (by simpa using h2) (by simpa using h3);simp -dsimp[t5,t7,c,d,a,t39,m,g,t46,a2,a1,w1];exact⟨⟨k+1,Q3,rfl,g1,by rw[a5,<-Z0F];exact⟨h1,g2⟩⟩,Q3⟩
def D0n(u:A0a)(p:List A1n)(o:Own)(M:Mem)(hf:Fit u)(hn:(A0T u).Nodup)(hl:p.length<=9)(hp:∀i (h:i<p.length),C1y i p[i]):A0c (WC gl) 30 [.agg u.row,.list 2 (A0P p) o] M (λv M'=>v=.list 8 (A0q (A6A u p)) .no/\M'=M):=by
 cases p with
 |nil=>exact C9I gl u o M
 |cons s r=>exact C8n gl u s r o M hf (λi _=>by have h:=Sel.follow hn (r.take i) _ (B4r hn s);exact⟨Z0L h.len hf.2.2,λx hx=>A7v u hf x (h.sub x hx)⟩) hl hp
end
section
variable (gl:Nat->AV)
end
end Go.Abs
