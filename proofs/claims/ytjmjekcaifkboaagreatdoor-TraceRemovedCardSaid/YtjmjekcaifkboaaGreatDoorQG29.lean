/- The texts CbS, CbN, CbO, CbP, CbX0, CeP, CeQ, CfA, CfB, CeT, CeV, CeX, CeY, CgA, CgB, CfU, CgF. -/
import Derived.Test.YtjmjekcaifkboaaGreatDoorQG25
import Derived.Test.YtjmjekcaifkboaaGreatDoorQG17
import Derived.Test.YtjmjekcaifkboaaGreatDoorQG26
import Derived.Test.YtjmjekcaifkboaaGreatDoorQG24
import Derived.Test.YtjmjekcaifkboaaGreatDoorQG23
set_option linter.all false
set_option maxRecDepth 100000
namespace Go.Abs
open Go.Proofs TryTypes Tryz
def B2F{C:Ctx}{G:A0q}{M:Mem}{w:World}(hi:Inv C G M w):∀(l:List ByteArray) (b off:Nat),A0F G 1 (A0K l) b off->∀(j:Nat) x,l[j]?=some x->w.cell? ⟨b,off+j,none⟩=some (.string x)
 |[],_,_,_,j,x,hx=>by simp at hx
 |s::l,b,off,h,j,x,hx=>by
  simp only[A0K,Z0x,A0F,A0S]at h;obtain⟨⟨_,⟨v,hv,_,hr⟩,_⟩,h2⟩:=h;cases j with
  |zero=>simp at hx;subst hx;simp only[Rep]at hr;subst hr;exact hi.st _ _ _ hv
  |succ j=>have:=B2F hi l b (off+1) h2 j x ZDK;rw[show off+(j+1)=off+1+j by omega];exact this
def B3j(l:List UInt8):ByteArray:=⟨l.toArray⟩
def B5H(l:List ByteArray)(sep:ByteArray):ByteArray:=B3j (Lib.join (l.map (·.data.toList)) sep.data.toList)
section
variable (gl:Nat->AV) (M:Mem)
def C9d(l:List ByteArray)(o:Own)(d:ByteArray)(hN:l.length<=140737488355328)(g:(Lib.join (l.map (·.data.toList)) d.data.toList).length<=140737488355328):A0c (WC gl) 110 [.list 1 (A0K l) o,S d] M (λv M'=>v=S (B5H l d)/\M'=M):=by
 refine A5P λG w vs hi hr=>?_
 simp only[A0v]at hr
 obtain⟨y,_,rfl,hy,z,_,rfl,hz,rfl⟩:=hr
 simp only[Rep]at hy hz
 obtain⟨base,cap,rfl,hc,hm,hb,ho⟩:=hy
 subst hz
 rw[B5i]at hc
 have c:∀a,l=[]->Calls prog 110 #[.slice a l.length cap,.string d] w λe w'=>e=.returned (.string (B5H l d))/\RowKit.Below w.heap.size w w':=by rintro a rfl;exact Z1E (strings_Join_none a cap d w) λe w' ⟨he,hw⟩=>⟨he,hw▸RowKit.Below.refl _ _⟩
 show Calls prog 110 #[.slice base (A0K l).length cap,.string d] w _
 rw[B5i]
 cases base with
 |none=>
  have:l=[]:=by simpa[A0K]using hb.1
  exact c _ this
 |some a=>
  by_cases hl:l=[]
  .exact c _ hl
  .have hs:=hb.1 (by simpa[A0K]using hl);obtain⟨b,off,i⟩:=a;subst hs;have f:=B2F hi l b off hb.2;have hlt:b<w.heap.size:=by
    cases l with
    |nil=>exact absurd rfl hl
    |cons s l=>exact Z2I w ⟨b,off+0,none⟩ (f 0 s rfl)
   exact strings_Join b off cap l d w f hlt hN hc g
def D0L(s:ByteArray)(c:Nat)(hc:c<=9223372036854775807)(a:s.size*c<=140737488355328):A0c (WC gl) 322 [S s,I c] M (λv M'=>v=S (B3j (Lib.repeatL s.data.toList c))/\M'=M):=by
 refine A5P λG w vs hi hr=>?_
 simp only[A0v]at hr
 obtain⟨y,_,rfl,hy,z,_,rfl,hz,rfl⟩:=hr
 simp only[Rep]at hy hz
 subst hy
 subst hz
 exact strings_Repeat s c w hc a
end
def C3k:∀d:Fin 9,B3j (Lib.repeatL [32,32] d.val)=B4n d.val:=ZAR
def B5S:∀r:List ByteArray,A6K r=r.length+Lib.lens (r.map (·.data.toList))
 |[]=>rfl
 |a::r=>by rw[B1t,B5S r];simp only[Lib.lens,Z0x,List.sum_cons,Z0r];have:a.data.toList.length=a.size:=rfl;omega
def D3T(b:List UInt8)(hs:b.length=1):∀l:List ByteArray,l≠[]->(Lib.join (l.map (·.data.toList)) b).length+1=A6K l
 |[],h=>absurd rfl h
 |a::r,_=>by rw[Z0x,Lib.join_cons,Z0k,Lib.joinTail_length,hs,B1t,B5S,Z0W];have:a.data.toList.length=a.size:=rfl;omega
section
def A0a.lims_noKids{u:A0a}(h:u.lims):(A7H u).lims:=by obtain⟨a,b,c,d,e,f⟩:=u;rw[A0a.lims]at h;rw[A7H,A0a.lims];exact⟨⟨h.1.1,h.1.2.1,by simp[A0a.kids],h.1.2.2.2⟩,by rw[A5e];trivial⟩
def B0j{u:A0a}(h:Fit u):Fit (A7H u):=by
 obtain⟨h1,h2,h3⟩:=h;refine⟨?_,A0a.lims_noKids h2,?_⟩
 .obtain⟨a,b,c,d,e,f⟩:=u;obtain⟨g1,g2,g3,g4,g5,g6,g7,g8,g9⟩:=(A0a.good_iff _).1 h1;exact(A0a.good_iff _).2 ⟨by simp[A7H,A0a.id,IdD.good,idZ,inI],g2,g3,g4,g5,g6,g7,by simp[A7H,A0a.kids],by simp[A7H,A0a.kids]⟩
 .obtain⟨a,b,c,d,e,f⟩:=u;rw[A7H,A0y,A0I];omega
mutual
def B9i:∀u:A0a,u.lims->(A2u u).lims
 |.mk id k l h w ks,hl=>by rw[A0a.lims]at hl;rw[A2u,A0a.lims];refine⟨?_,B5T ks hl.2⟩;show(h.map A2K).length<=_/\(w.map A2K).length<=_/\(A3I ks).length<=_/\l.size<=_;rw[Z0W,Z0W,A8s,Z0W];exact hl.1
def B5T:∀ks:List A0a,A5e ks->A5e (A3I ks)
 |[],_=>by rw[A3I,A5e];trivial
 |k::ks,hl=>by rw[A5e]at hl;rw[A3I,A5e];exact⟨B9i k hl.1,B5T ks hl.2⟩
end
def C1i{u:A0a}(h:Fit u):Fit (A2u u):=⟨B9U u h.1,B9i u h.2.1,by rw[B1g];exact h.2.2⟩
def hMy:A2r:=⟨λd=>d !=2,λ_=>false,λ_=>false⟩
@[simp] def E3b:hMy.imm=λd=>d !=2:=(rfl)
section
variable (gl:Nat->AV)
def D9b(o:gl 2=A1t)(c:gl 8=A1E)(u:A0a)(d:Nat)(M:Mem)(hf:Fit u)(ha:A2R u=true)(hd:d<=8):A0c (WC gl) 321 [.agg u.row,I d] M (λv M'=>v=B true/\M'=M):=by
 have hS:=λM=>B8D gl (A7H u) A0C M (.inr ⟨by cases u;rfl,rfl⟩) (B0j hf).1 (B0j hf).2.1 (B0j hf).2.2
 have hV:=λM=>B8Z gl o c (A2u (A7H u)) M (C1i (B0j hf))
 rw[B9I (B3i _),B6s,C9M ha]at hV
 refine A0c.dataX ?_
 refine A1f hMy func321 rfl rfl rfl rfl rfl rfl ?_
 have m:A3C (A7H u) A0C=[I 0,I 0,I 0,I u.kind,S u.label,.list 4 (A0i u.head) .no,.list 4 (A0i u.words) .no,A0C]:=by cases u;rfl
 rw[m]at hS
 have h1:(0:Int)<=d:=Q0
 have h2:(d:Int)<=8:=Q0
 obtain⟨b,hb⟩:=ex (M.length)
 have k:u.row=[I u.id.act,I u.id.item,I u.id.n,I u.kind,S u.label,.list 4 (A0i u.head) .no,.list 4 (A0i u.words) .no,.list 8 (A0t u.kids) .no]:=u.row_eq
 obtain⟨M1,f⟩:=ex (M++[A0m.cells 31 u.row])
 have c:Grow M M1:=ZBT
 have hX:M1[b]?=some (A0m.cells 31 u.row):=by rw[f,hb];simp
 have hlt:b<M1.length:=(Z0a.1 hX).1
 obtain⟨N2,g⟩:=ex (M1.set b (.cells 31 [I 0,I 0,I 0,I u.kind,S u.label,.list 4 (A0i u.head) .no,.list 4 (A0i u.words) .no,.list 8 (A0t u.kids) .no]))
 have l:N2[b]?=some (.cells 31 [I 0,I 0,I 0,I u.kind,S u.label,.list 4 (A0i u.head) .no,.list 4 (A0i u.words) .no,.list 8 (A0t u.kids) .no]):=by rw[g];simp[hlt]
 obtain⟨M2,a⟩:=ex (M1.set b (.cells 31 [I 0,I 0,I 0,I u.kind,S u.label,.list 4 (A0i u.head) .no,.list 4 (A0i u.words) .no,A0C]))
 have i:N2.set b (.cells 31 [I 0,I 0,I 0,I u.kind,S u.label,.list 4 (A0i u.head) .no,.list 4 (A0i u.words) .no,A0C])=M2:=by rw[g,a,Z2q]
 have e:M2[b]?=some (.cells 31 [I 0,I 0,I 0,I u.kind,S u.label,.list 4 (A0i u.head) .no,.list 4 (A0i u.words) .no,A0C]):=by rw[a];simp[hlt]
 have p:Grow M M2:=⟨by rw[a];simpa using c.1,λj hj _=>by rw[a,Z0f Q0];exact c.2 j hj Q1⟩
 rw[k]at hX
 simp -dsimp[A0j]
 rw[<-f,<-hb]
 simp -dsimp[A6t,A0f hX]
 rw[<-g]
 simp -dsimp[A0f l,i,h1,h2,A0b e]
 refine A0s (A0l func309 rfl rfl (hS M2)) ?_
 rintro _ _ ⟨rfl,rfl⟩
 simp -dsimp[h1,h2,A0b e]
 refine A0s (A0l func286 rfl rfl (hV _)) ?_
 rintro _ _ ⟨rfl,rfl⟩
 simp -dsimp[h1,h2,A0b e]
 exact⟨p,.same trivial .nil⟩
def D8K(s:ByteArray)(ws:List A0z)(M:Mem)(hs:s.size<=1000000)(hl:ws.length<=1000000)(hw:∀w∈ws,1<=w.text.size/\w.text.size<=24):A0c (WC gl) 324 [S s,.list 4 (A0i ws) .no] M (λv M'=>v=S (B1b s ws)/\M'=M):=by
 refine A0c.dataX ?_
 refine A1f hB func324 rfl rfl rfl rfl rfl rfl ?_
 simp -dsimp
 refine A0M hB (λT M1=>∃i:Nat,i<=ws.length/\T 0=S (B1b s (ws.take i))/\T 7=.list 4 (A0i ws) .no/\T 8=I ws.length/\T 9=I i/\Grow M M1) (λT M1=>match T 9 with|.val (.int _ i)=>ws.length-i.toNat|_=>0) Q2 ?_ ?_
 .refine⟨0,Q0,by simp[B1b],Q1,Q1,Q1,A0d.refl _ _⟩
 rintro T M1 ⟨i,i1,t0,t7,t8,t9,hg⟩
 by_cases hi:i<ws.length
 case neg=>have a:¬(i:Int)<ws.length:=Q0;rw[Z0e Q0]at t0;simp -dsimp[t0,t7,t8,t9,a,hg];exact .same trivial .nil
 have a:(i:Int)<ws.length:=Q0
 have w1:=A1O (i:=i) Q0
 have h1:=hw _ (Z0s hi)
 have hp:B1b s (ws.take (i+1))=B1b s (ws.take i)++⟨#[32]⟩++B6K ws[i].text:=by rw[Z1s hi,B1b,Z1X];rfl
 obtain⟨p,e⟩:=ex (B1b s (ws.take i))
 obtain⟨h1,h2⟩:=h1
 have f:p.size<=27000000:=by have:=A9F (ws.take i) s λw h=>(hw w (Z1x h)).2;rw[<-e]at this;simp at this;omega
 have d:(⟨#[32]⟩:ByteArray).size=1:=rfl
 have c:(⟨#[92]⟩:ByteArray).size=1:=rfl
 have b1:¬(9223372036854775807:Int)<p.size+1:=Q0
 have b2:¬(9223372036854775807:Int)<p.size+1+1:=Q0
 have b3:¬(9223372036854775807:Int)<p.size+1+ws[i].text.size:=Q0
 have b4:¬(9223372036854775807:Int)<p.size+1+1+ws[i].text.size:=Q0
 have b5:0<ws[i].text.size:=h1
 obtain⟨t,ht⟩:=ex (ws[i].text)
 rw[<-e]at t0 hp
 have b:Grow M (M1++[A0m.cells 259 ws[i].row]):=hg.trans (A0d.app none _ _)
 have hX:(M1++[A0m.cells 259 [S ws[i].text,I ws[i].act,I ws[i].item,I ws[i].at_]])[M1.length]?=some (.cells 259 [S ws[i].text,I ws[i].act,I ws[i].item,I ws[i].at_]):=ZBG
 have b:Grow M (M1++[A0m.cells 259 [S ws[i].text,I ws[i].act,I ws[i].item,I ws[i].at_]]):=b
 by_cases c1:A2t ws[i].text 0=124
 .have he:B6K ws[i].text=⟨#[92]⟩++ws[i].text:=by rw[B6K,Z0c (.inl c1)]
  rw[he]at hp;simp -dsimp[t0,t7,t8,t9,a,hi,A0j,A0k,A0e,AV.storable,AV.cells,A0z.row,d,c,Z0M,b1,b2,b3,b4,b5,c1,w1,A0b hX];refine⟨⟨i+1,Q3,?_,rfl,b⟩,Q3⟩;rw[hp];simp only[C3R]
 by_cases c2:A2t ws[i].text 0=92
 .have he:B6K ws[i].text=⟨#[92]⟩++ws[i].text:=by rw[B6K,Z0c (.inr c2)]
  rw[he]at hp;simp -dsimp[t0,t7,t8,t9,a,hi,A0j,A0k,A0e,AV.storable,AV.cells,A0z.row,d,c,Z0M,b1,b2,b3,b4,b5,c1,c2,w1,A0b hX];refine⟨⟨i+1,Q3,?_,rfl,b⟩,Q3⟩;rw[hp];simp only[C3R]
 have he:B6K ws[i].text=ws[i].text:=by rw[B6K,Z0d (by simp[c1,c2])]
 rw[he]at hp
 simp -dsimp[t0,t7,t8,t9,a,hi,A0j,A0k,A0e,AV.storable,AV.cells,A0z.row,d,c,Z0M,b1,b2,b3,b4,b5,c1,c2,w1,A0b hX]
 exact⟨⟨i+1,Q3,by rw[hp],rfl,b⟩,Q3⟩
def A5K{l:List A0z}(h:A3o l=true):l.length<=256/\∀w∈l,1<=w.text.size/\w.text.size<=24:=by simp only[A3o,Z0h,Z0n,Z0D]at h;refine⟨h.1,λw hw=>?_⟩;have:=h.2 w hw;simp only[A2J,Z0h,Z0n]at this;exact this.1
def A4Y{u:A0a}(h:A2R u=true):(0<=u.kind/\u.kind<=7)/\A3o u.head=true/\A3o u.words=true:=by unfold A2R at h;simp only[Z0h,Z0n]at h;exact⟨h.1.1.1.1,h.1.1.2,h.1.2⟩
def C4B{k:Int}(h:0<=k/\k<=7):A4r k=A9w.getD k.toNat ⟨#[]⟩:=by
 have key:∀n:Fin 8,A9j.getD n.val .empty=A9w.getD n.val ⟨#[]⟩:=ZAR
 have:=key ⟨k.toNat,Q0⟩;rw[A4r,Z0c Q0,this]
def D6l(t:gl 2=A1t)(l:gl 8=A1E)(u:A0a)(d:Nat)(M:Mem)(hf:Fit u)(ha:A2R u=true)(hd:d<=8):A0c (WC gl) 311 [.agg u.row,I d] M (λv M'=>v=S (A6P u d)/\M'=M):=by
 obtain⟨hk,hh,hw⟩:=A4Y ha
 obtain⟨r,k⟩:=A5K hh
 obtain⟨o,j⟩:=A5K hw
 have x:=((A4c u hf.2.1).1).2.2.2
 have c:(⟨#[32]⟩:ByteArray).size=1:=rfl
 have a:(⟨#[58]⟩:ByteArray).size=1:=rfl
 have e3:(⟨#[32,124]⟩:ByteArray).size=2:=rfl
 have f:=λM=>D0L gl M ⟨#[32,32]⟩ d Q0 (by show 2*d<=_;omega)
 have hdr:B3j (Lib.repeatL (⟨#[32,32]⟩:ByteArray).data.toList d)=B4n d:=C3k ⟨d,Q0⟩
 rw[hdr]at f
 have z:=B3a d
 have hn:=C4B hk
 have key:∀n:Fin 8,(A9w.getD n.val ⟨#[]⟩).size<=9:=ZAR
 have m:=key ⟨u.kind.toNat,Q0⟩
 have g:B2C u d=B4n d++A9w.getD u.kind.toNat ⟨#[]⟩:=rfl
 simp only at m
 rw[<-hn]at g m
 have b1:¬(9223372036854775807:Int)<(B4n d).size+(A4r u.kind).size:=Q0
 have a0:(B2C u d).size<=2*d+9:=by rw[g,Z0M];omega
 have a1:(A8O u d).size<=2*d+1010:=by
  unfold A8O;split
  .omega
  .rw[Z0M,Z0M,c];omega
 have y:(A7s u d).size<=2*d+7700:=by
  unfold A7s;split
  .omega
  .have:=A9F u.head (A8O u d++⟨#[58]⟩) (λw h=>(k w h).2);rw[Z0M,a]at this;omega
 have b2:¬(9223372036854775807:Int)<1+u.label.size:=Q0
 have b3:¬(9223372036854775807:Int)<(B2C u d).size+(1+u.label.size):=Q0
 have b4:¬(9223372036854775807:Int)<(A8O u d).size+1:=Q0
 have b5:¬(9223372036854775807:Int)<(A7s u d).size+2:=Q0
 refine A1f hB func311 rfl rfl rfl rfl rfl rfl ?_
 simp -dsimp[u.row_eq]
 refine A0s (A0l func321 rfl rfl (u.row_eq▸D9b gl t l u d M hf ha hd)) ?_
 rintro _ M ⟨rfl,rfl⟩
 simp -dsimp
 refine A0X hB (A0B gl) (λ_=>0) (λ_=>0) (by rfl) Q2 ?_
 simp -dsimp
 refine A1k (λM=>A0l func322 rfl rfl (f M)) ?_
 simp -dsimp
 refine A1k (λM=>A0l func323 rfl rfl (B1f gl M l _)) ?_
 have q1:B4n d++A4r u.kind=B2C u d:=g.symm
 have b:∀ws:List A0z,ws.length<=256->(∀w∈ws,1<=w.text.size/\w.text.size<=24)->∀s,s.size<=1000000->∀M,A0c (WC gl) 324 [S s,.list 4 (A0i ws) .no] M (λv M'=>v=S (B1b s ws)/\M'=M):=λws h1 h2 s h3 M=>D8K gl s ws M h3 Q0 h2
 by_cases k0:u.kind=0
 .have e:=ha;unfold A2R at e;simp only[k0,Z1e,Z0h,Z0n]at e;have z1:u.head.length=0:=e.2.1.2;have z2:u.words.length=0:=e.2.2;have q:A6P u d=B2C u d:=by rw[A6P,Z0c z2,A7s,Z0c z1,A8O,Z0c k0]
  rw[k0]at b1 q1|-;simp -dsimp[b1,k0,q1,z1,z2,q]
 have q2:B2C u d++(⟨#[32]⟩++u.label)=A8O u d:=by rw[A8O,Z0d k0]
 by_cases z1:u.head.length=0
 .have q3:A8O u d=A7s u d:=by rw[A7s,Z0c z1]
  by_cases z2:u.words.length=0
  ·(have q4:A7s u d=A6P u d:=by rw[A6P,Z0c z2]);simp -dsimp[b1,k0,q1,q2,z1,z2,c,a,e3,Z0M,b2,b3,q3,q4]
  .have i:0<u.words.length:=Q0;(have q4:A6P u d=B1b (A7s u d++⟨#[32,124]⟩) u.words:=by rw[A6P,Z0d z2]);simp -dsimp[b1,k0,q1,q2,z1,i,c,a,e3,Z0M,b2,b3,b5,q3];refine A0s (A0l func324 rfl rfl (b u.words o j _ (by rw[Z0M,e3];omega) M)) ?_;rintro _ M ⟨rfl,rfl⟩;simp -dsimp[q4]
 have p:0<u.head.length:=Q0
 have q3:A7s u d=B1b (A8O u d++⟨#[58]⟩) u.head:=by rw[A7s,Z0d z1]
 simp -dsimp[b1,k0,q1,q2,p,c,a,e3,Z0M,b2,b3,b4]
 refine A0s (A0l func324 rfl rfl (b u.head r k _ (by rw[Z0M,a];omega) M)) ?_
 rintro _ M ⟨rfl,rfl⟩
 rw[<-q3]
 by_cases z2:u.words.length=0
 .have q4:A7s u d=A6P u d:=by rw[A6P,Z0c z2]
  simp -dsimp[z2,q4]
 .have i:0<u.words.length:=Q0;have q4:A6P u d=B1b (A7s u d++⟨#[32,124]⟩) u.words:=by rw[A6P,Z0d z2]
  simp -dsimp[i,e3,b5];refine A0s (A0l func324 rfl rfl (b u.words o j _ (by rw[Z0M,e3];omega) M)) ?_;rintro _ M ⟨rfl,rfl⟩;simp -dsimp[q4]
end
end
section
structure B6c (n:Nat) (M0 M:Mem) (xs:List ByteArray):Prop where
 low:A4E n M0 M
 len:n+2<=M.length
 fn:M[n+1]?=some (.cells 340 [.func (.func 310) [] [.ptr n 0,.ptr (n+1) 0]])
 arr:∃v,M[n]?=some (.cells 48 [v])/\A1r 9 1 A8m M v xs/\A1L (n+2) v
def B6c.app{n:Nat}{M0 M:Mem}{xs:List ByteArray}(h:B6c n M0 M xs)(X:Mem):B6c n M0 (M++X) xs:=by
 obtain⟨h1,h2,h3,v,h4,h5,h6⟩:=h;have hl:∀j Y,M[j]?=some Y->(M++X)[j]?=some Y:=λj Y h=>by rw[Z0o (Z0a.1 h).1];exact h
 refine⟨⟨by simp;have:=h1.1;omega,λj hj=>?_⟩,ZAB,hl _ _ h3,v,hl _ _ h4,h5.keep (A0d.app none M X) Q1,h6⟩;rw[Z0o Q0];exact h1.2 j hj
mutual
def B3U:∀(d:Nat) (u:A0a),(A5Z d u).length=A0y u
 |d,.mk _ _ _ _ _ ks=>by rw[A5Z,A0y,Z0r,B0x (d+1) ks];omega
def B0x:∀(d:Nat) (ks:List A0a),(A6e d ks).length=A0I ks
 |d,[]=>by rw[A6e,A0I];rfl
 |d,k::ks=>by rw[A6e,A0I,Z0k,B3U d k,B0x d ks]
end
def C6f{d:Nat}{ks:List A0a}{i:Nat}(h:i<ks.length):A6e d (ks.take (i+1))=A6e d (ks.take i)++A5Z d ks[i]:=by
 induction ks generalizing i with
 |nil=>simp at h
 |cons k ks ih=>
  cases i with
  |zero=>simp[A6e]
  |succ i=>simp only[Z1h,A6e,Z1P];rw[ih ZAJ,Z0F]
def A4S{u:A0a}(h:A1u u=true):A2R u=true:=by obtain⟨a,b,c,d,e,f⟩:=u;rw[A1u,Z0h]at h;exact h.1
def B8G{p:Int}:∀{ks b:List A0a},A4o p ks b=true->∀k∈ks,A1u k=true
 |[],_,_,k,hk=>by simp at hk
 |a::ks,b,h,k,hk=>by
  rw[A4o]at h;simp only[Z0h]at h;rcases Z0p.1 hk with rfl|hk
  .exact h.1.1.2
  .exact B8G h.2 k hk
def B1V{u:A0a}(h:A1u u=true):∀k∈u.kids,A1u k=true:=by obtain⟨a,b,c,d,e,f⟩:=u;rw[A1u,Z0h]at h;exact B8G h.2
def B3v:∀{ks:List A0a},∀k∈ks,1+A1m k<=A1P ks
 |[],k,hk=>by simp at hk
 |a::ks,k,hk=>by
  rw[A1P];rcases Z0p.1 hk with rfl|hk
  .omega
  .have:=B3v k hk;omega
def D1m{u:A0a}:∀k∈u.kids,1+A1m k<=A1m u:=by obtain⟨a,b,c,d,e,f⟩:=u;intro k hk;rw[A1m];exact B3v k hk
def B6i{ks:List A0a}{i:Nat}(h:i<ks.length):A0I (ks.take i)+A0y ks[i]<=A0I ks:=by
 induction ks generalizing i with
 |nil=>simp at h
 |cons k ks ih=>
  cases i with
  |zero=>simp[A0I]
  |succ i=>have:=ih (i:=i) ZAJ;simp only[Z1h,A0I,Z1P];omega
def hLn:A2r:=⟨λ_=>true,λ_=>false,λd=>d==13⟩
@[simp] def E4i:hLn.imm=λ_=>true:=(rfl)
@[simp] def E5f:hLn.own=λ_=>false:=(rfl)
@[simp] def E4Q:hLn.vec=λd=>d==13:=(rfl)
section
variable (gl:Nat->AV)
set_option maxHeartbeats 1000000 in
def C1b(a5:gl 2=A1t)(a3:gl 8=A1E):∀(N:Nat) (U:A0a) (d n:Nat) (M0 M:Mem) (xs:List ByteArray),A0y U<=N->Fit U->A1u U=true->d+A1m U<=8->B6c n M0 M xs->xs.length+A0y U<=3000->
 A0c (WC gl) 310 [.agg U.row,I d,.ptr n 0,.ptr (n+1) 0] M (λv M'=>B6c n M0 M' (xs++A5Z d U))
 |0,U,d,n,M0,M,xs,hN,hf,hr,hdep,ho,hc=>by have:=A8q U;omega
 |N+1,U,d,n,M0,M,xs,hN,hf,hr,hdep,ho,hc=>by
  obtain⟨ks,g⟩:∃ks,U.kids=ks:=⟨_,rfl⟩;have ha:=A4S hr;have a:=λM=>D6l gl a5 a3 U d M hf ha Q0;refine A1f hLn func310 rfl rfl rfl rfl rfl rfl ?_;obtain⟨v0,c,a1,l⟩:=ho.arr;have hlt:n<M.length:=(Z0a.1 c).1;rw[U.row_eq]at a;simp -dsimp[U.row_eq];refine A7r hLn (A0B gl) (λk=>if k=0 then 1 else if k=5\/k=6 then 2 else 0) (λ_=>n) (λ_ k=>k==6) (λk=>if k=6 then[]else[n]) (by intro i k _ h;have:k≠6:=ZAJ;simp[this]) (by rfl) Q2 ?_;simp -dsimp[A0b c,A1e,A5t];refine A1k (λM=>A0l func311 rfl rfl (a M)) ?_;simp -dsimp[A0x,A1g,AV.storable,AV.cells];have a8:=A6h U;rw[g]at a8;refine A3B (C:=WC gl) (enc:=A8m) (e:=9) (sz:=1) (news:=[A6P U d]) B7u C3S D3I (λ_=>rfl) a1 ZDC ZAB rfl ?_;intro v1 M2 p1 p2 p3 _;have s:M2[n]?=some (.cells 48 [v0]):=p2.get c (λe=>by have:=l n e;omega);have a6:M2[n+1]?=some (.cells 340 [.func (.func 310) [] [.ptr n 0,.ptr (n+1) 0]]):=p2.get ho.fn (λe=>by have:=l _ e;omega);have t:n<M2.length:=(Z0a.1 s).1;have y:A1L (n+2) v1:=λf hf=>by
   rcases p3 with e|e
   .exact l f (e▸hf)
   .have:=e f hf;have:=ho.len;omega
  have a2:n+2<=M2.length:=Z0J ho.len p2.1;have u:B6c n M0 (M2.set n (.cells 48 [v1])) (xs++[A6P U d]):=by
   refine⟨⟨by have:=ho.low.1;have:=p2.1;simp;omega,λj hj=>?_⟩,by simpa using a2,?_,v1,?_,?_,y⟩
   .rw[Z0f Q0,p2.2 j Q0 (λe=>by have:=l _ e;omega)];exact ho.low.2 j hj
   .rw[Z0f Q0];exact a6
   .simp[t]
   .exact p1.keep ⟨Q1,λj hj h=>by rw[Z0f];rintro rfl;exact h rfl⟩ (o:=some n) (λf hf e=>by simp at e;have:=y f hf;omega)
  have w:A0k (some 1) M2 (.ptr n 0) v1=some (M2.set n (.cells 48 [v1])):=by rw[A0f s,p1.cells,Z0c ⟨p1.store,Q1,rfl⟩];rfl
  obtain⟨M3,a0⟩:=ex (M2.set n (.cells 48 [v1]));rw[<-a0]at u w;have a4:M2[n]?=M[n]?:=by rw[s,c]
  simp -dsimp[w,a4];clear w a0 a2 y t a6 s p1 p2 p3 a4 c a1 l hlt a;refine A0M hLn (λT M5=>∃i:Nat,i<=ks.length/\T 1=I d/\T 2=.ptr n 0/\T 3=.ptr (n+1) 0/\T 15=.list 8 (A0t ks) .no/\T 16=I ks.length/\T 17=I i/\B6c n M0 M5 (xs++[A6P U d]++A6e (d+1) (ks.take i))) (λT M1=>match T 17 with|.val (.int _ i)=>ks.length-i.toNat|_=>0) Q2 ?_ ?_
  .exact⟨0,Q0,Q1,Q1,Q1,by simp[g],by simp[g],Q1,by simpa[A6e]using u⟩
  clear u;rintro T M5 ⟨i,i1,t1,t2,t3,r,p,q,h5⟩;by_cases hi:i<ks.length;case neg=>have x:¬(i:Int)<ks.length:=Q0;rw[Z0e Q0]at h5;(have hL:A5Z d U=A6P U d::A6e (d+1) ks:=by rw[<-g];cases U;rw[A5Z];rfl);simp -dsimp[t1,t2,t3,r,p,q,x];rw[hL];simpa using h5
  have x:(i:Int)<ks.length:=Q0;have w1:=A1O (i:=i) (by have:=A2D ks;have:=hf.2.2;omega);have w2:=A1O (i:=d) Q0;have a7:ks[i]∈ks:=Z0s hi;have b:ks[i]∈U.kids:=by rw[g];exact a7
  have aa:=D1m _ b;have ab:A0I (ks.take i)+A0y ks[i]<=A0I ks:=B6i hi;have h6:=h5.app [A0m.cells 31 ks[i].row];have m:=C1b a5 a3 N ks[i] (d+1) n M0 _ _ Q0 (C8V hf _ b) (B1V hr _ b) Q0 h6 (by simp[B0x];omega);obtain⟨M6,z⟩:=ex (M5++[A0m.cells 31 ks[i].row]);have a9:M6[M5.length]?=some (A0m.cells 31 ks[i].row):=by rw[z];simp
  rw[<-z]at m h6;simp -dsimp[t1,t2,t3,r,p,q,hi,x,A0j,A0k,A0e,AV.storable,AV.cells];rw[<-z];simp -dsimp[t1,t2,t3,r,p,q,A0b a9,A0b h6.fn,w2];refine A0s (A0l func310 rfl rfl m) ?_;intro _ M7 h7;simp -dsimp[t1,t2,t3,r,p,q,w1];refine⟨⟨i+1,Q3,rfl,?_⟩,Q3⟩;rw[C6f hi];simpa using h7
def C3V{n:Nat}{M:Mem}{v:AV}{l:List ByteArray}(h:A1r 9 1 A8m M v l)(hl:A1L n v){cs ds:List AV}(hr:Still M n (bdd n) cs ds):Still M n (bdd n) (v::cs) (.list 1 (A0K l) .no::ds):=Still.append (a:=[v]) (b:=[.list 1 (A0K l) .no]) (A3i (λ_=>rfl) D5b h hl) hr
def D3r(b:gl 2=A1t)(d:gl 8=A1E)(u:A0a)(M:Mem)(hf:Fit u):A0c (WC gl) 285 [.agg u.row] M (λv M'=>v=(if B0O u=true then .list 1 (A0K (A5Z 0 u)) .no else A0C)/\M'=M):=by
 have hS:=λM=>B8D gl u (.list 8 (A0t u.kids) .no) M (.inl rfl) hf.1 hf.2.1 hf.2.2
 have hV:=λM=>B8Z gl b d (A2u u) M (C1i hf)
 rw[B9I (B3i u),B6s]at hV
 rw[show A3C u (.list 8 (A0t u.kids) .no)=u.row from u.row_eq.symm]at hS
 refine A0c.dataX ?_
 refine A1f hLn func285 rfl rfl rfl rfl rfl rfl ?_
 cases hfm:B0O u
 .rw[hfm]at hV;rw[u.row_eq]at hS|-;simp -dsimp;refine A0s (A0l func309 rfl rfl (hS M)) ?_;rintro _ M ⟨rfl,rfl⟩;simp -dsimp;refine A0s (A0l func286 rfl rfl (hV M)) ?_;rintro _ M ⟨rfl,rfl⟩;simp -dsimp;exact⟨Grow.refl _,.same (by simp[bdd]) .nil⟩
 rw[hfm]at hV
 have c:=hfm
 simp only[B0O,Z0h,Z0n]at c
 have ho:B6c M.length M (M++[.cells 48 [A0C],.cells 340 [.func (.func 310) [] [.ptr M.length 0,.ptr (M.length+1) 0]]]) []:=by refine⟨⟨Q1,λj hj=>by rw[Z0o hj]⟩,Q1,by simp[Z0Z],A0C,Q1,.nil,λf hf=>by simp at hf⟩
 have a:=C1b gl b d _ u 0 M.length M _ [] (Z0j _) hf c.1.1 Q0 ho (by have:=hf.2.2;simp;omega)
 have hX:=ho.fn
 have e:A0k (some 1) (M++[.cells 48 [A0C],.cells 340 [.val .nilFunc]]) (.ptr (M.length+1) 0) (.func (.func 310) [] [.ptr M.length 0,.ptr (M.length+1) 0])=some (M++[.cells 48 [A0C],.cells 340 [.func (.func 310) [] [.ptr M.length 0,.ptr (M.length+1) 0]]]):=by rw[A0f (bt:=340) (cs:=[.val .nilFunc]) (by simp[Z0Z])];simp[List.set_append,A0e,AV.storable,AV.cells]
 rw[u.row_eq]at hS a|-
 simp -dsimp
 refine A0s (A0l func309 rfl rfl (hS M)) ?_
 rintro _ M ⟨rfl,rfl⟩
 simp -dsimp
 refine A0s (A0l func286 rfl rfl (hV M)) ?_
 rintro _ M ⟨rfl,rfl⟩
 simp -dsimp[A0j,e,A0b hX]
 refine A0s (A0l func310 rfl rfl a) ?_
 rintro _ M2 ⟨h1,h2,h3,v,h4,h5,h6⟩
 simp -dsimp[A0b h4]
 refine⟨h1.grow (Grow.refl _) (Z0j _),?_⟩
 exact C3V h5 (λf hf=>by have:=h6 f hf;omega) .nil
end
end
section
def D0t(u:A0a)(d:Nat)(ha:A2R u=true)(g:u.label.size<=1000):(A6P u d).size<=2*d+15000:=by
 obtain⟨hk,hh,hw⟩:=A4Y ha;obtain⟨o,f⟩:=A5K hh;obtain⟨m,c⟩:=A5K hw;have e:(⟨#[32]⟩:ByteArray).size=1:=rfl;have b:(⟨#[58]⟩:ByteArray).size=1:=rfl;have e3:(⟨#[32,124]⟩:ByteArray).size=2:=rfl;have k:=B3a d;have key:∀n:Fin 8,(A9w.getD n.val ⟨#[]⟩).size<=9:=ZAR
 have a:=key ⟨u.kind.toNat,Q0⟩;simp only at a;have i:(B2C u d).size<=2*d+9:=by rw[B2C,Z0M];omega
 have l:(A8O u d).size<=2*d+1010:=by
  unfold A8O;split
  .omega
  .rw[Z0M,Z0M,e];omega
 have j:(A7s u d).size<=2*d+7700:=by
  unfold A7s;split
  .omega
  .have:=A9F u.head (A8O u d++⟨#[58]⟩) (λw h=>(f w h).2);rw[Z0M,b]at this;omega
 unfold A6P;split
 .omega
 .have:=A9F u.words (A7s u d++⟨#[32,124]⟩) (λw h=>(c w h).2);rw[Z0M,e3]at this;omega
mutual
def B5V:∀(u:A0a) (d:Nat),A1u u=true->u.lims->d+A1m u<=8->A6K (A5Z d u)<=A0y u*15020
 |.mk a b c e f ks,d,hr,hl,hd=>by have h1:=D0t _ d (A4S hr) (A4c _ hl).1.2.2.2;rw[A0a.lims]at hl;rw[A1u,Z0h]at hr;rw[A1m]at hd;have h2:=B5F ks (d+1) b [] hr.2 hl.2 (λh=>by omega);rw[A5Z,B1t,A0y];omega
def B5F:∀(ks:List A0a) (d:Nat) (p:Int) (bf:List A0a),A4o p ks bf=true->A5e ks->(ks≠[]->d+A1P ks<=9)->A6K (A6e d ks)<=A0I ks*15020
 |[],d,p,bf,_,_,_=>by rw[A6e,A0I];simp
 |k::ks,d,p,bf,hr,hl,hd=>by rw[A4o]at hr;simp only[Z0h]at hr;rw[A5e]at hl;have hd:=hd Q1;rw[A1P]at hd;have h1:=B5V k d hr.1.1.2 hl.1 Q0;have h2:=B5F ks d p _ hr.2 hl.2 (λ_=>by omega);rw[A6e,C7a,A0I];omega
end
def D1Y(d:Nat)(u:A0a):A5Z d u≠[]:=by cases u;rw[A5Z];simp
section
variable (gl:Nat->AV)
def D0a(f:gl 2=A1t)(e:gl 8=A1E)(u:A0a)(M:Mem)(hf:Fit u):A0c (WC gl) 256 [.agg u.row] M (λv M'=>(∃t,v=.tuple [S t,I (C4V u)])/\M'=M):=by
 refine A1f hB func256 rfl rfl rfl rfl rfl rfl ?_
 have hL:=D3r gl f e u M hf
 cases hfm:B0O u
 .rw[hfm,Z0d Q1]at hL;have hE:C4V u=1:=by simp[C4V,hfm]
  rw[u.row_eq]at hL|-;simp -dsimp;refine A0s (A0l func285 rfl rfl hL) ?_;rintro _ M ⟨rfl,rfl⟩;simp -dsimp[hE]
 rw[hfm,Z0c rfl]at hL
 have c:=hfm
 simp only[B0O,Z0h,Z0n]at c
 obtain⟨L,k⟩:=ex (A5Z 0 u)
 have l:=B5V u 0 c.1.1 hf.2.1 Q0
 have a:=D1Y 0 u
 have j:=B3U 0 u
 have hE:C4V u=if 16384<A6K (A5Z 0 u)then 6 else 0:=by simp[C4V,hfm]
 rw[<-k]at hL l a j hE
 have m:=hf.2.2
 have i:=D3T [10] rfl L a
 have g:0<L.length:=by rcases L with _|_<;>simp at a|-
 have b:¬(L.length:Int)=0:=Q0
 have n:(B5H L ⟨#[10]⟩).size+1=A6K L:=i
 have hj:=λM=>C9d gl M L .no ⟨#[10]⟩ Q0 (by show(Lib.join _ [10]).length<=_;omega)
 rw[u.row_eq]at hL|-
 simp -dsimp
 refine A0s (A0l func285 rfl rfl hL) ?_
 rintro _ M ⟨rfl,rfl⟩
 simp -dsimp[B5i,b,g,a]
 refine A0s (A0l func110 rfl rfl (hj M)) ?_
 rintro _ M ⟨rfl,rfl⟩
 have d:(⟨#[10]⟩:ByteArray).size=1:=rfl
 have b1:¬(9223372036854775807:Int)<(B5H L ⟨#[10]⟩).size+1:=Q0
 by_cases hbig:16384<A6K L
 .have h2:(16384:Int)<(B5H L ⟨#[10]⟩).size+1:=Q0;rw[Z0c hbig]at hE;simp -dsimp[d,b1,Z0M,h2,hE]
 .have h2:¬(16384:Int)<(B5H L ⟨#[10]⟩).size+1:=Q0;rw[Z0d hbig]at hE;simp -dsimp[d,b1,Z0M,h2,hE]
end
end
open Go.Proofs TryTypes
mutual
def C2F(P:A0a->Prop)(hk:∀u,P u->∀k∈u.kids,P k):∀u:A0a,P u->∀v∈A2j u,P v
 |.mk a b c d e ks,h,v,hv=>by
  rw[A2j]at hv;rcases Z0p.1 hv with rfl|hv
  .exact h
  .exact C4m P hk ks (λk hm=>hk _ h k hm) v hv
def C4m(P:A0a->Prop)(hk:∀u,P u->∀k∈u.kids,P k):∀ks:List A0a,(∀k∈ks,P k)->∀v∈A3F ks,P v
 |[],_,v,hv=>by rw[A3F]at hv;simp at hv
 |k::ks,h,v,hv=>by
  rw[A3F]at hv;rcases Z0N.1 hv with hv|hv
  .exact C2F P hk k (h k Q1) v hv
  .exact C4m P hk ks (λq hq=>h q ZBH) v hv
end
def A2U{u v:A0a}{x:IdD}(h:A0N x u=some v):v.id=x/\v∈A2j u:=by rw[A9C]at h;refine⟨?_,Z4p h⟩;have:=List.find?_some h;simpa using this
section
end
def D6n:A1K prog .neq 257 (.agg [I 0,I 0,I 0]) (.agg [I 0,I 0,I 0])=some (B false):=Q2
section
variable (gl:Nat->AV) (M:Mem)
end
section
variable (gl:Nat->AV)
end
def B4v{k v:A0a}(hv:v∈A2j k):∀{ks:List A0a},k∈ks->v∈A3F ks
 |b::bs,hk=>by
  rw[A3F];rcases Z0p.1 hk with rfl|hk
  .exact Z2A _ hv
  .exact Z3e _ (B4v hv hk)
section
end
section
end
def C7I{x:IdD}{u:A0a}(h:x∉A0V u):A1h x u=[]:=by
 have h1:=A3N x u;cases hr:A1h x u with
 |nil=>rfl
 |cons r rs=>
  rw[hr]at h1;cases hl:(r::rs).getLast? with
  |none=>simp at hl
  |some v=>rw[hl]at h1;obtain⟨e1,e2⟩:=A2U h1;exact absurd (by rw[<-A5D,<-e1];exact Z0C.2 ⟨v,e2,rfl⟩) h
def C4z{k:A0a}{x:IdD}(hx:x∈A0V k):∀{ks:List A0a},k∈ks->x∈A2Y ks
 |b::bs,hk=>by
  rw[A2Y];rcases Z0p.1 hk with rfl|hk
  .exact Z2A _ hx
  .exact Z3e _ (C4z hx hk)
def B5z{x:IdD}:∀{ks:List A0a} {k:A0a},(A2Y ks).Nodup->k∈ks->x∈A0V k->A1h x k≠[]->A3w x ks=A1h x k
 |a::ks,k,hn,hk,hx,hne=>by
  rw[A2Y]at hn;obtain⟨n1,n2,n3⟩:=Z2D.1 hn;rw[A3w];rcases Z0p.1 hk with rfl|hk
  .cases hr:A1h x k with
   |nil=>exact absurd hr hne
   |cons r rs=>rfl
  ·(have:x∉A0V a:=λh=>by refine n3 x h x ?_ rfl;exact C4z hx hk);rw[C7I this];exact B5z n2 hk hx hne
def D4o(u:A0a):u.id∈A0V u:=by obtain⟨a,b,c,d,e,f⟩:=u;rw[A0V];simp[A0a.id]
def B3d{k:A0a}:∀{ks:List A0a},(A2Y ks).Nodup->k∈ks->(A0V k).Nodup
 |b::bs,hn,hk=>by
  rw[A2Y]at hn;obtain⟨n1,n2,n3⟩:=Z2D.1 hn;rcases Z0p.1 hk with rfl|hk
  .exact n1
  .exact B3d n2 hk
def B9M{q:A0a}:∀{ks:List A0a},q∈A3F ks->∃k∈ks,q∈A2j k
 |[],h=>by rw[A3F]at h;simp at h
 |b::bs,h=>by
  rw[A3F]at h;rcases Z0N.1 h with h|h
  .exact⟨b,Q1,h⟩
  .obtain⟨k,hk,hq⟩:=B9M h;exact⟨k,by simp[hk],hq⟩
def A4G(u:A0a):u∈A2j u:=by obtain⟨a,b,c,d,e,f⟩:=u;rw[A2j];simp
mutual
def A7B:∀(u v:A0a),v∈A2j u->∀k∈v.kids,k∈A2j u
 |.mk a b c d e ks,v,hv,k,hk=>by
  rw[A2j]at hv|-;rcases Z0p.1 hv with rfl|hv
  .exact Z1v _ (B4v (A4G k) hk)
  .exact Z1v _ (B4X ks v hv k hk)
def B4X:∀(ks:List A0a) (v:A0a),v∈A3F ks->∀k∈v.kids,k∈A3F ks
 |[],v,hv,_,_=>by rw[A3F]at hv;simp at hv
 |a::ks,v,hv,k,hk=>by
  rw[A3F]at hv|-;rcases Z0N.1 hv with hv|hv
  .exact Z2A _ (A7B a v hv k hk)
  .exact Z3e _ (B4X ks v hv k hk)
end
def B7r(y:A0a):A1h y.id y=[y]:=by obtain⟨a,b,c,d,e,f⟩:=y;rw[A1h];exact Z0c rfl
def C5f(y:A0a):∀(u q:A0a),(A0V u).Nodup->q∈A2j u->y∈q.kids->∃b,A1h y.id u=b++[q,y]
 |.mk id k l h w ks,q,hn,hq,hy=>by
  rw[A0V]at hn;rw[A2j]at hq;obtain⟨n1,n2⟩:=Z1B.1 hn;have f:y∈A3F ks:=by
   rcases Z0p.1 hq with rfl|hq
   .exact B4v (A4G y) hy
   .exact B4X ks q hq y hy
  have g:id≠y.id:=λe=>n1 (by rw[e,<-B3V];exact Z0C.2 ⟨y,f,rfl⟩);rw[A1h,Z0d g];rcases Z0p.1 hq with rfl|hq
  .have hy:y∈ks:=hy;rw[B5z n2 hy (D4o y) (by rw[B7r];simp),B7r];exact⟨[],rfl⟩
  .obtain⟨c,hc,d⟩:=B9M hq;have:=A0a.kid_lt (u:=.mk id k l h w ks) hc;obtain⟨b,hp⟩:=C5f y c q (B3d n2 hc) d hy;(have i:y.id∈A0V c:=by rw[<-A5D];exact Z0C.2 ⟨y,A7B c q d y hy,rfl⟩);rw[B5z n2 hc i (by rw[hp];simp),hp];cases b with
   |nil=>exact⟨[_],rfl⟩
   |cons a b=>exact⟨_::a::b,rfl⟩
termination_by u=>SizeOf.sizeOf u
def C6Z{u q y:A0a}(hn:(A0V u).Nodup)(hq:q∈A2j u)(hy:y∈q.kids):A7R y.id u=some q:=by obtain⟨a,hp⟩:=C5f y u q hn hq hy;rw[A7R,hp,show a++[q,y]=(a++[q])++[y]by simp,List.dropLast_concat];simp
section
end
abbrev fnV(g:FuncId):AV:=.func (.func g) [] []
abbrev z4:A0m:=.cells 278 [I 0,I 0,I 0,I 0]
section
variable (gl:Nat->AV)
end
section
variable (gl:Nat->AV)
end
def C2L{P:Program}{t kt et:TypeId}{k v:AV}{es:List (AV×AV×Nat)}{c:Nat}{M:Mem}(h1:A8r P t=some (kt,et))(h2:(A6E P kt||B6j P kt)=true)(h3:A4P P 30 kt k=true)(h4:A2Q P kt k es=some none):A2b P t (M++[.map es c]) (.mapr M.length) k v=some (M++[.map (es++[(k,v,c)]) (c+1)]):=by
 have h:(M++[A0m.map es c])[M.length]?=some (.map es c):=ZBG
 simp only[A2b,h1,h,h2,h3,Z2H,Z1e,h4]
 simp
def A7F{k:Int}{v:AV}{es:List (AV×AV×Nat)}{c:Nat}{M:Mem}(h4:A2Q prog 3 (I k) es=some none):A2b prog 183 (M++[.map es c]) (.mapr M.length) (I k) v=some (M++[.map (es++[(I k,v,c)]) (c+1)]):=C2L (kt:=3) (et:=181) Q2 Q2 rfl h4
def rlV(a b:FuncId):AV:=.agg [fnV a,fnV b]
def ruE:List (AV×AV×Nat):=[(I 0,rlV 182 183,0),(I 1,rlV 186 187,1),(I 2,rlV 188 189,2),(I 3,rlV 192 193,3),(I 4,rlV 194 195,4),(I 5,rlV 196 197,5),(I 6,rlV 198 199,6),(I 7,rlV 356 357,7),(I 8,rlV 356 357,8),(I 9,rlV 356 357,9),(I 10,rlV 200 201,10),(I 11,rlV 203 204,11)]
def A4s{a b:FuncId}:A0A prog 181 [(0,fnV a),(1,fnV b)]=some (rlV a b):=by simp[A0A,A1l,putCells,A0e,AV.cells,AV.storable,rlV]
section
variable (gl:Nat->AV)
def C3P(a:gl 0=.cptr [fnV 356,fnV 357])(M:Mem):A0c (WC gl) 121 [] M (λv M'=>v=.mapr M.length/\M'=M++[.map ruE 12]):=by have c:(WC gl).gl 0=.cptr [fnV 356,fnV 357]:=a;have b:A0p prog 181 [fnV 356,fnV 357]=some (rlV 356 357):=Q2;refine A0r hB func121 ?_;simp -dsimp -implicitDefEqProofs[A4s,a,b];rw[A7F Q2];simp -dsimp -implicitDefEqProofs[A4s,a,b];rw[A7F Q2];simp -dsimp -implicitDefEqProofs[A4s,a,b];rw[A7F Q2];simp -dsimp -implicitDefEqProofs[A4s,a,b];rw[A7F Q2];simp -dsimp -implicitDefEqProofs[A4s,a,b];rw[A7F Q2];simp -dsimp -implicitDefEqProofs[A4s,a,b];rw[A7F Q2];simp -dsimp -implicitDefEqProofs[A4s,a,b];rw[A7F Q2];simp -dsimp -implicitDefEqProofs[A4s,a,b];rw[A7F Q2];simp -dsimp -implicitDefEqProofs[A4s,a,b];rw[A7F Q2];simp -dsimp -implicitDefEqProofs[A4s,a,b];rw[A7F Q2];simp -dsimp -implicitDefEqProofs[A4s,a,b];rw[A7F Q2];simp -dsimp -implicitDefEqProofs[A4s,a,b];rw[A7F Q2];simp -dsimp -implicitDefEqProofs[A4s,a,b];rfl
end
def C4S:∀(l:List (Nat×A0m)) (M:Mem),(fill M l).length=M.length
 |[],M=>rfl
 |p::l,M=>by show(fill (M.set p.1 p.2) l).length=_;rw[C4S l];simp
def C4J:∀(l:List (Nat×A0m)) (M X:Mem),(∀p∈l,p.1<M.length)->fill (M++X) l=fill M l++X
 |[],M,X,_=>rfl
 |p::l,M,X,h=>by show fill ((M++X).set p.1 p.2) l=fill (M.set p.1 p.2) l++X;have hp:=h p Q1;rw[List.set_append_left _ _ hp,C4J l _ _ λq hq=>by have:=h q ZBH;simpa using this]
def D0W{C:Ctx}{g:FuncId}{args:List AV}{M X:Mem}{r:Nat->AV}(h:∀M,A2Z C g args M (λv M'=>v=r M.length/\M'=M++X)):C7q C g args M (r M.length) (M++X):=by refine⟨λs hs=>by rw[Z0o (Z0a.1 hs).1];exact hs,λl hb=>?_⟩;have:=h (fill M l);rw[C4S]at this;rw[C4J l M X λp hp=>(Z0a.1 (hb.1 p hp)).1];exact this
def C5p{C:Ctx}{h:A2r}{o:Oper}{ρ:Operand->AV}{M M1:Mem}{v:AV}{s:Nat}(hs:A4q o ρ=some s)(hn:M[s]?≠some A4a)(he:A0W C h o ρ M=some (v,M1)):D8q (A0W C h o ρ) M v M1:=by
 obtain⟨X,rfl,hl,hx⟩:=B5E hs he;clear hl;refine⟨λq hq=>by rw[Z0f (λe=>hn (by rw[e];exact hq))];exact hq,λl=>?_⟩;clear he;induction l generalizing M with
 |nil=>intro _;exact hx M rfl
 |cons p l ih=>intro hb;obtain⟨b1,b2⟩:=C5t hb;have ne:p.1≠s:=λe=>hn (by rw[<-e];exact b1);have e1:(M.set p.1 p.2)[s]?=M[s]?:=Z0f ne;have:=ih (M:=M.set p.1 p.2) (by rw[e1];exact hn) (λM2 h2=>hx M2 (by rw[h2,e1])) b2;rw[List.set_comm _ _ ne]at this;exact this
def C6u{ops:Array Oper}{cls:Nat->Nat}{aff:Nat->Nat->Bool}{fl:Bool}{r s:Nat}(h:r≠s):A4K ops ⟨cls,λ_=>r,λ_=>s,aff,fl⟩=A4K ops ⟨cls,λ_=>1,λ_=>0,aff,fl⟩:=by
 have e:(r==s)=false:=ZAJ
 have e2:(s !=s)=false:=ZBG
 simp only[A4K,A2h,e,e2];rfl
section
variable {C:Ctx} {h:A2r} {ops:Array Oper} {L:B2o} {k:Nat} {d:Option Tmp} {op:Op} {t:TypeId} {p:String} {af:Array Edge} {rest:List Oper} {T:Env} {M:Mem} {K:Env->Mem->Prop} {v:AV}
def A9p{fl:Bool}{c r s:Nat}{o:Oper}{ρ:Operand->AV}{K:AV->Mem->Prop}(h1:B5w o.op=false)(h3:∀e,o.op≠.alloc e) (hp:if c=0 then A0T ((A0J C h o ρ).or (A1c C o ρ)) (λv=>K v M)else if c=1 then A1e o ρ=some r/\A0T (A3U C o ρ M) (λv=>K v M)else if c=5 then A4q o ρ=some s/\A0T (A0W C h o ρ M) (λr=>K r.1 r.2)else c=2/\A7v fl (A0W C h o ρ) M K):dOp C h fl c r s o ρ M K:=by
 unfold dOp
 split
 .rename_i heq;rw[heq]at h1;simp[B5w]at h1
 .rename_i heq;rw[heq]at h1;simp[B5w]at h1
 .rename_i heq;exact absurd heq (h3 _)
 .exact hp
def A8a(b:B5w op=false)(a:∀e,op≠.alloc e)(hc:L.cls k=0)(he:pOp C h ⟨d,op,t,p,af,none⟩ (T.ev C)=some v)(hk:A1x C h ops L (k+1) rest (T.put d v) M K):A1x C h ops L k (⟨d,op,t,p,af,none⟩::rest) T M K:=by simp only[A1x,A3H];refine A9p b a ?_;rw[Z0c hc,A7y he];exact⟨λi _ _=>rfl,hk⟩
def D6N{mt:TypeId}{m x:Operand}{ok:Bool}(hc:L.cls k=1)(ho:A1e ⟨d,.lookup mt m x ok,t,p,af,none⟩ (T.ev C)=some (L.rob k))(he:A1Y C.P mt M (T.ev C m) (T.ev C x) ok=some v)(hk:A1x C h ops L (k+1) rest (T.put d v) M K):A1x C h ops L k (⟨d,.lookup mt m x ok,t,p,af,none⟩::rest) T M K:=by simp only[A1x,A3H];refine A9p rfl Q1 ?_;rw[Z0d Q0,Z0c hc];refine⟨ho,?_⟩;simp only[A3U,he];exact⟨λi _ _=>rfl,hk⟩
def D3J{e:TypeId}{X:A0m}{s:Nat}(hc:L.cls k=4)(a:L.fl=true)(hs:L.slot k=s)(hb:M[s]?=some A4a)(hX:B1W C.P e=some X)(hq:∀i,L.rob i≠s)(hk:A1x C h ops L (k+1) rest (T.put d (.vptr s 1 0)) (M.set s X) K):A1x C h ops L k (⟨d,.alloc e,t,p,af,none⟩::rest) T M K:=by simp only[A1x,A3H];simp only[dOp];rw[Z0c hc,hs,hX];exact⟨a,hb,λi _ _=>Z0f (λe=>hq i e.symm),hk⟩
def D2V{st:TypeId}{a x:Operand}{s:Nat}{X:A0m}(hc:L.cls k=2)(ho:A4q ⟨d,.store st a x,t,p,af,none⟩ (T.ev C)=some s)(hn:M[s]?≠some A4a)(he:A0W C h ⟨d,.store st a x,t,p,af,none⟩ (T.ev C) M=some (v,M.set s X))(hq:∀i,L.rob i≠s)(hk:A1x C h ops L (k+1) rest (T.put d v) (M.set s X) K):A1x C h ops L k (⟨d,.store st a x,t,p,af,none⟩::rest) T M K:=by simp only[A1x,A3H];refine A9p rfl Q1 ?_;rw[Z0d Q0,Z0d Q0,Z0d Q0];refine⟨hc,?_⟩;unfold A7v;rw[he];exact⟨λ_=>C5p ho hn he,λi _ _=>Z0f (λe=>hq i e.symm),hk⟩
def D7r{f:Operand}{args:List Operand}{ts:Array TypeId}{g:FuncId}{first cap:List AV}{M1:Mem}(hc:L.cls k=2)(hf:T.ev C f=.func (.func g) first cap)(hi:A2Z C g (first++args.map (T.ev C)++cap) M (λr m=>r=v/\m=M1))(a:C7q C g (first++args.map (T.ev C)++cap) M v M1)
 (hq:∀i,L.cls i=1->L.aff i k=false->M1[L.rob i]?=M[L.rob i]?)(hk:A1x C h ops L (k+1) rest (T.put d v) M1 K):A1x C h ops L k (⟨d,.call {callee:=.value f,args:=args.toArray,argTypes:=ts},t,p,af,none⟩::rest) T M K:=by
 simp only[A1x,A3H]
 simp only[dOp,hf]
 rw[Z0d Q0]
 exact⟨v,M1,hc,hi,λ_=>a,hq,hk⟩
end
section
variable (gl:Nat->AV)
end
def A4h(s:A1o)(l:List A0a):List A0a:=l.flatMap λx=>x.kids.filter (A2O s)
def A5m(p:List A1o)(l:List A0a):List A0a:=p.foldl (λl s=>A4h s l) l
def A6I(u:A0a)(s:A1o):List A0a:=if B0L s=true then[u]else(A2j u).filter (A2O s)
def A7a(u:A0a):List A1o->List A0a
 |[]=>[u]
 |s::r=>A5m r (A6I u s)
structure Sel (u:A0a) (l:List A0a):Prop where
 nd:(l.map A0a.id).Nodup
 sub:∀x∈l,x∈A2j u
section
variable {u:A0a} {l:List A0a}
def Sel.len(h:Sel u l):l.length<=A0y u:=by
 have:=List.Nodup.length_le_of_subset h.nd (l₂:=A0V u) λx hx=>by obtain⟨v,hv,rfl⟩:=Z0C.1 hx;rw[<-A5D];exact Z0C.2 ⟨v,h.sub v hv,rfl⟩
 rwa[A3P,Z0W]at this
def C0t:∀ks:List A0a,(ks.map A0a.id).Sublist (A2Y ks)
 |[]=>by simp
 |k::ks=>by rw[Z0x,A2Y];have h1:[k.id].Sublist (A0V k):=List.singleton_sublist.2 (D4o k);exact h1.append (C0t ks)
def B9q(hn:(A0V u).Nodup):∀v∈A2j u,(A0V v).Nodup:=C2F (λv=>(A0V v).Nodup) (λv hv k hk=>by obtain⟨a,b,c,d,e,ks⟩:=v;rw[A0V]at hv;exact B3d (Z1B.1 hv).2 hk) u hn
def D0A(hn:(A0V u).Nodup){v:A0a}(hv:v∈A2j u):(v.kids.map A0a.id).Nodup:=by have:=B9q hn v hv;obtain⟨a,b,c,d,e,ks⟩:=v;rw[A0V]at this;exact(Z1B.1 this).2.sublist (C0t ks)
def Sel.steps(hn:(A0V u).Nodup)(h:Sel u l)(s:A1o):Sel u (A4h s l):=by
 refine⟨?_,λx hx=>?_⟩
 .obtain⟨h1,h2⟩:=h;induction l with
  |nil=>simp[A4h]
  |cons a l ih=>rw[Z0x,Z1B]at h1;have ha:=h2 a Q1;have ih:=ih h1.2 λx hx=>h2 x (by simp[hx]);show(((a.kids.filter (A2O s))++A4h s l).map A0a.id).Nodup;rw[Z1f,Z2D];refine⟨(D0A hn ha).sublist (Z3n.map _),ih,λx hx y hy e=>?_⟩;subst e;obtain⟨k,hk,rfl⟩:=Z0C.1 hx;obtain⟨q,hq,e⟩:=Z0C.1 hy;obtain⟨b,hb,c⟩:=Z1M.1 hq;have p1:=C6Z hn ha (Z1o.1 hk).1;have p2:=C6Z hn (h2 b (by simp[hb])) (Z1o.1 c).1;rw[e,p1]at p2;have:a=b:=Z1a p2;exact h1.1 (this▸Z0C.2 ⟨b,hb,rfl⟩)
 .obtain⟨v,hv,hx⟩:=Z1M.1 hx;exact A7B u v (h.sub v hv) x (Z1o.1 hx).1
def Sel.follow(hn:(A0V u).Nodup):∀(p:List A1o) (l:List A0a),Sel u l->Sel u (A5m p l)
 |[],l,h=>h
 |s::p,l,h=>Sel.follow hn p _ (h.steps hn s)
def D6K(u:A0a):Sel u [u]:=⟨Q1,λx hx=>by rw[Z0L.1 hx];exact A4G u⟩
def B4W(hn:(A0V u).Nodup)(s:A1o):Sel u (A6I u s):=by
 unfold A6I;split
 .exact D6K u
 .refine⟨?_,λx hx=>(Z1o.1 hx).1⟩;rw[<-A5D]at hn;exact hn.sublist (Z3n.map _)
def C4C{p:List A1o}{i:Nat}(h:i<p.length)(l:List A0a):A5m (p.take (i+1)) l=A4h p[i] (A5m (p.take i) l):=by unfold A5m;rw[Z1s h,Z1X];rfl
def C4E{l:List A0a}{i:Nat}(h:i<l.length)(s:A1o):A4h s (l.take (i+1))=A4h s (l.take i)++l[i].kids.filter (A2O s):=by unfold A4h;rw[Z1s h,Z1n];simp
end
def C6I{ops:Array Oper}{L L':B2o}(h1:L'.cls=L.cls)(h2:L'.aff=L.aff)(h3:L'.fl=L.fl)(h4:∀i j,(L'.slot j !=L'.slot i)=(L.slot j !=L.slot i))(h5:∀i j,(L'.rob j==L'.slot i)=(L.rob j==L.slot i)):A4K ops L'=A4K ops L:=by simp only[A4K,A2h,h1,h2,h3,h4,h5]
section
variable {C:Ctx} {h:A2r} {ops:Array Oper} {L:B2o} {k:Nat} {d:Option Tmp} {t:TypeId} {p:String} {af:Array Edge} {rest:List Oper} {T:Env} {M:Mem} {K:Env->Mem->Prop} {v:AV}
def D7p{mt:TypeId}{a:Operand}(hc:L.cls k=1)(ho:A1e ⟨d,.load mt a,t,p,af,none⟩ (T.ev C)=some (L.rob k))(he:A0E C.P mt M (T.ev C a)=some v)(hk:A1x C h ops L (k+1) rest (T.put d v) M K):A1x C h ops L k (⟨d,.load mt a,t,p,af,none⟩::rest) T M K:=by simp only[A1x,A3H];refine A9p rfl Q1 ?_;rw[Z0d Q0,Z0c hc];refine⟨ho,?_⟩;simp only[A3U,he];exact⟨λi _ _=>rfl,hk⟩
def D8U{x:Operand}{tt:TypeId}(hc:L.cls k=0)(he:pOp C h ⟨d,.call {callee:=.builtin .len,args:=#[x],argTypes:=#[tt]},t,p,af,none⟩ (T.ev C)=some v)(hk:A1x C h ops L (k+1) rest (T.put d v) M K):A1x C h ops L k (⟨d,.call {callee:=.builtin .len,args:=#[x],argTypes:=#[tt]},t,p,af,none⟩::rest) T M K:=by simp only[A1x,A3H];unfold dOp;dsimp only;rw[Z0c hc,A7y he];exact⟨λi _ _=>rfl,hk⟩
def D4X{st:TypeId}{a x:Operand}{M1:Mem}(hc:L.cls k=5)(ho:A4q ⟨d,.store st a x,t,p,af,none⟩ (T.ev C)=some (L.slot k))(he:A0W C h ⟨d,.store st a x,t,p,af,none⟩ (T.ev C) M=some (v,M1))(hq:∀i,L.cls i=1->L.aff i k=false->M1[L.rob i]?=M[L.rob i]?) (hk:A1x C h ops L (k+1) rest (T.put d v) M1 K):A1x C h ops L k (⟨d,.store st a x,t,p,af,none⟩::rest) T M K:=by
 simp only[A1x,A3H]
 refine A9p rfl Q1 ?_
 rw[Z0d Q0,Z0d Q0,Z0c hc]
 refine⟨ho,?_⟩
 rw[he]
 exact⟨hq,hk⟩
def D0w{s x:Operand}{st xt:TypeId}(a:L.fl=false)(hc:L.cls k=2)(hw:A3s C (A2e h.own d) (A2e h.vec d) st xt (T.ev C s) (T.ev C x) M (λv M1=>(∀i,L.cls i=1->L.aff i k=false->M1[L.rob i]?=M[L.rob i]?)/\A1x C h ops L (k+1) rest (T.put d v) M1 K) ⟨⟩):
 A1x C h ops L k (⟨d,.call {callee:=.builtin .append,args:=#[s,x],argTypes:=#[st,xt]},t,p,af,none⟩::rest) T M K:=by
 simp only[A1x,A3H]
 obtain⟨e,sz,bytes,h1,h2⟩:=hw
 refine⟨e,sz,bytes,h1,hc,?_⟩
 unfold A7v
 cases hr:A6L (A2e h.own d) (A2e h.vec d) e sz bytes (T.ev C s) (T.ev C x) M with
 |none=>rw[hr]at h2;exact h2.elim
 |some r=>
  rw[hr]at h2
  exact⟨λe=>by rw[a]at e;exact absurd e Q1,h2⟩
end
structure AtB (b:Nat) (M0 M:Mem) (xs:List A0a):Prop where
 low:A4E b M0 M
 len:b<M.length
 arr:∃v,M[b]?=some (.cells 25 [v])/\A1r 31 8 A0a.row M v xs/\A1L (b+1) v
def AtB.app{b:Nat}{M0 M:Mem}{xs:List A0a}(h:AtB b M0 M xs)(X:Mem):AtB b M0 (M++X) xs:=by obtain⟨v,h1,h2,h3⟩:=h.arr;have hk:Grow M (M++X):=A0d.app none _ _;exact⟨⟨by have:=h.low.1;simp;omega,λi hi=>by rw[Z0o (by have:=h.len;omega)];exact h.low.2 i hi⟩,by have:=h.len;simp;omega,v,hk.get h1 Q1,h2.keep hk Q1,h3⟩
def E2z{C:Ctx}{M:Mem}{K:AV->Mem->Prop}{own:Bool}{st xt e:TypeId}{bytes:Nat}{s x:AV}{l:List A0a}{z:List AV}{tg:Tag K}(h1:A1b C.P st=some e)(h2:A4j C.P xt)(h3:A4g C.P e 8 bytes)(ho:A1r e 8 A0a.row M s l)
 (hx:A0D M 8 x=some (z,1))(hb:(l.length+1)*bytes<=140737488355328)
 (hk:∀M' f g a,M'[f]?=some (.vec e 8 (l.flatMap A0a.row++z) g a)->a.lookup g=some (l.length+1)->A0d (obj s) M M'->f=(obj s).getD M.length->K (.vref f g 8 0 (l.length+1)) M'):A3s C own true st xt s x M K tg:=by
 rcases ho with⟨rfl,rfl⟩|⟨f,g,a,rfl,hf,hl⟩
 .refine A5n h1 h2 h3 (by rfl) hx hb (by simp only[A5q,hx]) ?_ rfl;simp only[A6u,hx];rw[Z0d Q0];exact hk _ M.length 0 [(0,1)] Q1 ZAQ (.app _ _ _) rfl
 .have c:A0D M 8 (.vref f g 8 0 l.length)=some (l.flatMap A0a.row,l.length):=A1r.src A0a.row_len (.inr ⟨f,g,a,rfl,hf,hl⟩);refine A5n h1 h2 h3 c hx hb ?_ ?_ rfl
  .simp only[A5q,hx,hf,hl];rw[Z0d Q0]
  .simp only[A6u,hx,hf,hl];rw[Z0c ⟨trivial,trivial,trivial,Q0⟩,Z0d Q0];have b:f<M.length:=(Z0a.1 hf).1;refine hk _ f (g+1) ((g+1,l.length+1)::a.filter (λp=>decide (p.2<=l.length))) ?_ ZAQ (.set _ _ _) Q1;simp only[Z2T,b,Z1e,Z1S,Z1z];rw[Z0e (by rw[A2d A0a.row_len];exact Z0j _)]
def D2p{M:Mem}{f g:Nat}{a:List (Nat×Nat)}{l:List A0a}{z:List AV}(hz:z.length=8)(hm:M[f]?=some (.vec 31 8 (l.flatMap A0a.row++z) g a))(hl:a.lookup g=some (l.length+1))(y:A0a):∃M',A0k (some 8) M (.vptr f g (l.length*8)) (.agg y.row)=some M'/\A1r 31 8 A0a.row M' (.vref f g 8 0 (l++[y]).length) (l++[y])/\M'.length=M.length/\∀j,j≠f->M'[j]?=M[j]?:=by
 have hlt:f<M.length:=(Z0a.1 hm).1
 have d:(l.flatMap A0a.row).length=l.length*8:=A2d A0a.row_len l
 have c:=y.row_len
 have b:A0e (l.flatMap A0a.row++z) (l.length*8) y.row=(l++[y]).flatMap A0a.row:=by unfold A0e;rw[Z1n,Z1D Q0,Z0e Q0,Z1u (by rw[Z0k];omega)];simp
 refine⟨M.set f (.vec 31 8 ((l++[y]).flatMap A0a.row) g (A0Q 8 g (l.length*8) a)),?_,.inr ⟨f,g,A0Q 8 g (l.length*8) a,rfl,ZDE,?_⟩,Q1,λj hj=>Z0f Q0⟩
 .simp only[A0k,hm,hl];rw[Z0c ZCB];simp only[AV.cells];rw[b]
 .unfold A0Q;rw[Z0k];exact A3K _ hl
def B9W:∀a b:List A0a,A3F (a++b)=A3F a++A3F b
 |[],b=>by simp[A3F]
 |k::a,b=>by rw[Z0Q,A3F,A3F,B9W a b,Z0F]
def C4y(ks:List A0a):(A3F ks).length=A0I ks:=by rw[<-B8m,<-B3V,Z0W]
abbrev B4s(s:A1o)(r:List A1o)(o:Own)(b:Nat):List AV:=[.cptr [.list 2 (A0O (s::r)) o],.ptr b 0]
section
variable (gl:Nat->AV)
def C9L(u:A0a)(s:A1o)(r:List A1o)(o:Own)(b:Nat)(M0 M:Mem)(xs:List A0a)(h:AtB b M0 M xs)(hl:xs.length<=100000):A0c (WC gl) 67 (.agg u.row::B4s s r o b) M (λv M'=>AtB b M0 M' (xs++if A2O s u=true then[u]else[])):=by
 obtain⟨v0,hb,hv,hlt⟩:=h.arr
 have d:=λM=>B4A gl u s M
 have a6:s.row=[I s.k,S s.lab]:=rfl
 have a1:A0O (s::r)=[I s.k,S s.lab]::A0O r:=rfl
 have w:=u.row_eq
 rw[a6]at d
 rw[B4s,a1]
 rw[w]at d|-
 refine A0r (hQ [13]) func67 ?_
 simp -dsimp
 refine A0X (hQ [13]) (A0B gl) (λ_=>0) (λ_=>0) (by rfl) Q2 ?_
 simp -dsimp
 refine A2y func68 d ?_
 cases hs:A2O s u
 .simp -dsimp;exact h
 simp -dsimp
 obtain⟨f,hf⟩:=ex ((obj v0).getD M.length)
 have a:f≠b:=by
  rw[hf];cases ho:obj v0 with
  |none=>have:=h.len;simp;omega
  |some q=>have:=hlt q ho;simp;omega
 refine B0W (h:=hQ [13]) (A0B gl) ⟨λk=>if k=0 then 1 else if k=4 then 2 else if k=6\/k=7 then 5 else 0,λ_=>b,λk=>if k=6 then f else b,λ_ k=>k==7,false⟩ (by rfl) ?_ ?_ ?_
 .refine Eq.trans (C6I (L:=⟨λk=>if k=0 then 1 else if k=4 then 2 else if k=6\/k=7 then 5 else 0,λ_=>0,λk=>if k=6 then 1 else 0,λ_ k=>k==7,false⟩) rfl rfl rfl (λi j=>?_) (λi j=>?_)) ?_
  rotate_right
  .kernel_rfl
  ·(have e1:(f==b)=false:=by simpa using a);have e2:(b==f)=false:=by simpa usingλe=>a e.symm
   by_cases c1:i=6<;>by_cases c2:j=6<;>simp[c1,c2,bne,e1,e2]
  ·(have e2:(b==f)=false:=by simpa usingλe=>a e.symm);by_cases c1:i=6<;>simp[c1,e2]
 .intro k _ hk;simp only at hk;split at hk
  .simp at hk
  .split at hk
   .simp at hk
   .split at hk<;>simp at hk
 refine D7p rfl (by simp[A1e]) (by simp[A0b hb]<;>rfl) ?_
 refine A8a rfl Q1 rfl ZCU ?_
 have a4:A3k prog 25 v0=some xs.length:=hv.len (e':=31) Q1
 refine D8U rfl (v:=I xs.length) (by simp[pOp,a4]) ?_
 refine A8a rfl Q1 rfl (by simp[pOp,A0x,A1g]<;>rfl) ?_
 refine D0w rfl rfl ?_
 refine E2z (own:=_) (l:=xs) (z:=zU) A8p B2D B1H ZBQ (by simp[A0D,zU]) Q0 ?_
 intro M' f' g a9 a2 a7 hk y
 simp at hk y
 have a8:f'=f:=by rw[y,hf]
 subst a8
 have t:M'[b]?=M[b]?:=hk.2 b h.len (λe=>by have:=hlt b e;omega)
 refine⟨λi _ _=>t,?_⟩
 obtain⟨M2,p,a0,m,c⟩:=D2p rfl a2 a7 u
 rw[w]at p
 have a3:(xs++[u]).length=xs.length+1:=ZBG
 refine A8a rfl Q1 rfl (v:=.vptr f' g (xs.length*8)) (by simp[pOp];omega) ?_
 refine D4X rfl (by simp[A4q]) (M1:=M2) (v:=.val undef) (B3L (by simp[mOp,p])) (λi _ _=>c b a.symm) ?_
 have x:M2[b]?=some (.cells 25 [v0]):=by rw[c b a.symm,t,hb]
 have a5:A0k (some 1) M2 (.ptr b 0) (.vref f' g 8 0 (xs.length+1))=some (M2.set b (.cells 25 [.vref f' g 8 0 (xs.length+1)])):=by rw[A0f x];rfl
 refine D4X rfl (by simp[A4q]) (v:=.val undef) (B3L (by simp[mOp,a5]<;>rfl)) (λi _ ha=>by simp at ha) ?_
 simp -dsimp
 rw[a3]at a0
 have n:b<M2.length:=(Z0a.1 x).1
 have ab:M.length<=f'\/b+1<=f'/\obj v0=some f':=by
  rw[hf];cases ho:obj v0 with
  |none=>left;simp
  |some q=>right;exact⟨hlt q ho,Q1⟩
 have aa:=h.len
 refine⟨?_,by simpa using n,_,Z2M n,?_,?_⟩
 .have hq:A4E b M M2:=⟨by rw[m];exact hk.1,λi hi=>by rw[c i Q0];exact hk.2 i Q0 (λe=>by have:=hlt i e;omega)⟩;exact(h.low.trans hq).setq (Z0j _)
 .exact a0.keep (A0d.set _ _ _) (λq hq e=>by simp at hq e;omega)
 .intro q hq;simp at hq;omega
def C9i(s:A1o)(r:List A1o)(o:Own)(b:Nat)(M0:Mem):∀(u:A0a) (M:Mem) (xs:List A0a),u.good->AtB b M0 M xs->xs.length+A0y u<=100000->
 A0c (WC gl) 66 [.agg u.row,.func (.func 67) [] (B4s s r o b)] M (λv M'=>AtB b M0 M' (xs++(A2j u).filter (A2O s)))
 |.mk id kind lab hd ws ks,M,xs,hg,hat,hlim=>by
  obtain⟨_,_,_,_,_,_,_,hk,e⟩:=(A0a.good_iff _).1 hg;have e:∀k∈ks,k.good:=e;have a4:ks.length<=9223372036854775807:=hk;have w:(A0a.mk id kind lab hd ws ks).row=[I id.act,I id.item,I id.n,I kind,S lab,.list 4 (A0i hd) .no,.list 4 (A0i ws) .no,.list 8 (A0t ks) .no]:=ZDD
  have y:A0y (.mk id kind lab hd ws ks)=1+A0I ks:=by rw[A0y]
  rw[y]at hlim;have a0:=A2D ks;have t:(A2j (.mk id kind lab hd ws ks)).filter (A2O s)=(if A2O s (.mk id kind lab hd ws ks)=true then[A0a.mk id kind lab hd ws ks]else[])++(A3F ks).filter (A2O s):=by rw[A2j,Z2s];split<;>simp
  rw[t,<-Z0F];have g:=C9L gl (.mk id kind lab hd ws ks) s r o b M0 M xs hat Q0;obtain⟨ys,q⟩:=ex (xs++(if A2O s (.mk id kind lab hd ws ks)=true then[A0a.mk id kind lab hd ws ks]else[]));have a3:ys.length<=xs.length+1:=by rw[q];split<;>simp
  rw[<-q]at g|-;rw[w]at g|-;refine A0r hW func66 ?_;simp -dsimp;refine A3R func67 g ?_;rintro _ M1 p;simp -dsimp;refine A1y hW ks.length 12 (λT Mi=>∃i:Nat,i<=ks.length/\T 1=.func (.func 67) [] (B4s s r o b)/\T 10=.list 8 (A0t ks) .no/\T 11=I ks.length/\T 12=I i/\AtB b M0 Mi (ys++(A3F (ks.take i)).filter (A2O s))) ?_ ?_
  .exact⟨0,Q0,Q1,Q1,Q1,Q1,by simpa[A3F]using p⟩
  rintro T Mi ⟨i,i1,t1,d,l,j,a⟩;by_cases hi:i<ks.length
  .have f:(i:Int)<ks.length:=Q0;have w1:=A1O (i:=i) Q0;have c:ks[i]∈ks:=Z0s hi;(have z:(Mi++[A0m.cells 31 ks[i].row])[Mi.length]?=some (A0m.cells 31 ks[i].row):=by simp);simp -dsimp[t1,d,l,j,hi,f,A0j,A0k,A0e,AV.storable,AV.cells,A0b z];have:=A0a.kid_lt (u:=.mk id kind lab hd ws ks) c;have a1:=B6i hi;have a5:=Z1q (A2O s) (A3F (ks.take i));have a2:=C4y (ks.take i);refine A3R func66 (C9i s r o b M0 ks[i] _ _ (e _ c) (a.app _) (by simp only[Z0k];omega)) ?_;rintro _ M3 m;(have x:A3F (ks.take (i+1))=A3F (ks.take i)++A2j ks[i]:=by rw[Z1s hi,B9W];simp[A3F]);simp -dsimp[t1,d,l,j,w1];refine⟨⟨i+1,Q3,rfl,?_⟩,Q3⟩;rw[x,Z2a,<-Z0F];exact m
  .have f:¬(i:Int)<ks.length:=Q0;rw[Z0e Q0]at a;simp -dsimp[t1,d,l,j,hi,f];exact a
termination_by u=>SizeOf.sizeOf u
def RdU(n:Nat)(M:Mem)(v:AV)(l:List A0a):Prop:=Arr 31 8 A0a.row n M v l\/∃u,l=[u]/\v=.list 8 [u.row] .full
def RdU.keep{n:Nat}{M M':Mem}{v:AV}{l:List A0a}(h:RdU n M v l)(hk:Grow M M'):RdU n M' v l:=h.imp (λh=>h.keep hk) id
def RdU.len{n:Nat}{M:Mem}{v:AV}{l:List A0a}(h:RdU n M v l):A3k prog 25 v=some l.length:=by
 rcases h with h|⟨u,rfl,rfl⟩
 .exact h.own.len (e':=31) Q1
 .simp
def RdU.at_{n:Nat}{M:Mem}{v:AV}{l:List A0a}(h:RdU n M v l){i:Nat}(hi:i<l.length):∃p,A6j (some (some 8)) v (I i)=some p/\A0E prog 31 M p=some (.agg l[i].row):=by
 rcases h with h|⟨u,rfl,rfl⟩
 .obtain⟨p,h1,_,h2,_⟩:=h.own.at_ (P:=prog) (t:=31) A0a.row_len D2q D0r hi;exact⟨p,h1,h2⟩
 .simp at hi;subst hi;simp only[Z2O];rw[u.row_eq];refine⟨_,by simp[A6j]<;>rfl,Q1⟩
def RdU.still{n:Nat}{M:Mem}{v:AV}{l:List A0a}(h:RdU n M v l):Still M n (bdd n) [v] [.list 8 (A0t l) .no]:=by
 rcases h with h|⟨u,rfl,rfl⟩
 .exact B1q h.own h.lat
 .have a:A0t [u]=[u.row]:=by rw[A0t,A0t]
  have hb:=B5b n [u];rw[a]at hb|-;exact .dis hb .nil
def C4n{x:A0a}(h:Fit x):x.kids.length<=3000:=by have h1:=A2D x.kids;have h2:=A6h x;have h3:=h.2.2;omega
def B9m(t:A1o):∀l:List A0a,(∀x∈l,x.kids.length<=3000)->(A4h t l).length<=l.length*3000
 |[],_=>by simp[A4h]
 |x::l,h=>by have h1:=B9m t l λy hy=>h y (by simp[hy]);have h2:=h x Q1;have h3:=Z1q (A2O t) x.kids;show(x.kids.filter (A2O t)++A4h t l).length<=_;simp only[Z0k,Z0r];omega
set_option maxHeartbeats 20000000 in
def D0c(u:A0a)(s:A1o)(r:List A1o)(o:Own)(M:Mem)(hf:Fit u)(b4:∀i,i<r.length->(A5m (r.take i) (A6I u s)).length<=3000/\∀x∈A5m (r.take i) (A6I u s),Fit x)(hl:(s::r).length<=9)(hp:∀i (h:i<(s::r).length),C2B i (s::r)[i]):A0c (WC gl) 46 [.agg u.row,.list 2 (A0O (s::r)) o] M (λv M'=>v=.list 8 (A0t (A7a u (s::r))) .no/\M'=M):=by
 refine A0c.dataX ?_
 have hv:=B6k gl (s::r) o M hl hp
 obtain⟨b,hb⟩:=ex (M.length)
 obtain⟨M1,a3⟩:=ex (M++[A0m.cells 25 [A0C]])
 have a7:M1[b]?=some (.cells 25 [A0C]):=by rw[a3,hb];simp
 have a8:Grow M M1:=by rw[a3];exact A0d.app none _ _
 have ae:b<M1.length:=(Z0a.1 a7).1
 have ap:=B0s gl s M1
 have bu:=hf.2.2
 have b3:AtB b M M1 []:=⟨⟨a8.1,λi hi=>a8.2 i Q0 Q1⟩,ae,A0C,a7,.nil,λf h=>by simp at h⟩
 have w:=C9i gl s r o b M u M1 [] hf.1 b3 ZAB
 have b2:A0O (s::r)=[I s.k,S s.lab]::A0O r:=rfl
 have bc:s.row=[I s.k,S s.lab]:=rfl
 have bp:A7a u (s::r)=A5m r (A6I u s):=rfl
 have b6:(A0O r).length=r.length:=by simp[A0O]
 rw[bp]
 rw[B4s,b2]at w
 rw[bc]at ap
 rw[b2]at hv|-
 rw[u.row_eq]at w|-
 refine A0r (hQ [58]) func46 ?_
 simp -dsimp
 refine A0g func64 hv ?_
 simp -dsimp[-A8g]
 rw[A8g]
 simp -dsimp[-A8g,A0j]
 rw[<-a3,<-hb]
 rw[A8g]
 refine B2O (λT Mi=>T 3=.cptr [.list 2 ([I s.k,S s.lab]::A0O r) o]/\T 5=.ptr b 0/\Grow M Mi/\∃v,Mi[b]?=some (.cells 25 [v])/\RdU M.length Mi v (A6I u s)) ?_ ?_
 .have b0:¬((r.length:Int)+1=0):=Q0;have b9:(((r.length:Int)+1==0)=false):=by simpa using b0
  simp -dsimp[b0,b9,b6];refine A0g func65 ap ?_;cases hbs:B0L s
  .simp -dsimp;refine A3R func66 w ?_;rintro _ M2 ad;obtain⟨v,h1,h2,h3⟩:=ad.arr;simp -dsimp;refine⟨ad.low.grow (A0d.refl _ _) Q0,v,h1,.inl ⟨?_,λf h=>by have:=h3 f h;omega⟩⟩;rw[A6I,hbs];simpa using h2
  .simp -dsimp[A0x,A1g,AV.storable,AV.cells,A0f a7];rw[<-u.row_eq];exact⟨A0w a8 Q0,_,Z2M ae,.inr ⟨u,by rw[A6I,hbs,Z0c rfl],rfl⟩⟩
 clear w ap hv a3 a7 a8 ae b3
 rintro T0 M0 ⟨q3,q5,be,v0,bk,b5⟩
 have bl:(1:Int)<=r.length+1:=Q0
 simp -dsimp[q3,q5,bl]
 generalize A6H _ _ _ _ _=so
 have bv:r.length+1<=9:=hl
 refine A1y (hQ [58]) r.length 35 (λT Mi=>∃i:Nat,i<=r.length/\T 5=.ptr b 0/\T 33=.list 2 (A0O r) so/\T 34=I r.length/\T 35=I i/\Grow M Mi/\∃v,Mi[b]?=some (.cells 25 [v])/\RdU M.length Mi v (A5m (r.take i) (A6I u s))) ?_ ?_
 .exact⟨0,Q0,by simp[q5],Q1,by simp[b6],Q1,be,v0,bk,b5⟩
 rintro T Mi ⟨i,i1,t5,c,d,a,ak,v,ax,a4⟩
 by_cases hi:i<r.length
 case neg=>have ag:¬(i:Int)<r.length:=Q0;rw[Z0e Q0]at a4;simp -dsimp[t5,c,d,a,ag,A0b ax];rw[hb];exact⟨ak,a4.still⟩
 have ag:(i:Int)<r.length:=Q0
 have wi:=A1O (i:=i) Q0
 obtain⟨l,aj⟩:=ex (A5m (r.take i) (A6I u s))
 obtain⟨bh,ah⟩:=b4 i hi
 rw[<-aj]at bh ah
 obtain⟨t,ht⟩:=ex (r[i])
 rw[<-aj]at a4
 have bd:r[i]=t:=ht.symm
 have bb:(A0O r)[i]?=some [I t.k,S t.lab]:=by simp[A0O,hi,ht,A1o.row]
 obtain⟨q,hq⟩:=ex (Mi.length)
 obtain⟨M2,aq⟩:=ex (Mi++[A0m.cells 78 [I t.k,S t.lab]])
 have a9:Grow Mi M2:=by rw[aq];exact A0d.app none _ _
 have aa:=a9.get ax Q1
 have br:M2[q]?=some (.cells 78 [I t.k,S t.lab]):=by rw[aq,hq];simp
 have ac:=a4.keep a9
 have bi:=ac.len
 simp -dsimp[t5,c,d,a,ag,hi,bb,bd,A0j,A0k,A0e,A0o,A0n]
 rw[<-aq,<-hq]
 simp -dsimp[t5,c,d,a,A0b aa,bi]
 refine A6V (.exit 3) (λT Mj=>T 5=.ptr b 0/\T 33=.list 2 (A0O r) so/\T 34=I r.length/\T 35=I i/\Grow M2 Mj/\Arr 31 8 A0a.row M2.length Mj (T 8) (A4h t l)) ?_ ?_
 case refine_2=>
  have aw:=a;clear t5 c d a;rintro T Mj ⟨t5,c,d,a,z,ha⟩;have au:=z.get aa Q1;have a6:A0k (some 1) Mj (.ptr b 0) (T 8)=some (Mj.set b (.cells 25 [T 8])):=by rw[A0f au,ha.own.cells,Z0c ⟨ha.own.store,Q1,rfl⟩];rfl
  have az:b<Mj.length:=(Z0a.1 au).1;have ba:Grow M (Mj.set b (.cells 25 [T 8])):=A0w ((ak.trans a9).trans z) Q0;have bs:M.length<=M2.length:=(ak.trans a9).1;have bm:Arr 31 8 A0a.row M.length (Mj.set b (.cells 25 [T 8])) (T 8) (A4h t l):=⟨ha.own.keep (A0d.set _ _ _) (λf hf e=>by have:=ha.lat f hf;have:=(Z0a.1 aa).1;simp at e;omega),λf hf=>by have:=ha.lat f hf;omega⟩;simp -dsimp[t5,c,d,a,a6,aw,wi];exact⟨⟨i+1,by clear wi;omega,rfl,ba,T 8,by simp[az],by rw[C4C hi,<-aj,<-ht];exact .inl bm⟩,by clear wi;omega⟩
 refine A1y (hQ [58]) l.length 41 (λT Mj=>∃j:Nat,j<=l.length/\T 5=.ptr b 0/\T 7=.ptr q 0/\T 33=.list 2 (A0O r) so/\T 34=I r.length/\T 35=I i/\T 39=v/\T 40=I l.length/\T 41=I j/\Grow M2 Mj/\Arr 31 8 A0a.row M2.length Mj (T 8) (A4h t (l.take j))) ?_ ?_
 .exact⟨0,Q0,by simp[t5],Q1,by simp[c],by simp[d],by simp[a],Q1,Q1,Q1,Grow.refl _,by simpa[A4h]using Arr.nil⟩
 clear t5 c d a
 rintro T Mj ⟨j,j1,t5,t7,c,d,a,t39,m,g,z,ha⟩
 have au:=z.get aa Q1
 by_cases hj:j<l.length
 case neg=>have ao:¬(j:Int)<l.length:=Q0;rw[Z0e Q0]at ha;simp -dsimp[t5,t7,c,d,a,t39,m,g,ao];exact⟨z,ha⟩
 have ao:(j:Int)<l.length:=Q0
 have wj:=A1O (i:=j) Q0
 obtain⟨x,hx⟩:=ex (l[j])
 have bn:=ah x (by rw[hx];exact Z0s hj)
 have bt:=C4n bn
 have bq:(A4h t (l.take j)).length<=(l.take j).length*3000:=B9m t _ λy hy=>C4n (ah y (Z1x hy))
 rw[Z0t]at bq
 obtain⟨p,bg,ay⟩:=(ac.keep z).at_ hj
 rw[<-hx]at ay
 obtain⟨M3,am⟩:=ex (Mj++[A0m.cells 31 x.row])
 have an:Grow Mj M3:=by rw[am];exact A0d.app none _ _
 have b7:M3[Mj.length]?=some (.cells 31 x.row):=by rw[am];simp
 have al:=ha.keep an
 generalize n:T 8=ov at*
 simp -dsimp[t5,t7,c,d,a,t39,m,g,n,ao,hj,bg,ay,A0j,A0k,A0e,A0o,A0n]
 rw[<-am]
 rw[x.row_eq]at b7
 simp -dsimp[t5,t7,c,d,a,t39,m,g,n,A0b b7]
 have b1:=g
 have bw:M2.length<=M3.length:=(z.trans an).1
 refine A6V (.exit 5) (λT Mk=>T 5=.ptr b 0/\T 7=.ptr q 0/\T 33=.list 2 (A0O r) so/\T 34=I r.length/\T 35=I i/\T 39=v/\T 40=I l.length/\T 41=I j/\Grow M2 Mk/\Arr 31 8 A0a.row M2.length Mk (T 8) (A4h t (l.take j)++x.kids.filter (A2O t))) ?_ ?_
 case refine_2=>clear t5 t7 c d a t39 m g ha al n;rintro T Mk ⟨t5,t7,c,d,a,t39,m,g,a0,ha⟩;simp -dsimp[t5,t7,c,d,a,t39,m,g,b1,wj];exact⟨⟨j+1,by clear wj;omega,rfl,a0,by rw[C4E hj,<-hx];exact ha⟩,by clear wj;omega⟩
 refine A1y (hQ [58]) x.kids.length 48 (λT Mk=>∃k:Nat,k<=x.kids.length/\T 5=.ptr b 0/\T 7=.ptr q 0/\T 33=.list 2 (A0O r) so/\T 34=I r.length/\T 35=I i/\T 39=v/\T 40=I l.length/\T 41=I j/\T 46=.list 8 (A0t x.kids) .no/\T 47=I x.kids.length/\T 48=I k/\Grow M2 Mk/\Arr 31 8 A0a.row M2.length Mk (T 8) (A4h t (l.take j)++(x.kids.take k).filter (A2O t))) ?_ ?_
 .exact⟨0,Q0,by simp[t5],by simp[t7],by simp[c],by simp[d],by simp[a],by simp[t39],by simp[m],by simp[g],Q1,Q1,Q1,z.trans an,by simpa[n]using al⟩
 clear t5 t7 c d a t39 m g ha al n
 rintro T Mk ⟨k,k1,t5,t7,c,d,a,t39,m,g,t46,a2,a1,a0,ha⟩
 by_cases hk:k<x.kids.length
 case neg=>have af:¬(k:Int)<x.kids.length:=Q0;rw[Z0e (show x.kids.length<=k by omega)]at ha;simp -dsimp[t5,t7,c,d,a,t39,m,g,t46,a2,a1,af];exact⟨a0,ha⟩
 have af:(k:Int)<x.kids.length:=Q0
 obtain⟨y,hy⟩:=ex (x.kids[k])
 have bj:x.kids[k]=y:=hy.symm
 have bf:=a0.get br Q1
 obtain⟨M5,ar⟩:=ex (Mk++[A0m.cells 31 y.row])
 have ab:Grow Mk M5:=by rw[ar];exact A0d.app none _ _
 have av:M5[Mk.length]?=some (.cells 31 y.row):=by rw[ar];simp
 have bo:=ab.get bf Q1
 have ai:=ha.keep ab
 have b8:=B4A gl y t M5
 rw[show t.row=[I t.k,S t.lab]from rfl]at b8
 have a5:(x.kids.take (k+1)).filter (A2O t)=(x.kids.take k).filter (A2O t)++(if A2O t y=true then[y]else[]):=by rw[Z0z,Z0g hk,Z2a,hy];simp only[Z0T,Z2s,List.filter_nil]
 generalize n:T 8=ov at*
 simp -dsimp[t5,t7,c,d,a,t39,m,g,t46,a2,a1,n,af,hk,bj,A0j,A0k,A0e,A0o,A0n]
 rw[<-ar]
 simp -dsimp[t5,t7,c,d,a,t39,m,g,t46,a2,a1,n,A0b av,A0b bo]
 refine A0g func68 b8 ?_
 have w1:=A1O (i:=k) Q0
 cases a6:A2O t y
 .rw[a6,Z0d Q1,Z1b]at a5;simp -dsimp[t5,t7,c,d,a,t39,m,g,t46,a2,a1,n,w1];exact⟨⟨k+1,Q3,rfl,a0.trans ab,by rw[a5];exact ai⟩,Q3⟩
 .rw[a6,Z0c rfl]at a5;simp -dsimp[t5,t7,c,d,a,t39,m,g,t46,a2,a1,n,A0b av,A0x,A1g,A0o,A0n];refine A3B (C:=WC gl) (enc:=A0a.row) (e:=31) (sz:=8) (news:=[y]) A8p B2D B1H A0a.row_len ai.own ZDC (by have q1:=Z1q (A2O t) (x.kids.take k);have q2:=List.length_take_le k x.kids;simp only[Z0k,List.length_singleton];omega) rfl ?_;intro v' M' h1 h2 h3 _;obtain⟨g1,g2⟩:=A3f (X:=[]) (a0.trans ab) ai.lat ZAU ZBR;simp -dsimp[t5,t7,c,d,a,t39,m,g,t46,a2,a1,w1];exact⟨⟨k+1,Q3,rfl,g1,by rw[a5,<-Z0F];exact⟨h1,g2⟩⟩,Q3⟩
def D2c(u:A0a)(p:List A1o)(o:Own)(M:Mem)(hf:Fit u)(hn:(A0V u).Nodup)(hl:p.length<=9)(hp:∀i (h:i<p.length),C2B i p[i]):A0c (WC gl) 46 [.agg u.row,.list 2 (A0O p) o] M (λv M'=>v=.list 8 (A0t (A7a u p)) .no/\M'=M):=by
 cases p with
 |nil=>exact D1w gl u o M
 |cons s r=>exact D0c gl u s r o M hf (λi _=>by have h:=Sel.follow hn (r.take i) _ (B4W hn s);exact⟨Z0J h.len hf.2.2,λx hx=>A7W u hf x (h.sub x hx)⟩) hl hp
end
def D7c{G:A0q}{e:Nat}{x:Value}(h:Rep G A0C x):Rep G (.list e [] .no) x:=by simp only[A0C,Rep]at h|-;subst h;exact⟨none,0,rfl,Q1,Q1,Q1,by simp[A5v]⟩
def C4w{G:A0q}{e:Nat}{c:List AV}:∀(b:List AV) {ys:List Value},A0v G (b++A0C::c) ys->A0v G (b++.list e [] .no::c) ys
 |[],ys,h=>by simp only[Z1y,A0v]at h|-;obtain⟨y,d,rfl,h1,h2⟩:=h;exact⟨y,d,rfl,D7c h1,h2⟩
 |a::b,ys,h=>by simp only[Z0Q,A0v]at h|-;obtain⟨y,d,rfl,h1,h2⟩:=h;exact⟨y,d,rfl,h1,C4w b h2⟩
def A0c.atNil{C:Ctx}{f:FuncId}{M:Mem}{Q:AV->Mem->Prop}{e:Nat}{a:List AV}(b:List AV)(h:A0c C f (b++.list e [] .no::a) M Q):A0c C f (b++A0C::a) M Q:=λG w vs hi hr=>h G w vs hi (C4w b hr)
section
variable (gl:Nat->AV)
end
section
variable (gl:Nat->AV)
set_option maxHeartbeats 1000000 in
def C1O(u:A0a)(x:IdD)(M:Mem)(hf:Fit u):A0c (WC gl) 239 [.agg u.row,.agg x.row] M (λv M'=>v=.list 3 (A7x ((A1h x u).dropLast.reverse.map A0a.id)) .no/\M'=M):=by
 refine A0c.dataX ?_;have hx:x.row=[I x.act,I x.item,I x.n]:=rfl;have d:=B1y gl u x M hf.1 hf.2.2;have o:=A5T x u;have a5:=hf.2.2;rw[u.row_eq,hx]at d|-;obtain⟨r,hr⟩:=ex (A1h x u);rw[<-hr]at d o|-;have z:A3k prog 25 (A5u r)=some r.length:=by cases r<;>simp[A5u]
 refine A0r (hQ [25]) func239 ?_;simp -dsimp;refine A0g func125 d ?_;have w2:IntKind.i64.wrap ((r.length:Int)-2)=r.length-2:=ZBN
 obtain⟨c,f⟩:=ex (r.dropLast.reverse.map A0a.id);have a4:c.length=r.length-1:=by rw[f];simp
 rw[<-f];simp -dsimp[z,w2];refine A0M (hQ [25]) (λT Mi=>∃i:Nat,i<=c.length/\T 6=A5u r/\T 7=I ((r.length:Int)-2-i)/\Grow M Mi/\Arr 28 3 IdD.row M.length Mi (T 5) (c.take i)) (λT Mi=>match T 7 with|.val (.int _ i)=>(i+1).toNat|_=>0) Q2 ?_ ?_
 .exact⟨0,Q0,Q1,Q1,Grow.refl _,ZBX⟩
 rintro T Mi ⟨i,i1,t6,t7,k,ha⟩;by_cases hi:i<c.length;case neg=>obtain⟨zz,a3⟩:=ex ((r.length:Int)-2-i);rw[<-a3]at t7;have w:¬zz>=0:=Q0;rw[Z0e Q0]at ha;simp -dsimp[t6,t7,w];exact⟨k,A3i (enc:=IdD.row) (λ_=>rfl) C7m ha.own ha.lat⟩
 obtain⟨j,hj⟩:∃j:Nat,c.length=i+1+j:=⟨c.length-i-1,Q0⟩;have a0:(r.length:Int)-2-i=(j:Int):=Q0;have g:j<r.length:=Q0;have q:(j:Int)<r.length:=Q0;have a2:(j:Int)>=0:=Q0;rw[a0]at t7;obtain⟨y,hy⟩:=ex (r[j]);have l:A5u r=.list 8 (A0t r) .no:=by cases r with|nil=>simp at g|cons a b=>rfl
 have p:(A0t r)[j]?=some y.row:=by rw[A8l r j g,hy]
 have m:=y.row_eq;have t:r[j]=y:=hy.symm;rw[m]at p;have w1:IntKind.i64.wrap ((j:Int)-1)=(j:Int)-1:=ZBN
 have s:c.take (i+1)=c.take i++[y.id]:=by rw[Z1s hi];congr 2;simp only[f,Z3M,List.getElem_reverse,List.getElem_dropLast,hy];congr 2;simp;omega
 generalize a1:T 5=ov at*;rw[l]at t6;simp -dsimp[t6,t7,a1,a2,p,t,m,g,q,A0x,A1g,A0o,A0n];refine A3B (C:=WC gl) (enc:=IdD.row) (e:=28) (sz:=3) (news:=[y.id]) C8x D3R D3w (λ_=>rfl) ha.own (by simp[A0D,IdD.row]) ZAB rfl ?_;intro v' M' h1 h2 h3 _;obtain⟨g1,g2⟩:=A3f (X:=[]) k ha.lat ZAU ZBR;simp -dsimp[t6,t7,w1];refine⟨i+1,Q0,l.symm,?_,g1,by rw[s];exact⟨h1,g2⟩⟩;omega
end
end Go.Abs
