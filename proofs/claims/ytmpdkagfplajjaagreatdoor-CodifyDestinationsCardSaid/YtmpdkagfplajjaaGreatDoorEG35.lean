/- The texts CbS, CbN, CbO, CbP, CbQ, CbR, CbV, CbW, CbY, CbX0, CbX1, CeN, CeO, CeP, CeQ, CeR, CfA. -/
import Derived.Test.YtmpdkagfplajjaaGreatDoorEG32
import Derived.Test.YtmpdkagfplajjaaGreatDoorEG08
import Derived.Test.YtmpdkagfplajjaaGreatDoorEG30
import Derived.Test.YtmpdkagfplajjaaGreatDoorEG33
import Derived.Test.YtmpdkagfplajjaaGreatDoorEG29
import Derived.Test.YtmpdkagfplajjaaGreatDoorEG34
set_option linter.all false
set_option maxRecDepth 100000
namespace Go.Abs
open Go.Proofs TryTypes Tryz
def B2D{C}{G}{M}{w}(hi:Inv C G M w):∀(l:List ByteArray) (b off:Nat),A0C G 1 (A1c l) b off->∀(j:Nat) x,l[j]?=some x->w.cell? ⟨b,off+j,none⟩=some (.string x)
 |[],_,_,_,j,x,hx=>by simp at hx
 |s::l,b,off,h,j,x,hx=>by
  simp only[A1c,Z0t,A0C,A0O]at h;obtain⟨⟨_,⟨v,hv,_,hr⟩,_⟩,h2⟩:=h;cases j with
  |zero=>simp at hx;subst hx;simp only[Rep]at hr;subst hr;exact hi.st _ _ _ hv
  |succ j=>have:=B2D hi l b (off+1) h2 j x (by simpa using hx);rw[show off+(j+1)=off+1+j by omega];exact this
def C2X(l:List UInt8):ByteArray:=⟨l.toArray⟩
def C0s(l:List ByteArray)(sep:ByteArray):ByteArray:=C2X (Lib.join (l.map (·.data.toList)) sep.data.toList)
section
variable (gl:Nat->AV) (M:Mem)
def D6C(l:List ByteArray)(o:Own)(d:ByteArray)(hN:l.length<=140737488355328)(g:(Lib.join (l.map (·.data.toList)) d.data.toList).length<=140737488355328):A0e (WC gl) 127 [.list 1 (A1c l) o,S d] M (λv M'=>v=S (C0s l d)/\M'=M):=by
 refine B0I λG w vs hi hr=>?_
 simp only[A0s]at hr
 obtain⟨y,_,rfl,hy,z,_,rfl,hz,rfl⟩:=hr
 simp only[Rep]at hy hz
 obtain⟨base,cap,rfl,hc,hm,hb,ho⟩:=hy
 subst hz
 rw[B5v]at hc
 have c:∀a,l=[]->Calls prog 127 #[.slice a l.length cap,.string d] w λe w'=>e=.returned (.string (C0s l d))/\RowKit.Below w.heap.size w w':=by rintro a rfl;exact Z2H (strings_Join_none a cap d w) λe w' ⟨he,hw⟩=>⟨he,hw▸RowKit.Below.refl _ _⟩
 show Calls prog 127 #[.slice base (A1c l).length cap,.string d] w _
 rw[B5v]
 cases base with
 |none=>
  have:l=[]:=by simpa[A1c]using hb.1
  exact c _ this
 |some a=>
  by_cases hl:l=[]
  .exact c _ hl
  .have hs:=hb.1 (by simpa[A1c]using hl);obtain⟨b,off,spot⟩:=a;subst hs;have f:=B2D hi l b off hb.2;have h:b<w.heap.size:=by
    cases l with
    |nil=>exact absurd rfl hl
    |cons s l=>exact Z2v w ⟨b,off+0,none⟩ (f 0 s rfl)
   exact strings_Join b off cap l d w f h hN hc g
def D1e(s:ByteArray)(c:Nat)(hc:c<=9223372036854775807)(a:s.size*c<=140737488355328):A0e (WC gl) 226 [S s,I c] M (λv M'=>v=S (C2X (Lib.repeatL s.data.toList c))/\M'=M):=by
 refine B0I λG w vs hi hr=>?_
 simp only[A0s]at hr
 obtain⟨y,_,rfl,hy,z,_,rfl,hz,rfl⟩:=hr
 simp only[Rep]at hy hz
 subst hy
 subst hz
 exact strings_Repeat s c w hc a
end
def C3F:∀d:Fin 9,C2X (Lib.repeatL [32,32] d.val)=B4A d.val:=by decide
def B5V:∀r:List ByteArray,A6u r=r.length+Lib.lens (r.map (·.data.toList))
 |[]=>rfl
 |a::r=>by rw[B1n,B5V r];simp only[Lib.lens,Z0t,List.sum_cons,Z0v];have:a.data.toList.length=a.size:=rfl;omega
def D3C(b:List UInt8)(hs:b.length=1):∀l:List ByteArray,l≠[]->(Lib.join (l.map (·.data.toList)) b).length+1=A6u l
 |[],h=>absurd rfl h
 |a::r,_=>by rw[Z0t,Lib.join_cons,Z0q,Lib.joinTail_length,hs,B1n,B5V,Z0R];have:a.data.toList.length=a.size:=rfl;omega
def A0a.lims_noKids{u}(h:u.lims):(A6x u).lims:=by obtain⟨a,b,c,d,e,f⟩:=u;rw[A0a.lims]at h;rw[A6x,A0a.lims];exact⟨⟨h.1.1,h.1.2.1,by simp[A0a.kids],h.1.2.2.2⟩,by rw[A6D];trivial⟩
def A9V{u}(h:Fit u):Fit (A6x u):=by
 obtain⟨h1,h2,h3⟩:=h;refine⟨?_,A0a.lims_noKids h2,?_⟩
 .obtain⟨a,b,c,d,e,f⟩:=u;obtain⟨g1,g2,g3,g4,g5,g6,g7,g8,g9⟩:=(A0a.good_iff _).1 h1;exact(A0a.good_iff _).2 ⟨by simp[A6x,A0a.id,IdD.good,idZ,inI],g2,g3,g4,g5,g6,g7,by simp[A6x,A0a.kids],by simp[A6x,A0a.kids]⟩
 .obtain⟨a,b,c,d,e,f⟩:=u;rw[A6x,A0o,A0x];omega
def B6f{u}(h:A2Z u):A2Z (A6x u):=by obtain⟨a,b,c,d,e,f⟩:=u;obtain⟨h0,h1,h2,h3⟩:=(A6V _).1 h;exact(A6V _).2 ⟨rfl,h1,h2,by simp[A6x,A0a.kids]⟩
def hMy:A2r:=⟨λd=>d !=2,λ_=>false,λ_=>false⟩
@[simp] def E3E:hMy.imm=λd=>d !=2:=rfl
section
variable (gl:Nat->AV)
def D8z(l:gl 0=A2u)(c:gl 1=A2J)(u:A0a)(d:Nat)(M:Mem)(hf:Fit u)(hb:A2Z u)(ha:A5Q u=true)(hd:d<=8):A0e (WC gl) 225 [.agg u.row,I d] M (λv M'=>v=B true/\M'=M):=by
 have hS:=λM=>B8K gl (A6x u) A0E M (.inr ⟨by cases u;rfl,rfl⟩) (A9V hf).1 (A9V hf).2.1 (A9V hf).2.2 (B6f hb)
 have hV:=λM=>B4t gl l c (A6x u) M (A9V hf)
 rw[B3w (B6f hb),D0g ha]at hV
 refine A0e.dataX ?_
 refine A0m hMy func225 ?_
 have k:A6A (A6x u) A0E=[I 0,I 0,I 0,I u.kind,S u.label,.list 4 (A0i u.head) .no,.list 4 (A0i u.words) .no,A0E]:=by cases u;rfl
 rw[k]at hS
 have m:u.id=idZ:=((A6V u).1 hb).1
 have h1:(0:Int)<=d:=by omega
 have h2:(d:Int)<=8:=by omega
 obtain⟨b,hb⟩:∃b,b=M.length:=⟨_,rfl⟩
 have h:u.row=[I 0,I 0,I 0,I u.kind,S u.label,.list 4 (A0i u.head) .no,.list 4 (A0i u.words) .no,.list 8 (A0u u.kids) .no]:=by rw[u.row_eq,m];rfl
 obtain⟨M1,f⟩:∃M1,M1=M++[A0j.cells 27 u.row]:=⟨_,rfl⟩
 have c:Grow M M1:=by rw[f];exact A0c.app none _ _
 have hX:M1[b]?=some (A0j.cells 27 u.row):=by rw[f,hb];simp
 have i:b<M1.length:=(Z0b.1 hX).1
 obtain⟨M2,a⟩:∃M2,M2=M1.set b (.cells 27 [I 0,I 0,I 0,I u.kind,S u.label,.list 4 (A0i u.head) .no,.list 4 (A0i u.words) .no,A0E]):=⟨_,rfl⟩
 have e:M2[b]?=some (.cells 27 [I 0,I 0,I 0,I u.kind,S u.label,.list 4 (A0i u.head) .no,.list 4 (A0i u.words) .no,A0E]):=by rw[a];simp[i]
 have o:Grow M M2:=⟨by rw[a];simpa using c.1,λj hj _=>by rw[a,Z0f (by omega)];exact c.2 j hj (by simp)⟩
 rw[h]at hX
 have g:M1.set b (.cells 27 [I 0,I 0,I 0,I u.kind,S u.label,.list 4 (A0i u.head) .no,.list 4 (A0i u.words) .no,.list 8 (A0u u.kids) .no])=M1:=List.set_eq_of_getElem? hX
 simp -dsimp -implicitDefEqProofs[A0k]
 rw[<-f,<-hb]
 simp -dsimp -implicitDefEqProofs[C9h,A0f hX,g]
 rw[<-a]
 simp -dsimp -implicitDefEqProofs[h1,h2,A0b e]
 refine A0g func180 (hS M2) ?_
 simp -dsimp -implicitDefEqProofs[h1,h2,A0b e]
 refine A0g func109 (hV _) ?_
 simp -dsimp -implicitDefEqProofs[h1,h2,A0b e]
 exact⟨o,.same trivial .nil⟩
def D8m(s:ByteArray)(ws:List A0M)(M:Mem)(hs:s.size<=1000000)(hl:ws.length<=1000000)(hw:∀w∈ws,1<=w.text.size/\w.text.size<=24):A0e (WC gl) 227 [S s,.list 4 (A0i ws) .no] M (λv M'=>v=S (B0V s ws)/\M'=M):=by
 refine A0e.dataX ?_
 refine A0m hB func227 ?_
 simp -dsimp -implicitDefEqProofs
 refine A0F hB ws.length 9 (λT M1=>∃i:Nat,i<=ws.length/\T 0=S (B0V s (ws.take i))/\T 7=.list 4 (A0i ws) .no/\T 8=I ws.length/\T 9=I i/\Grow M M1) ?_ ?_
 .refine⟨0,by omega,by simp[B0V],by simp,by simp,by simp,A0c.refl _ _⟩
 rintro T M1 ⟨i,i1,t0,t7,t8,t9,hg⟩
 by_cases hi:i<ws.length
 case neg=>
  have a:¬(i:Int)<ws.length:=by omega
  rw[Z0j (by omega)]at t0;simp -dsimp -implicitDefEqProofs[t0,t7,t8,t9,a,hg];exact .same trivial .nil
 have a:(i:Int)<ws.length:=by omega
 have w1:=A2s (i:=i) (by omega)
 have h1:=hw _ (Z0y hi)
 have hp:B0V s (ws.take (i+1))=B0V s (ws.take i)++⟨#[32]⟩++B6G ws[i].text:=by rw[Z0D hi,B0V,Z3O];rfl
 obtain⟨p,e⟩:∃p,p=B0V s (ws.take i):=⟨_,rfl⟩
 obtain⟨h1,h2⟩:=h1
 have f:p.size<=27000000:=by have:=A9v (ws.take i) s λw h=>(hw w (Z1p h)).2;rw[<-e]at this;simp at this;omega
 have d:(⟨#[32]⟩:ByteArray).size=1:=rfl
 have c:(⟨#[92]⟩:ByteArray).size=1:=rfl
 have b1:¬(9223372036854775807:Int)<p.size+1:=by omega
 have b2:¬(9223372036854775807:Int)<p.size+1+1:=by omega
 have b3:¬(9223372036854775807:Int)<p.size+1+ws[i].text.size:=by omega
 have b4:¬(9223372036854775807:Int)<p.size+1+1+ws[i].text.size:=by omega
 have b5:0<ws[i].text.size:=h1
 obtain⟨t,ht⟩:∃t,t=ws[i].text:=⟨_,rfl⟩
 rw[<-e]at t0 hp
 have b:Grow M (M1++[A0j.cells 152 ws[i].row]):=hg.trans (A0c.app none _ _)
 have hX:(M1++[A0j.cells 152 [S ws[i].text,I ws[i].act,I ws[i].item,I ws[i].at_]])[M1.length]?=some (.cells 152 [S ws[i].text,I ws[i].act,I ws[i].item,I ws[i].at_]):=by simp
 have b:Grow M (M1++[A0j.cells 152 [S ws[i].text,I ws[i].act,I ws[i].item,I ws[i].at_]]):=b
 by_cases c1:A1I ws[i].text 0=124
 .have he:B6G ws[i].text=⟨#[92]⟩++ws[i].text:=by rw[B6G,Z0d (.inl c1)]
  rw[he]at hp;simp -dsimp -implicitDefEqProofs[t0,t7,t8,t9,a,hi,A0k,A0l,A0d,AV.storable,AV.cells,A0M.row,d,c,Z0E,b1,b2,b3,b4,b5,c1,w1,A0b hX];refine⟨⟨i+1,by clear w1;omega,?_,rfl,b⟩,by clear w1;omega⟩;rw[hp];simp only[C4q]
 by_cases c2:A1I ws[i].text 0=92
 .have he:B6G ws[i].text=⟨#[92]⟩++ws[i].text:=by rw[B6G,Z0d (.inr c2)]
  rw[he]at hp;simp -dsimp -implicitDefEqProofs[t0,t7,t8,t9,a,hi,A0k,A0l,A0d,AV.storable,AV.cells,A0M.row,d,c,Z0E,b1,b2,b3,b4,b5,c1,c2,w1,A0b hX];refine⟨⟨i+1,by clear w1;omega,?_,rfl,b⟩,by clear w1;omega⟩;rw[hp];simp only[C4q]
 have he:B6G ws[i].text=ws[i].text:=by rw[B6G,Z0e (by simp[c1,c2])]
 rw[he]at hp
 simp -dsimp -implicitDefEqProofs[t0,t7,t8,t9,a,hi,A0k,A0l,A0d,AV.storable,AV.cells,A0M.row,d,c,Z0E,b1,b2,b3,b4,b5,c1,c2,w1,A0b hX]
 exact⟨⟨i+1,by clear w1;omega,by rw[hp],rfl,b⟩,by clear w1;omega⟩
def A7j{l}(h:A5F l=true):l.length<=256/\∀w∈l,1<=w.text.size/\w.text.size<=24:=by simp only[A5F,Z0g,Z0m,Z0p]at h;refine⟨h.1,λw hw=>?_⟩;have:=h.2 w hw;simp only[A4z,Z0g,Z0m]at this;exact this.1
def A8x{u}(h:A5Q u=true):(0<=u.kind/\u.kind<=7)/\A5F u.head=true/\A5F u.words=true:=by unfold A5Q at h;simp only[Z0g,Z0m]at h;exact⟨h.1.1.1.1,h.1.1.2,h.1.2⟩
def C5k{k}(h:0<=k/\k<=7):A4A k=A9q.getD k.toNat ⟨#[]⟩:=by
 have key:∀n:Fin 8,A8Z.getD n.val .empty=A9q.getD n.val ⟨#[]⟩:=by decide
 have:=key ⟨k.toNat,by omega⟩;rw[A4A,Z0d (by omega),this]
def D5S(t:gl 0=A2u)(l:gl 1=A2J)(u:A0a)(d:Nat)(M:Mem)(hf:Fit u)(hb:A2Z u)(ha:A5Q u=true)(hd:d<=8):A0e (WC gl) 182 [.agg u.row,I d] M (λv M'=>v=S (A6B u d)/\M'=M):=by
 obtain⟨hk,hh,hw⟩:=A8x ha
 obtain⟨r,k⟩:=A7j hh
 obtain⟨o,j⟩:=A7j hw
 have y:=((A3r u hf.2.1).1).2.2.2
 have c:(⟨#[32]⟩:ByteArray).size=1:=rfl
 have a:(⟨#[58]⟩:ByteArray).size=1:=rfl
 have e3:(⟨#[32,124]⟩:ByteArray).size=2:=rfl
 have f:=λM=>D1e gl M ⟨#[32,32]⟩ d (by omega) (by show 2*d<=_;omega)
 have hdr:C2X (Lib.repeatL (⟨#[32,32]⟩:ByteArray).data.toList d)=B4A d:=C3F ⟨d,by omega⟩
 rw[hdr]at f
 have a0:=B3j d
 have hn:=C5k hk
 have key:∀n:Fin 8,(A9q.getD n.val ⟨#[]⟩).size<=9:=by decide
 have m:=key ⟨u.kind.toNat,by omega⟩
 have g:B2C u d=B4A d++A9q.getD u.kind.toNat ⟨#[]⟩:=rfl
 simp only at m
 rw[<-hn]at g m
 have b1:¬(9223372036854775807:Int)<(B4A d).size+(A4A u.kind).size:=by omega
 have a1:(B2C u d).size<=2*d+9:=by rw[g,Z0E];omega
 have a2:(A8r u d).size<=2*d+1010:=by
  unfold A8r;split
  .omega
  .rw[Z0E,Z0E,c];omega
 have z:(A7b u d).size<=2*d+7700:=by
  unfold A7b;split
  .omega
  .have:=A9v u.head (A8r u d++⟨#[58]⟩) (λw h=>(k w h).2);rw[Z0E,a]at this;omega
 have b2:¬(9223372036854775807:Int)<1+u.label.size:=by omega
 have b3:¬(9223372036854775807:Int)<(B2C u d).size+(1+u.label.size):=by omega
 have b4:¬(9223372036854775807:Int)<(A8r u d).size+1:=by omega
 have b5:¬(9223372036854775807:Int)<(A7b u d).size+2:=by omega
 refine A0m hB func182 ?_
 simp -dsimp -implicitDefEqProofs[u.row_eq]
 refine A0g func225 (u.row_eq▸D8z gl t l u d M hf hb ha hd) ?_
 simp -dsimp -implicitDefEqProofs
 refine A1v hB (A0I gl) (λ_=>0) (λ_=>0) (by rfl) (by kernel_rfl) ?_
 simp -dsimp -implicitDefEqProofs
 refine A2F func226 f ?_
 simp -dsimp -implicitDefEqProofs
 refine A2F func207 (λM=>(B1a gl M l _)) ?_
 have q1:B4A d++A4A u.kind=B2C u d:=g.symm
 have b:∀ws:List A0M,ws.length<=256->(∀w∈ws,1<=w.text.size/\w.text.size<=24)->∀s,s.size<=1000000->∀M,A0e (WC gl) 227 [S s,.list 4 (A0i ws) .no] M (λv M'=>v=S (B0V s ws)/\M'=M):=λws h1 h2 s h3 M=>D8m gl s ws M h3 (by omega) h2
 by_cases k0:u.kind=0
 .have e:=ha;unfold A5Q at e;simp only[k0,Z0F,Z0g,Z0m]at e;have z1:u.head.length=0:=e.2.1.2;have z2:u.words.length=0:=e.2.2;have q:A6B u d=B2C u d:=by rw[A6B,Z0d z2,A7b,Z0d z1,A8r,Z0d k0]
  rw[k0]at b1 q1|-;simp -dsimp -implicitDefEqProofs[b1,k0,q1,z1,z2,q]
 have q2:B2C u d++(⟨#[32]⟩++u.label)=A8r u d:=by rw[A8r,Z0e k0]
 by_cases z1:u.head.length=0
 .have q3:A8r u d=A7b u d:=by rw[A7b,Z0d z1]
  by_cases z2:u.words.length=0
  ·(have q4:A7b u d=A6B u d:=by rw[A6B,Z0d z2]);simp -dsimp -implicitDefEqProofs[b1,k0,q1,q2,z1,z2,c,a,e3,Z0E,b2,b3,q3,q4]
  ·(have i:0<u.words.length:=by omega);have q4:A6B u d=B0V (A7b u d++⟨#[32,124]⟩) u.words:=by rw[A6B,Z0e z2]
   simp -dsimp -implicitDefEqProofs[b1,k0,q1,q2,z1,i,c,a,e3,Z0E,b2,b3,b5,q3];refine A0r func227 (b u.words o j _ (by rw[Z0E,e3];omega) M) ?_;rintro _ M ⟨rfl,rfl⟩;simp -dsimp -implicitDefEqProofs[q4]
 have p:0<u.head.length:=by omega
 have q3:A7b u d=B0V (A8r u d++⟨#[58]⟩) u.head:=by rw[A7b,Z0e z1]
 simp -dsimp -implicitDefEqProofs[b1,k0,q1,q2,p,c,a,e3,Z0E,b2,b3,b4]
 refine A0r func227 (b u.head r k _ (by rw[Z0E,a];omega) M) ?_
 rintro _ M ⟨rfl,rfl⟩
 rw[<-q3]
 by_cases z2:u.words.length=0
 .have q4:A7b u d=A6B u d:=by rw[A6B,Z0d z2]
  simp -dsimp -implicitDefEqProofs[z2,q4]
 .have i:0<u.words.length:=by omega
  have q4:A6B u d=B0V (A7b u d++⟨#[32,124]⟩) u.words:=by rw[A6B,Z0e z2]
  simp -dsimp -implicitDefEqProofs[i,e3,b5];refine A0r func227 (b u.words o j _ (by rw[Z0E,e3];omega) M) ?_;rintro _ M ⟨rfl,rfl⟩;simp -dsimp -implicitDefEqProofs[q4]
end
section
structure B6e (n:Nat) (M0 M:Mem) (xs:List ByteArray):Prop where
 low:A0W n M0 M
 len:n+2<=M.length
 fn:M[n+1]?=some (.cells 100 [.func (.func 181) [] [.ptr n 0,.ptr (n+1) 0]])
 arr:∃v,M[n]?=some (.cells 37 [v])/\A1l 9 1 A6I M v xs/\A1m (n+2) v
def B6e.app{n}{M0 M}{xs}(h:B6e n M0 M xs)(X:Mem):B6e n M0 (M++X) xs:=by
 obtain⟨h1,h2,h3,v,h4,h5,h6⟩:=h;have hl:∀j Y,M[j]?=some Y->(M++X)[j]?=some Y:=λj Y h=>by rw[Z0h (Z0b.1 h).1];exact h
 refine⟨⟨by simp;have:=h1.1;omega,λj hj=>?_⟩,by simp;omega,hl _ _ h3,v,hl _ _ h4,h5.keep (A0c.app none M X) (by simp),h6⟩;rw[Z0h (by omega)];exact h1.2 j hj
mutual
def B4f:∀(d:Nat) (u:A0a),(A5T d u).length=A0o u
 |d,.mk _ _ _ _ _ ks=>by rw[A5T,A0o,Z0v,B0j (d+1) ks];omega
def B0j:∀(d:Nat) (ks:List A0a),(A5W d ks).length=A0x ks
 |d,[]=>by rw[A5W,A0x];rfl
 |d,k::ks=>by rw[A5W,A0x,Z0q,B4f d k,B0j d ks]
end
def C6L{d:Nat}{ks:List A0a}{i:Nat}(h:i<ks.length):A5W d (ks.take (i+1))=A5W d (ks.take i)++A5T d ks[i]:=by
 induction ks generalizing i with
 |nil=>simp at h
 |cons k ks ih=>
  cases i with
  |zero=>simp[A5W]
  |succ i=>simp only[Z0A,A5W,Z2U];rw[ih (by simpa using h),Z0W]
def A7a{u}(h:A2W u=true):A5Q u=true:=by obtain⟨a,b,c,d,e,f⟩:=u;rw[A2W,Z0g]at h;exact h.1
def B8L{p}:∀{ks b:List A0a},A6o p ks b=true->∀k∈ks,A2W k=true
 |[],_,_,k,hk=>by simp at hk
 |a::ks,b,h,k,hk=>by
  rw[A6o]at h;simp only[Z0g]at h;rcases Z0u.1 hk with rfl|hk
  .exact h.1.1.2
  .exact B8L h.2 k hk
def B4X{u}(h:A2W u=true):∀k∈u.kids,A2W k=true:=by obtain⟨a,b,c,d,e,f⟩:=u;rw[A2W,Z0g]at h;exact B8L h.2
def B9Q:∀{ks:List A0a},∀k∈ks,1+A1R k<=A3i ks
 |[],k,hk=>by simp at hk
 |a::ks,k,hk=>by
  rw[A3i];rcases Z0u.1 hk with rfl|hk
  .omega
  .have:=B9Q k hk;omega
def D1C{u}:∀k∈u.kids,1+A1R k<=A1R u:=by obtain⟨a,b,c,d,e,f⟩:=u;intro k hk;rw[A1R];exact B9Q k hk
def D6n{u}(h:Fit u):∀k∈u.kids,Fit k:=by obtain⟨h1,h2,h3⟩:=h;intro k hk;have:=A4j hk;rw[A7g]at h3;exact⟨((A0a.good_iff _).1 h1).2.2.2.2.2.2.2.2 k hk,A3E.1 (A3r u h2).2 k hk,by omega⟩
def D2y{u}(h:A2Z u):∀k∈u.kids,A2Z k:=((A6V u).1 h).2.2.2
def C5H{ks}{i}(h:i<ks.length):A0x (ks.take i)+A0o ks[i]<=A0x ks:=by
 induction ks generalizing i with
 |nil=>simp at h
 |cons k ks ih=>
  cases i with
  |zero=>simp[A0x]
  |succ i=>have:=ih (i:=i) (by simpa using h);simp only[Z0A,A0x,Z2U];omega
@[simp] def E3N:A2e prog 100=some false:=by kernel_rfl
@[simp] def E6B:A1b prog 100=some 1:=by kernel_rfl
@[simp] def E2Q:A0z prog 100=some [.nilFunc]:=by kernel_rfl
def hLn:A2r:=⟨λ_=>true,λ_=>false,λd=>d==13⟩
@[simp] def E4q:hLn.imm=λ_=>true:=rfl
@[simp] def E5i:hLn.own=λ_=>false:=rfl
@[simp] def E4X:hLn.vec=λd=>d==13:=rfl
section
variable (gl:Nat->AV)
set_option maxHeartbeats 1000000 in
def C1i(a6:gl 0=A2u)(a4:gl 1=A2J):∀(N:Nat) (U:A0a) (d n:Nat) (M0 M:Mem) (xs:List ByteArray),A0o U<=N->Fit U->A2Z U->A2W U=true->d+A1R U<=8->B6e n M0 M xs->xs.length+A0o U<=1000->
 A0e (WC gl) 181 [.agg U.row,I d,.ptr n 0,.ptr (n+1) 0] M (λv M'=>B6e n M0 M' (xs++A5T d U))
 |0,U,d,n,M0,M,xs,hN,hf,hb,hr,hdep,ho,hc=>by have:=A5R U;omega
 |N+1,U,d,n,M0,M,xs,hN,hf,hb,hr,hdep,ho,hc=>by
  obtain⟨ks,g⟩:∃ks,U.kids=ks:=⟨_,rfl⟩;have ha:=A7a hr;have b:=λM=>D5S gl a6 a4 U d M hf hb ha (by omega);refine A0m hLn func181 ?_;obtain⟨v0,c,a2,l⟩:=ho.arr;have a9:n<M.length:=(Z0b.1 c).1;rw[U.row_eq]at b;simp -dsimp -implicitDefEqProofs[U.row_eq];refine B7y hLn (A0I gl) (λk=>if k=0 then 1 else if k=5\/k=6 then 2 else 0) (λ_=>n) (λ_ k=>k==6) (λk=>if k=6 then[]else[n]) (by intro i k _ h;have:k≠6:=(by simpa using h);simp[this]) (by rfl) (by kernel_rfl) ?_;simp -dsimp -implicitDefEqProofs[A0b c,A0R,A7f];refine A2F func182 b ?_;simp -dsimp -implicitDefEqProofs[A0q,A1f,AV.storable,AV.cells];have aa:=A7g U;rw[g]at aa;refine A4C (C:=WC gl) (enc:=A6I) (e:=9) (sz:=1) (news:=[A6B U d]) A8j B0S B8l (λ_=>rfl) a2 (by simp[A0A]) (by simp;omega) rfl ?_;intro v1 M2 p1 p2 p3 _;have s:M2[n]?=some (.cells 37 [v0]):=p2.get c (λe=>by have:=l n e;omega);have a7:M2[n+1]?=some (.cells 100 [.func (.func 181) [] [.ptr n 0,.ptr (n+1) 0]]):=p2.get ho.fn (λe=>by have:=l _ e;omega);have t:n<M2.length:=(Z0b.1 s).1;have z:A1m (n+2) v1:=λf hf=>by
   rcases p3 with e|e
   .exact l f (e▸hf)
   .have:=e f hf;have:=ho.len;omega
  have a3:n+2<=M2.length:=Z0Q ho.len p2.1;have u:B6e n M0 (M2.set n (.cells 37 [v1])) (xs++[A6B U d]):=by
   refine⟨⟨by have:=ho.low.1;have:=p2.1;simp;omega,λj hj=>?_⟩,by simpa using a3,?_,v1,?_,?_,z⟩
   .rw[Z0f (by omega),p2.2 j (by omega) (λe=>by have:=l _ e;omega)];exact ho.low.2 j hj
   .rw[Z0f (by omega)];exact a7
   .simp[t]
   .exact p1.keep ⟨by simp,λj hj h=>by rw[Z0f];rintro rfl;exact h rfl⟩ (o:=some n) (λf hf e=>by simp at e;have:=z f hf;omega)
  have w:A0l (some 1) M2 (.ptr n 0) v1=some (M2.set n (.cells 37 [v1])):=by rw[A0f s,p1.cells,Z0d ⟨p1.store,by simp,rfl⟩];rfl
  obtain⟨M3,a1⟩:∃M3,M3=M2.set n (.cells 37 [v1]):=⟨_,rfl⟩;rw[<-a1]at u w;have a5:M2[n]?=M[n]?:=by rw[s,c]
  simp -dsimp -implicitDefEqProofs[w,a5];clear w a1 a3 z t a7 s p1 p2 p3 a5 c a2 l a9 b;refine A0F hLn ks.length 17 (λT M5=>∃i:Nat,i<=ks.length/\T 1=I d/\T 2=.ptr n 0/\T 3=.ptr (n+1) 0/\T 15=.list 8 (A0u ks) .no/\T 16=I ks.length/\T 17=I i/\B6e n M0 M5 (xs++[A6B U d]++A5W (d+1) (ks.take i))) ?_ ?_
  .exact⟨0,by omega,by simp,by simp,by simp,by simp[g],by simp[g],by simp,by simpa[A5W]using u⟩
  clear u;rintro T M5 ⟨i,i1,t1,t2,t3,r,p,q,h5⟩;by_cases hi:i<ks.length;case neg=>
   (have y:¬(i:Int)<ks.length:=by omega);rw[Z0j (by omega)]at h5
   (have hL:A5T d U=A6B U d::A5W (d+1) ks:=by rw[<-g];cases U;rw[A5T];rfl);simp -dsimp -implicitDefEqProofs[t1,t2,t3,r,p,q,y]
   rw[hL];simpa using h5
  have y:(i:Int)<ks.length:=by omega
  have w1:=A2s (i:=i) (by have:=A2q ks;have:=hf.2.2;omega);have w2:=A2s (i:=d) (by omega);have a8:ks[i]∈ks:=Z0y hi;have a:ks[i]∈U.kids:=by rw[g];exact a8
  have ac:=D1C _ a;have ad:A0x (ks.take i)+A0o ks[i]<=A0x ks:=C5H hi;have h6:=h5.app [A0j.cells 27 ks[i].row];have m:=C1i a6 a4 N ks[i] (d+1) n M0 _ _ (by omega) (D6n hf _ a) (D2y hb _ a) (B4X hr _ a) (by omega) h6 (by simp[B0j];omega);obtain⟨M6,a0⟩:∃M6,M6=M5++[A0j.cells 27 ks[i].row]:=⟨_,rfl⟩;have ab:M6[M5.length]?=some (A0j.cells 27 ks[i].row):=by rw[a0];simp
  rw[<-a0]at m h6;simp -dsimp -implicitDefEqProofs[t1,t2,t3,r,p,q,hi,y,A0k,A0l,A0d,AV.storable,AV.cells];rw[<-a0];simp -dsimp -implicitDefEqProofs[t1,t2,t3,r,p,q,A0b ab,A0b h6.fn,w2];refine A0r func181 m ?_;intro _ M7 h7;simp -dsimp -implicitDefEqProofs[t1,t2,t3,r,p,q,w1];refine⟨⟨i+1,by clear w1;omega,rfl,?_⟩,by clear w1;omega⟩;rw[C6L hi];simpa using h7
def C4x{n}{M}{v}{l}(h:A1l 9 1 A6I M v l)(hl:A1m n v){cs ds}(hr:Still M n (bdd n) cs ds):Still M n (bdd n) (v::cs) (.list 1 (A1c l) .no::ds):=Still.append (a:=[v]) (b:=[.list 1 (A1c l) .no]) (A3P (λ_=>rfl) B9G h hl) hr
def D3h(b:gl 0=A2u)(d:gl 1=A2J)(u:A0a)(M:Mem)(hf:Fit u)(hb:A2Z u):A0e (WC gl) 126 [.agg u.row] M (λv M'=>v=(if B0E u=true then .list 1 (A1c (A5T 0 u)) .no else A0E)/\M'=M):=by
 have hS:=λM=>B8K gl u (.list 8 (A0u u.kids) .no) M (.inl rfl) hf.1 hf.2.1 hf.2.2 hb
 have hV:=λM=>B4t gl b d u M hf
 rw[B3w hb]at hV
 rw[show A6A u (.list 8 (A0u u.kids) .no)=u.row from u.row_eq.symm]at hS
 refine A0e.dataX ?_
 refine A0m hLn func126 ?_
 cases hfm:B0E u
 .rw[hfm]at hV;rw[u.row_eq]at hS hV|-;simp -dsimp -implicitDefEqProofs;refine A0g func180 (hS M) ?_;simp -dsimp -implicitDefEqProofs;refine A0g func109 (hV M) ?_;simp -dsimp -implicitDefEqProofs;exact⟨Grow.refl _,.same (by simp[bdd]) .nil⟩
 rw[hfm]at hV
 have c:=hfm
 simp only[B0E,Z0g,Z0m]at c
 have ho:B6e M.length M (M++[.cells 37 [A0E],.cells 100 [.func (.func 181) [] [.ptr M.length 0,.ptr (M.length+1) 0]]]) []:=by refine⟨⟨by simp,λj hj=>by rw[Z0h hj]⟩,by simp,by simp[Z1h],A0E,by simp,.nil,λf hf=>by simp at hf⟩
 have a:=C1i gl b d _ u 0 M.length M _ [] (Z0n _) hf hb c.1.1 (by omega) ho (by have:=hf.2.2;simp;omega)
 have hX:=ho.fn
 have e:A0l (some 1) (M++[.cells 37 [A0E],.cells 100 [.val .nilFunc]]) (.ptr (M.length+1) 0) (.func (.func 181) [] [.ptr M.length 0,.ptr (M.length+1) 0])=some (M++[.cells 37 [A0E],.cells 100 [.func (.func 181) [] [.ptr M.length 0,.ptr (M.length+1) 0]]]):=by rw[A0f (bt:=100) (cs:=[.val .nilFunc]) (by simp[Z1h])];simp[List.set_append,A0d,AV.storable,AV.cells]
 rw[u.row_eq]at hS hV a|-
 simp -dsimp -implicitDefEqProofs
 refine A0g func180 (hS M) ?_
 simp -dsimp -implicitDefEqProofs
 refine A0g func109 (hV M) ?_
 simp -dsimp -implicitDefEqProofs[A0k,e,A0b hX]
 refine A0r func181 a ?_
 rintro _ M2 ⟨h1,h2,h3,v,h4,h5,h6⟩
 simp -dsimp -implicitDefEqProofs[A0b h4]
 refine⟨h1.grow (Grow.refl _) (Z0n _),?_⟩
 exact C4x h5 (λf hf=>by have:=h6 f hf;omega) .nil
end
end
section
def D0T(u:A0a)(d:Nat)(ha:A5Q u=true)(g:u.label.size<=1000):(A6B u d).size<=2*d+15000:=by
 obtain⟨hk,hh,hw⟩:=A8x ha;obtain⟨o,f⟩:=A7j hh;obtain⟨m,c⟩:=A7j hw;have e:(⟨#[32]⟩:ByteArray).size=1:=rfl;have b:(⟨#[58]⟩:ByteArray).size=1:=rfl;have e3:(⟨#[32,124]⟩:ByteArray).size=2:=rfl;have k:=B3j d;have key:∀n:Fin 8,(A9q.getD n.val ⟨#[]⟩).size<=9:=by decide
 have a:=key ⟨u.kind.toNat,by omega⟩;simp only at a;have i:(B2C u d).size<=2*d+9:=by rw[B2C,Z0E];omega
 have l:(A8r u d).size<=2*d+1010:=by
  unfold A8r;split
  .omega
  .rw[Z0E,Z0E,e];omega
 have j:(A7b u d).size<=2*d+7700:=by
  unfold A7b;split
  .omega
  .have:=A9v u.head (A8r u d++⟨#[58]⟩) (λw h=>(f w h).2);rw[Z0E,b]at this;omega
 unfold A6B;split
 .omega
 .have:=A9v u.words (A7b u d++⟨#[32,124]⟩) (λw h=>(c w h).2);rw[Z0E,e3]at this;omega
mutual
def B5Y:∀(u:A0a) (d:Nat),A2W u=true->u.lims->d+A1R u<=8->A6u (A5T d u)<=A0o u*15020
 |.mk a b c e f ks,d,hr,hl,hd=>by have h1:=D0T _ d (A7a hr) (A3r _ hl).1.2.2.2;rw[A0a.lims]at hl;rw[A2W,Z0g]at hr;rw[A1R]at hd;have h2:=B5J ks (d+1) b [] hr.2 hl.2 (λh=>by omega);rw[A5T,B1n,A0o];omega
def B5J:∀(ks:List A0a) (d:Nat) (p:Int) (bf:List A0a),A6o p ks bf=true->A6D ks->(ks≠[]->d+A3i ks<=9)->A6u (A5W d ks)<=A0x ks*15020
 |[],d,p,bf,_,_,_=>by rw[A5W,A0x];simp
 |k::ks,d,p,bf,hr,hl,hd=>by rw[A6o]at hr;simp only[Z0g]at hr;rw[A6D]at hl;have hd:=hd (by simp);rw[A3i]at hd;have h1:=B5Y k d hr.1.1.2 hl.1 (by omega);have h2:=B5J ks d p _ hr.2 hl.2 (λ_=>by omega);rw[A5W,C7x,A0x];omega
end
def D2g(d:Nat)(u:A0a):A5T d u≠[]:=by cases u;rw[A5T];simp
section
variable (gl:Nat->AV)
def C0F(f:gl 0=A2u)(e:gl 1=A2J)(u:A0a)(M:Mem)(hf:Fit u)(hb:A2Z u):A0e (WC gl) 72 [.agg u.row] M (λv M'=>(∃t,v=.tuple [S t,I (B0h u)])/\M'=M):=by
 refine A0m hB func72 ?_
 have hL:=D3h gl f e u M hf hb
 cases hfm:B0E u
 .rw[hfm,Z0e (by simp)]at hL;have hE:B0h u=1:=by simp[B0h,hfm]
  rw[u.row_eq]at hL|-;simp -dsimp -implicitDefEqProofs;refine A0g func126 hL ?_;simp -dsimp -implicitDefEqProofs[hE]
 rw[hfm,Z0d rfl]at hL
 have c:=hfm
 simp only[B0E,Z0g,Z0m]at c
 obtain⟨L,j⟩:∃L,L=A5T 0 u:=⟨_,rfl⟩
 have k:=B5Y u 0 c.1.1 hf.2.1 (by omega)
 have a:=D2g 0 u
 have i:=B4f 0 u
 have hE:B0h u=if 16384<A6u (A5T 0 u)then 6 else 0:=by simp[B0h,hfm]
 rw[<-j]at hL k a i hE
 have l:=hf.2.2
 have h:=D3C [10] rfl L a
 have g:0<L.length:=by rcases L with _|_<;>simp at a|-
 have b:¬(L.length:Int)=0:=by omega
 have m:(C0s L ⟨#[10]⟩).size+1=A6u L:=h
 have hj:=λM=>D6C gl M L .no ⟨#[10]⟩ (by omega) (by show(Lib.join _ [10]).length<=_;omega)
 rw[u.row_eq]at hL|-
 simp -dsimp -implicitDefEqProofs
 refine A0g func126 hL ?_
 simp -dsimp -implicitDefEqProofs[B5v,b,g,a]
 refine A0g func127 (hj M) ?_
 have d:(⟨#[10]⟩:ByteArray).size=1:=rfl
 have b1:¬(9223372036854775807:Int)<(C0s L ⟨#[10]⟩).size+1:=by omega
 by_cases hbig:16384<A6u L
 .have h2:(16384:Int)<(C0s L ⟨#[10]⟩).size+1:=by omega
  rw[Z0d hbig]at hE;simp -dsimp -implicitDefEqProofs[d,b1,Z0E,h2,hE]
 .have h2:¬(16384:Int)<(C0s L ⟨#[10]⟩).size+1:=by omega
  rw[Z0e hbig]at hE;simp -dsimp -implicitDefEqProofs[d,b1,Z0E,h2,hE]
end
end
open Go.Proofs TryTypes
section
variable (gl:Nat->AV)
end
section
variable (gl:Nat->AV) (M:Mem)
end
section
variable (gl:Nat->AV)
end
section
variable (gl:Nat->AV)
end
section
variable (gl:Nat->AV)
end
section
variable (gl:Nat->AV)
end
section
def B1u{E:Nat->Int}:∀(r i:Nat),A9R E r i=0->∀j,i<=j->j<i+r->E j=0
 |0,i,_,j,h1,h2=>by omega
 |r+1,i,h,j,h1,h2=>by
  rw[A9R]at h;by_cases c:E i=0
  .rw[Z0d c]at h;rcases Z3x i j with h3|h3
   .exact B1u r (i+1) h j h3 (by omega)
   .rw[show j=i by omega];exact c
  .rw[Z0e c]at h;exact absurd h c
mutual
def C9y(P:A0a->Prop)(hk:∀u,P u->∀k∈u.kids,P k):∀u:A0a,P u->∀v∈A3X u,P v
 |.mk a b c d e ks,h,v,hv=>by
  rw[A3X]at hv;rcases Z0u.1 hv with rfl|hv
  .exact h
  .exact C4S P hk ks (λk hm=>hk _ h k hm) v hv
def C4S(P:A0a->Prop)(hk:∀u,P u->∀k∈u.kids,P k):∀ks:List A0a,(∀k∈ks,P k)->∀v∈A6g ks,P v
 |[],_,v,hv=>by rw[A6g]at hv;simp at hv
 |k::ks,h,v,hv=>by
  rw[A6g]at hv;rcases Z0V.1 hv with hv|hv
  .exact C9y P hk k (h k (by simp)) v hv
  .exact C4S P hk ks (λq hq=>h q (by simp[hq])) v hv
end
def A8h{u v}{x}(h:A0U x u=some v):v.id=x/\v∈A3X u:=by rw[A9t]at h;refine⟨?_,Z3c h⟩;have:=List.find?_some h;simpa using this
structure A6m (u:A0a) (l:List A0Q):Prop where
 ord:∀j,j<l.length->B0C l j
 fd:∀n (h:n<l.length),∃x,A0U l[n].id u=some x/\x.good/\x.words.length<=300/\x.head.length<=300
 lab:∀n (h:n<l.length),l[n].label.size<=7
 nd:(l.map A0Q.id).Nodup
 nu:(A0V u).Nodup
 mem:∀x∈l,x.id∈(A0V u).tail
 len:l.length=(A0V u).tail.length
def C4j{u}{l}(hf:Fit u)(h:A7F (λx=>A0U x u) u l=0):A6m u l:=by
 unfold A7F at h;split at h
 .simp at h
 rename_i hb;simp only[Z1U,Z3N]at hb;split at h;case isFalse m=>exact absurd h m
 rename_i hfe;split at h;case isFalse=>simp at h
 rename_i hlen;have he:=λn (hn:n<l.length)=>B1u _ _ hfe n (Z3a _) (by omega);simp only[B2A,D4q,Z0g,Z0m]at hb;obtain⟨⟨s,⟨⟨hr,t⟩,hc⟩,r⟩,g⟩:=hb;have q:(A0V u).Nodup:=by have:=A8H (A0V u) [] List.nodup_nil g;simpa using this
 have key:∀n (h:n<l.length),(∃x,A0U l[n].id u=some x)/\l[n].id≠u.id/\(∀j (hj:j<n),(l[j]'(by omega)).id≠l[n].id)/\A0X l[n].label=true:=by
  intro n hn;have h:=he n hn;simp only[B5m,Z0k hn]at h;split at h
  .simp at h
  rename_i h1;split at h
  .simp at h
  rename_i h2;split at h
  .simp at h
  split at h
  .simp at h
  rename_i h4;simp only[Z1A,Z1U,Z0m,Z2L,Z3N]at h1;refine⟨Z3W.1 h1.1,h1.2,λj hj e=>?_,by simpa using h4⟩;refine h2 (Z2o.2 ⟨l[j]'(by omega),?_,by simpa using e⟩);exact List.mem_take_iff_getElem.2 ⟨j,by omega,rfl⟩
 have o:=A5A u;refine⟨C6E he,λn hn=>?_,λn hn=>B6y (key n hn).2.2.2,?_,q,λy hy=>?_,?_⟩
 .obtain⟨x,hx⟩:=(key n hn).1;obtain⟨h1,h2⟩:=A8h hx;have h3:=C9y (λv=>v.good/\A2W v=true) (λv hv k hm=>⟨((A0a.good_iff _).1 hv.1).2.2.2.2.2.2.2.2 k hm,B4X hv.2 k hm⟩) u ⟨hf.1,hr⟩ x h2;obtain⟨_,hh,hw⟩:=A8x (A7a h3.2);exact⟨x,hx,h3.1,by have:=(A7j hw).1;omega,by have:=(A7j hh).1;omega⟩
 .rw[List.Nodup,Z2s];intro i j hi hj p;simp only[Z2b];exact(key j (by simpa using hj)).2.2.1 i p
 .obtain⟨n,hn,rfl⟩:=Z3b hy;obtain⟨⟨x,hx⟩,m,_⟩:=key n hn;obtain⟨h1,h2⟩:=A8h hx;have h3:l[n].id∈A0V u:=by rw[<-A7c,<-h1];exact Z0H.2 ⟨x,h2,rfl⟩
  obtain⟨a,b,c,d,e,f⟩:=u;rw[A0V]at h3|-;rcases Z0u.1 h3 with h3|h3
  .exact absurd h3 m
  .exact h3
 .rw[List.length_tail,o];omega
section
variable {F:IdD->Option A0a} {l:List A0Q} {s:List A1P}
def C6x{x}(hl:l.length<=1000)(f:∀s∈l,s.good)(ht:∀m∈s,m.to.length<=40)(hx:x.good)(b:x.words.length<=300):(A7o F l s x).1.length<=100000000/\∀t∈(A7o F l s x).1,t.size<=maxLen:=by
 have c:(A0H x.words).length<=300:=by simpa[A0H]using b
 have a:∀t∈A0H x.words,t.size<=maxLen:=by intro t h;obtain⟨w,hw,rfl⟩:=Z0H.1 h;exact(((A0a.good_iff _).1 hx).2.2.2.2.2.2.1 w hw).1
 unfold A7o;simp only;generalize A0H x.words=xs at*;have e:(A3c xs 0).length<=xs.length:=A9G xs _ _;have d:=B1c (A3c xs 0) (λn:Nat=>A2K F l s x.id n) (λi=>B1O ht) (A3c xs 0).length;obtain⟨s1,s2⟩:=A7Y (old:=A8n (A3c xs 0) (λn:Nat=>A2K F l s x.id n) (A3c xs 0).length) (names:=B0P (λn:Nat=>A2K F l s x.id n) (A3c xs 0).length) (B:=maxLen) (by simp[maxLen]) a;have:(A8n (A3c xs 0) (λn:Nat=>A2K F l s x.id n) (A3c xs 0).length).length*(xs.length+19)<=12000*400:=Z4j (by omega) (by omega);exact⟨by omega,s1⟩
def B9O{t}(h:t.size<=maxLen):(A7L t).good:=by refine⟨h,?_⟩;simp[A7L,inI]
def B2e(a:∀j,j<l.length->B0C l j){n k:Nat}(hk:k∈A3T l n l.length):n<k/\k<l.length:=by
 simp only[A3T,Z1t,Z1i,Z0m]at hk;have:=(a k hk.1 k hk.1 (Z0n _)).2;have h2:A2w l k=l[k].parent:=by simp[A2w,hk.1]
 rw[<-h2,hk.2]at this;omega
def B7L{g:Nat->A0a×List IdD×Int}:∀K:List Nat,(∀k∈K,A0o (g k).1=(g k).2.1.length)->A0x ((K.map g).map (·.1))=((K.map g).flatMap (·.2.1)).length
 |[],_=>by rw[Z2a,Z2a,A0x];rfl
 |k::K,h=>by have h1:=B7L K λq hq=>h q (by simp[hq]);have h2:=h k (by simp);simp only[Z0t,A0x,Z1a,Z0q,h1,h2]
def A8E(a:∀j,j<l.length->B0C l j):∀f n,n<l.length->l.length<=f+n->A0o (A2l F l s f n).1=(A2l F l s f n).2.1.length
 |0,n,h1,h2=>by omega
 |f+1,n,h1,h2=>by
  have:=B7L (g:=A2l F l s f) (A3T l n l.length) λk hk=>by obtain⟨h3,h4⟩:=B2e a hk;exact A8E a f k h4 (by omega)
  rw[A2l];simp only;rw[A0o,this,Z0v];omega
def B7I(hl:l.length<=1000)(e:∀s∈l,s.good)(ht:∀m∈s,m.to.length<=40)(a:∀j,j<l.length->B0C l j)(c:∀n (h:n<l.length),l[n].label.size<=7)
 (g:∀n (h:n<l.length),∃x,F l[n].id=some x/\x.good/\x.words.length<=300/\x.head.length<=300):∀f n,n<l.length->l.length<=f+n->(A2l F l s f n).1.good/\(A2l F l s f n).1.lims
 |0,n,h1,h2=>by omega
 |f+1,n,h1,h2=>by
  obtain⟨x,hx,d,i,q⟩:=g n h1;have o:A3J F l n=x:=by simp[A3J,h1,hx]
  have p:A9I l n=l[n].label:=by simp[A9I,h1]
  have r:=c n h1;have hb:=B0Q l n l.length;obtain⟨w1,w2⟩:=C6x (F:=F) (l:=l) (s:=s) hl e ht d i;obtain⟨_,gk,_,_,gh,_,_,_,_⟩:=(A0a.good_iff _).1 d;have b:∀k∈((A3T l n l.length).map (A2l F l s f)).map (·.1),k.good/\k.lims:=by intro k hk;rw[Z1G]at hk;obtain⟨y,hy,rfl⟩:=Z0H.1 hk;obtain⟨h3,h4⟩:=B2e a hy;exact B7I hl e ht a c g f y h4 (by omega)
  rw[A2l];simp only;rw[o,p];have hm:∀n:Nat,n<=100000000->n<=maxLen:=λn h=>by show n<=9223372036854775807;omega
  refine⟨(A0a.good_iff _).2 ⟨by simp[A0a.id,IdD.good,idZ,inI],gk,hm _ (by show l[n].label.size<=_;omega),hm _ (by show(x.head.map _).length<=_;rw[Z0R];omega),?_,hm _ (by simpa[A0a.words]using w1),?_,hm _ (by simp[A0a.kids];omega),λk hk=>(b k hk).1⟩,?_⟩
  .intro w hw;obtain⟨h,hh,rfl⟩:=Z0H.1 hw;exact B9O (gh h hh).1
  .intro w hw;obtain⟨t,ht,rfl⟩:=Z0H.1 hw;exact B9O (w2 t ht)
  .rw[A0a.lims];refine⟨⟨by show(x.head.map _).length<=_;rw[Z0R];omega,by simpa[A0a.words]using w1,by simp[A0a.kids];omega,by show l[n].label.size<=_;omega⟩,A3E.2 λk hk=>(b k hk).2⟩
def B4P{u}(hS:A6m u l)(hl:l.length<=1000)(a:∀s∈l,s.good)(ht:∀m∈s,m.to.length<=40){f n}(h1:n<l.length)(h2:l.length<=f+n):Fit (A2l (λy=>A0U y u) l s f n).1:=by obtain⟨g1,g2⟩:=B7I (F:=λy=>A0U y u) (s:=s) hl a ht hS.ord hS.lab hS.fd f n h1 h2;refine⟨g1,g2,?_⟩;rw[A8E hS.ord f n h1 h2];have:=B5j (F:=λy=>A0U y u) (s:=s) hS.ord f n h1 h2;omega
end
end
inductive A1y where
 |rep (p:List A0G)
 |ins (u:A0a)
abbrev eS:AV:=S ⟨#[]⟩
def A1y.row:A1y->List AV
 |.rep p=>[I 1,A8K p,A0E,I 0,I 0,I 0,I 0,I 0,I 0,eS,A0E,A0E,A0E,A0E,A0E,eS,eS,I 0,I 0,eS,I 0,I 0,I 0,eS,A0E]
 |.ins u=>[I 0,A0E,A0E,I 1,I 0,I u.id.act,I u.id.item,I u.id.n,I u.kind,S u.label,.list 4 (A0i u.head) .no,.list 4 (A0i u.words) .no,.list 8 (A0u u.kids) .no,A0E,A0E,eS,eS,I 0,I 0,eS,I 0,I 0,I 0,eS,A0E]
@[simp] def A1y.row_len(x:A1y):x.row.length=25:=by cases x<;>rfl
def B1D:ByteArray:=⟨#[99,111,100,105,102,105,99,97,116,105,111,110]⟩
def A9U:AV:=.agg [I 0,eS,I 0,I 0,I 0,eS,A0E]
def C8I(number day:Int)(items:List A1y):AV:=.agg [I number,S B1D,I day,I 1,I day,eS,.list 25 (items.map A1y.row) .no]
def A4E(x:IdD×IdD):List AV:=[I x.1.act,I x.1.item,I x.1.n,I x.2.act,I x.2.item,I x.2.n]
abbrev A5z:=A0a×List IdD×Int
def C6H(t:A5z):Int:=if B0h t.1=0 then t.2.2 else 6
def A7r(ts:List A5z)(e:Int):Int:=ts.foldl (λe t=>A9f e (C6H t)) e
def A2x(u:A0a):List A1y:=u.kids.map λk=>.rep ((B3N u k.id).getD [])
def A3k(ts:List A5z):List A1y:=ts.map λt=>.ins t.1
def A7n(number:Int)(u:A0a)(ts:List A5z):List (IdD×IdD):=A4X number (ts.map (·.2.1)) u.kids.length
def A5a(number:Int)(u:A0a)(ts:List A5z):List (IdD×IdD):=(A0V u).tail.flatMap λx=>(A7n number u ts).filter λy=>decide (y.1=x)
def C2j(number day:Int):Bool:=decide (number<1)||decide (1048576<number)||decide (day<0)||decide (1048576<day)
def C4U(u:A0a)(ts:List A5z):Int:=if 32<u.kids.length+ts.length then 6 else A7r ts 0
def A5v(e:Int):AV:=.tuple [A9U,A0E,I e]
def D6U(u:A0a)(l:List A0Q)(s:List A1P)(number day:Int):AV:=
 let F:=λx=>A0U x u
 let ts:=A1G F l s
 if A7F F u l≠0 then A5v (A7F F u l)
 else if C2j number day=true then A5v 1
 else if((A0V u).tail.any λx=>decide (x.act=number))=true then A5v 5
 else if C4U u ts≠0 then A5v (C4U u ts)
 else .tuple [C8I number day (A2x u++A3k ts),.list 6 ((A5a number u ts).map A4E) .no,I 0]
def C0o(c:Int):∀(a b:List (List IdD)) (j:Nat),A4X c (a++b) j=A4X c a j++A4X c b (j+a.length)
 |[],b,j=>by simp[A4X]
 |x::a,b,j=>by rw[Z1g,A4X,A4X,C0o c a b (j+1),Z0W,Z0v];congr 3;omega
def B3W{K V:Type}[DecidableEq K]:∀(W:List (K×V)),(W.map (·.1)).Nodup->∀y∈W,A1C W y.1=some y.2
 |[],_,y,hy=>by simp at hy
 |(k,v)::W,hn,y,hy=>by
  simp only[Z0t,Z1J]at hn;rw[A1C];rcases Z0u.1 hy with rfl|hy
  .simp
  .have:y.1≠k:=λe=>hn.1 (e▸Z0H.2 ⟨y,hy,rfl⟩);rw[Z0e this];exact B3W W hn.2 y hy
section
variable {u:A0a} {l:List A0Q} {s:List A1P}
def B3p(a:Int)(ts:List A5z):(A7n a u ts).map (·.1)=ts.flatMap (·.2.1):=by rw[A7n,B2R,Z3s];rfl
def B2c(hS:A6m u l):((A1G (λy=>A0U y u) l s).flatMap (·.2.1)).Nodup/\∀x,x∈(A1G (λy=>A0U y u) l s).flatMap (·.2.1)<->x∈(A0V u).tail:=by
 refine D0z (λj hj=>?_) (λk hk=>?_) hS.nd hS.nu hS.mem hS.len
 .have:=hS.ord j hj j hj (Z0n _);simpa[A2w,hj]using this
 .obtain⟨x,hx,_⟩:=hS.fd k hk;have:A3J (λy=>A0U y u) l k=x:=by simp[A3J,hk,hx]
  rw[this];exact(A8h hx).1
def B9A(hS:A6m u l)(a:Int):A5a a u (A1G (λy=>A0U y u) l s)=(A0V u).tail.map λx=>(x,(A1C (A7n a u (A1G (λy=>A0U y u) l s)) x).getD idZ):=by
 obtain⟨h1,h2⟩:=B2c (s:=s) hS;have hk:=B3p (u:=u) a (A1G (λy=>A0U y u) l s);refine D1I (by rw[hk];exact h1) (λy hy=>?_) (λx hx=>?_)
 .rw[B3W _ (by rw[hk];exact h1) y hy];rfl
 .rw[hk];exact(h2 x).2 hx
def C4e(hS:A6m u l)(hl:l.length<=1000):∀t∈A1G (λy=>A0U y u) l s,t.2.1.length<=1000:=by intro t ht;obtain⟨n,hn,rfl⟩:=Z0H.1 ht;have:=B5j (F:=λy=>A0U y u) (s:=s) hS.ord l.length n (A7z hn) (by omega);omega
end
section
variable (gl:Nat->AV) (M:Mem)
def B0Y(k:Int):A0e (WC gl) 132 [I k] M (λv M'=>v=B (decide (0<=k)&&decide (k<=6))/\M'=M):=by
 refine A0m hB func132 ?_;by_cases h1:0<=k
 .by_cases h2:k<=6
  .simp -dsimp -implicitDefEqProofs[h1,h2]
  .simp -dsimp -implicitDefEqProofs[h1,h2]
 .simp -dsimp -implicitDefEqProofs[h1]
def C0j(k:Int):A0e (WC gl) 351 [I k] M (λv M'=>v=B (decide (0<=k)&&decide (k<=3))/\M'=M):=by
 refine A0m hB func351 ?_;by_cases h1:0<=k
 .by_cases h2:k<=3
  .simp -dsimp -implicitDefEqProofs[h1,h2]
  .simp -dsimp -implicitDefEqProofs[h1,h2]
 .simp -dsimp -implicitDefEqProofs[h1]
def C3x(k a b:Int):A0e (WC gl) 320 [I k,I a,I b] M (λv M'=>v=B (decide (a<=k)&&decide (k<=b))/\M'=M):=by
 refine A0m hB func320 ?_;by_cases h1:a<=k
 .by_cases h2:k<=b
  .simp -dsimp -implicitDefEqProofs[h1,h2]
  .simp -dsimp -implicitDefEqProofs[h1,h2]
 .simp -dsimp -implicitDefEqProofs[h1]
def C5X(k:Int):A0e (WC gl) 302 [I k] M (λv M'=>v=B (decide (0<=k)&&decide (k<=3))/\M'=M):=by refine A0m hB func302 ?_;simp -dsimp -implicitDefEqProofs;refine A0g func320 (C3x gl M k 0 3) ?_;simp -dsimp -implicitDefEqProofs
def D2C(k:Int):A0e (WC gl) 403 [I k] M (λv M'=>v=I k/\M'=M):=by refine A0m hB func403 ?_;simp -dsimp -implicitDefEqProofs
def B3C:A0e (WC gl) 242 [.agg [I 0,I 0,eS]] M (λv M'=>v=B true/\M'=M):=by refine A0m hB func242 ?_;simp -dsimp -implicitDefEqProofs
def D0X(x:A1y):A0e (WC gl) 305 [.agg x.row] M (λv M'=>v=B true/\M'=M):=by refine A0m hB func305 ?_;simp -dsimp -implicitDefEqProofs
end
def A8R:List AV:=[I 0,A0E,A0E,I 0,I 0,I 0,I 0,I 0,I 0,eS,A0E,A0E,A0E,A0E,A0E,eS,eS,I 0,I 0,eS,I 0,I 0,I 0,eS,A0E]
@[simp] def D8n:A8R.length=25:=rfl
def D0k(u:A0a):List AV:=[I 0,A0E,A0E,I 1,I 0,I u.id.act,I u.id.item,I u.id.n,I u.kind,S u.label,.list 4 (A0i u.head) .no,.list 4 (A0i u.words) .no,.list 8 (A0u u.kids) .no,A0E,A0E,eS,eS,I 0,I 0,eS,I 0,I 0,I 0,eS,A0E]
@[simp] def E1J(u:A0a):(D0k u).length=25:=rfl
def C7v:A0D prog 128 []=some (.agg A8R):=by simp[A0D,A1k,A8R]
section
variable (gl:Nat->AV) (M:Mem)
def D1z(x:A1y):A0e (WC gl) 304 [.agg x.row] M (λv M'=>v=.agg A8R/\M'=M):=by
 refine A0e.dataX ?_;obtain⟨Ma,a⟩:∃Ma,Ma=M++[A0j.cells 128 A8R]:=⟨_,rfl⟩;have d:Grow M Ma:=by rw[a];exact A0c.app none _ _
 have b:Ma[M.length]?=some (A0j.cells 128 A8R):=by rw[a];simp
 have c:M.length<Ma.length:=(Z0b.1 b).1;refine A0m hB func304 ?_;simp -dsimp -implicitDefEqProofs[A0k,C7v];rw[show M++[A0j.cells 128 [I 0,A0E,A0E,I 0,I 0,I 0,I 0,I 0,I 0,eS,A0E,A0E,A0E,A0E,A0E,eS,eS,I 0,I 0,eS,I 0,I 0,I 0,eS,A0E]]=Ma by rw[a];rfl];simp -dsimp -implicitDefEqProofs[A0f b,A0L,A0K,A0v c,A0h];exact⟨A1g d (Z0n _),.same (by simp[bdd,A1K,A8R]) .nil⟩
def D0v(u:A0a):A0e (WC gl) 300 [.agg (A1y.ins u).row] M (λv M'=>v=.agg (D0k u)/\M'=M):=by
 refine A0e.dataX ?_;obtain⟨Ma,a⟩:∃Ma,Ma=M++[A0j.cells 128 A8R]:=⟨_,rfl⟩;have e:Grow M Ma:=by rw[a];exact A0c.app none _ _
 have b:Ma[M.length]?=some (A0j.cells 128 A8R):=by rw[a];simp
 have c:M.length<Ma.length:=(Z0b.1 b).1;have d:A0D prog 128 [(3,I 1),(5,.agg [I u.id.act,I u.id.item,I u.id.n,I u.kind,S u.label,.list 4 (A0i u.head) .no,.list 4 (A0i u.words) .no,.list 8 (A0u u.kids) .no])]=some (.agg (D0k u)):=by simp[A0D,A1k,A1E,A0d,AV.cells,AV.storable,D0k]
 refine A0m hB func300 ?_;simp -dsimp -implicitDefEqProofs[A1y.row,A0k,d];rw[show M++[A0j.cells 128 [I 0,A0E,A0E,I 0,I 0,I 0,I 0,I 0,I 0,eS,A0E,A0E,A0E,A0E,A0E,eS,eS,I 0,I 0,eS,I 0,I 0,I 0,eS,A0E]]=Ma by rw[a];rfl];simp -dsimp -implicitDefEqProofs[A0f b,A0L,A0K,A0v c,A0h];have hb:=A2D M.length u;rw[u.row_eq]at hb;exact⟨A1g e (Z0n _),.same (by simp[bdd,A1K,D0k]at hb|-;exact hb) .nil⟩
end
def D5T:A1B prog .neq 150 (.agg [I 0,I 0,I 0]) (.agg [I 0,I 0,I 0])=some (B false):=by kernel_rfl
def E3c:A1B prog .eql 23 (.agg [I 0,I 0,I 0]) (.agg [I 0,I 0,I 0])=some (B true):=by kernel_rfl
section
variable (gl:Nat->AV) (M:Mem)
def C2b(w:A0M)(h:B0N w):A0e (WC gl) 390 [.agg w.row] M (λv M'=>v=B false/\M'=M):=by rw[C1c h];refine A0m hB func390 ?_;simp -dsimp -implicitDefEqProofs[C4T,D5T]
def D1f(l:List A0M)(o:Own)(hl:l.length<=100000000)(hb:∀w∈l,B0N w):A0e (WC gl) 408 [.list 4 (A0i l) o,.func (.func 390) [] []] M (λv M'=>v=I (-1)/\M'=M):=by
 refine A0m hB func408 ?_;simp -dsimp -implicitDefEqProofs;refine A0F hB l.length 8 (λT M1=>∃i:Nat,i<=l.length/\M1=M/\T 0=.list 4 (A0i l) o/\T 1=.func (.func 390) [] []/\T 7=I l.length/\T 8=I i) ?_ ?_
 .exact⟨0,by omega,rfl,by simp,by simp,by simp,by simp⟩
 .rintro T M1 ⟨i,i1,rfl,t0,t1,t7,t8⟩;by_cases hi:i<l.length
  ·(have a:(i:Int)<l.length:=by omega);have w1:IntKind.i64.wrap ((i:Int)+1)=(i+1:Nat):=by rw[A0Z (by omega) (by omega)];omega
   simp -dsimp -implicitDefEqProofs[t0,t1,t7,t8,hi,a,A0M.row];refine A0g func390 (C2b gl _ l[i] (hb _ (Z0y hi))) ?_;simp -dsimp -implicitDefEqProofs[t0,t1,t7,t8,w1];exact⟨⟨i+1,by clear w1;omega,rfl⟩,by clear w1;omega⟩
  ·(have a:¬(i:Int)<l.length:=by omega);simp -dsimp -implicitDefEqProofs[t0,t1,t7,t8,a]
def C1h(l:List A0M)(o:Own)(hl:l.length<=100000000)(hb:∀w∈l,B0N w):A0e (WC gl) 391 [.list 4 (A0i l) o,.func (.func 390) [] []] M (λv M'=>v=B false/\M'=M):=by refine A0m hB func391 ?_;simp -dsimp -implicitDefEqProofs;refine A0g func408 (D1f gl M l o hl hb) ?_;simp -dsimp -implicitDefEqProofs
def C9b(u:A0a)(h:A2Z u)(hl:u.lims):A0e (WC gl) 389 [.agg u.row] M (λv M'=>v=B true/\M'=M):=by obtain⟨h0,h1,h2,_⟩:=(A6V u).1 h;obtain⟨⟨l1,l2,-,-⟩,-⟩:=A3r _ hl;rw[u.row_eq,h0];refine A0m hB func389 ?_;simp -dsimp -implicitDefEqProofs[idZ,E3c];refine A0g func391 (C1h gl M u.head .no l1 h1) ?_;simp -dsimp -implicitDefEqProofs;refine A0g func391 (C1h gl M u.words .no l2 h2) ?_;simp -dsimp -implicitDefEqProofs
end
def C4d{M:Mem}{n f g m:Nat}{ok:AV->Prop}{e g':Nat}{cs:List AV}{a:List (Nat×Nat)}{l:List A0a}(hf:n<=f)(hm:M[f]?=some (.vec e 8 cs g' a))(hl:a.lookup g=some m)(h:l.length<=m)(b:cs.take (l.length*8)=l.flatMap A0a.row) (d:∀x:A0a,∀c∈x.row,ok c):Still M n ok [.vref f g 8 0 l.length] [.list 8 (A0u l) .no]:=by
 refine .vec hf hm hl h (B2g l) (λr hr=>?_) ?_ .nil
 .rw[A4a]at hr;obtain⟨x,_,rfl⟩:=Z0H.1 hr;exact x.row_len
 .rw[b,A9Q];exact Still.refl λc hc=>by obtain⟨x,_,hx⟩:=Z2z.1 hc;exact d x c hx
def D1l(a b:List AV):(A0d a 0 b).take b.length=b:=by unfold A0d;simp
def C7b(a c:List AV)(n:Nat)(h:n<=a.length):(A0d a n c).take n=a.take n:=by unfold A0d;rw[Z0W,Z1Z (by simp;omega),Z2q,Nat.min_self]
section
variable (gl:Nat->AV)
set_option maxHeartbeats 1000000 in
def D0m(k:A0a)(ks:List A0a)(f g g':Nat)(a:List (Nat×Nat))(M:Mem)(z:ks.length<=1000)(hm:M[f]?=some (.vec 27 8 ((k::ks).flatMap A0a.row) g' a))(hl:a.lookup g=some (ks.length+1)):∃cs hist',cs.take (ks.length*8)=ks.flatMap A0a.row/\hist'.lookup g=some (ks.length+1)/\A0e (WC gl) 360 [.vref f g 8 0 (ks.length+1),I 0,I 1] M (λr M'=>r=.vref f g 8 0 ks.length/\M'=M.set f (.vec 27 8 cs g' hist')):=by
 obtain⟨n,hn⟩:∃n,n=ks.length:=⟨_,rfl⟩
 obtain⟨N,hN⟩:∃N,N=n+1:=⟨_,rfl⟩
 rw[<-hn]at z hl|-
 rw[<-hN]at hl|-
 have u:f<M.length:=(Z0b.1 hm).1
 have s:(ks.flatMap A0a.row).length=n*8:=by rw[A3n A0a.row_len,hn]
 have b:((k::ks).flatMap A0a.row).length=N*8:=by rw[A3n A0a.row_len,hN,hn];rfl
 obtain⟨c0,l⟩:∃c0,c0=(k::ks).flatMap A0a.row:=⟨_,rfl⟩
 have y:c0.drop 8=ks.flatMap A0a.row:=by rw[l,Z1a,Z3t,A0a.row_len,Z4q,Z1S (by rw[A0a.row_len];omega)];rfl
 rw[<-l]at b hm
 have i:A2o prog 25 (.vref f g 8 0 N) (some (I 0)) (some (I 1)) (some (I N))=none:=by
  have:¬N=0:=by omega
  have h1:(1:Int)<=N:=by omega
  simp[A2o,A4N,A8z,A1p,B0D,this,h1]
 have h:A2Y prog 25 M (.vref f g 8 0 N) (some (I 0)) (some (I 1)) (some (I N))=some .poison:=by
  have h1:(1:Int)<=N:=by omega
  simp[A2Y,hm,hl,A8z,A1p,B0D,h1]
 have j:A2o prog 25 (.vref f g 8 0 N) none (some (I 0)) none=some (.vref f g 8 0 0):=by simp[A2o,A4N,A8z,A1p,B0D]
 have m:A2o prog 25 (.vref f g 8 0 N) (some (I 1)) none none=some (.vref f g 8 1 n):=by
  have h1:(1:Int)<=N:=by omega
  have h2:N-1=n:=by omega
  simp[A2o,A4N,A8z,A1p,B0D,h1,h2]
 have c:A0A M 8 (.vref f g 8 1 n)=some (ks.flatMap A0a.row,n):=by simp only[A0A,hm,hl];rw[Z0d ⟨trivial,trivial,by omega⟩,Nat.one_mul,y,Z0j (by omega)]
 have t:A0A M 8 (.vref f g 8 0 0)=some ([],0):=by simp only[A0A,hm,hl];rw[Z0d ⟨trivial,trivial,by omega⟩,Z2l];rfl
 have hb:(0+n)*120<=140737488355328:=by omega
 have a1:¬((0:Int)=1):=by omega
 /- behind the append -/
 have tail:∀(c1:List AV) (h1:List (Nat×Nat)) (M1:Mem),c1.length=N*8->c1.take (n*8)=ks.flatMap A0a.row->h1.lookup g=some N->M1[f]?=some (.vec 27 8 c1 g' h1)->
  ∃c2,c2.take (n*8)=ks.flatMap A0a.row/\(A1s 8 g (n*8) h1).lookup g=some N/\A2o prog 25 (.vref f g 8 0 n) (some (I n)) (some (I N)) none=none/\A2Y prog 25 M1 (.vref f g 8 0 n) (some (I n)) (some (I N)) none=some (.vref f g 8 n 1)/\A5d prog 25 M1 (.vref f g 8 n 1)=some (.tuple [],M1.set f (.vec 27 8 c2 g' (A1s 8 g (n*8) h1))):=by
  intro c1 h1 M1 a2 w hh p
  refine⟨A0d c1 (n*8) zU,?_,?_,?_,?_,?_⟩
  .rw[C7b _ _ _ (by omega)];exact w
  .unfold A1s;exact A4k _ hh
  ·(have:¬(N:Int)<=n:=by omega);simp[A2o,A4N,A8z,A1p,B0D,this]
  ·(have h2:N-n=1:=by omega);have h3:(n:Int)<=N:=by omega
   simp[A2Y,p,hh,A4N,A8z,A1p,B0D,h2,h3]
  ·(have h2:n+1<=N:=by omega);simp[A5d,p,hh,h2,zU]
 refine(?_:∃cs hist',_)
 by_cases h0:ks=[]
 .have d:n=0:=by rw[hn,h0];rfl
  obtain⟨c2,k1,k2,k3,k4,k5⟩:=tail c0 a M b (by rw[d,h0];simp) hl hm;refine⟨c2,A1s 8 g (n*8) a,k1,k2,?_⟩;refine A0m hB func360 ?_;simp -dsimp -implicitDefEqProofs[i,h];refine A1v hB (A0I gl) (λk=>if k=6 then 2 else 0) (λ_=>0) (by rfl) (by kernel_rfl) ?_;simp -dsimp -implicitDefEqProofs[j,m];refine A6U (e:=27) (sz:=8) (bytes:=120) A8T B4o B3R t c hb ?_ ?_
  .simp only[A3a,c,hm,hl];rw[Z0e (by omega)]
  simp only[A2H,c,hm,hl];rw[Z0d ⟨trivial,trivial,trivial,by omega⟩,Z0d d];have e0:((0:Nat):Int)=0:=rfl;rw[d]at k3 k4 k5;rw[e0]at k3 k4;simp -dsimp -implicitDefEqProofs[k3,k4,k5,d]
 .have a0:0<n:=by rw[hn];exact Z2k.2 h0
  obtain⟨M1,e1⟩:∃M1,M1=M.set f (.vec 27 8 (A0d c0 0 (ks.flatMap A0a.row)) g' (A1s 8 g 0 a)):=⟨_,rfl⟩;have o:M1[f]?=some (.vec 27 8 (A0d c0 0 (ks.flatMap A0a.row)) g' (A1s 8 g 0 a)):=by rw[e1];simp[u]
  obtain⟨c2,k1,k2,k3,k4,k5⟩:=tail (A0d c0 0 (ks.flatMap A0a.row)) (A1s 8 g 0 a) M1 (by unfold A0d;simp[-List.length_flatMap,s,b];omega) (by rw[<-s];exact D1l _ _) (by unfold A1s;exact A4k _ hl) o;have e2:∀X,M1.set f X=M.set f X:=λX=>by rw[e1,Z2C]
  rw[e2]at k5;refine⟨c2,_,k1,k2,?_⟩;refine A0m hB func360 ?_;simp -dsimp -implicitDefEqProofs[i,h];refine A1v hB (A0I gl) (λk=>if k=6 then 2 else 0) (λ_=>0) (by rfl) (by kernel_rfl) ?_;simp -dsimp -implicitDefEqProofs[j,m];have q:A3a 27 8 (.vref f g 8 0 0) (.vref f g 8 1 n) M=some (.vref f g 8 0 n,M1):=by simp only[A3a,c,hm,hl];rw[Z0d ⟨trivial,trivial,trivial,a0,by omega⟩,e1];simp
  refine E1X (e:=27) (sz:=8) (bytes:=120) A8T B4o B3R t c hb q ?_;clear e1 o q;simp -dsimp -implicitDefEqProofs[k3,k4,k5]
def D0y(x:A0a)(ks:List A0a)(v:AV)(o:Own)(M:Mem)(j:ks.length<=1000)(ho:A1l 27 8 A0a.row M v ks):∃v' M',A1l 27 8 A0a.row M' v' (ks++[x])/\A0c (obj v) M M'/\(obj v'=obj v\/A1m M.length v')/\A0e (WC gl) 290 [v,I ks.length,.list 8 [x.row] o] M (λr M1=>r=v'/\M1=M'):=by
 have hx:A0A M 8 (.list 8 [x.row] o)=some (x.row,1):=by simp[A0A]
 rcases ho with⟨rfl,rfl⟩|⟨f,g,d,rfl,hm,hl⟩
 .refine⟨.vref M.length 0 8 0 1,M++[.vec 27 8 x.row 0 [(0,1)]],.inr ⟨M.length,0,[(0,1)],rfl,by simp,by simp[List.lookup]⟩,.app _ _ _,.inr (λf hf=>by simp at hf;omega),?_⟩;have hs:A2o prog 25 (.val (.slice none 0 0)) (some (I 0)) none none=some (.val (.slice none 0 0)):=by kernel_rfl
  refine A0m hV func290 ?_;simp -dsimp -implicitDefEqProofs[hs];refine A6U (e:=27) (sz:=8) (bytes:=120) A8T B4o B3R (by rfl) hx (by omega) (by simp only[A3a,hx]) ?_;simp only[A2H,hx];simp -dsimp -implicitDefEqProofs
 .obtain⟨n,hn⟩:∃n,n=ks.length:=⟨_,rfl⟩;rw[<-hn]at j hl|-;have k:(ks.flatMap A0a.row).length=n*8:=by rw[A3n A0a.row_len,hn]
  have c:f<M.length:=(Z0b.1 hm).1;have hs:A2o prog 25 (.vref f g 8 0 n) (some (I n)) none none=some (.vref f g 8 n 0):=by simp[A2o,A4N,A8z,A1p,B0D]
  have h:A0A M 8 (.vref f g 8 0 n)=some (ks.flatMap A0a.row,n):=by simp only[A0A,hm,hl];rw[Z0d ⟨trivial,trivial,by omega⟩,Z2l,Z1m,Z0j (by omega)]
  have i:(ks.flatMap A0a.row++x.row)=(ks++[x]).flatMap A0a.row:=by simp[Z1s]
  obtain⟨a,hh⟩:∃a,a=(g+1,n+1)::d.filter (λp:Nat×Nat=>decide (p.2<=n)):=⟨_,rfl⟩;obtain⟨M',b⟩:∃M',M'=M.set f (.vec 27 8 ((ks++[x]).flatMap A0a.row) (g+1) a):=⟨_,rfl⟩;refine⟨.vref f (g+1) 8 0 (n+1),M',.inr ⟨f,g+1,a,by rw[Z0q,<-hn];rfl,?_,?_⟩,by rw[b];exact .set _ f _,.inl rfl,?_⟩
  rotate_left 2
  .refine A0m hV func290 ?_;simp -dsimp -implicitDefEqProofs[hs];refine A6U (e:=27) (sz:=8) (bytes:=120) A8T B4o B3R h hx (by omega) ?_ ?_
   .simp only[A3a,hx,hm,hl];rw[Z0e (by omega)]
   simp only[A2H,hx,hm,hl];rw[Z0d ⟨trivial,trivial,trivial,by omega⟩,Z0e (by omega),Z2l,Z1m,Z0j (by omega),i];simp -dsimp -implicitDefEqProofs[b,hh]
  .rw[b];simp[c]
  .rw[hh];simp[List.lookup,hn]
end
def A8a(M:Mem)(n:Nat)(v:AV)(l:List A0a):Prop:=(v=.val (.slice none 0 0)/\l=[])\/∃f g m cs g' hist,n<=f/\v=.vref f g 8 0 l.length/\M[f]?=some (.vec 27 8 cs g' hist)/\hist.lookup g=some m/\l.length<=m/\cs.take (l.length*8)=l.flatMap A0a.row
def D0P(n:Nat)(x:A0a):∀c∈x.row,bdd n c:=by have h:=A2D n x;rw[x.row_eq]at h|-;simp only[A1K,Z1O]at h;obtain⟨h1,h2,h3,h4,h5,h6,h7,h8⟩:=h;intro c hc;simp only[Z0u,Z2p,Z3F]at hc;rcases hc with rfl|rfl|rfl|rfl|rfl|rfl|rfl|rfl<;>assumption
section
variable {M M':Mem} {n:Nat} {v:AV} {l:List A0a}
def A8a.still(h:A8a M n v l):Still M n (bdd n) [v] [.list 8 (A0u l) .no]:=by
 rcases h with⟨rfl,rfl⟩|⟨f,g,m,cs,g',a,h1,rfl,h2,h3,h4,h5⟩
 .rw[A0u];exact .nilS .nil
 .exact C4d h1 h2 h3 h4 h5 (D0P n)
def A8a.keep(h:A8a M n v l){o:Option Nat}(hk:A0c o M M')(ho:∀f,obj v=some f->o≠some f):A8a M' n v l:=by
 rcases h with⟨rfl,rfl⟩|⟨f,g,m,cs,g',a,h1,rfl,h2,h3,h4,h5⟩
 .exact .inl ⟨rfl,rfl⟩
 .exact .inr ⟨f,g,m,cs,g',a,h1,rfl,hk.get h2 (ho f rfl),h3,h4,h5⟩
def A8a.vec(h:A8a M n v l){f:Nat}(hf:obj v=some f):n<=f/\∃cs g' a,M[f]?=some (.vec 27 8 cs g' a):=by
 rcases h with⟨rfl,rfl⟩|⟨f',g,m,cs,g',a,h1,rfl,h2,h3,h4,h5⟩
 .simp at hf
 .simp at hf;subst hf;exact⟨h1,cs,g',a,h2⟩
def A8a.of(h:A1l 27 8 A0a.row M v l)(hl:A1m n v):A8a M n v l:=by
 rcases h with⟨rfl,rfl⟩|⟨f,g,a,rfl,hm,hh⟩
 .exact .inl ⟨rfl,rfl⟩
 .exact .inr ⟨f,g,l.length,_,g,a,hl f rfl,rfl,hm,hh,Z0n _,Z0j (by rw[A3n A0a.row_len];exact Z0n _)⟩
end
def A7I(u:A0a)(ks:List A0a):A0a:=.mk u.id u.kind u.label u.head u.words ks
def D9y(gl:Nat->AV)(u:A0a)(M:Mem)(g:FuncId)(cap:List AV)(ks:List A0a):Prop:=∀(b:Nat) (kv:AV) (Mi:Mem),M.length<=b->Grow M Mi->Mi[b]?=some (.cells 27 (A6A u kv))->A1l 27 8 A0a.row Mi kv u.kids->A1m M.length kv->obj kv≠some b->A3V (WC gl) g (.ptr b 0::cap) Mi (λ_ M'=>∃kv',M'[b]?=some (.cells 27 (A6A u kv'))/\A0c (obj kv) (Mi.set b .gone) (M'.set b .gone)/\A8a M' M.length kv' ks)
section
variable (gl:Nat->AV)
def E2I(u k:A0a)(ks:List A0a)(hk:u.kids=k::ks)(a0:ks.length<=1000)(q:Nat)(M:Mem)(hq:M[q]?=some (.cells 3 [I 0])):D9y gl u M 359 [.ptr q 0] ks:=by
 intro b kv Mi hb hg l ho m r;have a4:q<M.length:=(Z0b.1 hq).1;have w:=hg.get hq (by simp);rw[hk]at ho;rcases ho with⟨_,h⟩|⟨f,g,o,rfl,hm,hl⟩
 .simp at h
 have a2:f≠b:=λe=>r (by simp[e]);have y:M.length<=f:=m f rfl;obtain⟨cs,a,k1,k2,d⟩:=D0m gl k ks f g g o Mi a0 hm hl;have a1:b<Mi.length:=(Z0b.1 l).1;have t:f<Mi.length:=(Z0b.1 hm).1;refine A1T func359 rfl rfl ?_;obtain⟨M2,c⟩:∃M2,M2=Mi.set f (.vec 27 8 cs g a):=⟨_,rfl⟩;rw[<-c]at d;have p:M2[b]?=some (.cells 27 (A6A u (.vref f g 8 0 (ks.length+1)))):=by rw[c,Z0f (by omega)];exact l
 have s:A0l (some 1) M2 (.ptr b 7) (.vref f g 8 0 ks.length)=some (M2.set b (.cells 27 (A6A u (.vref f g 8 0 ks.length)))):=by rw[A0f p];rfl
 have j:b<M2.length:=(Z0b.1 p).1;have z:A1D prog 25 Mi (.ptr b 7)=some (.vref f g 8 0 (ks.length+1)):=by rw[A0b l];simp[A6A]
 refine A0m hB func359 ?_;simp -dsimp -implicitDefEqProofs;refine A1v hB (A0I gl) (λk=>if k=4\/k=5\/k=6 then 1 else if k=8\/k=11 then 2 else 0) (λk=>if k=4 then b else q) (by rfl) (by kernel_rfl) ?_;simp -dsimp -implicitDefEqProofs[z,A0b w,A0R,A7f];rw[show IntKind.i64.wrap 1=1 by decide];refine A4T (A1T func360 rfl rfl d) ?_;simp -dsimp -implicitDefEqProofs[s];refine⟨.vref f g 8 0 ks.length,by simp[j],⟨by simp[c],λi hi ho=>?_⟩,.inr ⟨f,g,_,cs,g,a,y,rfl,?_,k2,by omega,k1⟩⟩
 .have a3:i≠f:=λe=>ho (by simp[e]);by_cases hib:i=b
  .subst hib;simp at hi;simp[j,hi]
  ·(have e1:b≠i:=by omega);have e2:f≠i:=by omega
   simp only[Z0f e1,c,Z0f e2]
 .rw[Z0f (by omega),c];simp[t]
def E3r(u x:A0a)(z:u.kids.length<=1000)(q p:Nat)(M:Mem)(hq:M[q]?=some (.cells 3 [I u.kids.length]))(hp:M[p]?=some (.cells 27 x.row)):D9y gl u M 289 [.ptr q 0,.ptr p 0] (u.kids++[x]):=by
 intro b kv Mi hb hg d ho l m;have a6:q<M.length:=(Z0b.1 hq).1;have w:=hg.get hq (by simp);have o:=hg.get hp (by simp);have a4:b<Mi.length:=(Z0b.1 d).1;have a5:=ho.len (P:=prog) underlying25;obtain⟨a,M2,a1,a2,a3,g⟩:=D0y gl x u.kids kv .full Mi z ho;have j:A1m M.length a:=λf hf=>by
  rcases a3 with e|h
  .rw[e]at hf;exact l f hf
  .have:=h f hf;have:=hg.1;omega
 have s:M2[b]?=some (.cells 27 (A6A u kv)):=a2.get d m;have c:b<M2.length:=(Z0b.1 s).1;have r:∀f,obj a=some f->f≠b:=λf hf e=>by
  rcases a3 with h|h
  .rw[h]at hf;exact m (by rw[hf,e])
  .have:=h f hf;omega
 have t:A0l (some 1) M2 (.ptr b 7) a=some (M2.set b (.cells 27 (A6A u a))):=by rw[A0f s,a1.cells,Z0d ⟨a1.store,by simp[A6A],rfl⟩];rfl
 have y:A1D prog 25 Mi (.ptr b 7)=some kv:=by rw[A0b d];simp[A6A]
 have a0:A1D prog 27 Mi (.ptr p 0)=some (.agg x.row):=by rw[x.row_eq]at o|-;rw[A0b o];simp
 refine A1T func289 rfl rfl ?_;refine A0m hB func289 ?_;simp -dsimp -implicitDefEqProofs;refine A1v hB (A0I gl) (λk=>if k=4\/k=5\/k=6 then 1 else if k=8\/k=11 then 2 else 0) (λk=>if k=4 then b else if k=5 then q else p) (by rfl) (by kernel_rfl) ?_;simp -dsimp -implicitDefEqProofs[y,a0,A0b w,A0R,A7f,A0q,A1f,A0L,A0K];refine A4T (A1T func290 rfl rfl g) ?_;simp -dsimp -implicitDefEqProofs[t];refine⟨a,by simp[c],⟨by simpa using a2.1,λi hi ho=>?_⟩,A8a.of (a1.keep (A0c.set _ _ _) (λf hf e=>r f hf (by simpa using e.symm))) j⟩;by_cases hib:i=b
 .subst hib;simp at hi;simp[c,hi]
 .have e1:b≠i:=by omega
  simp only[Z0f e1];exact a2.2 i (by simpa using hi) ho
def B8v(u:A0a)(g:FuncId)(cap:List AV)(ks:List A0a)(M:Mem)(hf:Fit u)(hd:D9y gl u M g cap ks):A0e (WC gl) 288 [.agg u.row,.agg u.id.row,.func (.func g) [] cap] M (λv M'=>v=.agg (A7I u ks).row/\M'=M):=by
 refine A0e.dataX ?_;have hx:u.id.row=[I u.id.act,I u.id.item,I u.id.n]:=rfl;have he:=B4h u.id u.id;rw[Z0w rfl]at he;have a2:=A2q u.kids;have a4:A0x u.kids<A0o u:=by obtain⟨a,b,c,d,e,f⟩:=u;rw[A0o];show A0x f<_;omega
 have a3:=hf.2.2;obtain⟨b,hb⟩:∃b,b=M.length:=⟨_,rfl⟩;obtain⟨M1,k⟩:∃M1,M1=M++[A0j.cells 27 [I u.id.act,I u.id.item,I u.id.n,I u.kind,S u.label,.list 4 (A0i u.head) .no,.list 4 (A0i u.words) .no,.list 8 (A0u u.kids) .no],z8]:=⟨_,rfl⟩;have h1:M1[b]?=some (A0j.cells 27 [I u.id.act,I u.id.item,I u.id.n,I u.kind,S u.label,.list 4 (A0i u.head) .no,.list 4 (A0i u.words) .no,.list 8 (A0u u.kids) .no]):=by rw[k,hb];simp
 have h2:M1[b+1]?=some z8:=by rw[k,hb];simp[Z1h]
 have w:Grow M M1:=by rw[k];exact A0c.app none _ _
 rw[u.row_eq,hx];refine A0m hTr func288 ?_;simp -dsimp -implicitDefEqProofs[A0k];rw[<-k,<-hb];simp -dsimp -implicitDefEqProofs[A0b h1,he];refine A0r func52 (C6U gl u.kids M1 (by omega)) ?_;rintro kv M2 ⟨ho,l,h⟩;have h3:=l.get h1 (by simp);have h4:=l.get h2 (by simp);have a6:b+1<M1.length:=(Z0b.1 h2).1;have t:A0l (some 1) M2 (.ptr b 7) kv=some (M2.set b (.cells 27 (A6A u kv))):=by rw[A0f h3,ho.cells,Z0d ⟨ho.store,by simp,rfl⟩];rfl
 simp -dsimp -implicitDefEqProofs[t];have s:b<M2.length:=(Z0b.1 h3).1;have j:Grow M (M2.set b (.cells 27 (A6A u kv))):=A1g (w.trans l) (by omega);refine A4o (hd b kv (M2.set b (.cells 27 (A6A u kv))) (by omega) j (by simp[s]) (ho.keep (A0c.set _ _ _) (λf hf e=>by have:=h f hf;simp at e;omega)) (λf hf=>by have:=h f hf;omega) (λe=>by have:=h b e;omega)) ?_;rintro _ M4 ⟨m,q1,q2,q3⟩;have a5:b<M4.length:=(Z0b.1 q1).1;have p:M4[b+1]?=some z8:=by have a0:=l.1;have:=q2.2 (b+1) (by simp;omega) (λe=>by have:=h (b+1) e;omega);rw[Z0f (by omega),Z0f (by omega),Z0f (by omega)]at this;rw[this];exact h4
 have y:Grow M M4:=by refine⟨by have:=q2.1;have:=j.1;simp at this q2;omega,λi hi _=>?_⟩;have h5:=q2.2 i (by have:=j.1;simp at this|-;omega) (λe=>by have:=h i e;omega);rw[Z0f (by omega),Z0f (by omega)]at h5;rw[h5];exact j.2 i hi (by simp)
 have q:b+1<M4.length:=(Z0b.1 p).1;have z:A1D prog 27 M4 (.ptr b 0)=some (.agg (A6A u m)):=by rw[A0b q1];simp[A6A]
 have r:A0l (some 8) M4 (.ptr (b+1) 0) (.agg (A6A u m))=some (M4.set (b+1) (.cells 27 (A6A u m))):=by rw[A0f p];rfl
 simp -dsimp -implicitDefEqProofs[z,r,A0v q,A0h,A6A];refine⟨A1g y (by omega),.agg ?_ .nil⟩;have o:=(q3.keep (A0c.set M4 (b+1) (.cells 27 (A6A u m))) (λf hf e=>by obtain⟨_,cs,g',a1,hv⟩:=q3.vec hf;simp only[Z0a]at e;subst e;rw[p]at hv;simp at hv)).still;rw[A7I,A0a.row];rw[A6A]at o;rw[<-hb]at o;exact .same trivial (.same trivial (.same trivial (.same trivial (.same trivial (.same (by simp only[bdd,Z1O];exact B2b _ _) (.same (by simp only[bdd,Z1O];exact B2b _ _) o))))))
end
def A1F(number:Int):List A5z->Nat->List A0a
 |[],_=>[]
 |t::ts,j=>A1U number j t.1 0 0::A1F number ts (j+1)
def A2N(u:A0a)(number:Int)(ts:List A5z):A0a:=.mk u.id u.kind u.label u.head u.words (A1F number ts u.kids.length)
def B5S(a:Int):∀ts j,(A1F a ts j).length=ts.length
 |[],_=>rfl
 |t::ts,j=>by rw[A1F,Z0v,B5S a ts,Z0v]
def B5X(c:Int):∀a b j,A1F c (a++b) j=A1F c a j++A1F c b (j+a.length)
 |[],b,j=>by simp[A1F]
 |t::a,b,j=>by rw[Z1g,A1F,B5X c a b (j+1),A1F,Z1g,Z0v,show j+1+a.length=j+(a.length+1)by omega]
def B4F(a i:Int)(n c:Nat):List IdD:=(List.range' n c).map λm=>⟨a,i,((m+1:Nat):Int)⟩
def C5E(a i:Int)(n c d:Nat):B4F a i n (c+d)=B4F a i n c++B4F a i (n+c) d:=by unfold B4F;rw[<-Z0S,<-List.range'_append_1]
def D3j(a i:Int)(n c:Nat):B4F a i n (1+c)=⟨a,i,((n+1:Nat):Int)⟩::B4F a i (n+1) c:=by rw[C5E];simp[B4F]
mutual
def A9g(a i:Int):∀(t:A0a) (n w:Nat),A0V (A1U a i t n w)=B4F a i n (A0o t)
 |.mk _ k l h ws ks,n,w=>by rw[A1U,A0V,B9D a i ks,A0o,D3j]
def B9D(a i:Int):∀(ks:List A0a) (n w:Nat),A3N (A2f a i ks n w)=B4F a i n (A0x ks)
 |[],n,w=>by rw[A2f,A3N,A0x];rfl
 |k::ks,n,w=>by rw[A2f,A3N,A0x,A9g a i k,B9D a i ks,C5E]
end
mutual
def A8p(a i:Int):∀(t:A0a) (n w:Nat),A0o (A1U a i t n w)=A0o t
 |.mk _ k l h ws ks,n,w=>by rw[A1U,A0o,B4n a i ks,A0o]
def B4n(a i:Int):∀(ks:List A0a) (n w:Nat),A0x (A2f a i ks n w)=A0x ks
 |[],n,w=>by rw[A2f]
 |k::ks,n,w=>by rw[A2f,A0x,A8p a i k,B4n a i ks,A0x]
end
mutual
def B6b(a i:Int):∀(t:A0a) (n w:Nat),A1R (A1U a i t n w)=A1R t
 |.mk _ k l h ws ks,n,w=>by rw[A1U,A1R,B3I a i ks,A1R]
def B3I(a i:Int):∀(ks:List A0a) (n w:Nat),A3i (A2f a i ks n w)=A3i ks
 |[],n,w=>by rw[A2f]
 |k::ks,n,w=>by rw[A2f,A3i,B6b a i k,B3I a i ks,A3i]
end
def C7o(a i:Int)(n c:Nat):(B4F a i n c).Nodup:=by unfold B4F List.Nodup;rw[Z3P];refine List.Pairwise.imp ?_ (List.nodup_range' (s:=n) (n:=c) (step:=1));intro x y h e;simp only[IdD.mk.injEq,Z2n]at e;omega
def B3M{a i:Int}{n c:Nat}{x:IdD}(h:x∈B4F a i n c):x.act=a/\x.item=i:=by unfold B4F at h;obtain⟨m,_,rfl⟩:=Z0H.1 h;exact⟨rfl,rfl⟩
def B0R(c:Int):∀ts j,(A3N (A1F c ts j)).Nodup/\∀x∈A3N (A1F c ts j),x.act=c/\(j:Int)<=x.item
 |[],j=>by rw[A1F,A3N];simp
 |t::ts,j=>by
  obtain⟨h1,h2⟩:=B0R c ts (j+1);rw[A1F,A3N,A9g];refine⟨Z1V.2 ⟨C7o _ _ _ _,h1,λa ha b hb e=>?_⟩,λx hx=>?_⟩
  .have:=(B3M ha).2;have:=(h2 b hb).2;rw[e]at*;omega
  .rcases Z0V.1 hx with hx|hx
   .have:=B3M hx;exact⟨this.1,by omega⟩
   .have:=h2 x hx;exact⟨this.1,by omega⟩
def A5u(a:Int):∀ts j,A0x (A1F a ts j)=A0x (ts.map (·.1))
 |[],j=>rfl
 |t::ts,j=>by rw[A1F,A0x,A8p,A5u a ts,Z0t,A0x]
def B1G{k v:A0a}(hv:v∈A3X k):∀{ks:List A0a},k∈ks->v∈A6g ks
 |b::bs,hk=>by
  rw[A6g];rcases Z0u.1 hk with rfl|hk
  .exact Z2d _ hv
  .exact Z2F _ (B1G hv hk)
def C2y{α β:Type}(R:α->β->Prop):List α->List β->Prop
 |[],[]=>True
 |a::l1,b::l2=>R a b/\C2y R l1 l2
 |_,_=>False
def B5a{α β:Type}{R:α->β->Prop}:∀{l1:List α} {l2:List β},C2y R l1 l2->∀a∈l1,∃b∈l2,R a b
 |[],[],_,a,h=>by simp at h
 |x::l1,y::l2,h,a,ha=>by
  rcases Z0u.1 ha with rfl|ha
  .exact⟨y,by simp,h.1⟩
  .obtain⟨b,hb,hr⟩:=B5a h.2 a ha;exact⟨b,by simp[hb],hr⟩
 |[],_::_,h,_,_=>h.elim
 |_::_,[],h,_,_=>h.elim
section
variable (F:IdD->Option A0a) (l:List A0Q) (s:List A1P) (D:Nat->IdD)
structure C7N (n:Nat) (y:A0a):Prop where
 id:y.id=D n
 kind:y.kind=(A3J F l n).kind
 label:y.label=A9I l n
 head:A0H y.head=A0H (A3J F l n).head
 words:A0H y.words=(A7o F l s (A3J F l n)).1
def B5t:Nat->Nat->A0a->Prop
 |0,_,_=>False
 |f+1,n,y=>C7N F l s D n y/\C2y (B5t f) (A3T l n l.length) y.kids
end
section
variable {F:IdD->Option A0a} {l:List A0Q} {s:List A1P} {D:Nat->IdD}
def D9p(l:List A0M):A0H (l.map λh=>A7L h.text)=A0H l:=by simp[A0H,A7L]
def D6v(l:List ByteArray):A0H (l.map A7L)=l:=by
 simp only[A0H,Z1G]
 conv=>rhs;rw[<-List.map_id l]
 rfl
def C8w{f n:Nat}(a:∀j,j<l.length->B0C l j)(h1:n<l.length)(h2:l.length<=f+n):A0o (A2l F l s f n).1=(A4s (λk=>A2w l k) l.length f n).length:=by rw[A8E a f n h1 h2,A9J,Z0R]
def C3X(a i:Int)(b:∀j,j<l.length->B0C l j):∀f n,n<l.length->l.length<=f+n->∀m w,(∀q k,(A4s (λk=>A2w l k) l.length f n)[q]?=some k->D k=⟨a,i,((m+q+1:Nat):Int)⟩)->B5t F l s D f n (A1U a i (A2l F l s f n).1 m w)
 |0,n,h1,h2,m,w,h=>by omega
 |f+1,n,h1,h2,m,w,h=>by
  rw[A4s]at h;rw[A2l,B5t];simp only;rw[A1U];refine⟨⟨?_,rfl,rfl,?_,?_⟩,?_⟩
  .show(⟨a,i,((m+1:Nat):Int)⟩:IdD)=D n;rw[h 0 n rfl]
  .show A0H (A3Q _ _ _ _)=_;rw[B3m,D9p]
  .show A0H (A3Q _ _ _ _)=_;rw[B3m,D6v]
  .show C2y _ _ (A2f a i _ _ _);have key:∀(K:List Nat),(∀k∈K,n<k/\k<l.length)->∀m w,(∀q k,(K.flatMap (A4s (λk=>A2w l k) l.length f))[q]?=some k->D k=⟨a,i,((m+q+1:Nat):Int)⟩)->C2y (B5t F l s D f) K (A2f a i ((K.map (A2l F l s f)).map (·.1)) m w):=by
    intro K;induction K with
    |nil=>intro _ m w _;simp[A2f,C2y]
    |cons k K ih=>
     intro hK m w hD;obtain⟨k1,k2⟩:=hK k (by simp);simp only[Z0t,A2f,C2y];have hc:=C8w (F:=F) (s:=s) (f:=f) b k2 (by omega);refine⟨C3X a i b f k k2 (by omega) m w λq j hq=>hD q j ?_,ih (λq hq=>hK q (by simp[hq])) _ _ λq j hq=>?_⟩
     .rw[Z1a,Z0h (Z0b.1 hq).1];exact hq
     .rw[hD ((A4s (λk=>A2w l k) l.length f k).length+q) j (by rw[Z1a,Z1e (by omega),Z2h];exact hq),hc];congr 2;omega
   refine key (A3T l n l.length) (λk hk=>B2e b hk) (m+1) _ λq k hq=>?_;rw[h (q+1) k (by rw[List.getElem?_cons_succ];exact hq)];congr 2;omega
def C6N:∀f n y,B5t F l s D f n y->∀k∈A4s (λk=>A2w l k) l.length f n,∃x∈A3X y,C7N F l s D k x/\((k=n/\x=y)\/∃p:Nat,A2w l k=(p:Int)/\∃z∈A3X y,z.id=D p/\x∈z.kids)
 |0,n,y,h,k,hk=>h.elim
 |f+1,n,y,h,k,hk=>by
  obtain⟨h1,h2⟩:=h;rw[A4s]at hk;have j:y∈A3X y:=by obtain⟨a,b,c,d,e,g⟩:=y;rw[A3X];simp
  rcases Z0u.1 hk with rfl|hk
  .exact⟨y,j,h1,.inl ⟨rfl,rfl⟩⟩
  .obtain⟨q,hq,hk⟩:=Z2z.1 hk;obtain⟨z,hz,hr⟩:=B5a h2 q hq;obtain⟨x,hx,k1,k2⟩:=C6N f q z hr k hk;(have i:∀v∈A3X z,v∈A3X y:=by intro v hv;obtain⟨a,b,c,d,e,g⟩:=y;rw[A3X];exact Z1I _ (B1G hv hz));refine⟨x,i x hx,k1,.inr ?_⟩;rcases k2 with⟨rfl,rfl⟩|⟨p,e,w,hw,e1,e2⟩
   .exact⟨n,(A5i.1 hq).2,y,j,h1.id,hz⟩
   .exact⟨p,e,w,i w hw,e1,e2⟩
def B9e(a:Int)(W:List (IdD×IdD))(b:∀j,j<l.length->B0C l j)(hD:∀k y,A1C W (A3J F l k).id=some y->D k=y):∀(K:List Nat) (j:Nat),(∀k∈K,k<l.length)->(∀y∈A4X a ((K.map (A2l F l s l.length)).map (·.2.1)) j,A1C W y.1=some y.2)->
 C2y (B5t F l s D l.length) K (A1F a (K.map (A2l F l s l.length)) j)
 |[],j,_,_=>trivial
 |k::K,j,hK,h=>by
  simp only[Z0t,A4X,A1F,C2y]at h|-;have hk:=hK k (by simp);refine⟨C3X a j b l.length k hk (by omega) 0 0 λq r hq=>hD r _ ?_,B9e a W b hD K (j+1) (λq hq=>hK q (by simp[hq])) λy hy=>h y (Z2F _ hy)⟩;have hi:(A2l F l s l.length k).2.1[q]?=some (A3J F l r).id:=by rw[A9J,Z1f,hq];rfl
  have:=h ((A3J F l r).id,⟨a,j,(q:Int)+1⟩) (Z2d _ (Z0H.2 ⟨((A3J F l r).id,q),?_,rfl⟩))
  .rw[this];simp
  .rw[List.mem_zipIdx_iff_getElem?];simpa using hi
end
end Go.Abs
