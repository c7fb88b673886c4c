/- The texts CvV, CvW, CyJ, CyK, CyL, CyM, CyN, CyO, CsA, CsB, CsL, CsY, CaA, CaB, CaC. -/
import Derived.Test.YtmpdkagfplajjaaGreatDoorEG29
import Derived.Test.YtmpdkagfplajjaaGreatDoorEG23
import Derived.Test.YtmpdkagfplajjaaGreatDoorEG28
import Derived.Test.YtmpdkagfplajjaaGreatDoorEG01
import Derived.Test.YtmpdkagfplajjaaGreatDoorEG25
set_option linter.all false
set_option maxRecDepth 100000
namespace Go.Abs
open Go.Proofs TryTypes Tryz
def C7p(k:Nat):List AV:=[I k]
section
variable (gl:Nat->AV)
def D6P(b:FuncId)(first cap:List AV)(p:Nat->Bool)(l:List Nat)(hl:l.length<=1000)(v:AV)(M:Mem)(hv:A1l 3 1 C7p M v l) (hf:∀k∈l,A3V (WC gl) b (first++I k::cap) M (λr M'=>r=B (p k)/\M'=M)):A0e (WC gl) 206 [v,.func (.func b) first cap] M (λr M'=>(∃z:Int,r=I z/\decide (0<=z)=l.any p)/\M'=M):=by
 refine A0m hB func206 ?_
 have c:A1V prog 130 v=some l.length:=hv.len (e':=3) (by simp)
 simp -dsimp -implicitDefEqProofs[c]
 refine A0F hB l.length 8 (λT M1=>∃i:Nat,i<=l.length/\M1=M/\T 0=v/\T 1=.func (.func b) first cap/\T 7=I l.length/\T 8=I i/\l.any p=(l.drop i).any p) ?_ ?_
 .exact⟨0,by omega,rfl,by simp,by simp,by simp,by simp,by simp⟩
 .rintro T M1 ⟨i,i1,rfl,t0,t1,t7,t8,ho⟩;by_cases hi:i<l.length
  ·(have a:(i:Int)<l.length:=by omega);have w1:=A2s (i:=i) (by omega)
   obtain⟨q,p1,p2⟩:=hv.at1 (P:=prog) (t:=3) (f:=λk:Nat=>I k) (λ_=>rfl) (by simp) (by simp) hi;rw[Z0l hi,Z2Z]at ho;simp -dsimp -implicitDefEqProofs[t0,t1,t7,t8,hi,a,p1,p2];refine A4o (hf l[i] (Z0y hi)) ?_;rintro _ _ ⟨rfl,rfl⟩;cases hp:p l[i]
   .rw[hp,Z1K]at ho;simp -dsimp -implicitDefEqProofs[t0,t1,t7,t8,w1];exact⟨⟨i+1,by clear w1;omega,rfl,ho⟩,by clear w1;omega⟩
   .rw[hp,Z2O]at ho;simp -dsimp -implicitDefEqProofs[t0,t1,t7,t8,ho]
  ·(have a:¬(i:Int)<l.length:=by omega);rw[show l.drop i=[]from Z0x (by omega),List.any_nil]at ho
   simp -dsimp -implicitDefEqProofs[t0,t1,t7,t8,a,ho]
def D3Q(a:FuncId)(first cap:List AV)(p:Nat->Bool)(l:List Nat)(hl:l.length<=1000)(v:AV)(M:Mem)(hv:A1l 3 1 C7p M v l) (hf:∀k∈l,A3V (WC gl) a (first++I k::cap) M (λr M'=>r=B (p k)/\M'=M)):A0e (WC gl) 153 [v,.func (.func a) first cap] M (λr M'=>r=B (l.any p)/\M'=M):=by
 refine A0m hB func153 ?_
 simp -dsimp -implicitDefEqProofs
 refine A0r func206 (D6P gl a first cap p l hl v M hv hf) ?_
 rintro _ _ ⟨⟨z,rfl,hz⟩,rfl⟩
 by_cases h:0<=z
 .have hg:z>=0:=h;rw[Z0w h]at hz;simp -dsimp -implicitDefEqProofs[h,hg,hz]
 .have hg:¬z>=0:=h;rw[Z0z h]at hz;simp -dsimp -implicitDefEqProofs[h,hg,hz]
def D4R(l:List A0Q)(L:List (IdD×A0a))(a b c bx n k:Nat)(x:A0Q)(M:Mem)(hM:A1W A2C B4x M a L)(hX:M[bx]?=some (.cells 69 [I x.id.act,I x.id.item,I x.id.n,I x.parent,S x.label]))(hk:k<l.length)(hn:n<l.length):A0e (WC gl) 150 [I k,.cptr [.list 5 (A2h l) .no,.mapr a,.mapr b,.mapr c],.ptr bx 0,.cptr [I n]] M (λr M'=>r=B (C2Z (A1C L) l n x.label k)/\M'=M):=by
 refine A0m hB func150 ?_
 have e:A9I l k=l[k].label:=by simp[A9I,hk]
 have d:=λ(m:Nat) (h:m<l.length)=>B7h gl l L a b c m M hM (by omega)
 simp -dsimp -implicitDefEqProofs
 refine A1v hB (A0I gl) (λk=>if k=7 then 1 else if k=12\/k=15 then 2 else 0) (λ_=>bx) (by rfl) (by kernel_rfl) ?_
 by_cases c1:l[k].label=x.label
 case neg=>
  have hd:C2Z (A1C L) l n x.label k=false:=by simp[C2Z,e,c1]
  simp -dsimp -implicitDefEqProofs[hk,A0Q.row,A0R,A0b hX,c1,hd]
 simp -dsimp -implicitDefEqProofs[hk,A0Q.row,A0R,A0b hX,Z1T c1]
 refine A4T (A1T func151 rfl rfl (d k hk)) ?_
 simp -dsimp -implicitDefEqProofs
 refine A4T (A1T func151 rfl rfl (d n hn)) ?_
 simp -dsimp -implicitDefEqProofs[C2Z,e,c1]
 rfl
def C8M:AV:=.val (.slice none 0 0)
def B4L:A7q prog 130=some C8M:=by simp[A7q];rfl
def D5a:A7q prog 3=some (I 0):=by kernel_rfl
def D2q(ap:gl 0=A2u)(u:A0a)(l:List A0Q)(L:List (IdD×A0a))(IL:List (IdD×Nat))(KL:List (Int×AV))(a b c n:Nat)(M:Mem)(hM:A1W A2C B4x M a L)(hI:A1W A2C (λn:Nat=>I n) M b IL)(hK:A1W I (λv=>v) M c KL)
 (aq:∀y,(A1C IL y).isSome=(l.take n).any (λs=>decide (s.id=y)))(ar:∀p,A1l 3 1 C7p M ((A1C KL p).getD C8M) (A3T l p n))(hl:l.length<=1000)(hs:∀s∈l,s.good)(hn:n<l.length)(ag:∀j,j<n->B0C l j):
 A0e (WC gl) 103 [B1j l a b c,.agg u.row,I n] M (λr M'=>r=I (B5m (A1C L) u.id l n)/\M'=M):=by
 refine A3Z (λ_=>trivial) ?_
 obtain⟨x,hx⟩:∃x,x=l[n]:=⟨_,rfl⟩
 obtain⟨R,hR⟩:∃R,R=B5m (A1C L) u.id l n:=⟨_,rfl⟩
 rw[<-hR]
 have au:l[n]?=some x:=by rw[hx];simp[hn]
 have ai:=hx.symm
 simp only[B5m,au]at hR
 have ax:x.good:=hs x (by rw[hx];exact Z0y hn)
 have a1:∀y:IdD,A1B prog .eql 23 (.agg [I x.id.act,I x.id.item,I x.id.n]) (.agg [I y.act,I y.item,I y.n])=some (B (decide (x.id=y))):=λy=>B4h x.id y
 obtain⟨M1,a9⟩:∃M1,M1=M++[A0j.cells 69 [I x.id.act,I x.id.item,I x.id.n,I x.parent,S x.label]]:=⟨_,rfl⟩
 have ad:M1[M.length]?=some (A0j.cells 69 [I x.id.act,I x.id.item,I x.id.n,I x.parent,S x.label]):=by rw[a9];simp
 have a3:Grow M M1:=by rw[a9];exact A0c.app none _ _
 obtain⟨M2,ac⟩:∃M2,M2=M1++[A0j.cells 27 (A1Z (A1C L x.id))]:=⟨_,rfl⟩
 have a5:Grow M1 M2:=by rw[ac];exact A0c.app none _ _
 have g:=a3.trans a5
 have q:=a5.get ad (by simp)
 have ae:A1z prog 92 M1 (.mapr a) (.agg [I x.id.act,I x.id.item,I x.id.n]) true=some (.tuple [.agg (A1Z (A1C L x.id)),B (A1C L x.id).isSome]):=by rw[show AV.agg [I x.id.act,I x.id.item,I x.id.n]=A2C x.id from rfl,(hM.keep a3 (by simp)).get (A8D 92 27 (by kernel_rfl)) x.id C2G true];cases A1C L x.id<;>rfl
 have f:∃z,A1z prog 93 M2 (.mapr b) (.agg [I x.id.act,I x.id.item,I x.id.n]) true=some (.tuple [I z,B ((l.take n).any (λs=>decide (s.id=x.id)))]):=by rw[show AV.agg [I x.id.act,I x.id.item,I x.id.n]=A2C x.id from rfl,(hI.keep g (by simp)).get (A8D 93 3 (by kernel_rfl)) x.id D5a true,<-aq];cases A1C IL x.id<;>exact⟨_,rfl⟩
 obtain⟨z,f⟩:=f
 have aj:A1z prog 94 M1 (.mapr c) (I x.parent) false=some ((A1C KL x.parent).getD C8M):=by rw[(hK.keep a3 (by simp)).get (B9v 94 130 (by kernel_rfl)) x.parent B4L false];cases A1C KL x.parent<;>rfl
 have ab:=(ar x.parent).keep g (by simp)
 obtain⟨sv,ao⟩:∃sv,sv=(A1C KL x.parent).getD C8M:=⟨_,rfl⟩
 rw[<-ao]at aj ab
 have al:=hM.keep g (by simp)
 have af:=λ(m:Int) (h:m<l.length) (M:Mem) (hM:A1W A2C B4x M a L)=>B7h gl l L a b c m M hM h
 have a7:=ab.len (P:=prog) (t:=130) (e':=3) (by simp)
 obtain⟨o,ho⟩:∃o,o=A1C L x.id:=⟨_,rfl⟩
 rw[<-ho]at hR ae ac
 obtain⟨b1,aw⟩:∃b1,b1=((l.take n).any (λs=>decide (s.id=x.id))):=⟨_,rfl⟩
 rw[<-aw]at f hR
 rw[u.row_eq]
 refine A0m hB func103 ?_
 simp -dsimp -implicitDefEqProofs[hn,ai,A0Q.row,A0k,A0l,A0d,A0L,A0K]
 rw[<-a9]
 simp -dsimp -implicitDefEqProofs[A0b ad,aj,ae,A0k,A0l,A0d,A0L,A0K]
 rw[<-ac]
 cases o with
 |none=>
  simp only[Option.isSome_none,Z2f,Z2O,Z0F]at hR
  simp -dsimp -implicitDefEqProofs[A0b q,f,hR,g]
 |some v=>
 simp only[Z2D,Z2u,Z1K,Z0m]at hR
 by_cases c2:x.id=u.id
 case pos=>rw[Z0d c2]at hR;simp -dsimp -implicitDefEqProofs[A0b q,f,a1,Z1T c2,hR,g]
 rw[Z0e c2]at hR
 cases b1 with
 |true=>
  rw[Z0d rfl]at hR
  simp -dsimp -implicitDefEqProofs[A0b q,f,a1,c2,hR,g]
 |false=>
 simp only[Z0I,Z1j]at hR
 by_cases c3:x.parent< -1
 case pos=>
  rw[Z0w c3,Z2O,Z0d rfl]at hR;have a6:¬-1<=x.parent:=by omega
  simp -dsimp -implicitDefEqProofs[A0b q,f,a1,c2,c3,a6,hR,g]
 have a6:-1<=x.parent:=by omega
 rw[Z0z c3,Z1K]at hR
 by_cases c4:(n:Int)<=x.parent
 case pos=>rw[Z0w c4,Z0d rfl]at hR;have a8:x.parent>=n:=c4;simp -dsimp -implicitDefEqProofs[A0b q,f,a1,c2,c3,a6,c4,a8,hR,g]
 rw[Z0z c4]at hR
 simp only[Z0I,Z1j]at hR
 have a8:¬x.parent>=n:=c4
 simp -dsimp -implicitDefEqProofs[A0b q,f,a1,c2,c3,a6,c4,a8]
 refine A0r func112 (A9n gl _ x.label) ?_
 rintro _ M3 ⟨rfl,w⟩
 have ak:=w.get q (by simp)
 have a4:=al.keep w (by simp)
 have am:=ab.keep w (by simp)
 have d:=g.trans w
 cases c5:A0X x.label
 case false=>simp only[c5,Z2f,Z0F]at hR;simp -dsimp -implicitDefEqProofs[hR,d]
 simp only[c5,Z2u,Z0I,Z1j]at hR
 have an:x.parent<l.length:=by omega
 simp -dsimp -implicitDefEqProofs
 refine A1v hB (A0I gl) (λk=>if k=2 then 1 else if k=3\/k=6\/k=7 then 2 else 0) (λ_=>M.length) (by rfl) (by kernel_rfl) ?_
 simp -dsimp -implicitDefEqProofs[A0R,A0b ak]
 refine A4T (A1T func151 rfl rfl (af x.parent an _ a4)) ?_
 simp -dsimp -implicitDefEqProofs
 refine A4T (A1T func151 rfl rfl (af n (by omega) _ a4)) ?_
 simp -dsimp -implicitDefEqProofs
 refine A4T (A1T func152 rfl rfl (A8X gl M3 ap (A4L (A1C L) l x.parent) (A4L (A1C L) l n))) ?_
 cases c6:A4v (A4L (A1C L) l x.parent) (A4L (A1C L) l n)
 case false=>simp only[c6,Z2f,Z0F]at hR;simp -dsimp -implicitDefEqProofs[hR,d]
 simp only[c6,Z2u,Z0I,Z1j]at hR
 simp -dsimp -implicitDefEqProofs
 refine A0r func153 (D3Q gl 150 [] [.cptr [.list 5 (A2h l) .no,.mapr a,.mapr b,.mapr c],.ptr M.length 0,.cptr [I n]] (C2Z (A1C L) l n x.label) (A3T l x.parent n) (by have:=B0Q l x.parent n;omega) sv M3 am ?_) ?_
 .intro k hk;exact A1T func150 rfl rfl (D4R gl l L a b c M.length n k x M3 a4 ak (by have:=A7z hk;omega) hn)
 rintro _ _ ⟨rfl,rfl⟩
 cases c7:(A3T l x.parent n).any (C2Z (A1C L) l n x.label)
 case true=>rw[c7,Z0d rfl]at hR;simp -dsimp -implicitDefEqProofs[hR,d]
 rw[c7]at hR
 simp only[Z0I,Z1j]at hR
 have av:B0C l ((n:Int)).toNat:=by
  intro j hj h;have h:j<=n:=by simpa using h
  by_cases e:j=n
  .subst e;rw[ai];exact⟨a6,by omega⟩
  .exact ag j (by omega) j hj (Z0n _)
 by_cases c9:64<=(A3T l x.parent n).length
 case pos=>
  have a0:(64:Int)<=(A3T l x.parent n).length:=by omega
  have aa:((A3T l x.parent n).length:Int)>=64:=a0;rw[Z0w c9,Z2O,Z0d rfl]at hR;simp -dsimp -implicitDefEqProofs[a7,a0,aa,hR,d]
 have a0:¬(64:Int)<=(A3T l x.parent n).length:=by omega
 have aa:¬((A3T l x.parent n).length:Int)>=64:=a0
 rw[Z0z c9,Z1K]at hR
 have ah:=λM=>D3G gl l a b c n M hl ⟨by omega,by omega⟩ av
 rw[show((n:Int)+1).toNat=n+1 by omega]at ah
 simp -dsimp -implicitDefEqProofs[a7,a0,aa]
 refine A0g func154 (ah _) ?_
 by_cases c10:8<A2Q l (n+1) n
 .have i:(8:Int)<A2Q l (n+1) n:=by omega
  have a2:(A2Q l (n+1) n:Int)>8:=i;rw[Z0w c10,Z0d rfl]at hR;simp -dsimp -implicitDefEqProofs[i,a2,hR,d]
 .have i:¬(8:Int)<A2Q l (n+1) n:=by omega
  have a2:¬(A2Q l (n+1) n:Int)>8:=i;rw[Z0z c10]at hR;simp only[Z0I,Z1j]at hR;simp -dsimp -implicitDefEqProofs[i,a2,hR,d]
end
section
mutual
def A9t(x:IdD):∀u:A0a,A0U x u=(A3X u).find? λv=>decide (v.id=x)
 |.mk id k l h w ks=>by
  rw[A0U,A3X,Z2R];have a:(A0a.mk id k l h w ks).id=id:=rfl;rw[a];by_cases c:id=x
  .rw[Z0d c,Z0w c]
  .rw[Z0e c,Z0z c];exact C1P x ks
def C1P(x:IdD):∀ks:List A0a,A9s x ks=(A6g ks).find? λv=>decide (v.id=x)
 |[]=>by rw[A9s,A6g];rfl
 |k::ks=>by rw[A9s,A6g,List.find?_append,A9t x k,C1P x ks];cases(A3X k).find? (λv=>decide (v.id=x))<;>rfl
end
def B8t:∀(us:List A0a) (L:List (IdD×A0a)),(L.map (·.1)++us.map A0a.id).Nodup->A6h L us=L++us.map λu=>(u.id,u)
 |[],L,_=>by simp[A6h]
 |u::us,L,h=>by
  have hn:u.id∉L.map (·.1):=by intro hm;rw[Z1V]at h;exact h.2.2 _ hm u.id (by simp) rfl
  rw[A6h,B7T hn,B8t us]
  .simp
  .simpa using h
def C0E(x:IdD):∀us:List A0a,A1C (us.map λu=>(u.id,u)) x=us.find? λv=>decide (v.id=x)
 |[]=>rfl
 |u::us=>by
  rw[Z0t,A1C,Z2R];by_cases c:x=u.id
  .rw[Z0d c,Z0w c.symm]
  .rw[Z0e c,Z0z (λe=>c e.symm)];exact C0E x us
def A8H{K:Type}[DecidableEq K]:∀(r S:List K),S.Nodup->B2E r S=true->(S++r).Nodup
 |[],S,h,_=>by simpa using h
 |x::r,S,h,hd=>by
  rw[B2E,Z0g,B4q]at hd;have hx:x∉S:=by simpa using hd.1
  have:=A8H r (S++[x]) (by rw[Z1V];exact⟨h,by simp,λa ha b hb=>by simp only[Z0u,Z2p,Z3F]at hb;subst hb;rintro rfl;exact hx ha⟩) hd.2;simpa using this
def C7m(u:A0a)(h:B2E (A0V u) []=true):A1C (A6h [] (A3X u))=λx=>A0U x u:=by have hn:=A8H (A0V u) [] (by simp) h;rw[<-A7c,Z1Y]at hn;funext x;rw[B8t _ _ (by simpa using hn),Z1Y,C0E,A9t]
abbrev z96:List AV:=[.val (.slice none 0 0),.val (.map none),.val (.map none),.val (.map none)]
@[simp] def E3W:A0D prog 96 []=some (.agg z96):=by simp[A0D,A1k]
@[simp] def E2x{l}{a b c}:A0D prog 96 [(0,.list 5 l .no),(1,.mapr a),(2,.mapr b),(3,.mapr c)]=some (.agg [.list 5 l .no,.mapr a,.mapr b,.mapr c]):=by
 simp[A0D,A1k,A1E,A0d,A0K]
def D8W{n}:(I n).storable=true:=rfl
def D9n{n}:(I n).cells=[I n]:=rfl
def C9D:A0S prog 130=some 3:=by kernel_rfl
def D3m:A3W prog 130:=.inl ⟨3,by kernel_rfl⟩
def E1R:A3j prog 3 1 8:=⟨_,_,type3,rfl,rfl,rfl,rfl,by decide⟩
def A8l(KL:List (Int×AV))(p:Int):AV:=(A1C KL p).getD C8M
def A2U(l:List A0Q)(id:IdD):Option Nat:=l.findIdx? λs=>decide (s.id=id)
def B9w(l:List A0Q)(y:IdD):(A2U l y).isSome=l.any (λs=>decide (s.id=y)):=by simp[A2U]
def C4u(l:List A0Q)(x:A0Q)(y:IdD):A2U (l++[x]) y=match A2U l y with
 |some k=>some k
 |none=>if x.id=y then some l.length else none:=by
 unfold A2U
 rw[List.findIdx?_append]
 cases List.findIdx? (λs=>decide (s.id=y)) l with
 |some k=>rfl
 |none=>by_cases e:x.id=y<;>simp[e]
def D4X{F:IdD->Option A0a}{uid}{l}{n}(hn:n<l.length)(h:B5m F uid l n=0):A2U (l.take n) l[n].id=none:=by
 have h2:(l.take n).any (λs=>decide (s.id=l[n].id))=false:=by
  cases c:(l.take n).any (λs=>decide (s.id=l[n].id))with
  |false=>rfl
  |true=>
   simp only[B5m,Z0k hn,c,Z0F]at h;split at h
   .simp at h
   .simp at h
 have:=B9w (l.take n) l[n].id;rw[h2]at this;cases e:A2U (l.take n) l[n].id with
 |none=>rfl
 |some k=>rw[e]at this;simp at this
structure C8A (M0:Mem) (l:List A0Q) (L:List (IdD×A0a)) (r a b c p i:Nat) (M:Mem):Prop where
 grow:Grow M0 M
 res:M[r]?=some (.cells 96 z96)
 pl:M[p]?=some (.cells 96 [.list 5 (A2h l) .no,.mapr a,.mapr b,.mapr c])
 units:A1W A2C B4x M a L
 ix:∃IL,A1W A2C (λn:Nat=>I n) M b IL/\∀y,A1C IL y=A2U (l.take i) y
 kd:∃KL,A1W I (λv=>v) M c KL/\(∀q,A1l 3 1 C7p M (A8l KL q) (A3T l q i))/\(∀q f,obj (A8l KL q)=some f->p<f)/\∀q q' f,obj (A8l KL q)=some f->obj (A8l KL q')=some f->q=q'
structure B2Q (l:List A0Q) (L:List (IdD×A0a)) (a b c:Nat) (M:Mem):Prop where
 units:A1W A2C B4x M a L
 ix:∃IL,A1W A2C (λn:Nat=>I n) M b IL/\∀y,A1C IL y=A2U l y
 kd:∃KL,A1W I (λv=>v) M c KL/\∀q,A1l 3 1 C7p M (A8l KL q) (A3T l q l.length)
def B6W(R:Int)(F:IdD->Option A0a)(l:List A0Q)(r:List AV)(M:Mem):Prop:=r.length=4/\(R=0->∃L a b c,r=[.list 5 (A2h l) .no,.mapr a,.mapr b,.mapr c]/\A1C L=F/\B2Q l L a b c M)
def B6W.bad{R}{F:IdD->Option A0a}{l}{r}{M}(h:r.length=4)(hR:R≠0):B6W R F l r M:=⟨h,λe=>absurd e hR⟩
section
variable (gl:Nat->AV)
set_option maxHeartbeats 1000000 in
def D2o(ap:gl 0=A2u)(b6:gl 1=A2J)(F:IdD->Option A0a)(u:A0a)(hF:F=λx=>A0U x u)(l:List A0Q)(M:Mem)(a2:Fit u)(hl:l.length<=1000)(hs:∀s∈l,s.good):A0e (WC gl) 47 [.agg u.row,.list 5 (A2h l) .no] M (λv M'=>(∃r,v=.tuple [.agg r,I (A7F F u l)]/\B6W (A7F F u l) F l r M')/\Grow M M'):=by
 have a6:=λM=>D1P gl ap b6 u M a2;rw[D0K]at a6;obtain⟨R,hR⟩:∃R,R=A7F F u l:=⟨_,rfl⟩;rw[<-hR];simp only[A7F]at hR;have z:=λM=>B2Y gl u [] M.length (M++[.map [] 0]) a2.1 (A1W.new M);rw[u.row_eq]at a6 z|-;refine A0m (hQ [52]) func47 ?_;simp -dsimp -implicitDefEqProofs[A0k];refine A0r func50 (a6 _) ?_;rintro _ M1 ⟨rfl,af⟩;have a0:Grow M M1:=by rw[af];exact A0c.app none _ _
 have a3:M1[M.length]?=some (.cells 96 z96):=by rw[af];simp
 cases c1:B2A u;case false=>simp only[c1,Z2f,Z0F]at hR;have o:M.length<M1.length:=(Z0b.1 a3).1;simp -dsimp -implicitDefEqProofs[A0f a3,A0L,A0K,hR,A0v o,A0h,A1g a0];exact .bad rfl (by decide)
 simp only[c1,Z2u,Z0I,Z1j]at hR;obtain⟨q1,q2⟩:=A7v u [] M1.length (M1++[.map [] 0]) (A1W.new M1);simp -dsimp -implicitDefEqProofs;refine A0r func102 (z M1) ?_;rintro _ M2 ⟨rfl,ay⟩;rw[<-ay]at q1 q2;have az:M1.length<M2.length:=q1.lt;have o:M.length<M1.length:=(Z0b.1 a3).1;have ak:M2[M.length]?=some (.cells 96 z96):=by rw[q2.2 _ (by simp;omega) (by simp;omega),Z0h o];exact a3
 have a8:Grow M M2:=by refine⟨by omega,λj hj _=>?_⟩;rw[q2.2 j (by simp;omega) (by simp;omega),Z0h (by omega)];exact a0.2 j hj (by simp)
 obtain⟨L,hL⟩:∃L,L=A6h [] (A3X u):=⟨_,rfl⟩;rw[<-hL]at q1;have al:A1C L=F:=by rw[hL,hF];refine C7m u ?_;simp only[B2A,Z0g]at c1;exact c1.2
 have hLn:(L.length:Int)=A0o u:=by
  have h1:=B1d (A3X u) [];rw[A7c,<-hL]at h1;have h2:(A5N [] (A0V u)).length=A0o u:=by have:=(B2l (A0V u) ([]:List IdD)).2 (by simp only[B2A,Z0g]at c1;exact c1.2);rw[A5A]at this;simpa using this
  have h3:=congrArg List.length h1;simp only[Z0R,Z2a]at h3;omega
 have bd:=A5R u;have bg:=a2.2.2;obtain⟨E,hE⟩:∃E,E=B5m F u.id l:=⟨_,rfl⟩;rw[<-hE]at hR;have b0:∀n,(∀j,j<n->E j=0)->∀j,j<n->B0C l j:=by rw[hE];exactλn=>C6E
 obtain⟨a,ha⟩:∃a,a=M1.length:=⟨_,rfl⟩;obtain⟨b,hb⟩:∃b,b=M2.length:=⟨_,rfl⟩;have ao:A1W A2C (λn:Nat=>I n) (M2++[A0j.map [] 0]) b []:=by rw[hb];exact A1W.new M2
 obtain⟨M3,w⟩:∃M3,M3=M2++[A0j.map [] 0,A0j.map [] 0,A0j.cells 96 [.list 5 (A2h l) .no,.mapr a,.mapr b,.mapr (b+1)]]:=⟨_,rfl⟩;have t:C8A M l L M.length a b (b+1) (b+2) 0 M3:=by
  have a1:Grow M2 M3:=by rw[w];exact A0c.app none _ _
  refine⟨a8.trans a1,a1.get ak (by simp),?_,?_,⟨[],⟨[],0,?_,rfl⟩,λy=>by simp[A1C,A2U]⟩,⟨[],⟨[],0,?_,rfl⟩,λq=>?_,λq f hf=>by simp[A8l,A1C,C8M]at hf,λq q' f hf=>by simp[A8l,A1C,C8M]at hf⟩⟩
  .rw[w,hb];simp
  .rw[ha];exact q1.keep a1 (by simp)
  .rw[w,hb];simp
  .rw[w,hb];simp
  .simp only[A8l,A1C,Z3p,A3T,List.range_zero,List.filter_nil];exact .nil
 simp -dsimp -implicitDefEqProofs[A0k,A0l,A0d,A0L,A0K];rw[<-ha,<-hb,<-w];have bf:M.length<a/\a<b:=by omega
 clear a6 z af a0 a3 ay q1 q2 az o ak a8 ao w ha hb;have ab:=λIL KL n M hM hI hK hIx hKx hn hord=>D2q gl ap u l L IL KL a b (b+1) n M hM hI hK hIx hKx hl hs hn hord;rw[al,<-hE,u.row_eq]at ab;refine A0F (hQ [52]) l.length 23 (λT M3=>∃i:Nat,i<=l.length/\T 1=.list 5 (A2h l) .no/\T 2=.cptr [I u.id.act,I u.id.item,I u.id.n,I u.kind,S u.label,.list 4 (A0i u.head) .no,.list 4 (A0i u.words) .no,.list 8 (A0u u.kids) .no]/\T 4=.ptr M.length 0/\T 6=.ptr (b+2) 0/\T 21=.list 5 (A2h l) .no/\T 22=I l.length/\T 23=I i/\C8A M l L M.length a b (b+1) (b+2) i M3/\A9R E l.length 0=A9R E (l.length-i) i/\∀j,j<i->E j=0) ?_ ?_
 .exact⟨0,by omega,by simp,by simp,by simp,by simp,by simp,by simp,by simp,t,by simp,by simp⟩
 clear t;rintro T M3 ⟨i,i1,t1,t2,t4,t6,g,d,m,t,ho,hz⟩;by_cases hi:i<l.length;case neg=>
  have a5:¬(i:Int)<l.length:=by omega
  rw[show l.length-i=0 by omega,A9R]at ho;rw[ho,Z0d rfl]at hR;have bb:B6W 0 F l [.list 5 (A2h l) .no,.mapr a,.mapr b,.mapr (b+1)] (M3.set M.length (.cells 96 [.list 5 (A2h l) .no,.mapr a,.mapr b,.mapr (b+1)])):=by
   (have b7:i=l.length:=by omega);subst b7
   obtain⟨-,-,-,g4,⟨IL,g5,g6⟩,KL,g7,g8,g9,-⟩:=t;have p:A0c (some M.length) M3 (M3.set M.length (.cells 96 [.list 5 (A2h l) .no,.mapr a,.mapr b,.mapr (b+1)])):=.set _ _ _;refine⟨rfl,λ_=>⟨L,a,b,b+1,rfl,al,g4.keep p (by simp;omega),⟨IL,g5.keep p (by simp;omega),λy=>by rw[g6,List.take_length]⟩,KL,g7.keep p (by simp;omega),λq=>(g8 q).keep p λf hf e=>?_⟩⟩;have:=g9 q f hf;simp at e;omega
  obtain⟨h1,h2,h3,h4,-,-⟩:=t;have ax:A2S prog 92 M3 (.mapr a)=some L.length:=h4.len (kt:=23) (et:=27) (by simp);have w2:IntKind.i64.wrap ((A0o u:Int)-1)=A0o u-1:=A0Z (by omega) (by omega);have a9:M.length<M3.length:=(Z0b.1 h2).1;by_cases c3:(l.length:Int)=A0o u-1
  .rw[Z0d c3]at hR;simp -dsimp -implicitDefEqProofs[t1,t2,t4,t6,g,d,m,a5,A0b h3,A5X,ax,hLn,w2,Z1T c3,A0f h2,A0L,A0K,A0v a9,A0h,hR,A1g h1];exact bb
  .rw[Z0e c3]at hR;simp -dsimp -implicitDefEqProofs[t1,t2,t4,t6,g,d,m,a5,A0b h3,A5X,ax,hLn,w2,c3,A0f h2,A0L,A0K,A0v a9,A0h,hR,A1g h1];exact .bad rfl (by decide)
 have a5:(i:Int)<l.length:=by omega
 have w1:=A2s (i:=i) (by omega);obtain⟨x,hx⟩:∃x,x=l[i]:=⟨_,rfl⟩;have au:=hx.symm;rw[show l.length-i=(l.length-(i+1))+1 by omega,A9R]at ho;obtain⟨M4,ae⟩:∃M4,M4=M3++[A0j.cells 69 [I x.id.act,I x.id.item,I x.id.n,I x.parent,S x.label]]:=⟨_,rfl⟩;have ai:M4[M3.length]?=some (A0j.cells 69 [I x.id.act,I x.id.item,I x.id.n,I x.parent,S x.label]):=by rw[ae];simp
 have c:Grow M3 M4:=by rw[ae];exact A0c.app none _ _
 obtain⟨h1,h2,h3,h4,⟨IL,h5,h6⟩,KL,h7,h8,h9,ah⟩:=t;have ar:b+2<M3.length:=(Z0b.1 h3).1;have ac:∀q f,obj (A8l KL q)=some f->f<M3.length:=λq f hf=>(h8 q).lt hf;replace h1:=h1.trans c;replace h2:=c.get h2 (by simp);replace h3:=c.get h3 (by simp);replace h4:=h4.keep c (by simp);replace h5:=h5.keep c (by simp);replace h7:=h7.keep c (by simp);replace h8:=λq=>(h8 q).keep c (by simp);simp -dsimp -implicitDefEqProofs[t1,t2,t4,t6,g,d,m,hi,a5,au,A0Q.row,A0k,A0l,A0d,A0L,A0K];rw[<-ae];simp -dsimp -implicitDefEqProofs[t1,t2,t4,t6,g,d,m,A0b h3];refine A0r func103 (ab IL KL i M4 h4 h5 h7 (λy=>by rw[h6 y];exact B9w _ _) h8 hi (b0 i hz)) ?_;rintro _ M4 ⟨rfl,rfl⟩;by_cases c2:E i=0;case neg=>rw[Z0e c2]at ho;rw[ho,Z0e c2]at hR;have aq:=(Z0b.1 h2).1;simp -dsimp -implicitDefEqProofs[t1,t2,t4,t6,g,d,m,c2,A0f h2,A0L,A0K,A0v aq,A0h,hR,A1g h1];exact .bad rfl c2
 rw[Z0d c2]at ho;obtain⟨M5,p1,p2,p3⟩:=h5.put (A8D 93 3 (by kernel_rfl)) x.id i;have b1:A1o prog 93 M4 (.mapr b) (.agg [I x.id.act,I x.id.item,I x.id.n]) (I i)=some M5:=p1;obtain⟨xo,aj⟩:∃xo,xo=M3.length:=⟨_,rfl⟩;rw[<-aj]at ai ar ac;simp -dsimp -implicitDefEqProofs[t1,t2,t4,t6,g,d,m,Z1T c2,A0b h3,<-aj];rw[A0b ai];simp -dsimp -implicitDefEqProofs[b1];replace h1:Grow M M5:=⟨Z0Q h1.1 p3.1,λj hj _=>(p3.2 j (by have:=h1.1;omega) (by simp;omega)).trans (h1.2 j hj (by simp))⟩;replace h2:=p3.get h2 (by simp;omega);replace h3:=p3.get h3 (by simp);replace h4:=h4.keep p3 (by simp;omega);replace h7:=h7.keep p3 (by simp);replace h8:=λq=>(h8 q).keep p3 (by intro f hf;have:=h9 q f hf;simp;omega);have ad:=p3.get ai (by simp;omega);have b5:A1z prog 94 M5 (.mapr (b+1)) (I x.parent) false=some (A8l KL x.parent):=by rw[h7.get (B9v 94 130 (by kernel_rfl)) x.parent B4L false,A8l];cases A1C KL x.parent<;>rfl
 refine A6r (hQ [52]) (A0I gl) (λk=>if k=1\/k=3\/k=5\/k=7\/k=8 then 1 else if k=11\/k=12 then 2 else 0) (λk=>if k=1\/k=5 then b+2 else if k=8 then b+1 else xo) (λk=>k==8) [b+2,xo] ?_ (by rfl) (by kernel_rfl) ?_
 .intro k _ h;have h:¬k=8:=by simpa using h
  by_cases e:k=1\/k=5<;>simp[e,h]
 simp -dsimp -implicitDefEqProofs[t1,t2,t4,t6,g,d,m,<-aj,A0R,A0b h3,A0b ad,b5,A0q,A1f,D8W,D9n];have be:=B0Q l x.parent i;have b8:A2w l i=x.parent:=by simp[A2w,hi,hx]
 refine A4C (C:=WC gl) (enc:=C7p) (e:=3) (sz:=1) (news:=[i]) C9D D3m E1R (λ_=>rfl) (h8 x.parent) (by simp[A0A,C7p]) (by simp;omega) rfl ?_;intro v' M6 k1 k2 k3 _;have ag:M6[b+2]?=M5[b+2]?:=k2.2 _ (by have:=(Z0b.1 h3).1;exact this) (λe=>by have:=h9 _ _ e;omega);have am:M6[xo]?=M5[xo]?:=k2.2 _ (by have:=(Z0b.1 ad).1;exact this) (λe=>by have:=ac _ _ e;omega);have b3:obj (A8l KL x.parent)≠some (b+1):=λe=>by have:=h9 _ _ e;omega
 obtain⟨M7,m1,m2,m3⟩:=(h7.keep k2 b3).put (B9v 94 130 (by kernel_rfl)) x.parent v';have b2:A1o prog 94 M6 (.mapr (b+1)) (I x.parent) v'=some M7:=m1;have an:M7[b+2]?=M6[b+2]?:=m3.2 _ (by have:=(Z0b.1 (ag.trans h3)).1;exact this) (by simp);have b4:M7[xo]?=M6[xo]?:=m3.2 _ (by have:=(Z0b.1 (am.trans ad)).1;exact this) (by simp;omega);simp -dsimp -implicitDefEqProofs[t1,t2,t4,t6,g,d,m,ag,am,b2,an,b4,w1];have ba:C8A M l L M.length a b (b+1) (b+2) (i+1) M7:=by
  have a4:∀q,A8l (A7N KL x.parent v') q=if q=x.parent then v' else A8l KL q:=λq=>by simp only[A8l,C1n];by_cases e:q=x.parent<;>simp[e]
  have bc:b+2<M5.length:=(Z0b.1 h3).1;have av:∀f,obj v'=some f->b+2<f:=λf hf=>by
   rcases k3 with e|e
   .exact h9 _ f (by rw[<-e];exact hf)
   .have:=e f hf;omega
  have a7:∀j,j<b+1->M7[j]?=M5[j]?:=λj hj=>by have e6:M6[j]?=M5[j]?:=k2.2 j (by omega) (λe=>by have:=h9 _ _ e;omega);rw[m3.2 j (by have:=k2.1;omega) (by simp;omega),e6]
  have b9:∀q,A3T l q (i+1)=A3T l q i++if q=x.parent then[i]else[]:=λq=>by
   rw[D1H,b8];by_cases e:q=x.parent
   .rw[Z0d e.symm,Z0d e]
   .rw[Z0e (λh=>e h.symm),Z0e e]
  refine⟨⟨by have:=h1.1;have:=k2.1;have:=m3.1;omega,λj hj _=>(a7 j (by omega)).trans (h1.2 j hj (by simp))⟩,by rw[a7 _ (by omega)];exact h2,by rw[an,ag];exact h3,(h4.keep k2 (λe=>by have:=h9 _ _ e;omega)).keep m3 (by simp;omega),⟨_,(p2.keep k2 (λe=>by have:=h9 _ _ e;omega)).keep m3 (by simp),λy=>?_⟩,_,m2,λq=>?_,λq f hf=>?_,λq q' f hf hf'=>?_⟩
  ·(have aw:A2U (l.take i) x.id=none:=by rw[hx];exact D4X hi (by rw[<-hE];exact c2));rw[C1n,Z0D hi,C4u,au,<-h6]
   by_cases e:y=x.id
   .rw[Z0d e,e,h6,aw];simp;omega
   .rw[Z0e e];have:¬x.id=y:=λh=>e h.symm;rw[Z0e this];cases A1C IL y<;>rfl
  .rw[a4,b9];by_cases e:q=x.parent
   .rw[Z0d e,Z0d e,e];exact k1.keep m3 (λf hf=>by have:=av f hf;simp;omega)
   .rw[Z0e e,Z0e e,Z1D];exact((h8 q).keep k2 (λf hf hs=>e (ah _ _ f hf hs))).keep m3 (λf hf=>by have:=h9 _ f hf;simp;omega)
  .rw[a4]at hf;by_cases e:q=x.parent
   .rw[Z0d e]at hf;exact av f hf
   .rw[Z0e e]at hf;exact h9 q f hf
  .have aa:∀q,obj (A8l KL q)=some f->obj v'=some f->q=x.parent:=λq h1 h2=>by
    rcases k3 with e|e
    .exact ah _ _ f h1 (by rw[<-e];exact h2)
    .have:=e f h2;have:=(h8 q).lt h1;omega
   rw[a4]at hf hf';by_cases e:q=x.parent
   .rw[Z0d e]at hf;by_cases e':q'=x.parent
    .rw[e,e']
    .rw[Z0e e']at hf';exact absurd (aa q' hf' hf) e'
   .rw[Z0e e]at hf;by_cases e':q'=x.parent
    .rw[Z0d e']at hf';exact absurd (aa q hf hf') e
    .rw[Z0e e']at hf';exact ah _ _ f hf hf'
 exact⟨⟨i+1,by clear w1;omega,rfl,ba,ho,λj hj=>by
  by_cases e:j=i
  .rw[e];exact c2
  .exact hz j (by clear w1;omega)⟩,by clear w1;omega⟩
end
end
open Go.Proofs TryTypes
def C7S(p:List A0G):Prop:=p.length<=1000000/\∀s∈p,s.lab.size<=maxLen
section
variable (gl:Nat->AV) (M:Mem)
end
def hR:A2r:=⟨λ_=>true,λ_=>false,λd=>d==6||d==41||d==74||d==82⟩
@[simp] def E5J:hR.imm=λ_=>true:=rfl
@[simp] def E6s:hR.own=λ_=>false:=rfl
@[simp] def E6N:hR.vec=λd=>d==6||d==41||d==74||d==82:=rfl
section
variable (gl:Nat->AV) (M:Mem)
end
def C0q(M:Mem)(v:AV)(l:List ByteArray):Prop:=(∃o,v=.list 1 (A1c l) o)\/A5q 9 M v (l.map S)
def C0q.len{M:Mem}{v:AV}{l:List ByteArray}(h:C0q M v l):A1V prog 37 v=some l.length:=by
 rcases h with⟨o,rfl⟩|h
 .simp[A1V]
 .rw[h.len (e:=9) (by simp)];simp
def C0q.at{M:Mem}{v:AV}{l:List ByteArray}(h:C0q M v l){i:Nat}(hi:i<l.length):∃p,A6a (some (some 1)) v (I i)=some p/\((p=.cptr [S l[i]])\/∃f,obj v=some f/\A7f p=some f/\A1D prog 9 M p=some (S l[i])):=by
 rcases h with⟨o,rfl⟩|h
 .refine⟨_,by simp[hi];rfl,.inl ?_⟩;simp[A1c,hi]
 .rcases h with⟨rfl,hn⟩|⟨f,g,a,rfl,hf,hl⟩
  ·(have:l.length=0:=by have:=congrArg List.length hn;simpa using this);omega
  .refine⟨_,by simp[hi];rfl,.inr ⟨f,rfl,rfl,?_⟩⟩;simp[A1D,A2L,hf,hl,A0h,hi];rw[Z0j (by simp),Z0l (by simpa using hi)];simp
section
variable (gl:Nat->AV) (M:Mem)
def D6J(a b:AV)(x y:List ByteArray)(ha:C0q M a x)(hb:C0q M b y)(hx:x.length<=1000000):A0e (WC gl) 17 [a,b] M (λv M'=>v=B (decide (x=y))/\M'=M):=by
 refine D3S hB func17 rfl rfl rfl rfl rfl rfl ?_;by_cases hlen:x.length=y.length
 .have j:(x.length:Int)=y.length:=by omega
  simp -dsimp -implicitDefEqProofs[ha.len,hb.len,j,hlen];refine A7V hB (λT M1=>∃i:Nat,i<=x.length/\M1=M/\T 0=a/\T 1=b/\T 5=I i/\x.take i=y.take i) (λT M1=>match T 5 with|.val (.int _ i)=>x.length-i.toNat|_=>0) (by kernel_rfl) ?_ ?_
  .refine⟨0,?_⟩;simp -dsimp -implicitDefEqProofs
  .rintro T M1 ⟨i,h1,rfl,h2,h3,h4,h5⟩;by_cases hi:i<x.length
   ·(have h:(i:Int)<x.length:=by omega);have f:i<y.length:=by omega
    (have m:(i:Int)<y.length:=by omega);have hw:IntKind.i64.wrap ((i:Int)+1)=(i+1:Nat):=by rw[A0Z (by omega) (by omega)];omega
    obtain⟨pa,d,ca⟩:=ha.at hi;obtain⟨pb,c,cb⟩:=hb.at f;have fin:x[i]≠y[i]->decide (x=y)=false:=λl=>Z0z λe=>l (by subst e;rfl);(have g:x[i]=y[i]->x.take (i+1)=y.take (i+1):=λhe=>by rw[Z0D hi,Z0D f,h5,he]);simp -dsimp -implicitDefEqProofs[h2,h3,h4,ha.len,hb.len,h];rcases ca with rfl|⟨fa,oa,ra,la⟩
    .rcases cb with rfl|⟨fb,ob,rb,lb⟩
     .refine A1v hB (A0I gl) (λ_=>0) (λ_=>0) (by rfl) (by kernel_rfl) ?_;by_cases he:x[i]=y[i]
      .simp -dsimp -implicitDefEqProofs[h2,h3,h4,d,c,he,hw];exact⟨⟨i+1,by clear hw;omega,by simp,g he⟩,by clear hw;omega⟩
      .simp -dsimp -implicitDefEqProofs[h2,h3,h4,d,c,he,fin he]
     .refine A1v hB (A0I gl) (λk=>if k=7 then 1 else 0) (λ_=>fb) (by rfl) (by kernel_rfl) ?_;by_cases he:x[i]=y[i]
      .simp -dsimp -implicitDefEqProofs[h2,h3,h4,d,c,he,hw,rb,lb];exact⟨⟨i+1,by clear hw;omega,by simp,g he⟩,by clear hw;omega⟩
      .simp -dsimp -implicitDefEqProofs[h2,h3,h4,d,c,he,fin he,rb,lb]
    .rcases cb with rfl|⟨fb,ob,rb,lb⟩
     .refine A1v hB (A0I gl) (λk=>if k=3 then 1 else 0) (λ_=>fa) (by rfl) (by kernel_rfl) ?_;by_cases he:x[i]=y[i]
      .simp -dsimp -implicitDefEqProofs[h2,h3,h4,d,c,he,hw,ra,la];exact⟨⟨i+1,by clear hw;omega,by simp,g he⟩,by clear hw;omega⟩
      .simp -dsimp -implicitDefEqProofs[h2,h3,h4,d,c,he,fin he,ra,la]
     .refine A1v hB (A0I gl) (λk=>if k=3\/k=7 then 1 else 0) (λk=>if k=3 then fa else fb) (by rfl) (by kernel_rfl) ?_;by_cases he:x[i]=y[i]
      .simp -dsimp -implicitDefEqProofs[h2,h3,h4,d,c,he,hw,ra,la,rb,lb];exact⟨⟨i+1,by clear hw;omega,by simp,g he⟩,by clear hw;omega⟩
      .simp -dsimp -implicitDefEqProofs[h2,h3,h4,d,c,he,fin he,ra,la,rb,lb]
   ·(have h:¬(i:Int)<x.length:=by omega);rw[Z0j (by omega),Z0j (by omega)]at h5
    (have f:¬i<y.length:=by omega);simp -dsimp -implicitDefEqProofs[h2,h3,h4,ha.len,h,f,h5]
 .have j:¬(x.length:Int)=y.length:=by omega
  have:¬x=y:=λe=>hlen (by rw[e]);simp -dsimp -implicitDefEqProofs[ha.len,hb.len,j,hlen,this]
end
def C6h(a b:A1w):Bool:=decide (a.frm=b.frm/\a.at_=b.at_)
def C2a:ByteArray:=⟨#[97,110,100]⟩
def A6W(out:List ByteArray)(s:ByteArray):List ByteArray:=out.set (out.length-1) (out.getD (out.length-1) .empty++s)
section
variable (l:List ByteArray) (old:List A1w) (names:List (List A0G))
def A4S(i:Nat):Bool:=decide (0<i)&&(match old[i-1]?,old[i]? with|some a,some b=>C6h a b|_,_=>false)
def B1l(i:Nat):Bool:=decide (i+1=old.length)||(match old[i+1]?,old[i]? with|some a,some b=>!C6h a b|_,_=>false)
def B4v(i:Nat)(out:List ByteArray)(e:Int):Option (List ByteArray×Int):=match old[i]?,names[i]? with
 |some c,some p=>
  if A4c p=[]\/c.frm<0\/c.at_<=c.frm\/c.at_>l.length\/(A4S old i=false/\c.frm<e)then none else
  let out1:=(if A4S old i then out++[C2a]else out++(l.take c.frm.toNat).drop e.toNat)++A4c p
  some (if B1l old i then A6W out1 (B1M (l.getD (c.at_.toNat-1) .empty))else out1,c.at_)
 |_,_=>none
def B5A:Nat->Nat->List ByteArray->Int->List ByteArray
 |0,_,out,e=>out++l.drop e.toNat
 |n+1,i,out,e=>match B4v l old names i out e with
  |none=>l
  |some r=>B5A n (i+1) r.1 r.2
def A6w:List ByteArray:=if old.length=names.length then B5A l old names old.length 0 [] 0 else l
end
def A5b(p:List A1w):List (List AV):=p.map A1w.row
def A6T(p:List (List A0G)):List (List AV):=p.map λx=>[A8K x]
@[simp] def E0J(p:List A1w):(A5b p).length=p.length:=by simp[A5b]
@[simp] def D8g(p:List (List A0G)):(A6T p).length=p.length:=by simp[A6T]
@[simp] def E0s{p}{i}(h:i<(A5b p).length):(A5b p)[i]=(p[i]'(by simpa using h)).row:=by simp[A5b]
@[simp] def D9J{p}{i}(h:i<(A6T p).length):(A6T p)[i]=[.list 2 (A1L (p[i]'(by simpa using h))) .no]:=by simp[A6T,A1L]
@[simp] def E0C{p}{i}(h:i<(A1c p).length):(A1c p)[i]=[S (p[i]'(by simpa using h))]:=by simp[A1c]
def C7i{p}{n}:(A1c p).take n=A1c (p.take n):=by simp[A1c,Z1w]
def B7Y{p}{n}:(A1c p).drop n=A1c (p.drop n):=by simp[A1c,List.map_drop]
def A4k{g n}(q:Nat×Nat->Bool):∀{b:List (Nat×Nat)},b.lookup g=some n->(b.filter λx=>x.1==g||q x).lookup g=some n
 |[],h=>by simp at h
 |a::l,h=>by
  by_cases c:a.1=g
  ·(have e:(a.1==g||q a)=true:=by simp[c]);rw[Z2Y,Z0d e]
   obtain⟨a1,a2⟩:=a;simp only at c;subst c;simpa[List.lookup]using h
  ·(have hl:l.lookup g=some n:=by obtain⟨a1,a2⟩:=a;(have:(g==a1)=false:=by simpa usingλe=>c e.symm);simpa[List.lookup,this]using h);have ih:=A4k q hl;by_cases e:(a.1==g||q a)=true
   .rw[Z2Y,Z0d e];obtain⟨a1,a2⟩:=a;(have:(g==a1)=false:=by simpa usingλe=>c e.symm);simpa[List.lookup,this]using ih
   .rw[Z2Y,Z0e e];exact ih
def A5q.spot{e:TypeId}{M}{v}{cs}(h:A5q e M v cs){t:TypeId}(ht:A2e prog t=some false)(hs:A1b prog t=some 1){i}(hi:i<cs.length):∃p,A6a (some (some 1)) v (I i)=some p/\A1D prog t M p=some cs[i]/\∀x:AV,x.storable=true->x.cells=[x]->∃M',A0l (some 1) M p x=some M'/\A5q e M' v (cs.set i x)/\A0c (obj v) M M':=by
 rcases h with⟨rfl,hn⟩|⟨f,g,a,rfl,hf,hl⟩
 .subst hn;simp at hi
 .refine⟨_,by simp[hi];rfl,?_,?_⟩
  .simp[A1D,A2L,hf,hl,A0h,ht,hs];rw[Z0l hi,C5q]
  .intro x h1 h2;have b:f<M.length:=(Z0b.1 hf).1;refine⟨_,by simp only[A0l,hf,hl,h1,h2];simp;exact⟨by omega,rfl⟩,.inr ⟨f,g,A1s 1 g i a,by simp,?_,?_⟩,.set _ _ _⟩
   .simp[b,A0d];rw[Z3m,Z0d hi]
   .simp only[Z1l];unfold A1s;exact A4k _ hl
def D4h{C}{N}{c}{Q}{T}{M}{tg}(I:Env->Mem->Prop)(h1:wWp C N c (λe T' M'=>B5W (λT M=>I T M) (λ_ _ _=>False) e T' M' ⟨⟩) T M ⟨⟩)(h2:∀T M,I T M->Q .normal T M):wWp C N c Q T M tg:=AWp.mono h1 λe T M h=>by cases e<;>first|exact h2 T M h|exact h.elim
def D8B(M:Mem):Bld M.length M.length (M++[.cells 116 [.val (.pointer none),.val (.slice none 0 0)]]) .empty:=⟨Z0n _,_,_,by simp,.inl rfl,.inl ⟨rfl,rfl⟩,by simp,λ_=>rfl⟩
def B6y{s}(h:A0X s=true):s.size<=7:=by simp only[A0X,Z0g,Z0m]at h;omega
def B6o{p}:∀w∈A4c p,w.size<=16:=by
 intro w hw;unfold A4c at hw;split at hw
 .rename_i h;have hg:=Z0p.1 (C0Z h);simp only[A8v,Z2z]at hw;obtain⟨s,hs,hw⟩:=hw;unfold A5j at hw;split at hw
  .simp only[Z1k]at hw;subst hw;decide
  .rename_i hb;(have hn:A1N s=true:=by have:=hg s hs;simpa[A7H,hb]using this);simp only[A1N,Z0g,Z0m]at hn;simp only[Z0u,Z2p,Z3F]at hw;rcases hw with rfl|rfl
   ·(have:∀k:Fin 8,(A1x.getD k.val ⟨#[]⟩).size<=16:=by decide);exact this ⟨s.k.toNat,by omega⟩
   .have:=B6y hn.2;omega
 .simp at hw
def B3U(s:ByteArray):(B1M s).size<=1:=by
 unfold B1M;split
 .decide
 .split
  .simp;omega
  .decide
def A5q.keepLow{e:TypeId}{M M'}{v}{cs}(h:A5q e M v cs){n}(hk:A0W n M M')(hn:∀f,obj v=some f->f<n):A5q e M' v cs:=by
 rcases h with⟨rfl,h⟩|⟨f',g,a,rfl,hm,hl⟩
 .exact .inl ⟨rfl,h⟩
 .exact .inr ⟨f',g,a,rfl,hk.get (hn _ rfl) hm,hl⟩
def C6q{xs ys:List ByteArray}(h:ys≠[]):(xs++ys).getD ((xs++ys).length-1) .empty∈ys:=by
 have hp:0<ys.length:=Z2k.2 h;have a:(xs++ys).length-1<(xs++ys).length:=by simp;omega
 simp only[Z1v,Z0k a,Z1B];rw[Z3d (by simp;omega)];exact Z0y _
def C2R{out}{s}:(A6W out s).map S=(out.map S).set (out.length-1) (S (out.getD (out.length-1) .empty++s)):=by simp[A6W,List.map_set]
def hX:A2r:=⟨λ_=>true,λ_=>false,λd=>d==81||d==88||d==91||d==135⟩
@[simp] def E5D:hX.own=λ_=>false:=rfl
@[simp] def E6I:hX.vec=λd=>d==81||d==88||d==91||d==135:=rfl
section
variable (gl:Nat->AV) (M:Mem)
set_option maxHeartbeats 4000000 in
def C8N(l:List ByteArray)(old:List A1w)(names:List (List A0G))(o1 o2 o3:Own)(hl:l.length<=1000)(cb:∀s∈l,s.size<=maxLen)(ho:old.length<=20000)(hn:∀p∈names,C7S p):A0e (WC gl) 18 [.list 1 (A1c l) o1,.list 5 (A5b old) o2,.list 1 (A6T names) o3] M (A4l M (A6w l old names)):=by
 refine A0m hX func18 ?_
 by_cases hlen:old.length=names.length
 case neg=>
  have a5:¬(old.length:Int)=names.length:=by omega
  simp -dsimp -implicitDefEqProofs[a5];refine A0r func59 (C6G gl M l o1 (by omega)) ?_;intro v M' h;simp -dsimp -implicitDefEqProofs[A6w,hlen,h]
 have a5:(old.length:Int)=names.length:=by omega
 have c3:A6w l old names=B5A l old names old.length 0 [] 0:=by rw[A6w,Z0d hlen]
 rw[c3]
 simp -dsimp -implicitDefEqProofs[a5,hlen]
 refine A0F hX old.length 23 (λT M1=>∃(i:Nat) (d:List ByteArray) (e:Int),i<=old.length/\A4l M d (T 7) M1/\T 0=.list 1 (A1c l) o1/\T 1=.list 5 (A5b old) o2/\T 2=.list 1 (A6T names) o3/\T 8=I e/\0<=e/\e<=l.length/\T 21=.list 5 (A5b old) o2/\T 22=I old.length/\T 23=I i/\d.length<=i*1200/\B5A l old names old.length 0 [] 0=B5A l old names (old.length-i) i d e) ?_ ?_
 .refine⟨0,[],0,?_⟩;simp -dsimp -implicitDefEqProofs[A4l,A5q,A0c.refl,A1m,hlen]
 .rintro T M1 ⟨i,d,e,h1,h2,h3,h4,h5,h6,h7,h8,h9,ag,a7,cr,ar⟩;generalize aj:T 7=ov at h2;by_cases hi:i<old.length
  ·(have au:(i:Int)<old.length:=by omega);have b7:i<names.length:=by omega
   (have bf:(i:Int)<names.length:=by omega);have hw:IntKind.i64.wrap ((i:Int)+1)=(i+1:Nat):=by rw[A0Z (by omega) (by omega)];omega
   (have c0:(M1++[A0j.cells 110 old[i].row])[M1.length]?=some (A0j.cells 110 old[i].row):=by simp);have hp:=hn names[i] (Z0y b7)
   (have a1:B5A l old names (old.length-i) i d e=match B4v l old names i d e with|none=>l|some r=>B5A l old names (old.length-(i+1)) (i+1) r.1 r.2:=by rw[show old.length-i=(old.length-(i+1))+1 by omega];rfl);have ai:old[i]?=some old[i]:=Z0k hi
   have bl:names[i]?=some names[i]:=Z0k b7;simp -dsimp -implicitDefEqProofs[h3,h4,h5,h6,h9,ag,a7,hi,au,b7,bf,A0k,A0l,A0d,A1w.row];refine A0r func60 (C8O gl _ names[i] .no hp.1) ?_;intro w M2 a2;have a4:=a2.2.1.get c0 (by simp);have ad:Grow M M2:=(h2.2.1.trans (.app none M1 _)).trans a2.2.1;have c4:A4S old i=(decide (0<i)&&(match old[i-1]?,old[i]? with|some a,some b=>C6h a b|_,_=>false)):=rfl;simp -dsimp -implicitDefEqProofs;refine D4h (λT M=>M=M2/\T 0=.list 1 (A1c l) o1/\T 1=.list 5 (A5b old) o2/\T 2=.list 1 (A6T names) o3/\T 7=ov/\T 8=I e/\T 9=I i/\T 10=.ptr M1.length 0/\T 11=w/\T 12=B (A4S old i)/\T 21=.list 5 (A5b old) o2/\T 22=I old.length/\T 23=I i) ?_ ?_
   .refine A1v hX (A0I gl) (λk=>if k=8 then 1 else 0) (λ_=>M1.length) (by rfl) (by kernel_rfl) ?_;by_cases i0:i=0
    .subst i0;simp -dsimp -implicitDefEqProofs[h3,h4,h5,h6,h9,ag,a7,aj,A4S]
    ·(have br:(0:Int)<i:=by omega);have ao:0<i:=by omega
     (have ca:IntKind.i64.wrap ((i:Int)-1)=(i-1:Nat):=by rw[A0Z (by omega) (by omega)];omega);have bm:i-1<old.length:=by omega
     (have bj:((i-1:Nat):Int)<old.length:=by omega);have cc:A4S old i=C6h old[i-1] old[i]:=by rw[c4,ai,Z0k bm];simp[ao]
     rw[cc];simp -dsimp -implicitDefEqProofs[h3,h4,h5,h6,h9,ag,a7,aj,br,ao,ca,bm,bj,A0b a4,A1w.row];refine C2C (r:=B (C6h old[i-1] old[i])) (λM=>A1T func61 rfl rfl (C9j gl M old[i-1] old[i])) ?_;simp -dsimp -implicitDefEqProofs[h3,h4,h5,h6,h9,ag,a7,aj]
   .rintro T2 a3 ⟨rfl,k1,k2,k3,k4,k5,k6,k7,k8,k9,q,u,y⟩;(have a6:A1V prog 37 w=some (A4c names[i]).length:=by rw[a2.1.len (e:=9) (by simp)];simp);by_cases hbad:A4c names[i]=[]\/old[i].frm<0\/old[i].at_<=old[i].frm\/old[i].at_>l.length\/(A4S old i=false/\old[i].frm<e)
    ·(have bx:B4v l old names i d e=none:=by simp only[B4v,ai,bl];rw[Z0d hbad]);have bk:B5A l old names old.length 0 [] 0=l:=by rw[ar,a1,bx]
     rw[bk];(have ae:∀(K:AV->Mem->Prop) (tg:Tag K),(∀v M',A4l M l v M'->K v M')->B7k (WC gl) 59 [.list 1 (A1c l) o1] a3 K tg:=by intro K tg hk;exact A0r func59 (C6G gl a3 l o1 (by omega)) λv M' h=>hk v M' (B8z ad h));by_cases b1:A4c names[i]=[]
     .simp -dsimp -implicitDefEqProofs[a6,b1,k1,k2,k3,k4,k5,k6,k7,k8,k9,q,u,y];refine ae _ _ λv M' h=>?_;simp -dsimp -implicitDefEqProofs[h]
     have az:¬(A4c names[i]).length=0:=λe=>b1 (Z0s e);(have cj:¬((A4c names[i]).length:Int)=0:=by omega);by_cases b2:old[i].frm<0
     .simp -dsimp -implicitDefEqProofs[a6,b1,b2,k1,k2,k3,k4,k5,k6,k7,k8,k9,q,u,y,A0b a4,A1w.row];refine ae _ _ λv M' h=>?_;simp -dsimp -implicitDefEqProofs[h]
     by_cases b3:old[i].at_<=old[i].frm
     .simp -dsimp -implicitDefEqProofs[a6,b1,b2,b3,k1,k2,k3,k4,k5,k6,k7,k8,k9,q,u,y,A0b a4,A1w.row];refine ae _ _ λv M' h=>?_;simp -dsimp -implicitDefEqProofs[h]
     by_cases b4:old[i].at_>l.length
     .have ab:(l.length:Int)<old[i].at_:=b4;simp -dsimp -implicitDefEqProofs[a6,b1,b2,b3,b4,ab,k1,k2,k3,k4,k5,k6,k7,k8,k9,q,u,y,A0b a4,A1w.row];refine ae _ _ λv M' h=>?_;simp -dsimp -implicitDefEqProofs[h]
     have b5:A4S old i=false/\old[i].frm<e:=by
      rcases hbad with h|h|h|h|h
      .exact absurd h b1
      .exact absurd h b2
      .exact absurd h b3
      .exact absurd h b4
      .exact h
     have ab:¬(l.length:Int)<old[i].at_:=b4;simp -dsimp -implicitDefEqProofs[a6,b1,b2,b3,b4,ab,b5.1,b5.2,k1,k2,k3,k4,k5,k6,k7,k8,k9,q,u,y,A0b a4,A1w.row];refine ae _ _ λv M' h=>?_;simp -dsimp -implicitDefEqProofs[h]
    .have av:=hbad;simp only[Z2L,not_and]at hbad;obtain⟨b1,b2,b3,b4,b5⟩:=hbad;have az:¬(A4c names[i]).length=0:=λe=>b1 (Z0s e);have ab:¬(l.length:Int)<old[i].at_:=b4;(have g2:0<=old[i].frm:=by omega);(have g3:old[i].frm<=l.length:=by omega);(have cq:old[i].frm.toNat<=l.length:=by omega);obtain⟨g,a8⟩:∃g,g=if A4S old i=true then[C2a]else(l.take old[i].frm.toNat).drop e.toNat:=⟨_,rfl⟩;have bw:B4v l old names i d e=some (if B1l old i=true then A6W (d++g++A4c names[i]) (B1M (l.getD (old[i].at_.toNat-1) .empty))else d++g++A4c names[i],old[i].at_):=by
      (have hm:(if A4S old i=true then d++[C2a]else d++(l.take old[i].frm.toNat).drop e.toNat)=d++g:=by rw[a8];split<;>rfl);simp only[B4v,ai,bl]
      rw[Z0e av,hm]
     rw[bw]at a1;simp only at a1;(have g1:1<=old[i].at_:=by omega);(have g4:0<=old[i].at_:=by omega);(have g7:old[i].at_<=l.length:=by omega);have c5:g.length<=1000:=by
      rw[a8];split
      .simp
      .simp;omega
     have ba:A5q 9 a3 w ((A4c names[i]).map S):=a2.1;have bg:A5q 9 a3 ov (d.map S):=h2.1.keep ((A0c.app none M1 _).trans a2.2.1) (by simp);(have ch:M1.length<a3.length:=by have:=a2.2.1.1;simp at this;omega);(have an:obj ov≠some M1.length:=λe=>by have:=h2.1.lt e;omega);(have co:obj w≠some M1.length:=λe=>by have:=a2.2.2 _ e;simp at this;omega);(have bo:∀f,obj w=some f->obj ov≠some f:=λf e1 e2=>by have:=a2.2.2 _ e1;have:=h2.1.lt e2;simp at*;omega);have bc:∀f,obj w=some f->f<a3.length:=λf e1=>ba.lt e1;have mk:∀v3 M3,A5q 9 M3 v3 (d.map S++g.map S)->A0c (obj ov) a3 M3->(obj v3=obj ov\/A1m a3.length v3)->
      A4l M (d++g) v3 M3/\A5q 9 M3 w ((A4c names[i]).map S)/\M3[M1.length]?=some (A0j.cells 110 old[i].row)/\obj v3≠some M1.length/\(∀f,obj w=some f->obj v3≠some f):=by
      intro v3 M3 q1 q2 q3
      refine⟨?_,ba.keep q2 bo,q2.get a4 an,?_,?_⟩
      .refine⟨by simpa using q1,⟨by have:=ad.1;have:=q2.1;omega,λj hj _=>?_⟩,λf hf=>?_⟩
       .rw[q2.2 j (by have:=ad.1;omega) λe=>by have:=h2.2.2 _ e;omega];exact ad.2 j hj (by simp)
       .rcases q3 with e|e
        .exact h2.2.2 f (by rw[<-e];exact hf)
        .have:=e f hf;have:=ad.1;omega
      .intro e1;rcases q3 with e|e
       .exact an (by rw[<-e];exact e1)
       .have:=e _ e1;omega
      .intro f e1 e2;rcases q3 with e|e
       .exact bo f e1 (by rw[<-e];exact e2)
       .have:=e _ e2;have:=bc f e1;omega
     cases hA:A4S old i;case' false=>
      (have g5:e<=old[i].frm:=by have:=b5 hA;omega);have cp:0<=e/\e<=old[i].frm/\old[i].frm<=l.length:=⟨h7,g5,g3⟩
      (have g6:¬old[i].frm<e:=by omega);have hm:g=(l.take old[i].frm.toNat).drop e.toNat:=by rw[a8,hA];rfl
      rw[hA]at k9;simp -dsimp -implicitDefEqProofs[a6,b1,az,b2,b3,b4,ab,g6,k1,k2,k3,k4,k5,k6,k7,k8,k9,q,u,y,A0b a4,A1w.row,h7,g5,g3];(have ay:List.drop e.toNat (List.take old[i].frm.toNat (A1c l))=A1c g:=by rw[C7i,B7Y,hm]);rw[ay];refine push (C:=WC gl) (e:=9) A8j B0S B8l bg (news:=g.map S) (m:=g.length) (D9F _ _ _) (by simp) (by simp;omega) rfl ?_;intro v3 M3 q1 q2 q3 _;obtain⟨aw,bi,b8,bh,b9⟩:=mk v3 M3 q1 q2 q3;simp -dsimp -implicitDefEqProofs
     case' true=>
      (have hm:g=[C2a]:=by rw[a8,hA];rfl);rw[hA]at k9
      simp -dsimp -implicitDefEqProofs[a6,b1,az,b2,b3,b4,ab,k1,k2,k3,k4,k5,k6,k7,k8,k9,q,u,y,A0b a4,A1w.row,A0q,A1f];refine push (C:=WC gl) (e:=9) A8j B0S B8l bg (news:=[C2a].map S) (m:=1) rfl rfl (by simp;omega) rfl ?_;rw[<-hm];intro v3 M3 q1 q2 q3 _;obtain⟨aw,bi,b8,bh,b9⟩:=mk v3 M3 q1 q2 q3;simp -dsimp -implicitDefEqProofs
     all_goals
      refine B9R hX (A0I gl) (λk=>if k=2 then 2 else if k=4 then 1 else 0) M1.length (by rfl) (by kernel_rfl) ?_
      have cn:=C1N names[i]
      have c2:A0A M3 1 w=some ((A4c names[i]).map S,(A4c names[i]).length):=by rw[bi.src];simp
      simp -dsimp -implicitDefEqProofs[k1,k2,k3,k4,k5,k6,k7,k8,k9,q,u,y]
      refine push (C:=WC gl) (e:=9) A8j B0S B8l aw.1 (news:=(A4c names[i]).map S) (m:=(A4c names[i]).length) c2 (by simp) (by simp;omega) rfl ?_
      intro v4 M4 r1 r2 r3 _
      have z:=B0i (X:=[]) aw r1 (by simpa using r2) (by simpa using r3)
      have ac:=r2.get b8 bh
      refine⟨by rw[ac,b8],?_⟩
      simp -dsimp -implicitDefEqProofs[A0b ac,A1w.row,k1,k2,k3,k4,k5,k6,k7,k8,k9,q,u,y]
      refine D4h (λT M=>M=M4/\T 0=.list 1 (A1c l) o1/\T 1=.list 5 (A5b old) o2/\T 2=.list 1 (A6T names) o3/\T 7=v4/\T 8=I old[i].at_/\T 10=.ptr M1.length 0/\T 108=B (B1l old i)/\T 21=.list 5 (A5b old) o2/\T 22=I old.length/\T 23=I i) ?_ ?_
      .refine A1v hX (A0I gl) (λk=>if k=11 then 1 else 0) (λ_=>M1.length) (by rfl) (by kernel_rfl) ?_;by_cases il:i+1=old.length
       ·(have ak:((i+1:Nat):Int)=old.length:=by omega);have b6:B1l old i=true:=by simp[B1l,il]
        simp -dsimp -implicitDefEqProofs[k1,k2,k3,k4,k5,k6,k7,k8,k9,q,u,y,hw,ak,b6]
       ·(have ak:¬((i+1:Nat):Int)=old.length:=by omega);have bn:i+1<old.length:=by omega
        (have c8:((i+1:Nat):Int)<old.length:=by omega);have cg:(0:Int)<=((i+1:Nat):Int):=by omega
        (have cd:((i+1:Nat):Int).toNat=i+1:=by omega);have b6:B1l old i=!C6h old[i+1] old[i]:=by simp[B1l,il,ai,Z0k bn]
        rw[b6];generalize hj:((i+1:Nat):Int)=j at*;simp -dsimp -implicitDefEqProofs[k1,k2,k3,k4,k5,k6,k7,k8,k9,q,u,y,hw,ak,bn,c8,cg,cd,A0b ac,A1w.row];refine C2C (r:=B (C6h old[i+1] old[i])) (λM=>A1T func61 rfl rfl (C9j gl M old[i+1] old[i])) ?_;simp -dsimp -implicitDefEqProofs[k1,k2,k3,k4,k5,k6,k7,k8,k9,q,u,y,ak]
      .rintro T3 o ⟨rfl,j1,j2,j3,j4,j5,j6,j7,j8,j9,j10⟩;have a0:=ar.trans a1;(have bv:(d++g++A4c names[i]).length<=(i+1)*1200:=by simp;omega);cases hE:B1l old i
       .rw[hE]at j7 a0;simp -dsimp -implicitDefEqProofs[j1,j2,j3,j4,j5,j6,j7,j8,j9,j10,hw,a7,A0b ac];exact⟨⟨i+1,by clear hw;omega,_,z,g4,g7,by simp,bv,by simpa using a0⟩,by clear hw;omega⟩
       .rw[hE]at j7 a0;simp only[Z0F]at a0;have bp:((d++g++A4c names[i]).getD ((d++g++A4c names[i]).length-1) .empty).size<=16:=B6o _ (C6q b1);(have ck:0<(d++g++A4c names[i]).length:=by simp;omega);generalize d++g++A4c names[i]=c at*;(have aq:A1V prog 37 v4=some c.length:=by rw[z.1.len (e:=9) (by simp)];simp);have ax:M1.length<o.length:=(Z0b.1 ac).1;have bd:∀f,obj v4=some f->f<o.length:=λf hf=>z.1.lt hf;(have ci:c.length<=100000000:=by omega);(have al:IntKind.i64.wrap ((c.length:Int)-1)=(c.length-1:Nat):=by rw[A0Z (by omega) (by omega)];omega);have c7:=D8B o;have am:A0W o.length o (o++[A0j.cells 116 [AV.val (Value.pointer none),AV.val (Value.slice none 0 0)]]):=⟨by simp,λj hj=>Z0h hj⟩;(have be:c.length-1<c.length:=by omega);obtain⟨sp,s1,s2,-⟩:=(z.1.keepLow am bd).spot (t:=9) E2V sz9 (i:=c.length-1) (by simp;omega);(have b0:c.getD (c.length-1) .empty=c[c.length-1]:=by simp[be]);simp only[Z2b,<-b0]at s2;generalize c9:c.getD (c.length-1) .empty=a9 at*;simp -dsimp -implicitDefEqProofs[j1,j2,j3,j4,j5,j6,j7,j8,j9,j10,hw,A0k,aq,al,s1,s2];refine A0r func62 (C6e gl _ o.length o.length .empty a9 c7 (by simp;omega) (by simp)) ?_;rintro r6 M6 ⟨c1,bz⟩;have af:=am.trans bz;have bt:=af.get ax ac;(have g8:old[i].at_.toNat-1<l.length:=by omega);(have g9:old[i].at_-1<l.length:=by omega);have cf:IntKind.i64.wrap (old[i].at_-1)=old[i].at_-1:=A0Z (by omega) (by omega);(have bu:l.getD (old[i].at_.toNat-1) .empty=l[old[i].at_.toNat-1]:=by simp[g8]);simp -dsimp -implicitDefEqProofs[j1,j2,j3,j4,j5,j6,j7,j8,j9,j10,A0b bt,A1w.row,cf,g1,g9,g8];refine A0r func63 (D6e gl M6 l[old[i].at_.toNat-1] (cb _ (Z0y g8))) ?_;rintro r7 cm ⟨rfl,rfl⟩;rw[bu]at a0;have cs:=B3U l[old[i].at_.toNat-1];generalize B1M l[old[i].at_.toNat-1]=ah at*;simp -dsimp -implicitDefEqProofs;refine A0r func62 (C6e gl _ o.length o.length (.empty++a9) ah c1 (by simp;omega) af.1) ?_;rintro r7 M7 ⟨ce,bs⟩;have ap:=af.trans bs;simp -dsimp -implicitDefEqProofs[j1,j2,j3,j4,j5,j6,j7,j8,j9,j10,aq,al];refine A0r func64 (D0L gl _ o.length o.length (.empty++a9++ah) ce (by simp;omega) ap.1) ?_;rintro r8 M8 ⟨rfl,c6⟩;have aa:=ap.trans c6;obtain⟨ct,t1,-,t3⟩:=(z.1.keepLow aa bd).spot (t:=9) E2V sz9 (i:=c.length-1) (by simp;omega);obtain⟨M9,t4,t5,t6⟩:=t3 (S (a9++ah)) rfl rfl;have bq:A4l M (A6W c ah) v4 M9:=by
         refine⟨by rw[C2R,c9];simpa using t5,⟨?_,λj hj _=>?_⟩,z.2.2⟩
         .have:=z.2.1.1;have:=aa.1;have:=t6.1;omega
         .have:=z.2.1.1;rw[t6.2 j (by have:=aa.1;omega) λe=>by have:=z.2.2 _ e;omega,aa.2 j (by omega)];exact z.2.1.2 j hj (by simp)
        (have bb:(A6W c ah).length<=(i+1)*1200:=by simp[A6W];omega);simp -dsimp -implicitDefEqProofs[t1,t4,j1,j2,j3,j4,j5,j6,j7,j8,j9,j10,hw,a7]
        exact⟨⟨i+1,by clear hw;omega,_,bq,g4,g7,by simp,bb,by simpa using a0⟩,by clear hw;omega⟩
  ·(have au:¬(i:Int)<old.length:=by omega);rw[ar,show old.length-i=0 by omega]
   simp -dsimp -implicitDefEqProofs[h3,h6,ag,a7,au,aj,h7,h8];have ay:List.drop e.toNat (A1c l)=A1c (l.drop e.toNat):=B7Y;rw[ay];refine push (C:=WC gl) (e:=9) A8j B0S B8l h2.1 (news:=(l.drop e.toNat).map S) (m:=(l.drop e.toNat).length) (D9F _ _ _) (by simp) (by simp;omega) rfl ?_;intro v' M' q1 q2 q3 _;have hf:=B0i (X:=[]) h2 q1 (by simpa using q2) (by simpa using q3);simp -dsimp -implicitDefEqProofs[B5A,hf]
end
def hY:A2r:=⟨λ_=>true,λ_=>false,λd=>d==19||d==95||d==102||d==105||d==158⟩
@[simp] def E5B:hY.own=λ_=>false:=rfl
@[simp] def E5R:hY.vec=λd=>d==19||d==95||d==102||d==105||d==158:=rfl
section
variable (gl:Nat->AV) (M:Mem)
end
structure A1P where
 at_:IdD
 n:Int
 to:List IdD
def A1P.row(m:A1P):List AV:=[I m.at_.act,I m.at_.item,I m.at_.n,I m.n,.list 3 (m.to.map IdD.row) .no]
def D2S(s:List A1P)(id:IdD)(n:Int):List IdD:=match s.find? λm=>decide (m.at_=id)&&decide (m.n=n)with
 |some m=>m.to
 |none=>[]
section
variable (F:IdD->Option A0a) (l:List A0Q) (s:List A1P)
def A5w:Nat->Int->List A0G
 |0,_=>[A3o]
 |f+1,n=>if n<0 then[A3o]else A5w f (A2w l n)++[⟨A4L F l n,A9I l n.toNat⟩]
def A2K(id:IdD)(n:Int):List (List A0G):=if(D2S s id n).all λy=>(A2U l y).isSome then(D2S s id n).map λy=>A5w F l ((A2U l y).getD 0+1) ((A2U l y).getD 0:Nat)else[]
end
section
variable (cs:List A1w) (nm:Nat->List (List A0G))
def A8n(i:Nat):List A1w:=(List.range i).flatMap λn=>match cs[n]? with
 |some c=>(nm n).map λ_=>c
 |none=>[]
def B0P(i:Nat):List (List A0G):=(List.range i).flatMap nm
def A7d(i:Nat):List A1w:=(List.range i).flatMap λn=>match cs[n]? with
 |some c=>if nm n=[]then[c]else(nm n).map λp=>⟨0,p,⟨#[]⟩,0,0⟩
 |none=>[]
end
def B2y(a b:A1w):Bool:=decide (a.k=b.k)&&decide (a.to=b.to)&&decide (a.path.map (λs=>(s.k,s.lab))=b.path.map (λs=>(s.k,s.lab)))
def B5s(a b:List A1w):Bool:=decide (a.length=b.length)&&(a.zip b).all λx=>B2y x.1 x.2
def A7L(t:ByteArray):A0M:=⟨t,0,0,0⟩
def A9f(a b:Int):Int:=if b=6\/a=0 then b else a
section
variable (F:IdD->Option A0a) (l:List A0Q) (s:List A1P)
def A7o(x:A0a):List ByteArray×Bool:=
 let cs:=A3c (A0H x.words) 0
 let nm:=λn:Nat=>A2K F l s x.id n
 let out:=A6w (A0H x.words) (A8n cs nm cs.length) (B0P nm cs.length)
 (out,B5s (A3c out 0) (A7d cs nm cs.length))
def C9P:A0a:=.mk idZ 0 ⟨#[]⟩ [] [] []
def A3J(n:Nat):A0a:=match l[n]? with
 |some x=>(F x.id).getD C9P
 |none=>C9P
def C0a(w:List ByteArray×Bool):Int:=if 256<w.1.length then 6 else if w.2 then 0 else 2
def A2l:Nat->Nat->A0a×List IdD×Int
 |0,_=>(C9P,[],0)
 |f+1,n=>
  let x:=A3J F l n
  let w:=A7o F l s x
  let ks:=(A3T l n l.length).map (A2l f)
  (.mk idZ x.kind (A9I l n) (x.head.map λh=>A7L h.text) (w.1.map A7L) (ks.map (·.1)),x.id::ks.flatMap (·.2.1),ks.foldl (λe k=>A9f e k.2.2) (C0a w))
def A9J:∀f n,(A2l F l s f n).2.1=(A4s (λk=>A2w l k) l.length f n).map λk=>(A3J F l k).id
 |0,n=>rfl
 |f+1,n=>by rw[A2l,A4s,Z0t];simp only;congr 1;rw[List.map_flatMap];have e:A3T l n l.length=chL (λk=>A2w l k) l.length n:=rfl;rw[e,Z3s];congr 1;funext k;exact A9J f k
end
def A4X(number:Int):List (List IdD)->Nat->List (IdD×IdD)
 |[],_=>[]
 |ids::r,j=>(ids.zipIdx.map λx=>(x.1,(⟨number,j,(x.2:Int)+1⟩:IdD)))++A4X number r (j+1)
def C2z{α:Type}:∀(l:List α) (k:Nat),(l.zipIdx k).map Prod.fst=l
 |[],_=>rfl
 |a::l,k=>by rw[List.zipIdx_cons,Z0t,C2z l (k+1)]
def B2R(a:Int):∀ts j,(A4X a ts j).map (·.1)=ts.flatMap id
 |[],j=>rfl
 |ids::r,j=>by
  rw[A4X,Z0S,B2R a r (j+1),Z1a];congr 1;rw[Z1G];have:((λx:IdD×IdD=>x.1)∘λx:IdD×Nat=>(x.1,(⟨a,(j:Int),(x.2:Int)+1⟩:IdD)))=Prod.fst:=by funext x;rfl
  rw[this];exact C2z ids 0
section
variable {F:IdD->Option A0a} {l:List A0Q} {s:List A1P}
def A2T(l:List A0Q):List Nat:=A3T l (-1) l.length
def A1G(F:IdD->Option A0a)(l:List A0Q)(s:List A1P):List (A0a×List IdD×Int):=(A2T l).map (A2l F l s l.length)
def C1e:(A1G F l s).flatMap (·.2.1)=(A9Y (λk=>A2w l k) l.length).map λk=>(A3J F l k).id:=by unfold A1G A9Y A2T;rw[Z3s,List.map_flatMap];have e:A3T l (-1) l.length=chL (λk=>A2w l k) l.length (-1):=rfl;rw[e];congr 1;funext k;exact A9J F l s l.length k
def D0z{u}(d:∀j,j<l.length->-1<=A2w l j/\A2w l j<j)(c:∀k,(h:k<l.length)->(A3J F l k).id=l[k].id)(hn:(l.map A0Q.id).Nodup)(hu:(A0V u).Nodup)
 (f:∀x∈l,x.id∈(A0V u).tail)(i:l.length=(A0V u).tail.length):
 ((A1G F l s).flatMap (·.2.1)).Nodup/\∀x,x∈(A1G F l s).flatMap (·.2.1)<->x∈(A0V u).tail:=by
 obtain⟨h1,h2⟩:=B1y (par:=λk=>A2w l k) (N:=l.length) (λj hj=>d j hj)
 rw[C1e]
 have hm:∀x,x∈(A9Y (λk=>A2w l k) l.length).map (λk=>(A3J F l k).id)<->x∈l.map A0Q.id:=by
  intro x;simp only[Z0H];constructor
  .rintro⟨k,hk,rfl⟩;have:=(h2 k).1 hk;exact⟨l[k],Z0y this,(c k this).symm⟩
  .rintro⟨y,hy,rfl⟩;obtain⟨k,hk,rfl⟩:=Z3b hy;exact⟨k,(h2 k).2 hk,c k hk⟩
 refine⟨?_,λx=>?_⟩
 .unfold List.Nodup;rw[Z3P];refine Z2N ?_ h1;intro a b ha hb g e;have ha:=(h2 a).1 ha;have hb:=(h2 b).1 hb;rw[c a ha,c b hb]at e;have hp:=Z2s.1 hn;rcases Nat.lt_or_gt_of_ne g with h|h
  .exact hp a b (by simpa using ha) (by simpa using hb) h (by simpa using e)
  .exact hp b a (by simpa using hb) (by simpa using ha) h (by simpa using e.symm)
 .rw[hm];constructor
  .intro h;obtain⟨y,hy,rfl⟩:=Z0H.1 h;exact f y hy
  .refine D7b hn (λy hy=>?_) (by rw[Z0R];omega) x;obtain⟨z,hz,rfl⟩:=Z0H.1 hy;exact f z hz
end
def D5D(u:A0a):Bool:=if u.kind=0 then decide (u.label.size=0)&&decide (u.head.length=0)&&decide (u.words.length=0)else decide (0<u.kind/\u.kind<=7)&&A0X u.label&&A5F u.head&&A5F u.words
mutual
def D8Q(d:Nat):A0a->Bool
 |.mk id k l h w ks=>!decide (8<d)&&!(decide (0<d)&&decide (k=0))&&D5D (.mk id k l h w ks)&&decide (ks.length<=64)&&D4Z k d ks []
def D4Z(kind:Int)(d:Nat):List A0a->List A0a->Bool
 |[],_=>true
 |k::ks,before=>A4v kind k.kind&&D8Q (d+1) k&&!(before.any λa=>A7l a k)&&D4Z kind d ks (before++[k])
end
def B6G(t:ByteArray):ByteArray:=if A1I t 0=124\/A1I t 0=92 then⟨#[92]⟩++t else t
def B0V(s:ByteArray)(ws:List A0M):ByteArray:=ws.foldl (λs w=>s++⟨#[32]⟩++B6G w.text) s
def C4q(a b c:ByteArray):a++b++c=a++(b++c):=by apply ByteArray.ext;simp[ByteArray.data_append,Array.append_assoc]
def B4A:Nat->ByteArray
 |0=>⟨#[]⟩
 |d+1=>B4A d++⟨#[32,32]⟩
def A9q:List ByteArray:=[⟨#[98,111,111,107]⟩,⟨#[112,97,114,116]⟩,⟨#[115,101,99,116,105,111,110]⟩,⟨#[112,97,114,97,103,114,97,112,104]⟩,⟨#[116,97,98,108,101]⟩,⟨#[114,111,119]⟩,⟨#[99,101,108,108]⟩,⟨#[110,111,116,101]⟩]
def B2C(u:A0a)(d:Nat):ByteArray:=B4A d++A9q.getD u.kind.toNat ⟨#[]⟩
def A8r(u:A0a)(d:Nat):ByteArray:=if u.kind=0 then B2C u d else B2C u d++(⟨#[32]⟩++u.label)
def A7b(u:A0a)(d:Nat):ByteArray:=if u.head.length=0 then A8r u d else B0V (A8r u d++⟨#[58]⟩) u.head
def A6B(u:A0a)(d:Nat):ByteArray:=if u.words.length=0 then A7b u d else B0V (A7b u d++⟨#[32,124]⟩) u.words
mutual
def A5T(d:Nat):A0a->List ByteArray
 |.mk id k l h w ks=>A6B (.mk id k l h w ks) d::A5W (d+1) ks
def A5W(d:Nat):List A0a->List ByteArray
 |[]=>[]
 |k::ks=>A5T d k++A5W d ks
end
def A6u(l:List ByteArray):Nat:=(l.map λs=>s.size+1).foldr (·+·) 0
@[simp] def D8q:A6u []=0:=rfl
@[simp] def B1n(s:ByteArray)(l:List ByteArray):A6u (s::l)=s.size+1+A6u l:=rfl
def C7x(a b:List ByteArray):A6u (a++b)=A6u a+A6u b:=by
 induction a with
 |nil=>simp
 |cons s a ih=>simp[ih];omega
def D4A(t:ByteArray):(B6G t).size<=t.size+1:=by
 have e:(⟨#[92]⟩:ByteArray).size=1:=rfl;unfold B6G;split
 .rw[Z0E,e];omega
 .omega
def A9v:∀(ws:List A0M) (s:ByteArray),(∀w∈ws,w.text.size<=24)->(B0V s ws).size<=s.size+26*ws.length
 |[],s,_=>by simp[B0V]
 |w::ws,s,h=>by have h1:=A9v ws (s++⟨#[32]⟩++B6G w.text) λx hx=>h x (by simp[hx]);have h2:=h w (by simp);have h3:=D4A w.text;have e:B0V s (w::ws)=B0V (s++⟨#[32]⟩++B6G w.text) ws:=rfl;have e2:(⟨#[32]⟩:ByteArray).size=1:=rfl;rw[e];simp only[Z0E,Z0v,e2]at h1|-;omega
def B3j:∀d,(B4A d).size=2*d
 |0=>rfl
 |d+1=>by have e2:(⟨#[32,32]⟩:ByteArray).size=2:=rfl;rw[B4A,Z0E,B3j d,e2];omega
def A3e(l:List ByteArray)(p:ByteArray->Bool)(at_:Nat)(en:Bool):Option ByteArray×Nat×Bool:=
 if en=true then(none,at_,en)else match l[at_]? with
 |none=>(none,at_,en)
 |some s=>if p s=true then(some s,at_+1,false)else if s.size=0 then(none,at_,false)else if A5l (A1I s (s.size-1))=false then(none,at_,false)else if p (s.extract 0 (s.size-1))=true then(some (s.extract 0 (s.size-1)),at_+1,true)else(none,at_,false)
def B3l(p:ByteArray->Bool):Prop:=∀s,p s=true->A4i s=true
def B1t{l}{p:ByteArray->Bool}{a}{en}(h:A1a l a en=[]):A3e l p a en=(none,a,en):=by
 unfold A3e;by_cases c:en=true
 .rw[Z0d c]
 .rw[Z0e c];by_cases e:a<l.length
  ·(have:en=false:=by simpa using c);subst this
   rw[C9k e]at h;exact absurd h (by simp)
  .rw[Z1c (by omega)]
def A9o{l}{p:ByteArray->Bool}(hp:B3l p){a}{en}{t}{r}(h:A1a l a en=t::r):a<l.length/\en=false/\((p t=true/\∃en',A3e l p a en=(some t,a+1,en')/\A1a l (a+1) en'=r)\/(p t=false/\A3e l p a en=(none,a,false))):=by
 have he:en=false:=by
  cases en with
  |false=>rfl
  |true=>rw[C6K (.inl rfl)]at h;exact absurd h (by simp)
 subst he
 have hl:a<l.length:=by refine Z2I λc=>?_;rw[C6K (.inr (by omega))]at h;exact absurd h (by simp)
 refine⟨hl,rfl,?_⟩
 rw[C9k hl]at h
 simp only[Z1d]at h
 obtain⟨h1,h2⟩:=h
 unfold A3e
 simp only[Z0I,Z1j,Z0k hl]
 cases hc:A4i l[a]with
 |true=>
  rw[C8K hc]at h1
  rw[hc]at h2
  subst h1
  by_cases e:p l[a]=true
  .exact .inl ⟨e,false,by rw[Z0d e],h2⟩
  .refine .inr ⟨by simpa using e,?_⟩;rw[Z0e e];by_cases z:l[a].size=0
   .rw[Z0d z]
   .rw[Z0e z];unfold A4i at hc;simp only[z,Z4r,Z1K,Z1U]at hc;rw[Z0d hc]
 |false=>
  obtain⟨b1,b2,b3,b4⟩:=D5P hc
  rw[hc]at h2
  have e:¬p l[a]=true:=λe=>by rw[hp _ e]at hc;exact absurd hc (by simp)
  rw[Z0e e,Z0e (by omega),Z0e (by rw[b3];simp),<-b4,h1]
  by_cases c:p t=true
  .exact .inl ⟨c,true,by rw[Z0d c],h2⟩
  .exact .inr ⟨by simpa using c,by rw[Z0e c]⟩
def D2r(w:ByteArray)(h:A4i w=true):B3l λs=>decide (s=w):=λs hs=>by rw[Z1L hs];exact h
def B6w:B3l A0X:=λs hs=>(C5u hs).1
def C4H:B3l λs=>decide (0<kS s):=λs hs=>(B9L s (C2l (Z1L hs))).1
def D4m:B3l λs=>decide (0<kP s):=λs hs=>(B9p s (B2a (Z1L hs)).1 (B2a (Z1L hs)).2).1
def A6S(l:List ByteArray)(kd:ByteArray->Int)(a:Nat)(en:Bool):Option A0G×Nat×Bool:=
 match A3e l (λs=>decide (0<kd s)) a en with
 |(none,_,_)=>(none,a,en)
 |(some s,a1,en1)=>match A3e l A0X a1 en1 with
  |(none,_,_)=>(none,a,en)
  |(some t,a2,en2)=>(some ⟨kd s,t⟩,a2,en2)
def C0t{l}{kd:ByteArray->Int}(hk:B3l λs=>decide (0<kd s)){a}{en}:
 (∃s t r,A1a l a en=s::t::r/\0<kd s/\A0X t=true/\∃en',A6S l kd a en=(some ⟨kd s,t⟩,a+2,en')/\A1a l (a+2) en'=r)\/
 ((∀s t r,A1a l a en=s::t::r->¬(0<kd s/\A0X t=true))/\A6S l kd a en=(none,a,en)):=by
 unfold A6S
 cases hs:A1a l a en with
 |nil=>
  right
  rw[B1t hs]
  exact⟨λs t r e=>absurd e (by simp),rfl⟩
 |cons s r1=>
  obtain⟨hl,rfl,h|h⟩:=A9o hk hs
  .obtain⟨c1,c,e1,s1⟩:=h;rw[e1];simp only;cases r1 with
   |nil=>right;rw[B1t s1];exact⟨λs t r e=>absurd e (by simp),rfl⟩
   |cons t r=>
    obtain⟨b,rfl,h|h⟩:=A9o B6w s1
    .obtain⟨c2,en2,e2,s2⟩:=h;rw[e2];exact .inl ⟨s,t,r,rfl,by simpa using c1,c2,en2,rfl,s2⟩
    .rw[h.2];refine .inr ⟨λs' t' r' e=>?_,rfl⟩;simp only[Z1d]at e;obtain⟨rfl,rfl,rfl⟩:=e;rw[h.1];simp
  .rw[h.2];refine .inr ⟨λs' t' r' e=>?_,rfl⟩;simp only[Z1d]at e;obtain⟨rfl,rfl⟩:=e;intro hh;have:=h.1;simp[hh.1]at this
def D3L{n}{s t}{r}(h:0<kS s/\A0X t=true):prs (n+1) (s::t::r)=⟨kS s,t⟩::prs n r:=by rw[prs,Z0d h]
def D2E{n}{w}(h:∀s t r,w=s::t::r->¬(0<kS s/\A0X t=true)):prs n w=[]:=by
 match n,w,h with
 |0,w,_=>cases w<;>simp[prs]
 |n+1,[],_=>simp[prs]
 |n+1,[a],_=>simp[prs]
 |n+1,a::b::r,h=>rw[prs,Z0e (h a b r rfl)]
def A7D{l}{want}(hc:A4i want=true){a}{en}:
 (∃r,A1a l a en=want::r/\∃b,A3e l (λs=>decide (s=want)) a en=(some want,a+1,b)/\A1a l (a+1) b=r)\/
 ((∀r,A1a l a en≠want::r)/\A3e l (λs=>decide (s=want)) a en=(none,a,en)):=by
 cases hs:A1a l a en with
 |nil=>exact .inr ⟨λr e=>absurd e (by simp),B1t hs⟩
 |cons s r=>
  obtain⟨hl,rfl,h|h⟩:=A9o (D2r want hc) hs
  .obtain⟨c,b,e1,e2⟩:=h;have:=Z1L c;subst this;exact .inl ⟨r,rfl,b,e1,e2⟩
  .refine .inr ⟨λr' e=>?_,h.2⟩;simp only[Z1d]at e;have:=h.1;simp[e.1]at this
def D0G{l}{kd:ByteArray->Int}(hk:B3l λs=>decide (0<kd s)){a}{en}:
 (∃s r,A1a l a en=s::r/\0<kd s/\∃b,A3e l (λs=>decide (0<kd s)) a en=(some s,a+1,b)/\A1a l (a+1) b=r)\/
 ((∀s r,A1a l a en=s::r->¬0<kd s)/\A3e l (λs=>decide (0<kd s)) a en=(none,a,en)):=by
 cases hs:A1a l a en with
 |nil=>exact .inr ⟨λs r e=>absurd e (by simp),B1t hs⟩
 |cons s r=>
  obtain⟨hl,rfl,h|h⟩:=A9o hk hs
  .obtain⟨c,b,e1,e2⟩:=h;exact .inl ⟨s,r,rfl,Z1L c,b,e1,e2⟩
  .refine .inr ⟨λs' r' e=>?_,h.2⟩;simp only[Z1d]at e;rw[<-e.1];exact of_decide_eq_false h.1
abbrev A1t(l:List ByteArray)(o:Own)(a:Nat)(en:Bool):List AV:=[.list 1 (A1c l) o,I a,B en]
def Rd(M:Mem)(r:Nat)(l:List ByteArray)(o:Own)(a:Nat)(en:Bool):Prop:=M[r]?=some (.cells 240 (A1t l o a en))
def D7j(C:Ctx)(g:FuncId)(cs:List AV)(p:ByteArray->Bool):Prop:=∀s M,A3V C g (S s::cs) M (λv M'=>v=B (p s)/\M'=M)
def C2t(c:Int):(A6R c<0)=(A5l c=false):=by unfold A6R A5l;by_cases h1:c=44<;>by_cases h2:c=59<;>by_cases h3:c=46<;>by_cases h4:c=58<;>by_cases h5:c=41<;>simp[h1,h2,h3,h4,h5]
section
variable (gl:Nat->AV)
def D3P(c:UInt8)(M:Mem):A0e (WC gl) 375 [S A6v,.val (.int .u8 c.toNat)] M (λr m=>r=I (A6R c.toNat)/\m=M):=by refine A0m hB func375 ?_;simp -dsimp -implicitDefEqProofs;refine A0g func271 (C4Y gl M c) ?_;simp -dsimp -implicitDefEqProofs
def B4J(l:List ByteArray)(o:Own)(hl:l.length<=1000000000)(t:∀s∈l,s.size<=maxLen)(p:ByteArray->Bool)(r:Nat)(g:FuncId)(cs:List AV)(hf:D7j (WC gl) g cs p)(a:Nat)(en:Bool)(M:Mem)(hr:Rd M r l o a en):A0e (WC gl) 331 [.ptr r 0,.func (.func g) [] cs] M (λv M'=>v=.tuple [S ((A3e l p a en).1.getD ⟨#[]⟩),B (A3e l p a en).1.isSome]/\M'=M.set r (.cells 240 (A1t l o (A3e l p a en).2.1 (A3e l p a en).2.2))):=by
 have b:M.set r (.cells 240 (A1t l o a en))=M:=by
  apply Z1F;intro i;rw[Z2j];split
  .rename_i e;subst e;split
   .exact hr.symm
   .rename_i h;exact(Z1c (by omega)).symm
  .rfl
 refine A0m hB func331 ?_
 simp -dsimp -implicitDefEqProofs
 refine A1v hB (A0I gl) (λk=>if k=3\/k=8\/k=12 then 1 else 0) (λ_=>r) (by rfl) (by kernel_rfl) ?_
 cases en with
 |true=>simp -dsimp -implicitDefEqProofs[A0b hr,A3e,b]
 |false=>
 by_cases hal:a<l.length
 case neg=>
  have h1:(l.length:Int)<=a:=by omega
  have h2:l[a]?=none:=Z1c (by omega);simp -dsimp -implicitDefEqProofs[A0b hr,h1,A3e,h2,b]
 have h1:¬(l.length:Int)<=a:=by omega
 have q:(a:Int)<l.length:=by omega
 have h2:l[a]?=some l[a]:=Z0k hal
 simp -dsimp -implicitDefEqProofs[A0b hr,h1]
 refine A1v hB (A0I gl) (λk=>if k=3\/k=7 then 1 else 0) (λ_=>r) (by rfl) (by kernel_rfl) ?_
 simp -dsimp -implicitDefEqProofs[A0b hr,q,hal]
 have f:IntKind.i64.wrap ((a:Int)+1)=(a+1:Nat):=by rw[A0Z (by omega) (by omega)];omega
 have h:r<M.length:=(Z0b.1 hr).1
 refine A4o (hf _ _) ?_
 rintro _ M1 ⟨rfl,rfl⟩
 have u:l[a].size<=9223372036854775807:=t _ (Z0y hal)
 generalize hs:l[a]=s at*
 by_cases c1:p s=true
 .simp -dsimp -implicitDefEqProofs[c1,A0b hr,A0f hr,A0d,f,A3e,h2];rfl
 have c:p s=false:=by simpa using c1
 by_cases c2:s.size=0
 .have hw:IntKind.i64.wrap (-1)=-1:=by decide
  simp -dsimp -implicitDefEqProofs[c,hw,A3e,h2,c1,c2,b]
 have hw:IntKind.i64.wrap ((s.size:Int)-1)=(s.size-1:Nat):=by rw[A0Z (by omega) (by omega)];omega
 have i1:((s.size-1:Nat):Int)<s.size:=by omega
 have i2:s.size-1<s.size:=by omega
 have i0:¬((s.size-1:Nat):Int)<0:=by omega
 have i3:((s.size-1:Nat):Int)<=s.size:=by omega
 simp -dsimp -implicitDefEqProofs[c,hw,i0,i1,i2]
 refine A0g func375 (D3P gl (s.data.getD (s.size-1) 0) M1) ?_
 have d:(A6R (s.data.getD (s.size-1) 0).toNat<0)=(A5l (A1I s (s.size-1))=false):=C2t _
 generalize A6R (s.data.getD (s.size-1) 0).toNat=k at*
 cases c3:A5l (A1I s (s.size-1))with
 |false=>
  rw[c3]at d
  have k0:k<0:=by rw[d]
  simp -dsimp -implicitDefEqProofs[c,hw,i0,k0,A3e,h2,c1,c2,c3,b]
 |true=>
  rw[c3]at d
  have k0:¬k<0:=by rw[d];simp
  simp -dsimp -implicitDefEqProofs[c,hw,i0,k0,i3]
  refine A4o (hf _ _) ?_
  rintro _ M3 ⟨rfl,rfl⟩
  by_cases c4:p (s.extract 0 (s.size-1))=true
  .have m:r<M3.length:=h;(have j:(M3.set r (A0j.cells 240 [AV.list 1 (A1c l) o,AV.val (.int .i64 (a:Int)),AV.val (.bool true)]))[r]?=some (A0j.cells 240 [AV.list 1 (A1c l) o,AV.val (.int .i64 (a:Int)),AV.val (.bool true)]):=by simp[m]);simp -dsimp -implicitDefEqProofs[c4,A0b hr,A0f hr,A0d,f,i3];simp -dsimp -implicitDefEqProofs[A0b j,A0f j,A0d,f,A3e,h2,c1,c2,c3,c4,Z2C];rfl
  .simp -dsimp -implicitDefEqProofs[c4,A3e,h2,c1,c2,c3,b]
end
section
variable (gl:Nat->AV)
def C8C(a:ByteArray):D7j (WC gl) 332 [.cptr [S a]] (λs=>decide (s=a)):=λs M=>by
 refine A1T func332 rfl rfl ?_;refine A0m hB func332 ?_;simp -dsimp -implicitDefEqProofs
 done
def D4V(l:List ByteArray)(o:Own)(w:ByteArray)(M:Mem)(hl:l.length<=1000000000):A0e (WC gl) 396 [.list 1 (A1c l) o,S w] M (λv M'=>v=I (C3p l w 0)/\M'=M):=by
 refine A0m hB func396 ?_;simp -dsimp -implicitDefEqProofs;refine A0F hB l.length 8 (λT M1=>∃i:Nat,M1=M/\i<=l.length/\T 0=.list 1 (A1c l) o/\T 1=S w/\T 7=I l.length/\T 8=I i/\C3p l w 0=C3p (l.drop i) w i) ?_ ?_
 .exact⟨0,rfl,by omega,by simp,by simp,by simp,by simp,by simp⟩
 rintro T M1 ⟨i,rfl,h1,t0,t1,t7,t8,h2⟩;by_cases hi:i<l.length
 .have a:(i:Int)<l.length:=by omega
  have hw:IntKind.i64.wrap ((i:Int)+1)=(i+1:Nat):=by rw[A0Z (by omega) (by omega)];omega
  rw[Z0l hi,C3p]at h2;by_cases c:l[i]=w
  .rw[Z0d c]at h2;simp -dsimp -implicitDefEqProofs[t0,t1,t7,t8,a,hi,c,h2]
  .rw[Z0e c]at h2;have c':¬w=l[i]:=λe=>c e.symm;simp -dsimp -implicitDefEqProofs[t0,t1,t7,t8,a,hi,c,c',hw];exact⟨⟨i+1,by omega,rfl,h2⟩,by omega⟩
 .have a:¬(i:Int)<l.length:=by omega
  rw[Z0x (by omega),C3p]at h2;simp -dsimp -implicitDefEqProofs[t0,t1,t7,t8,a,h2]
def B7E(M:Mem):A0e (WC gl) 219 [] M (λv M'=>v=.list 1 (A1c A1x) .full/\M'=M):=by refine A0m hB func219 ?_;simp -dsimp -implicitDefEqProofs[A0q,A1f,A1c,A1x]
def D2a(M:Mem):A0e (WC gl) 169 [] M (λv M'=>v=.list 1 (A1c A3w) .full/\M'=M):=by refine A0m hB func169 ?_;simp -dsimp -implicitDefEqProofs[A0q,A1f,A1c,A3w]
end
section
variable (gl:Nat->AV)
def C9X(l:List ByteArray)(o:Own)(w:ByteArray)(M:Mem)(hl:l.length<=1000000000):A0e (WC gl) 377 [.list 1 (A1c l) o,S w] M (λv M'=>v=I (A2y l w)/\M'=M):=by
 refine A0m hB func377 ?_;by_cases c:w=⟨#[]⟩
 .simp -dsimp -implicitDefEqProofs[c,A2y]
 .simp -dsimp -implicitDefEqProofs[c,A2y];refine A0g func396 (D4V gl l o w M hl) ?_;simp -dsimp -implicitDefEqProofs;rw[A2y,Z0e c];split<;>omega
def C8T(l:List ByteArray)(o:Own)(hl:l.length<=1000000000):D7j (WC gl) 376 [.cptr [.list 1 (A1c l) o]] (λs=>decide (0<A2y l s)):=λs M=>by refine A1T func376 rfl rfl ?_;refine A0m hB func376 ?_;simp -dsimp -implicitDefEqProofs;refine A0g func377 (C9X gl l o s M hl) ?_;simp -dsimp -implicitDefEqProofs
def B2n(l:List ByteArray)(o:Own)(hl:l.length<=1000000000)(c:∀s∈l,s.size<=maxLen)(b:ByteArray)(r:Nat)(a:Nat)(en:Bool)(M:Mem)(hr:Rd M r l o a en):A0e (WC gl) 251 [.ptr r 0,S b] M (λv M'=>v=B (A3e l (λs=>decide (s=b)) a en).1.isSome/\M'=M.set r (.cells 240 (A1t l o (A3e l (λs=>decide (s=b)) a en).2.1 (A3e l (λs=>decide (s=b)) a en).2.2))):=by
 refine A0m hB func251 ?_
 simp -dsimp -implicitDefEqProofs
 refine A0r func331 (B4J gl l o hl c _ r 332 _ (C8C gl b) a en M hr) ?_
 rintro _ M1 ⟨rfl,rfl⟩
 simp -dsimp -implicitDefEqProofs
def C4O(l:List ByteArray)(o:Own)(hl:l.length<=1000000000)(b:∀s∈l,s.size<=maxLen)(ks:List ByteArray)(o2:Own)(hk:ks.length<=100)(r:Nat)(a:Nat)(en:Bool)(M:Mem)(hr:Rd M r l o a en):A0e (WC gl) 333 [.ptr r 0,.list 1 (A1c ks) o2] M (λv M'=>v=.tuple [I (A2y ks ((A3e l (λs=>decide (0<A2y ks s)) a en).1.getD ⟨#[]⟩)),B (A3e l (λs=>decide (0<A2y ks s)) a en).1.isSome]/\M'=M.set r (.cells 240 (A1t l o (A3e l (λs=>decide (0<A2y ks s)) a en).2.1 (A3e l (λs=>decide (0<A2y ks s)) a en).2.2))):=by
 refine A0m hB func333 ?_
 simp -dsimp -implicitDefEqProofs
 refine A0r func331 (B4J gl l o hl b _ r 376 _ (C8T gl ks o2 (by omega)) a en M hr) ?_
 rintro _ M1 ⟨rfl,rfl⟩
 simp -dsimp -implicitDefEqProofs
 refine A0r func377 (C9X gl ks o2 _ _ (by omega)) ?_
 rintro _ M2 ⟨rfl,rfl⟩
 simp -dsimp -implicitDefEqProofs
end
end Go.Abs
