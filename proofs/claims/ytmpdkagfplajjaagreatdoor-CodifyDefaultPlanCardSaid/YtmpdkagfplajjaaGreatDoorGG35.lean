/- The texts CeH, CeI, CeJ, CeK, CeL, CeM, CbJ, CvX, CvY, CvZa, CvZb, CvZc. -/
import Derived.Test.YtmpdkagfplajjaaGreatDoorGG34
import Derived.Test.YtmpdkagfplajjaaGreatDoorGG33
import Derived.Test.YtmpdkagfplajjaaGreatDoorGG31
set_option linter.all false
set_option maxRecDepth 100000
namespace Go.Abs
open Go.Proofs TryTypes Tryz
def C9y{o:Option Nat}{M0 M:Mem}(h:A0d o M0 M):A0d o M0 (A4M M M0.length):=by refine⟨by simpa using h.1,λi hi ho=>?_⟩;have h2:=h.2 i hi ho;rw[<-h2];have:i<M.length:=Z1i hi h.1;rw[Z0m this];exact A6g (Z0m this) λ_ _ _ _ _ _=>hi
def D7j{α:Type}(xs ys:List α)(x y:α):(xs++x::ys).set xs.length y=xs++y::ys:=by simp
def Still.any{M:Mem}{n:Nat}{ok:AV->Prop}{a d:List AV}(h:Still M n ok a d):Still M n (λ_=>True) a d:=by
 induction h with
 |nil=>exact .nil
 |same _ _ ih=>exact .same trivial ih
 |nilS _ ih=>exact .nilS ih
 |vec h1 h2 h3 h3' h4 h5 _ _ ih1 ih2=>exact .vec h1 h2 h3 h3' h4 h5 ih1 ih2
 |dis _ _ ih=>exact .dis trivial ih
 |agg _ _ ih1 ih2=>exact .agg ih1 ih2
 |tuple _ _ ih1 ih2=>exact .tuple ih1 ih2
structure TrM (M Mi:Mem) (b c:Nat) (sb:A0p) (cc:List AV):Prop where
 kb:A0d (some b) M Mi
 hb:Mi[b]?=some sb
 hc:Mi[c]?=some (.cells 27 cc)
 hr:Mi[c+1]?=some z8
section
variable {M Mi:Mem} {b c:Nat} {sb:A0p} {cc:List AV}
def TrM.setb(h:TrM M Mi b c sb cc)(a:b<c)(s':A0p):TrM M (Mi.set b s') b c s' cc:=by have hl:=(Z0a.1 h.hb).1;exact⟨h.kb.trans (A0d.set _ _ _),by simp[hl],by rw[Z0e (by omega)];exact h.hc,by rw[Z0e (by omega)];exact h.hr⟩
def TrM.setc(h:TrM M Mi b c sb cc)(a:b<c)(d:M.length<=c)(c':List AV):TrM M (Mi.set c (.cells 27 c')) b c sb c':=by have hl:=(Z0a.1 h.hc).1;refine⟨⟨by simpa using h.kb.1,λi hi ho=>by rw[Z0e (by omega)];exact h.kb.2 i hi ho⟩,by rw[Z0e (by omega)];exact h.hb,by simp[hl],by rw[Z0e (by omega)];exact h.hr⟩
def TrM.app(h:TrM M Mi b c sb cc)(X:Mem):TrM M (Mi++X) b c sb cc:=by have hk:Grow Mi (Mi++X):=A0d.app none _ _;exact⟨h.kb.trans hk.of_none,hk.get h.hb (by simp),hk.get h.hc (by simp),hk.get h.hr (by simp)⟩
end
def hTr:A2r:=⟨λd=>d !=3,λ_=>false,λ_=>false⟩
@[simp] def E6s:hTr.imm=λd=>d !=3:=rfl
def E2Q{a b c:Int}:A0w prog 23 [(0,I a),(1,I b),(2,I c)]=some (.agg [I a,I b,I c]):=by simp[A0w,A1e,A1r,A0e,AV.cells,AV.storable]
section
variable (gl:Nat->AV)
set_option maxHeartbeats 1000000 in
def B9t:∀(u:A0a) (d a:Int) (n w b:Nat) (M:Mem),u.good->u.lims->A0j u<=1000->n+A0j u<=1000000->w+wcU u<=1000000000->M[b]?=some (A8T d a n w)->
 A0c (WC gl) 353 [.ptr b 0,.agg u.row] M (λv M'=>v=.agg (A1B d a u n w).row/\A0d (some b) M M'/\M'[b]?=some (A8T d a (n+A0j u) (w+wcU u)))
 |.mk id kind lab hd ws ks,d,a,n,w,b,M,hg,hlm,a6,hn,hw,hb=>by
  obtain⟨_,_,bg,_,b6,_,ba,b3,a7⟩:=(A0a.good_iff _).1 hg;have a7:∀k∈ks,k.good:=a7;obtain⟨⟨ab,a8,bi,-⟩,aa⟩:=A3t _ hlm;have ab:hd.length<=100000000:=ab;have a8:ws.length<=100000000:=a8;have aa:=A3g.1 aa;have bf:1+A0f ks<=1000:=by rwa[A0j]at a6
  have bh:n+(1+A0f ks)<=1000000:=by rwa[A0j]at hn
  have bd:w+(hd.length+ws.length+wcL ks)<=1000000000:=by rwa[wcU]at hw
  have be:=A1Q ks;have al:(A0a.mk id kind lab hd ws ks).row=[I id.act,I id.item,I id.n,I kind,S lab,.list 4 (A0g hd) .no,.list 4 (A0g ws) .no,.list 8 (A0q ks) .no]:=by rw[A0a.row]
  refine A0c.stillN ?_;rw[al];have am:b<M.length:=(Z0a.1 hb).1;obtain⟨c,hc⟩:∃c,c=M.length:=⟨_,rfl⟩;obtain⟨M1,a9⟩:∃M1,M1=M++[A0p.cells 27 [I id.act,I id.item,I id.n,I kind,S lab,.list 4 (A0g hd) .no,.list 4 (A0g ws) .no,.list 8 (A0q ks) .no],z8]:=⟨_,rfl⟩;have f1:TrM M M1 b c (A8T d a n w) [I id.act,I id.item,I id.n,I kind,S lab,.list 4 (A0g hd) .no,.list 4 (A0g ws) .no,.list 8 (A0q ks) .no]:=by rw[a9,hc];exact⟨A0d.app _ _ _,by rw[Z0h am];exact hb,by simp,by simp[Z0Z]⟩
  have m:b<c:=by omega
  have y:M.length<=c:=by omega
  have w1:IntKind.i64.wrap ((n:Int)+1)=(n:Int)+1:=by rw[A0J (by omega) (by omega)]
  refine A0o hTr func353 ?_;simp -dsimp -implicitDefEqProofs[A0l];rw[<-a9,<-hc];clear a9;simp -dsimp -implicitDefEqProofs[A0b f1.hb,A0h f1.hb,w1];have f2:=f1.setb m (A8T d a (n+1) w);rw[show(A0p.cells 339 [I d,I a,I ((n:Int)+1),I w])=A8T d a (n+1) w by simp[A8T]];generalize M1.set b (A8T d a (n+1) w)=M2 at*;refine A0X hTr (A0t gl) (λk=>if k=3\/k=7\/k=11 then 1 else if k=14 then 2 else 0) (λ_=>b) (by rfl) (by kernel_rfl) ?_;simp -dsimp -implicitDefEqProofs[A0b f2.hb,A1a,A5n,E2Q,A0h f2.hc];have f3:=f2.setc m y [I d,I a,I ((n:Int)+1),I kind,S lab,.list 4 (A0g hd) .no,.list 4 (A0g ws) .no,.list 8 (A0q ks) .no];generalize M2.set c (.cells 27 [I d,I a,I ((n:Int)+1),I kind,S lab,.list 4 (A0g hd) .no,.list 4 (A0g ws) .no,.list 8 (A0q ks) .no])=M3 at*;simp -dsimp -implicitDefEqProofs[A0b f3.hc];refine A0s func385 (C3i gl hd .no d a (n+1) w b M3 ab (by omega) f3.hb) ?_;rintro _ _ ⟨rfl,rfl⟩;have f4:=f3.setb m (A8T d a (n+1) (w+hd.length));generalize M3.set b (A8T d a (n+1) (w+hd.length))=M4 at*;obtain⟨g,z⟩:∃g,g=A4c d a w (A0N hd):=⟨_,rfl⟩;rw[<-z];simp -dsimp -implicitDefEqProofs[A0h f4.hc];have f5:=f4.setc m y [I d,I a,I ((n:Int)+1),I kind,S lab,.list 4 (A0g g) .no,.list 4 (A0g ws) .no,.list 8 (A0q ks) .no];generalize M4.set c (.cells 27 [I d,I a,I ((n:Int)+1),I kind,S lab,.list 4 (A0g g) .no,.list 4 (A0g ws) .no,.list 8 (A0q ks) .no])=M5 at*;simp -dsimp -implicitDefEqProofs[A0b f5.hc];refine A0s func385 (C3i gl ws .no d a (n+1) (w+hd.length) b M5 a8 (by omega) f5.hb) ?_;rintro _ _ ⟨rfl,rfl⟩;have f6:=f5.setb m (A8T d a (n+1) (w+hd.length+ws.length));generalize M5.set b (A8T d a (n+1) (w+hd.length+ws.length))=M6 at*;obtain⟨l,a5⟩:∃l,l=A4c d a (w+hd.length) (A0N ws):=⟨_,rfl⟩;rw[<-a5];simp -dsimp -implicitDefEqProofs[A0h f6.hc];have f7:=f6.setc m y [I d,I a,I ((n:Int)+1),I kind,S lab,.list 4 (A0g g) .no,.list 4 (A0g l) .no,.list 8 (A0q ks) .no];generalize M6.set c (.cells 27 [I d,I a,I ((n:Int)+1),I kind,S lab,.list 4 (A0g g) .no,.list 4 (A0g l) .no,.list 8 (A0q ks) .no])=M7 at*;obtain⟨zs,aq,ai⟩:=C8V (ks:=ks) (M:=M7) (by omega);have f8:=f7.app [A0p.vec 27 8 zs 0 [(0,ks.length)]];simp -dsimp -implicitDefEqProofs[A0b f7.hc,aq,A0b f8.hc,ai];have f9:=f7.app [A0p.vec 27 8 (ks.flatMap A0a.row) 0 [(0,ks.length)]];have ad:A1b 27 8 A0a.row (M7++[A0p.vec 27 8 (ks.flatMap A0a.row) 0 [(0,ks.length)]]) (.vref M7.length 0 8 0 ks.length) ks:=.inr ⟨M7.length,0,[(0,ks.length)],rfl,by simp,by simp[List.lookup]⟩;have b4:M.length<=M7.length:=f7.kb.1;have bc:c+1<M7.length:=(Z0a.1 f7.hr).1;obtain⟨f,hf⟩:∃f,f=M7.length:=⟨_,rfl⟩;rw[<-hf]at ad|-;generalize M7++[A0p.vec 27 8 (ks.flatMap A0a.row) 0 [(0,ks.length)]]=M9 at*;refine A7L (.exit 0) (λT Mi=>T 3=.ptr c 0/\T 4=.ptr (c+1) 0/\T 5=.vref f 0 8 0 ks.length/\A1b 27 8 A0a.row Mi (.vref f 0 8 0 ks.length) (A1A d a ks (n+1) (w+hd.length+ws.length))/\TrM M Mi b c (A8T d a (n+1+A0f ks) (w+hd.length+ws.length+wcL ks)) [I d,I a,I ((n:Int)+1),I kind,S lab,.list 4 (A0g g) .no,.list 4 (A0g l) .no,.list 8 (A0q ks) .no]) ?_ ?_
  .refine A0y hTr ks.length 48 (λT Mi=>∃j:Nat,j<=ks.length/\T 0=.ptr b 0/\T 3=.ptr c 0/\T 4=.ptr (c+1) 0/\T 5=.vref f 0 8 0 ks.length/\T 47=I ks.length/\T 48=I j/\A1b 27 8 A0a.row Mi (.vref f 0 8 0 ks.length) (A1A d a (ks.take j) (n+1) (w+hd.length+ws.length)++ks.drop j)/\TrM M Mi b c (A8T d a (n+1+A0f (ks.take j)) (w+hd.length+ws.length+wcL (ks.take j))) [I d,I a,I ((n:Int)+1),I kind,S lab,.list 4 (A0g g) .no,.list 4 (A0g l) .no,.list 8 (A0q ks) .no]) ?_ ?_
   .exact⟨0,by omega,by simp,by simp,by simp,by simp,by simp,by simp,by simpa[A1A]using ad,by simpa[A0f,wcL]using f9⟩
   clear f1 f2 f3 f4 f5 f6 f7 f8 f9 ad aq ai;rintro T Mi ⟨j,j1,t0,t3,t4,t5,ah,af,o,fi⟩;by_cases hj:j<ks.length;case neg=>
    (have t:¬(j:Int)<ks.length:=by omega);rw[Z0k (by omega),Z0o (by omega),Z1b]at o
    rw[Z0k (by omega)]at fi;simp -dsimp -implicitDefEqProofs[t0,t3,t4,t5,ah,af,t];exact⟨o,fi⟩
   (have t:(j:Int)<ks.length:=by omega);have p:ks[j]∈ks:=Z0q hj
   have bb:=A2u p;have:=A0a.kid_lt (u:=.mk id kind lab hd ws ks) p;have b9:=D0s hj;(have b5:A0f (ks.take j)+A0j ks[j]<=A0f ks:=by have:=A8m (ks.take j) (ks.drop j);rw[Z0S,Z0i hj,A0f]at this;omega);obtain⟨n',ag⟩:∃n',n'=n+1+A0f (ks.take j):=⟨_,rfl⟩;obtain⟨w',s⟩:∃w',w'=w+hd.length+ws.length+wcL (ks.take j):=⟨_,rfl⟩;have ac:=B9t ks[j] d a n' w' b Mi (a7 _ p) (aa _ p) (by omega) (by omega) (by omega) (by rw[ag,s];exact fi.hb);have b1:=B0B d a (ks.take j) (n+1) (w+hd.length+ws.length);(have b7:(ks.take j).length=j:=by rw[Z0E,Z1H (by omega)]);obtain⟨xs,ao⟩:∃xs,xs=A1A d a (ks.take j) (n+1) (w+hd.length+ws.length):=⟨_,rfl⟩;rw[<-ao]at o b1;(have an:xs.length=j:=by omega);(have a0:(xs++ks.drop j).length=ks.length:=by simp;omega);(have ax:(xs++ks.drop j)[j]'(by omega)=ks[j]:=by rw[Z2P (by omega)];simp[an]);obtain⟨f0,g0,-,e0,ak,-,-,-,-⟩:=C5P o (i:=j) (by omega) ks[j];rw[a0]at e0;simp only[AV.vref.injEq,Z2y,Z1M]at e0;obtain⟨rfl,rfl⟩:=e0;rw[ax]at ak;(have ar:(xs++ks.drop j).set j (A1B d a ks[j] n' w')=A1A d a (ks.take (j+1)) (n+1) (w+hd.length+ws.length)++ks.drop (j+1):=by have e1:=D7j xs (ks.drop (j+1)) ks[j] (A1B d a ks[j] n' w');rw[an]at e1;rw[Z0i hj,e1,Z1j,Z0m hj,C0m,<-ao];simp[A1A,ag,s]);(have a6:n'+A0j ks[j]=n+1+A0f (ks.take (j+1)):=by rw[Z1j,Z0m hj,A8m];simp[A0f,ag];omega);(have ay:w'+wcU ks[j]=w+hd.length+ws.length+wcL (ks.take (j+1)):=by rw[Z1j,Z0m hj,D0E];simp[wcL,s];omega);simp -dsimp -implicitDefEqProofs[t0,t3,t4,t5,ah,af,hj,t,ak];refine A0s func353 ac ?_;rintro _ M3 ⟨rfl,k1,k2⟩;have az:=o.keep k1 (λq hq e=>by simp at hq e;omega);obtain⟨f4,g4,M4,e4,-,ae,ap,b8,x⟩:=C5P az (i:=j) (by omega) (A1B d a ks[j] n' w');rw[a0]at e4;simp only[AV.vref.injEq,Z2y,Z1M]at e4;obtain⟨rfl,rfl⟩:=e4;rw[ar]at ap;have b0:TrM M M4 b c (A8T d a (n+1+A0f (ks.take (j+1))) (w+hd.length+ws.length+wcL (ks.take (j+1)))) [I d,I a,I ((n:Int)+1),I kind,S lab,.list 4 (A0g g) .no,.list 4 (A0g l) .no,.list 8 (A0q ks) .no]:=by
    have a1:=k1.1;have a2:=(Z0a.1 fi.hc).1;have a3:=(Z0a.1 fi.hr).1;have a4:=fi.kb.1;refine⟨⟨by omega,λq hq ho=>?_⟩,?_,?_,?_⟩
    .rw[x q (by omega),k1.2 q (by omega) ho];exact fi.kb.2 q hq ho
    .rw[x b (by omega),k2,a6,ay]
    .rw[x c (by omega)];exact k1.get fi.hc (by simp;omega)
    .rw[x (c+1) (by omega)];exact k1.get fi.hr (by simp;omega)
   have w2:=A1E (i:=j) (by omega);simp -dsimp -implicitDefEqProofs[t0,t3,t4,t5,ah,af,hj,t,ae,w2];exact⟨⟨j+1,by clear w2;omega,rfl,ap,b0⟩,by clear w2;omega⟩
  .rintro T Mi ⟨t3,t4,t5,o,fi⟩;have r:=fi.setc m y [I d,I a,I ((n:Int)+1),I kind,S lab,.list 4 (A0g g) .no,.list 4 (A0g l) .no,.vref f 0 8 0 ks.length];have bj:=(Z0a.1 fi.hr).1;have av:A1b 27 8 A0a.row (Mi.set c (.cells 27 [I d,I a,I ((n:Int)+1),I kind,S lab,.list 4 (A0g g) .no,.list 4 (A0g l) .no,.vref f 0 8 0 ks.length])) (.vref f 0 8 0 ks.length) (A1A d a ks (n+1) (w+hd.length+ws.length)):=o.keep (A0d.set _ _ _) (λq hq e=>by simp at hq e;omega);simp -dsimp -implicitDefEqProofs[t3,t4,t5,A0h fi.hc];generalize Mi.set c (.cells 27 [I d,I a,I ((n:Int)+1),I kind,S lab,.list 4 (A0g g) .no,.list 4 (A0g l) .no,.vref f 0 8 0 ks.length])=Mj at*;have aj:c+1<Mj.length:=(Z0a.1 r.hr).1;simp -dsimp -implicitDefEqProofs[t3,t4,t5,A0b r.hc,A0h r.hr,A0z aj,A0k];have au:=av.keep (A0d.set Mj (c+1) (.cells 27 [I d,I a,I ((n:Int)+1),I kind,S lab,.list 4 (A0g g) .no,.list 4 (A0g l) .no,.vref f 0 8 0 ks.length])) (λq hq e=>by simp at hq e;omega);have aw:A0d (some b) M (Mj.set (c+1) (.cells 27 [I d,I a,I ((n:Int)+1),I kind,S lab,.list 4 (A0g g) .no,.list 4 (A0g l) .no,.vref f 0 8 0 ks.length])):=⟨by simpa using r.kb.1,λi hi ho=>by rw[Z0e (by omega)];exact r.kb.2 i hi ho⟩;(have b2:(Mj.set (c+1) (.cells 27 [I d,I a,I ((n:Int)+1),I kind,S lab,.list 4 (A0g g) .no,.list 4 (A0g l) .no,.vref f 0 8 0 ks.length]))[b]?=some (A8T d a (n+1+A0f ks) (w+hd.length+ws.length+wcL ks)):=by rw[Z0e (by omega)];exact r.hb);refine⟨M.length,.agg (A1B d a (.mk id kind lab hd ws ks) n w).row,.agg ?_ .nil,rfl,C9y aw,?_⟩
   .rw[A1B,A0a.row,<-z,<-a5];have ae:=(A9h au (n:=M.length) (λq hq=>by simp at hq;omega)).any;simp only[Int.natCast_add,Int.cast_ofNat_Int];exact .same trivial (.same trivial (.same trivial (.same trivial (.same trivial (.same trivial (.same trivial ae))))))
   .rw[A6g b2 (λ_ _ _ _ _ h=>by simp at h),A0j,wcU];simp[A8T];omega
termination_by u=>SizeOf.sizeOf u
end
section
variable (gl:Nat->AV)
def D6d(u:A0a)(c a:Int)(M:Mem)(hf:Fit u)(hw:wcU u<=1000000000):A0c (WC gl) 283 [.agg u.row,I c,I a] M (λv M'=>v=.agg (A1B c a u 0 0).row/\M'=M):=by
 refine A0c.dataX ?_;obtain⟨b,hb⟩:∃b,b=M.length:=⟨_,rfl⟩;obtain⟨M1,e⟩:∃M1,M1=M++[z8,A8T c a 0 0]:=⟨_,rfl⟩;have h1:M1[b]?=some z8:=by rw[e,hb];simp
 have h2:M1[b+1]?=some (A8T c a 0 0):=by rw[e,hb];simp[Z0Z]
 have f:Grow M M1:=by rw[e];exact A0d.app none _ _
 have h:A0w prog 339 [(0,I c),(1,I a)]=some (.agg [I c,I a,I 0,I 0]):=by simp[A0w,A1e,A1r,A0e,AV.cells,AV.storable]
 have d:=B9t gl u c a 0 0 (b+1) M1 hf.1 hf.2.1 hf.2.2 (by have:=hf.2.2;omega) (by omega) h2;rw[u.row_eq]at d|-;refine A0o hB func283 ?_;simp -dsimp -implicitDefEqProofs[A0l,h,A0m,A0e,AV.storable,AV.cells];rw[show M++[z8,A0p.cells 339 [I c,I a,I 0,I 0]]=M1 by rw[e];simp[A8T],<-hb];refine A0s func353 d ?_;rintro _ M2 ⟨rfl,k1,k2⟩;have h3:=k1.get h1 (by simp);have g:b<M2.length:=(Z0a.1 h3).1;have j:Grow M M2:=⟨by have:=f.1;have:=k1.1;omega,λi hi _=>by rw[k1.2 i (by have:=f.1;omega) (by simp;omega)];exact f.2 i hi (by simp)⟩;simp -dsimp -implicitDefEqProofs[A0h h3,A0K,A0I,A0z g,A0k];exact⟨A1o j (by omega),.same (by simp only[bdd];exact A2U _ _) .nil⟩
end
def D0j(s:A0M):Bool:=decide (s.k=0)&&decide (s.lab=⟨#[]⟩)
def B9s(i:Nat)(s:A0M):Prop:=(i=0/\s=A3a)\/(0<s.k/\s.k<=7/\A0B s.lab=true)
section
variable (gl:Nat->AV)
def B9K(s:A0M)(M:Mem):A0c (WC gl) 324 [.agg s.row] M (λv M'=>v=B (D0j s)/\M'=M):=by
 obtain⟨k,a⟩:=s;have hr:(A0M.mk k a).row=[I k,S a]:=rfl;rw[hr];refine A0o hB func324 ?_;by_cases h1:k=0
 .by_cases h2:a=⟨#[]⟩
  .simp -dsimp -implicitDefEqProofs[h1,h2,D0j]
  .simp -dsimp -implicitDefEqProofs[h1,h2,D0j]
 .simp -dsimp -implicitDefEqProofs[h1,D0j]
set_option maxHeartbeats 1000000 in
def B7b(p:List A0M)(o:Own)(M:Mem)(hl:p.length<=9)(hp:∀i (h:i<p.length),B9s i p[i]):A0c (WC gl) 240 [.list 2 (A1T p) o] M (λv M'=>v=B true/\M'=M):=by
 refine A3f (λ_=>trivial) ?_;refine A0o hB func240 ?_;simp -dsimp -implicitDefEqProofs;refine A0y hB p.length 7 (λT M1=>∃i:Nat,i<=p.length/\T 0=.list 2 (A1T p) o/\T 5=.list 2 (A1T p) o/\T 6=I p.length/\T 7=I i/\Grow M M1) ?_ ?_
 .exact⟨0,by omega,by simp,by simp,by simp,by simp,Grow.refl _⟩
 rintro T M1 ⟨i,i1,t0,t5,t6,t7,hg⟩;by_cases hi:i<p.length;case neg=>
  have a:¬(i:Int)<p.length:=by omega
  have h9:(p.length:Int)<=9:=by omega
  simp -dsimp -implicitDefEqProofs[t0,t5,t6,t7,a,h9];exact hg
 have a:(i:Int)<p.length:=by omega
 have w1:=A1E (i:=i) (by omega);obtain⟨s,hs⟩:∃s,s=p[i]:=⟨_,rfl⟩;have g:=hp i hi;rw[<-hs]at g;have l:p[i]=s:=hs.symm;have m:(A1T p)[i]?=some [I s.k,S s.lab]:=by simp[A1T,hi,hs,A0M.row]
 obtain⟨M2,b⟩:∃M2,M2=M1++[A0p.cells 159 [I s.k,S s.lab]]:=⟨_,rfl⟩;have hX:M2[M1.length]?=some (A0p.cells 159 [I s.k,S s.lab]):=by rw[b];simp
 have e:Grow M M2:=by rw[b];exact hg.trans (A0d.app none _ _)
 have j:=B9K gl s M2;rw[show s.row=[I s.k,S s.lab]from rfl]at j;have c:∀M,A4A (WC gl) 112 [S s.lab] M (λv M'=>v=B (A0B s.lab)/\M'=M):=λM=>A0V func112 rfl rfl (A3f (λ_=>trivial) (A6C gl M s.lab));have n:IntKind.i64.wrap 1=1:=by decide
 by_cases h0:i=0
 .have r:(i:Int)=0:=by omega
  subst h0;simp -dsimp -implicitDefEqProofs[t0,t5,t6,t7,a,hi,m,l,A0l,A0m,A0e,A0K,A0I];rw[<-b];simp -dsimp -implicitDefEqProofs[t0,t5,t6,t7,A0b hX];refine A0i func324 j ?_;cases hb:D0j s
  .rcases g with⟨_,rfl⟩|⟨q1,q2,q3⟩
   .simp[D0j,A3a]at hb
   (have d:¬s.k<=0:=by omega);have f:¬s.k>7:=by omega
   rw[q3]at c;simp -dsimp -implicitDefEqProofs[t0,t5,t6,t7,A0b hX,d,f];refine A1l (c M2) ?_;rintro _ _ ⟨rfl,rfl⟩;simp -dsimp -implicitDefEqProofs[t0,t5,t6,t7,w1,n];exact⟨⟨1,by omega,rfl,e⟩,by omega⟩
  .simp -dsimp -implicitDefEqProofs[t0,t5,t6,t7,w1,n];exact⟨⟨1,by omega,rfl,e⟩,by omega⟩
 .rcases g with⟨q,_⟩|⟨q1,q2,q3⟩
  .exact absurd q h0
  have d:¬s.k<=0:=by omega
  have f:¬s.k>7:=by omega
  rw[q3]at c;simp -dsimp -implicitDefEqProofs[t0,t5,t6,t7,a,hi,m,l,A0l,A0m,A0e,A0K,A0I];rw[<-b];simp -dsimp -implicitDefEqProofs[t0,t5,t6,t7,A0b hX,h0,d,f];refine A1l (c M2) ?_;rintro _ _ ⟨rfl,rfl⟩;simp -dsimp -implicitDefEqProofs[t0,t5,t6,t7,w1];exact⟨⟨i+1,by clear w1;omega,rfl,e⟩,by clear w1;omega⟩
end
def A4R(s:A0M)(k:A0a):Bool:=decide (k.kind=s.k)&&decide (k.label=s.lab)
section
variable (gl:Nat->AV)
def C5f(k:A0a)(s:A0M)(M:Mem):A0c (WC gl) 374 [.agg k.row,.agg s.row] M (λv M'=>v=B (A4R s k)/\M'=M):=by
 have hs:s.row=[I s.k,S s.lab]:=rfl;rw[k.row_eq,hs];refine A0o hB func374 ?_;by_cases h1:k.kind=s.k
 .by_cases h2:k.label=s.lab
  .simp -dsimp -implicitDefEqProofs[A4R,h1,h2]
  .simp -dsimp -implicitDefEqProofs[A4R,h1,h2]
 .simp -dsimp -implicitDefEqProofs[A4R,h1]
set_option maxHeartbeats 20000000 in
def D2X(u:A0a)(s:A0M)(o:Own)(M:Mem)(hf:Fit u)(hs:B9s 1 s):A0c (WC gl) 328 [.agg u.row,.list 2 (A1T [A3a,s]) o] M (λv M'=>v=.list 8 (A0q (u.kids.filter (A4R s))) .no/\M'=M):=by
 refine A0c.dataX ?_;have hv:=λM=>B7b gl [A3a,s] o M (by simp) (by
  intro i h
  match i,h with
  |0,_=>exact .inl ⟨rfl,rfl⟩
  |1,_=>exact hs)
 have a6:=λM=>B9K gl A3a M;have au:D0j A3a=true:=rfl;rw[au]at a6;have b3:A1T [A3a,s]=[A3a.row,s.row]:=rfl;rw[b3]at hv|-;have ay:A3a.row=[I 0,S ⟨#[]⟩]:=rfl;have aq:s.row=[I s.k,S s.lab]:=rfl;obtain⟨b,hb⟩:∃b,b=M.length:=⟨_,rfl⟩;obtain⟨M1,a3⟩:∃M1,M1=M++[A0p.cells 25 [A0x]]:=⟨_,rfl⟩;have ai:M1[b]?=some (.cells 25 [A0x]):=by rw[a3,hb];simp
 have aw:Grow M M1:=by rw[a3];exact A0d.app none _ _
 rw[ay,aq]at hv|-;rw[ay]at a6;rw[u.row_eq];refine A0o (hQ [58]) func328 ?_;simp -dsimp -implicitDefEqProofs;refine A0i func240 (hv M) ?_;simp -dsimp -implicitDefEqProofs[A0l];rw[<-a3,<-hb];refine A0i func324 (a6 M1) ?_;simp -dsimp -implicitDefEqProofs[A0n,A0W,AV.storable,AV.cells,A0h ai];generalize B0o _ _ _ _ _=so;rw[<-u.row_eq];obtain⟨M2,w⟩:∃M2,M2=M1.set b (.cells 25 [.list 8 [u.row] .full]):=⟨_,rfl⟩;have an:b<M1.length:=(Z0a.1 ai).1;have a0:Grow M M2:=by rw[w];exact A1o aw (by omega)
 have av:M2[b]?=some (.cells 25 [.list 8 [u.row] .full]):=by rw[w];simp[an]
 have ba:=A1Q u.kids;have bb:A0f u.kids<A0j u:=by obtain⟨a,b,c,d,e,f⟩:=u;rw[A0j];show A0f f<_;omega
 have b9:=hf.2.2;rw[<-w];refine A0y (hQ [58]) 1 35 (λT Mi=>∃i:Nat,i<=1/\T 5=.ptr b 0/\T 33=.list 2 [[I s.k,S s.lab]] so/\T 34=I 1/\T 35=I i/\Grow M Mi/\∃v,Mi[b]?=some (.cells 25 [v])/\(i=0->v=.list 8 [u.row] .full)/\(i=1->Arr 27 8 A0a.row M.length Mi v (u.kids.filter (A4R s)))) ?_ ?_
 .exact⟨0,by omega,by simp,by simp,by simp,by simp,a0,_,av,λ_=>rfl,λh=>by omega⟩
 clear hv a6 a3 w ai av aw a0 an;rintro T Mi ⟨i,i1,t5,l,m,g,ae,v,ao,aj,b5⟩;by_cases hi:i<1;case neg=>
  have h1:i=1:=by omega
  subst h1;have aa:=b5 rfl;simp -dsimp -implicitDefEqProofs[t5,l,m,g,A0b ao];refine⟨ae,?_⟩;rw[hb];exact A9h aa.own aa.lat
 have h0:i=0:=by omega
 subst h0;have aj:=aj rfl;subst aj;obtain⟨M2,w⟩:∃M2,M2=Mi++[A0p.cells 159 [I s.k,S s.lab]]:=⟨_,rfl⟩;have a0:Grow Mi M2:=by rw[w];exact A0d.app none _ _
 have a7:=a0.get ao (by simp);have b0:M2[Mi.length]?=some (.cells 159 [I s.k,S s.lab]):=by rw[w];simp
 obtain⟨q,hq⟩:∃q,q=Mi.length:=⟨_,rfl⟩;simp -dsimp -implicitDefEqProofs[t5,l,m,g,A0l,A0m,A0e,A0K,A0I];rw[<-w,<-hq];rw[<-hq]at b0;simp -dsimp -implicitDefEqProofs[t5,l,m,g,A0b a7];refine A7L (.exit 3) (λT Mj=>T 5=.ptr b 0/\T 33=.list 2 [[I s.k,S s.lab]] so/\T 34=I 1/\T 35=I 0/\Grow M2 Mj/\Arr 27 8 A0a.row M2.length Mj (T 8) (u.kids.filter (A4R s))) ?_ ?_;case refine_2=>
  have a9:=g;have ad:IntKind.i64.wrap 1=1:=by decide
  clear t5 l m g;rintro T Mj ⟨t5,l,m,g,y,ha⟩;have al:=y.get a7 (by simp);have a5:A0m (some 1) Mj (.ptr b 0) (T 8)=some (Mj.set b (.cells 25 [T 8])):=by rw[A0h al,ha.own.cells,Z0d ⟨ha.own.store,by simp,rfl⟩];rfl
  have ap:b<Mj.length:=(Z0a.1 al).1;have b2:Grow M (Mj.set b (.cells 25 [T 8])):=A1o ((ae.trans a0).trans y) (by omega);have b8:M.length<=M2.length:=(ae.trans a0).1;have b6:Arr 27 8 A0a.row M.length (Mj.set b (.cells 25 [T 8])) (T 8) (u.kids.filter (A4R s)):=⟨ha.own.keep (A0d.set _ _ _) (λf hf e=>by have:=ha.lat f hf;have:=(Z0a.1 a7).1;simp at e;omega),λf hf=>by have:=ha.lat f hf;omega⟩;simp -dsimp -implicitDefEqProofs[t5,l,m,g,a5,a9,ad];exact⟨1,by omega,rfl,b2,T 8,by simp[ap],λh=>by omega,λ_=>b6⟩
 refine A0y (hQ [58]) 1 41 (λT Mj=>∃j:Nat,j<=1/\T 5=.ptr b 0/\T 7=.ptr q 0/\T 33=.list 2 [[I s.k,S s.lab]] so/\T 34=I 1/\T 35=I 0/\T 39=.list 8 [u.row] .full/\T 40=I 1/\T 41=I j/\Grow M2 Mj/\Arr 27 8 A0a.row M2.length Mj (T 8) (if j=0 then[]else u.kids.filter (A4R s))) ?_ ?_
 .exact⟨0,by omega,by simp[t5],by simp,by simp[l],by simp[m],by simp[g],by simp,by simp,by simp,Grow.refl _,by simpa using Arr.nil⟩
 have a9:=g;have ad:IntKind.i64.wrap 1=1:=by decide
 clear t5 l m g;rintro T Mj ⟨j,j1,t5,t7,l,m,g,r,p,n,y,ha⟩;have al:=y.get a7 (by simp);by_cases hj:j<1;case neg=>
  have h1:j=1:=by omega
  subst h1;rw[Z0c (by omega)]at ha;simp -dsimp -implicitDefEqProofs[t5,t7,l,m,g,r,p,n];exact⟨y,ha⟩
 have h0:j=0:=by omega
 subst h0;rw[Z0d rfl]at ha;obtain⟨M3,ag⟩:∃M3,M3=Mj++[A0p.cells 27 u.row]:=⟨_,rfl⟩;have ah:Grow Mj M3:=by rw[ag];exact A0d.app none _ _
 have ax:M3[Mj.length]?=some (.cells 27 u.row):=by rw[ag];simp
 have af:=ha.keep ah;generalize t:T 8=ov at*;simp -dsimp -implicitDefEqProofs[t5,t7,l,m,g,r,p,n,t,A0l,A0m,A0e,A0K,A0I];rw[<-ag];rw[u.row_eq]at ax;simp -dsimp -implicitDefEqProofs[t5,t7,l,m,g,r,p,n,t,A0b ax];have ar:=n;have bc:M2.length<=M3.length:=(y.trans ah).1;refine A7L (.exit 5) (λT Mk=>T 5=.ptr b 0/\T 7=.ptr q 0/\T 33=.list 2 [[I s.k,S s.lab]] so/\T 34=I 1/\T 35=I 0/\T 39=.list 8 [u.row] .full/\T 40=I 1/\T 41=I 0/\Grow M2 Mk/\Arr 27 8 A0a.row M2.length Mk (T 8) (u.kids.filter (A4R s))) ?_ ?_;case refine_2=>clear t5 t7 l m g r p n ha af t;rintro T Mk ⟨t5,t7,l,m,g,r,p,n,z,ha⟩;simp -dsimp -implicitDefEqProofs[t5,t7,l,m,g,r,p,n,ar,ad];exact⟨1,by omega,rfl,z,by simpa using ha⟩
 refine A0y (hQ [58]) u.kids.length 48 (λT Mk=>∃k:Nat,k<=u.kids.length/\T 5=.ptr b 0/\T 7=.ptr q 0/\T 33=.list 2 [[I s.k,S s.lab]] so/\T 34=I 1/\T 35=I 0/\T 39=.list 8 [u.row] .full/\T 40=I 1/\T 41=I 0/\T 46=.list 8 (A0q u.kids) .no/\T 47=I u.kids.length/\T 48=I k/\Grow M2 Mk/\Arr 27 8 A0a.row M2.length Mk (T 8) ((u.kids.take k).filter (A4R s))) ?_ ?_
 .exact⟨0,by omega,by simp[t5],by simp[t7],by simp[l],by simp[m],by simp[g],by simp[r],by simp[p],by simp[n],by simp,by simp,by simp,y.trans ah,by simpa[t]using af⟩
 clear t5 t7 l m g r p n ha af t;rintro T Mk ⟨k,k1,t5,t7,l,m,g,r,p,n,t46,a2,a1,z,ha⟩;by_cases hk:k<u.kids.length;case neg=>
  have ab:¬(k:Int)<u.kids.length:=by omega
  rw[Z0k (by omega)]at ha;simp -dsimp -implicitDefEqProofs[t5,t7,l,m,g,r,p,n,t46,a2,a1,ab];exact⟨z,ha⟩
 have ab:(k:Int)<u.kids.length:=by omega
 obtain⟨x,hx⟩:∃x,x=u.kids[k]:=⟨_,rfl⟩;have b1:u.kids[k]=x:=hx.symm;have b4:=z.get b0 (by simp);obtain⟨M5,ak⟩:∃M5,M5=Mk++[A0p.cells 27 x.row]:=⟨_,rfl⟩;have a8:Grow Mk M5:=by rw[ak];exact A0d.app none _ _
 have am:M5[Mk.length]?=some (.cells 27 x.row):=by rw[ak];simp
 have b7:=a8.get b4 (by simp);have ac:=ha.keep a8;have az:=C5f gl x s M5;rw[aq]at az;have a4:(u.kids.take (k+1)).filter (A4R s)=(u.kids.take k).filter (A4R s)++(if A4R s x=true then[x]else[]):=by rw[Z1j,Z0m hk,Z2K,hx];simp only[Z3t,Z2a,List.filter_nil]
 generalize t:T 8=ov at*;simp -dsimp -implicitDefEqProofs[t5,t7,l,m,g,r,p,n,t46,a2,a1,t,ab,hk,b1,A0l,A0m,A0e,A0K,A0I];rw[<-ak];simp -dsimp -implicitDefEqProofs[t5,t7,l,m,g,r,p,n,t46,a2,a1,t,A0b am,A0b b7];refine A0i func374 az ?_;have w1:=A1E (i:=k) (by omega);cases a5:A4R s x
 .rw[a5,Z0c (by simp),Z1b]at a4;simp -dsimp -implicitDefEqProofs[t5,t7,l,m,g,r,p,n,t46,a2,a1,t,w1];exact⟨⟨k+1,by clear w1;omega,rfl,z.trans a8,by rw[a4];exact ac⟩,by clear w1;omega⟩
 .rw[a5,Z0d rfl]at a4;simp -dsimp -implicitDefEqProofs[t5,t7,l,m,g,r,p,n,t46,a2,a1,t,A0b am,A0n,A0W,A0K,A0I];refine A3p (C:=WC gl) (enc:=A0a.row) (e:=27) (sz:=8) (news:=[x]) A7P B2g B1T A0a.row_len ac.own (by simp[A0A]) (by have:=Z3E (A4R s) (u.kids.take k);simp at this|-;omega) rfl ?_;intro v' M' h1 h2 h3 _;obtain⟨g1,g2⟩:=A2D (X:=[]) (z.trans a8) ac.lat (by simpa using h2) (by simpa using h3);simp -dsimp -implicitDefEqProofs[t5,t7,l,m,g,r,p,n,t46,a2,a1,w1];exact⟨⟨k+1,by clear w1;omega,rfl,g1,by rw[a4];exact⟨h1,g2⟩⟩,by clear w1;omega⟩
end
section
variable (gl:Nat->AV)
def D0m(u:A0a)(pv:AV)(R:List A0a)(M:Mem)(hR:R.length<=1000)(m:∀M,A0c (WC gl) 328 [.agg u.row,pv] M (λv M'=>v=.list 8 (A0q R) .no/\M'=M)):
 A0c (WC gl) 244 [.agg u.row,pv] M (λv M'=>v=.list 3 (A4C (R.map A0a.id)) .no/\M'=M):=by
 refine A0c.dataX ?_
 obtain⟨a,b⟩:∃a,a=R.map A0a.id:=⟨_,rfl⟩
 rw[<-b]
 have p:a.length=R.length:=by rw[b];simp
 rw[u.row_eq]at m|-
 refine A0o (hQ [20]) func244 ?_
 simp -dsimp -implicitDefEqProofs
 refine A0i func328 (m M) ?_
 simp -dsimp -implicitDefEqProofs
 refine A0y (hQ [20]) R.length 12 (λT M1=>∃i:Nat,i<=R.length/\T 10=.list 8 (A0q R) .no/\T 11=I R.length/\T 12=I i/\Grow M M1/\Arr 23 3 IdD.row M.length M1 (T 5) (a.take i)) ?_ ?_
 .exact⟨0,by omega,by simp,by simp,by simp,Grow.refl _,by simpa using Arr.nil⟩
 rintro T M1 ⟨i,i1,c,f,d,hg,ha⟩
 by_cases hi:i<R.length
 case neg=>
  have g:¬(i:Int)<R.length:=by omega
  rw[Z0k (by omega)]at ha;simp -dsimp -implicitDefEqProofs[c,f,d,g];exact⟨hg,A3i (enc:=IdD.row) (λ_=>rfl) C9h ha.own ha.lat⟩
 have g:(i:Int)<R.length:=by omega
 have w1:=A1E (i:=i) (by omega)
 obtain⟨x,hx⟩:∃x,x=R[i]:=⟨_,rfl⟩
 have n:R[i]=x:=hx.symm
 obtain⟨M2,h⟩:∃M2,M2=M1++[A0p.cells 27 x.row]:=⟨_,rfl⟩
 have j:Grow M1 M2:=by rw[h];exact A0d.app none _ _
 have hX:M2[M1.length]?=some (.cells 27 x.row):=by rw[h];simp
 have l:=ha.keep j
 have o:a.take (i+1)=a.take i++[x.id]:=by rw[Z1j,b,Z1l,Z0m hi,hx];rfl
 generalize k:T 5=ov at*
 simp -dsimp -implicitDefEqProofs[c,f,d,k,hi,g,n,A0l,A0m,A0e,A0K,A0I]
 rw[<-h]
 rw[x.row_eq]at hX
 simp -dsimp -implicitDefEqProofs[c,f,d,k,A0b hX,A0n,A0W,A0K,A0I]
 refine A3p (C:=WC gl) (enc:=IdD.row) (e:=23) (sz:=3) (news:=[x.id]) C4W D0x D1k (λ_=>rfl) l.own (by simp[A0A,IdD.row]) (by simp;omega) rfl ?_
 intro v' M' h1 h2 h3 _
 obtain⟨g1,g2⟩:=A2D (X:=[]) (hg.trans j) l.lat (by simpa using h2) (by simpa using h3)
 simp -dsimp -implicitDefEqProofs[c,f,d,w1]
 exact⟨⟨i+1,by clear w1;omega,rfl,g1,by rw[o];exact⟨h1,g2⟩⟩,by clear w1;omega⟩
def B3B(u x:A0a)(pv:AV)(M:Mem)(h:∀M,A0c (WC gl) 328 [.agg u.row,pv] M (λv M'=>v=.list 8 (A0q [x]) .no/\M'=M)):
 A0c (WC gl) 191 [.agg u.row,pv] M (λv M'=>v=.tuple [.agg x.id.row,I 0]/\M'=M):=by
 refine A0c.dataX ?_
 obtain⟨Ma,b⟩:∃Ma,Ma=M++[A0p.cells 23 [I 0,I 0,I 0]]:=⟨_,rfl⟩
 have e:Grow M Ma:=by rw[b];exact A0d.app none _ _
 have c:Ma[M.length]?=some (A0p.cells 23 [I 0,I 0,I 0]):=by rw[b];simp
 have d:M.length<Ma.length:=(Z0a.1 c).1
 have a:=D0m gl u pv [x] Ma (by simp) h
 have f:A4C ([x].map A0a.id)=[[I x.id.act,I x.id.item,I x.id.n]]:=rfl
 have g:x.id.row=[I x.id.act,I x.id.item,I x.id.n]:=rfl
 rw[f]at a
 rw[g]
 rw[u.row_eq]at a|-
 refine A0o hB func191 ?_
 simp -dsimp -implicitDefEqProofs[A0l]
 rw[<-b]
 refine A0i func244 a ?_
 simp -dsimp -implicitDefEqProofs[A0h c,A0K,A0I,A0z d,A0k]
 exact⟨A1o e (Z0n _),.same (by simp[bdd,A1Y]) .nil⟩
end
section
variable (gl:Nat->AV)
def C8t(l:List A0a)(M:Mem)(hl:l.length<=1000000):A0c (WC gl) 52 [.list 8 (A0q l) .no] M (λv M'=>A1b 27 8 A0a.row M' v l/\Grow M M'/\A1g M.length v):=by
 refine A0o hW func52 ?_;have tail:∀(K:AV->Mem->Prop) (tg:Tag K),(∀v M',(A1b 27 8 A0a.row M' v l/\Grow M M'/\A1g M.length v)->K v M')->A5x (WC gl) (A2y hW.own (some 7)) (A2y hW.vec (some 7)) 25 25 (.vref M.length 0 8 0 0) (.list 8 (A0q l) .no) (M++[.vec 27 8 [] 0 [(0,0)]]) K tg:=by intro K tg hk;have ho:A1b 27 8 A0a.row (M++[.vec 27 8 [] 0 [(0,0)]]) (.vref M.length 0 8 0 0) []:=.inr ⟨M.length,0,[(0,0)],rfl,by simp,by simp[List.lookup]⟩;refine A3p (C:=WC gl) (enc:=A0a.row) (e:=27) (sz:=8) (news:=l) A7P B2g B1T A0a.row_len ho (by simp only[A0A,B0D,B3a];simp) (by simp;omega) rfl ?_;intro v' M' h1 h2 h3 _;obtain⟨r1,r2⟩:=A2D (X:=[]) (A0d.app none M [.vec 27 8 [] 0 [(0,0)]]) (v:=.vref M.length 0 8 0 0) (λf hf=>by simp at hf;omega) (by simpa using h2) (by simpa using h3);exact hk _ _ ⟨h1,r1,r2⟩
 cases l with
 |nil=>
  simp -dsimp -implicitDefEqProofs[A0q];rw[A7w (.inl rfl) underlying25];intro b;cases b
  .simp -dsimp -implicitDefEqProofs[A1J,A0W];refine tail _ _ λv M' h=>?_;simp -dsimp -implicitDefEqProofs;exact h
  .simp -dsimp -implicitDefEqProofs;exact⟨.nil,A0d.refl _ _,λf h=>by simp at h⟩
 |cons a l=>
  have hr:A0q (a::l)=a.row::A0q l:=by rw[A0q]
  rw[hr];simp -dsimp -implicitDefEqProofs[A1J,A0W];rw[<-hr];refine tail _ _ λv M' h=>?_;simp -dsimp -implicitDefEqProofs;exact h
end
mutual
def A4P(x:IdD):A0a->Option (List A0M)
 |.mk id _ _ _ _ ks=>if id=x then some []else A3D x ks
def A3D(x:IdD):List A0a->Option (List A0M)
 |[]=>none
 |k::ks=>match A4P x k with
  |some p=>some (⟨k.kind,k.label⟩::p)
  |none=>A3D x ks
end
mutual
def B0q(x:IdD):∀u:A0a,((A4P x u).getD []).length<=A0j u
 |.mk id _ _ _ _ ks=>by
  have:=B8d x ks;rw[A4P,A0j];split
  .simp
  .omega
def B8d(x:IdD):∀ks:List A0a,((A3D x ks).getD []).length<=A0f ks
 |[]=>by rw[A3D];simp
 |k::ks=>by
  have h1:=B0q x k;have h2:=B8d x ks;have h3:=A3X k;rw[A3D,A0f];cases hk:A4P x k with
  |none=>simp only;omega
  |some p=>rw[hk]at h1;simp only[Z1y,Z0x]at h1|-;have h4:=D1F x k p hk;omega
def D1F(x:IdD):∀(u:A0a) (p:List A0M),A4P x u=some p->p.length+1<=A0j u
 |.mk id _ _ _ _ ks,p,h=>by
  rw[A4P]at h;rw[A0j];split at h
  .cases h;simp
  .have:=B8d x ks;rw[h,Z1y]at this;omega
end
abbrev D2O(o:Option (List A0M)):AV:=.tuple [A9r (o.getD []),B o.isSome]
def B0Y(p:List A0M):(p.map A0M.row).flatten=p.flatMap A0M.row:=by simp[List.flatMap]
def B3c{M}{n}{v}{p}(h:A1b 159 2 A0M.row M v p)(hn:A1g n v):Still M n (bdd n) [.tuple [v,B true]] [D2O (some p)]:=.tuple (Still.append (a:=[v]) (b:=[A9r p]) (c:=[B true]) (d:=[B true]) (A3i (enc:=A0M.row) (λ_=>rfl) C0L h hn) (.same trivial .nil)) .nil
section
variable (gl:Nat->AV)
def B4t{s:A0M}{M:Mem}:A1J prog 40 1 [(0,.agg [I s.k,S s.lab])] M=some (.vref M.length 0 2 0 1,M++[.vec 159 2 [I s.k,S s.lab] 0 [(0,1)]]):=by simp[A1J,A0W,AV.storable,AV.cells]
def D5N:∀(u:A0a) (x:IdD) (M:Mem),u.good->A0j u<=1000->A0c (WC gl) 124 [.agg u.row,.agg x.row] M (λv M'=>v=D2O (A4P x u)/\M'=M)
 |.mk id kind lab hd ws ks,x,M,hg,hc=>by
  obtain⟨_,_,a4,_,a2,_,a5,a0,o⟩:=(A0a.good_iff _).1 hg;have o:∀k∈ks,k.good:=o;have a3:1+A0f ks<=1000:=by rwa[A0j]at hc
  have a1:=A1Q ks;have t:(A0a.mk id kind lab hd ws ks).row=[I id.act,I id.item,I id.n,I kind,S lab,.list 4 (A0g hd) .no,.list 4 (A0g ws) .no,.list 8 (A0q ks) .no]:=by rw[A0a.row]
  have hx:x.row=[I x.act,I x.item,I x.n]:=rfl;have he:=B3h id x;refine A0c.dataX ?_;rw[t,hx];refine A0o (hQ [33,35]) func124 ?_;by_cases h0:id=x
  .rw[Z0v h0]at he;(have hr:A4P x (.mk id kind lab hd ws ks)=some []:=by rw[A4P,Z0d h0]);rw[hr];simp -dsimp -implicitDefEqProofs[he];exact⟨Grow.refl _,.tuple (.nilS (.same trivial .nil)) .nil⟩
  rw[Z0y h0]at he;have hr:A4P x (.mk id kind lab hd ws ks)=A3D x ks:=by rw[A4P,Z0c h0]
  rw[hr];generalize hR:A3D x ks=R;simp -dsimp -implicitDefEqProofs[he];refine A0y (hQ [33,35]) ks.length 17 (λT M1=>∃i:Nat,Grow M M1/\i<=ks.length/\T 3=.cptr [I x.act,I x.item,I x.n]/\T 15=.list 8 (A0q ks) .no/\T 16=I ks.length/\T 17=I i/\R=A3D x (ks.drop i)) ?_ ?_
  .exact⟨0,Grow.refl _,by omega,by simp,by simp,by simp,by simp,by simp[hR]⟩
  rintro T M1 ⟨i,h,i1,t3,c,a,b,ho⟩;by_cases hi:i<ks.length;case neg=>
   (have q:¬(i:Int)<ks.length:=by omega);rw[show ks.drop i=[]from Z0o (by omega),A3D]at ho
   subst ho;simp -dsimp -implicitDefEqProofs[t3,c,a,b,q];exact⟨h,.tuple (.nilS (.same trivial .nil)) .nil⟩
  have q:(i:Int)<ks.length:=by omega
  have w1:=A1E (i:=i) (by omega);have d:ks[i]∈ks:=Z0q hi;have a6:=A2u d;rw[Z0i hi,A3D]at ho;obtain⟨M2,r⟩:∃M2,M2=M1++[A0p.cells 27 ks[i].row]:=⟨_,rfl⟩;have l:Grow M1 M2:=by rw[r];exact A0d.app none _ _
  have m:M2[M1.length]?=some (A0p.cells 27 ks[i].row):=by rw[r];simp
  have:=A0a.kid_lt (u:=.mk id kind lab hd ws ks) d;have g:=D5N ks[i] x M2 (o _ d) (by omega);have j:=B0q x ks[i];rw[hx]at g;simp -dsimp -implicitDefEqProofs[t3,c,a,b,hi,q,A0l,A0m,A0e,AV.storable,AV.cells];rw[<-r];simp -dsimp -implicitDefEqProofs[t3,c,a,b,A0b m];refine A0i func124 g ?_;rw[A0a.row_eq]at m;cases hw:A4P x ks[i]with
  |none=>rw[hw]at ho;simp -dsimp -implicitDefEqProofs[t3,c,a,b,w1];exact⟨⟨h.trans l,i+1,by clear w1;omega,rfl,ho⟩,by clear w1;omega⟩
  |some p=>rw[hw]at ho j;simp only[Z1y]at j;subst ho;obtain⟨s,hs⟩:∃s:A0M,s=⟨ks[i].kind,ks[i].label⟩:=⟨_,rfl⟩;(have w:ks[i].kind=s.k:=by rw[hs]);(have y:ks[i].label=s.lab:=by rw[hs]);simp -dsimp -implicitDefEqProofs[t3,c,a,b,A0b m,w,y,B4t];have z:A1b 159 2 A0M.row (M2++[.vec 159 2 [I s.k,S s.lab] 0 [(0,1)]]) (.vref M2.length 0 2 0 1) [s]:=.inr ⟨M2.length,0,[(0,1)],rfl,by simp[A0M.row],by simp[List.lookup]⟩;refine A3p (C:=WC gl) (enc:=A0M.row) (e:=159) (sz:=2) (news:=p) B1U B6w B2c (λ_=>rfl) z (by simp[A0A,B0Y]) (by simp;omega) rfl ?_;intro v' M3 q1 q2 q3 _;obtain⟨r1,r2⟩:=A2D (X:=[]) ((h.trans l).trans (A0d.app none _ [.vec 159 2 [I s.k,S s.lab] 0 [(0,1)]])) (v:=.vref M2.length 0 2 0 1) (λf hf=>by simp at hf;have:=(h.trans l).1;omega) (by simpa using q2) (by simpa using q3);rw[<-hs];simp -dsimp -implicitDefEqProofs;exact⟨r1,B3c q1 r2⟩
termination_by u=>SizeOf.sizeOf u
def C8b:∀(u:A0a) (x:IdD) (M:Mem),u.good->A0j u<=1000->A0c (WC gl) 94 [.agg u.row,.agg x.row] M (λv M'=>v=D2O (A4P x u)/\M'=M)
 |.mk id kind lab hd ws ks,x,M,hg,hc=>by
  obtain⟨_,_,y,_,t,_,z,q,h⟩:=(A0a.good_iff _).1 hg;have h:∀k∈ks,k.good:=h;have w:1+A0f ks<=1000:=by rwa[A0j]at hc
  have r:=A1Q ks;have j:(A0a.mk id kind lab hd ws ks).row=[I id.act,I id.item,I id.n,I kind,S lab,.list 4 (A0g hd) .no,.list 4 (A0g ws) .no,.list 8 (A0q ks) .no]:=by rw[A0a.row]
  have hx:x.row=[I x.act,I x.item,I x.n]:=rfl;have he:=B3h id x;refine A0c.dataX ?_;rw[j,hx];refine A0o (hQ [45,47]) func94 ?_;by_cases h0:id=x
  .rw[Z0v h0]at he;(have hr:A4P x (.mk id kind lab hd ws ks)=some []:=by rw[A4P,Z0d h0]);rw[hr];simp -dsimp -implicitDefEqProofs[he];exact⟨Grow.refl _,.tuple (.dis (B4q _ []) (.same trivial .nil)) .nil⟩
  rw[Z0y h0]at he;have hr:A4P x (.mk id kind lab hd ws ks)=A3D x ks:=by rw[A4P,Z0c h0]
  rw[hr];generalize hR:A3D x ks=R;simp -dsimp -implicitDefEqProofs[he];refine A0y (hQ [45,47]) ks.length 6 (λT M1=>∃i:Nat,Grow M M1/\i<=ks.length/\T 2=.cptr [I id.act,I id.item,I id.n,I kind,S lab,.list 4 (A0g hd) .no,.list 4 (A0g ws) .no,.list 8 (A0q ks) .no]/\T 3=.cptr [I x.act,I x.item,I x.n]/\T 6=I i/\R=A3D x (ks.drop i)) ?_ ?_
  .exact⟨0,Grow.refl _,by omega,by simp,by simp,by simp,by simp[hR]⟩
  rintro T M1 ⟨i,d,i1,t2,t3,t6,ho⟩;by_cases hi:i<ks.length;case neg=>
   (have a:¬(i:Int)<ks.length:=by omega);rw[show ks.drop i=[]from Z0o (by omega),A3D]at ho
   subst ho;simp -dsimp -implicitDefEqProofs[t2,t3,t6,a];exact⟨d,.tuple (.nilS (.same trivial .nil)) .nil⟩
  have a:(i:Int)<ks.length:=by omega
  have w1:=A1E (i:=i) (by omega);have b:ks[i]∈ks:=Z0q hi;have a0:=A2u b;rw[Z0i hi,A3D]at ho;have:=A0a.kid_lt (u:=.mk id kind lab hd ws ks) b;have c:=λM=>C8b ks[i] x M (h _ b) (by omega);have g:=B0q x ks[i];rw[hx]at c;simp -dsimp -implicitDefEqProofs[t2,t3,t6,hi,a];refine A0X (hQ [45,47]) (A0t gl) (λ_=>0) (λ_=>0) (by rfl) (by kernel_rfl) ?_;simp -dsimp -implicitDefEqProofs[t2,t3,t6,hi,a];refine A1G func94 c ?_;cases hw:A4P x ks[i]with
  |none=>rw[hw]at ho;simp -dsimp -implicitDefEqProofs[t2,t3,t6,w1];exact⟨⟨d,i+1,by clear w1;omega,rfl,ho⟩,by clear w1;omega⟩
  |some p=>rw[hw]at ho g;simp only[Z1y]at g;subst ho;obtain⟨s,hs⟩:∃s:A0M,s=⟨ks[i].kind,ks[i].label⟩:=⟨_,rfl⟩;(have l:ks[i].kind=s.k:=by rw[hs]);(have m:ks[i].label=s.lab:=by rw[hs]);simp -dsimp -implicitDefEqProofs[t2,t3,t6];refine A0X (hQ [45,47]) (A0t gl) (λk=>if k=13\/k=15 then 2 else 0) (λ_=>0) (by rfl) (by kernel_rfl) ?_;simp -dsimp -implicitDefEqProofs[t2,t3,t6,hi,a,A0a.row_eq,l,m,B4t];have o:A1b 159 2 A0M.row (M1++[.vec 159 2 [I s.k,S s.lab] 0 [(0,1)]]) (.vref M1.length 0 2 0 1) [s]:=.inr ⟨M1.length,0,[(0,1)],rfl,by simp[A0M.row],by simp[List.lookup]⟩;refine A3p (C:=WC gl) (enc:=A0M.row) (e:=159) (sz:=2) (news:=p) B1U B6w B2c (λ_=>rfl) o (by simp[A0A,B0Y]) (by simp;omega) rfl ?_;intro v' M3 q1 q2 q3 _;obtain⟨r1,r2⟩:=A2D (X:=[]) (d.trans (A0d.app none _ [.vec 159 2 [I s.k,S s.lab] 0 [(0,1)]])) (v:=.vref M1.length 0 2 0 1) (λf hf=>by simp at hf;have:=d.1;omega) (by simpa using q2) (by simpa using q3);rw[<-hs];simp -dsimp -implicitDefEqProofs;exact⟨r1,B3c q1 r2⟩
termination_by u=>SizeOf.sizeOf u
def A6A(u:A0a)(x:IdD):Option (List A0M):=(A4P x u).map (A3a::·)
def D7C(u:A0a)(x:IdD)(M:Mem)(hg:u.good)(hc:A0j u<=1000):A0c (WC gl) 70 [.agg u.row,.agg x.row] M (λv M'=>v=D2O (A6A u x)/\M'=M):=by
 refine A0c.dataX ?_;have hx:x.row=[I x.act,I x.item,I x.n]:=rfl;have a:=D5N gl u x M hg hc;have b:=B0q x u;rw[hx]at a|-;refine A0o (hQ [17,19]) func70 ?_;simp -dsimp -implicitDefEqProofs;refine A0i func124 a ?_;cases hw:A4P x u with
 |none=>simp -dsimp -implicitDefEqProofs[A6A,hw];exact⟨Grow.refl _,.tuple (.nilS (.same trivial .nil)) .nil⟩
 |some p=>
  rw[hw]at b;simp only[Z1y]at b;have hf:A6A u x=some (A3a::p):=by simp[A6A,hw]
  rw[hf];have hv:=B4t (s:=A3a) (M:=M);simp only[A3a]at hv;simp -dsimp -implicitDefEqProofs[hv,C1c];have c:A1b 159 2 A0M.row (M++[.vec 159 2 [I 0,S ⟨#[]⟩] 0 [(0,1)]]) (.vref M.length 0 2 0 1) [A3a]:=.inr ⟨M.length,0,[(0,1)],rfl,by simp[A0M.row,A3a],by simp[List.lookup]⟩;refine A3p (C:=WC gl) (enc:=A0M.row) (e:=159) (sz:=2) (news:=p) B1U B6w B2c (λ_=>rfl) c (by simp[A0A,B0Y]) (by simp;omega) rfl ?_;intro v' M3 q1 q2 q3 _;obtain⟨r1,r2⟩:=A2D (X:=[]) ((Grow.refl M).trans (A0d.app none _ [.vec 159 2 [I 0,S ⟨#[]⟩] 0 [(0,1)]])) (v:=.vref M.length 0 2 0 1) (λf hf=>by simp at hf;omega) (by simpa using q2) (by simpa using q3);simp -dsimp -implicitDefEqProofs;exact⟨r1,B3c q1 r2⟩
def C6O(u:A0a)(x:IdD)(M:Mem)(hg:u.good)(hc:A0j u<=1000):A0c (WC gl) 36 [.agg u.row,.agg x.row] M (λv M'=>v=D2O (A6A u x)/\M'=M):=by
 refine A0c.dataX ?_;have hx:x.row=[I x.act,I x.item,I x.n]:=rfl;have a:=C8b gl u x M hg hc;have b:=B0q x u;rw[hx]at a|-;refine A0o (hQ [17,19]) func36 ?_;simp -dsimp -implicitDefEqProofs;refine A0i func94 a ?_;cases hw:A4P x u with
 |none=>simp -dsimp -implicitDefEqProofs[A6A,hw];exact⟨Grow.refl _,.tuple (.nilS (.same trivial .nil)) .nil⟩
 |some p=>
  rw[hw]at b;simp only[Z1y]at b;have hf:A6A u x=some (A3a::p):=by simp[A6A,hw]
  rw[hf];have hv:=B4t (s:=A3a) (M:=M);simp only[A3a]at hv;simp -dsimp -implicitDefEqProofs[hv];have c:A1b 159 2 A0M.row (M++[.vec 159 2 [I 0,S ⟨#[]⟩] 0 [(0,1)]]) (.vref M.length 0 2 0 1) [A3a]:=.inr ⟨M.length,0,[(0,1)],rfl,by simp[A0M.row,A3a],by simp[List.lookup]⟩;refine A3p (C:=WC gl) (enc:=A0M.row) (e:=159) (sz:=2) (news:=p) B1U B6w B2c (λ_=>rfl) c (by simp[A0A,B0Y]) (by simp;omega) rfl ?_;intro v' M3 q1 q2 q3 _;obtain⟨r1,r2⟩:=A2D (X:=[]) ((Grow.refl M).trans (A0d.app none _ [.vec 159 2 [I 0,S ⟨#[]⟩] 0 [(0,1)]])) (v:=.vref M.length 0 2 0 1) (λf hf=>by simp at hf;omega) (by simpa using q2) (by simpa using q3);simp -dsimp -implicitDefEqProofs;exact⟨r1,B3c q1 r2⟩
end
def B5q(p:Int->Bool)(s:ByteArray):∀(n i j:Nat),i<=j->j<i+n->(A1P p s n i<0\/(j:Int)<A1P p s n i)->p (A0L s j)=false
 |0,i,j,h1,h2,_=>by omega
 |n+1,i,j,h1,h2,h=>by
  rw[A1P]at h;cases hp:p (A0L s i)with
  |true=>rw[hp,Z0d rfl]at h;omega
  |false=>
   rw[hp,Z0c (by simp)]at h;by_cases e:j=i
   .rw[e];exact hp
   .exact B5q p s n (i+1) j (by omega) (by omega) h
def A5Q(s:ByteArray){j:Nat}(h:j<A0Z s):48<=A0L s j/\A0L s j<=57:=by
 have a:=A5Y s;have:=B5q (A1j 48 57) s s.size 0 j (by omega) (by omega) (by
  simp only[A0Z]at h;split at h
  .left;assumption
  .right;omega)
 simp only[A1j,Z1Z,Z1e]at this;omega
def A9s(s:ByteArray):Nat->Nat->Int->Int
 |0,_,n=>n
 |r+1,i,n=>A9s s r (i+1) (10*n+(A0L s i-48))
def B4J(s:ByteArray)(d:Nat)(hd:d<=s.size):∀(r i:Nat) (n:Int),i+r<=d->A9s (s.extract 0 d) r i n=A9s s r i n
 |0,i,n,_=>rfl
 |r+1,i,n,h=>by
  have:A0L (s.extract 0 d) i=A0L s i:=by have:=A4b (s:=s) (i:=0) (j:=d) (k:=i) (by omega) (by omega);simpa using this
  rw[A9s,A9s,this];exact B4J s d hd r (i+1) _ (by omega)
def A3J(s:ByteArray):Int:=A9s s (A0Z s) 0 0
def A3G(s:ByteArray):ByteArray:=s.extract (A0Z s) s.size
section
variable (gl:Nat->AV) (M:Mem)
def D7i(s:ByteArray)(h1:1<=s.size)(h4:s.size<=4)(hd:∀i,i<s.size->48<=A0L s i/\A0L s i<=57):A0c (WC gl) 212 [S s] M (λv M'=>v=.tuple [I (A9s s s.size 0 0),.val .nilIface]/\M'=M):=by
 refine A3b hB func212 rfl rfl rfl rfl rfl rfl ?_;have a1:(0:Int)<s.size:=by omega
 have a2:(s.size:Int)<10:=by omega
 have a3:(s.size:Int)<19:=by omega
 obtain⟨b1,b2⟩:=hd 0 (by omega);have c1:¬A0L s 0=45:=by omega
 have c2:¬A0L s 0=43:=by omega
 have a:0<s.size:=by omega
 simp -dsimp -implicitDefEqProofs[a1,a2,a3,c1,c2,a,A4v];rw[C5T gl (s:=s) (by rfl) (by omega)];simp -dsimp -implicitDefEqProofs;refine A1R hB (λT M1=>∃i:Nat,i<=s.size/\M1=M/\T 5=S s/\T 47=.list 1 (B2y s) .no/\T 48=I s.size/\T 49=I i/\∃n:Int,T 6=I n/\A9s s s.size 0 0=A9s s (s.size-i) i n/\0<=n/\n<=9999/\(i=0->n=0)/\(i=1->n<=9)/\(i=2->n<=99)/\(i=3->n<=999)) (λT M1=>match T 49 with|.val (.int _ i)=>s.size-i.toNat|_=>0) (by kernel_rfl) ?_ ?_
 .exact⟨0,by omega,rfl,by simp,by simp,by simp,by simp,0,by simp,by simp,by omega,by omega,by omega,by omega,by omega,by omega⟩
 rintro T M1 ⟨i,i1,rfl,t5,e,d,c,n,t6,ho,n1,n2,n3,n4,n5,n6⟩;by_cases hi:i<s.size
 .have b:(i:Int)<s.size:=by omega
  have w1:=A1E (i:=i) (by omega);obtain⟨d1,d2⟩:=hd i hi;have hw:IntKind.u8.wrap (A0L s i-48)=A0L s i-48:=by rw[IntWalk.u8_in _ ⟨by omega,by omega⟩]
  have hg:¬A0L s i-48>9:=by omega
  have f:¬(9:Int)<A0L s i-48:=by omega
  have wm:IntKind.i64.wrap (n*10)=n*10:=A0J (by omega) (by omega);have wc:IntKind.i64.wrap (A0L s i-48)=A0L s i-48:=A0J (by omega) (by omega);have wa:IntKind.i64.wrap (n*10+(A0L s i-48))=n*10+(A0L s i-48):=A0J (by omega) (by omega);rw[show s.size-i=(s.size-(i+1))+1 by omega,A9s]at ho;simp -dsimp -implicitDefEqProofs[t5,e,d,c,t6,hi,b,hw,hg,f,wm,wc,wa,w1,A4v];rw[Int.mul_comm 10 n]at ho;clear wm wa wc hw;exact⟨⟨i+1,by clear w1;omega,rfl,ho,by omega,by clear w1;omega,by clear w1;omega,by clear w1;omega,by clear w1;omega,by clear w1;omega⟩,by clear w1;omega⟩
 .have b:¬(i:Int)<s.size:=by omega
  rw[show s.size-i=0 by omega,A9s]at ho;simp -dsimp -implicitDefEqProofs[t5,e,d,c,t6,b,c1,a,ho]
def E0J{x:Operand}{t2:TypeId}{d:Option Tmp}{t:TypeId}{p:String}{af:Array Edge}{g:Option (Nat×Bool)}{K:AV->Mem->Prop}{ρ:Operand->AV}{h:A2r}(hx:ρ x=.val .nilIface)(hy:ρ (.const .nilIface)=.val .nilIface)(hk:K (B false) M):A4D (WC gl) h ⟨d,.binOp .neq 118 x (.const .nilIface) t2,t,p,af,g⟩ K ρ M:=by
 rw[C0d]
 have e0:A1z prog .neq 118 (.val .nilIface) (.val .nilIface)=none:=by kernel_rfl
 have e1:B1p prog 118 true (.val .nilIface) (.val .nilIface)=some true:=by kernel_rfl
 unfold C7P
 rw[hx,hy]
 simp only[E3o,e0,Z3e,A0Y,hx,hy,B0C,e1,Z1f,Z1U]
 exact hk
def D7h(s:ByteArray)(h1:1<=s.size)(h4:s.size<=4)(hd:∀i,i<s.size->48<=A0L s i/\A0L s i<=57):A0c (WC gl) 165 [S s] M (λv M'=>v=.tuple [I (A9s s s.size 0 0),.val .nilIface]/\M'=M):=by
 refine A8F (C:=WC gl) (f:=165) func165 rfl rfl rfl rfl rfl (A5B (h:=hB) _ _ _ _ rfl ?_);simp only[D4i,C2o,B7Z,C3d,A4S,C2V,B7n,B4Q];change A4A (WC gl) 212 [S s] M _;refine(A0V func212 rfl rfl (D7i gl M s h1 h4 hd)).mono ?_;rintro _ M1 ⟨rfl,rfl⟩;have hx:∀(o:Oper) (K:AV->Mem->Prop) (ρ:Operand->AV) (x:Operand) (i:Nat) (vs:List AV) (v:AV),o.op=.extract x i->ρ x=.tuple vs->vs[i]?=some v->K v M1->A4D (WC gl) hB o K ρ M1:=by
  intro o K ρ x i vs v ho hv hi hk;obtain⟨d,op,t,p,af,g⟩:=o;simp only at ho;subst ho;have e:A0Q (WC gl) hB ⟨d,.extract x i,t,p,af,g⟩ ρ M1=some (v,M1):=by simp[A0Q,A0E,hv,hi]
  rw[A3A rfl rfl,e];exact hk
 refine hx _ _ _ _ 0 _ _ rfl rfl rfl ?_;refine hx _ _ _ _ 1 _ _ rfl rfl rfl ?_;refine E0J gl _ rfl rfl ?_;rw[D7K (b:=false) rfl,Z0c (by simp)];simp only[D8A,B4Q,D4i,C2o,B7Z,C3d,A4S,C2V,B7n,D9P,D3E,C3z];have e:∀T:Env,T 2=I (A9s s s.size 0 0)->T 3=.val .nilIface->A5o (WC gl) [ResultVar.tmp 2,ResultVar.tmp 3] T M1=some (.tuple [I (A9s s s.size 0 0),.val .nilIface]):=by intro T h2 h3;simp[A5o,h2,h3]
 rw[e _ rfl rfl];exact⟨rfl,trivial⟩
def A7Y(s:ByteArray)(h:A0B s=true):1<=A0Z s/\A0Z s<=4:=by simp only[A0B,Z0g,Z0l]at h;exact⟨h.1.1.1.1,h.1.1.1.2⟩
def C7Z(s:ByteArray)(hs:A0B s=true):A0c (WC gl) 114 [S s] M (λv M'=>v=.tuple [I (A3J s),S (A3G s)]/\M'=M):=by
 refine A3f (λn=>by simp[bdd,A1Y]) ?_;refine A3b hB func114 rfl rfl rfl rfl rfl rfl ?_;obtain⟨d1,d4⟩:=A7Y s hs;have a:=A5Y s;have d:(s.extract 0 (A0Z s)).size=A0Z s:=by simp;omega
 simp -dsimp -implicitDefEqProofs;refine A1l (A0V func112 rfl rfl (A6C gl M s)) ?_;rintro _ M1 ⟨rfl,b⟩;simp -dsimp -implicitDefEqProofs[hs];refine A1l (A0V func161 rfl rfl (C2L gl M1 s)) ?_;rintro _ M2 ⟨rfl,c⟩;simp -dsimp -implicitDefEqProofs;refine A1l (A0V func165 rfl rfl (D7h gl M2 (s.extract 0 (A0Z s)) (by omega) (by omega) λi hi=>?_)) ?_
 .have:=A4b (s:=s) (i:=0) (j:=A0Z s) (k:=i) (by omega) (by omega);rw[this,Z0I];exact A5Q s (by omega)
 rintro _ _ ⟨rfl,rfl⟩;have hn:A9s (s.extract 0 (A0Z s)) (A0Z s) 0 0=A3J s:=B4J s _ a _ _ _ (by omega);have hg:=b.trans c;simp -dsimp -implicitDefEqProofs[d,hn,A3G,hg]
def C2G(s:ByteArray)(hs:A0B s=true)(hm:s.size<=maxLen):A0c (WC gl) 145 [S s] M (λv M'=>v=.tuple [I (A3J s),S (A3G s)]/\M'=M):=by
 refine A3b hB func145 rfl rfl rfl rfl rfl rfl ?_;obtain⟨d1,d4⟩:=A7Y s hs;have k:=A5Y s;have e:=λi h=>A5Q s (j:=i) h;have f:A3J s=A9s s (A0Z s) 0 0:=rfl;have b:A3G s=s.extract (A0Z s) s.size:=rfl;rw[f,b];simp -dsimp -implicitDefEqProofs;refine A1l (A0V func105 rfl rfl (A8Z gl M s hm)) ?_;rintro _ M ⟨rfl,rfl⟩;simp -dsimp -implicitDefEqProofs[hs];refine A1l (A0V func155 rfl rfl (C1S gl M s hm)) ?_;rintro _ M ⟨rfl,rfl⟩;generalize A0Z s=d at*;simp -dsimp -implicitDefEqProofs;refine A1R hB (λT M1=>∃i:Nat,i<=d/\M1=M/\T 0=S s/\T 5=I d/\T 6=I i/\∃n:Int,T 4=I n/\A9s s d 0 0=A9s s (d-i) i n/\0<=n/\n<=9999/\(i=0->n=0)/\(i=1->n<=9)/\(i=2->n<=99)/\(i=3->n<=999)) (λT M1=>match T 6 with|.val (.int _ i)=>d-i.toNat|_=>0) (by kernel_rfl) ?_ ?_
 .exact⟨0,by omega,rfl,by simp,by simp,by simp,0,by simp,by simp,by omega,by omega,by omega,by omega,by omega,by omega⟩
 rintro T M1 ⟨i,i1,rfl,t0,t5,t6,n,t4,ho,n1,n2,n3,n4,n5,n6⟩;by_cases hi:i<d
 .have a:(i:Int)<d:=by omega
  have g:i<s.size:=by omega
  have w1:=A1E (i:=i) (by omega);obtain⟨d1,d2⟩:=e i hi;have hw:IntKind.u8.wrap (A0L s i-48)=A0L s i-48:=by rw[IntWalk.u8_in _ ⟨by omega,by omega⟩]
  have wm:IntKind.i64.wrap (10*n)=10*n:=A0J (by omega) (by omega);have wc:IntKind.i64.wrap (A0L s i-48)=A0L s i-48:=A0J (by omega) (by omega);have wa:IntKind.i64.wrap (10*n+(A0L s i-48))=10*n+(A0L s i-48):=A0J (by omega) (by omega);rw[show d-i=(d-(i+1))+1 by omega,A9s]at ho;simp -dsimp -implicitDefEqProofs[t0,t5,t6,t4,hi,a,g,hw,wm,wc,wa,w1,A4v];clear wm wa wc hw;exact⟨⟨i+1,by clear w1;omega,rfl,ho,by omega,by clear w1;omega,by clear w1;omega,by clear w1;omega,by clear w1;omega,by clear w1;omega⟩,by clear w1;omega⟩
 .have a:¬(i:Int)<d:=by omega
  rw[show d-i=0 by omega,A9s]at ho;have c:(d:Int)<=s.size:=by omega
  simp -dsimp -implicitDefEqProofs[t0,t5,t6,t4,a];refine A0X hB (A0t gl) (λ_=>0) (λ_=>0) (by rfl) (by kernel_rfl) ?_;simp -dsimp -implicitDefEqProofs[t0,t5,t6,t4,c,ho]
end
abbrev bl:=Op.bytesLess
def B0j:∀x,bl x x=false
 |[]=>by simp[Op.bytesLess]
 |a::x=>by have:=B0j x;simp[Op.bytesLess,UInt8.lt_irrefl,this]
def B8J:∀x y z,bl x y=true->bl y z=true->bl x z=true
 |[],_,[],h1,h2=>by simp_all [Op.bytesLess]
 |[],_,c::z,h1,h2=>by simp[Op.bytesLess]
 |a::x,[],_,h1,h2=>by simp[Op.bytesLess]at h1
 |a::x,b::y,[],h1,h2=>by simp[Op.bytesLess]at h2
 |a::x,b::y,c::z,h1,h2=>by
  simp only[Op.bytesLess,Z1z,Z0l,Z0g,Z2Z]at h1 h2|-;rcases h1 with h1|⟨rfl,h1⟩
  .rcases h2 with h2|⟨rfl,h2⟩
   .exact .inl (UInt8.lt_trans h1 h2)
   .exact .inl h1
  .rcases h2 with h2|⟨rfl,h2⟩
   .exact .inl h2
   .exact .inr ⟨rfl,B8J x y z h1 h2⟩
def B9e:∀x y,bl x y=false->bl y x=false->x=y
 |[],[],_,_=>rfl
 |[],b::y,h,_=>by simp[Op.bytesLess]at h
 |a::x,[],_,h=>by simp[Op.bytesLess]at h
 |a::x,b::y,h1,h2=>by
  simp only[Op.bytesLess,Z1Z,Z1e,Z2M,Z2f]at h1 h2;have e:a=b:=by(have h3:a.toNat=b.toNat:=by have:=h1.1;have:=h2.1;simp only[UInt8.lt_iff_toNat_lt]at*;omega);exact UInt8.toNat_inj.1 h3
  subst e;rw[B9e x y (by simpa using h1.2) (by simpa using h2.2)]
def D4e(x y:List UInt8)(h:bl x y=true):bl y x=false:=by
 cases e:bl y x with
 |false=>rfl
 |true=>have:=B8J x y x h e;rw[B0j]at this;simp at this
abbrev Key:=Int×Int×List UInt8
def ltK(p q:Key):Prop:=p.1<q.1\/p.1=q.1/\(p.2.1<q.2.1\/p.2.1=q.2.1/\bl p.2.2 q.2.2=true)
def B5V{p q r:Key}(h1:ltK p q)(h2:ltK q r):ltK p r:=by
 rcases h1 with h1|⟨e1,h1|⟨e2,h1⟩⟩<;>rcases h2 with h2|⟨f1,h2|⟨f2,h2⟩⟩
 .exact .inl (by omega)
 .exact .inl (by omega)
 .exact .inl (by omega)
 .exact .inl (by omega)
 .exact .inr ⟨by omega,.inl (by omega)⟩
 .exact .inr ⟨by omega,.inl (by omega)⟩
 .exact .inl (by omega)
 .exact .inr ⟨by omega,.inl (by omega)⟩
 .exact .inr ⟨by omega,.inr ⟨by omega,B8J _ _ _ h1 h2⟩⟩
def C0A(p:Key):¬ltK p p:=by
 rintro(h|⟨_,h|⟨_,h⟩⟩)
 .omega
 .omega
 .rw[B0j]at h;simp at h
def C2a{p q:Key}(h1:ltK p q):¬ltK q p:=λh2=>C0A p (B5V h1 h2)
def B5Y{p q:Key}(h1:¬ltK p q)(h2:¬ltK q p):p=q:=by
 obtain⟨a,b,c⟩:=p;obtain⟨a',b',c'⟩:=q;simp only[ltK,Z3a,not_and,Bool.not_eq_true]at h1 h2;have ea:a=a':=by omega
 subst ea;have eb:b=b':=by have:=(h1.2 rfl).1;have:=(h2.2 rfl).1;omega
 subst eb;rw[B9e c c' ((h1.2 rfl).2 rfl) ((h2.2 rfl).2 rfl)]
def D9b(a b:ByteArray)(ha:A0B a=true)(hb:A0B b=true)(h:A3J a=A3J b):A0Z a=A0Z b/\∀i,i<A0Z a->A0L a i=A0L b i:=by
 obtain⟨a1,a4⟩:=A7Y a ha;obtain⟨b1,b4⟩:=A7Y b hb;have A0:=λh=>A5Q a (j:=0) h;have A1:=λh=>A5Q a (j:=1) h;have A2:=λh=>A5Q a (j:=2) h;have A3:=λh=>A5Q a (j:=3) h;have B0:=λh=>A5Q b (j:=0) h;have B1:=λh=>A5Q b (j:=1) h;have B2:=λh=>A5Q b (j:=2) h;have B3:=λh=>A5Q b (j:=3) h;have za:¬A0L a 0=48:=by simp only[A0B,Z0g,Z0l,Z1T,Z1e]at ha;exact ha.1.1.2
 have zb:¬A0L b 0=48:=by simp only[A0B,Z0g,Z0l,Z1T,Z1e]at hb;exact hb.1.1.2
 simp only[A3J]at h;generalize A0Z a=d at*;generalize A0Z b=e at*;have hd:d=1\/d=2\/d=3\/d=4:=by omega
 have he:e=1\/e=2\/e=3\/e=4:=by omega
 rcases hd with rfl|rfl|rfl|rfl<;>rcases he with rfl|rfl|rfl|rfl<;>simp only[A9s,Z0I,Nat.reduceAdd]at h<;>refine⟨by omega,λi hi=>?_⟩<;>(have c:i=0\/i=1\/i=2\/i=3:=(by omega);rcases c with rfl|rfl|rfl|rfl<;>omega)
def D9V{a b:ByteArray}(hs:a.size=b.size)(h:∀i,i<a.size->A0L a i=A0L b i):a=b:=by apply ByteArray.ext_getElem hs;intro i h1 h2;have:=h i h1;rw[B0W a i h1,B0W b i h2]at this;exact UInt8.toNat_inj.1 (by omega)
def D2A(a b:ByteArray)(ha:A0B a=true)(hb:A0B b=true)(h:A3J a=A3J b)(ht:A3G a=A3G b):a=b:=by
 obtain⟨hd,hp⟩:=D9b a b ha hb h;have la:=A5Y a;have lb:=A5Y b;have d:=congrArg ByteArray.size ht;simp only[A3G,ByteArray.size_extract]at d;refine D9V (by omega) λi hi=>?_;by_cases c:i<A0Z a
 .exact hp i c
 .have e1:=A4b (s:=a) (i:=A0Z a) (j:=a.size) (k:=i-A0Z a) (by omega) (by omega);have e2:=A4b (s:=b) (i:=A0Z b) (j:=b.size) (k:=i-A0Z b) (by omega) (by omega);rw[show A0Z a+(i-A0Z a)=i by omega]at e1;rw[show A0Z b+(i-A0Z b)=i by omega]at e2;rw[<-e1,<-e2,<-hd];simp only[A3G]at ht;rw[ht,hd]
def C5s(a b:ByteArray):Int:=if bl a.toList b.toList=true then -1 else if bl b.toList a.toList=true then 1 else 0
def B1S{a b:ByteArray}:B5m .lss a b=some (.bool (bl a.toList b.toList)):=rfl
def C0H{a b:ByteArray}:B5m .gtr a b=some (.bool (bl b.toList a.toList)):=by
 simp only[B5m,Z0b,Value.bool.injEq];cases h1:bl a.toList b.toList
 .cases h2:bl b.toList a.toList
  .have:=B9e _ _ h1 h2;rw[this];simp
  ·(have:¬a.toList=b.toList:=λe=>by rw[e,B0j]at h2;simp at h2);have c:Op.bytesLess a.toList b.toList=false:=h1
   simp[this,c]
 .rw[D4e _ _ h1];have c:Op.bytesLess a.toList b.toList=true:=h1;simp[c]
def B9u(a b:ByteArray):Int:=orL [B7B (A3J a) (A3J b),C5s (A3G a) (A3G b)]
def D2F(a b:A0a):Int:=orL [B7B a.kind b.kind,B9u a.label b.label]
abbrev A4w(u:A0a):Key:=(u.kind,A3J u.label,(A3G u.label).toList)
def C5O{x y:Int}:B7B x y<0<->x<y:=by
 simp only[B7B];split
 .omega
 .split<;>omega
def B2L{x y:Int}:B7B x y=0<->x=y:=by
 simp only[B7B];split
 .omega
 .split<;>omega
def D6u{a b:ByteArray}:C5s a b<0<->bl a.toList b.toList=true:=by
 simp only[C5s];split
 .simp_all
 .split<;>simp_all
def E7Y{x y:Int}:orL [x,y]=if x=0 then y else x:=by
 simp only[orL];split
 .split<;>simp_all
 .rfl
def A8w(a b:A0a):D2F a b<0<->ltK (A4w a) (A4w b):=by
 simp only[D2F,E7Y,B9u,ltK];by_cases h1:a.kind=b.kind
 .rw[Z0d (B2L.2 h1)];by_cases h2:A3J a.label=A3J b.label
  .rw[Z0d (B2L.2 h2),D6u];constructor
   .intro h;exact .inr ⟨h1,.inr ⟨h2,h⟩⟩
   .rintro(h|⟨_,h|⟨_,h⟩⟩)
    .omega
    .omega
    .exact h
  .rw[Z0c (λe=>h2 (B2L.1 e)),C5O];constructor
   .intro h;exact .inr ⟨h1,.inl h⟩
   .rintro(h|⟨_,h|⟨h,_⟩⟩)
    .omega
    .exact h
    .exact absurd h h2
 .rw[Z0c (λe=>h1 (B2L.1 e)),C5O];constructor
  .intro h;exact .inl h
  .rintro(h|⟨h,_⟩)
   .exact h
   .exact absurd h h1
section
variable (gl:Nat->AV) (M:Mem)
def C1N(x:ByteArray):A0c (WC gl) 164 [S x] M (λv M'=>v=B false/\M'=M):=by refine A3b hB func164 rfl rfl rfl rfl rfl rfl ?_;simp -dsimp -implicitDefEqProofs
def D7M(x y:ByteArray):A0c (WC gl) 113 [S x,S y] M (λv M'=>v=I (C5s x y)/\M'=M):=by
 refine A3b hB func113 rfl rfl rfl rfl rfl rfl ?_;simp -dsimp -implicitDefEqProofs;refine A1l (A0V func164 rfl rfl (C1N gl M x)) ?_;rintro _ _ ⟨rfl,rfl⟩;simp -dsimp -implicitDefEqProofs;refine A1l (A0V func164 rfl rfl (C1N gl _ y)) ?_;rintro _ _ ⟨rfl,rfl⟩;cases h1:bl x.toList y.toList
 .cases h2:bl y.toList x.toList
  .simp -dsimp -implicitDefEqProofs[B1S,C0H,h1,h2,C5s]
  .simp -dsimp -implicitDefEqProofs[B1S,C0H,h1,h2,C5s]
 .simp -dsimp -implicitDefEqProofs[B1S,C0H,h1,C5s]
def D1V(a b:ByteArray)(ha:A0B a=true)(hb:A0B b=true):A0c (WC gl) 57 [S a,S b] M (λv M'=>v=I (B9u a b)/\M'=M):=by refine A3f (λn=>trivial) ?_;refine A3b hB func57 rfl rfl rfl rfl rfl rfl ?_;simp -dsimp -implicitDefEqProofs;refine A1l (A0V func112 rfl rfl (A6C gl M a)) ?_;rintro _ M1 ⟨rfl,g1⟩;simp -dsimp -implicitDefEqProofs;refine A1l (A0V func112 rfl rfl (A6C gl M1 b)) ?_;rintro _ M2 ⟨rfl,g2⟩;simp -dsimp -implicitDefEqProofs[ha,hb];refine A1l (A0V func114 rfl rfl (C7Z gl M2 a ha)) ?_;rintro _ M2 ⟨rfl,rfl⟩;simp -dsimp -implicitDefEqProofs;refine A1l (A0V func114 rfl rfl (C7Z gl M2 b hb)) ?_;rintro _ M2 ⟨rfl,rfl⟩;simp -dsimp -implicitDefEqProofs;refine A1l (A0V func56 rfl rfl (D4k gl M2 (A3J a) (A3J b))) ?_;rintro _ M2 ⟨rfl,rfl⟩;simp -dsimp -implicitDefEqProofs;refine A1l (A0V func113 rfl rfl (D7M gl M2 (A3G a) (A3G b))) ?_;rintro _ M2 ⟨rfl,rfl⟩;simp -dsimp -implicitDefEqProofs[A0n,A0W,C9C,C9V];refine A1l (A0V func55 rfl rfl (D9h gl M2 [B7B (A3J a) (A3J b),C5s (A3G a) (A3G b)] (by simp))) ?_;rintro _ M2 ⟨rfl,rfl⟩;simp -dsimp -implicitDefEqProofs[B9u,g1.trans g2]
def D7v(a b:A0a)(ha:A0B a.label=true)(hb:A0B b.label=true):A0c (WC gl) 54 [.agg a.row,.agg b.row] M (λv M'=>v=I (D2F a b)/\M'=M):=by rw[a.row_eq,b.row_eq];refine A3b hB func54 rfl rfl rfl rfl rfl rfl ?_;simp -dsimp -implicitDefEqProofs;refine A0X hB (A0t gl) (λ_=>0) (λ_=>0) (by rfl) (by kernel_rfl) ?_;simp -dsimp -implicitDefEqProofs;refine A7x (λM=>A0V func56 rfl rfl (D4k gl M a.kind b.kind)) ?_;simp -dsimp -implicitDefEqProofs;refine A7x (λM=>A0V func57 rfl rfl (D1V gl M a.label b.label ha hb)) ?_;simp -dsimp -implicitDefEqProofs[A0n,A0W,C9C,C9V];refine A7x (λM=>A0V func55 rfl rfl (D9h gl M [B7B a.kind b.kind,B9u a.label b.label] (by simp))) ?_;simp -dsimp -implicitDefEqProofs[D2F]
def D9s(a b:ByteArray):Prop:=A3J a<A3J b\/A3J a=A3J b/\bl (A3G a).toList (A3G b).toList=true
end
def ltB(a b:A0a):Bool:=decide (D2F a b<0)
def C3E(a b:A0a):ltB a b=true<->ltK (A4w a) (A4w b):=by simp only[ltB,Z0l];exact A8w a b
def C3U(x:A0a)(l:List A0a):List A0a:=l.take (l.findIdx (ltB x))++x::l.drop (l.findIdx (ltB x))
def A1n(ks:List A0a):List A0a:=ks.foldl (λacc x=>C3U x acc) []
def C3j(x:A0a)(l:List A0a):(C3U x l).Perm (x::l):=by have:=Z4l (a:=x) (l₁:=l.take (l.findIdx (ltB x))) (l₂:=l.drop (l.findIdx (ltB x)));rw[Z0S]at this;exact this
def C1e:∀(ks b:List A0a),(ks.foldl (λb x=>C3U x b) b).Perm (b++ks)
 |[],b=>by simp
 |k::ks,b=>by refine(C1e ks (C3U k b)).trans ?_;refine((C3j k b).append_right ks).trans ?_;exact(Z4l (a:=k) (l₁:=b) (l₂:=ks)).symm
def A0v(ks:List A0a):(A1n ks).Perm ks:=by have:=C1e ks [];rw[Z1g]at this;exact this
def B5S(ks:List A0a):(A1n ks).length=ks.length:=(A0v ks).length_eq
def B0u(l:List A0a):Prop:=l.Pairwise λa b=>ltK (A4w a) (A4w b)
def D5j(x:A0a)(l:List A0a)(h:B0u l)(hd:∀y∈l,A4w x≠A4w y):B0u (C3U x l):=by
 have f:l.findIdx (ltB x)<=l.length:=List.findIdx_le_length;have h1:B0u (l.take (l.findIdx (ltB x))++l.drop (l.findIdx (ltB x))):=by rw[Z0S];exact h
 unfold B0u C3U at*;rw[Z3i]at h1|-;refine⟨h1.1,?_,?_⟩
 .rw[List.pairwise_cons];refine⟨λy hy=>?_,h1.2.1⟩;by_cases e:l.findIdx (ltB x)<l.length
  .have h2:=List.findIdx_getElem (w:=e);rw[Z0i e]at hy h1;rcases Z0t.1 hy with rfl|hy
   .exact(C3E _ _).1 h2
   .exact B5V ((C3E _ _).1 h2) ((List.pairwise_cons.1 h1.2.1).1 y hy)
  .rw[Z0o (by omega)]at hy;simp at hy
 .intro a ha b hb;rcases Z0t.1 hb with rfl|hb
  .obtain⟨i,hi,e⟩:=Z2w.1 ha;(have d:i<l.findIdx (ltB b):=by simp at hi;omega);have hn:=List.not_of_lt_findIdx d;rw[Z3Z]at e;(have c:¬ltK (A4w b) (A4w a):=λhl=>by rw[<-e]at hl;rw[(C3E _ _).2 hl]at hn;simp at hn);refine Z1p λhc=>hd a (Z1n ha) ?_;exact(B5Y hc c).symm
  .exact h1.2.2 a ha b hb
def C2M:∀(ks c:List A0a),B0u c->(c++ks).Pairwise (λa b=>A4w a≠A4w b)->B0u (ks.foldl (λc x=>C3U x c) c)
 |[],c,h,_=>h
 |k::ks,c,h,hd=>by
  refine C2M ks (C3U k c) (D5j k c h λy hy e=>?_) ?_
  .rw[Z3i]at hd;exact hd.2.2 y hy k (by simp) e.symm
  .have hp:(c++k::ks).Perm (C3U k c++ks):=Z4l.trans ((C3j k c).symm.append_right ks);exact(Z3z (λ{a b} (h:A4w a≠A4w b)=>h.symm) hp).1 hd
def B6p(ks:List A0a)(hd:ks.Pairwise λa b=>A4w a≠A4w b):B0u (A1n ks):=C2M ks [] .nil (by simpa using hd)
def C0x{l m:List A0a}(hp:l.Perm m)(hl:B0u l)(hm:B0u m):l=m:=List.Perm.eq_of_pairwise (le:=λa b=>ltK (A4w a) (A4w b)) (λa b _ _ h1 h2=>absurd h2 (C2a h1)) hl hm hp
def E0H{l:List A0a}(h:l.Pairwise λa b=>¬ltK (A4w b) (A4w a))(hd:l.Pairwise λa b=>A4w a≠A4w b):B0u l:=by refine(h.and hd).imp ?_;rintro a b ⟨h1,h2⟩;exact Z1p λhc=>h2 (B5Y hc h1)
def A0R{l m:List A0a}(h:l.Perm m):A0f l=A0f m:=by
 induction h with
 |nil=>rfl
 |cons x _ ih=>rw[A0f,A0f,ih]
 |swap x y l=>rw[A0f,A0f,A0f,A0f];omega
 |trans _ _ h1 h2=>omega
def A0G(u:A0a):A0j u=1+A0f u.kids:=by obtain⟨a,b,c,d,e,f⟩:=u;rw[A0j];rfl
def A4i(ks:List A0a)(l:List A0C)(p:Int):List A0C:=match ks with
 |[]=>l
 |k::ks=>A4i ks (A4i (A1n k.kids) (l++[⟨k.id,p,k.label⟩]) l.length) p
termination_by A0f ks
decreasing_by
 .rw[A0R (A0v k.kids),A0f,A0G k];omega
 .rw[A0f,A0G k];omega
def A8B(ks:List A0a)(l:List A0C)(p:Int):(A4i ks l p).length=l.length+A0f ks:=match ks with
 |[]=>by rw[A4i,A0f];rfl
 |k::ks=>by rw[A4i,A8B ks,A8B (A1n k.kids),A0f,A0R (A0v k.kids),A0G k];simp only[Z0r,Z0x,Z1I];omega
termination_by A0f ks
decreasing_by
 .rw[A0f,A0G k];omega
 .rw[A0R (A0v k.kids),A0f,A0G k];omega
mutual
def B4B:A0a->Prop
 |.mk _ _ _ _ _ ks=>A6Y ks/\ks.Pairwise λa b=>A4w a≠A4w b
def A6Y:List A0a->Prop
 |[]=>True
 |k::ks=>(A0B k.label=true/\B4B k)/\A6Y ks
end
def B0g:∀{l:List A0a},A6Y l<->∀u∈l,A0B u.label=true/\B4B u
 |[]=>by simp[A6Y]
 |u::l=>by simp[A6Y,B0g (l:=l)]
def C3w{M:Mem}:A1J prog 25 0 [] M=some (.vref M.length 0 8 0 0,M++[.vec 27 8 [] 0 [(0,0)]]):=by simp[A1J,A0W]
def A1b.new0{α:Type}{e sz:Nat}{enc:α->List AV}{M:Mem}:A1b e sz enc (M++[.vec e sz [] 0 [(0,0)]]) (.vref M.length 0 sz 0 0) ([]:List α):=.inr ⟨M.length,0,[(0,0)],rfl,by simp,rfl⟩
section
variable (gl:Nat->AV) (M:Mem)
end
section
variable {α:Type} {e sz:Nat} {enc:α->List AV} {M:Mem} {v:AV} {l:List α} {P:Program} {t:TypeId}
def A1b.cells_at(h:A1b e sz enc M v l)(he:∀x,(enc x).length=sz){i:Nat}(hi:i<l.length):∃f g,v=.vref f g sz 0 l.length/\∀o,o<=sz->A2S M (.vptr f g (i*sz+o))=some ((enc l[i]).drop o++(l.drop (i+1)).flatMap enc):=by
 rcases h with⟨rfl,rfl⟩|⟨f,g,a,rfl,hm,hl⟩
 .simp at hi
 .refine⟨f,g,rfl,λo ho=>?_⟩;simp only[A2S,hm,hl];rw[Z0k (by rw[A3c he];exact Z0n _),<-Z1V,A5w he,Z0i hi,Z0W,Z3h,he,Nat.sub_eq_zero_of_le ho,Z1k]
end
def A0d.chain{o o':Option Nat}{A B C:Mem}(h1:A0d o A B)(h2:A0d o' B C)(h:o'=o\/∀g,o'=some g->A.length<=g):A0d o A C:=
 ⟨Z0X h1.1 h2.1,λi hi ho=>(h2.2 i (Z1i hi h1.1) (λe=>by
  rcases h with h|h
  .exact ho (h▸e)
  .have:=h i e;omega)).trans (h1.2 i hi ho)⟩
section
variable (gl:Nat->AV)
def D0X{a b c p:Int}{s:ByteArray}:A0w prog 69 [(0,.agg [I a,I b,I c]),(1,I p),(2,S s)]=some (.agg [I a,I b,I c,I p,S s]):=by simp[A0w,A1e,A1r,A0e,A0I]
end
end Go.Abs
