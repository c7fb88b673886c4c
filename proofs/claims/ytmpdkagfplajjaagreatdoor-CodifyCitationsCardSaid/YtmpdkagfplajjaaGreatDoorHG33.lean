/- The texts CyN, CyO, CsA, CsB, CsL, CsY, CaA, CaB, CaC, CaD, CaE, CaF, CaG, CaH. -/
import Derived.Test.YtmpdkagfplajjaaGreatDoorHG32
import Derived.Test.YtmpdkagfplajjaaGreatDoorHG01
import Derived.Test.YtmpdkagfplajjaaGreatDoorHG31
import Derived.Test.YtmpdkagfplajjaaGreatDoorHG21
import Derived.Test.YtmpdkagfplajjaaGreatDoorHG25
set_option linter.all false
set_option maxRecDepth 100000
namespace Go.Abs
open Go.Proofs TryTypes Tryz
def hX:A2u:=⟨λ_=>true,λ_=>false,λd=>d==81||d==88||d==91||d==135⟩
@[simp] def E7H:hX.own=λ_=>false:=(rfl)
@[simp] def E8N:hX.vec=λd=>d==81||d==88||d==91||d==135:=(rfl)
section
variable (gl:Nat->AV) (M:Mem)
set_option maxHeartbeats 4000000 in
def D0e(l:List ByteArray)(old:List A1e)(names:List (List A0w))(o1 o2 o3:Own)(hl:l.length<=1000)(ca:∀s∈l,s.size<=maxLen)(ho:old.length<=20000)(hn:∀p∈names,A7b p):A0e (WC gl) 18 [.list 1 (A0W l) o1,.list 5 (A3U old) o2,.list 1 (A7h names) o3] M (A4x M (A4W l old names)):=by
 refine A0n hX func18 ?_
 by_cases hlen:old.length=names.length
 case neg=>
  have a3:¬(old.length:Int)=names.length:=by omega
  simp -dsimp -implicitDefEqProofs[a3];refine A0q func59 (C7R gl M l o1 (by omega)) ?_;intro v M' h;simp -dsimp -implicitDefEqProofs[A4W,hlen,h]
 have a3:(old.length:Int)=names.length:=by omega
 have c2:A4W l old names=B5p l old names old.length 0 [] 0:=by rw[A4W,Z0e hlen]
 rw[c2]
 simp -dsimp -implicitDefEqProofs[a3,hlen]
 refine A0B hX old.length 23 (λT M1=>∃(i:Nat) (d:List ByteArray) (e:Int),i<=old.length/\A4x M d (T 7) M1/\T 0=.list 1 (A0W l) o1/\T 1=.list 5 (A3U old) o2/\T 2=.list 1 (A7h names) o3/\T 8=I e/\0<=e/\e<=l.length/\T 21=.list 5 (A3U old) o2/\T 22=I old.length/\T 23=I i/\d.length<=i*1200/\B5p l old names old.length 0 [] 0=B5p l old names (old.length-i) i d e) ?_ ?_
 .refine⟨0,[],0,?_⟩;simp -dsimp -implicitDefEqProofs[A4x,A5K,A0c.refl,A1m,hlen]
 .rintro T M1 ⟨i,d,e,h1,h2,h3,h4,h5,h6,h7,h8,h9,ae,a5,cq,ap⟩;generalize ah:T 7=ov at h2;by_cases hi:i<old.length
  ·(have aq:(i:Int)<old.length:=by omega);have b0:i<names.length:=by omega
   (have bd:(i:Int)<names.length:=by omega);have hw:IntKind.i64.wrap ((i:Int)+1)=(i+1:Nat):=by rw[A0L (by omega) (by omega)];omega
   (have bz:(M1++[A0m.cells 110 old[i].row])[M1.length]?=some (A0m.cells 110 old[i].row):=by simp);have hp:=hn names[i] (Z0o b0)
   (have z:B5p l old names (old.length-i) i d e=match B5i l old names i d e with|none=>l|some r=>B5p l old names (old.length-(i+1)) (i+1) r.1 r.2:=by rw[show old.length-i=(old.length-(i+1))+1 by omega];rfl);have ag:old[i]?=some old[i]:=Z0l hi
   have bj:names[i]?=some names[i]:=Z0l b0;simp -dsimp -implicitDefEqProofs[h3,h4,h5,h6,h9,ae,a5,hi,aq,b0,bd,A0k,A0i,A0d,A1e.row];refine A0q func60 (D0f gl _ names[i] .no hp.1) ?_;intro w M2 a0;have a2:=a0.2.1.get bz (by simp);have ab:Grow M M2:=(h2.2.1.trans (.app none M1 _)).trans a0.2.1;have c3:A5c old i=(decide (0<i)&&(match old[i-1]?,old[i]? with|some a,some b=>C7r a b|_,_=>false)):=rfl;simp -dsimp -implicitDefEqProofs;refine B9U (λT M=>M=M2/\T 0=.list 1 (A0W l) o1/\T 1=.list 5 (A3U old) o2/\T 2=.list 1 (A7h names) o3/\T 7=ov/\T 8=I e/\T 9=I i/\T 10=.ptr M1.length 0/\T 11=w/\T 12=B (A5c old i)/\T 21=.list 5 (A3U old) o2/\T 22=I old.length/\T 23=I i) ?_ ?_
   .refine A0Z hX (A0u gl) (λk=>if k=8 then 1 else 0) (λ_=>M1.length) (by rfl) (by kernel_rfl) ?_;by_cases i0:i=0
    .subst i0;simp -dsimp -implicitDefEqProofs[h3,h4,h5,h6,h9,ae,a5,ah,A5c]
    ·(have bq:(0:Int)<i:=by omega);have am:0<i:=by omega
     (have c9:IntKind.i64.wrap ((i:Int)-1)=(i-1:Nat):=by rw[A0L (by omega) (by omega)];omega);have bk:i-1<old.length:=by omega
     (have bh:((i-1:Nat):Int)<old.length:=by omega);have cb:A5c old i=C7r old[i-1] old[i]:=by rw[c3,ag,Z0l bk];simp[am]
     rw[cb];simp -dsimp -implicitDefEqProofs[h3,h4,h5,h6,h9,ae,a5,ah,bq,am,c9,bk,bh,A0b a2,A1e.row];refine A7l (r:=B (C7r old[i-1] old[i])) (λM=>A1a func61 rfl rfl (D0z gl M old[i-1] old[i])) ?_;simp -dsimp -implicitDefEqProofs[h3,h4,h5,h6,h9,ae,a5,ah]
   .rintro T2 a1 ⟨rfl,k1,k2,k3,k4,k5,k6,k7,k8,k9,o,q,u⟩;(have a4:A2y prog 37 w=some (A4n names[i]).length:=by rw[a0.1.len (e:=9) (by simp)];simp);by_cases hbad:A4n names[i]=[]\/old[i].frm<0\/old[i].at_<=old[i].frm\/old[i].at_>l.length\/(A5c old i=false/\old[i].frm<e)
    ·(have bw:B5i l old names i d e=none:=by simp only[B5i,ag,bj];rw[Z0e hbad]);have bi:B5p l old names old.length 0 [] 0=l:=by rw[ap,z,bw]
     rw[bi];(have ac:∀(K:AV->Mem->Prop) (tg:Tag K),(∀v M',A4x M l v M'->K v M')->B8g (WC gl) 59 [.list 1 (A0W l) o1] a1 K tg:=by intro K tg hk;exact A0q func59 (C7R gl a1 l o1 (by omega)) λv M' h=>hk v M' (B9r ab h));by_cases b1:A4n names[i]=[]
     .simp -dsimp -implicitDefEqProofs[a4,b1,k1,k2,k3,k4,k5,k6,k7,k8,k9,o,q,u];refine ac _ _ λv M' h=>?_;simp -dsimp -implicitDefEqProofs[h]
     have ax:¬(A4n names[i]).length=0:=λe=>b1 (Z0y e);(have ci:¬((A4n names[i]).length:Int)=0:=by omega);by_cases b2:old[i].frm<0
     .simp -dsimp -implicitDefEqProofs[a4,b1,b2,k1,k2,k3,k4,k5,k6,k7,k8,k9,o,q,u,A0b a2,A1e.row];refine ac _ _ λv M' h=>?_;simp -dsimp -implicitDefEqProofs[h]
     by_cases b3:old[i].at_<=old[i].frm
     .simp -dsimp -implicitDefEqProofs[a4,b1,b2,b3,k1,k2,k3,k4,k5,k6,k7,k8,k9,o,q,u,A0b a2,A1e.row];refine ac _ _ λv M' h=>?_;simp -dsimp -implicitDefEqProofs[h]
     by_cases b4:old[i].at_>l.length
     .have a9:(l.length:Int)<old[i].at_:=b4;simp -dsimp -implicitDefEqProofs[a4,b1,b2,b3,b4,a9,k1,k2,k3,k4,k5,k6,k7,k8,k9,o,q,u,A0b a2,A1e.row];refine ac _ _ λv M' h=>?_;simp -dsimp -implicitDefEqProofs[h]
     have b5:A5c old i=false/\old[i].frm<e:=by
      rcases hbad with h|h|h|h|h
      .exact absurd h b1
      .exact absurd h b2
      .exact absurd h b3
      .exact absurd h b4
      .exact h
     have a9:¬(l.length:Int)<old[i].at_:=b4;simp -dsimp -implicitDefEqProofs[a4,b1,b2,b3,b4,a9,b5.1,b5.2,k1,k2,k3,k4,k5,k6,k7,k8,k9,o,q,u,A0b a2,A1e.row];refine ac _ _ λv M' h=>?_;simp -dsimp -implicitDefEqProofs[h]
    .have ar:=hbad;simp only[Z2N,not_and]at hbad;obtain⟨b1,b2,b3,b4,b5⟩:=hbad;have ax:¬(A4n names[i]).length=0:=λe=>b1 (Z0y e);have a9:¬(l.length:Int)<old[i].at_:=b4;(have g2:0<=old[i].frm:=by omega);(have g3:old[i].frm<=l.length:=by omega);(have cp:old[i].frm.toNat<=l.length:=by omega);obtain⟨g,a6⟩:=ex (if A5c old i=true then[C3l]else(l.take old[i].frm.toNat).drop e.toNat);have bv:B5i l old names i d e=some (if B2h old i=true then A7m (d++g++A4n names[i]) (B2D (l.getD (old[i].at_.toNat-1) .empty))else d++g++A4n names[i],old[i].at_):=by
      (have hm:(if A5c old i=true then d++[C3l]else d++(l.take old[i].frm.toNat).drop e.toNat)=d++g:=by rw[a6];split<;>rfl);simp only[B5i,ag,bj]
      rw[Z0d ar,hm]
     rw[bv]at z;simp only at z;(have g1:1<=old[i].at_:=by omega);(have g4:0<=old[i].at_:=by omega);(have g7:old[i].at_<=l.length:=by omega);have c4:g.length<=1000:=by
      rw[a6];split
      .simp
      .simp;omega
     have b8:A5K 9 a1 w ((A4n names[i]).map S):=a0.1;have be:A5K 9 a1 ov (d.map S):=h2.1.keep ((A0c.app none M1 _).trans a0.2.1) (by simp);(have cg:M1.length<a1.length:=by have:=a0.2.1.1;simp at this;omega);(have al:obj ov≠some M1.length:=λe=>by have:=h2.1.lt e;omega);(have cn:obj w≠some M1.length:=λe=>by have:=a0.2.2 _ e;simp at this;omega);(have bn:∀f,obj w=some f->obj ov≠some f:=λf e1 e2=>by have:=a0.2.2 _ e1;have:=h2.1.lt e2;simp at*;omega);have ba:∀f,obj w=some f->f<a1.length:=λf e1=>b8.lt e1;have mk:∀v3 M3,A5K 9 M3 v3 (d.map S++g.map S)->A0c (obj ov) a1 M3->(obj v3=obj ov\/A1m a1.length v3)->
      A4x M (d++g) v3 M3/\A5K 9 M3 w ((A4n names[i]).map S)/\M3[M1.length]?=some (A0m.cells 110 old[i].row)/\obj v3≠some M1.length/\(∀f,obj w=some f->obj v3≠some f):=by
      intro v3 M3 q1 q2 q3
      refine⟨?_,b8.keep q2 bn,q2.get a2 al,?_,?_⟩
      .refine⟨by simpa using q1,⟨by have:=ab.1;have:=q2.1;omega,λj hj _=>?_⟩,λf hf=>?_⟩
       .rw[q2.2 j (by have:=ab.1;omega) λe=>by have:=h2.2.2 _ e;omega];exact ab.2 j hj (by simp)
       .rcases q3 with e|e
        .exact h2.2.2 f (by rw[<-e];exact hf)
        .have:=e f hf;have:=ab.1;omega
      .intro e1;rcases q3 with e|e
       .exact al (by rw[<-e];exact e1)
       .have:=e _ e1;omega
      .intro f e1 e2;rcases q3 with e|e
       .exact bn f e1 (by rw[<-e];exact e2)
       .have:=e _ e2;have:=ba f e1;omega
     cases hA:A5c old i;case' false=>
      (have g5:e<=old[i].frm:=by have:=b5 hA;omega);have co:0<=e/\e<=old[i].frm/\old[i].frm<=l.length:=⟨h7,g5,g3⟩
      (have g6:¬old[i].frm<e:=by omega);have hm:g=(l.take old[i].frm.toNat).drop e.toNat:=by rw[a6,hA];rfl
      rw[hA]at k9;simp -dsimp -implicitDefEqProofs[a4,b1,ax,b2,b3,b4,a9,g6,k1,k2,k3,k4,k5,k6,k7,k8,k9,o,q,u,A0b a2,A1e.row,h7,g5,g3];(have aw:List.drop e.toNat (List.take old[i].frm.toNat (A0W l))=A0W g:=by rw[B8E,B3K,hm]);rw[aw];refine push (C:=WC gl) (e:=9) A7g A9M B6h be (news:=g.map S) (m:=g.length) (E1q _ _ _) (by simp) (by simp;omega) rfl ?_;intro v3 M3 q1 q2 q3 _;obtain⟨au,bg,b6,bf,b7⟩:=mk v3 M3 q1 q2 q3;simp -dsimp -implicitDefEqProofs
     case' true=>
      (have hm:g=[C3l]:=by rw[a6,hA];rfl);rw[hA]at k9
      simp -dsimp -implicitDefEqProofs[a4,b1,ax,b2,b3,b4,a9,k1,k2,k3,k4,k5,k6,k7,k8,k9,o,q,u,A0b a2,A1e.row,A0l,A0M];refine push (C:=WC gl) (e:=9) A7g A9M B6h be (news:=[C3l].map S) (m:=1) rfl rfl (by simp;omega) rfl ?_;rw[<-hm];intro v3 M3 q1 q2 q3 _;obtain⟨au,bg,b6,bf,b7⟩:=mk v3 M3 q1 q2 q3;simp -dsimp -implicitDefEqProofs
     all_goals
      refine C0F hX (A0u gl) (λk=>if k=2 then 2 else if k=4 then 1 else 0) M1.length (by rfl) (by kernel_rfl) ?_
      have cm:=C2U names[i]
      have c1:A0D M3 1 w=some ((A4n names[i]).map S,(A4n names[i]).length):=by rw[bg.src];simp
      simp -dsimp -implicitDefEqProofs[k1,k2,k3,k4,k5,k6,k7,k8,k9,o,q,u]
      refine push (C:=WC gl) (e:=9) A7g A9M B6h au.1 (news:=(A4n names[i]).map S) (m:=(A4n names[i]).length) c1 (by simp) (by simp;omega) rfl ?_
      intro v4 M4 r1 r2 r3 _
      have x:=B0Z (X:=[]) au r1 (by simpa using r2) (by simpa using r3)
      have aa:=r2.get b6 bf
      refine⟨by rw[aa,b6],?_⟩
      simp -dsimp -implicitDefEqProofs[A0b aa,A1e.row,k1,k2,k3,k4,k5,k6,k7,k8,k9,o,q,u]
      refine B9U (λT M=>M=M4/\T 0=.list 1 (A0W l) o1/\T 1=.list 5 (A3U old) o2/\T 2=.list 1 (A7h names) o3/\T 7=v4/\T 8=I old[i].at_/\T 10=.ptr M1.length 0/\T 108=B (B2h old i)/\T 21=.list 5 (A3U old) o2/\T 22=I old.length/\T 23=I i) ?_ ?_
      .refine A0Z hX (A0u gl) (λk=>if k=11 then 1 else 0) (λ_=>M1.length) (by rfl) (by kernel_rfl) ?_;by_cases il:i+1=old.length
       ·(have ai:((i+1:Nat):Int)=old.length:=by omega);have az:B2h old i=true:=by simp[B2h,il]
        simp -dsimp -implicitDefEqProofs[k1,k2,k3,k4,k5,k6,k7,k8,k9,o,q,u,hw,ai,az]
       ·(have ai:¬((i+1:Nat):Int)=old.length:=by omega);have bm:i+1<old.length:=by omega
        (have c7:((i+1:Nat):Int)<old.length:=by omega);have cf:(0:Int)<=((i+1:Nat):Int):=by omega
        (have cc:((i+1:Nat):Int).toNat=i+1:=by omega);have az:B2h old i=!C7r old[i+1] old[i]:=by simp[B2h,il,ag,Z0l bm]
        rw[az];generalize hj:((i+1:Nat):Int)=j at*;simp -dsimp -implicitDefEqProofs[k1,k2,k3,k4,k5,k6,k7,k8,k9,o,q,u,hw,ai,bm,c7,cf,cc,A0b aa,A1e.row];refine A7l (r:=B (C7r old[i+1] old[i])) (λM=>A1a func61 rfl rfl (D0z gl M old[i+1] old[i])) ?_;simp -dsimp -implicitDefEqProofs[k1,k2,k3,k4,k5,k6,k7,k8,k9,o,q,u,ai]
      .rintro T3 n ⟨rfl,j1,j2,j3,j4,j5,j6,j7,j8,j9,j10⟩;have y:=ap.trans z;(have bu:(d++g++A4n names[i]).length<=(i+1)*1200:=by simp;omega);cases hE:B2h old i
       .rw[hE]at j7 y;simp -dsimp -implicitDefEqProofs[j1,j2,j3,j4,j5,j6,j7,j8,j9,j10,hw,a5,A0b aa];exact⟨⟨i+1,by clear hw;omega,_,x,g4,g7,by simp,bu,by simpa using y⟩,by clear hw;omega⟩
       .rw[hE]at j7 y;simp only[Z0T]at y;have bo:((d++g++A4n names[i]).getD ((d++g++A4n names[i]).length-1) .empty).size<=16:=B7f _ (C7y b1);(have cj:0<(d++g++A4n names[i]).length:=by simp;omega);generalize d++g++A4n names[i]=c at*;(have ao:A2y prog 37 v4=some c.length:=by rw[x.1.len (e:=9) (by simp)];simp);have av:M1.length<n.length:=(Z0a.1 aa).1;have bb:∀f,obj v4=some f->f<n.length:=λf hf=>x.1.lt hf;(have ch:c.length<=100000000:=by omega);(have aj:IntKind.i64.wrap ((c.length:Int)-1)=(c.length-1:Nat):=by rw[A0L (by omega) (by omega)];omega);have c6:=E0o n;have ak:A1c n.length n (n++[A0m.cells 116 [AV.val (Value.pointer none),AV.val (Value.slice none 0 0)]]):=⟨by simp,λj hj=>Z0i hj⟩;(have bc:c.length-1<c.length:=by omega);obtain⟨sp,s1,s2,-⟩:=(x.1.keepLow ak bb).spot (t:=9) E0Y sz9 (i:=c.length-1) (by simp;omega);(have ay:c.getD (c.length-1) .empty=c[c.length-1]:=by simp[bc]);simp only[Z1R,<-ay]at s2;generalize c8:c.getD (c.length-1) .empty=a7 at*;simp -dsimp -implicitDefEqProofs[j1,j2,j3,j4,j5,j6,j7,j8,j9,j10,hw,A0k,ao,aj,s1,s2];refine A0q func62 (C7o gl _ n.length n.length .empty a7 c6 (by simp;omega) (by simp)) ?_;rintro r6 M6 ⟨c0,bx⟩;have ad:=ak.trans bx;have bs:=ad.get av aa;(have g8:old[i].at_.toNat-1<l.length:=by omega);(have g9:old[i].at_-1<l.length:=by omega);have ce:IntKind.i64.wrap (old[i].at_-1)=old[i].at_-1:=A0L (by omega) (by omega);(have bt:l.getD (old[i].at_.toNat-1) .empty=l[old[i].at_.toNat-1]:=by simp[g8]);simp -dsimp -implicitDefEqProofs[j1,j2,j3,j4,j5,j6,j7,j8,j9,j10,A0b bs,A1e.row,ce,g1,g9,g8];refine A0q func63 (D7P gl M6 l[old[i].at_.toNat-1] (ca _ (Z0o g8))) ?_;rintro r7 ck ⟨rfl,rfl⟩;rw[bt]at y;have cr:=B4G l[old[i].at_.toNat-1];generalize B2D l[old[i].at_.toNat-1]=af at*;simp -dsimp -implicitDefEqProofs;refine A0q func62 (C7o gl _ n.length n.length (.empty++a7) af c0 (by simp;omega) ad.1) ?_;rintro r7 M7 ⟨cd,br⟩;have an:=ad.trans br;simp -dsimp -implicitDefEqProofs[j1,j2,j3,j4,j5,j6,j7,j8,j9,j10,ao,aj];refine A0q func64 (D1T gl _ n.length n.length (.empty++a7++af) cd (by simp;omega) an.1) ?_;rintro r8 M8 ⟨rfl,c5⟩;have a8:=an.trans c5;obtain⟨cs,t1,-,t3⟩:=(x.1.keepLow a8 bb).spot (t:=9) E0Y sz9 (i:=c.length-1) (by simp;omega);obtain⟨M9,t4,t5,t6⟩:=t3 (S (a7++af)) rfl rfl;have bp:A4x M (A7m c af) v4 M9:=by
         refine⟨by rw[C4b,c8];simpa using t5,⟨?_,λj hj _=>?_⟩,x.2.2⟩
         .have:=x.2.1.1;have:=a8.1;have:=t6.1;omega
         .have:=x.2.1.1;rw[t6.2 j (by have:=a8.1;omega) λe=>by have:=x.2.2 _ e;omega,a8.2 j (by omega)];exact x.2.1.2 j hj (by simp)
        (have b9:(A7m c af).length<=(i+1)*1200:=by simp[A7m];omega);simp -dsimp -implicitDefEqProofs[t1,t4,j1,j2,j3,j4,j5,j6,j7,j8,j9,j10,hw,a5]
        exact⟨⟨i+1,by clear hw;omega,_,bp,g4,g7,by simp,b9,by simpa using y⟩,by clear hw;omega⟩
  ·(have aq:¬(i:Int)<old.length:=by omega);rw[ap,show old.length-i=0 by omega]
   simp -dsimp -implicitDefEqProofs[h3,h6,ae,a5,aq,ah,h7,h8];have aw:List.drop e.toNat (A0W l)=A0W (l.drop e.toNat):=B3K;rw[aw];refine push (C:=WC gl) (e:=9) A7g A9M B6h h2.1 (news:=(l.drop e.toNat).map S) (m:=(l.drop e.toNat).length) (E1q _ _ _) (by simp) (by simp;omega) rfl ?_;intro v' M' q1 q2 q3 _;have hf:=B0Z (X:=[]) h2 q1 (by simpa using q2) (by simpa using q3);simp -dsimp -implicitDefEqProofs[B5p,hf]
end
open Go.Proofs TryTypes
def hY:A2u:=⟨λ_=>true,λ_=>false,λd=>d==19||d==95||d==102||d==105||d==158⟩
@[simp] def E7G:hY.own=λ_=>false:=(rfl)
@[simp] def E7V:hY.vec=λd=>d==19||d==95||d==102||d==105||d==158:=(rfl)
section
variable (gl:Nat->AV) (M:Mem)
end
structure A1v where
 at_:IdD
 n:Int
 to:List IdD
def A1v.row(m:A1v):List AV:=[I m.at_.act,I m.at_.item,I m.at_.n,I m.n,.list 3 (m.to.map IdD.row) .no]
def A8L(s:List A1v)(id:IdD)(n:Int):List IdD:=match s.find? λm=>decide (m.at_=id)&&decide (m.n=n)with
 |some m=>m.to
 |none=>[]
section
variable (F:IdD->Option A0a) (l:List A0J) (s:List A1v)
def A4C:Nat->Int->List A0w
 |0,_=>[A3n]
 |f+1,n=>if n<0 then[A3n]else A4C f (A2l l n)++[⟨A4N F l n,A5J l n.toNat⟩]
def A1K(id:IdD)(n:Int):List (List A0w):=if(A8L s id n).all λy=>(A1U l y).isSome then(A8L s id n).map λy=>A4C F l ((A1U l y).getD 0+1) ((A1U l y).getD 0:Nat)else[]
end
section
variable (cs:List A1e) (nm:Nat->List (List A0w))
def A7I(i:Nat):List A1e:=(List.range i).flatMap λn=>match cs[n]? with
 |some c=>(nm n).map λ_=>c
 |none=>[]
def A9t(i:Nat):List (List A0w):=(List.range i).flatMap nm
def A2W(i:Nat):List A1e:=(List.range i).flatMap λn=>match cs[n]? with
 |some c=>if nm n=[]then[c]else(nm n).map λp=>⟨0,p,⟨#[]⟩,0,0⟩
 |none=>[]
end
def B1w(a b:A1e):Bool:=decide (a.k=b.k)&&decide (a.to=b.to)&&decide (a.path.map (λs=>(s.k,s.lab))=b.path.map (λs=>(s.k,s.lab)))
def A8s(a b:List A1e):Bool:=decide (a.length=b.length)&&(a.zip b).all λx=>B1w x.1 x.2
def A5b(t:ByteArray):A0Q:=⟨t,0,0,0⟩
def A8J(a b:Int):Int:=if b=6\/a=0 then b else a
section
variable (F:IdD->Option A0a) (l:List A0J) (s:List A1v)
def A6h(x:A0a):List ByteArray×Bool:=
 let cs:=A2d (A0z x.words) 0
 let nm:=λn:Nat=>A1K F l s x.id n
 let out:=A4W (A0z x.words) (A7I cs nm cs.length) (A9t nm cs.length)
 (out,A8s (A2d out 0) (A2W cs nm cs.length))
def D0Y:A0a:=.mk idZ 0 ⟨#[]⟩ [] [] []
def A2s(n:Nat):A0a:=match l[n]? with
 |some x=>(F x.id).getD D0Y
 |none=>D0Y
def B4D(w:List ByteArray×Bool):Int:=if 256<w.1.length then 6 else if w.2 then 0 else 2
def A2x:Nat->Nat->A0a×List IdD×Int
 |0,_=>(D0Y,[],0)
 |f+1,n=>
  let x:=A2s F l n
  let w:=A6h F l s x
  let ks:=(A3M l n l.length).map (A2x f)
  (.mk idZ x.kind (A5J l n) (x.head.map λh=>A5b h.text) (w.1.map A5b) (ks.map (·.1)),x.id::ks.flatMap (·.2.1),ks.foldl (λe k=>A8J e k.2.2) (B4D w))
def B0u:∀f n,(A2x F l s f n).2.1=(A4b (λk=>A2l l k) l.length f n).map λk=>(A2s F l k).id
 |0,n=>rfl
 |f+1,n=>by rw[A2x,A4b,Z0z];simp only;congr 1;rw[List.map_flatMap];have e:A3M l n l.length=chL (λk=>A2l l k) l.length n:=rfl;rw[e,Z3C];congr 1;funext k;exact B0u f k
end
def A5h(number:Int):List (List IdD)->Nat->List (IdD×IdD)
 |[],_=>[]
 |ids::r,j=>(ids.zipIdx.map λx=>(x.1,(⟨number,j,(x.2:Int)+1⟩:IdD)))++A5h number r (j+1)
def C3J{α:Type}:∀(l:List α) (k:Nat),(l.zipIdx k).map Prod.fst=l
 |[],_=>rfl
 |a::l,k=>by rw[List.zipIdx_cons,Z0z,C3J l (k+1)]
def B3x(a:Int):∀ts j,(A5h a ts j).map (·.1)=ts.flatMap id
 |[],j=>rfl
 |ids::r,j=>by
  rw[A5h,Z0U,B3x a r (j+1),Z0Y];congr 1;rw[Z1K];have:((λx:IdD×IdD=>x.1)∘λx:IdD×Nat=>(x.1,(⟨a,(j:Int),(x.2:Int)+1⟩:IdD)))=Prod.fst:=by funext x;rfl
  rw[this];exact C3J ids 0
section
variable {F:IdD->Option A0a} {l:List A0J} {s:List A1v}
def A3a(l:List A0J):List Nat:=A3M l (-1) l.length
def A1O(F:IdD->Option A0a)(l:List A0J)(s:List A1v):List (A0a×List IdD×Int):=(A3a l).map (A2x F l s l.length)
def C2g:(A1O F l s).flatMap (·.2.1)=(B0O (λk=>A2l l k) l.length).map λk=>(A2s F l k).id:=by unfold A1O B0O A3a;rw[Z3C,List.map_flatMap];have e:A3M l (-1) l.length=chL (λk=>A2l l k) l.length (-1):=rfl;rw[e];congr 1;funext k;exact B0u F l s l.length k
def D1J{u}(d:∀j,j<l.length->-1<=A2l l j/\A2l l j<j)(c:∀k,(h:k<l.length)->(A2s F l k).id=l[k].id)(hn:(l.map A0J.id).Nodup)(hu:(A0R u).Nodup)
 (f:∀x∈l,x.id∈(A0R u).tail)(i:l.length=(A0R u).tail.length):
 ((A1O F l s).flatMap (·.2.1)).Nodup/\∀x,x∈(A1O F l s).flatMap (·.2.1)<->x∈(A0R u).tail:=by
 obtain⟨h1,h2⟩:=A9f (par:=λk=>A2l l k) (N:=l.length) (λj hj=>d j hj)
 rw[C2g]
 have hm:∀x,x∈(B0O (λk=>A2l l k) l.length).map (λk=>(A2s F l k).id)<->x∈l.map A0J.id:=by
  intro x;simp only[Z0C];constructor
  .rintro⟨k,hk,rfl⟩;have:=(h2 k).1 hk;exact⟨l[k],Z0o this,(c k this).symm⟩
  .rintro⟨y,hy,rfl⟩;obtain⟨k,hk,rfl⟩:=Z2r hy;exact⟨k,(h2 k).2 hk,c k hk⟩
 refine⟨?_,λx=>?_⟩
 .unfold List.Nodup;rw[Z3Z];refine Z2C ?_ h1;intro a b ha hb g e;have ha:=(h2 a).1 ha;have hb:=(h2 b).1 hb;rw[c a ha,c b hb]at e;have hp:=Z3o.1 hn;rcases Nat.lt_or_gt_of_ne g with h|h
  .exact hp a b (by simpa using ha) (by simpa using hb) h (by simpa using e)
  .exact hp b a (by simpa using hb) (by simpa using ha) h (by simpa using e.symm)
 .rw[hm];constructor
  .intro h;obtain⟨y,hy,rfl⟩:=Z0C.1 h;exact f y hy
  .refine D1b hn (λy hy=>?_) (by rw[Z0G];omega) x;obtain⟨z,hz,rfl⟩:=Z0C.1 hy;exact f z hz
end
def D7j(u:A0a):Bool:=if u.kind=0 then decide (u.label.size=0)&&decide (u.head.length=0)&&decide (u.words.length=0)else decide (0<u.kind/\u.kind<=7)&&A0O u.label&&A5V u.head&&A5V u.words
mutual
def E0A(d:Nat):A0a->Bool
 |.mk id k l h w ks=>!decide (8<d)&&!(decide (0<d)&&decide (k=0))&&D7j (.mk id k l h w ks)&&decide (ks.length<=64)&&D6F k d ks []
def D6F(kind:Int)(d:Nat):List A0a->List A0a->Bool
 |[],_=>true
 |k::ks,before=>A4E kind k.kind&&E0A (d+1) k&&!(before.any λa=>A7F a k)&&D6F kind d ks (before++[k])
end
def B7C(t:ByteArray):ByteArray:=if A0P t 0=124\/A0P t 0=92 then⟨#[92]⟩++t else t
def B1M(s:ByteArray)(ws:List A0Q):ByteArray:=ws.foldl (λs w=>s++⟨#[32]⟩++B7C w.text) s
def C5u(a b c:ByteArray):a++b++c=a++(b++c):=by apply ByteArray.ext;simp[ByteArray.data_append,Array.append_assoc]
def B5r:Nat->ByteArray
 |0=>⟨#[]⟩
 |d+1=>B5r d++⟨#[32,32]⟩
def A9T:List ByteArray:=[⟨#[98,111,111,107]⟩,⟨#[112,97,114,116]⟩,⟨#[115,101,99,116,105,111,110]⟩,⟨#[112,97,114,97,103,114,97,112,104]⟩,⟨#[116,97,98,108,101]⟩,⟨#[114,111,119]⟩,⟨#[99,101,108,108]⟩,⟨#[110,111,116,101]⟩]
def B3m(u:A0a)(d:Nat):ByteArray:=B5r d++A9T.getD u.kind.toNat ⟨#[]⟩
def A8R(u:A0a)(d:Nat):ByteArray:=if u.kind=0 then B3m u d else B3m u d++(⟨#[32]⟩++u.label)
def A7u(u:A0a)(d:Nat):ByteArray:=if u.head.length=0 then A8R u d else B1M (A8R u d++⟨#[58]⟩) u.head
def A6S(u:A0a)(d:Nat):ByteArray:=if u.words.length=0 then A7u u d else B1M (A7u u d++⟨#[32,124]⟩) u.words
mutual
def A6e(d:Nat):A0a->List ByteArray
 |.mk id k l h w ks=>A6S (.mk id k l h w ks) d::A6k (d+1) ks
def A6k(d:Nat):List A0a->List ByteArray
 |[]=>[]
 |k::ks=>A6e d k++A6k d ks
end
def A6M(l:List ByteArray):Nat:=(l.map λs=>s.size+1).foldr (·+·) 0
@[simp] def E0b:A6M []=0:=(rfl)
@[simp] def B2j(s:ByteArray)(l:List ByteArray):A6M (s::l)=s.size+1+A6M l:=(rfl)
def C8T(a b:List ByteArray):A6M (a++b)=A6M a+A6M b:=by
 induction a with
 |nil=>simp
 |cons s a ih=>simp[ih];omega
def D6g(t:ByteArray):(B7C t).size<=t.size+1:=by
 have e:(⟨#[92]⟩:ByteArray).size=1:=rfl;unfold B7C;split
 .rw[Z0J,e];omega
 .omega
def B0d:∀(ws:List A0Q) (s:ByteArray),(∀w∈ws,w.text.size<=24)->(B1M s ws).size<=s.size+26*ws.length
 |[],s,_=>by simp[B1M]
 |w::ws,s,h=>by have h1:=B0d ws (s++⟨#[32]⟩++B7C w.text) λx hx=>h x (by simp[hx]);have h2:=h w (by simp);have h3:=D6g w.text;have e:B1M s (w::ws)=B1M (s++⟨#[32]⟩++B7C w.text) ws:=rfl;have e2:(⟨#[32]⟩:ByteArray).size=1:=rfl;rw[e];simp only[Z0J,Z0x,e2]at h1|-;omega
def B3N:∀d,(B5r d).size=2*d
 |0=>rfl
 |d+1=>by have e2:(⟨#[32,32]⟩:ByteArray).size=2:=rfl;rw[B5r,Z0J,B3N d,e2];omega
def A3C(l:List ByteArray)(p:ByteArray->Bool)(at_:Nat)(en:Bool):Option ByteArray×Nat×Bool:=
 if en=true then(none,at_,en)else match l[at_]? with
 |none=>(none,at_,en)
 |some s=>if p s=true then(some s,at_+1,false)else if s.size=0 then(none,at_,false)else if A4a (A0P s (s.size-1))=false then(none,at_,false)else if p (s.extract 0 (s.size-1))=true then(some (s.extract 0 (s.size-1)),at_+1,true)else(none,at_,false)
def B3P(p:ByteArray->Bool):Prop:=∀s,p s=true->A2S s=true
def B2o{l}{p:ByteArray->Bool}{a}{en}(h:A1i l a en=[]):A3C l p a en=(none,a,en):=by
 unfold A3C;by_cases c:en=true
 .rw[Z0e c]
 .rw[Z0d c];by_cases e:a<l.length
  ·(have:en=false:=by simpa using c);subst this
   rw[D0A e]at h;exact absurd h (by simp)
  .rw[Z1s (by omega)]
def A9S{l}{p:ByteArray->Bool}(hp:B3P p){a}{en}{t}{r}(h:A1i l a en=t::r):a<l.length/\en=false/\((p t=true/\∃en',A3C l p a en=(some t,a+1,en')/\A1i l (a+1) en'=r)\/(p t=false/\A3C l p a en=(none,a,false))):=by
 have he:en=false:=by
  cases en with
  |false=>rfl
  |true=>rw[C7X (.inl rfl)]at h;exact absurd h (by simp)
 subst he
 have hl:a<l.length:=by refine Z2P λc=>?_;rw[C7X (.inr (by omega))]at h;exact absurd h (by simp)
 refine⟨hl,rfl,?_⟩
 rw[D0A hl]at h
 simp only[Z1a]at h
 obtain⟨h1,h2⟩:=h
 unfold A3C
 simp only[Z0H,Z1i,Z0l hl]
 cases hc:A2S l[a]with
 |true=>
  rw[B4f hc]at h1
  rw[hc]at h2
  subst h1
  by_cases e:p l[a]=true
  .exact .inl ⟨e,false,by rw[Z0e e],h2⟩
  .refine .inr ⟨by simpa using e,?_⟩;rw[Z0d e];by_cases z:l[a].size=0
   .rw[Z0e z]
   .rw[Z0d z];unfold A2S at hc;simp only[z,Z4D,Z1J,Z2E]at hc;rw[Z0e hc]
 |false=>
  obtain⟨b1,b2,b3,b4⟩:=D7v hc
  rw[hc]at h2
  have e:¬p l[a]=true:=λe=>by rw[hp _ e]at hc;exact absurd hc (by simp)
  rw[Z0d e,Z0d (by omega),Z0d (by rw[b3];simp),<-b4,h1]
  by_cases c:p t=true
  .exact .inl ⟨c,true,by rw[Z0e c],h2⟩
  .exact .inr ⟨by simpa using c,by rw[Z0d c]⟩
def D3G(w:ByteArray)(h:A2S w=true):B3P λs=>decide (s=w):=λs hs=>by rw[Z1M hs];exact h
def B7o:B3P A0O:=λs hs=>(A8Y hs).1
def C5I:B3P λs=>decide (0<kS s):=λs hs=>(A8H s (B0B (Z1M hs))).1
def D5R:B3P λs=>decide (0<kP s):=λs hs=>(B5n s (A8X (Z1M hs)).1 (A8X (Z1M hs)).2).1
def A7f(l:List ByteArray)(kd:ByteArray->Int)(a:Nat)(en:Bool):Option A0w×Nat×Bool:=
 match A3C l (λs=>decide (0<kd s)) a en with
 |(none,_,_)=>(none,a,en)
 |(some s,a1,en1)=>match A3C l A0O a1 en1 with
  |(none,_,_)=>(none,a,en)
  |(some t,a2,en2)=>(some ⟨kd s,t⟩,a2,en2)
def C1k{l}{kd:ByteArray->Int}(hk:B3P λs=>decide (0<kd s)){a}{en}:
 (∃s t r,A1i l a en=s::t::r/\0<kd s/\A0O t=true/\∃en',A7f l kd a en=(some ⟨kd s,t⟩,a+2,en')/\A1i l (a+2) en'=r)\/
 ((∀s t r,A1i l a en=s::t::r->¬(0<kd s/\A0O t=true))/\A7f l kd a en=(none,a,en)):=by
 unfold A7f
 cases hs:A1i l a en with
 |nil=>
  right
  rw[B2o hs]
  exact⟨λs t r e=>absurd e (by simp),rfl⟩
 |cons s r1=>
  obtain⟨hl,rfl,h|h⟩:=A9S hk hs
  .obtain⟨c1,c,e1,s1⟩:=h;rw[e1];simp only;cases r1 with
   |nil=>right;rw[B2o s1];exact⟨λs t r e=>absurd e (by simp),rfl⟩
   |cons t r=>
    obtain⟨b,rfl,h|h⟩:=A9S B7o s1
    .obtain⟨c2,en2,e2,s2⟩:=h;rw[e2];exact .inl ⟨s,t,r,rfl,by simpa using c1,c2,en2,rfl,s2⟩
    .rw[h.2];refine .inr ⟨λs' t' r' e=>?_,rfl⟩;simp only[Z1a]at e;obtain⟨rfl,rfl,rfl⟩:=e;rw[h.1];simp
  .rw[h.2];refine .inr ⟨λs' t' r' e=>?_,rfl⟩;simp only[Z1a]at e;obtain⟨rfl,rfl⟩:=e;intro hh;have:=h.1;simp[hh.1]at this
def D5o{n}{s t}{r}(h:0<kS s/\A0O t=true):prs (n+1) (s::t::r)=⟨kS s,t⟩::prs n r:=by rw[prs,Z0e h]
def D3Y{n}{w}(h:∀s t r,w=s::t::r->¬(0<kS s/\A0O t=true)):prs n w=[]:=by
 match n,w,h with
 |0,w,_=>cases w<;>simp[prs]
 |n+1,[],_=>simp[prs]
 |n+1,[a],_=>simp[prs]
 |n+1,a::b::r,h=>rw[prs,Z0d (h a b r rfl)]
def A8c{l}{want}(hc:A2S want=true){a}{en}:
 (∃r,A1i l a en=want::r/\∃b,A3C l (λs=>decide (s=want)) a en=(some want,a+1,b)/\A1i l (a+1) b=r)\/
 ((∀r,A1i l a en≠want::r)/\A3C l (λs=>decide (s=want)) a en=(none,a,en)):=by
 cases hs:A1i l a en with
 |nil=>exact .inr ⟨λr e=>absurd e (by simp),B2o hs⟩
 |cons s r=>
  obtain⟨hl,rfl,h|h⟩:=A9S (D3G want hc) hs
  .obtain⟨c,b,e1,e2⟩:=h;have:=Z1M c;subst this;exact .inl ⟨r,rfl,b,e1,e2⟩
  .refine .inr ⟨λr' e=>?_,h.2⟩;simp only[Z1a]at e;have:=h.1;simp[e.1]at this
def D1Q{l}{kd:ByteArray->Int}(hk:B3P λs=>decide (0<kd s)){a}{en}:
 (∃s r,A1i l a en=s::r/\0<kd s/\∃b,A3C l (λs=>decide (0<kd s)) a en=(some s,a+1,b)/\A1i l (a+1) b=r)\/
 ((∀s r,A1i l a en=s::r->¬0<kd s)/\A3C l (λs=>decide (0<kd s)) a en=(none,a,en)):=by
 cases hs:A1i l a en with
 |nil=>exact .inr ⟨λs r e=>absurd e (by simp),B2o hs⟩
 |cons s r=>
  obtain⟨hl,rfl,h|h⟩:=A9S hk hs
  .obtain⟨c,b,e1,e2⟩:=h;exact .inl ⟨s,r,rfl,Z1M c,b,e1,e2⟩
  .refine .inr ⟨λs' r' e=>?_,h.2⟩;simp only[Z1a]at e;rw[<-e.1];exact of_decide_eq_false h.1
abbrev A1E(l:List ByteArray)(o:Own)(a:Nat)(en:Bool):List AV:=[.list 1 (A0W l) o,I a,B en]
def Rd(M:Mem)(r:Nat)(l:List ByteArray)(o:Own)(a:Nat)(en:Bool):Prop:=M[r]?=some (.cells 240 (A1E l o a en))
def D9a(C:Ctx)(g:FuncId)(cs:List AV)(p:ByteArray->Bool):Prop:=∀s M,A4r C g (S s::cs) M (λv M'=>v=B (p s)/\M'=M)
def C3E(c:Int):(A7d c<0)=(A4a c=false):=by unfold A7d A4a;by_cases h1:c=44<;>by_cases h2:c=59<;>by_cases h3:c=46<;>by_cases h4:c=58<;>by_cases h5:c=41<;>simp[h1,h2,h3,h4,h5]
section
variable (gl:Nat->AV)
def D5r(c:UInt8)(M:Mem):A0e (WC gl) 375 [S A6N,.val (.int .u8 c.toNat)] M (λr m=>r=I (A7d c.toNat)/\m=M):=by refine A0n hB func375 ?_;simp -dsimp -implicitDefEqProofs;refine A0h func271 (C5Y gl M c) ?_;simp -dsimp -implicitDefEqProofs
def B5D(l:List ByteArray)(o:Own)(hl:l.length<=1000000000)(q:∀s∈l,s.size<=maxLen)(p:ByteArray->Bool)(r:Nat)(g:FuncId)(cs:List AV)(hf:D9a (WC gl) g cs p)(a:Nat)(en:Bool)(M:Mem)(hr:Rd M r l o a en):A0e (WC gl) 331 [.ptr r 0,.func (.func g) [] cs] M (λv M'=>v=.tuple [S ((A3C l p a en).1.getD ⟨#[]⟩),B (A3C l p a en).1.isSome]/\M'=M.set r (.cells 240 (A1E l o (A3C l p a en).2.1 (A3C l p a en).2.2))):=by
 have b:M.set r (.cells 240 (A1E l o a en))=M:=by
  apply Z1G;intro i;rw[Z2m];split
  .rename_i e;subst e;split
   .exact hr.symm
   .rename_i h;exact(Z1s (by omega)).symm
  .rfl
 refine A0n hB func331 ?_
 simp -dsimp -implicitDefEqProofs
 refine A0Z hB (A0u gl) (λk=>if k=3\/k=8\/k=12 then 1 else 0) (λ_=>r) (by rfl) (by kernel_rfl) ?_
 cases en with
 |true=>simp -dsimp -implicitDefEqProofs[A0b hr,A3C,b]
 |false=>
 by_cases hal:a<l.length
 case neg=>
  have h1:(l.length:Int)<=a:=by omega
  have h2:l[a]?=none:=Z1s (by omega);simp -dsimp -implicitDefEqProofs[A0b hr,h1,A3C,h2,b]
 have h1:¬(l.length:Int)<=a:=by omega
 have n:(a:Int)<l.length:=by omega
 have h2:l[a]?=some l[a]:=Z0l hal
 simp -dsimp -implicitDefEqProofs[A0b hr,h1]
 refine A0Z hB (A0u gl) (λk=>if k=3\/k=7 then 1 else 0) (λ_=>r) (by rfl) (by kernel_rfl) ?_
 simp -dsimp -implicitDefEqProofs[A0b hr,n,hal]
 have f:IntKind.i64.wrap ((a:Int)+1)=(a+1:Nat):=by rw[A0L (by omega) (by omega)];omega
 have h:r<M.length:=(Z0a.1 hr).1
 refine A1W (hf _ _) ?_
 rintro _ M1 ⟨rfl,rfl⟩
 have t:l[a].size<=9223372036854775807:=q _ (Z0o hal)
 generalize hs:l[a]=s at*
 by_cases c1:p s=true
 .simp -dsimp -implicitDefEqProofs[c1,A0b hr,A0f hr,A0d,f,A3C,h2];rfl
 have c:p s=false:=by simpa using c1
 by_cases c2:s.size=0
 .have hw:IntKind.i64.wrap (-1)=-1:=by decide
  simp -dsimp -implicitDefEqProofs[c,hw,A3C,h2,c1,c2,b]
 have hw:IntKind.i64.wrap ((s.size:Int)-1)=(s.size-1:Nat):=by rw[A0L (by omega) (by omega)];omega
 have i1:((s.size-1:Nat):Int)<s.size:=by omega
 have i2:s.size-1<s.size:=by omega
 have i0:¬((s.size-1:Nat):Int)<0:=by omega
 have i3:((s.size-1:Nat):Int)<=s.size:=by omega
 simp -dsimp -implicitDefEqProofs[c,hw,i0,i1,i2]
 refine A0h func375 (D5r gl (s.data.getD (s.size-1) 0) M1) ?_
 have d:(A7d (s.data.getD (s.size-1) 0).toNat<0)=(A4a (A0P s (s.size-1))=false):=C3E _
 generalize A7d (s.data.getD (s.size-1) 0).toNat=k at*
 cases c3:A4a (A0P s (s.size-1))with
 |false=>
  rw[c3]at d
  have k0:k<0:=by rw[d]
  simp -dsimp -implicitDefEqProofs[c,hw,i0,k0,A3C,h2,c1,c2,c3,b]
 |true=>
  rw[c3]at d
  have k0:¬k<0:=by rw[d];simp
  simp -dsimp -implicitDefEqProofs[c,hw,i0,k0,i3]
  refine A1W (hf _ _) ?_
  rintro _ M3 ⟨rfl,rfl⟩
  by_cases c4:p (s.extract 0 (s.size-1))=true
  .have m:r<M3.length:=h;(have j:(M3.set r (A0m.cells 240 [AV.list 1 (A0W l) o,AV.val (.int .i64 (a:Int)),AV.val (.bool true)]))[r]?=some (A0m.cells 240 [AV.list 1 (A0W l) o,AV.val (.int .i64 (a:Int)),AV.val (.bool true)]):=by simp[m]);simp -dsimp -implicitDefEqProofs[c4,A0b hr,A0f hr,A0d,f,i3];simp -dsimp -implicitDefEqProofs[A0b j,A0f j,A0d,f,A3C,h2,c1,c2,c3,c4,Z2J];rfl
  .simp -dsimp -implicitDefEqProofs[c4,A3C,h2,c1,c2,c3,b]
end
section
variable (gl:Nat->AV)
def C9R(a:ByteArray):D9a (WC gl) 332 [.cptr [S a]] (λs=>decide (s=a)):=λs M=>by
 refine A1a func332 rfl rfl ?_;refine A0n hB func332 ?_;simp -dsimp
 done
def D6B(l:List ByteArray)(o:Own)(w:ByteArray)(M:Mem)(hl:l.length<=1000000000):A0e (WC gl) 396 [.list 1 (A0W l) o,S w] M (λv M'=>v=I (B1h l w 0)/\M'=M):=by
 refine A0n hB func396 ?_;simp -dsimp;refine A0B hB l.length 8 (λT M1=>∃i:Nat,M1=M/\i<=l.length/\T 0=.list 1 (A0W l) o/\T 1=S w/\T 7=I l.length/\T 8=I i/\B1h l w 0=B1h (l.drop i) w i) ?_ ?_
 .exact⟨0,rfl,by omega,by simp,by simp,by simp,by simp,by simp⟩
 rintro T M1 ⟨i,rfl,h1,t0,t1,t7,t8,h2⟩;by_cases hi:i<l.length
 .have a:(i:Int)<l.length:=by omega
  have hw:IntKind.i64.wrap ((i:Int)+1)=(i+1:Nat):=by rw[A0L (by omega) (by omega)];omega
  rw[Z0j hi,B1h]at h2;by_cases c:l[i]=w
  .rw[Z0e c]at h2;simp -dsimp[t0,t1,t7,t8,a,hi,c,h2]
  .rw[Z0d c]at h2;have c':¬w=l[i]:=λe=>c e.symm;simp -dsimp[t0,t1,t7,t8,a,hi,c,c',hw];exact⟨⟨i+1,by omega,rfl,h2⟩,by omega⟩
 .have a:¬(i:Int)<l.length:=by omega
  rw[Z0v (by omega),B1h]at h2;simp -dsimp[t0,t1,t7,t8,a,h2]
def B8x(M:Mem):A0e (WC gl) 219 [] M (λv M'=>v=.list 1 (A0W A1x) .full/\M'=M):=by refine A0n hB func219 ?_;simp -dsimp[A0l,A0M,A0W,A1x]
def D3j(M:Mem):A0e (WC gl) 169 [] M (λv M'=>v=.list 1 (A0W A2J) .full/\M'=M):=by refine A0n hB func169 ?_;simp -dsimp[A0l,A0M,A0W,A2J]
end
section
variable (gl:Nat->AV)
def D1g(l:List ByteArray)(o:Own)(w:ByteArray)(M:Mem)(hl:l.length<=1000000000):A0e (WC gl) 377 [.list 1 (A0W l) o,S w] M (λv M'=>v=I (A2I l w)/\M'=M):=by
 refine A0n hB func377 ?_;by_cases c:w=⟨#[]⟩
 .simp -dsimp[c,A2I]
 .simp -dsimp[c,A2I];refine A0h func396 (D6B gl l o w M hl) ?_;simp -dsimp;rw[A2I,Z0d c];split<;>omega
def D0i(l:List ByteArray)(o:Own)(hl:l.length<=1000000000):D9a (WC gl) 376 [.cptr [.list 1 (A0W l) o]] (λs=>decide (0<A2I l s)):=λs M=>by refine A1a func376 rfl rfl ?_;refine A0n hB func376 ?_;simp -dsimp;refine A0h func377 (D1g gl l o s M hl) ?_;simp -dsimp
def B3b(l:List ByteArray)(o:Own)(hl:l.length<=1000000000)(c:∀s∈l,s.size<=maxLen)(b:ByteArray)(r:Nat)(a:Nat)(en:Bool)(M:Mem)(hr:Rd M r l o a en):A0e (WC gl) 251 [.ptr r 0,S b] M (λv M'=>v=B (A3C l (λs=>decide (s=b)) a en).1.isSome/\M'=M.set r (.cells 240 (A1E l o (A3C l (λs=>decide (s=b)) a en).2.1 (A3C l (λs=>decide (s=b)) a en).2.2))):=by
 refine A0n hB func251 ?_
 simp -dsimp
 refine A0q func331 (B5D gl l o hl c _ r 332 _ (C9R gl b) a en M hr) ?_
 rintro _ M1 ⟨rfl,rfl⟩
 simp -dsimp
def C5Q(l:List ByteArray)(o:Own)(hl:l.length<=1000000000)(b:∀s∈l,s.size<=maxLen)(ks:List ByteArray)(o2:Own)(hk:ks.length<=100)(r:Nat)(a:Nat)(en:Bool)(M:Mem)(hr:Rd M r l o a en):A0e (WC gl) 333 [.ptr r 0,.list 1 (A0W ks) o2] M (λv M'=>v=.tuple [I (A2I ks ((A3C l (λs=>decide (0<A2I ks s)) a en).1.getD ⟨#[]⟩)),B (A3C l (λs=>decide (0<A2I ks s)) a en).1.isSome]/\M'=M.set r (.cells 240 (A1E l o (A3C l (λs=>decide (0<A2I ks s)) a en).2.1 (A3C l (λs=>decide (0<A2I ks s)) a en).2.2))):=by
 refine A0n hB func333 ?_
 simp -dsimp
 refine A0q func331 (B5D gl l o hl b _ r 376 _ (D0i gl ks o2 (by omega)) a en M hr) ?_
 rintro _ M1 ⟨rfl,rfl⟩
 simp -dsimp
 refine A0q func377 (D1g gl ks o2 _ _ (by omega)) ?_
 rintro _ M2 ⟨rfl,rfl⟩
 simp -dsimp
end
section
variable (gl:Nat->AV)
def B8I:D9a (WC gl) 112 [] A0O:=λs M=>A1a func112 rfl rfl (A3r (λ_=>trivial) (A6x gl M s))
@[simp] def E2t:A0x prog 159 []=some (.agg [I 0,S ⟨#[]⟩]):=by simp[A0x,A1b]
@[simp] def E1M{k}{t}:A0x prog 159 [(0,I k),(1,S t)]=some (.agg [I k,S t]):=by simp[A0x,A1b,A1o,A0d]
def A9C{M:Mem}{r:Nat}{l:List ByteArray}{o:Own}{a:Nat}{en:Bool}{X:A0m}(h:r<M.length):Rd (M.set r (.cells 240 (A1E l o a en))) r l o a en:=by simp[Rd,h]
def C7b(l:List ByteArray)(o:Own)(hl:l.length<=1000000000)(a7:∀s∈l,s.size<=maxLen)(ks:List ByteArray)(o2:Own)(hk:ks.length<=100)(r:Nat)(a:Nat)(en:Bool)(M:Mem)(hr:Rd M r l o a en):A0e (WC gl) 330 [.ptr r 0,.list 1 (A0W ks) o2] M (λv M'=>v=.tuple [.agg (match(A7f l (A2I ks) a en).1 with|some s=>s.row|none=>[I 0,S ⟨#[]⟩]),B (A7f l (A2I ks) a en).1.isSome]/\A0c (some r) M M'/\Rd M' r l o (A7f l (A2I ks) a en).2.1 (A7f l (A2I ks) a en).2.2):=by
 obtain⟨R,hR⟩:=ex (A7f l (A2I ks) a en)
 rw[<-hR]
 refine A0n hB func330 ?_
 have p:r<M.length:=(Z0a.1 hr).1
 obtain⟨M1,b⟩:=ex (M++[A0m.cells 159 [I 0,S ⟨#[]⟩],A0m.cells 240 (A1E l o a en)])
 have k:Rd M1 r l o a en:=by unfold Rd;rw[b,Z0i p];exact hr
 have a0:(M++[A0m.cells 159 [I 0,S ⟨#[]⟩]])[r]?=some (.cells 240 (A1E l o a en)):=by rw[Z0i p];exact hr
 have w:M1[M.length]?=some (.cells 159 [I 0,S ⟨#[]⟩]):=by rw[b];simp
 have a4:M1[M.length+1]?=some (.cells 240 (A1E l o a en)):=by rw[b];simp
 have u:A0c (some r) M M1:=by rw[b];exact .app _ _ _
 simp -dsimp[A0k,A0b a0,A0i,A0d]
 rw[<-b]
 clear a0 b
 refine A0q func333 (C5Q gl l o hl a7 ks o2 hk r a en M1 k) ?_
 rintro _ M2 ⟨rfl,rfl⟩
 have g:r<M1.length:=(Z0a.1 k).1
 have h:A7f l (A2I ks) a en=match A3C l (λs=>decide (0<A2I ks s)) a en with
  |(none,_,_)=>(none,a,en)
  |(some s,a1,f)=>match A3C l A0O a1 f with
   |(none,_,_)=>(none,a,en)
   |(some t,a2,en2)=>(some ⟨A2I ks s,t⟩,a2,en2):=rfl
 rw[h]at hR
 clear h
 rcases hw:A3C l (λs=>decide (0<A2I ks s)) a en with⟨w1,a1,f⟩
 rw[hw]at hR
 have x:=@A9C M1 r l o a1 f .gone g
 have d:r≠M.length:=by omega
 have a5:r≠M.length+1:=by omega
 simp -dsimp
 refine A0q func331 (B5D gl l o hl a7 A0O r 112 [] (B8I gl) a1 f _ x) ?_
 rintro _ M3 ⟨rfl,rfl⟩
 rcases hw2:A3C l A0O a1 f with⟨w2,a2,en2⟩
 simp only[Z2J]
 have m:=@A9C M1 r l o a2 en2 .gone g
 have a6:A0c (some r) M (M1.set r (.cells 240 (A1E l o a2 en2))):=u.trans (.set _ _ _)
 have j:(M1.set r (.cells 240 (A1E l o a2 en2)))[M.length]?=some (.cells 159 [I 0,S ⟨#[]⟩]):=by rw[Z0c d];exact w
 have y:(M1.set r (.cells 240 (A1E l o a2 en2)))[M.length+1]?=some (.cells 240 (A1E l o a en)):=by rw[Z0c a5];exact a4
 generalize M1.set r (.cells 240 (A1E l o a2 en2))=M3 at*
 have e:M.length<M3.length:=(Z0a.1 j).1
 have q:Rd (M3.set r (.cells 240 (A1E l o a en))) r l o a en:=@A9C M3 r l o a en .gone (by omega)
 have z:(M3.set r (.cells 240 (A1E l o a en)))[M.length]?=some (.cells 159 [I 0,S ⟨#[]⟩]):=by rw[Z0c d];exact j
 have a3:A0c (some r) M (M3.set r (.cells 240 (A1E l o a en))):=a6.trans (.set _ _ _)
 have c:∀(M4:Mem) (X:List AV) (a':Nat) (n:Bool),Rd M4 r l o a' n->A0c (some r) M M4->A0c (some r) M (M4.set M.length (.cells 159 X))/\Rd (M4.set M.length (.cells 159 X)) r l o a' n:=λM4 X a' n h1 h2=>by
  refine⟨⟨by simpa using h2.1,λi hi ho=>?_⟩,?_⟩
  .rw[Z0c (by omega)];exact h2.2 i hi ho
  .unfold Rd;rw[Z0c d.symm];exact h1
 clear u k w a4 x
 cases w1 with
 |none=>
  simp only at hR
  subst hR
  have hq:=c _ [I 0,S ⟨#[]⟩] a en q a3
  simp -dsimp[A0b y,A0f m,A0d]
  simp -dsimp[A0f z,A0d,A0s,e,A0j]
  exact hq
 |some s=>
  simp only[hw2]at hR
  cases w2 with
  |none=>
   simp only at hR
   subst hR
   have hq:=c _ [I 0,S ⟨#[]⟩] a en q a3
   simp -dsimp[A0b y,A0f m,A0d]
   simp -dsimp[A0f z,A0d,A0s,e,A0j]
   exact hq
  |some t=>
   simp only at hR
   subst hR
   have hq:=c _ [I (A2I ks s),S t] a2 en2 m a6
   simp -dsimp[A0f j,A0d,A0s,e,A0j,A0w.row]
   exact hq
end
def A1D(r:Nat)(b:Option Nat)(M M':Mem):Prop:=M.length<=M'.length/\∀i,i<M.length->i≠r->b≠some i->M'[i]?=M[i]?
def A1D.refl(r:Nat)(b:Option Nat)(M:Mem):A1D r b M M:=⟨Z0n _,λ_ _ _ _=>rfl⟩
def A1D.step{r}{b c}{M M1 M2}(h:A1D r b M M1)(k:A1D r c M1 M2)(hc:∀i,c=some i->i<M.length->b=some i):A1D r b M M2:=⟨Z0R h.1 k.1,λi hi h1 h2=>(k.2 i (Z1j hi h.1) h1 λe=>h2 (hc i e hi)).trans (h.2 i hi h1 h2)⟩
def A1D.of_r{r}{b}{M M'}(h:A0c (some r) M M'):A1D r b M M':=⟨h.1,λi hi h1 _=>h.2 i hi λe=>h1 (by simpa using e.symm)⟩
def A1D.of_b{r}{b}{M M'}(h:A0c b M M'):A1D r b M M':=⟨h.1,λi hi _ h2=>h.2 i hi h2⟩
def lenV(v:AV):Nat:=match v with
 |.vref _ _ _ _ n=>n
 |_=>0
def A1g.lenV{α:Type}{e sz}{enc:α->List AV}{M}{v}{l}(h:A1g e sz enc M v l):lenV v=l.length:=by rcases h with⟨rfl,rfl⟩|⟨f,g,a,rfl,_⟩<;>rfl
def C3T(l:List ByteArray)(o:Own)(r a:Nat)(en:Bool)(b:Option Nat)(n:Nat)(M M':Mem):Prop:=∃en',Rd M' r l o (a+n) en'/\A1i l (a+n) en'=(A1i l a en).drop n/\A1D r b M M'
def D9U(l:List ByteArray)(o:Own)(r a:Nat)(en:Bool)(n:Nat)(b:Option Nat)(P:List A0w)(M:Mem)(q:List A0w)(M1:Mem):Prop:=∃en1,Rd M1 r l o (a+2*q.length) en1/\A1i l (a+2*q.length) en1=(A1i l a en).drop (2*q.length)/\P=q++prs (9-n-q.length) (A1i l (a+2*q.length) en1)/\A1D r b M M1
section
variable (gl:Nat->AV)
def C4D(l:List ByteArray)(o:Own)(hl:l.length<=1000000000)(a8:∀s∈l,s.size<=maxLen)(r:Nat)(a:Nat)(en:Bool)(p:List A0w)(v0:AV)(M:Mem)(hr:Rd M r l o a en)(hv:A1g 159 2 A0w.row M v0 p)(hp:p.length<=9)(a3:obj v0≠some r):A0e (WC gl) 329 [.ptr r 0,v0] M (λv M'=>A1g 159 2 A0w.row M' v (p++prs (9-p.length) (A1i l a en))/\C3T l o r a en (obj v0) (2*(prs (9-p.length) (A1i l a en)).length) M M'/\(obj v=obj v0\/A1m M.length v)):=by
 obtain⟨P,hP⟩:=ex (prs (9-p.length) (A1i l a en))
 rw[<-hP]
 refine A0n (hQ [21]) func329 ?_
 simp -dsimp
 refine A2P (hQ [21]) (λT M1=>∃(q:List A0w) (vq:AV),T 0=.ptr r 0/\T 1=vq/\A1g 159 2 A0w.row M1 vq (p++q)/\p.length+q.length<=9/\D9U l o r a en p.length (obj v0) P M q M1/\(obj vq=obj v0\/A1m M.length vq)/\obj vq≠some r) (λT M1=>10-lenV (T 1)) (by kernel_rfl) ?_ ?_
 .exact⟨[],v0,by simp,by simp,by simpa using hv,by simpa using hp,⟨en,by simpa using hr,by simp,by simpa using hP,.refl _ _ _⟩,.inl rfl,a3⟩
 rintro T M1 ⟨q,vq,t0,t1,h1,h2,⟨d,h3,h4,h5,h6⟩,h7,h8⟩
 have m:=h1.len (P:=prog) (t:=40) (e':=159) (by kernel_rfl)
 have a9:r<M1.length:=(Z0a.1 h3).1
 have ab:=h1.lenV
 rw[Z0t]at m ab
 by_cases c:p.length+q.length<9
 .have c':(p.length:Int)+q.length<9:=by omega
  simp -dsimp[t0,t1,m,c'];refine A0q func219 (B8x gl M1) ?_;rintro _ M2 ⟨rfl,rfl⟩;simp -dsimp[t0,t1];refine A0q func330 (C7b gl l o hl a8 A1x .full (by decide) r _ d M2 h3) ?_;rintro _ M3 ⟨rfl,hk,k⟩;have x:=@C1k l kS C5I (a+2*q.length) d;rcases x with⟨s,t,w',e1,e2,e3,n,e4,e5⟩|⟨e1,e2⟩
  .have a7:A7f l (A2I A1x) (a+2*q.length) d=(some ⟨kS s,t⟩,a+2*q.length+2,n):=e4;rw[a7]at k|-;obtain⟨M4,u⟩:=ex (M3++[A0m.cells 159 [I (kS s),S t]]);(have a5:M4[M3.length]?=some (A0m.cells 159 [I (kS s),S t]):=by rw[u];simp);have j:A0c (some r) M2 M4:=hk.trans (by rw[u];exact .app _ _ _);(have w:Rd M4 r l o (a+2*q.length+2) n:=by unfold Rd;rw[u,Z0i (by have:=(Z0a.1 k).1;exact this)];exact k);have y:A1g 159 2 A0w.row M4 vq (p++q):=h1.keep j (λf hf e=>h8 (by rw[hf];exact e.symm));simp -dsimp[t0,t1,A0k,A0i,A0d,A0w.row];rw[<-u];simp -dsimp[t0,t1,A0b a5,A0l,A0M];refine A3B (C:=WC gl) (enc:=A0w.row) (e:=159) (sz:=2) (news:=[⟨kS s,t⟩]) B0J B4t B0T (λ_=>rfl) y (by simp[A0D,A0w.row]) (by simp;omega) rfl ?_;intro v' M5 k1 k2 k3 _;have a1:Rd M5 r l o (a+2*q.length+2) n:=k2.get w h8;(have a2:P=(q++[⟨kS s,t⟩])++prs (9-p.length-(q.length+1)) w':=by rw[h5,e1,show 9-p.length-q.length=(9-p.length-(q.length+1))+1 from by omega,D5o ⟨e2,e3⟩,Z0F];rfl);(have z:A1i l (a+2*(q.length+1)) n=w':=by rw[show a+2*(q.length+1)=a+2*q.length+2 from by omega];exact e5);(have hdr:w'=(A1i l a en).drop (2*(q.length+1)):=by rw[show 2*(q.length+1)=2*q.length+2 from by omega,<-Z2c,<-h4,e1];rfl);have ad:=k1.lenV;have ac:M2.length<=M4.length:=j.1;simp -dsimp[t0,t1];have a4:obj v'≠some r:=λe=>by
    rcases k3 with h|h
    .exact h8 (h▸e)
    .have:=h _ e;have:=ac;omega
   have a6:obj v'=obj v0\/A1m M.length v':=by
    rcases k3 with h|h
    .rcases h7 with g|g
     .exact .inl (h.trans g)
     .exact .inr λf hf=>g f (h▸hf)
    .exact .inr λf hf=>by have:=h f hf;have:=h6.1;omega
   have aa:A1D r (obj v0) M M5:=by
    refine(h6.step (A1D.of_r (b:=none) j) (by simp)).step (A1D.of_b k2) λi hi a9=>?_;rcases h7 with g|g
    .rw[<-g];exact hi
    .have:=g i hi;omega
   refine⟨⟨q++[⟨kS s,t⟩],by simpa using k1,by simp;omega,⟨n,?_,?_,?_,aa⟩,a6,a4⟩,?_⟩
   .simpa[show a+2*(q.length+1)=a+2*q.length+2 from by omega]using a1
   .simp only[Z0t,Z0x,Z1B,Z0N];rw[z,hdr]
   .simp only[Z0t,Z0x,Z1B,Z0N];rw[z];exact a2
   .simp at ad;omega
  .have a0:A7f l (A2I A1x) (a+2*q.length) d=(none,a+2*q.length,d):=e2;rw[a0]at k|-;have x:prs (9-p.length-q.length) (A1i l (a+2*q.length) d)=[]:=D3Y e1;rw[x,Z1d]at h5;subst h5;have j:A0c (some r) M2 (M3++[A0m.cells 159 [I 0,S ⟨#[]⟩]]):=hk.trans (.app _ _ _);(have w:Rd (M3++[A0m.cells 159 [I 0,S ⟨#[]⟩]]) r l o (a+2*P.length) d:=by unfold Rd;rw[Z0i (by have:=(Z0a.1 k).1;exact this)];exact k);have y:A1g 159 2 A0w.row (M3++[A0m.cells 159 [I 0,S ⟨#[]⟩]]) vq (p++P):=h1.keep j (λf hf e=>h8 (by rw[hf];exact e.symm));simp -dsimp[t0,t1,A0k,A0i,A0d];exact⟨y,⟨d,w,h4,h6.step (A1D.of_r (b:=none) j) (by simp)⟩,h7⟩
 .have c':¬(p.length:Int)+q.length<9:=by omega
  have hz:prs (9-p.length-q.length) (A1i l (a+2*q.length) d)=[]:=by rw[show 9-p.length-q.length=0 from by omega];cases A1i l (a+2*q.length) d<;>simp[prs]
  rw[hz,Z1d]at h5;subst h5;simp -dsimp[t0,t1,m,c'];exact⟨h1,⟨d,h3,h4,h6⟩,h7⟩
end
section
variable (gl:Nat->AV)
def C4C(l:List ByteArray)(o:Own)(hl:l.length<=1000000000)(p:∀s∈l,s.size<=maxLen)(r:Nat)(a:Nat)(en:Bool)(M:Mem)(hr:Rd M r l o a en):A0e (WC gl) 248 [.ptr r 0] M (λv M'=>A1g 159 2 A0w.row M' v (A3e (A1i l a en))/\C3T l o r a en none (A1h (A1i l a en)) M M'/\A1m M.length v):=by
 refine A0n (hQ [9]) func248 ?_
 simp -dsimp
 refine A0q func251 (B3b gl l o hl p A2O r a en M hr) ?_
 rintro _ M1 ⟨rfl,rfl⟩
 have d:r<M.length:=(Z0a.1 hr).1
 rcases A8c (l:=l) (a:=a) (en:=en) A3l.2.2.2.2.2.1 with⟨w,e1,c,e2,e3⟩|⟨e1,e2⟩
 .rw[e2];have hb:bkN (A1i l a en)=1:=by rw[e1];simp[bkN]
  have k:bkS (A1i l a en)=[A3n]:=by simp[bkS,hb]
  have hdr:(A1i l a en).drop 1=w:=by rw[e1];rfl
  have m:=@A9C M r l o (a+1) c .gone d;have b:A0c (some r) M (M.set r (.cells 240 (A1E l o (a+1) c))):=.set _ _ _;generalize M.set r (.cells 240 (A1E l o (a+1) c))=M1 at*;simp -dsimp[A0l,A0M];refine A3B (C:=WC gl) (enc:=A0w.row) (e:=159) (sz:=2) (l:=[]) (news:=[A3n]) B0J B4t B0T (λ_=>rfl) .nil (by simp[A0D,A0w.row,A3n]) (by simp) rfl ?_;intro v' M2 k1 k2 k3 _;have q:Rd M2 r l o (a+1) c:=k2.get m (by simp);have t:obj v'≠some r:=λe=>by
   rcases k3 with h|h
   .rw[h]at e;simp at e
   .have:=h _ e;have:=b.1;omega
  simp -dsimp;refine A0q func329 (C4D gl l o hl p r (a+1) c [A3n] v' M2 q (by simpa using k1) (by simp) t) ?_;rintro v M3 ⟨q1,⟨en2,q2,q3,q4⟩,q5⟩;have j:A3e (A1i l a en)=[A3n]++prs (9-[A3n].length) (A1i l (a+1) c):=by unfold A3e;rw[k,hb,hdr,e3];rfl
  have n:A1h (A1i l a en)=1+2*(prs (9-[A3n].length) (A1i l (a+1) c)).length:=by unfold A1h;rw[hb,hdr,e3];rfl
  simp -dsimp;rw[j,n];refine⟨q1,⟨en2,by rw[<-Z2s];exact q2,by rw[<-Z2s,q3,e3,e1,Z4e 1];rfl,?_⟩,?_⟩
  .refine((A1D.of_r b).step (A1D.of_b k2) (by simp)).step q4 λi hi d=>?_;rcases k3 with h|h
   .rw[h]at hi;simp at hi
   .have:=h i hi;have:=b.1;omega
  .intro f hf;have u:=b.1;have x:=k2.1;rcases q5 with g|g
   .rw[g]at hf;rcases k3 with h|h
    .rw[h]at hf;simp at hf
    .have:=h f hf;omega
   .have:=g f hf;omega
 .rw[e2];have hb:bkN (A1i l a en)=0:=by
   cases hs:A1i l a en with
   |nil=>rfl
   |cons s w=>simp only[bkN];rw[Z0d λe=>e1 w (by rw[hs,e])]
  have k:bkS (A1i l a en)=[]:=by simp[bkS,hb]
  have m:=@A9C M r l o a en .gone d;have b:A0c (some r) M (M.set r (.cells 240 (A1E l o a en))):=.set _ _ _;generalize M.set r (.cells 240 (A1E l o a en))=M1 at*;simp -dsimp;refine A0q func329 (C4D gl l o hl p r a en [] _ M1 m .nil (by simp) (by simp)) ?_;rintro v M3 ⟨q1,⟨en2,q2,q3,q4⟩,q5⟩;have j:A3e (A1i l a en)=[]++prs (9-([]:List A0w).length) (A1i l a en):=by unfold A3e;rw[k,hb];rfl
  have n:A1h (A1i l a en)=2*(prs (9-([]:List A0w).length) (A1i l a en)).length:=by unfold A1h;rw[hb,Z0N];rfl
  simp -dsimp;rw[j,n];refine⟨q1,⟨en2,q2,q3,(A1D.of_r b).step q4 (by simp)⟩,?_⟩;intro f hf;have u:=b.1;rcases q5 with g|g
  .rw[g]at hf;simp at hf
  .have:=g f hf;omega
end
def D6y(l:List ByteArray)(o:Own)(r:Nat)(M M':Mem):Prop:=(∃a en,Rd M' r l o a en)/\A1D r none M M'
def C8X(l:List ByteArray)(o:Own)(r a:Nat)(en:Bool)(M:Mem)(v:AV)(M':Mem):Prop:=(∃p n,A2L (A1i l a en)=some (p,n)/\A1g 159 2 A0w.row M' v p/\C3T l o r a en none n M M'/\A1m M.length v)\/(A2L (A1i l a en)=none/\v=.val (.slice none 0 0)/\D6y l o r M M')
section
variable (gl:Nat->AV)
@[simp] def E1G{k}:A0x prog 159 [(0,I k)]=some (.agg [I k,S ⟨#[]⟩]):=by simp[A0x,A1b,A1o,A0d]
def B8Y{k}{M}:A2m prog 40 1 [(0,.agg [I k,S ⟨#[]⟩])] M=some (.vref M.length 0 2 0 1,M++[.vec 159 2 [I k,S ⟨#[]⟩] 0 [(0,1)]]):=by simp[A2m,A0M,AV.storable,AV.cells]
def C1Z(l:List ByteArray)(o:Own)(hl:l.length<=1000000000)(q:∀s∈l,s.size<=maxLen)(r:Nat)(a:Nat)(en:Bool)(M:Mem)(hr:Rd M r l o a en):A0e (WC gl) 252 [.ptr r 0] M (C8X l o r a en M):=by
 have j:r<M.length:=(Z0a.1 hr).1
 refine A0n (hQ [16]) func252 ?_
 simp -dsimp
 refine A0q func219 (B8x gl M) ?_
 rintro _ M1 ⟨rfl,rfl⟩
 simp -dsimp
 refine A0q func333 (C5Q gl l o hl q A1x .full (by decide) r a en M1 hr) ?_
 rintro _ M2 ⟨rfl,rfl⟩
 rcases D1Q (l:=l) (a:=a) (en:=en) C5I with⟨s,w,e1,e2,c,e3,e4⟩|⟨e1,e3⟩
 .have m:A3C l (λs=>decide (0<A2I A1x s)) a en=(some s,a+1,c):=e3;rw[m];have h:=@A9C M1 r l o (a+1) c .gone j;have e:A0c (some r) M1 (M1.set r (.cells 240 (A1E l o (a+1) c))):=.set _ _ _;generalize M1.set r (.cells 240 (A1E l o (a+1) c))=M2 at*;simp -dsimp[B8Y];obtain⟨M3,d⟩:=ex (M2++[.vec 159 2 [I (A2I A1x s),S ⟨#[]⟩] 0 [(0,1)]]);rw[<-d];have hv:A1g 159 2 A0w.row M3 (.vref M2.length 0 2 0 1) [⟨kS s,⟨#[]⟩⟩]:=.inr ⟨M2.length,0,[(0,1)],rfl,by rw[d];simp[A0w.row,kS],rfl⟩;have p:A0c (some r) M2 M3:=by rw[d];exact .app _ _ _
  have n:r<M2.length:=(Z0a.1 h).1;have t:Rd M3 r l o (a+1) c:=by unfold Rd;rw[d,Z0i n];exact h
  have u:=e.1;clear d;refine A0q func329 (C4D gl l o hl q r (a+1) c [⟨kS s,⟨#[]⟩⟩] _ M3 t hv (by simp) (by simp;omega)) ?_;rintro v M4 ⟨q1,⟨en2,q2,q3,q4⟩,q5⟩;rw[e4]at q1 q2 q3;have k:A2L (A1i l a en)=some (⟨kS s,⟨#[]⟩⟩::prs 8 w,1+2*(prs 8 w).length):=by rw[e1];simp only[A2L];rw[Z0e e2]
  simp -dsimp;refine .inl ⟨_,_,k,q1,⟨en2,by rw[<-Z2s];exact q2,by rw[<-Z2s];refine q3.trans ?_;rw[e1,Z4e 1];rfl,?_⟩,?_⟩
  .refine((A1D.of_r e).step (A1D.of_r (b:=none) p) (by simp)).step q4 λi hi j=>?_;simp at hi;omega
  .intro f hf;have:=p.1;rcases q5 with g|g
   .rw[g]at hf;simp at hf;omega
   .have:=g f hf;omega
 .have m:A3C l (λs=>decide (0<A2I A1x s)) a en=(none,a,en):=e3;rw[m];have h:=@A9C M1 r l o a en .gone j;have e:A0c (some r) M1 (M1.set r (.cells 240 (A1E l o a en))):=.set _ _ _;have k:A2L (A1i l a en)=none:=by
   cases hs:A1i l a en with
   |nil=>rfl
   |cons s w=>simp only[A2L];rw[Z0d (e1 s w hs)]
  simp -dsimp;exact .inr ⟨k,rfl,⟨a,en,h⟩,.of_r e⟩
end
abbrev A0G:AV:=.val (.slice none 0 0)
def D3M(l:List ByteArray)(o:Own)(r a:Nat)(en:Bool)(M:Mem)(v:AV)(M':Mem):Prop:=
 (∃s d vp,A4d ((A1i l a en).drop (A1h (A1i l a en)))=some (s,d)/\v=.agg [I 1,vp,S d,I 0,I 0]/\A1g 159 2 A0w.row M' vp (A3e (A1i l a en)++[s])/\A1m M.length vp/\C3T l o r a en none (A1h (A1i l a en)+4) M M')\/
 (A4d ((A1i l a en).drop (A1h (A1i l a en)))=none/\∃vp p,v=.agg [I 1,vp,S ⟨#[]⟩,I 0,I 0]/\A1g 159 2 A0w.row M' vp p/\A1m M.length vp/\p.length<=10/\D6y l o r M M')
structure D2E (l:List ByteArray) (o:Own) (r:Nat) (M:Mem) (c:Nat) (v1:AV) (p:List A0w) (a':Nat) (en':Bool) (Mi:Mem):Prop where
 rd:Rd Mi r l o a' en'
 res:Mi[M.length]?=some (.cells 110 [I 0,A0G,S ⟨#[]⟩,I 0,I 0])
 cc:Mi[c]?=some (.cells 110 [I 1,v1,S ⟨#[]⟩,I 0,I 0])
 own:A1g 159 2 A0w.row Mi v1 p
 lat:∀f,obj v1=some f->M.length<f/\f<c
 kp:A1D r none M Mi
 lt:r<M.length/\M.length<c
def D2E.next{l}{o}{r}{M}{c}{v1}{p}{a' a2}{en' en2}{Mi Mj}(h:D2E l o r M c v1 p a' en' Mi)(k:A0c (some r) Mi Mj)(hr:Rd Mj r l o a2 en2):D2E l o r M c v1 p a2 en2 Mj:=by have a:=h.lt;exact⟨hr,k.get h.res (by simp;omega),k.get h.cc (by simp;omega),h.own.keep k λf hf e=>by have:=h.lat f hf;simp at e;omega,h.lat,h.kp.step (A1D.of_r (b:=none) k) (by simp),a⟩
def D2E.fail{l}{o}{r}{M}{c}{v1}{p}{a'}{en'}{Mi}(h:D2E l o r M c v1 p a' en' Mi){X}:A1g 159 2 A0w.row (Mi.set M.length (.cells 110 X)) v1 p/\A1m M.length v1/\D6y l o r M (Mi.set M.length (.cells 110 X)):=by
 have a:=h.lt
 refine⟨h.own.keep (.set _ _ _) λf hf e=>by have:=h.lat f hf;simp at e;omega,λf hf=>by have:=h.lat f hf;omega,⟨a',en',?_⟩,?_⟩
 .unfold Rd;rw[Z0c (by omega)];exact h.rd
 .refine⟨by simpa using h.kp.1,λi hi h1 h2=>?_⟩;rw[Z0c (by omega)];exact h.kp.2 i hi h1 h2
section
variable (gl:Nat->AV)
@[simp] def A8d{k}{v}{M}{p}(h:A1g 159 2 A0w.row M v p):A0x prog 110 [(0,I k),(1,v)]=some (.agg [I k,v,S ⟨#[]⟩,I 0,I 0]):=by
 rcases h with⟨rfl,_⟩|⟨f,g,a,rfl,_⟩<;>simp[A0x,A1b,A1o,A0d,AV.cells,AV.storable]
def D7u(l:List ByteArray)(o:Own)(hl:l.length<=1000000000)(ae:∀s∈l,s.size<=maxLen)(r:Nat)(a:Nat)(en:Bool)(M:Mem)(hr:Rd M r l o a en):A0e (WC gl) 249 [.ptr r 0] M (D3M l o r a en M):=by
 have ap:r<M.length:=(Z0a.1 hr).1
 refine A0n (hQ [27]) func249 ?_
 obtain⟨M0,a5⟩:=ex (M++[A0m.cells 110 [I 0,A0G,S ⟨#[]⟩,I 0,I 0]])
 have p:Rd M0 r l o a en:=by unfold Rd;rw[a5,Z0i ap];exact hr
 have au:M0[M.length]?=some (A0m.cells 110 [I 0,A0G,S ⟨#[]⟩,I 0,I 0]):=by rw[a5];simp
 have ay:M0.length=M.length+1:=by rw[a5];simp
 have aq:A1D r none M M0:=by rw[a5];exact .of_r (.app _ _ _)
 simp -dsimp[A0k]
 rw[<-a5]
 clear a5
 refine A0q func248 (C4C gl l o hl ae r a en M0 p) ?_
 rintro v1 M1 ⟨q1,⟨y,q2,q3,q4⟩,q5⟩
 obtain⟨w,hw⟩:=ex (A1i l a en)
 rw[<-hw]at q1 q2 q3
 have bf:=B8W w
 have bc:(A3e w).length<=9:=by have:=A3Z (9-bkN w) (w.drop (bkN w));have hb:=B6G w;unfold A3e;rw[Z0t,B1s];omega
 obtain⟨c,hc⟩:=ex (M1.length)
 have b8:M.length<c:=by have:=q4.1;omega
 have b5:=q1.store
 have b7:=q1.cells
 have ab:D2E l o r M c v1 (A3e w) (a+A1h w) y (M1++[A0m.cells 110 [I 1,v1,S ⟨#[]⟩,I 0,I 0]]):=by
  have al:A0c (some r) M1 (M1++[A0m.cells 110 [I 1,v1,S ⟨#[]⟩,I 0,I 0]]):=.app _ _ _;refine⟨?_,?_,?_,q1.keep al ?_,?_,(aq.step q4 (by simp)).step (A1D.of_r (b:=none) al) (by simp),ap,b8⟩
  .unfold Rd;rw[Z0i (by have:=q4.1;omega)];exact q2
  .rw[Z0i (by have:=q4.1;omega),q4.2 _ (by omega) (by omega) (by simp)];exact au
  .rw[hc];simp
  .intro f hf e;have:=q5 f hf;simp at e;omega
  .intro f hf;have:=q5 f hf;have:=q1.lt hf;omega
 simp -dsimp[A8d q1,A0k,A0i,A0d]
 rw[<-hc]
 clear b7 b5 q1 q2 q4 q5 p au ay aq
 generalize M1++[A0m.cells 110 [I 1,v1,S ⟨#[]⟩,I 0,I 0]]=M2 at*
 clear hc
 refine A0q func169 (D3j gl M2) ?_
 rintro _ M3 ⟨rfl,rfl⟩
 simp -dsimp
 refine A0q func330 (C7b gl l o hl ae A2J .full (by decide) r _ y M3 ab.rd) ?_
 rintro _ M4 ⟨rfl,aj,a2⟩
 have ai:(∀s t r,A1i l (a+A1h w) y=s::t::r->¬(0<kP s/\A0O t=true))->A4d (w.drop (A1h w))=none:=λh=>by
  rw[<-q3];unfold A4d;split
  .rename_i s t c d r e;rw[Z0d λhh=>h s t _ e ⟨hh.1,hh.2.1⟩]
  .rfl
 rcases C1k (l:=l) (a:=a+A1h w) (en:=y) D5R with⟨s,t,w',e1,e2,e3,z,e4,e5⟩|⟨e1,e2⟩
 .have b2:A7f l (A2I A2J) (a+A1h w) y=(some ⟨kP s,t⟩,a+A1h w+2,z):=e4;rw[b2]at a2|-;obtain⟨M5,m⟩:=ex (M4++[A0m.cells 159 [I (kP s),S t]]);have an:M5[M4.length]?=some (A0m.cells 159 [I (kP s),S t]):=by rw[m];simp
  have a1:Rd M5 r l o (a+A1h w+2) z:=by unfold Rd;rw[m,Z0i (by have:=(Z0a.1 a2).1;exact this)];exact a2
  have k:=ab.next (aj.trans (by rw[m];exact .app _ _ _)) a1;have bb:c<M4.length:=by have:=(Z0a.1 ab.cc).1;have:=aj.1;omega
  simp -dsimp[A0k,A0i,A0d,A0w.row];rw[<-m];generalize hx:M4.length=x at*;clear m;refine A0q func251 (B3b gl l o hl ae toW r _ z M5 a1) ?_;rintro _ M6 ⟨rfl,rfl⟩;have a0:r<M5.length:=(Z0a.1 a1).1;rcases A8c (l:=l) (a:=a+A1h w+2) (en:=z) A3l.2.2.2.2.1 with⟨w2,g1,en2,g2,g3⟩|⟨g1,g2⟩
  .rw[g2];have bd:=k.lt;have af:=@A9C M5 r l o (a+A1h w+2+1) en2 .gone a0;have j:=k.next (.set M5 r (.cells 240 (A1E l o (a+A1h w+2+1) en2))) af;(have b0:(M5.set r (.cells 240 (A1E l o (a+A1h w+2+1) en2)))[x]?=some (A0m.cells 159 [I (kP s),S t]):=by rw[Z0c (by omega)];exact an);generalize M5.set r (.cells 240 (A1E l o (a+A1h w+2+1) en2))=M6 at*;have bg:c<M6.length:=(Z0a.1 j.cc).1;simp -dsimp[A0b j.cc,A0b b0,A0l,A0M];refine A3B (C:=WC gl) (enc:=A0w.row) (e:=159) (sz:=2) (news:=[⟨kP s,t⟩]) B0J B4t B0T (λ_=>rfl) j.own (by simp[A0D,A0w.row]) (by simp;omega) rfl ?_;intro v2 M7 k1 k2 k3 _;have u:=j.lat;have a8:∀f,obj v2=some f->M.length<f/\f≠c:=λf hf=>by
    rcases k3 with h|h
    .have:=u f (h▸hf);omega
    .have:=h f hf;omega
   (have ao:M7[c]?=some (.cells 110 [I 1,v1,S ⟨#[]⟩,I 0,I 0]):=k2.get j.cc λe=>by have:=u c e;omega);have b3:Rd M7 r l o (a+A1h w+2+1) en2:=k2.get j.rd λe=>by have:=u r e;omega
   (have b1:M7[M.length]?=some (.cells 110 [I 0,A0G,S ⟨#[]⟩,I 0,I 0]):=k2.get j.res λe=>by have:=u _ e;omega);have ag:A1D r none M M7:=⟨Z0R j.kp.1 k2.1,λi hi h1 h2=>by rw[k2.2 i (by have:=j.kp.1;omega) λe=>by have:=u i e;omega];exact j.kp.2 i hi h1 h2⟩
   obtain⟨f2,b6,n2,rfl⟩:∃f g n,v2=.vref f g 2 0 n:=by
    rcases k1 with⟨rfl,hn⟩|⟨f,g,ba,rfl,_⟩
    .simp at hn
    .exact⟨f,g,_,rfl⟩
   generalize q:AV.vref f2 b6 2 0 n2=v2 at*;clear ab k an a1 af;rw[<-q];simp -dsimp[A0f ao,A0d];rw[q];(have av:(M7.set c (.cells 110 [I 1,v2,S ⟨#[]⟩,I 0,I 0]))[c]?=some (.cells 110 [I 1,v2,S ⟨#[]⟩,I 0,I 0]):=by have:=(Z0a.1 ao).1;simp[this]);(have ar:Rd (M7.set c (.cells 110 [I 1,v2,S ⟨#[]⟩,I 0,I 0])) r l o (a+A1h w+2+1) en2:=by unfold Rd;rw[Z0c (by omega)];exact b3);(have b9:(M7.set c (.cells 110 [I 1,v2,S ⟨#[]⟩,I 0,I 0]))[M.length]?=some (.cells 110 [I 0,A0G,S ⟨#[]⟩,I 0,I 0]):=by rw[Z0c (by omega)];exact b1);(have az:A1g 159 2 A0w.row (M7.set c (.cells 110 [I 1,v2,S ⟨#[]⟩,I 0,I 0])) v2 (A3e w++[⟨kP s,t⟩]):=k1.keep (.set _ _ _) λf hf e=>by have:=a8 f hf;simp at e;omega);have ah:A1D r none M (M7.set c (.cells 110 [I 1,v2,S ⟨#[]⟩,I 0,I 0])):=⟨by simpa using ag.1,λi hi h1 h2=>by rw[Z0c (by omega)];exact ag.2 i hi h1 h2⟩;generalize M7.set c (.cells 110 [I 1,v2,S ⟨#[]⟩,I 0,I 0])=M8 at*;have aw:r<M8.length:=(Z0a.1 ar).1;have am:c<M8.length:=(Z0a.1 av).1;refine A0q func331 (B5D gl l o hl ae A0O r 112 [] (B8I gl) _ en2 M8 ar) ?_;rintro _ M9 ⟨rfl,rfl⟩;have a9:∀(to:ByteArray) (a3:Nat) (a7:Bool) (ad:Mem),ad=((M8.set r (.cells 240 (A1E l o a3 a7))).set c (.cells 110 [I 1,v2,S to,I 0,I 0])).set M.length (.cells 110 [I 1,v2,S to,I 0,I 0])->
    A1g 159 2 A0w.row ad v2 (A3e w++[⟨kP s,t⟩])/\A1m M.length v2/\Rd ad r l o a3 a7/\A1D r none M ad:=λto a3 a7 ad h=>by
    subst h
    refine⟨((az.keep (.set _ _ _) λf hf e=>?_).keep (.set _ _ _) λf hf e=>?_).keep (.set _ _ _) λf hf e=>?_,λf hf=>by have:=a8 f hf;omega,?_,⟨by simpa using ah.1,λi hi h1 h2=>?_⟩⟩
    .have:=a8 f hf;simp at e;omega
    .have:=a8 f hf;simp at e;omega
    .have:=a8 f hf;simp at e;omega
    .unfold Rd;rw[Z0c (by omega),Z0c (by omega)];simp[aw]
    .rw[Z0c (by omega),Z0c (by omega),Z0c (by omega)];exact ah.2 i hi h1 h2
   (have a4:∀X,(M8.set r X)[c]?=some (.cells 110 [I 1,v2,S ⟨#[]⟩,I 0,I 0]):=λX=>by rw[Z0c (by omega)];exact av);have aa:∀X Y,((M8.set r X).set c Y)[c]?=some Y:=λX Y=>by simp[am]
   (have ac:∀X Y,((M8.set r X).set c Y)[M.length]?=some (.cells 110 [I 0,A0G,S ⟨#[]⟩,I 0,I 0]):=λX Y=>by rw[Z0c (by omega),Z0c (by omega)];exact b9);have be:∀X Y,M.length<((M8.set r X).set c Y).length:=λX Y=>by simp;omega
   (have a6:M.length<M8.length:=by omega);have p:w.drop (A1h w)=s::t::toW::w2:=by rw[<-q3,e1,<-e5,g1]
   cases hw2:w2 with
   |nil=>rw[hw2]at g3 p;rw[B2o g3];rw[<-q]at a4|-;simp -dsimp[A0f (a4 _),A0d];simp -dsimp[A0b (aa _ _),A0f (ac _ _),A0d,A0s,a6,A0j];rw[q];obtain⟨z1,z2,z3,z4⟩:=a9 _ _ _ _ rfl;exact .inr ⟨by rw[<-hw,p];rfl,v2,_,rfl,z1,z2,by simp;omega,⟨_,_,z3⟩,z4⟩
   |cons d w3=>
    rw[hw2]at g3 p;obtain⟨-,-,hd|hd⟩:=A9S B7o g3
    .obtain⟨d1,a7,d2,d3⟩:=hd;rw[d2];rw[<-q]at a4|-;simp -dsimp[A0f (a4 _),A0d];simp -dsimp[A0b (aa _ _),A0f (ac _ _),A0d,A0s,a6,A0j];rw[q];obtain⟨z1,z2,z3,z4⟩:=a9 d _ _ _ rfl;refine .inl ⟨⟨kP s,t⟩,d,v2,?_,rfl,by rw[<-hw];exact z1,z2,a7,?_,?_,z4⟩
     .rw[<-hw,p];simp only[A4d];rw[Z0e ⟨e2,e3,by trivial,d1⟩]
     .rw[<-hw,show a+(A1h w+4)=a+A1h w+2+1+1 from by omega];exact z3
     .rw[<-hw,show a+(A1h w+4)=a+A1h w+2+1+1 from by omega,d3,<-Z2c,p];rfl
    .rw[hd.2];rw[<-q]at a4|-;simp -dsimp[A0f (a4 _),A0d];simp -dsimp[A0b (aa _ _),A0f (ac _ _),A0d,A0s,a6,A0j];rw[q];obtain⟨z1,z2,z3,z4⟩:=a9 ⟨#[]⟩ _ _ _ rfl;exact .inr ⟨by rw[<-hw,p];simp only[A4d];rw[Z0d λhh=>by rw[hd.1]at hh;exact absurd hh.2.2.2 (by simp)],v2,_,rfl,z1,z2,by simp;omega,⟨_,_,z3⟩,z4⟩
  .rw[g2];have af:=@A9C M5 r l o (a+A1h w+2) z .gone a0;have j:=k.next (.set M5 r (.cells 240 (A1E l o (a+A1h w+2) z))) af;generalize M5.set r (.cells 240 (A1E l o (a+A1h w+2) z))=M6 at*;have ak:M.length<M6.length:=(Z0a.1 j.res).1;have b4:A4d (w.drop (A1h w))=none:=by
    rw[<-q3,e1];unfold A4d;split
    .rename_i s' t' c' d' r' e;simp only[Z1a]at e;rw[Z0d λhh=>g1 (d'::r') (by rw[e5,e.2.2,hh.2.2.1])]
    .rfl
   simp -dsimp[A0b j.cc,A0f j.res,A0d,A0s,ak,A0j];obtain⟨z1,z2,z3⟩:=j.fail (X:=[I 1,v1,S ⟨#[]⟩,I 0,I 0]);exact .inr ⟨by rw[<-hw];exact b4,v1,_,rfl,z1,z2,by omega,z3⟩
 .have ax:A7f l (A2I A2J) (a+A1h w) y=(none,a+A1h w,y):=e2;rw[ax]at a2|-;obtain⟨M5,m⟩:=ex (M4++[A0m.cells 159 [I 0,S ⟨#[]⟩]]);have a1:Rd M5 r l o (a+A1h w) y:=by unfold Rd;rw[m,Z0i (by have:=(Z0a.1 a2).1;exact this)];exact a2
  have k:=ab.next (aj.trans (by rw[m];exact .app _ _ _)) a1;have a0:M.length<M5.length:=(Z0a.1 k.res).1;simp -dsimp[A0k,A0i,A0d];rw[<-m];clear m;simp -dsimp[A0b k.cc,A0f k.res,A0d,A0s,a0,A0j];obtain⟨z1,z2,z3⟩:=k.fail (X:=[I 1,v1,S ⟨#[]⟩,I 0,I 0]);exact .inr ⟨by rw[<-hw];exact ai e1,v1,_,rfl,z1,z2,by omega,z3⟩
end
end Go.Abs
