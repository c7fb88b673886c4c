/- The texts CyO, CsA, CsB, CsL, CsY, CaA, CaB, CaC, CaD, CaE, CaF, CaG, CaH, CaI, CaJ, CaN. -/
import Derived.Test.YtmpdkagfplajjaaGreatDoorAG27
import Derived.Test.YtmpdkagfplajjaaGreatDoorAG01
import Derived.Test.YtmpdkagfplajjaaGreatDoorAG25
import Derived.Test.YtmpdkagfplajjaaGreatDoorAG20
import Derived.Test.YtmpdkagfplajjaaGreatDoorAG22
set_option linter.all false
set_option maxRecDepth 100000
namespace Go.Abs
open Go.Proofs TryTypes Tryz
def hY:A2I:=⟨λ_=>true,λ_=>false,λd=>d==19||d==95||d==102||d==105||d==158⟩
@[simp] def E2a:hY.own=λ_=>false:=rfl
@[simp] def E2y:hY.vec=λd=>d==19||d==95||d==102||d==105||d==158:=rfl
def A4H.spot2{e:TypeId}{M}{v}{cs}(h:A4H e M v cs){t:TypeId}(ht:A2v prog t=some false)(hs:A1e prog t=some 1){i}(hi:i<cs.length):∃p f,A5O (some (some 1)) v (I i)=some p/\obj v=some f/\A4e p=some f/\A2u prog t M p=some cs[i]/\∀x:AV,x.storable=true->x.cells=[x]->∃M',A0l (some 1) M p x=some M'/\A4H e M' v (cs.set i x)/\A0c (obj v) M M':=by
 obtain⟨p,h1,h2,h3⟩:=h.spot ht hs hi
 rcases h with⟨rfl,hn⟩|⟨f,g,a,rfl,hf,hl⟩
 .subst hn;simp at hi
 .refine⟨p,f,h1,rfl,?_,h2,h3⟩;simp[hi]at h1;rw[<-h1];rfl
section
variable (gl:Nat->AV) (M:Mem)
set_option maxHeartbeats 4000000 in
def B9Q(l:List ByteArray)(old:List A0P)(names:List (List A0u))(o1 o2 o3:Own)(hl:l.length<=1000)(bk:∀s∈l,s.size<=maxLen)(ho:old.length<=20000)(hn:∀p∈names,A5v p):A0e (WC gl) 19 [.list 1 (A0F l) o1,.list 5 (A2K old) o2,.list 1 (A5f names) o3] M (λv M'=>D2b M' v (A4m l old names)/\Grow M M'/\A1n M.length v):=by
 refine A0k hY func19 ?_
 by_cases hlen:old.length=names.length
 case neg=>
  have a5:¬(old.length:Int)=names.length:=by omega
  simp -dsimp -implicitDefEqProofs[a5,A4m,hlen,Grow.refl];exact⟨.inl ⟨o1,rfl⟩,λf h=>by simp[obj]at h⟩
 have a5:(old.length:Int)=names.length:=by omega
 have bl:A4m l old names=A9y l old names old.length 0 [] 0:=by rw[A4m,Z0d hlen]
 rw[bl]
 simp -dsimp -implicitDefEqProofs[a5,hlen]
 refine A0s hY old.length 9 (λT M1=>∃(i:Nat) (d:List ByteArray) (e:Int),i<=old.length/\A2Z M d (T 7) M1/\T 0=.list 1 (A0F l) o1/\T 1=.list 5 (A2K old) o2/\T 2=.list 1 (A5f names) o3/\T 8=I e/\0<=e/\e<=l.length/\T 9=I i/\d.length<=i*1200/\A9y l old names old.length 0 [] 0=A9y l old names (old.length-i) i d e) ?_ ?_
 .refine⟨0,[],0,?_⟩;simp -dsimp -implicitDefEqProofs[hlen];exact⟨B5y M,.app _ _ _,λf hf=>by simp at hf;omega⟩
 .rintro T M1 ⟨i,d,e,h1,h2,h3,h4,h5,h6,h7,h8,u,c8,b0⟩;generalize aa:T 7=ov at h2;by_cases hi:i<old.length
  ·(have af:(i:Int)<old.length:=by omega);have az:i<names.length:=by omega
   (have b9:(i:Int)<names.length:=by omega);have hw:IntKind.i64.wrap ((i:Int)+1)=(i+1:Nat):=by rw[A0H (by omega) (by omega)];omega
   have hp:=hn names[i] (Z0v az);(have z:A9y l old names (old.length-i) i d e=match A8O l old names i d e with|none=>l|some r=>A9y l old names (old.length-(i+1)) (i+1) r.1 r.2:=by rw[show old.length-i=(old.length-(i+1))+1 by omega];rfl);have ad:old[i]?=some old[i]:=Z0m hi;have be:names[i]?=some names[i]:=Z0m az;simp -dsimp -implicitDefEqProofs[h3,h4,h5,h6,u,hi,af,az,b9];refine A0j func65 (C3A gl _ names[i] .no hp) ?_;intro w M2 a8;(have o:(M2++[A0p.cells 110 old[i].row])[M2.length]?=some (A0p.cells 110 old[i].row):=by simp);have br:Grow M M2:=h2.2.1.trans a8.2.1;have bq:A2P old i=(decide (0<i)&&(match old[i-1]?,old[i]? with|some a,some b=>A6C a b|_,_=>false)):=rfl;simp -dsimp -implicitDefEqProofs[h3,h4,h5,h6,u,hi,af,A0o,A0l,A0d,A0P.row];refine B3y (λT M=>M=M2++[A0p.cells 110 old[i].row]/\T 0=.list 1 (A0F l) o1/\T 1=.list 5 (A2K old) o2/\T 2=.list 1 (A5f names) o3/\T 7=ov/\T 8=I e/\T 9=I i/\T 11=.ptr M2.length 0/\T 10=w/\T 12=B (A2P old i)) ?_ ?_
   .refine A1h hY (A0w gl) (λk=>if k=10\/k=21 then 1 else 0) (λ_=>M2.length) (by rfl) (by kernel_rfl) ?_;by_cases i0:i=0
    .subst i0;simp -dsimp -implicitDefEqProofs[h3,h4,h5,h6,u,aa,A2P,A0P.row]
    ·(have ao:(0:Int)<i:=by omega);have a6:0<i:=by omega
     (have ay:IntKind.i64.wrap ((i:Int)-1)=(i-1:Nat):=by rw[A0H (by omega) (by omega)];omega);have ag:i-1<old.length:=by omega
     (have ac:((i-1:Nat):Int)<old.length:=by omega);have bx:A2P old i=A6C old[i-1] old[i]:=by rw[bq,ad,Z0m ag];simp[a6]
     rw[bx];simp only[A0P.row]at o;by_cases c1:old[i-1].frm=old[i].frm
     .by_cases c2:old[i-1].at_=old[i].at_
      ·(have hs:A6C old[i-1] old[i]=true:=by simp[A6C,c1,c2]);simp -dsimp -implicitDefEqProofs[h3,h4,h5,h6,u,aa,ao,a6,ay,ag,ac,A0a o,A0P.row,c1,c2,hs]
      ·(have hs:A6C old[i-1] old[i]=false:=by simp[A6C,c1,c2]);simp -dsimp -implicitDefEqProofs[h3,h4,h5,h6,u,aa,ao,a6,ay,ag,ac,A0a o,A0P.row,c1,c2,hs]
     ·(have hs:A6C old[i-1] old[i]=false:=by simp[A6C,c1]);simp -dsimp -implicitDefEqProofs[h3,h4,h5,h6,u,aa,ao,a6,ay,ag,ac,A0a o,A0P.row,c1,hs]
   .rintro T2 y ⟨a0,k1,k2,k3,k4,k5,k6,k7,k8,k9⟩;rw[<-a0]at o;(have ba:A4H 9 y w ((A1S names[i]).map S):=by rw[a0];exact a8.1.keep (.app none _ _) (by simp));(have a3:A1H prog 37 w=some (A1S names[i]).length:=by rw[a8.1.len (e:=9) (by simp)];simp);(have a1:Grow M y:=by rw[a0];exact br.trans (.app none _ _));by_cases hbad:A1S names[i]=[]\/old[i].frm<0\/old[i].at_<=old[i].frm\/old[i].at_>l.length\/(A2P old i=false/\old[i].frm<e)
    ·(have bn:A8O l old names i d e=none:=by simp only[A8O,ad,be];rw[Z0d hbad]);have bc:A9y l old names old.length 0 [] 0=l:=by rw[b0,z,bn]
     rw[bc];have fin:D2b y (.list 1 (A0F l) o1) l/\Grow M y/\A1n M.length (.list 1 (A0F l) o1):=⟨.inl ⟨o1,rfl⟩,a1,λf h=>by simp[obj]at h⟩;by_cases b1:A1S names[i]=[]
     .simp -dsimp -implicitDefEqProofs[a3,b1,k1,k2,k3,k4,k5,k6,k7,k8,k9];exact fin
     have ax:¬(A1S names[i]).length=0:=λe=>b1 (Z0w e);by_cases b2:old[i].frm<0
     .simp -dsimp -implicitDefEqProofs[a3,b1,b2,k1,k2,k3,k4,k5,k6,k7,k8,k9,A0a o,A0P.row];exact fin
     by_cases b3:old[i].at_<=old[i].frm
     .simp -dsimp -implicitDefEqProofs[a3,b1,b2,b3,k1,k2,k3,k4,k5,k6,k7,k8,k9,A0a o,A0P.row];exact fin
     by_cases b4:old[i].at_>l.length
     .have a9:(l.length:Int)<old[i].at_:=b4;simp -dsimp -implicitDefEqProofs[a3,b1,b2,b3,b4,a9,k1,k2,k3,k4,k5,k6,k7,k8,k9,A0a o,A0P.row];exact fin
     have b5:A2P old i=false/\old[i].frm<e:=by
      rcases hbad with h|h|h|h|h
      .exact absurd h b1
      .exact absurd h b2
      .exact absurd h b3
      .exact absurd h b4
      .exact h
     have a9:¬(l.length:Int)<old[i].at_:=b4;simp -dsimp -implicitDefEqProofs[a3,b1,b2,b3,b4,a9,b5.1,b5.2,k1,k2,k3,k4,k5,k6,k7,k8,k9,A0a o,A0P.row];exact fin
    .have ap:=hbad;simp only[Z2H,not_and]at hbad;obtain⟨b1,b2,b3,b4,b5⟩:=hbad;have ax:¬(A1S names[i]).length=0:=λe=>b1 (Z0w e);have a9:¬(l.length:Int)<old[i].at_:=b4;(have g2:0<=old[i].frm:=by omega);(have g3:old[i].frm<=l.length:=by omega);obtain⟨g,a7⟩:∃g,g=if A2P old i=true then[B5a]else(l.take old[i].frm.toNat).drop e.toNat:=⟨_,rfl⟩;have bt:A8O l old names i d e=some (if A6e old i=true then A5n (d++g++A1S names[i]) (A3V (l.getD (old[i].at_.toNat-1) .empty))else d++g++A1S names[i],old[i].at_):=by
      (have hm:(if A2P old i=true then d++[B5a]else d++(l.take old[i].frm.toNat).drop e.toNat)=d++g:=by rw[a7];split<;>rfl);simp only[A8O,ad,be]
      rw[Z0e ap,hm]
     rw[bt]at z;simp only at z;(have g1:1<=old[i].at_:=by omega);(have g4:0<=old[i].at_:=by omega);(have g7:old[i].at_<=l.length:=by omega);have bu:g.length<=1000:=by
      rw[a7];split
      .simp
      .simp;omega
     have c0:M1.length<=M2.length:=a8.2.1.1;(have c3:y.length=M2.length+1:=by rw[a0];simp);(have b7:A4H 9 y ov (d.map S):=by rw[a0];exact h2.1.keep (a8.2.1.trans (.app none _ _)) (by simp));(have ah:obj ov≠some M2.length:=λe=>by have:=h2.1.lt e;omega);(have b6:∀f,obj w=some f->obj ov≠some f:=λf e1 e2=>by have:=a8.2.2 _ e1;have:=h2.1.lt e2;omega);have b8:∀f,obj w=some f->f<y.length:=λf e1=>ba.lt e1;have mk:∀v3 M3,A4H 9 M3 v3 (d.map S++g.map S)->A0c (obj ov) y M3->(obj v3=obj ov\/A1n y.length v3)->
      A2Z M (d++g) v3 M3/\A4H 9 M3 w ((A1S names[i]).map S)/\M3[M2.length]?=some (A0p.cells 110 old[i].row)/\obj v3≠some M2.length/\(∀f,obj w=some f->obj v3≠some f):=by
      intro v3 M3 q1 q2 q3
      refine⟨?_,ba.keep q2 b6,q2.get o ah,?_,?_⟩
      .refine⟨by simpa using q1,⟨by have:=a1.1;have:=q2.1;omega,λj hj _=>?_⟩,λf hf=>?_⟩
       .rw[q2.2 j (by have:=a1.1;omega) λe=>by have:=h2.2.2 _ e;omega];exact a1.2 j hj (by simp)
       .rcases q3 with e|e
        .exact h2.2.2 f (by rw[<-e];exact hf)
        .have:=e f hf;have:=a1.1;omega
      .intro e1;rcases q3 with e|e
       .exact ah (by rw[<-e];exact e1)
       .have:=e _ e1;omega
      .intro f e1 e2;rcases q3 with e|e
       .exact b6 f e1 (by rw[<-e];exact e2)
       .have:=e _ e2;have:=b8 f e1;omega
     have c5:=B5p names[i];(have bm:(d++g++A1S names[i]).length<=(i+1)*1200:=by simp;omega);cases hA:A2P old i;case' false=>
      (have g5:e<=old[i].frm:=by have:=b5 hA;omega);have g6:¬old[i].frm<e:=by omega
      (have hm:g=(l.take old[i].frm.toNat).drop e.toNat:=by rw[a7,hA];rfl);rw[hA]at k9
      simp -dsimp -implicitDefEqProofs[a3,b1,ax,b2,b3,b4,a9,g6,k1,k2,k3,k4,k5,k6,k7,k8,k9,A0a o,A0P.row,h7,g5,g3];(have aw:List.drop e.toNat (List.take old[i].frm.toNat (A0F l))=A0F g:=by rw[B3h,A8j,hm]);rw[aw];refine push (C:=WC gl) (e:=9) A4X A6S B0K b7 (news:=g.map S) (m:=g.length) (D0G _ _ _) (by simp) (by simp;omega) rfl ?_;intro v3 M3 q1 q2 q3 _;obtain⟨am,au,bh,bb,bg⟩:=mk v3 M3 q1 q2 q3;(have bi:A0B M3 1 w=some ((A1S names[i]).map S,(A1S names[i]).length):=by rw[au.src];simp);simp -dsimp -implicitDefEqProofs[k1,k2,k3,k4,k5,k6,k7,k8,k9]
     case' true=>
      (have hm:g=[B5a]:=by rw[a7,hA];rfl);rw[hA]at k9
      simp -dsimp -implicitDefEqProofs[a3,b1,ax,b2,b3,b4,a9,k1,k2,k3,k4,k5,k6,k7,k8,k9,A0a o,A0P.row,A0h,A0J];refine push (C:=WC gl) (e:=9) A4X A6S B0K b7 (news:=[B5a].map S) (m:=1) rfl rfl (by simp;omega) rfl ?_;rw[<-hm];intro v3 M3 q1 q2 q3 _;obtain⟨am,au,bh,bb,bg⟩:=mk v3 M3 q1 q2 q3;(have bi:A0B M3 1 w=some ((A1S names[i]).map S,(A1S names[i]).length):=by rw[au.src];simp);simp -dsimp -implicitDefEqProofs[k1,k2,k3,k4,k5,k6,k7,k8,k9]
     all_goals
      refine push (C:=WC gl) (e:=9) A4X A6S B0K am.1 (news:=(A1S names[i]).map S) (m:=(A1S names[i]).length) bi (by simp) (by simp;omega) rfl ?_
      intro v4 M4 r1 r2 r3 _
      have a2:=A4P (X:=[]) am r1 (by simpa using r2) (by simpa using r3)
      have a4:=r2.get bh bb
      simp -dsimp -implicitDefEqProofs[A0a a4,A0P.row,k1,k2,k3,k4,k5,k6,k7,k8,k9]
      refine B3y (λT M=>M=M4/\T 0=.list 1 (A0F l) o1/\T 1=.list 5 (A2K old) o2/\T 2=.list 1 (A5f names) o3/\T 7=v4/\T 8=I old[i].at_/\T 9=I i/\T 11=.ptr M2.length 0/\T 134=B (A6e old i)) ?_ ?_
      .refine A1h hY (A0w gl) (λk=>if k=13\/k=24 then 1 else 0) (λ_=>M2.length) (by rfl) (by kernel_rfl) ?_;simp only[A0P.row]at a4;by_cases il:i+1=old.length
       ·(have ab:((i+1:Nat):Int)=old.length:=by omega);have an:A6e old i=true:=by simp[A6e,il]
        simp -dsimp -implicitDefEqProofs[k1,k2,k3,k4,k5,k6,k7,k8,k9,hw,ab,an]
       ·(have ab:¬((i+1:Nat):Int)=old.length:=by omega);have ae:i+1<old.length:=by omega
        (have aq:((i+1:Nat):Int)<old.length:=by omega);have av:(0:Int)<=((i+1:Nat):Int):=by omega
        (have al:((i+1:Nat):Int).toNat=i+1:=by omega);have an:A6e old i=!A6C old[i+1] old[i]:=by simp[A6e,il,ad,Z0m ae]
        rw[an];generalize hj:((i+1:Nat):Int)=j at*;by_cases c1:old[i+1].frm=old[i].frm
        .by_cases c2:old[i+1].at_=old[i].at_
         ·(have hs:A6C old[i+1] old[i]=true:=by simp[A6C,c1,c2]);simp -dsimp -implicitDefEqProofs[k1,k2,k3,k4,k5,k6,k7,k8,k9,hw,ab,ae,aq,av,al,A0a a4,A0P.row,c1,c2,hs]
         ·(have hs:A6C old[i+1] old[i]=false:=by simp[A6C,c1,c2]);simp -dsimp -implicitDefEqProofs[k1,k2,k3,k4,k5,k6,k7,k8,k9,hw,ab,ae,aq,av,al,A0a a4,A0P.row,c1,c2,hs]
        ·(have hs:A6C old[i+1] old[i]=false:=by simp[A6C,c1]);simp -dsimp -implicitDefEqProofs[k1,k2,k3,k4,k5,k6,k7,k8,k9,hw,ab,ae,aq,av,al,A0a a4,A0P.row,c1,hs]
      .rintro T3 c4 ⟨rfl,j1,j2,j3,j4,j5,j6,j7,j8⟩;have q:=b0.trans z;cases hE:A6e old i
       .rw[hE]at j8 q;simp -dsimp -implicitDefEqProofs[j1,j2,j3,j4,j5,j6,j7,j8,hw,u];exact⟨⟨i+1,by clear hw;omega,_,a2,g4,g7,by simp,bm,by simpa using q⟩,by clear hw;omega⟩
       .rw[hE]at j8 q;simp only[Z0G]at q;have bj:((d++g++A1S names[i]).getD ((d++g++A1S names[i]).length-1) .empty).size<=16:=B1b _ (B7r b1);(have c7:0<(d++g++A1S names[i]).length:=by simp;omega);generalize d++g++A1S names[i]=c at*;(have ai:A1H prog 37 v4=some c.length:=by rw[a2.1.len (e:=9) (by simp)];simp);(have bz:c.length<=100000000:=by omega);(have aj:IntKind.i64.wrap ((c.length:Int)-1)=(c.length-1:Nat):=by rw[A0H (by omega) (by omega)];omega);(have bd:c.length-1<c.length:=by omega);obtain⟨sp,sf,s1,s4,s5,s2,s3⟩:=a2.1.spot2 (t:=9) D4c sz9 (i:=c.length-1) (by simp;omega);(have ar:c.getD (c.length-1) .empty=c[c.length-1]:=by simp[bd]);simp only[Z2w,<-ar]at s2;generalize bp:c.getD (c.length-1) .empty=ak at*;(have g8:old[i].at_.toNat-1<l.length:=by omega);(have g9:old[i].at_-1<l.length:=by omega);have bv:IntKind.i64.wrap (old[i].at_-1)=old[i].at_-1:=A0H (by omega) (by omega);(have bw:l.getD (old[i].at_.toNat-1) .empty=l[old[i].at_.toNat-1]:=by simp[g8]);rw[bw]at q;have c6:=B0O l[old[i].at_.toNat-1];obtain⟨M9,t4,t5,t6⟩:=s3 (S (ak++A3V l[old[i].at_.toNat-1])) rfl rfl;simp only[A0P.row]at a4;simp -dsimp -implicitDefEqProofs[j1,j2,j3,j4,j5,j6,j7,j8];refine A1h hY (A0w gl) (λk=>if k=9\/k=12 then 1 else if k=19 then 2 else 0) (λk=>if k=9 then sf else M2.length) (by rfl) (by kernel_rfl) ?_;simp -dsimp -implicitDefEqProofs[j1,j2,j3,j4,j5,j6,j7,j8,ai,aj,s1,s2,s5,A0a a4,A0P.row,bv,g1,g9,g8];refine B0m (r:=S (A3V l[old[i].at_.toNat-1])) (λM=>A2B func66 rfl rfl (D3L gl M l[old[i].at_.toNat-1] (bk _ (Z0v g8)))) ?_;have bo:A2Z M (A5n c (A3V l[old[i].at_.toNat-1])) v4 M9:=by
         refine⟨by rw[B4E,bp];simpa using t5,⟨?_,λj hj _=>?_⟩,a2.2.2⟩
         .have:=a2.2.1.1;have:=t6.1;omega
         .have:=a2.2.1.1;rw[t6.2 j (by omega) λe=>by have:=a2.2.2 _ e;omega];exact a2.2.1.2 j hj (by simp)
        (have bf:(A5n c (A3V l[old[i].at_.toNat-1])).length<=(i+1)*1200:=by simp[A5n];omega);have bs:¬(9223372036854775807:Int)<(ak.size:Int)+((A3V l[old[i].at_.toNat-1]).size:Int):=by omega
        simp -dsimp -implicitDefEqProofs[j1,j2,j3,j4,j5,j6,j7,j8,ai,aj,s1,t4,hw,u,bs];exact⟨⟨i+1,by clear hw;omega,_,bo,g4,g7,by simp,bf,by simpa using q⟩,by clear hw;omega⟩
  ·(have af:¬(i:Int)<old.length:=by omega);rw[b0,show old.length-i=0 by omega]
   simp -dsimp -implicitDefEqProofs[h3,h4,h6,u,af,aa,h7,h8];have aw:List.drop e.toNat (A0F l)=A0F (l.drop e.toNat):=A8j;rw[aw];refine push (C:=WC gl) (e:=9) A4X A6S B0K h2.1 (news:=(l.drop e.toNat).map S) (m:=(l.drop e.toNat).length) (D0G _ _ _) (by simp) (by simp;omega) rfl ?_;intro v' M' q1 q2 q3 _;have hf:=A4P (X:=[]) h2 q1 (by simpa using q2) (by simpa using q3);simp -dsimp -implicitDefEqProofs[A9y];exact⟨.inr hf.1,hf.2.1,hf.2.2⟩
end
structure A2k where
 at_:IdD
 n:Int
 to:List IdD
def A2k.row(m:A2k):List AV:=[I m.at_.act,I m.at_.item,I m.at_.n,I m.n,.list 3 (m.to.map IdD.row) .no]
def B6G(s:List A2k)(id:IdD)(n:Int):List IdD:=match s.find? λm=>decide (m.at_=id)&&decide (m.n=n)with
 |some m=>m.to
 |none=>[]
section
variable (F:IdD->Option A0b) (l:List A0L) (s:List A2k)
def A4i:Nat->Int->List A0u
 |0,_=>[A3N]
 |f+1,n=>if n<0 then[A3N]else A4i f (A4s l n)++[⟨A4w F l n,B0W l n.toNat⟩]
def A2G(id:IdD)(n:Int):List (List A0u):=if(B6G s id n).all λy=>(A1l l y).isSome then(B6G s id n).map λy=>A4i F l ((A1l l y).getD 0+1) ((A1l l y).getD 0:Nat)else[]
end
section
variable (cs:List A0P) (nm:Nat->List (List A0u))
def A6d(i:Nat):List A0P:=(List.range i).flatMap λn=>match cs[n]? with
 |some c=>(nm n).map λ_=>c
 |none=>[]
def A7C(i:Nat):List (List A0u):=(List.range i).flatMap nm
def A5w(i:Nat):List A0P:=(List.range i).flatMap λn=>match cs[n]? with
 |some c=>if nm n=[]then[c]else(nm n).map λp=>⟨0,p,⟨#[]⟩,0,0⟩
 |none=>[]
end
def A7O(a b:A0P):Bool:=decide (a.k=b.k)&&decide (a.to=b.to)&&decide (a.path.map (λs=>(s.k,s.lab))=b.path.map (λs=>(s.k,s.lab)))
def A9m(a b:List A0P):Bool:=decide (a.length=b.length)&&(a.zip b).all λx=>A7O x.1 x.2
def A3v(t:ByteArray):A0G:=⟨t,0,0,0⟩
def A4r(a b:Int):Int:=if b=6\/a=0 then b else a
section
variable (F:IdD->Option A0b) (l:List A0L) (s:List A2k)
def A5I(x:A0b):List ByteArray×Bool:=
 let cs:=A2z (A1o x.words) 0
 let nm:=λn:Nat=>A2G F l s x.id n
 let out:=A4m (A1o x.words) (A6d cs nm cs.length) (A7C nm cs.length)
 (out,A9m (A2z out 0) (A5w cs nm cs.length))
def C7J:A0b:=.mk idZ 0 ⟨#[]⟩ [] [] []
def A9D(n:Nat):A0b:=match l[n]? with
 |some x=>(F x.id).getD C7J
 |none=>C7J
def B0I(w:List ByteArray×Bool):Int:=if 256<w.1.length then 6 else if w.2 then 0 else 2
def A1N:Nat->Nat->A0b×List IdD×Int
 |0,_=>(C7J,[],0)
 |f+1,n=>
  let x:=A9D F l n
  let w:=A5I F l s x
  let ks:=(A2a l n l.length).map (A1N f)
  (.mk idZ x.kind (B0W l n) (x.head.map λh=>A3v h.text) (w.1.map A3v) (ks.map (·.1)),x.id::ks.flatMap (·.2.1),ks.foldl (λe k=>A4r e k.2.2) (B0I w))
def B5f:∀f n,(A1N F l s f n).2.1=(A6Y (λk=>A4s l k) l.length f n).map λk=>(A9D F l k).id
 |0,n=>rfl
 |f+1,n=>by rw[A1N,A6Y,Z0C];simp only;congr 1;rw[List.map_flatMap];have e:A2a l n l.length=chL (λk=>A4s l k) l.length n:=rfl;rw[e,Z3w];congr 1;funext k;exact B5f f k
end
def A3Z(number:Int):List (List IdD)->Nat->List (IdD×IdD)
 |[],_=>[]
 |ids::r,j=>(ids.zipIdx.map λx=>(x.1,(⟨number,j,(x.2:Int)+1⟩:IdD)))++A3Z number r (j+1)
def C1K{α:Type}:∀(l:List α) (k:Nat),(l.zipIdx k).map Prod.fst=l
 |[],_=>rfl
 |a::l,k=>by rw[List.zipIdx_cons,Z0C,C1K l (k+1)]
def B3B(a:Int):∀ts j,(A3Z a ts j).map (·.1)=ts.flatMap id
 |[],j=>rfl
 |ids::r,j=>by
  rw[A3Z,Z0Q,B3B a r (j+1),Z1v];congr 1;rw[Z1L];have:((λx:IdD×IdD=>x.1)∘λx:IdD×Nat=>(x.1,(⟨a,(j:Int),(x.2:Int)+1⟩:IdD)))=Prod.fst:=by funext x;rfl
  rw[this];exact C1K ids 0
section
variable {F:IdD->Option A0b} {l:List A0L} {s:List A2k}
def B6M(l:List A0L):List Nat:=A2a l (-1) l.length
def A2N(F:IdD->Option A0b)(l:List A0L)(s:List A2k):List (A0b×List IdD×Int):=(B6M l).map (A1N F l s l.length)
def C9B:(A2N F l s).flatMap (·.2.1)=(B3q (λk=>A4s l k) l.length).map λk=>(A9D F l k).id:=by unfold A2N B3q B6M;rw[Z3w,List.map_flatMap];have e:A2a l (-1) l.length=chL (λk=>A4s l k) l.length (-1):=rfl;rw[e];congr 1;funext k;exact B5f F l s l.length k
def D0f{u}(f:∀j,j<l.length->-1<=A4s l j/\A4s l j<j)(c:∀k,(h:k<l.length)->(A9D F l k).id=l[k].id)(hn:(l.map A0L.id).Nodup)(hu:(A0X u).Nodup)
 (d:∀x∈l,x.id∈(A0X u).tail)(i:l.length=(A0X u).tail.length):
 ((A2N F l s).flatMap (·.2.1)).Nodup/\∀x,x∈(A2N F l s).flatMap (·.2.1)<->x∈(A0X u).tail:=by
 obtain⟨h1,h2⟩:=C4k (par:=λk=>A4s l k) (N:=l.length) (λj hj=>f j hj)
 rw[C9B]
 have hm:∀x,x∈(B3q (λk=>A4s l k) l.length).map (λk=>(A9D F l k).id)<->x∈l.map A0L.id:=by
  intro x;simp only[Z0W];constructor
  .rintro⟨k,hk,rfl⟩;have:=(h2 k).1 hk;exact⟨l[k],Z0v this,(c k this).symm⟩
  .rintro⟨y,hy,rfl⟩;obtain⟨k,hk,rfl⟩:=List.getElem_of_mem hy;exact⟨k,(h2 k).2 hk,c k hk⟩
 refine⟨?_,λx=>?_⟩
 .unfold List.Nodup;rw[List.pairwise_map];refine Z3k ?_ h1;intro a b ha hb g e;have ha:=(h2 a).1 ha;have hb:=(h2 b).1 hb;rw[c a ha,c b hb]at e;have hp:=Z4a.1 hn;rcases Nat.lt_or_gt_of_ne g with h|h
  .exact hp a b (by simpa using ha) (by simpa using hb) h (by simpa using e)
  .exact hp b a (by simpa using hb) (by simpa using ha) h (by simpa using e.symm)
 .rw[hm];constructor
  .intro h;obtain⟨y,hy,rfl⟩:=Z0W.1 h;exact d y hy
  .refine D4A hn (λy hy=>?_) (by rw[Z0L];omega) x;obtain⟨z,hz,rfl⟩:=Z0W.1 hy;exact d z hz
end
def A7Y(u:A0b):Bool:=if u.kind=0 then decide (u.label.size=0)&&decide (u.head.length=0)&&decide (u.words.length=0)else decide (0<u.kind/\u.kind<=7)&&A0K u.label&&A3l u.head&&A3l u.words
mutual
def B0F(d:Nat):A0b->Bool
 |.mk id k l h w ks=>!decide (8<d)&&!(decide (0<d)&&decide (k=0))&&A7Y (.mk id k l h w ks)&&decide (ks.length<=64)&&A6G k d ks []
def A6G(kind:Int)(d:Nat):List A0b->List A0b->Bool
 |[],_=>true
 |k::ks,before=>A1w kind k.kind&&B0F (d+1) k&&!(before.any λa=>A2M a k)&&A6G kind d ks (before++[k])
end
def B8o{l}(h:l.length=0):A3l l=true:=by rw[Z0w h];rfl
def C5E(u:A0b):A4t u=(A7Y u&&decide (u.kids.length<=64)):=by
 unfold A4t A7Y;rw[Z1Q];by_cases c:u.kind=0
 .simp only[Z0d c,Z0f,Z0o];constructor
  .rintro⟨⟨⟨⟨-,h2⟩,-⟩,-⟩,h3⟩;exact⟨h3,h2⟩
  .rintro⟨h3,h2⟩;exact⟨⟨⟨⟨by omega,h2⟩,B8o h3.1.2⟩,B8o h3.2⟩,h3⟩
 .simp only[Z0e c,Z0f,Z0o];constructor
  .rintro⟨⟨⟨⟨h1,h2⟩,h3⟩,h4⟩,h5⟩;exact⟨⟨⟨⟨by omega,h5⟩,h3⟩,h4⟩,h2⟩
  .rintro⟨⟨⟨⟨h1,h5⟩,h3⟩,h4⟩,h2⟩;exact⟨⟨⟨⟨by omega,h2⟩,h3⟩,h4⟩,h5⟩
def C8Y{p k}(h:A1w p k=true):k≠0:=by
 rintro rfl;simp only[A1w,Z0f,Z0o]at h;obtain⟨⟨h1,h2⟩,h3⟩:=h;have key:∀n:Fin 8,(A3D.getD n.val []).contains (0:Int)=false:=by decide
 have:=key ⟨p.toNat,by omega⟩;simp only at this;rw[this]at h3;exact absurd h3 (by simp)
mutual
def B5Y:∀(u:A0b) (d:Nat),B0F d u=(A2T u&&decide (A2f u+d<=8)&&decide (d=0\/u.kind≠0))
 |.mk id k l h w ks,d=>by
  have hl:=B4e ks k d [];have ha:=C5E (.mk id k l h w ks);have hk:(A0b.mk id k l h w ks).kind=k:=rfl;have a:(A0b.mk id k l h w ks).kids=ks:=rfl;rw[a]at ha;rw[B0F,A2T,A2f,hl,hk,ha,Z1Q];simp only[Z0f,Z1U,Z1n,Z2A,Z0o];constructor
  .rintro⟨⟨⟨⟨h1,h2⟩,h3⟩,h4⟩,h5,h6⟩;refine⟨⟨⟨⟨h3,h4⟩,h5⟩,?_⟩,by omega⟩;rcases h6 with h6|h6
   .subst h6;rw[A3h];omega
   .exact h6
  .rintro⟨⟨⟨⟨h3,h4⟩,h5⟩,h6⟩,h7⟩;exact⟨⟨⟨⟨by omega,by omega⟩,h3⟩,h4⟩,h5,.inr h6⟩
def B4e:∀(ks:List A0b) (kind:Int) (d:Nat) (b:List A0b),A6G kind d ks b=(A4M kind ks b&&decide (ks=[]\/A3h ks+d<=8))
 |[],kind,d,b=>by rw[A6G,A4M];simp
 |k::ks,kind,d,b=>by
  have h1:=B5Y k (d+1);have h2:=B4e ks kind d (b++[k]);rw[A6G,A4M,A3h,h1,h2,Z1Q];simp only[Z0f,Z1U,Z0o];constructor
  .rintro⟨⟨⟨a,⟨b1,b2⟩,b3⟩,c⟩,e1,e2⟩;refine⟨⟨⟨⟨a,b1⟩,c⟩,e1⟩,.inr ?_⟩;rcases e2 with e2|e2
   .subst e2;rw[A3h];omega
   .omega
  .rintro⟨⟨⟨⟨a,b1⟩,c⟩,e1⟩,e2⟩;have e2:max (1+A2f k) (A3h ks)+d<=8:=by
    rcases e2 with e2|e2
    .exact absurd e2 (by simp)
    .exact e2
   exact⟨⟨⟨a,⟨b1,by omega⟩,.inr (C8Y a)⟩,c⟩,e1,.inr (by omega)⟩
end
def B0M(t:ByteArray):ByteArray:=if A0T t 0=124\/A0T t 0=92 then⟨#[92]⟩++t else t
def A5r(s:ByteArray)(ws:List A0G):ByteArray:=ws.foldl (λs w=>s++⟨#[32]⟩++B0M w.text) s
def A9T(a b c:ByteArray):a++b++c=a++(b++c):=by apply Z4y;simp[Z4t,Array.append_assoc]
def D1T(s t:ByteArray):∀ws:List A0G,A5r (s++t) ws=s++A5r t ws:=by
 intro ws;induction ws generalizing t with
 |nil=>rfl
 |cons w ws ih=>unfold A5r at ih|-;rw[Z2M,Z2M,A9T,A9T,ih,A9T]
def A8D:Nat->ByteArray
 |0=>⟨#[]⟩
 |d+1=>A8D d++⟨#[32,32]⟩
def A4n:List ByteArray:=[⟨#[98,111,111,107]⟩,⟨#[112,97,114,116]⟩,⟨#[115,101,99,116,105,111,110]⟩,⟨#[112,97,114,97,103,114,97,112,104]⟩,⟨#[116,97,98,108,101]⟩,⟨#[114,111,119]⟩,⟨#[99,101,108,108]⟩,⟨#[110,111,116,101]⟩]
def A7F(u:A0b)(d:Nat):ByteArray:=A8D d++A4n.getD u.kind.toNat ⟨#[]⟩
def A5m(u:A0b)(d:Nat):ByteArray:=if u.kind=0 then A7F u d else A7F u d++(⟨#[32]⟩++u.label)
def A4a(u:A0b)(d:Nat):ByteArray:=if u.head.length=0 then A5m u d else A5r (A5m u d++⟨#[58]⟩) u.head
def A3w(u:A0b)(d:Nat):ByteArray:=if u.words.length=0 then A4a u d else A5r (A4a u d++⟨#[32,124]⟩) u.words
mutual
def A4c(d:Nat):A0b->List ByteArray
 |.mk id k l h w ks=>A3w (.mk id k l h w ks) d::A5e (d+1) ks
def A5e(d:Nat):List A0b->List ByteArray
 |[]=>[]
 |k::ks=>A4c d k++A5e d ks
end
def A4O(l:List ByteArray):Nat:=(l.map λs=>s.size+1).foldr (·+·) 0
@[simp] def C6o:A4O []=0:=rfl
@[simp] def A7A(s:ByteArray)(l:List ByteArray):A4O (s::l)=s.size+1+A4O l:=rfl
def B8w(a b:List ByteArray):A4O (a++b)=A4O a+A4O b:=by
 induction a with
 |nil=>simp
 |cons s a ih=>simp[ih];omega
def D1H(t:ByteArray):(B0M t).size<=t.size+1:=by
 have e:(⟨#[92]⟩:ByteArray).size=1:=rfl;unfold B0M;split
 .rw[Z0x,e];omega
 .omega
def A6m:∀(ws:List A0G) (s:ByteArray),(∀w∈ws,w.text.size<=24)->(A5r s ws).size<=s.size+26*ws.length
 |[],s,_=>by simp[A5r]
 |w::ws,s,h=>by have h1:=A6m ws (s++⟨#[32]⟩++B0M w.text) λx hx=>h x (by simp[hx]);have h2:=h w (by simp);have h3:=D1H w.text;have e:A5r s (w::ws)=A5r (s++⟨#[32]⟩++B0M w.text) ws:=rfl;have e2:(⟨#[32]⟩:ByteArray).size=1:=rfl;rw[e];simp only[Z0x,Z0B,e2]at h1|-;omega
def A8E:∀d,(A8D d).size=2*d
 |0=>rfl
 |d+1=>by have e2:(⟨#[32,32]⟩:ByteArray).size=2:=rfl;rw[A8D,Z0x,A8E d,e2];omega
def A3j(l:List ByteArray)(p:ByteArray->Bool)(at_:Nat)(en:Bool):Option ByteArray×Nat×Bool:=
 if en=true then(none,at_,en)else match l[at_]? with
 |none=>(none,at_,en)
 |some s=>if p s=true then(some s,at_+1,false)else if s.size=0 then(none,at_,false)else if A3q (A0T s (s.size-1))=false then(none,at_,false)else if p (s.extract 0 (s.size-1))=true then(some (s.extract 0 (s.size-1)),at_+1,true)else(none,at_,false)
def B3f(p:ByteArray->Bool):Prop:=∀s,p s=true->A2A s=true
def B1G{l}{p:ByteArray->Bool}{a}{en}(h:A1c l a en=[]):A3j l p a en=(none,a,en):=by
 unfold A3j;by_cases c:en=true
 .rw[Z0d c]
 .rw[Z0e c];by_cases e:a<l.length
  ·(have:en=false:=by simpa using c);subst this
   rw[C8y e]at h;exact absurd h (by simp)
  .rw[Z1i (by omega)]
def A9B{l}{p:ByteArray->Bool}(hp:B3f p){a}{en}{t}{r}(h:A1c l a en=t::r):a<l.length/\en=false/\((p t=true/\∃en',A3j l p a en=(some t,a+1,en')/\A1c l (a+1) en'=r)\/(p t=false/\A3j l p a en=(none,a,false))):=by
 have he:en=false:=by
  cases en with
  |false=>rfl
  |true=>rw[C5I (.inl rfl)]at h;exact absurd h (by simp)
 subst he
 have hl:a<l.length:=by refine Z2F λc=>?_;rw[C5I (.inr (by omega))]at h;exact absurd h (by simp)
 refine⟨hl,rfl,?_⟩
 rw[C8y hl]at h
 simp only[Z1g]at h
 obtain⟨h1,h2⟩:=h
 unfold A3j
 simp only[Z0E,Z0Y,Z0m hl]
 cases hc:A2A l[a]with
 |true=>
  rw[B3x hc]at h1
  rw[hc]at h2
  subst h1
  by_cases e:p l[a]=true
  .exact .inl ⟨e,false,by rw[Z0d e],h2⟩
  .refine .inr ⟨by simpa using e,?_⟩;rw[Z0e e];by_cases z:l[a].size=0
   .rw[Z0d z]
   .rw[Z0e z];unfold A2A at hc;simp only[z,Z4A,Z0X,Z1U]at hc;rw[Z0d hc]
 |false=>
  obtain⟨b1,b2,b3,b4⟩:=D4P hc
  rw[hc]at h2
  have e:¬p l[a]=true:=λe=>by rw[hp _ e]at hc;exact absurd hc (by simp)
  rw[Z0e e,Z0e (by omega),Z0e (by rw[b3];simp),<-b4,h1]
  by_cases c:p t=true
  .exact .inl ⟨c,true,by rw[Z0d c],h2⟩
  .exact .inr ⟨by simpa using c,by rw[Z0e c]⟩
def D1O(w:ByteArray)(h:A2A w=true):B3f λs=>decide (s=w):=λs hs=>by rw[Z1K hs];exact h
def B6x:B3f A0K:=λs hs=>(A8R hs).1
def C3L:B3f λs=>decide (0<kS s):=λs hs=>(A8r s (B0J (Z1K hs))).1
def D3g:B3f λs=>decide (0<kP s):=λs hs=>(B4S s (A8W (Z1K hs)).1 (A8W (Z1K hs)).2).1
def A7e(l:List ByteArray)(kd:ByteArray->Int)(a:Nat)(en:Bool):Option A0u×Nat×Bool:=
 match A3j l (λs=>decide (0<kd s)) a en with
 |(none,_,_)=>(none,a,en)
 |(some s,a1,en1)=>match A3j l A0K a1 en1 with
  |(none,_,_)=>(none,a,en)
  |(some t,a2,en2)=>(some ⟨kd s,t⟩,a2,en2)
def C0T{l}{kd:ByteArray->Int}(hk:B3f λs=>decide (0<kd s)){a}{en}:
 (∃s t r,A1c l a en=s::t::r/\0<kd s/\A0K t=true/\∃en',A7e l kd a en=(some ⟨kd s,t⟩,a+2,en')/\A1c l (a+2) en'=r)\/
 ((∀s t r,A1c l a en=s::t::r->¬(0<kd s/\A0K t=true))/\A7e l kd a en=(none,a,en)):=by
 unfold A7e
 cases hs:A1c l a en with
 |nil=>
  right
  rw[B1G hs]
  exact⟨λs t r e=>absurd e (by simp),rfl⟩
 |cons s r1=>
  obtain⟨hl,rfl,h|h⟩:=A9B hk hs
  .obtain⟨c1,c,e1,s1⟩:=h;rw[e1];simp only;cases r1 with
   |nil=>right;rw[B1G s1];exact⟨λs t r e=>absurd e (by simp),rfl⟩
   |cons t r=>
    obtain⟨b,rfl,h|h⟩:=A9B B6x s1
    .obtain⟨c2,en2,e2,s2⟩:=h;rw[e2];exact .inl ⟨s,t,r,rfl,by simpa using c1,c2,en2,rfl,s2⟩
    .rw[h.2];refine .inr ⟨λs' t' r' e=>?_,rfl⟩;simp only[Z1g]at e;obtain⟨rfl,rfl,rfl⟩:=e;rw[h.1];simp
  .rw[h.2];refine .inr ⟨λs' t' r' e=>?_,rfl⟩;simp only[Z1g]at e;obtain⟨rfl,rfl⟩:=e;intro hh;have:=h.1;simp[hh.1]at this
def D0N{n}{s t}{r}(h:0<kS s/\A0K t=true):prs (n+1) (s::t::r)=⟨kS s,t⟩::prs n r:=by rw[prs,Z0d h]
def D1y{n}{w}(h:∀s t r,w=s::t::r->¬(0<kS s/\A0K t=true)):prs n w=[]:=by
 match n,w,h with
 |0,w,_=>cases w<;>simp[prs]
 |n+1,[],_=>simp[prs]
 |n+1,[a],_=>simp[prs]
 |n+1,a::b::r,h=>rw[prs,Z0e (h a b r rfl)]
def A8e{l}{want}(hc:A2A want=true){a}{en}:
 (∃r,A1c l a en=want::r/\∃b,A3j l (λs=>decide (s=want)) a en=(some want,a+1,b)/\A1c l (a+1) b=r)\/
 ((∀r,A1c l a en≠want::r)/\A3j l (λs=>decide (s=want)) a en=(none,a,en)):=by
 cases hs:A1c l a en with
 |nil=>exact .inr ⟨λr e=>absurd e (by simp),B1G hs⟩
 |cons s r=>
  obtain⟨hl,rfl,h|h⟩:=A9B (D1O want hc) hs
  .obtain⟨c,b,e1,e2⟩:=h;have:=Z1K c;subst this;exact .inl ⟨r,rfl,b,e1,e2⟩
  .refine .inr ⟨λr' e=>?_,h.2⟩;simp only[Z1g]at e;have:=h.1;simp[e.1]at this
def C9C{l}{kd:ByteArray->Int}(hk:B3f λs=>decide (0<kd s)){a}{en}:
 (∃s r,A1c l a en=s::r/\0<kd s/\∃b,A3j l (λs=>decide (0<kd s)) a en=(some s,a+1,b)/\A1c l (a+1) b=r)\/
 ((∀s r,A1c l a en=s::r->¬0<kd s)/\A3j l (λs=>decide (0<kd s)) a en=(none,a,en)):=by
 cases hs:A1c l a en with
 |nil=>exact .inr ⟨λs r e=>absurd e (by simp),B1G hs⟩
 |cons s r=>
  obtain⟨hl,rfl,h|h⟩:=A9B hk hs
  .obtain⟨c,b,e1,e2⟩:=h;exact .inl ⟨s,r,rfl,Z1K c,b,e1,e2⟩
  .refine .inr ⟨λs' r' e=>?_,h.2⟩;simp only[Z1g]at e;rw[<-e.1];exact of_decide_eq_false h.1
abbrev A1r(l:List ByteArray)(o:Own)(a:Nat)(en:Bool):List AV:=[.list 1 (A0F l) o,I a,B en]
def Rd(M:Mem)(r:Nat)(l:List ByteArray)(o:Own)(a:Nat)(en:Bool):Prop:=M[r]?=some (.cells 240 (A1r l o a en))
def D4h(C:Ctx)(g:FuncId)(cs:List AV)(p:ByteArray->Bool):Prop:=∀s M,A5q C g (S s::cs) M (λv M'=>v=B (p s)/\M'=M)
def C2e(c:Int):(A7h c<0)=(A3q c=false):=by unfold A7h A3q;by_cases h1:c=44<;>by_cases h2:c=59<;>by_cases h3:c=46<;>by_cases h4:c=58<;>by_cases h5:c=41<;>simp[h1,h2,h3,h4,h5]
section
variable (gl:Nat->AV)
def D1I(c:UInt8)(M:Mem):A0e (WC gl) 375 [S A6O,.val (.int .u8 c.toNat)] M (λr m=>r=I (A7h c.toNat)/\m=M):=by refine A0k hB func375 ?_;simp -dsimp -implicitDefEqProofs;refine A0i func271 (C5r gl M c) ?_;simp -dsimp -implicitDefEqProofs
def B4q(l:List ByteArray)(o:Own)(hl:l.length<=1000000000)(t:∀s∈l,s.size<=maxLen)(p:ByteArray->Bool)(r:Nat)(g:FuncId)(cs:List AV)(hf:D4h (WC gl) g cs p)(a:Nat)(en:Bool)(M:Mem)(hr:Rd M r l o a en):A0e (WC gl) 331 [.ptr r 0,.func (.func g) [] cs] M (λv M'=>v=.tuple [S ((A3j l p a en).1.getD ⟨#[]⟩),B (A3j l p a en).1.isSome]/\M'=M.set r (.cells 240 (A1r l o (A3j l p a en).2.1 (A3j l p a en).2.2))):=by
 have b:M.set r (.cells 240 (A1r l o a en))=M:=by
  apply Z1J;intro i;rw[Z2d];split
  .rename_i e;subst e;split
   .exact hr.symm
   .rename_i h;exact(Z1i (by omega)).symm
  .rfl
 refine A0k hB func331 ?_
 simp -dsimp -implicitDefEqProofs
 refine A1h hB (A0w gl) (λk=>if k=3\/k=8\/k=12 then 1 else 0) (λ_=>r) (by rfl) (by kernel_rfl) ?_
 cases en with
 |true=>simp -dsimp -implicitDefEqProofs[A0a hr,A3j,b]
 |false=>
 by_cases hal:a<l.length
 case neg=>
  have h1:(l.length:Int)<=a:=by omega
  have h2:l[a]?=none:=Z1i (by omega);simp -dsimp -implicitDefEqProofs[A0a hr,h1,A3j,h2,b]
 have h1:¬(l.length:Int)<=a:=by omega
 have q:(a:Int)<l.length:=by omega
 have h2:l[a]?=some l[a]:=Z0m hal
 simp -dsimp -implicitDefEqProofs[A0a hr,h1]
 refine A1h hB (A0w gl) (λk=>if k=3\/k=7 then 1 else 0) (λ_=>r) (by rfl) (by kernel_rfl) ?_
 simp -dsimp -implicitDefEqProofs[A0a hr,q,hal]
 have f:IntKind.i64.wrap ((a:Int)+1)=(a+1:Nat):=by rw[A0H (by omega) (by omega)];omega
 have h:r<M.length:=(Z0c.1 hr).1
 refine A6P (hf _ _) ?_
 rintro _ M1 ⟨rfl,rfl⟩
 have u:l[a].size<=9223372036854775807:=t _ (Z0v hal)
 generalize hs:l[a]=s at*
 by_cases c1:p s=true
 .simp -dsimp -implicitDefEqProofs[c1,A0a hr,A0f hr,A0d,f,A3j,h2];rfl
 have c:p s=false:=by simpa using c1
 by_cases c2:s.size=0
 .have hw:IntKind.i64.wrap (-1)=-1:=by decide
  simp -dsimp -implicitDefEqProofs[c,hw,A3j,h2,c1,c2,b]
 have hw:IntKind.i64.wrap ((s.size:Int)-1)=(s.size-1:Nat):=by rw[A0H (by omega) (by omega)];omega
 have i1:((s.size-1:Nat):Int)<s.size:=by omega
 have i2:s.size-1<s.size:=by omega
 have i0:¬((s.size-1:Nat):Int)<0:=by omega
 have i3:((s.size-1:Nat):Int)<=s.size:=by omega
 simp -dsimp -implicitDefEqProofs[c,hw,i0,i1,i2]
 refine A0i func375 (D1I gl (s.data.getD (s.size-1) 0) M1) ?_
 have d:(A7h (s.data.getD (s.size-1) 0).toNat<0)=(A3q (A0T s (s.size-1))=false):=C2e _
 generalize A7h (s.data.getD (s.size-1) 0).toNat=k at*
 cases c3:A3q (A0T s (s.size-1))with
 |false=>
  rw[c3]at d
  have k0:k<0:=by rw[d]
  simp -dsimp -implicitDefEqProofs[c,hw,i0,k0,A3j,h2,c1,c2,c3,b]
 |true=>
  rw[c3]at d
  have k0:¬k<0:=by rw[d];simp
  simp -dsimp -implicitDefEqProofs[c,hw,i0,k0,i3]
  refine A6P (hf _ _) ?_
  rintro _ M3 ⟨rfl,rfl⟩
  by_cases c4:p (s.extract 0 (s.size-1))=true
  .have m:r<M3.length:=h;(have j:(M3.set r (A0p.cells 240 [AV.list 1 (A0F l) o,AV.val (.int .i64 (a:Int)),AV.val (.bool true)]))[r]?=some (A0p.cells 240 [AV.list 1 (A0F l) o,AV.val (.int .i64 (a:Int)),AV.val (.bool true)]):=by simp[m]);simp -dsimp -implicitDefEqProofs[c4,A0a hr,A0f hr,A0d,f,i3];simp -dsimp -implicitDefEqProofs[A0a j,A0f j,A0d,f,A3j,h2,c1,c2,c3,c4,Z3D];rfl
  .simp -dsimp -implicitDefEqProofs[c4,A3j,h2,c1,c2,c3,b]
end
section
variable (gl:Nat->AV)
def C7H(a:ByteArray):D4h (WC gl) 332 [.cptr [S a]] (λs=>decide (s=a)):=λs M=>by
 refine A2B func332 rfl rfl ?_;refine A0k hB func332 ?_;simp -dsimp -implicitDefEqProofs
 done
def D1t(l:List ByteArray)(o:Own)(w:ByteArray)(M:Mem)(hl:l.length<=1000000000):A0e (WC gl) 396 [.list 1 (A0F l) o,S w] M (λv M'=>v=I (A9Y l w 0)/\M'=M):=by
 refine A0k hB func396 ?_;simp -dsimp -implicitDefEqProofs;refine A0s hB l.length 8 (λT M1=>∃i:Nat,M1=M/\i<=l.length/\T 0=.list 1 (A0F l) o/\T 1=S w/\T 7=I l.length/\T 8=I i/\A9Y l w 0=A9Y (l.drop i) w i) ?_ ?_
 .exact⟨0,rfl,by omega,by simp,by simp,by simp,by simp,by simp⟩
 rintro T M1 ⟨i,rfl,h1,t0,t1,t7,t8,h2⟩;by_cases hi:i<l.length
 .have a:(i:Int)<l.length:=by omega
  have hw:IntKind.i64.wrap ((i:Int)+1)=(i+1:Nat):=by rw[A0H (by omega) (by omega)];omega
  rw[Z0h hi,A9Y]at h2;by_cases c:l[i]=w
  .rw[Z0d c]at h2;simp -dsimp -implicitDefEqProofs[t0,t1,t7,t8,a,hi,c,h2]
  .rw[Z0e c]at h2;have c':¬w=l[i]:=λe=>c e.symm;simp -dsimp -implicitDefEqProofs[t0,t1,t7,t8,a,hi,c,c',hw];exact⟨⟨i+1,by omega,rfl,h2⟩,by omega⟩
 .have a:¬(i:Int)<l.length:=by omega
  rw[Z0n (by omega),A9Y]at h2;simp -dsimp -implicitDefEqProofs[t0,t1,t7,t8,a,h2]
def B7a(M:Mem):A0e (WC gl) 219 [] M (λv M'=>v=.list 1 (A0F A1a) .full/\M'=M):=by refine A0k hB func219 ?_;simp -dsimp -implicitDefEqProofs[A0h,A0J,A0F,A1a]
def C9h(M:Mem):A0e (WC gl) 169 [] M (λv M'=>v=.list 1 (A0F A2w) .full/\M'=M):=by refine A0k hB func169 ?_;simp -dsimp -implicitDefEqProofs[A0h,A0J,A0F,A2w]
end
section
variable (gl:Nat->AV)
def C8d(l:List ByteArray)(o:Own)(w:ByteArray)(M:Mem)(hl:l.length<=1000000000):A0e (WC gl) 377 [.list 1 (A0F l) o,S w] M (λv M'=>v=I (A2s l w)/\M'=M):=by
 refine A0k hB func377 ?_;by_cases c:w=⟨#[]⟩
 .simp -dsimp -implicitDefEqProofs[c,A2s]
 .simp -dsimp -implicitDefEqProofs[c,A2s];refine A0i func396 (D1t gl l o w M hl) ?_;simp -dsimp -implicitDefEqProofs;rw[A2s,Z0e c];split<;>omega
def C7C(l:List ByteArray)(o:Own)(hl:l.length<=1000000000):D4h (WC gl) 376 [.cptr [.list 1 (A0F l) o]] (λs=>decide (0<A2s l s)):=λs M=>by refine A2B func376 rfl rfl ?_;refine A0k hB func376 ?_;simp -dsimp -implicitDefEqProofs;refine A0i func377 (C8d gl l o s M hl) ?_;simp -dsimp -implicitDefEqProofs
def B2e(l:List ByteArray)(o:Own)(hl:l.length<=1000000000)(c:∀s∈l,s.size<=maxLen)(b:ByteArray)(r:Nat)(a:Nat)(en:Bool)(M:Mem)(hr:Rd M r l o a en):A0e (WC gl) 251 [.ptr r 0,S b] M (λv M'=>v=B (A3j l (λs=>decide (s=b)) a en).1.isSome/\M'=M.set r (.cells 240 (A1r l o (A3j l (λs=>decide (s=b)) a en).2.1 (A3j l (λs=>decide (s=b)) a en).2.2))):=by
 refine A0k hB func251 ?_
 simp -dsimp -implicitDefEqProofs
 refine A0j func331 (B4q gl l o hl c _ r 332 _ (C7H gl b) a en M hr) ?_
 rintro _ M1 ⟨rfl,rfl⟩
 simp -dsimp -implicitDefEqProofs
def C4R(l:List ByteArray)(o:Own)(hl:l.length<=1000000000)(b:∀s∈l,s.size<=maxLen)(ks:List ByteArray)(o2:Own)(hk:ks.length<=100)(r:Nat)(a:Nat)(en:Bool)(M:Mem)(hr:Rd M r l o a en):A0e (WC gl) 333 [.ptr r 0,.list 1 (A0F ks) o2] M (λv M'=>v=.tuple [I (A2s ks ((A3j l (λs=>decide (0<A2s ks s)) a en).1.getD ⟨#[]⟩)),B (A3j l (λs=>decide (0<A2s ks s)) a en).1.isSome]/\M'=M.set r (.cells 240 (A1r l o (A3j l (λs=>decide (0<A2s ks s)) a en).2.1 (A3j l (λs=>decide (0<A2s ks s)) a en).2.2))):=by
 refine A0k hB func333 ?_
 simp -dsimp -implicitDefEqProofs
 refine A0j func331 (B4q gl l o hl b _ r 376 _ (C7C gl ks o2 (by omega)) a en M hr) ?_
 rintro _ M1 ⟨rfl,rfl⟩
 simp -dsimp -implicitDefEqProofs
 refine A0j func377 (C8d gl ks o2 _ _ (by omega)) ?_
 rintro _ M2 ⟨rfl,rfl⟩
 simp -dsimp -implicitDefEqProofs
end
section
variable (gl:Nat->AV)
def B7H:D4h (WC gl) 112 [] A0K:=λs M=>A2B func112 rfl rfl (A6Z (λ_=>trivial) (B1u gl M s))
@[simp] def D8n:A0Q prog 159 []=some (.agg [I 0,S ⟨#[]⟩]):=by simp[A0Q,A1G]
@[simp] def D8a{k}{t}:A0Q prog 159 [(0,I k),(1,S t)]=some (.agg [I k,S t]):=by simp[A0Q,A1G,A2e,A0d]
def A9s{M:Mem}{r:Nat}{l:List ByteArray}{o:Own}{a:Nat}{en:Bool}{X:A0p}(h:r<M.length):Rd (M.set r (.cells 240 (A1r l o a en))) r l o a en:=by simp[Rd,h]
def C3d(l:List ByteArray)(o:Own)(hl:l.length<=1000000000)(a0:∀s∈l,s.size<=maxLen)(ks:List ByteArray)(o2:Own)(hk:ks.length<=100)(r:Nat)(a:Nat)(en:Bool)(M:Mem)(hr:Rd M r l o a en):A0e (WC gl) 330 [.ptr r 0,.list 1 (A0F ks) o2] M (λv M'=>v=.tuple [.agg (match(A7e l (A2s ks) a en).1 with|some s=>s.row|none=>[I 0,S ⟨#[]⟩]),B (A7e l (A2s ks) a en).1.isSome]/\A0c (some r) M M'/\Rd M' r l o (A7e l (A2s ks) a en).2.1 (A7e l (A2s ks) a en).2.2):=by
 obtain⟨R,hR⟩:∃R,R=A7e l (A2s ks) a en:=⟨_,rfl⟩
 rw[<-hR]
 refine A0k hB func330 ?_
 have w:r<M.length:=(Z0c.1 hr).1
 obtain⟨M1,b⟩:∃M1,M1=M++[A0p.cells 159 [I 0,S ⟨#[]⟩],A0p.cells 240 (A1r l o a en)]:=⟨_,rfl⟩
 have k:Rd M1 r l o a en:=by unfold Rd;rw[b,Z0j w];exact hr
 have y:(M++[A0p.cells 159 [I 0,S ⟨#[]⟩]])[r]?=some (.cells 240 (A1r l o a en)):=by rw[Z0j w];exact hr
 have a8:M1[M.length]?=some (.cells 159 [I 0,S ⟨#[]⟩]):=by rw[b];simp
 have a5:M1[M.length+1]?=some (.cells 240 (A1r l o a en)):=by rw[b];simp
 have q:A0c (some r) M M1:=by rw[b];exact .app _ _ _
 simp -dsimp -implicitDefEqProofs[A0o,A0a y,A0l,A0d]
 rw[<-b]
 clear y b
 refine A0j func333 (C4R gl l o hl a0 ks o2 hk r a en M1 k) ?_
 rintro _ M2 ⟨rfl,rfl⟩
 have h:r<M1.length:=(Z0c.1 k).1
 have g:A7e l (A2s ks) a en=match A3j l (λs=>decide (0<A2s ks s)) a en with
  |(none,_,_)=>(none,a,en)
  |(some s,a1,f)=>match A3j l A0K a1 f with
   |(none,_,_)=>(none,a,en)
   |(some t,a2,en2)=>(some ⟨A2s ks s,t⟩,a2,en2):=rfl
 rw[g]at hR
 clear g
 rcases hw:A3j l (λs=>decide (0<A2s ks s)) a en with⟨w1,a1,f⟩
 rw[hw]at hR
 have z:=@A9s M1 r l o a1 f .gone h
 have c:r≠M.length:=by omega
 have a4:r≠M.length+1:=by omega
 simp -dsimp -implicitDefEqProofs
 refine A0j func331 (B4q gl l o hl a0 A0K r 112 [] (B7H gl) a1 f _ z) ?_
 rintro _ M3 ⟨rfl,rfl⟩
 rcases hw2:A3j l A0K a1 f with⟨w2,a2,en2⟩
 simp only[Z3D]
 have j:=@A9s M1 r l o a2 en2 .gone h
 have a3:A0c (some r) M (M1.set r (.cells 240 (A1r l o a2 en2))):=q.trans (.set _ _ _)
 have m:(M1.set r (.cells 240 (A1r l o a2 en2)))[M.length]?=some (.cells 159 [I 0,S ⟨#[]⟩]):=by rw[Z0g c];exact a8
 have a6:(M1.set r (.cells 240 (A1r l o a2 en2)))[M.length+1]?=some (.cells 240 (A1r l o a en)):=by rw[Z0g a4];exact a5
 generalize M1.set r (.cells 240 (A1r l o a2 en2))=M3 at*
 have d:M.length<M3.length:=(Z0c.1 m).1
 have u:Rd (M3.set r (.cells 240 (A1r l o a en))) r l o a en:=@A9s M3 r l o a en .gone (by omega)
 have a7:(M3.set r (.cells 240 (A1r l o a en)))[M.length]?=some (.cells 159 [I 0,S ⟨#[]⟩]):=by rw[Z0g c];exact m
 have a9:A0c (some r) M (M3.set r (.cells 240 (A1r l o a en))):=a3.trans (.set _ _ _)
 have e:∀(M4:Mem) (X:List AV) (a':Nat) (p:Bool),Rd M4 r l o a' p->A0c (some r) M M4->A0c (some r) M (M4.set M.length (.cells 159 X))/\Rd (M4.set M.length (.cells 159 X)) r l o a' p:=λM4 X a' p h1 h2=>by
  refine⟨⟨by simpa using h2.1,λi hi ho=>?_⟩,?_⟩
  .rw[Z0g (by omega)];exact h2.2 i hi ho
  .unfold Rd;rw[Z0g c.symm];exact h1
 clear q k a8 a5 z
 cases w1 with
 |none=>
  simp only at hR
  subst hR
  have hq:=e _ [I 0,S ⟨#[]⟩] a en u a9
  simp -dsimp -implicitDefEqProofs[A0a a6,A0f j,A0d]
  simp -dsimp -implicitDefEqProofs[A0f a7,A0d,A0C,d,A0t]
  exact hq
 |some s=>
  simp only[hw2]at hR
  cases w2 with
  |none=>
   simp only at hR
   subst hR
   have hq:=e _ [I 0,S ⟨#[]⟩] a en u a9
   simp -dsimp -implicitDefEqProofs[A0a a6,A0f j,A0d]
   simp -dsimp -implicitDefEqProofs[A0f a7,A0d,A0C,d,A0t]
   exact hq
  |some t=>
   simp only at hR
   subst hR
   have hq:=e _ [I (A2s ks s),S t] a2 en2 j a3
   simp -dsimp -implicitDefEqProofs[A0f m,A0d,A0C,d,A0t,A0u.row]
   exact hq
end
def A1u(r:Nat)(b:Option Nat)(M M':Mem):Prop:=M.length<=M'.length/\∀i,i<M.length->i≠r->b≠some i->M'[i]?=M[i]?
def A1u.refl(r:Nat)(b:Option Nat)(M:Mem):A1u r b M M:=⟨Z0u _,λ_ _ _ _=>rfl⟩
def A1u.step{r}{b c}{M M1 M2}(h:A1u r b M M1)(k:A1u r c M1 M2)(hc:∀i,c=some i->i<M.length->b=some i):A1u r b M M2:=⟨Z0T h.1 k.1,λi hi h1 h2=>(k.2 i (Z1w hi h.1) h1 λe=>h2 (hc i e hi)).trans (h.2 i hi h1 h2)⟩
def A1u.of_r{r}{b}{M M'}(h:A0c (some r) M M'):A1u r b M M':=⟨h.1,λi hi h1 _=>h.2 i hi λe=>h1 (by simpa using e.symm)⟩
def A1u.of_b{r}{b}{M M'}(h:A0c b M M'):A1u r b M M':=⟨h.1,λi hi _ h2=>h.2 i hi h2⟩
def lenV(v:AV):Nat:=match v with
 |.vref _ _ _ _ n=>n
 |_=>0
def A1z.lenV{α:Type}{e sz}{enc:α->List AV}{M}{v}{l}(h:A1z e sz enc M v l):lenV v=l.length:=by rcases h with⟨rfl,rfl⟩|⟨f,g,a,rfl,_⟩<;>rfl
def C2E(l:List ByteArray)(o:Own)(r a:Nat)(en:Bool)(b:Option Nat)(n:Nat)(M M':Mem):Prop:=∃en',Rd M' r l o (a+n) en'/\A1c l (a+n) en'=(A1c l a en).drop n/\A1u r b M M'
def D5S(l:List ByteArray)(o:Own)(r a:Nat)(en:Bool)(n:Nat)(b:Option Nat)(P:List A0u)(M:Mem)(q:List A0u)(M1:Mem):Prop:=∃en1,Rd M1 r l o (a+2*q.length) en1/\A1c l (a+2*q.length) en1=(A1c l a en).drop (2*q.length)/\P=q++prs (9-n-q.length) (A1c l (a+2*q.length) en1)/\A1u r b M M1
section
variable (gl:Nat->AV)
def C2M(l:List ByteArray)(o:Own)(hl:l.length<=1000000000)(a4:∀s∈l,s.size<=maxLen)(r:Nat)(a:Nat)(en:Bool)(p:List A0u)(v0:AV)(M:Mem)(hr:Rd M r l o a en)(hv:A1z 159 2 A0u.row M v0 p)(hp:p.length<=9)(ae:obj v0≠some r):A0e (WC gl) 329 [.ptr r 0,v0] M (λv M'=>A1z 159 2 A0u.row M' v (p++prs (9-p.length) (A1c l a en))/\C2E l o r a en (obj v0) (2*(prs (9-p.length) (A1c l a en)).length) M M'/\(obj v=obj v0\/A1n M.length v)):=by
 obtain⟨P,hP⟩:∃P,P=prs (9-p.length) (A1c l a en):=⟨_,rfl⟩
 rw[<-hP]
 refine A0k (hQ [21]) func329 ?_
 simp -dsimp -implicitDefEqProofs
 refine A2o (hQ [21]) (λT M1=>∃(q:List A0u) (vq:AV),T 0=.ptr r 0/\T 1=vq/\A1z 159 2 A0u.row M1 vq (p++q)/\p.length+q.length<=9/\D5S l o r a en p.length (obj v0) P M q M1/\(obj vq=obj v0\/A1n M.length vq)/\obj vq≠some r) (λT M1=>10-lenV (T 1)) (by kernel_rfl) ?_ ?_
 .exact⟨[],v0,by simp,by simp,by simpa using hv,by simpa using hp,⟨en,by simpa using hr,by simp,by simpa using hP,.refl _ _ _⟩,.inl rfl,ae⟩
 rintro T M1 ⟨q,vq,t0,t1,h1,h2,⟨d,h3,h4,h5,h6⟩,h7,h8⟩
 have m:=h1.len (P:=prog) (t:=40) (e':=159) (by kernel_rfl)
 have a2:r<M1.length:=(Z0c.1 h3).1
 have ad:=h1.lenV
 rw[Z0z]at m ad
 by_cases c:p.length+q.length<9
 .have c':(p.length:Int)+q.length<9:=by omega
  simp -dsimp -implicitDefEqProofs[t0,t1,m,c'];refine A0j func219 (B7a gl M1) ?_;rintro _ M2 ⟨rfl,rfl⟩;simp -dsimp -implicitDefEqProofs[t0,t1];refine A0j func330 (C3d gl l o hl a4 A1a .full (by decide) r _ d M2 h3) ?_;rintro _ M3 ⟨rfl,hk,k⟩;have a0:=@C0T l kS C3L (a+2*q.length) d;rcases a0 with⟨s,t,w',e1,e2,e3,u,e4,e5⟩|⟨e1,e2⟩
  .have a8:A7e l (A2s A1a) (a+2*q.length) d=(some ⟨kS s,t⟩,a+2*q.length+2,u):=e4;rw[a8]at k|-;obtain⟨M4,w⟩:∃M4,M4=M3++[A0p.cells 159 [I (kS s),S t]]:=⟨_,rfl⟩;(have a5:M4[M3.length]?=some (A0p.cells 159 [I (kS s),S t]):=by rw[w];simp);have j:A0c (some r) M2 M4:=hk.trans (by rw[w];exact .app _ _ _);(have z:Rd M4 r l o (a+2*q.length+2) u:=by unfold Rd;rw[w,Z0j (by have:=(Z0c.1 k).1;exact this)];exact k);have y:A1z 159 2 A0u.row M4 vq (p++q):=h1.keep j (λf hf e=>h8 (by rw[hf];exact e.symm));simp -dsimp -implicitDefEqProofs[t0,t1,A0o,A0l,A0d,A0u.row];rw[<-w];simp -dsimp -implicitDefEqProofs[t0,t1,A0a a5,A0h,A0J];refine A3E (C:=WC gl) (enc:=A0u.row) (e:=159) (sz:=2) (news:=[⟨kS s,t⟩]) A7K B0S A7J (λ_=>rfl) y (by simp[A0B,A0u.row]) (by simp;omega) rfl ?_;intro v' M5 k1 k2 k3 _;have aa:Rd M5 r l o (a+2*q.length+2) u:=k2.get z h8;(have a7:P=(q++[⟨kS s,t⟩])++prs (9-p.length-(q.length+1)) w':=by rw[h5,e1,show 9-p.length-q.length=(9-p.length-(q.length+1))+1 from by omega,D0N ⟨e2,e3⟩,Z0O];rfl);(have a1:A1c l (a+2*(q.length+1)) u=w':=by rw[show a+2*(q.length+1)=a+2*q.length+2 from by omega];exact e5);(have hdr:w'=(A1c l a en).drop (2*(q.length+1)):=by rw[show 2*(q.length+1)=2*q.length+2 from by omega,<-Z1X,<-h4,e1];rfl);have a3:=k1.lenV;have af:M2.length<=M4.length:=j.1;simp -dsimp -implicitDefEqProofs[t0,t1];have a9:obj v'≠some r:=λe=>by
    rcases k3 with h|h
    .exact h8 (h▸e)
    .have:=h _ e;have:=af;omega
   have ab:obj v'=obj v0\/A1n M.length v':=by
    rcases k3 with h|h
    .rcases h7 with g|g
     .exact .inl (h.trans g)
     .exact .inr λf hf=>g f (h▸hf)
    .exact .inr λf hf=>by have:=h f hf;have:=h6.1;omega
   have a6:A1u r (obj v0) M M5:=by
    refine(h6.step (A1u.of_r (b:=none) j) (by simp)).step (A1u.of_b k2) λi hi a2=>?_;rcases h7 with g|g
    .rw[<-g];exact hi
    .have:=g i hi;omega
   refine⟨⟨q++[⟨kS s,t⟩],by simpa using k1,by simp;omega,⟨u,?_,?_,?_,a6⟩,ab,a9⟩,?_⟩
   .simpa[show a+2*(q.length+1)=a+2*q.length+2 from by omega]using aa
   .simp only[Z0z,Z0B,Z1t,Z0K];rw[a1,hdr]
   .simp only[Z0z,Z0B,Z1t,Z0K];rw[a1];exact a7
   .simp at a3;omega
  .have ac:A7e l (A2s A1a) (a+2*q.length) d=(none,a+2*q.length,d):=e2;rw[ac]at k|-;have a0:prs (9-p.length-q.length) (A1c l (a+2*q.length) d)=[]:=D1y e1;rw[a0,Z1f]at h5;subst h5;have j:A0c (some r) M2 (M3++[A0p.cells 159 [I 0,S ⟨#[]⟩]]):=hk.trans (.app _ _ _);(have z:Rd (M3++[A0p.cells 159 [I 0,S ⟨#[]⟩]]) r l o (a+2*P.length) d:=by unfold Rd;rw[Z0j (by have:=(Z0c.1 k).1;exact this)];exact k);have y:A1z 159 2 A0u.row (M3++[A0p.cells 159 [I 0,S ⟨#[]⟩]]) vq (p++P):=h1.keep j (λf hf e=>h8 (by rw[hf];exact e.symm));simp -dsimp -implicitDefEqProofs[t0,t1,A0o,A0l,A0d];exact⟨y,⟨d,z,h4,h6.step (A1u.of_r (b:=none) j) (by simp)⟩,h7⟩
 .have c':¬(p.length:Int)+q.length<9:=by omega
  have hz:prs (9-p.length-q.length) (A1c l (a+2*q.length) d)=[]:=by rw[show 9-p.length-q.length=0 from by omega];cases A1c l (a+2*q.length) d<;>simp[prs]
  rw[hz,Z1f]at h5;subst h5;simp -dsimp -implicitDefEqProofs[t0,t1,m,c'];exact⟨h1,⟨d,h3,h4,h6⟩,h7⟩
end
section
variable (gl:Nat->AV)
def C1I(l:List ByteArray)(o:Own)(hl:l.length<=1000000000)(q:∀s∈l,s.size<=maxLen)(r:Nat)(a:Nat)(en:Bool)(M:Mem)(hr:Rd M r l o a en):A0e (WC gl) 248 [.ptr r 0] M (λv M'=>A1z 159 2 A0u.row M' v (A2Q (A1c l a en))/\C2E l o r a en none (A0Y (A1c l a en)) M M'/\A1n M.length v):=by
 refine A0k (hQ [9]) func248 ?_
 simp -dsimp -implicitDefEqProofs
 refine A0j func251 (B2e gl l o hl q A2j r a en M hr) ?_
 rintro _ M1 ⟨rfl,rfl⟩
 have d:r<M.length:=(Z0c.1 hr).1
 rcases A8e (l:=l) (a:=a) (en:=en) A2X.2.2.2.2.2.1 with⟨w,e1,c,e2,e3⟩|⟨e1,e2⟩
 .rw[e2];have hb:bkN (A1c l a en)=1:=by rw[e1];simp[bkN]
  have m:bkS (A1c l a en)=[A3N]:=by simp[bkS,hb]
  have hdr:(A1c l a en).drop 1=w:=by rw[e1];rfl
  have p:=@A9s M r l o (a+1) c .gone d;have b:A0c (some r) M (M.set r (.cells 240 (A1r l o (a+1) c))):=.set _ _ _;generalize M.set r (.cells 240 (A1r l o (a+1) c))=M1 at*;simp -dsimp -implicitDefEqProofs[A0h,A0J];refine A3E (C:=WC gl) (enc:=A0u.row) (e:=159) (sz:=2) (l:=[]) (news:=[A3N]) A7K B0S A7J (λ_=>rfl) .nil (by simp[A0B,A0u.row,A3N]) (by simp) rfl ?_;intro v' M2 k1 k2 k3 _;have y:Rd M2 r l o (a+1) c:=k2.get p (by simp);have t:obj v'≠some r:=λe=>by
   rcases k3 with h|h
   .rw[h]at e;simp at e
   .have:=h _ e;have:=b.1;omega
  simp -dsimp -implicitDefEqProofs;refine A0j func329 (C2M gl l o hl q r (a+1) c [A3N] v' M2 y (by simpa using k1) (by simp) t) ?_;rintro v M3 ⟨q1,⟨en2,q2,q3,q4⟩,q5⟩;have k:A2Q (A1c l a en)=[A3N]++prs (9-[A3N].length) (A1c l (a+1) c):=by unfold A2Q;rw[m,hb,hdr,e3];rfl
  have j:A0Y (A1c l a en)=1+2*(prs (9-[A3N].length) (A1c l (a+1) c)).length:=by unfold A0Y;rw[hb,hdr,e3];rfl
  simp -dsimp -implicitDefEqProofs;rw[k,j];refine⟨q1,⟨en2,by rw[<-Z2o];exact q2,by rw[<-Z2o,q3,e3,e1,Z3E 1];rfl,?_⟩,?_⟩
  .refine((A1u.of_r b).step (A1u.of_b k2) (by simp)).step q4 λi hi d=>?_;rcases k3 with h|h
   .rw[h]at hi;simp at hi
   .have:=h i hi;have:=b.1;omega
  .intro f hf;have u:=b.1;have z:=k2.1;rcases q5 with g|g
   .rw[g]at hf;rcases k3 with h|h
    .rw[h]at hf;simp at hf
    .have:=h f hf;omega
   .have:=g f hf;omega
 .rw[e2];have hb:bkN (A1c l a en)=0:=by
   cases hs:A1c l a en with
   |nil=>rfl
   |cons s w=>simp only[bkN];rw[Z0e λe=>e1 w (by rw[hs,e])]
  have m:bkS (A1c l a en)=[]:=by simp[bkS,hb]
  have p:=@A9s M r l o a en .gone d;have b:A0c (some r) M (M.set r (.cells 240 (A1r l o a en))):=.set _ _ _;generalize M.set r (.cells 240 (A1r l o a en))=M1 at*;simp -dsimp -implicitDefEqProofs;refine A0j func329 (C2M gl l o hl q r a en [] _ M1 p .nil (by simp) (by simp)) ?_;rintro v M3 ⟨q1,⟨en2,q2,q3,q4⟩,q5⟩;have k:A2Q (A1c l a en)=[]++prs (9-([]:List A0u).length) (A1c l a en):=by unfold A2Q;rw[m,hb];rfl
  have j:A0Y (A1c l a en)=2*(prs (9-([]:List A0u).length) (A1c l a en)).length:=by unfold A0Y;rw[hb,Z0K];rfl
  simp -dsimp -implicitDefEqProofs;rw[k,j];refine⟨q1,⟨en2,q2,q3,(A1u.of_r b).step q4 (by simp)⟩,?_⟩;intro f hf;have u:=b.1;rcases q5 with g|g
  .rw[g]at hf;simp at hf
  .have:=g f hf;omega
end
def D3e(l:List ByteArray)(o:Own)(r:Nat)(M M':Mem):Prop:=(∃a en,Rd M' r l o a en)/\A1u r none M M'
def C7u(l:List ByteArray)(o:Own)(r a:Nat)(en:Bool)(M:Mem)(v:AV)(M':Mem):Prop:=(∃p n,A2x (A1c l a en)=some (p,n)/\A1z 159 2 A0u.row M' v p/\C2E l o r a en none n M M'/\A1n M.length v)\/(A2x (A1c l a en)=none/\v=.val (.slice none 0 0)/\D3e l o r M M')
section
variable (gl:Nat->AV)
@[simp] def D7Q{k}:A0Q prog 159 [(0,I k)]=some (.agg [I k,S ⟨#[]⟩]):=by simp[A0Q,A1G,A2e,A0d]
def B3n{k}{M}:A1v prog 40 1 [(0,.agg [I k,S ⟨#[]⟩])] M=some (.vref M.length 0 2 0 1,M++[.vec 159 2 [I k,S ⟨#[]⟩] 0 [(0,1)]]):=by simp[A1v,A0J,AV.storable,AV.cells]
def C0r(l:List ByteArray)(o:Own)(hl:l.length<=1000000000)(q:∀s∈l,s.size<=maxLen)(r:Nat)(a:Nat)(en:Bool)(M:Mem)(hr:Rd M r l o a en):A0e (WC gl) 252 [.ptr r 0] M (C7u l o r a en M):=by
 have k:r<M.length:=(Z0c.1 hr).1
 refine A0k (hQ [16]) func252 ?_
 simp -dsimp -implicitDefEqProofs
 refine A0j func219 (B7a gl M) ?_
 rintro _ M1 ⟨rfl,rfl⟩
 simp -dsimp -implicitDefEqProofs
 refine A0j func333 (C4R gl l o hl q A1a .full (by decide) r a en M1 hr) ?_
 rintro _ M2 ⟨rfl,rfl⟩
 rcases C9C (l:=l) (a:=a) (en:=en) C3L with⟨s,w,e1,e2,c,e3,e4⟩|⟨e1,e3⟩
 .have m:A3j l (λs=>decide (0<A2s A1a s)) a en=(some s,a+1,c):=e3;rw[m];have h:=@A9s M1 r l o (a+1) c .gone k;have e:A0c (some r) M1 (M1.set r (.cells 240 (A1r l o (a+1) c))):=.set _ _ _;generalize M1.set r (.cells 240 (A1r l o (a+1) c))=M2 at*;simp -dsimp -implicitDefEqProofs[B3n];obtain⟨M3,d⟩:∃M3,M3=M2++[.vec 159 2 [I (A2s A1a s),S ⟨#[]⟩] 0 [(0,1)]]:=⟨_,rfl⟩;rw[<-d];have hv:A1z 159 2 A0u.row M3 (.vref M2.length 0 2 0 1) [⟨kS s,⟨#[]⟩⟩]:=.inr ⟨M2.length,0,[(0,1)],rfl,by rw[d];simp[A0u.row,kS],rfl⟩;have t:A0c (some r) M2 M3:=by rw[d];exact .app _ _ _
  have p:r<M2.length:=(Z0c.1 h).1;have u:Rd M3 r l o (a+1) c:=by unfold Rd;rw[d,Z0j p];exact h
  have y:=e.1;clear d;refine A0j func329 (C2M gl l o hl q r (a+1) c [⟨kS s,⟨#[]⟩⟩] _ M3 u hv (by simp) (by simp;omega)) ?_;rintro v M4 ⟨q1,⟨en2,q2,q3,q4⟩,q5⟩;rw[e4]at q1 q2 q3;have j:A2x (A1c l a en)=some (⟨kS s,⟨#[]⟩⟩::prs 8 w,1+2*(prs 8 w).length):=by rw[e1];simp only[A2x];rw[Z0d e2]
  simp -dsimp -implicitDefEqProofs;refine .inl ⟨_,_,j,q1,⟨en2,by rw[<-Z2o];exact q2,by rw[<-Z2o];refine q3.trans ?_;rw[e1,Z3E 1];rfl,?_⟩,?_⟩
  .refine((A1u.of_r e).step (A1u.of_r (b:=none) t) (by simp)).step q4 λi hi k=>?_;simp at hi;omega
  .intro f hf;have:=t.1;rcases q5 with g|g
   .rw[g]at hf;simp at hf;omega
   .have:=g f hf;omega
 .have m:A3j l (λs=>decide (0<A2s A1a s)) a en=(none,a,en):=e3;rw[m];have h:=@A9s M1 r l o a en .gone k;have e:A0c (some r) M1 (M1.set r (.cells 240 (A1r l o a en))):=.set _ _ _;have j:A2x (A1c l a en)=none:=by
   cases hs:A1c l a en with
   |nil=>rfl
   |cons s w=>simp only[A2x];rw[Z0e (e1 s w hs)]
  simp -dsimp -implicitDefEqProofs;exact .inr ⟨j,rfl,⟨a,en,h⟩,.of_r e⟩
end
abbrev A0Z:AV:=.val (.slice none 0 0)
def D1d(l:List ByteArray)(o:Own)(r a:Nat)(en:Bool)(M:Mem)(v:AV)(M':Mem):Prop:=
 (∃s d vp,A3T ((A1c l a en).drop (A0Y (A1c l a en)))=some (s,d)/\v=.agg [I 1,vp,S d,I 0,I 0]/\A1z 159 2 A0u.row M' vp (A2Q (A1c l a en)++[s])/\A1n M.length vp/\C2E l o r a en none (A0Y (A1c l a en)+4) M M')\/
 (A3T ((A1c l a en).drop (A0Y (A1c l a en)))=none/\∃vp p,v=.agg [I 1,vp,S ⟨#[]⟩,I 0,I 0]/\A1z 159 2 A0u.row M' vp p/\A1n M.length vp/\p.length<=10/\D3e l o r M M')
structure D0n (l:List ByteArray) (o:Own) (r:Nat) (M:Mem) (c:Nat) (v1:AV) (p:List A0u) (a':Nat) (en':Bool) (Mi:Mem):Prop where
 rd:Rd Mi r l o a' en'
 res:Mi[M.length]?=some (.cells 110 [I 0,A0Z,S ⟨#[]⟩,I 0,I 0])
 cc:Mi[c]?=some (.cells 110 [I 1,v1,S ⟨#[]⟩,I 0,I 0])
 own:A1z 159 2 A0u.row Mi v1 p
 lat:∀f,obj v1=some f->M.length<f/\f<c
 kp:A1u r none M Mi
 lt:r<M.length/\M.length<c
def D0n.next{l}{o}{r}{M}{c}{v1}{p}{a' a2}{en' en2}{Mi Mj}(h:D0n l o r M c v1 p a' en' Mi)(k:A0c (some r) Mi Mj)(hr:Rd Mj r l o a2 en2):D0n l o r M c v1 p a2 en2 Mj:=by have a:=h.lt;exact⟨hr,k.get h.res (by simp;omega),k.get h.cc (by simp;omega),h.own.keep k λf hf e=>by have:=h.lat f hf;simp at e;omega,h.lat,h.kp.step (A1u.of_r (b:=none) k) (by simp),a⟩
def D0n.fail{l}{o}{r}{M}{c}{v1}{p}{a'}{en'}{Mi}(h:D0n l o r M c v1 p a' en' Mi){X}:A1z 159 2 A0u.row (Mi.set M.length (.cells 110 X)) v1 p/\A1n M.length v1/\D3e l o r M (Mi.set M.length (.cells 110 X)):=by
 have a:=h.lt
 refine⟨h.own.keep (.set _ _ _) λf hf e=>by have:=h.lat f hf;simp at e;omega,λf hf=>by have:=h.lat f hf;omega,⟨a',en',?_⟩,?_⟩
 .unfold Rd;rw[Z0g (by omega)];exact h.rd
 .refine⟨by simpa using h.kp.1,λi hi h1 h2=>?_⟩;rw[Z0g (by omega)];exact h.kp.2 i hi h1 h2
section
variable (gl:Nat->AV)
@[simp] def A8c{k}{v}{M}{p}(h:A1z 159 2 A0u.row M v p):A0Q prog 110 [(0,I k),(1,v)]=some (.agg [I k,v,S ⟨#[]⟩,I 0,I 0]):=by
 rcases h with⟨rfl,_⟩|⟨f,g,a,rfl,_⟩<;>simp[A0Q,A1G,A2e,A0d,AV.cells,AV.storable]
def D4Y(l:List ByteArray)(o:Own)(hl:l.length<=1000000000)(ae:∀s∈l,s.size<=maxLen)(r:Nat)(a:Nat)(en:Bool)(M:Mem)(hr:Rd M r l o a en):A0e (WC gl) 249 [.ptr r 0] M (D1d l o r a en M):=by
 have al:r<M.length:=(Z0c.1 hr).1
 refine A0k (hQ [27]) func249 ?_
 obtain⟨M0,a2⟩:∃M0,M0=M++[A0p.cells 110 [I 0,A0Z,S ⟨#[]⟩,I 0,I 0]]:=⟨_,rfl⟩
 have p:Rd M0 r l o a en:=by unfold Rd;rw[a2,Z0j al];exact hr
 have aq:M0[M.length]?=some (A0p.cells 110 [I 0,A0Z,S ⟨#[]⟩,I 0,I 0]):=by rw[a2];simp
 have b0:M0.length=M.length+1:=by rw[a2];simp
 have aw:A1u r none M M0:=by rw[a2];exact .of_r (.app _ _ _)
 simp -dsimp -implicitDefEqProofs[A0o]
 rw[<-a2]
 clear a2
 refine A0j func248 (C1I gl l o hl ae r a en M0 p) ?_
 rintro v1 M1 ⟨q1,⟨y,q2,q3,q4⟩,q5⟩
 obtain⟨w,hw⟩:∃w,w=A1c l a en:=⟨_,rfl⟩
 rw[<-hw]at q1 q2 q3
 have bc:=B9d w
 have bg:(A2Q w).length<=9:=by have:=A3J (9-bkN w) (w.drop (bkN w));have hb:=B5W w;unfold A2Q;rw[Z0z,B0s];omega
 obtain⟨c,hc⟩:∃c,c=M1.length:=⟨_,rfl⟩
 have b1:M.length<c:=by have:=q4.1;omega
 have b9:=q1.store
 have b6:=q1.cells
 have a6:D0n l o r M c v1 (A2Q w) (a+A0Y w) y (M1++[A0p.cells 110 [I 1,v1,S ⟨#[]⟩,I 0,I 0]]):=by
  have am:A0c (some r) M1 (M1++[A0p.cells 110 [I 1,v1,S ⟨#[]⟩,I 0,I 0]]):=.app _ _ _;refine⟨?_,?_,?_,q1.keep am ?_,?_,(aw.step q4 (by simp)).step (A1u.of_r (b:=none) am) (by simp),al,b1⟩
  .unfold Rd;rw[Z0j (by have:=q4.1;omega)];exact q2
  .rw[Z0j (by have:=q4.1;omega),q4.2 _ (by omega) (by omega) (by simp)];exact aq
  .rw[hc];simp
  .intro f hf e;have:=q5 f hf;simp at e;omega
  .intro f hf;have:=q5 f hf;have:=q1.lt hf;omega
 simp -dsimp -implicitDefEqProofs[A8c q1,A0o,A0l,A0d]
 rw[<-hc]
 clear b6 b9 q1 q2 q4 q5 p aq b0 aw
 generalize M1++[A0p.cells 110 [I 1,v1,S ⟨#[]⟩,I 0,I 0]]=M2 at*
 clear hc
 refine A0j func169 (C9h gl M2) ?_
 rintro _ M3 ⟨rfl,rfl⟩
 simp -dsimp -implicitDefEqProofs
 refine A0j func330 (C3d gl l o hl ae A2w .full (by decide) r _ y M3 a6.rd) ?_
 rintro _ M4 ⟨rfl,aj,a5⟩
 have ai:(∀s t r,A1c l (a+A0Y w) y=s::t::r->¬(0<kP s/\A0K t=true))->A3T (w.drop (A0Y w))=none:=λh=>by
  rw[<-q3];unfold A3T;split
  .rename_i s t c d r e;rw[Z0e λhh=>h s t _ e ⟨hh.1,hh.2.1⟩]
  .rfl
 rcases C0T (l:=l) (a:=a+A0Y w) (en:=y) D3g with⟨s,t,w',e1,e2,e3,z,e4,e5⟩|⟨e1,e2⟩
 .have b2:A7e l (A2s A2w) (a+A0Y w) y=(some ⟨kP s,t⟩,a+A0Y w+2,z):=e4;rw[b2]at a5|-;obtain⟨M5,m⟩:∃M5,M5=M4++[A0p.cells 159 [I (kP s),S t]]:=⟨_,rfl⟩;have ao:M5[M4.length]?=some (A0p.cells 159 [I (kP s),S t]):=by rw[m];simp
  have a4:Rd M5 r l o (a+A0Y w+2) z:=by unfold Rd;rw[m,Z0j (by have:=(Z0c.1 a5).1;exact this)];exact a5
  have k:=a6.next (aj.trans (by rw[m];exact .app _ _ _)) a4;have bb:c<M4.length:=by have:=(Z0c.1 a6.cc).1;have:=aj.1;omega
  simp -dsimp -implicitDefEqProofs[A0o,A0l,A0d,A0u.row];rw[<-m];generalize hx:M4.length=x at*;clear m;refine A0j func251 (B2e gl l o hl ae toW r _ z M5 a4) ?_;rintro _ M6 ⟨rfl,rfl⟩;have a0:r<M5.length:=(Z0c.1 a4).1;rcases A8e (l:=l) (a:=a+A0Y w+2) (en:=z) A2X.2.2.2.2.1 with⟨w2,g1,en2,g2,g3⟩|⟨g1,g2⟩
  .rw[g2];have bf:=k.lt;have af:=@A9s M5 r l o (a+A0Y w+2+1) en2 .gone a0;have j:=k.next (.set M5 r (.cells 240 (A1r l o (a+A0Y w+2+1) en2))) af;(have b4:(M5.set r (.cells 240 (A1r l o (a+A0Y w+2+1) en2)))[x]?=some (A0p.cells 159 [I (kP s),S t]):=by rw[Z0g (by omega)];exact ao);generalize M5.set r (.cells 240 (A1r l o (a+A0Y w+2+1) en2))=M6 at*;have bd:c<M6.length:=(Z0c.1 j.cc).1;simp -dsimp -implicitDefEqProofs[A0a j.cc,A0a b4,A0h,A0J];refine A3E (C:=WC gl) (enc:=A0u.row) (e:=159) (sz:=2) (news:=[⟨kP s,t⟩]) A7K B0S A7J (λ_=>rfl) j.own (by simp[A0B,A0u.row]) (by simp;omega) rfl ?_;intro v2 M7 k1 k2 k3 _;have q:=j.lat;have ab:∀f,obj v2=some f->M.length<f/\f≠c:=λf hf=>by
    rcases k3 with h|h
    .have:=q f (h▸hf);omega
    .have:=h f hf;omega
   (have an:M7[c]?=some (.cells 110 [I 1,v1,S ⟨#[]⟩,I 0,I 0]):=k2.get j.cc λe=>by have:=q c e;omega);have b8:Rd M7 r l o (a+A0Y w+2+1) en2:=k2.get j.rd λe=>by have:=q r e;omega
   (have b5:M7[M.length]?=some (.cells 110 [I 0,A0Z,S ⟨#[]⟩,I 0,I 0]):=k2.get j.res λe=>by have:=q _ e;omega);have ag:A1u r none M M7:=⟨Z0T j.kp.1 k2.1,λi hi h1 h2=>by rw[k2.2 i (by have:=j.kp.1;omega) λe=>by have:=q i e;omega];exact j.kp.2 i hi h1 h2⟩
   obtain⟨f2,ax,n2,rfl⟩:∃f g n,v2=.vref f g 2 0 n:=by
    rcases k1 with⟨rfl,hn⟩|⟨f,g,ba,rfl,_⟩
    .simp at hn
    .exact⟨f,g,_,rfl⟩
   generalize u:AV.vref f2 ax 2 0 n2=v2 at*;clear a6 k ao a4 af;rw[<-u];simp -dsimp -implicitDefEqProofs[A0f an,A0d];rw[u];(have ar:(M7.set c (.cells 110 [I 1,v2,S ⟨#[]⟩,I 0,I 0]))[c]?=some (.cells 110 [I 1,v2,S ⟨#[]⟩,I 0,I 0]):=by have:=(Z0c.1 an).1;simp[this]);(have au:Rd (M7.set c (.cells 110 [I 1,v2,S ⟨#[]⟩,I 0,I 0])) r l o (a+A0Y w+2+1) en2:=by unfold Rd;rw[Z0g (by omega)];exact b8);(have az:(M7.set c (.cells 110 [I 1,v2,S ⟨#[]⟩,I 0,I 0]))[M.length]?=some (.cells 110 [I 0,A0Z,S ⟨#[]⟩,I 0,I 0]):=by rw[Z0g (by omega)];exact b5);(have ay:A1z 159 2 A0u.row (M7.set c (.cells 110 [I 1,v2,S ⟨#[]⟩,I 0,I 0])) v2 (A2Q w++[⟨kP s,t⟩]):=k1.keep (.set _ _ _) λf hf e=>by have:=ab f hf;simp at e;omega);have ah:A1u r none M (M7.set c (.cells 110 [I 1,v2,S ⟨#[]⟩,I 0,I 0])):=⟨by simpa using ag.1,λi hi h1 h2=>by rw[Z0g (by omega)];exact ag.2 i hi h1 h2⟩;generalize M7.set c (.cells 110 [I 1,v2,S ⟨#[]⟩,I 0,I 0])=M8 at*;have ap:r<M8.length:=(Z0c.1 au).1;have ak:c<M8.length:=(Z0c.1 ar).1;refine A0j func331 (B4q gl l o hl ae A0K r 112 [] (B7H gl) _ en2 M8 au) ?_;rintro _ M9 ⟨rfl,rfl⟩;have ac:∀(to:ByteArray) (a3:Nat) (aa:Bool) (ad:Mem),ad=((M8.set r (.cells 240 (A1r l o a3 aa))).set c (.cells 110 [I 1,v2,S to,I 0,I 0])).set M.length (.cells 110 [I 1,v2,S to,I 0,I 0])->
    A1z 159 2 A0u.row ad v2 (A2Q w++[⟨kP s,t⟩])/\A1n M.length v2/\Rd ad r l o a3 aa/\A1u r none M ad:=λto a3 aa ad h=>by
    subst h
    refine⟨((ay.keep (.set _ _ _) λf hf e=>?_).keep (.set _ _ _) λf hf e=>?_).keep (.set _ _ _) λf hf e=>?_,λf hf=>by have:=ab f hf;omega,?_,⟨by simpa using ah.1,λi hi h1 h2=>?_⟩⟩
    .have:=ab f hf;simp at e;omega
    .have:=ab f hf;simp at e;omega
    .have:=ab f hf;simp at e;omega
    .unfold Rd;rw[Z0g (by omega),Z0g (by omega)];simp[ap]
    .rw[Z0g (by omega),Z0g (by omega),Z0g (by omega)];exact ah.2 i hi h1 h2
   (have a1:∀X,(M8.set r X)[c]?=some (.cells 110 [I 1,v2,S ⟨#[]⟩,I 0,I 0]):=λX=>by rw[Z0g (by omega)];exact ar);have a8:∀X Y,((M8.set r X).set c Y)[c]?=some Y:=λX Y=>by simp[ak]
   (have a9:∀X Y,((M8.set r X).set c Y)[M.length]?=some (.cells 110 [I 0,A0Z,S ⟨#[]⟩,I 0,I 0]):=λX Y=>by rw[Z0g (by omega),Z0g (by omega)];exact az);have be:∀X Y,M.length<((M8.set r X).set c Y).length:=λX Y=>by simp;omega
   (have a7:M.length<M8.length:=by omega);have p:w.drop (A0Y w)=s::t::toW::w2:=by rw[<-q3,e1,<-e5,g1]
   cases hw2:w2 with
   |nil=>rw[hw2]at g3 p;rw[B1G g3];rw[<-u]at a1|-;simp -dsimp -implicitDefEqProofs[A0f (a1 _),A0d];simp -dsimp -implicitDefEqProofs[A0a (a8 _ _),A0f (a9 _ _),A0d,A0C,a7,A0t];rw[u];obtain⟨z1,z2,z3,z4⟩:=ac _ _ _ _ rfl;exact .inr ⟨by rw[<-hw,p];rfl,v2,_,rfl,z1,z2,by simp;omega,⟨_,_,z3⟩,z4⟩
   |cons d w3=>
    rw[hw2]at g3 p;obtain⟨-,-,hd|hd⟩:=A9B B6x g3
    .obtain⟨d1,aa,d2,d3⟩:=hd;rw[d2];rw[<-u]at a1|-;simp -dsimp -implicitDefEqProofs[A0f (a1 _),A0d];simp -dsimp -implicitDefEqProofs[A0a (a8 _ _),A0f (a9 _ _),A0d,A0C,a7,A0t];rw[u];obtain⟨z1,z2,z3,z4⟩:=ac d _ _ _ rfl;refine .inl ⟨⟨kP s,t⟩,d,v2,?_,rfl,by rw[<-hw];exact z1,z2,aa,?_,?_,z4⟩
     .rw[<-hw,p];simp only[A3T];rw[Z0d ⟨e2,e3,by trivial,d1⟩]
     .rw[<-hw,show a+(A0Y w+4)=a+A0Y w+2+1+1 from by omega];exact z3
     .rw[<-hw,show a+(A0Y w+4)=a+A0Y w+2+1+1 from by omega,d3,<-Z1X,p];rfl
    .rw[hd.2];rw[<-u]at a1|-;simp -dsimp -implicitDefEqProofs[A0f (a1 _),A0d];simp -dsimp -implicitDefEqProofs[A0a (a8 _ _),A0f (a9 _ _),A0d,A0C,a7,A0t];rw[u];obtain⟨z1,z2,z3,z4⟩:=ac ⟨#[]⟩ _ _ _ rfl;exact .inr ⟨by rw[<-hw,p];simp only[A3T];rw[Z0e λhh=>by rw[hd.1]at hh;exact absurd hh.2.2.2 (by simp)],v2,_,rfl,z1,z2,by simp;omega,⟨_,_,z3⟩,z4⟩
  .rw[g2];have af:=@A9s M5 r l o (a+A0Y w+2) z .gone a0;have j:=k.next (.set M5 r (.cells 240 (A1r l o (a+A0Y w+2) z))) af;generalize M5.set r (.cells 240 (A1r l o (a+A0Y w+2) z))=M6 at*;have av:M.length<M6.length:=(Z0c.1 j.res).1;have b3:A3T (w.drop (A0Y w))=none:=by
    rw[<-q3,e1];unfold A3T;split
    .rename_i s' t' c' d' r' e;simp only[Z1g]at e;rw[Z0e λhh=>g1 (d'::r') (by rw[e5,e.2.2,hh.2.2.1])]
    .rfl
   simp -dsimp -implicitDefEqProofs[A0a j.cc,A0f j.res,A0d,A0C,av,A0t];obtain⟨z1,z2,z3⟩:=j.fail (X:=[I 1,v1,S ⟨#[]⟩,I 0,I 0]);exact .inr ⟨by rw[<-hw];exact b3,v1,_,rfl,z1,z2,by omega,z3⟩
 .have b7:A7e l (A2s A2w) (a+A0Y w) y=(none,a+A0Y w,y):=e2;rw[b7]at a5|-;obtain⟨M5,m⟩:∃M5,M5=M4++[A0p.cells 159 [I 0,S ⟨#[]⟩]]:=⟨_,rfl⟩;have a4:Rd M5 r l o (a+A0Y w) y:=by unfold Rd;rw[m,Z0j (by have:=(Z0c.1 a5).1;exact this)];exact a5
  have k:=a6.next (aj.trans (by rw[m];exact .app _ _ _)) a4;have a0:M.length<M5.length:=(Z0c.1 k.res).1;simp -dsimp -implicitDefEqProofs[A0o,A0l,A0d];rw[<-m];clear m;simp -dsimp -implicitDefEqProofs[A0a k.cc,A0f k.res,A0d,A0C,a0,A0t];obtain⟨z1,z2,z3⟩:=k.fail (X:=[I 1,v1,S ⟨#[]⟩,I 0,I 0]);exact .inr ⟨by rw[<-hw];exact ai e1,v1,_,rfl,z1,z2,by omega,z3⟩
end
def A8o(i:Nat)(l:List ByteArray)(o:Own)(r a:Nat)(en:Bool)(M:Mem)(v:AV)(M':Mem):Prop:=∃k p to vp a' en',v=.agg [I k,vp,S to,I 0,I 0]/\A1z 159 2 A0u.row M' vp p/\A1n M.length vp/\p.length<=10/\Rd M' r l o a' en'/\A1u r none M M'/\A1W i (A1c l a en)=if A2D k p to=true then some ((k,p,to),a'-a)else none
abbrev zC:A0p:=.cells 110 [I 0,A0Z,S ⟨#[]⟩,I 0,I 0]
structure A9X (l:List ByteArray) (o:Own) (r:Nat) (M:Mem) (a':Nat) (en':Bool) (Mi:Mem):Prop where
 rd:Rd Mi r l o a' en'
 res:Mi[M.length]?=some zC
 kp:A1u r none M Mi
 lt:r<M.length
def A9X.start{l}{o}{r}{M}{a}{en}(h:Rd M r l o a en):A9X l o r M a en (M++[zC]):=by have b:r<M.length:=(Z0c.1 h).1;exact⟨by unfold Rd;rw[Z0j b];exact h,by simp,.of_r (.app _ _ _),b⟩
def A9X.next{l}{o}{r}{M}{a' a2}{en' en2}{Mi Mj}(h:A9X l o r M a' en' Mi)(hr:Rd Mj r l o a2 en2)(k:A1u r none Mi Mj):A9X l o r M a2 en2 Mj:=by have a:=h.lt;have hl:=(Z0c.1 h.res).1;exact⟨hr,by rw[k.2 _ hl (by omega) (by simp)];exact h.res,h.kp.step k (by simp),a⟩
def A9X.set{l}{o}{r}{M}{a'}{en'}{Mi}(h:A9X l o r M a' en' Mi){a2}{en2}:A9X l o r M a2 en2 (Mi.set r (.cells 240 (A1r l o a2 en2))):=h.next (@A9s Mi r l o a2 en2 .gone (Z0c.1 h.rd).1) (.of_r (.set _ _ _))
def A9X.later{l}{o}{r}{M}{a'}{en'}{Mi}(h:A9X l o r M a' en' Mi){v}(hv:A1n Mi.length v):∀f,obj v=some f->M.length<f:=λf hf=>by have:=hv f hf;have:=(Z0c.1 h.res).1;omega
def A9X.fin{l}{o}{r}{M}{a'}{en'}{Mi}(h:A9X l o r M a' en' Mi){X}{v}{p}(ho:A1z 159 2 A0u.row Mi v p)(hv:∀f,obj v=some f->M.length<f):A1z 159 2 A0u.row (Mi.set M.length (.cells 110 X)) v p/\A1n M.length v/\Rd (Mi.set M.length (.cells 110 X)) r l o a' en'/\A1u r none M (Mi.set M.length (.cells 110 X)):=by
 have a:=h.lt
 refine⟨ho.keep (.set _ _ _) λf hf e=>by have:=hv f hf;simp at e;omega,λf hf=>by have:=hv f hf;omega,?_,⟨by simpa using h.kp.1,λi hi h1 h2=>?_⟩⟩
 .unfold Rd;rw[Z0g (by omega)];exact h.rd
 .rw[Z0g (by omega)];exact h.kp.2 i hi h1 h2
def A9X.len{l}{o}{r}{M}{a'}{en'}{Mi}(h:A9X l o r M a' en' Mi):M.length<Mi.length:=(Z0c.1 h.res).1
section
variable (gl:Nat->AV)
@[simp] def D0h{v}{M}{p}(h:A1z 159 2 A0u.row M v p):A0Q prog 110 [(1,v)]=some (.agg [I 0,v,S ⟨#[]⟩,I 0,I 0]):=by
 rcases h with⟨rfl,_⟩|⟨f,g,a,rfl,_⟩<;>simp[A0Q,A1G,A2e,A0d,AV.cells,AV.storable]
@[simp] def D8b{k}:A0Q prog 110 [(0,I k)]=some (.agg [I k,A0Z,S ⟨#[]⟩,I 0,I 0]):=by
 simp[A0Q,A1G,A2e,A0d,AV.cells,AV.storable]
def B7q(w:List ByteArray):(A2Q w).length<=9:=by have:=A3J (9-bkN w) (w.drop (bkN w));have hb:=B5W w;unfold A2Q;rw[Z0z,B0s];omega
def B9e{k}(hk:k=0\/k=4)(w:List ByteArray):A2J k w=if A2D k (A2Q w) ⟨#[]⟩=true then some ((k,A2Q w,⟨#[]⟩),A0Y w)else none:=by rw[C9z hk];unfold A2J;by_cases c:A0Y w=bkN w<;>simp[c]
def D2Z(l:List ByteArray)(o:Own)(hl:l.length<=1000000000)(e:∀s∈l,s.size<=maxLen)(r:Nat)(a:Nat)(en:Bool)(M:Mem)(hr:Rd M r l o a en):A0e (WC gl) 247 [.ptr r 0] M (A8o 0 l o r a en M):=by
 refine A0k hB func247 ?_
 have f0:=A9X.start hr
 simp -dsimp -implicitDefEqProofs[A0o]
 generalize M++[zC]=M0 at*
 refine A0j func248 (C1I gl l o hl e r a en M0 f0.rd) ?_
 rintro v M1 ⟨q1,⟨c,q2,q3,q4⟩,q5⟩
 have f1:=f0.next q2 q4
 have d:=f0.later q5
 have b:=f1.len
 have f:=B7q (A1c l a en)
 simp -dsimp -implicitDefEqProofs[D0h q1,A0f f1.res,A0d,A0C,b,A0t]
 obtain⟨z1,z2,z3,z4⟩:=f1.fin q1 d (X:=[I 0,v,S ⟨#[]⟩,I 0,I 0])
 exact⟨0,_,⟨#[]⟩,v,_,c,rfl,z1,z2,by omega,z3,z4,by rw[show A1W 0 (A1c l a en)=A2J 0 (A1c l a en)from rfl,B9e (.inl rfl),Z4f]⟩
def D2h(l:List ByteArray)(o:Own)(hl:l.length<=1000000000)(f:∀s∈l,s.size<=maxLen)(r:Nat)(a:Nat)(en:Bool)(M:Mem)(hr:Rd M r l o a en):A0e (WC gl) 249 [.ptr r 0] M (A8o 1 l o r a en M):=by
 refine(D4Y gl l o hl f r a en M hr).mono λv M' h=>?_
 have g:=B7q (A1c l a en)
 rcases h with⟨s,d,vp,h1,rfl,h3,h4,b,h5,h6,h7⟩|⟨h1,vp,p,rfl,h3,h4,h5,⟨a',e,h6⟩,h7⟩
 .refine⟨1,_,d,vp,_,b,rfl,h3,h4,by simp;omega,h5,h7,?_⟩;simp only[A1W,h1];rw[C8D h1,Z4f];by_cases c:(A2Q (A1c l a en)).length<=8<;>simp[c]
 .refine⟨1,p,⟨#[]⟩,vp,a',e,rfl,h3,h4,h5,h6,h7,?_⟩;simp only[A1W,h1,C1G,Z0E,Z0Y]
def A9P{i}{l}{o}{r}{M}{a a2}{en en2}{Mi}(k:Int)(h:A9X l o r M a2 en2 Mi)(hf:A1W i (A1c l a en)=none):A8o i l o r a en M (.agg [I k,A0Z,S ⟨#[]⟩,I 0,I 0]) (Mi.set M.length (.cells 110 [I k,A0Z,S ⟨#[]⟩,I 0,I 0])):=by
 obtain⟨z1,z2,z3,z4⟩:=h.fin (v:=A0Z) (p:=[]) A1z.nil (λf hf=>by simp at hf) (X:=[I k,A0Z,S ⟨#[]⟩,I 0,I 0])
 exact⟨k,[],⟨#[]⟩,A0Z,a2,en2,rfl,z1,z2,by simp,z3,z4,by rw[hf,C2P];rfl⟩
def D2S(l:List ByteArray)(o:Own)(hl:l.length<=1000000000)(d:∀s∈l,s.size<=maxLen)(r:Nat)(a:Nat)(en:Bool)(M:Mem)(hr:Rd M r l o a en):A0e (WC gl) 250 [.ptr r 0] M (A8o 2 l o r a en M):=by
 refine A0k hB func250 ?_
 have f0:=A9X.start hr
 simp -dsimp -implicitDefEqProofs[A0o]
 generalize M++[zC]=M0 at*
 refine A0j func251 (B2e gl l o hl d A3b r a en M0 f0.rd) ?_
 rintro _ M1 ⟨rfl,rfl⟩
 rcases A8e (l:=l) (a:=a) (en:=en) A2X.1 with⟨w,e1,c,e2,e3⟩|⟨e1,e2⟩
 .rw[e2];have f1:=f0.set (a2:=a+1) (en2:=c);generalize M0.set r (.cells 240 (A1r l o (a+1) c))=M1 at*;simp -dsimp -implicitDefEqProofs;refine A0j func252 (C0r gl l o hl d r (a+1) c M1 f1.rd) ?_;rintro v M2 h;have hf:A1W 2 (A1c l a en)=(A2x w).map λx=>((2,x.1,⟨#[]⟩),x.2+1):=by rw[e1];simp only[A1W,Z0G]
  rcases h with⟨p,n,h1,h2,⟨en2,h3,h4,h5⟩,h6⟩|⟨h1,rfl,⟨a2,en2,h3⟩,h4⟩
  .rw[e3]at h1;(have g:p.length<=9:=by have:=B4b (.inl rfl) (k:=2) h1;simp only[A2D,Z0f,Z0o]at this;exact this.1);have f2:=f1.next h3 h5;have f:=f1.later h6;have b:=f2.len;simp -dsimp -implicitDefEqProofs[A8c h2,A0f f2.res,A0d,A0C,b,A0t];obtain⟨z1,z2,z3,z4⟩:=f2.fin h2 f (X:=[I 2,v,S ⟨#[]⟩,I 0,I 0]);refine⟨2,p,⟨#[]⟩,v,_,en2,rfl,z1,z2,by omega,z3,z4,?_⟩;rw[hf,h1,B4b (.inl rfl) h1];simp only[Z0M,Z0G];congr 2;omega
  .rw[e3]at h1;have f2:=f1.next h3 h4;have b:=f2.len;simp -dsimp -implicitDefEqProofs[A8c (M:=M2) (p:=[]) A1z.nil,A0f f2.res,A0d,A0C,b,A0t];exact A9P 2 f2 (by rw[hf,h1];rfl)
 .rw[e2];have f1:=f0.set (a2:=a) (en2:=en);generalize M0.set r (.cells 240 (A1r l o a en))=M1 at*;have b:=f1.len;simp -dsimp -implicitDefEqProofs[A0f f1.res,A0d,A0C,b,A0t];refine A9P 2 f1 ?_;cases hs:A1c l a en with
  |nil=>rfl
  |cons s w=>simp only[A1W];rw[Z0e λe=>e1 w (by rw[hs,e])]
def D1e(l:List ByteArray)(o:Own)(hl:l.length<=1000000000)(f:∀s∈l,s.size<=maxLen)(r:Nat)(a:Nat)(en:Bool)(M:Mem)(hr:Rd M r l o a en):A0e (WC gl) 254 [.ptr r 0] M (A8o 4 l o r a en M):=by
 refine A0k hB func254 ?_
 have f0:=A9X.start hr
 simp -dsimp -implicitDefEqProofs[A0o]
 generalize M++[zC]=M0 at*
 refine A0j func251 (B2e gl l o hl f A6B r a en M0 f0.rd) ?_
 rintro _ M1 ⟨rfl,rfl⟩
 rcases A8e (l:=l) (a:=a) (en:=en) A2X.2.2.2.1 with⟨w,e1,d,e2,e3⟩|⟨e1,e2⟩
 .rw[e2];have f1:=f0.set (a2:=a+1) (en2:=d);generalize M0.set r (.cells 240 (A1r l o (a+1) d))=M1 at*;simp -dsimp -implicitDefEqProofs;refine A0j func248 (C1I gl l o hl f r (a+1) d M1 f1.rd) ?_;rintro v M2 ⟨q1,⟨h,q2,q3,q4⟩,q5⟩;rw[e3]at q1 q2;have f2:=f1.next q2 q4;have g:=f1.later q5;have b:=f2.len;have i:=B7q w;simp -dsimp -implicitDefEqProofs[A8c q1,A0f f2.res,A0d,A0C,b,A0t];obtain⟨z1,z2,z3,z4⟩:=f2.fin q1 g (X:=[I 4,v,S ⟨#[]⟩,I 0,I 0]);refine⟨4,_,⟨#[]⟩,v,_,h,rfl,z1,z2,by omega,z3,z4,?_⟩;have hf:A1W 4 (A1c l a en)=(A2J 4 w).map λx=>(x.1,x.2+1):=by rw[e1];simp only[A1W,Z0G]
  rw[hf,B9e (.inr rfl)];by_cases c:A2D 4 (A2Q w) ⟨#[]⟩=true
  .rw[Z0d c,Z0d c];simp only[Z0M];congr 2;omega
  .rw[Z0e c,Z0e c];rfl
 .rw[e2];have f1:=f0.set (a2:=a) (en2:=en);generalize M0.set r (.cells 240 (A1r l o a en))=M1 at*;have b:=f1.len;simp -dsimp -implicitDefEqProofs[A0f f1.res,A0d,A0C,b,A0t];refine A9P 4 f1 ?_;cases hs:A1c l a en with
  |nil=>rfl
  |cons s w=>simp only[A1W];rw[Z0e λe=>e1 w (by rw[hs,e])]
end
section
variable (gl:Nat->AV)
def D0X(l:List ByteArray)(o:Own)(hl:l.length<=1000000000)(d:∀s∈l,s.size<=maxLen)(r:Nat)(a:Nat)(en:Bool)(M:Mem)(hr:Rd M r l o a en):A0e (WC gl) 253 [.ptr r 0] M (A8o 3 l o r a en M):=by
 refine A0k hB func253 ?_
 have f0:=A9X.start hr
 simp -dsimp -implicitDefEqProofs[A0o]
 generalize M++[zC]=M0 at*
 refine A0j func251 (B2e gl l o hl d A5F r a en M0 f0.rd) ?_
 rintro _ M1 ⟨rfl,rfl⟩
 rcases A8e (l:=l) (a:=a) (en:=en) A2X.2.1 with⟨w,e1,c,e2,e3⟩|⟨e1,e2⟩
 .rw[e2];have f1:=f0.set (a2:=a+1) (en2:=c);generalize M0.set r (.cells 240 (A1r l o (a+1) c))=M1 at*;simp -dsimp -implicitDefEqProofs;refine A0j func251 (B2e gl l o hl d A7w r (a+1) c M1 f1.rd) ?_;rintro _ M2 ⟨rfl,rfl⟩;rcases A8e (l:=l) (a:=a+1) (en:=c) A2X.2.2.1 with⟨w2,g1,en2,g2,g3⟩|⟨g1,g2⟩
  .rw[g2];have f2:=f1.set (a2:=a+1+1) (en2:=en2);generalize M1.set r (.cells 240 (A1r l o (a+1+1) en2))=M2 at*;simp -dsimp -implicitDefEqProofs;refine A0j func252 (C0r gl l o hl d r (a+1+1) en2 M2 f2.rd) ?_;rintro v M3 h;(have hf:A1W 3 (A1c l a en)=(A2x w2).map λx=>((3,x.1,⟨#[]⟩),x.2+2):=by rw[e1,<-e3,g1];simp only[A1W,Z3M,Z0G]);rcases h with⟨p,n,h1,h2,⟨f,h3,h4,h5⟩,h6⟩|⟨h1,rfl,⟨a2,f,h3⟩,h4⟩
   .rw[g3]at h1;(have i:p.length<=9:=by have:=B4b (.inr rfl) (k:=3) h1;simp only[A2D,Z0f,Z0o]at this;exact this.1);have f3:=f2.next h3 h5;have g:=f2.later h6;have b:=f3.len;simp -dsimp -implicitDefEqProofs[A8c h2,A0f f3.res,A0d,A0C,b,A0t];obtain⟨z1,z2,z3,z4⟩:=f3.fin h2 g (X:=[I 3,v,S ⟨#[]⟩,I 0,I 0]);refine⟨3,p,⟨#[]⟩,v,_,f,rfl,z1,z2,by omega,z3,z4,?_⟩;rw[hf,h1,B4b (.inr rfl) h1];simp only[Z0M,Z0G];congr 2;omega
   .rw[g3]at h1;have f3:=f2.next h3 h4;have b:=f3.len;simp -dsimp -implicitDefEqProofs[A8c (M:=M3) (p:=[]) A1z.nil,A0f f3.res,A0d,A0C,b,A0t];exact A9P 3 f3 (by rw[hf,h1];rfl)
  .rw[g2];have f2:=f1.set (a2:=a+1) (en2:=c);generalize M1.set r (.cells 240 (A1r l o (a+1) c))=M2 at*;have b:=f2.len;simp -dsimp -implicitDefEqProofs[A0f f2.res,A0d,A0C,b,A0t];refine A9P 3 f2 ?_;rw[e1,<-e3];cases hs:A1c l (a+1) c with
   |nil=>rfl
   |cons s w=>simp only[A1W];rw[Z0e λe=>g1 w (by rw[hs,e.2])]
 .rw[e2];have f1:=f0.set (a2:=a) (en2:=en);generalize M0.set r (.cells 240 (A1r l o a en))=M1 at*;have b:=f1.len;simp -dsimp -implicitDefEqProofs[A0f f1.res,A0d,A0C,b,A0t];refine A9P 3 f1 ?_;cases hs:A1c l a en with
  |nil=>rfl
  |cons s w=>cases w<;>simp only[A1W];rw[Z0e λe=>e1 _ (by rw[hs,e.1])]
def B0a:List FuncId:=[247,249,250,253,254]
def D1k(M:Mem):A0e (WC gl) 199 [] M (λv M'=>v=.list 1 (B0a.map λg=>[.func (.func g) [] []]) .full/\M'=M):=by refine A0k hB func199 ?_;simp -dsimp -implicitDefEqProofs[A0h,A0J,B0a]
def D5H(i:Nat)(l:List ByteArray)(o:Own)(r a:Nat)(en:Bool)(M:Mem)(v:AV)(M':Mem):Prop:=∃k p to a' en',v=.agg [I k,.list 2 (A1f p) .no,S to,I 0,I 0]/\p.length<=10/\Rd M' r l o a' en'/\A1u r none M M'/\A1W i (A1c l a en)=if A2D k p to=true then some ((k,p,to),a'-a)else none
def A9I{f}{i}{l}{o}{r a}{en}{M}(h:A0e (WC gl) f [.ptr r 0] M (A8o i l o r a en M)):A0e (WC gl) f [.ptr r 0] M (D5H i l o r a en M):=by
 refine A0e.stillN (h.mono ?_);rintro v M' ⟨k,p,to,vp,a',c,rfl,h1,h2,h3,h4,h5,h6⟩;refine⟨M.length,.agg [I k,.list 2 (p.map A0u.row) .no,S to,I 0,I 0],?_,k,p,to,a',c,rfl,h3,?_,⟨by simpa using h5.1,λi hi hr hb=>?_⟩,h6⟩
 .refine .agg (.same trivial (Still.rows (λ_=>rfl) (λ_ _ _=>trivial) h1 h2 (.same trivial (.same trivial (.same trivial .nil))))) .nil
 .exact B3g h4 (by rintro _ _ _ _ _ e;exact absurd e (by simp))
 .have b:i<M'.length:=Z1w hi h5.1;rw[<-h5.2 i hi hr hb,Z0m b];exact B3g (Z0m b) λ_ _ _ _ _ _=>hi
def D4s(l:List ByteArray)(o:Own)(hl:l.length<=1000000000)(b:∀s∈l,s.size<=maxLen)(r:Nat)(a:Nat)(en:Bool)(M:Mem)(hr:Rd M r l o a en)(i:Nat)(hi:i<B0a.length):A5q (WC gl) B0a[i] [.ptr r 0] M (D5H i l o r a en M):=by
 match i,hi with
 |0,_=>exact A2B func247 rfl rfl (A9I gl (D2Z gl l o hl b r a en M hr))
 |1,_=>exact A2B func249 rfl rfl (A9I gl (D2h gl l o hl b r a en M hr))
 |2,_=>exact A2B func250 rfl rfl (A9I gl (D2S gl l o hl b r a en M hr))
 |3,_=>exact A2B func253 rfl rfl (A9I gl (D0X gl l o hl b r a en M hr))
 |4,_=>exact A2B func254 rfl rfl (A9I gl (D1e gl l o hl b r a en M hr))
end
section
variable (gl:Nat->AV) (M:Mem)
def D0P(s:A0u):A0e (WC gl) 218 [s.v] M (λv M'=>v=B (!A1b s)/\Grow M M'):=by refine A0k hB func218 ?_;simp -dsimp -implicitDefEqProofs[A0u.row];refine A0j func217 (C3M gl M s) ?_;rintro r M' ⟨rfl,a⟩;simp -dsimp -implicitDefEqProofs[a]
def C1O(p:List A0u)(o:Own)(c:p.length<=1000000):A0e (WC gl) 270 [.list 2 (A1f p) o,.func (.func 218) [] []] M (λv M'=>(∃r,v=I r/\decide (0<=r)=p.any (λs=>!A1b s))/\Grow M M'):=by
 refine A0k hB func270 ?_;simp -dsimp -implicitDefEqProofs;refine A0s hB p.length 8 (λT M1=>∃i:Nat,i<=p.length/\Grow M M1/\T 0=.list 2 (A1f p) o/\T 1=.func (.func 218) [] []/\T 7=I p.length/\T 8=I i/\(p.take i).all A1b=true) ?_ ?_
 .refine⟨0,?_⟩;simp -dsimp -implicitDefEqProofs[Grow.refl]
 .rintro T M1 ⟨i,h1,h2,h3,h4,h5,h6,h7⟩;by_cases hi:i<p.length
  ·(have a:(i:Int)<p.length:=by omega);have hw:IntKind.i64.wrap ((i:Int)+1)=(i+1:Nat):=by rw[A0H (by omega) (by omega)];omega
   simp -dsimp -implicitDefEqProofs[h3,h4,h5,h6,hi,a];refine A0j func218 (D0P gl M1 p[i]) ?_;rintro r M' ⟨rfl,b⟩;have hg:=h2.trans b;cases hb:A1b p[i]
   .simp -dsimp -implicitDefEqProofs[h3,h4,h5,h6];refine⟨?_,hg⟩;exact⟨p[i],Z0v hi,hb⟩
   .simp -dsimp -implicitDefEqProofs[h3,h4,h5,h6,hw,hg];refine⟨⟨i+1,?_⟩,?_⟩
    .have:=A9p hi h7 hb;simp only[Z0r]at this|-;exact⟨by clear hw;omega,by simp,this⟩
    .clear hw;omega
  ·(have a:¬(i:Int)<p.length:=by omega);rw[Z0l (by omega),Z0r]at h7
   simp -dsimp -implicitDefEqProofs[h3,h4,h5,h6,a];exact⟨h7,h2⟩
def B6E(p:List A0u)(o:Own)(a:p.length<=1000000):A0e (WC gl) 215 [.list 2 (A1f p) o,.func (.func 218) [] []] M (λv M'=>v=B (p.any (λs=>!A1b s))/\Grow M M'):=by refine A0k hB func215 ?_;simp -dsimp -implicitDefEqProofs;refine A0j func270 (C1O gl M p o a) ?_;rintro r M' ⟨⟨r,rfl,hr⟩,b⟩;simp -dsimp -implicitDefEqProofs[b,hr]
def C5z(p:List A0u)(o:Own)(b:p.length<=1000000):A0e (WC gl) 167 [.list 2 (A1f p) o] M (λv M'=>v=B (A5x p)/\Grow M M'):=by
 refine A0k hB func167 ?_;cases p with
 |nil=>simp -dsimp -implicitDefEqProofs[A1f,A5x,Grow.refl]
 |cons s p'=>
  simp only[Z0B]at b;have i0:¬(p'.length:Int)+1=0:=by omega
  have i1:(1:Int)<=(p'.length:Int)+1:=by omega
  have i2:(0:Int)<=(p'.length:Int):=by omega
  by_cases c1:s.lab=⟨#[]⟩;case neg=>simp -dsimp -implicitDefEqProofs[A1f,A0u.row,A5x,c1,i0,Grow.refl]
  by_cases c2:s.k<1
  ·(have:¬1<=s.k:=by omega);simp -dsimp -implicitDefEqProofs[A1f,A0u.row,A5x,c1,c2,this,i0,Grow.refl]
  by_cases c3:7<s.k
  ·(have h3:¬s.k<=7:=by omega);have a:s.k>7:=c3
   simp -dsimp -implicitDefEqProofs[A1f,A0u.row,A5x,c1,c2,c3,h3,a,i0,Grow.refl]
  have h2:1<=s.k:=by omega
  have h3:s.k<=7:=by omega
  have a:¬s.k>7:=c3;simp -dsimp -implicitDefEqProofs[A1f,A0u.row,A5x,c1,c2,c3,h2,h3,a,i0,i1,i2];refine A0j func215 (B6E gl M p' _ (by omega)) ?_;rintro r M' ⟨rfl,c⟩;simp -dsimp -implicitDefEqProofs[c,C2f];simp[A5x,c1,h2,h3]
end
section
variable (gl:Nat->AV)
def C9Z(k:Int)(p:List A0u)(o:Own)(to:ByteArray)(x y:Int)(M:Mem)(hp:p.length<=1000000):A0e (WC gl) 116 [.agg [I k,.list 2 (A1f p) o,S to,I x,I y]] M (λv M'=>v=B (A2D k p to)/\M'=M):=by
 refine A6Z (λ_=>trivial) ?_;refine A0k hB func116 ?_;by_cases c9:p.length<=9;case neg=>
  have i2:(9:Int)<p.length:=by omega
  simp -dsimp -implicitDefEqProofs[i2,A2D,c9,Grow.refl]
 have i1:¬(p.length:Int)>9:=by omega
 have i2:¬(9:Int)<p.length:=by omega
 by_cases ct:to=⟨#[]⟩<;>by_cases k1:k=1
 .have hm:A2D k p to=false:=by rw[ct,k1];exact C1G
  simp -dsimp -implicitDefEqProofs[i1,i2,ct,k1,C1G,Grow.refl]
 .by_cases k0:k=0
  ·(have hm:A2D k p to=A1U p:=by simp[A2D,k0,c9,ct]);rw[hm]
   simp -dsimp -implicitDefEqProofs[i1,i2,ct,k1,k0];refine A0j func166 (B4O gl M p o hp) ?_;rintro r M2 ⟨rfl,a⟩;simp -dsimp -implicitDefEqProofs[a]
  by_cases k4:k=4
  ·(have hm:A2D k p to=A1U p:=by simp[A2D,k4,c9,ct]);rw[hm]
   simp -dsimp -implicitDefEqProofs[i1,i2,ct,k1,k0,k4];refine A0j func166 (B4O gl M p o hp) ?_;rintro r M2 ⟨rfl,a⟩;simp -dsimp -implicitDefEqProofs[a]
  by_cases k2:k=2
  ·(have hm:A2D k p to=A5x p:=by simp[A2D,k2,c9,ct]);rw[hm]
   simp -dsimp -implicitDefEqProofs[i1,i2,ct,k1,k0,k4,k2];refine A0j func167 (C5z gl M p o hp) ?_;rintro r M2 ⟨rfl,a⟩;simp -dsimp -implicitDefEqProofs[a]
  by_cases k3:k=3
  ·(have hm:A2D k p to=A5x p:=by simp[A2D,k3,c9,ct]);rw[hm]
   simp -dsimp -implicitDefEqProofs[i1,i2,ct,k1,k0,k4,k2,k3];refine A0j func167 (C5z gl M p o hp) ?_;rintro r M2 ⟨rfl,a⟩;simp -dsimp -implicitDefEqProofs[a]
  have hm:A2D k p to=false:=by simp[A2D,k0,k1,k2,k3,k4]
  rw[hm];simp -dsimp -implicitDefEqProofs[i1,i2,ct,k1,k0,k4,k2,k3,Grow.refl]
 .have hm:A2D k p to=(A1U p&&A0K to&&decide (B4I p≠6)):=by simp[A2D,k1,c9,Bool.and_comm,Bool.and_assoc]
  rw[hm];simp -dsimp -implicitDefEqProofs[i1,i2,ct,k1];refine A0j func166 (B4O gl M p o hp) ?_;rintro r M2 ⟨rfl,a⟩;cases hpl:A1U p with
  |false=>simp -dsimp -implicitDefEqProofs[a]
  |true=>
   simp -dsimp -implicitDefEqProofs;refine A0j func112 (B1u gl M2 to) ?_;rintro r M3 ⟨rfl,b⟩;cases hlb:A0K to with
   |false=>simp -dsimp -implicitDefEqProofs[a.trans b]
   |true=>
    (have d:p≠[]:=λe=>by rw[e]at hpl;exact absurd hpl (by decide));have f:=Z2i.2 d
    (have hw:IntKind.i64.wrap ((p.length:Int)-1)=(p.length-1:Nat):=by rw[A0H (by omega) (by omega)];omega);have j1:((p.length-1:Nat):Int)<p.length:=by omega
    (have j2:p.length-1<p.length:=by omega);have c:B4I p=(p[p.length-1]).k:=by unfold B4I;rw[Z3Z,Z0m j2]
    simp -dsimp -implicitDefEqProofs[hw,j1,j2];refine⟨?_,a.trans b⟩;rw[c];by_cases h:p[p.length-1].k=6<;>simp[h]
 .have hm:A2D k p to=false:=by simp[A2D,ct,k1]
  simp -dsimp -implicitDefEqProofs[i1,i2,ct,k1,hm,Grow.refl]
end
end Go.Abs
