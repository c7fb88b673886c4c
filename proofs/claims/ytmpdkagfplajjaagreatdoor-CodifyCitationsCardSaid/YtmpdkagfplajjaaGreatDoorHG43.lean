/- The texts CgR, CgS, CgJ, CgL. -/
import Derived.Test.YtmpdkagfplajjaaGreatDoorHG28
import Derived.Test.YtmpdkagfplajjaaGreatDoorHG42
import Derived.Test.YtmpdkagfplajjaaGreatDoorHG35
import Derived.Test.YtmpdkagfplajjaaGreatDoorHG41
set_option linter.all false
set_option maxRecDepth 100000
namespace Go.Abs
open Go.Proofs TryTypes Tryz
def E4N{G G':A0o}{b:Nat}(h:G.le G'):(G.keepAt b none).le (G'.keepAt b none):=by
 refine⟨h.n,h.blk,h.st,λq o ho=>?_,h.top,h.hdr⟩;by_cases e:q=b
 .subst e;rw[A2X]at ho;exact absurd ho (by simp)
 .rw[A2f e]at ho|-;exact h.keep q o ho
def C4R{G:A0o}{b:Nat}:(G.keepAt b none).le G:=by
 refine⟨Z0n _,λ_ _=>rfl,λ_ _ _ h=>h,λq o ho=>?_,λ_ _=>Z0n _,λ_ _ _ _=>rfl⟩;by_cases e:q=b
 .subst e;rw[A2X]at ho;exact absurd ho (by simp)
 .rw[A2f e]at ho;exact ho
section
variable (gl:Nat->AV)
def D0l(a:List IdD)(o:Own)(M:Mem):A0e (WC gl) 260 [.list 3 (A1l a) o] M (λv M'=>v=.func (.func 336) [] [.cptr [.list 3 (A1l a) o]]/\M'=M):=by refine A0n hB func260 ?_;simp -dsimp
structure Btw (G0:A0o) (w0:World) (l:Nat) (ids:List IdD) (o:Own) (J:Nat->Mem->Prop) (k:Nat) (T:Env) (M:Mem) (G:A0o) (w:World) (a:Act):Prop where
 le:G0.le G
 ext:Ext w0 w
 inv:Inv (WC gl) G M w
 env:A1R G 19 T a
 t0:T 0=.val (.func (.yield l) #[] #[])
 t1:T 1=.cptr [.list 3 (A1l ids) o]
 t3:T 3=I ((k:Int)-1)
 j:J k M
def D4B(a:Act):Nat:=match a.tmps.getD 3 undef with
 |.int _ i=>(i+1).toNat
 |_=>0
def Btw.idx{G0:A0o}{w0:World}{l:Nat}{b:List IdD}{o:Own}{J:Nat->Mem->Prop}{k:Nat}{T:Env}{M:Mem}{G:A0o}{w:World}{a:Act}(h:Btw gl G0 w0 l b o J k T M G w a):D4B a=k:=by have:=h.env.at_ 3 (by omega);rw[h.t3]at this;simp only[Rep]at this;rw[D4B,this];simp only;omega
set_option maxHeartbeats 1000000 in
def C9A(c:List IdD)(o:Own)(bf:c.length<=100000000){l fn df:Nat}{tm:Array Value}{g m:Code}{T0:Env}{J:Nat->Mem->Prop}{Jx:Mem->Prop}
 (a9:∀k (h:k<c.length) M,J (k+1) M->A9n (some l) [] (WC gl) 42 g (A7v (A9n (some l) [] (WC gl) 42 m (B6j (J k) Jx)) (λ_ _ _=>False)) ((T0.put (some 13) (I k)).put (some 14) (.agg c[k].row)) M)
 {G:A0o}{M:Mem}{w:World}(ht:A1R G 42 T0 {tmps:=tm,defers:=[]})(hi:Inv (WC gl) G M w)(hl:G.keep l=some (.loop (B7B fn tm #[13,14] g m df .ready none)))(hJ:J c.length M){x:Value}(hx:Rep G (.cptr [.list 3 (A1l c) o]) x):
 CallsIn (A5d none) 0 prog 336 #[.func (.yield l) #[] #[],x] w (λe w'=>(∃v,e=.returned v)/\((∃M' G',J 0 M'/\G.le G'/\Inv (WC gl) G' M' w'/\Ext w w')\/(∃M' G',Jx M'/\(G.keepAt l none).le G'/\Inv (WC gl) G' M' w'/\Ext w w'/\G'.keep l=some (.loop (B7B fn tm #[13,14] g m df .done (some .ret)))))):=by
 refine callsIn_of_wp func336 rfl trivial ?_ rfl
 have ac:∀tmps w',(results f336 tmps).run prog w'=.ok (.tuple #[]) w':=λtmps w'=>by simp[A8G,f336]
 have he:A1R G 19 (Env.of [.val (.func (.yield l) #[] #[]),.cptr [.list 3 (A1l c) o]]) {tmps:=#[.func (.yield l) #[] #[],x]++Array.replicate 17 undef,defers:=[]}:=by have:=A1R.of (G:=G) (args:=[.val (.func (.yield l) #[] #[]),.cptr [.list 3 (A1l c) o]]) (vs:=[.func (.yield l) #[] #[],x]) 17 (by simp only[A0t,Rep];exact⟨_,_,rfl,rfl,_,_,rfl,by simpa only[Rep]using hx,rfl⟩);simpa using this
 have w1:IntKind.i64.wrap ((c.length:Int)-1)=c.length-1:=by rw[A0L (by omega) (by omega)]
 refine Z3E (Z2S (C0d (C:=WC gl) (r:=none) (Q:=λe T M'=>e=.normal/\M'=M/\T 0=.val (.func (.yield l) #[] #[])/\T 1=.cptr [.list 3 (A1l c) o]/\T 3=I ((c.length:Int)-1)) (A4O hB (by simp) rfl rfl ?_) hi he) ?_)
 .simp -dsimp[Env.of,w1]
 rintro e a1 bj ⟨T1,M1,G1,⟨rfl,rfl,t0,t1,t3⟩,l1,i1,e1,x1⟩
 refine Z4y (wpIn_loop (λa w'=>∃k T M' G',k<=c.length/\Btw gl G w l c o J k T M' G' w' a) (λa _=>D4B a) ⟨c.length,T1,M1,G1,Z0n _,l1,x1,i1,e1,t0,t1,t3,hJ⟩ ?_)
 clear t0 t1 t3 l1 i1 e1 x1
 rintro a2 w2 ⟨k,T2,M2,G2,hk,hb⟩
 have av:=hb.idx
 have b0:=hb.t0
 have b1:=hb.t1
 have b3:=hb.t3
 refine Z3E (Z2S (C0d (C:=WC gl) (r:=none) (Q:=λe T M'=>M'=M2/\T 0=.val (.func (.yield l) #[] #[])/\T 1=.cptr [.list 3 (A1l c) o]/\T 3=I ((k:Int)-1)/\((e=.normal/\0<k)\/(e=.exit 0/\k=0))) (B2v (A4O hB (by intro T M h;simp[A7v]at h) rfl rfl ?_)) hb.inv hb.env) ?_)
 .by_cases h0:k=0
  .subst h0;simp -dsimp[b0,b1,b3];refine B0b (b:=false) rfl (by simp) ?_;exact D1V (by simp[b0,b1,b3])
  ·(have bc:(k:Int)-1>=0:=by omega);simp -dsimp[b0,b1,b3,bc]
   refine B0b (b:=true) rfl (by simp;omega) ?_;exact B6g (by simp[b0,b1,b3];omega)
 rintro e a3 w3 ⟨T3,M3,G3,⟨rfl,t0,t1,t3,s⟩,a5,aa,af,z⟩
 rcases s with⟨rfl,bg⟩|⟨rfl,rfl⟩
 case inr=>exact⟨af.defers,_,ac _ _,⟨_,rfl⟩,.inl ⟨M3,G3,hb.j,hb.le.trans a5,aa,hb.ext.trans z⟩⟩
 obtain⟨k,rfl⟩:∃k',k=k'+1:=⟨k-1,by omega⟩
 have b5:((k+1:Nat):Int)-1=(k:Int):=by omega
 rw[b5]at t3
 have ah:k<c.length:=by omega
 have an:(k:Int)<c.length:=by omega
 obtain⟨y,hy⟩:=ex (c[k])
 have be:(A1l c)[k]?=some [I y.act,I y.item,I y.n]:=by simp[A1l,ah,<-hy,IdD.row]
 have bi:∀(A B:List Oper),A++B=A++B:=λ_ _=>rfl
 refine Z3E (Z4y (Z3E (wpIn_region_list ?_)))
 refine(?_:wpListIn (A5d none) 0 (WC gl).P _ _ ([_,_,_,_,_,_]++[_,_]) _ _)
 refine B4O (C:=WC gl) (N:=19) (h:=hB) (K:=λT M'=>M'=M3/\T 0=.val (.func (.yield l) #[] #[])/\T 1=.cptr [.list 3 (A1l c) o]/\T 3=I (k:Int)/\T 11=.val (.func (.yield l) #[] #[])/\T 12=I (k:Int)/\T 16=.agg y.row) ?_ _ G3 w3 G3 T3 M3 w3 a3 rfl rfl (A6n _ _ _ ?_) (.refl _) (.refl _) aa af ?_
 .intro a w h;simp[Exit.then,Exit.inBlock,bodyPost]at h
 .show C5H (WC gl) hB _ _ _ _ _ ⟨⟩;simp -dsimp[t0,t1,t3,ah,an,be];rw[hy];rfl
 clear t0 t1 t3
 rintro G4 w4 a4 T4 M4 ⟨rfl,t0,t1,t3,ba,b7,b4⟩ a8 ae aq p
 have b6:G4.keep l=some (.loop (B7B fn tm #[13,14] g m df .ready none)):=a8.keep _ _ (a5.keep _ _ (hb.le.keep _ _ hl))
 have ag:=p.at_ 11 (by omega)
 have au:=p.at_ 12 (by omega)
 have ap:=p.at_ 16 (by omega)
 rw[ba]at ag
 rw[b7]at au
 rw[b4]at ap
 simp only[Rep]at ag
 have ar:=a9 k ah M4 hb.j
 rw[<-hy]at ar
 have b2:=(((ht.mono (hb.le.trans (a5.trans a8))).put (d:=some 13) au).put (d:=some 14) ap)
 obtain⟨az,b9⟩:=D5k (C:=WC gl) (vs:=#[a4.tmps.getD 12 undef,a4.tmps.getD 16 undef]) aq b6 rfl (by simp[Act.put]) b2 ar
 rw[wpListIn]
 refine Eq.mpr (Z0e (by first|rfl|simp[Region.wanted])) ?_
 refine D3F (f:=.tmp 11) (args:=[.tmp 12,.tmp 16]) rfl ag rfl (by simpa[Act.eval]using az) b9 ?_
 have bh:a4.tmps.size=19:=p.size
 intro e w5 hR
 obtain⟨b,rfl,M5,G5,u,q,i,s⟩:∃b:Bool,e=.returned (.bool b)/\∃M5 G5,(G4.keepAt l none).le G5/\Inv (WC gl) G5 M5 w5/\Ext w4 w5/\((b=true/\J k M5/\G4.le G5)\/(b=false/\Jx M5/\G5.keep l=some (.loop (B7B fn tm #[13,14] g m df .done (some .ret))))):=by
  rcases hR with⟨rfl,M5,G5,hj,u,q,i⟩|⟨rfl,M5,G5,hj,u,q,i,ai⟩
  .exact⟨true,rfl,M5,G5,C4R.trans u,q,i,.inl ⟨rfl,hj,u⟩⟩
  .exact⟨false,rfl,M5,G5,u,q,i,.inr ⟨rfl,hj,ai⟩⟩
 refine⟨_,rfl,?_⟩
 have aw:=((p.kp (b:=l) (k:=none)).mono u).put (d:=some 17) (v:=.val (.bool b)) (x:=.bool b) (by simp[Rep])
 refine(?_:wpListIn (A5d none) 0 (WC gl).P _ _ ([_]++[]) _ _)
 refine B4O (C:=WC gl) (N:=19) (h:=hB) (K:=λT M'=>M'=M5/\T 0=.val (.func (.yield l) #[] #[])/\T 1=.cptr [.list 3 (A1l c) o]/\T 3=I (k:Int)/\T 18=B (!b)) ?_ _ G5 w5 G5 _ M5 w5 _ rfl rfl (A6n _ _ _ ?_) (.refl _) (.refl _) q aw ?_
 .intro a w h;simp[Exit.then,Exit.inBlock,bodyPost]at h
 .show C5H (WC gl) hB _ _ _ _ _ ⟨⟩;cases b<;>simp -dsimp[t0,t1,t3]
 rintro G6 w6 a6 T6 M6 ⟨rfl,u0,u1,u3,b8⟩ ak ad ab a0
 have aj:=a0.at_ 18 (by omega)
 rw[b8]at aj
 simp only[Rep]at aj
 show(Code.cond (.tmp 18) .ret .skip).wpIn _ _ _ _ _ _
 refine wpIn_cond (t:=!b) aj ?_
 rcases s with⟨rfl,hj,ao⟩|⟨rfl,hj,bb⟩
 .show Code.skip.wpIn _ _ _ _ _ _;refine wpIn_skip ?_;show(Code.region 2 _ false).wpIn _ _ _ _ _ _;have w2:IntKind.i64.wrap ((k:Int)-1)=(k:Int)-1:=by rw[A0L (by omega) (by omega)]
  refine Z2S (C0d (C:=WC gl) (r:=none) (Q:=λe T M'=>e=.normal/\M'=M6/\T 0=.val (.func (.yield l) #[] #[])/\T 1=.cptr [.list 3 (A1l c) o]/\T 3=I ((k:Int)-1)) (A4O hB (by simp) rfl rfl ?_) ab a0) ?_
  .simp -dsimp[u0,u1,u3,w2]
  rintro e a7 w7 ⟨T7,M7,G7,⟨rfl,rfl,s0,s1,s3⟩,bd,al,ay,am⟩;have ax:Btw gl G w l c o J k T7 M7 G7 w7 a7:=⟨hb.le.trans (a5.trans (a8.trans (ao.trans (ak.trans bd)))),hb.ext.trans (z.trans (ae.trans (i.trans (ad.trans am)))),al,ay,s0,s1,s3,hj⟩;exact⟨⟨k,T7,M7,G7,by omega,ax⟩,by rw[ax.idx,av];omega⟩
 .show Code.ret.wpIn _ _ _ _ _ _;refine wpIn_ret ?_;exact⟨a0.defers,_,ac _ _,⟨_,rfl⟩,.inr ⟨M6,G6,hj,(E4N (hb.le.trans (a5.trans a8))).trans (u.trans ak),ab,hb.ext.trans (z.trans (ae.trans (i.trans ad))),ak.keep _ _ bb⟩⟩
end
def C4Q(w:World)(o:Obj){k:Nat}(h:k<w.heap.size):(w.alloc o).heap[k]?=w.heap[k]?:=by show(w.heap.push o)[k]?=_;rw[Array.getElem?_push];simp;omega
def C1G{w:World}{o:Obj}:Ext w (w.alloc o):=⟨rfl,rfl,rfl,by simp⟩
def D2J{u:A0a}{k:Int}{z:IdD}{l:List IdD}:A8w u k (z::l)=match A0E z u with
 |some y=>if y.kind=k then some y else A8w u k l
 |none=>A8w u k l:=by rw[A8w];rfl
section
variable (gl:Nat->AV)
def D5K{c:List IdD}{o:Own}{T2:Env}{M2:Mem}{G2:A0o}{w2:World}{a2:Act}{a m:Code}{J:Nat->Mem->Prop}{Jx:Mem->Prop}{Q:Exit->Act->World->Prop}(ab:c.length<=100000000)
 (a3:Inv (WC gl) G2 M2 w2)(d:A1R G2 42 T2 a2)(aj:T2 12=.func (.func 336) [] [.cptr [.list 3 (A1l c) o]])(hJ:J c.length M2)
 (z:∀l k (h:k<c.length) M,J (k+1) M->A9n (some l) [] (WC gl) 42 a (A7v (A9n (some l) [] (WC gl) 42 m (B6j (J k) Jx)) (λ_ _ _=>False)) ((T2.put (some 13) (I k)).put (some 14) (.agg c[k].row)) M)
 (a7:∀D G M w,J 0 M->G2.le G->Inv (WC gl) G M w->Ext w2 w->G.keep D=some (.deferred (some []))->G2.keep D=none->Q .normal (shA [⟨.collected D,#[]⟩] a2) w)
 (a8:∀D G M w,Jx M->G2.le G->Inv (WC gl) G M w->Ext w2 w->G.keep D=some (.deferred (some []))->G2.keep D=none->Q .ret (shA [⟨.collected D,#[]⟩] a2) w):
 (Code.rangeFunc (.tmp 12) #[13,14] a m).wpIn (A5d none) 0 prog Q a2 w2:=by
 refine wpIn_rangeFunc ?_
 intro fn _
 have a6:=d.at_ 12 (by omega)
 rw[aj]at a6
 simp only[Rep,A0t]at a6
 obtain⟨fs,cs,af,ao,x,ys,aq,hx,ai⟩:=a6
 have ad:fs=#[]:=by apply Z1E;simpa using ao
 have ae:cs=#[x]:=by apply Z1E;rw[aq,ai]
 subst ad ae
 have am:a2.eval (.tmp 12)=.func (.func 336) #[] #[x]:=af
 obtain⟨D,hD⟩:=ex (w2.heap.size)
 obtain⟨f,r⟩:=ex (B7B fn a2.tmps #[13,14] a m D:LoopState->Option Code->Loop)
 obtain⟨Wd,n⟩:=ex (w2.alloc (.deferred (some [])))
 obtain⟨W1,u⟩:=ex (Wd.alloc (.loop (f .ready none)))
 have ah:Wd.heap.size=D+1:=by rw[n,World.size_alloc,hD]
 have an:Wd.heap[D]?=some (.deferred (some [])):=by rw[n,hD];exact World.alloc_heap_new _ _
 have al:W1.heap[D+1]?=some (.loop (f .ready none)):=by rw[u,<-ah];exact World.alloc_heap_new _ _
 have a9:G2.keep D=none:=by
  cases h:G2.keep D with
  |none=>rfl
  |some q=>have:=A3z (a3.keep D q h);omega
 have i1:Inv (WC gl) (G2.keepAt D (some (.deferred (some [])))) M2 Wd:=a3.turn D (λx hx=>by have:=A3z hx;omega) (λk _ hk=>by rw[n];exact C4Q _ _ hk) _ (λx hx=>by cases hx;exact an)
 obtain⟨Ga,a5⟩:=ex (G2.keepAt D (some (.deferred (some []))))
 rw[<-a5]at i1
 have ac:Ga.keep D=some (.deferred (some [])):=by rw[a5];exact A2X
 have p:Ga.keep (D+1)=none:=by
  cases h:Ga.keep (D+1)with
  |none=>rfl
  |some q=>have:=A3z (i1.keep _ q h);omega
 have y:G2.le Ga:=by rw[a5];exact C1P λx hx=>by rw[a9]at hx;exact absurd hx (by simp)
 have i2:Inv (WC gl) (Ga.keepAt (D+1) (some (.loop (f .ready none)))) M2 W1:=i1.turn (D+1) (λx hx=>by have:=A3z hx;omega) (λk _ hk=>by rw[u];exact C4Q _ _ hk) _ (λx hx=>by cases hx;exact al)
 obtain⟨Gb,j⟩:=ex (Ga.keepAt (D+1) (some (.loop (f .ready none))))
 rw[<-j]at i2
 have a4:Gb.keep (D+1)=some (.loop (f .ready none)):=by rw[j];exact A2X
 have a1:Gb.keep D=some (.deferred (some [])):=by rw[j,A2f (by omega)];exact ac
 have ag:Ga.le Gb:=by rw[j];exact C1P λx hx=>by rw[p]at hx;exact absurd hx (by simp)
 have a0:Ext w2 W1:=by rw[u,n];exact C1G.trans C1G
 have ar:({a2 with defers:=[⟨.collected D,#[]⟩]++a2.defers}:Act)=shA [⟨.collected D,#[]⟩] a2:=by simp[shA,d.defers]
 have aa:∀args w,(callFunc 336 args).run prog w=.ok (.enter 336 args) w:=A9R func336 rfl rfl
 refine⟨D+1,[⟨.collected D,#[]⟩],W1,⟨.fn (.func 336) #[x],#[.func (.yield (D+1)) #[] #[]]⟩,W1,336,#[.func (.yield (D+1)) #[] #[]]++#[x],W1,?_,?_,λ_ _=>trivial,?_,λe=>by simp[A5d,Fence.wide]at e,?_⟩
 .rw[u,n,r,hD];exact run_enterLoop_outer _ _ _ _ _
 .simp only[resolve,am];simp[go_sem]
 .simp[invoke,go_sem,aa]
 rw[ar]
 have s:=λk h M hj=>z (D+1) k h M hj
 refine CallsIn.mono (C9A gl c o ab (T0:=T2) s (fn:=fn) (df:=D) (tm:=a2.tmps) (G:=Gb) (M:=M2) ⟨rfl,d.size,λi hi=>Rep.mono (y.trans ag) _ _ (d.at_ i hi)⟩ i2 (by rw[a4,r]) hJ (Rep.mono (y.trans ag) _ _ (show Rep G2 (.cptr [.list 3 (A1l c) o]) x from by simpa only[Rep]using hx))) ?_
 rintro e w3 ⟨⟨v,rfl⟩,(⟨M3,G4,hj,g,b,t⟩|⟨M3,G4,hj,g,b,t,ak⟩)⟩
 .have ap:=g.keep _ _ a4;have hw:=b.keep _ _ ap;rw[r]at hw;refine⟨none,_,run_endLoop hw (by simp[B7B]),?_⟩;refine a7 D (G4.keepAt (D+1) none) M3 _ hj ?_ (b.turn (D+1) (λx hx=>by rw[hw]at hx;cases hx;trivial) (λk hk _=>World.putObj_heap_other hk) none (λx hx=>by cases hx)) (a0.trans (t.trans B4u)) ?_ a9
  .refine y.trans (A6X (k:=some (.loop (f .ready none))) (by rw[<-j];exact g) λx hx=>?_);rw[p]at hx;exact absurd hx (by simp)
  .rw[A2f (by omega)];exact g.keep _ _ a1
 .have hw:=b.keep _ _ ak;refine⟨some .ret,_,run_endLoop hw (by simp[B7B]),wpIn_ret ?_⟩;refine a8 D (G4.keepAt (D+1) none) M3 _ hj ?_ (b.turn (D+1) (λx hx=>by rw[hw]at hx;cases hx;trivial) (λk hk _=>World.putObj_heap_other hk) none (λx hx=>by cases hx)) (a0.trans (t.trans B4u)) ?_ a9
  .refine y.trans (A6X (k:=none) (G:=Ga) ?_ λx hx=>?_)
   .refine A0o.le.trans ?_ g;rw[j];refine⟨Z0n _,λ_ _=>rfl,λ_ _ _ h=>h,λq o ho=>?_,λ_ _=>Z0n _,λ_ _ _ _=>rfl⟩;by_cases e:q=D+1
    .subst e;rw[A2X]at ho;exact absurd ho (by simp)
    .rw[A2f e]at ho|-;rw[A2f e];exact ho
   .rw[p]at hx;exact absurd hx (by simp)
  .rw[A2f (by omega)];refine g.keep _ _ ?_;rw[A2f (by omega)];exact a1
set_option maxHeartbeats 4000000 in
def C9n(u:A0a)(at_:IdD)(a:List IdD)(o:Own)(c:A1e)(s:A0w)(r:List A0w)(M:Mem)(hf:Fit u)(hn:(A0R u).Nodup)(hs:a.length<=100000000)(hc:c.path.length<=9)(hp:c.path=s::r):A0e (WC gl) 203 [.agg (A6J u at_ a o),.agg c.row] M (λv M'=>v=B4c (C7U u a c.path)/\M'=M):=by
 refine A0e.dataX ?_
 have ap:=u.row_eq
 have bu:c.row=[I c.k,.list 2 (A0T c.path) .no,S c.to,I c.frm,I c.at_]:=rfl
 have br:A0T (s::r)=[I s.k,S s.lab]::A0T r:=rfl
 have bt:r.length<=1000:=by rw[hp]at hc;simp at hc;omega
 have bp:C7U u a c.path=match A8w u s.k a.reverse with|none=>([],7)|some y=>A5T y r:=by rw[hp];rfl
 rw[bp]
 unfold A6J
 rw[ap,bu,hp,br]
 intro G w vs hi b8
 have bh:=b8.length
 obtain⟨p,au⟩:=ex (M.length)
 obtain⟨M1,a7⟩:=ex (M++[A0m.cells 85 [A0G],A0m.cells 31 [I 0]])
 have b6:Grow M M1:=by rw[a7];exact A0c.app none _ _
 have be:M1[p]?=some (A0m.cells 85 [A0G]):=by rw[a7,au];simp
 have aq:M1[p+1]?=some (A0m.cells 31 [I 0]):=by rw[a7,au];simp[Z0W]
 obtain⟨sc,q⟩:=ex ([I u.id.act,I u.id.item,I u.id.n,I u.kind,S u.label,.list 4 (A0g u.head) .no,.list 4 (A0g u.words) .no,.list 8 (A0p u.kids) .no,I at_.act,I at_.item,I at_.n,.list 3 (A1l a) o]:List AV)
 obtain⟨cc,ac⟩:=ex ([I c.k,.list 2 ([I s.k,S s.lab]::A0T r) .no,S c.to,I c.frm,I c.at_]:List AV)
 obtain⟨X,hX⟩:∃X:C1a,X=(match A8w u s.k a.reverse with|none=>([],7)|some y=>A5T y r):=⟨_,rfl⟩
 rw[<-hX]
 obtain⟨Rp,b7⟩:∃Rp:Ending->World->Prop,Rp=λe w'=>∃r M' G' v,e=.returned v/\(Grow M M'/\Still M' M.length (bdd M.length) [r] [B4c X])/\G.le G'/\Inv (WC gl) G' M' w'/\Rep G' r v/\Ext w w':=⟨_,rfl⟩
 suffices h:Calls prog 203 vs.toArray w Rp by rw[b7]at h;exact h
 refine(callsIn_wide (n:=0)).1 (callsIn_of_wp_marks func203 rfl trivial ?_ rfl)
 have he:A1R G 42 (Env.of [.agg sc,.agg cc]) {tmps:=vs.toArray++Array.replicate (f203.ntmps-vs.toArray.size) undef,defers:=[]}:=by have:=A1R.of (G:=G) (args:=[.agg sc,.agg cc]) (vs:=vs) 40 (by rw[q,ac];exact b8);rw[bh]at this;simpa[bh]using this
 refine Z3E (Z2S (C0d (C:=WC gl) (r:=none) (Q:=λe T M'=>e=.normal/\M'=M1/\T 2=.cptr sc/\T 3=.cptr cc/\T 4=.ptr p 0/\T 5=.ptr (p+1) 0) (A4O hB (by simp) rfl rfl ?_) hi he) ?_)
 .simp -dsimp[Env.of,A0k];rw[a7,au];simp
 rintro e a1 w1 ⟨T1,bg,G1,⟨rfl,rfl,t2,t3,t4,t5⟩,al,bb,ba,af⟩
 refine Z3E (Z3E (Z2S (C0d (C:=WC gl) (r:=none) (Q:=λe T M'=>e=.normal/\M'=bg/\T 2=.cptr sc/\T 3=.cptr cc/\T 4=.ptr p 0/\T 5=.ptr (p+1) 0/\T 12=.func (.func 336) [] [.cptr [.list 3 (A1l a) o]]) (A4O hB (by simp) rfl rfl ?_) bb ba) ?_))
 .simp -dsimp[t2,t3,t4,t5,q];refine A0h func260 (D0l gl a o bg) ?_;simp -dsimp[t2,t3,t4,t5,q]
 clear t2 t3 t4 t5
 rintro e a2 w2 ⟨T2,M2,G2,⟨rfl,rfl,t2,t3,t4,t5,bs⟩,av,b4,a3,ad⟩
 have fin:∀(D:Nat) (G5:A0o) (M5:Mem) (w5:World) (a5:Act) (T5:Env) (vv:AV),G.le G5->Inv (WC gl) G5 M5 w5->A1R G5 42 T5 a5->Ext w w5->G5.keep D=some (.deferred (some []))->G.keep D=none->T5 4=.ptr p 0->T5 5=.ptr (p+1) 0->Grow M M5->M5[p]?=some (A0m.cells 85 [vv])->M5[p+1]?=some (A0m.cells 31 [I X.2])->(vv=.list 3 (A1l X.1) .no\/(vv=A0G/\X.1=[]))->
  LeavesInM (A5d none) 0 prog f203 (shA [⟨.collected D,#[]⟩] a5).tmps Rp (shA [⟨.collected D,#[]⟩] a5).defers .returning w5:=by
  intro D G5 M5 w5 a5 T5 vv j g b0 i t m h4 h5 bv hv hw bk
  have b1:A1n prog 85 [vv]=some vv:=by rcases bk with rfl|⟨rfl,_⟩<;>simp[A0j]
  have aw:A1n prog 31 [I X.2]=some (I X.2):=by simp[A0j]
  have bc:A3P (WC gl) [.cell 4 85,.cell 5 31] T5 M5=some (.tuple [vv,I X.2]):=by simp[A3P,A6L,C6V,A3k,h4,h5,hv,hw,b1,aw]
  refine C9K (C:=WC gl) (rs:=[.cell 4 85,.cell 5 31]) rfl (N:=42) rfl g b0 t bc ?_
  intro v w' bn b9 ak
  rw[b7]
  refine⟨_,M5,_,v,rfl,⟨bv,?_⟩,A6X (k:=none) (C4R.trans j) (λx hx=>by rw[m]at hx;exact absurd hx (by simp)),bn,b9,i.trans ak⟩
  rcases bk with rfl|⟨rfl,h0⟩
  .exact .same (by simp only[bdd,A1I,Z1D];exact B4J (f:=IdD.row) (λx=>B2c _ x) X.1) .nil
  .unfold B4c;rw[h0];exact .tuple (.nilS (.same trivial .nil)) .nil
 have b2:∀D,G2.keep D=none->G.keep D=none:=λD h=>by
  cases hh:G.keep D with
  |none=>rfl
  |some o=>rw[(al.trans av).keep D o hh]at h;exact absurd h (by simp)
 have bw:p+1<M2.length:=(Z0a.1 aq).1
 refine Z4y (D5K gl (J:=λk M'=>Grow M2 M'/\A8w u s.k a.reverse=A8w u s.k (a.take k).reverse) (Jx:=λM'=>∃y,A8w u s.k a.reverse=some y/\Grow M M'/\M'[p]?=some (A0m.cells 85 [.list 3 (A1l (A5T y r).1) .no])/\M'[p+1]?=some (A0m.cells 31 [I (A5T y r).2])) hs b4 a3 bs ⟨Grow.refl _,by rw[Z0g (Z0n _)]⟩ ?_ ?_ ?_)
 .rintro l k hk Mi ⟨am,d⟩;obtain⟨z,hz⟩:=ex (a[k]);have ar:z.row=[I z.act,I z.item,I z.n]:=rfl;rw[Z0A hk,List.reverse_append,List.reverse_singleton,Z4v,<-hz,D2J]at d;rw[<-hz,ar];have aa:=am.get be (by simp);have a9:=am.get aq (by simp);obtain⟨M3,an⟩:=ex (Mi++[A0m.cells 23 [I z.act,I z.item,I z.n]]);have ao:Grow Mi M3:=by rw[an];exact A0c.app none _ _
  have h3:M3[Mi.length]?=some (A0m.cells 23 [I z.act,I z.item,I z.n]):=by rw[an];simp
  have a8:=A7p gl u z M3 hf;rw[ap,ar]at a8;obtain⟨fr,bf⟩:=ex (A0E z u);rw[<-bf]at a8 d;obtain⟨c0,c1,c2,c3,c4,c5,c6,c7,a4⟩:∃c0 c1 c2 c3 c4 c5 c6 c7,A1z fr=[c0,c1,c2,c3,c4,c5,c6,c7]:=by
   cases fr with
   |none=>exact⟨_,_,_,_,_,_,_,_,rfl⟩
   |some y=>exact⟨_,_,_,_,_,_,_,_,y.row_eq⟩
  rw[a4]at a8;obtain⟨M4,ai⟩:=ex (M3++[A0m.cells 27 [c0,c1,c2,c3,c4,c5,c6,c7]]);have ab:Grow M3 M4:=by rw[ai];exact A0c.app none _ _
  have h4:M4[M3.length]?=some (A0m.cells 27 [c0,c1,c2,c3,c4,c5,c6,c7]):=by rw[ai];simp
  have bo:=ab.get h3 (by simp);have ag:=(ao.trans ab).get aa (by simp);have ae:=(ao.trans ab).get a9 (by simp);refine A4O hB (by intro T M h;exact h) rfl rfl ?_;simp -dsimp[Env.put_some,A0k,A0i,A0d,A0y,A0v];rw[<-an];refine C8r (B2v (A4O hB (by intro T M h;simp[A7v,A5l,B6j]at h) rfl rfl ?_));simp -dsimp[Env.put_some,t2,t3,t4,t5,q,A0b h3];refine A0h func32 a8 ?_;simp -dsimp[Env.put_some,t2,t3,t4,t5,A0k,A0i,A0d,A0y,A0v];rw[<-ai];refine B2v (B8z hB (A0u gl) (λk=>if k=3 then 1 else 0) M3.length (by intro T M h;simp[A7v,A5l,B6j]at h) rfl rfl (by kernel_rfl) ?_);have ah:Grow M2 M4:=am.trans (ao.trans ab);cases fr with
  |none=>simp -dsimp[t2,t3,t4,t5];refine B0b (b:=false) rfl (by simp) ?_;exact B6g ⟨ah,d⟩
  |some y=>
  have d:A8w u s.k a.reverse=if y.kind=s.k then some y else A8w u s.k (a.take k).reverse:=d;simp only[A1z]at a4;rw[y.row_eq]at a4;simp only[Z1a,Z1D]at a4;obtain⟨rfl,rfl,rfl,rfl,rfl,rfl,rfl,rfl⟩:=a4;have az:p<M4.length:=(Z0a.1 ag).1;have bd:p+1<M4.length:=(Z0a.1 ae).1;by_cases hky:y.kind=s.k
  .rw[Z0e hky]at d;simp -dsimp[t2,t3,t4,t5,ac,A0b h4,A0F,A2Y,hky];refine B0b (b:=true) rfl (by simp) ?_;refine B2v (B8z hB (A0u gl) (λk=>if k=2 then 1 else if k=9\/k=10 then 2 else 0) Mi.length (by intro T M h;simp[A7v,A5l,B6j]at h) rfl rfl (by kernel_rfl) ?_);(have bq:(1:Int)<=r.length+1:=by omega);simp -dsimp[t2,t3,t4,t5,q,ac,A0b bo,A0F,A2Y,bq];have ay:=λM o=>C0C gl u y z r o M hf bf.symm bt;rw[ap,ar]at ay;refine A1p func259 (λM=>ay M _) ?_;(have a0:(M4.set p (.cells 85 [.list 3 (A1l (A5T y r).1) .no]))[p+1]?=some (A0m.cells 31 [I 0]):=by rw[Z0c (by omega)];exact ae);simp -dsimp[t2,t3,t4,t5,A0f ag,A0f a0,AV.storable,AV.cells];refine C6z ⟨y,d,A0V (A0V (b6.trans ah) (by omega)) (by omega),?_,?_⟩
   .rw[Z0c (by omega)];simp[az]
   .simp[bd]
  .rw[Z0d hky]at d;simp -dsimp[t2,t3,t4,t5,ac,A0b h4,A0F,A2Y,hky];refine B0b (b:=false) rfl (by simp[hky]) ?_;exact B6g ⟨ah,d⟩
 .rintro D G5 M5 w5 ⟨hg,hl⟩ j g i t m;have aj:A8w u s.k a.reverse=none:=by rw[hl];rfl
  rw[aj]at hX;have aa:=hg.get be (by simp);have a9:=hg.get aq (by simp);have b3:=(Z0a.1 aa).1;have bj:=(Z0a.1 a9).1;show(Code.seq (.region 6 _ false) .ret).wpIn _ _ _ _ _ _;refine Z2S ((B2v (A4O hB (by intro T M h;simp[A7v]at h) rfl rfl ?_):A9n none [⟨.collected D,#[]⟩] (WC gl) 42 _ (λe T M'=>e=.ret/\T 4=.ptr p 0/\T 5=.ptr (p+1) 0/\Grow M M'/\M'[p]?=some (A0m.cells 85 [A0G])/\M'[p+1]?=some (A0m.cells 31 [I 7])) T2 M5) G5 w5 a2 g (a3.mono j)) ?_
  ·(have a0:(M5.set p (.cells 85 [A0G]))[p+1]?=some (A0m.cells 31 [I 0]):=by rw[Z0c (by omega)];exact a9);simp -dsimp[t2,t3,t4,t5,A0f aa,A0f a0,AV.storable,AV.cells]
   refine C6z ⟨rfl,t4,t5,?_,?_,?_⟩
   .exact A0V (A0V (b6.trans hg) (by omega)) (by omega)
   .rw[Z0c (by omega)];simp[b3]
   .simp[bj]
  rintro e _ w6 ⟨a6,rfl,T6,M6,G6,⟨rfl,s4,s5,sg,s1,s2⟩,bm,ax,bi,b5⟩;exact fin D G6 M6 w6 a6 T6 A0G (al.trans (av.trans (j.trans bm))) ax bi (af.trans (ad.trans (i.trans b5))) (bm.keep _ _ t) (b2 D m) s4 s5 sg s1 (by rw[hX];exact s2) (.inr ⟨rfl,by rw[hX]⟩)
 .rintro D G5 M5 w5 ⟨y,hy,hg,hv,hw⟩ j g i t m;rw[hy]at hX;exact fin D G5 M5 w5 a2 T2 _ (al.trans (av.trans j)) g (a3.mono j) (af.trans (ad.trans i)) t (b2 D m) t4 t5 hg hv (by rw[hX];exact hw) (.inl (by rw[hX]))
end
def D5e{a b:List AV}{rows:List (List AV)}{o:Own}(ha:a.length=8)(hb:b.length=3):A0x prog 202 [(0,.agg a),(1,.agg b),(2,.list 3 rows o)]=some (.agg (a++b++[.list 3 rows o])):=by
 match a,ha,b,hb with
 |[a0,a1,a2,a3,a4,a5,a6,a7],_,[b0,b1,b2],_=>simp[A0x,A1b,A1o,A0d,AV.cells,AV.storable]
def D2y{k:Int}{p:List A0w}{tb:ByteArray}(h:A2M k p tb=true):p.length<=9/\((k=0/\A1X p=true)\/(k=1/\A1X p=true)\/((k=2\/k=3)/\∃s r,p=s::r)\/k=4):=by
 unfold A2M at h;rw[Z0f,Z0k]at h;obtain⟨h9,h⟩:=h;refine⟨h9,?_⟩;split at h
 .rename_i hk;rw[Z0f]at h;rcases hk with rfl|rfl
  .exact .inl ⟨rfl,h.2⟩
  .exact .inr (.inr (.inr rfl))
 .split at h
  .rename_i hk;subst hk;simp only[Z0f]at h;exact .inr (.inl ⟨rfl,h.1.2⟩)
  .split at h
   .rename_i hk;rw[Z0f]at h;cases p with
    |nil=>simp[A5f]at h
    |cons s r=>exact .inr (.inr (.inl ⟨hk,s,r,rfl⟩))
   .exact absurd h (by simp)
def C5W{α β:Type}{e sz c:Nat}{enc:α->List AV}{a:β->List AV}{M:Mem}{v w:AV}{l:List α}{r:List β}(h1:A1g e sz enc M v l)(h2:A5r c a M w r):∀f,A4Y w=some f->obj v≠some f:=by
 intro f hf hv;rcases h1 with⟨rfl,_⟩|⟨g,_,_,rfl,hm,_⟩
 .simp at hv
 .rcases h2 with⟨rfl,_⟩|rfl|⟨f',rfl,b⟩
  .simp at hf
  .simp at hf
  .simp only[B9H,Z0b]at hf;simp only[C7V,Z0b]at hv;subst hf hv;rw[hm]at b;simp at b
def D8N{a:IdD}{n:Int}{rows:List (List AV)}{o:Own}:A0x prog 90 [(0,.agg [I a.act,I a.item,I a.n]),(1,I n),(2,.list 3 rows o)]=some (.agg [I a.act,I a.item,I a.n,I n,.list 3 rows o]):=by simp[A0x,A1b,A1o,A0d,AV.cells,AV.storable]
def D4M(l:List A0a):(A9m l).1.length<=1:=by
 match l with
 |[]=>simp[A9m]
 |[x]=>simp[A9m]
 |x::y::r=>simp[A9m]
def C1s(x:A0a)(p:List A0w):(A5T x p).1.length<=1:=by rcases C0e p x with⟨y,h⟩|h<;>rw[h]<;>simp
def D7Y{u:A0a}(hf:Fit u)(at_:IdD)(g:List IdD)(c:A1e):(B4Y u at_ g c).1.length<=1000:=by
 unfold B4Y;split
 .have:=D4M (A4t u c.path);omega
 split
 .unfold B0n;split
  .simp
  .split
   .simp
   .rename_i x _ q hq;split
    .simp
    .split
     .simp
     .have h1:=(A7V u hf q (D0O hq)).2.2;have h2:=A1Z q.kids;(have h3:A0A q.kids<A0r q:=by obtain⟨a,b,c,d,e,f⟩:=q;rw[A0r];show A0A f<_;omega);simp only[D0Q,Z0G];refine Z0R (Z1V _ _) ?_;rw[Z0D,Z1c];omega
  .simp
 split
 .unfold C5D;split
  .simp
  .split
   .simp
   .exact Z0R (C1s _ _) (by decide)
 split
 .unfold C7U;split
  .simp
  .split
   .simp
   .exact Z0R (C1s _ _) (by decide)
 split<;>simp
def hRW:A2u:=⟨λ_=>true,λd=>d==53,λd=>[26,50].contains d⟩
@[simp] def E7m:hRW.imm=λ_=>true:=(rfl)
@[simp] def E6s:hRW.own=λd=>d==53:=(rfl)
@[simp] def E5L:hRW.vec=λd=>[26,50].contains d:=(rfl)
def D5N(n:Nat)(m:A1v):A1I n m.row:=by simp only[A1v.row,A1I,Z1D];exact⟨trivial,trivial,trivial,trivial,A6G (λx=>by simp[IdD.row,A1I,bdd]) _⟩
section
variable (gl:Nat->AV)
set_option maxHeartbeats 2000000 in
def C4t(u:A0a)(at_:IdD)(a:List IdD)(o:Own)(c:A1e)(M:Mem)(hf:Fit u)(hn:(A0R u).Nodup)(hs:a.length<=100000000)(hc:A2M c.k c.path c.to=true):A0e (WC gl) 99 [.agg u.row,.agg at_.row,.agg c.row,.list 3 (A1l a) o] M (λv M'=>v=B4c (B4Y u at_ a c)/\M'=M):=by
 refine A0e.dataX ?_
 obtain⟨h9,hk⟩:=D2y hc
 have j:c.row=[I c.k,.list 2 (A0T c.path) .no,S c.to,I c.frm,I c.at_]:=rfl
 have f:at_.row=[I at_.act,I at_.item,I at_.n]:=rfl
 obtain⟨b,hb⟩:=ex (M.length)
 obtain⟨M1,e⟩:=ex (M++[A0m.map mnE 5])
 have p:Grow M M1:=by rw[e];exact A0c.app none _ _
 have m:M1[b]?=some (.map mnE 5):=by rw[e,hb];simp
 have h:=A1a (C:=WC gl) func148 rfl rfl (C8Z gl M)
 rw[<-e,<-hb]at h
 have d:=C1H gl c.k c.path .no c.to c.frm c.at_ M1 (by omega)
 rw[hc]at d
 have q:A6J u at_ a o=[I u.id.act,I u.id.item,I u.id.n,I u.kind,S u.label,.list 4 (A0g u.head) .no,.list 4 (A0g u.words) .no,.list 8 (A0p u.kids) .no]++[I at_.act,I at_.item,I at_.n]++[.list 3 (A1l a) o]:=by rw[A6J,u.row_eq,f]
 have l:A0x prog 202 [(0,.agg [I u.id.act,I u.id.item,I u.id.n,I u.kind,S u.label,.list 4 (A0g u.head) .no,.list 4 (A0g u.words) .no,.list 8 (A0p u.kids) .no]),(1,.agg [I at_.act,I at_.item,I at_.n]),(2,.list 3 (A1l a) o)]=some (.agg (A6J u at_ a o)):=by rw[q];exact D5e rfl rfl
 have key:∀(g:FuncId) (i:Nat) (R:C1a),A2Q prog 3 (I c.k) mnE=some (some (i,fnV g))->(∀M,A4r (WC gl) g [.agg (A6J u at_ a o),.agg c.row] M (λv M'=>v=B4c R/\M'=M))->B4Y u at_ a c=R->
  A0e (WC gl) 99 [.agg u.row,.agg at_.row,.agg c.row,.list 3 (A1l a) o] M (λv M'=>Grow M M'/\Still M' M.length (bdd M.length) [v] [B4c (B4Y u at_ a c)]):=by
  intro g i R h1 h2 h3
  rw[h3]
  have h2:=h2 M1
  rw[j]at h2
  rw[u.row_eq,f,j]
  refine A0n hB func99 ?_
  simp -dsimp
  refine A0Z hB (A0u gl) (λk=>if k=0 then 2 else if k=3 then 1 else 0) (λ_=>b) (by rfl) (by kernel_rfl) ?_
  simp -dsimp
  refine A4S h ?_
  simp -dsimp[A0F,D7M (i:=i) (v:=fnV g) m h1]
  refine A0h func116 d ?_
  simp -dsimp[l]
  refine A1W h2 ?_
  rintro _ _ ⟨rfl,rfl⟩
  simp -dsimp
  exact⟨p,B9k _⟩
 rcases hk with⟨k0,hp⟩|⟨k1,hp⟩|⟨k2|k3,s,r,hp⟩|k4
 .refine key 200 0 (A9m (A4t u c.path)) (by rw[k0];kernel_rfl) (λM=>A1a func200 rfl rfl (C6F gl u at_ a o c M hf hn h9 hp)) (by rw[B4Y,Z0e k0])
 .refine key 201 1 (B0n u c.path c.to) (by rw[k1];kernel_rfl) (λM=>A1a func201 rfl rfl (C0W gl u at_ a o c M hf hn h9 hp)) (by rw[B4Y,Z0d (by omega),Z0e k1])
 .refine key 202 2 (C5D u at_ c.path) (by rw[k2];kernel_rfl) (λM=>A1a func202 rfl rfl (D0k gl u at_ a o c s r M hf hn h9 hp)) (by rw[B4Y,Z0d (by omega),Z0d (by omega),Z0e k2])
 .refine key 203 3 (C7U u a c.path) (by rw[k3];kernel_rfl) (λM=>A1a func203 rfl rfl (C9n gl u at_ a o c s r M hf hn hs h9 hp)) (by rw[B4Y,Z0d (by omega),Z0d (by omega),Z0d (by omega),Z0e k3])
 .refine key 204 4 ([],11) (by rw[k4];kernel_rfl) (λM=>A1a func204 rfl rfl (C3k gl u at_ a o c M)) (by rw[B4Y,Z0d (by omega),Z0d (by omega),Z0d (by omega),Z0d (by omega),Z0e k4])
set_option maxHeartbeats 4000000 in
def D0b(u:A0a)(at_:IdD)(ws:List A0Q)(M:Mem)(hf:Fit u)(hn:(A0R u).Nodup)(hw:ws.length<=300)(an:∀w∈ws,w.text.size<=maxLen):A0e (WC gl) 41 [.agg u.row,.agg at_.row,.list 4 (A0g ws) .no] M (λv M'=>v=.list 5 (A2e (B5m u at_ (A2d (A0z ws) 0) [] 0)) .no/\M'=M):=by
 refine A0e.dataX ?_
 obtain⟨xs,a0⟩:=ex (A0z ws)
 have az:xs.length<=300:=by rw[a0];simpa[A0z]using hw
 have aj:∀t∈xs,t.size<=maxLen:=by rw[a0];intro t h;obtain⟨w,hw,rfl⟩:=Z0C.1 h;exact an w hw
 have ap:at_.row=[I at_.act,I at_.item,I at_.n]:=rfl
 have a3:=λaf o c M=>C4t gl u at_ af o c M hf hn
 simp only[ap,u.row_eq]at a3|-
 rw[<-a0]
 refine A0n hRW func41 ?_
 simp -dsimp
 refine C8P (.exit 0) (λT M1=>T 3=.cptr [I u.id.act,I u.id.item,I u.id.n,I u.kind,S u.label,.list 4 (A0g u.head) .no,.list 4 (A0g u.words) .no,.list 8 (A0p u.kids) .no]/\T 4=.cptr [I at_.act,I at_.item,I at_.n]/\Grow M M1/\Arr 9 1 A4M M.length M1 (T 7) xs) ?_ ?_
 .refine A0B hRW ws.length 18 (λT M1=>∃i:Nat,i<=ws.length/\T 3=.cptr [I u.id.act,I u.id.item,I u.id.n,I u.kind,S u.label,.list 4 (A0g u.head) .no,.list 4 (A0g u.words) .no,.list 8 (A0p u.kids) .no]/\T 4=.cptr [I at_.act,I at_.item,I at_.n]/\T 16=.list 4 (A0g ws) .no/\T 17=I ws.length/\T 18=I i/\Grow M M1/\Arr 9 1 A4M M.length M1 (T 7) (A0z (ws.take i))) ?_ ?_
  .refine⟨0,by omega,by simp,by simp,by simp,by simp,by simp,Grow.refl _,?_⟩;simpa[A0z]using Arr.nil
  rintro T M1 ⟨i,i1,t3,t4,y,a1,a4,hg,hv⟩;generalize am:T 7=ov at*;by_cases hi:i<ws.length
  ·(have a:(i:Int)<ws.length:=by omega);have w1:=A1H (i:=i) (by omega)
   obtain⟨M2,ac⟩:=ex (M1++[A0m.cells 152 [S ws[i].text,I ws[i].act,I ws[i].item,I ws[i].at_]]);(have aa:Grow M1 M2:=by rw[ac];exact A0c.app none _ _);(have au:M2[M1.length]?=some (A0m.cells 152 [S ws[i].text,I ws[i].act,I ws[i].item,I ws[i].at_]):=by rw[ac];simp);(have aw:A0z (ws.take (i+1))=A0z (ws.take i)++[ws[i].text]:=by rw[A0z,A0z,Z1r,Z0l hi,Z0U];rfl);have a7:=hv.keep aa;simp -dsimp[t3,t4,y,a1,a4,hi,a,A0Q.row,A0k,A0i,A0d];rw[<-ac];simp -dsimp[t3,t4,y,a1,a4,am,A0b au,A0l,A0M];refine A3B (C:=WC gl) (enc:=A4M) (e:=9) (sz:=1) (news:=[ws[i].text]) A7g A9M B6h (λ_=>rfl) a7.own (by simp[A0D]) (by simp[A0z];omega) rfl ?_;intro v' M3 q1 q2 q3 _;simp -dsimp[t3,t4,y,a1,a4,w1];refine⟨⟨i+1,by clear w1;omega,rfl,a7.grow (hg.trans aa) q2,?_⟩,by clear w1;omega⟩;rw[aw];exact⟨q1,a7.later (hg.trans aa).1 q3⟩
  ·(have a:¬(i:Int)<ws.length:=by omega);rw[Z0g (by omega),<-a0]at hv
   simp -dsimp[t3,t4,y,a1,a4,a,am,hg];exact hv
 rintro T M1 ⟨t3,t4,hg,hv⟩
 refine⟨M.length,T.put (some 7) (.list 1 (A0W xs) .no),A8a (B2W T) (Still.rows (λ_=>rfl) (λ_ _ _=>trivial) hv.own hv.lat .nil),?_⟩
 have ai:=B2n hg
 generalize A4w M1 M.length=M2 at*
 clear hv hg M1
 obtain⟨cs,ad⟩:=ex (A2d xs 0)
 have b4:cs.length<=xs.length:=by rw[ad];exact A7C xs _ _
 have ao:∀c∈cs,A2M c.k c.path c.to=true:=λc hc=>by rw[ad]at hc;exact(B4I xs _ _ c hc).1
 have ag:=λM=>A0e.still (enc:=A1e.row) (sz:=5) (λ_=>rfl) B4s (C0E gl xs .no (by omega) aj M)
 rw[<-ad]at ag|-
 simp -dsimp[Env.put_some,t3,t4]
 refine A1W (A1a func98 rfl rfl (ag M2)) ?_
 rintro _ _ ⟨rfl,rfl⟩
 obtain⟨N,hN⟩:=ex (B5m u at_ cs [] 0)
 have b3:N.length=cs.length:=by rw[hN,B7M]
 rw[<-hN]
 simp -dsimp[Env.put_some,t3,t4]
 refine A0B hRW cs.length 31 (λT Mi=>∃i:Nat,i<=cs.length/\T 3=.cptr [I u.id.act,I u.id.item,I u.id.n,I u.kind,S u.label,.list 4 (A0g u.head) .no,.list 4 (A0g u.words) .no,.list 8 (A0p u.kids) .no]/\T 4=.cptr [I at_.act,I at_.item,I at_.n]/\T 29=.list 5 (A3U cs) .no/\T 30=I cs.length/\T 31=I i/\Grow M Mi/\∃m ah,N=m++B5m u at_ (cs.drop i) ah i/\m.length=i/\ah.length<=i*1000/\Arr 90 5 A1v.row M.length Mi (T 10) m/\A5r 3 IdD.row Mi (T 11) ah/\(∀f,A4Y (T 11)=some f->M.length<=f)) ?_ ?_
 .exact⟨0,by omega,by simp[Env.put_some,t3],by simp[Env.put_some,t4],by simp[A3U],by simp,by simp,ai,[],[],by simpa using hN,rfl,by simp,by simpa using Arr.nil,by simpa using A5r.nil,by simp⟩
 clear t3 t4 ai
 rintro T Mi ⟨i,i1,t3,t4,q,p,t31,a9,m,ah,s,av,b2,ab,ax,a5⟩
 generalize b:T 10=b1 at*
 generalize g:T 11=aq at*
 by_cases hi:i<cs.length
 case neg=>
  have a:¬(i:Int)<cs.length:=by omega
  rw[Z0v (by omega),B5m,Z1d]at s;simp -dsimp[t3,t4,q,p,t31,a,b,g];rw[s];exact⟨a9,A2V (enc:=A1v.row) (λ_=>rfl) D5N ab.own ab.lat⟩
 have a:(i:Int)<cs.length:=by omega
 have w1:=A1H (i:=i) (by omega)
 obtain⟨c,hc⟩:=ex (cs[i])
 have ak:cs[i]=c:=hc.symm
 have a8:=ao c (by rw[hc];exact Z0o hi)
 have al:c.row=[I c.k,.list 2 (A0T c.path) .no,S c.to,I c.frm,I c.at_]:=rfl
 rw[Z0j hi,ak,B5m]at s
 obtain⟨R,hR⟩:=ex (B4Y u at_ ah c)
 have b0:R.1.length<=1000:=by rw[hR];exact D7Y hf at_ ah c
 rw[<-hR]at s
 obtain⟨M3,z⟩:=ex (Mi++[A0m.cells 110 c.row])
 have a2:Grow Mi M3:=by rw[z];exact A0c.app none _ _
 have h3:M3[Mi.length]?=some (A0m.cells 110 c.row):=by rw[z];simp
 have l:=ab.keep a2
 have x:=ax.keep a2 (by simp)
 have r:A0e (WC gl) 99 [.agg [I u.id.act,I u.id.item,I u.id.n,I u.kind,S u.label,.list 4 (A0g u.head) .no,.list 4 (A0g u.words) .no,.list 8 (A0p u.kids) .no],.agg [I at_.act,I at_.item,I at_.n],.agg c.row,aq] M3 (λv M'=>v=B4c R/\M'=M3):=by
  rcases x with⟨rfl,rfl⟩|rfl|⟨f,rfl,_⟩
  .have:=A0e.atNil (e:=3) [.agg [I u.id.act,I u.id.item,I u.id.n,I u.kind,S u.label,.list 4 (A0g u.head) .no,.list 4 (A0g u.words) .no,.list 8 (A0p u.kids) .no],.agg [I at_.act,I at_.item,I at_.n],.agg c.row] (a3 [] .no c M3 (by simp) a8);rw[hR];exact this
  .rw[hR];exact a3 ah .full c M3 (by omega) a8
  .rw[hR];exact a3 ah (.fam f) c M3 (by omega) a8
 rw[al]at h3 z r
 simp -dsimp[t3,t4,q,p,t31,hi,a,ak,al,A0k,A0i,A0d,A0y,A0v]
 rw[<-z]
 simp -dsimp[t3,t4,q,p,t31,b,g,A0b h3]
 refine A0h func99 r ?_
 simp -dsimp[t3,t4,q,p,t31,b,g,D8N,A0l,A0M,A0y,A0v]
 refine A3B (C:=WC gl) (enc:=A1v.row) (e:=90) (sz:=5) (news:=[⟨at_,i,R.1⟩]) E1f E4x E3G (λ_=>rfl) l.own (by simp[A0D,A1v.row,A1l]) (by simp;omega) rfl ?_
 intro v' M4 q1 q2 q3 _
 have a6:=x.keep q2 (λf hf=>C5W l.own x f hf)
 have d:Grow M M4:=l.grow (a9.trans a2) q2
 simp -dsimp[t3,t4,q,p,t31,b,g]
 refine B1y (C:=WC gl) (enc:=IdD.row) (e:=23) (sz:=3) (news:=R.1) (o:=.no) B4i B8y C0u a6 (by omega) rfl rfl ?_
 intro v2 M5 f1 f2 f3
 have ae:Grow M M5:=⟨Z0R d.1 f2.1,λj hj _=>(f2.2 j (Z1j hj d.1) (λe=>by have:=a5 j e;omega)).trans (d.2 j hj (by simp))⟩
 have ay:M.length<=M4.length:=d.1
 have ar:A1g 90 5 A1v.row M5 v' (m++[⟨at_,i,R.1⟩]):=q1.keep f2 (λf hf e=>C5W q1 a6 f e hf)
 simp -dsimp[t3,t4,q,p,t31,w1]
 refine⟨⟨i+1,by clear w1;omega,rfl,ae,m++[⟨at_,i,R.1⟩],ah++R.1,?_,by simp[av],by simp;omega,⟨ar,l.later (a9.trans a2).1 q3⟩,f1,λf hf=>?_⟩,by clear w1;omega⟩
 .rw[s];simp
 .rcases f3 with e|e
  .exact a5 f (e▸hf)
  .have:=e f hf;omega
end
def D0c{u:A0a}{l:List A0J}{s:List A1v}{a c:Int}(hA:A7L u l s a c){id:IdD}{n:Int}{tl:List IdD}(d:A8L s id n=tl)(h:tl=[]\/∃y∈tl,(A5N y (A3D a u (A2j u l s))).isSome=false):A1K (λy=>A0E y u) l s id n=[]:=by
 unfold A1K;rw[d];rcases h with rfl|⟨y,hy,h⟩
 .simp
 .rw[Z0d];intro b;have:=Z0p.1 b y hy;rw[<-C1u hA,h]at this;simp at this
def B6p(nm:Nat->List (List A0w))(n:Nat):Bool:=(List.range n).any λm=>decide (nm m≠[])
def D3A(nm:Nat->List (List A0w))(n:Nat):B6p nm (n+1)=(B6p nm n||decide (nm n≠[])):=by simp[B6p,Z2M]
def D3t{nm:Nat->List (List A0w)}{n:Nat}(h:B6p nm n=false):∀m,m<n->nm m=[]:=λm hm=>by have:=Z3w.1 h m (Z1o.2 hm);simpa using this
section
variable (gl:Nat->AV)
set_option maxHeartbeats 4000000 in
def D8E(cy:gl 0=A2z)(d5:gl 1=A2K)(aq:gl 3=.cptr [fnV 444,fnV 445])(u:A0a)(l:List A0J)(s:List A1v)(q:Int)(hg:u.good)(hl:l.length<=maxLen)(bi:∀s∈l,s.good)(hs:s.length<=maxLen)(b7:A4r (WC gl) 10 [] [] (λr _=>r=.val (.bool true))):
 A0e (WC gl) 9 [.agg u.row,.list 5 (A1L l) .no,.list 5 (A2e s) .no,I q] [] (λv _=>v=B true):=by
 have b5:=λM=>D1G gl u l s M hg hl hs
 have ch:=D7W u hg
 have hr:=u.row_eq
 have a3:=λM hf h1 h2 h3=>C3f gl cy d5 aq u l s q M hf h1 bi h2 h3
 rw[hr]at b5 a3|-
 refine A0n hB func9 ?_
 simp -dsimp
 refine A1W b7 ?_
 rintro _ M ⟨rfl⟩
 simp -dsimp
 refine A0h func11 (b5 M) ?_
 cases c1:C3M u l s with
 |false=>simp -dsimp
 |true=>
 have ck:=c1
 simp only[C3M,Z0f,Z0k,Z0p]at ck
 obtain⟨⟨⟨⟨c2,c3⟩,c4⟩,c5⟩,c6⟩:=ck
 obtain⟨hf,dm⟩:=ch c2
 have h3:∀m∈s,m.to.length<=40:=λm hm=>by simpa using c6 m hm
 have a3:=λM=>a3 M hf (by omega) (by omega) h3
 unfold D1k at a3
 simp -dsimp
 by_cases he:B3e u l s q 0=0
 case neg=>rw[Z0d he]at a3;refine A0h func24 (a3 M) ?_;simp -dsimp[A0k,A0i,A0d,A0y,A0v,he]
 rw[Z0e he]at a3
 have hA:=C2y hf he
 have b6:=D1d hf (by omega) bi h3 hA
 have bm:=D0Z (u:=u) (l:=l) (s:=s) q hA.n1 hA.id
 have bd:=λx (hx:x∈(A0R u).tail)=>D8k hf (by omega) bi h3 hA he hx
 have cp:=λ(id:IdD) (n:Int)=>D0c hA (id:=id) (n:=n) (tl:=A8L s id n) rfl
 obtain⟨d1,d2,d3⟩:=C9C hA
 have cc:A3D q u (A2j u l s)=_:=B1o (s:=s) hA.sound q
 have c9:∀i (h:i<(A3D q u (A2j u l s)).length),∃x∈(A0R u).tail,(A3D q u (A2j u l s))[i]=(x,A5g u l s q x):=λi h=>by
  have h2:i<(A0R u).tail.length:=by rw[cc]at h;simpa using h
  exact⟨(A0R u).tail[i],Z0o h2,by simp only[cc,Z1R]⟩
 obtain⟨V,hV⟩:=ex (A2o u q (A2j u l s))
 obtain⟨D,hD⟩:=ex (A3D q u (A2j u l s))
 rw[show A2o u q (A1O (λy=>A0E y u) l s)=A2o u q (A2j u l s)from rfl]at bm
 simp only[<-hV]at a3 b6 bm bd
 simp only[<-hD]at a3 bd cp d1 d2 d3 c9
 refine A0h func24 (a3 M) ?_
 obtain⟨p,hp⟩:=ex (M.length)
 obtain⟨M1,bt⟩:=ex (M++[A0m.cells 27 V.row])
 have d0:M1[p]?=some (A0m.cells 27 [I V.id.act,I V.id.item,I V.id.n,I V.kind,S V.label,.list 4 (A0g V.head) .no,.list 4 (A0g V.words) .no,.list 8 (A0p V.kids) .no]):=by rw[bt,hp,V.row_eq];simp
 have dl:D.length<=40:=by omega
 simp -dsimp[A0k,A0i,A0d,A0y,A0v]
 rw[<-bt,<-hp]
 refine A0B hB D.length 12 (λT Mi=>∃i:Nat,i<=D.length/\T 2=.list 5 (A2e s) .no/\T 4=.cptr [I u.id.act,I u.id.item,I u.id.n,I u.kind,S u.label,.list 4 (A0g u.head) .no,.list 4 (A0g u.words) .no,.list 8 (A0p u.kids) .no]/\T 9=.ptr p 0/\T 10=.list 6 (D.map A2Z) .no/\T 12=I i/\Mi[p]?=some (A0m.cells 27 [I V.id.act,I V.id.item,I V.id.n,I V.kind,S V.label,.list 4 (A0g V.head) .no,.list 4 (A0g V.words) .no,.list 8 (A0p V.kids) .no])) ?_ ?_
 .exact⟨0,by omega,by simp,by simp,by simp,by simp,by simp,d0⟩
 rintro T Mi ⟨i,i1,t2,t4,t9,c,b,d4⟩
 by_cases hi:i<D.length
 case neg=>
  have ad:¬(i:Int)<D.length:=by omega
  simp -dsimp[t2,t4,t9,c,b,ad]
 have ad:(i:Int)<D.length:=by omega
 have w1:=A1H (i:=i) (by omega)
 obtain⟨x,hx,b9⟩:=c9 i hi
 obtain⟨d,hd⟩:=ex (A5g u l s q x)
 have bs:=bd x hx
 rw[<-hd]at b9 bs
 obtain⟨a,y,f1,f2,f3,f4,f5,f6,f7,f8,f9⟩:=bs.ex
 have ap:A2Z D[i]=[I x.act,I x.item,I x.n,I d.act,I d.item,I d.n]:=by rw[b9];rfl
 have aw:(D.map A2Z)[i]?=some [I x.act,I x.item,I x.n,I d.act,I d.item,I d.n]:=by simp[hi,b9,A2Z]
 have an:∀z:IdD,z.row=[I z.act,I z.item,I z.n]:=λ_=>rfl
 have az:=λM=>A7p gl u x M hf
 rw[f1]at az
 have ar:=λM=>A7p gl V d M b6
 rw[f2]at ar
 simp only[A1z,an,Z1W]at az ar
 rw[a.row_eq,hr]at az
 rw[y.row_eq,V.row_eq]at ar
 obtain⟨cs,ce⟩:=ex (A2d (A0z a.words) 0)
 obtain⟨nm,c7⟩:∃nm:Nat->List (List A0w),nm=λn:Nat=>A1K (λz=>A0E z u) l s a.id n:=⟨_,rfl⟩
 obtain⟨N,hN⟩:=ex (B5m V d (A2d (A0z y.words) 0) [] 0)
 have di:cs.length<=300:=by
  have:=A7C (A0z a.words) ((A0z a.words).length-0) 0;have e:(A0z a.words).length=a.words.length:=by simp[A0z]
  rw[ce];unfold A2d;omega
 have b7:∀w∈a.words,w.text.size<=maxLen:=λw hw=>(((A0a.good_iff _).1 f4).2.2.2.2.2.2.1 w hw).1
 have db:∀w∈y.words,w.text.size<=maxLen:=λw hw=>(((A0a.good_iff _).1 f6).2.2.2.2.2.2.1 w hw).1
 have al:=λM=>D4Y gl a.words .no f3 b7 M
 have aa:=λM=>D0b gl V d y.words M b6 bm (by omega) db
 rw[<-ce]at al f7 f8 f9
 rw[<-hN]at aa f7 f8
 simp only[show(λn:Nat=>A1K (λz=>A0E z u) l s a.id n)=nm from c7.symm]at f7 f8 f9
 have am:∀n:Nat,A1K (λz=>A0E z u) l s a.id n=nm n:=λn=>by rw[c7]
 simp only[am]at f8 f9
 have cn:∀n:Nat,(A8L s a.id n=[]\/∃z∈A8L s a.id n,(A5N z D).isSome=false)->nm n=[]:=λn h=>by rw[<-am];exact cp a.id n h
 have bu:∀n:Nat,(A8L s a.id n).length<=40:=λn=>by
  unfold A8L;split
  .rename_i m hm;exact h3 m (Z2A hm)
  .simp
 simp only[an,V.row_eq]at aa
 have dn:=f7
 have cj:∀n,n<=cs.length->(A2W cs nm n).length<=n*41:=λn _=>B2Y cs nm (K:=40) (λi=>by rw[<-am];exact A9l h3) n
 obtain⟨bx,ca⟩:=ex (Mi.length)
 obtain⟨M2,bp⟩:=ex (Mi++[A0m.cells 27 [I a.id.act,I a.id.item,I a.id.n,I a.kind,S a.label,.list 4 (A0g a.head) .no,.list 4 (A0g a.words) .no,.list 8 (A0p a.kids) .no]])
 have dd:Grow Mi M2:=by rw[bp];exact A0c.app none _ _
 have cq:M2[bx]?=some (A0m.cells 27 [I a.id.act,I a.id.item,I a.id.n,I a.kind,S a.label,.list 4 (A0g a.head) .no,.list 4 (A0g a.words) .no,.list 8 (A0p a.kids) .no]):=by rw[bp,ca];simp
 have bf:=dd.get d4 (by simp)
 obtain⟨a6,cd⟩:=ex (M2.length)
 obtain⟨M3,ba⟩:=ex (M2++[A0m.cells 27 [I y.id.act,I y.id.item,I y.id.n,I y.kind,S y.label,.list 4 (A0g y.head) .no,.list 4 (A0g y.words) .no,.list 8 (A0p y.kids) .no]])
 have aq:Grow M2 M3:=by rw[ba];exact A0c.app none _ _
 have cm:M3[a6]?=some (A0m.cells 27 [I y.id.act,I y.id.item,I y.id.n,I y.kind,S y.label,.list 4 (A0g y.head) .no,.list 4 (A0g y.words) .no,.list 8 (A0p y.kids) .no]):=by rw[ba,cd];simp
 have b8:=aq.get cq (by simp)
 have cg:=aq.get bf (by simp)
 have b2:=b
 simp -dsimp[t2,t4,t9,c,b,hi,ad,aw,ap]
 refine A4B .normal (λT M'=>T 2=.list 5 (A2e s) .no/\T 4=.cptr [I u.id.act,I u.id.item,I u.id.n,I u.kind,S u.label,.list 4 (A0g u.head) .no,.list 4 (A0g u.words) .no,.list 8 (A0p u.kids) .no]/\T 9=.ptr p 0/\T 10=.list 6 (D.map A2Z) .no/\T 12=I i/\T 13=.ptr bx 0/\M'=M2) ?_ ?_
 .refine A0Z hB (A0u gl) (λk=>if k=10\/k=11 then 2 else 0) (λ_=>0) (by rfl) (by kernel_rfl) ?_;simp -dsimp[t2,t4,t9,c,b,hi,ad,aw,ap];refine A1p func32 az ?_;simp -dsimp[A0k,A0i,A0d,A0y,A0v,t2,t4,t9,c,b];exact⟨by rw[ca],bp.symm⟩
 clear t2 t4 t9 c b
 rintro T M' ⟨t2,t4,t9,c,b,f,rfl⟩
 simp -dsimp[t2,t4,t9,c,b,f]
 refine A4B .normal (λT M4=>T 2=.list 5 (A2e s) .no/\T 4=.cptr [I u.id.act,I u.id.item,I u.id.n,I u.kind,S u.label,.list 4 (A0g u.head) .no,.list 4 (A0g u.words) .no,.list 8 (A0p u.kids) .no]/\T 9=.ptr p 0/\T 10=.list 6 (D.map A2Z) .no/\T 12=I i/\T 13=.ptr bx 0/\T 15=.ptr a6 0/\M4=M3) ?_ ?_
 .refine B4A hB (A0u gl) (λk=>if k=0 then 1 else if k=10\/k=11 then 2 else 0) (λ_=>p) (λ_ _=>false) (λ_=>[p]) (by intros;simp) (by rfl) (by kernel_rfl) ?_;have d7:p<M'.length:=(Z0a.1 bf).1;simp -dsimp[t2,t4,t9,c,b,f,hi,ad,aw,ap,A0F,A2Y,A0b bf];refine A1p func32 ar ?_;have de:∀X,(M'++[X])[p]?=M'[p]?:=λX=>Z0i d7;simp -dsimp[A0k,A0i,A0d,A0y,A0v,t2,t4,t9,c,b,f,de];exact⟨by rw[cd],ba.symm⟩
 clear t2 t4 t9 c b f
 rintro T M4 ⟨t2,t4,t9,c,b,f,g,rfl⟩
 simp -dsimp[t2,t4,t9,c,b,f,g,A0b b8]
 refine A0h func40 (al M4) ?_
 simp -dsimp[t2,t4,t9,c,b,f,g]
 refine A4B .normal (λT M5=>T 2=.list 5 (A2e s) .no/\T 4=.cptr [I u.id.act,I u.id.item,I u.id.n,I u.kind,S u.label,.list 4 (A0g u.head) .no,.list 4 (A0g u.words) .no,.list 8 (A0p u.kids) .no]/\T 9=.ptr p 0/\T 10=.list 6 (D.map A2Z) .no/\T 12=I i/\T 13=.ptr bx 0/\T 15=.ptr a6 0/\T 17=.list 5 (A3U cs) .no/\T 18=.list 5 (A2e N) .no/\M5=M4) ?_ ?_
 .refine A0Z hB (A0u gl) (λk=>if k=0\/k=7 then 1 else 0) (λk=>if k=0 then p else a6) (by rfl) (by kernel_rfl) ?_;simp -dsimp[t2,t4,t9,c,b,f,g,hi,ad,aw,ap,A0F,A2Y,A0b cg,A0b cm];refine A1p func41 aa ?_;simp -dsimp[t2,t4,t9,c,b,f,g]
 clear t2 t4 t9 c b f g
 rintro T M5 ⟨t2,t4,t9,c,b,f,g,a1,t,rfl⟩
 simp -dsimp[t2,t4,t9,c,b,f,g,a1,t]
 refine A4B (.exit 2) (λT M6=>T 2=.list 5 (A2e s) .no/\T 4=.cptr [I u.id.act,I u.id.item,I u.id.n,I u.kind,S u.label,.list 4 (A0g u.head) .no,.list 4 (A0g u.words) .no,.list 8 (A0p u.kids) .no]/\T 9=.ptr p 0/\T 10=.list 6 (D.map A2Z) .no/\T 12=I i/\T 13=.ptr bx 0/\T 15=.ptr a6 0/\T 18=.list 5 (A2e N) .no/\T 19=I (A2W cs nm cs.length).length/\T 20=B (B6p nm cs.length)/\Grow M5 M6) ?_ ?_
 .refine A0B hB cs.length 21 (λT M6=>∃n:Nat,n<=cs.length/\T 2=.list 5 (A2e s) .no/\T 4=.cptr [I u.id.act,I u.id.item,I u.id.n,I u.kind,S u.label,.list 4 (A0g u.head) .no,.list 4 (A0g u.words) .no,.list 8 (A0p u.kids) .no]/\T 9=.ptr p 0/\T 10=.list 6 (D.map A2Z) .no/\T 12=I i/\T 13=.ptr bx 0/\T 15=.ptr a6 0/\T 17=.list 5 (A3U cs) .no/\T 18=.list 5 (A2e N) .no/\T 19=I (A2W cs nm n).length/\T 20=B (B6p nm n)/\T 21=I n/\Grow M5 M6) ?_ ?_
  .exact⟨0,by omega,by simp[t2],by simp[t4],by simp[t9],by simp[c],by simp[b],by simp[f],by simp[g],by simp[a1],by simp[t],by simp[A2W],by simp[B6p],by simp,Grow.refl _⟩
  clear t2 t4 t9 c b f g a1 t;rintro T M6 ⟨n,n1,t2,t4,t9,c,b,f,g,a1,t,a0,t20,a2,a7⟩;by_cases hn:n<cs.length;case neg=>
   (obtain rfl:n=cs.length:=by omega);have bc:¬(cs.length:Int)<cs.length:=by omega
   simp -dsimp[t2,t4,t9,c,b,f,g,a1,t,a0,t20,a2,bc];exact a7
  have bc:(n:Int)<cs.length:=by omega
  have wn:=A1H (i:=n) (by omega);have ax:=a7.get b8 (by simp);obtain⟨tl,cu⟩:=ex (A8L s a.id n);have ai:=E2N gl s a.id (n:Int) M6 (by omega);have bj:=bu n;have dk:=cj n n1;have af:=cn n;have ao:=f8 n hn;rw[<-cu]at ai bj af ao;have av:=A8l cs nm n hn;have bk:=D3A nm n;have a8:IntKind.i64.wrap (((A2W cs nm n).length:Int)+1)=((A2W cs nm n).length+1:Nat):=by rw[A0L (by omega) (by omega)];omega
  simp only[an]at ai;simp -dsimp[t2,t4,t9,c,b,f,g,a1,t,a0,t20,a2,bc,A0b ax];refine A0h func42 ai ?_;simp -dsimp[t2,t4,t9,c,b,f,g,a1,t,a0,t20,a2];have ak:=a2;refine A4B (.exit 4) (λT M7=>∃k:Nat,k<=tl.length/\T 2=.list 5 (A2e s) .no/\T 4=.cptr [I u.id.act,I u.id.item,I u.id.n,I u.kind,S u.label,.list 4 (A0g u.head) .no,.list 4 (A0g u.words) .no,.list 8 (A0p u.kids) .no]/\T 9=.ptr p 0/\T 10=.list 6 (D.map A2Z) .no/\T 12=I i/\T 13=.ptr bx 0/\T 15=.ptr a6 0/\T 17=.list 5 (A3U cs) .no/\T 18=.list 5 (A2e N) .no/\T 19=I (A2W cs nm n).length/\T 20=B (B6p nm n)/\T 21=I n/\T 22=.list 3 (A1l tl) .no/\T 23=I k/\M7=M6/\(k<tl.length->∃z∈tl,(A5N z D).isSome=false)/\(k=tl.length->∀z∈tl,(A5N z D).isSome=true)) ?_ ?_
  .refine A0B hB tl.length 23 (λT M7=>∃k:Nat,k<=tl.length/\T 2=.list 5 (A2e s) .no/\T 4=.cptr [I u.id.act,I u.id.item,I u.id.n,I u.kind,S u.label,.list 4 (A0g u.head) .no,.list 4 (A0g u.words) .no,.list 8 (A0p u.kids) .no]/\T 9=.ptr p 0/\T 10=.list 6 (D.map A2Z) .no/\T 12=I i/\T 13=.ptr bx 0/\T 15=.ptr a6 0/\T 17=.list 5 (A3U cs) .no/\T 18=.list 5 (A2e N) .no/\T 19=I (A2W cs nm n).length/\T 20=B (B6p nm n)/\T 21=I n/\T 22=.list 3 (A1l tl) .no/\T 23=I k/\M7=M6/\∀j (h:j<tl.length),j<k->(A5N tl[j] D).isSome=true) ?_ ?_
   .exact⟨0,by omega,by simp[t2],by simp[t4],by simp[t9],by simp[c],by simp[b],by simp[f],by simp[g],by simp[a1],by simp[t],by simp[a0],by simp[t20],by simp[a2],by simp,by simp,rfl,λj _ h=>by omega⟩
   clear t2 t4 t9 c b f g a1 t a0 t20 a2;rintro T M7 ⟨k,k1,t2,t4,t9,c,b,f,g,a1,t,a0,t20,a2,a4,a5,rfl,b3⟩;by_cases hk:k<tl.length;case neg=>
    (have a9:¬(k:Int)<tl.length:=by omega);simp -dsimp[t2,t4,t9,c,b,f,g,a1,t,a0,t20,a2,a4,a5,a9]
    exact⟨k,k1,rfl,λh=>absurd h hk,λ_ z hz=>by obtain⟨j,hj,rfl⟩:=Z2r hz;exact b3 j hj (by omega)⟩
   (have a9:(k:Int)<tl.length:=by omega);have wk:=A1H (i:=k) (by omega)
   obtain⟨z,hz⟩:=ex (tl[k]);(have bo:(A1l tl)[k]?=some [I z.act,I z.item,I z.n]:=by simp[A1l,hk,<-hz,IdD.row]);have bg:=hz.symm;have bh:z.row=[I z.act,I z.item,I z.n]:=rfl;have co:=D2D gl D .no z M7 (by omega);simp only[an]at co;simp -dsimp[t2,t4,t9,c,b,f,g,a1,t,a0,t20,a2,a4,a5,a9,hk,bo,bg,bh];refine A0h func43 co ?_;cases hzd:(A5N z D).isSome
   .simp -dsimp[t2,t4,t9,c,b,f,g,a1,t,a0,t20,a2,a4,a5];exact⟨k,k1,rfl,λ_=>⟨z,by rw[hz];exact Z0o hk,by simpa using hzd⟩,λh=>by omega⟩
   .simp -dsimp[t2,t4,t9,c,b,f,g,a1,t,a0,t20,a2,a4,a5,wk];refine⟨⟨k+1,by clear wk;omega,rfl,λj hj hjk=>?_⟩,by clear wk;omega⟩;by_cases e:j=k
    .subst e;rw[<-hz];exact hzd
    .exact b3 j hj (by omega)
  clear t2 t4 t9 c b f g a1 t a0 t20 a2;rintro T M7 ⟨k,k1,t2,t4,t9,c,b,f,g,a1,t,a0,t20,a2,a4,a5,rfl,da,cz⟩;by_cases hkn:tl.length=0\/k<tl.length
  .have b0:nm n=[]:=af (by
    rcases hkn with h|h
    .exact .inl (Z0y h)
    .exact .inr (da h))
   rw[Z0e b0]at av;rw[b0]at bk;(have ab:(A2W cs nm (n+1)).length=(A2W cs nm n).length+1:=by rw[av];simp);(have ac:B6p nm (n+1)=B6p nm n:=by rw[bk];simp);by_cases h0:tl.length=0
   ·(have ae:(tl.length:Int)=0:=by omega);have ag:tl=[]:=Z0y h0
    simp -dsimp[t2,t4,t9,c,b,f,g,a1,t,a0,t20,a2,a4,a5,ae,ag,a8,wn,ak];exact⟨⟨n+1,by clear a8 wn;omega,by rw[ab];omega,by rw[ac],rfl,a7⟩,by clear a8 wn;omega⟩
   ·(have ae:¬(tl.length:Int)=0:=by omega);have a9:(k:Int)<tl.length:=by omega
    have ag:¬tl=[]:=λe=>h0 (by rw[e];rfl);simp -dsimp[t2,t4,t9,c,b,f,g,a1,t,a0,t20,a2,a4,a5,ae,ag,a9,a8,wn,ak];exact⟨⟨n+1,by clear a8 wn;omega,by rw[ab];omega,by rw[ac],rfl,a7⟩,by clear a8 wn;omega⟩
  have ct:k=tl.length:=by omega
  have ae:¬(tl.length:Int)=0:=by omega
  have a9:¬(k:Int)<tl.length:=by omega
  have ag:¬tl=[]:=λe=>ae (by rw[e];rfl);obtain⟨ah,bb⟩:=ao (cz ct);have br:nm n≠[]:=λe=>by rw[e]at ah;simp at ah;omega
  rw[Z0d br]at av;have ab:(A2W cs nm (n+1)).length=(A2W cs nm n).length+tl.length:=by rw[av];simp[ah]
  have ac:B6p nm (n+1)=true:=by rw[bk];simp[br]
  have dj:=cj (n+1) hn;simp -dsimp[t2,t4,t9,c,b,f,g,a1,t,a0,t20,a2,a4,a5,ae,ag,a9];refine A0B hB tl.length 23 (λT M8=>∃j:Nat,j<=tl.length/\T 2=.list 5 (A2e s) .no/\T 4=.cptr [I u.id.act,I u.id.item,I u.id.n,I u.kind,S u.label,.list 4 (A0g u.head) .no,.list 4 (A0g u.words) .no,.list 8 (A0p u.kids) .no]/\T 9=.ptr p 0/\T 10=.list 6 (D.map A2Z) .no/\T 12=I i/\T 13=.ptr bx 0/\T 15=.ptr a6 0/\T 17=.list 5 (A3U cs) .no/\T 18=.list 5 (A2e N) .no/\T 19=I ((A2W cs nm n).length+j:Nat)/\T 20=B true/\T 21=I n/\T 22=.list 3 (A1l tl) .no/\T 23=I j/\Grow M5 M8) ?_ ?_
  .exact⟨0,by omega,by simp[t2],by simp[t4],by simp[t9],by simp[c],by simp[b],by simp[f],by simp[g],by simp[a1],by simp[t],by simp[a0],by simp,by simp[a2],by simp[a4],by simp,a7⟩
  clear t2 t4 t9 c b f g a1 t a0 t20 a2 a4 a5;rintro T M8 ⟨j,j1,t2,t4,t9,c,b,f,g,a1,t,a0,t20,a2,a4,a5,cf⟩;by_cases hj:j<tl.length;case neg=>
   (have ay:¬(j:Int)<tl.length:=by omega);have cv:j=tl.length:=by omega
   simp -dsimp[t2,t4,t9,c,b,f,g,a1,t,a0,t20,a2,a4,a5,ay,wn,ak];exact⟨⟨n+1,by clear a8 wn;omega,by rw[ab,cv];omega,by rw[ac],rfl,cf⟩,by clear a8 wn;omega⟩
  have ay:(j:Int)<tl.length:=by omega
  have wj:=A1H (i:=j) (by omega);obtain⟨m0,cb⟩:=ex ((A2W cs nm n).length+j);rw[<-cb]at a0;have au:=A1H (i:=m0) (by omega);obtain⟨z,hz⟩:=ex (tl[j]);have bg:=hz.symm;have bh:z.row=[I z.act,I z.item,I z.n]:=rfl;have bo:(A1l tl)[j]?=some [I z.act,I z.item,I z.n]:=by simp[A1l,hj,<-hz,IdD.row]
  obtain⟨e,m,e1,e2,e3⟩:=bb j hj;rw[<-hz]at e1;have bn:=C1S gl M8 z D .no (by omega);rw[e1]at bn;simp only[idO,an,Z1W]at bn;obtain⟨d9,cw⟩:=Z0a.1 e2;have b4:m0<N.length:=by rw[cb];exact d9
  have bv:(m0:Int)<N.length:=by omega
  have ci:¬(m0:Int)>=N.length:=by omega
  have bq:¬N.length<=m0:=by omega
  have b1:N[m0]=m:=by rw[<-cw];congr 1
  have dg:m.row=[I m.at_.act,I m.at_.item,I m.at_.n,I m.n,.list 3 [[I e.act,I e.item,I e.n]] .no]:=by simp[A1v.row,e3,A1l,IdD.row]
  have d6:(A2e N)[m0]?=some [I m.at_.act,I m.at_.item,I m.at_.n,I m.n,.list 3 [[I e.act,I e.item,I e.n]] .no]:=by simp[A2e,b4,b1,A1v.row,e3,IdD.row]
  obtain⟨M9,be⟩:=ex (M8++[A0m.cells 23 [I e.act,I e.item,I e.n]]);have df:Grow M8 M9:=by rw[be];exact A0c.app none _ _
  have h9:M9[M8.length]?=some (A0m.cells 23 [I e.act,I e.item,I e.n]):=by rw[be];simp
  have c8:=λM o=>C9P gl [e] [e] .no o M (by simp) rfl;have dh:A1l [e]=[[I e.act,I e.item,I e.n]]:=rfl;rw[dh]at c8;simp -dsimp[t2,t4,t9,c,b,f,g,a1,t,a0,t20,a2,a4,a5,ay,hj,bo,bg,bh];refine A0h func31 bn ?_;simp -dsimp[t2,t4,t9,c,b,f,g,a1,t,a0,t20,a2,a4,a5,A0k,A0i,A0d,A0y,A0v];rw[<-be];refine A0Z hB (A0u gl) (λk=>if k=10 then 1 else 0) (λ_=>M8.length) (by rfl) (by kernel_rfl) ?_;simp -dsimp[t2,t4,t9,c,b,f,g,a1,t,a0,t20,a2,a4,a5,ay,hj,bv,b4,ci,bq,d6,b1,dg,A0b h9,A0F,A2Y,A0l,A0M,A0y,A0v];refine A1p func44 (λM=>c8 M _) ?_;simp -dsimp[t2,t4,t9,c,b,f,g,a1,t,a0,t20,a2,a4,a5,au,wj];exact⟨⟨j+1,by clear au wj;omega,by clear au wj;omega,rfl,cf.trans df⟩,by clear au wj;omega⟩
 clear t2 t4 t9 c b f g a1 t
 rintro T M6 ⟨t2,t4,t9,c,b,f,g,t,a0,t20,a7⟩
 have ax:=a7.get b8 (by simp)
 have bw:=a7.get cm (by simp)
 have c0:=a7.get cg (by simp)
 have bj:(A0z a.words).length<=1000000:=by simp[A0z];omega
 have cr:=λM=>B4b gl a.words .no M (by omega)
 have bz:=λM=>B4b gl y.words .no M (by omega)
 have cx:=λM=>C1t gl (A0z a.words) M bj
 have dc:(A2W cs nm cs.length).length=N.length:=f7.symm
 rw[dc]at a0
 simp -dsimp
 cases hrw:B6p nm cs.length
 .rw[hrw]at t20;have d8:=f9 (D3t hrw);rw[d8]at bz;refine A4B .normal (λT M7=>T 2=.list 5 (A2e s) .no/\T 4=.cptr [I u.id.act,I u.id.item,I u.id.n,I u.kind,S u.label,.list 4 (A0g u.head) .no,.list 4 (A0g u.words) .no,.list 8 (A0p u.kids) .no]/\T 9=.ptr p 0/\T 10=.list 6 (D.map A2Z) .no/\T 12=I i/\T 167=B false/\M7=M6) ?_ ?_
  .refine A0Z hB (A0u gl) (λk=>if k=9\/k=12 then 1 else 0) (λk=>if k=9 then bx else a6) (by rfl) (by kernel_rfl) ?_;simp -dsimp[t2,t4,t9,c,b,f,g,t,a0,t20,A0b ax,A0b bw,A0F,A2Y];refine A1p func33 cr ?_;simp -dsimp[t2,t4,t9,c,b,f,g,t,a0,t20,A0b ax,A0b bw,A0F,A2Y];refine A1p func33 bz ?_;simp -dsimp[t2,t4,t9,c,b,f,g,t,a0,t20];refine A1p func17 cx ?_;simp -dsimp[t2,t4,t9,c,b,f,g,t,a0,t20]
  clear t2 t4 t9 c b f g t a0 t20;rintro T M7 ⟨t2,t4,t9,c,b,aj,rfl⟩;simp -dsimp[t2,t4,t9,c,b,aj,b2,w1];exact⟨⟨i+1,by clear w1;omega,rfl,c0⟩,by clear w1;omega⟩
 .rw[hrw]at t20;refine A4B .normal (λT M7=>T 2=.list 5 (A2e s) .no/\T 4=.cptr [I u.id.act,I u.id.item,I u.id.n,I u.kind,S u.label,.list 4 (A0g u.head) .no,.list 4 (A0g u.words) .no,.list 8 (A0p u.kids) .no]/\T 9=.ptr p 0/\T 10=.list 6 (D.map A2Z) .no/\T 12=I i/\T 167=B false/\M7=M6) ?_ ?_
  .refine A0Z hB (A0u gl) (λk=>if k=9\/k=12 then 1 else 0) (λk=>if k=9 then bx else a6) (by rfl) (by kernel_rfl) ?_;simp -dsimp[t2,t4,t9,c,b,f,g,t,a0,t20]
  clear t2 t4 t9 c b f g t a0 t20;rintro T M7 ⟨t2,t4,t9,c,b,aj,rfl⟩;simp -dsimp[t2,t4,t9,c,b,aj,b2,w1];exact⟨⟨i+1,by clear w1;omega,rfl,c0⟩,by clear w1;omega⟩
end
end Go.Abs
