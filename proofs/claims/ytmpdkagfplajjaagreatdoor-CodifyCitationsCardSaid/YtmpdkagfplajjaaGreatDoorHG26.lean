/- A part of the proof. -/
import Derived.Test.YtmpdkagfplajjaaGreatDoorHG24
import Derived.RangeFuncIn
set_option linter.all false
set_option maxRecDepth 100000
namespace Go.Abs
def A0o.keepAt(G:A0o)(b:Nat)(k:Option Obj):A0o:={G with keep:=λx=>if x=b then k else G.keep x}
section
variable {G:A0o} {b:Nat} {k:Option Obj}
mutual
def Rep.kp:∀(v:AV) (x:Value),Rep G v x->Rep (G.keepAt b k) v x
 |.poison,_,_=>by simp[Rep]
 |.val v,x,h=>by simpa[Rep]using h
 |.ptr _ _,x,h=>by simp only[Rep]at h|-;exact h
 |.cptr cs,x,h=>by simp only[Rep]at h|-;obtain⟨b,i,hx,hm⟩:=h;exact⟨b,i,hx,A0N.kp cs b i hm⟩
 |.list sz rows own,x,h=>by
  simp only[Rep]at h|-;obtain⟨base,cap,hx,hl,hm,hb,ho⟩:=h;refine⟨base,cap,hx,hl,hm,?_,?_⟩
  .cases base with
   |none=>exact hb
   |some a=>exact⟨hb.1,A0C.kp sz rows _ _ hb.2⟩
  .cases own<;>exact ho
 |.vref f g sz lo len,x,h=>by simp only[Rep]at h|-;exact h
 |.vptr f g off,x,h=>by simp only[Rep]at h|-;exact h
 |.mapr _,x,h=>by simp only[Rep]at h|-;exact h
 |.func fn f c,x,h=>by simp only[Rep]at h|-;obtain⟨fs,cs,hx,h1,h2⟩:=h;exact⟨fs,cs,hx,A0t.kp f _ h1,A0t.kp c _ h2⟩
 |.iface t v,x,h=>by simp only[Rep]at h|-;obtain⟨y,hx,h1⟩:=h;exact⟨y,hx,Rep.kp v y h1⟩
 |.agg cs,x,h=>by simp only[Rep]at h|-;obtain⟨ys,hx,h1,h2⟩:=h;exact⟨ys,hx,A0t.kp cs _ h1,h2⟩
 |.tuple cs,x,h=>by simp only[Rep]at h|-;obtain⟨ys,hx,h1⟩:=h;exact⟨ys,hx,A0t.kp cs _ h1⟩
def A0t.kp:∀(cs:List AV) (ys:List Value),A0t G cs ys->A0t (G.keepAt b k) cs ys
 |[],ys,h=>by simpa[A0t]using h
 |c::cs,ys,h=>by simp only[A0t]at h|-;obtain⟨y,a,hy,h1,h2⟩:=h;exact⟨y,a,hy,Rep.kp c y h1,A0t.kp cs a h2⟩
def A0N.kp:∀(cs:List AV) (q i:Nat),A0N G cs q i->A0N (G.keepAt b k) cs q i
 |[],_,_,_=>by simp[A0N]
 |c::cs,q,i,h=>by simp only[A0N]at h|-;obtain⟨⟨v,hv,ho,h1⟩,h2⟩:=h;exact⟨⟨v,hv,ho,Rep.kp c v h1⟩,A0N.kp cs q (i+1) h2⟩
def A0C.kp(sz:Nat):∀(rs:List (List AV)) (q i:Nat),A0C G sz rs q i->A0C (G.keepAt b k) sz rs q i
 |[],_,_,_=>by simp[A0C]
 |r::rs,q,i,h=>by simp only[A0C]at h|-;exact⟨⟨h.1.1,A0N.kp r q i h.1.2⟩,A0C.kp sz rs q (i+sz) h.2⟩
end
def A1R.kp{N:Nat}{T:Env}{a:Act}(h:A1R G N T a):A1R (G.keepAt b k) N T a:=⟨h.defers,h.size,λi hi=>Rep.kp _ _ (h.at_ i hi)⟩
def A1r.kp{es:List (AV×AV×Nat)}{xs:List MapEntry}(h:A1r G es xs):A1r (G.keepAt b k) es xs:=by
 induction h with
 |nil=>exact .nil
 |cons h1 _ ih=>exact .cons ⟨Rep.kp _ _ h1.1,Rep.kp _ _ h1.2.1,h1.2.2⟩ ih
end
def D0y:Obj->Prop
 |.loop _=>True
 |.deferred _=>True
 |_=>False
def A4y.solid{G:A0o}{w:World}{k:Nat}{o:A0m}(h:A4y G w k o){b:Nat}(ho:A2N G k o b):∃x,w.heap[b]?=some x/\¬D0y x:=by
 cases o with
 |gone=>exact ho.elim
 |cells t cs=>obtain⟨vs,h1,_⟩:=h;simp only[A2N]at ho;subst ho;exact⟨_,h1,λh=>h⟩
 |fam m sz=>obtain⟨c,a,ha,rfl⟩:=ho;obtain⟨g,vs,t,q1,q2,_⟩:=h.2.2.2 c;rw[q1]at ha;simp only[Z0b]at ha;subst ha;exact⟨_,q2,λh=>h⟩
 |vec e sz rows g hist=>obtain⟨h',n,a,hm,ha,rfl⟩:=ho;obtain⟨_,_,b,o,cap,vs,q1,_,_,q2,_⟩:=h.2.1 h' n hm;rw[q1]at ha;simp only[Z0b]at ha;subst ha;exact⟨_,q2,λh=>h⟩
 |map es clock=>obtain⟨xs,h1,_⟩:=h;simp only[A2N]at ho;subst ho;exact⟨_,h1,λh=>h⟩
 |siter s pos=>simp only[A2N]at ho;subst ho;exact⟨_,h.1,λh=>h⟩
 |miter m since A1i stepped=>simp only[A2N]at ho;subst ho;exact⟨_,h.1,λh=>h⟩
def D0X{G:A0o}{b:Nat}{kk:Option Obj}{k:Nat}{o:A0m}{q:Nat}:A2N (G.keepAt b kk) k o q<->A2N G k o q:=by cases o<;>exact Iff.rfl
def A4y.kp{G:A0o}{w w':World}{b:Nat}{kk:Option Obj}{k:Nat}{o:A0m}(h:A4y G w k o)(f:∀q,A2N G k o q->q≠b)(hw:∀q,A2N G k o q->w'.heap[q]?=w.heap[q]?):A4y (G.keepAt b kk) w' k o:=by
 have a:∀q,A2N G k o q->G.keep q=none->(G.keepAt b kk).keep q=none:=λq hq hn=>by show(if q=b then kk else G.keep q)=none;rw[Z0d (f q hq)];exact hn
 cases o with
 |gone=>trivial
 |cells t cs=>obtain⟨vs,h1,h2,h3,h4,h5⟩:=h;exact⟨vs,(hw _ rfl).trans h1,A0t.kp _ _ h2,h3,h4,a _ rfl h5⟩
 |fam m sz=>obtain⟨h0,h1,i,h2⟩:=h;refine⟨h0,h1,i,λd=>?_⟩;obtain⟨g,vs,t,q1,q2,q3,q4,q5⟩:=h2 d;have c:A2N G k (.fam m sz) g:=⟨d,_,q1,rfl⟩;exact⟨g,vs,t,q1,(hw _ c).trans q2,q3,q4,a _ c q5⟩
 |vec e sz rows g hist=>obtain⟨h0,h2,h3⟩:=h;refine⟨h0,λh' n hm=>?_,h3⟩;obtain⟨p1,p2,b',o,cap,vs,q1,q2,q3,q4,q5,q6,q7,q8,q9⟩:=h2 h' n hm;have c:A2N G k (.vec e sz rows g hist) b':=⟨h',n,_,hm,by rw[q1],rfl⟩;exact⟨p1,p2,b',o,cap,vs,q1,q2,q3,(hw _ c).trans q4,q5,A0t.kp _ _ q6,q7,q8,a _ c q9⟩
 |map es clock=>obtain⟨xs,h1,h2,h3⟩:=h;exact⟨xs,(hw _ rfl).trans h1,h2.kp,a _ rfl h3⟩
 |siter s pos=>exact⟨(hw _ rfl).trans h.1,a _ rfl h.2⟩
 |miter m since A1i stepped=>exact⟨(hw _ rfl).trans h.1,h.2.1,a _ rfl h.2.2⟩
def Inv.turn{C:Ctx}{G:A0o}{M:Mem}{w w':World}(hi:Inv C G M w)(b:Nat)(hb:∀x,w.heap[b]?=some x->D0y x)(hw:∀k,k≠b->k<w.heap.size->w'.heap[k]?=w.heap[k]?)(kk:Option Obj)(hk:∀x,kk=some x->w'.heap[b]?=some x):Inv C (G.keepAt b kk) M w':=by
 have own:∀k o,M[k]?=some o->∀q,A2N G k o q->q≠b/\w'.heap[q]?=w.heap[q]?:=λk o ho q hq=>by obtain⟨x,hx,hl⟩:=(hi.obj k o ho).solid hq;have a:q≠b:=λe=>hl (hb x (e▸hx));exact⟨a,hw q a (A3z hx)⟩
 refine⟨hi.n,λq i v hv=>?_,λq o ho=>?_,λk o ho=>?_,λj k x y q hx hy ox oy=>?_,λg=>Rep.kp _ _ (hi.gl g),λg cs hg=>?_⟩
 .have h:=hi.st q i v hv;have c:=Z2j w ⟨q,i,none⟩ h;have a:q≠b:=by
   rintro rfl;cases hx:w.heap[q]? with
   |none=>simp[World.cell?,hx]at h
   |some x=>have:=hb x hx;cases x<;>simp_all [D0y,World.cell?]
  simpa[World.cell?,hw q a c]using h
 .have ho:(if q=b then kk else G.keep q)=some o:=ho;by_cases e:q=b
  .subst e;rw[Z0e rfl]at ho;exact hk _ ho
  .rw[Z0d e]at ho;have h:=hi.keep q o ho;rw[hw q e (A3z h)];exact h
 .exact(hi.obj k o ho).kp (λq hq=>(own k o ho q hq).1) (λq hq=>(own k o ho q hq).2)
 .exact hi.apart j k x y q hx hy (D0X.1 ox) (D0X.1 oy)
 .obtain⟨t,f,h⟩:=hi.tab g cs hg;refine⟨t,f,?_⟩;show(if g=b then kk else G.keep g)=_;rw[Z0d]
  .exact h
  .rintro rfl;exact hb _ (hi.keep g _ h)
def A2X{G:A0o}{b:Nat}{k:Option Obj}:(G.keepAt b k).keep b=k:=Z0e rfl
def A2f{G:A0o}{b q:Nat}{k:Option Obj}(h:q≠b):(G.keepAt b k).keep q=G.keep q:=Z0d h
def A6X{G G':A0o}{b:Nat}{k k':Option Obj}(h:(G.keepAt b k).le G')(hk:∀x,G.keep b=some x->k'=some x):G.le (G'.keepAt b k'):=by
 refine⟨h.n,h.blk,h.st,λq o ho=>?_,h.top,h.hdr⟩;by_cases e:q=b
 .subst e;rw[A2X];exact hk o ho
 .rw[A2f e];exact h.keep q o (by rw[A2f e];exact ho)
def C1P{G:A0o}{b:Nat}{k:Option Obj}(hk:∀x,G.keep b=some x->k=some x):G.le (G.keepAt b k):=A6X (k:=G.keep b) ⟨Z0n _,λ_ _=>rfl,λ_ _ _ h=>h,λq o ho=>by
 by_cases e:q=b
 .subst e;rw[A2X]at ho;exact ho
 .rw[A2f e]at ho;exact ho,λ_ _=>Z0n _,λ_ _ _ _=>rfl⟩ hk
def B4u{w:World}{l:Nat}{o:Obj}:Ext w (w.putObj l o):=⟨rfl,rfl,rfl,by simp⟩
def B7B(fn:FuncId)(tmps:Array Value)(ps:Array Tmp)(assign body:Code)(df:Nat)(st:LoopState)(pe:Option Code):Loop:={state:=st,pending:=pe,fn,tmps,params:=ps,assign,body,defers:=df}
section
variable {C:Ctx} {N:Nat} {fn:FuncId} {tmps:Array Value} {ps:Array Tmp} {assign body:Code} {df l:Nat}
def B6j(J Jx:Mem->Prop):Exit->Env->Mem->Prop
 |.normal,_,M=>J M
 |.ret,_,M=>Jx M
 |_,_,_=>False
def D5k{G:A0o}{M:Mem}{w:World}{T:Env}{a:Act}{vs:Array Value}{J Jx:Mem->Prop}(hi:Inv C G M w)(hl:G.keep l=some (.loop (B7B fn tmps ps assign body df .ready none)))(hs:vs.size=ps.size)
 (ha:a.tmps=(ps.zip vs).foldl (λt (p,v)=>t.setIfInBounds p v) tmps)(he:A1R G N T a)(h:A9n (some l) [] C N assign (A7v (A9n (some l) [] C N body (B6j J Jx)) (λ_ _ _=>False)) T M):
 (Instr.yield l vs).run C.P w=.ok (.round l fn a.tmps assign body) w/\RoundIn (A5d none) 0 C.P l fn a.tmps assign body w λe w'=>
  (e=.returned (.bool true)/\∃M' G',J M'/\G.le G'/\Inv C G' M' w'/\Ext w w')\/
  (e=.returned (.bool false)/\∃M' G',Jx M'/\(G.keepAt l none).le G'/\Inv C G' M' w'/\Ext w w'/\G'.keep l=some (.loop (B7B fn tmps ps assign body df .done (some .ret)))):=by
 have hw:=hi.keep l _ hl
 refine⟨?_,roundIn_of_wpIn trivial ?_⟩
 .have:=run_yield (P:=C.P) hw hs;rw[ha];exact this
 have y:∀a:Act,shA [] a=a:=λa=>by simp[shA]
 have hA:({tmps:=a.tmps,defers:=[]}:Act)=shA [] a:=by rw[y];exact congrArg (Act.mk a.tmps) he.defers.symm
 rw[hA]
 refine Z2S (h G w a hi he) ?_
 rintro e _ w1 ⟨a1,rfl,T1,M1,G1,q1,q2,q3,q4,q5⟩
 cases e with
 |normal=>
  have g:=q2.keep _ _ hl
  have d:=q3.keep l _ g
  refine⟨_,run_beginRound d rfl,?_⟩
  obtain⟨b,m⟩:=ex (Obj.loop {B7B fn tmps ps assign body df .ready none with state:=.busy})
  rw[<-m]
  have i:l<w1.heap.size:=A3z d
  have u:=q3.turn (w':=w1.putObj l b) l (λx hx=>by rw[d]at hx;cases hx;trivial) (λk hk _=>World.putObj_heap_other hk) (some b) (λx hx=>by cases hx;exact World.putObj_heap_same i)
  have hb:=q1 (G1.keepAt l (some b)) _ a1 u q4.kp
  refine Z2S hb ?_
  rintro e2 _ w2 ⟨a2,rfl,T2,M2,G2,p1,p2,p3,p4,p5⟩
  have f:G2.keep l=some b:=p2.keep _ _ A2X
  have c:w2.heap[l]?=some b:=p3.keep l _ f
  rw[m]at c
  have s:l<w2.heap.size:=A3z c
  have z:∀x,w2.heap[l]?=some x->D0y x:=λx hx=>by rw[c]at hx;cases hx;trivial
  have fin:∀j:Option Code,Inv C (G2.keepAt l (some (.loop (B7B fn tmps ps assign body df (if j.isNone then .ready else .done) j)))) M2 (w2.putObj l (.loop (B7B fn tmps ps assign body df (if j.isNone then .ready else .done) j))):=λj=>p3.turn l z (λk hk _=>World.putObj_heap_other hk) _ (λx hx=>by cases hx;exact World.putObj_heap_same s)
  have r:∀o,Ext w (w2.putObj l o):=λo=>(q5.trans B4u).trans (p5.trans B4u)
  cases e2 with
  |normal=>
   refine⟨_,_,run_endRound none c,.inl ⟨rfl,M2,_,p1,?_,fin none,r _⟩⟩
   refine q2.trans (A6X p2 λx hx=>?_)
   rw[g]at hx;exact hx
  |ret=>
   refine⟨_,_,run_endRound (some .ret) c,.inr ⟨rfl,M2,_,p1,?_,fin (some .ret),r _,A2X⟩⟩
   have h1:(G.keepAt l none).le (G1.keepAt l none):=A6X (k:=none) (G:=G.keepAt l none) ⟨q2.n,q2.blk,q2.st,λq o ho=>by
    by_cases e:q=l
    .subst e;rw[A2X]at ho;exact absurd ho (by simp)
    .rw[A2f e,A2f e]at ho;exact q2.keep q o ho,q2.top,q2.hdr⟩ (λx hx=>by rw[A2X]at hx;exact absurd hx (by simp))
   refine h1.trans (A6X (k:=some b) (G:=G1.keepAt l none) ?_ (λx hx=>by rw[A2X]at hx;exact absurd hx (by simp)))
   refine⟨p2.n,p2.blk,p2.st,λq o ho=>?_,p2.top,p2.hdr⟩
   by_cases e:q=l
   .subst e;rw[A2X]at ho;rw[<-ho];exact f
   .rw[A2f e,A2f e]at ho;exact p2.keep q o (by rw[A2f e];exact ho)
  |exit id=>exact p1.elim
  |goto t=>exact p1.elim
  |panic ch=>exact p1.elim
  |outgrown=>exact p1.elim
 |exit id=>exact q1.elim
 |goto t=>exact q1.elim
 |ret=>exact q1.elim
 |panic ch=>exact q1.elim
 |outgrown=>exact q1.elim
end
end Go.Abs
