/- The texts AbsT, AbsU2, AbsU3, AbsU, AbsV, AbsV2, AbsVo, AbsV3, AbsV4. -/
import Derived.Test.YtmihnfpinnfnfaaGreatDoorPG13
set_option linter.all false
namespace Go.Abs
mutual
def bdd(n:Nat):AV->Prop
 |.poison|.val _=>True
 |.ptr b _=>b<n
 |.cptr cs=>A1l n cs
 |.list _ rows own=>A4f n rows/\(match own with|.fam f=>f<n|_=>True)
 |.vref f _ _ _ _=>f<n
 |.vptr f _ _=>f<n
 |.mapr b=>b<n
 |.func _ f c=>A1l n f/\A1l n c
 |.iface _ v=>bdd n v
 |.agg cs=>A1l n cs
 |.tuple cs=>A1l n cs
def A1l(n:Nat):List AV->Prop
 |[]=>True
 |c::cs=>bdd n c/\A1l n cs
def A4f(n:Nat):List (List AV)->Prop
 |[]=>True
 |r::rs=>A1l n r/\A4f n rs
end
mutual
def B4n{G}:∀(a:AV) (x:Value),Rep G a x->bdd G.n a
 |.poison,_,_=>by simp[bdd]
 |.val v,x,k=>by simp[bdd]
 |.ptr b off,x,k=>by simp only[Rep]at k;simp only[bdd];exact k.1
 |.cptr cs,x,k=>by simp only[Rep]at k;simp only[bdd];obtain⟨b,i,_,hm⟩:=k;exact C1L cs b i hm
 |.list sz rows own,x,k=>by
  simp only[Rep]at k;simp only[bdd];obtain⟨base,cap,_,_,_,hb,ho⟩:=k;refine⟨?_,?_⟩
  .cases base with
   |none=>obtain⟨rfl,_⟩:=hb;simp[A4f]
   |some a=>exact C3V sz rows _ _ hb.2
  .cases own with
   |fam f=>exact ho.1
   |_=>trivial
 |.vref f g sz lo len,x,k=>by simp only[Rep]at k;simp only[bdd];exact k.1
 |.vptr f g off,x,k=>by simp only[Rep]at k;simp only[bdd];exact k.1
 |.mapr b,x,k=>by simp only[Rep]at k;simp only[bdd];exact k.1
 |.func fn f c,x,k=>by simp only[Rep]at k;simp only[bdd];obtain⟨fs,cs,_,h1,h2⟩:=k;exact⟨B8u f _ h1,B8u c _ h2⟩
 |.iface t v,x,k=>by simp only[Rep]at k;simp only[bdd];obtain⟨y,_,h1⟩:=k;exact B4n v y h1
 |.agg cs,x,k=>by simp only[Rep]at k;simp only[bdd];obtain⟨ys,_,h1,_⟩:=k;exact B8u cs _ h1
 |.tuple cs,x,k=>by simp only[Rep]at k;simp only[bdd];obtain⟨ys,_,h1⟩:=k;exact B8u cs _ h1
def B8u{G}:∀(cs:List AV) (ys:List Value),A0s G cs ys->A1l G.n cs
 |[],ys,k=>by simp[A1l]
 |c::cs,ys,k=>by simp only[A0s]at k;simp only[A1l];obtain⟨y,a,_,h1,h2⟩:=k;exact⟨B4n c y h1,B8u cs a h2⟩
def C1L{G}:∀(cs:List AV) (b i:Nat),A0Q G cs b i->A1l G.n cs
 |[],_,_,_=>by simp[A1l]
 |c::cs,b,i,k=>by simp only[A0Q]at k;simp only[A1l];obtain⟨⟨v,_,_,h1⟩,h2⟩:=k;exact⟨B4n c v h1,C1L cs b (i+1) h2⟩
def C3V{G}(sz:Nat):∀(rs:List (List AV)) (b i:Nat),A0C G sz rs b i->A4f G.n rs
 |[],_,_,_=>by simp[A4f]
 |r::rs,b,i,k=>by simp only[A0C]at k;simp only[A4f];exact⟨C1L r b i k.1.2,C3V sz rs b (i+sz) k.2⟩
end
def A0p.cut(G:A0p)(n:Nat):A0p:={G with n:=n}
mutual
def Rep.cut{G}{n}:∀(a:AV) (x:Value),Rep G a x->bdd n a->Rep (G.cut n) a x
 |.poison,_,_,_=>by simp[Rep]
 |.val v,x,k,_=>by simpa[Rep]using k
 |.ptr b off,x,k,h=>by simp only[Rep,bdd]at k h|-;exact⟨h,k.2⟩
 |.cptr cs,x,k,h=>by simp only[Rep,bdd]at k h|-;obtain⟨b,i,hx,hm⟩:=k;exact⟨b,i,hx,A0Q.cut cs b i hm h⟩
 |.list sz rows own,x,k,h=>by
  simp only[Rep,bdd]at k h|-;obtain⟨base,cap,hx,hl,hm,hb,ho⟩:=k;refine⟨base,cap,hx,hl,hm,?_,?_⟩
  .cases base with
   |none=>exact hb
   |some a=>exact⟨hb.1,A0C.cut sz rows _ _ hb.2 h.1⟩
  .cases own with
   |fam f=>exact⟨h.2,ho.2⟩
   |full=>exact ho
   |no=>trivial
 |.vref f g sz lo len,x,k,h=>by simp only[Rep,bdd]at k h|-;exact⟨h,k.2⟩
 |.vptr f g off,x,k,h=>by simp only[Rep,bdd]at k h|-;exact⟨h,k.2⟩
 |.mapr b,x,k,h=>by simp only[Rep,bdd]at k h|-;exact⟨h,k.2⟩
 |.func fn f c,x,k,h=>by simp only[Rep,bdd]at k h|-;obtain⟨fs,cs,hx,h1,h2⟩:=k;exact⟨fs,cs,hx,A0s.cut f _ h1 h.1,A0s.cut c _ h2 h.2⟩
 |.iface t v,x,k,h=>by simp only[Rep,bdd]at k h|-;obtain⟨y,hx,h1⟩:=k;exact⟨y,hx,Rep.cut v y h1 h⟩
 |.agg cs,x,k,h=>by simp only[Rep,bdd]at k h|-;obtain⟨ys,hx,h1,h2⟩:=k;exact⟨ys,hx,A0s.cut cs _ h1 h,h2⟩
 |.tuple cs,x,k,h=>by simp only[Rep,bdd]at k h|-;obtain⟨ys,hx,h1⟩:=k;exact⟨ys,hx,A0s.cut cs _ h1 h⟩
def A0s.cut{G}{n}:∀(cs:List AV) (ys:List Value),A0s G cs ys->A1l n cs->A0s (G.cut n) cs ys
 |[],ys,k,_=>by simpa[A0s]using k
 |c::cs,ys,k,h=>by simp only[A0s,A1l]at k h|-;obtain⟨y,a,hy,h1,h2⟩:=k;exact⟨y,a,hy,Rep.cut c y h1 h.1,A0s.cut cs a h2 h.2⟩
def A0Q.cut{G}{n}:∀(cs:List AV) (b i:Nat),A0Q G cs b i->A1l n cs->A0Q (G.cut n) cs b i
 |[],_,_,_,_=>by simp[A0Q]
 |c::cs,b,i,k,h=>by simp only[A0Q,A1l]at k h|-;obtain⟨⟨v,hv,ho,h1⟩,h2⟩:=k;exact⟨⟨v,hv,ho,Rep.cut c v h1 h.1⟩,A0Q.cut cs b (i+1) h2 h.2⟩
def A0C.cut{G}{n}(sz:Nat):∀(rs:List (List AV)) (b i:Nat),A0C G sz rs b i->A4f n rs->A0C (G.cut n) sz rs b i
 |[],_,_,_,_=>by simp[A0C]
 |r::rs,b,i,k,h=>by simp only[A0C,A4f]at k h|-;exact⟨⟨k.1.1,A0Q.cut r b i k.1.2 h.1⟩,A0C.cut sz rs b (i+sz) k.2 h.2⟩
end
def C2A{G}{es}{xs}(h:A1q G es xs):∀e∈es,bdd G.n e.1/\bdd G.n e.2.1:=by
 induction h with
 |nil=>simp
 |cons h1 _ ih=>
  intro e he;rcases Z0r.1 he with rfl|he
  .exact⟨B4n _ _ h1.1,B4n _ _ h1.2.1⟩
  .exact ih e he
def A1q.cut{G}{n}{es}{xs}(h:A1q G es xs):(∀e∈es,bdd n e.1/\bdd n e.2.1)->A1q (G.cut n) es xs:=by
 induction h with
 |nil=>intro _;exact .nil
 |cons h1 _ ih=>intro hb;exact .cons ⟨Rep.cut _ _ h1.1 (hb _ Q1).1,Rep.cut _ _ h1.2.1 (hb _ Q1).2,h1.2.2⟩ (ih λe he=>hb e (by simp[he]))
def D3z(n:Nat):A0l->Prop
 |.cells _ cs=>A1l n cs
 |.vec _ sz cs _ hist=>∀h m,(h,m)∈hist->A1l n (cs.take (m*sz))
 |.map es _=>∀e∈es,bdd n e.1/\bdd n e.2.1
 |.miter m _ _ _=>∀b∈m,b<n
 |_=>True
def A5j.bdd{G}{w}{k}{o}(h:A5j G w k o):D3z G.n o:=by
 cases o with
 |cells t cs=>obtain⟨vs,_,h2,_⟩:=h;exact B8u _ _ h2
 |vec e sz cs g hist=>intro h' m hm;obtain⟨_,_,b,o,cap,vs,_,_,_,_,_,q,_⟩:=h.2.1 h' m hm;exact B8u _ _ q
 |map es clock=>obtain⟨xs,_,h2,_⟩:=h;exact C2A h2
 |miter m since A3l stepped=>exact h.2.1
 |_=>trivial
def A5j.cut{G}{w}{k n}{o}(h:A5j G w k o)(hb:D3z n o):A5j (G.cut n) w k o:=by
 cases o with
 |gone=>trivial
 |fam m sz=>exact h
 |cells t cs=>obtain⟨vs,h1,h2,h3⟩:=h;exact⟨vs,h1,A0s.cut _ _ h2 hb,h3⟩
 |vec e sz cs g hist=>refine⟨h.1,λh' m hm=>?_,h.2.2⟩;obtain⟨p1,p2,b,o,cap,vs,q1,q2,q3,q4,q5,q6,q7⟩:=h.2.1 h' m hm;exact⟨p1,p2,b,o,cap,vs,q1,q2,q3,q4,q5,A0s.cut _ _ q6 (hb h' m hm),q7⟩
 |map es clock=>obtain⟨xs,h1,h2,h3⟩:=h;exact⟨xs,h1,h2.cut hb,h3⟩
 |siter s pos=>exact h
 |miter m since A3l stepped=>exact⟨h.1,hb,h.2.2⟩
def Inv.cut{C}{G G'}{M X}{w w'}(hi:Inv C G M w)(c:G.le G')(a:Inv C G' (M++X) w'):Inv C (G'.cut M.length) M w'/\G.le (G'.cut M.length):=by
 have hn:=hi.n;refine⟨⟨rfl,a.st,a.keep,λk o hk=>?_,λj k x y b hx hy ox oy=>?_,λg=>?_,a.tab⟩,⟨by simp[A0p.cut,hn],c.blk,c.st,c.keep,c.top,c.hdr⟩⟩
 .have h1:=a.obj k o (by rw[Z0n (A0N hk)];exact hk);have h2:=(hi.obj k o hk).bdd;rw[hn]at h2;exact h1.cut h2
 .refine a.apart j k x y b (by rw[Z0n (A0N hx)];exact hx) (by rw[Z0n (A0N hy)];exact hy) ?_ ?_
  .cases x<;>exact ox
  .cases y<;>exact oy
 .have h2:=B4n _ _ (hi.gl g);rw[hn]at h2;exact Rep.cut _ _ (a.gl g) h2
def A0c.cut{C}{f}{args}{M}{Q:AV->Mem->Prop}(h:A0c C f args M Q){Q':AV->Mem->Prop}(hq:∀r M',Q r M'->∃X,M'=M++X/\bdd M.length r/\Q' r M):A0c C f args M Q':=by intro G w vs hi hr;refine Z1B (h G w vs hi hr) ?_;rintro e w' ⟨r,M',G',v,rfl,h1,h2,h3,h4,h5⟩;obtain⟨X,rfl,hb,a⟩:=hq r M' h1;obtain⟨k1,k2⟩:=hi.cut h2 h3;exact⟨r,M,_,v,rfl,a,k2,k1,Rep.cut _ _ h4 hb,h5⟩
mutual
def flat:AV->Bool
 |.val _=>true
 |.agg cs=>D0O cs
 |.tuple cs=>D0O cs
 |.iface _ v=>flat v
 |_=>false
def D0O:List AV->Bool
 |[]=>true
 |c::cs=>flat c&&D0O cs
end
section
variable {M:Mem} {s:Nat} {X:A0l} (hs:M[s]?=some A3R)
include hs
end

inductive BT where
 |leaf (v:AV)
 |node (l r:BT)
def C4e{M}{p}{l}(hb:B4R M (p::l)):M[p.1]?=some A3R/\B4R (M.set p.1 p.2) l:=by obtain⟨h1,h2⟩:=hb;simp only[Z0w,Z1D]at h2;refine⟨h1 p Q1,λq hq=>?_,h2.2⟩;rw[Z0f (λe=>h2.1 (by rw[e];exact List.mem_map_of_mem hq))];exact h1 q (by simp[hq])


def A6c{ops}{o}{T}{r r' s s':Prop}(hr:r->r')(hs:s->s')(h:A2q ops o T r s):A2q ops o T r' s':=by
 unfold A2q at h|-;split at h
 .exact hr h
 .split at h
  .split at h
   .split at h
    .rename_i e;rw[Z0c e];exact hr h
    .rename_i e;rw[Z0d e];exact hs h
   .exact hs h
   .exact h.elim
  .exact h.elim
def D0k{C}{h}{o}{K K':AV->Mem->Prop}{ρ:Operand->AV}{M}(hk:∀v m,K v m->K' v m)(hv:A4F C h o K ρ M):A4F C h o K' ρ M:=by
 unfold A4F at hv|-;split at hv
 .split at hv
  .exact hv.mono hk
  .exact hv.elim
 .split at hv
  .obtain⟨e,sz,bytes,h1,h2⟩:=hv;refine⟨e,sz,bytes,h1,?_⟩;split at h2
   .exact hk _ _ h2
   .exact h2.elim
  .exact hv.elim
 .split at hv
  .exact hk _ _ hv
  .exact⟨hv.1,λb=>hk _ _ (hv.2 b)⟩
def enters_of{P}{f}{fn}{c}(hf:P.funcs[f]?=some fn)(hb:fn.body=some c)(hn:(fn.name== "runtime.NumGoroutine")=false):D2z P f:=by
 intro args w;have a:¬fn.name= "runtime.NumGoroutine":=by simpa using hn
 simp[callFunc,hf,hb,a]
end Go.Abs
