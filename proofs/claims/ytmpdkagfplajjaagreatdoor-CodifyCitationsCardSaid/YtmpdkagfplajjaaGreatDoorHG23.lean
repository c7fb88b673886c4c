/- The texts WkP, WkO. -/
import Derived.Test.YtmpdkagfplajjaaGreatDoorHG21
import Derived.Test.YtmpdkagfplajjaaGreatDoorHG20
set_option linter.all false
set_option maxRecDepth 100000
namespace Go.Abs
open Go
section
variable {C:Ctx} {G:A0o} {M:Mem} {w:World}
def Inv.le_fixed(hi:Inv C G M w):(G.cut 0).le (A3g w):=⟨Z3a _,λb h=>absurd h (Z3N b),λb i v h=>hi.st b i v h,λb o h=>hi.keep b o h,λf h=>absurd h (Z3N f),λf h=>absurd h (Z3N f)⟩
def D3q(hi:Inv C G M w){a:AV}{x:Value}(hb:bdd 0 a)(h:Rep G a x):Rep (A3g w) a x:=Rep.mono hi.le_fixed _ _ (Rep.cut _ _ h hb)
def C8m(hi:Inv C G M w){cs:List AV}{xs:List Value}(hb:A1I 0 cs)(h:A0t G cs xs):A0t (A3g w) cs xs:=A0t.mono hi.le_fixed _ _ (A0t.cut _ _ h hb)
def D1Y(hi:Inv C G M w)(a:∀g,bdd 0 (C.gl g)):Inv C (A3g w) [] w:=⟨rfl,λ_ _ _ h=>h,λ_ _ h=>h,λ_ _ h=>by simp at h,λ_ _ _ _ _ h=>by simp at h,λg=>D3q hi (a g) (hi.gl g),λg cs h=>by obtain⟨t,f,h⟩:=hi.tab g cs h;exact⟨t,f,hi.keep _ _ h⟩⟩
def Inv.later{w':World}(hi:Inv C G M w)(hw:∀(b:Nat) (o:Obj),w.heap[b]?=some o->w'.heap[b]?=some o):Inv C G M w':=by
 refine⟨hi.n,λb i v h=>?_,λb o h=>hw b o (hi.keep b o h),λk o hk=>?_,hi.apart,hi.gl,hi.tab⟩
 .have h:=hi.st b i v h;unfold World.cell? at h|-;cases e:w.heap[b]? with
  |none=>simp[e]at h
  |some o=>simp only[e]at h;simp only[hw b o e];exact h
 .have ho:=hi.obj k o hk;refine ho.keeps (A0o.le.refl G) (by rw[hi.n];exact(Z0a.1 hk).1) rfl ⟨rfl,rfl⟩ (λ_ _ _ _ h=>h) (λ_=>rfl) λb hb=>?_;have hl:=ho.owns_lt hb;rw[Z0Q hl,hw b _ (Z0Q hl)]
end
def A0e.lone{C:Ctx}{f:FuncId}{args ds:List AV}{M:Mem}{n:Nat}{x:Value}(i:∀g,bdd 0 (C.gl g))(hs:Still M n (λ_=>True) args ds)(hb:A1I 0 ds)(h:A0e C f ds [] (λv _=>v=.val x)):
 A0e C f args M (λv M'=>v=.val x/\M'=M):=by
 intro G w vs hi hr
 obtain⟨G2,g1,g2,g3⟩:=B1f hi n
 have a:=C8m g2 hb (g3 _ _ _ hs hr)
 refine Z2B (h (A3g w) w vs (D1Y hi i) a) ?_
 rintro e w' ⟨r,M',G',v,rfl,rfl,d,c,hv,hx⟩
 exact⟨_,M,G,v,rfl,⟨rfl,rfl⟩,A0o.le.refl G,hi.later (λb o h=>c.keep b o (d.keep b o h)),by simpa[Rep]using hv,hx⟩
mutual
def C1z:AV->AV
 |.list sz rows _=>.list sz (B1m rows) .no
 |.agg cs=>.agg (A6H cs)
 |a=>a
def A6H:List AV->List AV
 |[]=>[]
 |c::cs=>C1z c::A6H cs
def B1m:List (List AV)->List (List AV)
 |[]=>[]
 |r::rs=>A6H r::B1m rs
end
def C0x:∀cs:List AV,(A6H cs).length=cs.length
 |[]=>rfl
 |c::cs=>by rw[A6H,Z0x,C0x cs,Z0x]
def B8o:∀rs:List (List AV),(B1m rs).length=rs.length
 |[]=>rfl
 |c::cs=>by rw[B1m,Z0x,B8o cs,Z0x]
def C8u{rs:List (List AV)}(h:B1m rs≠[]):rs≠[]:=by rintro rfl;exact h rfl
mutual
def C2h{G:A0o}:∀(a:AV) (x:Value),Rep G a x->Rep G (C1z a) x
 |.list sz rows own,x,k=>by
  simp only[C1z,Rep,B8o]at k|-;obtain⟨base,cap,hx,hl,hm,hb,ho⟩:=k;refine⟨base,cap,hx,hl,hm,?_,trivial⟩;cases base with
  |none=>obtain⟨rfl,h⟩:=hb;exact⟨rfl,h⟩
  |some a=>exact⟨λh=>hb.1 (C8u h),B8d rows _ _ hb.2⟩
 |.agg cs,x,k=>by simp only[C1z,Rep]at k|-;obtain⟨ys,hx,h1,h2⟩:=k;exact⟨ys,hx,B3V cs _ h1,h2⟩
 |.poison,_,k=>k
 |.val _,_,k=>k
 |.ptr _ _,_,k=>k
 |.cptr _,_,k=>k
 |.vref _ _ _ _ _,_,k=>k
 |.vptr _ _ _,_,k=>k
 |.mapr _,_,k=>k
 |.func _ _ _,_,k=>k
 |.iface _ _,_,k=>k
 |.tuple _,_,k=>k
def B3V{G:A0o}:∀(cs:List AV) (ys:List Value),A0t G cs ys->A0t G (A6H cs) ys
 |[],ys,k=>k
 |c::cs,ys,k=>by simp only[A6H,A0t]at k|-;obtain⟨y,a,hy,h1,h2⟩:=k;exact⟨y,a,hy,C2h c y h1,B3V cs a h2⟩
def B8V{G:A0o}:∀(cs:List AV) (b i:Nat),A0N G cs b i->A0N G (A6H cs) b i
 |[],_,_,k=>k
 |c::cs,b,i,k=>by simp only[A6H,A0N]at k|-;obtain⟨⟨v,hv,ho,h1⟩,h2⟩:=k;exact⟨⟨v,hv,ho,C2h c v h1⟩,B8V cs b (i+1) h2⟩
def B8d{G:A0o}{sz:Nat}:∀(rs:List (List AV)) (b i:Nat),A0C G sz rs b i->A0C G sz (B1m rs) b i
 |[],_,_,k=>k
 |r::rs,b,i,k=>by simp only[B1m,A0C]at k|-;exact⟨⟨by rw[C0x];exact k.1.1,B8V r b i k.1.2⟩,B8d rs b (i+sz) k.2⟩
end
def A0e.disown{C:Ctx}{f:FuncId}{args ds:List AV}{M:Mem}{Q:AV->Mem->Prop}(hd:A6H args=ds)(h:A0e C f ds M Q):A0e C f args M Q:=λG w vs hi hr=>h G w vs hi (hd▸B3V args vs hr)
def C9T(M:Mem):A4w M M.length=M:=by
 refine Z1G λi=>?_;cases e:M[i]? with
 |none=>rw[Z4b,B9K];exact Z4b.1 e
 |some o=>exact A6i e λ_ _ _ _ _ _=>(Z0a.1 e).1
def A0e.calm{C:Ctx}{f:FuncId}{args ds:List AV}{M:Mem}{Q:AV->Mem->Prop}(hs:Still M M.length (λ_=>True) args ds)(h:A0e C f ds M Q):A0e C f args M Q:=by intro G w vs hi hr;obtain⟨G2,g1,g2,g3⟩:=B1f hi M.length;rw[C9T]at g2;refine Z2B (h G2 w vs g2 (g3 _ _ _ hs hr)) ?_;rintro e w' ⟨r,M',G',v,rfl,h1,h2,h3⟩;exact⟨r,M',G',v,rfl,h1,g1.trans h2,h3⟩
end Go.Abs
