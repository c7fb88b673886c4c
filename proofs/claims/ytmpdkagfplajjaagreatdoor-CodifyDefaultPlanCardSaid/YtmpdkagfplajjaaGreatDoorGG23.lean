/- The texts WkP, WkO. -/
import Derived.Test.YtmpdkagfplajjaaGreatDoorGG21
import Derived.Test.YtmpdkagfplajjaaGreatDoorGG20
set_option linter.all false
set_option maxRecDepth 100000
namespace Go.Abs
open Go
section
variable {C:Ctx} {G:A0r} {M:Mem} {w:World}
def Inv.le_fixed(hi:Inv C G M w):(G.cut 0).le (A2X w):=⟨Z2S _,λb h=>absurd h (Z3O b),λb i v h=>hi.st b i v h,λb o h=>hi.keep b o h,λf h=>absurd h (Z3O f),λf h=>absurd h (Z3O f)⟩
def D3z(hi:Inv C G M w){a:AV}{x:Value}(hb:bdd 0 a)(h:Rep G a x):Rep (A2X w) a x:=Rep.mono hi.le_fixed _ _ (Rep.cut _ _ h hb)
def C8u(hi:Inv C G M w){cs:List AV}{xs:List Value}(hb:A1Y 0 cs)(h:A0u G cs xs):A0u (A2X w) cs xs:=A0u.mono hi.le_fixed _ _ (A0u.cut _ _ h hb)
def D2f(hi:Inv C G M w)(a:∀g,bdd 0 (C.gl g)):Inv C (A2X w) [] w:=⟨rfl,λ_ _ _ h=>h,λ_ _ h=>h,λ_ _ h=>by simp at h,λ_ _ _ _ _ h=>by simp at h,λg=>D3z hi (a g) (hi.gl g),λg cs h=>by obtain⟨t,f,h⟩:=hi.tab g cs h;exact⟨t,f,hi.keep _ _ h⟩⟩
def Inv.later{w':World}(hi:Inv C G M w)(hw:∀(b:Nat) (o:Obj),w.heap[b]?=some o->w'.heap[b]?=some o):Inv C G M w':=by
 refine⟨hi.n,λb i v h=>?_,λb o h=>hw b o (hi.keep b o h),λk o hk=>?_,hi.apart,hi.gl,hi.tab⟩
 .have h:=hi.st b i v h;unfold World.cell? at h|-;cases e:w.heap[b]? with
  |none=>simp[e]at h
  |some o=>simp only[e]at h;simp only[hw b o e];exact h
 .have ho:=hi.obj k o hk;refine ho.keeps (A0r.le.refl G) (by rw[hi.n];exact(Z0a.1 hk).1) rfl ⟨rfl,rfl⟩ (λ_ _ _ _ h=>h) (λ_=>rfl) λb hb=>?_;have hl:=ho.owns_lt hb;rw[Z0R hl,hw b _ (Z0R hl)]
end
def A0c.lone{C:Ctx}{f:FuncId}{args ds:List AV}{M:Mem}{n:Nat}{x:Value}(i:∀g,bdd 0 (C.gl g))(hs:Still M n (λ_=>True) args ds)(hb:A1Y 0 ds)(h:A0c C f ds [] (λv _=>v=.val x)):
 A0c C f args M (λv M'=>v=.val x/\M'=M):=by
 intro G w vs hi hr
 obtain⟨G2,g1,g2,g3⟩:=B1b hi n
 have a:=C8u g2 hb (g3 _ _ _ hs hr)
 refine Z2x (h (A2X w) w vs (D2f hi i) a) ?_
 rintro e w' ⟨r,M',G',v,rfl,rfl,d,c,hv,hx⟩
 exact⟨_,M,G,v,rfl,⟨rfl,rfl⟩,A0r.le.refl G,hi.later (λb o h=>c.keep b o (d.keep b o h)),by simpa[Rep]using hv,hx⟩
mutual
def C1U:AV->AV
 |.list sz rows _=>.list sz (B1j rows) .no
 |.agg cs=>.agg (A6J cs)
 |a=>a
def A6J:List AV->List AV
 |[]=>[]
 |c::cs=>C1U c::A6J cs
def B1j:List (List AV)->List (List AV)
 |[]=>[]
 |r::rs=>A6J r::B1j rs
end
def C0W:∀cs:List AV,(A6J cs).length=cs.length
 |[]=>rfl
 |c::cs=>by rw[A6J,Z0x,C0W cs,Z0x]
def B8u:∀rs:List (List AV),(B1j rs).length=rs.length
 |[]=>rfl
 |c::cs=>by rw[B1j,Z0x,B8u cs,Z0x]
def C8y{rs:List (List AV)}(h:B1j rs≠[]):rs≠[]:=by rintro rfl;exact h rfl
mutual
def C2y{G:A0r}:∀(a:AV) (x:Value),Rep G a x->Rep G (C1U a) x
 |.list sz rows own,x,k=>by
  simp only[C1U,Rep,B8u]at k|-;obtain⟨base,cap,hx,hl,hm,hb,ho⟩:=k;refine⟨base,cap,hx,hl,hm,?_,trivial⟩;cases base with
  |none=>obtain⟨rfl,h⟩:=hb;exact⟨rfl,h⟩
  |some a=>exact⟨λh=>hb.1 (C8y h),B8g rows _ _ hb.2⟩
 |.agg cs,x,k=>by simp only[C1U,Rep]at k|-;obtain⟨ys,hx,h1,h2⟩:=k;exact⟨ys,hx,B3X cs _ h1,h2⟩
 |.poison,_,k=>k
 |.val _,_,k=>k
 |.ptr _ _,_,k=>k
 |.cptr _,_,k=>k
 |.vref _ _ _ _ _,_,k=>k
 |.vptr _ _ _,_,k=>k
 |.mapr _,_,k=>k
 |.func _ _ _,_,k=>k
 |.iface _ _,_,k=>k
 |.tuple _,_,k=>k
def B3X{G:A0r}:∀(cs:List AV) (ys:List Value),A0u G cs ys->A0u G (A6J cs) ys
 |[],ys,k=>k
 |c::cs,ys,k=>by simp only[A6J,A0u]at k|-;obtain⟨y,a,hy,h1,h2⟩:=k;exact⟨y,a,hy,C2y c y h1,B3X cs a h2⟩
def B9m{G:A0r}:∀(cs:List AV) (b i:Nat),A0S G cs b i->A0S G (A6J cs) b i
 |[],_,_,k=>k
 |c::cs,b,i,k=>by simp only[A6J,A0S]at k|-;obtain⟨⟨v,hv,ho,h1⟩,h2⟩:=k;exact⟨⟨v,hv,ho,C2y c v h1⟩,B9m cs b (i+1) h2⟩
def B8g{G:A0r}{sz:Nat}:∀(rs:List (List AV)) (b i:Nat),A0D G sz rs b i->A0D G sz (B1j rs) b i
 |[],_,_,k=>k
 |r::rs,b,i,k=>by simp only[B1j,A0D]at k|-;exact⟨⟨by rw[C0W];exact k.1.1,B9m r b i k.1.2⟩,B8g rs b (i+sz) k.2⟩
end
def A0c.disown{C:Ctx}{f:FuncId}{args ds:List AV}{M:Mem}{Q:AV->Mem->Prop}(hd:A6J args=ds)(h:A0c C f ds M Q):A0c C f args M Q:=λG w vs hi hr=>h G w vs hi (hd▸B3X args vs hr)
def C9Q(M:Mem):A4M M M.length=M:=by
 refine Z1L λi=>?_;cases e:M[i]? with
 |none=>rw[Z4c,C0j];exact Z4c.1 e
 |some o=>exact A6g e λ_ _ _ _ _ _=>(Z0a.1 e).1
def A0c.calm{C:Ctx}{f:FuncId}{args ds:List AV}{M:Mem}{Q:AV->Mem->Prop}(hs:Still M M.length (λ_=>True) args ds)(h:A0c C f ds M Q):A0c C f args M Q:=by intro G w vs hi hr;obtain⟨G2,g1,g2,g3⟩:=B1b hi M.length;rw[C9Q]at g2;refine Z2x (h G2 w vs g2 (g3 _ _ _ hs hr)) ?_;rintro e w' ⟨r,M',G',v,rfl,h1,h2,h3⟩;exact⟨r,M',G',v,rfl,h1,g1.trans h2,h3⟩
end Go.Abs
