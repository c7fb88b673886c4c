/- The texts ElU, EmU. -/
import Derived.Test.YtjmjekcaifkboaaGreatDoorQG37
import Derived.ChangeSame
set_option linter.all false
set_option maxRecDepth 1000000
namespace Go.Abs
open Go Go.Proofs Go.Proofs.YtjmjekcaifkboaaGreatDoor Go.ChangeShapes
section
variable {W:World} (h:laidMetH Tryz.prog A5M W)
include h
def C7T:Rep (A2w W) (K1.glT 0) (.pointer (some ⟨0,0,none⟩)):=by
 obtain⟨g,t,cs,fuel,p,hg,ht,hv,hd⟩:=h.funcs (n:= "pandect/syntax.order") (d:=.agg [.iface "func" (.lit (.string [112,97,110,100,101,99,116,47,115,121,110,116,97,120,46,111,114,100,101,114,36,49])),.iface "func" (.lit (.string [112,97,110,100,101,99,116,47,115,121,110,116,97,120,46,111,114,100,101,114,36,50]))]) (by simp[A5M,Rows.traceNeverLostRow,Rows.laid_pandect_syntax_order]);obtain rfl:=Z1a ((show Tryz.prog.globalNamed "pandect/syntax.order"=some 0 by kernel_rfl).symm.trans hg);obtain rfl:=Z1a ((show(Tryz.prog.globals[0]?).map (·.type)=some 181 by kernel_rfl).symm.trans ht);have a:DataW.trod (funcToken Tryz.prog) Tryz.prog W 0 (λ_=>true) true fuel 181 cs.toList=some (.agg [.held [112,97,110,100,101,99,116,47,115,121,110,116,97,120,46,111,114,100,101,114,36,49],.held [112,97,110,100,101,99,116,47,115,121,110,116,97,120,46,111,114,100,101,114,36,50]],p):=hd;obtain⟨y0,y1,n,hy,hl,h0,h1⟩:=trod_struct2 Tryz.underlying181 a;have c1:Tryz.prog.cellsOf 179=1:=Q2;have c2:Tryz.prog.cellsOf 116=1:=Q2;have c3:Tryz.prog.cellsOf 181=2:=Q2;rw[c3]at hl;obtain⟨l⟩:=cs;simp only[c1,c2]at h0 h1
 match l,hl with
 |[v0,v1],_=>
  simp only[Z1z,Z1h,Z2c,Z4a]at h0 h1;simp only[Z0i,DataW.agg.injEq,Z2e]at hy;obtain⟨⟨e0,e1,-⟩,-⟩:=hy;obtain⟨d0,q0⟩:=y0;obtain⟨d1,q1⟩:=y1;simp only at e0 e1;subst e0;subst e1;obtain rfl:=func_of_trod (f0:=356) Tryz.underlying179 Q2 h0;obtain rfl:=func_of_trod (f0:=357) Tryz.underlying116 Q2 h1;show Rep (A2w W) (.cptr [.func (.func 356) [] [],.func (.func 357) [] []]) _;simp only[Rep];refine⟨0,0,rfl,?_⟩;have k0:=Z3b hg hv 0;have k1:=Z3b hg hv 1;refine⟨⟨_,(show W.cell? _=some _ by simpa using k0),rfl,?_⟩,⟨_,(show W.cell? _=some _ by simpa using k1),rfl,?_⟩,trivial⟩
  .simp only[Rep];exact⟨#[],#[],rfl,ZCT,ZCT⟩
  .simp only[Rep];exact⟨#[],#[],rfl,ZCT,ZCT⟩
def B8O:Inv K1.C0 (A2w W) [] W:=
 ⟨rfl,λ_ _ _ h=>h,λ_ _ h=>h,λ_ _ h=>by simp at h,λ_ _ _ _ _ h=>by simp at h,λg=>by
  show Rep (A2w W) (K1.glT g) _
  match g with
  |0=>exact C7T h
  |1=>trivial
  |2=>exact C6B h
  |3=>trivial
  |4=>trivial
  |5=>trivial
  |6=>trivial
  |7=>trivial
  |8=>exact C8l h
  |n+9=>trivial,λg cs hg=>by simp[K1.C0,WC]at hg⟩
end
end Go.Abs
section
set_option maxRecDepth 1000000
namespace Go.Abs.Em
open Go Go.Proofs Go.Proofs.YtjmjekcaifkboaaGreatDoor Go.ChangeShapes
section
variable {W:World} (h:laidMetH Tryz.prog A5M W)
include h
def C7T:Rep (A2w W) (K1.glT 0) (.pointer (some ⟨0,0,none⟩)):=by
 obtain⟨g,t,cs,fuel,p,hg,ht,hv,hd⟩:=h.funcs (n:= "pandect/syntax.order") (d:=.agg [.iface "func" (.lit (.string [112,97,110,100,101,99,116,47,115,121,110,116,97,120,46,111,114,100,101,114,36,49])),.iface "func" (.lit (.string [112,97,110,100,101,99,116,47,115,121,110,116,97,120,46,111,114,100,101,114,36,50]))]) (by simp[A5M,Rows.traceRemovedRow,Rows.laid_pandect_syntax_order]);obtain rfl:=Z1a ((show Tryz.prog.globalNamed "pandect/syntax.order"=some 0 by kernel_rfl).symm.trans hg);obtain rfl:=Z1a ((show(Tryz.prog.globals[0]?).map (·.type)=some 181 by kernel_rfl).symm.trans ht);have a:DataW.trod (funcToken Tryz.prog) Tryz.prog W 0 (λ_=>true) true fuel 181 cs.toList=some (.agg [.held [112,97,110,100,101,99,116,47,115,121,110,116,97,120,46,111,114,100,101,114,36,49],.held [112,97,110,100,101,99,116,47,115,121,110,116,97,120,46,111,114,100,101,114,36,50]],p):=hd;obtain⟨y0,y1,n,hy,hl,h0,h1⟩:=trod_struct2 Tryz.underlying181 a;have c1:Tryz.prog.cellsOf 179=1:=Q2;have c2:Tryz.prog.cellsOf 116=1:=Q2;have c3:Tryz.prog.cellsOf 181=2:=Q2;rw[c3]at hl;obtain⟨l⟩:=cs;simp only[c1,c2]at h0 h1
 match l,hl with
 |[v0,v1],_=>
  simp only[Z1z,Z1h,Z2c,Z4a]at h0 h1;simp only[Z0i,DataW.agg.injEq,Z2e]at hy;obtain⟨⟨e0,e1,-⟩,-⟩:=hy;obtain⟨d0,q0⟩:=y0;obtain⟨d1,q1⟩:=y1;simp only at e0 e1;subst e0;subst e1;obtain rfl:=func_of_trod (f0:=356) Tryz.underlying179 Q2 h0;obtain rfl:=func_of_trod (f0:=357) Tryz.underlying116 Q2 h1;show Rep (A2w W) (.cptr [.func (.func 356) [] [],.func (.func 357) [] []]) _;simp only[Rep];refine⟨0,0,rfl,?_⟩;have k0:=Z3b hg hv 0;have k1:=Z3b hg hv 1;refine⟨⟨_,(show W.cell? _=some _ by simpa using k0),rfl,?_⟩,⟨_,(show W.cell? _=some _ by simpa using k1),rfl,?_⟩,trivial⟩
  .simp only[Rep];exact⟨#[],#[],rfl,ZCT,ZCT⟩
  .simp only[Rep];exact⟨#[],#[],rfl,ZCT,ZCT⟩
def B8O:Inv K1.C0 (A2w W) [] W:=
 ⟨rfl,λ_ _ _ h=>h,λ_ _ h=>h,λ_ _ h=>by simp at h,λ_ _ _ _ _ h=>by simp at h,λg=>by
  show Rep (A2w W) (K1.glT g) _
  match g with
  |0=>exact C7T h
  |1=>trivial
  |2=>exact C6B h
  |3=>trivial
  |4=>trivial
  |5=>trivial
  |6=>trivial
  |7=>trivial
  |8=>exact C8l h
  |n+9=>trivial,λg cs hg=>by simp[K1.C0,WC]at hg⟩
end
end Go.Abs.Em
end
