/- A part of the proof. -/
import Derived.Test.YtmpdkagfplajjaaGreatDoorGG26
import Derived.ChangeSame
set_option linter.all false
set_option maxRecDepth 1000000
namespace Go.Abs
open Go Go.Proofs Go.Proofs.YtmpdkagfplajjaaGreatDoor Go.ChangeShapes
section
variable {W:World} (h:laidMetH Tryz.prog A8R W)
include h
def E1p:Rep (A2X W) (K1.glT 3) (.pointer (some ⟨3,0,none⟩)):=by
 obtain⟨g,t,cs,fuel,p,hg,ht,hv,hd⟩:=h.funcs (n:= "pandect/syntax.order") (d:=.agg [.iface "func" (.lit (.string [112,97,110,100,101,99,116,47,115,121,110,116,97,120,46,111,114,100,101,114,36,49])),.iface "func" (.lit (.string [112,97,110,100,101,99,116,47,115,121,110,116,97,120,46,111,114,100,101,114,36,50]))]) (by simp[A8R,Rows.codifyValidationRow,Rows.laid_pandect_syntax_order]);obtain rfl:=Z1Q ((show Tryz.prog.globalNamed "pandect/syntax.order"=some 3 by kernel_rfl).symm.trans hg);obtain rfl:=Z1Q ((show(Tryz.prog.globals[3]?).map (·.type)=some 260 by kernel_rfl).symm.trans ht);have a:DataW.trod (funcToken Tryz.prog) Tryz.prog W 0 (λ_=>true) true fuel 260 cs.toList=some (.agg [.held [112,97,110,100,101,99,116,47,115,121,110,116,97,120,46,111,114,100,101,114,36,49],.held [112,97,110,100,101,99,116,47,115,121,110,116,97,120,46,111,114,100,101,114,36,50]],p):=hd;obtain⟨y0,y1,n,hy,hl,h0,h1⟩:=trod_struct2 Tryz.underlying260 a;have c1:Tryz.prog.cellsOf 192=1:=by kernel_rfl
 have c2:Tryz.prog.cellsOf 148=1:=by kernel_rfl
 have c3:Tryz.prog.cellsOf 260=2:=by kernel_rfl
 rw[c3]at hl;obtain⟨l⟩:=cs;simp only[c1,c2]at h0 h1
 match l,hl with
 |[v0,v1],_=>
  simp only[Z1k,Z0C,Z2l,Z2g]at h0 h1;simp only[Z0f,DataW.agg.injEq,Z1c]at hy;obtain⟨⟨e0,e1,-⟩,-⟩:=hy;obtain⟨d0,q0⟩:=y0;obtain⟨d1,q1⟩:=y1;simp only at e0 e1;subst e0;subst e1;obtain rfl:=func_of_trod (f0:=444) Tryz.underlying192 (by kernel_rfl) h0;obtain rfl:=func_of_trod (f0:=445) Tryz.underlying148 (by kernel_rfl) h1;show Rep (A2X W) (.cptr [.func (.func 444) [] [],.func (.func 445) [] []]) _;simp only[Rep];refine⟨3,0,rfl,?_⟩;have k0:=Z4r hg hv 0;have k1:=Z4r hg hv 1;refine⟨⟨_,(show W.cell? _=some _ by simpa using k0),rfl,?_⟩,⟨_,(show W.cell? _=some _ by simpa using k1),rfl,?_⟩,trivial⟩
  .simp only[Rep];exact⟨#[],#[],rfl,by simp[A0u],by simp[A0u]⟩
  .simp only[Rep];exact⟨#[],#[],rfl,by simp[A0u],by simp[A0u]⟩
def C7c:Inv K1.C0 (A2X W) [] W:=
 ⟨rfl,λ_ _ _ h=>h,λ_ _ h=>h,λ_ _ h=>by simp at h,λ_ _ _ _ _ h=>by simp at h,λg=>by
  show Rep (A2X W) (K1.glT g) _
  match g with
  |0=>exact E0Q h
  |1=>exact E1l h
  |2=>trivial
  |3=>exact E1p h
  |4=>trivial
  |5=>trivial
  |6=>exact E1w h
  |7=>exact D9S h
  |8=>exact E1n h
  |9=>exact E0n h
  |10=>exact D8U h
  |n+11=>trivial,λg cs hc=>by cases hc⟩
end
end Go.Abs
