/- A part of the proof. -/
import Derived.Test.YtmpdkagfplajjaaGreatDoorHG27
import Derived.ChangeSame
set_option linter.all false
set_option maxRecDepth 1000000
namespace Go.Abs
open Go Go.Proofs Go.Proofs.YtmpdkagfplajjaaGreatDoor Go.ChangeShapes
section
variable {W:World} (h:laidMetH Tryz.prog A8K W)
include h
def E1o:Rep (A3g W) (K1.glT 3) (.pointer (some ⟨3,0,none⟩)):=by
 obtain⟨g,t,cs,fuel,p,hg,ht,hv,hd⟩:=h.funcs (n:= "pandect/syntax.order") (d:=.agg [.iface "func" (.lit (.string [112,97,110,100,101,99,116,47,115,121,110,116,97,120,46,111,114,100,101,114,36,49])),.iface "func" (.lit (.string [112,97,110,100,101,99,116,47,115,121,110,116,97,120,46,111,114,100,101,114,36,50]))]) (by simp[A8K,Rows.codifyValidationRow,Rows.laid_pandect_syntax_order]);obtain rfl:=Z1H ((show Tryz.prog.globalNamed "pandect/syntax.order"=some 3 by kernel_rfl).symm.trans hg);obtain rfl:=Z1H ((show(Tryz.prog.globals[3]?).map (·.type)=some 260 by kernel_rfl).symm.trans ht);have a:DataW.trod (funcToken Tryz.prog) Tryz.prog W 0 (λ_=>true) true fuel 260 cs.toList=some (.agg [.held [112,97,110,100,101,99,116,47,115,121,110,116,97,120,46,111,114,100,101,114,36,49],.held [112,97,110,100,101,99,116,47,115,121,110,116,97,120,46,111,114,100,101,114,36,50]],p):=hd;obtain⟨y0,y1,n,hy,hl,h0,h1⟩:=trod_struct2 Tryz.underlying260 a;have c1:Tryz.prog.cellsOf 192=1:=by kernel_rfl
 have c2:Tryz.prog.cellsOf 148=1:=by kernel_rfl
 have c3:Tryz.prog.cellsOf 260=2:=by kernel_rfl
 rw[c3]at hl;obtain⟨l⟩:=cs;simp only[c1,c2]at h0 h1
 match l,hl with
 |[v0,v1],_=>
  simp only[Z1h,Z0B,Z2w,Z1U]at h0 h1;simp only[Z0h,DataW.agg.injEq,Z1a]at hy;obtain⟨⟨e0,e1,-⟩,-⟩:=hy;obtain⟨d0,q0⟩:=y0;obtain⟨d1,q1⟩:=y1;simp only at e0 e1;subst e0;subst e1;obtain rfl:=func_of_trod (f0:=444) Tryz.underlying192 (by kernel_rfl) h0;obtain rfl:=func_of_trod (f0:=445) Tryz.underlying148 (by kernel_rfl) h1;show Rep (A3g W) (.cptr [.func (.func 444) [] [],.func (.func 445) [] []]) _;simp only[Rep];refine⟨3,0,rfl,?_⟩;have k0:=Z4k hg hv 0;have k1:=Z4k hg hv 1;refine⟨⟨_,(show W.cell? _=some _ by simpa using k0),rfl,?_⟩,⟨_,(show W.cell? _=some _ by simpa using k1),rfl,?_⟩,trivial⟩
  .simp only[Rep];exact⟨#[],#[],rfl,by simp[A0t],by simp[A0t]⟩
  .simp only[Rep];exact⟨#[],#[],rfl,by simp[A0t],by simp[A0t]⟩
def C6O:Inv K1.C0 (A3g W) [] W:=
 ⟨rfl,λ_ _ _ h=>h,λ_ _ h=>h,λ_ _ h=>by simp at h,λ_ _ _ _ _ h=>by simp at h,λg=>by
  show Rep (A3g W) (K1.glT g) _
  match g with
  |0=>exact E0N h
  |1=>exact E1k h
  |2=>trivial
  |3=>exact E1o h
  |4=>trivial
  |5=>trivial
  |6=>exact E1w h
  |7=>exact D9Q h
  |8=>exact E1m h
  |9=>exact E0k h
  |10=>exact D8W h
  |n+11=>trivial,λg cs hc=>by cases hc⟩
end
end Go.Abs
