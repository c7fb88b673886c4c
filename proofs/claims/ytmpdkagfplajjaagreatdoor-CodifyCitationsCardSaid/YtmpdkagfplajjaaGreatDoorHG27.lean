/- The texts CyR, CyT. -/
import Derived.Test.YtmpdkagfplajjaaGreatDoorHG20
import Derived.Test.YtmpdkagfplajjaaGreatDoorHG22
import Derived.LaidMore
import Derived.LaidHandle
import Derived.MakeChecks
set_option linter.all false
set_option maxRecDepth 1000000
namespace Go.Abs
open Go Go.Proofs
def B9t{W}{g}:∀{a:List AV} {vs:List Value} {i:Nat},A0t (A3g W) a vs->(∀v∈vs,v.oneCell'=true)->(∀j v,vs[j]?=some v->W.cell? ⟨g,i+j,none⟩=some v)->A0N (A3g W) a g i
 |[],_,_,_,_,_=>trivial
 |c::cs,vs,i,hr,h1,hc=>by simp only[A0t]at hr;obtain⟨y,ys,rfl,hy,b⟩:=hr;refine⟨⟨y,hc 0 y rfl,h1 y (by simp),hy⟩,B9t b (λv hv=>h1 v (by simp[hv])) λj v hv=>?_⟩;have:=hc (j+1) v (by simpa using hv);rw[show i+1+j=i+(j+1)by omega];exact this
def B0S{P}{W}:∀{l:List (String×DataW Unit)} {ps:List MemPlace},DataW.LaidVars P W l ps->∀{n:String} {d:DataW Unit},(n,d)∈l->
 ∃g t cs fuel p,P.globalNamed n=some g/\(P.globals[g]?).map (·.type)=some t/\W.var? P n=some cs/\DataW.trod (λ_=>()) P W 0 (λ_=>true) false fuel t cs.toList=some (d,p)
 |[],_,_,_,_,hm=>by simp at hm
 |(n',d')::r,ps,h,n,d,hm=>by
  obtain⟨g,t,cs,fuel,p,q,h1,h2,h3,h4,h5,_⟩:=h;rcases Z0s.1 hm with e|hm
  .cases e;exact⟨g,t,cs,fuel,p,h1,h2,h3,h4⟩
  .exact B0S h5 hm
def D3h{P}{W}{l}(h:laidMetH P l W){n}{d}(hm:(n,d)∈l)(hd:d.handleName?.isNone=true):∃g t cs fuel p,P.globalNamed n=some g/\(P.globals[g]?).map (·.type)=some t/\W.var? P n=some cs/\DataW.trod (λ_=>()) P W 0 (λ_=>true) false fuel t cs.toList=some (d,p):=by
 have key:laidMet P l W\/laidMet P (l.filter λx=>x.2.handleName?.isNone) W:=by
  unfold laidMetH at h;split at h
  .exact .inl h
  .exact .inr h.1
 rcases key with⟨ps,hl,_⟩|⟨ps,hl,_⟩
 .exact B0S hl hm
 .exact B0S hl (Z1p.2 ⟨hm,hd⟩)
def A8t{P}{W}{l}(h:laidMetH P l W){n}{d}(hm:(n,d)∈l)(hd:d.handleName?.isNone=true){g}{t:TypeId}(hg:P.globalNamed n=some g)(ht:(P.globals[g]?).map (·.type)=some t) {sh}{a}(hf:Sh.fits P K1.E0 sh t=true)(ha:A4c K1.E0 400 sh d=some a):Rep (A3g W) (.cptr a) (.pointer (some ⟨g,0,none⟩)):=by
 obtain⟨g',t',cs,fuel,p,e1,e2,e3,e4⟩:=D3h h hm hd
 obtain rfl:=Z1H (hg.symm.trans e1)
 obtain rfl:=Z1H (ht.symm.trans e2)
 obtain⟨⟨b,⟨n0,hn⟩,hr,_⟩,h1⟩:=A9s (E:=K1.E0) (λi hi=>absurd hi (Z3N i)) fuel sh t cs.toList d p hf e4
 have k1:=hn (400+n0) (by omega)
 have k2:=C6R ha n0
 obtain rfl:=Z1H (k2.symm.trans k1)
 simp only[Rep]
 refine⟨g,0,rfl,B9t hr h1 λj v hv=>?_⟩
 have:=Z4k e1 e3 (0+j)
 rw[this]
 simpa using hv
open Go Go.Proofs Go.Proofs.YtmpdkagfplajjaaGreatDoor
def B9V{sh:Sh}{d:DataW Unit}(h:(A4c K1.E0 400 sh d).isSome=true):∃a,A4c K1.E0 400 sh d=some a/\K1.cl sh d=.cptr a:=by obtain⟨a,ha⟩:=Z2W.1 h;exact⟨a,ha,by simp[K1.cl,ha]⟩
abbrev A8K:List (String×DataW Unit):=Rows.codifyValidationRow.laid
section
variable {W:World} (h:laidMetH Tryz.prog A8K W)
include h
def E0N:Rep (A3g W) (K1.glT 0) (.pointer (some ⟨0,0,none⟩)):=by obtain⟨a,ha,hc⟩:=B9V (sh:=.parts (List.replicate 8 (.slice 1 (.int .i64)))) (d:=Rows.laid_pandect_unit_below) (by kernel_rfl);have e:K1.glT 0=.cptr a:=hc;rw[e];exact A8t (t:=((Tryz.prog.globals[0]?).map (·.type)).getD 0) h (n:= "pandect/unit.below") (d:=Rows.laid_pandect_unit_below) (by simp[A8K,Rows.codifyValidationRow]) (by kernel_rfl) (by kernel_rfl) (by kernel_rfl) (by kernel_rfl) ha
def E1k:Rep (A3g W) (K1.glT 1) (.pointer (some ⟨1,0,none⟩)):=by obtain⟨a,ha,hc⟩:=B9V (sh:=.parts (List.replicate 8 .str)) (d:=Rows.laid_pandect_unit_names) (by kernel_rfl);have e:K1.glT 1=.cptr a:=hc;rw[e];exact A8t (t:=((Tryz.prog.globals[1]?).map (·.type)).getD 0) h (n:= "pandect/unit.names") (d:=Rows.laid_pandect_unit_names) (by simp[A8K,Rows.codifyValidationRow]) (by kernel_rfl) (by kernel_rfl) (by kernel_rfl) (by kernel_rfl) ha
def E1w:Rep (A3g W) (K1.glT 6) (.pointer (some ⟨6,0,none⟩)):=by obtain⟨a,ha,hc⟩:=B9V (sh:=K1.u8s 256) (d:=Rows.laid_unicode_utf8_first) (by kernel_rfl);have e:K1.glT 6=.cptr a:=hc;rw[e];exact A8t (t:=((Tryz.prog.globals[6]?).map (·.type)).getD 0) h (n:= "unicode/utf8.first") (d:=Rows.laid_unicode_utf8_first) (by simp[A8K,Rows.codifyValidationRow]) (by kernel_rfl) (by kernel_rfl) (by kernel_rfl) (by kernel_rfl) ha
def D9Q:Rep (A3g W) (K1.glT 7) (.pointer (some ⟨7,0,none⟩)):=by obtain⟨a,ha,hc⟩:=B9V (sh:=.parts (List.replicate 16 (K1.u8s 2))) (d:=Rows.laid_unicode_utf8_acceptRanges) (by kernel_rfl);have e:K1.glT 7=.cptr a:=hc;rw[e];exact A8t (t:=((Tryz.prog.globals[7]?).map (·.type)).getD 0) h (n:= "unicode/utf8.acceptRanges") (d:=Rows.laid_unicode_utf8_acceptRanges) (by simp[A8K,Rows.codifyValidationRow]) (by kernel_rfl) (by kernel_rfl) (by kernel_rfl) (by kernel_rfl) ha
def E1m:Rep (A3g W) (K1.glT 8) (.pointer (some ⟨8,0,none⟩)):=by obtain⟨a,ha,hc⟩:=B9V (sh:=.parts (List.replicate 20 (.int .u64))) (d:=Rows.laid_internal_strconv_uint64pow10) (by kernel_rfl);have e:K1.glT 8=.cptr a:=hc;rw[e];exact A8t (t:=((Tryz.prog.globals[8]?).map (·.type)).getD 0) h (n:= "internal/strconv.uint64pow10") (d:=Rows.laid_internal_strconv_uint64pow10) (by simp[A8K,Rows.codifyValidationRow]) (by kernel_rfl) (by kernel_rfl) (by kernel_rfl) (by kernel_rfl) ha
def E0k:Rep (A3g W) (K1.glT 9) (.pointer (some ⟨9,0,none⟩)):=by obtain⟨a,ha,hc⟩:=B9V (sh:=K1.u8s 32) (d:=Rows.laid_math_bits_deBruijn32tab) (by kernel_rfl);have e:K1.glT 9=.cptr a:=hc;rw[e];exact A8t (t:=((Tryz.prog.globals[9]?).map (·.type)).getD 0) h (n:= "math/bits.deBruijn32tab") (d:=Rows.laid_math_bits_deBruijn32tab) (by simp[A8K,Rows.codifyValidationRow]) (by kernel_rfl) (by kernel_rfl) (by kernel_rfl) (by kernel_rfl) ha
def D8W:Rep (A3g W) (K1.glT 10) (.pointer (some ⟨10,0,none⟩)):=by obtain⟨a,ha,hc⟩:=B9V (sh:=K1.u8s 64) (d:=Rows.laid_math_bits_deBruijn64tab) (by kernel_rfl);have e:K1.glT 10=.cptr a:=hc;rw[e];exact A8t (t:=((Tryz.prog.globals[10]?).map (·.type)).getD 0) h (n:= "math/bits.deBruijn64tab") (d:=Rows.laid_math_bits_deBruijn64tab) (by simp[A8K,Rows.codifyValidationRow]) (by kernel_rfl) (by kernel_rfl) (by kernel_rfl) (by kernel_rfl) ha
end
end Go.Abs
