/- The texts ElR, ElT, EmT. -/
import Derived.Test.YtjmjekcaifkboaaGreatDoorQG22
import Derived.Test.YtjmjekcaifkboaaGreatDoorQG36
import Derived.LaidMore
import Derived.LaidHandle
import Derived.MakeChecks
import Derived.Test.YtjmjekcaifkboaaGreatDoorQG35
set_option linter.all false
set_option maxRecDepth 1000000
namespace Go.Abs
open Go Go.Proofs
def A9R{W:World}{g:Nat}:∀{a:List AV} {vs:List Value} {i:Nat},A0v (A2w W) a vs->(∀v∈vs,v.oneCell'=true)->(∀j v,vs[j]?=some v->W.cell? ⟨g,i+j,none⟩=some v)->A0S (A2w W) a g i
 |[],_,_,_,_,_=>trivial
 |c::cs,vs,i,hr,h1,hc=>by simp only[A0v]at hr;obtain⟨y,ys,rfl,hy,b⟩:=hr;refine⟨⟨y,hc 0 y rfl,h1 y Q1,hy⟩,A9R b (λv hv=>h1 v (by simp[hv])) λj v hv=>?_⟩;have:=hc (j+1) v ZBQ;rw[show i+1+j=i+(j+1)by omega];exact this
def A4w{P:Program}{W:World}:∀{l:List (String×DataW Unit)} {ps:List MemPlace},DataW.LaidVars P W l ps->∀{n:String} {d:DataW Unit},(n,d)∈l->
 ∃g t cs fuel p,P.globalNamed n=some g/\(P.globals[g]?).map (·.type)=some t/\W.var? P n=some cs/\DataW.trod (λ_=>()) P W 0 (λ_=>true) false fuel t cs.toList=some (d,p)
 |[],_,_,_,_,hm=>by simp at hm
 |(n',d')::r,ps,h,n,d,hm=>by
  obtain⟨g,t,cs,fuel,p,q,h1,h2,h3,h4,h5,_⟩:=h;rcases Z0p.1 hm with e|hm
  .cases e;exact⟨g,t,cs,fuel,p,h1,h2,h3,h4⟩
  .exact A4w h5 hm
def B5s{P:Program}{W:World}{l:List (String×DataW Unit)}(h:laidMetH P l W){n:String}{d:DataW Unit}(hm:(n,d)∈l)(hd:d.handleName?.isNone=true):∃g t cs fuel p,P.globalNamed n=some g/\(P.globals[g]?).map (·.type)=some t/\W.var? P n=some cs/\DataW.trod (λ_=>()) P W 0 (λ_=>true) false fuel t cs.toList=some (d,p):=by
 have key:laidMet P l W\/laidMet P (l.filter λx=>x.2.handleName?.isNone) W:=by
  unfold laidMetH at h;split at h
  .exact .inl h
  .exact .inr h.1
 rcases key with⟨ps,hl,_⟩|⟨ps,hl,_⟩
 .exact A4w hl hm
 .exact A4w hl (Z1o.2 ⟨hm,hd⟩)
def B1z{P:Program}{W:World}{l:List (String×DataW Unit)}(h:laidMetH P l W){n:String}{d:DataW Unit}(hm:(n,d)∈l)(hd:d.handleName?.isNone=true){g:Nat}{t:TypeId}(hg:P.globalNamed n=some g)(ht:(P.globals[g]?).map (·.type)=some t) {sh:Sh}{a:List AV}(hf:Sh.fits P K1.E0 sh t=true)(ha:A3l K1.E0 400 sh d=some a):Rep (A2w W) (.cptr a) (.pointer (some ⟨g,0,none⟩)):=by
 obtain⟨g',t',cs,fuel,p,e1,e2,e3,e4⟩:=B5s h hm hd
 obtain rfl:=Z1a (hg.symm.trans e1)
 obtain rfl:=Z1a (ht.symm.trans e2)
 obtain⟨⟨b,⟨n0,hn⟩,hr,_⟩,h1⟩:=A4J (E:=K1.E0) (λi hi=>absurd hi (Nat.not_lt_zero i)) fuel sh t cs.toList d p hf e4
 have k1:=hn (400+n0) Q0
 have k2:=B8S ha n0
 obtain rfl:=Z1a (k2.symm.trans k1)
 simp only[Rep]
 refine⟨g,0,rfl,A9R hr h1 λj v hv=>?_⟩
 have:=Z3b e1 e3 (0+j)
 rw[this]
 simpa using hv
open Go Go.Proofs Go.Proofs.YtjmjekcaifkboaaGreatDoor
def C5x{sh:Sh}{d:DataW Unit}(h:(A3l K1.E0 400 sh d).isSome=true):∃a,A3l K1.E0 400 sh d=some a/\K1.cl sh d=.cptr a:=by obtain⟨a,ha⟩:=Z3s.1 h;exact⟨a,ha,by simp[K1.cl,ha]⟩
abbrev A5M:List (String×DataW Unit):=Rows.traceNeverLostRow.laid
section
variable {W:World} (h:laidMetH Tryz.prog A5M W)
include h
def C6B:Rep (A2w W) (K1.glT 2) (.pointer (some ⟨2,0,none⟩)):=by obtain⟨a,ha,hc⟩:=C5x (sh:=.parts (List.replicate 8 (.slice 1 (.int .i64)))) (d:=Rows.laid_pandect_unit_below) Q2;have e:K1.glT 2=.cptr a:=hc;rw[e];exact B1z (t:=((Tryz.prog.globals[2]?).map (·.type)).getD 0) h (n:= "pandect/unit.below") (d:=Rows.laid_pandect_unit_below) (by simp[A5M,Rows.traceNeverLostRow]) Q2 Q2 Q2 Q2 ha
def C8l:Rep (A2w W) (K1.glT 8) (.pointer (some ⟨8,0,none⟩)):=by obtain⟨a,ha,hc⟩:=C5x (sh:=.parts (List.replicate 8 .str)) (d:=Rows.laid_pandect_unit_names) Q2;have e:K1.glT 8=.cptr a:=hc;rw[e];exact B1z (t:=((Tryz.prog.globals[8]?).map (·.type)).getD 0) h (n:= "pandect/unit.names") (d:=Rows.laid_pandect_unit_names) (by simp[A5M,Rows.traceNeverLostRow]) Q2 Q2 Q2 Q2 ha
end
end Go.Abs
section
set_option maxRecDepth 1000000
namespace Go.Abs.Em
open Go Go.Proofs Go.Proofs.YtjmjekcaifkboaaGreatDoor
def C5x{sh:Sh}{d:DataW Unit}(h:(A3l K1.E0 400 sh d).isSome=true):∃a,A3l K1.E0 400 sh d=some a/\K1.cl sh d=.cptr a:=by obtain⟨a,ha⟩:=Z3s.1 h;exact⟨a,ha,by simp[K1.cl,ha]⟩
abbrev A5M:List (String×DataW Unit):=Rows.traceRemovedRow.laid
section
variable {W:World} (h:laidMetH Tryz.prog A5M W)
include h
def C6B:Rep (A2w W) (K1.glT 2) (.pointer (some ⟨2,0,none⟩)):=by obtain⟨a,ha,hc⟩:=C5x (sh:=.parts (List.replicate 8 (.slice 1 (.int .i64)))) (d:=Rows.laid_pandect_unit_below) Q2;have e:K1.glT 2=.cptr a:=hc;rw[e];exact B1z (t:=((Tryz.prog.globals[2]?).map (·.type)).getD 0) h (n:= "pandect/unit.below") (d:=Rows.laid_pandect_unit_below) (by simp[A5M,Rows.traceRemovedRow]) Q2 Q2 Q2 Q2 ha
def C8l:Rep (A2w W) (K1.glT 8) (.pointer (some ⟨8,0,none⟩)):=by obtain⟨a,ha,hc⟩:=C5x (sh:=.parts (List.replicate 8 .str)) (d:=Rows.laid_pandect_unit_names) Q2;have e:K1.glT 8=.cptr a:=hc;rw[e];exact B1z (t:=((Tryz.prog.globals[8]?).map (·.type)).getD 0) h (n:= "pandect/unit.names") (d:=Rows.laid_pandect_unit_names) (by simp[A5M,Rows.traceRemovedRow]) Q2 Q2 Q2 Q2 ha
end
end Go.Abs.Em
end
