/- A part of the proof. -/
import Derived.Test.YtjmjekcaifkboaaGreatDoorQG18
import Derived.Laws.CopyRow
set_option linter.all false
namespace Go.Abs
variable {α:Type}
def ow(L:List α)(o:Nat)(cs:List α):List α:=L.take o++cs++L.drop (o+cs.length)
def B1h{L cs:List α}{o:Nat}(h:o+cs.length<=L.length):(ow L o cs).length=L.length:=by simp only[ow,Z0k,Z0t,Z0G];omega
def B4C{L cs:List α}{o k:Nat}(h:o+cs.length<=L.length):(ow L o cs)[k]?=if o<=k/\k<o+cs.length then cs[k-o]? else L[k]?:=A5E h
def C4M(A B D:List α)(k:Nat):(A++B++D)[k]?=if k<A.length then A[k]? else if k<A.length+B.length then B[k-A.length]? else D[k-(A.length+B.length)]?:=by
 rw[Z0F];by_cases h1:k<A.length
 .rw[Z0c h1,Z0o h1]
 .rw[Z0d h1,Z1t Q0];by_cases h2:k<A.length+B.length
  .rw[Z0c h2,Z0o Q0]
  .rw[Z0d h2,Z1t Q0,Nat.sub_sub]
def C3U(L:List α)(o a b c:Nat)(vs olds:List α)(ha:a<=c)(hL:o+(c+b)<=L.length)(hv:vs.length=b)(ho:olds=(L.drop o).take c):((ow (ow L (o+(a+b)) (olds.drop a)) (o+a) vs).drop o).take (c+b)=olds.take a++vs++olds.drop a:=by
 have f:olds.length=c:=by rw[ho,Z0t,Z0G];omega
 have h1:o+(a+b)+(olds.drop a).length<=L.length:=by rw[Z0G];omega
 have h2:o+a+vs.length<=(ow L (o+(a+b)) (olds.drop a)).length:=by rw[B1h h1];omega
 have d:(olds.take a).length=a:=ZCJ
 have e:∀k,k<c->olds[k]?=L[o+k]?:=λk hk=>by rw[ho,Z0B,Z0c hk,Z0H]
 apply Z1W
 intro k
 rw[C4M,d,hv,Z0B]
 by_cases hk:k<c+b
 .rw[Z0c hk,Z0H,B4C h2,hv];by_cases k1:k<a
  .rw[Z0d Q0,Z0c k1,B4C h1,Z0d Q0,Z0B,Z0c k1,e k Q0]
  .rw[Z0d k1];by_cases k2:k<a+b
   .rw[Z0c Q0,Z0c k2];congr 1;omega
   .rw[Z0d Q0,Z0d k2,B4C h1,Z0G,f,Z0c Q0,Z0H,Z0H];congr 1;omega
 .rw[Z0d hk,Z0d Q0,Z0d Q0,Z0H,Z1J Q0]
def C8f(R vs olds:List α)(a b c:Nat)(ha:a<=c)(e:olds.length=c)(hv:vs.length=b)(hR:c+b<=R.length)(h0:∀k,k<a->R[k]?=olds[k]?):((ow (ow R a vs) (a+b) (olds.drop a)).drop 0).take (c+b)=olds.take a++vs++olds.drop a:=by
 have h1:a+vs.length<=R.length:=Q0
 have h2:a+b+(olds.drop a).length<=(ow R a vs).length:=by rw[B1h h1,Z0G];omega
 have d:(olds.take a).length=a:=ZCJ
 apply Z1W
 intro k
 rw[C4M,d,hv,Z0B,Z1z]
 by_cases hk:k<c+b
 .rw[Z0c hk,B4C h2,Z0G,e];by_cases k1:k<a
  .rw[Z0d Q0,Z0c k1,B4C h1,Z0d Q0,Z0B,Z0c k1,h0 k k1]
  .rw[Z0d k1];by_cases k2:k<a+b
   .rw[Z0d Q0,Z0c k2,B4C h1,Z0c Q0]
   .rw[Z0c Q0,Z0d k2]
 .rw[Z0d hk,Z0d Q0,Z0d Q0,Z0H,Z1J Q0]
variable {P:Program}
def A7X(w:World)(dT sT ty f et:TypeId)(sz b o d g:Nat)(a:Addr)(e i k:Nat)(cs:List Value)(c:Array Value)(hu:P.underlying dT=some (.slice f))(hs:A1n P f=some sz)(hk:Nat.min e d=k)(hn:cs.length=k*sz)
 (l:∀j v,cs[j]?=some v->w.cell? (a.add j)=some v)(hc:w.heap[b]?=some (.cells c et (0,0)))(hf:o+cs.length<=c.size)(h1:∀v∈cs,v.oneCell'=true):
 (Builtin.copy_ #[dT,sT] ty #[.slice (some ⟨b,o,none⟩) d g,.slice (some a) e i]).run P w=.ok (goInt k) (w.setRow b (ow c.toList o cs).toArray):=by
 have hl:=Z4e (P:=P) w a cs l
 have m:=Z2B (P:=P) b o et cs 0 c w hc (by simpa using hf) h1
 simp only[Z0Y]at m
 simp[Builtin.copy_,Z0q hu,Builtin.lenOf,Builtin.firstCells,A1U hs,hk,<-hn,hl,m,ow]
end Go.Abs
