/- A part of the proof. -/
import Derived.Test.YtjmjekcaifkboaaGreatDoorQG15
import Derived.Test.YtjmjekcaifkboaaGreatDoorQG01
import Derived.Sort.Row
set_option linter.all false
namespace Go.Abs
open Go.Sort (grow)
def C5j{C:Ctx}{G:A0q}{M:Mem}{w:World}(hi:Inv C G M w){f g s n:Nat}{ty:Nat}{cs:List AV}{g':Nat}{c:List (Nat×Nat)}{x:Value}(hr:Rep G (.vref f g s 0 n) x)
 (hM:M[f]?=some (.vec ty s cs g' c))(hn:c.lookup g=some n)(h0:0<n):
 ∃b off cap vs,x=.slice (some ⟨b,off,none⟩) n cap/\n<=cap/\Rep G (.vptr f g 0) (.pointer (some ⟨b,off,none⟩))/\w.heap[b]?=some (.cells vs ty (0,0))/\off+n*s<=vs.size/\A0v G (cs.take (n*s)) ((vs.toList.drop off).take (n*s))/\(∀v∈(vs.toList.drop off).take (n*s),v.oneCell'=true)/\n*s<=cs.length/\∀m,m<=n->Rep G (.vref f g s 0 m) (.slice (some ⟨b,off,none⟩) m cap):=by
 have q:=hr
 simp only[Rep]at hr
 obtain⟨hf,hg,a,a',cap,hd,r,i,rfl,t,p,e⟩:=hr
 obtain⟨_,p2,_⟩:=hi.obj f _ hM
 have d:=A2S hn
 obtain⟨_,q0,b,o,j,vs,q1,q2,q3,q4,q5,q6,q7,q8,q9⟩:=p2 g n d
 have l:=q1
 rw[hd]at q1
 simp only[Z0i,Z0b]at q1
 obtain⟨rfl,rfl⟩:=q1
 have ha:=e Q0
 subst ha
 have k:n*s<=cap*s:=Z0V _ q2
 simp only[Z1S,Z0Y,Z4Q]at*
 refine⟨b,o,cap,vs,rfl,q2,⟨hf,hg,_,_,hd,rfl⟩,q4,Q0,q6,q7,q0,λm hm=>?_⟩
 simp only[Rep]
 exact⟨hf,hg,⟨b,o,none⟩,⟨b,o,none⟩,cap,hd,rfl,rfl,rfl,Q0,Q0,λ_=>by simp⟩
def C0N(w:World){b off:Nat}{vs:Array Value}{ty:TypeId}{ys:List Value}(hb:w.heap[b]?=some (.cells vs ty (0,0)))(c:off+ys.length<=vs.size):Go.Sort.putRow id w b off ys.toArray=w.setRow b (vs.toList.take off++ys++vs.toList.drop (off+ys.length)).toArray:=by
 have hc:Go.Sort.putCells id off ys.toArray vs=(vs.toList.take off++ys++vs.toList.drop (off+ys.length)).toArray:=by
  apply Z4i;intro k;have h2:=A5E (cs:=vs.toList) (news:=ys) (off:=off) (i:=k) (by simpa using c);simp only[Go.Sort.putCells,Z4K,List.getElem?_toArray];rw[h2];by_cases hk:off<=k/\k<off+ys.length
  .rw[Z0c hk];have hlt:k<vs.size:=Q0;have a:k-off<ys.length:=Q0;rw[Z1g hlt,Z1T,Z0c (by simpa using hk),Z0g a];simp[a]
  .rw[Z0d hk];cases h:vs[k]? with
   |none=>simp[h]
   |some v=>rw[Z1T,Z0d (by simpa using hk)];simp[h]
 unfold Go.Sort.putRow Go.Sort.mapBlock World.setRow
 congr 1
 apply Z4i
 intro k
 simp only[Z4H]
 by_cases hk:b=k
 .subst hk;simp only[Z1e,hb,Z1T,Go.Sort.onCells,hc]
 .simp[hk]
def B2H{C:Ctx}{fn:FuncId}{f g n s:Nat}{ty:Nat}{cs:List AV}{g':Nat}{d:List (Nat×Nat)}{M:Mem}{i:List AV}{P:List AV->Prop}
 (hM:M[f]?=some (.vec ty s cs g' d))(hn:d.lookup g=some n)(h0:0<n)
 (h:∀G w (vs:List Value) b off cap c,Inv C G M w->A0v G i vs->w.heap[b]?=some (.cells c ty (0,0))->off+n*s<=c.size->A0v G (cs.take (n*s)) ((c.toList.drop off).take (n*s))->(∀v∈(c.toList.drop off).take (n*s),v.oneCell'=true)->n<=cap->Calls C.P fn (Value.slice (some ⟨b,off,none⟩) n cap::vs).toArray w λe w'=>e=.returned (.tuple #[])/\∃ys news k os,A0v G news ys/\news.length=n*s/\(∀v∈ys,v.oneCell'=true)/\P news/\w'=grow (Go.Sort.putRow id (Go.Sort.ahead w k) b off ys.toArray) os):
 A0c C fn (.vref f g s 0 n::i) M (λr M'=>∃news,news.length=n*s/\P news/\M'=M.set f (.vec ty s (A0e cs 0 news) g' (A0Q s g 0 d))):=by
 intro G w q hi hr
 simp only[A0v]at hr
 obtain⟨x,vs,rfl,hx,m⟩:=hr
 obtain⟨b,off,cap,c,rfl,k1,k2,k3,k4,k5,k6,k7,-⟩:=C5j hi hx hM hn h0
 refine Z1E (h G w vs b off cap c hi m k3 k4 k5 k6 k1) ?_
 rintro e w' ⟨rfl,ys,news,k,os,r1,r2,r3,r4,rfl⟩
 have p:ys.length=n*s:=by rw[r1.length,r2]
 have o:=Inv.below hi (w':=Go.Sort.ahead w k) ⟨rfl,rfl,rfl,Z0j _,λ_ _=>rfl⟩
 obtain⟨a,w1,e1,e2,e3,e4⟩:=A7m o k2 r1 r3 hM hn (by rw[r2];omega)
 simp only[Z2X,Z0b]at e1
 subst e1
 have l:=Z2B C.P b (off+0) ty ys 0 c (Go.Sort.ahead w k) k3 (by simp only[Z0Y];omega) r3
 simp only[Z0Y]at l
 rw[l]at e2
 simp only[Z4A,Z2J]at e2
 rw[C0N (Go.Sort.ahead w k) k3 Q0]
 subst e2
 have j:∀X:World,Go.RowKit.Below X.heap.size X (grow X os):=λX=>⟨rfl,rfl,rfl,by simp[grow],λb h=>by simp[grow,Z4O,h]⟩
 refine⟨.tuple [],_,G,_,rfl,⟨news,r2,r4,rfl⟩,.refl _,e3.below (j _),by simp[Rep,A0v],?_⟩
 exact((⟨rfl,rfl,rfl,Z0j _⟩:Ext w (Go.Sort.ahead w k)).trans (Ext.setRow _ _ _)).trans (.below (j _))
def B8V{C:Ctx}{fn:FuncId}{f g n s:Nat}{ty:Nat}{cs:List AV}{g':Nat}{d:List (Nat×Nat)}{M:Mem}{i:List AV}{P:Nat->List AV->Prop}
 (hM:M[f]?=some (.vec ty s cs g' d))(hn:d.lookup g=some n)(h0:0<n)
 (h:∀G w (vs:List Value) b off cap c,Inv C G M w->A0v G i vs->w.heap[b]?=some (.cells c ty (0,0))->off+n*s<=c.size->A0v G (cs.take (n*s)) ((c.toList.drop off).take (n*s))->(∀v∈(c.toList.drop off).take (n*s),v.oneCell'=true)->n<=cap->Calls C.P fn (Value.slice (some ⟨b,off,none⟩) n cap::vs).toArray w λe w'=>∃m,m<=n/\e=.returned (.slice (some ⟨b,off,none⟩) m cap)/\∃ys news k os,A0v G news ys/\news.length=n*s/\(∀v∈ys,v.oneCell'=true)/\P m news/\w'=grow (Go.Sort.putRow id (Go.Sort.ahead w k) b off ys.toArray) os):
 A0c C fn (.vref f g s 0 n::i) M (λr M'=>∃m news,m<=n/\r=.vref f g s 0 m/\news.length=n*s/\P m news/\M'=M.set f (.vec ty s (A0e cs 0 news) g' (A0Q s g 0 d))):=by
 intro G w u hi hr
 simp only[A0v]at hr
 obtain⟨x,vs,rfl,hx,p⟩:=hr
 obtain⟨b,off,cap,c,rfl,k1,k2,k3,k4,k5,k6,k7,k8⟩:=C5j hi hx hM hn h0
 refine Z1E (h G w vs b off cap c hi p k3 k4 k5 k6 k1) ?_
 rintro e w' ⟨m,o,rfl,ys,news,k,os,r1,r2,r3,r4,rfl⟩
 have t:ys.length=n*s:=by rw[r1.length,r2]
 have q:=Inv.below hi (w':=Go.Sort.ahead w k) ⟨rfl,rfl,rfl,Z0j _,λ_ _=>rfl⟩
 obtain⟨a,w1,e1,e2,e3,e4⟩:=A7m q k2 r1 r3 hM hn (by rw[r2];omega)
 simp only[Z2X,Z0b]at e1
 subst e1
 have l:=Z2B C.P b (off+0) ty ys 0 c (Go.Sort.ahead w k) k3 (by simp only[Z0Y];omega) r3
 simp only[Z0Y]at l
 rw[l]at e2
 simp only[Z4A,Z2J]at e2
 rw[C0N (Go.Sort.ahead w k) k3 Q0]
 subst e2
 have j:∀X:World,Go.RowKit.Below X.heap.size X (grow X os):=λX=>⟨rfl,rfl,rfl,by simp[grow],λb h=>by simp[grow,Z4O,h]⟩
 refine⟨.vref f g s 0 m,_,G,_,rfl,⟨m,news,o,rfl,r2,r4,rfl⟩,.refl _,e3.below (j _),k8 m o,?_⟩
 exact((⟨rfl,rfl,rfl,Z0j _⟩:Ext w (Go.Sort.ahead w k)).trans (Ext.setRow _ _ _)).trans (.below (j _))
end Go.Abs
