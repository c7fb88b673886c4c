/- A part of the proof. -/
import Derived.Test.YtjmjekcaifkboaaGreatDoorQG13
import Derived.Laws.IdiomCopy
set_option linter.all false
namespace Go.Abs
section
variable {C:Ctx} {G:A0q} {M:Mem} {w w1:World}
def Inv.retime(hi:Inv C G M w){f e sz g:Nat}{cs:List AV}{m:List (Nat×Nat)}(hM:M[f]?=some (.vec e sz cs g m)){gb o1 c1 n1:Nat}{k:Array Value}{d:List AV}{r:List Value}
 (t:A3p G f (.vec e sz cs g m) gb\/w.heap.size<=gb)(hw:∀b',b'<w.heap.size->b'≠gb->w1.heap[b']?=w.heap[b']?)(q:w1.heap[gb]?=some (.cells k e (0,0)))
 (a3:n1<=c1)(l:c1<=maxLen)(a0:o1+c1*sz<=k.size)(a:(k.toList.drop o1).take (n1*sz)=r)(hr:A0v G d r)(p:d.length=n1*sz)(x:∀v∈r,v.oneCell'=true)
 (u:∀i,G.st gb i=none)(c:G.keep gb=none):
 ∃G',G.le G'/\Inv C G' (M.set f (.vec e sz d (g+1) [(g+1,n1)])) w1/\Rep G' (.vref f (g+1) sz 0 n1) (.slice (some ⟨gb,o1,none⟩) n1 c1):=by
 have hf:=A0P hM
 rw[<-hi.n]at hf
 obtain⟨p0,p2,p3⟩:=hi.obj f _ hM
 have y:G.top f<g+1:=Q0
 have s:=A0q.le_time (h:=(some (⟨gb,o1,none⟩:Addr),c1)) y
 have z:=hi.step (G':=G.grow f (g+1) (some ⟨gb,o1,none⟩,c1) 0 0 []) (w':=w1) (o':=.vec e sz d (g+1) [(g+1,n1)]) f gb hM
  t s rfl (λ_=>rfl) (λj hj=>by simp[A0q.grow,hj]) (λb i v hv=>by rw[A0q.time_st]at hv;exact .inl hv) (λ_=>rfl) hw
  (λi v hv=>by rw[u i]at hv;simp at hv) (λo ho=>by rw[c]at ho;simp at ho)
  ⟨ZBA,λh1 n2 hm=>?_,λh1 n1' h2 n2 a1 a2 c1' c2' m1 m2 e1 e2 e3=>?_⟩
  (λb1 ⟨h1,n2,a1,hm,e1,e2⟩=>?_)
 .refine⟨_,s,z,?_⟩;simp only[Rep];exact⟨hf,ZBA,⟨gb,o1,none⟩,⟨gb,o1,none⟩,c1,A0q.time_hdr _ _ _ _,rfl,rfl,Q1,Q0,l,λ_=>by simp⟩
 .simp only[Z0p,Z0i,Z1H,Z2R]at hm;obtain⟨rfl,rfl⟩:=hm;refine⟨ZBA,Z2p p.symm,gb,o1,c1,k,A0q.time_hdr _ _ _ _,a3,l,q,a0,?_,?_,λi=>by rw[A0q.time_st];exact u i,c⟩
  .rw[a,Z0e (Z2p p)];exact A0v.mono s _ _ hr
  .rw[a];exact x
 .simp only[Z0p,Z0i,Z1H,Z2R]at m1 m2;obtain⟨rfl,rfl⟩:=m1;obtain⟨rfl,rfl⟩:=m2;rw[e1]at e2;simp only[Z0i,Z0b]at e2;exact e2.1
 .simp only[Z0p,Z0i,Z1H,Z2R]at hm;obtain⟨rfl,rfl⟩:=hm;rw[A0q.time_hdr]at e1;simp only[Z0b]at e1;subst e1;exact .inl e2.symm
end
variable {P:Program}
end Go.Abs
