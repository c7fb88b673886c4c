/- The texts CbX5, CbX6, CfI, CfJ, CfK, CfL, CfM, CfN. -/
import Derived.Test.YtmpdkagfplajjaaGreatDoorFG37
import Derived.Test.YtmpdkagfplajjaaGreatDoorFG25
import Derived.Test.YtmpdkagfplajjaaGreatDoorFG35
set_option linter.all false
set_option maxRecDepth 100000
namespace Go.Abs
open Go.Proofs TryTypes Tryz
def D4u:prog.stoodInHeld 152=false:=by kernel_rfl
def D5j:prog.stoodInHeld 150=false:=by kernel_rfl
def C9O:prog.eqGuardType prog.depth 152=false:=by kernel_rfl
def D7l(w:A0H):A1s prog .neq 152 (.agg w.row) (.agg w.row)=some (B false):=by
 have h0:A2F prog .neq 152 (.agg w.row) (.agg w.row)=none:=by simp[A2F,A3H]
 have h1:A7P prog 30 152 (.agg w.row) (.agg w.row)=some true:=by simp[A7P,A2E,A0k,A0H.row]
 simp only[A1s,h0,A4t,C9O,h1];rfl
def D7o:prog.stoodInHeld 46=false:=by kernel_rfl
def D3A:prog.eqGuardType prog.depth 46=false:=by kernel_rfl
def C5X(a b:Int)(s:ByteArray):A1s prog .neq 46 (.agg [I a,I b,S s]) (.agg [I a,I b,S s])=some (B false):=by
 have h0:A2F prog .neq 46 (.agg [I a,I b,S s]) (.agg [I a,I b,S s])=none:=by simp[A2F,A3H]
 have h1:A7P prog 30 46 (.agg [I a,I b,S s]) (.agg [I a,I b,S s])=some true:=by simp[A7P,A2E,A0k]
 simp only[A1s,h0,A4t,D3A,h1];rfl
def D9l(x:IdD):A1s prog .neq 23 (.agg [I x.act,I x.item,I x.n]) (.agg [I x.act,I x.item,I x.n])=some (B false):=by
 have h0:A2F prog .neq 23 (.agg [I x.act,I x.item,I x.n]) (.agg [I x.act,I x.item,I x.n])=none:=by simp[A2F,A3H]
 have h1:A7P prog 30 23 (.agg [I x.act,I x.item,I x.n]) (.agg [I x.act,I x.item,I x.n])=some true:=by simp[A7P,A2E,A0k]
 simp only[A1s,h0,A4t,B5K,h1];rfl
def D8o:prog.stoodInHeld 79=false:=by kernel_rfl
def D2i:prog.eqGuardType prog.depth 79=false:=by kernel_rfl
def D7N(x:IdD×IdD):A1s prog .neq 79 (.agg (A4W x)) (.agg (A4W x))=some (B false):=by
 have h0:A2F prog .neq 79 (.agg (A4W x)) (.agg (A4W x))=none:=by simp[A2F,A3H]
 have h1:A7P prog 30 79 (.agg (A4W x)) (.agg (A4W x))=some true:=by simp[A7P,A2E,A0k,A4W]
 simp only[A1s,h0,A4t,D2i,h1];rfl
section
variable (gl:Nat->AV)
def B6l(ws:List A0H)(M:Mem)(hl:ws.length<=maxLen):A0d (WC gl) 78 [.list 4 (A0g ws) .no,.list 4 (A0g ws) .no] M (λv M'=>v=B true/\M'=M):=by
 have hl:ws.length<=9223372036854775807:=hl;refine A0j hB func78 ?_;simp -dsimp -implicitDefEqProofs;refine A0v hB ws.length 5 (λT M1=>∃i:Nat,i<=ws.length/\M1=M/\T 0=.list 4 (A0g ws) .no/\T 1=.list 4 (A0g ws) .no/\T 5=I i) ?_ ?_
 .exact⟨0,by omega,rfl,by simp,by simp,by simp⟩
 rintro T M1 ⟨i,i1,rfl,t0,t1,t5⟩;by_cases hi:i<ws.length
 .have a:(i:Int)<ws.length:=by omega
  have w1:IntKind.i64.wrap ((i:Int)+1)=(i+1:Nat):=by rw[A0T (by omega) (by omega)];omega
  have hn:=D7l ws[i];simp only[A0H.row]at hn;simp -dsimp -implicitDefEqProofs[t0,t5,a];refine A1i hB (A0G gl) (λ_=>0) (λ_=>0) (by rfl) (by kernel_rfl) ?_;simp -dsimp -implicitDefEqProofs[t0,t1,t5,hi,a,A0H.row,hn,w1];exact⟨⟨i+1,by clear w1;omega,rfl⟩,by clear w1;omega⟩
 .have a:¬(i:Int)<ws.length:=by omega
  simp -dsimp -implicitDefEqProofs[t0,t5,a]
def B4U(M:Mem):A0d (WC gl) 78 [A0i,A0i] M (λv M'=>v=B true/\M'=M):=by
 refine A0j hB func78 ?_;simp -dsimp -implicitDefEqProofs;refine A3e hB (λT M1=>M1=M/\T 0=A0i/\T 1=A0i/\T 5=I 0) (λT M1=>0) (by kernel_rfl) ?_ ?_
 .simp
 rintro T M1 ⟨rfl,t0,t1,t5⟩;simp -dsimp -implicitDefEqProofs[t0,t5]
def D2p(ws:List (IdD×IdD))(M:Mem)(hl:ws.length<=maxLen):A0d (WC gl) 23 [.list 6 (ws.map A4W) .no,.list 6 (ws.map A4W) .no] M (λv M'=>v=B true/\M'=M):=by
 have hl:ws.length<=9223372036854775807:=hl;refine A0j hB func23 ?_;simp -dsimp -implicitDefEqProofs;refine A0v hB ws.length 5 (λT M1=>∃i:Nat,i<=ws.length/\M1=M/\T 0=.list 6 (ws.map A4W) .no/\T 1=.list 6 (ws.map A4W) .no/\T 5=I i) ?_ ?_
 .exact⟨0,by omega,rfl,by simp,by simp,by simp⟩
 rintro T M1 ⟨i,i1,rfl,t0,t1,t5⟩;by_cases hi:i<ws.length
 .have a:(i:Int)<ws.length:=by omega
  have w1:IntKind.i64.wrap ((i:Int)+1)=(i+1:Nat):=by rw[A0T (by omega) (by omega)];omega
  obtain⟨y,hy⟩:∃y,y=ws[i]:=⟨_,rfl⟩;have b:A4W ws[i]=[I y.1.act,I y.1.item,I y.1.n,I y.2.act,I y.2.item,I y.2.n]:=by rw[<-hy];rfl
  have hn:=D7N y;simp only[A4W]at hn;simp -dsimp -implicitDefEqProofs[t0,t5,a];refine A1i hB (A0G gl) (λ_=>0) (λ_=>0) (by rfl) (by kernel_rfl) ?_;simp -dsimp -implicitDefEqProofs[t0,t1,t5,hi,a,hn,b,w1];exact⟨⟨i+1,by clear w1;omega,rfl⟩,by clear w1;omega⟩
 .have a:¬(i:Int)<ws.length:=by omega
  simp -dsimp -implicitDefEqProofs[t0,t5,a]
def C8S(M:Mem):A0d (WC gl) 23 [A0i,A0i] M (λv M'=>v=B true/\M'=M):=by
 refine A0j hB func23 ?_;simp -dsimp -implicitDefEqProofs;refine A3e hB (λT M1=>M1=M/\T 0=A0i/\T 1=A0i/\T 5=I 0) (λT M1=>0) (by kernel_rfl) ?_ ?_
 .simp
 rintro T M1 ⟨rfl,t0,t1,t5⟩;simp -dsimp -implicitDefEqProofs[t0,t5]
def A7q(M:Mem):A0d (WC gl) 17 [A0i,A0i] M (λv M'=>v=B true/\M'=M):=by
 refine A0j hB func17 ?_;simp -dsimp -implicitDefEqProofs;refine A3e hB (λT M1=>M1=M/\T 0=A0i/\T 1=A0i/\T 5=I 0) (λT M1=>0) (by kernel_rfl) ?_ ?_
 .simp
 rintro T M1 ⟨rfl,t0,t1,t5⟩;simp -dsimp -implicitDefEqProofs[t0,t5]
def B0F(M:Mem):A0d (WC gl) 37 [A0i,A0i] M (λv M'=>v=B true/\M'=M):=by
 refine A0j hB func37 ?_;simp -dsimp -implicitDefEqProofs;refine A3e hB (λT M1=>M1=M/\T 0=A0i/\T 1=A0i/\T 5=I 0) (λT M1=>0) (by kernel_rfl) ?_ ?_
 .simp
 rintro T M1 ⟨rfl,t0,t1,t5⟩;simp -dsimp -implicitDefEqProofs[t0,t5]
abbrev D8D:AV:=.agg [I 0,I 0,I 0,I 0,eS,A0i,A0i,A0i]
def B4L(M:Mem):A0d (WC gl) 25 [D8D,D8D] M (λv M'=>v=B true/\M'=M):=by
 have hn:=D9l idZ;simp only[idZ]at hn;refine A0j hB func25 ?_;simp -dsimp -implicitDefEqProofs[hn];refine A0f func78 (B4U gl M) ?_;simp -dsimp -implicitDefEqProofs;refine A0f func78 (B4U gl M) ?_;simp -dsimp -implicitDefEqProofs;refine A3e hB (λT M1=>M1=M/\T 2=.cptr [I 0,I 0,I 0,I 0,eS,A0i,A0i,A0i]/\T 3=.cptr [I 0,I 0,I 0,I 0,eS,A0i,A0i,A0i]/\T 5=I 0) (λT M1=>0) (by kernel_rfl) ?_ ?_
 .simp
 rintro T M1 ⟨rfl,t2,t3,t5⟩;simp -dsimp -implicitDefEqProofs[t2,t5]
def B1N:∀(u:A0a) (M:Mem),u.good->A0d (WC gl) 25 [.agg u.row,.agg u.row] M (λv M'=>v=B true/\M'=M)
 |.mk id kind lab hd ws ks,M,hg=>by
  obtain⟨_,_,o,d,m,f,l,g,e⟩:=(A0a.good_iff _).1 hg;have e:∀k∈ks,k.good:=e;have d:hd.length<=maxLen:=d;have f:ws.length<=maxLen:=f;have g:ks.length<=9223372036854775807:=g;have h:(A0a.mk id kind lab hd ws ks).row=[I id.act,I id.item,I id.n,I kind,S lab,.list 4 (A0g hd) .no,.list 4 (A0g ws) .no,.list 8 (A0r ks) .no]:=by rw[A0a.row]
  have hn:=D9l id;rw[h];refine A0j hB func25 ?_;simp -dsimp -implicitDefEqProofs[hn];refine A0f func78 (B6l gl hd M d) ?_;simp -dsimp -implicitDefEqProofs;refine A0f func78 (B6l gl ws M f) ?_;simp -dsimp -implicitDefEqProofs;refine A0v hB ks.length 5 (λT M1=>∃i:Nat,i<=ks.length/\M1=M/\T 2=.cptr [I id.act,I id.item,I id.n,I kind,S lab,.list 4 (A0g hd) .no,.list 4 (A0g ws) .no,.list 8 (A0r ks) .no]/\T 3=.cptr [I id.act,I id.item,I id.n,I kind,S lab,.list 4 (A0g hd) .no,.list 4 (A0g ws) .no,.list 8 (A0r ks) .no]/\T 5=I i) ?_ ?_
  .exact⟨0,by omega,rfl,by simp,by simp,by simp⟩
  rintro T M1 ⟨i,i1,rfl,t2,t3,t5⟩;by_cases hi:i<ks.length;case neg=>(have a:¬(i:Int)<ks.length:=by omega);simp -dsimp -implicitDefEqProofs[t2,t5,a]
  have a:(i:Int)<ks.length:=by omega
  have w1:IntKind.i64.wrap ((i:Int)+1)=(i+1:Nat):=by rw[A0T (by omega) (by omega)];omega
  have c:ks[i]∈ks:=Z0u hi;have:=A0a.kid_lt (u:=.mk id kind lab hd ws ks) c;have b:=λM=>B1N ks[i] M (e _ c);obtain⟨X,hX⟩:∃X,X=ks[i]:=⟨_,rfl⟩;have j:ks[i].row=[I X.id.act,I X.id.item,I X.id.n,I X.kind,S X.label,.list 4 (A0g X.head) .no,.list 4 (A0g X.words) .no,.list 8 (A0r X.kids) .no]:=by rw[<-hX];exact X.row_eq
  simp only[j]at b;simp -dsimp -implicitDefEqProofs[t2,t5,a];refine A1i hB (A0G gl) (λ_=>0) (λ_=>0) (by rfl) (by kernel_rfl) ?_;simp -dsimp -implicitDefEqProofs[t2,t3,t5,hi,a,j];refine A1M func25 b ?_;simp -dsimp -implicitDefEqProofs[t2,t3,t5,w1];exact⟨⟨i+1,by clear w1;omega,rfl⟩,by clear w1;omega⟩
termination_by u=>SizeOf.sizeOf u
def D9n{α:Type}(a:α)(l r:List α):List.append (a::l) r=a::List.append l r:=rfl
def D9q{α:Type}(r:List α):List.append [] r=r:=rfl
def C1v{C}{h}{T}{M}{ops}{o}{l r}{K:Env->Mem->Prop}{tg}:C0K C h ops (List.append (o::l) r) K T M tg=B1L ops o T (wOp C h o (λv M'=>C0K C h ops (List.append l r) K (T.put o.dst v) M' ⟨⟩) (T.ev C) M ⟨⟩) (C0K C h ops (List.append l r) K (T.put o.dst (.val undef)) M ⟨⟩) ⟨⟩:=rfl
def C1S{C}{h}{T}{M}{ops}{r}{K:Env->Mem->Prop}{tg}:C0K C h ops (List.append [] r) K T M tg=C0K C h ops r K T M ⟨⟩:=rfl
def A0W.fine:A0W->Prop
 |.rep p=>p.length<=1000000
 |.ins u=>u.good
def B6e(x:A0W)(M:Mem)(hx:x.fine):A0d (WC gl) 77 [.agg x.row,.agg x.row] M (λv M'=>v=B true/\M'=M):=by
 have a:=C5X 0 0 ⟨#[]⟩;refine A0j hB func77 ?_;cases x with
 |rep p=>
  have hp:p.length<=1000000:=hx;have c:=λM=>D2W gl p p .no .no M hp;simp only[decide_true]at c;simp -dsimp -implicitDefEqProofs[A0W.row,a,C1v,C1S];refine A0f func37 (c M) ?_;simp -dsimp -implicitDefEqProofs;refine A0f func37 (B0F gl M) ?_;simp -dsimp -implicitDefEqProofs;refine A0f func17 (A7q gl M) ?_;simp -dsimp -implicitDefEqProofs;refine A0f func17 (A7q gl M) ?_;simp -dsimp -implicitDefEqProofs;refine A0f func25 (B4L gl M) ?_;simp -dsimp -implicitDefEqProofs;refine A3e hB (λT M1=>M1=M/\T 2=.cptr (A0W.rep p).row/\T 3=.cptr (A0W.rep p).row/\T 5=I 0) (λT M1=>0) (by kernel_rfl) ?_ ?_
  .simp[A0W.row]
  rintro T M1 ⟨rfl,t2,t3,t5⟩;simp -dsimp -implicitDefEqProofs[t2,t5,A0W.row]
 |ins u=>
  have hu:u.good:=hx;have b:=λM=>B1N gl u M hu;simp only[u.row_eq]at b;simp -dsimp -implicitDefEqProofs[A0W.row,a,C1v,C1S];refine A0f func37 (B0F gl M) ?_;simp -dsimp -implicitDefEqProofs;refine A0f func37 (B0F gl M) ?_;simp -dsimp -implicitDefEqProofs;refine A0f func17 (A7q gl M) ?_;simp -dsimp -implicitDefEqProofs;refine A0f func17 (A7q gl M) ?_;simp -dsimp -implicitDefEqProofs;refine A0f func25 (b M) ?_;simp -dsimp -implicitDefEqProofs;refine A3e hB (λT M1=>M1=M/\T 2=.cptr (A0W.ins u).row/\T 3=.cptr (A0W.ins u).row/\T 5=I 0) (λT M1=>0) (by kernel_rfl) ?_ ?_
  .simp[A0W.row]
  rintro T M1 ⟨rfl,t2,t3,t5⟩;simp -dsimp -implicitDefEqProofs[t2,t5,A0W.row]
def C6h(M:Mem):A0d (WC gl) 22 [A5Z,A5Z] M (λv M'=>v=B true/\M'=M):=by
 have a:=C5X 0 0 ⟨#[]⟩;refine A0j hB func22 ?_;simp -dsimp -implicitDefEqProofs[A5Z,a];refine A3e hB (λT M1=>M1=M/\T 2=.cptr [I 0,eS,I 0,I 0,I 0,eS,A0i]/\T 3=.cptr [I 0,eS,I 0,I 0,I 0,eS,A0i]/\T 5=I 0) (λT M1=>0) (by kernel_rfl) ?_ ?_
 .simp
 rintro T M1 ⟨rfl,t2,t3,t5⟩;simp -dsimp -implicitDefEqProofs[t2,t5]
end
mutual
def B9Y:∀(u:A0a) (b a:Int),A9U u b a<=a->A9U u b a=A0o u
 |.mk _ _ _ _ _ ks,b,a,h=>by
  rw[A9U]at h|-;rw[A0o];by_cases c:20<b
  .rw[Z0d c]at h;omega
  .rw[Z0e c]at h|-;have:=B6y ks b a 1 h;omega
def B6y:∀(ks:List A0a) (b a n:Int),A8i ks b a n<=a->A8i ks b a n=n+A0u ks
 |[],b,a,n,h=>by rw[A8i,A0u];omega
 |k::ks,b,a,n,h=>by
  rw[A8i]at h|-;rw[A0u];by_cases c:n<=a
  .rw[Z0d c]at h|-;have h1:=B6y ks b a _ h;have h2:=B9Y k (b+1) (a-n) (by omega);omega
  .rw[Z0e c]at h;omega
end
def B7B{l}(h:A8m l=true):l.length<=300:=by simp only[A8m,Z0g,Z0m]at h;exact h.2
mutual
def C0f:∀u:A0a,B1V u=true->A0o u<=1000->u.lims
 |.mk id k l h w ks,hw,hc=>by rw[B1V]at hw;simp only[Z0g,Z0m]at hw;obtain⟨⟨⟨h1,h2⟩,h3⟩,h4⟩:=hw;rw[A0o]at hc;have:=A1O ks;rw[A0a.lims];exact⟨⟨Z0S (B7B h2) (by omega),Z0S (B7B h3) (by omega),by show ks.length<=1000;omega,by show l.size<=1000;omega⟩,B6f ks h4 (by omega)⟩
def B6f:∀ks:List A0a,B0q ks=true->A0u ks<=1000->A6W ks
 |[],_,_=>by rw[A6W];trivial
 |k::ks,hw,hc=>by rw[B0q,Z0g]at hw;rw[A0u]at hc;rw[A6W];exact⟨C0f k hw.1 (by omega),B6f ks hw.2 (by omega)⟩
end
def D7y(u:A0a)(hg:u.good)(h:B6S u 30=true):Fit u/\A0o u<=30:=by
 simp only[B6S,Z0g,Z0m]at h;have:=B9Y u 0 30 h.1;have hc:A0o u<=30:=by omega
 exact⟨⟨hg,C0f u h.2 (by omega),by omega⟩,hc⟩
def C3x(u:A0a)(l:List A0S)(s:List A1R):Bool:=B6S u 30&&decide (l.length<=40)&&decide (s.length<=60)&&(l.all λs=>decide (s.label.size<=100))&&s.all λm=>decide (m.to.length<=40)
section
variable (gl:Nat->AV)
def D1G(u:A0a)(l:List A0S)(s:List A1R)(M:Mem)(hg:u.good)(hl:l.length<=maxLen)(hs:s.length<=maxLen):A0d (WC gl) 11 [.agg u.row,.list 5 (A2C l) .no,.list 5 (A3P s) .no] M (λv M'=>v=B (C3x u l s)/\M'=M):=by
 have p:l.length<=9223372036854775807:=by simpa[maxLen]using hl
 have o:s.length<=9223372036854775807:=by simpa[maxLen]using hs
 have hf:=D5m gl u 30 M hg (by omega) (by omega);obtain⟨R,hR⟩:∃R,R=C3x u l s:=⟨_,rfl⟩;have a:R=(B6S u 30&&decide (l.length<=40)&&decide (s.length<=60)&&(l.all λs=>decide (s.label.size<=100))&&s.all λm=>decide (m.to.length<=40)):=hR;rw[<-hR];rw[u.row_eq]at hf|-;refine A0j hB func11 ?_;simp -dsimp -implicitDefEqProofs;refine A0f func46 hf ?_;cases c1:B6S u 30 with
 |false=>rw[c1]at a;simp only[Z0q]at a;simp -dsimp -implicitDefEqProofs[a]
 |true=>
 rw[c1,Z0r]at a;by_cases c2:l.length<=40;case neg=>
  have d:(40:Int)<l.length:=by omega
  have g:(l.length:Int)>40:=d;rw[Z0w c2]at a;simp only[Z0q]at a;simp -dsimp -implicitDefEqProofs[d,a]
 have d:¬(40:Int)<l.length:=by omega
 have g:¬(l.length:Int)>40:=d;rw[Z0s c2,Z0r]at a;by_cases c4:s.length<=60;case neg=>
  have e:(60:Int)<s.length:=by omega
  have k:(s.length:Int)>60:=e;rw[Z0w c4]at a;simp only[Z0q]at a;simp -dsimp -implicitDefEqProofs[d,e,a]
 have e:¬(60:Int)<s.length:=by omega
 have k:¬(s.length:Int)>60:=e;rw[Z0s c4,Z0r]at a;simp -dsimp -implicitDefEqProofs[d,e];refine A0v hB l.length 7 (λT M1=>∃i:Nat,i<=l.length/\M1=M/\T 1=.list 5 (A2C l) .no/\T 2=.list 5 (A3P s) .no/\T 7=I i/\R=(((l.drop i).all λs=>decide (s.label.size<=100))&&s.all λm=>decide (m.to.length<=40))) ?_ ?_
 .exact⟨0,by omega,rfl,by simp,by simp,by simp,by simpa using a⟩
 rintro T M1 ⟨i,i1,rfl,t1,t2,t7,ho⟩;by_cases hi:i<l.length;case neg=>
  have f:¬(i:Int)<l.length:=by omega
  rw[show l.drop i=[]from Z0n (by omega),Z3I,Z0r]at ho;simp -dsimp -implicitDefEqProofs[t1,t7,f];refine A0v hB s.length 8 (λT M2=>∃j:Nat,j<=s.length/\M2=M1/\T 2=.list 5 (A3P s) .no/\T 8=I j/\R=(s.drop j).all λm=>decide (m.to.length<=40)) ?_ ?_
  .exact⟨0,by omega,rfl,by simp[t2],by simp,by simpa using ho⟩
  clear hi f t1 t2 t7 ho;rintro T M2 ⟨j,j1,rfl,t2,t8,ho⟩;by_cases hj:j<s.length;case neg=>
   (have h:¬(j:Int)<s.length:=by omega);rw[show s.drop j=[]from Z0n (by omega),Z3I]at ho
   simp -dsimp -implicitDefEqProofs[t2,t8,h,ho]
  have h:(j:Int)<s.length:=by omega
  have w1:=A1y (i:=j) (by omega);rw[Z0j hj,Z1t]at ho;by_cases c3:s[j].to.length<=40
  ·(have b:¬(40:Int)<s[j].to.length:=by omega);have c:¬(s[j].to.length:Int)>40:=b
   rw[Z0s c3,Z0r]at ho;simp -dsimp -implicitDefEqProofs[t2,t8,hj,h,A1R.row,b,w1];exact⟨⟨j+1,by clear w1;omega,rfl,ho⟩,by clear w1;omega⟩
  ·(have b:(40:Int)<s[j].to.length:=by omega);have c:(s[j].to.length:Int)>40:=b
   rw[Z0w c3,Z0q]at ho;simp -dsimp -implicitDefEqProofs[t2,t8,hj,h,A1R.row,b,ho]
 have f:(i:Int)<l.length:=by omega
 have w1:=A1y (i:=i) (by omega);rw[Z0j hi,Z1t]at ho;by_cases c3:l[i].label.size<=100
 .have b:¬(100:Int)<l[i].label.size:=by omega
  have c:¬(l[i].label.size:Int)>100:=b;rw[Z0s c3,Z0r]at ho;simp -dsimp -implicitDefEqProofs[t1,t2,t7,hi,f,A0S.row,b,w1];exact⟨⟨i+1,by clear w1;omega,rfl,ho⟩,by clear w1;omega⟩
 .have b:(100:Int)<l[i].label.size:=by omega
  have c:(l[i].label.size:Int)>100:=b;rw[Z0w c3]at ho;simp only[Z0q]at ho;simp -dsimp -implicitDefEqProofs[t1,t7,hi,f,A0S.row,b,ho]
end
open Go.Proofs TryTypes
section
variable (gl:Nat->AV)
end
section
variable (gl:Nat->AV)
def B2c(n a b:Int)(M:Mem)(h1:a<=n)(h2:n<=b):A0d (WC gl) 80 [I n,I a,I b] M (λv M'=>v=B true/\M'=M):=by have c:n>=a:=h1;refine A0j hB func80 ?_;simp -dsimp -implicitDefEqProofs[h1,h2]
def C9z(d:Int)(M:Mem)(h1:0<=d)(h2:d<=1048576):A0d (WC gl) 82 [.agg [I 1,I d,eS]] M (λv M'=>v=B true/\M'=M):=by refine A0j hB func82 ?_;simp -dsimp -implicitDefEqProofs;refine A0f func80 (B2c gl d 0 1048576 M h1 h2) ?_;simp -dsimp -implicitDefEqProofs
def B6b(M:Mem):A0d (WC gl) 138 [.agg [I 0,I 0,eS]] M (λv M'=>v=B true/\M'=M):=by refine A0j hB func138 ?_;simp -dsimp -implicitDefEqProofs
def C9V(s:A0I)(M:Mem):A0d (WC gl) 194 [.agg s.row] M (λv M'=>v=B (B5R s)/\M'=M):=by
 obtain⟨k,a⟩:=s;have hr:(A0I.mk k a).row=[I k,S a]:=rfl;rw[hr];refine A0j hB func194 ?_;by_cases h1:k=0
 .by_cases h2:a=⟨#[]⟩
  .simp -dsimp -implicitDefEqProofs[h1,h2,B5R]
  .simp -dsimp -implicitDefEqProofs[h1,h2,B5R]
 .simp -dsimp -implicitDefEqProofs[h1,B5R]
def D7k(M:Mem):A0d (WC gl) 137 [A0i] M (λv M'=>v=B true/\M'=M):=by
 refine A0j hB func137 ?_;simp -dsimp -implicitDefEqProofs;refine A0v hB 0 3 (λT M1=>M1=M/\T 0=A0i/\T 3=I 0) ?_ ?_
 .exact⟨rfl,by simp,by simp⟩
 rintro T M1 ⟨rfl,t0,t3⟩;simp -dsimp -implicitDefEqProofs[t0,t3]
def D3u(p:List A0I)(o:Own)(M:Mem)(hl:p.length<=9)(hp:∀i (h:i<p.length),B3r i p[i])(hs:∀s∈p,s.lab.size<=maxLen):A0d (WC gl) 137 [.list 2 (A1K p) o] M (λv M'=>v=B true/\M'=M):=by
 have t:¬(p.length:Int)>9:=by omega
 refine A0j hB func137 ?_;simp -dsimp -implicitDefEqProofs[t];refine A0v hB p.length 3 (λT M1=>∃i:Nat,i<=p.length/\M1=M/\T 0=.list 2 (A1K p) o/\T 3=I i) ?_ ?_
 .exact⟨0,by omega,rfl,by simp,by simp⟩
 rintro T M1 ⟨i,i1,rfl,t0,t3⟩;by_cases hi:i<p.length;case neg=>
  have b:¬(i:Int)<p.length:=by omega
  simp -dsimp -implicitDefEqProofs[t0,t3,b]
 have b:(i:Int)<p.length:=by omega
 have w1:=A1y (i:=i) (by omega);obtain⟨s,r⟩:∃s,s=p[i]:=⟨_,rfl⟩;have a:p[i]=s:=r.symm;have g:=hp i hi;have j:=hs p[i] (Z0u hi);rw[a]at g j;have f:(A1K p)[i]?=some [I s.k,S s.lab]:=by simp[A1K,hi,a,A0I.row]
 have l:=λM=>C9V gl s M;rw[show s.row=[I s.k,S s.lab]from rfl]at l;have c:=λM=>B1i gl M s.lab j;have u:IntKind.i64.wrap 1=1:=by decide
 by_cases h0:i=0
 .have m:(i:Int)=0:=by omega
  subst h0;simp -dsimp -implicitDefEqProofs[t0,t3,hi,a];refine A0f func194 (l M1) ?_;cases hb:B5R s
  .rcases g with⟨_,rfl⟩|⟨q1,q2,q3⟩
   .simp[B5R,A3k]at hb
   (have d:¬s.k<1:=by omega);have e:¬s.k>7:=by omega
   rw[q3]at c;simp -dsimp -implicitDefEqProofs[t0,t3,hi,a,d,e];refine A0f func105 (c M1) ?_;simp -dsimp -implicitDefEqProofs[t0,t3,u];exact⟨⟨1,by omega,rfl⟩,by omega⟩
  .simp -dsimp -implicitDefEqProofs[t0,t3];exact⟨⟨1,by omega,rfl⟩,by omega⟩
 .have m:¬(i:Int)=0:=by omega
  rcases g with⟨q,_⟩|⟨q1,q2,q3⟩
  .exact absurd q h0
  have d:¬s.k<1:=by omega
  have e:¬s.k>7:=by omega
  rw[q3]at c;simp -dsimp -implicitDefEqProofs[t0,t3,b,hi,a,h0,d,e];refine A0f func105 (c M1) ?_;simp -dsimp -implicitDefEqProofs[t0,t3,w1];exact⟨⟨i+1,by clear w1;omega,rfl⟩,by clear w1;omega⟩
end
def C0a{ws:List A0H}(h:∀w∈ws,B0b w):ws.map (λh=>A5l h.text)=ws:=by
 conv=>rhs;rw[<-List.map_id ws]
 refine Z1P λw hw=>?_;obtain⟨h1,h2,h3⟩:=h w hw;obtain⟨t,a,b,c⟩:=w;simp only at h1 h2 h3;subst h1;subst h2;subst h3;rfl
section
variable (gl:Nat->AV)
def C0s:∀(u:A0a) (M:Mem),A2P u->u.lims->A0o u<=1000->A0d (WC gl) 39 [.agg u.row] M (λv M'=>v=.agg u.row/\M'=M)
 |.mk id kind lab hd ws ks,M,hb,hlm,hc=>by
  obtain⟨z,af,ae,ai⟩:=(A6v _).1 hb;obtain⟨⟨a6,l,a3,-⟩,w⟩:=A3f _ hlm;have a6:hd.length<=100000000:=a6;have l:ws.length<=100000000:=l;have a3:ks.length<=1000:=a3;have w:=A2Z.1 w;have z:id=idZ:=z;have aa:hd.map (λh=>A5l h.text)=hd:=C0a af;have ab:ws.map (λh=>A5l h.text)=ws:=C0a ae;have a2:∀k∈ks,A2P k:=ai;subst z;refine A0d.dataX ?_;have a7:(A0a.mk idZ kind lab hd ws ks).row=[I 0,I 0,I 0,I kind,S lab,.list 4 (A0g hd) .no,.list 4 (A0g ws) .no,.list 8 (A0r ks) .no]:=by rw[A0a.row];rfl
  rw[a7];have a1:=λM=>C7z gl hd .no M (by omega);have a4:=λM=>C7z gl ws .no M (by omega);rw[aa]at a1;rw[ab]at a4;obtain⟨b,p⟩:∃b,b=M.length:=⟨_,rfl⟩;obtain⟨M1,o⟩:∃M1,M1=M++[z8,A0l.cells 27 [I 0,I 0,I 0,I kind,S lab,.list 4 (A0g hd) .no,.list 4 (A0g ws) .no,.val (.slice none 0 0)]]:=⟨_,rfl⟩;have h1:M1[b]?=some z8:=by rw[o,p];simp
  have h2:M1[b+1]?=some (A0l.cells 27 [I 0,I 0,I 0,I kind,S lab,.list 4 (A0g hd) .no,.list 4 (A0g ws) .no,.val (.slice none 0 0)]):=by rw[o,p];simp[]
  have ag:Grow M M1:=by rw[o];exact A0c.app none _ _
  have aj:A0D prog 27 [(1,I kind),(2,S lab),(3,.list 4 (A0g hd) .no),(4,.list 4 (A0g ws) .no)]=some (.agg [I 0,I 0,I 0,I kind,S lab,.list 4 (A0g hd) .no,.list 4 (A0g ws) .no,.val (.slice none 0 0)]):=by simp[A0D,A1l,A1H,AV.cells,AV.storable]
  refine A0j (hQ [32]) func39 ?_;simp -dsimp -implicitDefEqProofs[A0m];refine A1i (hQ [32]) (A0G gl) (λk=>if k=11\/k=12 then 2 else 0) (λ_=>0) (by rfl) (by kernel_rfl) ?_;simp -dsimp -implicitDefEqProofs;refine A1M func96 a1 ?_;simp -dsimp -implicitDefEqProofs;refine A1M func96 a4 ?_;simp -dsimp -implicitDefEqProofs[aj,A0m,A0n,A0e];rw[<-o,<-p];have am:1+A0u ks<=1000:=by rwa[A0o]at hc
  refine A0v (hQ [32]) ks.length 4 (λT Mi=>∃i:Nat,i<=ks.length/\T 1=.cptr [I 0,I 0,I 0,I kind,S lab,.list 4 (A0g hd) .no,.list 4 (A0g ws) .no,.list 8 (A0r ks) .no]/\T 2=.ptr b 0/\T 3=.ptr (b+1) 0/\T 4=I i/\Grow M Mi/\Mi[b]?=some z8/\∃kv,Mi[b+1]?=some (A0l.cells 27 [I 0,I 0,I 0,I kind,S lab,.list 4 (A0g hd) .no,.list 4 (A0g ws) .no,kv])/\Arr 27 8 A0a.row (b+2) Mi kv (ks.take i)) ?_ ?_
  .exact⟨0,by omega,by simp,by simp,by simp,by simp,ag,h1,_,h2,by simpa using Arr.nil⟩
  rintro T Mi ⟨i,i1,t1,t2,t3,t4,d,t,kv,g,ha⟩;have a9:b<Mi.length:=(Z0b.1 t).1;have ak:b+1<Mi.length:=(Z0b.1 g).1;by_cases hi:i<ks.length;case neg=>
   (have m:¬(i:Int)<ks.length:=by omega);rw[Z0k (by omega)]at ha
   (have y:A1D prog 27 Mi (.ptr (b+1) 0)=some (.agg [I 0,I 0,I 0,I kind,S lab,.list 4 (A0g hd) .no,.list 4 (A0g ws) .no,kv]):=by rw[A0b g];simp);have s:A0n (some 8) Mi (.ptr b 0) (.agg [I 0,I 0,I 0,I kind,S lab,.list 4 (A0g hd) .no,.list 4 (A0g ws) .no,kv])=some (Mi.set b (.cells 27 [I 0,I 0,I 0,I kind,S lab,.list 4 (A0g hd) .no,.list 4 (A0g ws) .no,kv])):=by rw[A0h t];rfl
   simp -dsimp -implicitDefEqProofs[t1,t2,t3,t4,m,y,s,A0y a9,A0k];have a0:=ha.own.keep (A0c.set Mi b (.cells 27 [I 0,I 0,I 0,I kind,S lab,.list 4 (A0g hd) .no,.list 4 (A0g ws) .no,kv])) (λf hf e=>by have:=ha.lat f hf;simp at e;omega);have hs:=A8W a0 (n:=M.length) (λf hf=>by have:=ha.lat f hf;omega);refine⟨A1e d (by omega),.agg ?_ .nil⟩;rw[p]at hs|-;exact .same trivial (.same trivial (.same trivial (.same trivial (.same trivial (.same (by simp only[bdd,Z1N];exact A7Y _ _) (.same (by simp only[bdd,Z1N];exact A7Y _ _) hs))))))
  have m:(i:Int)<ks.length:=by omega
  have w1:=A1y (i:=i) (by omega);have a:ks[i]∈ks:=Z0u hi;have:=A0a.kid_lt (u:=.mk idZ kind lab hd ws ks) a;have al:=A2G a;obtain⟨x,hx⟩:∃x,x=ks[i]:=⟨_,rfl⟩;have r:ks[i]=x:=hx.symm;have c:=λM=>C0s ks[i] M (a2 _ a) (w _ a) (by omega);rw[r]at c;have a8:=A8l ks i hi;rw[r]at a8;have ad:ks.take (i+1)=ks.take i++[x]:=by rw[Z1k,Z0l hi,hx];rfl
  have y:A1D prog 25 Mi (.ptr (b+1) 7)=some kv:=by rw[A0b g];simp
  simp -dsimp -implicitDefEqProofs[t1,t4,m];refine A1i (hQ [32]) (A0G gl) (λk=>if k=1 then 1 else if k=9\/k=11 then 2 else 0) (λ_=>b+1) (by rfl) (by kernel_rfl) ?_;simp -dsimp -implicitDefEqProofs[t1,t3,t4,hi,m,r,y,A6w];refine A1M func39 c ?_;simp -dsimp -implicitDefEqProofs[A0p,A0Z];refine A3V (C:=WC gl) (enc:=A0a.row) (e:=27) (sz:=8) (news:=[x]) A8n B2L B2H A0a.row_len ha.own (by simp[A0z]) (by simp;omega) rfl ?_;intro v' M' k1 k2 k3 _;have n1:obj kv≠some (b+1):=λe=>by have:=ha.lat (b+1) e;omega
  have n0:obj kv≠some b:=λe=>by have:=ha.lat b e;omega
  have q:=k2.get g n1;have a5:=k2.get t n0;have lv:∀f,obj v'=some f->b+2<=f:=λf hf=>by
   rcases k3 with e|h
   .rw[e]at hf;exact ha.lat f hf
   .have:=h f hf;omega
  have l:b+1<M'.length:=(Z0b.1 q).1;have s:A0n (some 1) M' (.ptr (b+1) 7) v'=some (M'.set (b+1) (.cells 27 [I 0,I 0,I 0,I kind,S lab,.list 4 (A0g hd) .no,.list 4 (A0g ws) .no,v'])):=by rw[A0h q,k1.cells,Z0d ⟨k1.store,by simp,rfl⟩];rfl
  have ah:Grow M M':=⟨by have:=k2.1;have:=d.1;omega,λj hj _=>by(have ac:obj kv≠some j:=λe=>by have:=ha.lat j e;omega);rw[k2.2 j (by have:=d.1;omega) ac];exact d.2 j hj (by simp)⟩;simp -dsimp -implicitDefEqProofs[t1,t2,t3,t4,s,w1];refine⟨⟨i+1,by clear w1;omega,rfl,A1e ah (by omega),?_,v',?_,?_⟩,by clear w1;omega⟩
  .exact a5
  .simp[l]
  .rw[ad];exact⟨k1.keep (A0c.set _ _ _) (λf hf e=>by have:=lv f hf;simp at e;omega),lv⟩
termination_by u=>SizeOf.sizeOf u
def C7Z(u:A0a)(M:Mem)(hf:Fit u)(hb:A2P u)(hv:A5k u=true):A0d (WC gl) 139 [.agg u.row] M (λv M'=>v=B true/\M'=M):=by
 have h1:=λM=>D8C gl u M hf;have hm:C4k u=true:=by have h2:=C2t hb;rw[B7x]at h2;simp only[A5k,Z0g]at hv;simp only[C4k,Z0g];exact⟨hv,h2⟩
 rw[hm]at h1;have h2:=λM=>C0s gl u M hb hf.2.1 hf.2.2;have h3:=λM=>B1N gl u M hf.1;rw[u.row_eq]at h1 h2 h3|-;refine A0j hB func139 ?_;simp -dsimp -implicitDefEqProofs;refine A1i hB (A0G gl) (λ_=>0) (λ_=>0) (by rfl) (by kernel_rfl) ?_;simp -dsimp -implicitDefEqProofs;refine A1M func92 h1 ?_;simp -dsimp -implicitDefEqProofs;refine A1M func39 h2 ?_;simp -dsimp -implicitDefEqProofs;refine A1M func25 h3 ?_;simp -dsimp -implicitDefEqProofs
set_option maxHeartbeats 1000000 in
def C5y(p:List A0I)(M:Mem):A0d (WC gl) 136 [.agg (A0W.rep p).row] M (λv M'=>v=.agg (A0W.rep p).row/\M'=M):=by
 refine A0d.dataX ?_;obtain⟨b,hb⟩:∃b,b=M.length:=⟨_,rfl⟩;obtain⟨M1,a⟩:∃M1,M1=M++[A0l.cells 128 A6D,A0l.cells 128 [I 1,A0i,A0i,I 0,I 0,I 0,I 0,I 0,I 0,eS,A0i,A0i,A0i,A0i,A0i,eS,eS,I 0,I 0,eS,I 0,I 0,I 0,eS,A0i]]:=⟨_,rfl⟩;have h1:M1[b]?=some (A0l.cells 128 [I 0,A0i,A0i,I 0,I 0,I 0,I 0,I 0,I 0,eS,A0i,A0i,A0i,A0i,A0i,eS,eS,I 0,I 0,eS,I 0,I 0,I 0,eS,A0i]):=by rw[a,hb];simp[A6D]
 have h2:M1[b+1]?=some (A0l.cells 128 [I 1,A0i,A0i,I 0,I 0,I 0,I 0,I 0,I 0,eS,A0i,A0i,A0i,A0i,A0i,eS,eS,I 0,I 0,eS,I 0,I 0,I 0,eS,A0i]):=by rw[a,hb];simp[]
 have f:Grow M M1:=by rw[a];exact A0c.app none _ _
 have i:b+1<M1.length:=(Z0b.1 h2).1;have j:A0D prog 128 [(0,I 1)]=some (.agg [I 1,A0i,A0i,I 0,I 0,I 0,I 0,I 0,I 0,eS,A0i,A0i,A0i,A0i,A0i,eS,eS,I 0,I 0,eS,I 0,I 0,I 0,eS,A0i]):=by simp[A0D,A1l,A1H,AV.cells,AV.storable]
 have c:∀X,(M1.set (b+1) X)[b+1]?=some X:=λX=>by simp[i]
 have d:∀X,(M1.set (b+1) X)[b]?=some (A0l.cells 128 [I 0,A0i,A0i,I 0,I 0,I 0,I 0,I 0,I 0,eS,A0i,A0i,A0i,A0i,A0i,eS,eS,I 0,I 0,eS,I 0,I 0,I 0,eS,A0i]):=λX=>by rw[Z0f (by omega)];exact h1
 refine A0j hB func136 ?_;simp -dsimp -implicitDefEqProofs[A0W.row,A0m,j,A0n,A0e];rw[show M++[A0l.cells 128 [I 0,A0i,A0i,I 0,I 0,I 0,I 0,I 0,I 0,eS,A0i,A0i,A0i,A0i,A0i,eS,eS,I 0,I 0,eS,I 0,I 0,I 0,eS,A0i],A0l.cells 128 [I 1,A0i,A0i,I 0,I 0,I 0,I 0,I 0,I 0,eS,A0i,A0i,A0i,A0i,A0i,eS,eS,I 0,I 0,eS,I 0,I 0,I 0,eS,A0i]]=M1 by rw[a];rfl,<-hb];refine A1i hB (A0G gl) (λk=>if k=7\/k=9\/k=11 then 2 else 0) (λ_=>0) (by rfl) (by kernel_rfl) ?_;simp -dsimp -implicitDefEqProofs[A0h h2,A0h (c (A0l.cells 128 [I 1,A6X p,A0i,I 0,I 0,I 0,I 0,I 0,I 0,eS,A0i,A0i,A0i,A0i,A0i,eS,eS,I 0,I 0,eS,I 0,I 0,I 0,eS,A0i]))];have h3:=c (A0l.cells 128 [I 1,A6X p,A0i,I 0,I 0,I 0,I 0,I 0,I 0,eS,A0i,A0i,A0i,A0i,A0i,eS,eS,I 0,I 0,eS,I 0,I 0,I 0,eS,A0i]);have h4:=d (A0l.cells 128 [I 1,A6X p,A0i,I 0,I 0,I 0,I 0,I 0,I 0,eS,A0i,A0i,A0i,A0i,A0i,eS,eS,I 0,I 0,eS,I 0,I 0,I 0,eS,A0i]);generalize g:M1.set (b+1) (A0l.cells 128 [I 1,A6X p,A0i,I 0,I 0,I 0,I 0,I 0,I 0,eS,A0i,A0i,A0i,A0i,A0i,eS,eS,I 0,I 0,eS,I 0,I 0,I 0,eS,A0i])=M2 at*;have l:Grow M M2:=by rw[<-g];exact A1e f (by omega)
 have h:b<M2.length:=(Z0b.1 h4).1;simp -dsimp -implicitDefEqProofs[A0b h3,A0h h4,A0y h,A0k];have e:=B3Q b p;exact⟨A1e l (by omega),.same (by simp[bdd,A1Q]at e|-;exact e) .nil⟩
set_option maxHeartbeats 1000000 in
def C6j(u:A0a)(M:Mem):A0d (WC gl) 136 [.agg (A0W.ins u).row] M (λv M'=>v=.agg (A0W.ins u).row/\M'=M):=by
 refine A0d.dataX ?_;obtain⟨b,hb⟩:∃b,b=M.length:=⟨_,rfl⟩;obtain⟨M1,c⟩:∃M1,M1=M++[A0l.cells 128 A6D,A0l.cells 128 [I 0,A0i,A0i,I 0,I 0,I 0,I 0,I 0,I 0,eS,A0i,A0i,A0i,A0i,A0i,eS,eS,I 0,I 0,eS,I 0,I 0,I 0,eS,A0i]]:=⟨_,rfl⟩;have h1:M1[b]?=some (A0l.cells 128 [I 0,A0i,A0i,I 0,I 0,I 0,I 0,I 0,I 0,eS,A0i,A0i,A0i,A0i,A0i,eS,eS,I 0,I 0,eS,I 0,I 0,I 0,eS,A0i]):=by rw[c,hb];simp[A6D]
 have h2:M1[b+1]?=some (A0l.cells 128 [I 0,A0i,A0i,I 0,I 0,I 0,I 0,I 0,I 0,eS,A0i,A0i,A0i,A0i,A0i,eS,eS,I 0,I 0,eS,I 0,I 0,I 0,eS,A0i]):=by rw[c,hb];simp[]
 have f:Grow M M1:=by rw[c];exact A0c.app none _ _
 have i:b+1<M1.length:=(Z0b.1 h2).1;have j:A0D prog 128 [(0,I 0)]=some (.agg [I 0,A0i,A0i,I 0,I 0,I 0,I 0,I 0,I 0,eS,A0i,A0i,A0i,A0i,A0i,eS,eS,I 0,I 0,eS,I 0,I 0,I 0,eS,A0i]):=by simp[A0D,A1l,A1H,AV.cells,AV.storable]
 have a:∀X,(M1.set (b+1) X)[b+1]?=some X:=λX=>by simp[i]
 have d:∀X,(M1.set (b+1) X)[b]?=some (A0l.cells 128 [I 0,A0i,A0i,I 0,I 0,I 0,I 0,I 0,I 0,eS,A0i,A0i,A0i,A0i,A0i,eS,eS,I 0,I 0,eS,I 0,I 0,I 0,eS,A0i]):=λX=>by rw[Z0f (by omega)];exact h1
 refine A0j hB func136 ?_;simp -dsimp -implicitDefEqProofs[A0W.row,A0m,j,A0n,A0e];rw[show M++[A0l.cells 128 [I 0,A0i,A0i,I 0,I 0,I 0,I 0,I 0,I 0,eS,A0i,A0i,A0i,A0i,A0i,eS,eS,I 0,I 0,eS,I 0,I 0,I 0,eS,A0i],A0l.cells 128 [I 0,A0i,A0i,I 0,I 0,I 0,I 0,I 0,I 0,eS,A0i,A0i,A0i,A0i,A0i,eS,eS,I 0,I 0,eS,I 0,I 0,I 0,eS,A0i]]=M1 by rw[c];rfl,<-hb];refine A1i hB (A0G gl) (λk=>if k=7\/k=9\/k=11 then 2 else 0) (λ_=>0) (by rfl) (by kernel_rfl) ?_;simp -dsimp -implicitDefEqProofs[A0h h2,A0h (a (A0l.cells 128 [I 0,A0i,A0i,I 0,I 0,I 0,I 0,I 0,I 0,eS,A0i,A0i,A0i,A0i,A0i,eS,eS,I 0,I 0,eS,I 0,I 0,I 0,eS,A0i]))];refine A1i hB (A0G gl) (λk=>if k=5\/k=7 then 2 else 0) (λ_=>0) (by rfl) (by kernel_rfl) ?_;simp -dsimp -implicitDefEqProofs[A0h (a (A0l.cells 128 [I 0,A0i,A0i,I 0,I 0,I 0,I 0,I 0,I 0,eS,A0i,A0i,A0i,A0i,A0i,eS,eS,I 0,I 0,eS,I 0,I 0,I 0,eS,A0i])),A0h (a (A0l.cells 128 [I 0,A0i,A0i,I 1,I 0,I 0,I 0,I 0,I 0,eS,A0i,A0i,A0i,A0i,A0i,eS,eS,I 0,I 0,eS,I 0,I 0,I 0,eS,A0i]))];have h3:=a (A0l.cells 128 [I 0,A0i,A0i,I 1,I 0,I u.id.act,I u.id.item,I u.id.n,I u.kind,S u.label,.list 4 (A0g u.head) .no,.list 4 (A0g u.words) .no,.list 8 (A0r u.kids) .no,A0i,A0i,eS,eS,I 0,I 0,eS,I 0,I 0,I 0,eS,A0i]);have h4:=d (A0l.cells 128 [I 0,A0i,A0i,I 1,I 0,I u.id.act,I u.id.item,I u.id.n,I u.kind,S u.label,.list 4 (A0g u.head) .no,.list 4 (A0g u.words) .no,.list 8 (A0r u.kids) .no,A0i,A0i,eS,eS,I 0,I 0,eS,I 0,I 0,I 0,eS,A0i]);generalize g:M1.set (b+1) (A0l.cells 128 [I 0,A0i,A0i,I 1,I 0,I u.id.act,I u.id.item,I u.id.n,I u.kind,S u.label,.list 4 (A0g u.head) .no,.list 4 (A0g u.words) .no,.list 8 (A0r u.kids) .no,A0i,A0i,eS,eS,I 0,I 0,eS,I 0,I 0,I 0,eS,A0i])=M2 at*;have l:Grow M M2:=by rw[<-g];exact A1e f (by omega)
 have h:b<M2.length:=(Z0b.1 h4).1;simp -dsimp -implicitDefEqProofs[A0b h3,A0h h4,A0y h,A0k];have e:=A2J b u;rw[u.row_eq]at e;exact⟨A1e l (by omega),.same (by simp[bdd,A1Q]at e|-;exact e) .nil⟩
end
section
variable (gl:Nat->AV)
def D1L(p:List A0I)(M:Mem)(hl:p.length<=9)(hp:∀i (h:i<p.length),B3r i p[i])(hs:∀s∈p,s.lab.size<=maxLen):A0d (WC gl) 83 [.agg (A0W.rep p).row] M (λv M'=>v=B true/\M'=M):=by have h1:=λM=>C5y gl p M;have h2:=λM=>B6e gl (.rep p) M (by show p.length<=_;omega);have h3:=D3u gl p .no M hl hp hs;simp only[A0W.row]at h1 h2;refine A0j hB func83 ?_;simp -dsimp -implicitDefEqProofs[A0W.row];refine A1i hB (A0G gl) (λ_=>0) (λ_=>0) (by rfl) (by kernel_rfl) ?_;simp -dsimp -implicitDefEqProofs;refine A1M func80 (λM=>B2c gl 1 0 11 M (by omega) (by omega)) ?_;simp -dsimp -implicitDefEqProofs;refine A1M func136 h1 ?_;simp -dsimp -implicitDefEqProofs;refine A1M func77 h2 ?_;simp -dsimp -implicitDefEqProofs;refine A0f func137 h3 ?_;simp -dsimp -implicitDefEqProofs;refine A0f func138 (B6b gl M) ?_;simp -dsimp -implicitDefEqProofs
def D3p(u:A0a)(M:Mem)(hf:Fit u)(hb:A2P u)(hk:u.kind≠0)(hv:A7C u=0):A0d (WC gl) 83 [.agg (A0W.ins u).row] M (λv M'=>v=B true/\M'=M):=by
 have a:A5k u=true:=by
  unfold A7C at hv;split at hv
  .assumption
  .simp at hv
 have h1:=λM=>C6j gl u M;have h2:=λM=>B6e gl (.ins u) M hf.1;have h3:=D1H gl u M hf;have h4:=C7Z gl u M hf hb a;rw[hv]at h3;rw[u.row_eq]at h3 h4;simp only[A0W.row]at h1 h2;refine A0j hB func83 ?_;simp -dsimp -implicitDefEqProofs[A0W.row];refine A1i hB (A0G gl) (λ_=>0) (λ_=>0) (by rfl) (by kernel_rfl) ?_;simp -dsimp -implicitDefEqProofs;refine A1M func80 (λM=>B2c gl 0 0 11 M (by omega) (by omega)) ?_;simp -dsimp -implicitDefEqProofs;refine A1M func136 h1 ?_;simp -dsimp -implicitDefEqProofs;refine A1M func77 h2 ?_;simp -dsimp -implicitDefEqProofs;refine A0f func137 (D7k gl M) ?_;simp -dsimp -implicitDefEqProofs;refine A0f func138 (B6b gl M) ?_;simp -dsimp -implicitDefEqProofs;refine A0s func76 h3 ?_;rintro _ M1 ⟨⟨t,rfl⟩,rfl⟩;simp -dsimp -implicitDefEqProofs;refine A0f func80 (B2c gl 1 0 3 M1 (by omega) (by omega)) ?_;simp -dsimp -implicitDefEqProofs;refine A0f func139 h4 ?_;simp -dsimp -implicitDefEqProofs[hk]
end
def C9P:A3t.size=12:=rfl
def C9U:A2I A3t=true:=by kernel_rfl
def C8n:∀i,i<12->¬A1c A3t i=32:=by decide+kernel
section
variable (gl:Nat->AV)
def C3b(M:Mem):A0d (WC gl) 192 [S A3t] M (λv M'=>v=.list 1 (A1b [A3t]) .no/\M'=M):=by
 refine A0d.dataX ?_;have d:¬A3t=⟨#[]⟩:=by decide+kernel
 obtain⟨s,hs⟩:∃s,s=A3t:=⟨_,rfl⟩;have b:=C9P;have j:=C8n;have g:A2r prog 9 (S A3t) (some (I 0)) (some (I 12)) none=some (S A3t):=by kernel_rfl
 rw[<-hs]at d b j g|-;have m:A0p prog 37 0 []=some (.list 1 [] .full):=by kernel_rfl
 refine A0j (hQ [32]) func192 ?_;simp -dsimp -implicitDefEqProofs[m,d];refine A0v (hQ [32]) 13 5 (λT M1=>∃i:Nat,i<=13/\T 0=S s/\T 4=I (if i=13 then 13 else 0:Nat)/\T 5=I i/\(i<=12->T 3=.list 1 [] .full/\M1=M)/\(i=13->T 3=.vref M.length 0 1 0 1/\M1=M++[.vec 9 1 [S s] 0 [(0,1)]])) ?_ ?_
 .exact⟨0,by omega,by simp,by simp,by simp,λ_=>⟨by simp,rfl⟩,λh=>by omega⟩
 rintro T M1 ⟨i,i1,t0,t4,t5,q,p⟩;have a:(s.size:Int)=12:=by omega
 by_cases hi:i=13
 .subst hi;obtain⟨t3,rfl⟩:=p rfl;simp -dsimp -implicitDefEqProofs[t0,t3,t5,b];refine⟨A0c.app none _ _,?_⟩;have ho:A1n 9 1 A5F (M++[A0l.vec 9 1 [S s] 0 [(0,1)]]) (.vref M.length 0 1 0 1) [s]:=.inr ⟨M.length,0,[(0,1)],rfl,by simp,by simp[List.lookup]⟩;exact A2W (enc:=A5F) (λ_=>rfl) (λn x=>by simp[A1Q,bdd]) ho (λf hf=>by simp at hf;omega)
 obtain⟨t3,rfl⟩:=q (by omega);rw[Z0e hi]at t4;have r:(i:Int)<=12:=by omega
 have w1:=A1y (i:=i) (by omega);by_cases hi2:i=12
 .subst hi2;have wr:IntKind.i64.wrap 13=13:=by decide
  simp -dsimp -implicitDefEqProofs[t0,t3,t4,t5,b,g,A0p,A0Z,AV.storable,AV.cells];have hx:A0z M1 1 (.list 1 [[S s]] .full)=some ([S s],1):=by simp[A0z]
  refine A6u (e:=9) (sz:=1) (bytes:=16) (k:=0) A7n A9D B5x (by rfl) hx (by omega) (by simp only[A3g,hx]) ?_;simp only[A2L,hx];simp -dsimp -implicitDefEqProofs[t0,t5,wr];exact⟨13,by omega,rfl,rfl,by omega⟩
 .have hn:=j i (by omega);have c:¬(i:Int)=12:=by omega
  have o:(i:Int)<12:=by omega
  have l:¬i+1=13:=by omega
  simp -dsimp -implicitDefEqProofs[t0,t3,t4,t5,b,r,c,o,hn,w1];refine⟨⟨i+1,by omega,?_,rfl,by omega⟩,by omega⟩;rw[Z0e l];rfl
def C5a(M:Mem):A0d (WC gl) 134 [S A3t] M (λv M'=>v=.tuple [.list 1 (A1b [A3t]) .no,I 0]/\M'=M):=by
 have hp:=C3b gl M;have hw:=λM=>C4Q gl M A3t (by show 12<=9223372036854775807;omega);rw[C9U]at hw;obtain⟨s,hs⟩:∃s,s=A3t:=⟨_,rfl⟩;rw[<-hs]at hp hw|-;have b:A1b [s]=[[S s]]:=rfl;rw[b]at hp|-;refine A0j hB func134 ?_;simp -dsimp -implicitDefEqProofs;refine A0f func192 hp ?_;simp -dsimp -implicitDefEqProofs;refine A0v hB 1 5 (λT M1=>∃i:Nat,i<=1/\T 4=.list 1 [[S s]] .no/\T 5=I i/\M1=M) ?_ ?_
 .exact⟨0,by omega,by simp,by simp,rfl⟩
 rintro T M1 ⟨i,i1,t4,t5,rfl⟩;have a:IntKind.i64.wrap 1=1:=by decide
 by_cases hi:i=1
 .subst hi;simp -dsimp -implicitDefEqProofs[t4,t5]
 .have:i=0:=by omega
  subst this;simp -dsimp -implicitDefEqProofs[t4,t5];refine A0f func193 (hw M1) ?_;simp -dsimp -implicitDefEqProofs[t4,t5,a];exact⟨1,by omega,rfl⟩
def C9i(M:Mem):A0d (WC gl) 81 [S A3t] M (λv M'=>v=B true/\M'=M):=by have hp:=C5a gl M;obtain⟨s,hs⟩:∃s,s=A3t:=⟨_,rfl⟩;rw[<-hs]at hp|-;have a:A1b [s]=[[S s]]:=rfl;rw[a]at hp;refine A0j hB func81 ?_;simp -dsimp -implicitDefEqProofs;refine A0f func134 hp ?_;simp -dsimp -implicitDefEqProofs
def D4e(b c:Int)(a:List A0W)(M:Mem)(h1:1<=b)(h2:b<=1048576)(h3:0<=c)(h4:c<=1048576)(hl:a.length<=32)(hi:∀i (h:i<a.length) M,A0d (WC gl) 83 [.agg a[i].row] M (λv M'=>v=B true/\M'=M)):
 A0d (WC gl) 27 [C0S b c a] M (λv M'=>v=B true/\M'=M):=by
 have ht:=C9i gl M
 obtain⟨s,hs⟩:∃s,s=A3t:=⟨_,rfl⟩
 rw[C0S,<-hs]
 rw[<-hs]at ht
 have f:¬(a.length:Int)>32:=by omega
 refine A0j hB func27 ?_
 simp -dsimp -implicitDefEqProofs
 refine A0f func80 (B2c gl b 1 1048576 M h1 h2) ?_
 simp -dsimp -implicitDefEqProofs
 refine A0f func81 ht ?_
 simp -dsimp -implicitDefEqProofs
 refine A0f func80 (B2c gl c 0 1048576 M h3 h4) ?_
 simp -dsimp -implicitDefEqProofs
 refine A0f func82 (C9z gl c M h3 h4) ?_
 simp -dsimp -implicitDefEqProofs[f]
 refine A0v hB a.length 3 (λT M1=>∃i:Nat,i<=a.length/\T 1=.cptr [I b,S s,I c,I 1,I c,eS,.list 25 (a.map A0W.row) .no]/\T 3=I i/\M1=M) ?_ ?_
 .exact⟨0,by omega,by simp,by simp,rfl⟩
 rintro T M1 ⟨i,i1,t1,t3,rfl⟩
 by_cases hii:i<a.length
 case neg=>
  have d:¬(i:Int)<a.length:=by omega
  simp -dsimp -implicitDefEqProofs[t1,t3,d]
 have d:(i:Int)<a.length:=by omega
 have w1:=A1y (i:=i) (by omega)
 have hc:=hi i hii M1
 obtain⟨x,hx⟩:∃x,x=a[i]:=⟨_,rfl⟩
 have e:a[i]=x:=hx.symm
 rw[e]at hc
 have g:(a.map A0W.row)[i]?=some x.row:=by rw[hx];simp[hii]
 simp -dsimp -implicitDefEqProofs[t1,t3,d,hii,e]
 refine A0f func83 hc ?_
 simp -dsimp -implicitDefEqProofs[t1,t3,w1]
 exact⟨⟨i+1,by clear w1;omega,rfl⟩,by clear w1;omega⟩
end
def D4i(u:A0a)(l:List A0S)(s:List A1R)(a:Int):B4B u l s a 7=B4B u l s a 0:=by
 have:B6Z a 7=B6Z a 0:=by simp[B6Z]
 unfold B4B;rw[this]
section
variable (gl:Nat->AV)
def D3i{u:A0a}{l:List A0S}{s:List A1R}{a e:Int}(hf:Fit u)(hl:l.length<=500)(f:∀s∈l,s.good)(ht:∀m∈s,m.to.length<=40)(hA:B7H u l s a e):∀i (h:i<(A1U u++A2u (A2D u l s)).length) M,A0d (WC gl) 83 [.agg (A1U u++A2u (A2D u l s))[i].row] M (λv M'=>v=B true/\M'=M):=by
 intro i h M
 have b:(A1U u).length=u.kids.length:=by simp[A1U]
 have d:(A2u (A2D u l s)).length=(A2D u l s).length:=by simp[A2u]
 rw[Z0v,b,d]at h
 by_cases hi:i<u.kids.length
 .have e1:(A1U u++A2u (A2D u l s))[i]'(by rw[Z0v];omega)=.rep [A3k,⟨u.kids[i].kind,u.kids[i].label⟩]:=by rw[Z4d (by omega)];simp only[A1U,Z2i];rw[C7n (C1F hA) (Z0u hi)];rfl
  rw[e1];obtain⟨k1,-⟩:=C5A hA.right hA.kind hi;have hg:=((A0a.good_iff _).1 hf.1).2.2.2.2.2.2.2.2 _ (Z0u hi);have c:=((A0a.good_iff _).1 hg).2.2.1;refine D1L gl [A3k,⟨u.kids[i].kind,u.kids[i].label⟩] M (by simp) (λj hj=>?_) (λs hs=>?_)
  .match j,hj with
   |0,_=>exact .inl ⟨rfl,rfl⟩
   |1,_=>exact k1
  .simp only[Z0A,Z2j,Z3y]at hs;rcases hs with rfl|rfl
   .show 0<=_;omega
   .exact c
 .obtain⟨j,rfl⟩:∃j,i=u.kids.length+j:=⟨i-u.kids.length,by omega⟩;have hj:j<(A2D u l s).length:=by omega
  have e1:(A1U u++A2u (A2D u l s))[u.kids.length+j]'(by rw[Z0v];omega)=.ins (A2D u l s)[j].1:=by rw[Z2J (by omega)];simp only[b,Z2n,A2u,Z2i]
  have hI:=D4S hf hA.sound hl f ht hA.slots hA.kind hA.id a hA.n1 hA.n2 hA.len hA.fmt hj;rw[e1];exact D3p gl _ M hI.hft hI.hbt hI.hkt hI.hvt
def D7J(q:gl 0=A2z)(p:gl 1=A2S)(y:gl 3=.cptr [fnV 444,fnV 445])(u:A0a)(l:List A0S)(s:List A1R)(a:Int)(hg:u.good)(hl:l.length<=maxLen)(i:∀s∈l,s.good)(hs:s.length<=maxLen)(a6:A4d (WC gl) 10 [] [] (λr _=>r=.val (.bool true))):
 A0d (WC gl) 6 [.agg u.row,.list 5 (A2C l) .no,.list 5 (A3P s) .no,I a] [] (λv _=>v=B true):=by
 have j:=λM=>D1G gl u l s M hg hl hs
 have a0:=D7y u hg
 have hr:=u.row_eq
 have b:=λM hf h1 h2 h3=>D3z gl q p y u l s a M hf h1 i h2 h3
 have c:=λM hf h1 h2 h3=>D5s gl q p u l s a 7 M hf h1 i h2 h3
 simp only[D0l,D4i]at c
 rw[hr]at j b c|-
 refine A0j hB func6 ?_
 simp -dsimp -implicitDefEqProofs
 refine A4A a6 ?_
 rintro _ M ⟨rfl⟩
 simp -dsimp -implicitDefEqProofs
 refine A0f func11 (j M) ?_
 cases c1:C3x u l s with
 |false=>simp -dsimp -implicitDefEqProofs
 |true=>
 have t:=c1
 simp only[C3x,Z0g,Z0m,Z0t]at t
 obtain⟨⟨⟨⟨c2,c3⟩,c4⟩,c5⟩,c6⟩:=t
 obtain⟨hf,ab⟩:=a0 c2
 have h3:∀m∈s,m.to.length<=40:=λm hm=>by simpa using c6 m hm
 have b:=λM=>b M hf (by omega) (by omega) h3
 have c:=λM=>c M hf (by omega) (by omega) h3
 unfold D6q at b
 simp -dsimp -implicitDefEqProofs
 by_cases he:B4B u l s a 0=0
 case neg=>
  rw[Z0e he]at b;simp only[Z0e he,A5A,A5Z]at c;obtain⟨e,a4⟩:∃e,e=B4B u l s a 0:=⟨_,rfl⟩;rw[<-a4]at he b c;refine A0f func20 (c M) ?_;obtain⟨M1,h⟩:∃M1,M1=M++[A0l.cells 49 [I 0,eS,I 0,I 0,I 0,eS,A0i]]:=⟨_,rfl⟩;have a1:M1[M.length]?=some (A0l.cells 49 [I 0,eS,I 0,I 0,I 0,eS,A0i]):=by rw[h];simp
  obtain⟨M2,f⟩:∃M2,M2=M1++[A0l.cells 27 zU]:=⟨_,rfl⟩;have a2:M2[M1.length]?=some (A0l.cells 27 zU):=by rw[f];simp
  have a3:=(show Grow M1 M2 by rw[f];exact A0c.app none _ _).get a1 (by simp);have a7:A1D prog 27 M2 (.ptr M1.length 0)=some (.agg zU):=by rw[A0b a2];kernel_rfl
  simp -dsimp -implicitDefEqProofs[A0m,A0n,A0e];rw[<-h];refine A0f func24 (b M1) ?_;have aa:A1g prog 27 zU=some (.agg zU):=by kernel_rfl
  simp -dsimp -implicitDefEqProofs[A0m,A0n,A0e];rw[<-f];refine A0f func23 (C8S gl M2) ?_;simp -dsimp -implicitDefEqProofs[he,a7];refine A0f func25 (B4L gl M2) ?_;simp -dsimp -implicitDefEqProofs[A0b a3,A5y,A5Z];refine A0f func22 (C6h gl M2) ?_;simp -dsimp -implicitDefEqProofs
 have hA:=C2j hf he
 rw[Z0d he]at b
 simp only[Z0d he]at c
 have g:=λM=>B8M gl q p y hf (by omega) i h3 hA 7 M
 have o:=λM=>D4e gl a 7 (A1U u++A2u (A2D u l s)) M hA.n1 hA.n2 (by omega) (by omega) (by have:=hA.len;simp[A1U,A2u];omega) (D3i gl hf (by omega) i h3 hA)
 have z:=D8p hf (by omega) i h3 hA
 obtain⟨-,-,d3⟩:=C9l hA
 obtain⟨V,hV⟩:∃V,V=A6f u a (A2D u l s):=⟨_,rfl⟩
 obtain⟨D,hD⟩:∃D,D=A7i a u (A2D u l s):=⟨_,rfl⟩
 obtain⟨d,a5⟩:∃d,d=A1U u++A2u (A2D u l s):=⟨_,rfl⟩
 rw[<-hV]at b z g
 rw[<-hD]at b d3
 simp only[<-a5,<-hD]at c g o
 have w:=λM=>B9m gl V M z.2.1
 have a9:=λM=>D2p gl D M (by show D.length<=9223372036854775807;omega)
 rw[V.row_eq]at b g w
 rw[hr]at g
 rw[C0S]at c g o
 refine A0f func20 (c M) ?_
 obtain⟨M1,h⟩:∃M1,M1=M++[A0l.cells 49 [I a,S A3t,I 7,I 1,I 7,eS,.list 25 (d.map A0W.row) .no]]:=⟨_,rfl⟩
 have a1:M1[M.length]?=some (A0l.cells 49 [I a,S A3t,I 7,I 1,I 7,eS,.list 25 (d.map A0W.row) .no]):=by rw[h];simp
 obtain⟨M2,f⟩:∃M2,M2=M1++[A0l.cells 27 [I V.id.act,I V.id.item,I V.id.n,I V.kind,S V.label,.list 4 (A0g V.head) .no,.list 4 (A0g V.words) .no,.list 8 (A0r V.kids) .no]]:=⟨_,rfl⟩
 have a2:M2[M1.length]?=some (A0l.cells 27 [I V.id.act,I V.id.item,I V.id.n,I V.kind,S V.label,.list 4 (A0g V.head) .no,.list 4 (A0g V.words) .no,.list 8 (A0r V.kids) .no]):=by rw[f];simp
 have g2:Grow M1 M2:=by rw[f];exact A0c.app none _ _
 obtain⟨M3,k⟩:∃M3,M3=M2++[A0l.cells 27 [I V.id.act,I V.id.item,I V.id.n,I V.kind,S V.label,.list 4 (A0g V.head) .no,.list 4 (A0g V.words) .no,.list 8 (A0r V.kids) .no]]:=⟨_,rfl⟩
 have a3:M3[M2.length]?=some (A0l.cells 27 [I V.id.act,I V.id.item,I V.id.n,I V.kind,S V.label,.list 4 (A0g V.head) .no,.list 4 (A0g V.words) .no,.list 8 (A0r V.kids) .no]):=by rw[k];simp
 have g3:Grow M2 M3:=by rw[k];exact A0c.app none _ _
 have b2:=g2.get a1 (by simp)
 have b3:=g3.get b2 (by simp)
 have a8:=g3.get a2 (by simp)
 simp -dsimp -implicitDefEqProofs[A0m,A0n,A0e]
 rw[<-h]
 refine A0f func24 (b M1) ?_
 simp -dsimp -implicitDefEqProofs[A0m,A0n,A0e]
 rw[<-f]
 refine A0f func23 (a9 M2) ?_
 simp -dsimp -implicitDefEqProofs[A0b b2]
 refine A0f func26 (g M2) ?_
 simp -dsimp -implicitDefEqProofs[A0m,A0n,A0e]
 rw[<-k]
 simp -dsimp -implicitDefEqProofs[A0b b3]
 refine A0f func27 (o M3) ?_
 simp -dsimp -implicitDefEqProofs[A0b a3,A0b a8]
 refine A0f func28 (w M3) ?_
 simp -dsimp -implicitDefEqProofs[A0b b3]
end
end Go.Abs
