/- A part of the proof. -/
import Derived.Test.YtmpdkagfplajjaaGreatDoorHG26
import Derived.RangeFuncLeaves
set_option linter.all false
set_option maxRecDepth 100000
namespace Go.Abs
def B2N{a:Act}:shA [] a=a:=by simp[shA]
def D6t{N:Act->World->Prop}:shN [] N=N:=by funext a w;exact propext ⟨λ⟨a0,h1,h2⟩=>by rw[B2N]at h1;rw[h1];exact h2,λh=>⟨a,B2N.symm,h⟩⟩
def D0S{Q:Exit->Act->World->Prop}:shQ [] Q=Q:=by funext e a w;exact propext ⟨λ⟨a0,h1,h2⟩=>by rw[B2N]at h1;rw[h1];exact h2,λh=>⟨a,B2N.symm,h⟩⟩
def C0d{C:Ctx}{r:Option Nat}{N:Nat}{c:Code}{Q:Exit->Env->Mem->Prop}{T:Env}{M:Mem}(h:A9n r [] C N c Q T M){G:A0o}{w:World}{a:Act}(hi:Inv C G M w)(he:A1R G N T a):c.wpIn (A5d r) 0 C.P (B1E C N Q G w) a w:=by have:=h G w a hi he;rwa[D0S,B2N]at this
def B4O{C:Ctx}{N:Nat}{h:A2u}{ops:Array Oper}{r:Option Nat}{Q:Exit->Act->World->Prop}{c:List Oper}(hQ:∀a w,¬Q .outgrown a w){K:Env->Mem->Prop}:∀(l:List Oper) (G0:A0o) (w0:World) (G:A0o) (T:Env) (M:Mem) (w:World) (a:Act),
 A1P N ops l=true->B3c l=true->A8o C h ops l K T M->G0.le G->Ext w0 w->Inv C G M w->A1R G N T a->
 (∀G' w' a' T' M',K T' M'->G0.le G'->Ext w0 w'->Inv C G' M' w'->A1R G' N T' a'->wpListIn (A5d r) 0 C.P ops Q c a' w')->wpListIn (A5d r) 0 C.P ops Q (l++c) a w
 |[],G0,w0,G,T,M,w,a,_,_,hv,hle,hext,hi,he,hk=>hk G w a T M hv hle hext hi he
 |o::l,G0,w0,G,T,M,w,a,hin,hnd,hv,hle,hext,hi,he,hk=>by
  simp only[A1P,Z1n,Z0f]at hin;obtain⟨⟨ho,hg⟩,f⟩:=hin;have b:A1P N ops l=true:=by simpa[A1P]using f
  have g:=B4m hnd o (by simp);have e:B3c l=true:=by simp only[B3c,Z1n,Z0f]at hnd;exact hnd.2
  simp only[A8o]at hv;simp only[Z0V,wpListIn];rcases A9c (C:=C) (M:=M) (w:=w) he hg hv with⟨hw,hr⟩|⟨hw,hs⟩
  .rw[Z0e hw];have:=D6b (r:=r) (n:=0) (d:=[]) (Q:=Q) g hQ (A5n hi (A7Q hi he ho) hr (wpListIn (A5d r) 0 C.P ops Q (l++c)) Q (λv M' G' w' x hk1 h1 h2 h3 h4=>B4O hQ l G0 w0 G' _ M' w' _ b e hk1 (hle.trans h1) (hext.trans h4) h2 ((he.mono h1).put h3) hk));rwa[B2N,D6t,D0S]at this
  .rw[Z0d (by simp[hw])];exact⟨λ_ _=>trivial,B4O hQ l G0 w0 G _ M w _ b e hs hle hext hi (he.put (by simp[Rep])) hk⟩
def D3F{P:Program}{o:Oper}{f:Operand}{args:List Operand}{ts:Array TypeId}{a:Act}{w:World}{l fn:Nat}{vs tmps:Array Value}{b c:Code}{R:Ending->World->Prop}{next:Act->World->Prop}{Q:Exit->Act->World->Prop}
 (ho:o.op=.call {callee:=.value f,args:=args.toArray,argTypes:=ts})(hf:a.eval f=.func (.yield l) #[] #[])(d:args.toArray.map a.eval=vs)(hy:(Instr.yield l vs).run P w=.ok (.round l fn tmps b c) w)
 (hr:RoundIn (A5d none) 0 P l fn tmps b c w R)(hk:∀e w',R e w'->∃v,e=.returned v/\next (a.put o.dst v) w'):o.wpIn (A5d none) 0 P a w next Q:=by
 refine⟨λ_ _=>trivial,?_⟩
 rw[Oper.semAt_plain _ _ _ (by rw[ho];simp)]
 have e:(execOp a.eval o).run P w=.ok (.round l fn tmps b c) w:=by simp only[execOp,ho,Z0E,resolve,hf,d,Deferred.ofValue,Z0K,Z0u,invoke];rw[Array.empty_append];exact hy
 rw[e]
 refine⟨λe=>by simp[A5d,Fence.wide]at e,RoundIn.mono hr λe w' h=>?_⟩
 obtain⟨v,rfl,h2⟩:=hk e w' h
 exact h2
def C6C{C:Ctx}{fn:Func}{rs:List ResultVar}(f:fn.results=rs.toArray){N:Nat}(d:A4X N rs=true){G:A0o}{M:Mem}{w:World}{T:Env}{a:Act}(hi:Inv C G M w)(he:A1R G N T a){r:AV}(b:A3P C rs T M=some r):∃v,(results fn a.tmps).run C.P w=.ok v w/\Rep G r v:=by
 unfold A3P at b
 have c:∀vs',A6L C T M rs=some vs'->∃xs,(fn.results.mapM (B6y a.tmps)).run C.P w=.ok xs.toArray w/\A0t G vs' xs:=by intro vs' g;obtain⟨xs,q1,q2⟩:=A7k hi he rs vs' d g;refine⟨xs,?_,q2⟩;rw[f];simp only[Z3m,Sem.run_map,q1,Z0u]
 cases hrl:A6L C T M rs with
 |none=>rw[hrl]at b;simp at b
 |some vs'=>
  rw[hrl]at b
  obtain⟨xs,q1,q2⟩:=c vs' hrl
  have hl:=q2.length
  by_cases h1':vs'.length=1
  .match vs',h1' with
   |[v],_=>simp only[Z0b]at b;subst b;simp only[A0t]at q2;obtain⟨x,_,rfl,hx,rfl⟩:=q2;exact⟨x,by simp only[A8G,Z0E,q1,Z0u,Z0K];simp,hx⟩
  .have e:r=.tuple vs':=by
    split at b
    .rename_i v hv;simp only[Z0b]at hv;subst hv;simp at h1'
    .rename_i vs'' _ hv;simp only[Z0b]at hv b;subst hv;exact b.symm
    .rename_i hv;simp at hv
   subst e;exact⟨.tuple xs.toArray,by simp only[A8G,Z0E,q1,Z0u,Z0K];simp[hl,h1'],by simp only[Rep];exact⟨_,rfl,by simpa using q2⟩⟩
def C9K{C:Ctx}{fn:Func}{rs:List ResultVar}(d:fn.results=rs.toArray){N:Nat}(c:A4X N rs=true){G:A0o}{M:Mem}{w:World}{T:Env}{a:Act}{D:Nat}(hi:Inv C G M w)(he:A1R G N T a)(hk:G.keep D=some (.deferred (some []))){r:AV}(hr:A3P C rs T M=some r) {R:Ending->World->Prop}(hR:∀v w',Inv C (G.keepAt D none) M w'->Rep (G.keepAt D none) r v->Ext w w'->R (.returned v) w'):LeavesInM (A5d none) 0 C.P fn (shA [⟨.collected D,#[]⟩] a).tmps R (shA [⟨.collected D,#[]⟩] a).defers .returning w:=by
 have hd:(shA [⟨.collected D,#[]⟩] a).defers=[⟨.collected D,#[]⟩]:=by simp[shA,he.defers]
 rw[hd]
 have hw:=hi.keep D _ hk
 refine⟨by simp,.inl ⟨D,_,rfl,run_takeDeferred hw,?_⟩⟩
 have b:=hi.turn (w':=w.putObj D (.deferred none)) D (λx hx=>by rw[hw]at hx;cases hx;trivial) (λk hk _=>World.putObj_heap_other hk) none (λx hx=>by cases hx)
 obtain⟨v,h1,h2⟩:=C6C d c b he.kp hr
 exact⟨v,h1,hR v _ b h2 B4u⟩
end Go.Abs
