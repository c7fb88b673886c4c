/- The texts AbsZ6, AbsZ7. -/
import Derived.Test.YtmpdkagfplajjaaGreatDoorAG14
set_option linter.all false
namespace Go.Abs
abbrev YC:=Exit×BT×HT×Nat×List Nat
noncomputable def C0Q(f:BT->HT->Nat->List Nat->Option YC):Nat->BT->HT->Nat->List Nat->Option YC
 |0,_,_,_,_=>none
 |k+1,t,h,n,ws=>match f t h n ws with
  |some (.normal,t,h,n,ws)=>C0Q f k t h n ws
  |r=>r
noncomputable def B9B:Nat->HT->Nat->HT
 |0,h,_=>h
 |k+1,h,n=>B9B k (h.put n A1q) (n+1)
noncomputable def A4j(yc:A9i)(C:Ctx)(fuel base:Nat)(c:Code):BT->HT->Nat->List Nat->Option YC:=
 Code.rec (motive:=λ_=>BT->HT->Nat->List Nat->Option YC)
  (λt h n ws=>some (.normal,t,h,n,ws))
  (λ_ ops draw t h n ws=>match draw with
   |true=>match B8U yc C ops (fos C ops.toList) t (B9B (A3M ops.toList) h n) (n+A3M ops.toList) n with
    |some (t',h',n',fs)=>match okF ops fs with
     |true=>some (.normal,t',h',n',B8k base fs ws)
     |false=>none
    |none=>none
   |false=>match C6m yc C base ops (fos C ops.toList) t h n ws with
    |some s=>some (.normal,s)
    |none=>none)
  (λ_ _ x y t h n ws=>match x t h n ws with
   |some (.normal,t,h,n,ws)=>y t h n ws
   |r=>r)
  (λc _ _ x y t h n ws=>match rd t (A3H C c)with
   |.val (.bool true)=>x t h n ws
   |.val (.bool false)=>y t h n ws
   |_=>none)
  (λid _ c t h n ws=>match c t h n ws with
   |some (.exit i,s)=>match Nat.beq i id with
    |true=>some (.normal,s)
    |false=>some (.exit i,s)
   |r=>r)
  (λ_ c t h n ws=>C0Q c fuel t h n ws)
  (λ_ _ _ _ _ _ _ _ _ _=>none)
  (λid t h n ws=>some (.exit id,t,h,n,ws))
  (λ_ _ _ _ _ _=>none)
  (λ_ t h n ws=>some (.normal,t,h,n,ws))
  (λ_ _ _ _ _=>none)
  (λt h n ws=>some (.ret,t,h,n,ws))
  (λ_ _ _ _ _=>none) c
section
variable {yc:A9i} {C:Ctx} {fuel base:Nat} {t:BT} {h:HT} {n:Nat} {ws:List Nat}
def B8I:A4j yc C fuel base .skip t h n ws=some (.normal,t,h,n,ws):=rfl
def C4V{l}:A4j yc C fuel base (.label l) t h n ws=some (.normal,t,h,n,ws):=rfl
def C8H:A4j yc C fuel base .ret t h n ws=some (.ret,t,h,n,ws):=rfl
def C6M{id}:A4j yc C fuel base (.exit id) t h n ws=some (.exit id,t,h,n,ws):=rfl
def C2D{id}{ops}{draw}:A4j yc C fuel base (.region id ops draw) t h n ws=match draw with
 |true=>match B8U yc C ops (fos C ops.toList) t (B9B (A3M ops.toList) h n) (n+A3M ops.toList) n with
  |some (t',h',n',fs)=>match okF ops fs with
   |true=>some (.normal,t',h',n',B8k base fs ws)
   |false=>none
  |none=>none
 |false=>match C6m yc C base ops (fos C ops.toList) t h n ws with
  |some s=>some (.normal,s)
  |none=>none:=rfl
def C0x{x y}:A4j yc C fuel base (.seq x y) t h n ws=match A4j yc C fuel base x t h n ws with
 |some (.normal,t,h,n,ws)=>A4j yc C fuel base y t h n ws
 |r=>r:=rfl
def C7f{c}{x y}:A4j yc C fuel base (.cond c x y) t h n ws=match rd t (A3H C c)with
 |.val (.bool true)=>A4j yc C fuel base x t h n ws
 |.val (.bool false)=>A4j yc C fuel base y t h n ws
 |_=>none:=rfl
def C4Q{id}{c}:A4j yc C fuel base (.block id c) t h n ws=match A4j yc C fuel base c t h n ws with
 |some (.exit i,s)=>match Nat.beq i id with
  |true=>some (.normal,s)
  |false=>some (.exit i,s)
 |r=>r:=rfl
def C6e{c}:A4j yc C fuel base (.loop c) t h n ws=C0Q (A4j yc C fuel base c) fuel t h n ws:=rfl
def B6A{f}{p}{a b}:A4j yc C fuel base (.rangeFunc f p a b) t h n ws=none:=rfl
def C5v{c}:A4j yc C fuel base (.scope c) t h n ws=none:=rfl
def B7C{l}:A4j yc C fuel base (.goto l) t h n ws=none:=rfl
def C1E{s}:A4j yc C fuel base (.refuse s) t h n ws=none:=rfl
end
def C0l:∀(k:Nat) (h:HT) (n:Nat) (M:Mem),Hp h n M->Hp (B9B k h n) (n+k) (B1Y k M)
 |0,h,n,M,hp=>hp
 |k+1,h,n,M,hp=>by have ih:=C0l k (h.put n A1q) (n+1) (M++[A1q]) hp.push;rw[B0D]at ih|-;rw[show n+(k+1)=n+1+k from by omega];simp only[B9B];rw[Z1Y,<-List.append_cons]at*;exact ih
def C4D{f:BT->HT->Nat->List Nat->Option YC}{fx:BT->Mem->List Nat->Option XC}(hf:∀t h n M ws e t' h' n' a,Hp h n M->f t h n ws=some (e,t',h',n',a)->∃M',fx t M ws=some (e,t',M',a)/\Hp h' n' M'):
 ∀(k:Nat) (t:BT) (h:HT) (n:Nat) (M:Mem) (ws:List Nat) (e:Exit) (t':BT) (h':HT) (n':Nat) (a:List Nat),Hp h n M->C0Q f k t h n ws=some (e,t',h',n',a)->∃M',B0V fx k t M ws=some (e,t',M',a)/\Hp h' n' M'
 |0,t,h,n,M,ws,e,t',h',n',a,hp,hy=>by simp[C0Q]at hy
 |k+1,t,h,n,M,ws,e,t',h',n',a,hp,hy=>by
  simp only[C0Q]at hy;simp only[B0V];split at hy
  .rename_i t1 h1 n1 ws1 hr;obtain⟨M1,q1,q2⟩:=hf _ _ _ _ _ _ _ _ _ _ hp hr;obtain⟨M2,q3,q4⟩:=C4D hf k t1 h1 n1 M1 ws1 e t' h' n' a q2 hy;exact⟨M2,by simp only[q1,q3],q4⟩
  .rename_i hne;obtain⟨M1,q1,q2⟩:=hf _ _ _ _ _ _ _ _ _ _ hp hy;refine⟨M1,?_,q2⟩;rw[q1];cases e with
   |normal=>exact absurd hy (hne _ _ _ _)
   |_=>rfl
def A5P{call}{yc}{C}(hc:YOK call yc){fuel base}:∀(c:Code) (t:BT) (h:HT) (n:Nat) (M:Mem) (ws:List Nat) (e:Exit) (t':BT) (h':HT) (n':Nat) (a:List Nat),Hp h n M->A4j yc C fuel base c t h n ws=some (e,t',h',n',a)->
 ∃M',A2h call C fuel base c t M ws=some (e,t',M',a)/\Hp h' n' M'
 |.skip,t,h,n,M,ws,e,t',h',n',a,hp,hy=>by rw[B8I]at hy;simp only[Z0a,Z0b]at hy;obtain⟨rfl,rfl,rfl,rfl,rfl⟩:=hy;exact⟨M,by simp only[A2h],hp⟩
 |.label l,t,h,n,M,ws,e,t',h',n',a,hp,hy=>by rw[C4V]at hy;simp only[Z0a,Z0b]at hy;obtain⟨rfl,rfl,rfl,rfl,rfl⟩:=hy;exact⟨M,by simp only[A2h],hp⟩
 |.region id ops draw,t,h,n,M,ws,e,t',h',n',a,hp,hy=>by
  rw[C2D]at hy;simp only[A2h];cases draw with
  |true=>simp only at hy|-;split at hy;(case h_2=>simp at hy);rename_i t1 h1 n1 fs hd;split at hy;(case h_2=>simp at hy);rename_i hok;simp only[Z0a,Z0b]at hy;obtain⟨rfl,rfl,rfl,rfl,rfl⟩:=hy;obtain⟨M1,q1,q2⟩:=B7m hc ops.toList t _ _ _ _ _ _ _ _ (C0l (A3M ops.toList) h n M hp) hd;exact⟨M1,by rw[hp.len];simp only[q1,hok],q2⟩
  |false=>simp only at hy|-;split at hy;(case h_2=>simp at hy);rename_i s hd;simp only[Z0a,Z0b]at hy;obtain⟨rfl,rfl⟩:=hy;obtain⟨M1,q1,q2⟩:=C1S hc ops.toList t h n M ws _ _ _ _ hp hd;exact⟨M1,by simp only[q1],q2⟩
 |.seq x y,t,h,n,M,ws,e,t',h',n',a,hp,hy=>by
  rw[C0x]at hy;simp only[A2h];split at hy
  .rename_i t1 h1 n1 ws1 hr;obtain⟨M1,q1,q2⟩:=A5P hc x t h n M ws _ _ _ _ _ hp hr;obtain⟨M2,q3,q4⟩:=A5P hc y t1 h1 n1 M1 ws1 e t' h' n' a q2 hy;exact⟨M2,by simp only[q1,q3],q4⟩
  .rename_i hne;obtain⟨M1,q1,q2⟩:=A5P hc x t h n M ws _ _ _ _ _ hp hy;refine⟨M1,?_,q2⟩;rw[q1];cases e with
   |normal=>exact absurd hy (hne _ _ _ _)
   |_=>rfl
 |.cond c x y,t,h,n,M,ws,e,t',h',n',a,hp,hy=>by
  rw[C7f]at hy;simp only[A4Z]at hy;simp only[A2h];split at hy
  .rename_i hv;obtain⟨M1,q1,q2⟩:=A5P hc x t h n M ws _ _ _ _ _ hp hy;exact⟨M1,by simp only[hv,q1],q2⟩
  .rename_i hv;obtain⟨M1,q1,q2⟩:=A5P hc y t h n M ws _ _ _ _ _ hp hy;exact⟨M1,by simp only[hv,q1],q2⟩
  .simp at hy
 |.block id c,t,h,n,M,ws,e,t',h',n',a,hp,hy=>by
  rw[C4Q]at hy;simp only[A2h];split at hy
  .rename_i i s hr;obtain⟨t1,h1,n1,ws1⟩:=s;obtain⟨M1,q1,q2⟩:=A5P hc c t h n M ws _ _ _ _ _ hp hr;split at hy
   .rename_i hi;simp only[Z0a,Z0b]at hy;obtain⟨rfl,rfl,rfl,rfl,rfl⟩:=hy;exact⟨M1,by simp only[q1,hi],q2⟩
   .rename_i hi;simp only[Z0a,Z0b]at hy;obtain⟨rfl,rfl,rfl,rfl,rfl⟩:=hy;exact⟨M1,by simp only[q1,hi],q2⟩
  .rename_i hne;obtain⟨M1,q1,q2⟩:=A5P hc c t h n M ws _ _ _ _ _ hp hy;refine⟨M1,?_,q2⟩;rw[q1];cases e with
   |exit i=>exact absurd hy (hne _ _)
   |_=>rfl
 |.loop c,t,h,n,M,ws,e,t',h',n',a,hp,hy=>by rw[C6e]at hy;simp only[A2h];exact C4D (λt h n M ws e t' h' n' a hp hy=>A5P hc c t h n M ws e t' h' n' a hp hy) fuel t h n M ws e t' h' n' a hp hy
 |.exit id,t,h,n,M,ws,e,t',h',n',a,hp,hy=>by rw[C6M]at hy;simp only[Z0a,Z0b]at hy;obtain⟨rfl,rfl,rfl,rfl,rfl⟩:=hy;exact⟨M,by simp only[A2h],hp⟩
 |.ret,t,h,n,M,ws,e,t',h',n',a,hp,hy=>by rw[C8H]at hy;simp only[Z0a,Z0b]at hy;obtain⟨rfl,rfl,rfl,rfl,rfl⟩:=hy;exact⟨M,by simp only[A2h],hp⟩
 |.rangeFunc _ _ _ _,t,h,n,M,ws,e,t',h',n',a,hp,hy=>by rw[B6A]at hy;simp at hy
 |.scope _,t,h,n,M,ws,e,t',h',n',a,hp,hy=>by rw[C5v]at hy;simp at hy
 |.goto _,t,h,n,M,ws,e,t',h',n',a,hp,hy=>by rw[B7C]at hy;simp at hy
 |.refuse _,t,h,n,M,ws,e,t',h',n',a,hp,hy=>by rw[C1E]at hy;simp at hy
noncomputable def C6B(C:Ctx)(t:BT)(g:GT):ResultVar->Option AV
 |.tmp i=>some (t.get i)
 |.cell a ty=>(B7K g (t.get a)).bind (A1m C.P ty)
noncomputable def B4z(C:Ctx)(t:BT)(g:GT):List ResultVar->Option (List AV)
 |[]=>some []
 |r::rs=>match C6B C t g r,B4z C t g rs with
  |some v,some vs=>some (v::vs)
  |_,_=>none
noncomputable def C2o(C:Ctx)(rs:List ResultVar)(t:BT)(g:GT):Option AV:=match B4z C t g rs with
 |some [v]=>some v
 |some vs=>some (.tuple vs)
 |none=>none
def C1l{C}{t}{M}:∀rs:List ResultVar,A5l C t.fn M rs=B4z C t (λi=>M[i]?) rs
 |[]=>rfl
 |r::rs=>by
  simp only[A5l,B4z,C1l rs];have:B6f C t.fn M r=C6B C t (λi=>M[i]?) r:=by
   cases r with
   |tmp i=>rfl
   |cell a ty=>simp only[B6f,C6B,C7U];rfl
  rw[this];rfl
def D1w{C}{t}{M}(rs:List ResultVar):A3x C rs t.fn M=C2o C rs t (λi=>M[i]?):=by unfold A3x C2o;rw[C1l];rfl
abbrev C5a:=FuncId->Option (List AV->(Nat->Option A0p)->Option AV)
def B2Z(yi:C5a):D6I:=λf=>match yi f with
 |some g=>some (λargs M=>match g args (λi=>M[i]?)with|some v=>some (v,M,[])|none=>none)
 |none=>none
noncomputable def D1l(C:Ctx)(fn:Func)(t:BT)(h0:HT)(n0:Nat)(h:HT)(n:Nat)(ws:List Nat):Option YR:=match C2o C fn.results.toList t h.get with
 |some v=>match ws,flat v with
  |[],true=>some (v,h0,n0,[])
  |_,_=>some (v,h,n,ws)
 |none=>none
noncomputable def B2V(C:Ctx)(yi:C5a)(fuel:Nat):Nat->A9i
 |0,_,_,_,_=>none
 |k+1,f,args,h,n=>match yi f with
  |some g=>match g args h.get with
   |some v=>some (v,h,n,[])
   |none=>none
  |none=>match C.P.funcs[f]? with
   |some fn=>match fn.body with
    |some c=>match Nat.ble args.length fn.ntmps,BT.args args 0 (BT.mk (Nat.log2 fn.ntmps+1))with
     |true,some t=>match A4j (B2V C yi fuel k) C fuel n c t h n []with
      |some (.normal,t,h',n',ws)=>D1l C fn t h n h' n' ws
      |some (.ret,t,h',n',ws)=>D1l C fn t h n h' n' ws
      |_=>none
     |_,_=>none
    |none=>none
   |none=>none
def C8j{C}{fn}{t}{h0 h h'}{n0 n n'}{M0 M}{ws ws'}{v}(a:Hp h0 n0 M0)(hp:Hp h n M)(hy:D1l C fn t h0 n0 h n ws=some (v,h',n',ws')):∃M',B9Y C fn t M0 M ws=some (v,M',ws')/\Hp h' n' M':=by
 unfold D1l at hy;unfold B9Y;rw[D1w,<-hp.fn];split at hy;case h_2=>simp at hy
 rename_i v0 hv;rw[hv];simp only;split at hy
 .rename_i hfl;simp only[Z0a,Z0b]at hy;obtain⟨rfl,rfl,rfl,rfl⟩:=hy;exact⟨M0,by simp only[hfl],a⟩
 .rename_i hne;simp only[Z0a,Z0b]at hy;obtain⟨rfl,rfl,rfl,rfl⟩:=hy;refine⟨M,?_,hp⟩;split
  .rename_i hfl;exact(hne rfl hfl).elim
  .rfl
def B8F{C}{yi}{fuel}:∀k,YOK (B2Y C (B2Z yi) fuel k) (B2V C yi fuel k)
 |0=>by intro g args h n M v h' n' ws hp hy;simp[B2V]at hy
 |k+1=>by
  intro g args h n M v h' n' ws hp hy;simp only[B2V]at hy;simp only[B2Y];split at hy
  .rename_i gi hg;split at hy;(case h_2=>simp at hy);rename_i u hu;rw[hp.fn]at hu;simp only[Z0a,Z0b]at hy;obtain⟨rfl,rfl,rfl,rfl⟩:=hy;exact⟨M,by simp only[B2Z,hg,hu],hp⟩
  rename_i hg;have hi:B2Z yi g=none:=by simp only[B2Z,hg]
  rw[hi];simp only;split at hy;case h_2=>simp at hy
  rename_i fn hf;rw[hf];simp only;split at hy;case h_2=>simp at hy
  rename_i c hb;rw[hb];simp only;split at hy;case h_2=>simp at hy
  rename_i t hlen ht;rw[hlen,ht];simp only;split at hy
  .rename_i t1 h1 n1 ws1 hc;obtain⟨M1,q1,q2⟩:=A5P (B8F k) c t h n M [] _ _ _ _ _ hp hc;obtain⟨M2,q3,q4⟩:=C8j hp q2 hy;exact⟨M2,by rw[hp.len,q1];exact q3,q4⟩
  .rename_i t1 h1 n1 ws1 hc;obtain⟨M1,q1,q2⟩:=A5P (B8F k) c t h n M [] _ _ _ _ _ hp hc;obtain⟨M2,q3,q4⟩:=C8j hp q2 hy;exact⟨M2,by rw[hp.len,q1];exact q3,q4⟩
  .simp at hy
noncomputable def C7T(C:Ctx)(yi:C5a)(fuel k:Nat)(f:FuncId):Bool:=match B2V C yi fuel k f [] .nil 0 with
 |some (.val (.bool true),_,0,_)=>true
 |_=>false
def C3E{C}(b:C.P.follows .mixedOrders=true){yi}(a:C6u C (B2Z yi))(c:∀(f:Nat) (fn:Func),C.P.funcs[f]?=some fn->B8Y fn=true){fuel k}{f}(h:C7T C yi fuel k f=true):A5q C f [] [] (λr m=>r=.val (.bool true)/\m=[]):=by
 unfold C7T at h
 split at h
 case h_2=>simp at h
 rename_i h' ws hr
 obtain⟨M',q1,q2⟩:=B8F k f [] .nil 0 [] _ _ _ _ ⟨rfl,λi=>by simp[HT.get]⟩ hr
 have:M'=[]:=Z0w q2.len
 subst this
 exact(C4X b a c fuel k _ _ _ _ _ _ q1).1
def C6z:Nat->Code->Code
 |0,_=>.skip
 |k+1,.seq x y=>.seq x (C6z k y)
 |_+1,_=>.goto 0
def C1a:Nat->Code->Code
 |0,c=>c
 |k+1,.seq _ y=>C1a k y
 |_+1,c=>c
def C0W{yc}{C}{fuel base}{r}:∀(k:Nat) (c:Code) (t:BT) (h:HT) (n:Nat) (ws:List Nat) (t1:BT) (h1:HT) (n1:Nat) (ws1:List Nat),
 A4j yc C fuel base (C6z k c) t h n ws=some (.normal,t1,h1,n1,ws1)->A4j yc C fuel base (C1a k c) t1 h1 n1 ws1=some r->A4j yc C fuel base c t h n ws=some r
 |0,c,t,h,n,ws,t1,h1,n1,ws1,e1,e2=>by simp only[C6z]at e1;rw[B8I]at e1;simp only[Z0a,Z0b]at e1;obtain⟨_,rfl,rfl,rfl,rfl⟩:=e1;exact e2
 |k+1,c,t,h,n,ws,t1,h1,n1,ws1,e1,e2=>by
  cases c with
  |seq x y=>
   simp only[C6z]at e1;simp only[C1a]at e2;rw[C0x]at e1|-;split at e1
   .rename_i t2 h2 n2 ws2 hx;exact C0W k y t2 h2 n2 ws2 t1 h1 n1 ws1 e1 e2
   .rename_i hne;exact absurd e1 (hne _ _ _ _)
  |_=>simp only[C6z]at e1;rw[B7C]at e1;simp at e1
noncomputable def mkT(k:Nat)(l:List (Nat×AV)):BT:=List.rec (motive:=λ_=>BT) (BT.mk k) (λp _ t=>match t.putR p.1 p.2 with|some t=>t|none=>t) l
noncomputable def E1T(l:List A0p):Nat->HT->HT:=List.rec (motive:=λ_=>Nat->HT->HT) (λ_ h=>h) (λo _ ih n h=>ih (n+1) (h.put n o)) l
noncomputable def mkH(l:List A0p):HT:=E1T l 0 .nil
noncomputable def B1M(C:Ctx)(fn:Func):Option YC->Bool
 |some (.ret,t,h,n,ws)=>match D1l C fn t .nil 0 h n ws with
  |some (.val (.bool true),_,0,_)=>true
  |_=>false
 |_=>false
def C9L{C:Ctx}{yi:C5a}{fuel k f:Nat}{fn:Func}{c:Code}{t0 t1:BT}{h1:HT}{n1:Nat}{ws1:List Nat}(j:Nat)(hi:yi f=none)(hf:C.P.funcs[f]?=some fn)(hb:fn.body=some c)
 (ht:BT.args [] 0 (BT.mk (Nat.log2 fn.ntmps+1))=some t0)(e1:A4j (B2V C yi fuel k) C fuel 0 (C6z j c) t0 .nil 0 []=some (.normal,t1,h1,n1,ws1))
 (e2:B1M C fn (A4j (B2V C yi fuel k) C fuel 0 (C1a j c) t1 h1 n1 ws1)=true):C7T C yi fuel (k+1) f=true:=by
 cases hr:A4j (B2V C yi fuel k) C fuel 0 (C1a j c) t1 h1 n1 ws1 with
 |none=>rw[hr]at e2;simp[B1M]at e2
 |some r=>
  have hc:=C0W j c t0 .nil 0 [] t1 h1 n1 ws1 e1 hr
  rw[hr]at e2
  obtain⟨e,t,h,n,ws⟩:=r
  cases e<;>first|(simp[B1M]at e2;done)|skip
  simp only[B1M]at e2
  have hl:Nat.ble (List.length ([]:List AV)) fn.ntmps=true:=Z4q (Z3N _)
  unfold C7T B2V
  simp only[hi,hf,hb,hl,ht,hc]
  exact e2
end Go.Abs
