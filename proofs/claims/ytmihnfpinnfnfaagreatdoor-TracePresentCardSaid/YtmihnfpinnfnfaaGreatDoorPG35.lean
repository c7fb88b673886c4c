/- A part of the proof. -/
import Derived.Test.YtmihnfpinnfnfaaGreatDoorPG27
import Derived.Lib.SlTrimSet
import Derived.Test.YtmihnfpinnfnfaaGreatDoorPG33
import Derived.Test.YtmihnfpinnfnfaaGreatDoorPG29
set_option linter.all false
namespace Go.Abs
open Go
def B0P(i:Nat)(s:A1n):Bool:=(decide (i=0)&&B0j s)||(decide (0<s.k)&&decide (s.k<=7)&&A1u s.lab)
def A1O(p:List A1n):Bool:=decide (p.length<=9)&&(List.range p.length).all λi=>B0P i (p.getD i A3Z)
def B2p(u:A0a)(p:List A1n):List A0a:=if A1O p=true then A6A u p else[]
def A2c(u:A0a)(p:List A1n):IdD×Int:=match B2p u p with
 |[]=>(idZ,7)
 |[x]=>(x.id,0)
 |_=>(idZ,8)
def C2e:ByteArray:=⟨#[97,98,99,100,101,102,103,104,105,106,107,108,109,110,111,112,113,114,115,116,117,118,119,120,121,122,48,49,50,51,52,53,54,55,56,57,45]⟩
def A6e(s:ByteArray):Bool:=decide (1<=s.size)&&decide (s.size<=16)&&(decide (97<=A2l s 0)&&decide (A2l s 0<=122))&&decide ((⟨(Lib.trimS s.data.toList C2e.data.toList).toArray⟩:ByteArray)=⟨#[]⟩)
def inB(n lo hi:Int):Bool:=decide (lo<=n)&&decide (n<=hi)
def A4X(s:A1z):Bool:=
 if s.k=0\/s.k=2 then decide (s.day=0)&&decide (s.ev=⟨#[]⟩)
 else if s.k=1 then inB s.day 0 1048576&&decide (s.ev=⟨#[]⟩)
 else if s.k=3 then decide (s.day=0)&&A6e s.ev
 else false
def A3S(l:List ByteArray)(least:Int):Bool:=decide (l.length<=256)&&l.all A2B&&decide (least<=l.length)
def mk0(w:A0z):Bool:=decide (w.act=0)&&decide (w.item=0)&&decide (w.at_=0)
def B7U(x:A0a):Bool:=decide (x.id=idZ)&&x.head.all mk0&&x.words.all mk0
def C0m(u:A0a):Bool:=A9Z u&&(A3H B7U (λ(_:Unit) _=>()) u ()).1
def B1V(u:A0a):Bool:=C0m u&&decide (u.kind≠0)&&decide (C3F u=0)
end Go.Abs
