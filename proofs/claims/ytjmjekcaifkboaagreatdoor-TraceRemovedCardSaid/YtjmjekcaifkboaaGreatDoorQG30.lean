/- A part of the proof. -/
import Derived.Test.YtjmjekcaifkboaaGreatDoorQG25
import Derived.Lib.SlTrimSet
import Derived.Test.YtjmjekcaifkboaaGreatDoorQG29
import Derived.Test.YtjmjekcaifkboaaGreatDoorQG26
set_option linter.all false
namespace Go.Abs
open Go
def B1s(i:Nat)(s:A1o):Bool:=(decide (i=0)&&B0L s)||(decide (0<s.k)&&decide (s.k<=7)&&A1z s.lab)
def A1T(p:List A1o):Bool:=decide (p.length<=9)&&(List.range p.length).all λi=>B1s i (p.getD i A4i)
def B2N(u:A0a)(p:List A1o):List A0a:=if A1T p=true then A7a u p else[]
def A2c(u:A0a)(p:List A1o):IdD×Int:=match B2N u p with
 |[]=>(idZ,7)
 |[x]=>(x.id,0)
 |_=>(idZ,8)
def C3o:ByteArray:=⟨#[97,98,99,100,101,102,103,104,105,106,107,108,109,110,111,112,113,114,115,116,117,118,119,120,121,122,48,49,50,51,52,53,54,55,56,57,45]⟩
def A6C(s:ByteArray):Bool:=decide (1<=s.size)&&decide (s.size<=16)&&(decide (97<=A2t s 0)&&decide (A2t s 0<=122))&&decide ((⟨(Lib.trimS s.data.toList C3o.data.toList).toArray⟩:ByteArray)=⟨#[]⟩)
def inB(n lo hi:Int):Bool:=decide (lo<=n)&&decide (n<=hi)
def A5h(s:A1J):Bool:=
 if s.k=0\/s.k=2 then decide (s.day=0)&&decide (s.ev=⟨#[]⟩)
 else if s.k=1 then inB s.day 0 1048576&&decide (s.ev=⟨#[]⟩)
 else if s.k=3 then decide (s.day=0)&&A6C s.ev
 else false
def A4b(l:List ByteArray)(least:Int):Bool:=decide (l.length<=256)&&l.all A2J&&decide (least<=l.length)
def mk0(w:A0z):Bool:=decide (w.act=0)&&decide (w.item=0)&&decide (w.at_=0)
def B8E(x:A0a):Bool:=decide (x.id=idZ)&&x.head.all mk0&&x.words.all mk0
def C1e(u:A0a):Bool:=B0z u&&(A3T B8E (λ(_:Unit) _=>()) u ()).1
def B2w(u:A0a):Bool:=C1e u&&decide (u.kind≠0)&&decide (C4V u=0)
end Go.Abs
