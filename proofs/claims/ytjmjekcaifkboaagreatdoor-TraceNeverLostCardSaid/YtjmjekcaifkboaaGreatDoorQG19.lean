/- A part of the proof. -/
import Derived.Test.YtjmjekcaifkboaaGreatDoorQG14
import Derived.Test.YtjmjekcaifkboaaGreatDoorProg
set_option linter.all false
set_option maxRecDepth 100000
namespace Go.Abs
open Go.Proofs Tryz
namespace TryTypes
@[simp] def sz2:A1n prog 2=some 1:=Q2
@[simp] def E7V:A2z prog 3=some false:=Q2
@[simp] def sz3:A1n prog 3=some 1:=Q2
@[simp] def E2S:A0G prog 3=some [.int .i64 0]:=Q2
def D0y:A4g prog 3 1 8:=⟨_,_,type3,rfl,rfl,rfl,rfl,by decide⟩
@[simp] def E7S:A2z prog 4=some false:=Q2
@[simp] def sz4:A1n prog 4=some 1:=Q2
@[simp] def E7E:A0G prog 4=some [.bool false]:=Q2
@[simp] def E7P:A2z prog 5=some false:=Q2
@[simp] def sz5:A1n prog 5=some 1:=Q2
@[simp] def E7W:A2z prog 9=some false:=Q2
@[simp] def sz9:A1n prog 9=some 1:=Q2
@[simp] def E7c:A0G prog 9=some [.string ⟨#[]⟩]:=Q2
def D3I:A4g prog 9 1 16:=⟨_,_,type9,rfl,rfl,rfl,rfl,by decide⟩
@[simp] def E5A:A1b prog 22=some 61:=Q2
@[simp] def E6O:A2z prog 25=some false:=Q2
@[simp] def E7T:A1n prog 25=some 1:=Q2
@[simp] def A8p:A1b prog 25=some 31:=Q2
def B2D:A4j prog 25:=.inl ⟨31,Q2⟩
@[simp] def E6h:A0G prog 25=some [.slice none 0 0]:=Q2
@[simp] def E7m:A2z prog 28=some true:=Q2
@[simp] def E7Y:A1n prog 28=some 3:=Q2
@[simp] def E4U:A0U prog 28 0=some (0,3):=Q2
@[simp] def E4v:A0U prog 28 1=some (1,3):=Q2
@[simp] def E3P:A0U prog 28 2=some (2,3):=Q2
@[simp] def E7z:A3c prog 28=true:=Q2
@[simp] def E6L:A0G prog 28=some [.int .i64 0,.int .i64 0,.int .i64 0]:=Q2
def D3w:A4g prog 28 3 24:=⟨_,_,type28,rfl,rfl,rfl,rfl,by decide⟩
@[simp] def E7h:A2z prog 29=some false:=Q2
@[simp] def E7O:A1n prog 29=some 1:=Q2
@[simp] def B9K:A1b prog 29=some 259:=Q2
def C8M:A4j prog 29:=.inl ⟨259,Q2⟩
@[simp] def E5l:A0G prog 29=some [.slice none 0 0]:=Q2
@[simp] def D2q:A2z prog 31=some true:=Q2
@[simp] def D0r:A1n prog 31=some 8:=Q2
@[simp] def E4k:A1H prog 31 0=some 0:=Q2
@[simp] def E3v:A1H prog 31 1=some 3:=Q2
@[simp] def E3Z:A0U prog 31 1=some (3,3):=Q2
@[simp] def E3G:A1H prog 31 2=some 4:=Q2
@[simp] def E4e:A0U prog 31 2=some (4,9):=Q2
@[simp] def E3X:A1H prog 31 3=some 5:=Q2
@[simp] def E4C:A1H prog 31 4=some 6:=Q2
@[simp] def E3O:A1H prog 31 5=some 7:=Q2
@[simp] def E7t:A3c prog 31=true:=Q2
@[simp] def D9d:A0G prog 31=some [.int .i64 0,.int .i64 0,.int .i64 0,.int .i64 0,.string ⟨#[]⟩,.slice none 0 0,.slice none 0 0,.slice none 0 0]:=Q2
def B1H:A4g prog 31 8 120:=⟨_,_,type31,rfl,rfl,rfl,rfl,by decide⟩
@[simp] def E7r:A2z prog 33=some false:=Q2
@[simp] def E7Z:A1n prog 33=some 1:=Q2
@[simp] def D2P:A1b prog 33=some 78:=Q2
def D7S:A4j prog 33:=.inl ⟨78,Q2⟩
@[simp] def E5C:A0G prog 33=some [.slice none 0 0]:=Q2
@[simp] def E7f:A2z prog 35=some true:=Q2
@[simp] def E7L:A1n prog 35=some 2:=Q2
@[simp] def E3x:A1H prog 35 0=some 0:=Q2
@[simp] def E4Z:A0U prog 35 0=some (0,3):=Q2
@[simp] def E3Q:A1H prog 35 1=some 1:=Q2
@[simp] def E4B:A0U prog 35 1=some (1,3):=Q2
@[simp] def E7d:A3c prog 35=true:=Q2
@[simp] def E6J:A0G prog 35=some [.int .i64 0,.int .i64 0]:=Q2
@[simp] def E7B:A2z prog 37=some true:=Q2
@[simp] def E7Q:A1n prog 37=some 7:=Q2
@[simp] def E5c:A1H prog 37 0=some 0:=Q2
@[simp] def E3H:A0U prog 37 0=some (0,3):=Q2
@[simp] def E4c:A1H prog 37 1=some 1:=Q2
@[simp] def E3d:A0U prog 37 1=some (1,28):=Q2
@[simp] def E3a:A1H prog 37 2=some 4:=Q2
@[simp] def E3l:A0U prog 37 2=some (4,33):=Q2
@[simp] def E4f:A1H prog 37 3=some 5:=Q2
@[simp] def E3t:A0U prog 37 3=some (5,35):=Q2
@[simp] def E7k:A3c prog 37=true:=Q2
@[simp] def E6u:A0G prog 37=some [.int .i64 0,.int .i64 0,.int .i64 0,.int .i64 0,.slice none 0 0,.int .i64 0,.int .i64 0]:=Q2
@[simp] def E7u:A2z prog 46=some false:=Q2
@[simp] def E7X:A1n prog 46=some 1:=Q2
@[simp] def C7M:A1b prog 46=some 55:=Q2
def D2r:A4j prog 46:=.inl ⟨55,Q2⟩
@[simp] def E6d:A0G prog 46=some [.slice none 0 0]:=Q2
@[simp] def E7D:A2z prog 48=some false:=Q2
@[simp] def E8a:A1n prog 48=some 1:=Q2
@[simp] def B7u:A1b prog 48=some 9:=Q2
def C3S:A4j prog 48:=.inl ⟨9,Q2⟩
@[simp] def E5N:A0G prog 48=some [.slice none 0 0]:=Q2
@[simp] def E6P:A2z prog 50=some true:=Q2
@[simp] def E7G:A1n prog 50=some 3:=Q2
@[simp] def E3F:A1H prog 50 0=some 0:=Q2
@[simp] def E3p:A0U prog 50 0=some (0,3):=Q2
@[simp] def E4R:A1H prog 50 1=some 1:=Q2
@[simp] def E4X:A0U prog 50 1=some (1,3):=Q2
@[simp] def E5e:A1H prog 50 2=some 2:=Q2
@[simp] def E6S:A3c prog 50=true:=Q2
@[simp] def D4q:A0G prog 50=some [.int .i64 0,.int .i64 0,.string ⟨#[]⟩]:=Q2
@[simp] def E7n:A2z prog 51=some false:=Q2
@[simp] def E7I:A1n prog 51=some 1:=Q2
@[simp] def E6n:A1b prog 51=some 53:=Q2
@[simp] def E7g:A2z prog 53=some true:=Q2
@[simp] def E7N:A1n prog 53=some 25:=Q2
@[simp] def E5b:A1H prog 53 0=some 0:=Q2
@[simp] def E3U:A0U prog 53 0=some (0,3):=Q2
@[simp] def E4O:A1H prog 53 1=some 1:=Q2
@[simp] def E3K:A0U prog 53 1=some (1,33):=Q2
@[simp] def E3E:A1H prog 53 2=some 2:=Q2
@[simp] def E4a:A0U prog 53 2=some (2,33):=Q2
@[simp] def E4u:A1H prog 53 3=some 3:=Q2
@[simp] def E4j:A0U prog 53 3=some (3,3):=Q2
@[simp] def E5a:A1H prog 53 4=some 4:=Q2
@[simp] def E3w:A0U prog 53 4=some (4,3):=Q2
@[simp] def E4L:A1H prog 53 5=some 5:=Q2
@[simp] def E3u:A0U prog 53 5=some (5,31):=Q2
@[simp] def E4b:A1H prog 53 6=some 13:=Q2
@[simp] def E5g:A0U prog 53 6=some (13,48):=Q2
@[simp] def E3A:A1H prog 53 7=some 14:=Q2
@[simp] def E3h:A0U prog 53 7=some (14,48):=Q2
@[simp] def E4W:A1H prog 53 8=some 15:=Q2
@[simp] def E3R:A0U prog 53 8=some (15,9):=Q2
@[simp] def E3k:A1H prog 53 9=some 16:=Q2
@[simp] def E2f:A1H prog 53 10=some 17:=Q2
@[simp] def E2R:A1H prog 53 11=some 20:=Q2
@[simp] def E2y:A1H prog 53 12=some 21:=Q2
@[simp] def E1u:A1H prog 53 13=some 22:=Q2
@[simp] def E2s:A1H prog 53 14=some 23:=Q2
@[simp] def E2o:A1H prog 53 15=some 24:=Q2
@[simp] def E6W:A3c prog 53=true:=Q2
@[simp] def C6p:A0G prog 53=some [.int .i64 0,.slice none 0 0,.slice none 0 0,.int .i64 0,.int .i64 0,.int .i64 0,.int .i64 0,.int .i64 0,.int .i64 0,.string ⟨#[]⟩,.slice none 0 0,.slice none 0 0,.slice none 0 0,.slice none 0 0,.slice none 0 0,.string ⟨#[]⟩,.string ⟨#[]⟩,.int .i64 0,.int .i64 0,.string ⟨#[]⟩,.int .i64 0,.int .i64 0,.int .i64 0,.string ⟨#[]⟩,.slice none 0 0]:=Q2
@[simp] def E1v:A2z prog 55=some true:=Q2
@[simp] def E5O:A1n prog 55=some 28:=Q2
@[simp] def E4H:A1H prog 55 0=some 0:=Q2
@[simp] def E4Y:A0U prog 55 0=some (0,3):=Q2
@[simp] def E3M:A1H prog 55 1=some 1:=Q2
@[simp] def E4g:A0U prog 55 1=some (1,3):=Q2
@[simp] def E4E:A1H prog 55 2=some 2:=Q2
@[simp] def E4M:A0U prog 55 2=some (2,3):=Q2
@[simp] def E3o:A1H prog 55 3=some 3:=Q2
@[simp] def E6X:A3c prog 55=true:=Q2
@[simp] def E5Y:A0G prog 55=some [.int .i64 0,.int .i64 0,.int .i64 0,.int .i64 0,.slice none 0 0,.slice none 0 0,.int .i64 0,.int .i64 0,.int .i64 0,.int .i64 0,.int .i64 0,.int .i64 0,.string ⟨#[]⟩,.slice none 0 0,.slice none 0 0,.slice none 0 0,.slice none 0 0,.slice none 0 0,.string ⟨#[]⟩,.string ⟨#[]⟩,.int .i64 0,.int .i64 0,.string ⟨#[]⟩,.int .i64 0,.int .i64 0,.int .i64 0,.string ⟨#[]⟩,.slice none 0 0]:=Q2
def C8O:A4g prog 55 28 392:=⟨_,_,type55,rfl,rfl,rfl,rfl,by decide⟩
@[simp] def E7v:A2z prog 59=some false:=Q2
@[simp] def E7H:A1n prog 59=some 1:=Q2
@[simp] def D8P:A1b prog 59=some 93:=Q2
def E1f:A4j prog 59:=.inl ⟨93,Q2⟩
@[simp] def E5F:A0G prog 59=some [.slice none 0 0]:=Q2
@[simp] def E7F:A2z prog 61=some true:=Q2
@[simp] def E7M:A1n prog 61=some 4:=Q2
@[simp] def E3J:A0U prog 61 0=some (0,3):=Q2
@[simp] def E3r:A1H prog 61 2=some 2:=Q2
@[simp] def E3N:A1H prog 61 3=some 3:=Q2
@[simp] def E3C:A0U prog 61 3=some (3,59):=Q2
@[simp] def E7j:A3c prog 61=true:=Q2
@[simp] def E6v:A0G prog 61=some [.int .i64 0,.int .i64 0,.string ⟨#[]⟩,.slice none 0 0]:=Q2
@[simp] def D9K:A1b prog 64=some 85:=Q2
def E1Y:A4j prog 64:=.inl ⟨85,Q2⟩
@[simp] def D9v:A1b prog 66=some 55:=Q2
def E1Q:A4j prog 66:=.inl ⟨55,Q2⟩
@[simp] def E7i:A2z prog 73=some false:=Q2
@[simp] def E8c:A1n prog 73=some 1:=Q2
@[simp] def C8x:A1b prog 73=some 28:=Q2
def D3R:A4j prog 73:=.inl ⟨28,Q2⟩
@[simp] def E5Q:A0G prog 73=some [.slice none 0 0]:=Q2
@[simp] def E6V:A2z prog 76=some false:=Q2
@[simp] def E7U:A1n prog 76=some 1:=Q2
@[simp] def E7C:A2z prog 78=some true:=Q2
@[simp] def E7K:A1n prog 78=some 2:=Q2
@[simp] def E3V:A1H prog 78 0=some 0:=Q2
@[simp] def E3T:A0U prog 78 0=some (0,3):=Q2
@[simp] def E4h:A1H prog 78 1=some 1:=Q2
@[simp] def E3c:A0U prog 78 1=some (1,9):=Q2
@[simp] def E7x:A3c prog 78=true:=Q2
@[simp] def E5w:A0G prog 78=some [.int .i64 0,.string ⟨#[]⟩]:=Q2
def D8k:A4g prog 78 2 24:=⟨_,_,type78,rfl,rfl,rfl,rfl,by decide⟩
@[simp] def C2G:A1b prog 80=some 152:=Q2
def C9k:A4j prog 80:=.inl ⟨152,Q2⟩
@[simp] def E7y:A2z prog 85=some true:=Q2
@[simp] def E7J:A1n prog 85=some 3:=Q2
@[simp] def E3s:A1H prog 85 0=some 0:=Q2
@[simp] def E4n:A1H prog 85 1=some 1:=Q2
@[simp] def E5o:A0G prog 85=some [.int .i64 0,.int .i64 0,.int .i64 0]:=Q2
def E2a:A4g prog 85 3 24:=⟨_,_,type85,rfl,rfl,rfl,rfl,by decide⟩
@[simp] def E6Z:A2z prog 90=some false:=Q2
@[simp] def E8b:A1n prog 90=some 1:=Q2
@[simp] def E6B:A0G prog 90=some [.nilFunc]:=Q2
@[simp] def E6N:A2z prog 93=some true:=Q2
@[simp] def E7R:A1n prog 93=some 7:=Q2
@[simp] def E5i:A1H prog 93 0=some 0:=Q2
@[simp] def E4s:A0U prog 93 0=some (0,3):=Q2
@[simp] def E4m:A1H prog 93 1=some 1:=Q2
@[simp] def E3Y:A0U prog 93 1=some (1,9):=Q2
@[simp] def E3y:A1H prog 93 2=some 2:=Q2
@[simp] def E3L:A1H prog 93 3=some 3:=Q2
@[simp] def E3n:A0U prog 93 3=some (3,50):=Q2
@[simp] def E3W:A1H prog 93 4=some 6:=Q2
@[simp] def E4A:A0U prog 93 4=some (6,51):=Q2
@[simp] def E6Q:A3c prog 93=true:=Q2
@[simp] def E6m:A0G prog 93=some [.int .i64 0,.string ⟨#[]⟩,.int .i64 0,.int .i64 0,.int .i64 0,.string ⟨#[]⟩,.slice none 0 0]:=Q2
def E1k:A4g prog 93 7 88:=⟨_,_,type93,rfl,rfl,rfl,rfl,by decide⟩
@[simp] def E5D:A2z prog 100=some false:=Q2
@[simp] def E7l:A1n prog 100=some 1:=Q2
@[simp] def B0M:A1b prog 100=some 3:=Q2
def B4F:A4j prog 100:=.inl ⟨3,Q2⟩
@[simp] def E5j:A0G prog 100=some [.slice none 0 0]:=Q2
@[simp] def E5H:A2z prog 116=some false:=Q2
@[simp] def E6R:A1n prog 116=some 1:=Q2
@[simp] def E5S:A2z prog 152=some true:=Q2
@[simp] def E7s:A1n prog 152=some 2:=Q2
@[simp] def E2M:A1H prog 152 0=some 0:=Q2
@[simp] def E1a:A1H prog 152 1=some 1:=Q2
@[simp] def E4D:A0G prog 152=some [.int .i64 0,.int .i64 0]:=Q2
def C3l:A4g prog 152 2 16:=⟨_,_,type152,rfl,rfl,rfl,rfl,by decide⟩
@[simp] def E5m:A2z prog 179=some false:=Q2
@[simp] def E7b:A1n prog 179=some 1:=Q2
@[simp] def E5p:A2z prog 181=some true:=Q2
@[simp] def E7a:A1n prog 181=some 2:=Q2
@[simp] def E1P:A1H prog 181 0=some 0:=Q2
@[simp] def E1y:A0U prog 181 0=some (0,179):=Q2
@[simp] def E1e:A1H prog 181 1=some 1:=Q2
@[simp] def E2L:A0U prog 181 1=some (1,116):=Q2
@[simp] def E5s:A3c prog 181=true:=Q2
@[simp] def E3q:A0G prog 181=some [.nilFunc,.nilFunc]:=Q2
@[simp] def E7e:A1n prog 214=some 8:=Q2
@[simp] def E4q:A0G prog 214=some [.string ⟨#[]⟩,.string ⟨#[]⟩,.string ⟨#[]⟩,.string ⟨#[]⟩,.string ⟨#[]⟩,.string ⟨#[]⟩,.string ⟨#[]⟩,.string ⟨#[]⟩]:=Q2
@[simp] def E5h:A1b prog 216=some 5:=Q2
@[simp] def E6F:A2z prog 257=some true:=Q2
@[simp] def E7o:A1n prog 257=some 3:=Q2
@[simp] def E1O:A0U prog 257 0=some (0,3):=Q2
@[simp] def E2K:A0U prog 257 1=some (1,3):=Q2
@[simp] def E2A:A0U prog 257 2=some (2,3):=Q2
@[simp] def E6b:A3c prog 257=true:=Q2
@[simp] def E2X:A0G prog 257=some [.int .i64 0,.int .i64 0,.int .i64 0]:=Q2
@[simp] def E5u:A2z prog 259=some true:=Q2
@[simp] def E1N:A1n prog 259=some 4:=Q2
@[simp] def E1t:A1H prog 259 0=some 0:=Q2
@[simp] def E2F:A0U prog 259 0=some (0,9):=Q2
@[simp] def E2r:A1H prog 259 1=some 1:=Q2
@[simp] def E1s:A0U prog 259 1=some (1,257):=Q2
@[simp] def E6q:A3c prog 259=true:=Q2
@[simp] def E4P:A0G prog 259=some [.string ⟨#[]⟩,.int .i64 0,.int .i64 0,.int .i64 0]:=Q2
def C2M:A4g prog 259 4 40:=⟨_,_,type259,rfl,rfl,rfl,rfl,by decide⟩
@[simp] def E6k:A2z prog 278=some true:=Q2
@[simp] def E6U:A1n prog 278=some 4:=Q2
@[simp] def E0Z:A1H prog 278 0=some 0:=Q2
@[simp] def E1B:A0U prog 278 0=some (0,28):=Q2
@[simp] def E1V:A1H prog 278 1=some 3:=Q2
@[simp] def E2u:A0U prog 278 1=some (3,3):=Q2
@[simp] def E5z:A3c prog 278=true:=Q2
@[simp] def E4I:A0G prog 278=some [.int .i64 0,.int .i64 0,.int .i64 0,.int .i64 0]:=Q2
@[simp] def E6T:A1n prog 282=some 4:=Q2
@[simp] def E2g:A1H prog 282 0=some 0:=Q2
@[simp] def E2n:A0U prog 282 0=some (0,3):=Q2
@[simp] def E2t:A1H prog 282 1=some 1:=Q2
@[simp] def E0V:A0U prog 282 1=some (1,3):=Q2
@[simp] def E1L:A1H prog 282 2=some 2:=Q2
@[simp] def E1n:A1H prog 282 3=some 3:=Q2
@[simp] def E6l:A3c prog 282=true:=Q2
@[simp] def E4d:A0G prog 282=some [.int .i64 0,.int .i64 0,.int .i64 0,.int .i64 0]:=Q2
@[simp] def E6c:A2z prog 321=some true:=Q2
@[simp] def E7w:A1n prog 321=some 4:=Q2
@[simp] def E3m:A0G prog 321=some [.nilFunc,.nilFunc,.nilFunc,.nilFunc]:=Q2
@[simp] def E6K:A2z prog 340=some false:=Q2
@[simp] def E6Y:A1n prog 340=some 1:=Q2
@[simp] def E2Y:A0G prog 340=some [.nilFunc]:=Q2
@[simp] def C2l:A1b prog 348=some 29:=Q2
@[simp] def E6y:A2z prog 353=some true:=Q2
@[simp] def E7p:A1n prog 353=some 2:=Q2
@[simp] def E2c:A0U prog 353 0=some (0,3):=Q2
@[simp] def E1l:A0U prog 353 1=some (1,9):=Q2
@[simp] def E5y:A3c prog 353=true:=Q2
@[simp] def E4V:A0G prog 353=some [.int .i64 0,.string ⟨#[]⟩]:=Q2
end TryTypes
end Go.Abs
