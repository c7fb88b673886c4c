/- A part of the proof. -/
import Derived.Test.YtmihnfpinnfnfaaGreatDoorPG16
import Derived.Test.YtmihnfpinnfnfaaGreatDoorProg
set_option linter.all false
set_option maxRecDepth 100000
namespace Go.Abs
open Go.Proofs Tryz
namespace TryTypes
@[simp] def sz2:A1j prog 2=some 1:=Q2
@[simp] def E6r:A2s prog 3=some false:=Q2
@[simp] def sz3:A1j prog 3=some 1:=Q2
@[simp] def E1u:A0F prog 3=some [.int .i64 0]:=Q2
def C8K:A3X prog 3 1 8:=⟨_,_,type3,rfl,rfl,rfl,rfl,by decide⟩
@[simp] def E6o:A2s prog 4=some false:=Q2
@[simp] def sz4:A1j prog 4=some 1:=Q2
@[simp] def E5U:A0F prog 4=some [.bool false]:=Q2
@[simp] def E6i:A2s prog 5=some false:=Q2
@[simp] def sz5:A1j prog 5=some 1:=Q2
@[simp] def E6s:A2s prog 9=some false:=Q2
@[simp] def sz9:A1j prog 9=some 1:=Q2
@[simp] def E5B:A0F prog 9=some [.string ⟨#[]⟩]:=Q2
def D1O:A3X prog 9 1 16:=⟨_,_,type9,rfl,rfl,rfl,rfl,by decide⟩
@[simp] def E5i:A2s prog 23=some true:=Q2
@[simp] def E6n:A1j prog 23=some 3:=Q2
@[simp] def E2Z:A0U prog 23 0=some (0,3):=Q2
@[simp] def E2V:A0U prog 23 1=some (1,3):=Q2
@[simp] def E2B:A0U prog 23 2=some (2,3):=Q2
@[simp] def E5o:A2Z prog 23=true:=Q2
@[simp] def E4W:A0F prog 23=some [.int .i64 0,.int .i64 0,.int .i64 0]:=Q2
def D3k:A3X prog 23 3 24:=⟨_,_,type23,rfl,rfl,rfl,rfl,by decide⟩
@[simp] def E3K:A1b prog 24=some 46:=Q2
@[simp] def E5w:A2s prog 27=some false:=Q2
@[simp] def E6f:A1j prog 27=some 1:=Q2
@[simp] def B6E:A1b prog 27=some 233:=Q2
def C7m:A4l prog 27:=.inl ⟨233,Q2⟩
@[simp] def E4o:A0F prog 27=some [.slice none 0 0]:=Q2
@[simp] def E5I:A2s prog 28=some false:=Q2
@[simp] def E6u:A1j prog 28=some 1:=Q2
@[simp] def A7N:A1b prog 28=some 30:=Q2
def B2e:A4l prog 28:=.inl ⟨30,Q2⟩
@[simp] def E5d:A0F prog 28=some [.slice none 0 0]:=Q2
@[simp] def D1W:A2s prog 30=some true:=Q2
@[simp] def C8o:A1j prog 30=some 8:=Q2
@[simp] def E1E:A1D prog 30 0=some 0:=Q2
@[simp] def E1O:A1D prog 30 1=some 3:=Q2
@[simp] def E1C:A0U prog 30 1=some (3,3):=Q2
@[simp] def E3D:A1D prog 30 2=some 4:=Q2
@[simp] def E2h:A0U prog 30 2=some (4,9):=Q2
@[simp] def E2v:A1D prog 30 3=some 5:=Q2
@[simp] def E3b:A1D prog 30 4=some 6:=Q2
@[simp] def E3j:A1D prog 30 5=some 7:=Q2
@[simp] def E5T:A2Z prog 30=true:=Q2
@[simp] def D7C:A0F prog 30=some [.int .i64 0,.int .i64 0,.int .i64 0,.int .i64 0,.string ⟨#[]⟩,.slice none 0 0,.slice none 0 0,.slice none 0 0]:=Q2
def B0y:A3X prog 30 8 120:=⟨_,_,type30,rfl,rfl,rfl,rfl,by decide⟩
@[simp] def E5P:A2s prog 33=some false:=Q2
@[simp] def E6v:A1j prog 33=some 1:=Q2
@[simp] def D0Y:A1b prog 33=some 89:=Q2
def D6i:A4l prog 33:=.inl ⟨89,Q2⟩
@[simp] def E3S:A0F prog 33=some [.slice none 0 0]:=Q2
@[simp] def E5F:A2s prog 35=some true:=Q2
@[simp] def E6d:A1j prog 35=some 2:=Q2
@[simp] def E2f:A1D prog 35 0=some 0:=Q2
@[simp] def E3x:A0U prog 35 0=some (0,3):=Q2
@[simp] def E2s:A1D prog 35 1=some 1:=Q2
@[simp] def E2Y:A0U prog 35 1=some (1,3):=Q2
@[simp] def E5C:A2Z prog 35=true:=Q2
@[simp] def E5b:A0F prog 35=some [.int .i64 0,.int .i64 0]:=Q2
@[simp] def E5S:A2s prog 37=some true:=Q2
@[simp] def E6j:A1j prog 37=some 7:=Q2
@[simp] def E3A:A1D prog 37 0=some 0:=Q2
@[simp] def E2n:A0U prog 37 0=some (0,3):=Q2
@[simp] def E2D:A1D prog 37 1=some 1:=Q2
@[simp] def E1M:A0U prog 37 1=some (1,23):=Q2
@[simp] def E1H:A1D prog 37 2=some 4:=Q2
@[simp] def E1T:A0U prog 37 2=some (4,33):=Q2
@[simp] def E2E:A1D prog 37 3=some 5:=Q2
@[simp] def E2a:A0U prog 37 3=some (5,35):=Q2
@[simp] def E5G:A2Z prog 37=true:=Q2
@[simp] def E4K:A0F prog 37=some [.int .i64 0,.int .i64 0,.int .i64 0,.int .i64 0,.slice none 0 0,.int .i64 0,.int .i64 0]:=Q2
@[simp] def E5N:A2s prog 44=some false:=Q2
@[simp] def E6c:A1j prog 44=some 1:=Q2
@[simp] def D8f:A1b prog 44=some 72:=Q2
def E0M:A4l prog 44:=.inl ⟨72,Q2⟩
@[simp] def E3Q:A0F prog 44=some [.slice none 0 0]:=Q2
@[simp] def E5Q:A2s prog 46=some true:=Q2
@[simp] def E6t:A1j prog 46=some 4:=Q2
@[simp] def E1Z:A0U prog 46 0=some (0,3):=Q2
@[simp] def E2N:A1D prog 46 2=some 2:=Q2
@[simp] def E3t:A1D prog 46 3=some 3:=Q2
@[simp] def E3F:A0U prog 46 3=some (3,44):=Q2
@[simp] def E5D:A2Z prog 46=true:=Q2
@[simp] def E4r:A0F prog 46=some [.int .i64 0,.int .i64 0,.string ⟨#[]⟩,.slice none 0 0]:=Q2
@[simp] def D7Z:A1b prog 49=some 99:=Q2
def E0m:A4l prog 49:=.inl ⟨99,Q2⟩
@[simp] def E5K:A2s prog 51=some false:=Q2
@[simp] def E6a:A1j prog 51=some 1:=Q2
@[simp] def C6k:A1b prog 51=some 80:=Q2
def D2S:A4l prog 51:=.inl ⟨80,Q2⟩
@[simp] def E4z:A0F prog 51=some [.slice none 0 0]:=Q2
@[simp] def E5V:A2s prog 61=some false:=Q2
@[simp] def E6e:A1j prog 61=some 1:=Q2
@[simp] def C5A:A1b prog 61=some 23:=Q2
def D2q:A4l prog 61:=.inl ⟨23,Q2⟩
@[simp] def E4L:A0F prog 61=some [.slice none 0 0]:=Q2
@[simp] def E5t:A2s prog 63=some false:=Q2
@[simp] def E5Z:A1j prog 63=some 1:=Q2
@[simp] def E4D:A0F prog 63=some [.nilFunc]:=Q2
@[simp] def E5s:A2s prog 65=some true:=Q2
@[simp] def E6q:A1j prog 65=some 3:=Q2
@[simp] def E3m:A1D prog 65 0=some 0:=Q2
@[simp] def E3f:A0U prog 65 0=some (0,3):=Q2
@[simp] def E2Q:A1D prog 65 1=some 1:=Q2
@[simp] def E2S:A0U prog 65 1=some (1,3):=Q2
@[simp] def E1I:A1D prog 65 2=some 2:=Q2
@[simp] def E5p:A2Z prog 65=true:=Q2
@[simp] def D2t:A0F prog 65=some [.int .i64 0,.int .i64 0,.string ⟨#[]⟩]:=Q2
@[simp] def E5j:A2s prog 67=some false:=Q2
@[simp] def E6l:A1j prog 67=some 1:=Q2
@[simp] def B8V:A1b prog 67=some 9:=Q2
def C3D:A4l prog 67:=.inl ⟨9,Q2⟩
@[simp] def E4y:A0F prog 67=some [.slice none 0 0]:=Q2
@[simp] def E5m:A2s prog 68=some false:=Q2
@[simp] def E6g:A1j prog 68=some 1:=Q2
@[simp] def E4v:A1b prog 68=some 70:=Q2
@[simp] def E5M:A2s prog 70=some true:=Q2
@[simp] def E6m:A1j prog 70=some 25:=Q2
@[simp] def E3v:A1D prog 70 0=some 0:=Q2
@[simp] def E2y:A0U prog 70 0=some (0,3):=Q2
@[simp] def E3u:A1D prog 70 1=some 1:=Q2
@[simp] def E3q:A0U prog 70 1=some (1,33):=Q2
@[simp] def E2C:A1D prog 70 2=some 2:=Q2
@[simp] def E1V:A0U prog 70 2=some (2,33):=Q2
@[simp] def E2F:A1D prog 70 3=some 3:=Q2
@[simp] def E2x:A0U prog 70 3=some (3,3):=Q2
@[simp] def E3n:A1D prog 70 4=some 4:=Q2
@[simp] def E1z:A0U prog 70 4=some (4,3):=Q2
@[simp] def E3w:A1D prog 70 5=some 5:=Q2
@[simp] def E2t:A0U prog 70 5=some (5,30):=Q2
@[simp] def E2i:A1D prog 70 6=some 13:=Q2
@[simp] def E1U:A0U prog 70 6=some (13,67):=Q2
@[simp] def E2U:A1D prog 70 7=some 14:=Q2
@[simp] def E1X:A0U prog 70 7=some (14,67):=Q2
@[simp] def E2d:A1D prog 70 8=some 15:=Q2
@[simp] def E3a:A0U prog 70 8=some (15,9):=Q2
@[simp] def E2b:A1D prog 70 9=some 16:=Q2
@[simp] def D9R:A1D prog 70 10=some 17:=Q2
@[simp] def E1q:A1D prog 70 11=some 20:=Q2
@[simp] def D9F:A1D prog 70 12=some 21:=Q2
@[simp] def D9y:A1D prog 70 13=some 22:=Q2
@[simp] def D9u:A1D prog 70 14=some 23:=Q2
@[simp] def E1n:A1D prog 70 15=some 24:=Q2
@[simp] def E5r:A2Z prog 70=true:=Q2
@[simp] def C5Q:A0F prog 70=some [.int .i64 0,.slice none 0 0,.slice none 0 0,.int .i64 0,.int .i64 0,.int .i64 0,.int .i64 0,.int .i64 0,.int .i64 0,.string ⟨#[]⟩,.slice none 0 0,.slice none 0 0,.slice none 0 0,.slice none 0 0,.slice none 0 0,.string ⟨#[]⟩,.string ⟨#[]⟩,.int .i64 0,.int .i64 0,.string ⟨#[]⟩,.int .i64 0,.int .i64 0,.int .i64 0,.string ⟨#[]⟩,.slice none 0 0]:=Q2
@[simp] def E5v:A2s prog 72=some true:=Q2
@[simp] def E6k:A1j prog 72=some 7:=Q2
@[simp] def E3y:A1D prog 72 0=some 0:=Q2
@[simp] def E2c:A0U prog 72 0=some (0,3):=Q2
@[simp] def E2m:A1D prog 72 1=some 1:=Q2
@[simp] def E3k:A0U prog 72 1=some (1,9):=Q2
@[simp] def E3l:A1D prog 72 2=some 2:=Q2
@[simp] def E3z:A1D prog 72 3=some 3:=Q2
@[simp] def E2q:A0U prog 72 3=some (3,65):=Q2
@[simp] def E2u:A1D prog 72 4=some 6:=Q2
@[simp] def E2A:A0U prog 72 4=some (6,68):=Q2
@[simp] def E5l:A2Z prog 72=true:=Q2
@[simp] def E4k:A0F prog 72=some [.int .i64 0,.string ⟨#[]⟩,.int .i64 0,.int .i64 0,.int .i64 0,.string ⟨#[]⟩,.slice none 0 0]:=Q2
def D9I:A3X prog 72 7 88:=⟨_,_,type72,rfl,rfl,rfl,rfl,by decide⟩
@[simp] def E5x:A2s prog 80=some true:=Q2
@[simp] def E6p:A1j prog 80=some 28:=Q2
@[simp] def E2l:A1D prog 80 0=some 0:=Q2
@[simp] def E3C:A1D prog 80 1=some 1:=Q2
@[simp] def E2z:A1D prog 80 3=some 3:=Q2
@[simp] def E4p:A0F prog 80=some [.int .i64 0,.int .i64 0,.int .i64 0,.int .i64 0,.slice none 0 0,.slice none 0 0,.int .i64 0,.int .i64 0,.int .i64 0,.int .i64 0,.int .i64 0,.int .i64 0,.string ⟨#[]⟩,.slice none 0 0,.slice none 0 0,.slice none 0 0,.slice none 0 0,.slice none 0 0,.string ⟨#[]⟩,.string ⟨#[]⟩,.int .i64 0,.int .i64 0,.string ⟨#[]⟩,.int .i64 0,.int .i64 0,.int .i64 0,.string ⟨#[]⟩,.slice none 0 0]:=Q2
def D1c:A3X prog 80 28 392:=⟨_,_,type80,rfl,rfl,rfl,rfl,by decide⟩
@[simp] def E5E:A2s prog 82=some false:=Q2
@[simp] def E6x:A1j prog 82=some 1:=Q2
@[simp] def B2w:A1b prog 82=some 3:=Q2
def C0a:A4l prog 82:=.inl ⟨3,Q2⟩
@[simp] def E3P:A0F prog 82=some [.slice none 0 0]:=Q2
@[simp] def E5J:A2s prog 89=some true:=Q2
@[simp] def E6h:A1j prog 89=some 2:=Q2
@[simp] def E2H:A1D prog 89 0=some 0:=Q2
@[simp] def E1J:A0U prog 89 0=some (0,3):=Q2
@[simp] def E1W:A1D prog 89 1=some 1:=Q2
@[simp] def E2P:A0U prog 89 1=some (1,9):=Q2
@[simp] def E5Y:A2Z prog 89=true:=Q2
@[simp] def E4g:A0F prog 89=some [.int .i64 0,.string ⟨#[]⟩]:=Q2
def D6s:A3X prog 89 2 24:=⟨_,_,type89,rfl,rfl,rfl,rfl,by decide⟩
@[simp] def E5z:A2s prog 90=some false:=Q2
@[simp] def E6w:A1j prog 90=some 1:=Q2
@[simp] def C1T:A1b prog 92=some 124:=Q2
def C7j:A4l prog 92:=.inl ⟨124,Q2⟩
@[simp] def E6b:A1j prog 99=some 3:=Q2
@[simp] def E4G:A0F prog 99=some [.int .i64 0,.int .i64 0,.int .i64 0]:=Q2
def E0T:A3X prog 99 3 24:=⟨_,_,type99,rfl,rfl,rfl,rfl,by decide⟩
@[simp] def E4M:A2s prog 124=some true:=Q2
@[simp] def E5u:A1j prog 124=some 2:=Q2
@[simp] def E1e:A1D prog 124 0=some 0:=Q2
@[simp] def E1s:A1D prog 124 1=some 1:=Q2
@[simp] def E2e:A0F prog 124=some [.int .i64 0,.int .i64 0]:=Q2
def C1z:A3X prog 124 2 16:=⟨_,_,type124,rfl,rfl,rfl,rfl,by decide⟩
@[simp] def E4R:A2s prog 158=some false:=Q2
@[simp] def E5H:A1j prog 158=some 1:=Q2
@[simp] def E5c:A2s prog 160=some true:=Q2
@[simp] def E5X:A1j prog 160=some 2:=Q2
@[simp] def E0X:A1D prog 160 0=some 0:=Q2
@[simp] def E0A:A0U prog 160 0=some (0,158):=Q2
@[simp] def D9W:A1D prog 160 1=some 1:=Q2
@[simp] def D9D:A0U prog 160 1=some (1,90):=Q2
@[simp] def E4U:A2Z prog 160=true:=Q2
@[simp] def E3c:A0F prog 160=some [.nilFunc,.nilFunc]:=Q2
@[simp] def E5y:A1j prog 184=some 8:=Q2
@[simp] def E1B:A0F prog 184=some [.string ⟨#[]⟩,.string ⟨#[]⟩,.string ⟨#[]⟩,.string ⟨#[]⟩,.string ⟨#[]⟩,.string ⟨#[]⟩,.string ⟨#[]⟩,.string ⟨#[]⟩]:=Q2
@[simp] def E2p:A1b prog 186=some 5:=Q2
@[simp] def E3O:A2s prog 231=some true:=Q2
@[simp] def E5q:A1j prog 231=some 3:=Q2
@[simp] def D9P:A0U prog 231 0=some (0,3):=Q2
@[simp] def D9v:A0U prog 231 1=some (1,3):=Q2
@[simp] def E0r:A0U prog 231 2=some (2,3):=Q2
@[simp] def E4t:A2Z prog 231=true:=Q2
@[simp] def E3h:A0F prog 231=some [.int .i64 0,.int .i64 0,.int .i64 0]:=Q2
@[simp] def E4C:A2s prog 233=some true:=Q2
@[simp] def E0U:A1j prog 233=some 4:=Q2
@[simp] def E0b:A1D prog 233 0=some 0:=Q2
@[simp] def E1k:A0U prog 233 0=some (0,9):=Q2
@[simp] def E0D:A1D prog 233 1=some 1:=Q2
@[simp] def E0V:A0U prog 233 1=some (1,231):=Q2
@[simp] def E4j:A2Z prog 233=true:=Q2
@[simp] def E2r:A0F prog 233=some [.string ⟨#[]⟩,.int .i64 0,.int .i64 0,.int .i64 0]:=Q2
def C1O:A3X prog 233 4 40:=⟨_,_,type233,rfl,rfl,rfl,rfl,by decide⟩
@[simp] def E4X:A2s prog 258=some true:=Q2
@[simp] def E5A:A1j prog 258=some 4:=Q2
@[simp] def E0P:A1D prog 258 0=some 0:=Q2
@[simp] def E1f:A0U prog 258 0=some (0,23):=Q2
@[simp] def D9S:A1D prog 258 1=some 3:=Q2
@[simp] def E0k:A0U prog 258 1=some (3,3):=Q2
@[simp] def E5g:A2Z prog 258=true:=Q2
@[simp] def E1Y:A0F prog 258=some [.int .i64 0,.int .i64 0,.int .i64 0,.int .i64 0]:=Q2
@[simp] def E5k:A1j prog 262=some 4:=Q2
@[simp] def E1v:A1D prog 262 0=some 0:=Q2
@[simp] def E0Y:A0U prog 262 0=some (0,3):=Q2
@[simp] def E0n:A1D prog 262 1=some 1:=Q2
@[simp] def E0G:A0U prog 262 1=some (1,3):=Q2
@[simp] def E0y:A1D prog 262 2=some 2:=Q2
@[simp] def E0w:A1D prog 262 3=some 3:=Q2
@[simp] def E4q:A2Z prog 262=true:=Q2
@[simp] def E1D:A0F prog 262=some [.int .i64 0,.int .i64 0,.int .i64 0,.int .i64 0]:=Q2
@[simp] def E5e:A2s prog 303=some true:=Q2
@[simp] def E5n:A1j prog 303=some 4:=Q2
@[simp] def E1F:A0F prog 303=some [.nilFunc,.nilFunc,.nilFunc,.nilFunc]:=Q2
@[simp] def E4B:A2s prog 324=some false:=Q2
@[simp] def E5W:A1j prog 324=some 1:=Q2
@[simp] def E1K:A0F prog 324=some [.nilFunc]:=Q2
@[simp] def C2a:A1b prog 332=some 27:=Q2
@[simp] def E4A:A2s prog 337=some true:=Q2
@[simp] def E5L:A1j prog 337=some 2:=Q2
@[simp] def E0R:A0U prog 337 0=some (0,3):=Q2
@[simp] def D9T:A0U prog 337 1=some (1,9):=Q2
@[simp] def E4m:A2Z prog 337=true:=Q2
@[simp] def E2J:A0F prog 337=some [.int .i64 0,.string ⟨#[]⟩]:=Q2
end TryTypes
end Go.Abs
