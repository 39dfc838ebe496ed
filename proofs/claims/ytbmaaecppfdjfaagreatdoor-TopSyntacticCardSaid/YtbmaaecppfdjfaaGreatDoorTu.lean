/- -/
import Derived.Test.YtbmaaecppfdjfaaGreatDoorTi
namespace Sg
open Go Go.RowKit Go.Proofs
structure UN (t:TypeId) (d:TypeDesc):Prop where
 h:Tryz.prog.underlying t=some d
structure TI (t:TypeId) (z:Option Value) (s b:Nat):Prop where
 h:ti Tryz.prog t=some (z,s,b)
structure UNs (t:TypeId) where
 d:TypeDesc
 h:UN t d
structure TIs (t:TypeId) where
 z:Option Value
 s:Nat
 b:Nat
 h:TI t z s b
instance:Inhabited (UNs 3):=⟨⟨_,⟨Tryz.underlying3⟩⟩⟩
instance:Inhabited (UNs 4):=⟨⟨_,⟨Tryz.underlying4⟩⟩⟩
instance:Inhabited (UNs 5):=⟨⟨_,⟨Tryz.underlying5⟩⟩⟩
instance:Inhabited (UNs 9):=⟨⟨_,⟨Tryz.underlying9⟩⟩⟩
instance:Inhabited (UNs 21):=⟨⟨_,⟨Tryz.underlying21⟩⟩⟩
instance:Inhabited (UNs 22):=⟨⟨_,⟨Tryz.underlying22⟩⟩⟩
instance:Inhabited (UNs 23):=⟨⟨_,⟨Tryz.underlying23⟩⟩⟩
instance:Inhabited (UNs 25):=⟨⟨_,⟨Tryz.underlying25⟩⟩⟩
instance:Inhabited (UNs 32):=⟨⟨_,⟨Tryz.underlying32⟩⟩⟩
instance:Inhabited (UNs 33):=⟨⟨_,⟨Tryz.underlying33⟩⟩⟩
instance:Inhabited (UNs 35):=⟨⟨_,⟨Tryz.underlying35⟩⟩⟩
instance:Inhabited (UNs 48):=⟨⟨_,⟨Tryz.underlying48⟩⟩⟩
instance:Inhabited (UNs 50):=⟨⟨_,⟨Tryz.underlying50⟩⟩⟩
instance:Inhabited (UNs 73):=⟨⟨_,⟨Tryz.underlying73⟩⟩⟩
instance:Inhabited (UNs 75):=⟨⟨_,⟨Tryz.underlying75⟩⟩⟩
instance:Inhabited (UNs 82):=⟨⟨_,⟨Tryz.underlying82⟩⟩⟩
instance:Inhabited (UNs 84):=⟨⟨_,⟨Tryz.underlying84⟩⟩⟩
instance:Inhabited (UNs 86):=⟨⟨_,⟨Tryz.underlying86⟩⟩⟩
instance:Inhabited (UNs 94):=⟨⟨_,⟨Tryz.underlying94⟩⟩⟩
instance:Inhabited (UNs 96):=⟨⟨_,⟨Tryz.underlying96⟩⟩⟩
instance:Inhabited (UNs 105):=⟨⟨_,⟨Tryz.underlying105⟩⟩⟩
instance:Inhabited (UNs 107):=⟨⟨_,⟨Tryz.underlying107⟩⟩⟩
instance:Inhabited (UNs 110):=⟨⟨_,⟨Tryz.underlying110⟩⟩⟩
instance:Inhabited (UNs 112):=⟨⟨_,⟨Tryz.underlying112⟩⟩⟩
instance:Inhabited (UNs 126):=⟨⟨_,⟨Tryz.underlying126⟩⟩⟩
instance:Inhabited (UNs 132):=⟨⟨_,⟨Tryz.underlying132⟩⟩⟩
instance:Inhabited (UNs 141):=⟨⟨_,⟨Tryz.underlying141⟩⟩⟩
instance:Inhabited (UNs 142):=⟨⟨_,⟨Tryz.underlying142⟩⟩⟩
instance:Inhabited (UNs 145):=⟨⟨_,⟨Tryz.underlying145⟩⟩⟩
instance:Inhabited (UNs 150):=⟨⟨_,⟨Tryz.underlying150⟩⟩⟩
instance:Inhabited (UNs 155):=⟨⟨_,⟨Tryz.underlying155⟩⟩⟩
instance:Inhabited (UNs 161):=⟨⟨_,⟨Tryz.underlying161⟩⟩⟩
instance:Inhabited (UNs 163):=⟨⟨_,⟨Tryz.underlying163⟩⟩⟩
instance:Inhabited (UNs 165):=⟨⟨_,⟨Tryz.underlying165⟩⟩⟩
instance:Inhabited (UNs 168):=⟨⟨_,⟨Tryz.underlying168⟩⟩⟩
instance:Inhabited (UNs 171):=⟨⟨_,⟨Tryz.underlying171⟩⟩⟩
instance:Inhabited (UNs 172):=⟨⟨_,⟨Tryz.underlying172⟩⟩⟩
instance:Inhabited (UNs 174):=⟨⟨_,⟨Tryz.underlying174⟩⟩⟩
instance:Inhabited (UNs 179):=⟨⟨_,⟨Tryz.underlying179⟩⟩⟩
instance:Inhabited (UNs 181):=⟨⟨_,⟨Tryz.underlying181⟩⟩⟩
instance:Inhabited (UNs 191):=⟨⟨_,⟨Tryz.underlying191⟩⟩⟩
instance:Inhabited (UNs 193):=⟨⟨_,⟨Tryz.underlying193⟩⟩⟩
instance:Inhabited (UNs 198):=⟨⟨_,⟨Tryz.underlying198⟩⟩⟩
instance:Inhabited (UNs 207):=⟨⟨_,⟨Tryz.underlying207⟩⟩⟩
instance:Inhabited (UNs 213):=⟨⟨_,⟨Tryz.underlying213⟩⟩⟩
instance:Inhabited (UNs 215):=⟨⟨_,⟨Tryz.underlying215⟩⟩⟩
instance:Inhabited (UNs 217):=⟨⟨_,⟨Tryz.underlying217⟩⟩⟩
instance:Inhabited (UNs 219):=⟨⟨_,⟨Tryz.underlying219⟩⟩⟩
instance:Inhabited (UNs 235):=⟨⟨_,⟨Tryz.underlying235⟩⟩⟩
instance:Inhabited (UNs 237):=⟨⟨_,⟨Tryz.underlying237⟩⟩⟩
instance:Inhabited (TIs 3):=⟨⟨_,_,_,⟨ti3⟩⟩⟩
instance:Inhabited (TIs 4):=⟨⟨_,_,_,⟨ti4⟩⟩⟩
instance:Inhabited (TIs 5):=⟨⟨_,_,_,⟨ti5⟩⟩⟩
instance:Inhabited (TIs 9):=⟨⟨_,_,_,⟨ti9⟩⟩⟩
instance:Inhabited (TIs 21):=⟨⟨_,_,_,⟨ti21⟩⟩⟩
instance:Inhabited (TIs 22):=⟨⟨_,_,_,⟨ti22⟩⟩⟩
instance:Inhabited (TIs 23):=⟨⟨_,_,_,⟨ti23⟩⟩⟩
instance:Inhabited (TIs 25):=⟨⟨_,_,_,⟨ti25⟩⟩⟩
instance:Inhabited (TIs 32):=⟨⟨_,_,_,⟨ti32⟩⟩⟩
instance:Inhabited (TIs 33):=⟨⟨_,_,_,⟨ti33⟩⟩⟩
instance:Inhabited (TIs 35):=⟨⟨_,_,_,⟨ti35⟩⟩⟩
instance:Inhabited (TIs 48):=⟨⟨_,_,_,⟨ti48⟩⟩⟩
instance:Inhabited (TIs 50):=⟨⟨_,_,_,⟨ti50⟩⟩⟩
instance:Inhabited (TIs 73):=⟨⟨_,_,_,⟨ti73⟩⟩⟩
instance:Inhabited (TIs 75):=⟨⟨_,_,_,⟨ti75⟩⟩⟩
instance:Inhabited (TIs 82):=⟨⟨_,_,_,⟨ti82⟩⟩⟩
instance:Inhabited (TIs 84):=⟨⟨_,_,_,⟨ti84⟩⟩⟩
instance:Inhabited (TIs 86):=⟨⟨_,_,_,⟨ti86⟩⟩⟩
instance:Inhabited (TIs 94):=⟨⟨_,_,_,⟨ti94⟩⟩⟩
instance:Inhabited (TIs 96):=⟨⟨_,_,_,⟨ti96⟩⟩⟩
instance:Inhabited (TIs 105):=⟨⟨_,_,_,⟨ti105⟩⟩⟩
instance:Inhabited (TIs 107):=⟨⟨_,_,_,⟨ti107⟩⟩⟩
instance:Inhabited (TIs 110):=⟨⟨_,_,_,⟨ti110⟩⟩⟩
instance:Inhabited (TIs 112):=⟨⟨_,_,_,⟨ti112⟩⟩⟩
instance:Inhabited (TIs 126):=⟨⟨_,_,_,⟨ti126⟩⟩⟩
instance:Inhabited (TIs 132):=⟨⟨_,_,_,⟨ti132⟩⟩⟩
instance:Inhabited (TIs 141):=⟨⟨_,_,_,⟨ti141⟩⟩⟩
instance:Inhabited (TIs 142):=⟨⟨_,_,_,⟨ti142⟩⟩⟩
instance:Inhabited (TIs 145):=⟨⟨_,_,_,⟨ti145⟩⟩⟩
instance:Inhabited (TIs 150):=⟨⟨_,_,_,⟨ti150⟩⟩⟩
instance:Inhabited (TIs 155):=⟨⟨_,_,_,⟨ti155⟩⟩⟩
instance:Inhabited (TIs 161):=⟨⟨_,_,_,⟨ti161⟩⟩⟩
instance:Inhabited (TIs 163):=⟨⟨_,_,_,⟨ti163⟩⟩⟩
instance:Inhabited (TIs 165):=⟨⟨_,_,_,⟨ti165⟩⟩⟩
instance:Inhabited (TIs 168):=⟨⟨_,_,_,⟨ti168⟩⟩⟩
instance:Inhabited (TIs 171):=⟨⟨_,_,_,⟨ti171⟩⟩⟩
instance:Inhabited (TIs 172):=⟨⟨_,_,_,⟨ti172⟩⟩⟩
instance:Inhabited (TIs 174):=⟨⟨_,_,_,⟨ti174⟩⟩⟩
instance:Inhabited (TIs 179):=⟨⟨_,_,_,⟨ti179⟩⟩⟩
instance:Inhabited (TIs 181):=⟨⟨_,_,_,⟨ti181⟩⟩⟩
instance:Inhabited (TIs 191):=⟨⟨_,_,_,⟨ti191⟩⟩⟩
instance:Inhabited (TIs 193):=⟨⟨_,_,_,⟨ti193⟩⟩⟩
instance:Inhabited (TIs 198):=⟨⟨_,_,_,⟨ti198⟩⟩⟩
instance:Inhabited (TIs 207):=⟨⟨_,_,_,⟨ti207⟩⟩⟩
instance:Inhabited (TIs 213):=⟨⟨_,_,_,⟨ti213⟩⟩⟩
instance:Inhabited (TIs 215):=⟨⟨_,_,_,⟨ti215⟩⟩⟩
instance:Inhabited (TIs 217):=⟨⟨_,_,_,⟨ti217⟩⟩⟩
instance:Inhabited (TIs 219):=⟨⟨_,_,_,⟨ti219⟩⟩⟩
instance:Inhabited (TIs 235):=⟨⟨_,_,_,⟨ti235⟩⟩⟩
instance:Inhabited (TIs 237):=⟨⟨_,_,_,⟨ti237⟩⟩⟩
theorem und {t:TypeId} [i:Inhabited (UNs t)]:UN t i.default.d:=i.default.h
theorem tin {t:TypeId} [i:Inhabited (TIs t)]:TI t i.default.z i.default.s i.default.b:=i.default.h
end Sg
