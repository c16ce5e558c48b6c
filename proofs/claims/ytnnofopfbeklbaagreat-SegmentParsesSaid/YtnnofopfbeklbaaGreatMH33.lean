/- Texts of this claim's author and of the print of its functions, merged by merge.py. -/
import Derived.Test.YtnnofopfbeklbaaGreatMH02
import Derived.Test.YtnnofopfbeklbaaGreatMH21
import Derived.Test.YtnnofopfbeklbaaGreatMH08
import Derived.Test.YtnnofopfbeklbaaGreatMH28
import Derived.Test.YtnnofopfbeklbaaGreatMH32
import Derived.Test.YtnnofopfbeklbaaGreatMH20
set_option linter.unusedVariables false
set_option linter.unusedSimpArgs false
set_option maxHeartbeats 8000000
set_option maxRecDepth 100000
section
namespace Go.Proofs.YtnnofopfbeklbaaGreat.C
open Go.RowKit Go.Proofs.YtnnofopfbeklbaaGreatW.PrintWords Go.Proofs.YtnnofopfbeklbaaGreatW.PrintLast Go.Proofs.YtnnofopfbeklbaaGreatW.PrintMore
def Qul(k:Nat)(e s n:Int)(b:List Int)(res:Option (List Rec × List Int × Nat × Bool))(er:Int):Prop :=
 ∃ hd e0,Qci.f e s n=some (hd,e0)∧((e0≠0∧res=none∧er=e0) ∨
  (e0=0∧er=4∧∃sz,Qap.f e s=some sz∧CodecP.Bytes b∧CodecP.Bytes hd∧b.length≤1000000000 ∧
   (((b.length:Int)≠sz∧res=none)∨((b.length:Int)=sz∧b.take hd.length≠hd∧res=none)∨((b.length:Int)=sz∧b.take hd.length=hd∧∃f0,Qub k b f0 [] [] hd.length=some res))))
theorem Qum(k:Nat)(e s n er:Int)(Ab:Option Addr)(cb:Nat)(b:List Int)(res:Option (List Rec × List Int × Nat × Bool))(w:World)(hcs:Kd.C (Kd.int .u8) w Ab b.length b)(hcb:b.length≤cb)(h:Qul k e s n b res er) :
  Calls Tryz.prog 40 #[.agg #[.int .u8 e,.int .u32 s],.int .u32 n,.slice Ab b.length cb] w (Quc res er w):=by
 obtain⟨hd,e0,hp,⟨h0,rfl,rfl⟩ |⟨rfl,rfl,sz,hsz,hb,hh,hl,⟨h1,rfl⟩ |⟨h1,h2,rfl⟩ |⟨h1,h2,f0,h3⟩⟩⟩:=h
 ·exact Qug e s n _ Ab cb b hd w hp h0
 ·exact Quh e s n sz Ab cb b hd w hcs hcb ⟨hb,hh,by omega⟩ hp hsz h1
 ·exact Qui e s n sz Ab cb b hd w hcs hcb ⟨hb,hh,by omega⟩ hp hsz h1 (decide_eq_false h2)
 ·exact Quk e s n sz Ab cb b hd w hcs hcb ⟨hb,hh,by omega⟩ hp hsz k f0 h1 (decide_eq_true h2) hl res h3
end Go.Proofs.YtnnofopfbeklbaaGreat.C
end
