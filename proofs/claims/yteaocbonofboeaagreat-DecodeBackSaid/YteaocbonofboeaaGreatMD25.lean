/- Merged texts. -/
import Derived.Test.YteaocbonofboeaaGreatMD02
import Derived.Test.YteaocbonofboeaaGreatMD18
import Derived.Test.YteaocbonofboeaaGreatMD03
import Derived.Test.YteaocbonofboeaaGreatMD17
import Derived.Test.YteaocbonofboeaaGreatMD24
import Derived.Test.YteaocbonofboeaaGreatMD10
import Derived.Test.YteaocbonofboeaaGreatMD22
import Derived.Test.YteaocbonofboeaaGreatMD19
set_option linter.unusedVariables false
set_option linter.unusedSimpArgs false
set_option maxHeartbeats 8000000
set_option maxRecDepth 100000
section
namespace Go.Proofs.YteaocbonofboeaaGreat.C
open Go.RowKit Go.Proofs.YteaocbonofboeaaGreatW.PrintWords Go.Proofs.YteaocbonofboeaaGreatW.PrintLast Go.Proofs.YteaocbonofboeaaGreatW.PrintMore
def Qsu(k:Nat)(e s n:Int)(b:List Int)(res:Option (List Rec × List Int × Nat × Bool))(er:Int):Prop :=
 ∃ hd e0,Qbf.f e s n=some (hd,e0)∧((e0≠0∧res=none∧er=e0) ∨
  (e0=0∧er=4∧∃sz,Qaq.f e s=some sz∧CodecP.Bytes b∧CodecP.Bytes hd∧b.length≤1000000000 ∧
   (((b.length:Int)≠sz∧res=none)∨((b.length:Int)=sz∧b.take hd.length≠hd∧res=none)∨((b.length:Int)=sz∧b.take hd.length=hd∧∃f0,Qsk k b f0 [] [] hd.length=some res))))
theorem Qsv(k:Nat)(e s n er:Int)(Ab:Option Addr)(cb:Nat)(b:List Int)(res:Option (List Rec × List Int × Nat × Bool))(w:World)(hcs:Kd.C (Kd.int .u8) w Ab b.length b)(hcb:b.length≤cb)(h:Qsu k e s n b res er) :
  Calls Tryz.prog 21 #[.agg #[.int .u8 e,.int .u32 s],.int .u32 n,.slice Ab b.length cb] w (Qsl res er w):=by
 obtain⟨hd,e0,hp,⟨h0,rfl,rfl⟩ |⟨rfl,rfl,sz,hsz,hb,hh,hl,⟨h1,rfl⟩ |⟨h1,h2,rfl⟩ |⟨h1,h2,f0,h3⟩⟩⟩:=h
 ·exact Qsp e s n _ Ab cb b hd w hp h0
 ·exact Qsq e s n sz Ab cb b hd w hcs hcb ⟨hb,hh,by omega⟩ hp hsz h1
 ·exact Qsr e s n sz Ab cb b hd w hcs hcb ⟨hb,hh,by omega⟩ hp hsz h1 (decide_eq_false h2)
 ·exact Qst e s n sz Ab cb b hd w hcs hcb ⟨hb,hh,by omega⟩ hp hsz k f0 h1 (decide_eq_true h2) hl res h3
def Qsw:Option (List Rec × List Int × Nat × Bool)→Int→(List Rec) × (List Int) × Int × Bool × Int
 | some (l,ps,u,sl),_=>(l,ps,(u:Int),sl,0)
 | none,er=>([],[],0,false,er)
noncomputable def Qbw.f(k:Nat)(a0_0 a0_1 a1:Int)(l2:List Int):Option ((List Rec) × (List Int) × Int × Bool × Int) :=
 (Qbf.f a0_0 a0_1 a1).bind fun p =>
  if p.2≠0 then some (Qsw none p.2)else
  (Qaq.f a0_0 a0_1).bind fun sz =>
   @ite _ (CodecP.Bytes l2∧CodecP.Bytes p.1∧l2.length≤1000000000) (Classical.propDecidable _)
    (if(l2.length:Int)≠sz then some (Qsw none 4)else if l2.take p.1.length≠p.1 then some (Qsw none 4)else(Qsk k l2 k [] [] p.1.length).bind fun res=>some (Qsw res 4)) none
theorem Qsx{k:Nat}{e s n:Int}{b:List Int}{r:(List Rec) × (List Int) × Int × Bool × Int}(h:Qbw.f k e s n b=some r):∃res er,Qsu k e s n b res er∧r=Qsw res er:=by
 unfold Qbw.f at h;obtain⟨⟨hd,e0⟩,hp,h⟩:=Option.bind_eq_some_iff.mp h;dsimp only at h
 by_cases h0:e0≠0
 ·rw[if_pos h0]at h;exact⟨none,e0,⟨hd,e0,hp,.inl ⟨h0,rfl,rfl⟩⟩,(Option.some.inj h).symm⟩
 ·rw [if_neg h0]at h;obtain⟨sz,hsz,h⟩:=Option.bind_eq_some_iff.mp h
  by_cases hg:CodecP.Bytes b∧CodecP.Bytes hd∧b.length≤1000000000
  ·rw[if_pos hg]at h;obtain⟨g1,g2,g3⟩:=hg;have h00:e0=0:=by omega
   by_cases h1:(b.length:Int)≠sz
   ·rw[if_pos h1]at h;exact⟨none,4,⟨hd,e0,hp,.inr ⟨h00,rfl,sz,hsz,g1,g2,g3,.inl ⟨h1,rfl⟩⟩⟩,(Option.some.inj h).symm⟩
   ·rw[if_neg h1]at h;have h11:(b.length:Int)=sz:=by omega
    by_cases h2:b.take hd.length≠hd
    ·rw[if_pos h2]at h;exact⟨none,4,⟨hd,e0,hp,.inr ⟨h00,rfl,sz,hsz,g1,g2,g3,.inr (.inl ⟨h11,h2,rfl⟩)⟩⟩,(Option.some.inj h).symm⟩
    ·rw[if_neg h2]at h;obtain⟨res,hs,h⟩:=Option.bind_eq_some_iff.mp h;exact⟨res,4,⟨hd,e0,hp,.inr ⟨h00,rfl,sz,hsz,g1,g2,g3,.inr (.inr ⟨h11,Decidable.not_not.mp h2,k,hs⟩)⟩⟩,(Option.some.inj h).symm⟩
  ·rw[if_neg hg]at h
   cases h
theorem Qbw.calls(k:Nat)(a0_0 a0_1:Int)(a1:Int)(A2:Option Addr)(c2:Nat)(l2:List Int)(r1:List Rec)(r2:List Int)(r3:Int)(r4:Bool)(r5:Int)(w:World)(hr2:Kd.C (Kd.int .u8) w A2 l2.length l2)(hc2:l2.length≤c2)(h:Qbw.f k a0_0 a0_1 a1 l2=some (r1,r2,r3,r4,r5)) :
  Calls Tryz.prog 21 #[.agg #[.int .u8 a0_0,.int .u32 a0_1],.int .u32 a1,.slice A2 l2.length c2] w fun e w'=>∃v0_ v1_:Value,e=.returned (.tuple #[.agg #[v0_,v1_,.int .u32 r3,.bool r4],.int .i64 r5])∧Kd.R k37 37 w' w.heap.size (fun _=>True) v0_ r1∧Kd.R (Kd.int .u32) 26 w' w.heap.size (fun _=>True) v1_ r2∧Below w.heap.size w w':=by
 obtain⟨res,er,hP,hv⟩:=Qsx h;refine(Qsv k a0_0 a0_1 a1 er A2 c2 l2 res w hr2 hc2 hP).mono ?_;rintro e w' ⟨h1,h2⟩
 cases res with
 | none =>
  simp only[Qsw,Prod.mk.injEq]at hv;obtain⟨rfl,rfl,rfl,rfl,rfl⟩:=hv;exact⟨_,_,h1,Kd.R_nil _ _ _ _ _,Kd.R_nil _ _ _ _ _,h2⟩
 | some q =>
  obtain⟨l,ps,u,sl⟩:=q;obtain⟨Ar,cr,Aa,ca,he,hR,hA⟩:=h1;simp only[Qsw,Prod.mk.injEq]at hv;obtain⟨rfl,rfl,rfl,rfl,rfl⟩:=hv;exact⟨_,_,he,hR,hA,h2⟩
end Go.Proofs.YteaocbonofboeaaGreat.C
end
