/- Texts of this claim's author and of the print of its functions, merged by merge.py. -/
import Derived.Test.YtnnofopfbeklbaaGreatMH02
import Derived.WalkLawsBesides
import Derived.Recover
import Derived.Defers
import Derived.Test.YtnnofopfbeklbaaGreatMH21
import Derived.Test.YtnnofopfbeklbaaGreatMH11
import Derived.Test.YtnnofopfbeklbaaGreatMH26
import Derived.Test.YtnnofopfbeklbaaGreatMH13
import Derived.Test.YtnnofopfbeklbaaGreatMH29
import Derived.Test.YtnnofopfbeklbaaGreatMH27
import Derived.Test.YtnnofopfbeklbaaGreatMH10
import Derived.Test.YtnnofopfbeklbaaGreatMH28
set_option linter.unusedVariables false
set_option linter.unusedSimpArgs false
set_option maxHeartbeats 8000000
set_option maxRecDepth 100000
section
namespace Go.Proofs.YtnnofopfbeklbaaGreat.C
open Go.RowKit Go.Proofs.YtnnofopfbeklbaaGreatW.PrintWords Go.Proofs.YtnnofopfbeklbaaGreatW.PrintLast Go.Proofs.YtnnofopfbeklbaaGreatW.PrintMore
theorem RE.ty{W W':World}{b':Nat}{v:Value}{xs:List Ent}(h:RE W b' v xs)(hT:Ty W W'):RE W' b' v xs:=by
 refine Kd.R_mono (Kd.R_step (Kd.R_bound h) (fun k hk _=>?_)) (fun _ _=>trivial)
 obtain⟨q,hq,cells,hc⟩:=hk.2.2.2
 have ht:∀q,q∈117 :: (k117).E→q=117:=by decide
 obtain rfl:=ht q hq
 rw[hc]
 exact hT k cells _ hc (by decide) (by decide) (by decide)
theorem RU.ty{W W':World}{b':Nat}{v:Value}{xs:List Int}(h:RU W b' v xs)(hT:Ty W W'):RU W' b' v xs:=by
 refine Kd.R_mono (Kd.R_step (Kd.R_bound h) (fun k hk _=>?_)) (fun _ _=>trivial)
 obtain⟨q,hq,cells,hc⟩:=hk.2.2.2
 have hq':q=34:=by simpa [Kd.int,Kd.scalar]using hq
 subst hq'
 rw[hc]
 exact hT k cells _ hc (by decide) (by decide) (by decide)
theorem Qsg(as_:Array Value)(W:World):(callFunc 179 as_).run Tryz.prog W=.ok (.enter 179 as_) W:=by
 simp[callFunc,Tryz.func179,Tryz.f179]
def Qsh(l0:List Int)(fb xb:Nat)(w:World)(er:Int)(w':World):Prop :=
 Below fb w w'∧∃u tv fv,w'.heap[fb]? = some (.cells #[.int .u32 u,tv] 127 (0,0))∧w'.heap[xb]? = some (.cells #[fv] 70 (0,0)) ∧
  match Qse l0 with
  | some (u',t,x)=>er=0∧u'=u∧RE w' 0 tv t∧RU w' 0 fv x
  | none=>er≠0
theorem Qsi(A0:Option Addr)(c0:Nat)(l0:List Int)(fb xb:Nat)(w:World)(hb:CodecP.Bytes l0)(hl:l0.length≤100000000000)(hr0:Kd.C (Kd.int .u8) w A0 l0.length l0)
  (hkf:w.heap[fb]? = some (.cells #[.int .u32 0,.slice none 0 0] 127 (0,0))) (hkx:w.heap[xb]? = some (.cells #[.slice none 0 0] 70 (0,0))) (hfx:fb<xb) :
  Calls Tryz.prog 137 #[.slice A0 l0.length c0,.func (.func 179) #[] #[.pointer (some ⟨fb,0,none⟩),.pointer (some ⟨xb,0,none⟩)]] w fun e w'=>∃er i,e=.returned (.tuple #[.int .i64 i,.int .i64 er])∧Qsh l0 fb xb w er w':=by
 have hlt:=Qdr hkx
 refine Qrx 179 #[.pointer (some ⟨fb,0,none⟩),.pointer (some ⟨xb,0,none⟩)] A0 c0 l0 w hr0 (by omega) Qsg (fun er _ W'=>Qsh l0 fb xb w er W') ?_ ?_
 ·rintro er i W W' ⟨h1,u,tv,fv,h4,h5,h6⟩ h2 h3
  refine⟨h1.trans (Qjn h2 (by omega)),u,tv,fv,(h2.block fb (by omega)).trans h4,(h2.block xb hlt).trans h5,?_⟩
  cases hg:Qse l0 with
  | none=>rw[hg]at h6;exact h6
  | some p =>
   obtain⟨u',t,x⟩:=p
   rw[hg]at h6
   exact⟨h6.1,h6.2.1,h6.2.2.1.ty h3,h6.2.2.2.ty h3⟩
 ·intro W g hg hB hI
  have hlw:w.heap.size≤W.heap.size:=hB.size
  have hS:FS W W fb xb w.heap.size g l0 0 0 (.slice none 0 0) (.slice none 0 0):=⟨hI,(hB.block fb (by omega)).trans hkf,(hB.block xb hlt).trans hkx,Below.refl _ _,fun k cs t _ h _ _=>h,hlw,hfx,hlt⟩
  refine(Qsf fb xb w.heap.size g l0 hb hl hg W hS).mono ?_
  intro e W' h
  cases hG:Qse l0 with
  | none =>
   rw[hG]at h
   obtain⟨er,h1,h2,i,u,tv,fv,hF⟩:=h
   exact⟨i,hF.1,hF.2.2.2.2.1,.inr ⟨er,h2,(Qjn hB (by omega)).trans hF.2.2.2.1,u,tv,fv,hF.2.1,hF.2.2.1,by rw[hG];exact h1⟩⟩
  | some p =>
   obtain⟨u,t,x⟩:=p
   rw[hG]at h
   obtain⟨h1,i,tv,fv,hF,hR,hX⟩:=h
   exact⟨i,hF.1,hF.2.2.2.2.1,.inl ⟨h1,(Qjn hB (by omega)).trans hF.2.2.2.1,u,tv,fv,hF.2.1,hF.2.2.1,by rw[hG];exact⟨rfl,rfl,hR,hX⟩⟩⟩
def getF(e0:Int)(out:List Int):Option (Int × List Ent) :=
 if e0=0 then(match Qse out with
  | some (u,t,x)=>if Qqb u t=0∧x=Qoz t then some (u,t)else none
  | none=>none)else none
theorem Qsp(x y:List Int)(hxy:x.length=y.length)(hl:x.length≤1099511627776):∀(d i k:Nat),i+d=x.length→d+1≤k→Qcm.l0 k x y (x.length:Int) (i:Int)=some (decide (x.drop i=y.drop i))
 | 0,i,k+1,h,hk=>by
  unfold Qcm.l0
  rw[if_neg (by omega),List.drop_eq_nil_of_le (show x.length≤i by omega),List.drop_eq_nil_of_le (show y.length≤i by omega)]
  simp
 | d+1,i,k+1,h,hk=>by
  unfold Qcm.l0
  have hw:wrap64 ((i:Int)+1)=((i+1:Nat):Int):=by unfold wrap64;omega
  have hx:x.drop i=rd x (i:Int) :: x.drop (i+1):=by rw[CodecP.rd_get (show i<x.length by omega)];exact List.drop_eq_getElem_cons (by omega)
  have hy:y.drop i=rd y (i:Int) :: y.drop (i+1):=by rw[CodecP.rd_get (show i<y.length by omega)];exact List.drop_eq_getElem_cons (by omega)
  rw[if_pos (by omega),if_pos (by omega),if_pos (by omega),if_pos (by omega),hw,Qsp x y hxy hl d (i+1) k (by omega) (by omega),hx,hy]
  by_cases he:rd x (i:Int)=rd y (i:Int)
  ·simp[he]
  ·simp[he]
theorem eq64_is(x y:List Int)(hl:x.length≤1099511627776):Qcm.f (x.length+2) x y=some (decide (x=y)):=by
 unfold Qcm.f
 by_cases h:x.length=y.length
 ·rw[if_pos (by omega)]
  have:=Qsp x y h hl x.length 0 (x.length+2) (by omega) (by omega)
  simpa using this
 ·rw[if_neg (by omega)]
  have:¬x=y:=fun e=>h (by rw[e])
  simp[this]
def Qsq(r:Option (Int × List Ent))(w:World)(e:Ending)(w':World):Prop :=
 (∃u A n c er,e=.returned (.tuple #[.agg #[.int .u32 u,.slice A n c],.int .i64 er])∧(match r with
  | some (u',t)=>er=0∧u'=u∧n=t.length∧n≤c∧Kd.C k117 w' A n t
  | none=>er≠0))∧Below w.heap.size w w'
theorem Qsr{W:World}{g:Nat}{u:Int}{v:Value}(h:W.heap[g]? = some (.cells #[.int .u32 u,v] 127 (0,0))):W.cell? ⟨g,0,none⟩=some (.int .u32 u)∧W.cell? ⟨g,1,none⟩=some v∧W.frozen? ⟨g,0,none⟩=false∧W.frozen? ⟨g,1,none⟩=false :=
 ⟨(Qds h 0).trans rfl,(Qds h 1).trans rfl,Qdt h 0,Qdt h 1⟩
theorem Qss{w w1 W2 w3:World}{z:Obj}(B0:Below w.heap.size w (w.alloc z))(HB1:Below (w.alloc z).heap.size (w.alloc z) w1)(HA:Below w1.heap.size w1 W2)(HB3:Below w1.heap.size W2 w3):w3.heap[w.heap.size]? = some z∧Below w.heap.size w w3:=by
 have h1:=HB1.size
 have h2:(w.alloc z).heap.size=w.heap.size+1:=by simp[World.size_alloc]
 refine⟨(HB3.block _ (by omega)).trans ((HA.block _ (by omega)).trans ((HB1.block _ (by omega)).trans (Qei w z))),?_⟩
 exact((B0.trans (Qjn HB1 (by omega))).trans (Qjn HA (by omega))).trans (Qjn HB3 (by omega))
theorem Qst(k:Nat)(A0:Option Addr)(c0:Nat)(l0 out:List Int)(e0:Int)(w:World)(hr0:Kd.C (Kd.int .u8) w A0 l0.length l0)(hc0:l0.length≤c0)(hO:Qch.f k l0=some (out,e0))(he:e0≠0) :
  Calls Tryz.prog 130 #[.slice A0 l0.length c0] w (Qsq none w):=by
 have hft:=Tryz.underlying127
 obtain⟨z0,hz0⟩:∃z:Obj,z=.cells #[.int .u32 0,.slice none 0 0] 127 (0,0):=⟨_,rfl⟩
 have b0:Below w.heap.size w (w.alloc z0):=Qcu (Below.refl _ _) _
 have k1:=Qei w z0
 subst hz0
 have HU:=QA (Qch.calls k A0 c0 l0 out e0 _ (Kd.C_below hr0 b0) hc0 hO)
 have B0:=QA b0
 have K1:=QA k1
 have hne:(e0 != 0)=true:=bne_iff_ne.2 he
 clear hO hr0 b0 k1 hc0
 go_enter Tryz.func130,Tryz.ntmps130
 go_wp2_with (go_at_call 128;refine HU.out.mono ?_;rintro ee w1 ⟨A1,c1,rfl,hC1,hlc1,hb1⟩;have HB1:=QA hb1;have hr3:=(hb1.block w.heap.size (Qdr K1.out)).trans K1.out;obtain⟨q0,q1,g0,g1⟩:=Qsr hr3;clear hb1 hC1 hlc1)
 have hbb:Below w.heap.size w w1:=B0.out.trans (Qjn HB1.out B0.out.size)
 refine bodyPost_ret (Qej rfl _ _ w.heap.size 127 #[.int .u32 0,.slice none 0 0] (0,0) _ rfl (Qdp (Qdp hr3 0 _) 1 _) hft rfl qq_6) rfl ?_
 exact⟨⟨_,_,_,_,_,rfl,he⟩,Qjm (Qjm hbb (Nat.le_refl _)) (Nat.le_refl _)⟩
theorem Qsu(k:Nat)(A0:Option Addr)(c0:Nat)(l0 out:List Int)(w:World)(hr0:Kd.C (Kd.int .u8) w A0 l0.length l0)(hc0:l0.length≤c0)(hO:Qch.f k l0=some (out,0))(hb:CodecP.Bytes out)(hl:out.length≤100000000000)(hG:Qse out=none) :
  Calls Tryz.prog 130 #[.slice A0 l0.length c0] w (Qsq none w):=by
 have hft:=Tryz.underlying127
 obtain⟨z0,hz0⟩:∃z:Obj,z=.cells #[.int .u32 0,.slice none 0 0] 127 (0,0):=⟨_,rfl⟩
 have b0:Below w.heap.size w (w.alloc z0):=Qcu (Below.refl _ _) _
 have k1:=Qei w z0
 subst hz0
 have HU:=QA (Qch.calls k A0 c0 l0 out 0 _ (Kd.C_below hr0 b0) hc0 hO)
 have B0:=QA b0
 have K1:=QA k1
 have HG:=QA hG
 have HB:=QA hb
 have HL:=QA hl
 clear hO hr0 b0 k1 hc0 hG hb hl
 go_enter Tryz.func130,Tryz.ntmps130
 go_upto_region 4 with(go_at_call 128;refine HU.out.mono ?_;rintro ee w1 ⟨A1,c1,rfl,hC1,hlc1,hb1⟩;have HB1:=QA hb1;have HC1:=QA hC1;clear hb1 hC1 hlc1)
 have hA:=Qcu (Qcu (Below.refl w1.heap.size w1) (.cells #[.int .u32 0,.slice none 0 0] 127)) (.cells #[.slice none 0 0] 70)
 have hkf:=Qee (Qei w1 (.cells #[.int .u32 0,.slice none 0 0] 127)) (.cells #[.slice none 0 0] 70)
 have hkx:=Qei (w1.alloc (.cells #[.int .u32 0,.slice none 0 0] 127)) (.cells #[.slice none 0 0] 70)
 rw[World.size_alloc]at hkx
 have RUN:=QA (Qsi A1 c1 out w1.heap.size (w1.heap.size+1) _ HB.out HL.out (Kd.C_below HC1.out hA) hkf hkx (Nat.lt_succ_self _))
 have HA:=QA hA
 clear hA hkf hkx
 go_upto_region 9 with(go_at_call 137;refine RUN.out.mono ?_;rintro ee w3 ⟨er,i,rfl,hP⟩;unfold Qsh at hP;rw[HG.out]at hP;obtain⟨hb3,u,tv,fv,hf3,hx3,her⟩:=hP;have HB3:=QA hb3;have HF3:=QA (And.intro hf3 hx3);have HER:=QA her;have h0:(er == 0)=false:=beq_eq_false_iff_ne.2 her;have h00:(er != 0)=true:=bne_iff_ne.2 her;clear hb3 hf3 hx3 her)
 obtain⟨hr3,hbb⟩:=Qss B0.out HB1.out HA.out HB3.out
 obtain⟨q2,q3,g2,g3⟩:=Qsr hr3
 go_region
 go_wp2_with fail
 refine bodyPost_ret (Qej rfl _ _ w.heap.size 127 #[.int .u32 0,.slice none 0 0] (0,0) _ rfl (Qdp (Qdp hr3 0 _) 1 _) hft rfl qq_6) rfl ?_
 exact⟨⟨_,_,_,_,_,rfl,HER.out⟩,Qcv (Qjm (Qjm hbb (Nat.le_refl _)) (Nat.le_refl _))⟩
theorem Qsv(k:Nat)(A0:Option Addr)(c0:Nat)(l0 out:List Int)(w:World)(hr0:Kd.C (Kd.int .u8) w A0 l0.length l0)(hc0:l0.length≤c0)(hO:Qch.f k l0=some (out,0))(hb:CodecP.Bytes out)(hl:out.length≤100000000000)(u:Int)(t:List Ent)(x:List Int)(hG:Qse out=some (u,t,x))(ht:t.length≤1099511627776)(cd:Int)(hc:Qqb u t=cd)(hcd:cd≠0) :
  Calls Tryz.prog 130 #[.slice A0 l0.length c0] w (Qsq none w):=by
 have hft:=Tryz.underlying127
 obtain⟨z0,hz0⟩:∃z:Obj,z=.cells #[.int .u32 0,.slice none 0 0] 127 (0,0):=⟨_,rfl⟩
 have b0:Below w.heap.size w (w.alloc z0):=Qcu (Below.refl _ _) _
 have k1:=Qei w z0
 subst hz0
 have HU:=QA (Qch.calls k A0 c0 l0 out 0 _ (Kd.C_below hr0 b0) hc0 hO)
 have B0:=QA b0
 have K1:=QA k1
 have HG:=QA hG
 have HB:=QA hb
 have HL:=QA hl
 have HT:=QA ht
 have HC:=QA hc
 have HER:=QA hcd
 have h0:(cd == 0)=false:=beq_eq_false_iff_ne.2 hcd
 have h00:(cd != 0)=true:=bne_iff_ne.2 hcd
 clear ht hc hcd hO hr0 b0 k1 hc0 hG hb hl
 go_enter Tryz.func130,Tryz.ntmps130
 go_upto_region 4 with(go_at_call 128;refine HU.out.mono ?_;rintro ee w1 ⟨A1,c1,rfl,hC1,hlc1,hb1⟩;have HB1:=QA hb1;have HC1:=QA hC1;clear hb1 hC1 hlc1)
 have hA:=Qcu (Qcu (Below.refl w1.heap.size w1) (.cells #[.int .u32 0,.slice none 0 0] 127)) (.cells #[.slice none 0 0] 70)
 have hkf:=Qee (Qei w1 (.cells #[.int .u32 0,.slice none 0 0] 127)) (.cells #[.slice none 0 0] 70)
 have hkx:=Qei (w1.alloc (.cells #[.int .u32 0,.slice none 0 0] 127)) (.cells #[.slice none 0 0] 70)
 rw[World.size_alloc]at hkx
 have RUN:=QA (Qsi A1 c1 out w1.heap.size (w1.heap.size+1) _ HB.out HL.out (Kd.C_below HC1.out hA) hkf hkx (Nat.lt_succ_self _))
 have HA:=QA hA
 clear hA hkf hkx
 go_upto_region 9 with(first
  |(go_at_call 111;refine(Qqd 0 u At _ ct t _ rfl HR3.out HT.out).mono ?_;rw[HC.out];rintro ee w4 ⟨rfl,hb4⟩;have HB4:=QA hb4;have d4:=(hb4.block _ (Qdr HF3.out.1)).trans HF3.out.1;have x4:=(hb4.block _ (Qdr HF3.out.2)).trans HF3.out.2;have HF4:=QA (And.intro d4 x4);have HR4:=QA (Kd.R_below HR3.out hb4);have HX4:=QA (Kd.R_below HX3.out hb4);clear hb4 d4 x4)
  |(go_at_call 137;refine RUN.out.mono ?_;rintro ee w3 ⟨er,i,rfl,hP⟩;unfold Qsh at hP;rw[HG.out]at hP;obtain⟨hb3,u3,tv,fv,hf3,hx3,rfl,rfl,hR3,hX3⟩:=hP;obtain⟨At,ct,htv⟩:=Kd.R_slice hR3;obtain⟨Ax,cx,hfv⟩:=Kd.R_slice hX3;subst htv;subst hfv;have HB3:=QA hb3;have HF3:=QA (And.intro hf3 hx3);have HR3:=QA hR3;have HX3:=QA hX3;obtain⟨d0,d1,_,_⟩:=Qsr hf3;clear hb3 hf3 hx3 hR3 hX3))
 obtain⟨hr3,hbb⟩:=Qss B0.out HB1.out HA.out (HB3.out.trans (Qjn HB4.out (Nat.le_of_lt (Nat.lt_of_lt_of_le (Qdr HF3.out.1) (Nat.le_refl _)))))
 obtain⟨q2,q3,g2,g3⟩:=Qsr hr3
 go_region
 go_wp2_with fail
 refine bodyPost_ret (Qej rfl _ _ w.heap.size 127 #[.int .u32 0,.slice none 0 0] (0,0) _ rfl (Qdp (Qdp hr3 0 _) 1 _) hft rfl qq_6) rfl ?_
 exact⟨⟨_,_,_,_,_,rfl,HER.out⟩,Qcv (Qjm (Qjm hbb (Nat.le_refl _)) (Nat.le_refl _))⟩
theorem Qsw(k:Nat)(A0:Option Addr)(c0:Nat)(l0 out:List Int)(w:World)(hr0:Kd.C (Kd.int .u8) w A0 l0.length l0)(hc0:l0.length≤c0)(hO:Qch.f k l0=some (out,0))(hb:CodecP.Bytes out)(hl:out.length≤100000000000)(u:Int)(t:List Ent)(x:List Int)(hG:Qse out=some (u,t,x))(ht:t.length≤1099511627776)(hc:Qqb u t=0)(hxl:x.length≤1099511627776)(R:Option (Int × List Ent))(hRR:(if x=Qoz t then some (u,t)else none)=R) :
  Calls Tryz.prog 130 #[.slice A0 l0.length c0] w (Qsq R w):=by
 have hft:=Tryz.underlying127
 obtain⟨z0,hz0⟩:∃z:Obj,z=.cells #[.int .u32 0,.slice none 0 0] 127 (0,0):=⟨_,rfl⟩
 have b0:Below w.heap.size w (w.alloc z0):=Qcu (Below.refl _ _) _
 have k1:=Qei w z0
 subst hz0
 have HU:=QA (Qch.calls k A0 c0 l0 out 0 _ (Kd.C_below hr0 b0) hc0 hO)
 have B0:=QA b0
 have K1:=QA k1
 have HG:=QA hG
 have HB:=QA hb
 have HL:=QA hl
 have HT:=QA ht
 have HC:=QA hc
 have HLXX:=QA hxl
 have HRR:=QA hRR
 clear ht hc hxl hRR hO hr0 b0 k1 hc0 hG hb hl
 go_enter Tryz.func130,Tryz.ntmps130
 go_upto_region 4 with(go_at_call 128;refine HU.out.mono ?_;rintro ee w1 ⟨A1,c1,rfl,hC1,hlc1,hb1⟩;have HB1:=QA hb1;have HC1:=QA hC1;clear hb1 hC1 hlc1)
 have hA:=Qcu (Qcu (Below.refl w1.heap.size w1) (.cells #[.int .u32 0,.slice none 0 0] 127)) (.cells #[.slice none 0 0] 70)
 have hkf:=Qee (Qei w1 (.cells #[.int .u32 0,.slice none 0 0] 127)) (.cells #[.slice none 0 0] 70)
 have hkx:=Qei (w1.alloc (.cells #[.int .u32 0,.slice none 0 0] 127)) (.cells #[.slice none 0 0] 70)
 rw[World.size_alloc]at hkx
 have RUN:=QA (Qsi A1 c1 out w1.heap.size (w1.heap.size+1) _ HB.out HL.out (Kd.C_below HC1.out hA) hkf hkx (Nat.lt_succ_self _))
 have HA:=QA hA
 clear hA hkf hkx
 go_upto_region 9 with(first
  |(go_at_call 111;refine(Qqd 0 u At _ ct t _ rfl HR3.out HT.out).mono ?_;rw[HC.out];rintro ee w4 ⟨rfl,hb4⟩;have HB4:=QA hb4;have d4:=(hb4.block _ (Qdr HF3.out.1)).trans HF3.out.1;have x4:=(hb4.block _ (Qdr HF3.out.2)).trans HF3.out.2;have HF4:=QA (And.intro d4 x4);have HR4:=QA (Kd.R_below HR3.out hb4);have HX4:=QA (Kd.R_below HX3.out hb4);clear hb4 d4 x4)
  |(go_at_call 137;refine RUN.out.mono ?_;rintro ee w3 ⟨er,i,rfl,hP⟩;unfold Qsh at hP;rw[HG.out]at hP;obtain⟨hb3,u3,tv,fv,hf3,hx3,rfl,rfl,hR3,hX3⟩:=hP;obtain⟨At,ct,htv⟩:=Kd.R_slice hR3;obtain⟨Ax,cx,hfv⟩:=Kd.R_slice hX3;subst htv;subst hfv;have HB3:=QA hb3;have HF3:=QA (And.intro hf3 hx3);have HR3:=QA hR3;have HX3:=QA hX3;obtain⟨d0,d1,_,_⟩:=Qsr hf3;clear hb3 hf3 hx3 hR3 hX3))
 have hpos:0<t.length:=by
  have hcc:=HC.out
  unfold Qqb at hcc
  apply Decidable.byContradiction
  intro h
  rw[if_pos (by omega)]at hcc
  cases hcc
 obtain⟨gt,cap,hf,_⟩:=Kd.R_form HR4.out hpos
 injection hf with hf1 hf2 hf3
 subst hf1
 clear hf2 hf3 hpos
 obtain⟨_,hlct,hCt⟩:=Kd.R_reads' HR4.out
 obtain⟨_,hlcx,hCx⟩:=Kd.R_reads' HX4.out
 have FE:=QA (Qpc ⟨gt,0,none⟩ ct t.length t w4.drew rfl (Kd.C_below hCt (Qcv (Below.refl _ _))) hlct HT.out)
 have HCX:=QA (Kd.C_below hCx (Qcv (Below.refl _ _)))
 have HLX:=QA hlcx
 have HLT:=QA hlct
 have j0:w4.drew.cell? ⟨w1.heap.size,1,none⟩=some (.slice (some ⟨gt,0,none⟩) t.length ct):=(Qsr HF4.out.1).2.1
 have j1:w4.drew.cell? ⟨w1.heap.size+1,0,none⟩=some (.slice Ax x.length cx):=(Qds HF4.out.2 0).trans rfl
 clear hCt hCx hlcx hlct
 have EQ:=QA (eq64_is x (Qoz t) (by have:=HLXX.out;omega))
 obtain⟨bq,hbq⟩:∃bq,bq=decide (x=Qoz t):=⟨_,rfl⟩
 rw[← hbq]at EQ
 have HBQ:=QA hbq
 clear hbq
 go_region_held3 (fun w'=>w'.cell? ⟨w1.heap.size,1,none⟩=some (.slice (some ⟨gt,0,none⟩) t.length ct)∧w'.cell? ⟨w1.heap.size+1,0,none⟩=some (.slice Ax x.length cx)) (first|exact⟨j0,j1⟩|exact⟨j2,j3⟩|exact⟨j4,j5⟩) (first
  |(go_at_call 115;refine FE.out.mono ?_;rintro ee w5 ⟨⟨v5,rfl,hR5⟩,hb5⟩;obtain⟨A5,c5,rfl⟩:=Kd.R_slice hR5;have k5:=(hb5.block _ (Qdr (show w4.drew.heap[w1.heap.size]? = _ from HF4.out.1))).trans HF4.out.1;have k6:=(hb5.block _ (Qdr (show w4.drew.heap[w1.heap.size+1]? = _ from HF4.out.2))).trans HF4.out.2;have HF5:=QA (And.intro k5 k6);have j2:=(Qsr k5).2.1;have j3:w5.cell? ⟨w1.heap.size+1,0,none⟩=some (.slice Ax x.length cx):=(Qds k6 0).trans rfl;have HB5:=QA hb5;have HC5:=QA (Kd.R_reads' hR5).2;clear hb5 hR5 k5 k6)
  |(go_at_call 184;refine(Qcm.calls _ Ax cx x A5 c5 (Qoz t) bq _ (Kd.C_below HCX.out HB5.out) HLX.out HC5.out.2 HC5.out.1 EQ.out).mono ?_;rintro ee w6 ⟨rfl,hd6⟩;have HB6:=QA hd6.below;have j4:=(Qsr (Qeh HF5.out.1 HB6.out)).2.1;have j5:w6.cell? ⟨w1.heap.size+1,0,none⟩=some (.slice Ax x.length cx):=(Qds (Qeh HF5.out.2 HB6.out) 0).trans rfl;clear hd6))
 have l3:w1.heap.size+1<w3.heap.size:=Qdr HF3.out.2
 have l4:w1.heap.size+1<w4.heap.size:=Qdr HF4.out.2
 have l5:w1.heap.size+1<w5.heap.size:=Qdr HF5.out.2
 have b36:=((HB3.out.trans (Qjn HB4.out (by omega))).trans (Qjn (Qcv (Below.refl w4.heap.size w4)) (by omega))).trans (Qjn HB5.out (show w1.heap.size≤w4.heap.size by omega))
 have b37:=b36.trans (Qjn HB6.out (by omega))
 obtain⟨hr3,hbb⟩:=Qss B0.out HB1.out HA.out b37
 obtain⟨q2,q3,g2,g3⟩:=Qsr hr3
 obtain⟨d6,d7,_,_⟩:=Qsr (Qeh HF5.out.1 HB6.out)
 clear b36 b37
 cases bq with
 | false =>
  go_wp2_with fail
  refine bodyPost_ret (Qej rfl _ _ w.heap.size 127 #[.int .u32 0,.slice none 0 0] (0,0) _ rfl (Qdp (Qdp hr3 0 _) 1 _) hft rfl qq_6) rfl ?_
  have hR:=HRR.out
  rw[if_neg (of_decide_eq_false HBQ.out.symm)]at hR
  subst hR
  exact⟨⟨_,_,_,_,_,rfl,(by decide:(4:Int)≠0)⟩,Qjm (Qjm hbb (Nat.le_refl _)) (Nat.le_refl _)⟩
 | true =>
  have HCT:=QA (Kd.R_set (Kd.R_set (Kd.R_below (Kd.R_below HR4.out ((Qcv (Below.refl w4.heap.size w4)).trans HB5.out)) HB6.out) hr3 (by decide) 0 (.int .u32 u)) (Qdp hr3 0 _) (by decide) 1 (.slice (some ⟨gt,0,none⟩) t.length ct))
  go_wp2_with fail
  refine bodyPost_ret (Qej rfl _ _ w.heap.size 127 #[.int .u32 u,.slice (some ⟨gt,0,none⟩) t.length ct] (0,0) _ rfl (Qdp (Qdp hr3 0 _) 1 _) hft rfl qq_6) rfl ?_
  have hR:=HRR.out
  rw[if_pos (of_decide_eq_true HBQ.out.symm)]at hR
  subst hR
  exact⟨⟨_,_,_,_,_,rfl,rfl,rfl,rfl,HLT.out,(Kd.R_reads' HCT.out).2.2⟩,Qjm (Qjm hbb (Nat.le_refl _)) (Nat.le_refl _)⟩
theorem Qsx(k:Nat)(A0:Option Addr)(c0:Nat)(l0 out:List Int)(e0:Int)(w:World)(hr0:Kd.C (Kd.int .u8) w A0 l0.length l0)(hc0:l0.length≤c0)(hO:Qch.f k l0=some (out,e0))(hb:e0=0→CodecP.Bytes out∧out.length≤100000000000) :
  Calls Tryz.prog 130 #[.slice A0 l0.length c0] w (Qsq (getF e0 out) w):=by
 unfold getF
 by_cases he:e0=0
 ·rw [if_pos he]
  subst he
  obtain⟨hb,hl⟩:=hb rfl
  cases hG:Qse out with
  | none=>exact Qsu k A0 c0 l0 out w hr0 hc0 hO hb hl hG
  | some p =>
   obtain⟨u,t,x⟩:=p
   have hlen:t.length≤1099511627776∧x.length≤1099511627776:=by
    unfold Qse at hG
    split at hG
    ·split at hG
     ·rename_i h2
      split at hG
      ·simp only[Option.some.injEq,Prod.mk.injEq]at hG
       obtain⟨_,rfl,rfl⟩:=hG
       rw[Qrl,Qrg]
       omega
      ·cases hG
     ·cases hG
    ·cases hG
   dsimp only
   by_cases hc:Qqb u t=0
   ·refine Qsw k A0 c0 l0 out w hr0 hc0 hO hb hl u t x hG hlen.1 hc hlen.2 _ ?_
    by_cases hx:x=Qoz t
    ·rw[if_pos hx,if_pos ⟨hc,hx⟩]
    ·rw[if_neg hx,if_neg (fun h=>hx h.2)]
   ·rw[if_neg (fun h=>hc h.1)]
    exact Qsv k A0 c0 l0 out w hr0 hc0 hO hb hl u t x hG hlen.1 _ rfl hc
 ·rw[if_neg he]
  exact Qst k A0 c0 l0 out e0 w hr0 hc0 hO he
instance decEnt:DecidableEq Ent:=fun a b=>if h:a.f0=b.f0∧a.f1=b.f1 then isTrue (by cases a;cases b;simp_all)else isFalse (fun e=>h (by rw[e];exact⟨rfl,rfl⟩))
theorem Qsy(x y:List Ent)(hxy:x.length=y.length)(hl:x.length≤1099511627776):∀(d i k:Nat),i+d=x.length→d+1≤k→Qcp.l0 k x y (x.length:Int) (i:Int)=some (decide (x.drop i=y.drop i))
 | 0,i,k+1,h,hk=>by
  unfold Qcp.l0
  rw[if_neg (by omega),List.drop_eq_nil_of_le (show x.length≤i by omega),List.drop_eq_nil_of_le (show y.length≤i by omega)]
  simp
 | d+1,i,k+1,h,hk=>by
  unfold Qcp.l0
  have hw:wrap64 ((i:Int)+1)=((i+1:Nat):Int):=by unfold wrap64;omega
  have hx:x.drop i=Qjf x (i:Int) :: x.drop (i+1):=by rw[rdE x i (show i<x.length by omega)];exact List.drop_eq_getElem_cons (by omega)
  have hy:y.drop i=Qjf y (i:Int) :: y.drop (i+1):=by rw[rdE y i (show i<y.length by omega)];exact List.drop_eq_getElem_cons (by omega)
  rw[if_pos (by omega),if_pos (by omega),if_pos (by omega),if_pos (by omega),hw,Qsy x y hxy hl d (i+1) k (by omega) (by omega),hx,hy]
  generalize Qjf x (i:Int)=a
  generalize Qjf y (i:Int)=b
  obtain⟨a0,a1⟩:=a
  obtain⟨b0,b1⟩:=b
  by_cases h0:a0=b0
  ·by_cases h1:a1=b1
   ·simp[h0,h1]
   ·simp[h0,h1]
  ·simp[h0]
theorem eqE_is(x y:List Ent)(hl:x.length≤1099511627776):Qcp.f (x.length+2) x y=some (decide (x=y)):=by
 unfold Qcp.f
 by_cases h:x.length=y.length
 ·rw[if_pos (by omega)]
  have:=Qsy x y h hl x.length 0 (x.length+2) (by omega) (by omega)
  simpa using this
 ·rw[if_neg (by omega)]
  have:¬x=y:=fun e=>h (by rw[e])
  simp[this]
theorem Qsz{e0:Int}{out:List Int}{u:Int}{t:List Ent}(h:getF e0 out=some (u,t)):t.length≤1048576:=by
 unfold getF at h
 split at h
 ·split at h
  ·split at h
   ·rename_i hc
    cases h
    have hc:=hc.1
    unfold Qqb at hc
    split at hc
    ·cases hc
    ·split at hc
     ·cases hc
     ·omega
   ·cases h
  ·cases h
 ·cases h
def Qta(u:Int)(l:List Rec)(ps:List Int)(r:Option (Int × List Ent)):Bool:=match r with
 | some (u',t)=>decide (u'=u) && decide (t=Qpj (Qqi l ps))
 | none=>false
theorem Qtb{W:World}{B:Nat}{a b:Value}{u:Int}{s:Bool}(h:W.heap[B]? = some (.cells #[a,b,.int .u32 u,.bool s] 76 (0,0))) :
  W.cell? ⟨B,0,none⟩=some a∧W.cell? ⟨B,1,none⟩=some b∧W.cell? ⟨B,2,none⟩=some (.int .u32 u)∧W.cell? ⟨B,3,none⟩=some (.bool s) :=
 ⟨(Qds h 0).trans rfl,(Qds h 1).trans rfl,(Qds h 2).trans rfl,(Qds h 3).trans rfl⟩
theorem Qtc(k:Nat)(Ar Aa Ac:Option Addr)(cr ca cc:Nat)(l:List Rec)(ps lc out:List Int)(u e0:Int)(s:Bool)(w:World)(hr:Kd.C k39 w Ar l.length l)(ha:Kd.C (Kd.int .u32) w Aa ps.length ps)(hlen:ps.length=l.length)(hl:l.length≤1000000000)
  (hk:∀r∈l,r.f2.size≤140737488355328) (hnd:(Qqi l ps).Nodup) (hcc:Kd.C (Kd.int .u8) w Ac lc.length lc) (hlc:lc.length≤cc) (hO:Qch.f k lc=some (out,e0)) (hb:e0=0→CodecP.Bytes out∧out.length≤100000000000) :
  Calls Tryz.prog 82 #[.agg #[.slice Ar l.length cr,.slice Aa ps.length ca,.int .u32 u,.bool s],.slice Ac lc.length cc] w fun e w'=>e=.returned (.bool (Qta u l ps (getF e0 out)))∧Below w.heap.size w w':=by
 have hu76:=Tryz.underlying76
 have hft:=Tryz.underlying127
 have hB1:Below w.heap.size w (w.alloc (.cells #[.slice Ar l.length cr,.slice Aa ps.length ca,.int .u32 u,.bool s] 76)):=Qcu (Below.refl _ _) _
 have HKB:=QA (Qei w (.cells #[.slice Ar l.length cr,.slice Aa ps.length ca,.int .u32 u,.bool s] 76))
 have HCR:=QA (Kd.C_below hr hB1)
 have HCA:=QA (Kd.C_below ha hB1)
 have FG:=QA (Qsx k Ac cc lc out e0 _ (Kd.C_below hcc hB1) hlc hO hb)
 have HB1:=QA hB1
 have HK:=QA hk
 have HND:=QA hnd
 have HLEN:=QA hlen
 obtain⟨R,hR⟩:∃R,R=getF e0 out:=⟨_,rfl⟩
 rw[← hR]at FG ⊢
 have HTL:Aside0 (∀u t,R=some (u,t)→t.length≤1048576):=⟨fun u t h=>Qsz (hR.symm.trans h)⟩
 clear hr ha hB1 hk hnd hlen hcc hlc hO hb hR
 cases R with
 | none =>
  show Calls _ _ _ _ fun e w'=>e=.returned (.bool false)∧Below w.heap.size w w'
  go_enter Tryz.func82,Tryz.ntmps82
  go_wp2_with (go_at_call 130;refine FG.out.mono ?_;rintro ee w2 ⟨⟨u',A',n',c',er,rfl,her⟩,hb2⟩;have h0:(er == 0)=false:=beq_eq_false_iff_ne.2 her;have HB2:=QA hb2;clear her hb2)
  go_region
  go_wp2
  go_ret
  exact⟨rfl,Qcv ((HB1.out.trans (Qjn HB2.out HB1.out.size)).trans (Qjn (Qcu (Below.refl _ _) _) (Nat.le_trans HB1.out.size HB2.out.size)))⟩
 | some p =>
  obtain⟨u',t⟩:=p
  by_cases hu:u'=u
  ·subst hu
   have hee:(u' == u')=true:=beq_self_eq_true u'
   obtain⟨bq,hbq⟩:∃bq,bq=decide (t=Qpj (Qqi l ps)):=⟨_,rfl⟩
   have hcl:Qta u' l ps (some (u',t))=bq:=by rw[hbq];simp[Qta]
   rw[hcl]
   have HBQ:=QA hbq
   clear hbq hcl
   go_enter Tryz.func82,Tryz.ntmps82
   go_wp2_with (go_at_call 130;refine FG.out.mono ?_;rintro ee w2 ⟨⟨_,A',n',c',er,rfl,rfl,rfl,rfl,hnc,hC2⟩,hb2⟩;have HB2:=QA hb2;have HC2:=QA hC2;have HNC:=QA hnc;clear hb2 hC2 hnc)
   have kf:=Qei w2 (.cells #[.int .u32 u',.slice A' t.length c'] 127)
   have kb:=Qee (Qeh HKB.out HB2.out) (.cells #[.int .u32 u',.slice A' t.length c'] 127)
   obtain⟨W3,hW3⟩:∃W3,W3=w2.alloc (.cells #[.int .u32 u',.slice A' t.length c'] 127):=⟨_,rfl⟩
   have hb3:Below w2.heap.size w2 W3:=by rw[hW3];exact Qcu (Below.refl _ _) _
   have hBB:Below w.heap.size w W3:=(HB1.out.trans (Qjn HB2.out HB1.out.size)).trans (Qjn hb3 (Nat.le_trans HB1.out.size HB2.out.size))
   rw[← hW3]at kf kb ⊢
   have kfd:W3.drew.heap[w2.heap.size]? = some (.cells #[.int .u32 u',.slice A' t.length c'] 127 (0,0)):=kf
   have kbd:W3.drew.heap[w.heap.size]? = some (.cells #[.slice Ar l.length cr,.slice Aa ps.length ca,.int .u32 u',.bool s] 76 (0,0)):=kb
   obtain⟨f0,f1,_,_⟩:=Qsr kfd
   obtain⟨b0,b1,b2,b3⟩:=Qtb kbd
   have b2d:Below w2.heap.size w2 W3.drew:=Qcv hb3
   have HBB:=QA hBB
   have HCT:=QA (Kd.C_below HC2.out b2d)
   have EN:=QA (Qql Ar Aa cr ca l ps u' s W3.drew (Kd.C_below HCR.out (HB2.out.trans (Qjn b2d HB2.out.size))) (Kd.C_below HCA.out (HB2.out.trans (Qjn b2d HB2.out.size))) HLEN.out hl HK.out HND.out)
   have EQ:=QA (eqE_is t (Qpj (Qqi l ps)) (by have:=HTL.out _ _ rfl;omega))
   rw[← HBQ.out]at EQ
   have HKF:=QA kfd
   have HKV:=QA kbd
   clear hW3 kf kb hBB kfd kbd b2d hb3
   go_region_held3 (fun w'=>w'.cell? ⟨w2.heap.size,0,none⟩=some (.int .u32 u')∧w'.cell? ⟨w2.heap.size,1,none⟩=some (.slice A' t.length c')∧w'.cell? ⟨w.heap.size,0,none⟩=some (.slice Ar l.length cr)∧w'.cell? ⟨w.heap.size,1,none⟩=some (.slice Aa ps.length ca)∧w'.cell? ⟨w.heap.size,2,none⟩=some (.int .u32 u')∧w'.cell? ⟨w.heap.size,3,none⟩=some (.bool s)) (first|exact⟨f0,f1,b0,b1,b2,b3⟩|exact⟨g0,g1,d0,d1,d2,d3⟩|exact⟨p0,p1,q0,q1,q2,q3⟩) (first
    |(go_at_call 132;refine EN.out.mono ?_;rintro ee w5 ⟨v5,rfl,hR5,hb5⟩;obtain⟨A5,c5,hv5⟩:=Kd.R_slice hR5;subst hv5;have HB5:=QA hb5;have HC5:=QA (Kd.R_reads' hR5).2;have HKF5:=QA (Qeh HKF.out hb5);have HKV5:=QA (Qeh HKV.out hb5);obtain⟨g0,g1,_,_⟩:=Qsr HKF5.out;obtain⟨d0,d1,d2,d3⟩:=Qtb HKV5.out;clear hb5 hR5)
    |(go_at_call 131;refine(Qcp.calls _ A' c' t A5 c5 (Qpj (Qqi l ps)) bq _ (Kd.C_below HCT.out HB5.out) HNC.out HC5.out.2 HC5.out.1 EQ.out).mono ?_;rintro ee w6 ⟨rfl,hd6⟩;have HB6:=QA hd6.below;obtain⟨p0,p1,_,_⟩:=Qsr (Qeh HKF5.out HB6.out);obtain⟨q0,q1,q2,q3⟩:=Qtb (Qeh HKV5.out HB6.out);clear hd6))
   all_goals
    go_wp2
    go_ret
    have z1:=HBB.out.size
    have z2:=HB5.out.size
    exact⟨rfl,((Qcv HBB.out).trans (Qjn HB5.out z1)).trans (Qjn HB6.out (Nat.le_trans z1 z2))⟩
  ·have hne:(u' == u)=false:=beq_eq_false_iff_ne.2 hu
   have hcl:Qta u l ps (some (u',t))=false:=by simp[Qta,hu]
   rw[hcl]
   clear hcl
   go_enter Tryz.func82,Tryz.ntmps82
   go_wp2_with (go_at_call 130;refine FG.out.mono ?_;rintro ee w2 ⟨⟨_,A',n',c',er,rfl,rfl,rfl,rfl,hnc,hC2⟩,hb2⟩;have HB2:=QA hb2;have HC2:=QA hC2;have HNC:=QA hnc;clear hb2 hC2 hnc)
   have kf:=Qei w2 (.cells #[.int .u32 u',.slice A' t.length c'] 127)
   have kb:=Qee (Qeh HKB.out HB2.out) (.cells #[.int .u32 u',.slice A' t.length c'] 127)
   obtain⟨f0,f1,_,_⟩:=Qsr kf
   obtain⟨b0,b1,b2,b3⟩:=Qtb kb
   obtain⟨W3,hW3⟩:∃W3,W3=w2.alloc (.cells #[.int .u32 u',.slice A' t.length c'] 127):=⟨_,rfl⟩
   have hBB:Below w.heap.size w W3:=by rw[hW3];exact(HB1.out.trans (Qjn HB2.out HB1.out.size)).trans (Qjn (Qcu (Below.refl _ _) _) (Nat.le_trans HB1.out.size HB2.out.size))
   rw[← hW3]at f0 f1 b0 b1 b2 b3 ⊢
   have HBB:=QA hBB
   clear hW3 kf kb hBB
   go_region
   go_wp2
   go_ret
   exact⟨rfl,Qcv HBB.out⟩
end Go.Proofs.YtnnofopfbeklbaaGreat.C
end
