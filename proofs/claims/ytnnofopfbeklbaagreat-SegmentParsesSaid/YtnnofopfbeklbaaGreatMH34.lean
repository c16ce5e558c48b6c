/- Texts of this claim's author and of the print of its functions, merged by merge.py. -/
import Derived.Test.YtnnofopfbeklbaaGreatMH02
import Derived.Test.YtnnofopfbeklbaaGreatMH21
import Derived.Test.YtnnofopfbeklbaaGreatMH10
import Derived.Test.YtnnofopfbeklbaaGreatMH19
import Derived.Test.YtnnofopfbeklbaaGreatMH23
import Derived.Test.YtnnofopfbeklbaaGreatMH28
import Derived.Test.YtnnofopfbeklbaaGreatMH11
import Derived.Test.YtnnofopfbeklbaaGreatMH30
import Derived.Test.YtnnofopfbeklbaaGreatMH26
import Derived.Test.YtnnofopfbeklbaaGreatMH33
import Derived.Test.YtnnofopfbeklbaaGreatMH20
set_option linter.unusedVariables false
set_option linter.unusedSimpArgs false
set_option maxHeartbeats 8000000
set_option maxRecDepth 100000
section
namespace Go.Proofs.YtnnofopfbeklbaaGreat.C
open Go.RowKit Go.Proofs.YtnnofopfbeklbaaGreatW.PrintWords Go.Proofs.YtnnofopfbeklbaaGreatW.PrintLast Go.Proofs.YtnnofopfbeklbaaGreatW.PrintMore
attribute [local go_sem high] eqA39
theorem sp_long(a0 n a3:Int)(Ab:Option Addr)(cb:Nat)(b:List Int)(w:World)(hl:600<b.length) :
  Calls Tryz.prog 8 #[.int .u8 a0,.int .u32 n,.slice Ab b.length cb,.int .u8 a3] w fun ee w'=>ee=.returned (.bool true)∧Below w.heap.size w w':=by
 have hd1:decide ((600:Int)<(b.length:Int))=true:=decide_eq_true (by omega)
 go_enter Tryz.func8,Tryz.ntmps8
 go_wp2_with (first
  |(go_at_call 15;have gate:=HBA.out;clear gate;refine(Qaq.calls true _ rfl).mono ?_;rintro ee wb ⟨rfl,hbb⟩)
  |(go_at_call 15;refine(Qaq.calls true _ rfl).mono ?_;rintro ee wa ⟨rfl,hba⟩;have HBA:=QA hba))
 go_ret
 exact⟨rfl,HBA.out.trans (Qjn hbb HBA.out.size)⟩
theorem sp_arg(k:Nat)(a0 e s n a3:Int)(Ab:Option Addr)(cb:Nat)(b:List Int)(w:World)(hcs:Kd.C (Kd.int .u8) w Ab b.length b)(hcb:b.length≤cb)(hl:b.length≤600)(hsm:Qas.f a0=some (e,s))(he:e=12∨e=13)(h3:0≤a3∧a3<256)(hn:0≤n∧n<4294967296)
  (t:List Int) (ht:t=b++List.replicate (2^e.toNat-(a3/250).toNat-b.length) 255)
  (hp:Qul k e s n t none 1) (hm:Qbq.f e s n=some false) :
  Calls Tryz.prog 8 #[.int .u8 a0,.int .u32 n,.slice Ab b.length cb,.int .u8 a3] w fun ee w'=>ee=.returned (.bool true)∧Below w.heap.size w w':=by
 have hu:=Tryz.underlying27
 have hu76:=Tryz.underlying76
 have hd1:decide ((600:Int)<(b.length:Int))=false:=decide_eq_false (by omega)
 obtain⟨q,hq⟩:∃q,q=a3/250:=⟨_,rfl⟩
 have hq0:a3.tdiv 250=q:=by rw[hq];exact Int.tdiv_eq_ediv_of_nonneg h3.1
 have hqr:0≤q∧q≤1:=by omega
 have hq1:IntKind.u8.wrap q=q:=IntWalk.u8_in _ (by omega)
 have hq2:IntKind.i64.wrap q=q:=IntWalk.i64_in _ (by omega)
 have HCS:=QA hcs
 have HCB:=QA hcb
 have HSM:=QA hsm
 rw[← hq]at ht
 have HT:=QA ht
 have HQR:=QA hqr
 clear hcs hcb hsm ht hq hqr h3
 have HHP:=QA hp
 have HHM:=QA hm
 clear hp hm
 rcases he with rfl|rfl
 ·have hq3:IntKind.i64.wrap (4096-q)=4096-q:=IntWalk.i64_in _ (by have:=HQR.out;omega)
  obtain⟨m,hm⟩:∃m,m=2^(12:Int).toNat-q.toNat-b.length:=⟨_,rfl⟩
  have htl:t.length=b.length+m:=by rw[HT.out,List.length_append,List.length_replicate,hm]
  have hmm:(b.length:Int)+(m:Int)=4096-q:=by
   have h2:(2:Nat)^(12:Int).toNat=4096:=by decide
   rw[h2]at hm
   have:=HQR.out
   omega
  rw[← hm]at HT
  have HTL:=QA htl
  have HMM:=QA hmm
  clear hm htl hmm
  go_enter Tryz.func8,Tryz.ntmps8
  go_wp2_with (first
   |(at_builtin;go_loud (refine Kd.R_append_rows (Kd.int .u8) (Rr:=fun x cs=>cs=[.int .u8 x]) (w0:=w) w.heap.size rfl (.tmp 31) (.tmp 32) 52 5 (.int .u8 0) 1 rfl Tryz.underlying52 Qiu rfl (by decide) (by omega) _ [] b Ab b.length cb (fun _=>True) (fun _=>False) rfl rfl ?bO ?bC (fun _ _ h=>h) (fun _ hk=>hk.elim) (fun _ _=>trivial) ?bB ?bS ?bL ?_;(case bO=>(have z:=R8.lit (wb.alloc (.cells #[.int .u8 12,.int .u32 s] 27)) w.heap.size qq_20 [] (by simp));rw[World.size_alloc]at z;exact z);(case bC=>exact Kd.C_below HCS.out (Qcu (Qcu HBB.out _) _));(case bB=>exact Qcu (Qcu HBB.out _) _);(case bS=>rw[World.size_alloc,World.size_alloc];have:=HBB.out.size;omega);(case bL=>simp;omega);intro v1 w1 HR1 hb1 hg1 hat1;obtain⟨A1,d1,hv1⟩:=Kd.R_slice HR1;subst hv1;have KC1:=QA (Qdu (Qee (Qei wb (.cells #[.int .u8 12,.int .u32 s] 27)) (.cells #[] 5)) hg1 (fun e=>by have e1:wb.heap.size=wb.heap.size+1:=Option.some.inj e;omega));have HR1':=QA HR1;have HB1:=QA hb1;clear HR1 hb1 hg1 hat1))
   |(go_at_call 17;refine(Qas.calls a0 _ s _ HSM.out).mono ?_;rintro ee wb ⟨rfl,hbb⟩;have HBB:=QA (HBA.out.trans (Qjn hbb HBA.out.size));clear hbb)
   |(go_at_call 15;refine(Qaq.calls true _ rfl).mono ?_;rintro ee wa ⟨rfl,hba⟩;have HBA:=QA hba;clear hba))
  have hcw:w.heap.size≤wb.heap.size:=HBB.out.size
  obtain⟨gc,hgc⟩:∃gc,gc=wb.heap.size:=⟨_,rfl⟩
  rw[← hgc]at KC1 hcw ⊢
  clear hgc
  go_loopw [10] (fun v10 wr=>∃(j:Nat) (s':List Int) (A:Option Addr) (c:Nat),v10=.slice A s'.length c∧j≤m∧Aside0 (s'=b++List.replicate j 255)∧Aside0 (R8 wr w.heap.size (.slice A s'.length c) s')∧Aside0 (wr.heap[gc]? = some (.cells #[.int .u8 12,.int .u32 s] 27 (0,0)))∧Aside0 (Below w.heap.size w wr))
   (fun v10 _=>4096-lenV v10)
  case atStart=>exact⟨0,_,A1,d1,rfl,Nat.zero_le _,⟨by simp⟩,HR1',KC1,HB1⟩
  case round =>
   clear HR1' KC1 HB1
   obtain⟨j,s',A,c,rfl,hj,HSS,HR,KC,HB⟩:=hrel
   obtain⟨c0,c1⟩:=box2 KC.out
   have hsl:s'.length=b.length+j:=by rw[HSS.out,List.length_append,List.length_replicate]
   by_cases hlt:j<m
   ·have hd2:decide ((s'.length:Int)<4096-q)=true:=decide_eq_true qq_21
    have HSL:=QA hsl
    clear hsl
    go_wp2_with (at_builtin;refine Kd.R_append (Kd.int .u8) (w0:=w) w.heap.size rfl (.tmp 44) (.tmp 45) 52 5 (.int .u8 0) 1 rfl Tryz.underlying52 Qiu rfl (by decide) (by omega) (.slice A s'.length c) s' 255 [.int .u8 255] (fun _=>True) (fun _=>False) rfl ?ax ?aP (fun _ hk=>hk.elim) ?aF ?aO ?aB ?aS ?aL ?_;(case ax=>rfl);(case aP=>rfl);(case aF=>exact fun _ _=>trivial);(case aO=>exact HR.out);(case aB=>exact HB.out);(case aS=>exact HB.out.size);(case aL=>have:=HSL.out;have:=HMM.out;have:=HQR.out;omega);intro v1 w3 HR3 hb3 hg3 hat3;obtain⟨A3,c3,hv3⟩:=Kd.R_slice HR3;subst hv3;have HR3':=QA HR3;have KC3:=QA (Qdu KC.out hg3 (Kd.R_ne HR.out KC.out (by decide)));have HB3:=QA hb3;clear HR3 hb3 hg3 hat3)
    go_roundw
    case rel=>exact⟨j+1,_,A3,c3,by rw[List.length_append];rfl,hlt,⟨by rw[HSS.out,List.append_assoc,List.replicate_succ']⟩,HR3',KC3,HB3⟩
    case measure=>have h1:=HSL.out;have h2:=HMM.out;have h3:=HQR.out;simp[lenV];omega
   ·obtain rfl:j=m:=by omega
    have hd2:decide ((s'.length:Int)<4096-q)=false:=decide_eq_false qq_21
    have hst:s'=t:=by rw[HSS.out,HT.out]
    subst hst
    clear hsl hlt
    have HCS':=QA (Kd.R_reads' HR.out).2
    have hw64:IntKind.u64.wrap n=n:=IntWalk.u64_in _ (by omega)
    go_wp2_with (first
     |(go_at_call 19;refine(Qbq.calls _ s n false _ HHM.out).mono ?_;rintro ee w5 ⟨rfl,hb5⟩;have HB5:=QA hb5;obtain⟨y0,y1,y2,y3⟩:=Qtb (Qeh kv hb5);clear hb5)
     |(go_at_call 40;refine(Qum k _ s n 1 A c s' none _ HCS'.out.2 HCS'.out.1 HHP.out).mono ?_;rintro ee w4 ⟨rfl,hb4⟩;have HB4:=QA (HB.out.trans (Qjn hb4 HB.out.size));have KC4:=QA (Qeh KC.out hb4);have kv:=Qei w4 (.cells #[.slice none 0 0,.slice none 0 0,.int .u32 0,.bool false] 76);have kc5:=Qee KC4.out (.cells #[.slice none 0 0,.slice none 0 0,.int .u32 0,.bool false] 76);obtain⟨z0,z1,z2,z3⟩:=Qtb kv;obtain⟨c2,c3⟩:=box2 kc5;clear c0 c1 hb4;obtain⟨c0,c1⟩:=box2 KC4.out))
    go_ret
    exact⟨rfl,(HB4.out.trans (Qjn (Qcu (Below.refl _ _) _) HB4.out.size)).trans (Qjn HB5.out (Nat.le_trans HB4.out.size (by rw[World.size_alloc];omega)))⟩
 ·have hq3:IntKind.i64.wrap (8192-q)=8192-q:=IntWalk.i64_in _ (by have:=HQR.out;omega)
  obtain⟨m,hm⟩:∃m,m=2^(13:Int).toNat-q.toNat-b.length:=⟨_,rfl⟩
  have htl:t.length=b.length+m:=by rw[HT.out,List.length_append,List.length_replicate,hm]
  have hmm:(b.length:Int)+(m:Int)=8192-q:=by
   have h2:(2:Nat)^(13:Int).toNat=8192:=by decide
   rw[h2]at hm
   have:=HQR.out
   omega
  rw[← hm]at HT
  have HTL:=QA htl
  have HMM:=QA hmm
  clear hm htl hmm
  go_enter Tryz.func8,Tryz.ntmps8
  go_wp2_with (first
   |(at_builtin;go_loud (refine Kd.R_append_rows (Kd.int .u8) (Rr:=fun x cs=>cs=[.int .u8 x]) (w0:=w) w.heap.size rfl (.tmp 31) (.tmp 32) 52 5 (.int .u8 0) 1 rfl Tryz.underlying52 Qiu rfl (by decide) (by omega) _ [] b Ab b.length cb (fun _=>True) (fun _=>False) rfl rfl ?bO ?bC (fun _ _ h=>h) (fun _ hk=>hk.elim) (fun _ _=>trivial) ?bB ?bS ?bL ?_;(case bO=>(have z:=R8.lit (wb.alloc (.cells #[.int .u8 13,.int .u32 s] 27)) w.heap.size qq_20 [] (by simp));rw[World.size_alloc]at z;exact z);(case bC=>exact Kd.C_below HCS.out (Qcu (Qcu HBB.out _) _));(case bB=>exact Qcu (Qcu HBB.out _) _);(case bS=>rw[World.size_alloc,World.size_alloc];have:=HBB.out.size;omega);(case bL=>simp;omega);intro v1 w1 HR1 hb1 hg1 hat1;obtain⟨A1,d1,hv1⟩:=Kd.R_slice HR1;subst hv1;have KC1:=QA (Qdu (Qee (Qei wb (.cells #[.int .u8 13,.int .u32 s] 27)) (.cells #[] 5)) hg1 (fun e=>by have e1:wb.heap.size=wb.heap.size+1:=Option.some.inj e;omega));have HR1':=QA HR1;have HB1:=QA hb1;clear HR1 hb1 hg1 hat1))
   |(go_at_call 17;refine(Qas.calls a0 _ s _ HSM.out).mono ?_;rintro ee wb ⟨rfl,hbb⟩;have HBB:=QA (HBA.out.trans (Qjn hbb HBA.out.size));clear hbb)
   |(go_at_call 15;refine(Qaq.calls true _ rfl).mono ?_;rintro ee wa ⟨rfl,hba⟩;have HBA:=QA hba;clear hba))
  have hcw:w.heap.size≤wb.heap.size:=HBB.out.size
  obtain⟨gc,hgc⟩:∃gc,gc=wb.heap.size:=⟨_,rfl⟩
  rw[← hgc]at KC1 hcw ⊢
  clear hgc
  go_loopw [10] (fun v10 wr=>∃(j:Nat) (s':List Int) (A:Option Addr) (c:Nat),v10=.slice A s'.length c∧j≤m∧Aside0 (s'=b++List.replicate j 255)∧Aside0 (R8 wr w.heap.size (.slice A s'.length c) s')∧Aside0 (wr.heap[gc]? = some (.cells #[.int .u8 13,.int .u32 s] 27 (0,0)))∧Aside0 (Below w.heap.size w wr))
   (fun v10 _=>8192-lenV v10)
  case atStart=>exact⟨0,_,A1,d1,rfl,Nat.zero_le _,⟨by simp⟩,HR1',KC1,HB1⟩
  case round =>
   clear HR1' KC1 HB1
   obtain⟨j,s',A,c,rfl,hj,HSS,HR,KC,HB⟩:=hrel
   obtain⟨c0,c1⟩:=box2 KC.out
   have hsl:s'.length=b.length+j:=by rw[HSS.out,List.length_append,List.length_replicate]
   by_cases hlt:j<m
   ·have hd2:decide ((s'.length:Int)<8192-q)=true:=decide_eq_true qq_21
    have HSL:=QA hsl
    clear hsl
    go_wp2_with (at_builtin;refine Kd.R_append (Kd.int .u8) (w0:=w) w.heap.size rfl (.tmp 44) (.tmp 45) 52 5 (.int .u8 0) 1 rfl Tryz.underlying52 Qiu rfl (by decide) (by omega) (.slice A s'.length c) s' 255 [.int .u8 255] (fun _=>True) (fun _=>False) rfl ?ax ?aP (fun _ hk=>hk.elim) ?aF ?aO ?aB ?aS ?aL ?_;(case ax=>rfl);(case aP=>rfl);(case aF=>exact fun _ _=>trivial);(case aO=>exact HR.out);(case aB=>exact HB.out);(case aS=>exact HB.out.size);(case aL=>have:=HSL.out;have:=HMM.out;have:=HQR.out;omega);intro v1 w3 HR3 hb3 hg3 hat3;obtain⟨A3,c3,hv3⟩:=Kd.R_slice HR3;subst hv3;have HR3':=QA HR3;have KC3:=QA (Qdu KC.out hg3 (Kd.R_ne HR.out KC.out (by decide)));have HB3:=QA hb3;clear HR3 hb3 hg3 hat3)
    go_roundw
    case rel=>exact⟨j+1,_,A3,c3,by rw[List.length_append];rfl,hlt,⟨by rw[HSS.out,List.append_assoc,List.replicate_succ']⟩,HR3',KC3,HB3⟩
    case measure=>have h1:=HSL.out;have h2:=HMM.out;have h3:=HQR.out;simp[lenV];omega
   ·obtain rfl:j=m:=by omega
    have hd2:decide ((s'.length:Int)<8192-q)=false:=decide_eq_false qq_21
    have hst:s'=t:=by rw[HSS.out,HT.out]
    subst hst
    clear hsl hlt
    have HCS':=QA (Kd.R_reads' HR.out).2
    have hw64:IntKind.u64.wrap n=n:=IntWalk.u64_in _ (by omega)
    go_wp2_with (first
     |(go_at_call 19;refine(Qbq.calls _ s n false _ HHM.out).mono ?_;rintro ee w5 ⟨rfl,hb5⟩;have HB5:=QA hb5;obtain⟨y0,y1,y2,y3⟩:=Qtb (Qeh kv hb5);clear hb5)
     |(go_at_call 40;refine(Qum k _ s n 1 A c s' none _ HCS'.out.2 HCS'.out.1 HHP.out).mono ?_;rintro ee w4 ⟨rfl,hb4⟩;have HB4:=QA (HB.out.trans (Qjn hb4 HB.out.size));have KC4:=QA (Qeh KC.out hb4);have kv:=Qei w4 (.cells #[.slice none 0 0,.slice none 0 0,.int .u32 0,.bool false] 76);have kc5:=Qee KC4.out (.cells #[.slice none 0 0,.slice none 0 0,.int .u32 0,.bool false] 76);obtain⟨z0,z1,z2,z3⟩:=Qtb kv;obtain⟨c2,c3⟩:=box2 kc5;clear c0 c1 hb4;obtain⟨c0,c1⟩:=box2 KC4.out))
    go_ret
    exact⟨rfl,(HB4.out.trans (Qjn (Qcu (Below.refl _ _) _) HB4.out.size)).trans (Qjn HB5.out (Nat.le_trans HB4.out.size (by rw[World.size_alloc];omega)))⟩
theorem sp_form(k:Nat)(a0 e s n a3:Int)(Ab:Option Addr)(cb:Nat)(b:List Int)(w:World)(hcs:Kd.C (Kd.int .u8) w Ab b.length b)(hcb:b.length≤cb)(hl:b.length≤600)(hsm:Qas.f a0=some (e,s))(he:e=12∨e=13)(h3:0≤a3∧a3<256)(hn:0≤n∧n<4294967296)
  (t:List Int) (ht:t=b++List.replicate (2^e.toNat-(a3/250).toNat-b.length) 255)
  (hp:Qul k e s n t none 4) (hm:Qbq.f e s n=some true) (l0:List Rec) (se:Bool) (hr:Qcd.f k e s n (strOfNums t)=some (l0,se,false)) :
  Calls Tryz.prog 8 #[.int .u8 a0,.int .u32 n,.slice Ab b.length cb,.int .u8 a3] w fun ee w'=>ee=.returned (.bool true)∧Below w.heap.size w w':=by
 have hu:=Tryz.underlying27
 have hu76:=Tryz.underlying76
 have hd1:decide ((600:Int)<(b.length:Int))=false:=decide_eq_false (by omega)
 obtain⟨q,hq⟩:∃q,q=a3/250:=⟨_,rfl⟩
 have hq0:a3.tdiv 250=q:=by rw[hq];exact Int.tdiv_eq_ediv_of_nonneg h3.1
 have hqr:0≤q∧q≤1:=by omega
 have hq1:IntKind.u8.wrap q=q:=IntWalk.u8_in _ (by omega)
 have hq2:IntKind.i64.wrap q=q:=IntWalk.i64_in _ (by omega)
 have HCS:=QA hcs
 have HCB:=QA hcb
 have HSM:=QA hsm
 rw[← hq]at ht
 have HT:=QA ht
 have HQR:=QA hqr
 clear hcs hcb hsm ht hq hqr h3
 have HHP:=QA hp
 have HHM:=QA hm
 have HHR:=QA hr
 clear hp hm hr
 rcases he with rfl|rfl
 ·have hq3:IntKind.i64.wrap (4096-q)=4096-q:=IntWalk.i64_in _ (by have:=HQR.out;omega)
  obtain⟨m,hm⟩:∃m,m=2^(12:Int).toNat-q.toNat-b.length:=⟨_,rfl⟩
  have htl:t.length=b.length+m:=by rw[HT.out,List.length_append,List.length_replicate,hm]
  have hmm:(b.length:Int)+(m:Int)=4096-q:=by
   have h2:(2:Nat)^(12:Int).toNat=4096:=by decide
   rw[h2]at hm
   have:=HQR.out
   omega
  rw[← hm]at HT
  have HTL:=QA htl
  have HMM:=QA hmm
  clear hm htl hmm
  go_enter Tryz.func8,Tryz.ntmps8
  go_wp2_with (first
   |(at_builtin;go_loud (refine Kd.R_append_rows (Kd.int .u8) (Rr:=fun x cs=>cs=[.int .u8 x]) (w0:=w) w.heap.size rfl (.tmp 31) (.tmp 32) 52 5 (.int .u8 0) 1 rfl Tryz.underlying52 Qiu rfl (by decide) (by omega) _ [] b Ab b.length cb (fun _=>True) (fun _=>False) rfl rfl ?bO ?bC (fun _ _ h=>h) (fun _ hk=>hk.elim) (fun _ _=>trivial) ?bB ?bS ?bL ?_;(case bO=>(have z:=R8.lit (wb.alloc (.cells #[.int .u8 12,.int .u32 s] 27)) w.heap.size qq_20 [] (by simp));rw[World.size_alloc]at z;exact z);(case bC=>exact Kd.C_below HCS.out (Qcu (Qcu HBB.out _) _));(case bB=>exact Qcu (Qcu HBB.out _) _);(case bS=>rw[World.size_alloc,World.size_alloc];have:=HBB.out.size;omega);(case bL=>simp;omega);intro v1 w1 HR1 hb1 hg1 hat1;obtain⟨A1,d1,hv1⟩:=Kd.R_slice HR1;subst hv1;have KC1:=QA (Qdu (Qee (Qei wb (.cells #[.int .u8 12,.int .u32 s] 27)) (.cells #[] 5)) hg1 (fun e=>by have e1:wb.heap.size=wb.heap.size+1:=Option.some.inj e;omega));have HR1':=QA HR1;have HB1:=QA hb1;clear HR1 hb1 hg1 hat1))
   |(go_at_call 17;refine(Qas.calls a0 _ s _ HSM.out).mono ?_;rintro ee wb ⟨rfl,hbb⟩;have HBB:=QA (HBA.out.trans (Qjn hbb HBA.out.size));clear hbb)
   |(go_at_call 15;refine(Qaq.calls true _ rfl).mono ?_;rintro ee wa ⟨rfl,hba⟩;have HBA:=QA hba;clear hba))
  have hcw:w.heap.size≤wb.heap.size:=HBB.out.size
  obtain⟨gc,hgc⟩:∃gc,gc=wb.heap.size:=⟨_,rfl⟩
  rw[← hgc]at KC1 hcw ⊢
  clear hgc
  go_loopw [10] (fun v10 wr=>∃(j:Nat) (s':List Int) (A:Option Addr) (c:Nat),v10=.slice A s'.length c∧j≤m∧Aside0 (s'=b++List.replicate j 255)∧Aside0 (R8 wr w.heap.size (.slice A s'.length c) s')∧Aside0 (wr.heap[gc]? = some (.cells #[.int .u8 12,.int .u32 s] 27 (0,0)))∧Aside0 (Below w.heap.size w wr))
   (fun v10 _=>4096-lenV v10)
  case atStart=>exact⟨0,_,A1,d1,rfl,Nat.zero_le _,⟨by simp⟩,HR1',KC1,HB1⟩
  case round =>
   clear HR1' KC1 HB1
   obtain⟨j,s',A,c,rfl,hj,HSS,HR,KC,HB⟩:=hrel
   obtain⟨c0,c1⟩:=box2 KC.out
   have hsl:s'.length=b.length+j:=by rw[HSS.out,List.length_append,List.length_replicate]
   by_cases hlt:j<m
   ·have hd2:decide ((s'.length:Int)<4096-q)=true:=decide_eq_true qq_21
    have HSL:=QA hsl
    clear hsl
    go_wp2_with (at_builtin;refine Kd.R_append (Kd.int .u8) (w0:=w) w.heap.size rfl (.tmp 44) (.tmp 45) 52 5 (.int .u8 0) 1 rfl Tryz.underlying52 Qiu rfl (by decide) (by omega) (.slice A s'.length c) s' 255 [.int .u8 255] (fun _=>True) (fun _=>False) rfl ?ax ?aP (fun _ hk=>hk.elim) ?aF ?aO ?aB ?aS ?aL ?_;(case ax=>rfl);(case aP=>rfl);(case aF=>exact fun _ _=>trivial);(case aO=>exact HR.out);(case aB=>exact HB.out);(case aS=>exact HB.out.size);(case aL=>have:=HSL.out;have:=HMM.out;have:=HQR.out;omega);intro v1 w3 HR3 hb3 hg3 hat3;obtain⟨A3,c3,hv3⟩:=Kd.R_slice HR3;subst hv3;have HR3':=QA HR3;have KC3:=QA (Qdu KC.out hg3 (Kd.R_ne HR.out KC.out (by decide)));have HB3:=QA hb3;clear HR3 hb3 hg3 hat3)
    go_roundw
    case rel=>exact⟨j+1,_,A3,c3,by rw[List.length_append];rfl,hlt,⟨by rw[HSS.out,List.append_assoc,List.replicate_succ']⟩,HR3',KC3,HB3⟩
    case measure=>have h1:=HSL.out;have h2:=HMM.out;have h3:=HQR.out;simp[lenV];omega
   ·obtain rfl:j=m:=by omega
    have hd2:decide ((s'.length:Int)<4096-q)=false:=decide_eq_false qq_21
    have hst:s'=t:=by rw[HSS.out,HT.out]
    subst hst
    clear hsl hlt
    have HCS':=QA (Kd.R_reads' HR.out).2
    have hw64:IntKind.u64.wrap n=n:=IntWalk.u64_in _ (by omega)
    go_wp2_with (first
     |(go_at_call 41;refine(Qcd.calls k _ s n (strOfNums s') l0 se false _ HHR.out).mono ?_;rintro ee w6 ⟨v6,rfl,hR6,hb6⟩;obtain⟨A6,c6,hv6⟩:=Kd.R_slice hR6;subst hv6;have HB6:=QA hb6;have HKV6:=QA (Qeh HKV5.out hb6);obtain⟨x0,x1,x2,x3⟩:=Qtb HKV6.out;clear hb6)
     |(go_at_call 19;refine(Qbq.calls _ s n true _ HHM.out).mono ?_;rintro ee w5 ⟨rfl,hb5⟩;have HB5:=QA hb5;have HKV5:=QA (Qeh kv hb5);have HKC5:=QA (Qeh kc5 hb5);obtain⟨y0,y1,y2,y3⟩:=Qtb HKV5.out;obtain⟨c4,c5⟩:=box2 HKC5.out;have HR5:=QA (R8.kept (R8.kept HR4.out (Qcu (Below.refl _ _) _)) hb5);have cv5:=Qdd (P:=Tryz.prog) Tryz.underlying52 Tryz.underlying5 Tryz.underlying9 (Kd.own_of_R HR5.out);clear hb5)
     |(go_at_call 40;refine(Qum k _ s n 4 A c s' none _ HCS'.out.2 HCS'.out.1 HHP.out).mono ?_;rintro ee w4 ⟨rfl,hb4⟩;have HB4:=QA (HB.out.trans (Qjn hb4 HB.out.size));have KC4:=QA (Qeh KC.out hb4);have HR4:=QA (R8.kept HR.out hb4);have kv:=Qei w4 (.cells #[.slice none 0 0,.slice none 0 0,.int .u32 0,.bool false] 76);have kc5:=Qee KC4.out (.cells #[.slice none 0 0,.slice none 0 0,.int .u32 0,.bool false] 76);obtain⟨z0,z1,z2,z3⟩:=Qtb kv;obtain⟨c2,c3⟩:=box2 kc5;clear c0 c1 hb4;obtain⟨c0,c1⟩:=box2 KC4.out))
    go_ret
    have z1:=(HB4.out.trans (Qjn (Qcu (Below.refl _ _) _) HB4.out.size)).trans (Qjn HB5.out (Nat.le_trans HB4.out.size (by rw[World.size_alloc];omega)))
    exact⟨rfl,z1.trans (Qjn HB6.out z1.size)⟩
 ·have hq3:IntKind.i64.wrap (8192-q)=8192-q:=IntWalk.i64_in _ (by have:=HQR.out;omega)
  obtain⟨m,hm⟩:∃m,m=2^(13:Int).toNat-q.toNat-b.length:=⟨_,rfl⟩
  have htl:t.length=b.length+m:=by rw[HT.out,List.length_append,List.length_replicate,hm]
  have hmm:(b.length:Int)+(m:Int)=8192-q:=by
   have h2:(2:Nat)^(13:Int).toNat=8192:=by decide
   rw[h2]at hm
   have:=HQR.out
   omega
  rw[← hm]at HT
  have HTL:=QA htl
  have HMM:=QA hmm
  clear hm htl hmm
  go_enter Tryz.func8,Tryz.ntmps8
  go_wp2_with (first
   |(at_builtin;go_loud (refine Kd.R_append_rows (Kd.int .u8) (Rr:=fun x cs=>cs=[.int .u8 x]) (w0:=w) w.heap.size rfl (.tmp 31) (.tmp 32) 52 5 (.int .u8 0) 1 rfl Tryz.underlying52 Qiu rfl (by decide) (by omega) _ [] b Ab b.length cb (fun _=>True) (fun _=>False) rfl rfl ?bO ?bC (fun _ _ h=>h) (fun _ hk=>hk.elim) (fun _ _=>trivial) ?bB ?bS ?bL ?_;(case bO=>(have z:=R8.lit (wb.alloc (.cells #[.int .u8 13,.int .u32 s] 27)) w.heap.size qq_20 [] (by simp));rw[World.size_alloc]at z;exact z);(case bC=>exact Kd.C_below HCS.out (Qcu (Qcu HBB.out _) _));(case bB=>exact Qcu (Qcu HBB.out _) _);(case bS=>rw[World.size_alloc,World.size_alloc];have:=HBB.out.size;omega);(case bL=>simp;omega);intro v1 w1 HR1 hb1 hg1 hat1;obtain⟨A1,d1,hv1⟩:=Kd.R_slice HR1;subst hv1;have KC1:=QA (Qdu (Qee (Qei wb (.cells #[.int .u8 13,.int .u32 s] 27)) (.cells #[] 5)) hg1 (fun e=>by have e1:wb.heap.size=wb.heap.size+1:=Option.some.inj e;omega));have HR1':=QA HR1;have HB1:=QA hb1;clear HR1 hb1 hg1 hat1))
   |(go_at_call 17;refine(Qas.calls a0 _ s _ HSM.out).mono ?_;rintro ee wb ⟨rfl,hbb⟩;have HBB:=QA (HBA.out.trans (Qjn hbb HBA.out.size));clear hbb)
   |(go_at_call 15;refine(Qaq.calls true _ rfl).mono ?_;rintro ee wa ⟨rfl,hba⟩;have HBA:=QA hba;clear hba))
  have hcw:w.heap.size≤wb.heap.size:=HBB.out.size
  obtain⟨gc,hgc⟩:∃gc,gc=wb.heap.size:=⟨_,rfl⟩
  rw[← hgc]at KC1 hcw ⊢
  clear hgc
  go_loopw [10] (fun v10 wr=>∃(j:Nat) (s':List Int) (A:Option Addr) (c:Nat),v10=.slice A s'.length c∧j≤m∧Aside0 (s'=b++List.replicate j 255)∧Aside0 (R8 wr w.heap.size (.slice A s'.length c) s')∧Aside0 (wr.heap[gc]? = some (.cells #[.int .u8 13,.int .u32 s] 27 (0,0)))∧Aside0 (Below w.heap.size w wr))
   (fun v10 _=>8192-lenV v10)
  case atStart=>exact⟨0,_,A1,d1,rfl,Nat.zero_le _,⟨by simp⟩,HR1',KC1,HB1⟩
  case round =>
   clear HR1' KC1 HB1
   obtain⟨j,s',A,c,rfl,hj,HSS,HR,KC,HB⟩:=hrel
   obtain⟨c0,c1⟩:=box2 KC.out
   have hsl:s'.length=b.length+j:=by rw[HSS.out,List.length_append,List.length_replicate]
   by_cases hlt:j<m
   ·have hd2:decide ((s'.length:Int)<8192-q)=true:=decide_eq_true qq_21
    have HSL:=QA hsl
    clear hsl
    go_wp2_with (at_builtin;refine Kd.R_append (Kd.int .u8) (w0:=w) w.heap.size rfl (.tmp 44) (.tmp 45) 52 5 (.int .u8 0) 1 rfl Tryz.underlying52 Qiu rfl (by decide) (by omega) (.slice A s'.length c) s' 255 [.int .u8 255] (fun _=>True) (fun _=>False) rfl ?ax ?aP (fun _ hk=>hk.elim) ?aF ?aO ?aB ?aS ?aL ?_;(case ax=>rfl);(case aP=>rfl);(case aF=>exact fun _ _=>trivial);(case aO=>exact HR.out);(case aB=>exact HB.out);(case aS=>exact HB.out.size);(case aL=>have:=HSL.out;have:=HMM.out;have:=HQR.out;omega);intro v1 w3 HR3 hb3 hg3 hat3;obtain⟨A3,c3,hv3⟩:=Kd.R_slice HR3;subst hv3;have HR3':=QA HR3;have KC3:=QA (Qdu KC.out hg3 (Kd.R_ne HR.out KC.out (by decide)));have HB3:=QA hb3;clear HR3 hb3 hg3 hat3)
    go_roundw
    case rel=>exact⟨j+1,_,A3,c3,by rw[List.length_append];rfl,hlt,⟨by rw[HSS.out,List.append_assoc,List.replicate_succ']⟩,HR3',KC3,HB3⟩
    case measure=>have h1:=HSL.out;have h2:=HMM.out;have h3:=HQR.out;simp[lenV];omega
   ·obtain rfl:j=m:=by omega
    have hd2:decide ((s'.length:Int)<8192-q)=false:=decide_eq_false qq_21
    have hst:s'=t:=by rw[HSS.out,HT.out]
    subst hst
    clear hsl hlt
    have HCS':=QA (Kd.R_reads' HR.out).2
    have hw64:IntKind.u64.wrap n=n:=IntWalk.u64_in _ (by omega)
    go_wp2_with (first
     |(go_at_call 41;refine(Qcd.calls k _ s n (strOfNums s') l0 se false _ HHR.out).mono ?_;rintro ee w6 ⟨v6,rfl,hR6,hb6⟩;obtain⟨A6,c6,hv6⟩:=Kd.R_slice hR6;subst hv6;have HB6:=QA hb6;have HKV6:=QA (Qeh HKV5.out hb6);obtain⟨x0,x1,x2,x3⟩:=Qtb HKV6.out;clear hb6)
     |(go_at_call 19;refine(Qbq.calls _ s n true _ HHM.out).mono ?_;rintro ee w5 ⟨rfl,hb5⟩;have HB5:=QA hb5;have HKV5:=QA (Qeh kv hb5);have HKC5:=QA (Qeh kc5 hb5);obtain⟨y0,y1,y2,y3⟩:=Qtb HKV5.out;obtain⟨c4,c5⟩:=box2 HKC5.out;have HR5:=QA (R8.kept (R8.kept HR4.out (Qcu (Below.refl _ _) _)) hb5);have cv5:=Qdd (P:=Tryz.prog) Tryz.underlying52 Tryz.underlying5 Tryz.underlying9 (Kd.own_of_R HR5.out);clear hb5)
     |(go_at_call 40;refine(Qum k _ s n 4 A c s' none _ HCS'.out.2 HCS'.out.1 HHP.out).mono ?_;rintro ee w4 ⟨rfl,hb4⟩;have HB4:=QA (HB.out.trans (Qjn hb4 HB.out.size));have KC4:=QA (Qeh KC.out hb4);have HR4:=QA (R8.kept HR.out hb4);have kv:=Qei w4 (.cells #[.slice none 0 0,.slice none 0 0,.int .u32 0,.bool false] 76);have kc5:=Qee KC4.out (.cells #[.slice none 0 0,.slice none 0 0,.int .u32 0,.bool false] 76);obtain⟨z0,z1,z2,z3⟩:=Qtb kv;obtain⟨c2,c3⟩:=box2 kc5;clear c0 c1 hb4;obtain⟨c0,c1⟩:=box2 KC4.out))
    go_ret
    have z1:=(HB4.out.trans (Qjn (Qcu (Below.refl _ _) _) HB4.out.size)).trans (Qjn HB5.out (Nat.le_trans HB4.out.size (by rw[World.size_alloc];omega)))
    exact⟨rfl,z1.trans (Qjn HB6.out z1.size)⟩
abbrev REnt15:=S122
theorem sp_good(k:Nat)(a0 e s n a3:Int)(Ab:Option Addr)(cb:Nat)(b:List Int)(w:World)(hcs:Kd.C (Kd.int .u8) w Ab b.length b)(hcb:b.length≤cb)(hl:b.length≤600)(hsm:Qas.f a0=some (e,s))(he:e=12∨e=13)(h3:0≤a3∧a3<256)(hn:0≤n∧n<4294967296)
  (t:List Int) (ht:t=b++List.replicate (2^e.toNat-(a3/250).toNat-b.length) 255)
  (l:List Rec) (ps:List Int) (sl:Bool) (tx:ByteArray) (tb:List REnt15) (hlen:l.length≤1000000∧tx.size≤1000000000) (hps:ps.length=l.length)
  (hp:Qul k e s n t (some (l,ps,tx.size,sl)) 4) (hm:Qbq.f e s n=some true) (hr:Qcd.f k e s n (strOfNums t)=some (l,sl,true)) (hf:Qcc.f k e s n l=some (tx,tb))
  (hea:∀i:Nat,i<l.length→∃tx tb,Qcc.f k e s n (l.take i)=some (tx,tb)∧YtnnofopfbeklbaaGreatW.PrintWords.rd ps (i:Int)=(tx.size:Int)∧tx.size≤1000000000) :
  Calls Tryz.prog 8 #[.int .u8 a0,.int .u32 n,.slice Ab b.length cb,.int .u8 a3] w fun ee w'=>ee=.returned (.bool true)∧Below w.heap.size w w':=by
 have hu:=Tryz.underlying27
 have hu76:=Tryz.underlying76
 have hd1:decide ((600:Int)<(b.length:Int))=false:=decide_eq_false (by omega)
 obtain⟨q,hq⟩:∃q,q=a3/250:=⟨_,rfl⟩
 have hq0:a3.tdiv 250=q:=by rw[hq];exact Int.tdiv_eq_ediv_of_nonneg h3.1
 have hqr:0≤q∧q≤1:=by omega
 have hq1:IntKind.u8.wrap q=q:=IntWalk.u8_in _ (by omega)
 have hq2:IntKind.i64.wrap q=q:=IntWalk.i64_in _ (by omega)
 have HCS:=QA hcs
 have HCB:=QA hcb
 have HSM:=QA hsm
 rw[← hq]at ht
 have HT:=QA ht
 have HQR:=QA hqr
 clear hcs hcb hsm ht hq hqr h3
 have HHP:=QA hp
 have HHM:=QA hm
 have HHR:=QA hr
 have HHF:=QA hf
 clear hp hm hr hf
 obtain⟨U,hU⟩:∃U:Int,U=(tx.size:Int):=⟨_,rfl⟩
 have hUw:IntKind.i64.wrap U=U:=IntWalk.i64_in _ (by omega)
 have hUe:(U != (tx.size:Int))=false:=bne_eq_false_iff_eq.2 hU
 have hss:(sl != sl)=false:=by cases sl<;>rfl
 have hpl:((ps.length:Int) != (l.length:Int))=false:=bne_eq_false_iff_eq.2 (by omega)
 have hll:((l.length:Int) != (l.length:Int))=false:=bne_self_eq_false _
 have HUT:=QA hU
 have HHLL:=QA hlen
 have HPS:=QA hps
 have HEA:=QA hea
 clear hU hlen hps hea
 rcases he with rfl|rfl
 ·have hq3:IntKind.i64.wrap (4096-q)=4096-q:=IntWalk.i64_in _ (by have:=HQR.out;omega)
  obtain⟨m,hm⟩:∃m,m=2^(12:Int).toNat-q.toNat-b.length:=⟨_,rfl⟩
  have htl:t.length=b.length+m:=by rw[HT.out,List.length_append,List.length_replicate,hm]
  have hmm:(b.length:Int)+(m:Int)=4096-q:=by
   have h2:(2:Nat)^(12:Int).toNat=4096:=by decide
   rw[h2]at hm
   have:=HQR.out
   omega
  rw[← hm]at HT
  have HTL:=QA htl
  have HMM:=QA hmm
  clear hm htl hmm
  go_enter Tryz.func8,Tryz.ntmps8
  go_wp2_with (first
   |(at_builtin;go_loud (refine Kd.R_append_rows (Kd.int .u8) (Rr:=fun x cs=>cs=[.int .u8 x]) (w0:=w) w.heap.size rfl (.tmp 31) (.tmp 32) 52 5 (.int .u8 0) 1 rfl Tryz.underlying52 Qiu rfl (by decide) (by omega) _ [] b Ab b.length cb (fun _=>True) (fun _=>False) rfl rfl ?bO ?bC (fun _ _ h=>h) (fun _ hk=>hk.elim) (fun _ _=>trivial) ?bB ?bS ?bL ?_;(case bO=>(have z:=R8.lit (wb.alloc (.cells #[.int .u8 12,.int .u32 s] 27)) w.heap.size qq_20 [] (by simp));rw[World.size_alloc]at z;exact z);(case bC=>exact Kd.C_below HCS.out (Qcu (Qcu HBB.out _) _));(case bB=>exact Qcu (Qcu HBB.out _) _);(case bS=>rw[World.size_alloc,World.size_alloc];have:=HBB.out.size;omega);(case bL=>simp;omega);intro v1 w1 HR1 hb1 hg1 hat1;obtain⟨A1,d1,hv1⟩:=Kd.R_slice HR1;subst hv1;have KC1:=QA (Qdu (Qee (Qei wb (.cells #[.int .u8 12,.int .u32 s] 27)) (.cells #[] 5)) hg1 (fun e=>by have e1:wb.heap.size=wb.heap.size+1:=Option.some.inj e;omega));have HR1':=QA HR1;have HB1:=QA hb1;clear HR1 hb1 hg1 hat1))
   |(go_at_call 17;refine(Qas.calls a0 _ s _ HSM.out).mono ?_;rintro ee wb ⟨rfl,hbb⟩;have HBB:=QA (HBA.out.trans (Qjn hbb HBA.out.size));clear hbb)
   |(go_at_call 15;refine(Qaq.calls true _ rfl).mono ?_;rintro ee wa ⟨rfl,hba⟩;have HBA:=QA hba;clear hba))
  have hcw:w.heap.size≤wb.heap.size:=HBB.out.size
  obtain⟨gc,hgc⟩:∃gc,gc=wb.heap.size:=⟨_,rfl⟩
  rw[← hgc]at KC1 hcw ⊢
  clear hgc
  go_loopw [10] (fun v10 wr=>∃(j:Nat) (s':List Int) (A:Option Addr) (c:Nat),v10=.slice A s'.length c∧j≤m∧Aside0 (s'=b++List.replicate j 255)∧Aside0 (R8 wr w.heap.size (.slice A s'.length c) s')∧Aside0 (wr.heap[gc]? = some (.cells #[.int .u8 12,.int .u32 s] 27 (0,0)))∧Aside0 (Below w.heap.size w wr))
   (fun v10 _=>4096-lenV v10)
  case atStart=>exact⟨0,_,A1,d1,rfl,Nat.zero_le _,⟨by simp⟩,HR1',KC1,HB1⟩
  case round =>
   clear HR1' KC1 HB1
   obtain⟨j,s',A,c,rfl,hj,HSS,HR,KC,HB⟩:=hrel
   obtain⟨c0,c1⟩:=box2 KC.out
   have hsl:s'.length=b.length+j:=by rw[HSS.out,List.length_append,List.length_replicate]
   by_cases hlt:j<m
   ·have hd2:decide ((s'.length:Int)<4096-q)=true:=decide_eq_true qq_21
    have HSL:=QA hsl
    clear hsl
    go_wp2_with (at_builtin;refine Kd.R_append (Kd.int .u8) (w0:=w) w.heap.size rfl (.tmp 44) (.tmp 45) 52 5 (.int .u8 0) 1 rfl Tryz.underlying52 Qiu rfl (by decide) (by omega) (.slice A s'.length c) s' 255 [.int .u8 255] (fun _=>True) (fun _=>False) rfl ?ax ?aP (fun _ hk=>hk.elim) ?aF ?aO ?aB ?aS ?aL ?_;(case ax=>rfl);(case aP=>rfl);(case aF=>exact fun _ _=>trivial);(case aO=>exact HR.out);(case aB=>exact HB.out);(case aS=>exact HB.out.size);(case aL=>have:=HSL.out;have:=HMM.out;have:=HQR.out;omega);intro v1 w3 HR3 hb3 hg3 hat3;obtain⟨A3,c3,hv3⟩:=Kd.R_slice HR3;subst hv3;have HR3':=QA HR3;have KC3:=QA (Qdu KC.out hg3 (Kd.R_ne HR.out KC.out (by decide)));have HB3:=QA hb3;clear HR3 hb3 hg3 hat3)
    go_roundw
    case rel=>exact⟨j+1,_,A3,c3,by rw[List.length_append];rfl,hlt,⟨by rw[HSS.out,List.append_assoc,List.replicate_succ']⟩,HR3',KC3,HB3⟩
    case measure=>have h1:=HSL.out;have h2:=HMM.out;have h3:=HQR.out;simp[lenV];omega
   ·obtain rfl:j=m:=by omega
    have hd2:decide ((s'.length:Int)<4096-q)=false:=decide_eq_false qq_21
    have hst:s'=t:=by rw[HSS.out,HT.out]
    subst hst
    clear hsl hlt
    have HCS':=QA (Kd.R_reads' HR.out).2
    have hw64:IntKind.u64.wrap n=n:=IntWalk.u64_in _ (by omega)
    go_wp2_with (first
     |(go_at_call 27;have gate:=HB6.out;clear gate;refine(Qcc.calls k _ s n A6 c6 l tx tb _ HC6.out.2.2.2 HC6.out.2.2.1 HHF.out).mono ?_;rintro ee w7 ⟨v7,rfl,_,hb7⟩;have HB7:=QA hb7;have HKV7:=QA (Qeh HKV6.out hb7);have HKC7:=QA (Qeh HKC6.out hb7);obtain⟨m0,m1,m2,m3⟩:=Qtb HKV7.out;have HC7:=QA (And.intro (Kd.C_below HC6.out.1 hb7) (And.intro (Kd.C_below HC6.out.2.1 hb7) (And.intro (Kd.C_below HC6.out.2.2.2 hb7) HC6.out.2.2.1)));clear hb7)
     |(go_at_call 41;refine(Qcd.calls k _ s n (strOfNums s') l sl true _ HHR.out).mono ?_;rintro ee w6 ⟨v6,rfl,hR6,hb6⟩;obtain⟨A6,c6,hv6⟩:=Kd.R_slice hR6;subst hv6;have HB6:=QA hb6;have HKV6:=QA (Qeh HKV5.out hb6);have HKC6:=QA (Qeh HKC5.out hb6);obtain⟨x0,x1,x2,x3⟩:=Qtb HKV6.out;obtain⟨c6_,c7_⟩:=box2 HKC6.out;have HC6:=QA (And.intro (Kd.C_below HC5.out.1 hb6) (And.intro (Kd.C_below HC5.out.2 hb6) (Kd.R_reads' hR6).2));clear hb6 hR6)
     |(go_at_call 19;refine(Qbq.calls _ s n true _ HHM.out).mono ?_;rintro ee w5 ⟨rfl,hb5⟩;have HB5:=QA hb5;have HKV5:=QA (Qeh kv hb5);have HKC5:=QA (Qeh kc5 hb5);obtain⟨y0,y1,y2,y3⟩:=Qtb HKV5.out;obtain⟨c4,c5⟩:=box2 HKC5.out;have HR5:=QA (R8.kept (R8.kept HR4.out (Qcu (Below.refl _ _) _)) hb5);have cv5:=Qdd (P:=Tryz.prog) Tryz.underlying52 Tryz.underlying5 Tryz.underlying9 (Kd.own_of_R HR5.out);have HC5:=QA (And.intro (Kd.C_below (Kd.C_below HCRA.out.1 (Qcu (Below.refl _ _) _)) hb5) (Kd.C_below (Kd.C_below HCRA.out.2 (Qcu (Below.refl _ _) _)) hb5));clear hb5)
     |(go_at_call 40;refine(Qum k _ s n 4 A c s' (some (l,ps,tx.size,sl)) _ HCS'.out.2 HCS'.out.1 HHP.out).mono ?_;rintro ee w4 ⟨⟨Ar,cr,Aa,ca,rfl,hCr,hCa,hlr,hla⟩,hb4⟩;rw[← HUT.out];have HB4:=QA (HB.out.trans (Qjn hb4 HB.out.size));have KC4:=QA (Qeh KC.out hb4);have HR4:=QA (R8.kept HR.out hb4);have kv:=Qei w4 (.cells #[.slice Ar l.length cr,.slice Aa ps.length ca,.int .u32 U,.bool sl] 76);have kc5:=Qee KC4.out (.cells #[.slice Ar l.length cr,.slice Aa ps.length ca,.int .u32 U,.bool sl] 76);obtain⟨z0,z1,z2,z3⟩:=Qtb kv;obtain⟨c2,c3⟩:=box2 kc5;have HCRA:=QA (And.intro hCr hCa);have HCLE:=QA (And.intro hlr hla);clear hCr hCa hlr hla c0 c1 hb4;obtain⟨c0,c1⟩:=box2 KC4.out))
    have z5:=(HB4.out.trans (Qjn (Qcu (Below.refl _ _) _) HB4.out.size)).trans (Qjn HB5.out (Nat.le_trans HB4.out.size (by rw[World.size_alloc];omega)))
    have HBB7:=QA ((z5.trans (Qjn HB6.out z5.size)).trans (Qjn HB7.out (Nat.le_trans z5.size HB6.out.size)))
    clear z5
    go_loopw [151] (fun v151 wr=>∃(i:Nat) (iv:Int),i≤l.length∧v151=.int .i64 iv∧Aside0 (iv=(i:Int))∧Aside0 (Below w7.heap.size w7 wr))
     (fun v151 _=>l.length-(intOf v151).toNat)
    case atStart=>exact⟨0,0,Nat.zero_le _,rfl,⟨rfl⟩,⟨Below.refl _ _⟩⟩
    case round =>
     obtain⟨i,iv,hi,rfl,HIV,HBI⟩:=hrel
     by_cases hlt:i<l.length
     ·have hlt2:iv<(l.length:Int):=by have:=HIV.out;omega
      have hge:0≤iv:=by have:=HIV.out;omega
      have hwi:IntKind.i64.wrap (iv+1)=iv+1:=IntWalk.i64_in _ (by have:=HHLL.out;omega)
      obtain⟨txi,tbi,hfi,hai,hszi⟩:=HEA.out i hlt
      obtain⟨li,hli⟩:∃li,li=l.take i:=⟨_,rfl⟩
      have hlil:li.length=i:=by rw[hli,List.length_take];omega
      obtain⟨j0,hjj,hjz⟩:=Option.map_eq_some_iff.1 Qiw
      have hcut:=Qet (P:=Tryz.prog) 23 39 .i64 Tryz.underlying23 hjj A6 l.length c6 iv hge (by omega) HC7.out.2.2.2
      rw[show iv.toNat=li.length by have:=HIV.out;omega]at hcut
      have hCL:=Kd.C_take (m:=i) HC7.out.2.2.1 (Nat.le_of_lt hlt)
      rw[← hli]at hCL hfi
      have hkcr:=Qeh HKC7.out HBI.out
      have FR:=QA (Qcc.calls k 12 s n A6 c6 li txi tbi wr.drew (Kd.C_below hCL (Qcv HBI.out)) (by have:=HC7.out.2.2.2;omega) hfi)
      have hkd:wr.drew.heap[gc]? = some (.cells #[.int .u8 12,.int .u32 s] 27 (0,0)):=hkcr
      have HKD:=QA hkd
      have HAI:=QA (And.intro hai hszi)
      clear c0 c1 c2 c3 c4 c5 c6_ c7_ x0 x1 x2 x3 y0 y1 y2 y3 z0 z1 z2 z3 m0 m1 m2 m3 cv5 hjj hjz hCL hli hlil hfi hai hszi hkcr hkd
      obtain⟨r0,r1⟩:=box2 HKD.out
      go_wp2
      go_region_held3 (fun w'=>w'.cell? ⟨gc,0,none⟩=some (.int .u8 12)∧w'.cell? ⟨gc,1,none⟩=some (.int .u32 s)) (first|exact⟨r0,r1⟩|exact⟨r2,r3⟩) (first
       |(go_at_call 27;refine FR.out.mono ?_;rintro ee w8 ⟨v8,rfl,hR8,hb8⟩;obtain⟨A8,c8,hv8⟩:=Kd.R_slice hR8;subst hv8;have HB8:=QA ((Qcv HBI.out).trans (Qjn hb8 HBI.out.size));obtain⟨r2,r3⟩:=box2 (Qeh HKD.out hb8);clear hb8 hR8))
      clear r0 r1 r2 r3
      have hkv:=Qeh HKV7.out (Qcv HB8.out)
      have hw8:Below w7.heap.size w7 w8.drew:=Qcv HB8.out
      obtain⟨x0,x1,x2,x3⟩:=Qtb (W:=w8.drew) hkv
      obtain⟨x4,x5,x6,x7⟩:=Qtb (Qeh HKV7.out HB8.out)
      obtain⟨adr,hAr,t0,t1,t2,t3⟩:=Qjb (Kd.C_below HC7.out.1 HB8.out) iv hge hlt2
      subst hAr
      obtain⟨adl,hAl,u0,u1,u2,u3⟩:=Qjb (Kd.C_below HC7.out.2.2.1 HB8.out) iv hge hlt2
      subst hAl
      obtain⟨ada,hAa,a0_⟩:=Kd.at_int (Kd.C_below HC7.out.2.1 HB8.out) iv hge (by have:=HPS.out;omega)
      subst hAa
      obtain⟨pa,hpa⟩:∃pa,pa=YtnnofopfbeklbaaGreatW.PrintWords.rd ps iv:=⟨_,rfl⟩
      rw[← hpa]at a0_
      have hpaT:pa=(txi.size:Int):=by rw[hpa,HIV.out];exact HAI.out.1
      have hpaw:IntKind.i64.wrap pa=pa:=IntWalk.i64_in _ (by have:=HAI.out.2;omega)
      have hpae:(pa != (txi.size:Int))=false:=bne_eq_false_iff_eq.2 hpaT
      have hpl2:iv<(ps.length:Int):=by have:=HPS.out;omega
      obtain⟨rr,hrr⟩:∃rr,rr=Qja l iv:=⟨_,rfl⟩
      rw[← hrr]at t0 t1 t2 t3 u0 u1 u2 u3
      clear hkv hpa hpaT hrr hw8
      go_wp2
      go_region
      go_wp2
      go_roundw
      case rel=>exact⟨i+1,iv+1,hlt,rfl,⟨by have:=HIV.out;omega⟩,⟨Qcv HB8.out⟩⟩
      case measure=>have:=HIV.out;simp[intOf];omega
     ·obtain rfl:i=l.length:=by omega
      have e1:iv=(l.length:Int):=HIV.out
      subst e1
      go_wp2
      go_ret
      exact⟨rfl,HBB7.out.trans (Qjn HBI.out HBB7.out.size)⟩
 ·have hq3:IntKind.i64.wrap (8192-q)=8192-q:=IntWalk.i64_in _ (by have:=HQR.out;omega)
  obtain⟨m,hm⟩:∃m,m=2^(13:Int).toNat-q.toNat-b.length:=⟨_,rfl⟩
  have htl:t.length=b.length+m:=by rw[HT.out,List.length_append,List.length_replicate,hm]
  have hmm:(b.length:Int)+(m:Int)=8192-q:=by
   have h2:(2:Nat)^(13:Int).toNat=8192:=by decide
   rw[h2]at hm
   have:=HQR.out
   omega
  rw[← hm]at HT
  have HTL:=QA htl
  have HMM:=QA hmm
  clear hm htl hmm
  go_enter Tryz.func8,Tryz.ntmps8
  go_wp2_with (first
   |(at_builtin;go_loud (refine Kd.R_append_rows (Kd.int .u8) (Rr:=fun x cs=>cs=[.int .u8 x]) (w0:=w) w.heap.size rfl (.tmp 31) (.tmp 32) 52 5 (.int .u8 0) 1 rfl Tryz.underlying52 Qiu rfl (by decide) (by omega) _ [] b Ab b.length cb (fun _=>True) (fun _=>False) rfl rfl ?bO ?bC (fun _ _ h=>h) (fun _ hk=>hk.elim) (fun _ _=>trivial) ?bB ?bS ?bL ?_;(case bO=>(have z:=R8.lit (wb.alloc (.cells #[.int .u8 13,.int .u32 s] 27)) w.heap.size qq_20 [] (by simp));rw[World.size_alloc]at z;exact z);(case bC=>exact Kd.C_below HCS.out (Qcu (Qcu HBB.out _) _));(case bB=>exact Qcu (Qcu HBB.out _) _);(case bS=>rw[World.size_alloc,World.size_alloc];have:=HBB.out.size;omega);(case bL=>simp;omega);intro v1 w1 HR1 hb1 hg1 hat1;obtain⟨A1,d1,hv1⟩:=Kd.R_slice HR1;subst hv1;have KC1:=QA (Qdu (Qee (Qei wb (.cells #[.int .u8 13,.int .u32 s] 27)) (.cells #[] 5)) hg1 (fun e=>by have e1:wb.heap.size=wb.heap.size+1:=Option.some.inj e;omega));have HR1':=QA HR1;have HB1:=QA hb1;clear HR1 hb1 hg1 hat1))
   |(go_at_call 17;refine(Qas.calls a0 _ s _ HSM.out).mono ?_;rintro ee wb ⟨rfl,hbb⟩;have HBB:=QA (HBA.out.trans (Qjn hbb HBA.out.size));clear hbb)
   |(go_at_call 15;refine(Qaq.calls true _ rfl).mono ?_;rintro ee wa ⟨rfl,hba⟩;have HBA:=QA hba;clear hba))
  have hcw:w.heap.size≤wb.heap.size:=HBB.out.size
  obtain⟨gc,hgc⟩:∃gc,gc=wb.heap.size:=⟨_,rfl⟩
  rw[← hgc]at KC1 hcw ⊢
  clear hgc
  go_loopw [10] (fun v10 wr=>∃(j:Nat) (s':List Int) (A:Option Addr) (c:Nat),v10=.slice A s'.length c∧j≤m∧Aside0 (s'=b++List.replicate j 255)∧Aside0 (R8 wr w.heap.size (.slice A s'.length c) s')∧Aside0 (wr.heap[gc]? = some (.cells #[.int .u8 13,.int .u32 s] 27 (0,0)))∧Aside0 (Below w.heap.size w wr))
   (fun v10 _=>8192-lenV v10)
  case atStart=>exact⟨0,_,A1,d1,rfl,Nat.zero_le _,⟨by simp⟩,HR1',KC1,HB1⟩
  case round =>
   clear HR1' KC1 HB1
   obtain⟨j,s',A,c,rfl,hj,HSS,HR,KC,HB⟩:=hrel
   obtain⟨c0,c1⟩:=box2 KC.out
   have hsl:s'.length=b.length+j:=by rw[HSS.out,List.length_append,List.length_replicate]
   by_cases hlt:j<m
   ·have hd2:decide ((s'.length:Int)<8192-q)=true:=decide_eq_true qq_21
    have HSL:=QA hsl
    clear hsl
    go_wp2_with (at_builtin;refine Kd.R_append (Kd.int .u8) (w0:=w) w.heap.size rfl (.tmp 44) (.tmp 45) 52 5 (.int .u8 0) 1 rfl Tryz.underlying52 Qiu rfl (by decide) (by omega) (.slice A s'.length c) s' 255 [.int .u8 255] (fun _=>True) (fun _=>False) rfl ?ax ?aP (fun _ hk=>hk.elim) ?aF ?aO ?aB ?aS ?aL ?_;(case ax=>rfl);(case aP=>rfl);(case aF=>exact fun _ _=>trivial);(case aO=>exact HR.out);(case aB=>exact HB.out);(case aS=>exact HB.out.size);(case aL=>have:=HSL.out;have:=HMM.out;have:=HQR.out;omega);intro v1 w3 HR3 hb3 hg3 hat3;obtain⟨A3,c3,hv3⟩:=Kd.R_slice HR3;subst hv3;have HR3':=QA HR3;have KC3:=QA (Qdu KC.out hg3 (Kd.R_ne HR.out KC.out (by decide)));have HB3:=QA hb3;clear HR3 hb3 hg3 hat3)
    go_roundw
    case rel=>exact⟨j+1,_,A3,c3,by rw[List.length_append];rfl,hlt,⟨by rw[HSS.out,List.append_assoc,List.replicate_succ']⟩,HR3',KC3,HB3⟩
    case measure=>have h1:=HSL.out;have h2:=HMM.out;have h3:=HQR.out;simp[lenV];omega
   ·obtain rfl:j=m:=by omega
    have hd2:decide ((s'.length:Int)<8192-q)=false:=decide_eq_false qq_21
    have hst:s'=t:=by rw[HSS.out,HT.out]
    subst hst
    clear hsl hlt
    have HCS':=QA (Kd.R_reads' HR.out).2
    have hw64:IntKind.u64.wrap n=n:=IntWalk.u64_in _ (by omega)
    go_wp2_with (first
     |(go_at_call 27;have gate:=HB6.out;clear gate;refine(Qcc.calls k _ s n A6 c6 l tx tb _ HC6.out.2.2.2 HC6.out.2.2.1 HHF.out).mono ?_;rintro ee w7 ⟨v7,rfl,_,hb7⟩;have HB7:=QA hb7;have HKV7:=QA (Qeh HKV6.out hb7);have HKC7:=QA (Qeh HKC6.out hb7);obtain⟨m0,m1,m2,m3⟩:=Qtb HKV7.out;have HC7:=QA (And.intro (Kd.C_below HC6.out.1 hb7) (And.intro (Kd.C_below HC6.out.2.1 hb7) (And.intro (Kd.C_below HC6.out.2.2.2 hb7) HC6.out.2.2.1)));clear hb7)
     |(go_at_call 41;refine(Qcd.calls k _ s n (strOfNums s') l sl true _ HHR.out).mono ?_;rintro ee w6 ⟨v6,rfl,hR6,hb6⟩;obtain⟨A6,c6,hv6⟩:=Kd.R_slice hR6;subst hv6;have HB6:=QA hb6;have HKV6:=QA (Qeh HKV5.out hb6);have HKC6:=QA (Qeh HKC5.out hb6);obtain⟨x0,x1,x2,x3⟩:=Qtb HKV6.out;obtain⟨c6_,c7_⟩:=box2 HKC6.out;have HC6:=QA (And.intro (Kd.C_below HC5.out.1 hb6) (And.intro (Kd.C_below HC5.out.2 hb6) (Kd.R_reads' hR6).2));clear hb6 hR6)
     |(go_at_call 19;refine(Qbq.calls _ s n true _ HHM.out).mono ?_;rintro ee w5 ⟨rfl,hb5⟩;have HB5:=QA hb5;have HKV5:=QA (Qeh kv hb5);have HKC5:=QA (Qeh kc5 hb5);obtain⟨y0,y1,y2,y3⟩:=Qtb HKV5.out;obtain⟨c4,c5⟩:=box2 HKC5.out;have HR5:=QA (R8.kept (R8.kept HR4.out (Qcu (Below.refl _ _) _)) hb5);have cv5:=Qdd (P:=Tryz.prog) Tryz.underlying52 Tryz.underlying5 Tryz.underlying9 (Kd.own_of_R HR5.out);have HC5:=QA (And.intro (Kd.C_below (Kd.C_below HCRA.out.1 (Qcu (Below.refl _ _) _)) hb5) (Kd.C_below (Kd.C_below HCRA.out.2 (Qcu (Below.refl _ _) _)) hb5));clear hb5)
     |(go_at_call 40;refine(Qum k _ s n 4 A c s' (some (l,ps,tx.size,sl)) _ HCS'.out.2 HCS'.out.1 HHP.out).mono ?_;rintro ee w4 ⟨⟨Ar,cr,Aa,ca,rfl,hCr,hCa,hlr,hla⟩,hb4⟩;rw[← HUT.out];have HB4:=QA (HB.out.trans (Qjn hb4 HB.out.size));have KC4:=QA (Qeh KC.out hb4);have HR4:=QA (R8.kept HR.out hb4);have kv:=Qei w4 (.cells #[.slice Ar l.length cr,.slice Aa ps.length ca,.int .u32 U,.bool sl] 76);have kc5:=Qee KC4.out (.cells #[.slice Ar l.length cr,.slice Aa ps.length ca,.int .u32 U,.bool sl] 76);obtain⟨z0,z1,z2,z3⟩:=Qtb kv;obtain⟨c2,c3⟩:=box2 kc5;have HCRA:=QA (And.intro hCr hCa);have HCLE:=QA (And.intro hlr hla);clear hCr hCa hlr hla c0 c1 hb4;obtain⟨c0,c1⟩:=box2 KC4.out))
    have z5:=(HB4.out.trans (Qjn (Qcu (Below.refl _ _) _) HB4.out.size)).trans (Qjn HB5.out (Nat.le_trans HB4.out.size (by rw[World.size_alloc];omega)))
    have HBB7:=QA ((z5.trans (Qjn HB6.out z5.size)).trans (Qjn HB7.out (Nat.le_trans z5.size HB6.out.size)))
    clear z5
    go_loopw [151] (fun v151 wr=>∃(i:Nat) (iv:Int),i≤l.length∧v151=.int .i64 iv∧Aside0 (iv=(i:Int))∧Aside0 (Below w7.heap.size w7 wr))
     (fun v151 _=>l.length-(intOf v151).toNat)
    case atStart=>exact⟨0,0,Nat.zero_le _,rfl,⟨rfl⟩,⟨Below.refl _ _⟩⟩
    case round =>
     obtain⟨i,iv,hi,rfl,HIV,HBI⟩:=hrel
     by_cases hlt:i<l.length
     ·have hlt2:iv<(l.length:Int):=by have:=HIV.out;omega
      have hge:0≤iv:=by have:=HIV.out;omega
      have hwi:IntKind.i64.wrap (iv+1)=iv+1:=IntWalk.i64_in _ (by have:=HHLL.out;omega)
      obtain⟨txi,tbi,hfi,hai,hszi⟩:=HEA.out i hlt
      obtain⟨li,hli⟩:∃li,li=l.take i:=⟨_,rfl⟩
      have hlil:li.length=i:=by rw[hli,List.length_take];omega
      obtain⟨j0,hjj,hjz⟩:=Option.map_eq_some_iff.1 Qiw
      have hcut:=Qet (P:=Tryz.prog) 23 39 .i64 Tryz.underlying23 hjj A6 l.length c6 iv hge (by omega) HC7.out.2.2.2
      rw[show iv.toNat=li.length by have:=HIV.out;omega]at hcut
      have hCL:=Kd.C_take (m:=i) HC7.out.2.2.1 (Nat.le_of_lt hlt)
      rw[← hli]at hCL hfi
      have hkcr:=Qeh HKC7.out HBI.out
      have FR:=QA (Qcc.calls k 13 s n A6 c6 li txi tbi wr.drew (Kd.C_below hCL (Qcv HBI.out)) (by have:=HC7.out.2.2.2;omega) hfi)
      have hkd:wr.drew.heap[gc]? = some (.cells #[.int .u8 13,.int .u32 s] 27 (0,0)):=hkcr
      have HKD:=QA hkd
      have HAI:=QA (And.intro hai hszi)
      clear c0 c1 c2 c3 c4 c5 c6_ c7_ x0 x1 x2 x3 y0 y1 y2 y3 z0 z1 z2 z3 m0 m1 m2 m3 cv5 hjj hjz hCL hli hlil hfi hai hszi hkcr hkd
      obtain⟨r0,r1⟩:=box2 HKD.out
      go_wp2
      go_region_held3 (fun w'=>w'.cell? ⟨gc,0,none⟩=some (.int .u8 13)∧w'.cell? ⟨gc,1,none⟩=some (.int .u32 s)) (first|exact⟨r0,r1⟩|exact⟨r2,r3⟩) (first
       |(go_at_call 27;refine FR.out.mono ?_;rintro ee w8 ⟨v8,rfl,hR8,hb8⟩;obtain⟨A8,c8,hv8⟩:=Kd.R_slice hR8;subst hv8;have HB8:=QA ((Qcv HBI.out).trans (Qjn hb8 HBI.out.size));obtain⟨r2,r3⟩:=box2 (Qeh HKD.out hb8);clear hb8 hR8))
      clear r0 r1 r2 r3
      have hkv:=Qeh HKV7.out (Qcv HB8.out)
      have hw8:Below w7.heap.size w7 w8.drew:=Qcv HB8.out
      obtain⟨x0,x1,x2,x3⟩:=Qtb (W:=w8.drew) hkv
      obtain⟨x4,x5,x6,x7⟩:=Qtb (Qeh HKV7.out HB8.out)
      obtain⟨adr,hAr,t0,t1,t2,t3⟩:=Qjb (Kd.C_below HC7.out.1 HB8.out) iv hge hlt2
      subst hAr
      obtain⟨adl,hAl,u0,u1,u2,u3⟩:=Qjb (Kd.C_below HC7.out.2.2.1 HB8.out) iv hge hlt2
      subst hAl
      obtain⟨ada,hAa,a0_⟩:=Kd.at_int (Kd.C_below HC7.out.2.1 HB8.out) iv hge (by have:=HPS.out;omega)
      subst hAa
      obtain⟨pa,hpa⟩:∃pa,pa=YtnnofopfbeklbaaGreatW.PrintWords.rd ps iv:=⟨_,rfl⟩
      rw[← hpa]at a0_
      have hpaT:pa=(txi.size:Int):=by rw[hpa,HIV.out];exact HAI.out.1
      have hpaw:IntKind.i64.wrap pa=pa:=IntWalk.i64_in _ (by have:=HAI.out.2;omega)
      have hpae:(pa != (txi.size:Int))=false:=bne_eq_false_iff_eq.2 hpaT
      have hpl2:iv<(ps.length:Int):=by have:=HPS.out;omega
      obtain⟨rr,hrr⟩:∃rr,rr=Qja l iv:=⟨_,rfl⟩
      rw[← hrr]at t0 t1 t2 t3 u0 u1 u2 u3
      clear hkv hpa hpaT hrr hw8
      go_wp2
      go_region
      go_wp2
      go_roundw
      case rel=>exact⟨i+1,iv+1,hlt,rfl,⟨by have:=HIV.out;omega⟩,⟨Qcv HB8.out⟩⟩
      case measure=>have:=HIV.out;simp[intOf];omega
     ·obtain rfl:i=l.length:=by omega
      have e1:iv=(l.length:Int):=HIV.out
      subst e1
      go_wp2
      go_ret
      exact⟨rfl,HBB7.out.trans (Qjn HBI.out HBB7.out.size)⟩
end Go.Proofs.YtnnofopfbeklbaaGreat.C
end
