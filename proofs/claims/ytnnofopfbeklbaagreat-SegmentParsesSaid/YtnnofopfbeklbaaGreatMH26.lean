/- Texts of this claim's author and of the print of its functions, merged by merge.py. -/
import Derived.Test.YtnnofopfbeklbaaGreatMH02
import Derived.Test.YtnnofopfbeklbaaGreatMH08
import Derived.Test.YtnnofopfbeklbaaGreatMH24
import Derived.Test.YtnnofopfbeklbaaGreatMH11
import Derived.Test.YtnnofopfbeklbaaGreatMH12
import Derived.Test.YtnnofopfbeklbaaGreatMH20
import Derived.Test.YtnnofopfbeklbaaGreatMH23
import Derived.Test.YtnnofopfbeklbaaGreatMH04
import Derived.WalkLawsBesides
import Derived.Recover
import Derived.Defers
import Derived.Test.YtnnofopfbeklbaaGreatMH21
import Derived.Test.YtnnofopfbeklbaaGreatMH25
import Derived.Test.YtnnofopfbeklbaaGreatMH13
import Derived.Shelf.SlSortCmp.NoneTotal
import Derived.Shelf.SlicesQ.IndexFunc
import Derived.Shelf.SlicesE.Clone
import Derived.Ground.SlsfProg
import Derived.Ground.SlgfProg
import Derived.Ground.SlgnProg
import Derived.Shelf.SlGeneric
import Derived.Test.YtnnofopfbeklbaaGreatProg
import Derived.Test.YtnnofopfbeklbaaGreatMH09
set_option linter.unusedVariables false
set_option linter.unusedSimpArgs false
set_option maxHeartbeats 8000000
set_option maxRecDepth 100000
section
namespace Go.Proofs.YtnnofopfbeklbaaGreat.C
open Go.RowKit Go.Proofs.YtnnofopfbeklbaaGreatW.PrintWords Go.Proofs.YtnnofopfbeklbaaGreatW.PrintLast Go.Proofs.YtnnofopfbeklbaaGreatW.PrintMore
abbrev Room5:=Int × Int × Int × Int × Int
def IsBd(W:World)(b g:Nat)(R:Room5)(fr:List Int)(tb:List S117):Prop :=
 ∃fv tv,W.heap[g]? = some (.cells #[.int .u8 R.1,.int .u32 R.2.1,.int .u32 R.2.2.1,.int .i64 R.2.2.2.1,.int .i64 R.2.2.2.2,fv,tv] 108 (0,0))∧R8 W b fv fr∧Kd.R k117 117 W b (fun _=>True) tv tb
theorem IsBd.kept{W W':World}{b g:Nat}{R:Room5}{fr:List Int}{tb:List S117}(h:IsBd W b g R fr tb)(hb:Below W.heap.size W W'):IsBd W' b g R fr tb:=by
 obtain⟨fv,tv,h1,h2,h3⟩:=h
 exact⟨fv,tv,Qeh h1 hb,h2.kept hb,Kd.R_below h3 hb⟩
theorem room5{W:World}{B:Nat}{e s n u c:Int}(h:W.heap[B]? = some (.cells #[.int .u8 e,.int .u32 s,.int .u32 n,.int .i64 u,.int .i64 c] 47 (0,0))) :
  W.cell? ⟨B,0,none⟩=some (.int .u8 e)∧W.cell? ⟨B,1,none⟩=some (.int .u32 s)∧W.cell? ⟨B,2,none⟩=some (.int .u32 n)∧W.cell? ⟨B,3,none⟩=some (.int .i64 u)∧W.cell? ⟨B,4,none⟩=some (.int .i64 c) :=
 ⟨(Qds h 0).trans rfl,(Qds h 1).trans rfl,(Qds h 2).trans rfl,(Qds h 3).trans rfl,(Qds h 4).trans rfl⟩
theorem bd_New(e s n u c:Int)(hd:List Int)(w:World)(hp:Qck.f e s n=some (e,s,n,u,c,0))(hh:Qci.f e s n=some (hd,0)) :
  Calls Tryz.prog 18 #[.agg #[.int .u8 e,.int .u32 s],.int .u32 n] w fun ee w'=>∃g,ee=.returned (.tuple #[.pointer (some ⟨g,0,none⟩),.int .i64 0])∧IsBd w' w.heap.size g (e,s,n,u,c) hd []∧Below w.heap.size w w'∧w.heap.size≤g:=by
 have hu:=Tryz.underlying27
 have hu2:=Tryz.underlying47
 have hu3:=Tryz.underlying108
 have HP:=QA hp
 have HH:=QA hh
 clear hp hh
 have hba:Below w.heap.size w (w.alloc (.cells #[.int .u8 e,.int .u32 s] 27)):=Qcu (Below.refl _ _) _
 have hbn:=Qei w (.cells #[.int .u8 e,.int .u32 s] 27)
 go_enter Tryz.func18,Tryz.ntmps18
 go_wp2_with (first
  |(go_at_call 52;refine(Qck.calls e s n _ _ _ _ _ _ _ HP.out).mono ?_;rintro ee w1 ⟨rfl,hb1⟩;have hk1:=Qeh hbn hb1;have hw1:=QA (Qcx hba hba.size hb1);have hs1:=QA (show w.heap.size<w1.heap.size from Qdr hk1);have hk1':=Qee hk1 (.cells #[.int .u8 e,.int .u32 s,.int .u32 n,.int .i64 u,.int .i64 c] 47);obtain⟨c0,c1⟩:=box2 hk1';clear hk1 hb1 hbn hba)
  |(go_at_call 53;refine(Qci.calls e s n hd 0 _ HH.out).mono ?_;rintro ee w3 ⟨v3,rfl,hR3,hb3⟩;have hk3:=Qeh (Qei w1 (.cells #[.int .u8 e,.int .u32 s,.int .u32 n,.int .i64 u,.int .i64 c] 47)) hb3;obtain⟨d0,d1,d2,d3,d4⟩:=room5 hk3;obtain⟨A3,n3,c3,rfl⟩:=R8.shape hR3))
 refine bodyPost_ret (results_tmp2 rfl _ _ _) rfl ?_
 have hz1:=Nat.le_of_lt hs1.out
 have hbr:Below w1.heap.size w1 (w1.alloc (.cells #[.int .u8 e,.int .u32 s,.int .u32 n,.int .i64 u,.int .i64 c] 47)):=Qcu (Below.refl _ _) _
 have hz3:w.heap.size≤w3.heap.size:=Nat.le_trans (Nat.le_trans hz1 hbr.size) hb3.size
 refine⟨w3.heap.size,rfl,⟨_,_,Qei w3 _,?_,Kd.R_nil _ _ _ _ _⟩,?_,hz3⟩
 ·exact R8.low (R8.kept hR3 (Qcu (Below.refl _ _) _)) (Nat.le_trans hz1 hbr.size)
 ·exact((hw1.out.trans (Qjn hbr hz1)).trans (Qjn hb3 (Nat.le_trans hz1 hbr.size))).trans (Qjn (Qcu (Below.refl w3.heap.size w3) _) hz3)
theorem Qom(b g:Nat)(R:Room5)(fr:List Int)(tb:List S117)(w:World)(hI:IsBd w b g R fr tb)(hl:fr.length≤140737488355328) :
  Calls Tryz.prog 29 #[.pointer (some ⟨g,0,none⟩)] w fun e w'=>∃v:Value,e=.returned v∧R8 w' w.heap.size v fr∧Below w.heap.size w w':=by
 obtain⟨fv,tv,hv,hR,hT⟩:=hI
 obtain⟨A,n,c,rfl,hn,hlc,hC⟩:=R8.reads hR
 have hc:w.cell? ⟨g,5,none⟩=some (.slice A n c):=(Qds hv 5).trans rfl
 have hcl:=hC.1
 have hu3:=Tryz.underlying108
 have hcall:Calls Tryz.prog 70 #[.slice A n c] w fun e w'=>∃v0_:Value,e=.returned (v0_)∧R8 w' w.heap.size v0_ fr∧Below w.heap.size w w':=by
  subst hcl
  exact Qjo A c fr w hC hl
 clear hcl
 go_enter Tryz.func29,Tryz.ntmps29
 go_wp2_with (go_at_call 70;refine hcall.mono ?_;rintro e w' ⟨v1,rfl,hd,hb⟩)
 go_ret
 exact⟨_,rfl,hd,hb⟩
theorem Qon(b0 b g:Nat)(R:Room5)(fr:List Int)(tb:List S117)(fs:List Int)(fsv:Value)(sz:Nat)(w:World)(hI:IsBd w b0 g R fr tb)(hF:R8 w b fsv fs)(hbw:b≤w.heap.size)(hsz:Qap.f R.1 R.2.1=some (sz:Int))(hle:fs.length≤sz)(hs2:sz≤70368744177664) :
  Calls Tryz.prog 69 #[.pointer (some ⟨g,0,none⟩),fsv] w fun e w'=>∃v:Value,e=.returned v∧R8 w' b v (fs++List.replicate (sz-fs.length) 255)∧Below b w w':=by
 obtain⟨fv,tv,hv,hR,hT⟩:=hI
 obtain⟨A,n,c,rfl,hn,hlc,hC⟩:=R8.reads hF
 have hnf:n=fs.length:=hn.out
 have hc0:w.cell? ⟨g,0,none⟩=some (.int .u8 R.1):=(Qds hv 0).trans rfl
 have hc1:w.cell? ⟨g,1,none⟩=some (.int .u32 R.2.1):=(Qds hv 1).trans rfl
 have hu:=Tryz.underlying27
 have hu2:=Tryz.underlying47
 have hu3:=Tryz.underlying108
 have hnsz:n≤sz:=by omega
 have hsub:IntKind.i64.wrap ((sz:Int)-(n:Int))=((sz-n:Nat):Int):=by rw[IntWalk.i64_in _ (by omega)];omega
 have hsub2:(sz:Int)-(n:Int)=((sz-n:Nat):Int):=by omega
 obtain⟨k,hk⟩:∃k,k=sz-n:=⟨_,rfl⟩
 rw[← hk]at hsub hsub2
 have HK:=QA hk
 have HSZ:=QA hsz
 have HF:=QA hF
 have HNF:=QA hnf
 clear hk hsz hF hnf
 go_enter Tryz.func69,Tryz.ntmps69
 go_wp2_with (first
  |(go_at_call 78;refine(Qap.calls _ _ _ _ HSZ.out).mono ?_;rintro e w1 ⟨rfl,hb1⟩)
  |(go_at_call 120;go_loud (refine(Qol _ _ 255 k _ (by have:=HK.out;omega) ?hrep).mono ?_;(case hrep=>exact Kd.C_of_reads (d:=(0:Int)) ⟨rfl,by omega,fun _=>⟨_,rfl,fun j hj=>by(obtain rfl:j=0:=(by omega));exact(Qds (Qei w1 _) 0).trans rfl⟩⟩);rintro e w2 ⟨A2,c2,rfl,hkc2,hC2,hb2⟩))
  |(at_builtin;refine Kd.R_append_rows (Kd.int .u8) (Rr:=fun x cs=>cs=[.int .u8 x]) (w0:=w) b rfl (.tmp 15) (.tmp 18) 52 5 (.int .u8 0) 1 rfl Tryz.underlying52 Qiu rfl (by decide) (by omega) (.slice A n c) fs (List.replicate k 255) A2 k c2 (fun _=>True) (fun _=>False) rfl rfl ?bO hC2 (fun _ _ h=>h) (fun _ hk=>hk.elim) (fun _ _=>trivial) ?bB ?bS ?bL ?_;(case bO=>exact R8.kept (R8.kept (R8.kept HF.out hb1) (Qcu (Below.refl _ _) _)) hb2);(case bB=>exact((Qjn hb1 hbw).trans (Qjn (Qcu (Below.refl w1.heap.size w1) _) (Nat.le_trans hbw hb1.size))).trans (Qjn hb2 (by rw[World.size_alloc];have:=hb1.size;omega)););(case bS=>have h1:=hb1.size;have h2:=hb2.size;rw[World.size_alloc]at h2;omega);(case bL=>have:=HK.out;have:=HNF.out;omega);intro v3 w3 HR3 hb3 hg3 hat3))
 go_ret
 refine⟨v3,rfl,?_,hb3⟩
 have e1:k=sz-fs.length:=by rw[HK.out,HNF.out]
 rw[← e1]
 exact HR3
theorem bd_Open(b g:Nat)(R:Room5)(fr:List Int)(tb:List S117)(sz:Nat)(w:World)(hI:IsBd w b g R fr tb)(hsz:Qap.f R.1 R.2.1=some (sz:Int))(hle:fr.length≤sz)(hs2:sz≤70368744177664) :
  Calls Tryz.prog 30 #[.pointer (some ⟨g,0,none⟩)] w fun e w'=>∃v:Value,e=.returned v∧R8 w' w.heap.size v (fr++List.replicate (sz-fr.length) 255)∧Below w.heap.size w w':=by
 go_enter Tryz.func30,Tryz.ntmps30
 go_wp2_with (first
  |(go_at_call 29;refine(Qom b g R fr tb w hI (by omega)).mono ?_;rintro e w1 ⟨v1,rfl,hR1,hb1⟩)
  |(go_at_call 69;refine(Qon b w.heap.size g R fr tb fr v1 sz w1 (hI.kept hb1) hR1 hb1.size hsz hle hs2).mono ?_;rintro e w2 ⟨v2,rfl,hR2,hb2⟩))
 go_ret
 exact⟨v2,rfl,hR2,hb1.trans hb2⟩
theorem Qoo:(Tryz.prog.info? 117).map (fun i=>(i.zero,i.size,i.bytes))=some (some (.agg #[.int .u64 0,.int .u32 0]),2,16):=by kernel_rfl
def h12:List Int:=[5,1,2,12,1,9,239,228,35,222,95,189,149,23,0]
theorem head12:Qci.f 12 1 0=some (h12,0):=by kernel_rfl
theorem empty12:Qck.f 12 1 0=some (12,1,0,15,0,0):=by kernel_rfl
theorem size12:Qap.f 12 1=some ((4096:Nat):Int):=by kernel_rfl
def o12:List Int:=h12++List.replicate (4096-h12.length) 255
theorem o12_at:o12.length=4096∧rd o12 14=0∧rd o12 15=255∧rd o12 4095=255:=⟨by kernel_rfl,by kernel_rfl,by kernel_rfl,by kernel_rfl⟩
def Qaq.f:Option Bool:=some true
theorem Qaq.calls(r:Bool)(w:World)(h:Qaq.f=some r) :
  Calls Tryz.prog 15 #[] w fun e w'=>e=.returned (.bool r)∧Below w.heap.size w w':=by
 obtain rfl:=Option.some.inj h
 have hu:=Tryz.underlying27
 go_enter Tryz.func15,Tryz.ntmps15
 go_wp2_with (first
  |(go_at_call 18;refine(bd_New 12 1 0 15 0 h12 w empty12 head12).mono ?_;rintro e w1 ⟨g,rfl,hI1,hb1,hg1⟩)
  |(go_at_call 30;go_loud (refine(bd_Open w.heap.size g (12,1,0,15,0) h12 [] 4096 w1 hI1 size12 (by decide) (by decide)).mono ?_;rintro e w2 ⟨v2,rfl,hR2,hb2⟩;obtain⟨A2,n2,c2,rfl,hn2,hlc2,hC2⟩:=R8.reads hR2;have hn2':n2=4096:=hn2.out.trans o12_at.1;subst hn2';obtain⟨ad,rfl,x14⟩:=Kd.at_int hC2 14 (by decide) (by decide);obtain⟨ad',hh,x15⟩:=Kd.at_int hC2 15 (by decide) (by decide);cases hh;obtain⟨ad',hh,x4095⟩:=Kd.at_int hC2 4095 (by decide) (by decide);cases hh;have y14:w2.cell? ⟨ad.block,ad.off+14,none⟩=some (.int .u8 0):=x14.trans (congrArg (fun z=>some (Value.int .u8 z)) o12_at.2.1);have y15:w2.cell? ⟨ad.block,ad.off+15,none⟩=some (.int .u8 255):=x15.trans (congrArg (fun z=>some (Value.int .u8 z)) o12_at.2.2.1);have y4095:w2.cell? ⟨ad.block,ad.off+4095,none⟩=some (.int .u8 255):=x4095.trans (congrArg (fun z=>some (Value.int .u8 z)) o12_at.2.2.2);clear x14 x15 x4095)))
 go_ret
 exact⟨rfl,hb1.trans (Qjn hb2 hb1.size)⟩
theorem f_of_C{W:World}{A:Option Addr}{n:Nat}{xs:List Int}(h:Kd.C (Kd.int .u8) W A n xs):Kd.F (Kd.int .u8) W (fun _=>True) A n xs:=by
 intro W' hW
 obtain⟨g,hg⟩:∃g,g=W.heap.size+(match A with|some ad=>ad.block+1|none=>0):=⟨_,rfl⟩
 refine Kd.C_keep (g:=g) (0:Int) h ⟨?_,fun i hi _ _=>hW i trivial hi⟩ ?_
 ·rcases Nat.eq_zero_or_pos W.heap.size with h0|h0
  ·omega
  ·have:=Qhy (hW (W.heap.size-1) trivial (by omega)) (by omega)
   omega
 ·rintro ad rfl _
  rw[hg]
  dsimp only
  omega
theorem Qsj{w W:World}{tb:Nat}{x:Int}(hk:W.heap[tb]? = some (.cells #[.int .u64 x] 34 (0,0))):W.frozen? ⟨tb,0,none⟩=false∧W.cell? ⟨tb,0,none⟩=some (.int .u64 x):=⟨Qdt hk 0,(Qds hk 0).trans rfl⟩
theorem Qsk(as_:Array Value)(W:World):(callFunc 171 as_).run Tryz.prog W=.ok (.enter 171 as_) W:=by
 simp[callFunc,Tryz.func171,Tryz.f171]
theorem IsCur.far64{W:World}{b g tb j:Nat}{bs:List Int}{i:Int}{u:Value}{cs:Array Value}(h:IsCur W b g bs i)(hr:W.heap[tb]? = some (.cells cs 34 (0,0))):IsCur (W.setCell ⟨tb,j,none⟩ u) b g bs i:=by
 obtain⟨v,h1,h2⟩:=h
 exact⟨v,Qdq h1 (p:=⟨tb,j,none⟩) (Qdv h1 hr (by decide)) u,h2.set hr (by decide) j u⟩
theorem Qsl(tb lo g:Nat)(bs:List Int)(x y:Int)(hb:CodecP.Bytes bs)(hl8:bs.length=8)(hlg:lo≤g)(htb:tb<lo)(hx:CodecP.leI bs=x)(w:World)(hI:IsCur w lo g bs 0)
  (hk:w.heap[tb]? = some (.cells #[.int .u64 y] 34 (0,0))) :
  Calls Tryz.prog 171 #[.pointer (some ⟨g,0,none⟩),.pointer (some ⟨tb,0,none⟩)] w fun e W'=>e=.returned (.tuple #[])∧IsCur W' lo g bs (0+8)∧Tl lo g w W'∧Below tb w W'∧W'.heap[tb]? = some (.cells #[.int .u64 x] 34 (0,0)):=by
 have HI:=QA hI
 have HK:=QA hk
 have hlw:lo≤w.heap.size:=Nat.le_of_lt (Nat.lt_of_le_of_lt hlg hI.lt)
 have HE:=QA (Qqx (bs.length+1) lo g bs bs 0 x (by rw[Int.toNat_zero,List.drop_zero,← hl8,List.take_length]) (Int.le_refl _) (by omega) (by omega) hlg (by rw[CodecP.num_key bs hb (by omega),hx]) w hlw hI)
 clear hI hk
 go_enter Tryz.func171,Tryz.ntmps171
 go_wp2_with (go_at_call 172;refine HE.out.mono ?_;rintro ee w1 ⟨rfl,hI1,hB1⟩;have k1:=(hB1.1.block tb htb).trans HK.out;obtain⟨t0,t1⟩:=Qsj (w:=w) k1)
 go_end0
 obtain⟨h1,h2⟩:=hB1
 exact⟨rfl,hI1.far64 k1,fun k cs t q1 q2 q3 q4=>Qdq (h2 _ _ _ q2 q3 q4) (p:=⟨tb,0,none⟩) (by show k≠tb;omega) _,Qjm (Qjn h1 (Nat.le_of_lt htb)) (Nat.le_refl _),Qdp k1 0 _⟩
theorem Qsm(A0:Option Addr)(c0:Nat)(l0:List Int)(x:Int)(tb:Nat)(w:World)(hb:CodecP.Bytes l0)(hl:l0.length=8)(hx:CodecP.leI l0=x)(hr0:Kd.C (Kd.int .u8) w A0 l0.length l0)
  (hk:w.heap[tb]? = some (.cells #[.int .u64 0] 34 (0,0))) :
  Calls Tryz.prog 137 #[.slice A0 l0.length c0,.func (.func 171) #[] #[.pointer (some ⟨tb,0,none⟩)]] w fun e w'=>∃er i,e=.returned (.tuple #[.int .i64 i,.int .i64 er])∧Below tb w w' ∧
   w'.heap[tb]? = some (.cells #[.int .u64 x] 34 (0,0)):=by
 have hlt:=Qdr hk
 refine Qry 171 #[.pointer (some ⟨tb,0,none⟩)] A0 c0 l0 w hr0 (by omega) Qsk (fun er _ W'=>Below tb w W'∧W'.heap[tb]? = some (.cells #[.int .u64 x] 34 (0,0))) ?_ ?_
 ·rintro er i W W' ⟨h1,h2⟩ h3
  exact⟨h1.trans (Qjn h3 (Nat.le_of_lt hlt)),(h3.block tb hlt).trans h2⟩
 ·intro W g hg hB hI
  refine(Qsl tb w.heap.size g l0 x 0 hb hl hg hlt hx W hI ((hB.block tb hlt).trans hk)).mono ?_
  rintro e W' ⟨h1,h2,h3,h4,h5⟩
  exact⟨_,h2,h3,.inl ⟨h1,(Qjn hB (Nat.le_of_lt hlt)).trans h4,h5⟩⟩
theorem Qsn{P:Program}(t e:TypeId)(k:IntKind){i:TypeInfo}(ht:P.underlying t=some (.slice e))(hi:P.info? e=some i)(A:Option Addr)(n c:Nat)(j:Int)(h0:0≤j)(hm:j≤n)(hc:n≤c) :
  ∀W:World,(Instr.slice t (.slice A n c) none (some (.int k j)) (some (.int k j))).run P W=.ok (.slice A j.toNat j.toNat) W:=by
 intro W
 have hel:P.elem t=e:=by simp[Program.elem,ht]
 have hu:P.underlying t=some (.slice (P.elem t)):=by rw[hel];exact ht
 have ha:(A.map fun x=>x.add 0)=A:=by cases A<;>simp[Addr.add]
 rw[run_slice_hm W t A n c hu k k j j h0 (Int.le_refl _) (by omega),hel]
 simp[sizeOf,typeInfo,hi,sliced,Result.andThen,ha]
def Qso(t:List Int):List Int × Int:=if t.length<8 then([],2)else if CodecP.leI (t.drop (t.length-8))=Qma 0 (t.take (t.length-8))then(t.take (t.length-8),0)else([],5)
noncomputable def Qch.f(k:Nat)(l0:List Int):Option (List Int × Int):=(Qan.f k l0).bind fun t=>if t.2=0 then @ite _ (CodecP.Bytes t.1∧t.1.length≤35184372088824) (Classical.propDecidable _) (some (Qso t.1)) none else some ([],t.2)
theorem Qch.calls(k:Nat)(A0:Option Addr)(c0:Nat)(l0:List Int)(r1:List Int)(r2:Int)(w:World)(hr0:Kd.C (Kd.int .u8) w A0 l0.length l0)(hc0:l0.length≤c0)(h:Qch.f k l0=some (r1,r2)) :
  Calls Tryz.prog 128 #[.slice A0 l0.length c0] w fun e w'=>∃A c,e=.returned (.tuple #[.slice A r1.length c,.int .i64 r2])∧Kd.C (Kd.int .u8) w' A r1.length r1∧r1.length≤c∧Below w.heap.size w w':=by
 unfold Qch.f at h
 obtain⟨⟨out,e0⟩,hU,h⟩:=Option.bind_eq_some_iff.mp h
 dsimp only at h
 have HU:=QA (Qan.calls k (fun _=>True) A0 c0 l0 out e0 w (Kd.V_mk hc0 (f_of_C hr0)) hU)
 clear hU hr0 hc0
 by_cases he:e0=0
 ·subst he
  rw[if_pos rfl]at h
  by_cases hg:CodecP.Bytes out∧out.length≤35184372088824
  ·rw [if_pos hg]at h
   have h2:=Option.some.inj h
   unfold Qso at h2
   clear h
   by_cases h8:out.length<8
   ·rw[if_pos h8]at h2
    obtain⟨rfl,rfl⟩:=Prod.mk.inj h2
    have hw1:IntKind.i64.wrap ((out.length:Int)-8)=(out.length:Int)-8:=IntWalk.i64_in _ (by omega)
    have hb1:decide ((out.length:Int)-8<0)=true:=decide_eq_true (by omega)
    clear h2
    go_enter Tryz.func128,Tryz.ntmps128
    go_wp2_with (go_at_call 170;refine HU.out.mono ?_;rintro ee w1 ⟨v1,rfl,hR1,hb1⟩;obtain⟨A1,c1,rfl⟩:=Kd.R_slice hR1)
    refine bodyPost_ret (results_tmp2 rfl _ _ _) rfl ?_
    exact⟨none,0,rfl,Kd.C_nil _ _,Nat.le_refl _,hb1⟩
   ·rw[if_neg h8]at h2
    obtain⟨m,hm⟩:∃m,m=out.length-8:=⟨_,rfl⟩
    rw[← hm]at h2
    obtain⟨xs,hxs⟩:∃xs,xs=out.drop m:=⟨_,rfl⟩
    rw[← hxs]at h2
    have hxl:xs.length=8:=by rw[hxs,List.length_drop];omega
    obtain⟨ys,hys⟩:∃ys,ys=out.take m:=⟨_,rfl⟩
    rw[← hys]at h2
    have hyl:ys.length=m:=by rw[hys,List.length_take];omega
    obtain⟨j,hj⟩:∃j:Int,j=(out.length:Int)-8:=⟨_,rfl⟩
    have hw1:IntKind.i64.wrap ((out.length:Int)-8)=j:=by rw[hj];exact IntWalk.i64_in _ (by omega)
    have hj0:0≤j:=by omega
    have hjm:j.toNat=m:=by omega
    have hb1:decide (j<0)=false:=decide_eq_false (by omega)
    have HXB:Aside0 (CodecP.Bytes xs):=⟨by rw[hxs];exact hg.1.drop _⟩
    have HF:=QA (And.intro hm (And.intro hxs (And.intro hys hj)))
    have HG:=QA hg
    obtain⟨i0,hii,_,hsz,_⟩:=info_parts Qiu
    have hlen64:IntKind.i64.wrap (out.length:Int)=(out.length:Int):=IntWalk.i64_in _ (by omega)
    obtain⟨x,hx⟩:∃x,x=CodecP.leI xs:=⟨_,rfl⟩
    rw[← hx]at h2
    have HX:=QA hx.symm
    have HJL:Aside0 (j≤(out.length:Int)):=⟨by omega⟩
    clear hx hm hxs hys hj hg
    have UP:∀(P:Ending→World→Prop),(∀ee w1 A1 c1,ee=.returned (.tuple #[.slice A1 out.length c1,.int .i64 0])→R8 w1 w.heap.size (.slice A1 out.length c1) out→Below w.heap.size w w1 →
      (∀W:World,(Instr.slice 52 (.slice A1 out.length c1) none (some (.int .i64 j)) none).run Tryz.prog W=.ok (.slice A1 ys.length c1) W) →
      (∀W:World,(Instr.slice 52 (.slice A1 out.length c1) none (some (.int .i64 j)) (some (.int .i64 j))).run Tryz.prog W=.ok (.slice A1 ys.length ys.length) W) →
      (∃A2 c2,(∀W:World,(Instr.slice 52 (.slice A1 out.length c1) (some (.int .i64 j)) none none).run Tryz.prog W=.ok (.slice A2 xs.length c2) W)∧Kd.C (Kd.int .u8) w1 A2 xs.length xs)→Kd.C (Kd.int .u8) w1 A1 ys.length ys→P ee w1) →
      Calls Tryz.prog 170 #[.slice A0 l0.length c0] w P:=by
     intro P hP
     refine HU.out.mono ?_
     rintro ee w1 ⟨v1,rfl,hR1,hb1⟩
     obtain⟨A1,c1,rfl⟩:=Kd.R_slice hR1
     obtain⟨_,hlc,hC1⟩:=Kd.R_reads' hR1
     have e1:=Qet (P:=Tryz.prog) 52 5 .i64 Tryz.underlying52 hii A1 out.length c1 j hj0 HJL.out hlc
     have e2:=Qsn (P:=Tryz.prog) 52 5 .i64 Tryz.underlying52 hii A1 out.length c1 j hj0 HJL.out hlc
     have e3:=Qeu (P:=Tryz.prog) 52 5 .i64 Tryz.underlying52 hii 1 hsz A1 out.length c1 j hj0 HJL.out
     have hml:m≤out.length:=by have:=HJL.out;omega
     have hC2:=Kd.C_drop (m:=m) hC1 hml hlc
     have hC3:=Kd.C_take (m:=m) hC1 hml
     rw[hjm,← hyl]at e1 e2
     rw[← HF.out.2.2.1]at hC3
     rw[← HF.out.2.1]at hC2
     rw[hjm,show out.length-m=xs.length by rw[HF.out.2.1,List.length_drop]]at e3
     exact hP _ w1 A1 c1 rfl (Kd.R_mono hR1 (fun _ _=>trivial)) hb1 e1 e2 ⟨_,_,e3,hC2⟩ hC3
    have UPA:=QA UP
    have hyl2:ys.length≤140737488355328:=by have:=HG.out.2;have:=HJL.out;omega
    have HL:=QA (And.intro hyl (And.intro hjm (And.intro hxl hyl2)))
    have H2:=QA h2
    clear UP HU HG HF hlen64 hyl hjm hxl hyl2 hii hsz h2
    have stp:∀(P:Ending→World→Prop),(∀w' A c,Below w.heap.size w w'→Kd.C (Kd.int .u8) w' A ys.length ys→ys.length≤c→x=Qma 0 ys→P (.returned (.tuple #[.slice A ys.length c,.int .i64 0])) w') →
      (∀w',Below w.heap.size w w'→x≠Qma 0 ys→P (.returned (.tuple #[.slice none 0 0,.int .i64 5])) w')→Calls Tryz.prog 128 #[.slice A0 l0.length c0] w P:=by
     intro P hP1 hP2
     by_cases hh:x=Qma 0 ys
     ·have hne:(x != Qma 0 ys)=false:=bne_eq_false_iff_eq.2 hh
      go_enter Tryz.func128,Tryz.ntmps128
      go_upto_region 7 with(go_at_call 170;refine UPA.out _ ?_;rintro ee w1 A1 c1 rfl hR1 hb1 e1 e2 ⟨A2,c2,e3,hC2⟩ hC3;have HR1:=QA hR1;have HB1:=QA hb1;have HC2:=QA hC2;have HC3:=QA hC3;clear hR1 hb1 hC2 hC3)
      have kt:=Qei w1 (.cells #[.int .u64 0] 34 (0,0))
      have RUN:=QA (Qsm A2 c2 xs x w1.heap.size _ HXB.out HL.out.2.2.1 HX.out (Kd.C_below HC2.out (Qcu (Below.refl _ _) _)) kt)
      go_upto_region 9 with(go_at_call 137;refine RUN.out.mono ?_;rintro ee w3 ⟨er,i,rfl,hb3,hk3⟩)
      have t3:=(Qsj (w:=w) hk3).2
      have t3d:=(Qsj (w:=w) (show w3.drew.heap[w1.heap.size]? = some (.cells #[.int .u64 x] 34 (0,0)) from hk3)).2
      have b13:Below w1.heap.size w1 w3:=(Qcu (Below.refl _ _) _).trans hb3
      have HC4:=QA (Kd.C_below HC3.out (b13.trans (Qjn (Qcv (Below.refl _ _)) b13.size)))
      have B13:=QA (b13.trans (Qjn (Qcv (Below.refl w3.heap.size w3)) b13.size))
      go_region_held3 (fun w'=>w'.cell? ⟨w1.heap.size,0,none⟩=some (.int .u64 x)) (first|exact t3d|exact t4) (first |(go_at_call 101;refine(Qmc 0 A1 c1 ys _ HC4.out HL.out.2.2.2).mono ?_;rintro e w4 ⟨rfl,hb4⟩;have B14:=QA (B13.out.trans (Qjn hb4 B13.out.size));have t4:=(Qsj (w:=w) ((hb4.block w1.heap.size (Qdr (show w3.drew.heap[w1.heap.size]? = some (.cells #[.int .u64 x] 34 (0,0)) from hk3))).trans (show w3.drew.heap[w1.heap.size]? = some (.cells #[.int .u64 x] 34 (0,0)) from hk3))).2))
      go_wp2_with fail
      have BB:=HB1.out.trans (Qjn B14.out HB1.out.size)
      exact hP1 _ _ _ BB (Kd.C_below HC3.out B14.out) (Nat.le_refl _) hh
     ·have hne:(x != Qma 0 ys)=true:=bne_iff_ne.2 hh
      go_enter Tryz.func128,Tryz.ntmps128
      go_upto_region 7 with(go_at_call 170;refine UPA.out _ ?_;rintro ee w1 A1 c1 rfl hR1 hb1 e1 e2 ⟨A2,c2,e3,hC2⟩ hC3;have HR1:=QA hR1;have HB1:=QA hb1;have HC2:=QA hC2;have HC3:=QA hC3;clear hR1 hb1 hC2 hC3)
      have kt:=Qei w1 (.cells #[.int .u64 0] 34 (0,0))
      have RUN:=QA (Qsm A2 c2 xs x w1.heap.size _ HXB.out HL.out.2.2.1 HX.out (Kd.C_below HC2.out (Qcu (Below.refl _ _) _)) kt)
      go_upto_region 9 with(go_at_call 137;refine RUN.out.mono ?_;rintro ee w3 ⟨er,i,rfl,hb3,hk3⟩)
      have t3:=(Qsj (w:=w) hk3).2
      have t3d:=(Qsj (w:=w) (show w3.drew.heap[w1.heap.size]? = some (.cells #[.int .u64 x] 34 (0,0)) from hk3)).2
      have b13:Below w1.heap.size w1 w3:=(Qcu (Below.refl _ _) _).trans hb3
      have HC4:=QA (Kd.C_below HC3.out (b13.trans (Qjn (Qcv (Below.refl _ _)) b13.size)))
      have B13:=QA (b13.trans (Qjn (Qcv (Below.refl w3.heap.size w3)) b13.size))
      go_region_held3 (fun w'=>w'.cell? ⟨w1.heap.size,0,none⟩=some (.int .u64 x)) (first|exact t3d|exact t4) (first |(go_at_call 101;refine(Qmc 0 A1 c1 ys _ HC4.out HL.out.2.2.2).mono ?_;rintro e w4 ⟨rfl,hb4⟩;have B14:=QA (B13.out.trans (Qjn hb4 B13.out.size));have t4:=(Qsj (w:=w) ((hb4.block w1.heap.size (Qdr (show w3.drew.heap[w1.heap.size]? = some (.cells #[.int .u64 x] 34 (0,0)) from hk3))).trans (show w3.drew.heap[w1.heap.size]? = some (.cells #[.int .u64 x] 34 (0,0)) from hk3))).2))
      go_wp2_with fail
      have BB:=HB1.out.trans (Qjn B14.out HB1.out.size)
      exact hP2 _ BB hh
    refine stp _ ?_ ?_
    ·intro w' A c h1 h3 h4 h5
     have h6:=H2.out
     rw[if_pos h5]at h6
     obtain⟨rfl,rfl⟩:=Prod.mk.inj h6
     exact⟨A,c,rfl,h3,h4,h1⟩
    ·intro w' h1 h5
     have h6:=H2.out
     rw[if_neg h5]at h6
     obtain⟨rfl,rfl⟩:=Prod.mk.inj h6
     exact⟨none,0,rfl,Kd.C_nil _ _,Nat.le_refl _,h1⟩
  ·rw[if_neg hg]at h;cases h
 ·rw[if_neg he]at h
  simp only[Option.some.injEq,Prod.mk.injEq]at h
  obtain⟨rfl,rfl⟩:=h
  have hne:(e0 != 0)=true:=bne_iff_ne.2 he
  go_enter Tryz.func128,Tryz.ntmps128
  go_wp2_with (go_at_call 170;refine HU.out.mono ?_;rintro ee w1 ⟨v1,rfl,hR1,hb1⟩;obtain⟨A1,c1,rfl⟩:=Kd.R_slice hR1)
  refine bodyPost_ret (results_tmp2 rfl _ _ _) rfl ?_
  exact⟨none,0,rfl,Kd.C_nil _ _,Nat.le_refl _,hb1⟩
end Go.Proofs.YtnnofopfbeklbaaGreat.C
end
section
namespace Go.Proofs
open Go.Shelf
def Tryz.sortEnt_ren:Go.Shelf.Ren:=⟨fun|6=>117|15=>164|14=>163|28=>213|29=>214|20=>205|21=>206|22=>207|23=>208|24=>209|25=>210|26=>211|27=>212|46=>227|47=>228|48=>229|49=>230|50=>231|57=>239|n=>n,fun|22=>106|24=>117|25=>186|3=>3|39=>223|0=>0|53=>22|55=>34|4=>4|46=>279|45=>278|50=>283|5=>5|9=>9|66=>300|70=>303|76=>310|77=>311|n=>n,fun|n=>n⟩
theorem Tryz.sortEnt:Go.Proofs.SlLaysF0.n6 Tryz.prog Tryz.sortEnt_ren:={
 mixed:=by kernel_rfl
 f6:=⟨Tryz.f117.name,by decide,Tryz.func117.trans (congrArg some (by kernel_rfl))⟩
 f14:=⟨Tryz.f163.name,by decide,Tryz.func163.trans (congrArg some (by kernel_rfl))⟩
 f15:=Tryz.func164.trans (congrArg some (by kernel_rfl))
 f20:=⟨Tryz.f205.name,by decide,Tryz.func205.trans (congrArg some (by kernel_rfl))⟩
 f21:=⟨Tryz.f206.name,by decide,Tryz.func206.trans (congrArg some (by kernel_rfl))⟩
 f22:=⟨Tryz.f207.name,by decide,Tryz.func207.trans (congrArg some (by kernel_rfl))⟩
 f23:=⟨Tryz.f208.name,by decide,Tryz.func208.trans (congrArg some (by kernel_rfl))⟩
 f24:=⟨Tryz.f209.name,by decide,Tryz.func209.trans (congrArg some (by kernel_rfl))⟩
 f25:=⟨Tryz.f210.name,by decide,Tryz.func210.trans (congrArg some (by kernel_rfl))⟩
 f26:=⟨Tryz.f211.name,by decide,Tryz.func211.trans (congrArg some (by kernel_rfl))⟩
 f27:=⟨Tryz.f212.name,by decide,Tryz.func212.trans (congrArg some (by kernel_rfl))⟩
 f28:=Tryz.func213.trans (congrArg some (by kernel_rfl))
 f29:=Tryz.func214.trans (congrArg some (by kernel_rfl))
 f46:=⟨Tryz.f227.name,by decide,Tryz.func227.trans (congrArg some (by kernel_rfl))⟩
 f47:=Tryz.func228.trans (congrArg some (by kernel_rfl))
 f48:=Tryz.func229.trans (congrArg some (by kernel_rfl))
 f49:=⟨Tryz.f230.name,by decide,Tryz.func230.trans (congrArg some (by kernel_rfl))⟩
 f50:=⟨Tryz.f231.name,by decide,Tryz.func231.trans (congrArg some (by kernel_rfl))⟩
 f57:=⟨Tryz.f239.name,by decide,Tryz.func239.trans (congrArg some (by kernel_rfl))⟩
 t0:=Tryz.underlying0
 a0:=Tryz.isAgg0
 z0:=Tryz.sizeOf0
 v0:=Tryz.zeroValue0
 t3:=Tryz.underlying3
 a3:=Tryz.isAgg3
 z3:=Tryz.sizeOf3
 v3:=Tryz.zeroValue3
 t4:=Tryz.underlying4
 a4:=Tryz.isAgg4
 z4:=Tryz.sizeOf4
 v4:=Tryz.zeroValue4
 t5:=Tryz.underlying5
 a5:=Tryz.isAgg5
 z5:=Tryz.sizeOf5
 v5:=Tryz.zeroValue5
 t9:=Tryz.underlying9
 a9:=Tryz.isAgg9
 z9:=Tryz.sizeOf9
 v9:=Tryz.zeroValue9
 t22:=Tryz.underlying106
 a22:=Tryz.isAgg106
 z22:=Tryz.sizeOf106
 v22:=Tryz.zeroValue106
 t25:=Tryz.underlying186
 a25:=Tryz.isAgg186
 z25:=Tryz.sizeOf186
 v25:=Tryz.zeroValue186
 t39:=Tryz.underlying223
 a39:=Tryz.isAgg223
 z39:=Tryz.sizeOf223
 v39:=Tryz.zeroValue223
 t45:=Tryz.underlying278
 a45:=Tryz.isAgg278
 z45:=Tryz.sizeOf278
 v45:=Tryz.zeroValue278
 t46:=Tryz.underlying279
 a46:=Tryz.isAgg279
 z46:=Tryz.sizeOf279
 v46:=Tryz.zeroValue279
 t50:=Tryz.underlying283
 a50:=Tryz.isAgg283
 z50:=Tryz.sizeOf283
 v50:=Tryz.zeroValue283
 t53:=Tryz.underlying22
 a53:=Tryz.isAgg22
 z53:=Tryz.sizeOf22
 v53:=Tryz.zeroValue22
 t55:=Tryz.underlying34
 a55:=Tryz.isAgg34
 z55:=Tryz.sizeOf34
 v55:=Tryz.zeroValue34
 t66:=Tryz.underlying300
 a66:=Tryz.isAgg300
 z66:=Tryz.sizeOf300
 v66:=Tryz.zeroValue300
 t70:=Tryz.underlying303
 a70:=Tryz.isAgg303
 z70:=Tryz.sizeOf303
 v70:=Tryz.zeroValue303
 t76:=Tryz.underlying310
 a76:=Tryz.isAgg310
 z76:=Tryz.sizeOf310
 v76:=Tryz.zeroValue310
 t77:=Tryz.underlying311
 a77:=Tryz.isAgg311
 z77:=Tryz.sizeOf311
 v77:=Tryz.zeroValue311 }
def Tryz.hasEnt_ren:Go.Shelf.Ren:=⟨fun|8=>161|6=>203|n=>n,fun|22=>106|23=>117|25=>233|4=>4|3=>3|0=>0|n=>n,fun|n=>n⟩
theorem Tryz.hasEnt:Go.Proofs.SlLaysH0.n8 Tryz.prog Tryz.hasEnt_ren:={
 mixed:=by kernel_rfl
 f6:=⟨Tryz.f203.name,by decide,Tryz.func203.trans (congrArg some (by kernel_rfl))⟩
 f8:=⟨Tryz.f161.name,by decide,Tryz.func161.trans (congrArg some (by kernel_rfl))⟩
 t0:=Tryz.underlying0
 a0:=Tryz.isAgg0
 z0:=Tryz.sizeOf0
 v0:=Tryz.zeroValue0
 t3:=Tryz.underlying3
 a3:=Tryz.isAgg3
 z3:=Tryz.sizeOf3
 v3:=Tryz.zeroValue3
 t4:=Tryz.underlying4
 a4:=Tryz.isAgg4
 z4:=Tryz.sizeOf4
 v4:=Tryz.zeroValue4
 t22:=Tryz.underlying106
 a22:=Tryz.isAgg106
 z22:=Tryz.sizeOf106
 v22:=Tryz.zeroValue106
 t25:=Tryz.underlying233
 a25:=Tryz.isAgg233
 z25:=Tryz.sizeOf233
 v25:=Tryz.zeroValue233 }
def Tryz.cloneEnt_ren:Go.Shelf.Ren:=⟨fun|41=>116|n=>n,fun|22=>106|23=>117|4=>4|n=>n,fun|n=>n⟩
theorem Tryz.cloneEnt:Go.Proofs.SlLaysE0.n41 Tryz.prog Tryz.cloneEnt_ren:={
 mixed:=by kernel_rfl
 f41:=⟨Tryz.f116.name,by decide,Tryz.func116.trans (congrArg some (by kernel_rfl))⟩
 t4:=Tryz.underlying4
 a4:=Tryz.isAgg4
 z4:=Tryz.sizeOf4
 v4:=Tryz.zeroValue4
 t22:=Tryz.underlying106
 a22:=Tryz.isAgg106
 z22:=Tryz.sizeOf106
 v22:=Tryz.zeroValue106 }
end Go.Proofs
end
section
namespace Go.Proofs.YtnnofopfbeklbaaGreat.C
open Go.RowKit Go.Proofs.YtnnofopfbeklbaaGreatW.PrintWords Go.Proofs.YtnnofopfbeklbaaGreatW.PrintLast Go.Proofs.YtnnofopfbeklbaaGreatW.PrintMore
open Go.Sort
abbrev Ent:=S117
def cfE(x y:Ent):Int:=if x.f0<y.f0 then -1 else if y.f0<x.f0 then 1 else if x.f1<y.f1 then -1 else if y.f1<x.f1 then 1 else 0
def ci(a b:Int):Int:=if a<b then -1 else if b<a then 1 else 0
theorem Qop(a b:Int):Qag.f a b=some (ci a b):=by
 unfold Qag.f Qak.f ci
 simp
 split
 ·rfl
 ·split<;>rfl
theorem Qoq(a b:Int):Qaf.f a b=some (ci a b):=by
 unfold Qaf.f Qaj.f ci
 simp
 split
 ·rfl
 ·split<;>rfl
def orI(a b:Int):Int:=if a=0 then b else a
theorem or_is(a b:Int):Qai.f 4 [a,b]=some (orI a b):=by
 have r0:YtnnofopfbeklbaaGreatW.PrintWords.rd [a,b] 0=a:=rfl
 have r1:YtnnofopfbeklbaaGreatW.PrintWords.rd [a,b] 1=b:=rfl
 simp[Qai.f,Qai.l0,wrap64,r0,r1,orI]
 split
 ·split<;>simp_all
 ·rfl
theorem Qor(x y:Ent):orI (ci x.f0 y.f0) (ci x.f1 y.f1)=cfE x y:=by
 unfold orI ci cfE
 by_cases h1:x.f0<y.f0
 ·simp[h1]
 ·by_cases h2:y.f0<x.f0<;>simp[h1,h2]
def Gr(w w':World):Prop:=∃q os,w'=grow (w.drewN q) os
theorem Gr.refl(w:World):Gr w w:=⟨0,#[],by simp;rfl⟩
theorem Gr.drewN{w w':World}(h:Gr w w')(n:Nat):Gr w (w'.drewN n):=by
 obtain⟨q,os,rfl⟩:=h
 exact⟨q+n,os,by simp[grow,World.drewN,Nat.add_assoc]⟩
theorem Gr.drew{w w':World}(h:Gr w w'):Gr w w'.drew:=h.drewN 1
theorem Gr.alloc{w w':World}(h:Gr w w')(o:Obj):Gr w (w'.alloc o):=by
 obtain⟨q,os,rfl⟩:=h
 exact⟨q,os++#[o],by rw[alloc_eq_grow,grow_grow]⟩
theorem Qos(a b:Int)(W:World):Calls Tryz.prog 166 #[.int .u64 a,.int .u64 b] W fun e w'=>e=.returned (.int .i64 (ci a b))∧Drawn0 W w':=Qag.calls a b _ W (Qop a b)
theorem Qot(a b:Int)(W:World):Calls Tryz.prog 167 #[.int .u32 a,.int .u32 b] W fun e w'=>e=.returned (.int .i64 (ci a b))∧Drawn0 W w':=Qaf.calls a b _ W (Qoq a b)
theorem or_at(a b:Int)(W:World):Calls Tryz.prog 165 #[.slice (some ⟨W.heap.size,0,none⟩) 2 2] (W.alloc (.cells #[.int .i64 a,.int .i64 b] 3)) fun e w'=>e=.returned (.int .i64 (orI a b))∧Drawn0 (W.alloc (.cells #[.int .i64 a,.int .i64 b] 3)) w':=by
 have hC:Kd.C (Kd.int .i64) (W.alloc (.cells #[.int .i64 a,.int .i64 b] 3)) (some ⟨W.heap.size,0,none⟩) [a,b].length [a,b] :=
  Kd.C_of_reads (d:=(0:Int)) ⟨rfl,by simp,fun _=>⟨_,rfl,fun j hj=>by
   have hj':j<2:=hj
   have hb:=Qds (Qei W (.cells #[.int .i64 a,.int .i64 b] 3)) j
   rw[Qcz,hb]
   have:j=0∨j=1:=by omega
   rcases this with rfl|rfl<;>rfl⟩⟩
 exact Qai.calls 4 _ 2 [a,b] _ _ hC (by simp) (or_is a b)
theorem cmp_gr(x y:Ent)(w:World):Calls Tryz.prog 118 #[.agg #[.int .u64 x.f0,.int .u32 x.f1],.agg #[.int .u64 y.f0,.int .u32 y.f1]] w fun e w'=>e=.returned (.int .i64 (cfE x y))∧Gr w w':=by
 have hu:=Tryz.underlying117
 have b1:=Qei w (.cells #[.int .u64 x.f0,.int .u32 x.f1] 117)
 have b1':=Qee b1 (.cells #[.int .u64 y.f0,.int .u32 y.f1] 117)
 have b2:=Qei (w.alloc (.cells #[.int .u64 x.f0,.int .u32 x.f1] 117)) (.cells #[.int .u64 y.f0,.int .u32 y.f1] 117)
 have hg:Gr w ((w.alloc (.cells #[.int .u64 x.f0,.int .u32 x.f1] 117)).alloc (.cells #[.int .u64 y.f0,.int .u32 y.f1] 117)):=((Gr.refl w).alloc _).alloc _
 rw[World.size_alloc]at b2
 obtain⟨W,hW⟩:∃W,W=(w.alloc (.cells #[.int .u64 x.f0,.int .u32 x.f1] 117)).alloc (.cells #[.int .u64 y.f0,.int .u32 y.f1] 117):=⟨_,rfl⟩
 rw[← hW]at b1' b2 hg
 have c0:W.cell? ⟨w.heap.size,0,none⟩=some (.int .u64 x.f0):=(Qds b1' 0).trans rfl
 have c1:W.cell? ⟨w.heap.size,1,none⟩=some (.int .u32 x.f1):=(Qds b1' 1).trans rfl
 have c2:W.cell? ⟨w.heap.size+1,0,none⟩=some (.int .u64 y.f0):=(Qds b2 0).trans rfl
 have c3:W.cell? ⟨w.heap.size+1,1,none⟩=some (.int .u32 y.f1):=(Qds b2 1).trans rfl
 have HW:=QA hW
 clear hW b1 b1' b2
 go_enter Tryz.func118,Tryz.ntmps118
 go_wp2_with fail
 rw[← HW.out]
 go_region_held3 (fun w'=>w'.cell? ⟨w.heap.size,0,none⟩=some (.int .u64 x.f0)∧w'.cell? ⟨w.heap.size,1,none⟩=some (.int .u32 x.f1)∧w'.cell? ⟨w.heap.size+1,0,none⟩=some (.int .u64 y.f0)∧w'.cell? ⟨w.heap.size+1,1,none⟩=some (.int .u32 y.f1)) (go_keep) (first
  |(go_at_call 166;refine(Qos _ _ _).mono ?_;rintro e w7 ⟨rfl,hd⟩;obtain⟨q1,rfl⟩:=hd.out;clear hd)
  |(go_at_call 167;refine(Qot _ _ _).mono ?_;rintro e w7 ⟨rfl,hd⟩;obtain⟨q2,rfl⟩:=hd.out;clear hd)
  |(go_at_call 165;refine(or_at _ _ _).mono ?_;rintro e w7 ⟨rfl,hd⟩;obtain⟨q3,rfl⟩:=hd.out;clear hd))
 all_goals
  go_wp2
  go_ret
  refine⟨by(rw[← Qor];rfl),?_⟩
  repeat(first|exact hg|apply Gr.drewN|apply Gr.drew|apply Gr.alloc)
end Go.Proofs.YtnnofopfbeklbaaGreat.C
end
