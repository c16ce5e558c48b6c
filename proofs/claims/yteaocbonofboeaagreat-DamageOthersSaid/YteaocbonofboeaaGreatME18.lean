/- Merged texts. -/
import Derived.Test.YteaocbonofboeaaGreatME02
import Derived.Test.YteaocbonofboeaaGreatME13
import Derived.Test.YteaocbonofboeaaGreatME04
import Derived.Test.YteaocbonofboeaaGreatME15
import Derived.Test.YteaocbonofboeaaGreatME03
import Derived.Test.YteaocbonofboeaaGreatME07
import Derived.Test.YteaocbonofboeaaGreatME17
import Derived.Test.YteaocbonofboeaaGreatME08
import Derived.Shelf.SlSortCmp.NoneTotal
import Derived.Shelf.SlicesQ.IndexFunc
import Derived.Shelf.SlicesE.Clone
import Derived.Ground.SlsfProg
import Derived.Ground.SlgfProg
import Derived.Ground.SlgnProg
import Derived.Shelf.SlGeneric
import Derived.Test.YteaocbonofboeaaGreatProg
set_option linter.unusedVariables false
set_option linter.unusedSimpArgs false
set_option maxHeartbeats 8000000
set_option maxRecDepth 100000
section
namespace Go.Proofs.YteaocbonofboeaaGreat.C
open Go.RowKit Go.Proofs.YteaocbonofboeaaGreatW.PrintWords Go.Proofs.YteaocbonofboeaaGreatW.PrintLast Go.Proofs.YteaocbonofboeaaGreatW.PrintMore
def Qni(W:World)(g:Nat)(R:Room5)(fv tv:Value):Prop:=W.heap[g]? = some (.cells #[.int .u8 R.1,.int .u32 R.2.1,.int .u32 R.2.2.1,.int .i64 R.2.2.2.1,.int .i64 R.2.2.2.2,fv,tv] 122 (0,0))
theorem Qnj{W:World}{g:Nat}{R:Room5}{fv tv:Value}(h:Qni W g R fv tv) :
  W.cell? ⟨g,0,none⟩=some (.int .u8 R.1)∧W.cell? ⟨g,1,none⟩=some (.int .u32 R.2.1)∧W.cell? ⟨g,2,none⟩=some (.int .u32 R.2.2.1)∧W.cell? ⟨g,3,none⟩=some (.int .i64 R.2.2.2.1)∧W.cell? ⟨g,4,none⟩=some (.int .i64 R.2.2.2.2)∧W.cell? ⟨g,5,none⟩=some fv∧W.cell? ⟨g,6,none⟩=some tv :=
 ⟨(Qdr h 0).trans rfl,(Qdr h 1).trans rfl,(Qdr h 2).trans rfl,(Qdr h 3).trans rfl,(Qdr h 4).trans rfl,(Qdr h 5).trans rfl,(Qdr h 6).trans rfl⟩
theorem Qnk:(Tryz.prog.info? 129).map (fun i=>(i.zero,i.size,i.bytes))=some (some (.agg #[.int .u64 0,.int .u32 0]),2,16):=by kernel_rfl
theorem bd_set5{W:World}{b g:Nat}{R:Room5}(R':Room5){fv tv:Value}{fr:List Int}{tb:List S129}(hv:Qni W g R fv tv)(hR:R8 W b fv fr)(hT:Kd.R k129 129 W b (fun _=>True) tv tb)(hbg:b≤g) :
  ∃W',W'=(((((W.setCell ⟨g,0,none⟩ (.int .u8 R'.1)).setCell ⟨g,1,none⟩ (.int .u32 R'.2.1)).setCell ⟨g,2,none⟩ (.int .u32 R'.2.2.1)).setCell ⟨g,3,none⟩ (.int .i64 R'.2.2.2.1)).setCell ⟨g,4,none⟩ (.int .i64 R'.2.2.2.2)) ∧
   Qni W' g R' fv tv∧R8 W' b fv fr∧Kd.R k129 129 W' b (fun _=>True) tv tb∧Below b W W'∧∀k,k≠g→W'.heap[k]? = W.heap[k]?:=by
 have ht:∀q,q∈129 :: (k129).E→q≠122:=by decide
 have b1:=Qdo hv 0 (.int .u8 R'.1);have b2:=Qdo b1 1 (.int .u32 R'.2.1);have b3:=Qdo b2 2 (.int .u32 R'.2.2.1);have b4:=Qdo b3 3 (.int .i64 R'.2.2.2.1);have b5:=Qdo b4 4 (.int .i64 R'.2.2.2.2);refine⟨_,rfl,b5,?_,?_,?_,fun k hk=>?_⟩
 ·exact R8.set (R8.set (R8.set (R8.set (R8.set hR hv (by decide) 0 _) b1 (by decide) 1 _) b2 (by decide) 2 _) b3 (by decide) 3 _) b4 (by decide) 4 _
 ·exact Kd.R_set (Kd.R_set (Kd.R_set (Kd.R_set (Kd.R_set hT hv ht 0 _) b1 ht 1 _) b2 ht 2 _) b3 ht 3 _) b4 ht 4 _
 ·exact Qjt (Qjt (Qjt (Qjt (Qjt (Below.refl _ _) hbg) hbg) hbg) hbg) hbg
 ·rw[Below.heap_setCell _ _ _ k hk,Below.heap_setCell _ _ _ k hk,Below.heap_setCell _ _ _ k hk,Below.heap_setCell _ _ _ k hk,Below.heap_setCell _ _ _ k hk]
def Tb(g:Nat)(w w':World):Prop:=∀k cs t,w.heap[k]? = some (.cells cs t (0,0))→t≠5→t≠129→k≠g→w'.heap[k]? = some (.cells cs t (0,0))
theorem Tb.below{g:Nat}{w w':World}(h:Below w.heap.size w w'):Tb g w w':=fun _ _ _ h1 _ _ _=>Qeg h1 h
theorem Tb.trans{g:Nat}{a b c:World}(h:Tb g a b)(k:Tb g b c):Tb g a c:=fun _ _ _ h1 h2 h3 h4=>k _ _ _ (h _ _ _ h1 h2 h3 h4) h2 h3 h4
theorem Tb.set{g j:Nat}{w W:World}(h:Tb g w W)(v:Value):Tb g w (W.setCell ⟨g,j,none⟩ v):=fun _ _ _ h1 h2 h3 h4=>Qdp (h _ _ _ h1 h2 h3 h4) h4 v
theorem Tb.grown{g q:Nat}{w W W':World}{row:Option Nat}(h:Tb g w W)(hg:W.grownBy W' row)(hty:∀k,row=some k→∃cells,W.heap[k]? = some (.cells cells q (0,0)))(hq:q=5∨q=129):Tb g w W':=fun k cs t h1 h2 h3 h4=>by
 have h5:=h _ _ _ h1 h2 h3 h4;refine Qdt h5 hg (fun e=>?_);obtain⟨cells,hc⟩:=hty k e.symm;rw[hc]at h5
 injection h5 with h5
 injection h5 with _ h5
 rcases hq with hq|hq
 ·exact h2 (h5.symm.trans hq)
 ·exact h3 (h5.symm.trans hq)
theorem bd_Add(b g:Nat)(R R':Room5)(fr F:List Int)(tb:List S129)(d:Bool)(s:Int)(key v:ByteArray)(w:World)(hI:IsBd w b g R fr tb)(hbg:b≤g)(hbw:b≤w.heap.size)
  (hchk:chk d key v=0) (hput:Qbu.f d s key v=some (F,0)) (htl:Qcg.f R.1 R.2.1 F.length=some false) (htk:Qcf.f R.1 R.2.1 R.2.2.1 R.2.2.2.1 R.2.2.2.2 F.length=some (R'.1,R'.2.1,R'.2.2.1,R'.2.2.2.1,R'.2.2.2.2,0))
  (hl:fr.length+F.length≤70368744177664) (hk:key.size≤70368744177664) (ht:tb.length≤1099511627776) :
  Calls Tryz.prog 18 #[.pointer (some ⟨g,0,none⟩),.agg #[.bool d,.int .u64 s,.string key,.string v]] w fun e w'=>e=.returned (.tuple #[.int .u32 ((fr.length:Int)%4294967296),.int .i64 0])∧IsBd w' b g R' (fr++F) (tb++[⟨Qmf 0 (bytesOf key),(fr.length:Int)%4294967296⟩])∧Below b w w'∧Tb g w w':=by
 have hu:=Tryz.underlying37;have hu1:=Tryz.underlying28;have hu2:=Tryz.underlying116;have hu3:=Tryz.underlying122;obtain⟨fv,tv,hv,hR,hT⟩:=hI;obtain⟨AT,nT,cT,rfl⟩:∃A n c,tv=.slice A n c:=by
  obtain⟨A,c,e⟩:=Kd.R_slice hT;exact⟨A,_,c,e⟩
 obtain⟨A,n,c,rfl,hn,hlc,hC⟩:=R8.reads hR;have hv':Qni w g R (.slice A n c) (.slice AT nT cT):=hv;have hgw:g<w.heap.size:=Qdq hv;have hcheck:=Qlk d s key v;rw[hchk]at hcheck;have HCK:=QA hcheck;have HPU:=QA hput;have HTL:=QA htl;have HTK:=QA htk;have HR:=QA hR;have HT:=QA hT;have HV:=QA hv';have r:=hn;clear hcheck hput htl htk hchk hR hT hv hC hn hv';have hba:Below w.heap.size w (w.alloc (.cells #[.bool d,.int .u64 s,.string key,.string v] 37)):=Qcs (Below.refl _ _) _;have hbn:=Qeh w (.cells #[.bool d,.int .u64 s,.string key,.string v] 37)
 go_enter Tryz.func18,Tryz.ntmps18
 go_upto_region 12 with(first
  |(go_at_call 58;refine(Qci.calls 1 _ s key v 0 _ HCK.out).mono ?_;rintro e w1 ⟨rfl,hb1⟩;have hB1:=QA (Qcv hba hba.size hb1);have hk1:=Qeg hbn hb1;obtain⟨c0,c1,c2,c3⟩:=box4 hk1)
  |(go_at_call 59;refine(Qbu.calls _ s key v F 0 _ HPU.out).mono ?_;rintro e w2 ⟨vF,rfl,hRF,hb2⟩;have hB2:=QA (Qcv hB1.out hB1.out.size hb2);have hk2:=Qeg hk1 hb2;obtain⟨AF,nF,cF,rfl,hnF,hlF,hCF⟩:=R8.reads hRF;have hv2:Qni w2 g R (.slice A n c) (.slice AT nT cT):=Qeg HV.out hB2.out;obtain⟨g0,g1,g2,g3,g4,g5,g6⟩:=Qnj hv2;clear c0 c1 c2 c3)
  |(go_at_call 60;refine(Qcg.calls _ _ _ false _ (by rw[hnF.out];exact HTL.out)).mono ?_;rintro e w3 ⟨rfl,hb3⟩;have hB3:=QA (Qcv hB2.out hB2.out.size hb3);have hk3:=Qeg hk2 hb3;have hv3:Qni w3 g R (.slice A n c) (.slice AT nT cT):=Qeg HV.out hB3.out;obtain⟨h0,h1,h2,h3,h4,h5,h6⟩:=Qnj hv3;clear g0 g1 g2 g3 g4 g5 g6)
  |(go_at_call 61;refine(Qcf.calls _ _ _ _ _ _ _ _ _ _ _ _ _ (by rw[hnF.out];exact HTK.out)).mono ?_;rintro e w4 ⟨rfl,hb4⟩;have hB4:=QA (Qcv hB3.out hB3.out.size hb4);have hk4:=Qeg hk3 hb4;have hv4:Qni w4 g R (.slice A n c) (.slice AT nT cT):=Qeg HV.out hB4.out;have hv5:Qni (w4.alloc (.cells #[.int .u8 R'.1,.int .u32 R'.2.1,.int .u32 R'.2.2.1,.int .i64 R'.2.2.2.1,.int .i64 R'.2.2.2.2] 116)) g R (.slice A n c) (.slice AT nT cT):=Qed hv4 _;obtain⟨i0,i1,i2,i3,i4,i5,i6⟩:=Qnj hv5;have f0:=Qds hv5 0;have f1:=Qds hv5 1;have f2:=Qds hv5 2;have f3:=Qds hv5 3;have f4:=Qds hv5 4;have f5:=Qds hv5 5;clear h0 h1 h2 h3 h4 h5 h6))
 have hv5:Qni (w4.alloc (.cells #[.int .u8 R'.1,.int .u32 R'.2.1,.int .u32 R'.2.2.1,.int .i64 R'.2.2.2.1,.int .i64 R'.2.2.2.2] 116)) g R (.slice A n c) (.slice AT nT cT):=Qed hv4 _;have hb5:Below w4.heap.size w4 (w4.alloc (.cells #[.int .u8 R'.1,.int .u32 R'.2.1,.int .u32 R'.2.2.1,.int .i64 R'.2.2.2.1,.int .i64 R'.2.2.2.2] 116)):=Qcs (Below.refl _ _) _;have hB5:=Qcv hB4.out hB4.out.size hb5;obtain⟨W6,hW6,hv6,hR6,hT6,hb6,hk6⟩:=bd_set5 R' hv5 (R8.kept HR.out hB5) (Kd.R_below HT.out hB5) hbg;have K6:Aside0 (Tb g w W6):=⟨fun k cs t h1 _ _ h4=>(hk6 k h4).trans (Qeg h1 hB5)⟩;rw[← hW6];have hs6:w4.heap.size≤W6.heap.size:=Nat.le_trans hb5.size hb6.size;clear hW6 i0 i1 i2 i3 i4 i5 i6 f0 f1 f2 f3 f4 f5;obtain⟨m0,m1,m2,m3,m4,m5,m6⟩:=Qnj hv6;have D:g<w1.heap.size:=Nat.lt_of_lt_of_le hgw hB1.out.size;have hRF5:=R8.kept (R8.kept (R8.kept hRF hb3) hb4) hb5;have hRF6:R8 W6 w1.heap.size (.slice AF nF cF) F:=Kd.R_mono (Kd.R_step (Kd.R_bound hRF5) (fun k hk _=>hk6 k (by have:=hk.2.1;omega))) (fun _ _=>trivial);have hCF6:Kd.C (Kd.int .u8) W6 AF nF F:=by
  have h:=Kd.R_reads' hRF6;rw[h.1];exact h.2.2
 have hB6:=QA ((Qju hB5 hbw).trans hb6);have hz6:b≤W6.heap.size:=Nat.le_trans hbw hB6.out.size;clear hRF5 hRF6 hRF
 go_wp2_with (first
  |(at_builtin;go_loud (refine Kd.R_append_rows (Kd.int .u8) (Rr:=fun x cs=>cs=[.int .u8 x]) (w0:=W6) b rfl (.tmp 57) (.tmp 58) 40 5 (.int .u8 0) 1 rfl Tryz.underlying40 Qit rfl (by decide) (by omega) (.slice A n c) fr F AF nF cF (fun _=>True) (fun _=>False) rfl rfl hR6 hCF6 (fun _ _ h=>h) (fun _ hk=>hk.elim) (fun _ _=>trivial) (Below.refl _ _) hz6 ?bL ?_;(case bL=>have:=hnF.out;omega);intro v7 w7 l hb7 j hat7;obtain⟨A7,n7,c7,rfl⟩:=R8.shape l;have hv7:Qni w7 g R' (.slice A n c) (.slice AT nT cT):=Qdt hv6 j (R8.clean hR6 hv6 (by decide));obtain⟨p0,p1,p2,p3,p4,p5,p6⟩:=Qnj hv7;have f5:=Qds hv7 5;clear m0 m1 m2 m3 m4 m5 m6)))
 have K7:=QA (Tb.grown K6.out j (Kd.R_typed hR6) (.inl rfl));have hgB:w.heap.size≠g:=by omega
 have q5:=Qed hk4 (.cells #[.int .u8 R'.1,.int .u32 R'.2.1,.int .u32 R'.2.2.1,.int .i64 R'.2.2.2.1,.int .i64 R'.2.2.2.2] 116);have q6:=(hk6 _ hgB).trans q5;have q7:=Qdt q6 j (R8.clean hR6 q6 (by decide));have hT7:=Kd.R_over' hT6 (Kd.R_typed hR6) (by decide) j;have ht:∀q,q∈129 :: (k129).E→q≠122:=by decide
 obtain⟨W8,hW8⟩:∃W8,W8=w7.setCell ⟨g,5,none⟩ (.slice A7 n7 c7):=⟨_,rfl⟩;have q8:W8.heap[w.heap.size]? = some (.cells #[.bool d,.int .u64 s,.string key,.string v] 37 (0,0)):=by rw[hW8];exact Qdp q7 hgB _
 have hv8:Qni W8 g R' (.slice A7 n7 c7) (.slice AT nT cT):=by rw[hW8];exact Qdo hv7 5 _
 have hR8:R8 W8 b (.slice A7 n7 c7) (fr++F):=by rw[hW8];exact R8.set l hv7 (by decide) 5 _
 have hT8:Kd.R k129 129 W8 b (fun _=>True) (.slice AT nT cT) tb:=by rw[hW8];exact Kd.R_set hT7 hv7 ht 5 _
 have hB8:Aside0 (Below b w W8):=⟨by rw[hW8];exact Qjt (hB6.out.trans hb7) hbg⟩;have K8:Aside0 (Tb g w W8):=⟨by rw[hW8];exact K7.out.set _⟩;rw[← hW8];clear hW8;have u:=QA hR8;have HT8:=QA hT8;clear hR8 hT8 hT7 hT6 hR6 l q5 q6 q7 hv7;obtain⟨r0,r1,r2,r3⟩:=box4 q8;obtain⟨s0,s1,s2,s3,s4,s5,s6⟩:=Qnj hv8;have hz8:b≤W8.heap.size:=Nat.le_trans hbw hB8.out.size;clear p0 p1 p2 p3 p4 p5 p6;have hnn:n=fr.length:=r.out;have HNN:=QA hnn;clear hnn
 go_region_law (first
  |(go_simp;go_at_call 62;refine(hash_of key W8.drew (by omega)).mono ?_;rintro e w9 ⟨rfl,hb9⟩;have hv9:Qni w9 g R' (.slice A7 n7 c7) (.slice AT nT cT):=Qeg (w:=W8.drew) hv8 hb9;have hB9:Aside0 (Below b w w9):=⟨(hB8.out.trans (Qct (Below.refl _ _))).trans (Qju hb9 hz8)⟩;have K9:=QA (K8.out.trans (Tb.below (w:=W8.drew) hb9));have y:=QA (R8.kept (W:=W8.drew) u.out hb9);have HT9:=QA (Kd.R_below (w:=W8.drew) HT8.out hb9);obtain⟨u0,u1,u2,u3,u4,u5,u6⟩:=Qnj hv9;have a6:∀o,(w9.alloc o).cell? ⟨g,6,none⟩=some (.slice AT nT cT):=(fun o=>(Qnj (Qed hv9 o)).2.2.2.2.2.2))
  |(refine Kd.R_append_step k129 (w0:=w) b (by rfl) (.tmp 66) (.tmp 72) 120 129 (.agg #[(.int .u64 0),(.int .u32 0)]) 16 rfl Tryz.underlying120 Qnk rfl (by decide) (by omega) (.slice AT nT cT) tb (⟨Qmf 0 (bytesOf key),(n:Int)%4294967296⟩:S129) [.int .u64 (Qmf 0 (bytesOf key)),.int .u32 ((n:Int)%4294967296)] (fun _=>True) (fun _=>False) rfl ?ax ?aP (fun _ hk=>hk.elim) (fun _ _=>trivial) ?aO hB9.out ?aS ?aL ?_;(case ax=>rfl);(case aP=>exact Qjf _ _ _ (⟨Qmf 0 (bytesOf key),(n:Int)%4294967296⟩:S129));(case aO=>exact HT9.out);(case aS=>exact Nat.le_trans hbw hB9.out.size);(case aL=>omega);intro z B m hb10 a hat10;obtain⟨G,I,c10,rfl⟩:∃A n c,z=.slice A n c:=(by obtain⟨A,c,e⟩:=Kd.R_slice m;exact⟨A,_,c,e⟩);have hv10:Qni B g R' (.slice A7 n7 c7) (.slice AT nT cT):=Qdt hv9 a (Kd.R_ne HT9.out hv9 (by decide));have K10:=QA (Tb.grown K9.out a (Kd.R_typed HT9.out) (.inr rfl));have p:=QA (Kd.R_over' y.out (Kd.R_typed HT9.out) (by decide) a);obtain⟨x0,x1,x2,x3,x4,x5,x6⟩:=Qnj hv10;have fx:=Qds hv10 6;clear u0 u1 u2 u3 u4 u5 u6 a6))
 all_goals
  go_wp2;refine bodyPost_ret (results_tmp2 rfl _ _ _) rfl ?_;refine⟨by(rw[← HNN.out];rfl),⟨_,_,Qdo hv10 6 _,R8.set p.out hv10 (by decide) 6 _,?_⟩,Qjt hb10 hbg,K10.out.set _⟩;rw[← HNN.out];exact Kd.R_set m hv10 ht 6 _
def h12:List Int:=[5,1,2,12,1,9,239,228,35,222,95,189,149,23,0]
theorem head12:Qbt.f 12 1 0=some (h12,0):=by kernel_rfl
theorem empty12:Qcb.f 12 1 0=some (12,1,0,15,0,0):=by kernel_rfl
theorem size12:Qap.f 12 1=some ((4096:Nat):Int):=by kernel_rfl
def o12:List Int:=h12++List.replicate (4096-h12.length) 255
theorem o12_at:o12.length=4096∧rd o12 14=0∧rd o12 15=255∧rd o12 4095=255:=⟨by kernel_rfl,by kernel_rfl,by kernel_rfl,by kernel_rfl⟩
def Qau.f:Option Bool:=some true
theorem Qau.calls(r:Bool)(w:World)(h:Qau.f=some r) :
  Calls Tryz.prog 14 #[] w fun e w'=>e=.returned (.bool r)∧Below w.heap.size w w':=by
 obtain rfl:=Option.some.inj h;have hu:=Tryz.underlying28
 go_enter Tryz.func14,Tryz.ntmps14
 go_wp2_with (first
  |(go_at_call 17;refine(Qmx 12 1 0 15 0 h12 w empty12 head12).mono ?_;rintro e w1 ⟨g,rfl,hI1,hb1,hg1⟩)
  |(go_at_call 19;go_loud (refine(Qna w.heap.size g (12,1,0,15,0) h12 [] 4096 w1 hI1 size12 (by decide) (by decide)).mono ?_;rintro e w2 ⟨v2,rfl,hR2,hb2⟩;obtain⟨A2,n2,c2,rfl,hn2,hlc2,hC2⟩:=R8.reads hR2;have hn2':n2=4096:=hn2.out.trans o12_at.1;subst hn2';obtain⟨ad,rfl,x14⟩:=Kd.at_int hC2 14 (by decide) (by decide);obtain⟨ad',hh,x15⟩:=Kd.at_int hC2 15 (by decide) (by decide);cases hh;obtain⟨ad',hh,x4095⟩:=Kd.at_int hC2 4095 (by decide) (by decide);cases hh;have y14:w2.cell? ⟨ad.block,ad.off+14,none⟩=some (.int .u8 0):=x14.trans (congrArg (fun z=>some (Value.int .u8 z)) o12_at.2.1);have y15:w2.cell? ⟨ad.block,ad.off+15,none⟩=some (.int .u8 255):=x15.trans (congrArg (fun z=>some (Value.int .u8 z)) o12_at.2.2.1);have y4095:w2.cell? ⟨ad.block,ad.off+4095,none⟩=some (.int .u8 255):=x4095.trans (congrArg (fun z=>some (Value.int .u8 z)) o12_at.2.2.2);clear x14 x15 x4095)))
 go_ret
 exact⟨rfl,hb1.trans (Qju hb2 hb1.size)⟩
end Go.Proofs.YteaocbonofboeaaGreat.C
end
section
namespace Go.Proofs
open Go.Shelf
def Tryz.sortEnt_ren:Go.Shelf.Ren:=⟨fun|6=>115|15=>164|14=>163|28=>214|29=>215|20=>206|21=>207|22=>208|23=>209|24=>210|25=>211|26=>212|27=>213|46=>229|47=>230|48=>231|49=>232|50=>233|57=>235|n=>n,fun|22=>120|24=>129|25=>197|3=>3|39=>231|0=>0|53=>26|55=>35|4=>4|46=>289|45=>288|50=>293|5=>5|9=>9|66=>309|70=>312|76=>315|77=>316|n=>n,fun|n=>n⟩
theorem Tryz.sortEnt:Go.Proofs.SlLaysF0.n6 Tryz.prog Tryz.sortEnt_ren:={
 mixed:=by kernel_rfl
 f6:=⟨Tryz.f115.name,by decide,Tryz.func115.trans (congrArg some (by kernel_rfl))⟩
 f14:=⟨Tryz.f163.name,by decide,Tryz.func163.trans (congrArg some (by kernel_rfl))⟩
 f15:=Tryz.func164.trans (congrArg some (by kernel_rfl))
 f20:=⟨Tryz.f206.name,by decide,Tryz.func206.trans (congrArg some (by kernel_rfl))⟩
 f21:=⟨Tryz.f207.name,by decide,Tryz.func207.trans (congrArg some (by kernel_rfl))⟩
 f22:=⟨Tryz.f208.name,by decide,Tryz.func208.trans (congrArg some (by kernel_rfl))⟩
 f23:=⟨Tryz.f209.name,by decide,Tryz.func209.trans (congrArg some (by kernel_rfl))⟩
 f24:=⟨Tryz.f210.name,by decide,Tryz.func210.trans (congrArg some (by kernel_rfl))⟩
 f25:=⟨Tryz.f211.name,by decide,Tryz.func211.trans (congrArg some (by kernel_rfl))⟩
 f26:=⟨Tryz.f212.name,by decide,Tryz.func212.trans (congrArg some (by kernel_rfl))⟩
 f27:=⟨Tryz.f213.name,by decide,Tryz.func213.trans (congrArg some (by kernel_rfl))⟩
 f28:=Tryz.func214.trans (congrArg some (by kernel_rfl))
 f29:=Tryz.func215.trans (congrArg some (by kernel_rfl))
 f46:=⟨Tryz.f229.name,by decide,Tryz.func229.trans (congrArg some (by kernel_rfl))⟩
 f47:=Tryz.func230.trans (congrArg some (by kernel_rfl))
 f48:=Tryz.func231.trans (congrArg some (by kernel_rfl))
 f49:=⟨Tryz.f232.name,by decide,Tryz.func232.trans (congrArg some (by kernel_rfl))⟩
 f50:=⟨Tryz.f233.name,by decide,Tryz.func233.trans (congrArg some (by kernel_rfl))⟩
 f57:=⟨Tryz.f235.name,by decide,Tryz.func235.trans (congrArg some (by kernel_rfl))⟩
 t0:=Tryz.underlying0
 a0:=Tryz.isAgg0
 z0:=Tryz.sizeOf0
 v0:=Tryz.zeroValue0
 t3:=Tryz.underlying3
 a3:=Tryz.isAgg3
 z3:=Tryz.sizeOf3
 v3:=Tryz.zeroValue3
 t4:=Tryz.underlying4
 a4:=Tryz.isAgg4
 z4:=Tryz.sizeOf4
 v4:=Tryz.zeroValue4
 t5:=Tryz.underlying5
 a5:=Tryz.isAgg5
 z5:=Tryz.sizeOf5
 v5:=Tryz.zeroValue5
 t9:=Tryz.underlying9
 a9:=Tryz.isAgg9
 z9:=Tryz.sizeOf9
 v9:=Tryz.zeroValue9
 t22:=Tryz.underlying120
 a22:=Tryz.isAgg120
 z22:=Tryz.sizeOf120
 v22:=Tryz.zeroValue120
 t25:=Tryz.underlying197
 a25:=Tryz.isAgg197
 z25:=Tryz.sizeOf197
 v25:=Tryz.zeroValue197
 t39:=Tryz.underlying231
 a39:=Tryz.isAgg231
 z39:=Tryz.sizeOf231
 v39:=Tryz.zeroValue231
 t45:=Tryz.underlying288
 a45:=Tryz.isAgg288
 z45:=Tryz.sizeOf288
 v45:=Tryz.zeroValue288
 t46:=Tryz.underlying289
 a46:=Tryz.isAgg289
 z46:=Tryz.sizeOf289
 v46:=Tryz.zeroValue289
 t50:=Tryz.underlying293
 a50:=Tryz.isAgg293
 z50:=Tryz.sizeOf293
 v50:=Tryz.zeroValue293
 t53:=Tryz.underlying26
 a53:=Tryz.isAgg26
 z53:=Tryz.sizeOf26
 v53:=Tryz.zeroValue26
 t55:=Tryz.underlying35
 a55:=Tryz.isAgg35
 z55:=Tryz.sizeOf35
 v55:=Tryz.zeroValue35
 t66:=Tryz.underlying309
 a66:=Tryz.isAgg309
 z66:=Tryz.sizeOf309
 v66:=Tryz.zeroValue309
 t70:=Tryz.underlying312
 a70:=Tryz.isAgg312
 z70:=Tryz.sizeOf312
 v70:=Tryz.zeroValue312
 t76:=Tryz.underlying315
 a76:=Tryz.isAgg315
 z76:=Tryz.sizeOf315
 v76:=Tryz.zeroValue315
 t77:=Tryz.underlying316
 a77:=Tryz.isAgg316
 z77:=Tryz.sizeOf316
 v77:=Tryz.zeroValue316 }
def Tryz.hasEnt_ren:Go.Shelf.Ren:=⟨fun|8=>161|6=>204|n=>n,fun|22=>120|23=>129|25=>242|4=>4|3=>3|0=>0|n=>n,fun|n=>n⟩
theorem Tryz.hasEnt:Go.Proofs.SlLaysH0.n8 Tryz.prog Tryz.hasEnt_ren:={
 mixed:=by kernel_rfl
 f6:=⟨Tryz.f204.name,by decide,Tryz.func204.trans (congrArg some (by kernel_rfl))⟩
 f8:=⟨Tryz.f161.name,by decide,Tryz.func161.trans (congrArg some (by kernel_rfl))⟩
 t0:=Tryz.underlying0
 a0:=Tryz.isAgg0
 z0:=Tryz.sizeOf0
 v0:=Tryz.zeroValue0
 t3:=Tryz.underlying3
 a3:=Tryz.isAgg3
 z3:=Tryz.sizeOf3
 v3:=Tryz.zeroValue3
 t4:=Tryz.underlying4
 a4:=Tryz.isAgg4
 z4:=Tryz.sizeOf4
 v4:=Tryz.zeroValue4
 t22:=Tryz.underlying120
 a22:=Tryz.isAgg120
 z22:=Tryz.sizeOf120
 v22:=Tryz.zeroValue120
 t25:=Tryz.underlying242
 a25:=Tryz.isAgg242
 z25:=Tryz.sizeOf242
 v25:=Tryz.zeroValue242 }
def Tryz.cloneEnt_ren:Go.Shelf.Ren:=⟨fun|41=>114|n=>n,fun|22=>120|23=>129|4=>4|n=>n,fun|n=>n⟩
theorem Tryz.cloneEnt:Go.Proofs.SlLaysE0.n41 Tryz.prog Tryz.cloneEnt_ren:={
 mixed:=by kernel_rfl
 f41:=⟨Tryz.f114.name,by decide,Tryz.func114.trans (congrArg some (by kernel_rfl))⟩
 t4:=Tryz.underlying4
 a4:=Tryz.isAgg4
 z4:=Tryz.sizeOf4
 v4:=Tryz.zeroValue4
 t22:=Tryz.underlying120
 a22:=Tryz.isAgg120
 z22:=Tryz.sizeOf120
 v22:=Tryz.zeroValue120 }
end Go.Proofs
end
section
namespace Go.Proofs.YteaocbonofboeaaGreat.C
open Go.RowKit Go.Proofs.YteaocbonofboeaaGreatW.PrintWords Go.Proofs.YteaocbonofboeaaGreatW.PrintLast Go.Proofs.YteaocbonofboeaaGreatW.PrintMore
open Go.Sort
abbrev Ent:=S129
def cfE(x y:Ent):Int:=if x.f0<y.f0 then -1 else if y.f0<x.f0 then 1 else if x.f1<y.f1 then -1 else if y.f1<x.f1 then 1 else 0
def ci(a b:Int):Int:=if a<b then -1 else if b<a then 1 else 0
theorem Qnl(a b:Int):Qah.f a b=some (ci a b):=by
 unfold Qah.f Qak.f ci;simp;split
 ·rfl
 ·split<;>rfl
theorem Qnm(a b:Int):Qag.f a b=some (ci a b):=by
 unfold Qag.f Qaj.f ci;simp;split
 ·rfl
 ·split<;>rfl
def orI(a b:Int):Int:=if a=0 then b else a
theorem or_is(a b:Int):Qai.f 4 [a,b]=some (orI a b):=by
 have r0:YteaocbonofboeaaGreatW.PrintWords.rd [a,b] 0=a:=rfl;have r1:YteaocbonofboeaaGreatW.PrintWords.rd [a,b] 1=b:=rfl;simp[Qai.f,Qai.l0,wrap64,r0,r1,orI];split
 ·split<;>simp_all
 ·rfl
theorem Qnn(x y:Ent):orI (ci x.f0 y.f0) (ci x.f1 y.f1)=cfE x y:=by
 unfold orI ci cfE
 by_cases h1:x.f0<y.f0
 ·simp[h1]
 ·by_cases h2:y.f0<x.f0<;>simp[h1,h2]
def Gr(w w':World):Prop:=∃q os,w'=grow (w.drewN q) os
theorem Gr.refl(w:World):Gr w w:=⟨0,#[],by simp;rfl⟩
theorem Gr.drewN{w w':World}(h:Gr w w')(n:Nat):Gr w (w'.drewN n):=by
 obtain⟨q,os,rfl⟩:=h;exact⟨q+n,os,by simp[grow,World.drewN,Nat.add_assoc]⟩
theorem Gr.drew{w w':World}(h:Gr w w'):Gr w w'.drew:=h.drewN 1
theorem Gr.alloc{w w':World}(h:Gr w w')(o:Obj):Gr w (w'.alloc o):=by
 obtain⟨q,os,rfl⟩:=h;exact⟨q,os++#[o],by rw[alloc_eq_grow,grow_grow]⟩
theorem Qno(a b:Int)(W:World):Calls Tryz.prog 166 #[.int .u64 a,.int .u64 b] W fun e w'=>e=.returned (.int .i64 (ci a b))∧Drawn0 W w':=Qah.calls a b _ W (Qnl a b)
theorem Qnp(a b:Int)(W:World):Calls Tryz.prog 167 #[.int .u32 a,.int .u32 b] W fun e w'=>e=.returned (.int .i64 (ci a b))∧Drawn0 W w':=Qag.calls a b _ W (Qnm a b)
theorem or_at(a b:Int)(W:World):Calls Tryz.prog 165 #[.slice (some ⟨W.heap.size,0,none⟩) 2 2] (W.alloc (.cells #[.int .i64 a,.int .i64 b] 3)) fun e w'=>e=.returned (.int .i64 (orI a b))∧Drawn0 (W.alloc (.cells #[.int .i64 a,.int .i64 b] 3)) w':=by
 have hC:Kd.C (Kd.int .i64) (W.alloc (.cells #[.int .i64 a,.int .i64 b] 3)) (some ⟨W.heap.size,0,none⟩) [a,b].length [a,b] :=
  Kd.C_of_reads (d:=(0:Int)) ⟨rfl,by simp,fun _=>⟨_,rfl,fun j hj=>by
   have hj':j<2:=hj;have hb:=Qdr (Qeh W (.cells #[.int .i64 a,.int .i64 b] 3)) j;rw[Qcx,hb];have:j=0∨j=1:=by omega
   rcases this with rfl|rfl<;>rfl⟩⟩
 exact Qai.calls 4 _ 2 [a,b] _ _ hC (by simp) (or_is a b)
theorem cmp_gr(x y:Ent)(w:World):Calls Tryz.prog 116 #[.agg #[.int .u64 x.f0,.int .u32 x.f1],.agg #[.int .u64 y.f0,.int .u32 y.f1]] w fun e w'=>e=.returned (.int .i64 (cfE x y))∧Gr w w':=by
 have hu:=Tryz.underlying129;have b1:=Qeh w (.cells #[.int .u64 x.f0,.int .u32 x.f1] 129);have b1':=Qed b1 (.cells #[.int .u64 y.f0,.int .u32 y.f1] 129);have b2:=Qeh (w.alloc (.cells #[.int .u64 x.f0,.int .u32 x.f1] 129)) (.cells #[.int .u64 y.f0,.int .u32 y.f1] 129);have hg:Gr w ((w.alloc (.cells #[.int .u64 x.f0,.int .u32 x.f1] 129)).alloc (.cells #[.int .u64 y.f0,.int .u32 y.f1] 129)):=((Gr.refl w).alloc _).alloc _;rw[World.size_alloc]at b2;obtain⟨W,hW⟩:∃W,W=(w.alloc (.cells #[.int .u64 x.f0,.int .u32 x.f1] 129)).alloc (.cells #[.int .u64 y.f0,.int .u32 y.f1] 129):=⟨_,rfl⟩;rw[← hW]at b1' b2 hg;have c0:W.cell? ⟨w.heap.size,0,none⟩=some (.int .u64 x.f0):=(Qdr b1' 0).trans rfl;have c1:W.cell? ⟨w.heap.size,1,none⟩=some (.int .u32 x.f1):=(Qdr b1' 1).trans rfl;have c2:W.cell? ⟨w.heap.size+1,0,none⟩=some (.int .u64 y.f0):=(Qdr b2 0).trans rfl;have c3:W.cell? ⟨w.heap.size+1,1,none⟩=some (.int .u32 y.f1):=(Qdr b2 1).trans rfl;have HW:=QA hW;clear hW b1 b1' b2
 go_enter Tryz.func116,Tryz.ntmps116
 go_wp2_with fail
 rw[← HW.out]
 go_region_held3 (fun w'=>w'.cell? ⟨w.heap.size,0,none⟩=some (.int .u64 x.f0)∧w'.cell? ⟨w.heap.size,1,none⟩=some (.int .u32 x.f1)∧w'.cell? ⟨w.heap.size+1,0,none⟩=some (.int .u64 y.f0)∧w'.cell? ⟨w.heap.size+1,1,none⟩=some (.int .u32 y.f1)) (go_keep) (first
  |(go_at_call 166;refine(Qno _ _ _).mono ?_;rintro e w7 ⟨rfl,hd⟩;obtain⟨q1,rfl⟩:=hd.out;clear hd)
  |(go_at_call 167;refine(Qnp _ _ _).mono ?_;rintro e w7 ⟨rfl,hd⟩;obtain⟨q2,rfl⟩:=hd.out;clear hd)
  |(go_at_call 165;refine(or_at _ _ _).mono ?_;rintro e w7 ⟨rfl,hd⟩;obtain⟨q3,rfl⟩:=hd.out;clear hd))
 all_goals
  go_wp2;go_ret
  refine⟨by(rw[← Qnn];rfl),?_⟩
  repeat(first|exact hg|apply Gr.drewN|apply Gr.drew|apply Gr.alloc)
end Go.Proofs.YteaocbonofboeaaGreat.C
end
