/- Texts of this claim's author and of the print of its functions, merged by merge.py. -/
import Derived.Test.YtnnofopfbeklbaaGreatMH02
import Derived.WalkLawsBesides
import Derived.Recover
import Derived.Test.YtnnofopfbeklbaaGreatMH11
import Derived.Test.YtnnofopfbeklbaaGreatMH12
import Derived.LaidEqlPtr
import Derived.Defers
set_option linter.unusedVariables false
set_option linter.unusedSimpArgs false
set_option maxHeartbeats 8000000
set_option maxRecDepth 100000
section
namespace Go.Proofs.YtnnofopfbeklbaaGreat.C
open Go.RowKit Go.Proofs.YtnnofopfbeklbaaGreatW.PrintWords Go.Proofs.YtnnofopfbeklbaaGreatW.PrintLast Go.Proofs.YtnnofopfbeklbaaGreatW.PrintMore
theorem Qqs(k b g:Nat)(bs xs:List Int)(i n x:Int)(hxs:xs=(bs.drop i.toNat).take n.toNat)(hn:0<n)(hi:0≤i)(hl:bs.length≤140737488355328)(hs:i+n≤(bs.length:Int))(hbg:b≤g)(hx8:xs.length≤8)
  (h:Qcs.l0 k xs 0 (xs.length:Int) 0=some x) (w:World) (hbw:b≤w.heap.size) (hI:IsCur w b g bs i) :
  Calls Tryz.prog 219 #[.pointer (some ⟨g,0,none⟩),.int .i64 n] w fun e w'=>e=.returned (.int .u64 x)∧IsCur w' b g bs (i+n)∧Bw b g w w':=by
 have HI:=QA hI
 have H0:=QA h
 have HX:=QA hxs
 clear hI h hxs
 go_enter Tryz.func219,Tryz.ntmps219
 go_wp2_with (go_at_call 193;refine(Qqr b g bs xs i n HX.out hn hi hl hs hbg _ hbw HI.out).mono ?_;rintro ee w1 ⟨v,rfl,hR,hI1,hB1⟩;(obtain⟨A,c,hv⟩:=Kd.R_slice hR;subst hv;have HI1:=QA hI1;have HB1:=QA hB1;have HC1:=QA (Kd.R_reads' hR).2.2;clear hI1 hB1 hR))
 go_loopw [5,12] (fun v5 v12 wr=>∃(x5 x8:Int) (gk:Nat),v5=.int .u64 x5∧v12=.int .i64 x8∧Aside0 (Qcs.l0 gk xs x5 (xs.length:Int) x8=some x)∧Aside0 (0≤x8∧x8≤(xs.length:Int))∧wr=w1)
  (fun _ v12 _=>xs.length-(intOf v12).toNat)
 case atStart=>exact⟨0,0,k,rfl,rfl,H0,⟨by omega⟩,rfl⟩
 case round =>
  obtain⟨x5,x8,gk,rfl,rfl,HA,HK,rfl⟩:=hrel
  cases gk with
  | zero=>exact absurd HA.out (by simp[Qcs.l0])
  | succ k1 =>
   have H:=HA.out
   clear HA
   simp only[Qcs.l0]at H
   have p0:0≤x8:=HK.out.1
   by_cases c3:x8<(xs.length:Int)
   ·have hw8:IntKind.i64.wrap (8*x8)=8*x8:=IntWalk.i64_in _ (by omega)
    have hw9:wrap64 (8*x8)=8*x8:=by unfold wrap64;omega
    have hw1:IntKind.i64.wrap (x8+1)=x8+1:=IntWalk.i64_in _ (by omega)
    have hw2:wrap64 (x8+1)=x8+1:=by unfold wrap64;omega
    rw[if_pos c3,if_pos p0,if_pos c3,hw9,if_pos (by omega),hw2]at H
    have c3b:decide (x8<(xs.length:Int))=true:=decide_eq_true c3
    obtain⟨j6,hj6⟩:∃j6:Int,8*x8=j6:=⟨_,rfl⟩
    rw[hj6]at hw8 H
    have hj60:0≤j6:=by omega
    obtain⟨j8,hj8⟩:∃j8:Int,(shl .u64 (IntKind.u64.wrap (YtnnofopfbeklbaaGreatW.PrintWords.rd xs x8)) j6)=j8:=⟨_,rfl⟩
    rw[hj8]at H
    have hj8_:(IntKind.u64.wrap ((IntKind.u64.wrap (YtnnofopfbeklbaaGreatW.PrintWords.rd xs x8))*2^min j6.toNat 64))=j8:=hj8
    have hj8z:j6≤64→(IntKind.u64.wrap ((IntKind.u64.wrap (YtnnofopfbeklbaaGreatW.PrintWords.rd xs x8))*2^j6.toNat))=j8:=Qip hj8
    have H':=QA H
    have HJ:=QA hj6
    have HLT:=QA c3
    obtain⟨ad,e1,hx0⟩:=Kd.at_int HC1.out x8 p0 c3
    subst e1
    have hw8':IntKind.i64.wrap (8*x8)=j6:=by rw[hj6];exact hw8
    clear H hj6 hj8 hw9 hw2 hw8
    go_wp2
    go_roundw
    case rel=>exact⟨_,x8+1,k1,rfl,rfl,H',⟨by have:=HLT.out;have:=HK.out;omega⟩,trivial⟩
    case measure=>have h1:=HLT.out;have h2:=HK.out;simp[intOf];omega
   ·have c3b:decide (x8<(xs.length:Int))=false:=decide_eq_false c3
    rw[if_neg c3]at H
    obtain rfl:=Option.some.inj H
    go_wp2
    go_ret
    exact⟨rfl,HI1.out,HB1.out⟩
def Qqt(b g:Nat)(bs:List Int)(i er:Int)(w:World)(e:Ending)(w':World):Prop:=e=.panicked [Qqm g er]∧IsCur w' b g bs i∧Bw b g w w'
theorem Qqu(b g:Nat)(bs:List Int)(i n:Int)(hn:0<n)(hi:0≤i∧i≤bs.length)(hl:bs.length≤140737488355328)(hs:(bs.length:Int)-i<n)(w:World)(hbw:b≤w.heap.size)(hI:IsCur w b g bs i) :
  Calls Tryz.prog 219 #[.pointer (some ⟨g,0,none⟩),.int .i64 n] w (Qqt b g bs i 2 w):=by
 have HI:=QA hI
 clear hI
 go_enter Tryz.func219,Tryz.ntmps219
 go_wp2_with (go_at_call 193;refine(Qqp b g bs i n hn hi hl hs _ HI.out).mono ?_;rintro ee w1 ⟨rfl,hb1⟩)
 exact⟨rfl,rfl,HI.out.kept hb1,Bw.below hb1 hbw⟩
theorem Qqv(k b g:Nat)(bs xs:List Int)(i x:Int)(hxs:xs=(bs.drop i.toNat).take 1)(hi:0≤i)(hl:bs.length≤140737488355328)(hs:i+1≤(bs.length:Int))(hbg:b≤g)
  (h:Qcs.l0 k xs 0 (xs.length:Int) 0=some x) (w:World) (hbw:b≤w.heap.size) (hI:IsCur w b g bs i) :
  Calls Tryz.prog 174 #[.pointer (some ⟨g,0,none⟩)] w fun e w'=>e=.returned (.int .u8 (IntKind.u8.wrap x))∧IsCur w' b g bs (i+1)∧Bw b g w w':=by
 have HI:=QA hI
 have H0:=QA h
 have HX:=QA hxs
 have HL:Aside0 (xs.length≤8):=⟨by rw[hxs,List.length_take];omega⟩
 clear hI h hxs
 go_enter Tryz.func174,Tryz.ntmps174
 go_wp2_with (go_at_call 219;refine(Qqs k b g bs xs i 1 x HX.out (by decide) hi hl hs hbg HL.out H0.out _ hbw HI.out).mono ?_;rintro ee w1 ⟨rfl,hI1,hB1⟩)
 go_ret
 exact⟨rfl,hI1,hB1⟩
theorem Qqw(b g:Nat)(bs:List Int)(i:Int)(hi:0≤i∧i≤bs.length)(hl:bs.length≤140737488355328)(hs:(bs.length:Int)-i<1)(w:World)(hbw:b≤w.heap.size)(hI:IsCur w b g bs i) :
  Calls Tryz.prog 174 #[.pointer (some ⟨g,0,none⟩)] w (Qqt b g bs i 2 w):=by
 have HI:=QA hI
 clear hI
 go_enter Tryz.func174,Tryz.ntmps174
 go_wp2_with (go_at_call 219;refine(Qqu b g bs i 1 (by decide) hi hl hs _ hbw HI.out).mono ?_;rintro ee w1 ⟨rfl,hF⟩)
 exact⟨rfl,rfl,hF⟩
theorem Qqx(k b g:Nat)(bs xs:List Int)(i x:Int)(hxs:xs=(bs.drop i.toNat).take 8)(hi:0≤i)(hl:bs.length≤140737488355328)(hs:i+8≤(bs.length:Int))(hbg:b≤g)
  (h:Qcs.l0 k xs 0 (xs.length:Int) 0=some x) (w:World) (hbw:b≤w.heap.size) (hI:IsCur w b g bs i) :
  Calls Tryz.prog 172 #[.pointer (some ⟨g,0,none⟩)] w fun e w'=>e=.returned (.int .u64 x)∧IsCur w' b g bs (i+8)∧Bw b g w w':=by
 have HI:=QA hI
 have H0:=QA h
 have HX:=QA hxs
 have HL:Aside0 (xs.length≤8):=⟨by rw[hxs,List.length_take];omega⟩
 clear hI h hxs
 go_enter Tryz.func172,Tryz.ntmps172
 go_wp2_with (go_at_call 219;refine(Qqs k b g bs xs i 8 x HX.out (by decide) hi hl hs hbg HL.out H0.out _ hbw HI.out).mono ?_;rintro ee w1 ⟨rfl,hI1,hB1⟩)
 go_ret
 exact⟨rfl,hI1,hB1⟩
theorem Qqy(b g:Nat)(bs:List Int)(i:Int)(hi:0≤i∧i≤bs.length)(hl:bs.length≤140737488355328)(w:World)(hI:IsCur w b g bs i) :
  Calls Tryz.prog 139 #[.pointer (some ⟨g,0,none⟩)] w fun e w'=>e=.returned (.int .i64 ((bs.length:Int)-i))∧Below w.heap.size w w':=by
 have HI:=QA hI
 obtain⟨A,c,h0,h1,h2,h3,h4,h5⟩:=hI.cells
 clear hI h4
 have hu:=Tryz.underlying264
 have hw1:IntKind.i64.wrap ((bs.length:Int)-i)=(bs.length:Int)-i:=IntWalk.i64_in _ (by omega)
 go_enter Tryz.func139,Tryz.ntmps139
 go_upto_region 3 with(go_at_call 191;refine(Qqn b g bs i _ HI.out).mono ?_;rintro ee wa ⟨rfl,rfl⟩)
 have q0:=Qcy (Qcv (Below.refl _ _)) h0
 have q1:=Qcy (Qcv (Below.refl _ _)) h1
 go_region
 go_wp2
 go_ret
 exact⟨rfl,Qcv (Below.refl _ _)⟩
theorem Qqz(b g:Nat)(bs:List Int)(i:Int)(hi:0≤i∧i≤bs.length)(hl:bs.length≤140737488355328)(hs:(bs.length:Int)-i≤0)(w:World)(hbw:b≤w.heap.size)(hI:IsCur w b g bs i) :
  Calls Tryz.prog 178 #[.pointer (some ⟨g,0,none⟩)] w fun e w'=>e=.returned (.tuple #[])∧IsCur w' b g bs i∧Bw b g w w':=by
 have HI:=QA hI
 clear hI
 have hb0:decide (0<(bs.length:Int)-i)=false:=decide_eq_false (by omega)
 go_enter Tryz.func178,Tryz.ntmps178
 go_wp2_with (go_at_call 139;refine(Qqy b g bs i hi hl _ HI.out).mono ?_;rintro ee w1 ⟨rfl,hb1⟩)
 go_end0
 exact⟨rfl,HI.out.kept hb1,Bw.below hb1 hbw⟩
theorem Qra(b g:Nat)(bs:List Int)(i:Int)(hi:0≤i∧i≤bs.length)(hl:bs.length≤140737488355328)(hs:0<(bs.length:Int)-i)(w:World)(hbw:b≤w.heap.size)(hI:IsCur w b g bs i) :
  Calls Tryz.prog 178 #[.pointer (some ⟨g,0,none⟩)] w (Qqt b g bs i 3 w):=by
 have HI:=QA hI
 clear hI
 have hb0:decide (0<(bs.length:Int)-i)=true:=decide_eq_true hs
 go_enter Tryz.func178,Tryz.ntmps178
 go_wp2_with (first
  |(go_at_call 139;refine(Qqy b g bs i hi hl _ HI.out).mono ?_;rintro ee w1 ⟨rfl,hb1⟩)
  |(go_at_call 175;refine(Qqo b g bs i 3 (by decide) _ (HI.out.kept hb1)).mono ?_;rintro ee w2 ⟨rfl,rfl⟩))
 exact⟨rfl,rfl,HI.out.kept hb1,Bw.below hb1 hbw⟩
theorem Qrr{P:Program}{tp te:TypeId}{j:TypeInfo}(a:Addr)(hp:P.underlying tp=some (.pointer te))(hte:P.info? te=some j)(w:World) :
  (binOp .neq tp (.pointer (some a)) (.pointer (some a))).run P w=.ok (.bool false) w:=by
 have h:∀d:Nat,(Op.equalIn (d+1) tp (.pointer (some a)) (.pointer (some a))).run P w=.ok true w:=fun d=>by simp[Op.equalIn,run_underlying hp,sizeOf,typeInfo,hte,run_sameAddr_same]
 simp only[binOp]
 simp[Op.equal,Op.maxDepth,h 9999]
theorem Qrs{P:Program}{Q:Exit→Act→List Frame→World→Prop}{o:Oper}{id:Nat}{a:Act}{cs:List Frame}{w:World}(hw:Region.wanted o (yielded #[o] a.tmps)=true)(hr:(execOp a.eval o).run P w=.ok .recover w)
  (hc:recoverD cs=none) (h:Q .normal (a.put o.dst .nilIface) cs w):(Code.region id #[o] false).wpS P Q a cs w:=by
 apply wpS_region
 show wpOpsS P #[o] Q [0] a cs w
 simp only[wpOpsS]
 show(if Region.wanted o (yielded #[o] a.tmps)=true then _ else _)
 rw[if_pos hw]
 simp only[List.getElem_toArray,List.getElem_cons_zero,hr,hc]
 exact h
theorem Qrt{P:Program}{Q:Exit→Act→List Frame→World→Prop}{o:Oper}{id:Nat}{a:Act}{cs cs':List Frame}{v:Value}{w:World}(hw:Region.wanted o (yielded #[o] a.tmps)=true)(hr:(execOp a.eval o).run P w=.ok .recover w)
  (hc:recoverD cs=some (v,cs')) (h:Q .normal (a.put o.dst v) cs' w):(Code.region id #[o] false).wpS P Q a cs w:=by
 apply wpS_region
 show wpOpsS P #[o] Q [0] a cs w
 simp only[wpOpsS]
 show(if Region.wanted o (yielded #[o] a.tmps)=true then _ else _)
 rw[if_pos hw]
 simp only[List.getElem_toArray,List.getElem_cons_zero,hr,hc]
 exact h
theorem Qru(g ba be bc:Nat)(i x:Int)(v:Value)(w:World)(h0:w.heap[bc]? = some (.cells #[.pointer (some ⟨g,0,none⟩)] 204 (0,0)))
  (h1:w.heap[g]? = some (.cells #[v,.int .i64 i,.bool true] 264 (0,0))) (h2:w.heap[ba]? = some (.cells #[.int .i64 x] 3 (0,0))) :
  CallsD Tryz.prog 190 #[.pointer (some ⟨bc,0,none⟩),.pointer (some ⟨ba,0,none⟩),.pointer (some ⟨be,0,none⟩)] .returning w fun e u' w' =>
   e=.returned (.tuple #[])∧u'=.returning∧w'=(w.setCell ⟨g,2,none⟩ (.bool false)).setCell ⟨ba,0,none⟩ (.int .i64 i):=by
 have hu:=Tryz.underlying264
 have n1:bc≠g:=Qdv h0 h1 (by decide)
 have n2:ba≠g:=Qdv h2 h1 (by decide)
 have c0:w.cell? ⟨bc,0,none⟩=some (.pointer (some ⟨g,0,none⟩)):=(Qds h0 0).trans rfl
 have c1:w.frozen? ⟨g,2,none⟩=false:=Qdt h1 2
 have c2:w.cell? ⟨g,2,none⟩=some (.bool true):=(Qds h1 2).trans rfl
 have k0:=Qdq h0 (p:=⟨g,2,none⟩) n1 (.bool false)
 have k1:=Qdp h1 2 (.bool false)
 have k2:=Qdq h2 (p:=⟨g,2,none⟩) n2 (.bool false)
 obtain⟨W1,hW1⟩:∃W1,W1=w.setCell ⟨g,2,none⟩ (.bool false):=⟨_,rfl⟩
 rw[← hW1]at k0 k1 k2 ⊢
 refine callsD_of_wpS Tryz.func190 rfl fun c₀ cs hm=>?_
 simp only[Tryz.ntmps190,List.size_toArray,List.length_cons,List.length_nil,Nat.reduceAdd,Nat.reduceSub,Array.replicate_succ,Array.replicate_zero,List.push_toArray,List.append_toArray,List.nil_append,List.cons_append]
 apply wpS_seq
 refine wpS_of_wp ?_
 go_wp2
 simp only[Exit.thenS]
 rw[← hW1]
 have d0:W1.cell? ⟨bc,0,none⟩=some (.pointer (some ⟨g,0,none⟩)):=(Qds k0 0).trans rfl
 have d1:W1.cell? ⟨g,1,none⟩=some (.int .i64 i):=(Qds k1 1).trans rfl
 have d2:W1.frozen? ⟨ba,0,none⟩=false:=Qdt k2 0
 have d3:W1.cell? ⟨ba,0,none⟩=some (.int .i64 x):=(Qds k2 0).trans rfl
 clear c0 c1 c2 hW1 h0 h1 h2
 apply wpS_seq
 refine wpS_of_wp ?_
 go_wp2
 simp only[Exit.thenS]
 apply wpS_seq
 refine Qrs rfl ?_ ?_ ?_
 ·go_simp
 ·simp[recoverD,hm]
 simp only[Exit.thenS,Act.put,List.setIfInBounds_toArray,List.set_cons_zero,List.set_cons_succ]
 refine wpS_of_wp ?_
 go_wp2
 refine⟨rfl,.returning,?_,_,results_none rfl _ _ _,rfl,rfl,rfl⟩
 cases c₀
 simp_all
theorem Qrv(g ba be bc:Nat)(i x y er:Int)(v:Value)(w:World)(h0:w.heap[bc]? = some (.cells #[.pointer (some ⟨g,0,none⟩)] 204 (0,0)))
  (h1:w.heap[g]? = some (.cells #[v,.int .i64 i,.bool true] 264 (0,0))) (h2:w.heap[ba]? = some (.cells #[.int .i64 x] 3 (0,0))) (h3:w.heap[be]? = some (.cells #[.int .i64 y] 30 (0,0))) :
  CallsD Tryz.prog 190 #[.pointer (some ⟨bc,0,none⟩),.pointer (some ⟨ba,0,none⟩),.pointer (some ⟨be,0,none⟩)] (.panicking [Qqm g er]) w fun e u' w' =>
   e=.returned (.tuple #[])∧u'=.panicking [{ Qqm g er with recovered:=true }]∧w'=((((w.setCell ⟨g,2,none⟩ (.bool false)).setCell ⟨ba,0,none⟩ (.int .i64 i)).alloc (.cells #[.pointer (some ⟨g,0,none⟩),.int .i64 er] 266)).setCell ⟨be,0,none⟩ (.int .i64 er)):=by
 have hu:=Tryz.underlying264
 have hu2:=Tryz.underlying266
 have hu3:=Tryz.underlying204
 have n1:bc≠g:=Qdv h0 h1 (by decide)
 have n2:ba≠g:=Qdv h2 h1 (by decide)
 have n3:be≠g:=Qdv h3 h1 (by decide)
 have n4:bc≠ba:=Qdv h0 h2 (by decide)
 have n5:be≠ba:=Qdv h3 h2 (by decide)
 have c0:w.cell? ⟨bc,0,none⟩=some (.pointer (some ⟨g,0,none⟩)):=(Qds h0 0).trans rfl
 have c1:w.frozen? ⟨g,2,none⟩=false:=Qdt h1 2
 have c2:w.cell? ⟨g,2,none⟩=some (.bool true):=(Qds h1 2).trans rfl
 have k0:=Qdq h0 (p:=⟨g,2,none⟩) n1 (.bool false)
 have k1:=Qdp h1 2 (.bool false)
 have k2:=Qdq h2 (p:=⟨g,2,none⟩) n2 (.bool false)
 have k3:=Qdq h3 (p:=⟨g,2,none⟩) n3 (.bool false)
 obtain⟨W1,hW1⟩:∃W1,W1=w.setCell ⟨g,2,none⟩ (.bool false):=⟨_,rfl⟩
 rw[← hW1]at k0 k1 k2 k3 ⊢
 have m0:=Qdq k0 (p:=⟨ba,0,none⟩) n4 (.int .i64 i)
 have m3:=Qdq k3 (p:=⟨ba,0,none⟩) n5 (.int .i64 i)
 obtain⟨W2,hW2⟩:∃W2,W2=W1.setCell ⟨ba,0,none⟩ (.int .i64 i):=⟨_,rfl⟩
 rw[← hW2]at m0 m3 ⊢
 obtain⟨j9,hj9⟩:∃j,Tryz.prog.info? 264=some j:=Option.isSome_iff_exists.1 qq_6
 have hnp:∀W:World,(binOp .neq 204 (.pointer (some ⟨g,0,none⟩)) (.pointer (some ⟨g,0,none⟩))).run Tryz.prog W=.ok (.bool false) W:=fun W=>Qrr ⟨g,0,none⟩ hu3 hj9 W
 clear hj9
 have hta:∀W:World,(Instr.typeAssert (.iface 266 (.agg #[.pointer (some ⟨g,0,none⟩),.int .i64 er])) 20 266 true).run Tryz.prog W=.ok (.tuple #[.agg #[.pointer (some ⟨g,0,none⟩),.int .i64 er],.bool true]) W:=fun W=>by kernel_rfl
 refine callsD_of_wpS Tryz.func190 rfl fun c₀ cs hm=>?_
 simp only[Tryz.ntmps190,List.size_toArray,List.length_cons,List.length_nil,Nat.reduceAdd,Nat.reduceSub,Array.replicate_succ,Array.replicate_zero,List.push_toArray,List.append_toArray,List.nil_append,List.cons_append]
 apply wpS_seq
 refine wpS_of_wp ?_
 go_wp2
 simp only[Exit.thenS]
 rw[← hW1]
 have d0:W1.cell? ⟨bc,0,none⟩=some (.pointer (some ⟨g,0,none⟩)):=(Qds k0 0).trans rfl
 have d1:W1.cell? ⟨g,1,none⟩=some (.int .i64 i):=(Qds k1 1).trans rfl
 have d2:W1.frozen? ⟨ba,0,none⟩=false:=Qdt k2 0
 have d3:W1.cell? ⟨ba,0,none⟩=some (.int .i64 x):=(Qds k2 0).trans rfl
 clear c0 c1 c2 hW1 h0 h1 h2 h3
 apply wpS_seq
 refine wpS_of_wp ?_
 go_wp2
 simp only[Exit.thenS]
 rw[← hW2]
 have o0:W2.cell? ⟨bc,0,none⟩=some (.pointer (some ⟨g,0,none⟩)):=(Qds m0 0).trans rfl
 have s0:=Qee m0 (.cells #[.pointer (some ⟨g,0,none⟩),.int .i64 er] 266)
 have s3:=Qee m3 (.cells #[.pointer (some ⟨g,0,none⟩),.int .i64 er] 266)
 have s4:=Qei W2 (.cells #[.pointer (some ⟨g,0,none⟩),.int .i64 er] 266)
 have p0:(W2.alloc (.cells #[.pointer (some ⟨g,0,none⟩),.int .i64 er] 266)).cell? ⟨bc,0,none⟩=some (.pointer (some ⟨g,0,none⟩)):=(Qds s0 0).trans rfl
 have p1:(W2.alloc (.cells #[.pointer (some ⟨g,0,none⟩),.int .i64 er] 266)).cell? ⟨be,0,none⟩=some (.int .i64 y):=(Qds s3 0).trans rfl
 have p2:(W2.alloc (.cells #[.pointer (some ⟨g,0,none⟩),.int .i64 er] 266)).frozen? ⟨be,0,none⟩=false:=Qdt s3 0
 have p3:(W2.alloc (.cells #[.pointer (some ⟨g,0,none⟩),.int .i64 er] 266)).cell? ⟨W2.heap.size,0,none⟩=some (.pointer (some ⟨g,0,none⟩)):=(Qds s4 0).trans rfl
 have p4:(W2.alloc (.cells #[.pointer (some ⟨g,0,none⟩),.int .i64 er] 266)).cell? ⟨W2.heap.size,1,none⟩=some (.int .i64 er):=(Qds s4 1).trans rfl
 clear d0 d1 d2 d3 hW2 s0 s3 s4
 apply wpS_seq
 refine Qrt (v:=.iface 266 (.agg #[.pointer (some ⟨g,0,none⟩),.int .i64 er])) (cs':={ c₀ with mode:=.panicking [{ Qqm g er with recovered:=true }] } :: cs) rfl ?_ ?_ ?_
 ·go_simp
 ·simp[recoverD,hm,Qqm]
 simp only[Exit.thenS,Act.put,List.setIfInBounds_toArray,List.set_cons_zero,List.set_cons_succ]
 refine wpS_of_wp ?_
 go_wp2
 refine⟨rfl,_,rfl,_,results_none rfl _ _ _,rfl,rfl,rfl⟩
def Tl(lo g:Nat)(w w':World):Prop:=∀k cs t,lo≤k→w.heap[k]? = some (.cells cs t (0,0))→t≠5→k≠g→w'.heap[k]? = some (.cells cs t (0,0))
def Ty(W W':World):Prop:=∀(k:Nat) (cs:Array Value) (t:TypeId),W.heap[k]? = some (.cells cs t (0,0))→t≠3→t≠30→t≠264→W'.heap[k]? = some (.cells cs t (0,0))
theorem Ty.set{W W1:World}(h:Ty W W1){p:Addr}{cs:Array Value}{t:TypeId}(hp:W1.heap[p.block]? = some (.cells cs t (0,0)))(ht:t=3∨t=30∨t=264)(u:Value):Ty W (W1.setCell p u):=fun k cs' t' h1 h2 h3 h4 =>
 Qdq (h k cs' t' h1 h2 h3 h4) (p:=p) (Qdv (h k cs' t' h1 h2 h3 h4) hp (by rcases ht with rfl|rfl|rfl;exact h2;exact h3;exact h4)) u
theorem Ty.refl(W:World):Ty W W:=fun _ _ _ h _ _ _=>h
theorem Ty.alloc{W W1:World}(h:Ty W W1)(o:Obj):Ty W (W1.alloc o):=fun k cs t h1 h2 h3 h4=>Qee (h k cs t h1 h2 h3 h4) o
theorem Qrw(tmps:Array Value)(W:World)(ba be:Nat)(i er:Int)(h4:tmps[4]? = some (.pointer (some ⟨ba,0,none⟩)))(h5:tmps[5]? = some (.pointer (some ⟨be,0,none⟩)))
  (c4:W.heap[ba]? = some (.cells #[.int .i64 i] 3 (0,0))) (c5:W.heap[be]? = some (.cells #[.int .i64 er] 30 (0,0))) :
  (results Tryz.f137 tmps).run Tryz.prog W=.ok (.tuple #[.int .i64 i,.int .i64 er]) W:=by
 have hr:Tryz.f137.results=#[.cell 4 3,.cell 5 30]:=rfl
 have d4:W.cell? ⟨ba,0,none⟩=some (.int .i64 i):=(Qds c4 0).trans rfl
 have d5:W.cell? ⟨be,0,none⟩=some (.int .i64 er):=(Qds c5 0).trans rfl
 have hu1:=Tryz.underlying3
 have hu2:=Tryz.underlying30
 simp[results,hr,h4,h5,go_sem,loadVar,d4,d5,c4,c5]
theorem Qrx(F:Nat)(cap:Array Value)(A0:Option Addr)(c0:Nat)(l0:List Int)(w:World)(hr0:Kd.C (Kd.int .u8) w A0 l0.length l0)(hl:l0.length≤140737488355328)
  (hcf:∀(as_:Array Value) (W:World),(callFunc F as_).run Tryz.prog W=.ok (.enter F as_) W)
  (Post:Int→Int→World→Prop) (hst:∀er i W W',Post er i W→Below w.heap.size W W'→Ty W W'→Post er i W')
  (hrd:∀(W:World) (g:Nat),w.heap.size≤g→Below w.heap.size w W→IsCur W w.heap.size g l0 0→Calls Tryz.prog F (#[.pointer (some ⟨g,0,none⟩)]++cap) W fun e W'=>∃i,IsCur W' w.heap.size g l0 i∧Tl w.heap.size g W W' ∧
   ((e=.returned (.tuple #[])∧Post 0 i W')∨∃er,e=.panicked [Qqm g er]∧Post er i W')) :
  Calls Tryz.prog 137 #[.slice A0 l0.length c0,.func (.func F) #[] cap] w fun e w'=>∃er i,e=.returned (.tuple #[.int .i64 i,.int .i64 er])∧Post er i w':=by
 have hu:=Tryz.underlying264
 have HR0:=QA hr0
 have HRD:=QA @hrd
 have HST:=QA @hst
 have hmf:∀(fn:Fn) (first cap:Array Value) (w:World),(Instr.makeFunc fn first cap).run Tryz.prog w=.ok (.func fn first cap) w:=fun _ _ _ _=>rfl
 have hnil:∀W:World,(binOp .eql 209 (.func (.func F) #[] cap) .nilFunc).run Tryz.prog W=.ok (.bool false) W:=fun W=>by kernel_rfl
 clear hr0 hrd hst
 go_enter_defers Tryz.func137,Tryz.ntmps137
 go_upto_region 5 with(go_at_call 70;refine(Qjo A0 c0 l0 _ (Kd.C_below HR0.out (Qcu (Qcu (Below.refl _ _) _) _)) hl).mono ?_;rintro ee w3 ⟨vb,rfl,hR,hb⟩;obtain⟨A,c,hv⟩:=Kd.R_slice hR;subst hv)
 have b0:Below w.heap.size w ((w.alloc (.cells #[.int .i64 0] 3)).alloc (.cells #[.int .i64 0] 30)):=Qcu (Qcu (Below.refl _ _) _) _
 have e0:((w.alloc (.cells #[.int .i64 0] 3)).alloc (.cells #[.int .i64 0] 30)).heap.size=w.heap.size+2:=by simp[World.size_alloc]
 have ka:=Qeh (Qee (Qei w (.cells #[.int .i64 0] 3)) (.cells #[.int .i64 0] 30)) hb
 have ke:=Qeh (Qei (w.alloc (.cells #[.int .i64 0] 3)) (.cells #[.int .i64 0] 30)) hb
 rw[World.size_alloc]at ke
 have b3:Below w.heap.size w w3:=b0.trans (Qjn hb b0.size)
 have hs3:w.heap.size+2≤w3.heap.size:=by have:=hb.size;omega
 have kc:=Qee (Qei w3 (.cells #[.slice A l0.length c,.int .i64 0,.bool true] 264)) (.cells #[.pointer (some ⟨w3.heap.size,0,none⟩)] 204)
 have kp:=Qei (w3.alloc (.cells #[.slice A l0.length c,.int .i64 0,.bool true] 264)) (.cells #[.pointer (some ⟨w3.heap.size,0,none⟩)] 204)
 rw[World.size_alloc]at kp
 have ka5:=Qee (Qee ka (.cells #[.slice A l0.length c,.int .i64 0,.bool true] 264)) (.cells #[.pointer (some ⟨w3.heap.size,0,none⟩)] 204)
 have ke5:=Qee (Qee ke (.cells #[.slice A l0.length c,.int .i64 0,.bool true] 264)) (.cells #[.pointer (some ⟨w3.heap.size,0,none⟩)] 204)
 have b5:Below w.heap.size w ((w3.alloc (.cells #[.slice A l0.length c,.int .i64 0,.bool true] 264)).alloc (.cells #[.pointer (some ⟨w3.heap.size,0,none⟩)] 204)):=b3.trans (Qjn (Qcu (Qcu (Below.refl _ _) _) _) b3.size)
 have hI5:IsCur ((w3.alloc (.cells #[.slice A l0.length c,.int .i64 0,.bool true] 264)).alloc (.cells #[.pointer (some ⟨w3.heap.size,0,none⟩)] 204)) w.heap.size w3.heap.size l0 0:=⟨_,kc,R8.low (R8.kept (R8.kept hR (Qcu (Below.refl _ _) _)) (Qcu (Below.refl _ _) _)) (by rw[e0];omega)⟩
 generalize hW5:((w3.alloc (.cells #[.slice A l0.length c,.int .i64 0,.bool true] 264)).alloc (.cells #[.pointer (some ⟨w3.heap.size,0,none⟩)] 204))=W5 at *
 have HI5:=QA hI5
 have HB5:=QA b5
 have p0:W5.cell? ⟨w3.heap.size+1,0,none⟩=some (.pointer (some ⟨w3.heap.size,0,none⟩)):=(Qds kp 0).trans rfl
 clear hI5 b5 hW5 ka ke b0 e0 hb hR
 have ha2:w.heap.size≠w3.heap.size:=by omega
 have he2:w.heap.size+1≠w3.heap.size:=by omega
 have hea:w.heap.size+1≠w.heap.size:=by omega
 have hcg:w3.heap.size+1≠w3.heap.size:=by omega
 go_wp2_with (refine(HRD.out W5 w3.heap.size (by omega) HB5.out HI5.out).mono ?_;rintro ee w6 ⟨i,hI6,hT6,⟨rfl,hp6⟩ |⟨er,rfl,hp6⟩⟩<;>(obtain⟨v6,kg6,hR6⟩:=hI6;have ka6:=hT6 _ _ _ (by omega) ka5 (by decide) ha2;have ke6:=hT6 _ _ _ (by omega) ke5 (by decide) he2;have kp6:=hT6 _ _ _ (by omega) kp (by decide) hcg;have q0:w6.cell? ⟨w3.heap.size+1,0,none⟩=some (.pointer (some ⟨w3.heap.size,0,none⟩)):=(Qds kp6 0).trans rfl;have q1:w6.cell? ⟨w3.heap.size,1,none⟩=some (.int .i64 i):=(Qds kg6 1).trans rfl;have q2:w6.frozen? ⟨w.heap.size,0,none⟩=false:=Qdt ka6 0;have q3:w6.cell? ⟨w.heap.size,0,none⟩=some (.int .i64 0):=(Qds ka6 0).trans rfl;have ke7:=Qdq ke6 (p:=⟨w.heap.size,0,none⟩) hea (.int .i64 i);have q4:(w6.setCell ⟨w.heap.size,0,none⟩ (.int .i64 i)).frozen? ⟨w.heap.size+1,0,none⟩=false:=Qdt ke7 0;have q5:(w6.setCell ⟨w.heap.size,0,none⟩ (.int .i64 i)).cell? ⟨w.heap.size+1,0,none⟩=some (.int .i64 0):=(Qds ke7 0).trans rfl))
 ·have bc8:=Qdq (Qdq kp6 (p:=⟨w.heap.size,0,none⟩) (show w3.heap.size+1≠w.heap.size by omega) (.int .i64 i)) (p:=⟨w.heap.size+1,0,none⟩) (show w3.heap.size+1≠w.heap.size+1 by omega) (.int .i64 0)
  have g8:=Qdq (Qdq kg6 (p:=⟨w.heap.size,0,none⟩) (show w3.heap.size≠w.heap.size by omega) (.int .i64 i)) (p:=⟨w.heap.size+1,0,none⟩) (show w3.heap.size≠w.heap.size+1 by omega) (.int .i64 0)
  have ba8:=Qdq (Qdp ka6 0 (.int .i64 i)) (p:=⟨w.heap.size+1,0,none⟩) (show w.heap.size≠w.heap.size+1 by omega) (.int .i64 0)
  have be8:=Qdp ke7 0 (.int .i64 0)
  have ba9:=Qdp (Qdq ba8 (p:=⟨w3.heap.size,2,none⟩) ha2 (.bool false)) 0 (.int .i64 i)
  have be9:=Qdq (Qdq be8 (p:=⟨w3.heap.size,2,none⟩) he2 (.bool false)) (p:=⟨w.heap.size,0,none⟩) hea (.int .i64 i)
  have bl:Below w.heap.size w6 (((((w6.setCell ⟨w.heap.size,0,none⟩ (.int .i64 i)).setCell ⟨w.heap.size+1,0,none⟩ (.int .i64 0)).setCell ⟨w3.heap.size,2,none⟩ (.bool false)).setCell ⟨w.heap.size,0,none⟩ (.int .i64 i))) :=
   Qjm (Qjm (Qjm (Qjm (Below.refl _ _) (Nat.le_refl _)) (Nat.le_succ _)) (by omega)) (Nat.le_refl _)
  have bt:Ty w6 (((((w6.setCell ⟨w.heap.size,0,none⟩ (.int .i64 i)).setCell ⟨w.heap.size+1,0,none⟩ (.int .i64 0)).setCell ⟨w3.heap.size,2,none⟩ (.bool false)).setCell ⟨w.heap.size,0,none⟩ (.int .i64 i))) :=
   ((((Ty.refl w6).set ka6 (.inl rfl) _).set ke7 (.inr (.inl rfl)) _).set g8 (.inr (.inr rfl)) _).set (Qdq ba8 (p:=⟨w3.heap.size,2,none⟩) ha2 (.bool false)) (.inl rfl) _
  refine leaves_cons (f:=190) (args:=#[.pointer (some ⟨w3.heap.size+1,0,none⟩),.pointer (some ⟨w.heap.size,0,none⟩),.pointer (some ⟨w.heap.size+1,0,none⟩)]) (by simp) (by simp[go_sem]) ?_
  refine(Qru w3.heap.size w.heap.size (w.heap.size+1) (w3.heap.size+1) i i v6 _ bc8 g8 ba8).mono ?_
  rintro e u' w'' ⟨rfl,rfl,rfl⟩
  show Leaves _ _ _ _ [] .returning _
  exact⟨_,Qrw _ _ _ _ i 0 rfl rfl ba9 be9,0,i,rfl,HST.out _ _ _ _ hp6 bl bt⟩
 ·have ba9:=Qdq (Qee (Qdp (Qdq ka6 (p:=⟨w3.heap.size,2,none⟩) ha2 (.bool false)) 0 (.int .i64 i)) (.cells #[.pointer (some ⟨w3.heap.size,0,none⟩),.int .i64 er] 266)) (p:=⟨w.heap.size+1,0,none⟩) (show w.heap.size≠w.heap.size+1 by omega) (.int .i64 er)
  have be9:=Qdp (Qee (Qdq (Qdq ke6 (p:=⟨w3.heap.size,2,none⟩) he2 (.bool false)) (p:=⟨w.heap.size,0,none⟩) hea (.int .i64 i)) (.cells #[.pointer (some ⟨w3.heap.size,0,none⟩),.int .i64 er] 266)) 0 (.int .i64 er)
  have s6:w.heap.size≤w6.heap.size:=Nat.le_of_lt (Qdr ka6)
  have b1:Below w.heap.size w6 ((w6.setCell ⟨w3.heap.size,2,none⟩ (.bool false)).setCell ⟨w.heap.size,0,none⟩ (.int .i64 i)):=Qjm (Qjm (Below.refl _ _) (by omega)) (Nat.le_refl _)
  have bl:Below w.heap.size w6 ((((w6.setCell ⟨w3.heap.size,2,none⟩ (.bool false)).setCell ⟨w.heap.size,0,none⟩ (.int .i64 i)).alloc (.cells #[.pointer (some ⟨w3.heap.size,0,none⟩),.int .i64 er] 266)).setCell ⟨w.heap.size+1,0,none⟩ (.int .i64 er)) :=
   Qjm (b1.trans (Qjn (Qcu (Below.refl _ _) _) (Nat.le_trans s6 b1.size))) (Nat.le_succ _)
  have bt:Ty w6 ((((w6.setCell ⟨w3.heap.size,2,none⟩ (.bool false)).setCell ⟨w.heap.size,0,none⟩ (.int .i64 i)).alloc (.cells #[.pointer (some ⟨w3.heap.size,0,none⟩),.int .i64 er] 266)).setCell ⟨w.heap.size+1,0,none⟩ (.int .i64 er)) :=
   ((((Ty.refl w6).set kg6 (.inr (.inr rfl)) _).set (Qdq ka6 (p:=⟨w3.heap.size,2,none⟩) ha2 (.bool false)) (.inl rfl) _).alloc _).set (Qee (Qdq (Qdq ke6 (p:=⟨w3.heap.size,2,none⟩) he2 (.bool false)) (p:=⟨w.heap.size,0,none⟩) hea (.int .i64 i)) _) (.inr (.inl rfl)) _
  refine leaves_cons (f:=190) (args:=#[.pointer (some ⟨w3.heap.size+1,0,none⟩),.pointer (some ⟨w.heap.size,0,none⟩),.pointer (some ⟨w.heap.size+1,0,none⟩)]) (by simp) (by simp[go_sem]) ?_
  refine(Qrv w3.heap.size w.heap.size (w.heap.size+1) (w3.heap.size+1) i 0 0 er v6 _ kp6 kg6 ka6 ke6).mono ?_
  rintro e u' w'' ⟨rfl,rfl,rfl⟩
  show Leaves _ _ _ _ [] .returning _
  exact⟨_,Qrw _ _ _ _ i er rfl rfl ba9 be9,er,i,rfl,HST.out _ _ _ _ hp6 bl bt⟩
theorem Qry(F:Nat)(cap:Array Value)(A0:Option Addr)(c0:Nat)(l0:List Int)(w:World)(hr0:Kd.C (Kd.int .u8) w A0 l0.length l0)(hl:l0.length≤140737488355328)
  (hcf:∀(as_:Array Value) (W:World),(callFunc F as_).run Tryz.prog W=.ok (.enter F as_) W)
  (Post:Int→Int→World→Prop) (hst:∀er i W W',Post er i W→Below w.heap.size W W'→Post er i W')
  (hrd:∀(W:World) (g:Nat),w.heap.size≤g→Below w.heap.size w W→IsCur W w.heap.size g l0 0→Calls Tryz.prog F (#[.pointer (some ⟨g,0,none⟩)]++cap) W fun e W'=>∃i,IsCur W' w.heap.size g l0 i∧Tl w.heap.size g W W' ∧
   ((e=.returned (.tuple #[])∧Post 0 i W')∨∃er,e=.panicked [Qqm g er]∧Post er i W')) :
  Calls Tryz.prog 137 #[.slice A0 l0.length c0,.func (.func F) #[] cap] w fun e w'=>∃er i,e=.returned (.tuple #[.int .i64 i,.int .i64 er])∧Post er i w' :=
 Qrx F cap A0 c0 l0 w hr0 hl hcf Post (fun er i W W' h1 h2 _=>hst er i W W' h1 h2) hrd
def Qtd(l:List Int):Bool:=l.all (fun x=>x == 255)
theorem Qte(x:Int)(w:World):Calls Tryz.prog 134 #[.int .u8 x] w fun e w'=>e=.returned (.bool (x != 255))∧w'=w:=by
 go_enter Tryz.func134,Tryz.ntmps134
 go_wp2
 go_ret
 exact⟨rfl,rfl⟩
theorem Qtf(A:Option Addr)(c:Nat)(l:List Int)(w:World)(hr:Kd.C (Kd.int .u8) w A l.length l)(hl:l.length≤140737488355328) :
  Calls Tryz.prog 185 #[.slice A l.length c,.func (.func 134) #[] #[]] w fun e w'=>∃r,e=.returned (.int .i64 r)∧decide (0≤r)=!Qtd l∧w'=w:=by
 have HR:=QA hr
 clear hr
 go_enter Tryz.func185,Tryz.ntmps185
 go_wp2
 go_loopw [5,8] (fun v5 v8 wr=>∃(j:Nat) (iv:Int),j≤l.length∧v8=.int .i64 iv∧Aside0 (iv=(j:Int))∧Aside0 (Qtd (l.take j)=true)∧wr=w)
  (fun _ v8 _=>l.length-(intOf v8).toNat)
 case atStart=>exact⟨0,0,Nat.zero_le _,rfl,⟨rfl⟩,⟨rfl⟩,rfl⟩
 case round =>
  obtain⟨j,iv,hj,rfl,HJ,HA,rfl⟩:=hrel
  by_cases hlt:j<l.length
  ·have hlt2:iv<(l.length:Int):=by have:=HJ.out;omega
   have hge:0≤iv:=by have:=HJ.out;omega
   have hwi:IntKind.i64.wrap (iv+1)=iv+1:=IntWalk.i64_in _ (by omega)
   obtain⟨ad,hA,hx⟩:=Kd.at_int HR.out iv hge hlt2
   subst hA
   obtain⟨x,hxx⟩:∃x,x=YtnnofopfbeklbaaGreatW.PrintWords.rd l iv:=⟨_,rfl⟩
   rw[← hxx]at hx
   have HX:=QA hxx
   clear hxx
   have ht:l.take (j+1)=l.take j++[x]:=by
    rw[HX.out,HJ.out,List.take_succ_eq_append_getElem hlt]
    congr 1
    simp[rd,List.getD,List.getElem?_eq_getElem hlt]
   have HT:=QA ht
   clear ht
   by_cases h5:x=255
   ·subst h5
    have hne:((255:Int) != 255)=false:=rfl
    go_wp2_with (go_at_call 134;refine(Qte 255 _).mono ?_;rintro ee w1 ⟨rfl,rfl⟩)
    go_roundw
    case rel=>exact⟨j+1,iv+1,hlt,rfl,⟨by have:=HJ.out;omega⟩,⟨by rw[HT.out];unfold Qtd at HA ⊢;rw[List.all_append,HA.out];rfl⟩,trivial⟩
    case measure=>have:=HJ.out;simp[intOf];omega
   ·have hne:(x != 255)=true:=bne_iff_ne.2 h5
    go_wp2_with (go_at_call 134;refine(Qte x _).mono ?_;rintro ee w1 ⟨rfl,rfl⟩)
    go_ret
    refine⟨_,rfl,?_,rfl⟩
    rw[decide_eq_true hge]
    have hm:x∈l:=by
     have:x∈l.take (j+1):=by rw[HT.out];simp
     exact List.mem_of_mem_take this
    have:Qtd l=false:=by
     unfold Qtd
     rw[List.all_eq_false]
     exact⟨x,hm,by simpa using h5⟩
    rw[this]
    rfl
  ·obtain rfl:j=l.length:=by omega
   have e1:iv=(l.length:Int):=HJ.out
   subst e1
   go_wp2
   go_ret
   have h:=HA.out
   rw[List.take_length]at h
   exact⟨_,rfl,by rw[h];rfl,rfl⟩
theorem Qtg(A:Option Addr)(c:Nat)(l:List Int)(w:World)(hr:Kd.C (Kd.int .u8) w A l.length l)(hl:l.length≤140737488355328) :
  Calls Tryz.prog 83 #[.slice A l.length c] w fun e w'=>e=.returned (.bool (Qtd l))∧w'=w:=by
 have HR:=QA hr
 clear hr
 have hcon:Calls Tryz.prog 133 #[.slice A l.length c,.func (.func 134) #[] #[]] w fun e w'=>e=.returned (.bool (!Qtd l))∧w'=w:=by
  go_enter Tryz.func133,Tryz.ntmps133
  go_wp2_with (go_at_call 185;refine(Qtf A c l _ HR.out hl).mono ?_;rintro ee w1 ⟨r,rfl,hd,rfl⟩)
  go_ret
  exact⟨by rw[← hd];rfl,rfl⟩
 have HC:=QA hcon
 clear hcon
 obtain⟨q,hq⟩:∃q,q=Qtd l:=⟨_,rfl⟩
 rw[← hq]at HC ⊢
 have HQ:=QA hq
 clear hq
 go_enter Tryz.func83,Tryz.ntmps83
 go_wp2_with (go_at_call 133;refine HC.out.mono ?_;rintro ee w1 ⟨rfl,rfl⟩)
 go_ret
 exact⟨by simp,rfl⟩
end Go.Proofs.YtnnofopfbeklbaaGreat.C
end
