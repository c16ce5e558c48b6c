/- Merged texts. -/
import Derived.Test.YtepkfjmjidjedaaGreatMB02
import Derived.WalkLawsBesides
import Derived.Recover
import Derived.Test.YtepkfjmjidjedaaGreatMB06
import Derived.LaidEqlPtr
import Derived.Defers
import Derived.StillTailTactics
set_option linter.unusedVariables false
set_option linter.unusedSimpArgs false
set_option maxHeartbeats 8000000
set_option maxRecDepth 100000
section
namespace Go.Proofs.YtepkfjmjidjedaaGreat.C
open Go.RowKit Go.Proofs.YtepkfjmjidjedaaGreatW.PrintWords Go.Proofs.YtepkfjmjidjedaaGreatW.PrintLast Go.Proofs.YtepkfjmjidjedaaGreatW.PrintMore
def IsCur(W:World)(b g:Nat)(bs:List Int)(i:Int):Prop:=∃v,W.heap[g]? = some (.cells #[v,.int .i64 i,.bool true] 315 (0,0))∧R8 W b v bs
def Qlb(g:Nat)(e:Int):PanicEntry:={ v:=.iface 317 (.agg #[.pointer (some ⟨g,0,none⟩),.int .i64 e]),recovered:=false }
theorem IsCur.kept{W W':World}{b g:Nat}{bs:List Int}{i:Int}(h:IsCur W b g bs i)(hb:Below W.heap.size W W'):IsCur W' b g bs i:=by
 obtain⟨v,h1,h2⟩:=h;exact⟨v,Qdy h1 hb,h2.kept hb⟩
theorem IsCur.cells{W:World}{b g:Nat}{bs:List Int}{i:Int}(h:IsCur W b g bs i):∃A c,W.cell? ⟨g,0,none⟩=some (.slice A bs.length c)∧W.cell? ⟨g,1,none⟩=some (.int .i64 i)∧W.cell? ⟨g,2,none⟩=some (.bool true)∧W.frozen? ⟨g,1,none⟩=false∧Kd.C (Kd.int .u8) W A bs.length bs∧bs.length≤c:=by
 obtain⟨v,h1,h2⟩:=h;obtain⟨A,c,rfl⟩:=Kd.R_slice h2;exact⟨A,c,(Qdl h1 0).trans rfl,(Qdl h1 1).trans rfl,(Qdl h1 2).trans rfl,Qdm h1 1,(Kd.R_reads' h2).2.2,(Kd.R_reads' h2).2.1⟩
theorem IsCur.move{W:World}{b g:Nat}{bs:List Int}{i:Int}(h:IsCur W b g bs i)(hbg:b≤g)(j:Int):IsCur (W.setCell ⟨g,1,none⟩ (.int .i64 j)) b g bs j∧Bw b g W (W.setCell ⟨g,1,none⟩ (.int .i64 j)):=by
 obtain⟨v,h1,h2⟩:=h;exact⟨⟨v,Qdi h1 1 _,h2.set h1 (by decide) 1 _⟩,Qio (Below.refl _ _) hbg,fun k cs t h3 h4 h5=>Qdj h3 h5 _⟩
theorem Qlc(b g:Nat)(bs:List Int)(i:Int)(w:World)(hI:IsCur w b g bs i) :
  Calls Tryz.prog 219 #[.pointer (some ⟨g,0,none⟩)] w fun e w'=>e=.returned (.bool false)∧w'=w:=by
 obtain⟨A,c,h0,h1,h2,h3,h4,h5⟩:=hI.cells;clear hI;have hu:=Tryz.underlying315
 go_enter Tryz.func219,Tryz.ntmps219
 go_wp2;go_ret
 exact⟨rfl,rfl⟩
theorem Qld(b g:Nat)(bs:List Int)(i er:Int)(he:er≠0)(w:World)(hI:IsCur w b g bs i) :
  Calls Tryz.prog 220 #[.pointer (some ⟨g,0,none⟩),.int .i64 er] w fun e w'=>e=.panicked [Qlb g er]∧w'=w:=by
 have HI:=QA hI;clear hI;have hu:=Tryz.underlying315;have hne:(er != 0)=true:=bne_iff_ne.2 he
 go_enter Tryz.func220,Tryz.ntmps220
 go_wp2_with (go_at_call 219;refine(Qlc b g bs i _ HI.out).mono ?_;rintro ee wa ⟨rfl,rfl⟩)
 exact⟨rfl,rfl,rfl⟩
theorem Qle(b g:Nat)(bs:List Int)(i n:Int)(hn:n≤0)(w:World)(hI:IsCur w b g bs i) :
  Calls Tryz.prog 223 #[.pointer (some ⟨g,0,none⟩),.int .i64 n] w fun e w'=>e=.returned (.slice none 0 0)∧w'=w:=by
 have HI:=QA hI;clear hI;have hb0:decide (n≤0)=true:=decide_eq_true hn
 go_enter Tryz.func223,Tryz.ntmps223
 go_wp2_with (go_at_call 219;refine(Qlc b g bs i _ HI.out).mono ?_;rintro ee wa ⟨rfl,rfl⟩)
 go_ret
 exact⟨rfl,rfl⟩
def K8(w w':World):Prop:=∀(b:Nat) (v:Value) (ys:List Int),R8 w b v ys→R8 w' b v ys
theorem K8.refl(w:World):K8 w w:=fun _ _ _ h=>h
theorem K8.move{W:World}{b g:Nat}{bs:List Int}{i:Int}(h:IsCur W b g bs i)(j:Int){w':World}(hb:Below W.heap.size (W.setCell ⟨g,1,none⟩ (.int .i64 j)) w'):K8 W w':=by
 intro b' v' ys hR;obtain⟨v,h1,_⟩:=h;exact R8.kept (R8.set hR h1 (by decide) 1 _) (by simpa [World.setCell]using hb)
theorem Qlf(b g:Nat)(bs xs:List Int)(i n:Int)(hxs:xs=(bs.drop i.toNat).take n.toNat)(hn:0<n)(hi:0≤i)(hl:bs.length≤140737488355328)(hs:i+n≤(bs.length:Int))(hbg:b≤g)(w:World)(hbw:b≤w.heap.size)(hI:IsCur w b g bs i) :
  Calls Tryz.prog 223 #[.pointer (some ⟨g,0,none⟩),.int .i64 n] w fun e w'=>∃v,e=.returned v∧R8 w' w.heap.size v xs∧IsCur w' b g bs (i+n)∧Bw b g w w'∧K8 w w':=by
 have HI:=QA hI;obtain⟨A,c,h0,h1,h2,h3,h4,h5⟩:=hI.cells;clear hI h4;have hu:=Tryz.underlying315;have hb0:decide (n≤0)=false:=decide_eq_false (by omega);have hw1:IntKind.i64.wrap ((bs.length:Int)-i)=(bs.length:Int)-i:=IntWalk.i64_in _ (by omega);have hw2:IntKind.i64.wrap (i+n)=i+n:=IntWalk.i64_in _ (by omega);have hw3:IntKind.i64.wrap (i+n-n)=i:=by rw[show i+n-n=i by omega];exact IntWalk.i64_in _ (by omega)
 have hw4:IntKind.i64.wrap i=i:=IntWalk.i64_in _ (by omega);have hb1:decide ((bs.length:Int)-i<n)=false:=decide_eq_false (by omega)
 go_enter Tryz.func223,Tryz.ntmps223
 go_upto_region 3 with(go_at_call 219;refine(Qlc b g bs i _ HI.out).mono ?_;rintro ee wa ⟨rfl,rfl⟩)
 have q0:=Qcr (Qco (Below.refl _ _)) h0;have q1:=Qcr (Qco (Below.refl _ _)) h1;have q3:wa.drew.frozen? ⟨g,1,none⟩=false:=h3;clear h0 h1 h2 h3;have HI1:=QA (HI.out.kept (Qco (Below.refl _ _)))
 go_region
 go_upto_region 6 with fail
 clear HI1 q0 q1 q3;obtain⟨m1,m2⟩:=HI.out.move hbg (i+n);have M1:=QA (m1.kept (Qco (Below.refl _ _)));have M2:=QA (m2.trans (Bw.below (Qco (Below.refl _ _)) (Nat.le_trans hbw m2.size)));clear m1 m2;obtain⟨W2,hW2⟩:∃W2,W2=(wa.setCell ⟨g,1,none⟩ (.int .i64 (i+n))).drew:=⟨_,rfl⟩;have hk8:Below wa.heap.size (wa.setCell ⟨g,1,none⟩ (.int .i64 (i+n))) W2:=by rw[hW2];exact Qco (Below.refl _ _)
 have HK8:=QA (fun w' (hb:Below W2.heap.size W2 w')=>K8.move HI.out (i+n) (hk8.trans (Qip hb (by have:=hk8.size;simpa [World.setCell]using this))));clear hk8;rw[← hW2]at M1 M2 ⊢;obtain⟨A2,c2,r0,r1,r2,r3,r4,r5⟩:=M1.out.cells;clear hW2 r2 r3;have hmid:(bs.take (i+n).toNat).drop i.toNat=xs:=by rw[hxs,List.drop_take,show(i+n).toNat-i.toNat=n.toNat by omega]
 have hxl:xs.length=n.toNat:=by rw[hxs,List.length_take,List.length_drop];omega
 obtain⟨i0,hii,_,hsz,_⟩:=info_parts Qhx;have hcut:=cut_mid (P:=Tryz.prog) 47 5 .i64 .i64 Tryz.underlying47 hii 1 hsz A2 bs.length c2 i (i+n) hi (by omega) (by omega) r5;have hC:=Kd.C_mid (lo:=i.toNat) (hi:=(i+n).toNat) r4 (by omega) (by omega) r5;rw[hmid]at hC;obtain⟨A3,hA3⟩:∃A3,A3=(if c2=i.toNat then A2 else A2.map (·.add (i.toNat*1))):=⟨_,rfl⟩;obtain⟨c3,hc3⟩:∃c3,c3=c2-i.toNat:=⟨_,rfl⟩;rw[← hA3,← hc3,show(i+n).toNat-i.toNat=xs.length by omega]at hcut;have hC3:Kd.C (Kd.int .u8) W2 A3 xs.length xs:=by rw[hA3];exact hC
 have d:=QA hC3;have hxl2:xs.length≤140737488355328:=by omega
 obtain⟨j,hj⟩:∃j,j=i+n:=⟨_,rfl⟩;have hw5:IntKind.i64.wrap (j-n)=i:=by rw[hj];exact hw3
 rw[← hj]at hcut r1 M1 ⊢;have HJ:=QA hj;clear hj hC hC3 hA3 hmid r4 hc3 r5 hxs hxl;refine Qfp (n:=17) (S:=fun w'=>w'.cell? ⟨g,0,none⟩=some (.slice A2 bs.length c2)∧w'.cell? ⟨g,1,none⟩=some (.int .i64 j)) (ds:=[]) (bm 17 0) qq_6 rfl rfl ⟨(Qcr (Qco (Below.refl _ _)) r0),(Qcr (Qco (Below.refl _ _)) r1)⟩ (fun a=>?_);refine pz_ (i:=0) (N:=some 33) (bm 17 1) qq_6 ?_;refine pz_ (i:=1) (N:=some 34) (bm 17 3) qq_6 ?_;refine pz_ (i:=2) (N:=some 35) (bm 17 7) qq_6 ?_;refine pz_ (i:=4) (N:=some 37) (bm 17 23) qq_6 ?_;refine pz_ (i:=5) (N:=some 38) (bm 17 55) qq_6 ?_;refine pz_ (i:=6) (N:=some 39) (bm 17 119) qq_6 ?_;refine pz_ (i:=8) (N:=some 41) (bm 17 375) qq_6 ?_;refine pz_ (i:=10) (N:=some 43) (bm 17 1399) qq_6 ?_;refine pz_ (i:=11) (N:=some 44) (bm 17 3447) qq_6 ?_;refine pz_ (i:=12) (N:=some 45) (bm 17 7543) qq_6 ?_;refine tz_ (i:=3) (N:=some 36) (bm 17 7551) qq_6 a ?_;refine tz_ (i:=7) (N:=some 40) (bm 17 7679) qq_6 a ?_;refine pz_ (i:=9) (N:=some 42) (bm 17 8191) qq_6 ?_;refine tz_ (i:=13) (N:=some 46) (bm 17 16383) qq_6 a ?_;refine pz_ (i:=14) (N:=some 47) (bm 17 32767) qq_6 ?_;refine one_ (i:=15) (N:=some 48) (bm 17 65535) rfl rfl qq_6 (by decide) (fun K hK=>?_);refine Qfy Tryz.func151 qq_6 rfl #[.slice A3 xs.length c3] (by rfl) rfl rfl qq_11 ?_;with_reducible refine(Qiq A3 c3 xs _ (Kd.C_below d.out (Qco (Below.refl _ _))) hxl2).mono ?_
 rintro ee w3 ⟨v,rfl,hR,hb⟩;refine⟨_,rfl,?_⟩;refine hK.out _ _ ⟨(Qcr hb a.1),(Qcr hb a.2)⟩ (fun a=>?_);clear hK K;refine nzp_ 48 ?_;refine pz_ (i:=16) (N:=some 4) (bm 17 131071) qq_6 ?_;refine Qfs qq_6 ?_;go_wp2;go_ret
 have hb2:Below W2.heap.size W2 w3:=(Qco (Below.refl _ _)).trans hb;exact⟨v,rfl,R8.low hR (show wa.heap.size≤W2.drew.heap.size from M2.out.size),HJ.out ▸ M1.out.kept hb2,M2.out.trans (Bw.below hb2 (Nat.le_trans hbw M2.out.size)),HK8.out _ hb2⟩
theorem Qlg(b g:Nat)(bs xs:List Int)(i n:Int)(hxs:xs=(bs.drop i.toNat).take n.toNat)(hn:0≤n)(hi:0≤i)(hl:bs.length≤140737488355328)(hs:i+n≤(bs.length:Int))(hbg:b≤g)(w:World)(hbw:b≤w.heap.size)(hI:IsCur w b g bs i) :
  Calls Tryz.prog 223 #[.pointer (some ⟨g,0,none⟩),.int .i64 n] w fun e w'=>∃v,e=.returned v∧R8 w' w.heap.size v xs∧IsCur w' b g bs (i+n)∧Bw b g w w'∧K8 w w':=by
 rcases Int.lt_or_le 0 n with h|h
 ·exact Qlf b g bs xs i n hxs h hi hl hs hbg w hbw hI
 ·obtain rfl:n=0:=by omega
  refine(Qle b g bs i 0 h w hI).mono ?_;rintro e w' ⟨rfl,rfl⟩;have hx:xs=[]:=by rw[hxs];simp
  rw[hx,Int.add_zero];exact⟨_,rfl,Kd.R_nil _ _ _ _ _,hI,Bw.refl _ _ _,K8.refl _⟩
theorem Qlh(k b g:Nat)(bs xs:List Int)(i n x:Int)(hxs:xs=(bs.drop i.toNat).take n.toNat)(hn:0<n)(hi:0≤i)(hl:bs.length≤140737488355328)(hs:i+n≤(bs.length:Int))(hbg:b≤g)(m:xs.length≤8)
  (h:Qcm.l0 k xs 0 (xs.length:Int) 0=some x) (w:World) (hbw:b≤w.heap.size) (hI:IsCur w b g bs i) :
  Calls Tryz.prog 273 #[.pointer (some ⟨g,0,none⟩),.int .i64 n] w fun e w'=>e=.returned (.int .u64 x)∧IsCur w' b g bs (i+n)∧Bw b g w w'∧K8 w w':=by
 have HI:=QA hI;have H0:=QA h;have HX:=QA hxs;clear hI h hxs
 go_enter Tryz.func273,Tryz.ntmps273
 go_wp2_with (go_at_call 223;refine(Qlf b g bs xs i n HX.out hn hi hl hs hbg _ hbw HI.out).mono ?_;rintro ee w1 ⟨v,rfl,hR,hI1,hB1,hK1⟩;(have HK1:=QA hK1;clear hK1;obtain⟨A,c,hv⟩:=Kd.R_slice hR;subst hv;have HI1:=QA hI1;have d:=QA hB1;have j:=QA (Kd.R_reads' hR).2.2;clear hI1 hB1 hR))
 go_loopw [5,12] (fun v5 a wr=>∃(x5 x8:Int) (gk:Nat),v5=.int .u64 x5∧a=.int .i64 x8∧Aside0 (Qcm.l0 gk xs x5 (xs.length:Int) x8=some x)∧Aside0 (0≤x8∧x8≤(xs.length:Int))∧wr=w1)
  (fun _ a _=>xs.length-(intOf a).toNat)
 case atStart=>exact⟨0,0,k,rfl,rfl,H0,⟨by omega⟩,rfl⟩
 case round =>
  obtain⟨x5,x8,gk,rfl,rfl,HA,HK,rfl⟩:=hrel
  cases gk with
  | zero=>exact absurd HA.out (by simp[Qcm.l0])
  | succ k1 =>
   have H:=HA.out;clear HA;simp only[Qcm.l0]at H;have p0:0≤x8:=HK.out.1
   by_cases c3:x8<(xs.length:Int)
   ·have hw8:IntKind.i64.wrap (8*x8)=8*x8:=IntWalk.i64_in _ (by omega);have hw9:wrap64 (8*x8)=8*x8:=by unfold wrap64;omega
    have hw1:IntKind.i64.wrap (x8+1)=x8+1:=IntWalk.i64_in _ (by omega);have hw2:wrap64 (x8+1)=x8+1:=by unfold wrap64;omega
    rw[if_pos c3,if_pos p0,if_pos c3,hw9,if_pos (by omega),hw2]at H;have l:decide (x8<(xs.length:Int))=true:=decide_eq_true c3;obtain⟨j6,hj6⟩:∃j6:Int,8*x8=j6:=⟨_,rfl⟩;rw[hj6]at hw8 H;have hj60:0≤j6:=by omega
    obtain⟨j8,hj8⟩:∃j8:Int,(shl .u64 (IntKind.u64.wrap (YtepkfjmjidjedaaGreatW.PrintWords.rd xs x8)) j6)=j8:=⟨_,rfl⟩;rw[hj8]at H;have hj8_:(IntKind.u64.wrap ((IntKind.u64.wrap (YtepkfjmjidjedaaGreatW.PrintWords.rd xs x8))*2^min j6.toNat 64))=j8:=hj8;have hj8z:j6≤64→(IntKind.u64.wrap ((IntKind.u64.wrap (YtepkfjmjidjedaaGreatW.PrintWords.rd xs x8))*2^j6.toNat))=j8:=Qht hj8;have H':=QA H;have HJ:=QA hj6;have HLT:=QA c3;obtain⟨ad,e1,o⟩:=Kd.at_int j.out x8 p0 c3;subst e1;have hw8':IntKind.i64.wrap (8*x8)=j6:=by rw[hj6];exact hw8
    clear H hj6 hj8 hw9 hw2 hw8;go_wp2
    go_roundw
    case rel=>exact⟨_,x8+1,k1,rfl,rfl,H',⟨by have:=HLT.out;have:=HK.out;omega⟩,trivial⟩
    case measure=>have h1:=HLT.out;have h2:=HK.out;simp[intOf];omega
   ·have l:decide (x8<(xs.length:Int))=false:=decide_eq_false c3;rw[if_neg c3]at H;obtain rfl:=Option.some.inj H;go_wp2;go_ret
    exact⟨rfl,HI1.out,d.out,HK1.out⟩
theorem Qli(b g:Nat)(bs:List Int)(i:Int)(hi:0≤i∧i≤bs.length)(hl:bs.length≤140737488355328)(w:World)(hI:IsCur w b g bs i) :
  Calls Tryz.prog 172 #[.pointer (some ⟨g,0,none⟩)] w fun e w'=>e=.returned (.int .i64 ((bs.length:Int)-i))∧Below w.heap.size w w':=by
 have HI:=QA hI;obtain⟨A,c,h0,h1,h2,h3,h4,h5⟩:=hI.cells;clear hI h4;have hu:=Tryz.underlying315;have hw1:IntKind.i64.wrap ((bs.length:Int)-i)=(bs.length:Int)-i:=IntWalk.i64_in _ (by omega)
 go_enter Tryz.func172,Tryz.ntmps172
 go_upto_region 3 with(go_at_call 219;refine(Qlc b g bs i _ HI.out).mono ?_;rintro ee wa ⟨rfl,rfl⟩)
 have q0:=Qcr (Qco (Below.refl _ _)) h0;have q1:=Qcr (Qco (Below.refl _ _)) h1
 go_region
 go_wp2;go_ret
 exact⟨rfl,Qco (Below.refl _ _)⟩
theorem Qlj{P:Program}{tp te:TypeId}{j:TypeInfo}(a:Addr)(hp:P.underlying tp=some (.pointer te))(hte:P.info? te=some j)(w:World) :
  (binOp .neq tp (.pointer (some a)) (.pointer (some a))).run P w=.ok (.bool false) w:=by
 have h:∀d:Nat,(Op.equalIn (d+1) tp (.pointer (some a)) (.pointer (some a))).run P w=.ok true w:=fun d=>by simp[Op.equalIn,run_underlying hp,sizeOf,typeInfo,hte,run_sameAddr_same]
 simp only[binOp];simp[Op.equal,Op.maxDepth,h 9999]
theorem Qlk{P:Program}{Q:Exit→Act→List Frame→World→Prop}{o:Oper}{id:Nat}{a:Act}{cs:List Frame}{w:World}(hw:Region.wanted o (yielded #[o] a.tmps)=true)(hr:(execOp a.eval o).run P w=.ok .recover w)
  (hc:recoverD cs=none) (h:Q .normal (a.put o.dst .nilIface) cs w):(Code.region id #[o] false).wpS P Q a cs w:=by
 apply wpS_region;show wpOpsS P #[o] Q [0] a cs w;simp only[wpOpsS];show(if Region.wanted o (yielded #[o] a.tmps)=true then _ else _);rw[if_pos hw];simp only[List.getElem_toArray,List.getElem_cons_zero,hr,hc];exact h
theorem Qll{P:Program}{Q:Exit→Act→List Frame→World→Prop}{o:Oper}{id:Nat}{a:Act}{cs cs':List Frame}{v:Value}{w:World}(hw:Region.wanted o (yielded #[o] a.tmps)=true)(hr:(execOp a.eval o).run P w=.ok .recover w)
  (hc:recoverD cs=some (v,cs')) (h:Q .normal (a.put o.dst v) cs' w):(Code.region id #[o] false).wpS P Q a cs w:=by
 apply wpS_region;show wpOpsS P #[o] Q [0] a cs w;simp only[wpOpsS];show(if Region.wanted o (yielded #[o] a.tmps)=true then _ else _);rw[if_pos hw];simp only[List.getElem_toArray,List.getElem_cons_zero,hr,hc];exact h
theorem Qlm(g ba be bc:Nat)(i x:Int)(v:Value)(w:World)(h0:w.heap[bc]? = some (.cells #[.pointer (some ⟨g,0,none⟩)] 270 (0,0)))
  (h1:w.heap[g]? = some (.cells #[v,.int .i64 i,.bool true] 315 (0,0))) (h2:w.heap[ba]? = some (.cells #[.int .i64 x] 3 (0,0))) :
  CallsD Tryz.prog 218 #[.pointer (some ⟨bc,0,none⟩),.pointer (some ⟨ba,0,none⟩),.pointer (some ⟨be,0,none⟩)] .returning w fun e u' w' =>
   e=.returned (.tuple #[])∧u'=.returning∧w'=(w.setCell ⟨g,2,none⟩ (.bool false)).setCell ⟨ba,0,none⟩ (.int .i64 i):=by
 have hu:=Tryz.underlying315;have n1:bc≠g:=Qdo h0 h1 (by decide);have n2:ba≠g:=Qdo h2 h1 (by decide);have c0:w.cell? ⟨bc,0,none⟩=some (.pointer (some ⟨g,0,none⟩)):=(Qdl h0 0).trans rfl;have c1:w.frozen? ⟨g,2,none⟩=false:=Qdm h1 2;have c2:w.cell? ⟨g,2,none⟩=some (.bool true):=(Qdl h1 2).trans rfl;have k0:=Qdj h0 (p:=⟨g,2,none⟩) n1 (.bool false);have k1:=Qdi h1 2 (.bool false);have k2:=Qdj h2 (p:=⟨g,2,none⟩) n2 (.bool false);obtain⟨W1,hW1⟩:∃W1,W1=w.setCell ⟨g,2,none⟩ (.bool false):=⟨_,rfl⟩;rw[← hW1]at k0 k1 k2 ⊢;refine callsD_of_wpS Tryz.func218 rfl fun c₀ cs hm=>?_
 simp only[Tryz.ntmps218,List.size_toArray,List.length_cons,List.length_nil,Nat.reduceAdd,Nat.reduceSub,Array.replicate_succ,Array.replicate_zero,List.push_toArray,List.append_toArray,List.nil_append,List.cons_append];apply wpS_seq;refine wpS_of_wp ?_;go_wp2;simp only[Exit.thenS];rw[← hW1];have d0:W1.cell? ⟨bc,0,none⟩=some (.pointer (some ⟨g,0,none⟩)):=(Qdl k0 0).trans rfl;have d1:W1.cell? ⟨g,1,none⟩=some (.int .i64 i):=(Qdl k1 1).trans rfl;have d2:W1.frozen? ⟨ba,0,none⟩=false:=Qdm k2 0;have d3:W1.cell? ⟨ba,0,none⟩=some (.int .i64 x):=(Qdl k2 0).trans rfl;clear c0 c1 c2 hW1 h0 h1 h2;apply wpS_seq;refine wpS_of_wp ?_;go_wp2;simp only[Exit.thenS];apply wpS_seq;refine Qlk rfl ?_ ?_ ?_
 ·go_simp
 ·simp[recoverD,hm]
 simp only[Exit.thenS,Act.put,List.setIfInBounds_toArray,List.set_cons_zero,List.set_cons_succ];refine wpS_of_wp ?_;go_wp2;refine⟨rfl,.returning,?_,_,results_none rfl _ _ _,rfl,rfl,rfl⟩
 cases c₀
 simp_all
theorem Qln(g ba be bc:Nat)(i x y er:Int)(v:Value)(w:World)(h0:w.heap[bc]? = some (.cells #[.pointer (some ⟨g,0,none⟩)] 270 (0,0)))
  (h1:w.heap[g]? = some (.cells #[v,.int .i64 i,.bool true] 315 (0,0))) (h2:w.heap[ba]? = some (.cells #[.int .i64 x] 3 (0,0))) (h3:w.heap[be]? = some (.cells #[.int .i64 y] 48 (0,0))) :
  CallsD Tryz.prog 218 #[.pointer (some ⟨bc,0,none⟩),.pointer (some ⟨ba,0,none⟩),.pointer (some ⟨be,0,none⟩)] (.panicking [Qlb g er]) w fun e u' w' =>
   e=.returned (.tuple #[])∧u'=.panicking [{ Qlb g er with recovered:=true }]∧w'=((((w.setCell ⟨g,2,none⟩ (.bool false)).setCell ⟨ba,0,none⟩ (.int .i64 i)).alloc (.cells #[.pointer (some ⟨g,0,none⟩),.int .i64 er] 317)).setCell ⟨be,0,none⟩ (.int .i64 er)):=by
 have hu:=Tryz.underlying315;have hu2:=Tryz.underlying317;have hu3:=Tryz.underlying270;have n1:bc≠g:=Qdo h0 h1 (by decide);have n2:ba≠g:=Qdo h2 h1 (by decide);have n3:be≠g:=Qdo h3 h1 (by decide);have n4:bc≠ba:=Qdo h0 h2 (by decide);have n5:be≠ba:=Qdo h3 h2 (by decide);have c0:w.cell? ⟨bc,0,none⟩=some (.pointer (some ⟨g,0,none⟩)):=(Qdl h0 0).trans rfl;have c1:w.frozen? ⟨g,2,none⟩=false:=Qdm h1 2;have c2:w.cell? ⟨g,2,none⟩=some (.bool true):=(Qdl h1 2).trans rfl;have k0:=Qdj h0 (p:=⟨g,2,none⟩) n1 (.bool false);have k1:=Qdi h1 2 (.bool false);have k2:=Qdj h2 (p:=⟨g,2,none⟩) n2 (.bool false);have k3:=Qdj h3 (p:=⟨g,2,none⟩) n3 (.bool false);obtain⟨W1,hW1⟩:∃W1,W1=w.setCell ⟨g,2,none⟩ (.bool false):=⟨_,rfl⟩;rw[← hW1]at k0 k1 k2 k3 ⊢;have m0:=Qdj k0 (p:=⟨ba,0,none⟩) n4 (.int .i64 i);have m3:=Qdj k3 (p:=⟨ba,0,none⟩) n5 (.int .i64 i);obtain⟨W2,hW2⟩:∃W2,W2=W1.setCell ⟨ba,0,none⟩ (.int .i64 i):=⟨_,rfl⟩;rw[← hW2]at m0 m3 ⊢;obtain⟨j9,hj9⟩:∃j,Tryz.prog.info? 315=some j:=Option.isSome_iff_exists.1 qq_6;have hnp:∀W:World,(binOp .neq 270 (.pointer (some ⟨g,0,none⟩)) (.pointer (some ⟨g,0,none⟩))).run Tryz.prog W=.ok (.bool false) W:=fun W=>Qlj ⟨g,0,none⟩ hu3 hj9 W
 clear hj9;have hta:∀W:World,(Instr.typeAssert (.iface 317 (.agg #[.pointer (some ⟨g,0,none⟩),.int .i64 er])) 20 317 true).run Tryz.prog W=.ok (.tuple #[.agg #[.pointer (some ⟨g,0,none⟩),.int .i64 er],.bool true]) W:=fun W=>by kernel_rfl
 refine callsD_of_wpS Tryz.func218 rfl fun c₀ cs hm=>?_
 simp only[Tryz.ntmps218,List.size_toArray,List.length_cons,List.length_nil,Nat.reduceAdd,Nat.reduceSub,Array.replicate_succ,Array.replicate_zero,List.push_toArray,List.append_toArray,List.nil_append,List.cons_append];apply wpS_seq;refine wpS_of_wp ?_;go_wp2;simp only[Exit.thenS];rw[← hW1];have d0:W1.cell? ⟨bc,0,none⟩=some (.pointer (some ⟨g,0,none⟩)):=(Qdl k0 0).trans rfl;have d1:W1.cell? ⟨g,1,none⟩=some (.int .i64 i):=(Qdl k1 1).trans rfl;have d2:W1.frozen? ⟨ba,0,none⟩=false:=Qdm k2 0;have d3:W1.cell? ⟨ba,0,none⟩=some (.int .i64 x):=(Qdl k2 0).trans rfl;clear c0 c1 c2 hW1 h0 h1 h2 h3;apply wpS_seq;refine wpS_of_wp ?_;go_wp2;simp only[Exit.thenS];rw[← hW2];have o0:W2.cell? ⟨bc,0,none⟩=some (.pointer (some ⟨g,0,none⟩)):=(Qdl m0 0).trans rfl;have s0:=Qdv m0 (.cells #[.pointer (some ⟨g,0,none⟩),.int .i64 er] 317);have s3:=Qdv m3 (.cells #[.pointer (some ⟨g,0,none⟩),.int .i64 er] 317);have s4:=Qdz W2 (.cells #[.pointer (some ⟨g,0,none⟩),.int .i64 er] 317);have p0:(W2.alloc (.cells #[.pointer (some ⟨g,0,none⟩),.int .i64 er] 317)).cell? ⟨bc,0,none⟩=some (.pointer (some ⟨g,0,none⟩)):=(Qdl s0 0).trans rfl;have p1:(W2.alloc (.cells #[.pointer (some ⟨g,0,none⟩),.int .i64 er] 317)).cell? ⟨be,0,none⟩=some (.int .i64 y):=(Qdl s3 0).trans rfl;have p2:(W2.alloc (.cells #[.pointer (some ⟨g,0,none⟩),.int .i64 er] 317)).frozen? ⟨be,0,none⟩=false:=Qdm s3 0;have p3:(W2.alloc (.cells #[.pointer (some ⟨g,0,none⟩),.int .i64 er] 317)).cell? ⟨W2.heap.size,0,none⟩=some (.pointer (some ⟨g,0,none⟩)):=(Qdl s4 0).trans rfl;have p4:(W2.alloc (.cells #[.pointer (some ⟨g,0,none⟩),.int .i64 er] 317)).cell? ⟨W2.heap.size,1,none⟩=some (.int .i64 er):=(Qdl s4 1).trans rfl;clear d0 d1 d2 d3 hW2 s0 s3 s4;apply wpS_seq;refine Qll (v:=.iface 317 (.agg #[.pointer (some ⟨g,0,none⟩),.int .i64 er])) (cs':={ c₀ with mode:=.panicking [{ Qlb g er with recovered:=true }] } :: cs) rfl ?_ ?_ ?_
 ·go_simp
 ·simp[recoverD,hm,Qlb]
 simp only[Exit.thenS,Act.put,List.setIfInBounds_toArray,List.set_cons_zero,List.set_cons_succ];refine wpS_of_wp ?_;go_wp2;refine⟨rfl,_,rfl,_,results_none rfl _ _ _,rfl,rfl,rfl⟩
def Tl(lo g:Nat)(w w':World):Prop:=∀k cs t,lo≤k→w.heap[k]? = some (.cells cs t (0,0))→t≠5→k≠g→w'.heap[k]? = some (.cells cs t (0,0))
def Ty(W W':World):Prop:=∀(k:Nat) (cs:Array Value) (t:TypeId),W.heap[k]? = some (.cells cs t (0,0))→t≠3→t≠48→t≠315→W'.heap[k]? = some (.cells cs t (0,0))
theorem Ty.set{W W1:World}(h:Ty W W1){p:Addr}{cs:Array Value}{t:TypeId}(hp:W1.heap[p.block]? = some (.cells cs t (0,0)))(ht:t=3∨t=48∨t=315)(u:Value):Ty W (W1.setCell p u):=fun k cs' t' h1 h2 h3 h4 =>
 Qdj (h k cs' t' h1 h2 h3 h4) (p:=p) (Qdo (h k cs' t' h1 h2 h3 h4) hp (by rcases ht with rfl|rfl|rfl;exact h2;exact h3;exact h4)) u
theorem Ty.refl(W:World):Ty W W:=fun _ _ _ h _ _ _=>h
theorem Ty.alloc{W W1:World}(h:Ty W W1)(o:Obj):Ty W (W1.alloc o):=fun k cs t h1 h2 h3 h4=>Qdv (h k cs t h1 h2 h3 h4) o
theorem Qlo(tmps:Array Value)(W:World)(ba be:Nat)(i er:Int)(h4:tmps[4]? = some (.pointer (some ⟨ba,0,none⟩)))(h5:tmps[5]? = some (.pointer (some ⟨be,0,none⟩)))
  (c4:W.heap[ba]? = some (.cells #[.int .i64 i] 3 (0,0))) (c5:W.heap[be]? = some (.cells #[.int .i64 er] 48 (0,0))) :
  (results Tryz.f170 tmps).run Tryz.prog W=.ok (.tuple #[.int .i64 i,.int .i64 er]) W:=by
 have hr:Tryz.f170.results=#[.cell 4 3,.cell 5 48]:=rfl;have d4:W.cell? ⟨ba,0,none⟩=some (.int .i64 i):=(Qdl c4 0).trans rfl;have d5:W.cell? ⟨be,0,none⟩=some (.int .i64 er):=(Qdl c5 0).trans rfl;have hu1:=Tryz.underlying3;have hu2:=Tryz.underlying48;simp[results,hr,h4,h5,go_sem,loadVar,d4,d5,c4,c5]
theorem Qlp(F:Nat)(cap:Array Value)(A0:Option Addr)(c0:Nat)(l0:List Int)(w:World)(hr0:Kd.C (Kd.int .u8) w A0 l0.length l0)(hl:l0.length≤140737488355328)
  (hcf:∀(as_:Array Value) (W:World),(callFunc F as_).run Tryz.prog W=.ok (.enter F as_) W)
  (Post:Int→Int→World→Prop) (hst:∀er i W W',Post er i W→Below w.heap.size W W'→Ty W W'→Post er i W')
  (hrd:∀(W:World) (g:Nat),w.heap.size≤g→Below w.heap.size w W→IsCur W w.heap.size g l0 0→Calls Tryz.prog F (#[.pointer (some ⟨g,0,none⟩)]++cap) W fun e W'=>∃i,IsCur W' w.heap.size g l0 i∧Tl w.heap.size g W W' ∧
   ((e=.returned (.tuple #[])∧Post 0 i W')∨∃er,e=.panicked [Qlb g er]∧Post er i W')) :
  Calls Tryz.prog 170 #[.slice A0 l0.length c0,.func (.func F) #[] cap] w fun e w'=>∃er i,e=.returned (.tuple #[.int .i64 i,.int .i64 er])∧Post er i w':=by
 have hu:=Tryz.underlying315;have a:=QA hr0;have HRD:=QA @hrd;have HST:=QA @hst;have hmf:∀(fn:Fn) (first cap:Array Value) (w:World),(Instr.makeFunc fn first cap).run Tryz.prog w=.ok (.func fn first cap) w:=fun _ _ _ _=>rfl
 have hnil:∀W:World,(binOp .eql 272 (.func (.func F) #[] cap) .nilFunc).run Tryz.prog W=.ok (.bool false) W:=fun W=>by kernel_rfl
 clear hr0 hrd hst
 go_enter_defers Tryz.func170,Tryz.ntmps170
 go_upto_region 5 with(go_at_call 151;refine(Qiq A0 c0 l0 _ (Kd.C_below a.out (Qcn (Qcn (Below.refl _ _) _) _)) hl).mono ?_;rintro ee w3 ⟨vb,rfl,hR,hb⟩;obtain⟨A,c,hv⟩:=Kd.R_slice hR;subst hv)
 have b0:Below w.heap.size w ((w.alloc (.cells #[.int .i64 0] 3)).alloc (.cells #[.int .i64 0] 48)):=Qcn (Qcn (Below.refl _ _) _) _;have e0:((w.alloc (.cells #[.int .i64 0] 3)).alloc (.cells #[.int .i64 0] 48)).heap.size=w.heap.size+2:=by simp[World.size_alloc]
 have ka:=Qdy (Qdv (Qdz w (.cells #[.int .i64 0] 3)) (.cells #[.int .i64 0] 48)) hb;have ke:=Qdy (Qdz (w.alloc (.cells #[.int .i64 0] 3)) (.cells #[.int .i64 0] 48)) hb;rw[World.size_alloc]at ke;have b3:Below w.heap.size w w3:=b0.trans (Qip hb b0.size);have hs3:w.heap.size+2≤w3.heap.size:=by have:=hb.size;omega
 have kc:=Qdv (Qdz w3 (.cells #[.slice A l0.length c,.int .i64 0,.bool true] 315)) (.cells #[.pointer (some ⟨w3.heap.size,0,none⟩)] 270);have kp:=Qdz (w3.alloc (.cells #[.slice A l0.length c,.int .i64 0,.bool true] 315)) (.cells #[.pointer (some ⟨w3.heap.size,0,none⟩)] 270);rw[World.size_alloc]at kp;have ka5:=Qdv (Qdv ka (.cells #[.slice A l0.length c,.int .i64 0,.bool true] 315)) (.cells #[.pointer (some ⟨w3.heap.size,0,none⟩)] 270);have ke5:=Qdv (Qdv ke (.cells #[.slice A l0.length c,.int .i64 0,.bool true] 315)) (.cells #[.pointer (some ⟨w3.heap.size,0,none⟩)] 270);have b5:Below w.heap.size w ((w3.alloc (.cells #[.slice A l0.length c,.int .i64 0,.bool true] 315)).alloc (.cells #[.pointer (some ⟨w3.heap.size,0,none⟩)] 270)):=b3.trans (Qip (Qcn (Qcn (Below.refl _ _) _) _) b3.size);have hI5:IsCur ((w3.alloc (.cells #[.slice A l0.length c,.int .i64 0,.bool true] 315)).alloc (.cells #[.pointer (some ⟨w3.heap.size,0,none⟩)] 270)) w.heap.size w3.heap.size l0 0:=⟨_,kc,R8.low (R8.kept (R8.kept hR (Qcn (Below.refl _ _) _)) (Qcn (Below.refl _ _) _)) (by rw[e0];omega)⟩;generalize hW5:((w3.alloc (.cells #[.slice A l0.length c,.int .i64 0,.bool true] 315)).alloc (.cells #[.pointer (some ⟨w3.heap.size,0,none⟩)] 270))=W5 at *;have HI5:=QA hI5;have b:=QA b5;have p0:W5.cell? ⟨w3.heap.size+1,0,none⟩=some (.pointer (some ⟨w3.heap.size,0,none⟩)):=(Qdl kp 0).trans rfl;clear hI5 b5 hW5 ka ke b0 e0 hb hR;have ha2:w.heap.size≠w3.heap.size:=by omega
 have he2:w.heap.size+1≠w3.heap.size:=by omega
 have hea:w.heap.size+1≠w.heap.size:=by omega
 have hcg:w3.heap.size+1≠w3.heap.size:=by omega
 go_wp2_with (refine(HRD.out W5 w3.heap.size (by omega) b.out HI5.out).mono ?_;rintro ee w6 ⟨i,hI6,hT6,⟨rfl,hp6⟩ |⟨er,rfl,hp6⟩⟩<;>(obtain⟨v6,kg6,hR6⟩:=hI6;have ka6:=hT6 _ _ _ (by omega) ka5 (by decide) ha2;have ke6:=hT6 _ _ _ (by omega) ke5 (by decide) he2;have kp6:=hT6 _ _ _ (by omega) kp (by decide) hcg;have q0:w6.cell? ⟨w3.heap.size+1,0,none⟩=some (.pointer (some ⟨w3.heap.size,0,none⟩)):=(Qdl kp6 0).trans rfl;have q1:w6.cell? ⟨w3.heap.size,1,none⟩=some (.int .i64 i):=(Qdl kg6 1).trans rfl;have q2:w6.frozen? ⟨w.heap.size,0,none⟩=false:=Qdm ka6 0;have q3:w6.cell? ⟨w.heap.size,0,none⟩=some (.int .i64 0):=(Qdl ka6 0).trans rfl;have ke7:=Qdj ke6 (p:=⟨w.heap.size,0,none⟩) hea (.int .i64 i);have q4:(w6.setCell ⟨w.heap.size,0,none⟩ (.int .i64 i)).frozen? ⟨w.heap.size+1,0,none⟩=false:=Qdm ke7 0;have q5:(w6.setCell ⟨w.heap.size,0,none⟩ (.int .i64 i)).cell? ⟨w.heap.size+1,0,none⟩=some (.int .i64 0):=(Qdl ke7 0).trans rfl))
 ·have bc8:=Qdj (Qdj kp6 (p:=⟨w.heap.size,0,none⟩) (show w3.heap.size+1≠w.heap.size by omega) (.int .i64 i)) (p:=⟨w.heap.size+1,0,none⟩) (show w3.heap.size+1≠w.heap.size+1 by omega) (.int .i64 0);have g8:=Qdj (Qdj kg6 (p:=⟨w.heap.size,0,none⟩) (show w3.heap.size≠w.heap.size by omega) (.int .i64 i)) (p:=⟨w.heap.size+1,0,none⟩) (show w3.heap.size≠w.heap.size+1 by omega) (.int .i64 0);have ba8:=Qdj (Qdi ka6 0 (.int .i64 i)) (p:=⟨w.heap.size+1,0,none⟩) (show w.heap.size≠w.heap.size+1 by omega) (.int .i64 0);have be8:=Qdi ke7 0 (.int .i64 0);have ba9:=Qdi (Qdj ba8 (p:=⟨w3.heap.size,2,none⟩) ha2 (.bool false)) 0 (.int .i64 i);have be9:=Qdj (Qdj be8 (p:=⟨w3.heap.size,2,none⟩) he2 (.bool false)) (p:=⟨w.heap.size,0,none⟩) hea (.int .i64 i);have bl:Below w.heap.size w6 (((((w6.setCell ⟨w.heap.size,0,none⟩ (.int .i64 i)).setCell ⟨w.heap.size+1,0,none⟩ (.int .i64 0)).setCell ⟨w3.heap.size,2,none⟩ (.bool false)).setCell ⟨w.heap.size,0,none⟩ (.int .i64 i))) :=
   Qio (Qio (Qio (Qio (Below.refl _ _) (Nat.le_refl _)) (Nat.le_succ _)) (by omega)) (Nat.le_refl _)
  have bt:Ty w6 (((((w6.setCell ⟨w.heap.size,0,none⟩ (.int .i64 i)).setCell ⟨w.heap.size+1,0,none⟩ (.int .i64 0)).setCell ⟨w3.heap.size,2,none⟩ (.bool false)).setCell ⟨w.heap.size,0,none⟩ (.int .i64 i))) :=
   ((((Ty.refl w6).set ka6 (.inl rfl) _).set ke7 (.inr (.inl rfl)) _).set g8 (.inr (.inr rfl)) _).set (Qdj ba8 (p:=⟨w3.heap.size,2,none⟩) ha2 (.bool false)) (.inl rfl) _
  refine leaves_cons (f:=218) (args:=#[.pointer (some ⟨w3.heap.size+1,0,none⟩),.pointer (some ⟨w.heap.size,0,none⟩),.pointer (some ⟨w.heap.size+1,0,none⟩)]) (by simp) (by simp[go_sem]) ?_;refine(Qlm w3.heap.size w.heap.size (w.heap.size+1) (w3.heap.size+1) i i v6 _ bc8 g8 ba8).mono ?_;rintro e u' w'' ⟨rfl,rfl,rfl⟩;show Leaves _ _ _ _ [] .returning _;exact⟨_,Qlo _ _ _ _ i 0 rfl rfl ba9 be9,0,i,rfl,HST.out _ _ _ _ hp6 bl bt⟩
 ·have ba9:=Qdj (Qdv (Qdi (Qdj ka6 (p:=⟨w3.heap.size,2,none⟩) ha2 (.bool false)) 0 (.int .i64 i)) (.cells #[.pointer (some ⟨w3.heap.size,0,none⟩),.int .i64 er] 317)) (p:=⟨w.heap.size+1,0,none⟩) (show w.heap.size≠w.heap.size+1 by omega) (.int .i64 er);have be9:=Qdi (Qdv (Qdj (Qdj ke6 (p:=⟨w3.heap.size,2,none⟩) he2 (.bool false)) (p:=⟨w.heap.size,0,none⟩) hea (.int .i64 i)) (.cells #[.pointer (some ⟨w3.heap.size,0,none⟩),.int .i64 er] 317)) 0 (.int .i64 er);have s6:w.heap.size≤w6.heap.size:=Nat.le_of_lt (Qdk ka6);have b1:Below w.heap.size w6 ((w6.setCell ⟨w3.heap.size,2,none⟩ (.bool false)).setCell ⟨w.heap.size,0,none⟩ (.int .i64 i)):=Qio (Qio (Below.refl _ _) (by omega)) (Nat.le_refl _);have bl:Below w.heap.size w6 ((((w6.setCell ⟨w3.heap.size,2,none⟩ (.bool false)).setCell ⟨w.heap.size,0,none⟩ (.int .i64 i)).alloc (.cells #[.pointer (some ⟨w3.heap.size,0,none⟩),.int .i64 er] 317)).setCell ⟨w.heap.size+1,0,none⟩ (.int .i64 er)) :=
   Qio (b1.trans (Qip (Qcn (Below.refl _ _) _) (Nat.le_trans s6 b1.size))) (Nat.le_succ _)
  have bt:Ty w6 ((((w6.setCell ⟨w3.heap.size,2,none⟩ (.bool false)).setCell ⟨w.heap.size,0,none⟩ (.int .i64 i)).alloc (.cells #[.pointer (some ⟨w3.heap.size,0,none⟩),.int .i64 er] 317)).setCell ⟨w.heap.size+1,0,none⟩ (.int .i64 er)) :=
   ((((Ty.refl w6).set kg6 (.inr (.inr rfl)) _).set (Qdj ka6 (p:=⟨w3.heap.size,2,none⟩) ha2 (.bool false)) (.inl rfl) _).alloc _).set (Qdv (Qdj (Qdj ke6 (p:=⟨w3.heap.size,2,none⟩) he2 (.bool false)) (p:=⟨w.heap.size,0,none⟩) hea (.int .i64 i)) _) (.inr (.inl rfl)) _
  refine leaves_cons (f:=218) (args:=#[.pointer (some ⟨w3.heap.size+1,0,none⟩),.pointer (some ⟨w.heap.size,0,none⟩),.pointer (some ⟨w.heap.size+1,0,none⟩)]) (by simp) (by simp[go_sem]) ?_;refine(Qln w3.heap.size w.heap.size (w.heap.size+1) (w3.heap.size+1) i 0 0 er v6 _ kp6 kg6 ka6 ke6).mono ?_;rintro e u' w'' ⟨rfl,rfl,rfl⟩;show Leaves _ _ _ _ [] .returning _;exact⟨_,Qlo _ _ _ _ i er rfl rfl ba9 be9,er,i,rfl,HST.out _ _ _ _ hp6 bl bt⟩
def rotT(x n:Int):Int:=(Qac.f x n).getD 0
theorem Qlq(x n:Int)(h:0≤n∧n<32∧Go.bits .and .u64 (IntKind.u64.wrap n) 31=n):Qac.f x n=some (rotT x n):=by
 unfold rotT Qac.f;rw[h.2.2,if_pos h.1,if_pos (by rw[IntWalk.u64_in _ (by omega)];omega)];rfl
def numT(l:List Int):Int:=(Qcj.f l).getD 0
theorem Qlr(l:List Int)(h:4≤l.length):Qcj.f l=some (numT l):=by
 unfold numT Qcj.f;rw[if_pos (show(0:Int)<l.length by omega),if_pos (show(1:Int)<l.length by omega),if_pos (show(2:Int)<l.length by omega),if_pos (show(3:Int)<l.length by omega)];rfl
def Qls(v y:Int):Int:=IntKind.u32.wrap (rotT (IntKind.u32.wrap (v+IntKind.u32.wrap (y*2246822519))) 13*2654435761)
def Qlt(v:V4)(l:List Int):V4:=(Qls v.1 (numT l),Qls v.2.1 (numT (l.drop 4)),Qls v.2.2.1 (numT (l.drop 8)),Qls v.2.2.2 (numT (l.drop 12)))
def Qlu:Nat→V4→List Int→V4
 | 0,v,_=>v
 | m+1,v,l=>Qlu m (Qlt v l) (l.drop 16)
def stepT(i:Nat)(v:V4)(l:List Int):V4:=(if 0<i then Qls v.1 (numT l)else v.1,if 1<i then Qls v.2.1 (numT (l.drop 4))else v.2.1,if 2<i then Qls v.2.2.1 (numT (l.drop 8))else v.2.2.1,if 3<i then Qls v.2.2.2 (numT (l.drop 12))else v.2.2.2)
def V0T(sd:Int):V4:=((sd+2654435761+2246822519)%4294967296,(sd+2246822519)%4294967296,sd,(sd-2654435761)%4294967296)
def sumT(v:V4):Int:=IntKind.u32.wrap (IntKind.u32.wrap (IntKind.u32.wrap (rotT v.1 1+rotT v.2.1 7)+rotT v.2.2.1 12)+rotT v.2.2.2 18)
def Qlv(sd:Int)(l:List Int):Int × List Int:=if l.length<16 then((sd+374761393)%4294967296,l)else(sumT (Qlu (l.length/16) (V0T sd) l),l.drop (16*(l.length/16)))
def Qck.f(a0:Int)(l1:List Int):Option (Int × List Int):=if l1.length≤140737488355328 then some (Qlv a0 l1)else none
def ArAt(W:World)(g:Nat)(v:V4):Prop:=W.heap[g]? = some (.cells #[.int .u32 v.1,.int .u32 v.2.1,.int .u32 v.2.2.1,.int .u32 v.2.2.2] 357 (0,0))
theorem Qlw{W:World}{A:Option Addr}{n c:Nat}{l:List Int}(hn:n=l.length)(hC:Kd.C (Kd.int .u8) W A n l)(hc:n≤c)(h4:4≤l.length) :
  Calls Tryz.prog 227 #[.slice A n c] W fun e w'=>e=.returned (.int .u32 (numT l))∧Drawn0 W w':=by
 subst hn;exact Qcj.calls A c l _ W hC hc (Qlr l h4)
theorem Qlx(x n:Int)(h:0≤n∧n<32∧Go.bits .and .u64 (IntKind.u64.wrap n) 31=n)(W:World):Calls Tryz.prog 226 #[.int .u32 x,.int .i64 n] W fun e w'=>e=.returned (.int .u32 (rotT x n))∧Drawn0 W w':=Qac.calls x n _ W (Qlq x n h)
theorem Qly(a0:Int)(A1:Option Addr)(c1:Nat)(l1:List Int)(w:World)(h:l1.length<16) :
  Calls Tryz.prog 225 #[.int .u32 a0,.slice A1 l1.length c1] w fun e w'=>e=.returned (.tuple #[.int .u32 ((a0+374761393)%4294967296),.slice A1 l1.length c1])∧Below w.heap.size w w':=by
 have hi:(l1.length:Int)<16:=by omega
 go_enter Tryz.func225,Tryz.ntmps225
 go_wp2_with fail
 go_ret2
 exact⟨rfl,Below.refl _ _⟩
theorem cutT(kk:IntKind)(A:Option Addr)(c:Nat)(l:List Int)(hlc:l.length≤c)(m:Nat)(hm:m≤l.length)(j:Int)(hj:j=(m:Int)):∃A' n' c',n'=(l.drop m).length∧n'=l.length-m∧(∀W:World,(Instr.slice 47 (.slice A l.length c) (some (.int kk j)) none none).run Tryz.prog W=.ok (.slice A' n' c') W)∧n'≤c' ∧
  ∀W,Kd.C (Kd.int .u8) W A l.length l→Kd.C (Kd.int .u8) W A' n' (l.drop m):=by
 obtain⟨i0,hii,_,hsz1,_⟩:=info_parts Qhx;have h:=Qej (P:=Tryz.prog) 47 5 kk Tryz.underlying47 hii 1 hsz1 A l.length c j (by omega) (by omega);rw[show j.toNat=m by omega]at h;refine⟨_,(l.drop m).length,c-m,rfl,List.length_drop,fun W=>by rw[List.length_drop];exact h W,by rw[List.length_drop];omega,fun W hC=>?_⟩;have h2:=Kd.C_drop (m:=m) hC hm hlc;exact h2
theorem ts_long(a0:Int)(A1:Option Addr)(c1:Nat)(l1:List Int)(w:World)(hr1:Kd.C (Kd.int .u8) w A1 l1.length l1)(hc1:l1.length≤c1)(h:¬l1.length<16) :
  Calls Tryz.prog 225 #[.int .u32 a0,.slice A1 l1.length c1] w fun e w'=>∃A c,e=.returned (.tuple #[.int .u32 (sumT (Qlu (l1.length/16) (V0T a0) l1)),.slice A (l1.drop (16*(l1.length/16))).length c])∧Kd.C (Kd.int .u8) w' A (l1.drop (16*(l1.length/16))).length (l1.drop (16*(l1.length/16)))∧(l1.drop (16*(l1.length/16))).length≤c∧Below w.heap.size w w':=by
 have hi:16≤(l1.length:Int):=by omega
 have j:=QA hr1;have hu:=Tryz.underlying357;have hu3:=Tryz.underlying47;clear hr1
 go_enter Tryz.func225,Tryz.ntmps225
 go_wp2_with fail
 generalize p:(a0+2654435761)%4294967296=y1;generalize r:(y1+2246822519)%4294967296=y2;generalize k:(a0+2654435761+2246822519)%4294967296=y3;generalize l:(a0+2246822519)%4294967296=y4;generalize n:(a0-2654435761)%4294967296=y5;have HV0:=QA (show ArAt (w.alloc (.cells #[.int .u32 y3,.int .u32 y4,.int .u32 a0,.int .u32 y5] 357)) w.heap.size (V0T a0)by unfold V0T;rw[k,l,n];exact Qdz w _);have d:=QA (Qcn (Below.refl w.heap.size w) (.cells #[.int .u32 y3,.int .u32 y4,.int .u32 a0,.int .u32 y5] 357));clear p r k l n;obtain⟨B,hB⟩:∃B,B=w.heap.size:=⟨_,rfl⟩;obtain⟨W,hW⟩:∃W,W=w.alloc (.cells #[.int .u32 y3,.int .u32 y4,.int .u32 a0,.int .u32 y5] 357):=⟨_,rfl⟩;rw[← hW,← hB]at HV0;rw[← hW]at d;rw[← hW,← hB];have HBB:=QA hB;clear hW hB
 go_loopw [1] (fun v1 wr=>∃(m:Nat) (l':List Int) (V':V4) (A:Option Addr) (c:Nat),v1=.slice A l'.length c∧l'.length≤c∧l'.length≤l1.length∧Aside0 (l'.length/16=m∧Qlu (l1.length/16) (V0T a0) l1=Qlu m V' l'∧l1.drop (16*(l1.length/16))=l'.drop (16*m))∧Aside0 (Kd.C (Kd.int .u8) w A l'.length l')∧Aside0 (ArAt wr B V')∧Aside0 (Below w.heap.size w wr))
  (fun v1 _=>lenV v1)
 case atStart=>exact⟨_,l1,V0T a0,A1,c1,rfl,hc1,Nat.le_refl _,⟨rfl,rfl,rfl⟩,j,HV0,d⟩
 case round =>
  obtain⟨m,l',V',A,c,rfl,hlc,hll,HM,HC,HV,HB⟩:=hrel;clear j HV0 d
  by_cases s:16≤l'.length
  ·have o:(16:Int)≤(l'.length:Int):=by omega
   go_wp2_with fail
   go_loopw [9,30] (fun v9 g wi=>∃(i:Nat) (iv:Int),i≤4∧g=.int .i64 iv∧Aside0 (iv=(i:Int))∧Aside0 (ArAt wi B (stepT i V' l'))∧Aside0 (Below w.heap.size w wi))
    (fun _ g _=>4-(intOf g).toNat)
   case atStart=>exact⟨0,0,by omega,rfl,⟨rfl⟩,HV,HB⟩
   case round =>
    obtain⟨i,iv,hi4,rfl,HI,HVi,HBi⟩:=hrel;clear HB HV
    by_cases h4:i<4
    ·have hk:i=0∨i=1∨i=2∨i=3:=by omega
     rcases hk with rfl|rfl|rfl|rfl
     ·obtain rfl:iv=0:=HI.out;have cv:wr.cell? ⟨B,0,none⟩=some (.int .u32 V'.1):=(Qdl HVi.out 0).trans rfl;have fv:=Qdm HVi.out 0;obtain⟨A',n',c',hn',a,hcut,hc',hA'⟩:=cutT .i64 A c l' hlc 0 (by omega) 0 rfl;have b:4≤(l'.drop 0).length:=by rw[List.length_drop];omega
      have hwa:IntKind.i64.wrap 0=0:=IntWalk.i64_in 0 (by decide);have hq:∀q,Kd.C (Kd.int .u8) (wr.drewN q) A' n' (l'.drop 0):=fun q=>Kd.C_below (hA' w HC.out) (Qcp HBi.out q)
      have HN:=QA (And.intro hn' hc');clear hA' hn' a hc'
      go_wp2_with fail
      go_region_with (first |(go_at_call 227;refine(Qlw HN.out.1 (hq _) HN.out.2 b).mono ?_;rintro e w7 ⟨rfl,hd⟩;obtain⟨q,rfl⟩:=hd.out;clear hd) |(go_at_call 226;refine(Qlx _ 13 ⟨by decide,by decide,by kernel_rfl⟩ _).mono ?_;rintro e w8 ⟨rfl,hd⟩;obtain⟨q2,rfl⟩:=hd.out;clear hd))
      all_goals
       go_wp2_with fail
       go_roundw
       case rel=>exact⟨1,1,by omega,by go_num,⟨rfl⟩,⟨Qdi (w:=wr.drewN _) HVi.out 0 _⟩,⟨Qio (Qcp HBi.out _) (Nat.le_of_eq HBB.out.symm)⟩⟩
       case measure=>simp[intOf]
     ·obtain rfl:iv=1:=HI.out;have cv:wr.cell? ⟨B,1,none⟩=some (.int .u32 V'.2.1):=(Qdl HVi.out 1).trans rfl;have fv:=Qdm HVi.out 1;obtain⟨A',n',c',hn',a,hcut,hc',hA'⟩:=cutT .i64 A c l' hlc 4 (by omega) 4 rfl;have b:4≤(l'.drop 4).length:=by rw[List.length_drop];omega
      have hwa:IntKind.i64.wrap 4=4:=IntWalk.i64_in 4 (by decide);have hq:∀q,Kd.C (Kd.int .u8) (wr.drewN q) A' n' (l'.drop 4):=fun q=>Kd.C_below (hA' w HC.out) (Qcp HBi.out q)
      have HN:=QA (And.intro hn' hc');clear hA' hn' a hc'
      go_wp2_with fail
      go_region_with (first |(go_at_call 227;refine(Qlw HN.out.1 (hq _) HN.out.2 b).mono ?_;rintro e w7 ⟨rfl,hd⟩;obtain⟨q,rfl⟩:=hd.out;clear hd) |(go_at_call 226;refine(Qlx _ 13 ⟨by decide,by decide,by kernel_rfl⟩ _).mono ?_;rintro e w8 ⟨rfl,hd⟩;obtain⟨q2,rfl⟩:=hd.out;clear hd))
      all_goals
       go_wp2_with fail
       go_roundw
       case rel=>exact⟨2,2,by omega,by go_num,⟨rfl⟩,⟨Qdi (w:=wr.drewN _) HVi.out 1 _⟩,⟨Qio (Qcp HBi.out _) (Nat.le_of_eq HBB.out.symm)⟩⟩
       case measure=>simp[intOf]
     ·obtain rfl:iv=2:=HI.out;have cv:wr.cell? ⟨B,2,none⟩=some (.int .u32 V'.2.2.1):=(Qdl HVi.out 2).trans rfl;have fv:=Qdm HVi.out 2;obtain⟨A',n',c',hn',a,hcut,hc',hA'⟩:=cutT .i64 A c l' hlc 8 (by omega) 8 rfl;have b:4≤(l'.drop 8).length:=by rw[List.length_drop];omega
      have hwa:IntKind.i64.wrap 8=8:=IntWalk.i64_in 8 (by decide);have hq:∀q,Kd.C (Kd.int .u8) (wr.drewN q) A' n' (l'.drop 8):=fun q=>Kd.C_below (hA' w HC.out) (Qcp HBi.out q)
      have HN:=QA (And.intro hn' hc');clear hA' hn' a hc'
      go_wp2_with fail
      go_region_with (first |(go_at_call 227;refine(Qlw HN.out.1 (hq _) HN.out.2 b).mono ?_;rintro e w7 ⟨rfl,hd⟩;obtain⟨q,rfl⟩:=hd.out;clear hd) |(go_at_call 226;refine(Qlx _ 13 ⟨by decide,by decide,by kernel_rfl⟩ _).mono ?_;rintro e w8 ⟨rfl,hd⟩;obtain⟨q2,rfl⟩:=hd.out;clear hd))
      all_goals
       go_wp2_with fail
       go_roundw
       case rel=>exact⟨3,3,by omega,by go_num,⟨rfl⟩,⟨Qdi (w:=wr.drewN _) HVi.out 2 _⟩,⟨Qio (Qcp HBi.out _) (Nat.le_of_eq HBB.out.symm)⟩⟩
       case measure=>simp[intOf]
     ·obtain rfl:iv=3:=HI.out;have cv:wr.cell? ⟨B,3,none⟩=some (.int .u32 V'.2.2.2):=(Qdl HVi.out 3).trans rfl;have fv:=Qdm HVi.out 3;obtain⟨A',n',c',hn',a,hcut,hc',hA'⟩:=cutT .i64 A c l' hlc 12 (by omega) 12 rfl;have b:4≤(l'.drop 12).length:=by rw[List.length_drop];omega
      have hwa:IntKind.i64.wrap 12=12:=IntWalk.i64_in 12 (by decide);have hq:∀q,Kd.C (Kd.int .u8) (wr.drewN q) A' n' (l'.drop 12):=fun q=>Kd.C_below (hA' w HC.out) (Qcp HBi.out q)
      have HN:=QA (And.intro hn' hc');clear hA' hn' a hc'
      go_wp2_with fail
      go_region_with (first |(go_at_call 227;refine(Qlw HN.out.1 (hq _) HN.out.2 b).mono ?_;rintro e w7 ⟨rfl,hd⟩;obtain⟨q,rfl⟩:=hd.out;clear hd) |(go_at_call 226;refine(Qlx _ 13 ⟨by decide,by decide,by kernel_rfl⟩ _).mono ?_;rintro e w8 ⟨rfl,hd⟩;obtain⟨q2,rfl⟩:=hd.out;clear hd))
      all_goals
       go_wp2_with fail
       go_roundw
       case rel=>exact⟨4,4,by omega,by go_num,⟨rfl⟩,⟨Qdi (w:=wr.drewN _) HVi.out 3 _⟩,⟨Qio (Qcp HBi.out _) (Nat.le_of_eq HBB.out.symm)⟩⟩
       case measure=>simp[intOf]
    ·obtain rfl:i=4:=by omega
     obtain rfl:iv=4:=HI.out;obtain⟨A',n',c',hn',a,hcut,hc',hA'⟩:=cutT .i64 A c l' hlc 16 s 16 rfl;have HN:=QA (And.intro hn' (And.intro a hc'));have HA':=QA (hA' w HC.out);clear hA' hn' a hc'
     go_wp2_with fail
     go_roundw
     case rel =>
      have e4:stepT 4 V' l'=Qlt V' l':=rfl;have hm:=HM.out;obtain⟨hn',a,hc'⟩:=HN.out;subst hn';refine⟨m-1,l'.drop 16,Qlt V' l',A',c',rfl,hc',by omega,⟨by omega,?_,?_⟩,HA',HVi,HBi⟩
      ·rw[hm.2.1,show m=(m-1)+1 by omega];rfl
      ·rw[hm.2.2,List.drop_drop]
       congr 1
       omega
     case measure=>simp[lenV];have:=HN.out.2.1;omega
  ·have o:(l'.length:Int)<16:=by omega
   obtain⟨v1,v2,v3,v4⟩:=V'
   go_wp2_with fail
   have c0:wr.cell? ⟨B,0,none⟩=some (.int .u32 v1):=(Qdl HV.out 0).trans rfl;have c1:wr.cell? ⟨B,1,none⟩=some (.int .u32 v2):=(Qdl HV.out 1).trans rfl;have c2:wr.cell? ⟨B,2,none⟩=some (.int .u32 v3):=(Qdl HV.out 2).trans rfl;have c3:wr.cell? ⟨B,3,none⟩=some (.int .u32 v4):=(Qdl HV.out 3).trans rfl
   go_region_held3 (fun w'=>w'.cell? ⟨B,0,none⟩=some (.int .u32 v1)∧w'.cell? ⟨B,1,none⟩=some (.int .u32 v2)∧w'.cell? ⟨B,2,none⟩=some (.int .u32 v3)∧w'.cell? ⟨B,3,none⟩=some (.int .u32 v4)) (go_keep) (first
    |(go_at_call_of 226 (Value.int .i64 1);refine(Qlx v1 1 ⟨by decide,by decide,by kernel_rfl⟩ _).mono ?_;rintro e w7 ⟨rfl,hd⟩;obtain⟨q1,rfl⟩:=hd.out;clear hd)
    |(go_at_call_of 226 (Value.int .i64 7);refine(Qlx v2 7 ⟨by decide,by decide,by kernel_rfl⟩ _).mono ?_;rintro e w7 ⟨rfl,hd⟩;obtain⟨q2,rfl⟩:=hd.out;clear hd)
    |(go_at_call_of 226 (Value.int .i64 12);refine(Qlx v3 12 ⟨by decide,by decide,by kernel_rfl⟩ _).mono ?_;rintro e w7 ⟨rfl,hd⟩;obtain⟨q3,rfl⟩:=hd.out;clear hd)
    |(go_at_call_of 226 (Value.int .i64 18);refine(Qlx v4 18 ⟨by decide,by decide,by kernel_rfl⟩ _).mono ?_;rintro e w7 ⟨rfl,hd⟩;obtain⟨q4,rfl⟩:=hd.out;clear hd))
   have hm0:m=0:=by have:=HM.out.1;omega
   subst hm0;have hm:=HM.out
   go_wp2_with fail
   refine bodyPost_ret (results_tmp2 rfl _ _ _) rfl ?_;have e2:l1.drop (16*(l1.length/16))=l':=by rw[hm.2.2];simp
   rw[e2,hm.2.1];exact⟨A,c,rfl,Kd.C_below HC.out (Qcp HB.out _),hlc,Qcp HB.out _⟩
theorem Qck.calls(a0:Int)(A1:Option Addr)(c1:Nat)(l1:List Int)(r1:Int)(r2:List Int)(w:World)(hr1:Kd.C (Kd.int .u8) w A1 l1.length l1)(hc1:l1.length≤c1)(h:Qck.f a0 l1=some (r1,r2)) :
  Calls Tryz.prog 225 #[.int .u32 a0,.slice A1 l1.length c1] w fun e w'=>∃A c,e=.returned (.tuple #[.int .u32 r1,.slice A r2.length c])∧Kd.C (Kd.int .u8) w' A r2.length r2∧r2.length≤c∧Below w.heap.size w w':=by
 unfold Qck.f Qlv at h;split at h
 ·have h:=Option.some.inj h
  by_cases hs:l1.length<16
  ·rw[if_pos hs]at h
   cases h
   refine(Qly a0 A1 c1 l1 w hs).mono ?_;rintro e w' ⟨rfl,hb⟩;exact⟨A1,c1,rfl,Kd.C_below hr1 hb,hc1,hb⟩
  ·rw[if_neg hs]at h
   cases h
   exact ts_long a0 A1 c1 l1 w hr1 hc1 hs
 ·cases h
def Qlz(h:Int)(l:List Int):Int:=rotT ((h+numT l*3266489917)%4294967296) 17*668265263%4294967296
def Qma:Nat→Int→List Int→Int
 | 0,h,_=>h
 | m+1,h,l=>Qma m (Qlz h l) (l.drop 4)
def oneT(h x:Int):Int:=rotT ((h+x%4294967296*374761393)%4294967296) 11*2654435761%4294967296
def mixT(h n p:Int):Int:=Go.bits .xor .u32 h (h/n)*p%4294967296
def finT(h:Int):Int:=Go.bits .xor .u32 (mixT (mixT h 32768 2246822519) 8192 3266489917) (mixT (mixT h 32768 2246822519) 8192 3266489917/65536)
def Qmb(h:Int)(l:List Int):Int:=finT ((l.drop (4*(l.length/4))).foldl oneT (Qma (l.length/4) h l))
def Qmc(sd:Int)(l:List Int):Int:=Qmb (((Qlv sd l).1+(l.length:Int)%4294967296)%4294967296) (Qlv sd l).2
def Qci.f(a0:Int)(l1:List Int):Option Int:=if l1.length≤140737488355328 then some (Qmc a0 l1)else none
theorem Qmd(a0:Int)(l1:List Int)(hl:l1.length≤140737488355328):Qck.f a0 l1=some ((Qlv a0 l1).1,(Qlv a0 l1).2):=by unfold Qck.f;rw[if_pos hl]
theorem Qme(a0:Int)(l1:List Int):(Qlv a0 l1).2.length≤l1.length:=by
 unfold Qlv;split
 ·exact Nat.le_refl _
 ·rw[List.length_drop];omega
theorem thin_of(a0:Int)(A1:Option Addr)(c1:Nat)(l1:List Int)(w:World)(hr1:Kd.C (Kd.int .u8) w A1 l1.length l1)(hc1:l1.length≤c1)(hl:l1.length≤140737488355328) :
  Calls Tryz.prog 176 #[.int .u32 a0,.slice A1 l1.length c1] w fun e w'=>e=.returned (.int .u32 (Qmc a0 l1))∧Below w.heap.size w w':=by
 have j:=QA hr1;have HST:=QA (Qmd a0 l1 hl);have HSL:=QA (Qme a0 l1);obtain⟨h0,hh0⟩:∃h0,h0=(Qlv a0 l1).1:=⟨_,rfl⟩;obtain⟨r0,hr0⟩:∃r0,r0=(Qlv a0 l1).2:=⟨_,rfl⟩;rw[← hh0,← hr0]at HST;rw[← hr0]at HSL;have hT:Qmc a0 l1=Qmb ((h0+(l1.length:Int)%4294967296)%4294967296) r0:=by rw[hh0,hr0];rfl
 have HT:=QA hT;clear hr1 hh0 hr0 hT
 go_enter Tryz.func176,Tryz.ntmps176
 go_wp2_with (go_at_call 225;refine(Qck.calls a0 A1 c1 l1 h0 r0 _ j.out hc1 HST.out).mono ?_;rintro e w1 ⟨A,c,rfl,hC,hcc,hb1⟩;have HC:=QA hC;have d:=QA hb1;clear hC hb1)
 generalize l:(l1.length:Int)%4294967296=x1 at HT ⊢;generalize n:(h0+x1)%4294967296=x2 at HT ⊢;clear l n
 go_loopw [5,6] (fun v5 v6 wr=>∃(m:Nat) (h:Int) (l':List Int) (A:Option Addr) (c:Nat),v5=.int .u32 h∧v6=.slice A l'.length c∧l'.length≤c∧l'.length≤l1.length∧Aside0 (l'.length/4=m∧Qmc a0 l1=Qmb h l')∧Aside0 (Kd.C (Kd.int .u8) wr A l'.length l')∧Aside0 (Below w.heap.size w wr))
  (fun _ v6 _=>lenV v6)
 case atStart=>exact⟨_,x2,r0,A,c,rfl,rfl,hcc,HSL.out,⟨rfl,HT.out⟩,HC,d⟩
 case round =>
  clear HC d HST HT HSL hcc;obtain⟨m,h,l',A,c,rfl,rfl,hlc,hll,HM,HC,HB⟩:=hrel
  by_cases h4:4≤l'.length
  ·have o:(4:Int)≤(l'.length:Int):=by omega
   obtain⟨A',n',c',hn',a,hcut,hc',hA'⟩:=cutT .i64 A c l' hlc 4 h4 4 rfl;have HN:=QA (And.intro hn' (And.intro a hc'));have HA':=QA (hA' _ HC.out);clear hA' hn' a hc'
   go_wp2_with (first |(go_at_call 227;refine(Qlw rfl HC.out hlc h4).mono ?_;rintro e w7 ⟨rfl,hd⟩;have hd1:=hd.below;clear hd) |(go_at_call 226;refine(Qlx _ 17 ⟨by decide,by decide,by kernel_rfl⟩ _).mono ?_;rintro e w9 ⟨rfl,hd⟩;have hd3:=hd.below;clear hd))
   go_roundw
   case rel =>
    obtain⟨hn',a,hc'⟩:=HN.out;have hm:=HM.out;subst hn';refine⟨m-1,Qlz h l',l'.drop 4,A',c',rfl,rfl,hc',by omega,⟨by omega,?_⟩,⟨Kd.C_below (Kd.C_below HA'.out hd1) hd3⟩,⟨Qcq (Qcq HB.out HB.out.size hd1) (Nat.le_trans HB.out.size hd1.size) hd3⟩⟩;rw[hm.2];unfold Qmb;have e1:l'.length/4=(l'.drop 4).length/4+1:=by omega
    rw[e1,List.drop_drop];show finT (List.foldl oneT (Qma ((l'.drop 4).length/4) (Qlz h l') (l'.drop 4)) (l'.drop (4*((l'.drop 4).length/4+1))))=_;rw[show 4*((l'.drop 4).length/4+1)=4+4*((l'.drop 4).length/4)by omega]
   case measure=>simp[lenV];have:=HN.out.2.1;omega
  ·have o:(l'.length:Int)<4:=by omega
   go_wp2_with fail
   obtain⟨R,hR⟩:∃R,R=l'.foldl oneT h:=⟨_,rfl⟩;have g:=QA hR;clear hR
   go_loopw [5,8,34] (fun v5 v8 b wi=>∃(k:Nat) (iv x:Int),k≤l'.length∧b=.int .i64 iv∧v5=.int .u32 x∧Aside0 (iv=(k:Int))∧Aside0 ((l'.drop k).foldl oneT x=R)∧Aside0 (Below wr.heap.size wr wi))
    (fun _ _ b _=>l'.length-(intOf b).toNat)
   case atStart=>exact⟨0,0,_,Nat.zero_le _,rfl,rfl,⟨rfl⟩,⟨by rw[List.drop_zero];exact g.out.symm⟩,⟨Below.refl _ _⟩⟩
   case round =>
    obtain⟨k,iv,x,hk,rfl,rfl,HK,HX,HBi⟩:=hrel
    by_cases hlt:k<l'.length
    ·have hge:0≤iv:=by have:=HK.out;omega
     have hl2:iv<(l'.length:Int):=by have:=HK.out;omega
     obtain⟨ad,hA3,p⟩:=Kd.at_int (Kd.C_below HC.out HBi.out) iv hge hl2;have hA4:=hA3;obtain⟨y,hy⟩:∃y,y=rd l' iv:=⟨_,rfl⟩;rw[← hy]at p;have HY:=QA hy;have HA:=QA hA4;clear hy hA4;subst hA3
     go_wp2_with (go_at_call 226;refine(Qlx _ 11 ⟨by decide,by decide,by kernel_rfl⟩ _).mono ?_;rintro e q ⟨rfl,hd⟩;have hd4:=hd.below;clear hd)
     go_roundw
     case rel=>exact⟨k+1,iv+1,oneT x y,by omega,by go_num,by unfold oneT;with_reducible rfl,⟨by have:=HK.out;omega⟩,⟨by
      have e1:iv=(k:Int):=HK.out;have e2:l'.drop k=rd l' (k:Int) :: l'.drop (k+1):=by
       rw[List.drop_eq_getElem_cons hlt];simp[rd,List.getD_eq_getElem?_getD,List.getElem?_eq_getElem hlt]
      have e3:=HX.out;rw[e2,List.foldl_cons,← e1,← HY.out]at e3;exact e3⟩,⟨Qcq HBi.out HBi.out.size hd4⟩⟩
     case measure=>simp[intOf];omega
    ·obtain rfl:k=l'.length:=by omega
     have e1:iv=_:=HK.out;subst e1
     go_wp2_with fail
     go_ret
     have hx:=HX.out;rw[List.drop_of_length_le (Nat.le_refl l'.length)]at hx;have hx':x=R:=hx;have hm:=HM.out;have hm0:m=0:=by omega
     have e5:Qmc a0 l1=finT x:=by
      rw[hm.2,hx',g.out];unfold Qmb;rw[hm.1,hm0];rfl
     exact⟨by rw[e5];rfl,Qcq HB.out HB.out.size HBi.out⟩
theorem Qci.calls(a0:Int)(A1:Option Addr)(c1:Nat)(l1:List Int)(r:Int)(w:World)(hr1:Kd.C (Kd.int .u8) w A1 l1.length l1)(hc1:l1.length≤c1)(h:Qci.f a0 l1=some r) :
  Calls Tryz.prog 176 #[.int .u32 a0,.slice A1 l1.length c1] w fun e w'=>e=.returned (.int .u32 r)∧Below w.heap.size w w':=by
 unfold Qci.f at h
 by_cases hl:l1.length≤140737488355328
 ·rw[if_pos hl]at h
  cases h
  exact thin_of a0 A1 c1 l1 w hr1 hc1 hl
 ·rw[if_neg hl]at h;cases h
end Go.Proofs.YtepkfjmjidjedaaGreat.C
end
