/- Merged texts. -/
import Derived.Test.YteaocbonofboeaaGreatME02
import Derived.Test.YteaocbonofboeaaGreatME05
import Derived.WalkLawsBesides
import Derived.Defers
import Derived.Deep.RegionLaw
import Derived.Test.YteaocbonofboeaaGreatME07
import Derived.Recover
import Derived.Test.YteaocbonofboeaaGreatME03
import Derived.Test.YteaocbonofboeaaGreatME08
set_option linter.unusedVariables false
set_option linter.unusedSimpArgs false
set_option maxHeartbeats 8000000
set_option maxRecDepth 100000
section
namespace Go.Proofs.YteaocbonofboeaaGreat.C
open Go.RowKit Go.Proofs.YteaocbonofboeaaGreatW.PrintWords Go.Proofs.YteaocbonofboeaaGreatW.PrintLast Go.Proofs.YteaocbonofboeaaGreatW.PrintMore
def Qav.f(a0:Int):Option (Int × Int):=if 0≤a0 then if a0<256 then some (12+a0%2,1+a0/2%8)else none else none
theorem Qav.calls(a0:Int)(r1:Int)(r2:Int)(w:World)(h:Qav.f a0=some (r1,r2)) :
  Calls Tryz.prog 16 #[.int .u8 a0] w fun e w'=>e=.returned (.agg #[.int .u8 r1,.int .u32 r2])∧Below w.heap.size w w':=by
 unfold Qav.f at h
 by_cases h0:0≤a0
 ·by_cases h1:a0<256
  ·rw[if_pos h0,if_pos h1]at h;simp only[Option.some.injEq,Prod.mk.injEq]at h;have hr1:=QA h.1;have hr2:=QA h.2;clear h;have hu:=Tryz.underlying28;have e1:Int.tmod a0 2=a0%2:=Int.tmod_eq_emod_of_nonneg h0;have e2:Int.tdiv a0 2=a0/2:=Int.tdiv_eq_ediv_of_nonneg h0;have e3:(12+a0%2)%256=12+a0%2:=by omega
   have e4:a0/2%256=a0/2:=by omega
   go_enter Tryz.func16,Tryz.ntmps16
   go_wp2_with fail
   refine bodyPost_ret (results_cell_row rfl _ _ w.heap.size 28 #[.int .u8 (12+a0%2),.int .u32 (1+a0/2%8)] (0,0) _ rfl (Qeh w _) Tryz.underlying28 rfl qq_4) rfl ?_;exact⟨by rw[hr1.out,hr2.out],Qcs (Below.refl _ _) _⟩
  ·rw[if_pos h0,if_neg h1]at h;cases h
 ·rw[if_neg h0]at h;cases h
def Qbe.f(k:Nat)(a0:ByteArray):Option ByteArray:=if a0.size≤70368744177664 then(Qbd.f k (a0.size:Int)).bind fun t=>if t.size≤1000 then some (t++a0)else none else none
theorem Qbe.calls(k:Nat)(a0:ByteArray)(r:ByteArray)(w:World)(h:Qbe.f k a0=some r) :
  Calls Tryz.prog 136 #[.string a0] w fun e w'=>e=.returned (.string r)∧Below w.heap.size w w':=by
 unfold Qbe.f at h
 by_cases hs:a0.size≤70368744177664
 ·rw[if_pos hs]at h;obtain⟨t,ht,h⟩:=Option.bind_eq_some_iff.mp h
  by_cases h1:t.size≤1000
  ·rw[if_pos h1]at h;obtain rfl:=Option.some.inj h;have HT:=QA ht;clear ht h;have hc:t.size+a0.size≤9223372036854775807:=by omega
   go_enter Tryz.func136,Tryz.ntmps136
   go_wp2_with (go_at_call 135;refine(Qbd.calls k _ _ _ HT.out).mono ?_;rintro e w1 ⟨rfl,hb1⟩)
   go_ret
   exact⟨rfl,hb1⟩
  ·rw[if_neg h1]at h;cases h
 ·rw[if_neg hs]at h;cases h
abbrev KS:=Int × Int × Int × Int
abbrev Ck:=Int × Int × Int
def cutO(K:KS)(x:Int):List Ck:=if x=0 then [(K.2.1,K.2.2.2,K.2.2.1)]else []
def cutF(K:KS)(x:Int):KS:=(K.1,K.2.1,K.2.2.1+1,if x=0 then K.2.2.1+1 else K.2.2.2)
def cutN(K:KS)(x:Int):KS:=if K.2.2.1+1=K.1 then(K.1,(K.2.1+1)%18446744073709551616,0,0)else cutF K x
def cutA:KS→List Int→List Ck × KS
 | K,[]=>([],K)
 | K,x :: l=>(cutO K x++(cutA (cutN K x) l).1,(cutA (cutN K x) l).2)
def kCk:Kd Ck:=Kd.pair (Kd.int .u64) (Kd.pair (Kd.int .i64) (Kd.int .i64))
theorem kCk_mkM(w:World)(base:Nat)(ok:Nat→Prop)(x:Ck):kCk.M w base ok x [.int .u64 x.1,.int .i64 x.2.1,.int .i64 x.2.2]:=⟨[.int .u64 x.1],[.int .i64 x.2.1,.int .i64 x.2.2],rfl,rfl,⟨[.int .i64 x.2.1],[.int .i64 x.2.2],rfl,rfl,rfl⟩⟩
theorem Qpr{w:World}{x:Ck}{cs:List Value}(h:kCk.K w x cs):cs=[.int .u64 x.1,.int .i64 x.2.1,.int .i64 x.2.2]:=by
 obtain⟨_,_,rfl,rfl,⟨_,_,rfl,rfl,rfl⟩⟩:=h;exact rfl
def RCk(W:World)(b:Nat)(v:Value)(xs:List Ck):Prop:=kCk.R 147 W b (fun _=>True) v xs
def IsK(W:World)(g:Nat)(K:KS):Prop:=W.heap[g]? = some (.cells #[.int .i64 K.1,.int .u64 K.2.1,.int .i64 K.2.2.1,.int .i64 K.2.2.2] 207 (0,0))
def KT(W W':World):Prop:=∀(k:Nat) (cs:Array Value) (t:TypeId),W.heap[k]? = some (.cells cs t (0,0))→t≠207→t≠147→W'.heap[k]? = some (.cells cs t (0,0))
theorem KT.refl(W:World):KT W W:=fun _ _ _ h _ _=>h
theorem KT.trans{a b c:World}(h:KT a b)(k:KT b c):KT a c:=fun _ _ _ h1 h2 h3=>k _ _ _ (h _ _ _ h1 h2 h3) h2 h3
theorem KT.below{W W':World}(h:Below W.heap.size W W'):KT W W':=fun _ _ _ h1 _ _=>Qeg h1 h
theorem KT.set{W:World}{g:Nat}{cs:Array Value}(hg:W.heap[g]? = some (.cells cs 207 (0,0)))(j:Nat)(u:Value):KT W (W.setCell ⟨g,j,none⟩ u):=fun k cs' t h1 h2 _=>Qdp h1 (p:=⟨g,j,none⟩) (Qdu h1 hg h2) u
theorem KT.grown{W W':World}{b:Nat}{v:Value}{xs:List Ck}(hR:RCk W b v xs)(hg:W.grownBy W' v.ownBlock):KT W W':=fun k cs t h1 _ h3=>Qdt h1 hg (Kd.R_ne hR h1 (fun e=>h3 e.symm))
theorem IsK.cells{W:World}{g:Nat}{K:KS}(h:IsK W g K):(W.cell? ⟨g,0,none⟩=some (.int .i64 K.1)∧W.cell? ⟨g,1,none⟩=some (.int .u64 K.2.1)∧W.cell? ⟨g,2,none⟩=some (.int .i64 K.2.2.1)∧W.cell? ⟨g,3,none⟩=some (.int .i64 K.2.2.2))∧W.frozen? ⟨g,1,none⟩=false∧W.frozen? ⟨g,2,none⟩=false∧W.frozen? ⟨g,3,none⟩=false :=
 ⟨⟨(Qdr h 0).trans rfl,(Qdr h 1).trans rfl,(Qdr h 2).trans rfl,(Qdr h 3).trans rfl⟩,Qds h 1,Qds h 2,Qds h 3⟩
theorem info_ck:(Tryz.prog.info? 147).map (fun i=>(i.zero,i.size,i.bytes))=some (some (.agg #[.int .u64 0,.int .i64 0,.int .i64 0]),3,24):=by kernel_rfl
structure KSt (w W:World) (b g:Nat) (K:KS) (out:List Ck) (v:Value):Prop where
  k:IsK W g K
  row:RCk W b v out
  low:Below b w W
  kt:KT w W
  bg:b≤g
theorem KSt.drewn{w W W':World}{b g:Nat}{K:KS}{out:List Ck}{v:Value}(h:KSt w W b g K out v)(hb:Below W.heap.size W W')(hbw:b≤W.heap.size):KSt w W' b g K out v :=
 ⟨Qeg h.k hb,Kd.R_below h.row hb,h.low.trans (Qju hb hbw),h.kt.trans (KT.below hb),h.bg⟩
theorem KSt.set{w W:World}{b g:Nat}{K K':KS}{out:List Ck}{v:Value}(h:KSt w W b g K out v)(j:Nat)(u:Value)(hk:IsK (W.setCell ⟨g,j,none⟩ u) g K'):KSt w (W.setCell ⟨g,j,none⟩ u) b g K' out v :=
 ⟨hk,Kd.R_set h.row h.k (by decide) j u,Qjt h.low h.bg,h.kt.trans (KT.set h.k j u),h.bg⟩
theorem KSt.app{w W W1:World}{b g:Nat}{K:KS}{out out1:List Ck}{v v1:Value}(h:KSt w W b g K out v)(hR:RCk W1 b v1 out1)(hb:Below b W W1)(hg:W.grownBy W1 v.ownBlock):KSt w W1 b g K out1 v1 :=
 ⟨Qdt h.k hg (Kd.R_ne h.row h.k (by decide)),hR,h.low.trans hb,h.kt.trans (KT.grown h.row hg),h.bg⟩
theorem cut_one(b g:Nat)(sz sg at_ fr x:Int)(out:List Ck)(v:Value)(w:World)(hS:KSt w w b g (sz,sg,at_,fr) out v)(hbw:b≤w.heap.size)(hat:0≤at_∧at_≤1000000000000)(hsg:0≤sg∧sg<18446744073709551616)(hl:out.length≤1000000000000) :
  Calls Tryz.prog 127 #[.pointer (some ⟨g,0,none⟩),.int .u8 x,v] w fun e w'=>∃v',e=.returned v'∧KSt w w' b g (cutN (sz,sg,at_,fr) x) (out++cutO (sz,sg,at_,fr) x) v':=by
 have hu:=Tryz.underlying207;have hw1:IntKind.i64.wrap (at_+1)=at_+1:=IntWalk.i64_in _ (by omega);have hw2:IntKind.u64.wrap (sg+1)=(sg+1)%18446744073709551616:=by rw[IntKind.wrap_u64]
 obtain⟨A,c,hv⟩:=Kd.R_slice hS.row;subst hv;have HS:=QA hS;clear hS
 go_enter Tryz.func127,Tryz.ntmps127
 go_upto_if 8 with fail
 go_cut [2] (fun v2 w'=>∃f,f=(if x=0 then at_+1 else fr)∧KSt w w' b g (sz,sg,at_,f) (out++cutO (sz,sg,at_,fr) x) v2∧b≤w'.heap.size)
 case first =>
  by_cases hx:x=0
  ·subst hx;obtain⟨⟨c0,c1,c2,c3⟩,f1,f2,f3⟩:=HS.out.k.cells;have d1:w.drew.cell? ⟨g,1,none⟩=some (.int .u64 sg):=c1;have d2:w.drew.cell? ⟨g,2,none⟩=some (.int .i64 at_):=c2;have d3:w.drew.cell? ⟨g,3,none⟩=some (.int .i64 fr):=c3;have HSd:=QA (HS.out.drewn (Qct (Below.refl _ _)) hbw);clear c0 f1 f2 f3
   go_upto_region 2 with fail
   go_region_law (first
    |(refine Kd.R_append_step kCk (w0:=w.drew) b (by rfl) (.tmp 9) (.tmp 23) 145 147 (.agg #[.int .u64 0,.int .i64 0,.int .i64 0]) 24 rfl Tryz.underlying145 info_ck rfl (by decide) (by omega) (.slice A out.length c) out (sg,fr,at_) [.int .u64 sg,.int .i64 fr,.int .i64 at_] (fun _=>True) (fun _=>False) rfl ?ax ?aP (fun _ hk=>hk.elim) (fun _ _=>trivial) ?aO (Below.refl _ _) ?aS ?aL ?_;(case ax=>rfl);(case aP=>exact kCk_mkM _ _ _ (sg,fr,at_));(case aO=>exact HSd.out.row);(case aS=>exact hbw);(case aL=>omega);intro v3 w3 d hb3 h hat3;have HS3:=QA (HSd.out.app d hb3 h);obtain⟨⟨e0,e1,e2,e3⟩,g1,g2,g3⟩:=HS3.out.k.cells;have HZ3:=QA (show b≤w3.heap.size from Nat.le_trans hbw hb3.size);clear d hb3 h hat3))
   all_goals
    go_wp2
    go_meet
    case rel=>exact⟨at_+1,by simp,by(have:=HS3.out.set (K':=(sz,sg,at_,at_+1)) 3 (.int .i64 (at_+1)) (Qdo HS3.out.k 3 _));exact this,by simpa [World.setCell]using HZ3.out⟩
  ·have hxb:(x == 0)=false:=beq_eq_false_iff_ne.2 hx;go_wp2
   go_meet
   case rel=>exact⟨fr,by rw[if_neg hx],by unfold cutO;rw[if_neg hx,List.append_nil];exact HS.out,hbw⟩
 case rest =>
  obtain⟨f,hf,hS2,hbw2⟩:=hcut;obtain⟨A2,c2,hv2⟩:=Kd.R_slice hS2.row;subst hv2;have HF:=QA hf;have HS2:=QA hS2;have HO:=QA (rfl:out++cutO (sz,sg,at_,fr) x=out++cutO (sz,sg,at_,fr) x);clear hf hS2;obtain⟨⟨c0,c1,j,c3⟩,f1,f2,f3⟩:=HS2.out.k.cells;obtain⟨o2,a⟩:∃o2,o2=out++cutO (sz,sg,at_,fr) x:=⟨_,rfl⟩;rw[← a]at HS2 ⊢;have l:=QA a;clear a HO;have s1:=HS2.out.set (K':=(sz,sg,at_+1,f)) 2 (.int .i64 (at_+1)) (Qdo HS2.out.k 2 _);have hbs:b≤(wc.setCell ⟨g,2,none⟩ (.int .i64 (at_+1))).heap.size:=by simpa [World.setCell]using hbw2
  go_upto_region 5 with fail
  obtain⟨W1,hW1⟩:∃W1,W1=wc.setCell ⟨g,2,none⟩ (.int .i64 (at_+1)):=⟨_,rfl⟩;rw[← hW1]at s1 hbs ⊢;clear hW1 c0 c1 j c3 f1 f2 f3;have S1:=QA (s1.drewn (Qct (Below.refl _ _)) hbs);obtain⟨⟨c0,c1,j,c3⟩,f1,f2,f3⟩:=s1.k.cells;obtain⟨⟨d0,d1,d2,d3⟩,e1,e2,e3⟩:=S1.out.k.cells;clear s1
  by_cases hq:at_+1=sz
  ·have hqb:(at_+1 == sz)=true:=beq_iff_eq.2 hq;have t1:=S1.out.set (K':=(sz,(sg+1)%18446744073709551616,at_+1,f)) 1 (.int .u64 ((sg+1)%18446744073709551616)) (Qdo S1.out.k 1 _);have t2:=t1.set (K':=(sz,(sg+1)%18446744073709551616,0,f)) 2 (.int .i64 0) (Qdo t1.k 2 _);have t3:=t2.set (K':=(sz,(sg+1)%18446744073709551616,0,0)) 3 (.int .i64 0) (Qdo t2.k 3 _);have T3:=QA t3;obtain⟨⟨p0,p1,p2,p3⟩,q1,q2,q3⟩:=t1.k.cells;obtain⟨⟨r0,r1,r2,r3⟩,u1,u2,u3⟩:=t2.k.cells;clear t1 t2 t3
   go_region
   all_goals
    go_wp2;go_ret
    refine⟨_,rfl,?_⟩;rw[← l.out];unfold cutN;rw[if_pos hq];exact T3.out
  ·have hqb:(at_+1 == sz)=false:=beq_eq_false_iff_ne.2 hq
   go_region
   all_goals
    go_wp2;go_ret
    refine⟨_,rfl,?_⟩;rw[← l.out];unfold cutN cutF;rw[if_neg hq];dsimp only;rw[← HF.out];exact S1.out
theorem cutN_at{K:KS}{x:Int}{m:Int}(h:0≤K.2.2.1∧K.2.2.1≤m)(hs:0≤K.2.1∧K.2.1<18446744073709551616):(0≤(cutN K x).2.2.1∧(cutN K x).2.2.1≤m+1)∧0≤(cutN K x).2.1∧(cutN K x).2.1<18446744073709551616:=by
 unfold cutN cutF;split
 ·dsimp only;omega
 ·dsimp only;omega
theorem Qps(K:KS)(x:Int):(cutO K x).length≤1:=by
 unfold cutO;split<;>simp
theorem Qpt(b g:Nat)(K:KS)(A:Option Addr)(c:Nat)(l:List Int)(w:World)(hK:IsK w g K)(hbg:b≤g)(hbw:b≤w.heap.size)(hC:∀W,Below b w W→Kd.C (Kd.int .u8) W A l.length l)(hl:l.length≤1000000)(hat:0≤K.2.2.1∧K.2.2.1≤1000000000)(hsg:0≤K.2.1∧K.2.1<18446744073709551616) :
  Calls Tryz.prog 74 #[.pointer (some ⟨g,0,none⟩),.slice A l.length c] w fun e w'=>∃v',e=.returned v'∧KSt w w' b g (cutA K l).2 (cutA K l).1 v':=by
 have HC:=QA hC;have HS:=QA (show KSt w w b g K [] (.slice none 0 0) from⟨hK,Kd.R_nil _ _ _ _ _,Below.refl _ _,KT.refl _,hbg⟩);have HAT:=QA (And.intro hat hsg);obtain⟨R,hR⟩:∃R,R=cutA K l:=⟨_,rfl⟩;rw[← hR];have HR:=QA hR;clear hC hK hat hsg hR
 go_enter Tryz.func74,Tryz.ntmps74
 go_wp2_with fail
 go_loopw [5,7,10] (fun v5 v7 a wr=>∃(i:Nat) (iv:Int) (K':KS) (out:List Ck),a=.int .i64 iv∧i≤l.length∧Aside0 (iv=(i:Int))∧Aside0 (R=(out++(cutA K' (l.drop i)).1,(cutA K' (l.drop i)).2))∧Aside0 ((0≤K'.2.2.1∧K'.2.2.1≤1000000000+(i:Int))∧(0≤K'.2.1∧K'.2.1<18446744073709551616)∧out.length≤i)∧Aside0 (KSt w wr b g K' out v5))
  (fun _ _ a _=>l.length-(intOf a).toNat)
 case atStart=>exact⟨0,0,K,[],rfl,Nat.zero_le _,⟨rfl⟩,⟨by rw[HR.out,List.drop_zero,List.nil_append]⟩,⟨by have:=HAT.out;exact⟨by omega,this.2,Nat.zero_le _⟩⟩,HS⟩
 case round =>
  clear HS HAT HR;obtain⟨i,iv,K',out,rfl,hi,HI,HA,HB,HSr⟩:=hrel
  by_cases hlt:i<l.length
  ·have hge:0≤iv:=by have:=HI.out;omega
   have hl2:iv<(l.length:Int):=by have:=HI.out;omega
   have hwi:IntKind.i64.wrap (iv+1)=iv+1:=IntWalk.i64_in _ (by omega);obtain⟨ad,hA3,d⟩:=Kd.at_int (HC.out _ HSr.out.low) iv hge hl2;obtain⟨x,hx⟩:∃x,x=YteaocbonofboeaaGreatW.PrintWords.rd l iv:=⟨_,rfl⟩;rw[← hx]at d;have HX:=QA hx;have HAD:=QA hA3;clear hx hA3;obtain⟨sz,sg,at_,fr⟩:=K';have hA4:=HAD.out;subst hA4
   go_wp2_with (go_at_call 127;refine(cut_one b g sz sg at_ fr x out _ _ ⟨HSr.out.k,HSr.out.row,Below.refl _ _,KT.refl _,HSr.out.bg⟩ (Nat.le_trans hbw HSr.out.low.size) (by have:=HB.out.1;dsimp only at this;omega) (by have:=HB.out.2.1;exact this) (by have:=HB.out.2.2;omega)).mono ?_;rintro ee w2 ⟨v2,rfl,h2⟩;have HS2:=QA (show KSt w w2 b g (cutN (sz,sg,at_,fr) x) (out++cutO (sz,sg,at_,fr) x) v2 from⟨h2.k,h2.row,HSr.out.low.trans h2.low,HSr.out.kt.trans h2.kt,h2.bg⟩);clear h2)
   go_roundw
   case rel =>
    refine⟨i+1,iv+1,cutN (sz,sg,at_,fr) x,out++cutO (sz,sg,at_,fr) x,rfl,hlt,⟨by have:=HI.out;omega⟩,⟨?_⟩,⟨?_⟩,HS2⟩
    ·have e1:iv=(i:Int):=HI.out;have e2:l.drop i=x :: l.drop (i+1):=by
      rw[HX.out,e1,List.drop_eq_getElem_cons hlt];simp[YteaocbonofboeaaGreatW.PrintWords.rd,List.getD_eq_getElem?_getD,List.getElem?_eq_getElem hlt]
     rw[HA.out,e2];simp only[cutA,List.append_assoc]
    ·have h3:=cutN_at (K:=(sz,sg,at_,fr)) (x:=x) HB.out.1 HB.out.2.1;have h4:=Qps (sz,sg,at_,fr) x;have h5:=HB.out.2.2;refine⟨by have:=h3.1;omega,h3.2,by rw[List.length_append];omega⟩
   case measure=>have:=HI.out;simp[intOf];omega
  ·obtain rfl:i=l.length:=by omega
   have e1:iv=_:=HI.out;subst e1;have hA:=HA.out;rw[List.drop_of_length_le (Nat.le_refl _)]at hA;have HA2:=QA hA;clear hA HA;go_wp2;go_ret
   refine⟨_,rfl,?_⟩;rw[HA2.out];simp only[cutA,List.append_nil];exact HSr.out
theorem Qpu(n:Nat)(hn:n≤64):∀(d i:Nat) (x:Int),i+d=n→∃r,Qbj.l0 (d+1) x (n:Int) (i:Int)=some r
 | 0,i,x,h=>by
  refine⟨x,?_⟩;unfold Qbj.l0;rw[if_neg (by omega)]
 | d+1,i,x,h=>by
  obtain⟨r,hr⟩:=Qpu n hn d (i+1) (IntKind.u64.wrap ((IntKind.u64.wrap (2*x))+(IntKind.u64.wrap (Int.tdiv x 9223372036854775808)))) (by omega);refine⟨r,?_⟩;unfold Qbj.l0;rw[if_pos (by omega),show wrap64 ((i:Int)+1)=((i+1:Nat):Int)by unfold wrap64;omega];exact hr
def Qpv(x:Int)(n:Nat):Int:=(Qbj.f (n+1) x n).getD 0
theorem Qpw(x:Int)(n:Nat)(hn:n≤64):Qbj.f (n+1) x n=some (Qpv x n):=by
 obtain⟨r,hr⟩:=Qpu n hn n 0 x (by omega);have h:Qbj.f (n+1) x n=some r:=hr;unfold Qpv;rw[h];rfl
def Qpx(x y:Int):Int:=(Qbh.f 32 x y).getD 0
theorem Qpy(x y:Int):Qbh.f 32 x y=some (Qpx x y):=by
 unfold Qpx Qbh.f;rw[show(32:Nat)=31+1 from rfl,show(31:Int)=((31:Nat):Int) from rfl,Qpw _ 31 (by omega)];rfl
theorem Qpz(s:ByteArray)(hs:s.size≤1000):∀(d:Nat) (x:Int),d≤s.size→∃r,Qbc.l0 (d+1) s x ((d:Int)-1)=some r
 | 0,x,h=>by
  refine⟨x,?_⟩;unfold Qbc.l0;rw[if_neg (by omega)]
 | d+1,x,h=>by
  obtain⟨r,hr⟩:=Qpz s hs d (IntKind.u64.wrap ((IntKind.u64.wrap (x*256))+(IntKind.u64.wrap (bt s (d:Int))))) (by omega);refine⟨r,?_⟩;unfold Qbc.l0;rw[show((d+1:Nat):Int)-1=(d:Int)by omega,if_pos (by omega),if_pos (by omega),if_pos (by omega),show wrap64 ((d:Int)-1)=(d:Int)-1 by unfold wrap64;omega];exact hr
def rval(s:ByteArray):Int:=(Qbc.f (s.size+1) s).getD 0
theorem Qqa(s:ByteArray)(hs:s.size≤1000):Qbc.f (s.size+1) s=some (rval s):=by
 obtain⟨r,hr⟩:=Qpz s hs s.size 0 (Nat.le_refl _);have h:Qbc.f (s.size+1) s=some r:=by
  unfold Qbc.f;rw[show wrap64 ((s.size:Int)-1)=(s.size:Int)-1 by unfold wrap64;omega];exact hr
 unfold rval;rw[h];rfl
def Qqb(v:V4)(s:ByteArray):V4:=(Qpx v.1 (rval (s.extract 0 8)),Qpx v.2.1 (rval (s.extract 8 16)),Qpx v.2.2.1 (rval (s.extract 16 24)),Qpx v.2.2.2 (rval (s.extract 24 32)))
def rrun:Nat→V4→ByteArray→V4 × ByteArray
 | 0,v,s=>(v,s)
 | m+1,v,s=>rrun m (Qqb v s) (s.extract 32 s.size)
def rsum(V:V4):Int:=IntKind.u64.wrap (IntKind.u64.wrap (IntKind.u64.wrap (Qpv V.1 1+Qpv V.2.1 7)+Qpv V.2.2.1 12)+Qpv V.2.2.2 18)
def Qqc(h x:Int):Int:=IntKind.u64.wrap (IntKind.u64.wrap (Go.bits .xor .u64 h (Qpx 0 x)*Q1)+Q4)
def rmix(h:Int)(V:V4):Int:=Qqc (Qqc (Qqc (Qqc h V.1) V.2.1) V.2.2.1) V.2.2.2
def Qqd(sd:Int):V4:=(IntKind.u64.wrap (IntKind.u64.wrap (sd+Q1)+Q2),IntKind.u64.wrap (sd+Q2),sd,IntKind.u64.wrap (sd-Q1))
def Qbg.f(a0:Int)(a1:ByteArray):Option (Int × ByteArray) :=
 if a1.size≤9223372036854775807 then some (rmix (rsum (rrun (a1.size/32) (Qqd a0) a1).1) (rrun (a1.size/32) (Qqd a0) a1).1,(rrun (a1.size/32) (Qqd a0) a1).2)else none
def rmixTo(i:Nat)(h:Int)(V:V4):Int:=match i with
 | 0=>h
 | 1=>Qqc h V.1
 | 2=>Qqc (Qqc h V.1) V.2.1
 | 3=>Qqc (Qqc (Qqc h V.1) V.2.1) V.2.2.1
 | _=>rmix h V
def VAt(W:World)(g:Nat)(V:V4):Prop:=W.heap[g]? = some (.cells #[.int .u64 V.1,.int .u64 V.2.1,.int .u64 V.2.2.1,.int .u64 V.2.2.2] 278 (0,0))
def Qqe:Value→Nat
 | .string s=>s.size
 | _=>0
def Qqf(i:Nat)(v:V4)(s:ByteArray):V4:=(if 0<i then Qpx v.1 (rval (s.extract 0 8))else v.1,if 1<i then Qpx v.2.1 (rval (s.extract 8 16))else v.2.1,if 2<i then Qpx v.2.2.1 (rval (s.extract 16 24))else v.2.2.1,if 3<i then Qpx v.2.2.2 (rval (s.extract 24 32))else v.2.2.2)
theorem Qqg(s:ByteArray)(hs:s.size≤1000)(W:World):Calls Tryz.prog 186 #[.string s] W fun e w'=>e=.returned (.int .u64 (rval s))∧Drawn0 W w':=Qbc.calls _ s _ W (Qqa s hs)
theorem Qqh(x y:Int)(W:World):Calls Tryz.prog 191 #[.int .u64 x,.int .u64 y] W fun e w'=>e=.returned (.int .u64 (Qpx x y))∧Drawn0 W w':=Qbh.calls _ x y _ W (Qpy x y)
theorem Qqi(x:Int)(n:Nat)(j:Int)(hj:j=(n:Int))(hn:n≤64)(W:World):Calls Tryz.prog 192 #[.int .u64 x,.int .i64 j] W fun e w'=>e=.returned (.int .u64 (Qpv x n))∧Drawn0 W w':=by
 subst hj;exact Qbj.calls _ x n _ W (Qpw x n hn)
theorem Qqj(s:ByteArray)(a b:Nat):(s.extract a b).size≤b-a:=by
 rw[ByteArray.size_extract];omega
theorem Qqk(sd:Int)(s0:ByteArray)(w:World)(hs:s0.size≤9223372036854775807) :
  Calls Tryz.prog 190 #[.int .u64 sd,.string s0] w fun e w'=>e=.returned (.tuple #[.int .u64 (rmix (rsum (rrun (s0.size/32) (Qqd sd) s0).1) (rrun (s0.size/32) (Qqd sd) s0).1),.string (rrun (s0.size/32) (Qqd sd) s0).2])∧Below w.heap.size w w':=by
 have hu2:=Tryz.underlying278
 go_enter Tryz.func190,Tryz.ntmps190
 go_wp2_with fail
 obtain⟨g,hg⟩:∃g,g=w.heap.size:=⟨_,rfl⟩;obtain⟨V0,hV0⟩:∃V0,V0=Qqd sd:=⟨_,rfl⟩;obtain⟨W,hW⟩:∃W,W=w.alloc (.cells #[.int .u64 (IntKind.u64.wrap (IntKind.u64.wrap (sd+11400714785074694791)+14029467366897019727)),.int .u64 (IntKind.u64.wrap (sd+14029467366897019727)),.int .u64 sd,.int .u64 (IntKind.u64.wrap (sd-11400714785074694791))] 278):=⟨_,rfl⟩;have HV0:=QA (show VAt W g V0 by rw[hW,hg,hV0];exact Qeh w _);have HW0:=QA (show Below w.heap.size w W by rw[hW];exact Qcs (Below.refl _ _) _);rw[← hW,← hg];have HG:=QA hg;have HVV:=QA hV0;clear hW hg hV0
 go_loopw [1,9,29] (fun v1 v9 a wr=>∃(m:Nat) (s:ByteArray) (V:V4),v1=.string s∧s.size≤s0.size∧Aside0 (s.size/32=m∧rrun (s0.size/32) V0 s0=rrun m V s)∧Aside0 (VAt wr g V)∧Aside0 (Below w.heap.size w wr))
  (fun v1 _ _ _=>Qqe v1)
 case atStart=>exact⟨_,s0,V0,rfl,Nat.le_refl _,⟨rfl,rfl⟩,HV0,HW0⟩
 case round =>
  clear HV0 HW0;obtain⟨m,s,V,rfl,hss,HM,HV,HB⟩:=hrel
  by_cases k:32≤s.size
  ·have d:(32:Int)≤(s.size:Int):=by omega
   go_wp2_with fail
   go_loopw [9,29] (fun v9 a wi=>∃(i:Nat) (iv:Int),i≤4∧a=.int .i64 iv∧Aside0 (iv=(i:Int))∧Aside0 (VAt wi g (Qqf i V s))∧Aside0 (Below w.heap.size w wi))
    (fun _ a _=>4-(intOf a).toNat)
   case atStart=>exact⟨0,0,by omega,rfl,⟨rfl⟩,HV,HB⟩
   case round =>
    clear HV HB;obtain⟨i,iv,hi,rfl,HI,HV,HB⟩:=hrel
    by_cases h4:i<4
    ·have hk:i=0∨i=1∨i=2∨i=3:=by omega
     rcases hk with rfl|rfl|rfl|rfl
     ·obtain rfl:iv=0:=HI.out;have cv:wr.cell? ⟨g,0,none⟩=some (.int .u64 V.1):=(Qdr HV.out 0).trans rfl;have fv:=Qds HV.out 0
      go_wp2_with fail
      have hw0:IntKind.i64.wrap 0=0:=IntWalk.i64_in 0 (by decide);have hw1:IntKind.i64.wrap 8=8:=IntWalk.i64_in 8 (by decide);have hsz:(8:Int)≤(s.size:Int):=by omega
      have hx:(s.extract 0 8).size≤1000:=Nat.le_trans (Qqj s 0 8) (by decide)
      go_region_with (first |(go_at_call 186;refine(Qqg (s.extract 0 8) hx _).mono ?_;rintro e w7 ⟨rfl,hd⟩;obtain⟨q,rfl⟩:=hd.out;clear hd) |(go_at_call 191;refine(Qqh _ _ _).mono ?_;rintro e w8 ⟨rfl,hd⟩;obtain⟨q2,rfl⟩:=hd.out;clear hd))
      all_goals
       go_wp2_with fail
       go_roundw
       case rel=>exact⟨1,1,by omega,by go_num,⟨rfl⟩,⟨Qdo (w:=wr.drewN _) HV.out 0 _⟩,⟨Qjt (Qcu HB.out _) (by rw[HG.out];exact Nat.le_refl _)⟩⟩
       case measure=>simp[intOf]
     ·obtain rfl:iv=1:=HI.out;have cv:wr.cell? ⟨g,1,none⟩=some (.int .u64 V.2.1):=(Qdr HV.out 1).trans rfl;have fv:=Qds HV.out 1
      go_wp2_with fail
      have hw0:IntKind.i64.wrap 8=8:=IntWalk.i64_in 8 (by decide);have hw1:IntKind.i64.wrap 16=16:=IntWalk.i64_in 16 (by decide);have hsz:(16:Int)≤(s.size:Int):=by omega
      have hx:(s.extract 8 16).size≤1000:=Nat.le_trans (Qqj s 8 16) (by decide)
      go_region_with (first |(go_at_call 186;refine(Qqg (s.extract 8 16) hx _).mono ?_;rintro e w7 ⟨rfl,hd⟩;obtain⟨q,rfl⟩:=hd.out;clear hd) |(go_at_call 191;refine(Qqh _ _ _).mono ?_;rintro e w8 ⟨rfl,hd⟩;obtain⟨q2,rfl⟩:=hd.out;clear hd))
      all_goals
       go_wp2_with fail
       go_roundw
       case rel=>exact⟨2,2,by omega,by go_num,⟨rfl⟩,⟨Qdo (w:=wr.drewN _) HV.out 1 _⟩,⟨Qjt (Qcu HB.out _) (by rw[HG.out];exact Nat.le_refl _)⟩⟩
       case measure=>simp[intOf]
     ·obtain rfl:iv=2:=HI.out;have cv:wr.cell? ⟨g,2,none⟩=some (.int .u64 V.2.2.1):=(Qdr HV.out 2).trans rfl;have fv:=Qds HV.out 2
      go_wp2_with fail
      have hw0:IntKind.i64.wrap 16=16:=IntWalk.i64_in 16 (by decide);have hw1:IntKind.i64.wrap 24=24:=IntWalk.i64_in 24 (by decide);have hsz:(24:Int)≤(s.size:Int):=by omega
      have hx:(s.extract 16 24).size≤1000:=Nat.le_trans (Qqj s 16 24) (by decide)
      go_region_with (first |(go_at_call 186;refine(Qqg (s.extract 16 24) hx _).mono ?_;rintro e w7 ⟨rfl,hd⟩;obtain⟨q,rfl⟩:=hd.out;clear hd) |(go_at_call 191;refine(Qqh _ _ _).mono ?_;rintro e w8 ⟨rfl,hd⟩;obtain⟨q2,rfl⟩:=hd.out;clear hd))
      all_goals
       go_wp2_with fail
       go_roundw
       case rel=>exact⟨3,3,by omega,by go_num,⟨rfl⟩,⟨Qdo (w:=wr.drewN _) HV.out 2 _⟩,⟨Qjt (Qcu HB.out _) (by rw[HG.out];exact Nat.le_refl _)⟩⟩
       case measure=>simp[intOf]
     ·obtain rfl:iv=3:=HI.out;have cv:wr.cell? ⟨g,3,none⟩=some (.int .u64 V.2.2.2):=(Qdr HV.out 3).trans rfl;have fv:=Qds HV.out 3
      go_wp2_with fail
      have hw0:IntKind.i64.wrap 24=24:=IntWalk.i64_in 24 (by decide);have hw1:IntKind.i64.wrap 32=32:=IntWalk.i64_in 32 (by decide);have hsz:(32:Int)≤(s.size:Int):=by omega
      have hx:(s.extract 24 32).size≤1000:=Nat.le_trans (Qqj s 24 32) (by decide)
      go_region_with (first |(go_at_call 186;refine(Qqg (s.extract 24 32) hx _).mono ?_;rintro e w7 ⟨rfl,hd⟩;obtain⟨q,rfl⟩:=hd.out;clear hd) |(go_at_call 191;refine(Qqh _ _ _).mono ?_;rintro e w8 ⟨rfl,hd⟩;obtain⟨q2,rfl⟩:=hd.out;clear hd))
      all_goals
       go_wp2_with fail
       go_roundw
       case rel=>exact⟨4,4,by omega,by go_num,⟨rfl⟩,⟨Qdo (w:=wr.drewN _) HV.out 3 _⟩,⟨Qjt (Qcu HB.out _) (by rw[HG.out];exact Nat.le_refl _)⟩⟩
       case measure=>simp[intOf]
    ·obtain rfl:i=4:=by omega
     obtain rfl:iv=4:=HI.out
     go_wp2_with fail
     go_roundw
     case rel =>
      have e4:Qqf 4 V s=Qqb V s:=rfl;have hm:=HM.out;have hd:(s.extract 32 s.size).size=s.size-32:=by rw[ByteArray.size_extract];omega
      refine⟨m-1,s.extract 32 s.size,Qqb V s,rfl,by rw[hd];omega,⟨by rw[hd];omega,?_⟩,⟨?_⟩,HB⟩
      ·rw[hm.2,show m=(m-1)+1 by omega];rfl
      ·exact HV.out
     case measure=>simp[Qqe];omega
  ·have d:(s.size:Int)<32:=by omega
   go_wp2_with fail
   have c0:wr.cell? ⟨g,0,none⟩=some (.int .u64 V.1):=(Qdr HV.out 0).trans rfl;have c1:wr.cell? ⟨g,1,none⟩=some (.int .u64 V.2.1):=(Qdr HV.out 1).trans rfl;have c2:wr.cell? ⟨g,2,none⟩=some (.int .u64 V.2.2.1):=(Qdr HV.out 2).trans rfl;have c3:wr.cell? ⟨g,3,none⟩=some (.int .u64 V.2.2.2):=(Qdr HV.out 3).trans rfl
   go_region_held3 (fun w'=>w'.cell? ⟨g,0,none⟩=some (.int .u64 V.1)∧w'.cell? ⟨g,1,none⟩=some (.int .u64 V.2.1)∧w'.cell? ⟨g,2,none⟩=some (.int .u64 V.2.2.1)∧w'.cell? ⟨g,3,none⟩=some (.int .u64 V.2.2.2)) (go_keep) (first
    |(go_at_call_of 192 (Value.int .i64 1);refine(Qqi V.1 1 1 rfl (by decide) _).mono ?_;rintro e w7 ⟨rfl,hd⟩;obtain⟨q1,rfl⟩:=hd.out;clear hd)
    |(go_at_call_of 192 (Value.int .i64 7);refine(Qqi V.2.1 7 7 rfl (by decide) _).mono ?_;rintro e w7 ⟨rfl,hd⟩;obtain⟨q2,rfl⟩:=hd.out;clear hd)
    |(go_at_call_of 192 (Value.int .i64 12);refine(Qqi V.2.2.1 12 12 rfl (by decide) _).mono ?_;rintro e w7 ⟨rfl,hd⟩;obtain⟨q3,rfl⟩:=hd.out;clear hd)
    |(go_at_call_of 192 (Value.int .i64 18);refine(Qqi V.2.2.2 18 18 rfl (by decide) _).mono ?_;rintro e w7 ⟨rfl,hd⟩;obtain⟨q4,rfl⟩:=hd.out;clear hd))
   obtain⟨W2,hW2⟩:∃W2,W2=wr.drewN (1+q1+q2+q3+q4):=⟨_,rfl⟩;have HV2:=QA (show VAt W2 g V by rw[hW2];exact HV.out);have c:=QA (show Below w.heap.size w W2 by rw[hW2];exact Qcu HB.out _);rw[← hW2];clear hW2 c0 c1 c2 c3 HV HB;have hm0:m=0:=by have:=HM.out.1;omega
   go_wp2_with fail
   go_loopw [10,11,64] (fun j l b wi=>∃(i:Nat) (iv h:Int),i≤4∧b=.int .i64 iv∧j=.int .u64 h∧Aside0 (iv=(i:Int))∧Aside0 (h=rmixTo i (rsum V) V)∧Aside0 (VAt wi g V)∧Aside0 (Below w.heap.size w wi))
    (fun _ _ b _=>4-(intOf b).toNat)
   case atStart=>exact⟨0,0,_,by omega,rfl,rfl,⟨rfl⟩,⟨rfl⟩,HV2,c⟩
   case round =>
    clear HV2 c;obtain⟨i,iv,h,hi,rfl,rfl,HI,HH,HV,HB⟩:=hrel
    by_cases h4:i<4
    ·have hk:i=0∨i=1∨i=2∨i=3:=by omega
     rcases hk with rfl|rfl|rfl|rfl
     ·obtain rfl:iv=0:=HI.out;have cv:wr.cell? ⟨g,0,none⟩=some (.int .u64 V.1):=(Qdr HV.out 0).trans rfl
      go_wp2_with (go_at_call 191;refine(Qqh _ _ _).mono ?_;rintro e w8 ⟨rfl,hd⟩;obtain⟨q9,rfl⟩:=hd.out;clear hd)
      go_roundw
      case rel=>exact⟨1,1,Qqc h V.1,by omega,by go_num,rfl,⟨rfl⟩,⟨by rw[HH.out];rfl⟩,⟨HV.out⟩,⟨Qcu HB.out _⟩⟩
      case measure=>simp[intOf]
     ·obtain rfl:iv=1:=HI.out;have cv:wr.cell? ⟨g,1,none⟩=some (.int .u64 V.2.1):=(Qdr HV.out 1).trans rfl
      go_wp2_with (go_at_call 191;refine(Qqh _ _ _).mono ?_;rintro e w8 ⟨rfl,hd⟩;obtain⟨q9,rfl⟩:=hd.out;clear hd)
      go_roundw
      case rel=>exact⟨2,2,Qqc h V.2.1,by omega,by go_num,rfl,⟨rfl⟩,⟨by rw[HH.out];rfl⟩,⟨HV.out⟩,⟨Qcu HB.out _⟩⟩
      case measure=>simp[intOf]
     ·obtain rfl:iv=2:=HI.out;have cv:wr.cell? ⟨g,2,none⟩=some (.int .u64 V.2.2.1):=(Qdr HV.out 2).trans rfl
      go_wp2_with (go_at_call 191;refine(Qqh _ _ _).mono ?_;rintro e w8 ⟨rfl,hd⟩;obtain⟨q9,rfl⟩:=hd.out;clear hd)
      go_roundw
      case rel=>exact⟨3,3,Qqc h V.2.2.1,by omega,by go_num,rfl,⟨rfl⟩,⟨by rw[HH.out];rfl⟩,⟨HV.out⟩,⟨Qcu HB.out _⟩⟩
      case measure=>simp[intOf]
     ·obtain rfl:iv=3:=HI.out;have cv:wr.cell? ⟨g,3,none⟩=some (.int .u64 V.2.2.2):=(Qdr HV.out 3).trans rfl
      go_wp2_with (go_at_call 191;refine(Qqh _ _ _).mono ?_;rintro e w8 ⟨rfl,hd⟩;obtain⟨q9,rfl⟩:=hd.out;clear hd)
      go_roundw
      case rel=>exact⟨4,4,Qqc h V.2.2.2,by omega,by go_num,rfl,⟨rfl⟩,⟨by rw[HH.out];rfl⟩,⟨HV.out⟩,⟨Qcu HB.out _⟩⟩
      case measure=>simp[intOf]
    ·obtain rfl:i=4:=by omega
     obtain rfl:iv=4:=HI.out
     go_wp2_with fail
     refine bodyPost_ret (results_tmp2 rfl _ _ _) rfl ?_;refine⟨?_,HB.out⟩;have e5:=HM.out.2;rw[hm0]at e5;have e6:rrun (s0.size/32) (Qqd sd) s0=(V,s):=by rw[← HVV.out];exact e5
     rw[e6,HH.out];rfl
theorem Qbg.calls(a0:Int)(a1:ByteArray)(r1:Int)(r2:ByteArray)(w:World)(h:Qbg.f a0 a1=some (r1,r2)) :
  Calls Tryz.prog 190 #[.int .u64 a0,.string a1] w fun e w'=>e=.returned (.tuple #[.int .u64 r1,.string r2])∧Below w.heap.size w w':=by
 unfold Qbg.f at h;split at h
 ·rename_i hs;simp only[Option.some.injEq,Prod.mk.injEq]at h;obtain⟨rfl,rfl⟩:=h;exact Qqk a0 a1 w hs
 ·cases h
theorem Qrn(k b g:Nat)(bs xs:List Int)(i n x:Int)(hxs:xs=(bs.drop i.toNat).take n.toNat)(hn:0<n)(hi:0≤i)(hl:bs.length≤140737488355328)(hs:i+n≤(bs.length:Int))(hbg:b≤g)(m:xs.length≤8)
  (h:Qcq.l0 k xs 0 (xs.length:Int) 0=some x) (w:World) (hbw:b≤w.heap.size) (hI:IsCur w b g bs i) :
  Calls Tryz.prog 219 #[.pointer (some ⟨g,0,none⟩),.int .i64 n] w fun e w'=>e=.returned (.int .u64 x)∧IsCur w' b g bs (i+n)∧Bw b g w w'∧K8 w w':=by
 have HI:=QA hI;have H0:=QA h;have HX:=QA hxs;clear hI h hxs
 go_enter Tryz.func219,Tryz.ntmps219
 go_wp2_with (go_at_call 221;refine(Qng b g bs xs i n HX.out hn hi hl hs hbg _ hbw HI.out).mono ?_;rintro ee w1 ⟨v,rfl,hR,hI1,hB1,hK1⟩;(have HK1:=QA hK1;clear hK1;obtain⟨A,c,hv⟩:=Kd.R_slice hR;subst hv;have HI1:=QA hI1;have d:=QA hB1;have j:=QA (Kd.R_reads' hR).2.2;clear hI1 hB1 hR))
 go_loopw [5,12] (fun v5 a wr=>∃(x5 x8:Int) (gk:Nat),v5=.int .u64 x5∧a=.int .i64 x8∧Aside0 (Qcq.l0 gk xs x5 (xs.length:Int) x8=some x)∧Aside0 (0≤x8∧x8≤(xs.length:Int))∧wr=w1)
  (fun _ a _=>xs.length-(intOf a).toNat)
 case atStart=>exact⟨0,0,k,rfl,rfl,H0,⟨by omega⟩,rfl⟩
 case round =>
  obtain⟨x5,x8,gk,rfl,rfl,HA,HK,rfl⟩:=hrel
  cases gk with
  | zero=>exact absurd HA.out (by simp[Qcq.l0])
  | succ k1 =>
   have H:=HA.out;clear HA;simp only[Qcq.l0]at H;have p0:0≤x8:=HK.out.1
   by_cases c3:x8<(xs.length:Int)
   ·have hw8:IntKind.i64.wrap (8*x8)=8*x8:=IntWalk.i64_in _ (by omega);have hw9:wrap64 (8*x8)=8*x8:=by unfold wrap64;omega
    have hw1:IntKind.i64.wrap (x8+1)=x8+1:=IntWalk.i64_in _ (by omega);have hw2:wrap64 (x8+1)=x8+1:=by unfold wrap64;omega
    rw[if_pos c3,if_pos p0,if_pos c3,hw9,if_pos (by omega),hw2]at H;have l:decide (x8<(xs.length:Int))=true:=decide_eq_true c3;obtain⟨j6,hj6⟩:∃j6:Int,8*x8=j6:=⟨_,rfl⟩;rw[hj6]at hw8 H;have hj60:0≤j6:=by omega
    obtain⟨j8,hj8⟩:∃j8:Int,(shl .u64 (IntKind.u64.wrap (YteaocbonofboeaaGreatW.PrintWords.rd xs x8)) j6)=j8:=⟨_,rfl⟩;rw[hj8]at H;have hj8_:(IntKind.u64.wrap ((IntKind.u64.wrap (YteaocbonofboeaaGreatW.PrintWords.rd xs x8))*2^min j6.toNat 64))=j8:=hj8;have hj8z:j6≤64→(IntKind.u64.wrap ((IntKind.u64.wrap (YteaocbonofboeaaGreatW.PrintWords.rd xs x8))*2^j6.toNat))=j8:=Qio hj8;have H':=QA H;have HJ:=QA hj6;have HLT:=QA c3;obtain⟨ad,e1,o⟩:=Kd.at_int j.out x8 p0 c3;subst e1;have hw8':IntKind.i64.wrap (8*x8)=j6:=by rw[hj6];exact hw8
    clear H hj6 hj8 hw9 hw2 hw8;go_wp2
    go_roundw
    case rel=>exact⟨_,x8+1,k1,rfl,rfl,H',⟨by have:=HLT.out;have:=HK.out;omega⟩,trivial⟩
    case measure=>have h1:=HLT.out;have h2:=HK.out;simp[intOf];omega
   ·have l:decide (x8<(xs.length:Int))=false:=decide_eq_false c3;rw[if_neg c3]at H;obtain rfl:=Option.some.inj H;go_wp2;go_ret
    exact⟨rfl,HI1.out,d.out,HK1.out⟩
theorem Qro(k b g:Nat)(bs xs:List Int)(i n x:Int)(hxs:xs=(bs.drop i.toNat).take n.toNat)(hn:0<n)(hi:0≤i)(hl:bs.length≤140737488355328)(hs:i+n≤(bs.length:Int))(hbg:b≤g)(hx8:xs.length≤8)
  (h:Qcq.l0 k xs 0 (xs.length:Int) 0=some x) (w:World) (hbw:b≤w.heap.size) (hI:IsCur w b g bs i) :
  Calls Tryz.prog 219 #[.pointer (some ⟨g,0,none⟩),.int .i64 n] w fun e w'=>e=.returned (.int .u64 x)∧IsCur w' b g bs (i+n)∧Bw b g w w':=(Qrn k b g bs xs i n x hxs hn hi hl hs hbg hx8 h w hbw hI).mono (by rintro e w' ⟨h1,h2,h3,_⟩;exact⟨h1,h2,h3⟩)
def Qrp(b g:Nat)(bs:List Int)(i er:Int)(w:World)(e:Ending)(w':World):Prop:=e=.panicked [Qnb g er]∧IsCur w' b g bs i∧Bw b g w w'
theorem Qrq(b g:Nat)(bs:List Int)(i n:Int)(hn:0<n)(hi:0≤i∧i≤bs.length)(hl:bs.length≤140737488355328)(hs:(bs.length:Int)-i<n)(w:World)(hbw:b≤w.heap.size)(hI:IsCur w b g bs i) :
  Calls Tryz.prog 219 #[.pointer (some ⟨g,0,none⟩),.int .i64 n] w (Qrp b g bs i 2 w):=by
 have HI:=QA hI;clear hI
 go_enter Tryz.func219,Tryz.ntmps219
 go_wp2_with (go_at_call 221;refine(Qne b g bs i n hn hi hl hs _ HI.out).mono ?_;rintro ee w1 ⟨rfl,hb1⟩)
 exact⟨rfl,rfl,HI.out.kept hb1,Bw.below hb1 hbw⟩
theorem Qrr(k b g:Nat)(bs xs:List Int)(i x:Int)(hxs:xs=(bs.drop i.toNat).take 1)(hi:0≤i)(hl:bs.length≤140737488355328)(hs:i+1≤(bs.length:Int))(hbg:b≤g)
  (h:Qcq.l0 k xs 0 (xs.length:Int) 0=some x) (w:World) (hbw:b≤w.heap.size) (hI:IsCur w b g bs i) :
  Calls Tryz.prog 173 #[.pointer (some ⟨g,0,none⟩)] w fun e w'=>e=.returned (.int .u8 (IntKind.u8.wrap x))∧IsCur w' b g bs (i+1)∧Bw b g w w':=by
 have HI:=QA hI;have H0:=QA h;have HX:=QA hxs;have HL:Aside0 (xs.length≤8):=⟨by rw[hxs,List.length_take];omega⟩;clear hI h hxs
 go_enter Tryz.func173,Tryz.ntmps173
 go_wp2_with (go_at_call 219;refine(Qro k b g bs xs i 1 x HX.out (by decide) hi hl hs hbg HL.out H0.out _ hbw HI.out).mono ?_;rintro ee w1 ⟨rfl,hI1,hB1⟩)
 go_ret
 exact⟨rfl,hI1,hB1⟩
theorem Qrs(b g:Nat)(bs:List Int)(i:Int)(hi:0≤i∧i≤bs.length)(hl:bs.length≤140737488355328)(hs:(bs.length:Int)-i<1)(w:World)(hbw:b≤w.heap.size)(hI:IsCur w b g bs i) :
  Calls Tryz.prog 173 #[.pointer (some ⟨g,0,none⟩)] w (Qrp b g bs i 2 w):=by
 have HI:=QA hI;clear hI
 go_enter Tryz.func173,Tryz.ntmps173
 go_wp2_with (go_at_call 219;refine(Qrq b g bs i 1 (by decide) hi hl hs _ hbw HI.out).mono ?_;rintro ee w1 ⟨rfl,hF⟩)
 exact⟨rfl,rfl,hF⟩
theorem Qrt(k b g:Nat)(bs xs:List Int)(i x:Int)(hxs:xs=(bs.drop i.toNat).take 8)(hi:0≤i)(hl:bs.length≤140737488355328)(hs:i+8≤(bs.length:Int))(hbg:b≤g)
  (h:Qcq.l0 k xs 0 (xs.length:Int) 0=some x) (w:World) (hbw:b≤w.heap.size) (hI:IsCur w b g bs i) :
  Calls Tryz.prog 171 #[.pointer (some ⟨g,0,none⟩)] w fun e w'=>e=.returned (.int .u64 x)∧IsCur w' b g bs (i+8)∧Bw b g w w':=by
 have HI:=QA hI;have H0:=QA h;have HX:=QA hxs;have HL:Aside0 (xs.length≤8):=⟨by rw[hxs,List.length_take];omega⟩;clear hI h hxs
 go_enter Tryz.func171,Tryz.ntmps171
 go_wp2_with (go_at_call 219;refine(Qro k b g bs xs i 8 x HX.out (by decide) hi hl hs hbg HL.out H0.out _ hbw HI.out).mono ?_;rintro ee w1 ⟨rfl,hI1,hB1⟩)
 go_ret
 exact⟨rfl,hI1,hB1⟩
theorem Qru(b g:Nat)(bs:List Int)(i:Int)(hi:0≤i∧i≤bs.length)(hl:bs.length≤140737488355328)(w:World)(hI:IsCur w b g bs i) :
  Calls Tryz.prog 222 #[.pointer (some ⟨g,0,none⟩)] w fun e w'=>e=.returned (.int .i64 ((bs.length:Int)-i))∧Below w.heap.size w w':=by
 have HI:=QA hI;obtain⟨A,c,h0,h1,h2,h3,h4,h5⟩:=hI.cells;clear hI h4;have hu:=Tryz.underlying300;have hw1:IntKind.i64.wrap ((bs.length:Int)-i)=(bs.length:Int)-i:=IntWalk.i64_in _ (by omega)
 go_enter Tryz.func222,Tryz.ntmps222
 go_upto_region 3 with(go_at_call 220;refine(Qnc b g bs i _ HI.out).mono ?_;rintro ee wa ⟨rfl,rfl⟩)
 have q0:=Qcw (Qct (Below.refl _ _)) h0;have q1:=Qcw (Qct (Below.refl _ _)) h1
 go_region
 go_wp2;go_ret
 exact⟨rfl,Qct (Below.refl _ _)⟩
theorem Qrv(b g:Nat)(bs:List Int)(i:Int)(hi:0≤i∧i≤bs.length)(hl:bs.length≤140737488355328)(hs:(bs.length:Int)-i≤0)(w:World)(hbw:b≤w.heap.size)(hI:IsCur w b g bs i) :
  Calls Tryz.prog 177 #[.pointer (some ⟨g,0,none⟩)] w fun e w'=>e=.returned (.tuple #[])∧IsCur w' b g bs i∧Bw b g w w':=by
 have HI:=QA hI;clear hI;have hb0:decide (0<(bs.length:Int)-i)=false:=decide_eq_false (by omega)
 go_enter Tryz.func177,Tryz.ntmps177
 go_wp2_with (go_at_call 222;refine(Qru b g bs i hi hl _ HI.out).mono ?_;rintro ee w1 ⟨rfl,hb1⟩)
 go_end0
 exact⟨rfl,HI.out.kept hb1,Bw.below hb1 hbw⟩
theorem Qrw(b g:Nat)(bs:List Int)(i:Int)(hi:0≤i∧i≤bs.length)(hl:bs.length≤140737488355328)(hs:0<(bs.length:Int)-i)(w:World)(hbw:b≤w.heap.size)(hI:IsCur w b g bs i) :
  Calls Tryz.prog 177 #[.pointer (some ⟨g,0,none⟩)] w (Qrp b g bs i 3 w):=by
 have HI:=QA hI;clear hI;have hb0:decide (0<(bs.length:Int)-i)=true:=decide_eq_true hs
 go_enter Tryz.func177,Tryz.ntmps177
 go_wp2_with (first
  |(go_at_call 222;refine(Qru b g bs i hi hl _ HI.out).mono ?_;rintro ee w1 ⟨rfl,hb1⟩)
  |(go_at_call 174;refine(Qnd b g bs i 3 (by decide) _ (HI.out.kept hb1)).mono ?_;rintro ee w2 ⟨rfl,rfl⟩))
 exact⟨rfl,rfl,HI.out.kept hb1,Bw.below hb1 hbw⟩
end Go.Proofs.YteaocbonofboeaaGreat.C
end
