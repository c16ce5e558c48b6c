/- Texts of this claim's author and of the print of its functions, merged by merge.py. -/
import Derived.Test.YtnnofopfbeklbaaGreatMI02
import Derived.Test.YtnnofopfbeklbaaGreatMI06
import Derived.WalkLawsBesides
import Derived.Recover
import Derived.LaidEqlPtr
set_option linter.unusedVariables false
set_option linter.unusedSimpArgs false
set_option maxHeartbeats 8000000
set_option maxRecDepth 100000
section
namespace Go.Proofs.YtnnofopfbeklbaaGreat.C
open Go.RowKit Go.Proofs.YtnnofopfbeklbaaGreatW.PrintWords Go.Proofs.YtnnofopfbeklbaaGreatW.PrintLast Go.Proofs.YtnnofopfbeklbaaGreatW.PrintMore
theorem Qjy(b g:Nat)(sd:Int)(V:V4)(rv:Value)(A0:Option Addr)(c0:Nat)(l:List Int)(w:World)(hr0:Kd.C (Kd.int .u8) w A0 l.length l)(hfar:∀ad,A0=some ad→0<l.length→ad.block≠g)(hv:StAt w g sd V rv 0)(hR:R8 w b rv [])(hbg:b≤g)(hbw:b≤w.heap.size)(hl:l.length≤140737488355328) :
  Calls Tryz.prog 156 #[.pointer (some ⟨g,0,none⟩),.slice A0 l.length c0] w fun e w'=>e=.returned (.pointer (some ⟨g,0,none⟩))∧(∃rv',StAt w' g sd (Qip (l.length/32) V l) rv' l.length∧R8 w' b rv' (l.drop (32*(l.length/32))))∧Below b w w':=by
 have hu:=Tryz.underlying274
 have hu2:=Tryz.underlying231
 have hu3:=Tryz.underlying52
 obtain⟨A1,n1,c1,rfl⟩:=R8.shape hR
 have c6:w.cell? ⟨g,6,none⟩=some (.int .u64 0):=(Qct hv 6).trans rfl
 have c5:w.cell? ⟨g,5,none⟩=some (.slice A1 n1 c1):=(Qct hv 5).trans rfl
 have f6:=Qcu hv 6
 have hw:=IntWalk.u64_in (l.length:Int) (by omega)
 go_enter Tryz.func156,Tryz.ntmps156
 have hC1:Kd.C (Kd.int .u8) (w.setCell ⟨g,6,none⟩ (.int .u64 l.length)) A0 l.length l:=Kd.C_keep (0:Int) hr0 ((KeepBut.refl w g none).set_ 6 _) hfar
 have hv1:StAt (w.setCell ⟨g,6,none⟩ (.int .u64 l.length)) g sd V (.slice A1 n1 c1) l.length:=Qcq hv 6 _
 have hR1:R8 (w.setCell ⟨g,6,none⟩ (.int .u64 l.length)) b (.slice A1 n1 c1) []:=hR.set hv (by decide) 6 _
 have hb1:Below b w (w.setCell ⟨g,6,none⟩ (.int .u64 l.length)):=Qhz (Below.refl _ _) hbg
 have hz1:(w.setCell ⟨g,6,none⟩ (.int .u64 l.length)).heap.size=w.heap.size:=by simp
 go_wp2_with (first |(at_builtin;refine Kd.R_append_row (Value.int .u8) (0:Int) (h1:=fun _=>rfl) (w0:=w) b rfl (.tmp 20) (.tmp 21) 52 5 (.int .u8 0) 1 rfl Tryz.underlying52 Qhj rfl (by decide) (.slice A1 n1 c1) [] l A0 l.length c0 (fun _=>True) rfl rfl (fun _ _=>trivial) ?hO ?hR ?hB ?hS ?hL ?_;(case hO=>exact hR1);(case hR=>exact hC1);(case hB=>exact hb1);(case hS=>rw[hz1];exact hbw);(case hL=>simp;omega);intro v2 w2 HR2 hb2 hg2 hat2;have hv2:=Qcv hv1 hg2 (hR1.clean hv1 (by decide));simp only[List.nil_append]at HR2))
 have HV2:=QA (show StAt w2 g sd V (.slice A1 n1 c1) l.length from hv2)
 have HB2:=QA hb2
 obtain⟨A2,cc2,rfl,hcc2,_⟩:=Kd.R_reads HR2
 have HQ2:=QA (Kd.Q_of_R HR2)
 clear hv2 hb2 HR2 hC1 hv1 hR1 hb1 hz1 c6 c5 f6 hr0 hfar hv hR hg2 hat2
 go_loopw [5] (fun v5 wr=>∃(m:Nat) (l':List Int) (V':V4) (A:Option Addr) (c:Nat),v5=.slice A l'.length c∧l'.length≤c∧l'.length≤l.length∧Aside0 (l'.length/32=m∧Qip (l.length/32) V l=Qip m V' l'∧l.drop (32*(l.length/32))=l'.drop (32*m))∧Aside0 (Q8 wr b (.slice A l'.length c) l')∧Aside0 (StAt wr g sd V' (.slice A1 n1 c1) l.length)∧Aside0 (Below b w wr))
  (fun v5 _=>lenV v5)
 case atStart=>exact⟨_,l,V,A2,cc2,rfl,hcc2,Nat.le_refl _,⟨rfl,rfl,rfl⟩,HQ2,HV2,HB2⟩
 case round =>
  obtain⟨m,l',V',A,c,rfl,hlc,hll,HM,HQ,HV,HB⟩:=hrel
  clear HQ2 HV2 HB2
  by_cases h32:32≤l'.length
  ·have h32i:(32:Int)≤(l'.length:Int):=by omega
   go_wp2_with fail
   go_loopw [6,26] (fun v6 v26 wi=>∃(i:Nat) (iv:Int),i≤4∧v26=.int .i64 iv∧Aside0 (iv=(i:Int))∧Aside0 (Q8 wi b (.slice A l'.length c) l')∧Aside0 (StAt wi g sd (Qiq i V' l') (.slice A1 n1 c1) l.length)∧Aside0 (Below b w wi))
    (fun _ v26 _=>4-(intOf v26).toNat)
   case atStart=>exact⟨0,0,by omega,rfl,⟨rfl⟩,HQ,HV,HB⟩
   case round =>
    obtain⟨i,iv,hi,rfl,HI,HQi,HVi,HBi⟩:=hrel
    clear HQ HV HB
    by_cases h4:i<4
    ·have hk:i=0∨i=1∨i=2∨i=3:=by omega
     rcases hk with rfl|rfl|rfl|rfl
     ·obtain rfl:iv=0:=HI.out
      have cv:wr.cell? ⟨g,1,none⟩=some (.int .u64 V'.1):=(Qct HVi.out 1).trans rfl
      have fv:=Qcu HVi.out 1
      go_wp2_with fail
      obtain⟨A',hcut,hA'⟩:=Qir A l'.length c 0 0 rfl (by omega)
      have hwa:IntKind.i64.wrap 0=0:=IntWalk.i64_in 0 (by decide)
      have hq:∀q,Q8 (wr.drewN q) b (.slice A' (l'.length-0) (c-0)) (l'.drop 0):=fun q=>hA' _ _ _ rfl (Kd.Q_drewN HQi.out q)
      have h8:8≤(l'.drop 0).length:=by rw[List.length_drop];omega
      go_region_with (first |(go_at_call 200;refine(Qis (hq _) h8).mono ?_;rintro e w7 ⟨rfl,hd⟩;obtain⟨q,rfl⟩:=hd.out;clear hd) |(go_at_call 199;refine(Qit _ _ _).mono ?_;rintro e w8 ⟨rfl,hd⟩;obtain⟨q2,rfl⟩:=hd.out;clear hd))
      all_goals
       go_wp2_with fail
       go_roundw
       case rel=>exact⟨1,1,by omega,by go_num,⟨rfl⟩,⟨Kd.Q_set (Kd.Q_drewN HQi.out _) (cells:=#[.int .u64 sd,.int .u64 (Qiq 0 V' l').1,.int .u64 (Qiq 0 V' l').2.1,.int .u64 (Qiq 0 V' l').2.2.1,.int .u64 (Qiq 0 V' l').2.2.2,.slice A1 n1 c1,.int .u64 l.length]) (t:=274) HVi.out (by intro q hq;rcases List.mem_cons.1 hq with rfl|hq;decide;cases hq) _ _⟩,⟨Qcq (w:=wr.drewN _) HVi.out 1 _⟩,⟨Qhz (Qby HBi.out _) hbg⟩⟩
       case measure=>simp[intOf]
     ·obtain rfl:iv=1:=HI.out
      have cv:wr.cell? ⟨g,2,none⟩=some (.int .u64 V'.2.1):=(Qct HVi.out 2).trans rfl
      have fv:=Qcu HVi.out 2
      go_wp2_with fail
      obtain⟨A',hcut,hA'⟩:=Qir A l'.length c 8 8 rfl (by omega)
      have hwa:IntKind.i64.wrap 8=8:=IntWalk.i64_in 8 (by decide)
      have hq:∀q,Q8 (wr.drewN q) b (.slice A' (l'.length-8) (c-8)) (l'.drop 8):=fun q=>hA' _ _ _ rfl (Kd.Q_drewN HQi.out q)
      have h8:8≤(l'.drop 8).length:=by rw[List.length_drop];omega
      go_region_with (first |(go_at_call 200;refine(Qis (hq _) h8).mono ?_;rintro e w7 ⟨rfl,hd⟩;obtain⟨q,rfl⟩:=hd.out;clear hd) |(go_at_call 199;refine(Qit _ _ _).mono ?_;rintro e w8 ⟨rfl,hd⟩;obtain⟨q2,rfl⟩:=hd.out;clear hd))
      all_goals
       go_wp2_with fail
       go_roundw
       case rel=>exact⟨2,2,by omega,by go_num,⟨rfl⟩,⟨Kd.Q_set (Kd.Q_drewN HQi.out _) (cells:=#[.int .u64 sd,.int .u64 (Qiq 1 V' l').1,.int .u64 (Qiq 1 V' l').2.1,.int .u64 (Qiq 1 V' l').2.2.1,.int .u64 (Qiq 1 V' l').2.2.2,.slice A1 n1 c1,.int .u64 l.length]) (t:=274) HVi.out (by intro q hq;rcases List.mem_cons.1 hq with rfl|hq;decide;cases hq) _ _⟩,⟨Qcq (w:=wr.drewN _) HVi.out 2 _⟩,⟨Qhz (Qby HBi.out _) hbg⟩⟩
       case measure=>simp[intOf]
     ·obtain rfl:iv=2:=HI.out
      have cv:wr.cell? ⟨g,3,none⟩=some (.int .u64 V'.2.2.1):=(Qct HVi.out 3).trans rfl
      have fv:=Qcu HVi.out 3
      go_wp2_with fail
      obtain⟨A',hcut,hA'⟩:=Qir A l'.length c 16 16 rfl (by omega)
      have hwa:IntKind.i64.wrap 16=16:=IntWalk.i64_in 16 (by decide)
      have hq:∀q,Q8 (wr.drewN q) b (.slice A' (l'.length-16) (c-16)) (l'.drop 16):=fun q=>hA' _ _ _ rfl (Kd.Q_drewN HQi.out q)
      have h8:8≤(l'.drop 16).length:=by rw[List.length_drop];omega
      go_region_with (first |(go_at_call 200;refine(Qis (hq _) h8).mono ?_;rintro e w7 ⟨rfl,hd⟩;obtain⟨q,rfl⟩:=hd.out;clear hd) |(go_at_call 199;refine(Qit _ _ _).mono ?_;rintro e w8 ⟨rfl,hd⟩;obtain⟨q2,rfl⟩:=hd.out;clear hd))
      all_goals
       go_wp2_with fail
       go_roundw
       case rel=>exact⟨3,3,by omega,by go_num,⟨rfl⟩,⟨Kd.Q_set (Kd.Q_drewN HQi.out _) (cells:=#[.int .u64 sd,.int .u64 (Qiq 2 V' l').1,.int .u64 (Qiq 2 V' l').2.1,.int .u64 (Qiq 2 V' l').2.2.1,.int .u64 (Qiq 2 V' l').2.2.2,.slice A1 n1 c1,.int .u64 l.length]) (t:=274) HVi.out (by intro q hq;rcases List.mem_cons.1 hq with rfl|hq;decide;cases hq) _ _⟩,⟨Qcq (w:=wr.drewN _) HVi.out 3 _⟩,⟨Qhz (Qby HBi.out _) hbg⟩⟩
       case measure=>simp[intOf]
     ·obtain rfl:iv=3:=HI.out
      have cv:wr.cell? ⟨g,4,none⟩=some (.int .u64 V'.2.2.2):=(Qct HVi.out 4).trans rfl
      have fv:=Qcu HVi.out 4
      go_wp2_with fail
      obtain⟨A',hcut,hA'⟩:=Qir A l'.length c 24 24 rfl (by omega)
      have hwa:IntKind.i64.wrap 24=24:=IntWalk.i64_in 24 (by decide)
      have hq:∀q,Q8 (wr.drewN q) b (.slice A' (l'.length-24) (c-24)) (l'.drop 24):=fun q=>hA' _ _ _ rfl (Kd.Q_drewN HQi.out q)
      have h8:8≤(l'.drop 24).length:=by rw[List.length_drop];omega
      go_region_with (first |(go_at_call 200;refine(Qis (hq _) h8).mono ?_;rintro e w7 ⟨rfl,hd⟩;obtain⟨q,rfl⟩:=hd.out;clear hd) |(go_at_call 199;refine(Qit _ _ _).mono ?_;rintro e w8 ⟨rfl,hd⟩;obtain⟨q2,rfl⟩:=hd.out;clear hd))
      all_goals
       go_wp2_with fail
       go_roundw
       case rel=>exact⟨4,4,by omega,by go_num,⟨rfl⟩,⟨Kd.Q_set (Kd.Q_drewN HQi.out _) (cells:=#[.int .u64 sd,.int .u64 (Qiq 3 V' l').1,.int .u64 (Qiq 3 V' l').2.1,.int .u64 (Qiq 3 V' l').2.2.1,.int .u64 (Qiq 3 V' l').2.2.2,.slice A1 n1 c1,.int .u64 l.length]) (t:=274) HVi.out (by intro q hq;rcases List.mem_cons.1 hq with rfl|hq;decide;cases hq) _ _⟩,⟨Qcq (w:=wr.drewN _) HVi.out 4 _⟩,⟨Qhz (Qby HBi.out _) hbg⟩⟩
       case measure=>simp[intOf]
    ·obtain rfl:i=4:=by omega
     obtain rfl:iv=4:=HI.out
     obtain⟨A',hcut,hA'⟩:=Qir A l'.length c 32 32 rfl h32
     go_wp2_with fail
     go_roundw
     case rel =>
      have e4:Qiq 4 V' l'=Qio V' l':=rfl
      have hm:=HM.out
      have hd:(l'.drop 32).length=l'.length-32:=List.length_drop
      refine⟨m-1,l'.drop 32,Qio V' l',A',c-32,by rw[hd],by rw[hd];omega,by rw[hd];omega,⟨by rw[hd];omega,?_,?_⟩,⟨?_⟩,⟨?_⟩,HBi⟩
      ·rw[hm.2.1,show m=(m-1)+1 by omega]
       rfl
      ·rw[hm.2.2,List.drop_drop]
       congr 1
       omega
      ·rw[hd]
       exact hA' _ _ _ rfl HQi.out
      ·exact HVi.out
     case measure=>simp[lenV];omega
  ·have h32i:(l'.length:Int)<32:=by omega
   have hq':=Kd.Q_reads' HQ.out
   have cv:wr.cell? ⟨g,5,none⟩=some (.slice A1 n1 c1):=(Qct HV.out 5).trans rfl
   go_wp2_with (first |(at_builtin;refine Kd.R_append_row (Value.int .u8) (0:Int) (h1:=fun _=>rfl) (w0:=wr) b rfl (.const (.slice none 0 0)) (.tmp 50) 52 5 (.int .u8 0) 1 rfl Tryz.underlying52 Qhj rfl (by decide) (.slice none 0 0) [] l' A l'.length c (fun _=>True) rfl rfl (fun _ _=>trivial) ?hO ?hR ?hB ?hS ?hL ?_;(case hO=>exact Kd.R_nil _ _ _ _ _);(case hR=>exact hq'.2.2);(case hB=>exact Below.refl _ _);(case hS=>exact Nat.le_trans hbw HB.out.size);(case hL=>simp;omega);intro v3 w3 HR3 hb3 hg3 hat3;obtain⟨A3,n3,c3,rfl⟩:=R8.shape HR3;have hv3:=Qcv (show wr.heap[g]? = _ from HV.out) hg3 (by simp[Value.ownBlock]);have fv:=Qcu hv3 5;have cv3:w3.cell? ⟨g,5,none⟩=some (.slice A1 n1 c1):=(Qct hv3 5).trans rfl;(try simp only[List.nil_append]at HR3)))
   go_ret
   have hm:=HM.out
   have hm0:m=0:=by omega
   subst hm0
   refine⟨rfl,⟨.slice A3 n3 c3,?_,?_⟩,Qhz (HB.out.trans hb3) hbg⟩
   ·rw[hm.2.1]
    exact Qcq hv3 5 _
   ·rw[hm.2.2]
    simpa using R8.set HR3 hv3 (by decide) 5 _
def IsCur(W:World)(b g:Nat)(bs:List Int)(i:Int):Prop:=∃v,W.heap[g]? = some (.cells #[v,.int .i64 i,.bool true] 264 (0,0))∧R8 W b v bs
def Qke(g:Nat)(e:Int):PanicEntry:={ v:=.iface 266 (.agg #[.pointer (some ⟨g,0,none⟩),.int .i64 e]),recovered:=false }
theorem IsCur.kept{W W':World}{b g:Nat}{bs:List Int}{i:Int}(h:IsCur W b g bs i)(hb:Below W.heap.size W W'):IsCur W' b g bs i:=by
 obtain⟨v,h1,h2⟩:=h
 exact⟨v,Qdg h1 hb,h2.kept hb⟩
theorem IsCur.cells{W:World}{b g:Nat}{bs:List Int}{i:Int}(h:IsCur W b g bs i):∃A c,W.cell? ⟨g,0,none⟩=some (.slice A bs.length c)∧W.cell? ⟨g,1,none⟩=some (.int .i64 i)∧W.cell? ⟨g,2,none⟩=some (.bool true)∧W.frozen? ⟨g,1,none⟩=false∧Kd.C (Kd.int .u8) W A bs.length bs∧bs.length≤c:=by
 obtain⟨v,h1,h2⟩:=h
 obtain⟨A,c,rfl⟩:=Kd.R_slice h2
 exact⟨A,c,(Qct h1 0).trans rfl,(Qct h1 1).trans rfl,(Qct h1 2).trans rfl,Qcu h1 1,(Kd.R_reads' h2).2.2,(Kd.R_reads' h2).2.1⟩
theorem IsCur.move{W:World}{b g:Nat}{bs:List Int}{i:Int}(h:IsCur W b g bs i)(hbg:b≤g)(j:Int):IsCur (W.setCell ⟨g,1,none⟩ (.int .i64 j)) b g bs j∧Bw b g W (W.setCell ⟨g,1,none⟩ (.int .i64 j)):=by
 obtain⟨v,h1,h2⟩:=h
 exact⟨⟨v,Qcq h1 1 _,h2.set h1 (by decide) 1 _⟩,Qhz (Below.refl _ _) hbg,fun k cs t h3 h4 h5=>Qcr h3 h5 _⟩
theorem Qkf(b g:Nat)(bs:List Int)(i:Int)(w:World)(hI:IsCur w b g bs i) :
  Calls Tryz.prog 191 #[.pointer (some ⟨g,0,none⟩)] w fun e w'=>e=.returned (.bool false)∧w'=w:=by
 obtain⟨A,c,h0,h1,h2,h3,h4,h5⟩:=hI.cells
 clear hI
 have hu:=Tryz.underlying264
 go_enter Tryz.func191,Tryz.ntmps191
 go_wp2
 go_ret
 exact⟨rfl,rfl⟩
theorem Qkg(b g:Nat)(bs:List Int)(i er:Int)(he:er≠0)(w:World)(hI:IsCur w b g bs i) :
  Calls Tryz.prog 175 #[.pointer (some ⟨g,0,none⟩),.int .i64 er] w fun e w'=>e=.panicked [Qke g er]∧w'=w:=by
 have HI:=QA hI
 clear hI
 have hu:=Tryz.underlying264
 have hne:(er != 0)=true:=bne_iff_ne.2 he
 go_enter Tryz.func175,Tryz.ntmps175
 go_wp2_with (go_at_call 191;refine(Qkf b g bs i _ HI.out).mono ?_;rintro ee wa ⟨rfl,rfl⟩)
 exact⟨rfl,rfl,rfl⟩
theorem Qkh(b g:Nat)(bs:List Int)(i n:Int)(hn:n≤0)(w:World)(hI:IsCur w b g bs i) :
  Calls Tryz.prog 193 #[.pointer (some ⟨g,0,none⟩),.int .i64 n] w fun e w'=>e=.returned (.slice none 0 0)∧w'=w:=by
 have HI:=QA hI
 clear hI
 have hb0:decide (n≤0)=true:=decide_eq_true hn
 go_enter Tryz.func193,Tryz.ntmps193
 go_wp2_with (go_at_call 191;refine(Qkf b g bs i _ HI.out).mono ?_;rintro ee wa ⟨rfl,rfl⟩)
 go_ret
 exact⟨rfl,rfl⟩
def K8(w w':World):Prop:=∀(b:Nat) (v:Value) (ys:List Int),R8 w b v ys→R8 w' b v ys
theorem K8.refl(w:World):K8 w w:=fun _ _ _ h=>h
theorem K8.move{W:World}{b g:Nat}{bs:List Int}{i:Int}(h:IsCur W b g bs i)(j:Int){w':World}(hb:Below W.heap.size (W.setCell ⟨g,1,none⟩ (.int .i64 j)) w'):K8 W w':=by
 intro b' v' ys hR
 obtain⟨v,h1,_⟩:=h
 exact R8.kept (R8.set hR h1 (by decide) 1 _) (by simpa [World.setCell]using hb)
theorem Qki(b g:Nat)(bs xs:List Int)(i n:Int)(hxs:xs=(bs.drop i.toNat).take n.toNat)(hn:0<n)(hi:0≤i)(hl:bs.length≤140737488355328)(hs:i+n≤(bs.length:Int))(hbg:b≤g)(w:World)(hbw:b≤w.heap.size)(hI:IsCur w b g bs i) :
  Calls Tryz.prog 193 #[.pointer (some ⟨g,0,none⟩),.int .i64 n] w fun e w'=>∃v,e=.returned v∧R8 w' w.heap.size v xs∧IsCur w' b g bs (i+n)∧Bw b g w w'∧K8 w w':=by
 have HI:=QA hI
 obtain⟨A,c,h0,h1,h2,h3,h4,h5⟩:=hI.cells
 clear hI h4
 have hu:=Tryz.underlying264
 have hb0:decide (n≤0)=false:=decide_eq_false (by omega)
 have hw1:IntKind.i64.wrap ((bs.length:Int)-i)=(bs.length:Int)-i:=IntWalk.i64_in _ (by omega)
 have hw2:IntKind.i64.wrap (i+n)=i+n:=IntWalk.i64_in _ (by omega)
 have hw3:IntKind.i64.wrap (i+n-n)=i:=by rw[show i+n-n=i by omega];exact IntWalk.i64_in _ (by omega)
 have hw4:IntKind.i64.wrap i=i:=IntWalk.i64_in _ (by omega)
 have hb1:decide ((bs.length:Int)-i<n)=false:=decide_eq_false (by omega)
 go_enter Tryz.func193,Tryz.ntmps193
 go_upto_region 3 with(go_at_call 191;refine(Qkf b g bs i _ HI.out).mono ?_;rintro ee wa ⟨rfl,rfl⟩)
 have q0:=Qca (Qbx (Below.refl _ _)) h0
 have q1:=Qca (Qbx (Below.refl _ _)) h1
 have q3:wa.drew.frozen? ⟨g,1,none⟩=false:=h3
 clear h0 h1 h2 h3
 have HI1:=QA (HI.out.kept (Qbx (Below.refl _ _)))
 go_region
 go_upto_region 6 with fail
 clear HI1 q0 q1 q3
 obtain⟨m1,m2⟩:=HI.out.move hbg (i+n)
 have M1:=QA (m1.kept (Qbx (Below.refl _ _)))
 have M2:=QA (m2.trans (Bw.below (Qbx (Below.refl _ _)) (Nat.le_trans hbw m2.size)))
 clear m1 m2
 obtain⟨W2,hW2⟩:∃W2,W2=(wa.setCell ⟨g,1,none⟩ (.int .i64 (i+n))).drew:=⟨_,rfl⟩
 have hk8:Below wa.heap.size (wa.setCell ⟨g,1,none⟩ (.int .i64 (i+n))) W2:=by rw[hW2];exact Qbx (Below.refl _ _)
 have HK8:=QA (fun w' (hb:Below W2.heap.size W2 w')=>K8.move HI.out (i+n) (hk8.trans (Qia hb (by have:=hk8.size;simpa [World.setCell]using this))))
 clear hk8
 rw[← hW2]at M1 M2 ⊢
 obtain⟨A2,c2,r0,r1,r2,r3,r4,r5⟩:=M1.out.cells
 clear hW2 r2 r3
 have hmid:(bs.take (i+n).toNat).drop i.toNat=xs:=by rw[hxs,List.drop_take,show(i+n).toNat-i.toNat=n.toNat by omega]
 have hxl:xs.length=n.toNat:=by rw[hxs,List.length_take,List.length_drop];omega
 obtain⟨i0,hii,_,hsz,_⟩:=info_parts Qhj
 have hcut:=cut_mid (P:=Tryz.prog) 52 5 .i64 .i64 Tryz.underlying52 hii 1 hsz A2 bs.length c2 i (i+n) hi (by omega) (by omega) r5
 have hC:=Kd.C_mid (lo:=i.toNat) (hi:=(i+n).toNat) r4 (by omega) (by omega) r5
 rw[hmid]at hC
 obtain⟨A3,hA3⟩:∃A3,A3=(if c2=i.toNat then A2 else A2.map (·.add (i.toNat*1))):=⟨_,rfl⟩
 obtain⟨c3,hc3⟩:∃c3,c3=c2-i.toNat:=⟨_,rfl⟩
 rw[← hA3,← hc3,show(i+n).toNat-i.toNat=xs.length by omega]at hcut
 have hC3:Kd.C (Kd.int .u8) W2 A3 xs.length xs:=by rw[hA3];exact hC
 have HC3:=QA hC3
 have hxl2:xs.length≤140737488355328:=by omega
 obtain⟨j,hj⟩:∃j,j=i+n:=⟨_,rfl⟩
 have hw5:IntKind.i64.wrap (j-n)=i:=by rw[hj];exact hw3
 rw[← hj]at hcut r1 M1 ⊢
 have HJ:=QA hj
 clear hj hC hC3 hA3 hmid r4 hc3 r5 hxs hxl
 refine Qey (n:=17) (S:=fun w'=>w'.cell? ⟨g,0,none⟩=some (.slice A2 bs.length c2)∧w'.cell? ⟨g,1,none⟩=some (.int .i64 j)) (ds:=[]) #[false,false,false,false,false,false,false,false,false,false,false,false,false,false,false,false,false] qq_5 rfl rfl ⟨(Qca (Qbx (Below.refl _ _)) r0),(Qca (Qbx (Below.refl _ _)) r1)⟩ (fun hHeld=>?_)
 refine Qfb (i:=0) (N:=some 33) (v:=?_) (a':=?_) #[true,false,false,false,false,false,false,false,false,false,false,false,false,false,false,false,false] rfl rfl qq_5 (fun _ _ _ h=>h) (Or.inl ⟨by rfl,?_⟩) ?_ ?_
 rotate_left
 ·intro w'
  go_simp
  with_reducible rfl
 rotate_left
 ·simp only[Act.put,List.setIfInBounds_toArray,List.set_cons_zero,List.set_cons_succ,Qfm,Qfn]
  rfl
 refine Qfb (i:=1) (N:=some 34) (v:=?_) (a':=?_) #[true,true,false,false,false,false,false,false,false,false,false,false,false,false,false,false,false] rfl rfl qq_5 (fun _ _ _ h=>h) (Or.inl ⟨by rfl,?_⟩) ?_ ?_
 rotate_left
 ·intro w'
  go_simp
  with_reducible rfl
 rotate_left
 ·simp only[Act.put,List.setIfInBounds_toArray,List.set_cons_zero,List.set_cons_succ,Qfm,Qfn]
  rfl
 refine Qfb (i:=2) (N:=some 35) (v:=?_) (a':=?_) #[true,true,true,false,false,false,false,false,false,false,false,false,false,false,false,false,false] rfl rfl qq_5 (fun _ _ _ h=>h) (Or.inl ⟨by rfl,?_⟩) ?_ ?_
 rotate_left
 ·intro w'
  go_simp
  with_reducible rfl
 rotate_left
 ·simp only[Act.put,List.setIfInBounds_toArray,List.set_cons_zero,List.set_cons_succ,Qfm,Qfn]
  rfl
 refine Qfb (i:=4) (N:=some 37) (v:=?_) (a':=?_) #[true,true,true,false,true,false,false,false,false,false,false,false,false,false,false,false,false] rfl rfl qq_5 (fun _ _ _ h=>h) (Or.inl ⟨by rfl,?_⟩) ?_ ?_
 rotate_left
 ·intro w'
  go_simp
  with_reducible rfl
 rotate_left
 ·simp only[Act.put,List.setIfInBounds_toArray,List.set_cons_zero,List.set_cons_succ,Qfm,Qfn]
  rfl
 refine Qfb (i:=5) (N:=some 38) (v:=?_) (a':=?_) #[true,true,true,false,true,true,false,false,false,false,false,false,false,false,false,false,false] rfl rfl qq_5 (fun _ _ _ h=>h) (Or.inl ⟨by rfl,?_⟩) ?_ ?_
 rotate_left
 ·intro w'
  go_simp
  with_reducible rfl
 rotate_left
 ·simp only[Act.put,List.setIfInBounds_toArray,List.set_cons_zero,List.set_cons_succ,Qfm,Qfn]
  rfl
 refine Qfb (i:=6) (N:=some 39) (v:=?_) (a':=?_) #[true,true,true,false,true,true,true,false,false,false,false,false,false,false,false,false,false] rfl rfl qq_5 (fun _ _ _ h=>h) (Or.inl ⟨by rfl,?_⟩) ?_ ?_
 rotate_left
 ·intro w'
  go_simp
  with_reducible rfl
 rotate_left
 ·simp only[Act.put,List.setIfInBounds_toArray,List.set_cons_zero,List.set_cons_succ,Qfm,Qfn]
  rfl
 refine Qfb (i:=8) (N:=some 41) (v:=?_) (a':=?_) #[true,true,true,false,true,true,true,false,true,false,false,false,false,false,false,false,false] rfl rfl qq_5 (fun _ _ _ h=>h) (Or.inl ⟨by rfl,?_⟩) ?_ ?_
 rotate_left
 ·intro w'
  go_simp
  with_reducible rfl
 rotate_left
 ·simp only[Act.put,List.setIfInBounds_toArray,List.set_cons_zero,List.set_cons_succ,Qfm,Qfn]
  rfl
 refine Qfb (i:=10) (N:=some 43) (v:=?_) (a':=?_) #[true,true,true,false,true,true,true,false,true,false,true,false,false,false,false,false,false] rfl rfl qq_5 (fun _ _ _ h=>h) (Or.inl ⟨by rfl,?_⟩) ?_ ?_
 rotate_left
 ·intro w'
  go_simp
  with_reducible rfl
 rotate_left
 ·simp only[Act.put,List.setIfInBounds_toArray,List.set_cons_zero,List.set_cons_succ,Qfm,Qfn]
  rfl
 refine Qfb (i:=11) (N:=some 44) (v:=?_) (a':=?_) #[true,true,true,false,true,true,true,false,true,false,true,true,false,false,false,false,false] rfl rfl qq_5 (fun _ _ _ h=>h) (Or.inl ⟨by rfl,?_⟩) ?_ ?_
 rotate_left
 ·intro w'
  go_simp
  with_reducible rfl
 rotate_left
 ·simp only[Act.put,List.setIfInBounds_toArray,List.set_cons_zero,List.set_cons_succ,Qfm,Qfn]
  rfl
 refine Qfb (i:=12) (N:=some 45) (v:=?_) (a':=?_) #[true,true,true,false,true,true,true,false,true,false,true,true,true,false,false,false,false] rfl rfl qq_5 (fun _ _ _ h=>h) (Or.inl ⟨by rfl,?_⟩) ?_ ?_
 rotate_left
 ·intro w'
  go_simp
  with_reducible rfl
 rotate_left
 ·simp only[Act.put,List.setIfInBounds_toArray,List.set_cons_zero,List.set_cons_succ,Qfm,Qfn]
  rfl
 refine Qfa (i:=3) (N:=some 36) (v:=?_) (a':=?_) #[true,true,true,true,true,true,true,false,true,false,true,true,true,false,false,false,false] rfl rfl qq_5 (fun _ _ _ h=>h) (Or.inl ⟨by rfl,?_⟩) hHeld ?_ ?_
 rotate_left
 ·rintro w' ⟨s0,s1⟩
  go_simp
  with_reducible rfl
 rotate_left
 ·simp only[Act.put,List.setIfInBounds_toArray,List.set_cons_zero,List.set_cons_succ,Qfm,Qfn]
  rfl
 refine Qfa (i:=7) (N:=some 40) (v:=?_) (a':=?_) #[true,true,true,true,true,true,true,true,true,false,true,true,true,false,false,false,false] rfl rfl qq_5 (fun _ _ _ h=>h) (Or.inl ⟨by rfl,?_⟩) hHeld ?_ ?_
 rotate_left
 ·rintro w' ⟨s0,s1⟩
  go_simp
  with_reducible rfl
 rotate_left
 ·simp only[Act.put,List.setIfInBounds_toArray,List.set_cons_zero,List.set_cons_succ,Qfm,Qfn]
  rfl
 refine Qfb (i:=9) (N:=some 42) (v:=?_) (a':=?_) #[true,true,true,true,true,true,true,true,true,true,true,true,true,false,false,false,false] rfl rfl qq_5 (fun _ _ _ h=>h) (Or.inl ⟨by rfl,?_⟩) ?_ ?_
 rotate_left
 ·intro w'
  go_simp
  with_reducible rfl
 rotate_left
 ·simp only[Act.put,List.setIfInBounds_toArray,List.set_cons_zero,List.set_cons_succ,Qfm,Qfn]
  rfl
 refine Qfa (i:=13) (N:=some 46) (v:=?_) (a':=?_) #[true,true,true,true,true,true,true,true,true,true,true,true,true,true,false,false,false] rfl rfl qq_5 (fun _ _ _ h=>h) (Or.inl ⟨by rfl,?_⟩) hHeld ?_ ?_
 rotate_left
 ·rintro w' ⟨s0,s1⟩
  go_simp
  with_reducible rfl
 rotate_left
 ·simp only[Act.put,List.setIfInBounds_toArray,List.set_cons_zero,List.set_cons_succ,Qfm,Qfn]
  rfl
 refine Qfb (i:=14) (N:=some 47) (v:=?_) (a':=?_) #[true,true,true,true,true,true,true,true,true,true,true,true,true,true,true,false,false] rfl rfl qq_5 (fun _ _ _ h=>h) (Or.inl ⟨by rfl,?_⟩) ?_ ?_
 rotate_left
 ·intro w'
  go_simp
  with_reducible rfl
 rotate_left
 ·simp only[Act.put,List.setIfInBounds_toArray,List.set_cons_zero,List.set_cons_succ,Qfm,Qfn]
  rfl
 refine one_ (i:=15) (N:=some 48) #[true,true,true,true,true,true,true,true,true,true,true,true,true,true,true,true,false] rfl rfl qq_5 (by decide) (fun K hK=>?_)
 refine Qfj Tryz.func70 qq_5 rfl #[.slice A3 xs.length c3] (by rfl) rfl rfl qq_8 ?_
 with_reducible refine(Qib A3 c3 xs _ (Kd.C_below HC3.out (Qbx (Below.refl _ _))) hxl2).mono ?_
 rintro ee w3 ⟨v,rfl,hR,hb⟩
 refine⟨_,rfl,?_⟩
 refine hK.out _ _ ⟨(Qca hb hHeld.1),(Qca hb hHeld.2)⟩ (fun hHeld=>?_)
 clear hK K
 refine Qfh (a':=?_) ?_ ?_
 rotate_left
 ·show Act.put _ (some 48) _=_
  simp only[Act.put,List.setIfInBounds_toArray,List.set_cons_zero,List.set_cons_succ,Qfm,Qfn]
  rfl
 refine Qfb (i:=16) (N:=some 4) (v:=?_) (a':=?_) #[true,true,true,true,true,true,true,true,true,true,true,true,true,true,true,true,true] rfl rfl qq_5 (fun _ _ _ h=>h) (Or.inl ⟨by rfl,?_⟩) ?_ ?_
 rotate_left
 ·intro w'
  go_simp
  with_reducible rfl
 rotate_left
 ·simp only[Act.put,List.setIfInBounds_toArray,List.set_cons_zero,List.set_cons_succ,Qfm,Qfn]
  rfl
 refine Qfd qq_5 ?_
 go_wp2
 go_ret
 have hb2:Below W2.heap.size W2 w3:=(Qbx (Below.refl _ _)).trans hb
 exact⟨v,rfl,R8.low hR (show wa.heap.size≤W2.drew.heap.size from M2.out.size),HJ.out ▸ M1.out.kept hb2,M2.out.trans (Bw.below hb2 (Nat.le_trans hbw M2.out.size)),HK8.out _ hb2⟩
theorem Qkj(b g:Nat)(bs xs:List Int)(i n:Int)(hxs:xs=(bs.drop i.toNat).take n.toNat)(hn:0≤n)(hi:0≤i)(hl:bs.length≤140737488355328)(hs:i+n≤(bs.length:Int))(hbg:b≤g)(w:World)(hbw:b≤w.heap.size)(hI:IsCur w b g bs i) :
  Calls Tryz.prog 193 #[.pointer (some ⟨g,0,none⟩),.int .i64 n] w fun e w'=>∃v,e=.returned v∧R8 w' w.heap.size v xs∧IsCur w' b g bs (i+n)∧Bw b g w w'∧K8 w w':=by
 rcases Int.lt_or_le 0 n with h|h
 ·exact Qki b g bs xs i n hxs h hi hl hs hbg w hbw hI
 ·obtain rfl:n=0:=by omega
  refine(Qkh b g bs i 0 h w hI).mono ?_
  rintro e w' ⟨rfl,rfl⟩
  have hx:xs=[]:=by rw[hxs];simp
  rw[hx,Int.add_zero]
  exact⟨_,rfl,Kd.R_nil _ _ _ _ _,hI,Bw.refl _ _ _,K8.refl _⟩
theorem Qkk(k b g:Nat)(bs xs:List Int)(i n x:Int)(hxs:xs=(bs.drop i.toNat).take n.toNat)(hn:0<n)(hi:0≤i)(hl:bs.length≤140737488355328)(hs:i+n≤(bs.length:Int))(hbg:b≤g)(hx8:xs.length≤8)
  (h:Qbv.l0 k xs 0 (xs.length:Int) 0=some x) (w:World) (hbw:b≤w.heap.size) (hI:IsCur w b g bs i) :
  Calls Tryz.prog 219 #[.pointer (some ⟨g,0,none⟩),.int .i64 n] w fun e w'=>e=.returned (.int .u64 x)∧IsCur w' b g bs (i+n)∧Bw b g w w'∧K8 w w':=by
 have HI:=QA hI
 have H0:=QA h
 have HX:=QA hxs
 clear hI h hxs
 go_enter Tryz.func219,Tryz.ntmps219
 go_wp2_with (go_at_call 193;refine(Qki b g bs xs i n HX.out hn hi hl hs hbg _ hbw HI.out).mono ?_;rintro ee w1 ⟨v,rfl,hR,hI1,hB1,hK1⟩;(have HK1:=QA hK1;clear hK1;obtain⟨A,c,hv⟩:=Kd.R_slice hR;subst hv;have HI1:=QA hI1;have HB1:=QA hB1;have HC1:=QA (Kd.R_reads' hR).2.2;clear hI1 hB1 hR))
 go_loopw [5,12] (fun v5 v12 wr=>∃(x5 x8:Int) (gk:Nat),v5=.int .u64 x5∧v12=.int .i64 x8∧Aside0 (Qbv.l0 gk xs x5 (xs.length:Int) x8=some x)∧Aside0 (0≤x8∧x8≤(xs.length:Int))∧wr=w1)
  (fun _ v12 _=>xs.length-(intOf v12).toNat)
 case atStart=>exact⟨0,0,k,rfl,rfl,H0,⟨by omega⟩,rfl⟩
 case round =>
  obtain⟨x5,x8,gk,rfl,rfl,HA,HK,rfl⟩:=hrel
  cases gk with
  | zero=>exact absurd HA.out (by simp[Qbv.l0])
  | succ k1 =>
   have H:=HA.out
   clear HA
   simp only[Qbv.l0]at H
   have p0:0≤x8:=HK.out.1
   by_cases c3:x8<(xs.length:Int)
   ·have hw8:IntKind.i64.wrap (8*x8)=8*x8:=IntWalk.i64_in _ (by omega)
    have hw9:wrap64 (8*x8)=8*x8:=by unfold wrap64;omega
    have hw1:IntKind.i64.wrap (x8+1)=x8+1:=IntWalk.i64_in _ (by omega)
    have hw2:wrap64 (x8+1)=x8+1:=by unfold wrap64;omega
    rw[if_pos c3,if_pos p0,if_pos c3,hw9,if_pos (by omega),hw2]at H
    have c3b:decide (x8<(xs.length:Int))=true:=decide_eq_true c3
    obtain⟨j6,hj6⟩:∃j6:Int,8*x8=j6:=⟨_,rfl⟩
    rw[hj6]at hw8 H
    have hj60:0≤j6:=by omega
    obtain⟨j8,hj8⟩:∃j8:Int,(shl .u64 (IntKind.u64.wrap (YtnnofopfbeklbaaGreatW.PrintWords.rd xs x8)) j6)=j8:=⟨_,rfl⟩
    rw[hj8]at H
    have hj8_:(IntKind.u64.wrap ((IntKind.u64.wrap (YtnnofopfbeklbaaGreatW.PrintWords.rd xs x8))*2^min j6.toNat 64))=j8:=hj8
    have hj8z:j6≤64→(IntKind.u64.wrap ((IntKind.u64.wrap (YtnnofopfbeklbaaGreatW.PrintWords.rd xs x8))*2^j6.toNat))=j8:=Qhf hj8
    have H':=QA H
    have HJ:=QA hj6
    have HLT:=QA c3
    obtain⟨ad,e1,hx0⟩:=Kd.at_int HC1.out x8 p0 c3
    subst e1
    have hw8':IntKind.i64.wrap (8*x8)=j6:=by rw[hj6];exact hw8
    clear H hj6 hj8 hw9 hw2 hw8
    go_wp2
    go_roundw
    case rel=>exact⟨_,x8+1,k1,rfl,rfl,H',⟨by have:=HLT.out;have:=HK.out;omega⟩,trivial⟩
    case measure=>have h1:=HLT.out;have h2:=HK.out;simp[intOf];omega
   ·have c3b:decide (x8<(xs.length:Int))=false:=decide_eq_false c3
    rw[if_neg c3]at H
    obtain rfl:=Option.some.inj H
    go_wp2
    go_ret
    exact⟨rfl,HI1.out,HB1.out,HK1.out⟩
theorem Qkl(b g:Nat)(bs:List Int)(i:Int)(hi:0≤i∧i≤bs.length)(hl:bs.length≤140737488355328)(w:World)(hI:IsCur w b g bs i) :
  Calls Tryz.prog 139 #[.pointer (some ⟨g,0,none⟩)] w fun e w'=>e=.returned (.int .i64 ((bs.length:Int)-i))∧Below w.heap.size w w':=by
 have HI:=QA hI
 obtain⟨A,c,h0,h1,h2,h3,h4,h5⟩:=hI.cells
 clear hI h4
 have hu:=Tryz.underlying264
 have hw1:IntKind.i64.wrap ((bs.length:Int)-i)=(bs.length:Int)-i:=IntWalk.i64_in _ (by omega)
 go_enter Tryz.func139,Tryz.ntmps139
 go_upto_region 3 with(go_at_call 191;refine(Qkf b g bs i _ HI.out).mono ?_;rintro ee wa ⟨rfl,rfl⟩)
 have q0:=Qca (Qbx (Below.refl _ _)) h0
 have q1:=Qca (Qbx (Below.refl _ _)) h1
 go_region
 go_wp2
 go_ret
 exact⟨rfl,Qbx (Below.refl _ _)⟩
theorem Qkm{P:Program}{tp te:TypeId}{j:TypeInfo}(a:Addr)(hp:P.underlying tp=some (.pointer te))(hte:P.info? te=some j)(w:World) :
  (binOp .neq tp (.pointer (some a)) (.pointer (some a))).run P w=.ok (.bool false) w:=by
 have h:∀d:Nat,(Op.equalIn (d+1) tp (.pointer (some a)) (.pointer (some a))).run P w=.ok true w:=fun d=>by simp[Op.equalIn,run_underlying hp,sizeOf,typeInfo,hte,run_sameAddr_same]
 simp only[binOp]
 simp[Op.equal,Op.maxDepth,h 9999]
theorem Qkn{P:Program}{Q:Exit→Act→List Frame→World→Prop}{o:Oper}{id:Nat}{a:Act}{cs:List Frame}{w:World}(hw:Region.wanted o (yielded #[o] a.tmps)=true)(hr:(execOp a.eval o).run P w=.ok .recover w)
  (hc:recoverD cs=none) (h:Q .normal (a.put o.dst .nilIface) cs w):(Code.region id #[o] false).wpS P Q a cs w:=by
 apply wpS_region
 show wpOpsS P #[o] Q [0] a cs w
 simp only[wpOpsS]
 show(if Region.wanted o (yielded #[o] a.tmps)=true then _ else _)
 rw[if_pos hw]
 simp only[List.getElem_toArray,List.getElem_cons_zero,hr,hc]
 exact h
theorem Qko{P:Program}{Q:Exit→Act→List Frame→World→Prop}{o:Oper}{id:Nat}{a:Act}{cs cs':List Frame}{v:Value}{w:World}(hw:Region.wanted o (yielded #[o] a.tmps)=true)(hr:(execOp a.eval o).run P w=.ok .recover w)
  (hc:recoverD cs=some (v,cs')) (h:Q .normal (a.put o.dst v) cs' w):(Code.region id #[o] false).wpS P Q a cs w:=by
 apply wpS_region
 show wpOpsS P #[o] Q [0] a cs w
 simp only[wpOpsS]
 show(if Region.wanted o (yielded #[o] a.tmps)=true then _ else _)
 rw[if_pos hw]
 simp only[List.getElem_toArray,List.getElem_cons_zero,hr,hc]
 exact h
theorem Qkp(g ba be bc:Nat)(i x:Int)(v:Value)(w:World)(h0:w.heap[bc]? = some (.cells #[.pointer (some ⟨g,0,none⟩)] 204 (0,0)))
  (h1:w.heap[g]? = some (.cells #[v,.int .i64 i,.bool true] 264 (0,0))) (h2:w.heap[ba]? = some (.cells #[.int .i64 x] 3 (0,0))) :
  CallsD Tryz.prog 190 #[.pointer (some ⟨bc,0,none⟩),.pointer (some ⟨ba,0,none⟩),.pointer (some ⟨be,0,none⟩)] .returning w fun e u' w' =>
   e=.returned (.tuple #[])∧u'=.returning∧w'=(w.setCell ⟨g,2,none⟩ (.bool false)).setCell ⟨ba,0,none⟩ (.int .i64 i):=by
 have hu:=Tryz.underlying264
 have n1:bc≠g:=Qcw h0 h1 (by decide)
 have n2:ba≠g:=Qcw h2 h1 (by decide)
 have c0:w.cell? ⟨bc,0,none⟩=some (.pointer (some ⟨g,0,none⟩)):=(Qct h0 0).trans rfl
 have c1:w.frozen? ⟨g,2,none⟩=false:=Qcu h1 2
 have c2:w.cell? ⟨g,2,none⟩=some (.bool true):=(Qct h1 2).trans rfl
 have k0:=Qcr h0 (p:=⟨g,2,none⟩) n1 (.bool false)
 have k1:=Qcq h1 2 (.bool false)
 have k2:=Qcr h2 (p:=⟨g,2,none⟩) n2 (.bool false)
 obtain⟨W1,hW1⟩:∃W1,W1=w.setCell ⟨g,2,none⟩ (.bool false):=⟨_,rfl⟩
 rw[← hW1]at k0 k1 k2 ⊢
 refine callsD_of_wpS Tryz.func190 rfl fun c₀ cs hm=>?_
 simp only[Tryz.ntmps190,List.size_toArray,List.length_cons,List.length_nil,Nat.reduceAdd,Nat.reduceSub,Array.replicate_succ,Array.replicate_zero,List.push_toArray,List.append_toArray,List.nil_append,List.cons_append]
 apply wpS_seq
 refine wpS_of_wp ?_
 go_wp2
 simp only[Exit.thenS]
 rw[← hW1]
 have d0:W1.cell? ⟨bc,0,none⟩=some (.pointer (some ⟨g,0,none⟩)):=(Qct k0 0).trans rfl
 have d1:W1.cell? ⟨g,1,none⟩=some (.int .i64 i):=(Qct k1 1).trans rfl
 have d2:W1.frozen? ⟨ba,0,none⟩=false:=Qcu k2 0
 have d3:W1.cell? ⟨ba,0,none⟩=some (.int .i64 x):=(Qct k2 0).trans rfl
 clear c0 c1 c2 hW1 h0 h1 h2
 apply wpS_seq
 refine wpS_of_wp ?_
 go_wp2
 simp only[Exit.thenS]
 apply wpS_seq
 refine Qkn rfl ?_ ?_ ?_
 ·go_simp
 ·simp[recoverD,hm]
 simp only[Exit.thenS,Act.put,List.setIfInBounds_toArray,List.set_cons_zero,List.set_cons_succ]
 refine wpS_of_wp ?_
 go_wp2
 refine⟨rfl,.returning,?_,_,results_none rfl _ _ _,rfl,rfl,rfl⟩
 cases c₀
 simp_all
theorem Qkq(g ba be bc:Nat)(i x y er:Int)(v:Value)(w:World)(h0:w.heap[bc]? = some (.cells #[.pointer (some ⟨g,0,none⟩)] 204 (0,0)))
  (h1:w.heap[g]? = some (.cells #[v,.int .i64 i,.bool true] 264 (0,0))) (h2:w.heap[ba]? = some (.cells #[.int .i64 x] 3 (0,0))) (h3:w.heap[be]? = some (.cells #[.int .i64 y] 30 (0,0))) :
  CallsD Tryz.prog 190 #[.pointer (some ⟨bc,0,none⟩),.pointer (some ⟨ba,0,none⟩),.pointer (some ⟨be,0,none⟩)] (.panicking [Qke g er]) w fun e u' w' =>
   e=.returned (.tuple #[])∧u'=.panicking [{ Qke g er with recovered:=true }]∧w'=((((w.setCell ⟨g,2,none⟩ (.bool false)).setCell ⟨ba,0,none⟩ (.int .i64 i)).alloc (.cells #[.pointer (some ⟨g,0,none⟩),.int .i64 er] 266)).setCell ⟨be,0,none⟩ (.int .i64 er)):=by
 have hu:=Tryz.underlying264
 have hu2:=Tryz.underlying266
 have hu3:=Tryz.underlying204
 have n1:bc≠g:=Qcw h0 h1 (by decide)
 have n2:ba≠g:=Qcw h2 h1 (by decide)
 have n3:be≠g:=Qcw h3 h1 (by decide)
 have n4:bc≠ba:=Qcw h0 h2 (by decide)
 have n5:be≠ba:=Qcw h3 h2 (by decide)
 have c0:w.cell? ⟨bc,0,none⟩=some (.pointer (some ⟨g,0,none⟩)):=(Qct h0 0).trans rfl
 have c1:w.frozen? ⟨g,2,none⟩=false:=Qcu h1 2
 have c2:w.cell? ⟨g,2,none⟩=some (.bool true):=(Qct h1 2).trans rfl
 have k0:=Qcr h0 (p:=⟨g,2,none⟩) n1 (.bool false)
 have k1:=Qcq h1 2 (.bool false)
 have k2:=Qcr h2 (p:=⟨g,2,none⟩) n2 (.bool false)
 have k3:=Qcr h3 (p:=⟨g,2,none⟩) n3 (.bool false)
 obtain⟨W1,hW1⟩:∃W1,W1=w.setCell ⟨g,2,none⟩ (.bool false):=⟨_,rfl⟩
 rw[← hW1]at k0 k1 k2 k3 ⊢
 have m0:=Qcr k0 (p:=⟨ba,0,none⟩) n4 (.int .i64 i)
 have m3:=Qcr k3 (p:=⟨ba,0,none⟩) n5 (.int .i64 i)
 obtain⟨W2,hW2⟩:∃W2,W2=W1.setCell ⟨ba,0,none⟩ (.int .i64 i):=⟨_,rfl⟩
 rw[← hW2]at m0 m3 ⊢
 obtain⟨j9,hj9⟩:∃j,Tryz.prog.info? 264=some j:=Option.isSome_iff_exists.1 qq_5
 have hnp:∀W:World,(binOp .neq 204 (.pointer (some ⟨g,0,none⟩)) (.pointer (some ⟨g,0,none⟩))).run Tryz.prog W=.ok (.bool false) W:=fun W=>Qkm ⟨g,0,none⟩ hu3 hj9 W
 clear hj9
 have hta:∀W:World,(Instr.typeAssert (.iface 266 (.agg #[.pointer (some ⟨g,0,none⟩),.int .i64 er])) 20 266 true).run Tryz.prog W=.ok (.tuple #[.agg #[.pointer (some ⟨g,0,none⟩),.int .i64 er],.bool true]) W:=fun W=>by kernel_rfl
 refine callsD_of_wpS Tryz.func190 rfl fun c₀ cs hm=>?_
 simp only[Tryz.ntmps190,List.size_toArray,List.length_cons,List.length_nil,Nat.reduceAdd,Nat.reduceSub,Array.replicate_succ,Array.replicate_zero,List.push_toArray,List.append_toArray,List.nil_append,List.cons_append]
 apply wpS_seq
 refine wpS_of_wp ?_
 go_wp2
 simp only[Exit.thenS]
 rw[← hW1]
 have d0:W1.cell? ⟨bc,0,none⟩=some (.pointer (some ⟨g,0,none⟩)):=(Qct k0 0).trans rfl
 have d1:W1.cell? ⟨g,1,none⟩=some (.int .i64 i):=(Qct k1 1).trans rfl
 have d2:W1.frozen? ⟨ba,0,none⟩=false:=Qcu k2 0
 have d3:W1.cell? ⟨ba,0,none⟩=some (.int .i64 x):=(Qct k2 0).trans rfl
 clear c0 c1 c2 hW1 h0 h1 h2 h3
 apply wpS_seq
 refine wpS_of_wp ?_
 go_wp2
 simp only[Exit.thenS]
 rw[← hW2]
 have o0:W2.cell? ⟨bc,0,none⟩=some (.pointer (some ⟨g,0,none⟩)):=(Qct m0 0).trans rfl
 have s0:=Qdd m0 (.cells #[.pointer (some ⟨g,0,none⟩),.int .i64 er] 266)
 have s3:=Qdd m3 (.cells #[.pointer (some ⟨g,0,none⟩),.int .i64 er] 266)
 have s4:=Qdh W2 (.cells #[.pointer (some ⟨g,0,none⟩),.int .i64 er] 266)
 have p0:(W2.alloc (.cells #[.pointer (some ⟨g,0,none⟩),.int .i64 er] 266)).cell? ⟨bc,0,none⟩=some (.pointer (some ⟨g,0,none⟩)):=(Qct s0 0).trans rfl
 have p1:(W2.alloc (.cells #[.pointer (some ⟨g,0,none⟩),.int .i64 er] 266)).cell? ⟨be,0,none⟩=some (.int .i64 y):=(Qct s3 0).trans rfl
 have p2:(W2.alloc (.cells #[.pointer (some ⟨g,0,none⟩),.int .i64 er] 266)).frozen? ⟨be,0,none⟩=false:=Qcu s3 0
 have p3:(W2.alloc (.cells #[.pointer (some ⟨g,0,none⟩),.int .i64 er] 266)).cell? ⟨W2.heap.size,0,none⟩=some (.pointer (some ⟨g,0,none⟩)):=(Qct s4 0).trans rfl
 have p4:(W2.alloc (.cells #[.pointer (some ⟨g,0,none⟩),.int .i64 er] 266)).cell? ⟨W2.heap.size,1,none⟩=some (.int .i64 er):=(Qct s4 1).trans rfl
 clear d0 d1 d2 d3 hW2 s0 s3 s4
 apply wpS_seq
 refine Qko (v:=.iface 266 (.agg #[.pointer (some ⟨g,0,none⟩),.int .i64 er])) (cs':={ c₀ with mode:=.panicking [{ Qke g er with recovered:=true }] } :: cs) rfl ?_ ?_ ?_
 ·go_simp
 ·simp[recoverD,hm,Qke]
 simp only[Exit.thenS,Act.put,List.setIfInBounds_toArray,List.set_cons_zero,List.set_cons_succ]
 refine wpS_of_wp ?_
 go_wp2
 refine⟨rfl,_,rfl,_,results_none rfl _ _ _,rfl,rfl,rfl⟩
end Go.Proofs.YtnnofopfbeklbaaGreat.C
end
