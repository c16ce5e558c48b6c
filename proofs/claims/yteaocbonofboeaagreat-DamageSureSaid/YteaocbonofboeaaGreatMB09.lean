/- Merged texts. -/
import Derived.Test.YteaocbonofboeaaGreatMB02
import Derived.Lib.MakeNoZero
import Derived.Laws.CopyOwn
import Derived.Laws.MathBits
import Derived.Deep.RegionLaw
import Derived.Test.YteaocbonofboeaaGreatMB04
import Derived.WalkLawsBesides
import Derived.Recover
import Derived.Test.YteaocbonofboeaaGreatMB07
import Derived.Test.YteaocbonofboeaaGreatMB05
import Derived.Defers
set_option linter.unusedVariables false
set_option linter.unusedSimpArgs false
set_option maxHeartbeats 8000000
set_option maxRecDepth 100000
section
namespace Go.Proofs.YteaocbonofboeaaGreat.C
open Go.RowKit Go.Proofs.YteaocbonofboeaaGreatW.PrintWords Go.Proofs.YteaocbonofboeaaGreatW.PrintLast Go.Proofs.YteaocbonofboeaaGreatW.PrintMore
theorem Qng(n:Int)(h0:0≤n)(h1:n≤140737488355328):Qab.f 1 n=some (0,n):=by
 have e1:Go.bits .and .u64 1 4294967295=1:=by rw[and_low32 _ (by omega) (by omega)];rfl
 have e2:Go.bits .and .u64 n 4294967295=n%4294967296:=and_low32 _ (by omega) (by omega);have e3:∀x:Int,0≤x→x≤18446744073709551615→IntKind.u64.wrap x=x:=fun x a b=>IntWalk.u64_in x ⟨a,b⟩
 unfold Qab.f Qac.f;rw[e1,e2];have d1:(1:Int)/4294967296=0:=by decide
 have m0:0≤n%4294967296:=by omega
 have m1:n%4294967296<4294967296:=by omega
 have q0:0≤n/4294967296:=by omega
 have q1:n/4294967296<4294967296:=by omega
 have d2:(n%4294967296)/4294967296=0:=by omega
 have d3:(n/4294967296)/4294967296=0:=by omega
 have z3:IntKind.u64.wrap 0=0:=e3 0 (by omega) (by omega);have zb:Go.bits .and .u64 0 4294967295=0:=by rw[and_low32 _ (by omega) (by omega)];rfl
 simp only[d1,Int.zero_mul,Int.one_mul,z3,e3 _ m0 (by omega),d2,Int.add_zero,Int.zero_add,Int.zero_ediv,zb,e3 _ q0 (by omega),d3,e3 _ h0 (by omega),Option.bind_some]
attribute [local go_sem] Qim Qin Qio Qip
def Fill(w wr:World)(g n bp:Nat)(x:Int):Prop :=
 ∃cur:List Value,wr.heap[g]? = some (.cells cur.toArray 5 (0,0))∧n≤cur.length∧(∀j,j<bp→cur[j]? = some (.int .u8 x))∧Below w.heap.size w wr∧w.heap.size≤g
theorem Fill.splice{w w1:World}{g n bp k:Nat}{x:Int}{cur:List Value}(hc:∀j,j<bp→cur[j]? = some (.int .u8 x))(hl:n≤cur.length)(hbk:bp+k≤n)(hg:w1.heap[g]? = some (.cells (splice cur bp (List.replicate k (.int .u8 x))).toArray 5 (0,0)))(hB:Below w.heap.size w w1)(hle:w.heap.size≤g):Fill w w1 g n (bp+k) x:=by
 refine⟨_,hg,?_,?_,hB,hle⟩
 ·rw[length_splice _ _ _ qq_37];exact hl
 ·intro j hj;unfold Go.splice
  by_cases h1:j<bp
  ·rw[List.getElem?_append_left qq_37,List.getElem?_take_of_lt h1];exact hc j h1
  ·rw[List.getElem?_append_right qq_37,List.length_take,Nat.min_eq_left (by omega),List.getElem?_append_left qq_37];simp[List.getElem?_replicate];omega
theorem Qnh (A0:Option Addr) (c0:Nat) (x:Int) (n:Nat) (w:World) (p:0<n) (hn:n≤140737488355328) (hr0:Kd.C (Kd.int .u8) w A0 1 [x]) :
    Calls Tryz.prog 108 #[.slice A0 1 c0,.int .i64 n] w fun e w'=>∃g,e=.returned (.slice (some ⟨g,0,none⟩) n n)∧Fill w w' g n n x:=by
  have hmul:=Qng n (by omega) (by omega);obtain⟨ad,c,rfl,_,hK,hcell0⟩:=Kd.C_get hr0 0 0 (by omega) (by omega);have hK':c=[.int .u8 x]:=hK;subst hK';have hcell:=hcell0 0 _ rfl;clear hcell0 hK;have n0:(0:Int)<(n:Int):=by omega
  have n1:(n:Int)≤140737488355328:=by omega
  go_enter Tryz.func108,Tryz.ntmps108
  have hsz1:(Tryz.prog.info? 5).map (·.size)=some 1:=by kernel_rfl
  obtain⟨g,hg⟩:∃g,g=w.heap.size:=⟨_,rfl⟩
  go_wp2_with (go_at_call 157;refine(Qab.calls 1 n 0 n w hmul).mono ?_;rintro e w' ⟨rfl,hd⟩;obtain⟨q,rfl⟩:=hd.out;clear hd;fail)
  go_at_call 157
  refine(Qab.calls 1 n 0 n w hmul).mono ?_;rintro e w' ⟨rfl,hd⟩;obtain⟨q,rfl⟩:=hd.out;clear hd;obtain⟨cs,hrunM,hle,hmx⟩:=Lib.run_makeNoZero (P:=Tryz.prog) (w.drewN q) #[3] 40 5 Tryz.underlying40 n (by omega);have hcall:(callFunc 158 #[.int .i64 (n:Int)]).run Tryz.prog (w.drewN q)=.ok (.value (.slice (some ⟨w.heap.size,0,none⟩) n cs.size)) ((w.alloc (.cells cs 5)).drewN (q+2)):=by
    rw[run_callFunc_extern Tryz.func158 qq_6 qq_6 qq_6 (e:=Extern.BytealgMakeNoZero.makeNoZero #[3] #[40]) qq_6,hrunM];rfl
  clear hrunM hmx;have i1:(n:Int)≤(cs.size:Int):=by omega
  have hcell':((w.alloc (.cells cs 5)).drewN (q+2)).cell? (ad.add 0)=some (.int .u8 x):=by
    rw[World.cell?_drewN];exact(((Below.refl _ w).alloc (Nat.le_refl _) _).cell (World.block_lt_of_cell? w _ hcell)).trans hcell
  obtain⟨W0,hW0⟩:∃W0,((w.alloc (.cells cs 5)).drewN (q+2))=W0:=⟨_,rfl⟩;have hh0:W0.heap[g]? = some (.cells cs.toList.toArray 5 (0,0)):=by rw[← hW0,hg];simpa using heap_alloc_new w (.cells cs 5)
  have hb0:Below w.heap.size w W0:=by rw[← hW0];exact Qcz ((Below.refl _ w).alloc (Nat.le_refl _) _) _
  rw[hW0]at hcall hcell';clear hW0;have HG:=QA hg;rw[← hg]at hcall;clear hg
  by_cases hbig:8192<(n:Int)
  all_goals
    go_wp2_with (refine wpList_copy_splice rfl (.tmp 58) (.tmp 59) 40 40 ?ho 5 Tryz.underlying40 hsz1 (some ⟨g,0,none⟩) (some ad) n n 1 c0 ?hd ?hs g 0 cs.toList 5 hh0 [.int .u8 x] ?hn ?hpos ?hfit ?h1 w.heap.size w hb0 ?hBg ?_;(case ho=>rfl);(case hd=>rfl);(case hs=>rfl);(case hn=>simp[Nat.min_def];omega);(case hpos=>intro _;refine⟨rfl,ad,rfl,fun j v hj=>?_⟩;cases j with|zero=>(simp at hj;subst hj;exact hcell')|succ j=>(simp at hj));(case hfit=>simp;omega);(case h1=>intro v hv;simp at hv;subst hv;rfl);(case hBg=>rw[HG.out];exact Nat.le_refl _);intro w1 HG1 hb1)
    have b:Fill w w1 g n (0+1) x:=Fill.splice (cur:=cs.toList) (bp:=0) (k:=1) (by intro j hj;omega) (by simpa using hle) (by omega) HG1.out hb1 (by rw[HG.out];exact Nat.le_refl _);clear HG1 hb1
    go_loopw [10] (fun a wr=>∃(bp:Nat),1≤bp∧bp≤n∧a=.int .i64 (bp:Int)∧Aside0 (Fill w wr g n bp x)) (fun a _=>n-(intOf a).toNat)
    case atStart=>exact⟨1,Nat.le_refl _,by omega,rfl,⟨b⟩⟩
    case round =>
      clear b;obtain⟨bp,hb1,hb2,rfl,HF⟩:=hrel
      by_cases hlt:bp<n
      · by_cases c8:8192<(bp:Int)
        all_goals first |(exfalso;omega)|skip
        all_goals
         obtain⟨ch,hch1,hch2,hcb⟩:∃ch:Nat,1≤ch∧ch≤bp∧((8192<(n:Int)→8192<(bp:Int)→ch=8192)∧(¬8192<(bp:Int)→ch=bp)∧(¬8192<(n:Int)→ch=bp)):=by
          by_cases c:8192<(n:Int)∧8192<(bp:Int)
          · exact⟨8192,by omega,by omega,fun _ _=>rfl,by omega,by omega⟩
          · exact⟨bp,by omega,by omega,by omega,by omega,by omega⟩
         have e3:(if 8192<(bp:Int)then(8192:Int)else(bp:Int))≤(n:Int):=by split<;>omega
         first|rw[if_pos c8]at e3|rw[if_neg c8]at e3
         have HCB:=QA hcb;clear hcb;obtain⟨cur,hcur,hcl,hcx,hB,hle2⟩:=HF.out;obtain⟨kk,hkk⟩:∃kk,kk=Nat.min ch (n-bp):=⟨_,rfl⟩;have hk1:1≤kk∧kk≤ch∧kk≤n-bp:=by
           have h1:kk≤ch:=by rw[hkk];exact Nat.min_le_left _ _
           have h2:kk≤n-bp:=by rw[hkk];exact Nat.min_le_right _ _
           have h3:1≤kk:=by rw[hkk];exact Nat.le_min.2 ⟨hch1,by omega⟩
           exact⟨h3,h1,h2⟩
         have HKK:=QA hkk;clear hkk;have hcells:∀j,j<ch→wr.cell? ⟨g,j,none⟩=some (.int .u8 x):=by
           intro j hj;have:=hcx j (by omega);simp[World.cell?,hcur,this]
         have HCELLS:=QA hcells;have HCUR:=QA hcur;have HCX:=QA hcx;have HCL:=QA hcl;have HB:=QA hB;have HLE:=QA hle2;clear hcells hcur hcx hcl hB hle2 HF;have e1:(bp:Int)<(n:Int):=by omega
         have e2:(ch:Int)≤(n:Int):=by omega
         have d:=QA (show(List.replicate kk (Value.int .u8 x)).length=Nat.min ch (n-bp)by rw[List.length_replicate];exact HKK.out);have h:=QA (show ∀j v,(List.replicate kk (Value.int .u8 x))[j]? = some v→wr.cell? ((⟨g,0,none⟩:Addr).add j)=some v by
           intro j v hj;rw[List.getElem?_replicate]at hj;split at hj
           · injection hj with hj
             subst hj;rw[Qdc];exact HCELLS.out j (by omega)
           · cases hj)
         have l:=QA (show bp+(List.replicate kk (Value.int .u8 x)).length≤cur.length by rw[List.length_replicate];have:=HCL.out;omega);have m:=QA (show ∀v∈List.replicate kk (Value.int .u8 x),v.oneCell'=true by intro v hv;rw[(List.mem_replicate.1 hv).2];rfl)
         go_wp2_with fail
         go_region_law (refine step_copy_splice rfl (.tmp 70) (.tmp 73) 40 40 rfl 5 Tryz.underlying40 hsz1 (some ⟨g,bp,none⟩) (some ⟨g,0,none⟩) (n-bp) (n-bp) ch n (by(try simp[Act.eval,Act.put])<;>omega) (by(try simp[Act.eval,Act.put])<;>(have:=HCB.out;omega)) g bp cur 5 HCUR.out (List.replicate kk (.int .u8 x)) d.out (fun _=>⟨rfl,_,rfl,h.out⟩) l.out m.out w.heap.size w (by first|exact HB.out|exact Qcy HB.out) HLE.out ?_;intro w4 HG4 hb4)
         have o:Fill w w4 g n (bp+kk) x:=Fill.splice HCX.out HCL.out (by omega) HG4.out hb4 HLE.out;clear HG4 hb4;go_wp2
         go_roundw
         case rel=>exact⟨bp+kk,by omega,by omega,by rw[IntWalk.i64_in _ (by omega)];go_num,⟨o⟩⟩
         case measure=>simp[intOf,IntWalk.i64_in ((bp:Int)+(kk:Int)) (by omega)];omega
      · obtain rfl:bp=n:=by omega
        go_wp2;go_ret
        exact⟨g,rfl,HF.out⟩
theorem Qni{w w':World}{g n:Nat}{x:Int}(h:Fill w w' g n n x)(hn:n≤9223372036854775807):Kd.C (Kd.int .u8) w' (some ⟨g,0,none⟩) n (List.replicate n x):=by
 obtain⟨cur,h1,h2,h3,h4,h5⟩:=h;refine Kd.C_of_reads (d:=(0:Int)) ⟨List.length_replicate,hn,fun _=>⟨_,rfl,fun j hj=>?_⟩⟩;rw[Qdc,Qdw h1];simp[h3 j hj,List.getD_eq_getElem?_getD,List.getElem?_replicate,hj]
theorem Qnj(A0:Option Addr)(c0:Nat)(x:Int)(n:Nat)(w:World)(hn:n≤140737488355328)(hr0:Kd.C (Kd.int .u8) w A0 1 [x]) :
  Calls Tryz.prog 108 #[.slice A0 1 c0,.int .i64 n] w fun e w'=>∃A c,e=.returned (.slice A n c)∧n≤c∧Kd.C (Kd.int .u8) w' A n (List.replicate n x)∧Below w.heap.size w w':=by
 rcases Nat.eq_zero_or_pos n with rfl|hp
 ·go_enter Tryz.func108,Tryz.ntmps108
  go_wp2;go_ret
  exact⟨_,_,rfl,Nat.le_refl _,⟨rfl,by omega,fun h=>absurd h (by omega)⟩,Qcx (Below.refl _ _) _⟩
 ·refine(Qnh A0 c0 x n w hp hn hr0).mono ?_;rintro e w' ⟨g,rfl,hF⟩;refine⟨_,_,rfl,Nat.le_refl _,Qni hF (by omega),?_⟩;obtain⟨cur,h1,h2,h3,h4,h5⟩:=hF;exact h4
def IsCur(W:World)(b g:Nat)(bs:List Int)(i:Int):Prop:=∃v,W.heap[g]? = some (.cells #[v,.int .i64 i,.bool true] 300 (0,0))∧R8 W b v bs
def Qno(g:Nat)(e:Int):PanicEntry:={ v:=.iface 302 (.agg #[.pointer (some ⟨g,0,none⟩),.int .i64 e]),recovered:=false }
theorem IsCur.kept{W W':World}{b g:Nat}{bs:List Int}{i:Int}(h:IsCur W b g bs i)(hb:Below W.heap.size W W'):IsCur W' b g bs i:=by
 obtain⟨v,h1,h2⟩:=h;exact⟨v,Qel h1 hb,h2.kept hb⟩
theorem IsCur.lt{W:World}{b g:Nat}{bs:List Int}{i:Int}(h:IsCur W b g bs i):g<W.heap.size:=by
 obtain⟨v,h1,h2⟩:=h;exact Qdv h1
theorem IsCur.cells{W:World}{b g:Nat}{bs:List Int}{i:Int}(h:IsCur W b g bs i):∃A c,W.cell? ⟨g,0,none⟩=some (.slice A bs.length c)∧W.cell? ⟨g,1,none⟩=some (.int .i64 i)∧W.cell? ⟨g,2,none⟩=some (.bool true)∧W.frozen? ⟨g,1,none⟩=false∧Kd.C (Kd.int .u8) W A bs.length bs∧bs.length≤c:=by
 obtain⟨v,h1,h2⟩:=h;obtain⟨A,c,rfl⟩:=Kd.R_slice h2;exact⟨A,c,(Qdw h1 0).trans rfl,(Qdw h1 1).trans rfl,(Qdw h1 2).trans rfl,Qdx h1 1,(Kd.R_reads' h2).2.2,(Kd.R_reads' h2).2.1⟩
theorem IsCur.move{W:World}{b g:Nat}{bs:List Int}{i:Int}(h:IsCur W b g bs i)(hbg:b≤g)(j:Int):IsCur (W.setCell ⟨g,1,none⟩ (.int .i64 j)) b g bs j∧Bw b g W (W.setCell ⟨g,1,none⟩ (.int .i64 j)):=by
 obtain⟨v,h1,h2⟩:=h;exact⟨⟨v,Qdt h1 1 _,h2.set h1 (by decide) 1 _⟩,Qkf (Below.refl _ _) hbg,fun k cs t h3 h4 h5=>Qdu h3 h5 _⟩
theorem Qnp(b g:Nat)(bs:List Int)(i:Int)(w:World)(hI:IsCur w b g bs i) :
  Calls Tryz.prog 220 #[.pointer (some ⟨g,0,none⟩)] w fun e w'=>e=.returned (.bool false)∧w'=w:=by
 obtain⟨A,c,h0,h1,h2,h3,h4,h5⟩:=hI.cells;clear hI;have hu:=Tryz.underlying300
 go_enter Tryz.func220,Tryz.ntmps220
 go_wp2;go_ret
 exact⟨rfl,rfl⟩
theorem Qnq(b g:Nat)(bs:List Int)(i er:Int)(he:er≠0)(w:World)(hI:IsCur w b g bs i) :
  Calls Tryz.prog 174 #[.pointer (some ⟨g,0,none⟩),.int .i64 er] w fun e w'=>e=.panicked [Qno g er]∧w'=w:=by
 have HI:=QA hI;clear hI;have hu:=Tryz.underlying300;have hne:(er != 0)=true:=bne_iff_ne.2 he
 go_enter Tryz.func174,Tryz.ntmps174
 go_wp2_with (go_at_call 220;refine(Qnp b g bs i _ HI.out).mono ?_;rintro ee wa ⟨rfl,rfl⟩)
 exact⟨rfl,rfl,rfl⟩
theorem Qnr(b g:Nat)(bs:List Int)(i n:Int)(hn:0<n)(hi:0≤i∧i≤bs.length)(hl:bs.length≤140737488355328)(hs:(bs.length:Int)-i<n)(w:World)(hI:IsCur w b g bs i) :
  Calls Tryz.prog 221 #[.pointer (some ⟨g,0,none⟩),.int .i64 n] w fun e w'=>e=.panicked [Qno g 2]∧Below w.heap.size w w':=by
 have HI:=QA hI;obtain⟨A,c,h0,h1,h2,h3,h4,h5⟩:=hI.cells;clear hI h4;have hu:=Tryz.underlying300;have hb0:decide (n≤0)=false:=decide_eq_false (by omega);have hw1:IntKind.i64.wrap ((bs.length:Int)-i)=(bs.length:Int)-i:=IntWalk.i64_in _ (by omega);have hb1:decide ((bs.length:Int)-i<n)=true:=decide_eq_true hs
 go_enter Tryz.func221,Tryz.ntmps221
 go_upto_region 3 with(go_at_call 220;refine(Qnp b g bs i _ HI.out).mono ?_;rintro ee wa ⟨rfl,rfl⟩)
 have q0:=Qdb (Qcy (Below.refl _ _)) h0;have q1:=Qdb (Qcy (Below.refl _ _)) h1
 go_region
 go_wp2_with (go_at_call 174;refine(Qnq b g bs i 2 (by decide) _ (HI.out.kept (Qcy (Below.refl _ _)))).mono ?_;rintro ee wa ⟨rfl,rfl⟩)
 exact⟨rfl,rfl,Qcy (Below.refl _ _)⟩
theorem Qns(b g:Nat)(bs:List Int)(i n:Int)(hn:n≤0)(w:World)(hI:IsCur w b g bs i) :
  Calls Tryz.prog 221 #[.pointer (some ⟨g,0,none⟩),.int .i64 n] w fun e w'=>e=.returned (.slice none 0 0)∧w'=w:=by
 have HI:=QA hI;clear hI;have hb0:decide (n≤0)=true:=decide_eq_true hn
 go_enter Tryz.func221,Tryz.ntmps221
 go_wp2_with (go_at_call 220;refine(Qnp b g bs i _ HI.out).mono ?_;rintro ee wa ⟨rfl,rfl⟩)
 go_ret
 exact⟨rfl,rfl⟩
def K8(w w':World):Prop:=∀(b:Nat) (v:Value) (ys:List Int),R8 w b v ys→R8 w' b v ys
theorem K8.move{W:World}{b g:Nat}{bs:List Int}{i:Int}(h:IsCur W b g bs i)(j:Int){w':World}(hb:Below W.heap.size (W.setCell ⟨g,1,none⟩ (.int .i64 j)) w'):K8 W w':=by
 intro b' v' ys hR;obtain⟨v,h1,_⟩:=h;exact R8.kept (R8.set hR h1 (by decide) 1 _) (by simpa [World.setCell]using hb)
theorem Qnt(b g:Nat)(bs xs:List Int)(i n:Int)(hxs:xs=(bs.drop i.toNat).take n.toNat)(hn:0<n)(hi:0≤i)(hl:bs.length≤140737488355328)(hs:i+n≤(bs.length:Int))(hbg:b≤g)(w:World)(hbw:b≤w.heap.size)(hI:IsCur w b g bs i) :
  Calls Tryz.prog 221 #[.pointer (some ⟨g,0,none⟩),.int .i64 n] w fun e w'=>∃v,e=.returned v∧R8 w' w.heap.size v xs∧IsCur w' b g bs (i+n)∧Bw b g w w'∧K8 w w':=by
 have HI:=QA hI;obtain⟨A,c,h0,h1,h2,h3,h4,h5⟩:=hI.cells;clear hI h4;have hu:=Tryz.underlying300;have hb0:decide (n≤0)=false:=decide_eq_false (by omega);have hw1:IntKind.i64.wrap ((bs.length:Int)-i)=(bs.length:Int)-i:=IntWalk.i64_in _ (by omega);have hw2:IntKind.i64.wrap (i+n)=i+n:=IntWalk.i64_in _ (by omega);have hw3:IntKind.i64.wrap (i+n-n)=i:=by rw[show i+n-n=i by omega];exact IntWalk.i64_in _ (by omega)
 have hw4:IntKind.i64.wrap i=i:=IntWalk.i64_in _ (by omega);have hb1:decide ((bs.length:Int)-i<n)=false:=decide_eq_false (by omega)
 go_enter Tryz.func221,Tryz.ntmps221
 go_upto_region 3 with(go_at_call 220;refine(Qnp b g bs i _ HI.out).mono ?_;rintro ee wa ⟨rfl,rfl⟩)
 have q0:=Qdb (Qcy (Below.refl _ _)) h0;have q1:=Qdb (Qcy (Below.refl _ _)) h1;have q3:wa.drew.frozen? ⟨g,1,none⟩=false:=h3;clear h0 h1 h2 h3;have HI1:=QA (HI.out.kept (Qcy (Below.refl _ _)))
 go_region
 go_upto_region 6 with fail
 clear HI1 q0 q1 q3;obtain⟨m1,m2⟩:=HI.out.move hbg (i+n);have M1:=QA (m1.kept (Qcy (Below.refl _ _)));have M2:=QA (m2.trans (Bw.below (Qcy (Below.refl _ _)) (Nat.le_trans hbw m2.size)));clear m1 m2;obtain⟨W2,hW2⟩:∃W2,W2=(wa.setCell ⟨g,1,none⟩ (.int .i64 (i+n))).drew:=⟨_,rfl⟩;have hk8:Below wa.heap.size (wa.setCell ⟨g,1,none⟩ (.int .i64 (i+n))) W2:=by rw[hW2];exact Qcy (Below.refl _ _)
 have HK8:=QA (fun w' (hb:Below W2.heap.size W2 w')=>K8.move HI.out (i+n) (hk8.trans (Qkg hb (by have:=hk8.size;simpa [World.setCell]using this))));clear hk8;rw[← hW2]at M1 M2 ⊢;obtain⟨A2,c2,r0,r1,r2,r3,r4,r5⟩:=M1.out.cells;clear hW2 r2 r3;have hmid:(bs.take (i+n).toNat).drop i.toNat=xs:=by rw[hxs,List.drop_take,show(i+n).toNat-i.toNat=n.toNat by omega]
 have hxl:xs.length=n.toNat:=by rw[hxs,List.length_take,List.length_drop];omega
 obtain⟨i0,hii,_,hsz,_⟩:=info_parts Qjb;have hcut:=Qfk (P:=Tryz.prog) 40 5 .i64 .i64 Tryz.underlying40 hii 1 hsz A2 bs.length c2 i (i+n) hi (by omega) (by omega) r5;have hC:=Kd.C_mid (lo:=i.toNat) (hi:=(i+n).toNat) r4 (by omega) (by omega) r5;rw[hmid]at hC;obtain⟨A3,hA3⟩:∃A3,A3=(if c2=i.toNat then A2 else A2.map (·.add (i.toNat*1))):=⟨_,rfl⟩;obtain⟨c3,hc3⟩:∃c3,c3=c2-i.toNat:=⟨_,rfl⟩;rw[← hA3,← hc3,show(i+n).toNat-i.toNat=xs.length by omega]at hcut;have hC3:Kd.C (Kd.int .u8) W2 A3 xs.length xs:=by rw[hA3];exact hC
 have d:=QA hC3;have hxl2:xs.length≤140737488355328:=by omega
 obtain⟨j,hj⟩:∃j,j=i+n:=⟨_,rfl⟩;have hw5:IntKind.i64.wrap (j-n)=i:=by rw[hj];exact hw3
 rw[← hj]at hcut r1 M1 ⊢;have HJ:=QA hj;clear hj hC hC3 hA3 hmid r4 hc3 r5 hxs hxl;refine Qgj (n:=17) (S:=fun w'=>w'.cell? ⟨g,0,none⟩=some (.slice A2 bs.length c2)∧w'.cell? ⟨g,1,none⟩=some (.int .i64 j)) (ds:=[]) (bm 17 0) qq_6 rfl rfl ⟨(Qdb (Qcy (Below.refl _ _)) r0),(Qdb (Qcy (Below.refl _ _)) r1)⟩ (fun a=>?_);refine pz_ (i:=0) (N:=some 33) (bm 17 1) qq_6 ?_;refine pz_ (i:=1) (N:=some 34) (bm 17 3) qq_6 ?_;refine pz_ (i:=2) (N:=some 35) (bm 17 7) qq_6 ?_;refine pz_ (i:=4) (N:=some 37) (bm 17 23) qq_6 ?_;refine pz_ (i:=5) (N:=some 38) (bm 17 55) qq_6 ?_;refine pz_ (i:=6) (N:=some 39) (bm 17 119) qq_6 ?_;refine pz_ (i:=8) (N:=some 41) (bm 17 375) qq_6 ?_;refine pz_ (i:=10) (N:=some 43) (bm 17 1399) qq_6 ?_;refine pz_ (i:=11) (N:=some 44) (bm 17 3447) qq_6 ?_;refine pz_ (i:=12) (N:=some 45) (bm 17 7543) qq_6 ?_;refine tz_ (i:=3) (N:=some 36) (bm 17 7551) qq_6 a ?_;refine tz_ (i:=7) (N:=some 40) (bm 17 7679) qq_6 a ?_;refine pz_ (i:=9) (N:=some 42) (bm 17 8191) qq_6 ?_;refine tz_ (i:=13) (N:=some 46) (bm 17 16383) qq_6 a ?_;refine pz_ (i:=14) (N:=some 47) (bm 17 32767) qq_6 ?_;refine one_ (i:=15) (N:=some 48) (bm 17 65535) rfl rfl qq_6 (by decide) (fun K hK=>?_);refine Qgr Tryz.func72 qq_6 rfl #[.slice A3 xs.length c3] (by rfl) rfl rfl (by simp only[List.map_toArray,List.map_cons,List.map_nil];rfl) ?_;with_reducible refine(Qkh A3 c3 xs _ (Kd.C_below d.out (Qcy (Below.refl _ _))) hxl2).mono ?_
 rintro ee w3 ⟨v,rfl,hR,hb⟩;refine⟨_,rfl,?_⟩;refine hK.out _ _ ⟨(Qdb hb a.1),(Qdb hb a.2)⟩ (fun a=>?_);clear hK K;refine nzp_ 48 ?_;refine pz_ (i:=16) (N:=some 4) (bm 17 131071) qq_6 ?_;refine Qgn qq_6 ?_;go_wp2;go_ret
 have hb2:Below W2.heap.size W2 w3:=(Qcy (Below.refl _ _)).trans hb;exact⟨v,rfl,R8.low hR (show wa.heap.size≤W2.drew.heap.size from M2.out.size),HJ.out ▸ M1.out.kept hb2,M2.out.trans (Bw.below hb2 (Nat.le_trans hbw M2.out.size)),HK8.out _ hb2⟩
theorem Qnu(b g:Nat)(bs xs:List Int)(i n:Int)(hxs:xs=(bs.drop i.toNat).take n.toNat)(hn:0<n)(hi:0≤i)(hl:bs.length≤140737488355328)(hs:i+n≤(bs.length:Int))(hbg:b≤g)(w:World)(hbw:b≤w.heap.size)(hI:IsCur w b g bs i) :
  Calls Tryz.prog 221 #[.pointer (some ⟨g,0,none⟩),.int .i64 n] w fun e w'=>∃v,e=.returned v∧R8 w' w.heap.size v xs∧IsCur w' b g bs (i+n)∧Bw b g w w' :=
 (Qnt b g bs xs i n hxs hn hi hl hs hbg w hbw hI).mono (by rintro e w' ⟨v,h1,h2,h3,h4,_⟩;exact⟨v,h1,h2,h3,h4⟩)
def Qay.f(a0:Int):Option (Int × Int):=if 0≤a0 then if a0<256 then some (12+a0%2,1+a0/2%8)else none else none
theorem Qay.calls(a0:Int)(r1:Int)(r2:Int)(w:World)(h:Qay.f a0=some (r1,r2)) :
  Calls Tryz.prog 16 #[.int .u8 a0] w fun e w'=>e=.returned (.agg #[.int .u8 r1,.int .u32 r2])∧Below w.heap.size w w':=by
 unfold Qay.f at h
 by_cases h0:0≤a0
 ·by_cases h1:a0<256
  ·rw[if_pos h0,if_pos h1]at h;simp only[Option.some.injEq,Prod.mk.injEq]at h;have hr1:=QA h.1;have hr2:=QA h.2;clear h;have hu:=Tryz.underlying28;have e1:Int.tmod a0 2=a0%2:=Int.tmod_eq_emod_of_nonneg h0;have e2:Int.tdiv a0 2=a0/2:=Int.tdiv_eq_ediv_of_nonneg h0;have e3:(12+a0%2)%256=12+a0%2:=by omega
   have e4:a0/2%256=a0/2:=by omega
   go_enter Tryz.func16,Tryz.ntmps16
   go_wp2_with fail
   refine bodyPost_ret (results_cell_row rfl _ _ w.heap.size 28 #[.int .u8 (12+a0%2),.int .u32 (1+a0/2%8)] (0,0) _ rfl (Qem w _) Tryz.underlying28 rfl qq_6) rfl ?_;exact⟨by rw[hr1.out,hr2.out],Qcx (Below.refl _ _) _⟩
  ·rw[if_pos h0,if_neg h1]at h;cases h
 ·rw[if_neg h0]at h;cases h
def Qbi.f(k:Nat)(a0:ByteArray):Option ByteArray:=if a0.size≤70368744177664 then(Qbh.f k (a0.size:Int)).bind fun t=>if t.size≤1000 then some (t++a0)else none else none
theorem Qbi.calls(k:Nat)(a0:ByteArray)(r:ByteArray)(w:World)(h:Qbi.f k a0=some r) :
  Calls Tryz.prog 136 #[.string a0] w fun e w'=>e=.returned (.string r)∧Below w.heap.size w w':=by
 unfold Qbi.f at h
 by_cases hs:a0.size≤70368744177664
 ·rw[if_pos hs]at h;obtain⟨t,ht,h⟩:=Option.bind_eq_some_iff.mp h
  by_cases h1:t.size≤1000
  ·rw[if_pos h1]at h;obtain rfl:=Option.some.inj h;have HT:=QA ht;clear ht h;have hc:t.size+a0.size≤9223372036854775807:=by omega
   go_enter Tryz.func136,Tryz.ntmps136
   go_wp2_with (go_at_call 135;refine(Qbh.calls k _ _ _ HT.out).mono ?_;rintro e w1 ⟨rfl,hb1⟩)
   go_ret
   exact⟨rfl,hb1⟩
  ·rw[if_neg h1]at h;cases h
 ·rw[if_neg hs]at h;cases h
abbrev KS:=Int × Int × Int × Int
abbrev Ck:=Int × Int × Int
def cutO(K:KS)(x:Int):List Ck:=if x=0 then [(K.2.1,K.2.2.2,K.2.2.1)]else []
def cutF(K:KS)(x:Int):KS:=(K.1,K.2.1,K.2.2.1+1,if x=0 then K.2.2.1+1 else K.2.2.2)
def cutN(K:KS)(x:Int):KS:=if K.2.2.1+1=K.1 then(K.1,(K.2.1+1)%18446744073709551616,0,0)else cutF K x
def cutA:KS→List Int→List Ck × KS
 | K,[]=>([],K)
 | K,x :: l=>(cutO K x++(cutA (cutN K x) l).1,(cutA (cutN K x) l).2)
def kCk:Kd Ck:=Kd.pair (Kd.int .u64) (Kd.pair (Kd.int .i64) (Kd.int .i64))
theorem kCk_mkM(w:World)(base:Nat)(ok:Nat→Prop)(x:Ck):kCk.M w base ok x [.int .u64 x.1,.int .i64 x.2.1,.int .i64 x.2.2]:=⟨[.int .u64 x.1],[.int .i64 x.2.1,.int .i64 x.2.2],rfl,rfl,⟨[.int .i64 x.2.1],[.int .i64 x.2.2],rfl,rfl,rfl⟩⟩
theorem Qqe{w:World}{x:Ck}{cs:List Value}(h:kCk.K w x cs):cs=[.int .u64 x.1,.int .i64 x.2.1,.int .i64 x.2.2]:=by
 obtain⟨_,_,rfl,rfl,⟨_,_,rfl,rfl,rfl⟩⟩:=h;exact rfl
def RCk(W:World)(b:Nat)(v:Value)(xs:List Ck):Prop:=kCk.R 147 W b (fun _=>True) v xs
def IsK(W:World)(g:Nat)(K:KS):Prop:=W.heap[g]? = some (.cells #[.int .i64 K.1,.int .u64 K.2.1,.int .i64 K.2.2.1,.int .i64 K.2.2.2] 207 (0,0))
def KT(W W':World):Prop:=∀(k:Nat) (cs:Array Value) (t:TypeId),W.heap[k]? = some (.cells cs t (0,0))→t≠207→t≠147→W'.heap[k]? = some (.cells cs t (0,0))
theorem KT.refl(W:World):KT W W:=fun _ _ _ h _ _=>h
theorem KT.trans{a b c:World}(h:KT a b)(k:KT b c):KT a c:=fun _ _ _ h1 h2 h3=>k _ _ _ (h _ _ _ h1 h2 h3) h2 h3
theorem KT.below{W W':World}(h:Below W.heap.size W W'):KT W W':=fun _ _ _ h1 _ _=>Qel h1 h
theorem KT.set{W:World}{g:Nat}{cs:Array Value}(hg:W.heap[g]? = some (.cells cs 207 (0,0)))(j:Nat)(u:Value):KT W (W.setCell ⟨g,j,none⟩ u):=fun k cs' t h1 h2 _=>Qdu h1 (p:=⟨g,j,none⟩) (Qdz h1 hg h2) u
theorem KT.grown{W W':World}{b:Nat}{v:Value}{xs:List Ck}(hR:RCk W b v xs)(hg:W.grownBy W' v.ownBlock):KT W W':=fun k cs t h1 _ h3=>Qdy h1 hg (Kd.R_ne hR h1 (fun e=>h3 e.symm))
theorem IsK.cells{W:World}{g:Nat}{K:KS}(h:IsK W g K):(W.cell? ⟨g,0,none⟩=some (.int .i64 K.1)∧W.cell? ⟨g,1,none⟩=some (.int .u64 K.2.1)∧W.cell? ⟨g,2,none⟩=some (.int .i64 K.2.2.1)∧W.cell? ⟨g,3,none⟩=some (.int .i64 K.2.2.2))∧W.frozen? ⟨g,1,none⟩=false∧W.frozen? ⟨g,2,none⟩=false∧W.frozen? ⟨g,3,none⟩=false :=
 ⟨⟨(Qdw h 0).trans rfl,(Qdw h 1).trans rfl,(Qdw h 2).trans rfl,(Qdw h 3).trans rfl⟩,Qdx h 1,Qdx h 2,Qdx h 3⟩
theorem info_ck:(Tryz.prog.info? 147).map (fun i=>(i.zero,i.size,i.bytes))=some (some (.agg #[.int .u64 0,.int .i64 0,.int .i64 0]),3,24):=by kernel_rfl
structure KSt (w W:World) (b g:Nat) (K:KS) (out:List Ck) (v:Value):Prop where
  k:IsK W g K
  row:RCk W b v out
  low:Below b w W
  kt:KT w W
  bg:b≤g
theorem KSt.drewn{w W W':World}{b g:Nat}{K:KS}{out:List Ck}{v:Value}(h:KSt w W b g K out v)(hb:Below W.heap.size W W')(hbw:b≤W.heap.size):KSt w W' b g K out v :=
 ⟨Qel h.k hb,Kd.R_below h.row hb,h.low.trans (Qkg hb hbw),h.kt.trans (KT.below hb),h.bg⟩
theorem KSt.set{w W:World}{b g:Nat}{K K':KS}{out:List Ck}{v:Value}(h:KSt w W b g K out v)(j:Nat)(u:Value)(hk:IsK (W.setCell ⟨g,j,none⟩ u) g K'):KSt w (W.setCell ⟨g,j,none⟩ u) b g K' out v :=
 ⟨hk,Kd.R_set h.row h.k (by decide) j u,Qkf h.low h.bg,h.kt.trans (KT.set h.k j u),h.bg⟩
theorem KSt.app{w W W1:World}{b g:Nat}{K:KS}{out out1:List Ck}{v v1:Value}(h:KSt w W b g K out v)(hR:RCk W1 b v1 out1)(hb:Below b W W1)(hg:W.grownBy W1 v.ownBlock):KSt w W1 b g K out1 v1 :=
 ⟨Qdy h.k hg (Kd.R_ne h.row h.k (by decide)),hR,h.low.trans hb,h.kt.trans (KT.grown h.row hg),h.bg⟩
theorem cut_one(b g:Nat)(sz sg at_ fr x:Int)(out:List Ck)(v:Value)(w:World)(hS:KSt w w b g (sz,sg,at_,fr) out v)(hbw:b≤w.heap.size)(hat:0≤at_∧at_≤1000000000000)(hsg:0≤sg∧sg<18446744073709551616)(hl:out.length≤1000000000000) :
  Calls Tryz.prog 127 #[.pointer (some ⟨g,0,none⟩),.int .u8 x,v] w fun e w'=>∃v',e=.returned v'∧KSt w w' b g (cutN (sz,sg,at_,fr) x) (out++cutO (sz,sg,at_,fr) x) v':=by
 have hu:=Tryz.underlying207;have hw1:IntKind.i64.wrap (at_+1)=at_+1:=IntWalk.i64_in _ (by omega);have hw2:IntKind.u64.wrap (sg+1)=(sg+1)%18446744073709551616:=by rw[IntKind.wrap_u64]
 obtain⟨A,c,hv⟩:=Kd.R_slice hS.row;subst hv;have HS:=QA hS;clear hS
 go_enter Tryz.func127,Tryz.ntmps127
 go_upto_if 8 with fail
 go_cut [2] (fun v2 w'=>∃f,f=(if x=0 then at_+1 else fr)∧KSt w w' b g (sz,sg,at_,f) (out++cutO (sz,sg,at_,fr) x) v2∧b≤w'.heap.size)
 case first =>
  by_cases hx:x=0
  ·subst hx;obtain⟨⟨c0,c1,c2,c3⟩,f1,f2,f3⟩:=HS.out.k.cells;have d1:w.drew.cell? ⟨g,1,none⟩=some (.int .u64 sg):=c1;have d2:w.drew.cell? ⟨g,2,none⟩=some (.int .i64 at_):=c2;have d3:w.drew.cell? ⟨g,3,none⟩=some (.int .i64 fr):=c3;have HSd:=QA (HS.out.drewn (Qcy (Below.refl _ _)) hbw);clear c0 f1 f2 f3
   go_upto_region 2 with fail
   go_region_law (first
    |(refine Kd.R_append_step kCk (w0:=w.drew) b (by rfl) (.tmp 9) (.tmp 23) 145 147 (.agg #[.int .u64 0,.int .i64 0,.int .i64 0]) 24 rfl Tryz.underlying145 info_ck rfl (by decide) (by omega) (.slice A out.length c) out (sg,fr,at_) [.int .u64 sg,.int .i64 fr,.int .i64 at_] (fun _=>True) (fun _=>False) rfl ?ax ?aP (fun _ hk=>hk.elim) (fun _ _=>trivial) ?aO (Below.refl _ _) ?aS ?aL ?_;(case ax=>rfl);(case aP=>exact kCk_mkM _ _ _ (sg,fr,at_));(case aO=>exact HSd.out.row);(case aS=>exact hbw);(case aL=>omega);intro v3 w3 d hb3 h hat3;have HS3:=QA (HSd.out.app d hb3 h);obtain⟨⟨e0,e1,e2,e3⟩,g1,g2,g3⟩:=HS3.out.k.cells;have HZ3:=QA (show b≤w3.heap.size from Nat.le_trans hbw hb3.size);clear d hb3 h hat3))
   all_goals
    go_wp2
    go_meet
    case rel=>exact⟨at_+1,by simp,by(have:=HS3.out.set (K':=(sz,sg,at_,at_+1)) 3 (.int .i64 (at_+1)) (Qdt HS3.out.k 3 _));exact this,by simpa [World.setCell]using HZ3.out⟩
  ·have hxb:(x == 0)=false:=beq_eq_false_iff_ne.2 hx;go_wp2
   go_meet
   case rel=>exact⟨fr,by rw[if_neg hx],by unfold cutO;rw[if_neg hx,List.append_nil];exact HS.out,hbw⟩
 case rest =>
  obtain⟨f,hf,hS2,hbw2⟩:=hcut;obtain⟨A2,c2,hv2⟩:=Kd.R_slice hS2.row;subst hv2;have HF:=QA hf;have HS2:=QA hS2;have HO:=QA (rfl:out++cutO (sz,sg,at_,fr) x=out++cutO (sz,sg,at_,fr) x);clear hf hS2;obtain⟨⟨c0,c1,j,c3⟩,f1,f2,f3⟩:=HS2.out.k.cells;obtain⟨o2,a⟩:∃o2,o2=out++cutO (sz,sg,at_,fr) x:=⟨_,rfl⟩;rw[← a]at HS2 ⊢;have l:=QA a;clear a HO;have s1:=HS2.out.set (K':=(sz,sg,at_+1,f)) 2 (.int .i64 (at_+1)) (Qdt HS2.out.k 2 _);have hbs:b≤(wc.setCell ⟨g,2,none⟩ (.int .i64 (at_+1))).heap.size:=by simpa [World.setCell]using hbw2
  go_upto_region 5 with fail
  obtain⟨W1,hW1⟩:∃W1,W1=wc.setCell ⟨g,2,none⟩ (.int .i64 (at_+1)):=⟨_,rfl⟩;rw[← hW1]at s1 hbs ⊢;clear hW1 c0 c1 j c3 f1 f2 f3;have S1:=QA (s1.drewn (Qcy (Below.refl _ _)) hbs);obtain⟨⟨c0,c1,j,c3⟩,f1,f2,f3⟩:=s1.k.cells;obtain⟨⟨d0,d1,d2,d3⟩,e1,e2,e3⟩:=S1.out.k.cells;clear s1
  by_cases hq:at_+1=sz
  ·have hqb:(at_+1 == sz)=true:=beq_iff_eq.2 hq;have t1:=S1.out.set (K':=(sz,(sg+1)%18446744073709551616,at_+1,f)) 1 (.int .u64 ((sg+1)%18446744073709551616)) (Qdt S1.out.k 1 _);have t2:=t1.set (K':=(sz,(sg+1)%18446744073709551616,0,f)) 2 (.int .i64 0) (Qdt t1.k 2 _);have t3:=t2.set (K':=(sz,(sg+1)%18446744073709551616,0,0)) 3 (.int .i64 0) (Qdt t2.k 3 _);have T3:=QA t3;obtain⟨⟨p0,p1,p2,p3⟩,q1,q2,q3⟩:=t1.k.cells;obtain⟨⟨r0,r1,r2,r3⟩,u1,u2,u3⟩:=t2.k.cells;clear t1 t2 t3
   go_region
   all_goals
    go_wp2;go_ret
    refine⟨_,rfl,?_⟩;rw[← l.out];unfold cutN;rw[if_pos hq];exact T3.out
  ·have hqb:(at_+1 == sz)=false:=beq_eq_false_iff_ne.2 hq
   go_region
   all_goals
    go_wp2;go_ret
    refine⟨_,rfl,?_⟩;rw[← l.out];unfold cutN cutF;rw[if_neg hq];dsimp only;rw[← HF.out];exact S1.out
theorem cutN_at{K:KS}{x:Int}{m:Int}(h:0≤K.2.2.1∧K.2.2.1≤m)(hs:0≤K.2.1∧K.2.1<18446744073709551616):(0≤(cutN K x).2.2.1∧(cutN K x).2.2.1≤m+1)∧0≤(cutN K x).2.1∧(cutN K x).2.1<18446744073709551616:=by
 unfold cutN cutF;split
 ·dsimp only;omega
 ·dsimp only;omega
theorem Qqf(K:KS)(x:Int):(cutO K x).length≤1:=by
 unfold cutO;split<;>simp
theorem Qqg(b g:Nat)(K:KS)(A:Option Addr)(c:Nat)(l:List Int)(w:World)(hK:IsK w g K)(hbg:b≤g)(hbw:b≤w.heap.size)(hC:∀W,Below b w W→Kd.C (Kd.int .u8) W A l.length l)(hl:l.length≤1000000)(hat:0≤K.2.2.1∧K.2.2.1≤1000000000)(hsg:0≤K.2.1∧K.2.1<18446744073709551616) :
  Calls Tryz.prog 74 #[.pointer (some ⟨g,0,none⟩),.slice A l.length c] w fun e w'=>∃v',e=.returned v'∧KSt w w' b g (cutA K l).2 (cutA K l).1 v':=by
 have HC:=QA hC;have HS:=QA (show KSt w w b g K [] (.slice none 0 0) from⟨hK,Kd.R_nil _ _ _ _ _,Below.refl _ _,KT.refl _,hbg⟩);have HAT:=QA (And.intro hat hsg);obtain⟨R,hR⟩:∃R,R=cutA K l:=⟨_,rfl⟩;rw[← hR];have HR:=QA hR;clear hC hK hat hsg hR
 go_enter Tryz.func74,Tryz.ntmps74
 go_wp2_with fail
 go_loopw [5,7,10] (fun v5 v7 a wr=>∃(i:Nat) (iv:Int) (K':KS) (out:List Ck),a=.int .i64 iv∧i≤l.length∧Aside0 (iv=(i:Int))∧Aside0 (R=(out++(cutA K' (l.drop i)).1,(cutA K' (l.drop i)).2))∧Aside0 ((0≤K'.2.2.1∧K'.2.2.1≤1000000000+(i:Int))∧(0≤K'.2.1∧K'.2.1<18446744073709551616)∧out.length≤i)∧Aside0 (KSt w wr b g K' out v5))
  (fun _ _ a _=>l.length-(intOf a).toNat)
 case atStart=>exact⟨0,0,K,[],rfl,Nat.zero_le _,⟨rfl⟩,⟨by rw[HR.out,List.drop_zero,List.nil_append]⟩,⟨by have:=HAT.out;exact⟨by omega,this.2,Nat.zero_le _⟩⟩,HS⟩
 case round =>
  clear HS HAT HR;obtain⟨i,iv,K',out,rfl,hi,HI,HA,HB,HSr⟩:=hrel
  by_cases hlt:i<l.length
  ·have hge:0≤iv:=by have:=HI.out;omega
   have hl2:iv<(l.length:Int):=by have:=HI.out;omega
   have hwi:IntKind.i64.wrap (iv+1)=iv+1:=IntWalk.i64_in _ (by omega);obtain⟨ad,hA3,d⟩:=Kd.at_int (HC.out _ HSr.out.low) iv hge hl2;obtain⟨x,hx⟩:∃x,x=YteaocbonofboeaaGreatW.PrintWords.rd l iv:=⟨_,rfl⟩;rw[← hx]at d;have HX:=QA hx;have HAD:=QA hA3;clear hx hA3;obtain⟨sz,sg,at_,fr⟩:=K';have hA4:=HAD.out;subst hA4
   go_wp2_with (go_at_call 127;refine(cut_one b g sz sg at_ fr x out _ _ ⟨HSr.out.k,HSr.out.row,Below.refl _ _,KT.refl _,HSr.out.bg⟩ (Nat.le_trans hbw HSr.out.low.size) (by have:=HB.out.1;dsimp only at this;omega) (by have:=HB.out.2.1;exact this) (by have:=HB.out.2.2;omega)).mono ?_;rintro ee w2 ⟨v2,rfl,h2⟩;have HS2:=QA (show KSt w w2 b g (cutN (sz,sg,at_,fr) x) (out++cutO (sz,sg,at_,fr) x) v2 from⟨h2.k,h2.row,HSr.out.low.trans h2.low,HSr.out.kt.trans h2.kt,h2.bg⟩);clear h2)
   go_roundw
   case rel =>
    refine⟨i+1,iv+1,cutN (sz,sg,at_,fr) x,out++cutO (sz,sg,at_,fr) x,rfl,hlt,⟨by have:=HI.out;omega⟩,⟨?_⟩,⟨?_⟩,HS2⟩
    ·have e1:iv=(i:Int):=HI.out;have e2:l.drop i=x :: l.drop (i+1):=by
      rw[HX.out,e1,List.drop_eq_getElem_cons hlt];simp[YteaocbonofboeaaGreatW.PrintWords.rd,List.getD_eq_getElem?_getD,List.getElem?_eq_getElem hlt]
     rw[HA.out,e2];simp only[cutA,List.append_assoc]
    ·have h3:=cutN_at (K:=(sz,sg,at_,fr)) (x:=x) HB.out.1 HB.out.2.1;have h4:=Qqf (sz,sg,at_,fr) x;have h5:=HB.out.2.2;refine⟨by have:=h3.1;omega,h3.2,by rw[List.length_append];omega⟩
   case measure=>have:=HI.out;simp[intOf];omega
  ·obtain rfl:i=l.length:=by omega
   have e1:iv=_:=HI.out;subst e1;have hA:=HA.out;rw[List.drop_of_length_le (Nat.le_refl _)]at hA;have HA2:=QA hA;clear hA HA;go_wp2;go_ret
   refine⟨_,rfl,?_⟩;rw[HA2.out];simp only[cutA,List.append_nil];exact HSr.out
end Go.Proofs.YteaocbonofboeaaGreat.C
end
