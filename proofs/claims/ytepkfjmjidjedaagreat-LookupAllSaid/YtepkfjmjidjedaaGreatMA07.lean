/- Merged texts. -/
import Derived.Test.YtepkfjmjidjedaaGreatMA02
import Derived.Lib.MakeNoZero
import Derived.Laws.CopyOwn
import Derived.Laws.MathBits
import Derived.Deep.RegionLaw
import Derived.Test.YtepkfjmjidjedaaGreatMA03
import Derived.WalkLawsBesides
import Derived.Recover
import Derived.Test.YtepkfjmjidjedaaGreatMA06
import Derived.Test.YtepkfjmjidjedaaGreatMA05
import Derived.LaidEqlPtr
import Derived.Defers
set_option linter.unusedVariables false
set_option linter.unusedSimpArgs false
set_option maxHeartbeats 8000000
set_option maxRecDepth 100000
section
namespace Go.Proofs.YtepkfjmjidjedaaGreat.C
open Go.RowKit Go.Proofs.YtepkfjmjidjedaaGreatW.PrintWords Go.Proofs.YtepkfjmjidjedaaGreatW.PrintLast Go.Proofs.YtepkfjmjidjedaaGreatW.PrintMore
theorem Qli(n:Int)(h0:0≤n)(h1:n≤140737488355328):Qaa.f 1 n=some (0,n):=by
 have e1:Go.bits .and .u64 1 4294967295=1:=by rw[and_low32 _ (by omega) (by omega)];rfl
 have e2:Go.bits .and .u64 n 4294967295=n%4294967296:=and_low32 _ (by omega) (by omega);have e3:∀x:Int,0≤x→x≤18446744073709551615→IntKind.u64.wrap x=x:=fun x a b=>IntWalk.u64_in x ⟨a,b⟩
 unfold Qaa.f Qab.f;rw[e1,e2];have d1:(1:Int)/4294967296=0:=by decide
 have m0:0≤n%4294967296:=by omega
 have m1:n%4294967296<4294967296:=by omega
 have q0:0≤n/4294967296:=by omega
 have q1:n/4294967296<4294967296:=by omega
 have d2:(n%4294967296)/4294967296=0:=by omega
 have d3:(n/4294967296)/4294967296=0:=by omega
 have z3:IntKind.u64.wrap 0=0:=e3 0 (by omega) (by omega);have zb:Go.bits .and .u64 0 4294967295=0:=by rw[and_low32 _ (by omega) (by omega)];rfl
 simp only[d1,Int.zero_mul,Int.one_mul,z3,e3 _ m0 (by omega),d2,Int.add_zero,Int.zero_add,Int.zero_ediv,zb,e3 _ q0 (by omega),d3,e3 _ h0 (by omega),Option.bind_some]
attribute [local go_sem] Qho Qhp Qhq Qhr
def Fill(w wr:World)(g n bp:Nat)(x:Int):Prop :=
 ∃cur:List Value,wr.heap[g]? = some (.cells cur.toArray 5 (0,0))∧n≤cur.length∧(∀j,j<bp→cur[j]? = some (.int .u8 x))∧Below w.heap.size w wr∧w.heap.size≤g
theorem Fill.splice{w w1:World}{g n bp k:Nat}{x:Int}{cur:List Value}(hc:∀j,j<bp→cur[j]? = some (.int .u8 x))(hl:n≤cur.length)(hbk:bp+k≤n)(hg:w1.heap[g]? = some (.cells (splice cur bp (List.replicate k (.int .u8 x))).toArray 5 (0,0)))(hB:Below w.heap.size w w1)(hle:w.heap.size≤g):Fill w w1 g n (bp+k) x:=by
 refine⟨_,hg,?_,?_,hB,hle⟩
 ·rw[length_splice _ _ _ qq_27];exact hl
 ·intro j hj;unfold Go.splice
  by_cases h1:j<bp
  ·rw[List.getElem?_append_left qq_27,List.getElem?_take_of_lt h1];exact hc j h1
  ·rw[List.getElem?_append_right qq_27,List.length_take,Nat.min_eq_left (by omega),List.getElem?_append_left qq_27];simp[List.getElem?_replicate];omega
theorem Qlj (A0:Option Addr) (c0:Nat) (x:Int) (n:Nat) (w:World) (p:0<n) (hn:n≤140737488355328) (hr0:Kd.C (Kd.int .u8) w A0 1 [x]) :
    Calls Tryz.prog 150 #[.slice A0 1 c0,.int .i64 n] w fun e w'=>∃g,e=.returned (.slice (some ⟨g,0,none⟩) n n)∧Fill w w' g n n x:=by
  have hmul:=Qli n (by omega) (by omega);obtain⟨ad,c,rfl,_,hK,hcell0⟩:=Kd.C_get hr0 0 0 (by omega) (by omega);have hK':c=[.int .u8 x]:=hK;subst hK';have hcell:=hcell0 0 _ rfl;clear hcell0 hK;have n0:(0:Int)<(n:Int):=by omega
  have n1:(n:Int)≤140737488355328:=by omega
  go_enter Tryz.func150,Tryz.ntmps150
  have hsz1:(Tryz.prog.info? 5).map (·.size)=some 1:=by kernel_rfl
  obtain⟨g,hg⟩:∃g,g=w.heap.size:=⟨_,rfl⟩
  go_wp2_with (go_at_call 208;refine(Qaa.calls 1 n 0 n w hmul).mono ?_;rintro e w' ⟨rfl,hd⟩;obtain⟨q,rfl⟩:=hd.out;clear hd;fail)
  go_at_call 208
  refine(Qaa.calls 1 n 0 n w hmul).mono ?_;rintro e w' ⟨rfl,hd⟩;obtain⟨q,rfl⟩:=hd.out;clear hd;obtain⟨cs,hrunM,hle,hmx⟩:=Lib.run_makeNoZero (P:=Tryz.prog) (w.drewN q) #[3] 47 5 Tryz.underlying47 n (by omega);have hcall:(callFunc 209 #[.int .i64 (n:Int)]).run Tryz.prog (w.drewN q)=.ok (.value (.slice (some ⟨w.heap.size,0,none⟩) n cs.size)) ((w.alloc (.cells cs 5)).drewN (q+2)):=by
    rw[run_callFunc_extern Tryz.func209 qq_5 qq_5 qq_5 (e:=Extern.BytealgMakeNoZero.makeNoZero #[3] #[47]) qq_5,hrunM];rfl
  clear hrunM hmx;have i1:(n:Int)≤(cs.size:Int):=by omega
  have hcell':((w.alloc (.cells cs 5)).drewN (q+2)).cell? (ad.add 0)=some (.int .u8 x):=by
    rw[World.cell?_drewN];exact(((Below.refl _ w).alloc (Nat.le_refl _) _).cell (World.block_lt_of_cell? w _ hcell)).trans hcell
  obtain⟨W0,hW0⟩:∃W0,((w.alloc (.cells cs 5)).drewN (q+2))=W0:=⟨_,rfl⟩;have hh0:W0.heap[g]? = some (.cells cs.toList.toArray 5 (0,0)):=by rw[← hW0,hg];simpa using heap_alloc_new w (.cells cs 5)
  have hb0:Below w.heap.size w W0:=by rw[← hW0];exact Qck ((Below.refl _ w).alloc (Nat.le_refl _) _) _
  rw[hW0]at hcall hcell';clear hW0;have HG:=QA hg;rw[← hg]at hcall;clear hg
  by_cases hbig:8192<(n:Int)
  all_goals
    go_wp2_with (refine wpList_copy_splice rfl (.tmp 58) (.tmp 59) 47 47 ?ho 5 Tryz.underlying47 hsz1 (some ⟨g,0,none⟩) (some ad) n n 1 c0 ?hd ?hs g 0 cs.toList 5 hh0 [.int .u8 x] ?hn ?hpos ?hfit ?h1 w.heap.size w hb0 ?hBg ?_;(case ho=>rfl);(case hd=>rfl);(case hs=>rfl);(case hn=>simp[Nat.min_def];omega);(case hpos=>intro _;refine⟨rfl,ad,rfl,fun j v hj=>?_⟩;cases j with|zero=>(simp at hj;subst hj;exact hcell')|succ j=>(simp at hj));(case hfit=>simp;omega);(case h1=>intro v hv;simp at hv;subst hv;rfl);(case hBg=>rw[HG.out];exact Nat.le_refl _);intro w1 HG1 hb1)
    have b:Fill w w1 g n (0+1) x:=Fill.splice (cur:=cs.toList) (bp:=0) (k:=1) (by intro j hj;omega) (by simpa using hle) (by omega) HG1.out hb1 (by rw[HG.out];exact Nat.le_refl _);clear HG1 hb1
    go_loopw [10] (fun a wr=>∃(bp:Nat),1≤bp∧bp≤n∧a=.int .i64 (bp:Int)∧Aside0 (Fill w wr g n bp x)) (fun a _=>n-(intOf a).toNat)
    case atStart=>exact⟨1,Nat.le_refl _,by omega,rfl,⟨b⟩⟩
    case round =>
      clear b;obtain⟨bp,hb1,hb2,rfl,HF⟩:=hrel
      by_cases hlt:bp<n
      · by_cases c8:8192<(bp:Int)
        all_goals first |(exfalso;omega)|skip
        all_goals
         obtain⟨ch,hch1,hch2,hcb⟩:∃ch:Nat,1≤ch∧ch≤bp∧((8192<(n:Int)→8192<(bp:Int)→ch=8192)∧(¬8192<(bp:Int)→ch=bp)∧(¬8192<(n:Int)→ch=bp)):=by
          by_cases c:8192<(n:Int)∧8192<(bp:Int)
          · exact⟨8192,by omega,by omega,fun _ _=>rfl,by omega,by omega⟩
          · exact⟨bp,by omega,by omega,by omega,by omega,by omega⟩
         have e3:(if 8192<(bp:Int)then(8192:Int)else(bp:Int))≤(n:Int):=by split<;>omega
         first|rw[if_pos c8]at e3|rw[if_neg c8]at e3
         have HCB:=QA hcb;clear hcb;obtain⟨cur,hcur,hcl,hcx,hB,hle2⟩:=HF.out;obtain⟨kk,hkk⟩:∃kk,kk=Nat.min ch (n-bp):=⟨_,rfl⟩;have hk1:1≤kk∧kk≤ch∧kk≤n-bp:=by
           have h1:kk≤ch:=by rw[hkk];exact Nat.min_le_left _ _
           have h2:kk≤n-bp:=by rw[hkk];exact Nat.min_le_right _ _
           have h3:1≤kk:=by rw[hkk];exact Nat.le_min.2 ⟨hch1,by omega⟩
           exact⟨h3,h1,h2⟩
         have HKK:=QA hkk;clear hkk;have hcells:∀j,j<ch→wr.cell? ⟨g,j,none⟩=some (.int .u8 x):=by
           intro j hj;have:=hcx j (by omega);simp[World.cell?,hcur,this]
         have HCELLS:=QA hcells;have HCUR:=QA hcur;have HCX:=QA hcx;have HCL:=QA hcl;have HB:=QA hB;have HLE:=QA hle2;clear hcells hcur hcx hcl hB hle2 HF;have e1:(bp:Int)<(n:Int):=by omega
         have e2:(ch:Int)≤(n:Int):=by omega
         have d:=QA (show(List.replicate kk (Value.int .u8 x)).length=Nat.min ch (n-bp)by rw[List.length_replicate];exact HKK.out);have h:=QA (show ∀j v,(List.replicate kk (Value.int .u8 x))[j]? = some v→wr.cell? ((⟨g,0,none⟩:Addr).add j)=some v by
           intro j v hj;rw[List.getElem?_replicate]at hj;split at hj
           · injection hj with hj
             subst hj;rw[Qcn];exact HCELLS.out j (by omega)
           · cases hj)
         have l:=QA (show bp+(List.replicate kk (Value.int .u8 x)).length≤cur.length by rw[List.length_replicate];have:=HCL.out;omega);have m:=QA (show ∀v∈List.replicate kk (Value.int .u8 x),v.oneCell'=true by intro v hv;rw[(List.mem_replicate.1 hv).2];rfl)
         go_wp2_with fail
         go_region_law (refine step_copy_splice rfl (.tmp 70) (.tmp 73) 47 47 rfl 5 Tryz.underlying47 hsz1 (some ⟨g,bp,none⟩) (some ⟨g,0,none⟩) (n-bp) (n-bp) ch n (by(try simp[Act.eval,Act.put])<;>omega) (by(try simp[Act.eval,Act.put])<;>(have:=HCB.out;omega)) g bp cur 5 HCUR.out (List.replicate kk (.int .u8 x)) d.out (fun _=>⟨rfl,_,rfl,h.out⟩) l.out m.out w.heap.size w (by first|exact HB.out|exact Qcj HB.out) HLE.out ?_;intro w4 HG4 hb4)
         have o:Fill w w4 g n (bp+kk) x:=Fill.splice HCX.out HCL.out (by omega) HG4.out hb4 HLE.out;clear HG4 hb4;go_wp2
         go_roundw
         case rel=>exact⟨bp+kk,by omega,by omega,by rw[IntWalk.i64_in _ (by omega)];go_num,⟨o⟩⟩
         case measure=>simp[intOf,IntWalk.i64_in ((bp:Int)+(kk:Int)) (by omega)];omega
      · obtain rfl:bp=n:=by omega
        go_wp2;go_ret
        exact⟨g,rfl,HF.out⟩
theorem Qlk{w w':World}{g n:Nat}{x:Int}(h:Fill w w' g n n x)(hn:n≤9223372036854775807):Kd.C (Kd.int .u8) w' (some ⟨g,0,none⟩) n (List.replicate n x):=by
 obtain⟨cur,h1,h2,h3,h4,h5⟩:=h;refine Kd.C_of_reads (d:=(0:Int)) ⟨List.length_replicate,hn,fun _=>⟨_,rfl,fun j hj=>?_⟩⟩;rw[Qcn,Qdf h1];simp[h3 j hj,List.getD_eq_getElem?_getD,List.getElem?_replicate,hj]
theorem Qll(A0:Option Addr)(c0:Nat)(x:Int)(n:Nat)(w:World)(hn:n≤140737488355328)(hr0:Kd.C (Kd.int .u8) w A0 1 [x]) :
  Calls Tryz.prog 150 #[.slice A0 1 c0,.int .i64 n] w fun e w'=>∃A c,e=.returned (.slice A n c)∧n≤c∧Kd.C (Kd.int .u8) w' A n (List.replicate n x)∧Below w.heap.size w w':=by
 rcases Nat.eq_zero_or_pos n with rfl|hp
 ·go_enter Tryz.func150,Tryz.ntmps150
  go_wp2;go_ret
  exact⟨_,_,rfl,Nat.le_refl _,⟨rfl,by omega,fun h=>absurd h (by omega)⟩,Qci (Below.refl _ _) _⟩
 ·refine(Qlj A0 c0 x n w hp hn hr0).mono ?_;rintro e w' ⟨g,rfl,hF⟩;refine⟨_,_,rfl,Nat.le_refl _,Qlk hF (by omega),?_⟩;obtain⟨cur,h1,h2,h3,h4,h5⟩:=hF;exact h4
def IsCur(W:World)(b g:Nat)(bs:List Int)(i:Int):Prop:=∃v,W.heap[g]? = some (.cells #[v,.int .i64 i,.bool true] 315 (0,0))∧R8 W b v bs
def Qlq(g:Nat)(e:Int):PanicEntry:={ v:=.iface 317 (.agg #[.pointer (some ⟨g,0,none⟩),.int .i64 e]),recovered:=false }
theorem IsCur.kept{W W':World}{b g:Nat}{bs:List Int}{i:Int}(h:IsCur W b g bs i)(hb:Below W.heap.size W W'):IsCur W' b g bs i:=by
 obtain⟨v,h1,h2⟩:=h;exact⟨v,Qds h1 hb,h2.kept hb⟩
theorem IsCur.lt{W:World}{b g:Nat}{bs:List Int}{i:Int}(h:IsCur W b g bs i):g<W.heap.size:=by
 obtain⟨v,h1,h2⟩:=h;exact Qde h1
theorem IsCur.cells{W:World}{b g:Nat}{bs:List Int}{i:Int}(h:IsCur W b g bs i):∃A c,W.cell? ⟨g,0,none⟩=some (.slice A bs.length c)∧W.cell? ⟨g,1,none⟩=some (.int .i64 i)∧W.cell? ⟨g,2,none⟩=some (.bool true)∧W.frozen? ⟨g,1,none⟩=false∧Kd.C (Kd.int .u8) W A bs.length bs∧bs.length≤c:=by
 obtain⟨v,h1,h2⟩:=h;obtain⟨A,c,rfl⟩:=Kd.R_slice h2;exact⟨A,c,(Qdf h1 0).trans rfl,(Qdf h1 1).trans rfl,(Qdf h1 2).trans rfl,Qdg h1 1,(Kd.R_reads' h2).2.2,(Kd.R_reads' h2).2.1⟩
theorem IsCur.move{W:World}{b g:Nat}{bs:List Int}{i:Int}(h:IsCur W b g bs i)(hbg:b≤g)(j:Int):IsCur (W.setCell ⟨g,1,none⟩ (.int .i64 j)) b g bs j∧Bw b g W (W.setCell ⟨g,1,none⟩ (.int .i64 j)):=by
 obtain⟨v,h1,h2⟩:=h;exact⟨⟨v,Qdc h1 1 _,h2.set h1 (by decide) 1 _⟩,Qir (Below.refl _ _) hbg,fun k cs t h3 h4 h5=>Qdd h3 h5 _⟩
theorem Qlr(b g:Nat)(bs:List Int)(i:Int)(w:World)(hI:IsCur w b g bs i) :
  Calls Tryz.prog 219 #[.pointer (some ⟨g,0,none⟩)] w fun e w'=>e=.returned (.bool false)∧w'=w:=by
 obtain⟨A,c,h0,h1,h2,h3,h4,h5⟩:=hI.cells;clear hI;have hu:=Tryz.underlying315
 go_enter Tryz.func219,Tryz.ntmps219
 go_wp2;go_ret
 exact⟨rfl,rfl⟩
theorem Qls(b g:Nat)(bs:List Int)(i er:Int)(he:er≠0)(w:World)(hI:IsCur w b g bs i) :
  Calls Tryz.prog 220 #[.pointer (some ⟨g,0,none⟩),.int .i64 er] w fun e w'=>e=.panicked [Qlq g er]∧w'=w:=by
 have HI:=QA hI;clear hI;have hu:=Tryz.underlying315;have hne:(er != 0)=true:=bne_iff_ne.2 he
 go_enter Tryz.func220,Tryz.ntmps220
 go_wp2_with (go_at_call 219;refine(Qlr b g bs i _ HI.out).mono ?_;rintro ee wa ⟨rfl,rfl⟩)
 exact⟨rfl,rfl,rfl⟩
theorem Qlt(b g:Nat)(bs:List Int)(i n:Int)(hn:0<n)(hi:0≤i∧i≤bs.length)(hl:bs.length≤140737488355328)(hs:(bs.length:Int)-i<n)(w:World)(hI:IsCur w b g bs i) :
  Calls Tryz.prog 223 #[.pointer (some ⟨g,0,none⟩),.int .i64 n] w fun e w'=>e=.panicked [Qlq g 2]∧Below w.heap.size w w':=by
 have HI:=QA hI;obtain⟨A,c,h0,h1,h2,h3,h4,h5⟩:=hI.cells;clear hI h4;have hu:=Tryz.underlying315;have hb0:decide (n≤0)=false:=decide_eq_false (by omega);have hw1:IntKind.i64.wrap ((bs.length:Int)-i)=(bs.length:Int)-i:=IntWalk.i64_in _ (by omega);have hb1:decide ((bs.length:Int)-i<n)=true:=decide_eq_true hs
 go_enter Tryz.func223,Tryz.ntmps223
 go_upto_region 3 with(go_at_call 219;refine(Qlr b g bs i _ HI.out).mono ?_;rintro ee wa ⟨rfl,rfl⟩)
 have q0:=Qcm (Qcj (Below.refl _ _)) h0;have q1:=Qcm (Qcj (Below.refl _ _)) h1
 go_region
 go_wp2_with (go_at_call 220;refine(Qls b g bs i 2 (by decide) _ (HI.out.kept (Qcj (Below.refl _ _)))).mono ?_;rintro ee wa ⟨rfl,rfl⟩)
 exact⟨rfl,rfl,Qcj (Below.refl _ _)⟩
theorem Qlu(b g:Nat)(bs:List Int)(i n:Int)(hn:n≤0)(w:World)(hI:IsCur w b g bs i) :
  Calls Tryz.prog 223 #[.pointer (some ⟨g,0,none⟩),.int .i64 n] w fun e w'=>e=.returned (.slice none 0 0)∧w'=w:=by
 have HI:=QA hI;clear hI;have hb0:decide (n≤0)=true:=decide_eq_true hn
 go_enter Tryz.func223,Tryz.ntmps223
 go_wp2_with (go_at_call 219;refine(Qlr b g bs i _ HI.out).mono ?_;rintro ee wa ⟨rfl,rfl⟩)
 go_ret
 exact⟨rfl,rfl⟩
def K8(w w':World):Prop:=∀(b:Nat) (v:Value) (ys:List Int),R8 w b v ys→R8 w' b v ys
theorem K8.move{W:World}{b g:Nat}{bs:List Int}{i:Int}(h:IsCur W b g bs i)(j:Int){w':World}(hb:Below W.heap.size (W.setCell ⟨g,1,none⟩ (.int .i64 j)) w'):K8 W w':=by
 intro b' v' ys hR;obtain⟨v,h1,_⟩:=h;exact R8.kept (R8.set hR h1 (by decide) 1 _) (by simpa [World.setCell]using hb)
theorem Qlv(b g:Nat)(bs xs:List Int)(i n:Int)(hxs:xs=(bs.drop i.toNat).take n.toNat)(hn:0<n)(hi:0≤i)(hl:bs.length≤140737488355328)(hs:i+n≤(bs.length:Int))(hbg:b≤g)(w:World)(hbw:b≤w.heap.size)(hI:IsCur w b g bs i) :
  Calls Tryz.prog 223 #[.pointer (some ⟨g,0,none⟩),.int .i64 n] w fun e w'=>∃v,e=.returned v∧R8 w' w.heap.size v xs∧IsCur w' b g bs (i+n)∧Bw b g w w'∧K8 w w':=by
 have HI:=QA hI;obtain⟨A,c,h0,h1,h2,h3,h4,h5⟩:=hI.cells;clear hI h4;have hu:=Tryz.underlying315;have hb0:decide (n≤0)=false:=decide_eq_false (by omega);have hw1:IntKind.i64.wrap ((bs.length:Int)-i)=(bs.length:Int)-i:=IntWalk.i64_in _ (by omega);have hw2:IntKind.i64.wrap (i+n)=i+n:=IntWalk.i64_in _ (by omega);have hw3:IntKind.i64.wrap (i+n-n)=i:=by rw[show i+n-n=i by omega];exact IntWalk.i64_in _ (by omega)
 have hw4:IntKind.i64.wrap i=i:=IntWalk.i64_in _ (by omega);have hb1:decide ((bs.length:Int)-i<n)=false:=decide_eq_false (by omega)
 go_enter Tryz.func223,Tryz.ntmps223
 go_upto_region 3 with(go_at_call 219;refine(Qlr b g bs i _ HI.out).mono ?_;rintro ee wa ⟨rfl,rfl⟩)
 have q0:=Qcm (Qcj (Below.refl _ _)) h0;have q1:=Qcm (Qcj (Below.refl _ _)) h1;have q3:wa.drew.frozen? ⟨g,1,none⟩=false:=h3;clear h0 h1 h2 h3;have HI1:=QA (HI.out.kept (Qcj (Below.refl _ _)))
 go_region
 go_upto_region 6 with fail
 clear HI1 q0 q1 q3;obtain⟨m1,m2⟩:=HI.out.move hbg (i+n);have M1:=QA (m1.kept (Qcj (Below.refl _ _)));have M2:=QA (m2.trans (Bw.below (Qcj (Below.refl _ _)) (Nat.le_trans hbw m2.size)));clear m1 m2;obtain⟨W2,hW2⟩:∃W2,W2=(wa.setCell ⟨g,1,none⟩ (.int .i64 (i+n))).drew:=⟨_,rfl⟩;have hk8:Below wa.heap.size (wa.setCell ⟨g,1,none⟩ (.int .i64 (i+n))) W2:=by rw[hW2];exact Qcj (Below.refl _ _)
 have HK8:=QA (fun w' (hb:Below W2.heap.size W2 w')=>K8.move HI.out (i+n) (hk8.trans (Qis hb (by have:=hk8.size;simpa [World.setCell]using this))));clear hk8;rw[← hW2]at M1 M2 ⊢;obtain⟨A2,c2,r0,r1,r2,r3,r4,r5⟩:=M1.out.cells;clear hW2 r2 r3;have hmid:(bs.take (i+n).toNat).drop i.toNat=xs:=by rw[hxs,List.drop_take,show(i+n).toNat-i.toNat=n.toNat by omega]
 have hxl:xs.length=n.toNat:=by rw[hxs,List.length_take,List.length_drop];omega
 obtain⟨i0,hii,_,hsz,_⟩:=info_parts Qid;have hcut:=Qep (P:=Tryz.prog) 47 5 .i64 .i64 Tryz.underlying47 hii 1 hsz A2 bs.length c2 i (i+n) hi (by omega) (by omega) r5;have hC:=Kd.C_mid (lo:=i.toNat) (hi:=(i+n).toNat) r4 (by omega) (by omega) r5;rw[hmid]at hC;obtain⟨A3,hA3⟩:∃A3,A3=(if c2=i.toNat then A2 else A2.map (·.add (i.toNat*1))):=⟨_,rfl⟩;obtain⟨c3,hc3⟩:∃c3,c3=c2-i.toNat:=⟨_,rfl⟩;rw[← hA3,← hc3,show(i+n).toNat-i.toNat=xs.length by omega]at hcut;have hC3:Kd.C (Kd.int .u8) W2 A3 xs.length xs:=by rw[hA3];exact hC
 have d:=QA hC3;have hxl2:xs.length≤140737488355328:=by omega
 obtain⟨j,hj⟩:∃j,j=i+n:=⟨_,rfl⟩;have hw5:IntKind.i64.wrap (j-n)=i:=by rw[hj];exact hw3
 rw[← hj]at hcut r1 M1 ⊢;have HJ:=QA hj;clear hj hC hC3 hA3 hmid r4 hc3 r5 hxs hxl;refine Qfq (n:=17) (S:=fun w'=>w'.cell? ⟨g,0,none⟩=some (.slice A2 bs.length c2)∧w'.cell? ⟨g,1,none⟩=some (.int .i64 j)) (ds:=[]) (bm 17 0) qq_5 rfl rfl ⟨(Qcm (Qcj (Below.refl _ _)) r0),(Qcm (Qcj (Below.refl _ _)) r1)⟩ (fun a=>?_);refine pz_ (i:=0) (N:=some 33) (bm 17 1) qq_5 ?_;refine pz_ (i:=1) (N:=some 34) (bm 17 3) qq_5 ?_;refine pz_ (i:=2) (N:=some 35) (bm 17 7) qq_5 ?_;refine pz_ (i:=4) (N:=some 37) (bm 17 23) qq_5 ?_;refine pz_ (i:=5) (N:=some 38) (bm 17 55) qq_5 ?_;refine pz_ (i:=6) (N:=some 39) (bm 17 119) qq_5 ?_;refine pz_ (i:=8) (N:=some 41) (bm 17 375) qq_5 ?_;refine pz_ (i:=10) (N:=some 43) (bm 17 1399) qq_5 ?_;refine pz_ (i:=11) (N:=some 44) (bm 17 3447) qq_5 ?_;refine pz_ (i:=12) (N:=some 45) (bm 17 7543) qq_5 ?_;refine tz_ (i:=3) (N:=some 36) (bm 17 7551) qq_5 a ?_;refine tz_ (i:=7) (N:=some 40) (bm 17 7679) qq_5 a ?_;refine pz_ (i:=9) (N:=some 42) (bm 17 8191) qq_5 ?_;refine tz_ (i:=13) (N:=some 46) (bm 17 16383) qq_5 a ?_;refine pz_ (i:=14) (N:=some 47) (bm 17 32767) qq_5 ?_;refine one_ (i:=15) (N:=some 48) (bm 17 65535) rfl rfl qq_5 (by decide) (fun K hK=>?_);refine Qfy Tryz.func151 qq_5 rfl #[.slice A3 xs.length c3] (by rfl) rfl rfl (by simp only[List.map_toArray,List.map_cons,List.map_nil];rfl) ?_;with_reducible refine(Qit A3 c3 xs _ (Kd.C_below d.out (Qcj (Below.refl _ _))) hxl2).mono ?_
 rintro ee w3 ⟨v,rfl,hR,hb⟩;refine⟨_,rfl,?_⟩;refine hK.out _ _ ⟨(Qcm hb a.1),(Qcm hb a.2)⟩ (fun a=>?_);clear hK K;refine nzp_ 48 ?_;refine pz_ (i:=16) (N:=some 4) (bm 17 131071) qq_5 ?_;refine Qfu qq_5 ?_;go_wp2;go_ret
 have hb2:Below W2.heap.size W2 w3:=(Qcj (Below.refl _ _)).trans hb;exact⟨v,rfl,R8.low hR (show wa.heap.size≤W2.drew.heap.size from M2.out.size),HJ.out ▸ M1.out.kept hb2,M2.out.trans (Bw.below hb2 (Nat.le_trans hbw M2.out.size)),HK8.out _ hb2⟩
theorem Qlw(b g:Nat)(bs xs:List Int)(i n:Int)(hxs:xs=(bs.drop i.toNat).take n.toNat)(hn:0<n)(hi:0≤i)(hl:bs.length≤140737488355328)(hs:i+n≤(bs.length:Int))(hbg:b≤g)(w:World)(hbw:b≤w.heap.size)(hI:IsCur w b g bs i) :
  Calls Tryz.prog 223 #[.pointer (some ⟨g,0,none⟩),.int .i64 n] w fun e w'=>∃v,e=.returned v∧R8 w' w.heap.size v xs∧IsCur w' b g bs (i+n)∧Bw b g w w' :=
 (Qlv b g bs xs i n hxs hn hi hl hs hbg w hbw hI).mono (by rintro e w' ⟨v,h1,h2,h3,h4,_⟩;exact⟨v,h1,h2,h3,h4⟩)
theorem Qpj(k b g:Nat)(bs xs:List Int)(i n x:Int)(hxs:xs=(bs.drop i.toNat).take n.toNat)(hn:0<n)(hi:0≤i)(hl:bs.length≤140737488355328)(hs:i+n≤(bs.length:Int))(hbg:b≤g)(m:xs.length≤8)
  (h:Qch.l0 k xs 0 (xs.length:Int) 0=some x) (w:World) (hbw:b≤w.heap.size) (hI:IsCur w b g bs i) :
  Calls Tryz.prog 273 #[.pointer (some ⟨g,0,none⟩),.int .i64 n] w fun e w'=>e=.returned (.int .u64 x)∧IsCur w' b g bs (i+n)∧Bw b g w w'∧K8 w w':=by
 have HI:=QA hI;have H0:=QA h;have HX:=QA hxs;clear hI h hxs
 go_enter Tryz.func273,Tryz.ntmps273
 go_wp2_with (go_at_call 223;refine(Qlv b g bs xs i n HX.out hn hi hl hs hbg _ hbw HI.out).mono ?_;rintro ee w1 ⟨v,rfl,hR,hI1,hB1,hK1⟩;(have HK1:=QA hK1;clear hK1;obtain⟨A,c,hv⟩:=Kd.R_slice hR;subst hv;have HI1:=QA hI1;have d:=QA hB1;have j:=QA (Kd.R_reads' hR).2.2;clear hI1 hB1 hR))
 go_loopw [5,12] (fun v5 a wr=>∃(x5 x8:Int) (gk:Nat),v5=.int .u64 x5∧a=.int .i64 x8∧Aside0 (Qch.l0 gk xs x5 (xs.length:Int) x8=some x)∧Aside0 (0≤x8∧x8≤(xs.length:Int))∧wr=w1)
  (fun _ a _=>xs.length-(intOf a).toNat)
 case atStart=>exact⟨0,0,k,rfl,rfl,H0,⟨by omega⟩,rfl⟩
 case round =>
  obtain⟨x5,x8,gk,rfl,rfl,HA,HK,rfl⟩:=hrel
  cases gk with
  | zero=>exact absurd HA.out (by simp[Qch.l0])
  | succ k1 =>
   have H:=HA.out;clear HA;simp only[Qch.l0]at H;have p0:0≤x8:=HK.out.1
   by_cases c3:x8<(xs.length:Int)
   ·have hw8:IntKind.i64.wrap (8*x8)=8*x8:=IntWalk.i64_in _ (by omega);have hw9:wrap64 (8*x8)=8*x8:=by unfold wrap64;omega
    have hw1:IntKind.i64.wrap (x8+1)=x8+1:=IntWalk.i64_in _ (by omega);have hw2:wrap64 (x8+1)=x8+1:=by unfold wrap64;omega
    rw[if_pos c3,if_pos p0,if_pos c3,hw9,if_pos (by omega),hw2]at H;have l:decide (x8<(xs.length:Int))=true:=decide_eq_true c3;obtain⟨j6,hj6⟩:∃j6:Int,8*x8=j6:=⟨_,rfl⟩;rw[hj6]at hw8 H;have hj60:0≤j6:=by omega
    obtain⟨j8,hj8⟩:∃j8:Int,(shl .u64 (IntKind.u64.wrap (YtepkfjmjidjedaaGreatW.PrintWords.rd xs x8)) j6)=j8:=⟨_,rfl⟩;rw[hj8]at H;have hj8_:(IntKind.u64.wrap ((IntKind.u64.wrap (YtepkfjmjidjedaaGreatW.PrintWords.rd xs x8))*2^min j6.toNat 64))=j8:=hj8;have hj8z:j6≤64→(IntKind.u64.wrap ((IntKind.u64.wrap (YtepkfjmjidjedaaGreatW.PrintWords.rd xs x8))*2^j6.toNat))=j8:=Qhy hj8;have H':=QA H;have HJ:=QA hj6;have HLT:=QA c3;obtain⟨ad,e1,o⟩:=Kd.at_int j.out x8 p0 c3;subst e1;have hw8':IntKind.i64.wrap (8*x8)=j6:=by rw[hj6];exact hw8
    clear H hj6 hj8 hw9 hw2 hw8;go_wp2
    go_roundw
    case rel=>exact⟨_,x8+1,k1,rfl,rfl,H',⟨by have:=HLT.out;have:=HK.out;omega⟩,trivial⟩
    case measure=>have h1:=HLT.out;have h2:=HK.out;simp[intOf];omega
   ·have l:decide (x8<(xs.length:Int))=false:=decide_eq_false c3;rw[if_neg c3]at H;obtain rfl:=Option.some.inj H;go_wp2;go_ret
    exact⟨rfl,HI1.out,d.out,HK1.out⟩
theorem Qpk(k b g:Nat)(bs xs:List Int)(i n x:Int)(hxs:xs=(bs.drop i.toNat).take n.toNat)(hn:0<n)(hi:0≤i)(hl:bs.length≤140737488355328)(hs:i+n≤(bs.length:Int))(hbg:b≤g)(hx8:xs.length≤8)
  (h:Qch.l0 k xs 0 (xs.length:Int) 0=some x) (w:World) (hbw:b≤w.heap.size) (hI:IsCur w b g bs i) :
  Calls Tryz.prog 273 #[.pointer (some ⟨g,0,none⟩),.int .i64 n] w fun e w'=>e=.returned (.int .u64 x)∧IsCur w' b g bs (i+n)∧Bw b g w w':=(Qpj k b g bs xs i n x hxs hn hi hl hs hbg hx8 h w hbw hI).mono (by rintro e w' ⟨h1,h2,h3,_⟩;exact⟨h1,h2,h3⟩)
def Qpl(b g:Nat)(bs:List Int)(i er:Int)(w:World)(e:Ending)(w':World):Prop:=e=.panicked [Qlq g er]∧IsCur w' b g bs i∧Bw b g w w'
theorem Qpm(b g:Nat)(bs:List Int)(i n:Int)(hn:0<n)(hi:0≤i∧i≤bs.length)(hl:bs.length≤140737488355328)(hs:(bs.length:Int)-i<n)(w:World)(hbw:b≤w.heap.size)(hI:IsCur w b g bs i) :
  Calls Tryz.prog 273 #[.pointer (some ⟨g,0,none⟩),.int .i64 n] w (Qpl b g bs i 2 w):=by
 have HI:=QA hI;clear hI
 go_enter Tryz.func273,Tryz.ntmps273
 go_wp2_with (go_at_call 223;refine(Qlt b g bs i n hn hi hl hs _ HI.out).mono ?_;rintro ee w1 ⟨rfl,hb1⟩)
 exact⟨rfl,rfl,HI.out.kept hb1,Bw.below hb1 hbw⟩
theorem Qpn(k b g:Nat)(bs xs:List Int)(i x:Int)(hxs:xs=(bs.drop i.toNat).take 1)(hi:0≤i)(hl:bs.length≤140737488355328)(hs:i+1≤(bs.length:Int))(hbg:b≤g)
  (h:Qch.l0 k xs 0 (xs.length:Int) 0=some x) (w:World) (hbw:b≤w.heap.size) (hI:IsCur w b g bs i) :
  Calls Tryz.prog 232 #[.pointer (some ⟨g,0,none⟩)] w fun e w'=>e=.returned (.int .u8 (IntKind.u8.wrap x))∧IsCur w' b g bs (i+1)∧Bw b g w w':=by
 have HI:=QA hI;have H0:=QA h;have HX:=QA hxs;have HL:Aside0 (xs.length≤8):=⟨by rw[hxs,List.length_take];omega⟩;clear hI h hxs
 go_enter Tryz.func232,Tryz.ntmps232
 go_wp2_with (go_at_call 273;refine(Qpk k b g bs xs i 1 x HX.out (by decide) hi hl hs hbg HL.out H0.out _ hbw HI.out).mono ?_;rintro ee w1 ⟨rfl,hI1,hB1⟩)
 go_ret
 exact⟨rfl,hI1,hB1⟩
theorem Qpo(b g:Nat)(bs:List Int)(i:Int)(hi:0≤i∧i≤bs.length)(hl:bs.length≤140737488355328)(hs:(bs.length:Int)-i<1)(w:World)(hbw:b≤w.heap.size)(hI:IsCur w b g bs i) :
  Calls Tryz.prog 232 #[.pointer (some ⟨g,0,none⟩)] w (Qpl b g bs i 2 w):=by
 have HI:=QA hI;clear hI
 go_enter Tryz.func232,Tryz.ntmps232
 go_wp2_with (go_at_call 273;refine(Qpm b g bs i 1 (by decide) hi hl hs _ hbw HI.out).mono ?_;rintro ee w1 ⟨rfl,hF⟩)
 exact⟨rfl,rfl,hF⟩
theorem Qpp(k b g:Nat)(bs xs:List Int)(i x:Int)(hxs:xs=(bs.drop i.toNat).take 8)(hi:0≤i)(hl:bs.length≤140737488355328)(hs:i+8≤(bs.length:Int))(hbg:b≤g)
  (h:Qch.l0 k xs 0 (xs.length:Int) 0=some x) (w:World) (hbw:b≤w.heap.size) (hI:IsCur w b g bs i) :
  Calls Tryz.prog 230 #[.pointer (some ⟨g,0,none⟩)] w fun e w'=>e=.returned (.int .u64 x)∧IsCur w' b g bs (i+8)∧Bw b g w w':=by
 have HI:=QA hI;have H0:=QA h;have HX:=QA hxs;have HL:Aside0 (xs.length≤8):=⟨by rw[hxs,List.length_take];omega⟩;clear hI h hxs
 go_enter Tryz.func230,Tryz.ntmps230
 go_wp2_with (go_at_call 273;refine(Qpk k b g bs xs i 8 x HX.out (by decide) hi hl hs hbg HL.out H0.out _ hbw HI.out).mono ?_;rintro ee w1 ⟨rfl,hI1,hB1⟩)
 go_ret
 exact⟨rfl,hI1,hB1⟩
theorem Qpq(b g:Nat)(bs:List Int)(i:Int)(hi:0≤i∧i≤bs.length)(hl:bs.length≤140737488355328)(w:World)(hI:IsCur w b g bs i) :
  Calls Tryz.prog 172 #[.pointer (some ⟨g,0,none⟩)] w fun e w'=>e=.returned (.int .i64 ((bs.length:Int)-i))∧Below w.heap.size w w':=by
 have HI:=QA hI;obtain⟨A,c,h0,h1,h2,h3,h4,h5⟩:=hI.cells;clear hI h4;have hu:=Tryz.underlying315;have hw1:IntKind.i64.wrap ((bs.length:Int)-i)=(bs.length:Int)-i:=IntWalk.i64_in _ (by omega)
 go_enter Tryz.func172,Tryz.ntmps172
 go_upto_region 3 with(go_at_call 219;refine(Qlr b g bs i _ HI.out).mono ?_;rintro ee wa ⟨rfl,rfl⟩)
 have q0:=Qcm (Qcj (Below.refl _ _)) h0;have q1:=Qcm (Qcj (Below.refl _ _)) h1
 go_region
 go_wp2;go_ret
 exact⟨rfl,Qcj (Below.refl _ _)⟩
theorem Qpr(b g:Nat)(bs:List Int)(i:Int)(hi:0≤i∧i≤bs.length)(hl:bs.length≤140737488355328)(hs:(bs.length:Int)-i≤0)(w:World)(hbw:b≤w.heap.size)(hI:IsCur w b g bs i) :
  Calls Tryz.prog 235 #[.pointer (some ⟨g,0,none⟩)] w fun e w'=>e=.returned (.tuple #[])∧IsCur w' b g bs i∧Bw b g w w':=by
 have HI:=QA hI;clear hI;have hb0:decide (0<(bs.length:Int)-i)=false:=decide_eq_false (by omega)
 go_enter Tryz.func235,Tryz.ntmps235
 go_wp2_with (go_at_call 172;refine(Qpq b g bs i hi hl _ HI.out).mono ?_;rintro ee w1 ⟨rfl,hb1⟩)
 go_end0
 exact⟨rfl,HI.out.kept hb1,Bw.below hb1 hbw⟩
theorem Qps(b g:Nat)(bs:List Int)(i:Int)(hi:0≤i∧i≤bs.length)(hl:bs.length≤140737488355328)(hs:0<(bs.length:Int)-i)(w:World)(hbw:b≤w.heap.size)(hI:IsCur w b g bs i) :
  Calls Tryz.prog 235 #[.pointer (some ⟨g,0,none⟩)] w (Qpl b g bs i 3 w):=by
 have HI:=QA hI;clear hI;have hb0:decide (0<(bs.length:Int)-i)=true:=decide_eq_true hs
 go_enter Tryz.func235,Tryz.ntmps235
 go_wp2_with (first
  |(go_at_call 172;refine(Qpq b g bs i hi hl _ HI.out).mono ?_;rintro ee w1 ⟨rfl,hb1⟩)
  |(go_at_call 220;refine(Qls b g bs i 3 (by decide) _ (HI.out.kept hb1)).mono ?_;rintro ee w2 ⟨rfl,rfl⟩))
 exact⟨rfl,rfl,HI.out.kept hb1,Bw.below hb1 hbw⟩
theorem Qpt{P:Program}{tp te:TypeId}{j:TypeInfo}(a:Addr)(hp:P.underlying tp=some (.pointer te))(hte:P.info? te=some j)(w:World) :
  (binOp .neq tp (.pointer (some a)) (.pointer (some a))).run P w=.ok (.bool false) w:=by
 have h:∀d:Nat,(Op.equalIn (d+1) tp (.pointer (some a)) (.pointer (some a))).run P w=.ok true w:=fun d=>by simp[Op.equalIn,run_underlying hp,sizeOf,typeInfo,hte,run_sameAddr_same]
 simp only[binOp];simp[Op.equal,Op.maxDepth,h 9999]
theorem Qpu{P:Program}{Q:Exit→Act→List Frame→World→Prop}{o:Oper}{id:Nat}{a:Act}{cs:List Frame}{w:World}(hw:Region.wanted o (yielded #[o] a.tmps)=true)(hr:(execOp a.eval o).run P w=.ok .recover w)
  (hc:recoverD cs=none) (h:Q .normal (a.put o.dst .nilIface) cs w):(Code.region id #[o] false).wpS P Q a cs w:=by
 apply wpS_region;show wpOpsS P #[o] Q [0] a cs w;simp only[wpOpsS];show(if Region.wanted o (yielded #[o] a.tmps)=true then _ else _);rw[if_pos hw];simp only[List.getElem_toArray,List.getElem_cons_zero,hr,hc];exact h
theorem Qpv{P:Program}{Q:Exit→Act→List Frame→World→Prop}{o:Oper}{id:Nat}{a:Act}{cs cs':List Frame}{v:Value}{w:World}(hw:Region.wanted o (yielded #[o] a.tmps)=true)(hr:(execOp a.eval o).run P w=.ok .recover w)
  (hc:recoverD cs=some (v,cs')) (h:Q .normal (a.put o.dst v) cs' w):(Code.region id #[o] false).wpS P Q a cs w:=by
 apply wpS_region;show wpOpsS P #[o] Q [0] a cs w;simp only[wpOpsS];show(if Region.wanted o (yielded #[o] a.tmps)=true then _ else _);rw[if_pos hw];simp only[List.getElem_toArray,List.getElem_cons_zero,hr,hc];exact h
theorem Qpw(g ba be bc:Nat)(i x:Int)(v:Value)(w:World)(h0:w.heap[bc]? = some (.cells #[.pointer (some ⟨g,0,none⟩)] 270 (0,0)))
  (h1:w.heap[g]? = some (.cells #[v,.int .i64 i,.bool true] 315 (0,0))) (h2:w.heap[ba]? = some (.cells #[.int .i64 x] 3 (0,0))) :
  CallsD Tryz.prog 218 #[.pointer (some ⟨bc,0,none⟩),.pointer (some ⟨ba,0,none⟩),.pointer (some ⟨be,0,none⟩)] .returning w fun e u' w' =>
   e=.returned (.tuple #[])∧u'=.returning∧w'=(w.setCell ⟨g,2,none⟩ (.bool false)).setCell ⟨ba,0,none⟩ (.int .i64 i):=by
 have hu:=Tryz.underlying315;have n1:bc≠g:=Qdi h0 h1 (by decide);have n2:ba≠g:=Qdi h2 h1 (by decide);have c0:w.cell? ⟨bc,0,none⟩=some (.pointer (some ⟨g,0,none⟩)):=(Qdf h0 0).trans rfl;have c1:w.frozen? ⟨g,2,none⟩=false:=Qdg h1 2;have c2:w.cell? ⟨g,2,none⟩=some (.bool true):=(Qdf h1 2).trans rfl;have k0:=Qdd h0 (p:=⟨g,2,none⟩) n1 (.bool false);have k1:=Qdc h1 2 (.bool false);have k2:=Qdd h2 (p:=⟨g,2,none⟩) n2 (.bool false);obtain⟨W1,hW1⟩:∃W1,W1=w.setCell ⟨g,2,none⟩ (.bool false):=⟨_,rfl⟩;rw[← hW1]at k0 k1 k2 ⊢;refine callsD_of_wpS Tryz.func218 rfl fun c₀ cs hm=>?_
 simp only[Tryz.ntmps218,List.size_toArray,List.length_cons,List.length_nil,Nat.reduceAdd,Nat.reduceSub,Array.replicate_succ,Array.replicate_zero,List.push_toArray,List.append_toArray,List.nil_append,List.cons_append];apply wpS_seq;refine wpS_of_wp ?_;go_wp2;simp only[Exit.thenS];rw[← hW1];have d0:W1.cell? ⟨bc,0,none⟩=some (.pointer (some ⟨g,0,none⟩)):=(Qdf k0 0).trans rfl;have d1:W1.cell? ⟨g,1,none⟩=some (.int .i64 i):=(Qdf k1 1).trans rfl;have d2:W1.frozen? ⟨ba,0,none⟩=false:=Qdg k2 0;have d3:W1.cell? ⟨ba,0,none⟩=some (.int .i64 x):=(Qdf k2 0).trans rfl;clear c0 c1 c2 hW1 h0 h1 h2;apply wpS_seq;refine wpS_of_wp ?_;go_wp2;simp only[Exit.thenS];apply wpS_seq;refine Qpu rfl ?_ ?_ ?_
 ·go_simp
 ·simp[recoverD,hm]
 simp only[Exit.thenS,Act.put,List.setIfInBounds_toArray,List.set_cons_zero,List.set_cons_succ];refine wpS_of_wp ?_;go_wp2;refine⟨rfl,.returning,?_,_,results_none rfl _ _ _,rfl,rfl,rfl⟩
 cases c₀
 simp_all
theorem Qpx(g ba be bc:Nat)(i x y er:Int)(v:Value)(w:World)(h0:w.heap[bc]? = some (.cells #[.pointer (some ⟨g,0,none⟩)] 270 (0,0)))
  (h1:w.heap[g]? = some (.cells #[v,.int .i64 i,.bool true] 315 (0,0))) (h2:w.heap[ba]? = some (.cells #[.int .i64 x] 3 (0,0))) (h3:w.heap[be]? = some (.cells #[.int .i64 y] 48 (0,0))) :
  CallsD Tryz.prog 218 #[.pointer (some ⟨bc,0,none⟩),.pointer (some ⟨ba,0,none⟩),.pointer (some ⟨be,0,none⟩)] (.panicking [Qlq g er]) w fun e u' w' =>
   e=.returned (.tuple #[])∧u'=.panicking [{ Qlq g er with recovered:=true }]∧w'=((((w.setCell ⟨g,2,none⟩ (.bool false)).setCell ⟨ba,0,none⟩ (.int .i64 i)).alloc (.cells #[.pointer (some ⟨g,0,none⟩),.int .i64 er] 317)).setCell ⟨be,0,none⟩ (.int .i64 er)):=by
 have hu:=Tryz.underlying315;have hu2:=Tryz.underlying317;have hu3:=Tryz.underlying270;have n1:bc≠g:=Qdi h0 h1 (by decide);have n2:ba≠g:=Qdi h2 h1 (by decide);have n3:be≠g:=Qdi h3 h1 (by decide);have n4:bc≠ba:=Qdi h0 h2 (by decide);have n5:be≠ba:=Qdi h3 h2 (by decide);have c0:w.cell? ⟨bc,0,none⟩=some (.pointer (some ⟨g,0,none⟩)):=(Qdf h0 0).trans rfl;have c1:w.frozen? ⟨g,2,none⟩=false:=Qdg h1 2;have c2:w.cell? ⟨g,2,none⟩=some (.bool true):=(Qdf h1 2).trans rfl;have k0:=Qdd h0 (p:=⟨g,2,none⟩) n1 (.bool false);have k1:=Qdc h1 2 (.bool false);have k2:=Qdd h2 (p:=⟨g,2,none⟩) n2 (.bool false);have k3:=Qdd h3 (p:=⟨g,2,none⟩) n3 (.bool false);obtain⟨W1,hW1⟩:∃W1,W1=w.setCell ⟨g,2,none⟩ (.bool false):=⟨_,rfl⟩;rw[← hW1]at k0 k1 k2 k3 ⊢;have m0:=Qdd k0 (p:=⟨ba,0,none⟩) n4 (.int .i64 i);have m3:=Qdd k3 (p:=⟨ba,0,none⟩) n5 (.int .i64 i);obtain⟨W2,hW2⟩:∃W2,W2=W1.setCell ⟨ba,0,none⟩ (.int .i64 i):=⟨_,rfl⟩;rw[← hW2]at m0 m3 ⊢;obtain⟨j9,hj9⟩:∃j,Tryz.prog.info? 315=some j:=Option.isSome_iff_exists.1 qq_5;have hnp:∀W:World,(binOp .neq 270 (.pointer (some ⟨g,0,none⟩)) (.pointer (some ⟨g,0,none⟩))).run Tryz.prog W=.ok (.bool false) W:=fun W=>Qpt ⟨g,0,none⟩ hu3 hj9 W
 clear hj9;have hta:∀W:World,(Instr.typeAssert (.iface 317 (.agg #[.pointer (some ⟨g,0,none⟩),.int .i64 er])) 20 317 true).run Tryz.prog W=.ok (.tuple #[.agg #[.pointer (some ⟨g,0,none⟩),.int .i64 er],.bool true]) W:=fun W=>by kernel_rfl
 refine callsD_of_wpS Tryz.func218 rfl fun c₀ cs hm=>?_
 simp only[Tryz.ntmps218,List.size_toArray,List.length_cons,List.length_nil,Nat.reduceAdd,Nat.reduceSub,Array.replicate_succ,Array.replicate_zero,List.push_toArray,List.append_toArray,List.nil_append,List.cons_append];apply wpS_seq;refine wpS_of_wp ?_;go_wp2;simp only[Exit.thenS];rw[← hW1];have d0:W1.cell? ⟨bc,0,none⟩=some (.pointer (some ⟨g,0,none⟩)):=(Qdf k0 0).trans rfl;have d1:W1.cell? ⟨g,1,none⟩=some (.int .i64 i):=(Qdf k1 1).trans rfl;have d2:W1.frozen? ⟨ba,0,none⟩=false:=Qdg k2 0;have d3:W1.cell? ⟨ba,0,none⟩=some (.int .i64 x):=(Qdf k2 0).trans rfl;clear c0 c1 c2 hW1 h0 h1 h2 h3;apply wpS_seq;refine wpS_of_wp ?_;go_wp2;simp only[Exit.thenS];rw[← hW2];have o0:W2.cell? ⟨bc,0,none⟩=some (.pointer (some ⟨g,0,none⟩)):=(Qdf m0 0).trans rfl;have s0:=Qdp m0 (.cells #[.pointer (some ⟨g,0,none⟩),.int .i64 er] 317);have s3:=Qdp m3 (.cells #[.pointer (some ⟨g,0,none⟩),.int .i64 er] 317);have s4:=Qdt W2 (.cells #[.pointer (some ⟨g,0,none⟩),.int .i64 er] 317);have p0:(W2.alloc (.cells #[.pointer (some ⟨g,0,none⟩),.int .i64 er] 317)).cell? ⟨bc,0,none⟩=some (.pointer (some ⟨g,0,none⟩)):=(Qdf s0 0).trans rfl;have p1:(W2.alloc (.cells #[.pointer (some ⟨g,0,none⟩),.int .i64 er] 317)).cell? ⟨be,0,none⟩=some (.int .i64 y):=(Qdf s3 0).trans rfl;have p2:(W2.alloc (.cells #[.pointer (some ⟨g,0,none⟩),.int .i64 er] 317)).frozen? ⟨be,0,none⟩=false:=Qdg s3 0;have p3:(W2.alloc (.cells #[.pointer (some ⟨g,0,none⟩),.int .i64 er] 317)).cell? ⟨W2.heap.size,0,none⟩=some (.pointer (some ⟨g,0,none⟩)):=(Qdf s4 0).trans rfl;have p4:(W2.alloc (.cells #[.pointer (some ⟨g,0,none⟩),.int .i64 er] 317)).cell? ⟨W2.heap.size,1,none⟩=some (.int .i64 er):=(Qdf s4 1).trans rfl;clear d0 d1 d2 d3 hW2 s0 s3 s4;apply wpS_seq;refine Qpv (v:=.iface 317 (.agg #[.pointer (some ⟨g,0,none⟩),.int .i64 er])) (cs':={ c₀ with mode:=.panicking [{ Qlq g er with recovered:=true }] } :: cs) rfl ?_ ?_ ?_
 ·go_simp
 ·simp[recoverD,hm,Qlq]
 simp only[Exit.thenS,Act.put,List.setIfInBounds_toArray,List.set_cons_zero,List.set_cons_succ];refine wpS_of_wp ?_;go_wp2;refine⟨rfl,_,rfl,_,results_none rfl _ _ _,rfl,rfl,rfl⟩
def Tl(lo g:Nat)(w w':World):Prop:=∀k cs t,lo≤k→w.heap[k]? = some (.cells cs t (0,0))→t≠5→k≠g→w'.heap[k]? = some (.cells cs t (0,0))
def Ty(W W':World):Prop:=∀(k:Nat) (cs:Array Value) (t:TypeId),W.heap[k]? = some (.cells cs t (0,0))→t≠3→t≠48→t≠315→W'.heap[k]? = some (.cells cs t (0,0))
theorem Ty.set{W W1:World}(h:Ty W W1){p:Addr}{cs:Array Value}{t:TypeId}(hp:W1.heap[p.block]? = some (.cells cs t (0,0)))(ht:t=3∨t=48∨t=315)(u:Value):Ty W (W1.setCell p u):=fun k cs' t' h1 h2 h3 h4 =>
 Qdd (h k cs' t' h1 h2 h3 h4) (p:=p) (Qdi (h k cs' t' h1 h2 h3 h4) hp (by rcases ht with rfl|rfl|rfl;exact h2;exact h3;exact h4)) u
theorem Ty.refl(W:World):Ty W W:=fun _ _ _ h _ _ _=>h
theorem Ty.alloc{W W1:World}(h:Ty W W1)(o:Obj):Ty W (W1.alloc o):=fun k cs t h1 h2 h3 h4=>Qdp (h k cs t h1 h2 h3 h4) o
theorem Qpy(tmps:Array Value)(W:World)(ba be:Nat)(i er:Int)(h4:tmps[4]? = some (.pointer (some ⟨ba,0,none⟩)))(h5:tmps[5]? = some (.pointer (some ⟨be,0,none⟩)))
  (c4:W.heap[ba]? = some (.cells #[.int .i64 i] 3 (0,0))) (c5:W.heap[be]? = some (.cells #[.int .i64 er] 48 (0,0))) :
  (results Tryz.f170 tmps).run Tryz.prog W=.ok (.tuple #[.int .i64 i,.int .i64 er]) W:=by
 have hr:Tryz.f170.results=#[.cell 4 3,.cell 5 48]:=rfl;have d4:W.cell? ⟨ba,0,none⟩=some (.int .i64 i):=(Qdf c4 0).trans rfl;have d5:W.cell? ⟨be,0,none⟩=some (.int .i64 er):=(Qdf c5 0).trans rfl;have hu1:=Tryz.underlying3;have hu2:=Tryz.underlying48;simp[results,hr,h4,h5,go_sem,loadVar,d4,d5,c4,c5]
theorem Qpz(F:Nat)(cap:Array Value)(A0:Option Addr)(c0:Nat)(l0:List Int)(w:World)(hr0:Kd.C (Kd.int .u8) w A0 l0.length l0)(hl:l0.length≤140737488355328)
  (hcf:∀(as_:Array Value) (W:World),(callFunc F as_).run Tryz.prog W=.ok (.enter F as_) W)
  (Post:Int→Int→World→Prop) (hst:∀er i W W',Post er i W→Below w.heap.size W W'→Ty W W'→Post er i W')
  (hrd:∀(W:World) (g:Nat),w.heap.size≤g→Below w.heap.size w W→IsCur W w.heap.size g l0 0→Calls Tryz.prog F (#[.pointer (some ⟨g,0,none⟩)]++cap) W fun e W'=>∃i,IsCur W' w.heap.size g l0 i∧Tl w.heap.size g W W' ∧
   ((e=.returned (.tuple #[])∧Post 0 i W')∨∃er,e=.panicked [Qlq g er]∧Post er i W')) :
  Calls Tryz.prog 170 #[.slice A0 l0.length c0,.func (.func F) #[] cap] w fun e w'=>∃er i,e=.returned (.tuple #[.int .i64 i,.int .i64 er])∧Post er i w':=by
 have hu:=Tryz.underlying315;have a:=QA hr0;have HRD:=QA @hrd;have HST:=QA @hst;have hmf:∀(fn:Fn) (first cap:Array Value) (w:World),(Instr.makeFunc fn first cap).run Tryz.prog w=.ok (.func fn first cap) w:=fun _ _ _ _=>rfl
 have hnil:∀W:World,(binOp .eql 272 (.func (.func F) #[] cap) .nilFunc).run Tryz.prog W=.ok (.bool false) W:=fun W=>by kernel_rfl
 clear hr0 hrd hst
 go_enter_defers Tryz.func170,Tryz.ntmps170
 go_upto_region 5 with(go_at_call 151;refine(Qit A0 c0 l0 _ (Kd.C_below a.out (Qci (Qci (Below.refl _ _) _) _)) hl).mono ?_;rintro ee w3 ⟨vb,rfl,hR,hb⟩;obtain⟨A,c,hv⟩:=Kd.R_slice hR;subst hv)
 have b0:Below w.heap.size w ((w.alloc (.cells #[.int .i64 0] 3)).alloc (.cells #[.int .i64 0] 48)):=Qci (Qci (Below.refl _ _) _) _;have e0:((w.alloc (.cells #[.int .i64 0] 3)).alloc (.cells #[.int .i64 0] 48)).heap.size=w.heap.size+2:=by simp[World.size_alloc]
 have ka:=Qds (Qdp (Qdt w (.cells #[.int .i64 0] 3)) (.cells #[.int .i64 0] 48)) hb;have ke:=Qds (Qdt (w.alloc (.cells #[.int .i64 0] 3)) (.cells #[.int .i64 0] 48)) hb;rw[World.size_alloc]at ke;have b3:Below w.heap.size w w3:=b0.trans (Qis hb b0.size);have hs3:w.heap.size+2≤w3.heap.size:=by have:=hb.size;omega
 have kc:=Qdp (Qdt w3 (.cells #[.slice A l0.length c,.int .i64 0,.bool true] 315)) (.cells #[.pointer (some ⟨w3.heap.size,0,none⟩)] 270);have kp:=Qdt (w3.alloc (.cells #[.slice A l0.length c,.int .i64 0,.bool true] 315)) (.cells #[.pointer (some ⟨w3.heap.size,0,none⟩)] 270);rw[World.size_alloc]at kp;have ka5:=Qdp (Qdp ka (.cells #[.slice A l0.length c,.int .i64 0,.bool true] 315)) (.cells #[.pointer (some ⟨w3.heap.size,0,none⟩)] 270);have ke5:=Qdp (Qdp ke (.cells #[.slice A l0.length c,.int .i64 0,.bool true] 315)) (.cells #[.pointer (some ⟨w3.heap.size,0,none⟩)] 270);have b5:Below w.heap.size w ((w3.alloc (.cells #[.slice A l0.length c,.int .i64 0,.bool true] 315)).alloc (.cells #[.pointer (some ⟨w3.heap.size,0,none⟩)] 270)):=b3.trans (Qis (Qci (Qci (Below.refl _ _) _) _) b3.size);have hI5:IsCur ((w3.alloc (.cells #[.slice A l0.length c,.int .i64 0,.bool true] 315)).alloc (.cells #[.pointer (some ⟨w3.heap.size,0,none⟩)] 270)) w.heap.size w3.heap.size l0 0:=⟨_,kc,R8.low (R8.kept (R8.kept hR (Qci (Below.refl _ _) _)) (Qci (Below.refl _ _) _)) (by rw[e0];omega)⟩;generalize hW5:((w3.alloc (.cells #[.slice A l0.length c,.int .i64 0,.bool true] 315)).alloc (.cells #[.pointer (some ⟨w3.heap.size,0,none⟩)] 270))=W5 at *;have HI5:=QA hI5;have b:=QA b5;have p0:W5.cell? ⟨w3.heap.size+1,0,none⟩=some (.pointer (some ⟨w3.heap.size,0,none⟩)):=(Qdf kp 0).trans rfl;clear hI5 b5 hW5 ka ke b0 e0 hb hR;have ha2:w.heap.size≠w3.heap.size:=by omega
 have he2:w.heap.size+1≠w3.heap.size:=by omega
 have hea:w.heap.size+1≠w.heap.size:=by omega
 have hcg:w3.heap.size+1≠w3.heap.size:=by omega
 go_wp2_with (refine(HRD.out W5 w3.heap.size (by omega) b.out HI5.out).mono ?_;rintro ee w6 ⟨i,hI6,hT6,⟨rfl,hp6⟩ |⟨er,rfl,hp6⟩⟩<;>(obtain⟨v6,kg6,hR6⟩:=hI6;have ka6:=hT6 _ _ _ (by omega) ka5 (by decide) ha2;have ke6:=hT6 _ _ _ (by omega) ke5 (by decide) he2;have kp6:=hT6 _ _ _ (by omega) kp (by decide) hcg;have q0:w6.cell? ⟨w3.heap.size+1,0,none⟩=some (.pointer (some ⟨w3.heap.size,0,none⟩)):=(Qdf kp6 0).trans rfl;have q1:w6.cell? ⟨w3.heap.size,1,none⟩=some (.int .i64 i):=(Qdf kg6 1).trans rfl;have q2:w6.frozen? ⟨w.heap.size,0,none⟩=false:=Qdg ka6 0;have q3:w6.cell? ⟨w.heap.size,0,none⟩=some (.int .i64 0):=(Qdf ka6 0).trans rfl;have ke7:=Qdd ke6 (p:=⟨w.heap.size,0,none⟩) hea (.int .i64 i);have q4:(w6.setCell ⟨w.heap.size,0,none⟩ (.int .i64 i)).frozen? ⟨w.heap.size+1,0,none⟩=false:=Qdg ke7 0;have q5:(w6.setCell ⟨w.heap.size,0,none⟩ (.int .i64 i)).cell? ⟨w.heap.size+1,0,none⟩=some (.int .i64 0):=(Qdf ke7 0).trans rfl))
 ·have bc8:=Qdd (Qdd kp6 (p:=⟨w.heap.size,0,none⟩) (show w3.heap.size+1≠w.heap.size by omega) (.int .i64 i)) (p:=⟨w.heap.size+1,0,none⟩) (show w3.heap.size+1≠w.heap.size+1 by omega) (.int .i64 0);have g8:=Qdd (Qdd kg6 (p:=⟨w.heap.size,0,none⟩) (show w3.heap.size≠w.heap.size by omega) (.int .i64 i)) (p:=⟨w.heap.size+1,0,none⟩) (show w3.heap.size≠w.heap.size+1 by omega) (.int .i64 0);have ba8:=Qdd (Qdc ka6 0 (.int .i64 i)) (p:=⟨w.heap.size+1,0,none⟩) (show w.heap.size≠w.heap.size+1 by omega) (.int .i64 0);have be8:=Qdc ke7 0 (.int .i64 0);have ba9:=Qdc (Qdd ba8 (p:=⟨w3.heap.size,2,none⟩) ha2 (.bool false)) 0 (.int .i64 i);have be9:=Qdd (Qdd be8 (p:=⟨w3.heap.size,2,none⟩) he2 (.bool false)) (p:=⟨w.heap.size,0,none⟩) hea (.int .i64 i);have bl:Below w.heap.size w6 (((((w6.setCell ⟨w.heap.size,0,none⟩ (.int .i64 i)).setCell ⟨w.heap.size+1,0,none⟩ (.int .i64 0)).setCell ⟨w3.heap.size,2,none⟩ (.bool false)).setCell ⟨w.heap.size,0,none⟩ (.int .i64 i))) :=
   Qir (Qir (Qir (Qir (Below.refl _ _) (Nat.le_refl _)) (Nat.le_succ _)) (by omega)) (Nat.le_refl _)
  have bt:Ty w6 (((((w6.setCell ⟨w.heap.size,0,none⟩ (.int .i64 i)).setCell ⟨w.heap.size+1,0,none⟩ (.int .i64 0)).setCell ⟨w3.heap.size,2,none⟩ (.bool false)).setCell ⟨w.heap.size,0,none⟩ (.int .i64 i))) :=
   ((((Ty.refl w6).set ka6 (.inl rfl) _).set ke7 (.inr (.inl rfl)) _).set g8 (.inr (.inr rfl)) _).set (Qdd ba8 (p:=⟨w3.heap.size,2,none⟩) ha2 (.bool false)) (.inl rfl) _
  refine leaves_cons (f:=218) (args:=#[.pointer (some ⟨w3.heap.size+1,0,none⟩),.pointer (some ⟨w.heap.size,0,none⟩),.pointer (some ⟨w.heap.size+1,0,none⟩)]) (by simp) (by simp[go_sem]) ?_;refine(Qpw w3.heap.size w.heap.size (w.heap.size+1) (w3.heap.size+1) i i v6 _ bc8 g8 ba8).mono ?_;rintro e u' w'' ⟨rfl,rfl,rfl⟩;show Leaves _ _ _ _ [] .returning _;exact⟨_,Qpy _ _ _ _ i 0 rfl rfl ba9 be9,0,i,rfl,HST.out _ _ _ _ hp6 bl bt⟩
 ·have ba9:=Qdd (Qdp (Qdc (Qdd ka6 (p:=⟨w3.heap.size,2,none⟩) ha2 (.bool false)) 0 (.int .i64 i)) (.cells #[.pointer (some ⟨w3.heap.size,0,none⟩),.int .i64 er] 317)) (p:=⟨w.heap.size+1,0,none⟩) (show w.heap.size≠w.heap.size+1 by omega) (.int .i64 er);have be9:=Qdc (Qdp (Qdd (Qdd ke6 (p:=⟨w3.heap.size,2,none⟩) he2 (.bool false)) (p:=⟨w.heap.size,0,none⟩) hea (.int .i64 i)) (.cells #[.pointer (some ⟨w3.heap.size,0,none⟩),.int .i64 er] 317)) 0 (.int .i64 er);have s6:w.heap.size≤w6.heap.size:=Nat.le_of_lt (Qde ka6);have b1:Below w.heap.size w6 ((w6.setCell ⟨w3.heap.size,2,none⟩ (.bool false)).setCell ⟨w.heap.size,0,none⟩ (.int .i64 i)):=Qir (Qir (Below.refl _ _) (by omega)) (Nat.le_refl _);have bl:Below w.heap.size w6 ((((w6.setCell ⟨w3.heap.size,2,none⟩ (.bool false)).setCell ⟨w.heap.size,0,none⟩ (.int .i64 i)).alloc (.cells #[.pointer (some ⟨w3.heap.size,0,none⟩),.int .i64 er] 317)).setCell ⟨w.heap.size+1,0,none⟩ (.int .i64 er)) :=
   Qir (b1.trans (Qis (Qci (Below.refl _ _) _) (Nat.le_trans s6 b1.size))) (Nat.le_succ _)
  have bt:Ty w6 ((((w6.setCell ⟨w3.heap.size,2,none⟩ (.bool false)).setCell ⟨w.heap.size,0,none⟩ (.int .i64 i)).alloc (.cells #[.pointer (some ⟨w3.heap.size,0,none⟩),.int .i64 er] 317)).setCell ⟨w.heap.size+1,0,none⟩ (.int .i64 er)) :=
   ((((Ty.refl w6).set kg6 (.inr (.inr rfl)) _).set (Qdd ka6 (p:=⟨w3.heap.size,2,none⟩) ha2 (.bool false)) (.inl rfl) _).alloc _).set (Qdp (Qdd (Qdd ke6 (p:=⟨w3.heap.size,2,none⟩) he2 (.bool false)) (p:=⟨w.heap.size,0,none⟩) hea (.int .i64 i)) _) (.inr (.inl rfl)) _
  refine leaves_cons (f:=218) (args:=#[.pointer (some ⟨w3.heap.size+1,0,none⟩),.pointer (some ⟨w.heap.size,0,none⟩),.pointer (some ⟨w.heap.size+1,0,none⟩)]) (by simp) (by simp[go_sem]) ?_;refine(Qpx w3.heap.size w.heap.size (w.heap.size+1) (w3.heap.size+1) i 0 0 er v6 _ kp6 kg6 ka6 ke6).mono ?_;rintro e u' w'' ⟨rfl,rfl,rfl⟩;show Leaves _ _ _ _ [] .returning _;exact⟨_,Qpy _ _ _ _ i er rfl rfl ba9 be9,er,i,rfl,HST.out _ _ _ _ hp6 bl bt⟩
theorem Qqa(F:Nat)(cap:Array Value)(A0:Option Addr)(c0:Nat)(l0:List Int)(w:World)(hr0:Kd.C (Kd.int .u8) w A0 l0.length l0)(hl:l0.length≤140737488355328)
  (hcf:∀(as_:Array Value) (W:World),(callFunc F as_).run Tryz.prog W=.ok (.enter F as_) W)
  (Post:Int→Int→World→Prop) (hst:∀er i W W',Post er i W→Below w.heap.size W W'→Post er i W')
  (hrd:∀(W:World) (g:Nat),w.heap.size≤g→Below w.heap.size w W→IsCur W w.heap.size g l0 0→Calls Tryz.prog F (#[.pointer (some ⟨g,0,none⟩)]++cap) W fun e W'=>∃i,IsCur W' w.heap.size g l0 i∧Tl w.heap.size g W W' ∧
   ((e=.returned (.tuple #[])∧Post 0 i W')∨∃er,e=.panicked [Qlq g er]∧Post er i W')) :
  Calls Tryz.prog 170 #[.slice A0 l0.length c0,.func (.func F) #[] cap] w fun e w'=>∃er i,e=.returned (.tuple #[.int .i64 i,.int .i64 er])∧Post er i w' :=
 Qpz F cap A0 c0 l0 w hr0 hl hcf Post (fun er i W W' h1 h2 _=>hst er i W W' h1 h2) hrd
def Qsr(l:List Int):Bool:=l.all (fun x=>x == 255)
theorem Qss(x:Int)(w:World):Calls Tryz.prog 187 #[.int .u8 x] w fun e w'=>e=.returned (.bool (x != 255))∧w'=w:=by
 go_enter Tryz.func187,Tryz.ntmps187
 go_wp2;go_ret
 exact⟨rfl,rfl⟩
theorem Qst(A:Option Addr)(c:Nat)(l:List Int)(w:World)(hr:Kd.C (Kd.int .u8) w A l.length l)(hl:l.length≤140737488355328) :
  Calls Tryz.prog 241 #[.slice A l.length c,.func (.func 187) #[] #[]] w fun e w'=>∃r,e=.returned (.int .i64 r)∧decide (0≤r)=!Qsr l∧w'=w:=by
 have HR:=QA hr;clear hr
 go_enter Tryz.func241,Tryz.ntmps241
 go_wp2
 go_loopw [5,8] (fun v5 v8 wr=>∃(j:Nat) (iv:Int),j≤l.length∧v8=.int .i64 iv∧Aside0 (iv=(j:Int))∧Aside0 (Qsr (l.take j)=true)∧wr=w)
  (fun _ v8 _=>l.length-(intOf v8).toNat)
 case atStart=>exact⟨0,0,Nat.zero_le _,rfl,⟨rfl⟩,⟨rfl⟩,rfl⟩
 case round =>
  obtain⟨j,iv,hj,rfl,HJ,HA,rfl⟩:=hrel
  by_cases hlt:j<l.length
  ·have hlt2:iv<(l.length:Int):=by have:=HJ.out;omega
   have hge:0≤iv:=by have:=HJ.out;omega
   have hwi:IntKind.i64.wrap (iv+1)=iv+1:=IntWalk.i64_in _ (by omega);obtain⟨ad,hA,hx⟩:=Kd.at_int HR.out iv hge hlt2;subst hA;obtain⟨x,hxx⟩:∃x,x=YtepkfjmjidjedaaGreatW.PrintWords.rd l iv:=⟨_,rfl⟩;rw[← hxx]at hx;have HX:=QA hxx;clear hxx;have ht:l.take (j+1)=l.take j++[x]:=by
    rw[HX.out,HJ.out,List.take_succ_eq_append_getElem hlt]
    congr 1
    simp[rd,List.getD,List.getElem?_eq_getElem hlt]
   have HT:=QA ht;clear ht
   by_cases h5:x=255
   ·subst h5;have hne:((255:Int) != 255)=false:=rfl
    go_wp2_with (go_at_call 187;refine(Qss 255 _).mono ?_;rintro ee w1 ⟨rfl,rfl⟩)
    go_roundw
    case rel=>exact⟨j+1,iv+1,hlt,rfl,⟨by have:=HJ.out;omega⟩,⟨by rw[HT.out];unfold Qsr at HA ⊢;rw[List.all_append,HA.out];rfl⟩,trivial⟩
    case measure=>have:=HJ.out;simp[intOf];omega
   ·have hne:(x != 255)=true:=bne_iff_ne.2 h5
    go_wp2_with (go_at_call 187;refine(Qss x _).mono ?_;rintro ee w1 ⟨rfl,rfl⟩)
    go_ret
    refine⟨_,rfl,?_,rfl⟩;rw[decide_eq_true hge];have hm:x∈l:=by
     have:x∈l.take (j+1):=by rw[HT.out];simp
     exact List.mem_of_mem_take this
    have:Qsr l=false:=by
     unfold Qsr;rw[List.all_eq_false];exact⟨x,hm,by simpa using h5⟩
    rw[this];rfl
  ·obtain rfl:j=l.length:=by omega
   have e1:iv=(l.length:Int):=HJ.out;subst e1;go_wp2;go_ret
   have h:=HA.out;rw[List.take_length]at h;exact⟨_,rfl,by rw[h];rfl,rfl⟩
theorem Qsu(A:Option Addr)(c:Nat)(l:List Int)(w:World)(hr:Kd.C (Kd.int .u8) w A l.length l)(hl:l.length≤140737488355328) :
  Calls Tryz.prog 125 #[.slice A l.length c] w fun e w'=>e=.returned (.bool (Qsr l))∧w'=w:=by
 have HR:=QA hr;clear hr;have hcon:Calls Tryz.prog 186 #[.slice A l.length c,.func (.func 187) #[] #[]] w fun e w'=>e=.returned (.bool (!Qsr l))∧w'=w:=by
  go_enter Tryz.func186,Tryz.ntmps186
  go_wp2_with (go_at_call 241;refine(Qst A c l _ HR.out hl).mono ?_;rintro ee w1 ⟨r,rfl,hd,rfl⟩)
  go_ret
  exact⟨by rw[← hd];rfl,rfl⟩
 have HC:=QA hcon;clear hcon;obtain⟨q,hq⟩:∃q,q=Qsr l:=⟨_,rfl⟩;rw[← hq]at HC ⊢;have HQ:=QA hq;clear hq
 go_enter Tryz.func125,Tryz.ntmps125
 go_wp2_with (go_at_call 186;refine HC.out.mono ?_;rintro ee w1 ⟨rfl,rfl⟩)
 go_ret
 exact⟨by simp,rfl⟩
def Qat.f(a0:Int):Option (Int × Int):=if 0≤a0 then if a0<256 then some (12+a0%2,1+a0/2%8)else none else none
theorem Qat.calls(a0:Int)(r1:Int)(r2:Int)(w:World)(h:Qat.f a0=some (r1,r2)) :
  Calls Tryz.prog 14 #[.int .u8 a0] w fun e w'=>e=.returned (.agg #[.int .u8 r1,.int .u32 r2])∧Below w.heap.size w w':=by
 unfold Qat.f at h
 by_cases h0:0≤a0
 ·by_cases h1:a0<256
  ·rw[if_pos h0,if_pos h1]at h;simp only[Option.some.injEq,Prod.mk.injEq]at h;have hr1:=QA h.1;have hr2:=QA h.2;clear h;have hu:=Tryz.underlying40;have e1:Int.tmod a0 2=a0%2:=Int.tmod_eq_emod_of_nonneg h0;have e2:Int.tdiv a0 2=a0/2:=Int.tdiv_eq_ediv_of_nonneg h0;have e3:(12+a0%2)%256=12+a0%2:=by omega
   have e4:a0/2%256=a0/2:=by omega
   go_enter Tryz.func14,Tryz.ntmps14
   go_wp2_with fail
   refine bodyPost_ret (results_cell_row rfl _ _ w.heap.size 40 #[.int .u8 (12+a0%2),.int .u32 (1+a0/2%8)] (0,0) _ rfl (Qdt w _) Tryz.underlying40 rfl qq_5) rfl ?_;exact⟨by rw[hr1.out,hr2.out],Qci (Below.refl _ _) _⟩
  ·rw[if_pos h0,if_neg h1]at h;cases h
 ·rw[if_neg h0]at h;cases h
end Go.Proofs.YtepkfjmjidjedaaGreat.C
end
