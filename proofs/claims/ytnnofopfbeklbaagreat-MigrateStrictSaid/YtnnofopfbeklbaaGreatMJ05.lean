/- Merged texts. -/
import Derived.Test.YtnnofopfbeklbaaGreatMJ01
import Derived.Lib.SliceRun
import Derived.Shelf.Bytes.SlIndexAt
import Derived.StillTailTactics
import Derived.Test.YtnnofopfbeklbaaGreatMJ02
import Derived.WalkLawsBesides
import Derived.Recover
import Derived.LaidEqlPtr
set_option linter.unusedVariables false
set_option linter.unusedSimpArgs false
set_option maxHeartbeats 8000000
set_option maxRecDepth 100000
section
namespace Go.Proofs.YtnnofopfbeklbaaGreat.C
open Go.RowKit Go.Proofs.YtnnofopfbeklbaaGreatW.PrintWords Go.Proofs.YtnnofopfbeklbaaGreatW.PrintLast Go.Proofs.YtnnofopfbeklbaaGreatW.PrintMore
attribute [local go_sem] Qjk Qjl Qjm Qjn Qjo Qjp Qjq Qjr
def Qcl.l0:Nat→List (S39)→Int→List (S210)→Int→Int→Option ((List (S39)))
 | 0,_,_,_,_,_=>none
 | k+1,x3,x4,x7,x8,x9=>if x9<x8 then(if 0≤x9 then(if x9<(x7.length:Int)then(if x3.length<2932031007402 then(Qcl.l0 k (x3++[(⟨false,IntKind.u64.wrap (x4+1),(Qla x7 x9).f0,(Qla x7 x9).f1⟩:S39)]) (IntKind.u64.wrap (x4+1)) x7 x8 (wrap64 (x9+1)))else(none))else(none))else(none))else(some x3)
def Qcl.f(k:Nat)(l0:List (S210)):Option ((List (S39))):=Qcl.l0 k ([]:List (S39)) 0 l0 (l0.length:Int) 0
theorem Qcl.calls(k:Nat)(A0:Option Addr)(c0:Nat)(l0:List (S210))(r:List (S39))(w:World)(hr0:Kd.C k210 w A0 l0.length l0)(hc0:l0.length≤c0)(h:Qcl.f k l0=some r) :
  Calls Tryz.prog 89 #[.slice A0 l0.length c0] w fun e w'=>∃z:Value,e=.returned (z)∧Kd.R k39 39 w' w.heap.size (fun _=>True) z r∧Below w.heap.size w w':=by
 have hu210:=Tryz.underlying210;have hu39:=Tryz.underlying39;have E:=QA hr0;have U:=QA hc0;clear hr0 hc0;have HB:=QA (Below.refl w.heap.size w);have H:(Qcl.l0 k ([]:List (S39)) 0 l0 (l0.length:Int) 0)=some r:=h;clear h;have H':=QA H;clear H
 go_enter Tryz.func89,Tryz.ntmps89
 go_wp2
 go_loopg [3,4,9] k (fun kq v3 v4 v9 w'=>∃(m:List (S39)) (c:Int) (a:Int),v4=.int .u64 c∧v9=.int .i64 a∧Aside0 (Qcl.l0 kq m c l0 (l0.length:Int) a=some r)∧Aside0 (kq≤k)∧Aside0 (Kd.R k39 39 w' w.heap.size (fun _=>True) v3 m)∧Aside0 (Below w.heap.size w w'))
 case atStart=>exact⟨(([]:List (S39))),(0),(0),qq_8,qq_8,H',⟨Nat.le_refl _⟩,⟨by first|exact Kd.R_nil _ _ _ _ _|exact Kd.N_nil _ _ _ _ _|exact Kd.V_nil _ _ _ _ _|exact Kd.Q_nil _ _ _ _ _|exact Kd.S_nil _ _ _ _ _⟩,⟨qq_b⟩⟩
 case round =>
  clear H';obtain⟨m,c,a,rfl,rfl,HA,HK1,HO_3,HB⟩:=hrel
  cases gk with
  | zero=>exact absurd HA.out (by simp[Qcl.l0])
  | succ k1 =>
   have H:=HA.out;clear HA;simp only[Qcl.l0]at H
   by_cases c2:a<(l0.length:Int)
   ·rw [if_pos c2]at H;have A:decide (a<(l0.length:Int))=true:=decide_eq_true c2;clear c2
    by_cases c3:0≤a
    ·rw[if_pos c3]at H;have M:decide (0≤a)=true:=decide_eq_true c3;clear c3
     by_cases c4:a<(l0.length:Int)
     ·rw[if_pos c4]at H;have O:decide (a<(l0.length:Int))=true:=decide_eq_true c4;clear c4
      by_cases c5:m.length<2932031007402
      ·rw[if_pos c5]at H;have B:=QA c5;clear c5;obtain⟨u,j⟩:∃y_:List (S39),y_=(m++[(⟨false,IntKind.u64.wrap (c+1),(Qla l0 a).f0,(Qla l0 a).f1⟩:S39)]):=⟨_,rfl⟩;replace H:(Qcl.l0 k1 u (IntKind.u64.wrap (c+1)) l0 (l0.length:Int) (wrap64 (a+1)))=some r:=by first |(rw[j];with_reducible exact H) |(have v:=(Option.bind_some _ _).symm.trans H;rw[j];with_reducible exact v) |(have v:=(Option.bind_some _ _).symm.trans H;with_reducible exact v)|with_reducible exact H |(rw[j];exact H)|exact H
       have x:=QA j;clear j;have H':=QA H;clear H;have s:0≤(a:Int):=of_decide_eq_true qq_6;have t:a<(l0.length:Int):=of_decide_eq_true qq_6;obtain⟨J,D,n,q⟩:=at_T210 E.out a s t
       cases D
       replace n:=qq_h HB.out n;replace q:=qq_h HB.out q;replace s:=eq_true s;replace t:=eq_true t
       go_wp2_with (first |((with_reducible refine Qgt (N:=6) rfl ?_);refine qq_e 6 #[.string (⟨#[]⟩:ByteArray),.string (⟨#[]⟩:ByteArray)] 210 ?_;intro l hg w6 hbox hb;have n_:=qn5 (Kd.R_below qq_5 hb) (Qgi qq_b hb) (hbox) (qq_s hg:w.heap.size≤l) (qq_s hg:w.heap.size≤l);clear HO_3 HB;obtain⟨HO_3,HB,d,K,L⟩:=n_;clear hb hbox hg;obtain⟨G,I⟩:=qc2 d.out;have P:=Qep d.out) |((with_reducible refine Qjt (b:=.append) (xs:=#[.tmp 15,.tmp 22]) rfl ?_);at_builtin;refine Kd.R_append k39 (w0:=w) w.heap.size rfl (.tmp 15) (.tmp 22) 23 39 (.agg #[(.bool false),(.int .u64 0),(.string ⟨#[]⟩),(.string ⟨#[]⟩)]) 48 rfl Tryz.underlying23 Qke rfl (by decide) (by omega) u3 m (⟨false,IntKind.u64.wrap (c+1),(Qla l0 a).f0,(Qla l0 a).f1⟩:S39) [.bool false,.int .u64 (IntKind.u64.wrap (c+1)),.string ((Qla l0 a).f0),.string ((Qla l0 a).f1)] (fun _=>True) (fun _=>False) rfl qq_13 ?aP (fun _ hk=>hk.elim) ?aF ?aO ?aB ?aS ?aL ?_;(case aP=>exact Qkh _ _ _ (⟨false,IntKind.u64.wrap (c+1),(Qla l0 a).f0,(Qla l0 a).f1⟩:S39));(case aB=>exact qq_b);(case aF=>exact(fun _ _=>trivial));(case aO=>exact(by(with_reducible repeat(first|apply Kd.R_alloc|apply Kd.R_drewN|apply Kd.R_drew));exact Kd.R_mono (Kd.R_far (p:=⟨l,1,none⟩) (Kd.R_far (p:=⟨l,0,none⟩) (Kd.R_types HO_3.out d.out (by decide)) (fun _ hk=>hk.2) (.string ((Qla l0 a).f0))) (fun _ hk=>hk.2) (.string ((Qla l0 a).f1))) (fun _ hk=>trivial)));(case aS=>exact(Qgh qq_b));(case aL=>have:=B.out;omega);intro T w8 ho hb hg hat;rw[← x.out]at ho;have n_:=qn3 (Qeq (g:=l) (o:=.cells #[.string ((Qla l0 a).f0),.string ((Qla l0 a).f1)] 210 (0,0)) qq_x hg (Kd.R_ne HO_3.out d.out (by decide))) (hb) (ho);clear d HB HO_3;obtain⟨d,HB,y⟩:=n_;clear ho hb hg hat))
       go_roundg k1
       case measure=>have:=HK1.out;omega
       case rel=>exact⟨(u),(IntKind.u64.wrap (c+1)),(wrap64 (a+1)),qq_8,qq_8,H',⟨by have:=HK1.out;omega⟩,⟨by(with_reducible repeat(first|apply Kd.R_alloc|apply Kd.R_drewN|apply Kd.R_drew));exact y.out⟩,⟨qq_b⟩⟩
      ·rw[if_neg c5]at H;exact absurd H (by simp)
     ·rw[if_neg c4]at H;exact absurd H (by simp)
    ·rw[if_neg c3]at H;exact absurd H (by simp)
   ·rw[if_neg c2]at H;have A:decide (a<(l0.length:Int))=false:=decide_eq_false c2;clear c2;obtain rfl:=Option.some.inj H;go_wp2;go_ret
    exact⟨_,by first|rfl |(simp[Qjz,Qka]<;>rfl) |(simp[*,Qjz,Qka]<;>rfl),by(with_reducible repeat(first|apply Kd.R_alloc|apply Kd.R_drewN|apply Kd.R_drew));exact HO_3.out,qq_b⟩
end Go.Proofs.YtnnofopfbeklbaaGreat.C
end
section
namespace Go.Proofs.YtnnofopfbeklbaaGreat.C
open Go.RowKit Go.Proofs.YtnnofopfbeklbaaGreatW.PrintWords Go.Proofs.YtnnofopfbeklbaaGreatW.PrintLast Go.Proofs.YtnnofopfbeklbaaGreatW.PrintMore
abbrev R8(W:World)(b:Nat)(v:Value)(xs:List Int):Prop:=Kd.R (Kd.int .u8) 5 W b (fun _=>True) v xs
def IsBuf(W:World)(b g:Nat)(xs:List Int):Prop:=∃v,W.heap[g]? = some (.cells #[v] 167 (0,0))∧R8 W b v xs
def leb:Int→Nat→List Int
 | _,0=>[]
 | x,n+1=>x%256 :: leb (x/256) n
theorem Qlb:∀(n:Nat) (x:Int),(leb x n).length=n
 | 0,_=>rfl
 | n+1,x=>by simp[leb,Qlb n]
theorem R8.lit(W:World)(b:Nat)(hb:b≤W.heap.size)(xs:List Int)(hm:xs.length≤9223372036854775807):R8 (W.alloc (.cells (nums .u8 xs).toArray 5)) b (.slice (some ⟨W.heap.size,0,none⟩) xs.length xs.length) xs :=
 Kd.R_of_own (own_lit W b 5 .u8 xs hb hm) (fun _ _=>trivial)
theorem R8.clean{W:World}{b g t:Nat}{v:Value}{xs:List Int}{cs:Array Value}(h:R8 W b v xs)(hg:W.heap[g]? = some (.cells cs t (0,0)))(ht:5≠t):some g≠v.ownBlock:=Kd.R_ne h hg ht
theorem R8.set{W:World}{b g t:Nat}{v:Value}{xs:List Int}{cs:Array Value}(h:R8 W b v xs)(hg:W.heap[g]? = some (.cells cs t (0,0)))(ht:5≠t)(j:Nat)(u:Value):R8 (W.setCell ⟨g,j,none⟩ u) b v xs :=
 Kd.R_set h hg (by intro q hq;rcases List.mem_cons.1 hq with rfl|hq;exact ht;cases hq) j u
theorem R8.kept{W W':World}{b:Nat}{v:Value}{xs:List Int}(h:R8 W b v xs)(hb:Below W.heap.size W W'):R8 W' b v xs:=Kd.R_below h hb
theorem R8.low{W:World}{b b':Nat}{v:Value}{xs:List Int}(h:R8 W b v xs)(hb:b'≤b):R8 W b' v xs:=Kd.R_lower h hb
theorem R8.shape{W:World}{b:Nat}{v:Value}{xs:List Int}(h:R8 W b v xs):∃A n c,v=.slice A n c:=by
 obtain⟨A,c,e⟩:=Kd.R_slice h;exact⟨A,_,c,e⟩
theorem IsBuf.kept{W W':World}{b g:Nat}{xs:List Int}(h:IsBuf W b g xs)(hb:Below W.heap.size W W'):IsBuf W' b g xs:=by
 obtain⟨v,h1,h2⟩:=h;exact⟨v,Qfd h1 hb,h2.kept hb⟩
theorem IsBuf.lt{W:World}{b g:Nat}{xs:List Int}(h:IsBuf W b g xs):g<W.heap.size:=by
 obtain⟨v,h1,h2⟩:=h;exact Qen h1
theorem IsBuf.put{W w1:World}{b g:Nat}{v v1:Value}{xs ys:List Int}(hv:W.heap[g]? = some (.cells #[v] 167 (0,0)))(hR:R8 W b v xs)(hg:W.grownBy w1 v.ownBlock)(h1:R8 w1 b v1 ys) :
  w1.heap[g]? = some (.cells #[v] 167 (0,0))∧IsBuf (w1.setCell ⟨g,0,none⟩ v1) b g ys:=by
 have hv1:=Qeq hv hg (hR.clean hv (by decide));exact⟨hv1,v1,Qel hv1 0 v1,h1.set hv1 (by decide) 0 v1⟩
theorem Qlc{b:Nat}{w W:World}{g j:Nat}{v:Value}(h:Below b w W)(hg:b≤g):Below b w (W.setCell ⟨g,j,none⟩ v):=h.setCell hg _
theorem Qld{b b':Nat}{w W:World}(h:Below b w W)(hb:b'≤b):Below b' w W:=⟨h.os,h.tape,h.output,h.size,fun i hi=>h.block i (by omega)⟩
def Tk(g:Nat)(w w':World):Prop:=∀k cs t,w.heap[k]? = some (.cells cs t (0,0))→t≠5→k≠g→w'.heap[k]? = some (.cells cs t (0,0))
def Bw(b g:Nat)(w w':World):Prop:=Below b w w'∧Tk g w w'
theorem Tk.refl(g:Nat)(w:World):Tk g w w:=fun _ _ _ h _ _=>h
theorem Tk.trans{g:Nat}{a b c:World}(h:Tk g a b)(k:Tk g b c):Tk g a c:=fun _ _ _ h1 h2 h3=>k _ _ _ (h _ _ _ h1 h2 h3) h2 h3
theorem Tk.below{g:Nat}{w w':World}(h:Below w.heap.size w w'):Tk g w w':=fun _ _ _ h1 _ _=>Qfd h1 h
theorem Bw.refl(b g:Nat)(w:World):Bw b g w w:=⟨Below.refl _ _,Tk.refl _ _⟩
theorem Bw.trans{b g:Nat}{x y z:World}(h:Bw b g x y)(k:Bw b g y z):Bw b g x z:=⟨h.1.trans k.1,h.2.trans k.2⟩
theorem Bw.below{b g:Nat}{w w':World}(h:Below w.heap.size w w')(hb:b≤w.heap.size):Bw b g w w':=⟨Qld h hb,Tk.below h⟩
theorem Bw.size{b g:Nat}{w w':World}(h:Bw b g w w'):w.heap.size≤w'.heap.size:=h.1.size
theorem Bw.put{W w1:World}{b g:Nat}{v v1:Value}{xs:List Int}(hbg:b≤g)(hv:W.heap[g]? = some (.cells #[v] 167 (0,0)))(hR:R8 W b v xs)(hb:Below b W w1)(hg:W.grownBy w1 v.ownBlock):Bw b g W (w1.setCell ⟨g,0,none⟩ v1):=by
 refine⟨Qlc hb hbg,fun k cs t h1 h2 h3=>?_⟩;have hne:some k≠v.ownBlock:=Kd.R_ne hR h1 (fun e=>h2 e.symm);have h4:=Qeq h1 hg hne;exact Qem h4 h3 v1
theorem Qle(A0:Option Addr)(c0:Nat)(l0:List Int)(w:World)(hr0:Kd.C (Kd.int .u8) w A0 l0.length l0)(hl:l0.length≤140737488355328) :
  Calls Tryz.prog 70 #[.slice A0 l0.length c0] w fun e w'=>∃b:Value,e=.returned (b)∧R8 w' w.heap.size b l0∧Below w.heap.size w w':=by
 have hu:=Tryz.underlying52;have g:∀(w:World) (a:Option Addr) (n c n' c':Nat),(binOp .eql 52 (.slice a n c) (.slice none n' c')).run Tryz.prog w=.ok (.bool a.isNone) w:=fun w a n c n' c'=>Lib.run_eql_slice_nil w _ _ a n c n' c' hu
 cases A0 with
 | none =>
  obtain rfl:l0=[]:=by
   cases l0 with
   | nil=>rfl
   | cons a t=>obtain⟨ad,c,h1,_⟩:=Kd.C_get hr0 0 0 (by omega) (by simp);cases h1
  go_enter Tryz.func70,Tryz.ntmps70
  go_wp2;go_ret
  exact⟨_,rfl,Kd.R_nil _ _ _ _ _,Below.refl _ _⟩
 | some ad =>
  go_enter Tryz.func70,Tryz.ntmps70
  go_wp2_with (first |(at_builtin;refine Kd.R_append_row (Value.int .u8) (0:Int) (h1:=fun _=>rfl) (w0:=w) w.heap.size rfl (.tmp 5) (.tmp 6) 52 5 (.int .u8 0) 1 rfl Tryz.underlying52 Qkb rfl (by decide) _ [] l0 (some ad) l0.length c0 (fun _=>True) rfl rfl (fun _ _=>trivial) ?hO ?hR ?hB ?hS ?hL ?_;(case hO=>exact R8.lit w w.heap.size (Nat.le_refl _) [] (by simp));(case hR=>exact Kd.C_below hr0 (Qdq (Below.refl _ _) _));(case hB=>exact Qdq (Below.refl _ _) _);(case hS=>simp);(case hL=>simp;omega);intro v1 w1 d hb1 h hat1;simp only[List.nil_append]at d))
  go_ret
  exact⟨_,rfl,d,hb1⟩
def Ow(g:Nat)(w w':World):Prop:=∀(k:Nat) (o:Obj) (v:Value),w.heap[g]? = some (.cells #[v] 167 (0,0))→w.heap[k]? = some o→k≠g→some k≠v.ownBlock →
 w'.heap[k]? = some o∧∃v',w'.heap[g]? = some (.cells #[v'] 167 (0,0))∧some k≠v'.ownBlock
theorem Ow.refl(g:Nat)(w:World):Ow g w w:=fun k o v h1 h2 _ h4=>⟨h2,v,h1,h4⟩
theorem Ow.trans{g:Nat}{a b c:World}(h:Ow g a b)(h':Ow g b c):Ow g a c:=fun k o v h1 h2 h3 h4=>by
 obtain⟨h5,v',h6,h7⟩:=h k o v h1 h2 h3 h4;exact h' k o v' h6 h5 h3 h7
theorem Ow.put{W w1:World}{g:Nat}{v v1:Value}(hv:W.heap[g]? = some (.cells #[v] 167 (0,0)))(hg:W.grownBy w1 v.ownBlock)(hv1:w1.heap[g]? = some (.cells #[v] 167 (0,0)))(hat:v1.ownBlock=v.ownBlock∨∃b,v1.ownBlock=some b∧W.heap.size≤b):Ow g W (w1.setCell ⟨g,0,none⟩ v1):=by
 intro k o v0 h1 h2 h3 h4;rw[hv]at h1;obtain rfl:v=v0:=by
  have:=Option.some.inj h1
  injection this with h
  injection h with h
  injection h
 refine⟨(Below.heap_setCell w1 ⟨g,0,none⟩ v1 k h3).trans (Qeq h2 hg h4),v1,Qel hv1 0 v1,?_⟩
 rcases hat with h |⟨b,h,hb⟩
 ·rw[h];exact h4
 ·rw[h];intro e;have:=Qen h2;have e2:=Option.some.inj e;omega
theorem Qlf(b g:Nat)(x:Int)(n:Nat)(xs:List Int)(w:World)(d:0≤x)(h:x<18446744073709551616)(hbg:b≤g)(hbw:b≤w.heap.size)(hI:IsBuf w b g xs)(hl:xs.length+n≤140737488355328) :
  Calls Tryz.prog 149 #[.pointer (some ⟨g,0,none⟩),.int .u64 x,.int .i64 n] w fun e w'=>e=.returned (.pointer (some ⟨g,0,none⟩))∧IsBuf w' b g (xs++leb x n)∧Bw b g w w'∧Ow g w w':=by
 have HI:=QA hI;clear hI
 go_enter Tryz.func149,Tryz.ntmps149
 go_wp2
 go_loopw [1,8] (fun v1 v8 wr=>∃(k:Nat) (ys:List Int) (iv xv:Int),k≤n∧ys.length=k∧v8=.int .i64 iv∧v1=.int .u64 xv∧0≤xv∧xv<18446744073709551616∧Aside0 (iv=(k:Int))∧Aside0 (leb x n=ys++leb xv (n-k))∧Aside0 (IsBuf wr b g (xs++ys))∧Aside0 (Bw b g w wr)∧Aside0 (Ow g w wr))
  (fun _ v8 _=>n-(intOf v8).toNat)
 case atStart=>exact⟨0,[],0,x,Nat.zero_le _,rfl,rfl,rfl,d,h,⟨rfl⟩,⟨rfl⟩,⟨by simpa using HI.out⟩,⟨Bw.refl _ _ _⟩,⟨Ow.refl _ _⟩⟩
 case round =>
  obtain⟨k,ys,iv,xv,hk,hys,rfl,rfl,m,o,HK,HL,HB,HW,HO⟩:=hrel
  by_cases hlt:k<n
  ·have hlt2:iv<(n:Int):=by have:=HK.out;omega
   have hge:0≤iv:=by have:=HK.out;omega
   obtain⟨v,hv,hR⟩:=HB.out;have hc:wr.cell? ⟨g,0,none⟩=some v:=(Qeo hv 0).trans rfl;have HV:=QA hv;have HR:=QA hR;clear hv hR
   go_wp2_with ((at_builtin;refine Kd.R_append (Kd.int .u8) (w0:=wr) b rfl (.tmp 14) (.tmp 17) 52 5 (.int .u8 0) 1 rfl Tryz.underlying52 Qkb rfl (by decide) (by omega) v (xs++ys) (xv%256) [.int .u8 (xv%256)] (fun _=>True) (fun _=>False) rfl ?ax ?aP (fun _ hk=>hk.elim) ?aF ?aO ?aB ?aS ?aL ?_;(case ax=>rfl);(case aP=>rfl);(case aF=>exact fun _ _=>trivial);(case aO=>exact HR.out);(case aB=>exact Below.refl _ _);(case aS=>exact Nat.le_trans hbw HW.out.size);(case aL=>simp;omega);intro v1 w1 c hb1 a hat1;obtain⟨A1,n1,c1,rfl⟩:=R8.shape c;obtain⟨hv1,hI1⟩:=IsBuf.put HV.out HR.out a c;have hfz:=Qep hv1 0;have hc1:w1.cell? ⟨g,0,none⟩=some v:=(Qeo hv1 0).trans rfl;have HI1:=QA hI1;have j:=QA (HO.out.trans (Ow.put (v1:=.slice A1 n1 c1) HV.out a hv1 hat1));have l:=QA (HW.out.trans (Bw.put (v1:=.slice A1 n1 c1) hbg HV.out HR.out hb1 a));clear hI1 hb1 a hat1 c hv1))
   go_roundw
   case rel=>exact⟨k+1,ys++[xv%256],iv+1,xv/256,by omega,by simp[hys],by go_num,by go_num,by omega,by omega,⟨by have:=HK.out;omega⟩,⟨by
    rw[HL.out,show n-k=(n-(k+1))+1 by omega,leb];simp⟩,⟨by rw[← List.append_assoc];exact HI1.out⟩,⟨l.out⟩,⟨j.out⟩⟩
   case measure=>simp[intOf];omega
  ·obtain rfl:k=n:=by omega
   have e1:iv=(k:Int):=HK.out;subst e1;go_wp2;go_ret
   refine⟨rfl,?_,HW.out,HO.out⟩;have e:=HL.out;rw[Nat.sub_self]at e;rw[e]
   simpa [leb]using HB.out
theorem Qlg(b g:Nat)(x:Int)(n:Nat)(xs:List Int)(w:World)(hx0:0≤x)(hx1:x<18446744073709551616)(hbg:b≤g)(hbw:b≤w.heap.size)(hI:IsBuf w b g xs)(hl:xs.length+n≤140737488355328) :
  Calls Tryz.prog 149 #[.pointer (some ⟨g,0,none⟩),.int .u64 x,.int .i64 n] w fun e w'=>e=.returned (.pointer (some ⟨g,0,none⟩))∧IsBuf w' b g (xs++leb x n)∧Bw b g w w':=(Qlf b g x n xs w hx0 hx1 hbg hbw hI hl).mono (by rintro e w' ⟨h1,h2,h3,_⟩;exact⟨h1,h2,h3⟩)
theorem Qlh(b g:Nat)(x:Int)(xs:List Int)(w:World)(hx0:0≤x)(hx1:x<256)(hbg:b≤g)(hbw:b≤w.heap.size)(hI:IsBuf w b g xs)(hl:xs.length+1≤140737488355328) :
  Calls Tryz.prog 94 #[.pointer (some ⟨g,0,none⟩),.int .u8 x] w fun e w'=>e=.returned (.pointer (some ⟨g,0,none⟩))∧IsBuf w' b g (xs++[x])∧Bw b g w w':=by
 go_enter Tryz.func94,Tryz.ntmps94
 go_wp2_with (go_at_call 149;refine(Qlg b g x 1 xs w hx0 (by omega) hbg hbw hI hl).mono ?_;rintro e w' ⟨rfl,hd,hb⟩)
 go_ret
 refine⟨rfl,?_,hb⟩;have e:leb x 1=[x]:=by simp[leb];omega
 rw[e]at hd;exact hd
theorem Qli(b g:Nat)(x:Int)(xs:List Int)(w:World)(hx0:0≤x)(hx1:x<4294967296)(hbg:b≤g)(hbw:b≤w.heap.size)(hI:IsBuf w b g xs)(hl:xs.length+4≤140737488355328) :
  Calls Tryz.prog 112 #[.pointer (some ⟨g,0,none⟩),.int .u32 x] w fun e w'=>e=.returned (.pointer (some ⟨g,0,none⟩))∧IsBuf w' b g (xs++leb x 4)∧Bw b g w w'∧Ow g w w':=by
 go_enter Tryz.func112,Tryz.ntmps112
 go_wp2_with (go_at_call 149;refine(Qlf b g x 4 xs w hx0 (by omega) hbg hbw hI hl).mono ?_;rintro e w' ⟨rfl,hd,hb,ho⟩)
 go_ret
 exact⟨rfl,hd,hb,ho⟩
theorem Qlj(b g:Nat)(x:Int)(xs:List Int)(w:World)(hx0:0≤x)(hx1:x<4294967296)(hbg:b≤g)(hbw:b≤w.heap.size)(hI:IsBuf w b g xs)(hl:xs.length+4≤140737488355328) :
  Calls Tryz.prog 112 #[.pointer (some ⟨g,0,none⟩),.int .u32 x] w fun e w'=>e=.returned (.pointer (some ⟨g,0,none⟩))∧IsBuf w' b g (xs++leb x 4)∧Bw b g w w':=(Qli b g x xs w hx0 hx1 hbg hbw hI hl).mono (by rintro e w' ⟨h1,h2,h3,_⟩;exact⟨h1,h2,h3⟩)
theorem Qlk(b g:Nat)(x:Int)(xs:List Int)(w:World)(hx0:0≤x)(hx1:x<18446744073709551616)(hbg:b≤g)(hbw:b≤w.heap.size)(hI:IsBuf w b g xs)(hl:xs.length+8≤140737488355328) :
  Calls Tryz.prog 151 #[.pointer (some ⟨g,0,none⟩),.int .u64 x] w fun e w'=>e=.returned (.pointer (some ⟨g,0,none⟩))∧IsBuf w' b g (xs++leb x 8)∧Bw b g w w':=by
 go_enter Tryz.func151,Tryz.ntmps151
 go_wp2_with (go_at_call 149;refine(Qlg b g x 8 xs w hx0 hx1 hbg hbw hI hl).mono ?_;rintro e w' ⟨rfl,hd,hb⟩)
 go_ret
 exact⟨rfl,hd,hb⟩
theorem Qll(b g:Nat)(A0:Option Addr)(c0:Nat)(ys:List Int)(xs:List Int)(w:World)(hr0:Kd.C (Kd.int .u8) w A0 ys.length ys)(hbg:b≤g)(hbw:b≤w.heap.size)(hI:IsBuf w b g xs)(hl:xs.length+ys.length≤140737488355328) :
  Calls Tryz.prog 150 #[.pointer (some ⟨g,0,none⟩),.slice A0 ys.length c0] w fun e w'=>e=.returned (.pointer (some ⟨g,0,none⟩))∧IsBuf w' b g (xs++ys)∧Bw b g w w'∧Ow g w w':=by
 obtain⟨v,hv,hR⟩:=hI;have hc:w.cell? ⟨g,0,none⟩=some v:=(Qeo hv 0).trans rfl
 go_enter Tryz.func150,Tryz.ntmps150
 go_wp2_with (first |(at_builtin;refine Kd.R_append_row (Value.int .u8) (0:Int) (h1:=fun _=>rfl) (w0:=w) b rfl (.tmp 9) (.tmp 10) 52 5 (.int .u8 0) 1 rfl Tryz.underlying52 Qkb rfl (by decide) v xs ys A0 ys.length c0 (fun _=>True) rfl rfl (fun _ _=>trivial) ?hO ?hR ?hB ?hS ?hL ?_;(case hO=>exact hR);(case hR=>exact hr0);(case hB=>exact Below.refl _ _);(case hS=>exact hbw);(case hL=>omega);intro v1 w1 HR1 hb1 hg1 hat1;obtain⟨A1,n1,c1,rfl⟩:=R8.shape HR1;obtain⟨hv1,hI1⟩:=IsBuf.put hv hR hg1 HR1;have hfz:=Qep hv1 0;have hc1:w1.cell? ⟨g,0,none⟩=some v:=(Qeo hv1 0).trans rfl;have HI1:=QA hI1;have HO1:=QA (Ow.put (v1:=.slice A1 n1 c1) hv hg1 hv1 hat1);have HB1:=QA (Bw.put (v1:=.slice A1 n1 c1) hbg hv hR hb1 hg1);clear hI1 hb1 hg1 hat1 HR1 hv1))
 go_ret
 exact⟨rfl,HI1.out,HB1.out,HO1.out⟩
theorem Qlm(b g:Nat)(A0:Option Addr)(c0:Nat)(ys:List Int)(xs:List Int)(w:World)(hr0:Kd.C (Kd.int .u8) w A0 ys.length ys)(hbg:b≤g)(hbw:b≤w.heap.size)(hI:IsBuf w b g xs)(hl:xs.length+ys.length≤140737488355328) :
  Calls Tryz.prog 150 #[.pointer (some ⟨g,0,none⟩),.slice A0 ys.length c0] w fun e w'=>e=.returned (.pointer (some ⟨g,0,none⟩))∧IsBuf w' b g (xs++ys)∧Bw b g w w':=(Qll b g A0 c0 ys xs w hr0 hbg hbw hI hl).mono (by rintro e w' ⟨h1,h2,h3,_⟩;exact⟨h1,h2,h3⟩)
theorem Qln(b g:Nat)(A0:Option Addr)(c0 n:Nat)(ys:List Int)(xs:List Int)(w:World)(hn:n=ys.length)(hr0:Kd.C (Kd.int .u8) w A0 n ys)(hbg:b≤g)(hbw:b≤w.heap.size)(hI:IsBuf w b g xs)(hl:xs.length+n≤140737488355328) :
  Calls Tryz.prog 150 #[.pointer (some ⟨g,0,none⟩),.slice A0 n c0] w fun e w'=>e=.returned (.pointer (some ⟨g,0,none⟩))∧IsBuf w' b g (xs++ys)∧Bw b g w w':=by
 subst hn;exact Qlm b g A0 c0 ys xs w hr0 hbg hbw hI hl
theorem Qlo(b g:Nat)(xs:List Int)(w:World)(hI:IsBuf w b g xs)(hl:xs.length≤140737488355328) :
  Calls Tryz.prog 97 #[.pointer (some ⟨g,0,none⟩)] w fun e w'=>∃v:Value,e=.returned v∧R8 w' w.heap.size v xs∧Below w.heap.size w w':=by
 obtain⟨v,hv,hR⟩:=hI;obtain⟨A,c,rfl,hlc,hC⟩:=Kd.R_reads hR;have hc:w.cell? ⟨g,0,none⟩=some (.slice A xs.length c):=(Qeo hv 0).trans rfl
 go_enter Tryz.func97,Tryz.ntmps97
 go_wp2_with (go_at_call 70;refine(Qle A c xs w hC hl).mono ?_;rintro e w' ⟨v1,rfl,hd,hb⟩)
 go_ret
 exact⟨_,rfl,hd,hb⟩
def ixOf(l:List Int)(c:Int):Int:=Lib.indexByte (Lib.bytesOf l) c.toNat.toUInt8
def Qae.f(l0:List Int)(a1:Int):Option Int:=some (ixOf l0 a1)
theorem Qae.calls(A0:Option Addr)(c0:Nat)(l0:List Int)(a1:Int)(r:Int)(w:World)(hr0:Kd.C (Kd.int .u8) w A0 l0.length l0)(hc0:l0.length≤c0)(h:Qae.f l0 a1=some r) :
  Calls Tryz.prog 80 #[.slice A0 l0.length c0,.int .u8 a1] w fun e w'=>e=.returned (.int .i64 r)∧Drawn0 w w':=by
 unfold Qae.f at h
 cases h
 have hcall:(callFunc 127 #[.slice A0 l0.length c0,.int .u8 a1]).run Tryz.prog w=.ok (.value (.int .i64 (ixOf l0 a1))) w:=by
  rw[run_callFunc_extern Tryz.func127 qq_7 qq_7 qq_7 (e:=Extern.BytealgIndexByte.indexByte) qq_7]
  cases A0 with
  | none =>
   obtain rfl:l0=[]:=by
    cases l0 with
    | nil=>rfl
    | cons a t=>obtain⟨ad,c,h1,_⟩:=Kd.C_get hr0 0 0 (by omega) (by simp);cases h1
   rw[Lib.run_indexByteNil];rfl
  | some ad =>
   rw[Lib.run_indexByteAt w ad l0.length c0 l0 rfl (fun i hi=>?_)]
   ·rfl
   ·obtain⟨a,ha,hx⟩:=Kd.at_int hr0 (i:Int) (by omega) (by omega)
    cases ha
    simpa [rd]using hx
 go_enter Tryz.func80,Tryz.ntmps80
 go_wp2;go_ret
 exact⟨rfl,Drawn0.refl _⟩
abbrev Q1:Int:=11400714785074694791
abbrev Q2:Int:=14029467366897019727
abbrev Q3:Int:=1609587929392839161
abbrev Q4:Int:=9650029242287828579
abbrev Q5:Int:=2870177450012600261
def IsSt(W:World)(b g:Nat)(sd v0 v1 v2 v3:Int)(rest:List Int)(n:Int):Prop :=
 ∃rv,W.heap[g]? = some (.cells #[.int .u64 sd,.int .u64 v0,.int .u64 v1,.int .u64 v2,.int .u64 v3,rv,.int .u64 n] 274 (0,0))∧R8 W b rv rest
theorem st_New(sd:Int)(w:World) :
  Calls Tryz.prog 155 #[.int .u64 sd] w fun e w'=>e=.returned (.pointer (some ⟨w.heap.size,0,none⟩))∧IsSt w' w.heap.size w.heap.size sd (IntKind.u64.wrap (IntKind.u64.wrap (sd+Q1)+Q2)) (IntKind.u64.wrap (sd+Q2)) sd (IntKind.u64.wrap (sd-Q1)) [] 0∧Below w.heap.size w w':=by
 have hu:=Tryz.underlying274;have hu2:=Tryz.underlying231
 go_enter Tryz.func155,Tryz.ntmps155
 go_wp2_with fail
 go_region
 go_wp2_with fail
 go_region
 go_wp2_with fail
 go_region
 go_wp2_with fail
 go_region
 go_wp2_with fail
 go_ret
 refine⟨rfl,⟨_,Qfe w _,Kd.R_nil _ _ _ _ _⟩,Qdr (Qdr (Qdr (Qdr (Qdq (Below.refl _ _) _))))⟩
def rotP(x n:Int):Int:=(Qad.f x n).getD 0
theorem Qlp(x n:Int)(h:0≤n∧n<64∧Go.bits .and .u64 (IntKind.u64.wrap n) 63=n):Qad.f x n=some (rotP x n):=by
 unfold rotP Qad.f;rw[h.2.2,if_pos h.1,if_pos (by rw[IntWalk.u64_in _ (by omega)];omega)];rfl
def Qlq(x y:Int):Int:=(Qdn.f x y).getD 0
theorem into_is(x y:Int):Qdn.f x y=some (Qlq x y):=by
 unfold Qlq Qdn.f;rw[Qlp _ 31 ⟨by decide,by decide,by kernel_rfl⟩];rfl
def numP(n:Nat)(l:List Int):Int:=(Qdo.f (n+1) l n).getD 0
theorem num8_is(l:List Int)(h:8≤l.length):Qdo.f 9 l 8=some (numP 8 l):=by
 obtain⟨v,hv⟩:∃v,Qdo.f 9 l 8=some v:=by
  simp[Qdo.f,Qdo.l0,show(1:Int)<l.length by omega,show(2:Int)<l.length by omega,show(3:Int)<l.length by omega,show(4:Int)<l.length by omega,show(5:Int)<l.length by omega,show(6:Int)<l.length by omega,show(7:Int)<l.length by omega,show(0:Int)<l.length by omega,wrap64];omega
 unfold numP;rw[show(8:Nat)+1=9 from rfl,show(((8:Nat):Int))=8 from rfl,hv];rfl
theorem num4_is(l:List Int)(h:4≤l.length):Qdo.f 5 l 4=some (numP 4 l):=by
 obtain⟨v,hv⟩:∃v,Qdo.f 5 l 4=some v:=by
  simp[Qdo.f,Qdo.l0,show(1:Int)<l.length by omega,show(2:Int)<l.length by omega,show(3:Int)<l.length by omega,show(0:Int)<l.length by omega,wrap64];omega
 unfold numP;rw[show(4:Nat)+1=5 from rfl,show(((4:Nat):Int))=4 from rfl,hv];rfl
abbrev V4:=Int × Int × Int × Int
def Qlr(v:V4)(l:List Int):V4:=(Qlq v.1 (numP 8 l),Qlq v.2.1 (numP 8 (l.drop 8)),Qlq v.2.2.1 (numP 8 (l.drop 16)),Qlq v.2.2.2 (numP 8 (l.drop 24)))
def Qls:Nat→V4→List Int→V4
 | 0,v,_=>v
 | m+1,v,l=>Qls m (Qlr v l) (l.drop 32)
def lenV:Value→Nat
 | .slice _ n _=>n
 | _=>0
def Qlt(i:Nat)(v:V4)(l:List Int):V4:=(if 0<i then Qlq v.1 (numP 8 l)else v.1,if 1<i then Qlq v.2.1 (numP 8 (l.drop 8))else v.2.1,if 2<i then Qlq v.2.2.1 (numP 8 (l.drop 16))else v.2.2.1,if 3<i then Qlq v.2.2.2 (numP 8 (l.drop 24))else v.2.2.2)
def StAt(W:World)(g:Nat)(sd:Int)(v:V4)(rv:Value)(n:Int):Prop:=W.heap[g]? = some (.cells #[.int .u64 sd,.int .u64 v.1,.int .u64 v.2.1,.int .u64 v.2.2.1,.int .u64 v.2.2.2,rv,.int .u64 n] 274 (0,0))
abbrev Q8(W:World)(b:Nat)(v:Value)(xs:List Int):Prop:=Kd.Q (Kd.int .u8) 5 W b (fun _=>True) v xs
theorem Qlu(A:Option Addr)(n c m:Nat)(j:Int)(hj:j=(m:Int))(hm:m≤n) :
  ∃A':Option Addr,(∀W:World,(Instr.slice 52 (.slice A n c) (some (.int .i64 j)) none none).run Tryz.prog W=.ok (.slice A' (n-m) (c-m)) W) ∧
   ∀(W:World) (b:Nat) (xs:List Int),xs.length=n→Q8 W b (.slice A n c) xs→Q8 W b (.slice A' (n-m) (c-m)) (xs.drop m):=by
 subst hj;obtain⟨i,hi,hsz⟩:∃i,Tryz.prog.info? 5=some i∧i.size=1:=by
  have h:=Qkb
  cases hh:Tryz.prog.info? 5 with
  | none=>rw[hh]at h;cases h
  | some i =>
   rw[hh]at h;simp only[Option.map_some,Option.some.injEq,Prod.mk.injEq]at h;exact⟨i,rfl,h.2.1⟩
 refine⟨if c=m then A else A.map (·.add (m*1)),fun W=>?_,fun W b xs hn hq=>?_⟩
 ·have h:=Qfr (P:=Tryz.prog) 52 5 .i64 Tryz.underlying52 hi 1 hsz A n c (m:Int) (by omega) (by omega) W;rw[Int.toNat_natCast]at h;exact h
 ·exact Kd.Q_drop hq (by omega)
theorem Qlv{W:World}{b:Nat}{A:Option Addr}{n c:Nat}{l:List Int}(hQ:Q8 W b (.slice A n c) l)(h8:8≤l.length) :
  Calls Tryz.prog 200 #[.slice A n c,.int .i64 8] W fun e w'=>e=.returned (.int .u64 (numP 8 l))∧Drawn0 W w':=by
 obtain⟨rfl,h1,h2⟩:=Kd.Q_reads' hQ;exact Qdo.calls 9 A c l 8 _ W h2 h1 (num8_is l h8)
theorem num4_at{W:World}{b:Nat}{A:Option Addr}{n c:Nat}{l:List Int}(hQ:Q8 W b (.slice A n c) l)(h8:4≤l.length) :
  Calls Tryz.prog 200 #[.slice A n c,.int .i64 4] W fun e w'=>e=.returned (.int .u64 (numP 4 l))∧Drawn0 W w':=by
 obtain⟨rfl,h1,h2⟩:=Kd.Q_reads' hQ;exact Qdo.calls 5 A c l 4 _ W h2 h1 (num4_is l h8)
theorem Qlw(x y:Int)(W:World):Calls Tryz.prog 199 #[.int .u64 x,.int .u64 y] W fun e w'=>e=.returned (.int .u64 (Qlq x y))∧Drawn0 W w':=Qdn.calls x y _ W (into_is x y)
def mixP(h x:Int):Int:=IntKind.u64.wrap (IntKind.u64.wrap (Go.bits .xor .u64 h (Qlq 0 x)*Q1)+Q4)
def Qmt(i:Nat)(V:V4):Int :=
 let h1:=IntKind.u64.wrap (0+rotP V.1 1)
 let h2:=IntKind.u64.wrap (h1+rotP V.2.1 7)
 let h3:=IntKind.u64.wrap (h2+rotP V.2.2.1 12)
 let h4:=IntKind.u64.wrap (h3+rotP V.2.2.2 18)
 if i=0 then 0 else if i=1 then h1 else if i=2 then h2 else if i=3 then h3 else h4
def Qmu(i:Nat)(h:Int)(V:V4):Int :=
 let h1:=mixP h V.1
 let h2:=mixP h1 V.2.1
 let h3:=mixP h2 V.2.2.1
 let h4:=mixP h3 V.2.2.2
 if i=0 then h else if i=1 then h1 else if i=2 then h2 else if i=3 then h3 else h4
theorem Qmv(V:V4):Qmt 0 V=0:=by simp[Qmt]
theorem Qmw(V:V4):Qmt 1 V=IntKind.u64.wrap (Qmt 0 V+rotP V.1 1):=by simp[Qmt]
theorem Qmx(V:V4):Qmt 2 V=IntKind.u64.wrap (Qmt 1 V+rotP V.2.1 7):=by simp[Qmt]
theorem Qmy(V:V4):Qmt 3 V=IntKind.u64.wrap (Qmt 2 V+rotP V.2.2.1 12):=by simp[Qmt]
theorem Qmz(V:V4):Qmt 4 V=IntKind.u64.wrap (Qmt 3 V+rotP V.2.2.2 18):=by simp[Qmt]
theorem Qna(h:Int)(V:V4):Qmu 0 h V=h:=by simp[Qmu]
theorem Qnb(h:Int)(V:V4):Qmu 1 h V=mixP (Qmu 0 h V) V.1:=by simp[Qmu]
theorem Qnc(h:Int)(V:V4):Qmu 2 h V=mixP (Qmu 1 h V) V.2.1:=by simp[Qmu]
theorem Qnd(h:Int)(V:V4):Qmu 3 h V=mixP (Qmu 2 h V) V.2.2.1:=by simp[Qmu]
theorem Qne(h:Int)(V:V4):Qmu 4 h V=mixP (Qmu 3 h V) V.2.2.2:=by simp[Qmu]
def Qnf(sd:Int)(V:V4)(n:Int):Int:=if n<32 then IntKind.u64.wrap (sd+Q5)else Qmu 4 (Qmt 4 V) V
theorem Qng(x n:Int)(h:0≤n∧n<64∧Go.bits .and .u64 (IntKind.u64.wrap n) 63=n)(W:World):Calls Tryz.prog 202 #[.int .u64 x,.int .i64 n] W fun e w'=>e=.returned (.int .u64 (rotP x n))∧Drawn0 W w':=Qad.calls x n _ W (Qlp x n h)
theorem StAt.kept{W W':World}{g:Nat}{sd:Int}{V:V4}{rv:Value}{n:Int}(h:StAt W g sd V rv n)(hb:Below W.heap.size W W'):StAt W' g sd V rv n:=Qfd h hb
theorem StAt.cells{W:World}{g:Nat}{sd:Int}{V:V4}{rv:Value}{n:Int}(h:StAt W g sd V rv n) :
  W.cell? ⟨g,0,none⟩=some (.int .u64 sd)∧W.cell? ⟨g,1,none⟩=some (.int .u64 V.1)∧W.cell? ⟨g,2,none⟩=some (.int .u64 V.2.1)∧W.cell? ⟨g,3,none⟩=some (.int .u64 V.2.2.1)∧W.cell? ⟨g,4,none⟩=some (.int .u64 V.2.2.2)∧W.cell? ⟨g,5,none⟩=some rv∧W.cell? ⟨g,6,none⟩=some (.int .u64 n) :=
 ⟨(Qeo h 0).trans rfl,(Qeo h 1).trans rfl,(Qeo h 2).trans rfl,(Qeo h 3).trans rfl,(Qeo h 4).trans rfl,(Qeo h 5).trans rfl,(Qeo h 6).trans rfl⟩
theorem Qnh(x0 x1 x2 x3:Int)(W:World):(∀k,k=0→(Instr.index 231 (.agg #[.int .u64 x0,.int .u64 x1,.int .u64 x2,.int .u64 x3]) (.int .i64 k)).run Tryz.prog W=.ok (.int .u64 x0) W) ∧
  (∀k,k=1→(Instr.index 231 (.agg #[.int .u64 x0,.int .u64 x1,.int .u64 x2,.int .u64 x3]) (.int .i64 k)).run Tryz.prog W=.ok (.int .u64 x1) W) ∧
  (∀k,k=2→(Instr.index 231 (.agg #[.int .u64 x0,.int .u64 x1,.int .u64 x2,.int .u64 x3]) (.int .i64 k)).run Tryz.prog W=.ok (.int .u64 x2) W) ∧
  (∀k,k=3→(Instr.index 231 (.agg #[.int .u64 x0,.int .u64 x1,.int .u64 x2,.int .u64 x3]) (.int .i64 k)).run Tryz.prog W=.ok (.int .u64 x3) W):=by
 refine⟨?_,?_,?_,?_⟩<;>rintro k rfl<;>simp[Instr.index,run_underlying Tryz.underlying231,asIntOf,go_sem]
theorem Qni(g:Nat)(sd:Int)(V:V4)(rv:Value)(n:Int)(w:World)(hv:StAt w g sd V rv n) :
  Calls Tryz.prog 201 #[.pointer (some ⟨g,0,none⟩)] w fun e w'=>e=.returned (.int .u64 (Qnf sd V n))∧Below w.heap.size w w':=by
 have hu:=Tryz.underlying274;have hu2:=Tryz.underlying231;have HV:=QA hv;obtain⟨c0,c1,c2,c3,c4,c5,c6⟩:=StAt.cells hv;clear hv
 by_cases c:n<32
 ·go_enter Tryz.func201,Tryz.ntmps201
  go_wp2_with fail
  go_ret
  exact⟨by simp[Qnf,c],Below.refl _ _⟩
 ·have d:32≤n:=by omega
  go_enter Tryz.func201,Tryz.ntmps201
  go_wp2_with fail
  obtain⟨B,hB⟩:∃B,B=w.heap.size:=⟨_,rfl⟩;obtain⟨W,hW⟩:∃W,W=w.alloc (.cells #[.int .i64 1,.int .i64 7,.int .i64 12,.int .i64 18] 3):=⟨_,rfl⟩;have hBlk:W.heap[B]? = some (.cells #[.int .i64 1,.int .i64 7,.int .i64 12,.int .i64 18] 3 (0,0)):=by rw[hW,hB];exact Qfe w _
  have HBK:=QA hBlk;have HVW:=QA (show StAt W g sd V rv n by rw[hW];exact HV.out.kept (Qdq (Below.refl _ _) _));have HBW:=QA (show Below w.heap.size w W by rw[hW];exact Qdq (Below.refl _ _) _);rw[← hW,← hB];clear hW hB hBlk c0 c1 c2 c3 c4 c5 c6 HV
  go_loopw [3,4,5,20] (fun v3 v4 v5 a wr=>∃(i:Nat) (iv:Int),i≤4∧a=.int .i64 iv∧v3=.int .u64 (Qmt i V)∧Aside0 (iv=(i:Int))∧Aside0 (Below W.heap.size W wr))
   (fun _ _ _ a _=>4-(intOf a).toNat)
  case atStart=>exact⟨0,0,by omega,rfl,congrArg (Value.int .u64) (Qmv V).symm,⟨rfl⟩,⟨Below.refl _ _⟩⟩
  case round =>
   obtain⟨i,iv,hi,rfl,rfl,HI,HB⟩:=hrel;obtain⟨d0,d1,d2,d3,d4,d5,d6⟩:=StAt.cells (HVW.out.kept HB.out);have hk:=Qfd HBK.out HB.out;have b0:wr.cell? ⟨B,0,none⟩=some (.int .i64 1):=(Qeo hk 0).trans rfl;have b1:wr.cell? ⟨B,1,none⟩=some (.int .i64 7):=(Qeo hk 1).trans rfl;have b2:wr.cell? ⟨B,2,none⟩=some (.int .i64 12):=(Qeo hk 2).trans rfl;have b3:wr.cell? ⟨B,3,none⟩=some (.int .i64 18):=(Qeo hk 3).trans rfl;clear hk
   by_cases h4:i<4
   ·have hk:i=0∨i=1∨i=2∨i=3:=by omega
    rcases hk with rfl|rfl|rfl|rfl
    ·obtain rfl:iv=0:=HI.out
     go_wp2_with (go_at_call 202;refine(Qng V.1 1 ⟨by decide,by decide,by kernel_rfl⟩ _).mono ?_;rintro e w7 ⟨rfl,hd⟩;have hd1:=hd.below;clear hd)
     go_roundw
     case rel=>exact⟨1,1,by omega,by go_num,congrArg (Value.int .u64) (Qmw V).symm,⟨rfl⟩,⟨Qdt HB.out HB.out.size hd1⟩⟩
     case measure=>simp[intOf]
    ·obtain rfl:iv=1:=HI.out
     go_wp2_with (go_at_call 202;refine(Qng V.2.1 7 ⟨by decide,by decide,by kernel_rfl⟩ _).mono ?_;rintro e w7 ⟨rfl,hd⟩;have hd1:=hd.below;clear hd)
     go_roundw
     case rel=>exact⟨2,2,by omega,by go_num,congrArg (Value.int .u64) (Qmx V).symm,⟨rfl⟩,⟨Qdt HB.out HB.out.size hd1⟩⟩
     case measure=>simp[intOf]
    ·obtain rfl:iv=2:=HI.out
     go_wp2_with (go_at_call 202;refine(Qng V.2.2.1 12 ⟨by decide,by decide,by kernel_rfl⟩ _).mono ?_;rintro e w7 ⟨rfl,hd⟩;have hd1:=hd.below;clear hd)
     go_roundw
     case rel=>exact⟨3,3,by omega,by go_num,congrArg (Value.int .u64) (Qmy V).symm,⟨rfl⟩,⟨Qdt HB.out HB.out.size hd1⟩⟩
     case measure=>simp[intOf]
    ·obtain rfl:iv=3:=HI.out
     go_wp2_with (go_at_call 202;refine(Qng V.2.2.2 18 ⟨by decide,by decide,by kernel_rfl⟩ _).mono ?_;rintro e w7 ⟨rfl,hd⟩;have hd1:=hd.below;clear hd)
     go_roundw
     case rel=>exact⟨4,4,by omega,by go_num,congrArg (Value.int .u64) (Qmz V).symm,⟨rfl⟩,⟨Qdt HB.out HB.out.size hd1⟩⟩
     case measure=>simp[intOf]
   ·obtain rfl:i=4:=by omega
    obtain rfl:iv=4:=HI.out
    go_wp2_with fail
    clear d0 d1 d2 d3 d4 d5 d6 b0 b1 b2 b3
    go_loopw [3,7,40] (fun v3 v7 b wi=>∃(i:Nat) (iv:Int),i≤4∧b=.int .i64 iv∧v3=.int .u64 (Qmu i (Qmt 4 V) V)∧Aside0 (iv=(i:Int))∧Aside0 (Below W.heap.size W wi))
     (fun _ _ b _=>4-(intOf b).toNat)
    case atStart=>exact⟨0,0,by omega,rfl,congrArg (Value.int .u64) (Qna _ V).symm,⟨rfl⟩,HB⟩
    case round =>
     clear HB HI;obtain⟨i,iv,hi,rfl,rfl,HI,HB⟩:=hrel
     by_cases h4:i<4
     ·have hk:i=0∨i=1∨i=2∨i=3:=by omega
      rcases hk with rfl|rfl|rfl|rfl
      ·obtain rfl:iv=0:=HI.out;have hix:=(Qnh V.1 V.2.1 V.2.2.1 V.2.2.2 wr).1 0 rfl
       go_wp2_with (go_at_call 199;refine(Qlw _ _ _).mono ?_;rintro e w7 ⟨rfl,hd⟩;have hd1:=hd.below;clear hd)
       go_roundw
       case rel=>exact⟨1,1,by omega,by go_num,congrArg (Value.int .u64) (Qnb _ V).symm,⟨rfl⟩,⟨Qdt HB.out HB.out.size hd1⟩⟩
       case measure=>simp[intOf]
      ·obtain rfl:iv=1:=HI.out;have hix:=(Qnh V.1 V.2.1 V.2.2.1 V.2.2.2 wr).2.1 1 rfl
       go_wp2_with (go_at_call 199;refine(Qlw _ _ _).mono ?_;rintro e w7 ⟨rfl,hd⟩;have hd1:=hd.below;clear hd)
       go_roundw
       case rel=>exact⟨2,2,by omega,by go_num,congrArg (Value.int .u64) (Qnc _ V).symm,⟨rfl⟩,⟨Qdt HB.out HB.out.size hd1⟩⟩
       case measure=>simp[intOf]
      ·obtain rfl:iv=2:=HI.out;have hix:=(Qnh V.1 V.2.1 V.2.2.1 V.2.2.2 wr).2.2.1 2 rfl
       go_wp2_with (go_at_call 199;refine(Qlw _ _ _).mono ?_;rintro e w7 ⟨rfl,hd⟩;have hd1:=hd.below;clear hd)
       go_roundw
       case rel=>exact⟨3,3,by omega,by go_num,congrArg (Value.int .u64) (Qnd _ V).symm,⟨rfl⟩,⟨Qdt HB.out HB.out.size hd1⟩⟩
       case measure=>simp[intOf]
      ·obtain rfl:iv=3:=HI.out;have hix:=(Qnh V.1 V.2.1 V.2.2.1 V.2.2.2 wr).2.2.2 3 rfl
       go_wp2_with (go_at_call 199;refine(Qlw _ _ _).mono ?_;rintro e w7 ⟨rfl,hd⟩;have hd1:=hd.below;clear hd)
       go_roundw
       case rel=>exact⟨4,4,by omega,by go_num,congrArg (Value.int .u64) (Qne _ V).symm,⟨rfl⟩,⟨Qdt HB.out HB.out.size hd1⟩⟩
       case measure=>simp[intOf]
     ·obtain rfl:i=4:=by omega
      obtain rfl:iv=4:=HI.out
      go_wp2_with fail
      go_ret
      refine⟨by simp only[Qnf,if_neg (show ¬n<32 by omega)];rfl,HBW.out.trans (Qld HB.out HBW.out.size)⟩
def one8(h:Int)(l:List Int):Int:=IntKind.u64.wrap (IntKind.u64.wrap (rotP (Go.bits .xor .u64 h (Qlq 0 (numP 8 l))) 27*Q1)+Q4)
def Qnj:Nat→Int→List Int→Int
 | 0,h,_=>h
 | m+1,h,l=>Qnj m (one8 h l) (l.drop 8)
def one4(h:Int)(l:List Int):Int:=IntKind.u64.wrap (IntKind.u64.wrap (rotP (Go.bits .xor .u64 h (IntKind.u64.wrap (numP 4 l*Q1))) 23*Q2)+Q3)
def one1(h x:Int):Int:=IntKind.u64.wrap (rotP (Go.bits .xor .u64 h (IntKind.u64.wrap (IntKind.u64.wrap x*Q5))) 11*Q1)
def finP(h:Int):Int :=
 let a:=IntKind.u64.wrap (Go.bits .xor .u64 h (h/8589934592)*Q2)
 let b:=IntKind.u64.wrap (Go.bits .xor .u64 a (a/536870912)*Q3)
 Go.bits .xor .u64 b (b/4294967296)
def sumP(h0:Int)(l:List Int):Int :=
 if 4≤(l.drop (8*(l.length/8))).length then finP (((l.drop (8*(l.length/8))).drop 4).foldl one1 (one4 (Qnj (l.length/8) h0 l) (l.drop (8*(l.length/8)))))else finP ((l.drop (8*(l.length/8))).foldl one1 (Qnj (l.length/8) h0 l))
theorem q8_cut'(A:Option Addr)(n c m:Nat)(j:Int)(hj:j=(m:Int))(hm:m≤n)(hc:n≤c) :
  ∃(A':Option Addr) (n' c':Nat),n'=n-m∧n'≤c'∧(∀W:World,(Instr.slice 52 (.slice A n c) (some (.int .i64 j)) none none).run Tryz.prog W=.ok (.slice A' n' c') W) ∧
   ∀(W:World) (b:Nat) (xs:List Int),xs.length=n→Q8 W b (.slice A n c) xs→Q8 W b (.slice A' n' c') (xs.drop m):=by
 obtain⟨A',h1,h2⟩:=Qlu A n c m j hj hm;exact⟨A',n-m,c-m,rfl,by omega,h1,h2⟩
theorem st_Sum (g b:Nat) (sd:Int) (V:V4) (rv:Value) (n:Int) (l:List Int) (w:World) (hv:StAt w g sd V rv n) (hR:Q8 w b rv l) :
  Calls Tryz.prog 157 #[.pointer (some ⟨g,0,none⟩)] w fun e w'=>e=.returned (.int .u64 (sumP (IntKind.u64.wrap (Qnf sd V n+n)) l))∧Below w.heap.size w w':=by
 have hu:=Tryz.underlying274;have hu2:=Tryz.underlying231;obtain⟨A,c,rfl,hlc⟩:=Kd.Q_slice hR;have HR:=QA hR;have HV:=QA hv;obtain⟨k0,k1,k2,k3,k4,k5,k6⟩:=StAt.cells hv;have hvd:StAt w.drew g sd V (.slice A l.length c) n:=hv.kept (Qdr (Below.refl _ _));obtain⟨j0,j1,j2,j3,j4,j5,j6⟩:=StAt.cells hvd
 go_enter Tryz.func157,Tryz.ntmps157
 go_wp2_with fail
 go_region_held3 (fun w'=>w'.cell? ⟨g,5,none⟩=some (.slice A l.length c)∧w'.cell? ⟨g,6,none⟩=some (.int .u64 n)) (first|exact⟨j5,j6⟩|exact⟨i5,i6⟩) (first |(go_at_call 201;refine(Qni g sd V _ n w.drew hvd).mono ?_;rintro e w2 ⟨rfl,hb2⟩;have hv2:=hvd.kept hb2;obtain⟨i0,i1,i2,i3,i4,i5,i6⟩:=StAt.cells hv2))
 have HQ2:=QA (show Q8 w2 b (.slice A l.length c) l from Kd.Q_below (Kd.Q_drew HR.out) hb2);have p:=QA (Qdt (Qdr (Below.refl w.heap.size w)) (Nat.le_refl _) hb2);clear j0 j1 j2 j3 j4 j5 j6 k0 k1 k2 k3 k4 k5 k6 hvd hv HV HR hR hb2 hv2 i0 i1 i2 i3 i4 i5 i6
 go_wp2_with fail
 obtain⟨h0,hh0⟩:∃h0,h0=IntKind.u64.wrap (Qnf sd V n+n):=⟨_,rfl⟩;rw[← hh0];have HH:=QA hh0;clear hh0
 go_loopw [3,4] (fun v3 v4 wr=>∃(m:Nat) (l':List Int) (h:Int) (A:Option Addr) (c:Nat),v3=.int .u64 h∧v4=.slice A l'.length c∧l'.length≤c∧l'.length≤l.length∧Aside0 (l'.length/8=m∧Qnj (l.length/8) h0 l=Qnj m h l'∧l.drop (8*(l.length/8))=l'.drop (8*m))∧Aside0 (Q8 wr b (.slice A l'.length c) l')∧Aside0 (Below w.heap.size w wr))
  (fun _ v4 _=>lenV v4)
 case atStart=>exact⟨_,l,h0,A,c,rfl,rfl,hlc,Nat.le_refl _,⟨rfl,rfl,rfl⟩,HQ2,p⟩
 case round =>
  clear HQ2 p hlc;obtain⟨m,l',h,A,c,rfl,rfl,hlc,hll,HM,HQ,HB⟩:=hrel
  by_cases h8:8≤l'.length
  ·have s:(8:Int)≤(l'.length:Int):=by omega
   obtain⟨A',hcut,hA'⟩:=Qlu A l'.length c 8 8 rfl h8
   go_wp2_with (first |(go_at_call 200;refine(Qlv HQ.out h8).mono ?_;rintro e w7 ⟨rfl,hd⟩;have hd1:=hd.below;clear hd) |(go_at_call 199;refine(Qlw _ _ _).mono ?_;rintro e w8 ⟨rfl,hd⟩;have hd2:=hd.below;clear hd) |(go_at_call 202;refine(Qng _ 27 ⟨by decide,by decide,by kernel_rfl⟩ _).mono ?_;rintro e w9 ⟨rfl,hd⟩;have hd3:=hd.below;clear hd))
   go_roundw
   case rel =>
    have hm:=HM.out;have hd:(l'.drop 8).length=l'.length-8:=List.length_drop;refine⟨m-1,l'.drop 8,one8 h l',A',c-8,rfl,by rw[hd],by rw[hd];omega,by rw[hd];omega,⟨by rw[hd];omega,?_,?_⟩,⟨?_⟩,⟨?_⟩⟩
    ·rw[hm.2.1,show m=(m-1)+1 by omega];rfl
    ·rw[hm.2.2,List.drop_drop]
     congr 1
     omega
    ·rw[hd];exact hA' _ _ _ rfl (Kd.Q_below (Kd.Q_below (Kd.Q_below HQ.out hd1) hd2) hd3)
    ·exact Qdt (Qdt (Qdt HB.out HB.out.size hd1) (Nat.le_trans HB.out.size hd1.size) hd2) (Nat.le_trans (Nat.le_trans HB.out.size hd1.size) hd2.size) hd3
   case measure=>simp[lenV];omega
  ·have s:(l'.length:Int)<8:=by omega
   by_cases h4:4≤l'.length
   ·have t:(4:Int)≤(l'.length:Int):=by omega
    obtain⟨A3,n3,c3,q,hc3,hcut,hA'⟩:=q8_cut' A l'.length c 4 4 rfl h4 hlc;have v:n3≤8:=by omega
    have HN:=QA q;clear q
    go_wp2_with (first |(go_at_call 200;refine(num4_at HQ.out h4).mono ?_;rintro e w7 ⟨rfl,hd⟩;have hd1:=hd.below;clear hd) |(go_at_call 202;refine(Qng _ 23 ⟨by decide,by decide,by kernel_rfl⟩ _).mono ?_;rintro e w9 ⟨rfl,hd⟩;have hd3:=hd.below;clear hd))
    have HQ3:=QA (hA' _ _ _ rfl (Kd.Q_below (Kd.Q_below HQ.out hd1) hd3));have r:=QA (Qdt (Qdt HB.out HB.out.size hd1) (Nat.le_trans HB.out.size hd1.size) hd3);clear hcut hA' hd1 hd3;have a:=QA (Kd.Q_reads' HQ3.out);obtain⟨R,hR⟩:∃R,R=(l'.drop 4).foldl one1 (one4 h l'):=⟨_,rfl⟩;have j:=QA hR;clear hR
    go_loopw [3,6,46] (fun v3 v6 d wi=>∃(k:Nat) (iv x:Int),k≤n3∧d=.int .i64 iv∧v3=.int .u64 x∧Aside0 (iv=(k:Int))∧Aside0 (((l'.drop 4).drop k).foldl one1 x=R)∧Aside0 (Below w9.heap.size w9 wi))
     (fun _ _ d _=>n3-(intOf d).toNat)
    case atStart=>exact⟨0,0,_,Nat.zero_le _,rfl,rfl,⟨rfl⟩,⟨by rw[List.drop_zero];exact j.out.symm⟩,⟨Below.refl _ _⟩⟩
    case round =>
     obtain⟨k,iv,x,hk,rfl,rfl,HK,HX,HBi⟩:=hrel
     by_cases hlt:k<n3
     ·have hge:0≤iv:=by have:=HK.out;omega
      have hl2:iv<(n3:Int):=by have:=HK.out;omega
      obtain⟨ad,hA3,o⟩:=Kd.at_int (Kd.C_below a.out.2.2 HBi.out) iv hge (by rw[← a.out.1];exact hl2);have hA4:=hA3;obtain⟨y,hy⟩:∃y,y=rd (l'.drop 4) iv:=⟨_,rfl⟩;rw[← hy]at o;have HY:=QA hy;have HA:=QA hA4;clear hy hA4;subst hA3
      go_wp2_with (go_at_call 202;refine(Qng _ 11 ⟨by decide,by decide,by kernel_rfl⟩ _).mono ?_;rintro e u ⟨rfl,hd⟩;have hd4:=hd.below;clear hd)
      go_roundw
      case rel=>exact⟨k+1,iv+1,one1 x y,by omega,by go_num,rfl,⟨by have:=HK.out;omega⟩,⟨by
       have e1:iv=(k:Int):=HK.out;have hkl:k<(l'.drop 4).length:=by have:=a.out.1;omega
       have e2:(l'.drop 4).drop k=rd (l'.drop 4) (k:Int) :: (l'.drop 4).drop (k+1):=by
        rw[List.drop_eq_getElem_cons hkl];simp[rd,List.getD_eq_getElem?_getD,List.getElem?_eq_getElem hkl]
       have e3:=HX.out;rw[e2,List.foldl_cons,← e1,← HY.out]at e3;exact e3⟩,⟨Qdt HBi.out HBi.out.size hd4⟩⟩
      case measure=>simp[intOf];omega
     ·obtain rfl:n3=k:=by omega
      have e1:iv=_:=HK.out;subst e1
      go_wp2_with fail
      go_ret
      have hL:(l'.drop 4).drop n3=[]:=List.drop_eq_nil_of_le (by have:=a.out.1;omega);have hx:=HX.out;rw[hL]at hx;have hx':x=R:=hx;subst hx';have hm:=HM.out;have hm0:m=0:=by omega
      subst hm0;refine⟨?_,Qdt r.out (Nat.le_trans r.out.size (Nat.le_refl _)) HBi.out⟩;have e5:sumP h0 l=finP x:=by
       rw[j.out];unfold sumP;rw[hm.2.1,hm.2.2];simp only[Qnj,Nat.mul_zero,List.drop_zero]
       first|rw[if_pos h4]|rw[if_neg h4]
      rw[← HH.out,e5];rfl
   ·have t:(l'.length:Int)<4:=by omega
    go_wp2_with fail
    have a:=QA (Kd.Q_reads' HQ.out);obtain⟨R,hR⟩:∃R,R=(l').foldl one1 (h):=⟨_,rfl⟩;have j:=QA hR;clear hR
    go_loopw [3,6,46] (fun v3 v6 d wi=>∃(k:Nat) (iv x:Int),k≤l'.length∧d=.int .i64 iv∧v3=.int .u64 x∧Aside0 (iv=(k:Int))∧Aside0 (((l').drop k).foldl one1 x=R)∧Aside0 (Below wr.heap.size wr wi))
     (fun _ _ d _=>l'.length-(intOf d).toNat)
    case atStart=>exact⟨0,0,_,Nat.zero_le _,rfl,rfl,⟨rfl⟩,⟨by rw[List.drop_zero];exact j.out.symm⟩,⟨Below.refl _ _⟩⟩
    case round =>
     obtain⟨k,iv,x,hk,rfl,rfl,HK,HX,HBi⟩:=hrel
     by_cases hlt:k<l'.length
     ·have hge:0≤iv:=by have:=HK.out;omega
      have hl2:iv<(l'.length:Int):=by have:=HK.out;omega
      obtain⟨ad,hA3,o⟩:=Kd.at_int (Kd.C_below a.out.2.2 HBi.out) iv hge (by rw[← a.out.1];exact hl2);have hA4:=hA3;obtain⟨y,hy⟩:∃y,y=rd (l') iv:=⟨_,rfl⟩;rw[← hy]at o;have HY:=QA hy;have HA:=QA hA4;clear hy hA4;subst hA3
      go_wp2_with (go_at_call 202;refine(Qng _ 11 ⟨by decide,by decide,by kernel_rfl⟩ _).mono ?_;rintro e u ⟨rfl,hd⟩;have hd4:=hd.below;clear hd)
      go_roundw
      case rel=>exact⟨k+1,iv+1,one1 x y,by omega,by go_num,rfl,⟨by have:=HK.out;omega⟩,⟨by
       have e1:iv=(k:Int):=HK.out;have hkl:k<(l').length:=by have:=a.out.1;omega
       have e2:(l').drop k=rd (l') (k:Int) :: (l').drop (k+1):=by
        rw[List.drop_eq_getElem_cons hkl];simp[rd,List.getD_eq_getElem?_getD,List.getElem?_eq_getElem hkl]
       have e3:=HX.out;rw[e2,List.foldl_cons,← e1,← HY.out]at e3;exact e3⟩,⟨Qdt HBi.out HBi.out.size hd4⟩⟩
      case measure=>simp[intOf];omega
     ·obtain rfl:k=l'.length:=by omega
      have e1:iv=_:=HK.out;subst e1
      go_wp2_with fail
      go_ret
      have hL:(l').drop l'.length=[]:=List.drop_eq_nil_of_le (by have:=a.out.1;omega);have hx:=HX.out;rw[hL]at hx;have hx':x=R:=hx;subst hx';have hm:=HM.out;have hm0:m=0:=by omega
      subst hm0;refine⟨?_,Qdt HB.out (Nat.le_trans HB.out.size (Nat.le_refl _)) HBi.out⟩;have e5:sumP h0 l=finP x:=by
       rw[j.out];unfold sumP;rw[hm.2.1,hm.2.2];simp only[Qnj,Nat.mul_zero,List.drop_zero]
       first|rw[if_pos h4]|rw[if_neg h4]
      rw[← HH.out,e5];rfl
def Qnk(sd:Int)(l:List Int):Int :=
 sumP (IntKind.u64.wrap (Qnf sd (Qls (l.length/32) (IntKind.u64.wrap (IntKind.u64.wrap (sd+Q1)+Q2),IntKind.u64.wrap (sd+Q2),sd,IntKind.u64.wrap (sd-Q1)) l) l.length+l.length)) (l.drop (32*(l.length/32)))
theorem Qnl(b g:Nat)(sd:Int)(V:V4)(rv:Value)(A0:Option Addr)(c0:Nat)(l:List Int)(w:World)(hr0:Kd.C (Kd.int .u8) w A0 l.length l)(hfar:∀ad,A0=some ad→0<l.length→ad.block≠g)(hv:StAt w g sd V rv 0)(hR:R8 w b rv [])(hbg:b≤g)(hbw:b≤w.heap.size)(hl:l.length≤140737488355328) :
  Calls Tryz.prog 156 #[.pointer (some ⟨g,0,none⟩),.slice A0 l.length c0] w fun e w'=>e=.returned (.pointer (some ⟨g,0,none⟩))∧(∃rv',StAt w' g sd (Qls (l.length/32) V l) rv' l.length∧R8 w' b rv' (l.drop (32*(l.length/32))))∧Below b w w':=by
 have hu:=Tryz.underlying274;have hu2:=Tryz.underlying231;have hu3:=Tryz.underlying52;obtain⟨A1,n1,c1,rfl⟩:=R8.shape hR;have c6:w.cell? ⟨g,6,none⟩=some (.int .u64 0):=(Qeo hv 6).trans rfl;have c5:w.cell? ⟨g,5,none⟩=some (.slice A1 n1 c1):=(Qeo hv 5).trans rfl;have f6:=Qep hv 6;have hw:=IntWalk.u64_in (l.length:Int) (by omega)
 go_enter Tryz.func156,Tryz.ntmps156
 have hC1:Kd.C (Kd.int .u8) (w.setCell ⟨g,6,none⟩ (.int .u64 l.length)) A0 l.length l:=Kd.C_keep (0:Int) hr0 ((KeepBut.refl w g none).set_ 6 _) hfar;have hv1:StAt (w.setCell ⟨g,6,none⟩ (.int .u64 l.length)) g sd V (.slice A1 n1 c1) l.length:=Qel hv 6 _;have hR1:R8 (w.setCell ⟨g,6,none⟩ (.int .u64 l.length)) b (.slice A1 n1 c1) []:=hR.set hv (by decide) 6 _;have hb1:Below b w (w.setCell ⟨g,6,none⟩ (.int .u64 l.length)):=Qlc (Below.refl _ _) hbg;have hz1:(w.setCell ⟨g,6,none⟩ (.int .u64 l.length)).heap.size=w.heap.size:=by simp
 go_wp2_with (first |(at_builtin;refine Kd.R_append_row (Value.int .u8) (0:Int) (h1:=fun _=>rfl) (w0:=w) b rfl (.tmp 20) (.tmp 21) 52 5 (.int .u8 0) 1 rfl Tryz.underlying52 Qkb rfl (by decide) (.slice A1 n1 c1) [] l A0 l.length c0 (fun _=>True) rfl rfl (fun _ _=>trivial) ?hO ?hR ?hB ?hS ?hL ?_;(case hO=>exact hR1);(case hR=>exact hC1);(case hB=>exact hb1);(case hS=>rw[hz1];exact hbw);(case hL=>simp;omega);intro v2 w2 a hb2 j hat2;have hv2:=Qeq hv1 j (hR1.clean hv1 (by decide));simp only[List.nil_append]at a))
 have HV2:=QA (show StAt w2 g sd V (.slice A1 n1 c1) l.length from hv2);have k:=QA hb2;obtain⟨A2,cc2,rfl,n,_⟩:=Kd.R_reads a;have HQ2:=QA (Kd.Q_of_R a);clear hv2 hb2 a hC1 hv1 hR1 hb1 hz1 c6 c5 f6 hr0 hfar hv hR j hat2
 go_loopw [5] (fun v5 wr=>∃(m:Nat) (l':List Int) (V':V4) (A:Option Addr) (c:Nat),v5=.slice A l'.length c∧l'.length≤c∧l'.length≤l.length∧Aside0 (l'.length/32=m∧Qls (l.length/32) V l=Qls m V' l'∧l.drop (32*(l.length/32))=l'.drop (32*m))∧Aside0 (Q8 wr b (.slice A l'.length c) l')∧Aside0 (StAt wr g sd V' (.slice A1 n1 c1) l.length)∧Aside0 (Below b w wr))
  (fun v5 _=>lenV v5)
 case atStart=>exact⟨_,l,V,A2,cc2,rfl,n,Nat.le_refl _,⟨rfl,rfl,rfl⟩,HQ2,HV2,k⟩
 case round =>
  obtain⟨m,l',V',A,c,rfl,hlc,hll,HM,HQ,HV,HB⟩:=hrel;clear HQ2 HV2 k
  by_cases p:32≤l'.length
  ·have o:(32:Int)≤(l'.length:Int):=by omega
   go_wp2_with fail
   go_loopw [6,26] (fun v6 d wi=>∃(i:Nat) (iv:Int),i≤4∧d=.int .i64 iv∧Aside0 (iv=(i:Int))∧Aside0 (Q8 wi b (.slice A l'.length c) l')∧Aside0 (StAt wi g sd (Qlt i V' l') (.slice A1 n1 c1) l.length)∧Aside0 (Below b w wi))
    (fun _ d _=>4-(intOf d).toNat)
   case atStart=>exact⟨0,0,by omega,rfl,⟨rfl⟩,HQ,HV,HB⟩
   case round =>
    obtain⟨i,iv,hi,rfl,HI,HQi,HVi,HBi⟩:=hrel;clear HQ HV HB
    by_cases h4:i<4
    ·have hk:i=0∨i=1∨i=2∨i=3:=by omega
     rcases hk with rfl|rfl|rfl|rfl
     ·obtain rfl:iv=0:=HI.out;have cv:wr.cell? ⟨g,1,none⟩=some (.int .u64 V'.1):=(Qeo HVi.out 1).trans rfl;have fv:=Qep HVi.out 1
      go_wp2_with fail
      obtain⟨A',hcut,hA'⟩:=Qlu A l'.length c 0 0 rfl (by omega);have hwa:IntKind.i64.wrap 0=0:=IntWalk.i64_in 0 (by decide);have hq:∀q,Q8 (wr.drewN q) b (.slice A' (l'.length-0) (c-0)) (l'.drop 0):=fun q=>hA' _ _ _ rfl (Kd.Q_drewN HQi.out q)
      have h8:8≤(l'.drop 0).length:=by rw[List.length_drop];omega
      go_region_with (first |(go_at_call 200;refine(Qlv (hq _) h8).mono ?_;rintro e w7 ⟨rfl,hd⟩;obtain⟨q,rfl⟩:=hd.out;clear hd) |(go_at_call 199;refine(Qlw _ _ _).mono ?_;rintro e w8 ⟨rfl,hd⟩;obtain⟨q2,rfl⟩:=hd.out;clear hd))
      all_goals
       go_wp2_with fail
       go_roundw
       case rel=>exact⟨1,1,by omega,by go_num,⟨rfl⟩,⟨Kd.Q_set (Kd.Q_drewN HQi.out _) (cells:=#[.int .u64 sd,.int .u64 (Qlt 0 V' l').1,.int .u64 (Qlt 0 V' l').2.1,.int .u64 (Qlt 0 V' l').2.2.1,.int .u64 (Qlt 0 V' l').2.2.2,.slice A1 n1 c1,.int .u64 l.length]) (t:=274) HVi.out (by intro q hq;rcases List.mem_cons.1 hq with rfl|hq;decide;cases hq) _ _⟩,⟨Qel (w:=wr.drewN _) HVi.out 1 _⟩,⟨Qlc (Qds HBi.out _) hbg⟩⟩
       case measure=>simp[intOf]
     ·obtain rfl:iv=1:=HI.out;have cv:wr.cell? ⟨g,2,none⟩=some (.int .u64 V'.2.1):=(Qeo HVi.out 2).trans rfl;have fv:=Qep HVi.out 2
      go_wp2_with fail
      obtain⟨A',hcut,hA'⟩:=Qlu A l'.length c 8 8 rfl (by omega);have hwa:IntKind.i64.wrap 8=8:=IntWalk.i64_in 8 (by decide);have hq:∀q,Q8 (wr.drewN q) b (.slice A' (l'.length-8) (c-8)) (l'.drop 8):=fun q=>hA' _ _ _ rfl (Kd.Q_drewN HQi.out q)
      have h8:8≤(l'.drop 8).length:=by rw[List.length_drop];omega
      go_region_with (first |(go_at_call 200;refine(Qlv (hq _) h8).mono ?_;rintro e w7 ⟨rfl,hd⟩;obtain⟨q,rfl⟩:=hd.out;clear hd) |(go_at_call 199;refine(Qlw _ _ _).mono ?_;rintro e w8 ⟨rfl,hd⟩;obtain⟨q2,rfl⟩:=hd.out;clear hd))
      all_goals
       go_wp2_with fail
       go_roundw
       case rel=>exact⟨2,2,by omega,by go_num,⟨rfl⟩,⟨Kd.Q_set (Kd.Q_drewN HQi.out _) (cells:=#[.int .u64 sd,.int .u64 (Qlt 1 V' l').1,.int .u64 (Qlt 1 V' l').2.1,.int .u64 (Qlt 1 V' l').2.2.1,.int .u64 (Qlt 1 V' l').2.2.2,.slice A1 n1 c1,.int .u64 l.length]) (t:=274) HVi.out (by intro q hq;rcases List.mem_cons.1 hq with rfl|hq;decide;cases hq) _ _⟩,⟨Qel (w:=wr.drewN _) HVi.out 2 _⟩,⟨Qlc (Qds HBi.out _) hbg⟩⟩
       case measure=>simp[intOf]
     ·obtain rfl:iv=2:=HI.out;have cv:wr.cell? ⟨g,3,none⟩=some (.int .u64 V'.2.2.1):=(Qeo HVi.out 3).trans rfl;have fv:=Qep HVi.out 3
      go_wp2_with fail
      obtain⟨A',hcut,hA'⟩:=Qlu A l'.length c 16 16 rfl (by omega);have hwa:IntKind.i64.wrap 16=16:=IntWalk.i64_in 16 (by decide);have hq:∀q,Q8 (wr.drewN q) b (.slice A' (l'.length-16) (c-16)) (l'.drop 16):=fun q=>hA' _ _ _ rfl (Kd.Q_drewN HQi.out q)
      have h8:8≤(l'.drop 16).length:=by rw[List.length_drop];omega
      go_region_with (first |(go_at_call 200;refine(Qlv (hq _) h8).mono ?_;rintro e w7 ⟨rfl,hd⟩;obtain⟨q,rfl⟩:=hd.out;clear hd) |(go_at_call 199;refine(Qlw _ _ _).mono ?_;rintro e w8 ⟨rfl,hd⟩;obtain⟨q2,rfl⟩:=hd.out;clear hd))
      all_goals
       go_wp2_with fail
       go_roundw
       case rel=>exact⟨3,3,by omega,by go_num,⟨rfl⟩,⟨Kd.Q_set (Kd.Q_drewN HQi.out _) (cells:=#[.int .u64 sd,.int .u64 (Qlt 2 V' l').1,.int .u64 (Qlt 2 V' l').2.1,.int .u64 (Qlt 2 V' l').2.2.1,.int .u64 (Qlt 2 V' l').2.2.2,.slice A1 n1 c1,.int .u64 l.length]) (t:=274) HVi.out (by intro q hq;rcases List.mem_cons.1 hq with rfl|hq;decide;cases hq) _ _⟩,⟨Qel (w:=wr.drewN _) HVi.out 3 _⟩,⟨Qlc (Qds HBi.out _) hbg⟩⟩
       case measure=>simp[intOf]
     ·obtain rfl:iv=3:=HI.out;have cv:wr.cell? ⟨g,4,none⟩=some (.int .u64 V'.2.2.2):=(Qeo HVi.out 4).trans rfl;have fv:=Qep HVi.out 4
      go_wp2_with fail
      obtain⟨A',hcut,hA'⟩:=Qlu A l'.length c 24 24 rfl (by omega);have hwa:IntKind.i64.wrap 24=24:=IntWalk.i64_in 24 (by decide);have hq:∀q,Q8 (wr.drewN q) b (.slice A' (l'.length-24) (c-24)) (l'.drop 24):=fun q=>hA' _ _ _ rfl (Kd.Q_drewN HQi.out q)
      have h8:8≤(l'.drop 24).length:=by rw[List.length_drop];omega
      go_region_with (first |(go_at_call 200;refine(Qlv (hq _) h8).mono ?_;rintro e w7 ⟨rfl,hd⟩;obtain⟨q,rfl⟩:=hd.out;clear hd) |(go_at_call 199;refine(Qlw _ _ _).mono ?_;rintro e w8 ⟨rfl,hd⟩;obtain⟨q2,rfl⟩:=hd.out;clear hd))
      all_goals
       go_wp2_with fail
       go_roundw
       case rel=>exact⟨4,4,by omega,by go_num,⟨rfl⟩,⟨Kd.Q_set (Kd.Q_drewN HQi.out _) (cells:=#[.int .u64 sd,.int .u64 (Qlt 3 V' l').1,.int .u64 (Qlt 3 V' l').2.1,.int .u64 (Qlt 3 V' l').2.2.1,.int .u64 (Qlt 3 V' l').2.2.2,.slice A1 n1 c1,.int .u64 l.length]) (t:=274) HVi.out (by intro q hq;rcases List.mem_cons.1 hq with rfl|hq;decide;cases hq) _ _⟩,⟨Qel (w:=wr.drewN _) HVi.out 4 _⟩,⟨Qlc (Qds HBi.out _) hbg⟩⟩
       case measure=>simp[intOf]
    ·obtain rfl:i=4:=by omega
     obtain rfl:iv=4:=HI.out;obtain⟨A',hcut,hA'⟩:=Qlu A l'.length c 32 32 rfl p
     go_wp2_with fail
     go_roundw
     case rel =>
      have e4:Qlt 4 V' l'=Qlr V' l':=rfl;have hm:=HM.out;have hd:(l'.drop 32).length=l'.length-32:=List.length_drop;refine⟨m-1,l'.drop 32,Qlr V' l',A',c-32,by rw[hd],by rw[hd];omega,by rw[hd];omega,⟨by rw[hd];omega,?_,?_⟩,⟨?_⟩,⟨?_⟩,HBi⟩
      ·rw[hm.2.1,show m=(m-1)+1 by omega];rfl
      ·rw[hm.2.2,List.drop_drop]
       congr 1
       omega
      ·rw[hd];exact hA' _ _ _ rfl HQi.out
      ·exact HVi.out
     case measure=>simp[lenV];omega
  ·have o:(l'.length:Int)<32:=by omega
   have hq':=Kd.Q_reads' HQ.out;have cv:wr.cell? ⟨g,5,none⟩=some (.slice A1 n1 c1):=(Qeo HV.out 5).trans rfl
   go_wp2_with (first |(at_builtin;refine Kd.R_append_row (Value.int .u8) (0:Int) (h1:=fun _=>rfl) (w0:=wr) b rfl (.const (.slice none 0 0)) (.tmp 50) 52 5 (.int .u8 0) 1 rfl Tryz.underlying52 Qkb rfl (by decide) (.slice none 0 0) [] l' A l'.length c (fun _=>True) rfl rfl (fun _ _=>trivial) ?hO ?hR ?hB ?hS ?hL ?_;(case hO=>exact Kd.R_nil _ _ _ _ _);(case hR=>exact hq'.2.2);(case hB=>exact Below.refl _ _);(case hS=>exact Nat.le_trans hbw HB.out.size);(case hL=>simp;omega);intro v3 w3 h hb3 r hat3;obtain⟨A3,n3,c3,rfl⟩:=R8.shape h;have hv3:=Qeq (show wr.heap[g]? = _ from HV.out) r (by simp[Value.ownBlock]);have fv:=Qep hv3 5;have cv3:w3.cell? ⟨g,5,none⟩=some (.slice A1 n1 c1):=(Qeo hv3 5).trans rfl;(try simp only[List.nil_append]at h)))
   go_ret
   have hm:=HM.out;have hm0:m=0:=by omega
   subst hm0;refine⟨rfl,⟨.slice A3 n3 c3,?_,?_⟩,Qlc (HB.out.trans hb3) hbg⟩
   ·rw[hm.2.1];exact Qel hv3 5 _
   ·rw[hm.2.2]
    simpa using R8.set h hv3 (by decide) 5 _
theorem Qnn(n:Nat)(hn:n≤64):∀(d i:Nat) (x:Int),i+d=n→∃r,Qbg.l0 (d+1) x (n:Int) (i:Int)=some r
 | 0,i,x,h=>by
  refine⟨x,?_⟩;unfold Qbg.l0;rw[if_neg (by omega)]
 | d+1,i,x,h=>by
  obtain⟨r,hr⟩:=Qnn n hn d (i+1) (IntKind.u64.wrap ((IntKind.u64.wrap (2*x))+(IntKind.u64.wrap (Int.tdiv x 9223372036854775808)))) (by omega);refine⟨r,?_⟩;unfold Qbg.l0;rw[if_pos (by omega),show wrap64 ((i:Int)+1)=((i+1:Nat):Int)by unfold wrap64;omega];exact hr
def Qno(x:Int)(n:Nat):Int:=(Qbg.f (n+1) x n).getD 0
theorem Qnp(x:Int)(n:Nat)(hn:n≤64):Qbg.f (n+1) x n=some (Qno x n):=by
 obtain⟨r,hr⟩:=Qnn n hn n 0 x (by omega);have h:Qbg.f (n+1) x n=some r:=hr;unfold Qno;rw[h];rfl
def Qnq(x y:Int):Int:=(Qbe.f 32 x y).getD 0
theorem Qnr(x y:Int):Qbe.f 32 x y=some (Qnq x y):=by
 unfold Qnq Qbe.f;rw[show(32:Nat)=31+1 from rfl,show(31:Int)=((31:Nat):Int) from rfl,Qnp _ 31 (by omega)];rfl
theorem Qns(s:ByteArray)(hs:s.size≤1000):∀(d:Nat) (x:Int),d≤s.size→∃r,Qav.l0 (d+1) s x ((d:Int)-1)=some r
 | 0,x,h=>by
  refine⟨x,?_⟩;unfold Qav.l0;rw[if_neg (by omega)]
 | d+1,x,h=>by
  obtain⟨r,hr⟩:=Qns s hs d (IntKind.u64.wrap ((IntKind.u64.wrap (x*256))+(IntKind.u64.wrap (bt s (d:Int))))) (by omega);refine⟨r,?_⟩;unfold Qav.l0;rw[show((d+1:Nat):Int)-1=(d:Int)by omega,if_pos (by omega),if_pos (by omega),if_pos (by omega),show wrap64 ((d:Int)-1)=(d:Int)-1 by unfold wrap64;omega];exact hr
def rval(s:ByteArray):Int:=(Qav.f (s.size+1) s).getD 0
theorem Qnt(s:ByteArray)(hs:s.size≤1000):Qav.f (s.size+1) s=some (rval s):=by
 obtain⟨r,hr⟩:=Qns s hs s.size 0 (Nat.le_refl _);have h:Qav.f (s.size+1) s=some r:=by
  unfold Qav.f;rw[show wrap64 ((s.size:Int)-1)=(s.size:Int)-1 by unfold wrap64;omega];exact hr
 unfold rval;rw[h];rfl
def Qnu(v:V4)(s:ByteArray):V4:=(Qnq v.1 (rval (s.extract 0 8)),Qnq v.2.1 (rval (s.extract 8 16)),Qnq v.2.2.1 (rval (s.extract 16 24)),Qnq v.2.2.2 (rval (s.extract 24 32)))
def rrun:Nat→V4→ByteArray→V4 × ByteArray
 | 0,v,s=>(v,s)
 | m+1,v,s=>rrun m (Qnu v s) (s.extract 32 s.size)
def rsum(V:V4):Int:=IntKind.u64.wrap (IntKind.u64.wrap (IntKind.u64.wrap (Qno V.1 1+Qno V.2.1 7)+Qno V.2.2.1 12)+Qno V.2.2.2 18)
def Qnv(h x:Int):Int:=IntKind.u64.wrap (IntKind.u64.wrap (Go.bits .xor .u64 h (Qnq 0 x)*Q1)+Q4)
def rmix(h:Int)(V:V4):Int:=Qnv (Qnv (Qnv (Qnv h V.1) V.2.1) V.2.2.1) V.2.2.2
def Qnw(sd:Int):V4:=(IntKind.u64.wrap (IntKind.u64.wrap (sd+Q1)+Q2),IntKind.u64.wrap (sd+Q2),sd,IntKind.u64.wrap (sd-Q1))
def Qbd.f(a0:Int)(a1:ByteArray):Option (Int × ByteArray) :=
 if a1.size≤9223372036854775807 then some (rmix (rsum (rrun (a1.size/32) (Qnw a0) a1).1) (rrun (a1.size/32) (Qnw a0) a1).1,(rrun (a1.size/32) (Qnw a0) a1).2)else none
def rmixTo(i:Nat)(h:Int)(V:V4):Int:=match i with
 | 0=>h
 | 1=>Qnv h V.1
 | 2=>Qnv (Qnv h V.1) V.2.1
 | 3=>Qnv (Qnv (Qnv h V.1) V.2.1) V.2.2.1
 | _=>rmix h V
def VAt(W:World)(g:Nat)(V:V4):Prop:=W.heap[g]? = some (.cells #[.int .u64 V.1,.int .u64 V.2.1,.int .u64 V.2.2.1,.int .u64 V.2.2.2] 231 (0,0))
def Qnx:Value→Nat
 | .string s=>s.size
 | _=>0
def Qny(i:Nat)(v:V4)(s:ByteArray):V4:=(if 0<i then Qnq v.1 (rval (s.extract 0 8))else v.1,if 1<i then Qnq v.2.1 (rval (s.extract 8 16))else v.2.1,if 2<i then Qnq v.2.2.1 (rval (s.extract 16 24))else v.2.2.1,if 3<i then Qnq v.2.2.2 (rval (s.extract 24 32))else v.2.2.2)
theorem Qnz(s:ByteArray)(hs:s.size≤1000)(W:World):Calls Tryz.prog 107 #[.string s] W fun e w'=>e=.returned (.int .u64 (rval s))∧Drawn0 W w':=Qav.calls _ s _ W (Qnt s hs)
theorem Qoa(x y:Int)(W:World):Calls Tryz.prog 106 #[.int .u64 x,.int .u64 y] W fun e w'=>e=.returned (.int .u64 (Qnq x y))∧Drawn0 W w':=Qbe.calls _ x y _ W (Qnr x y)
theorem Qob(x:Int)(n:Nat)(j:Int)(hj:j=(n:Int))(hn:n≤64)(W:World):Calls Tryz.prog 108 #[.int .u64 x,.int .i64 j] W fun e w'=>e=.returned (.int .u64 (Qno x n))∧Drawn0 W w':=by
 subst hj;exact Qbg.calls _ x n _ W (Qnp x n hn)
theorem Qoc(s:ByteArray)(a b:Nat):(s.extract a b).size≤b-a:=by
 rw[ByteArray.size_extract];omega
theorem Qod(sd:Int)(s0:ByteArray)(w:World)(hs:s0.size≤9223372036854775807) :
  Calls Tryz.prog 105 #[.int .u64 sd,.string s0] w fun e w'=>e=.returned (.tuple #[.int .u64 (rmix (rsum (rrun (s0.size/32) (Qnw sd) s0).1) (rrun (s0.size/32) (Qnw sd) s0).1),.string (rrun (s0.size/32) (Qnw sd) s0).2])∧Below w.heap.size w w':=by
 have hu2:=Tryz.underlying231
 go_enter Tryz.func105,Tryz.ntmps105
 go_wp2_with fail
 obtain⟨g,hg⟩:∃g,g=w.heap.size:=⟨_,rfl⟩;obtain⟨V0,hV0⟩:∃V0,V0=Qnw sd:=⟨_,rfl⟩;obtain⟨W,hW⟩:∃W,W=w.alloc (.cells #[.int .u64 (IntKind.u64.wrap (IntKind.u64.wrap (sd+11400714785074694791)+14029467366897019727)),.int .u64 (IntKind.u64.wrap (sd+14029467366897019727)),.int .u64 sd,.int .u64 (IntKind.u64.wrap (sd-11400714785074694791))] 231):=⟨_,rfl⟩;have HV0:=QA (show VAt W g V0 by rw[hW,hg,hV0];exact Qfe w _);have HW0:=QA (show Below w.heap.size w W by rw[hW];exact Qdq (Below.refl _ _) _);rw[← hW,← hg];have HG:=QA hg;have HVV:=QA hV0;clear hW hg hV0
 go_loopw [1,9,29] (fun v1 v9 a wr=>∃(m:Nat) (s:ByteArray) (V:V4),v1=.string s∧s.size≤s0.size∧Aside0 (s.size/32=m∧rrun (s0.size/32) V0 s0=rrun m V s)∧Aside0 (VAt wr g V)∧Aside0 (Below w.heap.size w wr))
  (fun v1 _ _ _=>Qnx v1)
 case atStart=>exact⟨_,s0,V0,rfl,Nat.le_refl _,⟨rfl,rfl⟩,HV0,HW0⟩
 case round =>
  clear HV0 HW0;obtain⟨m,s,V,rfl,hss,HM,HV,HB⟩:=hrel
  by_cases k:32≤s.size
  ·have d:(32:Int)≤(s.size:Int):=by omega
   go_wp2_with fail
   go_loopw [9,29] (fun v9 a wi=>∃(i:Nat) (iv:Int),i≤4∧a=.int .i64 iv∧Aside0 (iv=(i:Int))∧Aside0 (VAt wi g (Qny i V s))∧Aside0 (Below w.heap.size w wi))
    (fun _ a _=>4-(intOf a).toNat)
   case atStart=>exact⟨0,0,by omega,rfl,⟨rfl⟩,HV,HB⟩
   case round =>
    clear HV HB;obtain⟨i,iv,hi,rfl,HI,HV,HB⟩:=hrel
    by_cases h4:i<4
    ·have hk:i=0∨i=1∨i=2∨i=3:=by omega
     rcases hk with rfl|rfl|rfl|rfl
     ·obtain rfl:iv=0:=HI.out;have cv:wr.cell? ⟨g,0,none⟩=some (.int .u64 V.1):=(Qeo HV.out 0).trans rfl;have fv:=Qep HV.out 0
      go_wp2_with fail
      have hw0:IntKind.i64.wrap 0=0:=IntWalk.i64_in 0 (by decide);have hw1:IntKind.i64.wrap 8=8:=IntWalk.i64_in 8 (by decide);have hsz:(8:Int)≤(s.size:Int):=by omega
      have hx:(s.extract 0 8).size≤1000:=Nat.le_trans (Qoc s 0 8) (by decide)
      go_region_with (first |(go_at_call 107;refine(Qnz (s.extract 0 8) hx _).mono ?_;rintro e w7 ⟨rfl,hd⟩;obtain⟨q,rfl⟩:=hd.out;clear hd) |(go_at_call 106;refine(Qoa _ _ _).mono ?_;rintro e w8 ⟨rfl,hd⟩;obtain⟨q2,rfl⟩:=hd.out;clear hd))
      all_goals
       go_wp2_with fail
       go_roundw
       case rel=>exact⟨1,1,by omega,by go_num,⟨rfl⟩,⟨Qel (w:=wr.drewN _) HV.out 0 _⟩,⟨Qlc (Qds HB.out _) qq_24⟩⟩
       case measure=>simp[intOf]
     ·obtain rfl:iv=1:=HI.out;have cv:wr.cell? ⟨g,1,none⟩=some (.int .u64 V.2.1):=(Qeo HV.out 1).trans rfl;have fv:=Qep HV.out 1
      go_wp2_with fail
      have hw0:IntKind.i64.wrap 8=8:=IntWalk.i64_in 8 (by decide);have hw1:IntKind.i64.wrap 16=16:=IntWalk.i64_in 16 (by decide);have hsz:(16:Int)≤(s.size:Int):=by omega
      have hx:(s.extract 8 16).size≤1000:=Nat.le_trans (Qoc s 8 16) (by decide)
      go_region_with (first |(go_at_call 107;refine(Qnz (s.extract 8 16) hx _).mono ?_;rintro e w7 ⟨rfl,hd⟩;obtain⟨q,rfl⟩:=hd.out;clear hd) |(go_at_call 106;refine(Qoa _ _ _).mono ?_;rintro e w8 ⟨rfl,hd⟩;obtain⟨q2,rfl⟩:=hd.out;clear hd))
      all_goals
       go_wp2_with fail
       go_roundw
       case rel=>exact⟨2,2,by omega,by go_num,⟨rfl⟩,⟨Qel (w:=wr.drewN _) HV.out 1 _⟩,⟨Qlc (Qds HB.out _) qq_24⟩⟩
       case measure=>simp[intOf]
     ·obtain rfl:iv=2:=HI.out;have cv:wr.cell? ⟨g,2,none⟩=some (.int .u64 V.2.2.1):=(Qeo HV.out 2).trans rfl;have fv:=Qep HV.out 2
      go_wp2_with fail
      have hw0:IntKind.i64.wrap 16=16:=IntWalk.i64_in 16 (by decide);have hw1:IntKind.i64.wrap 24=24:=IntWalk.i64_in 24 (by decide);have hsz:(24:Int)≤(s.size:Int):=by omega
      have hx:(s.extract 16 24).size≤1000:=Nat.le_trans (Qoc s 16 24) (by decide)
      go_region_with (first |(go_at_call 107;refine(Qnz (s.extract 16 24) hx _).mono ?_;rintro e w7 ⟨rfl,hd⟩;obtain⟨q,rfl⟩:=hd.out;clear hd) |(go_at_call 106;refine(Qoa _ _ _).mono ?_;rintro e w8 ⟨rfl,hd⟩;obtain⟨q2,rfl⟩:=hd.out;clear hd))
      all_goals
       go_wp2_with fail
       go_roundw
       case rel=>exact⟨3,3,by omega,by go_num,⟨rfl⟩,⟨Qel (w:=wr.drewN _) HV.out 2 _⟩,⟨Qlc (Qds HB.out _) qq_24⟩⟩
       case measure=>simp[intOf]
     ·obtain rfl:iv=3:=HI.out;have cv:wr.cell? ⟨g,3,none⟩=some (.int .u64 V.2.2.2):=(Qeo HV.out 3).trans rfl;have fv:=Qep HV.out 3
      go_wp2_with fail
      have hw0:IntKind.i64.wrap 24=24:=IntWalk.i64_in 24 (by decide);have hw1:IntKind.i64.wrap 32=32:=IntWalk.i64_in 32 (by decide);have hsz:(32:Int)≤(s.size:Int):=by omega
      have hx:(s.extract 24 32).size≤1000:=Nat.le_trans (Qoc s 24 32) (by decide)
      go_region_with (first |(go_at_call 107;refine(Qnz (s.extract 24 32) hx _).mono ?_;rintro e w7 ⟨rfl,hd⟩;obtain⟨q,rfl⟩:=hd.out;clear hd) |(go_at_call 106;refine(Qoa _ _ _).mono ?_;rintro e w8 ⟨rfl,hd⟩;obtain⟨q2,rfl⟩:=hd.out;clear hd))
      all_goals
       go_wp2_with fail
       go_roundw
       case rel=>exact⟨4,4,by omega,by go_num,⟨rfl⟩,⟨Qel (w:=wr.drewN _) HV.out 3 _⟩,⟨Qlc (Qds HB.out _) qq_24⟩⟩
       case measure=>simp[intOf]
    ·obtain rfl:i=4:=by omega
     obtain rfl:iv=4:=HI.out
     go_wp2_with fail
     go_roundw
     case rel =>
      have e4:Qny 4 V s=Qnu V s:=rfl;have hm:=HM.out;have hd:(s.extract 32 s.size).size=s.size-32:=by rw[ByteArray.size_extract];omega
      refine⟨m-1,s.extract 32 s.size,Qnu V s,rfl,by rw[hd];omega,⟨by rw[hd];omega,?_⟩,⟨?_⟩,HB⟩
      ·rw[hm.2,show m=(m-1)+1 by omega];rfl
      ·exact HV.out
     case measure=>simp[Qnx];omega
  ·have d:(s.size:Int)<32:=by omega
   go_wp2_with fail
   have c0:wr.cell? ⟨g,0,none⟩=some (.int .u64 V.1):=(Qeo HV.out 0).trans rfl;have c1:wr.cell? ⟨g,1,none⟩=some (.int .u64 V.2.1):=(Qeo HV.out 1).trans rfl;have c2:wr.cell? ⟨g,2,none⟩=some (.int .u64 V.2.2.1):=(Qeo HV.out 2).trans rfl;have c3:wr.cell? ⟨g,3,none⟩=some (.int .u64 V.2.2.2):=(Qeo HV.out 3).trans rfl
   go_region_held3 (fun w'=>w'.cell? ⟨g,0,none⟩=some (.int .u64 V.1)∧w'.cell? ⟨g,1,none⟩=some (.int .u64 V.2.1)∧w'.cell? ⟨g,2,none⟩=some (.int .u64 V.2.2.1)∧w'.cell? ⟨g,3,none⟩=some (.int .u64 V.2.2.2)) (go_keep) (first
    |(go_at_call_of 108 (Value.int .i64 1);refine(Qob V.1 1 1 rfl (by decide) _).mono ?_;rintro e w7 ⟨rfl,hd⟩;obtain⟨q1,rfl⟩:=hd.out;clear hd)
    |(go_at_call_of 108 (Value.int .i64 7);refine(Qob V.2.1 7 7 rfl (by decide) _).mono ?_;rintro e w7 ⟨rfl,hd⟩;obtain⟨q2,rfl⟩:=hd.out;clear hd)
    |(go_at_call_of 108 (Value.int .i64 12);refine(Qob V.2.2.1 12 12 rfl (by decide) _).mono ?_;rintro e w7 ⟨rfl,hd⟩;obtain⟨q3,rfl⟩:=hd.out;clear hd)
    |(go_at_call_of 108 (Value.int .i64 18);refine(Qob V.2.2.2 18 18 rfl (by decide) _).mono ?_;rintro e w7 ⟨rfl,hd⟩;obtain⟨q4,rfl⟩:=hd.out;clear hd))
   obtain⟨W2,hW2⟩:∃W2,W2=wr.drewN (1+q1+q2+q3+q4):=⟨_,rfl⟩;have HV2:=QA (show VAt W2 g V by rw[hW2];exact HV.out);have c:=QA (show Below w.heap.size w W2 by rw[hW2];exact Qds HB.out _);rw[← hW2];clear hW2 c0 c1 c2 c3 HV HB;have hm0:m=0:=by have:=HM.out.1;omega
   go_wp2_with fail
   go_loopw [10,11,64] (fun j l b wi=>∃(i:Nat) (iv h:Int),i≤4∧b=.int .i64 iv∧j=.int .u64 h∧Aside0 (iv=(i:Int))∧Aside0 (h=rmixTo i (rsum V) V)∧Aside0 (VAt wi g V)∧Aside0 (Below w.heap.size w wi))
    (fun _ _ b _=>4-(intOf b).toNat)
   case atStart=>exact⟨0,0,_,by omega,rfl,rfl,⟨rfl⟩,⟨rfl⟩,HV2,c⟩
   case round =>
    clear HV2 c;obtain⟨i,iv,h,hi,rfl,rfl,HI,HH,HV,HB⟩:=hrel
    by_cases h4:i<4
    ·have hk:i=0∨i=1∨i=2∨i=3:=by omega
     rcases hk with rfl|rfl|rfl|rfl
     ·obtain rfl:iv=0:=HI.out;have cv:wr.cell? ⟨g,0,none⟩=some (.int .u64 V.1):=(Qeo HV.out 0).trans rfl
      go_wp2_with (go_at_call 106;refine(Qoa _ _ _).mono ?_;rintro e w8 ⟨rfl,hd⟩;obtain⟨q9,rfl⟩:=hd.out;clear hd)
      go_roundw
      case rel=>exact⟨1,1,Qnv h V.1,by omega,by go_num,rfl,⟨rfl⟩,⟨by rw[HH.out];rfl⟩,⟨HV.out⟩,⟨Qds HB.out _⟩⟩
      case measure=>simp[intOf]
     ·obtain rfl:iv=1:=HI.out;have cv:wr.cell? ⟨g,1,none⟩=some (.int .u64 V.2.1):=(Qeo HV.out 1).trans rfl
      go_wp2_with (go_at_call 106;refine(Qoa _ _ _).mono ?_;rintro e w8 ⟨rfl,hd⟩;obtain⟨q9,rfl⟩:=hd.out;clear hd)
      go_roundw
      case rel=>exact⟨2,2,Qnv h V.2.1,by omega,by go_num,rfl,⟨rfl⟩,⟨by rw[HH.out];rfl⟩,⟨HV.out⟩,⟨Qds HB.out _⟩⟩
      case measure=>simp[intOf]
     ·obtain rfl:iv=2:=HI.out;have cv:wr.cell? ⟨g,2,none⟩=some (.int .u64 V.2.2.1):=(Qeo HV.out 2).trans rfl
      go_wp2_with (go_at_call 106;refine(Qoa _ _ _).mono ?_;rintro e w8 ⟨rfl,hd⟩;obtain⟨q9,rfl⟩:=hd.out;clear hd)
      go_roundw
      case rel=>exact⟨3,3,Qnv h V.2.2.1,by omega,by go_num,rfl,⟨rfl⟩,⟨by rw[HH.out];rfl⟩,⟨HV.out⟩,⟨Qds HB.out _⟩⟩
      case measure=>simp[intOf]
     ·obtain rfl:iv=3:=HI.out;have cv:wr.cell? ⟨g,3,none⟩=some (.int .u64 V.2.2.2):=(Qeo HV.out 3).trans rfl
      go_wp2_with (go_at_call 106;refine(Qoa _ _ _).mono ?_;rintro e w8 ⟨rfl,hd⟩;obtain⟨q9,rfl⟩:=hd.out;clear hd)
      go_roundw
      case rel=>exact⟨4,4,Qnv h V.2.2.2,by omega,by go_num,rfl,⟨rfl⟩,⟨by rw[HH.out];rfl⟩,⟨HV.out⟩,⟨Qds HB.out _⟩⟩
      case measure=>simp[intOf]
    ·obtain rfl:i=4:=by omega
     obtain rfl:iv=4:=HI.out
     go_wp2_with fail
     refine bodyPost_ret (results_tmp2 rfl _ _ _) rfl ?_;refine⟨?_,HB.out⟩;have e5:=HM.out.2;rw[hm0]at e5;have e6:rrun (s0.size/32) (Qnw sd) s0=(V,s):=by rw[← HVV.out];exact e5
     rw[e6,HH.out];rfl
theorem Qbd.calls(a0:Int)(a1:ByteArray)(r1:Int)(r2:ByteArray)(w:World)(h:Qbd.f a0 a1=some (r1,r2)) :
  Calls Tryz.prog 105 #[.int .u64 a0,.string a1] w fun e w'=>e=.returned (.tuple #[.int .u64 r1,.string r2])∧Below w.heap.size w w':=by
 unfold Qbd.f at h;split at h
 ·rename_i hs;simp only[Option.some.injEq,Prod.mk.injEq]at h;obtain⟨rfl,rfl⟩:=h;exact Qod a0 a1 w hs
 ·cases h
def IsCur(W:World)(b g:Nat)(bs:List Int)(i:Int):Prop:=∃v,W.heap[g]? = some (.cells #[v,.int .i64 i,.bool true] 264 (0,0))∧R8 W b v bs
def Qpj(g:Nat)(e:Int):PanicEntry:={ v:=.iface 266 (.agg #[.pointer (some ⟨g,0,none⟩),.int .i64 e]),recovered:=false }
theorem IsCur.kept{W W':World}{b g:Nat}{bs:List Int}{i:Int}(h:IsCur W b g bs i)(hb:Below W.heap.size W W'):IsCur W' b g bs i:=by
 obtain⟨v,h1,h2⟩:=h;exact⟨v,Qfd h1 hb,h2.kept hb⟩
theorem IsCur.cells{W:World}{b g:Nat}{bs:List Int}{i:Int}(h:IsCur W b g bs i):∃A c,W.cell? ⟨g,0,none⟩=some (.slice A bs.length c)∧W.cell? ⟨g,1,none⟩=some (.int .i64 i)∧W.cell? ⟨g,2,none⟩=some (.bool true)∧W.frozen? ⟨g,1,none⟩=false∧Kd.C (Kd.int .u8) W A bs.length bs∧bs.length≤c:=by
 obtain⟨v,h1,h2⟩:=h;obtain⟨A,c,rfl⟩:=Kd.R_slice h2;exact⟨A,c,(Qeo h1 0).trans rfl,(Qeo h1 1).trans rfl,(Qeo h1 2).trans rfl,Qep h1 1,(Kd.R_reads' h2).2.2,(Kd.R_reads' h2).2.1⟩
theorem IsCur.move{W:World}{b g:Nat}{bs:List Int}{i:Int}(h:IsCur W b g bs i)(hbg:b≤g)(j:Int):IsCur (W.setCell ⟨g,1,none⟩ (.int .i64 j)) b g bs j∧Bw b g W (W.setCell ⟨g,1,none⟩ (.int .i64 j)):=by
 obtain⟨v,h1,h2⟩:=h;exact⟨⟨v,Qel h1 1 _,h2.set h1 (by decide) 1 _⟩,Qlc (Below.refl _ _) hbg,fun k cs t h3 h4 h5=>Qem h3 h5 _⟩
theorem Qpk(b g:Nat)(bs:List Int)(i:Int)(w:World)(hI:IsCur w b g bs i) :
  Calls Tryz.prog 191 #[.pointer (some ⟨g,0,none⟩)] w fun e w'=>e=.returned (.bool false)∧w'=w:=by
 obtain⟨A,c,h0,h1,h2,h3,h4,h5⟩:=hI.cells;clear hI;have hu:=Tryz.underlying264
 go_enter Tryz.func191,Tryz.ntmps191
 go_wp2;go_ret
 exact⟨rfl,rfl⟩
theorem Qpl(b g:Nat)(bs:List Int)(i er:Int)(he:er≠0)(w:World)(hI:IsCur w b g bs i) :
  Calls Tryz.prog 175 #[.pointer (some ⟨g,0,none⟩),.int .i64 er] w fun e w'=>e=.panicked [Qpj g er]∧w'=w:=by
 have HI:=QA hI;clear hI;have hu:=Tryz.underlying264;have hne:(er != 0)=true:=bne_iff_ne.2 he
 go_enter Tryz.func175,Tryz.ntmps175
 go_wp2_with (go_at_call 191;refine(Qpk b g bs i _ HI.out).mono ?_;rintro ee wa ⟨rfl,rfl⟩)
 exact⟨rfl,rfl,rfl⟩
theorem Qpm(b g:Nat)(bs:List Int)(i n:Int)(hn:n≤0)(w:World)(hI:IsCur w b g bs i) :
  Calls Tryz.prog 193 #[.pointer (some ⟨g,0,none⟩),.int .i64 n] w fun e w'=>e=.returned (.slice none 0 0)∧w'=w:=by
 have HI:=QA hI;clear hI;have hb0:decide (n≤0)=true:=decide_eq_true hn
 go_enter Tryz.func193,Tryz.ntmps193
 go_wp2_with (go_at_call 191;refine(Qpk b g bs i _ HI.out).mono ?_;rintro ee wa ⟨rfl,rfl⟩)
 go_ret
 exact⟨rfl,rfl⟩
def K8(w w':World):Prop:=∀(b:Nat) (v:Value) (ys:List Int),R8 w b v ys→R8 w' b v ys
theorem K8.refl(w:World):K8 w w:=fun _ _ _ h=>h
theorem K8.move{W:World}{b g:Nat}{bs:List Int}{i:Int}(h:IsCur W b g bs i)(j:Int){w':World}(hb:Below W.heap.size (W.setCell ⟨g,1,none⟩ (.int .i64 j)) w'):K8 W w':=by
 intro b' v' ys hR;obtain⟨v,h1,_⟩:=h;exact R8.kept (R8.set hR h1 (by decide) 1 _) (by simpa [World.setCell]using hb)
theorem Qpn(b g:Nat)(bs xs:List Int)(i n:Int)(hxs:xs=(bs.drop i.toNat).take n.toNat)(hn:0<n)(hi:0≤i)(hl:bs.length≤140737488355328)(hs:i+n≤(bs.length:Int))(hbg:b≤g)(w:World)(hbw:b≤w.heap.size)(hI:IsCur w b g bs i) :
  Calls Tryz.prog 193 #[.pointer (some ⟨g,0,none⟩),.int .i64 n] w fun e w'=>∃v,e=.returned v∧R8 w' w.heap.size v xs∧IsCur w' b g bs (i+n)∧Bw b g w w'∧K8 w w':=by
 have HI:=QA hI;obtain⟨A,c,h0,h1,h2,h3,h4,h5⟩:=hI.cells;clear hI h4;have hu:=Tryz.underlying264;have hb0:decide (n≤0)=false:=decide_eq_false (by omega);have hw1:IntKind.i64.wrap ((bs.length:Int)-i)=(bs.length:Int)-i:=IntWalk.i64_in _ (by omega);have hw2:IntKind.i64.wrap (i+n)=i+n:=IntWalk.i64_in _ (by omega);have hw3:IntKind.i64.wrap (i+n-n)=i:=by rw[show i+n-n=i by omega];exact IntWalk.i64_in _ (by omega)
 have hw4:IntKind.i64.wrap i=i:=IntWalk.i64_in _ (by omega);have hb1:decide ((bs.length:Int)-i<n)=false:=decide_eq_false (by omega)
 go_enter Tryz.func193,Tryz.ntmps193
 go_upto_region 3 with(go_at_call 191;refine(Qpk b g bs i _ HI.out).mono ?_;rintro ee wa ⟨rfl,rfl⟩)
 have q0:=Qdu (Qdr (Below.refl _ _)) h0;have q1:=Qdu (Qdr (Below.refl _ _)) h1;have q3:wa.drew.frozen? ⟨g,1,none⟩=false:=h3;clear h0 h1 h2 h3;have HI1:=QA (HI.out.kept (Qdr (Below.refl _ _)))
 go_region
 go_upto_region 6 with fail
 clear HI1 q0 q1 q3;obtain⟨m1,m2⟩:=HI.out.move hbg (i+n);have M1:=QA (m1.kept (Qdr (Below.refl _ _)));have M2:=QA (m2.trans (Bw.below (Qdr (Below.refl _ _)) (Nat.le_trans hbw m2.size)));clear m1 m2;obtain⟨W2,hW2⟩:∃W2,W2=(wa.setCell ⟨g,1,none⟩ (.int .i64 (i+n))).drew:=⟨_,rfl⟩;have hk8:Below wa.heap.size (wa.setCell ⟨g,1,none⟩ (.int .i64 (i+n))) W2:=by rw[hW2];exact Qdr (Below.refl _ _)
 have HK8:=QA (fun w' (hb:Below W2.heap.size W2 w')=>K8.move HI.out (i+n) (hk8.trans (Qld hb (by have:=hk8.size;simpa [World.setCell]using this))));clear hk8;rw[← hW2]at M1 M2 ⊢;obtain⟨A2,c2,r0,r1,r2,r3,r4,r5⟩:=M1.out.cells;clear hW2 r2 r3;have hmid:(bs.take (i+n).toNat).drop i.toNat=xs:=by rw[hxs,List.drop_take,show(i+n).toNat-i.toNat=n.toNat by omega]
 have hxl:xs.length=n.toNat:=by rw[hxs,List.length_take,List.length_drop];omega
 obtain⟨i0,hii,_,hsz,_⟩:=info_parts Qkb;have hcut:=cut_mid (P:=Tryz.prog) 52 5 .i64 .i64 Tryz.underlying52 hii 1 hsz A2 bs.length c2 i (i+n) hi (by omega) (by omega) r5;have hC:=Kd.C_mid (lo:=i.toNat) (hi:=(i+n).toNat) r4 (by omega) (by omega) r5;rw[hmid]at hC;obtain⟨A3,hA3⟩:∃A3,A3=(if c2=i.toNat then A2 else A2.map (·.add (i.toNat*1))):=⟨_,rfl⟩;obtain⟨c3,hc3⟩:∃c3,c3=c2-i.toNat:=⟨_,rfl⟩;rw[← hA3,← hc3,show(i+n).toNat-i.toNat=xs.length by omega]at hcut;have hC3:Kd.C (Kd.int .u8) W2 A3 xs.length xs:=by rw[hA3];exact hC
 have d:=QA hC3;have hxl2:xs.length≤140737488355328:=by omega
 obtain⟨j,hj⟩:∃j,j=i+n:=⟨_,rfl⟩;have hw5:IntKind.i64.wrap (j-n)=i:=by rw[hj];exact hw3
 rw[← hj]at hcut r1 M1 ⊢;have HJ:=QA hj;clear hj hC hC3 hA3 hmid r4 hc3 r5 hxs hxl;refine Qhg (n:=17) (S:=fun w'=>w'.cell? ⟨g,0,none⟩=some (.slice A2 bs.length c2)∧w'.cell? ⟨g,1,none⟩=some (.int .i64 j)) (ds:=[]) (bm 17 0) qq_7 rfl rfl ⟨(Qdu (Qdr (Below.refl _ _)) r0),(Qdu (Qdr (Below.refl _ _)) r1)⟩ (fun a=>?_);refine pz_ (i:=0) (N:=some 33) (bm 17 1) qq_7 ?_;refine pz_ (i:=1) (N:=some 34) (bm 17 3) qq_7 ?_;refine pz_ (i:=2) (N:=some 35) (bm 17 7) qq_7 ?_;refine pz_ (i:=4) (N:=some 37) (bm 17 23) qq_7 ?_;refine pz_ (i:=5) (N:=some 38) (bm 17 55) qq_7 ?_;refine pz_ (i:=6) (N:=some 39) (bm 17 119) qq_7 ?_;refine pz_ (i:=8) (N:=some 41) (bm 17 375) qq_7 ?_;refine pz_ (i:=10) (N:=some 43) (bm 17 1399) qq_7 ?_;refine pz_ (i:=11) (N:=some 44) (bm 17 3447) qq_7 ?_;refine pz_ (i:=12) (N:=some 45) (bm 17 7543) qq_7 ?_;refine tz_ (i:=3) (N:=some 36) (bm 17 7551) qq_7 a ?_;refine tz_ (i:=7) (N:=some 40) (bm 17 7679) qq_7 a ?_;refine pz_ (i:=9) (N:=some 42) (bm 17 8191) qq_7 ?_;refine tz_ (i:=13) (N:=some 46) (bm 17 16383) qq_7 a ?_;refine pz_ (i:=14) (N:=some 47) (bm 17 32767) qq_7 ?_;refine one_ (i:=15) (N:=some 48) (bm 17 65535) rfl rfl qq_7 (by decide) (fun K hK=>?_);refine Qhr Tryz.func70 qq_7 rfl #[.slice A3 xs.length c3] (by rfl) rfl rfl qq_12 ?_;with_reducible refine(Qle A3 c3 xs _ (Kd.C_below d.out (Qdr (Below.refl _ _))) hxl2).mono ?_
 rintro ee w3 ⟨v,rfl,hR,hb⟩;refine⟨_,rfl,?_⟩;refine hK.out _ _ ⟨(Qdu hb a.1),(Qdu hb a.2)⟩ (fun a=>?_);clear hK K;refine nzp_ 48 ?_;refine pz_ (i:=16) (N:=some 4) (bm 17 131071) qq_7 ?_;refine Qhl qq_7 ?_;go_wp2;go_ret
 have hb2:Below W2.heap.size W2 w3:=(Qdr (Below.refl _ _)).trans hb;exact⟨v,rfl,R8.low hR (show wa.heap.size≤W2.drew.heap.size from M2.out.size),HJ.out ▸ M1.out.kept hb2,M2.out.trans (Bw.below hb2 (Nat.le_trans hbw M2.out.size)),HK8.out _ hb2⟩
theorem Qpo(b g:Nat)(bs xs:List Int)(i n:Int)(hxs:xs=(bs.drop i.toNat).take n.toNat)(hn:0≤n)(hi:0≤i)(hl:bs.length≤140737488355328)(hs:i+n≤(bs.length:Int))(hbg:b≤g)(w:World)(hbw:b≤w.heap.size)(hI:IsCur w b g bs i) :
  Calls Tryz.prog 193 #[.pointer (some ⟨g,0,none⟩),.int .i64 n] w fun e w'=>∃v,e=.returned v∧R8 w' w.heap.size v xs∧IsCur w' b g bs (i+n)∧Bw b g w w'∧K8 w w':=by
 rcases Int.lt_or_le 0 n with h|h
 ·exact Qpn b g bs xs i n hxs h hi hl hs hbg w hbw hI
 ·obtain rfl:n=0:=by omega
  refine(Qpm b g bs i 0 h w hI).mono ?_;rintro e w' ⟨rfl,rfl⟩;have hx:xs=[]:=by rw[hxs];simp
  rw[hx,Int.add_zero];exact⟨_,rfl,Kd.R_nil _ _ _ _ _,hI,Bw.refl _ _ _,K8.refl _⟩
theorem Qpp(k b g:Nat)(bs xs:List Int)(i n x:Int)(hxs:xs=(bs.drop i.toNat).take n.toNat)(hn:0<n)(hi:0≤i)(hl:bs.length≤140737488355328)(hs:i+n≤(bs.length:Int))(hbg:b≤g)(m:xs.length≤8)
  (h:Qdo.l0 k xs 0 (xs.length:Int) 0=some x) (w:World) (hbw:b≤w.heap.size) (hI:IsCur w b g bs i) :
  Calls Tryz.prog 219 #[.pointer (some ⟨g,0,none⟩),.int .i64 n] w fun e w'=>e=.returned (.int .u64 x)∧IsCur w' b g bs (i+n)∧Bw b g w w'∧K8 w w':=by
 have HI:=QA hI;have H0:=QA h;have HX:=QA hxs;clear hI h hxs
 go_enter Tryz.func219,Tryz.ntmps219
 go_wp2_with (go_at_call 193;refine(Qpn b g bs xs i n HX.out hn hi hl hs hbg _ hbw HI.out).mono ?_;rintro ee w1 ⟨v,rfl,hR,hI1,hB1,hK1⟩;(have HK1:=QA hK1;clear hK1;obtain⟨A,c,hv⟩:=Kd.R_slice hR;subst hv;have HI1:=QA hI1;have d:=QA hB1;have j:=QA (Kd.R_reads' hR).2.2;clear hI1 hB1 hR))
 go_loopw [5,12] (fun v5 a wr=>∃(x5 x8:Int) (gk:Nat),v5=.int .u64 x5∧a=.int .i64 x8∧Aside0 (Qdo.l0 gk xs x5 (xs.length:Int) x8=some x)∧Aside0 (0≤x8∧x8≤(xs.length:Int))∧wr=w1)
  (fun _ a _=>xs.length-(intOf a).toNat)
 case atStart=>exact⟨0,0,k,rfl,rfl,H0,⟨by omega⟩,rfl⟩
 case round =>
  obtain⟨x5,x8,gk,rfl,rfl,HA,HK,rfl⟩:=hrel
  cases gk with
  | zero=>exact absurd HA.out (by simp[Qdo.l0])
  | succ k1 =>
   have H:=HA.out;clear HA;simp only[Qdo.l0]at H;have p0:0≤x8:=HK.out.1
   by_cases c3:x8<(xs.length:Int)
   ·have hw8:IntKind.i64.wrap (8*x8)=8*x8:=IntWalk.i64_in _ (by omega);have hw9:wrap64 (8*x8)=8*x8:=by unfold wrap64;omega
    have hw1:IntKind.i64.wrap (x8+1)=x8+1:=IntWalk.i64_in _ (by omega);have hw2:wrap64 (x8+1)=x8+1:=by unfold wrap64;omega
    rw[if_pos c3,if_pos p0,if_pos c3,hw9,if_pos (by omega),hw2]at H;have l:decide (x8<(xs.length:Int))=true:=decide_eq_true c3;obtain⟨j6,hj6⟩:∃j6:Int,8*x8=j6:=⟨_,rfl⟩;rw[hj6]at hw8 H;have hj60:0≤j6:=by omega
    obtain⟨j8,hj8⟩:∃j8:Int,(shl .u64 (IntKind.u64.wrap (YtnnofopfbeklbaaGreatW.PrintWords.rd xs x8)) j6)=j8:=⟨_,rfl⟩;rw[hj8]at H;have hj8_:(IntKind.u64.wrap ((IntKind.u64.wrap (YtnnofopfbeklbaaGreatW.PrintWords.rd xs x8))*2^min j6.toNat 64))=j8:=hj8;have hj8z:j6≤64→(IntKind.u64.wrap ((IntKind.u64.wrap (YtnnofopfbeklbaaGreatW.PrintWords.rd xs x8))*2^j6.toNat))=j8:=Qju hj8;have H':=QA H;have HJ:=QA hj6;have HLT:=QA c3;obtain⟨ad,e1,o⟩:=Kd.at_int j.out x8 p0 c3;subst e1;have hw8':IntKind.i64.wrap (8*x8)=j6:=by rw[hj6];exact hw8
    clear H hj6 hj8 hw9 hw2 hw8;go_wp2
    go_roundw
    case rel=>exact⟨_,x8+1,k1,rfl,rfl,H',⟨by have:=HLT.out;have:=HK.out;omega⟩,trivial⟩
    case measure=>have h1:=HLT.out;have h2:=HK.out;simp[intOf];omega
   ·have l:decide (x8<(xs.length:Int))=false:=decide_eq_false c3;rw[if_neg c3]at H;obtain rfl:=Option.some.inj H;go_wp2;go_ret
    exact⟨rfl,HI1.out,d.out,HK1.out⟩
theorem Qpq(b g:Nat)(bs:List Int)(i:Int)(hi:0≤i∧i≤bs.length)(hl:bs.length≤140737488355328)(w:World)(hI:IsCur w b g bs i) :
  Calls Tryz.prog 139 #[.pointer (some ⟨g,0,none⟩)] w fun e w'=>e=.returned (.int .i64 ((bs.length:Int)-i))∧Below w.heap.size w w':=by
 have HI:=QA hI;obtain⟨A,c,h0,h1,h2,h3,h4,h5⟩:=hI.cells;clear hI h4;have hu:=Tryz.underlying264;have hw1:IntKind.i64.wrap ((bs.length:Int)-i)=(bs.length:Int)-i:=IntWalk.i64_in _ (by omega)
 go_enter Tryz.func139,Tryz.ntmps139
 go_upto_region 3 with(go_at_call 191;refine(Qpk b g bs i _ HI.out).mono ?_;rintro ee wa ⟨rfl,rfl⟩)
 have q0:=Qdu (Qdr (Below.refl _ _)) h0;have q1:=Qdu (Qdr (Below.refl _ _)) h1
 go_region
 go_wp2;go_ret
 exact⟨rfl,Qdr (Below.refl _ _)⟩
theorem Qpr{P:Program}{tp te:TypeId}{j:TypeInfo}(a:Addr)(hp:P.underlying tp=some (.pointer te))(hte:P.info? te=some j)(w:World) :
  (binOp .neq tp (.pointer (some a)) (.pointer (some a))).run P w=.ok (.bool false) w:=by
 have h:∀d:Nat,(Op.equalIn (d+1) tp (.pointer (some a)) (.pointer (some a))).run P w=.ok true w:=fun d=>by simp[Op.equalIn,run_underlying hp,sizeOf,typeInfo,hte,run_sameAddr_same]
 simp only[binOp];simp[Op.equal,Op.maxDepth,h 9999]
theorem Qps{P:Program}{Q:Exit→Act→List Frame→World→Prop}{o:Oper}{id:Nat}{a:Act}{cs:List Frame}{w:World}(hw:Region.wanted o (yielded #[o] a.tmps)=true)(hr:(execOp a.eval o).run P w=.ok .recover w)
  (hc:recoverD cs=none) (h:Q .normal (a.put o.dst .nilIface) cs w):(Code.region id #[o] false).wpS P Q a cs w:=by
 apply wpS_region;show wpOpsS P #[o] Q [0] a cs w;simp only[wpOpsS];show(if Region.wanted o (yielded #[o] a.tmps)=true then _ else _);rw[if_pos hw];simp only[List.getElem_toArray,List.getElem_cons_zero,hr,hc];exact h
theorem Qpt{P:Program}{Q:Exit→Act→List Frame→World→Prop}{o:Oper}{id:Nat}{a:Act}{cs cs':List Frame}{v:Value}{w:World}(hw:Region.wanted o (yielded #[o] a.tmps)=true)(hr:(execOp a.eval o).run P w=.ok .recover w)
  (hc:recoverD cs=some (v,cs')) (h:Q .normal (a.put o.dst v) cs' w):(Code.region id #[o] false).wpS P Q a cs w:=by
 apply wpS_region;show wpOpsS P #[o] Q [0] a cs w;simp only[wpOpsS];show(if Region.wanted o (yielded #[o] a.tmps)=true then _ else _);rw[if_pos hw];simp only[List.getElem_toArray,List.getElem_cons_zero,hr,hc];exact h
theorem Qpu(g ba be bc:Nat)(i x:Int)(v:Value)(w:World)(h0:w.heap[bc]? = some (.cells #[.pointer (some ⟨g,0,none⟩)] 204 (0,0)))
  (h1:w.heap[g]? = some (.cells #[v,.int .i64 i,.bool true] 264 (0,0))) (h2:w.heap[ba]? = some (.cells #[.int .i64 x] 3 (0,0))) :
  CallsD Tryz.prog 190 #[.pointer (some ⟨bc,0,none⟩),.pointer (some ⟨ba,0,none⟩),.pointer (some ⟨be,0,none⟩)] .returning w fun e u' w' =>
   e=.returned (.tuple #[])∧u'=.returning∧w'=(w.setCell ⟨g,2,none⟩ (.bool false)).setCell ⟨ba,0,none⟩ (.int .i64 i):=by
 have hu:=Tryz.underlying264;have n1:bc≠g:=Qer h0 h1 (by decide);have n2:ba≠g:=Qer h2 h1 (by decide);have c0:w.cell? ⟨bc,0,none⟩=some (.pointer (some ⟨g,0,none⟩)):=(Qeo h0 0).trans rfl;have c1:w.frozen? ⟨g,2,none⟩=false:=Qep h1 2;have c2:w.cell? ⟨g,2,none⟩=some (.bool true):=(Qeo h1 2).trans rfl;have k0:=Qem h0 (p:=⟨g,2,none⟩) n1 (.bool false);have k1:=Qel h1 2 (.bool false);have k2:=Qem h2 (p:=⟨g,2,none⟩) n2 (.bool false);obtain⟨W1,hW1⟩:∃W1,W1=w.setCell ⟨g,2,none⟩ (.bool false):=⟨_,rfl⟩;rw[← hW1]at k0 k1 k2 ⊢;refine callsD_of_wpS Tryz.func190 rfl fun c₀ cs hm=>?_
 simp only[Tryz.ntmps190,List.size_toArray,List.length_cons,List.length_nil,Nat.reduceAdd,Nat.reduceSub,Array.replicate_succ,Array.replicate_zero,List.push_toArray,List.append_toArray,List.nil_append,List.cons_append];apply wpS_seq;refine wpS_of_wp ?_;go_wp2;simp only[Exit.thenS];rw[← hW1];have d0:W1.cell? ⟨bc,0,none⟩=some (.pointer (some ⟨g,0,none⟩)):=(Qeo k0 0).trans rfl;have d1:W1.cell? ⟨g,1,none⟩=some (.int .i64 i):=(Qeo k1 1).trans rfl;have d2:W1.frozen? ⟨ba,0,none⟩=false:=Qep k2 0;have d3:W1.cell? ⟨ba,0,none⟩=some (.int .i64 x):=(Qeo k2 0).trans rfl;clear c0 c1 c2 hW1 h0 h1 h2;apply wpS_seq;refine wpS_of_wp ?_;go_wp2;simp only[Exit.thenS];apply wpS_seq;refine Qps rfl ?_ ?_ ?_
 ·go_simp
 ·simp[recoverD,hm]
 simp only[Exit.thenS,Act.put,List.setIfInBounds_toArray,List.set_cons_zero,List.set_cons_succ];refine wpS_of_wp ?_;go_wp2;refine⟨rfl,.returning,?_,_,results_none rfl _ _ _,rfl,rfl,rfl⟩
 cases c₀
 simp_all
theorem Qpv(g ba be bc:Nat)(i x y er:Int)(v:Value)(w:World)(h0:w.heap[bc]? = some (.cells #[.pointer (some ⟨g,0,none⟩)] 204 (0,0)))
  (h1:w.heap[g]? = some (.cells #[v,.int .i64 i,.bool true] 264 (0,0))) (h2:w.heap[ba]? = some (.cells #[.int .i64 x] 3 (0,0))) (h3:w.heap[be]? = some (.cells #[.int .i64 y] 30 (0,0))) :
  CallsD Tryz.prog 190 #[.pointer (some ⟨bc,0,none⟩),.pointer (some ⟨ba,0,none⟩),.pointer (some ⟨be,0,none⟩)] (.panicking [Qpj g er]) w fun e u' w' =>
   e=.returned (.tuple #[])∧u'=.panicking [{ Qpj g er with recovered:=true }]∧w'=((((w.setCell ⟨g,2,none⟩ (.bool false)).setCell ⟨ba,0,none⟩ (.int .i64 i)).alloc (.cells #[.pointer (some ⟨g,0,none⟩),.int .i64 er] 266)).setCell ⟨be,0,none⟩ (.int .i64 er)):=by
 have hu:=Tryz.underlying264;have hu2:=Tryz.underlying266;have hu3:=Tryz.underlying204;have n1:bc≠g:=Qer h0 h1 (by decide);have n2:ba≠g:=Qer h2 h1 (by decide);have n3:be≠g:=Qer h3 h1 (by decide);have n4:bc≠ba:=Qer h0 h2 (by decide);have n5:be≠ba:=Qer h3 h2 (by decide);have c0:w.cell? ⟨bc,0,none⟩=some (.pointer (some ⟨g,0,none⟩)):=(Qeo h0 0).trans rfl;have c1:w.frozen? ⟨g,2,none⟩=false:=Qep h1 2;have c2:w.cell? ⟨g,2,none⟩=some (.bool true):=(Qeo h1 2).trans rfl;have k0:=Qem h0 (p:=⟨g,2,none⟩) n1 (.bool false);have k1:=Qel h1 2 (.bool false);have k2:=Qem h2 (p:=⟨g,2,none⟩) n2 (.bool false);have k3:=Qem h3 (p:=⟨g,2,none⟩) n3 (.bool false);obtain⟨W1,hW1⟩:∃W1,W1=w.setCell ⟨g,2,none⟩ (.bool false):=⟨_,rfl⟩;rw[← hW1]at k0 k1 k2 k3 ⊢;have m0:=Qem k0 (p:=⟨ba,0,none⟩) n4 (.int .i64 i);have m3:=Qem k3 (p:=⟨ba,0,none⟩) n5 (.int .i64 i);obtain⟨W2,hW2⟩:∃W2,W2=W1.setCell ⟨ba,0,none⟩ (.int .i64 i):=⟨_,rfl⟩;rw[← hW2]at m0 m3 ⊢;obtain⟨j9,hj9⟩:∃j,Tryz.prog.info? 264=some j:=Option.isSome_iff_exists.1 qq_7;have hnp:∀W:World,(binOp .neq 204 (.pointer (some ⟨g,0,none⟩)) (.pointer (some ⟨g,0,none⟩))).run Tryz.prog W=.ok (.bool false) W:=fun W=>Qpr ⟨g,0,none⟩ hu3 hj9 W
 clear hj9;have hta:∀W:World,(Instr.typeAssert (.iface 266 (.agg #[.pointer (some ⟨g,0,none⟩),.int .i64 er])) 20 266 true).run Tryz.prog W=.ok (.tuple #[.agg #[.pointer (some ⟨g,0,none⟩),.int .i64 er],.bool true]) W:=fun W=>by kernel_rfl
 refine callsD_of_wpS Tryz.func190 rfl fun c₀ cs hm=>?_
 simp only[Tryz.ntmps190,List.size_toArray,List.length_cons,List.length_nil,Nat.reduceAdd,Nat.reduceSub,Array.replicate_succ,Array.replicate_zero,List.push_toArray,List.append_toArray,List.nil_append,List.cons_append];apply wpS_seq;refine wpS_of_wp ?_;go_wp2;simp only[Exit.thenS];rw[← hW1];have d0:W1.cell? ⟨bc,0,none⟩=some (.pointer (some ⟨g,0,none⟩)):=(Qeo k0 0).trans rfl;have d1:W1.cell? ⟨g,1,none⟩=some (.int .i64 i):=(Qeo k1 1).trans rfl;have d2:W1.frozen? ⟨ba,0,none⟩=false:=Qep k2 0;have d3:W1.cell? ⟨ba,0,none⟩=some (.int .i64 x):=(Qeo k2 0).trans rfl;clear c0 c1 c2 hW1 h0 h1 h2 h3;apply wpS_seq;refine wpS_of_wp ?_;go_wp2;simp only[Exit.thenS];rw[← hW2];have o0:W2.cell? ⟨bc,0,none⟩=some (.pointer (some ⟨g,0,none⟩)):=(Qeo m0 0).trans rfl;have s0:=Qfa m0 (.cells #[.pointer (some ⟨g,0,none⟩),.int .i64 er] 266);have s3:=Qfa m3 (.cells #[.pointer (some ⟨g,0,none⟩),.int .i64 er] 266);have s4:=Qfe W2 (.cells #[.pointer (some ⟨g,0,none⟩),.int .i64 er] 266);have p0:(W2.alloc (.cells #[.pointer (some ⟨g,0,none⟩),.int .i64 er] 266)).cell? ⟨bc,0,none⟩=some (.pointer (some ⟨g,0,none⟩)):=(Qeo s0 0).trans rfl;have p1:(W2.alloc (.cells #[.pointer (some ⟨g,0,none⟩),.int .i64 er] 266)).cell? ⟨be,0,none⟩=some (.int .i64 y):=(Qeo s3 0).trans rfl;have p2:(W2.alloc (.cells #[.pointer (some ⟨g,0,none⟩),.int .i64 er] 266)).frozen? ⟨be,0,none⟩=false:=Qep s3 0;have p3:(W2.alloc (.cells #[.pointer (some ⟨g,0,none⟩),.int .i64 er] 266)).cell? ⟨W2.heap.size,0,none⟩=some (.pointer (some ⟨g,0,none⟩)):=(Qeo s4 0).trans rfl;have p4:(W2.alloc (.cells #[.pointer (some ⟨g,0,none⟩),.int .i64 er] 266)).cell? ⟨W2.heap.size,1,none⟩=some (.int .i64 er):=(Qeo s4 1).trans rfl;clear d0 d1 d2 d3 hW2 s0 s3 s4;apply wpS_seq;refine Qpt (v:=.iface 266 (.agg #[.pointer (some ⟨g,0,none⟩),.int .i64 er])) (cs':={ c₀ with mode:=.panicking [{ Qpj g er with recovered:=true }] } :: cs) rfl ?_ ?_ ?_
 ·go_simp
 ·simp[recoverD,hm,Qpj]
 simp only[Exit.thenS,Act.put,List.setIfInBounds_toArray,List.set_cons_zero,List.set_cons_succ];refine wpS_of_wp ?_;go_wp2;refine⟨rfl,_,rfl,_,results_none rfl _ _ _,rfl,rfl,rfl⟩
end Go.Proofs.YtnnofopfbeklbaaGreat.C
end
