/- Texts of this claim's author and of the print of its functions, merged by merge.py. -/
import Derived.Test.YtnnofopfbeklbaaGreatMH02
import Derived.Lib.SliceRun
import Derived.StillTailTactics
import Derived.Test.YtnnofopfbeklbaaGreatMH03
import Derived.Shelf.Bytes.SlIndexAt
set_option linter.unusedVariables false
set_option linter.unusedSimpArgs false
set_option maxHeartbeats 8000000
set_option maxRecDepth 100000
section
namespace Go.Proofs.YtnnofopfbeklbaaGreat.C
open Go.RowKit Go.Proofs.YtnnofopfbeklbaaGreatW.PrintWords Go.Proofs.YtnnofopfbeklbaaGreatW.PrintLast Go.Proofs.YtnnofopfbeklbaaGreatW.PrintMore
abbrev R8(W:World)(b:Nat)(v:Value)(xs:List Int):Prop:=Kd.R (Kd.int .u8) 5 W b (fun _=>True) v xs
def IsBuf(W:World)(b g:Nat)(xs:List Int):Prop:=∃v,W.heap[g]? = some (.cells #[v] 167 (0,0))∧R8 W b v xs
def leb:Int→Nat→List Int
 | _,0=>[]
 | x,n+1=>x%256 :: leb (x/256) n
theorem Qjl:∀(n:Nat) (x:Int),(leb x n).length=n
 | 0,_=>rfl
 | n+1,x=>by simp[leb,Qjl n]
theorem R8.lit(W:World)(b:Nat)(hb:b≤W.heap.size)(xs:List Int)(hm:xs.length≤9223372036854775807):R8 (W.alloc (.cells (nums .u8 xs).toArray 5)) b (.slice (some ⟨W.heap.size,0,none⟩) xs.length xs.length) xs :=
 Kd.R_of_own (own_lit W b 5 .u8 xs hb hm) (fun _ _=>trivial)
theorem R8.clean{W:World}{b g t:Nat}{v:Value}{xs:List Int}{cs:Array Value}(h:R8 W b v xs)(hg:W.heap[g]? = some (.cells cs t (0,0)))(ht:5≠t):some g≠v.ownBlock:=Kd.R_ne h hg ht
theorem R8.set{W:World}{b g t:Nat}{v:Value}{xs:List Int}{cs:Array Value}(h:R8 W b v xs)(hg:W.heap[g]? = some (.cells cs t (0,0)))(ht:5≠t)(j:Nat)(u:Value):R8 (W.setCell ⟨g,j,none⟩ u) b v xs :=
 Kd.R_set h hg (by intro q hq;rcases List.mem_cons.1 hq with rfl|hq;exact ht;cases hq) j u
theorem R8.kept{W W':World}{b:Nat}{v:Value}{xs:List Int}(h:R8 W b v xs)(hb:Below W.heap.size W W'):R8 W' b v xs:=Kd.R_below h hb
theorem R8.low{W:World}{b b':Nat}{v:Value}{xs:List Int}(h:R8 W b v xs)(hb:b'≤b):R8 W b' v xs:=Kd.R_lower h hb
theorem R8.shape{W:World}{b:Nat}{v:Value}{xs:List Int}(h:R8 W b v xs):∃A n c,v=.slice A n c:=by
 obtain⟨A,c,e⟩:=Kd.R_slice h
 exact⟨A,_,c,e⟩
theorem IsBuf.kept{W W':World}{b g:Nat}{xs:List Int}(h:IsBuf W b g xs)(hb:Below W.heap.size W W'):IsBuf W' b g xs:=by
 obtain⟨v,h1,h2⟩:=h
 exact⟨v,Qeh h1 hb,h2.kept hb⟩
theorem IsBuf.put{W w1:World}{b g:Nat}{v v1:Value}{xs ys:List Int}(hv:W.heap[g]? = some (.cells #[v] 167 (0,0)))(hR:R8 W b v xs)(hg:W.grownBy w1 v.ownBlock)(h1:R8 w1 b v1 ys) :
  w1.heap[g]? = some (.cells #[v] 167 (0,0))∧IsBuf (w1.setCell ⟨g,0,none⟩ v1) b g ys:=by
 have hv1:=Qdu hv hg (hR.clean hv (by decide))
 exact⟨hv1,v1,Qdp hv1 0 v1,h1.set hv1 (by decide) 0 v1⟩
theorem Qjm{b:Nat}{w W:World}{g j:Nat}{v:Value}(h:Below b w W)(hg:b≤g):Below b w (W.setCell ⟨g,j,none⟩ v):=h.setCell hg _
theorem Qjn{b b':Nat}{w W:World}(h:Below b w W)(hb:b'≤b):Below b' w W:=⟨h.os,h.tape,h.output,h.size,fun i hi=>h.block i (by omega)⟩
def Tk(g:Nat)(w w':World):Prop:=∀k cs t,w.heap[k]? = some (.cells cs t (0,0))→t≠5→k≠g→w'.heap[k]? = some (.cells cs t (0,0))
def Bw(b g:Nat)(w w':World):Prop:=Below b w w'∧Tk g w w'
theorem Tk.refl(g:Nat)(w:World):Tk g w w:=fun _ _ _ h _ _=>h
theorem Tk.trans{g:Nat}{a b c:World}(h:Tk g a b)(k:Tk g b c):Tk g a c:=fun _ _ _ h1 h2 h3=>k _ _ _ (h _ _ _ h1 h2 h3) h2 h3
theorem Tk.below{g:Nat}{w w':World}(h:Below w.heap.size w w'):Tk g w w':=fun _ _ _ h1 _ _=>Qeh h1 h
theorem Bw.refl(b g:Nat)(w:World):Bw b g w w:=⟨Below.refl _ _,Tk.refl _ _⟩
theorem Bw.trans{b g:Nat}{x y z:World}(h:Bw b g x y)(k:Bw b g y z):Bw b g x z:=⟨h.1.trans k.1,h.2.trans k.2⟩
theorem Bw.below{b g:Nat}{w w':World}(h:Below w.heap.size w w')(hb:b≤w.heap.size):Bw b g w w':=⟨Qjn h hb,Tk.below h⟩
theorem Bw.size{b g:Nat}{w w':World}(h:Bw b g w w'):w.heap.size≤w'.heap.size:=h.1.size
theorem Bw.put{W w1:World}{b g:Nat}{v v1:Value}{xs:List Int}(hbg:b≤g)(hv:W.heap[g]? = some (.cells #[v] 167 (0,0)))(hR:R8 W b v xs)(hb:Below b W w1)(hg:W.grownBy w1 v.ownBlock):Bw b g W (w1.setCell ⟨g,0,none⟩ v1):=by
 refine⟨Qjm hb hbg,fun k cs t h1 h2 h3=>?_⟩
 have hne:some k≠v.ownBlock:=Kd.R_ne hR h1 (fun e=>h2 e.symm)
 have h4:=Qdu h1 hg hne
 exact Qdq h4 h3 v1
theorem Qjo(A0:Option Addr)(c0:Nat)(l0:List Int)(w:World)(hr0:Kd.C (Kd.int .u8) w A0 l0.length l0)(hl:l0.length≤140737488355328) :
  Calls Tryz.prog 70 #[.slice A0 l0.length c0] w fun e w'=>∃v0_:Value,e=.returned (v0_)∧R8 w' w.heap.size v0_ l0∧Below w.heap.size w w':=by
 have hu:=Tryz.underlying52
 have q22:∀(w:World) (a:Option Addr) (n c n' c':Nat),(binOp .eql 52 (.slice a n c) (.slice none n' c')).run Tryz.prog w=.ok (.bool a.isNone) w:=fun w a n c n' c'=>Lib.run_eql_slice_nil w _ _ a n c n' c' hu
 cases A0 with
 | none =>
  obtain rfl:l0=[]:=by
   cases l0 with
   | nil=>rfl
   | cons a t=>obtain⟨ad,c,h1,_⟩:=Kd.C_get hr0 0 0 (by omega) (by simp);cases h1
  go_enter Tryz.func70,Tryz.ntmps70
  go_wp2
  go_ret
  exact⟨_,rfl,Kd.R_nil _ _ _ _ _,Below.refl _ _⟩
 | some ad =>
  go_enter Tryz.func70,Tryz.ntmps70
  go_wp2_with (first |(at_builtin;refine Kd.R_append_row (Value.int .u8) (0:Int) (h1:=fun _=>rfl) (w0:=w) w.heap.size rfl (.tmp 5) (.tmp 6) 52 5 (.int .u8 0) 1 rfl Tryz.underlying52 Qiu rfl (by decide) _ [] l0 (some ad) l0.length c0 (fun _=>True) rfl rfl (fun _ _=>trivial) ?hO ?hR ?hB ?hS ?hL ?_;(case hO=>exact R8.lit w w.heap.size (Nat.le_refl _) [] (by simp));(case hR=>exact Kd.C_below hr0 (Qcu (Below.refl _ _) _));(case hB=>exact Qcu (Below.refl _ _) _);(case hS=>simp);(case hL=>simp;omega);intro v1 w1 HR1 hb1 hg1 hat1;simp only[List.nil_append]at HR1))
  go_ret
  exact⟨_,rfl,HR1,hb1⟩
theorem Qjp(b g:Nat)(x:Int)(n:Nat)(xs:List Int)(w:World)(hx0:0≤x)(hx1:x<18446744073709551616)(hbg:b≤g)(hbw:b≤w.heap.size)(hI:IsBuf w b g xs)(hl:xs.length+n≤140737488355328) :
  Calls Tryz.prog 149 #[.pointer (some ⟨g,0,none⟩),.int .u64 x,.int .i64 n] w fun e w'=>e=.returned (.pointer (some ⟨g,0,none⟩))∧IsBuf w' b g (xs++leb x n)∧Bw b g w w':=by
 have HI:=QA hI
 clear hI
 go_enter Tryz.func149,Tryz.ntmps149
 go_wp2
 go_loopw [1,8] (fun v1 v8 wr=>∃(k:Nat) (ys:List Int) (iv xv:Int),k≤n∧ys.length=k∧v8=.int .i64 iv∧v1=.int .u64 xv∧0≤xv∧xv<18446744073709551616∧Aside0 (iv=(k:Int))∧Aside0 (leb x n=ys++leb xv (n-k))∧Aside0 (IsBuf wr b g (xs++ys))∧Aside0 (Bw b g w wr))
  (fun _ v8 _=>n-(intOf v8).toNat)
 case atStart=>exact⟨0,[],0,x,Nat.zero_le _,rfl,rfl,rfl,hx0,hx1,⟨rfl⟩,⟨rfl⟩,⟨by simpa using HI.out⟩,⟨Bw.refl _ _ _⟩⟩
 case round =>
  obtain⟨k,ys,iv,xv,hk,hys,rfl,rfl,hx2,hx3,HK,HL,HB,HW⟩:=hrel
  by_cases hlt:k<n
  ·have hlt2:iv<(n:Int):=by have:=HK.out;omega
   have hge:0≤iv:=by have:=HK.out;omega
   obtain⟨v,hv,hR⟩:=HB.out
   have hc:wr.cell? ⟨g,0,none⟩=some v:=(Qds hv 0).trans rfl
   have HV:=QA hv
   have HR:=QA hR
   clear hv hR
   go_wp2_with ((at_builtin;refine Kd.R_append (Kd.int .u8) (w0:=wr) b rfl (.tmp 14) (.tmp 17) 52 5 (.int .u8 0) 1 rfl Tryz.underlying52 Qiu rfl (by decide) (by omega) v (xs++ys) (xv%256) [.int .u8 (xv%256)] (fun _=>True) (fun _=>False) rfl ?ax ?aP (fun _ hk=>hk.elim) ?aF ?aO ?aB ?aS ?aL ?_;(case ax=>rfl);(case aP=>rfl);(case aF=>exact fun _ _=>trivial);(case aO=>exact HR.out);(case aB=>exact Below.refl _ _);(case aS=>exact Nat.le_trans hbw HW.out.size);(case aL=>simp;omega);intro v1 w1 HR1 hb1 hg1 hat1;obtain⟨A1,n1,c1,rfl⟩:=R8.shape HR1;obtain⟨hv1,hI1⟩:=IsBuf.put HV.out HR.out hg1 HR1;have hfz:=Qdt hv1 0;have hc1:w1.cell? ⟨g,0,none⟩=some v:=(Qds hv1 0).trans rfl;have HI1:=QA hI1;have HB1:=QA (HW.out.trans (Bw.put (v1:=.slice A1 n1 c1) hbg HV.out HR.out hb1 hg1));clear hI1 hb1 hg1 hat1 HR1 hv1))
   go_roundw
   case rel=>exact⟨k+1,ys++[xv%256],iv+1,xv/256,by omega,by simp[hys],by go_num,by go_num,by omega,by omega,⟨by have:=HK.out;omega⟩,⟨by
    rw[HL.out,show n-k=(n-(k+1))+1 by omega,leb];simp⟩,⟨by rw[← List.append_assoc];exact HI1.out⟩,⟨HB1.out⟩⟩
   case measure=>simp[intOf];omega
  ·obtain rfl:k=n:=by omega
   have e1:iv=(k:Int):=HK.out
   subst e1
   go_wp2
   go_ret
   refine⟨rfl,?_,HW.out⟩
   have e:=HL.out
   rw[Nat.sub_self]at e
   rw[e]
   simpa [leb]using HB.out
theorem Qjq(b g:Nat)(x:Int)(xs:List Int)(w:World)(hx0:0≤x)(hx1:x<256)(hbg:b≤g)(hbw:b≤w.heap.size)(hI:IsBuf w b g xs)(hl:xs.length+1≤140737488355328) :
  Calls Tryz.prog 94 #[.pointer (some ⟨g,0,none⟩),.int .u8 x] w fun e w'=>e=.returned (.pointer (some ⟨g,0,none⟩))∧IsBuf w' b g (xs++[x])∧Bw b g w w':=by
 go_enter Tryz.func94,Tryz.ntmps94
 go_wp2_with (go_at_call 149;refine(Qjp b g x 1 xs w hx0 (by omega) hbg hbw hI hl).mono ?_;rintro e w' ⟨rfl,hd,hb⟩)
 go_ret
 refine⟨rfl,?_,hb⟩
 have e:leb x 1=[x]:=by simp[leb];omega
 rw[e]at hd
 exact hd
theorem Qjr(b g:Nat)(x:Int)(xs:List Int)(w:World)(hx0:0≤x)(hx1:x<18446744073709551616)(hbg:b≤g)(hbw:b≤w.heap.size)(hI:IsBuf w b g xs)(hl:xs.length+8≤140737488355328) :
  Calls Tryz.prog 151 #[.pointer (some ⟨g,0,none⟩),.int .u64 x] w fun e w'=>e=.returned (.pointer (some ⟨g,0,none⟩))∧IsBuf w' b g (xs++leb x 8)∧Bw b g w w':=by
 go_enter Tryz.func151,Tryz.ntmps151
 go_wp2_with (go_at_call 149;refine(Qjp b g x 8 xs w hx0 hx1 hbg hbw hI hl).mono ?_;rintro e w' ⟨rfl,hd,hb⟩)
 go_ret
 exact⟨rfl,hd,hb⟩
theorem buf_Raw(b g:Nat)(A0:Option Addr)(c0:Nat)(ys:List Int)(xs:List Int)(w:World)(hr0:Kd.C (Kd.int .u8) w A0 ys.length ys)(hbg:b≤g)(hbw:b≤w.heap.size)(hI:IsBuf w b g xs)(hl:xs.length+ys.length≤140737488355328) :
  Calls Tryz.prog 150 #[.pointer (some ⟨g,0,none⟩),.slice A0 ys.length c0] w fun e w'=>e=.returned (.pointer (some ⟨g,0,none⟩))∧IsBuf w' b g (xs++ys)∧Bw b g w w':=by
 obtain⟨v,hv,hR⟩:=hI
 have hc:w.cell? ⟨g,0,none⟩=some v:=(Qds hv 0).trans rfl
 go_enter Tryz.func150,Tryz.ntmps150
 go_wp2_with (first |(at_builtin;refine Kd.R_append_row (Value.int .u8) (0:Int) (h1:=fun _=>rfl) (w0:=w) b rfl (.tmp 9) (.tmp 10) 52 5 (.int .u8 0) 1 rfl Tryz.underlying52 Qiu rfl (by decide) v xs ys A0 ys.length c0 (fun _=>True) rfl rfl (fun _ _=>trivial) ?hO ?hR ?hB ?hS ?hL ?_;(case hO=>exact hR);(case hR=>exact hr0);(case hB=>exact Below.refl _ _);(case hS=>exact hbw);(case hL=>omega);intro v1 w1 HR1 hb1 hg1 hat1;obtain⟨A1,n1,c1,rfl⟩:=R8.shape HR1;obtain⟨hv1,hI1⟩:=IsBuf.put hv hR hg1 HR1;have hfz:=Qdt hv1 0;have hc1:w1.cell? ⟨g,0,none⟩=some v:=(Qds hv1 0).trans rfl;have HI1:=QA hI1;have HB1:=QA (Bw.put (v1:=.slice A1 n1 c1) hbg hv hR hb1 hg1);clear hI1 hb1 hg1 hat1 HR1 hv1))
 go_ret
 exact⟨rfl,HI1.out,HB1.out⟩
theorem Qjs(b g:Nat)(xs:List Int)(w:World)(hI:IsBuf w b g xs)(hl:xs.length≤140737488355328) :
  Calls Tryz.prog 97 #[.pointer (some ⟨g,0,none⟩)] w fun e w'=>∃v:Value,e=.returned v∧R8 w' w.heap.size v xs∧Below w.heap.size w w':=by
 obtain⟨v,hv,hR⟩:=hI
 obtain⟨A,c,rfl,hlc,hC⟩:=Kd.R_reads hR
 have hc:w.cell? ⟨g,0,none⟩=some (.slice A xs.length c):=(Qds hv 0).trans rfl
 go_enter Tryz.func97,Tryz.ntmps97
 go_wp2_with (go_at_call 70;refine(Qjo A c xs w hC hl).mono ?_;rintro e w' ⟨v1,rfl,hd,hb⟩)
 go_ret
 exact⟨_,rfl,hd,hb⟩
abbrev Q1:Int:=11400714785074694791
abbrev Q2:Int:=14029467366897019727
abbrev Q3:Int:=1609587929392839161
abbrev Q4:Int:=9650029242287828579
abbrev Q5:Int:=2870177450012600261
def IsSt(W:World)(b g:Nat)(sd v0 v1 v2 v3:Int)(rest:List Int)(n:Int):Prop :=
 ∃rv,W.heap[g]? = some (.cells #[.int .u64 sd,.int .u64 v0,.int .u64 v1,.int .u64 v2,.int .u64 v3,rv,.int .u64 n] 274 (0,0))∧R8 W b rv rest
theorem st_New(sd:Int)(w:World) :
  Calls Tryz.prog 155 #[.int .u64 sd] w fun e w'=>e=.returned (.pointer (some ⟨w.heap.size,0,none⟩))∧IsSt w' w.heap.size w.heap.size sd (IntKind.u64.wrap (IntKind.u64.wrap (sd+Q1)+Q2)) (IntKind.u64.wrap (sd+Q2)) sd (IntKind.u64.wrap (sd-Q1)) [] 0∧Below w.heap.size w w':=by
 have hu:=Tryz.underlying274
 have hu2:=Tryz.underlying231
 go_enter Tryz.func155,Tryz.ntmps155
 go_wp2_with fail
 go_region
 go_wp2_with fail
 go_region
 go_wp2_with fail
 go_region
 go_wp2_with fail
 go_region
 go_wp2_with fail
 go_ret
 refine⟨rfl,⟨_,Qei w _,Kd.R_nil _ _ _ _ _⟩,Qcv (Qcv (Qcv (Qcv (Qcu (Below.refl _ _) _))))⟩
def rotP(x n:Int):Int:=(Qac.f x n).getD 0
theorem Qjt(x n:Int)(h:0≤n∧n<64∧Go.bits .and .u64 (IntKind.u64.wrap n) 63=n):Qac.f x n=some (rotP x n):=by
 unfold rotP Qac.f
 rw[h.2.2,if_pos h.1,if_pos (by rw[IntWalk.u64_in _ (by omega)];omega)]
 rfl
def Qju(x y:Int):Int:=(Qcr.f x y).getD 0
theorem into_is(x y:Int):Qcr.f x y=some (Qju x y):=by
 unfold Qju Qcr.f
 rw[Qjt _ 31 ⟨by decide,by decide,by kernel_rfl⟩]
 rfl
def numP(n:Nat)(l:List Int):Int:=(Qcs.f (n+1) l n).getD 0
theorem num8_is(l:List Int)(h:8≤l.length):Qcs.f 9 l 8=some (numP 8 l):=by
 obtain⟨v,hv⟩:∃v,Qcs.f 9 l 8=some v:=by
  simp[Qcs.f,Qcs.l0,show(1:Int)<l.length by omega,show(2:Int)<l.length by omega,show(3:Int)<l.length by omega,show(4:Int)<l.length by omega,show(5:Int)<l.length by omega,show(6:Int)<l.length by omega,show(7:Int)<l.length by omega,show(0:Int)<l.length by omega,wrap64]
  omega
 unfold numP
 rw[show(8:Nat)+1=9 from rfl,show(((8:Nat):Int))=8 from rfl,hv]
 rfl
theorem num4_is(l:List Int)(h:4≤l.length):Qcs.f 5 l 4=some (numP 4 l):=by
 obtain⟨v,hv⟩:∃v,Qcs.f 5 l 4=some v:=by
  simp[Qcs.f,Qcs.l0,show(1:Int)<l.length by omega,show(2:Int)<l.length by omega,show(3:Int)<l.length by omega,show(0:Int)<l.length by omega,wrap64]
  omega
 unfold numP
 rw[show(4:Nat)+1=5 from rfl,show(((4:Nat):Int))=4 from rfl,hv]
 rfl
abbrev V4:=Int × Int × Int × Int
def Qjv(v:V4)(l:List Int):V4:=(Qju v.1 (numP 8 l),Qju v.2.1 (numP 8 (l.drop 8)),Qju v.2.2.1 (numP 8 (l.drop 16)),Qju v.2.2.2 (numP 8 (l.drop 24)))
def Qjw:Nat→V4→List Int→V4
 | 0,v,_=>v
 | m+1,v,l=>Qjw m (Qjv v l) (l.drop 32)
def lenV:Value→Nat
 | .slice _ n _=>n
 | _=>0
def Qjx(i:Nat)(v:V4)(l:List Int):V4:=(if 0<i then Qju v.1 (numP 8 l)else v.1,if 1<i then Qju v.2.1 (numP 8 (l.drop 8))else v.2.1,if 2<i then Qju v.2.2.1 (numP 8 (l.drop 16))else v.2.2.1,if 3<i then Qju v.2.2.2 (numP 8 (l.drop 24))else v.2.2.2)
def StAt(W:World)(g:Nat)(sd:Int)(v:V4)(rv:Value)(n:Int):Prop:=W.heap[g]? = some (.cells #[.int .u64 sd,.int .u64 v.1,.int .u64 v.2.1,.int .u64 v.2.2.1,.int .u64 v.2.2.2,rv,.int .u64 n] 274 (0,0))
abbrev Q8(W:World)(b:Nat)(v:Value)(xs:List Int):Prop:=Kd.Q (Kd.int .u8) 5 W b (fun _=>True) v xs
theorem Qjy(A:Option Addr)(n c m:Nat)(j:Int)(hj:j=(m:Int))(hm:m≤n) :
  ∃A':Option Addr,(∀W:World,(Instr.slice 52 (.slice A n c) (some (.int .i64 j)) none none).run Tryz.prog W=.ok (.slice A' (n-m) (c-m)) W) ∧
   ∀(W:World) (b:Nat) (xs:List Int),xs.length=n→Q8 W b (.slice A n c) xs→Q8 W b (.slice A' (n-m) (c-m)) (xs.drop m):=by
 subst hj
 obtain⟨i,hi,hsz⟩:∃i,Tryz.prog.info? 5=some i∧i.size=1:=by
  have h:=Qiu
  cases hh:Tryz.prog.info? 5 with
  | none=>rw[hh]at h;cases h
  | some i =>
   rw[hh]at h
   simp only[Option.map_some,Option.some.injEq,Prod.mk.injEq]at h
   exact⟨i,rfl,h.2.1⟩
 refine⟨if c=m then A else A.map (·.add (m*1)),fun W=>?_,fun W b xs hn hq=>?_⟩
 ·have h:=Qeu (P:=Tryz.prog) 52 5 .i64 Tryz.underlying52 hi 1 hsz A n c (m:Int) (by omega) (by omega) W
  rw[Int.toNat_natCast]at h
  exact h
 ·exact Kd.Q_drop hq (by omega)
theorem Qjz{W:World}{b:Nat}{A:Option Addr}{n c:Nat}{l:List Int}(hQ:Q8 W b (.slice A n c) l)(h8:8≤l.length) :
  Calls Tryz.prog 200 #[.slice A n c,.int .i64 8] W fun e w'=>e=.returned (.int .u64 (numP 8 l))∧Drawn0 W w':=by
 obtain⟨rfl,h1,h2⟩:=Kd.Q_reads' hQ
 exact Qcs.calls 9 A c l 8 _ W h2 h1 (num8_is l h8)
theorem num4_at{W:World}{b:Nat}{A:Option Addr}{n c:Nat}{l:List Int}(hQ:Q8 W b (.slice A n c) l)(h8:4≤l.length) :
  Calls Tryz.prog 200 #[.slice A n c,.int .i64 4] W fun e w'=>e=.returned (.int .u64 (numP 4 l))∧Drawn0 W w':=by
 obtain⟨rfl,h1,h2⟩:=Kd.Q_reads' hQ
 exact Qcs.calls 5 A c l 4 _ W h2 h1 (num4_is l h8)
theorem Qka(x y:Int)(W:World):Calls Tryz.prog 199 #[.int .u64 x,.int .u64 y] W fun e w'=>e=.returned (.int .u64 (Qju x y))∧Drawn0 W w':=Qcr.calls x y _ W (into_is x y)
theorem Qkb(n:Nat)(hn:n≤64):∀(d i:Nat) (x:Int),i+d=n→∃r,Qbh.l0 (d+1) x (n:Int) (i:Int)=some r
 | 0,i,x,h=>by
  refine⟨x,?_⟩
  unfold Qbh.l0
  rw[if_neg (by omega)]
 | d+1,i,x,h=>by
  obtain⟨r,hr⟩:=Qkb n hn d (i+1) (IntKind.u64.wrap ((IntKind.u64.wrap (2*x))+(IntKind.u64.wrap (Int.tdiv x 9223372036854775808)))) (by omega)
  refine⟨r,?_⟩
  unfold Qbh.l0
  rw[if_pos (by omega),show wrap64 ((i:Int)+1)=((i+1:Nat):Int)by unfold wrap64;omega]
  exact hr
def Qkc(x:Int)(n:Nat):Int:=(Qbh.f (n+1) x n).getD 0
theorem Qkd(x:Int)(n:Nat)(hn:n≤64):Qbh.f (n+1) x n=some (Qkc x n):=by
 obtain⟨r,hr⟩:=Qkb n hn n 0 x (by omega)
 have h:Qbh.f (n+1) x n=some r:=hr
 unfold Qkc
 rw[h]
 rfl
def Qke(x y:Int):Int:=(Qbf.f 32 x y).getD 0
theorem Qkf(x y:Int):Qbf.f 32 x y=some (Qke x y):=by
 unfold Qke Qbf.f
 rw[show(32:Nat)=31+1 from rfl,show(31:Int)=((31:Nat):Int) from rfl,Qkd _ 31 (by omega)]
 rfl
theorem Qkg(s:ByteArray)(hs:s.size≤1000):∀(d:Nat) (x:Int),d≤s.size→∃r,Qay.l0 (d+1) s x ((d:Int)-1)=some r
 | 0,x,h=>by
  refine⟨x,?_⟩
  unfold Qay.l0
  rw[if_neg (by omega)]
 | d+1,x,h=>by
  obtain⟨r,hr⟩:=Qkg s hs d (IntKind.u64.wrap ((IntKind.u64.wrap (x*256))+(IntKind.u64.wrap (bt s (d:Int))))) (by omega)
  refine⟨r,?_⟩
  unfold Qay.l0
  rw[show((d+1:Nat):Int)-1=(d:Int)by omega,if_pos (by omega),if_pos (by omega),if_pos (by omega),show wrap64 ((d:Int)-1)=(d:Int)-1 by unfold wrap64;omega]
  exact hr
def rval(s:ByteArray):Int:=(Qay.f (s.size+1) s).getD 0
theorem Qkh(s:ByteArray)(hs:s.size≤1000):Qay.f (s.size+1) s=some (rval s):=by
 obtain⟨r,hr⟩:=Qkg s hs s.size 0 (Nat.le_refl _)
 have h:Qay.f (s.size+1) s=some r:=by
  unfold Qay.f
  rw[show wrap64 ((s.size:Int)-1)=(s.size:Int)-1 by unfold wrap64;omega]
  exact hr
 unfold rval
 rw[h]
 rfl
def Qki(v:V4)(s:ByteArray):V4:=(Qke v.1 (rval (s.extract 0 8)),Qke v.2.1 (rval (s.extract 8 16)),Qke v.2.2.1 (rval (s.extract 16 24)),Qke v.2.2.2 (rval (s.extract 24 32)))
def rrun:Nat→V4→ByteArray→V4 × ByteArray
 | 0,v,s=>(v,s)
 | m+1,v,s=>rrun m (Qki v s) (s.extract 32 s.size)
def rsum(V:V4):Int:=IntKind.u64.wrap (IntKind.u64.wrap (IntKind.u64.wrap (Qkc V.1 1+Qkc V.2.1 7)+Qkc V.2.2.1 12)+Qkc V.2.2.2 18)
def Qkj(h x:Int):Int:=IntKind.u64.wrap (IntKind.u64.wrap (Go.bits .xor .u64 h (Qke 0 x)*Q1)+Q4)
def rmix(h:Int)(V:V4):Int:=Qkj (Qkj (Qkj (Qkj h V.1) V.2.1) V.2.2.1) V.2.2.2
def Qkk(sd:Int):V4:=(IntKind.u64.wrap (IntKind.u64.wrap (sd+Q1)+Q2),IntKind.u64.wrap (sd+Q2),sd,IntKind.u64.wrap (sd-Q1))
def Qbe.f(a0:Int)(a1:ByteArray):Option (Int × ByteArray) :=
 if a1.size≤9223372036854775807 then some (rmix (rsum (rrun (a1.size/32) (Qkk a0) a1).1) (rrun (a1.size/32) (Qkk a0) a1).1,(rrun (a1.size/32) (Qkk a0) a1).2)else none
def rmixTo(i:Nat)(h:Int)(V:V4):Int:=match i with
 | 0=>h
 | 1=>Qkj h V.1
 | 2=>Qkj (Qkj h V.1) V.2.1
 | 3=>Qkj (Qkj (Qkj h V.1) V.2.1) V.2.2.1
 | _=>rmix h V
def VAt(W:World)(g:Nat)(V:V4):Prop:=W.heap[g]? = some (.cells #[.int .u64 V.1,.int .u64 V.2.1,.int .u64 V.2.2.1,.int .u64 V.2.2.2] 231 (0,0))
def Qkl:Value→Nat
 | .string s=>s.size
 | _=>0
def Qkm(i:Nat)(v:V4)(s:ByteArray):V4:=(if 0<i then Qke v.1 (rval (s.extract 0 8))else v.1,if 1<i then Qke v.2.1 (rval (s.extract 8 16))else v.2.1,if 2<i then Qke v.2.2.1 (rval (s.extract 16 24))else v.2.2.1,if 3<i then Qke v.2.2.2 (rval (s.extract 24 32))else v.2.2.2)
theorem Qkn(s:ByteArray)(hs:s.size≤1000)(W:World):Calls Tryz.prog 107 #[.string s] W fun e w'=>e=.returned (.int .u64 (rval s))∧Drawn0 W w':=Qay.calls _ s _ W (Qkh s hs)
theorem Qko(x y:Int)(W:World):Calls Tryz.prog 106 #[.int .u64 x,.int .u64 y] W fun e w'=>e=.returned (.int .u64 (Qke x y))∧Drawn0 W w':=Qbf.calls _ x y _ W (Qkf x y)
theorem Qkp(x:Int)(n:Nat)(j:Int)(hj:j=(n:Int))(hn:n≤64)(W:World):Calls Tryz.prog 108 #[.int .u64 x,.int .i64 j] W fun e w'=>e=.returned (.int .u64 (Qkc x n))∧Drawn0 W w':=by
 subst hj
 exact Qbh.calls _ x n _ W (Qkd x n hn)
theorem Qkq(s:ByteArray)(a b:Nat):(s.extract a b).size≤b-a:=by
 rw[ByteArray.size_extract]
 omega
theorem Qkr(sd:Int)(s0:ByteArray)(w:World)(hs:s0.size≤9223372036854775807) :
  Calls Tryz.prog 105 #[.int .u64 sd,.string s0] w fun e w'=>e=.returned (.tuple #[.int .u64 (rmix (rsum (rrun (s0.size/32) (Qkk sd) s0).1) (rrun (s0.size/32) (Qkk sd) s0).1),.string (rrun (s0.size/32) (Qkk sd) s0).2])∧Below w.heap.size w w':=by
 have hu2:=Tryz.underlying231
 go_enter Tryz.func105,Tryz.ntmps105
 go_wp2_with fail
 obtain⟨g,hg⟩:∃g,g=w.heap.size:=⟨_,rfl⟩
 obtain⟨V0,hV0⟩:∃V0,V0=Qkk sd:=⟨_,rfl⟩
 obtain⟨W,hW⟩:∃W,W=w.alloc (.cells #[.int .u64 (IntKind.u64.wrap (IntKind.u64.wrap (sd+11400714785074694791)+14029467366897019727)),.int .u64 (IntKind.u64.wrap (sd+14029467366897019727)),.int .u64 sd,.int .u64 (IntKind.u64.wrap (sd-11400714785074694791))] 231):=⟨_,rfl⟩
 have HV0:=QA (show VAt W g V0 by rw[hW,hg,hV0];exact Qei w _)
 have HW0:=QA (show Below w.heap.size w W by rw[hW];exact Qcu (Below.refl _ _) _)
 rw[← hW,← hg]
 have HG:=QA hg
 have HVV:=QA hV0
 clear hW hg hV0
 go_loopw [1,9,29] (fun v1 v9 v29 wr=>∃(m:Nat) (s:ByteArray) (V:V4),v1=.string s∧s.size≤s0.size∧Aside0 (s.size/32=m∧rrun (s0.size/32) V0 s0=rrun m V s)∧Aside0 (VAt wr g V)∧Aside0 (Below w.heap.size w wr))
  (fun v1 _ _ _=>Qkl v1)
 case atStart=>exact⟨_,s0,V0,rfl,Nat.le_refl _,⟨rfl,rfl⟩,HV0,HW0⟩
 case round =>
  clear HV0 HW0
  obtain⟨m,s,V,rfl,hss,HM,HV,HB⟩:=hrel
  by_cases h32:32≤s.size
  ·have h32i:(32:Int)≤(s.size:Int):=by omega
   go_wp2_with fail
   go_loopw [9,29] (fun v9 v29 wi=>∃(i:Nat) (iv:Int),i≤4∧v29=.int .i64 iv∧Aside0 (iv=(i:Int))∧Aside0 (VAt wi g (Qkm i V s))∧Aside0 (Below w.heap.size w wi))
    (fun _ v29 _=>4-(intOf v29).toNat)
   case atStart=>exact⟨0,0,by omega,rfl,⟨rfl⟩,HV,HB⟩
   case round =>
    clear HV HB
    obtain⟨i,iv,hi,rfl,HI,HV,HB⟩:=hrel
    by_cases h4:i<4
    ·have hk:i=0∨i=1∨i=2∨i=3:=by omega
     rcases hk with rfl|rfl|rfl|rfl
     ·obtain rfl:iv=0:=HI.out
      have cv:wr.cell? ⟨g,0,none⟩=some (.int .u64 V.1):=(Qds HV.out 0).trans rfl
      have fv:=Qdt HV.out 0
      go_wp2_with fail
      have hw0:IntKind.i64.wrap 0=0:=IntWalk.i64_in 0 (by decide)
      have hw1:IntKind.i64.wrap 8=8:=IntWalk.i64_in 8 (by decide)
      have hsz:(8:Int)≤(s.size:Int):=by omega
      have hx:(s.extract 0 8).size≤1000:=Nat.le_trans (Qkq s 0 8) (by decide)
      go_region_with (first |(go_at_call 107;refine(Qkn (s.extract 0 8) hx _).mono ?_;rintro e w7 ⟨rfl,hd⟩;obtain⟨q,rfl⟩:=hd.out;clear hd) |(go_at_call 106;refine(Qko _ _ _).mono ?_;rintro e w8 ⟨rfl,hd⟩;obtain⟨q2,rfl⟩:=hd.out;clear hd))
      all_goals
       go_wp2_with fail
       go_roundw
       case rel=>exact⟨1,1,by omega,by go_num,⟨rfl⟩,⟨Qdp (w:=wr.drewN _) HV.out 0 _⟩,⟨Qjm (Qcw HB.out _) (by rw[HG.out];exact Nat.le_refl _)⟩⟩
       case measure=>simp[intOf]
     ·obtain rfl:iv=1:=HI.out
      have cv:wr.cell? ⟨g,1,none⟩=some (.int .u64 V.2.1):=(Qds HV.out 1).trans rfl
      have fv:=Qdt HV.out 1
      go_wp2_with fail
      have hw0:IntKind.i64.wrap 8=8:=IntWalk.i64_in 8 (by decide)
      have hw1:IntKind.i64.wrap 16=16:=IntWalk.i64_in 16 (by decide)
      have hsz:(16:Int)≤(s.size:Int):=by omega
      have hx:(s.extract 8 16).size≤1000:=Nat.le_trans (Qkq s 8 16) (by decide)
      go_region_with (first |(go_at_call 107;refine(Qkn (s.extract 8 16) hx _).mono ?_;rintro e w7 ⟨rfl,hd⟩;obtain⟨q,rfl⟩:=hd.out;clear hd) |(go_at_call 106;refine(Qko _ _ _).mono ?_;rintro e w8 ⟨rfl,hd⟩;obtain⟨q2,rfl⟩:=hd.out;clear hd))
      all_goals
       go_wp2_with fail
       go_roundw
       case rel=>exact⟨2,2,by omega,by go_num,⟨rfl⟩,⟨Qdp (w:=wr.drewN _) HV.out 1 _⟩,⟨Qjm (Qcw HB.out _) (by rw[HG.out];exact Nat.le_refl _)⟩⟩
       case measure=>simp[intOf]
     ·obtain rfl:iv=2:=HI.out
      have cv:wr.cell? ⟨g,2,none⟩=some (.int .u64 V.2.2.1):=(Qds HV.out 2).trans rfl
      have fv:=Qdt HV.out 2
      go_wp2_with fail
      have hw0:IntKind.i64.wrap 16=16:=IntWalk.i64_in 16 (by decide)
      have hw1:IntKind.i64.wrap 24=24:=IntWalk.i64_in 24 (by decide)
      have hsz:(24:Int)≤(s.size:Int):=by omega
      have hx:(s.extract 16 24).size≤1000:=Nat.le_trans (Qkq s 16 24) (by decide)
      go_region_with (first |(go_at_call 107;refine(Qkn (s.extract 16 24) hx _).mono ?_;rintro e w7 ⟨rfl,hd⟩;obtain⟨q,rfl⟩:=hd.out;clear hd) |(go_at_call 106;refine(Qko _ _ _).mono ?_;rintro e w8 ⟨rfl,hd⟩;obtain⟨q2,rfl⟩:=hd.out;clear hd))
      all_goals
       go_wp2_with fail
       go_roundw
       case rel=>exact⟨3,3,by omega,by go_num,⟨rfl⟩,⟨Qdp (w:=wr.drewN _) HV.out 2 _⟩,⟨Qjm (Qcw HB.out _) (by rw[HG.out];exact Nat.le_refl _)⟩⟩
       case measure=>simp[intOf]
     ·obtain rfl:iv=3:=HI.out
      have cv:wr.cell? ⟨g,3,none⟩=some (.int .u64 V.2.2.2):=(Qds HV.out 3).trans rfl
      have fv:=Qdt HV.out 3
      go_wp2_with fail
      have hw0:IntKind.i64.wrap 24=24:=IntWalk.i64_in 24 (by decide)
      have hw1:IntKind.i64.wrap 32=32:=IntWalk.i64_in 32 (by decide)
      have hsz:(32:Int)≤(s.size:Int):=by omega
      have hx:(s.extract 24 32).size≤1000:=Nat.le_trans (Qkq s 24 32) (by decide)
      go_region_with (first |(go_at_call 107;refine(Qkn (s.extract 24 32) hx _).mono ?_;rintro e w7 ⟨rfl,hd⟩;obtain⟨q,rfl⟩:=hd.out;clear hd) |(go_at_call 106;refine(Qko _ _ _).mono ?_;rintro e w8 ⟨rfl,hd⟩;obtain⟨q2,rfl⟩:=hd.out;clear hd))
      all_goals
       go_wp2_with fail
       go_roundw
       case rel=>exact⟨4,4,by omega,by go_num,⟨rfl⟩,⟨Qdp (w:=wr.drewN _) HV.out 3 _⟩,⟨Qjm (Qcw HB.out _) (by rw[HG.out];exact Nat.le_refl _)⟩⟩
       case measure=>simp[intOf]
    ·obtain rfl:i=4:=by omega
     obtain rfl:iv=4:=HI.out
     go_wp2_with fail
     go_roundw
     case rel =>
      have e4:Qkm 4 V s=Qki V s:=rfl
      have hm:=HM.out
      have hd:(s.extract 32 s.size).size=s.size-32:=by rw[ByteArray.size_extract];omega
      refine⟨m-1,s.extract 32 s.size,Qki V s,rfl,by rw[hd];omega,⟨by rw[hd];omega,?_⟩,⟨?_⟩,HB⟩
      ·rw[hm.2,show m=(m-1)+1 by omega]
       rfl
      ·exact HV.out
     case measure=>simp[Qkl];omega
  ·have h32i:(s.size:Int)<32:=by omega
   go_wp2_with fail
   have c0:wr.cell? ⟨g,0,none⟩=some (.int .u64 V.1):=(Qds HV.out 0).trans rfl
   have c1:wr.cell? ⟨g,1,none⟩=some (.int .u64 V.2.1):=(Qds HV.out 1).trans rfl
   have c2:wr.cell? ⟨g,2,none⟩=some (.int .u64 V.2.2.1):=(Qds HV.out 2).trans rfl
   have c3:wr.cell? ⟨g,3,none⟩=some (.int .u64 V.2.2.2):=(Qds HV.out 3).trans rfl
   go_region_held3 (fun w'=>w'.cell? ⟨g,0,none⟩=some (.int .u64 V.1)∧w'.cell? ⟨g,1,none⟩=some (.int .u64 V.2.1)∧w'.cell? ⟨g,2,none⟩=some (.int .u64 V.2.2.1)∧w'.cell? ⟨g,3,none⟩=some (.int .u64 V.2.2.2)) (go_keep) (first
    |(go_at_call_of 108 (Value.int .i64 1);refine(Qkp V.1 1 1 rfl (by decide) _).mono ?_;rintro e w7 ⟨rfl,hd⟩;obtain⟨q1,rfl⟩:=hd.out;clear hd)
    |(go_at_call_of 108 (Value.int .i64 7);refine(Qkp V.2.1 7 7 rfl (by decide) _).mono ?_;rintro e w7 ⟨rfl,hd⟩;obtain⟨q2,rfl⟩:=hd.out;clear hd)
    |(go_at_call_of 108 (Value.int .i64 12);refine(Qkp V.2.2.1 12 12 rfl (by decide) _).mono ?_;rintro e w7 ⟨rfl,hd⟩;obtain⟨q3,rfl⟩:=hd.out;clear hd)
    |(go_at_call_of 108 (Value.int .i64 18);refine(Qkp V.2.2.2 18 18 rfl (by decide) _).mono ?_;rintro e w7 ⟨rfl,hd⟩;obtain⟨q4,rfl⟩:=hd.out;clear hd))
   obtain⟨W2,hW2⟩:∃W2,W2=wr.drewN (1+q1+q2+q3+q4):=⟨_,rfl⟩
   have HV2:=QA (show VAt W2 g V by rw[hW2];exact HV.out)
   have HB2:=QA (show Below w.heap.size w W2 by rw[hW2];exact Qcw HB.out _)
   rw[← hW2]
   clear hW2 c0 c1 c2 c3 HV HB
   have hm0:m=0:=by have:=HM.out.1;omega
   go_wp2_with fail
   go_loopw [10,11,64] (fun v10 v11 v64 wi=>∃(i:Nat) (iv h:Int),i≤4∧v64=.int .i64 iv∧v10=.int .u64 h∧Aside0 (iv=(i:Int))∧Aside0 (h=rmixTo i (rsum V) V)∧Aside0 (VAt wi g V)∧Aside0 (Below w.heap.size w wi))
    (fun _ _ v64 _=>4-(intOf v64).toNat)
   case atStart=>exact⟨0,0,_,by omega,rfl,rfl,⟨rfl⟩,⟨rfl⟩,HV2,HB2⟩
   case round =>
    clear HV2 HB2
    obtain⟨i,iv,h,hi,rfl,rfl,HI,HH,HV,HB⟩:=hrel
    by_cases h4:i<4
    ·have hk:i=0∨i=1∨i=2∨i=3:=by omega
     rcases hk with rfl|rfl|rfl|rfl
     ·obtain rfl:iv=0:=HI.out
      have cv:wr.cell? ⟨g,0,none⟩=some (.int .u64 V.1):=(Qds HV.out 0).trans rfl
      go_wp2_with (go_at_call 106;refine(Qko _ _ _).mono ?_;rintro e w8 ⟨rfl,hd⟩;obtain⟨q9,rfl⟩:=hd.out;clear hd)
      go_roundw
      case rel=>exact⟨1,1,Qkj h V.1,by omega,by go_num,rfl,⟨rfl⟩,⟨by rw[HH.out];rfl⟩,⟨HV.out⟩,⟨Qcw HB.out _⟩⟩
      case measure=>simp[intOf]
     ·obtain rfl:iv=1:=HI.out
      have cv:wr.cell? ⟨g,1,none⟩=some (.int .u64 V.2.1):=(Qds HV.out 1).trans rfl
      go_wp2_with (go_at_call 106;refine(Qko _ _ _).mono ?_;rintro e w8 ⟨rfl,hd⟩;obtain⟨q9,rfl⟩:=hd.out;clear hd)
      go_roundw
      case rel=>exact⟨2,2,Qkj h V.2.1,by omega,by go_num,rfl,⟨rfl⟩,⟨by rw[HH.out];rfl⟩,⟨HV.out⟩,⟨Qcw HB.out _⟩⟩
      case measure=>simp[intOf]
     ·obtain rfl:iv=2:=HI.out
      have cv:wr.cell? ⟨g,2,none⟩=some (.int .u64 V.2.2.1):=(Qds HV.out 2).trans rfl
      go_wp2_with (go_at_call 106;refine(Qko _ _ _).mono ?_;rintro e w8 ⟨rfl,hd⟩;obtain⟨q9,rfl⟩:=hd.out;clear hd)
      go_roundw
      case rel=>exact⟨3,3,Qkj h V.2.2.1,by omega,by go_num,rfl,⟨rfl⟩,⟨by rw[HH.out];rfl⟩,⟨HV.out⟩,⟨Qcw HB.out _⟩⟩
      case measure=>simp[intOf]
     ·obtain rfl:iv=3:=HI.out
      have cv:wr.cell? ⟨g,3,none⟩=some (.int .u64 V.2.2.2):=(Qds HV.out 3).trans rfl
      go_wp2_with (go_at_call 106;refine(Qko _ _ _).mono ?_;rintro e w8 ⟨rfl,hd⟩;obtain⟨q9,rfl⟩:=hd.out;clear hd)
      go_roundw
      case rel=>exact⟨4,4,Qkj h V.2.2.2,by omega,by go_num,rfl,⟨rfl⟩,⟨by rw[HH.out];rfl⟩,⟨HV.out⟩,⟨Qcw HB.out _⟩⟩
      case measure=>simp[intOf]
    ·obtain rfl:i=4:=by omega
     obtain rfl:iv=4:=HI.out
     go_wp2_with fail
     refine bodyPost_ret (results_tmp2 rfl _ _ _) rfl ?_
     refine⟨?_,HB.out⟩
     have e5:=HM.out.2
     rw[hm0]at e5
     have e6:rrun (s0.size/32) (Qkk sd) s0=(V,s):=by rw[← HVV.out];exact e5
     rw[e6,HH.out]
     rfl
theorem Qbe.calls(a0:Int)(a1:ByteArray)(r1:Int)(r2:ByteArray)(w:World)(h:Qbe.f a0 a1=some (r1,r2)) :
  Calls Tryz.prog 105 #[.int .u64 a0,.string a1] w fun e w'=>e=.returned (.tuple #[.int .u64 r1,.string r2])∧Below w.heap.size w w':=by
 unfold Qbe.f at h
 split at h
 ·rename_i hs
  simp only[Option.some.injEq,Prod.mk.injEq]at h
  obtain⟨rfl,rfl⟩:=h
  exact Qkr a0 a1 w hs
 ·cases h
def Qas.f(a0:Int):Option (Int × Int):=if 0≤a0 then if a0<256 then some (12+a0%2,1+a0/2%8)else none else none
theorem Qas.calls(a0:Int)(r1:Int)(r2:Int)(w:World)(h:Qas.f a0=some (r1,r2)) :
  Calls Tryz.prog 17 #[.int .u8 a0] w fun e w'=>e=.returned (.agg #[.int .u8 r1,.int .u32 r2])∧Below w.heap.size w w':=by
 unfold Qas.f at h
 by_cases h0:0≤a0
 ·by_cases h1:a0<256
  ·rw[if_pos h0,if_pos h1]at h
   simp only[Option.some.injEq,Prod.mk.injEq]at h
   have hr1:=QA h.1
   have hr2:=QA h.2
   clear h
   have hu:=Tryz.underlying27
   have e1:Int.tmod a0 2=a0%2:=Int.tmod_eq_emod_of_nonneg h0
   have e2:Int.tdiv a0 2=a0/2:=Int.tdiv_eq_ediv_of_nonneg h0
   have e3:(12+a0%2)%256=12+a0%2:=by omega
   have e4:a0/2%256=a0/2:=by omega
   go_enter Tryz.func17,Tryz.ntmps17
   go_wp2_with fail
   refine bodyPost_ret (results_cell_row rfl _ _ w.heap.size 27 #[.int .u8 (12+a0%2),.int .u32 (1+a0/2%8)] (0,0) _ rfl (Qei w _) Tryz.underlying27 rfl qq_6) rfl ?_
   exact⟨by rw[hr1.out,hr2.out],Qcu (Below.refl _ _) _⟩
  ·rw[if_pos h0,if_neg h1]at h;cases h
 ·rw[if_neg h0]at h;cases h
def Qbc.f(k:Nat)(a0:ByteArray):Option ByteArray:=if a0.size≤70368744177664 then(Qbb.f k (a0.size:Int)).bind fun t=>if t.size≤1000 then some (t++a0)else none else none
theorem Qbc.calls(k:Nat)(a0:ByteArray)(r:ByteArray)(w:World)(h:Qbc.f k a0=some r) :
  Calls Tryz.prog 104 #[.string a0] w fun e w'=>e=.returned (.string r)∧Below w.heap.size w w':=by
 unfold Qbc.f at h
 by_cases hs:a0.size≤70368744177664
 ·rw[if_pos hs]at h
  obtain⟨t,ht,h⟩:=Option.bind_eq_some_iff.mp h
  by_cases h1:t.size≤1000
  ·rw[if_pos h1]at h
   obtain rfl:=Option.some.inj h
   have HT:=QA ht
   clear ht h
   have hc:t.size+a0.size≤9223372036854775807:=by omega
   go_enter Tryz.func104,Tryz.ntmps104
   go_wp2_with (go_at_call 98;refine(Qbb.calls k _ _ _ HT.out).mono ?_;rintro e w1 ⟨rfl,hb1⟩)
   go_ret
   exact⟨rfl,hb1⟩
  ·rw[if_neg h1]at h;cases h
 ·rw[if_neg hs]at h;cases h
def ixOf(l:List Int)(c:Int):Int:=Lib.indexByte (Lib.bytesOf l) c.toNat.toUInt8
def Qae.f(l0:List Int)(a1:Int):Option Int:=some (ixOf l0 a1)
theorem Qae.calls(A0:Option Addr)(c0:Nat)(l0:List Int)(a1:Int)(r:Int)(w:World)(hr0:Kd.C (Kd.int .u8) w A0 l0.length l0)(hc0:l0.length≤c0)(h:Qae.f l0 a1=some r) :
  Calls Tryz.prog 80 #[.slice A0 l0.length c0,.int .u8 a1] w fun e w'=>e=.returned (.int .i64 r)∧Drawn0 w w':=by
 unfold Qae.f at h
 cases h
 have hcall:(callFunc 127 #[.slice A0 l0.length c0,.int .u8 a1]).run Tryz.prog w=.ok (.value (.int .i64 (ixOf l0 a1))) w:=by
  rw[run_callFunc_extern Tryz.func127 qq_6 qq_6 qq_6 (e:=Extern.BytealgIndexByte.indexByte) qq_6]
  cases A0 with
  | none =>
   obtain rfl:l0=[]:=by
    cases l0 with
    | nil=>rfl
    | cons a t=>obtain⟨ad,c,h1,_⟩:=Kd.C_get hr0 0 0 (by omega) (by simp);cases h1
   rw[Lib.run_indexByteNil]
   rfl
  | some ad =>
   rw[Lib.run_indexByteAt w ad l0.length c0 l0 rfl (fun i hi=>?_)]
   ·rfl
   ·obtain⟨a,ha,hx⟩:=Kd.at_int hr0 (i:Int) (by omega) (by omega)
    cases ha
    simpa [rd]using hx
 go_enter Tryz.func80,Tryz.ntmps80
 go_wp2
 go_ret
 exact⟨rfl,Drawn0.refl _⟩
def mixP(h x:Int):Int:=IntKind.u64.wrap (IntKind.u64.wrap (Go.bits .xor .u64 h (Qju 0 x)*Q1)+Q4)
def Qlj(i:Nat)(V:V4):Int :=
 let h1:=IntKind.u64.wrap (0+rotP V.1 1)
 let h2:=IntKind.u64.wrap (h1+rotP V.2.1 7)
 let h3:=IntKind.u64.wrap (h2+rotP V.2.2.1 12)
 let h4:=IntKind.u64.wrap (h3+rotP V.2.2.2 18)
 if i=0 then 0 else if i=1 then h1 else if i=2 then h2 else if i=3 then h3 else h4
def Qlk(i:Nat)(h:Int)(V:V4):Int :=
 let h1:=mixP h V.1
 let h2:=mixP h1 V.2.1
 let h3:=mixP h2 V.2.2.1
 let h4:=mixP h3 V.2.2.2
 if i=0 then h else if i=1 then h1 else if i=2 then h2 else if i=3 then h3 else h4
theorem Qll(V:V4):Qlj 0 V=0:=by simp[Qlj]
theorem Qlm(V:V4):Qlj 1 V=IntKind.u64.wrap (Qlj 0 V+rotP V.1 1):=by simp[Qlj]
theorem Qln(V:V4):Qlj 2 V=IntKind.u64.wrap (Qlj 1 V+rotP V.2.1 7):=by simp[Qlj]
theorem Qlo(V:V4):Qlj 3 V=IntKind.u64.wrap (Qlj 2 V+rotP V.2.2.1 12):=by simp[Qlj]
theorem Qlp(V:V4):Qlj 4 V=IntKind.u64.wrap (Qlj 3 V+rotP V.2.2.2 18):=by simp[Qlj]
theorem Qlq(h:Int)(V:V4):Qlk 0 h V=h:=by simp[Qlk]
theorem Qlr(h:Int)(V:V4):Qlk 1 h V=mixP (Qlk 0 h V) V.1:=by simp[Qlk]
theorem Qls(h:Int)(V:V4):Qlk 2 h V=mixP (Qlk 1 h V) V.2.1:=by simp[Qlk]
theorem Qlt(h:Int)(V:V4):Qlk 3 h V=mixP (Qlk 2 h V) V.2.2.1:=by simp[Qlk]
theorem Qlu(h:Int)(V:V4):Qlk 4 h V=mixP (Qlk 3 h V) V.2.2.2:=by simp[Qlk]
def Qlv(sd:Int)(V:V4)(n:Int):Int:=if n<32 then IntKind.u64.wrap (sd+Q5)else Qlk 4 (Qlj 4 V) V
theorem Qlw(x n:Int)(h:0≤n∧n<64∧Go.bits .and .u64 (IntKind.u64.wrap n) 63=n)(W:World):Calls Tryz.prog 202 #[.int .u64 x,.int .i64 n] W fun e w'=>e=.returned (.int .u64 (rotP x n))∧Drawn0 W w':=Qac.calls x n _ W (Qjt x n h)
theorem StAt.kept{W W':World}{g:Nat}{sd:Int}{V:V4}{rv:Value}{n:Int}(h:StAt W g sd V rv n)(hb:Below W.heap.size W W'):StAt W' g sd V rv n:=Qeh h hb
theorem StAt.cells{W:World}{g:Nat}{sd:Int}{V:V4}{rv:Value}{n:Int}(h:StAt W g sd V rv n) :
  W.cell? ⟨g,0,none⟩=some (.int .u64 sd)∧W.cell? ⟨g,1,none⟩=some (.int .u64 V.1)∧W.cell? ⟨g,2,none⟩=some (.int .u64 V.2.1)∧W.cell? ⟨g,3,none⟩=some (.int .u64 V.2.2.1)∧W.cell? ⟨g,4,none⟩=some (.int .u64 V.2.2.2)∧W.cell? ⟨g,5,none⟩=some rv∧W.cell? ⟨g,6,none⟩=some (.int .u64 n) :=
 ⟨(Qds h 0).trans rfl,(Qds h 1).trans rfl,(Qds h 2).trans rfl,(Qds h 3).trans rfl,(Qds h 4).trans rfl,(Qds h 5).trans rfl,(Qds h 6).trans rfl⟩
theorem Qlx(x0 x1 x2 x3:Int)(W:World):(∀k,k=0→(Instr.index 231 (.agg #[.int .u64 x0,.int .u64 x1,.int .u64 x2,.int .u64 x3]) (.int .i64 k)).run Tryz.prog W=.ok (.int .u64 x0) W) ∧
  (∀k,k=1→(Instr.index 231 (.agg #[.int .u64 x0,.int .u64 x1,.int .u64 x2,.int .u64 x3]) (.int .i64 k)).run Tryz.prog W=.ok (.int .u64 x1) W) ∧
  (∀k,k=2→(Instr.index 231 (.agg #[.int .u64 x0,.int .u64 x1,.int .u64 x2,.int .u64 x3]) (.int .i64 k)).run Tryz.prog W=.ok (.int .u64 x2) W) ∧
  (∀k,k=3→(Instr.index 231 (.agg #[.int .u64 x0,.int .u64 x1,.int .u64 x2,.int .u64 x3]) (.int .i64 k)).run Tryz.prog W=.ok (.int .u64 x3) W):=by
 refine⟨?_,?_,?_,?_⟩<;>rintro k rfl<;>simp[Instr.index,run_underlying Tryz.underlying231,asIntOf,go_sem]
theorem Qly(g:Nat)(sd:Int)(V:V4)(rv:Value)(n:Int)(w:World)(hv:StAt w g sd V rv n) :
  Calls Tryz.prog 201 #[.pointer (some ⟨g,0,none⟩)] w fun e w'=>e=.returned (.int .u64 (Qlv sd V n))∧Below w.heap.size w w':=by
 have hu:=Tryz.underlying274
 have hu2:=Tryz.underlying231
 have HV:=QA hv
 obtain⟨c0,c1,c2,c3,c4,c5,c6⟩:=StAt.cells hv
 clear hv
 by_cases h32:n<32
 ·go_enter Tryz.func201,Tryz.ntmps201
  go_wp2_with fail
  go_ret
  exact⟨by simp[Qlv,h32],Below.refl _ _⟩
 ·have h32i:32≤n:=by omega
  go_enter Tryz.func201,Tryz.ntmps201
  go_wp2_with fail
  obtain⟨B,hB⟩:∃B,B=w.heap.size:=⟨_,rfl⟩
  obtain⟨W,hW⟩:∃W,W=w.alloc (.cells #[.int .i64 1,.int .i64 7,.int .i64 12,.int .i64 18] 3):=⟨_,rfl⟩
  have hBlk:W.heap[B]? = some (.cells #[.int .i64 1,.int .i64 7,.int .i64 12,.int .i64 18] 3 (0,0)):=by rw[hW,hB];exact Qei w _
  have HBK:=QA hBlk
  have HVW:=QA (show StAt W g sd V rv n by rw[hW];exact HV.out.kept (Qcu (Below.refl _ _) _))
  have HBW:=QA (show Below w.heap.size w W by rw[hW];exact Qcu (Below.refl _ _) _)
  rw[← hW,← hB]
  clear hW hB hBlk c0 c1 c2 c3 c4 c5 c6 HV
  go_loopw [3,4,5,20] (fun v3 v4 v5 v20 wr=>∃(i:Nat) (iv:Int),i≤4∧v20=.int .i64 iv∧v3=.int .u64 (Qlj i V)∧Aside0 (iv=(i:Int))∧Aside0 (Below W.heap.size W wr))
   (fun _ _ _ v20 _=>4-(intOf v20).toNat)
  case atStart=>exact⟨0,0,by omega,rfl,congrArg (Value.int .u64) (Qll V).symm,⟨rfl⟩,⟨Below.refl _ _⟩⟩
  case round =>
   obtain⟨i,iv,hi,rfl,rfl,HI,HB⟩:=hrel
   obtain⟨d0,d1,d2,d3,d4,d5,d6⟩:=StAt.cells (HVW.out.kept HB.out)
   have hk:=Qeh HBK.out HB.out
   have b0:wr.cell? ⟨B,0,none⟩=some (.int .i64 1):=(Qds hk 0).trans rfl
   have b1:wr.cell? ⟨B,1,none⟩=some (.int .i64 7):=(Qds hk 1).trans rfl
   have b2:wr.cell? ⟨B,2,none⟩=some (.int .i64 12):=(Qds hk 2).trans rfl
   have b3:wr.cell? ⟨B,3,none⟩=some (.int .i64 18):=(Qds hk 3).trans rfl
   clear hk
   by_cases h4:i<4
   ·have hk:i=0∨i=1∨i=2∨i=3:=by omega
    rcases hk with rfl|rfl|rfl|rfl
    ·obtain rfl:iv=0:=HI.out
     go_wp2_with (go_at_call 202;refine(Qlw V.1 1 ⟨by decide,by decide,by kernel_rfl⟩ _).mono ?_;rintro e w7 ⟨rfl,hd⟩;have hd1:=hd.below;clear hd)
     go_roundw
     case rel=>exact⟨1,1,by omega,by go_num,congrArg (Value.int .u64) (Qlm V).symm,⟨rfl⟩,⟨Qcx HB.out HB.out.size hd1⟩⟩
     case measure=>simp[intOf]
    ·obtain rfl:iv=1:=HI.out
     go_wp2_with (go_at_call 202;refine(Qlw V.2.1 7 ⟨by decide,by decide,by kernel_rfl⟩ _).mono ?_;rintro e w7 ⟨rfl,hd⟩;have hd1:=hd.below;clear hd)
     go_roundw
     case rel=>exact⟨2,2,by omega,by go_num,congrArg (Value.int .u64) (Qln V).symm,⟨rfl⟩,⟨Qcx HB.out HB.out.size hd1⟩⟩
     case measure=>simp[intOf]
    ·obtain rfl:iv=2:=HI.out
     go_wp2_with (go_at_call 202;refine(Qlw V.2.2.1 12 ⟨by decide,by decide,by kernel_rfl⟩ _).mono ?_;rintro e w7 ⟨rfl,hd⟩;have hd1:=hd.below;clear hd)
     go_roundw
     case rel=>exact⟨3,3,by omega,by go_num,congrArg (Value.int .u64) (Qlo V).symm,⟨rfl⟩,⟨Qcx HB.out HB.out.size hd1⟩⟩
     case measure=>simp[intOf]
    ·obtain rfl:iv=3:=HI.out
     go_wp2_with (go_at_call 202;refine(Qlw V.2.2.2 18 ⟨by decide,by decide,by kernel_rfl⟩ _).mono ?_;rintro e w7 ⟨rfl,hd⟩;have hd1:=hd.below;clear hd)
     go_roundw
     case rel=>exact⟨4,4,by omega,by go_num,congrArg (Value.int .u64) (Qlp V).symm,⟨rfl⟩,⟨Qcx HB.out HB.out.size hd1⟩⟩
     case measure=>simp[intOf]
   ·obtain rfl:i=4:=by omega
    obtain rfl:iv=4:=HI.out
    go_wp2_with fail
    clear d0 d1 d2 d3 d4 d5 d6 b0 b1 b2 b3
    go_loopw [3,7,40] (fun v3 v7 v40 wi=>∃(i:Nat) (iv:Int),i≤4∧v40=.int .i64 iv∧v3=.int .u64 (Qlk i (Qlj 4 V) V)∧Aside0 (iv=(i:Int))∧Aside0 (Below W.heap.size W wi))
     (fun _ _ v40 _=>4-(intOf v40).toNat)
    case atStart=>exact⟨0,0,by omega,rfl,congrArg (Value.int .u64) (Qlq _ V).symm,⟨rfl⟩,HB⟩
    case round =>
     clear HB HI
     obtain⟨i,iv,hi,rfl,rfl,HI,HB⟩:=hrel
     by_cases h4:i<4
     ·have hk:i=0∨i=1∨i=2∨i=3:=by omega
      rcases hk with rfl|rfl|rfl|rfl
      ·obtain rfl:iv=0:=HI.out
       have hix:=(Qlx V.1 V.2.1 V.2.2.1 V.2.2.2 wr).1 0 rfl
       go_wp2_with (go_at_call 199;refine(Qka _ _ _).mono ?_;rintro e w7 ⟨rfl,hd⟩;have hd1:=hd.below;clear hd)
       go_roundw
       case rel=>exact⟨1,1,by omega,by go_num,congrArg (Value.int .u64) (Qlr _ V).symm,⟨rfl⟩,⟨Qcx HB.out HB.out.size hd1⟩⟩
       case measure=>simp[intOf]
      ·obtain rfl:iv=1:=HI.out
       have hix:=(Qlx V.1 V.2.1 V.2.2.1 V.2.2.2 wr).2.1 1 rfl
       go_wp2_with (go_at_call 199;refine(Qka _ _ _).mono ?_;rintro e w7 ⟨rfl,hd⟩;have hd1:=hd.below;clear hd)
       go_roundw
       case rel=>exact⟨2,2,by omega,by go_num,congrArg (Value.int .u64) (Qls _ V).symm,⟨rfl⟩,⟨Qcx HB.out HB.out.size hd1⟩⟩
       case measure=>simp[intOf]
      ·obtain rfl:iv=2:=HI.out
       have hix:=(Qlx V.1 V.2.1 V.2.2.1 V.2.2.2 wr).2.2.1 2 rfl
       go_wp2_with (go_at_call 199;refine(Qka _ _ _).mono ?_;rintro e w7 ⟨rfl,hd⟩;have hd1:=hd.below;clear hd)
       go_roundw
       case rel=>exact⟨3,3,by omega,by go_num,congrArg (Value.int .u64) (Qlt _ V).symm,⟨rfl⟩,⟨Qcx HB.out HB.out.size hd1⟩⟩
       case measure=>simp[intOf]
      ·obtain rfl:iv=3:=HI.out
       have hix:=(Qlx V.1 V.2.1 V.2.2.1 V.2.2.2 wr).2.2.2 3 rfl
       go_wp2_with (go_at_call 199;refine(Qka _ _ _).mono ?_;rintro e w7 ⟨rfl,hd⟩;have hd1:=hd.below;clear hd)
       go_roundw
       case rel=>exact⟨4,4,by omega,by go_num,congrArg (Value.int .u64) (Qlu _ V).symm,⟨rfl⟩,⟨Qcx HB.out HB.out.size hd1⟩⟩
       case measure=>simp[intOf]
     ·obtain rfl:i=4:=by omega
      obtain rfl:iv=4:=HI.out
      go_wp2_with fail
      go_ret
      refine⟨by simp only[Qlv,if_neg (show ¬n<32 by omega)];rfl,HBW.out.trans (Qjn HB.out HBW.out.size)⟩
end Go.Proofs.YtnnofopfbeklbaaGreat.C
end
