/- Merged texts. -/
import Derived.Test.YtepkfjmjidjedaaGreatMB02
import Derived.Test.YtepkfjmjidjedaaGreatMB05
import Derived.Lib.SliceRun
import Derived.Shelf.Bytes.SlIndexAt
import Derived.StillTailTactics
set_option linter.unusedVariables false
set_option linter.unusedSimpArgs false
set_option maxHeartbeats 8000000
set_option maxRecDepth 100000
section
namespace Go.Proofs.YtepkfjmjidjedaaGreat.C
open Go.RowKit Go.Proofs.YtepkfjmjidjedaaGreatW.PrintWords Go.Proofs.YtepkfjmjidjedaaGreatW.PrintLast Go.Proofs.YtepkfjmjidjedaaGreatW.PrintMore
abbrev R8(W:World)(b:Nat)(v:Value)(xs:List Int):Prop:=Kd.R (Kd.int .u8) 5 W b (fun _=>True) v xs
def IsBuf(W:World)(b g:Nat)(xs:List Int):Prop:=∃v,W.heap[g]? = some (.cells #[v] 207 (0,0))∧R8 W b v xs
def leb:Int→Nat→List Int
 | _,0=>[]
 | x,n+1=>x%256 :: leb (x/256) n
theorem Qin:∀(n:Nat) (x:Int),(leb x n).length=n
 | 0,_=>rfl
 | n+1,x=>by simp[leb,Qin n]
theorem R8.lit(W:World)(b:Nat)(hb:b≤W.heap.size)(xs:List Int)(hm:xs.length≤9223372036854775807):R8 (W.alloc (.cells (nums .u8 xs).toArray 5)) b (.slice (some ⟨W.heap.size,0,none⟩) xs.length xs.length) xs :=
 Kd.R_of_own (own_lit W b 5 .u8 xs hb hm) (fun _ _=>trivial)
theorem R8.clean{W:World}{b g t:Nat}{v:Value}{xs:List Int}{cs:Array Value}(h:R8 W b v xs)(hg:W.heap[g]? = some (.cells cs t (0,0)))(ht:5≠t):some g≠v.ownBlock:=Kd.R_ne h hg ht
theorem R8.set{W:World}{b g t:Nat}{v:Value}{xs:List Int}{cs:Array Value}(h:R8 W b v xs)(hg:W.heap[g]? = some (.cells cs t (0,0)))(ht:5≠t)(j:Nat)(u:Value):R8 (W.setCell ⟨g,j,none⟩ u) b v xs :=
 Kd.R_set h hg (by intro q hq;rcases List.mem_cons.1 hq with rfl|hq;exact ht;cases hq) j u
theorem R8.kept{W W':World}{b:Nat}{v:Value}{xs:List Int}(h:R8 W b v xs)(hb:Below W.heap.size W W'):R8 W' b v xs:=Kd.R_below h hb
theorem R8.low{W:World}{b b':Nat}{v:Value}{xs:List Int}(h:R8 W b v xs)(hb:b'≤b):R8 W b' v xs:=Kd.R_lower h hb
theorem R8.shape{W:World}{b:Nat}{v:Value}{xs:List Int}(h:R8 W b v xs):∃A n c,v=.slice A n c:=by
 obtain⟨A,c,e⟩:=Kd.R_slice h;exact⟨A,_,c,e⟩
theorem IsBuf.kept{W W':World}{b g:Nat}{xs:List Int}(h:IsBuf W b g xs)(hb:Below W.heap.size W W'):IsBuf W' b g xs:=by
 obtain⟨v,h1,h2⟩:=h;exact⟨v,Qdy h1 hb,h2.kept hb⟩
theorem IsBuf.lt{W:World}{b g:Nat}{xs:List Int}(h:IsBuf W b g xs):g<W.heap.size:=by
 obtain⟨v,h1,h2⟩:=h;exact Qdk h1
theorem IsBuf.put{W w1:World}{b g:Nat}{v v1:Value}{xs ys:List Int}(hv:W.heap[g]? = some (.cells #[v] 207 (0,0)))(hR:R8 W b v xs)(hg:W.grownBy w1 v.ownBlock)(h1:R8 w1 b v1 ys) :
  w1.heap[g]? = some (.cells #[v] 207 (0,0))∧IsBuf (w1.setCell ⟨g,0,none⟩ v1) b g ys:=by
 have hv1:=Qdn hv hg (hR.clean hv (by decide));exact⟨hv1,v1,Qdi hv1 0 v1,h1.set hv1 (by decide) 0 v1⟩
theorem Qio{b:Nat}{w W:World}{g j:Nat}{v:Value}(h:Below b w W)(hg:b≤g):Below b w (W.setCell ⟨g,j,none⟩ v):=h.setCell hg _
theorem Qip{b b':Nat}{w W:World}(h:Below b w W)(hb:b'≤b):Below b' w W:=⟨h.os,h.tape,h.output,h.size,fun i hi=>h.block i (by omega)⟩
def Tk(g:Nat)(w w':World):Prop:=∀k cs t,w.heap[k]? = some (.cells cs t (0,0))→t≠5→k≠g→w'.heap[k]? = some (.cells cs t (0,0))
def Bw(b g:Nat)(w w':World):Prop:=Below b w w'∧Tk g w w'
theorem Tk.refl(g:Nat)(w:World):Tk g w w:=fun _ _ _ h _ _=>h
theorem Tk.trans{g:Nat}{a b c:World}(h:Tk g a b)(k:Tk g b c):Tk g a c:=fun _ _ _ h1 h2 h3=>k _ _ _ (h _ _ _ h1 h2 h3) h2 h3
theorem Tk.below{g:Nat}{w w':World}(h:Below w.heap.size w w'):Tk g w w':=fun _ _ _ h1 _ _=>Qdy h1 h
theorem Bw.refl(b g:Nat)(w:World):Bw b g w w:=⟨Below.refl _ _,Tk.refl _ _⟩
theorem Bw.trans{b g:Nat}{x y z:World}(h:Bw b g x y)(k:Bw b g y z):Bw b g x z:=⟨h.1.trans k.1,h.2.trans k.2⟩
theorem Bw.below{b g:Nat}{w w':World}(h:Below w.heap.size w w')(hb:b≤w.heap.size):Bw b g w w':=⟨Qip h hb,Tk.below h⟩
theorem Bw.size{b g:Nat}{w w':World}(h:Bw b g w w'):w.heap.size≤w'.heap.size:=h.1.size
theorem Bw.put{W w1:World}{b g:Nat}{v v1:Value}{xs:List Int}(hbg:b≤g)(hv:W.heap[g]? = some (.cells #[v] 207 (0,0)))(hR:R8 W b v xs)(hb:Below b W w1)(hg:W.grownBy w1 v.ownBlock):Bw b g W (w1.setCell ⟨g,0,none⟩ v1):=by
 refine⟨Qio hb hbg,fun k cs t h1 h2 h3=>?_⟩;have hne:some k≠v.ownBlock:=Kd.R_ne hR h1 (fun e=>h2 e.symm);have h4:=Qdn h1 hg hne;exact Qdj h4 h3 v1
theorem Qiq(A0:Option Addr)(c0:Nat)(l0:List Int)(w:World)(hr0:Kd.C (Kd.int .u8) w A0 l0.length l0)(hl:l0.length≤140737488355328) :
  Calls Tryz.prog 151 #[.slice A0 l0.length c0] w fun e w'=>∃b:Value,e=.returned (b)∧R8 w' w.heap.size b l0∧Below w.heap.size w w':=by
 have hu:=Tryz.underlying47;have g:∀(w:World) (a:Option Addr) (n c n' c':Nat),(binOp .eql 47 (.slice a n c) (.slice none n' c')).run Tryz.prog w=.ok (.bool a.isNone) w:=fun w a n c n' c'=>Lib.run_eql_slice_nil w _ _ a n c n' c' hu
 cases A0 with
 | none =>
  obtain rfl:l0=[]:=by
   cases l0 with
   | nil=>rfl
   | cons a t=>obtain⟨ad,c,h1,_⟩:=Kd.C_get hr0 0 0 (by omega) (by simp);cases h1
  go_enter Tryz.func151,Tryz.ntmps151
  go_wp2;go_ret
  exact⟨_,rfl,Kd.R_nil _ _ _ _ _,Below.refl _ _⟩
 | some ad =>
  go_enter Tryz.func151,Tryz.ntmps151
  go_wp2_with (first |(at_builtin;refine Kd.R_append_row (Value.int .u8) (0:Int) (h1:=fun _=>rfl) (w0:=w) w.heap.size rfl (.tmp 5) (.tmp 6) 47 5 (.int .u8 0) 1 rfl Tryz.underlying47 Qhx rfl (by decide) _ [] l0 (some ad) l0.length c0 (fun _=>True) rfl rfl (fun _ _=>trivial) ?hO ?hR ?hB ?hS ?hL ?_;(case hO=>exact R8.lit w w.heap.size (Nat.le_refl _) [] (by simp));(case hR=>exact Kd.C_below hr0 (Qcn (Below.refl _ _) _));(case hB=>exact Qcn (Below.refl _ _) _);(case hS=>simp);(case hL=>simp;omega);intro v1 w1 d hb1 h hat1;simp only[List.nil_append]at d))
  go_ret
  exact⟨_,rfl,d,hb1⟩
def Ow(g:Nat)(w w':World):Prop:=∀(k:Nat) (o:Obj) (v:Value),w.heap[g]? = some (.cells #[v] 207 (0,0))→w.heap[k]? = some o→k≠g→some k≠v.ownBlock →
 w'.heap[k]? = some o∧∃v',w'.heap[g]? = some (.cells #[v'] 207 (0,0))∧some k≠v'.ownBlock
theorem Ow.refl(g:Nat)(w:World):Ow g w w:=fun k o v h1 h2 _ h4=>⟨h2,v,h1,h4⟩
theorem Ow.trans{g:Nat}{a b c:World}(h:Ow g a b)(h':Ow g b c):Ow g a c:=fun k o v h1 h2 h3 h4=>by
 obtain⟨h5,v',h6,h7⟩:=h k o v h1 h2 h3 h4;exact h' k o v' h6 h5 h3 h7
theorem Ow.put{W w1:World}{g:Nat}{v v1:Value}(hv:W.heap[g]? = some (.cells #[v] 207 (0,0)))(hg:W.grownBy w1 v.ownBlock)(hv1:w1.heap[g]? = some (.cells #[v] 207 (0,0)))(hat:v1.ownBlock=v.ownBlock∨∃b,v1.ownBlock=some b∧W.heap.size≤b):Ow g W (w1.setCell ⟨g,0,none⟩ v1):=by
 intro k o v0 h1 h2 h3 h4;rw[hv]at h1;obtain rfl:v=v0:=by
  have:=Option.some.inj h1
  injection this with h
  injection h with h
  injection h
 refine⟨(Below.heap_setCell w1 ⟨g,0,none⟩ v1 k h3).trans (Qdn h2 hg h4),v1,Qdi hv1 0 v1,?_⟩
 rcases hat with h |⟨b,h,hb⟩
 ·rw[h];exact h4
 ·rw[h];intro e;have:=Qdk h2;have e2:=Option.some.inj e;omega
theorem Qir(b g:Nat)(x:Int)(n:Nat)(xs:List Int)(w:World)(d:0≤x)(h:x<18446744073709551616)(hbg:b≤g)(hbw:b≤w.heap.size)(hI:IsBuf w b g xs)(hl:xs.length+n≤140737488355328) :
  Calls Tryz.prog 202 #[.pointer (some ⟨g,0,none⟩),.int .u64 x,.int .i64 n] w fun e w'=>e=.returned (.pointer (some ⟨g,0,none⟩))∧IsBuf w' b g (xs++leb x n)∧Bw b g w w'∧Ow g w w':=by
 have HI:=QA hI;clear hI
 go_enter Tryz.func202,Tryz.ntmps202
 go_wp2
 go_loopw [1,8] (fun v1 v8 wr=>∃(k:Nat) (ys:List Int) (iv xv:Int),k≤n∧ys.length=k∧v8=.int .i64 iv∧v1=.int .u64 xv∧0≤xv∧xv<18446744073709551616∧Aside0 (iv=(k:Int))∧Aside0 (leb x n=ys++leb xv (n-k))∧Aside0 (IsBuf wr b g (xs++ys))∧Aside0 (Bw b g w wr)∧Aside0 (Ow g w wr))
  (fun _ v8 _=>n-(intOf v8).toNat)
 case atStart=>exact⟨0,[],0,x,Nat.zero_le _,rfl,rfl,rfl,d,h,⟨rfl⟩,⟨rfl⟩,⟨by simpa using HI.out⟩,⟨Bw.refl _ _ _⟩,⟨Ow.refl _ _⟩⟩
 case round =>
  obtain⟨k,ys,iv,xv,hk,hys,rfl,rfl,m,o,HK,HL,HB,HW,HO⟩:=hrel
  by_cases hlt:k<n
  ·have hlt2:iv<(n:Int):=by have:=HK.out;omega
   have hge:0≤iv:=by have:=HK.out;omega
   obtain⟨v,hv,hR⟩:=HB.out;have hc:wr.cell? ⟨g,0,none⟩=some v:=(Qdl hv 0).trans rfl;have HV:=QA hv;have HR:=QA hR;clear hv hR
   go_wp2_with ((at_builtin;refine Kd.R_append (Kd.int .u8) (w0:=wr) b rfl (.tmp 14) (.tmp 17) 47 5 (.int .u8 0) 1 rfl Tryz.underlying47 Qhx rfl (by decide) (by omega) v (xs++ys) (xv%256) [.int .u8 (xv%256)] (fun _=>True) (fun _=>False) rfl ?ax ?aP (fun _ hk=>hk.elim) ?aF ?aO ?aB ?aS ?aL ?_;(case ax=>rfl);(case aP=>rfl);(case aF=>exact fun _ _=>trivial);(case aO=>exact HR.out);(case aB=>exact Below.refl _ _);(case aS=>exact Nat.le_trans hbw HW.out.size);(case aL=>simp;omega);intro v1 w1 c hb1 a hat1;obtain⟨A1,n1,c1,rfl⟩:=R8.shape c;obtain⟨hv1,hI1⟩:=IsBuf.put HV.out HR.out a c;have hfz:=Qdm hv1 0;have hc1:w1.cell? ⟨g,0,none⟩=some v:=(Qdl hv1 0).trans rfl;have HI1:=QA hI1;have j:=QA (HO.out.trans (Ow.put (v1:=.slice A1 n1 c1) HV.out a hv1 hat1));have l:=QA (HW.out.trans (Bw.put (v1:=.slice A1 n1 c1) hbg HV.out HR.out hb1 a));clear hI1 hb1 a hat1 c hv1))
   go_roundw
   case rel=>exact⟨k+1,ys++[xv%256],iv+1,xv/256,by omega,by simp[hys],by go_num,by go_num,by omega,by omega,⟨by have:=HK.out;omega⟩,⟨by
    rw[HL.out,show n-k=(n-(k+1))+1 by omega,leb];simp⟩,⟨by rw[← List.append_assoc];exact HI1.out⟩,⟨l.out⟩,⟨j.out⟩⟩
   case measure=>simp[intOf];omega
  ·obtain rfl:k=n:=by omega
   have e1:iv=(k:Int):=HK.out;subst e1;go_wp2;go_ret
   refine⟨rfl,?_,HW.out,HO.out⟩;have e:=HL.out;rw[Nat.sub_self]at e;rw[e]
   simpa [leb]using HB.out
theorem Qis(b g:Nat)(x:Int)(n:Nat)(xs:List Int)(w:World)(hx0:0≤x)(hx1:x<18446744073709551616)(hbg:b≤g)(hbw:b≤w.heap.size)(hI:IsBuf w b g xs)(hl:xs.length+n≤140737488355328) :
  Calls Tryz.prog 202 #[.pointer (some ⟨g,0,none⟩),.int .u64 x,.int .i64 n] w fun e w'=>e=.returned (.pointer (some ⟨g,0,none⟩))∧IsBuf w' b g (xs++leb x n)∧Bw b g w w':=(Qir b g x n xs w hx0 hx1 hbg hbw hI hl).mono (by rintro e w' ⟨h1,h2,h3,_⟩;exact⟨h1,h2,h3⟩)
theorem Qit(b g:Nat)(x:Int)(xs:List Int)(w:World)(hx0:0≤x)(hx1:x<256)(hbg:b≤g)(hbw:b≤w.heap.size)(hI:IsBuf w b g xs)(hl:xs.length+1≤140737488355328) :
  Calls Tryz.prog 141 #[.pointer (some ⟨g,0,none⟩),.int .u8 x] w fun e w'=>e=.returned (.pointer (some ⟨g,0,none⟩))∧IsBuf w' b g (xs++[x])∧Bw b g w w':=by
 go_enter Tryz.func141,Tryz.ntmps141
 go_wp2_with (go_at_call 202;refine(Qis b g x 1 xs w hx0 (by omega) hbg hbw hI hl).mono ?_;rintro e w' ⟨rfl,hd,hb⟩)
 go_ret
 refine⟨rfl,?_,hb⟩;have e:leb x 1=[x]:=by simp[leb];omega
 rw[e]at hd;exact hd
theorem Qiu(b g:Nat)(x:Int)(xs:List Int)(w:World)(hx0:0≤x)(hx1:x<4294967296)(hbg:b≤g)(hbw:b≤w.heap.size)(hI:IsBuf w b g xs)(hl:xs.length+4≤140737488355328) :
  Calls Tryz.prog 142 #[.pointer (some ⟨g,0,none⟩),.int .u32 x] w fun e w'=>e=.returned (.pointer (some ⟨g,0,none⟩))∧IsBuf w' b g (xs++leb x 4)∧Bw b g w w'∧Ow g w w':=by
 go_enter Tryz.func142,Tryz.ntmps142
 go_wp2_with (go_at_call 202;refine(Qir b g x 4 xs w hx0 (by omega) hbg hbw hI hl).mono ?_;rintro e w' ⟨rfl,hd,hb,ho⟩)
 go_ret
 exact⟨rfl,hd,hb,ho⟩
theorem Qiv(b g:Nat)(x:Int)(xs:List Int)(w:World)(hx0:0≤x)(hx1:x<4294967296)(hbg:b≤g)(hbw:b≤w.heap.size)(hI:IsBuf w b g xs)(hl:xs.length+4≤140737488355328) :
  Calls Tryz.prog 142 #[.pointer (some ⟨g,0,none⟩),.int .u32 x] w fun e w'=>e=.returned (.pointer (some ⟨g,0,none⟩))∧IsBuf w' b g (xs++leb x 4)∧Bw b g w w':=(Qiu b g x xs w hx0 hx1 hbg hbw hI hl).mono (by rintro e w' ⟨h1,h2,h3,_⟩;exact⟨h1,h2,h3⟩)
theorem Qiw(b g:Nat)(x:Int)(xs:List Int)(w:World)(hx0:0≤x)(hx1:x<18446744073709551616)(hbg:b≤g)(hbw:b≤w.heap.size)(hI:IsBuf w b g xs)(hl:xs.length+8≤140737488355328) :
  Calls Tryz.prog 196 #[.pointer (some ⟨g,0,none⟩),.int .u64 x] w fun e w'=>e=.returned (.pointer (some ⟨g,0,none⟩))∧IsBuf w' b g (xs++leb x 8)∧Bw b g w w':=by
 go_enter Tryz.func196,Tryz.ntmps196
 go_wp2_with (go_at_call 202;refine(Qis b g x 8 xs w hx0 hx1 hbg hbw hI hl).mono ?_;rintro e w' ⟨rfl,hd,hb⟩)
 go_ret
 exact⟨rfl,hd,hb⟩
theorem Qix(b g:Nat)(A0:Option Addr)(c0:Nat)(ys:List Int)(xs:List Int)(w:World)(hr0:Kd.C (Kd.int .u8) w A0 ys.length ys)(hbg:b≤g)(hbw:b≤w.heap.size)(hI:IsBuf w b g xs)(hl:xs.length+ys.length≤140737488355328) :
  Calls Tryz.prog 117 #[.pointer (some ⟨g,0,none⟩),.slice A0 ys.length c0] w fun e w'=>e=.returned (.pointer (some ⟨g,0,none⟩))∧IsBuf w' b g (xs++ys)∧Bw b g w w'∧Ow g w w':=by
 obtain⟨v,hv,hR⟩:=hI;have hc:w.cell? ⟨g,0,none⟩=some v:=(Qdl hv 0).trans rfl
 go_enter Tryz.func117,Tryz.ntmps117
 go_wp2_with (first |(at_builtin;refine Kd.R_append_row (Value.int .u8) (0:Int) (h1:=fun _=>rfl) (w0:=w) b rfl (.tmp 9) (.tmp 10) 47 5 (.int .u8 0) 1 rfl Tryz.underlying47 Qhx rfl (by decide) v xs ys A0 ys.length c0 (fun _=>True) rfl rfl (fun _ _=>trivial) ?hO ?hR ?hB ?hS ?hL ?_;(case hO=>exact hR);(case hR=>exact hr0);(case hB=>exact Below.refl _ _);(case hS=>exact hbw);(case hL=>omega);intro v1 w1 HR1 hb1 hg1 hat1;obtain⟨A1,n1,c1,rfl⟩:=R8.shape HR1;obtain⟨hv1,hI1⟩:=IsBuf.put hv hR hg1 HR1;have hfz:=Qdm hv1 0;have hc1:w1.cell? ⟨g,0,none⟩=some v:=(Qdl hv1 0).trans rfl;have HI1:=QA hI1;have HO1:=QA (Ow.put (v1:=.slice A1 n1 c1) hv hg1 hv1 hat1);have HB1:=QA (Bw.put (v1:=.slice A1 n1 c1) hbg hv hR hb1 hg1);clear hI1 hb1 hg1 hat1 HR1 hv1))
 go_ret
 exact⟨rfl,HI1.out,HB1.out,HO1.out⟩
theorem Qiy(b g:Nat)(A0:Option Addr)(c0:Nat)(ys:List Int)(xs:List Int)(w:World)(hr0:Kd.C (Kd.int .u8) w A0 ys.length ys)(hbg:b≤g)(hbw:b≤w.heap.size)(hI:IsBuf w b g xs)(hl:xs.length+ys.length≤140737488355328) :
  Calls Tryz.prog 117 #[.pointer (some ⟨g,0,none⟩),.slice A0 ys.length c0] w fun e w'=>e=.returned (.pointer (some ⟨g,0,none⟩))∧IsBuf w' b g (xs++ys)∧Bw b g w w':=(Qix b g A0 c0 ys xs w hr0 hbg hbw hI hl).mono (by rintro e w' ⟨h1,h2,h3,_⟩;exact⟨h1,h2,h3⟩)
theorem Qiz(b g:Nat)(A0:Option Addr)(c0 n:Nat)(ys:List Int)(xs:List Int)(w:World)(hn:n=ys.length)(hr0:Kd.C (Kd.int .u8) w A0 n ys)(hbg:b≤g)(hbw:b≤w.heap.size)(hI:IsBuf w b g xs)(hl:xs.length+n≤140737488355328) :
  Calls Tryz.prog 117 #[.pointer (some ⟨g,0,none⟩),.slice A0 n c0] w fun e w'=>e=.returned (.pointer (some ⟨g,0,none⟩))∧IsBuf w' b g (xs++ys)∧Bw b g w w':=by
 subst hn;exact Qiy b g A0 c0 ys xs w hr0 hbg hbw hI hl
theorem Qja(b g:Nat)(xs:List Int)(w:World)(hI:IsBuf w b g xs)(hl:xs.length≤140737488355328) :
  Calls Tryz.prog 118 #[.pointer (some ⟨g,0,none⟩)] w fun e w'=>∃v:Value,e=.returned v∧R8 w' w.heap.size v xs∧Below w.heap.size w w':=by
 obtain⟨v,hv,hR⟩:=hI;obtain⟨A,c,rfl,hlc,hC⟩:=Kd.R_reads hR;have hc:w.cell? ⟨g,0,none⟩=some (.slice A xs.length c):=(Qdl hv 0).trans rfl
 go_enter Tryz.func118,Tryz.ntmps118
 go_wp2_with (go_at_call 151;refine(Qiq A c xs w hC hl).mono ?_;rintro e w' ⟨v1,rfl,hd,hb⟩)
 go_ret
 exact⟨_,rfl,hd,hb⟩
def ixOf(l:List Int)(c:Int):Int:=Lib.indexByte (Lib.bytesOf l) c.toNat.toUInt8
def Qae.f(l0:List Int)(a1:Int):Option Int:=some (ixOf l0 a1)
theorem Qae.calls(A0:Option Addr)(c0:Nat)(l0:List Int)(a1:Int)(r:Int)(w:World)(hr0:Kd.C (Kd.int .u8) w A0 l0.length l0)(hc0:l0.length≤c0)(h:Qae.f l0 a1=some r) :
  Calls Tryz.prog 122 #[.slice A0 l0.length c0,.int .u8 a1] w fun e w'=>e=.returned (.int .i64 r)∧Drawn0 w w':=by
 unfold Qae.f at h
 cases h
 have hcall:(callFunc 180 #[.slice A0 l0.length c0,.int .u8 a1]).run Tryz.prog w=.ok (.value (.int .i64 (ixOf l0 a1))) w:=by
  rw[run_callFunc_extern Tryz.func180 qq_6 qq_6 qq_6 (e:=Extern.BytealgIndexByte.indexByte) qq_6]
  cases A0 with
  | none =>
   obtain rfl:l0=[]:=by
    cases l0 with
    | nil=>rfl
    | cons a t=>obtain⟨ad,c,h1,_⟩:=Kd.C_get hr0 0 0 (by omega) (by simp);cases h1
   rw[Lib.run_indexByteNil];rfl
  | some ad =>
   rw[Lib.run_indexByteAt w ad l0.length c0 l0 rfl (fun i hi=>?_)]
   ·rfl
   ·obtain⟨a,ha,hx⟩:=Kd.at_int hr0 (i:Int) (by omega) (by omega)
    cases ha
    simpa [rd]using hx
 go_enter Tryz.func122,Tryz.ntmps122
 go_wp2;go_ret
 exact⟨rfl,Drawn0.refl _⟩
abbrev Q1:Int:=11400714785074694791
abbrev Q2:Int:=14029467366897019727
abbrev Q3:Int:=1609587929392839161
abbrev Q4:Int:=9650029242287828579
abbrev Q5:Int:=2870177450012600261
def IsSt(W:World)(b g:Nat)(sd v0 v1 v2 v3:Int)(rest:List Int)(n:Int):Prop :=
 ∃rv,W.heap[g]? = some (.cells #[.int .u64 sd,.int .u64 v0,.int .u64 v1,.int .u64 v2,.int .u64 v3,rv,.int .u64 n] 353 (0,0))∧R8 W b rv rest
theorem st_New(sd:Int)(w:World) :
  Calls Tryz.prog 210 #[.int .u64 sd] w fun e w'=>e=.returned (.pointer (some ⟨w.heap.size,0,none⟩))∧IsSt w' w.heap.size w.heap.size sd (IntKind.u64.wrap (IntKind.u64.wrap (sd+Q1)+Q2)) (IntKind.u64.wrap (sd+Q2)) sd (IntKind.u64.wrap (sd-Q1)) [] 0∧Below w.heap.size w w':=by
 have hu:=Tryz.underlying353;have hu2:=Tryz.underlying255
 go_enter Tryz.func210,Tryz.ntmps210
 go_wp2_with fail
 go_region
 go_wp2_with fail
 go_region
 go_wp2_with fail
 go_region
 go_wp2_with fail
 go_region
 go_wp2_with fail
 go_ret
 refine⟨rfl,⟨_,Qdz w _,Kd.R_nil _ _ _ _ _⟩,Qco (Qco (Qco (Qco (Qcn (Below.refl _ _) _))))⟩
def rotP(x n:Int):Int:=(Qad.f x n).getD 0
theorem Qjb(x n:Int)(h:0≤n∧n<64∧Go.bits .and .u64 (IntKind.u64.wrap n) 63=n):Qad.f x n=some (rotP x n):=by
 unfold rotP Qad.f;rw[h.2.2,if_pos h.1,if_pos (by rw[IntWalk.u64_in _ (by omega)];omega)];rfl
def Qjc(x y:Int):Int:=(Qcl.f x y).getD 0
theorem into_is(x y:Int):Qcl.f x y=some (Qjc x y):=by
 unfold Qjc Qcl.f;rw[Qjb _ 31 ⟨by decide,by decide,by kernel_rfl⟩];rfl
def numP(n:Nat)(l:List Int):Int:=(Qcm.f (n+1) l n).getD 0
theorem num8_is(l:List Int)(h:8≤l.length):Qcm.f 9 l 8=some (numP 8 l):=by
 obtain⟨v,hv⟩:∃v,Qcm.f 9 l 8=some v:=by
  simp[Qcm.f,Qcm.l0,show(1:Int)<l.length by omega,show(2:Int)<l.length by omega,show(3:Int)<l.length by omega,show(4:Int)<l.length by omega,show(5:Int)<l.length by omega,show(6:Int)<l.length by omega,show(7:Int)<l.length by omega,show(0:Int)<l.length by omega,wrap64];omega
 unfold numP;rw[show(8:Nat)+1=9 from rfl,show(((8:Nat):Int))=8 from rfl,hv];rfl
theorem num4_is(l:List Int)(h:4≤l.length):Qcm.f 5 l 4=some (numP 4 l):=by
 obtain⟨v,hv⟩:∃v,Qcm.f 5 l 4=some v:=by
  simp[Qcm.f,Qcm.l0,show(1:Int)<l.length by omega,show(2:Int)<l.length by omega,show(3:Int)<l.length by omega,show(0:Int)<l.length by omega,wrap64];omega
 unfold numP;rw[show(4:Nat)+1=5 from rfl,show(((4:Nat):Int))=4 from rfl,hv];rfl
abbrev V4:=Int × Int × Int × Int
def Qjd(v:V4)(l:List Int):V4:=(Qjc v.1 (numP 8 l),Qjc v.2.1 (numP 8 (l.drop 8)),Qjc v.2.2.1 (numP 8 (l.drop 16)),Qjc v.2.2.2 (numP 8 (l.drop 24)))
def Qje:Nat→V4→List Int→V4
 | 0,v,_=>v
 | m+1,v,l=>Qje m (Qjd v l) (l.drop 32)
def lenV:Value→Nat
 | .slice _ n _=>n
 | _=>0
def Qjf(i:Nat)(v:V4)(l:List Int):V4:=(if 0<i then Qjc v.1 (numP 8 l)else v.1,if 1<i then Qjc v.2.1 (numP 8 (l.drop 8))else v.2.1,if 2<i then Qjc v.2.2.1 (numP 8 (l.drop 16))else v.2.2.1,if 3<i then Qjc v.2.2.2 (numP 8 (l.drop 24))else v.2.2.2)
def StAt(W:World)(g:Nat)(sd:Int)(v:V4)(rv:Value)(n:Int):Prop:=W.heap[g]? = some (.cells #[.int .u64 sd,.int .u64 v.1,.int .u64 v.2.1,.int .u64 v.2.2.1,.int .u64 v.2.2.2,rv,.int .u64 n] 353 (0,0))
abbrev Q8(W:World)(b:Nat)(v:Value)(xs:List Int):Prop:=Kd.Q (Kd.int .u8) 5 W b (fun _=>True) v xs
theorem Qjg(A:Option Addr)(n c m:Nat)(j:Int)(hj:j=(m:Int))(hm:m≤n) :
  ∃A':Option Addr,(∀W:World,(Instr.slice 47 (.slice A n c) (some (.int .i64 j)) none none).run Tryz.prog W=.ok (.slice A' (n-m) (c-m)) W) ∧
   ∀(W:World) (b:Nat) (xs:List Int),xs.length=n→Q8 W b (.slice A n c) xs→Q8 W b (.slice A' (n-m) (c-m)) (xs.drop m):=by
 subst hj;obtain⟨i,hi,hsz⟩:∃i,Tryz.prog.info? 5=some i∧i.size=1:=by
  have h:=Qhx
  cases hh:Tryz.prog.info? 5 with
  | none=>rw[hh]at h;cases h
  | some i =>
   rw[hh]at h;simp only[Option.map_some,Option.some.injEq,Prod.mk.injEq]at h;exact⟨i,rfl,h.2.1⟩
 refine⟨if c=m then A else A.map (·.add (m*1)),fun W=>?_,fun W b xs hn hq=>?_⟩
 ·have h:=Qej (P:=Tryz.prog) 47 5 .i64 Tryz.underlying47 hi 1 hsz A n c (m:Int) (by omega) (by omega) W;rw[Int.toNat_natCast]at h;exact h
 ·exact Kd.Q_drop hq (by omega)
theorem Qjh{W:World}{b:Nat}{A:Option Addr}{n c:Nat}{l:List Int}(hQ:Q8 W b (.slice A n c) l)(h8:8≤l.length) :
  Calls Tryz.prog 264 #[.slice A n c,.int .i64 8] W fun e w'=>e=.returned (.int .u64 (numP 8 l))∧Drawn0 W w':=by
 obtain⟨rfl,h1,h2⟩:=Kd.Q_reads' hQ;exact Qcm.calls 9 A c l 8 _ W h2 h1 (num8_is l h8)
theorem num4_at{W:World}{b:Nat}{A:Option Addr}{n c:Nat}{l:List Int}(hQ:Q8 W b (.slice A n c) l)(h8:4≤l.length) :
  Calls Tryz.prog 264 #[.slice A n c,.int .i64 4] W fun e w'=>e=.returned (.int .u64 (numP 4 l))∧Drawn0 W w':=by
 obtain⟨rfl,h1,h2⟩:=Kd.Q_reads' hQ;exact Qcm.calls 5 A c l 4 _ W h2 h1 (num4_is l h8)
theorem Qji(x y:Int)(W:World):Calls Tryz.prog 263 #[.int .u64 x,.int .u64 y] W fun e w'=>e=.returned (.int .u64 (Qjc x y))∧Drawn0 W w':=Qcl.calls x y _ W (into_is x y)
def mixP(h x:Int):Int:=IntKind.u64.wrap (IntKind.u64.wrap (Go.bits .xor .u64 h (Qjc 0 x)*Q1)+Q4)
def Qkf(i:Nat)(V:V4):Int :=
 let h1:=IntKind.u64.wrap (0+rotP V.1 1)
 let h2:=IntKind.u64.wrap (h1+rotP V.2.1 7)
 let h3:=IntKind.u64.wrap (h2+rotP V.2.2.1 12)
 let h4:=IntKind.u64.wrap (h3+rotP V.2.2.2 18)
 if i=0 then 0 else if i=1 then h1 else if i=2 then h2 else if i=3 then h3 else h4
def Qkg(i:Nat)(h:Int)(V:V4):Int :=
 let h1:=mixP h V.1
 let h2:=mixP h1 V.2.1
 let h3:=mixP h2 V.2.2.1
 let h4:=mixP h3 V.2.2.2
 if i=0 then h else if i=1 then h1 else if i=2 then h2 else if i=3 then h3 else h4
theorem sumTo_0(V:V4):Qkf 0 V=0:=by simp[Qkf]
theorem sumTo_1(V:V4):Qkf 1 V=IntKind.u64.wrap (Qkf 0 V+rotP V.1 1):=by simp[Qkf]
theorem sumTo_2(V:V4):Qkf 2 V=IntKind.u64.wrap (Qkf 1 V+rotP V.2.1 7):=by simp[Qkf]
theorem sumTo_3(V:V4):Qkf 3 V=IntKind.u64.wrap (Qkf 2 V+rotP V.2.2.1 12):=by simp[Qkf]
theorem sumTo_4(V:V4):Qkf 4 V=IntKind.u64.wrap (Qkf 3 V+rotP V.2.2.2 18):=by simp[Qkf]
theorem mixTo_0(h:Int)(V:V4):Qkg 0 h V=h:=by simp[Qkg]
theorem mixTo_1(h:Int)(V:V4):Qkg 1 h V=mixP (Qkg 0 h V) V.1:=by simp[Qkg]
theorem mixTo_2(h:Int)(V:V4):Qkg 2 h V=mixP (Qkg 1 h V) V.2.1:=by simp[Qkg]
theorem mixTo_3(h:Int)(V:V4):Qkg 3 h V=mixP (Qkg 2 h V) V.2.2.1:=by simp[Qkg]
theorem mixTo_4(h:Int)(V:V4):Qkg 4 h V=mixP (Qkg 3 h V) V.2.2.2:=by simp[Qkg]
def Qkh(sd:Int)(V:V4)(n:Int):Int:=if n<32 then IntKind.u64.wrap (sd+Q5)else Qkg 4 (Qkf 4 V) V
theorem Qki(x n:Int)(h:0≤n∧n<64∧Go.bits .and .u64 (IntKind.u64.wrap n) 63=n)(W:World):Calls Tryz.prog 266 #[.int .u64 x,.int .i64 n] W fun e w'=>e=.returned (.int .u64 (rotP x n))∧Drawn0 W w':=Qad.calls x n _ W (Qjb x n h)
theorem StAt.kept{W W':World}{g:Nat}{sd:Int}{V:V4}{rv:Value}{n:Int}(h:StAt W g sd V rv n)(hb:Below W.heap.size W W'):StAt W' g sd V rv n:=Qdy h hb
theorem StAt.cells{W:World}{g:Nat}{sd:Int}{V:V4}{rv:Value}{n:Int}(h:StAt W g sd V rv n) :
  W.cell? ⟨g,0,none⟩=some (.int .u64 sd)∧W.cell? ⟨g,1,none⟩=some (.int .u64 V.1)∧W.cell? ⟨g,2,none⟩=some (.int .u64 V.2.1)∧W.cell? ⟨g,3,none⟩=some (.int .u64 V.2.2.1)∧W.cell? ⟨g,4,none⟩=some (.int .u64 V.2.2.2)∧W.cell? ⟨g,5,none⟩=some rv∧W.cell? ⟨g,6,none⟩=some (.int .u64 n) :=
 ⟨(Qdl h 0).trans rfl,(Qdl h 1).trans rfl,(Qdl h 2).trans rfl,(Qdl h 3).trans rfl,(Qdl h 4).trans rfl,(Qdl h 5).trans rfl,(Qdl h 6).trans rfl⟩
theorem Qkj(x0 x1 x2 x3:Int)(W:World):(∀k,k=0→(Instr.index 255 (.agg #[.int .u64 x0,.int .u64 x1,.int .u64 x2,.int .u64 x3]) (.int .i64 k)).run Tryz.prog W=.ok (.int .u64 x0) W) ∧
  (∀k,k=1→(Instr.index 255 (.agg #[.int .u64 x0,.int .u64 x1,.int .u64 x2,.int .u64 x3]) (.int .i64 k)).run Tryz.prog W=.ok (.int .u64 x1) W) ∧
  (∀k,k=2→(Instr.index 255 (.agg #[.int .u64 x0,.int .u64 x1,.int .u64 x2,.int .u64 x3]) (.int .i64 k)).run Tryz.prog W=.ok (.int .u64 x2) W) ∧
  (∀k,k=3→(Instr.index 255 (.agg #[.int .u64 x0,.int .u64 x1,.int .u64 x2,.int .u64 x3]) (.int .i64 k)).run Tryz.prog W=.ok (.int .u64 x3) W):=by
 refine⟨?_,?_,?_,?_⟩<;>rintro k rfl<;>simp[Instr.index,run_underlying Tryz.underlying255,asIntOf,go_sem]
theorem Qkk(g:Nat)(sd:Int)(V:V4)(rv:Value)(n:Int)(w:World)(hv:StAt w g sd V rv n) :
  Calls Tryz.prog 265 #[.pointer (some ⟨g,0,none⟩)] w fun e w'=>e=.returned (.int .u64 (Qkh sd V n))∧Below w.heap.size w w':=by
 have hu:=Tryz.underlying353;have hu2:=Tryz.underlying255;have HV:=QA hv;obtain⟨c0,c1,c2,c3,c4,c5,c6⟩:=StAt.cells hv;clear hv
 by_cases c:n<32
 ·go_enter Tryz.func265,Tryz.ntmps265
  go_wp2_with fail
  go_ret
  exact⟨by simp[Qkh,c],Below.refl _ _⟩
 ·have d:32≤n:=by omega
  go_enter Tryz.func265,Tryz.ntmps265
  go_wp2_with fail
  obtain⟨B,hB⟩:∃B,B=w.heap.size:=⟨_,rfl⟩;obtain⟨W,hW⟩:∃W,W=w.alloc (.cells #[.int .i64 1,.int .i64 7,.int .i64 12,.int .i64 18] 3):=⟨_,rfl⟩;have hBlk:W.heap[B]? = some (.cells #[.int .i64 1,.int .i64 7,.int .i64 12,.int .i64 18] 3 (0,0)):=by rw[hW,hB];exact Qdz w _
  have HBK:=QA hBlk;have HVW:=QA (show StAt W g sd V rv n by rw[hW];exact HV.out.kept (Qcn (Below.refl _ _) _));have HBW:=QA (show Below w.heap.size w W by rw[hW];exact Qcn (Below.refl _ _) _);rw[← hW,← hB];clear hW hB hBlk c0 c1 c2 c3 c4 c5 c6 HV
  go_loopw [3,4,5,20] (fun v3 v4 v5 a wr=>∃(i:Nat) (iv:Int),i≤4∧a=.int .i64 iv∧v3=.int .u64 (Qkf i V)∧Aside0 (iv=(i:Int))∧Aside0 (Below W.heap.size W wr))
   (fun _ _ _ a _=>4-(intOf a).toNat)
  case atStart=>exact⟨0,0,by omega,rfl,congrArg (Value.int .u64) (sumTo_0 V).symm,⟨rfl⟩,⟨Below.refl _ _⟩⟩
  case round =>
   obtain⟨i,iv,hi,rfl,rfl,HI,HB⟩:=hrel;obtain⟨d0,d1,d2,d3,d4,d5,d6⟩:=StAt.cells (HVW.out.kept HB.out);have hk:=Qdy HBK.out HB.out;have b0:wr.cell? ⟨B,0,none⟩=some (.int .i64 1):=(Qdl hk 0).trans rfl;have b1:wr.cell? ⟨B,1,none⟩=some (.int .i64 7):=(Qdl hk 1).trans rfl;have b2:wr.cell? ⟨B,2,none⟩=some (.int .i64 12):=(Qdl hk 2).trans rfl;have b3:wr.cell? ⟨B,3,none⟩=some (.int .i64 18):=(Qdl hk 3).trans rfl;clear hk
   by_cases h4:i<4
   ·have hk:i=0∨i=1∨i=2∨i=3:=by omega
    rcases hk with rfl|rfl|rfl|rfl
    ·obtain rfl:iv=0:=HI.out
     go_wp2_with (go_at_call 266;refine(Qki V.1 1 ⟨by decide,by decide,by kernel_rfl⟩ _).mono ?_;rintro e w7 ⟨rfl,hd⟩;have hd1:=hd.below;clear hd)
     go_roundw
     case rel=>exact⟨1,1,by omega,by go_num,congrArg (Value.int .u64) (sumTo_1 V).symm,⟨rfl⟩,⟨Qcq HB.out HB.out.size hd1⟩⟩
     case measure=>simp[intOf]
    ·obtain rfl:iv=1:=HI.out
     go_wp2_with (go_at_call 266;refine(Qki V.2.1 7 ⟨by decide,by decide,by kernel_rfl⟩ _).mono ?_;rintro e w7 ⟨rfl,hd⟩;have hd1:=hd.below;clear hd)
     go_roundw
     case rel=>exact⟨2,2,by omega,by go_num,congrArg (Value.int .u64) (sumTo_2 V).symm,⟨rfl⟩,⟨Qcq HB.out HB.out.size hd1⟩⟩
     case measure=>simp[intOf]
    ·obtain rfl:iv=2:=HI.out
     go_wp2_with (go_at_call 266;refine(Qki V.2.2.1 12 ⟨by decide,by decide,by kernel_rfl⟩ _).mono ?_;rintro e w7 ⟨rfl,hd⟩;have hd1:=hd.below;clear hd)
     go_roundw
     case rel=>exact⟨3,3,by omega,by go_num,congrArg (Value.int .u64) (sumTo_3 V).symm,⟨rfl⟩,⟨Qcq HB.out HB.out.size hd1⟩⟩
     case measure=>simp[intOf]
    ·obtain rfl:iv=3:=HI.out
     go_wp2_with (go_at_call 266;refine(Qki V.2.2.2 18 ⟨by decide,by decide,by kernel_rfl⟩ _).mono ?_;rintro e w7 ⟨rfl,hd⟩;have hd1:=hd.below;clear hd)
     go_roundw
     case rel=>exact⟨4,4,by omega,by go_num,congrArg (Value.int .u64) (sumTo_4 V).symm,⟨rfl⟩,⟨Qcq HB.out HB.out.size hd1⟩⟩
     case measure=>simp[intOf]
   ·obtain rfl:i=4:=by omega
    obtain rfl:iv=4:=HI.out
    go_wp2_with fail
    clear d0 d1 d2 d3 d4 d5 d6 b0 b1 b2 b3
    go_loopw [3,7,40] (fun v3 v7 b wi=>∃(i:Nat) (iv:Int),i≤4∧b=.int .i64 iv∧v3=.int .u64 (Qkg i (Qkf 4 V) V)∧Aside0 (iv=(i:Int))∧Aside0 (Below W.heap.size W wi))
     (fun _ _ b _=>4-(intOf b).toNat)
    case atStart=>exact⟨0,0,by omega,rfl,congrArg (Value.int .u64) (mixTo_0 _ V).symm,⟨rfl⟩,HB⟩
    case round =>
     clear HB HI;obtain⟨i,iv,hi,rfl,rfl,HI,HB⟩:=hrel
     by_cases h4:i<4
     ·have hk:i=0∨i=1∨i=2∨i=3:=by omega
      rcases hk with rfl|rfl|rfl|rfl
      ·obtain rfl:iv=0:=HI.out;have hix:=(Qkj V.1 V.2.1 V.2.2.1 V.2.2.2 wr).1 0 rfl
       go_wp2_with (go_at_call 263;refine(Qji _ _ _).mono ?_;rintro e w7 ⟨rfl,hd⟩;have hd1:=hd.below;clear hd)
       go_roundw
       case rel=>exact⟨1,1,by omega,by go_num,congrArg (Value.int .u64) (mixTo_1 _ V).symm,⟨rfl⟩,⟨Qcq HB.out HB.out.size hd1⟩⟩
       case measure=>simp[intOf]
      ·obtain rfl:iv=1:=HI.out;have hix:=(Qkj V.1 V.2.1 V.2.2.1 V.2.2.2 wr).2.1 1 rfl
       go_wp2_with (go_at_call 263;refine(Qji _ _ _).mono ?_;rintro e w7 ⟨rfl,hd⟩;have hd1:=hd.below;clear hd)
       go_roundw
       case rel=>exact⟨2,2,by omega,by go_num,congrArg (Value.int .u64) (mixTo_2 _ V).symm,⟨rfl⟩,⟨Qcq HB.out HB.out.size hd1⟩⟩
       case measure=>simp[intOf]
      ·obtain rfl:iv=2:=HI.out;have hix:=(Qkj V.1 V.2.1 V.2.2.1 V.2.2.2 wr).2.2.1 2 rfl
       go_wp2_with (go_at_call 263;refine(Qji _ _ _).mono ?_;rintro e w7 ⟨rfl,hd⟩;have hd1:=hd.below;clear hd)
       go_roundw
       case rel=>exact⟨3,3,by omega,by go_num,congrArg (Value.int .u64) (mixTo_3 _ V).symm,⟨rfl⟩,⟨Qcq HB.out HB.out.size hd1⟩⟩
       case measure=>simp[intOf]
      ·obtain rfl:iv=3:=HI.out;have hix:=(Qkj V.1 V.2.1 V.2.2.1 V.2.2.2 wr).2.2.2 3 rfl
       go_wp2_with (go_at_call 263;refine(Qji _ _ _).mono ?_;rintro e w7 ⟨rfl,hd⟩;have hd1:=hd.below;clear hd)
       go_roundw
       case rel=>exact⟨4,4,by omega,by go_num,congrArg (Value.int .u64) (mixTo_4 _ V).symm,⟨rfl⟩,⟨Qcq HB.out HB.out.size hd1⟩⟩
       case measure=>simp[intOf]
     ·obtain rfl:i=4:=by omega
      obtain rfl:iv=4:=HI.out
      go_wp2_with fail
      go_ret
      refine⟨by simp only[Qkh,if_neg (show ¬n<32 by omega)];rfl,HBW.out.trans (Qip HB.out HBW.out.size)⟩
def one8(h:Int)(l:List Int):Int:=IntKind.u64.wrap (IntKind.u64.wrap (rotP (Go.bits .xor .u64 h (Qjc 0 (numP 8 l))) 27*Q1)+Q4)
def Qkl:Nat→Int→List Int→Int
 | 0,h,_=>h
 | m+1,h,l=>Qkl m (one8 h l) (l.drop 8)
def one4(h:Int)(l:List Int):Int:=IntKind.u64.wrap (IntKind.u64.wrap (rotP (Go.bits .xor .u64 h (IntKind.u64.wrap (numP 4 l*Q1))) 23*Q2)+Q3)
def one1(h x:Int):Int:=IntKind.u64.wrap (rotP (Go.bits .xor .u64 h (IntKind.u64.wrap (IntKind.u64.wrap x*Q5))) 11*Q1)
def finP(h:Int):Int :=
 let a:=IntKind.u64.wrap (Go.bits .xor .u64 h (h/8589934592)*Q2)
 let b:=IntKind.u64.wrap (Go.bits .xor .u64 a (a/536870912)*Q3)
 Go.bits .xor .u64 b (b/4294967296)
def sumP(h0:Int)(l:List Int):Int :=
 if 4≤(l.drop (8*(l.length/8))).length then finP (((l.drop (8*(l.length/8))).drop 4).foldl one1 (one4 (Qkl (l.length/8) h0 l) (l.drop (8*(l.length/8)))))else finP ((l.drop (8*(l.length/8))).foldl one1 (Qkl (l.length/8) h0 l))
theorem q8_cut'(A:Option Addr)(n c m:Nat)(j:Int)(hj:j=(m:Int))(hm:m≤n)(hc:n≤c) :
  ∃(A':Option Addr) (n' c':Nat),n'=n-m∧n'≤c'∧(∀W:World,(Instr.slice 47 (.slice A n c) (some (.int .i64 j)) none none).run Tryz.prog W=.ok (.slice A' n' c') W) ∧
   ∀(W:World) (b:Nat) (xs:List Int),xs.length=n→Q8 W b (.slice A n c) xs→Q8 W b (.slice A' n' c') (xs.drop m):=by
 obtain⟨A',h1,h2⟩:=Qjg A n c m j hj hm;exact⟨A',n-m,c-m,rfl,by omega,h1,h2⟩
theorem st_Sum (g b:Nat) (sd:Int) (V:V4) (rv:Value) (n:Int) (l:List Int) (w:World) (hv:StAt w g sd V rv n) (hR:Q8 w b rv l) :
  Calls Tryz.prog 212 #[.pointer (some ⟨g,0,none⟩)] w fun e w'=>e=.returned (.int .u64 (sumP (IntKind.u64.wrap (Qkh sd V n+n)) l))∧Below w.heap.size w w':=by
 have hu:=Tryz.underlying353;have hu2:=Tryz.underlying255;obtain⟨A,c,rfl,hlc⟩:=Kd.Q_slice hR;have HR:=QA hR;have HV:=QA hv;obtain⟨k0,k1,k2,k3,k4,k5,k6⟩:=StAt.cells hv;have hvd:StAt w.drew g sd V (.slice A l.length c) n:=hv.kept (Qco (Below.refl _ _));obtain⟨j0,j1,j2,j3,j4,j5,j6⟩:=StAt.cells hvd
 go_enter Tryz.func212,Tryz.ntmps212
 go_wp2_with fail
 go_region_held3 (fun w'=>w'.cell? ⟨g,5,none⟩=some (.slice A l.length c)∧w'.cell? ⟨g,6,none⟩=some (.int .u64 n)) (first|exact⟨j5,j6⟩|exact⟨i5,i6⟩) (first |(go_at_call 265;refine(Qkk g sd V _ n w.drew hvd).mono ?_;rintro e w2 ⟨rfl,hb2⟩;have hv2:=hvd.kept hb2;obtain⟨i0,i1,i2,i3,i4,i5,i6⟩:=StAt.cells hv2))
 have HQ2:=QA (show Q8 w2 b (.slice A l.length c) l from Kd.Q_below (Kd.Q_drew HR.out) hb2);have p:=QA (Qcq (Qco (Below.refl w.heap.size w)) (Nat.le_refl _) hb2);clear j0 j1 j2 j3 j4 j5 j6 k0 k1 k2 k3 k4 k5 k6 hvd hv HV HR hR hb2 hv2 i0 i1 i2 i3 i4 i5 i6
 go_wp2_with fail
 obtain⟨h0,hh0⟩:∃h0,h0=IntKind.u64.wrap (Qkh sd V n+n):=⟨_,rfl⟩;rw[← hh0];have HH:=QA hh0;clear hh0
 go_loopw [3,4] (fun v3 v4 wr=>∃(m:Nat) (l':List Int) (h:Int) (A:Option Addr) (c:Nat),v3=.int .u64 h∧v4=.slice A l'.length c∧l'.length≤c∧l'.length≤l.length∧Aside0 (l'.length/8=m∧Qkl (l.length/8) h0 l=Qkl m h l'∧l.drop (8*(l.length/8))=l'.drop (8*m))∧Aside0 (Q8 wr b (.slice A l'.length c) l')∧Aside0 (Below w.heap.size w wr))
  (fun _ v4 _=>lenV v4)
 case atStart=>exact⟨_,l,h0,A,c,rfl,rfl,hlc,Nat.le_refl _,⟨rfl,rfl,rfl⟩,HQ2,p⟩
 case round =>
  clear HQ2 p hlc;obtain⟨m,l',h,A,c,rfl,rfl,hlc,hll,HM,HQ,HB⟩:=hrel
  by_cases h8:8≤l'.length
  ·have s:(8:Int)≤(l'.length:Int):=by omega
   obtain⟨A',hcut,hA'⟩:=Qjg A l'.length c 8 8 rfl h8
   go_wp2_with (first |(go_at_call 264;refine(Qjh HQ.out h8).mono ?_;rintro e w7 ⟨rfl,hd⟩;have hd1:=hd.below;clear hd) |(go_at_call 263;refine(Qji _ _ _).mono ?_;rintro e w8 ⟨rfl,hd⟩;have hd2:=hd.below;clear hd) |(go_at_call 266;refine(Qki _ 27 ⟨by decide,by decide,by kernel_rfl⟩ _).mono ?_;rintro e w9 ⟨rfl,hd⟩;have hd3:=hd.below;clear hd))
   go_roundw
   case rel =>
    have hm:=HM.out;have hd:(l'.drop 8).length=l'.length-8:=List.length_drop;refine⟨m-1,l'.drop 8,one8 h l',A',c-8,rfl,by rw[hd],by rw[hd];omega,by rw[hd];omega,⟨by rw[hd];omega,?_,?_⟩,⟨?_⟩,⟨?_⟩⟩
    ·rw[hm.2.1,show m=(m-1)+1 by omega];rfl
    ·rw[hm.2.2,List.drop_drop]
     congr 1
     omega
    ·rw[hd];exact hA' _ _ _ rfl (Kd.Q_below (Kd.Q_below (Kd.Q_below HQ.out hd1) hd2) hd3)
    ·exact Qcq (Qcq (Qcq HB.out HB.out.size hd1) (Nat.le_trans HB.out.size hd1.size) hd2) (Nat.le_trans (Nat.le_trans HB.out.size hd1.size) hd2.size) hd3
   case measure=>simp[lenV];omega
  ·have s:(l'.length:Int)<8:=by omega
   by_cases h4:4≤l'.length
   ·have t:(4:Int)≤(l'.length:Int):=by omega
    obtain⟨A3,n3,c3,q,hc3,hcut,hA'⟩:=q8_cut' A l'.length c 4 4 rfl h4 hlc;have v:n3≤8:=by omega
    have HN:=QA q;clear q
    go_wp2_with (first |(go_at_call 264;refine(num4_at HQ.out h4).mono ?_;rintro e w7 ⟨rfl,hd⟩;have hd1:=hd.below;clear hd) |(go_at_call 266;refine(Qki _ 23 ⟨by decide,by decide,by kernel_rfl⟩ _).mono ?_;rintro e w9 ⟨rfl,hd⟩;have hd3:=hd.below;clear hd))
    have HQ3:=QA (hA' _ _ _ rfl (Kd.Q_below (Kd.Q_below HQ.out hd1) hd3));have r:=QA (Qcq (Qcq HB.out HB.out.size hd1) (Nat.le_trans HB.out.size hd1.size) hd3);clear hcut hA' hd1 hd3;have a:=QA (Kd.Q_reads' HQ3.out);obtain⟨R,hR⟩:∃R,R=(l'.drop 4).foldl one1 (one4 h l'):=⟨_,rfl⟩;have j:=QA hR;clear hR
    go_loopw [3,6,46] (fun v3 v6 d wi=>∃(k:Nat) (iv x:Int),k≤n3∧d=.int .i64 iv∧v3=.int .u64 x∧Aside0 (iv=(k:Int))∧Aside0 (((l'.drop 4).drop k).foldl one1 x=R)∧Aside0 (Below w9.heap.size w9 wi))
     (fun _ _ d _=>n3-(intOf d).toNat)
    case atStart=>exact⟨0,0,_,Nat.zero_le _,rfl,rfl,⟨rfl⟩,⟨by rw[List.drop_zero];exact j.out.symm⟩,⟨Below.refl _ _⟩⟩
    case round =>
     obtain⟨k,iv,x,hk,rfl,rfl,HK,HX,HBi⟩:=hrel
     by_cases hlt:k<n3
     ·have hge:0≤iv:=by have:=HK.out;omega
      have hl2:iv<(n3:Int):=by have:=HK.out;omega
      obtain⟨ad,hA3,o⟩:=Kd.at_int (Kd.C_below a.out.2.2 HBi.out) iv hge (by rw[← a.out.1];exact hl2);have hA4:=hA3;obtain⟨y,hy⟩:∃y,y=rd (l'.drop 4) iv:=⟨_,rfl⟩;rw[← hy]at o;have HY:=QA hy;have HA:=QA hA4;clear hy hA4;subst hA3
      go_wp2_with (go_at_call 266;refine(Qki _ 11 ⟨by decide,by decide,by kernel_rfl⟩ _).mono ?_;rintro e u ⟨rfl,hd⟩;have hd4:=hd.below;clear hd)
      go_roundw
      case rel=>exact⟨k+1,iv+1,one1 x y,by omega,by go_num,rfl,⟨by have:=HK.out;omega⟩,⟨by
       have e1:iv=(k:Int):=HK.out;have hkl:k<(l'.drop 4).length:=by have:=a.out.1;omega
       have e2:(l'.drop 4).drop k=rd (l'.drop 4) (k:Int) :: (l'.drop 4).drop (k+1):=by
        rw[List.drop_eq_getElem_cons hkl];simp[rd,List.getD_eq_getElem?_getD,List.getElem?_eq_getElem hkl]
       have e3:=HX.out;rw[e2,List.foldl_cons,← e1,← HY.out]at e3;exact e3⟩,⟨Qcq HBi.out HBi.out.size hd4⟩⟩
      case measure=>simp[intOf];omega
     ·obtain rfl:n3=k:=by omega
      have e1:iv=_:=HK.out;subst e1
      go_wp2_with fail
      go_ret
      have hL:(l'.drop 4).drop n3=[]:=List.drop_eq_nil_of_le (by have:=a.out.1;omega);have hx:=HX.out;rw[hL]at hx;have hx':x=R:=hx;subst hx';have hm:=HM.out;have hm0:m=0:=by omega
      subst hm0;refine⟨?_,Qcq r.out (Nat.le_trans r.out.size (Nat.le_refl _)) HBi.out⟩;have e5:sumP h0 l=finP x:=by
       rw[j.out];unfold sumP;rw[hm.2.1,hm.2.2];simp only[Qkl,Nat.mul_zero,List.drop_zero]
       first|rw[if_pos h4]|rw[if_neg h4]
      rw[← HH.out,e5];rfl
   ·have t:(l'.length:Int)<4:=by omega
    go_wp2_with fail
    have a:=QA (Kd.Q_reads' HQ.out);obtain⟨R,hR⟩:∃R,R=(l').foldl one1 (h):=⟨_,rfl⟩;have j:=QA hR;clear hR
    go_loopw [3,6,46] (fun v3 v6 d wi=>∃(k:Nat) (iv x:Int),k≤l'.length∧d=.int .i64 iv∧v3=.int .u64 x∧Aside0 (iv=(k:Int))∧Aside0 (((l').drop k).foldl one1 x=R)∧Aside0 (Below wr.heap.size wr wi))
     (fun _ _ d _=>l'.length-(intOf d).toNat)
    case atStart=>exact⟨0,0,_,Nat.zero_le _,rfl,rfl,⟨rfl⟩,⟨by rw[List.drop_zero];exact j.out.symm⟩,⟨Below.refl _ _⟩⟩
    case round =>
     obtain⟨k,iv,x,hk,rfl,rfl,HK,HX,HBi⟩:=hrel
     by_cases hlt:k<l'.length
     ·have hge:0≤iv:=by have:=HK.out;omega
      have hl2:iv<(l'.length:Int):=by have:=HK.out;omega
      obtain⟨ad,hA3,o⟩:=Kd.at_int (Kd.C_below a.out.2.2 HBi.out) iv hge (by rw[← a.out.1];exact hl2);have hA4:=hA3;obtain⟨y,hy⟩:∃y,y=rd (l') iv:=⟨_,rfl⟩;rw[← hy]at o;have HY:=QA hy;have HA:=QA hA4;clear hy hA4;subst hA3
      go_wp2_with (go_at_call 266;refine(Qki _ 11 ⟨by decide,by decide,by kernel_rfl⟩ _).mono ?_;rintro e u ⟨rfl,hd⟩;have hd4:=hd.below;clear hd)
      go_roundw
      case rel=>exact⟨k+1,iv+1,one1 x y,by omega,by go_num,rfl,⟨by have:=HK.out;omega⟩,⟨by
       have e1:iv=(k:Int):=HK.out;have hkl:k<(l').length:=by have:=a.out.1;omega
       have e2:(l').drop k=rd (l') (k:Int) :: (l').drop (k+1):=by
        rw[List.drop_eq_getElem_cons hkl];simp[rd,List.getD_eq_getElem?_getD,List.getElem?_eq_getElem hkl]
       have e3:=HX.out;rw[e2,List.foldl_cons,← e1,← HY.out]at e3;exact e3⟩,⟨Qcq HBi.out HBi.out.size hd4⟩⟩
      case measure=>simp[intOf];omega
     ·obtain rfl:k=l'.length:=by omega
      have e1:iv=_:=HK.out;subst e1
      go_wp2_with fail
      go_ret
      have hL:(l').drop l'.length=[]:=List.drop_eq_nil_of_le (by have:=a.out.1;omega);have hx:=HX.out;rw[hL]at hx;have hx':x=R:=hx;subst hx';have hm:=HM.out;have hm0:m=0:=by omega
      subst hm0;refine⟨?_,Qcq HB.out (Nat.le_trans HB.out.size (Nat.le_refl _)) HBi.out⟩;have e5:sumP h0 l=finP x:=by
       rw[j.out];unfold sumP;rw[hm.2.1,hm.2.2];simp only[Qkl,Nat.mul_zero,List.drop_zero]
       first|rw[if_pos h4]|rw[if_neg h4]
      rw[← HH.out,e5];rfl
def Qkm(sd:Int)(l:List Int):Int :=
 sumP (IntKind.u64.wrap (Qkh sd (Qje (l.length/32) (IntKind.u64.wrap (IntKind.u64.wrap (sd+Q1)+Q2),IntKind.u64.wrap (sd+Q2),sd,IntKind.u64.wrap (sd-Q1)) l) l.length+l.length)) (l.drop (32*(l.length/32)))
theorem Qkn(b g:Nat)(sd:Int)(V:V4)(rv:Value)(A0:Option Addr)(c0:Nat)(l:List Int)(w:World)(hr0:Kd.C (Kd.int .u8) w A0 l.length l)(hfar:∀ad,A0=some ad→0<l.length→ad.block≠g)(hv:StAt w g sd V rv 0)(hR:R8 w b rv [])(hbg:b≤g)(hbw:b≤w.heap.size)(hl:l.length≤140737488355328) :
  Calls Tryz.prog 211 #[.pointer (some ⟨g,0,none⟩),.slice A0 l.length c0] w fun e w'=>e=.returned (.pointer (some ⟨g,0,none⟩))∧(∃rv',StAt w' g sd (Qje (l.length/32) V l) rv' l.length∧R8 w' b rv' (l.drop (32*(l.length/32))))∧Below b w w':=by
 have hu:=Tryz.underlying353;have hu2:=Tryz.underlying255;have hu3:=Tryz.underlying47;obtain⟨A1,n1,c1,rfl⟩:=R8.shape hR;have c6:w.cell? ⟨g,6,none⟩=some (.int .u64 0):=(Qdl hv 6).trans rfl;have c5:w.cell? ⟨g,5,none⟩=some (.slice A1 n1 c1):=(Qdl hv 5).trans rfl;have f6:=Qdm hv 6;have hw:=IntWalk.u64_in (l.length:Int) (by omega)
 go_enter Tryz.func211,Tryz.ntmps211
 have hC1:Kd.C (Kd.int .u8) (w.setCell ⟨g,6,none⟩ (.int .u64 l.length)) A0 l.length l:=Kd.C_keep (0:Int) hr0 ((KeepBut.refl w g none).set_ 6 _) hfar;have hv1:StAt (w.setCell ⟨g,6,none⟩ (.int .u64 l.length)) g sd V (.slice A1 n1 c1) l.length:=Qdi hv 6 _;have hR1:R8 (w.setCell ⟨g,6,none⟩ (.int .u64 l.length)) b (.slice A1 n1 c1) []:=hR.set hv (by decide) 6 _;have hb1:Below b w (w.setCell ⟨g,6,none⟩ (.int .u64 l.length)):=Qio (Below.refl _ _) hbg;have hz1:(w.setCell ⟨g,6,none⟩ (.int .u64 l.length)).heap.size=w.heap.size:=by simp
 go_wp2_with (first |(at_builtin;refine Kd.R_append_row (Value.int .u8) (0:Int) (h1:=fun _=>rfl) (w0:=w) b rfl (.tmp 20) (.tmp 21) 47 5 (.int .u8 0) 1 rfl Tryz.underlying47 Qhx rfl (by decide) (.slice A1 n1 c1) [] l A0 l.length c0 (fun _=>True) rfl rfl (fun _ _=>trivial) ?hO ?hR ?hB ?hS ?hL ?_;(case hO=>exact hR1);(case hR=>exact hC1);(case hB=>exact hb1);(case hS=>rw[hz1];exact hbw);(case hL=>simp;omega);intro v2 w2 a hb2 j hat2;have hv2:=Qdn hv1 j (hR1.clean hv1 (by decide));simp only[List.nil_append]at a))
 have HV2:=QA (show StAt w2 g sd V (.slice A1 n1 c1) l.length from hv2);have k:=QA hb2;obtain⟨A2,cc2,rfl,n,_⟩:=Kd.R_reads a;have HQ2:=QA (Kd.Q_of_R a);clear hv2 hb2 a hC1 hv1 hR1 hb1 hz1 c6 c5 f6 hr0 hfar hv hR j hat2
 go_loopw [5] (fun v5 wr=>∃(m:Nat) (l':List Int) (V':V4) (A:Option Addr) (c:Nat),v5=.slice A l'.length c∧l'.length≤c∧l'.length≤l.length∧Aside0 (l'.length/32=m∧Qje (l.length/32) V l=Qje m V' l'∧l.drop (32*(l.length/32))=l'.drop (32*m))∧Aside0 (Q8 wr b (.slice A l'.length c) l')∧Aside0 (StAt wr g sd V' (.slice A1 n1 c1) l.length)∧Aside0 (Below b w wr))
  (fun v5 _=>lenV v5)
 case atStart=>exact⟨_,l,V,A2,cc2,rfl,n,Nat.le_refl _,⟨rfl,rfl,rfl⟩,HQ2,HV2,k⟩
 case round =>
  obtain⟨m,l',V',A,c,rfl,hlc,hll,HM,HQ,HV,HB⟩:=hrel;clear HQ2 HV2 k
  by_cases p:32≤l'.length
  ·have o:(32:Int)≤(l'.length:Int):=by omega
   go_wp2_with fail
   go_loopw [6,26] (fun v6 d wi=>∃(i:Nat) (iv:Int),i≤4∧d=.int .i64 iv∧Aside0 (iv=(i:Int))∧Aside0 (Q8 wi b (.slice A l'.length c) l')∧Aside0 (StAt wi g sd (Qjf i V' l') (.slice A1 n1 c1) l.length)∧Aside0 (Below b w wi))
    (fun _ d _=>4-(intOf d).toNat)
   case atStart=>exact⟨0,0,by omega,rfl,⟨rfl⟩,HQ,HV,HB⟩
   case round =>
    obtain⟨i,iv,hi,rfl,HI,HQi,HVi,HBi⟩:=hrel;clear HQ HV HB
    by_cases h4:i<4
    ·have hk:i=0∨i=1∨i=2∨i=3:=by omega
     rcases hk with rfl|rfl|rfl|rfl
     ·obtain rfl:iv=0:=HI.out;have cv:wr.cell? ⟨g,1,none⟩=some (.int .u64 V'.1):=(Qdl HVi.out 1).trans rfl;have fv:=Qdm HVi.out 1
      go_wp2_with fail
      obtain⟨A',hcut,hA'⟩:=Qjg A l'.length c 0 0 rfl (by omega);have hwa:IntKind.i64.wrap 0=0:=IntWalk.i64_in 0 (by decide);have hq:∀q,Q8 (wr.drewN q) b (.slice A' (l'.length-0) (c-0)) (l'.drop 0):=fun q=>hA' _ _ _ rfl (Kd.Q_drewN HQi.out q)
      have h8:8≤(l'.drop 0).length:=by rw[List.length_drop];omega
      go_region_with (first |(go_at_call 264;refine(Qjh (hq _) h8).mono ?_;rintro e w7 ⟨rfl,hd⟩;obtain⟨q,rfl⟩:=hd.out;clear hd) |(go_at_call 263;refine(Qji _ _ _).mono ?_;rintro e w8 ⟨rfl,hd⟩;obtain⟨q2,rfl⟩:=hd.out;clear hd))
      all_goals
       go_wp2_with fail
       go_roundw
       case rel=>exact⟨1,1,by omega,by go_num,⟨rfl⟩,⟨Kd.Q_set (Kd.Q_drewN HQi.out _) (cells:=#[.int .u64 sd,.int .u64 (Qjf 0 V' l').1,.int .u64 (Qjf 0 V' l').2.1,.int .u64 (Qjf 0 V' l').2.2.1,.int .u64 (Qjf 0 V' l').2.2.2,.slice A1 n1 c1,.int .u64 l.length]) (t:=353) HVi.out (by intro q hq;rcases List.mem_cons.1 hq with rfl|hq;decide;cases hq) _ _⟩,⟨Qdi (w:=wr.drewN _) HVi.out 1 _⟩,⟨Qio (Qcp HBi.out _) hbg⟩⟩
       case measure=>simp[intOf]
     ·obtain rfl:iv=1:=HI.out;have cv:wr.cell? ⟨g,2,none⟩=some (.int .u64 V'.2.1):=(Qdl HVi.out 2).trans rfl;have fv:=Qdm HVi.out 2
      go_wp2_with fail
      obtain⟨A',hcut,hA'⟩:=Qjg A l'.length c 8 8 rfl (by omega);have hwa:IntKind.i64.wrap 8=8:=IntWalk.i64_in 8 (by decide);have hq:∀q,Q8 (wr.drewN q) b (.slice A' (l'.length-8) (c-8)) (l'.drop 8):=fun q=>hA' _ _ _ rfl (Kd.Q_drewN HQi.out q)
      have h8:8≤(l'.drop 8).length:=by rw[List.length_drop];omega
      go_region_with (first |(go_at_call 264;refine(Qjh (hq _) h8).mono ?_;rintro e w7 ⟨rfl,hd⟩;obtain⟨q,rfl⟩:=hd.out;clear hd) |(go_at_call 263;refine(Qji _ _ _).mono ?_;rintro e w8 ⟨rfl,hd⟩;obtain⟨q2,rfl⟩:=hd.out;clear hd))
      all_goals
       go_wp2_with fail
       go_roundw
       case rel=>exact⟨2,2,by omega,by go_num,⟨rfl⟩,⟨Kd.Q_set (Kd.Q_drewN HQi.out _) (cells:=#[.int .u64 sd,.int .u64 (Qjf 1 V' l').1,.int .u64 (Qjf 1 V' l').2.1,.int .u64 (Qjf 1 V' l').2.2.1,.int .u64 (Qjf 1 V' l').2.2.2,.slice A1 n1 c1,.int .u64 l.length]) (t:=353) HVi.out (by intro q hq;rcases List.mem_cons.1 hq with rfl|hq;decide;cases hq) _ _⟩,⟨Qdi (w:=wr.drewN _) HVi.out 2 _⟩,⟨Qio (Qcp HBi.out _) hbg⟩⟩
       case measure=>simp[intOf]
     ·obtain rfl:iv=2:=HI.out;have cv:wr.cell? ⟨g,3,none⟩=some (.int .u64 V'.2.2.1):=(Qdl HVi.out 3).trans rfl;have fv:=Qdm HVi.out 3
      go_wp2_with fail
      obtain⟨A',hcut,hA'⟩:=Qjg A l'.length c 16 16 rfl (by omega);have hwa:IntKind.i64.wrap 16=16:=IntWalk.i64_in 16 (by decide);have hq:∀q,Q8 (wr.drewN q) b (.slice A' (l'.length-16) (c-16)) (l'.drop 16):=fun q=>hA' _ _ _ rfl (Kd.Q_drewN HQi.out q)
      have h8:8≤(l'.drop 16).length:=by rw[List.length_drop];omega
      go_region_with (first |(go_at_call 264;refine(Qjh (hq _) h8).mono ?_;rintro e w7 ⟨rfl,hd⟩;obtain⟨q,rfl⟩:=hd.out;clear hd) |(go_at_call 263;refine(Qji _ _ _).mono ?_;rintro e w8 ⟨rfl,hd⟩;obtain⟨q2,rfl⟩:=hd.out;clear hd))
      all_goals
       go_wp2_with fail
       go_roundw
       case rel=>exact⟨3,3,by omega,by go_num,⟨rfl⟩,⟨Kd.Q_set (Kd.Q_drewN HQi.out _) (cells:=#[.int .u64 sd,.int .u64 (Qjf 2 V' l').1,.int .u64 (Qjf 2 V' l').2.1,.int .u64 (Qjf 2 V' l').2.2.1,.int .u64 (Qjf 2 V' l').2.2.2,.slice A1 n1 c1,.int .u64 l.length]) (t:=353) HVi.out (by intro q hq;rcases List.mem_cons.1 hq with rfl|hq;decide;cases hq) _ _⟩,⟨Qdi (w:=wr.drewN _) HVi.out 3 _⟩,⟨Qio (Qcp HBi.out _) hbg⟩⟩
       case measure=>simp[intOf]
     ·obtain rfl:iv=3:=HI.out;have cv:wr.cell? ⟨g,4,none⟩=some (.int .u64 V'.2.2.2):=(Qdl HVi.out 4).trans rfl;have fv:=Qdm HVi.out 4
      go_wp2_with fail
      obtain⟨A',hcut,hA'⟩:=Qjg A l'.length c 24 24 rfl (by omega);have hwa:IntKind.i64.wrap 24=24:=IntWalk.i64_in 24 (by decide);have hq:∀q,Q8 (wr.drewN q) b (.slice A' (l'.length-24) (c-24)) (l'.drop 24):=fun q=>hA' _ _ _ rfl (Kd.Q_drewN HQi.out q)
      have h8:8≤(l'.drop 24).length:=by rw[List.length_drop];omega
      go_region_with (first |(go_at_call 264;refine(Qjh (hq _) h8).mono ?_;rintro e w7 ⟨rfl,hd⟩;obtain⟨q,rfl⟩:=hd.out;clear hd) |(go_at_call 263;refine(Qji _ _ _).mono ?_;rintro e w8 ⟨rfl,hd⟩;obtain⟨q2,rfl⟩:=hd.out;clear hd))
      all_goals
       go_wp2_with fail
       go_roundw
       case rel=>exact⟨4,4,by omega,by go_num,⟨rfl⟩,⟨Kd.Q_set (Kd.Q_drewN HQi.out _) (cells:=#[.int .u64 sd,.int .u64 (Qjf 3 V' l').1,.int .u64 (Qjf 3 V' l').2.1,.int .u64 (Qjf 3 V' l').2.2.1,.int .u64 (Qjf 3 V' l').2.2.2,.slice A1 n1 c1,.int .u64 l.length]) (t:=353) HVi.out (by intro q hq;rcases List.mem_cons.1 hq with rfl|hq;decide;cases hq) _ _⟩,⟨Qdi (w:=wr.drewN _) HVi.out 4 _⟩,⟨Qio (Qcp HBi.out _) hbg⟩⟩
       case measure=>simp[intOf]
    ·obtain rfl:i=4:=by omega
     obtain rfl:iv=4:=HI.out;obtain⟨A',hcut,hA'⟩:=Qjg A l'.length c 32 32 rfl p
     go_wp2_with fail
     go_roundw
     case rel =>
      have e4:Qjf 4 V' l'=Qjd V' l':=rfl;have hm:=HM.out;have hd:(l'.drop 32).length=l'.length-32:=List.length_drop;refine⟨m-1,l'.drop 32,Qjd V' l',A',c-32,by rw[hd],by rw[hd];omega,by rw[hd];omega,⟨by rw[hd];omega,?_,?_⟩,⟨?_⟩,⟨?_⟩,HBi⟩
      ·rw[hm.2.1,show m=(m-1)+1 by omega];rfl
      ·rw[hm.2.2,List.drop_drop]
       congr 1
       omega
      ·rw[hd];exact hA' _ _ _ rfl HQi.out
      ·exact HVi.out
     case measure=>simp[lenV];omega
  ·have o:(l'.length:Int)<32:=by omega
   have hq':=Kd.Q_reads' HQ.out;have cv:wr.cell? ⟨g,5,none⟩=some (.slice A1 n1 c1):=(Qdl HV.out 5).trans rfl
   go_wp2_with (first |(at_builtin;refine Kd.R_append_row (Value.int .u8) (0:Int) (h1:=fun _=>rfl) (w0:=wr) b rfl (.const (.slice none 0 0)) (.tmp 50) 47 5 (.int .u8 0) 1 rfl Tryz.underlying47 Qhx rfl (by decide) (.slice none 0 0) [] l' A l'.length c (fun _=>True) rfl rfl (fun _ _=>trivial) ?hO ?hR ?hB ?hS ?hL ?_;(case hO=>exact Kd.R_nil _ _ _ _ _);(case hR=>exact hq'.2.2);(case hB=>exact Below.refl _ _);(case hS=>exact Nat.le_trans hbw HB.out.size);(case hL=>simp;omega);intro v3 w3 h hb3 r hat3;obtain⟨A3,n3,c3,rfl⟩:=R8.shape h;have hv3:=Qdn (show wr.heap[g]? = _ from HV.out) r (by simp[Value.ownBlock]);have fv:=Qdm hv3 5;have cv3:w3.cell? ⟨g,5,none⟩=some (.slice A1 n1 c1):=(Qdl hv3 5).trans rfl;(try simp only[List.nil_append]at h)))
   go_ret
   have hm:=HM.out;have hm0:m=0:=by omega
   subst hm0;refine⟨rfl,⟨.slice A3 n3 c3,?_,?_⟩,Qio (HB.out.trans hb3) hbg⟩
   ·rw[hm.2.1];exact Qdi hv3 5 _
   ·rw[hm.2.2]
    simpa using R8.set h hv3 (by decide) 5 _
theorem Qkp(s:ByteArray)(hs:s.size≤1000):∀(d:Nat) (x:Int),d≤s.size→∃r,Qax.l0 (d+1) s x ((d:Int)-1)=some r
 | 0,x,h=>by
  refine⟨x,?_⟩;unfold Qax.l0;rw[if_neg (by omega)]
 | d+1,x,h=>by
  obtain⟨r,hr⟩:=Qkp s hs d (IntKind.u64.wrap ((IntKind.u64.wrap (x*256))+(IntKind.u64.wrap (bt s (d:Int))))) (by omega);refine⟨r,?_⟩;unfold Qax.l0;rw[show((d+1:Nat):Int)-1=(d:Int)by omega,if_pos (by omega),if_pos (by omega),if_pos (by omega),show wrap64 ((d:Int)-1)=(d:Int)-1 by unfold wrap64;omega];exact hr
def rval(s:ByteArray):Int:=(Qax.f (s.size+1) s).getD 0
theorem rval_is(s:ByteArray)(hs:s.size≤1000):Qax.f (s.size+1) s=some (rval s):=by
 obtain⟨r,hr⟩:=Qkp s hs s.size 0 (Nat.le_refl _);have h:Qax.f (s.size+1) s=some r:=by
  unfold Qax.f;rw[show wrap64 ((s.size:Int)-1)=(s.size:Int)-1 by unfold wrap64;omega];exact hr
 unfold rval;rw[h];rfl
def Qkq:Value→Nat
 | .string s=>s.size
 | _=>0
theorem Qkr(s:ByteArray)(hs:s.size≤1000)(W:World):Calls Tryz.prog 104 #[.string s] W fun e w'=>e=.returned (.int .u64 (rval s))∧Drawn0 W w':=Qax.calls _ s _ W (rval_is s hs)
theorem Qks(s:ByteArray)(a b:Nat):(s.extract a b).size≤b-a:=by
 rw[ByteArray.size_extract];omega
end Go.Proofs.YtepkfjmjidjedaaGreat.C
end
