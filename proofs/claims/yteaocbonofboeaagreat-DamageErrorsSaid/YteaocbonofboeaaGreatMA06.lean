/- Merged texts. -/
import Derived.Test.YteaocbonofboeaaGreatMA02
import Derived.Lib.SliceRun
import Derived.StillTailTactics
import Derived.Shelf.Bytes.SlIndexAt
set_option linter.unusedVariables false
set_option linter.unusedSimpArgs false
set_option maxHeartbeats 8000000
set_option maxRecDepth 100000
section
namespace Go.Proofs.YteaocbonofboeaaGreat.C
open Go.RowKit Go.Proofs.YteaocbonofboeaaGreatW.PrintWords Go.Proofs.YteaocbonofboeaaGreatW.PrintLast Go.Proofs.YteaocbonofboeaaGreatW.PrintMore
def Qay.f(a0:Int):Option (Int × Int):=if 0≤a0 then if a0<256 then some (12+a0%2,1+a0/2%8)else none else none
theorem Qay.calls(a0:Int)(r1:Int)(r2:Int)(w:World)(h:Qay.f a0=some (r1,r2)) :
  Calls Tryz.prog 16 #[.int .u8 a0] w fun e w'=>e=.returned (.agg #[.int .u8 r1,.int .u32 r2])∧Below w.heap.size w w':=by
 unfold Qay.f at h
 by_cases h0:0≤a0
 ·by_cases h1:a0<256
  ·rw[if_pos h0,if_pos h1]at h;simp only[Option.some.injEq,Prod.mk.injEq]at h;have hr1:=QA h.1;have hr2:=QA h.2;clear h;have hu:=Tryz.underlying28;have e1:Int.tmod a0 2=a0%2:=Int.tmod_eq_emod_of_nonneg h0;have e2:Int.tdiv a0 2=a0/2:=Int.tdiv_eq_ediv_of_nonneg h0;have e3:(12+a0%2)%256=12+a0%2:=by omega
   have e4:a0/2%256=a0/2:=by omega
   go_enter Tryz.func16,Tryz.ntmps16
   go_wp2_with fail
   refine bodyPost_ret (results_cell_row rfl _ _ w.heap.size 28 #[.int .u8 (12+a0%2),.int .u32 (1+a0/2%8)] (0,0) _ rfl (Qey w _) Tryz.underlying28 rfl qq_6) rfl ?_;exact⟨by rw[hr1.out,hr2.out],Qdj (Below.refl _ _) _⟩
  ·rw[if_pos h0,if_neg h1]at h;cases h
 ·rw[if_neg h0]at h;cases h
def Qbi.f(k:Nat)(a0:ByteArray):Option ByteArray:=if a0.size≤70368744177664 then(Qbh.f k (a0.size:Int)).bind fun t=>if t.size≤1000 then some (t++a0)else none else none
theorem Qbi.calls(k:Nat)(a0:ByteArray)(r:ByteArray)(w:World)(h:Qbi.f k a0=some r) :
  Calls Tryz.prog 136 #[.string a0] w fun e w'=>e=.returned (.string r)∧Below w.heap.size w w':=by
 unfold Qbi.f at h
 by_cases hs:a0.size≤70368744177664
 ·rw[if_pos hs]at h;obtain⟨t,ht,h⟩:=Option.bind_eq_some_iff.mp h
  by_cases h1:t.size≤1000
  ·rw[if_pos h1]at h;obtain rfl:=Option.some.inj h;have HT:=QA ht;clear ht h;have hc:t.size+a0.size≤9223372036854775807:=by omega
   go_enter Tryz.func136,Tryz.ntmps136
   go_wp2_with (go_at_call 135;refine(Qbh.calls k _ _ _ HT.out).mono ?_;rintro e w1 ⟨rfl,hb1⟩)
   go_ret
   exact⟨rfl,hb1⟩
  ·rw[if_neg h1]at h;cases h
 ·rw[if_neg hs]at h;cases h
abbrev R8(W:World)(b:Nat)(v:Value)(xs:List Int):Prop:=Kd.R (Kd.int .u8) 5 W b (fun _=>True) v xs
def IsBuf(W:World)(b g:Nat)(xs:List Int):Prop:=∃v,W.heap[g]? = some (.cells #[v] 184 (0,0))∧R8 W b v xs
def leb:Int→Nat→List Int
 | _,0=>[]
 | x,n+1=>x%256 :: leb (x/256) n
theorem Qkp:∀(n:Nat) (x:Int),(leb x n).length=n
 | 0,_=>rfl
 | n+1,x=>by simp[leb,Qkp n]
theorem R8.lit(W:World)(b:Nat)(hb:b≤W.heap.size)(xs:List Int)(hm:xs.length≤9223372036854775807):R8 (W.alloc (.cells (nums .u8 xs).toArray 5)) b (.slice (some ⟨W.heap.size,0,none⟩) xs.length xs.length) xs :=
 Kd.R_of_own (own_lit W b 5 .u8 xs hb hm) (fun _ _=>trivial)
theorem R8.clean{W:World}{b g t:Nat}{v:Value}{xs:List Int}{cs:Array Value}(h:R8 W b v xs)(hg:W.heap[g]? = some (.cells cs t (0,0)))(ht:5≠t):some g≠v.ownBlock:=Kd.R_ne h hg ht
theorem R8.set{W:World}{b g t:Nat}{v:Value}{xs:List Int}{cs:Array Value}(h:R8 W b v xs)(hg:W.heap[g]? = some (.cells cs t (0,0)))(ht:5≠t)(j:Nat)(u:Value):R8 (W.setCell ⟨g,j,none⟩ u) b v xs :=
 Kd.R_set h hg (by intro q hq;rcases List.mem_cons.1 hq with rfl|hq;exact ht;cases hq) j u
theorem R8.kept{W W':World}{b:Nat}{v:Value}{xs:List Int}(h:R8 W b v xs)(hb:Below W.heap.size W W'):R8 W' b v xs:=Kd.R_below h hb
theorem R8.low{W:World}{b b':Nat}{v:Value}{xs:List Int}(h:R8 W b v xs)(hb:b'≤b):R8 W b' v xs:=Kd.R_lower h hb
theorem R8.shape{W:World}{b:Nat}{v:Value}{xs:List Int}(h:R8 W b v xs):∃A n c,v=.slice A n c:=by
 obtain⟨A,c,e⟩:=Kd.R_slice h;exact⟨A,_,c,e⟩
theorem IsBuf.kept{W W':World}{b g:Nat}{xs:List Int}(h:IsBuf W b g xs)(hb:Below W.heap.size W W'):IsBuf W' b g xs:=by
 obtain⟨v,h1,h2⟩:=h;exact⟨v,Qex h1 hb,h2.kept hb⟩
theorem IsBuf.lt{W:World}{b g:Nat}{xs:List Int}(h:IsBuf W b g xs):g<W.heap.size:=by
 obtain⟨v,h1,h2⟩:=h;exact Qeh h1
theorem IsBuf.put{W w1:World}{b g:Nat}{v v1:Value}{xs ys:List Int}(hv:W.heap[g]? = some (.cells #[v] 184 (0,0)))(hR:R8 W b v xs)(hg:W.grownBy w1 v.ownBlock)(h1:R8 w1 b v1 ys) :
  w1.heap[g]? = some (.cells #[v] 184 (0,0))∧IsBuf (w1.setCell ⟨g,0,none⟩ v1) b g ys:=by
 have hv1:=Qek hv hg (hR.clean hv (by decide));exact⟨hv1,v1,Qef hv1 0 v1,h1.set hv1 (by decide) 0 v1⟩
theorem Qkq{b:Nat}{w W:World}{g j:Nat}{v:Value}(h:Below b w W)(hg:b≤g):Below b w (W.setCell ⟨g,j,none⟩ v):=h.setCell hg _
theorem Qkr{b b':Nat}{w W:World}(h:Below b w W)(hb:b'≤b):Below b' w W:=⟨h.os,h.tape,h.output,h.size,fun i hi=>h.block i (by omega)⟩
def Tk(g:Nat)(w w':World):Prop:=∀k cs t,w.heap[k]? = some (.cells cs t (0,0))→t≠5→k≠g→w'.heap[k]? = some (.cells cs t (0,0))
def Bw(b g:Nat)(w w':World):Prop:=Below b w w'∧Tk g w w'
theorem Tk.refl(g:Nat)(w:World):Tk g w w:=fun _ _ _ h _ _=>h
theorem Tk.trans{g:Nat}{a b c:World}(h:Tk g a b)(k:Tk g b c):Tk g a c:=fun _ _ _ h1 h2 h3=>k _ _ _ (h _ _ _ h1 h2 h3) h2 h3
theorem Tk.below{g:Nat}{w w':World}(h:Below w.heap.size w w'):Tk g w w':=fun _ _ _ h1 _ _=>Qex h1 h
theorem Bw.refl(b g:Nat)(w:World):Bw b g w w:=⟨Below.refl _ _,Tk.refl _ _⟩
theorem Bw.trans{b g:Nat}{x y z:World}(h:Bw b g x y)(k:Bw b g y z):Bw b g x z:=⟨h.1.trans k.1,h.2.trans k.2⟩
theorem Bw.below{b g:Nat}{w w':World}(h:Below w.heap.size w w')(hb:b≤w.heap.size):Bw b g w w':=⟨Qkr h hb,Tk.below h⟩
theorem Bw.size{b g:Nat}{w w':World}(h:Bw b g w w'):w.heap.size≤w'.heap.size:=h.1.size
theorem Bw.put{W w1:World}{b g:Nat}{v v1:Value}{xs:List Int}(hbg:b≤g)(hv:W.heap[g]? = some (.cells #[v] 184 (0,0)))(hR:R8 W b v xs)(hb:Below b W w1)(hg:W.grownBy w1 v.ownBlock):Bw b g W (w1.setCell ⟨g,0,none⟩ v1):=by
 refine⟨Qkq hb hbg,fun k cs t h1 h2 h3=>?_⟩;have hne:some k≠v.ownBlock:=Kd.R_ne hR h1 (fun e=>h2 e.symm);have h4:=Qek h1 hg hne;exact Qeg h4 h3 v1
def Qae.f(l0:List Int):Option (List Int):=if l0.length≤140737488355328 then some l0 else none
theorem Qks(A0:Option Addr)(c0:Nat)(l0:List Int)(w:World)(hr0:Kd.C (Kd.int .u8) w A0 l0.length l0)(hl:l0.length≤140737488355328) :
  Calls Tryz.prog 72 #[.slice A0 l0.length c0] w fun e w'=>∃b:Value,e=.returned (b)∧R8 w' w.heap.size b l0∧Below w.heap.size w w':=by
 have hu:=Tryz.underlying40;have g:∀(w:World) (a:Option Addr) (n c n' c':Nat),(binOp .eql 40 (.slice a n c) (.slice none n' c')).run Tryz.prog w=.ok (.bool a.isNone) w:=fun w a n c n' c'=>Lib.run_eql_slice_nil w _ _ a n c n' c' hu
 cases A0 with
 | none =>
  obtain rfl:l0=[]:=by
   cases l0 with
   | nil=>rfl
   | cons a t=>obtain⟨ad,c,h1,_⟩:=Kd.C_get hr0 0 0 (by omega) (by simp);cases h1
  go_enter Tryz.func72,Tryz.ntmps72
  go_wp2;go_ret
  exact⟨_,rfl,Kd.R_nil _ _ _ _ _,Below.refl _ _⟩
 | some ad =>
  go_enter Tryz.func72,Tryz.ntmps72
  go_wp2_with (first |(at_builtin;refine Kd.R_append_row (Value.int .u8) (0:Int) (h1:=fun _=>rfl) (w0:=w) w.heap.size rfl (.tmp 5) (.tmp 6) 40 5 (.int .u8 0) 1 rfl Tryz.underlying40 Qjo rfl (by decide) _ [] l0 (some ad) l0.length c0 (fun _=>True) rfl rfl (fun _ _=>trivial) ?hO ?hR ?hB ?hS ?hL ?_;(case hO=>exact R8.lit w w.heap.size (Nat.le_refl _) [] (by simp));(case hR=>exact Kd.C_below hr0 (Qdj (Below.refl _ _) _));(case hB=>exact Qdj (Below.refl _ _) _);(case hS=>simp);(case hL=>simp;omega);intro v1 w1 d hb1 h hat1;simp only[List.nil_append]at d))
  go_ret
  exact⟨_,rfl,d,hb1⟩
theorem Qae.calls(A0:Option Addr)(c0:Nat)(l0:List Int)(r:List Int)(w:World)(hr0:Kd.C (Kd.int .u8) w A0 l0.length l0)(hc0:l0.length≤c0)(h:Qae.f l0=some r) :
  Calls Tryz.prog 72 #[.slice A0 l0.length c0] w fun e w'=>∃v0_:Value,e=.returned (v0_)∧Kd.R (Kd.int .u8) 5 w' w.heap.size (fun _=>True) v0_ r∧Below w.heap.size w w':=by
 unfold Qae.f at h;have hl:l0.length≤140737488355328:=by
  by_cases e:l0.length≤140737488355328
  ·exact e
  ·rw[if_neg e]at h;cases h
 rw[if_pos hl]at h
 cases h
 exact Qks A0 c0 l0 w hr0 hl
def Ow(g:Nat)(w w':World):Prop:=∀(k:Nat) (o:Obj) (v:Value),w.heap[g]? = some (.cells #[v] 184 (0,0))→w.heap[k]? = some o→k≠g→some k≠v.ownBlock →
 w'.heap[k]? = some o∧∃v',w'.heap[g]? = some (.cells #[v'] 184 (0,0))∧some k≠v'.ownBlock
theorem Ow.refl(g:Nat)(w:World):Ow g w w:=fun k o v h1 h2 _ h4=>⟨h2,v,h1,h4⟩
theorem Ow.trans{g:Nat}{a b c:World}(h:Ow g a b)(h':Ow g b c):Ow g a c:=fun k o v h1 h2 h3 h4=>by
 obtain⟨h5,v',h6,h7⟩:=h k o v h1 h2 h3 h4;exact h' k o v' h6 h5 h3 h7
theorem Ow.put{W w1:World}{g:Nat}{v v1:Value}(hv:W.heap[g]? = some (.cells #[v] 184 (0,0)))(hg:W.grownBy w1 v.ownBlock)(hv1:w1.heap[g]? = some (.cells #[v] 184 (0,0)))(hat:v1.ownBlock=v.ownBlock∨∃b,v1.ownBlock=some b∧W.heap.size≤b):Ow g W (w1.setCell ⟨g,0,none⟩ v1):=by
 intro k o v0 h1 h2 h3 h4;rw[hv]at h1;obtain rfl:v=v0:=by
  have:=Option.some.inj h1
  injection this with h
  injection h with h
  injection h
 refine⟨(Below.heap_setCell w1 ⟨g,0,none⟩ v1 k h3).trans (Qek h2 hg h4),v1,Qef hv1 0 v1,?_⟩
 rcases hat with h |⟨b,h,hb⟩
 ·rw[h];exact h4
 ·rw[h];intro e;have:=Qeh h2;have e2:=Option.some.inj e;omega
theorem Qkt(b g:Nat)(x:Int)(n:Nat)(xs:List Int)(w:World)(d:0≤x)(h:x<18446744073709551616)(hbg:b≤g)(hbw:b≤w.heap.size)(hI:IsBuf w b g xs)(hl:xs.length+n≤140737488355328) :
  Calls Tryz.prog 148 #[.pointer (some ⟨g,0,none⟩),.int .u64 x,.int .i64 n] w fun e w'=>e=.returned (.pointer (some ⟨g,0,none⟩))∧IsBuf w' b g (xs++leb x n)∧Bw b g w w'∧Ow g w w':=by
 have HI:=QA hI;clear hI
 go_enter Tryz.func148,Tryz.ntmps148
 go_wp2
 go_loopw [1,8] (fun v1 v8 wr=>∃(k:Nat) (ys:List Int) (iv xv:Int),k≤n∧ys.length=k∧v8=.int .i64 iv∧v1=.int .u64 xv∧0≤xv∧xv<18446744073709551616∧Aside0 (iv=(k:Int))∧Aside0 (leb x n=ys++leb xv (n-k))∧Aside0 (IsBuf wr b g (xs++ys))∧Aside0 (Bw b g w wr)∧Aside0 (Ow g w wr))
  (fun _ v8 _=>n-(intOf v8).toNat)
 case atStart=>exact⟨0,[],0,x,Nat.zero_le _,rfl,rfl,rfl,d,h,⟨rfl⟩,⟨rfl⟩,⟨by simpa using HI.out⟩,⟨Bw.refl _ _ _⟩,⟨Ow.refl _ _⟩⟩
 case round =>
  obtain⟨k,ys,iv,xv,hk,hys,rfl,rfl,m,o,HK,HL,HB,HW,HO⟩:=hrel
  by_cases hlt:k<n
  ·have hlt2:iv<(n:Int):=by have:=HK.out;omega
   have hge:0≤iv:=by have:=HK.out;omega
   obtain⟨v,hv,hR⟩:=HB.out;have hc:wr.cell? ⟨g,0,none⟩=some v:=(Qei hv 0).trans rfl;have HV:=QA hv;have HR:=QA hR;clear hv hR
   go_wp2_with ((at_builtin;refine Kd.R_append (Kd.int .u8) (w0:=wr) b rfl (.tmp 14) (.tmp 17) 40 5 (.int .u8 0) 1 rfl Tryz.underlying40 Qjo rfl (by decide) (by omega) v (xs++ys) (xv%256) [.int .u8 (xv%256)] (fun _=>True) (fun _=>False) rfl ?ax ?aP (fun _ hk=>hk.elim) ?aF ?aO ?aB ?aS ?aL ?_;(case ax=>rfl);(case aP=>rfl);(case aF=>exact fun _ _=>trivial);(case aO=>exact HR.out);(case aB=>exact Below.refl _ _);(case aS=>exact Nat.le_trans hbw HW.out.size);(case aL=>simp;omega);intro v1 w1 c hb1 a hat1;obtain⟨A1,n1,c1,rfl⟩:=R8.shape c;obtain⟨hv1,hI1⟩:=IsBuf.put HV.out HR.out a c;have hfz:=Qej hv1 0;have hc1:w1.cell? ⟨g,0,none⟩=some v:=(Qei hv1 0).trans rfl;have HI1:=QA hI1;have j:=QA (HO.out.trans (Ow.put (v1:=.slice A1 n1 c1) HV.out a hv1 hat1));have l:=QA (HW.out.trans (Bw.put (v1:=.slice A1 n1 c1) hbg HV.out HR.out hb1 a));clear hI1 hb1 a hat1 c hv1))
   go_roundw
   case rel=>exact⟨k+1,ys++[xv%256],iv+1,xv/256,by omega,by simp[hys],by go_num,by go_num,by omega,by omega,⟨by have:=HK.out;omega⟩,⟨by
    rw[HL.out,show n-k=(n-(k+1))+1 by omega,leb];simp⟩,⟨by rw[← List.append_assoc];exact HI1.out⟩,⟨l.out⟩,⟨j.out⟩⟩
   case measure=>simp[intOf];omega
  ·obtain rfl:k=n:=by omega
   have e1:iv=(k:Int):=HK.out;subst e1;go_wp2;go_ret
   refine⟨rfl,?_,HW.out,HO.out⟩;have e:=HL.out;rw[Nat.sub_self]at e;rw[e]
   simpa [leb]using HB.out
theorem Qku(b g:Nat)(x:Int)(n:Nat)(xs:List Int)(w:World)(hx0:0≤x)(hx1:x<18446744073709551616)(hbg:b≤g)(hbw:b≤w.heap.size)(hI:IsBuf w b g xs)(hl:xs.length+n≤140737488355328) :
  Calls Tryz.prog 148 #[.pointer (some ⟨g,0,none⟩),.int .u64 x,.int .i64 n] w fun e w'=>e=.returned (.pointer (some ⟨g,0,none⟩))∧IsBuf w' b g (xs++leb x n)∧Bw b g w w':=(Qkt b g x n xs w hx0 hx1 hbg hbw hI hl).mono (by rintro e w' ⟨h1,h2,h3,_⟩;exact⟨h1,h2,h3⟩)
theorem Qkv(b g:Nat)(x:Int)(xs:List Int)(w:World)(hx0:0≤x)(hx1:x<256)(hbg:b≤g)(hbw:b≤w.heap.size)(hI:IsBuf w b g xs)(hl:xs.length+1≤140737488355328) :
  Calls Tryz.prog 101 #[.pointer (some ⟨g,0,none⟩),.int .u8 x] w fun e w'=>e=.returned (.pointer (some ⟨g,0,none⟩))∧IsBuf w' b g (xs++[x])∧Bw b g w w':=by
 go_enter Tryz.func101,Tryz.ntmps101
 go_wp2_with (go_at_call 148;refine(Qku b g x 1 xs w hx0 (by omega) hbg hbw hI hl).mono ?_;rintro e w' ⟨rfl,hd,hb⟩)
 go_ret
 refine⟨rfl,?_,hb⟩;have e:leb x 1=[x]:=by simp[leb];omega
 rw[e]at hd;exact hd
theorem Qkw(b g:Nat)(x:Int)(xs:List Int)(w:World)(hx0:0≤x)(hx1:x<4294967296)(hbg:b≤g)(hbw:b≤w.heap.size)(hI:IsBuf w b g xs)(hl:xs.length+4≤140737488355328) :
  Calls Tryz.prog 110 #[.pointer (some ⟨g,0,none⟩),.int .u32 x] w fun e w'=>e=.returned (.pointer (some ⟨g,0,none⟩))∧IsBuf w' b g (xs++leb x 4)∧Bw b g w w'∧Ow g w w':=by
 go_enter Tryz.func110,Tryz.ntmps110
 go_wp2_with (go_at_call 148;refine(Qkt b g x 4 xs w hx0 (by omega) hbg hbw hI hl).mono ?_;rintro e w' ⟨rfl,hd,hb,ho⟩)
 go_ret
 exact⟨rfl,hd,hb,ho⟩
theorem Qkx(b g:Nat)(x:Int)(xs:List Int)(w:World)(hx0:0≤x)(hx1:x<4294967296)(hbg:b≤g)(hbw:b≤w.heap.size)(hI:IsBuf w b g xs)(hl:xs.length+4≤140737488355328) :
  Calls Tryz.prog 110 #[.pointer (some ⟨g,0,none⟩),.int .u32 x] w fun e w'=>e=.returned (.pointer (some ⟨g,0,none⟩))∧IsBuf w' b g (xs++leb x 4)∧Bw b g w w':=(Qkw b g x xs w hx0 hx1 hbg hbw hI hl).mono (by rintro e w' ⟨h1,h2,h3,_⟩;exact⟨h1,h2,h3⟩)
theorem Qky(b g:Nat)(x:Int)(xs:List Int)(w:World)(hx0:0≤x)(hx1:x<18446744073709551616)(hbg:b≤g)(hbw:b≤w.heap.size)(hI:IsBuf w b g xs)(hl:xs.length+8≤140737488355328) :
  Calls Tryz.prog 150 #[.pointer (some ⟨g,0,none⟩),.int .u64 x] w fun e w'=>e=.returned (.pointer (some ⟨g,0,none⟩))∧IsBuf w' b g (xs++leb x 8)∧Bw b g w w':=by
 go_enter Tryz.func150,Tryz.ntmps150
 go_wp2_with (go_at_call 148;refine(Qku b g x 8 xs w hx0 hx1 hbg hbw hI hl).mono ?_;rintro e w' ⟨rfl,hd,hb⟩)
 go_ret
 exact⟨rfl,hd,hb⟩
theorem Qkz(b g:Nat)(A0:Option Addr)(c0:Nat)(ys:List Int)(xs:List Int)(w:World)(hr0:Kd.C (Kd.int .u8) w A0 ys.length ys)(hbg:b≤g)(hbw:b≤w.heap.size)(hI:IsBuf w b g xs)(hl:xs.length+ys.length≤140737488355328) :
  Calls Tryz.prog 149 #[.pointer (some ⟨g,0,none⟩),.slice A0 ys.length c0] w fun e w'=>e=.returned (.pointer (some ⟨g,0,none⟩))∧IsBuf w' b g (xs++ys)∧Bw b g w w'∧Ow g w w':=by
 obtain⟨v,hv,hR⟩:=hI;have hc:w.cell? ⟨g,0,none⟩=some v:=(Qei hv 0).trans rfl
 go_enter Tryz.func149,Tryz.ntmps149
 go_wp2_with (first |(at_builtin;refine Kd.R_append_row (Value.int .u8) (0:Int) (h1:=fun _=>rfl) (w0:=w) b rfl (.tmp 9) (.tmp 10) 40 5 (.int .u8 0) 1 rfl Tryz.underlying40 Qjo rfl (by decide) v xs ys A0 ys.length c0 (fun _=>True) rfl rfl (fun _ _=>trivial) ?hO ?hR ?hB ?hS ?hL ?_;(case hO=>exact hR);(case hR=>exact hr0);(case hB=>exact Below.refl _ _);(case hS=>exact hbw);(case hL=>omega);intro v1 w1 HR1 hb1 hg1 hat1;obtain⟨A1,n1,c1,rfl⟩:=R8.shape HR1;obtain⟨hv1,hI1⟩:=IsBuf.put hv hR hg1 HR1;have hfz:=Qej hv1 0;have hc1:w1.cell? ⟨g,0,none⟩=some v:=(Qei hv1 0).trans rfl;have HI1:=QA hI1;have HO1:=QA (Ow.put (v1:=.slice A1 n1 c1) hv hg1 hv1 hat1);have HB1:=QA (Bw.put (v1:=.slice A1 n1 c1) hbg hv hR hb1 hg1);clear hI1 hb1 hg1 hat1 HR1 hv1))
 go_ret
 exact⟨rfl,HI1.out,HB1.out,HO1.out⟩
theorem Qla(b g:Nat)(A0:Option Addr)(c0:Nat)(ys:List Int)(xs:List Int)(w:World)(hr0:Kd.C (Kd.int .u8) w A0 ys.length ys)(hbg:b≤g)(hbw:b≤w.heap.size)(hI:IsBuf w b g xs)(hl:xs.length+ys.length≤140737488355328) :
  Calls Tryz.prog 149 #[.pointer (some ⟨g,0,none⟩),.slice A0 ys.length c0] w fun e w'=>e=.returned (.pointer (some ⟨g,0,none⟩))∧IsBuf w' b g (xs++ys)∧Bw b g w w':=(Qkz b g A0 c0 ys xs w hr0 hbg hbw hI hl).mono (by rintro e w' ⟨h1,h2,h3,_⟩;exact⟨h1,h2,h3⟩)
theorem Qlb(b g:Nat)(A0:Option Addr)(c0 n:Nat)(ys:List Int)(xs:List Int)(w:World)(hn:n=ys.length)(hr0:Kd.C (Kd.int .u8) w A0 n ys)(hbg:b≤g)(hbw:b≤w.heap.size)(hI:IsBuf w b g xs)(hl:xs.length+n≤140737488355328) :
  Calls Tryz.prog 149 #[.pointer (some ⟨g,0,none⟩),.slice A0 n c0] w fun e w'=>e=.returned (.pointer (some ⟨g,0,none⟩))∧IsBuf w' b g (xs++ys)∧Bw b g w w':=by
 subst hn;exact Qla b g A0 c0 ys xs w hr0 hbg hbw hI hl
theorem Qlc(b g:Nat)(xs:List Int)(w:World)(hI:IsBuf w b g xs)(hl:xs.length≤140737488355328) :
  Calls Tryz.prog 104 #[.pointer (some ⟨g,0,none⟩)] w fun e w'=>∃v:Value,e=.returned v∧R8 w' w.heap.size v xs∧Below w.heap.size w w':=by
 obtain⟨v,hv,hR⟩:=hI;obtain⟨A,c,rfl,hlc,hC⟩:=Kd.R_reads hR;have hc:w.cell? ⟨g,0,none⟩=some (.slice A xs.length c):=(Qei hv 0).trans rfl
 go_enter Tryz.func104,Tryz.ntmps104
 go_wp2_with (go_at_call 72;refine(Qks A c xs w hC hl).mono ?_;rintro e w' ⟨v1,rfl,hd,hb⟩)
 go_ret
 exact⟨_,rfl,hd,hb⟩
abbrev Q1:Int:=11400714785074694791
abbrev Q2:Int:=14029467366897019727
abbrev Q3:Int:=1609587929392839161
abbrev Q4:Int:=9650029242287828579
abbrev Q5:Int:=2870177450012600261
def IsSt(W:World)(b g:Nat)(sd v0 v1 v2 v3:Int)(rest:List Int)(n:Int):Prop :=
 ∃rv,W.heap[g]? = some (.cells #[.int .u64 sd,.int .u64 v0,.int .u64 v1,.int .u64 v2,.int .u64 v3,rv,.int .u64 n] 280 (0,0))∧R8 W b rv rest
theorem st_New(sd:Int)(w:World) :
  Calls Tryz.prog 154 #[.int .u64 sd] w fun e w'=>e=.returned (.pointer (some ⟨w.heap.size,0,none⟩))∧IsSt w' w.heap.size w.heap.size sd (IntKind.u64.wrap (IntKind.u64.wrap (sd+Q1)+Q2)) (IntKind.u64.wrap (sd+Q2)) sd (IntKind.u64.wrap (sd-Q1)) [] 0∧Below w.heap.size w w':=by
 have hu:=Tryz.underlying280;have hu2:=Tryz.underlying278
 go_enter Tryz.func154,Tryz.ntmps154
 go_wp2_with fail
 go_region
 go_wp2_with fail
 go_region
 go_wp2_with fail
 go_region
 go_wp2_with fail
 go_region
 go_wp2_with fail
 go_ret
 refine⟨rfl,⟨_,Qey w _,Kd.R_nil _ _ _ _ _⟩,Qdk (Qdk (Qdk (Qdk (Qdj (Below.refl _ _) _))))⟩
def rotP(x n:Int):Int:=(Qad.f x n).getD 0
theorem Qld(x n:Int)(h:0≤n∧n<64∧Go.bits .and .u64 (IntKind.u64.wrap n) 63=n):Qad.f x n=some (rotP x n):=by
 unfold rotP Qad.f;rw[h.2.2,if_pos h.1,if_pos (by rw[IntWalk.u64_in _ (by omega)];omega)];rfl
def Qle(x y:Int):Int:=(Qdg.f x y).getD 0
theorem into_is(x y:Int):Qdg.f x y=some (Qle x y):=by
 unfold Qle Qdg.f;rw[Qld _ 31 ⟨by decide,by decide,by kernel_rfl⟩];rfl
def numP(n:Nat)(l:List Int):Int:=(Qdh.f (n+1) l n).getD 0
theorem num8_is(l:List Int)(h:8≤l.length):Qdh.f 9 l 8=some (numP 8 l):=by
 obtain⟨v,hv⟩:∃v,Qdh.f 9 l 8=some v:=by
  simp[Qdh.f,Qdh.l0,show(1:Int)<l.length by omega,show(2:Int)<l.length by omega,show(3:Int)<l.length by omega,show(4:Int)<l.length by omega,show(5:Int)<l.length by omega,show(6:Int)<l.length by omega,show(7:Int)<l.length by omega,show(0:Int)<l.length by omega,wrap64];omega
 unfold numP;rw[show(8:Nat)+1=9 from rfl,show(((8:Nat):Int))=8 from rfl,hv];rfl
theorem num4_is(l:List Int)(h:4≤l.length):Qdh.f 5 l 4=some (numP 4 l):=by
 obtain⟨v,hv⟩:∃v,Qdh.f 5 l 4=some v:=by
  simp[Qdh.f,Qdh.l0,show(1:Int)<l.length by omega,show(2:Int)<l.length by omega,show(3:Int)<l.length by omega,show(0:Int)<l.length by omega,wrap64];omega
 unfold numP;rw[show(4:Nat)+1=5 from rfl,show(((4:Nat):Int))=4 from rfl,hv];rfl
abbrev V4:=Int × Int × Int × Int
def Qlf(v:V4)(l:List Int):V4:=(Qle v.1 (numP 8 l),Qle v.2.1 (numP 8 (l.drop 8)),Qle v.2.2.1 (numP 8 (l.drop 16)),Qle v.2.2.2 (numP 8 (l.drop 24)))
def Qlg:Nat→V4→List Int→V4
 | 0,v,_=>v
 | m+1,v,l=>Qlg m (Qlf v l) (l.drop 32)
def lenV:Value→Nat
 | .slice _ n _=>n
 | _=>0
def Qlh(i:Nat)(v:V4)(l:List Int):V4:=(if 0<i then Qle v.1 (numP 8 l)else v.1,if 1<i then Qle v.2.1 (numP 8 (l.drop 8))else v.2.1,if 2<i then Qle v.2.2.1 (numP 8 (l.drop 16))else v.2.2.1,if 3<i then Qle v.2.2.2 (numP 8 (l.drop 24))else v.2.2.2)
def StAt(W:World)(g:Nat)(sd:Int)(v:V4)(rv:Value)(n:Int):Prop:=W.heap[g]? = some (.cells #[.int .u64 sd,.int .u64 v.1,.int .u64 v.2.1,.int .u64 v.2.2.1,.int .u64 v.2.2.2,rv,.int .u64 n] 280 (0,0))
abbrev Q8(W:World)(b:Nat)(v:Value)(xs:List Int):Prop:=Kd.Q (Kd.int .u8) 5 W b (fun _=>True) v xs
theorem Qli(A:Option Addr)(n c m:Nat)(j:Int)(hj:j=(m:Int))(hm:m≤n) :
  ∃A':Option Addr,(∀W:World,(Instr.slice 40 (.slice A n c) (some (.int .i64 j)) none none).run Tryz.prog W=.ok (.slice A' (n-m) (c-m)) W) ∧
   ∀(W:World) (b:Nat) (xs:List Int),xs.length=n→Q8 W b (.slice A n c) xs→Q8 W b (.slice A' (n-m) (c-m)) (xs.drop m):=by
 subst hj;obtain⟨i,hi,hsz⟩:∃i,Tryz.prog.info? 5=some i∧i.size=1:=by
  have h:=Qjo
  cases hh:Tryz.prog.info? 5 with
  | none=>rw[hh]at h;cases h
  | some i =>
   rw[hh]at h;simp only[Option.map_some,Option.some.injEq,Prod.mk.injEq]at h;exact⟨i,rfl,h.2.1⟩
 refine⟨if c=m then A else A.map (·.add (m*1)),fun W=>?_,fun W b xs hn hq=>?_⟩
 ·have h:=Qfk (P:=Tryz.prog) 40 5 .i64 Tryz.underlying40 hi 1 hsz A n c (m:Int) (by omega) (by omega) W;rw[Int.toNat_natCast]at h;exact h
 ·exact Kd.Q_drop hq (by omega)
theorem Qlj{W:World}{b:Nat}{A:Option Addr}{n c:Nat}{l:List Int}(hQ:Q8 W b (.slice A n c) l)(h8:8≤l.length) :
  Calls Tryz.prog 199 #[.slice A n c,.int .i64 8] W fun e w'=>e=.returned (.int .u64 (numP 8 l))∧Drawn0 W w':=by
 obtain⟨rfl,h1,h2⟩:=Kd.Q_reads' hQ;exact Qdh.calls 9 A c l 8 _ W h2 h1 (num8_is l h8)
theorem num4_at{W:World}{b:Nat}{A:Option Addr}{n c:Nat}{l:List Int}(hQ:Q8 W b (.slice A n c) l)(h8:4≤l.length) :
  Calls Tryz.prog 199 #[.slice A n c,.int .i64 4] W fun e w'=>e=.returned (.int .u64 (numP 4 l))∧Drawn0 W w':=by
 obtain⟨rfl,h1,h2⟩:=Kd.Q_reads' hQ;exact Qdh.calls 5 A c l 4 _ W h2 h1 (num4_is l h8)
theorem Qlk(x y:Int)(W:World):Calls Tryz.prog 198 #[.int .u64 x,.int .u64 y] W fun e w'=>e=.returned (.int .u64 (Qle x y))∧Drawn0 W w':=Qdg.calls x y _ W (into_is x y)
theorem Qll(n:Nat)(hn:n≤64):∀(d i:Nat) (x:Int),i+d=n→∃r,Qbn.l0 (d+1) x (n:Int) (i:Int)=some r
 | 0,i,x,h=>by
  refine⟨x,?_⟩;unfold Qbn.l0;rw[if_neg (by omega)]
 | d+1,i,x,h=>by
  obtain⟨r,hr⟩:=Qll n hn d (i+1) (IntKind.u64.wrap ((IntKind.u64.wrap (2*x))+(IntKind.u64.wrap (Int.tdiv x 9223372036854775808)))) (by omega);refine⟨r,?_⟩;unfold Qbn.l0;rw[if_pos (by omega),show wrap64 ((i:Int)+1)=((i+1:Nat):Int)by unfold wrap64;omega];exact hr
def Qlm(x:Int)(n:Nat):Int:=(Qbn.f (n+1) x n).getD 0
theorem Qln(x:Int)(n:Nat)(hn:n≤64):Qbn.f (n+1) x n=some (Qlm x n):=by
 obtain⟨r,hr⟩:=Qll n hn n 0 x (by omega);have h:Qbn.f (n+1) x n=some r:=hr;unfold Qlm;rw[h];rfl
def Qlo(x y:Int):Int:=(Qbl.f 32 x y).getD 0
theorem Qlp(x y:Int):Qbl.f 32 x y=some (Qlo x y):=by
 unfold Qlo Qbl.f;rw[show(32:Nat)=31+1 from rfl,show(31:Int)=((31:Nat):Int) from rfl,Qln _ 31 (by omega)];rfl
theorem Qlq(s:ByteArray)(hs:s.size≤1000):∀(d:Nat) (x:Int),d≤s.size→∃r,Qbg.l0 (d+1) s x ((d:Int)-1)=some r
 | 0,x,h=>by
  refine⟨x,?_⟩;unfold Qbg.l0;rw[if_neg (by omega)]
 | d+1,x,h=>by
  obtain⟨r,hr⟩:=Qlq s hs d (IntKind.u64.wrap ((IntKind.u64.wrap (x*256))+(IntKind.u64.wrap (bt s (d:Int))))) (by omega);refine⟨r,?_⟩;unfold Qbg.l0;rw[show((d+1:Nat):Int)-1=(d:Int)by omega,if_pos (by omega),if_pos (by omega),if_pos (by omega),show wrap64 ((d:Int)-1)=(d:Int)-1 by unfold wrap64;omega];exact hr
def rval(s:ByteArray):Int:=(Qbg.f (s.size+1) s).getD 0
theorem Qlr(s:ByteArray)(hs:s.size≤1000):Qbg.f (s.size+1) s=some (rval s):=by
 obtain⟨r,hr⟩:=Qlq s hs s.size 0 (Nat.le_refl _);have h:Qbg.f (s.size+1) s=some r:=by
  unfold Qbg.f;rw[show wrap64 ((s.size:Int)-1)=(s.size:Int)-1 by unfold wrap64;omega];exact hr
 unfold rval;rw[h];rfl
def Qls(v:V4)(s:ByteArray):V4:=(Qlo v.1 (rval (s.extract 0 8)),Qlo v.2.1 (rval (s.extract 8 16)),Qlo v.2.2.1 (rval (s.extract 16 24)),Qlo v.2.2.2 (rval (s.extract 24 32)))
def rrun:Nat→V4→ByteArray→V4 × ByteArray
 | 0,v,s=>(v,s)
 | m+1,v,s=>rrun m (Qls v s) (s.extract 32 s.size)
def rsum(V:V4):Int:=IntKind.u64.wrap (IntKind.u64.wrap (IntKind.u64.wrap (Qlm V.1 1+Qlm V.2.1 7)+Qlm V.2.2.1 12)+Qlm V.2.2.2 18)
def Qlt(h x:Int):Int:=IntKind.u64.wrap (IntKind.u64.wrap (Go.bits .xor .u64 h (Qlo 0 x)*Q1)+Q4)
def rmix(h:Int)(V:V4):Int:=Qlt (Qlt (Qlt (Qlt h V.1) V.2.1) V.2.2.1) V.2.2.2
def Qlu(sd:Int):V4:=(IntKind.u64.wrap (IntKind.u64.wrap (sd+Q1)+Q2),IntKind.u64.wrap (sd+Q2),sd,IntKind.u64.wrap (sd-Q1))
def Qbk.f(a0:Int)(a1:ByteArray):Option (Int × ByteArray) :=
 if a1.size≤9223372036854775807 then some (rmix (rsum (rrun (a1.size/32) (Qlu a0) a1).1) (rrun (a1.size/32) (Qlu a0) a1).1,(rrun (a1.size/32) (Qlu a0) a1).2)else none
def rmixTo(i:Nat)(h:Int)(V:V4):Int:=match i with
 | 0=>h
 | 1=>Qlt h V.1
 | 2=>Qlt (Qlt h V.1) V.2.1
 | 3=>Qlt (Qlt (Qlt h V.1) V.2.1) V.2.2.1
 | _=>rmix h V
def VAt(W:World)(g:Nat)(V:V4):Prop:=W.heap[g]? = some (.cells #[.int .u64 V.1,.int .u64 V.2.1,.int .u64 V.2.2.1,.int .u64 V.2.2.2] 278 (0,0))
def Qlv:Value→Nat
 | .string s=>s.size
 | _=>0
def Qlw(i:Nat)(v:V4)(s:ByteArray):V4:=(if 0<i then Qlo v.1 (rval (s.extract 0 8))else v.1,if 1<i then Qlo v.2.1 (rval (s.extract 8 16))else v.2.1,if 2<i then Qlo v.2.2.1 (rval (s.extract 16 24))else v.2.2.1,if 3<i then Qlo v.2.2.2 (rval (s.extract 24 32))else v.2.2.2)
theorem Qlx(s:ByteArray)(hs:s.size≤1000)(W:World):Calls Tryz.prog 186 #[.string s] W fun e w'=>e=.returned (.int .u64 (rval s))∧Drawn0 W w':=Qbg.calls _ s _ W (Qlr s hs)
theorem Qly(x y:Int)(W:World):Calls Tryz.prog 191 #[.int .u64 x,.int .u64 y] W fun e w'=>e=.returned (.int .u64 (Qlo x y))∧Drawn0 W w':=Qbl.calls _ x y _ W (Qlp x y)
theorem Qlz(x:Int)(n:Nat)(j:Int)(hj:j=(n:Int))(hn:n≤64)(W:World):Calls Tryz.prog 192 #[.int .u64 x,.int .i64 j] W fun e w'=>e=.returned (.int .u64 (Qlm x n))∧Drawn0 W w':=by
 subst hj;exact Qbn.calls _ x n _ W (Qln x n hn)
theorem Qma(s:ByteArray)(a b:Nat):(s.extract a b).size≤b-a:=by
 rw[ByteArray.size_extract];omega
theorem Qmb(sd:Int)(s0:ByteArray)(w:World)(hs:s0.size≤9223372036854775807) :
  Calls Tryz.prog 190 #[.int .u64 sd,.string s0] w fun e w'=>e=.returned (.tuple #[.int .u64 (rmix (rsum (rrun (s0.size/32) (Qlu sd) s0).1) (rrun (s0.size/32) (Qlu sd) s0).1),.string (rrun (s0.size/32) (Qlu sd) s0).2])∧Below w.heap.size w w':=by
 have hu2:=Tryz.underlying278
 go_enter Tryz.func190,Tryz.ntmps190
 go_wp2_with fail
 obtain⟨g,hg⟩:∃g,g=w.heap.size:=⟨_,rfl⟩;obtain⟨V0,hV0⟩:∃V0,V0=Qlu sd:=⟨_,rfl⟩;obtain⟨W,hW⟩:∃W,W=w.alloc (.cells #[.int .u64 (IntKind.u64.wrap (IntKind.u64.wrap (sd+11400714785074694791)+14029467366897019727)),.int .u64 (IntKind.u64.wrap (sd+14029467366897019727)),.int .u64 sd,.int .u64 (IntKind.u64.wrap (sd-11400714785074694791))] 278):=⟨_,rfl⟩;have HV0:=QA (show VAt W g V0 by rw[hW,hg,hV0];exact Qey w _);have HW0:=QA (show Below w.heap.size w W by rw[hW];exact Qdj (Below.refl _ _) _);rw[← hW,← hg];have HG:=QA hg;have HVV:=QA hV0;clear hW hg hV0
 go_loopw [1,9,29] (fun v1 v9 a wr=>∃(m:Nat) (s:ByteArray) (V:V4),v1=.string s∧s.size≤s0.size∧Aside0 (s.size/32=m∧rrun (s0.size/32) V0 s0=rrun m V s)∧Aside0 (VAt wr g V)∧Aside0 (Below w.heap.size w wr))
  (fun v1 _ _ _=>Qlv v1)
 case atStart=>exact⟨_,s0,V0,rfl,Nat.le_refl _,⟨rfl,rfl⟩,HV0,HW0⟩
 case round =>
  clear HV0 HW0;obtain⟨m,s,V,rfl,hss,HM,HV,HB⟩:=hrel
  by_cases k:32≤s.size
  ·have d:(32:Int)≤(s.size:Int):=by omega
   go_wp2_with fail
   go_loopw [9,29] (fun v9 a wi=>∃(i:Nat) (iv:Int),i≤4∧a=.int .i64 iv∧Aside0 (iv=(i:Int))∧Aside0 (VAt wi g (Qlw i V s))∧Aside0 (Below w.heap.size w wi))
    (fun _ a _=>4-(intOf a).toNat)
   case atStart=>exact⟨0,0,by omega,rfl,⟨rfl⟩,HV,HB⟩
   case round =>
    clear HV HB;obtain⟨i,iv,hi,rfl,HI,HV,HB⟩:=hrel
    by_cases h4:i<4
    ·have hk:i=0∨i=1∨i=2∨i=3:=by omega
     rcases hk with rfl|rfl|rfl|rfl
     ·obtain rfl:iv=0:=HI.out;have cv:wr.cell? ⟨g,0,none⟩=some (.int .u64 V.1):=(Qei HV.out 0).trans rfl;have fv:=Qej HV.out 0
      go_wp2_with fail
      have hw0:IntKind.i64.wrap 0=0:=IntWalk.i64_in 0 (by decide);have hw1:IntKind.i64.wrap 8=8:=IntWalk.i64_in 8 (by decide);have hsz:(8:Int)≤(s.size:Int):=by omega
      have hx:(s.extract 0 8).size≤1000:=Nat.le_trans (Qma s 0 8) (by decide)
      go_region_with (first |(go_at_call 186;refine(Qlx (s.extract 0 8) hx _).mono ?_;rintro e w7 ⟨rfl,hd⟩;obtain⟨q,rfl⟩:=hd.out;clear hd) |(go_at_call 191;refine(Qly _ _ _).mono ?_;rintro e w8 ⟨rfl,hd⟩;obtain⟨q2,rfl⟩:=hd.out;clear hd))
      all_goals
       go_wp2_with fail
       go_roundw
       case rel=>exact⟨1,1,by omega,by go_num,⟨rfl⟩,⟨Qef (w:=wr.drewN _) HV.out 0 _⟩,⟨Qkq (Qdl HB.out _) (by rw[HG.out];exact Nat.le_refl _)⟩⟩
       case measure=>simp[intOf]
     ·obtain rfl:iv=1:=HI.out;have cv:wr.cell? ⟨g,1,none⟩=some (.int .u64 V.2.1):=(Qei HV.out 1).trans rfl;have fv:=Qej HV.out 1
      go_wp2_with fail
      have hw0:IntKind.i64.wrap 8=8:=IntWalk.i64_in 8 (by decide);have hw1:IntKind.i64.wrap 16=16:=IntWalk.i64_in 16 (by decide);have hsz:(16:Int)≤(s.size:Int):=by omega
      have hx:(s.extract 8 16).size≤1000:=Nat.le_trans (Qma s 8 16) (by decide)
      go_region_with (first |(go_at_call 186;refine(Qlx (s.extract 8 16) hx _).mono ?_;rintro e w7 ⟨rfl,hd⟩;obtain⟨q,rfl⟩:=hd.out;clear hd) |(go_at_call 191;refine(Qly _ _ _).mono ?_;rintro e w8 ⟨rfl,hd⟩;obtain⟨q2,rfl⟩:=hd.out;clear hd))
      all_goals
       go_wp2_with fail
       go_roundw
       case rel=>exact⟨2,2,by omega,by go_num,⟨rfl⟩,⟨Qef (w:=wr.drewN _) HV.out 1 _⟩,⟨Qkq (Qdl HB.out _) (by rw[HG.out];exact Nat.le_refl _)⟩⟩
       case measure=>simp[intOf]
     ·obtain rfl:iv=2:=HI.out;have cv:wr.cell? ⟨g,2,none⟩=some (.int .u64 V.2.2.1):=(Qei HV.out 2).trans rfl;have fv:=Qej HV.out 2
      go_wp2_with fail
      have hw0:IntKind.i64.wrap 16=16:=IntWalk.i64_in 16 (by decide);have hw1:IntKind.i64.wrap 24=24:=IntWalk.i64_in 24 (by decide);have hsz:(24:Int)≤(s.size:Int):=by omega
      have hx:(s.extract 16 24).size≤1000:=Nat.le_trans (Qma s 16 24) (by decide)
      go_region_with (first |(go_at_call 186;refine(Qlx (s.extract 16 24) hx _).mono ?_;rintro e w7 ⟨rfl,hd⟩;obtain⟨q,rfl⟩:=hd.out;clear hd) |(go_at_call 191;refine(Qly _ _ _).mono ?_;rintro e w8 ⟨rfl,hd⟩;obtain⟨q2,rfl⟩:=hd.out;clear hd))
      all_goals
       go_wp2_with fail
       go_roundw
       case rel=>exact⟨3,3,by omega,by go_num,⟨rfl⟩,⟨Qef (w:=wr.drewN _) HV.out 2 _⟩,⟨Qkq (Qdl HB.out _) (by rw[HG.out];exact Nat.le_refl _)⟩⟩
       case measure=>simp[intOf]
     ·obtain rfl:iv=3:=HI.out;have cv:wr.cell? ⟨g,3,none⟩=some (.int .u64 V.2.2.2):=(Qei HV.out 3).trans rfl;have fv:=Qej HV.out 3
      go_wp2_with fail
      have hw0:IntKind.i64.wrap 24=24:=IntWalk.i64_in 24 (by decide);have hw1:IntKind.i64.wrap 32=32:=IntWalk.i64_in 32 (by decide);have hsz:(32:Int)≤(s.size:Int):=by omega
      have hx:(s.extract 24 32).size≤1000:=Nat.le_trans (Qma s 24 32) (by decide)
      go_region_with (first |(go_at_call 186;refine(Qlx (s.extract 24 32) hx _).mono ?_;rintro e w7 ⟨rfl,hd⟩;obtain⟨q,rfl⟩:=hd.out;clear hd) |(go_at_call 191;refine(Qly _ _ _).mono ?_;rintro e w8 ⟨rfl,hd⟩;obtain⟨q2,rfl⟩:=hd.out;clear hd))
      all_goals
       go_wp2_with fail
       go_roundw
       case rel=>exact⟨4,4,by omega,by go_num,⟨rfl⟩,⟨Qef (w:=wr.drewN _) HV.out 3 _⟩,⟨Qkq (Qdl HB.out _) (by rw[HG.out];exact Nat.le_refl _)⟩⟩
       case measure=>simp[intOf]
    ·obtain rfl:i=4:=by omega
     obtain rfl:iv=4:=HI.out
     go_wp2_with fail
     go_roundw
     case rel =>
      have e4:Qlw 4 V s=Qls V s:=rfl;have hm:=HM.out;have hd:(s.extract 32 s.size).size=s.size-32:=by rw[ByteArray.size_extract];omega
      refine⟨m-1,s.extract 32 s.size,Qls V s,rfl,by rw[hd];omega,⟨by rw[hd];omega,?_⟩,⟨?_⟩,HB⟩
      ·rw[hm.2,show m=(m-1)+1 by omega];rfl
      ·exact HV.out
     case measure=>simp[Qlv];omega
  ·have d:(s.size:Int)<32:=by omega
   go_wp2_with fail
   have c0:wr.cell? ⟨g,0,none⟩=some (.int .u64 V.1):=(Qei HV.out 0).trans rfl;have c1:wr.cell? ⟨g,1,none⟩=some (.int .u64 V.2.1):=(Qei HV.out 1).trans rfl;have c2:wr.cell? ⟨g,2,none⟩=some (.int .u64 V.2.2.1):=(Qei HV.out 2).trans rfl;have c3:wr.cell? ⟨g,3,none⟩=some (.int .u64 V.2.2.2):=(Qei HV.out 3).trans rfl
   go_region_held3 (fun w'=>w'.cell? ⟨g,0,none⟩=some (.int .u64 V.1)∧w'.cell? ⟨g,1,none⟩=some (.int .u64 V.2.1)∧w'.cell? ⟨g,2,none⟩=some (.int .u64 V.2.2.1)∧w'.cell? ⟨g,3,none⟩=some (.int .u64 V.2.2.2)) (go_keep) (first
    |(go_at_call_of 192 (Value.int .i64 1);refine(Qlz V.1 1 1 rfl (by decide) _).mono ?_;rintro e w7 ⟨rfl,hd⟩;obtain⟨q1,rfl⟩:=hd.out;clear hd)
    |(go_at_call_of 192 (Value.int .i64 7);refine(Qlz V.2.1 7 7 rfl (by decide) _).mono ?_;rintro e w7 ⟨rfl,hd⟩;obtain⟨q2,rfl⟩:=hd.out;clear hd)
    |(go_at_call_of 192 (Value.int .i64 12);refine(Qlz V.2.2.1 12 12 rfl (by decide) _).mono ?_;rintro e w7 ⟨rfl,hd⟩;obtain⟨q3,rfl⟩:=hd.out;clear hd)
    |(go_at_call_of 192 (Value.int .i64 18);refine(Qlz V.2.2.2 18 18 rfl (by decide) _).mono ?_;rintro e w7 ⟨rfl,hd⟩;obtain⟨q4,rfl⟩:=hd.out;clear hd))
   obtain⟨W2,hW2⟩:∃W2,W2=wr.drewN (1+q1+q2+q3+q4):=⟨_,rfl⟩;have HV2:=QA (show VAt W2 g V by rw[hW2];exact HV.out);have c:=QA (show Below w.heap.size w W2 by rw[hW2];exact Qdl HB.out _);rw[← hW2];clear hW2 c0 c1 c2 c3 HV HB;have hm0:m=0:=by have:=HM.out.1;omega
   go_wp2_with fail
   go_loopw [10,11,64] (fun j l b wi=>∃(i:Nat) (iv h:Int),i≤4∧b=.int .i64 iv∧j=.int .u64 h∧Aside0 (iv=(i:Int))∧Aside0 (h=rmixTo i (rsum V) V)∧Aside0 (VAt wi g V)∧Aside0 (Below w.heap.size w wi))
    (fun _ _ b _=>4-(intOf b).toNat)
   case atStart=>exact⟨0,0,_,by omega,rfl,rfl,⟨rfl⟩,⟨rfl⟩,HV2,c⟩
   case round =>
    clear HV2 c;obtain⟨i,iv,h,hi,rfl,rfl,HI,HH,HV,HB⟩:=hrel
    by_cases h4:i<4
    ·have hk:i=0∨i=1∨i=2∨i=3:=by omega
     rcases hk with rfl|rfl|rfl|rfl
     ·obtain rfl:iv=0:=HI.out;have cv:wr.cell? ⟨g,0,none⟩=some (.int .u64 V.1):=(Qei HV.out 0).trans rfl
      go_wp2_with (go_at_call 191;refine(Qly _ _ _).mono ?_;rintro e w8 ⟨rfl,hd⟩;obtain⟨q9,rfl⟩:=hd.out;clear hd)
      go_roundw
      case rel=>exact⟨1,1,Qlt h V.1,by omega,by go_num,rfl,⟨rfl⟩,⟨by rw[HH.out];rfl⟩,⟨HV.out⟩,⟨Qdl HB.out _⟩⟩
      case measure=>simp[intOf]
     ·obtain rfl:iv=1:=HI.out;have cv:wr.cell? ⟨g,1,none⟩=some (.int .u64 V.2.1):=(Qei HV.out 1).trans rfl
      go_wp2_with (go_at_call 191;refine(Qly _ _ _).mono ?_;rintro e w8 ⟨rfl,hd⟩;obtain⟨q9,rfl⟩:=hd.out;clear hd)
      go_roundw
      case rel=>exact⟨2,2,Qlt h V.2.1,by omega,by go_num,rfl,⟨rfl⟩,⟨by rw[HH.out];rfl⟩,⟨HV.out⟩,⟨Qdl HB.out _⟩⟩
      case measure=>simp[intOf]
     ·obtain rfl:iv=2:=HI.out;have cv:wr.cell? ⟨g,2,none⟩=some (.int .u64 V.2.2.1):=(Qei HV.out 2).trans rfl
      go_wp2_with (go_at_call 191;refine(Qly _ _ _).mono ?_;rintro e w8 ⟨rfl,hd⟩;obtain⟨q9,rfl⟩:=hd.out;clear hd)
      go_roundw
      case rel=>exact⟨3,3,Qlt h V.2.2.1,by omega,by go_num,rfl,⟨rfl⟩,⟨by rw[HH.out];rfl⟩,⟨HV.out⟩,⟨Qdl HB.out _⟩⟩
      case measure=>simp[intOf]
     ·obtain rfl:iv=3:=HI.out;have cv:wr.cell? ⟨g,3,none⟩=some (.int .u64 V.2.2.2):=(Qei HV.out 3).trans rfl
      go_wp2_with (go_at_call 191;refine(Qly _ _ _).mono ?_;rintro e w8 ⟨rfl,hd⟩;obtain⟨q9,rfl⟩:=hd.out;clear hd)
      go_roundw
      case rel=>exact⟨4,4,Qlt h V.2.2.2,by omega,by go_num,rfl,⟨rfl⟩,⟨by rw[HH.out];rfl⟩,⟨HV.out⟩,⟨Qdl HB.out _⟩⟩
      case measure=>simp[intOf]
    ·obtain rfl:i=4:=by omega
     obtain rfl:iv=4:=HI.out
     go_wp2_with fail
     refine bodyPost_ret (results_tmp2 rfl _ _ _) rfl ?_;refine⟨?_,HB.out⟩;have e5:=HM.out.2;rw[hm0]at e5;have e6:rrun (s0.size/32) (Qlu sd) s0=(V,s):=by rw[← HVV.out];exact e5
     rw[e6,HH.out];rfl
theorem Qbk.calls(a0:Int)(a1:ByteArray)(r1:Int)(r2:ByteArray)(w:World)(h:Qbk.f a0 a1=some (r1,r2)) :
  Calls Tryz.prog 190 #[.int .u64 a0,.string a1] w fun e w'=>e=.returned (.tuple #[.int .u64 r1,.string r2])∧Below w.heap.size w w':=by
 unfold Qbk.f at h;split at h
 ·rename_i hs;simp only[Option.some.injEq,Prod.mk.injEq]at h;obtain⟨rfl,rfl⟩:=h;exact Qmb a0 a1 w hs
 ·cases h
def ixOf(l:List Int)(c:Int):Int:=Lib.indexByte (Lib.bytesOf l) c.toNat.toUInt8
def Qag.f(l0:List Int)(a1:Int):Option Int:=some (ixOf l0 a1)
theorem Qag.calls(A0:Option Addr)(c0:Nat)(l0:List Int)(a1:Int)(r:Int)(w:World)(hr0:Kd.C (Kd.int .u8) w A0 l0.length l0)(hc0:l0.length≤c0)(h:Qag.f l0 a1=some r) :
  Calls Tryz.prog 68 #[.slice A0 l0.length c0,.int .u8 a1] w fun e w'=>e=.returned (.int .i64 r)∧Drawn0 w w':=by
 unfold Qag.f at h
 cases h
 have hcall:(callFunc 119 #[.slice A0 l0.length c0,.int .u8 a1]).run Tryz.prog w=.ok (.value (.int .i64 (ixOf l0 a1))) w:=by
  rw[run_callFunc_extern Tryz.func119 qq_6 qq_6 qq_6 (e:=Extern.BytealgIndexByte.indexByte) qq_6]
  cases A0 with
  | none =>
   obtain rfl:l0=[]:=by
    cases l0 with
    | nil=>rfl
    | cons a t=>obtain⟨ad,c,h1,_⟩:=Kd.C_get hr0 0 0 (by omega) (by simp);cases h1
   rw[Lib.run_indexByteNil];rfl
  | some ad =>
   rw[Lib.run_indexByteAt w ad l0.length c0 l0 rfl (fun i hi=>?_)]
   ·rfl
   ·obtain⟨a,ha,hx⟩:=Kd.at_int hr0 (i:Int) (by omega) (by omega)
    cases ha
    simpa [rd]using hx
 go_enter Tryz.func68,Tryz.ntmps68
 go_wp2;go_ret
 exact⟨rfl,Drawn0.refl _⟩
def mixP(h x:Int):Int:=IntKind.u64.wrap (IntKind.u64.wrap (Go.bits .xor .u64 h (Qle 0 x)*Q1)+Q4)
def Qnc(i:Nat)(V:V4):Int :=
 let h1:=IntKind.u64.wrap (0+rotP V.1 1)
 let h2:=IntKind.u64.wrap (h1+rotP V.2.1 7)
 let h3:=IntKind.u64.wrap (h2+rotP V.2.2.1 12)
 let h4:=IntKind.u64.wrap (h3+rotP V.2.2.2 18)
 if i=0 then 0 else if i=1 then h1 else if i=2 then h2 else if i=3 then h3 else h4
def Qnd(i:Nat)(h:Int)(V:V4):Int :=
 let h1:=mixP h V.1
 let h2:=mixP h1 V.2.1
 let h3:=mixP h2 V.2.2.1
 let h4:=mixP h3 V.2.2.2
 if i=0 then h else if i=1 then h1 else if i=2 then h2 else if i=3 then h3 else h4
theorem Qne(V:V4):Qnc 0 V=0:=by simp[Qnc]
theorem Qnf(V:V4):Qnc 1 V=IntKind.u64.wrap (Qnc 0 V+rotP V.1 1):=by simp[Qnc]
theorem Qng(V:V4):Qnc 2 V=IntKind.u64.wrap (Qnc 1 V+rotP V.2.1 7):=by simp[Qnc]
theorem Qnh(V:V4):Qnc 3 V=IntKind.u64.wrap (Qnc 2 V+rotP V.2.2.1 12):=by simp[Qnc]
theorem Qni(V:V4):Qnc 4 V=IntKind.u64.wrap (Qnc 3 V+rotP V.2.2.2 18):=by simp[Qnc]
theorem Qnj(h:Int)(V:V4):Qnd 0 h V=h:=by simp[Qnd]
theorem Qnk(h:Int)(V:V4):Qnd 1 h V=mixP (Qnd 0 h V) V.1:=by simp[Qnd]
theorem Qnl(h:Int)(V:V4):Qnd 2 h V=mixP (Qnd 1 h V) V.2.1:=by simp[Qnd]
theorem Qnm(h:Int)(V:V4):Qnd 3 h V=mixP (Qnd 2 h V) V.2.2.1:=by simp[Qnd]
theorem Qnn(h:Int)(V:V4):Qnd 4 h V=mixP (Qnd 3 h V) V.2.2.2:=by simp[Qnd]
def Qno(sd:Int)(V:V4)(n:Int):Int:=if n<32 then IntKind.u64.wrap (sd+Q5)else Qnd 4 (Qnc 4 V) V
theorem Qnp(x n:Int)(h:0≤n∧n<64∧Go.bits .and .u64 (IntKind.u64.wrap n) 63=n)(W:World):Calls Tryz.prog 201 #[.int .u64 x,.int .i64 n] W fun e w'=>e=.returned (.int .u64 (rotP x n))∧Drawn0 W w':=Qad.calls x n _ W (Qld x n h)
theorem StAt.kept{W W':World}{g:Nat}{sd:Int}{V:V4}{rv:Value}{n:Int}(h:StAt W g sd V rv n)(hb:Below W.heap.size W W'):StAt W' g sd V rv n:=Qex h hb
theorem StAt.cells{W:World}{g:Nat}{sd:Int}{V:V4}{rv:Value}{n:Int}(h:StAt W g sd V rv n) :
  W.cell? ⟨g,0,none⟩=some (.int .u64 sd)∧W.cell? ⟨g,1,none⟩=some (.int .u64 V.1)∧W.cell? ⟨g,2,none⟩=some (.int .u64 V.2.1)∧W.cell? ⟨g,3,none⟩=some (.int .u64 V.2.2.1)∧W.cell? ⟨g,4,none⟩=some (.int .u64 V.2.2.2)∧W.cell? ⟨g,5,none⟩=some rv∧W.cell? ⟨g,6,none⟩=some (.int .u64 n) :=
 ⟨(Qei h 0).trans rfl,(Qei h 1).trans rfl,(Qei h 2).trans rfl,(Qei h 3).trans rfl,(Qei h 4).trans rfl,(Qei h 5).trans rfl,(Qei h 6).trans rfl⟩
theorem Qnq(x0 x1 x2 x3:Int)(W:World):(∀k,k=0→(Instr.index 278 (.agg #[.int .u64 x0,.int .u64 x1,.int .u64 x2,.int .u64 x3]) (.int .i64 k)).run Tryz.prog W=.ok (.int .u64 x0) W) ∧
  (∀k,k=1→(Instr.index 278 (.agg #[.int .u64 x0,.int .u64 x1,.int .u64 x2,.int .u64 x3]) (.int .i64 k)).run Tryz.prog W=.ok (.int .u64 x1) W) ∧
  (∀k,k=2→(Instr.index 278 (.agg #[.int .u64 x0,.int .u64 x1,.int .u64 x2,.int .u64 x3]) (.int .i64 k)).run Tryz.prog W=.ok (.int .u64 x2) W) ∧
  (∀k,k=3→(Instr.index 278 (.agg #[.int .u64 x0,.int .u64 x1,.int .u64 x2,.int .u64 x3]) (.int .i64 k)).run Tryz.prog W=.ok (.int .u64 x3) W):=by
 refine⟨?_,?_,?_,?_⟩<;>rintro k rfl<;>simp[Instr.index,run_underlying Tryz.underlying278,asIntOf,go_sem]
theorem Qnr(g:Nat)(sd:Int)(V:V4)(rv:Value)(n:Int)(w:World)(hv:StAt w g sd V rv n) :
  Calls Tryz.prog 200 #[.pointer (some ⟨g,0,none⟩)] w fun e w'=>e=.returned (.int .u64 (Qno sd V n))∧Below w.heap.size w w':=by
 have hu:=Tryz.underlying280;have hu2:=Tryz.underlying278;have HV:=QA hv;obtain⟨c0,c1,c2,c3,c4,c5,c6⟩:=StAt.cells hv;clear hv
 by_cases c:n<32
 ·go_enter Tryz.func200,Tryz.ntmps200
  go_wp2_with fail
  go_ret
  exact⟨by simp[Qno,c],Below.refl _ _⟩
 ·have d:32≤n:=by omega
  go_enter Tryz.func200,Tryz.ntmps200
  go_wp2_with fail
  obtain⟨B,hB⟩:∃B,B=w.heap.size:=⟨_,rfl⟩;obtain⟨W,hW⟩:∃W,W=w.alloc (.cells #[.int .i64 1,.int .i64 7,.int .i64 12,.int .i64 18] 3):=⟨_,rfl⟩;have hBlk:W.heap[B]? = some (.cells #[.int .i64 1,.int .i64 7,.int .i64 12,.int .i64 18] 3 (0,0)):=by rw[hW,hB];exact Qey w _
  have HBK:=QA hBlk;have HVW:=QA (show StAt W g sd V rv n by rw[hW];exact HV.out.kept (Qdj (Below.refl _ _) _));have HBW:=QA (show Below w.heap.size w W by rw[hW];exact Qdj (Below.refl _ _) _);rw[← hW,← hB];clear hW hB hBlk c0 c1 c2 c3 c4 c5 c6 HV
  go_loopw [3,4,5,20] (fun v3 v4 v5 a wr=>∃(i:Nat) (iv:Int),i≤4∧a=.int .i64 iv∧v3=.int .u64 (Qnc i V)∧Aside0 (iv=(i:Int))∧Aside0 (Below W.heap.size W wr))
   (fun _ _ _ a _=>4-(intOf a).toNat)
  case atStart=>exact⟨0,0,by omega,rfl,congrArg (Value.int .u64) (Qne V).symm,⟨rfl⟩,⟨Below.refl _ _⟩⟩
  case round =>
   obtain⟨i,iv,hi,rfl,rfl,HI,HB⟩:=hrel;obtain⟨d0,d1,d2,d3,d4,d5,d6⟩:=StAt.cells (HVW.out.kept HB.out);have hk:=Qex HBK.out HB.out;have b0:wr.cell? ⟨B,0,none⟩=some (.int .i64 1):=(Qei hk 0).trans rfl;have b1:wr.cell? ⟨B,1,none⟩=some (.int .i64 7):=(Qei hk 1).trans rfl;have b2:wr.cell? ⟨B,2,none⟩=some (.int .i64 12):=(Qei hk 2).trans rfl;have b3:wr.cell? ⟨B,3,none⟩=some (.int .i64 18):=(Qei hk 3).trans rfl;clear hk
   by_cases h4:i<4
   ·have hk:i=0∨i=1∨i=2∨i=3:=by omega
    rcases hk with rfl|rfl|rfl|rfl
    ·obtain rfl:iv=0:=HI.out
     go_wp2_with (go_at_call 201;refine(Qnp V.1 1 ⟨by decide,by decide,by kernel_rfl⟩ _).mono ?_;rintro e w7 ⟨rfl,hd⟩;have hd1:=hd.below;clear hd)
     go_roundw
     case rel=>exact⟨1,1,by omega,by go_num,congrArg (Value.int .u64) (Qnf V).symm,⟨rfl⟩,⟨Qdm HB.out HB.out.size hd1⟩⟩
     case measure=>simp[intOf]
    ·obtain rfl:iv=1:=HI.out
     go_wp2_with (go_at_call 201;refine(Qnp V.2.1 7 ⟨by decide,by decide,by kernel_rfl⟩ _).mono ?_;rintro e w7 ⟨rfl,hd⟩;have hd1:=hd.below;clear hd)
     go_roundw
     case rel=>exact⟨2,2,by omega,by go_num,congrArg (Value.int .u64) (Qng V).symm,⟨rfl⟩,⟨Qdm HB.out HB.out.size hd1⟩⟩
     case measure=>simp[intOf]
    ·obtain rfl:iv=2:=HI.out
     go_wp2_with (go_at_call 201;refine(Qnp V.2.2.1 12 ⟨by decide,by decide,by kernel_rfl⟩ _).mono ?_;rintro e w7 ⟨rfl,hd⟩;have hd1:=hd.below;clear hd)
     go_roundw
     case rel=>exact⟨3,3,by omega,by go_num,congrArg (Value.int .u64) (Qnh V).symm,⟨rfl⟩,⟨Qdm HB.out HB.out.size hd1⟩⟩
     case measure=>simp[intOf]
    ·obtain rfl:iv=3:=HI.out
     go_wp2_with (go_at_call 201;refine(Qnp V.2.2.2 18 ⟨by decide,by decide,by kernel_rfl⟩ _).mono ?_;rintro e w7 ⟨rfl,hd⟩;have hd1:=hd.below;clear hd)
     go_roundw
     case rel=>exact⟨4,4,by omega,by go_num,congrArg (Value.int .u64) (Qni V).symm,⟨rfl⟩,⟨Qdm HB.out HB.out.size hd1⟩⟩
     case measure=>simp[intOf]
   ·obtain rfl:i=4:=by omega
    obtain rfl:iv=4:=HI.out
    go_wp2_with fail
    clear d0 d1 d2 d3 d4 d5 d6 b0 b1 b2 b3
    go_loopw [3,7,40] (fun v3 v7 b wi=>∃(i:Nat) (iv:Int),i≤4∧b=.int .i64 iv∧v3=.int .u64 (Qnd i (Qnc 4 V) V)∧Aside0 (iv=(i:Int))∧Aside0 (Below W.heap.size W wi))
     (fun _ _ b _=>4-(intOf b).toNat)
    case atStart=>exact⟨0,0,by omega,rfl,congrArg (Value.int .u64) (Qnj _ V).symm,⟨rfl⟩,HB⟩
    case round =>
     clear HB HI;obtain⟨i,iv,hi,rfl,rfl,HI,HB⟩:=hrel
     by_cases h4:i<4
     ·have hk:i=0∨i=1∨i=2∨i=3:=by omega
      rcases hk with rfl|rfl|rfl|rfl
      ·obtain rfl:iv=0:=HI.out;have hix:=(Qnq V.1 V.2.1 V.2.2.1 V.2.2.2 wr).1 0 rfl
       go_wp2_with (go_at_call 198;refine(Qlk _ _ _).mono ?_;rintro e w7 ⟨rfl,hd⟩;have hd1:=hd.below;clear hd)
       go_roundw
       case rel=>exact⟨1,1,by omega,by go_num,congrArg (Value.int .u64) (Qnk _ V).symm,⟨rfl⟩,⟨Qdm HB.out HB.out.size hd1⟩⟩
       case measure=>simp[intOf]
      ·obtain rfl:iv=1:=HI.out;have hix:=(Qnq V.1 V.2.1 V.2.2.1 V.2.2.2 wr).2.1 1 rfl
       go_wp2_with (go_at_call 198;refine(Qlk _ _ _).mono ?_;rintro e w7 ⟨rfl,hd⟩;have hd1:=hd.below;clear hd)
       go_roundw
       case rel=>exact⟨2,2,by omega,by go_num,congrArg (Value.int .u64) (Qnl _ V).symm,⟨rfl⟩,⟨Qdm HB.out HB.out.size hd1⟩⟩
       case measure=>simp[intOf]
      ·obtain rfl:iv=2:=HI.out;have hix:=(Qnq V.1 V.2.1 V.2.2.1 V.2.2.2 wr).2.2.1 2 rfl
       go_wp2_with (go_at_call 198;refine(Qlk _ _ _).mono ?_;rintro e w7 ⟨rfl,hd⟩;have hd1:=hd.below;clear hd)
       go_roundw
       case rel=>exact⟨3,3,by omega,by go_num,congrArg (Value.int .u64) (Qnm _ V).symm,⟨rfl⟩,⟨Qdm HB.out HB.out.size hd1⟩⟩
       case measure=>simp[intOf]
      ·obtain rfl:iv=3:=HI.out;have hix:=(Qnq V.1 V.2.1 V.2.2.1 V.2.2.2 wr).2.2.2 3 rfl
       go_wp2_with (go_at_call 198;refine(Qlk _ _ _).mono ?_;rintro e w7 ⟨rfl,hd⟩;have hd1:=hd.below;clear hd)
       go_roundw
       case rel=>exact⟨4,4,by omega,by go_num,congrArg (Value.int .u64) (Qnn _ V).symm,⟨rfl⟩,⟨Qdm HB.out HB.out.size hd1⟩⟩
       case measure=>simp[intOf]
     ·obtain rfl:i=4:=by omega
      obtain rfl:iv=4:=HI.out
      go_wp2_with fail
      go_ret
      refine⟨by simp only[Qno,if_neg (show ¬n<32 by omega)];rfl,HBW.out.trans (Qkr HB.out HBW.out.size)⟩
def one8(h:Int)(l:List Int):Int:=IntKind.u64.wrap (IntKind.u64.wrap (rotP (Go.bits .xor .u64 h (Qle 0 (numP 8 l))) 27*Q1)+Q4)
def Qns:Nat→Int→List Int→Int
 | 0,h,_=>h
 | m+1,h,l=>Qns m (one8 h l) (l.drop 8)
def one4(h:Int)(l:List Int):Int:=IntKind.u64.wrap (IntKind.u64.wrap (rotP (Go.bits .xor .u64 h (IntKind.u64.wrap (numP 4 l*Q1))) 23*Q2)+Q3)
def one1(h x:Int):Int:=IntKind.u64.wrap (rotP (Go.bits .xor .u64 h (IntKind.u64.wrap (IntKind.u64.wrap x*Q5))) 11*Q1)
def finP(h:Int):Int :=
 let a:=IntKind.u64.wrap (Go.bits .xor .u64 h (h/8589934592)*Q2)
 let b:=IntKind.u64.wrap (Go.bits .xor .u64 a (a/536870912)*Q3)
 Go.bits .xor .u64 b (b/4294967296)
def sumP(h0:Int)(l:List Int):Int :=
 if 4≤(l.drop (8*(l.length/8))).length then finP (((l.drop (8*(l.length/8))).drop 4).foldl one1 (one4 (Qns (l.length/8) h0 l) (l.drop (8*(l.length/8)))))else finP ((l.drop (8*(l.length/8))).foldl one1 (Qns (l.length/8) h0 l))
theorem q8_cut'(A:Option Addr)(n c m:Nat)(j:Int)(hj:j=(m:Int))(hm:m≤n)(hc:n≤c) :
  ∃(A':Option Addr) (n' c':Nat),n'=n-m∧n'≤c'∧(∀W:World,(Instr.slice 40 (.slice A n c) (some (.int .i64 j)) none none).run Tryz.prog W=.ok (.slice A' n' c') W) ∧
   ∀(W:World) (b:Nat) (xs:List Int),xs.length=n→Q8 W b (.slice A n c) xs→Q8 W b (.slice A' n' c') (xs.drop m):=by
 obtain⟨A',h1,h2⟩:=Qli A n c m j hj hm;exact⟨A',n-m,c-m,rfl,by omega,h1,h2⟩
theorem st_Sum (g b:Nat) (sd:Int) (V:V4) (rv:Value) (n:Int) (l:List Int) (w:World) (hv:StAt w g sd V rv n) (hR:Q8 w b rv l) :
  Calls Tryz.prog 156 #[.pointer (some ⟨g,0,none⟩)] w fun e w'=>e=.returned (.int .u64 (sumP (IntKind.u64.wrap (Qno sd V n+n)) l))∧Below w.heap.size w w':=by
 have hu:=Tryz.underlying280;have hu2:=Tryz.underlying278;obtain⟨A,c,rfl,hlc⟩:=Kd.Q_slice hR;have HR:=QA hR;have HV:=QA hv;obtain⟨k0,k1,k2,k3,k4,k5,k6⟩:=StAt.cells hv;have hvd:StAt w.drew g sd V (.slice A l.length c) n:=hv.kept (Qdk (Below.refl _ _));obtain⟨j0,j1,j2,j3,j4,j5,j6⟩:=StAt.cells hvd
 go_enter Tryz.func156,Tryz.ntmps156
 go_wp2_with fail
 go_region_held3 (fun w'=>w'.cell? ⟨g,5,none⟩=some (.slice A l.length c)∧w'.cell? ⟨g,6,none⟩=some (.int .u64 n)) (first|exact⟨j5,j6⟩|exact⟨i5,i6⟩) (first |(go_at_call 200;refine(Qnr g sd V _ n w.drew hvd).mono ?_;rintro e w2 ⟨rfl,hb2⟩;have hv2:=hvd.kept hb2;obtain⟨i0,i1,i2,i3,i4,i5,i6⟩:=StAt.cells hv2))
 have HQ2:=QA (show Q8 w2 b (.slice A l.length c) l from Kd.Q_below (Kd.Q_drew HR.out) hb2);have p:=QA (Qdm (Qdk (Below.refl w.heap.size w)) (Nat.le_refl _) hb2);clear j0 j1 j2 j3 j4 j5 j6 k0 k1 k2 k3 k4 k5 k6 hvd hv HV HR hR hb2 hv2 i0 i1 i2 i3 i4 i5 i6
 go_wp2_with fail
 obtain⟨h0,hh0⟩:∃h0,h0=IntKind.u64.wrap (Qno sd V n+n):=⟨_,rfl⟩;rw[← hh0];have HH:=QA hh0;clear hh0
 go_loopw [3,4] (fun v3 v4 wr=>∃(m:Nat) (l':List Int) (h:Int) (A:Option Addr) (c:Nat),v3=.int .u64 h∧v4=.slice A l'.length c∧l'.length≤c∧l'.length≤l.length∧Aside0 (l'.length/8=m∧Qns (l.length/8) h0 l=Qns m h l'∧l.drop (8*(l.length/8))=l'.drop (8*m))∧Aside0 (Q8 wr b (.slice A l'.length c) l')∧Aside0 (Below w.heap.size w wr))
  (fun _ v4 _=>lenV v4)
 case atStart=>exact⟨_,l,h0,A,c,rfl,rfl,hlc,Nat.le_refl _,⟨rfl,rfl,rfl⟩,HQ2,p⟩
 case round =>
  clear HQ2 p hlc;obtain⟨m,l',h,A,c,rfl,rfl,hlc,hll,HM,HQ,HB⟩:=hrel
  by_cases h8:8≤l'.length
  ·have s:(8:Int)≤(l'.length:Int):=by omega
   obtain⟨A',hcut,hA'⟩:=Qli A l'.length c 8 8 rfl h8
   go_wp2_with (first |(go_at_call 199;refine(Qlj HQ.out h8).mono ?_;rintro e w7 ⟨rfl,hd⟩;have hd1:=hd.below;clear hd) |(go_at_call 198;refine(Qlk _ _ _).mono ?_;rintro e w8 ⟨rfl,hd⟩;have hd2:=hd.below;clear hd) |(go_at_call 201;refine(Qnp _ 27 ⟨by decide,by decide,by kernel_rfl⟩ _).mono ?_;rintro e w9 ⟨rfl,hd⟩;have hd3:=hd.below;clear hd))
   go_roundw
   case rel =>
    have hm:=HM.out;have hd:(l'.drop 8).length=l'.length-8:=List.length_drop;refine⟨m-1,l'.drop 8,one8 h l',A',c-8,rfl,by rw[hd],by rw[hd];omega,by rw[hd];omega,⟨by rw[hd];omega,?_,?_⟩,⟨?_⟩,⟨?_⟩⟩
    ·rw[hm.2.1,show m=(m-1)+1 by omega];rfl
    ·rw[hm.2.2,List.drop_drop]
     congr 1
     omega
    ·rw[hd];exact hA' _ _ _ rfl (Kd.Q_below (Kd.Q_below (Kd.Q_below HQ.out hd1) hd2) hd3)
    ·exact Qdm (Qdm (Qdm HB.out HB.out.size hd1) (Nat.le_trans HB.out.size hd1.size) hd2) (Nat.le_trans (Nat.le_trans HB.out.size hd1.size) hd2.size) hd3
   case measure=>simp[lenV];omega
  ·have s:(l'.length:Int)<8:=by omega
   by_cases h4:4≤l'.length
   ·have t:(4:Int)≤(l'.length:Int):=by omega
    obtain⟨A3,n3,c3,q,hc3,hcut,hA'⟩:=q8_cut' A l'.length c 4 4 rfl h4 hlc;have v:n3≤8:=by omega
    have HN:=QA q;clear q
    go_wp2_with (first |(go_at_call 199;refine(num4_at HQ.out h4).mono ?_;rintro e w7 ⟨rfl,hd⟩;have hd1:=hd.below;clear hd) |(go_at_call 201;refine(Qnp _ 23 ⟨by decide,by decide,by kernel_rfl⟩ _).mono ?_;rintro e w9 ⟨rfl,hd⟩;have hd3:=hd.below;clear hd))
    have HQ3:=QA (hA' _ _ _ rfl (Kd.Q_below (Kd.Q_below HQ.out hd1) hd3));have r:=QA (Qdm (Qdm HB.out HB.out.size hd1) (Nat.le_trans HB.out.size hd1.size) hd3);clear hcut hA' hd1 hd3;have a:=QA (Kd.Q_reads' HQ3.out);obtain⟨R,hR⟩:∃R,R=(l'.drop 4).foldl one1 (one4 h l'):=⟨_,rfl⟩;have j:=QA hR;clear hR
    go_loopw [3,6,46] (fun v3 v6 d wi=>∃(k:Nat) (iv x:Int),k≤n3∧d=.int .i64 iv∧v3=.int .u64 x∧Aside0 (iv=(k:Int))∧Aside0 (((l'.drop 4).drop k).foldl one1 x=R)∧Aside0 (Below w9.heap.size w9 wi))
     (fun _ _ d _=>n3-(intOf d).toNat)
    case atStart=>exact⟨0,0,_,Nat.zero_le _,rfl,rfl,⟨rfl⟩,⟨by rw[List.drop_zero];exact j.out.symm⟩,⟨Below.refl _ _⟩⟩
    case round =>
     obtain⟨k,iv,x,hk,rfl,rfl,HK,HX,HBi⟩:=hrel
     by_cases hlt:k<n3
     ·have hge:0≤iv:=by have:=HK.out;omega
      have hl2:iv<(n3:Int):=by have:=HK.out;omega
      obtain⟨ad,hA3,o⟩:=Kd.at_int (Kd.C_below a.out.2.2 HBi.out) iv hge (by rw[← a.out.1];exact hl2);have hA4:=hA3;obtain⟨y,hy⟩:∃y,y=rd (l'.drop 4) iv:=⟨_,rfl⟩;rw[← hy]at o;have HY:=QA hy;have HA:=QA hA4;clear hy hA4;subst hA3
      go_wp2_with (go_at_call 201;refine(Qnp _ 11 ⟨by decide,by decide,by kernel_rfl⟩ _).mono ?_;rintro e u ⟨rfl,hd⟩;have hd4:=hd.below;clear hd)
      go_roundw
      case rel=>exact⟨k+1,iv+1,one1 x y,by omega,by go_num,rfl,⟨by have:=HK.out;omega⟩,⟨by
       have e1:iv=(k:Int):=HK.out;have hkl:k<(l'.drop 4).length:=by have:=a.out.1;omega
       have e2:(l'.drop 4).drop k=rd (l'.drop 4) (k:Int) :: (l'.drop 4).drop (k+1):=by
        rw[List.drop_eq_getElem_cons hkl];simp[rd,List.getD_eq_getElem?_getD,List.getElem?_eq_getElem hkl]
       have e3:=HX.out;rw[e2,List.foldl_cons,← e1,← HY.out]at e3;exact e3⟩,⟨Qdm HBi.out HBi.out.size hd4⟩⟩
      case measure=>simp[intOf];omega
     ·obtain rfl:n3=k:=by omega
      have e1:iv=_:=HK.out;subst e1
      go_wp2_with fail
      go_ret
      have hL:(l'.drop 4).drop n3=[]:=List.drop_eq_nil_of_le (by have:=a.out.1;omega);have hx:=HX.out;rw[hL]at hx;have hx':x=R:=hx;subst hx';have hm:=HM.out;have hm0:m=0:=by omega
      subst hm0;refine⟨?_,Qdm r.out (Nat.le_trans r.out.size (Nat.le_refl _)) HBi.out⟩;have e5:sumP h0 l=finP x:=by
       rw[j.out];unfold sumP;rw[hm.2.1,hm.2.2];simp only[Qns,Nat.mul_zero,List.drop_zero]
       first|rw[if_pos h4]|rw[if_neg h4]
      rw[← HH.out,e5];rfl
   ·have t:(l'.length:Int)<4:=by omega
    go_wp2_with fail
    have a:=QA (Kd.Q_reads' HQ.out);obtain⟨R,hR⟩:∃R,R=(l').foldl one1 (h):=⟨_,rfl⟩;have j:=QA hR;clear hR
    go_loopw [3,6,46] (fun v3 v6 d wi=>∃(k:Nat) (iv x:Int),k≤l'.length∧d=.int .i64 iv∧v3=.int .u64 x∧Aside0 (iv=(k:Int))∧Aside0 (((l').drop k).foldl one1 x=R)∧Aside0 (Below wr.heap.size wr wi))
     (fun _ _ d _=>l'.length-(intOf d).toNat)
    case atStart=>exact⟨0,0,_,Nat.zero_le _,rfl,rfl,⟨rfl⟩,⟨by rw[List.drop_zero];exact j.out.symm⟩,⟨Below.refl _ _⟩⟩
    case round =>
     obtain⟨k,iv,x,hk,rfl,rfl,HK,HX,HBi⟩:=hrel
     by_cases hlt:k<l'.length
     ·have hge:0≤iv:=by have:=HK.out;omega
      have hl2:iv<(l'.length:Int):=by have:=HK.out;omega
      obtain⟨ad,hA3,o⟩:=Kd.at_int (Kd.C_below a.out.2.2 HBi.out) iv hge (by rw[← a.out.1];exact hl2);have hA4:=hA3;obtain⟨y,hy⟩:∃y,y=rd (l') iv:=⟨_,rfl⟩;rw[← hy]at o;have HY:=QA hy;have HA:=QA hA4;clear hy hA4;subst hA3
      go_wp2_with (go_at_call 201;refine(Qnp _ 11 ⟨by decide,by decide,by kernel_rfl⟩ _).mono ?_;rintro e u ⟨rfl,hd⟩;have hd4:=hd.below;clear hd)
      go_roundw
      case rel=>exact⟨k+1,iv+1,one1 x y,by omega,by go_num,rfl,⟨by have:=HK.out;omega⟩,⟨by
       have e1:iv=(k:Int):=HK.out;have hkl:k<(l').length:=by have:=a.out.1;omega
       have e2:(l').drop k=rd (l') (k:Int) :: (l').drop (k+1):=by
        rw[List.drop_eq_getElem_cons hkl];simp[rd,List.getD_eq_getElem?_getD,List.getElem?_eq_getElem hkl]
       have e3:=HX.out;rw[e2,List.foldl_cons,← e1,← HY.out]at e3;exact e3⟩,⟨Qdm HBi.out HBi.out.size hd4⟩⟩
      case measure=>simp[intOf];omega
     ·obtain rfl:k=l'.length:=by omega
      have e1:iv=_:=HK.out;subst e1
      go_wp2_with fail
      go_ret
      have hL:(l').drop l'.length=[]:=List.drop_eq_nil_of_le (by have:=a.out.1;omega);have hx:=HX.out;rw[hL]at hx;have hx':x=R:=hx;subst hx';have hm:=HM.out;have hm0:m=0:=by omega
      subst hm0;refine⟨?_,Qdm HB.out (Nat.le_trans HB.out.size (Nat.le_refl _)) HBi.out⟩;have e5:sumP h0 l=finP x:=by
       rw[j.out];unfold sumP;rw[hm.2.1,hm.2.2];simp only[Qns,Nat.mul_zero,List.drop_zero]
       first|rw[if_pos h4]|rw[if_neg h4]
      rw[← HH.out,e5];rfl
def Qnt(sd:Int)(l:List Int):Int :=
 sumP (IntKind.u64.wrap (Qno sd (Qlg (l.length/32) (IntKind.u64.wrap (IntKind.u64.wrap (sd+Q1)+Q2),IntKind.u64.wrap (sd+Q2),sd,IntKind.u64.wrap (sd-Q1)) l) l.length+l.length)) (l.drop (32*(l.length/32)))
end Go.Proofs.YteaocbonofboeaaGreat.C
end
