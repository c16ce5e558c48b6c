/- Merged texts. -/
import Derived.Test.YteaocbonofboeaaGreatMC02
import Derived.Lib.SliceRun
import Derived.WalkLawsBesides
import Derived.Defers
import Derived.Deep.RegionLaw
import Derived.Shelf.Bytes.SlIndexAt
set_option linter.unusedVariables false
set_option linter.unusedSimpArgs false
set_option maxHeartbeats 8000000
set_option maxRecDepth 100000
section
namespace Go.Proofs.YteaocbonofboeaaGreat.C
open Go.RowKit Go.Proofs.YteaocbonofboeaaGreatW.PrintWords Go.Proofs.YteaocbonofboeaaGreatW.PrintLast Go.Proofs.YteaocbonofboeaaGreatW.PrintMore
attribute [local go_sem] Qhx Qhy Qhz Qia Qib Qic Qid Qie
mutual
def Qbn.j0:Nat→List (S160)→Int→Int→Bool→Option (Bool)
 | 0,_,_,_,_=>none
 | k+1,x0,x1,x3,x17=>if x17=true then(some false)else(if x1≥0 then(Qbn.j1 k x0 x3 (decide (x3≥x1)))else(Qbn.j1 k x0 x3 false))
def Qbn.j1:Nat→List (S160)→Int→Bool→Option (Bool)
 | 0,_,_,_=>none
 | k+1,x0,x3,x24=>if x24=true then(some true)else(Qbn.l0 k x3 x0 (x0.length:Int) 0)
def Qbn.l0:Nat→Int→List (S160)→Int→Int→Option (Bool)
 | 0,_,_,_,_=>none
 | k+1,x3,x25,x26,x27=>if x27<x26 then(if 0≤x27 then(if x27<(x25.length:Int)then(if((Qjh x25 x27).f0)=(IntKind.u64.wrap (x3))then(some true)else(Qbn.l0 k x3 x25 x26 (wrap64 (x27+1))))else(none))else(none))else(some false)
end
def Qbn.f(k:Nat)(l0:List (S160))(a1:Int)(a2:Int)(a3:Int):Option (Bool):=if a3<0 then(Qbn.j0 k l0 a1 a3 true)else(Qbn.j0 k l0 a1 a3 (decide (a3≥a2)))
theorem Qbn.calls (k:Nat) (A0:Option Addr) (c0:Nat) (l0:List (S160)) (a1:Int) (a2:Int) (a3:Int) (r:Bool) (w:World) (hr0:Kd.C k160 w A0 l0.length l0) (hc0:l0.length≤c0) (h:Qbn.f k l0 a1 a2 a3=some r) :
  Calls Tryz.prog 42 #[.slice A0 l0.length c0,.int .i64 a1,.int .i64 a2,.int .i64 a3] w fun e w'=>e=.returned (.bool r)∧Below w.heap.size w w':=by
 have hu160:=Tryz.underlying160;have I:=QA hr0;have Z:=QA hc0;clear hr0 hc0;have HB:=QA (Below.refl w.heap.size w);have H:(if a3<0 then(Qbn.j0 k l0 a1 a3 true)else(Qbn.j0 k l0 a1 a3 (decide (a3≥a2))))=some r:=h;clear h;have x:=QA H;clear H
 go_enter Tryz.func42,Tryz.ntmps42
 go_upto_region 1 with(fail)
 go_cut [17] (fun O wc=>∃(kq:Nat) (o:Bool),O=.bool o∧Aside0 (Qbn.j0 kq l0 a1 a3 o=some r)∧Aside0 (kq≤k)∧Aside0 (Below w.heap.size w wc))
 case first =>
  have H:=x.out;clear x
  by_cases c6:a3<0
  ·rw[if_pos c6]at H;have d:=decide_eq_true c6;clear c6
   (first|rw[d] |(simp only[Qgk,Qgl];rw[d])|skip)
   have H':=QA H;clear H;go_wp2
   go_meet
   case rel=>exact⟨_,(true),qq_4,H',⟨by first|omega|exact Nat.le_refl _⟩,⟨qq_b⟩⟩
  ·rw[if_neg c6]at H;have d:=decide_eq_false c6;clear c6
   (first|rw[d] |(simp only[Qgk,Qgl];rw[d])|skip)
   have H':=QA H;clear H;go_wp2
   go_meet
   case rel=>exact⟨_,(decide (a3≥a2)),qq_4,H',⟨by first|omega|exact Nat.le_refl _⟩,⟨qq_b⟩⟩
 case rest =>
  clear x
  try clear c6
  try clear d
  obtain⟨kq,o,rfl,HA,HJ4,HB⟩:=hcut
  cases kq with
  | zero=>exact absurd HA.out (by simp[Qbn.j0])
  | succ kj4 =>
   have H:=HA.out;clear HA;simp only[Qbn.j0]at H
   by_cases c7:o=true
   ·subst c7;rw[if_pos rfl]at H;obtain rfl:=Option.some.inj H;go_wp2;go_ret
    exact⟨qq_5,qq_b⟩
   ·replace c7:=Bool.eq_false_iff.mpr c7;subst c7;rw[if_neg (show ¬(false=true)by decide)]at H;have y:=QA H;clear H
    go_upto_region 3 with(fail)
    go_cut [24] (fun P wc=>∃(kq:Nat) (p:Bool),P=.bool p∧Aside0 (Qbn.j1 kq l0 a3 p=some r)∧Aside0 (kq≤kj4)∧Aside0 (Below w.heap.size w wc))
    case first =>
     have H:=y.out;clear y
     by_cases c9:a1≥0
     ·rw[if_pos c9]at H;have g:decide (0≤a1)=true:=decide_eq_true c9;clear c9
      (first|rw[g] |(simp only[Qgk,Qgl];rw[g])|skip)
      have H':=QA H;clear H;go_wp2
      go_meet
      case rel=>exact⟨_,(decide (a3≥a1)),qq_4,H',⟨by have:=HJ4.out;first|omega|exact Nat.le_refl _⟩,⟨qq_b⟩⟩
     ·rw[if_neg c9]at H;have g:decide (0≤a1)=false:=decide_eq_false c9;clear c9
      (first|rw[g] |(simp only[Qgk,Qgl];rw[g])|skip)
      have H':=QA H;clear H;go_wp2
      go_meet
      case rel=>exact⟨_,(false),qq_4,H',⟨by have:=HJ4.out;first|omega|exact Nat.le_refl _⟩,⟨qq_b⟩⟩
    case rest =>
     clear y
     try clear c6
     try clear d
     try clear c7
     try clear c9
     try clear g
     obtain⟨kq,p,rfl,HA,HJ7,HB⟩:=hcut
     cases kq with
     | zero=>exact absurd HA.out (by simp[Qbn.j1])
     | succ kj7 =>
      have H:=HA.out;clear HA;simp only[Qbn.j1]at H
      by_cases c10:p=true
      ·subst c10;rw[if_pos rfl]at H;obtain rfl:=Option.some.inj H;go_wp2;go_ret
       exact⟨qq_5,qq_b⟩
      ·replace c10:=Bool.eq_false_iff.mpr c10;subst c10;rw[if_neg (show ¬(false=true)by decide)]at H;have H':=QA H;clear H;go_wp2
       go_loopg [27] kj7 (fun kq T w'=>∃(a:Int),T=.int .i64 a∧Aside0 (Qbn.l0 kq a3 l0 (l0.length:Int) a=some r)∧Aside0 (kq≤kj7)∧Aside0 (Below w.heap.size w w'))
       case atStart=>exact⟨(0),qq_4,H',⟨Nat.le_refl _⟩,⟨qq_b⟩⟩
       case round =>
        clear H'
        try clear c6
        try clear d
        try clear c7
        try clear c9
        try clear g
        try clear c10
        obtain⟨a,rfl,HA,HK3,HB⟩:=hrel
        cases gk with
        | zero=>exact absurd HA.out (by simp[Qbn.l0])
        | succ k3 =>
         have H:=HA.out;clear HA;simp only[Qbn.l0]at H
         by_cases s:a<(l0.length:Int)
         ·rw [if_pos s]at H;have z:=decide_eq_true s;clear s
          by_cases u:0≤a
          ·rw[if_pos u]at H;have U:=decide_eq_true u;clear u
           by_cases v:a<(l0.length:Int)
           ·rw[if_pos v]at H;have W:=decide_eq_true v;clear v
            by_cases q:((Qjh l0 a).f0)=(IntKind.u64.wrap (a3))
            ·rw[if_pos q]at H;have A:(((Qjh l0 a).f0) == (IntKind.u64.wrap (a3)))=true:=beq_iff_eq.mpr q;have B:(((Qjh l0 a).f0) != (IntKind.u64.wrap (a3)))=false:=bne_eq_false_iff_eq.mpr q;clear q;obtain rfl:=Option.some.inj H;have j:0≤(a:Int):=of_decide_eq_true qq_6;have l:a<(l0.length:Int):=of_decide_eq_true qq_6;obtain⟨D,t,b,c⟩:=Qji I.out a j l
             cases t
             replace b:=qq_h HB.out b;replace c:=qq_h HB.out c;replace j:=eq_true j;replace l:=eq_true l
             go_wp2_with (first |((with_reducible refine Qfn (N:=10) rfl ?_);refine qq_e 10 #[.int .u64 0,.int .u8 0] 160 ?_;intro m hg aa hbox hb;have n_:=qn4 (Qfd qq_b hb) (hbox) (qq_s hg:w.heap.size≤m) (qq_s hg:w.heap.size≤m);clear HB;obtain⟨HB,n,E,G⟩:=n_;clear hb hbox hg;obtain⟨J,K⟩:=qc2 n.out;have X:=Qdp n.out))
             go_ret
             exact⟨qq_5,qq_b⟩
            ·rw[if_neg q]at H;have A:(((Qjh l0 a).f0) == (IntKind.u64.wrap (a3)))=false:=beq_eq_false_iff_ne.mpr q;have B:(((Qjh l0 a).f0) != (IntKind.u64.wrap (a3)))=true:=bne_iff_ne.mpr q;have H':=QA H;clear H;have j:0≤(a:Int):=of_decide_eq_true qq_6;have l:a<(l0.length:Int):=of_decide_eq_true qq_6;obtain⟨D,t,b,c⟩:=Qji I.out a j l
             cases t
             replace b:=qq_h HB.out b;replace c:=qq_h HB.out c;replace j:=eq_true j;replace l:=eq_true l
             go_wp2_with (first |((with_reducible refine Qfn (N:=10) rfl ?_);refine qq_e 10 #[.int .u64 0,.int .u8 0] 160 ?_;intro m hg ab hbox hb;have n_:=qn4 (Qfd qq_b hb) (hbox) (qq_s hg:w.heap.size≤m) (qq_s hg:w.heap.size≤m);clear HB;obtain⟨HB,n,E,G⟩:=n_;clear hb hbox hg;obtain⟨L,M⟩:=qc2 n.out;have Y:=Qdp n.out))
             go_roundg k3
             case measure=>have:=HJ4.out;have:=HJ7.out;have:=HK3.out;omega
             case rel=>exact⟨(wrap64 (a+1)),qq_4,H',⟨by have:=HJ4.out;have:=HJ7.out;have:=HK3.out;omega⟩,⟨qq_b⟩⟩
           ·rw[if_neg v]at H;exact absurd H (by simp)
          ·rw[if_neg u]at H;exact absurd H (by simp)
         ·rw[if_neg s]at H;have z:=decide_eq_false s;clear s;obtain rfl:=Option.some.inj H;go_wp2;go_ret
          exact⟨qq_5,qq_b⟩
end Go.Proofs.YteaocbonofboeaaGreat.C
end
section
namespace Go.Proofs.YteaocbonofboeaaGreat.C
open Go.RowKit Go.Proofs.YteaocbonofboeaaGreatW.PrintWords Go.Proofs.YteaocbonofboeaaGreatW.PrintLast Go.Proofs.YteaocbonofboeaaGreatW.PrintMore
abbrev R8(W:World)(b:Nat)(v:Value)(xs:List Int):Prop:=Kd.R (Kd.int .u8) 5 W b (fun _=>True) v xs
def IsBuf(W:World)(b g:Nat)(xs:List Int):Prop:=∃v,W.heap[g]? = some (.cells #[v] 184 (0,0))∧R8 W b v xs
def leb:Int→Nat→List Int
 | _,0=>[]
 | x,n+1=>x%256 :: leb (x/256) n
theorem Qjj:∀(n:Nat) (x:Int),(leb x n).length=n
 | 0,_=>rfl
 | n+1,x=>by simp[leb,Qjj n]
theorem R8.lit(W:World)(b:Nat)(hb:b≤W.heap.size)(xs:List Int)(hm:xs.length≤9223372036854775807):R8 (W.alloc (.cells (nums .u8 xs).toArray 5)) b (.slice (some ⟨W.heap.size,0,none⟩) xs.length xs.length) xs :=
 Kd.R_of_own (own_lit W b 5 .u8 xs hb hm) (fun _ _=>trivial)
theorem R8.clean{W:World}{b g t:Nat}{v:Value}{xs:List Int}{cs:Array Value}(h:R8 W b v xs)(hg:W.heap[g]? = some (.cells cs t (0,0)))(ht:5≠t):some g≠v.ownBlock:=Kd.R_ne h hg ht
theorem R8.set{W:World}{b g t:Nat}{v:Value}{xs:List Int}{cs:Array Value}(h:R8 W b v xs)(hg:W.heap[g]? = some (.cells cs t (0,0)))(ht:5≠t)(j:Nat)(u:Value):R8 (W.setCell ⟨g,j,none⟩ u) b v xs :=
 Kd.R_set h hg (by intro q hq;rcases List.mem_cons.1 hq with rfl|hq;exact ht;cases hq) j u
theorem R8.kept{W W':World}{b:Nat}{v:Value}{xs:List Int}(h:R8 W b v xs)(hb:Below W.heap.size W W'):R8 W' b v xs:=Kd.R_below h hb
theorem R8.low{W:World}{b b':Nat}{v:Value}{xs:List Int}(h:R8 W b v xs)(hb:b'≤b):R8 W b' v xs:=Kd.R_lower h hb
theorem R8.shape{W:World}{b:Nat}{v:Value}{xs:List Int}(h:R8 W b v xs):∃A n c,v=.slice A n c:=by
 obtain⟨A,c,e⟩:=Kd.R_slice h;exact⟨A,_,c,e⟩
theorem IsBuf.kept{W W':World}{b g:Nat}{xs:List Int}(h:IsBuf W b g xs)(hb:Below W.heap.size W W'):IsBuf W' b g xs:=by
 obtain⟨v,h1,h2⟩:=h;exact⟨v,Qed h1 hb,h2.kept hb⟩
theorem IsBuf.lt{W:World}{b g:Nat}{xs:List Int}(h:IsBuf W b g xs):g<W.heap.size:=by
 obtain⟨v,h1,h2⟩:=h;exact Qdn h1
theorem IsBuf.put{W w1:World}{b g:Nat}{v v1:Value}{xs ys:List Int}(hv:W.heap[g]? = some (.cells #[v] 184 (0,0)))(hR:R8 W b v xs)(hg:W.grownBy w1 v.ownBlock)(h1:R8 w1 b v1 ys) :
  w1.heap[g]? = some (.cells #[v] 184 (0,0))∧IsBuf (w1.setCell ⟨g,0,none⟩ v1) b g ys:=by
 have hv1:=Qdq hv hg (hR.clean hv (by decide));exact⟨hv1,v1,Qdl hv1 0 v1,h1.set hv1 (by decide) 0 v1⟩
theorem Qjk{b:Nat}{w W:World}{g j:Nat}{v:Value}(h:Below b w W)(hg:b≤g):Below b w (W.setCell ⟨g,j,none⟩ v):=h.setCell hg _
theorem Qjl{b b':Nat}{w W:World}(h:Below b w W)(hb:b'≤b):Below b' w W:=⟨h.os,h.tape,h.output,h.size,fun i hi=>h.block i (by omega)⟩
def Tk(g:Nat)(w w':World):Prop:=∀k cs t,w.heap[k]? = some (.cells cs t (0,0))→t≠5→k≠g→w'.heap[k]? = some (.cells cs t (0,0))
def Bw(b g:Nat)(w w':World):Prop:=Below b w w'∧Tk g w w'
theorem Tk.refl(g:Nat)(w:World):Tk g w w:=fun _ _ _ h _ _=>h
theorem Tk.trans{g:Nat}{a b c:World}(h:Tk g a b)(k:Tk g b c):Tk g a c:=fun _ _ _ h1 h2 h3=>k _ _ _ (h _ _ _ h1 h2 h3) h2 h3
theorem Tk.below{g:Nat}{w w':World}(h:Below w.heap.size w w'):Tk g w w':=fun _ _ _ h1 _ _=>Qed h1 h
theorem Bw.refl(b g:Nat)(w:World):Bw b g w w:=⟨Below.refl _ _,Tk.refl _ _⟩
theorem Bw.trans{b g:Nat}{x y z:World}(h:Bw b g x y)(k:Bw b g y z):Bw b g x z:=⟨h.1.trans k.1,h.2.trans k.2⟩
theorem Bw.below{b g:Nat}{w w':World}(h:Below w.heap.size w w')(hb:b≤w.heap.size):Bw b g w w':=⟨Qjl h hb,Tk.below h⟩
theorem Bw.size{b g:Nat}{w w':World}(h:Bw b g w w'):w.heap.size≤w'.heap.size:=h.1.size
theorem Bw.put{W w1:World}{b g:Nat}{v v1:Value}{xs:List Int}(hbg:b≤g)(hv:W.heap[g]? = some (.cells #[v] 184 (0,0)))(hR:R8 W b v xs)(hb:Below b W w1)(hg:W.grownBy w1 v.ownBlock):Bw b g W (w1.setCell ⟨g,0,none⟩ v1):=by
 refine⟨Qjk hb hbg,fun k cs t h1 h2 h3=>?_⟩;have hne:some k≠v.ownBlock:=Kd.R_ne hR h1 (fun e=>h2 e.symm);have h4:=Qdq h1 hg hne;exact Qdm h4 h3 v1
def Qad.f(l0:List Int):Option (List Int):=if l0.length≤140737488355328 then some l0 else none
theorem Qjm(A0:Option Addr)(c0:Nat)(l0:List Int)(w:World)(hr0:Kd.C (Kd.int .u8) w A0 l0.length l0)(hl:l0.length≤140737488355328) :
  Calls Tryz.prog 72 #[.slice A0 l0.length c0] w fun e w'=>∃b:Value,e=.returned (b)∧R8 w' w.heap.size b l0∧Below w.heap.size w w':=by
 have hu:=Tryz.underlying40;have g:∀(w:World) (a:Option Addr) (n c n' c':Nat),(binOp .eql 40 (.slice a n c) (.slice none n' c')).run Tryz.prog w=.ok (.bool a.isNone) w:=fun w a n c n' c'=>Lib.run_eql_slice_nil w _ _ a n c n' c' hu
 cases A0 with
 | none =>
  obtain rfl:l0=[]:=by
   cases l0 with
   | nil=>rfl
   | cons a t=>obtain⟨ad,c,h1,_⟩:=Kd.C_get hr0 0 0 (by omega) (by simp);cases h1
  go_enter Tryz.func72,Tryz.ntmps72
  go_wp2;go_ret
  exact⟨_,rfl,Kd.R_nil _ _ _ _ _,Below.refl _ _⟩
 | some ad =>
  go_enter Tryz.func72,Tryz.ntmps72
  go_wp2_with (first |(at_builtin;refine Kd.R_append_row (Value.int .u8) (0:Int) (h1:=fun _=>rfl) (w0:=w) w.heap.size rfl (.tmp 5) (.tmp 6) 40 5 (.int .u8 0) 1 rfl Tryz.underlying40 Qim rfl (by decide) _ [] l0 (some ad) l0.length c0 (fun _=>True) rfl rfl (fun _ _=>trivial) ?hO ?hR ?hB ?hS ?hL ?_;(case hO=>exact R8.lit w w.heap.size (Nat.le_refl _) [] (by simp));(case hR=>exact Kd.C_below hr0 (Qcp (Below.refl _ _) _));(case hB=>exact Qcp (Below.refl _ _) _);(case hS=>simp);(case hL=>simp;omega);intro v1 w1 d hb1 h hat1;simp only[List.nil_append]at d))
  go_ret
  exact⟨_,rfl,d,hb1⟩
theorem Qad.calls(A0:Option Addr)(c0:Nat)(l0:List Int)(r:List Int)(w:World)(hr0:Kd.C (Kd.int .u8) w A0 l0.length l0)(hc0:l0.length≤c0)(h:Qad.f l0=some r) :
  Calls Tryz.prog 72 #[.slice A0 l0.length c0] w fun e w'=>∃v0_:Value,e=.returned (v0_)∧Kd.R (Kd.int .u8) 5 w' w.heap.size (fun _=>True) v0_ r∧Below w.heap.size w w':=by
 unfold Qad.f at h;have hl:l0.length≤140737488355328:=by
  by_cases e:l0.length≤140737488355328
  ·exact e
  ·rw[if_neg e]at h;cases h
 rw[if_pos hl]at h
 cases h
 exact Qjm A0 c0 l0 w hr0 hl
def Ow(g:Nat)(w w':World):Prop:=∀(k:Nat) (o:Obj) (v:Value),w.heap[g]? = some (.cells #[v] 184 (0,0))→w.heap[k]? = some o→k≠g→some k≠v.ownBlock →
 w'.heap[k]? = some o∧∃v',w'.heap[g]? = some (.cells #[v'] 184 (0,0))∧some k≠v'.ownBlock
theorem Ow.refl(g:Nat)(w:World):Ow g w w:=fun k o v h1 h2 _ h4=>⟨h2,v,h1,h4⟩
theorem Ow.trans{g:Nat}{a b c:World}(h:Ow g a b)(h':Ow g b c):Ow g a c:=fun k o v h1 h2 h3 h4=>by
 obtain⟨h5,v',h6,h7⟩:=h k o v h1 h2 h3 h4;exact h' k o v' h6 h5 h3 h7
theorem Ow.put{W w1:World}{g:Nat}{v v1:Value}(hv:W.heap[g]? = some (.cells #[v] 184 (0,0)))(hg:W.grownBy w1 v.ownBlock)(hv1:w1.heap[g]? = some (.cells #[v] 184 (0,0)))(hat:v1.ownBlock=v.ownBlock∨∃b,v1.ownBlock=some b∧W.heap.size≤b):Ow g W (w1.setCell ⟨g,0,none⟩ v1):=by
 intro k o v0 h1 h2 h3 h4;rw[hv]at h1;obtain rfl:v=v0:=by
  have:=Option.some.inj h1
  injection this with h
  injection h with h
  injection h
 refine⟨(Below.heap_setCell w1 ⟨g,0,none⟩ v1 k h3).trans (Qdq h2 hg h4),v1,Qdl hv1 0 v1,?_⟩
 rcases hat with h |⟨b,h,hb⟩
 ·rw[h];exact h4
 ·rw[h];intro e;have:=Qdn h2;have e2:=Option.some.inj e;omega
theorem Qjn(b g:Nat)(x:Int)(n:Nat)(xs:List Int)(w:World)(d:0≤x)(h:x<18446744073709551616)(hbg:b≤g)(hbw:b≤w.heap.size)(hI:IsBuf w b g xs)(hl:xs.length+n≤140737488355328) :
  Calls Tryz.prog 148 #[.pointer (some ⟨g,0,none⟩),.int .u64 x,.int .i64 n] w fun e w'=>e=.returned (.pointer (some ⟨g,0,none⟩))∧IsBuf w' b g (xs++leb x n)∧Bw b g w w'∧Ow g w w':=by
 have HI:=QA hI;clear hI
 go_enter Tryz.func148,Tryz.ntmps148
 go_wp2
 go_loopw [1,8] (fun v1 v8 wr=>∃(k:Nat) (ys:List Int) (iv xv:Int),k≤n∧ys.length=k∧v8=.int .i64 iv∧v1=.int .u64 xv∧0≤xv∧xv<18446744073709551616∧Aside0 (iv=(k:Int))∧Aside0 (leb x n=ys++leb xv (n-k))∧Aside0 (IsBuf wr b g (xs++ys))∧Aside0 (Bw b g w wr)∧Aside0 (Ow g w wr))
  (fun _ v8 _=>n-(intOf v8).toNat)
 case atStart=>exact⟨0,[],0,x,Nat.zero_le _,rfl,rfl,rfl,d,h,⟨rfl⟩,⟨rfl⟩,⟨by simpa using HI.out⟩,⟨Bw.refl _ _ _⟩,⟨Ow.refl _ _⟩⟩
 case round =>
  obtain⟨k,ys,iv,xv,hk,hys,rfl,rfl,m,o,HK,HL,HB,HW,HO⟩:=hrel
  by_cases hlt:k<n
  ·have hlt2:iv<(n:Int):=by have:=HK.out;omega
   have hge:0≤iv:=by have:=HK.out;omega
   obtain⟨v,hv,hR⟩:=HB.out;have hc:wr.cell? ⟨g,0,none⟩=some v:=(Qdo hv 0).trans rfl;have HV:=QA hv;have HR:=QA hR;clear hv hR
   go_wp2_with ((at_builtin;refine Kd.R_append (Kd.int .u8) (w0:=wr) b rfl (.tmp 14) (.tmp 17) 40 5 (.int .u8 0) 1 rfl Tryz.underlying40 Qim rfl (by decide) (by omega) v (xs++ys) (xv%256) [.int .u8 (xv%256)] (fun _=>True) (fun _=>False) rfl ?ax ?aP (fun _ hk=>hk.elim) ?aF ?aO ?aB ?aS ?aL ?_;(case ax=>rfl);(case aP=>rfl);(case aF=>exact fun _ _=>trivial);(case aO=>exact HR.out);(case aB=>exact Below.refl _ _);(case aS=>exact Nat.le_trans hbw HW.out.size);(case aL=>simp;omega);intro v1 w1 c hb1 a hat1;obtain⟨A1,n1,c1,rfl⟩:=R8.shape c;obtain⟨hv1,hI1⟩:=IsBuf.put HV.out HR.out a c;have hfz:=Qdp hv1 0;have hc1:w1.cell? ⟨g,0,none⟩=some v:=(Qdo hv1 0).trans rfl;have HI1:=QA hI1;have j:=QA (HO.out.trans (Ow.put (v1:=.slice A1 n1 c1) HV.out a hv1 hat1));have l:=QA (HW.out.trans (Bw.put (v1:=.slice A1 n1 c1) hbg HV.out HR.out hb1 a));clear hI1 hb1 a hat1 c hv1))
   go_roundw
   case rel=>exact⟨k+1,ys++[xv%256],iv+1,xv/256,by omega,by simp[hys],by go_num,by go_num,by omega,by omega,⟨by have:=HK.out;omega⟩,⟨by
    rw[HL.out,show n-k=(n-(k+1))+1 by omega,leb];simp⟩,⟨by rw[← List.append_assoc];exact HI1.out⟩,⟨l.out⟩,⟨j.out⟩⟩
   case measure=>simp[intOf];omega
  ·obtain rfl:k=n:=by omega
   have e1:iv=(k:Int):=HK.out;subst e1;go_wp2;go_ret
   refine⟨rfl,?_,HW.out,HO.out⟩;have e:=HL.out;rw[Nat.sub_self]at e;rw[e]
   simpa [leb]using HB.out
theorem Qjo(b g:Nat)(x:Int)(n:Nat)(xs:List Int)(w:World)(hx0:0≤x)(hx1:x<18446744073709551616)(hbg:b≤g)(hbw:b≤w.heap.size)(hI:IsBuf w b g xs)(hl:xs.length+n≤140737488355328) :
  Calls Tryz.prog 148 #[.pointer (some ⟨g,0,none⟩),.int .u64 x,.int .i64 n] w fun e w'=>e=.returned (.pointer (some ⟨g,0,none⟩))∧IsBuf w' b g (xs++leb x n)∧Bw b g w w':=(Qjn b g x n xs w hx0 hx1 hbg hbw hI hl).mono (by rintro e w' ⟨h1,h2,h3,_⟩;exact⟨h1,h2,h3⟩)
theorem Qjp(b g:Nat)(x:Int)(xs:List Int)(w:World)(hx0:0≤x)(hx1:x<256)(hbg:b≤g)(hbw:b≤w.heap.size)(hI:IsBuf w b g xs)(hl:xs.length+1≤140737488355328) :
  Calls Tryz.prog 101 #[.pointer (some ⟨g,0,none⟩),.int .u8 x] w fun e w'=>e=.returned (.pointer (some ⟨g,0,none⟩))∧IsBuf w' b g (xs++[x])∧Bw b g w w':=by
 go_enter Tryz.func101,Tryz.ntmps101
 go_wp2_with (go_at_call 148;refine(Qjo b g x 1 xs w hx0 (by omega) hbg hbw hI hl).mono ?_;rintro e w' ⟨rfl,hd,hb⟩)
 go_ret
 refine⟨rfl,?_,hb⟩;have e:leb x 1=[x]:=by simp[leb];omega
 rw[e]at hd;exact hd
theorem Qjq(b g:Nat)(x:Int)(xs:List Int)(w:World)(hx0:0≤x)(hx1:x<4294967296)(hbg:b≤g)(hbw:b≤w.heap.size)(hI:IsBuf w b g xs)(hl:xs.length+4≤140737488355328) :
  Calls Tryz.prog 110 #[.pointer (some ⟨g,0,none⟩),.int .u32 x] w fun e w'=>e=.returned (.pointer (some ⟨g,0,none⟩))∧IsBuf w' b g (xs++leb x 4)∧Bw b g w w'∧Ow g w w':=by
 go_enter Tryz.func110,Tryz.ntmps110
 go_wp2_with (go_at_call 148;refine(Qjn b g x 4 xs w hx0 (by omega) hbg hbw hI hl).mono ?_;rintro e w' ⟨rfl,hd,hb,ho⟩)
 go_ret
 exact⟨rfl,hd,hb,ho⟩
theorem Qjr(b g:Nat)(x:Int)(xs:List Int)(w:World)(hx0:0≤x)(hx1:x<4294967296)(hbg:b≤g)(hbw:b≤w.heap.size)(hI:IsBuf w b g xs)(hl:xs.length+4≤140737488355328) :
  Calls Tryz.prog 110 #[.pointer (some ⟨g,0,none⟩),.int .u32 x] w fun e w'=>e=.returned (.pointer (some ⟨g,0,none⟩))∧IsBuf w' b g (xs++leb x 4)∧Bw b g w w':=(Qjq b g x xs w hx0 hx1 hbg hbw hI hl).mono (by rintro e w' ⟨h1,h2,h3,_⟩;exact⟨h1,h2,h3⟩)
theorem Qjs(b g:Nat)(x:Int)(xs:List Int)(w:World)(hx0:0≤x)(hx1:x<18446744073709551616)(hbg:b≤g)(hbw:b≤w.heap.size)(hI:IsBuf w b g xs)(hl:xs.length+8≤140737488355328) :
  Calls Tryz.prog 150 #[.pointer (some ⟨g,0,none⟩),.int .u64 x] w fun e w'=>e=.returned (.pointer (some ⟨g,0,none⟩))∧IsBuf w' b g (xs++leb x 8)∧Bw b g w w':=by
 go_enter Tryz.func150,Tryz.ntmps150
 go_wp2_with (go_at_call 148;refine(Qjo b g x 8 xs w hx0 hx1 hbg hbw hI hl).mono ?_;rintro e w' ⟨rfl,hd,hb⟩)
 go_ret
 exact⟨rfl,hd,hb⟩
theorem Qjt(b g:Nat)(A0:Option Addr)(c0:Nat)(ys:List Int)(xs:List Int)(w:World)(hr0:Kd.C (Kd.int .u8) w A0 ys.length ys)(hbg:b≤g)(hbw:b≤w.heap.size)(hI:IsBuf w b g xs)(hl:xs.length+ys.length≤140737488355328) :
  Calls Tryz.prog 149 #[.pointer (some ⟨g,0,none⟩),.slice A0 ys.length c0] w fun e w'=>e=.returned (.pointer (some ⟨g,0,none⟩))∧IsBuf w' b g (xs++ys)∧Bw b g w w'∧Ow g w w':=by
 obtain⟨v,hv,hR⟩:=hI;have hc:w.cell? ⟨g,0,none⟩=some v:=(Qdo hv 0).trans rfl
 go_enter Tryz.func149,Tryz.ntmps149
 go_wp2_with (first |(at_builtin;refine Kd.R_append_row (Value.int .u8) (0:Int) (h1:=fun _=>rfl) (w0:=w) b rfl (.tmp 9) (.tmp 10) 40 5 (.int .u8 0) 1 rfl Tryz.underlying40 Qim rfl (by decide) v xs ys A0 ys.length c0 (fun _=>True) rfl rfl (fun _ _=>trivial) ?hO ?hR ?hB ?hS ?hL ?_;(case hO=>exact hR);(case hR=>exact hr0);(case hB=>exact Below.refl _ _);(case hS=>exact hbw);(case hL=>omega);intro v1 w1 HR1 hb1 hg1 hat1;obtain⟨A1,n1,c1,rfl⟩:=R8.shape HR1;obtain⟨hv1,hI1⟩:=IsBuf.put hv hR hg1 HR1;have hfz:=Qdp hv1 0;have hc1:w1.cell? ⟨g,0,none⟩=some v:=(Qdo hv1 0).trans rfl;have HI1:=QA hI1;have HO1:=QA (Ow.put (v1:=.slice A1 n1 c1) hv hg1 hv1 hat1);have HB1:=QA (Bw.put (v1:=.slice A1 n1 c1) hbg hv hR hb1 hg1);clear hI1 hb1 hg1 hat1 HR1 hv1))
 go_ret
 exact⟨rfl,HI1.out,HB1.out,HO1.out⟩
theorem Qju(b g:Nat)(A0:Option Addr)(c0:Nat)(ys:List Int)(xs:List Int)(w:World)(hr0:Kd.C (Kd.int .u8) w A0 ys.length ys)(hbg:b≤g)(hbw:b≤w.heap.size)(hI:IsBuf w b g xs)(hl:xs.length+ys.length≤140737488355328) :
  Calls Tryz.prog 149 #[.pointer (some ⟨g,0,none⟩),.slice A0 ys.length c0] w fun e w'=>e=.returned (.pointer (some ⟨g,0,none⟩))∧IsBuf w' b g (xs++ys)∧Bw b g w w':=(Qjt b g A0 c0 ys xs w hr0 hbg hbw hI hl).mono (by rintro e w' ⟨h1,h2,h3,_⟩;exact⟨h1,h2,h3⟩)
theorem Qjv(b g:Nat)(A0:Option Addr)(c0 n:Nat)(ys:List Int)(xs:List Int)(w:World)(hn:n=ys.length)(hr0:Kd.C (Kd.int .u8) w A0 n ys)(hbg:b≤g)(hbw:b≤w.heap.size)(hI:IsBuf w b g xs)(hl:xs.length+n≤140737488355328) :
  Calls Tryz.prog 149 #[.pointer (some ⟨g,0,none⟩),.slice A0 n c0] w fun e w'=>e=.returned (.pointer (some ⟨g,0,none⟩))∧IsBuf w' b g (xs++ys)∧Bw b g w w':=by
 subst hn;exact Qju b g A0 c0 ys xs w hr0 hbg hbw hI hl
theorem Qjw(b g:Nat)(xs:List Int)(w:World)(hI:IsBuf w b g xs)(hl:xs.length≤140737488355328) :
  Calls Tryz.prog 104 #[.pointer (some ⟨g,0,none⟩)] w fun e w'=>∃v:Value,e=.returned v∧R8 w' w.heap.size v xs∧Below w.heap.size w w':=by
 obtain⟨v,hv,hR⟩:=hI;obtain⟨A,c,rfl,hlc,hC⟩:=Kd.R_reads hR;have hc:w.cell? ⟨g,0,none⟩=some (.slice A xs.length c):=(Qdo hv 0).trans rfl
 go_enter Tryz.func104,Tryz.ntmps104
 go_wp2_with (go_at_call 72;refine(Qjm A c xs w hC hl).mono ?_;rintro e w' ⟨v1,rfl,hd,hb⟩)
 go_ret
 exact⟨_,rfl,hd,hb⟩
abbrev KS:=Int × Int × Int × Int
abbrev Ck:=Int × Int × Int
def cutO(K:KS)(x:Int):List Ck:=if x=0 then [(K.2.1,K.2.2.2,K.2.2.1)]else []
def cutF(K:KS)(x:Int):KS:=(K.1,K.2.1,K.2.2.1+1,if x=0 then K.2.2.1+1 else K.2.2.2)
def cutN(K:KS)(x:Int):KS:=if K.2.2.1+1=K.1 then(K.1,(K.2.1+1)%18446744073709551616,0,0)else cutF K x
def cutA:KS→List Int→List Ck × KS
 | K,[]=>([],K)
 | K,x :: l=>(cutO K x++(cutA (cutN K x) l).1,(cutA (cutN K x) l).2)
def kCk:Kd Ck:=Kd.pair (Kd.int .u64) (Kd.pair (Kd.int .i64) (Kd.int .i64))
theorem kCk_mkM(w:World)(base:Nat)(ok:Nat→Prop)(x:Ck):kCk.M w base ok x [.int .u64 x.1,.int .i64 x.2.1,.int .i64 x.2.2]:=⟨[.int .u64 x.1],[.int .i64 x.2.1,.int .i64 x.2.2],rfl,rfl,⟨[.int .i64 x.2.1],[.int .i64 x.2.2],rfl,rfl,rfl⟩⟩
theorem Qjx{w:World}{x:Ck}{cs:List Value}(h:kCk.K w x cs):cs=[.int .u64 x.1,.int .i64 x.2.1,.int .i64 x.2.2]:=by
 obtain⟨_,_,rfl,rfl,⟨_,_,rfl,rfl,rfl⟩⟩:=h;exact rfl
def RCk(W:World)(b:Nat)(v:Value)(xs:List Ck):Prop:=kCk.R 147 W b (fun _=>True) v xs
def IsK(W:World)(g:Nat)(K:KS):Prop:=W.heap[g]? = some (.cells #[.int .i64 K.1,.int .u64 K.2.1,.int .i64 K.2.2.1,.int .i64 K.2.2.2] 207 (0,0))
def KT(W W':World):Prop:=∀(k:Nat) (cs:Array Value) (t:TypeId),W.heap[k]? = some (.cells cs t (0,0))→t≠207→t≠147→W'.heap[k]? = some (.cells cs t (0,0))
theorem KT.refl(W:World):KT W W:=fun _ _ _ h _ _=>h
theorem KT.trans{a b c:World}(h:KT a b)(k:KT b c):KT a c:=fun _ _ _ h1 h2 h3=>k _ _ _ (h _ _ _ h1 h2 h3) h2 h3
theorem KT.below{W W':World}(h:Below W.heap.size W W'):KT W W':=fun _ _ _ h1 _ _=>Qed h1 h
theorem KT.set{W:World}{g:Nat}{cs:Array Value}(hg:W.heap[g]? = some (.cells cs 207 (0,0)))(j:Nat)(u:Value):KT W (W.setCell ⟨g,j,none⟩ u):=fun k cs' t h1 h2 _=>Qdm h1 (p:=⟨g,j,none⟩) (Qdr h1 hg h2) u
theorem KT.grown{W W':World}{b:Nat}{v:Value}{xs:List Ck}(hR:RCk W b v xs)(hg:W.grownBy W' v.ownBlock):KT W W':=fun k cs t h1 _ h3=>Qdq h1 hg (Kd.R_ne hR h1 (fun e=>h3 e.symm))
theorem IsK.cells{W:World}{g:Nat}{K:KS}(h:IsK W g K):(W.cell? ⟨g,0,none⟩=some (.int .i64 K.1)∧W.cell? ⟨g,1,none⟩=some (.int .u64 K.2.1)∧W.cell? ⟨g,2,none⟩=some (.int .i64 K.2.2.1)∧W.cell? ⟨g,3,none⟩=some (.int .i64 K.2.2.2))∧W.frozen? ⟨g,1,none⟩=false∧W.frozen? ⟨g,2,none⟩=false∧W.frozen? ⟨g,3,none⟩=false :=
 ⟨⟨(Qdo h 0).trans rfl,(Qdo h 1).trans rfl,(Qdo h 2).trans rfl,(Qdo h 3).trans rfl⟩,Qdp h 1,Qdp h 2,Qdp h 3⟩
theorem info_ck:(Tryz.prog.info? 147).map (fun i=>(i.zero,i.size,i.bytes))=some (some (.agg #[.int .u64 0,.int .i64 0,.int .i64 0]),3,24):=by kernel_rfl
structure KSt (w W:World) (b g:Nat) (K:KS) (out:List Ck) (v:Value):Prop where
  k:IsK W g K
  row:RCk W b v out
  low:Below b w W
  kt:KT w W
  bg:b≤g
theorem KSt.drewn{w W W':World}{b g:Nat}{K:KS}{out:List Ck}{v:Value}(h:KSt w W b g K out v)(hb:Below W.heap.size W W')(hbw:b≤W.heap.size):KSt w W' b g K out v :=
 ⟨Qed h.k hb,Kd.R_below h.row hb,h.low.trans (Qjl hb hbw),h.kt.trans (KT.below hb),h.bg⟩
theorem KSt.set{w W:World}{b g:Nat}{K K':KS}{out:List Ck}{v:Value}(h:KSt w W b g K out v)(j:Nat)(u:Value)(hk:IsK (W.setCell ⟨g,j,none⟩ u) g K'):KSt w (W.setCell ⟨g,j,none⟩ u) b g K' out v :=
 ⟨hk,Kd.R_set h.row h.k (by decide) j u,Qjk h.low h.bg,h.kt.trans (KT.set h.k j u),h.bg⟩
theorem KSt.app{w W W1:World}{b g:Nat}{K:KS}{out out1:List Ck}{v v1:Value}(h:KSt w W b g K out v)(hR:RCk W1 b v1 out1)(hb:Below b W W1)(hg:W.grownBy W1 v.ownBlock):KSt w W1 b g K out1 v1 :=
 ⟨Qdq h.k hg (Kd.R_ne h.row h.k (by decide)),hR,h.low.trans hb,h.kt.trans (KT.grown h.row hg),h.bg⟩
theorem cut_one(b g:Nat)(sz sg at_ fr x:Int)(out:List Ck)(v:Value)(w:World)(hS:KSt w w b g (sz,sg,at_,fr) out v)(hbw:b≤w.heap.size)(hat:0≤at_∧at_≤1000000000000)(hsg:0≤sg∧sg<18446744073709551616)(hl:out.length≤1000000000000) :
  Calls Tryz.prog 127 #[.pointer (some ⟨g,0,none⟩),.int .u8 x,v] w fun e w'=>∃v',e=.returned v'∧KSt w w' b g (cutN (sz,sg,at_,fr) x) (out++cutO (sz,sg,at_,fr) x) v':=by
 have hu:=Tryz.underlying207;have hw1:IntKind.i64.wrap (at_+1)=at_+1:=IntWalk.i64_in _ (by omega);have hw2:IntKind.u64.wrap (sg+1)=(sg+1)%18446744073709551616:=by rw[IntKind.wrap_u64]
 obtain⟨A,c,hv⟩:=Kd.R_slice hS.row;subst hv;have HS:=QA hS;clear hS
 go_enter Tryz.func127,Tryz.ntmps127
 go_upto_if 8 with fail
 go_cut [2] (fun v2 w'=>∃f,f=(if x=0 then at_+1 else fr)∧KSt w w' b g (sz,sg,at_,f) (out++cutO (sz,sg,at_,fr) x) v2∧b≤w'.heap.size)
 case first =>
  by_cases hx:x=0
  ·subst hx;obtain⟨⟨c0,c1,c2,c3⟩,f1,f2,f3⟩:=HS.out.k.cells;have d1:w.drew.cell? ⟨g,1,none⟩=some (.int .u64 sg):=c1;have d2:w.drew.cell? ⟨g,2,none⟩=some (.int .i64 at_):=c2;have d3:w.drew.cell? ⟨g,3,none⟩=some (.int .i64 fr):=c3;have HSd:=QA (HS.out.drewn (Qcq (Below.refl _ _)) hbw);clear c0 f1 f2 f3
   go_upto_region 2 with fail
   go_region_law (first
    |(refine Kd.R_append_step kCk (w0:=w.drew) b (by rfl) (.tmp 9) (.tmp 23) 145 147 (.agg #[.int .u64 0,.int .i64 0,.int .i64 0]) 24 rfl Tryz.underlying145 info_ck rfl (by decide) (by omega) (.slice A out.length c) out (sg,fr,at_) [.int .u64 sg,.int .i64 fr,.int .i64 at_] (fun _=>True) (fun _=>False) rfl ?ax ?aP (fun _ hk=>hk.elim) (fun _ _=>trivial) ?aO (Below.refl _ _) ?aS ?aL ?_;(case ax=>rfl);(case aP=>exact kCk_mkM _ _ _ (sg,fr,at_));(case aO=>exact HSd.out.row);(case aS=>exact hbw);(case aL=>omega);intro v3 w3 d hb3 h hat3;have HS3:=QA (HSd.out.app d hb3 h);obtain⟨⟨e0,e1,e2,e3⟩,g1,g2,g3⟩:=HS3.out.k.cells;have HZ3:=QA (show b≤w3.heap.size from Nat.le_trans hbw hb3.size);clear d hb3 h hat3))
   all_goals
    go_wp2
    go_meet
    case rel=>exact⟨at_+1,by simp,by(have:=HS3.out.set (K':=(sz,sg,at_,at_+1)) 3 (.int .i64 (at_+1)) (Qdl HS3.out.k 3 _));exact this,by simpa [World.setCell]using HZ3.out⟩
  ·have hxb:(x == 0)=false:=beq_eq_false_iff_ne.2 hx;go_wp2
   go_meet
   case rel=>exact⟨fr,by rw[if_neg hx],by unfold cutO;rw[if_neg hx,List.append_nil];exact HS.out,hbw⟩
 case rest =>
  obtain⟨f,hf,hS2,hbw2⟩:=hcut;obtain⟨A2,c2,hv2⟩:=Kd.R_slice hS2.row;subst hv2;have HF:=QA hf;have HS2:=QA hS2;have HO:=QA (rfl:out++cutO (sz,sg,at_,fr) x=out++cutO (sz,sg,at_,fr) x);clear hf hS2;obtain⟨⟨c0,c1,j,c3⟩,f1,f2,f3⟩:=HS2.out.k.cells;obtain⟨o2,a⟩:∃o2,o2=out++cutO (sz,sg,at_,fr) x:=⟨_,rfl⟩;rw[← a]at HS2 ⊢;have l:=QA a;clear a HO;have s1:=HS2.out.set (K':=(sz,sg,at_+1,f)) 2 (.int .i64 (at_+1)) (Qdl HS2.out.k 2 _);have hbs:b≤(wc.setCell ⟨g,2,none⟩ (.int .i64 (at_+1))).heap.size:=by simpa [World.setCell]using hbw2
  go_upto_region 5 with fail
  obtain⟨W1,hW1⟩:∃W1,W1=wc.setCell ⟨g,2,none⟩ (.int .i64 (at_+1)):=⟨_,rfl⟩;rw[← hW1]at s1 hbs ⊢;clear hW1 c0 c1 j c3 f1 f2 f3;have S1:=QA (s1.drewn (Qcq (Below.refl _ _)) hbs);obtain⟨⟨c0,c1,j,c3⟩,f1,f2,f3⟩:=s1.k.cells;obtain⟨⟨d0,d1,d2,d3⟩,e1,e2,e3⟩:=S1.out.k.cells;clear s1
  by_cases hq:at_+1=sz
  ·have hqb:(at_+1 == sz)=true:=beq_iff_eq.2 hq;have t1:=S1.out.set (K':=(sz,(sg+1)%18446744073709551616,at_+1,f)) 1 (.int .u64 ((sg+1)%18446744073709551616)) (Qdl S1.out.k 1 _);have t2:=t1.set (K':=(sz,(sg+1)%18446744073709551616,0,f)) 2 (.int .i64 0) (Qdl t1.k 2 _);have t3:=t2.set (K':=(sz,(sg+1)%18446744073709551616,0,0)) 3 (.int .i64 0) (Qdl t2.k 3 _);have T3:=QA t3;obtain⟨⟨p0,p1,p2,p3⟩,q1,q2,q3⟩:=t1.k.cells;obtain⟨⟨r0,r1,r2,r3⟩,u1,u2,u3⟩:=t2.k.cells;clear t1 t2 t3
   go_region
   all_goals
    go_wp2;go_ret
    refine⟨_,rfl,?_⟩;rw[← l.out];unfold cutN;rw[if_pos hq];exact T3.out
  ·have hqb:(at_+1 == sz)=false:=beq_eq_false_iff_ne.2 hq
   go_region
   all_goals
    go_wp2;go_ret
    refine⟨_,rfl,?_⟩;rw[← l.out];unfold cutN cutF;rw[if_neg hq];dsimp only;rw[← HF.out];exact S1.out
theorem cutN_at{K:KS}{x:Int}{m:Int}(h:0≤K.2.2.1∧K.2.2.1≤m)(hs:0≤K.2.1∧K.2.1<18446744073709551616):(0≤(cutN K x).2.2.1∧(cutN K x).2.2.1≤m+1)∧0≤(cutN K x).2.1∧(cutN K x).2.1<18446744073709551616:=by
 unfold cutN cutF;split
 ·dsimp only;omega
 ·dsimp only;omega
theorem Qjy(K:KS)(x:Int):(cutO K x).length≤1:=by
 unfold cutO;split<;>simp
theorem Qjz(b g:Nat)(K:KS)(A:Option Addr)(c:Nat)(l:List Int)(w:World)(hK:IsK w g K)(hbg:b≤g)(hbw:b≤w.heap.size)(hC:∀W,Below b w W→Kd.C (Kd.int .u8) W A l.length l)(hl:l.length≤1000000)(hat:0≤K.2.2.1∧K.2.2.1≤1000000000)(hsg:0≤K.2.1∧K.2.1<18446744073709551616) :
  Calls Tryz.prog 74 #[.pointer (some ⟨g,0,none⟩),.slice A l.length c] w fun e w'=>∃v',e=.returned v'∧KSt w w' b g (cutA K l).2 (cutA K l).1 v':=by
 have HC:=QA hC;have HS:=QA (show KSt w w b g K [] (.slice none 0 0) from⟨hK,Kd.R_nil _ _ _ _ _,Below.refl _ _,KT.refl _,hbg⟩);have HAT:=QA (And.intro hat hsg);obtain⟨R,hR⟩:∃R,R=cutA K l:=⟨_,rfl⟩;rw[← hR];have HR:=QA hR;clear hC hK hat hsg hR
 go_enter Tryz.func74,Tryz.ntmps74
 go_wp2_with fail
 go_loopw [5,7,10] (fun v5 v7 a wr=>∃(i:Nat) (iv:Int) (K':KS) (out:List Ck),a=.int .i64 iv∧i≤l.length∧Aside0 (iv=(i:Int))∧Aside0 (R=(out++(cutA K' (l.drop i)).1,(cutA K' (l.drop i)).2))∧Aside0 ((0≤K'.2.2.1∧K'.2.2.1≤1000000000+(i:Int))∧(0≤K'.2.1∧K'.2.1<18446744073709551616)∧out.length≤i)∧Aside0 (KSt w wr b g K' out v5))
  (fun _ _ a _=>l.length-(intOf a).toNat)
 case atStart=>exact⟨0,0,K,[],rfl,Nat.zero_le _,⟨rfl⟩,⟨by rw[HR.out,List.drop_zero,List.nil_append]⟩,⟨by have:=HAT.out;exact⟨by omega,this.2,Nat.zero_le _⟩⟩,HS⟩
 case round =>
  clear HS HAT HR;obtain⟨i,iv,K',out,rfl,hi,HI,HA,HB,HSr⟩:=hrel
  by_cases hlt:i<l.length
  ·have hge:0≤iv:=by have:=HI.out;omega
   have hl2:iv<(l.length:Int):=by have:=HI.out;omega
   have hwi:IntKind.i64.wrap (iv+1)=iv+1:=IntWalk.i64_in _ (by omega);obtain⟨ad,hA3,d⟩:=Kd.at_int (HC.out _ HSr.out.low) iv hge hl2;obtain⟨x,hx⟩:∃x,x=YteaocbonofboeaaGreatW.PrintWords.rd l iv:=⟨_,rfl⟩;rw[← hx]at d;have HX:=QA hx;have HAD:=QA hA3;clear hx hA3;obtain⟨sz,sg,at_,fr⟩:=K';have hA4:=HAD.out;subst hA4
   go_wp2_with (go_at_call 127;refine(cut_one b g sz sg at_ fr x out _ _ ⟨HSr.out.k,HSr.out.row,Below.refl _ _,KT.refl _,HSr.out.bg⟩ (Nat.le_trans hbw HSr.out.low.size) (by have:=HB.out.1;dsimp only at this;omega) (by have:=HB.out.2.1;exact this) (by have:=HB.out.2.2;omega)).mono ?_;rintro ee w2 ⟨v2,rfl,h2⟩;have HS2:=QA (show KSt w w2 b g (cutN (sz,sg,at_,fr) x) (out++cutO (sz,sg,at_,fr) x) v2 from⟨h2.k,h2.row,HSr.out.low.trans h2.low,HSr.out.kt.trans h2.kt,h2.bg⟩);clear h2)
   go_roundw
   case rel =>
    refine⟨i+1,iv+1,cutN (sz,sg,at_,fr) x,out++cutO (sz,sg,at_,fr) x,rfl,hlt,⟨by have:=HI.out;omega⟩,⟨?_⟩,⟨?_⟩,HS2⟩
    ·have e1:iv=(i:Int):=HI.out;have e2:l.drop i=x :: l.drop (i+1):=by
      rw[HX.out,e1,List.drop_eq_getElem_cons hlt];simp[YteaocbonofboeaaGreatW.PrintWords.rd,List.getD_eq_getElem?_getD,List.getElem?_eq_getElem hlt]
     rw[HA.out,e2];simp only[cutA,List.append_assoc]
    ·have h3:=cutN_at (K:=(sz,sg,at_,fr)) (x:=x) HB.out.1 HB.out.2.1;have h4:=Qjy (sz,sg,at_,fr) x;have h5:=HB.out.2.2;refine⟨by have:=h3.1;omega,h3.2,by rw[List.length_append];omega⟩
   case measure=>have:=HI.out;simp[intOf];omega
  ·obtain rfl:i=l.length:=by omega
   have e1:iv=_:=HI.out;subst e1;have hA:=HA.out;rw[List.drop_of_length_le (Nat.le_refl _)]at hA;have HA2:=QA hA;clear hA HA;go_wp2;go_ret
   refine⟨_,rfl,?_⟩;rw[HA2.out];simp only[cutA,List.append_nil];exact HSr.out
def ixOf(l:List Int)(c:Int):Int:=Lib.indexByte (Lib.bytesOf l) c.toNat.toUInt8
def Qaf.f(l0:List Int)(a1:Int):Option Int:=some (ixOf l0 a1)
theorem Qaf.calls(A0:Option Addr)(c0:Nat)(l0:List Int)(a1:Int)(r:Int)(w:World)(hr0:Kd.C (Kd.int .u8) w A0 l0.length l0)(hc0:l0.length≤c0)(h:Qaf.f l0 a1=some r) :
  Calls Tryz.prog 68 #[.slice A0 l0.length c0,.int .u8 a1] w fun e w'=>e=.returned (.int .i64 r)∧Drawn0 w w':=by
 unfold Qaf.f at h
 cases h
 have hcall:(callFunc 119 #[.slice A0 l0.length c0,.int .u8 a1]).run Tryz.prog w=.ok (.value (.int .i64 (ixOf l0 a1))) w:=by
  rw[run_callFunc_extern Tryz.func119 qq_2 qq_2 qq_2 (e:=Extern.BytealgIndexByte.indexByte) qq_2]
  cases A0 with
  | none =>
   obtain rfl:l0=[]:=by
    cases l0 with
    | nil=>rfl
    | cons a t=>obtain⟨ad,c,h1,_⟩:=Kd.C_get hr0 0 0 (by omega) (by simp);cases h1
   rw[Lib.run_indexByteNil];rfl
  | some ad =>
   rw[Lib.run_indexByteAt w ad l0.length c0 l0 rfl (fun i hi=>?_)]
   ·rfl
   ·obtain⟨a,ha,hx⟩:=Kd.at_int hr0 (i:Int) (by omega) (by omega)
    cases ha
    simpa [rd]using hx
 go_enter Tryz.func68,Tryz.ntmps68
 go_wp2;go_ret
 exact⟨rfl,Drawn0.refl _⟩
end Go.Proofs.YteaocbonofboeaaGreat.C
end
