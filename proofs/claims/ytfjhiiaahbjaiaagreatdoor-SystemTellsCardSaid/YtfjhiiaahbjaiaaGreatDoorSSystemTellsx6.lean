/- Words and walks, shortened by a program: what this claim's functions answer, and that other memory stays. -/
import Derived.Test.YtfjhiiaahbjaiaaGreatDoorSSystemTellsx0
import Derived.Test.YtfjhiiaahbjaiaaGreatDoorSSystemTellsx3
import Derived.Test.YtfjhiiaahbjaiaaGreatDoorSSystemTellsx5
namespace Go.Proofs.YtfjhiiaahbjaiaaGreatDoor.HSystemTells
open Go.RowKit Go.Proofs.YtfjhiiaahbjaiaaGreatDoorW.PrintWords Go.Proofs.YtfjhiiaahbjaiaaGreatDoorW.PrintWords.Kd Go.Proofs.YtfjhiiaahbjaiaaGreatDoorW.PrintLast Go.Proofs.YtfjhiiaahbjaiaaGreatDoorW.PrintMore Go.Proofs.YtfjhiiaahbjaiaaGreatDoorW.PrintMore.Kd
attribute [local go_sem] Xb2 Xb0 Xcd Xcc Xbq Xbp Xb1 Xbz
set_option linter.unusedVariables false
set_option linter.unusedSimpArgs false
mutual
def Xx.j1:Nat→Int→Int→Int→Int→Int→List Int→List Int→List (S35)→Option (Int)
 |0,_,_,_,_,_,_,_,_=>none
 |k+1,x3,x5,x6,I,B,D,s,z=>if(s.length:Int)=x5 then(if(z.length:Int)=x6 then((X7.f k s I).bind fun G=>(if G=true then(some (-1))else((Xa5.f k z).bind fun H=>(if H=true then(some (-1))else(some x3)))))else(some (-1)))else(some (-1))
def Xx.j0:Nat→Int→Int→Int→Int→Bool→Int→List Int→List Int→List (S35)→Option (Int)
 |0,_,_,_,_,_,_,_,_,_=>none
 |k+1,x3,x5,x6,G,H,s,z,B,D=>if H=true then(Xx.j1 k x3 x3 x6 G s z B D)else(if G=4 then(Xx.j1 k x3 x5 x3 G s z B D)else(if G=5 then(Xx.j1 k x3 x5 x6 G s z B D)else(some (-1))))
end
def Xx.f(k:Nat)(s:Int)(B:List Int)(D:List Int)(G:List (S35)):Option (Int):=(X6.f k B).bind fun z=>(if z.2=true then(if s=1 then(Xx.j0 k z.1 0 0 s (s==1) s B D G)else(if s=2 then(Xx.j0 k z.1 0 0 s (s==2) s B D G)else(Xx.j0 k z.1 0 0 s (s==3) s B D G)))else(some (-1)))
theorem Xx.mono_l:∀k,(∀y0 y1 y2 y3 y4 y5 y6 y7,LeO (Xx.j1 k y0 y1 y2 y3 y4 y5 y6 y7) (Xx.j1 (k+1) y0 y1 y2 y3 y4 y5 y6 y7))∧(∀y0 y1 y2 y3 y4 y5 y6 y7 y8,LeO (Xx.j0 k y0 y1 y2 y3 y4 y5 y6 y7 y8) (Xx.j0 (k+1) y0 y1 y2 y3 y4 y5 y6 y7 y8))
 |0=>⟨fun _ _ _ _ _ _ _ _ r h=>by simp[Xx.j1]at h,fun _ _ _ _ _ _ _ _ _ r h=>by simp[Xx.j0]at h⟩
 |k+1=>by
  obtain⟨ih0,ih1⟩:=Xx.mono_l k;refine⟨?_,?_⟩
  ·intro y0 y1 y2 y3 y4 y5 y6 y7;unfold Xx.j1;have im0:=@Xa5.mono;have im1:=@X7.mono;have im2:=@X6.mono;exact mz3
  ·intro y0 y1 y2 y3 y4 y5 y6 y7 y8;unfold Xx.j0;have im0:=@Xa5.mono;have im1:=@X7.mono;have im2:=@X6.mono;exact mz3
theorem Xx.mono:∀a0 a1 a2 a3 k,LeO (Xx.f k a0 a1 a2 a3) (Xx.f (k+1) a0 a1 a2 a3):=by intro a0 a1 a2 a3 k;obtain⟨ih0,ih1⟩:=Xx.mono_l k;unfold Xx.f;have im0:=@Xa5.mono;have im1:=@X7.mono;have im2:=@X6.mono;exact mz3
set_option maxHeartbeats 8000000 in
set_option maxRecDepth 100000 in
theorem Xx.calls(k:Nat)(D:Int)(K:Option Addr)(L:Nat)(I:List Int)(O:Option Addr)(U:Nat)(G:List Int)(aa:Option Addr)(ab:Nat)(J:List (S35))(r:Int)(w:World)(aq:Kd.C (Kd.int .i64) w K I.length I)(ar:I.length≤L)(au:Kd.C (Kd.int .i64) w O G.length G)(av:G.length≤U)(aw:Kd.C k35 w aa J.length J)(ax:J.length≤ab)(h:Xx.f k D I G J=some r):
  Calls Tryz.prog 90 #[.agg #[.int .i64 D,.slice K I.length L,.slice O G.length U,.slice aa J.length ab]] w fun e w'=>e= .returned (.int .i64 r)∧Below w.heap.size w w':=by
 have hmf:∀(fn:Fn)(first cap:Array Value)(w:World),(Instr.makeFunc fn first cap).run Tryz.prog w= .ok (.func fn first cap) w:=fun _ _ _ _=>rfl;have a8:=Tryz.underlying32;have ay:=zq aq;have aA:=zq ar;clear aq ar;have ae:=zq au;have af:=zq av;clear au av;have aB:=zq aw;have aC:=zq ax;clear aw ax;have HB:=zq (Below.refl w.heap.size w);unfold Xx.f at h;have H:=h;clear h;refine yv H ?_;clear H;rintro⟨ac,a9⟩ A2 H;dsimp only at H;refine yB H ?_ ?_<;>clear H<;>rintro rfl H
 ·obtain rfl:=yo H;go_enter Tryz.func90,Tryz.ntmps90;go_wp2_with(first|((with_reducible refine Xk (N:=1) rfl ?_);(try(refine Xah Xbm ?_;dsimp only));refine bxw 1 32 #[.int .i64 D,.slice K I.length L,.slice O G.length U,.slice aa J.length ab] ?_;intro B hg bf hbox hb;have s:=zq (hbox);have z:=zq ((J20:w.heap.size≤B));replace HB:=zq (Xb J0 hb);clear hb hbox hg;have bg:=cz4 s.out)|((with_reducible refine Xh (f:=28) rfl ?_);refine gL Tryz.func28 (X6.calls k _ _ I ac false _ (zc (lp ay.out HB.out)) aA.out A2.out) ?_;rintro e w' ⟨rfl,⟨nd,rfl⟩⟩;refine⟨_,rfl,?_⟩));go_ret;exact⟨J1,J5⟩
 have aG:=zq H;clear H;go_enter Tryz.func90,Tryz.ntmps90
 go_upto_block 0 with(first|((with_reducible refine Xk (N:=1) rfl ?_);(try(refine Xah Xbm ?_;dsimp only));refine Xda ?hg (N:=1) ?hd (cs:=#[.int .i64 D,.slice K I.length L,.slice O G.length U,.slice aa J.length ab]) (t:=32) ?hr ?_;(case hd=>rfl);(case hg=>rfl);(case hr=>first|(go_simp;done)|(go_simp;rfl));intro B hg w5 hbox hb;have aK:=zq (Xb J0 hb);have aL:=zq (hbox);have aM:=zq ((J20:w.heap.size≤B));have aN:=zq ((J20:w.heap.size≤B));clear HB;have HB:=aK;have s:=aL;have aP:=aM;have z:=aN;clear aK aL aM aN;clear hb hbox hg;have ah:w5.cell? ⟨B,0,none⟩=some (.int .i64 D):=(Xac s.out 0).trans rfl;have ai:w5.cell? ⟨B,1,none⟩=some (.slice K I.length L):=(Xac s.out 1).trans rfl;have aj:w5.cell? ⟨B,2,none⟩=some (.slice O G.length U):=(Xac s.out 2).trans rfl;have ak:w5.cell? ⟨B,3,none⟩=some (.slice aa J.length ab):=(Xac s.out 3).trans rfl;have al:=Xbb s.out 0;have am:=Xbb s.out 1;have an:=Xbb s.out 2;have ao:=Xbb s.out 3)|((with_reducible refine Xh (f:=28) rfl ?_);refine gL Tryz.func28 (X6.calls k _ _ I ac true _ (zc (lp ay.out HB.out)) aA.out A2.out) ?_;rintro e w' ⟨rfl,⟨nd,rfl⟩⟩;refine⟨_,rfl,?_⟩))
 (try simp only[Act.put,List.setIfInBounds_toArray,List.set_cons_zero,List.set_cons_succ]);go_cut [5,6] (fun v5 v6 wc=>∃(kq:Nat)(aD:Int)(aE:Int),v5= .int .i64 aD∧v6= .int .i64 aE∧Aside0 (Xx.j1 kq ac aD aE D D I G J=some r)∧Aside0 (kq≤k)∧Aside0 (wc.heap[B]?=some (.cells #[.int .i64 D,(.slice K I.length L),(.slice O G.length U),(.slice aa J.length ab)] 32 (0,0)))∧Aside0 (Below w.heap.size w wc));case first=>
  have H:=aG.out;clear aG;have aH:=zq H;clear H
  go_upto_if 18 with(fail)
  go_cut [18] (fun aQ wc=>∃(kq:Nat)(ag:Bool),aQ= .bool ag∧Aside0 (Xx.j0 kq ac 0 0 D ag D I G J=some r)∧Aside0 (kq≤k)∧Aside0 (wc.heap[B]?=some (.cells #[.int .i64 D,(.slice K I.length L),(.slice O G.length U),(.slice aa J.length ab)] 32 (0,0)))∧Aside0 (Below w.heap.size w wc));case first=>
   have H:=aH.out;clear aH;refine yF H ?_ ?_<;>clear H<;>rintro⟨ap,ba,c8⟩ H
   ·clear c8;(first|rw[ap]|(simp only[Xau,Xax];rw[ap])|skip);have H':=zq H;clear H;go_wp2;go_meet;case rel=>exact⟨_,((D==1)),J3,H',⟨J42⟩,⟨J12⟩,⟨J5⟩⟩
   (first|rw[ap]|(simp only[Xau,Xax];rw[ap])|skip);refine yE H ?_ ?_<;>clear H<;>rintro⟨bb,bc,c9⟩ H
   ·have H':=zq H;clear H;go_wp2;go_meet;case rel=>exact⟨_,((D==3)),J3,H',⟨J42⟩,⟨J12⟩,⟨J5⟩⟩
   clear c9;have H':=zq H;clear H;go_wp2;go_meet;case rel=>exact⟨_,((D==2)),J3,H',⟨J42⟩,⟨J12⟩,⟨J5⟩⟩
  case rest=>
   clear aH;try clear ah
   try clear ai
   try clear aj
   try clear ak
   try clear al
   try clear am
   try clear an
   try clear ao
   obtain⟨kq,ag,rfl,HA,aI,s,HB⟩:=hcut;cases kq with
   |zero=>exact absurd HA.out (by simp[Xx.j0])
   |succ bh=>
    have H:=HA.out;clear HA;simp only[Xx.j0]at H;refine yC H ?_ ?_<;>clear H<;>rintro rfl H
    ·have H':=zq H;clear H;go_wp2;go_meet;case rel=>exact⟨_,(ac),(0),J3,J3,H',⟨by have:=aI.out;first|omega|exact Nat.le_refl _⟩,⟨J12⟩,⟨J5⟩⟩
    refine yF H ?_ ?_<;>clear H<;>rintro⟨aR,aS,aT⟩ H
    ·clear aT;have H':=zq H;clear H;go_wp2;go_meet;case rel=>exact⟨_,(0),(ac),J3,J3,H',⟨by have:=aI.out;first|omega|exact Nat.le_refl _⟩,⟨J12⟩,⟨J5⟩⟩
    refine yE H ?_ ?_<;>clear H<;>rintro⟨aU,aV,aW⟩ H
    ·obtain rfl:=yo H;go_wp2;go_ret;exact⟨J1,J5⟩
    clear aW;have H':=zq H;clear H;go_wp2;go_meet;case rel=>exact⟨_,(0),(0),J3,J3,H',⟨by have:=aI.out;first|omega|exact Nat.le_refl _⟩,⟨J12⟩,⟨J5⟩⟩
 case rest=>
  clear aG;try clear ah
  try clear ai
  try clear aj
  try clear ak
  try clear al
  try clear am
  try clear an
  try clear ao
  obtain⟨kq,aD,aE,rfl,rfl,HA,bi,s,HB⟩:=hcut;cases kq with
  |zero=>exact absurd HA.out (by simp[Xx.j1])
  |succ aF=>
   have H:=HA.out;clear HA;simp only[Xx.j1]at H;refine yE H ?_ ?_<;>clear H<;>rintro⟨aX,aY,aZ⟩ H
   ·obtain rfl:=yo H;have bj:=cz4 s.out;go_wp2;go_ret;exact⟨J1,J5⟩
   clear aZ;refine yE H ?_ ?_<;>clear H<;>rintro⟨a5,a6,a7⟩ H
   ·obtain rfl:=yo H;have bk:=cz4 s.out;go_wp2;go_ret;exact⟨J1,J5⟩
   clear a7;refine yv H ?_;clear H;rintro bd aJ H;refine yC H ?_ ?_<;>clear H<;>rintro rfl H
   ·obtain rfl:=yo H;have bl:=cz4 s.out;go_wp2_with(first|(go_at_call 95;(with_reducible refine(X7.calls aF _ _ G D B true _ ((Xac (zk s.out) 0).trans rfl) ?side1 ?side2 aJ.out).mono ?_);(case side1=>exact zc (lp ae.out HB.out));(case side2=>exact af.out);rintro e w' ⟨rfl,⟨nd,rfl⟩⟩));go_ret;exact⟨J1,J5⟩
   refine yv H ?_;clear H;rintro be aO H;refine yC H ?_ ?_<;>clear H<;>rintro rfl H
   ·obtain rfl:=yo H;have bm:=cz4 s.out;go_wp2_with(first|(go_at_call 95;(with_reducible refine(X7.calls aF _ _ G D B false _ ((Xac (zk s.out) 0).trans rfl) ?side1 ?side2 aJ.out).mono ?_);(case side1=>exact zc (lp ae.out HB.out));(case side2=>exact af.out);rintro e w' ⟨rfl,⟨nd,rfl⟩⟩)|(go_at_call 96;(with_reducible refine(Xa5.calls aF _ _ J true _ ?side1 ?side2 aO.out).mono ?_);(case side1=>repeat(first|exact(lp aB.out (zs1 z.out))|(with_reducible refine Kd.C_alloc ?_ _)|(with_reducible refine lB ?_ _)|(with_reducible refine Kd.C_drew ?_)));(case side2=>exact aC.out);rintro e bn ⟨rfl,hb⟩;replace s:=zq (Xg (zk s.out) hb);replace HB:=zq (Xb (zs1 z.out) hb);(try clear hb)));go_ret;exact⟨J1,J5⟩
   obtain rfl:=yo H;have bo:=cz4 s.out;go_wp2_with(first|(go_at_call 95;(with_reducible refine(X7.calls aF _ _ G D B false _ ((Xac (zk s.out) 0).trans rfl) ?side1 ?side2 aJ.out).mono ?_);(case side1=>exact zc (lp ae.out HB.out));(case side2=>exact af.out);rintro e w' ⟨rfl,⟨nd,rfl⟩⟩)|(go_at_call 96;(with_reducible refine(Xa5.calls aF _ _ J false _ ?side1 ?side2 aO.out).mono ?_);(case side1=>repeat(first|exact(lp aB.out (zs1 z.out))|(with_reducible refine Kd.C_alloc ?_ _)|(with_reducible refine lB ?_ _)|(with_reducible refine Kd.C_drew ?_)));(case side2=>exact aC.out);rintro e bp ⟨rfl,hb⟩;replace s:=zq (Xg (zk s.out) hb);replace HB:=zq (Xb (zs1 z.out) hb);(try clear hb)));go_ret;exact⟨J1,J5⟩
end Go.Proofs.YtfjhiiaahbjaiaaGreatDoor.HSystemTells
