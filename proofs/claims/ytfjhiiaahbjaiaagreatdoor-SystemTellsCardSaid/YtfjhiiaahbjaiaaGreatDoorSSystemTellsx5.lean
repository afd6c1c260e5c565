/- Words and walks, shortened by a program: what this claim's functions answer, and that other memory stays. -/
import Derived.Test.YtfjhiiaahbjaiaaGreatDoorSSystemTellsx0
import Derived.Test.YtfjhiiaahbjaiaaGreatDoorSSystemTellsx2
namespace Go.Proofs.YtfjhiiaahbjaiaaGreatDoor.HSystemTells
open Go.RowKit Go.Proofs.YtfjhiiaahbjaiaaGreatDoorW.PrintWords Go.Proofs.YtfjhiiaahbjaiaaGreatDoorW.PrintLast Go.Proofs.YtfjhiiaahbjaiaaGreatDoorW.PrintMore
attribute [local go_sem] Xb2 Xb0 Xcd Xcc Xbq Xbp Xb1 Xbz
set_option linter.unusedVariables false
set_option linter.unusedSimpArgs false
def Xaf.j0:Nat→Int→Bool→Option (Bool)
 |0,_,_=>none
 |k+1,x0,x3=>if x3=true then(some true)else(if 57343<x0 then(if x0≤1114111 then(some true)else(some false))else(some false))
def Xaf.f(k:Nat)(a0:Int):Option (Bool):=if 0≤a0 then(Xaf.j0 k a0 (decide (a0<55296)))else(Xaf.j0 k a0 false)
theorem Xaf.mono_l:∀k,(∀y0 y1,LeO (Xaf.j0 k y0 y1) (Xaf.j0 (k+1) y0 y1))
 |0=>fun _ _ r h=>by simp[Xaf.j0]at h
 |k+1=>by
  have ih0:=Xaf.mono_l k
  ·intro y0 y1;unfold Xaf.j0;exact mz0
theorem Xaf.mono:∀a0 k,LeO (Xaf.f k a0) (Xaf.f (k+1) a0):=by intro a0 k;have ih0:=Xaf.mono_l k;unfold Xaf.f;exact mz0
set_option maxHeartbeats 8000000 in
set_option maxRecDepth 100000 in
theorem Xaf.calls(k:Nat)(a0:Int)(r:Bool)(w:World)(h:Xaf.f k a0=some r):
  Calls Tryz.prog 101 #[.int .i32 a0] w fun e w'=>e= .returned (.bool r)∧Drawn0 w w':=by
 unfold Xaf.f at h;have H:=h;clear h;have B:=zq H;clear H;go_enter Tryz.func101,Tryz.ntmps101;go_upto_region 1 with(fail);go_cut [3] (fun v3 wc=>∃(kq:Nat)(z:Bool),v3= .bool z∧Aside0 (Xaf.j0 kq a0 z=some r)∧Aside0 (kq≤k)∧Drawn0 w wc);case first=>
  have H:=B.out;clear B;refine yd H ?_ ?_<;>clear H<;>rintro s H
  ·(first|rw[s]|(simp only[Xau,Xax];rw[s])|skip);have H':=zq H;clear H;go_wp2;go_meet;case rel=>exact⟨_,(false),J3,H',⟨J42⟩,J7⟩
  (first|rw[s]|(simp only[Xau,Xax];rw[s])|skip);have H':=zq H;clear H;go_wp2;go_meet;case rel=>exact⟨_,(decide (a0<55296)),J3,H',⟨J42⟩,J7⟩
 case rest=>
  clear B;obtain⟨kq,z,rfl,HA,I,⟨J,rfl⟩⟩:=hcut;cases kq with
  |zero=>exact absurd HA.out (by simp[Xaf.j0])
  |succ K=>
   have H:=HA.out;clear HA;simp only[Xaf.j0]at H;refine yC H ?_ ?_<;>clear H<;>rintro rfl H
   ·obtain rfl:=yo H;go_wp2;go_ret;exact⟨J3,J7⟩
   refine yd H ?_ ?_<;>clear H<;>rintro D H
   ·obtain rfl:=yo H;go_wp2;go_ret;exact⟨J3,J7⟩
   refine yd H ?_ ?_<;>clear H<;>rintro G H
   ·obtain rfl:=yo H;go_wp2;go_ret;exact⟨J3,J7⟩
   obtain rfl:=yo H;go_wp2;go_ret;exact⟨J3,J7⟩
def Xbw.f(k:Nat)(a0:Int)(a1:Int):Option (Bool):=if a0=1 then(some ((Go.bits .andNot .i64 a1 1)==0))else(if a0=2 then(some true)else(if a0=3 then(if a1=(wrap64 (wrap32 (a1)))then((Xaf.f k (wrap32 (a1))).bind fun s=>(some s))else(some false))else(some false)))
theorem Xbw.mono:∀a0 a1 k,LeO (Xbw.f k a0 a1) (Xbw.f (k+1) a0 a1):=by intro a0 a1 k;unfold Xbw.f;have im0:=@Xaf.mono;exact mz3
set_option maxHeartbeats 8000000 in
set_option maxRecDepth 100000 in
theorem Xbw.calls(k:Nat)(a0:Int)(a1:Int)(r:Bool)(w:World)(h:Xbw.f k a0 a1=some r):
  Calls Tryz.prog 94 #[.int .i64 a0,.int .i64 a1] w fun e w'=>e= .returned (.bool r)∧Drawn0 w w':=by
 unfold Xbw.f at h;have H:=h;clear h;refine yF H ?_ ?_<;>clear H<;>rintro⟨z,B,c3⟩ H
 ·clear c3;obtain rfl:=yo H;go_enter Tryz.func94,Tryz.ntmps94;go_wp2;go_ret;exact⟨J3,J7⟩
 refine yF H ?_ ?_<;>clear H<;>rintro⟨D,G,c4⟩ H
 ·clear c4;obtain rfl:=yo H;go_enter Tryz.func94,Tryz.ntmps94;go_wp2;go_ret;exact⟨J3,J7⟩
 refine yE H ?_ ?_<;>clear H<;>rintro⟨I,J,c5⟩ H
 ·obtain rfl:=yo H;go_enter Tryz.func94,Tryz.ntmps94;go_wp2;go_ret;exact⟨J3,J7⟩
 clear c5;refine yE H ?_ ?_<;>clear H<;>rintro⟨K,L,c6⟩ H
 ·obtain rfl:=yo H;go_enter Tryz.func94,Tryz.ntmps94;go_wp2;go_ret;exact⟨J3,J7⟩
 clear c6;refine yv H ?_;clear H;rintro s A7 H;obtain rfl:=yo H;go_enter Tryz.func94,Tryz.ntmps94;go_wp2_with(first|(go_at_call 101;(with_reducible refine(Xaf.calls k (wrap32 (a1)) s _ A7.out).mono ?_);rintro e w' ⟨rfl,⟨nd,rfl⟩⟩));go_ret;exact⟨J3,J7⟩
def Xb3.f(k:Nat)(a0:Int)(a1:Int):Option (Bool):=(Xbw.f k a1 a0).bind fun s=>(some s)
theorem Xb3.mono:∀a0 a1 k,LeO (Xb3.f k a0 a1) (Xb3.f (k+1) a0 a1):=by intro a0 a1 k;unfold Xb3.f;have im0:=@Xbw.mono;exact mz3
set_option maxHeartbeats 8000000 in
set_option maxRecDepth 100000 in
theorem Xb3.calls(k:Nat)(a0:Int)(a1:Int)(s:Nat)(r:Bool)(w:World)(B:w.cell? ⟨s,0,none⟩=some (.int .i64 a1))(h:Xb3.f k a0 a1=some r):
  Calls Tryz.prog 93 #[.int .i64 a0,.pointer (some ⟨s,0,none⟩)] w fun e w'=>e= .returned (.bool r)∧Drawn0 w w':=by
 unfold Xb3.f at h;have H:=h;clear h;refine yv H ?_;clear H;rintro z A3 H;obtain rfl:=yo H;go_enter Tryz.func93,Tryz.ntmps93;go_wp2_with(first|((with_reducible refine Xh (f:=94) rfl ?_);refine gL Tryz.func94 (Xbw.calls k a1 a0 z _ A3.out) ?_;rintro e w' ⟨rfl,⟨nd,rfl⟩⟩;refine⟨_,rfl,?_⟩));go_ret;exact⟨J3,J7⟩
theorem goesCv_{P:Program}{ops:Array Oper}{Q:Exit→Act→World→Prop}{rest:List Oper}{oi:Oper}{a:Act}{w:World}(N:Option Tmp)(hd:oi.dst=N)(hg:oi.guard=none){f:FuncId}{fn:Func}{s:Array Operand}{ts:Array TypeId}(hf:P.funcs[f]?=some fn)(hname:(fn.name== "runtime.NumGoroutine")=false)(hb:fn.body.isSome=true)(args cap all:Array Value)(hall:args++cap=all)(x:Operand)
  (hop:oi.op= .call {callee:=.value x,args:=s,argTypes:=ts})(hx:a.eval x= .func (.func f) #[] cap)(hargs:s.map a.eval=args)
  (h:Calls P f all w fun e w'=>∃v,e= .returned v∧wpList P ops Q rest (a.put N v) w'):wpList P ops Q (oi::rest) a w:=by
 subst hall;refine wpList_plain hg fun K hK=>?_;have he:=enters_ hf hname hb (args++cap) w;have hrun:(execOp a.eval oi).run P w= .ok (.enter f (args++cap)) w:=by unfold execOp;simp[hop,hx,resolve,Deferred.ofValue,invoke,hargs,he]
 unfold Oper.wp;rw[hrun,Oper.upon_enter];refine h.mono fun e w'' hh=>?_;obtain⟨v,rfl,hk⟩:=hh;subst hd;exact hK _ _ hk
def X7.l0:Nat→Int→List Int→Int→Int→Option (Bool)
 |0,_,_,_,_=>none
 |k+1,x1,x7,x8,x9=>if x9<x8 then(if 0≤x9 then(if x9<(x7.length:Int)then((Xb3.f k (rd x7 x9) x1).bind fun s=>(if s=true then(X7.l0 k x1 x7 x8 (wrap64 (x9+1)))else(some true)))else(none))else(none))else(some false)
def X7.f(k:Nat)(l0:List Int)(a1:Int):Option (Bool):=X7.l0 k a1 l0 (l0.length:Int) 0
theorem X7.mono_l:∀k,(∀y0 y1 y2 y3,LeO (X7.l0 k y0 y1 y2 y3) (X7.l0 (k+1) y0 y1 y2 y3))
 |0=>fun _ _ _ _ r h=>by simp[X7.l0]at h
 |k+1=>by
  have ih0:=X7.mono_l k
  ·intro y0 y1 y2 y3;unfold X7.l0;have im0:=@Xb3.mono;exact mz3
theorem X7.mono:∀a0 a1 k,LeO (X7.f k a0 a1) (X7.f (k+1) a0 a1):=by intro a0 a1 k;have ih0:=X7.mono_l k;unfold X7.f;have im0:=@Xb3.mono;exact mz3
set_option maxHeartbeats 8000000 in
set_option maxRecDepth 100000 in
theorem X7.calls(k:Nat)(A0:Option Addr)(c0:Nat)(l0:List Int)(a1:Int)(D:Nat)(r:Bool)(w:World)(G:w.cell? ⟨D,0,none⟩=some (.int .i64 a1))(L:Kd.C (Kd.int .i64) w A0 l0.length l0)(O:l0.length≤c0)(h:X7.f k l0 a1=some r):
  Calls Tryz.prog 95 #[.slice A0 l0.length c0,.func (.func 93) #[] #[.pointer (some ⟨D,0,none⟩)]] w fun e w'=>e= .returned (.bool r)∧Drawn0 w w':=by
 have U:=zq L;have ag:=zq O;clear L O;unfold X7.f at h;have H:=h;clear h;have H':=zq H;clear H;go_enter Tryz.func95,Tryz.ntmps95;go_wp2
 go_loopg [9] k (fun kq v9 w'=>∃(s:Int),v9= .int .i64 s∧Aside0 (X7.l0 kq a1 l0 (l0.length:Int) s=some r)∧Aside0 (kq≤k)∧Drawn0 w w')
 case atStart=>exact⟨(0),J3,H',⟨Nat.le_refl _⟩,J7⟩
 case round=>
  clear H';obtain⟨s,rfl,HA,aa,⟨m1,rfl⟩⟩:=hrel;cases gk with
  |zero=>exact absurd HA.out (by simp[X7.l0])
  |succ k1=>
   have H:=HA.out;clear HA;simp only[X7.l0]at H;refine yd H ?_ ?_<;>clear H<;>rintro ab H
   ·obtain rfl:=yo H;go_wp2;go_ret;exact⟨J3,J7⟩
   refine yj H ?_;clear H;intro ac H;refine yj H ?_;clear H;intro ae H;refine yv H ?_;clear H;rintro af A6 H;refine yB H ?_ ?_<;>clear H<;>rintro rfl H
   ·obtain rfl:=yo H;have z:0≤(s:Int):=of_decide_eq_true J2;have B:s<(l0.length:Int):=of_decide_eq_true J2;obtain⟨K,I,J⟩:=Kd.at_int U.out s z B;cases I;replace z:=eq_true z;replace B:=eq_true B;go_wp2_with(first|((with_reducible refine Xk (N:=15) rfl ?_);refine goesCv_ (some 15) rfl rfl Tryz.func93 J30 rfl #[.int .i64 (rd l0 s)] #[.pointer (some ⟨D,0,none⟩)] #[.int .i64 (rd l0 s),.pointer (some ⟨D,0,none⟩)] rfl (.tmp 13) rfl rfl J6 ?_;(with_reducible refine(Xb3.calls k1 (rd l0 s) a1 D false _ (by first|exact G|simpa using G) A6.out).mono ?_);rintro e w' ⟨rfl,⟨nd,rfl⟩⟩;refine⟨_,rfl,?_⟩));go_ret;exact⟨J3,J7⟩
   have H':=zq H;clear H;have z:0≤(s:Int):=of_decide_eq_true J2;have B:s<(l0.length:Int):=of_decide_eq_true J2;obtain⟨K,I,J⟩:=Kd.at_int U.out s z B;cases I;replace z:=eq_true z;replace B:=eq_true B;go_wp2_with(first|((with_reducible refine Xk (N:=15) rfl ?_);refine goesCv_ (some 15) rfl rfl Tryz.func93 J30 rfl #[.int .i64 (rd l0 s)] #[.pointer (some ⟨D,0,none⟩)] #[.int .i64 (rd l0 s),.pointer (some ⟨D,0,none⟩)] rfl (.tmp 13) rfl rfl J6 ?_;(with_reducible refine(Xb3.calls k1 (rd l0 s) a1 D true _ (by first|exact G|simpa using G) A6.out).mono ?_);rintro e w' ⟨rfl,⟨nd,rfl⟩⟩;refine⟨_,rfl,?_⟩))
   go_roundg k1
   case measure=>have:=aa.out;omega
   case rel=>exact⟨(wrap64 (s+1)),J3,H',⟨by have:=aa.out;omega⟩,J7⟩
def Xa5.l0:Nat→List (S35)→Int→Int→Option (Bool)
 |0,_,_,_=>none
 |k+1,x7,x8,x9=>if x9<x8 then(if 0≤x9 then(if x9<(x7.length:Int)then((Xaa.f k ((Xw x7 x9).f0) ((Xw x7 x9).f1)).bind fun s=>(if s=true then(Xa5.l0 k x7 x8 (wrap64 (x9+1)))else(some true)))else(none))else(none))else(some false)
def Xa5.f(k:Nat)(l0:List (S35)):Option (Bool):=Xa5.l0 k l0 (l0.length:Int) 0
theorem Xa5.mono_l:∀k,(∀y0 y1 y2,LeO (Xa5.l0 k y0 y1 y2) (Xa5.l0 (k+1) y0 y1 y2))
 |0=>fun _ _ _ r h=>by simp[Xa5.l0]at h
 |k+1=>by
  have ih0:=Xa5.mono_l k
  ·intro y0 y1 y2;unfold Xa5.l0;have im0:=@Xaa.mono;exact mz3
theorem Xa5.mono:∀a0 k,LeO (Xa5.f k a0) (Xa5.f (k+1) a0):=by intro a0 k;have ih0:=Xa5.mono_l k;unfold Xa5.f;have im0:=@Xaa.mono;exact mz3
set_option maxHeartbeats 8000000 in
set_option maxRecDepth 100000 in
theorem Xa5.calls(k:Nat)(A0:Option Addr)(c0:Nat)(l0:List (S35))(r:Bool)(w:World)(L:Kd.C k35 w A0 l0.length l0)(O:l0.length≤c0)(h:Xa5.f k l0=some r):
  Calls Tryz.prog 96 #[.slice A0 l0.length c0,.func (.func 27) #[] #[]] w fun e w'=>e= .returned (.bool r)∧Below w.heap.size w w':=by
 have ae:=Tryz.underlying35;have U:=zq L;have aj:=zq O;clear L O;have HB:=zq (Below.refl w.heap.size w);unfold Xa5.f at h;have H:=h;clear h;have H':=zq H;clear H;go_enter Tryz.func96,Tryz.ntmps96;go_wp2
 go_loopg [9] k (fun kq v9 w'=>∃(s:Int),v9= .int .i64 s∧Aside0 (Xa5.l0 kq l0 (l0.length:Int) s=some r)∧Aside0 (kq≤k)∧Aside0 (Below w.heap.size w w'))
 case atStart=>exact⟨(0),J3,H',⟨Nat.le_refl _⟩,⟨J0⟩⟩
 case round=>
  clear H';obtain⟨s,rfl,HA,aa,HB⟩:=hrel;cases gk with
  |zero=>exact absurd HA.out (by simp[Xa5.l0])
  |succ k1=>
   have H:=HA.out;clear HA;simp only[Xa5.l0]at H;refine yd H ?_ ?_<;>clear H<;>rintro af H
   ·obtain rfl:=yo H;go_wp2;go_ret;exact⟨J1,J0⟩
   refine yj H ?_;clear H;intro ag H;refine yj H ?_;clear H;intro ah H;refine yv H ?_;clear H;rintro ai A5 H;refine yB H ?_ ?_<;>clear H<;>rintro rfl H
   ·obtain rfl:=yo H;obtain⟨K,G,I,J,ab,ac⟩:=rdD U.out HB.out s;cases G;go_wp2_with(first|((with_reducible refine Xk (N:=6) rfl ?_);refine bxw 6 35 #[.int .i64 0,.int .i64 0] ?_;intro D hg ak hbox hb;have z:=zq (hbox);have B:=zq ((J20:w.heap.size≤D));replace HB:=zq (Xb J0 hb);clear hb hbox hg;have al:=cz2 z.out)|((with_reducible refine Xk (N:=15) rfl ?_);refine Xdd (some 15) rfl rfl Tryz.func27 J30 rfl #[.agg #[.int .i64 ((Xw l0 s).f0),.int .i64 ((Xw l0 s).f1)]] (.tmp 13) rfl rfl J6 ?_;(with_reducible refine(Xaa.calls k1 ((Xw l0 s).f0) ((Xw l0 s).f1) false _ A5.out).mono ?_);rintro e am ⟨rfl,hb⟩;refine⟨_,rfl,?_⟩;replace HB:=zq (Xb (zs1 B.out) hb);(try clear hb)));go_ret;exact⟨J1,J82⟩
   have H':=zq H;clear H;obtain⟨K,G,I,J,ab,ac⟩:=rdD U.out HB.out s;cases G;go_wp2_with(first|((with_reducible refine Xk (N:=6) rfl ?_);refine bxw 6 35 #[.int .i64 0,.int .i64 0] ?_;intro D hg w7 hbox hb;have z:=zq (hbox);have B:=zq ((J20:w.heap.size≤D));replace HB:=zq (Xb J0 hb);clear hb hbox hg;have Z8:=cz2 z.out)|((with_reducible refine Xk (N:=15) rfl ?_);refine Xdd (some 15) rfl rfl Tryz.func27 J30 rfl #[.agg #[.int .i64 ((Xw l0 s).f0),.int .i64 ((Xw l0 s).f1)]] (.tmp 13) rfl rfl J6 ?_;(with_reducible refine(Xaa.calls k1 ((Xw l0 s).f0) ((Xw l0 s).f1) true _ A5.out).mono ?_);rintro e w9 ⟨rfl,hb⟩;refine⟨_,rfl,?_⟩;replace z:=zq (Xg (g:=D) (o:=.cells #[.int .i64 ((Xw l0 s).f0),.int .i64 ((Xw l0 s).f1)] 35 (0,0)) J103 hb);replace HB:=zq (Xb (zs1 B.out) hb);(try clear hb)))
   go_roundg k1
   case measure=>have:=aa.out;omega
   case rel=>exact⟨(wrap64 (s+1)),J3,H',⟨by have:=aa.out;omega⟩,⟨J82⟩⟩
end Go.Proofs.YtfjhiiaahbjaiaaGreatDoor.HSystemTells
