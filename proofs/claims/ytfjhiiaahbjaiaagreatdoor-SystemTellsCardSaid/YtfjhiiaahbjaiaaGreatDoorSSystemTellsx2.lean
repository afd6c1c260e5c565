/- Words and walks, shortened by a program: what this claim's functions answer, and that other memory stays. -/
import Derived.Test.YtfjhiiaahbjaiaaGreatDoorSSystemTellsx0
import Derived.Test.YtfjhiiaahbjaiaaGreatDoorSSystemTellsx1
namespace Go.Proofs.YtfjhiiaahbjaiaaGreatDoor.HSystemTells
open Go.RowKit Go.Proofs.YtfjhiiaahbjaiaaGreatDoorW.PrintWords Go.Proofs.YtfjhiiaahbjaiaaGreatDoorW.PrintLast Go.Proofs.YtfjhiiaahbjaiaaGreatDoorW.PrintMore
attribute [local go_sem] Xb2 Xb0 Xcd Xcc Xbq Xbp Xb1 Xbz
set_option linter.unusedVariables false
set_option linter.unusedSimpArgs false
attribute [local go_sem high] eqA35
def X8.l0:Nat→Int→Int→Option (Int×Int×Bool)
 |0,_,_=>none
 |k+1,z,s=>if(Int.tmod z 10)=0 then(if s≤32767 then(X8.l0 k (wrap64 (Int.tdiv z 10)) (wrap64 (s+1)))else(if s<(-32768)then(some (0,0,false))else(if s>32767 then(some (0,0,false))else(some (z,s,true)))))else(if s<(-32768)then(some (0,0,false))else(if s>32767 then(some (0,0,false))else(some (z,s,true))))
def X8.f(k:Nat)(s:Int)(z:Int):Option (Int×Int×Bool):=if s=0 then(some (0,0,true))else(X8.l0 k s z)
theorem X8.mono_l:∀k,(∀y0 y1,LeO (X8.l0 k y0 y1) (X8.l0 (k+1) y0 y1))
 |0=>fun _ _ r h=>by simp[X8.l0]at h
 |k+1=>by
  have ih0:=X8.mono_l k
  ·intro y0 y1;unfold X8.l0;exact mz0
theorem X8.mono:∀a0 a1 k,LeO (X8.f k a0 a1) (X8.f (k+1) a0 a1):=by intro a0 a1 k;have ih0:=X8.mono_l k;unfold X8.f;exact mz0
set_option maxHeartbeats 8000000 in
set_option maxRecDepth 100000 in
theorem X8.calls(k:Nat)(U:Int)(aa:Int)(r1:Int)(r2:Int)(r3:Bool)(w:World)(h:X8.f k U aa=some (r1,r2,r3)):
  Calls Tryz.prog 25 #[.agg #[.int .i64 U,.int .i64 aa]] w fun e w'=>e= .returned (.tuple #[.agg #[.int .i64 r1,.int .i64 r2],.bool r3])∧Below w.heap.size w w':=by
 have aH:=Tryz.underlying35;have HB:=zq (Below.refl w.heap.size w);unfold X8.f at h;have H:=h;clear h;refine yF H ?_ ?_<;>clear H<;>rintro⟨ab,ac,c2⟩ H
 ·clear c2;obtain⟨rfl,rfl,rfl⟩:=yp3 H;go_enter Tryz.func25,Tryz.ntmps25;go_wp2_with(first|((with_reducible refine Xk (N:=1) rfl ?_);refine bxw 1 35 #[.int .i64 U,.int .i64 aa] ?_;intro L hg w3 hbox hb;have z:=zq (hbox);have K:=zq ((J20:w.heap.size≤L));replace HB:=zq (Xb J0 hb);clear hb hbox hg)|((with_reducible refine Xk (N:=2) rfl ?_);refine bxw 2 35 #[.int .i64 0,.int .i64 0] ?_;intro J hg w4 hbox hb;have G:=zq (hbox);have O:=zq ((J177:w.heap.size≤J));replace HB:=zq (Xb (zs1 K.out) hb);have B:=zq ((J121:L≠J));have s:=zq ((J122:J≠L));replace z:=zq (Xg (zk z.out) hb);clear hb hbox hg;have aI:=B.out;have aJ:=s.out;have Z6:=cz2 z.out;have Z7:=cz2 G.out));refine bodyPost_ret (Xa9 rfl _ _ J 35 #[.int .i64 0,.int .i64 0] (0,0) _ rfl J13 Tryz.underlying35 rfl J30) rfl ?_;exact⟨J1,J17⟩
 have H':=zq H;clear H;go_enter Tryz.func25,Tryz.ntmps25;go_wp2_with(first|((with_reducible refine Xk (N:=1) rfl ?_);refine bxw 1 35 #[.int .i64 U,.int .i64 aa] ?_;intro L hg w8 hbox hb;have z:=zq (hbox);have K:=zq ((J20:w.heap.size≤L));replace HB:=zq (Xb J0 hb);clear hb hbox hg)|((with_reducible refine Xk (N:=2) rfl ?_);refine bxw 2 35 #[.int .i64 0,.int .i64 0] ?_;intro J hg w9 hbox hb;have G:=zq (hbox);have O:=zq ((J177:w.heap.size≤J));replace HB:=zq (Xb (zs1 K.out) hb);have B:=zq ((J121:L≠J));have s:=zq ((J122:J≠L));replace z:=zq (Xg (zk z.out) hb);clear hb hbox hg;have af:=B.out;have ag:=s.out;have ah:=cz2 z.out))
 go_loopg [] k (fun kq w'=>∃(D:Int)(I:Int),Aside0 (X8.l0 kq D I=some (r1,r2,r3))∧Aside0 (kq≤k)∧Aside0 (w'.heap[L]?=some (.cells #[.int .i64 D,.int .i64 I] 35 (0,0)))∧Aside0 (w'.heap[J]?=some (.cells #[.int .i64 0,.int .i64 0] 35 (0,0)))∧Aside0 (Below w.heap.size w w'))
 case atStart=>exact⟨(U),(aa),H',⟨Nat.le_refl _⟩,⟨J10⟩,⟨J179⟩,⟨J17⟩⟩
 case round=>
  clear H';try clear c2
  try clear ab
  try clear ac
  try clear ah
  obtain⟨D,I,HA,ae,z,G,HB⟩:=hrel;cases gk with
  |zero=>exact absurd HA.out (by simp[X8.l0])
  |succ k1=>
   have H:=HA.out;clear HA;simp only[X8.l0]at H;refine yE H ?_ ?_<;>clear H<;>rintro⟨ai,aj,ak⟩ H
   ·refine yD H ?_ ?_<;>clear H<;>rintro al H
    ·obtain⟨rfl,rfl,rfl⟩:=yp3 H;have am:=B.out;have an:=s.out;have aK:=cz2 z.out;have aL:=cz2 G.out;go_wp2;refine bodyPost_ret (Xa9 rfl _ _ J 35 #[.int .i64 0,.int .i64 0] (0,0) _ rfl J13 Tryz.underlying35 rfl J30) rfl ?_;exact⟨J1,J17⟩
    ·refine yD H ?_ ?_<;>clear H<;>rintro ao H
     ·obtain⟨rfl,rfl,rfl⟩:=yp3 H;have ap:=B.out;have aq:=s.out;have aM:=cz2 z.out;have aN:=cz2 G.out;go_wp2;refine bodyPost_ret (Xa9 rfl _ _ J 35 #[.int .i64 0,.int .i64 0] (0,0) _ rfl J13 Tryz.underlying35 rfl J30) rfl ?_;exact⟨J1,J17⟩
     ·obtain⟨rfl,rfl,rfl⟩:=yp3 H;have ar:=B.out;have au:=s.out;have aO:=cz2 z.out;have aP:=cz2 G.out;go_wp2;refine bodyPost_ret (Xa9 rfl _ _ J 35 #[.int .i64 D,.int .i64 I] (0,0) _ rfl J40 Tryz.underlying35 rfl J30) rfl ?_;exact⟨J1,J17⟩
   clear ak;refine yD H ?_ ?_<;>clear H<;>rintro av H
   ·have H':=zq H;clear H;have aw:=B.out;have ax:=s.out;have aQ:=cz2 z.out;go_wp2
    go_roundg k1
    case measure=>have:=ae.out;omega
    case rel=>exact⟨(wrap64 (Int.tdiv D 10)),(wrap64 (I+1)),H',⟨by have:=ae.out;omega⟩,⟨J102⟩,⟨J119⟩,⟨J17⟩⟩
   refine yD H ?_ ?_<;>clear H<;>rintro ay H
   ·obtain⟨rfl,rfl,rfl⟩:=yp3 H;have aA:=B.out;have aB:=s.out;have aR:=cz2 z.out;have aS:=cz2 G.out;go_wp2;refine bodyPost_ret (Xa9 rfl _ _ J 35 #[.int .i64 0,.int .i64 0] (0,0) _ rfl J13 Tryz.underlying35 rfl J30) rfl ?_;exact⟨J1,J17⟩
   refine yd H ?_ ?_<;>clear H<;>rintro aC H
   ·obtain⟨rfl,rfl,rfl⟩:=yp3 H;have aD:=B.out;have aE:=s.out;have aT:=cz2 z.out;have aU:=cz2 G.out;go_wp2;refine bodyPost_ret (Xa9 rfl _ _ J 35 #[.int .i64 D,.int .i64 I] (0,0) _ rfl J40 Tryz.underlying35 rfl J30) rfl ?_;exact⟨J1,J17⟩
   obtain⟨rfl,rfl,rfl⟩:=yp3 H;have aF:=B.out;have aG:=s.out;have aV:=cz2 z.out;have aW:=cz2 G.out;go_wp2;refine bodyPost_ret (Xa9 rfl _ _ J 35 #[.int .i64 0,.int .i64 0] (0,0) _ rfl J13 Tryz.underlying35 rfl J30) rfl ?_;exact⟨J1,J17⟩
def Xba.f(k:Nat)(a0:Int):Option (Int×Int):=(X8.f k a0 0).bind fun s=>(some (s.1,s.2.1))
theorem Xba.mono:∀a0 k,LeO (Xba.f k a0) (Xba.f (k+1) a0):=by intro a0 k;unfold Xba.f;have im0:=@X8.mono;exact mz3
set_option maxHeartbeats 8000000 in
set_option maxRecDepth 100000 in
theorem Xba.calls(k:Nat)(a0:Int)(r1:Int)(r2:Int)(w:World)(h:Xba.f k a0=some (r1,r2)):
  Calls Tryz.prog 14 #[.int .i64 a0] w fun e w'=>e= .returned (.agg #[.int .i64 r1,.int .i64 r2])∧Below w.heap.size w w':=by
 have aa:=Tryz.underlying35;have HB:=zq (Below.refl w.heap.size w);unfold Xba.f at h;have H:=h;clear h;refine yv H ?_;clear H;rintro⟨J,K,U⟩ A2 H;dsimp only at H;obtain⟨rfl,rfl⟩:=yp2 H;go_enter Tryz.func14,Tryz.ntmps14;go_wp2_with(first|((with_reducible refine Xk (N:=2) rfl ?_);refine bxw 2 35 #[.int .i64 0,.int .i64 0] ?_;intro B hg w3 hbox hb;have s:=zq (hbox);have D:=zq ((J20:w.heap.size≤B));replace HB:=zq (Xb J0 hb);clear hb hbox hg)|((with_reducible refine Xh (f:=25) rfl ?_);refine gL Tryz.func25 (X8.calls k a0 0 J K U _ A2.out) ?_;rintro e w4 ⟨rfl,hb⟩;refine⟨_,rfl,?_⟩;replace s:=zq (Xg (zk s.out) hb);replace HB:=zq (Xb (zs1 D.out) hb);(try clear hb))|((with_reducible refine Xk (N:=3) rfl ?_);refine bxw 3 35 #[.int .i64 0,.int .i64 0] ?_;intro G hg w5 hbox hb;have L:=zq (hbox);have O:=zq ((J89:w.heap.size≤G));replace HB:=zq (Xb (zs1 D.out) hb);have z:=zq ((J183:B≠G));have I:=zq ((J184:G≠B));replace s:=zq (Xg (zk s.out) hb);clear hb hbox hg;have ab:=I.out;have ac:=z.out;have Z7:=cz2 L.out;have Z8:=cz2 s.out));refine bodyPost_ret (results_cell_row rfl _ _ B 35 #[.int .i64 J,.int .i64 K] (0,0) _ rfl J73 Tryz.underlying35 rfl J30) rfl ?_;exact⟨J1,J162⟩
def Xaa.f(k:Nat)(z:Int)(B:Int):Option (Bool):=(X8.f k z B).bind fun s=>(if s.2.2=true then(some (s.1==z&&(s.2.1==B)))else(some false))
theorem Xaa.mono:∀a0 a1 k,LeO (Xaa.f k a0 a1) (Xaa.f (k+1) a0 a1):=by intro a0 a1 k;unfold Xaa.f;have im0:=@X8.mono;exact mz3
set_option maxHeartbeats 8000000 in
set_option maxRecDepth 100000 in
theorem Xaa.calls(k:Nat)(D:Int)(G:Int)(r:Bool)(w:World)(h:Xaa.f k D G=some r):
  Calls Tryz.prog 27 #[.agg #[.int .i64 D,.int .i64 G]] w fun e w'=>e= .returned (.bool r)∧Below w.heap.size w w':=by
 have ae:=Tryz.underlying35;have HB:=zq (Below.refl w.heap.size w);unfold Xaa.f at h;have H:=h;clear h;refine yv H ?_;clear H;rintro⟨U,aa,af⟩ A2 H;dsimp only at H;refine yC H ?_ ?_<;>clear H<;>rintro rfl H
 ·obtain rfl:=yo H;go_enter Tryz.func27,Tryz.ntmps27;go_wp2_with(first|((with_reducible refine Xk (N:=1) rfl ?_);refine bxw 1 35 #[.int .i64 D,.int .i64 G] ?_;intro z hg w4 hbox hb;have s:=zq (hbox);have B:=zq ((J20:w.heap.size≤z));replace HB:=zq (Xb J0 hb);clear hb hbox hg;have Z5:=cz2 s.out)|((with_reducible refine Xh (f:=25) rfl ?_);refine gL Tryz.func25 (X8.calls k D G U aa true _ A2.out) ?_;rintro e w6 ⟨rfl,hb⟩;refine⟨_,rfl,?_⟩;replace s:=zq (Xg (zk s.out) hb);replace HB:=zq (Xb (zs1 B.out) hb);(try clear hb))|((with_reducible refine Xk (N:=3) rfl ?_);refine bxw 3 35 #[.int .i64 0,.int .i64 0] ?_;intro I hg w7 hbox hb;have L:=zq (hbox);have O:=zq ((J54:w.heap.size≤I));replace HB:=zq (Xb (zs1 B.out) hb);have J:=zq ((J124:z≠I));have K:=zq ((J125:I≠z));replace s:=zq (Xg (zk s.out) hb);clear hb hbox hg;have ag:=K.out;have ah:=J.out;have Z9:=cz2 L.out;have ai:=cz2 s.out));go_ret;exact⟨J1,J41⟩
 obtain rfl:=yo H;go_enter Tryz.func27,Tryz.ntmps27;go_wp2_with(first|((with_reducible refine Xk (N:=1) rfl ?_);refine bxw 1 35 #[.int .i64 D,.int .i64 G] ?_;intro z hg aj hbox hb;have s:=zq (hbox);have B:=zq ((J20:w.heap.size≤z));replace HB:=zq (Xb J0 hb);clear hb hbox hg;have ak:=cz2 s.out)|((with_reducible refine Xh (f:=25) rfl ?_);refine gL Tryz.func25 (X8.calls k D G U aa false _ A2.out) ?_;rintro e al ⟨rfl,hb⟩;refine⟨_,rfl,?_⟩;replace s:=zq (Xg (zk s.out) hb);replace HB:=zq (Xb (zs1 B.out) hb);(try clear hb))|((with_reducible refine Xk (N:=3) rfl ?_);refine bxw 3 35 #[.int .i64 0,.int .i64 0] ?_;intro I hg am hbox hb;have L:=zq (hbox);have O:=zq ((J54:w.heap.size≤I));replace HB:=zq (Xb (zs1 B.out) hb);have J:=zq ((J124:z≠I));have K:=zq ((J125:I≠z));clear hb hbox hg;have ab:=K.out;have ac:=J.out;have an:=cz2 L.out));go_ret;exact⟨J1,J41⟩
def Xbu.f(k:Nat)(s:Int)(z:Int):Option (Bool):=(Xaa.f k s z).bind fun B=>(some (!B))
theorem Xbu.mono:∀a0 a1 k,LeO (Xbu.f k a0 a1) (Xbu.f (k+1) a0 a1):=by intro a0 a1 k;unfold Xbu.f;have im0:=@Xaa.mono;exact mz3
set_option maxHeartbeats 8000000 in
set_option maxRecDepth 100000 in
theorem Xbu.calls(k:Nat)(s:Int)(z:Int)(r:Bool)(w:World)(h:Xbu.f k s z=some r):
  Calls Tryz.prog 26 #[.agg #[.int .i64 s,.int .i64 z]] w fun e w'=>e= .returned (.bool r)∧Below w.heap.size w w':=by
 have J:=Tryz.underlying35;have HB:=zq (Below.refl w.heap.size w);unfold Xbu.f at h;have H:=h;clear h;refine yv H ?_;clear H;rintro I A2 H;obtain rfl:=yo H;go_enter Tryz.func26,Tryz.ntmps26;go_wp2_with(first|((with_reducible refine Xk (N:=1) rfl ?_);refine bxw 1 35 #[.int .i64 s,.int .i64 z] ?_;intro D hg w3 hbox hb;have G:=zq (hbox);have B:=zq ((J20:w.heap.size≤D));replace HB:=zq (Xb J0 hb);clear hb hbox hg;have Z4:=cz2 G.out)|((with_reducible refine Xh (f:=27) rfl ?_);refine gL Tryz.func27 (Xaa.calls k s z I _ A2.out) ?_;rintro e w5 ⟨rfl,hb⟩;refine⟨_,rfl,?_⟩;replace HB:=zq (Xb (zs1 B.out) hb);(try clear hb)));go_ret;exact⟨J1,J82⟩
def Xb9.f(a0:Int):Option (Bool):=if a0<0 then(some true)else(some (decide (a0>1048576)))
set_option maxHeartbeats 8000000 in
set_option maxRecDepth 100000 in
theorem Xb9.calls(a0:Int)(r:Bool)(w:World)(h:Xb9.f a0=some r):
  Calls Tryz.prog 47 #[.int .i64 a0] w fun e w'=>e= .returned (.bool r)∧Drawn0 w w':=by
 unfold Xb9.f at h;have H:=h;clear h;refine yd H ?_ ?_<;>clear H<;>rintro s H
 ·obtain rfl:=yo H;go_enter Tryz.func47,Tryz.ntmps47;go_wp2;go_ret;exact⟨J3,J7⟩
 obtain rfl:=yo H;go_enter Tryz.func47,Tryz.ntmps47;go_wp2;go_ret;exact⟨J3,J7⟩
theorem Xdd{P:Program}{ops:Array Oper}{Q:Exit→Act→World→Prop}{rest:List Oper}{oi:Oper}{a:Act}{w:World}(N:Option Tmp)(hd:oi.dst=N)(hg:oi.guard=none){f:FuncId}{fn:Func}{s:Array Operand}{ts:Array TypeId}(hf:P.funcs[f]?=some fn)(hname:(fn.name== "runtime.NumGoroutine")=false)(hb:fn.body.isSome=true)(args:Array Value)(x:Operand)
  (hop:oi.op= .call {callee:=.value x,args:=s,argTypes:=ts})(hx:a.eval x= .func (.func f) #[] #[])(hargs:s.map a.eval=args)
  (h:Calls P f args w fun e w'=>∃v,e= .returned v∧wpList P ops Q rest (a.put N v) w'):wpList P ops Q (oi::rest) a w:=by
 refine wpList_plain hg fun K hK=>?_;have he:=enters_ hf hname hb args w;have hrun:(execOp a.eval oi).run P w= .ok (.enter f args) w:=by unfold execOp;simp[hop,hx,resolve,Deferred.ofValue,invoke,hargs,he]
 unfold Oper.wp;rw[hrun,Oper.upon_enter];refine h.mono fun e w'' hh=>?_;obtain⟨v,rfl,hk⟩:=hh;subst hd;exact hK _ _ hk
def Xu.l0:Nat→List Int→Int→Int→Option (Int)
 |0,_,_,_=>none
 |k+1,x0,x7,x8=>if x8<x7 then(if 0≤x8 then(if x8<(x0.length:Int)then((Xb9.f (rd x0 x8)).bind fun s=>(if s=true then(some x8)else(Xu.l0 k x0 x7 (wrap64 (x8+1)))))else(none))else(none))else(some (-1))
def Xu.f(k:Nat)(l0:List Int):Option (Int):=Xu.l0 k l0 (l0.length:Int) 0
theorem Xu.mono_l:∀k,(∀y0 y1 y2,LeO (Xu.l0 k y0 y1 y2) (Xu.l0 (k+1) y0 y1 y2))
 |0=>fun _ _ _ r h=>by simp[Xu.l0]at h
 |k+1=>by
  have ih0:=Xu.mono_l k
  ·intro y0 y1 y2;unfold Xu.l0;exact mz0
theorem Xu.mono:∀a0 k,LeO (Xu.f k a0) (Xu.f (k+1) a0):=by intro a0 k;have ih0:=Xu.mono_l k;unfold Xu.f;exact mz0
set_option maxHeartbeats 8000000 in
set_option maxRecDepth 100000 in
theorem Xu.calls(k:Nat)(A0:Option Addr)(c0:Nat)(l0:List Int)(r:Int)(w:World)(J:Kd.C (Kd.int .i64) w A0 l0.length l0)(K:l0.length≤c0)(h:Xu.f k l0=some r):
  Calls Tryz.prog 50 #[.slice A0 l0.length c0,.func (.func 47) #[] #[]] w fun e w'=>e= .returned (.int .i64 r)∧Drawn0 w w':=by
 have L:=zq J;have ae:=zq K;clear J K;unfold Xu.f at h;have H:=h;clear h;have H':=zq H;clear H;go_enter Tryz.func50,Tryz.ntmps50;go_wp2
 go_loopg [8] k (fun kq v8 w'=>∃(s:Int),v8= .int .i64 s∧Aside0 (Xu.l0 kq l0 (l0.length:Int) s=some r)∧Aside0 (kq≤k)∧Drawn0 w w')
 case atStart=>exact⟨(0),J3,H',⟨Nat.le_refl _⟩,J7⟩
 case round=>
  clear H';obtain⟨s,rfl,HA,O,⟨m1,rfl⟩⟩:=hrel;cases gk with
  |zero=>exact absurd HA.out (by simp[Xu.l0])
  |succ k1=>
   have H:=HA.out;clear HA;simp only[Xu.l0]at H;refine yd H ?_ ?_<;>clear H<;>rintro U H
   ·obtain rfl:=yo H;go_wp2;go_ret;exact⟨J3,J7⟩
   refine yj H ?_;clear H;intro aa H;refine yj H ?_;clear H;intro ab H;refine yv H ?_;clear H;rintro ac A5 H;refine yC H ?_ ?_<;>clear H<;>rintro rfl H
   ·obtain rfl:=yo H;have z:0≤(s:Int):=of_decide_eq_true J2;have B:s<(l0.length:Int):=of_decide_eq_true J2;obtain⟨I,D,G⟩:=Kd.at_int L.out s z B;cases D;replace z:=eq_true z;replace B:=eq_true B;go_wp2_with(first|((with_reducible refine Xk (N:=16) rfl ?_);refine Xdd (some 16) rfl rfl Tryz.func47 J30 rfl #[.int .i64 (rd l0 s)] (.tmp 11) rfl rfl J6 ?_;(with_reducible refine(Xb9.calls (rd l0 s) true _ A5.out).mono ?_);rintro e w' ⟨rfl,⟨nd,rfl⟩⟩;refine⟨_,rfl,?_⟩));go_ret;exact⟨J3,J7⟩
   have H':=zq H;clear H;have z:0≤(s:Int):=of_decide_eq_true J2;have B:s<(l0.length:Int):=of_decide_eq_true J2;obtain⟨I,D,G⟩:=Kd.at_int L.out s z B;cases D;replace z:=eq_true z;replace B:=eq_true B;go_wp2_with(first|((with_reducible refine Xk (N:=16) rfl ?_);refine Xdd (some 16) rfl rfl Tryz.func47 J30 rfl #[.int .i64 (rd l0 s)] (.tmp 11) rfl rfl J6 ?_;(with_reducible refine(Xb9.calls (rd l0 s) false _ A5.out).mono ?_);rintro e w' ⟨rfl,⟨nd,rfl⟩⟩;refine⟨_,rfl,?_⟩))
   go_roundg k1
   case measure=>have:=O.out;omega
   case rel=>exact⟨(wrap64 (s+1)),J3,H',⟨by have:=O.out;omega⟩,J7⟩
def Xao.f(k:Nat)(l0:List Int):Option (Bool):=(Xu.f k l0).bind fun s=>(some (decide (s≥0)))
theorem Xao.mono:∀a0 k,LeO (Xao.f k a0) (Xao.f (k+1) a0):=by intro a0 k;unfold Xao.f;have im0:=@Xu.mono;exact mz3
set_option maxHeartbeats 8000000 in
set_option maxRecDepth 100000 in
theorem Xao.calls(k:Nat)(A0:Option Addr)(c0:Nat)(l0:List Int)(r:Bool)(w:World)(s:Kd.C (Kd.int .i64) w A0 l0.length l0)(z:l0.length≤c0)(h:Xao.f k l0=some r):
  Calls Tryz.prog 34 #[.slice A0 l0.length c0,.func (.func 47) #[] #[]] w fun e w'=>e= .returned (.bool r)∧Drawn0 w w':=by
 have D:=zq s;have G:=zq z;clear s z;unfold Xao.f at h;have H:=h;clear h;refine yv H ?_;clear H;rintro B A2 H;obtain rfl:=yo H;go_enter Tryz.func34,Tryz.ntmps34;go_wp2_with(first|((with_reducible refine Xh (f:=50) rfl ?_);refine gL Tryz.func50 (Xu.calls k _ _ l0 B _ (zc D.out) G.out A2.out) ?_;rintro e w' ⟨rfl,⟨nd,rfl⟩⟩;refine⟨_,rfl,?_⟩));go_ret;exact⟨J3,J7⟩
def Xy.l0:Nat→List Int→Int→Int→Int→Option (Int)
 |0,_,_,_,_=>none
 |k+1,x0,x1,x7,x8=>if x8<x7 then(if 0≤x8 then(if x8<(x0.length:Int)then(if x1=(rd x0 x8)then(some x8)else(Xy.l0 k x0 x1 x7 (wrap64 (x8+1))))else(none))else(none))else(some (-1))
def Xy.f(k:Nat)(l0:List Int)(a1:Int):Option (Int):=Xy.l0 k l0 a1 (l0.length:Int) 0
theorem Xy.mono_l:∀k,(∀y0 y1 y2 y3,LeO (Xy.l0 k y0 y1 y2 y3) (Xy.l0 (k+1) y0 y1 y2 y3))
 |0=>fun _ _ _ _ r h=>by simp[Xy.l0]at h
 |k+1=>by
  have ih0:=Xy.mono_l k
  ·intro y0 y1 y2 y3;unfold Xy.l0;exact mz0
theorem Xy.mono:∀a0 a1 k,LeO (Xy.f k a0 a1) (Xy.f (k+1) a0 a1):=by intro a0 a1 k;have ih0:=Xy.mono_l k;unfold Xy.f;exact mz0
set_option maxHeartbeats 8000000 in
set_option maxRecDepth 100000 in
theorem Xy.calls(k:Nat)(A0:Option Addr)(c0:Nat)(l0:List Int)(a1:Int)(r:Int)(w:World)(J:Kd.C (Kd.int .i64) w A0 l0.length l0)(K:l0.length≤c0)(h:Xy.f k l0 a1=some r):
  Calls Tryz.prog 69 #[.slice A0 l0.length c0,.int .i64 a1] w fun e w'=>e= .returned (.int .i64 r)∧Drawn0 w w':=by
 have L:=zq J;have af:=zq K;clear J K;unfold Xy.f at h;have H:=h;clear h;have H':=zq H;clear H;go_enter Tryz.func69,Tryz.ntmps69;go_wp2
 go_loopg [8] k (fun kq v8 w'=>∃(s:Int),v8= .int .i64 s∧Aside0 (Xy.l0 kq l0 a1 (l0.length:Int) s=some r)∧Aside0 (kq≤k)∧Drawn0 w w')
 case atStart=>exact⟨(0),J3,H',⟨Nat.le_refl _⟩,J7⟩
 case round=>
  clear H';obtain⟨s,rfl,HA,O,⟨m1,rfl⟩⟩:=hrel;cases gk with
  |zero=>exact absurd HA.out (by simp[Xy.l0])
  |succ k1=>
   have H:=HA.out;clear HA;simp only[Xy.l0]at H;refine yd H ?_ ?_<;>clear H<;>rintro U H
   ·obtain rfl:=yo H;go_wp2;go_ret;exact⟨J3,J7⟩
   refine yj H ?_;clear H;intro aa H;refine yj H ?_;clear H;intro ab H;refine yF H ?_ ?_<;>clear H<;>rintro⟨ac,ae,c6⟩ H
   ·clear c6;obtain rfl:=yo H;have z:0≤(s:Int):=of_decide_eq_true J2;have B:s<(l0.length:Int):=of_decide_eq_true J2;obtain⟨I,D,G⟩:=Kd.at_int L.out s z B;cases D;replace z:=eq_true z;replace B:=eq_true B;go_wp2;go_ret;exact⟨J3,J7⟩
   have H':=zq H;clear H;have z:0≤(s:Int):=of_decide_eq_true J2;have B:s<(l0.length:Int):=of_decide_eq_true J2;obtain⟨I,D,G⟩:=Kd.at_int L.out s z B;cases D;replace z:=eq_true z;replace B:=eq_true B;go_wp2
   go_roundg k1
   case measure=>have:=O.out;omega
   case rel=>exact⟨(wrap64 (s+1)),J3,H',⟨by have:=O.out;omega⟩,J7⟩
def Xaq.f(k:Nat)(l0:List Int)(a1:Int):Option (Bool):=(Xy.f k l0 a1).bind fun s=>(some (decide (s≥0)))
theorem Xaq.mono:∀a0 a1 k,LeO (Xaq.f k a0 a1) (Xaq.f (k+1) a0 a1):=by intro a0 a1 k;unfold Xaq.f;have im0:=@Xy.mono;exact mz3
set_option maxHeartbeats 8000000 in
set_option maxRecDepth 100000 in
theorem Xaq.calls(k:Nat)(A0:Option Addr)(c0:Nat)(l0:List Int)(a1:Int)(r:Bool)(w:World)(s:Kd.C (Kd.int .i64) w A0 l0.length l0)(z:l0.length≤c0)(h:Xaq.f k l0 a1=some r):
  Calls Tryz.prog 48 #[.slice A0 l0.length c0,.int .i64 a1] w fun e w'=>e= .returned (.bool r)∧Drawn0 w w':=by
 have D:=zq s;have G:=zq z;clear s z;unfold Xaq.f at h;have H:=h;clear h;refine yv H ?_;clear H;rintro B A3 H;obtain rfl:=yo H;go_enter Tryz.func48,Tryz.ntmps48;go_wp2_with(first|((with_reducible refine Xh (f:=69) rfl ?_);refine gL Tryz.func69 (Xy.calls k _ _ l0 a1 B _ (zc D.out) G.out A3.out) ?_;rintro e w' ⟨rfl,⟨nd,rfl⟩⟩;refine⟨_,rfl,?_⟩));go_ret;exact⟨J3,J7⟩
end Go.Proofs.YtfjhiiaahbjaiaaGreatDoor.HSystemTells
