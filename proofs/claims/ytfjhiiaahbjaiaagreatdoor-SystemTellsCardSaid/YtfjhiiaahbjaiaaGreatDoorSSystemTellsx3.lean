/- Words and walks, shortened by a program: what this claim's functions answer, and that other memory stays. -/
import Derived.Test.YtfjhiiaahbjaiaaGreatDoorSSystemTellsx0
import Derived.Test.YtfjhiiaahbjaiaaGreatDoorSSystemTellsx2
namespace Go.Proofs.YtfjhiiaahbjaiaaGreatDoor.HSystemTells
open Go.RowKit Go.Proofs.YtfjhiiaahbjaiaaGreatDoorW.PrintWords Go.Proofs.YtfjhiiaahbjaiaaGreatDoorW.PrintWords.Kd Go.Proofs.YtfjhiiaahbjaiaaGreatDoorW.PrintLast Go.Proofs.YtfjhiiaahbjaiaaGreatDoorW.PrintMore Go.Proofs.YtfjhiiaahbjaiaaGreatDoorW.PrintMore.Kd
attribute [local go_sem] Xb2 Xb0 Xcd Xcc Xbq Xbp Xb1 Xbz
set_option linter.unusedVariables false
set_option linter.unusedSimpArgs false
mutual
def X6.j0:Nat→List Int→Bool→Option (Int×Bool)
 |0,_,_=>none
 |k+1,x0,x8=>if x8=true then(some (0,false))else((Xaq.f k x0 0).bind fun s=>(if s=true then(some (0,true))else(X6.l0 k 1 x0 (x0.length:Int) 0)))
def X6.l0:Nat→Int→List Int→Int→Int→Option (Int×Bool)
 |0,_,_,_,_=>none
 |k+1,x5,z,B,s=>if s<B then(if 0≤s then(if s<(z.length:Int)then((Xb9.f (wrap64 (x5*(rd z s)))).bind fun D=>(if D=true then(some (0,false))else(X6.l0 k (wrap64 (x5*(rd z s))) z B (wrap64 (s+1)))))else(none))else(none))else(some (x5,true))
end
def X6.f(k:Nat)(l0:List Int):Option (Int×Bool):=if(l0.length:Int)>16 then(X6.j0 k l0 true)else((Xao.f k l0).bind fun s=>(X6.j0 k l0 s))
theorem X6.mono_l:∀k,(∀y0 y1,LeO (X6.j0 k y0 y1) (X6.j0 (k+1) y0 y1))∧(∀y0 y1 y2 y3,LeO (X6.l0 k y0 y1 y2 y3) (X6.l0 (k+1) y0 y1 y2 y3))
 |0=>⟨fun _ _ r h=>by simp[X6.j0]at h,fun _ _ _ _ r h=>by simp[X6.l0]at h⟩
 |k+1=>by
  obtain⟨ih0,ih1⟩:=X6.mono_l k;refine⟨?_,?_⟩
  ·intro y0 y1;unfold X6.j0;have im0:=@Xao.mono;have im1:=@Xaq.mono;exact mz3
  ·intro y0 y1 y2 y3;unfold X6.l0;have im0:=@Xao.mono;have im1:=@Xaq.mono;exact mz3
theorem X6.mono:∀a0 k,LeO (X6.f k a0) (X6.f (k+1) a0):=by intro a0 k;obtain⟨ih0,ih1⟩:=X6.mono_l k;unfold X6.f;have im0:=@Xao.mono;have im1:=@Xaq.mono;exact mz3
set_option maxHeartbeats 8000000 in
set_option maxRecDepth 100000 in
theorem X6.calls(k:Nat)(A0:Option Addr)(c0:Nat)(l0:List Int)(r1:Int)(r2:Bool)(w:World)(ae:Kd.C (Kd.int .i64) w A0 l0.length l0)(af:l0.length≤c0)(h:X6.f k l0=some (r1,r2)):
  Calls Tryz.prog 28 #[.slice A0 l0.length c0] w fun e w'=>e= .returned (.tuple #[.int .i64 r1,.bool r2])∧Drawn0 w w':=by
 have I:=zq ae;have aa:=zq af;clear ae af;unfold X6.f at h;have H:=h;clear h;have ab:=zq H;clear H;go_enter Tryz.func28,Tryz.ntmps28;go_upto_region 2 with(fail);go_cut [8] (fun v8 wc=>∃(kq:Nat)(J:Bool),v8= .bool J∧Aside0 (X6.j0 kq l0 J=some (r1,r2))∧Aside0 (kq≤k)∧Drawn0 w wc);case first=>
  have H:=ab.out;clear ab;refine yu H ?_ ?_<;>clear H<;>rintro c3 H
  ·have G:decide (16<(l0.length:Int))=true:=decide_eq_true c3;have ag:decide (16<l0.length)=true:=decide_eq_true J28;clear c3;(first|rw[G]|(simp only[Xau,Xax];rw[G])|skip);have H':=zq H;clear H;go_wp2;go_meet;case rel=>exact⟨_,(true),J3,H',⟨J42⟩,J7⟩
  have G:=decide_eq_false c3;have ag:decide (16<l0.length)=false:=decide_eq_false J28;clear c3;(first|rw[G]|(simp only[Xau,Xax];rw[G])|skip);refine yv H ?_;clear H;rintro U A4 H;have H':=zq H;clear H;go_wp2_with(first|(go_at_call 34;(with_reducible refine(Xao.calls k _ _ l0 U _ ?side1 ?side2 A4.out).mono ?_);(case side1=>exact zc I.out);(case side2=>exact aa.out);rintro e w' ⟨rfl,⟨nd,rfl⟩⟩));go_meet;case rel=>exact⟨_,(U),J3,H',⟨J42⟩,J7⟩
 case rest=>
  clear ab;obtain⟨kq,J,rfl,HA,ah,⟨aq,rfl⟩⟩:=hcut;cases kq with
  |zero=>exact absurd HA.out (by simp[X6.j0])
  |succ O=>
   have H:=HA.out;clear HA;simp only[X6.j0]at H;refine yC H ?_ ?_<;>clear H<;>rintro rfl H
   ·obtain⟨rfl,rfl⟩:=yp2 H;go_wp2
    go_ret2
    exact⟨J3,J7⟩
   refine yv H ?_;clear H;rintro am A6 H;refine yC H ?_ ?_<;>clear H<;>rintro rfl H
   ·obtain⟨rfl,rfl⟩:=yp2 H;go_wp2_with(first|((with_reducible refine Xh (f:=48) rfl ?_);refine gL Tryz.func48 (Xaq.calls O _ _ l0 0 true _ (zc I.out) aa.out A6.out) ?_;rintro e w' ⟨rfl,⟨nd,rfl⟩⟩;refine⟨_,rfl,?_⟩))
    go_ret2
    exact⟨J3,J7⟩
   have H':=zq H;clear H;go_wp2_with(first|((with_reducible refine Xh (f:=48) rfl ?_);refine gL Tryz.func48 (Xaq.calls O _ _ l0 0 false _ (zc I.out) aa.out A6.out) ?_;rintro e w' ⟨rfl,⟨nd,rfl⟩⟩;refine⟨_,rfl,?_⟩))
   go_loopg [5,22] O (fun kq v5 ak w'=>∃(z:Int)(s:Int),v5= .int .i64 z∧ak= .int .i64 s∧Aside0 (X6.l0 kq z l0 (l0.length:Int) s=some (r1,r2))∧Aside0 (kq≤O)∧Drawn0 w w')
   case atStart=>exact⟨(1),(0),J3,J3,H',⟨Nat.le_refl _⟩,J7⟩
   case round=>
    clear H';obtain⟨z,s,rfl,rfl,HA,ai,⟨m2,rfl⟩⟩:=hrel;cases gk with
    |zero=>exact absurd HA.out (by simp[X6.l0])
    |succ k2=>
     have H:=HA.out;clear HA;simp only[X6.l0]at H;refine yd H ?_ ?_<;>clear H<;>rintro an H
     ·obtain⟨rfl,rfl⟩:=yp2 H;go_wp2
      go_ret2
      exact⟨J3,J7⟩
     refine yj H ?_;clear H;intro ao H;refine yj H ?_;clear H;intro al H;refine yv H ?_;clear H;rintro ap aj H;refine yC H ?_ ?_<;>clear H<;>rintro rfl H
     ·obtain⟨rfl,rfl⟩:=yp2 H;have B:0≤(s:Int):=of_decide_eq_true J2;have D:s<(l0.length:Int):=of_decide_eq_true J2;obtain⟨ac,K,L⟩:=Kd.at_int I.out s B D;cases K;replace B:=eq_true B;replace D:=eq_true D;go_wp2_with(first|((with_reducible refine Xk (N:=31) rfl ?_);refine Xdd (some 31) rfl rfl Tryz.func47 J30 rfl #[.int .i64 (wrap64 (z*(rd l0 s)))] (.tmp 29) rfl rfl J6 ?_;(with_reducible refine(Xb9.calls (wrap64 (z*(rd l0 s))) true _ aj.out).mono ?_);rintro e w' ⟨rfl,⟨nd,rfl⟩⟩;refine⟨_,rfl,?_⟩))
      go_ret2
      exact⟨J3,J7⟩
     have H':=zq H;clear H;have B:0≤(s:Int):=of_decide_eq_true J2;have D:s<(l0.length:Int):=of_decide_eq_true J2;obtain⟨ac,K,L⟩:=Kd.at_int I.out s B D;cases K;replace B:=eq_true B;replace D:=eq_true D;go_wp2_with(first|((with_reducible refine Xk (N:=31) rfl ?_);refine Xdd (some 31) rfl rfl Tryz.func47 J30 rfl #[.int .i64 (wrap64 (z*(rd l0 s)))] (.tmp 29) rfl rfl J6 ?_;(with_reducible refine(Xb9.calls (wrap64 (z*(rd l0 s))) false _ aj.out).mono ?_);rintro e w' ⟨rfl,⟨nd,rfl⟩⟩;refine⟨_,rfl,?_⟩))
     go_roundg k2
     case measure=>have:=ah.out;have:=ai.out;omega
     case rel=>exact⟨(wrap64 (z*(rd l0 s))),(wrap64 (s+1)),J3,J3,H',⟨by have:=ah.out;have:=ai.out;omega⟩,J7⟩
def Xbk.l0:Nat→List (S35)→Int→Int→Option (Int)
 |0,_,_,_=>none
 |k+1,x0,x7,x8=>if x8<x7 then(if 0≤x8 then(if x8<(x0.length:Int)then((Xbu.f k ((Xw x0 x8).f0) ((Xw x0 x8).f1)).bind fun s=>(if s=true then(some x8)else(Xbk.l0 k x0 x7 (wrap64 (x8+1)))))else(none))else(none))else(some (-1))
def Xbk.f(k:Nat)(l0:List (S35)):Option (Int):=Xbk.l0 k l0 (l0.length:Int) 0
theorem Xbk.mono_l:∀k,(∀y0 y1 y2,LeO (Xbk.l0 k y0 y1 y2) (Xbk.l0 (k+1) y0 y1 y2))
 |0=>fun _ _ _ r h=>by simp[Xbk.l0]at h
 |k+1=>by
  have ih0:=Xbk.mono_l k
  ·intro y0 y1 y2;unfold Xbk.l0;have im0:=@Xbu.mono;exact mz3
theorem Xbk.mono:∀a0 k,LeO (Xbk.f k a0) (Xbk.f (k+1) a0):=by intro a0 k;have ih0:=Xbk.mono_l k;unfold Xbk.f;have im0:=@Xbu.mono;exact mz3
set_option maxHeartbeats 8000000 in
set_option maxRecDepth 100000 in
theorem Xbk.calls(k:Nat)(A0:Option Addr)(c0:Nat)(l0:List (S35))(r:Int)(w:World)(I:Kd.C k35 w A0 l0.length l0)(J:l0.length≤c0)(h:Xbk.f k l0=some r):
  Calls Tryz.prog 49 #[.slice A0 l0.length c0,.func (.func 26) #[] #[]] w fun e w'=>e= .returned (.int .i64 r)∧Below w.heap.size w w':=by
 have aa:=Tryz.underlying35;have K:=zq I;have ag:=zq J;clear I J;have HB:=zq (Below.refl w.heap.size w);unfold Xbk.f at h;have H:=h;clear h;have H':=zq H;clear H;go_enter Tryz.func49,Tryz.ntmps49;go_wp2
 go_loopg [8] k (fun kq v8 w'=>∃(s:Int),v8= .int .i64 s∧Aside0 (Xbk.l0 kq l0 (l0.length:Int) s=some r)∧Aside0 (kq≤k)∧Aside0 (Below w.heap.size w w'))
 case atStart=>exact⟨(0),J3,H',⟨Nat.le_refl _⟩,⟨J0⟩⟩
 case round=>
  clear H';obtain⟨s,rfl,HA,L,HB⟩:=hrel;cases gk with
  |zero=>exact absurd HA.out (by simp[Xbk.l0])
  |succ k1=>
   have H:=HA.out;clear HA;simp only[Xbk.l0]at H;refine yd H ?_ ?_<;>clear H<;>rintro ab H
   ·obtain rfl:=yo H;go_wp2;go_ret;exact⟨J1,J0⟩
   refine yj H ?_;clear H;intro ac H;refine yj H ?_;clear H;intro ae H;refine yv H ?_;clear H;rintro af A5 H;refine yC H ?_ ?_<;>clear H<;>rintro rfl H
   ·obtain rfl:=yo H;obtain⟨G,z,B,D,O,U⟩:=rdD K.out HB.out s;cases z;go_wp2_with(first|((with_reducible refine Xk (N:=16) rfl ?_);refine Xdd (some 16) rfl rfl Tryz.func26 J30 rfl #[.agg #[.int .i64 ((Xw l0 s).f0),.int .i64 ((Xw l0 s).f1)]] (.tmp 11) rfl rfl J6 ?_;(with_reducible refine(Xbu.calls k1 ((Xw l0 s).f0) ((Xw l0 s).f1) true _ A5.out).mono ?_);rintro e w7 ⟨rfl,hb⟩;refine⟨_,rfl,?_⟩;replace HB:=zq (Xb J0 hb);(try clear hb)));go_ret;exact⟨J1,J0⟩
   have H':=zq H;clear H;obtain⟨G,z,B,D,O,U⟩:=rdD K.out HB.out s;cases z;go_wp2_with(first|((with_reducible refine Xk (N:=16) rfl ?_);refine Xdd (some 16) rfl rfl Tryz.func26 J30 rfl #[.agg #[.int .i64 ((Xw l0 s).f0),.int .i64 ((Xw l0 s).f1)]] (.tmp 11) rfl rfl J6 ?_;(with_reducible refine(Xbu.calls k1 ((Xw l0 s).f0) ((Xw l0 s).f1) false _ A5.out).mono ?_);rintro e w8 ⟨rfl,hb⟩;refine⟨_,rfl,?_⟩;replace HB:=zq (Xb J0 hb);(try clear hb)))
   go_roundg k1
   case measure=>have:=L.out;omega
   case rel=>exact⟨(wrap64 (s+1)),J3,H',⟨by have:=L.out;omega⟩,⟨J0⟩⟩
def Xco.f(k:Nat)(l0:List (S35)):Option (Bool):=(Xbk.f k l0).bind fun s=>(some (decide (s≥0)))
theorem Xco.mono:∀a0 k,LeO (Xco.f k a0) (Xco.f (k+1) a0):=by intro a0 k;unfold Xco.f;have im0:=@Xbk.mono;exact mz3
set_option maxHeartbeats 8000000 in
set_option maxRecDepth 100000 in
theorem Xco.calls(k:Nat)(A0:Option Addr)(c0:Nat)(l0:List (S35))(r:Bool)(w:World)(s:Kd.C k35 w A0 l0.length l0)(z:l0.length≤c0)(h:Xco.f k l0=some r):
  Calls Tryz.prog 29 #[.slice A0 l0.length c0,.func (.func 26) #[] #[]] w fun e w'=>e= .returned (.bool r)∧Below w.heap.size w w':=by
 have D:=zq s;have G:=zq z;clear s z;have HB:=zq (Below.refl w.heap.size w);unfold Xco.f at h;have H:=h;clear h;refine yv H ?_;clear H;rintro B A2 H;obtain rfl:=yo H;go_enter Tryz.func29,Tryz.ntmps29;go_wp2_with(first|((with_reducible refine Xh (f:=49) rfl ?_);refine gL Tryz.func49 (Xbk.calls k _ _ l0 B _ (zc D.out) G.out A2.out) ?_;rintro e w3 ⟨rfl,hb⟩;refine⟨_,rfl,?_⟩;replace HB:=zq (Xb J0 hb);(try clear hb)));go_ret;exact⟨J1,J0⟩
def Xam.f(l0:List Int):Option (List Int):=(some (([]:List Int):List Int)).bind fun s=>(if s.length+l0.length<17592186044416 then(some (s++l0))else(none))
set_option maxHeartbeats 8000000 in
set_option maxRecDepth 100000 in
theorem Xam.calls(A0:Option Addr)(c0:Nat)(l0:List Int)(r:List Int)(w:World)(z:Kd.C (Kd.int .i64) w A0 l0.length l0)(I:l0.length≤c0)(h:Xam.f l0=some r):
  Calls Tryz.prog 30 #[.slice A0 l0.length c0] w fun e w'=>∃J:Value,e= .returned (J)∧Kd.R (Kd.int .i64) 3 w' w.heap.size (fun _=>True) J r∧Below w.heap.size w w':=by
 cases A0 with
 |none=>
  obtain rfl:l0=[]:=by
   cases l0 with
   |nil=>rfl
   |cons x_ y_=> obtain⟨ag,c_,e_,_⟩:=mE z 0 0 J28 (by rw[List.length_cons];omega);exact absurd e_ J92
  have ab:∀W:World,(binOp .eql 29 (.slice none 0 c0) (.slice none 0 0)).run Tryz.prog W= .ok (.bool true) W:=fun W=>Lib.run_eql_slice_nil W 29 3 none _ c0 0 0 Tryz.underlying29;rw[show([]:List Int).length=0 from rfl];go_enter Tryz.func30,Tryz.ntmps30;go_wp2;go_ret;obtain rfl:r=[]:=by simpa[Xam.f]using h.symm
  exact⟨_,rfl,mv _ _ _ _ _,Below.refl _ _⟩
 |some K=>
  have ab:∀W:World,(binOp .eql 29 (.slice (some K) l0.length c0) (.slice none 0 0)).run Tryz.prog W= .ok (.bool false) W:=fun W=>Lib.run_eql_slice_nil W 29 3 (some K) _ c0 0 0 Tryz.underlying29;have ac:=zq z;have ah:=zq I;clear z I;have HB:=zq (Below.refl w.heap.size w);unfold Xam.f at h;have H:=h;clear h;refine yl H ?_;clear H;rintro L B H;refine yu H ?_ ?_<;>clear H<;>rintro c2 H
  ·have O:=zq c2;clear c2;refine yS H ?_;clear H;rintro ae D H;obtain rfl:=yo H;go_enter Tryz.func30,Tryz.ntmps30;go_wp2_with(first|((with_reducible refine Xk (N:=5) rfl ?_);refine lwR (Kd.int .i64) 3 5 (xs:=([]:List Int)) [] B (Reps.none _ _) ?_;intro U w3 aa hb;have s:=zq (ls aa (Xe J0));replace HB:=zq (Xb J0 hb);clear hb aa)|((with_reducible refine Xa8 (b:=.append) (xs:=#[.tmp 5,.tmp 6]) rfl ?_);at_builtin;refine lO (Kd.int .i64) (w0:=w) w.heap.size rfl (.tmp 5) (.tmp 6) 29 3 (.int .i64 0) 8 rfl Tryz.underlying29 Xdh rfl J18 J28 U L l0 _ _ _ (fun _=>True) (fun _=>False) rfl rfl ?aO ?aR (fun _ _ h=>h) (fun _ h=>h.elim) ?aF ?aB ?aS ?aL ?_;(case aR=>repeat(first|exact(lp ac.out HB.out)|(with_reducible refine Kd.C_alloc ?_ _)|(with_reducible refine lB ?_ _)|(with_reducible refine Kd.C_drew ?_)));(case aB=>exact J0);(case aF=>exact(fun _ _=>trivial));(case aO=>exact(zr s.out));(case aS=>exact(Xe J0));(case aL=>have:=O.out;omega);intro af w5 ho hb hg hat;rw[←D.out]at ho;replace HB:=zq (hb);have G:=zq (ho);clear s;clear ho hb hg hat));go_ret;exact⟨_,J1,J155,J0⟩
  ·exact absurd H J92
mutual
def Xq.j0:Nat→Bool→Int→Int→Option (Int×Bool)
 |0,_,_,_=>none
 |k+1,B,s,z=>if B=true then(some (0,false))else(Xq.l0 k s z 0)
def Xq.l0:Nat→Int→Int→Int→Option (Int×Bool)
 |0,_,_,_=>none
 |k+1,x4,s,z=>if z<s then(if(wrap64 (Int.tdiv (wrap64 (x4*10)) 10))=x4 then(Xq.l0 k (wrap64 (x4*10)) s (wrap64 (z+1)))else(some (0,false)))else(some (x4,true))
end
def Xq.f(k:Nat)(z:Int)(s:Int):Option (Int×Bool):=(Xaa.f k z s).bind fun B=>(if B=true then(if s<0 then(Xq.j0 k true z s)else(Xq.j0 k (decide (s>18)) z s))else(Xq.j0 k true z s))
theorem Xq.mono_l:∀k,(∀y0 y1 y2,LeO (Xq.j0 k y0 y1 y2) (Xq.j0 (k+1) y0 y1 y2))∧(∀y0 y1 y2,LeO (Xq.l0 k y0 y1 y2) (Xq.l0 (k+1) y0 y1 y2))
 |0=>⟨fun _ _ _ r h=>by simp[Xq.j0]at h,fun _ _ _ r h=>by simp[Xq.l0]at h⟩
 |k+1=>by
  obtain⟨ih0,ih1⟩:=Xq.mono_l k;refine⟨?_,?_⟩
  ·intro y0 y1 y2;unfold Xq.j0;have im0:=@Xaa.mono;exact mz3
  ·intro y0 y1 y2;unfold Xq.l0;have im0:=@Xaa.mono;exact mz3
theorem Xq.mono:∀a0 a1 k,LeO (Xq.f k a0 a1) (Xq.f (k+1) a0 a1):=by intro a0 a1 k;obtain⟨ih0,ih1⟩:=Xq.mono_l k;unfold Xq.f;have im0:=@Xaa.mono;exact mz3
set_option maxHeartbeats 8000000 in
set_option maxRecDepth 100000 in
theorem Xq.calls(k:Nat)(D:Int)(B:Int)(r1:Int)(r2:Bool)(w:World)(h:Xq.f k D B=some (r1,r2)):
  Calls Tryz.prog 40 #[.agg #[.int .i64 D,.int .i64 B]] w fun e w'=>e= .returned (.tuple #[.int .i64 r1,.bool r2])∧Below w.heap.size w w':=by
 have ak:=Tryz.underlying35;have HB:=zq (Below.refl w.heap.size w);unfold Xq.f at h;have H:=h;clear h;have O:=zq H;clear H;go_enter Tryz.func40,Tryz.ntmps40;go_upto_region 1 with(first|((with_reducible refine Xk (N:=1) rfl ?_);refine bxw 1 35 #[.int .i64 D,.int .i64 B] ?_;intro I hg w3 hbox hb;have s:=zq (hbox);have z:=zq ((J20:w.heap.size≤I));replace HB:=zq (Xb J0 hb);clear hb hbox hg));(try simp only[Act.put,List.setIfInBounds_toArray,List.set_cons_zero,List.set_cons_succ]);go_cut [17] (fun ac wc=>∃(kq:Nat)(J:Bool),ac= .bool J∧Aside0 (Xq.j0 kq J D B=some (r1,r2))∧Aside0 (kq≤k)∧Aside0 (wc.heap[I]?=some (.cells #[.int .i64 D,.int .i64 B] 35 (0,0)))∧Aside0 (Below w.heap.size w wc));case first=>
  have H:=O.out;clear O;refine yv H ?_;clear H;rintro al A4 H;refine yB H ?_ ?_<;>clear H<;>rintro rfl H
  ·have H':=zq H;clear H;have am:=cz2 s.out;go_wp2_with(first|((with_reducible refine Xh (f:=27) rfl ?_);refine gL Tryz.func27 (Xaa.calls k D B false _ A4.out) ?_;rintro e an ⟨rfl,hb⟩;refine⟨_,rfl,?_⟩;replace s:=zq (Xg (zk s.out) hb);replace HB:=zq (Xb (zs1 z.out) hb);(try clear hb)));go_meet;case rel=>exact⟨_,(true),J3,H',⟨J42⟩,⟨J12⟩,⟨J5⟩⟩
  refine yd H ?_ ?_<;>clear H<;>rintro K H
  ·(first|rw[K]|(simp only[Xau,Xax];rw[K])|skip);have H':=zq H;clear H;have ao:=cz2 s.out;go_wp2_with(first|((with_reducible refine Xh (f:=27) rfl ?_);refine gL Tryz.func27 (Xaa.calls k D B true _ A4.out) ?_;rintro e ap ⟨rfl,hb⟩;refine⟨_,rfl,?_⟩;replace s:=zq (Xg (zk s.out) hb);replace HB:=zq (Xb (zs1 z.out) hb);(try clear hb);have aq:=cz2 s.out));go_meet;case rel=>exact⟨_,(decide (B>18)),J3,H',⟨J42⟩,⟨J12⟩,⟨J5⟩⟩
  (first|rw[K]|(simp only[Xau,Xax];rw[K])|skip);have H':=zq H;clear H;have Z7:=cz2 s.out;go_wp2_with(first|((with_reducible refine Xh (f:=27) rfl ?_);refine gL Tryz.func27 (Xaa.calls k D B true _ A4.out) ?_;rintro e w8 ⟨rfl,hb⟩;refine⟨_,rfl,?_⟩;replace s:=zq (Xg (zk s.out) hb);replace HB:=zq (Xb (zs1 z.out) hb);(try clear hb);have Z9:=cz2 s.out));go_meet;case rel=>exact⟨_,(true),J3,H',⟨J42⟩,⟨J12⟩,⟨J5⟩⟩
 case rest=>
  clear O;obtain⟨kq,J,rfl,HA,U,s,HB⟩:=hcut;cases kq with
  |zero=>exact absurd HA.out (by simp[Xq.j0])
  |succ aa=>
   have H:=HA.out;clear HA;simp only[Xq.j0]at H;refine yC H ?_ ?_<;>clear H<;>rintro rfl H
   ·obtain⟨rfl,rfl⟩:=yp2 H;go_wp2
    go_ret2
    exact⟨J1,J5⟩
   have H':=zq H;clear H;have ae:=cz2 s.out;go_wp2
   go_loopg [4,22] aa (fun kq v4 af w'=>∃(L:Int)(G:Int),v4= .int .i64 L∧af= .int .i64 G∧Aside0 (Xq.l0 kq L B G=some (r1,r2))∧Aside0 (kq≤aa)∧Aside0 (w'.heap[I]?=some (.cells #[.int .i64 D,.int .i64 B] 35 (0,0)))∧Aside0 (Below w.heap.size w w'))
   case atStart=>exact⟨(D),(0),J3,J3,H',⟨Nat.le_refl _⟩,⟨J12⟩,⟨J5⟩⟩
   case round=>
    clear H';try clear ae
    obtain⟨L,G,rfl,rfl,HA,ab,s,HB⟩:=hrel;cases gk with
    |zero=>exact absurd HA.out (by simp[Xq.l0])
    |succ k2=>
     have H:=HA.out;clear HA;simp only[Xq.l0]at H;refine yd H ?_ ?_<;>clear H<;>rintro ag H
     ·obtain⟨rfl,rfl⟩:=yp2 H;go_wp2
      go_ret2
      exact⟨J1,J5⟩
     refine yE H ?_ ?_<;>clear H<;>rintro⟨ah,ai,aj⟩ H
     ·obtain⟨rfl,rfl⟩:=yp2 H;go_wp2
      go_ret2
      exact⟨J1,J5⟩
     clear aj;have H':=zq H;clear H;go_wp2
     go_roundg k2
     case measure=>have:=U.out;have:=ab.out;omega
     case rel=>exact⟨(wrap64 (L*10)),(wrap64 (G+1)),J3,J3,H',⟨by have:=U.out;have:=ab.out;omega⟩,⟨J12⟩,⟨J5⟩⟩
end Go.Proofs.YtfjhiiaahbjaiaaGreatDoor.HSystemTells
