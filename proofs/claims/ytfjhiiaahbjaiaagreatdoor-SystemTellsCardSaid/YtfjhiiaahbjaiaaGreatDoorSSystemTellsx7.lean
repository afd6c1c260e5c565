/- Words and walks, shortened by a program: what this claim's functions answer, and that other memory stays. -/
import Derived.Test.YtfjhiiaahbjaiaaGreatDoorSSystemTellsx0
import Derived.Test.YtfjhiiaahbjaiaaGreatDoorSSystemTellsx6
namespace Go.Proofs.YtfjhiiaahbjaiaaGreatDoor.HSystemTells
open Go.RowKit Go.Proofs.YtfjhiiaahbjaiaaGreatDoorW.PrintWords Go.Proofs.YtfjhiiaahbjaiaaGreatDoorW.PrintWords.Kd Go.Proofs.YtfjhiiaahbjaiaaGreatDoorW.PrintLast Go.Proofs.YtfjhiiaahbjaiaaGreatDoorW.PrintMore Go.Proofs.YtfjhiiaahbjaiaaGreatDoorW.PrintMore.Kd
attribute [local go_sem] Xb2 Xb0 Xcd Xcc Xbq Xbp Xb1 Xbz
set_option linter.unusedVariables false
set_option linter.unusedSimpArgs false
mutual
def Xt.l0:Nat→Int→Int→List Int→List (S32)→Int→Int→Option (Int×Int×Int)
 |0,_,_,_,_,_,_=>none
 |k+1,x3,x4,x5,x9,B,s=>if s<B then(if 0≤s then(if s<(x9.length:Int)then((Xx.f k ((Xa x9 s).f0) ((Xa x9 s).f1) ((Xa x9 s).f2) ((Xa x9 s).f3)).bind fun z=>(if z<0 then(Xt.j1 k (wrap64 (x3+z)) x4 x5 s z x9 B s true ((Xa x9 s).f0) ((Xa x9 s).f1) ((Xa x9 s).f2) ((Xa x9 s).f3))else(if(wrap64 (x3+z))>1048576 then(Xt.j1 k (wrap64 (x3+z)) x4 x5 s z x9 B s true ((Xa x9 s).f0) ((Xa x9 s).f1) ((Xa x9 s).f2) ((Xa x9 s).f3))else(Xt.j1 k (wrap64 (x3+z)) x4 x5 s z x9 B s (decide ((x5.length:Int)≥16)) ((Xa x9 s).f0) ((Xa x9 s).f1) ((Xa x9 s).f2) ((Xa x9 s).f3)))))else(none))else(none))else(some (0,0,0))
def Xt.j1:Nat→Int→Int→List Int→Int→Int→List (S32)→Int→Int→Bool→Int→List Int→List Int→List (S35)→Option (Int×Int×Int)
 |0,_,_,_,_,_,_,_,_,_,_,_,_,_=>none
 |k+1,x3,x4,x5,x6,x8,x9,z,B,I,s,D,G,H=>if I=true then(some (0,0,0))else(if s=5 then(if x5.length<17592186044416 then(Xt.j2 k x3 (mx x4 (wrap64 ((x5.length:Int)+1))) (x5++[x8]) x6 x9 z B)else(none))else(if(x5.length:Int)>0 then(if 0≤(wrap64 ((x5.length:Int)-1))then(if(wrap64 ((x5.length:Int)-1))<(x5.length:Int)then(Xt.j2 k x3 (mx x4 (wrap64 ((x5.length:Int)+1))) (x5.set ((wrap64 ((x5.length:Int)-1)):Int).toNat (wrap64 ((rd x5 (wrap64 ((x5.length:Int)-1)))-1))) x6 x9 z B)else(none))else(none))else(Xt.j2 k x3 (mx x4 (wrap64 ((x5.length:Int)+1))) x5 x6 x9 z B)))
def Xt.j2:Nat→Int→Int→List Int→Int→List (S32)→Int→Int→Option (Int×Int×Int)
 |0,_,_,_,_,_,_,_=>none
 |k+1,x3,x4,x5,x6,x9,s,z=>Xt.l1 k x3 x4 x5 x6 x9 s z
def Xt.l1:Nat→Int→Int→List Int→Int→List (S32)→Int→Int→Option (Int×Int×Int)
 |0,_,_,_,_,_,_,_=>none
 |k+1,x3,x4,x5,x6,x9,s,z=>if(x5.length:Int)>0 then(if 0≤(wrap64 ((x5.length:Int)-1))then(if(wrap64 ((x5.length:Int)-1))<(x5.length:Int)then(Xt.j4 k x3 x4 x5 x6 x9 s z ((rd x5 (wrap64 ((x5.length:Int)-1)))==0))else(none))else(none))else(Xt.j4 k x3 x4 x5 x6 x9 s z false)
def Xt.j4:Nat→Int→Int→List Int→Int→List (S32)→Int→Int→Bool→Option (Int×Int×Int)
 |0,_,_,_,_,_,_,_,_=>none
 |k+1,x3,x4,x5,x6,x9,z,B,D=>if D=true then(if 0≤(wrap64 ((x5.length:Int)-1))then(if(wrap64 ((x5.length:Int)-1))≤(x5.length:Int)then((some (x5.take ((wrap64 ((x5.length:Int)-1)):Int).toNat:List Int)).bind fun s=>(if(s.length:Int)>0 then(if 0≤(wrap64 ((s.length:Int)-1))then(if(wrap64 ((s.length:Int)-1))<(s.length:Int)then(Xt.l1 k x3 x4 (s.set ((wrap64 ((s.length:Int)-1)):Int).toNat (wrap64 ((rd s (wrap64 ((s.length:Int)-1)))-1))) x6 x9 z B)else(none))else(none))else(Xt.l1 k x3 x4 s x6 x9 z B)))else(none))else(none))else(if(x5.length:Int)=0 then(some (wrap64 (x6+1),x3,x4))else(Xt.l0 k x3 x4 x5 x9 z (wrap64 (B+1))))
end
def Xt.f(k:Nat)(l0:List (S32)):Option (Int×Int×Int):=Xt.l0 k 0 0 ([]:List Int) l0 (l0.length:Int) 0
theorem Xt.mono_l:∀k,(∀y0 y1 y2 y3 y4 y5,LeO (Xt.l0 k y0 y1 y2 y3 y4 y5) (Xt.l0 (k+1) y0 y1 y2 y3 y4 y5))∧(∀y0 y1 y2 y3 y4 y5 y6 y7 y8 y9 s z B,LeO (Xt.j1 k y0 y1 y2 y3 y4 y5 y6 y7 y8 y9 s z B) (Xt.j1 (k+1) y0 y1 y2 y3 y4 y5 y6 y7 y8 y9 s z B))∧(∀y0 y1 y2 y3 y4 y5 y6,LeO (Xt.j2 k y0 y1 y2 y3 y4 y5 y6) (Xt.j2 (k+1) y0 y1 y2 y3 y4 y5 y6))∧(∀y0 y1 y2 y3 y4 y5 y6,LeO (Xt.l1 k y0 y1 y2 y3 y4 y5 y6) (Xt.l1 (k+1) y0 y1 y2 y3 y4 y5 y6))∧(∀y0 y1 y2 y3 y4 y5 y6 y7,LeO (Xt.j4 k y0 y1 y2 y3 y4 y5 y6 y7) (Xt.j4 (k+1) y0 y1 y2 y3 y4 y5 y6 y7))
 |0=>⟨fun _ _ _ _ _ _ r h=>by simp[Xt.l0]at h,fun _ _ _ _ _ _ _ _ _ _ _ _ _ r h=>by simp[Xt.j1]at h,fun _ _ _ _ _ _ _ r h=>by simp[Xt.j2]at h,fun _ _ _ _ _ _ _ r h=>by simp[Xt.l1]at h,fun _ _ _ _ _ _ _ _ r h=>by simp[Xt.j4]at h⟩
 |k+1=>by
  obtain⟨ih0,ih1,ih2,ih3,ih4⟩:=Xt.mono_l k;refine⟨?_,?_,?_,?_,?_⟩
  ·intro y0 y1 y2 y3 y4 y5;unfold Xt.l0;have im0:=@Xx.mono;exact mz3
  ·intro y0 y1 y2 y3 y4 y5 y6 y7 y8 y9 s z B;unfold Xt.j1;have im0:=@Xx.mono;exact mz3
  ·intro y0 y1 y2 y3 y4 y5 y6;unfold Xt.j2;have im0:=@Xx.mono;exact mz3
  ·intro y0 y1 y2 y3 y4 y5 y6;unfold Xt.l1;have im0:=@Xx.mono;exact mz3
  ·intro y0 y1 y2 y3 y4 y5 y6 y7;unfold Xt.j4;have im0:=@Xx.mono;exact mz3
theorem Xt.mono:∀a0 k,LeO (Xt.f k a0) (Xt.f (k+1) a0):=by intro a0 k;obtain⟨ih0,ih1,ih2,ih3,ih4⟩:=Xt.mono_l k;unfold Xt.f;have im0:=@Xx.mono;exact mz3
set_option maxHeartbeats 8000000 in
set_option maxRecDepth 100000 in
theorem Xt.calls(k:Nat)(A0:Option Addr)(c0:Nat)(l0:List (S32))(r1:Int)(r2:Int)(r3:Int)(w:World)(co:Kd.C k32 w A0 l0.length l0)(cp:l0.length≤c0)(h:Xt.f k l0=some (r1,r2,r3)):
  Calls Tryz.prog 83 #[.slice A0 l0.length c0] w fun e w'=>e= .returned (.tuple #[.int .i64 r1,.int .i64 r2,.int .i64 r3])∧Below w.heap.size w w':=by
 have dy:=Tryz.underlying32;have cX:=zq co;have dT:=zq cp;clear co cp;have HB:=zq (Below.refl w.heap.size w);unfold Xt.f at h;have H:=h;clear h;have H':=zq H;clear H;go_enter Tryz.func83,Tryz.ntmps83;go_wp2
 go_loopg [3,4,5,11] k (fun kq v3 v4 v5 cY w'=>∃(L:Int)(au:Int)(B:List Int)(s:Int),v3= .int .i64 L∧v4= .int .i64 au∧cY= .int .i64 s∧Aside0 (Xt.l0 kq L au B l0 (l0.length:Int) s=some (r1,r2,r3))∧Aside0 (kq≤k)∧Aside0 (Kd.R (Kd.int .i64) 3 w' w.heap.size (fun _=>True) v5 B)∧Aside0 (Below w.heap.size w w'))
 case atStart=>exact⟨(0),(0),(([]:List Int)),(0),J3,J3,J3,H',⟨Nat.le_refl _⟩,⟨J11⟩,⟨J0⟩⟩
 case round=>
  clear H';obtain⟨L,au,B,s,rfl,rfl,rfl,HA,al,z,HB⟩:=hrel;cases gk with
  |zero=>exact absurd HA.out (by simp[Xt.l0])
  |succ k1=>
   have H:=HA.out;clear HA;simp only[Xt.l0]at H;refine yd H ?_ ?_<;>clear H<;>rintro aY H
   ·obtain⟨rfl,rfl,rfl⟩:=yp3 H;go_wp2
    go_ret3
    exact⟨J1,J0⟩
   refine yj H ?_;clear H;intro aZ H;refine yj H ?_;clear H;intro a5 H;refine yv H ?_;clear H;rintro K A5 H;have bS:=zq H;clear H;obtain⟨cZ,O,U,ae,af,ag,ah,cq,am,an,ao,ap,ba,bb,bc,bd,be,bf,a6,a7⟩:=rdC cX.out HB.out s;cases cq;go_upto_region 7 with(first|((with_reducible refine Xk (N:=7) rfl ?_);(try(refine Xah Xbm ?_;dsimp only));refine bxw 7 32 #[.int .i64 0,.slice none 0 0,.slice none 0 0,.slice none 0 0] ?_;intro ai hg w7 hbox hb;replace z:=zq (lq (zr z.out) hb);have D:=zq (hbox);have I:=zq ((J20:w.heap.size≤ai));replace HB:=zq (Xb J0 hb);clear hb hbox hg;have Z8:=cz4 D.out)|((with_reducible refine Xh (f:=90) rfl ?_);refine gL Tryz.func90 (Xx.calls k1 ((Xa l0 s).f0) _ _ ((Xa l0 s).f1) _ _ ((Xa l0 s).f2) _ _ ((Xa l0 s).f3) K _ (lp ba.out (zs1 I.out)) bb.out (lp bc.out (zs1 I.out)) bd.out (lp be.out (zs1 I.out)) bf.out A5.out) ?_;rintro e w9 ⟨rfl,hb⟩;refine⟨_,rfl,?_⟩;replace z:=zq (lq (by(with_reducible repeat(first|apply Kd.R_alloc|apply lx|apply ly));exact(gT4 z.out D.out)) hb);replace D:=zq (Xg (g:=ai) (o:=.cells #[.int .i64 ((Xa l0 s).f0),.slice O ((Xa l0 s).f1).length U,.slice ae ((Xa l0 s).f2).length af,.slice ag ((Xa l0 s).f3).length ah] 32 (0,0)) (by(with_reducible repeat(first|refine Xd ?_ _|refine Xf ?_|refine Xc ?_ _));refine Xp (cs:=#[.int .i64 ((Xa l0 s).f0),.slice O ((Xa l0 s).f1).length U,.slice ae ((Xa l0 s).f2).length af,.slice none 0 0]) ?_ 3 _ rfl;(with_reducible repeat(first|refine Xd ?_ _|refine Xf ?_|refine Xc ?_ _));refine Xp (cs:=#[.int .i64 ((Xa l0 s).f0),.slice O ((Xa l0 s).f1).length U,.slice none 0 0,.slice none 0 0]) ?_ 2 _ rfl;(with_reducible repeat(first|refine Xd ?_ _|refine Xf ?_|refine Xc ?_ _));refine Xp (cs:=#[.int .i64 ((Xa l0 s).f0),.slice none 0 0,.slice none 0 0,.slice none 0 0]) ?_ 1 _ rfl;(with_reducible repeat(first|refine Xd ?_ _|refine Xf ?_|refine Xc ?_ _));refine Xp (cs:=#[.int .i64 0,.slice none 0 0,.slice none 0 0,.slice none 0 0]) ?_ 0 _ rfl;(with_reducible repeat(first|refine Xd ?_ _|refine Xf ?_|refine Xc ?_ _));exact D.out) hb);replace HB:=zq (Xb (zs1 I.out) hb);(try clear hb);(try clear hk)));(try simp only[Act.put,List.setIfInBounds_toArray,List.set_cons_zero,List.set_cons_succ]);go_cut [31] (fun da wc=>∃(kq:Nat)(aT:Bool),da= .bool aT∧Aside0 (Xt.j1 kq (wrap64 (L+K)) au B s K l0 (l0.length:Int) s aT ((Xa l0 s).f0) ((Xa l0 s).f1) ((Xa l0 s).f2) ((Xa l0 s).f3)=some (r1,r2,r3))∧Aside0 (kq≤k1)∧Aside0 (Kd.R (Kd.int .i64) 3 wc w.heap.size (fun _=>True) u5 B)∧Aside0 (wc.heap[ai]?=some (.cells #[.int .i64 ((Xa l0 s).f0),(.slice O ((Xa l0 s).f1).length U),(.slice ae ((Xa l0 s).f2).length af),(.slice ag ((Xa l0 s).f3).length ah)] 32 (0,0)))∧Aside0 (Below w.heap.size w wc));case first=>
    have H:=bS.out;clear bS;refine yD H ?_ ?_<;>clear H<;>rintro aH H
    ·(first|rw[aH]|(simp only[Xau,Xax];rw[aH])|skip);have H':=zq H;clear H;go_wp2;go_meet;case rel=>exact⟨_,(true),J3,H',⟨by have:=al.out;first|omega|exact Nat.le_refl _⟩,⟨J65⟩,⟨J45⟩,⟨J4⟩⟩
    (first|rw[aH]|(simp only[Xau,Xax];rw[aH])|skip);refine yD H ?_ ?_<;>clear H<;>rintro db H
    ·have H':=zq H;clear H;go_wp2;go_meet;case rel=>exact⟨_,(true),J3,H',⟨by have:=al.out;first|omega|exact Nat.le_refl _⟩,⟨J65⟩,⟨J45⟩,⟨J4⟩⟩
    have H':=zq H;clear H;obtain⟨dz,dA,cr⟩:=lv z.out;subst cr;go_wp2;go_meet;case rel=>exact⟨_,(decide ((B.length:Int)≥16)),J3,H',⟨by have:=al.out;first|omega|exact Nat.le_refl _⟩,⟨J65⟩,⟨J45⟩,⟨J4⟩⟩
   case rest=>
    clear bS;try clear aY
    try clear aZ
    try clear a5
    try clear Z8
    try clear am
    try clear an
    try clear ao
    try clear ap
    try clear a6
    try clear a7
    obtain⟨kq,aT,rfl,HA,av,z,D,HB⟩:=hcut;cases kq with
    |zero=>exact absurd HA.out (by simp[Xt.j1])
    |succ aU=>
     have H:=HA.out;clear HA;simp only[Xt.j1]at H;refine yC H ?_ ?_<;>clear H<;>rintro rfl H
     ·obtain⟨rfl,rfl,rfl⟩:=yp3 H;go_wp2
      go_ret3
      exact⟨J1,J4⟩
     obtain⟨ac,aw⟩:∃j_:Int,(mx au (wrap64 ((B.length:Int)+1)))=j_:=⟨_,rfl⟩;replace H:(if((Xa l0 s).f0)=5 then(if B.length<17592186044416 then(Xt.j2 aU (wrap64 (L+K)) ac (B++[K]) s l0 (l0.length:Int) s)else(none))else(if(B.length:Int)>0 then(if 0≤(wrap64 ((B.length:Int)-1))then(if(wrap64 ((B.length:Int)-1))<(B.length:Int)then(Xt.j2 aU (wrap64 (L+K)) ac (B.set ((wrap64 ((B.length:Int)-1)):Int).toNat (wrap64 ((rd B (wrap64 ((B.length:Int)-1)))-1))) s l0 (l0.length:Int) s)else(none))else(none))else(Xt.j2 aU (wrap64 (L+K)) ac B s l0 (l0.length:Int) s)))=some (r1,r2,r3):=by first|(rw[aw]at H;exact H)|(simp only[aw]at H⊢;exact H)
     have cO:(if au<(wrap64 ((B.length:Int)+1))then(wrap64 ((B.length:Int)+1))else au)=ac:=aw;have bg:=zq H;clear H;obtain⟨ct,bG,cu⟩:=lv z.out;subst cu;have bT:=cz4 D.out
     go_upto_if 39 with(fail)
     go_cut [5] (fun v5 wc=>∃(kq:Nat)(aI:List Int),Aside0 (Xt.j2 kq (wrap64 (L+K)) ac aI s l0 (l0.length:Int) s=some (r1,r2,r3))∧Aside0 (kq≤aU)∧Aside0 (Kd.R (Kd.int .i64) 3 wc w.heap.size (fun _=>True) v5 aI)∧Aside0 (wc.heap[ai]?=some (.cells #[.int .i64 ((Xa l0 s).f0),(.slice O ((Xa l0 s).f1).length U),(.slice ae ((Xa l0 s).f2).length af),(.slice ag ((Xa l0 s).f3).length ah)] 32 (0,0)))∧Aside0 (Below w.heap.size w wc));case first=>
      have H:=bg.out;clear bg;refine yF H ?_ ?_<;>clear H<;>rintro⟨aJ,dc,dd⟩ H
      ·clear dd;(first|rw[aJ]|(simp only[Xau,Xax];rw[aJ])|skip);refine yu H ?_ ?_<;>clear H<;>rintro cv H
       ·have bU:=zq cv;clear cv;obtain⟨bH,ax⟩:∃y_:List Int,y_=(B++[K]):=⟨_,rfl⟩;replace H:(Xt.j2 aU (wrap64 (L+K)) ac bH s l0 (l0.length:Int) s)=some (r1,r2,r3):=by first|(rw[ax];with_reducible exact H)|(have ay:=(Option.bind_some _ _).symm.trans H;rw[ax];with_reducible exact ay)|(have ay:=(Option.bind_some _ _).symm.trans H;with_reducible exact ay)|with_reducible exact H|(rw[ax];exact H)|exact H
        have bV:=zq ax;clear ax;have H':=zq H;clear H;go_wp2_with(first|((with_reducible refine Xa8 (b:=.append) (xs:=#[.tmp 40,.tmp 42]) rfl ?_);(try(refine Xah Xbm ?_;dsimp only));at_builtin;refine mt (Kd.int .i64) (w0:=w) w.heap.size rfl (.tmp 40) (.tmp 42) 29 3 (.int .i64 0) 8 rfl Tryz.underlying29 Xdh rfl J18 J28 (.slice ct B.length bG) B K [.int .i64 K] (fun _=>True) (fun _=>False) rfl rfl ?aP (fun _ hk=>hk.elim) ?aF ?aO ?aB ?aS ?aL ?_;(case aP=>exact rfl);(case aB=>exact(zs1 I.out));(case aF=>exact(fun _ _=>trivial));(case aO=>exact(zr z.out));(case aS=>exact(Xe (zs1 I.out)));(case aL=>have:=bU.out;omega);intro dB dU ho hb hg hat;rw[←bV.out]at ho;replace D:=zq (Xbr (g:=ai) (o:=.cells #[.int .i64 ((Xa l0 s).f0),.slice O ((Xa l0 s).f1).length U,.slice ae ((Xa l0 s).f2).length af,.slice ag ((Xa l0 s).f3).length ah] 32 (0,0)) (zk D.out) hg (lQ z.out D.out J18));replace HB:=zq (hb);have bW:=zq (ho);clear z;clear ho hb hg hat));go_meet;case rel=>exact⟨_,(bH),H',⟨J174⟩,⟨by(with_reducible repeat(first|apply Kd.R_alloc|apply lx|apply ly));exact bW.out⟩,⟨J45⟩,⟨J4⟩⟩
       ·exact absurd H J92
      (first|rw[aJ]|(simp only[Xau,Xax];rw[aJ])|skip);refine yt H ?_ ?_<;>clear H<;>rintro bB H
      ·have bX:decide (0<(B.length:Int))=false:=decide_eq_false bB;have bY:decide (0<B.length)=false:=decide_eq_false J28;clear bB;have H':=zq H;clear H;go_wp2;go_meet;case rel=>exact⟨_,(B),H',⟨J174⟩,⟨J65⟩,⟨J45⟩,⟨J4⟩⟩
      have bX:=decide_eq_true bB;have bY:decide (0<B.length)=true:=decide_eq_true J28;clear bB;obtain⟨aa,aV⟩:∃j_:Int,(wrap64 ((B.length:Int)-1))=j_:=⟨_,rfl⟩;replace H:(if 0≤(aa)then(if(aa)<(B.length:Int)then(Xt.j2 aU (wrap64 (L+K)) ac (B.set ((aa):Int).toNat (wrap64 ((rd B (aa))-1))) s l0 (l0.length:Int) s)else(none))else(none))=some (r1,r2,r3):=by first|(rw[aV]at H;exact H)|(simp only[aV]at H⊢;exact H)
      have cP:(IntKind.i64.wrap ((B.length:Int)-1))=aa:=(Xau _).trans aV;refine yj H ?_;clear H;intro de H;refine yj H ?_;clear H;intro df H;obtain⟨bh,aA⟩:∃y_:List Int,y_=(B.set ((aa):Int).toNat (wrap64 ((rd B (aa))-1))):=⟨_,rfl⟩;replace H:(Xt.j2 aU (wrap64 (L+K)) ac bh s l0 (l0.length:Int) s)=some (r1,r2,r3):=by first|(rw[aA];with_reducible exact H)|(have ay:=(Option.bind_some _ _).symm.trans H;rw[aA];with_reducible exact ay)|(have ay:=(Option.bind_some _ _).symm.trans H;with_reducible exact ay)|with_reducible exact H|(rw[aA];exact H)|exact H
      have bZ:=zq aA;clear aA;have H':=zq H;clear H;have bi:0≤((aa):Int):=of_decide_eq_true J2;have bj:(aa)<(B.length:Int):=of_decide_eq_true J2;obtain⟨dg,cw,bk⟩:=Kd.at_int (lu z.out).2.2 (aa) bi bj;cases cw;replace bi:=eq_true bi;replace bj:=eq_true bj;have b5:0≤((aa):Int):=of_decide_eq_true J2;have b6:((aa):Int)<((B.length:Int):Int):=of_decide_eq_true J2;obtain⟨bl,dC,bI,bJ,cx,dE,bK⟩:=m0 z.out J28;(first|cases bI|(injection bI with aK b7 b8;(first|subst aK|(injection aK with aK;subst aK));subst b8;clear b7));have cy:=zq bJ;have dF:=zq bK;clear bJ cx bK;(first|simp only[Xdr]at bk|skip);obtain⟨cQ,cR⟩:=ni 0 z.out ((aa):Int) b5 b6;replace b5:=eq_true b5;replace b6:=eq_true b6;have bm:=nn z.out ((aa):Int) (wrap64 ((rd B (aa))-1));go_wp2_with(first|((with_reducible refine Xch (t:=3) (p:=54) rfl ?_);refine Xca (t:=3) (p:=54) (v:=?vo_w27) (w1:=(wc.setCell ⟨bl,((aa):Int).toNat,none⟩ (.int .i64 (wrap64 ((rd B (aa))-1))))) ?hg ?ho ?hn ?hr ?_;(case ho=>rfl);(case hg=>rfl);(case hn=>rfl);(case hr=>first|(go_simp;done)|(go_simp;rfl));intro b9 hw;have hg:wc.grownBy b9 (some bl):=(by rw[hw];exact bm.2);have bn:Kd.R (Kd.int .i64) 3 b9 w.heap.size (fun _=>True) (.slice (some ⟨bl,0,none⟩) B.length bG) bh:=(by rw[hw,bZ.out];exact bm.1);clear bm;replace D:=zq (Xbr (g:=ai) (o:=.cells #[.int .i64 ((Xa l0 s).f0),.slice O ((Xa l0 s).f1).length U,.slice ae ((Xa l0 s).f2).length af,.slice ag ((Xa l0 s).f3).length ah] 32 (0,0)) (zk D.out) hg (lQ z.out D.out J18));replace z:=zq (bn);replace HB:=zq ((by rw[hw];exact X9 (HB.out) cy.out:Below w.heap.size w b9));clear hg hw bn));go_meet;case rel=>exact⟨_,(bh),H',⟨J174⟩,⟨J65⟩,⟨J45⟩,⟨J4⟩⟩
     case rest=>
      clear bg;try clear aY
      try clear aZ
      try clear a5
      try clear bT
      try clear Z8
      try clear am
      try clear an
      try clear ao
      try clear ap
      try clear a6
      try clear a7
      obtain⟨kq,aI,HA,aq,z,D,HB⟩:=hcut;cases kq with
      |zero=>exact absurd HA.out (by simp[Xt.j2])
      |succ bL=>
       have H:=HA.out;clear HA;simp only[Xt.j2]at H;have H':=zq H;clear H;go_wp2
       go_loopg [5] bL (fun kq v5 w'=>∃(J:List Int),Aside0 (Xt.l1 kq (wrap64 (L+K)) ac J s l0 (l0.length:Int) s=some (r1,r2,r3))∧Aside0 (kq≤bL)∧Aside0 (Kd.R (Kd.int .i64) 3 w' w.heap.size (fun _=>True) v5 J)∧Aside0 (w'.heap[ai]?=some (.cells #[.int .i64 ((Xa l0 s).f0),(.slice O ((Xa l0 s).f1).length U),(.slice ae ((Xa l0 s).f2).length af),(.slice ag ((Xa l0 s).f3).length ah)] 32 (0,0)))∧Aside0 (Below w.heap.size w w'))
       case atStart=>exact⟨(aI),H',⟨Nat.le_refl _⟩,⟨J65⟩,⟨J45⟩,⟨J4⟩⟩
       case round=>
        clear H';try clear aY
        try clear aZ
        try clear a5
        try clear bT
        try clear Z8
        try clear am
        try clear an
        try clear ao
        try clear ap
        try clear a6
        try clear a7
        obtain⟨J,HA,aR,z,D,HB⟩:=hrel;cases gk with
        |zero=>exact absurd HA.out (by simp[Xt.l1])
        |succ k4=>
         have H:=HA.out;clear HA;simp only[Xt.l1]at H;have bo:=zq H;clear H;go_upto_region 14 with(fail);go_cut [66] (fun dh wc=>∃(kq:Nat)(aM:Bool),dh= .bool aM∧Aside0 (Xt.j4 kq (wrap64 (L+K)) ac J s l0 (l0.length:Int) s aM=some (r1,r2,r3))∧Aside0 (kq≤k4)∧Aside0 (Kd.R (Kd.int .i64) 3 wc w.heap.size (fun _=>True) u5 J)∧Aside0 (wc.heap[ai]?=some (.cells #[.int .i64 ((Xa l0 s).f0),(.slice O ((Xa l0 s).f1).length U),(.slice ae ((Xa l0 s).f2).length af),(.slice ag ((Xa l0 s).f3).length ah)] 32 (0,0)))∧Aside0 (Below w.heap.size w wc));case first=>
          have H:=bo.out;clear bo;refine yt H ?_ ?_<;>clear H<;>rintro bC H
          ·have aC:decide (0<(J.length:Int))=false:=decide_eq_false bC;have ca:decide (0<J.length)=false:=decide_eq_false J28;clear bC;(first|rw[aC]|(simp only[Xau,Xax];rw[aC])|skip);have H':=zq H;clear H;obtain⟨dG,dH,cz⟩:=lv z.out;subst cz;go_wp2;go_meet;case rel=>exact⟨_,(false),J3,H',⟨by have:=al.out;have:=av.out;have:=aq.out;have:=aR.out;first|omega|exact Nat.le_refl _⟩,⟨J65⟩,⟨J45⟩,⟨J4⟩⟩
          have aC:=decide_eq_true bC;have ca:decide (0<J.length)=true:=decide_eq_true J28;clear bC;(first|rw[aC]|(simp only[Xau,Xax];rw[aC])|skip);obtain⟨ar,aN⟩:∃j_:Int,(wrap64 ((J.length:Int)-1))=j_:=⟨_,rfl⟩;replace H:(if 0≤(ar)then(if(ar)<(J.length:Int)then(Xt.j4 k4 (wrap64 (L+K)) ac J s l0 (l0.length:Int) s ((rd J (ar))==0))else(none))else(none))=some (r1,r2,r3):=by first|(rw[aN]at H;exact H)|(simp only[aN]at H⊢;exact H)
          have cS:(IntKind.i64.wrap ((J.length:Int)-1))=ar:=(Xau _).trans aN;refine yj H ?_;clear H;intro di H;refine yj H ?_;clear H;intro dj H;have H':=zq H;clear H;obtain⟨dI,dJ,cA⟩:=lv z.out;subst cA;have bp:0≤((ar):Int):=of_decide_eq_true J2;have bq:(ar)<(J.length:Int):=of_decide_eq_true J2;obtain⟨dk,cB,cC⟩:=Kd.at_int (lu z.out).2.2 (ar) bp bq;cases cB;replace bp:=eq_true bp;replace bq:=eq_true bq;go_wp2;go_meet;case rel=>exact⟨_,(((rd J (ar))==0)),(by first|rfl|(simp;done)|(simp only[←aN]<;>(first|rfl|simp))|(simp[*];done)),H',⟨by have:=al.out;have:=av.out;have:=aq.out;have:=aR.out;first|omega|exact Nat.le_refl _⟩,⟨J65⟩,⟨J45⟩,⟨J4⟩⟩
         case rest=>
          clear bo;try clear aY
          try clear aZ
          try clear a5
          try clear bT
          try clear Z8
          try clear am
          try clear an
          try clear ao
          try clear ap
          try clear a6
          try clear a7
          obtain⟨kq,aM,rfl,HA,aG,z,D,HB⟩:=hcut;cases kq with
          |zero=>exact absurd HA.out (by simp[Xt.j4])
          |succ aD=>
           have H:=HA.out;clear HA;simp only[Xt.j4]at H;refine yB H ?_ ?_<;>clear H<;>rintro rfl H
           ·refine yF H ?_ ?_<;>clear H<;>rintro⟨dl,dm,cD⟩ H
            ·clear cD;obtain⟨rfl,rfl,rfl⟩:=yp3 H;obtain⟨dK,dL,cE⟩:=lv z.out;subst cE;go_wp2
             go_ret3
             exact⟨by first|rfl|(simp[Xee,Xed]<;>rfl)|(simp only[←aw];first|rfl|(simp[Xee,Xed]<;>rfl))|(simp[*,Xee,Xed]<;>rfl),J4⟩
            ·have dn:¬(J=[]):=fun h_=>cD (by rw[h_];rfl);have H':=zq H;clear H;obtain⟨dM,dN,cF⟩:=lv z.out;subst cF;go_wp2
             go_roundg aD
             case measure=>have:=al.out;have:=av.out;have:=aq.out;have:=aR.out;have:=aG.out;omega
             case rel=>exact⟨((wrap64 (L+K))),(ac),(J),(wrap64 (s+1)),J3,(by first|rfl|(simp;done)|(simp only[←aw]<;>(first|rfl|simp))|(simp[*];done)),J3,H',⟨J165⟩,⟨J65⟩,⟨J4⟩⟩
           obtain⟨ak,aW⟩:∃j_:Int,(wrap64 ((J.length:Int)-1))=j_:=⟨_,rfl⟩;replace H:(if 0≤(ak)then(if(ak)≤(J.length:Int)then((some (J.take ((ak):Int).toNat:List Int)).bind fun G=>(if(G.length:Int)>0 then(if 0≤(wrap64 ((G.length:Int)-1))then(if(wrap64 ((G.length:Int)-1))<(G.length:Int)then(Xt.l1 aD (wrap64 (L+K)) ac (G.set ((wrap64 ((G.length:Int)-1)):Int).toNat (wrap64 ((rd G (wrap64 ((G.length:Int)-1)))-1))) s l0 (l0.length:Int) s)else(none))else(none))else(Xt.l1 aD (wrap64 (L+K)) ac G s l0 (l0.length:Int) s)))else(none))else(none))=some (r1,r2,r3):=by first|(rw[aW]at H;exact H)|(simp only[aW]at H⊢;exact H)
           have cT:(IntKind.i64.wrap ((J.length:Int)-1))=ak:=(Xau _).trans aW;refine yi H ?_;clear H;intro cb H;have dp:=eq_true cb;have dq:=decide_eq_true cb;clear cb;refine yi H ?_;clear H;intro cc H;have dt:=eq_true cc;have du:=decide_eq_true cc;clear cc;refine yl H ?_;clear H;rintro G aQ H;refine yt H ?_ ?_<;>clear H<;>rintro bD H
           ·have cd:decide (0<(G.length:Int))=false:=decide_eq_false bD;have cf:decide (0<G.length)=false:=decide_eq_false J28;clear bD;have H':=zq H;clear H;obtain⟨cG,cH,cI⟩:=lv z.out;subst cI;have cg:((ak):Int)≤((J.length:Int):Int):=of_decide_eq_true J2;obtain⟨dO,br,_,ch,_⟩:=info_parts Xdh;have bE:=cut_to (P:=Tryz.prog) 29 3 .i64 Tryz.underlying29 br cG J.length cH (ak) (of_decide_eq_true J2) cg (lu z.out).2.1;have a8:=nb (m:=((ak):Int).toNat) z.out J28;have bM:G.length=((ak):Int).toNat:=(by rw[aQ.out,List.length_take];omega);rw[←aQ.out]at a8;rw[←bM]at a8 bE;clear bM br ch z;have aj:=zq a8;clear a8;replace cg:=eq_true cg;go_wp2
            go_roundg aD
            case measure=>have:=al.out;have:=av.out;have:=aq.out;have:=aR.out;have:=aG.out;omega
            case rel=>exact⟨(G),H',⟨J165⟩,⟨by(with_reducible repeat(first|apply Kd.R_alloc|apply lx|apply ly));exact aj.out⟩,⟨J45⟩,⟨J4⟩⟩
           have cd:=decide_eq_true bD;have cf:decide (0<G.length)=true:=decide_eq_true J28;clear bD;obtain⟨ab,aX⟩:∃j_:Int,(wrap64 ((G.length:Int)-1))=j_:=⟨_,rfl⟩;replace H:(if 0≤(ab)then(if(ab)<(G.length:Int)then(Xt.l1 aD (wrap64 (L+K)) ac (G.set ((ab):Int).toNat (wrap64 ((rd G (ab))-1))) s l0 (l0.length:Int) s)else(none))else(none))=some (r1,r2,r3):=by first|(rw[aX]at H;exact H)|(simp only[aX]at H⊢;exact H)
           have cU:(IntKind.i64.wrap ((G.length:Int)-1))=ab:=(Xau _).trans aX;refine yj H ?_;clear H;intro dv H;refine yj H ?_;clear H;intro dw H;obtain⟨bs,aE⟩:∃y_:List Int,y_=(G.set ((ab):Int).toNat (wrap64 ((rd G (ab))-1))):=⟨_,rfl⟩;replace H:(Xt.l1 aD (wrap64 (L+K)) ac bs s l0 (l0.length:Int) s)=some (r1,r2,r3):=by first|(rw[aE];with_reducible exact H)|(have ay:=(Option.bind_some _ _).symm.trans H;rw[aE];with_reducible exact ay)|(have ay:=(Option.bind_some _ _).symm.trans H;with_reducible exact ay)|with_reducible exact H|(rw[aE];exact H)|exact H
           have ci:=zq aE;clear aE;have H':=zq H;clear H;obtain⟨cJ,bN,cK⟩:=lv z.out;subst cK;have cj:((ak):Int)≤((J.length:Int):Int):=of_decide_eq_true J2;obtain⟨dP,bu,_,ck,_⟩:=info_parts Xdh;have bF:=cut_to (P:=Tryz.prog) 29 3 .i64 Tryz.underlying29 bu cJ J.length bN (ak) (of_decide_eq_true J2) cj (lu z.out).2.1;have a9:=nb (m:=((ak):Int).toNat) z.out J28;have bO:G.length=((ak):Int).toNat:=(by rw[aQ.out,List.length_take];omega);rw[←aQ.out]at a9;rw[←bO]at a9 bF;clear bO bu ck z;have aj:=zq a9;clear a9;replace cj:=eq_true cj;have bv:0≤((ab):Int):=of_decide_eq_true J2;have bw:(ab)<(G.length:Int):=of_decide_eq_true J2;obtain⟨dx,cL,bx⟩:=Kd.at_int (lu aj.out).2.2 (ab) bv bw;cases cL;replace bv:=eq_true bv;replace bw:=eq_true bw;have cl:0≤((ab):Int):=of_decide_eq_true J2;have cm:((ab):Int)<((G.length:Int):Int):=of_decide_eq_true J2;obtain⟨bz,dQ,bP,bQ,cM,dR,bR⟩:=m0 aj.out J28;(first|cases bP|(injection bP with aK b7 b8;(first|subst aK|(injection aK with aK;subst aK));subst b8;clear b7));have cN:=zq bQ;have dS:=zq bR;clear bQ cM bR;(first|simp only[Xdr]at bx|skip);obtain⟨cV,cW⟩:=ni 0 aj.out ((ab):Int) cl cm;replace cl:=eq_true cl;replace cm:=eq_true cm;have bA:=nn aj.out ((ab):Int) (wrap64 ((rd G (ab))-1));go_wp2_with(first|((with_reducible refine Xch (t:=3) (p:=82) rfl ?_);refine Xca (t:=3) (p:=82) (v:=?vo_w47) (w1:=(wc.setCell ⟨bz,((ab):Int).toNat,none⟩ (.int .i64 (wrap64 ((rd G (ab))-1))))) ?hg ?ho ?hn ?hr ?_;(case ho=>rfl);(case hg=>rfl);(case hn=>rfl);(case hr=>first|(go_simp;done)|(go_simp;rfl));intro cn hw;have hg:wc.grownBy cn (some bz):=(by rw[hw];exact bA.2);have bn:Kd.R (Kd.int .i64) 3 cn w.heap.size (fun _=>True) (.slice (some ⟨bz,0,none⟩) G.length bN) bs:=(by rw[hw,ci.out];exact bA.1);clear bA;replace D:=zq (Xbr (g:=ai) (o:=.cells #[.int .i64 ((Xa l0 s).f0),.slice O ((Xa l0 s).f1).length U,.slice ae ((Xa l0 s).f2).length af,.slice ag ((Xa l0 s).f3).length ah] 32 (0,0)) (zk D.out) hg (lQ aj.out D.out J18));replace aj:=zq (bn);replace HB:=zq ((by rw[hw];exact X9 (HB.out) cN.out:Below w.heap.size w cn));clear hg hw bn))
           go_roundg aD
           case measure=>have:=al.out;have:=av.out;have:=aq.out;have:=aR.out;have:=aG.out;omega
           case rel=>exact⟨(bs),H',⟨J165⟩,⟨by(with_reducible repeat(first|apply Kd.R_alloc|apply lx|apply ly));exact aj.out⟩,⟨J45⟩,⟨J4⟩⟩
end Go.Proofs.YtfjhiiaahbjaiaaGreatDoor.HSystemTells
