/- Words and walks, shortened by a program: what this claim's functions answer, and that other memory stays. -/
import Derived.Test.YtfjhiiaahbjaiaaGreatDoorSSystemTellsx0
import Derived.Test.YtfjhiiaahbjaiaaGreatDoorSSystemTellsx16
import Derived.Test.YtfjhiiaahbjaiaaGreatDoorSSystemTellsx18
import Derived.Test.YtfjhiiaahbjaiaaGreatDoorSSystemTellsx19
namespace Go.Proofs.YtfjhiiaahbjaiaaGreatDoor.HSystemTells
open Go.RowKit Go.Proofs.YtfjhiiaahbjaiaaGreatDoorW.PrintWords Go.Proofs.YtfjhiiaahbjaiaaGreatDoorW.PrintWords.Kd Go.Proofs.YtfjhiiaahbjaiaaGreatDoorW.PrintLast Go.Proofs.YtfjhiiaahbjaiaaGreatDoorW.PrintMore Go.Proofs.YtfjhiiaahbjaiaaGreatDoorW.PrintMore.Kd
attribute [local go_sem] Xb2 Xb0 Xcd Xcc Xbq Xbp Xb1 Xbz
set_option linter.unusedVariables false
set_option linter.unusedSimpArgs false
mutual
def Xv.j0:Nat→List (S32)→Bool→Option ((List (List (S32))))
 |0,_,_=>none
 |k+1,x0,s=>if s=true then(some ([]:List (List (S32))))else(Xv.l0 k x0 ([]:List (List (S32))) 1)
def Xv.l0:Nat→List (S32)→List (List (S32))→Int→Option ((List (List (S32))))
 |0,_,_,_=>none
 |k+1,x0,x3,x4=>if x4<(x0.length:Int)then(if 0≤x4 then(if x4≤(x0.length:Int)then((Xr.f k (x0.drop (x4:Int).toNat) 16).bind fun s=>(if x4≤(wrap64 (x4+s.1))then(if(wrap64 (x4+s.1))≤(x0.length:Int)then((deckleref10_Copy.f k ((x0.take ((wrap64 (x4+s.1)):Int).toNat).drop (x4:Int).toNat)).bind fun z=>(if x3.length<5864062014805 then(Xv.l0 k x0 (x3++[z]) (wrap64 (x4+s.1)))else(none)))else(none))else(none)))else(none))else(none))else(some x3)
end
def Xv.f(k:Nat)(l0:List (S32)):Option ((List (List (S32)))):=(Xaz.f k l0).bind fun s=>(if s=true then(if 0<(l0.length:Int)then(Xv.j0 k l0 (((Xa l0 0).f0) != 5))else(none))else(Xv.j0 k l0 true))
theorem Xv.mono_l:∀k,(∀y0 y1,LeO (Xv.j0 k y0 y1) (Xv.j0 (k+1) y0 y1))∧(∀y0 y1 y2,LeO (Xv.l0 k y0 y1 y2) (Xv.l0 (k+1) y0 y1 y2))
 |0=>⟨fun _ _ r h=>by simp[Xv.j0]at h,fun _ _ _ r h=>by simp[Xv.l0]at h⟩
 |k+1=>by
  obtain⟨ih0,ih1⟩:=Xv.mono_l k;refine⟨?_,?_⟩
  ·intro y0 y1;unfold Xv.j0;have im0:=@deckleref10_Copy.mono;have im1:=@Xaz.mono;have im2:=@Xr.mono;exact mz3
  ·intro y0 y1 y2;unfold Xv.l0;have im0:=@deckleref10_Copy.mono;have im1:=@Xaz.mono;have im2:=@Xr.mono;exact mz3
theorem Xv.mono:∀a0 k,LeO (Xv.f k a0) (Xv.f (k+1) a0):=by intro a0 k;obtain⟨ih0,ih1⟩:=Xv.mono_l k;unfold Xv.f;have im0:=@deckleref10_Copy.mono;have im1:=@Xaz.mono;have im2:=@Xr.mono;exact mz3
set_option maxHeartbeats 8000000 in
set_option maxRecDepth 100000 in
theorem Xv.calls(k:Nat)(A0:Option Addr)(c0:Nat)(l0:List (S32))(r:List (List (S32)))(w:World)(aX:Kd.C k32 w A0 l0.length l0)(aY:l0.length≤c0)(h:Xv.f k l0=some r):
  Calls Tryz.prog 66 #[.slice A0 l0.length c0] w fun e w'=>∃aZ:Value,e= .returned (aZ)∧Kd.R (Kd.slice 32 k32) 22 w' w.heap.size (fun _=>True) aZ r∧Below w.heap.size w w':=by
 have am:=zq aX;have ax:=zq aY;clear aX aY;have HB:=zq (Below.refl w.heap.size w);unfold Xv.f at h;have H:=h;clear h;have aH:=zq H;clear H;go_enter Tryz.func66,Tryz.ntmps66;go_upto_region 1 with(fail);go_cut [17] (fun bC wc=>∃(kq:Nat)(ag:Bool),bC= .bool ag∧Aside0 (Xv.j0 kq l0 ag=some r)∧Aside0 (kq≤k)∧Aside0 (Below w.heap.size w wc));case first=>
  have H:=aH.out;clear aH;refine yv H ?_;clear H;rintro bU A3 H;refine yB H ?_ ?_<;>clear H<;>rintro rfl H
  ·have H':=zq H;clear H;go_wp2_with(first|((with_reducible refine Xh (f:=45) rfl ?_);refine gL Tryz.func45 (Xaz.calls k _ _ l0 false _ (zc (lp am.out HB.out)) ax.out A3.out) ?_;rintro e w7 ⟨rfl,hb⟩;refine⟨_,rfl,?_⟩;replace HB:=zq (Xb J0 hb);(try clear hb);(try clear hk);(try clear hi)));go_meet;case rel=>exact⟨_,(true),J3,H',⟨J42⟩,⟨J0⟩⟩
  refine yi H ?_;clear H;intro c5 H;have aC:=decide_eq_true c5;have bV:decide (0<l0.length)=true:=decide_eq_true J28;clear c5;(first|rw[aC]|(simp only[Xau,Xax];rw[aC])|skip);have H':=zq H;clear H;go_wp2_with(first|((with_reducible refine Xh (f:=45) rfl ?_);refine gL Tryz.func45 (Xaz.calls k _ _ l0 true _ (zc (lp am.out HB.out)) ax.out A3.out) ?_;rintro e w6 ⟨rfl,hb⟩;refine⟨_,rfl,?_⟩;replace HB:=zq (Xb J0 hb);(try clear hb);(try clear hk);(try clear hi);obtain⟨bD,bv,bw,bx,bz,bA,bB,a5,a6,a7,a8,a9,ba,bb,bc,bd,be,bf,bW,bX,bE⟩:=Xfd am.out HB.out;cases a5));go_meet;case rel=>exact⟨_,((((Xa l0 0).f0) != 5)),J3,H',⟨J42⟩,⟨J0⟩⟩
 case rest=>
  clear aH;obtain⟨kq,ag,rfl,HA,bg,HB⟩:=hcut;cases kq with
  |zero=>exact absurd HA.out (by simp[Xv.j0])
  |succ bh=>
   have H:=HA.out;clear HA;simp only[Xv.j0]at H;refine yC H ?_ ?_<;>clear H<;>rintro rfl H
   ·obtain rfl:=yo H;go_wp2;go_ret;exact⟨_,J1,J11,J0⟩
   have H':=zq H;clear H;go_wp2
   go_loopg [3,4] bh (fun kq v3 v4 w'=>∃(B:List (List (S32)))(s:Int),v4= .int .i64 s∧Aside0 (Xv.l0 kq l0 B s=some r)∧Aside0 (kq≤bh)∧Aside0 (Kd.R (Kd.slice 32 k32) 22 w' w.heap.size (fun _=>True) v3 B)∧Aside0 (Below w.heap.size w w'))
   case atStart=>exact⟨(([]:List (List (S32)))),(1),J3,H',⟨Nat.le_refl _⟩,⟨J11⟩,⟨J0⟩⟩
   case round=>
    clear H';obtain⟨B,s,rfl,HA,bi,G,HB⟩:=hrel;cases gk with
    |zero=>exact absurd HA.out (by simp[Xv.l0])
    |succ k2=>
     have H:=HA.out;clear HA;simp only[Xv.l0]at H;refine yd H ?_ ?_<;>clear H<;>rintro bY H
     ·obtain rfl:=yo H;go_wp2;go_ret;exact⟨_,J1,J155,J0⟩
     refine yi H ?_;clear H;intro c10 H;have bF:=eq_true c10;have bG:=decide_eq_true c10;clear c10;refine yi H ?_;clear H;intro aI H;have bH:=eq_true aI;have bI:=decide_eq_true aI;clear aI;obtain⟨J,K⟩:∃y_:List (S32),y_=(l0.drop (s:Int).toNat):=⟨_,rfl⟩;replace H:((Xr.f k2 J 16).bind fun ac=>(if s≤(wrap64 (s+ac.1))then(if(wrap64 (s+ac.1))≤(l0.length:Int)then((deckleref10_Copy.f k2 ((l0.take ((wrap64 (s+ac.1)):Int).toNat).drop (s:Int).toNat)).bind fun I=>(if B.length<5864062014805 then(Xv.l0 k2 l0 (B++[I]) (wrap64 (s+ac.1)))else(none)))else(none))else(none)))=some r:=by first|(rw[K];with_reducible exact H)|(have L:=(Option.bind_some _ _).symm.trans H;rw[K];with_reducible exact L)|(have L:=(Option.bind_some _ _).symm.trans H;with_reducible exact L)|with_reducible exact H|(rw[K];exact H)|exact H
     have an:=zq K;clear K;refine yv H ?_;clear H;rintro⟨z,bj,bk⟩ bJ H;dsimp only at H;have bK:=eq_true (of_decide_eq_true J2:0≤s);refine yi H ?_;clear H;intro bl H;have bL:=eq_true bl;have bM:=decide_eq_true bl;refine yi H ?_;clear H;intro bm H;have bN:=eq_true bm;have bO:=decide_eq_true bm;obtain⟨O,U⟩:∃y_:List (S32),y_=((l0.take ((wrap64 (s+z)):Int).toNat).drop (s:Int).toNat):=⟨_,rfl⟩;replace H:((deckleref10_Copy.f k2 O).bind fun I=>(if B.length<5864062014805 then(Xv.l0 k2 l0 (B++[I]) (wrap64 (s+z)))else(none)))=some r:=by first|(rw[U];with_reducible exact H)|(have L:=(Option.bind_some _ _).symm.trans H;rw[U];with_reducible exact L)|(have L:=(Option.bind_some _ _).symm.trans H;with_reducible exact L)|with_reducible exact H|(rw[U];exact H)|exact H
     have ao:=zq U;clear U;refine yv H ?_;clear H;rintro I bP H;refine yi H ?_;clear H;intro bn H;have aJ:=zq bn;clear bn;obtain⟨aD,aa⟩:∃y_:List (List (S32)),y_=(B++[I]):=⟨_,rfl⟩;replace H:(Xv.l0 k2 l0 aD (wrap64 (s+z)))=some r:=by first|(rw[aa];with_reducible exact H)|(have L:=(Option.bind_some _ _).symm.trans H;rw[aa];with_reducible exact L)|(have L:=(Option.bind_some _ _).symm.trans H;with_reducible exact L)|with_reducible exact H|(rw[aa];exact H)|exact H
     have aK:=zq aa;clear aa;have H':=zq H;clear H;have aM:(s:Int)≤((l0.length:Int):Int):=of_decide_eq_true J2;obtain⟨bZ,ap,_,aq,_⟩:=info_parts Xdg;have ab:l0.length≤c0:=ax.out;have aE:Kd.C k32 _ A0 l0.length l0:=am.out;have bo:(0:Int)≤(s:Int):=of_decide_eq_true J2;have ay:=Xeg (P:=Tryz.prog) 22 32 .i64 Tryz.underlying22 ap 4 aq A0 l0.length c0 s bo aM;have ae:=mH (m:=(s:Int).toNat) (c:=c0) aE J28 ab;obtain⟨bQ,ai⟩:∃A_,A_=(if c0=(s:Int).toNat then A0 else(A0:Option Addr).map (·.add ((s:Int).toNat*4))):=⟨_,rfl⟩;obtain⟨bR,ar⟩:∃c_,c_=c0-(s:Int).toNat:=⟨_,rfl⟩;have aj:J.length=l0.length-(s:Int).toNat:=(by rw[an.out,List.length_drop]<;>omega);rw[show(l0).drop (s:Int).toNat=J from an.out.symm]at ae;replace ae:Kd.C k32 _ bQ J.length J:=(by rw[ai];exact ae);rw[←aj,←ai,←ar]at ay;have aN:=zq ae;have aQ:=zq (show J.length≤bR from by rw[aj,ar];exact Nat.sub_le_sub_right ab _);clear ae aE ab ap aq ar;have b5:=zq aj;have b6:=zq ai;clear aj ai;replace aM:=eq_true aM;go_wp2_with(first|((with_reducible refine Xh (f:=81) rfl ?_);refine gL Tryz.func81 (Xr.calls k2 _ _ J 16 z bj bk _ (zc (lp aN.out HB.out)) aQ.out bJ.out) ?_;rintro e cc ⟨rfl,hb⟩;refine⟨_,rfl,?_⟩;replace G:=zq (lq (zr G.out) hb);replace HB:=zq (Xb J0 hb);(try clear hb);(try clear hk);(try clear hi);have aR:((wrap64 (s+z)):Int)≤((l0.length:Int):Int):=of_decide_eq_true J2;obtain⟨b7,au,_,av,_⟩:=info_parts Xdg;have D:l0.length≤c0:=ax.out;have aG:Kd.C k32 _ A0 l0.length l0:=am.out;have bp:(s:Int)≤((wrap64 (s+z)):Int):=of_decide_eq_true J2;have bq:(0:Int)≤(s:Int):=of_decide_eq_true J2;have aA:=cut_mid (P:=Tryz.prog) 22 32 .i64 .i64 Tryz.underlying22 au 4 av A0 l0.length c0 s (wrap64 (s+z)) bq bp aR D;have af:=Kd.C_mid (lo:=(s:Int).toNat) (hi:=((wrap64 (s+z)):Int).toNat) (c:=c0) aG J28 J28 D;obtain⟨bS,ak⟩:∃A_,A_=(if c0=(s:Int).toNat then A0 else(A0:Option Addr).map (·.add ((s:Int).toNat*4))):=⟨_,rfl⟩;obtain⟨bT,aw⟩:∃c_,c_=c0-(s:Int).toNat:=⟨_,rfl⟩;have al:O.length=((wrap64 (s+z)):Int).toNat-(s:Int).toNat:=(by rw[ao.out,List.length_drop,List.length_take]<;>omega);rw[show((l0).take ((wrap64 (s+z)):Int).toNat).drop (s:Int).toNat=O from ao.out.symm]at af;replace af:Kd.C k32 _ bS O.length O:=(by rw[ak];exact af);rw[←al,←ak,←aw]at aA;have aT:=zq af;have aU:=zq (show O.length≤bT from by rw[al,aw];exact Nat.sub_le_sub_right (Nat.le_trans J28 D) _);clear af aG D au av aw;have b8:=zq al;have b9:=zq ak;clear al ak;replace aR:=eq_true aR)|((with_reducible refine Xh (f:=65) rfl ?_);refine gL Tryz.func65 (deckleref10_Copy.calls k2 _ _ O I _ (zc (lp aT.out HB.out)) aU.out bP.out) ?_;rintro e cd ⟨ca,rfl,aV,hb⟩;refine⟨_,rfl,?_⟩;replace G:=zq (lN (zr G.out) (mX aV) hb);have ah:=zq (ng aV (Xe J0));replace HB:=zq (Xb J0 hb);(try clear hb);(try clear hk);(try clear hi);(try clear aV);obtain⟨br,bs,bu⟩:=mW ah.out;subst bu)|((with_reducible refine Xa8 (b:=.append) (xs:=#[.tmp 30,.tmp 38]) rfl ?_);at_builtin;refine mt (Kd.slice 32 k32) (w0:=w) w.heap.size rfl (.tmp 30) (.tmp 38) 74 22 (.slice none 0 0) 24 rfl Tryz.underlying74 info22 rfl J18 J28 u3 B I [.slice br I.length bs] (fun _=>True) (fun k_=>((fun _=>True)) k_∧some k_≠(u3:Value).ownBlock) rfl rfl ?aP (fun _ hk=>hk) ?aF ?aO ?aB ?aS ?aL ?_;(case aP=>exact nI (lt (lD ((Kd.S_R ah.out)) (lK G.out) J18) (fun k_ hk=>⟨trivial,hk.2⟩)));(case aB=>exact J0);(case aF=>exact(fun _ _=>trivial));(case aO=>exact(by(with_reducible repeat(first|apply Kd.R_alloc|apply lx|apply ly));exact lt G.out (fun _ hk=>trivial)));(case aS=>exact(Xe J0));(case aL=>have:=aJ.out;omega);intro cb cf ho hb hg hat;rw[←aK.out]at ho;replace HB:=zq (hb);have aW:=zq (ho);clear G ah;clear ho hb hg hat))
     go_roundg k2
     case measure=>have:=bg.out;have:=bi.out;omega
     case rel=>exact⟨(aD),(wrap64 (s+z)),J3,H',⟨by have:=bg.out;have:=bi.out;omega⟩,⟨by(with_reducible repeat(first|apply Kd.R_alloc|apply lx|apply ly));exact aW.out⟩,⟨J0⟩⟩
mutual
def Xn.j0:Nat→Bool→Int→Int→Option (Int×Bool)
 |0,_,_,_=>none
 |k+1,B,s,z=>if B=true then(some (0,false))else(Xn.l0 k s 0 s z)
def Xn.l0:Nat→Int→Int→Int→Int→Option (Int×Bool)
 |0,_,_,_,_=>none
 |k+1,x4,x5,z,s=>if x5<s then(if x4>922337203685477580 then(some (0,false))else(if x4<(-922337203685477580)then(some (0,false))else(Xn.l0 k (wrap64 (10*x4)) (wrap64 (x5+1)) z s)))else(some (x4,true))
end
def Xn.f(k:Nat)(z:Int)(s:Int):Option (Int×Bool):=(Xl.f k z s).bind fun B=>(if B=true then(if s<0 then(Xn.j0 k true z s)else(Xn.j0 k (decide (s>18)) z s))else(Xn.j0 k true z s))
theorem Xn.mono_l:∀k,(∀y0 y1 y2,LeO (Xn.j0 k y0 y1 y2) (Xn.j0 (k+1) y0 y1 y2))∧(∀y0 y1 y2 y3,LeO (Xn.l0 k y0 y1 y2 y3) (Xn.l0 (k+1) y0 y1 y2 y3))
 |0=>⟨fun _ _ _ r h=>by simp[Xn.j0]at h,fun _ _ _ _ r h=>by simp[Xn.l0]at h⟩
 |k+1=>by
  obtain⟨ih0,ih1⟩:=Xn.mono_l k;refine⟨?_,?_⟩
  ·intro y0 y1 y2;unfold Xn.j0;have im0:=@Xl.mono;exact mz3
  ·intro y0 y1 y2 y3;unfold Xn.l0;have im0:=@Xl.mono;exact mz3
theorem Xn.mono:∀a0 a1 k,LeO (Xn.f k a0 a1) (Xn.f (k+1) a0 a1):=by intro a0 a1 k;obtain⟨ih0,ih1⟩:=Xn.mono_l k;unfold Xn.f;have im0:=@Xl.mono;exact mz3
set_option maxHeartbeats 8000000 in
set_option maxRecDepth 100000 in
theorem Xn.calls(k:Nat)(B:Int)(D:Int)(r1:Int)(r2:Bool)(w:World)(h:Xn.f k B D=some (r1,r2)):
  Calls Tryz.prog 42 #[.agg #[.int .i64 B,.int .i64 D]] w fun e w'=>e= .returned (.tuple #[.int .i64 r1,.bool r2])∧Below w.heap.size w w':=by
 have ai:=Tryz.underlying35;have HB:=zq (Below.refl w.heap.size w);unfold Xn.f at h;have H:=h;clear h;have O:=zq H;clear H;go_enter Tryz.func42,Tryz.ntmps42;go_upto_region 1 with(first|((with_reducible refine Xk (N:=1) rfl ?_);refine bxw 1 35 #[.int .i64 B,.int .i64 D] ?_;intro G hg w3 hbox hb;have s:=zq (hbox);have z:=zq ((J20:w.heap.size≤G));replace HB:=zq (Xb J0 hb);clear hb hbox hg));(try simp only[Act.put,List.setIfInBounds_toArray,List.set_cons_zero,List.set_cons_succ]);go_cut [18] (fun ac wc=>∃(kq:Nat)(I:Bool),ac= .bool I∧Aside0 (Xn.j0 kq I B D=some (r1,r2))∧Aside0 (kq≤k)∧Aside0 (wc.heap[G]?=some (.cells #[.int .i64 B,.int .i64 D] 35 (0,0)))∧Aside0 (Below w.heap.size w wc));case first=>
  have H:=O.out;clear O;refine yv H ?_;clear H;rintro aj A4 H;refine yB H ?_ ?_<;>clear H<;>rintro rfl H
  ·have H':=zq H;clear H;have ak:=cz2 s.out;go_wp2_with(first|((with_reducible refine Xh (f:=62) rfl ?_);refine gL Tryz.func62 (Xl.calls k B D false _ A4.out) ?_;rintro e al ⟨rfl,hb⟩;refine⟨_,rfl,?_⟩;replace s:=zq (Xg (zk s.out) hb);replace HB:=zq (Xb (zs1 z.out) hb);(try clear hb)));go_meet;case rel=>exact⟨_,(true),J3,H',⟨J42⟩,⟨J12⟩,⟨J5⟩⟩
  refine yd H ?_ ?_<;>clear H<;>rintro J H
  ·(first|rw[J]|(simp only[Xau,Xax];rw[J])|skip);have H':=zq H;clear H;have am:=cz2 s.out;go_wp2_with(first|((with_reducible refine Xh (f:=62) rfl ?_);refine gL Tryz.func62 (Xl.calls k B D true _ A4.out) ?_;rintro e an ⟨rfl,hb⟩;refine⟨_,rfl,?_⟩;replace s:=zq (Xg (zk s.out) hb);replace HB:=zq (Xb (zs1 z.out) hb);(try clear hb);have ao:=cz2 s.out));go_meet;case rel=>exact⟨_,(decide (D>18)),J3,H',⟨J42⟩,⟨J12⟩,⟨J5⟩⟩
  (first|rw[J]|(simp only[Xau,Xax];rw[J])|skip);have H':=zq H;clear H;have Z7:=cz2 s.out;go_wp2_with(first|((with_reducible refine Xh (f:=62) rfl ?_);refine gL Tryz.func62 (Xl.calls k B D true _ A4.out) ?_;rintro e w8 ⟨rfl,hb⟩;refine⟨_,rfl,?_⟩;replace s:=zq (Xg (zk s.out) hb);replace HB:=zq (Xb (zs1 z.out) hb);(try clear hb);have Z9:=cz2 s.out));go_meet;case rel=>exact⟨_,(true),J3,H',⟨J42⟩,⟨J12⟩,⟨J5⟩⟩
 case rest=>
  clear O;obtain⟨kq,I,rfl,HA,U,s,HB⟩:=hcut;cases kq with
  |zero=>exact absurd HA.out (by simp[Xn.j0])
  |succ aa=>
   have H:=HA.out;clear HA;simp only[Xn.j0]at H;refine yC H ?_ ?_<;>clear H<;>rintro rfl H
   ·obtain⟨rfl,rfl⟩:=yp2 H;go_wp2
    go_ret2
    exact⟨J1,J5⟩
   have H':=zq H;clear H;have ae:=cz2 s.out;go_wp2
   go_loopg [4,5] aa (fun kq v4 v5 w'=>∃(K:Int)(L:Int),v4= .int .i64 K∧v5= .int .i64 L∧Aside0 (Xn.l0 kq K L B D=some (r1,r2))∧Aside0 (kq≤aa)∧Aside0 (w'.heap[G]?=some (.cells #[.int .i64 B,.int .i64 D] 35 (0,0)))∧Aside0 (Below w.heap.size w w'))
   case atStart=>exact⟨(B),(0),J3,J3,H',⟨Nat.le_refl _⟩,⟨J12⟩,⟨J5⟩⟩
   case round=>
    clear H';try clear ae
    obtain⟨K,L,rfl,rfl,HA,ab,s,HB⟩:=hrel;cases gk with
    |zero=>exact absurd HA.out (by simp[Xn.l0])
    |succ k2=>
     have H:=HA.out;clear HA;simp only[Xn.l0]at H;refine yd H ?_ ?_<;>clear H<;>rintro af H
     ·obtain⟨rfl,rfl⟩:=yp2 H;have ap:=cz2 s.out;go_wp2
      go_ret2
      exact⟨J1,J5⟩
     refine yD H ?_ ?_<;>clear H<;>rintro ag H
     ·obtain⟨rfl,rfl⟩:=yp2 H;have aq:=cz2 s.out;go_wp2
      go_ret2
      exact⟨J1,J5⟩
     refine yD H ?_ ?_<;>clear H<;>rintro ah H
     ·obtain⟨rfl,rfl⟩:=yp2 H;have ar:=cz2 s.out;go_wp2
      go_ret2
      exact⟨J1,J5⟩
     have H':=zq H;clear H;have au:=cz2 s.out;go_wp2
     go_roundg k2
     case measure=>have:=U.out;have:=ab.out;omega
     case rel=>exact⟨(wrap64 (10*K)),(wrap64 (L+1)),J3,J3,H',⟨by have:=U.out;have:=ab.out;omega⟩,⟨J12⟩,⟨J5⟩⟩
end Go.Proofs.YtfjhiiaahbjaiaaGreatDoor.HSystemTells
