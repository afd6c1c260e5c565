/- Words and walks, shortened by a program: what this claim's functions answer, and that other memory stays. -/
import Derived.Test.YtfjhiiaahbjaiaaGreatDoorSSystemTellsx0
import Derived.Test.YtfjhiiaahbjaiaaGreatDoorSSystemTellsx16
namespace Go.Proofs.YtfjhiiaahbjaiaaGreatDoor.HSystemTells
open Go.RowKit Go.Proofs.YtfjhiiaahbjaiaaGreatDoorW.PrintWords Go.Proofs.YtfjhiiaahbjaiaaGreatDoorW.PrintWords.Kd Go.Proofs.YtfjhiiaahbjaiaaGreatDoorW.PrintLast Go.Proofs.YtfjhiiaahbjaiaaGreatDoorW.PrintMore Go.Proofs.YtfjhiiaahbjaiaaGreatDoorW.PrintMore.Kd
attribute [local go_sem] Xb2 Xb0 Xcd Xcc Xbq Xbp Xb1 Xbz
set_option linter.unusedVariables false
set_option linter.unusedSimpArgs false
def Xbh.f(k:Nat)(a0:Int):Option (Int×Int):=(Xai.f k a0 0).bind fun s=>(some (s.1,s.2.1))
theorem Xbh.mono:∀a0 k,LeO (Xbh.f k a0) (Xbh.f (k+1) a0):=by intro a0 k;unfold Xbh.f;have im0:=@Xai.mono;exact mz3
set_option maxHeartbeats 8000000 in
set_option maxRecDepth 100000 in
theorem Xbh.calls(k:Nat)(a0:Int)(r1:Int)(r2:Int)(w:World)(h:Xbh.f k a0=some (r1,r2)):
  Calls Tryz.prog 41 #[.int .i64 a0] w fun e w'=>e= .returned (.agg #[.int .i64 r1,.int .i64 r2])∧Below w.heap.size w w':=by
 have aa:=Tryz.underlying35;have HB:=zq (Below.refl w.heap.size w);unfold Xbh.f at h;have H:=h;clear h;refine yv H ?_;clear H;rintro⟨J,K,U⟩ A2 H;dsimp only at H;obtain⟨rfl,rfl⟩:=yp2 H;go_enter Tryz.func41,Tryz.ntmps41;go_wp2_with(first|((with_reducible refine Xk (N:=2) rfl ?_);refine bxw 2 35 #[.int .i64 0,.int .i64 0] ?_;intro B hg w3 hbox hb;have s:=zq (hbox);have D:=zq ((J20:w.heap.size≤B));replace HB:=zq (Xb J0 hb);clear hb hbox hg)|((with_reducible refine Xh (f:=61) rfl ?_);refine gL Tryz.func61 (Xai.calls k a0 0 J K U _ A2.out) ?_;rintro e w4 ⟨rfl,hb⟩;refine⟨_,rfl,?_⟩;replace s:=zq (Xg (zk s.out) hb);replace HB:=zq (Xb (zs1 D.out) hb);(try clear hb))|((with_reducible refine Xk (N:=3) rfl ?_);refine bxw 3 35 #[.int .i64 0,.int .i64 0] ?_;intro G hg w5 hbox hb;have L:=zq (hbox);have O:=zq ((J89:w.heap.size≤G));replace HB:=zq (Xb (zs1 D.out) hb);have z:=zq ((J183:B≠G));have I:=zq ((J184:G≠B));replace s:=zq (Xg (zk s.out) hb);clear hb hbox hg;have ab:=I.out;have ac:=z.out;have Z7:=cz2 L.out;have Z8:=cz2 s.out));refine bodyPost_ret (results_cell_row rfl _ _ B 35 #[.int .i64 J,.int .i64 K] (0,0) _ rfl J73 Tryz.underlying35 rfl J30) rfl ?_;exact⟨J1,J162⟩
def X0.l0:Nat→List (S35)→Int→Int→List Int→List Int→List (S35)→Option ((List (S35)))
 |0,_,_,_,_,_,_=>none
 |k+1,x3,x4,z,B,s,D=>if x4<(s.length:Int)then(if 0≤x4 then((Xbh.f k (rd s x4)).bind fun G=>(if x3.length<8796093022208 then(X0.l0 k (x3++[(⟨G.1,G.2⟩:S35)]) (wrap64 (x4+1)) z B s D)else(none)))else(none))else(some x3)
def X0.f(k:Nat)(B:Int)(D:List Int)(G:List Int)(s:List (S35)):Option ((List (S35))):=(some (([]:List (S35)):List (S35))).bind fun z=>(if z.length+s.length<8796093022208 then(X0.l0 k (z++s) 0 B D G s)else(none))
theorem X0.mono_l:∀k,(∀y0 y1 y2 y3 y4 y5,LeO (X0.l0 k y0 y1 y2 y3 y4 y5) (X0.l0 (k+1) y0 y1 y2 y3 y4 y5))
 |0=>fun _ _ _ _ _ _ r h=>by simp[X0.l0]at h
 |k+1=>by
  have ih0:=X0.mono_l k
  ·intro y0 y1 y2 y3 y4 y5;unfold X0.l0;have im0:=@Xbh.mono;exact mz3
theorem X0.mono:∀a0 a1 a2 a3 k,LeO (X0.f k a0 a1 a2 a3) (X0.f (k+1) a0 a1 a2 a3):=by intro a0 a1 a2 a3 k;have ih0:=X0.mono_l k;unfold X0.f;have im0:=@Xbh.mono;exact mz3
set_option maxHeartbeats 8000000 in
set_option maxRecDepth 100000 in
theorem X0.calls(k:Nat)(I:Int)(O:Option Addr)(U:Nat)(G:List Int)(ag:Option Addr)(aa:Nat)(z:List Int)(ab:Option Addr)(ac:Nat)(B:List (S35))(r:List (S35))(w:World)(an:Kd.C (Kd.int .i64) w O G.length G)(ao:G.length≤U)(ap:Kd.C (Kd.int .i64) w ag z.length z)(aq:z.length≤aa)(ar:Kd.C k35 w ab B.length B)(au:B.length≤ac)(h:X0.f k I G z B=some r):
  Calls Tryz.prog 68 #[.agg #[.int .i64 I,.slice O G.length U,.slice ag z.length aa,.slice ab B.length ac]] w fun e w'=>∃aN:Value,e= .returned (aN)∧Kd.R k35 35 w' w.heap.size (fun _=>True) aN r∧Below w.heap.size w w':=by
 have a8:=Tryz.underlying32;have aY:=zq an;have aZ:=zq ao;clear an ao;have aC:=zq ap;have a5:=zq aq;clear ap aq;have aD:=zq ar;have a6:=zq au;clear ar au;have HB:=zq (Below.refl w.heap.size w);unfold X0.f at h;have H:=h;clear h;refine yl H ?_;clear H;rintro ax aE H;refine yi H ?_;clear H;intro c2 H;have aQ:=zq c2;clear c2;obtain⟨ay,K⟩:∃y_:List (S35),y_=(ax++B):=⟨_,rfl⟩;replace H:(X0.l0 k ay 0 I G z B)=some r:=by first|(rw[K];with_reducible exact H)|(have al:=(Option.bind_some _ _).symm.trans H;rw[K];with_reducible exact al)|(have al:=(Option.bind_some _ _).symm.trans H;with_reducible exact al)|with_reducible exact H|(rw[K];exact H)|exact H
 have aG:=zq K;clear K;have H':=zq H;clear H;go_enter Tryz.func68,Tryz.ntmps68;go_wp2_with(first|((with_reducible refine Xk (N:=1) rfl ?_);refine bxw 1 32 #[.int .i64 I,.slice O G.length U,.slice ag z.length aa,.slice ab B.length ac] ?_;intro af hg w3 hbox hb;have s:=zq (hbox);have D:=zq ((J20:w.heap.size≤af));replace HB:=zq (Xb J0 hb);clear hb hbox hg)|((with_reducible refine Xk (N:=5) rfl ?_);refine lwR k35 35 5 (xs:=([]:List (S35))) [] aE (Reps.none _ _) ?_;intro aT w4 aU hb;have am:=zq (ls aU (Xe (zs1 D.out)));replace s:=zq (Xg (zk s.out) hb);replace HB:=zq (Xb (zs1 D.out) hb);clear hb aU;have Z6:=cz4 s.out)|((with_reducible refine Xa8 (b:=.append) (xs:=#[.tmp 5,.tmp 7]) rfl ?_);at_builtin;refine lO k35 (w0:=w) w.heap.size rfl (.tmp 5) (.tmp 7) 30 35 (.agg #[(.int .i64 0),(.int .i64 0)]) 16 rfl Tryz.underlying30 Xep rfl J18 J28 aT ax B _ _ _ (fun _=>True) (fun _=>False) rfl rfl ?aO ?aR (fun _ _ h=>h) (fun _ h=>h.elim) ?aF ?aB ?aS ?aL ?_;(case aR=>repeat(first|exact(lp aD.out HB.out)|(with_reducible refine Kd.C_alloc ?_ _)|(with_reducible refine lB ?_ _)|(with_reducible refine Kd.C_drew ?_)));(case aB=>exact(zs1 D.out));(case aF=>exact(fun _ _=>trivial));(case aO=>exact(zr am.out));(case aS=>exact(Xe (zs1 D.out)));(case aL=>have:=aQ.out;omega);intro a9 w7 ho hb hg hat;rw[←aG.out]at ho;replace s:=zq (Xbr (g:=af) (o:=.cells #[.int .i64 I,.slice O G.length U,.slice ag z.length aa,.slice ab B.length ac] 32 (0,0)) (zk s.out) hg (lQ am.out s.out J18));replace HB:=zq (hb);have aH:=zq (ho);clear am;clear ho hb hg hat))
 go_loopg [3,4] k (fun kq v3 v4 w'=>∃(ah:List (S35))(J:Int),v4= .int .i64 J∧Aside0 (X0.l0 kq ah J I G z B=some r)∧Aside0 (kq≤k)∧Aside0 (Kd.R k35 35 w' w.heap.size (fun _=>True) v3 ah)∧Aside0 (w'.heap[af]?=some (.cells #[.int .i64 I,(.slice O G.length U),(.slice ag z.length aa),(.slice ab B.length ac)] 32 (0,0)))∧Aside0 (Below w.heap.size w w'))
 case atStart=>exact⟨(ay),(0),J3,H',⟨Nat.le_refl _⟩,⟨by(with_reducible repeat(first|apply Kd.R_alloc|apply lx|apply ly));exact aH.out⟩,⟨J12⟩,⟨J26⟩⟩
 case round=>
  clear H';try clear c2
  try clear Z6
  obtain⟨ah,J,rfl,HA,aV,ae,s,HB⟩:=hrel;cases gk with
  |zero=>exact absurd HA.out (by simp[X0.l0])
  |succ k1=>
   have H:=HA.out;clear HA;simp only[X0.l0]at H;refine yd H ?_ ?_<;>clear H<;>rintro ba H
   ·obtain rfl:=yo H;have bd:=cz4 s.out;go_wp2;go_ret;exact⟨_,J1,by(with_reducible repeat(first|apply Kd.R_alloc|apply lx|apply ly));exact ae.out,J26⟩
   refine yj H ?_;clear H;intro bb H;refine yv H ?_;clear H;rintro⟨ai,aj⟩ a7 H;dsimp only at H;refine yi H ?_;clear H;intro aW H;have aI:=zq aW;clear aW;obtain⟨aA,L⟩:∃y_:List (S35),y_=(ah++[(⟨ai,aj⟩:S35)]):=⟨_,rfl⟩;replace H:(X0.l0 k1 aA (wrap64 (J+1)) I G z B)=some r:=by first|(rw[L];with_reducible exact H)|(have al:=(Option.bind_some _ _).symm.trans H;rw[L];with_reducible exact al)|(have al:=(Option.bind_some _ _).symm.trans H;with_reducible exact al)|with_reducible exact H|(rw[L];exact H)|exact H
   have aJ:=zq L;clear L;have H':=zq H;clear H;have be:=cz4 s.out;have av:0≤(J:Int):=of_decide_eq_true J2;have aw:J<(z.length:Int):=of_decide_eq_true J2;obtain⟨aK,aX,ak⟩:=Kd.at_int aC.out J av aw;cases aX;replace ak:=yh HB ak;replace av:=eq_true av;replace aw:=eq_true aw;go_wp2_with(first|((with_reducible refine Xh (f:=41) rfl ?_);refine gL Tryz.func41 (Xbh.calls k1 (rd z J) ai aj _ a7.out) ?_;rintro e bf ⟨rfl,hb⟩;refine⟨_,rfl,?_⟩;replace ae:=zq (lq (zr ae.out) hb);replace s:=zq (Xg (zk s.out) hb);replace HB:=zq (Xb (zs1 D.out) hb);(try clear hb);(try clear hk))|((with_reducible refine Xa8 (b:=.append) (xs:=#[.tmp 16,.tmp 23]) rfl ?_);at_builtin;refine mt k35 (w0:=w) w.heap.size rfl (.tmp 16) (.tmp 23) 30 35 (.agg #[(.int .i64 0),(.int .i64 0)]) 16 rfl Tryz.underlying30 Xep rfl J18 J28 u3 ah (⟨ai,aj⟩:S35) [.int .i64 ai,.int .i64 aj] (fun _=>True) (fun _=>False) rfl rfl ?aP (fun _ hk=>hk.elim) ?aF ?aO ?aB ?aS ?aL ?_;(case aP=>exact Xds _ _ _ (⟨ai,aj⟩:S35));(case aB=>exact(zs1 D.out));(case aF=>exact(fun _ _=>trivial));(case aO=>exact(zr ae.out));(case aS=>exact(Xe (zs1 D.out)));(case aL=>have:=aI.out;omega);intro bc bg ho hb hg hat;rw[←aJ.out]at ho;replace s:=zq (Xbr (g:=af) (o:=.cells #[.int .i64 I,.slice O G.length U,.slice (some aK) z.length aa,.slice ab B.length ac] 32 (0,0)) (zk s.out) hg (lQ ae.out s.out J18));replace HB:=zq (hb);have aM:=zq (ho);clear ae;clear ho hb hg hat))
   go_roundg k1
   case measure=>have:=aV.out;omega
   case rel=>exact⟨(aA),(wrap64 (J+1)),J3,H',⟨by have:=aV.out;omega⟩,⟨by(with_reducible repeat(first|apply Kd.R_alloc|apply lx|apply ly));exact aM.out⟩,⟨J12⟩,⟨J26⟩⟩
end Go.Proofs.YtfjhiiaahbjaiaaGreatDoor.HSystemTells
