/- Words and walks, shortened by a program: what this claim's functions answer, and that other memory stays. -/
import Derived.Test.YtfjhiiaahbjaiaaGreatDoorSSystemTellsx0
import Derived.Test.YtfjhiiaahbjaiaaGreatDoorSSystemTellsx3
import Derived.Test.YtfjhiiaahbjaiaaGreatDoorSSystemTellsx4
import Derived.Test.YtfjhiiaahbjaiaaGreatDoorSSystemTellsx7
namespace Go.Proofs.YtfjhiiaahbjaiaaGreatDoor.HSystemTells
open Go.RowKit Go.Proofs.YtfjhiiaahbjaiaaGreatDoorW.PrintWords Go.Proofs.YtfjhiiaahbjaiaaGreatDoorW.PrintWords.Kd Go.Proofs.YtfjhiiaahbjaiaaGreatDoorW.PrintLast Go.Proofs.YtfjhiiaahbjaiaaGreatDoorW.PrintMore Go.Proofs.YtfjhiiaahbjaiaaGreatDoorW.PrintMore.Kd
attribute [local go_sem] Xb2 Xb0 Xcd Xcc Xbq Xbp Xb1 Xbz
set_option linter.unusedVariables false
set_option linter.unusedSimpArgs false
def Xce.f(k:Nat)(l0:List (S32)):Option (Int):=(Xt.f k l0).bind fun s=>(some s.1)
theorem Xce.mono:∀a0 k,LeO (Xce.f k a0) (Xce.f (k+1) a0):=by intro a0 k;unfold Xce.f;have im0:=@Xt.mono;exact mz3
set_option maxHeartbeats 8000000 in
set_option maxRecDepth 100000 in
theorem Xce.calls(k:Nat)(A0:Option Addr)(c0:Nat)(l0:List (S32))(r:Int)(w:World)(z:Kd.C k32 w A0 l0.length l0)(B:l0.length≤c0)(h:Xce.f k l0=some r):
  Calls Tryz.prog 70 #[.slice A0 l0.length c0] w fun e w'=>e= .returned (.int .i64 r)∧Below w.heap.size w w':=by
 have J:=zq z;have K:=zq B;clear z B;have HB:=zq (Below.refl w.heap.size w);unfold Xce.f at h;have H:=h;clear h;replace H:=Option.bind_eq_some_iff.mp H;obtain⟨⟨s,D,G⟩,I,H⟩:=H;replace H:(some s)=some r:=H;have A2:=zq I;clear I;obtain rfl:=yo H;go_enter Tryz.func70,Tryz.ntmps70;go_wp2_with(first|((with_reducible refine Xh (f:=83) rfl ?_);refine gL Tryz.func83 (Xt.calls k _ _ l0 s D G _ (zc J.out) K.out A2.out) ?_;rintro e w3 ⟨rfl,hb⟩;refine⟨_,rfl,?_⟩;replace HB:=zq (Xb J0 hb);(try clear hb)));go_ret;exact⟨J1,J0⟩
def Xbt.f(k:Nat)(l0:List (S32)):Option (Bool):=if(l0.length:Int)>0 then((Xce.f k l0).bind fun s=>(some (s==(l0.length:Int))))else(some false)
theorem Xbt.mono:∀a0 k,LeO (Xbt.f k a0) (Xbt.f (k+1) a0):=by intro a0 k;unfold Xbt.f;have im0:=@Xce.mono;exact mz3
set_option maxHeartbeats 8000000 in
set_option maxRecDepth 100000 in
theorem Xbt.calls(k:Nat)(A0:Option Addr)(c0:Nat)(l0:List (S32))(r:Bool)(w:World)(s:Kd.C k32 w A0 l0.length l0)(z:l0.length≤c0)(h:Xbt.f k l0=some r):
  Calls Tryz.prog 51 #[.slice A0 l0.length c0] w fun e w'=>e= .returned (.bool r)∧Below w.heap.size w w':=by
 have I:=zq s;have J:=zq z;clear s z;have HB:=zq (Below.refl w.heap.size w);unfold Xbt.f at h;have H:=h;clear h;refine yt H ?_ ?_<;>clear H<;>rintro c2 H
 ·have B:decide (0<(l0.length:Int))=false:=decide_eq_false c2;have D:decide (0<l0.length)=false:=decide_eq_false J28;clear c2;obtain rfl:=yo H;go_enter Tryz.func51,Tryz.ntmps51;go_wp2;go_ret;exact⟨J1,J0⟩
 have B:=decide_eq_true c2;have D:decide (0<l0.length)=true:=decide_eq_true J28;clear c2;refine yv H ?_;clear H;rintro G A3 H;obtain rfl:=yo H;go_enter Tryz.func51,Tryz.ntmps51;go_wp2_with(first|(go_at_call 70;(with_reducible refine(Xce.calls k _ _ l0 G _ ?side1 ?side2 A3.out).mono ?_);(case side1=>exact zc I.out);(case side2=>exact J.out);rintro e w4 ⟨rfl,hb⟩;replace HB:=zq (Xb J0 hb);(try clear hb)));go_ret;exact⟨J1,J0⟩
def Xc7.f(l0:List (S32)):Option ((List (S32))):=(some (([]:List (S32)):List (S32))).bind fun s=>(if s.length+l0.length<1759218604441 then(some (s++l0))else(none))
set_option maxHeartbeats 8000000 in
set_option maxRecDepth 100000 in
theorem Xc7.calls(s:Nat→Prop)(A0:Option Addr)(c0:Nat)(l0:List (S32))(r:List (S32))(w:World)(U:Kd.V k32 32 w w.heap.size (fun k_=>s k_) (.slice A0 l0.length c0) l0)(h:Xc7.f l0=some r):
  Calls Tryz.prog 84 #[.slice A0 l0.length c0] w fun e w'=>∃aa:Value,e= .returned (aa)∧Kd.N k32 32 w' w.heap.size (fun k_=>(s k_∨w.heap.size≤k_)) aa r∧Below w.heap.size w w':=by
 cases A0 with
 |none=>
  obtain rfl:l0=[]:=by
   cases l0 with
   |nil=>rfl
   |cons x_ y_=> obtain⟨ai,c_,e_,_⟩:=mE (lE U).2.2 z32 0 J28 (by rw[List.length_cons];omega);exact absurd e_ J92
  have ae:∀W:World,(binOp .eql 22 (.slice none 0 c0) (.slice none 0 0)).run Tryz.prog W= .ok (.bool true) W:=fun W=>Lib.run_eql_slice_nil W 22 32 none _ c0 0 0 Tryz.underlying22;rw[show([]:List (S32)).length=0 from rfl];go_enter Tryz.func84,Tryz.ntmps84;go_wp2;go_ret;obtain rfl:r=[]:=by simpa[Xc7.f]using h.symm
  exact⟨_,rfl,nt _ _ _ _ _,Below.refl _ _⟩
 |some J=>
  have ae:∀W:World,(binOp .eql 22 (.slice (some J) l0.length c0) (.slice none 0 0)).run Tryz.prog W= .ok (.bool false) W:=fun W=>Lib.run_eql_slice_nil W 22 32 (some J) _ c0 0 0 Tryz.underlying22;have B:=zq (show Kd.V k32 32 w w.heap.size (fun k_=>(s k_∨w.heap.size≤k_)) (.slice (some J) l0.length c0) l0 from lC U (fun k_ hk=>.inl hk));have HB:=zq (Below.refl w.heap.size w);unfold Xc7.f at h;have H:=h;clear h;refine yl H ?_;clear H;rintro ab D H;refine yu H ?_ ?_<;>clear H<;>rintro c2 H
  ·have ac:=zq c2;clear c2;refine yS H ?_;clear H;rintro ag K H;obtain rfl:=yo H;go_enter Tryz.func84,Tryz.ntmps84;go_wp2_with(first|((with_reducible refine Xk (N:=5) rfl ?_);refine mf k32 _ 32 ?hg (N':=5) ?hd (xs:=([]:List (S32))) (inner:=[]) (ok:=(fun k_=>(s k_∨w.heap.size≤k_))) (okp:=(fun k_=>(s k_∨w.heap.size≤k_))) ?hr ?hp (fun _ hk=>hk) ((show∀k_,w.heap.size≤k_→(fun k_=>(s k_∨w.heap.size≤k_)) k_ from fun k_ hk=>(.inr (Nat.le_trans (Xe J0) hk))) _ (Nat.le_refl _)) (Below.refl _ _) (Nat.le_refl _) J92 ?_;(case hd=>rfl);(case hg=>rfl);(case hr=>first|(go_simp;done)|(go_simp;rfl));(case hp=>exact(Reps.none _ _));intro G w3 z hb af L;clear af L;(first|rw[←D.out]at z|(simp only[Int.reduceToNat]at z;rw[←D.out]at z));replace B:=zq (lY (zv B.out) (lS z) hb);have I:=zq (lI z (Xe J0));replace HB:=zq (Xb J0 hb);clear hb z)|((with_reducible refine Xa8 (b:=.append) (xs:=#[.tmp 5,.tmp 6]) rfl ?_);at_builtin;refine mh k32 (w0:=w) w.heap.size rfl (.tmp 5) (.tmp 6) 22 32 (.agg #[(.int .i64 0),(.slice none 0 0),(.slice none 0 0),(.slice none 0 0)]) 80 rfl Tryz.underlying22 Xdg rfl J18 J28 G ab l0 _ _ _ (fun k_=>(s k_∨w.heap.size≤k_)) (fun k_=>((fun k_=>(s k_∨w.heap.size≤k_))) k_∧some k_≠(G:Value).ownBlock) rfl rfl ?aO ?aR (fun _ hk=>hk) ?aF ?aB ?aS ?aL ?_;(case aR=>exact(by skip;exact Kd.V_F (lC (ok':=(fun k_=>((fun k_=>(s k_∨w.heap.size≤k_))) k_∧some k_≠(G:Value).ownBlock)) (B.out) (fun k_ hk=>⟨hk.1,hk.2⟩))));(case aB=>exact J0);(case aF=>exact(fun k_ hk=>(.inr (Nat.le_trans (Xe J0) hk))));(case aO=>exact(zn I.out));(case aS=>exact(Xe J0));(case aL=>have:=ac.out;omega);intro ah w5 ho hb hg hat;rw[←K.out]at ho;replace B:=zq (lV (ok:=(fun k_=>(s k_∨w.heap.size≤k_))) (zv B.out) hg hat);replace HB:=zq (hb);have O:=zq (ho);clear I;clear ho hb hg hat));go_ret;exact⟨_,J1,by(with_reducible repeat(first|apply Kd.N_alloc|apply Kd.N_drewN|apply lG));exact O.out,J0⟩
  ·exact absurd H J92
def half{α:Type}(f:Nat→Nat)(d:Kd α)(w0:World)(s:Nat→Prop):Kd (α×Nat×Bool) where
 sz:=d.sz
 E:=d.E
 K:=fun _ _ cs=>cs.length=d.sz∧∀u∈cs,u.oneCell'=true
 M:=fun w base ok x cs=>if x.2.2=true then d.M w base (fun k=>ok k∧f k=x.2.1) x.1 cs else Kd.FK d w0 s x.1 cs
 K_len:=fun h=>h.1
 K_one:=fun h=>h.2
 K_below:=fun _ h=>h
 K_of_M:=fun{w base ok x cs} h=>by
  by_cases c:x.2.2=true
  ·rw[if_pos c]at h;exact⟨d.K_len (d.K_of_M h),d.K_one (d.K_of_M h)⟩
  ·rw[if_neg c]at h;exact⟨d.K_len (mj h),d.K_one (mj h)⟩
 M_mono:=fun{w base ok ok' x cs} hok h=>by
  by_cases c:x.2.2=true
  ·rw[if_pos c]at h⊢;exact d.M_mono (fun k hk=>⟨hok k hk.1,hk.2⟩) h
  ·rw[if_neg c]at h⊢;exact h
 M_bound:=fun{w base ok x cs} h=>by
  by_cases c:x.2.2=true
  ·rw[if_pos c]at h⊢;exact d.M_mono (fun _ hk=>⟨⟨hk.1.1,hk.2⟩,hk.1.2⟩) (d.M_bound h)
  ·rw[if_neg c]at h⊢;exact h
 M_move:=fun{w w1 base ok x cs} hm h=>by
  by_cases c:x.2.2=true
  ·rw[if_pos c]at h⊢;exact d.M_move (fun k hk=>hm k hk.1) h
  ·rw[if_neg c]at h⊢;exact h
 M_lower:=fun{w base base' ok x cs} hb h=>by
  by_cases c:x.2.2=true
  ·rw[if_pos c]at h⊢;exact d.M_lower hb h
  ·rw[if_neg c]at h⊢;exact h
theorem half_M{α:Type}{f:Nat→Nat}{d:Kd α}{w0 w:World}{s:Nat→Prop}{base:Nat}{ok:Nat→Prop}{x:α×Nat×Bool}{cs:List Value}:(half f d w0 s).M w base ok x cs=if x.2.2=true then d.M w base (fun k=>ok k∧f k=x.2.1) x.1 cs else Kd.FK d w0 s x.1 cs:=rfl
def Xdm{α:Type}(xs:List α)(k:Nat):List (α×Nat×Bool):=xs.zipIdx.map fun p=>(p.1,p.2,decide (p.2<k))
theorem Xcv{α:Type}(xs:List α)(k:Nat):(Xdm xs k).length=xs.length:=by simp[Xdm]
theorem marks_at{α:Type}{xs:List α}{k j:Nat}{p:α×Nat×Bool}(h:(Xdm xs k)[j]?=some p):∃x,xs[j]?=some x∧p=(x,j,decide (j<k)):=by simp only[Xdm,List.getElem?_map,List.getElem?_zipIdx,Nat.zero_add,Option.map_map,Option.map_eq_some_iff]at h;obtain⟨x,hx,rfl⟩:=h;exact⟨x,hx,rfl⟩
theorem marks_set{α:Type}(xs:List α)(k:Nat)(x:α)(h:xs[k]?=some x):(Xdm xs k).set k (x,k,true)=Xdm xs (k+1):=by
 apply List.ext_getElem?;intro j;rw[List.getElem?_set];have hk:k<xs.length:=(List.getElem?_eq_some_iff.1 h).1;by_cases e:k=j
 ·subst e;rw[if_pos rfl,if_pos (by rw[Xcv];exact hk)];simp[Xdm,h]
 ·rw[if_neg e];simp only[Xdm,List.getElem?_map,List.getElem?_zipIdx,Nat.zero_add,Option.map_map];congr 1;funext y;have:decide (j<k)=decide (j<k+1):=by rw[decide_eq_decide];omega
  simp[this]
theorem half_of_N{α:Type}{d:Kd α}{e base:Nat}{ok:Nat→Prop}{w:World}{v:Value}{xs:List α}(f:Nat→Nat)(h:Kd.N d e w base ok v xs):(half f d w (fun k=>some k≠v.ownBlock)).R e w base ok v (Xdm xs 0):=by
 obtain⟨h0,rows,hl,⟨_,inner,ho,hr⟩,hf⟩:=h;refine⟨h0,inner,?_,?_⟩
 ·rw[Xcv,←hl];exact ho
 ·refine⟨?_,fun j p hj=>?_⟩
  ·rw[Xcv,←hl];exact hr.1
  ·obtain⟨x,hx,rfl⟩:=marks_at hj;have hjl:j<rows.length:=by rw[hl];exact(List.getElem?_eq_some_iff.1 hx).1
   have h1:=hr.2 j _ (List.getElem?_eq_getElem hjl);have h2:=mq (hf j x _ hx (List.getElem?_eq_getElem hjl)) (fun _ hk=>hk.2);rw[half_M,if_neg J92];have h3:(inner.drop (j*d.sz)).take d.sz=rows[j]:=h1.1;exact h3▸h2
theorem half_retag{α:Type}{d:Kd α}{e base:Nat}{ok s:Nat→Prop}{w0 w:World}{v:Value}{xs:List α}{f:Nat→Nat}{k:Nat}(h:(half f d w0 s).R e w base ok v (Xdm xs k))(m:Nat):
  ∃f',(∀b,w.heap.size≤b→f' b=m)∧(half f' d w0 s).R e w base ok v (Xdm xs k):=by
 refine⟨fun b=>if b<w.heap.size then f b else m,fun b hb=>if_neg J28,?_⟩;have hb:=l9 h;obtain⟨h0,inner,ho,hr⟩:=h;obtain⟨_,z,B,D⟩:=hb;refine⟨h0,inner,ho,hr.1,fun j p hj=>?_⟩;have hM:=hr.2 j p hj;obtain⟨x,hx,rfl⟩:=marks_at hj;by_cases c:decide (j<k)=true
 ·rw[half_M,if_pos c]at hM⊢;exact d.M_mono (fun b hk=>⟨hk.1.1,by show(if b<w.heap.size then f b else m)=j;rw[if_pos hk.2.2.1];exact hk.1.2⟩) (d.M_bound hM)
 ·rw[half_M,if_neg c]at hM⊢;exact hM
theorem S_of_half{α:Type}{d:Kd α}{e base:Nat}{ok s:Nat→Prop}{w0 w:World}{v:Value}{xs:List α}{f:Nat→Nat}(h:(half f d w0 s).R e w base ok v (Xdm xs xs.length)):Kd.S d e w base ok v xs:=by
 obtain⟨h0,inner,ho,hr⟩:=h;rw[Xcv]at ho;refine⟨f,h0,inner,?_,?_,fun j p hj=>?_⟩
 ·rw[List.length_zipIdx];exact ho
 ·rw[List.length_zipIdx];have:=hr.1;rw[Xcv]at this;exact this
 ·obtain⟨x,i⟩:=p;rw[List.getElem?_zipIdx,Nat.zero_add,Option.map_eq_some_iff]at hj;obtain⟨y,hy,he⟩:=hj;injection he with e1 e2;subst e1 e2;have hjl:=(List.getElem?_eq_some_iff.1 hy).1;have hM:=hr.2 j (y,j,decide (j<xs.length)) (by simp[Xdm,hy]);rw[half_M,if_pos (by simp[hjl])]at hM;exact hM
theorem half_elem{α:Type}{d:Kd α}{e base n cap g:Nat}{ok s:Nat→Prop}{w0 W:World}{xs:List α}{f:Nat→Nat}{k:Nat}{x:α}(h:(half f d w0 s).R e W base ok (.slice (some ⟨g,0,none⟩) n cap) (Xdm xs k))(hx:xs[k]?=some x):
  ∃c,c.length=d.sz∧Kd.FK d w0 s x c∧(∀j u,c[j]?=some u→W.cell? ⟨g,k*d.sz+j,none⟩=some u)∧∀j,W.frozen? ⟨g,k*d.sz+j,none⟩=false:=by
 have hk:k<xs.length:=(List.getElem?_eq_some_iff.1 hx).1;have hn:=(lu h).1;rw[Xcv]at hn;obtain⟨c,hcl,hM,hcc,hfr⟩:=nr h (x,k,false) (k:Int) J28 J28;rw[Int.toNat_natCast]at hM hcc hfr;have hg:(Xdm xs k).getD k (x,k,false)=(x,k,false):=by simp[Xdm,hx]
 rw[hg]at hM;refine⟨c,hcl,?_,hcc,hfr⟩;rw[half_M,if_neg J92]at hM;exact hM
theorem half_put{α:Type}{d:Kd α}{e base n cap g:Nat}{ok okp s:Nat→Prop}{w0 W:World}{xs:List α}{f:Nat→Nat}{k:Nat}{x:α}{seg:List Value}(h:(half f d w0 s).R e W base ok (.slice (some ⟨g,0,none⟩) n cap) (Xdm xs k))(hx:xs[k]?=some x)
    (hM:d.M W base okp x seg)(hok:∀b,okp b→(ok b∧b≠g)∧f b=k):(half f d w0 s).R e (W.setCells g (k*d.sz) seg) base ok (.slice (some ⟨g,0,none⟩) n cap) (Xdm xs (k+1))∧W.grownBy (W.setCells g (k*d.sz) seg) (some g):=by
  have hk:k<xs.length:=(List.getElem?_eq_some_iff.1 hx).1;have hn:=(lu h).1;rw[Xcv]at hn;obtain⟨c,hcl,_,hcc,_⟩:=half_elem h hx;have hsl:=d.K_len (d.K_of_M hM);have:=nH (d:=half f d w0 s) (okp:=fun b=>ok b∧b≠g) h (k:Int) J28 J28 (c:=c) (seg:=seg) (j:=0) hcl (by rw[Int.toNat_natCast];exact hcc) (by rw[Nat.zero_add,hsl];exact Nat.le_refl _) (x':=(x,k,true))
    (by rw[List.take_zero,List.nil_append,Nat.zero_add,hsl,←hcl,List.drop_length,List.append_nil]
        rw[half_M,if_pos rfl];exact d.M_mono hok hM) (fun _ hk=>hk)
  rw[Int.toNat_natCast,Nat.add_zero,marks_set xs k x hx]at this;exact this
def Xcw.f(l0:List S32):Option (List S32):=if l0.length<1759218604441∧(∀x∈l0,x.f1.length<17592186044416∧x.f2.length<17592186044416∧x.f3.length<8796093022208)then some l0 else none
theorem at_world{P:Program}{c:Code}{Q:Exit→Act→World→Prop}{a:Act}{W:World}(p:World→Prop)(hp:p W)(h:∀W2,p W2→c.wp P Q a W2):c.wp P Q a W:=h W hp
set_option maxHeartbeats 8000000 in
set_option maxRecDepth 100000 in
theorem Xcw.calls(A0:Option Addr)(c0:Nat)(l0:List S32)(r:List S32)(w:World)(af:Kd.C k32 w A0 l0.length l0)(K:l0.length≤c0)(h:Xcw.f l0=some r):
  Calls Tryz.prog 71 #[.slice A0 l0.length c0] w fun e w'=>∃ag:Value,e= .returned (ag)∧Kd.S k32 32 w' w.heap.size (fun _=>True) ag r∧Below w.heap.size w w':=by
 unfold Xcw.f at h;by_cases h0:l0.length<1759218604441∧(∀x∈l0,x.f1.length<17592186044416∧x.f2.length<17592186044416∧x.f3.length<8796093022208)
 ·rw[if_pos h0]at h;obtain rfl:=Option.some.inj h;clear h;obtain⟨hlen,O⟩:=h0;have HIN:=zq O;clear O;have ap:=zq (show Xc7.f l0=some l0 by unfold Xc7.f;rw[Option.bind_some,List.length_nil,Nat.zero_add,if_pos hlen,List.nil_append]);have HV:=zq (show Kd.V k32 32 w w.heap.size (fun k_=>k_<w.heap.size) (.slice A0 l0.length c0) l0 from mb K (Kd.C_F k32_heap af));clear af K;have HL:=zq hlen;clear hlen;go_enter Tryz.func71,Tryz.ntmps71;go_wp2_with(first|((with_reducible refine Xh (f:=84) rfl ?_);refine Xcy (some 7) rfl rfl Tryz.func84 J30 rfl #[.slice A0 l0.length c0] rfl (by(try simp only[List.map_toArray,List.map_cons,List.map_nil]);first|done|rfl) ?_;(with_reducible refine(Xc7.calls _ A0 c0 l0 l0 _ HV.out ap.out).mono ?_);rintro e w1 ⟨v1,rfl,ho,hb⟩;refine⟨_,rfl,?_⟩;obtain⟨Ao,co,eo⟩:=lT ho;subst eo;have HN:=zq ho;have aq:=zq hb;clear ho hb));have hle:l0.length≤1759218604441:=Nat.le_of_lt HL.out
  go_loopg [10] l0.length (fun kq ar w'=>∃(k:Nat)(f:Nat→Nat),ar= .int .i64 (k:Int)∧Aside0 (kq+k=l0.length)∧Aside0 ((half f k32 w1 (fun b=>some b≠(Value.slice Ao l0.length co).ownBlock)).R 32 w' w.heap.size (fun _=>True) (.slice Ao l0.length co) (Xdm l0 k))∧Aside0 (Below w.heap.size w w')∧Aside0 (w1.grownBy w' (Value.slice Ao l0.length co).ownBlock))
  case atStart=>exact⟨0,fun _=>0,rfl,⟨J28⟩,⟨half_of_N _ (lz HN.out (fun _ _=>trivial))⟩,aq,⟨World.grownBy.refl _ _⟩⟩
  case round=>
   obtain⟨k,f,rfl,HQ,HR,HB,HG⟩:=hrel;by_cases hk:k<l0.length
   ·obtain⟨g,cap,eg,ah,ai,au⟩:=m0 HR.out (by rw[Xcv];omega);have HGE:=zq ah;have HGL:=zq ai;rw[Xcv]at eg;injection eg with av _ aw;subst av aw;have hx:l0[k]?=some l0[k]:=List.getElem?_eq_getElem hk;obtain⟨x,hxe⟩:∃x,x=l0[k]:=⟨_,rfl⟩;rw[←hxe]at hx;have HX:=zq hx;have hxm:x∈l0:=by rw[hxe];exact List.getElem_mem hk
    obtain⟨b1,b2,b3⟩:=HIN.out x hxm;clear hx hxe hxm;have A1:=zq (show Xam.f x.f1=some x.f1 by unfold Xam.f;rw[Option.bind_some,List.length_nil,Nat.zero_add,if_pos b1,List.nil_append]);have A2:=zq (show Xam.f x.f2=some x.f2 by unfold Xam.f;rw[Option.bind_some,List.length_nil,Nat.zero_add,if_pos b2,List.nil_append]);have A3:=zq (show Xc0.f x.f3=some x.f3 by unfold Xc0.f;rw[Option.bind_some,List.length_nil,Nat.zero_add,if_pos b3,List.nil_append]);clear b1 b2 b3;obtain⟨f',hf',hR'⟩:=half_retag HR.out k;have HF:=zq hf';have aj:=zq hR';clear HR hf' hR';obtain⟨c,hcl,hFK,hcc,hfr⟩:=half_elem aj.out HX.out;have hK:=hFK wr (fun b ax L=>HG.out.block b L ax);obtain⟨B1,d1,B2,d2,B3,d3,rfl,l1,g1,l2,g2,l3,g3⟩:=Xd2 hK;clear hFK hK hcl;have ak:=zq g1;have al:=zq g2;have am:=zq g3;have ay:=zq l1;have aA:=zq l2;have aB:=zq l3;clear g1 g2 g3 l1 l2 l3;have K:wr.cell? ⟨g,k*4,none⟩=some (.int .i64 x.f0):=hcc 0 _ rfl;have aC:wr.cell? ⟨g,k*4+1,none⟩=some (.slice B1 x.f1.length d1):=hcc 1 _ rfl;have aD:wr.cell? ⟨g,k*4+2,none⟩=some (.slice B2 x.f2.length d2):=hcc 2 _ rfl;have aE:wr.cell? ⟨g,k*4+3,none⟩=some (.slice B3 x.f3.length d3):=hcc 3 _ rfl;clear hcc hfr;have aI:(0:Int)≤(k:Int):=Int.natCast_nonneg k;have aJ:(k:Int)<(l0.length:Int):=Int.ofNat_lt.2 hk;have hd:=decide_eq_true hk;go_wp2;refine at_world (fun W2=>W2.heap.size=wr.heap.size+1∧W2.heap[wr.heap.size]?=some (.cells #[.int .i64 x.f0,.slice B1 x.f1.length d1,.slice B2 x.f2.length d2,.slice B3 x.f3.length d3] 32 (0,0))∧Below wr.heap.size wr W2) ⟨J92,heap_alloc_new wr _,Xar (Below.refl _ _) _⟩ ?_;rintro w2 ⟨hsz,hbx,L⟩;have HS:=zq hsz;have BK:=zq hbx;have HW:=zq L;clear hsz hbx L K aC aD aE;have aa:w2.cell? ⟨wr.heap.size,0,none⟩=some (.int .i64 x.f0):=(Xac BK.out 0).trans rfl;have ab:w2.cell? ⟨wr.heap.size,1,none⟩=some (.slice B1 x.f1.length d1):=(Xac BK.out 1).trans rfl;have ac:w2.cell? ⟨wr.heap.size,2,none⟩=some (.slice B2 x.f2.length d2):=(Xac BK.out 2).trans rfl;have ae:w2.cell? ⟨wr.heap.size,3,none⟩=some (.slice B3 x.f3.length d3):=(Xac BK.out 3).trans rfl;have aG:(wr.heap.size=g)=False:=eq_false J28;have aH:(g=wr.heap.size)=False:=eq_false J28;go_region_held3(fun w'=>w'.cell? ⟨wr.heap.size,0,none⟩=some (.int .i64 x.f0)∧w'.cell? ⟨wr.heap.size,1,none⟩=some (.slice B1 x.f1.length d1)∧w'.cell? ⟨wr.heap.size,2,none⟩=some (.slice B2 x.f2.length d2)∧w'.cell? ⟨wr.heap.size,3,none⟩=some (.slice B3 x.f3.length d3)) (go_keep)
     (first
      |(go_at_call 30;refine(Xam.calls B1 d1 x.f1 x.f1 _ (by first|exact lp ak.out HW.out|exact lp ak.out (Xc6 HW.out)) ay.out A1.out).mono ?_;rintro e w3 ⟨v1,rfl,ho,hb⟩;obtain⟨E1,e1,rfl⟩:=lv ho;have z:=zq (Xg (by first|exact BK.out|exact Xf BK.out) hb);have B:=zq (ls ho (Xe J141));have D:=zq (Xb J141 hb);clear BK HW ho hb;have BK:=z;have s:=B;have HW:=D;clear z B D;have aa:w3.cell? ⟨wr.heap.size,0,none⟩=some (.int .i64 x.f0):=(Xac BK.out 0).trans rfl;have ab:w3.cell? ⟨wr.heap.size,1,none⟩=some (.slice B1 x.f1.length d1):=(Xac BK.out 1).trans rfl;have ac:w3.cell? ⟨wr.heap.size,2,none⟩=some (.slice B2 x.f2.length d2):=(Xac BK.out 2).trans rfl;have ae:w3.cell? ⟨wr.heap.size,3,none⟩=some (.slice B3 x.f3.length d3):=(Xac BK.out 3).trans rfl)
      |(go_at_call 30;refine(Xam.calls B2 d2 x.f2 x.f2 _ (by first|exact lp al.out HW.out|exact lp al.out (Xc6 HW.out)) aA.out A2.out).mono ?_;rintro e w4 ⟨v2,rfl,ho,hb⟩;obtain⟨E2,e2,rfl⟩:=lv ho;have z:=zq (Xg (by first|exact BK.out|exact Xf BK.out) hb);have B:=zq (ls ho (Xe J141));have D:=zq (Xb J141 hb);have I:=zq (lq (by first|exact s.out|exact ly s.out) hb);clear BK HW s ho hb;have BK:=z;have J:=B;have HW:=D;have s:=I;clear z B D I;have aa:w4.cell? ⟨wr.heap.size,0,none⟩=some (.int .i64 x.f0):=(Xac BK.out 0).trans rfl;have ab:w4.cell? ⟨wr.heap.size,1,none⟩=some (.slice B1 x.f1.length d1):=(Xac BK.out 1).trans rfl;have ac:w4.cell? ⟨wr.heap.size,2,none⟩=some (.slice B2 x.f2.length d2):=(Xac BK.out 2).trans rfl;have ae:w4.cell? ⟨wr.heap.size,3,none⟩=some (.slice B3 x.f3.length d3):=(Xac BK.out 3).trans rfl)
      |(go_at_call 33;refine(Xc0.calls B3 d3 x.f3 x.f3 _ (by first|exact lp am.out HW.out|exact lp am.out (Xc6 HW.out)) aB.out A3.out).mono ?_;rintro e w5 ⟨v3,rfl,ho,hb⟩;obtain⟨E3,e3,rfl⟩:=lv ho;have z:=zq (Xg (by first|exact BK.out|exact Xf BK.out) hb);have B:=zq (ls ho (Xe J141));have D:=zq (Xb J141 hb);have I:=zq (lq (by first|exact s.out|exact ly s.out) hb);have an:=zq (lq (by first|exact J.out|exact ly J.out) hb);clear BK HW s J ho hb;have BK:=z;have aF:=B;have HW:=D;have s:=I;have J:=an;clear z B D I an;have ao:=zq (lq aj.out HW.out);obtain⟨c5,_,U,G,H⟩:=half_elem ao.out HX.out;obtain⟨G1,q1,G2,q2,G3,q3,rfl,_,_,_,_,_,_⟩:=Xd2 (mj U);clear U;have aK:w5.cell? ⟨g,k*4,none⟩=some (.int .i64 x.f0):=G 0 _ rfl;have aL:w5.cell? ⟨g,k*4+1,none⟩=some (.slice G1 x.f1.length q1):=G 1 _ rfl;have aM:w5.cell? ⟨g,k*4+2,none⟩=some (.slice G2 x.f2.length q2):=G 2 _ rfl;have aN:w5.cell? ⟨g,k*4+3,none⟩=some (.slice G3 x.f3.length q3):=G 3 _ rfl;have aO:w5.frozen? ⟨g,k*4,none⟩=false:=H 0;have ah:w5.frozen? ⟨g,k*4+1,none⟩=false:=H 1;have ai:w5.frozen? ⟨g,k*4+2,none⟩=false:=H 2;have au:w5.frozen? ⟨g,k*4+3,none⟩=false:=H 3;clear G H;have aa:w5.cell? ⟨wr.heap.size,0,none⟩=some (.int .i64 x.f0):=(Xac BK.out 0).trans rfl;have ab:w5.cell? ⟨wr.heap.size,1,none⟩=some (.slice B1 x.f1.length d1):=(Xac BK.out 1).trans rfl;have ac:w5.cell? ⟨wr.heap.size,2,none⟩=some (.slice B2 x.f2.length d2):=(Xac BK.out 2).trans rfl;have ae:w5.cell? ⟨wr.heap.size,3,none⟩=some (.slice B3 x.f3.length d3):=(Xac BK.out 3).trans rfl))
    go_wp2
    go_roundg (l0.length-(k+1))
    case measure=>have:=HQ.out;omega
    case rel=> have hM:k32.M w5 w.heap.size (fun b=>wr.heap.size≤b) x [.int .i64 x.f0,.slice E1 x.f1.length e1,.slice E2 x.f2.length e2,.slice E3 x.f3.length e3]:=k32_mkM _ _ _ x (ls (lt (l9 s.out) (fun _ hk=>hk.2.1)) (Xe HB.out)) (ls (lt (l9 J.out) (fun _ hk=>hk.2.1)) (Xe HB.out)) (ls (lt (l9 aF.out) (fun _ hk=>hk.2.1)) (Xe HB.out));have hP:=half_put ao.out HX.out hM (fun b hb=>⟨⟨trivial,fun e_=>by subst e_;exact Nat.lt_irrefl _ (Nat.lt_of_lt_of_le HGL.out hb)⟩,HF.out b hb⟩);exact⟨k+1,f',rfl,⟨by have:=HQ.out;omega⟩,⟨hP.1⟩,⟨X9 (X9 (X9 (X9 (Xb HB.out HW.out) HGE.out) HGE.out) HGE.out) HGE.out⟩,⟨(HG.out.trans (grown_of_below HW.out _)).trans hP.2⟩⟩
   ·have c1:decide (k<l0.length)=false:=decide_eq_false hk;have HK:=zq (show k=l0.length by have:=HQ.out;omega);clear hk;go_wp2;go_ret;exact⟨_,rfl,S_of_half (by have h_:=HR.out;rw[HK.out]at h_;exact h_),HB.out⟩
 ·rw[if_neg h0]at h;cases h
mutual
def array_Kids.j0:Nat→List (S32)→List (List (S32))→Bool→Option ((List (List (S32))))
 |0,_,_,_=>none
 |k+1,x0,x2,s=>if s=true then(some ([]:List (List (S32))))else(if 1≤(x0.length:Int)then(array_Kids.l0 k (x0.drop 1) x2)else(none))
def array_Kids.l0:Nat→List (S32)→List (List (S32))→Option ((List (List (S32))))
 |0,_,_=>none
 |k+1,x0,x2=>if(x0.length:Int)>0 then((Xce.f k x0).bind fun s=>(if 0≤s then(if s≤(x0.length:Int)then((Xcw.f (x0.take (s:Int).toNat)).bind fun z=>(if x2.length<5864062014805 then(array_Kids.l0 k (x0.drop (s:Int).toNat) (x2++[z]))else(none)))else(none))else(none)))else(some x2)
end
def array_Kids.f(k:Nat)(l0:List (S32)):Option ((List (List (S32)))):=(Xbt.f k l0).bind fun s=>(if s=true then(if 0<(l0.length:Int)then(array_Kids.j0 k l0 ([]:List (List (S32))) (((Xa l0 0).f0) != 5))else(none))else(array_Kids.j0 k l0 ([]:List (List (S32))) true))
theorem array_Kids.mono_l:∀k,(∀y0 y1 y2,LeO (array_Kids.j0 k y0 y1 y2) (array_Kids.j0 (k+1) y0 y1 y2))∧(∀y0 y1,LeO (array_Kids.l0 k y0 y1) (array_Kids.l0 (k+1) y0 y1))
 |0=>⟨fun _ _ _ r h=>by simp[array_Kids.j0]at h,fun _ _ r h=>by simp[array_Kids.l0]at h⟩
 |k+1=>by
  obtain⟨ih0,ih1⟩:=array_Kids.mono_l k;refine⟨?_,?_⟩
  ·intro y0 y1 y2;unfold array_Kids.j0;have im0:=@Xbt.mono;have im1:=@Xce.mono;exact mz3
  ·intro y0 y1;unfold array_Kids.l0;have im0:=@Xbt.mono;have im1:=@Xce.mono;exact mz3
theorem array_Kids.mono:∀a0 k,LeO (array_Kids.f k a0) (array_Kids.f (k+1) a0):=by intro a0 k;obtain⟨ih0,ih1⟩:=array_Kids.mono_l k;unfold array_Kids.f;have im0:=@Xbt.mono;have im1:=@Xce.mono;exact mz3
def array_Kids.T6:Bool×List (List Nat×List Nat):=(true,[([],[]),([],[]),([],[]),([1,2],[1,2]),([3],[3]),([4],[4]),([0,5,4],[0,5]),([],[]),([],[]),([7,8],[7,8]),([6,6,0,1,2,3,4,5,6],[0,6]),([9,10,0,1,2,3,4,5,6,7,8,9,10],[1,7,9])])
def array_Kids.B6:List Nat:=[0,0,0,6,14,30,63,0,0,384,127,2047]
theorem array_Kids.tab6:Xde .any (opsOf Tryz.f72 6)=array_Kids.T6:=J30
theorem array_Kids.bits6:Xdc array_Kids.T6.2 array_Kids.B6=true:=J30
set_option maxHeartbeats 8000000 in
set_option maxRecDepth 100000 in
theorem array_Kids.calls0(k:Nat)(aC:Nat→Prop)(A0:Option Addr)(c0:Nat)(l0:List (S32))(r:List (List (S32)))(w:World)(bZ:Kd.V k32 32 w w.heap.size (fun k_=>aC k_) (.slice A0 l0.length c0) l0)(h:array_Kids.f k l0=some r):
  Calls Tryz.prog 72 #[.slice A0 l0.length c0] w fun e w'=>∃bp:Value,e= .returned (bp)∧Kd.R (Kd.slice 32 k32) 22 w' w.heap.size (fun k_=>(w.heap.size≤k_)) bp r∧Below w.heap.size w w':=by
 have ae:=zq (show Kd.V k32 32 w w.heap.size (fun k_=>(aC k_∨w.heap.size≤k_)) (.slice A0 l0.length c0) l0 from lC bZ (fun k_ hk=>.inl hk));have HB:=zq (Below.refl w.heap.size w);have H:((Xbt.f k l0).bind fun a5=>(if a5=true then(if 0<(l0.length:Int)then(array_Kids.j0 k l0 ([]:List (List (S32))) (((Xa l0 0).f0) != 5))else(none))else(array_Kids.j0 k l0 ([]:List (List (S32))) true)))=some r:=h;clear h;have bc:=zq H;clear H;go_enter Tryz.func72,Tryz.ntmps72;go_upto_region 1 with(fail);go_cut [13] (fun b5 wc=>∃(kq:Nat)(aq:Bool),b5= .bool aq∧Aside0 (array_Kids.j0 kq l0 ([]:List (List (S32))) aq=some r)∧Aside0 (kq≤k)∧Aside0 (Kd.V k32 32 wc w.heap.size (fun k_=>(aC k_∨w.heap.size≤k_)∧some k_≠((.slice none 0 0):Value).ownBlock) (.slice A0 l0.length c0) l0)∧Aside0 (Kd.R (Kd.slice 32 k32) 22 wc w.heap.size (fun k_=>(w.heap.size≤k_)) (.slice none 0 0) ([]:List (List (S32))))∧Aside0 (Below w.heap.size w wc));case first=>
  have H:=bc.out;clear bc;refine yv H ?_;clear H;rintro a5 A3 H;refine yB H ?_ ?_<;>clear H<;>rintro rfl H
  ·have H':=zq H;clear H;go_wp2_with(first|((with_reducible refine Xh (f:=51) rfl ?_);refine gL Tryz.func51 (Xbt.calls k _ _ l0 false _ (zc ((lE ae.out).2.2)) ((lE ae.out).2.1) A3.out) ?_;rintro e w7 ⟨rfl,hb⟩;refine⟨_,rfl,?_⟩;replace ae:=zq (lL (zv ae.out) hb);replace HB:=zq (Xb J0 hb);(try clear hb);(try clear hk)));go_meet;case rel=>exact⟨_,(true),J3,H',⟨J42⟩,⟨J173⟩,⟨J11⟩,⟨J0⟩⟩
  refine yi H ?_;clear H;intro c5 H;have a6:=decide_eq_true c5;have co:decide (0<l0.length)=true:=decide_eq_true J28;clear c5;(first|rw[a6]|(simp only[Xau,Xax];rw[a6])|skip);have H':=zq H;clear H;go_wp2_with(first|((with_reducible refine Xh (f:=51) rfl ?_);refine gL Tryz.func51 (Xbt.calls k _ _ l0 true _ (zc ((lE ae.out).2.2)) ((lE ae.out).2.1) A3.out) ?_;rintro e w6 ⟨rfl,hb⟩;refine⟨_,rfl,?_⟩;replace ae:=zq (lL (zv ae.out) hb);replace HB:=zq (Xb J0 hb);(try clear hb);(try clear hk);obtain⟨b6,bT,bU,bV,bW,bX,bY,bq,br,bs,bu,bv,bw,bx,bz,bA,bB,bC,bD,bE,bF,cp,cq,b7⟩:=rdV0 ae.out w.heap.size;cases bq));go_meet;case rel=>exact⟨_,((((Xa l0 0).f0) != 5)),J3,H',⟨J42⟩,⟨J173⟩,⟨J11⟩,⟨J0⟩⟩
 case rest=>
  clear bc;obtain⟨kq,aq,rfl,HA,bG,z,D,HB⟩:=hcut;cases kq with
  |zero=>exact absurd HA.out (by simp[array_Kids.j0])
  |succ bd=>
   have H:=HA.out;clear HA;simp only[array_Kids.j0]at H;refine yC H ?_ ?_<;>clear H<;>rintro rfl H
   ·obtain rfl:=yo H;go_wp2;go_ret;exact⟨_,J1,J11,J0⟩
   refine yi H ?_;clear H;intro c9 H;have bH:=eq_true c9;have bI:=decide_eq_true c9;clear c9;obtain⟨I,af⟩:∃y_:List (S32),y_=(l0.drop 1):=⟨_,rfl⟩;replace H:(array_Kids.l0 bd I ([]:List (List (S32))))=some r:=by first|(rw[af];with_reducible exact H)|(have ag:=(Option.bind_some _ _).symm.trans H;rw[af];with_reducible exact ag)|(have ag:=(Option.bind_some _ _).symm.trans H;with_reducible exact ag)|with_reducible exact H|(rw[af];exact H)|exact H
   have aD:=zq af;clear af;have H':=zq H;clear H;have aE:(1:Int)≤((l0.length:Int):Int):=of_decide_eq_true J2;obtain⟨cr,aG,_,aH,_⟩:=info_parts Xdg;have J:l0.length≤c0:=(lE z.out).2.1;have a7:Kd.F k32 _ _ A0 l0.length l0:=(na (base:=w.heap.size) z.out).2.2;have aW:=Xeg (P:=Tryz.prog) 22 32 .i64 Tryz.underlying22 aG 4 aH A0 l0.length c0 1 J28 aE;have al:=nL (m:=(1:Int).toNat) (c:=c0) a7 J28 J;obtain⟨bJ,aw⟩:∃A_,A_=(if c0=(1:Int).toNat then A0 else(A0:Option Addr).map (·.add ((1:Int).toNat*4))):=⟨_,rfl⟩;obtain⟨c10,ax⟩:∃c_,c_=c0-(1:Int).toNat:=⟨_,rfl⟩;have am:I.length=l0.length-(1:Int).toNat:=(by rw[aD.out,List.length_drop]<;>omega);rw[show(l0).drop (1:Int).toNat=I from aD.out.symm]at al;replace al:Kd.F k32 _ _ bJ I.length I:=(by rw[aw];exact al);rw[←am,←aw,←ax]at aW;have be:=zq (show Kd.V k32 32 _ w.heap.size _ (.slice bJ I.length c10) I from mb (by rw[am,ax];exact Nat.sub_le_sub_right J _) al);have b8:=zq (show I.length≤c10 from by rw[am,ax];exact Nat.sub_le_sub_right J _);clear al a7 J aG aH ax;have ct:=zq am;have cu:=zq aw;clear am aw;replace aE:=eq_true aE;go_wp2
   go_loopg [0,2] bd (fun kq v0 v2 w'=>∃(s:List (S32))(ah:List (List (S32))),Aside0 (array_Kids.l0 kq s ah=some r)∧Aside0 (kq≤bd)∧Aside0 (Kd.V k32 32 w' w.heap.size (fun k_=>(aC k_∨w.heap.size≤k_)∧some k_≠(v2:Value).ownBlock) v0 s)∧Aside0 (Kd.R (Kd.slice 32 k32) 22 w' w.heap.size (fun k_=>(w.heap.size≤k_)) v2 ah)∧Aside0 (Below w.heap.size w w'))
   case atStart=>exact⟨(I),(([]:List (List (S32)))),H',⟨Nat.le_refl _⟩,⟨by(with_reducible repeat(first|apply Kd.V_alloc|apply Kd.V_drewN|apply lJ));exact be.out⟩,⟨J129⟩,⟨J0⟩⟩
   case round=>
    clear H';try clear c9
    try clear bH
    try clear bI
    try clear c10
    try clear aE
    try clear aE
    obtain⟨s,ah,HA,bK,z,D,HB⟩:=hrel;cases gk with
    |zero=>exact absurd HA.out (by simp[array_Kids.l0])
    |succ k2=>
     have H:=HA.out;clear HA;simp only[array_Kids.l0]at H;refine yt H ?_ ?_<;>clear H<;>rintro aX H
     ·have bf:decide (0<(s.length:Int))=false:=decide_eq_false aX;have bg:decide (0<s.length)=false:=decide_eq_false J28;clear aX;obtain rfl:=yo H;obtain⟨cv,cw,bL⟩:=mw z.out;subst bL;go_wp2;go_ret;exact⟨_,J1,J129,J0⟩
     have bf:=decide_eq_true aX;have bg:decide (0<s.length)=true:=decide_eq_true J28;clear aX;refine yv H ?_;clear H;rintro B b9 H;refine yi H ?_;clear H;intro bh H;have ca:=eq_true bh;have cb:=decide_eq_true bh;clear bh;refine yi H ?_;clear H;intro bi H;have cc:=eq_true bi;have cd:=decide_eq_true bi;clear bi;obtain⟨ai,aj⟩:∃y_:List (S32),y_=(s.take (B:Int).toNat):=⟨_,rfl⟩;replace H:((Xcw.f ai).bind fun aa=>(if ah.length<5864062014805 then(array_Kids.l0 k2 (s.drop (B:Int).toNat) (ah++[aa]))else(none)))=some r:=by first|(rw[aj];with_reducible exact H)|(have ag:=(Option.bind_some _ _).symm.trans H;rw[aj];with_reducible exact ag)|(have ag:=(Option.bind_some _ _).symm.trans H;with_reducible exact ag)|with_reducible exact H|(rw[aj];exact H)|exact H
     have aI:=zq aj;clear aj;refine yv H ?_;clear H;rintro aa cf H;refine yi H ?_;clear H;intro bM H;have bj:=zq bM;clear bM;obtain⟨a8,ak⟩:∃y_:List (List (S32)),y_=(ah++[aa]):=⟨_,rfl⟩;replace H:(array_Kids.l0 k2 (s.drop (B:Int).toNat) a8)=some r:=by first|(rw[ak];with_reducible exact H)|(have ag:=(Option.bind_some _ _).symm.trans H;rw[ak];with_reducible exact ag)|(have ag:=(Option.bind_some _ _).symm.trans H;with_reducible exact ag)|with_reducible exact H|(rw[ak];exact H)|exact H
     have bk:=zq ak;clear ak;have cg:=eq_true (of_decide_eq_true J2:0≤B);have ch:=eq_true (of_decide_eq_true J2:B≤(s.length:Int));obtain⟨ab,ar⟩:∃y_:List (S32),y_=(s.drop (B:Int).toNat):=⟨_,rfl⟩;rw(occs:=.pos [1]) [←ar]at H;have aJ:=zq ar;clear ar;have H':=zq H;clear H;obtain⟨ac,G,bN⟩:=mw z.out;subst bN;try go_wp2_with(first|((with_reducible refine Xh (f:=70) rfl ?_);refine gL Tryz.func70 (Xce.calls k2 _ _ s B _ (zc ((lE z.out).2.2)) ((lE z.out).2.1) b9.out) ?_;rintro e ci ⟨rfl,hb⟩;refine⟨_,rfl,?_⟩;replace z:=zq (lL (zv z.out) hb);replace D:=zq (lq (zr D.out) hb);replace HB:=zq (Xb J0 hb);(try clear hb);(try clear hk)))
     replace z:=zq (lJ z.out);replace D:=zq (ly D.out);replace HB:=zq (Xan HB.out);have bl:(B:Int)≤((s.length:Int):Int):=of_decide_eq_true J2;obtain⟨cx,aK,_,bm,_⟩:=info_parts Xdg;have an:s.length≤G:=(lE z.out).2.1;have a9:Kd.F k32 _ _ ac s.length s:=(na (base:=w.heap.size) z.out).2.2;have aY:=cut_to (P:=Tryz.prog) 22 32 .i64 Tryz.underlying22 aK ac s.length G B (of_decide_eq_true J2) bl an;have aM:=Kd.F_take (m:=(B:Int).toNat) a9 J28;have aN:ai.length=(B:Int).toNat:=(by rw[aI.out,List.length_take];omega);rw[←aI.out]at aM;rw[←aN]at aY;have au:=zq (show Kd.V k32 32 _ w.heap.size _ (.slice ac ai.length G) ai from mb J28 aM);have cj:=zq (show ai.length≤G from by omega);clear aM a9 an aK bm;have cy:=zq aN;clear aN;replace bl:=eq_true bl;have bn:(B:Int)≤((s.length:Int):Int):=of_decide_eq_true J2;obtain⟨cz,aQ,_,aR,_⟩:=info_parts Xdg;have L:s.length≤G:=(lE z.out).2.1;have ba:Kd.F k32 _ _ ac s.length s:=(na (base:=w.heap.size) z.out).2.2;have bO:(0:Int)≤(B:Int):=of_decide_eq_true J2;have aZ:=Xeg (P:=Tryz.prog) 22 32 .i64 Tryz.underlying22 aQ 4 aR ac s.length G B bO bn;have ao:=nL (m:=(B:Int).toNat) (c:=G) ba J28 L;obtain⟨bP,ay⟩:∃A_,A_=(if G=(B:Int).toNat then ac else(ac:Option Addr).map (·.add ((B:Int).toNat*4))):=⟨_,rfl⟩;obtain⟨bQ,aA⟩:∃c1,c1=G-(B:Int).toNat:=⟨_,rfl⟩;have ap:ab.length=s.length-(B:Int).toNat:=(by rw[aJ.out,List.length_drop]<;>omega);rw[show(s).drop (B:Int).toNat=ab from aJ.out.symm]at ao;replace ao:Kd.F k32 _ _ bP ab.length ab:=(by rw[ay];exact ao);rw[←ap,←ay,←aA]at aZ;have O:=zq (show Kd.V k32 32 _ w.heap.size _ (.slice bP ab.length bQ) ab from mb (by rw[ap,aA];exact Nat.sub_le_sub_right L _) ao);have ck:=zq (show ab.length≤bQ from by rw[ap,aA];exact Nat.sub_le_sub_right L _);clear ao ba L aQ aR aA;have cA:=zq ap;have cB:=zq ay;clear ap ay;replace bn:=eq_true bn;refine Xej (n:=12) (S:=fun w'=>True) (ds:=[]) #[Z,Z,Z,Z,Z,Z,Z,Z,Z,Z,Z,Z] J30 rfl rfl trivial (fun hHeld=>?_);refine Xc8 array_Kids.tab6 array_Kids.bits6 (fun U cE=>?_);generalize ci.drew=cF at z D HB au O hHeld⊢;refine Xbf 0 21 #[Y,Z,Z,Z,Z,Z,Z,Z,Z,Z,Z,Z] U ?_;refine Xbf 1 22 #[Y,Y,Z,Z,Z,Z,Z,Z,Z,Z,Z,Z] U ?_;refine Xbf 2 23 #[Y,Y,Y,Z,Z,Z,Z,Z,Z,Z,Z,Z] U ?_;refine Xbf 3 24 #[Y,Y,Y,Y,Z,Z,Z,Z,Z,Z,Z,Z] U ?_;refine Xbf 7 28 #[Y,Y,Y,Y,Z,Z,Z,Y,Z,Z,Z,Z] U ?_;refine Xbf 8 29 #[Y,Y,Y,Y,Z,Z,Z,Y,Y,Z,Z,Z] U ?_;refine Xbf 9 30 #[Y,Y,Y,Y,Z,Z,Z,Y,Y,Y,Z,Z] U ?_;refine Xdf (i:=4) (N:=some 25) #[Y,Y,Y,Y,Y,Z,Z,Y,Y,Y,Z,Z] rfl rfl (Xci U.out J30) J18 (fun K hK=>?_);refine Xdo Tryz.func71 J30 rfl #[.slice ac ai.length G] Xbm rfl rfl J6 ?_;with_reducible refine(Xcw.calls _ _ ai aa _ ?side1 ?side2 cf.out).mono ?_
     (case side1=>exact zc ((lE au.out).2.2))
     (case side2=>exact(lE au.out).2.1)
     rintro e cG ⟨cC,rfl,aT,hb⟩;refine⟨_,rfl,?_⟩;replace z:=zq (lY (zv z.out) (mX aT) hb);replace D:=zq (lN (zr D.out) (mX aT) hb);replace O:=zq (lY (zv O.out) (mX aT) hb);have av:=zq (ng (Kd.S_newM (M:=fun k_=>(w.heap.size≤k_)) aT (Xe J0) (fun k_ h_=>h_)) (Xe J0));replace HB:=zq (Xb J0 hb);(try clear hb);(try clear hb2);(try clear hk);(try clear hi);(try clear aT);obtain⟨aU,aV,bb⟩:=mW av.out;(first|subst bb|(injection bb with bR cl bS;have cm:=bR.symm;have cn:=bS.symm;clear bR cl bS;subst cm;subst cn));refine hK.out _ _ trivial (fun hHeld=>?_);clear hK K;refine Xa0 (a':=?_) ?_ ?_;rotate_left
     ·show Act.put _ (some 25) _=_;simp only[Act.put,List.setIfInBounds_toArray,List.set_cons_zero,List.set_cons_succ,Xau,Xax];rfl
     refine Xdf (i:=5) (N:=some 26) #[Y,Y,Y,Y,Y,Y,Z,Y,Y,Y,Z,Z] rfl rfl (Xci U.out J30) J18 (fun K hK=>?_);refine value_ (w1:=?_) (v:=?_) Xbm rfl ?_ ?_;rotate_left 2
     ·go_simp;constructor
      ·rfl
      ·rfl
     refine hK.out _ _ trivial (fun hHeld=>?_);clear hK K;refine Xa0 (a':=?_) ?_ ?_;rotate_left
     ·show Act.put _ (some 26) _=_;simp only[Act.put,List.setIfInBounds_toArray,List.set_cons_zero,List.set_cons_succ,Xau,Xax];rfl
     refine Xdf (i:=6) (N:=some 27) #[Y,Y,Y,Y,Y,Y,Y,Y,Y,Y,Z,Z] rfl rfl (Xci U.out J30) J18 (fun K hK=>?_);refine ms (Kd.slice 32 k32) (w0:=w) w.heap.size Xbm (.tmp 21) (.tmp 26) 74 22 (.slice none 0 0) 24 rfl Tryz.underlying74 info22 rfl J18 J28 u2 ah aa [.slice aU aa.length aV] (fun k_=>(w.heap.size≤k_)) (fun k_=>((fun k_=>(w.heap.size≤k_))) k_∧some k_≠(u2:Value).ownBlock) rfl rfl ?aP (fun _ hk=>hk) ?aF ?aO ?aB ?aS ?aL ?_
     (case aP=>exact nI (lt (lD ((Kd.S_R av.out)) (lK D.out) J18) (fun k_ hk=>⟨hk.1.1,hk.2⟩)))
     (case aB=>exact J0)
     (case aF=>exact(fun k_ hk=>(Nat.le_trans (Xe J0) hk)))
     (case aO=>exact(by(with_reducible repeat(first|apply Kd.R_alloc|apply lx|apply ly));exact lt D.out (fun _ hk=>hk.1)))
     (case aS=>exact(Xe J0))
     (case aL=>have:=bj.out;omega)
     intro cD cH ho hb hg hat;rw[←bk.out]at ho;replace z:=zq (lV (ok:=(fun k_=>(aC k_∨w.heap.size≤k_)∧some k_≠(.slice aU aa.length aV:Value).ownBlock)) (by(with_reducible repeat(first|apply Kd.V_alloc|apply Kd.V_drewN|apply lJ));exact lC z.out (fun _ hk=>⟨⟨hk.1.1,hk.2⟩,hk.1.2⟩)) hg hat);replace O:=zq (lV (ok:=(fun k_=>(aC k_∨w.heap.size≤k_)∧some k_≠(.slice aU aa.length aV:Value).ownBlock)) (by(with_reducible repeat(first|apply Kd.V_alloc|apply Kd.V_drewN|apply lJ));exact lC O.out (fun _ hk=>⟨⟨hk.1.1,hk.2⟩,hk.1.2⟩)) hg hat);replace HB:=zq (hb);have bo:=zq (ho);clear D av;clear ho hb hg hat;refine hK.out _ _ trivial (fun hHeld=>?_);clear hK K;refine Xa0 (a':=?_) ?_ ?_;rotate_left
     ·show Act.put _ (some 27) _=_;simp only[Act.put,List.setIfInBounds_toArray,List.set_cons_zero,List.set_cons_succ,Xau,Xax];rfl
     refine Xbf 10 2 #[Y,Y,Y,Y,Y,Y,Y,Y,Y,Y,Y,Z] U ?_;refine Xbf 11 0 #[Y,Y,Y,Y,Y,Y,Y,Y,Y,Y,Y,Y] U ?_;refine done_ (Xd0 U.out J30) ?_;try go_wp2
     go_roundg k2
     case measure=>have:=bG.out;have:=bK.out;omega
     case rel=>exact⟨(ab),(a8),H',⟨by have:=bG.out;have:=bK.out;omega⟩,⟨by(with_reducible repeat(first|apply Kd.V_alloc|apply Kd.V_drewN|apply lJ));exact lC O.out (fun _ hk=>⟨hk.1.1,hk.2⟩)⟩,⟨by(with_reducible repeat(first|apply Kd.R_alloc|apply lx|apply ly));exact bo.out⟩,⟨J0⟩⟩
theorem array_Kids.calls(k:Nat)(s:Nat→Prop)(A0:Option Addr)(c0:Nat)(l0:List (S32))(r:List (List (S32)))(w:World)(B:Kd.V k32 32 w w.heap.size (fun k_=>s k_) (.slice A0 l0.length c0) l0)(h:array_Kids.f k l0=some r):
  Calls Tryz.prog 72 #[.slice A0 l0.length c0] w fun e w'=>∃z:Value,e= .returned (z)∧Kd.N (Kd.slice 32 k32) 22 w' w.heap.size (fun k_=>(w.heap.size≤k_)) z r∧Below w.heap.size w w':=by
 refine(array_Kids.calls0 k s A0 c0 l0 r w B h).mono ?_;rintro e w' ⟨v,he,h1,hB⟩;exact⟨v,he,Kd.R_N h1,hB⟩
end Go.Proofs.YtfjhiiaahbjaiaaGreatDoor.HSystemTells
