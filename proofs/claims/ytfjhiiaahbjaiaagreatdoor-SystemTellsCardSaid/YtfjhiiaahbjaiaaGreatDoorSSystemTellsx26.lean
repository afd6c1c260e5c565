/- Words and walks, shortened by a program: what this claim's functions answer, and that other memory stays. -/
import Derived.Test.YtfjhiiaahbjaiaaGreatDoorSSystemTellsx0
namespace Go.Proofs.YtfjhiiaahbjaiaaGreatDoor.HSystemTells
open Go.RowKit Go.Proofs.YtfjhiiaahbjaiaaGreatDoorW.PrintWords Go.Proofs.YtfjhiiaahbjaiaaGreatDoorW.PrintWords.Kd Go.Proofs.YtfjhiiaahbjaiaaGreatDoorW.PrintLast Go.Proofs.YtfjhiiaahbjaiaaGreatDoorW.PrintMore Go.Proofs.YtfjhiiaahbjaiaaGreatDoorW.PrintMore.Kd
attribute [local go_sem] Xb2 Xb0 Xcd Xcc Xbq Xbp Xb1 Xbz
set_option linter.unusedVariables false
set_option linter.unusedSimpArgs false
def deckleref06_digits.f:Nat→Int→Option (ByteArray)
 |0,_=>none
 |k+1,a0=>if a0<10 then(some (strOfNums (([(IntKind.u64.wrap (48+a0))%256]:List Int))))else((deckleref06_digits.f k (IntKind.u64.wrap (Int.tdiv a0 10))).bind fun s=>((some (([(IntKind.u64.wrap (48+(Int.tmod a0 10)))%256]:List Int):List Int)).bind fun z=>(if s.size+(strOfNums z).size≤9223372036854775807 then(some (s++(strOfNums z)))else(none))))
def deckleref06_digits.T3:Bool×List (List Nat×List Nat):=(true,[([],[]),([0],[0]),([1],[1]),([],[]),([3],[3]),([4],[4]),([5],[5]),([6],[6]),([7],[7]),([2,8],[2,8]),([9,2,0,1,2,3,4,5,6,7,8,9],[9])])
def deckleref06_digits.B3:List Nat:=[0,1,3,0,8,24,56,120,248,511,1023]
theorem deckleref06_digits.tab3:Xde .any (opsOf Tryz.f79 3)=deckleref06_digits.T3:=J30
theorem deckleref06_digits.bits3:Xdc deckleref06_digits.T3.2 deckleref06_digits.B3=true:=J30
set_option maxHeartbeats 8000000 in
set_option maxRecDepth 100000 in
theorem deckleref06_digits.calls(k:Nat):∀(a0:Int)(r:ByteArray)(w:World)(h:deckleref06_digits.f k a0=some r),
  Calls Tryz.prog 79 #[.int .u64 a0] w fun e w'=>e= .returned (.string r)∧Below w.heap.size w w':=by
 induction k using Nat.strongRecOn with
 |_ k ih=>
 intro a0 r w h;cases k with
 |zero=>exact absurd h (by simp[deckleref06_digits.f])
 |succ k=>
 simp only[deckleref06_digits.f]at h;have HB:=zq (Below.refl w.heap.size w);have H:(if a0<10 then(some (strOfNums (([(IntKind.u64.wrap (48+a0))%256]:List Int))))else((deckleref06_digits.f k (IntKind.u64.wrap (Int.tdiv a0 10))).bind fun B=>((some (([(IntKind.u64.wrap (48+(Int.tmod a0 10)))%256]:List Int):List Int)).bind fun D=>(if B.size+(strOfNums D).size≤9223372036854775807 then(some (B++(strOfNums D)))else(none)))))=some r:=h;clear h;refine yD H ?_ ?_<;>clear H<;>rintro ao H
 ·obtain⟨ah,G⟩:∃y_:List Int,y_=(([(IntKind.u64.wrap (48+a0))%256]:List Int)):=⟨_,rfl⟩;replace H:(some (strOfNums ah))=some r:=by first|(rw[G];with_reducible exact H)|(have ab:=(Option.bind_some _ _).symm.trans H;rw[G];with_reducible exact ab)|(have ab:=(Option.bind_some _ _).symm.trans H;with_reducible exact ab)|with_reducible exact H|(rw[G];exact H)|exact H
  have ac:=zq G;clear G;obtain rfl:=yo H;go_enter Tryz.func79,Tryz.ntmps79;go_wp2_with(first|((with_reducible refine Xk (N:=8) rfl ?_);refine lwR (Kd.int .u8) 5 8 (xs:=([(IntKind.u64.wrap (48+a0))%256]:List Int)) [.int .u8 ((IntKind.u64.wrap (48+a0))%256)] ac (Reps.one (show Kd.M (Kd.int .u8) _ _ _ ((IntKind.u64.wrap (48+a0))%256) [.int .u8 ((IntKind.u64.wrap (48+a0))%256)]from rfl) (Reps.none _ _)) ?_;intro ap w3 ai hb;have ae:=zq (ls ai (Xe J0));replace HB:=zq (Xb J0 hb);clear hb ai;have aq:=Xeo (P:=Tryz.prog) Tryz.underlying88 Tryz.underlying5 Tryz.underlying9 (Kd.own_of_R ae.out)));go_ret;exact⟨J1,J0⟩
 refine yv H ?_;clear H;rintro B A6 H;refine yl H ?_;clear H;rintro D J H;refine yi H ?_;clear H;intro c7 H;have ar:=eq_true c7;have au:=decide_eq_true c7;try have av:(9223372036854775807<B.size+(strOfNums D).size)=False:=eq_false (Nat.not_lt.2 c7)
 obtain rfl:=yo H;go_enter Tryz.func79,Tryz.ntmps79;try go_wp2
 replace HB:=zq (Xan HB.out);refine Xej (n:=11) (S:=fun w'=>True) (ds:=[]) #[Z,Z,Z,Z,Z,Z,Z,Z,Z,Z,Z] J30 rfl rfl trivial (fun hHeld=>?_);refine Xc8 deckleref06_digits.tab3 deckleref06_digits.bits3 (fun z aw=>?_);generalize w.drew=w8 at HB hHeld⊢;refine Xbf 0 10 #[Y,Z,Z,Z,Z,Z,Z,Z,Z,Z,Z] z ?_;refine Xbf 1 11 #[Y,Y,Z,Z,Z,Z,Z,Z,Z,Z,Z] z ?_;refine Xbf 3 13 #[Y,Y,Z,Y,Z,Z,Z,Z,Z,Z,Z] z ?_;refine Xbf 4 14 #[Y,Y,Z,Y,Y,Z,Z,Z,Z,Z,Z] z ?_;refine Xbf 5 15 #[Y,Y,Z,Y,Y,Y,Z,Z,Z,Z,Z] z ?_;refine Xbf 6 16 #[Y,Y,Z,Y,Y,Y,Y,Z,Z,Z,Z] z ?_;refine Xdy (σ:=Value) 2 #[Y,Y,Y,Y,Y,Y,Y,Y,Y,Z,Z] (fun s_=>[(12,.string B),(17,s_),(18,.string (strOfNums D))]) (fun s_ w'=>(Kd.R (Kd.int .u8) 5 w' w.heap.size (fun _=>True) s_ D)∧(Below w.heap.size w w')) ?_ ?_;rotate_left
 ·intro hCont;refine two_ (i:=2) (j:=7) (Ni:=some 12) (Nj:=some 17) #[Y,Y,Y,Y,Y,Y,Y,Z,Z,Z,Z] #[Y,Y,Z,Y,Y,Y,Y,Y,Z,Z,Z] rfl rfl rfl rfl (Xdu z.out J30) J18 J18 (fun K hK=>?_) (fun K hK=>?_)
  ·skip;refine Xdo Tryz.func79 J30 rfl #[.int .u64 (IntKind.u64.wrap (Int.tdiv a0 10))] Xbm rfl rfl J6 ?_;with_reducible refine(ih k J28 (IntKind.u64.wrap (Int.tdiv a0 10)) B _ A6.out).mono ?_
   rintro e w9 ⟨rfl,hb⟩;refine⟨_,rfl,?_⟩;replace HB:=zq (Xb J0 hb);(try clear hb);(try clear hb2);(try clear hk);(try clear hi);refine hK.out _ _ trivial (fun hHeld=>?_);clear hK K;refine Xa0 (a':=?_) ?_ ?_;rotate_left
   ·show Act.put _ (some 12) _=_;simp only[Act.put,List.setIfInBounds_toArray,List.set_cons_zero,List.set_cons_succ,Xau,Xax];rfl
   refine Xdf (i:=7) (N:=some 17) #[Y,Y,Y,Y,Y,Y,Y,Y,Z,Z,Z] rfl rfl (Xci z.out J30) J18 (fun K hK=>?_);refine lR (Kd.int .u8) _ 5 ?hg (N:=17) ?hd (xs:=([(IntKind.u64.wrap (48+(Int.tmod a0 10)))%256]:List Int)) (inner:=[.int .u8 ((IntKind.u64.wrap (48+(Int.tmod a0 10)))%256)]) (ok:=fun _=>True) (okp:=fun _=>True) ?hr ?hp (fun _ hk=>hk) trivial (Below.refl _ _) (Nat.le_refl _) J92 ?_;(case hd=>rfl);(case hg=>rfl);(case hr=>first|(go_simp;done)|(go_simp;rfl));(case hp=>exact(Reps.one (show Kd.M (Kd.int .u8) _ _ _ ((IntKind.u64.wrap (48+(Int.tmod a0 10)))%256) [.int .u8 ((IntKind.u64.wrap (48+(Int.tmod a0 10)))%256)]from rfl) (Reps.none _ _)));intro I ax L hb af U;clear af U;(first|rw[←J.out]at L|(simp only[Int.reduceToNat]at L;rw[←J.out]at L));have s:=zq (ls L (Xe J0));replace HB:=zq (Xb J0 hb);clear hb L;refine hK.out _ _ trivial (fun hHeld=>?_);clear hK K;refine Xa0 (a':=?_) ?_ ?_;rotate_left
   ·show Act.put _ (some 17) _=_;simp only[Act.put,List.setIfInBounds_toArray,List.set_cons_zero,List.set_cons_succ,Xau,Xax];rfl
   refine Xdf (i:=8) (N:=some 18) #[Y,Y,Y,Y,Y,Y,Y,Y,Y,Z,Z] rfl rfl (Xci z.out J30) J18 (fun K hK=>?_);have aa:=Xeo (P:=Tryz.prog) Tryz.underlying88 Tryz.underlying5 Tryz.underlying9 (Kd.own_of_R s.out);refine value_ (w1:=?_) (v:=?_) Xbm rfl ?_ ?_;rotate_left 2
   ·go_simp;constructor
    ·rfl
    ·rfl
   clear aa;refine hK.out _ _ trivial (fun hHeld=>?_);clear hK K;refine Xa0 (a':=?_) ?_ ?_;rotate_left
   ·show Act.put _ (some 18) _=_;simp only[Act.put,List.setIfInBounds_toArray,List.set_cons_zero,List.set_cons_succ,Xau,Xax];rfl
   exact Xa0 J68 (hCont (I) _ ⟨(zr s.out),J0⟩)
  ·skip;refine lR (Kd.int .u8) _ 5 ?hg (N:=17) ?hd (xs:=([(IntKind.u64.wrap (48+(Int.tmod a0 10)))%256]:List Int)) (inner:=[.int .u8 ((IntKind.u64.wrap (48+(Int.tmod a0 10)))%256)]) (ok:=fun _=>True) (okp:=fun _=>True) ?hr ?hp (fun _ hk=>hk) trivial (Below.refl _ _) (Nat.le_refl _) J92 ?_;(case hd=>rfl);(case hg=>rfl);(case hr=>first|(go_simp;done)|(go_simp;rfl));(case hp=>exact(Reps.one (show Kd.M (Kd.int .u8) _ _ _ ((IntKind.u64.wrap (48+(Int.tmod a0 10)))%256) [.int .u8 ((IntKind.u64.wrap (48+(Int.tmod a0 10)))%256)]from rfl) (Reps.none _ _)));intro I w9 O hb af U;clear af U;(first|rw[←J.out]at O|(simp only[Int.reduceToNat]at O;rw[←J.out]at O));have s:=zq (ls O (Xe J0));replace HB:=zq (Xb J0 hb);clear hb O;refine hK.out _ _ trivial (fun hHeld=>?_);clear hK K;refine Xa0 (a':=?_) ?_ ?_;rotate_left
   ·show Act.put _ (some 17) _=_;simp only[Act.put,List.setIfInBounds_toArray,List.set_cons_zero,List.set_cons_succ,Xau,Xax];rfl
   refine two_ (i:=2) (j:=8) (Ni:=some 12) (Nj:=some 18) #[Y,Y,Y,Y,Y,Y,Y,Y,Z,Z,Z] #[Y,Y,Z,Y,Y,Y,Y,Y,Y,Z,Z] rfl rfl rfl rfl (Xdu z.out J30) J18 J18 (fun K hK=>?_) (fun K hK=>?_)
   ·skip;refine Xdo Tryz.func79 J30 rfl #[.int .u64 (IntKind.u64.wrap (Int.tdiv a0 10))] Xbm rfl rfl J6 ?_;with_reducible refine(ih k J28 (IntKind.u64.wrap (Int.tdiv a0 10)) B _ A6.out).mono ?_
    rintro e ay ⟨rfl,hb⟩;refine⟨_,rfl,?_⟩;replace s:=zq (lq (zr s.out) hb);replace HB:=zq (Xb J0 hb);(try clear hb);(try clear hb2);(try clear hk);(try clear hi);refine hK.out _ _ trivial (fun hHeld=>?_);clear hK K;refine Xa0 (a':=?_) ?_ ?_;rotate_left
    ·show Act.put _ (some 12) _=_;simp only[Act.put,List.setIfInBounds_toArray,List.set_cons_zero,List.set_cons_succ,Xau,Xax];rfl
    refine Xdf (i:=8) (N:=some 18) #[Y,Y,Y,Y,Y,Y,Y,Y,Y,Z,Z] rfl rfl (Xci z.out J30) J18 (fun K hK=>?_);have aa:=Xeo (P:=Tryz.prog) Tryz.underlying88 Tryz.underlying5 Tryz.underlying9 (Kd.own_of_R s.out);refine value_ (w1:=?_) (v:=?_) Xbm rfl ?_ ?_;rotate_left 2
    ·go_simp;constructor
     ·rfl
     ·rfl
    clear aa;refine hK.out _ _ trivial (fun hHeld=>?_);clear hK K;refine Xa0 (a':=?_) ?_ ?_;rotate_left
    ·show Act.put _ (some 18) _=_;simp only[Act.put,List.setIfInBounds_toArray,List.set_cons_zero,List.set_cons_succ,Xau,Xax];rfl
    exact Xa0 J68 (hCont (I) _ ⟨(zr s.out),J0⟩)
   ·skip;have ag:=Xeo (P:=Tryz.prog) Tryz.underlying88 Tryz.underlying5 Tryz.underlying9 (Kd.own_of_R s.out);refine value_ (w1:=?_) (v:=?_) Xbm rfl ?_ ?_;rotate_left 2
    ·go_simp;constructor
     ·rfl
     ·rfl
    clear ag;refine hK.out _ _ trivial (fun hHeld=>?_);clear hK K;refine Xa0 (a':=?_) ?_ ?_;rotate_left
    ·show Act.put _ (some 18) _=_;simp only[Act.put,List.setIfInBounds_toArray,List.set_cons_zero,List.set_cons_succ,Xau,Xax];rfl
    refine Xdf (i:=2) (N:=some 12) #[Y,Y,Y,Y,Y,Y,Y,Y,Y,Z,Z] rfl rfl (Xci z.out J30) J18 (fun K hK=>?_);refine Xdo Tryz.func79 J30 rfl #[.int .u64 (IntKind.u64.wrap (Int.tdiv a0 10))] Xbm rfl rfl J6 ?_;with_reducible refine(ih k J28 (IntKind.u64.wrap (Int.tdiv a0 10)) B _ A6.out).mono ?_
    rintro e aA ⟨rfl,hb⟩;refine⟨_,rfl,?_⟩;replace s:=zq (lq (zr s.out) hb);replace HB:=zq (Xb J0 hb);(try clear hb);(try clear hb2);(try clear hk);(try clear hi);refine hK.out _ _ trivial (fun hHeld=>?_);clear hK K;refine Xa0 (a':=?_) ?_ ?_;rotate_left
    ·show Act.put _ (some 12) _=_;simp only[Act.put,List.setIfInBounds_toArray,List.set_cons_zero,List.set_cons_succ,Xau,Xax];rfl
    exact Xa0 J68 (hCont (I) _ ⟨(zr s.out),J0⟩)
 rintro I aj ⟨ak,al⟩;have am:Aside0 (Kd.R (Kd.int .u8) 5 aj w.heap.size (fun _=>True) I D):=⟨ak⟩;have an:Aside0 (Below w.heap.size w aj):=⟨al⟩;clear HB;clear ak al;have s:=am;have HB:=an;clear am an;have hHeld:=trivial;refine Xa0 (a':=?_) ?_ ?_;rotate_left
 ·simp only[Xcx,Act.put,List.setIfInBounds_toArray,List.set_cons_zero,List.set_cons_succ];rfl
 refine Xbf 9 19 #[Y,Y,Y,Y,Y,Y,Y,Y,Y,Y,Z] z ?_;refine Xbf 10 2 #[Y,Y,Y,Y,Y,Y,Y,Y,Y,Y,Y] z ?_;refine done_ (Xd0 z.out J30) ?_;try go_wp2
 go_ret;exact⟨J1,J0⟩
def Xb6.f(a0:Int):Option (Int):=if a0<0 then(some (IntKind.u64.wrap ((IntKind.u64.wrap (wrap64 (-(wrap64 (a0+1)))))+1)))else(some (IntKind.u64.wrap (a0)))
set_option maxHeartbeats 8000000 in
set_option maxRecDepth 100000 in
theorem Xb6.calls(a0:Int)(r:Int)(w:World)(h:Xb6.f a0=some r):
  Calls Tryz.prog 80 #[.int .i64 a0] w fun e w'=>e= .returned (.int .u64 r)∧Drawn0 w w':=by
 unfold Xb6.f at h;have H:=h;clear h;refine yd H ?_ ?_<;>clear H<;>rintro s H
 ·obtain rfl:=yo H;go_enter Tryz.func80,Tryz.ntmps80;go_wp2;go_ret;exact⟨J3,J7⟩
 obtain rfl:=yo H;go_enter Tryz.func80,Tryz.ntmps80;go_wp2;go_ret;exact⟨J3,J7⟩
def Xby.f(k:Nat)(G:Int)(B:Int)(H:Int)(D:Int):Option (Bool):=(Xb6.f G).bind fun I=>((deckleref06_digits.f k I).bind fun s=>((Xb6.f H).bind fun J=>((deckleref06_digits.f k J).bind fun z=>(if(wrap64 ((s.size:Int)+B))=(wrap64 ((z.size:Int)+D))then(some (Op.bytesLess z.toList s.toList))else(some (decide ((wrap64 ((s.size:Int)+B))>(wrap64 ((z.size:Int)+D)))))))))
theorem bytes_gt:∀x y:List UInt8,(!(Op.bytesLess x y||x==y))=Op.bytesLess y x
 |[],[]=>rfl
 |[],_::_=>rfl
 |_::_,[]=>rfl
 |a::x,b::y=>by
  have ih:=bytes_gt x y;rw[Op.bytesLess,Op.bytesLess,←ih];rcases Nat.lt_trichotomy a.toNat b.toNat with h|h|h
  ·have h1:a<b:=h;have h2:¬b<a:=fun q=>Nat.lt_asymm h q;have h3:a≠b:=fun q=>by rw[q]at h;exact Nat.lt_irrefl _ h
   simp[h1,h2,h3,h3.symm]
  ·obtain rfl:a=b:=UInt8.toNat_inj.mp h;have h1:¬a<a:=fun q=>Nat.lt_irrefl _ q;simp[h1]
  ·have h1:b<a:=h;have h2:¬a<b:=fun q=>Nat.lt_asymm h q;have h3:a≠b:=fun q=>by rw[q]at h;exact Nat.lt_irrefl _ h
   simp[h1,h2,h3,h3.symm]
theorem binOp_gt_str(t:TypeId)(a b:ByteArray):binOp .gtr t (.string a) (.string b)=pure (.bool (Op.bytesLess b.toList a.toList)):=by rw[←bytes_gt];simp[binOp,Op.stringOp]
attribute [local go_sem] binOp_gt_str
set_option maxHeartbeats 8000000 in
set_option maxRecDepth 100000 in
theorem Xby.calls(k:Nat)(G:Int)(O:Int)(U:Int)(aa:Int)(r:Bool)(w:World)(h:Xby.f k G O U aa=some r):
  Calls Tryz.prog 63 #[.agg #[.int .i64 G,.int .i64 O],.agg #[.int .i64 U,.int .i64 aa]] w fun e w'=>e= .returned (.bool r)∧Below w.heap.size w w':=by
 have ak:=Tryz.underlying35;have HB:=zq (Below.refl w.heap.size w);unfold Xby.f at h;have H:=h;clear h;refine yv H ?_;clear H;rintro ab A3 H;refine yv H ?_;clear H;rintro ae A4 H;refine yv H ?_;clear H;rintro ac A5 H;refine yv H ?_;clear H;rintro af A6 H;refine yE H ?_ ?_<;>clear H<;>rintro⟨al,am,c7⟩ H
 ·obtain rfl:=yo H;go_enter Tryz.func63,Tryz.ntmps63;go_wp2_with(first|((with_reducible refine Xk (N:=2) rfl ?_);refine bxw 2 35 #[.int .i64 G,.int .i64 O] ?_;intro B hg an hbox hb;have s:=zq (hbox);have D:=zq ((J20:w.heap.size≤B));replace HB:=zq (Xb J0 hb);clear hb hbox hg)|((with_reducible refine Xk (N:=3) rfl ?_);refine bxw 3 35 #[.int .i64 U,.int .i64 aa] ?_;intro I hg ao hbox hb;have z:=zq (hbox);have J:=zq ((J89:w.heap.size≤I));replace HB:=zq (Xb (zs1 D.out) hb);have K:=zq ((J188:B≠I));have L:=zq ((J189:I≠B));replace s:=zq (Xg (zk s.out) hb);clear hb hbox hg;have ag:=K.out;have ah:=L.out;have ap:=cz2 s.out)|((with_reducible refine Xh (f:=80) rfl ?_);refine gL Tryz.func80 (Xb6.calls G ab _ A3.out) ?_;rintro e w' ⟨rfl,⟨nd,rfl⟩⟩;refine⟨_,rfl,?_⟩)|((with_reducible refine Xh (f:=79) rfl ?_);refine gL Tryz.func79 (deckleref06_digits.calls k ab ae _ A4.out) ?_;rintro e aq ⟨rfl,hb⟩;refine⟨_,rfl,?_⟩;replace s:=zq (Xg (zk s.out) hb);replace z:=zq (Xg (zk z.out) hb);replace HB:=zq (Xb (zs2 D.out J.out) hb);(try clear hb);have ar:=cz2 z.out)|((with_reducible refine Xh (f:=80) rfl ?_);refine gL Tryz.func80 (Xb6.calls U ac _ A5.out) ?_;rintro e w' ⟨rfl,⟨nd,rfl⟩⟩;refine⟨_,rfl,?_⟩)|((with_reducible refine Xh (f:=79) rfl ?_);refine gL Tryz.func79 (deckleref06_digits.calls k ac af _ A6.out) ?_;rintro e au ⟨rfl,hb⟩;refine⟨_,rfl,?_⟩;replace s:=zq (Xg (zk s.out) hb);replace z:=zq (Xg (zk z.out) hb);replace HB:=zq (Xb (zs2 D.out J.out) hb);(try clear hb);have av:=cz2 s.out;have aw:=cz2 z.out));go_ret;exact⟨J1,J163⟩
 clear c7;obtain rfl:=yo H;go_enter Tryz.func63,Tryz.ntmps63;go_wp2_with(first|((with_reducible refine Xk (N:=2) rfl ?_);refine bxw 2 35 #[.int .i64 G,.int .i64 O] ?_;intro B hg w8 hbox hb;have s:=zq (hbox);have D:=zq ((J20:w.heap.size≤B));replace HB:=zq (Xb J0 hb);clear hb hbox hg)|((with_reducible refine Xk (N:=3) rfl ?_);refine bxw 3 35 #[.int .i64 U,.int .i64 aa] ?_;intro I hg w9 hbox hb;have z:=zq (hbox);have J:=zq ((J89:w.heap.size≤I));replace HB:=zq (Xb (zs1 D.out) hb);have K:=zq ((J188:B≠I));have L:=zq ((J189:I≠B));replace s:=zq (Xg (zk s.out) hb);clear hb hbox hg;have ai:=K.out;have aj:=L.out;have ax:=cz2 s.out)|((with_reducible refine Xh (f:=80) rfl ?_);refine gL Tryz.func80 (Xb6.calls G ab _ A3.out) ?_;rintro e w' ⟨rfl,⟨nd,rfl⟩⟩;refine⟨_,rfl,?_⟩)|((with_reducible refine Xh (f:=79) rfl ?_);refine gL Tryz.func79 (deckleref06_digits.calls k ab ae _ A4.out) ?_;rintro e ay ⟨rfl,hb⟩;refine⟨_,rfl,?_⟩;replace s:=zq (Xg (zk s.out) hb);replace z:=zq (Xg (zk z.out) hb);replace HB:=zq (Xb (zs2 D.out J.out) hb);(try clear hb);have aA:=cz2 z.out)|((with_reducible refine Xh (f:=80) rfl ?_);refine gL Tryz.func80 (Xb6.calls U ac _ A5.out) ?_;rintro e w' ⟨rfl,⟨nd,rfl⟩⟩;refine⟨_,rfl,?_⟩)|((with_reducible refine Xh (f:=79) rfl ?_);refine gL Tryz.func79 (deckleref06_digits.calls k ac af _ A6.out) ?_;rintro e aB ⟨rfl,hb⟩;refine⟨_,rfl,?_⟩;replace s:=zq (Xg (zk s.out) hb);replace z:=zq (Xg (zk z.out) hb);replace HB:=zq (Xb (zs2 D.out J.out) hb);(try clear hb);have aC:=cz2 s.out;have aD:=cz2 z.out));go_ret;exact⟨J1,J163⟩
end Go.Proofs.YtfjhiiaahbjaiaaGreatDoor.HSystemTells
