/- The sets of a formula's nodes are what their trees say at the worlds (plain). -/
import Derived.Test.YtkmclcmnoicagaaGreatDoorT26
import Derived.Test.YtkmclcmnoicagaaGreatDoorT28
namespace Go.Proofs.YtkmclcmnoicagaaGreatDoor
set_option maxRecDepth 100000
set_option maxHeartbeats 128000000
theorem Qbx {md:Md} {f:List Nd}(h:Jr md (Qg f)=0):check f=0:=by
 refine Classical.byContradiction fun hn=> ?_
 have hcc:=(Ya h).2.1;have:Qg f= []:=by
  unfold Qg Jb;rw [show(check f !=0)=true by simpa using hn];rfl
 rw [this]at hcc;exact Qtn hcc
open Go.RowKit
def Qzh(r:List Nat)(s:Nat):Nat:=if Yb r.length r=0 then Yc (Zl r.length) (Kj r r.length (Zl 64^^^s))else 0
theorem Qn7 {s:Nat}(hs:Zj s):Zj (Zl 64^^^s):=Qf7 (Fb (Nat.le_refl _)) hs
theorem Qnh {s:Nat}(hs:Zj s):bits .xor .u64 IntKind.u64.max (s:Int)=((Zl 64^^^s:Nat):Int):=Qx7 (a:=Zl 64) (Fb (Nat.le_refl _)) hs
theorem Qc4(v:Value)(r:List Nat)(s:Nat)(w:World)(h:Ji w v r)(hw:∀s∈r,Zj s)(hs:Zj s):
 Calls Tryz.prog 187 #[v,.int .u64 (s:Int)] w fun e w'=>e=.returned (.int .u64 ((Qzh r s:Nat):Int))/\Ext w w':=by
 have H:=Qq h;obtain⟨A,c,rfl,_,_,HL⟩:=Gc h;have HWD:=Qq hw;have HS:=Qq (Qn7 hs);have HCO:=Qq (Qnh hs);clear h hw hs;by_cases hck:Yb r.length r=0
 ·have hn:=Pw hck;have HC:=Qq hck;have HB:=Qq (show Bc r (Zl 64^^^s)=Kj r r.length (Zl 64^^^s) by unfold Bc;rw [if_pos HC.out]);have HD:=Qq (show Qzh r s=Yc (Zl r.length) (Bc r (Zl 64^^^s)) by rw [HB.out];unfold Qzh;rw [if_pos HC.out]);have HAN:=Qq (Uc (a:=Zl r.length) (b:=Bc r (Zl 64^^^s)) (Fb hn) (by rw [HB.out];exact Pf hn _));clear hck;go_enter Tryz.func187,Tryz.ntmps187;go_wp2_with(first|(go_at_call 113;refine(Dr _ r _ H.out HWD.out).mono ?_;rintro e w1 ⟨rfl,hx1⟩;rw [HC.out];have HX1:=Qq hx1;clear hx1)|(go_at_call 115;refine(Lb r.length hn _).mono ?_;rintro e w3 ⟨rfl,rfl⟩)|(rw [HCO.out];go_at_call 186;refine(So _ r _ _ (H.out.ext HX1.out) HWD.out HS.out).mono ?_;rintro e w4 ⟨rfl,hx4⟩;have HX4:=Qq hx4;clear hx4))
  go_ret;exact⟨by rw [HD.out,<-HAN.out] <;> rfl,HX1.out.trans HX4.out⟩
 have HC:=Qq hck;have HB:=Qq (show Qzh r s=0 by unfold Qzh;rw [if_neg HC.out]);obtain⟨ce,hce⟩:∃z,z=Yb r.length r:=⟨_,rfl⟩;rw [<-hce]at hck;have hne:(ce !=0)=true:=by simpa using hck
 have HCE:=Qq hce;clear hck hce;go_enter Tryz.func187,Tryz.ntmps187;go_wp2_with(go_at_call 113;refine(Dr _ r _ H.out HWD.out).mono ?_;rintro e w1 ⟨rfl,hx1⟩;rw [<-HCE.out];have HX1:=Qq hx1;clear hx1);go_ret;exact⟨by rw [HB.out] <;> rfl,HX1.out⟩
theorem Qbo(v:Value)(r:List Nat)(n c s:Nat)(w:World)(h:Ji w v r)(hw:∀s∈r,Zj s)(hl:r.length=n)(hck:Yb r.length r=0)(hc:Zj c)(hs:Zj s):
 Calls Tryz.prog 190 #[v,.int .u64 ((Zl n:Nat):Int),.int .u64 (c:Int),.int .u64 (s:Int)] w fun e w'=>e=.returned (.int .u64 ((Gb r n c s:Nat):Int))/\Ext w w':=by
 have H:=Qq h;have HWD:=Qq hw;have hn:n<=64:=by rw [<-hl];exact Pw hck
 have HRL:=Qq (Qjs (r:=r) (n:=n) hl (by
  have:=(Ul (l:=r)).1 (by unfold Xb;rw [hck];rfl);rw [hl]at this;exact this.2))
 have HAW:=Qq (Fb hn);have HC:=Qq hc;have HS:=Qq hs;have HBX:=Qq (show ∀m,Bc r m=Kj r n m from fun m=>by unfold Bc;rw [if_pos hck,hl]);have HA1:=Qq (Uc (Fb hn) hc);clear h hw hck hc hs hl;go_enter Tryz.func190,Tryz.ntmps190;go_wp2_with fail;go_loopw [9] (fun v wr=>∃out:Nat,v=.int .u64 (out:Int)/\Hid (Zj out)/\Hid (Ext w wr)/\Hid ((∀i,(Gb r n c s).testBit i=true->out.testBit i=true)/\∀i,(gfF r n c s out).testBit i=true->out.testBit i=true)) (fun v _=>(intOf v).toNat)
 case atStart=>exact⟨Zl n,rfl,HAW,Qq Qz,Qq ⟨Qgk HRL.out,Qcy HRL.out⟩⟩
 case round =>
  obtain⟨out,rfl,HO,HX,HI⟩:=hrel;have HA2:=Qq (Mg HS.out HO.out);have HA3:=Qq (Bd (a:=Yc (Zl n) c) (b:=s&&&out) (Hr HAW.out) (Qzr HS.out));have HMW:=Qq (show Zj (Yc (Zl n) c|||(s&&&out))from Qd5 (Hr HAW.out) (Qzr HS.out));obtain⟨nx,hnx⟩:∃x,x=gfF r n c s out:=⟨_,rfl⟩;have HNX:=Qq hnx;have HBE:=Qq (show Bc r (Yc (Zl n) c|||(s&&&out))=nx by rw [HBX.out,hnx];rfl);have HNW:=Qq (show Zj nx by rw [hnx];exact Pf hn _);clear hnx;by_cases hd:nx=out
  ·have heq:((nx:Int)==(out:Int))=true:=by simp [hd]
   have HE:=Qq (Qn3 HRL.out (by rw [<-HNX.out];exact hd) HI.out.1);clear hd;go_wp2_with(rw [HA1.out,HA2.out,HA3.out];go_at_call 186;refine(So _ r _ _ (H.out.ext HX.out) HWD.out HMW.out).mono ?_;rintro e w4 ⟨rfl,hx4⟩;rw [HBE.out];have HX4:=Qq hx4;clear hx4);go_ret;exact⟨by rw [HE.out] <;> rfl,HX.out.trans HX4.out⟩
  have heq:((nx:Int)==(out:Int))=false:=by simp only [beq_eq_false_iff_ne,ne_eq,Int.natCast_inj];exact hd
  have HLT:=Qq (Qit (by rw [HNX.out];exact HI.out.2) hd);clear hd;go_wp2_with(rw [HA1.out,HA2.out,HA3.out];go_at_call 186;refine(So _ r _ _ (H.out.ext HX.out) HWD.out HMW.out).mono ?_;rintro e w4 ⟨rfl,hx4⟩;rw [HBE.out];have HX4:=Qq hx4;clear hx4);go_roundw
  case rel=>exact⟨nx,rfl,HNW,Qq (HX.out.trans HX4.out),Qq (by rw [HNX.out];exact⟨Qgv HRL.out HI.out.1,Qo6 HRL.out HI.out.2⟩)⟩
  case measure=>have:=HLT.out;simp [intOf];omega
theorem Qsj(v:Value)(l:List Nat)(w:World)(h:Ji w v l)(h0:0 < l.length)(h64:l.length<=64):
 Calls Tryz.prog 221 #[v] w fun e w'=>∃u,e=.returned u/\Jz w.heap.size w' u l/\Ext w w':=by
 obtain⟨A,c,rfl,_,_,HL⟩:=Gc h;obtain⟨iU,hiU,hzU0,hzU1,hzU2⟩:=info_parts Mv;clear h;obtain⟨ad,rfl,hadl,_⟩:=HL.out 0 h0;have HNEW:=Qq (show ∀(j:Nat) u,(uV l)[j]?=some u->(w.alloc (.cells #[] 41)).cell? (ad.add j)=some u from Fo fun i hi=>by
  obtain⟨ad2,e,_,hc⟩:=HL.out i hi;injection e with e;subst e;exact(((Ext.refl w).alloc _).cell (p:=ad.add i) (Qj hadl)).trans hc)
 have HRE:=Qq (Dl w 41);have q:∀(w:World) (a:Option Addr) (n c n' c':Nat),(binOp .eql 23 (.slice a n c) (.slice none n' c')).run Tryz.prog w=.ok (.bool a.isNone) w:=fun w a n c n' c'=>Lib.run_eql_slice_nil w _ _ a n c n' c' Tryz.underlying23
 obtain⟨n,hn⟩:∃n,n=l.length:=⟨_,rfl⟩;have HN:=Qq hn;rw [<-hn]at h64 h0⊢;have hm1:0+n<=maxLen:=by unfold maxLen;omega
 have hm2:(0+n)*8<=140737488355328:=by omega
 clear hn;go_enter Tryz.func221,Tryz.ntmps221;go_wp2_with(at_builtin;refine wpList_append_own_at _ rfl _ _ 23 rfl w.heap.size 41 iU (.int .u64 0) 1 8 Tryz.underlying23 hiU hzU0 hzU1 hzU2 rfl (by decide) _ 0 [] rfl HRE.out ad n c (uV l) rfl (by rw [Mc,Nat.mul_one];exact HN.out.symm) HNEW.out (Mh l) hm1 hm2 (by simp) ?_);intro v3 w3 hown3 hgrow3 _ _;have HX3:=Qq (show Ext w w3 from((Ext.refl w).alloc _).grown hgrow3 (fun k hk=>by have h2:w.heap.size=k:=Option.some.inj hk;omega));have HM:=Qq (show Jz w.heap.size w3 v3 l by
  unfold Jz;rw [<-HN.out];exact hown3)
 clear hown3 hgrow3;obtain⟨g,cap,rfl,hgl,hgb,_,hcm,_,_⟩:=HM.out.slice (by rw [<-HN.out];exact h0);rw [<-HN.out]at HM⊢;clear hgl;go_wp2_with fail;go_ret;exact⟨_,rfl,HM.out,HX3.out⟩
def Qge(n:Nat)(meet:Bool):Nat:=if meet then Zl n else 0
def Qz4(rl:List (List Nat))(gn:Nat)(meet:Bool)(n k:Nat):List Nat:=(List.range n).map fun i=>(List.range k).foldl (Fa rl gn meet i) (Qge n meet)
def Rh(gn k:Nat):Bool:=(List.range k).any fun a=>gn.testBit a
def Nm(rl:List (List Nat))(gn:Nat)(meet:Bool)(n k:Nat):List Nat:=bif Rh gn k then Qz4 rl gn meet n k else []
theorem Dq(gn k:Nat):Rh gn (k+1)=(Rh gn k||gn.testBit k):=by
 unfold Rh;rw [List.range_succ,List.any_append];simp
theorem Qev {rl:List (List Nat)} {gn n k:Nat} {meet:Bool}(h:gn.testBit k=false):Nm rl gn meet n (k+1)=Nm rl gn meet n k:=by
 unfold Nm;rw [Dq,h,Bool.or_false]
 congr 1
 unfold Qz4;refine List.map_congr_left fun i _=> ?_
 rw [Vi];unfold Fa;rw [h];rfl
theorem Qly {rl:List (List Nat)} {gn n k:Nat} {meet:Bool}(h:Rh gn k=false) {i:Nat} :(List.range k).foldl (Fa rl gn meet i) (Qge n meet)=Qge n meet:=by
 induction k with
 |zero=>rfl
 |succ k ih =>
  rw [Dq,Bool.or_eq_false_iff]at h;rw [Vi,ih h.1];unfold Fa;rw [h.2];rfl
theorem Qrr {rl:List (List Nat)} {gn n k:Nat} {meet:Bool}(h:gn.testBit k=true)(hn:Rh gn k=false)(hl:(rl.getD k []).length=n)(hlow:∀s∈rl.getD k [],s < 2^n):Nm rl gn meet n (k+1)=rl.getD k []:=by
 unfold Nm;rw [Dq,h,Bool.or_true];show Qz4 rl gn meet n (k+1)=_;refine List.ext_getElem (by rw [hl];unfold Qz4;rw [List.length_map,List.length_range]) fun i h1 h2=> ?_
 simp only [Qz4,List.getElem_map,List.getElem_range];rw [Vi,Qly hn];unfold Fa Qge;rw [h];have e:(rl.getD k []).getD i 0=(rl.getD k [])[i]:=by rw [Qk,Qv h2];rfl
 rw [e];have hs:=hlow _ (List.getElem_mem h2);cases meet
 ·simp
 simp only [↓reduceIte];refine Nat.eq_of_testBit_eq fun j=> ?_
 rw [Nat.testBit_and,Xy];cases hj:((rl.getD k [])[i]).testBit j
 ·simp
 rw [decide_eq_true (Vm hs hj)];rfl
theorem Qcj {rl:List (List Nat)} {gn n:Nat} {meet:Bool}(h1:1<=gn)(hg:gn < 2^rl.length):Nm rl gn meet n rl.length=(List.range n).map (Vt rl gn meet n):=by
 have ha:Rh gn rl.length=true:=by
  obtain⟨i,hi⟩:=Nat.exists_testBit_of_ne_zero (show gn≠0 by omega);exact List.any_eq_true.2 ⟨i,List.mem_range.2 (Vm hg hi),hi⟩
 unfold Nm;rw [ha];rfl
theorem Qz1 {rl:List (List Nat)} {gn n k:Nat} {meet:Bool}(h:Rh gn k=true):(Nm rl gn meet n k).length=n:=by
 unfold Nm;rw [h];unfold Qz4;simp
def Db(J:Nat->Nat->Nat)(o r:List Nat)(k:Nat):List Nat:=(List.range o.length).map fun i=>if i < k then J (o.getD i 0) (r.getD i 0)else o.getD i 0
theorem Qlo(J:Nat->Nat->Nat)(o r:List Nat):Db J o r 0=o:=by
 refine List.ext_getElem (by simp [Db]) fun i h1 h2=> ?_
 simp only [Db,List.getElem_map,List.getElem_range];rw [if_neg (Nat.not_lt_zero _),Qk,Qv h2];rfl
theorem Se(J:Nat->Nat->Nat)(o r:List Nat)(k:Nat):(Db J o r k).length=o.length:=by simp [Db]
theorem Qcp {J:Nat->Nat->Nat} {o r:List Nat} {k i:Nat}(hi:i < o.length):(Db J o r k).getD i 0=if i < k then J (o.getD i 0) (r.getD i 0)else o.getD i 0:=by
 unfold Db;rw [Qk,List.getElem?_map,List.getElem?_range hi];rfl
theorem Qlw {J:Nat->Nat->Nat} {o r:List Nat} {k:Nat}(_hk:k < o.length):(Db J o r k).set k (J (o.getD k 0) (r.getD k 0))=Db J o r (k+1):=by
 refine List.ext_getElem (by simp [Db]) fun i h1 h2=> ?_
 have hi:i < o.length:=by rw [Se]at h2;exact h2
 rw [List.getElem_set]
 split
 ·rename_i e;subst e;simp only [Db,List.getElem_map,List.getElem_range];rw [if_pos (Nat.lt_succ_self _)]
 rename_i e;simp only [Db,List.getElem_map,List.getElem_range];by_cases h3:i < k
 ·rw [if_pos h3,if_pos (by omega)]
 rw [if_neg h3,if_neg (by omega)]
theorem Qlz {rl:List (List Nat)} {gn n k:Nat} {meet:Bool}(h:gn.testBit k=true)(hn:Rh gn k=true):Db (fun x y=>if meet then x&&&y else x|||y) (Nm rl gn meet n k) (rl.getD k []) n=Nm rl gn meet n (k+1):=by
 have hl:=Qz1 (rl:=rl) (n:=n) (meet:=meet) hn;refine List.ext_getElem (by rw [Se,hl,Qz1 (by rw [Dq,hn];rfl)]) fun i h1 h2=> ?_
 have hi:i < n:=by rw [Se,hl]at h1;exact h1
 simp only [Db,List.getElem_map,List.getElem_range,Nm,Dq,hn,Bool.true_or,cond_true,Qz4];rw [if_pos hi,Vi,Qk,List.getElem?_map,List.getElem?_range hi];simp only [Option.map_some,Option.getD_some];unfold Fa;rw [h];cases meet <;> rfl
theorem Is {w:World} {b:Nat} {a0 a1 a2:Value} {t:TypeId}(h:w.heap[b]?=some (.cells #[a0,a1,a2] t (0,0))):w.cell? ⟨b,0,none⟩=some a0/\w.cell? ⟨b,1,none⟩=some a1/\w.cell? ⟨b,2,none⟩=some a2/\b < w.heap.size :=
 ⟨by simp [World.cell?,h],by simp [World.cell?,h],by simp [World.cell?,h],Qm h⟩
theorem Qzz(meet:Bool)(g:Nat)(eg:∀args w,(callFunc g args).run Tryz.prog w=.ok (.enter g args) w)(v:Value)(md:Md)(gn:Nat)(w:World)(h:MdV w v md)(hok:md.ok)(hck:Zy md=0)(hg1:1<=gn)(hg:gn < 2^md.rel.length)
 (hJ:∀(W:World) (x y:Nat),Zj x->Zj y->Calls Tryz.prog g #[.int .u64 (x:Int),.int .u64 (y:Int)] W fun e w'=>e=.returned (.int .u64 ((if meet then x&&&y else x|||y:Nat):Int))/\W=w'):
 Calls Tryz.prog 209 #[v,.int .i64 (gn:Int),.func (.func g) #[] #[]] w fun e w'=>∃u,e=.returned u/\Ext w w'/\Jz w.heap.size w' u ((List.range md.n.toNat).map (Vt md.rel gn meet md.n.toNat)):=by
 have H:=Qq h;have HOK:=Qq hok;have HCK:=Qq hck;have HJ:=Qq hJ;obtain⟨hn1,hn64,hr4,_,hrl0,_,hlow⟩:=Jv hck;obtain⟨vv,vr,rfl,hv,hr⟩:=h;obtain⟨Av,cv,rfl,_⟩:=hv;obtain⟨Ar,cr,rfl,hrl1,hrl2,HR⟩:=Dc hr;obtain⟨n,hnn⟩:=Int.eq_ofNat_of_zero_le (show 0<=md.n by omega);rw [hnn]at hn1 hn64 H hrl0 hlow⊢;have hnt:((n:Nat):Int).toNat=n:=Int.toNat_natCast n;rw [hnt]at hlow⊢;have hn65:n<=64:=by omega
 have hn0:0 < n:=by omega
 have hg2:=decide_eq_false (Qy0 hr4 hg);have hg3:¬(gn:Int) < 1:=by omega
 have hmin:min md.rel.length 64=md.rel.length:=by omega
 obtain⟨rl,hrl⟩:∃l,l=md.rel:=⟨_,rfl⟩;have HRO:=Qq (show ∀r∈rl,∀s∈r,Zj s by rw [hrl];exact hok.rel);have HRL0:=Qq (show ∀r∈rl,r.length=n by rw [hrl];exact fun r hr=>by have:=hrl0 r hr;omega);have HLO:=Qq (show ∀r∈rl,Zx r n=false by rw [hrl];exact hlow);rw [<-hrl]at HR hrl1 hr4 hg2 hmin hg⊢;have hgs:gn < 9223372036854775808:=by have:(2:Nat)^rl.length<=2^4:=Nat.pow_le_pow_right (by omega) hr4;omega
 have HGA:=Qq (Qcj (rl:=rl) (n:=n) (meet:=meet) hg1 hg);have HX0:=Qq (show Ext w (w.alloc (.cells #[.int .i64 (n:Int),.slice Av md.val.length cv,.slice Ar rl.length cr] 26))from Qz.alloc _);have HB0:=Qq (show(w.alloc (.cells #[.int .i64 (n:Int),.slice Av md.val.length cv,.slice Ar rl.length cr] 26)).heap[w.heap.size]?=some (.cells #[.int .i64 (n:Int),.slice Av md.val.length cv,.slice Ar rl.length cr] 26 (0,0))from heap_alloc_new _ _);have H2:=Qq (show MdV w (.agg #[.int .i64 (n:Int),.slice Av md.val.length cv,.slice Ar rl.length cr]) md by rw [hrl];exact H.out);clear hr hok hck hnn hrl hg hrl0 hnt H hg1 hJ hlow
 go_enter Tryz.func209,Tryz.ntmps209;go_wp2_with(go_at_call 93;refine(Fg _ md _ (H2.out.ext HX0.out) HOK.out).mono ?_;rintro e w1 ⟨rfl,hx1⟩;rw [HCK.out];have HX1:=Qq (HX0.out.trans hx1);have HB1:=Qq ((hx1.block (Qm HB0.out)).trans HB0.out);obtain⟨e0,e1,e2,eb⟩:=Is HB1.out;clear hx1);clear e0 e1 e2 eb;go_loopw [7,29] (fun vo vi wr=>∃k:Nat,vi=.int .i64 (k:Int)/\k<=rl.length/\Hid (Ext w1 wr/\Jz w1.heap.size wr vo (Nm rl gn meet n k)/\(Rh gn k=false->vo=.slice none 0 0))) (fun _ v _=>rl.length - (intOf v).toNat)
 case atStart=>exact⟨0,rfl,Nat.zero_le _,Qq ⟨Qz,Jz.nil _ _,fun _=>rfl⟩⟩
 case round =>
  obtain⟨k,rfl,hk,HREL⟩:=hrel;have HX:=Qq HREL.out.1;have HM:=Qq HREL.out.2.1;have HNO:=Qq HREL.out.2.2;obtain⟨e0,e1,e2,eb⟩:=Is ((HX.out.block (Qm HB1.out)).trans HB1.out);clear HREL;by_cases hlt2:k < rl.length
  ·have hk1:(k:Int) < (rl.length:Int):=by omega
   have hmin2:min k 64=k:=by omega
   obtain⟨ad,u,rfl,hadl,hcl,hu⟩:=HR.out k hlt2;have hmem:rl.getD k []∈rl:=by rw [Qk,Qv hlt2];exact List.getElem_mem hlt2
   have hrlen:(rl.getD k []).length=n:=HRL0.out _ hmem;have HXT:=Qq (HX1.out.trans HX.out);have a0:=(HXT.out.cell (p:=ad.add k) (Qj hadl)).trans hcl;have al:(ad.add k).block < wr.heap.size:=by rw [Qp];exact Qy hadl HXT.out.size
   have HU:=Qq (hu.ext HXT.out);have HRW:=Qq (HRO.out _ hmem);have HRLO:=Qq (show ∀s∈rl.getD k [],s < 2^n from fun s hs=>by
    have:=List.any_eq_false.1 (HLO.out _ hmem) s hs
    simpa using this)
   have hbt:=Cc gn k hgs;have q:∀(w:World) (a:Option Addr) (n c n' c':Nat),(binOp .eql 23 (.slice a n c) (.slice none n' c')).run Tryz.prog w=.ok (.bool a.isNone) w:=fun w a n c n' c'=>Lib.run_eql_slice_nil w _ _ a n c n' c' Tryz.underlying23
   obtain⟨Au,cu,rfl,_,_,HUA⟩:=Gc hu;rw [hrlen]at HUA;clear hcl;cases htb:gn.testBit k
   ·rw [htb]at hbt;have HNX:=Qq (Qev (rl:=rl) (n:=n) (meet:=meet) htb);have HAK:=Qq (show Rh gn (k+1)=Rh gn k by rw [Dq,htb,Bool.or_false]);clear htb;go_wp2_with fail;go_roundw
    case rel=>exact⟨k+1,by go_num,by omega,Qq ⟨HX.out,by rw [HNX.out];exact HM.out,by rw [HAK.out];exact HNO.out⟩⟩
    case measure=>simp [intOf];omega
   rw [htb]at hbt;have HAK:=Qq (show Rh gn (k+1)=true by rw [Dq,htb,Bool.or_true]);cases hak:Rh gn k
   ·have HNX:=Qq (Qrr (rl:=rl) (n:=n) (meet:=meet) htb hak hrlen HRLO.out);obtain rfl:=HNO.out hak;clear htb hak;rw [hrlen]at HU a0;go_wp2_with(go_at_call 221;refine(Qsj _ (rl.getD k []) _ HU.out (by rw [hrlen];exact hn0) (by rw [hrlen];exact hn65)).mono ?_;rintro e w5 ⟨u5,rfl,hm5,hx5⟩;have HM5:=Qq (Xk hm5 HX.out.size);have HX5:=Qq (HX.out.trans hx5);clear hm5 hx5);go_roundw
    case rel=>exact⟨k+1,by go_num,by omega,Qq ⟨HX5.out,by rw [HNX.out];exact HM5.out,fun h=>by rw [HAK.out]at h;cases h⟩⟩
    case measure=>simp [intOf];omega
   have HNX:=Qq (Qlz (rl:=rl) (n:=n) (meet:=meet) htb hak);have hol:=Qz1 (rl:=rl) (n:=n) (meet:=meet) hak;obtain⟨o,ho⟩:∃o,o=Nm rl gn meet n k:=⟨_,rfl⟩;rw [<-ho]at HM HNX hol;have HOW:=Qq (show ∀s∈o,Zj s by
    rw [ho];unfold Nm;rw [hak];intro s hs;obtain⟨i,_,rfl⟩:=List.mem_map.1 hs;exact Qlq (fun s a h=>Qlv HRO.out h) _ _ (by unfold Qge;cases meet;exact(show(0:Nat) < _ by omega);exact Fb hn65))
   obtain⟨g0,cap,rfl,_,hgb,_,_,_,_⟩:=HM.out.slice (by rw [hol];exact hn0);rw [hol]at HM⊢;clear htb hak ho;obtain⟨r0,hr0⟩:∃r,r=rl.getD k []:=⟨_,rfl⟩;have hr0l:r0.length=n:=by rw [hr0];exact hrlen
   have HR0:=Qq hr0;rw [<-hr0]at HRW HNX HUA hrlen a0;rw [hrlen]at a0;clear hr0;obtain⟨wq,hwq⟩:∃v,v=wr:=⟨_,rfl⟩;subst hwq;go_wp2_with fail;clear e0 e1 e2 eb a0 al;have HXQ:=Qq (HX1.out.trans HX.out);go_loopw [45] (fun vi wr=>∃i:Nat,vi=.int .i64 (i:Int)/\i<=n/\Hid (Ext w1 wr/\Ext w wr/\Jz w1.heap.size wr (.slice (some ⟨g0,0,none⟩) n cap) (Db (fun x y=>if meet then x&&&y else x|||y) o r0 i))) (fun v _=>n - (intOf v).toNat)
   case atStart=>exact⟨0,rfl,Nat.zero_le _,Qq ⟨HX.out,HXQ.out,by rw [Qlo];exact HM.out⟩⟩
   case round =>
    obtain⟨i,rfl,hi,HREL⟩:=hrel;have HXI:=Qq HREL.out.1;have HXW:=Qq HREL.out.2.1;have HMI:=Qq HREL.out.2.2;clear HREL;by_cases hlt3:i < n
    ·have hi1:(i:Int) < (n:Int):=by omega
     obtain⟨-,cl,-,-,-,hcc,hff⟩:=HMI.out.at_ (by rw [Se,hol];exact hn0);have c0:=hcc i (by rw [Se,hol];exact hlt3);have f0:=hff i;rw [Qcp (by rw [hol];exact hlt3),if_neg (Nat.lt_irrefl _)]at c0;obtain⟨ud,rfl,hudl,huc⟩:=HUA.out i hlt3;have d0:=(HXW.out.cell (p:=ud.add i) (Qj hudl)).trans huc;have dl:(ud.add i).block < wr.heap.size:=by rw [Qp];exact Qy hudl HXW.out.size
     have HXWD:=Qq (Fd HOW.out i);have HYWD:=Qq (Fd HRW.out i);have HST:=Qq (Qlw (J:=fun x y=>if meet then x&&&y else x|||y) (o:=o) (r:=r0) (k:=i) (by rw [hol];exact hlt3));obtain⟨x,hx⟩:∃x,x=o.getD i 0:=⟨_,rfl⟩;obtain⟨y,hy⟩:∃y,y=r0.getD i 0:=⟨_,rfl⟩;rw [<-hx]at c0 HXWD HST;rw [<-hy]at d0 HYWD HST;obtain⟨z,hz⟩:∃z,z=(if meet then x&&&y else x|||y):=⟨_,rfl⟩;have HJZ:=Qq (show ∀W:World,Calls Tryz.prog g #[.int .u64 (x:Int),.int .u64 (y:Int)] W fun e w'=>e=.returned (.int .u64 (z:Int))/\W=w' from fun W=>by rw [hz];exact HJ.out W x y HXWD.out HYWD.out);have HSZ:=Qq (show(Db (fun x y=>if meet then x&&&y else x|||y) o r0 i).set i z=Db (fun x y=>if meet then x&&&y else x|||y) o r0 (i+1) by rw [hz];exact HST.out)
     clear hcc hff huc hx hy hz HST;go_upto_region 13 with(fail);refine Vb 13 (fun w'=>w'.cell? (⟨g0,i,none⟩)=some (.int .u64 (x:Int))/\w'.cell? (ud.add i)=some (.int .u64 (y:Int))) (by kernel_rfl) ⟨xd cl c0,xd dl d0⟩ (fun hHeld=> ?_);refine utk 0 hHeld ?_;refine utk 1 hHeld ?_;refine utk 2 hHeld ?_;refine utk 3 hHeld ?_;refine utk 4 hHeld ?_;refine utk 5 hHeld ?_;refine utk 6 hHeld ?_;refine utk 7 hHeld ?_;refine utk 8 hHeld ?_;refine utk 9 hHeld ?_;refine utk 10 hHeld ?_;refine Zs (rs:= [11]) (by kernel_rfl) (by simp) ?_;refine Za.cons rfl (fun K hK=> ?_) Za.nil;go_simp;refine(HJZ.out _).mono ?_
     rintro e w9 ⟨rfl,rfl⟩;go_wp2_with fail;refine hK.out _ _ ⟨xd cl c0,xd dl d0⟩ (fun hHeld=> ?_);clear hK K;refine Qb ?_;refine utk 12 hHeld ?_;refine Vk (by kernel_rfl) rfl (fun K hK=> ?_);go_simp;refine hK.out _ _ ?_;clear hK K;refine Qb ?_;refine Vv (by kernel_rfl) ?_ _;have HM9:=Qq (HMI.out.set (by rw [Se,hol]) i z);rw [HSZ.out]at HM9;have HX9:=Qq (HXI.out.setCell (p:=⟨g0,i,none⟩) hgb (.int .u64 ((z:Nat):Int)));have HW9:=Qq (HXW.out.setCell (p:=⟨g0,i,none⟩) (Qx HX1.out.size hgb) (.int .u64 ((z:Nat):Int)));clear c0 f0 d0 cl dl HXI HXW HMI;go_wp2_with fail;go_roundw
     case rel=>exact⟨i+1,by go_num,by omega,Qq ⟨HX9.out.drew,HW9.out.drew,HM9.out.ext (Qz.drew)⟩⟩
     case measure=>simp [intOf];omega
    obtain rfl:n=i:=by omega
    go_wp2_with fail;go_roundw
    case rel=>exact⟨k+1,by go_num,by omega,Qq ⟨HXI.out,by rw [<-HNX.out];exact HMI.out,fun h=>by rw [HAK.out]at h;cases h⟩⟩
    case measure=>simp [intOf];omega
  obtain rfl:rl.length=k:=by omega
  go_wp2_with fail;go_ret;exact⟨_,rfl,HX1.out.trans HX.out,by rw [<-HGA.out];exact Xk HM.out HX1.out.size⟩
theorem Qe2(W:World)(x y:Nat)(hx:Zj x)(hy:Zj y):Calls Tryz.prog 211 #[.int .u64 (x:Int),.int .u64 (y:Int)] W fun e w'=>e=.returned (.int .u64 ((if false then x&&&y else x|||y:Nat):Int))/\W=w':=by
 have HB:=Qq (Bd hx hy);clear hx hy;go_enter Tryz.func211,Tryz.ntmps211;go_wp2_with fail;go_ret;exact⟨by rw [<-HB.out] <;> rfl,rfl⟩
theorem Qc3(W:World)(x y:Nat)(hx:Zj x)(hy:Zj y):Calls Tryz.prog 210 #[.int .u64 (x:Int),.int .u64 (y:Int)] W fun e w'=>e=.returned (.int .u64 ((if true then x&&&y else x|||y:Nat):Int))/\W=w':=by
 have HB:=Qq (Mg hx hy);clear hx hy;go_enter Tryz.func210,Tryz.ntmps210;go_wp2_with fail;go_ret;exact⟨by rw [<-HB.out] <;> rfl,rfl⟩
theorem Qyp(v:Value)(md:Md)(gn:Nat)(w:World)(h:MdV w v md)(hok:md.ok)(hck:Zy md=0)(hg1:1<=gn)(hg:gn < 2^md.rel.length):
 Calls Tryz.prog 189 #[v,.int .i64 (gn:Int)] w fun e w'=>∃u,e=.returned u/\Ext w w'/\Ji w' u ((List.range md.n.toNat).map (Vt md.rel gn false md.n.toNat)):=by
 have H:=Qq h;have HOK:=Qq hok;have HC:=Qq hck;have eg:∀args w,(callFunc 211 args).run Tryz.prog w=.ok (.enter 211 args) w:=fun _ _=>rfl
 have HG:=Qq (fun(w:World) (h:MdV w v md)=>Qzz false 211 eg v md gn w h hok hck hg1 hg Qe2);obtain⟨vv,vr,rfl,hv,hr⟩:=h;clear hok hck eg hv hr;go_enter Tryz.func189,Tryz.ntmps189;go_wp2_with(go_at_call 209;refine(HG.out _ (H.out.ext ((Ext.refl w).alloc _))).mono ?_;rintro e w1 ⟨u,rfl,hx,hm⟩;have HX:=Qq (((Ext.refl w).alloc _).trans hx);have HM:=Qq hm;clear hx hm);go_ret;exact⟨_,rfl,HX.out,HM.out.u64s⟩
theorem Qmk(v:Value)(md:Md)(gn:Nat)(w:World)(h:MdV w v md)(hok:md.ok)(hck:Zy md=0)(hg1:1<=gn)(hg:gn < 2^md.rel.length):
 Calls Tryz.prog 188 #[v,.int .i64 (gn:Int)] w fun e w'=>∃u,e=.returned u/\Ext w w'/\Ji w' u ((List.range md.n.toNat).map (Vt md.rel gn true md.n.toNat)):=by
 have H:=Qq h;have HOK:=Qq hok;have HC:=Qq hck;have eg:∀args w,(callFunc 210 args).run Tryz.prog w=.ok (.enter 210 args) w:=fun _ _=>rfl
 have HG:=Qq (fun(w:World) (h:MdV w v md)=>Qzz true 210 eg v md gn w h hok hck hg1 hg Qc3);obtain⟨vv,vr,rfl,hv,hr⟩:=h;clear hok hck eg hv hr;go_enter Tryz.func188,Tryz.ntmps188;go_wp2_with(go_at_call 209;refine(HG.out _ (H.out.ext ((Ext.refl w).alloc _))).mono ?_;rintro e w1 ⟨u,rfl,hx,hm⟩;have HX:=Qq (((Ext.refl w).alloc _).trans hx);have HM:=Qq hm;clear hx hm);go_ret;exact⟨_,rfl,HX.out,HM.out.u64s⟩
end Go.Proofs.YtkmclcmnoicagaaGreatDoor
