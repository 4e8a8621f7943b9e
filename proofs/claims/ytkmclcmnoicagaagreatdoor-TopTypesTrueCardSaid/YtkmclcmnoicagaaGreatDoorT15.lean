/- What the functions on formulas come to on trees. -/
import Derived.Test.YtkmclcmnoicagaaGreatDoorT14
namespace Go.Proofs.YtkmclcmnoicagaaGreatDoor
set_option maxRecDepth 100000
set_option maxHeartbeats 128000000
theorem Qkw {f:List Nd}(h:check f=0):(Ql f).ok:=Qxp (Ja h) _ (by have:=(Zm h).1;omega)
theorem Ko {f:List Nd}(h:check f=0):Qg f=Qf (Ql f):=by
 rw [Qq3 h,Nl (Ja h) _ _ (by have:=(Zm h).1;omega)];rfl
theorem Fs {f:List Nd}(h:check f=0) {z:Nat}(hz:z < f.length):Jb f z=Qf (tr f z):=by
 unfold Jb;have e:(decide ((z:Int) < 0)||decide ((f.length:Int)<=(z:Int)))=false:=by simp;omega
 rw [h,e,Int.toNat_natCast,Nl (Ja h) _ _ hz];rfl
theorem Vc {f:List Nd}(h:check f=0):Ql (Qg f)=Ql f:=by
 rw [Ko h,Vf (Qkw h)]
theorem Gd {f:List Nd}(h:check f=0):Qg (Qg f)=Qg f:=by
 rw [Ko (Ky h),Vc h,Ko h]
theorem Qf2 {a b:List Nd}(ha:Wf a)(hb:Wf b):∀k,k < b.length->tr (a++b.map (Zr a.length)) (a.length+k)=tr b k:=by
 intro k
 induction k using Nat.strongRecOn with
 |_ k ih =>
  intro hk;obtain⟨n,hn⟩:∃n,b[k]?=some n:=⟨_,Qv hk⟩;obtain⟨hx,hy⟩:=hb k n hn;have hn':(a++b.map (Zr a.length))[a.length+k]?=some (Zr a.length n):=by
   rw [List.getElem?_append_right (by omega),Nat.add_sub_cancel_left,List.getElem?_map,hn];rfl
  rw [Vo (El ha hb) hn',Vo hb hn];have e0:(Zr a.length n).op=n.op:=rfl;have ehead:(Zr a.length n).head=n.head:=by
   unfold Nd.head Nd.with_ Zr;cases Qh n.op <;> cases Qc n.op <;> rfl
  unfold Yv;rw [e0,ehead];cases h2:Qc n.op
  ·cases h1:Qh n.op
   ·simp only [cond_false]
    congr 1
    unfold Zr;rw [h1,h2];rfl
   have:=hx h1;have e1:(Zr a.length n).x.toNat=a.length+n.x.toNat:=by simp only [Zr,h1,cond_true];omega
   rw [e1,ih _ (by omega) (by omega)];rfl
  have h1:=Vz h2;have:=hx h1;have:=hy h2;have e1:(Zr a.length n).x.toNat=a.length+n.x.toNat:=by simp only [Zr,h1,cond_true];omega
  have e2:(Zr a.length n).y.toNat=a.length+n.y.toNat:=by simp only [Zr,h2,cond_true];omega
  rw [e1,e2,ih n.x.toNat (by omega) (by omega),ih n.y.toNat (by omega) (by omega)];rfl
def Zp(t:Tr):List Nd:=bif decide (200 < (Qf t).length)then []else Qf t
theorem Xx {t:Tr}(h:(Qf t).length<=200):Zp t=Qf t:=by
 unfold Zp;rw [decide_eq_false (by omega)];rfl
theorem Kf {t:Tr}(h:200 < (Qf t).length):Zp t= []:=by
 unfold Zp;rw [decide_eq_true h];rfl
theorem Da:check []≠0:=by decide
def Nx(l:List Nd):List Nd:=bif decide (200 < (Zt l (l.length - 1) []).1.length)then []else(Zt l (l.length - 1) []).1
theorem Qzx {l:List Nd}(hw:Wf l)(h0:0 < l.length):Nx l=Zp (Ql l):=by
 unfold Nx Zp;rw [Nl hw _ _ (by omega)];rfl
theorem Qys(f:List Nd):f.map (Zr 0)=f:=by
 rw [show Zr 0=id from by funext m;unfold Zr;cases Qh m.op <;> cases Qc m.op <;> simp];simp
theorem Hv {n:Nd} {f:List Nd}(hf:check f=0)(h1:Qh n.op=true)(h2:Qc n.op=false)(hh:Zn n):Jc n [f]=Zp (.one n.head (Ql f)):=by
 obtain⟨cw,cl,cp,_⟩:=Jf hf;unfold Jc;have e0: [f].any (fun o=>check o !=0)=false:=by simp [hf]
 rw [e0,cond_false];have eL:Fx [f] 0 [] n=(Qg f,{ n with x:=((Qg f).length:Int) - 1 }):=by
  simp only [Fx,Lt,List.nil_append,List.length_nil,Qys];rfl
 rw [eL];generalize hm:({ n with x:=((Qg f).length:Int) - 1 } :Nd)=m;have mo:m.op=n.op:=by rw [<-hm]
 have mx:m.x=((Qg f).length:Int) - 1:=by rw [<-hm]
 have mh:m.head=n.head:=by
  rw [<-hm];unfold Nd.head Nd.with_;simp [h1,h2]
 have hmh:Zn m:=by
  rw [<-hm];exact⟨hh.1,hh.2.1,hh.2.2.1,fun h=>by(rw [h1]at h;cases h),hh.2.2.2.2⟩
 have herr:Qo m (Qg f).length=0:=hmh.err (fun _=>by omega) (fun h=>by rw [mo,h2]at h;cases h);have hw:Wf (Qg f++ [m]):=Rs cw (fun _=>by omega) (fun h=>by rw [mo,h2]at h;cases h);have htr:tr (Qg f++ [m]) (Qg f).length=.one n.head (Ql f):=by
  rw [Vo hw (n:=m) (by simp)];unfold Yv;rw [mo,h1,h2,mh,mx];rw [show(((Qg f).length:Int) - 1).toNat=(Qg f).length - 1 by omega,Xg cw hw (List.prefix_append _ _) _ (by omega)];rw [show tr (Qg f) ((Qg f).length - 1)=Ql (Qg f)from rfl,Vc hf];rfl
 unfold Nb;have hfin:(Zt (Qg f++ [m]) (Qg f).length []).1=Qf (.one n.head (Ql f)):=by
  rw [Nl hw _ _ (by simp),htr];rfl
 simp only [herr,hfin];rfl
theorem Qhh {n:Nd} {f:List Nd}(hf:check f=0)(h1:Qh n.op=true)(h2:Qc n.op=false)(hh:Zn n) {m:Nd}(hm:m= { n with x:=(f.length:Int) - 1 }):Qo m f.length=0/\Wf (f++ [m])/\Nx (f++ [m])=Jc n [f]:=by
 have fw:=Ja hf;have fp:=(Zm hf).1;have mo:m.op=n.op:=by rw [hm]
 have mx:m.x=(f.length:Int) - 1:=by rw [hm]
 have mh:m.head=n.head:=by
  rw [hm];unfold Nd.head Nd.with_;simp [h1,h2]
 have hmh:Zn m:=by
  rw [hm];exact⟨hh.1,hh.2.1,hh.2.2.1,fun h=>by(rw [h1]at h;cases h),hh.2.2.2.2⟩
 have hw:Wf (f++ [m]):=Rs fw (fun _=>by omega) (fun h=>by rw [mo,h2]at h;cases h);refine⟨hmh.err (fun _=>by omega) (fun h=>by rw [mo,h2]at h;cases h),hw,?_⟩;rw [Qzx hw (by simp),Hv hf h1 h2 hh]
 congr 1
 unfold Ql;rw [List.length_append,List.length_singleton,Nat.add_sub_cancel,Vo hw (n:=m) (by simp)];unfold Yv;rw [mo,h1,h2,mh,mx];rw [show((f.length:Int) - 1).toNat=f.length - 1 by omega,Xg fw hw (List.prefix_append _ _) _ (by omega)];rfl
theorem Qj6 {n:Nd} {f g:List Nd}(hf:check f=0)(hg:check g=0)(h1:Qh n.op=true)(h2:Qc n.op=true)(hh:Zn n):Jc n [f,g]=Zp (.two n.head (Ql f) (Ql g)):=by
 obtain⟨cw,cl,cp,_⟩:=Jf hf;obtain⟨dw,dl,dp,_⟩:=Jf hg;unfold Jc;have e0: [f,g].any (fun o=>check o !=0)=false:=by simp [hf,hg]
 rw [e0,cond_false];have eL:Fx [f,g] 0 [] n=(Qg f++(Qg g).map (Zr (Qg f).length),{ n with x:=((Qg f).length:Int) - 1,y:=((Qg f).length:Int)+(Qg g).length - 1 }):=by
  simp only [Fx,Lt,List.nil_append,List.length_nil,Qys];simp
 rw [eL];have hFw:=El cw dw;have hFl:(Qg f++(Qg g).map (Zr (Qg f).length)).length=(Qg f).length+(Qg g).length:=by simp
 have hF1:tr (Qg f++(Qg g).map (Zr (Qg f).length)) ((Qg f).length - 1)=Ql f:=by
  rw [Xg cw hFw (List.prefix_append _ _) _ (by omega),show tr (Qg f) ((Qg f).length - 1)=Ql (Qg f)from rfl,Vc hf]
 have hF2:tr (Qg f++(Qg g).map (Zr (Qg f).length)) ((Qg f).length+(Qg g).length - 1)=Ql g:=by
  rw [show(Qg f).length+(Qg g).length - 1=(Qg f).length+((Qg g).length - 1) by omega,Qf2 cw dw _ (by omega),show tr (Qg g) ((Qg g).length - 1)=Ql (Qg g)from rfl,Vc hg]
 generalize Qg f++(Qg g).map (Zr (Qg f).length)=F at *;generalize hm:({ n with x:=((Qg f).length:Int) - 1,y:=((Qg f).length:Int)+(Qg g).length - 1 } :Nd)=m;have mo:m.op=n.op:=by rw [<-hm]
 have mx:m.x=((Qg f).length:Int) - 1:=by rw [<-hm]
 have my:m.y=((Qg f).length:Int)+(Qg g).length - 1:=by rw [<-hm]
 have mh:m.head=n.head:=by
  rw [<-hm];unfold Nd.head Nd.with_;simp [h1,h2]
 have hmh:Zn m:=by
  rw [<-hm];exact⟨hh.1,hh.2.1,hh.2.2.1,fun h=>by(rw [h1]at h;cases h),fun h=>by(rw [h2]at h;cases h)⟩
 have herr:Qo m F.length=0:=hmh.err (fun _=>by omega) (fun _=>by omega);have hw:Wf (F++ [m]):=Rs hFw (fun _=>by omega) (fun _=>by omega);have htr:tr (F++ [m]) F.length=.two n.head (Ql f) (Ql g):=by
  rw [Vo hw (n:=m) (by simp)];unfold Yv;rw [mo,h2,mh,mx,my];rw [show(((Qg f).length:Int) - 1).toNat=(Qg f).length - 1 by omega,Xg hFw hw (List.prefix_append _ _) _ (by omega),hF1];rw [show(((Qg f).length:Int)+(Qg g).length - 1).toNat=(Qg f).length+(Qg g).length - 1 by omega,Xg hFw hw (List.prefix_append _ _) _ (by omega),hF2];rfl
 unfold Nb;have hfin:(Zt (F++ [m]) F.length []).1=Qf (.two n.head (Ql f) (Ql g)):=by
  rw [Nl hw _ _ (by simp),htr];rfl
 simp only [herr,hfin];rfl
theorem Qtj {n:Nd} {f g:List Nd}(hf:check f=0)(hg:check g=0)(h1:Qh n.op=true)(h2:Qc n.op=true)(hh:Zn n) {m:Nd}(hm:m= { n with x:=(f.length:Int) - 1,y:=(f.length:Int)+g.length - 1 }):
 Qo m ((f.length:Int)+g.length)=0/\Wf (f++g.map (Zr f.length)++ [m])/\Nx (f++g.map (Zr f.length)++ [m])=Jc n [f,g]:=by
 have fw:=Ja hf;have gw:=Ja hg;have fp:=(Zm hf).1;have gp:=(Zm hg).1;rw [Qj6 hf hg h1 h2 hh];have hFw:=El fw gw;have hFl:(f++g.map (Zr f.length)).length=f.length+g.length:=by simp
 have hF1:tr (f++g.map (Zr f.length)) (f.length - 1)=Ql f:=by
  rw [Xg fw hFw (List.prefix_append _ _) _ (by omega)];rfl
 have hF2:tr (f++g.map (Zr f.length)) (f.length+g.length - 1)=Ql g:=by
  rw [show f.length+g.length - 1=f.length+(g.length - 1) by omega,Qf2 fw gw _ (by omega)];rfl
 generalize f++g.map (Zr f.length)=F at *;have mo:m.op=n.op:=by rw [hm]
 have mx:m.x=(f.length:Int) - 1:=by rw [hm]
 have my:m.y=(f.length:Int)+g.length - 1:=by rw [hm]
 have mh:m.head=n.head:=by
  rw [hm];unfold Nd.head Nd.with_;simp [h1,h2]
 have hmh:Zn m:=by
  rw [hm];exact⟨hh.1,hh.2.1,hh.2.2.1,fun h=>by(rw [h1]at h;cases h),fun h=>by(rw [h2]at h;cases h)⟩
 have hw:Wf (F++ [m]):=Rs hFw (fun _=>by omega) (fun _=>by omega);refine⟨by have:=hmh.err (a:=f.length+g.length) (fun _=>by omega) (fun _=>by omega);rw [<-this];congr 1,hw,?_⟩;rw [Qzx hw (by simp)]
 congr 1
 unfold Ql;rw [List.length_append,List.length_singleton,Nat.add_sub_cancel,Vo hw (n:=m) (by simp)];unfold Yv;rw [mo,h2,mh,mx,my];rw [show((f.length:Int) - 1).toNat=f.length - 1 by omega,Xg hFw hw (List.prefix_append _ _) _ (by omega),hF1];rw [show((f.length:Int)+g.length - 1).toNat=f.length+g.length - 1 by omega,Xg hFw hw (List.prefix_append _ _) _ (by omega),hF2];rfl
theorem Hy {n:Nd} {f:List Nd}(hf:check f≠0):Jc n [f]= []:=by
 unfold Jc;have e0: [f].any (fun o=>check o !=0)=true:=by simpa using hf
 rw [e0,cond_true]
theorem Lx {n:Nd} {f g:List Nd}(hf:check f≠0\/check g≠0):Jc n [f,g]= []:=by
 unfold Jc;have e0: [f,g].any (fun o=>check o !=0)=true:=by simp;exact hf
 rw [e0,cond_true]
def Can(l:List Nd):Prop:=l= []\/∃t:Tr,t.ok/\l=Qf t
theorem Ro(n:Nd):Qf (.leaf n)= [n]:=by simp [Qf,ins,Zh]
theorem Rw {n:Nd}(h1:Qh n.op=false)(h2:Qc n.op=false)(hh:Zn n):Qo n 0=0/\Jc n []= [n]:=by
 have herr:Qo n 0=0:=hh.err (a:=0) (fun h=>by rw [h1]at h;cases h) (fun h=>by rw [h2]at h;cases h);refine⟨herr,?_⟩;have hw:Wf ([]++ [n]):=Rs Bb (fun h=>by rw [h1]at h;cases h) (fun h=>by rw [h2]at h;cases h);have hfin:(Zt ([]++ [n]) ([]:List Nd).length []).1= [n]:=by
  rw [Nl hw _ _ (by simp),Vo hw (n:=n) (by simp)];unfold Yv;rw [h1,h2];exact Ro n
 unfold Jc;show Nb [] n= [n];unfold Nb;have e:Qo n (([]:List Nd).length:Int)=0:=herr;simp only [hfin,e];rfl
theorem Qyb(k:Int)(h:k=1\/k=2\/k=4\/k=5\/k=6):Zn ⟨k,0,0,0,0,0⟩:=by
 rcases h with rfl|rfl|rfl|rfl|rfl <;> exact⟨by decide,by decide,by decide,fun _=>rfl,fun _=>rfl⟩
theorem Zqo {n:Nd}(h:Zn n)(ho:n.op=3):Zn ⟨3,n.i,0,0,0,0⟩:=by
 obtain⟨_,_,h3,_,_⟩:=h;refine⟨rfl,by simp [Zv,Zk,Qe,Qw,Zz],?_,fun _=>rfl,fun _=>rfl⟩;unfold Jg at h3⊢;rw [ho]at h3
 simpa [Qr,Zk,Qe,Qw,Zz]using h3
theorem Ij:Sf= [⟨1,0,0,0,0,0⟩]:=(Rw rfl rfl (Qyb 1 (by omega))).2
theorem Qyz:Tp= [⟨2,0,0,0,0,0⟩]:=(Rw rfl rfl (Qyb 2 (by omega))).2
def Zzf(x:Nd)(a b:List Nd):List Nd :=
 bif Qc x.op then Jc { x with x:=0,y:=0 } [a,b]else bif Qh x.op then Jc { x with x:=0,y:=0 } [a]else [{ x with x:=0,y:=0 }]
open Go.RowKit
theorem Qkh(v:Value)(l:List Nd)(w:World)(h:Fml w v l)(hw:Wf l)(h0:0 < l.length)(hl:l.length<=401):
 Calls Tryz.prog 129 #[v] w fun e w'=>∃u,e=.returned u/\Jl w w' u (Nx l):=by
 have H:=Qq h;have HW:=Qq hw;obtain⟨⟨A,c,rfl,hat⟩,hok⟩:=h;have HAT:=Qq hat;have hcl:=hat.1;have hcm:=hat.2.1;unfold maxLen at hcm;obtain⟨i3,hi3,hz30,hz31,hz32⟩:=info_parts Iq;clear hat hok hw;go_enter Tryz.func129,Tryz.ntmps129;go_wp2_with fail;go_loopw [4] (fun i wr=>∃k:Nat,k<=l.length/\i=.int .i64 k/\Hid (∃vd,Qpy w k vd wr)) (fun i _=>l.length - (intOf i).toNat)
 case atStart=>exact⟨0,Nat.zero_le _,rfl,Qq ⟨.slice none 0 0,heap_alloc_new _ _,World.ownsRow_nil _ _ _ _,Qz.alloc _⟩⟩
 case round =>
  obtain⟨k,hk,rfl,hrs⟩:=hrel;obtain⟨vd,hblk0,hrow0,hext⟩:=hrs.out;have HBLK:=Qq hblk0;have HROW:=Qq hrow0;clear hblk0 hrow0 hrs;obtain⟨Ad,cd,rfl⟩:=Qt HROW.out;obtain⟨d0,d1,dfr,dlt⟩:=Ka HBLK.out;by_cases hlt2:k < l.length
  ·have hc3:k+1<=maxLen:=by unfold maxLen;omega
   have hc4:(k+1)*8<=140737488355328:=by omega
   have hfz:=dfr 1;have HNE:=Qq (Nk HROW.out);have hc5:∀X,w.heap.size+1<=(wr.alloc X).heap.size:=fun X=>by simp;omega
   obtain⟨xs,hxs⟩:∃xs,xs=(List.replicate k (-1:Int)).map (Value.int .i64):=⟨_,rfl⟩;rw [<-hxs]at HROW;have HXS:=Qq hxs;clear hxs;go_wp2_with(at_builtin;refine wpList_append_own_at _ rfl _ _ 36 rfl (w.heap.size+1) 3 i3 (.int .i64 0) 1 8 Tryz.underlying36 hi3 hz30 hz31 hz32 rfl (by decide) _ _ _ rfl (Zf HROW.out (Qz.alloc _)) _ 1 1 [.int .i64 (-1)] rfl rfl (Jq _ _ _ (by simp)) (fun u hu=>by rw [List.mem_singleton.1 hu];rfl) hc3 hc4 (hc5 _) ?_);intro v' w4 hown4 hgrow4 _ hat4;obtain⟨A4,c4,rfl⟩:=Qt hown4;have HROW4:=Qq hown4;have kb:=Qkt HBLK.out HNE.out (Qz.alloc _) hgrow4
   have HX4:=Qq ((Ext.alloc hext _).grown hgrow4 (fun g hg=>by have:=(HROW.out.lt g hg).1;omega));have HNE4:=Qq (Nk hown4);obtain⟨q0,q1,qfr,qlt⟩:=Ka kb;have qf1:=qfr 1;have KB:=Qq kb;clear hown4 hgrow4 hat4 kb d0 d1 dfr dlt hfz;go_wp2_with fail;go_roundw
   case rel=>exact⟨k+1,by omega,by go_num,Qq (Qfa KB.out HROW4.out HNE4.out HX4.out HXS.out)⟩
   case measure=>simp [intOf];omega
  obtain rfl:l.length=k:=by omega
  have HRUN:=Qq (Qft (bw:=w.heap.size) (W0:=w) (A:=A) (c:=c) (vd:=.slice Ad l.length cd) HW.out H.out.2 (by omega) (l.length - 1) (by omega))
  have HINV:Hid (Um w.heap.size w wr A c l [] (List.replicate l.length (-1)) (.slice none 0 0) (.slice Ad l.length cd)):=
   Qq ⟨hext,HAT.out,HBLK.out,World.ownsRow_nil _ _ _ _,Xk HROW.out (Nat.le_succ _),⟨by simp,fun i hi=> .inl (by simp [hi])⟩,Nat.le_refl _,by simp⟩
  have hz:((l.length - 1:Nat):Int)=(l.length:Int) - 1:=by omega
  rw [hz]at HRUN;go_wp2_with fail;refine(HRUN.out _ _ _ _ HINV.out (Mz l)).mono ?_;rw [<-hz,Int.toNat_natCast];rintro e w5 ⟨vo5,d5,rfl,hinv,hst⟩;obtain⟨q0,q1,qfr,qlt⟩:=Ka hinv.blk;have HS:Hid (Nx l=bif decide (200 < (Zt l (l.length - 1) []).1.length)then []else(Zt l (l.length - 1) []).1):=Qq rfl;have HM:=Qq (show Jl w w5 vo5 (Zt l (l.length - 1) []).1 from⟨hinv.row,hinv.oks,hinv.below⟩);obtain⟨A6,c6,rfl⟩:=Qt hinv.row;clear hinv hst hz;generalize (Zt l (l.length - 1) []).1=o at *;by_cases hlong:200 < o.length
  ·have HR:=Qq (show Nx l= [] by rw [HS.out,decide_eq_true hlong];rfl);go_wp2_with fail;go_ret;exact⟨_,rfl,by rw [HR.out];exact(Jl.none_ _).after HM.out.2.2⟩
  have HR:=Qq (show Nx l=o by rw [HS.out,decide_eq_false hlong];rfl);go_wp2_with fail;go_ret;exact⟨_,rfl,by rw [HR.out];exact HM.out⟩
theorem Ts {w W w4:World} {b:Nat} {o:Obj} {v:Value}(hb:w.heap[b]?=some o)(hne:v.ownBlock≠some b)(he:Ext w W)(hg:W.grownBy w4 v.ownBlock):w4.heap[b]?=some o :=
 ((hg.block b (Qy (Qm hb) he.size) (fun e=>hne e.symm)).trans (he.block (Qm hb))).trans hb
theorem Qvs(x:Nd)(w:World)(hx:Zn x)(hxo:x.ok)(h1:Qh x.op=false)(h2:Qc x.op=false):
 Calls Tryz.prog 112 #[x.val] w fun e w'=>∃u,e=.returned u/\Jl w w' u [x]:=by
 have HE:=Qq (Rw h1 h2 hx).1;have HXO:=Qq hxo;obtain⟨o,i,e,g,p,q⟩:=x;unfold Nd.val;clear hx hxo h1 h2;go_enter Tryz.func112,Tryz.ntmps112;go_wp2_with fail;refine(Nv ⟨o,i,e,g,p,q⟩ _ _).mono ?_;rintro e1 w1 ⟨rfl,hb⟩;rw [HE.out];have HBX:Hid (w1.heap[w.heap.size]?=some (.cells #[.int .i64 o,.int .i64 i,.int .i64 e,.int .i64 g,.int .i64 p,.int .i64 q] 71 (0,0))):=Qq ((hb.block (by simp)).trans (heap_alloc_new _ _));have HX:=Qq (Ext.trans (Qz.alloc _) hb);obtain⟨⟨d0,d1,d2,d3,d4,d5⟩,dfr,dlt⟩:=Yx HBX.out;clear hb;go_wp2_with fail;go_ret;exact⟨_,rfl,⟨by simp [Nd.cells],.inr ⟨w1.heap.size,1,_,rfl,HX.out.size,heap_alloc_new _ _,Nat.le_refl _,by unfold maxLen;omega,by simp,by simp [Nd.cells]⟩⟩,by simpa using HXO.out,HX.out.alloc _⟩
theorem Qm3(x:Nd)(v:Value)(f:List Nd)(w:World)(hx:Zn x)(hxo:x.ok)(h1:Qh x.op=true)(h2:Qc x.op=false)(h:Fml w v f):
 Calls Tryz.prog 58 #[x.val,v] w fun e w'=>∃u,e=.returned u/\Jl w w' u (Jc x [f]):=by
 have H:=Qq h;obtain⟨⟨A,c,rfl,hat⟩,hok⟩:=h;have hcl:=hat.1;have hcm:=hat.2.1;unfold maxLen at hcm;have HREAD:=Qq hat.2.2;obtain⟨i0,hi0,hz0',hz1',hz2'⟩:=info_parts Qy2;clear hat hok;by_cases hc:check f=0
 ·have HC:=Qq hc;have HUN:=Qq (Qhh hc h1 h2 hx (m:= { x with x:=(f.length:Int) - 1 }) rfl);obtain⟨hp0,hl200,_⟩:=Zm hc;have HXO:=Qq hxo;obtain⟨o,i,e,g,p,q⟩:=x;unfold Nd.val;clear hc hx hxo h1 h2;go_enter Tryz.func58,Tryz.ntmps58;go_wp2_with fail;refine(Vj _ f _ (H.out.1.ext (Qz.alloc _))).mono ?_;rintro e1 w1 ⟨rfl,hb⟩;rw [HC.out];have HX1:=Qq (Ext.trans ((Ext.refl w).alloc _) hb);have HBX:Hid (w1.heap[w.heap.size]?=some (.cells #[.int .i64 o,.int .i64 i,.int .i64 e,.int .i64 g,.int .i64 p,.int .i64 q] 71 (0,0))):=Qq ((hb.block (by simp)).trans (heap_alloc_new _ _));obtain⟨⟨d0,d1,d2,d3,d4,d5⟩,dfr,dlt⟩:=Yx HBX.out
  have hfz:=dfr 4;clear hb;go_wp2_with fail;refine(Nv ⟨o,i,e,g,(f.length:Int) - 1,q⟩ _ _).mono ?_;rintro e1 w2 ⟨rfl,hb⟩;rw [HUN.out.1];have HX2:=Qq (Ext.trans (HX1.out.setCell (p:=⟨w.heap.size,4,none⟩) (Nat.le_refl _) (.int .i64 ((f.length:Int) - 1))) hb);have HBX2:Hid (w2.heap[w.heap.size]?=some (.cells #[.int .i64 o,.int .i64 i,.int .i64 e,.int .i64 g,.int .i64 ((f.length:Int) - 1),.int .i64 q] 71 (0,0))):=Qq ((hb.block (by simp [World.setCell];exact dlt)).trans (by simp only [World.setCell,Array.getElem?_modify,HBX.out,if_true,Option.map_some];simp));clear hb d0 d1 d2 d3 d4 d5 dfr dlt hfz
  go_wp2_with fail;go_loopw [5,6] (fun v5 i5 wr=>∃k:Nat,k<=f.length/\i5=.int .i64 k/\Hid (wr.ownsRow (w.heap.size+1) 71 6 v5 k ((f.take k).flatMap Nd.cells))/\Hid (wr.heap[w.heap.size]?=some (.cells #[.int .i64 o,.int .i64 i,.int .i64 e,.int .i64 g,.int .i64 ((f.length:Int) - 1),.int .i64 q] 71 (0,0)))/\Ext w wr) (fun _ i _=>f.length - (intOf i).toNat)
  case atStart=>exact⟨0,Nat.zero_le _,rfl,Qq (by simpa using World.ownsRow_nil _ _ _ _),HBX2,HX2.out⟩
  case round =>
   obtain⟨k,hk,rfl,HROW,HBK,hext⟩:=hrel;obtain⟨A5,c5,rfl⟩:=Qt HROW.out;have HNE:=Qq (Nk HROW.out);by_cases hlt:k < f.length
   ·obtain⟨a,ha⟩:∃a,f[k]?=some a:=⟨_,Qv hlt⟩;obtain⟨ad,rfl,hb1,hc1⟩:=HREAD.out (by intro e;rw [e]at hlt;simp at hlt);obtain⟨a0,a1,a2,a3,a4,a5⟩:=(hc1 k a ha).keep fun p hp=>hext.cell (p:=p) (by rw [hp,Qp];exact hb1)
    obtain⟨xs,hxs⟩:∃xs,xs=(f.take k).flatMap Nd.cells:=⟨_,rfl⟩;rw [<-hxs]at HROW;have HXS:=Qq hxs;have HTK:Hid (xs++a.cells=(f.take (k+1)).flatMap Nd.cells):=Qq (by rw [hxs,Yh ha,List.flatMap_append];simp);have hc3:k+1<=maxLen:=by unfold maxLen;omega
    have hc4:(k+1)*48<=140737488355328:=by omega
    have hc5:∀X,w.heap.size+1<=(wr.alloc X).heap.size:=fun X=>by have:=hext.size;simp;omega
    clear hxs hc1 ha;go_wp2_with(at_builtin;refine wpList_append_own_at _ rfl _ _ 22 rfl (w.heap.size+1) 71 i0 Nd.zero.val 6 48 Tryz.underlying22 hi0 hz0' hz1' hz2' rfl (by decide) _ _ _ rfl (Zf HROW.out (Qz.alloc _)) _ 1 1 a.cells rfl rfl (Jq _ _ _ rfl) (Fw a) hc3 hc4 (hc5 _) ?_);intro v' w4 hown4 hgrow4 _ hat4;obtain⟨A4,c4,rfl⟩:=Qt hown4;have HROW4:Hid (w4.ownsRow (w.heap.size+1) 71 6 (.slice A4 (k+1) c4) (k+1) ((f.take (k+1)).flatMap Nd.cells)):=Qq (by rw [<-HTK.out];exact hown4);have HBK4:=Qq (Ts HBK.out HNE.out (Qz.alloc _) hgrow4);have HX4:=Qq ((Ext.alloc hext _).grown hgrow4 (fun g hg=>by have:=(HROW.out.lt g hg).1;omega))
    clear hown4 hgrow4 hat4;go_wp2_with fail;go_roundw
    case rel=>exact⟨k+1,by omega,by go_num,HROW4,HBK4,HX4.out⟩
    case measure=>simp [intOf];omega
   obtain rfl:f.length=k:=by omega
   obtain⟨⟨d0,d1,d2,d3,d4,d5⟩,dfr,dlt⟩:=Yx HBK.out;rw [List.take_of_length_le (Nat.le_refl _)]at HROW;obtain⟨xs,hxs⟩:∃xs,xs=f.flatMap Nd.cells:=⟨_,rfl⟩;rw [<-hxs]at HROW;have HXS:=Qq hxs;have hc3:f.length+1<=maxLen:=by unfold maxLen;omega
   have hc4:(f.length+1)*48<=140737488355328:=by omega
   have hc5:∀X,w.heap.size+1<=(wr.alloc X).heap.size:=fun X=>by have:=hext.size;simp;omega
   obtain⟨m,hm⟩:∃m:Nd,m=⟨o,i,e,g,(f.length:Int) - 1,q⟩:=⟨_,rfl⟩;have HMX:=Qq (show m.cells= [.int .i64 o,.int .i64 i,.int .i64 e,.int .i64 g,.int .i64 ((f.length:Int) - 1),.int .i64 q] by rw [hm];rfl);have HMO:Hid (m.ok):=Qq (by obtain⟨x1,x2,x3,x4,x5,x6⟩:=HXO.out;rw [hm];exact⟨x1,x2,x3,x4,⟨by show(-9223372036854775808:Int)<=(f.length:Int) - 1;omega,by show(f.length:Int) - 1<=9223372036854775807;omega⟩,x6⟩);have HU:Hid (Qo m f.length=0/\Wf (f++ [m])/\Nx (f++ [m])=Jc ⟨o,i,e,g,p,q⟩ [f]):=Qq (by rw [hm];exact HUN.out);clear hxs hm HUN;go_wp2_with(at_builtin;refine wpList_append_own_at _ rfl _ _ 22 rfl (w.heap.size+1) 71 i0 Nd.zero.val 6 48 Tryz.underlying22 hi0 hz0' hz1' hz2' rfl (by decide) _ _ _ rfl (Zf HROW.out (Qz.alloc _)) _ 1 1 [.int .i64 o,.int .i64 i,.int .i64 e,.int .i64 g,.int .i64 ((f.length:Int) - 1),.int .i64 q] rfl rfl (Jq _ _ _ rfl) (by rw [<-HMX.out];exact Fw m) hc3 hc4 (hc5 _) ?_)
   intro v' w4 hown4 hgrow4 _ hat4;have HROW4:Hid (w4.ownsRow (w.heap.size+1) 71 6 v' (f++ [m]).length ((f++ [m]).flatMap Nd.cells)):=Qq (by rw [HXS.out,<-HMX.out]at hown4;simpa using hown4);have HX4:=Qq ((Ext.alloc hext _).grown hgrow4 (fun g hg=>by have:=(HROW.out.lt g hg).1;omega));obtain⟨A4,c4,rfl⟩:=Qt hown4;have HFM:Hid (Fml w4 (.slice A4 (f.length+1) c4) (f++ [m])):=Qq ⟨Sv HROW4.out,fun n hn=>by
    rcases List.mem_append.1 hn with hn|hn
    ·exact H.out.2 n hn
    rw [List.mem_singleton.1 hn];exact HMO.out⟩
   clear hown4 hgrow4 hat4;go_wp2_with fail;refine(Qkh _ (f++ [m]) _ HFM.out HU.out.2.1 (by simp) (by simp;omega)).mono ?_;rintro e1 w5 ⟨u5,rfl,hm5⟩;rw [HU.out.2.2]at hm5;have HM5:=Qq (hm5.before HX4.out);obtain⟨A8,c8,rfl⟩:=Qt hm5.1;clear hm5;go_wp2_with fail;go_ret;exact⟨_,rfl,HM5.out⟩
 have HB0:=Qq (Hy (n:=x) hc);have hcb:(check f !=0)=true:=by simpa using hc
 obtain⟨o,i,e,g,p,q⟩:=x;unfold Nd.val;clear hc hx hxo h1 h2;go_enter Tryz.func58,Tryz.ntmps58;go_wp2_with fail;refine(Vj _ f _ (H.out.1.ext (Qz.alloc _))).mono ?_;rintro e1 w1 ⟨rfl,hb⟩;have HX1:=Qq (Ext.trans ((Ext.refl w).alloc _) hb);clear hb;go_wp2_with fail;go_ret;exact⟨_,rfl,by rw [HB0.out];exact(Jl.none_ _).after HX1.out⟩
theorem Qnc(x:Nd)(v1 v2:Value)(f g:List Nd)(w:World)(hx:Zn x)(hxo:x.ok)(h1:Qh x.op=true)(h2:Qc x.op=true)(hf:Fml w v1 f)(hg:Fml w v2 g):
 Calls Tryz.prog 111 #[x.val,v1,v2] w fun e w'=>∃u,e=.returned u/\Jl w w' u (Jc x [f,g]):=by
 have H:=Qq hf;have HG:=Qq hg;obtain⟨⟨A,c,rfl,hat⟩,hok⟩:=hf;obtain⟨⟨A2,c2,rfl,hat2⟩,hok2⟩:=hg;have hcl:=hat.1;have hcm:=hat.2.1;have hcl2:=hat2.1;have hcm2:=hat2.2.1;unfold maxLen at hcm hcm2;have HREAD:=Qq hat.2.2;have HREAD2:=Qq hat2.2.2;obtain⟨i0,hi0,hz0',hz1',hz2'⟩:=info_parts Qy2;clear hat hok hat2 hok2;by_cases hc:check f=0
 ·by_cases hcg:check g=0
  ·have HC:=Qq hc;have HCG:=Qq hcg;have HUN:=Qq (Qtj hc hcg h1 h2 hx (m:= { x with x:=(f.length:Int) - 1,y:=(f.length:Int)+g.length - 1 }) rfl);obtain⟨hp0,hl200,_⟩:=Zm hc;obtain⟨hq0,hm200,_⟩:=Zm hcg;have HWG:=Qq (Ja hcg);have HXO:=Qq hxo;obtain⟨o,i,e,k0,p,q⟩:=x;unfold Nd.val;clear hc hcg hx hxo h1 h2;go_enter Tryz.func111,Tryz.ntmps111;go_wp2_with fail;refine(Vj _ f _ (H.out.1.ext (Qz.alloc _))).mono ?_;rintro e1 w1 ⟨rfl,hb⟩;rw [HC.out];have HX1:=Qq (Ext.trans ((Ext.refl w).alloc _) hb);have HBX:Hid (w1.heap[w.heap.size]?=some (.cells #[.int .i64 o,.int .i64 i,.int .i64 e,.int .i64 k0,.int .i64 p,.int .i64 q] 71 (0,0))):=Qq ((hb.block (by simp)).trans (heap_alloc_new _ _))
   clear hb;go_wp2_with fail;refine(Vj _ g _ (HG.out.1.ext HX1.out)).mono ?_;rintro e1 w2 ⟨rfl,hb⟩;rw [HCG.out];have HX2:=Qq (Ext.trans HX1.out hb);have HBX2:Hid (w2.heap[w.heap.size]?=some (.cells #[.int .i64 o,.int .i64 i,.int .i64 e,.int .i64 k0,.int .i64 p,.int .i64 q] 71 (0,0))):=Qq ((hb.block (Qm HBX.out)).trans HBX.out);clear hb;go_wp2_with fail;go_loopw [7,8] (fun v5 i5 wr=>∃k:Nat,k<=f.length/\i5=.int .i64 k/\Hid (wr.ownsRow (w.heap.size+1) 71 6 v5 k ((f.take k).flatMap Nd.cells))/\Hid (wr.heap[w.heap.size]?=some (.cells #[.int .i64 o,.int .i64 i,.int .i64 e,.int .i64 k0,.int .i64 p,.int .i64 q] 71 (0,0)))/\Ext w wr) (fun _ i _=>f.length - (intOf i).toNat)
   case atStart=>exact⟨0,Nat.zero_le _,rfl,Qq (by simpa using World.ownsRow_nil _ _ _ _),HBX2,HX2.out⟩
   case round =>
    obtain⟨k,hk,rfl,HROW,HBK,hext⟩:=hrel;obtain⟨A5,c5,rfl⟩:=Qt HROW.out;have HNE:=Qq (Nk HROW.out);by_cases hlt:k < f.length
    ·obtain⟨a,ha⟩:∃a,f[k]?=some a:=⟨_,Qv hlt⟩;obtain⟨ad,rfl,hb1,hc1⟩:=HREAD.out (by intro e;rw [e]at hlt;simp at hlt);obtain⟨a0,a1,a2,a3,a4,a5⟩:=(hc1 k a ha).keep fun p hp=>hext.cell (p:=p) (by rw [hp,Qp];exact hb1)
     obtain⟨xs,hxs⟩:∃xs,xs=(f.take k).flatMap Nd.cells:=⟨_,rfl⟩;rw [<-hxs]at HROW;have HTK:Hid (xs++a.cells=(f.take (k+1)).flatMap Nd.cells):=Qq (by rw [hxs,Yh ha,List.flatMap_append];simp);have hc3:k+1<=maxLen:=by unfold maxLen;omega
     have hc4:(k+1)*48<=140737488355328:=by omega
     have hc5:∀X,w.heap.size+1<=(wr.alloc X).heap.size:=fun X=>by have:=hext.size;simp;omega
     clear hxs hc1 ha;go_wp2_with(at_builtin;refine wpList_append_own_at _ rfl _ _ 22 rfl (w.heap.size+1) 71 i0 Nd.zero.val 6 48 Tryz.underlying22 hi0 hz0' hz1' hz2' rfl (by decide) _ _ _ rfl (Zf HROW.out (Qz.alloc _)) _ 1 1 a.cells rfl rfl (Jq _ _ _ rfl) (Fw a) hc3 hc4 (hc5 _) ?_);intro v' w4 hown4 hgrow4 _ hat4;obtain⟨A4,c4,rfl⟩:=Qt hown4;have HROW4:Hid (w4.ownsRow (w.heap.size+1) 71 6 (.slice A4 (k+1) c4) (k+1) ((f.take (k+1)).flatMap Nd.cells)):=Qq (by rw [<-HTK.out];exact hown4);have HBK4:=Qq (Ts HBK.out HNE.out (Qz.alloc _) hgrow4);have HX4:=Qq ((Ext.alloc hext _).grown hgrow4 (fun g hg=>by have:=(HROW.out.lt g hg).1;omega))
     clear hown4 hgrow4 hat4;go_wp2_with fail;go_roundw
     case rel=>exact⟨k+1,by omega,by go_num,HROW4,HBK4,HX4.out⟩
     case measure=>simp [intOf];omega
    obtain rfl:f.length=k:=by omega
    rw [List.take_of_length_le (Nat.le_refl _)]at HROW;have HRW0:Hid (wr.ownsRow (w.heap.size+1) 71 6 (.slice A5 f.length c5) (f.length+0) ((f++(g.take 0).map (Zr f.length)).flatMap Nd.cells)):=Qq (by simpa using HROW.out);have HEXT:=Qq hext;clear HROW HNE hext;obtain⟨wq,hwq⟩:∃wq:World,wq=wr:=⟨_,rfl⟩;rw [<-hwq]at HRW0 HBK HEXT⊢;clear hwq;go_wp2_with fail;go_loopw [7,9] (fun v5 i5 wr=>∃j:Nat,j<=g.length/\i5=.int .i64 j/\Hid (wr.ownsRow (w.heap.size+1) 71 6 v5 (f.length+j) ((f++(g.take j).map (Zr f.length)).flatMap Nd.cells))/\Hid (wr.heap[w.heap.size]?=some (.cells #[.int .i64 o,.int .i64 i,.int .i64 e,.int .i64 k0,.int .i64 p,.int .i64 q] 71 (0,0)))/\Ext w wr) (fun _ i _=>g.length - (intOf i).toNat)
    case atStart=>exact⟨0,Nat.zero_le _,rfl,HRW0,HBK,HEXT.out⟩
    case round =>
     obtain⟨j,hj,rfl,HROW2,HBK2,hext⟩:=hrel;obtain⟨A6,c6,rfl⟩:=Qt HROW2.out;have HNE:=Qq (Nk HROW2.out);by_cases hlt2:j < g.length
     ·obtain⟨a,ha⟩:∃a,g[j]?=some a:=⟨_,Qv hlt2⟩;obtain⟨adc,rfl,hbc,hcc2⟩:=HREAD2.out (by intro e;rw [e]at hlt2;simp at hlt2);obtain⟨a0,a1,a2,a3,a4,a5⟩:=(hcc2 j a ha).keep fun p hp=>hext.cell (p:=p) (by rw [hp,Qp];exact hbc)
      obtain⟨xs,hxs⟩:∃xs,xs=(f++(g.take j).map (Zr f.length)).flatMap Nd.cells:=⟨_,rfl⟩;rw [<-hxs]at HROW2;have HXS:=Qq hxs;clear hxs;have hxy:=HWG.out j a ha;have HTK:=Qq (Yh ha);have hc3:f.length+j+1<=maxLen:=by unfold maxLen;omega
      have hc4:(f.length+j+1)*48<=140737488355328:=by omega
      have hxb:Qh a.op=true->0<=a.x/\a.x < 200:=fun e=>by have:=hxy.1 e;omega
      have hyb:Qc a.op=true->0<=a.y/\a.y < 200:=fun e=>by have:=hxy.2 e;omega
      have HZ:=Qq hext.size;clear hcc2 hxy ha;rcases Qf8 a.op with⟨hux,huy⟩|⟨hux,huy⟩|⟨hux,huy⟩
      ·
       have HUX:=Qq hux;have HUY:=Qq huy
       have HN2:Hid (xs++ [.int .i64 a.op,.int .i64 a.i,.int .i64 a.e,.int .i64 a.g,.int .i64 (a.x),.int .i64 (a.y)]=(f++(g.take (j+1)).map (Zr f.length)).flatMap Nd.cells):=
        Qq (by rw [HXS.out,HTK.out,List.map_append,<-List.append_assoc,List.flatMap_append];simp [Zr,hux,huy,Nd.cells])
       clear hux huy hxb hyb;go_wp2_with(first|(go_at_call 103;refine(Bq HUX.out _).mono ?_;rintro e1 w5 ⟨rfl,rfl⟩)|(go_at_call 104;refine(Bz HUY.out _).mono ?_;rintro e1 w5 ⟨rfl,rfl⟩)|(at_builtin;refine wpList_append_own_at _ rfl _ _ 22 rfl (w.heap.size+1) 71 i0 Nd.zero.val 6 48 Tryz.underlying22 hi0 hz0' hz1' hz2' rfl (by decide) _ _ _ rfl (Zf HROW2.out ?hx) _ 1 1 [.int .i64 a.op,.int .i64 a.i,.int .i64 a.e,.int .i64 a.g,.int .i64 (a.x),.int .i64 (a.y)] rfl rfl ?c1 ?c2 hc3 hc4 ?c5 ?_))
       case hx=>repeat(first|exact Qz|apply Ext.alloc|apply Ext.drew|refine Ext.setCell ?_ (Nat.le_refl _) _)
       case c1=>exact Jq _ _ _ (by simp)
       case c2 =>
        intro u hu;simp only [List.mem_cons,List.mem_nil_iff,or_false]at hu;rcases hu with rfl|rfl|rfl|rfl|rfl|rfl <;> rfl
       case c5 =>
        have h1:=HZ.out;simp;omega
       intro v' w4 hown4 hgrow4 _ hat4;obtain⟨A4,c4,rfl⟩:=Qt hown4;have HROW4:Hid (w4.ownsRow (w.heap.size+1) 71 6 (.slice A4 (f.length+j+1) c4) (f.length+(j+1)) ((f++(g.take (j+1)).map (Zr f.length)).flatMap Nd.cells)):=Qq (by rw [<-HN2.out];exact hown4);have HBK4:=Qq (Ts HBK2.out HNE.out (by repeat(first|exact Qz|apply Ext.alloc|apply Ext.drew|refine Ext.setCell ?_ (Nat.le_refl _) _)) hgrow4);have HX4:=Qq (Ext.grown (a:=w) (by repeat(first|exact hext|apply Ext.alloc|apply Ext.drew|refine Ext.setCell ?_ HZ.out _)) hgrow4 (fun g hg=>by have:=(HROW2.out.lt g hg).1;omega));clear hown4 hgrow4 hat4
       go_wp2_with fail;go_roundw
       case rel=>exact⟨j+1,by omega,by go_num,HROW4,HBK4,HX4.out⟩
       case measure=>simp [intOf];omega
      ·
       obtain⟨bx0,bx1⟩:=hxb hux;have HUX:=Qq hux;have HUY:=Qq huy
       have HN2:Hid (xs++ [.int .i64 a.op,.int .i64 a.i,.int .i64 a.e,.int .i64 a.g,.int .i64 (a.x+(f.length:Int)),.int .i64 (a.y)]=(f++(g.take (j+1)).map (Zr f.length)).flatMap Nd.cells):=
        Qq (by rw [HXS.out,HTK.out,List.map_append,<-List.append_assoc,List.flatMap_append];simp [Zr,hux,huy,Nd.cells])
       clear hux huy hxb hyb;go_wp2_with(first|(go_at_call 103;refine(Bq HUX.out _).mono ?_;rintro e1 w5 ⟨rfl,rfl⟩)|(go_at_call 104;refine(Bz HUY.out _).mono ?_;rintro e1 w5 ⟨rfl,rfl⟩)|(at_builtin;refine wpList_append_own_at _ rfl _ _ 22 rfl (w.heap.size+1) 71 i0 Nd.zero.val 6 48 Tryz.underlying22 hi0 hz0' hz1' hz2' rfl (by decide) _ _ _ rfl (Zf HROW2.out ?hx) _ 1 1 [.int .i64 a.op,.int .i64 a.i,.int .i64 a.e,.int .i64 a.g,.int .i64 (a.x+(f.length:Int)),.int .i64 (a.y)] rfl rfl ?c1 ?c2 hc3 hc4 ?c5 ?_))
       case hx=>repeat(first|exact Qz|apply Ext.alloc|apply Ext.drew|refine Ext.setCell ?_ (Nat.le_refl _) _)
       case c1=>exact Jq _ _ _ (by simp)
       case c2 =>
        intro u hu;simp only [List.mem_cons,List.mem_nil_iff,or_false]at hu;rcases hu with rfl|rfl|rfl|rfl|rfl|rfl <;> rfl
       case c5 =>
        have h1:=HZ.out;simp;omega
       intro v' w4 hown4 hgrow4 _ hat4;obtain⟨A4,c4,rfl⟩:=Qt hown4;have HROW4:Hid (w4.ownsRow (w.heap.size+1) 71 6 (.slice A4 (f.length+j+1) c4) (f.length+(j+1)) ((f++(g.take (j+1)).map (Zr f.length)).flatMap Nd.cells)):=Qq (by rw [<-HN2.out];exact hown4);have HBK4:=Qq (Ts HBK2.out HNE.out (by repeat(first|exact Qz|apply Ext.alloc|apply Ext.drew|refine Ext.setCell ?_ (Nat.le_refl _) _)) hgrow4);have HX4:=Qq (Ext.grown (a:=w) (by repeat(first|exact hext|apply Ext.alloc|apply Ext.drew|refine Ext.setCell ?_ HZ.out _)) hgrow4 (fun g hg=>by have:=(HROW2.out.lt g hg).1;omega));clear hown4 hgrow4 hat4
       go_wp2_with fail;go_roundw
       case rel=>exact⟨j+1,by omega,by go_num,HROW4,HBK4,HX4.out⟩
       case measure=>simp [intOf];omega
      
      obtain⟨bx0,bx1⟩:=hxb hux;obtain⟨by0,by1⟩:=hyb huy;have HUX:=Qq hux;have HUY:=Qq huy
      have HN2:Hid (xs++ [.int .i64 a.op,.int .i64 a.i,.int .i64 a.e,.int .i64 a.g,.int .i64 (a.x+(f.length:Int)),.int .i64 (a.y+(f.length:Int))]=(f++(g.take (j+1)).map (Zr f.length)).flatMap Nd.cells):=
       Qq (by rw [HXS.out,HTK.out,List.map_append,<-List.append_assoc,List.flatMap_append];simp [Zr,hux,huy,Nd.cells])
      clear hux huy hxb hyb;go_wp2_with(first|(go_at_call 103;refine(Bq HUX.out _).mono ?_;rintro e1 w5 ⟨rfl,rfl⟩)|(go_at_call 104;refine(Bz HUY.out _).mono ?_;rintro e1 w5 ⟨rfl,rfl⟩)|(at_builtin;refine wpList_append_own_at _ rfl _ _ 22 rfl (w.heap.size+1) 71 i0 Nd.zero.val 6 48 Tryz.underlying22 hi0 hz0' hz1' hz2' rfl (by decide) _ _ _ rfl (Zf HROW2.out ?hx) _ 1 1 [.int .i64 a.op,.int .i64 a.i,.int .i64 a.e,.int .i64 a.g,.int .i64 (a.x+(f.length:Int)),.int .i64 (a.y+(f.length:Int))] rfl rfl ?c1 ?c2 hc3 hc4 ?c5 ?_))
      case hx=>repeat(first|exact Qz|apply Ext.alloc|apply Ext.drew|refine Ext.setCell ?_ (Nat.le_refl _) _)
      case c1=>exact Jq _ _ _ (by simp)
      case c2 =>
       intro u hu;simp only [List.mem_cons,List.mem_nil_iff,or_false]at hu;rcases hu with rfl|rfl|rfl|rfl|rfl|rfl <;> rfl
      case c5 =>
       have h1:=HZ.out;simp;omega
      intro v' w4 hown4 hgrow4 _ hat4;obtain⟨A4,c4,rfl⟩:=Qt hown4;have HROW4:Hid (w4.ownsRow (w.heap.size+1) 71 6 (.slice A4 (f.length+j+1) c4) (f.length+(j+1)) ((f++(g.take (j+1)).map (Zr f.length)).flatMap Nd.cells)):=Qq (by rw [<-HN2.out];exact hown4);have HBK4:=Qq (Ts HBK2.out HNE.out (by repeat(first|exact Qz|apply Ext.alloc|apply Ext.drew|refine Ext.setCell ?_ (Nat.le_refl _) _)) hgrow4);have HX4:=Qq (Ext.grown (a:=w) (by repeat(first|exact hext|apply Ext.alloc|apply Ext.drew|refine Ext.setCell ?_ HZ.out _)) hgrow4 (fun g hg=>by have:=(HROW2.out.lt g hg).1;omega));clear hown4 hgrow4 hat4
      go_wp2_with fail;go_roundw
      case rel=>exact⟨j+1,by omega,by go_num,HROW4,HBK4,HX4.out⟩
      case measure=>simp [intOf];omega
     obtain rfl:g.length=j:=by omega
     rw [List.take_of_length_le (Nat.le_refl _)]at HROW2;obtain⟨⟨d0,d1,d2,d3,d4,d5⟩,dfr,dlt⟩:=Yx HBK2.out;have hfz4:=dfr 4;have hfz5:=dfr 5;obtain⟨F,hF⟩:∃F,F=f++g.map (Zr f.length):=⟨_,rfl⟩;have HFL:Hid (F.length=f.length+g.length):=Qq (by rw [hF];simp);obtain⟨m,hm⟩:∃m:Nd,m=⟨o,i,e,k0,(f.length:Int) - 1,(f.length:Int)+g.length - 1⟩:=⟨_,rfl⟩;have HMX:=Qq (show m.cells= [.int .i64 o,.int .i64 i,.int .i64 e,.int .i64 k0,.int .i64 ((f.length:Int) - 1),.int .i64 ((f.length:Int)+g.length - 1)] by rw [hm];rfl);have HMO:Hid (m.ok):=Qq (by obtain⟨x1,x2,x3,x4,x5,x6⟩:=HXO.out;rw [hm];exact⟨x1,x2,x3,x4,⟨by show(-9223372036854775808:Int)<=(f.length:Int) - 1;omega,by show(f.length:Int) - 1<=9223372036854775807;omega⟩,⟨by show(-9223372036854775808:Int)<=(f.length:Int)+g.length - 1;omega,by show(f.length:Int)+g.length - 1<=9223372036854775807;omega⟩⟩)
     have HOKF:Hid (∀n∈F,n.ok):=Qq (fun n hn=>by
      rw [hF]at hn;rcases List.mem_append.1 hn with hn|hn
      ·exact H.out.2 n hn
      obtain⟨n',hn',rfl⟩:=List.mem_map.1 hn;obtain⟨kk,hkk⟩:=List.getElem?_of_mem hn';obtain⟨x1,x2,x3,x4,x5,x6⟩:=HG.out.2 n' hn';have hlk:=(List.getElem?_eq_some_iff.1 hkk).1;have hxy:=HWG.out kk n' hkk;refine⟨x1,x2,x3,x4,?_,?_⟩
      ·show Yj (bif Qh n'.op then n'.x+f.length else n'.x);cases hh:Qh n'.op
       ·exact x5
       have:=hxy.1 hh;exact⟨by show(-9223372036854775808:Int)<=n'.x+f.length;omega,by show n'.x+f.length<=(9223372036854775807:Int);omega⟩
      show Yj (bif Qc n'.op then n'.y+f.length else n'.y);cases hh:Qc n'.op
      ·exact x6
      have:=hxy.2 hh;exact⟨by show(-9223372036854775808:Int)<=n'.y+f.length;omega,by show n'.y+f.length<=(9223372036854775807:Int);omega⟩)
     have HU:Hid (Qo m ((f.length:Int)+g.length)=0/\Wf (F++ [m])/\Nx (F++ [m])=Jc ⟨o,i,e,k0,p,q⟩ [f,g]):=Qq (by rw [hm,hF];exact HUN.out);rw [<-hF]at HROW2;obtain⟨xs,hxs⟩:∃xs,xs=F.flatMap Nd.cells:=⟨_,rfl⟩;rw [<-hxs]at HROW2;have HXS:=Qq hxs;have HN0:=Qq HUN.out.1;clear hxs hm hF HUN;have hc3:f.length+g.length+1<=maxLen:=by unfold maxLen;omega
     have hc4:(f.length+g.length+1)*48<=140737488355328:=by omega
     go_wp2_with fail;refine(Nv ⟨o,i,e,k0,(f.length:Int) - 1,(f.length:Int)+g.length - 1⟩ _ _).mono ?_;rintro e1 w3 ⟨rfl,hb⟩;rw [HN0.out];have HX3:=Qq (Ext.trans (Ext.setCell (Ext.setCell hext (p:=⟨w.heap.size,4,none⟩) (Nat.le_refl _) (.int .i64 ((f.length:Int) - 1))) (p:=⟨w.heap.size,5,none⟩) (Nat.le_refl _) (.int .i64 ((f.length:Int)+g.length - 1))) hb);have HBX3:Hid (w3.heap[w.heap.size]?=some (.cells #[.int .i64 o,.int .i64 i,.int .i64 e,.int .i64 k0,.int .i64 ((f.length:Int) - 1),.int .i64 ((f.length:Int)+g.length - 1)] 71 (0,0))):=Qq ((hb.block (by simp [World.setCell];exact dlt)).trans (by simp only [World.setCell,Array.getElem?_modify,HBK2.out,if_true,Option.map_some];simp))
     have HROW3:=Qq (Zf (ownsRow_setCell_other (a:=⟨w.heap.size,5,none⟩) (ownsRow_setCell_other (a:=⟨w.heap.size,4,none⟩) HROW2.out HNE.out (.int .i64 ((f.length:Int) - 1))) HNE.out (.int .i64 ((f.length:Int)+g.length - 1))) hb);have hc5:∀X,w.heap.size+1<=(w3.alloc X).heap.size:=fun X=>by have:=HX3.out.size;simp;omega
     clear hb d0 d1 d2 d3 d4 d5 dfr dlt hfz4 hfz5;obtain⟨⟨d0,d1,d2,d3,d4,d5⟩,dfr,dlt⟩:=Yx HBX3.out;go_wp2_with(at_builtin;refine wpList_append_own_at _ rfl _ _ 22 rfl (w.heap.size+1) 71 i0 Nd.zero.val 6 48 Tryz.underlying22 hi0 hz0' hz1' hz2' rfl (by decide) _ _ _ rfl (Zf HROW3.out (Qz.alloc _)) _ 1 1 [.int .i64 o,.int .i64 i,.int .i64 e,.int .i64 k0,.int .i64 ((f.length:Int) - 1),.int .i64 ((f.length:Int)+g.length - 1)] rfl rfl (Jq _ _ _ rfl) (by rw [<-HMX.out];exact Fw m) hc3 hc4 (hc5 _) ?_);intro v' w4 hown4 hgrow4 _ hat4;have HROW4:Hid (w4.ownsRow (w.heap.size+1) 71 6 v' (F++ [m]).length ((F++ [m]).flatMap Nd.cells)):=Qq (by rw [HXS.out,<-HMX.out,<-HFL.out]at hown4;simpa using hown4)
     have HX4:=Qq ((Ext.alloc HX3.out _).grown hgrow4 (fun g hg=>by have:=(HROW3.out.lt g hg).1;omega));obtain⟨A4,c4,rfl⟩:=Qt hown4;have HFM:Hid (Fml w4 (.slice A4 (f.length+g.length+1) c4) (F++ [m])):=Qq ⟨Sv HROW4.out,fun n hn=>by
      rcases List.mem_append.1 hn with hn|hn
      ·exact HOKF.out n hn
      rw [List.mem_singleton.1 hn];exact HMO.out⟩
     clear hown4 hgrow4 hat4;go_wp2_with fail;refine(Qkh _ (F++ [m]) _ HFM.out HU.out.2.1 (by simp) (by have:=HFL.out;simp;omega)).mono ?_;rintro e1 w5 ⟨u5,rfl,hm5⟩;rw [HU.out.2.2]at hm5;have HM5:=Qq (hm5.before HX4.out);obtain⟨A8,c8,rfl⟩:=Qt hm5.1;clear hm5;go_wp2_with fail;go_ret;exact⟨_,rfl,HM5.out⟩
  have HC:=Qq hc;have HB0:=Qq (Lx (n:=x) (f:=f) (.inr hcg));have hcb:(check g !=0)=true:=by simpa using hcg
  obtain⟨o,i,e,k0,p,q⟩:=x;unfold Nd.val;clear hc hcg hx hxo h1 h2;go_enter Tryz.func111,Tryz.ntmps111;go_wp2_with fail;refine(Vj _ f _ (H.out.1.ext (Qz.alloc _))).mono ?_;rintro e1 w1 ⟨rfl,hb⟩;rw [HC.out];have HX1:=Qq (Ext.trans ((Ext.refl w).alloc _) hb);clear hb;go_wp2_with fail;refine(Vj _ g _ (HG.out.1.ext HX1.out)).mono ?_;rintro e1 w2 ⟨rfl,hb⟩;have HX2:=Qq (Ext.trans HX1.out hb);clear hb;go_wp2_with fail;go_ret;exact⟨_,rfl,by rw [HB0.out];exact(Jl.none_ _).after HX2.out⟩
 have HB0:=Qq (Lx (n:=x) (g:=g) (.inl hc));have hcb:(check f !=0)=true:=by simpa using hc
 obtain⟨o,i,e,k0,p,q⟩:=x;unfold Nd.val;clear hc hx hxo h1 h2;go_enter Tryz.func111,Tryz.ntmps111;go_wp2_with fail;refine(Vj _ f _ (H.out.1.ext (Qz.alloc _))).mono ?_;rintro e1 w1 ⟨rfl,hb⟩;have HX1:=Qq (Ext.trans ((Ext.refl w).alloc _) hb);clear hb;go_wp2_with fail;go_ret;exact⟨_,rfl,by rw [HB0.out];exact(Jl.none_ _).after HX1.out⟩
end Go.Proofs.YtkmclcmnoicagaaGreatDoor
