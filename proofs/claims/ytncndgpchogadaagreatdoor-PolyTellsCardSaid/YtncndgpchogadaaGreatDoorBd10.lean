/- The base of the proof: contracts of functions, the engine that shows them, and mathematics. -/
import Derived.Test.YtncndgpchogadaaGreatDoorBd9
set_option maxRecDepth 100000
set_option linter.unusedVariables false
set_option linter.unusedSimpArgs false
set_option maxHeartbeats 1000000
namespace Go.Proofs.YtncndgpchogadaaGreatDoor.AM
open Go.RowKit
theorem aq.lu {ok:Nat->Prop} {w:World} {β:Bm} {x:Nat} {v:Value} (h:aq ok w β (.k .nat x) v):v=nV x:=by obtain ⟨c,hc,hv⟩:=h;have hc:c=iD x:=hc;subst hc;exact hv
theorem aq.Jt {ok:Nat->Prop} {w:World} {β:Bm} (x:Nat):aq ok w β (.k .nat x) (nV x):=⟨iD x,rfl,rfl⟩
theorem aq.xE {ok:Nat->Prop} {w:World} {β:Bm} {x:Nat} {v:Value} (h:aq ok w β (.k .rn x) v):bJ x v w:=by obtain ⟨c,⟨u,rfl,h1⟩,hv⟩:=h;obtain ⟨A,k,rfl⟩:=h1.form;rw [hv];exact h1
theorem aq.VB {ok:Nat->Prop} {w:World} {β:Bm} {x:Nat} {v:Value} (h:bJ x v w):aq ok w β (.k .rn x) v:=⟨[v],⟨v,rfl,h⟩,rfl⟩
theorem FD {f:FuncId} {a:Array Value} {w:World} {x:Nat} (h:Calls Tryz.prog f a w (cg (nV x) w)):Calls Tryz.prog f a w (Gv (.k .nat x) w):=Calls.mono h fun e w' ⟨h1,h2⟩=>⟨_,h1,h2,.Jt x⟩
theorem VC {f:FuncId} {a:Array Value} {w:World} {x:Int} (h:Calls Tryz.prog f a w (cg (.int .i64 x) w)):Calls Tryz.prog f a w (Gv (.k (.int .i64) x) w):=Calls.mono h fun e w' ⟨h1,h2⟩=>⟨_,h1,h2,.mkInt _ x⟩
theorem aNV {f:FuncId} {a:Array Value} {w:World} {x:Nat} (h:Calls Tryz.prog f a w (cA (bJ x) w)):Calls Tryz.prog f a w (Gv (.k .rn x) w):=Calls.mono h fun e w' ⟨v,h1,h2,h3⟩=>⟨v,h1,h3,.VB h2⟩
theorem ph {ok:Nat->Prop} {w:World} {β:Bm} {a b:AV} {u v:Value} (h1:aq ok w β a u) (h2:aq ok w β b v):aq ok w β (.eX (.cons a (.cons b .nil))) (.tuple #[u,v]):=by obtain ⟨c1,a1,e1⟩:=h1;obtain ⟨c2,a2,e2⟩:=h2;exact ⟨[.tuple #[u,v]],⟨[u,v],rfl,c1,[v],a1,⟨c2,[],a2,rfl,by rw [e2];rfl⟩,by rw [e1];rfl⟩,rfl⟩
theorem FE {ok:Nat->Prop} {w:World} {β:Bm} {a b c:AV} {u v x:Value} (h1:aq ok w β a u) (h2:aq ok w β b v) (h3:aq ok w β c x):aq ok w β (.eX (.cons a (.cons b (.cons c .nil)))) (.tuple #[u,v,x]):=by obtain ⟨c1,a1,e1⟩:=h1;obtain ⟨c2,a2,e2⟩:=h2;obtain ⟨c3,a3,e3⟩:=h3;exact ⟨[.tuple #[u,v,x]],⟨[u,v,x],rfl,c1,[v,x],a1,⟨c2,[x],a2,⟨c3,[],a3,rfl,by rw [e3];rfl⟩,by rw [e2];rfl⟩,by rw [e1];rfl⟩,rfl⟩
def BN:Nat:=130000000000
theorem BV {j:Nat} (h:130000000000<=j):max BN BN<=j:=by unfold BN;omega
abbrev N1 (x:Nat):Option Prop:=some (Sm BN x)
abbrev N2 (x y:Nat):Option Prop:=some (Sm BN x/\Sm BN y)
abbrev T2 (a b:AV):AV:=.eX (.cons a (.cons b .nil))
abbrev T3 (a b c:AV):AV:=.eX (.cons a (.cons b (.cons c .nil)))
def Nf:az:=⟨131,false,on1 (.int .u64) (fun n=>some (0<=n/\n<18446744073709551616)) fun n=>.k .nat (Int.toNat n)⟩
theorem xG:ah (cfg []) Nf:=nB (enters_of Tryz.func131 (by kernel_rfl) rfl) (fun _=>rfl) fun F n u w hg ht hu=>by obtain rfl:=hu.int;obtain ⟨m,rfl⟩:=yo hg.1;have h2:((m:Nat):Int)<18446744073709551616:=hg.2;exact FD (H5 m (by unfold aa;omega) w)
def VD:az:=⟨143,false,on2 .nat .nat N2 fun x y=>.k .nat (x+y:Nat)⟩
theorem Pv:ah (cfg []) VD:=iN (enters_of Tryz.func143 (by kernel_rfl) rfl) (fun _ _=>rfl) fun F x y u v w hg ht hu hv=>by obtain rfl:=hu.lu;obtain rfl:=hv.lu;exact FD (aex hg.1 hg.2 w (BV (by omega)))
def Ju:az:=⟨104,false,on2 .nat .nat N2 fun x y=>.k .nat (x*y:Nat)⟩
theorem zR:ah (cfg []) Ju:=iN (enters_of Tryz.func104 (by kernel_rfl) rfl) (fun _ _=>rfl) fun F x y u v w hg ht hu hv=>by obtain rfl:=hu.lu;obtain rfl:=hv.lu;exact FD (aey hg.1 hg.2 w (BV (by omega)))
def Jv:az:=⟨134,false,on2 .nat .nat N2 fun x y=>.k (.int .i64) (bG x y)⟩
theorem zS:ah (cfg []) Jv:=iN (enters_of Tryz.func134 (by kernel_rfl) rfl) (fun _ _=>rfl) fun F x y u v w hg ht hu hv=>by obtain rfl:=hu.lu;obtain rfl:=hv.lu;exact VC (aez hg.1 hg.2 w (BV (by omega)))
def vm:az:=⟨114,false,on1 .nat N1 fun x=>.k (.int .i64) ((bl x:Nat):Int)⟩
theorem qS:ah (cfg []) vm:=nB (enters_of Tryz.func114 (by kernel_rfl) rfl) (fun _=>rfl) fun F x u w hg ht hu=>by obtain rfl:=hu.lu;exact VC (acq hg w (by unfold BN;omega))
def VE:az:=⟨144,false,on2 .nat .nat N2 fun x y=>T2 (.k .nat (x-y:Nat)) (.k .bool (decide ((y:Nat)<=x)))⟩
theorem Pw:ah (cfg []) VE:=iN (enters_of Tryz.func144 (by kernel_rfl) rfl) (fun _ _=>rfl) fun F x y u v w hg ht hu hv=>by
 obtain rfl:=hu.lu;obtain rfl:=hv.lu;by_cases h:(y:Nat)<=x
 ·exact Calls.mono (aeA hg.1 hg.2 h w (BV (by omega))) fun e w' ⟨h1,h2⟩=>⟨_,h1,h2,ph (.Jt _) (by rw [px h];exact .dN _)⟩
 ·exact Calls.mono (UO hg.1 hg.2 (Nat.lt_of_not_le h) w (BV (by omega))) fun e w' ⟨h1,h2⟩=>⟨_,h1,h2,ph (by rw [Nat.sub_eq_zero_of_le (Nat.le_of_not_le h)];exact .Jt _) (by rw [jV h];exact .dN _)⟩
def Jw:az:=⟨135,false,on2 .nat .nat N2 fun x y=>T3 (.k .nat (x/y:Nat)) (.k .nat (if (y:Nat)=0 then 0 else x%y)) (.k .bool (!decide ((y:Nat)=0)))⟩
theorem zT:ah (cfg []) Jw:=iN (enters_of Tryz.func135 (by kernel_rfl) rfl) (fun _ _=>rfl) fun F x y u v w hg ht hu hv=>by
 obtain rfl:=hu.lu;obtain rfl:=hv.lu;by_cases h:(y:Nat)=0
 ·subst h;exact Calls.mono (div_zero x w) fun e w' ⟨h1,h2⟩=>⟨_,h1,h2,FE (by rw [Nat.div_zero];exact .Jt _) (.Jt _) (.dN _)⟩
 ·rw [bD h];exact Calls.mono (cdiv hg.1 hg.2 h w (BV (by omega))) fun e w' ⟨h1,h2⟩=>⟨_,h1,h2,FE (.Jt _) (.Jt _) (by rw [jV h];exact .dN _)⟩
def FF:az:=⟨136,false,on1 .nat (fun _=>none) fun x=>T2 (.k (.int .u64) (if (x:Nat)<18446744073709551616 then ((x:Nat):Int) else 0)) (.k .bool (decide ((x:Nat)<18446744073709551616)))⟩
theorem FG:ah (cfg []) FF:=nB (enters_of Tryz.func136 (by kernel_rfl) rfl) (fun _=>rfl) fun F x u w hg ht hu=>by
 obtain rfl:=hu.lu;by_cases h:(x:Nat)<18446744073709551616
 ·have hx:(x:Nat)<aa:=h;rw [gU h];exact Calls.mono (Oh x hx w) fun e w' ⟨h1,h2⟩=>⟨_,h1,h2,ph (.mkInt _ _) (by rw [px h];exact .dN _)⟩
 ·have hx:aa<=(x:Nat):=Hf h;rw [bD h];exact Calls.mono (Oi x hx w) fun e w' ⟨h1,h2⟩=>⟨_,h1,h2,ph (.mkInt _ _) (by rw [jV h];exact .dN _)⟩
def VF:az:=⟨137,false,on2 .nat .nat (fun x y=>some ((x:Nat)≠0/\(y:Nat)≠0/\Sm BN x/\Sm BN y)) fun x y=>.k .nat (Nat.gcd x y)⟩
theorem Px:ah (cfg []) VF:=iN (enters_of Tryz.func137 (by kernel_rfl) rfl) (fun _ _=>rfl) fun F x y u v w hg ht hu hv=>by obtain rfl:=hu.lu;obtain rfl:=hv.lu;obtain ⟨h1,h2,h3,h4⟩:=hg;exact FD (BL x y (tO h1) (tO h2) (by unfold Sm BN at h3;omega) (by unfold Sm BN at h4;omega) w ht)
def VG:az:=⟨129,false,on2 .rn .rn N2 fun x y=>.k .rn (x+y:Nat)⟩
theorem Py:ah (cfg []) VG:=iN (enters_of Tryz.func129 (by kernel_rfl) rfl) (fun _ _=>rfl) fun F x y u v w hg ht hu hv=>aNV (ac3 hg.1 hg.2 w hu.xE hv.xE (BV (by omega)))
def VH:az:=⟨130,false,on2 .rn .rn (fun x y=>some (Sm BN x/\(y:Nat)<=x)) fun x y=>.k .rn (x-y:Nat)⟩
theorem Pz:ah (cfg []) VH:=iN (enters_of Tryz.func130 (by kernel_rfl) rfl) (fun _ _=>rfl) fun F x y u v w hg ht hu hv=>aNV (ac4 hg.1 hg.2 w hu.xE hv.xE (by unfold BN;omega))
def VI:az:=⟨91,false,on2 .rn .rn N2 fun x y=>.k .rn (x*y:Nat)⟩
theorem PA:ah (cfg []) VI:=iN (enters_of Tryz.func91 (by kernel_rfl) rfl) (fun _ _=>rfl) fun F x y u v w hg ht hu hv=>aNV (ac5 hg.1 hg.2 w hu.xE hv.xE (BV (by omega)))
def aQP:az:=⟨52,false,on2 .rn .rn N2 fun x y=>.k (.int .i64) (bG x y)⟩
theorem zU:ah (cfg []) aQP:=iN (enters_of Tryz.func52 (by kernel_rfl) rfl) (fun _ _=>rfl) fun F x y u v w hg ht hu hv=>VC (ac6 hg.1 hg.2 w hu.xE hv.xE (BV (by omega)))
def aa4:az:=⟨67,false,on1 (.int .u64) (fun n=>some (0<=n/\n<18446744073709551616)) fun n=>.k .rn (Int.toNat n)⟩
theorem VJ:ah (cfg []) aa4:=nB (enters_of Tryz.func67 (by kernel_rfl) rfl) (fun _=>rfl) fun F n u w hg ht hu=>by obtain rfl:=hu.int;obtain ⟨m,rfl⟩:=yo hg.1;have h2:((m:Nat):Int)<18446744073709551616:=hg.2;exact aNV (xk m (by unfold aa;omega) w)
def VK:az:=⟨128,false,on2 .rn .rn (fun x y=>some (Sm BN x/\Sm BN y/\(y:Nat)≠0)) fun x y=>T2 (.k .rn (x/y:Nat)) (.k .rn (x%y:Nat))⟩
theorem PB:ah (cfg []) VK:=iN (enters_of Tryz.func128 (by kernel_rfl) rfl) (fun _ _=>rfl) fun F x y u v w hg ht hu hv=>by obtain ⟨h1,h2,h3⟩:=hg;unfold Sm BN at h1 h2;exact Calls.mono (FC x y u v w hu.xE hv.xE (by omega) (by omega) h3) fun _ _ ⟨p,q,h1,h2,h3,h4⟩=>⟨_,h1,h4,ph (.VB h2) (.VB h3)⟩
def VM:az:=⟨72,false,on1 .rn N1 fun x=>.k .nat (x:Nat)⟩
theorem aRr:ah (cfg []) VM:=nB (enters_of Tryz.func72 (by kernel_rfl) rfl) (fun _=>rfl) fun F x u w hg ht hu=>by have hg:Sm BN x:=hg;exact FD (Bz x (by unfold Sm BN at hg;omega) u w hu.xE)
def BZ:Nat:=64000000000
noncomputable def LN:List az:=Nf::Jv::vm::[]
theorem xH:bd LN:=⟨xG,zS,qS,trivial⟩
def fzFrom:CF
 | [.k .bool b,.k .nat n]=>some (some (Sm BN n),.k .z (bW b n),[])
 | _=>none
def sj:az:=⟨71,false,fzFrom⟩
def PD (b:Bool) (n:Nat):bk:=⟨fun key_=>match key_ with | 1=>7 | _=>0,nL,nR,nU⟩
def BW (b:Bool) (n:Nat):Prop:=bif b then Sm BN n/\(decide ((0:Int)<(↑(bl n):Int))=true->n≠0)/\bW (decide ((0:Int)<(↑(bl n):Int))) n=bW b n else (false=true->n≠(0 :
 Nat))/\bW false n=bW b n
theorem Jy (b:Bool) (n:Nat):aw LN [] (PD b n) Tryz.f71 (.k .z (bW b n)) [.k .bool b,.k .nat n]=BW b n:=by kernel_rfl
theorem Jz (b:Bool) (n:Nat) (hg:Sm BN n) (hf:cJ [.k .bool b,.k .nat n]):BW b n:=by
 unfold BW;refine nC (fun h=>?_) fun h=>?_
 ·subst h;refine ⟨hg,fun h' e=>?_,?_⟩
  ·have:=(fl n).1 (Gk h');omega
  ·rcases dz n with e | e
   ·subst e;rw [azD];rfl
   ·rw [px ((fl n).2 e)]
 ·subst h;exact ⟨fun h=>(by cases h),rfl⟩
theorem nG:ah (cfg []) sj:=cf xH bp Tryz.func71 (by kernel_rfl) fun args g r hn hc hg hf=>by
 replace hc:fzFrom args=some (g,r,hn):=hc;unfold fzFrom at hc;split at hc
 ·obtain ⟨rfl,rfl,rfl⟩:=aN hc;cases aY (Jy _ _) (Jz _ _ hg hf);exact ⟨rfl,by kernel_rfl,_,by assumption⟩
 ·cases hc
def fzAbs:CF
 | [.k .z x]=>some (none,.k .nat x.natAbs,[])
 | _=>none
def JA:az:=⟨108,false,fzAbs⟩
def VN (x:Int):bk:=⟨nU,nL,nR,nU⟩
def VO (x:Int):Prop:=x.natAbs=x.natAbs
theorem PE (x:Int):aw LN [] (VN x) Tryz.f108 (.k .nat x.natAbs) [.k .z x]=VO x:=by kernel_rfl
theorem PF (x:Int) (hf:cJ [.k .z x]):VO x:=by rfl
theorem zV:ah (cfg []) JA:=cf xH bp Tryz.func108 (by kernel_rfl) fun args g r hn hc hg hf=>by
 replace hc:fzAbs args=some (g,r,hn):=hc;unfold fzAbs at hc;split at hc
 ·obtain ⟨rfl,rfl,rfl⟩:=aN hc;cases aY (PE _) (PF _ hf);exact ⟨rfl,by kernel_rfl,_,by assumption⟩
 ·cases hc
def BX:CF
 | [.k .z x]=>some (some (Sm BN x.natAbs),.k (.int .i64) x.sign,[])
 | _=>none
def vn:az:=⟨109,false,BX⟩
def PG (x:Int):bk:=⟨nU,nL,nR,nU⟩
def BY (x:Int):Prop:=bif decide (x<0) then (-1:Int)=x.sign else Sm BN x.natAbs/\bif decide ((0:Int)<(↑(bl x.natAbs):Int)) then (1:Int)=x.sign else (0:Int)=x.sign
theorem JB (x:Int):aw LN [] (PG x) Tryz.f109 (.k (.int .i64) x.sign) [.k .z x]=BY x:=by kernel_rfl
theorem JC (x:Int) (hg:Sm BN x.natAbs):BY x:=by
 unfold BY;refine aH (fun h=>(q9 h).symm) fun h=>⟨hg,aH (fun h2=>?_) fun h2=>?_⟩
 ·have:=(fl _).1 h2;exact (sy (by omega)).symm
 ·have h3:¬0<x.natAbs:=fun h3=>h2 ((fl _).2 h3);have:x=0:=by omega
  subst this;rfl
theorem qT:ah (cfg []) vn:=cf xH bp Tryz.func109 (by kernel_rfl) fun args g r hn hc hg hf=>by
 replace hc:BX args=some (g,r,hn):=hc;unfold BX at hc;split at hc
 ·obtain ⟨rfl,rfl,rfl⟩:=aN hc;cases aY (JB _) (JC _ hg);exact ⟨rfl,by kernel_rfl,_,by assumption⟩
 ·cases hc
def fzCmp:CF
 | [.k .z x,.k .z y]=>some (some (Sm BN x.natAbs/\Sm BN y.natAbs),.k (.int .i64) (dS x y),[])
 | _=>none
def VP:az:=⟨152,false,fzCmp⟩
def VQ (x y:Int):bk:=⟨nU,nL,nR,nU⟩
def JD (x y:Int):Prop:=bif decide (x<0) then bif decide (y<0) then (Sm BN y.natAbs/\Sm BN x.natAbs)/\bG y.natAbs x.natAbs=dS x y else bif decide (x<0) then
 (-1:Int)=dS x y else bif decide (y<0) then (1:Int)=dS x y else (Sm BN x.natAbs/\Sm BN y.natAbs)/\bG x.natAbs y.natAbs=dS x y else bif decide
 (x<0) then (-1:Int)=dS x y else bif decide (y<0) then (1:Int)=dS x y else (Sm BN x.natAbs/\Sm BN y.natAbs)/\bG x.natAbs y.natAbs =
 dS x y
theorem PH (x y:Int):aw LN [] (VQ x y) Tryz.f152 (.k (.int .i64) (dS x y)) [.k .z x,.k .z y]=JD x y:=by kernel_rfl
theorem PI (x y:Int) (hg:Sm BN x.natAbs/\Sm BN y.natAbs):JD x y:=by unfold JD;obtain ⟨h1,h2⟩:=hg;refine aH (fun hx=>aH (fun hy=>⟨⟨h2,h1⟩,Ym hx hy⟩) fun hy=>aH (fun _=>Yn hx hy) fun h=>absurd hx h) fun hx=>aH (fun h=>absurd h hx) fun _=>aH (fun hy=>Yo hx hy) fun hy=>⟨⟨h1,h2⟩,Yl hx hy⟩
theorem PJ:ah (cfg []) VP:=cf xH bp Tryz.func152 (by kernel_rfl) fun args g r hn hc hg hf=>by
 replace hc:fzCmp args=some (g,r,hn):=hc;unfold fzCmp at hc;split at hc
 ·obtain ⟨rfl,rfl,rfl⟩:=aN hc;cases aY (PH _ _) (PI _ _ hg);exact ⟨rfl,by kernel_rfl,_,by assumption⟩
 ·cases hc
def fzOfI:CF
 | [.k (.int .i64) n]=>some (some (akv n),.k .z n,[])
 | _=>none
def VR:az:=⟨93,false,fzOfI⟩
def VS (n:Int):bk:=⟨nU,nL,nR,nU⟩
def JE (n:Int):Prop:=
 let t1:=(0:Int)-IntKind.u64.wrap n;
 bif decide (n<0) then ((0:Int)<=IntKind.u64.wrap t1/\IntKind.u64.wrap t1<(18446744073709551616:Int))/\(true=true->(IntKind.u64.wrap t1).toNat≠(0 :
 Nat))/\bW true (IntKind.u64.wrap t1).toNat=n else ((0:Int)<=IntKind.u64.wrap n/\IntKind.u64.wrap n<(18446744073709551616:Int))/\(false=true ->
 (IntKind.u64.wrap n).toNat≠0)/\bW false (IntKind.u64.wrap n).toNat=n
theorem PK (n:Int):aw LN [] (VS n) Tryz.f93 (.k .z n) [.k (.int .i64) n]=JE n:=by kernel_rfl
theorem PL (n:Int) (hg:akv n):JE n:=by
 unfold JE;have h1 : -9223372036854775808<=n:=hg.1;have h2:n<=9223372036854775807:=hg.2;refine aH (fun h=>?_) fun h=>?_
 ·have e:IntKind.u64.wrap ((0:Int)-IntKind.u64.wrap n) = -n:=by simp [IntKind.wrap,IntKind.signed,IntKind.bits];omega
  rw [e];refine ⟨⟨by omega,by omega⟩,fun _=>by omega,?_⟩;show -((Int.toNat (-n):Nat):Int)=n;omega
 ·have e:IntKind.u64.wrap n=n:=by simp [IntKind.wrap,IntKind.signed,IntKind.bits];omega
  rw [e];refine ⟨⟨by omega,by omega⟩,fun h=>by (cases h),?_⟩;show ((Int.toNat n:Nat):Int)=n;omega
theorem PM:ah (cfg []) VR:=cf xH bp Tryz.func93 (by kernel_rfl) fun args g r hn hc hg hf=>by
 replace hc:fzOfI args=some (g,r,hn):=hc;unfold fzOfI at hc;split at hc
 ·obtain ⟨rfl,rfl,rfl⟩:=aN hc;cases aY (PK _) (PL _ hg);exact ⟨rfl,by kernel_rfl,_,by assumption⟩
 ·cases hc
noncomputable def VT:List az:=sj::Nf::VD::Ju::Jv::vm::VE::Jw::FF::VF::[]
theorem vo:bd VT:=⟨nG,xG,Pv,zR,zS,qS,Pw,zT,FG,Px,trivial⟩
def JF:CF
 | [.k .z x]=>(fun (x:Int)=>some (some (Sm BN x.natAbs),.k .z (-x:Int),[])) x
 | _=>none
def JG:az:=⟨105,false,JF⟩
def VU (x:Int):bk:=⟨nU,nL,nR,nU⟩
def JH (x:Int):Prop:=Sm BN x.natAbs/\bW (!decide (x<0)) x.natAbs = -x
theorem PN (x:Int):aw VT [] (VU x) Tryz.f105 (.k .z (-x:Int)) [.k .z x]=JH x:=by kernel_rfl
theorem PO (x:Int) (hg:Sm BN x.natAbs):JH x:=by
 unfold JH;refine ⟨hg,?_⟩;unfold bW;by_cases hx:x<0
 ·rw [px hx];show ((x.natAbs:Nat):Int) = -x;omega
 ·rw [jV hx];show -((x.natAbs:Nat):Int) = -x;omega
theorem zW:ah (cfg []) JG:=cf vo bp Tryz.func105 (by kernel_rfl) fun args g r hn hc hg hf=>by
 replace hc:JF args=some (g,r,hn):=hc;unfold JF at hc;split at hc
 ·obtain ⟨rfl,rfl,rfl⟩:=aN hc;cases aY (PN _) (PO _ hg);exact ⟨rfl,by kernel_rfl,_,by assumption⟩
 ·cases hc
def JI:CF
 | [.k .z x,.k .z y]=>some (some (Sm BZ x.natAbs/\Sm BZ y.natAbs),.k .z (x+y:Int),[])
 | _=>none
def VV:az:=⟨110,false,JI⟩
def VW (x y:Int):bk:=⟨fun key_=>match key_ with | 2=>7 | _=>0,nL,nR,nU⟩
def JJ (x y:Int):Prop:=bif decide (x<0) == decide (y<0) then (Sm BN x.natAbs/\Sm BN y.natAbs)/\Sm BN (x.natAbs+y.natAbs)/\bW (decide (x<0)) (x.natAbs +
 y.natAbs)=x+y else (Sm BN x.natAbs/\Sm BN y.natAbs)/\bif decide (y.natAbs<=x.natAbs) then Sm BN (x.natAbs-y.natAbs)/\bW (decide (x<0)) (x.natAbs -
 y.natAbs)=x+y else (Sm BN y.natAbs/\Sm BN x.natAbs)/\Sm BN (y.natAbs-x.natAbs)/\bW (decide (y<0)) (y.natAbs-x.natAbs)=x+y
theorem PR (x y:Int):aw VT [] (VW x y) Tryz.f110 (.k .z (x+y:Int)) [.k .z x,.k .z y]=JJ x y:=by kernel_rfl
theorem PS (x y:Int) (hg:Sm BZ x.natAbs/\Sm BZ y.natAbs):JJ x y:=by
 unfold JJ;obtain ⟨h1,h2⟩:=hg;have b1:Sm BN x.natAbs:=h1.le (by unfold BZ BN;omega);have b2:Sm BN y.natAbs:=h2.le (by unfold BZ BN;omega);refine nC (fun h=>⟨⟨b1,b2⟩,(h1.add h2).le (by unfold BZ BN;omega),?_⟩) fun h=>⟨⟨b1,b2⟩,aH (fun h'=>⟨b1.sub _,?_⟩) fun h'=>⟨⟨b2,b1⟩,b2.sub _,?_⟩⟩
 all_goals unfold bW;by_cases hx:x<0 <;> by_cases hy:y<0 <;> simp [hx,hy] at h ⊢ <;> omega
theorem PT:ah (cfg []) VV:=cf vo bp Tryz.func110 (by kernel_rfl) fun args g r hn hc hg hf=>by
 replace hc:JI args=some (g,r,hn):=hc;unfold JI at hc;split at hc
 ·obtain ⟨rfl,rfl,rfl⟩:=aN hc;cases aY (PR _ _) (PS _ _ hg);exact ⟨rfl,by kernel_rfl,_,by assumption⟩
 ·cases hc
def JK:CF
 | [.k .z x,.k .z y]=>some (some (Sm BZ x.natAbs/\Sm BZ y.natAbs),.k .z (x*y:Int),[])
 | _=>none
def JL:az:=⟨99,false,JK⟩
def VX (x y:Int):bk:=⟨fun key_=>match key_ with | 1=>10 | _=>0,nL,nR,nU⟩
def JM (x y:Int):Prop:=(Sm BN x.natAbs/\Sm BN y.natAbs)/\Sm BN (x.natAbs*y.natAbs)/\bW (!decide (x<0) == decide (y<0)) (x.natAbs*y.natAbs)=x*y
theorem PU (x y:Int):aw VT [] (VX x y) Tryz.f99 (.k .z (x*y:Int)) [.k .z x,.k .z y]=JM x y:=by kernel_rfl
theorem PV (x y:Int) (hg:Sm BZ x.natAbs/\Sm BZ y.natAbs):JM x y:=by unfold JM;obtain ⟨h1,h2⟩:=hg;exact ⟨⟨h1.le (by unfold BZ BN;omega),h2.le (by unfold BZ BN;omega)⟩,(h1.mul h2).le (by unfold BZ BN;omega),vL rfl rfl⟩
theorem zX:ah (cfg []) JL:=cf vo bp Tryz.func99 (by kernel_rfl) fun args g r hn hc hg hf=>by
 replace hc:JK args=some (g,r,hn):=hc;unfold JK at hc;split at hc
 ·obtain ⟨rfl,rfl,rfl⟩:=aN hc;cases aY (PU _ _) (PV _ _ hg);exact ⟨rfl,by kernel_rfl,_,by assumption⟩
 ·cases hc
theorem zY {p q g:Nat} (hp:Sm BN p) (hq:Sm BN q) (h0:q≠0) (hqp:q<p) (e:p.gcd q=g) :
 bif decide (p<(18446744073709551616:Nat)) then
 ∃(x0:Nat×Nat),
 (((if p<(18446744073709551616:Nat) then (p:Int) else (0:Int))=(x0.fst:Int) /\
 (if q<(18446744073709551616:Nat) then (q:Int) else (0:Int))=(x0.snd:Int))/\(0:Nat)=(0:Nat)) /\
 (x0.fst<(18446744073709551616:Nat)/\x0.snd<(18446744073709551616:Nat)/\x0.fst.gcd x0.snd=g) /\
 ∀(fg:Nat×Nat),
 fg.fst<(18446744073709551616:Nat)/\fg.snd<(18446744073709551616:Nat)/\fg.fst.gcd fg.snd=g ->
 bif decide ((0:Int)<(fg.snd:Int)) then
 (fg.snd:Int)≠(0:Int) /\
 ∃(x':Nat×Nat),
 (((fg.snd:Int)=(x'.fst:Int)/\(fg.fst:Int).tmod (fg.snd:Int)=(x'.snd:Int))/\(0:Nat)=(0:Nat)) /\
 (x'.fst<(18446744073709551616:Nat)/\x'.snd<(18446744073709551616:Nat)/\x'.fst.gcd x'.snd=g)/\x'.snd<fg.snd
 else ((0:Int)<=(fg.fst:Int)/\(fg.fst:Int)<(18446744073709551616:Int))/\(fg.fst:Int).toNat=g
 else (p≠(0:Nat)/\q≠(0:Nat)/\Sm BN p/\Sm BN q)/\p.gcd q=g:=by
 refine aH (fun h=>⟨(p,q),⟨⟨gU h,gU (by omega)⟩,rfl⟩,⟨h,by show q<_;omega,e⟩,fun ⟨a,b⟩ ⟨h1,h2,h3⟩=>?_⟩) fun h=>⟨⟨by omega,h0,hp,hq⟩,e⟩
 dsimp only at h1 h2 h3 ⊢
 refine aH (fun h4=>?_) fun h4=>⟨⟨by omega,by omega⟩,?_⟩
 ·have hb:0<b:=by omega
  have hm:a%b<b:=nM _ hb
  refine ⟨by omega,(b,a%b),⟨⟨rfl,?_⟩,rfl⟩,⟨h2,by show a%b<_;omega,?_⟩,hm⟩
  ·show (a:Int).tmod (b:Int)=((a%b:Nat):Int)
   rw [Int.tmod_eq_emod_of_nonneg (by omega)];rfl
  ·rw [<-h3];show b.gcd (a%b)=a.gcd b
   rw [C9 a b,K3 b a,C9]
 ·have:b=0:=by omega
  subst this
  rw [KM] at h3
  rw [<-h3];rfl
def JN:CF
 | [.k .z x,.k .z y]=>some (some (Sm BN x.natAbs/\Sm BN y.natAbs),.k .nat (Nat.gcd x.natAbs y.natAbs),[])
 | _=>none
def VY:az:=⟨100,false,JN⟩
def VZ (x y:Int):bk:=⟨fun key_=>match key_ with | 1=>7 | 7=>3 | 14=>4 | _=>0,fun key_=>match key_ with
 | 13=>some (⟨Nat×Nat,fun p=>[(4,.pt 4 0 2 0 0),(10,.k (.int .u64) ((p.1:Nat):Int)),(12,.k (.int .u64) ((p.2:Nat):Int))],
 fun _=>[(4,.box 40 (.k .nat (0:Nat)))],fun _ p=>p.1<18446744073709551616/\p.2<18446744073709551616/\Nat.gcd p.1 p.2=Nat.gcd x.natAbs y.natAbs,fun p=>p.2⟩) | _=>none,fun key_=>match key_ with
 | 1=>some (⟨Unit,fun _=>[(4,.pt 4 0 2 0 0),(5,.pt 5 0 2 0 0),(6,.pt 6 0 2 0 0)],fun _=>[(4,.box 40 (.k .nat (0:Nat))),(5,.box 40 (.k .nat x.natAbs)),(6,.box 40 (.k .nat y.natAbs))]⟩)
 | 7=>some (⟨Nat×Nat,fun _=>[(4,.pt 4 0 2 0 0),(5,.pt 5 0 2 0 0),(6,.pt 6 0 2 0 0)],fun p=>[(4,.box 40 (.k .nat (0:Nat))),(5,.box 40 (.k .nat p.1)),(6,.box 40 (.k .nat p.2))]⟩) | _=>none,nU⟩
def ag (x y:Int):Prop:=(0:Nat)=(0:Nat)/\x.natAbs=x.natAbs/\y.natAbs=y.natAbs
def JO (x y:Int):Prop:=∃(y1:Unit),(((((ag x y/\ag x y)/\(ag x y/\ag x y/\ag x y)/\ag x y/\ag x y/\ag x y)/\((ag x y/\ag x y/\ag x y)/\(ag x y
 /\ ag x y)/\ag x y)/\(ag x y/\ag x y/\ag x y)/\(ag x y/\ag x y)/\ag x y)/\(((ag x y/\ag x y)/\(ag x y/\ag x y/\ag x y) /\
 ag x y/\ag x y/\ag x y)/\((ag x y/\ag x y)/\(ag x y/\ag x y)/\ag x y/\ag x y)/\((ag x y/\ag x y/\ag x y)/\(ag x y /\
 ag x y)/\(ag x y/\ag x y)/\ag x y)/\(ag x y/\ag x y/\ag x y)/\(ag x y/\ag x y)/\(ag x y/\ag x y)/\ag x y)/\(((ag x y /\
 ag x y/\ag x y)/\(ag x y/\ag x y)/\ag x y)/\((ag x y/\ag x y/\ag x y)/\(ag x y/\ag x y)/\(ag x y/\ag x y)/\ag x y) /\
 ((ag x y/\ag x y)/\ag x y)/\(ag x y/\ag x y)/\ag x y)/\((ag x y/\ag x y/\ag x y)/\(ag x y/\ag x y)/\ag x y)/\((ag x y /\
 ag x y/\ag x y)/\(ag x y/\ag x y)/\(ag x y/\ag x y)/\ag x y)/\((ag x y/\ag x y)/\ag x y)/\(ag x y/\ag x y)/\ag x y) /\
 ((((ag x y/\ag x y)/\(ag x y/\ag x y/\ag x y)/\ag x y/\ag x y/\ag x y)/\((ag x y/\ag x y)/\(ag x y/\ag x y)/\ag x y /\
 ag x y)/\((ag x y/\ag x y/\ag x y)/\(ag x y/\ag x y)/\(ag x y/\ag x y)/\ag x y)/\(ag x y/\ag x y/\ag x y)/\(ag x y /\
 ag x y)/\(ag x y/\ag x y)/\ag x y)/\(((ag x y/\ag x y)/\(ag x y/\ag x y)/\ag x y/\ag x y)/\((ag x y/\ag x y)/\ag x y) /\
 (ag x y/\ag x y)/\ag x y)/\(((ag x y/\ag x y/\ag x y)/\(ag x y/\ag x y)/\(ag x y/\ag x y)/\ag x y)/\((ag x y/\ag x y) /\
 ag x y)/\((ag x y/\ag x y)/\ag x y)/\ag x y)/\((ag x y/\ag x y/\ag x y)/\(ag x y/\ag x y)/\(ag x y/\ag x y)/\ag x y) /\
 ((ag x y/\ag x y)/\ag x y)/\((ag x y/\ag x y)/\ag x y)/\ag x y)/\((((ag x y/\ag x y/\ag x y)/\(ag x y/\ag x y)/\ag x y)
 /\ ((ag x y/\ag x y/\ag x y)/\(ag x y/\ag x y)/\(ag x y/\ag x y)/\ag x y)/\((ag x y/\ag x y)/\ag x y)/\(ag x y/\ag x y)
 /\ ag x y)/\(((ag x y/\ag x y/\ag x y)/\(ag x y/\ag x y)/\(ag x y/\ag x y)/\ag x y)/\((ag x y/\ag x y)/\ag x y)/\((ag x
 y/\ag x y)/\ag x y)/\ag x y)/\(((ag x y/\ag x y)/\ag x y)/\(ag x y/\ag x y)/\ag x y)/\((ag x y/\ag x y)/\ag x y)/\ag x
 y)/\(((ag x y/\ag x y/\ag x y)/\(ag x y/\ag x y)/\ag x y)/\((ag x y/\ag x y/\ag x y)/\(ag x y/\ag x y)/\(ag x y/\ag x
 y)/\ag x y)/\((ag x y/\ag x y)/\ag x y)/\(ag x y/\ag x y)/\ag x y)/\(((ag x y/\ag x y/\ag x y)/\(ag x y/\ag x y)/\(ag
 x y/\ag x y)/\ag x y)/\((ag x y/\ag x y)/\ag x y)/\((ag x y/\ag x y)/\ag x y)/\ag x y)/\(((ag x y/\ag x y)/\ag x y) /\
 (ag x y/\ag x y)/\ag x y)/\((ag x y/\ag x y)/\ag x y)/\ag x y)/\(Sm BN x.natAbs/\Sm BN y.natAbs)/\bif decide (bG x.natAbs y.natAbs<(0 :
 Int)) then Sm BN x.natAbs/\bif decide ((↑(bl x.natAbs):Int)=0) then y.natAbs=x.natAbs.gcd y.natAbs else (Sm BN y.natAbs/\Sm BN x.natAbs)/\∃(y2:Nat ×
 Nat),((((0:Nat)=(0:Nat)/\x.natAbs=y2.1/\(if x.natAbs=(0:Nat) then (0:Nat) else y.natAbs%x.natAbs)=y2.2)/\(0:Nat)=(0:Nat)/\x.natAbs=y2.1 /\
 (if x.natAbs=(0:Nat) then (0:Nat) else y.natAbs%x.natAbs)=y2.2)/\(0:Nat)=(0:Nat)/\x.natAbs=y2.1/\(if x.natAbs=(0:Nat) then (0:Nat) else
 y.natAbs%x.natAbs)=y2.2)/\Sm BN y2.2/\bif decide ((↑(bl y2.2):Int)=0) then y2.1=x.natAbs.gcd y.natAbs else bif decide (y2.1<(18446744073709551616 :
 Nat)) then ∃(x0:Nat×Nat),(((if y2.1<(18446744073709551616:Nat) then (↑y2.1:Int) else (0:Int))=(↑x0.1:Int)/\(if y2.2<(18446744073709551616:Nat) then
 (↑y2.2:Int) else (0:Int))=(↑x0.2:Int))/\(0:Nat)=0)/\(x0.1<(18446744073709551616:Nat)/\x0.2<(18446744073709551616:Nat)/\x0.1.gcd x0.2 =
 x.natAbs.gcd y.natAbs)/\∀(y3:Nat×Nat),y3.1<(18446744073709551616:Nat)/\y3.2<(18446744073709551616:Nat)/\y3.1.gcd y3.2=x.natAbs.gcd y.natAbs->bif
 decide ((0:Int)<(↑y3.2:Int)) then (↑y3.2:Int)≠(0:Int)/\∃(x':Nat×Nat),(((↑y3.2:Int)=↑x'.1/\(↑y3.1:Int).tmod (↑y3.2:Int)=(↑x'.2 :
 Int))/\(0:Nat)=0)/\(x'.1<(18446744073709551616:Nat)/\x'.2<(18446744073709551616:Nat)/\x'.1.gcd x'.2=x.natAbs.gcd y.natAbs)/\x'.2<y3.2 else
 (0<=(↑y3.1:Int)/\(↑y3.1:Int)<(18446744073709551616:Int))/\(↑y3.1:Int).toNat=x.natAbs.gcd y.natAbs else (y2.1≠(0:Nat)/\y2.2≠(0:Nat)/\Sm BN
 y2.1/\Sm BN y2.2)/\y2.1.gcd y2.2=x.natAbs.gcd y.natAbs else Sm BN y.natAbs/\bif decide ((↑(bl y.natAbs):Int)=0) then x.natAbs=x.natAbs.gcd y.natAbs
 else (Sm BN x.natAbs/\Sm BN y.natAbs)/\∃(y2:Nat×Nat),((((0:Nat)=(0:Nat)/\y.natAbs=y2.1/\(if y.natAbs=(0:Nat) then (0:Nat) else x.natAbs %
 y.natAbs)=y2.2)/\(0:Nat)=(0:Nat)/\y.natAbs=y2.1/\(if y.natAbs=(0:Nat) then (0:Nat) else x.natAbs%y.natAbs)=y2.2)/\(0:Nat)=(0:Nat)/\y.natAbs
 = y2.1/\(if y.natAbs=(0:Nat) then (0:Nat) else x.natAbs%y.natAbs)=y2.2)/\Sm BN y2.2/\bif decide ((↑(bl y2.2):Int)=0) then y2.1=x.natAbs.gcd
 y.natAbs else bif decide (y2.1<(18446744073709551616:Nat)) then ∃(x0:Nat×Nat),(((if y2.1<(18446744073709551616:Nat) then (↑y2.1:Int) else (0:Int)) =
 (↑x0.1:Int)/\(if y2.2<(18446744073709551616:Nat) then (↑y2.2:Int) else (0:Int))=(↑x0.2:Int))/\(0:Nat)=0)/\(x0.1<(18446744073709551616 :
 Nat)/\x0.2<(18446744073709551616:Nat)/\x0.1.gcd x0.2=x.natAbs.gcd y.natAbs)/\∀(y3:Nat×Nat),y3.1<(18446744073709551616:Nat)/\y3.2 <
 (18446744073709551616:Nat)/\y3.1.gcd y3.2=x.natAbs.gcd y.natAbs->bif decide ((0:Int)<(↑y3.2:Int)) then (↑y3.2:Int)≠(0:Int)/\∃(x':Nat×Nat),
 (((↑y3.2:Int)=↑x'.1/\(↑y3.1:Int).tmod (↑y3.2:Int)=↑x'.2)/\(0:Nat)=0)/\(x'.1<(18446744073709551616:Nat)/\x'.2 <
 (18446744073709551616:Nat)/\x'.1.gcd x'.2=x.natAbs.gcd y.natAbs)/\x'.2<y3.2 else (0<=(↑y3.1:Int)/\(↑y3.1:Int)<(18446744073709551616:Int)) /\
 (↑y3.1:Int).toNat=x.natAbs.gcd y.natAbs else (y2.1≠(0:Nat)/\y2.2≠(0:Nat)/\Sm BN y2.1/\Sm BN y2.2)/\y2.1.gcd y2.2=x.natAbs.gcd y.natAbs
theorem PW (x y:Int):aw VT [] (VZ x y) Tryz.f100 (.k .nat (Nat.gcd x.natAbs y.natAbs)) [.k .z x,.k .z y]=JO x y:=by kernel_rfl
theorem PX (x y:Int) (hg:Sm BN x.natAbs/\Sm BN y.natAbs):JO x y:=by
 unfold JO;obtain ⟨h1,h2⟩:=hg;have ZJ:∀{n:Nat},((bl n:Nat):Int)=0->n=0:=fun {n} h=>by
  rcases dz n with e | e
  ·exact e
  ·have:=(fl n).2 e;omega
 have PY:∀{n:Nat},¬((bl n:Nat):Int)=0->n≠0:=fun {n} h e=>h (by rw [e,azD];rfl);refine ⟨(),by simp [ag],⟨h1,h2⟩,aH (fun hc=>⟨h1,aH (fun h=>?_) fun h=>⟨⟨h2,h1⟩,(x.natAbs,y.natAbs%x.natAbs),?_,(h2.mod _),aH (fun h3=>?_) fun h3=>zY h1 (h2.mod _) (PY h3) (nM _ (tO (PY h))) ?_⟩⟩) fun hc=>⟨h2,aH (fun h=>?_) fun h=>⟨⟨h1,h2⟩,(y.natAbs,x.natAbs%y.natAbs),?_,(h1.mod _),aH (fun h3=>?_) fun h3=>zY h2 (h1.mod _) (PY h3) (nM _ (tO (PY h))) ?_⟩⟩⟩
 ·rw [ZJ h,Nat.gcd_zero_left]
 ·rw [bD (PY h)];simp
 ·exact (Nat.gcd_eq_left (Nat.dvd_of_mod_eq_zero (ZJ h3))).symm
 ·rw [K3 x.natAbs y.natAbs,C9]
 ·rw [ZJ h,KM]
 ·rw [bD (PY h)];simp
 ·exact (Nat.gcd_eq_right (Nat.dvd_of_mod_eq_zero (ZJ h3))).symm
 ·rw [C9 x.natAbs y.natAbs,K3 y.natAbs x.natAbs,C9]
theorem PZ:ah (cfg []) VY:=cf vo bp Tryz.func100 (by kernel_rfl) fun args g r hn hc hg hf=>by
 replace hc:JN args=some (g,r,hn):=hc;unfold JN at hc;split at hc
 ·obtain ⟨rfl,rfl,rfl⟩:=aN hc;cases aY (PW _ _) (PX _ _ hg);exact ⟨rfl,by kernel_rfl,_,by assumption⟩
 ·cases hc
def BQ:Nat:=20000000000
theorem B1 {n:Nat}:((bl n:Nat):Int)=1↔n=1:=by
 constructor
 ·intro h;have h1:bl n<=1:=by omega
  have h2:=(fZ n 1).1 h1;have h3:(0:Int)<((bl n:Nat):Int):=by omega
  have h4:=(fl n).1 h3;omega
 ·intro h;subst h;have h1:=(fl 1).2 (by omega);have h2:bl 1<=1:=(fZ 1 1).2 (by omega);omega
theorem ZK {n:Nat}:((bl n:Nat):Int)=0↔n=0:=by
 constructor
 ·intro h;rcases dz n with e | e
  ·exact e
  ·have:=(fl n).2 e;omega
 ·intro h;rw [h,azD];rfl
theorem FH {x:Rat}:d1 x.den=0↔x.den=1:=by unfold d1;have:=x.den_pos;split <;> omega
theorem afz {k d:Nat} (h:Sm k d):Sm k (d1 d):=by
 unfold d1;split
 ·exact Sm.zero k
 ·exact h
theorem afA {k a b:Nat} (ha:Sm k a) (h0:a≠0):Sm k (Nat.gcd a b):=ha.mono (Hm (by omega) (yw _ _))
theorem zZ {k a b:Nat} (hb:Sm k b) (h0:b≠0):Sm k (Nat.gcd a b):=hb.mono (Hm (by omega) (C5 _ _))
theorem fN (n:Int):qOf n 0=(n:Rat):=by unfold qOf;rw [gU rfl,Ho]
theorem adb {n:Int} {d:Nat} (h:d≠0):qOf n d=mkRat n d:=by unfold qOf;rw [bD h]
theorem ZL (x:Rat):qOf x.num (d1 x.den)=x:=by
 unfold qOf d1;have h:=uX x;have:=x.den_pos;by_cases e:x.den=1
 ·rw [gU e,gU rfl];rw [e] at h;exact h
 ·rw [bD e,bD (by omega)];exact h
theorem Ng (n:Int) {m:Int} (h:m<0):mkRat (-n) m.natAbs=(n:Rat)/(m:Rat):=by rw [<-KZ, <- Rat.neg_divInt_neg,show -m=((m.natAbs:Nat):Int) from by omega,Lb]
theorem mk_pos (n:Int) {m:Int} (h:¬m<0):mkRat n m.natAbs=(n:Rat)/(m:Rat):=by rw [<-KZ, <- Lb,show ((m.natAbs:Nat):Int)=m from by omega]
theorem ZM {y:Rat} (h0:y≠0):mkRat (bW (decide (y.num.sign<0)) y.den) y.num.natAbs=y⁻¹/\(bW (decide (y.num.sign<0)) y.den).natAbs.Coprime y.num.natAbs:=by
 have hn:y.num≠0:=fun e=>h0 (Au.1 e);have e1:bW (decide (y.num.sign<0)) y.den=(y⁻¹).num:=by
  rw [Rat.num_inv];rcases Int.lt_or_gt_of_ne hn with h | h
  ·rw [q9 h,show decide ((-1:Int)<0)=true from rfl];show -((y.den:Nat):Int)=_;omega
  ·rw [sy h,show decide ((1:Int)<0)=false from rfl];show ((y.den:Nat):Int)=_;omega
 have e2:(y⁻¹).den=y.num.natAbs:=by rw [Rat.den_inv,bD hn]
 rw [e1, <- e2];exact ⟨uX _,(y⁻¹).reduced⟩
theorem P0 {x y:Rat} (hx:Sq BQ x) (hy:Sq BQ y) {g a b h:Nat} {u:Int} (hg:g=x.den.gcd y.den) (ha:a=x.den/g) (hb:b=y.den/g) (hu:u=x.num*b+y.num*a) (hh:h=u.natAbs.gcd g) :
  Sq BQ x/\Sm BN x.den/\Sq BQ y/\Sm BN y.den/\(Sm BN x.den/\Sm BN y.den)/\Sq BQ x/\(Sm BN x.den/\Sm BN g/\g≠0)/\Sq BQ y/\(Sm BN y.den/\Sm BN g/\g≠0)/\(Sm BZ x.num.natAbs/\Sm BZ b)/\(Sm BZ y.num.natAbs/\Sm BZ a)/\(Sm BZ (x.num*(b:Int)).natAbs/\Sm BZ (y.num*(a:Int)).natAbs)/\Sm BN g/\(Sm BN u.natAbs/\Sm BN g)/\(Sm BZ u.natAbs/\Sm BZ h/\h≠0/\h∣u.natAbs)/\Sq BQ y/\(Sm BN y.den/\Sm BN h/\h≠0)/\(Sm BN a/\Sm BN (y.den/h))/\(Sm BN (a*(y.den/h))/\a*(y.den/h)≠0/\(u/(h:Int)).natAbs.Coprime (a*(y.den/h)))/\mkRat (u/(h:Int)) (a*(y.den/h))=x+y:=by
 obtain ⟨k1,k2⟩:=add_eq x y hg ha hb hu hh
 have gp:g≠0:=by rw [hg];exact C8 (GQ _ x.den_pos)
 have hp:h≠0:=by rw [hh];exact C8 (yj _ (tO gp))
 have sg:Sm BQ g:=by rw [hg];exact afA hx.den x.den_nz
 have sh:Sm BQ h:=by rw [hh];exact zZ sg gp
 have sa:Sm BQ a:=by rw [ha];exact hx.den.div _
 have sb:Sm BQ b:=by rw [hb];exact hy.den.div _
 have p1:Sm (BQ+BQ) (x.num*(b:Int)).natAbs:=by rw [pj];exact hx.num.mul sb
 have p2:Sm (BQ+BQ) (y.num*(a:Int)).natAbs:=by rw [pj];exact hy.num.mul sa
 have su:Sm (BQ+BQ+1) u.natAbs:=by rw [hu];exact (p1.S7 p2).le (by omega)
 have l1:BQ<=BN:=by unfold BQ BN;omega
 have l2:BQ<=BZ:=by unfold BQ BZ;omega
 have l3:BQ+BQ+1<=BZ:=by unfold BQ BZ;omega
 have l4:BQ+BQ+1<=BN:=by unfold BQ BN;omega
 rw [k1,k2]
 exact ⟨hx,hx.den.le l1,hy,hy.den.le l1,⟨hx.den.le l1,hy.den.le l1⟩,hx,⟨hx.den.le l1,sg.le l1,gp⟩,hy,⟨hy.den.le l1,sg.le l1,gp⟩,⟨hx.num.le l2,sb.le l2⟩,⟨hy.num.le l2,sa.le l2⟩,⟨p1.le (by omega),p2.le (by omega)⟩,sg.le l1,⟨su.le l4,sg.le l1⟩,⟨su.le l3,sh.le l2,hp,by rw [hh];exact yw _ _⟩,hy,⟨hy.den.le l1,sh.le l1,hp⟩,⟨sa.le l1,(hy.den.div _).le l1⟩,⟨(hx.add hy).den.le l4,(x+y).den_nz,(x+y).reduced⟩,uX _⟩
theorem P2 {x y:Rat} (hx:Sq BQ x) (hy:Sq BQ y) {g h:Nat} (hg:g=x.num.natAbs.gcd y.den) (hh:h=y.num.natAbs.gcd x.den) :
  Sq BQ y/\Sm BN y.den/\(Sm BN x.num.natAbs/\Sm BN y.den)/\Sq BQ x/\Sm BN x.den/\(Sm BN y.num.natAbs/\Sm BN x.den)/\(Sm BZ x.num.natAbs/\Sm BZ g/\g≠0/\g∣x.num.natAbs)/\(Sm BZ y.num.natAbs/\Sm BZ h/\h≠0/\h∣y.num.natAbs)/\(Sm BZ (x.num/(g:Int)).natAbs/\Sm BZ (y.num/(h:Int)).natAbs)/\Sq BQ x/\(Sm BN x.den/\Sm BN h/\h≠0)/\Sq BQ y/\(Sm BN y.den/\Sm BN g/\g≠0)/\(Sm BN (x.den/h)/\Sm BN (y.den/g))/\(Sm BN (x.den/h*(y.den/g))/\x.den/h*(y.den/g)≠0/\(x.num/(g:Int)*(y.num/(h:Int))).natAbs.Coprime (x.den/h*(y.den/g)))/\mkRat (x.num/(g:Int)*(y.num/(h:Int))) (x.den/h*(y.den/g))=x*y:=by
 obtain ⟨k1,k2⟩:=mul_eq x y hg hh
 have gp:g≠0:=by rw [hg];exact C8 (yj _ y.den_pos)
 have hp:h≠0:=by rw [hh];exact C8 (yj _ x.den_pos)
 have sg:Sm BQ g:=by rw [hg];exact zZ hy.den y.den_nz
 have sh:Sm BQ h:=by rw [hh];exact zZ hx.den x.den_nz
 have dg:g∣x.num.natAbs:=by rw [hg];exact yw _ _
 have dh:h∣y.num.natAbs:=by rw [hh];exact yw _ _
 have l1:BQ<=BN:=by unfold BQ BN;omega
 have l2:BQ<=BZ:=by unfold BQ BZ;omega
 have l4:BQ+BQ<=BN:=by unfold BQ BN;omega
 rw [k1,k2]
 exact ⟨hy,hy.den.le l1,⟨hx.num.le l1,hy.den.le l1⟩,hx,hx.den.le l1,⟨hy.num.le l1,hx.den.le l1⟩,⟨hx.num.le l2,sg.le l2,gp,dg⟩,⟨hy.num.le l2,sh.le l2,hp,dh⟩,⟨(hx.num.S9 (tO gp) dg).le l2,(hy.num.S9 (tO hp) dh).le l2⟩,hx,⟨hx.den.le l1,sh.le l1,hp⟩,hy,⟨hy.den.le l1,sg.le l1,gp⟩,⟨(hx.den.div _).le l1,(hy.den.div _).le l1⟩,⟨(hx.mul hy).den.le l4,(x*y).den_nz,(x*y).reduced⟩,uX _⟩
noncomputable def B2:List az:=vm::Jw::sj::vn::VR::JG::JL::[]
theorem lL:bd B2:=⟨qS,zT,nG,qT,PM,zW,zX,trivial⟩
def fqWhole:CF
 | [.k .q x]=>some (some (Sq BQ x),.k .bool (decide (x.den=1)),[])
 | _=>none
def FI:az:=⟨98,false,fqWhole⟩
def JP (x:Rat):bk:=⟨nU,nL,nR,nU⟩
def xI (x:Rat):Prop:=Sm BN (d1 x.den)/\decide ((↑(bl (d1 x.den)):Int)=0)=decide (x.den=(1:Nat))
theorem FJ (x:Rat):aw B2 [] (JP x) Tryz.f98 (.k .bool (decide (x.den=1))) [.k .q x]=xI x:=by kernel_rfl
theorem FK (x:Rat) (hg:Sq BQ x):xI x:=by unfold xI;exact ⟨(afz hg.den).le (by unfold BQ BN;omega),Dh.2 (ZK.trans FH)⟩
theorem FL:ah (cfg []) FI:=jl lL bp Tryz.func98 (by kernel_rfl) (by kernel_rfl) rfl (by kernel_rfl) fun args g r hn hc hg hf=>by
 replace hc:fqWhole args=some (g,r,hn):=hc;unfold fqWhole at hc;split at hc
 ·obtain ⟨rfl,rfl,rfl⟩:=aN hc;exact ⟨rfl,by kernel_rfl,_,(FJ ..).mpr (FK _ hg)⟩
 ·cases hc
def fqOver:CF
 | [.k .nat a,.k .nat b]=>some (some (Sm BN a/\Sm BN b/\b≠0),.k .nat (a/b:Nat),[])
 | _=>none
def Nh:az:=⟨103,false,fqOver⟩
def P3 (a b:Nat):bk:=⟨nU,nL,nR,nU⟩
def B3 (a b:Nat):Prop:=Sm BN b/\bif decide ((↑(bl b):Int)=(1:Int)) then a=a/b else (Sm BN a/\Sm BN b)/\a/b=a/b
theorem JQ (a b:Nat):aw B2 [] (P3 a b) Tryz.f103 (.k .nat (a/b:Nat)) [.k .nat a,.k .nat b]=B3 a b:=by kernel_rfl
theorem JR (a b:Nat) (hg:Sm BN a/\Sm BN b/\b≠0):B3 a b:=by unfold B3;obtain ⟨h1,h2,h3⟩:=hg;exact ⟨h2,aH (fun h=>by rw [B1.1 h,Nat.div_one]) fun _=>⟨⟨h1,h2⟩,rfl⟩⟩
theorem JS:ah (cfg []) Nh:=jl lL bp Tryz.func103 (by kernel_rfl) (by kernel_rfl) rfl (by kernel_rfl) fun args g r hn hc hg hf=>by
 replace hc:fqOver args=some (g,r,hn):=hc;unfold fqOver at hc;split at hc
 ·obtain ⟨rfl,rfl,rfl⟩:=aN hc;exact ⟨rfl,by kernel_rfl,_,(JQ ..).mpr (JR _ _ hg)⟩
 ·cases hc
def fqTimes:CF
 | [.k .z n,.k .nat d]=>some (some (Sm BZ n.natAbs/\Sm BZ d),.k .z (n*(d:Int):Int),[])
 | _=>none
def FM:az:=⟨111,false,fqTimes⟩
def JT (n:Int) (d:Nat):bk:=⟨fun key_=>match key_ with | 1=>3 | _=>0,nL,nR,nU⟩
def xJ (n:Int) (d:Nat):Prop:=Sm BN d/\(Sm BZ n.natAbs/\Sm BZ (bW false d).natAbs)/\n*bW false d=n*(↑d:Int)
theorem FN (n:Int) (d:Nat):aw B2 [] (JT n d) Tryz.f111 (.k .z (n*(d:Int):Int)) [.k .z n,.k .nat d]=xJ n d:=by kernel_rfl
theorem FO (n:Int) (d:Nat) (hg:Sm BZ n.natAbs/\Sm BZ d):xJ n d:=by unfold xJ;exact ⟨hg.2.le (by unfold BZ BN;omega),hg,rfl⟩
theorem FP:ah (cfg []) FM:=jl lL bp Tryz.func111 (by kernel_rfl) (by kernel_rfl) rfl (by kernel_rfl) fun args g r hn hc hg hf=>by
 replace hc:fqTimes args=some (g,r,hn):=hc;unfold fqTimes at hc;split at hc
 ·obtain ⟨rfl,rfl,rfl⟩:=aN hc;exact ⟨rfl,by kernel_rfl,_,(FN ..).mpr (FO _ _ hg)⟩
 ·cases hc
def B4:CF
 | [.k .z n,.k .nat d]=>some (some (Sm BN d/\d≠0/\n.natAbs.Coprime d),.k .q (mkRat n d),[])
 | _=>none
def Ni:az:=⟨101,false,B4⟩
def P4 (n:Int) (d:Nat):bk:=⟨nU,nL,nR,nU⟩
def B5 (n:Int) (d:Nat):Prop:=Sm BN d/\bif decide ((↑(bl d):Int)=(1:Int)) then ((0:Nat)=(0:Nat)\/(0:Nat)≠(1:Nat)/\n.natAbs.Coprime (0:Nat))/\qOf n (0:Nat)=mkRat n d else (d
 = (0:Nat)\/d≠(1:Nat)/\n.natAbs.Coprime d)/\qOf n d=mkRat n d
theorem JU (n:Int) (d:Nat):aw B2 [] (P4 n d) Tryz.f101 (.k .q (mkRat n d)) [.k .z n,.k .nat d]=B5 n d:=by kernel_rfl
theorem JV (n:Int) (d:Nat) (hg:Sm BN d/\d≠0/\n.natAbs.Coprime d):B5 n d:=by unfold B5;obtain ⟨h1,h2,h3⟩:=hg;exact ⟨h1,aH (fun h=>⟨.inl rfl,by rw [fN,B1.1 h,Ho]⟩) fun h=>⟨.inr ⟨fun e=>h (B1.2 e),h3⟩,adb h2⟩⟩
theorem JW:ah (cfg []) Ni:=jl lL bp Tryz.func101 (by kernel_rfl) (by kernel_rfl) rfl (by kernel_rfl) fun args g r hn hc hg hf=>by
 replace hc:B4 args=some (g,r,hn):=hc;unfold B4 at hc;split at hc
 ·obtain ⟨rfl,rfl,rfl⟩:=aN hc;exact ⟨rfl,by kernel_rfl,_,(JU ..).mpr (JV _ _ hg)⟩
 ·cases hc
def fqOf:CF
 | [.k (.int .i64) n]=>some (some (akv n),.k .q ((n:Int):Rat),[])
 | _=>none
def aa5:az:=⟨49,false,fqOf⟩
def ZN (n:Int):bk:=⟨nU,nL,nR,nU⟩
def V0 (n:Int):Prop:=((-9223372036854775808:Int)<=n/\n<=(9223372036854775807:Int))/\((0:Nat)=(0:Nat)\/(0:Nat)≠(1:Nat)/\n.natAbs.Coprime (0:Nat))/\qOf n (0:Nat) =
 (↑n:Rat)
theorem V2 (n:Int):aw B2 [] (ZN n) Tryz.f49 (.k .q ((n:Int):Rat)) [.k (.int .i64) n]=V0 n:=by kernel_rfl
theorem V4 (n:Int) (hg:akv n):V0 n:=by unfold V0;exact ⟨hg,.inl rfl,fN n⟩
theorem V5:ah (cfg []) aa5:=jl lL bp Tryz.func49 (by kernel_rfl) (by kernel_rfl) rfl (by kernel_rfl) fun args g r hn hc hg hf=>by
 replace hc:fqOf args=some (g,r,hn):=hc;unfold fqOf at hc;split at hc
 ·obtain ⟨rfl,rfl,rfl⟩:=aN hc;exact ⟨rfl,by kernel_rfl,_,(V2 ..).mpr (V4 _ hg)⟩
 ·cases hc
def JX:CF
 | [.k .q x]=>some (none,.k .z x.num,[])
 | _=>none
def V6:az:=⟨95,false,JX⟩
def V7 (x:Rat):bk:=⟨nU,nL,nR,nU⟩
def V8 (x:Rat):Prop:=x.num=x.num
theorem P5 (x:Rat):aw B2 [] (V7 x) Tryz.f95 (.k .z x.num) [.k .q x]=V8 x:=by kernel_rfl
theorem P6 (x:Rat) (hf:cJ [.k .q x]):V8 x:=by rfl
theorem P7:ah (cfg []) V6:=jl lL bp Tryz.func95 (by kernel_rfl) (by kernel_rfl) rfl (by kernel_rfl) fun args g r hn hc hg hf=>by
 replace hc:JX args=some (g,r,hn):=hc;unfold JX at hc;split at hc
 ·obtain ⟨rfl,rfl,rfl⟩:=aN hc;exact ⟨rfl,by kernel_rfl,_,(P5 ..).mpr (P6 _ hf)⟩
 ·cases hc
def B6:CF
 | [.k .q x]=>some (some (Sq BQ x),.k (.int .i64) (x.num.sign:Int),[])
 | _=>none
def Nj:az:=⟨61,false,B6⟩
def P8 (x:Rat):bk:=⟨nU,nL,nR,nU⟩
def Nk (x:Rat):Prop:=Sm BN x.num.natAbs/\x.num.sign=x.num.sign
theorem JY (x:Rat):aw B2 [] (P8 x) Tryz.f61 (.k (.int .i64) (x.num.sign:Int)) [.k .q x]=Nk x:=by kernel_rfl
theorem JZ (x:Rat) (hg:Sq BQ x):Nk x:=by exact ⟨hg.num.le (by unfold BQ BN;omega),rfl⟩
theorem J0:ah (cfg []) Nj:=jl lL bp Tryz.func61 (by kernel_rfl) (by kernel_rfl) rfl (by kernel_rfl) fun args g r hn hc hg hf=>by
 replace hc:B6 args=some (g,r,hn):=hc;unfold B6 at hc;split at hc
 ·obtain ⟨rfl,rfl,rfl⟩:=aN hc;exact ⟨rfl,by kernel_rfl,_,(JY ..).mpr (JZ _ hg)⟩
 ·cases hc
def J1:CF
 | [.k .q x]=>some (some (Sq BQ x),.k .q (-x:Rat),[])
 | _=>none
def V9:az:=⟨56,false,J1⟩
def Wa (x:Rat):bk:=⟨fun key_=>match key_ with | 1=>5 | _=>0,nL,nR,nU⟩
def J2 (x:Rat):Prop:=Sm BN x.num.natAbs/\(d1 x.den=(0:Nat)\/d1 x.den≠(1:Nat)/\(-x.num).natAbs.Coprime (d1 x.den))/\qOf (-x.num) (d1 x.den) = -x
theorem P9 (x:Rat):aw B2 [] (Wa x) Tryz.f56 (.k .q (-x:Rat)) [.k .q x]=J2 x:=by kernel_rfl
theorem Qb (x:Rat) (hg:Sq BQ x):J2 x:=by
 unfold J2;refine ⟨hg.num.le (by unfold BQ BN;omega),?_,?_⟩
 ·by_cases e:x.den=1
  ·exact .inl (FH.2 e)
  ·refine .inr ?_;unfold d1;rw [bD e,KW];exact ⟨e,x.reduced⟩
 ·exact ZL (-x)
theorem Qc:ah (cfg []) V9:=jl lL bp Tryz.func56 (by kernel_rfl) (by kernel_rfl) rfl (by kernel_rfl) fun args g r hn hc hg hf=>by
 replace hc:J1 args=some (g,r,hn):=hc;unfold J1 at hc;split at hc
 ·obtain ⟨rfl,rfl,rfl⟩:=aN hc;exact ⟨rfl,by kernel_rfl,_,(P9 ..).mpr (Qb _ hg)⟩
 ·cases hc
noncomputable def ZO:List az:=FI::Nh::FM::Ni::Nj::V9::Nf::Ju::sj::JA::vn::VP::JG::VV::JL::VY::[]
theorem B7:bd ZO:=⟨FL,JS,FP,JW,J0,Qc,xG,zR,nG,zV,qT,PJ,zW,PT,zX,PZ,trivial⟩
def J3:CF
 | [.k .q x]=>some (some (Sq BQ x),.k .nat x.den,[])
 | _=>none
def J4:az:=⟨97,false,J3⟩
def Wb (x:Rat):bk:=⟨nU,nL,nR,nU⟩
def J5 (x:Rat):Prop:=Sq BQ x/\bif decide (x.den=(1:Nat)) then ((0:Int)<=(1:Int)/\(1:Int)<(18446744073709551616:Int))/\Int.toNat (1:Int)=x.den else d1 x.den=x.den
theorem Qd (x:Rat):aw ZO [] (Wb x) Tryz.f97 (.k .nat x.den) [.k .q x]=J5 x:=by kernel_rfl
theorem Qe (x:Rat) (hg:Sq BQ x):J5 x:=by unfold J5;refine ⟨hg,aH (fun h=>⟨by omega,h.symm⟩) fun h=>?_⟩;unfold d1;exact bD h
theorem z6:ah (cfg []) J4:=jl B7 bp Tryz.func97 (by kernel_rfl) (by kernel_rfl) rfl (by kernel_rfl) fun args g r hn hc hg hf=>by
 replace hc:J3 args=some (g,r,hn):=hc;unfold J3 at hc;split at hc
 ·obtain ⟨rfl,rfl,rfl⟩:=aN hc;exact ⟨rfl,by kernel_rfl,_,(Qd ..).mpr (Qe _ hg)⟩
 ·cases hc
def B8:CF
 | [.k .z n,.k .nat b]=>some (some (Sm BZ n.natAbs/\Sm BZ b/\b≠0/\b∣n.natAbs),.k .z (n/(b:Int):Int),[])
 | _=>none
def Nl:az:=⟨102,false,B8⟩
def Qf (n:Int) (b:Nat):bk:=⟨fun key_=>match key_ with | 1=>6 | _=>0,nL,nR,nU⟩
def B9 (n:Int) (b:Nat):Prop:=Sm BN n.natAbs/\(Sm BN n.natAbs/\Sm BN b/\b≠0)/\Sm BN (n.natAbs/b)/\bW (decide (n.sign<0)) (n.natAbs/b)=n/(↑b:Int)
theorem J6 (n:Int) (b:Nat):aw ZO [] (Qf n b) Tryz.f102 (.k .z (n/(b:Int):Int)) [.k .z n,.k .nat b]=B9 n b:=by kernel_rfl
theorem J7 (n:Int) (b:Nat) (hg:Sm BZ n.natAbs/\Sm BZ b/\b≠0/\b∣n.natAbs):B9 n b:=by
 unfold B9;obtain ⟨h1,h2,h3,h4⟩:=hg;have l:BZ<=BN:=by unfold BZ BN;omega
 refine ⟨h1.le l,⟨h1.le l,h2.le l,h3⟩,(h1.div _).le l,?_⟩;rw [Dh.2 (show n.sign<0↔n<0 from Hi)];exact My (tO h3) h4
theorem J8:ah (cfg []) Nl:=jl B7 bp Tryz.func102 (by kernel_rfl) (by kernel_rfl) rfl (by kernel_rfl) fun args g r hn hc hg hf=>by
 replace hc:B8 args=some (g,r,hn):=hc;unfold B8 at hc;split at hc
 ·obtain ⟨rfl,rfl,rfl⟩:=aN hc;exact ⟨rfl,by kernel_rfl,_,(J6 ..).mpr (J7 _ _ hg)⟩
 ·cases hc
noncomputable def LF3:List az:=J4::Nl::ZO
theorem Nn:bd LF3:=⟨z6,J8,B7⟩
def J9:CF
 | [.k .z n,.k .nat d]=>some (some (Sm BZ n.natAbs/\Sm BZ d/\d≠0),.k .q (mkRat n d),[])
 | _=>none
def Wc:az:=⟨113,false,J9⟩
def Wd (n:Int) (d:Nat):bk:=⟨fun key_=>match key_ with | 1=>5 | 2=>5 | _=>0,nL,nR,nU⟩
def We (n:Int) (d:Nat):Prop:=
 let t1:=bW false d;
 Sm BN d/\(Sm BN n.natAbs/\Sm BN t1.natAbs)/\(Sm BZ n.natAbs/\Sm BZ (n.natAbs.gcd t1.natAbs)/\n.natAbs.gcd t1.natAbs≠(0:Nat)/\n.natAbs.gcd t1.natAbs∣n.natAbs)
 /\ (Sm BN d/\Sm BN (n.natAbs.gcd t1.natAbs)/\n.natAbs.gcd t1.natAbs≠0)/\(Sm BN (d/n.natAbs.gcd t1.natAbs)/\d/n.natAbs.gcd t1.natAbs≠(0:Nat)/\(n /
 (↑(n.natAbs.gcd t1.natAbs):Int)).natAbs.Coprime (d/n.natAbs.gcd t1.natAbs))/\mkRat (n/(↑(n.natAbs.gcd t1.natAbs):Int)) (d/n.natAbs.gcd t1.natAbs)=mkRat n d
theorem Qg (n:Int) (d:Nat):aw LF3 [] (Wd n d) Tryz.f113 (.k .q (mkRat n d)) [.k .z n,.k .nat d]=We n d:=by kernel_rfl
theorem Qh (n:Int) (d:Nat) (hg:Sm BZ n.natAbs/\Sm BZ d/\d≠0):We n d:=by
 obtain ⟨h1,h2,h3⟩:=hg;have l:BZ<=BN:=by unfold BZ BN;omega
 have gp:n.natAbs.gcd d≠0:=C8 (yj _ (tO h3));obtain ⟨k1,k2⟩:=qp n (tO h3);have sd:=h2.div (n.natAbs.gcd d);refine (show Sm BN d/\(Sm BN n.natAbs/\Sm BN d)/\(Sm BZ n.natAbs/\Sm BZ (n.natAbs.gcd d)/\n.natAbs.gcd d≠0/\n.natAbs.gcd d∣n.natAbs)/\(Sm BN d/\Sm BN (n.natAbs.gcd d)/\n.natAbs.gcd d≠0)/\(Sm BN (d/n.natAbs.gcd d)/\d/n.natAbs.gcd d≠0/\(n/((n.natAbs.gcd d:Nat):Int)).natAbs.Coprime (d/n.natAbs.gcd d))/\mkRat (n/((n.natAbs.gcd d:Nat):Int)) (d/n.natAbs.gcd d)=mkRat n d from ?_);refine ⟨h2.le l,⟨h1.le l,h2.le l⟩,⟨h1,zZ h2 h3,gp,yw _ _⟩,⟨h2.le l,(zZ h2 h3).le l,gp⟩,⟨sd.le l,?_,?_⟩,?_⟩
 ·rw [k2];exact (mkRat n d).den_nz
 ·rw [k1,k2];exact (mkRat n d).reduced
 ·rw [k1,k2];exact uX _
theorem Qi:ah (cfg []) Wc:=jl Nn bp Tryz.func113 (by kernel_rfl) (by kernel_rfl) rfl (by kernel_rfl) fun args g r hn hc hg hf=>by
 replace hc:J9 args=some (g,r,hn):=hc;unfold J9 at hc;split at hc
 ·obtain ⟨rfl,rfl,rfl⟩:=aN hc;exact ⟨rfl,by kernel_rfl,_,(Qg ..).mpr (Qh _ _ hg)⟩
 ·cases hc
noncomputable def Qj:List az:=Wc::LF3
theorem sn:bd Qj:=⟨Qi,Nn⟩
def fqMake:CF
 | [.k .z n,.k .z d]=>some (some (Sm BZ n.natAbs/\Sm BZ d.natAbs/\d≠0),T2 (.k .q ((n:Rat)/(d:Rat))) (.k .bool true),[])
 | _=>none
def No:az:=⟨69,false,fqMake⟩
def Qk (n d:Int):bk:=⟨fun key_=>match key_ with | 5=>3 | _=>0,nL,nR,nU⟩
def Ca (n d:Int):Prop:=Sm BN d.natAbs/\bif decide (d.sign=0) then ((0:Nat)=(0:Nat)\/(0:Nat)≠(1:Nat)/\(Int.natAbs (0:Int)).Coprime (0:Nat))/\qOf (0:Int) (0:Nat)
 = (↑n:Rat)/(↑d:Rat)/\false=true else Sm BN d.natAbs/\bif decide (d.sign<0) then Sm BN n.natAbs/\(Sm BZ (-n).natAbs/\Sm BZ d.natAbs/\d.natAbs≠(0 :
 Nat))/\mkRat (-n) d.natAbs=(↑n:Rat)/(↑d:Rat)/\true=true else (Sm BZ n.natAbs/\Sm BZ d.natAbs/\d.natAbs≠0)/\mkRat n d.natAbs=(↑n:Rat)/(↑d :
 Rat)/\true=true
theorem Ka (n d:Int):aw Qj [] (Qk n d) Tryz.f69 (T2 (.k .q ((n:Rat)/(d:Rat))) (.k .bool true)) [.k .z n,.k .z d]=Ca n d:=by kernel_rfl
theorem aQQ (n d:Int) (hg:Sm BZ n.natAbs/\Sm BZ d.natAbs/\d≠0):Ca n d:=by
 obtain ⟨h1,h2,h3⟩:=hg;have l:BZ<=BN:=by unfold BZ BN;omega
 unfold Ca;exact ⟨h2.le l,aH (fun h=>absurd (CZ.1 h) h3) fun _=>⟨h2.le l,aH (fun h=>⟨h1.le l,⟨h1.S8,h2,by omega⟩,Ng n (Hi.1 h),rfl⟩) fun h=>⟨⟨h1,h2,by omega⟩,mk_pos n (fun e=>h (Hi.2 e)),rfl⟩⟩⟩
theorem aNW:ah (cfg []) No:=jl sn bp Tryz.func69 (by kernel_rfl) (by kernel_rfl) rfl (by kernel_rfl) fun args g r hn hc hg hf=>by
 replace hc:fqMake args=some (g,r,hn):=hc;unfold fqMake at hc;split at hc
 ·obtain ⟨rfl,rfl,rfl⟩:=aN hc;exact ⟨rfl,by kernel_rfl,_,(Ka ..).mpr (aQQ _ _ hg)⟩
 ·cases hc
def fqCmp:CF
 | [.k .q x,.k .q y]=>some (some (Sq BQ x/\Sq BQ y),.k (.int .i64) (fS x y:Int),[])
 | _=>none
def Ke:az:=⟨120,false,fqCmp⟩
def Wf (x y:Rat):bk:=⟨fun key_=>match key_ with | 1=>10 | 3=>9 | _=>0,nL,nR,nU⟩
def so (x y:Rat):Prop:=Sq BQ x/\Sq BQ y/\bif !decide (x.num.sign=y.num.sign) then (Sm BN x.num.natAbs/\Sm BN y.num.natAbs)/\dS x.num y.num=fS x y else Sq BQ y/\(Sm BZ x.num.natAbs
 /\ Sm BZ y.den)/\Sq BQ x/\(Sm BZ y.num.natAbs/\Sm BZ x.den)/\(Sm BN (x.num*(↑y.den:Int)).natAbs/\Sm BN (y.num*(↑x.den:Int)).natAbs)/\dS (x.num*(↑y.den :
 Int)) (y.num*(↑x.den:Int))=fS x y
def Kf (x y:Rat):Prop:=Sq BQ x/\bif decide (x.den=(1:Nat)) then Sq BQ y/\bif decide (y.den=(1:Nat)) then (Sm BN x.num.natAbs/\Sm BN y.num.natAbs)/\dS x.num y.num=fS x y else
 so x y else so x y
theorem Ql (x y:Rat):aw Qj [] (Wf x y) Tryz.f120 (.k (.int .i64) (fS x y:Int)) [.k .q x,.k .q y]=Kf x y:=by kernel_rfl
theorem Qm (x y:Rat) (hg:Sq BQ x/\Sq BQ y):Kf x y:=by
 obtain ⟨h1,h2⟩:=hg;have l:BQ<=BN:=by unfold BQ BN;omega
 have l2:BQ<=BZ:=by unfold BQ BZ;omega
 have l3:BQ+BQ<=BN:=by unfold BQ BN;omega
 have hr:so x y:=by
  unfold so;refine ⟨h1,h2,dP (fun h=>⟨⟨h1.num.le l,h2.num.le l⟩,Ic h⟩) fun _=>⟨h2,⟨h1.num.le l2,h2.den.le l2⟩,h1,⟨h2.num.le l2,h1.den.le l2⟩,⟨?_,?_⟩,ot x y⟩⟩
  ·rw [pj];exact (h1.num.mul h2.den).le l3
  ·rw [pj];exact (h2.num.mul h1.den).le l3
 unfold Kf;exact ⟨h1,aH (fun e=>⟨h2,aH (fun e'=>⟨⟨h1.num.le l,h2.num.le l⟩,Om e e'⟩) fun _=>hr⟩) fun _=>hr⟩
theorem z7:ah (cfg []) Ke:=jl sn bp Tryz.func120 (by kernel_rfl) (by kernel_rfl) rfl (by kernel_rfl) fun args g r hn hc hg hf=>by
 replace hc:fqCmp args=some (g,r,hn):=hc;unfold fqCmp at hc;split at hc
 ·obtain ⟨rfl,rfl,rfl⟩:=aN hc;exact ⟨rfl,by kernel_rfl,_,(Ql ..).mpr (Qm _ _ hg)⟩
 ·cases hc
def Kg:CF
 | [.k .q x,.k .q y]=>some (some (Sq BQ x/\Sq BQ y),.k .q (x+y:Rat),[])
 | _=>none
def xK:az:=⟨64,false,Kg⟩
def Wg (x y:Rat):bk:=⟨fun key_=>match key_ with | 3=>8 | 4=>10 | 5=>10 | 6=>5 | 7=>8 | _=>0,nL,nR,nU⟩
def xL (x y:Rat):Prop:=
 let t1:=bW false y.den;
 let t2:=bW false x.den;
 let t3:=x.den/t2.natAbs.gcd t1.natAbs;
 let t4:=y.den/t2.natAbs.gcd t1.natAbs;
 let t5:=x.num*(↑t4:Int)+y.num*(↑t3:Int);
 let t6:=t2.natAbs.gcd t1.natAbs;
 let t7:=bW false t6;
 let t8:=x.den/t2.natAbs.gcd t1.natAbs*(y.den/t5.natAbs.gcd t7.natAbs);
 Sq BQ x/\Sm BN x.den/\Sq BQ y/\Sm BN y.den/\(Sm BN t2.natAbs/\Sm BN t1.natAbs)/\Sq BQ x/\(Sm BN x.den/\Sm BN t6/\t2.natAbs.gcd t1.natAbs≠0)/\Sq BQ y /\
 (Sm BN y.den/\Sm BN t6/\t2.natAbs.gcd t1.natAbs≠0)/\(Sm BZ x.num.natAbs/\Sm BZ t4)/\(Sm BZ y.num.natAbs/\Sm BZ t3)/\(Sm BZ (x.num*(↑t4:Int)).natAbs /\
 Sm BZ (y.num*(↑t3:Int)).natAbs)/\Sm BN t6/\(Sm BN t5.natAbs/\Sm BN t7.natAbs)/\(Sm BZ t5.natAbs/\Sm BZ (t5.natAbs.gcd t7.natAbs)/\t5.natAbs.gcd t7.natAbs≠(0 :
 Nat)/\t5.natAbs.gcd t7.natAbs∣t5.natAbs)/\Sq BQ y/\(Sm BN y.den/\Sm BN (t5.natAbs.gcd t7.natAbs)/\t5.natAbs.gcd t7.natAbs≠0)/\(Sm BN t3/\Sm BN (y.den /
 t5.natAbs.gcd t7.natAbs))/\(Sm BN t8/\x.den/t2.natAbs.gcd t1.natAbs*(y.den/t5.natAbs.gcd t7.natAbs)≠(0:Nat)/\(t5/(↑(t5.natAbs.gcd t7.natAbs) :
 Int)).natAbs.Coprime t8)/\mkRat (t5/(↑(t5.natAbs.gcd t7.natAbs):Int)) t8=x+y
def Kh (x y:Rat):Prop:=Sq BQ x/\bif decide (x.den=(1:Nat)) then Sq BQ y/\bif decide (y.den=(1:Nat)) then (Sm BZ x.num.natAbs/\Sm BZ y.num.natAbs)/\((0:Nat)=(0:Nat)\/(0:Nat)
 ≠ (1:Nat)/\(x.num+y.num).natAbs.Coprime (0:Nat))/\qOf (x.num+y.num) (0:Nat)=x+y else xL x y else xL x y
theorem Qn (x y:Rat):aw Qj [] (Wg x y) Tryz.f64 (.k .q (x+y:Rat)) [.k .q x,.k .q y]=Kh x y:=by kernel_rfl
theorem Qo (x y:Rat) (hg:Sq BQ x/\Sq BQ y):Kh x y:=by
 obtain ⟨h1,h2⟩:=hg;have hr:xL x y:=P0 h1 h2 rfl rfl rfl rfl rfl;have l:BQ<=BZ:=by unfold BQ BZ;omega
 unfold Kh;refine ⟨h1,aH (fun e=>⟨h2,aH (fun e'=>⟨⟨h1.num.le l,h2.num.le l⟩,.inl rfl,?_⟩) fun _=>hr⟩) fun _=>hr⟩;obtain ⟨k1,k2⟩:=Ia e e';rw [fN, <- k1];have:=uX (x+y);rw [k2,Ho] at this;exact this
theorem pI:ah (cfg []) xK:=jl sn bp Tryz.func64 (by kernel_rfl) (by kernel_rfl) rfl (by kernel_rfl) fun args g r hn hc hg hf=>by
 replace hc:Kg args=some (g,r,hn):=hc;unfold Kg at hc;split at hc
 ·obtain ⟨rfl,rfl,rfl⟩:=aN hc;exact ⟨rfl,by kernel_rfl,_,(Qn ..).mpr (Qo _ _ hg)⟩
 ·cases hc
def Ki:CF
 | [.k .q x,.k .q y]=>some (some (Sq BQ x/\Sq BQ y),.k .q (x*y:Rat),[])
 | _=>none
def xM:az:=⟨54,false,Ki⟩
def Wh (x y:Rat):bk:=⟨fun key_=>match key_ with | 3=>7 | 4=>7 | 5=>17 | _=>0,nL,nR,nU⟩
def xN (x y:Rat):Prop:=
 let t1:=y.den/x.num.natAbs.gcd (bW false y.den).natAbs;
 let t2:=bW false x.den;
 let t3:=x.den/y.num.natAbs.gcd t2.natAbs*t1;
 let t4:=y.num.natAbs.gcd t2.natAbs;
 let t5:=x.num.natAbs.gcd (bW false y.den).natAbs;
 Sq BQ y/\Sm BN y.den/\(Sm BN x.num.natAbs/\Sm BN (bW false y.den).natAbs)/\Sq BQ x/\Sm BN x.den/\(Sm BN y.num.natAbs/\Sm BN t2.natAbs)/\(Sm BZ x.num.natAbs/\Sm
 BZ t5/\x.num.natAbs.gcd (bW false y.den).natAbs≠(0:Nat)/\x.num.natAbs.gcd (bW false y.den).natAbs∣x.num.natAbs)/\(Sm BZ y.num.natAbs/\Sm BZ t4 /\
 y.num.natAbs.gcd t2.natAbs≠(0:Nat)/\y.num.natAbs.gcd t2.natAbs∣y.num.natAbs)/\(Sm BZ (x.num/(↑t5:Int)).natAbs/\Sm BZ (y.num/(↑t4:Int)).natAbs)/\Sq BQ x
 /\ (Sm BN x.den/\Sm BN t4/\y.num.natAbs.gcd t2.natAbs≠0)/\Sq BQ y/\(Sm BN y.den/\Sm BN t5/\x.num.natAbs.gcd (bW false y.den).natAbs≠0)/\(Sm BN
 (x.den/y.num.natAbs.gcd t2.natAbs)/\Sm BN t1)/\(Sm BN t3/\x.den/y.num.natAbs.gcd t2.natAbs*t1≠(0:Nat)/\(x.num/(↑t5:Int)*(y.num/(↑t4 :
 Int))).natAbs.Coprime t3)/\mkRat (x.num/(↑t5:Int)*(y.num/(↑t4:Int))) t3=x*y
def Kj (x y:Rat):Prop:=Sq BQ x/\bif decide (x.den=(1:Nat)) then Sq BQ y/\bif decide (y.den=(1:Nat)) then (Sm BZ x.num.natAbs/\Sm BZ y.num.natAbs)/\((0:Nat)=(0:Nat)\/(0:Nat)
 ≠ (1:Nat)/\(x.num*y.num).natAbs.Coprime (0:Nat))/\qOf (x.num*y.num) (0:Nat)=x*y else xN x y else xN x y
theorem Qp (x y:Rat):aw Qj [] (Wh x y) Tryz.f54 (.k .q (x*y:Rat)) [.k .q x,.k .q y]=Kj x y:=by kernel_rfl
theorem Qq (x y:Rat) (hg:Sq BQ x/\Sq BQ y):Kj x y:=by
 obtain ⟨h1,h2⟩:=hg;have hr:xN x y:=P2 h1 h2 rfl rfl;have l:BQ<=BZ:=by unfold BQ BZ;omega
 unfold Kj;refine ⟨h1,aH (fun e=>⟨h2,aH (fun e'=>⟨⟨h1.num.le l,h2.num.le l⟩,.inl rfl,?_⟩) fun _=>hr⟩) fun _=>hr⟩;obtain ⟨k1,k2⟩:=Ib e e';rw [fN, <- k1];have:=uX (x*y);rw [k2,Ho] at this;exact this
theorem pJ:ah (cfg []) xM:=jl sn bp Tryz.func54 (by kernel_rfl) (by kernel_rfl) rfl (by kernel_rfl) fun args g r hn hc hg hf=>by
 replace hc:Ki args=some (g,r,hn):=hc;unfold Ki at hc;split at hc
 ·obtain ⟨rfl,rfl,rfl⟩:=aN hc;exact ⟨rfl,by kernel_rfl,_,(Qp ..).mpr (Qq _ _ hg)⟩
 ·cases hc
noncomputable def LF5:List az:=xK::xM::Qj
theorem Np:bd LF5:=⟨pI,pJ,sn⟩
def Kk:CF
 | [.k .q x,.k .q y]=>some (some (Sq BQ x/\Sq BQ y),.k .q (x-y:Rat),[])
 | _=>none
def Cb:az:=⟨62,false,Kk⟩
def Wi (x y:Rat):bk:=⟨fun key_=>match key_ with | 1=>3 | _=>0,nL,nR,nU⟩
def Wj (x y:Rat):Prop:=Sq BQ y/\(Sq BQ x/\Sq BQ (-y))/\x + -y=x-y
theorem Qr (x y:Rat):aw LF5 [] (Wi x y) Tryz.f62 (.k .q (x-y:Rat)) [.k .q x,.k .q y]=Wj x y:=by kernel_rfl
theorem Qs (x y:Rat) (hg:Sq BQ x/\Sq BQ y):Wj x y:=by exact ⟨hg.2,⟨hg.1,hg.2.neg⟩,(Rat.sub_eq_add_neg x y).symm⟩
theorem tA:ah (cfg []) Cb:=jl Np bp Tryz.func62 (by kernel_rfl) (by kernel_rfl) rfl (by kernel_rfl) fun args g r hn hc hg hf=>by
 replace hc:Kk args=some (g,r,hn):=hc;unfold Kk at hc;split at hc
 ·obtain ⟨rfl,rfl,rfl⟩:=aN hc;exact ⟨rfl,by kernel_rfl,_,(Qr ..).mpr (Qs _ _ hg)⟩
 ·cases hc
def Kl:CF
 | [.k .q x,.k .q y]=>some (some (Sq BQ x/\Sq BQ y),T2 (.k .q (x/y:Rat)) (.k .bool (!decide ((y:Rat)=0))),[])
 | _=>none
def Wk:az:=⟨60,false,Kl⟩
def Wl (x y:Rat):bk:=⟨fun key_=>match key_ with | 3=>11 | _=>0,nL,nR,nU⟩
def Km (x y:Rat):Prop:=
 let t1:=bW (decide (y.num.sign<0)) y.den;
 Sq BQ y/\bif decide (y.num.sign=0) then ((0:Nat)=(0:Nat)\/(0:Nat)≠(1:Nat)/\(Int.natAbs (0:Int)).Coprime (0:Nat))/\qOf (0:Int) (0:Nat) =
 x/y/\false = !decide (y=0) else Sq BQ y/\Sq BQ y/\Sm BN y.den/\(Sm BN y.num.natAbs/\y.num.natAbs≠(0:Nat)/\t1.natAbs.Coprime y.num.natAbs)/\(Sq BQ x
 /\ Sq BQ (mkRat t1 y.num.natAbs))/\x*mkRat t1 y.num.natAbs=x/y/\true = !decide (y=0)
theorem Qv (x y:Rat):aw LF5 [] (Wl x y) Tryz.f60 (T2 (.k .q (x/y:Rat)) (.k .bool (!decide ((y:Rat)=0)))) [.k .q x,.k .q y]=Km x y:=by kernel_rfl
theorem Qw (x y:Rat) (hg:Sq BQ x/\Sq BQ y):Km x y:=by
 obtain ⟨h1,h2⟩:=hg;have l:BQ<=BN:=by unfold BQ BN;omega
 unfold Km;intro t1;refine ⟨h2,aH (fun h=>⟨.inl rfl,?_,?_⟩) fun h=>?_⟩
 ·have e:y=0:=Au.1 (CZ.1 h);rw [e,GA,Rat.inv_zero,GD];exact fN 0
 ·have e:y=0:=Au.1 (CZ.1 h);rw [px e];rfl
 ·have e:y≠0:=fun e=>h (by rw [e];rfl);obtain ⟨k1,k2⟩:=ZM e;have hn:y.num≠0:=fun e'=>e (Au.1 e');refine ⟨h2,h2,h2.den.le l,⟨h2.num.le l,by omega,k2⟩,⟨h1,?_⟩,?_,?_⟩
  ·rw [show mkRat t1 y.num.natAbs=y⁻¹ from k1];exact h2.inv e
  ·rw [show mkRat t1 y.num.natAbs=y⁻¹ from k1, <- GA]
  ·rw [jV e];rfl
theorem Qx:ah (cfg []) Wk:=jl Np bp Tryz.func60 (by kernel_rfl) (by kernel_rfl) rfl (by kernel_rfl) fun args g r hn hc hg hf=>by
 replace hc:Kl args=some (g,r,hn):=hc;unfold Kl at hc;split at hc
 ·obtain ⟨rfl,rfl,rfl⟩:=aN hc;exact ⟨rfl,by kernel_rfl,_,(Qv ..).mpr (Qw _ _ hg)⟩
 ·cases hc
theorem Wm {s:Bool} {g m:Nat} (hg:0<g) (h:g∣m):bW s (m/g)=bW s m/(g:Int):=by
 obtain ⟨k,rfl⟩:=h;rw [yn _ hg];have fc:(g:Int)≠0:=by omega
 cases s
 ·show ((k:Nat):Int)=((g*k:Nat):Int)/(g:Int);rw [xZ,Aw _ fc]
 ·show -((k:Nat):Int) = -((g*k:Nat):Int)/(g:Int);rw [xZ, <- Int.mul_neg,Aw _ fc]
theorem z8 (n:Int) {d:Int} (h:d≠0):mkRat (bW (!(decide (n<0) == decide (d<0))) n.natAbs) d.natAbs=(n:Rat)/(d:Rat):=by
 by_cases hd:d<0
 ·rw [<-Ng n hd];congr 1;unfold bW;by_cases hn:n<0 <;> simp [hn,hd] <;> omega
 ·rw [<-mk_pos n hd];congr 1;unfold bW;by_cases hn:n<0 <;> simp [hn,hd] <;> omega
theorem tB (n:Int) (d:Nat):(n:Rat)/(((d:Nat):Int):Rat)=mkRat n d:=by rw [<-KZ,Lb]
theorem over_self (q:Rat):((q.num:Int):Rat)/(((q.den:Nat):Int):Rat)=q:=by rw [tB,uX]
theorem mQ {a b:Nat}:0<=bG a b↔b<=a:=by unfold bG;(repeat' split) <;> omega
theorem aow (x:Rat) {y:Rat} (h0:y≠0):((x.num*((y.den:Nat):Int):Int):Rat)/((((x.den:Nat):Int)*y.num:Int):Rat)=x/y:=by
 have hx:=over_self x;have hy:=over_self y;have h1:((x.den:Nat):Rat)≠0:=by rw [ne_eq,Rat.natCast_eq_zero_iff];exact x.den_nz
 have h2:((y.den:Nat):Rat)≠0:=by rw [ne_eq,Rat.natCast_eq_zero_iff];exact y.den_nz
 have h3:((y.num:Int):Rat)≠0:=by rw [ne_eq,Rat.intCast_eq_zero_iff];exact fun e=>h0 (Au.1 e)
 conv=>rhs;rw [<-hx, <- hy]
 rw [pw,pw,Rat.intCast_natCast,Rat.intCast_natCast];generalize ((x.num:Int):Rat)=a at *
 generalize ((y.num:Int):Rat)=b at *
 generalize ((x.den:Nat):Rat)=c at *
 generalize ((y.den:Nat):Rat)=d at *
 grind
noncomputable def ZP:List az:=VG::VH::VI::aQP::aa4::VK::[]
theorem Cc:bd ZP:=⟨Py,Pz,PA,zU,VJ,PB,trivial⟩
def frI:CF
 | [.k .bool b,.k .rn n]=>some (none,.k .ri (bW b n),[])
 | _=>none
def crI:az:=⟨90,false,frI⟩
def adh (b:Bool) (n:Nat):bk:=⟨nU,nL,nR,nU⟩
def vrI (b:Bool) (n:Nat):Prop:=bif b then (decide ((0:Int)<(↑(nl n):Int))=true->n≠0)/\bW (decide ((0:Int)<(↑(nl n):Int))) n=bW b n else (false=true->n≠0) /\
 bW false n=bW b n
theorem ZQ (b:Bool) (n:Nat):aw ZP [] (adh b n) Tryz.f90 (.k .ri (bW b n)) [.k .bool b,.k .rn n]=vrI b n:=by kernel_rfl
theorem ZR (b:Bool) (n:Nat) (hf:cJ [.k .bool b,.k .rn n]):vrI b n:=by
 unfold vrI;refine nC (fun h=>?_) fun h=>?_
 ·subst h;refine ⟨fun h' e=>?_,?_⟩
  ·have:=(pC n).1 (Gk h');omega
  ·rcases dz n with e | e
   ·subst e;cases decide ((0:Int)<((nl 0:Nat):Int)) <;> rfl
   ·rw [px (show (0:Int)<((nl n:Nat):Int) from (pC n).2 e)]
 ·subst h;exact ⟨fun h=>(by cases h),rfl⟩
theorem Nq:ah (cfg []) crI:=cf Cc bp Tryz.func90 (by kernel_rfl) fun args g r hn hc hg hf=>by
 replace hc:frI args=some (g,r,hn):=hc;unfold frI at hc;split at hc
 ·obtain ⟨rfl,rfl,rfl⟩:=aN hc;cases aY (ZQ _ _) (ZR _ _ hf);exact ⟨rfl,by kernel_rfl,_,by assumption⟩
 ·cases hc
def frGcd:CF
 | [.k .rn a,.k .rn b]=>some (some (Sm BN a/\Sm BN b),.k .rn (Nat.gcd a b),[])
 | _=>none
def Wn:az:=⟨127,false,frGcd⟩
def Wo (a b:Nat):bk:=⟨nU,fun key_=>match key_ with
 | 1=>some (⟨Nat×Nat,fun p=>[(0,.k .rn p.1),(1,.k .rn p.2)],fun _=>[],fun _ p=>Sm BN p.1/\Sm BN p.2/\Nat.gcd p.1 p.2=Nat.gcd a b,fun p=>p.2⟩) | _=>none,nR,nU⟩
def Kn (a b:Nat):Prop:=∃(x0:Nat×Nat),(a=x0.fst/\b=x0.snd)/\(Sm BN x0.fst/\Sm BN x0.snd/\x0.fst.gcd x0.snd=a.gcd b)/\∀(x:Nat×Nat),Sm BN x.fst/\Sm BN x.snd/\x.fst.gcd
 x.snd=a.gcd b->bif decide ((0:Int)<(↑(nl x.snd):Int)) then (Sm BN x.fst/\Sm BN x.snd/\x.snd≠0)/\∃(x':Nat×Nat),(x.snd=x'.fst/\x.fst%x.snd
 = x'.snd)/\(Sm BN x'.fst/\Sm BN x'.snd/\x'.fst.gcd x'.snd=a.gcd b)/\x'.snd<x.snd else x.fst=a.gcd b
theorem Qy (a b:Nat):aw ZP [] (Wo a b) Tryz.f127 (.k .rn (Nat.gcd a b)) [.k .rn a,.k .rn b]=Kn a b:=by kernel_rfl
theorem Qz (a b:Nat) (hg:Sm BN a/\Sm BN b):Kn a b:=by
 unfold Kn;refine ⟨(a,b),⟨rfl,rfl⟩,⟨hg.1,hg.2,rfl⟩,fun ⟨p,q⟩ ⟨h1,h2,h3⟩=>?_⟩;dsimp only at h1 h2 h3 ⊢;refine aH (fun h=>?_) fun h=>?_
 ·have hq:=(pC q).1 h;refine ⟨⟨h1,h2,by omega⟩,(q,p%q),⟨rfl,rfl⟩,⟨h2,h1.mod _,?_⟩,nM _ hq⟩;rw [<-h3,C9 p q,K3 q p,C9]
 ·have:q=0:=by
   rcases dz q with e | e
   ·exact e
   ·exact absurd ((pC q).2 e) h
  rw [<-h3,this,KM]
theorem QA:ah (cfg []) Wn:=cf Cc bp Tryz.func127 (by kernel_rfl) fun args g r hn hc hg hf=>by
 replace hc:frGcd args=some (g,r,hn):=hc;unfold frGcd at hc;split at hc
 ·obtain ⟨rfl,rfl,rfl⟩:=aN hc;cases aY (Qy _ _) (Qz _ _ hg);exact ⟨rfl,by kernel_rfl,_,by assumption⟩
 ·cases hc
noncomputable def FQ:List az:=crI::Wn::ZP
theorem nH:bd FQ:=⟨Nq,QA,Cc⟩
def frIntOf:CF
 | [.k (.int .i64) n]=>some (some (akv n),.k .ri n,[])
 | _=>none
def FR:az:=⟨66,false,frIntOf⟩
def Ko (n:Int):bk:=⟨nU,nL,nR,nU⟩
def xO (n:Int):Prop:=bif decide (n<0) then ((0:Int)<=IntKind.u64.wrap ((0:Int)-IntKind.u64.wrap n)/\IntKind.u64.wrap ((0:Int)-IntKind.u64.wrap n)<(18446744073709551616
 : Int))/\bW true (IntKind.u64.wrap ((0:Int)-IntKind.u64.wrap n)).toNat=n else ((0:Int)<=IntKind.u64.wrap n/\IntKind.u64.wrap n<(18446744073709551616:Int))
 /\ bW false (IntKind.u64.wrap n).toNat=n
theorem FT (n:Int):aw FQ [] (Ko n) Tryz.f66 (.k .ri n) [.k (.int .i64) n]=xO n:=by kernel_rfl
theorem FU (n:Int) (hg:akv n):xO n:=by
 unfold xO;have h1 : -9223372036854775808<=n:=hg.1;have h2:n<=9223372036854775807:=hg.2;refine aH (fun h=>?_) fun h=>?_
 ·have e:IntKind.u64.wrap ((0:Int)-IntKind.u64.wrap n) = -n:=by simp [IntKind.wrap,IntKind.signed,IntKind.bits];omega
  rw [e];refine ⟨⟨by omega,by omega⟩,?_⟩;show -((Int.toNat (-n):Nat):Int)=n;omega
 ·have e:IntKind.u64.wrap n=n:=by simp [IntKind.wrap,IntKind.signed,IntKind.bits];omega
  rw [e];refine ⟨⟨by omega,by omega⟩,?_⟩;show ((Int.toNat n:Nat):Int)=n;omega
theorem FW:ah (cfg []) FR:=cf nH bp Tryz.func66 (by kernel_rfl) fun args g r hn hc hg hf=>by
 replace hc:frIntOf args=some (g,r,hn):=hc;unfold frIntOf at hc;split at hc
 ·obtain ⟨rfl,rfl,rfl⟩:=aN hc;cases aY (FT _) (FU _ hg);exact ⟨rfl,by kernel_rfl,_,by assumption⟩
 ·cases hc
def frIntSign:CF
 | [.k .ri x]=>some (none,.k (.int .i64) x.sign,[])
 | _=>none
def xP:az:=⟨121,false,frIntSign⟩
def Cd (x:Int):bk:=⟨nU,nL,nR,nU⟩
def qU (x:Int):Prop:=bif decide ((↑(nl x.natAbs):Int)=0) then (0:Int)=x.sign else bif decide (x<0) then (-1:Int)=x.sign else (1:Int)=x.sign
theorem yT (x:Int):aw FQ [] (Cd x) Tryz.f121 (.k (.int .i64) x.sign) [.k .ri x]=qU x:=by kernel_rfl
theorem yU (x:Int) (hf:cJ [.k .ri x]):qU x:=by
 unfold qU;have hn:=pC x.natAbs;refine aH (fun h=>?_) fun h=>aH (fun h'=>(q9 h').symm) fun h'=>?_
 ·have:x=0:=by
   rcases dz x.natAbs with e | e
   ·omega
   ·have:=hn.2 e;omega
  subst this;rfl
 ·refine (sy ?_).symm;have:0<x.natAbs:=hn.1 (by omega);omega
theorem yV:ah (cfg []) xP:=cf nH bp Tryz.func121 (by kernel_rfl) fun args g r hn hc hg hf=>by
 replace hc:frIntSign args=some (g,r,hn):=hc;unfold frIntSign at hc;split at hc
 ·obtain ⟨rfl,rfl,rfl⟩:=aN hc;cases aY (yT _) (yU _ hf);exact ⟨rfl,by kernel_rfl,_,by assumption⟩
 ·cases hc
def tC:CF
 | [.k .ri x]=>(fun (x:Int)=>some (none,.k .ri (-x:Int),[])) x
 | _=>none
def Aa:az:=⟨142,false,tC⟩
def FX (x:Int):bk:=⟨nU,nL,nR,nU⟩
def tD (x:Int):Prop:=bW (!decide (x<0)) x.natAbs = -x
theorem Ce (x:Int):aw FQ [] (FX x) Tryz.f142 (.k .ri (-x:Int)) [.k .ri x]=tD x:=by kernel_rfl
theorem Cf (x:Int) (hf:cJ [.k .ri x]):tD x:=by
 unfold tD bW;by_cases hx:x<0
 ·rw [px hx];show ((x.natAbs:Nat):Int) = -x;omega
 ·rw [jV hx];show -((x.natAbs:Nat):Int) = -x;omega
theorem Cg:ah (cfg []) Aa:=cf nH bp Tryz.func142 (by kernel_rfl) fun args g r hn hc hg hf=>by
 replace hc:tC args=some (g,r,hn):=hc;unfold tC at hc;split at hc
 ·obtain ⟨rfl,rfl,rfl⟩:=aN hc;cases aY (Ce _) (Cf _ hf);exact ⟨rfl,by kernel_rfl,_,by assumption⟩
 ·cases hc
def frIntAdd:CF
 | [.k .ri x,.k .ri y]=>some (some (Sm BN x.natAbs/\Sm BN y.natAbs),.k .ri (x+y:Int),[])
 | _=>none
def Ab:az:=⟨87,false,frIntAdd⟩
def FY (x y:Int):bk:=⟨fun key_=>match key_ with | 2=>7 | 4=>7 | 5=>7 | _=>0,nL,nR,nU⟩
def tE (x y:Int):Prop:=bif decide (x<0) == decide (y<0) then (Sm BN x.natAbs/\Sm BN y.natAbs)/\bW (decide (x<0)) (x.natAbs+y.natAbs)=x+y else (Sm BN
 x.natAbs/\Sm BN y.natAbs)/\bif decide ((0:Int)<=bG x.natAbs y.natAbs) then (Sm BN x.natAbs/\y.natAbs<=x.natAbs)/\bW (decide (x<0)) (x.natAbs -
 y.natAbs)=x+y else (Sm BN y.natAbs/\x.natAbs<=y.natAbs)/\bW (decide (y<0)) (y.natAbs-x.natAbs)=x+y
theorem Ch (x y:Int):aw FQ [] (FY x y) Tryz.f87 (.k .ri (x+y:Int)) [.k .ri x,.k .ri y]=tE x y:=by kernel_rfl
theorem Ci (x y:Int) (hg:Sm BN x.natAbs/\Sm BN y.natAbs):tE x y:=by
 unfold tE;obtain ⟨h1,h2⟩:=hg;refine nC (fun h=>⟨⟨h1,h2⟩,?_⟩) fun h=>⟨⟨h1,h2⟩,aH (fun h'=>⟨⟨h1,mQ.1 h'⟩,?_⟩) fun h'=>?_⟩
 ·unfold bW;by_cases hx:x<0 <;> by_cases hy:y<0 <;> simp [hx,hy] at h ⊢ <;> omega
 ·have h':=mQ.1 h';unfold bW;by_cases hx:x<0 <;> by_cases hy:y<0 <;> simp [hx,hy] at h ⊢ <;> omega
 ·have h':¬y.natAbs<=x.natAbs:=fun e=>h' (mQ.2 e);refine ⟨⟨h2,by omega⟩,?_⟩;unfold bW;by_cases hx:x<0 <;> by_cases hy:y<0 <;> simp [hx,hy] at h ⊢ <;> omega
theorem Cj:ah (cfg []) Ab:=cf nH bp Tryz.func87 (by kernel_rfl) fun args g r hn hc hg hf=>by
 replace hc:frIntAdd args=some (g,r,hn):=hc;unfold frIntAdd at hc;split at hc
 ·obtain ⟨rfl,rfl,rfl⟩:=aN hc;cases aY (Ch _ _) (Ci _ _ hg);exact ⟨rfl,by kernel_rfl,_,by assumption⟩
 ·cases hc
def tF:CF
 | [.k .ri x,.k .ri y]=>some (some (Sm BN x.natAbs/\Sm BN y.natAbs),.k .ri (x*y:Int),[])
 | _=>none
def Ac:az:=⟨88,false,tF⟩
def FZ (x y:Int):bk:=⟨fun key_=>match key_ with | 1=>10 | _=>0,nL,nR,nU⟩
def Ad (x y:Int):Prop:=(Sm BN x.natAbs/\Sm BN y.natAbs)/\bW (!decide (x<0) == decide (y<0)) (x.natAbs*y.natAbs)=x*y
theorem Ck (x y:Int):aw FQ [] (FZ x y) Tryz.f88 (.k .ri (x*y:Int)) [.k .ri x,.k .ri y]=Ad x y:=by kernel_rfl
theorem Cl (x y:Int) (hg:Sm BN x.natAbs/\Sm BN y.natAbs):Ad x y:=by exact ⟨hg,vL rfl rfl⟩
theorem aPg:ah (cfg []) Ac:=cf nH bp Tryz.func88 (by kernel_rfl) fun args g r hn hc hg hf=>by
 replace hc:tF args=some (g,r,hn):=hc;unfold tF at hc;split at hc
 ·obtain ⟨rfl,rfl,rfl⟩:=aN hc;cases aY (Ck _ _) (Cl _ _ hg);exact ⟨rfl,by kernel_rfl,_,by assumption⟩
 ·cases hc
def frDen:CF
 | [.k .rq x]=>some (none,.k .ri ((x.den:Nat):Int),[])
 | _=>none
def Wp:az:=⟨89,false,frDen⟩
def Wq (x:Rat):bk:=⟨nU,nL,nR,nU⟩
def Wr (x:Rat):Prop:=bW false x.den=(↑x.den:Int)
theorem aRs (x:Rat):aw FQ [] (Wq x) Tryz.f89 (.k .ri ((x.den:Nat):Int)) [.k .rq x]=Wr x:=by kernel_rfl
theorem QC (x:Rat) (hf:cJ [.k .rq x]):Wr x:=by rfl
theorem QD:ah (cfg []) Wp:=cf nH bp Tryz.func89 (by kernel_rfl) fun args g r hn hc hg hf=>by
 replace hc:frDen args=some (g,r,hn):=hc;unfold frDen at hc;split at hc
 ·obtain ⟨rfl,rfl,rfl⟩:=aN hc;cases aY (aRs _) (QC _ hf);exact ⟨rfl,by kernel_rfl,_,by assumption⟩
 ·cases hc
noncomputable def LR3:List az:=FR::xP::Aa::Ab::Ac::Wp::FQ
theorem Nr:bd LR3:=⟨FW,yV,Cg,Cj,aPg,QD,nH⟩
def tG:CF
 | [.k .ri x,.k .ri y]=>some (some (Sm BN x.natAbs/\Sm BN y.natAbs),.k .ri (x-y:Int),[])
 | _=>none
def Ae:az:=⟨154,false,tG⟩
def F0 (x y:Int):bk:=⟨fun key_=>match key_ with | 1=>3 | _=>0,nL,nR,nU⟩
def Af (x y:Int):Prop:=(Sm BN x.natAbs/\Sm BN (-y).natAbs)/\x + -y=x-y
theorem Cn (x y:Int):aw LR3 [] (F0 x y) Tryz.f154 (.k .ri (x-y:Int)) [.k .ri x,.k .ri y]=Af x y:=by kernel_rfl
theorem Co (x y:Int) (hg:Sm BN x.natAbs/\Sm BN y.natAbs):Af x y:=by exact ⟨⟨hg.1,hg.2.S8⟩,by omega⟩
theorem Cq:ah (cfg []) Ae:=cf Nr bp Tryz.func154 (by kernel_rfl) fun args g r hn hc hg hf=>by
 replace hc:tG args=some (g,r,hn):=hc;unfold tG at hc;split at hc
 ·obtain ⟨rfl,rfl,rfl⟩:=aN hc;cases aY (Cn _ _) (Co _ _ hg);exact ⟨rfl,by kernel_rfl,_,by assumption⟩
 ·cases hc
noncomputable def Ws:List az:=Ae::LR3
theorem vp:bd Ws:=⟨Cq,Nr⟩
def tH:CF
 | [.k .ri x,.k .ri y]=>some (some (Sm BN x.natAbs/\Sm BN y.natAbs),.k (.int .i64) (dS x y),[])
 | _=>none
def Ag:az:=⟨126,false,tH⟩
def F3 (x y:Int):bk:=⟨nU,nL,nR,nU⟩
def Ah (x y:Int):Prop:=(Sm BN x.natAbs/\Sm BN y.natAbs)/\(x-y).sign=dS x y
theorem Cr (x y:Int):aw Ws [] (F3 x y) Tryz.f126 (.k (.int .i64) (dS x y)) [.k .ri x,.k .ri y]=Ah x y:=by kernel_rfl
theorem Cs (x y:Int) (hg:Sm BN x.natAbs/\Sm BN y.natAbs):Ah x y:=by
 refine ⟨hg,?_⟩;unfold dS;by_cases h:x<y
 ·rw [gU h];exact q9 (by omega)
 ·rw [bD h];by_cases h':x=y
  ·rw [gU h',h',Int.sub_self];rfl
  ·rw [bD h'];exact sy (by omega)
theorem Ct:ah (cfg []) Ag:=cf vp bp Tryz.func126 (by kernel_rfl) fun args g r hn hc hg hf=>by
 replace hc:tH args=some (g,r,hn):=hc;unfold tH at hc;split at hc
 ·obtain ⟨rfl,rfl,rfl⟩:=aN hc;cases aY (Cr _ _) (Cs _ _ hg);exact ⟨rfl,by kernel_rfl,_,by assumption⟩
 ·cases hc
def Cu:CF
 | [.k .ri n,.k .ri d]=>some (some (Sm BN n.natAbs/\Sm BN d.natAbs/\d≠0),.k .rq ((n:Rat)/(d:Rat)),[])
 | _=>none
def Ns:az:=⟨86,false,Cu⟩
def aRt (n d:Int):bk:=⟨nU,nL,nR,nU⟩
def Cv (n d:Int):Prop:=
 let t1:=bW (!decide (n<0) == decide (d<0)) (n.natAbs/n.natAbs.gcd d.natAbs);
 (Sm BN n.natAbs/\Sm BN d.natAbs)/\(Sm BN n.natAbs/\Sm BN (n.natAbs.gcd d.natAbs)/\n.natAbs.gcd d.natAbs≠0)/\(Sm BN d.natAbs/\Sm BN (n.natAbs.gcd d.natAbs)
 /\ n.natAbs.gcd d.natAbs≠0)/\(d.natAbs/n.natAbs.gcd d.natAbs≠(0:Nat)/\t1.natAbs.Coprime (d.natAbs/n.natAbs.gcd d.natAbs))/\mkRat t1 (d.natAbs /
 n.natAbs.gcd d.natAbs)=(↑n:Rat)/(↑d:Rat)
theorem Kq (n d:Int):aw Ws [] (aRt n d) Tryz.f86 (.k .rq ((n:Rat)/(d:Rat))) [.k .ri n,.k .ri d]=Cv n d:=by kernel_rfl
theorem Kr (n d:Int) (hg:Sm BN n.natAbs/\Sm BN d.natAbs/\d≠0):Cv n d:=by
 obtain ⟨h1,h2,h3⟩:=hg;unfold Cv;intro t1;have hd:0<d.natAbs:=by omega
 have gp:0<n.natAbs.gcd d.natAbs:=yj _ hd;have sg:=zZ (a:=n.natAbs) h2 (by omega);have e:=z8 n h3;have e1:t1=bW (!(decide (n<0) == decide (d<0))) n.natAbs/((n.natAbs.gcd d.natAbs:Nat):Int):=Wm gp (yw _ _);obtain ⟨k1,k2⟩:=qp (bW (!(decide (n<0) == decide (d<0))) n.natAbs) hd;rw [rE] at k1 k2;rw [e] at k1 k2;rw [e1,k1,k2];exact ⟨⟨h1,h2⟩,⟨h1,sg,by omega⟩,⟨h2,sg,by omega⟩,⟨Rat.den_nz _,Rat.reduced _⟩,uX _⟩
theorem Ks:ah (cfg []) Ns:=cf vp bp Tryz.func86 (by kernel_rfl) fun args g r hn hc hg hf=>by
 replace hc:Cu args=some (g,r,hn):=hc;unfold Cu at hc;split at hc
 ·obtain ⟨rfl,rfl,rfl⟩:=aN hc;cases aY (Kq _ _) (Kr _ _ hg);exact ⟨rfl,by kernel_rfl,_,by assumption⟩
 ·cases hc
def Wt:CF
 | [.k (.int .i64) n]=>some (some (akv n),.k .rq (n:Rat),[])
 | _=>none
def xQ:az:=⟨23,false,Wt⟩
def ZS (n:Int):bk:=⟨nU,nL,nR,nU⟩
def aa6 (n:Int):Prop:=((-9223372036854775808:Int)<=n/\n<=(9223372036854775807:Int))/\((0:Int)<=(1:Int)/\(1:Int)<(18446744073709551616:Int))/\(Int.toNat (1:Int)≠(0 :
 Nat)/\n.natAbs.Coprime (Int.toNat (1:Int)))/\mkRat n (Int.toNat (1:Int))=(↑n:Rat)
theorem Wu (n:Int):aw Ws [] (ZS n) Tryz.f23 (.k .rq (n:Rat)) [.k (.int .i64) n]=aa6 n:=by kernel_rfl
theorem Wv (n:Int) (hg:akv n):aa6 n:=by exact ⟨hg,by omega,⟨by decide,by simp⟩,Ho n⟩
theorem mV:ah (cfg []) xQ:=cf vp bp Tryz.func23 (by kernel_rfl) fun args g r hn hc hg hf=>by
 replace hc:Wt args=some (g,r,hn):=hc;unfold Wt at hc;split at hc
 ·obtain ⟨rfl,rfl,rfl⟩:=aN hc;cases aY (Wu _) (Wv _ hg);exact ⟨rfl,by kernel_rfl,_,by assumption⟩
 ·cases hc
def aiW:CF
 | [.k .rq x]=>(fun (x:Rat)=>some (none,.k .rq (-x:Rat),[])) x
 | _=>none
def ajK:az:=⟨106,false,aiW⟩
def ajL (x:Rat):bk:=⟨fun key_=>match key_ with | 1=>5 | _=>0,nL,nR,nU⟩
def ajM (x:Rat):Prop:=(x.den≠(0:Nat)/\(-x.num).natAbs.Coprime x.den)/\mkRat (-x.num) x.den = -x
theorem ajt (x:Rat):aw Ws [] (ajL x) Tryz.f106 (.k .rq (-x:Rat)) [.k .rq x]=ajM x:=by kernel_rfl
theorem aju (x:Rat) (hf:cJ [.k .rq x]):ajM x:=by refine ⟨⟨x.den_nz,by rw [KW];exact x.reduced⟩,?_⟩;exact uX (-x)
theorem ajv:ah (cfg []) ajK:=cf vp bp Tryz.func106 (by kernel_rfl) fun args g r hn hc hg hf=>by
 replace hc:aiW args=some (g,r,hn):=hc;unfold aiW at hc;split at hc
 ·obtain ⟨rfl,rfl,rfl⟩:=aN hc;cases aY (ajt _) (aju _ hf);exact ⟨rfl,by kernel_rfl,_,by assumption⟩
 ·cases hc
def anJ:CF
 | [.k .rq x]=>some (none,.k (.int .i64) x.num.sign,[])
 | _=>none
def aoo:az:=⟨77,false,anJ⟩
def aox (x:Rat):bk:=⟨nU,nL,nR,nU⟩
def aor (x:Rat):Prop:=x.num.sign=x.num.sign
theorem aod (x:Rat):aw Ws [] (aox x) Tryz.f77 (.k (.int .i64) x.num.sign) [.k .rq x]=aor x:=by kernel_rfl
theorem aoe (x:Rat) (hf:cJ [.k .rq x]):aor x:=by rfl
theorem aof:ah (cfg []) aoo:=cf vp bp Tryz.func77 (by kernel_rfl) fun args g r hn hc hg hf=>by
 replace hc:anJ args=some (g,r,hn):=hc;unfold anJ at hc;split at hc
 ·obtain ⟨rfl,rfl,rfl⟩:=aN hc;cases aY (aod _) (aoe _ hf);exact ⟨rfl,by kernel_rfl,_,by assumption⟩
 ·cases hc
noncomputable def Ww:List az:=Ag::Ns::ajK::Ws
theorem vq:bd Ww:=⟨Ct,Ks,ajv,vp⟩
def fdOver:CF
 | [.k (.int .i64) n,.k (.int .i64) d]=>some (some (akv n/\akv d/\d≠0),.k .rq ((n:Rat)/(d:Rat)),[])
 | _=>none
def Nt:az:=⟨58,false,fdOver⟩
def QF (n d:Int):bk:=⟨nU,nL,nR,nU⟩
def Nu (n d:Int):Prop:=((-9223372036854775808:Int)<=n/\n<=(9223372036854775807:Int))/\((-9223372036854775808:Int)<=d/\d<=(9223372036854775807:Int))/\(Sm BN n.natAbs/\Sm BN
 d.natAbs/\d≠0)/\(↑n:Rat)/(↑d:Rat)=(↑n:Rat)/(↑d:Rat)
theorem Kt (n d:Int):aw Ww [] (QF n d) Tryz.f58 (.k .rq ((n:Rat)/(d:Rat))) [.k (.int .i64) n,.k (.int .i64) d]=Nu n d:=by kernel_rfl
theorem Ku (n d:Int) (hg:akv n/\akv d/\d≠0):Nu n d:=by obtain ⟨⟨a1,a2⟩,⟨b1,b2⟩,h3⟩:=hg;exact ⟨⟨a1,a2⟩,⟨b1,b2⟩,⟨(Sm.lit (by omega)).le (by unfold BN;omega),(Sm.lit (by omega)).le (by unfold BN;omega),h3⟩,rfl⟩
theorem xR:ah (cfg []) Nt:=cf vq bp Tryz.func58 (by kernel_rfl) fun args g r hn hc hg hf=>by
 replace hc:fdOver args=some (g,r,hn):=hc;unfold fdOver at hc;split at hc
 ·obtain ⟨rfl,rfl,rfl⟩:=aN hc;cases aY (Kt _ _) (Ku _ _ hg);exact ⟨rfl,by kernel_rfl,_,by assumption⟩
 ·cases hc
def fdAdd:CF
 | [.k .rq x,.k .rq y]=>some (some (Sq BQ x/\Sq BQ y),.k .rq (x+y:Rat),[])
 | _=>none
def Kv:az:=⟨44,false,fdAdd⟩
def Wx (x y:Rat):bk:=⟨fun key_=>match key_ with | 1=>15 | _=>0,nL,nR,nU⟩
def Wy (x y:Rat):Prop:=(Sm BN x.num.natAbs/\Sm BN (↑y.den:Int).natAbs)/\(Sm BN y.num.natAbs/\Sm BN (↑x.den:Int).natAbs)/\(Sm BN (x.num*(↑y.den:Int)).natAbs/\Sm BN (y.num*(↑x.den
 : Int)).natAbs)/\(Sm BN x.den/\Sm BN y.den)/\(Sm BN (x.num*(↑y.den:Int)+y.num*(↑x.den:Int)).natAbs/\Sm BN (bW false (x.den*y.den)).natAbs/\bW false
 (x.den*y.den)≠0)/\(↑(x.num*(↑y.den:Int)+y.num*(↑x.den:Int)):Rat)/(↑(bW false (x.den*y.den)):Rat)=x+y
theorem QG (x y:Rat):aw Ww [] (Wx x y) Tryz.f44 (.k .rq (x+y:Rat)) [.k .rq x,.k .rq y]=Wy x y:=by kernel_rfl
theorem QH (x y:Rat) (hg:Sq BQ x/\Sq BQ y):Wy x y:=by
 obtain ⟨h1,h2⟩:=hg;have l:BQ<=BN:=by unfold BQ BN;omega
 have l2:BQ+BQ+1<=BN:=by unfold BQ BN;omega
 have p1:Sm (BQ+BQ) (x.num*((y.den:Nat):Int)).natAbs:=by rw [pj];exact h1.num.mul h2.den
 have p2:Sm (BQ+BQ) (y.num*((x.den:Nat):Int)).natAbs:=by rw [pj];exact h2.num.mul h1.den
 refine ⟨⟨h1.num.le l,h2.den.le l⟩,⟨h2.num.le l,h1.den.le l⟩,⟨p1.le (by omega),p2.le (by omega)⟩,⟨h1.den.le l,h2.den.le l⟩,⟨(p1.S7 p2).le (by omega),(h1.den.mul h2.den).le (by omega),?_⟩,?_⟩
 ·have:=Ax x.den_pos y.den_pos;show ((x.den*y.den:Nat):Int)≠0;omega
 ·exact (tB _ (x.den*y.den)).trans (Lf x y).symm
theorem Ai:ah (cfg []) Kv:=cf vq bp Tryz.func44 (by kernel_rfl) fun args g r hn hc hg hf=>by
 replace hc:fdAdd args=some (g,r,hn):=hc;unfold fdAdd at hc;split at hc
 ·obtain ⟨rfl,rfl,rfl⟩:=aN hc;cases aY (QG _ _) (QH _ _ hg);exact ⟨rfl,by kernel_rfl,_,by assumption⟩
 ·cases hc
def Kw:CF
 | [.k .rq x,.k .rq y]=>some (some (Sq BQ x/\Sq BQ y),.k .rq (x*y:Rat),[])
 | _=>none
def Kx:az:=⟨45,false,Kw⟩
def Wz (x y:Rat):bk:=⟨fun key_=>match key_ with | 1=>9 | _=>0,nL,nR,nU⟩
def WA (x y:Rat):Prop:=(Sm BN x.num.natAbs/\Sm BN y.num.natAbs)/\(Sm BN x.den/\Sm BN y.den)/\(Sm BN (x.num*y.num).natAbs/\Sm BN (bW false (x.den*y.den)).natAbs/\bW false (x.den *
 y.den)≠0)/\(↑(x.num*y.num):Rat)/(↑(bW false (x.den*y.den)):Rat)=x*y
theorem QI (x y:Rat):aw Ww [] (Wz x y) Tryz.f45 (.k .rq (x*y:Rat)) [.k .rq x,.k .rq y]=WA x y:=by kernel_rfl
theorem QJ (x y:Rat) (hg:Sq BQ x/\Sq BQ y):WA x y:=by
 obtain ⟨h1,h2⟩:=hg;have l:BQ<=BN:=by unfold BQ BN;omega
 have l2:BQ+BQ<=BN:=by unfold BQ BN;omega
 refine ⟨⟨h1.num.le l,h2.num.le l⟩,⟨h1.den.le l,h2.den.le l⟩,⟨(by rw [pj];exact (h1.num.mul h2.num).le l2),(h1.den.mul h2.den).le l2,?_⟩,?_⟩
 ·have:=Ax x.den_pos y.den_pos;show ((x.den*y.den:Nat):Int)≠0;omega
 ·exact (tB _ (x.den*y.den)).trans (Lg x y).symm
theorem Aj:ah (cfg []) Kx:=cf vq bp Tryz.func45 (by kernel_rfl) fun args g r hn hc hg hf=>by
 replace hc:Kw args=some (g,r,hn):=hc;unfold Kw at hc;split at hc
 ·obtain ⟨rfl,rfl,rfl⟩:=aN hc;cases aY (QI _ _) (QJ _ _ hg);exact ⟨rfl,by kernel_rfl,_,by assumption⟩
 ·cases hc
def aog:CF
 | [.k .rq x,.k .rq y]=>some (some (Sq BQ x/\Sq BQ y/\y≠0),.k .rq (x/y:Rat),[])
 | _=>none
def aoL:az:=⟨84,false,aog⟩
def aoM (x y:Rat):bk:=⟨fun key_=>match key_ with | 1=>9 | _=>0,nL,nR,nU⟩
def aoN (x y:Rat):Prop:=(Sm BN x.num.natAbs/\Sm BN (↑y.den:Int).natAbs)/\(Sm BN (↑x.den:Int).natAbs/\Sm BN y.num.natAbs)/\(Sm BN (x.num*(↑y.den:Int)).natAbs/\Sm BN ((↑x.den:Int) *
 y.num).natAbs/\(↑x.den:Int)*y.num≠0)/\(↑(x.num*(↑y.den:Int)):Rat)/(↑((↑x.den:Int)*y.num):Rat)=x/y
theorem aoy (x y:Rat):aw Ww [] (aoM x y) Tryz.f84 (.k .rq (x/y:Rat)) [.k .rq x,.k .rq y]=aoN x y:=by kernel_rfl
theorem aoz (x y:Rat) (hg:Sq BQ x/\Sq BQ y/\y≠0):aoN x y:=by
 obtain ⟨h1,h2,h0⟩:=hg;have l:BQ<=BN:=by unfold BQ BN;omega
 have l2:BQ+BQ<=BN:=by unfold BQ BN;omega
 refine ⟨⟨h1.num.le l,h2.den.le l⟩,⟨h1.den.le l,h2.num.le l⟩,⟨(by rw [pj];exact (h1.num.mul h2.den).le l2),(by rw [pj];exact (h1.den.mul h2.num).le l2),?_⟩,aow x h0⟩;exact C6 (by have:=x.den_pos;omega) fun e=>h0 (Au.1 e)
theorem aoA:ah (cfg []) aoL:=cf vq bp Tryz.func84 (by kernel_rfl) fun args g r hn hc hg hf=>by
 replace hc:aog args=some (g,r,hn):=hc;unfold aog at hc;split at hc
 ·obtain ⟨rfl,rfl,rfl⟩:=aN hc;cases aY (aoy _ _) (aoz _ _ hg);exact ⟨rfl,by kernel_rfl,_,by assumption⟩
 ·cases hc
def Ky:CF
 | [.k .rq x,.k .rq y]=>some (some (Sq BQ x/\Sq BQ y),.k (.int .i64) (fS x y:Int),[])
 | _=>none
def Kz:az:=⟨83,false,Ky⟩
def WB (x y:Rat):bk:=⟨fun key_=>match key_ with | 1=>9 | _=>0,nL,nR,nU⟩
def WC (x y:Rat):Prop:=(Sm BN x.num.natAbs/\Sm BN (↑y.den:Int).natAbs)/\(Sm BN y.num.natAbs/\Sm BN (↑x.den:Int).natAbs)/\(Sm BN (x.num*(↑y.den:Int)).natAbs/\Sm BN (y.num*(↑x.den
 : Int)).natAbs)/\dS (x.num*(↑y.den:Int)) (y.num*(↑x.den:Int))=fS x y
theorem QK (x y:Rat):aw Ww [] (WB x y) Tryz.f83 (.k (.int .i64) (fS x y:Int)) [.k .rq x,.k .rq y]=WC x y:=by kernel_rfl
theorem QL (x y:Rat) (hg:Sq BQ x/\Sq BQ y):WC x y:=by
 obtain ⟨h1,h2⟩:=hg;have l:BQ<=BN:=by unfold BQ BN;omega
 have l2:BQ+BQ<=BN:=by unfold BQ BN;omega
 exact ⟨⟨h1.num.le l,h2.den.le l⟩,⟨h2.num.le l,h1.den.le l⟩,⟨(by rw [pj];exact (h1.num.mul h2.den).le l2),(by rw [pj];exact (h2.num.mul h1.den).le l2)⟩,ot x y⟩
theorem Ak:ah (cfg []) Kz:=cf vq bp Tryz.func83 (by kernel_rfl) fun args g r hn hc hg hf=>by
 replace hc:Ky args=some (g,r,hn):=hc;unfold Ky at hc;split at hc
 ·obtain ⟨rfl,rfl,rfl⟩:=aN hc;cases aY (QK _ _) (QL _ _ hg);exact ⟨rfl,by kernel_rfl,_,by assumption⟩
 ·cases hc
noncomputable def LR6:List az:=Kv::Ww
theorem aj3:bd LR6:=⟨Ai,vq⟩
def aiY:CF
 | [.k .rq x,.k .rq y]=>some (some (Sq BQ x/\Sq BQ y),.k .rq (x-y:Rat),[])
 | _=>none
def ajN:az:=⟨85,false,aiY⟩
def ajO (x y:Rat):bk:=⟨fun key_=>match key_ with | 1=>3 | _=>0,nL,nR,nU⟩
def ajP (x y:Rat):Prop:=(Sq BQ x/\Sq BQ (-y))/\x + -y=x-y
theorem ajw (x y:Rat):aw LR6 [] (ajO x y) Tryz.f85 (.k .rq (x-y:Rat)) [.k .rq x,.k .rq y]=ajP x y:=by kernel_rfl
theorem ajx (x y:Rat) (hg:Sq BQ x/\Sq BQ y):ajP x y:=by exact ⟨⟨hg.1,hg.2.neg⟩,(Rat.sub_eq_add_neg x y).symm⟩
theorem ajy:ah (cfg []) ajN:=cf aj3 bp Tryz.func85 (by kernel_rfl) fun args g r hn hc hg hf=>by
 replace hc:aiY args=some (g,r,hn):=hc;unfold aiY at hc;split at hc
 ·obtain ⟨rfl,rfl,rfl⟩:=aN hc;cases aY (ajw _ _) (ajx _ _ hg);exact ⟨rfl,by kernel_rfl,_,by assumption⟩
 ·cases hc
end Go.Proofs.YtncndgpchogadaaGreatDoor.AM
namespace Go.Proofs.YtncndgpchogadaaGreatDoor
open Go.RowKit
theorem F4 (n:Nat) (hn:bl n<=549755813888) (w:World) :
  Calls Tryz.prog 96 #[.agg #[.int .u64 (lo (n):Nat),.string (hi (n))]] w (cA (bJ n) w):=by
 have HB:Hid (∀W,Calls Tryz.prog 133 #[.agg #[.int .u64 (lo (n):Nat),.string (hi (n))]] W (cA (jQ (gR n)) W)):=aad (fun W=>(xn n hn W).mono fun _ _ ⟨v,h1,h2,h3⟩=>⟨v,h1,jQ.Ug (by rw [b9];unfold nb;omega) h2,h3⟩)
 have HF:Hid (∀W u,jQ (gR n) u W->Calls Tryz.prog 132 #[u] W (cA (bJ n) W)):=aad (fun W u h=>by have h:=aPe (gR n) u W (by rw [b9];unfold nb;omega) h;rw [wX] at h;exact h)
 clear hn
 generalize lo n=la at *
 generalize hi n=sa at *
 go_enter Tryz.func96,Tryz.ntmps96
 go_wp2_with fail
 have hx:Ext w (w.alloc (.cells #[.int .u64 ((la:Nat):Int),.string sa] 40)):=(Ext.refl w).alloc _
 have HX:=aad hx
 clear hx
 refine (HB.out _).mono ?_
 rintro e w1 ⟨v1,rfl,fj,bU⟩
 have I0:=aad fj
 have HX1:=aad bU
 clear fj bU
 go_wp2_with fail
 refine (HF.out _ _ I0.out).mono ?_
 rintro e w3 ⟨v3,rfl,WD,hx3⟩
 have HV3:=aad WD
 clear WD
 go_wp2
 go_ret
 exact ⟨_,rfl,HV3.out,(HX.out.trans HX1.out).trans hx3⟩
end Go.Proofs.YtncndgpchogadaaGreatDoor
namespace Go.Proofs.YtncndgpchogadaaGreatDoor.AM
open Go.RowKit
def Al:az:=⟨96,false,on1 .nat N1 fun x=>.k .rn (x:Nat)⟩
theorem Cw:ah (cfg []) Al:=nB (enters_of Tryz.func96 (by kernel_rfl) rfl) (fun _=>rfl) fun F x u w hg ht hu=>by obtain rfl:=hu.lu;have hg:Sm BN x:=hg;exact aNV (F4 x (by unfold Sm BN at hg;omega) w)
theorem F5 (n:Int) {m:Int} (hm:0<m) : -m<n.tmod m/\n.tmod m<m/\n.tmod m%m=n%m:=by
 refine ⟨Int.lt_tmod_of_pos n hm,Int.tmod_lt_of_pos n hm,?_⟩;have h:=Int.tmod_add_mul_tdiv n m;conv=>rhs;rw [<-h]
 rw [Int.add_mul_emod_self_left]
theorem nI {a b:Nat}:bG a b=0↔a=b:=by unfold bG;(repeat' split) <;> omega
theorem QM {x y:Rat} (h1:x.num=y.num) (h2:x.den=y.den):x=y:=by rw [<-uX x, <- uX y,h1,h2]
theorem Sq.ratio {k:Nat} {n d:Int} (hn:Sm k n.natAbs) (hd:Sm k d.natAbs) (h0:d≠0):Sq k ((n:Rat)/(d:Rat)):=by rw [<-z8 n h0];exact H9 (by omega) (by rw [rE];exact hn) hd
noncomputable def WE:List az:=VM::Al::sj::JA::vn::crI::V6::J4::No::xQ::aQP::[]
theorem vr:bd WE:=⟨aRr,Cw,nG,zV,qT,Nq,P7,z6,aNW,mV,zU,trivial⟩
def fhPick:CF
 | [.k (.int .i64) n,.k (.int .i64) m]=>some (some (akv n/\0<m/\m<=9223372036854775807),.k (.int .i64) (n%m:Int),[])
 | _=>none
def Cy:az:=⟨59,false,fhPick⟩
def QN (n m:Int):bk:=⟨nU,nL,nR,nU⟩
def Cz (n m:Int):Prop:=m≠(0:Int)/\bif decide (n.tmod m<0) then akv (n.tmod m+m)/\n.tmod m+m=n%m else n.tmod m=n%m
theorem KA (n m:Int):aw WE [] (QN n m) Tryz.f59 (.k (.int .i64) (n%m:Int)) [.k (.int .i64) n,.k (.int .i64) m]=Cz n m:=by kernel_rfl
theorem KB (n m:Int) (hg:akv n/\0<m/\m<=9223372036854775807):Cz n m:=by
 obtain ⟨⟨h1,h2⟩,h3,h4⟩:=hg;obtain ⟨a1,a2,a3⟩:=F5 n h3;unfold Cz;refine ⟨by omega,aH (fun h=>⟨⟨by omega,by omega⟩,?_⟩) fun h=>?_⟩
 ·rw [<-a3, <- Int.add_emod_right,Int.emod_eq_of_lt (by omega) (by omega)]
 ·rw [<-a3,Int.emod_eq_of_lt (by omega) (by omega)]
theorem nJ:ah (cfg []) Cy:=cf vr bp Tryz.func59 (by kernel_rfl) fun args g r hn hc hg hf=>by
 replace hc:fhPick args=some (g,r,hn):=hc;unfold fhPick at hc;split at hc
 ·obtain ⟨rfl,rfl,rfl⟩:=aN hc;cases aY (KA _ _) (KB _ _ hg);exact ⟨rfl,by kernel_rfl,_,by assumption⟩
 ·cases hc
def fhInt:CF
 | [.k .ri x]=>some (some (Sm BN x.natAbs),.k .z x,[])
 | _=>none
def WG:az:=⟨70,false,fhInt⟩
def WH (x:Int):bk:=⟨fun key_=>match key_ with | 1=>5 | _=>0,nL,nR,nU⟩
def WI (x:Int):Prop:=Sm BN x.natAbs/\Sm BN x.natAbs/\bW (decide (x<0)) x.natAbs=x
theorem QO (x:Int):aw WE [] (WH x) Tryz.f70 (.k .z x) [.k .ri x]=WI x:=by kernel_rfl
theorem QP (x:Int) (hg:Sm BN x.natAbs):WI x:=by exact ⟨hg,hg,kS x⟩
theorem QQ:ah (cfg []) WG:=cf vr bp Tryz.func70 (by kernel_rfl) fun args g r hn hc hg hf=>by
 replace hc:fhInt args=some (g,r,hn):=hc;unfold fhInt at hc;split at hc
 ·obtain ⟨rfl,rfl,rfl⟩:=aN hc;cases aY (QO _) (QP _ hg);exact ⟨rfl,by kernel_rfl,_,by assumption⟩
 ·cases hc
def fhOutInt:CF
 | [.k .z x]=>some (some (Sm BN x.natAbs),.k .ri x,[])
 | _=>none
def Am:az:=⟨94,false,fhOutInt⟩
def F6 (x:Int):bk:=⟨fun key_=>match key_ with | 1=>4 | _=>0,nL,nR,nU⟩
def An (x:Int):Prop:=Sm BN x.natAbs/\Sm BN x.natAbs/\bW (decide (x.sign<0)) x.natAbs=x
theorem CA (x:Int):aw WE [] (F6 x) Tryz.f94 (.k .ri x) [.k .z x]=An x:=by kernel_rfl
theorem CB (x:Int) (hg:Sm BN x.natAbs):An x:=by refine ⟨hg,hg,?_⟩;rw [Dh.2 (show x.sign<0↔x<0 from Hi)];exact kS x
theorem CC:ah (cfg []) Am:=cf vr bp Tryz.func94 (by kernel_rfl) fun args g r hn hc hg hf=>by
 replace hc:fhOutInt args=some (g,r,hn):=hc;unfold fhOutInt at hc;split at hc
 ·obtain ⟨rfl,rfl,rfl⟩:=aN hc;cases aY (CA _) (CB _ hg);exact ⟨rfl,by kernel_rfl,_,by assumption⟩
 ·cases hc
noncomputable def ZT:List az:=WG::Am::WE
theorem CD:bd ZT:=⟨QQ,CC,vr⟩
def fhIn:CF
 | [.k .rq x]=>some (some (Sq BQ x),.k .q x,[])
 | _=>none
def aa7:az:=⟨29,false,fhIn⟩
def ZU (x:Rat):bk:=⟨fun key_=>match key_ with | 1=>12 | _=>0,nL,nR,nU⟩
def aa8 (x:Rat):Prop:=Sm BN x.num.natAbs/\Sm BN x.den/\Sm BN x.den/\(Sm BZ x.num.natAbs/\Sm BZ (bW false x.den).natAbs/\bW false x.den≠0)/\(↑x.num:Rat)/(↑(bW false
 x.den):Rat)=x
theorem WJ (x:Rat):aw ZT [] (ZU x) Tryz.f29 (.k .q x) [.k .rq x]=aa8 x:=by kernel_rfl
theorem WK (x:Rat) (hg:Sq BQ x):aa8 x:=by
 have l:BQ<=BN:=by unfold BQ BN;omega
 have l2:BQ<=BZ:=by unfold BQ BZ;omega
 refine ⟨hg.num.le l,hg.den.le l,hg.den.le l,⟨hg.num.le l2,hg.den.le l2,?_⟩,over_self x⟩;have:=x.den_pos;show ((x.den:Nat):Int)≠0;omega
theorem WL:ah (cfg []) aa7:=cf CD bp Tryz.func29 (by kernel_rfl) fun args g r hn hc hg hf=>by
 replace hc:fhIn args=some (g,r,hn):=hc;unfold fhIn at hc;split at hc
 ·obtain ⟨rfl,rfl,rfl⟩:=aN hc;cases aY (WJ _) (WK _ hg);exact ⟨rfl,by kernel_rfl,_,by assumption⟩
 ·cases hc
def fhOut:CF
 | [.k .q x]=>some (some (Sq BQ x),.k .rq x,[])
 | _=>none
def WM:az:=⟨51,false,fhOut⟩
def WN (x:Rat):bk:=⟨fun key_=>match key_ with | 1=>4 | _=>0,nL,nR,nU⟩
def WO (x:Rat):Prop:=Sm BN x.num.natAbs/\Sq BQ x/\Sm BN x.den/\Tg x.num x.den/\mkRat x.num x.den=x
theorem QS (x:Rat):aw ZT [] (WN x) Tryz.f51 (.k .rq x) [.k .q x]=WO x:=by kernel_rfl
theorem QT (x:Rat) (hg:Sq BQ x):WO x:=by
 have l:BQ<=BN:=by unfold BQ BN;omega
 exact ⟨hg.num.le l,hg,hg.den.le l,⟨x.den_nz,x.reduced⟩,uX x⟩
theorem QU:ah (cfg []) WM:=cf CD bp Tryz.func51 (by kernel_rfl) fun args g r hn hc hg hf=>by
 replace hc:fhOut args=some (g,r,hn):=hc;unfold fhOut at hc;split at hc
 ·obtain ⟨rfl,rfl,rfl⟩:=aN hc;cases aY (QS _) (QT _ hg);exact ⟨rfl,by kernel_rfl,_,by assumption⟩
 ·cases hc
noncomputable def LH3:List az:=WM::ZT
theorem Nv:bd LH3:=⟨QU,CD⟩
def fhSame:CF
 | [.k .q x,.k .rq y]=>some (some (Sq BQ x/\Sq BQ y),.k .bool (decide (x=y)),[])
 | _=>none
def CE:az:=⟨16,false,fhSame⟩
def QV (x y:Rat):bk:=⟨nU,nL,nR,nU⟩
def CG (x y:Rat):Prop:=Sq BQ x/\bif decide ((↑(nl y.den):Int)=0) then akv (0:Int)/\(Sm BN x.num.natAbs/\Sm BN (↑(0:Int):Rat).num.natAbs)/\bif decide (bG x.num.natAbs
 (↑(0:Int):Rat).num.natAbs=0) then bif decide (x.num<0) == decide ((↑(0:Int):Rat).num<0) then (Sm BN x.den/\Sm BN (↑(0:Int) :
 Rat).den)/\decide (bG x.den (↑(0:Int):Rat).den=0)=decide (x=y) else false=decide (x=y) else false=decide (x=y) else (Sm BN x.num.natAbs/\Sm
 BN y.num.natAbs)/\bif decide (bG x.num.natAbs y.num.natAbs=0) then bif decide (x.num<0) == decide (y.num<0) then (Sm BN x.den/\Sm BN
 y.den)/\decide (bG x.den y.den=0)=decide (x=y) else false=decide (x=y) else false=decide (x=y)
theorem KC (x y:Rat):aw LH3 [] (QV x y) Tryz.f16 (.k .bool (decide (x=y))) [.k .q x,.k .rq y]=CG x y:=by kernel_rfl
theorem KD (x y:Rat) (hg:Sq BQ x/\Sq BQ y):CG x y:=by
 obtain ⟨h1,h2⟩:=hg;have l:BQ<=BN:=by unfold BQ BN;omega
 have hn:=(pC y.den).2 y.den_pos;unfold CG;refine ⟨h1,aH (fun h=>by omega) fun _=>⟨⟨h1.num.le l,h2.num.le l⟩,aH (fun h=>nC (fun h'=>⟨⟨h1.den.le l,h2.den.le l⟩,Dh.2 ⟨fun e=>?_,fun e=>?_⟩⟩) fun h'=>?_) fun h=>?_⟩⟩
 ·have e1:=nI.1 h;have e2:decide (x.num<0)=decide (y.num<0):=by simpa using h'
  refine QM ?_ (nI.1 e);rw [<-kS x.num, <- kS y.num,e1,e2]
 ·rw [e];exact nI.2 rfl
 ·refine (jV fun e=>?_).symm;rw [e] at h';simp at h'
 ·refine (jV fun e=>h ?_).symm;rw [e];exact nI.2 rfl
theorem xS:ah (cfg []) CE:=cf Nv bp Tryz.func16 (by kernel_rfl) fun args g r hn hc hg hf=>by
 replace hc:fhSame args=some (g,r,hn):=hc;unfold fhSame at hc;split at hc
 ·obtain ⟨rfl,rfl,rfl⟩:=aN hc;cases aY (KC _ _) (KD _ _ hg);exact ⟨rfl,by kernel_rfl,_,by assumption⟩
 ·cases hc
theorem QW {w w':World} (h:fm (fun _=>False) w w'):Ext w w':=⟨h.os,h.tape,h.output,h.size,fun i hi=>h.block i hi id⟩
theorem qV {ct:az} (h:ah (cfg []) ct) {args:List AV} {g:Option Prop} {r:AV} (hc:ct.c args=some (g,r,[])) (hg:bt g) (hr:r.owns=false) {w:World} {vs:List Value} (ht:cK w) (hv:VL (fun _=>True) w dX args vs) :
  Calls Tryz.prog ct.f vs.toArray w (fun e w'=>∃v,e = .returned v/\Ext w w'/\aq (fun _=>True) w' dX r v):=by
 refine Calls.mono (h.ok args g r [] hc hg (fun _=>True) w vs ht hv) fun e w' ⟨v, β',h1,h2,h3⟩=>⟨v,h1,QW h2.fr,h3.ak (.aO (Ext.refl w')) (fun _ _ _=>trivial) fun id hu=>?_⟩
 exact absurd hu (by rw [dp id hr];simp)
theorem aq.abb {ok:Nat->Prop} {w:World} {β:Bm} {x:Rat} {v:Value} (h:∃A c B d,v = .agg #[.bool (decide (x.num<0)),.slice A (nl x.num.natAbs) c,.slice B (nl x.den) d]/\bJ x.num.natAbs (.slice A (nl x.num.natAbs) c) w/\bJ x.den (.slice B (nl x.den) d) w):aq ok w β (.k .rq x) v:=by obtain ⟨A,c,B,d,rfl,h1,h2⟩:=h;exact ⟨_,⟨_,_,rfl,h1,h2⟩,rfl⟩
theorem aq.rqv {ok:Nat->Prop} {w:World} {β:Bm} {x:Rat} {v:Value} (h:aq ok w β (.k .rq x) v):∃A c B d,v = .agg #[.bool (decide (x.num<0)),.slice A (nl x.num.natAbs) c,.slice B (nl x.den) d]/\bJ x.num.natAbs (.slice A (nl x.num.natAbs) c) w/\bJ x.den (.slice B (nl x.den) d) w:=by obtain ⟨c,⟨u,v',rfl,h1,h2⟩,hv⟩:=h;obtain ⟨A,c,e1⟩:=h1.form;obtain ⟨B,d,e2⟩:=h2.form;subst e1;subst e2;exact ⟨A,c,B,d,hv,h1,h2⟩
def dd (j:Int):Int:=if j=3 then 2 else if j=4 then 3 else if j=5 then 4 else 1
theorem Nw (j:Int):1<=dd j/\dd j<=4:=by unfold dd;(repeat' split) <;> omega
def hR (n:Int):Rat:=((n%41-20:Int):Rat)/((dd (n.tdiv 41%6):Int):Rat)
theorem KE (n:Int):Sq 64 (hR n):=by have h:=Nw (n.tdiv 41%6);exact Sq.ratio (Sm.lit (by omega)) (Sm.lit (by omega)) (by omega)
theorem Nx {n:Int} (h:akv n):akv (n.tdiv 41):=by
 obtain ⟨h1,h2⟩:=h;rcases Le n 0 with h0 | h0
 ·obtain ⟨m,rfl⟩:∃m:Int,n = -m:=⟨-n,by omega⟩
  rw [Int.neg_tdiv,Ap (by omega)];constructor <;> omega
 ·rw [Ap h0];constructor <;> omega
theorem mW {w w':World} (h:cK w) (e:Ext w w'):cK w':=h.ext e
theorem QX {w:World} {j:Int} (hj:0<=j/\j<6):(Instr.index 87 (.agg #[.int .i64 1,.int .i64 1,.int .i64 1,.int .i64 2,.int .i64 3,.int .i64 4]) (.int .i64 j)).run Tryz.prog w = .ok (.int .i64 (dd j)) w:=by
 obtain ⟨j,rfl⟩:=yo hj.1;have hs:(Tryz.prog.info? 2).map (·.size)=some 1:=by kernel_rfl
 obtain ⟨inf,hi,br⟩:=jn.1 hs;rcases j with _ | _ | _ | _ | _ | _ | j
 all_goals first | omega | simp [Instr.index,asIntOf,run_underlying Tryz.underlying87,run_underlying Tryz.underlying2,sizeOf,typeInfo,hi,br,part,dd,isAgg]
theorem ZX {w w':World} {g:Nat} {t:TypeId} {cs:List Value} (h:ar w g t cs) (hb:∀v∈cs,bf v=true) (k:bS g w w'):Kp (fun _=>False) w w':=
 ⟨k.size,fun i hi ho=>by
  rcases ho with h' | ⟨j,v,h1,h2⟩
  ·exact h'.elim
  ·refine k.block i hi fun e=>?_;injection e with e
   subst e;rw [h.cell] at h1;rw [hb v (tR h1)] at h2
   cases h2⟩
set_option maxRecDepth 20000 in
theorem KF (n:Int) (hn:akv n) (w:World) (ht:cK w):Calls Tryz.prog 19 #[.int .i64 n] w (fun e w'=>∃v,e = .returned v/\Ext w w'/\aq (fun _=>True) w' dX (.k .rq (hR n)) v):=by
 have HP1:Hid (∀W,cK W->Calls Tryz.prog 59 #[.int .i64 n,.int .i64 41] W (cg (.int .i64 (n%41)) W)):=aad fun W hT=>(qV nJ (args:=[.k (.int .i64) n,.k (.int .i64) (41:Int)]) (vs:=[.int .i64 n,.int .i64 41]) rfl ⟨hn,by decide,by decide⟩ rfl hT ⟨.mkInt _ _,.mkInt _ _,trivial⟩).mono fun e w' ⟨v,h1,h2,h3⟩=>by obtain rfl:=h3.int;exact ⟨h1,h2⟩
 have HP2:Hid (∀W,cK W->Calls Tryz.prog 59 #[.int .i64 (n.tdiv 41),.int .i64 6] W (cg (.int .i64 (n.tdiv 41%6)) W)):=aad fun W hT=>(qV nJ (args:=[.k (.int .i64) (n.tdiv 41),.k (.int .i64) (6:Int)]) (vs:=[.int .i64 (n.tdiv 41),.int .i64 6]) rfl ⟨Nx hn,by decide,by decide⟩ rfl hT ⟨.mkInt _ _,.mkInt _ _,trivial⟩).mono fun e w' ⟨v,h1,h2,h3⟩=>by obtain rfl:=h3.int;exact ⟨h1,h2⟩
 have hd:=Nw (n.tdiv 41%6);have q1:akv (n%41-20):=⟨by omega,by omega⟩
 have q2:akv (dd (n.tdiv 41%6)):=⟨by omega,by omega⟩
 have q3:dd (n.tdiv 41%6)≠0:=by omega
 have HO:Hid (∀W,cK W->Calls Tryz.prog 58 #[.int .i64 (n%41-20),.int .i64 (dd (n.tdiv 41%6))] W (fun e w'=>∃v,e = .returned v/\Ext W w'/\aq (fun _=>True) w' dX (.k .rq (hR n)) v)):=aad fun W hT=>qV xR (args:=[.k (.int .i64) (n%41-20),.k (.int .i64) (dd (n.tdiv 41%6))]) (vs:=[.int .i64 (n%41-20),.int .i64 (dd (n.tdiv 41%6))]) rfl ⟨q1,q2,q3⟩ rfl hT ⟨.mkInt _ _,.mkInt _ _,trivial⟩;have e1:IntKind.i64.wrap (n%41-20)=n%41-20:=by rw [IntKind.wrap_i64];omega
 have e2:IntKind.i64.wrap (n.tdiv 41)=n.tdiv 41:=by obtain ⟨h1,h2⟩:=Nx hn;rw [IntKind.wrap_i64];omega
 have HT:=aad ht;have h6:0<=n.tdiv 41%6/\n.tdiv 41%6<6:=by omega
 have H6:=aad h6;clear ht hd hn h6 q1 q2 q3;go_enter Tryz.func19,Tryz.ntmps19
 go_wp2_with fail
 have hx:Ext w (w.alloc (.cells #[.bool false,.slice none 0 0,.slice none 0 0] 51)):=(Ext.refl w).alloc _;have hr:=ar.new w 51 [.bool false,.slice none 0 0,.slice none 0 0];have HX:=aad hx;have HR:=aad hr;clear hx hr;refine (HP1.out _ (mW HT.out HX.out)).mono ?_;rintro e w1 ⟨rfl,bU⟩;have HX1:=aad bU;clear bU;go_wp2_with fail
 refine (HP2.out _ (mW (mW HT.out HX.out) HX1.out)).mono ?_;rintro e w2 ⟨rfl,fP⟩;have HX2:=aad fP;clear fP;go_wp2_with fail
 rw [QX H6.out];go_wp2_with fail
 refine (HO.out _ (mW (mW (mW HT.out HX.out) HX1.out) HX2.out)).mono ?_;rintro e w3 ⟨v3,rfl,hx3,WD⟩;obtain ⟨A,c,B,d,rfl,k1,k2⟩:=WD.rqv;have bx:=((HR.out.ext HX1.out).ext HX2.out).ext hx3;have r0:w3.cell? ⟨w.heap.size,0,none⟩=some (.bool false):=bx.cell 0;have r1:w3.cell? ⟨w.heap.size,1,none⟩=some (.slice none 0 0):=bx.cell 1;have r2:w3.cell? ⟨w.heap.size,2,none⟩=some (.slice none 0 0):=bx.cell 2;have f0:w3.frozen? ⟨w.heap.size,0,none⟩=false:=bx.frozen 0;have f1:w3.frozen? ⟨w.heap.size,1,none⟩=false:=bx.frozen 1;have f2:w3.frozen? ⟨w.heap.size,2,none⟩=false:=bx.frozen 2;have he:Ext w w3:=((HX.out.trans HX1.out).trans HX2.out).trans hx3;have HE:=aad he;have Pl:=aad k1;have Zt:=aad k2;clear he k1 k2 hx3 WD;go_wp2
 have hb:=aad (bS.set (bS.set (bS.set (bS.refl w.heap.size w3) 0 (.bool (decide ((hR n).num<0)))) 1 (.slice A (nl (hR n).num.natAbs) c)) 2 (.slice B (nl (hR n).den) d));have kp:=aad (ZX bx (fun v hv=>by simp at hv;rcases hv with rfl | rfl <;> rfl) hb.out);refine bodyPost_ret (results_cell_row (p:=2) rfl _ _ w.heap.size 51 #[.bool (decide ((hR n).num<0)),.slice A (nl (hR n).num.natAbs) c,.slice B (nl (hR n).den) d] (0,0) _ rfl (((bx.set 0 _).set 1 _).set 2 _) Tryz.underlying51 rfl (by kernel_rfl)) rfl ⟨_,rfl,hb.out.ext HE.out (au _),.abb ⟨A,c,B,d,rfl,ie Pl.out kp.out,ie Zt.out kp.out⟩⟩
def ZY:az:=⟨19,false,on1 (.int .i64) (fun n=>some (akv n)) fun n=>.k .rq (hR n)⟩
theorem CH:ah (cfg []) ZY:=nB (enters_of Tryz.func19 (by kernel_rfl) rfl) (fun _=>rfl) fun F n u w hg ht hu=>by obtain rfl:=hu.int;exact (KF n hg w ht).mono fun e w' ⟨v,h1,h2,h3⟩=>⟨v,h1,h2,.abb h3.rqv⟩
def aA {α:Type} (n:Nat) (f:Nat->α):List α:=(List.range n).map f
section
variable {α β:Type}
@[simp] theorem mX (n:Nat) (f:Nat->α):(aA n f).length=n:=by simp [aA]
theorem fW {n i:Nat} {f:Nat->α} (h:i<n) (d:α):(aA n f).getD i d=f i:=by rw [aI,aA,tT,List.getElem?_range h];rfl
theorem aSh {n i:Nat} {f:Nat->α} (h:n<=i) (d:α):(aA n f).getD i d=d:=by rw [aI,fh (by simpa using h)];rfl
theorem tI (n:Nat) (f:Nat->α):aA (n+1) f=aA n f++[f n]:=by simp [aA,Hw]
theorem bE {n:Nat} {f g:Nat->α} (h:∀i,i<n->f i=g i):aA n f=aA n g:=List.map_congr_left fun i hi=>h i (xT.1 hi)
theorem fp {xs ys:List α} (d:α) (hl:xs.length=ys.length) (h:∀i,i<xs.length->xs.getD i d=ys.getD i d):xs=ys:=by
 refine G0 fun i=>?_;rcases aV i xs.length with hi | hi
 ·have:=h i hi;rw [aI,aI,bh hi,bh (by omega)] at this;rw [bh hi,bh (by omega)];exact yl some this
 ·rw [fh hi,fh (by omega)]
theorem ad3 (xs:List α) (d:α):aA xs.length (fun i=>xs.getD i d)=xs:=fp d (by simp) fun i hi=>fW (by simpa using hi) d
theorem vt {xs:List α} {n:Nat} {f:Nat->α} (d:α) (hl:xs.length=n) (h:∀i,i<n->xs.getD i d=f i):xs=aA n f:=fp d (by simpa using hl) fun i hi=>by rw [fW (by omega) d];exact h i (by omega)
theorem b8 (xs:List α) (i j:Nat) (x d:α) (h:i<xs.length):(xs.set i x).getD j d=if j=i then x else xs.getD j d:=by
 rw [aI,List.getElem?_set];by_cases e:i=j
 ·subst e;simp [h]
 ·rw [bD e,bD (fun e'=>e e'.symm),aI]
theorem mY {n i:Nat} {f:Nat->α} {x:α} (h:i<n):(aA n f).set i x=aA n (fun j=>if j=i then x else f j):=by
 cases n with
 | zero=>omega
 | succ n=>
  refine fp x (by simp) fun j hj=>?_;have hj:j<n+1:=by simpa using hj
  rw [b8 _ _ _ _ _ (by simpa using h),fW hj,fW hj]
theorem aSi (n:Nat) (f:Nat->α) (g:α->β):(aA n f).map g=aA n (fun i=>g (f i)):=by simp [aA,Function.comp_def]
theorem iO (n:Nat) (x:α):List.replicate n x=aA n (fun _=>x):=
 fp x (by simp) fun i hi=>by
  have hi:i<n:=by simpa using hi
  rw [fW hi,aI,ym,gU hi];rfl
theorem uW {xs:List α} {i:Nat} (h:i<xs.length) (d:α):xs.take (i+1)=xs.take i++[xs.getD i d]:=by rw [List.take_add_one,bh h,aI,bh h];rfl
theorem mZ {xs:List α} {i:Nat} (h:xs.length<=i) (d:α):xs.getD i d=d:=by rw [aI,fh h];rfl
theorem kY (xs:List α) (k i:Nat) (d:α):(xs.drop k).getD i d=xs.getD (k+i) d:=by rw [aI,Av,aI]
theorem getD_take {xs:List α} {k i:Nat} (h:i<k) (d:α):(xs.take k).getD i d=xs.getD i d:=by rw [aI,List.getElem?_take,gU h,aI]
theorem getD_map {xs:List α} {g:α->β} {i:Nat} (h:i<xs.length) (d:α) (e:β):(xs.map g).getD i e=g (xs.getD i d):=by rw [aI,tT,aI,bh h];rfl
end
def aG (n m:Nat) (f:Nat->Nat->Rat):List (List Rat):=aA n fun i=>aA m (f i)
def el (M:List (List Rat)) (i j:Nat):Rat:=(M.getD i []).getD j 0
def sumN (f:Nat->Rat):Nat->Rat
 | 0=>0
 | n+1=>sumN f n+f n
theorem uv {n:Nat} {f g:Nat->Rat} (h:∀i,i<n->f i=g i):sumN f n=sumN g n:=by
 induction n with
 | zero=>rfl
 | succ n ih=>rw [sumN,sumN,ih fun i hi=>h i (by omega),h n (by omega)]
@[simp] theorem mkM_len (n m:Nat) (f:Nat->Nat->Rat):(aG n m f).length=n:=mX ..
def SL (k:Nat) (xs:List Rat):Prop:=∀i,Sq k (xs.getD i 0)
def SM (k:Nat) (M:List (List Rat)):Prop:=∀i,SL k (M.getD i [])
theorem SL.le {j k:Nat} {xs:List Rat} (h:SL j xs) (hk:j<=k):SL k xs:=fun i=>(h i).le hk
theorem SL.mk {k n:Nat} {f:Nat->Rat} (h:∀i,i<n->Sq k (f i)) (hk:1<=k):SL k (aA n f):=fun i=>by
 rcases aV i n with hi | hi
 ·rw [fW hi];exact h i hi
 ·rw [aSh hi];exact Sq.zero k hk
def cE (l:List Int) (i:Nat):Rat:=if i<l.length then hR (l.getD i 0) else 0
theorem aNf {α:Type} {n:Nat} {f:Nat->α} {v:α} (h:v=f n):(aA n f).append [v]=aA (n+1) f:=by rw [h];exact (tI n f).symm
theorem qW {α:Type} {xs:List α} {i:Nat} {d:α} (h:i<xs.length):(xs.take i).append [xs.getD i d]=xs.take (i+1):=(uW h d).symm
noncomputable def LL1:List az:=ZY::aa7::CE::xQ::[]
theorem Nz:bd LL1:=⟨CH,WL,xS,mV,trivial⟩
def fhRow:CF
 | [.k (.list (.int .i64)) l,.k (.int .i64) ((n:Nat):Int)]=>some (some ((∀i,akv (l.getD i 0))/\n<=1000000000000),.k (.list .rq) (aA n (cE l)),[])
 | _=>none
def aiq:az:=⟨42,false,fhRow⟩
def air (l:List Int) (n:Nat):bk:=⟨nU,fun key_=>match key_ with
 | 3=>some (⟨Nat,fun i=>[(0,.k (.list (.int .i64)) l),(1,.k (.int .i64) ((n:Nat):Int)),(5,.own 5 0 3),(6,.k (.int .i64) ((i:Nat):Int))],
 fun i=>[(5,.arr 51 .rq (aA i (cE l)))],fun _ i=>i<=n,fun i=>n-i⟩) | _=>none,nR,nU⟩
def agF (l:List Int) (n:Nat):Prop:=∃(x0:Nat),((l=l/\(↑n:Int)=↑n/\(0:Int)=(↑x0:Int))/\aA x0 (cE l)=[])/\x0<=n/\∀(x:Nat),x<=n->bif decide ((↑x:Int)<↑n)
 then l.length<=(9223372036854775807:Nat)->bif decide ((↑x:Int)<↑l.length) then (0<=(↑x:Int)/\(↑x:Int)<↑l.length)/\akv (l.getD
 (↑x:Int).toNat (0:Int))/\(aA x (cE l)).length+[hR (l.getD (↑x:Int).toNat 0)].length<=aB/\akv ((↑x:Int)+1)/\∃(x':Nat),((l=l /\
 (↑n:Int)=↑n/\(↑x:Int)+1=↑x')/\(aA x (cE l)).append [hR (l.getD (↑x:Int).toNat 0)]=aA x' (cE l))/\x'<=n/\n-x' <
 n-x else akv (0:Int)/\(aA x (cE l)).length+[(↑(0:Int):Rat)].length<=aB/\akv ((↑x:Int)+1)/\∃(x':Nat),((l=l/\(↑n:Int)=↑n
 /\ (↑x:Int)+1=↑x')/\(aA x (cE l)).append [(↑(0:Int):Rat)]=aA x' (cE l))/\x'<=n/\n-x'<n-x else aA x (cE l)=aA n (cE l)
theorem ahy (l:List Int) (n:Nat):aw LL1 [] (air l n) Tryz.f42 (.k (.list .rq) (aA n (cE l))) [.k (.list (.int .i64)) l,.k (.int .i64) ((n:Nat):Int)]=agF l n:=by kernel_rfl
theorem ahz (l:List Int) (n:Nat) (hg:(∀i,akv (l.getD i 0))/\n<=1000000000000):agF l n:=by
 obtain ⟨hl,hn⟩:=hg;unfold agF;refine ⟨0,⟨⟨rfl,rfl,rfl⟩,rfl⟩,fK _,fun i hi=>aH (fun h _=>aH (fun h'=>⟨⟨by omega,h'⟩,hl i,by simp [aB];omega,⟨by omega,by omega⟩,i+1,⟨⟨rfl,rfl,rfl⟩,aNf ?_⟩,by omega,by omega⟩) fun h'=>⟨⟨by omega,by omega⟩,by simp [aB];omega,⟨by omega,by omega⟩,i+1,⟨⟨rfl,rfl,rfl⟩,aNf ?_⟩,by omega,by omega⟩) fun h=>?_⟩
 ·exact (gU (by omega)).symm
 ·exact (bD (by omega)).symm
 ·rw [show i=n by omega]
theorem ahA:ah (cfg []) aiq:=cf Nz bp Tryz.func42 (by kernel_rfl) fun args g r hn hc hg hf=>by
 replace hc:fhRow args=some (g,r,hn):=hc;unfold fhRow at hc;split at hc
 ·obtain ⟨rfl,rfl,rfl⟩:=aN hc;cases aY (ahy _ _) (ahz _ _ hg);exact ⟨rfl,by kernel_rfl,_,by assumption⟩
 ·cases hc
noncomputable def LL2:List az:=LL1
theorem NA:bd LL2:=Nz
def fhInRow:CF
 | [.k (.list .rq) xs]=>some (some (SL BQ xs),.k (.list .q) xs,[])
 | _=>none
def xV:az:=⟨7,false,fhInRow⟩
def KG (xs:List Rat):bk:=⟨nU,fun key_=>match key_ with
 | 3=>some (⟨Nat,fun i=>[(0,.k (.list .rq) xs),(3,.own 3 0 5),(4,.k (.int .i64) ((i:Nat):Int))],
 fun i=>[(3,.arr 44 .q (xs.take i))],fun _ i=>i<=xs.length,fun i=>xs.length-i⟩) | _=>none,nR,nU⟩
def xW (xs:List Rat):Prop:=∃(x0:Nat),((xs=xs/\(0:Int)=(↑x0:Int))/\List.take x0 xs=[])/\x0<=xs.length/\∀(x:Nat),x<=xs.length->xs.length<=aB->bif decide ((↑x:Int) <
 (↑xs.length:Int)) then (0<=(↑x:Int)/\(↑x:Int)<↑xs.length)/\Sq BQ (xs.getD (↑x:Int).toNat 0)/\(List.take x xs).length+[xs.getD (↑x
 : Int).toNat 0].length<=aB/\akv ((↑x:Int)+1)/\∃(x':Nat),((xs=xs/\(↑x:Int)+1=↑x')/\(List.take x xs).append [xs.getD
 (↑x:Int).toNat (0:Rat)]=List.take x' xs)/\x'<=xs.length/\xs.length-x'<xs.length-x else List.take x xs=xs
theorem F7 (xs:List Rat):aw LL2 [] (KG xs) Tryz.f7 (.k (.list .q) xs) [.k (.list .rq) xs]=xW xs:=by kernel_rfl
theorem F8 (xs:List Rat) (hg:SL BQ xs):xW xs:=by unfold xW;refine ⟨0,⟨⟨rfl,rfl⟩,rfl⟩,fK _,fun i hi hL=>aH (fun h=>⟨⟨by omega,h⟩,hg i,by unfold aB at hL ⊢;simp;omega,⟨by unfold aB at hL;omega,by unfold aB at hL;omega⟩,i+1,⟨⟨rfl,rfl⟩,qW (by omega)⟩,by omega,by omega⟩) fun h=>?_⟩;exact ja (by omega)
theorem uw:ah (cfg []) xV:=cf NA bp Tryz.func7 (by kernel_rfl) fun args g r hn hc hg hf=>by
 replace hc:fhInRow args=some (g,r,hn):=hc;unfold fhInRow at hc;split at hc
 ·obtain ⟨rfl,rfl,rfl⟩:=aN hc;cases aY (F7 _) (F8 _ hg);exact ⟨rfl,by kernel_rfl,_,by assumption⟩
 ·cases hc
noncomputable def Z2:List az:=LL2
theorem CI:bd Z2:=NA
def fhSameRow:CF
 | [.k (.list .q) xs,.k (.list .rq) ys]=>some (some (SL BQ xs/\SL BQ ys),.k .bool (decide (xs=ys)),[])
 | _=>none
def xX:az:=⟨11,false,fhSameRow⟩
def CM (xs ys:List Rat):bk:=⟨fun key_=>match key_ with | 6=>8 | _=>0,fun key_=>match key_ with
 | 4=>some (⟨Nat,fun i=>[(0,.k (.list .q) xs),(1,.k (.list .rq) ys),(5,.k (.int .i64) ((i:Nat):Int))],
 fun i=>[],fun _ i=>i<=xs.length/\xs.length=ys.length/\∀j,j<i->xs.getD j 0=ys.getD j 0,fun i=>xs.length-i⟩) | _=>none,nR,nU⟩
def qX (xs ys:List Rat):Prop:=xs.length<=aB->ys.length<=aB->bif !decide ((↑xs.length:Int)=↑ys.length) then false=decide (xs=ys) else ∃(x0:Nat),(xs=xs/\ys=ys/\(0:Int)
 = (↑x0:Int))/\(x0<=xs.length/\xs.length=ys.length/\∀(j:Nat),j<x0->xs.getD j 0=ys.getD j 0)/\∀(x:Nat),(x<=xs.length/\xs.length =
 ys.length/\∀(j:Nat),j<x->xs.getD j 0=ys.getD j 0)->xs.length<=aB->bif decide ((↑x:Int)<↑xs.length) then (0<=(↑x:Int)
 /\ (↑x:Int)<↑xs.length)/\(0<=(↑x:Int)/\(↑x:Int)<↑ys.length)/\(Sq BQ (xs.getD (↑x:Int).toNat 0)/\Sq BQ (ys.getD (↑x :
 Int).toNat 0))/\bif !decide (xs.getD (↑x:Int).toNat 0=ys.getD (↑x:Int).toNat 0) then false=decide (xs=ys) else akv ((↑x:Int)+(1 :
 Int))/\∃(x':Nat),(xs=xs/\ys=ys/\(↑x:Int)+1=↑x')/\(x'<=xs.length/\xs.length=ys.length/\∀(j:Nat),j<x'->xs.getD j 0 =
 ys.getD j 0)/\xs.length-x'<xs.length-x else true=decide (xs=ys)
theorem yW (xs ys:List Rat):aw Z2 [] (CM xs ys) Tryz.f11 (.k .bool (decide (xs=ys))) [.k (.list .q) xs,.k (.list .rq) ys]=qX xs ys:=by kernel_rfl
theorem yX (xs ys:List Rat) (hg:SL BQ xs/\SL BQ ys):qX xs ys:=by
 obtain ⟨h1,h2⟩:=hg;unfold qX;intro hL _;unfold aB at hL;refine dP (fun h=>(jV fun e=>h (by rw [e])).symm) fun h=>⟨0,⟨rfl,rfl,rfl⟩,⟨fK _,by omega,fun j hj=>by omega⟩,fun i ⟨hi,hlen,bB⟩ _=>aH (fun h'=>⟨⟨by omega,h'⟩,⟨by omega,by omega⟩,⟨h1 i,h2 i⟩,dP (fun h3=>(jV fun e=>h3 (by rw [e])).symm) fun h3=>⟨⟨by omega,by omega⟩,i+1,⟨rfl,rfl,rfl⟩,⟨by omega,hlen,fun j hj=>?_⟩,by omega⟩⟩) fun h'=>(px ?_).symm⟩
 ·rcases aV j i with h4 | h4
  ·exact bB j h4
  ·rw [show j=i by omega];exact h3
 ·exact fp 0 hlen fun j hj=>bB j (by omega)
theorem yY:ah (cfg []) xX:=cf CI bp Tryz.func11 (by kernel_rfl) fun args g r hn hc hg hf=>by
 replace hc:fhSameRow args=some (g,r,hn):=hc;unfold fhSameRow at hc;split at hc
 ·obtain ⟨rfl,rfl,rfl⟩:=aN hc;cases aY (yW _ _) (yX _ _ hg);exact ⟨rfl,by kernel_rfl,_,by assumption⟩
 ·cases hc
def cmpL:List Rat->List Rat->Int
 | [],[]=>0
 | [],_::_=> -1
 | _::_,[]=>1
 | x::xs,y::ys=>if fS x y=0 then cmpL xs ys else fS x y
theorem gz {x y:Rat}:fS x y=0↔x=y:=by
 unfold fS;constructor
 ·intro h;split at h
  ·omega
  ·split at h
   ·assumption
   ·omega
 ·intro h;subst h;rw [bD Rat.lt_irrefl,gU rfl]
theorem x5:∀{xs ys:List Rat},cmpL xs ys=0↔xs=ys
 | [],[]=>by simp [cmpL]
 | [],_::_=>by simp [cmpL]
 | _::_,[]=>by simp [cmpL]
 | x::xs,y::ys=>by
  unfold cmpL;split
  ·rename_i h;rw [x5,gz.1 h];simp
  ·rename_i h;constructor
   ·exact fun e=>absurd e h
   ·intro e;injection e with e1 e2
    exact absurd (gz.2 e1) h
theorem x6 {xs ys:List Rat} {i:Nat} (h1:i<xs.length) (h2:i<ys.length):cmpL (xs.drop i) (ys.drop i)=if fS (xs.getD i 0) (ys.getD i 0)=0 then cmpL (xs.drop (i+1)) (ys.drop (i+1)) else fS (xs.getD i 0) (ys.getD i 0):=by rw [pK h1,pK h2,cmpL,aI,aI,bh h1,bh h2];rfl
theorem aOz {xs ys:List Rat} (h1:xs=[]):cmpL xs ys=if ys.length=0 then 0 else -1:=by
 subst h1
 cases ys <;> simp [cmpL]
theorem Q0 {xs ys:List Rat} (h1:xs≠[]) (h2:ys=[]):cmpL xs ys=1:=by
 subst h2
 cases xs with
 | nil=>exact absurd rfl h1
 | cons=>rfl
noncomputable def Q1:List az:=Ke::[]
theorem sw:bd Q1:=⟨z7,trivial⟩
def fsCmp:CF
 | [.k (.list .q) xs,.k (.list .q) ys,.fn 120 .nil]=>some (some (SL BQ xs/\SL BQ ys),.k (.int .i64) (cmpL xs ys),[])
 | _=>none
def WY:az:=⟨125,false,fsCmp⟩
def WZ (xs ys:List Rat):bk:=⟨nU,fun key_=>match key_ with
 | 2=>some (⟨Nat,fun i=>[(0,.k (.list .q) xs),(1,.k (.list .q) ys),(2,.fn 120 .nil),(11,.k (.list .q) xs),(12,.k (.int .i64) ((xs.length:Nat):Int)),(13,.k (.int .i64) ((i:Nat):Int))],
 fun i=>[],fun _ i=>i<=xs.length/\i<=ys.length/\cmpL xs ys=cmpL (xs.drop i) (ys.drop i),fun i=>xs.length-i⟩) | _=>none,nR,nU⟩
def KJ (xs ys:List Rat):Prop:=xs.length<=aB->∃(x0:Nat),(xs=xs/\ys=ys/\xs=xs/\(↑xs.length:Int)=↑xs.length/\(0:Int)=(↑x0:Int))/\(x0<=xs.length/\x0<=ys.length /\
 cmpL xs ys=cmpL (List.drop x0 xs) (List.drop x0 ys))/\∀(x:Nat),x<=xs.length/\x<=ys.length/\cmpL xs ys=cmpL (List.drop x xs) (List.drop x ys)->bif decide
 ((↑x:Int)<↑xs.length) then (0<=(↑x:Int)/\(↑x:Int)<↑xs.length)/\(ys.length<=aB->bif decide ((↑ys.length:Int)<=(↑x:Int)) then
 (1:Int)=cmpL xs ys else (0<=(↑x:Int)/\(↑x:Int)<↑ys.length)/\(Sq BQ (xs.getD (↑x:Int).toNat 0)/\Sq BQ (ys.getD (↑x:Int).toNat (0
 : Rat)))/\bif !decide (fS (xs.getD (↑x:Int).toNat 0) (ys.getD (↑x:Int).toNat 0)=0) then fS (xs.getD (↑x:Int).toNat 0)
 (ys.getD (↑x:Int).toNat 0)=cmpL xs ys else ((-9223372036854775808:Int)<=(↑x:Int)+1/\(↑x:Int)+1<=(9223372036854775807:Int))/\∃
 (x':Nat),(xs=xs/\ys=ys/\xs=xs/\(↑xs.length:Int)=↑xs.length/\(↑x:Int)+1=↑x')/\(x'<=xs.length/\x'<=ys.length/\cmpL xs ys
 = cmpL (List.drop x' xs) (List.drop x' ys))/\xs.length-x'<xs.length-x) else xs.length<=aB->ys.length<=aB->bif decide ((↑xs.length:Int)<(↑ys.length :
 Int)) then (-1:Int)=cmpL xs ys else (0:Int)=cmpL xs ys
theorem Q8 (xs ys:List Rat):aw Q1 [] (WZ xs ys) Tryz.f125 (.k (.int .i64) (cmpL xs ys)) [.k (.list .q) xs,.k (.list .q) ys,.fn 120 .nil]=KJ xs ys:=by kernel_rfl
theorem Q9 (xs ys:List Rat) (hg:SL BQ xs/\SL BQ ys):KJ xs ys:=by
 obtain ⟨h1,h2⟩:=hg;unfold KJ;intro hL;unfold aB at hL;refine ⟨0,⟨rfl,rfl,rfl,rfl,rfl⟩,⟨fK _,fK _,rfl⟩,fun i ⟨hi,hj,he⟩=>aH (fun h=>⟨⟨by omega,h⟩,fun _=>aH (fun h3=>?_) fun h3=>⟨⟨by omega,by omega⟩,⟨h1 i,h2 i⟩,dP (fun h4=>?_) fun h4=>⟨⟨by omega,by omega⟩,i+1,⟨rfl,rfl,rfl,rfl,rfl⟩,⟨by omega,by omega,?_⟩,by omega⟩⟩⟩) fun h _ _=>aH (fun h3=>?_) fun h3=>?_⟩
 ·rw [he,xD (show ys.length<=i by omega)];exact (Q0 (fun e=>by have:=yl List.length e;simp at this;omega) rfl).symm
 ·rw [he,x6 (by omega) (by omega)];exact (bD h4).symm
 ·rw [he,x6 (by omega) (by omega)];exact gU h4
 ·rw [he,aOz (xD (by omega)),bD (by simp;omega)]
 ·rw [he,aOz (xD (by omega)),gU (by simp;omega)]
theorem Ra:ah (cfg []) WY:=cf sw bp Tryz.func125 (by kernel_rfl) fun args g r hn hc hg hf=>by
 replace hc:fsCmp args=some (g,r,hn):=hc;unfold fsCmp at hc;split at hc
 ·obtain ⟨rfl,rfl,rfl⟩:=aN hc;cases aY (Q8 _ _) (Q9 _ _ hg);exact ⟨rfl,by kernel_rfl,_,by assumption⟩
 ·cases hc
noncomputable def LV2:List az:=WY::Q1
theorem NC:bd LV2:=⟨Ra,sw⟩
def CP:CF
 | [.k (.list .q) xs,.k (.list .q) ys]=>some (some (SL BQ xs/\SL BQ ys),.k .bool (decide (xs=ys)),[])
 | _=>none
def ND:az:=⟨82,false,CP⟩
def Rc (xs ys:List Rat):bk:=⟨nU,nL,nR,nU⟩
def NF (xs ys:List Rat):Prop:=((∀(i:Nat),Sq BQ (xs.getD i 0))/\∀(i:Nat),Sq BQ (ys.getD i 0))/\decide (cmpL xs ys=0)=decide (xs=ys)
theorem KN (xs ys:List Rat):aw LV2 [] (Rc xs ys) Tryz.f82 (.k .bool (decide (xs=ys))) [.k (.list .q) xs,.k (.list .q) ys]=NF xs ys:=by kernel_rfl
theorem KO (xs ys:List Rat) (hg:SL BQ xs/\SL BQ ys):NF xs ys:=by exact ⟨hg,Dh.2 x5⟩
theorem KP:ah (cfg []) ND:=cf NC bp Tryz.func82 (by kernel_rfl) fun args g r hn hc hg hf=>by
 replace hc:CP args=some (g,r,hn):=hc;unfold CP at hc;split at hc
 ·obtain ⟨rfl,rfl,rfl⟩:=aN hc;cases aY (KN _ _) (KO _ _ hg);exact ⟨rfl,by kernel_rfl,_,by assumption⟩
 ·cases hc
theorem nQ {i n:Nat} (h:i<n) (hL:n<=aB):(-9223372036854775808:Int)<=(i:Int)+1/\(i:Int)+1<=9223372036854775807:=by unfold aB at hL;omega
theorem idx {i:Nat} {n:Int} (h:(i:Int)<n):0<=(i:Int)/\(i:Int)<n:=⟨by omega,h⟩
theorem sign_zero {x:Rat}:x.num.sign=0↔x=0:=by rw [CZ,Au]
noncomputable def Lv:List az:=xQ::[]
theorem pM:bd Lv:=⟨mV,trivial⟩
def frZeros:CF
 | [.k (.int .i64) ((n:Nat):Int)]=>some (some (n<=aB),.own 0 0 3,[.arr 51 .rq (aA n fun _=>0)])
 | _=>none
def XK:az:=⟨43,false,frZeros⟩
def Lx (n:Nat):bk:=⟨nU,fun key_=>match key_ with
 | 3=>some (⟨Nat,fun i=>[(0,.k (.int .i64) ((n:Nat):Int)),(3,.own 6 0 3),(4,.k (.int .i64) ((i:Nat):Int))],
 fun i=>[(6,.arr 51 .oq (aA n fun t=>if t<i then some 0 else none))],fun _ i=>i<=n,fun i=>n-i⟩) | _=>none,nR,nU⟩
def yg (n:Nat):Prop:=(0<=(↑n:Int)/\(↑n:Int)<=(↑n:Int)/\(↑n:Int)<=(1099511627776:Int))/\∃(x0:Nat),(((↑n:Int)=↑n/\(0:Int)=(↑x0:Int)) /\
 List.replicate (↑n:Int).toNat none=aA n fun (t:Nat)=>if t<x0 then some (0:Rat) else none)/\x0<=n/\∀(x:Nat),x<=n->bif decide ((↑x:Int)<(↑n :
 Int)) then ((-9223372036854775808:Int)<=(0:Int)/\(0:Int)<=(9223372036854775807:Int))/\(0<=(↑x:Int)/\(↑x:Int)<↑(aA n fun (t:Nat)=>if t <
 x then some (0:Rat) else none).length)/\(↑x:Int).toNat<(aA n fun (t:Nat)=>if t<x then some (0:Rat) else none).length/\((-9223372036854775808 :
 Int)<=(↑x:Int)+1/\(↑x:Int)+1<=(9223372036854775807:Int))/\∃(x':Nat),(((↑n:Int)=↑n/\(↑x:Int)+1=↑x') /\
 (aA n fun (t:Nat)=>if t<x then some (0:Rat) else none).set (↑x:Int).toNat (some (↑(0:Int):Rat))=aA n fun (t:Nat)=>if t<x' then some (0:Rat) else
 none)/\x'<=n/\n-x'<n-x else (aA n fun (t:Nat)=>if t<x then some (0:Rat) else none)=List.map some (aA n fun (x:Nat)=>(0:Rat))
theorem GH (n:Nat):awp (cfg Lv []) (Lx n) Tryz.f43.ntmps (Tryz.f43.body.getD .skip) (jj Tryz.f43.results.toList (.own 0 0 3) 6 (.arr 51 .rq (aA n fun _=>0))) ⟨eP 0 [.k (.int .i64) ((n:Nat):Int)],[]⟩=yg n:=by kernel_rfl
theorem GI (n:Nat) (hg:n<=aB):yg n:=by
 unfold yg;have hL:=hg;unfold aB at hg;refine ⟨by omega,0,⟨⟨rfl,rfl⟩,?_⟩,fK _,fun i hi=>aH (fun h=>⟨by omega,⟨by omega,by simp;omega⟩,by simp;omega,nQ (by omega) hL,i+1,⟨⟨rfl,rfl⟩,?_⟩,by omega,by omega⟩) fun h=>?_⟩
 ·exact (iO _ _).trans (bE fun t _=>(bD (by omega)).symm)
 ·rw [show ((i:Nat):Int).toNat=i from rfl,mY (by omega)];refine bE fun t _=>?_;rcases xU t i with h5 | h5 | h5
  ·rw [bD (by omega),gU h5,gU (by omega)]
  ·rw [gU h5,gU (by omega)];rfl
  ·rw [bD (by omega),bD (by omega),bD (by omega)]
 ·rw [aSi];exact bE fun t ht=>gU (by omega)
theorem GJ:ah (cfg []) XK:=oY pM bp Tryz.func43 (by kernel_rfl) (by kernel_rfl) rfl fun args g r hn hc hg hf=>by
 replace hc:frZeros args=some (g,r,hn):=hc;unfold frZeros at hc;split at hc
 ·obtain ⟨rfl,rfl,rfl⟩:=aN hc;have hv:=GI _ hg
  cases aY (GH _) hv;exact ⟨by kernel_rfl,_,6,_,rfl,rfl,rfl,by assumption⟩
 ·cases hc
theorem ly {L:List az} {f:FuncId} {fr:Bool} {c c':CF} (h:ah (cfg L) ⟨f,fr,c⟩) (H:∀args g r hn,c' args=some (g,r,hn)->bt g->∃g',c args=some (g',r,hn)/\bt g'):ah (cfg L) ⟨f,fr,c'⟩:=
 ⟨h.ent,fun args g r hn hc hg=>by obtain ⟨g',h1,h2⟩:=H args g r hn hc hg;exact h.ok args g' r hn h1 h2⟩
def crZeroI:az:=⟨43,false,fun args=>match args with
 | [.k (.int .i64) n]=>some (some ((0:Int)<=n/\Int.toNat n<=aB),.own 0 0 3,[.arr 51 .rq (aA (Int.toNat n) fun _=>0)])
 | _=>none⟩
theorem GP:ah (cfg []) crZeroI:=ly GJ fun args g r hn hc hg=>by
 split at hc
 ·rename_i n;obtain ⟨rfl,rfl,rfl⟩:=aN hc;obtain ⟨k,rfl⟩:=yo hg.1;exact ⟨_,rfl,hg.2⟩
 ·cases hc
theorem half {r:Nat} (h:r<=64):(2:Int)≠0/\akv ((r:Int).tdiv 2):=by rw [Ap (by omega)];exact ⟨by omega,by unfold akv;omega⟩
noncomputable def XW:List az:=[]
theorem vx:bd XW:=trivial
def fsClone:CF
 | [.k (.list .q) xs]=>some (none,.own 0 0 5,[.arr 44 .q xs])
 | _=>none
def Hb:az:=⟨63,false,fsClone⟩
def LS (xs:List Rat):bk:=⟨nU,nL,nR,nU⟩
def yt (xs:List Rat):Prop:=∀b:Bool,(b=true->xs=[])->bif (bif true then b else !b) then xs=[] else ([]:List Rat).length+xs.length<=aB/\([]:List Rat).append xs=xs
theorem Hc (xs:List Rat):awp (cfg XW []) (LS xs) Tryz.f63.ntmps (Tryz.f63.body.getD .skip) (jj Tryz.f63.results.toList (.own 0 0 5) 5 (.arr 44 .q xs)) ⟨eP 0 [.k (.list .q) xs],[]⟩=yt xs:=by kernel_rfl
theorem Hd (xs:List Rat) (hf:cJ [.k (.list .q) xs]):yt xs:=by
 unfold yt;intro b hb
 cases b with
 | true=>exact hb rfl
 | false=>exact ⟨by have h:xs.length<=aB:=hf.1.1;simpa using h,rfl⟩
theorem He:ah (cfg []) Hb:=oY vx bp Tryz.func63 (by kernel_rfl) (by kernel_rfl) rfl fun args g r hn hc hg hf=>by
 replace hc:fsClone args=some (g,r,hn):=hc;unfold fsClone at hc;split at hc
 ·obtain ⟨rfl,rfl,rfl⟩:=aN hc;have hv:=Hd _ hf
  cases aY (Hc _) hv;exact ⟨by kernel_rfl,_,5,_,rfl,rfl,rfl,by assumption⟩
 ·cases hc
open Go.ChangeShapes Go.WideShapes Go.ChangeAt
abbrev Any:Nat->Prop:=fun _=>True
theorem Mg {ct:az} {args:List AV} {g:Option Prop} (h:ah (cfg []) ct) (hc:ct.c args=some (g,.k .bool true,[])) (hg:bt g) {w:World} {vs:List Value} (ht:cK w) (hv:VL Any w dX args vs) :
  Calls Tryz.prog ct.f vs.toArray w fun e w'=>e = .returned (.bool true)/\Ext w w':=
 (h.ok args g _ [] hc hg Any w vs ht hv).mono fun e w' ⟨v, β',he,hm,hr⟩=>by obtain ⟨c,hc,hv⟩:=hr;have hc:c=[.bool true]:=hc;subst hc;exact ⟨by rw [he,hv];rfl,hm.fr.ext⟩
theorem wf_i64 {n:Int} (h:(Lit.int .i64 n).wf=true):akv n:=by simp only [Lit.wf,aj,yx] at h;exact h
theorem yu:∀zs:List Int,(zs.map fun n=>[Value.int .i64 n]).flatten=zs.map fun n=>Value.int .i64 n
 | []=>rfl
 | z::zs=>by rw [Ar,C7,yu zs];rfl
section
variable {H:Type} {enc:TypeId×Value->H} {W:World} {base:Nat} {v:Value} {d:DataW H} {p:List MemPlace} {t e:TypeId}
theorem Mh (ht:Tryz.prog.underlying t=some (.slice e)) (he:Tryz.prog.underlying e=some (.int .i64)) (hc:Tryz.prog.cellsOf e=1) {fuel:Nat} {cs:List Value} {x:DataW H×List MemPlace} (h:DataW.trod enc Tryz.prog W 0 (fun _=>true) true fuel t cs=some x) :
  ∃l:List Int,bj Any W (.list (.int .i64)) l cs/\∀i,akv (l.getD i 0):=by
 rcases open_ints ht he hc h with ⟨lz,_⟩ | ⟨a,len,cap,zs,lz,_,hl,hm,hz,_,aK,hwz⟩
 ·exact ⟨[],⟨none,0,lz,au _,fK _,fun ay=>absurd rfl ay⟩,fun i=>by show akv 0;unfold akv;omega⟩
 ·simp only [if_true] at hz
  have hlen:(zs.take len).length=len:=by rw [fi];omega
  refine ⟨zs.take len,⟨some a,cap,by rw [hlen];exact lz,by rw [hlen];exact hl,by rw [hlen];exact ia hl hm,fun ay=>?_⟩,fun i=>?_⟩
  ·have h0:0<len:=by
    rcases dz len with h | h
    ·subst h;simp at ay
    ·exact h
   obtain ⟨ab,ao,spot⟩:=a
   have adt:spot=none:=by simpa [Addr.add] using World.cell?_spot (aK 0 (by omega))
   subst adt
   refine ⟨ab,ao,(zs.take len).map fun n=>[Value.int .i64 n],rfl,trivial,?_,fun i hi=>?_,by simp,fun i x c hx hc=>?_⟩
   ·have h:=aK 0 (by omega)
    rw [Addr.add_lit] at h
    exact World.block_lt_of_cell? W _ h
   ·rw [yu] at hi ⊢
    rw [wc,hlen] at hi
    have hcj:=aK i (by omega)
    rw [Addr.add_lit] at hcj
    rw [hcj,tT,sB hi]
    have OK:i<zs.length:=by omega
    rw [bh OK]
    simp [aI,bh OK]
   ·rw [tT,hx] at hc
    injection hc with hc
    exact hc.symm
  ·rcases aV i (zs.take len).length with hi | hi
   ·rw [aI,bh hi]
    exact wf_i64 (hwz _ (List.mem_of_mem_take (K6 hi)))
   ·rw [aI,fh hi]
    show akv 0
    unfold akv;omega
theorem aet (ht:Tryz.prog.underlying t=some (.slice e)) (he:Tryz.prog.underlying e=some (.int .i64)) (hc:Tryz.prog.cellsOf e=1) (fV:Value.okWide Tryz.prog W .any base t v) (h:DataW.Trod enc Tryz.prog W 0 (fun _=>true) true t v d p) :
  ∃l:List Int,aq Any W dX (.k (.list (.int .i64)) l) v/\∀i,akv (l.getD i 0):=by
 obtain ⟨a1,len,cap,rfl⟩:=okWide_slice ht fV
 obtain ⟨fuel,hf⟩:=h
 obtain ⟨l,h1,h2⟩:=Mh ht he hc hf
 exact ⟨l,⟨_,h1,rfl⟩,h2⟩
end
def pivN (F:Nat->Nat->Rat) (c:Nat):Nat->Nat->Nat
 | i,0=>i
 | i,k+1=>if F i c=0 then pivN F c (i+1) k else i
def aQS (F:Nat->Nat->Rat) (a b:Nat):Nat->Nat->Rat:=fun i=>if i=a then F b else if i=b then F a else F i
def wa (F:Nat->Nat->Rat) (r:Nat) (k:Rat):Nat->Nat->Rat:=fun i j=>if i=r then F i j*k else F i j
def abA (F:Nat->Nat->Rat) (r c:Nat):Nat->Nat->Rat:=fun i j=>if i=r then F i j else F i j-F i c*F r j
def abv (n:Nat) (S:(Nat->Nat->Rat)×List Nat) (c:Nat):(Nat->Nat->Rat)×List Nat:=
 if pivN S.1 c S.2.length (n-S.2.length)<n then
  (abA (wa (aQS S.1 S.2.length (pivN S.1 c S.2.length (n-S.2.length))) S.2.length (1/aQS S.1 S.2.length (pivN S.1 c S.2.length (n-S.2.length)) S.2.length c)) S.2.length c,S.2++[c])
 else S
def rr (n:Nat) (F:Nat->Nat->Rat):Nat->(Nat->Nat->Rat)×List Nat
 | 0=>(F,[])
 | c+1=>abv n (rr n F c) c
theorem acj {f:Nat->Rat}:∀{n:Nat},(∀i,i<n->f i=0)->sumN f n=0
 | 0,_=>rfl
 | n+1,h=>by rw [sumN,acj fun i hi=>h i (by omega),h n (by omega)];grind
theorem ace {f:Nat->Rat} {a:Nat}:∀{n:Nat},a<n->(∀i,i<n->i≠a->f i=0)->sumN f n=f a
 | n+1,ha,h=>by
  rw [sumN];by_cases e:a=n
  ·subst e;rw [acj fun i hi=>h i (by omega) (by omega)];grind
  ·rw [ace (by omega) fun i hi=>h i (by omega),h n (by omega) (fun e'=>e e'.symm)];grind
theorem acw (f g:Nat->Rat):∀n,sumN (fun i=>f i+g i) n=sumN f n+sumN g n
 | 0=>by simp only [sumN];grind
 | n+1=>by simp only [sumN];rw [acw f g n];grind
structure acs (n c:Nat) (F:Nat->Nat->Rat) (l:List Nat):Prop where
 len:l.length<=n
 lt:∀k,k<l.length->l.getD k 0<c
 inc:∀k k',k<k'->k'<l.length->l.getD k 0<l.getD k' 0
 one:∀k i,k<l.length->i<n->F i (l.getD k 0)=if i=k then 1 else 0
 pre:∀k j,k<l.length->j<l.getD k 0->F k j=0
 low:∀i j,l.length<=i->i<n->j<c->F i j=0
def skip (i a:Nat):Nat:=if a<i then a else a+1
def setRow (F:Nat->Nat->Rat) (r:Nat) (v:Nat->Rat):Nat->Nat->Rat:=fun i=>if i=r then v else F i
structure acM (n:Nat) (D:(Nat->Nat->Rat)->Rat):Prop where
 congr:∀F G,(∀i j,i<n->j<n->F i j=G i j)->D F=D G
 swap:∀F a b,a<n->b<n->a≠b->D (aQS F a b) = -D F
 scale:∀F r k,r<n->D (wa F r k)=k*D F
 add:∀F a b k,a<n->b<n->a≠b->D (setRow F a fun j=>F a j+k*F b j)=D F
structure Holds {α:Type} (n m:Nat) (out:List Nat) (ai:List (List α)) (F:Nat->Nat->α):Prop where
 len:out.length=n
 lt:∀i,i<n->out.getD i 0<ai.length
 row:∀i,i<n->ai.getD (out.getD i 0) []=aA m (F i)
 inj:∀i j,i<n->j<n->out.getD i 0=out.getD j 0->i=j
section
variable {α:Type} {n m:Nat} {out:List Nat} {ai:List (List α)} {F G:Nat->Nat->α}
end
section
variable {n m:Nat} {out:List Nat} {ai:List (List Rat)} {F:Nat->Nat->Rat}
end
def lnP (f:Nat->Rat):Nat->Nat
 | 0=>0
 | n+1=>if f n=0 then lnP f n else n+1
def co (p:List Rat) (i:Nat):Rat:=p.getD i 0
def abR (p:List Rat):List Rat:=aA (lnP (co p) p.length) (co p)
theorem aBy (f:Nat->Rat):∀n,lnP f n<=n
 | 0=>au 0
 | n+1=>by have:=aBy f n;unfold lnP;split <;> omega
theorem axc {f:Nat->Rat}:∀{n i:Nat},lnP f n<=i->i<n->f i=0
 | 0,_,_,h=>absurd h (sA _)
 | n+1,i,h,hi=>by
  unfold lnP at h;by_cases e:f n=0
  ·rw [gU e] at h;by_cases hn:i=n
   ·rw [hn];exact e
   ·exact axc h (by omega)
  ·rw [bD e] at h;omega
theorem au5 {f:Nat->Rat}:∀{n:Nat},0<lnP f n->f (lnP f n-1)≠0
 | 0,h=>absurd h (sA 0)
 | n+1,h=>by
  unfold lnP at h ⊢;by_cases e:f n=0
  ·rw [gU e] at h ⊢;exact au5 h
  ·rw [bD e];exact e
theorem aEh {f:Nat->Rat} {n k:Nat} (h1:∀i,k<=i->i<n->f i=0) (h2:k<=n) (h3:0<k->f (k-1)≠0):lnP f n=k:=by
 rcases xU (lnP f n) k with h | h | h
 ·exact absurd (axc (n:=n) (i:=k-1) (by omega) (by omega)) (h3 (by omega))
 ·exact h
 ·exact absurd (h1 _ (by omega) (by have:=aBy f n;omega)) (au5 (n:=n) (by omega))
theorem amN {p:List Rat} {i:Nat} (h:p.length<=i):co p i=0:=mZ h 0
theorem aE2 {f g:Nat->Rat} {n m:Nat} (h:∀i,f i=g i) (hf:∀i,n<=i->f i=0) (hg:∀i,m<=i->g i=0):lnP f n=lnP g m:=by
 have e:f=g:=funext h;subst e;have h0:∀i,lnP f m<=i->f i=0:=fun i hi=>by
  rcases aV i m with hm | hm
  ·exact axc hi hm
  ·exact hg i hm
 have h1:lnP f m<=n:=by
  rcases aV n (lnP f m) with hx | hx
  ·exact absurd (hf (lnP f m-1) (by omega)) (au5 (n:=m) (by omega))
  ·exact hx
 exact aEh (fun i hi _=>h0 i hi) h1 fun h=>au5 h
theorem amP (p:List Rat) (i:Nat):co (abR p) i=co p i:=by
 unfold abR;rcases aV i (lnP (co p) p.length) with h | h
 ·exact fW h 0
 ·rw [amN (by rw [mX];exact h)];rcases aV i p.length with h2 | h2
  ·exact (axc h h2).symm
  ·exact (amN h2).symm
theorem aEz {p q:List Rat} (h:∀i,co p i=co q i):abR p=abR q:=by unfold abR;rw [aE2 h (fun i hi=>amN hi) (fun i hi=>amN hi)];exact bE fun i _=>h i
theorem aur (p:List Rat):abR (abR p)=abR p:=aEz fun i=>amP p i
theorem atA (p:List Rat):(abR p).length=lnP (co p) p.length:=mX ..
def cvF (f g:Nat->Rat) (k:Nat):Rat:=sumN (fun i=>f i*g (k-i)) (k+1)
theorem aoJ {f g f' g':Nat->Rat} (hf:∀i,f i=f' i) (hg:∀i,g i=g' i) (k:Nat):cvF f g k=cvF f' g' k:=uv fun i _=>by rw [hf,hg]
theorem aDr (f:Nat->Rat):∀n,sumN f (n+1)=f 0+sumN (fun i=>f (i+1)) n
 | 0=>by show 0+f 0=f 0+0;grind
 | n+1=>by
  show sumN f (n+1)+f (n+1)=f 0+(sumN (fun i=>f (i+1)) n+f (n+1))
  rw [aDr f n];grind
theorem aDR (f:Nat->Rat):∀n,sumN (fun i=>f (n-i)) (n+1)=sumN f (n+1)
 | 0=>rfl
 | n+1=>by rw [aDr];show f (n+1)+sumN (fun i=>f (n+1-(i+1))) (n+1)=sumN f (n+1)+f (n+1);rw [show sumN (fun i=>f (n+1-(i+1))) (n+1)=sumN (fun i=>f (n-i)) (n+1) from uv fun i _=>by rw [show n+1-(i+1)=n-i by omega],aDR f n];grind
theorem at0 (f g:Nat->Rat) (k:Nat):cvF f g k=cvF g f k:=by unfold cvF;rw [<-aDR (fun i=>f i*g (k-i)) k];exact uv fun i hi=>by (try dsimp only);rw [show k-(k-i)=i by omega,GF]
theorem auf (f g h:Nat->Rat) (k:Nat):cvF (fun i=>f i+g i) h k=cvF f h k+cvF g h k:=by unfold cvF;rw [<-acw];exact uv fun i _=>by grind
def Deg (f:Nat->Rat) (n:Nat):Prop:=∀i,n<=i->f i=0
theorem Deg.cv {f g:Nat->Rat} {n m:Nat} (hf:Deg f n) (hg:Deg g m):Deg (cvF f g) (n+m-1):=fun k hk=>acj fun i hi=>by
 (try dsimp only);rcases aV i n with h | h
 ·rw [hg (k-i) (by omega),GD]
 ·rw [hf i h,tM]
def azW (i:Nat):Rat:=if i=0 then 1 else 0
def evP (f:Nat->Rat) (x:Rat):Nat->Rat
 | 0=>0
 | n+1=>evP f x n+f n*x^n
theorem aDT (x:Rat) (i:Nat):∀j,x^(i+j)=x^i*x^j
 | 0=>by rw [Rat.pow_zero,Lm];rfl
 | j+1=>by rw [show i+(j+1)=(i+j)+1 by omega,KQ,aDT x i j,KQ,Gl]
def dvF (f:Nat->Rat) (i:Nat):Rat:=((i+1:Nat):Rat)*f (i+1)
def dqF (b:Nat->Rat) (m:Nat):Nat->(Nat->Rat)->(Nat->Rat)×(Nat->Rat)
 | 0,r=>(fun _=>0,r)
 | i+1,r=>
  let c:=r (i+m-1)/b (m-1)
  let s:=dqF b m i fun t=>if i<=t/\t<i+m then r t-c*b (t-i) else r t
  (fun t=>if t=i then c else s.1 t,s.2)
theorem aBA (b:Nat->Rat) (m:Nat):∀(i:Nat) (r:Nat->Rat),Deg (dqF b m i r).1 i
 | 0,_=>fun _ _=>rfl
 | i+1,r=>fun t ht=>by
  unfold dqF;show (if t=i then _ else _)=(0:Rat)
  rw [bD (by omega)];exact aBA b m i _ t (by omega)
theorem aHv {b:Nat->Rat} (c:Rat) (i k:Nat):cvF (fun t=>if t=i then c else 0) b k=if i<=k then c*b (k-i) else 0:=by
 unfold cvF;by_cases h:i<=k
 ·rw [gU h,ace (f:=fun t=>(if t=i then c else 0)*b (k-t)) (a:=i) (by omega) fun t _ ay=>by (try dsimp only);rw [bD ay,tM]];(try dsimp only);rw [gU rfl]
 ·rw [bD h];exact acj fun t ht=>by (try dsimp only);rw [bD (by omega),tM]
theorem aE3 {b:Nat->Rat} {m:Nat} (hb:Deg b m) (h0:b (m-1)≠0) (hm:0<m):∀(i:Nat) (r:Nat->Rat),Deg r (i+m-1)->(∀k,r k=cvF (dqF b m i r).1 b k+(dqF b m i r).2 k)/\Deg (dqF b m i r).2 (m-1)
 | 0,r,hr=>⟨fun k=>by show r k=cvF (fun _=>0) b k+r k;rw [show cvF (fun _=>0) b k=0 from acj fun i _=>tM _,G9],by rw [ju] at hr;exact hr⟩
 | i+1,r,hr=>by
  have h1:Deg (fun t=>if i<=t/\t<i+m then r t-r (i+m-1)/b (m-1)*b (t-i) else r t) (i+m-1):=fun t ht=>by
   (try dsimp only);by_cases e:t=i+m-1
   ·rw [gU (by omega),e,show i+m-1-i=m-1 by omega,GU h0,Rat.sub_self]
   ·rw [bD (by omega)];exact hr t (by omega)
  obtain ⟨h2,h3⟩:=aE3 hb h0 hm i _ h1;refine ⟨fun k=>?_,h3⟩;have h4:=h2 k;have e:cvF (dqF b m (i+1) r).1 b k=cvF (fun t=>if t=i then r (i+m-1)/b (m-1) else 0) b k+cvF (dqF b m i fun t=>if i<=t/\t<i+m then r t-r (i+m-1)/b (m-1)*b (t-i) else r t).1 b k:=by
   rw [<-auf];refine aoJ (fun t=>?_) (fun _=>rfl) k;show (if t=i then _ else _)=_;by_cases ht:t=i
   ·rw [gU ht,gU ht,ht,aBA b m i _ i (au i),yk]
   ·rw [bD ht,bD ht,G9]
  rw [e,aHv];show r k=_+_+(dqF b m i _).2 k;rw [Rat.add_assoc, <- h4];by_cases hk:i<=k/\k<i+m
  ·rw [gU hk,gU hk.1];grind
  ·rw [bD hk];by_cases hi:i<=k
   ·rw [gU hi,hb (k-i) (by omega)];grind
   ·rw [bD hi,G9]
theorem aqq (f:Nat->Rat) (k:Nat):cvF (fun _=>0) f k=0:=acj fun i _=>tM _
def aoH (f:Nat->Rat):Prop:=∃n,Deg f n
def Dv (g f:Nat->Rat):Prop:=∃h,aoH h/\∀k,f k=cvF h g k
theorem aCz {p:List Rat} {n:Nat} (h:Deg (co p) n):(abR p).length<=n:=by
 rw [atA];rcases aV n (lnP (co p) p.length) with h1 | h1
 ·exact absurd (h _ (by omega)) (au5 (n:=p.length) (by omega))
 ·exact h1
theorem aup {n:Nat} {f:Nat->Rat} (h:Deg f n) (k:Nat):co (aA n f) k=f k:=by
 rcases aV k n with h1 | h1
 ·exact fW h1 0
 ·rw [amN (by rw [mX];exact h1),h k h1]
theorem at2 {p:List Rat}:Deg (co p) (abR p).length:=fun k hk=>by rw [<-amP];exact amN hk
def Tri (p:List Rat):Prop:=0<p.length->co p (p.length-1)≠0
theorem Tri.trim (p:List Rat):Tri (abR p):=fun h=>by rw [amP];rw [atA] at h ⊢;exact au5 h
theorem Tri.is {p:List Rat} (h:Tri p):abR p=p:=by
 have e:(abR p).length=p.length:=by rw [atA];exact aEh (fun i h1 h2=>absurd h1 (by omega)) (au _) h
 refine Hh e fun i h1 h2=>?_;have:=amP p i;unfold co at this;rw [aI,aI,bh h1,bh h2] at this;exact this
def dvS (a b:List Rat):(Nat->Rat)×(Nat->Rat):=dqF (co b) b.length ((abR a).length+1-b.length) (co a)
def aoI (a b:List Rat):List Rat:=abR (aA ((abR a).length+1-b.length) (dvS a b).1)
def afM (a b:List Rat):List Rat:=abR (aA (abR a).length (dvS a b).2)
theorem aq0 {a b:List Rat} (hb:Tri b) (h0:0<b.length):(∀k,co a k=cvF (co (aoI a b)) (co b) k+co (afM a b) k)/\(afM a b).length<b.length:=by
 have hd:Deg (co a) ((abR a).length+1-b.length+b.length-1):=fun k hk=>at2 k (by omega);obtain ⟨h1,h2⟩:=aE3 (b:=co b) (m:=b.length) (fun _ hi=>amN hi) (hb h0) h0 _ _ hd;have hr:Deg (dvS a b).2 (abR a).length:=fun k hk=>by
  rcases aV (abR a).length b.length with h | h
  ·unfold dvS;rw [show (abR a).length+1-b.length=0 by omega];exact at2 k hk
  ·exact h2 k (by omega)
 have er:∀k,co (afM a b) k=(dvS a b).2 k:=fun k=>by unfold afM;rw [amP,aup hr]
 have eq:∀k,co (aoI a b) k=(dvS a b).1 k:=fun k=>by unfold aoI;rw [amP,aup (show Deg (dvS a b).1 _ from aBA _ _ _ _)]
 refine ⟨fun k=>?_,?_⟩
 ·rw [er,aoJ eq (fun _=>rfl)];exact h1 k
 ·have:=aCz (p:=aA (abR a).length (dvS a b).2) (n:=b.length-1) fun k hk=>by rw [aup hr];exact h2 k hk
  show (abR _).length<_;omega
theorem as4 {x:Rat} (h:x≠0):x*(1/x)=1:=by rw [GA,K4,Gb _ h]
def apl (p:List Rat):List Rat:=abR (aA (abR p).length fun i=>co p i*(1/co p ((abR p).length-1)))
theorem aAF (p:List Rat) (k:Nat):co (apl p) k=1/co p ((abR p).length-1)*co p k:=by unfold apl;rw [amP,aup,GF];exact fun i hi=>by (try dsimp only);rw [at2 i hi,tM]
theorem aqI (p:List Rat):(apl p).length=(abR p).length:=by
 unfold apl;rw [atA,mX];refine aEh (fun i h1 h2=>absurd h1 (by omega)) (au _) fun h=>?_
 rw [aup fun i hi=>by (try dsimp only);rw [at2 i hi,tM]];(try dsimp only);have h0:co p ((abR p).length-1)≠0:=by have:=Tri.trim p h;rwa [amP] at this
 rw [as4 h0];decide
def gcL:Nat->List Rat->List Rat->List Rat
 | 0,a,_=>a
 | n+1,a,b=>if b.length=0 then a else gcL n b (apl (afM a b))
def ajJ (p q:List Rat):List Rat:=gcL (apl q).length (apl p) (apl q)
def Mon (p:List Rat):Prop:=0<p.length->co p (p.length-1)=1
def sgR (a b:Nat):Rat:=if a%2=0/\b%2=0 then -1 else 1
def rsL:Nat->List Rat->List Rat->Rat
 | 0,a,b=>co a 0^(b.length-1)
 | n+1,a,b=>if a.length<=1 then co a 0^(b.length-1) else if (afM b a).length=0 then 0 else co a (a.length-1)^(b.length-(afM b a).length)*sgR a.length (afM b a).length*rsL n (afM b a) a
structure Scl (c:Rat) (a a':List Rat):Prop where
 len:a'.length=a.length
 co:∀k,co a' k=c*co a k
def Cm (n:Nat) (f:Nat->Rat):Prop:=∃D:Int,D≠0/\Sm n D.natAbs/\∀i,∃z:Int,Sm n z.natAbs/\f i*(D:Rat)=(z:Rat)
theorem au7 {D:Int} (h:D≠0):(D:Rat)≠0:=fun e=>h (Rat.intCast_inj.1 e)
theorem Cm.sq {n:Nat} {f:Nat->Rat} (h:Cm n f) (h1:1<=n) (i:Nat):Sq (n+n) (f i):=by obtain ⟨D,d0,dn,hf⟩:=h;obtain ⟨z,zn,e⟩:=hf i;have:=(Sq.int zn h1).div (Sq.int dn h1) (au7 d0);rw [<-e] at this;rwa [show f i*(D:Rat)/(D:Rat)=f i by rw [GA,Gl,Gb _ (au7 d0),Lm]] at this
theorem Cm.le {n m:Nat} {f:Nat->Rat} (h:Cm n f) (hm:n<=m):Cm m f:=by obtain ⟨D,d0,dn,hf⟩:=h;exact ⟨D,d0,dn.le hm,fun i=>by obtain ⟨z,zn,e⟩:=hf i;exact ⟨z,zn.le hm,e⟩⟩
theorem Cm.step {n m:Nat} {r b:Nat->Rat} (hr:Cm n r) (hb:Cm m b) {t u:Nat} (h0:b u≠0) (P:Nat->Prop) [DecidablePred P] (w:Nat->Nat) :
  Cm (n+m+1) fun k=>if P k then r k-r t/b u*b (w k) else r k:=by
 obtain ⟨D,d0,dn,hr⟩:=hr
 obtain ⟨E,e0,en,hb⟩:=hb
 obtain ⟨Bt,bn,eb⟩:=hb u
 obtain ⟨Rt,rn,et⟩:=hr t
 have bq:(Bt:Rat)≠0:=by rw [<-eb];exact fun e=>(Jn.1 e).elim h0 (au7 e0)
 have b0:Bt≠0:=fun e=>bq (by rw [e];rfl)
 refine ⟨D*Bt,C6 d0 b0,by rw [pj];exact (dn.mul bn).le (by omega),fun k=>?_⟩
 obtain ⟨Rk,kn,ek⟩:=hr k
 (try dsimp only)
 split
 ·obtain ⟨Bk,ln,el⟩:=hb (w k)
  refine ⟨Rk*Bt-Rt*Bk,?_,?_⟩
  ·rw [Int.sub_eq_add_neg]
   exact ((show Sm (n+m) (Rk*Bt).natAbs by rw [pj];exact kn.mul bn).S7 (show Sm (n+m) (-(Rt*Bk)).natAbs by rw [KW,pj];exact rn.mul ln)).le (by omega)
  ·rw [Rat.intCast_sub,pw,pw,pw, <- ek, <- et, <- el, <- eb,GA]
   have:=Gb _ h0
   grind
 ·exact ⟨Rk*Bt,by rw [pj];exact (kn.mul bn).le (by omega),by rw [pw,pw, <- ek];grind⟩
theorem Cm.over {n:Nat} {r:Nat->Rat} (hr:Cm n r) {t:Nat} (h0:r t≠0):Cm n fun k=>1/r t*r k:=by
 obtain ⟨D,d0,dn,hr⟩:=hr;obtain ⟨Rt,rn,et⟩:=hr t;have bq:(Rt:Rat)≠0:=by rw [<-et];exact fun e=>(Jn.1 e).elim h0 (au7 d0)
 refine ⟨Rt,fun e=>bq (by rw [e];rfl),rn,fun k=>?_⟩;obtain ⟨z,zn,e⟩:=hr k;refine ⟨z,zn,?_⟩;rw [<-e, <- et];have:=as4 h0;grind
theorem Sm.aHB {n:Nat} {z:Int} (h:Sm n z.natAbs) (h1:1<=n):∀k:Nat,Sm (k*n+1) (z^k).natAbs
 | 0=>by rw [Int.pow_zero];exact Sm.one.le (by omega)
 | k+1=>by rw [Int.pow_succ,pj];exact ((Sm.aHB h h1 k).mul h).le (by rw [gA];omega)
theorem aED {b:Nat->Rat} {m nb:Nat} {E Bt:Int} (e0:E≠0) (en:Sm nb E.natAbs) (hb:∀k,∃z:Int,Sm nb z.natAbs/\b k*(E:Rat)=(z:Rat)) (b0:b (m-1)≠0) (bn:Sm nb Bt.natAbs) (eb:b (m-1)*(E:Rat)=(Bt:Rat)) :
  ∀(i:Nat) (r:Nat->Rat) (n:Nat) (D:Int),D≠0->(∀k,∃z:Int,Sm n z.natAbs/\r k*(D:Rat)=(z:Rat)) ->
   (∀k,∃z:Int,Sm (n+i*(nb+1)) z.natAbs/\(dqF b m i r).2 k*((D*Bt^i:Int):Rat)=(z:Rat))/\∀k,∃z:Int,Sm (n+i*(nb+1)+nb) z.natAbs/\(dqF b m i r).1 k*((D*Bt^i:Int):Rat)=(z:Rat)
 | 0,r,n,D,d0,hr=>⟨fun k=>by obtain ⟨z,h1,h2⟩:=hr k;refine ⟨z,h1.le (by omega),?_⟩;rw [Int.pow_zero,Int.mul_one];exact h2,fun k=>⟨0,Sm.zero _,by show (0:Rat)*_=_;rw [tM];rfl⟩⟩
 | i+1,r,n,D,d0,hr=>by
  have bq:(Bt:Rat)≠0:=by rw [<-eb];exact fun e=>(Jn.1 e).elim b0 (au7 e0)
  have bz:Bt≠0:=fun e=>bq (by rw [e];rfl);obtain ⟨Rt,rn,et⟩:=hr (i+m-1);have hs:∀k,∃z:Int,Sm (n+nb+1) z.natAbs/\(if i<=k/\k<i+m then r k-r (i+m-1)/b (m-1)*b (k-i) else r k)*((D*Bt:Int):Rat)=(z:Rat):=fun k=>by
   obtain ⟨Rk,kn,ek⟩:=hr k;split
   ·obtain ⟨Bk,ln,el⟩:=hb (k-i);refine ⟨Rk*Bt-Rt*Bk,?_,?_⟩
    ·rw [Int.sub_eq_add_neg];exact ((show Sm (n+nb) (Rk*Bt).natAbs by rw [pj];exact kn.mul bn).S7 (show Sm (n+nb) (-(Rt*Bk)).natAbs by rw [KW,pj];exact rn.mul ln)).le (by omega)
    ·rw [Rat.intCast_sub,pw,pw,pw, <- ek, <- et, <- el, <- eb,GA];have:=Gb _ b0;grind
   ·exact ⟨Rk*Bt,by rw [pj];exact (kn.mul bn).le (by omega),by rw [pw,pw, <- ek];grind⟩
  obtain ⟨h1,h2⟩:=aED e0 en hb b0 bn eb i _ (n+nb+1) (D*Bt) (C6 d0 bz) hs;have ep:D*Bt^(i+1)=D*Bt*Bt^i:=by rw [Int.pow_succ];rw [Int.mul_comm (Bt^i),Int.mul_assoc]
  have el:n+nb+1+i*(nb+1)=n+(i+1)*(nb+1):=by rw [gA];omega
  refine ⟨fun k=>?_,fun k=>?_⟩
  ·obtain ⟨z,z1,z2⟩:=h1 k;exact ⟨z,by rw [<-el];exact z1,by rw [ep];exact z2⟩
  ·by_cases e:k=i
   ·rw [show (dqF b m (i+1) r).1 k=r (i+m-1)/b (m-1) from gU e];have hp:Sm (i*(nb+1)+1) (Bt^i).natAbs:=(Sm.aHB (bn.le (Nat.le_succ nb)) (by omega) i)
    refine ⟨Rt*E*Bt^i,?_,?_⟩
    ·rw [pj,pj];exact ((rn.mul en).mul hp).le (by rw [gA];omega)
    ·rw [ep,pw,pw,pw,pw, <- et, <- eb,GA];have:=Gb _ b0;grind
   ·rw [show (dqF b m (i+1) r).1 k=(dqF b m i fun t=>if i<=t/\t<i+m then r t-r (i+m-1)/b (m-1)*b (t-i) else r t).1 k from bD e];obtain ⟨z,z1,z2⟩:=h2 k;exact ⟨z,by rw [<-el];exact z1,by rw [ep];exact z2⟩
theorem Cm.dq {n nb m:Nat} {r b:Nat->Rat} (hr:Cm n r) (hb:Cm nb b) (b0:b (m-1)≠0) (i:Nat):Cm (n+i*(nb+1)+1) (dqF b m i r).2/\Cm (n+i*(nb+1)+nb+1) (dqF b m i r).1:=by
 obtain ⟨D,d0,dn,hr⟩:=hr;obtain ⟨E,e0,en,hb⟩:=hb;obtain ⟨Bt,bn,eb⟩:=hb (m-1);have bq:(Bt:Rat)≠0:=by rw [<-eb];exact fun e=>(Jn.1 e).elim b0 (au7 e0)
 have bz:Bt≠0:=fun e=>bq (by rw [e];rfl);obtain ⟨h1,h2⟩:=aED e0 en hb b0 bn eb i r n D d0 hr;have hp:Sm (i*(nb+1)+1) (Bt^i).natAbs:=(Sm.aHB (bn.le (Nat.le_succ nb)) (by omega) i)
 have hd:Sm (n+i*(nb+1)+1) (D*Bt^i).natAbs:=by rw [pj];exact (dn.mul hp).le (by omega)
 have hz:D*Bt^i≠0:=C6 d0 (Int.pow_ne_zero bz);refine ⟨⟨_,hz,hd,fun k=>?_⟩,⟨_,hz,hd.le (by omega),fun k=>?_⟩⟩
 ·obtain ⟨z,z1,z2⟩:=h1 k;exact ⟨z,z1.le (by omega),z2⟩
 ·obtain ⟨z,z1,z2⟩:=h2 k;exact ⟨z,z1.le (by omega),z2⟩
theorem Cm.congr {n:Nat} {f g:Nat->Rat} (h:Cm n f) (e:∀k,g k=f k):Cm n g:=by rw [show g=f from funext e];exact h
theorem Cm.quo {n m:Nat} {a b:List Rat} (ha:Cm n (co a)) (hb:Cm m (co b)) (tb:Tri b) (h0:0<b.length):Cm (n+((abR a).length+1-b.length)*(m+1)+m+1) (co (aoI a b)):=by refine (ha.dq hb (tb h0) ((abR a).length+1-b.length)).2.congr fun k=>?_;unfold aoI;rw [amP,aup (show Deg (dvS a b).1 _ from aBA _ _ _ _)];rfl
theorem aIB {a b:List Rat} (tb:Tri b) (h0:0<b.length) (k:Nat):co (afM a b) k=(dvS a b).2 k:=by
 have hd:Deg (co a) ((abR a).length+1-b.length+b.length-1):=fun k hk=>at2 k (by omega);obtain ⟨_,h2⟩:=aE3 (b:=co b) (m:=b.length) (fun _ hi=>amN hi) (tb h0) h0 _ _ hd;have hr:Deg (dvS a b).2 (abR a).length:=fun k hk=>by
  rcases aV (abR a).length b.length with h | h
  ·unfold dvS;rw [show (abR a).length+1-b.length=0 by omega];exact at2 k hk
  ·exact h2 k (by omega)
 unfold afM;rw [amP,aup hr]
theorem Cm.rem {n m:Nat} {a b:List Rat} (ha:Cm n (co a)) (hb:Cm m (co b)) (tb:Tri b) (h0:0<b.length):Cm (n+((abR a).length+1-b.length)*(m+1)+1) (co (afM a b)):=(ha.dq hb (tb h0) ((abR a).length+1-b.length)).1.congr fun k=>aIB tb h0 k
theorem Cm.zero {n:Nat} (h:1<=n):Cm n fun _=>0:=⟨1,by decide,Sm.one.le h,fun _=>⟨0,Sm.zero n,by rw [tM];rfl⟩⟩
theorem Cm.nil {n:Nat} {a:List Rat} (h:1<=n) (h0:a.length=0):Cm n (co a):=(Cm.zero h).congr fun k=>amN (by omega)
theorem Cm.mon {n:Nat} {a:List Rat} (h:Cm n (co a)) (h1:1<=n):Cm n (co (apl a)):=by
 by_cases h0:(abR a).length=0
 ·exact Cm.nil h1 (by rw [aqI];exact h0)
 ·have hc:co a ((abR a).length-1)≠0:=by have:=Tri.trim a (by omega);rwa [amP] at this
  exact (h.over hc).congr (aAF a)
def pot (M la lb:Nat):Nat:=if lb<la then (M+2)*3^la else 2*(M+2)*3^lb
def EuS (U:Nat) (a b:List Rat):Prop:=∃M,1<=M/\Cm M (co a)/\Cm M (co b)/\pot M a.length b.length<=U
theorem aE7:∀e:Nat,e+3<=3^(e+1)
 | 0=>by decide
 | e+1=>by have:=aE7 e;rw [iQ];omega
theorem aGs {M la lb lr:Nat} (h0:0<lb) (hl:lr<lb):pot (M+(la+1-lb)*(M+1)+1) lb lr<=pot M la lb:=by
 unfold pot;rw [gU hl];rcases xU la lb with h | h | h
 ·rw [bD (by omega),show la+1-lb=0 by omega];exact ba _ (by omega)
 ·rw [bD (by omega),show la+1-lb=1 by omega];exact ba _ (by omega)
 ·rw [gU h];obtain ⟨e,rfl⟩:∃e,la=lb+(e+1):=⟨la-lb-1,by omega⟩
  rw [show lb+(e+1)+1-lb=e+2 by omega,ky, <- iY,Ga];refine ba _ (ia ?_ (cM (M+2) (aE7 e)));have:(e+2)*(M+1)=e*(M+1)+2*(M+1):=gA ..;have h2:(M+2)*(e+3)=e*(M+1)+e+3*(M+2):=by rw [po,c6 (M+2) e,c6 (M+2) 3,show e*(M+2)=e*(M+1)+e by rw [show M+2=M+1+1 from rfl,Nat.mul_succ]]
  omega
theorem aDU {M la lb U:Nat} (h0:0<lb) (h:pot M la lb<=U):3*(M+(la+1-lb)*(M+1)+M+2)<=2*U:=by
 unfold pot at h;have p3:3<=3^lb:=by have:=eM (show 0<3 by decide) h0;rwa [G3] at this
 rcases xU la lb with hl | hl | hl
 ·rw [bD (by omega)] at h;rw [show la+1-lb=0 by omega];have:=cM (2*(M+2)) p3;omega
 ·rw [bD (by omega)] at h;rw [show la+1-lb=1 by omega];have:=cM (2*(M+2)) p3;omega
 ·rw [gU hl] at h;obtain ⟨e,rfl⟩:∃e,la=lb+(e+1):=⟨la-lb-1,by omega⟩
  rw [show lb+(e+1)+1-lb=e+2 by omega];rw [ky, <- iY] at h;have h1:=cM (M+2) p3;have h2:=tK h1 (aE7 e);have:(e+2)*(M+1)=e*(M+1)+2*(M+1):=gA ..;have h3:(M+2)*3*(e+3)=3*(e*(M+1))+3*e+9*(M+2):=by rw [Ga,po,c6 (M+2) e,show e*(M+2)=e*(M+1)+e by rw [show M+2=M+1+1 from rfl,Nat.mul_succ]];omega
  omega
theorem EuS.step {U:Nat} {a b:List Rat} (h:EuS U a b) (ta:Tri a) (tb:Tri b) (h0:0<b.length):EuS U b (apl (afM a b))/\EuS U b (afM a b):=by obtain ⟨M,h1,ha,hb,hU⟩:=h;have hr:=ha.rem hb tb h0;rw [ta.is] at hr;have hl:=(aq0 (a:=a) tb h0).2;have er:abR (afM a b)=afM a b:=aur _;have hp:=ia (aGs (M:=M) (la:=a.length) h0 hl) hU;exact ⟨⟨_,by omega,hb.le (by omega),hr.mon (by omega),by rw [aqI,er];exact hp⟩,⟨_,by omega,hb.le (by omega),hr,hp⟩⟩
end Go.Proofs.YtncndgpchogadaaGreatDoor.AM
