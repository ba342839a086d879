/- The base of the proof: contracts of functions, the engine that shows them, and mathematics. -/
import Derived.Test.YtleakmppfpkbjaaGreatDoorBd8
set_option maxRecDepth 100000
set_option linter.unusedVariables false
set_option linter.unusedSimpArgs false
set_option maxHeartbeats 1000000
namespace Go.Proofs.YtleakmppfpkbjaaGreatDoor.AM
open Go.RowKit
theorem aps.lu {ok:Nat->Prop} {w:World} {β:Bm} {x:Nat} {v:Value} (h:aps ok w β (.k .nat x) v):v=nV x:=by obtain ⟨c,hc,hv⟩:=h;have hc:c=iD x:=hc;subst hc;exact hv
theorem aps.Jt {ok:Nat->Prop} {w:World} {β:Bm} (x:Nat):aps ok w β (.k .nat x) (nV x):=⟨iD x,rfl,rfl⟩
theorem aps.xE {ok:Nat->Prop} {w:World} {β:Bm} {x:Nat} {v:Value} (h:aps ok w β (.k .rn x) v):bJ x v w:=by obtain ⟨c,⟨u,rfl,h1⟩,hv⟩:=h;obtain ⟨A,k,rfl⟩:=h1.form;rw [hv];exact h1
theorem aps.VB {ok:Nat->Prop} {w:World} {β:Bm} {x:Nat} {v:Value} (h:bJ x v w):aps ok w β (.k .rn x) v:=⟨[v],⟨v,rfl,h⟩,rfl⟩
theorem FD {f:FuncId} {a:Array Value} {w:World} {x:Nat} (h:Calls Tryz.prog f a w (cg (nV x) w)):Calls Tryz.prog f a w (Gv (.k .nat x) w):=Calls.mono h fun e w' ⟨h1,h2⟩=>⟨_,h1,h2,.Jt x⟩
theorem VC {f:FuncId} {a:Array Value} {w:World} {x:Int} (h:Calls Tryz.prog f a w (cg (.int .i64 x) w)):Calls Tryz.prog f a w (Gv (.k (.int .i64) x) w):=Calls.mono h fun e w' ⟨h1,h2⟩=>⟨_,h1,h2,.mkInt _ x⟩
theorem xF {f:FuncId} {a:Array Value} {w:World} {x:Nat} (h:Calls Tryz.prog f a w (auf (bJ x) w)):Calls Tryz.prog f a w (Gv (.k .rn x) w):=Calls.mono h fun e w' ⟨v,h1,h2,h3⟩=>⟨v,h1,h3,.VB h2⟩
theorem ph {ok:Nat->Prop} {w:World} {β:Bm} {a b:AV} {u v:Value} (h1:aps ok w β a u) (h2:aps ok w β b v):aps ok w β (.eX (.cons a (.cons b .nil))) (.tuple #[u,v]):=by obtain ⟨c1,a1,e1⟩:=h1;obtain ⟨c2,a2,e2⟩:=h2;exact ⟨[.tuple #[u,v]],⟨[u,v],rfl,c1,[v],a1,⟨c2,[],a2,rfl,by rw [e2];rfl⟩,by rw [e1];rfl⟩,rfl⟩
theorem FE {ok:Nat->Prop} {w:World} {β:Bm} {a b c:AV} {u v x:Value} (h1:aps ok w β a u) (h2:aps ok w β b v) (h3:aps ok w β c x):aps ok w β (.eX (.cons a (.cons b (.cons c .nil)))) (.tuple #[u,v,x]):=by obtain ⟨c1,a1,e1⟩:=h1;obtain ⟨c2,a2,e2⟩:=h2;obtain ⟨c3,a3,e3⟩:=h3;exact ⟨[.tuple #[u,v,x]],⟨[u,v,x],rfl,c1,[v,x],a1,⟨c2,[x],a2,⟨c3,[],a3,rfl,by rw [e3];rfl⟩,by rw [e2];rfl⟩,by rw [e1];rfl⟩,rfl⟩
def BN:Nat:=130000000000
theorem BV {j:Nat} (h:130000000000<=j):max BN BN<=j:=by unfold BN;omega
abbrev N1 (x:Nat):Option Prop:=some (Sm BN x)
abbrev N2 (x y:Nat):Option Prop:=some (Sm BN x/\Sm BN y)
abbrev T2 (a b:AV):AV:=.eX (.cons a (.cons b .nil))
abbrev T3 (a b c:AV):AV:=.eX (.cons a (.cons b (.cons c .nil)))
def Nf:Ctr:=⟨104,false,on1 (.int .u64) (fun n=>some (0<=n/\n<18446744073709551616)) fun n=>.k .nat (Int.toNat n)⟩
theorem xG:aoQ (cfg []) Nf:=nB (enters_of Tryz.func104 (by kernel_rfl) rfl) (fun _=>rfl) fun F n u w hg ht hu=>by obtain rfl:=hu.int;obtain ⟨m,rfl⟩:=yr hg.1;have h2:((m:Nat):Int)<18446744073709551616:=hg.2;exact FD (H5 m (by unfold B64;omega) w)
def VD:Ctr:=⟨128,false,on2 .nat .nat N2 fun x y=>.k .nat (x+y:Nat)⟩
theorem Pv:aoQ (cfg []) VD:=iN (enters_of Tryz.func128 (by kernel_rfl) rfl) (fun _ _=>rfl) fun F x y u v w hg ht hu hv=>by obtain rfl:=hu.lu;obtain rfl:=hv.lu;exact FD (aex hg.1 hg.2 w (BV (by omega)))
def Ju:Ctr:=⟨82,false,on2 .nat .nat N2 fun x y=>.k .nat (x*y:Nat)⟩
theorem zR:aoQ (cfg []) Ju:=iN (enters_of Tryz.func82 (by kernel_rfl) rfl) (fun _ _=>rfl) fun F x y u v w hg ht hu hv=>by obtain rfl:=hu.lu;obtain rfl:=hv.lu;exact FD (aey hg.1 hg.2 w (BV (by omega)))
def Jv:Ctr:=⟨107,false,on2 .nat .nat N2 fun x y=>.k (.int .i64) (bG x y)⟩
theorem zS:aoQ (cfg []) Jv:=iN (enters_of Tryz.func107 (by kernel_rfl) rfl) (fun _ _=>rfl) fun F x y u v w hg ht hu hv=>by obtain rfl:=hu.lu;obtain rfl:=hv.lu;exact VC (aez hg.1 hg.2 w (BV (by omega)))
def vm:Ctr:=⟨94,false,on1 .nat N1 fun x=>.k (.int .i64) ((bl x:Nat):Int)⟩
theorem qS:aoQ (cfg []) vm:=nB (enters_of Tryz.func94 (by kernel_rfl) rfl) (fun _=>rfl) fun F x u w hg ht hu=>by obtain rfl:=hu.lu;exact VC (acq hg w (by unfold BN;omega))
def VE:Ctr:=⟨129,false,on2 .nat .nat N2 fun x y=>T2 (.k .nat (x-y:Nat)) (.k .bool (decide ((y:Nat)<=x)))⟩
theorem Pw:aoQ (cfg []) VE:=iN (enters_of Tryz.func129 (by kernel_rfl) rfl) (fun _ _=>rfl) fun F x y u v w hg ht hu hv=>by
 obtain rfl:=hu.lu;obtain rfl:=hv.lu;by_cases h:(y:Nat)<=x
 ·exact Calls.mono (aeA hg.1 hg.2 h w (BV (by omega))) fun e w' ⟨h1,h2⟩=>⟨_,h1,h2,ph (.Jt _) (by rw [kJ h];exact .dN _)⟩
 ·exact Calls.mono (UO hg.1 hg.2 (Nat.lt_of_not_le h) w (BV (by omega))) fun e w' ⟨h1,h2⟩=>⟨_,h1,h2,ph (by rw [Nat.sub_eq_zero_of_le (Nat.le_of_not_le h)];exact .Jt _) (by rw [iR h];exact .dN _)⟩
def Jw:Ctr:=⟨108,false,on2 .nat .nat N2 fun x y=>T3 (.k .nat (x/y:Nat)) (.k .nat (if (y:Nat)=0 then 0 else x%y)) (.k .bool (!decide ((y:Nat)=0)))⟩
theorem zT:aoQ (cfg []) Jw:=iN (enters_of Tryz.func108 (by kernel_rfl) rfl) (fun _ _=>rfl) fun F x y u v w hg ht hu hv=>by
 obtain rfl:=hu.lu;obtain rfl:=hv.lu;by_cases h:(y:Nat)=0
 ·subst h;exact Calls.mono (div_zero x w) fun e w' ⟨h1,h2⟩=>⟨_,h1,h2,FE (by rw [Nat.div_zero];exact .Jt _) (.Jt _) (.dN _)⟩
 ·rw [c6 h];exact Calls.mono (cdiv hg.1 hg.2 h w (BV (by omega))) fun e w' ⟨h1,h2⟩=>⟨_,h1,h2,FE (.Jt _) (.Jt _) (by rw [iR h];exact .dN _)⟩
def FF:Ctr:=⟨109,false,on1 .nat (fun _=>none) fun x=>T2 (.k (.int .u64) (if (x:Nat)<18446744073709551616 then ((x:Nat):Int) else 0)) (.k .bool (decide ((x:Nat)<18446744073709551616)))⟩
theorem FG:aoQ (cfg []) FF:=nB (enters_of Tryz.func109 (by kernel_rfl) rfl) (fun _=>rfl) fun F x u w hg ht hu=>by
 obtain rfl:=hu.lu;by_cases h:(x:Nat)<18446744073709551616
 ·have hx:(x:Nat)<B64:=h;rw [eJ h];exact Calls.mono (Oh x hx w) fun e w' ⟨h1,h2⟩=>⟨_,h1,h2,ph (.mkInt _ _) (by rw [kJ h];exact .dN _)⟩
 ·have hx:B64<=(x:Nat):=Lo h;rw [c6 h];exact Calls.mono (Oi x hx w) fun e w' ⟨h1,h2⟩=>⟨_,h1,h2,ph (.mkInt _ _) (by rw [iR h];exact .dN _)⟩
def VF:Ctr:=⟨110,false,on2 .nat .nat (fun x y=>some ((x:Nat)≠0/\(y:Nat)≠0/\Sm BN x/\Sm BN y)) fun x y=>.k .nat (Nat.gcd x y)⟩
theorem Px:aoQ (cfg []) VF:=iN (enters_of Tryz.func110 (by kernel_rfl) rfl) (fun _ _=>rfl) fun F x y u v w hg ht hu hv=>by obtain rfl:=hu.lu;obtain rfl:=hv.lu;obtain ⟨h1,h2,h3,h4⟩:=hg;exact FD (BL x y (Ar h1) (Ar h2) (by unfold Sm BN at h3;omega) (by unfold Sm BN at h4;omega) w ht)
def VG:Ctr:=⟨65,false,on2 .rn .rn N2 fun x y=>.k .rn (x+y:Nat)⟩
theorem Py:aoQ (cfg []) VG:=iN (enters_of Tryz.func65 (by kernel_rfl) rfl) (fun _ _=>rfl) fun F x y u v w hg ht hu hv=>xF (ac3 hg.1 hg.2 w hu.xE hv.xE (BV (by omega)))
def VH:Ctr:=⟨66,false,on2 .rn .rn (fun x y=>some (Sm BN x/\(y:Nat)<=x)) fun x y=>.k .rn (x-y:Nat)⟩
theorem Pz:aoQ (cfg []) VH:=iN (enters_of Tryz.func66 (by kernel_rfl) rfl) (fun _ _=>rfl) fun F x y u v w hg ht hu hv=>xF (ac4 hg.1 hg.2 w hu.xE hv.xE (by unfold BN;omega))
def VI:Ctr:=⟨33,false,on2 .rn .rn N2 fun x y=>.k .rn (x*y:Nat)⟩
theorem PA:aoQ (cfg []) VI:=iN (enters_of Tryz.func33 (by kernel_rfl) rfl) (fun _ _=>rfl) fun F x y u v w hg ht hu hv=>xF (ac5 hg.1 hg.2 w hu.xE hv.xE (BV (by omega)))
def Jx:Ctr:=⟨61,false,on2 .rn .rn N2 fun x y=>.k (.int .i64) (bG x y)⟩
theorem zU:aoQ (cfg []) Jx:=iN (enters_of Tryz.func61 (by kernel_rfl) rfl) (fun _ _=>rfl) fun F x y u v w hg ht hu hv=>VC (ac6 hg.1 hg.2 w hu.xE hv.xE (BV (by omega)))
def aa4:Ctr:=⟨35,false,on1 (.int .u64) (fun n=>some (0<=n/\n<18446744073709551616)) fun n=>.k .rn (Int.toNat n)⟩
theorem VJ:aoQ (cfg []) aa4:=nB (enters_of Tryz.func35 (by kernel_rfl) rfl) (fun _=>rfl) fun F n u w hg ht hu=>by obtain rfl:=hu.int;obtain ⟨m,rfl⟩:=yr hg.1;have h2:((m:Nat):Int)<18446744073709551616:=hg.2;exact xF (xk m (by unfold B64;omega) w)
def VK:Ctr:=⟨64,false,on2 .rn .rn (fun x y=>some (Sm BN x/\Sm BN y/\(y:Nat)≠0)) fun x y=>T2 (.k .rn (x/y:Nat)) (.k .rn (x%y:Nat))⟩
theorem PB:aoQ (cfg []) VK:=iN (enters_of Tryz.func64 (by kernel_rfl) rfl) (fun _ _=>rfl) fun F x y u v w hg ht hu hv=>by obtain ⟨h1,h2,h3⟩:=hg;unfold Sm BN at h1 h2;exact Calls.mono (FC x y u v w hu.xE hv.xE (by omega) (by omega) h3) fun _ _ ⟨p,q,h1,h2,h3,h4⟩=>⟨_,h1,h4,ph (.VB h2) (.VB h3)⟩
def VM:Ctr:=⟨88,false,on1 .rn N1 fun x=>.k .nat (x:Nat)⟩
theorem PC:aoQ (cfg []) VM:=nB (enters_of Tryz.func88 (by kernel_rfl) rfl) (fun _=>rfl) fun F x u w hg ht hu=>by have hg:Sm BN x:=hg;exact FD (Bz x (by unfold Sm BN at hg;omega) u w hu.xE)
def BZ:Nat:=64000000000
noncomputable def LN:List Ctr:=Nf::Jv::vm::[]
theorem xH:bd LN:=⟨xG,zS,qS,trivial⟩
def fzFrom:CF
 | [.k .bool b,.k .nat n]=>some (some (Sm BN n),.k .z (bW b n),[])
 | _=>none
def sj:Ctr:=⟨77,false,fzFrom⟩
def PD (b:Bool) (n:Nat):bk:=⟨fun key_=>match key_ with | 1=>7 | _=>0,nL,nR,nU⟩
def BW (b:Bool) (n:Nat):Prop:=bif b then Sm BN n/\(decide ((0:Int)<(↑(bl n):Int))=true->n≠0)/\bW (decide ((0:Int)<(↑(bl n):Int))) n=bW b n else (false=true->n≠(0 :
 Nat))/\bW false n=bW b n
theorem Jy (b:Bool) (n:Nat):aw LN [] (PD b n) Tryz.f77 (.k .z (bW b n)) [.k .bool b,.k .nat n]=BW b n:=by kernel_rfl
theorem Jz (b:Bool) (n:Nat) (hg:Sm BN n) (hf:cJ [.k .bool b,.k .nat n]):BW b n:=by
 unfold BW;refine nC (fun h=>?_) fun h=>?_
 ·subst h;refine ⟨hg,fun h' e=>?_,?_⟩
  ·have:=(fl n).1 (C8 h');omega
  ·rcases jW n with e | e
   ·subst e;rw [gf];rfl
   ·rw [kJ ((fl n).2 e)]
 ·subst h;exact ⟨fun h=>(by cases h),rfl⟩
theorem nG:aoQ (cfg []) sj:=cf xH bp Tryz.func77 (by kernel_rfl) fun args g r hn hc hg hf=>by
 replace hc:fzFrom args=some (g,r,hn):=hc;unfold fzFrom at hc;split at hc
 ·obtain ⟨rfl,rfl,rfl⟩:=aq0 hc;cases as3 (Jy _ _) (Jz _ _ hg hf);exact ⟨rfl,by kernel_rfl,_,by assumption⟩
 ·cases hc
def fzAbs:CF
 | [.k .z x]=>some (none,.k .nat x.natAbs,[])
 | _=>none
def JA:Ctr:=⟨83,false,fzAbs⟩
def VN (x:Int):bk:=⟨nU,nL,nR,nU⟩
def VO (x:Int):Prop:=x.natAbs=x.natAbs
theorem PE (x:Int):aw LN [] (VN x) Tryz.f83 (.k .nat x.natAbs) [.k .z x]=VO x:=by kernel_rfl
theorem PF (x:Int) (hf:cJ [.k .z x]):VO x:=by rfl
theorem zV:aoQ (cfg []) JA:=cf xH bp Tryz.func83 (by kernel_rfl) fun args g r hn hc hg hf=>by
 replace hc:fzAbs args=some (g,r,hn):=hc;unfold fzAbs at hc;split at hc
 ·obtain ⟨rfl,rfl,rfl⟩:=aq0 hc;cases as3 (PE _) (PF _ hf);exact ⟨rfl,by kernel_rfl,_,by assumption⟩
 ·cases hc
def BX:CF
 | [.k .z x]=>some (some (Sm BN x.natAbs),.k (.int .i64) x.sign,[])
 | _=>none
def vn:Ctr:=⟨58,false,BX⟩
def PG (x:Int):bk:=⟨nU,nL,nR,nU⟩
def BY (x:Int):Prop:=bif decide (x<0) then (-1:Int)=x.sign else Sm BN x.natAbs/\bif decide ((0:Int)<(↑(bl x.natAbs):Int)) then (1:Int)=x.sign else (0:Int)=x.sign
theorem JB (x:Int):aw LN [] (PG x) Tryz.f58 (.k (.int .i64) x.sign) [.k .z x]=BY x:=by kernel_rfl
theorem JC (x:Int) (hg:Sm BN x.natAbs):BY x:=by
 unfold BY;refine aoI (fun h=>(ym h).symm) fun h=>⟨hg,aoI (fun h2=>?_) fun h2=>?_⟩
 ·have:=(fl _).1 h2;exact (yo (by omega)).symm
 ·have h3:¬0<x.natAbs:=fun h3=>h2 ((fl _).2 h3);have:x=0:=by omega
  subst this;rfl
theorem qT:aoQ (cfg []) vn:=cf xH bp Tryz.func58 (by kernel_rfl) fun args g r hn hc hg hf=>by
 replace hc:BX args=some (g,r,hn):=hc;unfold BX at hc;split at hc
 ·obtain ⟨rfl,rfl,rfl⟩:=aq0 hc;cases as3 (JB _) (JC _ hg);exact ⟨rfl,by kernel_rfl,_,by assumption⟩
 ·cases hc
def fzCmp:CF
 | [.k .z x,.k .z y]=>some (some (Sm BN x.natAbs/\Sm BN y.natAbs),.k (.int .i64) (dS x y),[])
 | _=>none
def VP:Ctr:=⟨102,false,fzCmp⟩
def VQ (x y:Int):bk:=⟨nU,nL,nR,nU⟩
def JD (x y:Int):Prop:=bif decide (x<0) then bif decide (y<0) then (Sm BN y.natAbs/\Sm BN x.natAbs)/\bG y.natAbs x.natAbs=dS x y else bif decide (x<0) then
 (-1:Int)=dS x y else bif decide (y<0) then (1:Int)=dS x y else (Sm BN x.natAbs/\Sm BN y.natAbs)/\bG x.natAbs y.natAbs=dS x y else bif decide
 (x<0) then (-1:Int)=dS x y else bif decide (y<0) then (1:Int)=dS x y else (Sm BN x.natAbs/\Sm BN y.natAbs)/\bG x.natAbs y.natAbs =
 dS x y
theorem PH (x y:Int):aw LN [] (VQ x y) Tryz.f102 (.k (.int .i64) (dS x y)) [.k .z x,.k .z y]=JD x y:=by kernel_rfl
theorem PI (x y:Int) (hg:Sm BN x.natAbs/\Sm BN y.natAbs):JD x y:=by unfold JD;obtain ⟨h1,h2⟩:=hg;refine aoI (fun hx=>aoI (fun hy=>⟨⟨h2,h1⟩,Ym hx hy⟩) fun hy=>aoI (fun _=>Yn hx hy) fun h=>absurd hx h) fun hx=>aoI (fun h=>absurd h hx) fun _=>aoI (fun hy=>Yo hx hy) fun hy=>⟨⟨h1,h2⟩,Yl hx hy⟩
theorem PJ:aoQ (cfg []) VP:=cf xH bp Tryz.func102 (by kernel_rfl) fun args g r hn hc hg hf=>by
 replace hc:fzCmp args=some (g,r,hn):=hc;unfold fzCmp at hc;split at hc
 ·obtain ⟨rfl,rfl,rfl⟩:=aq0 hc;cases as3 (PH _ _) (PI _ _ hg);exact ⟨rfl,by kernel_rfl,_,by assumption⟩
 ·cases hc
def fzOfI:CF
 | [.k (.int .i64) n]=>some (some (anu n),.k .z n,[])
 | _=>none
def VR:Ctr:=⟨71,false,fzOfI⟩
def VS (n:Int):bk:=⟨nU,nL,nR,nU⟩
def JE (n:Int):Prop:=
 let t1:=(0:Int)-IntKind.u64.wrap n;
 bif decide (n<0) then ((0:Int)<=IntKind.u64.wrap t1/\IntKind.u64.wrap t1<(18446744073709551616:Int))/\(true=true->(IntKind.u64.wrap t1).toNat≠(0 :
 Nat))/\bW true (IntKind.u64.wrap t1).toNat=n else ((0:Int)<=IntKind.u64.wrap n/\IntKind.u64.wrap n<(18446744073709551616:Int))/\(false=true ->
 (IntKind.u64.wrap n).toNat≠0)/\bW false (IntKind.u64.wrap n).toNat=n
theorem PK (n:Int):aw LN [] (VS n) Tryz.f71 (.k .z n) [.k (.int .i64) n]=JE n:=by kernel_rfl
theorem PL (n:Int) (hg:anu n):JE n:=by
 unfold JE;have h1 : -9223372036854775808<=n:=hg.1;have h2:n<=9223372036854775807:=hg.2;refine aoI (fun h=>?_) fun h=>?_
 ·have e:IntKind.u64.wrap ((0:Int)-IntKind.u64.wrap n) = -n:=by simp [IntKind.wrap,IntKind.signed,IntKind.bits];omega
  rw [e];refine ⟨⟨by omega,by omega⟩,fun _=>by omega,?_⟩;show -((Int.toNat (-n):Nat):Int)=n;omega
 ·have e:IntKind.u64.wrap n=n:=by simp [IntKind.wrap,IntKind.signed,IntKind.bits];omega
  rw [e];refine ⟨⟨by omega,by omega⟩,fun h=>by (cases h),?_⟩;show ((Int.toNat n:Nat):Int)=n;omega
theorem PM:aoQ (cfg []) VR:=cf xH bp Tryz.func71 (by kernel_rfl) fun args g r hn hc hg hf=>by
 replace hc:fzOfI args=some (g,r,hn):=hc;unfold fzOfI at hc;split at hc
 ·obtain ⟨rfl,rfl,rfl⟩:=aq0 hc;cases as3 (PK _) (PL _ hg);exact ⟨rfl,by kernel_rfl,_,by assumption⟩
 ·cases hc
noncomputable def VT:List Ctr:=sj::Nf::VD::Ju::Jv::vm::VE::Jw::FF::VF::[]
theorem vo:bd VT:=⟨nG,xG,Pv,zR,zS,qS,Pw,zT,FG,Px,trivial⟩
def JF:CF
 | [.k .z x]=>(fun (x:Int)=>some (some (Sm BN x.natAbs),.k .z (-x:Int),[])) x
 | _=>none
def JG:Ctr:=⟨106,false,JF⟩
def VU (x:Int):bk:=⟨nU,nL,nR,nU⟩
def JH (x:Int):Prop:=Sm BN x.natAbs/\bW (!decide (x<0)) x.natAbs = -x
theorem PN (x:Int):aw VT [] (VU x) Tryz.f106 (.k .z (-x:Int)) [.k .z x]=JH x:=by kernel_rfl
theorem PO (x:Int) (hg:Sm BN x.natAbs):JH x:=by
 unfold JH;refine ⟨hg,?_⟩;unfold bW;by_cases hx:x<0
 ·rw [kJ hx];show ((x.natAbs:Nat):Int) = -x;omega
 ·rw [iR hx];show -((x.natAbs:Nat):Int) = -x;omega
theorem zW:aoQ (cfg []) JG:=cf vo bp Tryz.func106 (by kernel_rfl) fun args g r hn hc hg hf=>by
 replace hc:JF args=some (g,r,hn):=hc;unfold JF at hc;split at hc
 ·obtain ⟨rfl,rfl,rfl⟩:=aq0 hc;cases as3 (PN _) (PO _ hg);exact ⟨rfl,by kernel_rfl,_,by assumption⟩
 ·cases hc
def JI:CF
 | [.k .z x,.k .z y]=>some (some (Sm BZ x.natAbs/\Sm BZ y.natAbs),.k .z (x+y:Int),[])
 | _=>none
def VV:Ctr:=⟨105,false,JI⟩
def VW (x y:Int):bk:=⟨fun key_=>match key_ with | 2=>7 | _=>0,nL,nR,nU⟩
def JJ (x y:Int):Prop:=bif decide (x<0) == decide (y<0) then (Sm BN x.natAbs/\Sm BN y.natAbs)/\Sm BN (x.natAbs+y.natAbs)/\bW (decide (x<0)) (x.natAbs +
 y.natAbs)=x+y else (Sm BN x.natAbs/\Sm BN y.natAbs)/\bif decide (y.natAbs<=x.natAbs) then Sm BN (x.natAbs-y.natAbs)/\bW (decide (x<0)) (x.natAbs -
 y.natAbs)=x+y else (Sm BN y.natAbs/\Sm BN x.natAbs)/\Sm BN (y.natAbs-x.natAbs)/\bW (decide (y<0)) (y.natAbs-x.natAbs)=x+y
theorem PR (x y:Int):aw VT [] (VW x y) Tryz.f105 (.k .z (x+y:Int)) [.k .z x,.k .z y]=JJ x y:=by kernel_rfl
theorem PS (x y:Int) (hg:Sm BZ x.natAbs/\Sm BZ y.natAbs):JJ x y:=by
 unfold JJ;obtain ⟨h1,h2⟩:=hg;have b1:Sm BN x.natAbs:=h1.le (by unfold BZ BN;omega);have b2:Sm BN y.natAbs:=h2.le (by unfold BZ BN;omega);refine nC (fun h=>⟨⟨b1,b2⟩,(h1.add h2).le (by unfold BZ BN;omega),?_⟩) fun h=>⟨⟨b1,b2⟩,aoI (fun h'=>⟨b1.sub _,?_⟩) fun h'=>⟨⟨b2,b1⟩,b2.sub _,?_⟩⟩
 all_goals unfold bW;by_cases hx:x<0 <;> by_cases hy:y<0 <;> simp [hx,hy] at h ⊢ <;> omega
theorem PT:aoQ (cfg []) VV:=cf vo bp Tryz.func105 (by kernel_rfl) fun args g r hn hc hg hf=>by
 replace hc:JI args=some (g,r,hn):=hc;unfold JI at hc;split at hc
 ·obtain ⟨rfl,rfl,rfl⟩:=aq0 hc;cases as3 (PR _ _) (PS _ _ hg);exact ⟨rfl,by kernel_rfl,_,by assumption⟩
 ·cases hc
def JK:CF
 | [.k .z x,.k .z y]=>some (some (Sm BZ x.natAbs/\Sm BZ y.natAbs),.k .z (x*y:Int),[])
 | _=>none
def JL:Ctr:=⟨75,false,JK⟩
def VX (x y:Int):bk:=⟨fun key_=>match key_ with | 1=>10 | _=>0,nL,nR,nU⟩
def JM (x y:Int):Prop:=(Sm BN x.natAbs/\Sm BN y.natAbs)/\Sm BN (x.natAbs*y.natAbs)/\bW (!decide (x<0) == decide (y<0)) (x.natAbs*y.natAbs)=x*y
theorem PU (x y:Int):aw VT [] (VX x y) Tryz.f75 (.k .z (x*y:Int)) [.k .z x,.k .z y]=JM x y:=by kernel_rfl
theorem PV (x y:Int) (hg:Sm BZ x.natAbs/\Sm BZ y.natAbs):JM x y:=by unfold JM;obtain ⟨h1,h2⟩:=hg;exact ⟨⟨h1.le (by unfold BZ BN;omega),h2.le (by unfold BZ BN;omega)⟩,(h1.mul h2).le (by unfold BZ BN;omega),vL rfl rfl⟩
theorem zX:aoQ (cfg []) JL:=cf vo bp Tryz.func75 (by kernel_rfl) fun args g r hn hc hg hf=>by
 replace hc:JK args=some (g,r,hn):=hc;unfold JK at hc;split at hc
 ·obtain ⟨rfl,rfl,rfl⟩:=aq0 hc;cases as3 (PU _ _) (PV _ _ hg);exact ⟨rfl,by kernel_rfl,_,by assumption⟩
 ·cases hc
theorem zY {p q g:Nat} (hp:Sm BN p) (hq:Sm BN q) (h0:q≠0) (hqp:q<p) (e:p.gcd q=g) :
 bif decide (p<(18446744073709551616:Nat)) then
 ∃(x0:Nat×Nat),
 (((if p<(18446744073709551616:Nat) then (p:Int) else (0:Int))=(x0.fst:Int) /\
 (if q<(18446744073709551616:Nat) then (q:Int) else (0:Int))=(x0.snd:Int))/\(0:Nat)=(0:Nat)) /\
 (x0.fst<(18446744073709551616:Nat)/\x0.snd<(18446744073709551616:Nat)/\x0.fst.gcd x0.snd=g) /\
 ∀(fg:Nat×Nat),
 fg.fst<(18446744073709551616:Nat)/\fg.snd<(18446744073709551616:Nat)/\fg.fst.gcd fg.snd=g ->
 bif decide ((0:Int)<(fg.snd:Int)) then
 (fg.snd:Int)≠(0:Int) /\
 ∃(x':Nat×Nat),
 (((fg.snd:Int)=(x'.fst:Int)/\(fg.fst:Int).tmod (fg.snd:Int)=(x'.snd:Int))/\(0:Nat)=(0:Nat)) /\
 (x'.fst<(18446744073709551616:Nat)/\x'.snd<(18446744073709551616:Nat)/\x'.fst.gcd x'.snd=g)/\x'.snd<fg.snd
 else ((0:Int)<=(fg.fst:Int)/\(fg.fst:Int)<(18446744073709551616:Int))/\(fg.fst:Int).toNat=g
 else (p≠(0:Nat)/\q≠(0:Nat)/\Sm BN p/\Sm BN q)/\p.gcd q=g:=by
 refine aoI (fun h=>⟨(p,q),⟨⟨eJ h,eJ (by omega)⟩,rfl⟩,⟨h,by show q<_;omega,e⟩,fun ⟨a,b⟩ ⟨h1,h2,h3⟩=>?_⟩) fun h=>⟨⟨by omega,h0,hp,hq⟩,e⟩
 dsimp only at h1 h2 h3 ⊢
 refine aoI (fun h4=>?_) fun h4=>⟨⟨by omega,by omega⟩,?_⟩
 ·have hb:0<b:=by omega
  have hm:a%b<b:=x5 _ hb
  refine ⟨by omega,(b,a%b),⟨⟨rfl,?_⟩,rfl⟩,⟨h2,by show a%b<_;omega,?_⟩,hm⟩
  ·show (a:Int).tmod (b:Int)=((a%b:Nat):Int)
   rw [Int.tmod_eq_emod_of_nonneg (by omega)];rfl
  ·rw [<-h3];show b.gcd (a%b)=a.gcd b
   rw [KU a b,NV b a,KU]
 ·have:b=0:=by omega
  subst this
  rw [NH] at h3
  rw [<-h3];rfl
def JN:CF
 | [.k .z x,.k .z y]=>some (some (Sm BN x.natAbs/\Sm BN y.natAbs),.k .nat (Nat.gcd x.natAbs y.natAbs),[])
 | _=>none
def VY:Ctr:=⟨76,false,JN⟩
def VZ (x y:Int):bk:=⟨fun key_=>match key_ with | 1=>7 | 7=>3 | 14=>4 | _=>0,fun key_=>match key_ with
 | 13=>some (⟨Nat×Nat,fun p=>[(4,.pt 4 0 2 0 0),(10,.k (.int .u64) ((p.1:Nat):Int)),(12,.k (.int .u64) ((p.2:Nat):Int))],
 fun _=>[(4,.box 47 (.k .nat (0:Nat)))],fun _ p=>p.1<18446744073709551616/\p.2<18446744073709551616/\Nat.gcd p.1 p.2=Nat.gcd x.natAbs y.natAbs,fun p=>p.2⟩) | _=>none,fun key_=>match key_ with
 | 1=>some (⟨Unit,fun _=>[(4,.pt 4 0 2 0 0),(5,.pt 5 0 2 0 0),(6,.pt 6 0 2 0 0)],fun _=>[(4,.box 47 (.k .nat (0:Nat))),(5,.box 47 (.k .nat x.natAbs)),(6,.box 47 (.k .nat y.natAbs))]⟩)
 | 7=>some (⟨Nat×Nat,fun _=>[(4,.pt 4 0 2 0 0),(5,.pt 5 0 2 0 0),(6,.pt 6 0 2 0 0)],fun p=>[(4,.box 47 (.k .nat (0:Nat))),(5,.box 47 (.k .nat p.1)),(6,.box 47 (.k .nat p.2))]⟩) | _=>none,nU⟩
def amP (x y:Int):Prop:=(0:Nat)=(0:Nat)/\x.natAbs=x.natAbs/\y.natAbs=y.natAbs
def JO (x y:Int):Prop:=∃(y1:Unit),(((((amP x y/\amP x y)/\(amP x y/\amP x y/\amP x y)/\amP x y/\amP x y/\amP x y)/\((amP x y/\amP x y/\amP x y)/\(amP x y
 /\ amP x y)/\amP x y)/\(amP x y/\amP x y/\amP x y)/\(amP x y/\amP x y)/\amP x y)/\(((amP x y/\amP x y)/\(amP x y/\amP x y/\amP x y) /\
 amP x y/\amP x y/\amP x y)/\((amP x y/\amP x y)/\(amP x y/\amP x y)/\amP x y/\amP x y)/\((amP x y/\amP x y/\amP x y)/\(amP x y /\
 amP x y)/\(amP x y/\amP x y)/\amP x y)/\(amP x y/\amP x y/\amP x y)/\(amP x y/\amP x y)/\(amP x y/\amP x y)/\amP x y)/\(((amP x y /\
 amP x y/\amP x y)/\(amP x y/\amP x y)/\amP x y)/\((amP x y/\amP x y/\amP x y)/\(amP x y/\amP x y)/\(amP x y/\amP x y)/\amP x y) /\
 ((amP x y/\amP x y)/\amP x y)/\(amP x y/\amP x y)/\amP x y)/\((amP x y/\amP x y/\amP x y)/\(amP x y/\amP x y)/\amP x y)/\((amP x y /\
 amP x y/\amP x y)/\(amP x y/\amP x y)/\(amP x y/\amP x y)/\amP x y)/\((amP x y/\amP x y)/\amP x y)/\(amP x y/\amP x y)/\amP x y) /\
 ((((amP x y/\amP x y)/\(amP x y/\amP x y/\amP x y)/\amP x y/\amP x y/\amP x y)/\((amP x y/\amP x y)/\(amP x y/\amP x y)/\amP x y /\
 amP x y)/\((amP x y/\amP x y/\amP x y)/\(amP x y/\amP x y)/\(amP x y/\amP x y)/\amP x y)/\(amP x y/\amP x y/\amP x y)/\(amP x y /\
 amP x y)/\(amP x y/\amP x y)/\amP x y)/\(((amP x y/\amP x y)/\(amP x y/\amP x y)/\amP x y/\amP x y)/\((amP x y/\amP x y)/\amP x y) /\
 (amP x y/\amP x y)/\amP x y)/\(((amP x y/\amP x y/\amP x y)/\(amP x y/\amP x y)/\(amP x y/\amP x y)/\amP x y)/\((amP x y/\amP x y) /\
 amP x y)/\((amP x y/\amP x y)/\amP x y)/\amP x y)/\((amP x y/\amP x y/\amP x y)/\(amP x y/\amP x y)/\(amP x y/\amP x y)/\amP x y) /\
 ((amP x y/\amP x y)/\amP x y)/\((amP x y/\amP x y)/\amP x y)/\amP x y)/\((((amP x y/\amP x y/\amP x y)/\(amP x y/\amP x y)/\amP x y)
 /\ ((amP x y/\amP x y/\amP x y)/\(amP x y/\amP x y)/\(amP x y/\amP x y)/\amP x y)/\((amP x y/\amP x y)/\amP x y)/\(amP x y/\amP x y)
 /\ amP x y)/\(((amP x y/\amP x y/\amP x y)/\(amP x y/\amP x y)/\(amP x y/\amP x y)/\amP x y)/\((amP x y/\amP x y)/\amP x y)/\((amP x
 y/\amP x y)/\amP x y)/\amP x y)/\(((amP x y/\amP x y)/\amP x y)/\(amP x y/\amP x y)/\amP x y)/\((amP x y/\amP x y)/\amP x y)/\amP x
 y)/\(((amP x y/\amP x y/\amP x y)/\(amP x y/\amP x y)/\amP x y)/\((amP x y/\amP x y/\amP x y)/\(amP x y/\amP x y)/\(amP x y/\amP x
 y)/\amP x y)/\((amP x y/\amP x y)/\amP x y)/\(amP x y/\amP x y)/\amP x y)/\(((amP x y/\amP x y/\amP x y)/\(amP x y/\amP x y)/\(amP
 x y/\amP x y)/\amP x y)/\((amP x y/\amP x y)/\amP x y)/\((amP x y/\amP x y)/\amP x y)/\amP x y)/\(((amP x y/\amP x y)/\amP x y) /\
 (amP x y/\amP x y)/\amP x y)/\((amP x y/\amP x y)/\amP x y)/\amP x y)/\(Sm BN x.natAbs/\Sm BN y.natAbs)/\bif decide (bG x.natAbs y.natAbs<(0 :
 Int)) then Sm BN x.natAbs/\bif decide ((↑(bl x.natAbs):Int)=0) then y.natAbs=x.natAbs.gcd y.natAbs else (Sm BN y.natAbs/\Sm BN x.natAbs)/\∃(y2:Nat ×
 Nat),((((0:Nat)=(0:Nat)/\x.natAbs=y2.1/\(if x.natAbs=(0:Nat) then (0:Nat) else y.natAbs%x.natAbs)=y2.2)/\(0:Nat)=(0:Nat)/\x.natAbs=y2.1 /\
 (if x.natAbs=(0:Nat) then (0:Nat) else y.natAbs%x.natAbs)=y2.2)/\(0:Nat)=(0:Nat)/\x.natAbs=y2.1/\(if x.natAbs=(0:Nat) then (0:Nat) else
 y.natAbs%x.natAbs)=y2.2)/\Sm BN y2.2/\bif decide ((↑(bl y2.2):Int)=0) then y2.1=x.natAbs.gcd y.natAbs else bif decide (y2.1<(18446744073709551616 :
 Nat)) then ∃(x0:Nat×Nat),(((if y2.1<(18446744073709551616:Nat) then (↑y2.1:Int) else (0:Int))=(↑x0.1:Int)/\(if y2.2<(18446744073709551616:Nat) then
 (↑y2.2:Int) else (0:Int))=(↑x0.2:Int))/\(0:Nat)=0)/\(x0.1<(18446744073709551616:Nat)/\x0.2<(18446744073709551616:Nat)/\x0.1.gcd x0.2 =
 x.natAbs.gcd y.natAbs)/\∀(y3:Nat×Nat),y3.1<(18446744073709551616:Nat)/\y3.2<(18446744073709551616:Nat)/\y3.1.gcd y3.2=x.natAbs.gcd y.natAbs->bif
 decide ((0:Int)<(↑y3.2:Int)) then (↑y3.2:Int)≠(0:Int)/\∃(x':Nat×Nat),(((↑y3.2:Int)=↑x'.1/\(↑y3.1:Int).tmod (↑y3.2:Int)=(↑x'.2 :
 Int))/\(0:Nat)=0)/\(x'.1<(18446744073709551616:Nat)/\x'.2<(18446744073709551616:Nat)/\x'.1.gcd x'.2=x.natAbs.gcd y.natAbs)/\x'.2<y3.2 else
 (0<=(↑y3.1:Int)/\(↑y3.1:Int)<(18446744073709551616:Int))/\(↑y3.1:Int).toNat=x.natAbs.gcd y.natAbs else (y2.1≠(0:Nat)/\y2.2≠(0:Nat)/\Sm BN
 y2.1/\Sm BN y2.2)/\y2.1.gcd y2.2=x.natAbs.gcd y.natAbs else Sm BN y.natAbs/\bif decide ((↑(bl y.natAbs):Int)=0) then x.natAbs=x.natAbs.gcd y.natAbs
 else (Sm BN x.natAbs/\Sm BN y.natAbs)/\∃(y2:Nat×Nat),((((0:Nat)=(0:Nat)/\y.natAbs=y2.1/\(if y.natAbs=(0:Nat) then (0:Nat) else x.natAbs %
 y.natAbs)=y2.2)/\(0:Nat)=(0:Nat)/\y.natAbs=y2.1/\(if y.natAbs=(0:Nat) then (0:Nat) else x.natAbs%y.natAbs)=y2.2)/\(0:Nat)=(0:Nat)/\y.natAbs
 = y2.1/\(if y.natAbs=(0:Nat) then (0:Nat) else x.natAbs%y.natAbs)=y2.2)/\Sm BN y2.2/\bif decide ((↑(bl y2.2):Int)=0) then y2.1=x.natAbs.gcd
 y.natAbs else bif decide (y2.1<(18446744073709551616:Nat)) then ∃(x0:Nat×Nat),(((if y2.1<(18446744073709551616:Nat) then (↑y2.1:Int) else (0:Int)) =
 (↑x0.1:Int)/\(if y2.2<(18446744073709551616:Nat) then (↑y2.2:Int) else (0:Int))=(↑x0.2:Int))/\(0:Nat)=0)/\(x0.1<(18446744073709551616 :
 Nat)/\x0.2<(18446744073709551616:Nat)/\x0.1.gcd x0.2=x.natAbs.gcd y.natAbs)/\∀(y3:Nat×Nat),y3.1<(18446744073709551616:Nat)/\y3.2 <
 (18446744073709551616:Nat)/\y3.1.gcd y3.2=x.natAbs.gcd y.natAbs->bif decide ((0:Int)<(↑y3.2:Int)) then (↑y3.2:Int)≠(0:Int)/\∃(x':Nat×Nat),
 (((↑y3.2:Int)=↑x'.1/\(↑y3.1:Int).tmod (↑y3.2:Int)=↑x'.2)/\(0:Nat)=0)/\(x'.1<(18446744073709551616:Nat)/\x'.2 <
 (18446744073709551616:Nat)/\x'.1.gcd x'.2=x.natAbs.gcd y.natAbs)/\x'.2<y3.2 else (0<=(↑y3.1:Int)/\(↑y3.1:Int)<(18446744073709551616:Int)) /\
 (↑y3.1:Int).toNat=x.natAbs.gcd y.natAbs else (y2.1≠(0:Nat)/\y2.2≠(0:Nat)/\Sm BN y2.1/\Sm BN y2.2)/\y2.1.gcd y2.2=x.natAbs.gcd y.natAbs
theorem PW (x y:Int):aw VT [] (VZ x y) Tryz.f76 (.k .nat (Nat.gcd x.natAbs y.natAbs)) [.k .z x,.k .z y]=JO x y:=by kernel_rfl
theorem PX (x y:Int) (hg:Sm BN x.natAbs/\Sm BN y.natAbs):JO x y:=by
 unfold JO;obtain ⟨h1,h2⟩:=hg;have ZJ:∀{n:Nat},((bl n:Nat):Int)=0->n=0:=fun {n} h=>by
  rcases jW n with e | e
  ·exact e
  ·have:=(fl n).2 e;omega
 have PY:∀{n:Nat},¬((bl n:Nat):Int)=0->n≠0:=fun {n} h e=>h (by rw [e,gf];rfl);refine ⟨(),by simp [amP],⟨h1,h2⟩,aoI (fun hc=>⟨h1,aoI (fun h=>?_) fun h=>⟨⟨h2,h1⟩,(x.natAbs,y.natAbs%x.natAbs),?_,(h2.mod _),aoI (fun h3=>?_) fun h3=>zY h1 (h2.mod _) (PY h3) (x5 _ (Ar (PY h))) ?_⟩⟩) fun hc=>⟨h2,aoI (fun h=>?_) fun h=>⟨⟨h1,h2⟩,(y.natAbs,x.natAbs%y.natAbs),?_,(h1.mod _),aoI (fun h3=>?_) fun h3=>zY h2 (h1.mod _) (PY h3) (x5 _ (Ar (PY h))) ?_⟩⟩⟩
 ·rw [ZJ h,Nat.gcd_zero_left]
 ·rw [c6 (PY h)];simp
 ·exact (Nat.gcd_eq_left (Nat.dvd_of_mod_eq_zero (ZJ h3))).symm
 ·rw [NV x.natAbs y.natAbs,KU]
 ·rw [ZJ h,NH]
 ·rw [c6 (PY h)];simp
 ·exact (Nat.gcd_eq_right (Nat.dvd_of_mod_eq_zero (ZJ h3))).symm
 ·rw [KU x.natAbs y.natAbs,NV y.natAbs x.natAbs,KU]
theorem PZ:aoQ (cfg []) VY:=cf vo bp Tryz.func76 (by kernel_rfl) fun args g r hn hc hg hf=>by
 replace hc:JN args=some (g,r,hn):=hc;unfold JN at hc;split at hc
 ·obtain ⟨rfl,rfl,rfl⟩:=aq0 hc;cases as3 (PW _ _) (PX _ _ hg);exact ⟨rfl,by kernel_rfl,_,by assumption⟩
 ·cases hc
def BQ:Nat:=20000000000
theorem B1 {n:Nat}:((bl n:Nat):Int)=1↔n=1:=by
 constructor
 ·intro h;have h1:bl n<=1:=by omega
  have h2:=(fZ n 1).1 h1;have h3:(0:Int)<((bl n:Nat):Int):=by omega
  have h4:=(fl n).1 h3;omega
 ·intro h;subst h;have h1:=(fl 1).2 (by omega);have h2:bl 1<=1:=(fZ 1 1).2 (by omega);omega
theorem ZK {n:Nat}:((bl n:Nat):Int)=0↔n=0:=by
 constructor
 ·intro h;rcases jW n with e | e
  ·exact e
  ·have:=(fl n).2 e;omega
 ·intro h;rw [h,gf];rfl
theorem FH {x:Rat}:d1 x.den=0↔x.den=1:=by unfold d1;have:=x.den_pos;split <;> omega
theorem afz {k d:Nat} (h:Sm k d):Sm k (d1 d):=by
 unfold d1;split
 ·exact Sm.zero k
 ·exact h
theorem afA {k a b:Nat} (ha:Sm k a) (h0:a≠0):Sm k (Nat.gcd a b):=ha.mono (Mf (by omega) (GB _ _))
theorem zZ {k a b:Nat} (hb:Sm k b) (h0:b≠0):Sm k (Nat.gcd a b):=hb.mono (Mf (by omega) (KQ _ _))
theorem fN (n:Int):j6 n 0=(n:Rat):=by unfold j6;rw [eJ rfl,Mj]
theorem adb {n:Int} {d:Nat} (h:d≠0):j6 n d=mkRat n d:=by unfold j6;rw [c6 h]
theorem ZL (x:Rat):j6 x.num (d1 x.den)=x:=by
 unfold j6 d1;have h:=Gj x;have:=x.den_pos;by_cases e:x.den=1
 ·rw [eJ e,eJ rfl];rw [e] at h;exact h
 ·rw [c6 e,c6 (by omega)];exact h
theorem Ng (n:Int) {m:Int} (h:m<0):mkRat (-n) m.natAbs=(n:Rat)/(m:Rat):=by rw [<-NS, <- Rat.neg_divInt_neg,show -m=((m.natAbs:Nat):Int) from by omega,N4]
theorem mk_pos (n:Int) {m:Int} (h:¬m<0):mkRat n m.natAbs=(n:Rat)/(m:Rat):=by rw [<-NS, <- N4,show ((m.natAbs:Nat):Int)=m from by omega]
theorem ZM {y:Rat} (h0:y≠0):mkRat (bW (decide (y.num.sign<0)) y.den) y.num.natAbs=y⁻¹/\(bW (decide (y.num.sign<0)) y.den).natAbs.Coprime y.num.natAbs:=by
 have hn:y.num≠0:=fun e=>h0 (G3.1 e);have e1:bW (decide (y.num.sign<0)) y.den=(y⁻¹).num:=by
  rw [Rat.num_inv];rcases Int.lt_or_gt_of_ne hn with h | h
  ·rw [ym h,show decide ((-1:Int)<0)=true from rfl];show -((y.den:Nat):Int)=_;omega
  ·rw [yo h,show decide ((1:Int)<0)=false from rfl];show ((y.den:Nat):Int)=_;omega
 have e2:(y⁻¹).den=y.num.natAbs:=by rw [Rat.den_inv,c6 hn]
 rw [e1, <- e2];exact ⟨Gj _,(y⁻¹).reduced⟩
theorem P0 {x y:Rat} (hx:Sq BQ x) (hy:Sq BQ y) {g a b h:Nat} {u:Int} (hg:g=x.den.gcd y.den) (ha:a=x.den/g) (hb:b=y.den/g) (hu:u=x.num*b+y.num*a) (hh:h=u.natAbs.gcd g) :
  Sq BQ x/\Sm BN x.den/\Sq BQ y/\Sm BN y.den/\(Sm BN x.den/\Sm BN y.den)/\Sq BQ x/\(Sm BN x.den/\Sm BN g/\g≠0)/\Sq BQ y/\(Sm BN y.den/\Sm BN g/\g≠0)/\(Sm BZ x.num.natAbs/\Sm BZ b)/\(Sm BZ y.num.natAbs/\Sm BZ a)/\(Sm BZ (x.num*(b:Int)).natAbs/\Sm BZ (y.num*(a:Int)).natAbs)/\Sm BN g/\(Sm BN u.natAbs/\Sm BN g)/\(Sm BZ u.natAbs/\Sm BZ h/\h≠0/\h∣u.natAbs)/\Sq BQ y/\(Sm BN y.den/\Sm BN h/\h≠0)/\(Sm BN a/\Sm BN (y.den/h))/\(Sm BN (a*(y.den/h))/\a*(y.den/h)≠0/\(u/(h:Int)).natAbs.Coprime (a*(y.den/h)))/\mkRat (u/(h:Int)) (a*(y.den/h))=x+y:=by
 obtain ⟨k1,k2⟩:=add_eq x y hg ha hb hu hh
 have gp:g≠0:=by rw [hg];exact KT (Lt _ x.den_pos)
 have hp:h≠0:=by rw [hh];exact KT (Gl _ (Ar gp))
 have sg:Sm BQ g:=by rw [hg];exact afA hx.den x.den_nz
 have sh:Sm BQ h:=by rw [hh];exact zZ sg gp
 have sa:Sm BQ a:=by rw [ha];exact hx.den.div _
 have sb:Sm BQ b:=by rw [hb];exact hy.den.div _
 have p1:Sm (BQ+BQ) (x.num*(b:Int)).natAbs:=by rw [Ga];exact hx.num.mul sb
 have p2:Sm (BQ+BQ) (y.num*(a:Int)).natAbs:=by rw [Ga];exact hy.num.mul sa
 have su:Sm (BQ+BQ+1) u.natAbs:=by rw [hu];exact (p1.S7 p2).le (by omega)
 have l1:BQ<=BN:=by unfold BQ BN;omega
 have l2:BQ<=BZ:=by unfold BQ BZ;omega
 have l3:BQ+BQ+1<=BZ:=by unfold BQ BZ;omega
 have l4:BQ+BQ+1<=BN:=by unfold BQ BN;omega
 rw [k1,k2]
 exact ⟨hx,hx.den.le l1,hy,hy.den.le l1,⟨hx.den.le l1,hy.den.le l1⟩,hx,⟨hx.den.le l1,sg.le l1,gp⟩,hy,⟨hy.den.le l1,sg.le l1,gp⟩,⟨hx.num.le l2,sb.le l2⟩,⟨hy.num.le l2,sa.le l2⟩,⟨p1.le (by omega),p2.le (by omega)⟩,sg.le l1,⟨su.le l4,sg.le l1⟩,⟨su.le l3,sh.le l2,hp,by rw [hh];exact GB _ _⟩,hy,⟨hy.den.le l1,sh.le l1,hp⟩,⟨sa.le l1,(hy.den.div _).le l1⟩,⟨(hx.add hy).den.le l4,(x+y).den_nz,(x+y).reduced⟩,Gj _⟩
theorem P2 {x y:Rat} (hx:Sq BQ x) (hy:Sq BQ y) {g h:Nat} (hg:g=x.num.natAbs.gcd y.den) (hh:h=y.num.natAbs.gcd x.den) :
  Sq BQ y/\Sm BN y.den/\(Sm BN x.num.natAbs/\Sm BN y.den)/\Sq BQ x/\Sm BN x.den/\(Sm BN y.num.natAbs/\Sm BN x.den)/\(Sm BZ x.num.natAbs/\Sm BZ g/\g≠0/\g∣x.num.natAbs)/\(Sm BZ y.num.natAbs/\Sm BZ h/\h≠0/\h∣y.num.natAbs)/\(Sm BZ (x.num/(g:Int)).natAbs/\Sm BZ (y.num/(h:Int)).natAbs)/\Sq BQ x/\(Sm BN x.den/\Sm BN h/\h≠0)/\Sq BQ y/\(Sm BN y.den/\Sm BN g/\g≠0)/\(Sm BN (x.den/h)/\Sm BN (y.den/g))/\(Sm BN (x.den/h*(y.den/g))/\x.den/h*(y.den/g)≠0/\(x.num/(g:Int)*(y.num/(h:Int))).natAbs.Coprime (x.den/h*(y.den/g)))/\mkRat (x.num/(g:Int)*(y.num/(h:Int))) (x.den/h*(y.den/g))=x*y:=by
 obtain ⟨k1,k2⟩:=mul_eq x y hg hh
 have gp:g≠0:=by rw [hg];exact KT (Gl _ y.den_pos)
 have hp:h≠0:=by rw [hh];exact KT (Gl _ x.den_pos)
 have sg:Sm BQ g:=by rw [hg];exact zZ hy.den y.den_nz
 have sh:Sm BQ h:=by rw [hh];exact zZ hx.den x.den_nz
 have dg:g∣x.num.natAbs:=by rw [hg];exact GB _ _
 have dh:h∣y.num.natAbs:=by rw [hh];exact GB _ _
 have l1:BQ<=BN:=by unfold BQ BN;omega
 have l2:BQ<=BZ:=by unfold BQ BZ;omega
 have l4:BQ+BQ<=BN:=by unfold BQ BN;omega
 rw [k1,k2]
 exact ⟨hy,hy.den.le l1,⟨hx.num.le l1,hy.den.le l1⟩,hx,hx.den.le l1,⟨hy.num.le l1,hx.den.le l1⟩,⟨hx.num.le l2,sg.le l2,gp,dg⟩,⟨hy.num.le l2,sh.le l2,hp,dh⟩,⟨(hx.num.S9 (Ar gp) dg).le l2,(hy.num.S9 (Ar hp) dh).le l2⟩,hx,⟨hx.den.le l1,sh.le l1,hp⟩,hy,⟨hy.den.le l1,sg.le l1,gp⟩,⟨(hx.den.div _).le l1,(hy.den.div _).le l1⟩,⟨(hx.mul hy).den.le l4,(x*y).den_nz,(x*y).reduced⟩,Gj _⟩
noncomputable def B2:List Ctr:=vm::Jw::sj::vn::VR::JG::JL::[]
theorem lL:bd B2:=⟨qS,zT,nG,qT,PM,zW,zX,trivial⟩
def fqWhole:CF
 | [.k .q x]=>some (some (Sq BQ x),.k .bool (decide (x.den=1)),[])
 | _=>none
def FI:Ctr:=⟨74,false,fqWhole⟩
def JP (x:Rat):bk:=⟨nU,nL,nR,nU⟩
def xI (x:Rat):Prop:=Sm BN (d1 x.den)/\decide ((↑(bl (d1 x.den)):Int)=0)=decide (x.den=(1:Nat))
theorem FJ (x:Rat):aw B2 [] (JP x) Tryz.f74 (.k .bool (decide (x.den=1))) [.k .q x]=xI x:=by kernel_rfl
theorem FK (x:Rat) (hg:Sq BQ x):xI x:=by unfold xI;exact ⟨(afz hg.den).le (by unfold BQ BN;omega),Hs.2 (ZK.trans FH)⟩
theorem FL:aoQ (cfg []) FI:=jl lL bp Tryz.func74 (by kernel_rfl) (by kernel_rfl) rfl (by kernel_rfl) fun args g r hn hc hg hf=>by
 replace hc:fqWhole args=some (g,r,hn):=hc;unfold fqWhole at hc;split at hc
 ·obtain ⟨rfl,rfl,rfl⟩:=aq0 hc;exact ⟨rfl,by kernel_rfl,_,(FJ ..).mpr (FK _ hg)⟩
 ·cases hc
def fqOver:CF
 | [.k .nat a,.k .nat b]=>some (some (Sm BN a/\Sm BN b/\b≠0),.k .nat (a/b:Nat),[])
 | _=>none
def Nh:Ctr:=⟨81,false,fqOver⟩
def P3 (a b:Nat):bk:=⟨nU,nL,nR,nU⟩
def B3 (a b:Nat):Prop:=Sm BN b/\bif decide ((↑(bl b):Int)=(1:Int)) then a=a/b else (Sm BN a/\Sm BN b)/\a/b=a/b
theorem JQ (a b:Nat):aw B2 [] (P3 a b) Tryz.f81 (.k .nat (a/b:Nat)) [.k .nat a,.k .nat b]=B3 a b:=by kernel_rfl
theorem JR (a b:Nat) (hg:Sm BN a/\Sm BN b/\b≠0):B3 a b:=by unfold B3;obtain ⟨h1,h2,h3⟩:=hg;exact ⟨h2,aoI (fun h=>by rw [B1.1 h,Nat.div_one]) fun _=>⟨⟨h1,h2⟩,rfl⟩⟩
theorem JS:aoQ (cfg []) Nh:=jl lL bp Tryz.func81 (by kernel_rfl) (by kernel_rfl) rfl (by kernel_rfl) fun args g r hn hc hg hf=>by
 replace hc:fqOver args=some (g,r,hn):=hc;unfold fqOver at hc;split at hc
 ·obtain ⟨rfl,rfl,rfl⟩:=aq0 hc;exact ⟨rfl,by kernel_rfl,_,(JQ ..).mpr (JR _ _ hg)⟩
 ·cases hc
def fqTimes:CF
 | [.k .z n,.k .nat d]=>some (some (Sm BZ n.natAbs/\Sm BZ d),.k .z (n*(d:Int):Int),[])
 | _=>none
def FM:Ctr:=⟨103,false,fqTimes⟩
def JT (n:Int) (d:Nat):bk:=⟨fun key_=>match key_ with | 1=>3 | _=>0,nL,nR,nU⟩
def xJ (n:Int) (d:Nat):Prop:=Sm BN d/\(Sm BZ n.natAbs/\Sm BZ (bW false d).natAbs)/\n*bW false d=n*(↑d:Int)
theorem FN (n:Int) (d:Nat):aw B2 [] (JT n d) Tryz.f103 (.k .z (n*(d:Int):Int)) [.k .z n,.k .nat d]=xJ n d:=by kernel_rfl
theorem FO (n:Int) (d:Nat) (hg:Sm BZ n.natAbs/\Sm BZ d):xJ n d:=by unfold xJ;exact ⟨hg.2.le (by unfold BZ BN;omega),hg,rfl⟩
theorem FP:aoQ (cfg []) FM:=jl lL bp Tryz.func103 (by kernel_rfl) (by kernel_rfl) rfl (by kernel_rfl) fun args g r hn hc hg hf=>by
 replace hc:fqTimes args=some (g,r,hn):=hc;unfold fqTimes at hc;split at hc
 ·obtain ⟨rfl,rfl,rfl⟩:=aq0 hc;exact ⟨rfl,by kernel_rfl,_,(FN ..).mpr (FO _ _ hg)⟩
 ·cases hc
def B4:CF
 | [.k .z n,.k .nat d]=>some (some (Sm BN d/\d≠0/\n.natAbs.Coprime d),.k .q (mkRat n d),[])
 | _=>none
def Ni:Ctr:=⟨79,false,B4⟩
def aB2 (n:Int) (d:Nat):bk:=⟨nU,nL,nR,nU⟩
def B5 (n:Int) (d:Nat):Prop:=Sm BN d/\bif decide ((↑(bl d):Int)=(1:Int)) then ((0:Nat)=(0:Nat)\/(0:Nat)≠(1:Nat)/\n.natAbs.Coprime (0:Nat))/\j6 n (0:Nat)=mkRat n d else (d
 = (0:Nat)\/d≠(1:Nat)/\n.natAbs.Coprime d)/\j6 n d=mkRat n d
theorem JU (n:Int) (d:Nat):aw B2 [] (aB2 n d) Tryz.f79 (.k .q (mkRat n d)) [.k .z n,.k .nat d]=B5 n d:=by kernel_rfl
theorem JV (n:Int) (d:Nat) (hg:Sm BN d/\d≠0/\n.natAbs.Coprime d):B5 n d:=by unfold B5;obtain ⟨h1,h2,h3⟩:=hg;exact ⟨h1,aoI (fun h=>⟨.inl rfl,by rw [fN,B1.1 h,Mj]⟩) fun h=>⟨.inr ⟨fun e=>h (B1.2 e),h3⟩,adb h2⟩⟩
theorem JW:aoQ (cfg []) Ni:=jl lL bp Tryz.func79 (by kernel_rfl) (by kernel_rfl) rfl (by kernel_rfl) fun args g r hn hc hg hf=>by
 replace hc:B4 args=some (g,r,hn):=hc;unfold B4 at hc;split at hc
 ·obtain ⟨rfl,rfl,rfl⟩:=aq0 hc;exact ⟨rfl,by kernel_rfl,_,(JU ..).mpr (JV _ _ hg)⟩
 ·cases hc
def fqOf:CF
 | [.k (.int .i64) n]=>some (some (anu n),.k .q ((n:Int):Rat),[])
 | _=>none
def aa5:Ctr:=⟨39,false,fqOf⟩
def ZN (n:Int):bk:=⟨nU,nL,nR,nU⟩
def V0 (n:Int):Prop:=((-9223372036854775808:Int)<=n/\n<=(9223372036854775807:Int))/\((0:Nat)=(0:Nat)\/(0:Nat)≠(1:Nat)/\n.natAbs.Coprime (0:Nat))/\j6 n (0:Nat) =
 (↑n:Rat)
theorem V2 (n:Int):aw B2 [] (ZN n) Tryz.f39 (.k .q ((n:Int):Rat)) [.k (.int .i64) n]=V0 n:=by kernel_rfl
theorem V4 (n:Int) (hg:anu n):V0 n:=by unfold V0;exact ⟨hg,.inl rfl,fN n⟩
theorem V5:aoQ (cfg []) aa5:=jl lL bp Tryz.func39 (by kernel_rfl) (by kernel_rfl) rfl (by kernel_rfl) fun args g r hn hc hg hf=>by
 replace hc:fqOf args=some (g,r,hn):=hc;unfold fqOf at hc;split at hc
 ·obtain ⟨rfl,rfl,rfl⟩:=aq0 hc;exact ⟨rfl,by kernel_rfl,_,(V2 ..).mpr (V4 _ hg)⟩
 ·cases hc
def JX:CF
 | [.k .q x]=>some (none,.k .z x.num,[])
 | _=>none
def V6:Ctr:=⟨96,false,JX⟩
def V7 (x:Rat):bk:=⟨nU,nL,nR,nU⟩
def V8 (x:Rat):Prop:=x.num=x.num
theorem P5 (x:Rat):aw B2 [] (V7 x) Tryz.f96 (.k .z x.num) [.k .q x]=V8 x:=by kernel_rfl
theorem P6 (x:Rat) (hf:cJ [.k .q x]):V8 x:=by rfl
theorem P7:aoQ (cfg []) V6:=jl lL bp Tryz.func96 (by kernel_rfl) (by kernel_rfl) rfl (by kernel_rfl) fun args g r hn hc hg hf=>by
 replace hc:JX args=some (g,r,hn):=hc;unfold JX at hc;split at hc
 ·obtain ⟨rfl,rfl,rfl⟩:=aq0 hc;exact ⟨rfl,by kernel_rfl,_,(P5 ..).mpr (P6 _ hf)⟩
 ·cases hc
def B6:CF
 | [.k .q x]=>some (some (Sq BQ x),.k (.int .i64) (x.num.sign:Int),[])
 | _=>none
def Nj:Ctr:=⟨20,false,B6⟩
def P8 (x:Rat):bk:=⟨nU,nL,nR,nU⟩
def Nk (x:Rat):Prop:=Sm BN x.num.natAbs/\x.num.sign=x.num.sign
theorem JY (x:Rat):aw B2 [] (P8 x) Tryz.f20 (.k (.int .i64) (x.num.sign:Int)) [.k .q x]=Nk x:=by kernel_rfl
theorem JZ (x:Rat) (hg:Sq BQ x):Nk x:=by exact ⟨hg.num.le (by unfold BQ BN;omega),rfl⟩
theorem J0:aoQ (cfg []) Nj:=jl lL bp Tryz.func20 (by kernel_rfl) (by kernel_rfl) rfl (by kernel_rfl) fun args g r hn hc hg hf=>by
 replace hc:B6 args=some (g,r,hn):=hc;unfold B6 at hc;split at hc
 ·obtain ⟨rfl,rfl,rfl⟩:=aq0 hc;exact ⟨rfl,by kernel_rfl,_,(JY ..).mpr (JZ _ hg)⟩
 ·cases hc
def J1:CF
 | [.k .q x]=>some (some (Sq BQ x),.k .q (-x:Rat),[])
 | _=>none
def V9:Ctr:=⟨73,false,J1⟩
def Wa (x:Rat):bk:=⟨fun key_=>match key_ with | 1=>5 | _=>0,nL,nR,nU⟩
def J2 (x:Rat):Prop:=Sm BN x.num.natAbs/\(d1 x.den=(0:Nat)\/d1 x.den≠(1:Nat)/\(-x.num).natAbs.Coprime (d1 x.den))/\j6 (-x.num) (d1 x.den) = -x
theorem P9 (x:Rat):aw B2 [] (Wa x) Tryz.f73 (.k .q (-x:Rat)) [.k .q x]=J2 x:=by kernel_rfl
theorem Qb (x:Rat) (hg:Sq BQ x):J2 x:=by
 unfold J2;refine ⟨hg.num.le (by unfold BQ BN;omega),?_,?_⟩
 ·by_cases e:x.den=1
  ·exact .inl (FH.2 e)
  ·refine .inr ?_;unfold d1;rw [c6 e,Int.natAbs_neg];exact ⟨e,x.reduced⟩
 ·exact ZL (-x)
theorem Qc:aoQ (cfg []) V9:=jl lL bp Tryz.func73 (by kernel_rfl) (by kernel_rfl) rfl (by kernel_rfl) fun args g r hn hc hg hf=>by
 replace hc:J1 args=some (g,r,hn):=hc;unfold J1 at hc;split at hc
 ·obtain ⟨rfl,rfl,rfl⟩:=aq0 hc;exact ⟨rfl,by kernel_rfl,_,(P9 ..).mpr (Qb _ hg)⟩
 ·cases hc
noncomputable def ZO:List Ctr:=FI::Nh::FM::Ni::Nj::V9::Nf::Ju::sj::JA::vn::VP::JG::VV::JL::VY::[]
theorem B7:bd ZO:=⟨FL,JS,FP,JW,J0,Qc,xG,zR,nG,zV,qT,PJ,zW,PT,zX,PZ,trivial⟩
def J3:CF
 | [.k .q x]=>some (some (Sq BQ x),.k .nat x.den,[])
 | _=>none
def J4:Ctr:=⟨78,false,J3⟩
def Wb (x:Rat):bk:=⟨nU,nL,nR,nU⟩
def J5 (x:Rat):Prop:=Sq BQ x/\bif decide (x.den=(1:Nat)) then ((0:Int)<=(1:Int)/\(1:Int)<(18446744073709551616:Int))/\Int.toNat (1:Int)=x.den else d1 x.den=x.den
theorem Qd (x:Rat):aw ZO [] (Wb x) Tryz.f78 (.k .nat x.den) [.k .q x]=J5 x:=by kernel_rfl
theorem Qe (x:Rat) (hg:Sq BQ x):J5 x:=by unfold J5;refine ⟨hg,aoI (fun h=>⟨by omega,h.symm⟩) fun h=>?_⟩;unfold d1;exact c6 h
theorem z6:aoQ (cfg []) J4:=jl B7 bp Tryz.func78 (by kernel_rfl) (by kernel_rfl) rfl (by kernel_rfl) fun args g r hn hc hg hf=>by
 replace hc:J3 args=some (g,r,hn):=hc;unfold J3 at hc;split at hc
 ·obtain ⟨rfl,rfl,rfl⟩:=aq0 hc;exact ⟨rfl,by kernel_rfl,_,(Qd ..).mpr (Qe _ hg)⟩
 ·cases hc
def B8:CF
 | [.k .z n,.k .nat b]=>some (some (Sm BZ n.natAbs/\Sm BZ b/\b≠0/\b∣n.natAbs),.k .z (n/(b:Int):Int),[])
 | _=>none
def Nl:Ctr:=⟨80,false,B8⟩
def Qf (n:Int) (b:Nat):bk:=⟨fun key_=>match key_ with | 1=>6 | _=>0,nL,nR,nU⟩
def B9 (n:Int) (b:Nat):Prop:=Sm BN n.natAbs/\(Sm BN n.natAbs/\Sm BN b/\b≠0)/\Sm BN (n.natAbs/b)/\bW (decide (n.sign<0)) (n.natAbs/b)=n/(↑b:Int)
theorem J6 (n:Int) (b:Nat):aw ZO [] (Qf n b) Tryz.f80 (.k .z (n/(b:Int):Int)) [.k .z n,.k .nat b]=B9 n b:=by kernel_rfl
theorem J7 (n:Int) (b:Nat) (hg:Sm BZ n.natAbs/\Sm BZ b/\b≠0/\b∣n.natAbs):B9 n b:=by
 unfold B9;obtain ⟨h1,h2,h3,h4⟩:=hg;have l:BZ<=BN:=by unfold BZ BN;omega
 refine ⟨h1.le l,⟨h1.le l,h2.le l,h3⟩,(h1.div _).le l,?_⟩;rw [Hs.2 (show n.sign<0↔n<0 from KZ)];exact My (Ar h3) h4
theorem J8:aoQ (cfg []) Nl:=jl B7 bp Tryz.func80 (by kernel_rfl) (by kernel_rfl) rfl (by kernel_rfl) fun args g r hn hc hg hf=>by
 replace hc:B8 args=some (g,r,hn):=hc;unfold B8 at hc;split at hc
 ·obtain ⟨rfl,rfl,rfl⟩:=aq0 hc;exact ⟨rfl,by kernel_rfl,_,(J6 ..).mpr (J7 _ _ hg)⟩
 ·cases hc
noncomputable def LF3:List Ctr:=J4::Nl::ZO
theorem Nn:bd LF3:=⟨z6,J8,B7⟩
def J9:CF
 | [.k .z n,.k .nat d]=>some (some (Sm BZ n.natAbs/\Sm BZ d/\d≠0),.k .q (mkRat n d),[])
 | _=>none
def Wc:Ctr:=⟨115,false,J9⟩
def Wd (n:Int) (d:Nat):bk:=⟨fun key_=>match key_ with | 1=>5 | 2=>5 | _=>0,nL,nR,nU⟩
def We (n:Int) (d:Nat):Prop:=
 let t1:=bW false d;
 Sm BN d/\(Sm BN n.natAbs/\Sm BN t1.natAbs)/\(Sm BZ n.natAbs/\Sm BZ (n.natAbs.gcd t1.natAbs)/\n.natAbs.gcd t1.natAbs≠(0:Nat)/\n.natAbs.gcd t1.natAbs∣n.natAbs)
 /\ (Sm BN d/\Sm BN (n.natAbs.gcd t1.natAbs)/\n.natAbs.gcd t1.natAbs≠0)/\(Sm BN (d/n.natAbs.gcd t1.natAbs)/\d/n.natAbs.gcd t1.natAbs≠(0:Nat)/\(n /
 (↑(n.natAbs.gcd t1.natAbs):Int)).natAbs.Coprime (d/n.natAbs.gcd t1.natAbs))/\mkRat (n/(↑(n.natAbs.gcd t1.natAbs):Int)) (d/n.natAbs.gcd t1.natAbs)=mkRat n d
theorem Qg (n:Int) (d:Nat):aw LF3 [] (Wd n d) Tryz.f115 (.k .q (mkRat n d)) [.k .z n,.k .nat d]=We n d:=by kernel_rfl
theorem Qh (n:Int) (d:Nat) (hg:Sm BZ n.natAbs/\Sm BZ d/\d≠0):We n d:=by
 obtain ⟨h1,h2,h3⟩:=hg;have l:BZ<=BN:=by unfold BZ BN;omega
 have gp:n.natAbs.gcd d≠0:=KT (Gl _ (Ar h3));obtain ⟨k1,k2⟩:=qp n (Ar h3);have sd:=h2.div (n.natAbs.gcd d);refine (show Sm BN d/\(Sm BN n.natAbs/\Sm BN d)/\(Sm BZ n.natAbs/\Sm BZ (n.natAbs.gcd d)/\n.natAbs.gcd d≠0/\n.natAbs.gcd d∣n.natAbs)/\(Sm BN d/\Sm BN (n.natAbs.gcd d)/\n.natAbs.gcd d≠0)/\(Sm BN (d/n.natAbs.gcd d)/\d/n.natAbs.gcd d≠0/\(n/((n.natAbs.gcd d:Nat):Int)).natAbs.Coprime (d/n.natAbs.gcd d))/\mkRat (n/((n.natAbs.gcd d:Nat):Int)) (d/n.natAbs.gcd d)=mkRat n d from ?_);refine ⟨h2.le l,⟨h1.le l,h2.le l⟩,⟨h1,zZ h2 h3,gp,GB _ _⟩,⟨h2.le l,(zZ h2 h3).le l,gp⟩,⟨sd.le l,?_,?_⟩,?_⟩
 ·rw [k2];exact (mkRat n d).den_nz
 ·rw [k1,k2];exact (mkRat n d).reduced
 ·rw [k1,k2];exact Gj _
theorem Qi:aoQ (cfg []) Wc:=jl Nn bp Tryz.func115 (by kernel_rfl) (by kernel_rfl) rfl (by kernel_rfl) fun args g r hn hc hg hf=>by
 replace hc:J9 args=some (g,r,hn):=hc;unfold J9 at hc;split at hc
 ·obtain ⟨rfl,rfl,rfl⟩:=aq0 hc;exact ⟨rfl,by kernel_rfl,_,(Qg ..).mpr (Qh _ _ hg)⟩
 ·cases hc
noncomputable def Qj:List Ctr:=Wc::LF3
theorem sn:bd Qj:=⟨Qi,Nn⟩
def fqMake:CF
 | [.k .z n,.k .z d]=>some (some (Sm BZ n.natAbs/\Sm BZ d.natAbs/\d≠0),T2 (.k .q ((n:Rat)/(d:Rat))) (.k .bool true),[])
 | _=>none
def No:Ctr:=⟨86,false,fqMake⟩
def Qk (n d:Int):bk:=⟨fun key_=>match key_ with | 5=>3 | _=>0,nL,nR,nU⟩
def Ca (n d:Int):Prop:=Sm BN d.natAbs/\bif decide (d.sign=0) then ((0:Nat)=(0:Nat)\/(0:Nat)≠(1:Nat)/\(Int.natAbs (0:Int)).Coprime (0:Nat))/\j6 (0:Int) (0:Nat)
 = (↑n:Rat)/(↑d:Rat)/\false=true else Sm BN d.natAbs/\bif decide (d.sign<0) then Sm BN n.natAbs/\(Sm BZ (-n).natAbs/\Sm BZ d.natAbs/\d.natAbs≠(0 :
 Nat))/\mkRat (-n) d.natAbs=(↑n:Rat)/(↑d:Rat)/\true=true else (Sm BZ n.natAbs/\Sm BZ d.natAbs/\d.natAbs≠0)/\mkRat n d.natAbs=(↑n:Rat)/(↑d :
 Rat)/\true=true
theorem Ka (n d:Int):aw Qj [] (Qk n d) Tryz.f86 (T2 (.k .q ((n:Rat)/(d:Rat))) (.k .bool true)) [.k .z n,.k .z d]=Ca n d:=by kernel_rfl
theorem Kb (n d:Int) (hg:Sm BZ n.natAbs/\Sm BZ d.natAbs/\d≠0):Ca n d:=by
 obtain ⟨h1,h2,h3⟩:=hg;have l:BZ<=BN:=by unfold BZ BN;omega
 unfold Ca;exact ⟨h2.le l,aoI (fun h=>absurd (KL.1 h) h3) fun _=>⟨h2.le l,aoI (fun h=>⟨h1.le l,⟨h1.S8,h2,by omega⟩,Ng n (KZ.1 h),rfl⟩) fun h=>⟨⟨h1,h2,by omega⟩,mk_pos n (fun e=>h (KZ.2 e)),rfl⟩⟩⟩
theorem Kc:aoQ (cfg []) No:=jl sn bp Tryz.func86 (by kernel_rfl) (by kernel_rfl) rfl (by kernel_rfl) fun args g r hn hc hg hf=>by
 replace hc:fqMake args=some (g,r,hn):=hc;unfold fqMake at hc;split at hc
 ·obtain ⟨rfl,rfl,rfl⟩:=aq0 hc;exact ⟨rfl,by kernel_rfl,_,(Ka ..).mpr (Kb _ _ hg)⟩
 ·cases hc
def fqCmp:CF
 | [.k .q x,.k .q y]=>some (some (Sq BQ x/\Sq BQ y),.k (.int .i64) (fS x y:Int),[])
 | _=>none
def Ke:Ctr:=⟨70,false,fqCmp⟩
def Wf (x y:Rat):bk:=⟨fun key_=>match key_ with | 1=>10 | 3=>9 | _=>0,nL,nR,nU⟩
def so (x y:Rat):Prop:=Sq BQ x/\Sq BQ y/\bif !decide (x.num.sign=y.num.sign) then (Sm BN x.num.natAbs/\Sm BN y.num.natAbs)/\dS x.num y.num=fS x y else Sq BQ y/\(Sm BZ x.num.natAbs
 /\ Sm BZ y.den)/\Sq BQ x/\(Sm BZ y.num.natAbs/\Sm BZ x.den)/\(Sm BN (x.num*(↑y.den:Int)).natAbs/\Sm BN (y.num*(↑x.den:Int)).natAbs)/\dS (x.num*(↑y.den :
 Int)) (y.num*(↑x.den:Int))=fS x y
def Kf (x y:Rat):Prop:=Sq BQ x/\bif decide (x.den=(1:Nat)) then Sq BQ y/\bif decide (y.den=(1:Nat)) then (Sm BN x.num.natAbs/\Sm BN y.num.natAbs)/\dS x.num y.num=fS x y else
 so x y else so x y
theorem Ql (x y:Rat):aw Qj [] (Wf x y) Tryz.f70 (.k (.int .i64) (fS x y:Int)) [.k .q x,.k .q y]=Kf x y:=by kernel_rfl
theorem Qm (x y:Rat) (hg:Sq BQ x/\Sq BQ y):Kf x y:=by
 obtain ⟨h1,h2⟩:=hg;have l:BQ<=BN:=by unfold BQ BN;omega
 have l2:BQ<=BZ:=by unfold BQ BZ;omega
 have l3:BQ+BQ<=BN:=by unfold BQ BN;omega
 have hr:so x y:=by
  unfold so;refine ⟨h1,h2,dP (fun h=>⟨⟨h1.num.le l,h2.num.le l⟩,Ic h⟩) fun _=>⟨h2,⟨h1.num.le l2,h2.den.le l2⟩,h1,⟨h2.num.le l2,h1.den.le l2⟩,⟨?_,?_⟩,ot x y⟩⟩
  ·rw [Ga];exact (h1.num.mul h2.den).le l3
  ·rw [Ga];exact (h2.num.mul h1.den).le l3
 unfold Kf;exact ⟨h1,aoI (fun e=>⟨h2,aoI (fun e'=>⟨⟨h1.num.le l,h2.num.le l⟩,Om e e'⟩) fun _=>hr⟩) fun _=>hr⟩
theorem z7:aoQ (cfg []) Ke:=jl sn bp Tryz.func70 (by kernel_rfl) (by kernel_rfl) rfl (by kernel_rfl) fun args g r hn hc hg hf=>by
 replace hc:fqCmp args=some (g,r,hn):=hc;unfold fqCmp at hc;split at hc
 ·obtain ⟨rfl,rfl,rfl⟩:=aq0 hc;exact ⟨rfl,by kernel_rfl,_,(Ql ..).mpr (Qm _ _ hg)⟩
 ·cases hc
def Kg:CF
 | [.k .q x,.k .q y]=>some (some (Sq BQ x/\Sq BQ y),.k .q (x+y:Rat),[])
 | _=>none
def xK:Ctr:=⟨72,false,Kg⟩
def Wg (x y:Rat):bk:=⟨fun key_=>match key_ with | 3=>8 | 4=>10 | 5=>10 | 6=>5 | 7=>8 | _=>0,nL,nR,nU⟩
def xL (x y:Rat):Prop:=
 let t1:=bW false y.den;
 let t2:=bW false x.den;
 let t3:=x.den/t2.natAbs.gcd t1.natAbs;
 let t4:=y.den/t2.natAbs.gcd t1.natAbs;
 let t5:=x.num*(↑t4:Int)+y.num*(↑t3:Int);
 let t6:=t2.natAbs.gcd t1.natAbs;
 let t7:=bW false t6;
 let t8:=x.den/t2.natAbs.gcd t1.natAbs*(y.den/t5.natAbs.gcd t7.natAbs);
 Sq BQ x/\Sm BN x.den/\Sq BQ y/\Sm BN y.den/\(Sm BN t2.natAbs/\Sm BN t1.natAbs)/\Sq BQ x/\(Sm BN x.den/\Sm BN t6/\t2.natAbs.gcd t1.natAbs≠0)/\Sq BQ y /\
 (Sm BN y.den/\Sm BN t6/\t2.natAbs.gcd t1.natAbs≠0)/\(Sm BZ x.num.natAbs/\Sm BZ t4)/\(Sm BZ y.num.natAbs/\Sm BZ t3)/\(Sm BZ (x.num*(↑t4:Int)).natAbs /\
 Sm BZ (y.num*(↑t3:Int)).natAbs)/\Sm BN t6/\(Sm BN t5.natAbs/\Sm BN t7.natAbs)/\(Sm BZ t5.natAbs/\Sm BZ (t5.natAbs.gcd t7.natAbs)/\t5.natAbs.gcd t7.natAbs≠(0 :
 Nat)/\t5.natAbs.gcd t7.natAbs∣t5.natAbs)/\Sq BQ y/\(Sm BN y.den/\Sm BN (t5.natAbs.gcd t7.natAbs)/\t5.natAbs.gcd t7.natAbs≠0)/\(Sm BN t3/\Sm BN (y.den /
 t5.natAbs.gcd t7.natAbs))/\(Sm BN t8/\x.den/t2.natAbs.gcd t1.natAbs*(y.den/t5.natAbs.gcd t7.natAbs)≠(0:Nat)/\(t5/(↑(t5.natAbs.gcd t7.natAbs) :
 Int)).natAbs.Coprime t8)/\mkRat (t5/(↑(t5.natAbs.gcd t7.natAbs):Int)) t8=x+y
def Kh (x y:Rat):Prop:=Sq BQ x/\bif decide (x.den=(1:Nat)) then Sq BQ y/\bif decide (y.den=(1:Nat)) then (Sm BZ x.num.natAbs/\Sm BZ y.num.natAbs)/\((0:Nat)=(0:Nat)\/(0:Nat)
 ≠ (1:Nat)/\(x.num+y.num).natAbs.Coprime (0:Nat))/\j6 (x.num+y.num) (0:Nat)=x+y else xL x y else xL x y
theorem Qn (x y:Rat):aw Qj [] (Wg x y) Tryz.f72 (.k .q (x+y:Rat)) [.k .q x,.k .q y]=Kh x y:=by kernel_rfl
theorem Qo (x y:Rat) (hg:Sq BQ x/\Sq BQ y):Kh x y:=by
 obtain ⟨h1,h2⟩:=hg;have hr:xL x y:=P0 h1 h2 rfl rfl rfl rfl rfl;have l:BQ<=BZ:=by unfold BQ BZ;omega
 unfold Kh;refine ⟨h1,aoI (fun e=>⟨h2,aoI (fun e'=>⟨⟨h1.num.le l,h2.num.le l⟩,.inl rfl,?_⟩) fun _=>hr⟩) fun _=>hr⟩;obtain ⟨k1,k2⟩:=Ia e e';rw [fN, <- k1];have:=Gj (x+y);rw [k2,Mj] at this;exact this
theorem pI:aoQ (cfg []) xK:=jl sn bp Tryz.func72 (by kernel_rfl) (by kernel_rfl) rfl (by kernel_rfl) fun args g r hn hc hg hf=>by
 replace hc:Kg args=some (g,r,hn):=hc;unfold Kg at hc;split at hc
 ·obtain ⟨rfl,rfl,rfl⟩:=aq0 hc;exact ⟨rfl,by kernel_rfl,_,(Qn ..).mpr (Qo _ _ hg)⟩
 ·cases hc
def Ki:CF
 | [.k .q x,.k .q y]=>some (some (Sq BQ x/\Sq BQ y),.k .q (x*y:Rat),[])
 | _=>none
def xM:Ctr:=⟨41,false,Ki⟩
def Wh (x y:Rat):bk:=⟨fun key_=>match key_ with | 3=>7 | 4=>7 | 5=>17 | _=>0,nL,nR,nU⟩
def xN (x y:Rat):Prop:=
 let t1:=y.den/x.num.natAbs.gcd (bW false y.den).natAbs;
 let t2:=bW false x.den;
 let t3:=x.den/y.num.natAbs.gcd t2.natAbs*t1;
 let t4:=y.num.natAbs.gcd t2.natAbs;
 let t5:=x.num.natAbs.gcd (bW false y.den).natAbs;
 Sq BQ y/\Sm BN y.den/\(Sm BN x.num.natAbs/\Sm BN (bW false y.den).natAbs)/\Sq BQ x/\Sm BN x.den/\(Sm BN y.num.natAbs/\Sm BN t2.natAbs)/\(Sm BZ x.num.natAbs/\Sm
 BZ t5/\x.num.natAbs.gcd (bW false y.den).natAbs≠(0:Nat)/\x.num.natAbs.gcd (bW false y.den).natAbs∣x.num.natAbs)/\(Sm BZ y.num.natAbs/\Sm BZ t4 /\
 y.num.natAbs.gcd t2.natAbs≠(0:Nat)/\y.num.natAbs.gcd t2.natAbs∣y.num.natAbs)/\(Sm BZ (x.num/(↑t5:Int)).natAbs/\Sm BZ (y.num/(↑t4:Int)).natAbs)/\Sq BQ x
 /\ (Sm BN x.den/\Sm BN t4/\y.num.natAbs.gcd t2.natAbs≠0)/\Sq BQ y/\(Sm BN y.den/\Sm BN t5/\x.num.natAbs.gcd (bW false y.den).natAbs≠0)/\(Sm BN
 (x.den/y.num.natAbs.gcd t2.natAbs)/\Sm BN t1)/\(Sm BN t3/\x.den/y.num.natAbs.gcd t2.natAbs*t1≠(0:Nat)/\(x.num/(↑t5:Int)*(y.num/(↑t4 :
 Int))).natAbs.Coprime t3)/\mkRat (x.num/(↑t5:Int)*(y.num/(↑t4:Int))) t3=x*y
def Kj (x y:Rat):Prop:=Sq BQ x/\bif decide (x.den=(1:Nat)) then Sq BQ y/\bif decide (y.den=(1:Nat)) then (Sm BZ x.num.natAbs/\Sm BZ y.num.natAbs)/\((0:Nat)=(0:Nat)\/(0:Nat)
 ≠ (1:Nat)/\(x.num*y.num).natAbs.Coprime (0:Nat))/\j6 (x.num*y.num) (0:Nat)=x*y else xN x y else xN x y
theorem Qp (x y:Rat):aw Qj [] (Wh x y) Tryz.f41 (.k .q (x*y:Rat)) [.k .q x,.k .q y]=Kj x y:=by kernel_rfl
theorem Qq (x y:Rat) (hg:Sq BQ x/\Sq BQ y):Kj x y:=by
 obtain ⟨h1,h2⟩:=hg;have hr:xN x y:=P2 h1 h2 rfl rfl;have l:BQ<=BZ:=by unfold BQ BZ;omega
 unfold Kj;refine ⟨h1,aoI (fun e=>⟨h2,aoI (fun e'=>⟨⟨h1.num.le l,h2.num.le l⟩,.inl rfl,?_⟩) fun _=>hr⟩) fun _=>hr⟩;obtain ⟨k1,k2⟩:=Ib e e';rw [fN, <- k1];have:=Gj (x*y);rw [k2,Mj] at this;exact this
theorem pJ:aoQ (cfg []) xM:=jl sn bp Tryz.func41 (by kernel_rfl) (by kernel_rfl) rfl (by kernel_rfl) fun args g r hn hc hg hf=>by
 replace hc:Ki args=some (g,r,hn):=hc;unfold Ki at hc;split at hc
 ·obtain ⟨rfl,rfl,rfl⟩:=aq0 hc;exact ⟨rfl,by kernel_rfl,_,(Qp ..).mpr (Qq _ _ hg)⟩
 ·cases hc
noncomputable def LF5:List Ctr:=xK::xM::Qj
theorem Np:bd LF5:=⟨pI,pJ,sn⟩
def Kk:CF
 | [.k .q x,.k .q y]=>some (some (Sq BQ x/\Sq BQ y),.k .q (x-y:Rat),[])
 | _=>none
def Cb:Ctr:=⟨40,false,Kk⟩
def Wi (x y:Rat):bk:=⟨fun key_=>match key_ with | 1=>3 | _=>0,nL,nR,nU⟩
def Wj (x y:Rat):Prop:=Sq BQ y/\(Sq BQ x/\Sq BQ (-y))/\x + -y=x-y
theorem Qr (x y:Rat):aw LF5 [] (Wi x y) Tryz.f40 (.k .q (x-y:Rat)) [.k .q x,.k .q y]=Wj x y:=by kernel_rfl
theorem Qs (x y:Rat) (hg:Sq BQ x/\Sq BQ y):Wj x y:=by exact ⟨hg.2,⟨hg.1,hg.2.neg⟩,(ND x y).symm⟩
theorem tA:aoQ (cfg []) Cb:=jl Np bp Tryz.func40 (by kernel_rfl) (by kernel_rfl) rfl (by kernel_rfl) fun args g r hn hc hg hf=>by
 replace hc:Kk args=some (g,r,hn):=hc;unfold Kk at hc;split at hc
 ·obtain ⟨rfl,rfl,rfl⟩:=aq0 hc;exact ⟨rfl,by kernel_rfl,_,(Qr ..).mpr (Qs _ _ hg)⟩
 ·cases hc
def Kl:CF
 | [.k .q x,.k .q y]=>some (some (Sq BQ x/\Sq BQ y),T2 (.k .q (x/y:Rat)) (.k .bool (!decide ((y:Rat)=0))),[])
 | _=>none
def Wk:Ctr:=⟨42,false,Kl⟩
def Wl (x y:Rat):bk:=⟨fun key_=>match key_ with | 3=>11 | _=>0,nL,nR,nU⟩
def Km (x y:Rat):Prop:=
 let t1:=bW (decide (y.num.sign<0)) y.den;
 Sq BQ y/\bif decide (y.num.sign=0) then ((0:Nat)=(0:Nat)\/(0:Nat)≠(1:Nat)/\(Int.natAbs (0:Int)).Coprime (0:Nat))/\j6 (0:Int) (0:Nat) =
 x/y/\false = !decide (y=0) else Sq BQ y/\Sq BQ y/\Sm BN y.den/\(Sm BN y.num.natAbs/\y.num.natAbs≠(0:Nat)/\t1.natAbs.Coprime y.num.natAbs)/\(Sq BQ x
 /\ Sq BQ (mkRat t1 y.num.natAbs))/\x*mkRat t1 y.num.natAbs=x/y/\true = !decide (y=0)
theorem Qv (x y:Rat):aw LF5 [] (Wl x y) Tryz.f42 (T2 (.k .q (x/y:Rat)) (.k .bool (!decide ((y:Rat)=0)))) [.k .q x,.k .q y]=Km x y:=by kernel_rfl
theorem Qw (x y:Rat) (hg:Sq BQ x/\Sq BQ y):Km x y:=by
 obtain ⟨h1,h2⟩:=hg;have l:BQ<=BN:=by unfold BQ BN;omega
 unfold Km;intro t1;refine ⟨h2,aoI (fun h=>⟨.inl rfl,?_,?_⟩) fun h=>?_⟩
 ·have e:y=0:=G3.1 (KL.1 h);rw [e,Gh,Rat.inv_zero,Rat.mul_zero];exact fN 0
 ·have e:y=0:=G3.1 (KL.1 h);rw [kJ e];rfl
 ·have e:y≠0:=fun e=>h (by rw [e];rfl);obtain ⟨k1,k2⟩:=ZM e;have hn:y.num≠0:=fun e'=>e (G3.1 e');refine ⟨h2,h2,h2.den.le l,⟨h2.num.le l,by omega,k2⟩,⟨h1,?_⟩,?_,?_⟩
  ·rw [show mkRat t1 y.num.natAbs=y⁻¹ from k1];exact h2.inv e
  ·rw [show mkRat t1 y.num.natAbs=y⁻¹ from k1, <- Gh]
  ·rw [iR e];rfl
theorem Qx:aoQ (cfg []) Wk:=jl Np bp Tryz.func42 (by kernel_rfl) (by kernel_rfl) rfl (by kernel_rfl) fun args g r hn hc hg hf=>by
 replace hc:Kl args=some (g,r,hn):=hc;unfold Kl at hc;split at hc
 ·obtain ⟨rfl,rfl,rfl⟩:=aq0 hc;exact ⟨rfl,by kernel_rfl,_,(Qv ..).mpr (Qw _ _ hg)⟩
 ·cases hc
theorem Wm {s:Bool} {g m:Nat} (hg:0<g) (h:g∣m):bW s (m/g)=bW s m/(g:Int):=by
 obtain ⟨k,rfl⟩:=h;rw [Gp _ hg];have fc:(g:Int)≠0:=by omega
 cases s
 ·show ((k:Nat):Int)=((g*k:Nat):Int)/(g:Int);rw [Dh,G6 _ fc]
 ·show -((k:Nat):Int) = -((g*k:Nat):Int)/(g:Int);rw [Dh, <- Int.mul_neg,G6 _ fc]
theorem z8 (n:Int) {d:Int} (h:d≠0):mkRat (bW (!(decide (n<0) == decide (d<0))) n.natAbs) d.natAbs=(n:Rat)/(d:Rat):=by
 by_cases hd:d<0
 ·rw [<-Ng n hd];congr 1;unfold bW;by_cases hn:n<0 <;> simp [hn,hd] <;> omega
 ·rw [<-mk_pos n hd];congr 1;unfold bW;by_cases hn:n<0 <;> simp [hn,hd] <;> omega
theorem tB (n:Int) (d:Nat):(n:Rat)/(((d:Nat):Int):Rat)=mkRat n d:=by rw [<-NS,N4]
theorem over_self (q:Rat):((q.num:Int):Rat)/(((q.den:Nat):Int):Rat)=q:=by rw [tB,Gj]
theorem mQ {a b:Nat}:0<=bG a b↔b<=a:=by unfold bG;(repeat' split) <;> omega
theorem aow (x:Rat) {y:Rat} (h0:y≠0):((x.num*((y.den:Nat):Int):Int):Rat)/((((x.den:Nat):Int)*y.num:Int):Rat)=x/y:=by
 have hx:=over_self x;have hy:=over_self y;have h1:((x.den:Nat):Rat)≠0:=by rw [ne_eq,Rat.natCast_eq_zero_iff];exact x.den_nz
 have h2:((y.den:Nat):Rat)≠0:=by rw [ne_eq,Rat.natCast_eq_zero_iff];exact y.den_nz
 have h3:((y.num:Int):Rat)≠0:=by rw [ne_eq,Rat.intCast_eq_zero_iff];exact fun e=>h0 (G3.1 e)
 conv=>rhs;rw [<-hx, <- hy]
 rw [Rat.intCast_mul,Rat.intCast_mul,Rat.intCast_natCast,Rat.intCast_natCast];generalize ((x.num:Int):Rat)=a at *
 generalize ((y.num:Int):Rat)=b at *
 generalize ((x.den:Nat):Rat)=c at *
 generalize ((y.den:Nat):Rat)=d at *
 grind
noncomputable def ZP:List Ctr:=VG::VH::VI::Jx::aa4::VK::[]
theorem Cc:bd ZP:=⟨Py,Pz,PA,zU,VJ,PB,trivial⟩
def frI:CF
 | [.k .bool b,.k .rn n]=>some (none,.k .ri (bW b n),[])
 | _=>none
def crI:Ctr:=⟨32,false,frI⟩
def adh (b:Bool) (n:Nat):bk:=⟨nU,nL,nR,nU⟩
def vrI (b:Bool) (n:Nat):Prop:=bif b then (decide ((0:Int)<(↑(nl n):Int))=true->n≠0)/\bW (decide ((0:Int)<(↑(nl n):Int))) n=bW b n else (false=true->n≠0) /\
 bW false n=bW b n
theorem ZQ (b:Bool) (n:Nat):aw ZP [] (adh b n) Tryz.f32 (.k .ri (bW b n)) [.k .bool b,.k .rn n]=vrI b n:=by kernel_rfl
theorem ZR (b:Bool) (n:Nat) (hf:cJ [.k .bool b,.k .rn n]):vrI b n:=by
 unfold vrI;refine nC (fun h=>?_) fun h=>?_
 ·subst h;refine ⟨fun h' e=>?_,?_⟩
  ·have:=(pC n).1 (C8 h');omega
  ·rcases jW n with e | e
   ·subst e;cases decide ((0:Int)<((nl 0:Nat):Int)) <;> rfl
   ·rw [kJ (show (0:Int)<((nl n:Nat):Int) from (pC n).2 e)]
 ·subst h;exact ⟨fun h=>(by cases h),rfl⟩
theorem Nq:aoQ (cfg []) crI:=cf Cc bp Tryz.func32 (by kernel_rfl) fun args g r hn hc hg hf=>by
 replace hc:frI args=some (g,r,hn):=hc;unfold frI at hc;split at hc
 ·obtain ⟨rfl,rfl,rfl⟩:=aq0 hc;cases as3 (ZQ _ _) (ZR _ _ hf);exact ⟨rfl,by kernel_rfl,_,by assumption⟩
 ·cases hc
def frGcd:CF
 | [.k .rn a,.k .rn b]=>some (some (Sm BN a/\Sm BN b),.k .rn (Nat.gcd a b),[])
 | _=>none
def Wn:Ctr:=⟨63,false,frGcd⟩
def Wo (a b:Nat):bk:=⟨nU,fun key_=>match key_ with
 | 1=>some (⟨Nat×Nat,fun p=>[(0,.k .rn p.1),(1,.k .rn p.2)],fun _=>[],fun _ p=>Sm BN p.1/\Sm BN p.2/\Nat.gcd p.1 p.2=Nat.gcd a b,fun p=>p.2⟩) | _=>none,nR,nU⟩
def Kn (a b:Nat):Prop:=∃(x0:Nat×Nat),(a=x0.fst/\b=x0.snd)/\(Sm BN x0.fst/\Sm BN x0.snd/\x0.fst.gcd x0.snd=a.gcd b)/\∀(x:Nat×Nat),Sm BN x.fst/\Sm BN x.snd/\x.fst.gcd
 x.snd=a.gcd b->bif decide ((0:Int)<(↑(nl x.snd):Int)) then (Sm BN x.fst/\Sm BN x.snd/\x.snd≠0)/\∃(x':Nat×Nat),(x.snd=x'.fst/\x.fst%x.snd
 = x'.snd)/\(Sm BN x'.fst/\Sm BN x'.snd/\x'.fst.gcd x'.snd=a.gcd b)/\x'.snd<x.snd else x.fst=a.gcd b
theorem Qy (a b:Nat):aw ZP [] (Wo a b) Tryz.f63 (.k .rn (Nat.gcd a b)) [.k .rn a,.k .rn b]=Kn a b:=by kernel_rfl
theorem Qz (a b:Nat) (hg:Sm BN a/\Sm BN b):Kn a b:=by
 unfold Kn;refine ⟨(a,b),⟨rfl,rfl⟩,⟨hg.1,hg.2,rfl⟩,fun ⟨p,q⟩ ⟨h1,h2,h3⟩=>?_⟩;dsimp only at h1 h2 h3 ⊢;refine aoI (fun h=>?_) fun h=>?_
 ·have hq:=(pC q).1 h;refine ⟨⟨h1,h2,by omega⟩,(q,p%q),⟨rfl,rfl⟩,⟨h2,h1.mod _,?_⟩,x5 _ hq⟩;rw [<-h3,KU p q,NV q p,KU]
 ·have:q=0:=by
   rcases jW q with e | e
   ·exact e
   ·exact absurd ((pC q).2 e) h
  rw [<-h3,this,NH]
theorem QA:aoQ (cfg []) Wn:=cf Cc bp Tryz.func63 (by kernel_rfl) fun args g r hn hc hg hf=>by
 replace hc:frGcd args=some (g,r,hn):=hc;unfold frGcd at hc;split at hc
 ·obtain ⟨rfl,rfl,rfl⟩:=aq0 hc;cases as3 (Qy _ _) (Qz _ _ hg);exact ⟨rfl,by kernel_rfl,_,by assumption⟩
 ·cases hc
noncomputable def FQ:List Ctr:=crI::Wn::ZP
theorem nH:bd FQ:=⟨Nq,QA,Cc⟩
def frIntOf:CF
 | [.k (.int .i64) n]=>some (some (anu n),.k .ri n,[])
 | _=>none
def FR:Ctr:=⟨34,false,frIntOf⟩
def Ko (n:Int):bk:=⟨nU,nL,nR,nU⟩
def xO (n:Int):Prop:=bif decide (n<0) then ((0:Int)<=IntKind.u64.wrap ((0:Int)-IntKind.u64.wrap n)/\IntKind.u64.wrap ((0:Int)-IntKind.u64.wrap n)<(18446744073709551616
 : Int))/\bW true (IntKind.u64.wrap ((0:Int)-IntKind.u64.wrap n)).toNat=n else ((0:Int)<=IntKind.u64.wrap n/\IntKind.u64.wrap n<(18446744073709551616:Int))
 /\ bW false (IntKind.u64.wrap n).toNat=n
theorem FT (n:Int):aw FQ [] (Ko n) Tryz.f34 (.k .ri n) [.k (.int .i64) n]=xO n:=by kernel_rfl
theorem FU (n:Int) (hg:anu n):xO n:=by
 unfold xO;have h1 : -9223372036854775808<=n:=hg.1;have h2:n<=9223372036854775807:=hg.2;refine aoI (fun h=>?_) fun h=>?_
 ·have e:IntKind.u64.wrap ((0:Int)-IntKind.u64.wrap n) = -n:=by simp [IntKind.wrap,IntKind.signed,IntKind.bits];omega
  rw [e];refine ⟨⟨by omega,by omega⟩,?_⟩;show -((Int.toNat (-n):Nat):Int)=n;omega
 ·have e:IntKind.u64.wrap n=n:=by simp [IntKind.wrap,IntKind.signed,IntKind.bits];omega
  rw [e];refine ⟨⟨by omega,by omega⟩,?_⟩;show ((Int.toNat n:Nat):Int)=n;omega
theorem FW:aoQ (cfg []) FR:=cf nH bp Tryz.func34 (by kernel_rfl) fun args g r hn hc hg hf=>by
 replace hc:frIntOf args=some (g,r,hn):=hc;unfold frIntOf at hc;split at hc
 ·obtain ⟨rfl,rfl,rfl⟩:=aq0 hc;cases as3 (FT _) (FU _ hg);exact ⟨rfl,by kernel_rfl,_,by assumption⟩
 ·cases hc
def frIntSign:CF
 | [.k .ri x]=>some (none,.k (.int .i64) x.sign,[])
 | _=>none
def xP:Ctr:=⟨93,false,frIntSign⟩
def Cd (x:Int):bk:=⟨nU,nL,nR,nU⟩
def qU (x:Int):Prop:=bif decide ((↑(nl x.natAbs):Int)=0) then (0:Int)=x.sign else bif decide (x<0) then (-1:Int)=x.sign else (1:Int)=x.sign
theorem yT (x:Int):aw FQ [] (Cd x) Tryz.f93 (.k (.int .i64) x.sign) [.k .ri x]=qU x:=by kernel_rfl
theorem yU (x:Int) (hf:cJ [.k .ri x]):qU x:=by
 unfold qU;have hn:=pC x.natAbs;refine aoI (fun h=>?_) fun h=>aoI (fun h'=>(ym h').symm) fun h'=>?_
 ·have:x=0:=by
   rcases jW x.natAbs with e | e
   ·omega
   ·have:=hn.2 e;omega
  subst this;rfl
 ·refine (yo ?_).symm;have:0<x.natAbs:=hn.1 (by omega);omega
theorem yV:aoQ (cfg []) xP:=cf nH bp Tryz.func93 (by kernel_rfl) fun args g r hn hc hg hf=>by
 replace hc:frIntSign args=some (g,r,hn):=hc;unfold frIntSign at hc;split at hc
 ·obtain ⟨rfl,rfl,rfl⟩:=aq0 hc;cases as3 (yT _) (yU _ hf);exact ⟨rfl,by kernel_rfl,_,by assumption⟩
 ·cases hc
def tC:CF
 | [.k .ri x]=>(fun (x:Int)=>some (none,.k .ri (-x:Int),[])) x
 | _=>none
def Aa:Ctr:=⟨123,false,tC⟩
def FX (x:Int):bk:=⟨nU,nL,nR,nU⟩
def tD (x:Int):Prop:=bW (!decide (x<0)) x.natAbs = -x
theorem Ce (x:Int):aw FQ [] (FX x) Tryz.f123 (.k .ri (-x:Int)) [.k .ri x]=tD x:=by kernel_rfl
theorem Cf (x:Int) (hf:cJ [.k .ri x]):tD x:=by
 unfold tD bW;by_cases hx:x<0
 ·rw [kJ hx];show ((x.natAbs:Nat):Int) = -x;omega
 ·rw [iR hx];show -((x.natAbs:Nat):Int) = -x;omega
theorem Cg:aoQ (cfg []) Aa:=cf nH bp Tryz.func123 (by kernel_rfl) fun args g r hn hc hg hf=>by
 replace hc:tC args=some (g,r,hn):=hc;unfold tC at hc;split at hc
 ·obtain ⟨rfl,rfl,rfl⟩:=aq0 hc;cases as3 (Ce _) (Cf _ hf);exact ⟨rfl,by kernel_rfl,_,by assumption⟩
 ·cases hc
def frIntAdd:CF
 | [.k .ri x,.k .ri y]=>some (some (Sm BN x.natAbs/\Sm BN y.natAbs),.k .ri (x+y:Int),[])
 | _=>none
def Ab:Ctr:=⟨29,false,frIntAdd⟩
def FY (x y:Int):bk:=⟨fun key_=>match key_ with | 2=>7 | 4=>7 | 5=>7 | _=>0,nL,nR,nU⟩
def tE (x y:Int):Prop:=bif decide (x<0) == decide (y<0) then (Sm BN x.natAbs/\Sm BN y.natAbs)/\bW (decide (x<0)) (x.natAbs+y.natAbs)=x+y else (Sm BN
 x.natAbs/\Sm BN y.natAbs)/\bif decide ((0:Int)<=bG x.natAbs y.natAbs) then (Sm BN x.natAbs/\y.natAbs<=x.natAbs)/\bW (decide (x<0)) (x.natAbs -
 y.natAbs)=x+y else (Sm BN y.natAbs/\x.natAbs<=y.natAbs)/\bW (decide (y<0)) (y.natAbs-x.natAbs)=x+y
theorem Ch (x y:Int):aw FQ [] (FY x y) Tryz.f29 (.k .ri (x+y:Int)) [.k .ri x,.k .ri y]=tE x y:=by kernel_rfl
theorem Ci (x y:Int) (hg:Sm BN x.natAbs/\Sm BN y.natAbs):tE x y:=by
 unfold tE;obtain ⟨h1,h2⟩:=hg;refine nC (fun h=>⟨⟨h1,h2⟩,?_⟩) fun h=>⟨⟨h1,h2⟩,aoI (fun h'=>⟨⟨h1,mQ.1 h'⟩,?_⟩) fun h'=>?_⟩
 ·unfold bW;by_cases hx:x<0 <;> by_cases hy:y<0 <;> simp [hx,hy] at h ⊢ <;> omega
 ·have h':=mQ.1 h';unfold bW;by_cases hx:x<0 <;> by_cases hy:y<0 <;> simp [hx,hy] at h ⊢ <;> omega
 ·have h':¬y.natAbs<=x.natAbs:=fun e=>h' (mQ.2 e);refine ⟨⟨h2,by omega⟩,?_⟩;unfold bW;by_cases hx:x<0 <;> by_cases hy:y<0 <;> simp [hx,hy] at h ⊢ <;> omega
theorem Cj:aoQ (cfg []) Ab:=cf nH bp Tryz.func29 (by kernel_rfl) fun args g r hn hc hg hf=>by
 replace hc:frIntAdd args=some (g,r,hn):=hc;unfold frIntAdd at hc;split at hc
 ·obtain ⟨rfl,rfl,rfl⟩:=aq0 hc;cases as3 (Ch _ _) (Ci _ _ hg);exact ⟨rfl,by kernel_rfl,_,by assumption⟩
 ·cases hc
def tF:CF
 | [.k .ri x,.k .ri y]=>some (some (Sm BN x.natAbs/\Sm BN y.natAbs),.k .ri (x*y:Int),[])
 | _=>none
def Ac:Ctr:=⟨30,false,tF⟩
def FZ (x y:Int):bk:=⟨fun key_=>match key_ with | 1=>10 | _=>0,nL,nR,nU⟩
def Ad (x y:Int):Prop:=(Sm BN x.natAbs/\Sm BN y.natAbs)/\bW (!decide (x<0) == decide (y<0)) (x.natAbs*y.natAbs)=x*y
theorem Ck (x y:Int):aw FQ [] (FZ x y) Tryz.f30 (.k .ri (x*y:Int)) [.k .ri x,.k .ri y]=Ad x y:=by kernel_rfl
theorem Cl (x y:Int) (hg:Sm BN x.natAbs/\Sm BN y.natAbs):Ad x y:=by exact ⟨hg,vL rfl rfl⟩
theorem Cm:aoQ (cfg []) Ac:=cf nH bp Tryz.func30 (by kernel_rfl) fun args g r hn hc hg hf=>by
 replace hc:tF args=some (g,r,hn):=hc;unfold tF at hc;split at hc
 ·obtain ⟨rfl,rfl,rfl⟩:=aq0 hc;cases as3 (Ck _ _) (Cl _ _ hg);exact ⟨rfl,by kernel_rfl,_,by assumption⟩
 ·cases hc
def frDen:CF
 | [.k .rq x]=>some (none,.k .ri ((x.den:Nat):Int),[])
 | _=>none
def Wp:Ctr:=⟨31,false,frDen⟩
def Wq (x:Rat):bk:=⟨nU,nL,nR,nU⟩
def Wr (x:Rat):Prop:=bW false x.den=(↑x.den:Int)
theorem QB (x:Rat):aw FQ [] (Wq x) Tryz.f31 (.k .ri ((x.den:Nat):Int)) [.k .rq x]=Wr x:=by kernel_rfl
theorem QC (x:Rat) (hf:cJ [.k .rq x]):Wr x:=by rfl
theorem QD:aoQ (cfg []) Wp:=cf nH bp Tryz.func31 (by kernel_rfl) fun args g r hn hc hg hf=>by
 replace hc:frDen args=some (g,r,hn):=hc;unfold frDen at hc;split at hc
 ·obtain ⟨rfl,rfl,rfl⟩:=aq0 hc;cases as3 (QB _) (QC _ hf);exact ⟨rfl,by kernel_rfl,_,by assumption⟩
 ·cases hc
noncomputable def LR3:List Ctr:=FR::xP::Aa::Ab::Ac::Wp::FQ
theorem Nr:bd LR3:=⟨FW,yV,Cg,Cj,Cm,QD,nH⟩
def tG:CF
 | [.k .ri x,.k .ri y]=>some (some (Sm BN x.natAbs/\Sm BN y.natAbs),.k .ri (x-y:Int),[])
 | _=>none
def Ae:Ctr:=⟨118,false,tG⟩
def aBK (x y:Int):bk:=⟨fun key_=>match key_ with | 1=>3 | _=>0,nL,nR,nU⟩
def Af (x y:Int):Prop:=(Sm BN x.natAbs/\Sm BN (-y).natAbs)/\x + -y=x-y
theorem Cn (x y:Int):aw LR3 [] (aBK x y) Tryz.f118 (.k .ri (x-y:Int)) [.k .ri x,.k .ri y]=Af x y:=by kernel_rfl
theorem Co (x y:Int) (hg:Sm BN x.natAbs/\Sm BN y.natAbs):Af x y:=by exact ⟨⟨hg.1,hg.2.S8⟩,by omega⟩
theorem Cq:aoQ (cfg []) Ae:=cf Nr bp Tryz.func118 (by kernel_rfl) fun args g r hn hc hg hf=>by
 replace hc:tG args=some (g,r,hn):=hc;unfold tG at hc;split at hc
 ·obtain ⟨rfl,rfl,rfl⟩:=aq0 hc;cases as3 (Cn _ _) (Co _ _ hg);exact ⟨rfl,by kernel_rfl,_,by assumption⟩
 ·cases hc
noncomputable def Ws:List Ctr:=Ae::LR3
theorem vp:bd Ws:=⟨Cq,Nr⟩
def tH:CF
 | [.k .ri x,.k .ri y]=>some (some (Sm BN x.natAbs/\Sm BN y.natAbs),.k (.int .i64) (dS x y),[])
 | _=>none
def Ag:Ctr:=⟨89,false,tH⟩
def F3 (x y:Int):bk:=⟨nU,nL,nR,nU⟩
def Ah (x y:Int):Prop:=(Sm BN x.natAbs/\Sm BN y.natAbs)/\(x-y).sign=dS x y
theorem Cr (x y:Int):aw Ws [] (F3 x y) Tryz.f89 (.k (.int .i64) (dS x y)) [.k .ri x,.k .ri y]=Ah x y:=by kernel_rfl
theorem Cs (x y:Int) (hg:Sm BN x.natAbs/\Sm BN y.natAbs):Ah x y:=by
 refine ⟨hg,?_⟩;unfold dS;by_cases h:x<y
 ·rw [eJ h];exact ym (by omega)
 ·rw [c6 h];by_cases h':x=y
  ·rw [eJ h',h',Int.sub_self];rfl
  ·rw [c6 h'];exact yo (by omega)
theorem Ct:aoQ (cfg []) Ag:=cf vp bp Tryz.func89 (by kernel_rfl) fun args g r hn hc hg hf=>by
 replace hc:tH args=some (g,r,hn):=hc;unfold tH at hc;split at hc
 ·obtain ⟨rfl,rfl,rfl⟩:=aq0 hc;cases as3 (Cr _ _) (Cs _ _ hg);exact ⟨rfl,by kernel_rfl,_,by assumption⟩
 ·cases hc
def Cu:CF
 | [.k .ri n,.k .ri d]=>some (some (Sm BN n.natAbs/\Sm BN d.natAbs/\d≠0),.k .rq ((n:Rat)/(d:Rat)),[])
 | _=>none
def Ns:Ctr:=⟨28,false,Cu⟩
def QE (n d:Int):bk:=⟨nU,nL,nR,nU⟩
def Cv (n d:Int):Prop:=
 let t1:=bW (!decide (n<0) == decide (d<0)) (n.natAbs/n.natAbs.gcd d.natAbs);
 (Sm BN n.natAbs/\Sm BN d.natAbs)/\(Sm BN n.natAbs/\Sm BN (n.natAbs.gcd d.natAbs)/\n.natAbs.gcd d.natAbs≠0)/\(Sm BN d.natAbs/\Sm BN (n.natAbs.gcd d.natAbs)
 /\ n.natAbs.gcd d.natAbs≠0)/\(d.natAbs/n.natAbs.gcd d.natAbs≠(0:Nat)/\t1.natAbs.Coprime (d.natAbs/n.natAbs.gcd d.natAbs))/\mkRat t1 (d.natAbs /
 n.natAbs.gcd d.natAbs)=(↑n:Rat)/(↑d:Rat)
theorem Kq (n d:Int):aw Ws [] (QE n d) Tryz.f28 (.k .rq ((n:Rat)/(d:Rat))) [.k .ri n,.k .ri d]=Cv n d:=by kernel_rfl
theorem Kr (n d:Int) (hg:Sm BN n.natAbs/\Sm BN d.natAbs/\d≠0):Cv n d:=by
 obtain ⟨h1,h2,h3⟩:=hg;unfold Cv;intro t1;have hd:0<d.natAbs:=by omega
 have gp:0<n.natAbs.gcd d.natAbs:=Gl _ hd;have sg:=zZ (a:=n.natAbs) h2 (by omega);have e:=z8 n h3;have e1:t1=bW (!(decide (n<0) == decide (d<0))) n.natAbs/((n.natAbs.gcd d.natAbs:Nat):Int):=Wm gp (GB _ _);obtain ⟨k1,k2⟩:=qp (bW (!(decide (n<0) == decide (d<0))) n.natAbs) hd;rw [rE] at k1 k2;rw [e] at k1 k2;rw [e1,k1,k2];exact ⟨⟨h1,h2⟩,⟨h1,sg,by omega⟩,⟨h2,sg,by omega⟩,⟨Rat.den_nz _,Rat.reduced _⟩,Gj _⟩
theorem Ks:aoQ (cfg []) Ns:=cf vp bp Tryz.func28 (by kernel_rfl) fun args g r hn hc hg hf=>by
 replace hc:Cu args=some (g,r,hn):=hc;unfold Cu at hc;split at hc
 ·obtain ⟨rfl,rfl,rfl⟩:=aq0 hc;cases as3 (Kq _ _) (Kr _ _ hg);exact ⟨rfl,by kernel_rfl,_,by assumption⟩
 ·cases hc
def Wt:CF
 | [.k (.int .i64) n]=>some (some (anu n),.k .rq (n:Rat),[])
 | _=>none
def xQ:Ctr:=⟨7,false,Wt⟩
def ZS (n:Int):bk:=⟨nU,nL,nR,nU⟩
def aa6 (n:Int):Prop:=((-9223372036854775808:Int)<=n/\n<=(9223372036854775807:Int))/\((0:Int)<=(1:Int)/\(1:Int)<(18446744073709551616:Int))/\(Int.toNat (1:Int)≠(0 :
 Nat)/\n.natAbs.Coprime (Int.toNat (1:Int)))/\mkRat n (Int.toNat (1:Int))=(↑n:Rat)
theorem Wu (n:Int):aw Ws [] (ZS n) Tryz.f7 (.k .rq (n:Rat)) [.k (.int .i64) n]=aa6 n:=by kernel_rfl
theorem Wv (n:Int) (hg:anu n):aa6 n:=by exact ⟨hg,by omega,⟨by decide,by simp⟩,Mj n⟩
theorem mV:aoQ (cfg []) xQ:=cf vp bp Tryz.func7 (by kernel_rfl) fun args g r hn hc hg hf=>by
 replace hc:Wt args=some (g,r,hn):=hc;unfold Wt at hc;split at hc
 ·obtain ⟨rfl,rfl,rfl⟩:=aq0 hc;cases as3 (Wu _) (Wv _ hg);exact ⟨rfl,by kernel_rfl,_,by assumption⟩
 ·cases hc
def aiW:CF
 | [.k .rq x]=>(fun (x:Rat)=>some (none,.k .rq (-x:Rat),[])) x
 | _=>none
def ajK:Ctr:=⟨92,false,aiW⟩
def ajL (x:Rat):bk:=⟨fun key_=>match key_ with | 1=>5 | _=>0,nL,nR,nU⟩
def ajM (x:Rat):Prop:=(x.den≠(0:Nat)/\(-x.num).natAbs.Coprime x.den)/\mkRat (-x.num) x.den = -x
theorem ajt (x:Rat):aw Ws [] (ajL x) Tryz.f92 (.k .rq (-x:Rat)) [.k .rq x]=ajM x:=by kernel_rfl
theorem aju (x:Rat) (hf:cJ [.k .rq x]):ajM x:=by refine ⟨⟨x.den_nz,by rw [Int.natAbs_neg];exact x.reduced⟩,?_⟩;exact Gj (-x)
theorem ajv:aoQ (cfg []) ajK:=cf vp bp Tryz.func92 (by kernel_rfl) fun args g r hn hc hg hf=>by
 replace hc:aiW args=some (g,r,hn):=hc;unfold aiW at hc;split at hc
 ·obtain ⟨rfl,rfl,rfl⟩:=aq0 hc;cases as3 (ajt _) (aju _ hf);exact ⟨rfl,by kernel_rfl,_,by assumption⟩
 ·cases hc
def anJ:CF
 | [.k .rq x]=>some (none,.k (.int .i64) x.num.sign,[])
 | _=>none
def aoo:Ctr:=⟨55,false,anJ⟩
def aox (x:Rat):bk:=⟨nU,nL,nR,nU⟩
def aor (x:Rat):Prop:=x.num.sign=x.num.sign
theorem aod (x:Rat):aw Ws [] (aox x) Tryz.f55 (.k (.int .i64) x.num.sign) [.k .rq x]=aor x:=by kernel_rfl
theorem aoe (x:Rat) (hf:cJ [.k .rq x]):aor x:=by rfl
theorem aof:aoQ (cfg []) aoo:=cf vp bp Tryz.func55 (by kernel_rfl) fun args g r hn hc hg hf=>by
 replace hc:anJ args=some (g,r,hn):=hc;unfold anJ at hc;split at hc
 ·obtain ⟨rfl,rfl,rfl⟩:=aq0 hc;cases as3 (aod _) (aoe _ hf);exact ⟨rfl,by kernel_rfl,_,by assumption⟩
 ·cases hc
noncomputable def Ww:List Ctr:=Ag::Ns::ajK::Ws
theorem vq:bd Ww:=⟨Ct,Ks,ajv,vp⟩
def fdOver:CF
 | [.k (.int .i64) n,.k (.int .i64) d]=>some (some (anu n/\anu d/\d≠0),.k .rq ((n:Rat)/(d:Rat)),[])
 | _=>none
def Nt:Ctr:=⟨68,false,fdOver⟩
def QF (n d:Int):bk:=⟨nU,nL,nR,nU⟩
def Nu (n d:Int):Prop:=((-9223372036854775808:Int)<=n/\n<=(9223372036854775807:Int))/\((-9223372036854775808:Int)<=d/\d<=(9223372036854775807:Int))/\(Sm BN n.natAbs/\Sm BN
 d.natAbs/\d≠0)/\(↑n:Rat)/(↑d:Rat)=(↑n:Rat)/(↑d:Rat)
theorem Kt (n d:Int):aw Ww [] (QF n d) Tryz.f68 (.k .rq ((n:Rat)/(d:Rat))) [.k (.int .i64) n,.k (.int .i64) d]=Nu n d:=by kernel_rfl
theorem Ku (n d:Int) (hg:anu n/\anu d/\d≠0):Nu n d:=by obtain ⟨⟨a1,a2⟩,⟨b1,b2⟩,h3⟩:=hg;exact ⟨⟨a1,a2⟩,⟨b1,b2⟩,⟨(Sm.lit (by omega)).le (by unfold BN;omega),(Sm.lit (by omega)).le (by unfold BN;omega),h3⟩,rfl⟩
theorem xR:aoQ (cfg []) Nt:=cf vq bp Tryz.func68 (by kernel_rfl) fun args g r hn hc hg hf=>by
 replace hc:fdOver args=some (g,r,hn):=hc;unfold fdOver at hc;split at hc
 ·obtain ⟨rfl,rfl,rfl⟩:=aq0 hc;cases as3 (Kt _ _) (Ku _ _ hg);exact ⟨rfl,by kernel_rfl,_,by assumption⟩
 ·cases hc
def fdAdd:CF
 | [.k .rq x,.k .rq y]=>some (some (Sq BQ x/\Sq BQ y),.k .rq (x+y:Rat),[])
 | _=>none
def Kv:Ctr:=⟨6,false,fdAdd⟩
def Wx (x y:Rat):bk:=⟨fun key_=>match key_ with | 1=>15 | _=>0,nL,nR,nU⟩
def Wy (x y:Rat):Prop:=(Sm BN x.num.natAbs/\Sm BN (↑y.den:Int).natAbs)/\(Sm BN y.num.natAbs/\Sm BN (↑x.den:Int).natAbs)/\(Sm BN (x.num*(↑y.den:Int)).natAbs/\Sm BN (y.num*(↑x.den
 : Int)).natAbs)/\(Sm BN x.den/\Sm BN y.den)/\(Sm BN (x.num*(↑y.den:Int)+y.num*(↑x.den:Int)).natAbs/\Sm BN (bW false (x.den*y.den)).natAbs/\bW false
 (x.den*y.den)≠0)/\(↑(x.num*(↑y.den:Int)+y.num*(↑x.den:Int)):Rat)/(↑(bW false (x.den*y.den)):Rat)=x+y
theorem QG (x y:Rat):aw Ww [] (Wx x y) Tryz.f6 (.k .rq (x+y:Rat)) [.k .rq x,.k .rq y]=Wy x y:=by kernel_rfl
theorem QH (x y:Rat) (hg:Sq BQ x/\Sq BQ y):Wy x y:=by
 obtain ⟨h1,h2⟩:=hg;have l:BQ<=BN:=by unfold BQ BN;omega
 have l2:BQ+BQ+1<=BN:=by unfold BQ BN;omega
 have p1:Sm (BQ+BQ) (x.num*((y.den:Nat):Int)).natAbs:=by rw [Ga];exact h1.num.mul h2.den
 have p2:Sm (BQ+BQ) (y.num*((x.den:Nat):Int)).natAbs:=by rw [Ga];exact h2.num.mul h1.den
 refine ⟨⟨h1.num.le l,h2.den.le l⟩,⟨h2.num.le l,h1.den.le l⟩,⟨p1.le (by omega),p2.le (by omega)⟩,⟨h1.den.le l,h2.den.le l⟩,⟨(p1.S7 p2).le (by omega),(h1.den.mul h2.den).le (by omega),?_⟩,?_⟩
 ·have:=GX x.den_pos y.den_pos;show ((x.den*y.den:Nat):Int)≠0;omega
 ·exact (tB _ (x.den*y.den)).trans (N8 x y).symm
theorem Ai:aoQ (cfg []) Kv:=cf vq bp Tryz.func6 (by kernel_rfl) fun args g r hn hc hg hf=>by
 replace hc:fdAdd args=some (g,r,hn):=hc;unfold fdAdd at hc;split at hc
 ·obtain ⟨rfl,rfl,rfl⟩:=aq0 hc;cases as3 (QG _ _) (QH _ _ hg);exact ⟨rfl,by kernel_rfl,_,by assumption⟩
 ·cases hc
def Kw:CF
 | [.k .rq x,.k .rq y]=>some (some (Sq BQ x/\Sq BQ y),.k .rq (x*y:Rat),[])
 | _=>none
def Kx:Ctr:=⟨54,false,Kw⟩
def Wz (x y:Rat):bk:=⟨fun key_=>match key_ with | 1=>9 | _=>0,nL,nR,nU⟩
def WA (x y:Rat):Prop:=(Sm BN x.num.natAbs/\Sm BN y.num.natAbs)/\(Sm BN x.den/\Sm BN y.den)/\(Sm BN (x.num*y.num).natAbs/\Sm BN (bW false (x.den*y.den)).natAbs/\bW false (x.den *
 y.den)≠0)/\(↑(x.num*y.num):Rat)/(↑(bW false (x.den*y.den)):Rat)=x*y
theorem QI (x y:Rat):aw Ww [] (Wz x y) Tryz.f54 (.k .rq (x*y:Rat)) [.k .rq x,.k .rq y]=WA x y:=by kernel_rfl
theorem QJ (x y:Rat) (hg:Sq BQ x/\Sq BQ y):WA x y:=by
 obtain ⟨h1,h2⟩:=hg;have l:BQ<=BN:=by unfold BQ BN;omega
 have l2:BQ+BQ<=BN:=by unfold BQ BN;omega
 refine ⟨⟨h1.num.le l,h2.num.le l⟩,⟨h1.den.le l,h2.den.le l⟩,⟨(by rw [Ga];exact (h1.num.mul h2.num).le l2),(h1.den.mul h2.den).le l2,?_⟩,?_⟩
 ·have:=GX x.den_pos y.den_pos;show ((x.den*y.den:Nat):Int)≠0;omega
 ·exact (tB _ (x.den*y.den)).trans (N9 x y).symm
theorem Aj:aoQ (cfg []) Kx:=cf vq bp Tryz.func54 (by kernel_rfl) fun args g r hn hc hg hf=>by
 replace hc:Kw args=some (g,r,hn):=hc;unfold Kw at hc;split at hc
 ·obtain ⟨rfl,rfl,rfl⟩:=aq0 hc;cases as3 (QI _ _) (QJ _ _ hg);exact ⟨rfl,by kernel_rfl,_,by assumption⟩
 ·cases hc
def aog:CF
 | [.k .rq x,.k .rq y]=>some (some (Sq BQ x/\Sq BQ y/\y≠0),.k .rq (x/y:Rat),[])
 | _=>none
def aoL:Ctr:=⟨56,false,aog⟩
def aoM (x y:Rat):bk:=⟨fun key_=>match key_ with | 1=>9 | _=>0,nL,nR,nU⟩
def aoN (x y:Rat):Prop:=(Sm BN x.num.natAbs/\Sm BN (↑y.den:Int).natAbs)/\(Sm BN (↑x.den:Int).natAbs/\Sm BN y.num.natAbs)/\(Sm BN (x.num*(↑y.den:Int)).natAbs/\Sm BN ((↑x.den:Int) *
 y.num).natAbs/\(↑x.den:Int)*y.num≠0)/\(↑(x.num*(↑y.den:Int)):Rat)/(↑((↑x.den:Int)*y.num):Rat)=x/y
theorem aoy (x y:Rat):aw Ww [] (aoM x y) Tryz.f56 (.k .rq (x/y:Rat)) [.k .rq x,.k .rq y]=aoN x y:=by kernel_rfl
theorem aoz (x y:Rat) (hg:Sq BQ x/\Sq BQ y/\y≠0):aoN x y:=by
 obtain ⟨h1,h2,h0⟩:=hg;have l:BQ<=BN:=by unfold BQ BN;omega
 have l2:BQ+BQ<=BN:=by unfold BQ BN;omega
 refine ⟨⟨h1.num.le l,h2.den.le l⟩,⟨h1.den.le l,h2.num.le l⟩,⟨(by rw [Ga];exact (h1.num.mul h2.den).le l2),(by rw [Ga];exact (h1.den.mul h2.num).le l2),?_⟩,aow x h0⟩;exact Int.mul_ne_zero (by have:=x.den_pos;omega) fun e=>h0 (G3.1 e)
theorem aoA:aoQ (cfg []) aoL:=cf vq bp Tryz.func56 (by kernel_rfl) fun args g r hn hc hg hf=>by
 replace hc:aog args=some (g,r,hn):=hc;unfold aog at hc;split at hc
 ·obtain ⟨rfl,rfl,rfl⟩:=aq0 hc;cases as3 (aoy _ _) (aoz _ _ hg);exact ⟨rfl,by kernel_rfl,_,by assumption⟩
 ·cases hc
def Ky:CF
 | [.k .rq x,.k .rq y]=>some (some (Sq BQ x/\Sq BQ y),.k (.int .i64) (fS x y:Int),[])
 | _=>none
def Kz:Ctr:=⟨49,false,Ky⟩
def WB (x y:Rat):bk:=⟨fun key_=>match key_ with | 1=>9 | _=>0,nL,nR,nU⟩
def WC (x y:Rat):Prop:=(Sm BN x.num.natAbs/\Sm BN (↑y.den:Int).natAbs)/\(Sm BN y.num.natAbs/\Sm BN (↑x.den:Int).natAbs)/\(Sm BN (x.num*(↑y.den:Int)).natAbs/\Sm BN (y.num*(↑x.den
 : Int)).natAbs)/\dS (x.num*(↑y.den:Int)) (y.num*(↑x.den:Int))=fS x y
theorem QK (x y:Rat):aw Ww [] (WB x y) Tryz.f49 (.k (.int .i64) (fS x y:Int)) [.k .rq x,.k .rq y]=WC x y:=by kernel_rfl
theorem QL (x y:Rat) (hg:Sq BQ x/\Sq BQ y):WC x y:=by
 obtain ⟨h1,h2⟩:=hg;have l:BQ<=BN:=by unfold BQ BN;omega
 have l2:BQ+BQ<=BN:=by unfold BQ BN;omega
 exact ⟨⟨h1.num.le l,h2.den.le l⟩,⟨h2.num.le l,h1.den.le l⟩,⟨(by rw [Ga];exact (h1.num.mul h2.den).le l2),(by rw [Ga];exact (h2.num.mul h1.den).le l2)⟩,ot x y⟩
theorem Ak:aoQ (cfg []) Kz:=cf vq bp Tryz.func49 (by kernel_rfl) fun args g r hn hc hg hf=>by
 replace hc:Ky args=some (g,r,hn):=hc;unfold Ky at hc;split at hc
 ·obtain ⟨rfl,rfl,rfl⟩:=aq0 hc;cases as3 (QK _ _) (QL _ _ hg);exact ⟨rfl,by kernel_rfl,_,by assumption⟩
 ·cases hc
noncomputable def LR6:List Ctr:=Kv::Ww
theorem aj3:bd LR6:=⟨Ai,vq⟩
def aiY:CF
 | [.k .rq x,.k .rq y]=>some (some (Sq BQ x/\Sq BQ y),.k .rq (x-y:Rat),[])
 | _=>none
def ajN:Ctr:=⟨53,false,aiY⟩
def ajO (x y:Rat):bk:=⟨fun key_=>match key_ with | 1=>3 | _=>0,nL,nR,nU⟩
def ajP (x y:Rat):Prop:=(Sq BQ x/\Sq BQ (-y))/\x + -y=x-y
theorem ajw (x y:Rat):aw LR6 [] (ajO x y) Tryz.f53 (.k .rq (x-y:Rat)) [.k .rq x,.k .rq y]=ajP x y:=by kernel_rfl
theorem ajx (x y:Rat) (hg:Sq BQ x/\Sq BQ y):ajP x y:=by exact ⟨⟨hg.1,hg.2.neg⟩,(ND x y).symm⟩
theorem ajy:aoQ (cfg []) ajN:=cf aj3 bp Tryz.func53 (by kernel_rfl) fun args g r hn hc hg hf=>by
 replace hc:aiY args=some (g,r,hn):=hc;unfold aiY at hc;split at hc
 ·obtain ⟨rfl,rfl,rfl⟩:=aq0 hc;cases as3 (ajw _ _) (ajx _ _ hg);exact ⟨rfl,by kernel_rfl,_,by assumption⟩
 ·cases hc
end Go.Proofs.YtleakmppfpkbjaaGreatDoor.AM
namespace Go.Proofs.YtleakmppfpkbjaaGreatDoor
open Go.RowKit
theorem aBL (n:Nat) (hn:bl n<=549755813888) (w:World) :
  Calls Tryz.prog 97 #[.agg #[.int .u64 (lo (n):Nat),.string (hi (n))]] w (auf (bJ n) w):=by
 have HB:Hid (∀W,Calls Tryz.prog 127 #[.agg #[.int .u64 (lo (n):Nat),.string (hi (n))]] W (auf (jQ (gR n)) W)):=aad (fun W=>(xn n hn W).mono fun _ _ ⟨v,h1,h2,h3⟩=>⟨v,h1,jQ.Ug (by rw [b9];unfold nb;omega) h2,h3⟩)
 have HF:Hid (∀W u,jQ (gR n) u W->Calls Tryz.prog 126 #[u] W (auf (bJ n) W)):=aad (fun W u h=>by have h:=Bt (gR n) u W (by rw [b9];unfold nb;omega) h;rw [wX] at h;exact h)
 clear hn
 generalize lo n=la at *
 generalize hi n=sa at *
 go_enter Tryz.func97,Tryz.ntmps97
 go_wp2_with fail
 have hx:Ext w (w.alloc (.cells #[.int .u64 ((la:Nat):Int),.string sa] 47)):=(Ext.refl w).alloc _
 have HX:=aad hx
 clear hx
 refine (HB.out _).mono ?_
 rintro e w1 ⟨v1,rfl,fj,bU⟩
 have I0:=aad fj
 have HX1:=aad bU
 clear fj bU
 go_wp2_with fail
 refine (HF.out _ _ I0.out).mono ?_
 rintro e w3 ⟨v3,rfl,WD,hx3⟩
 have HV3:=aad WD
 clear WD
 go_wp2
 go_ret
 exact ⟨_,rfl,HV3.out,(HX.out.trans HX1.out).trans hx3⟩
end Go.Proofs.YtleakmppfpkbjaaGreatDoor
namespace Go.Proofs.YtleakmppfpkbjaaGreatDoor.AM
open Go.RowKit
def Al:Ctr:=⟨97,false,on1 .nat N1 fun x=>.k .rn (x:Nat)⟩
theorem Cw:aoQ (cfg []) Al:=nB (enters_of Tryz.func97 (by kernel_rfl) rfl) (fun _=>rfl) fun F x u w hg ht hu=>by obtain rfl:=hu.lu;have hg:Sm BN x:=hg;exact xF (aBL x (by unfold Sm BN at hg;omega) w)
theorem F5 (n:Int) {m:Int} (hm:0<m) : -m<n.tmod m/\n.tmod m<m/\n.tmod m%m=n%m:=by
 refine ⟨Int.lt_tmod_of_pos n hm,Int.tmod_lt_of_pos n hm,?_⟩;have h:=Int.tmod_add_mul_tdiv n m;conv=>rhs;rw [<-h]
 rw [Int.add_mul_emod_self_left]
theorem nI {a b:Nat}:bG a b=0↔a=b:=by unfold bG;(repeat' split) <;> omega
theorem QM {x y:Rat} (h1:x.num=y.num) (h2:x.den=y.den):x=y:=by rw [<-Gj x, <- Gj y,h1,h2]
theorem Sq.ratio {k:Nat} {n d:Int} (hn:Sm k n.natAbs) (hd:Sm k d.natAbs) (h0:d≠0):Sq k ((n:Rat)/(d:Rat)):=by rw [<-z8 n h0];exact H9 (by omega) (by rw [rE];exact hn) hd
noncomputable def WE:List Ctr:=VM::Al::sj::JA::vn::crI::V6::J4::No::xQ::Nt::Jx::[]
theorem vr:bd WE:=⟨PC,Cw,nG,zV,qT,Nq,P7,z6,Kc,mV,xR,zU,trivial⟩
def fhPick:CF
 | [.k (.int .i64) n,.k (.int .i64) m]=>some (some (anu n/\0<m/\m<=9223372036854775807),.k (.int .i64) (n%m:Int),[])
 | _=>none
def Cy:Ctr:=⟨4,false,fhPick⟩
def QN (n m:Int):bk:=⟨nU,nL,nR,nU⟩
def Cz (n m:Int):Prop:=m≠(0:Int)/\bif decide (n.tmod m<0) then anu (n.tmod m+m)/\n.tmod m+m=n%m else n.tmod m=n%m
theorem KA (n m:Int):aw WE [] (QN n m) Tryz.f4 (.k (.int .i64) (n%m:Int)) [.k (.int .i64) n,.k (.int .i64) m]=Cz n m:=by kernel_rfl
theorem KB (n m:Int) (hg:anu n/\0<m/\m<=9223372036854775807):Cz n m:=by
 obtain ⟨⟨h1,h2⟩,h3,h4⟩:=hg;obtain ⟨a1,a2,a3⟩:=F5 n h3;unfold Cz;refine ⟨by omega,aoI (fun h=>⟨⟨by omega,by omega⟩,?_⟩) fun h=>?_⟩
 ·rw [<-a3, <- Int.add_emod_right,Int.emod_eq_of_lt (by omega) (by omega)]
 ·rw [<-a3,Int.emod_eq_of_lt (by omega) (by omega)]
theorem nJ:aoQ (cfg []) Cy:=cf vr bp Tryz.func4 (by kernel_rfl) fun args g r hn hc hg hf=>by
 replace hc:fhPick args=some (g,r,hn):=hc;unfold fhPick at hc;split at hc
 ·obtain ⟨rfl,rfl,rfl⟩:=aq0 hc;cases as3 (KA _ _) (KB _ _ hg);exact ⟨rfl,by kernel_rfl,_,by assumption⟩
 ·cases hc
def fhInt:CF
 | [.k .ri x]=>some (some (Sm BN x.natAbs),.k .z x,[])
 | _=>none
def WG:Ctr:=⟨87,false,fhInt⟩
def WH (x:Int):bk:=⟨fun key_=>match key_ with | 1=>5 | _=>0,nL,nR,nU⟩
def WI (x:Int):Prop:=Sm BN x.natAbs/\Sm BN x.natAbs/\bW (decide (x<0)) x.natAbs=x
theorem QO (x:Int):aw WE [] (WH x) Tryz.f87 (.k .z x) [.k .ri x]=WI x:=by kernel_rfl
theorem QP (x:Int) (hg:Sm BN x.natAbs):WI x:=by exact ⟨hg,hg,kS x⟩
theorem QQ:aoQ (cfg []) WG:=cf vr bp Tryz.func87 (by kernel_rfl) fun args g r hn hc hg hf=>by
 replace hc:fhInt args=some (g,r,hn):=hc;unfold fhInt at hc;split at hc
 ·obtain ⟨rfl,rfl,rfl⟩:=aq0 hc;cases as3 (QO _) (QP _ hg);exact ⟨rfl,by kernel_rfl,_,by assumption⟩
 ·cases hc
def fhOutInt:CF
 | [.k .z x]=>some (some (Sm BN x.natAbs),.k .ri x,[])
 | _=>none
def Am:Ctr:=⟨95,false,fhOutInt⟩
def F6 (x:Int):bk:=⟨fun key_=>match key_ with | 1=>4 | _=>0,nL,nR,nU⟩
def An (x:Int):Prop:=Sm BN x.natAbs/\Sm BN x.natAbs/\bW (decide (x.sign<0)) x.natAbs=x
theorem CA (x:Int):aw WE [] (F6 x) Tryz.f95 (.k .ri x) [.k .z x]=An x:=by kernel_rfl
theorem CB (x:Int) (hg:Sm BN x.natAbs):An x:=by refine ⟨hg,hg,?_⟩;rw [Hs.2 (show x.sign<0↔x<0 from KZ)];exact kS x
theorem CC:aoQ (cfg []) Am:=cf vr bp Tryz.func95 (by kernel_rfl) fun args g r hn hc hg hf=>by
 replace hc:fhOutInt args=some (g,r,hn):=hc;unfold fhOutInt at hc;split at hc
 ·obtain ⟨rfl,rfl,rfl⟩:=aq0 hc;cases as3 (CA _) (CB _ hg);exact ⟨rfl,by kernel_rfl,_,by assumption⟩
 ·cases hc
noncomputable def ZT:List Ctr:=WG::Am::WE
theorem CD:bd ZT:=⟨QQ,CC,vr⟩
def fhIn:CF
 | [.k .rq x]=>some (some (Sq BQ x),.k .q x,[])
 | _=>none
def aa7:Ctr:=⟨47,false,fhIn⟩
def ZU (x:Rat):bk:=⟨fun key_=>match key_ with | 1=>12 | _=>0,nL,nR,nU⟩
def aa8 (x:Rat):Prop:=Sm BN x.num.natAbs/\Sm BN x.den/\Sm BN x.den/\(Sm BZ x.num.natAbs/\Sm BZ (bW false x.den).natAbs/\bW false x.den≠0)/\(↑x.num:Rat)/(↑(bW false
 x.den):Rat)=x
theorem WJ (x:Rat):aw ZT [] (ZU x) Tryz.f47 (.k .q x) [.k .rq x]=aa8 x:=by kernel_rfl
theorem WK (x:Rat) (hg:Sq BQ x):aa8 x:=by
 have l:BQ<=BN:=by unfold BQ BN;omega
 have l2:BQ<=BZ:=by unfold BQ BZ;omega
 refine ⟨hg.num.le l,hg.den.le l,hg.den.le l,⟨hg.num.le l2,hg.den.le l2,?_⟩,over_self x⟩;have:=x.den_pos;show ((x.den:Nat):Int)≠0;omega
theorem WL:aoQ (cfg []) aa7:=cf CD bp Tryz.func47 (by kernel_rfl) fun args g r hn hc hg hf=>by
 replace hc:fhIn args=some (g,r,hn):=hc;unfold fhIn at hc;split at hc
 ·obtain ⟨rfl,rfl,rfl⟩:=aq0 hc;cases as3 (WJ _) (WK _ hg);exact ⟨rfl,by kernel_rfl,_,by assumption⟩
 ·cases hc
def fhOut:CF
 | [.k .q x]=>some (some (Sq BQ x),.k .rq x,[])
 | _=>none
def WM:Ctr:=⟨60,false,fhOut⟩
def WN (x:Rat):bk:=⟨fun key_=>match key_ with | 1=>4 | _=>0,nL,nR,nU⟩
def WO (x:Rat):Prop:=Sm BN x.num.natAbs/\Sq BQ x/\Sm BN x.den/\Tg x.num x.den/\mkRat x.num x.den=x
theorem QS (x:Rat):aw ZT [] (WN x) Tryz.f60 (.k .rq x) [.k .q x]=WO x:=by kernel_rfl
theorem QT (x:Rat) (hg:Sq BQ x):WO x:=by
 have l:BQ<=BN:=by unfold BQ BN;omega
 exact ⟨hg.num.le l,hg,hg.den.le l,⟨x.den_nz,x.reduced⟩,Gj x⟩
theorem QU:aoQ (cfg []) WM:=cf CD bp Tryz.func60 (by kernel_rfl) fun args g r hn hc hg hf=>by
 replace hc:fhOut args=some (g,r,hn):=hc;unfold fhOut at hc;split at hc
 ·obtain ⟨rfl,rfl,rfl⟩:=aq0 hc;cases as3 (QS _) (QT _ hg);exact ⟨rfl,by kernel_rfl,_,by assumption⟩
 ·cases hc
noncomputable def LH3:List Ctr:=WM::ZT
theorem Nv:bd LH3:=⟨QU,CD⟩
def fhSame:CF
 | [.k .q x,.k .rq y]=>some (some (Sq BQ x/\Sq BQ y),.k .bool (decide (x=y)),[])
 | _=>none
def CE:Ctr:=⟨22,false,fhSame⟩
def QV (x y:Rat):bk:=⟨nU,nL,nR,nU⟩
def CG (x y:Rat):Prop:=Sq BQ x/\bif decide ((↑(nl y.den):Int)=0) then anu (0:Int)/\(Sm BN x.num.natAbs/\Sm BN (↑(0:Int):Rat).num.natAbs)/\bif decide (bG x.num.natAbs
 (↑(0:Int):Rat).num.natAbs=0) then bif decide (x.num<0) == decide ((↑(0:Int):Rat).num<0) then (Sm BN x.den/\Sm BN (↑(0:Int) :
 Rat).den)/\decide (bG x.den (↑(0:Int):Rat).den=0)=decide (x=y) else false=decide (x=y) else false=decide (x=y) else (Sm BN x.num.natAbs/\Sm
 BN y.num.natAbs)/\bif decide (bG x.num.natAbs y.num.natAbs=0) then bif decide (x.num<0) == decide (y.num<0) then (Sm BN x.den/\Sm BN
 y.den)/\decide (bG x.den y.den=0)=decide (x=y) else false=decide (x=y) else false=decide (x=y)
theorem KC (x y:Rat):aw LH3 [] (QV x y) Tryz.f22 (.k .bool (decide (x=y))) [.k .q x,.k .rq y]=CG x y:=by kernel_rfl
theorem KD (x y:Rat) (hg:Sq BQ x/\Sq BQ y):CG x y:=by
 obtain ⟨h1,h2⟩:=hg;have l:BQ<=BN:=by unfold BQ BN;omega
 have hn:=(pC y.den).2 y.den_pos;unfold CG;refine ⟨h1,aoI (fun h=>by omega) fun _=>⟨⟨h1.num.le l,h2.num.le l⟩,aoI (fun h=>nC (fun h'=>⟨⟨h1.den.le l,h2.den.le l⟩,Hs.2 ⟨fun e=>?_,fun e=>?_⟩⟩) fun h'=>?_) fun h=>?_⟩⟩
 ·have e1:=nI.1 h;have e2:decide (x.num<0)=decide (y.num<0):=by simpa using h'
  refine QM ?_ (nI.1 e);rw [<-kS x.num, <- kS y.num,e1,e2]
 ·rw [e];exact nI.2 rfl
 ·refine (iR fun e=>?_).symm;rw [e] at h';simp at h'
 ·refine (iR fun e=>h ?_).symm;rw [e];exact nI.2 rfl
theorem xS:aoQ (cfg []) CE:=cf Nv bp Tryz.func22 (by kernel_rfl) fun args g r hn hc hg hf=>by
 replace hc:fhSame args=some (g,r,hn):=hc;unfold fhSame at hc;split at hc
 ·obtain ⟨rfl,rfl,rfl⟩:=aq0 hc;cases as3 (KC _ _) (KD _ _ hg);exact ⟨rfl,by kernel_rfl,_,by assumption⟩
 ·cases hc
noncomputable def LH4:List Ctr:=CE::LH3
theorem ZV:bd LH4:=⟨xS,Nv⟩
def fhIs:CF
 | [.k .q x,.k (.int .i64) n,.k (.int .i64) d]=>some (some (Sq BQ x/\anu n/\anu d/\d≠0),.k .bool (decide (x=(n:Rat)/(d:Rat))),[])
 | _=>none
def aa9:Ctr:=⟨51,false,fhIs⟩
def ZW (x:Rat) (n d:Int):bk:=⟨fun key_=>match key_ with | 1=>4 | _=>0,nL,nR,nU⟩
def aba (x:Rat) (n d:Int):Prop:=(anu n/\anu d/\d≠0)/\(Sq BQ x/\Sq BQ ((↑n:Rat)/(↑d:Rat)))/\decide (x=(↑n:Rat)/(↑d:Rat))=decide (x=(↑n:Rat)/(↑d:Rat))
theorem WQ (x:Rat) (n d:Int):aw LH4 [] (ZW x n d) Tryz.f51 (.k .bool (decide (x=(n:Rat)/(d:Rat)))) [.k .q x,.k (.int .i64) n,.k (.int .i64) d]=aba x n d:=by kernel_rfl
theorem WR (x:Rat) (n d:Int) (hg:Sq BQ x/\anu n/\anu d/\d≠0):aba x n d:=by obtain ⟨h1,⟨a1,a2⟩,⟨b1,b2⟩,h4⟩:=hg;exact ⟨⟨⟨a1,a2⟩,⟨b1,b2⟩,h4⟩,⟨h1,(Sq.ratio (k:=64) (Sm.lit (by omega)) (Sm.lit (by omega)) h4).le (by unfold BQ;omega)⟩,rfl⟩
theorem WS:aoQ (cfg []) aa9:=cf ZV bp Tryz.func51 (by kernel_rfl) fun args g r hn hc hg hf=>by
 replace hc:fhIs args=some (g,r,hn):=hc;unfold fhIs at hc;split at hc
 ·obtain ⟨rfl,rfl,rfl⟩:=aq0 hc;cases as3 (WQ _ _ _) (WR _ _ _ hg);exact ⟨rfl,by kernel_rfl,_,by assumption⟩
 ·cases hc
theorem QW {w w':World} (h:fm (fun _=>False) w w'):Ext w w':=⟨h.os,h.tape,h.output,h.size,fun i hi=>h.block i hi id⟩
theorem qV {ct:Ctr} (h:aoQ (cfg []) ct) {args:List AV} {g:Option Prop} {r:AV} (hc:ct.c args=some (g,r,[])) (hg:bt g) (hr:r.owns=false) {w:World} {vs:List Value} (ht:cK w) (hv:VL (fun _=>True) w dX args vs) :
  Calls Tryz.prog ct.f vs.toArray w (fun e w'=>∃v,e = .returned v/\Ext w w'/\aps (fun _=>True) w' dX r v):=by
 refine Calls.mono (h.ok args g r [] hc hg (fun _=>True) w vs ht hv) fun e w' ⟨v, β',h1,h2,h3⟩=>⟨v,h1,QW h2.fr,h3.apl (.aqK (Ext.refl w')) (fun _ _ _=>trivial) fun id hu=>?_⟩
 exact absurd hu (by rw [dp id hr];simp)
theorem aps.abb {ok:Nat->Prop} {w:World} {β:Bm} {x:Rat} {v:Value} (h:∃A c B d,v = .agg #[.bool (decide (x.num<0)),.slice A (nl x.num.natAbs) c,.slice B (nl x.den) d]/\bJ x.num.natAbs (.slice A (nl x.num.natAbs) c) w/\bJ x.den (.slice B (nl x.den) d) w):aps ok w β (.k .rq x) v:=by obtain ⟨A,c,B,d,rfl,h1,h2⟩:=h;exact ⟨_,⟨_,_,rfl,h1,h2⟩,rfl⟩
theorem aps.rqv {ok:Nat->Prop} {w:World} {β:Bm} {x:Rat} {v:Value} (h:aps ok w β (.k .rq x) v):∃A c B d,v = .agg #[.bool (decide (x.num<0)),.slice A (nl x.num.natAbs) c,.slice B (nl x.den) d]/\bJ x.num.natAbs (.slice A (nl x.num.natAbs) c) w/\bJ x.den (.slice B (nl x.den) d) w:=by obtain ⟨c,⟨u,v',rfl,h1,h2⟩,hv⟩:=h;obtain ⟨A,c,e1⟩:=h1.form;obtain ⟨B,d,e2⟩:=h2.form;subst e1;subst e2;exact ⟨A,c,B,d,hv,h1,h2⟩
def dd (j:Int):Int:=if j=3 then 2 else if j=4 then 3 else if j=5 then 4 else 1
theorem Nw (j:Int):1<=dd j/\dd j<=4:=by unfold dd;(repeat' split) <;> omega
def hR (n:Int):Rat:=((n%41-20:Int):Rat)/((dd (n.tdiv 41%6):Int):Rat)
theorem KE (n:Int):Sq 64 (hR n):=by have h:=Nw (n.tdiv 41%6);exact Sq.ratio (Sm.lit (by omega)) (Sm.lit (by omega)) (by omega)
theorem Nx {n:Int} (h:anu n):anu (n.tdiv 41):=by
 obtain ⟨h1,h2⟩:=h;rcases Int.lt_or_le n 0 with h0 | h0
 ·obtain ⟨m,rfl⟩:∃m:Int,n = -m:=⟨-n,by omega⟩
  rw [Int.neg_tdiv,Gq (by omega)];constructor <;> omega
 ·rw [Gq h0];constructor <;> omega
theorem mW {w w':World} (h:cK w) (e:Ext w w'):cK w':=Zg _ _ (.aqK e) h
theorem QX {w:World} {j:Int} (hj:0<=j/\j<6):(Instr.index 112 (.agg #[.int .i64 1,.int .i64 1,.int .i64 1,.int .i64 2,.int .i64 3,.int .i64 4]) (.int .i64 j)).run Tryz.prog w = .ok (.int .i64 (dd j)) w:=by
 obtain ⟨j,rfl⟩:=yr hj.1;have hs:(Tryz.prog.info? 2).map (·.size)=some 1:=by kernel_rfl
 obtain ⟨inf,hi,br⟩:=sD.1 hs;rcases j with _ | _ | _ | _ | _ | _ | j
 all_goals first | omega | simp [Instr.index,asIntOf,run_underlying Tryz.underlying112,run_underlying Tryz.underlying2,sizeOf,typeInfo,hi,br,part,dd,isAgg]
theorem ZX {w w':World} {g:Nat} {t:TypeId} {cs:List Value} (h:Blk w g t cs) (hb:∀v∈cs,bf v=true) (k:bS g w w'):Kp (fun _=>False) w w':=
 ⟨k.size,fun i hi ho=>by
  rcases ho with h' | ⟨j,v,h1,h2⟩
  ·exact h'.elim
  ·refine k.block i hi fun e=>?_;injection e with e
   subst e;rw [h.cell] at h1;rw [hb v (Aw h1)] at h2
   cases h2⟩
set_option maxRecDepth 20000 in
theorem KF (n:Int) (hn:anu n) (w:World) (ht:cK w):Calls Tryz.prog 36 #[.int .i64 n] w (fun e w'=>∃v,e = .returned v/\Ext w w'/\aps (fun _=>True) w' dX (.k .rq (hR n)) v):=by
 have HP1:Hid (∀W,cK W->Calls Tryz.prog 4 #[.int .i64 n,.int .i64 41] W (cg (.int .i64 (n%41)) W)):=aad fun W hT=>(qV nJ (args:=[.k (.int .i64) n,.k (.int .i64) (41:Int)]) (vs:=[.int .i64 n,.int .i64 41]) rfl ⟨hn,by decide,by decide⟩ rfl hT ⟨.mkInt _ _,.mkInt _ _,trivial⟩).mono fun e w' ⟨v,h1,h2,h3⟩=>by obtain rfl:=h3.int;exact ⟨h1,h2⟩
 have HP2:Hid (∀W,cK W->Calls Tryz.prog 4 #[.int .i64 (n.tdiv 41),.int .i64 6] W (cg (.int .i64 (n.tdiv 41%6)) W)):=aad fun W hT=>(qV nJ (args:=[.k (.int .i64) (n.tdiv 41),.k (.int .i64) (6:Int)]) (vs:=[.int .i64 (n.tdiv 41),.int .i64 6]) rfl ⟨Nx hn,by decide,by decide⟩ rfl hT ⟨.mkInt _ _,.mkInt _ _,trivial⟩).mono fun e w' ⟨v,h1,h2,h3⟩=>by obtain rfl:=h3.int;exact ⟨h1,h2⟩
 have hd:=Nw (n.tdiv 41%6);have q1:anu (n%41-20):=⟨by omega,by omega⟩
 have q2:anu (dd (n.tdiv 41%6)):=⟨by omega,by omega⟩
 have q3:dd (n.tdiv 41%6)≠0:=by omega
 have HO:Hid (∀W,cK W->Calls Tryz.prog 68 #[.int .i64 (n%41-20),.int .i64 (dd (n.tdiv 41%6))] W (fun e w'=>∃v,e = .returned v/\Ext W w'/\aps (fun _=>True) w' dX (.k .rq (hR n)) v)):=aad fun W hT=>qV xR (args:=[.k (.int .i64) (n%41-20),.k (.int .i64) (dd (n.tdiv 41%6))]) (vs:=[.int .i64 (n%41-20),.int .i64 (dd (n.tdiv 41%6))]) rfl ⟨q1,q2,q3⟩ rfl hT ⟨.mkInt _ _,.mkInt _ _,trivial⟩;have e1:IntKind.i64.wrap (n%41-20)=n%41-20:=by rw [IntKind.wrap_i64];omega
 have e2:IntKind.i64.wrap (n.tdiv 41)=n.tdiv 41:=by obtain ⟨h1,h2⟩:=Nx hn;rw [IntKind.wrap_i64];omega
 have HT:=aad ht;have h6:0<=n.tdiv 41%6/\n.tdiv 41%6<6:=by omega
 have H6:=aad h6;clear ht hd hn h6 q1 q2 q3;go_enter Tryz.func36,Tryz.ntmps36
 go_wp2_with fail
 have hx:Ext w (w.alloc (.cells #[.bool false,.slice none 0 0,.slice none 0 0] 32)):=(Ext.refl w).alloc _;have hr:=Blk.new w 32 [.bool false,.slice none 0 0,.slice none 0 0];have HX:=aad hx;have HR:=aad hr;clear hx hr;refine (HP1.out _ (mW HT.out HX.out)).mono ?_;rintro e w1 ⟨rfl,bU⟩;have HX1:=aad bU;clear bU;go_wp2_with fail
 refine (HP2.out _ (mW (mW HT.out HX.out) HX1.out)).mono ?_;rintro e w2 ⟨rfl,fP⟩;have mo:=aad fP;clear fP;go_wp2_with fail
 rw [QX H6.out];go_wp2_with fail
 refine (HO.out _ (mW (mW (mW HT.out HX.out) HX1.out) mo.out)).mono ?_;rintro e w3 ⟨v3,rfl,hx3,WD⟩;obtain ⟨A,c,B,d,rfl,k1,k2⟩:=WD.rqv;have bx:=((HR.out.ext HX1.out).ext mo.out).ext hx3;have r0:w3.cell? ⟨w.heap.size,0,none⟩=some (.bool false):=bx.cell 0;have r1:w3.cell? ⟨w.heap.size,1,none⟩=some (.slice none 0 0):=bx.cell 1;have r2:w3.cell? ⟨w.heap.size,2,none⟩=some (.slice none 0 0):=bx.cell 2;have f0:w3.frozen? ⟨w.heap.size,0,none⟩=false:=bx.frozen 0;have f1:w3.frozen? ⟨w.heap.size,1,none⟩=false:=bx.frozen 1;have f2:w3.frozen? ⟨w.heap.size,2,none⟩=false:=bx.frozen 2;have he:Ext w w3:=((HX.out.trans HX1.out).trans mo.out).trans hx3;have HE:=aad he;have Pl:=aad k1;have Zt:=aad k2;clear he k1 k2 hx3 WD;go_wp2
 have hb:=aad (bS.set (bS.set (bS.set (bS.refl w.heap.size w3) 0 (.bool (decide ((hR n).num<0)))) 1 (.slice A (nl (hR n).num.natAbs) c)) 2 (.slice B (nl (hR n).den) d));have kp:=aad (ZX bx (fun v hv=>by simp at hv;rcases hv with rfl | rfl <;> rfl) hb.out);refine bodyPost_ret (results_cell_row (p:=2) rfl _ _ w.heap.size 32 #[.bool (decide ((hR n).num<0)),.slice A (nl (hR n).num.natAbs) c,.slice B (nl (hR n).den) d] (0,0) _ rfl (((bx.set 0 _).set 1 _).set 2 _) Tryz.underlying32 rfl (by kernel_rfl)) rfl ⟨_,rfl,hb.out.ext HE.out (dz _),.abb ⟨A,c,B,d,rfl,ie Pl.out kp.out,ie Zt.out kp.out⟩⟩
def ZY:Ctr:=⟨36,false,on1 (.int .i64) (fun n=>some (anu n)) fun n=>.k .rq (hR n)⟩
theorem CH:aoQ (cfg []) ZY:=nB (enters_of Tryz.func36 (by kernel_rfl) rfl) (fun _=>rfl) fun F n u w hg ht hu=>by obtain rfl:=hu.int;exact (KF n hg w ht).mono fun e w' ⟨v,h1,h2,h3⟩=>⟨v,h1,h2,.abb h3.rqv⟩
def mkL {α:Type} (n:Nat) (f:Nat->α):List α:=(List.range n).map f
section
variable {α β:Type}
@[simp] theorem mX (n:Nat) (f:Nat->α):(mkL n f).length=n:=by simp [mkL]
theorem fW {n i:Nat} {f:Nat->α} (h:i<n) (d:α):(mkL n f).getD i d=f i:=by rw [cM,mkL,AE,KX h];rfl
theorem aAK {n i:Nat} {f:Nat->α} (h:n<=i) (d:α):(mkL n f).getD i d=d:=by rw [cM,nK (by simpa using h)];rfl
theorem tI (n:Nat) (f:Nat->α):mkL (n+1) f=mkL n f++[f n]:=by simp [mkL,Mq]
theorem bE {n:Nat} {f g:Nat->α} (h:∀i,i<n->f i=g i):mkL n f=mkL n g:=Mr fun i hi=>h i (CW.1 hi)
theorem fp {xs ys:List α} (d:α) (hl:xs.length=ys.length) (h:∀i,i<xs.length->xs.getD i d=ys.getD i d):xs=ys:=by
 refine LO fun i=>?_;rcases dw i xs.length with hi | hi
 ·have:=h i hi;rw [cM,cM,gA hi,gA (by omega)] at this;rw [gA hi,gA (by omega)];exact Hn some this
 ·rw [nK hi,nK (by omega)]
theorem ad3 (xs:List α) (d:α):mkL xs.length (fun i=>xs.getD i d)=xs:=fp d (by simp) fun i hi=>fW (by simpa using hi) d
theorem vt {xs:List α} {n:Nat} {f:Nat->α} (d:α) (hl:xs.length=n) (h:∀i,i<n->xs.getD i d=f i):xs=mkL n f:=fp d (by simpa using hl) fun i hi=>by rw [fW (by omega) d];exact h i (by omega)
theorem b8 (xs:List α) (i j:Nat) (x d:α) (h:i<xs.length):(xs.set i x).getD j d=if j=i then x else xs.getD j d:=by
 rw [cM,List.getElem?_set];by_cases e:i=j
 ·subst e;simp [h]
 ·rw [c6 e,c6 (fun e'=>e e'.symm),cM]
theorem mY {n i:Nat} {f:Nat->α} {x:α} (h:i<n):(mkL n f).set i x=mkL n (fun j=>if j=i then x else f j):=by
 cases n with
 | zero=>omega
 | succ n=>
  refine fp x (by simp) fun j hj=>?_;have hj:j<n+1:=by simpa using hj
  rw [b8 _ _ _ _ _ (by simpa using h),fW hj,fW hj]
theorem sv (n:Nat) (f:Nat->α) (g:α->β):(mkL n f).map g=mkL n (fun i=>g (f i)):=by simp [mkL,Function.comp_def]
theorem ahw {n k:Nat} {f:Nat->α} (h:k<=n):(mkL n f).take k=mkL k f:=by
 cases k with
 | zero=>rfl
 | succ k=>
  refine fp (f 0) (by simp;omega) fun i hi=>?_;have hi:i<k+1:=by simp at hi;omega
  rw [fW hi,cM,List.getElem?_take,eJ hi, <- cM,fW (by omega)]
theorem iO (n:Nat) (x:α):List.replicate n x=mkL n (fun _=>x):=
 fp x (by simp) fun i hi=>by
  have hi:i<n:=by simpa using hi
  rw [fW hi,cM,Gn,eJ hi];rfl
theorem uW {xs:List α} {i:Nat} (h:i<xs.length) (d:α):xs.take (i+1)=xs.take i++[xs.getD i d]:=by rw [List.take_add_one,gA h,cM,gA h];rfl
theorem ahx {xs:List α} {x:α} (h:x∈xs) (d:α):∃i,i<xs.length/\xs.getD i d=x:=by obtain ⟨i,hi⟩:=GK.1 h;exact ⟨i,(yq.1 hi).1,by rw [cM,hi];rfl⟩
theorem Ao {xs:List α} {i:Nat} (h:i<xs.length) (d:α):xs.getD i d∈xs:=by rw [cM,gA h];exact Ln h
theorem mZ {xs:List α} {i:Nat} (h:xs.length<=i) (d:α):xs.getD i d=d:=by rw [cM,nK h];rfl
theorem xT {xs ys:List α} {i:Nat} (h:i<xs.length) (d:α):(xs++ys).getD i d=xs.getD i d:=by rw [cM,nS h,cM]
theorem xU {xs ys:List α} {i:Nat} (h:xs.length<=i) (d:α):(xs++ys).getD i d=ys.getD (i-xs.length) d:=by rw [cM,uZ h,cM]
theorem kY (xs:List α) (k i:Nat) (d:α):(xs.drop k).getD i d=xs.getD (k+i) d:=by rw [cM,G5,cM]
theorem getD_take {xs:List α} {k i:Nat} (h:i<k) (d:α):(xs.take k).getD i d=xs.getD i d:=by rw [cM,List.getElem?_take,eJ h,cM]
theorem getD_map {xs:List α} {g:α->β} {i:Nat} (h:i<xs.length) (d:α) (e:β):(xs.map g).getD i e=g (xs.getD i d):=by rw [cM,AE,cM,gA h];rfl
end
def mkM (n m:Nat) (f:Nat->Nat->Rat):List (List Rat):=mkL n fun i=>mkL m (f i)
def el (M:List (List Rat)) (i j:Nat):Rat:=(M.getD i []).getD j 0
def sumN (f:Nat->Rat):Nat->Rat
 | 0=>0
 | n+1=>sumN f n+f n
theorem uv {n:Nat} {f g:Nat->Rat} (h:∀i,i<n->f i=g i):sumN f n=sumN g n:=by
 induction n with
 | zero=>rfl
 | succ n ih=>rw [sumN,sumN,ih fun i hi=>h i (by omega),h n (by omega)]
theorem Ny {n m i j:Nat} {f:Nat->Nat->Rat} (hi:i<n) (hj:j<m):el (mkM n m f) i j=f i j:=by unfold el mkM;rw [fW hi,fW hj]
theorem na {n m i:Nat} {f:Nat->Nat->Rat} (hi:i<n):(mkM n m f).getD i []=mkL m (f i):=fW hi _
@[simp] theorem ab9 (n m:Nat) (f:Nat->Nat->Rat):(mkM n m f).length=n:=mX ..
theorem avJ {n m:Nat} {f g:Nat->Nat->Rat} (h:∀i j,i<n->j<m->f i j=g i j):mkM n m f=mkM n m g:=bE fun i hi=>bE fun j hj=>h i j hi hj
def SL (k:Nat) (xs:List Rat):Prop:=∀i,Sq k (xs.getD i 0)
def SM (k:Nat) (M:List (List Rat)):Prop:=∀i,SL k (M.getD i [])
theorem SL.le {j k:Nat} {xs:List Rat} (h:SL j xs) (hk:j<=k):SL k xs:=fun i=>(h i).le hk
theorem SM.le {j k:Nat} {M:List (List Rat)} (h:SM j M) (hk:j<=k):SM k M:=fun i=>(h i).le hk
theorem SL.nil {k:Nat} (h:1<=k):SL k []:=fun i=>by rw [mZ (by simp)];exact Sq.zero k h
theorem SM.nil {k:Nat} (h:1<=k):SM k []:=fun i=>by rw [mZ (by simp)];exact SL.nil h
theorem SL.mk {k n:Nat} {f:Nat->Rat} (h:∀i,i<n->Sq k (f i)) (hk:1<=k):SL k (mkL n f):=fun i=>by
 rcases dw i n with hi | hi
 ·rw [fW hi];exact h i hi
 ·rw [aAK hi];exact Sq.zero k hk
theorem SM.mk {k n m:Nat} {f:Nat->Nat->Rat} (h:∀i j,i<n->j<m->Sq k (f i j)) (hk:1<=k):SM k (mkM n m f):=fun i=>by
 rcases dw i n with hi | hi
 ·rw [na hi];exact SL.mk (fun j hj=>h i j hi hj) hk
 ·unfold mkM;rw [aAK hi];exact SL.nil hk
theorem SM.el {k:Nat} {M:List (List Rat)} (h:SM k M) (i j:Nat):Sq k (el M i j):=h i j
theorem Sq.sumN {k n:Nat} {f:Nat->Rat} (h:∀i,i<n->Sq k (f i)):Sq ((k+1)*n+1) (sumN f n):=by
 induction n with
 | zero=>exact Sq.zero _ (by omega)
 | succ n ih=>have:=(ih fun i hi=>h i (by omega)).add (h n (by omega));exact this.le (by rw [Nat.mul_succ];omega)
def cE (l:List Int) (i:Nat):Rat:=if i<l.length then hR (l.getD i 0) else 0
theorem WT (l:List Int) (i:Nat):Sq 64 (cE l i):=by
 unfold cE;split
 ·exact KE _
 ·exact Sq.zero 64 (by omega)
theorem QY (l:List Int) (k j:Nat):cE (cutL l (some (if ((k:Nat):Int)<((l.length:Nat):Int) then ((k:Nat):Int) else ((l.length:Nat):Int))) none) j=cE l (k+j):=by
 by_cases h:k<l.length
 ·rw [eJ (by omega)];show cE (l.drop k) j=_;unfold cE;rw [Hr,kY];by_cases h':k+j<l.length
  ·rw [eJ (by omega),eJ h']
  ·rw [c6 (by omega),c6 h']
 ·rw [c6 (by omega)];show cE (l.drop l.length) j=_;unfold cE;rw [GV,c6 (by simp),c6 (by omega)]
theorem QZ {l:List Int} (h:∀i,anu (l.getD i 0)) (k:Int) (i:Nat):anu ((cutL l (some k) none).getD i 0):=by show anu ((l.drop k.toNat).getD i 0);rw [kY];exact h _
theorem awe {α:Type} {n:Nat} {f:Nat->α} {v:α} (h:v=f n):(mkL n f).append [v]=mkL (n+1) f:=by rw [h];exact (tI n f).symm
theorem qW {α:Type} {xs:List α} {i:Nat} {d:α} (h:i<xs.length):(xs.take i).append [xs.getD i d]=xs.take (i+1):=(uW h d).symm
noncomputable def LL1:List Ctr:=ZY::aa7::CE::xQ::[]
theorem Nz:bd LL1:=⟨CH,WL,xS,mV,trivial⟩
def fhRow:CF
 | [.k (.list (.int .i64)) l,.k (.int .i64) ((n:Nat):Int)]=>some (some ((∀i,anu (l.getD i 0))/\n<=1000000000000),.k (.list .rq) (mkL n (cE l)),[])
 | _=>none
def aiq:Ctr:=⟨8,false,fhRow⟩
def air (l:List Int) (n:Nat):bk:=⟨nU,fun key_=>match key_ with
 | 3=>some (⟨Nat,fun i=>[(0,.k (.list (.int .i64)) l),(1,.k (.int .i64) ((n:Nat):Int)),(5,.own 5 0 3),(6,.k (.int .i64) ((i:Nat):Int))],
 fun i=>[(5,.arr 32 .rq (mkL i (cE l)))],fun _ i=>i<=n,fun i=>n-i⟩) | _=>none,nR,nU⟩
def agF (l:List Int) (n:Nat):Prop:=∃(x0:Nat),((l=l/\(↑n:Int)=↑n/\(0:Int)=(↑x0:Int))/\mkL x0 (cE l)=[])/\x0<=n/\∀(x:Nat),x<=n->bif decide ((↑x:Int)<↑n)
 then l.length<=(9223372036854775807:Nat)->bif decide ((↑x:Int)<↑l.length) then (0<=(↑x:Int)/\(↑x:Int)<↑l.length)/\anu (l.getD
 (↑x:Int).toNat (0:Int))/\(mkL x (cE l)).length+[hR (l.getD (↑x:Int).toNat 0)].length<=LIM/\anu ((↑x:Int)+1)/\∃(x':Nat),((l=l /\
 (↑n:Int)=↑n/\(↑x:Int)+1=↑x')/\(mkL x (cE l)).append [hR (l.getD (↑x:Int).toNat 0)]=mkL x' (cE l))/\x'<=n/\n-x' <
 n-x else anu (0:Int)/\(mkL x (cE l)).length+[(↑(0:Int):Rat)].length<=LIM/\anu ((↑x:Int)+1)/\∃(x':Nat),((l=l/\(↑n:Int)=↑n
 /\ (↑x:Int)+1=↑x')/\(mkL x (cE l)).append [(↑(0:Int):Rat)]=mkL x' (cE l))/\x'<=n/\n-x'<n-x else mkL x (cE l)=mkL n (cE l)
theorem ahy (l:List Int) (n:Nat):aw LL1 [] (air l n) Tryz.f8 (.k (.list .rq) (mkL n (cE l))) [.k (.list (.int .i64)) l,.k (.int .i64) ((n:Nat):Int)]=agF l n:=by kernel_rfl
theorem ahz (l:List Int) (n:Nat) (hg:(∀i,anu (l.getD i 0))/\n<=1000000000000):agF l n:=by
 obtain ⟨hl,hn⟩:=hg;unfold agF;refine ⟨0,⟨⟨rfl,rfl,rfl⟩,rfl⟩,fh _,fun i hi=>aoI (fun h _=>aoI (fun h'=>⟨⟨by omega,h'⟩,hl i,by simp [LIM];omega,⟨by omega,by omega⟩,i+1,⟨⟨rfl,rfl,rfl⟩,awe ?_⟩,by omega,by omega⟩) fun h'=>⟨⟨by omega,by omega⟩,by simp [LIM];omega,⟨by omega,by omega⟩,i+1,⟨⟨rfl,rfl,rfl⟩,awe ?_⟩,by omega,by omega⟩) fun h=>?_⟩
 ·exact (eJ (by omega)).symm
 ·exact (c6 (by omega)).symm
 ·rw [show i=n by omega]
theorem ahA:aoQ (cfg []) aiq:=cf Nz bp Tryz.func8 (by kernel_rfl) fun args g r hn hc hg hf=>by
 replace hc:fhRow args=some (g,r,hn):=hc;unfold fhRow at hc;split at hc
 ·obtain ⟨rfl,rfl,rfl⟩:=aq0 hc;cases as3 (ahy _ _) (ahz _ _ hg);exact ⟨rfl,by kernel_rfl,_,by assumption⟩
 ·cases hc
noncomputable def LL2:List Ctr:=aiq::LL1
theorem NA:bd LL2:=⟨ahA,Nz⟩
def fhRows:CF
 | [.k (.list (.int .i64)) l,.k (.int .i64) ((n:Nat):Int),.k (.int .i64) ((m:Nat):Int)]=>some (some ((∀i,anu (l.getD i 0))/\n<=1000000/\m<=1000000),.k (.list (.list .rq)) (mkM n m fun i j=>cE l (i*m+j)),[])
 | _=>none
def aiX:Ctr:=⟨24,false,fhRows⟩
def ahB (l:List Int) (n m:Nat):bk:=⟨nU,fun key_=>match key_ with
 | 3=>some (⟨Nat,fun i=>[(0,.k (.list (.int .i64)) l),(1,.k (.int .i64) ((n:Nat):Int)),(2,.k (.int .i64) ((m:Nat):Int)),(7,.own 7 0 1),(8,.k (.int .i64) ((i:Nat):Int))],
 fun i=>[(7,.arr 34 (.list .rq) (mkM i m fun i j=>cE l (i*m+j)))],fun _ i=>i<=n,fun i=>n-i⟩) | _=>none,nR,nU⟩
def afx (l:List Int) (n m:Nat):Prop:=∃(x0:Nat),((l=l/\(↑n:Int)=↑n/\(↑m:Int)=↑m/\(0:Int)=(↑x0:Int))/\(mkM x0 m fun (i j:Nat)=>cE l (i*m+j))=[])/\x0<=n/\∀
 (x:Nat),let u2:=mkM x m fun (i j:Nat)=>cE l (i*m+j);
 let u1:=some (if (↑x:Int)*(↑m:Int)<↑l.length then (↑x:Int)*(↑m:Int) else (↑l.length:Int));x<=n->bif decide ((↑x:Int)<↑n) then
 l.length<=(9223372036854775807:Nat)->anu ((↑x:Int)*(↑m:Int))/\azR l.length u1 none none/\((∀(i:Nat),anu ((cutL l u1 none).getD i 0))/\m <=
 (1000000000000:Nat))/\u2.length+[mkL m (cE (cutL l u1 none))].length<=LIM/\anu ((↑x:Int)+1)/\∃(x':Nat),((l=l/\(↑n:Int)=↑n/\(↑m
 : Int)=(↑m:Int)/\(↑x:Int)+1=↑x')/\u2.append [mkL m (cE (cutL l u1 none))]=mkM x' m fun (i j:Nat)=>cE l (i*m+j))/\x'<=n/\n -
 x'<n-x else u2=mkM n m fun (i j:Nat)=>cE l (i*m+j)
theorem agG (l:List Int) (n m:Nat):aw LL2 [] (ahB l n m) Tryz.f24 (.k (.list (.list .rq)) (mkM n m fun i j=>cE l (i*m+j))) [.k (.list (.int .i64)) l,.k (.int .i64) ((n:Nat):Int),.k (.int .i64) ((m:Nat):Int)]=afx l n m:=by kernel_rfl
theorem agH (l:List Int) (n m:Nat) (hg:(∀i,anu (l.getD i 0))/\n<=1000000/\m<=1000000):afx l n m:=by
 obtain ⟨hl,hn,hm⟩:=hg;unfold afx;refine ⟨0,⟨⟨rfl,rfl,rfl,rfl⟩,rfl⟩,fh _,fun i hi=>aoI (fun h _=>?_) fun h=>?_⟩
 ·have hb:=EX (show i<=1000000 by omega) hm;have e:(i:Int)*(m:Int)=((i*m:Nat):Int):=(Dh i m).symm;rw [e];refine ⟨⟨by omega,by omega⟩,⟨by split <;> omega,by split <;> omega⟩,⟨QZ hl _,by omega⟩,by simp [LIM];omega,⟨by omega,by omega⟩,i+1,⟨⟨rfl,rfl,rfl,rfl⟩,awe ?_⟩,by omega,by omega⟩;exact bE fun j _=>QY l _ j
 ·rw [show i=n by omega]
theorem agI:aoQ (cfg []) aiX:=cf NA bp Tryz.func24 (by kernel_rfl) fun args g r hn hc hg hf=>by
 replace hc:fhRows args=some (g,r,hn):=hc;unfold fhRows at hc;split at hc
 ·obtain ⟨rfl,rfl,rfl⟩:=aq0 hc;cases as3 (agG _ _ _) (agH _ _ _ hg);exact ⟨rfl,by kernel_rfl,_,by assumption⟩
 ·cases hc
def fhInRow:CF
 | [.k (.list .rq) xs]=>some (some (SL BQ xs),.k (.list .q) xs,[])
 | _=>none
def xV:Ctr:=⟨13,false,fhInRow⟩
def KG (xs:List Rat):bk:=⟨nU,fun key_=>match key_ with
 | 3=>some (⟨Nat,fun i=>[(0,.k (.list .rq) xs),(3,.own 3 0 5),(4,.k (.int .i64) ((i:Nat):Int))],
 fun i=>[(3,.arr 51 .q (xs.take i))],fun _ i=>i<=xs.length,fun i=>xs.length-i⟩) | _=>none,nR,nU⟩
def xW (xs:List Rat):Prop:=∃(x0:Nat),((xs=xs/\(0:Int)=(↑x0:Int))/\List.take x0 xs=[])/\x0<=xs.length/\∀(x:Nat),x<=xs.length->xs.length<=LIM->bif decide ((↑x:Int) <
 (↑xs.length:Int)) then (0<=(↑x:Int)/\(↑x:Int)<↑xs.length)/\Sq BQ (xs.getD (↑x:Int).toNat 0)/\(List.take x xs).length+[xs.getD (↑x
 : Int).toNat 0].length<=LIM/\anu ((↑x:Int)+1)/\∃(x':Nat),((xs=xs/\(↑x:Int)+1=↑x')/\(List.take x xs).append [xs.getD
 (↑x:Int).toNat (0:Rat)]=List.take x' xs)/\x'<=xs.length/\xs.length-x'<xs.length-x else List.take x xs=xs
theorem F7 (xs:List Rat):aw LL2 [] (KG xs) Tryz.f13 (.k (.list .q) xs) [.k (.list .rq) xs]=xW xs:=by kernel_rfl
theorem F8 (xs:List Rat) (hg:SL BQ xs):xW xs:=by unfold xW;refine ⟨0,⟨⟨rfl,rfl⟩,rfl⟩,fh _,fun i hi hL=>aoI (fun h=>⟨⟨by omega,h⟩,hg i,by unfold LIM at hL ⊢;simp;omega,⟨by unfold LIM at hL;omega,by unfold LIM at hL;omega⟩,i+1,⟨⟨rfl,rfl⟩,qW (by omega)⟩,by omega,by omega⟩) fun h=>?_⟩;exact px (by omega)
theorem uw:aoQ (cfg []) xV:=cf NA bp Tryz.func13 (by kernel_rfl) fun args g r hn hc hg hf=>by
 replace hc:fhInRow args=some (g,r,hn):=hc;unfold fhInRow at hc;split at hc
 ·obtain ⟨rfl,rfl,rfl⟩:=aq0 hc;cases as3 (F7 _) (F8 _ hg);exact ⟨rfl,by kernel_rfl,_,by assumption⟩
 ·cases hc
noncomputable def Z2:List Ctr:=xV::LL2
theorem CI:bd Z2:=⟨uw,NA⟩
def fhInRows:CF
 | [.k (.list (.list .rq)) M]=>some (some (SM BQ M),.k (.list (.list .q)) M,[])
 | _=>none
def Ap:Ctr:=⟨9,false,fhInRows⟩
def F9 (M:LM):bk:=⟨nU,fun key_=>match key_ with
 | 3=>some (⟨Nat,fun i=>[(0,.k (.list (.list .rq)) M),(3,.own 3 0 1),(4,.k (.int .i64) ((i:Nat):Int))],
 fun i=>[(3,.arr 39 (.list .q) (M.take i))],fun _ i=>i<=M.length,fun i=>M.length-i⟩) | _=>none,nR,nU⟩
def tJ (M:LM):Prop:=∃(x0:Nat),((M=M/\(0:Int)=(↑x0:Int))/\List.take x0 M=[])/\x0<=M.length/\∀(x:Nat),x<=M.length->M.length<=LIM->bif decide ((↑x:Int)<(↑M.length
 : Int)) then (0<=(↑x:Int)/\(↑x:Int)<↑M.length)/\SL BQ (M.getD (↑x:Int).toNat [])/\(List.take x M).length+[M.getD (↑x:Int).toNat []].length
 <= LIM/\anu ((↑x:Int)+1)/\∃(x':Nat),((M=M/\(↑x:Int)+1=↑x')/\(List.take x M).append [M.getD (↑x:Int).toNat []]=List.take x'
 M)/\x'<=M.length/\M.length-x'<M.length-x else List.take x M=M
theorem CJ (M:LM):aw Z2 [] (F9 M) Tryz.f9 (.k (.list (.list .q)) M) [.k (.list (.list .rq)) M]=tJ M:=by kernel_rfl
theorem CK (M:LM) (hg:SM BQ M):tJ M:=by unfold tJ;refine ⟨0,⟨⟨rfl,rfl⟩,rfl⟩,fh _,fun i hi hL=>aoI (fun h=>⟨⟨by omega,h⟩,hg i,by unfold LIM at hL ⊢;simp;omega,⟨by unfold LIM at hL;omega,by unfold LIM at hL;omega⟩,i+1,⟨⟨rfl,rfl⟩,qW (by omega)⟩,by omega,by omega⟩) fun h=>?_⟩;exact px (by omega)
theorem CL:aoQ (cfg []) Ap:=cf CI bp Tryz.func9 (by kernel_rfl) fun args g r hn hc hg hf=>by
 replace hc:fhInRows args=some (g,r,hn):=hc;unfold fhInRows at hc;split at hc
 ·obtain ⟨rfl,rfl,rfl⟩:=aq0 hc;cases as3 (CJ _) (CK _ hg);exact ⟨rfl,by kernel_rfl,_,by assumption⟩
 ·cases hc
def fhSameRow:CF
 | [.k (.list .q) xs,.k (.list .rq) ys]=>some (some (SL BQ xs/\SL BQ ys),.k .bool (decide (xs=ys)),[])
 | _=>none
def xX:Ctr:=⟨19,false,fhSameRow⟩
def CM (xs ys:List Rat):bk:=⟨fun key_=>match key_ with | 6=>8 | _=>0,fun key_=>match key_ with
 | 4=>some (⟨Nat,fun i=>[(0,.k (.list .q) xs),(1,.k (.list .rq) ys),(5,.k (.int .i64) ((i:Nat):Int))],
 fun i=>[],fun _ i=>i<=xs.length/\xs.length=ys.length/\∀j,j<i->xs.getD j 0=ys.getD j 0,fun i=>xs.length-i⟩) | _=>none,nR,nU⟩
def qX (xs ys:List Rat):Prop:=xs.length<=LIM->ys.length<=LIM->bif !decide ((↑xs.length:Int)=↑ys.length) then false=decide (xs=ys) else ∃(x0:Nat),(xs=xs/\ys=ys/\(0:Int)
 = (↑x0:Int))/\(x0<=xs.length/\xs.length=ys.length/\∀(j:Nat),j<x0->xs.getD j 0=ys.getD j 0)/\∀(x:Nat),(x<=xs.length/\xs.length =
 ys.length/\∀(j:Nat),j<x->xs.getD j 0=ys.getD j 0)->xs.length<=LIM->bif decide ((↑x:Int)<↑xs.length) then (0<=(↑x:Int)
 /\ (↑x:Int)<↑xs.length)/\(0<=(↑x:Int)/\(↑x:Int)<↑ys.length)/\(Sq BQ (xs.getD (↑x:Int).toNat 0)/\Sq BQ (ys.getD (↑x :
 Int).toNat 0))/\bif !decide (xs.getD (↑x:Int).toNat 0=ys.getD (↑x:Int).toNat 0) then false=decide (xs=ys) else anu ((↑x:Int)+(1 :
 Int))/\∃(x':Nat),(xs=xs/\ys=ys/\(↑x:Int)+1=↑x')/\(x'<=xs.length/\xs.length=ys.length/\∀(j:Nat),j<x'->xs.getD j 0 =
 ys.getD j 0)/\xs.length-x'<xs.length-x else true=decide (xs=ys)
theorem yW (xs ys:List Rat):aw Z2 [] (CM xs ys) Tryz.f19 (.k .bool (decide (xs=ys))) [.k (.list .q) xs,.k (.list .rq) ys]=qX xs ys:=by kernel_rfl
theorem yX (xs ys:List Rat) (hg:SL BQ xs/\SL BQ ys):qX xs ys:=by
 obtain ⟨h1,h2⟩:=hg;unfold qX;intro hL _;unfold LIM at hL;refine dP (fun h=>(iR fun e=>h (by rw [e])).symm) fun h=>⟨0,⟨rfl,rfl,rfl⟩,⟨fh _,by omega,fun j hj=>by omega⟩,fun i ⟨hi,hlen,bB⟩ _=>aoI (fun h'=>⟨⟨by omega,h'⟩,⟨by omega,by omega⟩,⟨h1 i,h2 i⟩,dP (fun h3=>(iR fun e=>h3 (by rw [e])).symm) fun h3=>⟨⟨by omega,by omega⟩,i+1,⟨rfl,rfl,rfl⟩,⟨by omega,hlen,fun j hj=>?_⟩,by omega⟩⟩) fun h'=>(kJ ?_).symm⟩
 ·rcases dw j i with h4 | h4
  ·exact bB j h4
  ·rw [show j=i by omega];exact h3
 ·exact fp 0 hlen fun j hj=>bB j (by omega)
theorem yY:aoQ (cfg []) xX:=cf CI bp Tryz.func19 (by kernel_rfl) fun args g r hn hc hg hf=>by
 replace hc:fhSameRow args=some (g,r,hn):=hc;unfold fhSameRow at hc;split at hc
 ·obtain ⟨rfl,rfl,rfl⟩:=aq0 hc;cases as3 (yW _ _) (yX _ _ hg);exact ⟨rfl,by kernel_rfl,_,by assumption⟩
 ·cases hc
noncomputable def LL4:List Ctr:=xX::Z2
theorem Z3:bd LL4:=⟨yY,CI⟩
def fhSameRows:CF
 | [.k (.list (.list .q)) M,.k (.list (.list .rq)) N]=>some (some (SM BQ M/\SM BQ N),.k .bool (decide (M=N)),[])
 | _=>none
def pj:Ctr:=⟨18,false,fhSameRows⟩
def yZ (M N:LM):bk:=⟨fun key_=>match key_ with | 6=>8 | _=>0,fun key_=>match key_ with
 | 4=>some (⟨Nat,fun i=>[(0,.k (.list (.list .q)) M),(1,.k (.list (.list .rq)) N),(5,.k (.int .i64) ((i:Nat):Int))],
 fun i=>[],fun _ i=>i<=M.length/\M.length=N.length/\∀j,j<i->M.getD j []=N.getD j [],fun i=>M.length-i⟩) | _=>none,nR,nU⟩
def po (M N:LM):Prop:=M.length<=LIM->N.length<=LIM->bif !decide ((↑M.length:Int)=↑N.length) then false=decide (M=N) else ∃(x0:Nat),(M=M/\N=N/\(0:Int)=(↑x0 :
 Int))/\(x0<=M.length/\M.length=N.length/\∀(j:Nat),j<x0->M.getD j []=N.getD j [])/\∀(x:Nat),(x<=M.length/\M.length=N.length/\∀(j:Nat),j<x ->
 M.getD j []=N.getD j [])->M.length<=LIM->bif decide ((↑x:Int)<↑M.length) then (0<=(↑x:Int)/\(↑x:Int)<↑M.length)/\((0:Int) <=
 (↑x:Int)/\(↑x:Int)<↑N.length)/\(SL BQ (M.getD (↑x:Int).toNat [])/\SL BQ (N.getD (↑x:Int).toNat []))/\bif !decide (M.getD (↑x:Int).toNat [] =
 N.getD (↑x:Int).toNat []) then false=decide (M=N) else anu ((↑x:Int)+1)/\∃(x':Nat),(M=M/\N=N/\(↑x:Int)+1=↑x')/\(x' <=
 M.length/\M.length=N.length/\∀(j:Nat),j<x'->M.getD j []=N.getD j [])/\M.length-x'<M.length-x else true=decide (M=N)
theorem xY (M N:LM):aw LL4 [] (yZ M N) Tryz.f18 (.k .bool (decide (M=N))) [.k (.list (.list .q)) M,.k (.list (.list .rq)) N]=po M N:=by kernel_rfl
theorem xZ (M N:LM) (hg:SM BQ M/\SM BQ N):po M N:=by
 obtain ⟨h1,h2⟩:=hg;unfold po;intro hL _;unfold LIM at hL;refine dP (fun h=>(iR fun e=>h (by rw [e])).symm) fun h=>⟨0,⟨rfl,rfl,rfl⟩,⟨fh _,by omega,fun j hj=>by omega⟩,fun i ⟨hi,hlen,bB⟩ _=>aoI (fun h'=>⟨⟨by omega,h'⟩,⟨by omega,by omega⟩,⟨h1 i,h2 i⟩,dP (fun h3=>(iR fun e=>h3 (by rw [e])).symm) fun h3=>⟨⟨by omega,by omega⟩,i+1,⟨rfl,rfl,rfl⟩,⟨by omega,hlen,fun j hj=>?_⟩,by omega⟩⟩) fun h'=>(kJ ?_).symm⟩
 ·rcases dw j i with h4 | h4
  ·exact bB j h4
  ·rw [show j=i by omega];exact h3
 ·exact fp [] hlen fun j hj=>bB j (by omega)
theorem pq:aoQ (cfg []) pj:=cf Z3 bp Tryz.func18 (by kernel_rfl) fun args g r hn hc hg hf=>by
 replace hc:fhSameRows args=some (g,r,hn):=hc;unfold fhSameRows at hc;split at hc
 ·obtain ⟨rfl,rfl,rfl⟩:=aq0 hc;cases as3 (xY _ _) (xZ _ _ hg);exact ⟨rfl,by kernel_rfl,_,by assumption⟩
 ·cases hc
def dW (xs ys:List Rat):Rat:=sumN (fun k=>xs.getD k 0*ys.getD k 0) xs.length
def lM (xs ys:List Rat):Prop:=∃j k,SL j xs/\SL k ys/\(j+k+1)*xs.length+j+k+1<=BQ
theorem lM.at {xs ys:List Rat} (h:lM xs ys) (i:Nat):Sq BQ (xs.getD i 0)/\Sq BQ (ys.getD i 0)/\Sq BQ (xs.getD i 0*ys.getD i 0):=by obtain ⟨j,k,h1,h2,h3⟩:=h;exact ⟨(h1 i).le (by omega),(h2 i).le (by omega),((h1 i).mul (h2 i)).le (by omega)⟩
theorem lM.sum {xs ys:List Rat} (h:lM xs ys) {i:Nat} (hi:i<=xs.length):Sq BQ (sumN (fun k=>xs.getD k 0*ys.getD k 0) i):=by obtain ⟨j,k,h1,h2,h3⟩:=h;have h4:=ia (j+k+1) hi;exact (Sq.sumN (k:=j+k) (n:=i) fun t _=>(h1 t).mul (h2 t)).le (by omega)
theorem x4 {xs ys:List Rat} {j k:Nat} (h1:SL j xs) (h2:SL k ys):Sq ((j+k+1)*xs.length+1) (dW xs ys):=Sq.sumN fun t _=>(h1 t).mul (h2 t)
theorem gz {x y:Rat}:fS x y=0↔x=y:=by
 unfold fS;constructor
 ·intro h;split at h
  ·omega
  ·split at h
   ·assumption
   ·omega
 ·intro h;subst h;rw [c6 Rat.lt_irrefl,eJ rfl]
noncomputable def Q1:List Ctr:=xK::xM::xQ::Kv::Kx::[]
theorem aBY:bd Q1:=⟨pI,pJ,mV,Ai,Aj,trivial⟩
def ffDot:CF
 | [.k (.list .q) xs,.k (.list .q) ys]=>some (some (xs.length=ys.length->lM xs ys),T2 (.k .q (if xs.length=ys.length then dW xs ys else 0)) (.k .bool (decide (xs.length=ys.length))),[])
 | _=>none
def WU:Ctr:=⟨46,false,ffDot⟩
def WV (xs ys:List Rat):bk:=⟨fun key_=>match key_ with | 7=>7 | _=>0,fun key_=>match key_ with
 | 5=>some (⟨Nat,fun i=>[(1,.k (.list .q) ys),(4,.pt 4 0 5 0 0),(6,.pt 6 0 5 0 0),(15,.k (.list .q) xs),(16,.k (.int .i64) ((xs.length:Nat):Int)),(17,.k (.int .i64) ((i:Nat):Int))],
 fun i=>[(4,.box 51 (.k .q (0:Rat))),(6,.box 51 (.k .q (sumN (fun k=>xs.getD k 0*ys.getD k 0) i)))],fun _ i=>i<=xs.length/\xs.length=ys.length,fun i=>xs.length-i⟩) | _=>none,nR,nU⟩
def KH (xs ys:List Rat):Prop:=xs.length<=LIM->ys.length<=LIM->bif !decide ((↑xs.length:Int)=↑ys.length) then ((0:Nat)=(0:Nat)\/(0:Nat)≠(1:Nat)/\(Int.natAbs (0 :
 Int)).Coprime (0:Nat))/\(j6 (0:Int) (0:Nat)=if xs.length=ys.length then dW xs ys else (0:Rat))/\false=decide (xs.length=ys.length) else xs.length <=
 LIM->∃(x0:Nat),((ys=ys/\xs=xs/\(↑xs.length:Int)=↑xs.length/\(0:Int)=(↑x0:Int))/\(0:Rat)=(0:Rat)/\(0:Rat)=sumN (fun (k:Nat)=>
 xs.getD k 0*ys.getD k 0) x0)/\(x0<=xs.length/\xs.length=ys.length)/\∀(x:Nat),x<=xs.length/\xs.length=ys.length->bif decide ((↑x:Int) <
 (↑xs.length:Int)) then (0<=(↑x:Int)/\(↑x:Int)<↑xs.length)/\(0<=(↑x:Int)/\(↑x:Int)<↑ys.length)/\(Sq BQ (xs.getD (↑x :
 Int).toNat 0)/\Sq BQ (ys.getD (↑x:Int).toNat 0))/\(Sq BQ (sumN (fun (k:Nat)=>xs.getD k 0*ys.getD k 0) x)/\Sq BQ (xs.getD (↑x :
 Int).toNat 0*ys.getD (↑x:Int).toNat 0))/\((-9223372036854775808:Int)<=(↑x:Int)+1/\(↑x:Int)+1<=(9223372036854775807 :
 Int))/\∃(x':Nat),((ys=ys/\xs=xs/\(↑xs.length:Int)=↑xs.length/\(↑x:Int)+1=↑x')/\(0:Rat)=(0:Rat)/\sumN (fun (k:Nat)
 =>xs.getD k 0*ys.getD k 0) x+xs.getD (↑x:Int).toNat 0*ys.getD (↑x:Int).toNat 0=sumN (fun (k:Nat)=>xs.getD k 0 *
 ys.getD k 0) x')/\(x'<=xs.length/\xs.length=ys.length)/\xs.length-x'<xs.length-x else (sumN (fun (k:Nat)=>xs.getD k 0*ys.getD k (0 :
 Rat)) x=if xs.length=ys.length then dW xs ys else (0:Rat))/\true=decide (xs.length=ys.length)
theorem Q2 (xs ys:List Rat):aw Q1 [] (WV xs ys) Tryz.f46 (T2 (.k .q (if xs.length=ys.length then dW xs ys else 0)) (.k .bool (decide (xs.length=ys.length)))) [.k (.list .q) xs,.k (.list .q) ys]=KH xs ys:=by kernel_rfl
theorem Q3 (xs ys:List Rat) (hg:xs.length=ys.length->lM xs ys):KH xs ys:=by
 unfold KH;intro hL _;unfold LIM at hL;refine dP (fun h=>?_) fun h _=>?_
 ·have h:¬xs.length=ys.length:=fun e=>h (by rw [e]);rw [c6 h,iR h];exact ⟨.inl rfl,fN 0,rfl⟩
 ·have h:xs.length=ys.length:=by omega
  have hd:=hg h;refine ⟨0,⟨⟨rfl,rfl,rfl,rfl⟩,rfl,rfl⟩,⟨fh _,h⟩,fun i ⟨hi,_⟩=>aoI (fun h'=>⟨⟨by omega,h'⟩,⟨by omega,by omega⟩,⟨(hd.at i).1,(hd.at i).2.1⟩,⟨hd.sum hi,(hd.at i).2.2⟩,⟨by omega,by omega⟩,i+1,⟨⟨rfl,rfl,rfl,rfl⟩,rfl,rfl⟩,⟨by omega,h⟩,by omega⟩) fun h'=>?_⟩;rw [eJ h,kJ h,show i=xs.length by omega];exact ⟨rfl,rfl⟩
theorem Q4:aoQ (cfg []) WU:=cf aBY bp Tryz.func46 (by kernel_rfl) fun args g r hn hc hg hf=>by
 replace hc:ffDot args=some (g,r,hn):=hc;unfold ffDot at hc;split at hc
 ·obtain ⟨rfl,rfl,rfl⟩:=aq0 hc;cases as3 (Q2 _ _) (Q3 _ _ hg);exact ⟨rfl,by kernel_rfl,_,by assumption⟩
 ·cases hc
def fdDot:CF
 | [.k (.list .rq) xs,.k (.list .rq) ys]=>some (some (xs.length<=ys.length/\lM xs ys),.k .rq (dW xs ys),[])
 | _=>none
def WW:Ctr:=⟨23,false,fdDot⟩
def WX (xs ys:List Rat):bk:=⟨fun key_=>match key_ with | 5=>10 | _=>0,fun key_=>match key_ with
 | 3=>some (⟨Nat,fun i=>[(0,.k (.list .rq) xs),(1,.k (.list .rq) ys),(4,.pt 4 0 3 0 0),(5,.pt 5 0 3 0 0),(6,.k (.int .i64) ((i:Nat):Int))],
 fun i=>[(4,.box 32 (.agg (.cons (.k .ri (0:Int)) (.cons (.k .rn (0:Nat)) .nil)))),(5,.box 32 (.k .rq (sumN (fun k=>xs.getD k 0*ys.getD k 0) i)))],fun _ i=>i<=xs.length,fun i=>xs.length-i⟩) | _=>none,nR,nU⟩
def KI (xs ys:List Rat):Prop:=((-9223372036854775808:Int)<=(0:Int)/\(0:Int)<=(9223372036854775807:Int))/\∃(x0:Nat),((xs=xs/\ys=ys/\(0:Int)=(↑x0:Int))/\((0:Int)=(0 :
 Int)/\(0:Nat)=0)/\(↑(0:Int):Rat)=sumN (fun (k:Nat)=>xs.getD k 0*ys.getD k 0) x0)/\x0<=xs.length/\∀(x:Nat),x<=xs.length ->
 xs.length<=LIM->bif decide ((↑x:Int)<↑xs.length) then (0<=(↑x:Int)/\(↑x:Int)<↑xs.length)/\(0<=(↑x:Int)/\(↑x:Int) <
 (↑ys.length:Int))/\(Sq BQ (xs.getD (↑x:Int).toNat 0)/\Sq BQ (ys.getD (↑x:Int).toNat 0))/\(Sq BQ (sumN (fun (k:Nat)=>xs.getD k 0 *
 ys.getD k 0) x)/\Sq BQ (xs.getD (↑x:Int).toNat 0*ys.getD (↑x:Int).toNat 0))/\((-9223372036854775808:Int)<=(↑x:Int)+1/\(↑x
 : Int)+(1:Int)<=(9223372036854775807:Int))/\∃(x':Nat),((xs=xs/\ys=ys/\(↑x:Int)+1=↑x')/\((0:Int)=(0:Int)/\(0:Nat)=(0 :
 Nat))/\sumN (fun (k:Nat)=>xs.getD k 0*ys.getD k 0) x+xs.getD (↑x:Int).toNat 0*ys.getD (↑x:Int).toNat 0=sumN (fun (k :
 Nat)=>xs.getD k 0*ys.getD k 0) x')/\x'<=xs.length/\xs.length-x'<xs.length-x else sumN (fun (k:Nat)=>xs.getD k 0*ys.getD k (0 :
 Rat)) x=dW xs ys
theorem Q5 (xs ys:List Rat):aw Q1 [] (WX xs ys) Tryz.f23 (.k .rq (dW xs ys)) [.k (.list .rq) xs,.k (.list .rq) ys]=KI xs ys:=by kernel_rfl
theorem Q6 (xs ys:List Rat) (hg:xs.length<=ys.length/\lM xs ys):KI xs ys:=by obtain ⟨hl,hd⟩:=hg;unfold KI;refine ⟨by omega,0,⟨⟨rfl,rfl,rfl⟩,⟨rfl,rfl⟩,rfl⟩,fh _,fun i hi hL=>?_⟩;unfold LIM at hL;refine aoI (fun h'=>⟨⟨by omega,h'⟩,⟨by omega,by omega⟩,⟨(hd.at i).1,(hd.at i).2.1⟩,⟨hd.sum hi,(hd.at i).2.2⟩,⟨by omega,by omega⟩,i+1,⟨⟨rfl,rfl,rfl⟩,⟨rfl,rfl⟩,rfl⟩,by omega,by omega⟩) fun h'=>?_;rw [show i=xs.length by omega];rfl
theorem Q7:aoQ (cfg []) WW:=cf aBY bp Tryz.func23 (by kernel_rfl) fun args g r hn hc hg hf=>by
 replace hc:fdDot args=some (g,r,hn):=hc;unfold fdDot at hc;split at hc
 ·obtain ⟨rfl,rfl,rfl⟩:=aq0 hc;cases as3 (Q5 _ _) (Q6 _ _ hg);exact ⟨rfl,by kernel_rfl,_,by assumption⟩
 ·cases hc
def fK (M N:LM):Prop:=∃j k l,SM j M/\SM k N/\(∀i,(M.getD i []).length<=l)/\(j+k+1)*l+j+k+1<=BQ
theorem fK.at {M N:LM} (h:fK M N) (i t j:Nat):Sq BQ (el M i t)/\Sq BQ (el N t j)/\Sq BQ (el M i t*el N t j):=by obtain ⟨j',k,l,h1,h2,h3,h4⟩:=h;have a1:=h1.el i t;have a2:=h2.el t j;exact ⟨a1.le (by omega),a2.le (by omega),(a1.mul a2).le (by omega)⟩
theorem fK.sum {M N:LM} (h:fK M N) (i j:Nat) {t:Nat} (ht:t<=(M.getD i []).length):Sq BQ (sumN (fun k=>el M i k*el N k j) t):=by obtain ⟨j',k,l,h1,h2,h3,h4⟩:=h;have h5:=ia (j'+k+1) (ja ht (h3 i));exact (Sq.sumN (k:=j'+k) (n:=t) fun s _=>(h1.el i s).mul (h2.el s j)).le (by omega)
def bh (n x:Nat):List Nat:=mkL n fun t=>if t<x then t+1 else 0
def bD (x m:Nat) (F:Nat->Nat->Rat):LM:=[]::mkM x m F
theorem avK (n x:Nat):(bh n x).length=n:=mX ..
theorem K3 (x m:Nat) (F:Nat->Nat->Rat):(bD x m F).length=x+1:=by simp [bD]
theorem x8 (n:Nat):List.replicate n 0=bh n 0:=iO n 0
theorem As {n i:Nat} (h:i<n):(bh n i).set i (i+1)=bh n (i+1):=by
 unfold bh;rw [mY h];refine bE fun j _=>?_
 rcases yn j i with h | h | h
 ·rw [c6 (by omega),eJ h,eJ (by omega)]
 ·rw [eJ h,eJ (by omega),h]
 ·rw [c6 (by omega),c6 (by omega),c6 (by omega)]
theorem tK {n m:Nat} {F:Nat->Nat->Rat}:List.map (fun p=>(bD n m F).getD p []) (bh n n)=mkM n m F:=by
 unfold bh bD mkM;rw [sv];refine bE fun i hi=>?_
 rw [eJ hi,GC,fW hi]
def iP:Nat->Nat->Rat:=fun i c=>if i=c then 1 else 0
def aoH (M:LM):Bool:=match M with
 | []=>false
 | r::_=> !decide (r.length=0)&&M.all fun x=>decide (x.length=r.length)
theorem nM {M:LM} (hp:0<M.length) (hne:(M.getD 0 []).length≠0) (h:∀j,j<M.length->(M.getD j []).length=(M.getD 0 []).length):aoH M=true:=by
 cases M with
 | nil=>simp at hp
 | cons r rs=>
  have hne:r.length≠0:=by simpa using hne
  have:∀x∈(r::rs),x.length=r.length:=fun x hx=>by obtain ⟨i,hi⟩:=GK.1 hx;have hlt:=(yq.1 hi).1;have:=h i hlt;rw [cM,hi] at this;simpa using this
  unfold aoH;simp only [eM,CP,Gd,Au,decide_eq_false_iff_not];exact ⟨hne,this⟩
theorem ju {M:LM} (h:(M.getD 0 []).length=0\/∃i,i<M.length/\(M.getD i []).length≠(M.getD 0 []).length):aoH M=false:=by
 cases M with
 | nil=>rfl
 | cons r rs=>
  cases hb:aoH (r::rs) with
  | false=>rfl
  | true=>
   exfalso;unfold aoH at hb;simp only [eM,CP,Gd,Au,decide_eq_false_iff_not] at hb;obtain ⟨h1,h2⟩:=hb;rcases h with h | ⟨i,hi,hne⟩
   ·exact h1 (by simpa using h)
   ·refine hne ?_;rw [cM,gA hi];exact h2 _ (Ln hi)
def afM (M:LM):Nat:=(M.getD 0 []).length
theorem ba {M:LM} (h:aoH M=true):0<M.length/\afM M≠0/\∀i,i<M.length->(M.getD i []).length=afM M:=by
 cases M with
 | nil=>cases h
 | cons r rs=>unfold aoH at h;simp only [eM,CP,Gd,Au,decide_eq_false_iff_not] at h;exact ⟨by simp,h.1,fun i hi=>h.2 _ (Ao hi [])⟩
def atx (M:LM):Bool:=bif aoH M then decide (M.length=afM M) else false
theorem iQ {M:LM} (h:atx M=true):aoH M=true/\0<M.length/\afM M=M.length/\∀i,i<M.length->(M.getD i []).length=M.length:=by
 unfold atx at h
 cases hr:aoH M with
 | false=>rw [hr] at h;cases h
 | true=>rw [hr] at h;have h:decide (M.length=afM M)=true:=h;obtain ⟨h1,h2,h3⟩:=ba hr;have h4:=C8 h;exact ⟨rfl,h1,h4.symm,fun i hi=>by rw [h3 i hi,h4]⟩
theorem Lh {n m:Nat} (hn:0<n) (hm:0<m) (F:Nat->Nat->Rat):aoH (mkM n m F)=true:=
 nM (by simp;omega) (by rw [na hn];simp;omega) fun j hj=>by rw [ab9] at hj;rw [na hj,na hn];simp
theorem tM {n m:Nat} (hn:0<n) (F:Nat->Nat->Rat):afM (mkM n m F)=m:=by unfold afM;rw [na hn];simp
def bF (M N:LM):Bool:=bif aoH M then bif aoH N then decide (afM M=N.length) else false else false
def bz (b:Bool) (M:LM):LM:=bif b then M else []
def bu (b:Bool):Int:=bif b then 0 else 5
def mulM (M N:LM):LM:=mkM M.length (afM N) fun i j=>sumN (fun k=>el M i k*el N k j) (M.getD i []).length
theorem CS {M N:LM} (h:bF M N=true):aoH M=true/\aoH N=true/\afM M=N.length:=by
 unfold bF at h
 cases h1:aoH M <;> rw [h1] at h <;> try (cases h;done)
 cases h2:aoH N <;> rw [h2] at h <;> try (cases h;done)
 exact ⟨rfl,rfl,C8 h⟩
theorem en {b:Bool} {X Y:Prop} (h1:b=false->X) (h2:b=true->Y):cond (!b) X Y:=by
 cases b with
 | true=>exact h2 rfl
 | false=>exact h1 rfl
theorem Ax {M:LM} (h:Fits (.list (.list .q)) M):M.length<=LIM/\∀i,(M.getD i []).length<=LIM:=
 ⟨h.1,fun i=>by
  rcases dw i M.length with hi | hi
  ·exact (h.2 _ (Ao hi [])).1
  ·rw [mZ hi];exact fh _⟩
theorem bX {a b:Nat}:((a:Int)=(b:Int))↔a=b:=Int.ofNat_inj
theorem qY {M N:LM} (h1:aoH M=true) (h2:aoH N=true) (h3:afM M=N.length):bF M N=true:=by unfold bF;rw [h1,h2,kJ h3];rfl
noncomputable def LA1:List Ctr:=WU::[]
theorem NQ:bd LA1:=⟨Q4,trivial⟩
def fmRight:CF
 | [.k (.list (.list .q)) M]=>some (none,.k .bool (aoH M),[])
 | _=>none
def ya:Ctr:=⟨85,false,fmRight⟩
def Li (M:LM):bk:=⟨nU,fun key_=>match key_ with
 | 4=>some (⟨Nat,fun i=>[(0,.k (.list (.list .q)) M),(2,.k .bool false),(15,.k (.list (.list .q)) M),(16,.k (.int .i64) ((M.length:Nat):Int)),(17,.k (.int .i64) ((i:Nat):Int))],
 fun i=>[],fun _ i=>i<=M.length/\0<M.length/\((M.getD 0 []).length≠0)/\∀j,j<i->(M.getD j []).length=(M.getD 0 []).length,fun i=>M.length-i⟩) | _=>none,nR,nU⟩
def yb (M:LM):Prop:=
 let t1:=M.getD (Int.toNat (0:Int)) [];
 let t2:=M.getD (0:Nat) [];
 M.length<=LIM->bif decide ((↑M.length:Int)=0) then false=aoH M else ((0:Int)<=(0:Int)/\(0:Int)<(↑M.length:Int))/\(t1.length<=LIM->bif
 decide ((↑t1.length:Int)=0) then false=aoH M else M.length<=LIM->∃(x0:Nat),(M=M/\false=false/\M=M/\(↑M.length:Int)=↑M.length /\
 (0:Int)=(↑x0:Int))/\(x0<=M.length/\(0:Nat)<M.length/\t2.length≠(0:Nat)/\∀(j:Nat),j<x0->(M.getD j []).length=t2.length)/\∀(x:Nat),(x <=
 M.length/\(0:Nat)<M.length/\t2.length≠(0:Nat)/\∀(j:Nat),j<x->(M.getD j []).length=t2.length)->bif decide ((↑x:Int)<↑M.length) then ((0 :
 Int)<=(↑x:Int)/\(↑x:Int)<↑M.length)/\((M.getD (↑x:Int).toNat []).length<=LIM->((0:Int)<=(0:Int)/\(0:Int)<(↑M.length:Int))/\(t1.length <=
 LIM->bif !decide ((↑(M.getD (↑x:Int).toNat []).length:Int)=(↑t1.length:Int)) then false=aoH M else ((-9223372036854775808:Int)<=(↑x:Int)+1 /\
 (↑x:Int)+1<=(9223372036854775807:Int))/\∃(x':Nat),(M=M/\false=false/\M=M/\(↑M.length:Int)=↑M.length/\(↑x:Int)+1 =
 (↑x':Int))/\(x'<=M.length/\(0:Nat)<M.length/\t2.length≠(0:Nat)/\∀(j:Nat),j<x'->(M.getD j []).length=t2.length)/\M.length-x'<M.length-x))
 else true=aoH M)
theorem Gu (M:LM):aw LA1 [] (Li M) Tryz.f85 (.k .bool (aoH M)) [.k (.list (.list .q)) M]=yb M:=by kernel_rfl
theorem Gx (M:LM) (hf:cJ [.k (.list (.list .q)) M]):yb M:=by
 unfold yb;dsimp only;intro h0;unfold LIM at h0;refine aoI (fun h=>?_) fun h=>⟨by omega,fun h1=>aoI (fun h2=>?_) fun h2=>fun _=>⟨0,⟨rfl,rfl,rfl,rfl,rfl⟩,⟨by omega,by omega,?_,fun j hj=>by omega⟩,fun i ⟨hi,hp,hne,bB⟩=>aoI (fun h3=>⟨⟨by omega,h3⟩,fun _=>⟨by omega,fun _=>dP (fun h4=>?_) fun h4=>⟨by omega,i+1,⟨rfl,rfl,rfl,rfl,rfl⟩,⟨by omega,hp,hne,fun j hj=>?_⟩,by omega⟩⟩⟩) fun h3=>?_⟩⟩
 ·cases M with
  | nil=>rfl
  | cons=>simp at h;omega
 ·exact (ju (.inl (show (M.getD 0 []).length=0 by have h2:((((M.getD 0 []).length:Nat):Int))=0:=h2;omega))).symm
 ·have h2:¬((((M.getD 0 []).length:Nat):Int))=0:=h2;omega
 ·have h4:¬((((M.getD i []).length:Nat):Int))=(((M.getD 0 []).length:Nat):Int):=h4;exact (ju (.inr ⟨i,by omega,by omega⟩)).symm
 ·rcases dw j i with h | h
  ·exact bB j h
  ·have:j=i:=by omega
   subst this;have h4:((((M.getD j []).length:Nat):Int))=(((M.getD 0 []).length:Nat):Int):=h4;omega
 ·exact (nM hp hne fun j hj=>bB j (by omega)).symm
theorem uz:aoQ (cfg []) ya:=cf NQ bp Tryz.func85 (by kernel_rfl) fun args g r hn hc hg hf=>by
 replace hc:fmRight args=some (g,r,hn):=hc;unfold fmRight at hc;split at hc
 ·obtain ⟨rfl,rfl,rfl⟩:=aq0 hc;cases as3 (Gu _) (Gx _ hf);exact ⟨rfl,by kernel_rfl,_,by assumption⟩
 ·cases hc
noncomputable def LA2:List Ctr:=ya::LA1
theorem kx:bd LA2:=⟨uz,NQ⟩
def tN:CF
 | [.k (.list (.list .q)) M]=>some (none,.k .bool (atx M),[])
 | _=>none
def tO:Ctr:=⟨69,false,tN⟩
def Gy (M:LM):bk:=⟨nU,nL,nR,nU⟩
def tP (M:LM):Prop:=bif aoH M then M.length<=LIM->((0:Int)<=(0:Int)/\(0:Int)<(↑M.length:Int))/\((M.getD (Int.toNat (0:Int)) []).length<=LIM->decide ((↑M.length:Int) =
 (↑(M.getD (Int.toNat (0:Int)) []).length:Int))=atx M) else false=atx M
theorem CT (M:LM):aw LA2 [] (Gy M) Tryz.f69 (.k .bool (atx M)) [.k (.list (.list .q)) M]=tP M:=by kernel_rfl
theorem CU (M:LM) (hf:cJ [.k (.list (.list .q)) M]):tP M:=by
 unfold tP;refine nC (fun h _=>?_) fun h=>?_
 ·obtain ⟨h1,h2,h3⟩:=ba h;refine ⟨⟨by omega,by omega⟩,fun _=>?_⟩;unfold atx;rw [h];exact Hs.2 bX
 ·unfold atx;rw [h];rfl
theorem sA:aoQ (cfg []) tO:=cf kx bp Tryz.func69 (by kernel_rfl) fun args g r hn hc hg hf=>by
 replace hc:tN args=some (g,r,hn):=hc;unfold tN at hc;split at hc
 ·obtain ⟨rfl,rfl,rfl⟩:=aq0 hc;cases as3 (CT _) (CU _ hf);exact ⟨rfl,by kernel_rfl,_,by assumption⟩
 ·cases hc
noncomputable def abe:List Ctr:=LA2
theorem XH:bd abe:=kx
def fmApply:CF
 | [.k (.list (.list .q)) M,.k (.list .q) xs]=>some (some (∀i,i<M.length->lM (M.getD i []) xs),T2 (.k (.list .q) (bif aoH M then bif decide (afM M=xs.length) then mkL M.length fun i=>dW (M.getD i []) xs else [] else [])) (.k (.int .i64) (bif aoH M then bif decide (afM M=xs.length) then 0 else 5 else 5)),[])
 | _=>none
def akL:Ctr:=⟨45,false,fmApply⟩
def alR (M:LM) (xs:List Rat):bk:=⟨nU,fun key_=>match key_ with
 | 5=>some (⟨Nat,fun i=>[(1,.k (.list .q) xs),(6,.own 23 0 5),(24,.k (.list (.list .q)) M),(25,.k (.int .i64) ((M.length:Nat):Int)),(26,.k (.int .i64) ((i:Nat):Int))],
 fun i=>[(23,.arr 51 .q (mkL M.length fun t=>if t<i then dW (M.getD t []) xs else 0))],fun _ i=>i<=M.length/\∀j,j<M.length->(M.getD j []).length=xs.length,fun i=>M.length-i⟩) | _=>none,nR,nU⟩
def akM (M:LM) (xs:List Rat):Prop:=bif !aoH M then (bif aoH M then bif decide (afM M=xs.length) then mkL M.length fun (i:Nat)=>dW (M.getD i []) xs else [] else [])=[]/\(5:Int)=bif
 aoH M then bif decide (afM M=xs.length) then (0:Int) else (5:Int) else (5:Int) else ((0:Int)<=(0:Int)/\(0:Int)<(↑M.length:Int))/\((M.getD
 (Int.toNat (0:Int)) []).length<=LIM->xs.length<=LIM->bif !decide ((↑(M.getD (Int.toNat (0:Int)) []).length:Int)=(↑xs.length:Int)) then (bif aoH M then
 bif decide (afM M=xs.length) then mkL M.length fun (i:Nat)=>dW (M.getD i []) xs else [] else [])=[]/\(5:Int)=bif aoH M then bif decide (afM M =
 xs.length) then (0:Int) else (5:Int) else (5:Int) else M.length<=LIM->(0<=(↑M.length:Int)/\(↑M.length:Int)<=(↑M.length:Int)/\(↑M.length:Int) <=
 (1099511627776:Int))/\(M.length<=LIM->∃(x0:Nat),((xs=xs/\M=M/\(↑M.length:Int)=↑M.length/\(0:Int)=(↑x0:Int))/\List.replicate (↑M.length
 : Int).toNat (0:Rat)=mkL M.length fun (t:Nat)=>if t<x0 then dW (M.getD t []) xs else (0:Rat))/\(x0<=M.length/\∀(j:Nat),j<M.length->(M.getD j
 []).length=xs.length)/\∀(x:Nat),(x<=M.length/\∀(j:Nat),j<M.length->(M.getD j []).length=xs.length)->bif decide ((↑x:Int)<↑M.length) then
 (0<=(↑x:Int)/\(↑x:Int)<↑M.length)/\((M.getD (↑x:Int).toNat []).length=xs.length->∃(j:Nat),∃(k:Nat),(∀(i:Nat),Sq j ((M.getD (↑x :
 Int).toNat []).getD i 0))/\(∀(i:Nat),Sq k (xs.getD i 0))/\(j+k+1)*(M.getD (↑x:Int).toNat []).length+j+k+1<=BQ)/\((0
 : Int)<=(↑x:Int)/\(↑x:Int)<↑(mkL M.length fun (t:Nat)=>if t<x then dW (M.getD t []) xs else (0:Rat)).length)/\(↑x:Int).toNat<(mkL M.length
 fun (t:Nat)=>if t<x then dW (M.getD t []) xs else (0:Rat)).length/\((-9223372036854775808:Int)<=(↑x:Int)+1/\(↑x:Int)+1 <=
 (9223372036854775807:Int))/\∃(x':Nat),((xs=xs/\M=M/\(↑M.length:Int)=↑M.length/\(↑x:Int)+1=↑x')/\(mkL M.length fun (t :
 Nat)=>if t<x then dW (M.getD t []) xs else (0:Rat)).set (↑x:Int).toNat (if (M.getD (↑x:Int).toNat []).length=xs.length then dW (M.getD (↑x:Int).toNat
 []) xs else (0:Rat))=mkL M.length fun (t:Nat)=>if t<x' then dW (M.getD t []) xs else (0:Rat))/\(x'<=M.length/\∀(j:Nat),j<M.length->(M.getD j
 []).length=xs.length)/\M.length-x'<M.length-x else ((mkL M.length fun (t:Nat)=>if t<x then dW (M.getD t []) xs else (0:Rat))=bif aoH M then bif
 decide (afM M=xs.length) then mkL M.length fun (i:Nat)=>dW (M.getD i []) xs else [] else [])/\(0:Int)=bif aoH M then bif decide (afM M=xs.length)
 then (0:Int) else (5:Int) else (5:Int)))
theorem aly (M:LM) (xs:List Rat):aw abe [] (alR M xs) Tryz.f45 (T2 (.k (.list .q) (bif aoH M then bif decide (afM M=xs.length) then mkL M.length fun i=>dW (M.getD i []) xs else [] else [])) (.k (.int .i64) (bif aoH M then bif decide (afM M=xs.length) then 0 else 5 else 5))) [.k (.list (.list .q)) M,.k (.list .q) xs]=akM M xs:=by kernel_rfl
theorem alz (M:LM) (xs:List Rat) (hg:∀i,i<M.length->lM (M.getD i []) xs) (hf:cJ [.k (.list (.list .q)) M,.k (.list .q) xs]):akM M xs:=by
 obtain ⟨f1,f2⟩:=Ax hf.1;unfold LIM at f1;unfold akM;refine en (fun h=>?_) fun h=>?_
 ·rw [h];exact ⟨rfl,rfl⟩
 ·obtain ⟨h1,h2,h3⟩:=ba h;rw [h];refine ⟨⟨by omega,by omega⟩,fun _ _=>dP (fun h'=>?_) fun h' _=>?_⟩
  ·have h'':¬afM M=xs.length:=fun e=>h' (bX.2 e);rw [iR h''];exact ⟨rfl,rfl⟩
  ·have h':afM M=xs.length:=bX.1 h';rw [kJ h'];refine ⟨⟨by omega,by omega,by omega⟩,fun _=>⟨0,⟨⟨rfl,rfl,rfl,rfl⟩,?_⟩,⟨fh _,fun j hj=>by rw [h3 j hj,h']⟩,fun i ⟨hi,bB⟩=>aoI (fun h4=>?_) fun h4=>?_⟩⟩
   ·exact (iO _ _).trans (bE fun t _=>(c6 (by omega)).symm)
   ·have hi:i<M.length:=by omega
    refine ⟨⟨by omega,h4⟩,fun _=>hg i hi,⟨by omega,by simp;omega⟩,by simp;omega,⟨by omega,by omega⟩,i+1,⟨⟨rfl,rfl,rfl,rfl⟩,?_⟩,⟨by omega,bB⟩,by omega⟩;have e:=bB i hi;rw [show ((i:Nat):Int).toNat=i from rfl,eJ e,mY hi];refine bE fun t _=>?_;rcases yn t i with h5 | h5 | h5
    ·rw [c6 (by omega),eJ h5,eJ (by omega)]
    ·rw [eJ h5,eJ (by omega),h5]
    ·rw [c6 (by omega),c6 (by omega),c6 (by omega)]
   ·exact ⟨bE fun t ht=>eJ (by omega),rfl⟩
theorem akC:aoQ (cfg []) akL:=cf XH bp Tryz.func45 (by kernel_rfl) fun args g r hn hc hg hf=>by
 replace hc:fmApply args=some (g,r,hn):=hc;unfold fmApply at hc;split at hc
 ·obtain ⟨rfl,rfl,rfl⟩:=aq0 hc;cases as3 (aly _ _) (alz _ _ hg hf);exact ⟨rfl,by kernel_rfl,_,by assumption⟩
 ·cases hc
end Go.Proofs.YtleakmppfpkbjaaGreatDoor.AM
