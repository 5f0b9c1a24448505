/- The program's structures,as data. Written by dec3.py. -/
import Derived.Test.YtfkhlbhjhdpkoaaGreatDoorZoah
set_option linter.unusedVariables false
set_option linter.unusedSimpArgs false
namespace Go.Proofs.YtfkhlbhjhdpkoaaGreatDoor
open Go.RowKit
structure Source where
 Path:List UInt8
 Text:List UInt8
 deriving Inhabited,DecidableEq
def Jg(x:Source):D:=.ag [.v (str x.Path),.v (str x.Text)]
theorem JwP(x y:Source)(h:Jg x=Jg y):x=y:=by
 rcases x with⟨_,_⟩; rcases y with⟨_,_⟩
 simp only[Jg,D.ag.injEq,List.cons.injEq,and_true]at h
 obtain⟨h0,h1⟩:=h
 have h0:=V1 _ _ h0
 have h1:=V1 _ _ h1
 subst_vars
 rfl
theorem JuC(x y:Source)(h:Kf (Jg x)=Kf (Jg y)):x=y:=by
 rcases x with⟨_,_⟩; rcases y with⟨_,_⟩
 simp only[Jg,Kf,Jcx,List.map_cons,List.map_nil,D.ag.injEq,List.cons.injEq,and_true]at h
 obtain⟨h0,h1⟩:=h
 have h0:=V1 _ _ h0
 have h1:=V1 _ _ h1
 subst_vars
 rfl
instance:DInj Jg:=⟨JuC,JwP⟩
structure Limits where
 Fuel:Int
 Out:Int
 Deep:Int
 deriving Inhabited,DecidableEq
def KF(x:Limits):D:=.ag [.v (.int .i64 x.Fuel),.v (.int .i64 x.Out),.v (.int .i64 x.Deep)]
theorem Jxa(x y:Limits)(h:KF x=KF y):x=y:=by
 rcases x with⟨_,_,_⟩; rcases y with⟨_,_,_⟩
 simp only[KF,D.ag.injEq,List.cons.injEq,and_true]at h
 obtain⟨h0,h1,h2⟩:=h
 have h0:=JQ _ _ h0
 have h1:=JQ _ _ h1
 have h2:=JQ _ _ h2
 subst_vars
 rfl
theorem JuA(x y:Limits)(h:Kf (KF x)=Kf (KF y)):x=y:=by
 rcases x with⟨_,_,_⟩; rcases y with⟨_,_,_⟩
 simp only[KF,Kf,Jcx,List.map_cons,List.map_nil,D.ag.injEq,List.cons.injEq,and_true]at h
 obtain⟨h0,h1,h2⟩:=h
 have h0:=JQ _ _ h0
 have h1:=JQ _ _ h1
 have h2:=JQ _ _ h2
 subst_vars
 rfl
instance:DInj KF:=⟨JuA,Jxa⟩
structure Call where
 Name:List UInt8
 File:Int
 At:Int
 deriving Inhabited,DecidableEq
def Jm(x:Call):D:=.ag [.v (str x.Name),.v (.int .i64 x.File),.v (.int .i64 x.At)]
theorem Jgk(x y:Call)(h:Jm x=Jm y):x=y:=by
 rcases x with⟨_,_,_⟩; rcases y with⟨_,_,_⟩
 simp only[Jm,D.ag.injEq,List.cons.injEq,and_true]at h
 obtain⟨h0,h1,h2⟩:=h
 have h0:=V1 _ _ h0
 have h1:=JQ _ _ h1
 have h2:=JQ _ _ h2
 subst_vars
 rfl
theorem JxK(x y:Call)(h:Kf (Jm x)=Kf (Jm y)):x=y:=by
 rcases x with⟨_,_,_⟩; rcases y with⟨_,_,_⟩
 simp only[Jm,Kf,Jcx,List.map_cons,List.map_nil,D.ag.injEq,List.cons.injEq,and_true]at h
 obtain⟨h0,h1,h2⟩:=h
 have h0:=V1 _ _ h0
 have h1:=JQ _ _ h1
 have h2:=JQ _ _ h2
 subst_vars
 rfl
theorem JkA(x:Call):(Jm x).cells.all D.one=true:=rfl
instance:DInj Jm:=⟨JxK,Jgk⟩
structure Token where
 Kind:Int
 Text:List UInt8
 Space:Bool
 First:Bool
 File:Int
 At:Int
 End:Int
 Line:Int
 Hide:List (List UInt8)
 Calls:List Call
 Made:Int
 deriving Inhabited,DecidableEq
def Ja(x:Token):D:=.ag [.v (.int .i64 x.Kind),.v (str x.Text),.v (.bool x.Space),.v (.bool x.First),.v (.int .i64 x.File),.v (.int .i64 x.At),.v (.int .i64 x.End),.v (.int .i64 x.Line),.sl 1 (List.map dS x.Hide),.sl 3 (List.map Jm x.Calls),.v (.int .i64 x.Made)]
theorem Jjo(x y:Token)(h:Ja x=Ja y):x=y:=by
 rcases x with⟨_,_,_,_,_,_,_,_,_,_,_⟩; rcases y with⟨_,_,_,_,_,_,_,_,_,_,_⟩
 simp only[Ja,D.ag.injEq,List.cons.injEq,and_true]at h
 obtain⟨h0,h1,h2,h3,h4,h5,h6,h7,h8,h9,h10⟩:=h
 have h0:=JQ _ _ h0
 have h1:=V1 _ _ h1
 have h2:=Xw _ _ h2
 have h3:=Xw _ _ h3
 have h4:=JQ _ _ h4
 have h5:=JQ _ _ h5
 have h6:=JQ _ _ h6
 have h7:=JQ _ _ h7
 have h8:=Ja3 (sz:=1) V1 _ _ h8
 have h9:=Ja3 (sz:=3) Jgk _ _ h9
 have h10:=JQ _ _ h10
 subst_vars
 rfl
theorem JwJ(x y:Token)(h:Kf (Ja x)=Kf (Ja y)):x=y:=by
 rcases x with⟨_,_,_,_,_,_,_,_,_,_,_⟩; rcases y with⟨_,_,_,_,_,_,_,_,_,_,_⟩
 simp only[Ja,Kf,Jcx,List.map_cons,List.map_nil,D.ag.injEq,List.cons.injEq,and_true]at h
 obtain⟨h0,h1,h2,h3,h4,h5,h6,h7,h8,h9,h10⟩:=h
 have h0:=JQ _ _ h0
 have h1:=V1 _ _ h1
 have h2:=Xw _ _ h2
 have h3:=Xw _ _ h3
 have h4:=JQ _ _ h4
 have h5:=JQ _ _ h5
 have h6:=JQ _ _ h6
 have h7:=JQ _ _ h7
 have h8:=Ja3 (sz:=0) V1 _ _ h8
 have h9:=Ja3 (sz:=0) Jgk _ _ h9
 have h10:=JQ _ _ h10
 subst_vars
 rfl
theorem KU(x:Token):(Ja x).cells.all D.one=true:=rfl
instance:DInj Ja:=⟨JwJ,Jjo⟩
structure Macro where
 Name:List UInt8
 Call:Bool
 Params:List (List UInt8)
 More:Bool
 Body:List Token
 deriving Inhabited,DecidableEq
def Jf(x:Macro):D:=.ag [.v (str x.Name),.v (.bool x.Call),.sl 1 (List.map dS x.Params),.v (.bool x.More),.sl 11 (List.map Ja x.Body)]
theorem Jxz(x y:Macro)(h:Jf x=Jf y):x=y:=by
 rcases x with⟨_,_,_,_,_⟩; rcases y with⟨_,_,_,_,_⟩
 simp only[Jf,D.ag.injEq,List.cons.injEq,and_true]at h
 obtain⟨h0,h1,h2,h3,h4⟩:=h
 have h0:=V1 _ _ h0
 have h1:=Xw _ _ h1
 have h2:=Ja3 (sz:=1) V1 _ _ h2
 have h3:=Xw _ _ h3
 have h4:=Ja3 (sz:=11) Jjo _ _ h4
 subst_vars
 rfl
theorem JvQ(x y:Macro)(h:Kf (Jf x)=Kf (Jf y)):x=y:=by
 rcases x with⟨_,_,_,_,_⟩; rcases y with⟨_,_,_,_,_⟩
 simp only[Jf,Kf,Jcx,List.map_cons,List.map_nil,D.ag.injEq,List.cons.injEq,and_true]at h
 obtain⟨h0,h1,h2,h3,h4⟩:=h
 have h0:=V1 _ _ h0
 have h1:=Xw _ _ h1
 have h2:=Ja3 (sz:=0) V1 _ _ h2
 have h3:=Xw _ _ h3
 have h4:=Ja3 (sz:=0) Jjo _ _ h4
 subst_vars
 rfl
theorem Jtb(x:Macro):(Jf x).cells.all D.one=true:=rfl
instance:DInj Jf:=⟨JvQ,Jxz⟩
structure Fault where
 Err:Int
 File:Int
 At:Int
 deriving Inhabited,DecidableEq
def J3(x:Fault):D:=.ag [.v (.int .i64 x.Err),.v (.int .i64 x.File),.v (.int .i64 x.At)]
theorem Jxu(x y:Fault)(h:J3 x=J3 y):x=y:=by
 rcases x with⟨_,_,_⟩; rcases y with⟨_,_,_⟩
 simp only[J3,D.ag.injEq,List.cons.injEq,and_true]at h
 obtain⟨h0,h1,h2⟩:=h
 have h0:=JQ _ _ h0
 have h1:=JQ _ _ h1
 have h2:=JQ _ _ h2
 subst_vars
 rfl
theorem Jvs(x y:Fault)(h:Kf (J3 x)=Kf (J3 y)):x=y:=by
 rcases x with⟨_,_,_⟩; rcases y with⟨_,_,_⟩
 simp only[J3,Kf,Jcx,List.map_cons,List.map_nil,D.ag.injEq,List.cons.injEq,and_true]at h
 obtain⟨h0,h1,h2⟩:=h
 have h0:=JQ _ _ h0
 have h1:=JQ _ _ h1
 have h2:=JQ _ _ h2
 subst_vars
 rfl
instance:DInj J3:=⟨Jvs,Jxu⟩
structure Spliced where
 Text:List UInt8
 At:List Int
 deriving Inhabited,DecidableEq
def JT(x:Spliced):D:=.ag [.v (str x.Text),.sl 1 (List.map dI x.At)]
theorem Jux(x y:Spliced)(h:JT x=JT y):x=y:=by
 rcases x with⟨_,_⟩; rcases y with⟨_,_⟩
 simp only[JT,D.ag.injEq,List.cons.injEq,and_true]at h
 obtain⟨h0,h1⟩:=h
 have h0:=V1 _ _ h0
 have h1:=Ja3 (sz:=1) JQ _ _ h1
 subst_vars
 rfl
theorem Jq0(x y:Spliced)(h:Kf (JT x)=Kf (JT y)):x=y:=by
 rcases x with⟨_,_⟩; rcases y with⟨_,_⟩
 simp only[JT,Kf,Jcx,List.map_cons,List.map_nil,D.ag.injEq,List.cons.injEq,and_true]at h
 obtain⟨h0,h1⟩:=h
 have h0:=V1 _ _ h0
 have h1:=Ja3 (sz:=0) JQ _ _ h1
 subst_vars
 rfl
instance:DInj JT:=⟨Jq0,Jux⟩
structure drive_group where
 on_:Bool
 had_:Bool
 last_:Bool
 at_:Token
 deriving Inhabited,DecidableEq
abbrev Yc1:=UInt8×Bool
abbrev Yb1:=Int×Int×Int
abbrev Ya1:=List drive_group
abbrev YZ:=List (List Token)
abbrev YY:=(Int×Int) ⊕ Int
abbrev YX:=List (List UInt8)
abbrev YW:=(Int×Int) ⊕ Unit
abbrev YV:=(List Token)×Int
abbrev YU:=Nat×(List Token)
abbrev YT:=(Int×Int) ⊕ Bool
abbrev YS:=Int×(List UInt8)
abbrev YR:=Int ⊕ (List UInt8)
abbrev YQ:=Int×(List Token)
abbrev YP:=Bool×(List UInt8)
abbrev YO:=(UInt8×Int) ⊕ Int
abbrev YN:=Int×Int×Int×Int
abbrev YM:=Int×List UInt8×Bool
abbrev YL:=Nat×List (List UInt8)
abbrev YK:=Unit ⊕ Yb1
abbrev YJ:=(List UInt8)×Int×Int
abbrev YI:=Bool×Bool×Bool×Int
abbrev YH:=Int ⊕ YS
abbrev YG:=(Int×Bool) ⊕ (Int×Bool)
abbrev YF:=Int×Int×YX
abbrev YE:=Int×(List UInt8)×Int×Bool
abbrev YD:=(List UInt8×Int) ⊕ List UInt8
abbrev YC:=YQ ⊕ (List Token)
abbrev YB:=((List UInt8)×Int) ⊕ (List UInt8)
abbrev YA:=Int ⊕ YG
abbrev Yz:=Int×Int×Int×Int×(List Token)
abbrev Yy:=(List Token)×Int×Int×Int×Int
abbrev Yx:=Nat×Bool×Int×Ya1
abbrev Yw:=GR YN (Bool×Int)
abbrev Yv:=(List Token)×(List Int)×(List Macro)
abbrev Yu:=YQ ⊕ ((List Token)×Fault)
abbrev Yt:=(Bool×Int×Int×(List Token)) ⊕ (List Token)
abbrev Ys:=(Bool×Bool×Int) ⊕ YI
abbrev Yr:=Int ⊕ Ys
abbrev Yq:=Int×List Macro×List Int×List Int×Int×List Token
abbrev Yp:=(List Token)×(List Int)×(List Macro)×Int×Int×Int
abbrev Yo:=(Int×(List UInt8)×(List UInt8)×(List Int)) ⊕ Spliced
abbrev Yn:=((List UInt8)×(List Int)×Int×(List UInt8)) ⊕ Spliced
abbrev Ym:=((List Token)×Int×Int×(List Token)) ⊕ (Macro×Fault)
abbrev Yl:=Int×(List Macro)×(List Int)×(List Int)×Int×(List Token)
abbrev Yk:=GR YN Yx
abbrev Yj:=YJ ⊕ YB
abbrev Yi:=Int×Int×Int×Int×List Macro×List Int×List Int×Int×List Token
abbrev Yh:=Int×Int×Int×Int×(List Macro)×(List Int)×(List Int)×Int×(List Token)
abbrev Yg:=(Int×Nat×(List Token)×(List Token)) ⊕ (GR YN YV)
abbrev Yf:=Int×(List UInt8)×Bool×Bool×Int×Int×Int×Int×YX×(List Call)×Int×Nat
abbrev Ye:=Bool×Int×(List UInt8)×Bool×Bool×Int×Int×Int×Int×YX×(List Call)×Int
abbrev Yd:=GR Yi Yq
abbrev Yc:=GR Yh Yl
abbrev Yb:=(List Token)→(List Source)→Int→Int→Int→(List Macro)→(List Int)→(List Int)→Int→(List Token)→Option Yc
abbrev Ya:=(Nat×Int×Int×Int×(List Macro)×(List Int)×(List Int)×Int×Ya1×(List Token)×(List Token)) ⊕ Yc
def Jl(x:drive_group):D:=.ag [.v (.bool x.on_),.v (.bool x.had_),.v (.bool x.last_),.v (.int .i64 x.at_.Kind),.v (str x.at_.Text),.v (.bool x.at_.Space),.v (.bool x.at_.First),.v (.int .i64 x.at_.File),.v (.int .i64 x.at_.At),.v (.int .i64 x.at_.End),.v (.int .i64 x.at_.Line),.sl 1 (List.map dS x.at_.Hide),.sl 3 (List.map Jm x.at_.Calls),.v (.int .i64 x.at_.Made)]
theorem JnL(x y:drive_group)(h:Jl x=Jl y):x=y:=by
 rcases x with⟨_,_,_,⟨_,_,_,_,_,_,_,_,_,_,_⟩⟩; rcases y with⟨_,_,_,⟨_,_,_,_,_,_,_,_,_,_,_⟩⟩
 simp only[Jl,D.ag.injEq,List.cons.injEq,and_true]at h
 obtain⟨h0,h1,h2,h3,h4,h5,h6,h7,h8,h9,h10,h11,h12,h13⟩:=h
 have h0:=Xw _ _ h0
 have h1:=Xw _ _ h1
 have h2:=Xw _ _ h2
 have h3:=JQ _ _ h3
 have h4:=V1 _ _ h4
 have h5:=Xw _ _ h5
 have h6:=Xw _ _ h6
 have h7:=JQ _ _ h7
 have h8:=JQ _ _ h8
 have h9:=JQ _ _ h9
 have h10:=JQ _ _ h10
 have h11:=Ja3 (sz:=1) V1 _ _ h11
 have h12:=Ja3 (sz:=3) Jgk _ _ h12
 have h13:=JQ _ _ h13
 subst_vars
 rfl
theorem Jmg(x y:drive_group)(h:Kf (Jl x)=Kf (Jl y)):x=y:=by
 rcases x with⟨_,_,_,⟨_,_,_,_,_,_,_,_,_,_,_⟩⟩; rcases y with⟨_,_,_,⟨_,_,_,_,_,_,_,_,_,_,_⟩⟩
 simp only[Jl,Kf,Jcx,List.map_cons,List.map_nil,D.ag.injEq,List.cons.injEq,and_true]at h
 obtain⟨h0,h1,h2,h3,h4,h5,h6,h7,h8,h9,h10,h11,h12,h13⟩:=h
 have h0:=Xw _ _ h0
 have h1:=Xw _ _ h1
 have h2:=Xw _ _ h2
 have h3:=JQ _ _ h3
 have h4:=V1 _ _ h4
 have h5:=Xw _ _ h5
 have h6:=Xw _ _ h6
 have h7:=JQ _ _ h7
 have h8:=JQ _ _ h8
 have h9:=JQ _ _ h9
 have h10:=JQ _ _ h10
 have h11:=Ja3 (sz:=0) V1 _ _ h11
 have h12:=Ja3 (sz:=0) Jgk _ _ h12
 have h13:=JQ _ _ h13
 subst_vars
 rfl
theorem JpU(x:drive_group):(Jl x).cells.all D.one=true:=rfl
instance:DInj Jl:=⟨Jmg,JnL⟩
end Go.Proofs.YtfkhlbhjhdpkoaaGreatDoor
