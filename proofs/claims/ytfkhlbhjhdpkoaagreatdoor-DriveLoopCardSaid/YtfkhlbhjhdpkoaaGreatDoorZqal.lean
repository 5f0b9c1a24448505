/- The program's structures,as data. Written by dec3.py. -/
import Derived.Test.YtfkhlbhjhdpkoaaGreatDoorZqah
set_option linter.unusedVariables false
set_option linter.unusedSimpArgs false
namespace Go.Proofs.YtfkhlbhjhdpkoaaGreatDoor
open Go.RowKit
structure Source where
 Path:List UInt8
 Text:List UInt8
 deriving Inhabited,DecidableEq
def Jg(x:Source):D:=.ag [.v (str x.Path),.v (str x.Text)]
theorem JvT(x y:Source)(h:Jg x=Jg y):x=y:=by
 rcases x with⟨_,_⟩; rcases y with⟨_,_⟩
 simp only[Jg,D.ag.injEq,List.cons.injEq,and_true]at h
 obtain⟨h0,h1⟩:=h
 have h0:=VU _ _ h0
 have h1:=VU _ _ h1
 subst_vars
 rfl
theorem JtW(x y:Source)(h:J8 (Jg x)=J8 (Jg y)):x=y:=by
 rcases x with⟨_,_⟩; rcases y with⟨_,_⟩
 simp only[Jg,J8,Jcj,List.map_cons,List.map_nil,D.ag.injEq,List.cons.injEq,and_true]at h
 obtain⟨h0,h1⟩:=h
 have h0:=VU _ _ h0
 have h1:=VU _ _ h1
 subst_vars
 rfl
instance:DInj Jg:=⟨JtW,JvT⟩
structure Limits where
 Fuel:Int
 Out:Int
 Deep:Int
 deriving Inhabited,DecidableEq
def Ku(x:Limits):D:=.ag [.v (.int .i64 x.Fuel),.v (.int .i64 x.Out),.v (.int .i64 x.Deep)]
theorem JwB(x y:Limits)(h:Ku x=Ku y):x=y:=by
 rcases x with⟨_,_,_⟩; rcases y with⟨_,_,_⟩
 simp only[Ku,D.ag.injEq,List.cons.injEq,and_true]at h
 obtain⟨h0,h1,h2⟩:=h
 have h0:=JI _ _ h0
 have h1:=JI _ _ h1
 have h2:=JI _ _ h2
 subst_vars
 rfl
theorem JtV(x y:Limits)(h:J8 (Ku x)=J8 (Ku y)):x=y:=by
 rcases x with⟨_,_,_⟩; rcases y with⟨_,_,_⟩
 simp only[Ku,J8,Jcj,List.map_cons,List.map_nil,D.ag.injEq,List.cons.injEq,and_true]at h
 obtain⟨h0,h1,h2⟩:=h
 have h0:=JI _ _ h0
 have h1:=JI _ _ h1
 have h2:=JI _ _ h2
 subst_vars
 rfl
instance:DInj Ku:=⟨JtV,JwB⟩
structure Call where
 Name:List UInt8
 File:Int
 At:Int
 deriving Inhabited,DecidableEq
def Jl(x:Call):D:=.ag [.v (str x.Name),.v (.int .i64 x.File),.v (.int .i64 x.At)]
theorem Jgu(x y:Call)(h:Jl x=Jl y):x=y:=by
 rcases x with⟨_,_,_⟩; rcases y with⟨_,_,_⟩
 simp only[Jl,D.ag.injEq,List.cons.injEq,and_true]at h
 obtain⟨h0,h1,h2⟩:=h
 have h0:=VU _ _ h0
 have h1:=JI _ _ h1
 have h2:=JI _ _ h2
 subst_vars
 rfl
theorem JwP(x y:Call)(h:J8 (Jl x)=J8 (Jl y)):x=y:=by
 rcases x with⟨_,_,_⟩; rcases y with⟨_,_,_⟩
 simp only[Jl,J8,Jcj,List.map_cons,List.map_nil,D.ag.injEq,List.cons.injEq,and_true]at h
 obtain⟨h0,h1,h2⟩:=h
 have h0:=VU _ _ h0
 have h1:=JI _ _ h1
 have h2:=JI _ _ h2
 subst_vars
 rfl
theorem Jj4(x:Call):(Jl x).cells.all D.one=true:=rfl
instance:DInj Jl:=⟨JwP,Jgu⟩
structure Token where
 Kind:Int
 Text:List UInt8
 Space:Bool
 First:Bool
 File:Int
 At:Int
 End:Int
 Line:Int
 Hide:List (List UInt8)
 Calls:List Call
 Made:Int
 deriving Inhabited,DecidableEq
def Ja(x:Token):D:=.ag [.v (.int .i64 x.Kind),.v (str x.Text),.v (.bool x.Space),.v (.bool x.First),.v (.int .i64 x.File),.v (.int .i64 x.At),.v (.int .i64 x.End),.v (.int .i64 x.Line),.sl 1 (List.map dS x.Hide),.sl 3 (List.map Jl x.Calls),.v (.int .i64 x.Made)]
theorem JiV(x y:Token)(h:Ja x=Ja y):x=y:=by
 rcases x with⟨_,_,_,_,_,_,_,_,_,_,_⟩; rcases y with⟨_,_,_,_,_,_,_,_,_,_,_⟩
 simp only[Ja,D.ag.injEq,List.cons.injEq,and_true]at h
 obtain⟨h0,h1,h2,h3,h4,h5,h6,h7,h8,h9,h10⟩:=h
 have h0:=JI _ _ h0
 have h1:=VU _ _ h1
 have h2:=Xv _ _ h2
 have h3:=Xv _ _ h3
 have h4:=JI _ _ h4
 have h5:=JI _ _ h5
 have h6:=JI _ _ h6
 have h7:=JI _ _ h7
 have h8:=JaL (sz:=1) VU _ _ h8
 have h9:=JaL (sz:=3) Jgu _ _ h9
 have h10:=JI _ _ h10
 subst_vars
 rfl
theorem Jvs(x y:Token)(h:J8 (Ja x)=J8 (Ja y)):x=y:=by
 rcases x with⟨_,_,_,_,_,_,_,_,_,_,_⟩; rcases y with⟨_,_,_,_,_,_,_,_,_,_,_⟩
 simp only[Ja,J8,Jcj,List.map_cons,List.map_nil,D.ag.injEq,List.cons.injEq,and_true]at h
 obtain⟨h0,h1,h2,h3,h4,h5,h6,h7,h8,h9,h10⟩:=h
 have h0:=JI _ _ h0
 have h1:=VU _ _ h1
 have h2:=Xv _ _ h2
 have h3:=Xv _ _ h3
 have h4:=JI _ _ h4
 have h5:=JI _ _ h5
 have h6:=JI _ _ h6
 have h7:=JI _ _ h7
 have h8:=JaL (sz:=0) VU _ _ h8
 have h9:=JaL (sz:=0) Jgu _ _ h9
 have h10:=JI _ _ h10
 subst_vars
 rfl
theorem KL(x:Token):(Ja x).cells.all D.one=true:=rfl
instance:DInj Ja:=⟨Jvs,JiV⟩
structure Macro where
 Name:List UInt8
 Call:Bool
 Params:List (List UInt8)
 More:Bool
 Body:List Token
 deriving Inhabited,DecidableEq
def Jf(x:Macro):D:=.ag [.v (str x.Name),.v (.bool x.Call),.sl 1 (List.map dS x.Params),.v (.bool x.More),.sl 11 (List.map Ja x.Body)]
theorem Jw3(x y:Macro)(h:Jf x=Jf y):x=y:=by
 rcases x with⟨_,_,_,_,_⟩; rcases y with⟨_,_,_,_,_⟩
 simp only[Jf,D.ag.injEq,List.cons.injEq,and_true]at h
 obtain⟨h0,h1,h2,h3,h4⟩:=h
 have h0:=VU _ _ h0
 have h1:=Xv _ _ h1
 have h2:=JaL (sz:=1) VU _ _ h2
 have h3:=Xv _ _ h3
 have h4:=JaL (sz:=11) JiV _ _ h4
 subst_vars
 rfl
theorem JuU(x y:Macro)(h:J8 (Jf x)=J8 (Jf y)):x=y:=by
 rcases x with⟨_,_,_,_,_⟩; rcases y with⟨_,_,_,_,_⟩
 simp only[Jf,J8,Jcj,List.map_cons,List.map_nil,D.ag.injEq,List.cons.injEq,and_true]at h
 obtain⟨h0,h1,h2,h3,h4⟩:=h
 have h0:=VU _ _ h0
 have h1:=Xv _ _ h1
 have h2:=JaL (sz:=0) VU _ _ h2
 have h3:=Xv _ _ h3
 have h4:=JaL (sz:=0) JiV _ _ h4
 subst_vars
 rfl
theorem Jts(x:Macro):(Jf x).cells.all D.one=true:=rfl
instance:DInj Jf:=⟨JuU,Jw3⟩
structure Fault where
 Err:Int
 File:Int
 At:Int
 deriving Inhabited,DecidableEq
def JU(x:Fault):D:=.ag [.v (.int .i64 x.Err),.v (.int .i64 x.File),.v (.int .i64 x.At)]
theorem JwU(x y:Fault)(h:JU x=JU y):x=y:=by
 rcases x with⟨_,_,_⟩; rcases y with⟨_,_,_⟩
 simp only[JU,D.ag.injEq,List.cons.injEq,and_true]at h
 obtain⟨h0,h1,h2⟩:=h
 have h0:=JI _ _ h0
 have h1:=JI _ _ h1
 have h2:=JI _ _ h2
 subst_vars
 rfl
theorem Jwb(x y:Fault)(h:J8 (JU x)=J8 (JU y)):x=y:=by
 rcases x with⟨_,_,_⟩; rcases y with⟨_,_,_⟩
 simp only[JU,J8,Jcj,List.map_cons,List.map_nil,D.ag.injEq,List.cons.injEq,and_true]at h
 obtain⟨h0,h1,h2⟩:=h
 have h0:=JI _ _ h0
 have h1:=JI _ _ h1
 have h2:=JI _ _ h2
 subst_vars
 rfl
instance:DInj JU:=⟨Jwb,JwU⟩
structure Spliced where
 Text:List UInt8
 At:List Int
 deriving Inhabited,DecidableEq
def JM(x:Spliced):D:=.ag [.v (str x.Text),.sl 1 (List.map dI x.At)]
theorem JtX(x y:Spliced)(h:JM x=JM y):x=y:=by
 rcases x with⟨_,_⟩; rcases y with⟨_,_⟩
 simp only[JM,D.ag.injEq,List.cons.injEq,and_true]at h
 obtain⟨h0,h1⟩:=h
 have h0:=VU _ _ h0
 have h1:=JaL (sz:=1) JI _ _ h1
 subst_vars
 rfl
theorem JpZ(x y:Spliced)(h:J8 (JM x)=J8 (JM y)):x=y:=by
 rcases x with⟨_,_⟩; rcases y with⟨_,_⟩
 simp only[JM,J8,Jcj,List.map_cons,List.map_nil,D.ag.injEq,List.cons.injEq,and_true]at h
 obtain⟨h0,h1⟩:=h
 have h0:=VU _ _ h0
 have h1:=JaL (sz:=0) JI _ _ h1
 subst_vars
 rfl
instance:DInj JM:=⟨JpZ,JtX⟩
structure drive_group where
 on_:Bool
 had_:Bool
 last_:Bool
 at_:Token
 deriving Inhabited,DecidableEq
abbrev Ya1:=UInt8×Bool
abbrev YZ:=Int×Int×Int
abbrev YY:=List drive_group
abbrev YX:=List (List Token)
abbrev YW:=(Int×Int) ⊕ Int
abbrev YV:=List (List UInt8)
abbrev YU:=(Int×Int) ⊕ Unit
abbrev YT:=(List Token)×Int
abbrev YS:=Nat×(List Token)
abbrev YR:=(Int×Int) ⊕ Bool
abbrev YQ:=Int×(List UInt8)
abbrev YP:=Int ⊕ (List UInt8)
abbrev YO:=Int×(List Token)
abbrev YN:=(UInt8×Int) ⊕ Int
abbrev YM:=Int×Int×Int×Int
abbrev YL:=Int×List UInt8×Bool
abbrev YK:=Nat×List (List UInt8)
abbrev YJ:=Unit ⊕ YZ
abbrev YI:=Bool×Bool×Bool×Int
abbrev YH:=Int ⊕ YQ
abbrev YG:=(Int×Bool) ⊕ (Int×Bool)
abbrev YF:=Int×Int×YV
abbrev YE:=Int×(List UInt8)×Int×Bool
abbrev YD:=(List UInt8×Int) ⊕ List UInt8
abbrev YC:=YO ⊕ (List Token)
abbrev YB:=((List UInt8)×Int) ⊕ (List UInt8)
abbrev YA:=Int ⊕ YG
abbrev Yz:=Int×Int×Int×Int×(List Token)
abbrev Yy:=(List Token)×Int×Int×Int×Int
abbrev Yx:=Nat×Bool×Int×YY
abbrev Yw:=GR YM (Bool×Int)
abbrev Yv:=(List Token)×(List Int)×(List Macro)
abbrev Yu:=YO ⊕ ((List Token)×Fault)
abbrev Yt:=(Bool×Int×Int×(List Token)) ⊕ (List Token)
abbrev Ys:=(Bool×Bool×Int) ⊕ YI
abbrev Yr:=Int ⊕ Ys
abbrev Yq:=Int×List Macro×List Int×List Int×Int×List Token
abbrev Yp:=(List Token)×(List Int)×(List Macro)×Int×Int×Int
abbrev Yo:=(Int×(List UInt8)×(List UInt8)×(List Int)) ⊕ Spliced
abbrev Yn:=((List UInt8)×(List Int)×Int×(List UInt8)) ⊕ Spliced
abbrev Ym:=((List Token)×Int×Int×(List Token)) ⊕ (Macro×Fault)
abbrev Yl:=Int×(List Macro)×(List Int)×(List Int)×Int×(List Token)
abbrev Yk:=GR YM Yx
abbrev Yj:=((List UInt8)×Int×Int) ⊕ YB
abbrev Yi:=Int×Int×Int×Int×List Macro×List Int×List Int×Int×List Token
abbrev Yh:=Int×Int×Int×Int×(List Macro)×(List Int)×(List Int)×Int×(List Token)
abbrev Yg:=(Int×Nat×(List Token)×(List Token)) ⊕ (GR YM YT)
abbrev Yf:=Int×(List UInt8)×Bool×Bool×Int×Int×Int×Int×YV×(List Call)×Int×Nat
abbrev Ye:=Bool×Int×(List UInt8)×Bool×Bool×Int×Int×Int×Int×YV×(List Call)×Int
abbrev Yd:=GR Yi Yq
abbrev Yc:=GR Yh Yl
abbrev Yb:=(List Token)→(List Source)→Int→Int→Int→(List Macro)→(List Int)→(List Int)→Int→(List Token)→Option Yc
abbrev Ya:=(Nat×Int×Int×Int×(List Macro)×(List Int)×(List Int)×Int×YY×(List Token)×(List Token)) ⊕ Yc
def Jk(x:drive_group):D:=.ag [.v (.bool x.on_),.v (.bool x.had_),.v (.bool x.last_),.v (.int .i64 x.at_.Kind),.v (str x.at_.Text),.v (.bool x.at_.Space),.v (.bool x.at_.First),.v (.int .i64 x.at_.File),.v (.int .i64 x.at_.At),.v (.int .i64 x.at_.End),.v (.int .i64 x.at_.Line),.sl 1 (List.map dS x.at_.Hide),.sl 3 (List.map Jl x.at_.Calls),.v (.int .i64 x.at_.Made)]
theorem Jm7(x y:drive_group)(h:Jk x=Jk y):x=y:=by
 rcases x with⟨_,_,_,⟨_,_,_,_,_,_,_,_,_,_,_⟩⟩; rcases y with⟨_,_,_,⟨_,_,_,_,_,_,_,_,_,_,_⟩⟩
 simp only[Jk,D.ag.injEq,List.cons.injEq,and_true]at h
 obtain⟨h0,h1,h2,h3,h4,h5,h6,h7,h8,h9,h10,h11,h12,h13⟩:=h
 have h0:=Xv _ _ h0
 have h1:=Xv _ _ h1
 have h2:=Xv _ _ h2
 have h3:=JI _ _ h3
 have h4:=VU _ _ h4
 have h5:=Xv _ _ h5
 have h6:=Xv _ _ h6
 have h7:=JI _ _ h7
 have h8:=JI _ _ h8
 have h9:=JI _ _ h9
 have h10:=JI _ _ h10
 have h11:=JaL (sz:=1) VU _ _ h11
 have h12:=JaL (sz:=3) Jgu _ _ h12
 have h13:=JI _ _ h13
 subst_vars
 rfl
theorem JmH(x y:drive_group)(h:J8 (Jk x)=J8 (Jk y)):x=y:=by
 rcases x with⟨_,_,_,⟨_,_,_,_,_,_,_,_,_,_,_⟩⟩; rcases y with⟨_,_,_,⟨_,_,_,_,_,_,_,_,_,_,_⟩⟩
 simp only[Jk,J8,Jcj,List.map_cons,List.map_nil,D.ag.injEq,List.cons.injEq,and_true]at h
 obtain⟨h0,h1,h2,h3,h4,h5,h6,h7,h8,h9,h10,h11,h12,h13⟩:=h
 have h0:=Xv _ _ h0
 have h1:=Xv _ _ h1
 have h2:=Xv _ _ h2
 have h3:=JI _ _ h3
 have h4:=VU _ _ h4
 have h5:=Xv _ _ h5
 have h6:=Xv _ _ h6
 have h7:=JI _ _ h7
 have h8:=JI _ _ h8
 have h9:=JI _ _ h9
 have h10:=JI _ _ h10
 have h11:=JaL (sz:=0) VU _ _ h11
 have h12:=JaL (sz:=0) Jgu _ _ h12
 have h13:=JI _ _ h13
 subst_vars
 rfl
theorem JoZ(x:drive_group):(Jk x).cells.all D.one=true:=rfl
instance:DInj Jk:=⟨JmH,Jm7⟩
end Go.Proofs.YtfkhlbhjhdpkoaaGreatDoor
