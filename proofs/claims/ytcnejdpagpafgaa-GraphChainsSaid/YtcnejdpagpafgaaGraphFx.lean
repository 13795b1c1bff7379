/- A part of the proof that the named laws of this program answer true, whatever the input. -/
import Derived.Test.YtcnejdpagpafgaaGraphF0
import Derived.Test.YtcnejdpagpafgaaGraphF1
